/- Contracts of package ring, its reference and its laws, walked over the given program; no condition but what stands in each: part F. -/
import Derived.Test.YtjcjbdhkajiaeaaDoorRE
set_option linter.unusedVariables false
set_option linter.unusedSimpArgs false
set_option maxRecDepth 100000
namespace Go.Proofs.YtjcjbdhkajiaeaaDoor
open Go Go.Sl Go.RowKit Go.Extern.Stop Go.Stop Go.Extern
theorem used_ (A : Option Addr) (c : Nat) (l : List ByteArray) (b : Nat) (max : Int) (hs : small l) : Con Tryd.prog 31 [.pointer (some ⟨b, 0, none⟩)] [pt b [.int .i64 max, .slice A l.length c] 52] [rd strTy A c l] (fun v L' I' => v = .int .i64 (takesN l : Int) ∧ L' = [pt b [.int .i64 max, .slice A l.length c] 52] ∧ I' = []) := by
  have hT := small_takes hs
  refine fn_of Tryd.func31 rfl Tryd.ntmps31 (by kernel_rfl) rfl (fun C => ?_)
  refine c_seq ?_
  refine c_region ?_
  refine st rfl (o_y (v := .int .i64 0) (y_as rfl) rfl rfl rfl ?_)
  refine s_nil ?_
  refine q_then ?_
  refine c_seq ?_
  refine c_region ?_
  refine st rfl (o_box (cs := [.int .i64 0]) (T := 3) rfl rfl rfl rfl (fun _ => by kernel_rfl) (fun b1 => ?_))
  refine st rfl (o_st 0 rfl rfl rfl rfl rfl (by kernel_rfl) (by kernel_rfl) rfl ?_)
  refine s_nil ?_
  refine q_then ?_
  refine c_seq ?_
  refine c_seq ?_
  refine c_region ?_
  refine st rfl (o_y (v := .pointer (some ⟨b, 0, none⟩)) (y_mv rfl) rfl rfl rfl ?_)
  refine st rfl (o_call [] [] (sizes_ b) rfl rfl rfl rfl rfl rfl (fun v L' I' hq1 => ?_))
  obtain ⟨k1, rfl, rfl, rfl⟩ := hq1
  refine s_nil ?_
  refine q_then ?_
  refine c_block ?_
  refine c_range (xs := l.map fun y => [.int .i64 ((y.size : Int) + 1)]) (fun k L I => ∃ n : Int, (n = (takesN (l.take k) : Int)) ∧ L = [pt b1 [.int .i64 n] 3] ∧ I = []) (fun _ _ _ _ => False) [0, 1, 0] [0] (sizes1_ k1 b max A c l hs) rfl rfl rfl ⟨0, by simp [takesN], rfl, rfl⟩ (by intro x hx; simp only [List.mem_map] at hx; obtain ⟨_, _, rfl⟩ := hx; rfl) rfl (fun C1 lp1 r1 k2 x1 Lx1 Ix1 hx1 hS1 => ?_) (fun bD1 La1 Lb1 Ib1 hf1 hS1 => ?_) (fun bD1 k2 cc La1 Lb1 Ib1 hk hf1 hX => ?_)
  ·
    obtain ⟨y1, hy1, rfl⟩ : ∃ y, l[k2]? = some y ∧ [.int .i64 ((y.size : Int) + 1)] = x1 := by simpa using hx1
    obtain ⟨n1, h1, rfl, rfl⟩ := hS1
    refine Ent.env (e' := [(0, .pointer (some ⟨b, 0, none⟩)), (2, .int .i64 0), (3, .pointer (some ⟨b1, 0, none⟩)), (5, .pointer (some ⟨b, 0, none⟩)), (6, .func (.func 43) #[] #[.pointer (some ⟨k1, 0, none⟩)]), (7, .int .i64 ((y1.size : Int) + 1))]) (.cons rfl rfl (.cons rfl rfl (.cons rfl rfl (.cons rfl rfl (.cons rfl rfl (.cons rfl rfl .nil)))))) ?_
    refine c_region ?_
    refine st rfl (o_y (v := .int .i64 ((y1.size : Int) + 1)) (y_as rfl) rfl rfl rfl ?_)
    refine s_nil ?_
    refine q_then ?_
    refine r_begin 0 rfl ?_
    refine c_block ?_
    refine c_region ?_
    refine st rfl (o_ld 1 rfl rfl rfl Tryd.underlying3 rfl rfl ?_)
    refine st rfl (o_y (v := .int .i64 ((y1.size : Int) + 1)) (y_mv rfl) rfl rfl rfl ?_)
    refine st rfl (o_y (v := .int .i64 (n1 + ((y1.size : Int) + 1))) (y_add (r := n1 + ((y1.size : Int) + 1)) rfl rfl rfl (by have h0 := takesN_le l k2; have h2 := small_at hs hy1; omega)) rfl rfl rfl ?_)
    refine st rfl (o_st 1 rfl rfl rfl rfl rfl (by kernel_rfl) (by kernel_rfl) rfl ?_)
    refine s_nil ?_
    refine q_block ?_
    refine r_end 0 [0] [] rfl rfl rfl ⟨(n1 + ((y1.size : Int) + 1)), by rw [takesN_take hy1]; omega, rfl, rfl⟩
  ·
    obtain rfl := hf1
    rw [List.length_map] at hS1
    obtain ⟨n2, h2, rfl, rfl⟩ := hS1
    refine Ent.env (e' := [(0, .pointer (some ⟨b, 0, none⟩)), (2, .int .i64 0), (3, .pointer (some ⟨b1, 0, none⟩)), (5, .pointer (some ⟨b, 0, none⟩)), (6, .func (.func 43) #[] #[.pointer (some ⟨k1, 0, none⟩)])]) (.cons rfl rfl (.cons rfl rfl (.cons rfl rfl (.cons rfl rfl (.cons rfl rfl .nil))))) ?_
    refine q_block ?_
    refine q_then ?_
    refine c_seq ?_
    refine c_region ?_
    refine st rfl (o_ld 3 rfl rfl rfl Tryd.underlying3 rfl rfl ?_)
    refine st rfl (o_y (v := .int .i64 n2) (y_as rfl) rfl rfl rfl ?_)
    refine s_nil ?_
    refine q_then ?_
    refine c_ret ?_
    obtain rfl : n2 = (takesN l : Int) := by rw [h2, List.take_length]
    refine e_mark 0 rfl ?_
    refine c_fin (I' := []) [2] [0] rfl (.tmp rfl .nil) rfl rfl rfl ?_
    exact ⟨rfl, rfl, rfl⟩
  ·
    exact hX.elim
end Go.Proofs.YtjcjbdhkajiaeaaDoor
