/- Contracts of package ring, its reference and its laws, walked over the given program; no condition but what stands in each: part E. -/
import Derived.Test.YtjcjbdhkajiaeaaDoorRD
set_option linter.unusedVariables false
set_option linter.unusedSimpArgs false
set_option maxRecDepth 100000
namespace Go.Proofs.YtjcjbdhkajiaeaaDoor
open Go Go.Sl Go.RowKit Go.Extern.Stop Go.Stop Go.Extern
theorem sizes1_ (k b : Nat) (max : Int) (A : Option Addr) (c : Nat) (l : List ByteArray) (hs : small l) : It Tryd.prog 43 [.pointer (some ⟨k, 0, none⟩)] [pt k [.pointer (some ⟨b, 0, none⟩)] 44, pt b [.int .i64 max, .slice A l.length c] 52] [rd strTy A c l] (l.map fun y => [.int .i64 ((y.size : Int) + 1)]) (fun L1 => L1 = [pt k [.pointer (some ⟨b, 0, none⟩)] 44, pt b [.int .i64 max, .slice A l.length c] 52]) := by
  intro lp SS XX L0 I0 h0 hY
  refine fn_of Tryd.func43 rfl Tryd.ntmps43 (by kernel_rfl) rfl (fun C => ?_)
  refine c_scope0 ?_
  refine c_seq ?_
  refine c_label ?_
  refine q_then ?_
  refine c_seq ?_
  refine c_region ?_
  refine st rfl (o_ld 0 rfl rfl rfl Tryd.underlying44 rfl rfl ?_)
  refine st rfl (o_y (v := .pointer (some ⟨b, 0, none⟩)) (y_k rfl rfl (fun _ => by kernel_rfl)) rfl rfl rfl ?_)
  refine st rfl (o_y (v := .pointer (some ⟨b, 0, none⟩)) (y_k rfl rfl (fun _ => by kernel_rfl)) rfl rfl rfl ?_)
  refine st rfl (o_y (v := .pointer (some ⟨b, 1, none⟩)) (y_k rfl rfl (fun _ => by kernel_rfl)) rfl rfl rfl ?_)
  refine st rfl (o_ld 1 rfl rfl rfl Tryd.underlying22 rfl rfl ?_)
  refine st rfl (o_y (v := .int .i64 (l.length : Int)) (y_k rfl rfl (fun _ => by kernel_rfl)) rfl rfl rfl ?_)
  refine st rfl (o_y (v := .int .i64 0) (y_mv rfl) rfl rfl rfl ?_)
  refine s_nil ?_
  refine q_then ?_
  refine c_block ?_
  refine c_loop (ι := Nat × (List Atom) × (List Atom)) (fun (ka, Lx, Ix) => (ka ≤ l.length) ∧ (SS ka Lx Ix)) (fun (ka, Lx, Ix) => [(0, .func (.yield lp) #[] #[]), (9, .slice A l.length c), (10, .int .i64 (l.length : Int)), (11, .int .i64 (ka : Int))]) (fun (ka, Lx, Ix) => ([pt k [.pointer (some ⟨b, 0, none⟩)] 44, pt b [.int .i64 max, .slice A l.length c] 52] ++ Lx)) (fun (ka, Lx, Ix) => ([rd strTy A c l] ++ Ix ++ I0)) (fun (ka, Lx, Ix) => l.length - ka) (0, L0, I0) (show (0 ≤ l.length) ∧ (SS 0 L0 I0) from ⟨by first | omega | simp_all | (simp; done), h0⟩) ((.cons rfl rfl (.cons rfl rfl (.cons rfl rfl (.cons rfl rfl .nil))))) rfl (by intro φ hφ; simp only [List.mem_append, List.mem_cons, List.not_mem_nil, or_false, false_or] at hφ ⊢; grind) ?_
  rintro ⟨ka, Lx, Ix⟩ ⟨hk, hS⟩
  show Ent 22 C [(0, .func (.yield lp) #[] #[]), (9, .slice A l.length c), (10, .int .i64 (l.length : Int)), (11, .int .i64 (ka : Int))] [] ([pt k [.pointer (some ⟨b, 0, none⟩)] 44, pt b [.int .i64 max, .slice A l.length c] 52] ++ Lx) ([rd strTy A c l] ++ Ix ++ I0) _
  refine c_seq ?_
  refine c_region ?_
  refine e_by ((ka : Int) < (l.length : Int)) (fun h1 => ?_) (fun h1 => ?_)
  ·
    refine st rfl (o_y (v := .bool true) (y_t (y_k (v := .bool (decide ((ka : Int) < (l.length : Int)))) rfl rfl (fun _ => by kernel_rfl)) h1) rfl rfl rfl ?_)
    refine s_nil ?_
    refine q_then ?_
    refine c_seq ?_
    refine c_true rfl ?_
    refine c_skip ?_
    refine q_then ?_
    refine c_seq ?_
    refine c_block ?_
    refine c_seq ?_
    refine c_region ?_
    refine e_at 0 ka rfl (by first | omega | (simp only [List.length_append, List.length_map, List.length_take, List.length_drop]; omega)) (fun b1 o1 x1 hA1 hx1 => ?_)
    refine st rfl (o_y (v := .pointer (some ⟨b1, o1 + ka * 1, none⟩)) (y_at (d := strTy) (l := l) ka hA1 rfl rfl rfl (rfl) (List.getElem?_eq_some_iff.1 hx1).1 Tryd.underlying22 (by kernel_rfl) (by kernel_rfl)) rfl rfl rfl ?_)
    refine st rfl (o_ldf 0 0 rfl rfl rfl Tryd.underlying9 rfl rfl ?_)
    refine st rfl (o_y (v := .string x1) (y_as rfl) rfl rfl rfl ?_)
    refine s_nil ?_
    refine q_then ?_
    refine c_seq ?_
    refine c_region ?_
    refine st rfl (o_y (v := .func (.yield lp) #[] #[]) (y_mv rfl) rfl rfl rfl ?_)
    refine st rfl (o_y (v := .string x1) (y_mv rfl) rfl rfl rfl ?_)
    refine st rfl (o_y (v := .int .i64 (x1.size : Int)) (y_k rfl rfl (fun _ => by kernel_rfl)) rfl rfl rfl ?_)
    refine st rfl (o_y (v := .int .i64 ((x1.size : Int) + 1)) (y_add (r := (x1.size : Int) + 1) rfl rfl rfl (by have := hs.1; have := small_at hs hx1; omega)) rfl rfl rfl ?_)
    refine st rfl (o_yield [pt k [.pointer (some ⟨b, 0, none⟩)] 44, pt b [.int .i64 max, .slice A l.length c] 52] Lx Ix (hY ka _ _ _ (by simp [hx1]) hS) rfl rfl rfl (by intro φ hφ; simp only [List.mem_append, List.mem_cons, List.not_mem_nil, or_false, false_or] at hφ ⊢; grind) rfl (fun bb1 Ly1 Iy1 hq1 => ?_))
    rcases hq1 with ⟨rfl, hq1⟩ | ⟨rfl, hq1⟩
    ·
      refine st rfl (o_y (v := .bool false) (y_k rfl rfl (fun _ => by kernel_rfl)) rfl rfl rfl ?_)
      refine s_nil ?_
      refine q_then ?_
      refine c_false rfl ?_
      refine c_skip ?_
      refine q_block ?_
      refine q_then ?_
      refine c_region ?_
      refine st rfl (o_y (v := .int .i64 ((ka : Int) + 1)) (y_add (r := (ka : Int) + 1) rfl rfl rfl (by have := hs.1; have := small_at hs hx1; omega)) rfl rfl rfl ?_)
      refine st rfl (o_y (v := .int .i64 ((ka : Int) + 1)) (y_mv rfl) rfl rfl rfl ?_)
      refine s_nil ?_
      refine q_then ?_
      refine c_again (ka + 1, Ly1, Iy1) ?_ ?_ ?_ (by rfl) (by intro φ hφ; simp only [List.mem_append, List.mem_cons, List.not_mem_nil, or_false, false_or] at hφ ⊢; grind)
      · exact (show ((ka + 1) ≤ l.length) ∧ (SS (ka + 1) Ly1 Iy1) from ⟨by first | omega | simp_all | (simp; done), hq1⟩)
      · show l.length - (ka + 1) < l.length - ka; omega
      · exact (.cons rfl rfl (.cons rfl rfl (.cons rfl rfl (.cons rfl (show (.int .i64 ((ka : Int) + 1) : Value) = .int .i64 ((ka + 1) : Int) from by first | rfl | (congr 1; omega) | (congr 1; simp; done) | (congr 1; simp; omega)) .nil))))
    ·
      refine st rfl (o_y (v := .bool true) (y_k rfl rfl (fun _ => by kernel_rfl)) rfl rfl rfl ?_)
      refine s_nil ?_
      refine q_then ?_
      refine c_true rfl ?_
      refine c_exit ?_
      refine q_block_exit rfl ?_
      refine q_then_exit ?_
      refine q_then_exit ?_
      refine q_block_here ?_
      refine q_nj ?_
      refine c_fin_it (I' := Iy1) rfl rfl (by intro φ hφ; simp only [List.mem_append, List.mem_cons, List.not_mem_nil, or_false, false_or] at hφ ⊢; grind) ⟨_, Ly1, rfl, rfl, ?_⟩
      exact .inr ⟨ka, by simp; omega, hq1⟩
  ·
    refine st rfl (o_y (v := .bool false) (y_f (y_k (v := .bool (decide ((ka : Int) < (l.length : Int)))) rfl rfl (fun _ => by kernel_rfl)) h1) rfl rfl rfl ?_)
    refine s_nil ?_
    refine q_then ?_
    refine c_seq ?_
    refine c_false rfl ?_
    refine c_exit ?_
    refine q_then_exit ?_
    refine q_then_exit ?_
    refine q_block_here ?_
    refine q_nj ?_
    refine c_fin_it (I' := Ix) rfl rfl (by intro φ hφ; simp only [List.mem_append, List.mem_cons, List.not_mem_nil, or_false, false_or] at hφ ⊢; grind) ⟨_, Lx, rfl, rfl, ?_⟩
    left; rw [List.length_map, show l.length = ka from by omega]; exact hS
end Go.Proofs.YtjcjbdhkajiaeaaDoor
