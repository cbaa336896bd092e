/- The laws of chapter 17 (call), walked over the given program; no condition but what stands in each theorem: part G. -/
import Derived.Test.YtcnncdniibkjkaaDoorRE
set_option linter.unusedVariables false
set_option linter.unusedSimpArgs false
set_option maxRecDepth 100000
set_option maxHeartbeats 8000000
namespace Go.Proofs.YtcnncdniibkjkaaDoor
open Go Go.Sl Go.RowKit Go.Extern.Stop Go.Stop Go.Extern
theorem bytes_ (w : Int) (n : Nat) : Con Tryd.prog 68 [.int .u64 (n : Int), .int .i64 (8 * w)] [] [] (fun v L' I' => ∃ b1 : Nat, ∃ b2 : Nat, v = .func (.func 79) #[] #[.pointer (some ⟨b1, 0, none⟩), .pointer (some ⟨b2, 0, none⟩)] ∧ L' = [pt b1 [.int .i64 (8 * w)] 3, pt b2 [.int .u64 (n : Int)] 22] ∧ I' = []) := by
 refine fn_of Tryd.func68 rfl Tryd.ntmps68 (by kernel_rfl) rfl (fun C => ?_)
 refine c_seq (c_region ?_)
 refine st rfl (o_box (cs := [.int .u64 (n : Int)]) (T := 22) rfl rfl rfl rfl (fun _ => by kernel_rfl) (fun b1 => ?_))
 refine st rfl (o_box (cs := [.int .i64 (8 * w)]) (T := 3) rfl rfl rfl rfl (fun _ => by kernel_rfl) (fun b2 => ?_))
 refine s_y rfl (v := .nilFunc) (y_as rfl) rfl ?_
 refine s_nil (q_then (c_seq (c_region ?_)))
 refine s_y rfl (v := .func (.func 79) #[] #[.pointer (some ⟨b2, 0, none⟩), .pointer (some ⟨b1, 0, none⟩)]) (y_k rfl rfl (fun _ => by kernel_rfl)) rfl ?_
 refine s_y rfl (v := .func (.func 79) #[] #[.pointer (some ⟨b2, 0, none⟩), .pointer (some ⟨b1, 0, none⟩)]) (y_as rfl) rfl ?_
 refine s_nil (q_then (c_ret ?_))
 refine c_fin (I' := []) [0, 0] [] rfl (.tmp rfl .nil) rfl rfl rfl ?_
 exact ⟨b2, b1, rfl, rfl, rfl⟩
theorem bytes1_ (b1 : Nat) (b2 : Nat) (w : Int) (n : Nat) (hw : 1 ≤ w ∧ w ≤ 8) (hn : n < 18446744073709551616) : It Tryd.prog 79 [.pointer (some ⟨b1, 0, none⟩), .pointer (some ⟨b2, 0, none⟩)] [pt b1 [.int .i64 (8 * w)] 3, pt b2 [.int .u64 (n : Int)] 22] [] ((be w.toNat n).map fun y => [.int .u8 (y.toNat : Int)]) (fun L1 => L1 = [pt b1 [.int .i64 (8 * w)] 3, pt b2 [.int .u64 (n : Int)] 22]) := by
 intro lp SS XX L0 I0 h0a hY
 refine fn_of Tryd.func79 rfl Tryd.ntmps79 (by kernel_rfl) rfl (fun C => ?_)
 refine c_scope0 ?_
 refine c_seq ?_
 refine c_label ?_
 refine q_then (c_seq (c_region ?_))
 refine st rfl (o_ld 0 rfl rfl rfl Tryd.underlying3 rfl rfl ?_)
 refine s_y rfl (v := .int .i64 ((8 * w) - 8)) (y_sub (r := (8 * w) - 8) rfl rfl rfl (by omega)) rfl ?_
 refine s_y rfl (v := .int .i64 ((8 * w) - 8)) (y_as rfl) rfl ?_
 refine s_nil (q_then (c_block ?_))
 refine c_loop (ι := Nat × (List Atom) × (List Atom)) (fun (ka, Lx, Ix) => (ka ≤ w.toNat) ∧ (SS ka Lx Ix)) (fun (ka, Lx, Ix) => [(0, .func (.yield lp) #[] #[]), (2, .pointer (some ⟨b2, 0, none⟩)), (4, .int .i64 (8 * w - 8 * (ka : Int) - 8))]) (fun (ka, Lx, Ix) => ([pt b1 [.int .i64 (8 * w)] 3, pt b2 [.int .u64 (n : Int)] 22] ++ Lx)) (fun (ka, Lx, Ix) => (Ix ++ I0)) (fun (ka, Lx, Ix) => w.toNat - ka) (0, L0, I0) (show (0 ≤ w.toNat) ∧ (SS 0 L0 I0) from ⟨by first | omega | simp_all | (simp; done), h0a⟩) ((.cons rfl rfl (.cons rfl rfl (.cons rfl (show (.int .i64 ((8 * w) - 8) : Value) = .int .i64 (8 * w - 8 * (0 : Int) - 8) from by first | rfl | (congr 1; omega) | (congr 1; simp; done) | (congr 1; simp; omega)) .nil)))) rfl (by intro φ hφ; simp only [List.mem_append, List.mem_cons, List.not_mem_nil, or_false, false_or] at hφ ⊢; grind) ?_
 rintro ⟨ka, Lx, Ix⟩ ⟨hk, hS⟩
 show Ent 18 C [(0, .func (.yield lp) #[] #[]), (2, .pointer (some ⟨b2, 0, none⟩)), (4, .int .i64 (8 * w - 8 * (ka : Int) - 8))] [] ([pt b1 [.int .i64 (8 * w)] 3, pt b2 [.int .u64 (n : Int)] 22] ++ Lx) (Ix ++ I0) _
 refine c_seq (c_seq (c_region ?_))
 refine s_y rfl (v := .int .i64 (8 * w - 8 * (ka : Int) - 8)) (y_mv rfl) rfl ?_
 refine e_by (8 * w - 8 * (ka : Int) - 8 ≥ 0) (fun h1 => ?_) (fun h1 => ?_)
 ·
  refine s_y rfl (v := .bool true) (y_t (y_k (v := .bool (decide (8 * w - 8 * (ka : Int) - 8 ≥ 0))) rfl rfl (fun _ => by kernel_rfl)) h1) rfl ?_
  refine s_nil (q_then (c_true rfl (c_skip (q_then (c_seq (c_block (c_seq (c_region ?_))))))))
  refine s_y rfl (v := .func (.yield lp) #[] #[]) (y_mv rfl) rfl ?_
  refine st rfl (o_ld 1 rfl rfl rfl Tryd.underlying22 rfl rfl ?_)
  refine s_y rfl (v := .int .i64 (8 * w - 8 * (ka : Int) - 8)) (y_mv rfl) rfl ?_
  refine s_y rfl (v := .int .u64 ((n / 2 ^ ((8 * w - 8 * (ka : Int) - 8).toNat) : Nat) : Int)) (y_shr (a := n) (k := (8 * w - 8 * (ka : Int) - 8).toNat) rfl rfl (by omega) (by omega)) rfl ?_
  refine s_y rfl (v := .int .u8 ((u8of ((n / 2 ^ ((8 * w - 8 * (ka : Int) - 8).toNat) : Nat) : Int)).toNat : Int)) (y_cvi (r := ((u8of ((n / 2 ^ ((8 * w - 8 * (ka : Int) - 8).toNat) : Nat) : Int)).toNat : Int)) rfl Tryd.underlying22 Tryd.underlying5 (u8of_wrap _)) rfl ?_
  refine st rfl (o_yield [pt b1 [.int .i64 (8 * w)] 3, pt b2 [.int .u64 (n : Int)] 22] Lx Ix (hY ka _ _ _ (by rw [List.getElem?_map, be_at (by assumption)]; rfl) hS) rfl rfl rfl (by intro φ hφ; simp only [List.mem_append, List.mem_cons, List.not_mem_nil, or_false, false_or] at hφ ⊢; grind) rfl (fun bb1 Ly1 Iy1 hq1 => ?_))
  rcases hq1 with ⟨rfl, hq1⟩ | ⟨rfl, hq1⟩
  ·
   refine s_y rfl (v := .bool false) (y_k rfl rfl (fun _ => by kernel_rfl)) rfl ?_
   refine s_nil (q_then (c_false rfl (c_skip (q_block (q_then (c_region ?_))))))
   refine s_y rfl (v := .int .i64 (8 * w - 8 * (ka : Int) - 8)) (y_mv rfl) rfl ?_
   refine s_y rfl (v := .int .i64 ((8 * w - 8 * (ka : Int) - 8) - 8)) (y_sub (r := (8 * w - 8 * (ka : Int) - 8) - 8) rfl rfl rfl (by omega)) rfl ?_
   refine s_y rfl (v := .int .i64 ((8 * w - 8 * (ka : Int) - 8) - 8)) (y_as rfl) rfl ?_
   refine s_nil (q_then ?_)
   refine c_again (ka + 1, Ly1, Iy1) ?_ ?_ ?_ (by rfl) (by intro φ hφ; simp only [List.mem_append, List.mem_cons, List.not_mem_nil, or_false, false_or] at hφ ⊢; grind)
   · exact (show ((ka + 1) ≤ w.toNat) ∧ (SS (ka + 1) Ly1 Iy1) from ⟨by first | omega | simp_all | (simp; done), hq1⟩)
   · show w.toNat - (ka + 1) < w.toNat - ka; omega
   · exact (.cons rfl rfl (.cons rfl rfl (.cons rfl (show (.int .i64 ((8 * w - 8 * (ka : Int) - 8) - 8) : Value) = .int .i64 (8 * w - 8 * ((ka + 1) : Int) - 8) from by first | rfl | (congr 1; omega) | (congr 1; simp; done) | (congr 1; simp; omega)) .nil)))
  ·
   refine s_y rfl (v := .bool true) (y_k rfl rfl (fun _ => by kernel_rfl)) rfl ?_
   refine s_nil (q_then (c_true rfl ?_))
   refine c_exit ?_
   refine q_block_exit rfl ?_
   refine q_then_exit ?_
   refine q_then_exit ?_
   refine q_block_here ?_
   refine q_nj ?_
   refine c_fin_it (I' := Iy1) rfl rfl (by intro φ hφ; simp only [List.mem_append, List.mem_cons, List.not_mem_nil, or_false, false_or] at hφ ⊢; grind) ⟨_, Ly1, rfl, rfl, ?_⟩
   exact .inr ⟨ka, by rw [List.length_map, be_len]; omega, hq1⟩
 ·
  refine s_y rfl (v := .bool false) (y_f (y_k (v := .bool (decide (8 * w - 8 * (ka : Int) - 8 ≥ 0))) rfl rfl (fun _ => by kernel_rfl)) h1) rfl ?_
  refine s_nil (q_then (c_false rfl ?_))
  refine c_exit ?_
  refine q_then_exit ?_
  refine q_then_exit ?_
  refine q_block_here ?_
  refine q_nj ?_
  refine c_fin_it (I' := Ix) rfl rfl (by intro φ hφ; simp only [List.mem_append, List.mem_cons, List.not_mem_nil, or_false, false_or] at hφ ⊢; grind) ⟨_, Lx, rfl, rfl, ?_⟩
  left; (have e : ka = w.toNat := by omega); subst e; rw [List.length_map, be_len]; exact hS
end Go.Proofs.YtcnncdniibkjkaaDoor
