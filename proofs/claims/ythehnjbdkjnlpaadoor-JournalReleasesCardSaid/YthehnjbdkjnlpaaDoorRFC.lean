/- The laws of chapter 15 (journal), walked over the given program; no condition but what stands in each theorem: part FC. -/
import Derived.Test.YthehnjbdkjnlpaaDoorRFB
set_option linter.unusedVariables false
set_option linter.unusedSimpArgs false
set_option maxRecDepth 100000
set_option maxHeartbeats 8000000
namespace Go.Proofs.YthehnjbdkjnlpaaDoor
open Go Go.Sl Go.RowKit Go.Extern.Stop Go.Stop Go.Extern
theorem signs_ (b : Nat) : Con Tryd.prog 86 [.pointer (some ⟨b, 0, none⟩)] [] [] (fun v L' I' => ∃ k : Nat, v = .func (.func 88) #[] #[.pointer (some ⟨k, 0, none⟩)] ∧ L' = [pt k [.pointer (some ⟨b, 0, none⟩)] 142] ∧ I' = []) := by
 refine fn_of Tryd.func86 rfl Tryd.ntmps86 (by kernel_rfl) rfl (fun C => ?_)
 refine c_seq (c_region ?_)
 refine st rfl (o_box (cs := [.pointer (some ⟨b, 0, none⟩)]) (T := 142) rfl rfl rfl rfl (fun _ => by kernel_rfl) (fun b1 => ?_))
 refine s_y rfl (v := .nilFunc) (y_as rfl) rfl ?_
 refine s_nil (q_then (c_seq (c_region ?_)))
 refine s_y rfl (v := .func (.func 88) #[] #[.pointer (some ⟨b1, 0, none⟩)]) (y_k rfl rfl (fun _ => by kernel_rfl)) rfl ?_
 refine s_y rfl (v := .func (.func 88) #[] #[.pointer (some ⟨b1, 0, none⟩)]) (y_as rfl) rfl ?_
 refine s_nil (q_then (c_ret ?_))
 refine c_fin (I' := []) [0] [] rfl (.tmp rfl .nil) rfl rfl rfl ?_
 exact ⟨b1, rfl, rfl, rfl⟩
theorem sg_at {l m r : List UInt8} {c : UInt8} {ka j n : Nat} (h : l.drop ka = List.replicate n c ++ m) (hj : j < n) : l[ka + j]? = some c ∧ ka + j < l.length := by
  have h1 : (l.drop ka)[j]? = some c := by rw [h, List.getElem?_append_left (by simpa using hj)]; simp [hj]
  rw [List.getElem?_drop] at h1
  exact ⟨h1, (List.getElem?_eq_some_iff.1 h1).1⟩
theorem sg_drop {l m : List UInt8} {c : UInt8} {ka n : Nat} (h : l.drop ka = List.replicate n c ++ m) : l.drop (ka + n) = m := by
  rw [← List.drop_drop, h]; simp
theorem sg_le {l m : List UInt8} {c : UInt8} {ka n : Nat} (hk : ka ≤ l.length) (h : l.drop ka = List.replicate n c ++ m) : ka + n ≤ l.length := by
  have := congrArg List.length h
  simp at this; omega
theorem dropn_nil {α : Type} {l : List α} {k : Nat} (hk : k ≤ l.length) (h : l.drop k = []) : k = l.length := by
  have := congrArg List.length h
  simp at this; omega
theorem signs1_ (k : Nat) (b : Nat) (s : ByteArray) (ef : Addr) (hs : s.size ≤ 100000) : It2 Tryd.prog 88 [.pointer (some ⟨k, 0, none⟩)] [pt k [.pointer (some ⟨b, 0, none⟩)] 142, pt b [.string s, fefV ef false] 146] [cellsAt 2 0 [.iface 154 (.pointer (some ef))], errAt ef] ((sgnF (bl s)).1.map fun y => [.int .u8 (y.toNat : Int)]) (fun L1 => ∃ r, L1 = [pt k [.pointer (some ⟨b, 0, none⟩)] 142, pt b [.string r, fefV ef ((sgnF (bl s)).2)] 146]) (fun _ L1 => ∃ r q, L1 = [pt k [.pointer (some ⟨b, 0, none⟩)] 142, pt b [.string r, fefV ef q] 146]) := by
 intro lp SS XX L0 I0 h0a hY
 refine fn_of Tryd.func88 rfl Tryd.ntmps88 (by kernel_rfl) rfl (fun C => ?_)
 refine c_scope0 ?_
 refine c_seq ?_
 refine c_label ?_
 refine q_then (c_block ?_)
 refine c_loop (ι := Nat × ByteArray × (List Atom) × (List Atom)) (fun (ka, r, Lx, Ix) => (ka ≤ (sgnF (bl s)).1.length) ∧ ((sgnF (bl s)).1.drop ka = (sgnF (bl r)).1) ∧ ((sgnF (bl s)).2 = (sgnF (bl r)).2) ∧ (r.size ≤ 100000) ∧ (SS ka Lx Ix)) (fun (ka, r, Lx, Ix) => [(0, .func (.yield lp) #[] #[]), (1, .pointer (some ⟨k, 0, none⟩))]) (fun (ka, r, Lx, Ix) => ([pt k [.pointer (some ⟨b, 0, none⟩)] 142, pt b [.string r, fefV ef false] 146] ++ Lx)) (fun (ka, r, Lx, Ix) => ([cellsAt 2 0 [.iface 154 (.pointer (some ef))], errAt ef] ++ Ix ++ I0)) (fun (ka, r, Lx, Ix) => r.size) (0, s, L0, I0) (show (0 ≤ (sgnF (bl s)).1.length) ∧ ((sgnF (bl s)).1.drop 0 = (sgnF (bl s)).1) ∧ ((sgnF (bl s)).2 = (sgnF (bl s)).2) ∧ (s.size ≤ 100000) ∧ (SS 0 L0 I0) from ⟨by first | omega | simp_all | (simp; done), rfl, rfl, by first | omega | simp_all | (simp; done), h0a⟩) ((.cons rfl rfl (.cons rfl rfl .nil))) rfl (by intro φ hφ; simp only [List.mem_append, List.mem_cons, List.not_mem_nil, or_false, false_or] at hφ ⊢; grind) ?_
 rintro ⟨ka, r, Lx, Ix⟩ ⟨hk, hg1, hg2, hr, hS⟩
 show Ent 29 C [(0, .func (.yield lp) #[] #[]), (1, .pointer (some ⟨k, 0, none⟩))] [] ([pt k [.pointer (some ⟨b, 0, none⟩)] 142, pt b [.string r, fefV ef false] 146] ++ Lx) ([cellsAt 2 0 [.iface 154 (.pointer (some ef))], errAt ef] ++ Ix ++ I0) _
 refine c_seq (c_seq (c_region ?_))
 refine st rfl (o_ld 0 rfl rfl rfl Tryd.underlying142 rfl rfl ?_)
 refine s_y rfl (v := .pointer (some ⟨b, 0, none⟩)) (y_k rfl rfl (fun _ => by kernel_rfl)) rfl ?_
 refine s_y rfl (v := .pointer (some ⟨b, 0, none⟩)) (y_k rfl rfl (fun _ => by kernel_rfl)) rfl ?_
 refine s_y rfl (v := .pointer (some ⟨b, 0, none⟩)) (y_k rfl rfl (fun _ => by kernel_rfl)) rfl ?_
 refine st rfl (o_ld 1 rfl rfl rfl Tryd.underlying9 rfl rfl ?_)
 refine e_by (r = (⟨#[]⟩ : ByteArray)) (fun h1 => ?_) (fun h1 => ?_)
 ·
  refine s_y rfl (v := .bool false) (y_b (y_k (v := .bool (!(r.toList == (⟨#[]⟩ : ByteArray).toList))) rfl rfl (fun _ => by kernel_rfl)) (str_nt h1)) rfl ?_
  refine s_nil (q_then (c_false rfl ?_))
  refine c_exit ?_
  refine q_then_exit ?_
  refine q_then_exit ?_
  refine q_block_here ?_
  refine q_nj ?_
  refine c_fin_it (I' := Ix) rfl rfl (by intro φ hφ; simp only [List.mem_append, List.mem_cons, List.not_mem_nil, or_false, false_or] at hφ ⊢; grind) ⟨[pt k [.pointer (some ⟨b, 0, none⟩)] 142, pt b [.string r, fefV ef false] 146], Lx, rfl, ?_⟩
  refine .inl ⟨by first | (exact ⟨_, by rw [hg2, bl_nil.2 (by assumption), sgn_nil]⟩) | (exact ⟨_, by rw [hg2, (sgnF_bad (by assumption) (eq_true_of_ne_false (by assumption))).1, eq_true_of_ne_false (by assumption : ¬ (signF r).2.2.2 = false)]⟩), ?_⟩
  (have e : ka = (sgnF (bl s)).1.length := dropn_nil hk (by rw [hg1, bl_nil.2 (by assumption), sgn_nil]); subst e; rw [List.length_map]; exact hS)
 ·
  refine s_y rfl (v := .bool true) (y_b (y_k (v := .bool (!(r.toList == (⟨#[]⟩ : ByteArray).toList))) rfl rfl (fun _ => by kernel_rfl)) (str_nf h1)) rfl ?_
  refine s_nil (q_then (c_true rfl (c_skip (q_then (c_block (c_seq (c_region ?_)))))))
  refine st rfl (o_ld 0 rfl rfl rfl Tryd.underlying142 rfl rfl ?_)
  refine st rfl (o_call [1] [0, 1] (sign_ b r ef (by assumption) (hr)) rfl rfl rfl rfl rfl rfl (fun v L' I' hq1 => ?_))
  obtain ⟨rfl, rfl, rfl⟩ := hq1
  refine s_y rfl (v := .tuple #[.int .u8 (((signF r).1).toNat : Int), .int .i64 ((signF r).2.1 : Int)]) (y_mv rfl) rfl ?_
  refine s_y rfl (v := .int .u8 (((signF r).1).toNat : Int)) (y_k rfl rfl (fun _ => by kernel_rfl)) rfl ?_
  refine s_y rfl (v := .int .i64 ((signF r).2.1 : Int)) (y_k rfl rfl (fun _ => by kernel_rfl)) rfl ?_
  refine s_y rfl (v := .int .u8 (((signF r).1).toNat : Int)) (y_as rfl) rfl ?_
  refine s_y rfl (v := .int .i64 ((signF r).2.1 : Int)) (y_as rfl) rfl ?_
  refine s_nil (q_then (c_seq (c_seq (c_region ?_))))
  refine s_y rfl (v := .int .i64 ((signF r).2.1 : Int)) (y_mv rfl) rfl ?_
  refine s_y rfl (v := .int .i64 0) (y_mv rfl) rfl ?_
  refine s_nil (q_then (c_block ?_))
  refine e_perm [1, 0] rfl ?_
  show Ent _ _ _ _ ([pt k [.pointer (some ⟨b, 0, none⟩)] 142, pt b [.string ((signF r).2.2.1), fefV ef ((signF r).2.2.2)] 146] ++ Lx) _ _
  refine c_loop (ι := Nat × (List Atom) × (List Atom)) (fun (j, Lz, Iz) => (j ≤ (signF r).2.1) ∧ (SS (ka + j) Lz Iz)) (fun (j, Lz, Iz) => [(0, .func (.yield lp) #[] #[]), (1, .pointer (some ⟨k, 0, none⟩)), (3, .int .u8 (((signF r).1).toNat : Int)), (4, .int .i64 ((signF r).2.1 : Int)), (5, .pointer (some ⟨b, 0, none⟩)), (6, .pointer (some ⟨b, 0, none⟩)), (7, .pointer (some ⟨b, 0, none⟩)), (8, .pointer (some ⟨b, 0, none⟩)), (9, .string r), (10, .bool true), (11, .tuple #[.int .u8 (((signF r).1).toNat : Int), .int .i64 ((signF r).2.1 : Int)]), (12, .pointer (some ⟨b, 0, none⟩)), (13, .tuple #[.int .u8 (((signF r).1).toNat : Int), .int .i64 ((signF r).2.1 : Int)]), (14, .int .u8 (((signF r).1).toNat : Int)), (15, .int .i64 ((signF r).2.1 : Int)), (16, .int .i64 ((signF r).2.1 : Int)), (17, .int .i64 (j : Int))]) (fun (j, Lz, Iz) => ([pt k [.pointer (some ⟨b, 0, none⟩)] 142, pt b [.string ((signF r).2.2.1), fefV ef ((signF r).2.2.2)] 146] ++ Lz)) (fun (j, Lz, Iz) => ([cellsAt 2 0 [.iface 154 (.pointer (some ef))], errAt ef] ++ Iz ++ I0)) (fun (j, Lz, Iz) => (signF r).2.1 - j) (0, Lx, Ix) (show (0 ≤ (signF r).2.1) ∧ (SS (ka + 0) Lx Ix) from ⟨by first | omega | simp_all | (simp; done), hS⟩) ((.cons rfl rfl (.cons rfl rfl (.cons rfl rfl (.cons rfl rfl (.cons rfl rfl (.cons rfl rfl (.cons rfl rfl (.cons rfl rfl (.cons rfl rfl (.cons rfl rfl (.cons rfl rfl (.cons rfl rfl (.cons rfl rfl (.cons rfl rfl (.cons rfl rfl (.cons rfl rfl (.cons rfl rfl .nil)))))))))))))))))) rfl (by intro φ hφ; simp only [List.mem_append, List.mem_cons, List.not_mem_nil, or_false, false_or] at hφ ⊢; grind) ?_
  rintro ⟨j, Lz, Iz⟩ ⟨hj, hS2⟩
  show Ent 29 C [(0, .func (.yield lp) #[] #[]), (1, .pointer (some ⟨k, 0, none⟩)), (3, .int .u8 (((signF r).1).toNat : Int)), (4, .int .i64 ((signF r).2.1 : Int)), (5, .pointer (some ⟨b, 0, none⟩)), (6, .pointer (some ⟨b, 0, none⟩)), (7, .pointer (some ⟨b, 0, none⟩)), (8, .pointer (some ⟨b, 0, none⟩)), (9, .string r), (10, .bool true), (11, .tuple #[.int .u8 (((signF r).1).toNat : Int), .int .i64 ((signF r).2.1 : Int)]), (12, .pointer (some ⟨b, 0, none⟩)), (13, .tuple #[.int .u8 (((signF r).1).toNat : Int), .int .i64 ((signF r).2.1 : Int)]), (14, .int .u8 (((signF r).1).toNat : Int)), (15, .int .i64 ((signF r).2.1 : Int)), (16, .int .i64 ((signF r).2.1 : Int)), (17, .int .i64 (j : Int))] [] ([pt k [.pointer (some ⟨b, 0, none⟩)] 142, pt b [.string ((signF r).2.2.1), fefV ef ((signF r).2.2.2)] 146] ++ Lz) ([cellsAt 2 0 [.iface 154 (.pointer (some ef))], errAt ef] ++ Iz ++ I0) _
  refine c_seq (c_region ?_)
  refine e_by ((j : Int) < ((signF r).2.1 : Int)) (fun h2 => ?_) (fun h2 => ?_)
  ·
   refine s_y rfl (v := .bool true) (y_t (y_k (v := .bool (decide ((j : Int) < ((signF r).2.1 : Int)))) rfl rfl (fun _ => by kernel_rfl)) h2) rfl ?_
   refine s_nil (q_then (c_seq (c_true rfl (c_skip (q_then (c_seq (c_block (c_seq (c_region ?_)))))))))
   refine s_y rfl (v := .func (.yield lp) #[] #[]) (y_mv rfl) rfl ?_
   refine s_y rfl (v := .int .u8 (((signF r).1).toNat : Int)) (y_mv rfl) rfl ?_
   refine st rfl (o_yield [pt k [.pointer (some ⟨b, 0, none⟩)] 142, pt b [.string ((signF r).2.2.1), fefV ef ((signF r).2.2.2)] 146] Lz Iz (hY (ka + j) _ _ _ (by rw [List.getElem?_map, (sg_at (r := []) (hg1.trans (by rw [sgnF_step (by assumption) (by cases hq : (signF r).2.2.2 with | false => rfl | true => exact absurd (sgnF_bad (by assumption) hq).2 (by omega))])) (by omega : j < (signF r).2.1)).1]; rfl) hS2) rfl rfl rfl (by intro φ hφ; simp only [List.mem_append, List.mem_cons, List.not_mem_nil, or_false, false_or] at hφ ⊢; grind) rfl (fun bb1 Ly1 Iy1 hq2 => ?_))
   rcases hq2 with ⟨rfl, hq2⟩ | ⟨rfl, hq2⟩
   ·
    refine s_y rfl (v := .bool false) (y_k rfl rfl (fun _ => by kernel_rfl)) rfl ?_
    refine s_nil (q_then (c_false rfl (c_skip (q_block (q_then (c_region ?_))))))
    refine s_y rfl (v := .int .i64 ((j : Int) + 1)) (y_add (r := (j : Int) + 1) rfl rfl rfl (by have := sign1_9 (bl r); have h9 : (signF r).2.1 ≤ 9 := this; omega)) rfl ?_
    refine s_y rfl (v := .int .i64 ((j : Int) + 1)) (y_mv rfl) rfl ?_
    refine s_nil (q_then ?_)
    refine c_again (j + 1, Ly1, Iy1) ?_ ?_ ?_ (by rfl) (by intro φ hφ; simp only [List.mem_append, List.mem_cons, List.not_mem_nil, or_false, false_or] at hφ ⊢; grind)
    · exact (show ((j + 1) ≤ (signF r).2.1) ∧ (SS (ka + (j + 1)) Ly1 Iy1) from ⟨by first | omega | simp_all | (simp; done), hq2⟩)
    · show (signF r).2.1 - (j + 1) < (signF r).2.1 - j; omega
    · exact (.cons rfl rfl (.cons rfl rfl (.cons rfl rfl (.cons rfl rfl (.cons rfl rfl (.cons rfl rfl (.cons rfl rfl (.cons rfl rfl (.cons rfl rfl (.cons rfl rfl (.cons rfl rfl (.cons rfl rfl (.cons rfl rfl (.cons rfl rfl (.cons rfl rfl (.cons rfl rfl (.cons rfl (show (.int .i64 ((j : Int) + 1) : Value) = .int .i64 ((j + 1) : Int) from by first | rfl | (congr 1; omega) | (congr 1; simp; done) | (congr 1; simp; omega)) .nil)))))))))))))))))
   ·
    refine s_y rfl (v := .bool true) (y_k rfl rfl (fun _ => by kernel_rfl)) rfl ?_
    refine s_nil (q_then (c_true rfl ?_))
    refine c_exit ?_
    refine q_block_exit rfl ?_
    refine q_then_exit ?_
    refine q_then_exit ?_
    refine q_block_exit rfl ?_
    refine q_then_exit ?_
    refine q_block_exit rfl ?_
    refine q_then_exit ?_
    refine q_block_here ?_
    refine q_nj ?_
    refine c_fin_it (I' := Iy1) rfl rfl (by intro φ hφ; simp only [List.mem_append, List.mem_cons, List.not_mem_nil, or_false, false_or] at hφ ⊢; grind) ⟨[pt k [.pointer (some ⟨b, 0, none⟩)] 142, pt b [.string ((signF r).2.2.1), fefV ef ((signF r).2.2.2)] 146], Ly1, rfl, ?_⟩
    exact .inr ⟨(ka + j), by rw [List.length_map]; exact (sg_at (r := []) (hg1.trans (by rw [sgnF_step (by assumption) (by cases hq : (signF r).2.2.2 with | false => rfl | true => exact absurd (sgnF_bad (by assumption) hq).2 (by omega))])) (by omega : j < (signF r).2.1)).2, ⟨_, _, rfl⟩, hq2⟩
  ·
   refine s_y rfl (v := .bool false) (y_f (y_k (v := .bool (decide ((j : Int) < ((signF r).2.1 : Int)))) rfl rfl (fun _ => by kernel_rfl)) h2) rfl ?_
   refine s_nil (q_then (c_seq (c_false rfl ?_)))
   refine c_exit ?_
   refine q_then_exit ?_
   refine q_then_exit ?_
   refine q_block_here ?_
   refine q_then (c_seq (c_region ?_))
   refine st rfl (o_ld 0 rfl rfl rfl Tryd.underlying142 rfl rfl ?_)
   refine s_y rfl (v := .pointer (some ⟨b, 0, none⟩)) (y_k rfl rfl (fun _ => by kernel_rfl)) rfl ?_
   refine s_y rfl (v := .pointer (some ⟨b, 1, none⟩)) (y_k rfl rfl (fun _ => by kernel_rfl)) rfl ?_
   refine st rfl (o_ld 1 rfl rfl rfl Tryd.underlying57 rfl rfl ?_)
   refine e_by ((signF r).2.2.2 = false) (fun h3 => ?_) (fun h3 => ?_)
   ·
    refine s_y rfl (v := .bool false) (y_nt (y_bin rfl rfl (fun w => fef_ne ef ((signF r).2.2.2) _ w)) h3) rfl ?_
    refine s_nil (q_then (c_false rfl (c_skip (q_block (q_then ?_)))))
    have hst := sgnF_step (by assumption) (by assumption : (signF r).2.2.2 = false)
    have hlt := signF_lt (by assumption : ¬ r = ⟨#[]⟩)
    obtain rfl : j = (signF r).2.1 := by omega
    rw [(by assumption : (signF r).2.2.2 = false)]
    refine c_again (ka + (signF r).2.1, (signF r).2.2.1, Lz, Iz) ?_ ?_ ?_ (by rfl) (by intro φ hφ; simp only [List.mem_append, List.mem_cons, List.not_mem_nil, or_false, false_or] at hφ ⊢; grind)
    · exact (show ((ka + (signF r).2.1) ≤ (sgnF (bl s)).1.length) ∧ ((sgnF (bl s)).1.drop (ka + (signF r).2.1) = (sgnF (bl ((signF r).2.2.1))).1) ∧ ((sgnF (bl s)).2 = (sgnF (bl ((signF r).2.2.1))).2) ∧ (((signF r).2.2.1).size ≤ 100000) ∧ (SS (ka + (signF r).2.1) Lz Iz) from ⟨sg_le hk (hg1.trans (by rw [hst])), sg_drop (hg1.trans (by rw [hst])), by rw [hg2, hst], by omega, hS2⟩)
    · show ((signF r).2.2.1).size < r.size; exact hlt
    · exact (.cons rfl rfl (.cons rfl rfl .nil))
   ·
    refine s_y rfl (v := .bool true) (y_nf (y_bin rfl rfl (fun w => fef_ne ef ((signF r).2.2.2) _ w)) h3) rfl ?_
    refine s_nil (q_then (c_true rfl ?_))
    refine c_exit ?_
    refine q_block_exit rfl ?_
    refine q_then_exit ?_
    refine q_block_here ?_
    refine q_nj ?_
    refine c_fin_it (I' := Iz) rfl rfl (by intro φ hφ; simp only [List.mem_append, List.mem_cons, List.not_mem_nil, or_false, false_or] at hφ ⊢; grind) ⟨[pt k [.pointer (some ⟨b, 0, none⟩)] 142, pt b [.string ((signF r).2.2.1), fefV ef ((signF r).2.2.2)] 146], Lz, rfl, ?_⟩
    refine .inl ⟨by first | (exact ⟨_, by rw [hg2, bl_nil.2 (by assumption), sgn_nil]⟩) | (exact ⟨_, by rw [hg2, (sgnF_bad (by assumption) (eq_true_of_ne_false (by assumption))).1, eq_true_of_ne_false (by assumption : ¬ (signF r).2.2.2 = false)]⟩), ?_⟩
    (have hb := sgnF_bad (by assumption) (eq_true_of_ne_false (by assumption : ¬ (signF r).2.2.2 = false)); have e : ka + j = (sgnF (bl s)).1.length := (by rw [hb.1] at hg1; have := dropn_nil hk hg1; omega); rw [List.length_map, ← e]; exact hS2)
end Go.Proofs.YthehnjbdkjnlpaaDoor
