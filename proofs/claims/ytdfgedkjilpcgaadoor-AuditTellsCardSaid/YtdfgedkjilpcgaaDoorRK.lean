/- The six laws of chapter 18 (audit), walked over the given program; no condition but what stands in each theorem: part K. -/
import Derived.Test.YtdfgedkjilpcgaaDoorRB
set_option linter.unusedVariables false
set_option linter.unusedSimpArgs false
set_option maxRecDepth 100000
set_option maxHeartbeats 8000000
namespace Go.Proofs.YtdfgedkjilpcgaaDoor
open Go Go.Sl Go.RowKit Go.Extern.Stop Go.Stop Go.Extern Go.Shelf
theorem at_ (b : Nat) (a : Lab) : Con Tryd.prog 32 [.pointer (some ⟨b, 0, none⟩), .agg #[.int .i64 a.lv, .int .u64 (a.cs : Int), .int .i64 a.ig]] [] [] (fun v L' I' => ∃ k : Nat, ∃ j : Nat, v = .func (.func 47) #[] #[.pointer (some ⟨k, 0, none⟩), .pointer (some ⟨j, 0, none⟩)] ∧ L' = [pt k [.pointer (some ⟨b, 0, none⟩)] 60, pt j [.int .i64 a.lv, .int .u64 (a.cs : Int), .int .i64 a.ig] 26] ∧ I' = []) := by
  refine fn_of Tryd.func32 rfl Tryd.ntmps32 (by kernel_rfl) rfl (fun C => ?_)
  refine c_seq ?_
  refine c_region ?_
  refine st rfl (o_box (cs := [.pointer (some ⟨b, 0, none⟩)]) (T := 60) rfl rfl rfl rfl (fun _ => by kernel_rfl) (fun b1 => ?_))
  refine st rfl (o_box (cs := [.int .i64 a.lv, .int .u64 (a.cs : Int), .int .i64 a.ig]) (T := 26) rfl rfl rfl rfl (fun _ => by kernel_rfl) (fun b2 => ?_))
  refine st rfl (o_y (v := .nilFunc) (y_as rfl) rfl rfl rfl ?_)
  refine s_nil ?_
  refine q_then ?_
  refine c_seq ?_
  refine c_region ?_
  refine st rfl (o_y (v := .func (.func 47) #[] #[.pointer (some ⟨b1, 0, none⟩), .pointer (some ⟨b2, 0, none⟩)]) (y_k rfl rfl (fun _ => by kernel_rfl)) rfl rfl rfl ?_)
  refine st rfl (o_y (v := .func (.func 47) #[] #[.pointer (some ⟨b1, 0, none⟩), .pointer (some ⟨b2, 0, none⟩)]) (y_as rfl) rfl rfl rfl ?_)
  refine s_nil ?_
  refine q_then ?_
  refine c_ret ?_
  refine c_fin (I' := []) [1, 0] [] rfl (.tmp rfl .nil) rfl rfl rfl ?_
  exact ⟨b1, b2, rfl, rfl, rfl⟩
theorem at1_ (k : Nat) (j : Nat) (b : Nat) (a : Lab) (A : Option Addr) (c : Nat) (l : List Rec) (hs : l.length ≤ 1000000) : It Tryd.prog 47 [.pointer (some ⟨k, 0, none⟩), .pointer (some ⟨j, 0, none⟩)] [pt k [.pointer (some ⟨b, 0, none⟩)] 60, pt j [.int .i64 a.lv, .int .u64 (a.cs : Int), .int .i64 a.ig] 26, pt b [.slice A l.length c] 51] [rd recTy A c l] ((atL a l).map fun y => [.agg #[.int .i64 y.st, .int .i64 y.who, .int .i64 y.op, .int .i64 y.e, .int .i64 y.lab.lv, .int .u64 (y.lab.cs : Int), .int .i64 y.lab.ig]]) (fun L1 => L1 = [pt k [.pointer (some ⟨b, 0, none⟩)] 60, pt j [.int .i64 a.lv, .int .u64 (a.cs : Int), .int .i64 a.ig] 26, pt b [.slice A l.length c] 51]) := by
  intro lp SS XX L0 I0 h0a hY
  refine fn_of Tryd.func47 rfl Tryd.ntmps47 (by kernel_rfl) rfl (fun C => ?_)
  refine c_scope0 ?_
  refine c_seq ?_
  refine c_label ?_
  refine q_then ?_
  refine c_seq ?_
  refine c_region ?_
  refine st rfl (o_ld 0 rfl rfl rfl Tryd.underlying60 rfl rfl ?_)
  refine st rfl (o_y (v := .pointer (some ⟨b, 0, none⟩)) (y_k rfl rfl (fun _ => by kernel_rfl)) rfl rfl rfl ?_)
  refine st rfl (o_y (v := .pointer (some ⟨b, 0, none⟩)) (y_k rfl rfl (fun _ => by kernel_rfl)) rfl rfl rfl ?_)
  refine st rfl (o_ld 2 rfl rfl rfl Tryd.underlying22 rfl rfl ?_)
  refine st rfl (o_y (v := .int .i64 (l.length : Int)) (y_k rfl rfl (fun _ => by kernel_rfl)) rfl rfl rfl ?_)
  refine st rfl (o_y (v := .int .i64 0) (y_mv rfl) rfl rfl rfl ?_)
  refine s_nil ?_
  refine q_then ?_
  refine c_block ?_
  refine c_loop (ι := Nat × Nat × (List Atom) × (List Atom)) (fun (ka, qa, Lx, Ix) => (ka ≤ l.length) ∧ (qa = ((l.take ka).filter fun x => decide (x.lab = a)).length) ∧ (SS qa Lx Ix)) (fun (ka, qa, Lx, Ix) => [(0, .func (.yield lp) #[] #[]), (2, .pointer (some ⟨j, 0, none⟩)), (9, .slice A l.length c), (10, .int .i64 (l.length : Int)), (11, .int .i64 (ka : Int))]) (fun (ka, qa, Lx, Ix) => ([pt k [.pointer (some ⟨b, 0, none⟩)] 60, pt j [.int .i64 a.lv, .int .u64 (a.cs : Int), .int .i64 a.ig] 26, pt b [.slice A l.length c] 51] ++ Lx)) (fun (ka, qa, Lx, Ix) => ([rd recTy A c l] ++ Ix ++ I0)) (fun (ka, qa, Lx, Ix) => l.length - ka) (0, 0, L0, I0) (show (0 ≤ l.length) ∧ (0 = ((l.take 0).filter fun x => decide (x.lab = a)).length) ∧ (SS 0 L0 I0) from ⟨by first | omega | simp_all | (simp; done), by simp, h0a⟩) ((.cons rfl rfl (.cons rfl rfl (.cons rfl rfl (.cons rfl rfl (.cons rfl rfl .nil)))))) rfl (by intro φ hφ; simp only [List.mem_append, List.mem_cons, List.not_mem_nil, or_false, false_or] at hφ ⊢; grind) ?_
  rintro ⟨ka, qa, Lx, Ix⟩ ⟨hk, hq, hS⟩
  show Ent 26 C [(0, .func (.yield lp) #[] #[]), (2, .pointer (some ⟨j, 0, none⟩)), (9, .slice A l.length c), (10, .int .i64 (l.length : Int)), (11, .int .i64 (ka : Int))] [] ([pt k [.pointer (some ⟨b, 0, none⟩)] 60, pt j [.int .i64 a.lv, .int .u64 (a.cs : Int), .int .i64 a.ig] 26, pt b [.slice A l.length c] 51] ++ Lx) ([rd recTy A c l] ++ Ix ++ I0) _
  refine c_seq ?_
  refine c_region ?_
  refine e_by ((ka : Int) < (l.length : Int)) (fun h1 => ?_) (fun h1 => ?_)
  ·
    refine st rfl (o_y (v := .bool true) (y_t (y_k (v := .bool (decide ((ka : Int) < (l.length : Int)))) rfl rfl (fun _ => by kernel_rfl)) h1) rfl rfl rfl ?_)
    refine s_nil ?_
    refine q_then ?_
    refine c_seq ?_
    refine c_true rfl ?_
    refine c_skip ?_
    refine q_then ?_
    refine c_seq ?_
    refine c_block ?_
    refine c_seq ?_
    refine c_region ?_
    refine e_at 0 ka rfl (by first | omega | (simp only [List.length_append, List.length_map, List.length_take, List.length_drop]; omega)) (fun b1 o1 x1 hA1 hx1 => ?_)
    refine st rfl (o_y (v := .pointer (some ⟨b1, o1 + ka * 7, none⟩)) (y_at (d := recTy) (l := l) ka hA1 rfl rfl rfl (rfl) (List.getElem?_eq_some_iff.1 hx1).1 Tryd.underlying22 (by kernel_rfl) (by kernel_rfl)) rfl rfl rfl ?_)
    refine st rfl (o_ldnf 0 0 7 rfl rfl rfl rfl Tryd.underlying28 rfl (by kernel_rfl) (by kernel_rfl) rfl ?_)
    refine st rfl (o_box (cs := [.int .i64 0, .int .i64 0, .int .i64 0, .int .i64 0, .int .i64 0, .int .u64 0, .int .i64 0]) (T := 28) rfl rfl rfl rfl (fun _ => by kernel_rfl) (fun b2 => ?_))
    refine st rfl (o_st 0 rfl rfl rfl rfl rfl (by kernel_rfl) (by kernel_rfl) rfl ?_)
    refine s_nil ?_
    refine q_then ?_
    refine c_seq ?_
    refine c_region ?_
    refine st rfl (o_y (v := .pointer (some ⟨b2, 4, none⟩)) (y_k rfl rfl (fun _ => by kernel_rfl)) rfl rfl rfl ?_)
    refine st rfl (o_ldn 0 3 rfl rfl rfl rfl Tryd.underlying26 rfl (by kernel_rfl) (by kernel_rfl) rfl ?_)
    refine st rfl (o_ldn 2 3 rfl rfl rfl rfl Tryd.underlying26 rfl (by kernel_rfl) (by kernel_rfl) rfl ?_)
    refine e_by (x1.lab = a) (fun h2 => ?_) (fun h2 => ?_)
    ·
      refine st rfl (o_y (v := .bool true) (y_t (y_bin rfl rfl (fun w => eq_Lab x1.lab a w)) h2) rfl rfl rfl ?_)
      refine st rfl (o_y (v := .bool true) (y_mv rfl) rfl rfl rfl ?_)
      refine st_on 19 rfl rfl rfl (o_y (v := .func (.yield lp) #[] #[]) (y_mv rfl) rfl rfl rfl ?_)
      refine st_on 19 rfl rfl rfl (o_ldn 0 7 rfl rfl rfl rfl Tryd.underlying28 rfl (by kernel_rfl) (by kernel_rfl) rfl ?_)
      refine st_on 19 rfl rfl rfl (o_yield [pt b2 [.int .i64 x1.st, .int .i64 x1.who, .int .i64 x1.op, .int .i64 x1.e, .int .i64 x1.lab.lv, .int .u64 (x1.lab.cs : Int), .int .i64 x1.lab.ig] 28, pt k [.pointer (some ⟨b, 0, none⟩)] 60, pt j [.int .i64 a.lv, .int .u64 (a.cs : Int), .int .i64 a.ig] 26, pt b [.slice A l.length c] 51] Lx Ix (hY qa _ _ _ (by rw [List.getElem?_map, at_at hq hx1 (by assumption)]; rfl) hS) rfl rfl rfl (by intro φ hφ; simp only [List.mem_append, List.mem_cons, List.not_mem_nil, or_false, false_or] at hφ ⊢; grind) rfl (fun bb1 Ly1 Iy1 hq1 => ?_))
      rcases hq1 with ⟨rfl, hq1⟩ | ⟨rfl, hq1⟩
      ·
        refine st_on 19 rfl rfl rfl (o_y (v := .bool false) (y_k rfl rfl (fun _ => by kernel_rfl)) rfl rfl rfl ?_)
        refine st rfl (o_y (v := .bool false) (y_pick rfl rfl) rfl rfl rfl ?_)
        refine s_nil ?_
        refine q_then ?_
        refine c_false rfl ?_
        refine c_skip ?_
        refine q_block ?_
        refine q_then ?_
        refine c_region ?_
        refine st rfl (o_y (v := .int .i64 ((ka : Int) + 1)) (y_add (r := (ka : Int) + 1) rfl rfl rfl (by omega)) rfl rfl rfl ?_)
        refine st rfl (o_y (v := .int .i64 ((ka : Int) + 1)) (y_mv rfl) rfl rfl rfl ?_)
        refine s_nil ?_
        refine q_then ?_
        refine e_drop 0 ?_
        show Ent _ _ _ _ ([pt k [.pointer (some ⟨b, 0, none⟩)] 60, pt j [.int .i64 a.lv, .int .u64 (a.cs : Int), .int .i64 a.ig] 26, pt b [.slice A l.length c] 51] ++ Ly1) _ _
        refine c_again (ka + 1, qa + 1, Ly1, Iy1) ?_ ?_ ?_ (by rfl) (by intro φ hφ; simp only [List.mem_append, List.mem_cons, List.not_mem_nil, or_false, false_or] at hφ ⊢; grind)
        · exact (show ((ka + 1) ≤ l.length) ∧ ((qa + 1) = ((l.take (ka + 1)).filter fun x => decide (x.lab = a)).length) ∧ (SS (qa + 1) Ly1 Iy1) from ⟨by first | omega | simp_all | (simp; done), by rw [filt_t hx1 (by simpa using (by assumption : x1.lab = a)), List.length_append, hq]; rfl, hq1⟩)
        · show l.length - (ka + 1) < l.length - ka; omega
        · exact (.cons rfl rfl (.cons rfl rfl (.cons rfl rfl (.cons rfl rfl (.cons rfl (show (.int .i64 ((ka : Int) + 1) : Value) = .int .i64 ((ka + 1) : Int) from by first | rfl | (congr 1; omega) | (congr 1; simp; done) | (congr 1; simp; omega)) .nil)))))
      ·
        refine st_on 19 rfl rfl rfl (o_y (v := .bool true) (y_k rfl rfl (fun _ => by kernel_rfl)) rfl rfl rfl ?_)
        refine st rfl (o_y (v := .bool true) (y_pick rfl rfl) rfl rfl rfl ?_)
        refine s_nil ?_
        refine q_then ?_
        refine c_true rfl ?_
        refine c_exit ?_
        refine q_block_exit rfl ?_
        refine q_then_exit ?_
        refine q_then_exit ?_
        refine q_block_here ?_
        refine q_nj ?_
        refine e_drop 0 ?_
        show Ent _ _ _ _ ([pt k [.pointer (some ⟨b, 0, none⟩)] 60, pt j [.int .i64 a.lv, .int .u64 (a.cs : Int), .int .i64 a.ig] 26, pt b [.slice A l.length c] 51] ++ Ly1) _ _
        refine c_fin_it (I' := Iy1) rfl rfl (by intro φ hφ; simp only [List.mem_append, List.mem_cons, List.not_mem_nil, or_false, false_or] at hφ ⊢; grind) ⟨_, Ly1, rfl, rfl, ?_⟩
        exact .inr ⟨qa, by rw [List.length_map]; exact at_lt hq hx1 (by assumption), hq1⟩
    ·
      refine st rfl (o_y (v := .bool false) (y_f (y_bin rfl rfl (fun w => eq_Lab x1.lab a w)) h2) rfl rfl rfl ?_)
      refine st rfl (o_y (v := .bool false) (y_mv rfl) rfl rfl rfl ?_)
      refine st_off 19 rfl rfl rfl rfl rfl rfl ?_
      refine st_off 19 rfl rfl rfl rfl rfl rfl ?_
      refine st_off 19 rfl rfl rfl rfl rfl rfl ?_
      refine st_off 19 rfl rfl rfl rfl rfl rfl ?_
      refine st rfl (o_y (v := .bool false) (y_pick rfl rfl) rfl rfl rfl ?_)
      refine s_nil ?_
      refine q_then ?_
      refine c_false rfl ?_
      refine c_skip ?_
      refine q_block ?_
      refine q_then ?_
      refine c_region ?_
      refine st rfl (o_y (v := .int .i64 ((ka : Int) + 1)) (y_add (r := (ka : Int) + 1) rfl rfl rfl (by omega)) rfl rfl rfl ?_)
      refine st rfl (o_y (v := .int .i64 ((ka : Int) + 1)) (y_mv rfl) rfl rfl rfl ?_)
      refine s_nil ?_
      refine q_then ?_
      refine e_drop 0 ?_
      show Ent _ _ _ _ ([pt k [.pointer (some ⟨b, 0, none⟩)] 60, pt j [.int .i64 a.lv, .int .u64 (a.cs : Int), .int .i64 a.ig] 26, pt b [.slice A l.length c] 51] ++ Lx) _ _
      refine c_again (ka + 1, qa, Lx, Ix) ?_ ?_ ?_ (by rfl) (by intro φ hφ; simp only [List.mem_append, List.mem_cons, List.not_mem_nil, or_false, false_or] at hφ ⊢; grind)
      · exact (show ((ka + 1) ≤ l.length) ∧ (qa = ((l.take (ka + 1)).filter fun x => decide (x.lab = a)).length) ∧ (SS qa Lx Ix) from ⟨by first | omega | simp_all | (simp; done), by rw [filt_f hx1 (by simpa using (by assumption : ¬ x1.lab = a)), hq], hS⟩)
      · show l.length - (ka + 1) < l.length - ka; omega
      · exact (.cons rfl rfl (.cons rfl rfl (.cons rfl rfl (.cons rfl rfl (.cons rfl (show (.int .i64 ((ka : Int) + 1) : Value) = .int .i64 ((ka + 1) : Int) from by first | rfl | (congr 1; omega) | (congr 1; simp; done) | (congr 1; simp; omega)) .nil)))))
  ·
    refine st rfl (o_y (v := .bool false) (y_f (y_k (v := .bool (decide ((ka : Int) < (l.length : Int)))) rfl rfl (fun _ => by kernel_rfl)) h1) rfl rfl rfl ?_)
    refine s_nil ?_
    refine q_then ?_
    refine c_seq ?_
    refine c_false rfl ?_
    refine c_exit ?_
    refine q_then_exit ?_
    refine q_then_exit ?_
    refine q_block_here ?_
    refine q_nj ?_
    refine c_fin_it (I' := Ix) rfl rfl (by intro φ hφ; simp only [List.mem_append, List.mem_cons, List.not_mem_nil, or_false, false_or] at hφ ⊢; grind) ⟨_, Lx, rfl, rfl, ?_⟩
    left; rw [List.length_map, at_end hq (by omega)]; exact hS
theorem rTexts_ (A : Option Addr) (c : Nat) (l : List ByteArray) (B : Option Addr) (d : Nat) (r : List ByteArray) (hs : l.length ≤ 1000000) : Con Tryd.prog 18 [.slice A l.length c, .slice B r.length d] [] [rd strTy A c l, rd strTy B d r] (fun v L' I' => v = .bool (decide (l = r)) ∧ L' = [] ∧ I' = []) := by
  refine fn_of Tryd.func18 rfl Tryd.ntmps18 (by kernel_rfl) rfl (fun C => ?_)
  refine c_seq ?_
  refine c_region ?_
  refine st rfl (o_y (v := .bool false) (y_as rfl) rfl rfl rfl ?_)
  refine s_nil ?_
  refine q_then ?_
  refine c_seq ?_
  refine c_seq ?_
  refine c_region ?_
  refine st rfl (o_y (v := .slice A l.length c) (y_mv rfl) rfl rfl rfl ?_)
  refine st rfl (o_y (v := .int .i64 (l.length : Int)) (y_k rfl rfl (fun _ => by kernel_rfl)) rfl rfl rfl ?_)
  refine st rfl (o_y (v := .slice B r.length d) (y_mv rfl) rfl rfl rfl ?_)
  refine st rfl (o_y (v := .int .i64 (r.length : Int)) (y_k rfl rfl (fun _ => by kernel_rfl)) rfl rfl rfl ?_)
  refine e_by ((l.length : Int) = (r.length : Int)) (fun h1 => ?_) (fun h1 => ?_)
  ·
    refine st rfl (o_y (v := .bool false) (y_b (y_k (v := .bool ((l.length : Int) != (r.length : Int))) rfl rfl (fun _ => by kernel_rfl)) (bne_eq_false_iff_eq.2 h1)) rfl rfl rfl ?_)
    refine s_nil ?_
    refine q_then ?_
    refine c_false rfl ?_
    refine c_skip ?_
    refine q_then ?_
    refine c_seq ?_
    refine c_seq ?_
    refine c_region ?_
    refine st rfl (o_y (v := .int .i64 0) (y_as rfl) rfl rfl rfl ?_)
    refine s_nil ?_
    refine q_then ?_
    refine c_block ?_
    refine c_loopn (ι := Nat) (fun k => (k ≤ l.length) ∧ (l.take k = r.take k)) (fun k => [(0, .slice A l.length c), (1, .slice B r.length d), (5, .int .i64 (k : Int))]) (fun k => []) (fun k => [rd strTy A c l, rd strTy B d r]) (fun k => l.length - k) (0) [] [0, 1] (show (0 ≤ l.length) ∧ (l.take 0 = r.take 0) from ⟨by first | omega | simp_all | (simp; done), by simp⟩) ((.cons rfl rfl (.cons rfl rfl (.cons rfl rfl .nil)))) rfl rfl ?_
    rintro k ⟨hk, he⟩
    show Ent 26 C [(0, .slice A l.length c), (1, .slice B r.length d), (5, .int .i64 (k : Int))] [] [] [rd strTy A c l, rd strTy B d r] _
    refine c_seq ?_
    refine c_seq ?_
    refine c_region ?_
    refine st rfl (o_y (v := .int .i64 (k : Int)) (y_mv rfl) rfl rfl rfl ?_)
    refine st rfl (o_y (v := .slice A l.length c) (y_mv rfl) rfl rfl rfl ?_)
    refine st rfl (o_y (v := .int .i64 (l.length : Int)) (y_k rfl rfl (fun _ => by kernel_rfl)) rfl rfl rfl ?_)
    refine e_by ((k : Int) < (l.length : Int)) (fun h2 => ?_) (fun h2 => ?_)
    ·
      refine st rfl (o_y (v := .bool true) (y_t (y_k (v := .bool (decide ((k : Int) < (l.length : Int)))) rfl rfl (fun _ => by kernel_rfl)) h2) rfl rfl rfl ?_)
      refine s_nil ?_
      refine q_then ?_
      refine c_true rfl ?_
      refine c_skip ?_
      refine q_then ?_
      refine c_seq ?_
      refine c_block ?_
      refine c_seq ?_
      refine e_at 0 k rfl (by first | omega | (simp only [List.length_append, List.length_map, List.length_take, List.length_drop]; omega)) (fun b1 o1 x1 hA1 hx1 => ?_)
      refine e_at 2 k rfl (by first | omega | (simp only [List.length_append, List.length_map, List.length_take, List.length_drop]; omega)) (fun b2 o2 x2 hA2 hx2 => ?_)
      refine c_draw (l := ticked 9 0) [(⟨b1, o1 + k * 1, none⟩, .string x1), (⟨b2, o2 + k * 1, none⟩, .string x2)] [] (by kernel_rfl) rfl rfl ?_
      refine a_y (i := 0) (v := .slice A l.length c) (ticked 9 1) rfl (by as_aux_lemma => kernel_rfl) rfl rfl rfl (by exact y_mv rfl) ?_
      refine a_y (i := 1) (v := .int .i64 (k : Int)) (ticked 9 3) rfl (by as_aux_lemma => kernel_rfl) rfl rfl rfl (by exact y_mv rfl) ?_
      refine a_y (i := 2) (v := .pointer (some ⟨b1, o1 + k * 1, none⟩)) (ticked 9 7) rfl (by as_aux_lemma => kernel_rfl) rfl rfl rfl (by exact y_at (d := strTy) (l := l) k hA1 rfl rfl rfl (rfl) (List.getElem?_eq_some_iff.1 hx1).1 Tryd.underlying35 (by kernel_rfl) (by kernel_rfl)) ?_
      refine a_y (i := 4) (v := .slice B r.length d) (ticked 9 23) rfl (by as_aux_lemma => kernel_rfl) rfl rfl rfl (by exact y_mv rfl) ?_
      refine a_y (i := 5) (v := .int .i64 (k : Int)) (ticked 9 55) rfl (by as_aux_lemma => kernel_rfl) rfl rfl rfl (by exact y_mv rfl) ?_
      refine a_y (i := 6) (v := .pointer (some ⟨b2, o2 + k * 1, none⟩)) (ticked 9 119) rfl (by as_aux_lemma => kernel_rfl) rfl rfl rfl (by exact y_at (d := strTy) (l := r) k hA2 rfl rfl rfl (rfl) (List.getElem?_eq_some_iff.1 hx2).1 Tryd.underlying35 (by kernel_rfl) (by kernel_rfl)) ?_
      refine a_held (i := 3) (ticked 9 127) rfl (by as_aux_lemma => kernel_rfl) rfl rfl rfl (held_fact (j := 0) 1 rfl rfl (held_fact (j := 0) 0 rfl rfl held_nil)) (h_ld 0 rfl rfl Tryd.underlying9 rfl) ?_
      refine a_held (i := 7) (ticked 9 255) rfl (by as_aux_lemma => kernel_rfl) rfl rfl rfl (held_fact (j := 0) 1 rfl rfl (held_fact (j := 0) 0 rfl rfl held_nil)) (h_ld 1 rfl rfl Tryd.underlying9 rfl) ?_
      refine e_by (x1 = x2) (fun h3 => ?_) (fun h3 => ?_)
      ·
        refine a_y (i := 8) (v := .bool false) (ticked 9 511) rfl (by as_aux_lemma => kernel_rfl) rfl rfl rfl (by exact y_b (y_k (v := .bool (!(x1.toList == x2.toList))) rfl rfl (fun _ => by kernel_rfl)) (str_nt h3)) ?_
        refine a_done (by as_aux_lemma => kernel_rfl) ?_
        refine q_then ?_
        refine c_false rfl ?_
        refine c_skip ?_
        refine q_block ?_
        refine q_then ?_
        refine c_region ?_
        refine st rfl (o_y (v := .int .i64 (k : Int)) (y_mv rfl) rfl rfl rfl ?_)
        refine st rfl (o_y (v := .int .i64 ((k : Int) + 1)) (y_add (r := (k : Int) + 1) rfl rfl rfl (by omega)) rfl rfl rfl ?_)
        refine st rfl (o_y (v := .int .i64 ((k : Int) + 1)) (y_as rfl) rfl rfl rfl ?_)
        refine s_nil ?_
        refine q_then ?_
        refine c_next [] [2, 3] (k + 1) ?_ ?_ ?_ (by rfl) (by rfl)
        · exact (show ((k + 1) ≤ l.length) ∧ (l.take (k + 1) = r.take (k + 1)) from ⟨by first | omega | simp_all | (simp; done), eq_step he hx1 hx2 (by assumption)⟩)
        · show l.length - (k + 1) < l.length - k; omega
        · exact (.cons rfl rfl (.cons rfl rfl (.cons rfl (show (.int .i64 ((k : Int) + 1) : Value) = .int .i64 ((k + 1) : Int) from by first | rfl | (congr 1; omega) | (congr 1; simp; done) | (congr 1; simp; omega)) .nil)))
      ·
        refine a_y (i := 8) (v := .bool true) (ticked 9 511) rfl (by as_aux_lemma => kernel_rfl) rfl rfl rfl (by exact y_b (y_k (v := .bool (!(x1.toList == x2.toList))) rfl rfl (fun _ => by kernel_rfl)) (str_nf h3)) ?_
        refine a_done (by as_aux_lemma => kernel_rfl) ?_
        refine q_then ?_
        refine c_true rfl ?_
        refine c_seq ?_
        refine c_region ?_
        refine st rfl (o_y (v := .bool false) (y_as rfl) rfl rfl rfl ?_)
        refine s_nil ?_
        refine q_then ?_
        refine c_ret ?_
        refine q_block_ret ?_
        refine q_then_ret ?_
        refine q_then_ret ?_
        refine q_block_ret ?_
        refine q_then_ret ?_
        refine c_fin (I' := []) [] [2, 3] rfl (.tmp rfl .nil) rfl rfl rfl ?_
        exact ⟨by show Value.bool _ = Value.bool _; congr 1; symm; first | exact decide_eq_true (by first | exact eq_end he (by omega) (by omega) | exact eq_not hx1 hx2 (by assumption) | exact eq_len (by assumption) | (intro hh; subst hh; first | omega | contradiction)) | exact decide_eq_false (by first | exact eq_end he (by omega) (by omega) | exact eq_not hx1 hx2 (by assumption) | exact eq_len (by assumption) | (intro hh; subst hh; first | omega | contradiction)), rfl, rfl⟩
    ·
      refine st rfl (o_y (v := .bool false) (y_f (y_k (v := .bool (decide ((k : Int) < (l.length : Int)))) rfl rfl (fun _ => by kernel_rfl)) h2) rfl rfl rfl ?_)
      refine s_nil ?_
      refine q_then ?_
      refine c_false rfl ?_
      refine c_exit ?_
      refine q_then_exit ?_
      refine q_then_exit ?_
      refine q_block_here ?_
      refine q_then ?_
      refine c_seq ?_
      refine c_region ?_
      refine st rfl (o_y (v := .bool true) (y_as rfl) rfl rfl rfl ?_)
      refine s_nil ?_
      refine q_then ?_
      refine c_ret ?_
      refine c_fin (I' := []) [] [0, 1] rfl (.tmp rfl .nil) rfl rfl rfl ?_
      exact ⟨by show Value.bool _ = Value.bool _; congr 1; symm; first | exact decide_eq_true (by first | exact eq_end he (by omega) (by omega) | exact eq_not hx1 hx2 (by assumption) | exact eq_len (by assumption) | (intro hh; subst hh; first | omega | contradiction)) | exact decide_eq_false (by first | exact eq_end he (by omega) (by omega) | exact eq_not hx1 hx2 (by assumption) | exact eq_len (by assumption) | (intro hh; subst hh; first | omega | contradiction)), rfl, rfl⟩
  ·
    refine st rfl (o_y (v := .bool true) (y_b (y_k (v := .bool ((l.length : Int) != (r.length : Int))) rfl rfl (fun _ => by kernel_rfl)) (bne_iff_ne.2 h1)) rfl rfl rfl ?_)
    refine s_nil ?_
    refine q_then ?_
    refine c_true rfl ?_
    refine c_seq ?_
    refine c_region ?_
    refine st rfl (o_y (v := .bool false) (y_as rfl) rfl rfl rfl ?_)
    refine s_nil ?_
    refine q_then ?_
    refine c_ret ?_
    refine q_then_ret ?_
    refine c_fin (I' := []) [] [0, 1] rfl (.tmp rfl .nil) rfl rfl rfl ?_
    exact ⟨by show Value.bool _ = Value.bool _; congr 1; symm; first | exact decide_eq_true (by first | exact eq_end he (by omega) (by omega) | exact eq_not hx1 hx2 (by assumption) | exact eq_len (by assumption) | (intro hh; subst hh; first | omega | contradiction)) | exact decide_eq_false (by first | exact eq_end he (by omega) (by omega) | exact eq_not hx1 hx2 (by assumption) | exact eq_len (by assumption) | (intro hh; subst hh; first | omega | contradiction)), rfl, rfl⟩
theorem Count_ (A : Option Addr) (c : Nat) (l : List Rec) (who : Int) (hs : l.length ≤ 1000000) : Con Tryd.prog 17 [.slice A l.length c, .int .i64 who] [] [rd recTy A c l] (fun v L' I' => v = .int .i64 (countF l who : Int) ∧ L' = [] ∧ I' = []) := by
  refine fn_of Tryd.func17 rfl Tryd.ntmps17 (by kernel_rfl) rfl (fun C => ?_)
  refine c_seq ?_
  refine c_region ?_
  refine st rfl (o_y (v := .int .i64 0) (y_as rfl) rfl rfl rfl ?_)
  refine s_nil ?_
  refine q_then ?_
  refine c_seq ?_
  refine c_region ?_
  refine st rfl (o_y (v := .int .i64 0) (y_as rfl) rfl rfl rfl ?_)
  refine s_nil ?_
  refine q_then ?_
  refine c_seq ?_
  refine c_seq ?_
  refine c_region ?_
  refine st rfl (o_y (v := .slice A l.length c) (y_mv rfl) rfl rfl rfl ?_)
  refine st rfl (o_y (v := .int .i64 (l.length : Int)) (y_k rfl rfl (fun _ => by kernel_rfl)) rfl rfl rfl ?_)
  refine st rfl (o_y (v := .int .i64 0) (y_mv rfl) rfl rfl rfl ?_)
  refine s_nil ?_
  refine q_then ?_
  refine c_block ?_
  refine c_loopn (ι := Nat × Nat) (fun (k, q) => (k ≤ l.length) ∧ (q = ((l.take k).filter fun x => decide (x.who = who)).length)) (fun (k, q) => [(1, .int .i64 who), (4, .int .i64 0), (5, .int .i64 (q : Int)), (9, .slice A l.length c), (10, .int .i64 (l.length : Int)), (11, .int .i64 (k : Int))]) (fun (k, q) => []) (fun (k, q) => [rd recTy A c l]) (fun (k, q) => l.length - k) (0, 0) [] [0] (show (0 ≤ l.length) ∧ (0 = ((l.take 0).filter fun x => decide (x.who = who)).length) from ⟨by first | omega | simp_all | (simp; done), by simp⟩) ((.cons rfl rfl (.cons rfl rfl (.cons rfl rfl (.cons rfl rfl (.cons rfl rfl (.cons rfl rfl .nil))))))) rfl rfl ?_
  rintro ⟨k, q⟩ ⟨hk, hq⟩
  show Ent 32 C [(1, .int .i64 who), (4, .int .i64 0), (5, .int .i64 (q : Int)), (9, .slice A l.length c), (10, .int .i64 (l.length : Int)), (11, .int .i64 (k : Int))] [] [] [rd recTy A c l] _
  refine c_seq ?_
  refine c_region ?_
  refine e_by ((k : Int) < (l.length : Int)) (fun h1 => ?_) (fun h1 => ?_)
  ·
    refine st rfl (o_y (v := .bool true) (y_t (y_k (v := .bool (decide ((k : Int) < (l.length : Int)))) rfl rfl (fun _ => by kernel_rfl)) h1) rfl rfl rfl ?_)
    refine s_nil ?_
    refine q_then ?_
    refine c_seq ?_
    refine c_true rfl ?_
    refine c_skip ?_
    refine q_then ?_
    refine c_seq ?_
    refine c_block ?_
    refine c_seq ?_
    refine c_region ?_
    refine e_at 0 k rfl (by first | omega | (simp only [List.length_append, List.length_map, List.length_take, List.length_drop]; omega)) (fun b1 o1 x1 hA1 hx1 => ?_)
    refine st rfl (o_y (v := .pointer (some ⟨b1, o1 + k * 7, none⟩)) (y_at (d := recTy) (l := l) k hA1 rfl rfl rfl (rfl) (List.getElem?_eq_some_iff.1 hx1).1 Tryd.underlying22 (by kernel_rfl) (by kernel_rfl)) rfl rfl rfl ?_)
    refine st rfl (o_ldnf 0 0 7 rfl rfl rfl rfl Tryd.underlying28 rfl (by kernel_rfl) (by kernel_rfl) rfl ?_)
    refine st rfl (o_box (cs := [.int .i64 0, .int .i64 0, .int .i64 0, .int .i64 0, .int .i64 0, .int .u64 0, .int .i64 0]) (T := 28) rfl rfl rfl rfl (fun _ => by kernel_rfl) (fun b2 => ?_))
    refine st rfl (o_st 0 rfl rfl rfl rfl rfl (by kernel_rfl) (by kernel_rfl) rfl ?_)
    refine s_nil ?_
    refine q_then ?_
    refine c_seq ?_
    refine c_region ?_
    refine st rfl (o_y (v := .pointer (some ⟨b2, 0, none⟩)) (y_k rfl rfl (fun _ => by kernel_rfl)) rfl rfl rfl ?_)
    refine st rfl (o_ld 0 rfl rfl rfl Tryd.underlying3 rfl rfl ?_)
    refine st rfl (o_y (v := .int .i64 who) (y_mv rfl) rfl rfl rfl ?_)
    refine st rfl (o_y (v := .pointer (some ⟨b2, 2, none⟩)) (y_k rfl rfl (fun _ => by kernel_rfl)) rfl rfl rfl ?_)
    refine st rfl (o_ld 0 rfl rfl rfl Tryd.underlying3 rfl rfl ?_)
    refine st rfl (o_y (v := .pointer (some ⟨b2, 3, none⟩)) (y_k rfl rfl (fun _ => by kernel_rfl)) rfl rfl rfl ?_)
    refine st rfl (o_ld 0 rfl rfl rfl Tryd.underlying23 rfl rfl ?_)
    refine st rfl (o_y (v := .pointer (some ⟨b2, 4, none⟩)) (y_k rfl rfl (fun _ => by kernel_rfl)) rfl rfl rfl ?_)
    refine st rfl (o_ldn 0 3 rfl rfl rfl rfl Tryd.underlying26 rfl (by kernel_rfl) (by kernel_rfl) rfl ?_)
    refine st rfl (o_y (v := .agg #[.int .i64 x1.st, .int .i64 who, .int .i64 x1.op, .int .i64 x1.e, .int .i64 x1.lab.lv, .int .u64 (x1.lab.cs : Int), .int .i64 x1.lab.ig]) (y_k rfl rfl (fun _ => by kernel_rfl)) rfl rfl rfl ?_)
    refine st rfl (o_box (cs := [.int .i64 0, .int .i64 0, .int .i64 0, .int .i64 0, .int .i64 0, .int .u64 0, .int .i64 0]) (T := 28) rfl rfl rfl rfl (fun _ => by kernel_rfl) (fun b3 => ?_))
    refine st rfl (o_st 0 rfl rfl rfl rfl rfl (by kernel_rfl) (by kernel_rfl) rfl ?_)
    refine s_nil ?_
    refine q_then ?_
    refine c_seq ?_
    refine c_region ?_
    refine st rfl (o_ldn 1 7 rfl rfl rfl rfl Tryd.underlying28 rfl (by kernel_rfl) (by kernel_rfl) rfl ?_)
    refine st rfl (o_ldn 0 7 rfl rfl rfl rfl Tryd.underlying28 rfl (by kernel_rfl) (by kernel_rfl) rfl ?_)
    refine e_by (x1 = (⟨x1.st, who, x1.op, x1.e, x1.lab⟩ : Rec)) (fun h2 => ?_) (fun h2 => ?_)
    ·
      refine st rfl (o_y (v := .bool true) (y_t (y_bin rfl rfl (fun w => eq_Rec x1 (⟨x1.st, who, x1.op, x1.e, x1.lab⟩ : Rec) w)) h2) rfl rfl rfl ?_)
      refine s_nil ?_
      refine q_then ?_
      refine c_true rfl ?_
      refine c_region ?_
      refine st rfl (o_y (v := .int .i64 (q : Int)) (y_mv rfl) rfl rfl rfl ?_)
      refine st rfl (o_y (v := .int .i64 ((q : Int) + 1)) (y_add (r := (q : Int) + 1) rfl rfl rfl (by have := filt_len (fun x => decide (x.who = who)) l k; omega)) rfl rfl rfl ?_)
      refine st rfl (o_y (v := .int .i64 ((q : Int) + 1)) (y_as rfl) rfl rfl rfl ?_)
      refine s_nil ?_
      refine q_block ?_
      refine q_then ?_
      refine c_region ?_
      refine st rfl (o_y (v := .int .i64 ((k : Int) + 1)) (y_add (r := (k : Int) + 1) rfl rfl rfl (by have := filt_len (fun x => decide (x.who = who)) l k; omega)) rfl rfl rfl ?_)
      refine st rfl (o_y (v := .int .i64 ((k : Int) + 1)) (y_mv rfl) rfl rfl rfl ?_)
      refine s_nil ?_
      refine q_then ?_
      refine c_next [] [1] (k + 1, q + 1) ?_ ?_ ?_ (by rfl) (by rfl)
      · exact (show ((k + 1) ≤ l.length) ∧ ((q + 1) = ((l.take (k + 1)).filter fun x => decide (x.who = who)).length) from ⟨by first | omega | simp_all | (simp; done), by first | (rw [filt_t hx1 (by simpa using (show x1.who = who by first | assumption | exact cnt_t (by assumption))), List.length_append, hq]; rfl) | (rw [filt_f hx1 (by simpa using (show ¬ x1.who = who by first | assumption | exact cnt_f (by assumption))), hq])⟩)
      · show l.length - (k + 1) < l.length - k; omega
      · exact (.cons rfl rfl (.cons rfl rfl (.cons rfl (show (.int .i64 ((q : Int) + 1) : Value) = .int .i64 ((q + 1) : Int) from by first | rfl | (congr 1; omega) | (congr 1; simp; done) | (congr 1; simp; omega)) (.cons rfl rfl (.cons rfl rfl (.cons rfl (show (.int .i64 ((k : Int) + 1) : Value) = .int .i64 ((k + 1) : Int) from by first | rfl | (congr 1; omega) | (congr 1; simp; done) | (congr 1; simp; omega)) .nil))))))
    ·
      refine st rfl (o_y (v := .bool false) (y_f (y_bin rfl rfl (fun w => eq_Rec x1 (⟨x1.st, who, x1.op, x1.e, x1.lab⟩ : Rec) w)) h2) rfl rfl rfl ?_)
      refine s_nil ?_
      refine q_then ?_
      refine c_false rfl ?_
      refine c_skip ?_
      refine q_block ?_
      refine q_then ?_
      refine c_region ?_
      refine st rfl (o_y (v := .int .i64 ((k : Int) + 1)) (y_add (r := (k : Int) + 1) rfl rfl rfl (by have := filt_len (fun x => decide (x.who = who)) l k; omega)) rfl rfl rfl ?_)
      refine st rfl (o_y (v := .int .i64 ((k : Int) + 1)) (y_mv rfl) rfl rfl rfl ?_)
      refine s_nil ?_
      refine q_then ?_
      refine c_next [] [1] (k + 1, q) ?_ ?_ ?_ (by rfl) (by rfl)
      · exact (show ((k + 1) ≤ l.length) ∧ (q = ((l.take (k + 1)).filter fun x => decide (x.who = who)).length) from ⟨by first | omega | simp_all | (simp; done), by first | (rw [filt_t hx1 (by simpa using (show x1.who = who by first | assumption | exact cnt_t (by assumption))), List.length_append, hq]; rfl) | (rw [filt_f hx1 (by simpa using (show ¬ x1.who = who by first | assumption | exact cnt_f (by assumption))), hq])⟩)
      · show l.length - (k + 1) < l.length - k; omega
      · exact (.cons rfl rfl (.cons rfl rfl (.cons rfl rfl (.cons rfl rfl (.cons rfl rfl (.cons rfl (show (.int .i64 ((k : Int) + 1) : Value) = .int .i64 ((k + 1) : Int) from by first | rfl | (congr 1; omega) | (congr 1; simp; done) | (congr 1; simp; omega)) .nil))))))
  ·
    refine st rfl (o_y (v := .bool false) (y_f (y_k (v := .bool (decide ((k : Int) < (l.length : Int)))) rfl rfl (fun _ => by kernel_rfl)) h1) rfl rfl rfl ?_)
    refine s_nil ?_
    refine q_then ?_
    refine c_seq ?_
    refine c_false rfl ?_
    refine c_exit ?_
    refine q_then_exit ?_
    refine q_then_exit ?_
    refine q_block_here ?_
    refine q_then ?_
    refine c_seq ?_
    refine c_region ?_
    refine st rfl (o_y (v := .int .i64 (q : Int)) (y_mv rfl) rfl rfl rfl ?_)
    refine st rfl (o_y (v := .int .i64 (q : Int)) (y_as rfl) rfl rfl rfl ?_)
    refine s_nil ?_
    refine q_then ?_
    refine c_ret ?_
    refine c_fin (I' := []) [] [0] rfl (.tmp rfl .nil) rfl rfl rfl ?_
    exact ⟨by have e0 : k = l.length := (by omega); simp only [packed, hq, e0, List.take_length, countF], rfl, rfl⟩
theorem rCount_ (A : Option Addr) (c : Nat) (l : List Rec) (who : Int) (hs : l.length ≤ 1000000) : Con Tryd.prog 26 [.slice A l.length c, .int .i64 who] [] [rd recTy A c l] (fun v L' I' => v = .int .i64 (countF l who : Int) ∧ L' = [] ∧ I' = []) := by
  refine fn_of Tryd.func26 rfl Tryd.ntmps26 (by kernel_rfl) rfl (fun C => ?_)
  refine c_seq ?_
  refine c_region ?_
  refine st rfl (o_y (v := .int .i64 0) (y_as rfl) rfl rfl rfl ?_)
  refine s_nil ?_
  refine q_then ?_
  refine c_seq ?_
  refine c_region ?_
  refine st rfl (o_y (v := .int .i64 0) (y_as rfl) rfl rfl rfl ?_)
  refine s_nil ?_
  refine q_then ?_
  refine c_seq ?_
  refine c_seq ?_
  refine c_region ?_
  refine st rfl (o_y (v := .int .i64 0) (y_as rfl) rfl rfl rfl ?_)
  refine s_nil ?_
  refine q_then ?_
  refine c_block ?_
  refine c_loopn (ι := Nat × Nat) (fun (k, q) => (k ≤ l.length) ∧ (q = ((l.take k).filter fun x => decide (x.who = who)).length)) (fun (k, q) => [(0, .slice A l.length c), (1, .int .i64 who), (4, .int .i64 0), (5, .int .i64 (q : Int)), (6, .int .i64 (k : Int))]) (fun (k, q) => []) (fun (k, q) => [rd recTy A c l]) (fun (k, q) => l.length - k) (0, 0) [] [0] (show (0 ≤ l.length) ∧ (0 = ((l.take 0).filter fun x => decide (x.who = who)).length) from ⟨by first | omega | simp_all | (simp; done), by simp⟩) ((.cons rfl rfl (.cons rfl rfl (.cons rfl rfl (.cons rfl rfl (.cons rfl rfl .nil)))))) rfl rfl ?_
  rintro ⟨k, q⟩ ⟨hk, hq⟩
  show Ent 23 C [(0, .slice A l.length c), (1, .int .i64 who), (4, .int .i64 0), (5, .int .i64 (q : Int)), (6, .int .i64 (k : Int))] [] [] [rd recTy A c l] _
  refine c_seq ?_
  refine c_seq ?_
  refine c_region ?_
  refine st rfl (o_y (v := .int .i64 (k : Int)) (y_mv rfl) rfl rfl rfl ?_)
  refine st rfl (o_y (v := .slice A l.length c) (y_mv rfl) rfl rfl rfl ?_)
  refine st rfl (o_y (v := .int .i64 (l.length : Int)) (y_k rfl rfl (fun _ => by kernel_rfl)) rfl rfl rfl ?_)
  refine e_by ((k : Int) < (l.length : Int)) (fun h1 => ?_) (fun h1 => ?_)
  ·
    refine st rfl (o_y (v := .bool true) (y_t (y_k (v := .bool (decide ((k : Int) < (l.length : Int)))) rfl rfl (fun _ => by kernel_rfl)) h1) rfl rfl rfl ?_)
    refine s_nil ?_
    refine q_then ?_
    refine c_true rfl ?_
    refine c_skip ?_
    refine q_then ?_
    refine c_seq ?_
    refine c_block ?_
    refine c_seq ?_
    refine c_region ?_
    refine st rfl (o_y (v := .slice A l.length c) (y_mv rfl) rfl rfl rfl ?_)
    refine st rfl (o_y (v := .int .i64 (k : Int)) (y_mv rfl) rfl rfl rfl ?_)
    refine e_at 0 k rfl (by first | omega | (simp only [List.length_append, List.length_map, List.length_take, List.length_drop]; omega)) (fun b1 o1 x1 hA1 hx1 => ?_)
    refine st rfl (o_y (v := .pointer (some ⟨b1, o1 + k * 7, none⟩)) (y_at (d := recTy) (l := l) k hA1 rfl rfl rfl (rfl) (List.getElem?_eq_some_iff.1 hx1).1 Tryd.underlying22 (by kernel_rfl) (by kernel_rfl)) rfl rfl rfl ?_)
    refine st rfl (o_y (v := .pointer (some ⟨b1, o1 + k * 7 + 1, none⟩)) (y_k rfl rfl (fun _ => by kernel_rfl)) rfl rfl rfl ?_)
    refine st rfl (o_ldf 0 1 rfl rfl rfl Tryd.underlying3 rfl rfl ?_)
    refine st rfl (o_y (v := .int .i64 who) (y_mv rfl) rfl rfl rfl ?_)
    refine e_by (x1.who = who) (fun h2 => ?_) (fun h2 => ?_)
    ·
      refine st rfl (o_y (v := .bool true) (y_b (y_k (v := .bool (x1.who == who)) rfl rfl (fun _ => by kernel_rfl)) (beq_iff_eq.2 h2)) rfl rfl rfl ?_)
      refine s_nil ?_
      refine q_then ?_
      refine c_true rfl ?_
      refine c_region ?_
      refine st rfl (o_y (v := .int .i64 (q : Int)) (y_mv rfl) rfl rfl rfl ?_)
      refine st rfl (o_y (v := .int .i64 ((q : Int) + 1)) (y_add (r := (q : Int) + 1) rfl rfl rfl (by have := filt_len (fun x => decide (x.who = who)) l k; omega)) rfl rfl rfl ?_)
      refine st rfl (o_y (v := .int .i64 ((q : Int) + 1)) (y_as rfl) rfl rfl rfl ?_)
      refine s_nil ?_
      refine q_block ?_
      refine q_then ?_
      refine c_region ?_
      refine st rfl (o_y (v := .int .i64 (k : Int)) (y_mv rfl) rfl rfl rfl ?_)
      refine st rfl (o_y (v := .int .i64 ((k : Int) + 1)) (y_add (r := (k : Int) + 1) rfl rfl rfl (by have := filt_len (fun x => decide (x.who = who)) l k; omega)) rfl rfl rfl ?_)
      refine st rfl (o_y (v := .int .i64 ((k : Int) + 1)) (y_as rfl) rfl rfl rfl ?_)
      refine s_nil ?_
      refine q_then ?_
      refine c_next [] [1] (k + 1, q + 1) ?_ ?_ ?_ (by rfl) (by rfl)
      · exact (show ((k + 1) ≤ l.length) ∧ ((q + 1) = ((l.take (k + 1)).filter fun x => decide (x.who = who)).length) from ⟨by first | omega | simp_all | (simp; done), by first | (rw [filt_t hx1 (by simpa using (show x1.who = who by first | assumption | exact cnt_t (by assumption))), List.length_append, hq]; rfl) | (rw [filt_f hx1 (by simpa using (show ¬ x1.who = who by first | assumption | exact cnt_f (by assumption))), hq])⟩)
      · show l.length - (k + 1) < l.length - k; omega
      · exact (.cons rfl rfl (.cons rfl rfl (.cons rfl rfl (.cons rfl (show (.int .i64 ((q : Int) + 1) : Value) = .int .i64 ((q + 1) : Int) from by first | rfl | (congr 1; omega) | (congr 1; simp; done) | (congr 1; simp; omega)) (.cons rfl (show (.int .i64 ((k : Int) + 1) : Value) = .int .i64 ((k + 1) : Int) from by first | rfl | (congr 1; omega) | (congr 1; simp; done) | (congr 1; simp; omega)) .nil)))))
    ·
      refine st rfl (o_y (v := .bool false) (y_b (y_k (v := .bool (x1.who == who)) rfl rfl (fun _ => by kernel_rfl)) (beq_eq_false_iff_ne.2 h2)) rfl rfl rfl ?_)
      refine s_nil ?_
      refine q_then ?_
      refine c_false rfl ?_
      refine c_skip ?_
      refine q_block ?_
      refine q_then ?_
      refine c_region ?_
      refine st rfl (o_y (v := .int .i64 (k : Int)) (y_mv rfl) rfl rfl rfl ?_)
      refine st rfl (o_y (v := .int .i64 ((k : Int) + 1)) (y_add (r := (k : Int) + 1) rfl rfl rfl (by have := filt_len (fun x => decide (x.who = who)) l k; omega)) rfl rfl rfl ?_)
      refine st rfl (o_y (v := .int .i64 ((k : Int) + 1)) (y_as rfl) rfl rfl rfl ?_)
      refine s_nil ?_
      refine q_then ?_
      refine c_next [] [1] (k + 1, q) ?_ ?_ ?_ (by rfl) (by rfl)
      · exact (show ((k + 1) ≤ l.length) ∧ (q = ((l.take (k + 1)).filter fun x => decide (x.who = who)).length) from ⟨by first | omega | simp_all | (simp; done), by first | (rw [filt_t hx1 (by simpa using (show x1.who = who by first | assumption | exact cnt_t (by assumption))), List.length_append, hq]; rfl) | (rw [filt_f hx1 (by simpa using (show ¬ x1.who = who by first | assumption | exact cnt_f (by assumption))), hq])⟩)
      · show l.length - (k + 1) < l.length - k; omega
      · exact (.cons rfl rfl (.cons rfl rfl (.cons rfl rfl (.cons rfl rfl (.cons rfl (show (.int .i64 ((k : Int) + 1) : Value) = .int .i64 ((k + 1) : Int) from by first | rfl | (congr 1; omega) | (congr 1; simp; done) | (congr 1; simp; omega)) .nil)))))
  ·
    refine st rfl (o_y (v := .bool false) (y_f (y_k (v := .bool (decide ((k : Int) < (l.length : Int)))) rfl rfl (fun _ => by kernel_rfl)) h1) rfl rfl rfl ?_)
    refine s_nil ?_
    refine q_then ?_
    refine c_false rfl ?_
    refine c_exit ?_
    refine q_then_exit ?_
    refine q_then_exit ?_
    refine q_block_here ?_
    refine q_then ?_
    refine c_seq ?_
    refine c_region ?_
    refine st rfl (o_y (v := .int .i64 (q : Int)) (y_mv rfl) rfl rfl rfl ?_)
    refine st rfl (o_y (v := .int .i64 (q : Int)) (y_as rfl) rfl rfl rfl ?_)
    refine s_nil ?_
    refine q_then ?_
    refine c_ret ?_
    refine c_fin (I' := []) [] [0] rfl (.tmp rfl .nil) rfl rfl rfl ?_
    exact ⟨by have e0 : k = l.length := (by omega); simp only [packed, hq, e0, List.take_length, countF], rfl, rfl⟩
end Go.Proofs.YtdfgedkjilpcgaaDoor
