/- Contracts of package ring, its reference and its laws, walked over the given program; no condition but what stands in each: part N. -/
import Derived.Test.YtjcjbdhkajiaeaaDoorRM
set_option linter.unusedVariables false
set_option linter.unusedSimpArgs false
set_option maxRecDepth 100000
namespace Go.Proofs.YtjcjbdhkajiaeaaDoor
open Go Go.Sl Go.RowKit Go.Extern.Stop Go.Stop Go.Extern
theorem rAll_ (A : Option Addr) (c : Nat) (l : List ByteArray) (B : Option Addr) (d : Nat) (r : List ByteArray) (max : Int) (hs : small l) (hsr : small r) : Con Tryd.prog 17 [.agg #[.int .i64 max, .slice A l.length c], .slice B r.length d] [] [rd strTy A c l, rd strTy B d r] (fun v L' I' => ∃ A1 : Option Addr, ∃ c1 : Nat, v = .tuple #[.agg #[.int .i64 ((allF max l r).1), .slice A1 ((allF max l r).2.1).length c1], .int .i64 ((allF max l r).2.2.1 : Int), .int .i64 ((allF max l r).2.2.2)] ∧ L' = [] ∧ I' = [rd strTy A1 c1 ((allF max l r).2.1)]) := by
  refine fn_of Tryd.func17 rfl Tryd.ntmps17 (by kernel_rfl) rfl (fun C => ?_)
  refine c_seq ?_
  refine c_region ?_
  refine st rfl (o_box (cs := [.int .i64 max, .slice A l.length c]) (T := 24) rfl rfl rfl rfl (fun _ => by kernel_rfl) (fun b1 => ?_))
  refine st rfl (o_box (cs := [.int .i64 0, .slice none 0 0]) (T := 24) rfl rfl rfl rfl (fun _ => by kernel_rfl) (fun b2 => ?_))
  refine st rfl (o_y (v := .int .i64 0) (y_as rfl) rfl rfl rfl ?_)
  refine st rfl (o_y (v := .int .i64 0) (y_as rfl) rfl rfl rfl ?_)
  refine s_nil ?_
  refine q_then ?_
  refine c_seq ?_
  refine c_seq ?_
  refine c_region ?_
  refine st rfl (o_ldn 1 2 rfl rfl rfl rfl Tryd.underlying24 rfl (by kernel_rfl) (by kernel_rfl) rfl ?_)
  refine st rfl (o_call [] [0] (rRight_ A c l max (by first | assumption | exact small_put _ _ _ | exact small_take _ _ | exact small_all _ _ _ | exact small_nil | exact small_right (by assumption) | exact small_one (small_at (by assumption) hx1) | exact small_one (by assumption))) rfl rfl rfl rfl rfl rfl (fun v L' I' hq1 => ?_))
  obtain ⟨hv1, rfl, rfl⟩ := hq1
  refine e_by (right max l) (fun h1 => ?_) (fun h1 => ?_)
  ·
    obtain rfl : v = .bool true := by rw [hv1, decide_eq_true h1]
    refine st rfl (o_y (v := .bool false) (y_k rfl rfl (fun _ => by kernel_rfl)) rfl rfl rfl ?_)
    refine s_nil ?_
    refine q_then ?_
    refine c_false rfl ?_
    refine c_skip ?_
    refine q_then ?_
    refine c_seq ?_
    refine c_seq ?_
    refine c_region ?_
    refine st rfl (o_y (v := .int .i64 0) (y_as rfl) rfl rfl rfl ?_)
    refine s_nil ?_
    refine q_then ?_
    refine c_block ?_
    refine c_loopn (ι := Nat × Int × (Option Addr) × Nat × (List ByteArray)) (fun (k, mq, Aq, cq, lq) => (k ≤ r.length) ∧ (mq = max) ∧ (addF max l r = ((addF max lq (r.drop k)).1, k + (addF max lq (r.drop k)).2)) ∧ (right mq lq)) (fun (k, mq, Aq, cq, lq) => [(1, .slice B r.length d), (2, .pointer (some ⟨b1, 0, none⟩)), (4, .pointer (some ⟨b2, 0, none⟩)), (7, .int .i64 (k : Int))]) (fun (k, mq, Aq, cq, lq) => [pt b2 [.int .i64 0, .slice none 0 0] 24, pt b1 [.int .i64 mq, .slice Aq lq.length cq] 24]) (fun (k, mq, Aq, cq, lq) => [rd strTy Aq cq lq, rd strTy A c l, rd strTy B d r]) (fun (k, mq, Aq, cq, lq) => r.length - k) (0, max, A, c, l) [0, 0] [0, 0, 1] (show (0 ≤ r.length) ∧ (max = max) ∧ (addF max l r = ((addF max l (r.drop 0)).1, 0 + (addF max l (r.drop 0)).2)) ∧ (right max l) from ⟨by first | omega | assumption, rfl, by simp, by assumption⟩) ((.cons rfl rfl (.cons rfl rfl (.cons rfl rfl (.cons rfl rfl .nil))))) rfl rfl ?_
    rintro ⟨k, mq, Aq, cq, lq⟩ ⟨hk, hm, hF, hR⟩
    show Ent 37 C [(1, .slice B r.length d), (2, .pointer (some ⟨b1, 0, none⟩)), (4, .pointer (some ⟨b2, 0, none⟩)), (7, .int .i64 (k : Int))] [] [pt b2 [.int .i64 0, .slice none 0 0] 24, pt b1 [.int .i64 mq, .slice Aq lq.length cq] 24] [rd strTy Aq cq lq, rd strTy A c l, rd strTy B d r] _
    refine c_seq ?_
    refine c_seq ?_
    refine c_region ?_
    refine st rfl (o_y (v := .int .i64 (k : Int)) (y_mv rfl) rfl rfl rfl ?_)
    refine st rfl (o_y (v := .slice B r.length d) (y_mv rfl) rfl rfl rfl ?_)
    refine st rfl (o_y (v := .int .i64 (r.length : Int)) (y_k rfl rfl (fun _ => by kernel_rfl)) rfl rfl rfl ?_)
    refine e_by ((k : Int) < (r.length : Int)) (fun h2 => ?_) (fun h2 => ?_)
    ·
      refine st rfl (o_y (v := .bool true) (y_t (y_k (v := .bool (decide ((k : Int) < (r.length : Int)))) rfl rfl (fun _ => by kernel_rfl)) h2) rfl rfl rfl ?_)
      refine s_nil ?_
      refine q_then ?_
      refine c_true rfl ?_
      refine c_skip ?_
      refine q_then ?_
      refine c_seq ?_
      refine c_block ?_
      refine c_seq ?_
      refine e_at 2 k rfl (by first | omega | (simp only [List.length_append, List.length_map, List.length_take, List.length_drop]; omega)) (fun b3 o1 x1 hA1 hx1 => ?_)
      refine c_drawx (l := ticked 12 0) [(⟨b1, 0, none⟩, .int .i64 mq), (⟨b1, 1, none⟩, .slice Aq lq.length cq), (⟨b3, o1 + k * 1, none⟩, .string x1)] [] (by kernel_rfl) rfl rfl (fun Y back => ?_)
      have cut1 : ∀ (A1 : Option Addr) (c1 : Nat) (b4 : Nat), Ent 37 C [(1, .slice B r.length d), (2, .pointer (some ⟨b1, 0, none⟩)), (4, .pointer (some ⟨b2, 0, none⟩)), (7, .int .i64 (k : Int)), (8, .pointer (some ⟨b4, 0, none⟩)), (9, .int .i64 ((putF mq lq x1).2.2)), (14, .int .i64 (k : Int)), (15, .slice B r.length d), (16, .int .i64 (r.length : Int)), (17, .bool true), (20, .tuple #[.agg #[.int .i64 ((putF mq lq x1).1), .slice A1 ((putF mq lq x1).2.1).length c1], .int .i64 ((putF mq lq x1).2.2)]), (21, .agg #[.int .i64 mq, .slice Aq lq.length cq]), (22, .slice B r.length d), (23, .int .i64 (k : Int)), (24, .pointer (some ⟨b3, o1 + k * 1, none⟩)), (25, .string x1), (26, .tuple #[.agg #[.int .i64 ((putF mq lq x1).1), .slice A1 ((putF mq lq x1).2.1).length c1], .int .i64 ((putF mq lq x1).2.2)]), (27, .agg #[.int .i64 ((putF mq lq x1).1), .slice A1 ((putF mq lq x1).2.1).length c1]), (28, .int .i64 ((putF mq lq x1).2.2))] [] [pt b4 [.int .i64 ((putF mq lq x1).1), .slice A1 ((putF mq lq x1).2.1).length c1] 24, pt b2 [.int .i64 0, .slice none 0 0] 24, pt b1 [.int .i64 mq, .slice Aq lq.length cq] 24] [rd strTy A1 c1 ((putF mq lq x1).2.1), cellsAt b3 (o1 + k * 1) [.string x1], rd strTy Aq cq lq, rd strTy A c l, rd strTy B d r] Y := by
        intro A1 c1 b4
        refine back ?_
        refine q_then ?_
        refine c_seq ?_
        refine c_seq ?_
        refine c_region ?_
        refine st rfl (o_y (v := .int .i64 ((putF mq lq x1).2.2)) (y_mv rfl) rfl rfl rfl ?_)
        refine e_by ((putF mq lq x1).2.2 = 0) (fun h3 => ?_) (fun h3 => ?_)
        ·
          refine st rfl (o_y (v := .bool false) (y_b (y_k (v := .bool (((putF mq lq x1).2.2) != 0)) rfl rfl (fun _ => by kernel_rfl)) (bne_eq_false_iff_eq.2 h3)) rfl rfl rfl ?_)
          refine s_nil ?_
          refine q_then ?_
          refine c_false rfl ?_
          refine c_skip ?_
          refine q_then ?_
          refine c_region ?_
          refine st rfl (o_ldn 0 2 rfl rfl rfl rfl Tryd.underlying24 rfl (by kernel_rfl) (by kernel_rfl) rfl ?_)
          refine st rfl (o_st 2 rfl rfl rfl rfl rfl (by kernel_rfl) (by kernel_rfl) rfl ?_)
          refine s_nil ?_
          refine q_block ?_
          refine q_then ?_
          refine c_region ?_
          refine st rfl (o_y (v := .int .i64 (k : Int)) (y_mv rfl) rfl rfl rfl ?_)
          refine st rfl (o_y (v := .int .i64 ((k : Int) + 1)) (y_add (r := (k : Int) + 1) rfl rfl rfl (by have := hsr.1; omega)) rfl rfl rfl ?_)
          refine st rfl (o_y (v := .int .i64 ((k : Int) + 1)) (y_as rfl) rfl rfl rfl ?_)
          refine s_nil ?_
          refine q_then ?_
          obtain ⟨⟨hz1, hz2⟩, hz3⟩ := putF_0 hR (by assumption)
          refine c_next [1, 1] [0, 3, 4] (k + 1, (putF mq lq x1).1, A1, c1, (putF mq lq x1).2.1) ?_ ?_ ?_ (by rfl) (by rfl)
          · exact (show ((k + 1) ≤ r.length) ∧ (((putF mq lq x1).1) = max) ∧ (addF max l r = ((addF max ((putF mq lq x1).2.1) (r.drop (k + 1))).1, (k + 1) + (addF max ((putF mq lq x1).2.1) (r.drop (k + 1))).2)) ∧ (right ((putF mq lq x1).1) ((putF mq lq x1).2.1)) from ⟨by first | omega | assumption, by rw [hz3]; exact hm, by rw [hz3]; exact addF_step hF hx1 hz1 (by rw [← hm]; omega), by rw [hz3]; exact right_add hR hz1 hz2⟩)
          · show r.length - (k + 1) < r.length - k; omega
          · exact (.cons rfl rfl (.cons rfl rfl (.cons rfl rfl (.cons rfl (show (.int .i64 ((k : Int) + 1) : Value) = .int .i64 ((k + 1) : Int) from by first | rfl | (congr 1; omega) | (congr 1; simp; done) | (congr 1; simp; omega)) .nil))))
        ·
          refine st rfl (o_y (v := .bool true) (y_b (y_k (v := .bool (((putF mq lq x1).2.2) != 0)) rfl rfl (fun _ => by kernel_rfl)) (bne_iff_ne.2 h3)) rfl rfl rfl ?_)
          refine s_nil ?_
          refine q_then ?_
          refine c_true rfl ?_
          refine c_seq ?_
          refine c_region ?_
          refine st rfl (o_ldn 2 2 rfl rfl rfl rfl Tryd.underlying24 rfl (by kernel_rfl) (by kernel_rfl) rfl ?_)
          refine st rfl (o_y (v := .int .i64 (k : Int)) (y_mv rfl) rfl rfl rfl ?_)
          refine st rfl (o_st 1 rfl rfl rfl rfl rfl (by kernel_rfl) (by kernel_rfl) rfl ?_)
          refine st rfl (o_y (v := .int .i64 (k : Int)) (y_as rfl) rfl rfl rfl ?_)
          refine st rfl (o_y (v := .int .i64 0) (y_as rfl) rfl rfl rfl ?_)
          refine s_nil ?_
          refine q_then ?_
          refine c_ret ?_
          refine q_then_ret ?_
          refine q_block_ret ?_
          refine q_then_ret ?_
          refine q_then_ret ?_
          refine q_block_ret ?_
          refine q_then_ret ?_
          have hp : allF max l r = (mq, lq, k, 0) := by first | exact allF_no (by assumption) | (rw [hm]; exact allF_ok (by assumption) (addF_stop hF hx1 (by rw [← hm]; exact putF_n0 hR (by assumption)))) | (rw [hm]; have e0 : k = r.length := (by omega); exact allF_ok (by assumption) (by rw [← e0]; exact addF_end hF (by omega)))
          refine c_fin (I' := [rd strTy Aq cq lq]) [] [2, 3, 4] rfl (.agg 1 2 rfl rfl rfl rfl Tryd.underlying24 rfl (by kernel_rfl) (by kernel_rfl) (.tmp rfl (.tmp rfl .nil))) rfl rfl rfl ?_
          rw [hp]
          exact ⟨_, _, rfl, rfl, rfl⟩
      refine a_y (i := 1) (v := .slice B r.length d) (ticked 12 2) rfl (by kernel_rfl) rfl rfl rfl (by exact y_mv rfl) ?_
      refine a_y (i := 2) (v := .int .i64 (k : Int)) (ticked 12 6) rfl (by kernel_rfl) rfl rfl rfl (by exact y_mv rfl) ?_
      refine a_y (i := 3) (v := .pointer (some ⟨b3, o1 + k * 1, none⟩)) (ticked 12 14) rfl (by kernel_rfl) rfl rfl rfl (by exact y_at (d := strTy) (l := r) k hA1 rfl rfl rfl (rfl) (List.getElem?_eq_some_iff.1 hx1).1 Tryd.underlying22 (by kernel_rfl) (by kernel_rfl)) ?_
      refine a_held (i := 0) (ticked 12 15) rfl (by kernel_rfl) rfl rfl rfl (held_pt 1 rfl rfl (held_pt 1 rfl rfl (held_fact (j := 0) 0 rfl rfl held_nil))) (h_ldn (vs := [.int .i64 mq, .slice Aq lq.length cq]) 0 2 rfl rfl rfl Tryd.underlying24 rfl (by kernel_rfl) (by kernel_rfl)) ?_
      refine a_held (i := 4) (ticked 12 31) rfl (by kernel_rfl) rfl rfl rfl (held_pt 1 rfl rfl (held_pt 1 rfl rfl (held_fact (j := 0) 0 rfl rfl held_nil))) (h_ld 2 rfl rfl Tryd.underlying9 rfl) ?_
      refine a_each (rs := [5, 9]) (by kernel_rfl) (.cons (ticked 12 63) rfl rfl rfl ?_ (.cons (ticked 12 543) rfl rfl rfl ?_ .nil)) (List.cons_ne_nil _ _)
      ·
        refine o_call [] [1] (rPut_ Aq cq lq mq x1 (by first | assumption | exact small_put _ _ _ | exact small_take _ _ | exact small_all _ _ _ | exact small_nil | exact small_right (by assumption) | exact small_one (small_at (by assumption) hx1) | exact small_one (by assumption)) (by first | assumption | omega | decide | exact small_at (by assumption) hx1)) rfl rfl rfl rfl rfl rfl (fun v L' I' hq2 => ?_)
        obtain ⟨A2, c2, rfl, rfl, rfl⟩ := hq2
        refine a_and (held_pt 1 rfl rfl (held_pt 1 rfl rfl (held_fact (j := 0) 1 rfl rfl held_nil))) ?_
        refine a_y (i := 6) (v := .tuple #[.agg #[.int .i64 ((putF mq lq x1).1), .slice A2 ((putF mq lq x1).2.1).length c2], .int .i64 ((putF mq lq x1).2.2)]) (ticked 12 127) rfl (by kernel_rfl) rfl rfl rfl (by exact y_mv rfl) ?_
        refine a_y (i := 7) (v := .agg #[.int .i64 ((putF mq lq x1).1), .slice A2 ((putF mq lq x1).2.1).length c2]) (ticked 12 255) rfl (by kernel_rfl) rfl rfl rfl (by exact y_k rfl rfl (fun _ => by kernel_rfl)) ?_
        refine a_y (i := 8) (v := .int .i64 ((putF mq lq x1).2.2)) (ticked 12 511) rfl (by kernel_rfl) rfl rfl rfl (by exact y_k rfl rfl (fun _ => by kernel_rfl)) ?_
        refine a_each (rs := [9]) (by kernel_rfl) (.cons (ticked 12 1023) rfl rfl rfl (o_box (cs := [.int .i64 0, .slice none 0 0]) (T := 24) rfl rfl rfl rfl (fun _ => by kernel_rfl) (fun b5 => ?_)) .nil) (List.cons_ne_nil _ _)
        refine a_and (held_pt 2 rfl rfl (held_pt 2 rfl rfl (held_fact (j := 0) 1 rfl rfl held_nil))) ?_
        refine a_each (rs := [10]) (by kernel_rfl) (.cons (ticked 12 2047) rfl rfl rfl (o_st 0 rfl rfl rfl rfl rfl (by kernel_rfl) (by kernel_rfl) rfl ?_) .nil) (List.cons_ne_nil _ _)
        refine a_and (held_pt 2 rfl rfl (held_pt 2 rfl rfl (held_fact (j := 0) 1 rfl rfl held_nil))) ?_
        refine a_y (i := 11) (v := .int .i64 ((putF mq lq x1).2.2)) (ticked 12 4095) rfl (by kernel_rfl) rfl rfl rfl (by exact y_as rfl) ?_
        refine a_done (by kernel_rfl) ?_
        refine e_norm (e' := [(1, .slice B r.length d), (2, .pointer (some ⟨b1, 0, none⟩)), (4, .pointer (some ⟨b2, 0, none⟩)), (7, .int .i64 (k : Int)), (8, .pointer (some ⟨b5, 0, none⟩)), (9, .int .i64 ((putF mq lq x1).2.2)), (14, .int .i64 (k : Int)), (15, .slice B r.length d), (16, .int .i64 (r.length : Int)), (17, .bool true), (20, .tuple #[.agg #[.int .i64 ((putF mq lq x1).1), .slice A2 ((putF mq lq x1).2.1).length c2], .int .i64 ((putF mq lq x1).2.2)]), (21, .agg #[.int .i64 mq, .slice Aq lq.length cq]), (22, .slice B r.length d), (23, .int .i64 (k : Int)), (24, .pointer (some ⟨b3, o1 + k * 1, none⟩)), (25, .string x1), (26, .tuple #[.agg #[.int .i64 ((putF mq lq x1).1), .slice A2 ((putF mq lq x1).2.1).length c2], .int .i64 ((putF mq lq x1).2.2)]), (27, .agg #[.int .i64 ((putF mq lq x1).1), .slice A2 ((putF mq lq x1).2.1).length c2]), (28, .int .i64 ((putF mq lq x1).2.2))]) [0, 0, 0] [0, 1, 2, 3, 4] ((.cons rfl rfl (.cons rfl rfl (.cons rfl rfl (.cons rfl rfl (.cons rfl rfl (.cons rfl rfl (.cons rfl rfl (.cons rfl rfl (.cons rfl rfl (.cons rfl rfl (.cons rfl rfl (.cons rfl rfl (.cons rfl rfl (.cons rfl rfl (.cons rfl rfl (.cons rfl rfl (.cons rfl rfl (.cons rfl rfl (.cons rfl rfl .nil)))))))))))))))))))) rfl rfl ?_
        exact cut1 A2 c2 b5
      ·
        refine o_box (cs := [.int .i64 0, .slice none 0 0]) (T := 24) rfl rfl rfl rfl (fun _ => by kernel_rfl) (fun b6 => ?_)
        refine a_and (held_pt 2 rfl rfl (held_pt 2 rfl rfl (held_fact (j := 0) 0 rfl rfl held_nil))) ?_
        refine a_each (rs := [5]) (by kernel_rfl) (.cons (ticked 12 575) rfl rfl rfl (o_call [] [1] (rPut_ Aq cq lq mq x1 (by first | assumption | exact small_put _ _ _ | exact small_take _ _ | exact small_all _ _ _ | exact small_nil | exact small_right (by assumption) | exact small_one (small_at (by assumption) hx1) | exact small_one (by assumption)) (by first | assumption | omega | decide | exact small_at (by assumption) hx1)) rfl rfl rfl rfl rfl rfl (fun v L' I' hq3 => ?_)) .nil) (List.cons_ne_nil _ _)
        obtain ⟨A3, c3, rfl, rfl, rfl⟩ := hq3
        refine a_and (held_pt 2 rfl rfl (held_pt 2 rfl rfl (held_fact (j := 0) 1 rfl rfl held_nil))) ?_
        refine a_y (i := 6) (v := .tuple #[.agg #[.int .i64 ((putF mq lq x1).1), .slice A3 ((putF mq lq x1).2.1).length c3], .int .i64 ((putF mq lq x1).2.2)]) (ticked 12 639) rfl (by kernel_rfl) rfl rfl rfl (by exact y_mv rfl) ?_
        refine a_y (i := 7) (v := .agg #[.int .i64 ((putF mq lq x1).1), .slice A3 ((putF mq lq x1).2.1).length c3]) (ticked 12 767) rfl (by kernel_rfl) rfl rfl rfl (by exact y_k rfl rfl (fun _ => by kernel_rfl)) ?_
        refine a_y (i := 8) (v := .int .i64 ((putF mq lq x1).2.2)) (ticked 12 1023) rfl (by kernel_rfl) rfl rfl rfl (by exact y_k rfl rfl (fun _ => by kernel_rfl)) ?_
        refine a_each (rs := [10]) (by kernel_rfl) (.cons (ticked 12 2047) rfl rfl rfl (o_st 0 rfl rfl rfl rfl rfl (by kernel_rfl) (by kernel_rfl) rfl ?_) .nil) (List.cons_ne_nil _ _)
        refine a_and (held_pt 2 rfl rfl (held_pt 2 rfl rfl (held_fact (j := 0) 1 rfl rfl held_nil))) ?_
        refine a_y (i := 11) (v := .int .i64 ((putF mq lq x1).2.2)) (ticked 12 4095) rfl (by kernel_rfl) rfl rfl rfl (by exact y_as rfl) ?_
        refine a_done (by kernel_rfl) ?_
        refine e_norm (e' := [(1, .slice B r.length d), (2, .pointer (some ⟨b1, 0, none⟩)), (4, .pointer (some ⟨b2, 0, none⟩)), (7, .int .i64 (k : Int)), (8, .pointer (some ⟨b6, 0, none⟩)), (9, .int .i64 ((putF mq lq x1).2.2)), (14, .int .i64 (k : Int)), (15, .slice B r.length d), (16, .int .i64 (r.length : Int)), (17, .bool true), (20, .tuple #[.agg #[.int .i64 ((putF mq lq x1).1), .slice A3 ((putF mq lq x1).2.1).length c3], .int .i64 ((putF mq lq x1).2.2)]), (21, .agg #[.int .i64 mq, .slice Aq lq.length cq]), (22, .slice B r.length d), (23, .int .i64 (k : Int)), (24, .pointer (some ⟨b3, o1 + k * 1, none⟩)), (25, .string x1), (26, .tuple #[.agg #[.int .i64 ((putF mq lq x1).1), .slice A3 ((putF mq lq x1).2.1).length c3], .int .i64 ((putF mq lq x1).2.2)]), (27, .agg #[.int .i64 ((putF mq lq x1).1), .slice A3 ((putF mq lq x1).2.1).length c3]), (28, .int .i64 ((putF mq lq x1).2.2))]) [0, 0, 0] [0, 1, 2, 3, 4] ((.cons rfl rfl (.cons rfl rfl (.cons rfl rfl (.cons rfl rfl (.cons rfl rfl (.cons rfl rfl (.cons rfl rfl (.cons rfl rfl (.cons rfl rfl (.cons rfl rfl (.cons rfl rfl (.cons rfl rfl (.cons rfl rfl (.cons rfl rfl (.cons rfl rfl (.cons rfl rfl (.cons rfl rfl (.cons rfl rfl (.cons rfl rfl .nil)))))))))))))))))))) rfl rfl ?_
        exact cut1 A3 c3 b6
    ·
      refine st rfl (o_y (v := .bool false) (y_f (y_k (v := .bool (decide ((k : Int) < (r.length : Int)))) rfl rfl (fun _ => by kernel_rfl)) h2) rfl rfl rfl ?_)
      refine s_nil ?_
      refine q_then ?_
      refine c_false rfl ?_
      refine c_exit ?_
      refine q_then_exit ?_
      refine q_then_exit ?_
      refine q_block_here ?_
      refine q_then ?_
      refine c_seq ?_
      refine c_region ?_
      refine st rfl (o_ldn 1 2 rfl rfl rfl rfl Tryd.underlying24 rfl (by kernel_rfl) (by kernel_rfl) rfl ?_)
      refine st rfl (o_y (v := .slice B r.length d) (y_mv rfl) rfl rfl rfl ?_)
      refine st rfl (o_y (v := .int .i64 (r.length : Int)) (y_k rfl rfl (fun _ => by kernel_rfl)) rfl rfl rfl ?_)
      refine st rfl (o_st 0 rfl rfl rfl rfl rfl (by kernel_rfl) (by kernel_rfl) rfl ?_)
      refine st rfl (o_y (v := .int .i64 (r.length : Int)) (y_as rfl) rfl rfl rfl ?_)
      refine st rfl (o_y (v := .int .i64 0) (y_as rfl) rfl rfl rfl ?_)
      refine s_nil ?_
      refine q_then ?_
      refine c_ret ?_
      have hp : allF max l r = (mq, lq, r.length, 0) := by first | exact allF_no (by assumption) | (rw [hm]; exact allF_ok (by assumption) (addF_stop hF hx1 (by rw [← hm]; exact putF_n0 hR (by assumption)))) | (rw [hm]; have e0 : k = r.length := (by omega); exact allF_ok (by assumption) (by rw [← e0]; exact addF_end hF (by omega)))
      refine c_fin (I' := [rd strTy Aq cq lq]) [] [0, 1, 2] rfl (.agg 0 2 rfl rfl rfl rfl Tryd.underlying24 rfl (by kernel_rfl) (by kernel_rfl) (.tmp rfl (.tmp rfl .nil))) rfl rfl rfl ?_
      rw [hp]
      exact ⟨_, _, rfl, rfl, rfl⟩
  ·
    obtain rfl : v = .bool false := by rw [hv1, decide_eq_false h1]
    refine st rfl (o_y (v := .bool true) (y_k rfl rfl (fun _ => by kernel_rfl)) rfl rfl rfl ?_)
    refine s_nil ?_
    refine q_then ?_
    refine c_true rfl ?_
    refine c_seq ?_
    refine c_region ?_
    refine st rfl (o_y (v := .agg #[.int .i64 0, .slice none 0 0]) (y_k rfl rfl (fun _ => by kernel_rfl)) rfl rfl rfl ?_)
    refine st rfl (o_st 0 rfl rfl rfl rfl rfl (by kernel_rfl) (by kernel_rfl) rfl ?_)
    refine st rfl (o_y (v := .int .i64 0) (y_as rfl) rfl rfl rfl ?_)
    refine st rfl (o_y (v := .int .i64 2) (y_as rfl) rfl rfl rfl ?_)
    refine s_nil ?_
    refine q_then ?_
    refine c_ret ?_
    refine q_then_ret ?_
    have hp : allF max l r = (0, [], 0, 2) := by first | exact allF_no (by assumption) | (rw [hm]; exact allF_ok (by assumption) (addF_stop hF hx1 (by rw [← hm]; exact putF_n0 hR (by assumption)))) | (rw [hm]; have e0 : k = r.length := (by omega); exact allF_ok (by assumption) (by rw [← e0]; exact addF_end hF (by omega)))
    refine e_rdnil strTy none 0 ?_
    refine c_fin (I' := [rd strTy none 0 []]) [] [0, 1, 2] rfl (.agg 0 2 rfl rfl rfl rfl Tryd.underlying24 rfl (by kernel_rfl) (by kernel_rfl) (.tmp rfl (.tmp rfl .nil))) rfl rfl rfl ?_
    rw [hp]
    exact ⟨_, _, rfl, rfl, rfl⟩
end Go.Proofs.YtjcjbdhkajiaeaaDoor
