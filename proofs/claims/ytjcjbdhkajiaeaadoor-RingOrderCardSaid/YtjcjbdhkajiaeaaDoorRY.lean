/- Contracts of package ring, its reference and its laws, walked over the given program; no condition but what stands in each: part Y. -/
import Derived.Test.YtjcjbdhkajiaeaaDoorRP
import Derived.Test.YtjcjbdhkajiaeaaDoorSlW
import Derived.Test.YtjcjbdhkajiaeaaDoorCards
import Derived.Test.YtjcjbdhkajiaeaaDoorTie
import Derived.SevenTiedAt
set_option linter.unusedVariables false
set_option linter.unusedSimpArgs false
set_option maxRecDepth 100000
namespace Go.Proofs.YtjcjbdhkajiaeaaDoor
open Go Go.Sl Go.RowKit Go.Extern.Stop Go.Stop Go.Extern

theorem right_nil' {max : Int} (h : 0 ≤ max ∧ max ≤ 2000) : right max [] := ⟨h, (fun s hs => by cases hs), (by simp only [takesN]; omega)⟩
theorem right_dropk' {max : Int} : ∀ {l : List ByteArray} {k : Nat}, right max l → right max (l.drop k)
  | l, 0, h => by simpa using h
  | [], k + 1, h => by simpa using h
  | s :: r, k + 1, h => by simpa using right_dropk' (k := k) (right_drop h)
theorem addF_take (max : Int) : ∀ (r a : List ByteArray), (addF max a r).1 = a ++ r.take (addF max a r).2 ∧ (addF max a r).2 ≤ r.length
  | [], a => by simp [addF]
  | s :: r, a => by
    obtain ⟨h1, h2⟩ := addF_take max r (a ++ [s])
    unfold addF
    split
    · refine ⟨?_, by simp; omega⟩
      rw [h1]; simp
    · simp
theorem allF_nil {max : Int} (h : 0 ≤ max ∧ max ≤ 2000) (r : List ByteArray) : (allF max [] r).1 = max ∧ (allF max [] r).2.1 = r.take (allF max [] r).2.2.1 ∧ (allF max [] r).2.2.1 ≤ r.length ∧ (allF max [] r).2.2.2 = 0 ∧ right max (r.take (allF max [] r).2.2.1) := by
  have hr := right_nil' h
  have e : allF max [] r = (max, (addF max [] r).1, (addF max [] r).2, 0) := allF_ok hr rfl
  obtain ⟨h1, h2⟩ := addF_take max r []
  have h3 := right_addF (r := r) hr
  rw [e]
  simp only [List.nil_append] at h1
  refine ⟨rfl, h1, h2, rfl, ?_⟩
  rw [← h1]; exact h3
theorem order_step {max : Int} (h : 0 ≤ max ∧ max ≤ 2000) (r : List ByteArray) {k : Nat} (hk : k < (allF max [] r).2.2.1) : ∃ x, r[k]? = some x ∧ takeF max ((r.take (allF max [] r).2.2.1).drop k) = (x, max, (r.take (allF max [] r).2.2.1).drop (k + 1), 0) := by
  obtain ⟨_, _, h3, _, h5⟩ := allF_nil h r
  have hlt : k < r.length := by omega
  refine ⟨r[k], List.getElem?_eq_getElem hlt, ?_⟩
  have h6 := right_dropk' (k := k) h5
  have hx : ((r.take (allF max [] r).2.2.1).drop k)[0]? = some r[k] := by
    rw [List.getElem?_drop, Nat.add_zero, List.getElem?_take, if_pos hk, List.getElem?_eq_getElem hlt]
  rw [takeF_ok h6 hx, List.drop_drop]
theorem order_end {max : Int} (h : 0 ≤ max ∧ max ≤ 2000) (r : List ByteArray) {k : Nat} (hk : ¬ k < (allF max [] r).2.2.1) : (r.take (allF max [] r).2.2.1).drop k = [] := List.drop_eq_nil_of_le (by simp; omega)
set_option maxHeartbeats 1000000 in
theorem RingOrder_ (max : Int) (B : Option Addr) (d : Nat) (r : List ByteArray) (ea : Addr) (ef : Addr) (ee : Addr) (h12 : ea ≠ ef) (h13 : ea ≠ ee) (h23 : ef ≠ ee) : Con Tryd.prog 8 [.int .i64 max, .slice B r.length d] [] [rd strTy B d r, cellsAt 1 0 [.iface 80 (.pointer (some ea))], cellsAt 2 0 [.iface 80 (.pointer (some ef))], cellsAt 0 0 [.iface 80 (.pointer (some ee))], errAt ea, errAt ef, errAt ee] (fun v L' I' => v = .bool true ∧ L' = [] ∧ I' = []) := by
  refine fn_of Tryd.func8 rfl Tryd.ntmps8 (by kernel_rfl) rfl (fun C => ?_)
  refine c_seq ?_
  refine c_region ?_
  refine st rfl (o_y (v := .bool false) (y_as rfl) rfl rfl rfl ?_)
  refine s_nil ?_
  refine q_then ?_
  refine c_seq ?_
  refine c_region ?_
  refine st rfl (o_call [] [1, 2, 3, 4, 5, 6] (shown_ ea ef ee (by assumption) (by assumption) (by assumption)) rfl rfl rfl rfl rfl rfl (fun v L' I' hq1 => ?_))
  obtain ⟨rfl, rfl, rfl⟩ := hq1
  refine st rfl (o_y (v := .bool true) (y_as rfl) rfl rfl rfl ?_)
  refine s_nil ?_
  refine q_then ?_
  refine c_seq ?_
  refine c_region ?_
  refine st rfl (o_y (v := .slice B r.length d) (y_mv rfl) rfl rfl rfl ?_)
  refine st rfl (o_call [] [0] (few_ B d r) rfl rfl rfl rfl rfl rfl (fun v L' I' hq2 => ?_))
  obtain ⟨A1, c1, h24, h25, rfl, rfl, rfl⟩ := hq2
  refine st rfl (o_y (v := .slice A1 (fewL r).length c1) (y_as rfl) rfl rfl rfl ?_)
  refine s_nil ?_
  refine q_then ?_
  refine c_seq ?_
  refine c_region ?_
  refine st rfl (o_y (v := .int .i64 max) (y_mv rfl) rfl rfl rfl ?_)
  refine st rfl (o_call [] [1, 2, 3, 4, 5, 6] (New_ max ea ef ee (by assumption) (by assumption) (by assumption)) rfl rfl rfl rfl rfl rfl (fun v L' I' hq3 => ?_))
  rcases hq3 with ⟨h26, rfl, rfl, rfl⟩ | ⟨h27, rfl, rfl, rfl⟩
  ·
    refine st rfl (o_y (v := .tuple #[.agg #[.int .i64 max, .slice none 0 0], .int .i64 0]) (y_mv rfl) rfl rfl rfl ?_)
    refine st rfl (o_y (v := .agg #[.int .i64 max, .slice none 0 0]) (y_k rfl rfl (fun _ => by kernel_rfl)) rfl rfl rfl ?_)
    refine st rfl (o_y (v := .int .i64 0) (y_k rfl rfl (fun _ => by kernel_rfl)) rfl rfl rfl ?_)
    refine st rfl (o_box (cs := [.int .i64 0, .slice none 0 0]) (T := 24) rfl rfl rfl rfl (fun _ => by kernel_rfl) (fun b1 => ?_))
    refine st rfl (o_st 0 rfl rfl rfl rfl rfl (by kernel_rfl) (by kernel_rfl) rfl ?_)
    refine st rfl (o_y (v := .int .i64 0) (y_as rfl) rfl rfl rfl ?_)
    refine s_nil ?_
    refine q_then ?_
    refine c_seq ?_
    refine c_seq ?_
    refine c_region ?_
    refine st rfl (o_y (v := .int .i64 0) (y_mv rfl) rfl rfl rfl ?_)
    refine st rfl (o_y (v := .bool false) (y_k rfl rfl (fun _ => by kernel_rfl)) rfl rfl rfl ?_)
    refine s_nil ?_
    refine q_then ?_
    refine c_false rfl ?_
    refine c_skip ?_
    refine q_then ?_
    refine c_seq ?_
    refine c_region ?_
    refine st rfl (o_ldn 0 2 rfl rfl rfl rfl Tryd.underlying24 rfl (by kernel_rfl) (by kernel_rfl) rfl ?_)
    refine st rfl (o_y (v := .slice A1 (fewL r).length c1) (y_mv rfl) rfl rfl rfl ?_)
    refine e_rdnil strTy none 0 ?_
    refine st rfl (o_lend [1] [] [0, 2, 3, 4, 5, 6, 7] (Con.wide (I2 := [rd strTy A1 c1 (fewL r), rd strTy none 0 ([] : List ByteArray), cellsAt 1 0 [.iface 80 (.pointer (some ea))], cellsAt 2 0 [.iface 80 (.pointer (some ef))], cellsAt 0 0 [.iface 80 (.pointer (some ee))], errAt ea, errAt ef, errAt ee]) (All_ none 0 ([] : List ByteArray) A1 c1 (fewL r) max ea ef ee (by assumption) (by assumption) (by assumption) (by first | assumption | exact small_put _ _ _ | exact small_take _ _ | exact small_all _ _ _ | exact small_nil | exact small_right (by assumption) | exact small_one (small_at (by assumption) hx1) | exact small_one (by assumption)) (by first | assumption | exact small_put _ _ _ | exact small_take _ _ | exact small_all _ _ _ | exact small_nil | exact small_right (by assumption) | exact small_one (small_at (by assumption) hx1) | exact small_one (by assumption))) (by intro φ h; simp only [List.mem_cons, List.not_mem_nil, or_false] at h ⊢; grind)) (.cons lend_ars .nil) rfl rfl rfl rfl rfl rfl rfl rfl (fun v L' I' hq4 => ?_))
    obtain ⟨A2, c2, rfl, rfl, rfl⟩ := hq4
    refine ⟨rfl, ?_⟩
    refine st rfl (o_y (v := .tuple #[.agg #[.int .i64 ((allF max ([] : List ByteArray) (fewL r)).1), .slice A2 ((allF max ([] : List ByteArray) (fewL r)).2.1).length c2], .int .i64 ((allF max ([] : List ByteArray) (fewL r)).2.2.1 : Int), .int .i64 ((allF max ([] : List ByteArray) (fewL r)).2.2.2)]) (y_mv rfl) rfl rfl rfl ?_)
    refine st rfl (o_y (v := .agg #[.int .i64 ((allF max ([] : List ByteArray) (fewL r)).1), .slice A2 ((allF max ([] : List ByteArray) (fewL r)).2.1).length c2]) (y_k rfl rfl (fun _ => by kernel_rfl)) rfl rfl rfl ?_)
    refine st rfl (o_y (v := .int .i64 ((allF max ([] : List ByteArray) (fewL r)).2.2.1 : Int)) (y_k rfl rfl (fun _ => by kernel_rfl)) rfl rfl rfl ?_)
    refine st rfl (o_y (v := .int .i64 ((allF max ([] : List ByteArray) (fewL r)).2.2.2)) (y_k rfl rfl (fun _ => by kernel_rfl)) rfl rfl rfl ?_)
    refine st rfl (o_box (cs := [.int .i64 0, .slice none 0 0]) (T := 24) rfl rfl rfl rfl (fun _ => by kernel_rfl) (fun b2 => ?_))
    refine st rfl (o_st 0 rfl rfl rfl rfl rfl (by kernel_rfl) (by kernel_rfl) rfl ?_)
    refine st rfl (o_y (v := .int .i64 ((allF max ([] : List ByteArray) (fewL r)).2.2.1 : Int)) (y_as rfl) rfl rfl rfl ?_)
    refine st rfl (o_y (v := .int .i64 ((allF max ([] : List ByteArray) (fewL r)).2.2.2)) (y_as rfl) rfl rfl rfl ?_)
    refine s_nil ?_
    refine q_then ?_
    refine c_seq ?_
    refine c_seq ?_
    refine c_region ?_
    refine st rfl (o_y (v := .int .i64 ((allF max ([] : List ByteArray) (fewL r)).2.2.2)) (y_mv rfl) rfl rfl rfl ?_)
    have h28 : (allF max ([] : List ByteArray) (fewL r)).2.2.2 = 0 := (allF_nil (by assumption) (fewL r)).2.2.2.1
    refine st rfl (o_y (v := .bool false) (y_b (y_k (v := .bool (((allF max ([] : List ByteArray) (fewL r)).2.2.2) != 0)) rfl rfl (fun _ => by kernel_rfl)) (bne_eq_false_iff_eq.2 h28)) rfl rfl rfl ?_)
    refine st rfl (o_y (v := .bool false) (y_mv rfl) rfl rfl rfl ?_)
    refine st_on 42 rfl rfl rfl (o_y (v := .int .i64 ((allF max ([] : List ByteArray) (fewL r)).2.2.1 : Int)) (y_mv rfl) rfl rfl rfl ?_)
    have h29 : ¬ (((allF max ([] : List ByteArray) (fewL r)).2.2.1 : Int) < 0) := by omega
    refine st_on 42 rfl rfl rfl (o_y (v := .bool false) (y_f (y_k (v := .bool (decide (((allF max ([] : List ByteArray) (fewL r)).2.2.1 : Int) < 0))) rfl rfl (fun _ => by kernel_rfl)) h29) rfl rfl rfl ?_)
    refine st rfl (o_y (v := .bool false) (y_pick rfl rfl) rfl rfl rfl ?_)
    refine st rfl (o_y (v := .bool false) (y_mv rfl) rfl rfl rfl ?_)
    refine st_on 46 rfl rfl rfl (o_y (v := .int .i64 ((allF max ([] : List ByteArray) (fewL r)).2.2.1 : Int)) (y_mv rfl) rfl rfl rfl ?_)
    refine st_on 46 rfl rfl rfl (o_y (v := .slice A1 (fewL r).length c1) (y_mv rfl) rfl rfl rfl ?_)
    refine st_on 46 rfl rfl rfl (o_y (v := .int .i64 ((fewL r).length : Int)) (y_k rfl rfl (fun _ => by kernel_rfl)) rfl rfl rfl ?_)
    have h30 : ¬ (((allF max ([] : List ByteArray) (fewL r)).2.2.1 : Int) > ((fewL r).length : Int)) := by have := (allF_nil (max := max) (by assumption) (fewL r)).2.2.1; omega
    refine st_on 46 rfl rfl rfl (o_y (v := .bool false) (y_f (y_k (v := .bool (decide (((allF max ([] : List ByteArray) (fewL r)).2.2.1 : Int) > ((fewL r).length : Int)))) rfl rfl (fun _ => by kernel_rfl)) h30) rfl rfl rfl ?_)
    refine st rfl (o_y (v := .bool false) (y_pick rfl rfl) rfl rfl rfl ?_)
    refine s_nil ?_
    refine q_then ?_
    refine c_false rfl ?_
    refine c_skip ?_
    refine q_then ?_
    refine c_seq ?_
    refine c_seq ?_
    refine c_region ?_
    refine st rfl (o_y (v := .int .i64 0) (y_as rfl) rfl rfl rfl ?_)
    refine s_nil ?_
    refine q_then ?_
    refine c_block ?_
    refine e_still 2 rfl ?_
    refine c_loopn (ι := Nat × Int × (Option Addr) × Nat × (List ByteArray)) (fun (k, mq, Aq, cq, lq) => (k ≤ (allF max ([] : List ByteArray) (fewL r)).2.2.1) ∧ (mq = max) ∧ (lq = ((fewL r).take (allF max ([] : List ByteArray) (fewL r)).2.2.1).drop k) ∧ (small lq)) (fun (k, mq, Aq, cq, lq) => [(1, .slice A1 (fewL r).length c1), (5, .bool true), (6, .pointer (some ⟨b1, 0, none⟩)), (8, .pointer (some ⟨b2, 0, none⟩)), (9, .int .i64 ((allF max ([] : List ByteArray) (fewL r)).2.2.1 : Int)), (11, .int .i64 (k : Int))]) (fun (k, mq, Aq, cq, lq) => [pt b2 [.int .i64 mq, .slice Aq lq.length cq] 24, win strTy 9 Aq cq lq, pt b1 [.int .i64 max, .slice none 0 0] 24]) (fun (k, mq, Aq, cq, lq) => [rd strTy A1 c1 (fewL r), rd strTy none 0 [], rd strTy B d r, cellsAt 1 0 [.iface 80 (.pointer (some ea))], cellsAt 2 0 [.iface 80 (.pointer (some ef))], cellsAt 0 0 [.iface 80 (.pointer (some ee))], errAt ea, errAt ef, errAt ee]) (fun (k, mq, Aq, cq, lq) => (allF max ([] : List ByteArray) (fewL r)).2.2.1 - k) (0, (allF max ([] : List ByteArray) (fewL r)).1, A2, c2, (allF max ([] : List ByteArray) (fewL r)).2.1) [0, 0, 0] [0, 1, 2, 3, 4, 5, 6, 7, 8] (show (0 ≤ (allF max ([] : List ByteArray) (fewL r)).2.2.1) ∧ (((allF max ([] : List ByteArray) (fewL r)).1) = max) ∧ (((allF max ([] : List ByteArray) (fewL r)).2.1) = ((fewL r).take (allF max ([] : List ByteArray) (fewL r)).2.2.1).drop 0) ∧ (small ((allF max ([] : List ByteArray) (fewL r)).2.1)) from ⟨by omega, (allF_nil (by assumption) (fewL r)).1, by rw [List.drop_zero]; exact (allF_nil (by assumption) (fewL r)).2.1, small_all _ _ _⟩) ((.cons rfl rfl (.cons rfl rfl (.cons rfl rfl (.cons rfl rfl (.cons rfl rfl (.cons rfl rfl .nil))))))) rfl rfl ?_
    rintro ⟨k, mq, Aq, cq, lq⟩ ⟨hk, hm, hl, hsm⟩
    show Ent 90 C [(1, .slice A1 (fewL r).length c1), (5, .bool true), (6, .pointer (some ⟨b1, 0, none⟩)), (8, .pointer (some ⟨b2, 0, none⟩)), (9, .int .i64 ((allF max ([] : List ByteArray) (fewL r)).2.2.1 : Int)), (11, .int .i64 (k : Int))] [] [pt b2 [.int .i64 mq, .slice Aq lq.length cq] 24, win strTy 9 Aq cq lq, pt b1 [.int .i64 max, .slice none 0 0] 24] [rd strTy A1 c1 (fewL r), rd strTy none 0 [], rd strTy B d r, cellsAt 1 0 [.iface 80 (.pointer (some ea))], cellsAt 2 0 [.iface 80 (.pointer (some ef))], cellsAt 0 0 [.iface 80 (.pointer (some ee))], errAt ea, errAt ef, errAt ee] _
    refine c_seq ?_
    refine c_seq ?_
    refine c_region ?_
    refine st rfl (o_y (v := .int .i64 (k : Int)) (y_mv rfl) rfl rfl rfl ?_)
    refine st rfl (o_y (v := .int .i64 ((allF max ([] : List ByteArray) (fewL r)).2.2.1 : Int)) (y_mv rfl) rfl rfl rfl ?_)
    refine e_by ((k : Int) < ((allF max ([] : List ByteArray) (fewL r)).2.2.1 : Int)) (fun h31 => ?_) (fun h31 => ?_)
    ·
      refine st rfl (o_y (v := .bool true) (y_t (y_k (v := .bool (decide ((k : Int) < ((allF max ([] : List ByteArray) (fewL r)).2.2.1 : Int)))) rfl rfl (fun _ => by kernel_rfl)) h31) rfl rfl rfl ?_)
      refine s_nil ?_
      refine q_then ?_
      refine c_true rfl ?_
      refine c_skip ?_
      refine q_then ?_
      refine c_seq ?_
      refine c_block ?_
      refine c_seq ?_
      refine c_region ?_
      refine st rfl (o_ldn 0 2 rfl rfl rfl rfl Tryd.underlying24 rfl (by kernel_rfl) (by kernel_rfl) rfl ?_)
      refine st rfl (o_lend [1] [] [3, 4, 5, 6, 7, 8] (Take_ Aq cq lq mq ea ef ee (by assumption) (by assumption) (by assumption) (by first | assumption | exact small_put _ _ _ | exact small_take _ _ | exact small_all _ _ _ | exact small_nil | exact small_right (by assumption) | exact small_one (small_at (by assumption) hx1) | exact small_one (by assumption))) (.cons lend_win .nil) rfl rfl rfl rfl rfl rfl rfl rfl (fun v L' I' hq5 => ?_))
      obtain ⟨A3, c3, rfl, rfl, rfl⟩ := hq5
      refine ⟨rfl, ?_⟩
      refine st rfl (o_y (v := .tuple #[.string ((takeF mq lq).1), .agg #[.int .i64 ((takeF mq lq).2.1), .slice A3 ((takeF mq lq).2.2.1).length c3], .int .i64 ((takeF mq lq).2.2.2)]) (y_mv rfl) rfl rfl rfl ?_)
      refine st rfl (o_y (v := .string ((takeF mq lq).1)) (y_k rfl rfl (fun _ => by kernel_rfl)) rfl rfl rfl ?_)
      refine st rfl (o_y (v := .agg #[.int .i64 ((takeF mq lq).2.1), .slice A3 ((takeF mq lq).2.2.1).length c3]) (y_k rfl rfl (fun _ => by kernel_rfl)) rfl rfl rfl ?_)
      refine st rfl (o_y (v := .int .i64 ((takeF mq lq).2.2.2)) (y_k rfl rfl (fun _ => by kernel_rfl)) rfl rfl rfl ?_)
      refine st rfl (o_box (cs := [.int .i64 0, .slice none 0 0]) (T := 24) rfl rfl rfl rfl (fun _ => by kernel_rfl) (fun b3 => ?_))
      refine st rfl (o_y (v := .string ((takeF mq lq).1)) (y_as rfl) rfl rfl rfl ?_)
      refine st rfl (o_st 0 rfl rfl rfl rfl rfl (by kernel_rfl) (by kernel_rfl) rfl ?_)
      refine st rfl (o_y (v := .int .i64 ((takeF mq lq).2.2.2)) (y_as rfl) rfl rfl rfl ?_)
      refine s_nil ?_
      refine q_then ?_
      refine c_seq ?_
      refine c_seq ?_
      refine c_region ?_
      refine st rfl (o_y (v := .int .i64 ((takeF mq lq).2.2.2)) (y_mv rfl) rfl rfl rfl ?_)
      have h32 : (takeF mq lq).2.2.2 = 0 := by obtain ⟨x, hx, he⟩ := order_step (max := max) (by assumption) (fewL r) (k := k) (by omega); rw [hm, hl, he]
      refine st rfl (o_y (v := .bool false) (y_b (y_k (v := .bool (((takeF mq lq).2.2.2) != 0)) rfl rfl (fun _ => by kernel_rfl)) (bne_eq_false_iff_eq.2 h32)) rfl rfl rfl ?_)
      refine st rfl (o_y (v := .bool false) (y_mv rfl) rfl rfl rfl ?_)
      refine st_on 65 rfl rfl rfl (o_y (v := .string ((takeF mq lq).1)) (y_mv rfl) rfl rfl rfl ?_)
      refine st_on 65 rfl rfl rfl (o_y (v := .slice A1 (fewL r).length c1) (y_mv rfl) rfl rfl rfl ?_)
      refine st_on 65 rfl rfl rfl (o_y (v := .int .i64 (k : Int)) (y_mv rfl) rfl rfl rfl ?_)
      refine e_at 0 k rfl (by have := (allF_nil (max := max) (by assumption) (fewL r)).2.2.1; omega) (fun b4 o1 x1 hA1 hx1 => ?_)
      refine st_on 65 rfl rfl rfl (o_y (v := .pointer (some ⟨b4, o1 + k * 1, none⟩)) (y_at (d := strTy) (l := fewL r) k hA1 rfl rfl rfl (rfl) (List.getElem?_eq_some_iff.1 hx1).1 Tryd.underlying22 (by kernel_rfl) (by kernel_rfl)) rfl rfl rfl ?_)
      refine st_on 65 rfl rfl rfl (o_ldf 0 0 rfl rfl rfl Tryd.underlying9 rfl rfl ?_)
      have h33 : (takeF mq lq).1 = x1 := by obtain ⟨x, hx, he⟩ := order_step (max := max) (by assumption) (fewL r) (k := k) (by omega); rw [hm, hl, he]; rw [hx1] at hx; exact (Option.some.inj hx).symm
      refine st_on 65 rfl rfl rfl (o_y (v := .bool false) (y_b (y_k (v := .bool (!(((takeF mq lq).1).toList == x1.toList))) rfl rfl (fun _ => by kernel_rfl)) (str_nt h33)) rfl rfl rfl ?_)
      refine st rfl (o_y (v := .bool false) (y_pick rfl rfl) rfl rfl rfl ?_)
      refine s_nil ?_
      refine q_then ?_
      refine c_false rfl ?_
      refine c_skip ?_
      refine q_then ?_
      refine c_region ?_
      refine st rfl (o_ldn 0 2 rfl rfl rfl rfl Tryd.underlying24 rfl (by kernel_rfl) (by kernel_rfl) rfl ?_)
      refine st rfl (o_st 3 rfl rfl rfl rfl rfl (by kernel_rfl) (by kernel_rfl) rfl ?_)
      refine s_nil ?_
      refine q_block ?_
      refine q_then ?_
      refine c_region ?_
      refine st rfl (o_y (v := .int .i64 (k : Int)) (y_mv rfl) rfl rfl rfl ?_)
      refine st rfl (o_y (v := .int .i64 ((k : Int) + 1)) (y_add (r := (k : Int) + 1) rfl rfl rfl (by have := (allF_nil (max := max) (by assumption) (fewL r)).2.2.1; omega)) rfl rfl rfl ?_)
      refine st rfl (o_y (v := .int .i64 ((k : Int) + 1)) (y_as rfl) rfl rfl rfl ?_)
      refine s_nil ?_
      refine q_then ?_
      refine c_next [3, 1, 2] [1, 2, 3, 4, 5, 6, 7, 8, 9] (k + 1, (takeF mq lq).2.1, A3, c3, (takeF mq lq).2.2.1) ?_ ?_ ?_ (by rfl) (by rfl)
      · exact (show ((k + 1) ≤ (allF max ([] : List ByteArray) (fewL r)).2.2.1) ∧ (((takeF mq lq).2.1) = max) ∧ (((takeF mq lq).2.2.1) = ((fewL r).take (allF max ([] : List ByteArray) (fewL r)).2.2.1).drop (k + 1)) ∧ (small ((takeF mq lq).2.2.1)) from ⟨by omega, by obtain ⟨x, hx, he⟩ := order_step (max := max) (by assumption) (fewL r) (k := k) (by omega); rw [hm, hl, he], by obtain ⟨x, hx, he⟩ := order_step (max := max) (by assumption) (fewL r) (k := k) (by omega); rw [hm, hl, he], small_take _ _⟩)
      · show (allF max ([] : List ByteArray) (fewL r)).2.2.1 - (k + 1) < (allF max ([] : List ByteArray) (fewL r)).2.2.1 - k; omega
      · exact (.cons rfl rfl (.cons rfl rfl (.cons rfl rfl (.cons rfl rfl (.cons rfl rfl (.cons rfl (show (.int .i64 ((k : Int) + 1) : Value) = .int .i64 ((k + 1) : Int) from by first | rfl | (congr 1; omega) | (congr 1; simp; done) | (congr 1; simp; omega)) .nil))))))
    ·
      refine st rfl (o_y (v := .bool false) (y_f (y_k (v := .bool (decide ((k : Int) < ((allF max ([] : List ByteArray) (fewL r)).2.2.1 : Int)))) rfl rfl (fun _ => by kernel_rfl)) h31) rfl rfl rfl ?_)
      refine s_nil ?_
      refine q_then ?_
      refine c_false rfl ?_
      refine c_exit ?_
      refine q_then_exit ?_
      refine q_then_exit ?_
      refine q_block_here ?_
      refine q_then ?_
      refine c_seq ?_
      refine c_region ?_
      refine st rfl (o_ldn 0 2 rfl rfl rfl rfl Tryd.underlying24 rfl (by kernel_rfl) (by kernel_rfl) rfl ?_)
      refine st rfl (o_lend [1] [] [3, 4, 5, 6, 7, 8] (Take_ Aq cq lq mq ea ef ee (by assumption) (by assumption) (by assumption) (by first | assumption | exact small_put _ _ _ | exact small_take _ _ | exact small_all _ _ _ | exact small_nil | exact small_right (by assumption) | exact small_one (small_at (by assumption) hx1) | exact small_one (by assumption))) (.cons lend_win .nil) rfl rfl rfl rfl rfl rfl rfl rfl (fun v L' I' hq6 => ?_))
      obtain ⟨A4, c4, rfl, rfl, rfl⟩ := hq6
      refine ⟨rfl, ?_⟩
      refine st rfl (o_y (v := .tuple #[.string ((takeF mq lq).1), .agg #[.int .i64 ((takeF mq lq).2.1), .slice A4 ((takeF mq lq).2.2.1).length c4], .int .i64 ((takeF mq lq).2.2.2)]) (y_mv rfl) rfl rfl rfl ?_)
      refine st rfl (o_y (v := .string ((takeF mq lq).1)) (y_k rfl rfl (fun _ => by kernel_rfl)) rfl rfl rfl ?_)
      refine st rfl (o_y (v := .agg #[.int .i64 ((takeF mq lq).2.1), .slice A4 ((takeF mq lq).2.2.1).length c4]) (y_k rfl rfl (fun _ => by kernel_rfl)) rfl rfl rfl ?_)
      refine st rfl (o_y (v := .int .i64 ((takeF mq lq).2.2.2)) (y_k rfl rfl (fun _ => by kernel_rfl)) rfl rfl rfl ?_)
      refine st rfl (o_box (cs := [.int .i64 0, .slice none 0 0]) (T := 24) rfl rfl rfl rfl (fun _ => by kernel_rfl) (fun b5 => ?_))
      refine st rfl (o_y (v := .string ((takeF mq lq).1)) (y_as rfl) rfl rfl rfl ?_)
      refine st rfl (o_st 0 rfl rfl rfl rfl rfl (by kernel_rfl) (by kernel_rfl) rfl ?_)
      refine st rfl (o_y (v := .int .i64 ((takeF mq lq).2.2.2)) (y_as rfl) rfl rfl rfl ?_)
      refine s_nil ?_
      refine q_then ?_
      refine c_seq ?_
      refine c_region ?_
      refine st rfl (o_y (v := .bool true) (y_mv rfl) rfl rfl rfl ?_)
      refine st rfl (o_y (v := .bool true) (y_mv rfl) rfl rfl rfl ?_)
      refine st_on 81 rfl rfl rfl (o_y (v := .int .i64 ((takeF mq lq).2.2.2)) (y_mv rfl) rfl rfl rfl ?_)
      have h34 : (takeF mq lq).2.2.2 = 81 := by rw [hm, hl, order_end (by assumption) (fewL r) (by omega), takeF_nil (right_nil' (by assumption)) rfl]
      refine st_on 81 rfl rfl rfl (o_y (v := .bool true) (y_b (y_k (v := .bool (((takeF mq lq).2.2.2) == 81)) rfl rfl (fun _ => by kernel_rfl)) (beq_iff_eq.2 h34)) rfl rfl rfl ?_)
      refine st rfl (o_y (v := .bool true) (y_pick rfl rfl) rfl rfl rfl ?_)
      refine st rfl (o_y (v := .bool true) (y_mv rfl) rfl rfl rfl ?_)
      refine st_on 85 rfl rfl rfl (o_ldn 3 2 rfl rfl rfl rfl Tryd.underlying24 rfl (by kernel_rfl) (by kernel_rfl) rfl ?_)
      refine st_on 85 rfl rfl rfl (o_ldn 4 2 rfl rfl rfl rfl Tryd.underlying24 rfl (by kernel_rfl) (by kernel_rfl) rfl ?_)
      refine st_on 85 rfl rfl rfl (o_lend [2] [] [1] (Same_ Aq cq lq none 0 ([] : List ByteArray) mq max (by first | assumption | exact small_put _ _ _ | exact small_take _ _ | exact small_all _ _ _ | exact small_nil | exact small_right (by assumption) | exact small_one (small_at (by assumption) hx1) | exact small_one (by assumption))) (.cons lend_win .nil) rfl rfl rfl rfl rfl rfl rfl rfl (fun v L' I' hq7 => ?_))
      obtain ⟨hv1, rfl, rfl⟩ := hq7
      refine ⟨rfl, ?_⟩
      obtain rfl : v = .bool true := by rw [hv1, decide_eq_true (show mq = max ∧ lq = ([] : List ByteArray) from ⟨hm, by rw [hl, order_end (by assumption) (fewL r) (by omega)]⟩)]
      refine st rfl (o_y (v := .bool true) (y_pick rfl rfl) rfl rfl rfl ?_)
      refine st rfl (o_y (v := .bool true) (y_as rfl) rfl rfl rfl ?_)
      refine s_nil ?_
      refine q_then ?_
      refine c_ret ?_
      refine c_fin (I' := []) [] [2, 3, 4, 5, 6, 7, 8] rfl (.tmp rfl .nil) rfl rfl rfl ?_
      exact ⟨rfl, rfl, rfl⟩
  ·
    refine st rfl (o_y (v := .tuple #[.agg #[.int .i64 0, .slice none 0 0], .int .i64 2]) (y_mv rfl) rfl rfl rfl ?_)
    refine st rfl (o_y (v := .agg #[.int .i64 0, .slice none 0 0]) (y_k rfl rfl (fun _ => by kernel_rfl)) rfl rfl rfl ?_)
    refine st rfl (o_y (v := .int .i64 2) (y_k rfl rfl (fun _ => by kernel_rfl)) rfl rfl rfl ?_)
    refine st rfl (o_box (cs := [.int .i64 0, .slice none 0 0]) (T := 24) rfl rfl rfl rfl (fun _ => by kernel_rfl) (fun b6 => ?_))
    refine st rfl (o_st 0 rfl rfl rfl rfl rfl (by kernel_rfl) (by kernel_rfl) rfl ?_)
    refine st rfl (o_y (v := .int .i64 2) (y_as rfl) rfl rfl rfl ?_)
    refine s_nil ?_
    refine q_then ?_
    refine c_seq ?_
    refine c_seq ?_
    refine c_region ?_
    refine st rfl (o_y (v := .int .i64 2) (y_mv rfl) rfl rfl rfl ?_)
    refine st rfl (o_y (v := .bool true) (y_k rfl rfl (fun _ => by kernel_rfl)) rfl rfl rfl ?_)
    refine s_nil ?_
    refine q_then ?_
    refine c_true rfl ?_
    refine c_seq ?_
    refine c_region ?_
    refine st rfl (o_y (v := .bool true) (y_mv rfl) rfl rfl rfl ?_)
    refine st rfl (o_y (v := .bool true) (y_mv rfl) rfl rfl rfl ?_)
    refine st_on 29 rfl rfl rfl (o_y (v := .int .i64 2) (y_mv rfl) rfl rfl rfl ?_)
    refine st_on 29 rfl rfl rfl (o_y (v := .bool true) (y_k rfl rfl (fun _ => by kernel_rfl)) rfl rfl rfl ?_)
    refine st rfl (o_y (v := .bool true) (y_pick rfl rfl) rfl rfl rfl ?_)
    refine st rfl (o_y (v := .bool true) (y_as rfl) rfl rfl rfl ?_)
    refine s_nil ?_
    refine q_then ?_
    refine c_ret ?_
    refine q_then_ret ?_
    refine c_fin (I' := []) [] [0, 1, 2, 3, 4, 5, 6] rfl (.tmp rfl .nil) rfl rfl rfl ?_
    exact ⟨rfl, rfl, rfl⟩
open Go.ChangeShapes Go.WideShapes Go.ChangeAt Go.Joins
theorem own : ownKnob Tryd.prog.godebug = none := by kernel_rfl
theorem laidOut : laidOutB Tryd.prog = true := by kernel_rfl
theorem gn0 : Tryd.prog.globalNamed "plimsoll/ring.errArg" = some 1 := by kernel_rfl
theorem gt0 : (Tryd.prog.globals[1]?).map (·.type) = some 47 := by kernel_rfl
theorem gn1 : Tryd.prog.globalNamed "plimsoll/ring.errFull" = some 2 := by kernel_rfl
theorem gt1 : (Tryd.prog.globals[2]?).map (·.type) = some 47 := by kernel_rfl
theorem gn2 : Tryd.prog.globalNamed "plimsoll/ring.errEmpty" = some 0 := by kernel_rfl
theorem gt2 : (Tryd.prog.globals[0]?).map (·.type) = some 47 := by kernel_rfl
theorem cellsE : Tryd.prog.cellsOf 105 = 1 := by kernel_rfl
theorem cellsS : Tryd.prog.cellsOf 9 = 1 := by kernel_rfl
theorem star : "*" ++ "errors.errorString" = "*errors.errorString" := by decide
theorem rowP (u : TypeId) (h : Tryd.prog.typeName? 3 u = some "*errors.errorString") : u = 80 :=
  typeName_ptr_named (nm := "errors.errorString") (by rw [star]; kernel_rfl) (by kernel_rfl) (by decide) u (by rw [star]; exact h)
noncomputable def laidL : List (String × DataW Unit) := Rows.ringOrderRow.laid
theorem door_met (os : Os) (args : Array Value) : laidMetH Tryd.prog laidL ((World.doorLaid Tryd.prog 400 os).forCall (fun _ _ => 0) ⟨#[], args, []⟩).memory :=
  laidMetH_of_parts3 (fuel := 8) (laidMet_of_run' 8 (by kernel_rfl) (by kernel_rfl)) (by kernel_rfl) (by kernel_rfl)
theorem of_laid {W : World} (h : laidMetH Tryd.prog laidL W) : ∃ a0 a1 a2 : Addr, Sent Tryd.prog W "plimsoll/ring.errArg" 1 80 a0 ∧ Sent Tryd.prog W "plimsoll/ring.errFull" 2 80 a1 ∧ Sent Tryd.prog W "plimsoll/ring.errEmpty" 0 80 a2 ∧ a0 ≠ a1 ∧ a0 ≠ a2 ∧ a1 ≠ a2 := by
  rw [MakeChecks.laidMetH_plain _ _ _ (by kernel_rfl)] at h
  exact laid3 h gn0 gt0 gn1 gt1 gn2 gt2 Tryd.underlying47 rowP Tryd.underlying80 Tryd.underlying105 rfl rfl Tryd.underlying9 cellsE cellsS
theorem errFact {P : Program} {W : World} {n : String} {g : Nat} {tp : TypeId} {a : Addr} (h : Sent P W n g tp a) : ∀ k, le (hpOf W) k → errAt a k := fun k hk => by
  obtain ⟨c, t, hb⟩ := h.blk
  exact ⟨c, t, hk _ _ hb⟩
set_option maxRecDepth 100000 in
theorem ringOrder_lifted (os : Os) (started : os.Started) (H : Type) (enc : TypeId × Value → H) :
    ReturnsInHanded {} Tryd.checked os 8 .any (fun w args => (Rows.ringOrderSpec.pre enc Tryd.prog Tryd.f8 [] false w args ∧ laidMetH Tryd.prog laidL w) ∧ sizedMet enc Tryd.prog Tryd.f8 (OpenSpec.ofChange Rows.ringOrderSpec) false w args)
      (Rows.ringOrderSpec.post enc Tryd.prog Tryd.f8 false true false false) := by
  refine returnsInHanded_of_change_and (C := Tryd.checked) (X := fun w _ => laidMetH Tryd.prog laidL w) (fun _ _ _ hh h => h.of_heap hh) own started (by kernel_rfl) Tryd.func8
    (ChangeSpec.witness_shaped (enc := enc) (C := Tryd.checked) (os := os) (X := fun w _ => laidMetH Tryd.prog laidL w) false (World.doorLaid Tryd.prog 400 os) #[.int .i64 0, .slice none 0 0] 8 rfl (World.shaped_of_RefB (by kernel_rfl) (by kernel_rfl)) (by kernel_rfl) (by kernel_rfl) (by kernel_rfl) (door_met os _)) ?_
  intro W base args ds gs before hval0 hW _ _ hL _
  have hval : ∀ (j : Nat) t v, Tryd.f8.params[j]? = some t → args[j]? = some v → Value.okWide Tryd.prog W .any base t v := hval0
  have hW' := hW
  obtain ⟨p, q, hA0, hV, rfl, hfz, hnd⟩ := hW
  have hA : DataW.TrodAll enc Tryd.prog W 0 (fun _ => true) true Tryd.f8.params.toList args.toList ds p := hA0
  rw [Tryd.params8] at hA hval
  obtain ⟨v0, v1, d0, d1, p0, p1, rfl, rfl, rfl, h0, h1⟩ := trodAll_two hA
  obtain ⟨rfl, rfl⟩ := trodVars_none hV
  obtain ⟨a0, a1, a2, s0, s1, s2, n01, n02, n12⟩ := of_laid hL
  clear hA0 hval0 hL
  simp only [List.append_nil] at hW'
  have t0 := h0
  obtain ⟨n0, rfl⟩ := okWide_int Tryd.underlying3 (hval 0 3 _ rfl rfl)
  have t1 := h1
  obtain ⟨fu1, hf1⟩ := h1
  obtain ⟨_, _, _, rfl⟩ := okWide_slice Tryd.underlying22 (hval 1 22 _ rfl rfl)
  obtain ⟨A1, c1, l1, he1, hr1⟩ := open_texts Tryd.underlying22 Tryd.underlying9 (by kernel_rfl) hf1
  simp only [Value.slice.injEq] at he1
  obtain ⟨qa1, qb1, qc1⟩ := he1
  have qa1' := qa1.symm
  have qc1' := qc1.symm
  subst qa1'
  subst qb1
  subst qc1'
  refine (con_calls (RingOrder_ n0 A1 c1 l1 a0 a1 a2 n01 n02 n12) (Facts.cons (hr1) (Facts.cons (sent_facts s0) (Facts.cons (sent_facts s1) (Facts.cons (sent_facts s2) (Facts.cons (errFact s0) (Facts.cons (errFact s1) (Facts.cons (errFact s2) (Facts.nil _))))))))).mono fun e W' ⟨he, hb⟩ => ?_
  subst he
  have hlt : ∀ x ∈ p0 ++ p1, x.block < W.heap.size := fun x hx => by simpa using hW'.lt x (by simpa using hx)
  exact ⟨_, rfl, [d0, d1], [], _, [], p0 ++ p1, [], hW', trodAll_mk1 (shut_bool Tryd.underlying4 true), trodAll_mk2 (Below.trod laidOut (by kernel_rfl) (of_decide_eq_true (by kernel_rfl)) t0 hb (fun x hx => hlt x (by simp [hx]))) (Below.trod laidOut (by kernel_rfl) (of_decide_eq_true (by kernel_rfl)) t1 hb (fun x hx => hlt x (by simp [hx]))), rfl, hb.frame _, fun h => by cases h⟩
theorem ringOrder_holds : Rows.RingOrderSaid :=
  OpenClaim.holds_of_wide 8 Tryd.f8 rfl rfl rfl rfl rfl rfl rfl ⟨rfl, rfl, rfl, rfl, rfl⟩ rfl rfl rfl rfl rfl (by kernel_rfl) Tryd.func8 (by kernel_rfl)
    (of_decide_eq_true (by kernel_rfl)) (by unfold Func.isWrapper; first | (rw [if_pos (by decide +kernel)]; kernel_rfl) | (rw [if_neg (by decide +kernel)]; exact ⟨rfl, rfl⟩))
    (fun os started H enc _ => ringOrder_lifted os started H enc)
/-- The tied card. -/
theorem ringOrder_card : Rows.RingOrderCardSaid :=
  Claim7.holds_tied_plain_at .later [] [.sentinel, .sentinel, .sentinel] true (true, "b786713441a752de7acee6366f0947f351ff51927903928e5be71e03e352de47") true
    ringOrder_holds (fun _ h => by cases h) (by kernel_rfl) (fun _ h => by cases h) ringOrder_row_tie rfl ⟨rfl, rfl⟩ (by kernel_rfl) rfl
    (fun f fn hf hfn => by
      obtain rfl : f = 8 := Option.some.inj ((show Tryd.prog.funcNamed "plimsoll/plimsolllaw08.RingOrder" = some 8 by kernel_rfl).symm.trans hf) |>.symm
      obtain rfl : fn = Tryd.f8 := (Option.some.inj (Tryd.func8.symm.trans hfn)).symm
      exact ⟨by kernel_rfl, fun j t ht => by
        rw [Tryd.params8] at ht
        have hm : t ∈ [3, 22] := by simpa using Array.mem_of_getElem? ht
        have hall : ([3, 22].all fun u => !Tryd.prog.wantsStandIn u) = true := by kernel_rfl
        exact (show Tryd.prog.wantsStandIn t = false by simpa using List.all_eq_true.1 hall t hm)⟩)
    (by kernel_rfl)
#print axioms ringOrder_card
end Go.Proofs.YtjcjbdhkajiaeaaDoor
