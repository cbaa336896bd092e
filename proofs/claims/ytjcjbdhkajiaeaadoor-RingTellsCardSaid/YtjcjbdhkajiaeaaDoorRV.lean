/- Contracts of package ring, its reference and its laws, walked over the given program; no condition but what stands in each: part V. -/
import Derived.Test.YtjcjbdhkajiaeaaDoorRP
import Derived.Test.YtjcjbdhkajiaeaaDoorSlW
import Derived.Test.YtjcjbdhkajiaeaaDoorCards
import Derived.Test.YtjcjbdhkajiaeaaDoorTie
import Derived.SevenTiedAt
set_option linter.unusedVariables false
set_option linter.unusedSimpArgs false
set_option maxRecDepth 100000
namespace Go.Proofs.YtjcjbdhkajiaeaaDoor
open Go Go.Sl Go.RowKit Go.Extern.Stop Go.Stop Go.Extern

def newF (max : Int) : Int × Int := if 0 ≤ max ∧ max ≤ 2000 then (max, 0) else (0, 2)
theorem NewF_ (max : Int) (ea : Addr) (ef : Addr) (ee : Addr) (h12 : ea ≠ ef) (h13 : ea ≠ ee) (h23 : ef ≠ ee) : Con Tryd.prog 20 [.int .i64 max] [] [cellsAt 1 0 [.iface 80 (.pointer (some ea))], cellsAt 2 0 [.iface 80 (.pointer (some ef))], cellsAt 0 0 [.iface 80 (.pointer (some ee))], errAt ea, errAt ef, errAt ee] (fun v L' I' => v = .tuple #[.agg #[.int .i64 ((newF max).1), .slice none 0 0], .int .i64 ((newF max).2)] ∧ L' = [] ∧ I' = []) :=
  (New_ max ea ef ee h12 h13 h23).mono (fun v L' I' h => by rcases h with ⟨h, rfl, rfl, rfl⟩ | ⟨h, rfl, rfl, rfl⟩ <;> simp [newF, h])
theorem rNewF_ (max : Int) : Con Tryd.prog 21 [.int .i64 max] [] [] (fun v L' I' => v = .tuple #[.agg #[.int .i64 ((newF max).1), .slice none 0 0], .int .i64 ((newF max).2)] ∧ L' = [] ∧ I' = []) :=
  (rNew_ max).mono (fun v L' I' h => by rcases h with ⟨h, rfl, rfl, rfl⟩ | ⟨h, rfl, rfl, rfl⟩ <;> simp [newF, h])
set_option maxHeartbeats 4000000 in
theorem RingTells_ (A : Option Addr) (c : Nat) (l : List ByteArray) (B : Option Addr) (d : Nat) (r : List ByteArray) (mr : Int) (max : Int) (mx : Int) (item : ByteArray) (ea : Addr) (ef : Addr) (ee : Addr) (h12 : ea ≠ ef) (h13 : ea ≠ ee) (h23 : ef ≠ ee) : Con Tryd.prog 6 [.agg #[.int .i64 max, .slice A l.length c], .int .i64 mx, .string item, .agg #[.int .i64 mr, .slice B r.length d]] [] [rd strTy A c l, rd strTy B d r, cellsAt 1 0 [.iface 80 (.pointer (some ea))], cellsAt 2 0 [.iface 80 (.pointer (some ef))], cellsAt 0 0 [.iface 80 (.pointer (some ee))], errAt ea, errAt ef, errAt ee] (fun v L' I' => v = .bool true ∧ L' = [] ∧ I' = []) := by
  refine fn_of Tryd.func6 rfl Tryd.ntmps6 (by kernel_rfl) rfl (fun C => ?_)
  refine c_seq ?_
  refine c_region ?_
  refine st rfl (o_box (cs := [.int .i64 max, .slice A l.length c]) (T := 24) rfl rfl rfl rfl (fun _ => by kernel_rfl) (fun b1 => ?_))
  refine st rfl (o_box (cs := [.int .i64 mr, .slice B r.length d]) (T := 24) rfl rfl rfl rfl (fun _ => by kernel_rfl) (fun b2 => ?_))
  refine st rfl (o_y (v := .bool false) (y_as rfl) rfl rfl rfl ?_)
  refine s_nil ?_
  refine q_then ?_
  refine c_seq ?_
  refine c_region ?_
  refine st rfl (o_call [] [2, 3, 4, 5, 6, 7] (shown_ ea ef ee (by assumption) (by assumption) (by assumption)) rfl rfl rfl rfl rfl rfl (fun v L' I' hq1 => ?_))
  obtain ⟨rfl, rfl, rfl⟩ := hq1
  refine st rfl (o_y (v := .bool true) (y_as rfl) rfl rfl rfl ?_)
  refine s_nil ?_
  refine q_then ?_
  refine c_seq ?_
  refine c_region ?_
  refine st rfl (o_ldn 1 2 rfl rfl rfl rfl Tryd.underlying24 rfl (by kernel_rfl) (by kernel_rfl) rfl ?_)
  refine st rfl (o_call [] [0] (Few_ A c l max) rfl rfl rfl rfl rfl rfl (fun v L' I' hq2 => ?_))
  obtain ⟨A1, c1, h24, h25, rfl, rfl, rfl⟩ := hq2
  refine st rfl (o_st 2 rfl rfl rfl rfl rfl (by kernel_rfl) (by kernel_rfl) rfl ?_)
  refine s_nil ?_
  refine q_then ?_
  refine c_seq ?_
  refine c_region ?_
  refine st rfl (o_ldn 1 2 rfl rfl rfl rfl Tryd.underlying24 rfl (by kernel_rfl) (by kernel_rfl) rfl ?_)
  refine st rfl (o_call [] [1] (Few_ B d r mr) rfl rfl rfl rfl rfl rfl (fun v L' I' hq3 => ?_))
  obtain ⟨A2, c2, h26, h27, rfl, rfl, rfl⟩ := hq3
  refine st rfl (o_st 2 rfl rfl rfl rfl rfl (by kernel_rfl) (by kernel_rfl) rfl ?_)
  refine s_nil ?_
  refine q_then ?_
  refine c_seq ?_
  refine c_region ?_
  refine st rfl (o_y (v := .int .i64 mx) (y_mv rfl) rfl rfl rfl ?_)
  refine st rfl (o_call [] [2, 3, 4, 5, 6, 7] (NewF_ mx ea ef ee (by assumption) (by assumption) (by assumption)) rfl rfl rfl rfl rfl rfl (fun v L' I' hq4 => ?_))
  obtain ⟨rfl, rfl, rfl⟩ := hq4
  refine st rfl (o_y (v := .tuple #[.agg #[.int .i64 ((newF mx).1), .slice none 0 0], .int .i64 ((newF mx).2)]) (y_mv rfl) rfl rfl rfl ?_)
  refine st rfl (o_y (v := .agg #[.int .i64 ((newF mx).1), .slice none 0 0]) (y_k rfl rfl (fun _ => by kernel_rfl)) rfl rfl rfl ?_)
  refine st rfl (o_y (v := .int .i64 ((newF mx).2)) (y_k rfl rfl (fun _ => by kernel_rfl)) rfl rfl rfl ?_)
  refine st rfl (o_box (cs := [.int .i64 0, .slice none 0 0]) (T := 24) rfl rfl rfl rfl (fun _ => by kernel_rfl) (fun b3 => ?_))
  refine st rfl (o_st 0 rfl rfl rfl rfl rfl (by kernel_rfl) (by kernel_rfl) rfl ?_)
  refine st rfl (o_y (v := .int .i64 ((newF mx).2)) (y_as rfl) rfl rfl rfl ?_)
  refine s_nil ?_
  refine q_then ?_
  refine c_seq ?_
  refine c_region ?_
  refine st rfl (o_y (v := .int .i64 mx) (y_mv rfl) rfl rfl rfl ?_)
  refine st rfl (o_call [] [] (rNewF_ mx) rfl rfl rfl rfl rfl rfl (fun v L' I' hq5 => ?_))
  obtain ⟨rfl, rfl, rfl⟩ := hq5
  refine st rfl (o_y (v := .tuple #[.agg #[.int .i64 ((newF mx).1), .slice none 0 0], .int .i64 ((newF mx).2)]) (y_mv rfl) rfl rfl rfl ?_)
  refine st rfl (o_y (v := .agg #[.int .i64 ((newF mx).1), .slice none 0 0]) (y_k rfl rfl (fun _ => by kernel_rfl)) rfl rfl rfl ?_)
  refine st rfl (o_y (v := .int .i64 ((newF mx).2)) (y_k rfl rfl (fun _ => by kernel_rfl)) rfl rfl rfl ?_)
  refine st rfl (o_box (cs := [.int .i64 0, .slice none 0 0]) (T := 24) rfl rfl rfl rfl (fun _ => by kernel_rfl) (fun b4 => ?_))
  refine st rfl (o_st 0 rfl rfl rfl rfl rfl (by kernel_rfl) (by kernel_rfl) rfl ?_)
  refine st rfl (o_y (v := .int .i64 ((newF mx).2)) (y_as rfl) rfl rfl rfl ?_)
  refine s_nil ?_
  refine q_then ?_
  refine c_seq ?_
  refine c_drawx (l := ticked 10 0) [(⟨b1, 0, none⟩, .int .i64 max), (⟨b1, 1, none⟩, .slice A1 (fewL l).length c1)] [] (by kernel_rfl) rfl rfl (fun Y back => ?_)
  have cut1 : ∀ (A3 : Option Addr) (c3 : Nat) (b5 : Nat) (h28 : (cutS item).size ≤ 210), Ent 129 C [(2, .string item), (4, .pointer (some ⟨b1, 0, none⟩)), (7, .pointer (some ⟨b2, 0, none⟩)), (8, .bool false), (9, .bool true), (10, .pointer (some ⟨b3, 0, none⟩)), (11, .int .i64 ((newF mx).2)), (12, .pointer (some ⟨b4, 0, none⟩)), (13, .int .i64 ((newF mx).2)), (14, .pointer (some ⟨b5, 0, none⟩)), (15, .int .i64 ((putF max (fewL l) (cutS item)).2.2))] [] [pt b5 [.int .i64 ((putF max (fewL l) (cutS item)).1), .slice A3 ((putF max (fewL l) (cutS item)).2.1).length c3] 24, win strTy 9 A3 c3 ((putF max (fewL l) (cutS item)).2.1), ars strTy 9 A1 c1 (fewL l), pt b4 [.int .i64 ((newF mx).1), .slice none 0 0] 24, pt b3 [.int .i64 ((newF mx).1), .slice none 0 0] 24, ars strTy 9 A2 c2 (fewL r), pt b2 [.int .i64 mr, .slice A2 (fewL r).length c2] 24, pt b1 [.int .i64 max, .slice A1 (fewL l).length c1] 24] [rd strTy A c l, rd strTy B d r, cellsAt 1 0 [.iface 80 (.pointer (some ea))], cellsAt 2 0 [.iface 80 (.pointer (some ef))], cellsAt 0 0 [.iface 80 (.pointer (some ee))], errAt ea, errAt ef, errAt ee] Y := by
    intro A3 c3 b5 h28
    refine back ?_
    refine q_then ?_
    refine c_seq ?_
    refine c_drawx (l := ticked 10 0) [(⟨b1, 0, none⟩, .int .i64 max), (⟨b1, 1, none⟩, .slice A1 (fewL l).length c1)] [] (by kernel_rfl) rfl rfl (fun Y back => ?_)
    have cut2 : ∀ (A4 : Option Addr) (c4 : Nat) (b6 : Nat) (h29 : (cutS item).size ≤ 210), Ent 129 C [(4, .pointer (some ⟨b1, 0, none⟩)), (7, .pointer (some ⟨b2, 0, none⟩)), (8, .bool false), (9, .bool true), (10, .pointer (some ⟨b3, 0, none⟩)), (11, .int .i64 ((newF mx).2)), (12, .pointer (some ⟨b4, 0, none⟩)), (13, .int .i64 ((newF mx).2)), (14, .pointer (some ⟨b5, 0, none⟩)), (15, .int .i64 ((putF max (fewL l) (cutS item)).2.2)), (16, .pointer (some ⟨b6, 0, none⟩)), (17, .int .i64 ((putF max (fewL l) (cutS item)).2.2))] [] [pt b6 [.int .i64 ((putF max (fewL l) (cutS item)).1), .slice A4 ((putF max (fewL l) (cutS item)).2.1).length c4] 24, pt b5 [.int .i64 ((putF max (fewL l) (cutS item)).1), .slice A3 ((putF max (fewL l) (cutS item)).2.1).length c3] 24, win strTy 9 A3 c3 ((putF max (fewL l) (cutS item)).2.1), pt b4 [.int .i64 ((newF mx).1), .slice none 0 0] 24, pt b3 [.int .i64 ((newF mx).1), .slice none 0 0] 24, ars strTy 9 A2 c2 (fewL r), pt b2 [.int .i64 mr, .slice A2 (fewL r).length c2] 24, pt b1 [.int .i64 max, .slice A1 (fewL l).length c1] 24] [rd strTy A4 c4 ((putF max (fewL l) (cutS item)).2.1), rd strTy A1 c1 (fewL l), rd strTy A c l, rd strTy B d r, cellsAt 1 0 [.iface 80 (.pointer (some ea))], cellsAt 2 0 [.iface 80 (.pointer (some ef))], cellsAt 0 0 [.iface 80 (.pointer (some ee))], errAt ea, errAt ef, errAt ee] Y := by
      intro A4 c4 b6 h29
      refine back ?_
      refine q_then ?_
      refine c_seq ?_
      refine c_region ?_
      refine st rfl (o_ldn 7 2 rfl rfl rfl rfl Tryd.underlying24 rfl (by kernel_rfl) (by kernel_rfl) rfl ?_)
      refine st rfl (o_call [] [1, 4, 5, 6, 7, 8, 9] (Take_ A1 c1 (fewL l) max ea ef ee (by assumption) (by assumption) (by assumption) (by first | assumption | exact small_put _ _ _ | exact small_take _ _ | exact small_all _ _ _ | exact small_nil | exact small_right (by assumption) | exact small_one (small_at (by assumption) hx1) | exact small_one (by assumption))) rfl rfl rfl rfl rfl rfl (fun v L' I' hq6 => ?_))
      obtain ⟨A5, c5, rfl, rfl, rfl⟩ := hq6
      refine st rfl (o_y (v := .tuple #[.string ((takeF max (fewL l)).1), .agg #[.int .i64 ((takeF max (fewL l)).2.1), .slice A5 ((takeF max (fewL l)).2.2.1).length c5], .int .i64 ((takeF max (fewL l)).2.2.2)]) (y_mv rfl) rfl rfl rfl ?_)
      refine st rfl (o_y (v := .string ((takeF max (fewL l)).1)) (y_k rfl rfl (fun _ => by kernel_rfl)) rfl rfl rfl ?_)
      refine st rfl (o_y (v := .agg #[.int .i64 ((takeF max (fewL l)).2.1), .slice A5 ((takeF max (fewL l)).2.2.1).length c5]) (y_k rfl rfl (fun _ => by kernel_rfl)) rfl rfl rfl ?_)
      refine st rfl (o_y (v := .int .i64 ((takeF max (fewL l)).2.2.2)) (y_k rfl rfl (fun _ => by kernel_rfl)) rfl rfl rfl ?_)
      refine st rfl (o_box (cs := [.int .i64 0, .slice none 0 0]) (T := 24) rfl rfl rfl rfl (fun _ => by kernel_rfl) (fun b7 => ?_))
      refine st rfl (o_y (v := .string ((takeF max (fewL l)).1)) (y_as rfl) rfl rfl rfl ?_)
      refine st rfl (o_st 0 rfl rfl rfl rfl rfl (by kernel_rfl) (by kernel_rfl) rfl ?_)
      refine st rfl (o_y (v := .int .i64 ((takeF max (fewL l)).2.2.2)) (y_as rfl) rfl rfl rfl ?_)
      refine s_nil ?_
      refine q_then ?_
      refine c_seq ?_
      refine c_region ?_
      refine st rfl (o_ldn 9 2 rfl rfl rfl rfl Tryd.underlying24 rfl (by kernel_rfl) (by kernel_rfl) rfl ?_)
      refine st rfl (o_call [] [1] (rTake_ A1 c1 (fewL l) max (by first | assumption | exact small_put _ _ _ | exact small_take _ _ | exact small_all _ _ _ | exact small_nil | exact small_right (by assumption) | exact small_one (small_at (by assumption) hx1) | exact small_one (by assumption))) rfl rfl rfl rfl rfl rfl (fun v L' I' hq7 => ?_))
      obtain ⟨A6, c6, rfl, rfl, rfl⟩ := hq7
      refine st rfl (o_y (v := .tuple #[.string ((takeF max (fewL l)).1), .agg #[.int .i64 ((takeF max (fewL l)).2.1), .slice A6 ((takeF max (fewL l)).2.2.1).length c6], .int .i64 ((takeF max (fewL l)).2.2.2)]) (y_mv rfl) rfl rfl rfl ?_)
      refine st rfl (o_y (v := .string ((takeF max (fewL l)).1)) (y_k rfl rfl (fun _ => by kernel_rfl)) rfl rfl rfl ?_)
      refine st rfl (o_y (v := .agg #[.int .i64 ((takeF max (fewL l)).2.1), .slice A6 ((takeF max (fewL l)).2.2.1).length c6]) (y_k rfl rfl (fun _ => by kernel_rfl)) rfl rfl rfl ?_)
      refine st rfl (o_y (v := .int .i64 ((takeF max (fewL l)).2.2.2)) (y_k rfl rfl (fun _ => by kernel_rfl)) rfl rfl rfl ?_)
      refine st rfl (o_box (cs := [.int .i64 0, .slice none 0 0]) (T := 24) rfl rfl rfl rfl (fun _ => by kernel_rfl) (fun b8 => ?_))
      refine st rfl (o_y (v := .string ((takeF max (fewL l)).1)) (y_as rfl) rfl rfl rfl ?_)
      refine st rfl (o_st 0 rfl rfl rfl rfl rfl (by kernel_rfl) (by kernel_rfl) rfl ?_)
      refine st rfl (o_y (v := .int .i64 ((takeF max (fewL l)).2.2.2)) (y_as rfl) rfl rfl rfl ?_)
      refine s_nil ?_
      refine q_then ?_
      refine c_seq ?_
      refine c_draw (l := ticked 65 0) [(⟨b3, 0, none⟩, .int .i64 ((newF mx).1)), (⟨b3, 1, none⟩, .slice none 0 0), (⟨b4, 0, none⟩, .int .i64 ((newF mx).1)), (⟨b4, 1, none⟩, .slice none 0 0), (⟨b5, 0, none⟩, .int .i64 ((putF max (fewL l) (cutS item)).1)), (⟨b5, 1, none⟩, .slice A3 ((putF max (fewL l) (cutS item)).2.1).length c3), (⟨b6, 0, none⟩, .int .i64 ((putF max (fewL l) (cutS item)).1)), (⟨b6, 1, none⟩, .slice A4 ((putF max (fewL l) (cutS item)).2.1).length c4), (⟨b7, 0, none⟩, .int .i64 ((takeF max (fewL l)).2.1)), (⟨b7, 1, none⟩, .slice A5 ((takeF max (fewL l)).2.2.1).length c5), (⟨b8, 0, none⟩, .int .i64 ((takeF max (fewL l)).2.1)), (⟨b8, 1, none⟩, .slice A6 ((takeF max (fewL l)).2.2.1).length c6), (⟨b1, 0, none⟩, .int .i64 max), (⟨b1, 1, none⟩, .slice A1 (fewL l).length c1), (⟨b2, 0, none⟩, .int .i64 mr), (⟨b2, 1, none⟩, .slice A2 (fewL r).length c2)] [] (by kernel_rfl) rfl rfl ?_
      refine a_y (i := 0) (v := .bool true) (ticked 65 1) rfl (by as_aux_lemma => kernel_rfl) rfl rfl rfl (by exact y_mv rfl) ?_
      refine a_y (i := 1) (v := .bool true) (ticked 65 3) rfl (by as_aux_lemma => kernel_rfl) rfl rfl rfl (by exact y_mv rfl) ?_
      refine a_held_on (i := 2) 66 (ticked 65 7) rfl (by as_aux_lemma => kernel_rfl) rfl rfl rfl rfl rfl (held_pt 7 rfl rfl (held_pt 7 rfl rfl (held_pt 6 rfl rfl (held_pt 6 rfl rfl (held_pt 4 rfl rfl (held_pt 4 rfl rfl (held_pt 3 rfl rfl (held_pt 3 rfl rfl (held_pt 1 rfl rfl (held_pt 1 rfl rfl (held_pt 0 rfl rfl (held_pt 0 rfl rfl (held_pt 10 rfl rfl (held_pt 10 rfl rfl (held_pt 9 rfl rfl (held_pt 9 rfl rfl held_nil)))))))))))))))) (h_ldn (vs := [.int .i64 ((newF mx).1), .slice none 0 0]) 0 2 rfl rfl rfl Tryd.underlying24 rfl (by kernel_rfl) (by kernel_rfl)) ?_
      refine a_held_on (i := 3) 66 (ticked 65 15) rfl (by as_aux_lemma => kernel_rfl) rfl rfl rfl rfl rfl (held_pt 7 rfl rfl (held_pt 7 rfl rfl (held_pt 6 rfl rfl (held_pt 6 rfl rfl (held_pt 4 rfl rfl (held_pt 4 rfl rfl (held_pt 3 rfl rfl (held_pt 3 rfl rfl (held_pt 1 rfl rfl (held_pt 1 rfl rfl (held_pt 0 rfl rfl (held_pt 0 rfl rfl (held_pt 10 rfl rfl (held_pt 10 rfl rfl (held_pt 9 rfl rfl (held_pt 9 rfl rfl held_nil)))))))))))))))) (h_ldn (vs := [.int .i64 ((newF mx).1), .slice none 0 0]) 2 2 rfl rfl rfl Tryd.underlying24 rfl (by kernel_rfl) (by kernel_rfl)) ?_
      refine e_rdnil strTy none 0 ?_
      refine a_each (rs := [4]) (by as_aux_lemma => kernel_rfl) (.on 66 (ticked 65 31) rfl rfl rfl rfl rfl (o_call [] [0, 0] (rSame_ none 0 ([] : List ByteArray) none 0 ([] : List ByteArray) ((newF mx).1) ((newF mx).1) (by first | assumption | exact small_put _ _ _ | exact small_take _ _ | exact small_all _ _ _ | exact small_nil | exact small_right (by assumption) | exact small_one (small_at (by assumption) hx1) | exact small_one (by assumption))) rfl rfl rfl rfl rfl rfl (fun v L' I' hq8 => ?_)) .nil) (List.cons_ne_nil _ _)
      obtain ⟨hv1, rfl, rfl⟩ := hq8
      obtain rfl : v = .bool true := by rw [hv1, decide_eq_true (show ((newF mx).1) = ((newF mx).1) ∧ ([] : List ByteArray) = ([] : List ByteArray) from ⟨rfl, rfl⟩)]
      refine a_and (held_pt 7 rfl rfl (held_pt 7 rfl rfl (held_pt 6 rfl rfl (held_pt 6 rfl rfl (held_pt 4 rfl rfl (held_pt 4 rfl rfl (held_pt 3 rfl rfl (held_pt 3 rfl rfl (held_pt 1 rfl rfl (held_pt 1 rfl rfl (held_pt 0 rfl rfl (held_pt 0 rfl rfl (held_pt 10 rfl rfl (held_pt 10 rfl rfl (held_pt 9 rfl rfl (held_pt 9 rfl rfl held_nil)))))))))))))))) ?_
      refine a_y (i := 5) (v := .bool true) (ticked 65 63) rfl (by as_aux_lemma => kernel_rfl) rfl rfl rfl (by exact y_pick rfl rfl) ?_
      refine a_y (i := 6) (v := .bool true) (ticked 65 127) rfl (by as_aux_lemma => kernel_rfl) rfl rfl rfl (by exact y_mv rfl) ?_
      refine a_y_on (i := 7) (v := .int .i64 ((newF mx).2)) 71 (ticked 65 255) rfl (by as_aux_lemma => kernel_rfl) rfl rfl rfl rfl rfl (by exact y_mv rfl) ?_
      refine a_y_on (i := 8) (v := .int .i64 ((newF mx).2)) 71 (ticked 65 511) rfl (by as_aux_lemma => kernel_rfl) rfl rfl rfl rfl rfl (by exact y_mv rfl) ?_
      have h30 : (newF mx).2 = (newF mx).2 := rfl
      refine a_y_on (i := 9) (v := .bool true) 71 (ticked 65 1023) rfl (by as_aux_lemma => kernel_rfl) rfl rfl rfl rfl rfl (by exact y_b (y_k (v := .bool (((newF mx).2) == ((newF mx).2))) rfl rfl (fun _ => by kernel_rfl)) (beq_iff_eq.2 h30)) ?_
      refine a_y (i := 10) (v := .bool true) (ticked 65 2047) rfl (by as_aux_lemma => kernel_rfl) rfl rfl rfl (by exact y_pick rfl rfl) ?_
      refine a_y (i := 11) (v := .bool true) (ticked 65 4095) rfl (by as_aux_lemma => kernel_rfl) rfl rfl rfl (by exact y_mv rfl) ?_
      refine a_held_on (i := 12) 76 (ticked 65 8191) rfl (by as_aux_lemma => kernel_rfl) rfl rfl rfl rfl rfl (held_pt 7 rfl rfl (held_pt 7 rfl rfl (held_pt 6 rfl rfl (held_pt 6 rfl rfl (held_pt 4 rfl rfl (held_pt 4 rfl rfl (held_pt 3 rfl rfl (held_pt 3 rfl rfl (held_pt 1 rfl rfl (held_pt 1 rfl rfl (held_pt 0 rfl rfl (held_pt 0 rfl rfl (held_pt 10 rfl rfl (held_pt 10 rfl rfl (held_pt 9 rfl rfl (held_pt 9 rfl rfl held_nil)))))))))))))))) (h_ldn (vs := [.int .i64 ((putF max (fewL l) (cutS item)).1), .slice A3 ((putF max (fewL l) (cutS item)).2.1).length c3]) 4 2 rfl rfl rfl Tryd.underlying24 rfl (by kernel_rfl) (by kernel_rfl)) ?_
      refine a_held_on (i := 13) 76 (ticked 65 16383) rfl (by as_aux_lemma => kernel_rfl) rfl rfl rfl rfl rfl (held_pt 7 rfl rfl (held_pt 7 rfl rfl (held_pt 6 rfl rfl (held_pt 6 rfl rfl (held_pt 4 rfl rfl (held_pt 4 rfl rfl (held_pt 3 rfl rfl (held_pt 3 rfl rfl (held_pt 1 rfl rfl (held_pt 1 rfl rfl (held_pt 0 rfl rfl (held_pt 0 rfl rfl (held_pt 10 rfl rfl (held_pt 10 rfl rfl (held_pt 9 rfl rfl (held_pt 9 rfl rfl held_nil)))))))))))))))) (h_ldn (vs := [.int .i64 ((putF max (fewL l) (cutS item)).1), .slice A4 ((putF max (fewL l) (cutS item)).2.1).length c4]) 6 2 rfl rfl rfl Tryd.underlying24 rfl (by kernel_rfl) (by kernel_rfl)) ?_
      refine a_each (rs := [14]) (by as_aux_lemma => kernel_rfl) (.on 76 (ticked 65 32767) rfl rfl rfl rfl rfl (o_lend [5] [] [2] (rSame_ A3 c3 ((putF max (fewL l) (cutS item)).2.1) A4 c4 ((putF max (fewL l) (cutS item)).2.1) ((putF max (fewL l) (cutS item)).1) ((putF max (fewL l) (cutS item)).1) (by first | assumption | exact small_put _ _ _ | exact small_take _ _ | exact small_all _ _ _ | exact small_nil | exact small_right (by assumption) | exact small_one (small_at (by assumption) hx1) | exact small_one (by assumption))) (.cons lend_win .nil) rfl rfl rfl rfl rfl rfl rfl rfl (fun v L' I' hq9 => ?_)) .nil) (List.cons_ne_nil _ _)
      obtain ⟨hv2, rfl, rfl⟩ := hq9
      refine ⟨rfl, ?_⟩
      obtain rfl : v = .bool true := by rw [hv2, decide_eq_true (show ((putF max (fewL l) (cutS item)).1) = ((putF max (fewL l) (cutS item)).1) ∧ ((putF max (fewL l) (cutS item)).2.1) = ((putF max (fewL l) (cutS item)).2.1) from ⟨rfl, rfl⟩)]
      refine a_and (held_pt 7 rfl rfl (held_pt 7 rfl rfl (held_pt 6 rfl rfl (held_pt 6 rfl rfl (held_pt 5 rfl rfl (held_pt 5 rfl rfl (held_pt 4 rfl rfl (held_pt 4 rfl rfl (held_pt 2 rfl rfl (held_pt 2 rfl rfl (held_pt 1 rfl rfl (held_pt 1 rfl rfl (held_pt 10 rfl rfl (held_pt 10 rfl rfl (held_pt 9 rfl rfl (held_pt 9 rfl rfl held_nil)))))))))))))))) ?_
      refine a_y (i := 15) (v := .bool true) (ticked 65 65535) rfl (by as_aux_lemma => kernel_rfl) rfl rfl rfl (by exact y_pick rfl rfl) ?_
      refine a_y (i := 16) (v := .bool true) (ticked 65 131071) rfl (by as_aux_lemma => kernel_rfl) rfl rfl rfl (by exact y_mv rfl) ?_
      refine a_y_on (i := 17) (v := .int .i64 ((putF max (fewL l) (cutS item)).2.2)) 81 (ticked 65 262143) rfl (by as_aux_lemma => kernel_rfl) rfl rfl rfl rfl rfl (by exact y_mv rfl) ?_
      refine a_y_on (i := 18) (v := .int .i64 ((putF max (fewL l) (cutS item)).2.2)) 81 (ticked 65 524287) rfl (by as_aux_lemma => kernel_rfl) rfl rfl rfl rfl rfl (by exact y_mv rfl) ?_
      have h31 : (putF max (fewL l) (cutS item)).2.2 = (putF max (fewL l) (cutS item)).2.2 := rfl
      refine a_y_on (i := 19) (v := .bool true) 81 (ticked 65 1048575) rfl (by as_aux_lemma => kernel_rfl) rfl rfl rfl rfl rfl (by exact y_b (y_k (v := .bool (((putF max (fewL l) (cutS item)).2.2) == ((putF max (fewL l) (cutS item)).2.2))) rfl rfl (fun _ => by kernel_rfl)) (beq_iff_eq.2 h31)) ?_
      refine a_y (i := 20) (v := .bool true) (ticked 65 2097151) rfl (by as_aux_lemma => kernel_rfl) rfl rfl rfl (by exact y_pick rfl rfl) ?_
      refine a_y (i := 21) (v := .bool true) (ticked 65 4194303) rfl (by as_aux_lemma => kernel_rfl) rfl rfl rfl (by exact y_mv rfl) ?_
      refine a_y_on (i := 22) (v := .string ((takeF max (fewL l)).1)) 86 (ticked 65 8388607) rfl (by as_aux_lemma => kernel_rfl) rfl rfl rfl rfl rfl (by exact y_mv rfl) ?_
      refine a_y_on (i := 23) (v := .string ((takeF max (fewL l)).1)) 86 (ticked 65 16777215) rfl (by as_aux_lemma => kernel_rfl) rfl rfl rfl rfl rfl (by exact y_mv rfl) ?_
      have h32 : (takeF max (fewL l)).1 = (takeF max (fewL l)).1 := rfl
      refine a_y_on (i := 24) (v := .bool true) 86 (ticked 65 33554431) rfl (by as_aux_lemma => kernel_rfl) rfl rfl rfl rfl rfl (by exact y_b (y_k (v := .bool (((takeF max (fewL l)).1).toList == ((takeF max (fewL l)).1).toList)) rfl rfl (fun _ => by kernel_rfl)) (str_t h32)) ?_
      refine a_y (i := 25) (v := .bool true) (ticked 65 67108863) rfl (by as_aux_lemma => kernel_rfl) rfl rfl rfl (by exact y_pick rfl rfl) ?_
      refine a_y (i := 26) (v := .bool true) (ticked 65 134217727) rfl (by as_aux_lemma => kernel_rfl) rfl rfl rfl (by exact y_mv rfl) ?_
      refine a_held_on (i := 27) 91 (ticked 65 268435455) rfl (by as_aux_lemma => kernel_rfl) rfl rfl rfl rfl rfl (held_pt 7 rfl rfl (held_pt 7 rfl rfl (held_pt 6 rfl rfl (held_pt 6 rfl rfl (held_pt 5 rfl rfl (held_pt 5 rfl rfl (held_pt 4 rfl rfl (held_pt 4 rfl rfl (held_pt 2 rfl rfl (held_pt 2 rfl rfl (held_pt 1 rfl rfl (held_pt 1 rfl rfl (held_pt 10 rfl rfl (held_pt 10 rfl rfl (held_pt 9 rfl rfl (held_pt 9 rfl rfl held_nil)))))))))))))))) (h_ldn (vs := [.int .i64 ((takeF max (fewL l)).2.1), .slice A5 ((takeF max (fewL l)).2.2.1).length c5]) 8 2 rfl rfl rfl Tryd.underlying24 rfl (by kernel_rfl) (by kernel_rfl)) ?_
      refine a_held_on (i := 28) 91 (ticked 65 536870911) rfl (by as_aux_lemma => kernel_rfl) rfl rfl rfl rfl rfl (held_pt 7 rfl rfl (held_pt 7 rfl rfl (held_pt 6 rfl rfl (held_pt 6 rfl rfl (held_pt 5 rfl rfl (held_pt 5 rfl rfl (held_pt 4 rfl rfl (held_pt 4 rfl rfl (held_pt 2 rfl rfl (held_pt 2 rfl rfl (held_pt 1 rfl rfl (held_pt 1 rfl rfl (held_pt 10 rfl rfl (held_pt 10 rfl rfl (held_pt 9 rfl rfl (held_pt 9 rfl rfl held_nil)))))))))))))))) (h_ldn (vs := [.int .i64 ((takeF max (fewL l)).2.1), .slice A6 ((takeF max (fewL l)).2.2.1).length c6]) 10 2 rfl rfl rfl Tryd.underlying24 rfl (by kernel_rfl) (by kernel_rfl)) ?_
      refine a_each (rs := [29]) (by as_aux_lemma => kernel_rfl) (.on 91 (ticked 65 1073741823) rfl rfl rfl rfl rfl (o_lend [3] [] [1] (rSame_ A5 c5 ((takeF max (fewL l)).2.2.1) A6 c6 ((takeF max (fewL l)).2.2.1) ((takeF max (fewL l)).2.1) ((takeF max (fewL l)).2.1) (by first | assumption | exact small_put _ _ _ | exact small_take _ _ | exact small_all _ _ _ | exact small_nil | exact small_right (by assumption) | exact small_one (small_at (by assumption) hx1) | exact small_one (by assumption))) (.cons lend_win .nil) rfl rfl rfl rfl rfl rfl rfl rfl (fun v L' I' hq10 => ?_)) .nil) (List.cons_ne_nil _ _)
      obtain ⟨hv3, rfl, rfl⟩ := hq10
      refine ⟨rfl, ?_⟩
      obtain rfl : v = .bool true := by rw [hv3, decide_eq_true (show ((takeF max (fewL l)).2.1) = ((takeF max (fewL l)).2.1) ∧ ((takeF max (fewL l)).2.2.1) = ((takeF max (fewL l)).2.2.1) from ⟨rfl, rfl⟩)]
      refine a_and (held_pt 7 rfl rfl (held_pt 7 rfl rfl (held_pt 6 rfl rfl (held_pt 6 rfl rfl (held_pt 5 rfl rfl (held_pt 5 rfl rfl (held_pt 4 rfl rfl (held_pt 4 rfl rfl (held_pt 3 rfl rfl (held_pt 3 rfl rfl (held_pt 2 rfl rfl (held_pt 2 rfl rfl (held_pt 10 rfl rfl (held_pt 10 rfl rfl (held_pt 9 rfl rfl (held_pt 9 rfl rfl held_nil)))))))))))))))) ?_
      refine a_y (i := 30) (v := .bool true) (ticked 65 2147483647) rfl (by as_aux_lemma => kernel_rfl) rfl rfl rfl (by exact y_pick rfl rfl) ?_
      refine a_y (i := 31) (v := .bool true) (ticked 65 4294967295) rfl (by as_aux_lemma => kernel_rfl) rfl rfl rfl (by exact y_mv rfl) ?_
      refine a_y_on (i := 32) (v := .int .i64 ((takeF max (fewL l)).2.2.2)) 96 (ticked 65 8589934591) rfl (by as_aux_lemma => kernel_rfl) rfl rfl rfl rfl rfl (by exact y_mv rfl) ?_
      refine a_y_on (i := 33) (v := .int .i64 ((takeF max (fewL l)).2.2.2)) 96 (ticked 65 17179869183) rfl (by as_aux_lemma => kernel_rfl) rfl rfl rfl rfl rfl (by exact y_mv rfl) ?_
      have h33 : (takeF max (fewL l)).2.2.2 = (takeF max (fewL l)).2.2.2 := rfl
      refine a_y_on (i := 34) (v := .bool true) 96 (ticked 65 34359738367) rfl (by as_aux_lemma => kernel_rfl) rfl rfl rfl rfl rfl (by exact y_b (y_k (v := .bool (((takeF max (fewL l)).2.2.2) == ((takeF max (fewL l)).2.2.2))) rfl rfl (fun _ => by kernel_rfl)) (beq_iff_eq.2 h33)) ?_
      refine a_y (i := 35) (v := .bool true) (ticked 65 68719476735) rfl (by as_aux_lemma => kernel_rfl) rfl rfl rfl (by exact y_pick rfl rfl) ?_
      refine a_y (i := 36) (v := .bool true) (ticked 65 137438953471) rfl (by as_aux_lemma => kernel_rfl) rfl rfl rfl (by exact y_mv rfl) ?_
      refine a_held_on (i := 37) 101 (ticked 65 274877906943) rfl (by as_aux_lemma => kernel_rfl) rfl rfl rfl rfl rfl (held_pt 7 rfl rfl (held_pt 7 rfl rfl (held_pt 6 rfl rfl (held_pt 6 rfl rfl (held_pt 5 rfl rfl (held_pt 5 rfl rfl (held_pt 4 rfl rfl (held_pt 4 rfl rfl (held_pt 3 rfl rfl (held_pt 3 rfl rfl (held_pt 2 rfl rfl (held_pt 2 rfl rfl (held_pt 10 rfl rfl (held_pt 10 rfl rfl (held_pt 9 rfl rfl (held_pt 9 rfl rfl held_nil)))))))))))))))) (h_ldn (vs := [.int .i64 max, .slice A1 (fewL l).length c1]) 12 2 rfl rfl rfl Tryd.underlying24 rfl (by kernel_rfl) (by kernel_rfl)) ?_
      refine a_held_on (i := 39) 101 (ticked 65 824633720831) rfl (by as_aux_lemma => kernel_rfl) rfl rfl rfl rfl rfl (held_pt 7 rfl rfl (held_pt 7 rfl rfl (held_pt 6 rfl rfl (held_pt 6 rfl rfl (held_pt 5 rfl rfl (held_pt 5 rfl rfl (held_pt 4 rfl rfl (held_pt 4 rfl rfl (held_pt 3 rfl rfl (held_pt 3 rfl rfl (held_pt 2 rfl rfl (held_pt 2 rfl rfl (held_pt 10 rfl rfl (held_pt 10 rfl rfl (held_pt 9 rfl rfl (held_pt 9 rfl rfl held_nil)))))))))))))))) (h_ldn (vs := [.int .i64 max, .slice A1 (fewL l).length c1]) 12 2 rfl rfl rfl Tryd.underlying24 rfl (by kernel_rfl) (by kernel_rfl)) ?_
      refine a_each (rs := [38]) (by as_aux_lemma => kernel_rfl) (.on 101 (ticked 65 1099511627775) rfl rfl rfl rfl rfl (o_call [] [3, 6, 7, 8, 9, 10, 11] (Right_ A1 c1 (fewL l) max ea ef ee (by first | assumption | exact small_put _ _ _ | exact small_take _ _ | exact small_all _ _ _ | exact small_nil | exact small_right (by assumption) | exact small_one (small_at (by assumption) hx1) | exact small_one (by assumption))) rfl rfl rfl rfl rfl rfl (fun v L' I' hq11 => ?_)) .nil) (List.cons_ne_nil _ _)
      obtain ⟨hv4, rfl, rfl⟩ := hq11
      refine e_by (right max (fewL l)) (fun h34 => ?_) (fun h34 => ?_)
      ·
        obtain rfl : v = .bool true := by rw [hv4, decide_eq_true h34]
        refine a_and (held_pt 7 rfl rfl (held_pt 7 rfl rfl (held_pt 6 rfl rfl (held_pt 6 rfl rfl (held_pt 5 rfl rfl (held_pt 5 rfl rfl (held_pt 4 rfl rfl (held_pt 4 rfl rfl (held_pt 3 rfl rfl (held_pt 3 rfl rfl (held_pt 2 rfl rfl (held_pt 2 rfl rfl (held_pt 10 rfl rfl (held_pt 10 rfl rfl (held_pt 9 rfl rfl (held_pt 9 rfl rfl held_nil)))))))))))))))) ?_
        refine a_each (rs := [40]) (by as_aux_lemma => kernel_rfl) (.on 101 (ticked 65 2199023255551) rfl rfl rfl rfl rfl (o_call [] [3] (rRight_ A1 c1 (fewL l) max (by first | assumption | exact small_put _ _ _ | exact small_take _ _ | exact small_all _ _ _ | exact small_nil | exact small_right (by assumption) | exact small_one (small_at (by assumption) hx1) | exact small_one (by assumption))) rfl rfl rfl rfl rfl rfl (fun v L' I' hq12 => ?_)) .nil) (List.cons_ne_nil _ _)
        obtain ⟨hv5, rfl, rfl⟩ := hq12
        obtain rfl : v = .bool true := by rw [hv5, decide_eq_true (show right max (fewL l) from h34)]
        refine a_and (held_pt 7 rfl rfl (held_pt 7 rfl rfl (held_pt 6 rfl rfl (held_pt 6 rfl rfl (held_pt 5 rfl rfl (held_pt 5 rfl rfl (held_pt 4 rfl rfl (held_pt 4 rfl rfl (held_pt 3 rfl rfl (held_pt 3 rfl rfl (held_pt 2 rfl rfl (held_pt 2 rfl rfl (held_pt 10 rfl rfl (held_pt 10 rfl rfl (held_pt 9 rfl rfl (held_pt 9 rfl rfl held_nil)))))))))))))))) ?_
        refine a_y_on (i := 41) (v := .bool true) 101 (ticked 65 4398046511103) rfl (by as_aux_lemma => kernel_rfl) rfl rfl rfl rfl rfl (by exact y_k rfl rfl (fun _ => by kernel_rfl)) ?_
        refine a_y (i := 42) (v := .bool true) (ticked 65 8796093022207) rfl (by as_aux_lemma => kernel_rfl) rfl rfl rfl (by exact y_pick rfl rfl) ?_
        refine a_y (i := 43) (v := .bool true) (ticked 65 17592186044415) rfl (by as_aux_lemma => kernel_rfl) rfl rfl rfl (by exact y_mv rfl) ?_
        refine a_held_on (i := 44) 108 (ticked 65 35184372088831) rfl (by as_aux_lemma => kernel_rfl) rfl rfl rfl rfl rfl (held_pt 7 rfl rfl (held_pt 7 rfl rfl (held_pt 6 rfl rfl (held_pt 6 rfl rfl (held_pt 5 rfl rfl (held_pt 5 rfl rfl (held_pt 4 rfl rfl (held_pt 4 rfl rfl (held_pt 3 rfl rfl (held_pt 3 rfl rfl (held_pt 2 rfl rfl (held_pt 2 rfl rfl (held_pt 10 rfl rfl (held_pt 10 rfl rfl (held_pt 9 rfl rfl (held_pt 9 rfl rfl held_nil)))))))))))))))) (h_ldn (vs := [.int .i64 max, .slice A1 (fewL l).length c1]) 12 2 rfl rfl rfl Tryd.underlying24 rfl (by kernel_rfl) (by kernel_rfl)) ?_
        refine a_held_on (i := 46) 108 (ticked 65 105553116266495) rfl (by as_aux_lemma => kernel_rfl) rfl rfl rfl rfl rfl (held_pt 7 rfl rfl (held_pt 7 rfl rfl (held_pt 6 rfl rfl (held_pt 6 rfl rfl (held_pt 5 rfl rfl (held_pt 5 rfl rfl (held_pt 4 rfl rfl (held_pt 4 rfl rfl (held_pt 3 rfl rfl (held_pt 3 rfl rfl (held_pt 2 rfl rfl (held_pt 2 rfl rfl (held_pt 10 rfl rfl (held_pt 10 rfl rfl (held_pt 9 rfl rfl (held_pt 9 rfl rfl held_nil)))))))))))))))) (h_ldn (vs := [.int .i64 max, .slice A1 (fewL l).length c1]) 12 2 rfl rfl rfl Tryd.underlying24 rfl (by kernel_rfl) (by kernel_rfl)) ?_
        refine a_each (rs := [45]) (by as_aux_lemma => kernel_rfl) (.on 108 (ticked 65 140737488355327) rfl rfl rfl rfl rfl (o_call [] [3, 6, 7, 8, 9, 10, 11] (Used_ A1 c1 (fewL l) max ea ef ee (by first | assumption | exact small_put _ _ _ | exact small_take _ _ | exact small_all _ _ _ | exact small_nil | exact small_right (by assumption) | exact small_one (small_at (by assumption) hx1) | exact small_one (by assumption))) rfl rfl rfl rfl rfl rfl (fun v L' I' hq13 => ?_)) .nil) (List.cons_ne_nil _ _)
        obtain ⟨rfl, rfl, rfl⟩ := hq13
        refine a_and (held_pt 7 rfl rfl (held_pt 7 rfl rfl (held_pt 6 rfl rfl (held_pt 6 rfl rfl (held_pt 5 rfl rfl (held_pt 5 rfl rfl (held_pt 4 rfl rfl (held_pt 4 rfl rfl (held_pt 3 rfl rfl (held_pt 3 rfl rfl (held_pt 2 rfl rfl (held_pt 2 rfl rfl (held_pt 10 rfl rfl (held_pt 10 rfl rfl (held_pt 9 rfl rfl (held_pt 9 rfl rfl held_nil)))))))))))))))) ?_
        refine a_each (rs := [47]) (by as_aux_lemma => kernel_rfl) (.on 108 (ticked 65 281474976710655) rfl rfl rfl rfl rfl (o_call [] [3] (rUsed_ A1 c1 (fewL l) max (by first | assumption | exact small_put _ _ _ | exact small_take _ _ | exact small_all _ _ _ | exact small_nil | exact small_right (by assumption) | exact small_one (small_at (by assumption) hx1) | exact small_one (by assumption))) rfl rfl rfl rfl rfl rfl (fun v L' I' hq14 => ?_)) .nil) (List.cons_ne_nil _ _)
        obtain ⟨rfl, rfl, rfl⟩ := hq14
        refine a_and (held_pt 7 rfl rfl (held_pt 7 rfl rfl (held_pt 6 rfl rfl (held_pt 6 rfl rfl (held_pt 5 rfl rfl (held_pt 5 rfl rfl (held_pt 4 rfl rfl (held_pt 4 rfl rfl (held_pt 3 rfl rfl (held_pt 3 rfl rfl (held_pt 2 rfl rfl (held_pt 2 rfl rfl (held_pt 10 rfl rfl (held_pt 10 rfl rfl (held_pt 9 rfl rfl (held_pt 9 rfl rfl held_nil)))))))))))))))) ?_
        have h35 : (usedF max (fewL l) : Int) = (usedF max (fewL l) : Int) := rfl
        refine a_y_on (i := 48) (v := .bool true) 108 (ticked 65 562949953421311) rfl (by as_aux_lemma => kernel_rfl) rfl rfl rfl rfl rfl (by exact y_b (y_k (v := .bool ((usedF max (fewL l) : Int) == (usedF max (fewL l) : Int))) rfl rfl (fun _ => by kernel_rfl)) (beq_iff_eq.2 h35)) ?_
        refine a_y (i := 49) (v := .bool true) (ticked 65 1125899906842623) rfl (by as_aux_lemma => kernel_rfl) rfl rfl rfl (by exact y_pick rfl rfl) ?_
        refine a_y (i := 50) (v := .bool true) (ticked 65 2251799813685247) rfl (by as_aux_lemma => kernel_rfl) rfl rfl rfl (by exact y_mv rfl) ?_
        refine a_held_on (i := 51) 115 (ticked 65 4503599627370495) rfl (by as_aux_lemma => kernel_rfl) rfl rfl rfl rfl rfl (held_pt 7 rfl rfl (held_pt 7 rfl rfl (held_pt 6 rfl rfl (held_pt 6 rfl rfl (held_pt 5 rfl rfl (held_pt 5 rfl rfl (held_pt 4 rfl rfl (held_pt 4 rfl rfl (held_pt 3 rfl rfl (held_pt 3 rfl rfl (held_pt 2 rfl rfl (held_pt 2 rfl rfl (held_pt 10 rfl rfl (held_pt 10 rfl rfl (held_pt 9 rfl rfl (held_pt 9 rfl rfl held_nil)))))))))))))))) (h_ldn (vs := [.int .i64 max, .slice A1 (fewL l).length c1]) 12 2 rfl rfl rfl Tryd.underlying24 rfl (by kernel_rfl) (by kernel_rfl)) ?_
        refine a_held_on (i := 52) 115 (ticked 65 9007199254740991) rfl (by as_aux_lemma => kernel_rfl) rfl rfl rfl rfl rfl (held_pt 7 rfl rfl (held_pt 7 rfl rfl (held_pt 6 rfl rfl (held_pt 6 rfl rfl (held_pt 5 rfl rfl (held_pt 5 rfl rfl (held_pt 4 rfl rfl (held_pt 4 rfl rfl (held_pt 3 rfl rfl (held_pt 3 rfl rfl (held_pt 2 rfl rfl (held_pt 2 rfl rfl (held_pt 10 rfl rfl (held_pt 10 rfl rfl (held_pt 9 rfl rfl (held_pt 9 rfl rfl held_nil)))))))))))))))) (h_ldn (vs := [.int .i64 mr, .slice A2 (fewL r).length c2]) 14 2 rfl rfl rfl Tryd.underlying24 rfl (by kernel_rfl) (by kernel_rfl)) ?_
        refine a_held_on (i := 54) 115 (ticked 65 27021597764222975) rfl (by as_aux_lemma => kernel_rfl) rfl rfl rfl rfl rfl (held_pt 7 rfl rfl (held_pt 7 rfl rfl (held_pt 6 rfl rfl (held_pt 6 rfl rfl (held_pt 5 rfl rfl (held_pt 5 rfl rfl (held_pt 4 rfl rfl (held_pt 4 rfl rfl (held_pt 3 rfl rfl (held_pt 3 rfl rfl (held_pt 2 rfl rfl (held_pt 2 rfl rfl (held_pt 10 rfl rfl (held_pt 10 rfl rfl (held_pt 9 rfl rfl (held_pt 9 rfl rfl held_nil)))))))))))))))) (h_ldn (vs := [.int .i64 max, .slice A1 (fewL l).length c1]) 12 2 rfl rfl rfl Tryd.underlying24 rfl (by kernel_rfl) (by kernel_rfl)) ?_
        refine a_held_on (i := 55) 115 (ticked 65 63050394783186943) rfl (by as_aux_lemma => kernel_rfl) rfl rfl rfl rfl rfl (held_pt 7 rfl rfl (held_pt 7 rfl rfl (held_pt 6 rfl rfl (held_pt 6 rfl rfl (held_pt 5 rfl rfl (held_pt 5 rfl rfl (held_pt 4 rfl rfl (held_pt 4 rfl rfl (held_pt 3 rfl rfl (held_pt 3 rfl rfl (held_pt 2 rfl rfl (held_pt 2 rfl rfl (held_pt 10 rfl rfl (held_pt 10 rfl rfl (held_pt 9 rfl rfl (held_pt 9 rfl rfl held_nil)))))))))))))))) (h_ldn (vs := [.int .i64 mr, .slice A2 (fewL r).length c2]) 14 2 rfl rfl rfl Tryd.underlying24 rfl (by kernel_rfl) (by kernel_rfl)) ?_
        refine a_each (rs := [53]) (by as_aux_lemma => kernel_rfl) (.on 115 (ticked 65 72057594037927935) rfl rfl rfl rfl rfl (o_lend [8] [] [3] (Con.wide (I2 := [rd strTy A2 c2 (fewL r), rd strTy A1 c1 (fewL l)]) (Same_ A1 c1 (fewL l) A2 c2 (fewL r) max mr (by first | assumption | exact small_put _ _ _ | exact small_take _ _ | exact small_all _ _ _ | exact small_nil | exact small_right (by assumption) | exact small_one (small_at (by assumption) hx1) | exact small_one (by assumption))) (by intro φ h; simp only [List.mem_cons, List.not_mem_nil, or_false] at h ⊢; grind)) (.cons lend_ars .nil) rfl rfl rfl rfl rfl rfl rfl rfl (fun v L' I' hq15 => ?_)) .nil) (List.cons_ne_nil _ _)
        obtain ⟨hv6, rfl, rfl⟩ := hq15
        refine ⟨rfl, ?_⟩
        refine e_by (max = mr ∧ (fewL l) = (fewL r)) (fun h36 => ?_) (fun h36 => ?_)
        ·
          obtain rfl : v = .bool true := by rw [hv6, decide_eq_true h36]
          refine a_and (held_pt 8 rfl rfl (held_pt 8 rfl rfl (held_pt 7 rfl rfl (held_pt 7 rfl rfl (held_pt 6 rfl rfl (held_pt 6 rfl rfl (held_pt 5 rfl rfl (held_pt 5 rfl rfl (held_pt 4 rfl rfl (held_pt 4 rfl rfl (held_pt 3 rfl rfl (held_pt 3 rfl rfl (held_pt 10 rfl rfl (held_pt 10 rfl rfl (held_pt 9 rfl rfl (held_pt 9 rfl rfl held_nil)))))))))))))))) ?_
          refine a_each (rs := [56]) (by as_aux_lemma => kernel_rfl) (.on 115 (ticked 65 144115188075855871) rfl rfl rfl rfl rfl (o_lend [0] [] [3] (Con.wide (I2 := [rd strTy A2 c2 (fewL r), rd strTy A1 c1 (fewL l)]) (rSame_ A1 c1 (fewL l) A2 c2 (fewL r) max mr (by first | assumption | exact small_put _ _ _ | exact small_take _ _ | exact small_all _ _ _ | exact small_nil | exact small_right (by assumption) | exact small_one (small_at (by assumption) hx1) | exact small_one (by assumption))) (by intro φ h; simp only [List.mem_cons, List.not_mem_nil, or_false] at h ⊢; grind)) (.cons lend_ars .nil) rfl rfl rfl rfl rfl rfl rfl rfl (fun v L' I' hq16 => ?_)) .nil) (List.cons_ne_nil _ _)
          obtain ⟨hv7, rfl, rfl⟩ := hq16
          refine ⟨rfl, ?_⟩
          obtain rfl : v = .bool true := by rw [hv7, decide_eq_true (show max = mr ∧ (fewL l) = (fewL r) from h36)]
          refine a_and (held_pt 8 rfl rfl (held_pt 8 rfl rfl (held_pt 7 rfl rfl (held_pt 7 rfl rfl (held_pt 6 rfl rfl (held_pt 6 rfl rfl (held_pt 5 rfl rfl (held_pt 5 rfl rfl (held_pt 4 rfl rfl (held_pt 4 rfl rfl (held_pt 3 rfl rfl (held_pt 3 rfl rfl (held_pt 10 rfl rfl (held_pt 10 rfl rfl (held_pt 9 rfl rfl (held_pt 9 rfl rfl held_nil)))))))))))))))) ?_
          refine a_y_on (i := 57) (v := .bool true) 115 (ticked 65 288230376151711743) rfl (by as_aux_lemma => kernel_rfl) rfl rfl rfl rfl rfl (by exact y_k rfl rfl (fun _ => by kernel_rfl)) ?_
          refine a_y (i := 58) (v := .bool true) (ticked 65 576460752303423487) rfl (by as_aux_lemma => kernel_rfl) rfl rfl rfl (by exact y_pick rfl rfl) ?_
          refine a_y (i := 59) (v := .bool true) (ticked 65 1152921504606846975) rfl (by as_aux_lemma => kernel_rfl) rfl rfl rfl (by exact y_mv rfl) ?_
          refine a_held_on (i := 60) 124 (ticked 65 2305843009213693951) rfl (by as_aux_lemma => kernel_rfl) rfl rfl rfl rfl rfl (held_pt 8 rfl rfl (held_pt 8 rfl rfl (held_pt 7 rfl rfl (held_pt 7 rfl rfl (held_pt 6 rfl rfl (held_pt 6 rfl rfl (held_pt 5 rfl rfl (held_pt 5 rfl rfl (held_pt 4 rfl rfl (held_pt 4 rfl rfl (held_pt 3 rfl rfl (held_pt 3 rfl rfl (held_pt 10 rfl rfl (held_pt 10 rfl rfl (held_pt 9 rfl rfl (held_pt 9 rfl rfl held_nil)))))))))))))))) (h_ldn (vs := [.int .i64 max, .slice A1 (fewL l).length c1]) 12 2 rfl rfl rfl Tryd.underlying24 rfl (by kernel_rfl) (by kernel_rfl)) ?_
          refine a_held_on (i := 61) 124 (ticked 65 4611686018427387903) rfl (by as_aux_lemma => kernel_rfl) rfl rfl rfl rfl rfl (held_pt 8 rfl rfl (held_pt 8 rfl rfl (held_pt 7 rfl rfl (held_pt 7 rfl rfl (held_pt 6 rfl rfl (held_pt 6 rfl rfl (held_pt 5 rfl rfl (held_pt 5 rfl rfl (held_pt 4 rfl rfl (held_pt 4 rfl rfl (held_pt 3 rfl rfl (held_pt 3 rfl rfl (held_pt 10 rfl rfl (held_pt 10 rfl rfl (held_pt 9 rfl rfl (held_pt 9 rfl rfl held_nil)))))))))))))))) (h_ldn (vs := [.int .i64 max, .slice A1 (fewL l).length c1]) 12 2 rfl rfl rfl Tryd.underlying24 rfl (by kernel_rfl) (by kernel_rfl)) ?_
          refine a_each (rs := [62]) (by as_aux_lemma => kernel_rfl) (.on 124 (ticked 65 9223372036854775807) rfl rfl rfl rfl rfl (o_call [] [3, 3] (Same_ A1 c1 (fewL l) A1 c1 (fewL l) max max (by first | assumption | exact small_put _ _ _ | exact small_take _ _ | exact small_all _ _ _ | exact small_nil | exact small_right (by assumption) | exact small_one (small_at (by assumption) hx1) | exact small_one (by assumption))) rfl rfl rfl rfl rfl rfl (fun v L' I' hq17 => ?_)) .nil) (List.cons_ne_nil _ _)
          obtain ⟨hv8, rfl, rfl⟩ := hq17
          obtain rfl : v = .bool true := by rw [hv8, decide_eq_true (show max = max ∧ (fewL l) = (fewL l) from ⟨rfl, rfl⟩)]
          refine a_and (held_pt 8 rfl rfl (held_pt 8 rfl rfl (held_pt 7 rfl rfl (held_pt 7 rfl rfl (held_pt 6 rfl rfl (held_pt 6 rfl rfl (held_pt 5 rfl rfl (held_pt 5 rfl rfl (held_pt 4 rfl rfl (held_pt 4 rfl rfl (held_pt 3 rfl rfl (held_pt 3 rfl rfl (held_pt 10 rfl rfl (held_pt 10 rfl rfl (held_pt 9 rfl rfl (held_pt 9 rfl rfl held_nil)))))))))))))))) ?_
          refine a_y (i := 63) (v := .bool true) (ticked 65 18446744073709551615) rfl (by as_aux_lemma => kernel_rfl) rfl rfl rfl (by exact y_pick rfl rfl) ?_
          refine a_y (i := 64) (v := .bool true) (ticked 65 36893488147419103231) rfl (by as_aux_lemma => kernel_rfl) rfl rfl rfl (by exact y_as rfl) ?_
          refine a_done (by as_aux_lemma => kernel_rfl) ?_
          refine q_then ?_
          refine c_ret ?_
          refine c_fin (I' := []) [] [4, 5, 6, 7, 8, 9, 10, 11] rfl (.tmp rfl .nil) rfl rfl rfl ?_
          exact ⟨rfl, rfl, rfl⟩
        ·
          obtain rfl : v = .bool false := by rw [hv6, decide_eq_false h36]
          refine a_and (held_pt 8 rfl rfl (held_pt 8 rfl rfl (held_pt 7 rfl rfl (held_pt 7 rfl rfl (held_pt 6 rfl rfl (held_pt 6 rfl rfl (held_pt 5 rfl rfl (held_pt 5 rfl rfl (held_pt 4 rfl rfl (held_pt 4 rfl rfl (held_pt 3 rfl rfl (held_pt 3 rfl rfl (held_pt 10 rfl rfl (held_pt 10 rfl rfl (held_pt 9 rfl rfl (held_pt 9 rfl rfl held_nil)))))))))))))))) ?_
          refine a_each (rs := [56]) (by as_aux_lemma => kernel_rfl) (.on 115 (ticked 65 144115188075855871) rfl rfl rfl rfl rfl (o_lend [0] [] [3] (Con.wide (I2 := [rd strTy A2 c2 (fewL r), rd strTy A1 c1 (fewL l)]) (rSame_ A1 c1 (fewL l) A2 c2 (fewL r) max mr (by first | assumption | exact small_put _ _ _ | exact small_take _ _ | exact small_all _ _ _ | exact small_nil | exact small_right (by assumption) | exact small_one (small_at (by assumption) hx1) | exact small_one (by assumption))) (by intro φ h; simp only [List.mem_cons, List.not_mem_nil, or_false] at h ⊢; grind)) (.cons lend_ars .nil) rfl rfl rfl rfl rfl rfl rfl rfl (fun v L' I' hq18 => ?_)) .nil) (List.cons_ne_nil _ _)
          obtain ⟨hv9, rfl, rfl⟩ := hq18
          refine ⟨rfl, ?_⟩
          obtain rfl : v = .bool false := by rw [hv9, decide_eq_false (show ¬ (max = mr ∧ (fewL l) = (fewL r)) from h36)]
          refine a_and (held_pt 8 rfl rfl (held_pt 8 rfl rfl (held_pt 7 rfl rfl (held_pt 7 rfl rfl (held_pt 6 rfl rfl (held_pt 6 rfl rfl (held_pt 5 rfl rfl (held_pt 5 rfl rfl (held_pt 4 rfl rfl (held_pt 4 rfl rfl (held_pt 3 rfl rfl (held_pt 3 rfl rfl (held_pt 10 rfl rfl (held_pt 10 rfl rfl (held_pt 9 rfl rfl (held_pt 9 rfl rfl held_nil)))))))))))))))) ?_
          refine a_y_on (i := 57) (v := .bool true) 115 (ticked 65 288230376151711743) rfl (by as_aux_lemma => kernel_rfl) rfl rfl rfl rfl rfl (by exact y_k rfl rfl (fun _ => by kernel_rfl)) ?_
          refine a_y (i := 58) (v := .bool true) (ticked 65 576460752303423487) rfl (by as_aux_lemma => kernel_rfl) rfl rfl rfl (by exact y_pick rfl rfl) ?_
          refine a_y (i := 59) (v := .bool true) (ticked 65 1152921504606846975) rfl (by as_aux_lemma => kernel_rfl) rfl rfl rfl (by exact y_mv rfl) ?_
          refine a_held_on (i := 60) 124 (ticked 65 2305843009213693951) rfl (by as_aux_lemma => kernel_rfl) rfl rfl rfl rfl rfl (held_pt 8 rfl rfl (held_pt 8 rfl rfl (held_pt 7 rfl rfl (held_pt 7 rfl rfl (held_pt 6 rfl rfl (held_pt 6 rfl rfl (held_pt 5 rfl rfl (held_pt 5 rfl rfl (held_pt 4 rfl rfl (held_pt 4 rfl rfl (held_pt 3 rfl rfl (held_pt 3 rfl rfl (held_pt 10 rfl rfl (held_pt 10 rfl rfl (held_pt 9 rfl rfl (held_pt 9 rfl rfl held_nil)))))))))))))))) (h_ldn (vs := [.int .i64 max, .slice A1 (fewL l).length c1]) 12 2 rfl rfl rfl Tryd.underlying24 rfl (by kernel_rfl) (by kernel_rfl)) ?_
          refine a_held_on (i := 61) 124 (ticked 65 4611686018427387903) rfl (by as_aux_lemma => kernel_rfl) rfl rfl rfl rfl rfl (held_pt 8 rfl rfl (held_pt 8 rfl rfl (held_pt 7 rfl rfl (held_pt 7 rfl rfl (held_pt 6 rfl rfl (held_pt 6 rfl rfl (held_pt 5 rfl rfl (held_pt 5 rfl rfl (held_pt 4 rfl rfl (held_pt 4 rfl rfl (held_pt 3 rfl rfl (held_pt 3 rfl rfl (held_pt 10 rfl rfl (held_pt 10 rfl rfl (held_pt 9 rfl rfl (held_pt 9 rfl rfl held_nil)))))))))))))))) (h_ldn (vs := [.int .i64 max, .slice A1 (fewL l).length c1]) 12 2 rfl rfl rfl Tryd.underlying24 rfl (by kernel_rfl) (by kernel_rfl)) ?_
          refine a_each (rs := [62]) (by as_aux_lemma => kernel_rfl) (.on 124 (ticked 65 9223372036854775807) rfl rfl rfl rfl rfl (o_call [] [3, 3] (Same_ A1 c1 (fewL l) A1 c1 (fewL l) max max (by first | assumption | exact small_put _ _ _ | exact small_take _ _ | exact small_all _ _ _ | exact small_nil | exact small_right (by assumption) | exact small_one (small_at (by assumption) hx1) | exact small_one (by assumption))) rfl rfl rfl rfl rfl rfl (fun v L' I' hq19 => ?_)) .nil) (List.cons_ne_nil _ _)
          obtain ⟨hv10, rfl, rfl⟩ := hq19
          obtain rfl : v = .bool true := by rw [hv10, decide_eq_true (show max = max ∧ (fewL l) = (fewL l) from ⟨rfl, rfl⟩)]
          refine a_and (held_pt 8 rfl rfl (held_pt 8 rfl rfl (held_pt 7 rfl rfl (held_pt 7 rfl rfl (held_pt 6 rfl rfl (held_pt 6 rfl rfl (held_pt 5 rfl rfl (held_pt 5 rfl rfl (held_pt 4 rfl rfl (held_pt 4 rfl rfl (held_pt 3 rfl rfl (held_pt 3 rfl rfl (held_pt 10 rfl rfl (held_pt 10 rfl rfl (held_pt 9 rfl rfl (held_pt 9 rfl rfl held_nil)))))))))))))))) ?_
          refine a_y (i := 63) (v := .bool true) (ticked 65 18446744073709551615) rfl (by as_aux_lemma => kernel_rfl) rfl rfl rfl (by exact y_pick rfl rfl) ?_
          refine a_y (i := 64) (v := .bool true) (ticked 65 36893488147419103231) rfl (by as_aux_lemma => kernel_rfl) rfl rfl rfl (by exact y_as rfl) ?_
          refine a_done (by as_aux_lemma => kernel_rfl) ?_
          refine q_then ?_
          refine c_ret ?_
          refine c_fin (I' := []) [] [4, 5, 6, 7, 8, 9, 10, 11] rfl (.tmp rfl .nil) rfl rfl rfl ?_
          exact ⟨rfl, rfl, rfl⟩
      ·
        obtain rfl : v = .bool false := by rw [hv4, decide_eq_false h34]
        refine a_and (held_pt 7 rfl rfl (held_pt 7 rfl rfl (held_pt 6 rfl rfl (held_pt 6 rfl rfl (held_pt 5 rfl rfl (held_pt 5 rfl rfl (held_pt 4 rfl rfl (held_pt 4 rfl rfl (held_pt 3 rfl rfl (held_pt 3 rfl rfl (held_pt 2 rfl rfl (held_pt 2 rfl rfl (held_pt 10 rfl rfl (held_pt 10 rfl rfl (held_pt 9 rfl rfl (held_pt 9 rfl rfl held_nil)))))))))))))))) ?_
        refine a_each (rs := [40]) (by as_aux_lemma => kernel_rfl) (.on 101 (ticked 65 2199023255551) rfl rfl rfl rfl rfl (o_call [] [3] (rRight_ A1 c1 (fewL l) max (by first | assumption | exact small_put _ _ _ | exact small_take _ _ | exact small_all _ _ _ | exact small_nil | exact small_right (by assumption) | exact small_one (small_at (by assumption) hx1) | exact small_one (by assumption))) rfl rfl rfl rfl rfl rfl (fun v L' I' hq20 => ?_)) .nil) (List.cons_ne_nil _ _)
        obtain ⟨hv11, rfl, rfl⟩ := hq20
        obtain rfl : v = .bool false := by rw [hv11, decide_eq_false (show ¬ (right max (fewL l)) from h34)]
        refine a_and (held_pt 7 rfl rfl (held_pt 7 rfl rfl (held_pt 6 rfl rfl (held_pt 6 rfl rfl (held_pt 5 rfl rfl (held_pt 5 rfl rfl (held_pt 4 rfl rfl (held_pt 4 rfl rfl (held_pt 3 rfl rfl (held_pt 3 rfl rfl (held_pt 2 rfl rfl (held_pt 2 rfl rfl (held_pt 10 rfl rfl (held_pt 10 rfl rfl (held_pt 9 rfl rfl (held_pt 9 rfl rfl held_nil)))))))))))))))) ?_
        refine a_y_on (i := 41) (v := .bool true) 101 (ticked 65 4398046511103) rfl (by as_aux_lemma => kernel_rfl) rfl rfl rfl rfl rfl (by exact y_k rfl rfl (fun _ => by kernel_rfl)) ?_
        refine a_y (i := 42) (v := .bool true) (ticked 65 8796093022207) rfl (by as_aux_lemma => kernel_rfl) rfl rfl rfl (by exact y_pick rfl rfl) ?_
        refine a_y (i := 43) (v := .bool true) (ticked 65 17592186044415) rfl (by as_aux_lemma => kernel_rfl) rfl rfl rfl (by exact y_mv rfl) ?_
        refine a_held_on (i := 44) 108 (ticked 65 35184372088831) rfl (by as_aux_lemma => kernel_rfl) rfl rfl rfl rfl rfl (held_pt 7 rfl rfl (held_pt 7 rfl rfl (held_pt 6 rfl rfl (held_pt 6 rfl rfl (held_pt 5 rfl rfl (held_pt 5 rfl rfl (held_pt 4 rfl rfl (held_pt 4 rfl rfl (held_pt 3 rfl rfl (held_pt 3 rfl rfl (held_pt 2 rfl rfl (held_pt 2 rfl rfl (held_pt 10 rfl rfl (held_pt 10 rfl rfl (held_pt 9 rfl rfl (held_pt 9 rfl rfl held_nil)))))))))))))))) (h_ldn (vs := [.int .i64 max, .slice A1 (fewL l).length c1]) 12 2 rfl rfl rfl Tryd.underlying24 rfl (by kernel_rfl) (by kernel_rfl)) ?_
        refine a_held_on (i := 46) 108 (ticked 65 105553116266495) rfl (by as_aux_lemma => kernel_rfl) rfl rfl rfl rfl rfl (held_pt 7 rfl rfl (held_pt 7 rfl rfl (held_pt 6 rfl rfl (held_pt 6 rfl rfl (held_pt 5 rfl rfl (held_pt 5 rfl rfl (held_pt 4 rfl rfl (held_pt 4 rfl rfl (held_pt 3 rfl rfl (held_pt 3 rfl rfl (held_pt 2 rfl rfl (held_pt 2 rfl rfl (held_pt 10 rfl rfl (held_pt 10 rfl rfl (held_pt 9 rfl rfl (held_pt 9 rfl rfl held_nil)))))))))))))))) (h_ldn (vs := [.int .i64 max, .slice A1 (fewL l).length c1]) 12 2 rfl rfl rfl Tryd.underlying24 rfl (by kernel_rfl) (by kernel_rfl)) ?_
        refine a_each (rs := [45]) (by as_aux_lemma => kernel_rfl) (.on 108 (ticked 65 140737488355327) rfl rfl rfl rfl rfl (o_call [] [3, 6, 7, 8, 9, 10, 11] (Used_ A1 c1 (fewL l) max ea ef ee (by first | assumption | exact small_put _ _ _ | exact small_take _ _ | exact small_all _ _ _ | exact small_nil | exact small_right (by assumption) | exact small_one (small_at (by assumption) hx1) | exact small_one (by assumption))) rfl rfl rfl rfl rfl rfl (fun v L' I' hq21 => ?_)) .nil) (List.cons_ne_nil _ _)
        obtain ⟨rfl, rfl, rfl⟩ := hq21
        refine a_and (held_pt 7 rfl rfl (held_pt 7 rfl rfl (held_pt 6 rfl rfl (held_pt 6 rfl rfl (held_pt 5 rfl rfl (held_pt 5 rfl rfl (held_pt 4 rfl rfl (held_pt 4 rfl rfl (held_pt 3 rfl rfl (held_pt 3 rfl rfl (held_pt 2 rfl rfl (held_pt 2 rfl rfl (held_pt 10 rfl rfl (held_pt 10 rfl rfl (held_pt 9 rfl rfl (held_pt 9 rfl rfl held_nil)))))))))))))))) ?_
        refine a_each (rs := [47]) (by as_aux_lemma => kernel_rfl) (.on 108 (ticked 65 281474976710655) rfl rfl rfl rfl rfl (o_call [] [3] (rUsed_ A1 c1 (fewL l) max (by first | assumption | exact small_put _ _ _ | exact small_take _ _ | exact small_all _ _ _ | exact small_nil | exact small_right (by assumption) | exact small_one (small_at (by assumption) hx1) | exact small_one (by assumption))) rfl rfl rfl rfl rfl rfl (fun v L' I' hq22 => ?_)) .nil) (List.cons_ne_nil _ _)
        obtain ⟨rfl, rfl, rfl⟩ := hq22
        refine a_and (held_pt 7 rfl rfl (held_pt 7 rfl rfl (held_pt 6 rfl rfl (held_pt 6 rfl rfl (held_pt 5 rfl rfl (held_pt 5 rfl rfl (held_pt 4 rfl rfl (held_pt 4 rfl rfl (held_pt 3 rfl rfl (held_pt 3 rfl rfl (held_pt 2 rfl rfl (held_pt 2 rfl rfl (held_pt 10 rfl rfl (held_pt 10 rfl rfl (held_pt 9 rfl rfl (held_pt 9 rfl rfl held_nil)))))))))))))))) ?_
        have h37 : (usedF max (fewL l) : Int) = (usedF max (fewL l) : Int) := rfl
        refine a_y_on (i := 48) (v := .bool true) 108 (ticked 65 562949953421311) rfl (by as_aux_lemma => kernel_rfl) rfl rfl rfl rfl rfl (by exact y_b (y_k (v := .bool ((usedF max (fewL l) : Int) == (usedF max (fewL l) : Int))) rfl rfl (fun _ => by kernel_rfl)) (beq_iff_eq.2 h37)) ?_
        refine a_y (i := 49) (v := .bool true) (ticked 65 1125899906842623) rfl (by as_aux_lemma => kernel_rfl) rfl rfl rfl (by exact y_pick rfl rfl) ?_
        refine a_y (i := 50) (v := .bool true) (ticked 65 2251799813685247) rfl (by as_aux_lemma => kernel_rfl) rfl rfl rfl (by exact y_mv rfl) ?_
        refine a_held_on (i := 51) 115 (ticked 65 4503599627370495) rfl (by as_aux_lemma => kernel_rfl) rfl rfl rfl rfl rfl (held_pt 7 rfl rfl (held_pt 7 rfl rfl (held_pt 6 rfl rfl (held_pt 6 rfl rfl (held_pt 5 rfl rfl (held_pt 5 rfl rfl (held_pt 4 rfl rfl (held_pt 4 rfl rfl (held_pt 3 rfl rfl (held_pt 3 rfl rfl (held_pt 2 rfl rfl (held_pt 2 rfl rfl (held_pt 10 rfl rfl (held_pt 10 rfl rfl (held_pt 9 rfl rfl (held_pt 9 rfl rfl held_nil)))))))))))))))) (h_ldn (vs := [.int .i64 max, .slice A1 (fewL l).length c1]) 12 2 rfl rfl rfl Tryd.underlying24 rfl (by kernel_rfl) (by kernel_rfl)) ?_
        refine a_held_on (i := 52) 115 (ticked 65 9007199254740991) rfl (by as_aux_lemma => kernel_rfl) rfl rfl rfl rfl rfl (held_pt 7 rfl rfl (held_pt 7 rfl rfl (held_pt 6 rfl rfl (held_pt 6 rfl rfl (held_pt 5 rfl rfl (held_pt 5 rfl rfl (held_pt 4 rfl rfl (held_pt 4 rfl rfl (held_pt 3 rfl rfl (held_pt 3 rfl rfl (held_pt 2 rfl rfl (held_pt 2 rfl rfl (held_pt 10 rfl rfl (held_pt 10 rfl rfl (held_pt 9 rfl rfl (held_pt 9 rfl rfl held_nil)))))))))))))))) (h_ldn (vs := [.int .i64 mr, .slice A2 (fewL r).length c2]) 14 2 rfl rfl rfl Tryd.underlying24 rfl (by kernel_rfl) (by kernel_rfl)) ?_
        refine a_held_on (i := 54) 115 (ticked 65 27021597764222975) rfl (by as_aux_lemma => kernel_rfl) rfl rfl rfl rfl rfl (held_pt 7 rfl rfl (held_pt 7 rfl rfl (held_pt 6 rfl rfl (held_pt 6 rfl rfl (held_pt 5 rfl rfl (held_pt 5 rfl rfl (held_pt 4 rfl rfl (held_pt 4 rfl rfl (held_pt 3 rfl rfl (held_pt 3 rfl rfl (held_pt 2 rfl rfl (held_pt 2 rfl rfl (held_pt 10 rfl rfl (held_pt 10 rfl rfl (held_pt 9 rfl rfl (held_pt 9 rfl rfl held_nil)))))))))))))))) (h_ldn (vs := [.int .i64 max, .slice A1 (fewL l).length c1]) 12 2 rfl rfl rfl Tryd.underlying24 rfl (by kernel_rfl) (by kernel_rfl)) ?_
        refine a_held_on (i := 55) 115 (ticked 65 63050394783186943) rfl (by as_aux_lemma => kernel_rfl) rfl rfl rfl rfl rfl (held_pt 7 rfl rfl (held_pt 7 rfl rfl (held_pt 6 rfl rfl (held_pt 6 rfl rfl (held_pt 5 rfl rfl (held_pt 5 rfl rfl (held_pt 4 rfl rfl (held_pt 4 rfl rfl (held_pt 3 rfl rfl (held_pt 3 rfl rfl (held_pt 2 rfl rfl (held_pt 2 rfl rfl (held_pt 10 rfl rfl (held_pt 10 rfl rfl (held_pt 9 rfl rfl (held_pt 9 rfl rfl held_nil)))))))))))))))) (h_ldn (vs := [.int .i64 mr, .slice A2 (fewL r).length c2]) 14 2 rfl rfl rfl Tryd.underlying24 rfl (by kernel_rfl) (by kernel_rfl)) ?_
        refine a_each (rs := [53]) (by as_aux_lemma => kernel_rfl) (.on 115 (ticked 65 72057594037927935) rfl rfl rfl rfl rfl (o_lend [8] [] [3] (Con.wide (I2 := [rd strTy A2 c2 (fewL r), rd strTy A1 c1 (fewL l)]) (Same_ A1 c1 (fewL l) A2 c2 (fewL r) max mr (by first | assumption | exact small_put _ _ _ | exact small_take _ _ | exact small_all _ _ _ | exact small_nil | exact small_right (by assumption) | exact small_one (small_at (by assumption) hx1) | exact small_one (by assumption))) (by intro φ h; simp only [List.mem_cons, List.not_mem_nil, or_false] at h ⊢; grind)) (.cons lend_ars .nil) rfl rfl rfl rfl rfl rfl rfl rfl (fun v L' I' hq23 => ?_)) .nil) (List.cons_ne_nil _ _)
        obtain ⟨hv12, rfl, rfl⟩ := hq23
        refine ⟨rfl, ?_⟩
        refine e_by (max = mr ∧ (fewL l) = (fewL r)) (fun h38 => ?_) (fun h38 => ?_)
        ·
          obtain rfl : v = .bool true := by rw [hv12, decide_eq_true h38]
          refine a_and (held_pt 8 rfl rfl (held_pt 8 rfl rfl (held_pt 7 rfl rfl (held_pt 7 rfl rfl (held_pt 6 rfl rfl (held_pt 6 rfl rfl (held_pt 5 rfl rfl (held_pt 5 rfl rfl (held_pt 4 rfl rfl (held_pt 4 rfl rfl (held_pt 3 rfl rfl (held_pt 3 rfl rfl (held_pt 10 rfl rfl (held_pt 10 rfl rfl (held_pt 9 rfl rfl (held_pt 9 rfl rfl held_nil)))))))))))))))) ?_
          refine a_each (rs := [56]) (by as_aux_lemma => kernel_rfl) (.on 115 (ticked 65 144115188075855871) rfl rfl rfl rfl rfl (o_lend [0] [] [3] (Con.wide (I2 := [rd strTy A2 c2 (fewL r), rd strTy A1 c1 (fewL l)]) (rSame_ A1 c1 (fewL l) A2 c2 (fewL r) max mr (by first | assumption | exact small_put _ _ _ | exact small_take _ _ | exact small_all _ _ _ | exact small_nil | exact small_right (by assumption) | exact small_one (small_at (by assumption) hx1) | exact small_one (by assumption))) (by intro φ h; simp only [List.mem_cons, List.not_mem_nil, or_false] at h ⊢; grind)) (.cons lend_ars .nil) rfl rfl rfl rfl rfl rfl rfl rfl (fun v L' I' hq24 => ?_)) .nil) (List.cons_ne_nil _ _)
          obtain ⟨hv13, rfl, rfl⟩ := hq24
          refine ⟨rfl, ?_⟩
          obtain rfl : v = .bool true := by rw [hv13, decide_eq_true (show max = mr ∧ (fewL l) = (fewL r) from h38)]
          refine a_and (held_pt 8 rfl rfl (held_pt 8 rfl rfl (held_pt 7 rfl rfl (held_pt 7 rfl rfl (held_pt 6 rfl rfl (held_pt 6 rfl rfl (held_pt 5 rfl rfl (held_pt 5 rfl rfl (held_pt 4 rfl rfl (held_pt 4 rfl rfl (held_pt 3 rfl rfl (held_pt 3 rfl rfl (held_pt 10 rfl rfl (held_pt 10 rfl rfl (held_pt 9 rfl rfl (held_pt 9 rfl rfl held_nil)))))))))))))))) ?_
          refine a_y_on (i := 57) (v := .bool true) 115 (ticked 65 288230376151711743) rfl (by as_aux_lemma => kernel_rfl) rfl rfl rfl rfl rfl (by exact y_k rfl rfl (fun _ => by kernel_rfl)) ?_
          refine a_y (i := 58) (v := .bool true) (ticked 65 576460752303423487) rfl (by as_aux_lemma => kernel_rfl) rfl rfl rfl (by exact y_pick rfl rfl) ?_
          refine a_y (i := 59) (v := .bool true) (ticked 65 1152921504606846975) rfl (by as_aux_lemma => kernel_rfl) rfl rfl rfl (by exact y_mv rfl) ?_
          refine a_held_on (i := 60) 124 (ticked 65 2305843009213693951) rfl (by as_aux_lemma => kernel_rfl) rfl rfl rfl rfl rfl (held_pt 8 rfl rfl (held_pt 8 rfl rfl (held_pt 7 rfl rfl (held_pt 7 rfl rfl (held_pt 6 rfl rfl (held_pt 6 rfl rfl (held_pt 5 rfl rfl (held_pt 5 rfl rfl (held_pt 4 rfl rfl (held_pt 4 rfl rfl (held_pt 3 rfl rfl (held_pt 3 rfl rfl (held_pt 10 rfl rfl (held_pt 10 rfl rfl (held_pt 9 rfl rfl (held_pt 9 rfl rfl held_nil)))))))))))))))) (h_ldn (vs := [.int .i64 max, .slice A1 (fewL l).length c1]) 12 2 rfl rfl rfl Tryd.underlying24 rfl (by kernel_rfl) (by kernel_rfl)) ?_
          refine a_held_on (i := 61) 124 (ticked 65 4611686018427387903) rfl (by as_aux_lemma => kernel_rfl) rfl rfl rfl rfl rfl (held_pt 8 rfl rfl (held_pt 8 rfl rfl (held_pt 7 rfl rfl (held_pt 7 rfl rfl (held_pt 6 rfl rfl (held_pt 6 rfl rfl (held_pt 5 rfl rfl (held_pt 5 rfl rfl (held_pt 4 rfl rfl (held_pt 4 rfl rfl (held_pt 3 rfl rfl (held_pt 3 rfl rfl (held_pt 10 rfl rfl (held_pt 10 rfl rfl (held_pt 9 rfl rfl (held_pt 9 rfl rfl held_nil)))))))))))))))) (h_ldn (vs := [.int .i64 max, .slice A1 (fewL l).length c1]) 12 2 rfl rfl rfl Tryd.underlying24 rfl (by kernel_rfl) (by kernel_rfl)) ?_
          refine a_each (rs := [62]) (by as_aux_lemma => kernel_rfl) (.on 124 (ticked 65 9223372036854775807) rfl rfl rfl rfl rfl (o_call [] [3, 3] (Same_ A1 c1 (fewL l) A1 c1 (fewL l) max max (by first | assumption | exact small_put _ _ _ | exact small_take _ _ | exact small_all _ _ _ | exact small_nil | exact small_right (by assumption) | exact small_one (small_at (by assumption) hx1) | exact small_one (by assumption))) rfl rfl rfl rfl rfl rfl (fun v L' I' hq25 => ?_)) .nil) (List.cons_ne_nil _ _)
          obtain ⟨hv14, rfl, rfl⟩ := hq25
          obtain rfl : v = .bool true := by rw [hv14, decide_eq_true (show max = max ∧ (fewL l) = (fewL l) from ⟨rfl, rfl⟩)]
          refine a_and (held_pt 8 rfl rfl (held_pt 8 rfl rfl (held_pt 7 rfl rfl (held_pt 7 rfl rfl (held_pt 6 rfl rfl (held_pt 6 rfl rfl (held_pt 5 rfl rfl (held_pt 5 rfl rfl (held_pt 4 rfl rfl (held_pt 4 rfl rfl (held_pt 3 rfl rfl (held_pt 3 rfl rfl (held_pt 10 rfl rfl (held_pt 10 rfl rfl (held_pt 9 rfl rfl (held_pt 9 rfl rfl held_nil)))))))))))))))) ?_
          refine a_y (i := 63) (v := .bool true) (ticked 65 18446744073709551615) rfl (by as_aux_lemma => kernel_rfl) rfl rfl rfl (by exact y_pick rfl rfl) ?_
          refine a_y (i := 64) (v := .bool true) (ticked 65 36893488147419103231) rfl (by as_aux_lemma => kernel_rfl) rfl rfl rfl (by exact y_as rfl) ?_
          refine a_done (by as_aux_lemma => kernel_rfl) ?_
          refine q_then ?_
          refine c_ret ?_
          refine c_fin (I' := []) [] [4, 5, 6, 7, 8, 9, 10, 11] rfl (.tmp rfl .nil) rfl rfl rfl ?_
          exact ⟨rfl, rfl, rfl⟩
        ·
          obtain rfl : v = .bool false := by rw [hv12, decide_eq_false h38]
          refine a_and (held_pt 8 rfl rfl (held_pt 8 rfl rfl (held_pt 7 rfl rfl (held_pt 7 rfl rfl (held_pt 6 rfl rfl (held_pt 6 rfl rfl (held_pt 5 rfl rfl (held_pt 5 rfl rfl (held_pt 4 rfl rfl (held_pt 4 rfl rfl (held_pt 3 rfl rfl (held_pt 3 rfl rfl (held_pt 10 rfl rfl (held_pt 10 rfl rfl (held_pt 9 rfl rfl (held_pt 9 rfl rfl held_nil)))))))))))))))) ?_
          refine a_each (rs := [56]) (by as_aux_lemma => kernel_rfl) (.on 115 (ticked 65 144115188075855871) rfl rfl rfl rfl rfl (o_lend [0] [] [3] (Con.wide (I2 := [rd strTy A2 c2 (fewL r), rd strTy A1 c1 (fewL l)]) (rSame_ A1 c1 (fewL l) A2 c2 (fewL r) max mr (by first | assumption | exact small_put _ _ _ | exact small_take _ _ | exact small_all _ _ _ | exact small_nil | exact small_right (by assumption) | exact small_one (small_at (by assumption) hx1) | exact small_one (by assumption))) (by intro φ h; simp only [List.mem_cons, List.not_mem_nil, or_false] at h ⊢; grind)) (.cons lend_ars .nil) rfl rfl rfl rfl rfl rfl rfl rfl (fun v L' I' hq26 => ?_)) .nil) (List.cons_ne_nil _ _)
          obtain ⟨hv15, rfl, rfl⟩ := hq26
          refine ⟨rfl, ?_⟩
          obtain rfl : v = .bool false := by rw [hv15, decide_eq_false (show ¬ (max = mr ∧ (fewL l) = (fewL r)) from h38)]
          refine a_and (held_pt 8 rfl rfl (held_pt 8 rfl rfl (held_pt 7 rfl rfl (held_pt 7 rfl rfl (held_pt 6 rfl rfl (held_pt 6 rfl rfl (held_pt 5 rfl rfl (held_pt 5 rfl rfl (held_pt 4 rfl rfl (held_pt 4 rfl rfl (held_pt 3 rfl rfl (held_pt 3 rfl rfl (held_pt 10 rfl rfl (held_pt 10 rfl rfl (held_pt 9 rfl rfl (held_pt 9 rfl rfl held_nil)))))))))))))))) ?_
          refine a_y_on (i := 57) (v := .bool true) 115 (ticked 65 288230376151711743) rfl (by as_aux_lemma => kernel_rfl) rfl rfl rfl rfl rfl (by exact y_k rfl rfl (fun _ => by kernel_rfl)) ?_
          refine a_y (i := 58) (v := .bool true) (ticked 65 576460752303423487) rfl (by as_aux_lemma => kernel_rfl) rfl rfl rfl (by exact y_pick rfl rfl) ?_
          refine a_y (i := 59) (v := .bool true) (ticked 65 1152921504606846975) rfl (by as_aux_lemma => kernel_rfl) rfl rfl rfl (by exact y_mv rfl) ?_
          refine a_held_on (i := 60) 124 (ticked 65 2305843009213693951) rfl (by as_aux_lemma => kernel_rfl) rfl rfl rfl rfl rfl (held_pt 8 rfl rfl (held_pt 8 rfl rfl (held_pt 7 rfl rfl (held_pt 7 rfl rfl (held_pt 6 rfl rfl (held_pt 6 rfl rfl (held_pt 5 rfl rfl (held_pt 5 rfl rfl (held_pt 4 rfl rfl (held_pt 4 rfl rfl (held_pt 3 rfl rfl (held_pt 3 rfl rfl (held_pt 10 rfl rfl (held_pt 10 rfl rfl (held_pt 9 rfl rfl (held_pt 9 rfl rfl held_nil)))))))))))))))) (h_ldn (vs := [.int .i64 max, .slice A1 (fewL l).length c1]) 12 2 rfl rfl rfl Tryd.underlying24 rfl (by kernel_rfl) (by kernel_rfl)) ?_
          refine a_held_on (i := 61) 124 (ticked 65 4611686018427387903) rfl (by as_aux_lemma => kernel_rfl) rfl rfl rfl rfl rfl (held_pt 8 rfl rfl (held_pt 8 rfl rfl (held_pt 7 rfl rfl (held_pt 7 rfl rfl (held_pt 6 rfl rfl (held_pt 6 rfl rfl (held_pt 5 rfl rfl (held_pt 5 rfl rfl (held_pt 4 rfl rfl (held_pt 4 rfl rfl (held_pt 3 rfl rfl (held_pt 3 rfl rfl (held_pt 10 rfl rfl (held_pt 10 rfl rfl (held_pt 9 rfl rfl (held_pt 9 rfl rfl held_nil)))))))))))))))) (h_ldn (vs := [.int .i64 max, .slice A1 (fewL l).length c1]) 12 2 rfl rfl rfl Tryd.underlying24 rfl (by kernel_rfl) (by kernel_rfl)) ?_
          refine a_each (rs := [62]) (by as_aux_lemma => kernel_rfl) (.on 124 (ticked 65 9223372036854775807) rfl rfl rfl rfl rfl (o_call [] [3, 3] (Same_ A1 c1 (fewL l) A1 c1 (fewL l) max max (by first | assumption | exact small_put _ _ _ | exact small_take _ _ | exact small_all _ _ _ | exact small_nil | exact small_right (by assumption) | exact small_one (small_at (by assumption) hx1) | exact small_one (by assumption))) rfl rfl rfl rfl rfl rfl (fun v L' I' hq27 => ?_)) .nil) (List.cons_ne_nil _ _)
          obtain ⟨hv16, rfl, rfl⟩ := hq27
          obtain rfl : v = .bool true := by rw [hv16, decide_eq_true (show max = max ∧ (fewL l) = (fewL l) from ⟨rfl, rfl⟩)]
          refine a_and (held_pt 8 rfl rfl (held_pt 8 rfl rfl (held_pt 7 rfl rfl (held_pt 7 rfl rfl (held_pt 6 rfl rfl (held_pt 6 rfl rfl (held_pt 5 rfl rfl (held_pt 5 rfl rfl (held_pt 4 rfl rfl (held_pt 4 rfl rfl (held_pt 3 rfl rfl (held_pt 3 rfl rfl (held_pt 10 rfl rfl (held_pt 10 rfl rfl (held_pt 9 rfl rfl (held_pt 9 rfl rfl held_nil)))))))))))))))) ?_
          refine a_y (i := 63) (v := .bool true) (ticked 65 18446744073709551615) rfl (by as_aux_lemma => kernel_rfl) rfl rfl rfl (by exact y_pick rfl rfl) ?_
          refine a_y (i := 64) (v := .bool true) (ticked 65 36893488147419103231) rfl (by as_aux_lemma => kernel_rfl) rfl rfl rfl (by exact y_as rfl) ?_
          refine a_done (by as_aux_lemma => kernel_rfl) ?_
          refine q_then ?_
          refine c_ret ?_
          refine c_fin (I' := []) [] [4, 5, 6, 7, 8, 9, 10, 11] rfl (.tmp rfl .nil) rfl rfl rfl ?_
          exact ⟨rfl, rfl, rfl⟩
    refine a_y (i := 1) (v := .string item) (ticked 10 2) rfl (by as_aux_lemma => kernel_rfl) rfl rfl rfl (by exact y_mv rfl) ?_
    refine a_held (i := 0) (ticked 10 3) rfl (by as_aux_lemma => kernel_rfl) rfl rfl rfl (held_pt 7 rfl rfl (held_pt 7 rfl rfl held_nil)) (h_ldn (vs := [.int .i64 max, .slice A1 (fewL l).length c1]) 0 2 rfl rfl rfl Tryd.underlying24 rfl (by kernel_rfl) (by kernel_rfl)) ?_
    refine a_each (rs := [2, 7]) (by as_aux_lemma => kernel_rfl) (.cons (ticked 10 7) rfl rfl rfl ?_ (.cons (ticked 10 131) rfl rfl rfl ?_ .nil)) (List.cons_ne_nil _ _)
    ·
      refine o_call [] [] (cut_ item) rfl rfl rfl rfl rfl rfl (fun v L' I' hq28 => ?_)
      obtain ⟨h39, rfl, rfl, rfl⟩ := hq28
      refine a_and (held_pt 7 rfl rfl (held_pt 7 rfl rfl held_nil)) ?_
      refine a_each (rs := [3, 7]) (by as_aux_lemma => kernel_rfl) (.cons (ticked 10 15) rfl rfl rfl ?_ (.cons (ticked 10 135) rfl rfl rfl ?_ .nil)) (List.cons_ne_nil _ _)
      ·
        refine e_still 2 rfl ?_
        refine o_call [] [0] (rPut_ A1 c1 (fewL l) max (cutS item) (by first | assumption | exact small_put _ _ _ | exact small_take _ _ | exact small_all _ _ _ | exact small_nil | exact small_right (by assumption) | exact small_one (small_at (by assumption) hx1) | exact small_one (by assumption)) (by first | assumption | omega | decide | exact small_at (by assumption) hx1)) rfl rfl rfl rfl rfl rfl (fun v L' I' hq29 => ?_)
        obtain ⟨A7, c7, rfl, rfl, rfl⟩ := hq29
        refine a_and (held_pt 6 rfl rfl (held_pt 6 rfl rfl held_nil)) ?_
        refine a_y (i := 4) (v := .tuple #[.agg #[.int .i64 ((putF max (fewL l) (cutS item)).1), .slice A7 ((putF max (fewL l) (cutS item)).2.1).length c7], .int .i64 ((putF max (fewL l) (cutS item)).2.2)]) (ticked 10 31) rfl (by as_aux_lemma => kernel_rfl) rfl rfl rfl (by exact y_mv rfl) ?_
        refine a_y (i := 5) (v := .agg #[.int .i64 ((putF max (fewL l) (cutS item)).1), .slice A7 ((putF max (fewL l) (cutS item)).2.1).length c7]) (ticked 10 63) rfl (by as_aux_lemma => kernel_rfl) rfl rfl rfl (by exact y_k rfl rfl (fun _ => by kernel_rfl)) ?_
        refine a_y (i := 6) (v := .int .i64 ((putF max (fewL l) (cutS item)).2.2)) (ticked 10 127) rfl (by as_aux_lemma => kernel_rfl) rfl rfl rfl (by exact y_k rfl rfl (fun _ => by kernel_rfl)) ?_
        refine a_each (rs := [7]) (by as_aux_lemma => kernel_rfl) (.cons (ticked 10 255) rfl rfl rfl (o_box (cs := [.int .i64 0, .slice none 0 0]) (T := 24) rfl rfl rfl rfl (fun _ => by kernel_rfl) (fun b9 => ?_)) .nil) (List.cons_ne_nil _ _)
        refine a_and (held_pt 7 rfl rfl (held_pt 7 rfl rfl held_nil)) ?_
        refine a_each (rs := [8]) (by as_aux_lemma => kernel_rfl) (.cons (ticked 10 511) rfl rfl rfl (o_st 0 rfl rfl rfl rfl rfl (by kernel_rfl) (by kernel_rfl) rfl ?_) .nil) (List.cons_ne_nil _ _)
        refine a_and (held_pt 7 rfl rfl (held_pt 7 rfl rfl held_nil)) ?_
        refine a_y (i := 9) (v := .int .i64 ((putF max (fewL l) (cutS item)).2.2)) (ticked 10 1023) rfl (by as_aux_lemma => kernel_rfl) rfl rfl rfl (by exact y_as rfl) ?_
        refine a_done (by as_aux_lemma => kernel_rfl) ?_
        refine e_norm (e' := [(4, .pointer (some ⟨b1, 0, none⟩)), (7, .pointer (some ⟨b2, 0, none⟩)), (8, .bool false), (9, .bool true), (10, .pointer (some ⟨b3, 0, none⟩)), (11, .int .i64 ((newF mx).2)), (12, .pointer (some ⟨b4, 0, none⟩)), (13, .int .i64 ((newF mx).2)), (14, .pointer (some ⟨b5, 0, none⟩)), (15, .int .i64 ((putF max (fewL l) (cutS item)).2.2)), (16, .pointer (some ⟨b9, 0, none⟩)), (17, .int .i64 ((putF max (fewL l) (cutS item)).2.2))]) [0, 0, 0, 0, 0, 0, 0, 0] [0, 1, 2, 3, 4, 5, 6, 7, 8, 9] ((.cons rfl rfl (.cons rfl rfl (.cons rfl rfl (.cons rfl rfl (.cons rfl rfl (.cons rfl rfl (.cons rfl rfl (.cons rfl rfl (.cons rfl rfl (.cons rfl rfl (.cons rfl rfl (.cons rfl rfl .nil))))))))))))) rfl rfl ?_
        exact cut2 A7 c7 b9 h39
      ·
        refine o_box (cs := [.int .i64 0, .slice none 0 0]) (T := 24) rfl rfl rfl rfl (fun _ => by kernel_rfl) (fun b10 => ?_)
        refine a_and (held_pt 8 rfl rfl (held_pt 8 rfl rfl held_nil)) ?_
        refine e_still 3 rfl ?_
        refine a_each (rs := [3]) (by as_aux_lemma => kernel_rfl) (.cons (ticked 10 143) rfl rfl rfl (o_call [] [0] (rPut_ A1 c1 (fewL l) max (cutS item) (by first | assumption | exact small_put _ _ _ | exact small_take _ _ | exact small_all _ _ _ | exact small_nil | exact small_right (by assumption) | exact small_one (small_at (by assumption) hx1) | exact small_one (by assumption)) (by first | assumption | omega | decide | exact small_at (by assumption) hx1)) rfl rfl rfl rfl rfl rfl (fun v L' I' hq30 => ?_)) .nil) (List.cons_ne_nil _ _)
        obtain ⟨A8, c8, rfl, rfl, rfl⟩ := hq30
        refine a_and (held_pt 7 rfl rfl (held_pt 7 rfl rfl held_nil)) ?_
        refine a_y (i := 4) (v := .tuple #[.agg #[.int .i64 ((putF max (fewL l) (cutS item)).1), .slice A8 ((putF max (fewL l) (cutS item)).2.1).length c8], .int .i64 ((putF max (fewL l) (cutS item)).2.2)]) (ticked 10 159) rfl (by as_aux_lemma => kernel_rfl) rfl rfl rfl (by exact y_mv rfl) ?_
        refine a_y (i := 5) (v := .agg #[.int .i64 ((putF max (fewL l) (cutS item)).1), .slice A8 ((putF max (fewL l) (cutS item)).2.1).length c8]) (ticked 10 191) rfl (by as_aux_lemma => kernel_rfl) rfl rfl rfl (by exact y_k rfl rfl (fun _ => by kernel_rfl)) ?_
        refine a_y (i := 6) (v := .int .i64 ((putF max (fewL l) (cutS item)).2.2)) (ticked 10 255) rfl (by as_aux_lemma => kernel_rfl) rfl rfl rfl (by exact y_k rfl rfl (fun _ => by kernel_rfl)) ?_
        refine a_each (rs := [8]) (by as_aux_lemma => kernel_rfl) (.cons (ticked 10 511) rfl rfl rfl (o_st 0 rfl rfl rfl rfl rfl (by kernel_rfl) (by kernel_rfl) rfl ?_) .nil) (List.cons_ne_nil _ _)
        refine a_and (held_pt 7 rfl rfl (held_pt 7 rfl rfl held_nil)) ?_
        refine a_y (i := 9) (v := .int .i64 ((putF max (fewL l) (cutS item)).2.2)) (ticked 10 1023) rfl (by as_aux_lemma => kernel_rfl) rfl rfl rfl (by exact y_as rfl) ?_
        refine a_done (by as_aux_lemma => kernel_rfl) ?_
        refine e_norm (e' := [(4, .pointer (some ⟨b1, 0, none⟩)), (7, .pointer (some ⟨b2, 0, none⟩)), (8, .bool false), (9, .bool true), (10, .pointer (some ⟨b3, 0, none⟩)), (11, .int .i64 ((newF mx).2)), (12, .pointer (some ⟨b4, 0, none⟩)), (13, .int .i64 ((newF mx).2)), (14, .pointer (some ⟨b5, 0, none⟩)), (15, .int .i64 ((putF max (fewL l) (cutS item)).2.2)), (16, .pointer (some ⟨b10, 0, none⟩)), (17, .int .i64 ((putF max (fewL l) (cutS item)).2.2))]) [0, 0, 0, 0, 0, 0, 0, 0] [0, 1, 2, 3, 4, 5, 6, 7, 8, 9] ((.cons rfl rfl (.cons rfl rfl (.cons rfl rfl (.cons rfl rfl (.cons rfl rfl (.cons rfl rfl (.cons rfl rfl (.cons rfl rfl (.cons rfl rfl (.cons rfl rfl (.cons rfl rfl (.cons rfl rfl .nil))))))))))))) rfl rfl ?_
        exact cut2 A8 c8 b10 h39
    ·
      refine o_box (cs := [.int .i64 0, .slice none 0 0]) (T := 24) rfl rfl rfl rfl (fun _ => by kernel_rfl) (fun b11 => ?_)
      refine a_and (held_pt 8 rfl rfl (held_pt 8 rfl rfl held_nil)) ?_
      refine a_each (rs := [2]) (by as_aux_lemma => kernel_rfl) (.cons (ticked 10 135) rfl rfl rfl (o_call [] [] (cut_ item) rfl rfl rfl rfl rfl rfl (fun v L' I' hq31 => ?_)) .nil) (List.cons_ne_nil _ _)
      obtain ⟨h40, rfl, rfl, rfl⟩ := hq31
      refine a_and (held_pt 8 rfl rfl (held_pt 8 rfl rfl held_nil)) ?_
      refine e_still 3 rfl ?_
      refine a_each (rs := [3]) (by as_aux_lemma => kernel_rfl) (.cons (ticked 10 143) rfl rfl rfl (o_call [] [0] (rPut_ A1 c1 (fewL l) max (cutS item) (by first | assumption | exact small_put _ _ _ | exact small_take _ _ | exact small_all _ _ _ | exact small_nil | exact small_right (by assumption) | exact small_one (small_at (by assumption) hx1) | exact small_one (by assumption)) (by first | assumption | omega | decide | exact small_at (by assumption) hx1)) rfl rfl rfl rfl rfl rfl (fun v L' I' hq32 => ?_)) .nil) (List.cons_ne_nil _ _)
      obtain ⟨A9, c9, rfl, rfl, rfl⟩ := hq32
      refine a_and (held_pt 7 rfl rfl (held_pt 7 rfl rfl held_nil)) ?_
      refine a_y (i := 4) (v := .tuple #[.agg #[.int .i64 ((putF max (fewL l) (cutS item)).1), .slice A9 ((putF max (fewL l) (cutS item)).2.1).length c9], .int .i64 ((putF max (fewL l) (cutS item)).2.2)]) (ticked 10 159) rfl (by as_aux_lemma => kernel_rfl) rfl rfl rfl (by exact y_mv rfl) ?_
      refine a_y (i := 5) (v := .agg #[.int .i64 ((putF max (fewL l) (cutS item)).1), .slice A9 ((putF max (fewL l) (cutS item)).2.1).length c9]) (ticked 10 191) rfl (by as_aux_lemma => kernel_rfl) rfl rfl rfl (by exact y_k rfl rfl (fun _ => by kernel_rfl)) ?_
      refine a_y (i := 6) (v := .int .i64 ((putF max (fewL l) (cutS item)).2.2)) (ticked 10 255) rfl (by as_aux_lemma => kernel_rfl) rfl rfl rfl (by exact y_k rfl rfl (fun _ => by kernel_rfl)) ?_
      refine a_each (rs := [8]) (by as_aux_lemma => kernel_rfl) (.cons (ticked 10 511) rfl rfl rfl (o_st 0 rfl rfl rfl rfl rfl (by kernel_rfl) (by kernel_rfl) rfl ?_) .nil) (List.cons_ne_nil _ _)
      refine a_and (held_pt 7 rfl rfl (held_pt 7 rfl rfl held_nil)) ?_
      refine a_y (i := 9) (v := .int .i64 ((putF max (fewL l) (cutS item)).2.2)) (ticked 10 1023) rfl (by as_aux_lemma => kernel_rfl) rfl rfl rfl (by exact y_as rfl) ?_
      refine a_done (by as_aux_lemma => kernel_rfl) ?_
      refine e_norm (e' := [(4, .pointer (some ⟨b1, 0, none⟩)), (7, .pointer (some ⟨b2, 0, none⟩)), (8, .bool false), (9, .bool true), (10, .pointer (some ⟨b3, 0, none⟩)), (11, .int .i64 ((newF mx).2)), (12, .pointer (some ⟨b4, 0, none⟩)), (13, .int .i64 ((newF mx).2)), (14, .pointer (some ⟨b5, 0, none⟩)), (15, .int .i64 ((putF max (fewL l) (cutS item)).2.2)), (16, .pointer (some ⟨b11, 0, none⟩)), (17, .int .i64 ((putF max (fewL l) (cutS item)).2.2))]) [0, 0, 0, 0, 0, 0, 0, 0] [0, 1, 2, 3, 4, 5, 6, 7, 8, 9] ((.cons rfl rfl (.cons rfl rfl (.cons rfl rfl (.cons rfl rfl (.cons rfl rfl (.cons rfl rfl (.cons rfl rfl (.cons rfl rfl (.cons rfl rfl (.cons rfl rfl (.cons rfl rfl (.cons rfl rfl .nil))))))))))))) rfl rfl ?_
      exact cut2 A9 c9 b11 h40
  refine a_y (i := 1) (v := .string item) (ticked 10 2) rfl (by as_aux_lemma => kernel_rfl) rfl rfl rfl (by exact y_mv rfl) ?_
  refine a_held (i := 0) (ticked 10 3) rfl (by as_aux_lemma => kernel_rfl) rfl rfl rfl (held_pt 5 rfl rfl (held_pt 5 rfl rfl held_nil)) (h_ldn (vs := [.int .i64 max, .slice A1 (fewL l).length c1]) 0 2 rfl rfl rfl Tryd.underlying24 rfl (by kernel_rfl) (by kernel_rfl)) ?_
  refine a_each (rs := [2, 7]) (by as_aux_lemma => kernel_rfl) (.cons (ticked 10 7) rfl rfl rfl ?_ (.cons (ticked 10 131) rfl rfl rfl ?_ .nil)) (List.cons_ne_nil _ _)
  ·
    refine o_call [] [] (cut_ item) rfl rfl rfl rfl rfl rfl (fun v L' I' hq33 => ?_)
    obtain ⟨h41, rfl, rfl, rfl⟩ := hq33
    refine a_and (held_pt 5 rfl rfl (held_pt 5 rfl rfl held_nil)) ?_
    refine a_each (rs := [3, 7]) (by as_aux_lemma => kernel_rfl) (.cons (ticked 10 15) rfl rfl rfl ?_ (.cons (ticked 10 135) rfl rfl rfl ?_ .nil)) (List.cons_ne_nil _ _)
    ·
      refine o_lend [3] [] [2, 3, 4, 5, 6, 7] (Put_ A1 c1 (fewL l) max (cutS item) ea ef ee (by assumption) (by assumption) (by assumption) (by first | assumption | exact small_put _ _ _ | exact small_take _ _ | exact small_all _ _ _ | exact small_nil | exact small_right (by assumption) | exact small_one (small_at (by assumption) hx1) | exact small_one (by assumption)) (by first | assumption | omega | decide | exact small_at (by assumption) hx1)) (.cons lend_ars .nil) rfl rfl rfl rfl rfl rfl rfl rfl (fun v L' I' hq34 => ?_)
      obtain ⟨A10, c10, rfl, rfl, rfl⟩ := hq34
      refine ⟨rfl, ?_⟩
      refine a_and (held_pt 6 rfl rfl (held_pt 6 rfl rfl held_nil)) ?_
      refine a_y (i := 4) (v := .tuple #[.agg #[.int .i64 ((putF max (fewL l) (cutS item)).1), .slice A10 ((putF max (fewL l) (cutS item)).2.1).length c10], .int .i64 ((putF max (fewL l) (cutS item)).2.2)]) (ticked 10 31) rfl (by as_aux_lemma => kernel_rfl) rfl rfl rfl (by exact y_mv rfl) ?_
      refine a_y (i := 5) (v := .agg #[.int .i64 ((putF max (fewL l) (cutS item)).1), .slice A10 ((putF max (fewL l) (cutS item)).2.1).length c10]) (ticked 10 63) rfl (by as_aux_lemma => kernel_rfl) rfl rfl rfl (by exact y_k rfl rfl (fun _ => by kernel_rfl)) ?_
      refine a_y (i := 6) (v := .int .i64 ((putF max (fewL l) (cutS item)).2.2)) (ticked 10 127) rfl (by as_aux_lemma => kernel_rfl) rfl rfl rfl (by exact y_k rfl rfl (fun _ => by kernel_rfl)) ?_
      refine a_each (rs := [7]) (by as_aux_lemma => kernel_rfl) (.cons (ticked 10 255) rfl rfl rfl (o_box (cs := [.int .i64 0, .slice none 0 0]) (T := 24) rfl rfl rfl rfl (fun _ => by kernel_rfl) (fun b12 => ?_)) .nil) (List.cons_ne_nil _ _)
      refine a_and (held_pt 7 rfl rfl (held_pt 7 rfl rfl held_nil)) ?_
      refine a_each (rs := [8]) (by as_aux_lemma => kernel_rfl) (.cons (ticked 10 511) rfl rfl rfl (o_st 0 rfl rfl rfl rfl rfl (by kernel_rfl) (by kernel_rfl) rfl ?_) .nil) (List.cons_ne_nil _ _)
      refine a_and (held_pt 7 rfl rfl (held_pt 7 rfl rfl held_nil)) ?_
      refine a_y (i := 9) (v := .int .i64 ((putF max (fewL l) (cutS item)).2.2)) (ticked 10 1023) rfl (by as_aux_lemma => kernel_rfl) rfl rfl rfl (by exact y_as rfl) ?_
      refine a_done (by as_aux_lemma => kernel_rfl) ?_
      refine e_norm (e' := [(2, .string item), (4, .pointer (some ⟨b1, 0, none⟩)), (7, .pointer (some ⟨b2, 0, none⟩)), (8, .bool false), (9, .bool true), (10, .pointer (some ⟨b3, 0, none⟩)), (11, .int .i64 ((newF mx).2)), (12, .pointer (some ⟨b4, 0, none⟩)), (13, .int .i64 ((newF mx).2)), (14, .pointer (some ⟨b12, 0, none⟩)), (15, .int .i64 ((putF max (fewL l) (cutS item)).2.2))]) [0, 0, 0, 0, 0, 0, 0, 0] [0, 1, 2, 3, 4, 5, 6, 7] ((.cons rfl rfl (.cons rfl rfl (.cons rfl rfl (.cons rfl rfl (.cons rfl rfl (.cons rfl rfl (.cons rfl rfl (.cons rfl rfl (.cons rfl rfl (.cons rfl rfl (.cons rfl rfl .nil)))))))))))) rfl rfl ?_
      exact cut1 A10 c10 b12 h41
    ·
      refine o_box (cs := [.int .i64 0, .slice none 0 0]) (T := 24) rfl rfl rfl rfl (fun _ => by kernel_rfl) (fun b13 => ?_)
      refine a_and (held_pt 6 rfl rfl (held_pt 6 rfl rfl held_nil)) ?_
      refine a_each (rs := [3]) (by as_aux_lemma => kernel_rfl) (.cons (ticked 10 143) rfl rfl rfl (o_lend [4] [] [2, 3, 4, 5, 6, 7] (Put_ A1 c1 (fewL l) max (cutS item) ea ef ee (by assumption) (by assumption) (by assumption) (by first | assumption | exact small_put _ _ _ | exact small_take _ _ | exact small_all _ _ _ | exact small_nil | exact small_right (by assumption) | exact small_one (small_at (by assumption) hx1) | exact small_one (by assumption)) (by first | assumption | omega | decide | exact small_at (by assumption) hx1)) (.cons lend_ars .nil) rfl rfl rfl rfl rfl rfl rfl rfl (fun v L' I' hq35 => ?_)) .nil) (List.cons_ne_nil _ _)
      obtain ⟨A11, c11, rfl, rfl, rfl⟩ := hq35
      refine ⟨rfl, ?_⟩
      refine a_and (held_pt 7 rfl rfl (held_pt 7 rfl rfl held_nil)) ?_
      refine a_y (i := 4) (v := .tuple #[.agg #[.int .i64 ((putF max (fewL l) (cutS item)).1), .slice A11 ((putF max (fewL l) (cutS item)).2.1).length c11], .int .i64 ((putF max (fewL l) (cutS item)).2.2)]) (ticked 10 159) rfl (by as_aux_lemma => kernel_rfl) rfl rfl rfl (by exact y_mv rfl) ?_
      refine a_y (i := 5) (v := .agg #[.int .i64 ((putF max (fewL l) (cutS item)).1), .slice A11 ((putF max (fewL l) (cutS item)).2.1).length c11]) (ticked 10 191) rfl (by as_aux_lemma => kernel_rfl) rfl rfl rfl (by exact y_k rfl rfl (fun _ => by kernel_rfl)) ?_
      refine a_y (i := 6) (v := .int .i64 ((putF max (fewL l) (cutS item)).2.2)) (ticked 10 255) rfl (by as_aux_lemma => kernel_rfl) rfl rfl rfl (by exact y_k rfl rfl (fun _ => by kernel_rfl)) ?_
      refine a_each (rs := [8]) (by as_aux_lemma => kernel_rfl) (.cons (ticked 10 511) rfl rfl rfl (o_st 2 rfl rfl rfl rfl rfl (by kernel_rfl) (by kernel_rfl) rfl ?_) .nil) (List.cons_ne_nil _ _)
      refine a_and (held_pt 7 rfl rfl (held_pt 7 rfl rfl held_nil)) ?_
      refine a_y (i := 9) (v := .int .i64 ((putF max (fewL l) (cutS item)).2.2)) (ticked 10 1023) rfl (by as_aux_lemma => kernel_rfl) rfl rfl rfl (by exact y_as rfl) ?_
      refine a_done (by as_aux_lemma => kernel_rfl) ?_
      refine e_norm (e' := [(2, .string item), (4, .pointer (some ⟨b1, 0, none⟩)), (7, .pointer (some ⟨b2, 0, none⟩)), (8, .bool false), (9, .bool true), (10, .pointer (some ⟨b3, 0, none⟩)), (11, .int .i64 ((newF mx).2)), (12, .pointer (some ⟨b4, 0, none⟩)), (13, .int .i64 ((newF mx).2)), (14, .pointer (some ⟨b13, 0, none⟩)), (15, .int .i64 ((putF max (fewL l) (cutS item)).2.2))]) [2, 0, 0, 0, 0, 0, 0, 0] [0, 1, 2, 3, 4, 5, 6, 7] ((.cons rfl rfl (.cons rfl rfl (.cons rfl rfl (.cons rfl rfl (.cons rfl rfl (.cons rfl rfl (.cons rfl rfl (.cons rfl rfl (.cons rfl rfl (.cons rfl rfl (.cons rfl rfl .nil)))))))))))) rfl rfl ?_
      exact cut1 A11 c11 b13 h41
  ·
    refine o_box (cs := [.int .i64 0, .slice none 0 0]) (T := 24) rfl rfl rfl rfl (fun _ => by kernel_rfl) (fun b14 => ?_)
    refine a_and (held_pt 6 rfl rfl (held_pt 6 rfl rfl held_nil)) ?_
    refine a_each (rs := [2]) (by as_aux_lemma => kernel_rfl) (.cons (ticked 10 135) rfl rfl rfl (o_call [] [] (cut_ item) rfl rfl rfl rfl rfl rfl (fun v L' I' hq36 => ?_)) .nil) (List.cons_ne_nil _ _)
    obtain ⟨h42, rfl, rfl, rfl⟩ := hq36
    refine a_and (held_pt 6 rfl rfl (held_pt 6 rfl rfl held_nil)) ?_
    refine a_each (rs := [3]) (by as_aux_lemma => kernel_rfl) (.cons (ticked 10 143) rfl rfl rfl (o_lend [4] [] [2, 3, 4, 5, 6, 7] (Put_ A1 c1 (fewL l) max (cutS item) ea ef ee (by assumption) (by assumption) (by assumption) (by first | assumption | exact small_put _ _ _ | exact small_take _ _ | exact small_all _ _ _ | exact small_nil | exact small_right (by assumption) | exact small_one (small_at (by assumption) hx1) | exact small_one (by assumption)) (by first | assumption | omega | decide | exact small_at (by assumption) hx1)) (.cons lend_ars .nil) rfl rfl rfl rfl rfl rfl rfl rfl (fun v L' I' hq37 => ?_)) .nil) (List.cons_ne_nil _ _)
    obtain ⟨A12, c12, rfl, rfl, rfl⟩ := hq37
    refine ⟨rfl, ?_⟩
    refine a_and (held_pt 7 rfl rfl (held_pt 7 rfl rfl held_nil)) ?_
    refine a_y (i := 4) (v := .tuple #[.agg #[.int .i64 ((putF max (fewL l) (cutS item)).1), .slice A12 ((putF max (fewL l) (cutS item)).2.1).length c12], .int .i64 ((putF max (fewL l) (cutS item)).2.2)]) (ticked 10 159) rfl (by as_aux_lemma => kernel_rfl) rfl rfl rfl (by exact y_mv rfl) ?_
    refine a_y (i := 5) (v := .agg #[.int .i64 ((putF max (fewL l) (cutS item)).1), .slice A12 ((putF max (fewL l) (cutS item)).2.1).length c12]) (ticked 10 191) rfl (by as_aux_lemma => kernel_rfl) rfl rfl rfl (by exact y_k rfl rfl (fun _ => by kernel_rfl)) ?_
    refine a_y (i := 6) (v := .int .i64 ((putF max (fewL l) (cutS item)).2.2)) (ticked 10 255) rfl (by as_aux_lemma => kernel_rfl) rfl rfl rfl (by exact y_k rfl rfl (fun _ => by kernel_rfl)) ?_
    refine a_each (rs := [8]) (by as_aux_lemma => kernel_rfl) (.cons (ticked 10 511) rfl rfl rfl (o_st 2 rfl rfl rfl rfl rfl (by kernel_rfl) (by kernel_rfl) rfl ?_) .nil) (List.cons_ne_nil _ _)
    refine a_and (held_pt 7 rfl rfl (held_pt 7 rfl rfl held_nil)) ?_
    refine a_y (i := 9) (v := .int .i64 ((putF max (fewL l) (cutS item)).2.2)) (ticked 10 1023) rfl (by as_aux_lemma => kernel_rfl) rfl rfl rfl (by exact y_as rfl) ?_
    refine a_done (by as_aux_lemma => kernel_rfl) ?_
    refine e_norm (e' := [(2, .string item), (4, .pointer (some ⟨b1, 0, none⟩)), (7, .pointer (some ⟨b2, 0, none⟩)), (8, .bool false), (9, .bool true), (10, .pointer (some ⟨b3, 0, none⟩)), (11, .int .i64 ((newF mx).2)), (12, .pointer (some ⟨b4, 0, none⟩)), (13, .int .i64 ((newF mx).2)), (14, .pointer (some ⟨b14, 0, none⟩)), (15, .int .i64 ((putF max (fewL l) (cutS item)).2.2))]) [2, 0, 0, 0, 0, 0, 0, 0] [0, 1, 2, 3, 4, 5, 6, 7] ((.cons rfl rfl (.cons rfl rfl (.cons rfl rfl (.cons rfl rfl (.cons rfl rfl (.cons rfl rfl (.cons rfl rfl (.cons rfl rfl (.cons rfl rfl (.cons rfl rfl (.cons rfl rfl .nil)))))))))))) rfl rfl ?_
    exact cut1 A12 c12 b14 h42
open Go.ChangeShapes Go.WideShapes Go.ChangeAt Go.Joins
theorem own : ownKnob Tryd.prog.godebug = none := by kernel_rfl
theorem laidOut : laidOutB Tryd.prog = true := by kernel_rfl
theorem gn0 : Tryd.prog.globalNamed "plimsoll/ring.errArg" = some 1 := by kernel_rfl
theorem gt0 : (Tryd.prog.globals[1]?).map (·.type) = some 47 := by kernel_rfl
theorem gn1 : Tryd.prog.globalNamed "plimsoll/ring.errFull" = some 2 := by kernel_rfl
theorem gt1 : (Tryd.prog.globals[2]?).map (·.type) = some 47 := by kernel_rfl
theorem gn2 : Tryd.prog.globalNamed "plimsoll/ring.errEmpty" = some 0 := by kernel_rfl
theorem gt2 : (Tryd.prog.globals[0]?).map (·.type) = some 47 := by kernel_rfl
theorem cellsE : Tryd.prog.cellsOf 105 = 1 := by kernel_rfl
theorem cellsS : Tryd.prog.cellsOf 9 = 1 := by kernel_rfl
theorem star : "*" ++ "errors.errorString" = "*errors.errorString" := by decide
theorem rowP (u : TypeId) (h : Tryd.prog.typeName? 3 u = some "*errors.errorString") : u = 80 :=
  typeName_ptr_named (nm := "errors.errorString") (by rw [star]; kernel_rfl) (by kernel_rfl) (by decide) u (by rw [star]; exact h)
noncomputable def laidL : List (String × DataW Unit) := Rows.ringTellsRow.laid
theorem door_met (os : Os) (args : Array Value) : laidMetH Tryd.prog laidL ((World.doorLaid Tryd.prog 400 os).forCall (fun _ _ => 0) ⟨#[], args, []⟩).memory :=
  laidMetH_of_parts3 (fuel := 8) (laidMet_of_run' 8 (by kernel_rfl) (by kernel_rfl)) (by kernel_rfl) (by kernel_rfl)
theorem of_laid {W : World} (h : laidMetH Tryd.prog laidL W) : ∃ a0 a1 a2 : Addr, Sent Tryd.prog W "plimsoll/ring.errArg" 1 80 a0 ∧ Sent Tryd.prog W "plimsoll/ring.errFull" 2 80 a1 ∧ Sent Tryd.prog W "plimsoll/ring.errEmpty" 0 80 a2 ∧ a0 ≠ a1 ∧ a0 ≠ a2 ∧ a1 ≠ a2 := by
  rw [MakeChecks.laidMetH_plain _ _ _ (by kernel_rfl)] at h
  exact laid3 h gn0 gt0 gn1 gt1 gn2 gt2 Tryd.underlying47 rowP Tryd.underlying80 Tryd.underlying105 rfl rfl Tryd.underlying9 cellsE cellsS
theorem errFact {P : Program} {W : World} {n : String} {g : Nat} {tp : TypeId} {a : Addr} (h : Sent P W n g tp a) : ∀ k, le (hpOf W) k → errAt a k := fun k hk => by
  obtain ⟨c, t, hb⟩ := h.blk
  exact ⟨c, t, hk _ _ hb⟩
set_option maxRecDepth 100000 in
theorem ringTells_lifted (os : Os) (started : os.Started) (H : Type) (enc : TypeId × Value → H) :
    ReturnsInHanded {} Tryd.checked os 6 .any (fun w args => (Rows.ringTellsSpec.pre enc Tryd.prog Tryd.f6 [] false w args ∧ laidMetH Tryd.prog laidL w) ∧ sizedMet enc Tryd.prog Tryd.f6 (OpenSpec.ofChange Rows.ringTellsSpec) false w args)
      (Rows.ringTellsSpec.post enc Tryd.prog Tryd.f6 false true false false) := by
  refine returnsInHanded_of_change_and (C := Tryd.checked) (X := fun w _ => laidMetH Tryd.prog laidL w) (fun _ _ _ hh h => h.of_heap hh) own started (by kernel_rfl) Tryd.func6
    (ChangeSpec.witness_shaped (enc := enc) (C := Tryd.checked) (os := os) (X := fun w _ => laidMetH Tryd.prog laidL w) false (World.doorLaid Tryd.prog 400 os) #[.agg #[.int .i64 0, .slice none 0 0], .int .i64 0, .string ⟨#[]⟩, .agg #[.int .i64 0, .slice none 0 0]] 8 rfl (World.shaped_of_RefB (by kernel_rfl) (by kernel_rfl)) (by kernel_rfl) (by kernel_rfl) (by kernel_rfl) (door_met os _)) ?_
  intro W base args ds gs before hval0 hW _ _ hL _
  have hval : ∀ (j : Nat) t v, Tryd.f6.params[j]? = some t → args[j]? = some v → Value.okWide Tryd.prog W .any base t v := hval0
  have hW' := hW
  obtain ⟨p, q, hA0, hV, rfl, hfz, hnd⟩ := hW
  have hA : DataW.TrodAll enc Tryd.prog W 0 (fun _ => true) true Tryd.f6.params.toList args.toList ds p := hA0
  rw [Tryd.params6] at hA hval
  obtain ⟨v0, v1, v2, v3, d0, d1, d2, d3, p0, p1, p2, p3, rfl, rfl, rfl, h0, h1, h2, h3⟩ := trodAll_four hA
  obtain ⟨rfl, rfl⟩ := trodVars_none hV
  obtain ⟨a0, a1, a2, s0, s1, s2, n01, n02, n12⟩ := of_laid hL
  clear hA0 hval0 hL
  simp only [List.append_nil] at hW'
  have t0 := h0
  obtain ⟨x0, z0, y0, w0, m0, rfl, _, _, g0, hf0⟩ := open_agg2 Tryd.underlying24 (by kernel_rfl) (by kernel_rfl) (hval 0 24 _ rfl rfl) h0
  obtain ⟨n0, e0, _, _⟩ := DataW.trod_int Tryd.underlying3 g0
  simp only [List.cons.injEq, and_true] at e0
  subst e0
  obtain ⟨A0, c0, l0, rfl, hr0⟩ := open_texts Tryd.underlying22 Tryd.underlying9 (by kernel_rfl) hf0
  have t1 := h1
  obtain ⟨n1, rfl⟩ := okWide_int Tryd.underlying3 (hval 1 3 _ rfl rfl)
  have t2 := h2
  obtain ⟨s2', rfl⟩ := okWide_string Tryd.underlying9 (hval 2 9 _ rfl rfl)
  have t3 := h3
  obtain ⟨x3, z3, y3, w3, m3, rfl, _, _, g3, hf3⟩ := open_agg2 Tryd.underlying24 (by kernel_rfl) (by kernel_rfl) (hval 3 24 _ rfl rfl) h3
  obtain ⟨n3, e3, _, _⟩ := DataW.trod_int Tryd.underlying3 g3
  simp only [List.cons.injEq, and_true] at e3
  subst e3
  obtain ⟨A3, c3, l3, rfl, hr3⟩ := open_texts Tryd.underlying22 Tryd.underlying9 (by kernel_rfl) hf3
  refine (con_calls (RingTells_ A0 c0 l0 A3 c3 l3 n3 n0 n1 s2' a0 a1 a2 n01 n02 n12) (Facts.cons (hr0) (Facts.cons (hr3) (Facts.cons (sent_facts s0) (Facts.cons (sent_facts s1) (Facts.cons (sent_facts s2) (Facts.cons (errFact s0) (Facts.cons (errFact s1) (Facts.cons (errFact s2) (Facts.nil _)))))))))).mono fun e W' ⟨he, hb⟩ => ?_
  subst he
  have hlt : ∀ x ∈ p0 ++ (p1 ++ (p2 ++ p3)), x.block < W.heap.size := fun x hx => by simpa using hW'.lt x (by simpa using hx)
  exact ⟨_, rfl, [d0, d1, d2, d3], [], _, [], p0 ++ (p1 ++ (p2 ++ p3)), [], hW', trodAll_mk1 (shut_bool Tryd.underlying4 true), trodAll_mk4 (Below.trod laidOut (by kernel_rfl) (of_decide_eq_true (by kernel_rfl)) t0 hb (fun x hx => hlt x (by simp [hx]))) (Below.trod laidOut (by kernel_rfl) (of_decide_eq_true (by kernel_rfl)) t1 hb (fun x hx => hlt x (by simp [hx]))) (Below.trod laidOut (by kernel_rfl) (of_decide_eq_true (by kernel_rfl)) t2 hb (fun x hx => hlt x (by simp [hx]))) (Below.trod laidOut (by kernel_rfl) (of_decide_eq_true (by kernel_rfl)) t3 hb (fun x hx => hlt x (by simp [hx]))), rfl, hb.frame _, fun h => by cases h⟩
theorem ringTells_holds : Rows.RingTellsSaid :=
  OpenClaim.holds_of_wide 6 Tryd.f6 rfl rfl rfl rfl rfl rfl rfl ⟨rfl, rfl, rfl, rfl, rfl⟩ rfl rfl rfl rfl rfl (by kernel_rfl) Tryd.func6 (by kernel_rfl)
    (of_decide_eq_true (by kernel_rfl)) (by unfold Func.isWrapper; first | (rw [if_pos (by decide +kernel)]; kernel_rfl) | (rw [if_neg (by decide +kernel)]; exact ⟨rfl, rfl⟩))
    (fun os started H enc _ => ringTells_lifted os started H enc)
/-- The tied card. -/
theorem ringTells_card : Rows.RingTellsCardSaid :=
  Claim7.holds_tied_plain_at .later [] [.sentinel, .sentinel, .sentinel] true (true, "b786713441a752de7acee6366f0947f351ff51927903928e5be71e03e352de47") true
    ringTells_holds (fun _ h => by cases h) (by kernel_rfl) (fun _ h => by cases h) ringTells_row_tie rfl ⟨rfl, rfl⟩ (by kernel_rfl) rfl
    (fun f fn hf hfn => by
      obtain rfl : f = 6 := Option.some.inj ((show Tryd.prog.funcNamed "plimsoll/plimsolllaw08.RingTells" = some 6 by kernel_rfl).symm.trans hf) |>.symm
      obtain rfl : fn = Tryd.f6 := (Option.some.inj (Tryd.func6.symm.trans hfn)).symm
      exact ⟨by kernel_rfl, fun j t ht => by
        rw [Tryd.params6] at ht
        have hm : t ∈ [24, 3, 9, 24] := by simpa using Array.mem_of_getElem? ht
        have hall : ([24, 3, 9, 24].all fun u => !Tryd.prog.wantsStandIn u) = true := by kernel_rfl
        exact (show Tryd.prog.wantsStandIn t = false by simpa using List.all_eq_true.1 hall t hm)⟩)
    (by kernel_rfl)
#print axioms ringTells_card
end Go.Proofs.YtjcjbdhkajiaeaaDoor
