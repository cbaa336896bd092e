/- Contracts of package ring, its reference and its laws, walked over the given program; no condition but what stands in each: part Q. -/
import Derived.Test.YtjcjbdhkajiaeaaDoorRP
import Derived.Test.YtjcjbdhkajiaeaaDoorSlW
import Derived.Test.YtjcjbdhkajiaeaaDoorCards
import Derived.Test.YtjcjbdhkajiaeaaDoorTie
import Derived.SevenTiedAt
set_option linter.unusedVariables false
set_option linter.unusedSimpArgs false
set_option maxRecDepth 100000
namespace Go.Proofs.YtjcjbdhkajiaeaaDoor
open Go Go.Sl Go.RowKit Go.Extern.Stop Go.Stop Go.Extern
set_option maxHeartbeats 1000000 in
theorem RingAll_ (A : Option Addr) (c : Nat) (l : List ByteArray) (B : Option Addr) (d : Nat) (r : List ByteArray) (max : Int) (ea : Addr) (ef : Addr) (ee : Addr) (h12 : ea ≠ ef) (h13 : ea ≠ ee) (h23 : ef ≠ ee) : Con Tryd.prog 4 [.agg #[.int .i64 max, .slice A l.length c], .slice B r.length d] [] [rd strTy A c l, rd strTy B d r, cellsAt 1 0 [.iface 80 (.pointer (some ea))], cellsAt 2 0 [.iface 80 (.pointer (some ef))], cellsAt 0 0 [.iface 80 (.pointer (some ee))], errAt ea, errAt ef, errAt ee] (fun v L' I' => v = .bool true ∧ L' = [] ∧ I' = []) := by
  refine fn_of Tryd.func4 rfl Tryd.ntmps4 (by kernel_rfl) rfl (fun C => ?_)
  refine c_seq ?_
  refine c_region ?_
  refine st rfl (o_box (cs := [.int .i64 max, .slice A l.length c]) (T := 24) rfl rfl rfl rfl (fun _ => by kernel_rfl) (fun b1 => ?_))
  refine st rfl (o_y (v := .bool false) (y_as rfl) rfl rfl rfl ?_)
  refine s_nil ?_
  refine q_then ?_
  refine c_seq ?_
  refine c_region ?_
  refine st rfl (o_call [] [2, 3, 4, 5, 6, 7] (shown_ ea ef ee (by assumption) (by assumption) (by assumption)) rfl rfl rfl rfl rfl rfl (fun v L' I' hq1 => ?_))
  obtain ⟨rfl, rfl, rfl⟩ := hq1
  refine st rfl (o_y (v := .bool true) (y_as rfl) rfl rfl rfl ?_)
  refine s_nil ?_
  refine q_then ?_
  refine c_seq ?_
  refine c_region ?_
  refine st rfl (o_ldn 0 2 rfl rfl rfl rfl Tryd.underlying24 rfl (by kernel_rfl) (by kernel_rfl) rfl ?_)
  refine st rfl (o_call [] [0] (Few_ A c l max) rfl rfl rfl rfl rfl rfl (fun v L' I' hq2 => ?_))
  obtain ⟨A1, c1, h24, h25, rfl, rfl, rfl⟩ := hq2
  refine st rfl (o_st 1 rfl rfl rfl rfl rfl (by kernel_rfl) (by kernel_rfl) rfl ?_)
  refine s_nil ?_
  refine q_then ?_
  refine c_seq ?_
  refine c_drawx (l := ticked 12 0) [(⟨b1, 0, none⟩, .int .i64 max), (⟨b1, 1, none⟩, .slice A1 (fewL l).length c1)] [] (by kernel_rfl) rfl rfl (fun Y back => ?_)
  have cut1 : ∀ (A2 : Option Addr) (c2 : Nat) (A3 : Option Addr) (c3 : Nat) (b2 : Nat) (h26 : small (fewL r)) (h27 : (fewL r).length ≤ 40), Ent 47 C [(1, .slice B r.length d), (2, .pointer (some ⟨b1, 0, none⟩)), (4, .bool false), (5, .bool true), (6, .pointer (some ⟨b2, 0, none⟩)), (7, .int .i64 ((allF max (fewL l) (fewL r)).2.2.1 : Int)), (8, .int .i64 ((allF max (fewL l) (fewL r)).2.2.2))] [] [pt b2 [.int .i64 ((allF max (fewL l) (fewL r)).1), .slice A3 ((allF max (fewL l) (fewL r)).2.1).length c3] 24, win strTy 9 A3 c3 ((allF max (fewL l) (fewL r)).2.1), ars strTy 9 A1 c1 (fewL l), ars strTy 9 A2 c2 (fewL r), pt b1 [.int .i64 max, .slice A1 (fewL l).length c1] 24] [rd strTy A c l, rd strTy B d r, cellsAt 1 0 [.iface 80 (.pointer (some ea))], cellsAt 2 0 [.iface 80 (.pointer (some ef))], cellsAt 0 0 [.iface 80 (.pointer (some ee))], errAt ea, errAt ef, errAt ee] Y := by
    intro A2 c2 A3 c3 b2 h26 h27
    refine back ?_
    refine q_then ?_
    refine c_seq ?_
    refine c_drawx (l := ticked 12 0) [(⟨b1, 0, none⟩, .int .i64 max), (⟨b1, 1, none⟩, .slice A1 (fewL l).length c1)] [] (by kernel_rfl) rfl rfl (fun Y back => ?_)
    have cut2 : ∀ (A4 : Option Addr) (c4 : Nat) (A5 : Option Addr) (c5 : Nat) (b3 : Nat) (h28 : small (fewL r)) (h29 : (fewL r).length ≤ 40), Ent 47 C [(4, .bool false), (5, .bool true), (6, .pointer (some ⟨b2, 0, none⟩)), (7, .int .i64 ((allF max (fewL l) (fewL r)).2.2.1 : Int)), (8, .int .i64 ((allF max (fewL l) (fewL r)).2.2.2)), (9, .pointer (some ⟨b3, 0, none⟩)), (10, .int .i64 ((allF max (fewL l) (fewL r)).2.2.1 : Int)), (11, .int .i64 ((allF max (fewL l) (fewL r)).2.2.2))] [] [pt b3 [.int .i64 ((allF max (fewL l) (fewL r)).1), .slice A5 ((allF max (fewL l) (fewL r)).2.1).length c5] 24, pt b2 [.int .i64 ((allF max (fewL l) (fewL r)).1), .slice A3 ((allF max (fewL l) (fewL r)).2.1).length c3] 24, win strTy 9 A3 c3 ((allF max (fewL l) (fewL r)).2.1), ars strTy 9 A2 c2 (fewL r), pt b1 [.int .i64 max, .slice A1 (fewL l).length c1] 24] [rd strTy A5 c5 ((allF max (fewL l) (fewL r)).2.1), rd strTy A4 c4 (fewL r), rd strTy A1 c1 (fewL l), rd strTy A c l, rd strTy B d r, cellsAt 1 0 [.iface 80 (.pointer (some ea))], cellsAt 2 0 [.iface 80 (.pointer (some ef))], cellsAt 0 0 [.iface 80 (.pointer (some ee))], errAt ea, errAt ef, errAt ee] Y := by
      intro A4 c4 A5 c5 b3 h28 h29
      refine back ?_
      refine q_then ?_
      refine c_seq ?_
      refine c_region ?_
      refine st rfl (o_y (v := .bool true) (y_mv rfl) rfl rfl rfl ?_)
      refine st rfl (o_y (v := .bool true) (y_mv rfl) rfl rfl rfl ?_)
      refine st_on 32 rfl rfl rfl (o_ldn 1 2 rfl rfl rfl rfl Tryd.underlying24 rfl (by kernel_rfl) (by kernel_rfl) rfl ?_)
      refine st_on 32 rfl rfl rfl (o_ldn 0 2 rfl rfl rfl rfl Tryd.underlying24 rfl (by kernel_rfl) (by kernel_rfl) rfl ?_)
      refine st_on 32 rfl rfl rfl (o_lend [2] [] [0] (rSame_ A3 c3 ((allF max (fewL l) (fewL r)).2.1) A5 c5 ((allF max (fewL l) (fewL r)).2.1) ((allF max (fewL l) (fewL r)).1) ((allF max (fewL l) (fewL r)).1) (by first | assumption | exact small_put _ _ _ | exact small_take _ _ | exact small_all _ _ _ | exact small_nil | exact small_right (by assumption) | exact small_one (small_at (by assumption) hx1) | exact small_one (by assumption))) (.cons lend_win .nil) rfl rfl rfl rfl rfl rfl rfl rfl (fun v L' I' hq3 => ?_))
      obtain ⟨hv1, rfl, rfl⟩ := hq3
      refine ⟨rfl, ?_⟩
      obtain rfl : v = .bool true := by rw [hv1, decide_eq_true (show ((allF max (fewL l) (fewL r)).1) = ((allF max (fewL l) (fewL r)).1) ∧ ((allF max (fewL l) (fewL r)).2.1) = ((allF max (fewL l) (fewL r)).2.1) from ⟨rfl, rfl⟩)]
      refine st rfl (o_y (v := .bool true) (y_pick rfl rfl) rfl rfl rfl ?_)
      refine st rfl (o_y (v := .bool true) (y_mv rfl) rfl rfl rfl ?_)
      refine st_on 37 rfl rfl rfl (o_y (v := .int .i64 ((allF max (fewL l) (fewL r)).2.2.1 : Int)) (y_mv rfl) rfl rfl rfl ?_)
      refine st_on 37 rfl rfl rfl (o_y (v := .int .i64 ((allF max (fewL l) (fewL r)).2.2.1 : Int)) (y_mv rfl) rfl rfl rfl ?_)
      have h30 : ((allF max (fewL l) (fewL r)).2.2.1 : Int) = ((allF max (fewL l) (fewL r)).2.2.1 : Int) := rfl
      refine st_on 37 rfl rfl rfl (o_y (v := .bool true) (y_b (y_k (v := .bool (((allF max (fewL l) (fewL r)).2.2.1 : Int) == ((allF max (fewL l) (fewL r)).2.2.1 : Int))) rfl rfl (fun _ => by kernel_rfl)) (beq_iff_eq.2 h30)) rfl rfl rfl ?_)
      refine st rfl (o_y (v := .bool true) (y_pick rfl rfl) rfl rfl rfl ?_)
      refine st rfl (o_y (v := .bool true) (y_mv rfl) rfl rfl rfl ?_)
      refine st_on 42 rfl rfl rfl (o_y (v := .int .i64 ((allF max (fewL l) (fewL r)).2.2.2)) (y_mv rfl) rfl rfl rfl ?_)
      refine st_on 42 rfl rfl rfl (o_y (v := .int .i64 ((allF max (fewL l) (fewL r)).2.2.2)) (y_mv rfl) rfl rfl rfl ?_)
      have h31 : (allF max (fewL l) (fewL r)).2.2.2 = (allF max (fewL l) (fewL r)).2.2.2 := rfl
      refine st_on 42 rfl rfl rfl (o_y (v := .bool true) (y_b (y_k (v := .bool (((allF max (fewL l) (fewL r)).2.2.2) == ((allF max (fewL l) (fewL r)).2.2.2))) rfl rfl (fun _ => by kernel_rfl)) (beq_iff_eq.2 h31)) rfl rfl rfl ?_)
      refine st rfl (o_y (v := .bool true) (y_pick rfl rfl) rfl rfl rfl ?_)
      refine st rfl (o_y (v := .bool true) (y_as rfl) rfl rfl rfl ?_)
      refine s_nil ?_
      refine q_then ?_
      refine c_ret ?_
      refine c_fin (I' := []) [] [3, 4, 5, 6, 7, 8, 9, 10] rfl (.tmp rfl .nil) rfl rfl rfl ?_
      exact ⟨rfl, rfl, rfl⟩
    refine a_y (i := 1) (v := .slice B r.length d) (ticked 12 2) rfl (by kernel_rfl) rfl rfl rfl (by exact y_mv rfl) ?_
    refine a_held (i := 0) (ticked 12 3) rfl (by kernel_rfl) rfl rfl rfl (held_pt 4 rfl rfl (held_pt 4 rfl rfl held_nil)) (h_ldn (vs := [.int .i64 max, .slice A1 (fewL l).length c1]) 0 2 rfl rfl rfl Tryd.underlying24 rfl (by kernel_rfl) (by kernel_rfl)) ?_
    refine a_each (rs := [2, 8]) (by kernel_rfl) (.cons (ticked 12 7) rfl rfl rfl ?_ (.cons (ticked 12 259) rfl rfl rfl ?_ .nil)) (List.cons_ne_nil _ _)
    ·
      refine o_call [] [1] (few_ B d r) rfl rfl rfl rfl rfl rfl (fun v L' I' hq4 => ?_)
      obtain ⟨A6, c6, h32, h33, rfl, rfl, rfl⟩ := hq4
      refine a_and (held_pt 5 rfl rfl (held_pt 5 rfl rfl held_nil)) ?_
      refine a_each (rs := [3, 8]) (by kernel_rfl) (.cons (ticked 12 15) rfl rfl rfl ?_ (.cons (ticked 12 263) rfl rfl rfl ?_ .nil)) (List.cons_ne_nil _ _)
      ·
        refine e_still 3 rfl ?_
        refine e_still 0 rfl ?_
        refine o_call [] [1, 0] (rAll_ A1 c1 (fewL l) A6 c6 (fewL r) max (by first | assumption | exact small_put _ _ _ | exact small_take _ _ | exact small_all _ _ _ | exact small_nil | exact small_right (by assumption) | exact small_one (small_at (by assumption) hx1) | exact small_one (by assumption)) (by first | assumption | exact small_put _ _ _ | exact small_take _ _ | exact small_all _ _ _ | exact small_nil | exact small_right (by assumption) | exact small_one (small_at (by assumption) hx1) | exact small_one (by assumption))) rfl rfl rfl rfl rfl rfl (fun v L' I' hq5 => ?_)
        obtain ⟨A7, c7, rfl, rfl, rfl⟩ := hq5
        refine a_and (held_pt 3 rfl rfl (held_pt 3 rfl rfl held_nil)) ?_
        refine a_y (i := 4) (v := .tuple #[.agg #[.int .i64 ((allF max (fewL l) (fewL r)).1), .slice A7 ((allF max (fewL l) (fewL r)).2.1).length c7], .int .i64 ((allF max (fewL l) (fewL r)).2.2.1 : Int), .int .i64 ((allF max (fewL l) (fewL r)).2.2.2)]) (ticked 12 31) rfl (by kernel_rfl) rfl rfl rfl (by exact y_mv rfl) ?_
        refine a_y (i := 5) (v := .agg #[.int .i64 ((allF max (fewL l) (fewL r)).1), .slice A7 ((allF max (fewL l) (fewL r)).2.1).length c7]) (ticked 12 63) rfl (by kernel_rfl) rfl rfl rfl (by exact y_k rfl rfl (fun _ => by kernel_rfl)) ?_
        refine a_y (i := 6) (v := .int .i64 ((allF max (fewL l) (fewL r)).2.2.1 : Int)) (ticked 12 127) rfl (by kernel_rfl) rfl rfl rfl (by exact y_k rfl rfl (fun _ => by kernel_rfl)) ?_
        refine a_y (i := 7) (v := .int .i64 ((allF max (fewL l) (fewL r)).2.2.2)) (ticked 12 255) rfl (by kernel_rfl) rfl rfl rfl (by exact y_k rfl rfl (fun _ => by kernel_rfl)) ?_
        refine a_each (rs := [8]) (by kernel_rfl) (.cons (ticked 12 511) rfl rfl rfl (o_box (cs := [.int .i64 0, .slice none 0 0]) (T := 24) rfl rfl rfl rfl (fun _ => by kernel_rfl) (fun b4 => ?_)) .nil) (List.cons_ne_nil _ _)
        refine a_and (held_pt 4 rfl rfl (held_pt 4 rfl rfl held_nil)) ?_
        refine a_each (rs := [9]) (by kernel_rfl) (.cons (ticked 12 1023) rfl rfl rfl (o_st 0 rfl rfl rfl rfl rfl (by kernel_rfl) (by kernel_rfl) rfl ?_) .nil) (List.cons_ne_nil _ _)
        refine a_and (held_pt 4 rfl rfl (held_pt 4 rfl rfl held_nil)) ?_
        refine a_y (i := 10) (v := .int .i64 ((allF max (fewL l) (fewL r)).2.2.1 : Int)) (ticked 12 2047) rfl (by kernel_rfl) rfl rfl rfl (by exact y_as rfl) ?_
        refine a_y (i := 11) (v := .int .i64 ((allF max (fewL l) (fewL r)).2.2.2)) (ticked 12 4095) rfl (by kernel_rfl) rfl rfl rfl (by exact y_as rfl) ?_
        refine a_done (by kernel_rfl) ?_
        refine e_norm (e' := [(4, .bool false), (5, .bool true), (6, .pointer (some ⟨b2, 0, none⟩)), (7, .int .i64 ((allF max (fewL l) (fewL r)).2.2.1 : Int)), (8, .int .i64 ((allF max (fewL l) (fewL r)).2.2.2)), (9, .pointer (some ⟨b4, 0, none⟩)), (10, .int .i64 ((allF max (fewL l) (fewL r)).2.2.1 : Int)), (11, .int .i64 ((allF max (fewL l) (fewL r)).2.2.2))]) [0, 0, 0, 0, 0] [0, 1, 2, 3, 4, 5, 6, 7, 8, 9, 10] ((.cons rfl rfl (.cons rfl rfl (.cons rfl rfl (.cons rfl rfl (.cons rfl rfl (.cons rfl rfl (.cons rfl rfl (.cons rfl rfl .nil))))))))) rfl rfl ?_
        exact cut2 A6 c6 A7 c7 b4 h32 h33
      ·
        refine o_box (cs := [.int .i64 0, .slice none 0 0]) (T := 24) rfl rfl rfl rfl (fun _ => by kernel_rfl) (fun b5 => ?_)
        refine a_and (held_pt 6 rfl rfl (held_pt 6 rfl rfl held_nil)) ?_
        refine e_still 4 rfl ?_
        refine e_still 1 rfl ?_
        refine a_each (rs := [3]) (by kernel_rfl) (.cons (ticked 12 271) rfl rfl rfl (o_call [] [1, 0] (rAll_ A1 c1 (fewL l) A6 c6 (fewL r) max (by first | assumption | exact small_put _ _ _ | exact small_take _ _ | exact small_all _ _ _ | exact small_nil | exact small_right (by assumption) | exact small_one (small_at (by assumption) hx1) | exact small_one (by assumption)) (by first | assumption | exact small_put _ _ _ | exact small_take _ _ | exact small_all _ _ _ | exact small_nil | exact small_right (by assumption) | exact small_one (small_at (by assumption) hx1) | exact small_one (by assumption))) rfl rfl rfl rfl rfl rfl (fun v L' I' hq6 => ?_)) .nil) (List.cons_ne_nil _ _)
        obtain ⟨A8, c8, rfl, rfl, rfl⟩ := hq6
        refine a_and (held_pt 4 rfl rfl (held_pt 4 rfl rfl held_nil)) ?_
        refine a_y (i := 4) (v := .tuple #[.agg #[.int .i64 ((allF max (fewL l) (fewL r)).1), .slice A8 ((allF max (fewL l) (fewL r)).2.1).length c8], .int .i64 ((allF max (fewL l) (fewL r)).2.2.1 : Int), .int .i64 ((allF max (fewL l) (fewL r)).2.2.2)]) (ticked 12 287) rfl (by kernel_rfl) rfl rfl rfl (by exact y_mv rfl) ?_
        refine a_y (i := 5) (v := .agg #[.int .i64 ((allF max (fewL l) (fewL r)).1), .slice A8 ((allF max (fewL l) (fewL r)).2.1).length c8]) (ticked 12 319) rfl (by kernel_rfl) rfl rfl rfl (by exact y_k rfl rfl (fun _ => by kernel_rfl)) ?_
        refine a_y (i := 6) (v := .int .i64 ((allF max (fewL l) (fewL r)).2.2.1 : Int)) (ticked 12 383) rfl (by kernel_rfl) rfl rfl rfl (by exact y_k rfl rfl (fun _ => by kernel_rfl)) ?_
        refine a_y (i := 7) (v := .int .i64 ((allF max (fewL l) (fewL r)).2.2.2)) (ticked 12 511) rfl (by kernel_rfl) rfl rfl rfl (by exact y_k rfl rfl (fun _ => by kernel_rfl)) ?_
        refine a_each (rs := [9]) (by kernel_rfl) (.cons (ticked 12 1023) rfl rfl rfl (o_st 0 rfl rfl rfl rfl rfl (by kernel_rfl) (by kernel_rfl) rfl ?_) .nil) (List.cons_ne_nil _ _)
        refine a_and (held_pt 4 rfl rfl (held_pt 4 rfl rfl held_nil)) ?_
        refine a_y (i := 10) (v := .int .i64 ((allF max (fewL l) (fewL r)).2.2.1 : Int)) (ticked 12 2047) rfl (by kernel_rfl) rfl rfl rfl (by exact y_as rfl) ?_
        refine a_y (i := 11) (v := .int .i64 ((allF max (fewL l) (fewL r)).2.2.2)) (ticked 12 4095) rfl (by kernel_rfl) rfl rfl rfl (by exact y_as rfl) ?_
        refine a_done (by kernel_rfl) ?_
        refine e_norm (e' := [(4, .bool false), (5, .bool true), (6, .pointer (some ⟨b2, 0, none⟩)), (7, .int .i64 ((allF max (fewL l) (fewL r)).2.2.1 : Int)), (8, .int .i64 ((allF max (fewL l) (fewL r)).2.2.2)), (9, .pointer (some ⟨b5, 0, none⟩)), (10, .int .i64 ((allF max (fewL l) (fewL r)).2.2.1 : Int)), (11, .int .i64 ((allF max (fewL l) (fewL r)).2.2.2))]) [0, 0, 0, 0, 0] [0, 1, 2, 3, 4, 5, 6, 7, 8, 9, 10] ((.cons rfl rfl (.cons rfl rfl (.cons rfl rfl (.cons rfl rfl (.cons rfl rfl (.cons rfl rfl (.cons rfl rfl (.cons rfl rfl .nil))))))))) rfl rfl ?_
        exact cut2 A6 c6 A8 c8 b5 h32 h33
    ·
      refine o_box (cs := [.int .i64 0, .slice none 0 0]) (T := 24) rfl rfl rfl rfl (fun _ => by kernel_rfl) (fun b6 => ?_)
      refine a_and (held_pt 5 rfl rfl (held_pt 5 rfl rfl held_nil)) ?_
      refine a_each (rs := [2]) (by kernel_rfl) (.cons (ticked 12 263) rfl rfl rfl (o_call [] [1] (few_ B d r) rfl rfl rfl rfl rfl rfl (fun v L' I' hq7 => ?_)) .nil) (List.cons_ne_nil _ _)
      obtain ⟨A9, c9, h34, h35, rfl, rfl, rfl⟩ := hq7
      refine a_and (held_pt 6 rfl rfl (held_pt 6 rfl rfl held_nil)) ?_
      refine e_still 4 rfl ?_
      refine e_still 0 rfl ?_
      refine a_each (rs := [3]) (by kernel_rfl) (.cons (ticked 12 271) rfl rfl rfl (o_call [] [1, 0] (rAll_ A1 c1 (fewL l) A9 c9 (fewL r) max (by first | assumption | exact small_put _ _ _ | exact small_take _ _ | exact small_all _ _ _ | exact small_nil | exact small_right (by assumption) | exact small_one (small_at (by assumption) hx1) | exact small_one (by assumption)) (by first | assumption | exact small_put _ _ _ | exact small_take _ _ | exact small_all _ _ _ | exact small_nil | exact small_right (by assumption) | exact small_one (small_at (by assumption) hx1) | exact small_one (by assumption))) rfl rfl rfl rfl rfl rfl (fun v L' I' hq8 => ?_)) .nil) (List.cons_ne_nil _ _)
      obtain ⟨A10, c10, rfl, rfl, rfl⟩ := hq8
      refine a_and (held_pt 4 rfl rfl (held_pt 4 rfl rfl held_nil)) ?_
      refine a_y (i := 4) (v := .tuple #[.agg #[.int .i64 ((allF max (fewL l) (fewL r)).1), .slice A10 ((allF max (fewL l) (fewL r)).2.1).length c10], .int .i64 ((allF max (fewL l) (fewL r)).2.2.1 : Int), .int .i64 ((allF max (fewL l) (fewL r)).2.2.2)]) (ticked 12 287) rfl (by kernel_rfl) rfl rfl rfl (by exact y_mv rfl) ?_
      refine a_y (i := 5) (v := .agg #[.int .i64 ((allF max (fewL l) (fewL r)).1), .slice A10 ((allF max (fewL l) (fewL r)).2.1).length c10]) (ticked 12 319) rfl (by kernel_rfl) rfl rfl rfl (by exact y_k rfl rfl (fun _ => by kernel_rfl)) ?_
      refine a_y (i := 6) (v := .int .i64 ((allF max (fewL l) (fewL r)).2.2.1 : Int)) (ticked 12 383) rfl (by kernel_rfl) rfl rfl rfl (by exact y_k rfl rfl (fun _ => by kernel_rfl)) ?_
      refine a_y (i := 7) (v := .int .i64 ((allF max (fewL l) (fewL r)).2.2.2)) (ticked 12 511) rfl (by kernel_rfl) rfl rfl rfl (by exact y_k rfl rfl (fun _ => by kernel_rfl)) ?_
      refine a_each (rs := [9]) (by kernel_rfl) (.cons (ticked 12 1023) rfl rfl rfl (o_st 0 rfl rfl rfl rfl rfl (by kernel_rfl) (by kernel_rfl) rfl ?_) .nil) (List.cons_ne_nil _ _)
      refine a_and (held_pt 4 rfl rfl (held_pt 4 rfl rfl held_nil)) ?_
      refine a_y (i := 10) (v := .int .i64 ((allF max (fewL l) (fewL r)).2.2.1 : Int)) (ticked 12 2047) rfl (by kernel_rfl) rfl rfl rfl (by exact y_as rfl) ?_
      refine a_y (i := 11) (v := .int .i64 ((allF max (fewL l) (fewL r)).2.2.2)) (ticked 12 4095) rfl (by kernel_rfl) rfl rfl rfl (by exact y_as rfl) ?_
      refine a_done (by kernel_rfl) ?_
      refine e_norm (e' := [(4, .bool false), (5, .bool true), (6, .pointer (some ⟨b2, 0, none⟩)), (7, .int .i64 ((allF max (fewL l) (fewL r)).2.2.1 : Int)), (8, .int .i64 ((allF max (fewL l) (fewL r)).2.2.2)), (9, .pointer (some ⟨b6, 0, none⟩)), (10, .int .i64 ((allF max (fewL l) (fewL r)).2.2.1 : Int)), (11, .int .i64 ((allF max (fewL l) (fewL r)).2.2.2))]) [0, 0, 0, 0, 0] [0, 1, 2, 3, 4, 5, 6, 7, 8, 9, 10] ((.cons rfl rfl (.cons rfl rfl (.cons rfl rfl (.cons rfl rfl (.cons rfl rfl (.cons rfl rfl (.cons rfl rfl (.cons rfl rfl .nil))))))))) rfl rfl ?_
      exact cut2 A9 c9 A10 c10 b6 h34 h35
  refine a_y (i := 1) (v := .slice B r.length d) (ticked 12 2) rfl (by kernel_rfl) rfl rfl rfl (by exact y_mv rfl) ?_
  refine a_held (i := 0) (ticked 12 3) rfl (by kernel_rfl) rfl rfl rfl (held_pt 1 rfl rfl (held_pt 1 rfl rfl held_nil)) (h_ldn (vs := [.int .i64 max, .slice A1 (fewL l).length c1]) 0 2 rfl rfl rfl Tryd.underlying24 rfl (by kernel_rfl) (by kernel_rfl)) ?_
  refine a_each (rs := [2, 8]) (by kernel_rfl) (.cons (ticked 12 7) rfl rfl rfl ?_ (.cons (ticked 12 259) rfl rfl rfl ?_ .nil)) (List.cons_ne_nil _ _)
  ·
    refine o_call [] [1] (few_ B d r) rfl rfl rfl rfl rfl rfl (fun v L' I' hq9 => ?_)
    obtain ⟨A11, c11, h36, h37, rfl, rfl, rfl⟩ := hq9
    refine a_and (held_pt 2 rfl rfl (held_pt 2 rfl rfl held_nil)) ?_
    refine a_each (rs := [3, 8]) (by kernel_rfl) (.cons (ticked 12 15) rfl rfl rfl ?_ (.cons (ticked 12 263) rfl rfl rfl ?_ .nil)) (List.cons_ne_nil _ _)
    ·
      refine o_lend [1, 0] [] [2, 3, 4, 5, 6, 7] (All_ A1 c1 (fewL l) A11 c11 (fewL r) max ea ef ee (by assumption) (by assumption) (by assumption) (by first | assumption | exact small_put _ _ _ | exact small_take _ _ | exact small_all _ _ _ | exact small_nil | exact small_right (by assumption) | exact small_one (small_at (by assumption) hx1) | exact small_one (by assumption)) (by first | assumption | exact small_put _ _ _ | exact small_take _ _ | exact small_all _ _ _ | exact small_nil | exact small_right (by assumption) | exact small_one (small_at (by assumption) hx1) | exact small_one (by assumption))) (.cons lend_ars (.cons lend_ars .nil)) rfl rfl rfl rfl rfl rfl rfl rfl (fun v L' I' hq10 => ?_)
      obtain ⟨A12, c12, rfl, rfl, rfl⟩ := hq10
      refine ⟨rfl, ?_⟩
      refine a_and (held_pt 3 rfl rfl (held_pt 3 rfl rfl held_nil)) ?_
      refine a_y (i := 4) (v := .tuple #[.agg #[.int .i64 ((allF max (fewL l) (fewL r)).1), .slice A12 ((allF max (fewL l) (fewL r)).2.1).length c12], .int .i64 ((allF max (fewL l) (fewL r)).2.2.1 : Int), .int .i64 ((allF max (fewL l) (fewL r)).2.2.2)]) (ticked 12 31) rfl (by kernel_rfl) rfl rfl rfl (by exact y_mv rfl) ?_
      refine a_y (i := 5) (v := .agg #[.int .i64 ((allF max (fewL l) (fewL r)).1), .slice A12 ((allF max (fewL l) (fewL r)).2.1).length c12]) (ticked 12 63) rfl (by kernel_rfl) rfl rfl rfl (by exact y_k rfl rfl (fun _ => by kernel_rfl)) ?_
      refine a_y (i := 6) (v := .int .i64 ((allF max (fewL l) (fewL r)).2.2.1 : Int)) (ticked 12 127) rfl (by kernel_rfl) rfl rfl rfl (by exact y_k rfl rfl (fun _ => by kernel_rfl)) ?_
      refine a_y (i := 7) (v := .int .i64 ((allF max (fewL l) (fewL r)).2.2.2)) (ticked 12 255) rfl (by kernel_rfl) rfl rfl rfl (by exact y_k rfl rfl (fun _ => by kernel_rfl)) ?_
      refine a_each (rs := [8]) (by kernel_rfl) (.cons (ticked 12 511) rfl rfl rfl (o_box (cs := [.int .i64 0, .slice none 0 0]) (T := 24) rfl rfl rfl rfl (fun _ => by kernel_rfl) (fun b7 => ?_)) .nil) (List.cons_ne_nil _ _)
      refine a_and (held_pt 4 rfl rfl (held_pt 4 rfl rfl held_nil)) ?_
      refine a_each (rs := [9]) (by kernel_rfl) (.cons (ticked 12 1023) rfl rfl rfl (o_st 0 rfl rfl rfl rfl rfl (by kernel_rfl) (by kernel_rfl) rfl ?_) .nil) (List.cons_ne_nil _ _)
      refine a_and (held_pt 4 rfl rfl (held_pt 4 rfl rfl held_nil)) ?_
      refine a_y (i := 10) (v := .int .i64 ((allF max (fewL l) (fewL r)).2.2.1 : Int)) (ticked 12 2047) rfl (by kernel_rfl) rfl rfl rfl (by exact y_as rfl) ?_
      refine a_y (i := 11) (v := .int .i64 ((allF max (fewL l) (fewL r)).2.2.2)) (ticked 12 4095) rfl (by kernel_rfl) rfl rfl rfl (by exact y_as rfl) ?_
      refine a_done (by kernel_rfl) ?_
      refine e_norm (e' := [(1, .slice B r.length d), (2, .pointer (some ⟨b1, 0, none⟩)), (4, .bool false), (5, .bool true), (6, .pointer (some ⟨b7, 0, none⟩)), (7, .int .i64 ((allF max (fewL l) (fewL r)).2.2.1 : Int)), (8, .int .i64 ((allF max (fewL l) (fewL r)).2.2.2))]) [0, 0, 0, 0, 0] [0, 1, 2, 3, 4, 5, 6, 7] ((.cons rfl rfl (.cons rfl rfl (.cons rfl rfl (.cons rfl rfl (.cons rfl rfl (.cons rfl rfl (.cons rfl rfl .nil)))))))) rfl rfl ?_
      exact cut1 A11 c11 A12 c12 b7 h36 h37
    ·
      refine o_box (cs := [.int .i64 0, .slice none 0 0]) (T := 24) rfl rfl rfl rfl (fun _ => by kernel_rfl) (fun b8 => ?_)
      refine a_and (held_pt 3 rfl rfl (held_pt 3 rfl rfl held_nil)) ?_
      refine a_each (rs := [3]) (by kernel_rfl) (.cons (ticked 12 271) rfl rfl rfl (o_lend [2, 1] [] [2, 3, 4, 5, 6, 7] (All_ A1 c1 (fewL l) A11 c11 (fewL r) max ea ef ee (by assumption) (by assumption) (by assumption) (by first | assumption | exact small_put _ _ _ | exact small_take _ _ | exact small_all _ _ _ | exact small_nil | exact small_right (by assumption) | exact small_one (small_at (by assumption) hx1) | exact small_one (by assumption)) (by first | assumption | exact small_put _ _ _ | exact small_take _ _ | exact small_all _ _ _ | exact small_nil | exact small_right (by assumption) | exact small_one (small_at (by assumption) hx1) | exact small_one (by assumption))) (.cons lend_ars (.cons lend_ars .nil)) rfl rfl rfl rfl rfl rfl rfl rfl (fun v L' I' hq11 => ?_)) .nil) (List.cons_ne_nil _ _)
      obtain ⟨A13, c13, rfl, rfl, rfl⟩ := hq11
      refine ⟨rfl, ?_⟩
      refine a_and (held_pt 4 rfl rfl (held_pt 4 rfl rfl held_nil)) ?_
      refine a_y (i := 4) (v := .tuple #[.agg #[.int .i64 ((allF max (fewL l) (fewL r)).1), .slice A13 ((allF max (fewL l) (fewL r)).2.1).length c13], .int .i64 ((allF max (fewL l) (fewL r)).2.2.1 : Int), .int .i64 ((allF max (fewL l) (fewL r)).2.2.2)]) (ticked 12 287) rfl (by kernel_rfl) rfl rfl rfl (by exact y_mv rfl) ?_
      refine a_y (i := 5) (v := .agg #[.int .i64 ((allF max (fewL l) (fewL r)).1), .slice A13 ((allF max (fewL l) (fewL r)).2.1).length c13]) (ticked 12 319) rfl (by kernel_rfl) rfl rfl rfl (by exact y_k rfl rfl (fun _ => by kernel_rfl)) ?_
      refine a_y (i := 6) (v := .int .i64 ((allF max (fewL l) (fewL r)).2.2.1 : Int)) (ticked 12 383) rfl (by kernel_rfl) rfl rfl rfl (by exact y_k rfl rfl (fun _ => by kernel_rfl)) ?_
      refine a_y (i := 7) (v := .int .i64 ((allF max (fewL l) (fewL r)).2.2.2)) (ticked 12 511) rfl (by kernel_rfl) rfl rfl rfl (by exact y_k rfl rfl (fun _ => by kernel_rfl)) ?_
      refine a_each (rs := [9]) (by kernel_rfl) (.cons (ticked 12 1023) rfl rfl rfl (o_st 3 rfl rfl rfl rfl rfl (by kernel_rfl) (by kernel_rfl) rfl ?_) .nil) (List.cons_ne_nil _ _)
      refine a_and (held_pt 4 rfl rfl (held_pt 4 rfl rfl held_nil)) ?_
      refine a_y (i := 10) (v := .int .i64 ((allF max (fewL l) (fewL r)).2.2.1 : Int)) (ticked 12 2047) rfl (by kernel_rfl) rfl rfl rfl (by exact y_as rfl) ?_
      refine a_y (i := 11) (v := .int .i64 ((allF max (fewL l) (fewL r)).2.2.2)) (ticked 12 4095) rfl (by kernel_rfl) rfl rfl rfl (by exact y_as rfl) ?_
      refine a_done (by kernel_rfl) ?_
      refine e_norm (e' := [(1, .slice B r.length d), (2, .pointer (some ⟨b1, 0, none⟩)), (4, .bool false), (5, .bool true), (6, .pointer (some ⟨b8, 0, none⟩)), (7, .int .i64 ((allF max (fewL l) (fewL r)).2.2.1 : Int)), (8, .int .i64 ((allF max (fewL l) (fewL r)).2.2.2))]) [3, 0, 0, 0, 0] [0, 1, 2, 3, 4, 5, 6, 7] ((.cons rfl rfl (.cons rfl rfl (.cons rfl rfl (.cons rfl rfl (.cons rfl rfl (.cons rfl rfl (.cons rfl rfl .nil)))))))) rfl rfl ?_
      exact cut1 A11 c11 A13 c13 b8 h36 h37
  ·
    refine o_box (cs := [.int .i64 0, .slice none 0 0]) (T := 24) rfl rfl rfl rfl (fun _ => by kernel_rfl) (fun b9 => ?_)
    refine a_and (held_pt 2 rfl rfl (held_pt 2 rfl rfl held_nil)) ?_
    refine a_each (rs := [2]) (by kernel_rfl) (.cons (ticked 12 263) rfl rfl rfl (o_call [] [1] (few_ B d r) rfl rfl rfl rfl rfl rfl (fun v L' I' hq12 => ?_)) .nil) (List.cons_ne_nil _ _)
    obtain ⟨A14, c14, h38, h39, rfl, rfl, rfl⟩ := hq12
    refine a_and (held_pt 3 rfl rfl (held_pt 3 rfl rfl held_nil)) ?_
    refine a_each (rs := [3]) (by kernel_rfl) (.cons (ticked 12 271) rfl rfl rfl (o_lend [2, 0] [] [2, 3, 4, 5, 6, 7] (All_ A1 c1 (fewL l) A14 c14 (fewL r) max ea ef ee (by assumption) (by assumption) (by assumption) (by first | assumption | exact small_put _ _ _ | exact small_take _ _ | exact small_all _ _ _ | exact small_nil | exact small_right (by assumption) | exact small_one (small_at (by assumption) hx1) | exact small_one (by assumption)) (by first | assumption | exact small_put _ _ _ | exact small_take _ _ | exact small_all _ _ _ | exact small_nil | exact small_right (by assumption) | exact small_one (small_at (by assumption) hx1) | exact small_one (by assumption))) (.cons lend_ars (.cons lend_ars .nil)) rfl rfl rfl rfl rfl rfl rfl rfl (fun v L' I' hq13 => ?_)) .nil) (List.cons_ne_nil _ _)
    obtain ⟨A15, c15, rfl, rfl, rfl⟩ := hq13
    refine ⟨rfl, ?_⟩
    refine a_and (held_pt 4 rfl rfl (held_pt 4 rfl rfl held_nil)) ?_
    refine a_y (i := 4) (v := .tuple #[.agg #[.int .i64 ((allF max (fewL l) (fewL r)).1), .slice A15 ((allF max (fewL l) (fewL r)).2.1).length c15], .int .i64 ((allF max (fewL l) (fewL r)).2.2.1 : Int), .int .i64 ((allF max (fewL l) (fewL r)).2.2.2)]) (ticked 12 287) rfl (by kernel_rfl) rfl rfl rfl (by exact y_mv rfl) ?_
    refine a_y (i := 5) (v := .agg #[.int .i64 ((allF max (fewL l) (fewL r)).1), .slice A15 ((allF max (fewL l) (fewL r)).2.1).length c15]) (ticked 12 319) rfl (by kernel_rfl) rfl rfl rfl (by exact y_k rfl rfl (fun _ => by kernel_rfl)) ?_
    refine a_y (i := 6) (v := .int .i64 ((allF max (fewL l) (fewL r)).2.2.1 : Int)) (ticked 12 383) rfl (by kernel_rfl) rfl rfl rfl (by exact y_k rfl rfl (fun _ => by kernel_rfl)) ?_
    refine a_y (i := 7) (v := .int .i64 ((allF max (fewL l) (fewL r)).2.2.2)) (ticked 12 511) rfl (by kernel_rfl) rfl rfl rfl (by exact y_k rfl rfl (fun _ => by kernel_rfl)) ?_
    refine a_each (rs := [9]) (by kernel_rfl) (.cons (ticked 12 1023) rfl rfl rfl (o_st 3 rfl rfl rfl rfl rfl (by kernel_rfl) (by kernel_rfl) rfl ?_) .nil) (List.cons_ne_nil _ _)
    refine a_and (held_pt 4 rfl rfl (held_pt 4 rfl rfl held_nil)) ?_
    refine a_y (i := 10) (v := .int .i64 ((allF max (fewL l) (fewL r)).2.2.1 : Int)) (ticked 12 2047) rfl (by kernel_rfl) rfl rfl rfl (by exact y_as rfl) ?_
    refine a_y (i := 11) (v := .int .i64 ((allF max (fewL l) (fewL r)).2.2.2)) (ticked 12 4095) rfl (by kernel_rfl) rfl rfl rfl (by exact y_as rfl) ?_
    refine a_done (by kernel_rfl) ?_
    refine e_norm (e' := [(1, .slice B r.length d), (2, .pointer (some ⟨b1, 0, none⟩)), (4, .bool false), (5, .bool true), (6, .pointer (some ⟨b9, 0, none⟩)), (7, .int .i64 ((allF max (fewL l) (fewL r)).2.2.1 : Int)), (8, .int .i64 ((allF max (fewL l) (fewL r)).2.2.2))]) [3, 0, 0, 0, 0] [0, 1, 2, 3, 4, 5, 6, 7] ((.cons rfl rfl (.cons rfl rfl (.cons rfl rfl (.cons rfl rfl (.cons rfl rfl (.cons rfl rfl (.cons rfl rfl .nil)))))))) rfl rfl ?_
    exact cut1 A14 c14 A15 c15 b9 h38 h39
open Go.ChangeShapes Go.WideShapes Go.ChangeAt Go.Joins
theorem own : ownKnob Tryd.prog.godebug = none := by kernel_rfl
theorem laidOut : laidOutB Tryd.prog = true := by kernel_rfl
theorem gn0 : Tryd.prog.globalNamed "plimsoll/ring.errArg" = some 1 := by kernel_rfl
theorem gt0 : (Tryd.prog.globals[1]?).map (·.type) = some 47 := by kernel_rfl
theorem gn1 : Tryd.prog.globalNamed "plimsoll/ring.errFull" = some 2 := by kernel_rfl
theorem gt1 : (Tryd.prog.globals[2]?).map (·.type) = some 47 := by kernel_rfl
theorem gn2 : Tryd.prog.globalNamed "plimsoll/ring.errEmpty" = some 0 := by kernel_rfl
theorem gt2 : (Tryd.prog.globals[0]?).map (·.type) = some 47 := by kernel_rfl
theorem cellsE : Tryd.prog.cellsOf 105 = 1 := by kernel_rfl
theorem cellsS : Tryd.prog.cellsOf 9 = 1 := by kernel_rfl
theorem star : "*" ++ "errors.errorString" = "*errors.errorString" := by decide
theorem rowP (u : TypeId) (h : Tryd.prog.typeName? 3 u = some "*errors.errorString") : u = 80 :=
  typeName_ptr_named (nm := "errors.errorString") (by rw [star]; kernel_rfl) (by kernel_rfl) (by decide) u (by rw [star]; exact h)
noncomputable def laidL : List (String × DataW Unit) := Rows.ringAllRow.laid
theorem door_met (os : Os) (args : Array Value) : laidMetH Tryd.prog laidL ((World.doorLaid Tryd.prog 400 os).forCall (fun _ _ => 0) ⟨#[], args, []⟩).memory :=
  laidMetH_of_parts3 (fuel := 8) (laidMet_of_run' 8 (by kernel_rfl) (by kernel_rfl)) (by kernel_rfl) (by kernel_rfl)
theorem of_laid {W : World} (h : laidMetH Tryd.prog laidL W) : ∃ a0 a1 a2 : Addr, Sent Tryd.prog W "plimsoll/ring.errArg" 1 80 a0 ∧ Sent Tryd.prog W "plimsoll/ring.errFull" 2 80 a1 ∧ Sent Tryd.prog W "plimsoll/ring.errEmpty" 0 80 a2 ∧ a0 ≠ a1 ∧ a0 ≠ a2 ∧ a1 ≠ a2 := by
  rw [MakeChecks.laidMetH_plain _ _ _ (by kernel_rfl)] at h
  exact laid3 h gn0 gt0 gn1 gt1 gn2 gt2 Tryd.underlying47 rowP Tryd.underlying80 Tryd.underlying105 rfl rfl Tryd.underlying9 cellsE cellsS
theorem errFact {P : Program} {W : World} {n : String} {g : Nat} {tp : TypeId} {a : Addr} (h : Sent P W n g tp a) : ∀ k, le (hpOf W) k → errAt a k := fun k hk => by
  obtain ⟨c, t, hb⟩ := h.blk
  exact ⟨c, t, hk _ _ hb⟩
set_option maxRecDepth 100000 in
theorem ringAll_lifted (os : Os) (started : os.Started) (H : Type) (enc : TypeId × Value → H) :
    ReturnsInHanded {} Tryd.checked os 4 .any (fun w args => (Rows.ringAllSpec.pre enc Tryd.prog Tryd.f4 [] false w args ∧ laidMetH Tryd.prog laidL w) ∧ sizedMet enc Tryd.prog Tryd.f4 (OpenSpec.ofChange Rows.ringAllSpec) false w args)
      (Rows.ringAllSpec.post enc Tryd.prog Tryd.f4 false true false false) := by
  refine returnsInHanded_of_change_and (C := Tryd.checked) (X := fun w _ => laidMetH Tryd.prog laidL w) (fun _ _ _ hh h => h.of_heap hh) own started (by kernel_rfl) Tryd.func4
    (ChangeSpec.witness_shaped (enc := enc) (C := Tryd.checked) (os := os) (X := fun w _ => laidMetH Tryd.prog laidL w) false (World.doorLaid Tryd.prog 400 os) #[.agg #[.int .i64 0, .slice none 0 0], .slice none 0 0] 8 rfl (World.shaped_of_RefB (by kernel_rfl) (by kernel_rfl)) (by kernel_rfl) (by kernel_rfl) (by kernel_rfl) (door_met os _)) ?_
  intro W base args ds gs before hval0 hW _ _ hL _
  have hval : ∀ (j : Nat) t v, Tryd.f4.params[j]? = some t → args[j]? = some v → Value.okWide Tryd.prog W .any base t v := hval0
  have hW' := hW
  obtain ⟨p, q, hA0, hV, rfl, hfz, hnd⟩ := hW
  have hA : DataW.TrodAll enc Tryd.prog W 0 (fun _ => true) true Tryd.f4.params.toList args.toList ds p := hA0
  rw [Tryd.params4] at hA hval
  obtain ⟨v0, v1, d0, d1, p0, p1, rfl, rfl, rfl, h0, h1⟩ := trodAll_two hA
  obtain ⟨rfl, rfl⟩ := trodVars_none hV
  obtain ⟨a0, a1, a2, s0, s1, s2, n01, n02, n12⟩ := of_laid hL
  clear hA0 hval0 hL
  simp only [List.append_nil] at hW'
  have t0 := h0
  obtain ⟨x0, z0, y0, w0, m0, rfl, _, _, g0, hf0⟩ := open_agg2 Tryd.underlying24 (by kernel_rfl) (by kernel_rfl) (hval 0 24 _ rfl rfl) h0
  obtain ⟨n0, e0, _, _⟩ := DataW.trod_int Tryd.underlying3 g0
  simp only [List.cons.injEq, and_true] at e0
  subst e0
  obtain ⟨A0, c0, l0, rfl, hr0⟩ := open_texts Tryd.underlying22 Tryd.underlying9 (by kernel_rfl) hf0
  have t1 := h1
  obtain ⟨fu1, hf1⟩ := h1
  obtain ⟨_, _, _, rfl⟩ := okWide_slice Tryd.underlying22 (hval 1 22 _ rfl rfl)
  obtain ⟨A1, c1, l1, he1, hr1⟩ := open_texts Tryd.underlying22 Tryd.underlying9 (by kernel_rfl) hf1
  simp only [Value.slice.injEq] at he1
  obtain ⟨qa1, qb1, qc1⟩ := he1
  have qa1' := qa1.symm
  have qc1' := qc1.symm
  subst qa1'
  subst qb1
  subst qc1'
  refine (con_calls (RingAll_ A0 c0 l0 A1 c1 l1 n0 a0 a1 a2 n01 n02 n12) (Facts.cons (hr0) (Facts.cons (hr1) (Facts.cons (sent_facts s0) (Facts.cons (sent_facts s1) (Facts.cons (sent_facts s2) (Facts.cons (errFact s0) (Facts.cons (errFact s1) (Facts.cons (errFact s2) (Facts.nil _)))))))))).mono fun e W' ⟨he, hb⟩ => ?_
  subst he
  have hlt : ∀ x ∈ p0 ++ p1, x.block < W.heap.size := fun x hx => by simpa using hW'.lt x (by simpa using hx)
  exact ⟨_, rfl, [d0, d1], [], _, [], p0 ++ p1, [], hW', trodAll_mk1 (shut_bool Tryd.underlying4 true), trodAll_mk2 (Below.trod laidOut (by kernel_rfl) (of_decide_eq_true (by kernel_rfl)) t0 hb (fun x hx => hlt x (by simp [hx]))) (Below.trod laidOut (by kernel_rfl) (of_decide_eq_true (by kernel_rfl)) t1 hb (fun x hx => hlt x (by simp [hx]))), rfl, hb.frame _, fun h => by cases h⟩
theorem ringAll_holds : Rows.RingAllSaid :=
  OpenClaim.holds_of_wide 4 Tryd.f4 rfl rfl rfl rfl rfl rfl rfl ⟨rfl, rfl, rfl, rfl, rfl⟩ rfl rfl rfl rfl rfl (by kernel_rfl) Tryd.func4 (by kernel_rfl)
    (of_decide_eq_true (by kernel_rfl)) (by unfold Func.isWrapper; first | (rw [if_pos (by decide +kernel)]; kernel_rfl) | (rw [if_neg (by decide +kernel)]; exact ⟨rfl, rfl⟩))
    (fun os started H enc _ => ringAll_lifted os started H enc)
/-- The tied card. -/
theorem ringAll_card : Rows.RingAllCardSaid :=
  Claim7.holds_tied_plain_at .later [] [.sentinel, .sentinel, .sentinel] true (true, "b786713441a752de7acee6366f0947f351ff51927903928e5be71e03e352de47") true
    ringAll_holds (fun _ h => by cases h) (by kernel_rfl) (fun _ h => by cases h) ringAll_row_tie rfl ⟨rfl, rfl⟩ (by kernel_rfl) rfl
    (fun f fn hf hfn => by
      obtain rfl : f = 4 := Option.some.inj ((show Tryd.prog.funcNamed "plimsoll/plimsolllaw08.RingAll" = some 4 by kernel_rfl).symm.trans hf) |>.symm
      obtain rfl : fn = Tryd.f4 := (Option.some.inj (Tryd.func4.symm.trans hfn)).symm
      exact ⟨by kernel_rfl, fun j t ht => by
        rw [Tryd.params4] at ht
        have hm : t ∈ [24, 22] := by simpa using Array.mem_of_getElem? ht
        have hall : ([24, 22].all fun u => !Tryd.prog.wantsStandIn u) = true := by kernel_rfl
        exact (show Tryd.prog.wantsStandIn t = false by simpa using List.all_eq_true.1 hall t hm)⟩)
    (by kernel_rfl)
#print axioms ringAll_card
end Go.Proofs.YtjcjbdhkajiaeaaDoor
