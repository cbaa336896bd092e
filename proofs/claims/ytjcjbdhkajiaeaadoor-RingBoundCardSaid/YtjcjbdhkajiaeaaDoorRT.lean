/- Contracts of package ring, its reference and its laws, walked over the given program; no condition but what stands in each: part T. -/
import Derived.Test.YtjcjbdhkajiaeaaDoorRP
import Derived.Test.YtjcjbdhkajiaeaaDoorSlW
import Derived.Test.YtjcjbdhkajiaeaaDoorCards
import Derived.Test.YtjcjbdhkajiaeaaDoorTie
import Derived.SevenTiedAt
set_option linter.unusedVariables false
set_option linter.unusedSimpArgs false
set_option maxRecDepth 100000
namespace Go.Proofs.YtjcjbdhkajiaeaaDoor
open Go Go.Sl Go.RowKit Go.Extern.Stop Go.Stop Go.Extern
set_option maxHeartbeats 1000000 in
theorem RingBound_ (A : Option Addr) (c : Nat) (l : List ByteArray) (max : Int) (item : ByteArray) (ea : Addr) (ef : Addr) (ee : Addr) (h12 : ea ≠ ef) (h13 : ea ≠ ee) (h23 : ef ≠ ee) : Con Tryd.prog 3 [.agg #[.int .i64 max, .slice A l.length c], .string item] [] [rd strTy A c l, cellsAt 1 0 [.iface 80 (.pointer (some ea))], cellsAt 2 0 [.iface 80 (.pointer (some ef))], cellsAt 0 0 [.iface 80 (.pointer (some ee))], errAt ea, errAt ef, errAt ee] (fun v L' I' => v = .bool true ∧ L' = [] ∧ I' = []) := by
  refine fn_of Tryd.func3 rfl Tryd.ntmps3 (by kernel_rfl) rfl (fun C => ?_)
  refine c_seq ?_
  refine c_region ?_
  refine st rfl (o_box (cs := [.int .i64 max, .slice A l.length c]) (T := 24) rfl rfl rfl rfl (fun _ => by kernel_rfl) (fun b1 => ?_))
  refine st rfl (o_y (v := .bool false) (y_as rfl) rfl rfl rfl ?_)
  refine s_nil ?_
  refine q_then ?_
  refine c_seq ?_
  refine c_region ?_
  refine st rfl (o_call [] [1, 2, 3, 4, 5, 6] (shown_ ea ef ee (by assumption) (by assumption) (by assumption)) rfl rfl rfl rfl rfl rfl (fun v L' I' hq1 => ?_))
  obtain ⟨rfl, rfl, rfl⟩ := hq1
  refine st rfl (o_y (v := .bool true) (y_as rfl) rfl rfl rfl ?_)
  refine s_nil ?_
  refine q_then ?_
  refine c_seq ?_
  refine c_region ?_
  refine st rfl (o_ldn 0 2 rfl rfl rfl rfl Tryd.underlying24 rfl (by kernel_rfl) (by kernel_rfl) rfl ?_)
  refine st rfl (o_call [] [0] (Few_ A c l max) rfl rfl rfl rfl rfl rfl (fun v L' I' hq2 => ?_))
  obtain ⟨A1, c1, h24, h25, rfl, rfl, rfl⟩ := hq2
  refine st rfl (o_st 1 rfl rfl rfl rfl rfl (by kernel_rfl) (by kernel_rfl) rfl ?_)
  refine s_nil ?_
  refine q_then ?_
  refine c_seq ?_
  refine c_region ?_
  refine st rfl (o_y (v := .string item) (y_mv rfl) rfl rfl rfl ?_)
  refine st rfl (o_call [] [] (cut_ item) rfl rfl rfl rfl rfl rfl (fun v L' I' hq3 => ?_))
  obtain ⟨h26, rfl, rfl, rfl⟩ := hq3
  refine st rfl (o_y (v := .string (cutS item)) (y_as rfl) rfl rfl rfl ?_)
  refine s_nil ?_
  refine q_then ?_
  refine c_seq ?_
  refine c_region ?_
  refine st rfl (o_ldn 1 2 rfl rfl rfl rfl Tryd.underlying24 rfl (by kernel_rfl) (by kernel_rfl) rfl ?_)
  refine st rfl (o_y (v := .string (cutS item)) (y_mv rfl) rfl rfl rfl ?_)
  refine st rfl (o_lend [0] [] [1, 2, 3, 4, 5, 6] (Put_ A1 c1 (fewL l) max (cutS item) ea ef ee (by assumption) (by assumption) (by assumption) (by first | assumption | exact small_put _ _ _ | exact small_take _ _ | exact small_all _ _ _ | exact small_nil | exact small_right (by assumption) | exact small_one (small_at (by assumption) hx1) | exact small_one (by assumption)) (by first | assumption | omega | decide | exact small_at (by assumption) hx1)) (.cons lend_ars .nil) rfl rfl rfl rfl rfl rfl rfl rfl (fun v L' I' hq4 => ?_))
  obtain ⟨A2, c2, rfl, rfl, rfl⟩ := hq4
  refine ⟨rfl, ?_⟩
  refine st rfl (o_y (v := .tuple #[.agg #[.int .i64 ((putF max (fewL l) (cutS item)).1), .slice A2 ((putF max (fewL l) (cutS item)).2.1).length c2], .int .i64 ((putF max (fewL l) (cutS item)).2.2)]) (y_mv rfl) rfl rfl rfl ?_)
  refine st rfl (o_y (v := .agg #[.int .i64 ((putF max (fewL l) (cutS item)).1), .slice A2 ((putF max (fewL l) (cutS item)).2.1).length c2]) (y_k rfl rfl (fun _ => by kernel_rfl)) rfl rfl rfl ?_)
  refine st rfl (o_y (v := .int .i64 ((putF max (fewL l) (cutS item)).2.2)) (y_k rfl rfl (fun _ => by kernel_rfl)) rfl rfl rfl ?_)
  refine st rfl (o_box (cs := [.int .i64 0, .slice none 0 0]) (T := 24) rfl rfl rfl rfl (fun _ => by kernel_rfl) (fun b2 => ?_))
  refine st rfl (o_st 0 rfl rfl rfl rfl rfl (by kernel_rfl) (by kernel_rfl) rfl ?_)
  refine st rfl (o_y (v := .int .i64 ((putF max (fewL l) (cutS item)).2.2)) (y_as rfl) rfl rfl rfl ?_)
  refine s_nil ?_
  refine q_then ?_
  refine c_seq ?_
  refine c_seq ?_
  refine c_region ?_
  refine st rfl (o_ldn 3 2 rfl rfl rfl rfl Tryd.underlying24 rfl (by kernel_rfl) (by kernel_rfl) rfl ?_)
  refine st rfl (o_lend [2] [] [1, 2, 3, 4, 5, 6] (Right_ A1 c1 (fewL l) max ea ef ee (by first | assumption | exact small_put _ _ _ | exact small_take _ _ | exact small_all _ _ _ | exact small_nil | exact small_right (by assumption) | exact small_one (small_at (by assumption) hx1) | exact small_one (by assumption))) (.cons lend_ars .nil) rfl rfl rfl rfl rfl rfl rfl rfl (fun v L' I' hq5 => ?_))
  obtain ⟨hv1, rfl, rfl⟩ := hq5
  refine ⟨rfl, ?_⟩
  refine e_by (right max (fewL l)) (fun h27 => ?_) (fun h27 => ?_)
  ·
    obtain rfl : v = .bool true := by rw [hv1, decide_eq_true h27]
    refine st rfl (o_y (v := .bool false) (y_k rfl rfl (fun _ => by kernel_rfl)) rfl rfl rfl ?_)
    refine st rfl (o_y (v := .bool false) (y_mv rfl) rfl rfl rfl ?_)
    refine st_on 23 rfl rfl rfl (o_y (v := .string (cutS item)) (y_mv rfl) rfl rfl rfl ?_)
    refine st_on 23 rfl rfl rfl (o_y (v := .int .i64 ((cutS item).size : Int)) (y_k rfl rfl (fun _ => by kernel_rfl)) rfl rfl rfl ?_)
    refine e_by (((cutS item).size : Int) > 200) (fun h28 => ?_) (fun h28 => ?_)
    ·
      refine st_on 23 rfl rfl rfl (o_y (v := .bool true) (y_t (y_k (v := .bool (decide (((cutS item).size : Int) > 200))) rfl rfl (fun _ => by kernel_rfl)) h28) rfl rfl rfl ?_)
      refine st rfl (o_y (v := .bool true) (y_pick rfl rfl) rfl rfl rfl ?_)
      refine s_nil ?_
      refine q_then ?_
      refine c_true rfl ?_
      refine c_seq ?_
      refine c_region ?_
      refine st rfl (o_y (v := .bool true) (y_mv rfl) rfl rfl rfl ?_)
      refine st rfl (o_y (v := .bool true) (y_mv rfl) rfl rfl rfl ?_)
      refine st_on 29 rfl rfl rfl (o_y (v := .int .i64 ((putF max (fewL l) (cutS item)).2.2)) (y_mv rfl) rfl rfl rfl ?_)
      refine e_by ((putF max (fewL l) (cutS item)).2.2 = 2) (fun h29 => ?_) (fun h29 => ?_)
      ·
        refine st_on 29 rfl rfl rfl (o_y (v := .bool true) (y_b (y_k (v := .bool (((putF max (fewL l) (cutS item)).2.2) == 2)) rfl rfl (fun _ => by kernel_rfl)) (beq_iff_eq.2 h29)) rfl rfl rfl ?_)
        refine st rfl (o_y (v := .bool true) (y_pick rfl rfl) rfl rfl rfl ?_)
        refine st rfl (o_y (v := .bool true) (y_as rfl) rfl rfl rfl ?_)
        refine s_nil ?_
        refine q_then ?_
        refine c_ret ?_
        refine q_then_ret ?_
        refine c_fin (I' := []) [] [0, 1, 2, 3, 4, 5, 6] rfl (.tmp rfl .nil) rfl rfl rfl ?_
        exact ⟨rfl, rfl, rfl⟩
      ·
        refine st_on 29 rfl rfl rfl (o_y (v := .bool false) (y_b (y_k (v := .bool (((putF max (fewL l) (cutS item)).2.2) == 2)) rfl rfl (fun _ => by kernel_rfl)) (beq_eq_false_iff_ne.2 h29)) rfl rfl rfl ?_)
        refine st rfl (o_y (v := .bool false) (y_pick rfl rfl) rfl rfl rfl ?_)
        refine st rfl (o_y (v := .bool false) (y_as rfl) rfl rfl rfl ?_)
        refine s_nil ?_
        refine q_then ?_
        refine c_ret ?_
        refine q_then_ret ?_
        refine c_fin (I' := []) [] [0, 1, 2, 3, 4, 5, 6] rfl (.tmp rfl .nil) rfl rfl rfl ?_
        exact ⟨by exfalso; rcases putF_cases max (fewL l) (cutS item) with ⟨q1, q2⟩ | ⟨q1, q2, q3⟩ | ⟨q1, q2, q3, q4, q5, q6⟩ | ⟨q1, q2, q3, q4⟩ <;> (simp_all) <;> omega, rfl, rfl⟩
    ·
      refine st_on 23 rfl rfl rfl (o_y (v := .bool false) (y_f (y_k (v := .bool (decide (((cutS item).size : Int) > 200))) rfl rfl (fun _ => by kernel_rfl)) h28) rfl rfl rfl ?_)
      refine st rfl (o_y (v := .bool false) (y_pick rfl rfl) rfl rfl rfl ?_)
      refine s_nil ?_
      refine q_then ?_
      refine c_false rfl ?_
      refine c_skip ?_
      refine q_then ?_
      refine c_seq ?_
      refine c_draw (l := ticked 10 0) [(⟨b1, 0, none⟩, .int .i64 max), (⟨b1, 1, none⟩, .slice A1 (fewL l).length c1)] [] (by kernel_rfl) rfl rfl ?_
      refine a_y (i := 2) (v := .string (cutS item)) (ticked 10 4) rfl (by kernel_rfl) rfl rfl rfl (by exact y_mv rfl) ?_
      refine a_y (i := 3) (v := .int .i64 ((cutS item).size : Int)) (ticked 10 12) rfl (by kernel_rfl) rfl rfl rfl (by exact y_k rfl rfl (fun _ => by kernel_rfl)) ?_
      refine a_y (i := 6) (v := .pointer (some ⟨b1, 0, none⟩)) (ticked 10 76) rfl (by kernel_rfl) rfl rfl rfl (by exact y_k rfl rfl (fun _ => by kernel_rfl)) ?_
      refine a_held (i := 0) (ticked 10 77) rfl (by kernel_rfl) rfl rfl rfl (held_pt 3 rfl rfl (held_pt 3 rfl rfl held_nil)) (h_ldn (vs := [.int .i64 max, .slice A1 (fewL l).length c1]) 0 2 rfl rfl rfl Tryd.underlying24 rfl (by kernel_rfl) (by kernel_rfl)) ?_
      refine a_held (i := 7) (ticked 10 205) rfl (by kernel_rfl) rfl rfl rfl (held_pt 3 rfl rfl (held_pt 3 rfl rfl held_nil)) (h_ld 0 rfl rfl Tryd.underlying3 rfl) ?_
      refine a_each (rs := [1]) (by kernel_rfl) (.cons (ticked 10 207) rfl rfl rfl (o_lend [0] [] [1, 2, 3, 4, 5, 6] (Used_ A1 c1 (fewL l) max ea ef ee (by first | assumption | exact small_put _ _ _ | exact small_take _ _ | exact small_all _ _ _ | exact small_nil | exact small_right (by assumption) | exact small_one (small_at (by assumption) hx1) | exact small_one (by assumption))) (.cons lend_ars .nil) rfl rfl rfl rfl rfl rfl rfl rfl (fun v L' I' hq6 => ?_)) .nil) (List.cons_ne_nil _ _)
      obtain ⟨rfl, rfl, rfl⟩ := hq6
      refine ⟨rfl, ?_⟩
      refine a_and (held_pt 3 rfl rfl (held_pt 3 rfl rfl held_nil)) ?_
      refine a_y (i := 4) (v := .int .i64 ((usedF max (fewL l) : Int) + ((cutS item).size : Int))) (ticked 10 223) rfl (by kernel_rfl) rfl rfl rfl (by exact y_add (r := (usedF max (fewL l) : Int) + ((cutS item).size : Int)) rfl rfl rfl (by have := usedF_le max (fewL l); omega)) ?_
      refine a_y (i := 5) (v := .int .i64 (((usedF max (fewL l) : Int) + ((cutS item).size : Int)) + 1)) (ticked 10 255) rfl (by kernel_rfl) rfl rfl rfl (by exact y_add (r := ((usedF max (fewL l) : Int) + ((cutS item).size : Int)) + 1) rfl rfl rfl (by have := usedF_le max (fewL l); omega)) ?_
      refine e_by (((usedF max (fewL l) : Int) + ((cutS item).size : Int)) + 1 ≤ max) (fun h30 => ?_) (fun h30 => ?_)
      ·
        refine a_y (i := 8) (v := .bool true) (ticked 10 511) rfl (by kernel_rfl) rfl rfl rfl (by exact y_t (y_k (v := .bool (decide (((usedF max (fewL l) : Int) + ((cutS item).size : Int)) + 1 ≤ max))) rfl rfl (fun _ => by kernel_rfl)) h30) ?_
        refine a_y (i := 9) (v := .bool true) (ticked 10 1023) rfl (by kernel_rfl) rfl rfl rfl (by exact y_as rfl) ?_
        refine a_done (by kernel_rfl) ?_
        refine q_then ?_
        refine c_seq ?_
        refine c_draw (l := ticked 41 0) [(⟨b2, 0, none⟩, .int .i64 ((putF max (fewL l) (cutS item)).1)), (⟨b2, 1, none⟩, .slice A2 ((putF max (fewL l) (cutS item)).2.1).length c2), (⟨b1, 0, none⟩, .int .i64 max), (⟨b1, 1, none⟩, .slice A1 (fewL l).length c1)] [] (by kernel_rfl) rfl rfl ?_
        refine a_y (i := 0) (v := .bool true) (ticked 41 1) rfl (by kernel_rfl) rfl rfl rfl (by exact y_mv rfl) ?_
        refine a_y (i := 1) (v := .bool true) (ticked 41 3) rfl (by kernel_rfl) rfl rfl rfl (by exact y_mv rfl) ?_
        refine a_y_on (i := 2) (v := .int .i64 ((putF max (fewL l) (cutS item)).2.2)) 43 (ticked 41 7) rfl (by kernel_rfl) rfl rfl rfl rfl rfl (by exact y_mv rfl) ?_
        refine e_by ((putF max (fewL l) (cutS item)).2.2 = 0) (fun h31 => ?_) (fun h31 => ?_)
        ·
          refine a_y_on (i := 3) (v := .bool true) 43 (ticked 41 15) rfl (by kernel_rfl) rfl rfl rfl rfl rfl (by exact y_b (y_k (v := .bool (((putF max (fewL l) (cutS item)).2.2) == 0)) rfl rfl (fun _ => by kernel_rfl)) (beq_iff_eq.2 h31)) ?_
          refine a_y_on (i := 4) (v := .bool true) 43 (ticked 41 31) rfl (by kernel_rfl) rfl rfl rfl rfl rfl (by exact y_mv rfl) ?_
          refine a_y_on (i := 5) (v := .bool true) 43 (ticked 41 63) rfl (by kernel_rfl) rfl rfl rfl rfl rfl (by exact y_k rfl rfl (fun _ => by kernel_rfl)) ?_
          refine a_y (i := 6) (v := .bool true) (ticked 41 127) rfl (by kernel_rfl) rfl rfl rfl (by exact y_pick rfl rfl) ?_
          refine a_y (i := 7) (v := .bool true) (ticked 41 255) rfl (by kernel_rfl) rfl rfl rfl (by exact y_mv rfl) ?_
          refine a_y_on (i := 8) (v := .bool true) 49 (ticked 41 511) rfl (by kernel_rfl) rfl rfl rfl rfl rfl (by exact y_mv rfl) ?_
          refine a_y_on (i := 9) (v := .bool true) 49 (ticked 41 1023) rfl (by kernel_rfl) rfl rfl rfl rfl rfl (by exact y_mv rfl) ?_
          refine a_off (i := 10) 51 (ticked 41 2047) rfl (by kernel_rfl) rfl rfl rfl rfl rfl rfl ?_
          refine a_off (i := 11) 51 (ticked 41 4095) rfl (by kernel_rfl) rfl rfl rfl rfl rfl rfl ?_
          refine a_y_on (i := 12) (v := .bool true) 49 (ticked 41 8191) rfl (by kernel_rfl) rfl rfl rfl rfl rfl (by exact y_pick rfl rfl) ?_
          refine a_y (i := 13) (v := .bool true) (ticked 41 16383) rfl (by kernel_rfl) rfl rfl rfl (by exact y_pick rfl rfl) ?_
          refine a_y (i := 14) (v := .bool true) (ticked 41 32767) rfl (by kernel_rfl) rfl rfl rfl (by exact y_mv rfl) ?_
          refine a_y_on (i := 15) (v := .bool true) 56 (ticked 41 65535) rfl (by kernel_rfl) rfl rfl rfl rfl rfl (by exact y_mv rfl) ?_
          refine a_y_on (i := 16) (v := .bool false) 56 (ticked 41 131071) rfl (by kernel_rfl) rfl rfl rfl rfl rfl (by exact y_k rfl rfl (fun _ => by kernel_rfl)) ?_
          refine a_y_on (i := 17) (v := .bool false) 56 (ticked 41 262143) rfl (by kernel_rfl) rfl rfl rfl rfl rfl (by exact y_mv rfl) ?_
          refine a_y_on (i := 22) (v := .string (cutS item)) 59 (ticked 41 4456447) rfl (by kernel_rfl) rfl rfl rfl rfl rfl (by exact y_mv rfl) ?_
          refine a_y_on (i := 23) (v := .int .i64 ((cutS item).size : Int)) 59 (ticked 41 12845055) rfl (by kernel_rfl) rfl rfl rfl rfl rfl (by exact y_k rfl rfl (fun _ => by kernel_rfl)) ?_
          refine a_held_on (i := 18) 59 (ticked 41 13107199) rfl (by kernel_rfl) rfl rfl rfl rfl rfl (held_pt 1 rfl rfl (held_pt 1 rfl rfl (held_pt 3 rfl rfl (held_pt 3 rfl rfl held_nil)))) (h_ldn (vs := [.int .i64 ((putF max (fewL l) (cutS item)).1), .slice A2 ((putF max (fewL l) (cutS item)).2.1).length c2]) 0 2 rfl rfl rfl Tryd.underlying24 rfl (by kernel_rfl) (by kernel_rfl)) ?_
          refine a_held_on (i := 20) 59 (ticked 41 14155775) rfl (by kernel_rfl) rfl rfl rfl rfl rfl (held_pt 1 rfl rfl (held_pt 1 rfl rfl (held_pt 3 rfl rfl (held_pt 3 rfl rfl held_nil)))) (h_ldn (vs := [.int .i64 max, .slice A1 (fewL l).length c1]) 2 2 rfl rfl rfl Tryd.underlying24 rfl (by kernel_rfl) (by kernel_rfl)) ?_
          refine a_each (rs := [19]) (by kernel_rfl) (.on 59 (ticked 41 14680063) rfl rfl rfl rfl rfl (o_lend [2] [] [1, 2, 3, 4, 5, 6] (Used_ A2 c2 ((putF max (fewL l) (cutS item)).2.1) ((putF max (fewL l) (cutS item)).1) ea ef ee (by first | assumption | exact small_put _ _ _ | exact small_take _ _ | exact small_all _ _ _ | exact small_nil | exact small_right (by assumption) | exact small_one (small_at (by assumption) hx1) | exact small_one (by assumption))) (.cons lend_win .nil) rfl rfl rfl rfl rfl rfl rfl rfl (fun v L' I' hq7 => ?_)) .nil) (List.cons_ne_nil _ _)
          obtain ⟨rfl, rfl, rfl⟩ := hq7
          refine ⟨rfl, ?_⟩
          refine a_and (held_pt 2 rfl rfl (held_pt 2 rfl rfl (held_pt 3 rfl rfl (held_pt 3 rfl rfl held_nil)))) ?_
          refine a_each (rs := [21]) (by kernel_rfl) (.on 59 (ticked 41 16777215) rfl rfl rfl rfl rfl (o_lend [1] [] [1, 2, 3, 4, 5, 6] (Used_ A1 c1 (fewL l) max ea ef ee (by first | assumption | exact small_put _ _ _ | exact small_take _ _ | exact small_all _ _ _ | exact small_nil | exact small_right (by assumption) | exact small_one (small_at (by assumption) hx1) | exact small_one (by assumption))) (.cons lend_ars .nil) rfl rfl rfl rfl rfl rfl rfl rfl (fun v L' I' hq8 => ?_)) .nil) (List.cons_ne_nil _ _)
          obtain ⟨rfl, rfl, rfl⟩ := hq8
          refine ⟨rfl, ?_⟩
          refine a_and (held_pt 2 rfl rfl (held_pt 2 rfl rfl (held_pt 3 rfl rfl (held_pt 3 rfl rfl held_nil)))) ?_
          refine a_y_on (i := 24) (v := .int .i64 ((usedF max (fewL l) : Int) + ((cutS item).size : Int))) 59 (ticked 41 33554431) rfl (by kernel_rfl) rfl rfl rfl rfl rfl (by exact y_add (r := (usedF max (fewL l) : Int) + ((cutS item).size : Int)) rfl rfl rfl (by have := usedF_le max (fewL l); omega)) ?_
          refine a_y_on (i := 25) (v := .int .i64 (((usedF max (fewL l) : Int) + ((cutS item).size : Int)) + 1)) 59 (ticked 41 67108863) rfl (by kernel_rfl) rfl rfl rfl rfl rfl (by exact y_add (r := ((usedF max (fewL l) : Int) + ((cutS item).size : Int)) + 1) rfl rfl rfl (by have := usedF_le max (fewL l); omega)) ?_
          refine e_by ((usedF ((putF max (fewL l) (cutS item)).1) ((putF max (fewL l) (cutS item)).2.1) : Int) = ((usedF max (fewL l) : Int) + ((cutS item).size : Int)) + 1) (fun h32 => ?_) (fun h32 => ?_)
          ·
            refine a_y_on (i := 26) (v := .bool true) 59 (ticked 41 134217727) rfl (by kernel_rfl) rfl rfl rfl rfl rfl (by exact y_b (y_k (v := .bool ((usedF ((putF max (fewL l) (cutS item)).1) ((putF max (fewL l) (cutS item)).2.1) : Int) == (((usedF max (fewL l) : Int) + ((cutS item).size : Int)) + 1))) rfl rfl (fun _ => by kernel_rfl)) (beq_iff_eq.2 h32)) ?_
            refine a_y_on (i := 27) (v := .bool true) 59 (ticked 41 268435455) rfl (by kernel_rfl) rfl rfl rfl rfl rfl (by exact y_mv rfl) ?_
            refine a_held_on (i := 28) 69 (ticked 41 536870911) rfl (by kernel_rfl) rfl rfl rfl rfl rfl (held_pt 2 rfl rfl (held_pt 2 rfl rfl (held_pt 3 rfl rfl (held_pt 3 rfl rfl held_nil)))) (h_ldn (vs := [.int .i64 ((putF max (fewL l) (cutS item)).1), .slice A2 ((putF max (fewL l) (cutS item)).2.1).length c2]) 0 2 rfl rfl rfl Tryd.underlying24 rfl (by kernel_rfl) (by kernel_rfl)) ?_
            refine a_each (rs := [29]) (by kernel_rfl) (.on 69 (ticked 41 1073741823) rfl rfl rfl rfl rfl (o_lend [1] [] [1, 2, 3, 4, 5, 6] (Right_ A2 c2 ((putF max (fewL l) (cutS item)).2.1) ((putF max (fewL l) (cutS item)).1) ea ef ee (by first | assumption | exact small_put _ _ _ | exact small_take _ _ | exact small_all _ _ _ | exact small_nil | exact small_right (by assumption) | exact small_one (small_at (by assumption) hx1) | exact small_one (by assumption))) (.cons lend_win .nil) rfl rfl rfl rfl rfl rfl rfl rfl (fun v L' I' hq9 => ?_)) .nil) (List.cons_ne_nil _ _)
            obtain ⟨hv2, rfl, rfl⟩ := hq9
            refine ⟨rfl, ?_⟩
            refine e_by (right ((putF max (fewL l) (cutS item)).1) ((putF max (fewL l) (cutS item)).2.1)) (fun h33 => ?_) (fun h33 => ?_)
            ·
              obtain rfl : v = .bool true := by rw [hv2, decide_eq_true h33]
              refine a_and (held_pt 2 rfl rfl (held_pt 2 rfl rfl (held_pt 3 rfl rfl (held_pt 3 rfl rfl held_nil)))) ?_
              refine a_y_on (i := 30) (v := .bool true) 59 (ticked 41 2147483647) rfl (by kernel_rfl) rfl rfl rfl rfl rfl (by exact y_pick rfl rfl) ?_
              refine a_y_on (i := 31) (v := .bool true) 59 (ticked 41 4294967295) rfl (by kernel_rfl) rfl rfl rfl rfl rfl (by exact y_mv rfl) ?_
              refine a_y_on (i := 32) (v := .pointer (some ⟨b2, 0, none⟩)) 73 (ticked 41 8589934591) rfl (by kernel_rfl) rfl rfl rfl rfl rfl (by exact y_k rfl rfl (fun _ => by kernel_rfl)) ?_
              refine a_y_on (i := 34) (v := .pointer (some ⟨b1, 0, none⟩)) 73 (ticked 41 25769803775) rfl (by kernel_rfl) rfl rfl rfl rfl rfl (by exact y_k rfl rfl (fun _ => by kernel_rfl)) ?_
              refine a_held_on (i := 33) 73 (ticked 41 34359738367) rfl (by kernel_rfl) rfl rfl rfl rfl rfl (held_pt 2 rfl rfl (held_pt 2 rfl rfl (held_pt 3 rfl rfl (held_pt 3 rfl rfl held_nil)))) (h_ld 0 rfl rfl Tryd.underlying3 rfl) ?_
              refine a_held_on (i := 35) 73 (ticked 41 68719476735) rfl (by kernel_rfl) rfl rfl rfl rfl rfl (held_pt 2 rfl rfl (held_pt 2 rfl rfl (held_pt 3 rfl rfl (held_pt 3 rfl rfl held_nil)))) (h_ld 2 rfl rfl Tryd.underlying3 rfl) ?_
              refine e_by ((putF max (fewL l) (cutS item)).1 = max) (fun h34 => ?_) (fun h34 => ?_)
              ·
                refine a_y_on (i := 36) (v := .bool true) 73 (ticked 41 137438953471) rfl (by kernel_rfl) rfl rfl rfl rfl rfl (by exact y_b (y_k (v := .bool (((putF max (fewL l) (cutS item)).1) == max)) rfl rfl (fun _ => by kernel_rfl)) (beq_iff_eq.2 h34)) ?_
                refine a_y_on (i := 37) (v := .bool true) 59 (ticked 41 274877906943) rfl (by kernel_rfl) rfl rfl rfl rfl rfl (by exact y_pick rfl rfl) ?_
                refine a_y_on (i := 38) (v := .bool true) 56 (ticked 41 549755813887) rfl (by kernel_rfl) rfl rfl rfl rfl rfl (by exact y_pick rfl rfl) ?_
                refine a_y (i := 39) (v := .bool true) (ticked 41 1099511627775) rfl (by kernel_rfl) rfl rfl rfl (by exact y_pick rfl rfl) ?_
                refine a_y (i := 40) (v := .bool true) (ticked 41 2199023255551) rfl (by kernel_rfl) rfl rfl rfl (by exact y_as rfl) ?_
                refine a_done (by kernel_rfl) ?_
                refine q_then ?_
                refine c_ret ?_
                refine c_fin (I' := []) [] [0, 1, 2, 3, 4, 5, 6] rfl (.tmp rfl .nil) rfl rfl rfl ?_
                exact ⟨rfl, rfl, rfl⟩
              ·
                refine a_y_on (i := 36) (v := .bool false) 73 (ticked 41 137438953471) rfl (by kernel_rfl) rfl rfl rfl rfl rfl (by exact y_b (y_k (v := .bool (((putF max (fewL l) (cutS item)).1) == max)) rfl rfl (fun _ => by kernel_rfl)) (beq_eq_false_iff_ne.2 h34)) ?_
                refine a_y_on (i := 37) (v := .bool false) 59 (ticked 41 274877906943) rfl (by kernel_rfl) rfl rfl rfl rfl rfl (by exact y_pick rfl rfl) ?_
                refine a_y_on (i := 38) (v := .bool false) 56 (ticked 41 549755813887) rfl (by kernel_rfl) rfl rfl rfl rfl rfl (by exact y_pick rfl rfl) ?_
                refine a_y (i := 39) (v := .bool false) (ticked 41 1099511627775) rfl (by kernel_rfl) rfl rfl rfl (by exact y_pick rfl rfl) ?_
                refine a_y (i := 40) (v := .bool false) (ticked 41 2199023255551) rfl (by kernel_rfl) rfl rfl rfl (by exact y_as rfl) ?_
                refine a_done (by kernel_rfl) ?_
                refine q_then ?_
                refine c_ret ?_
                refine c_fin (I' := []) [] [0, 1, 2, 3, 4, 5, 6] rfl (.tmp rfl .nil) rfl rfl rfl ?_
                exact ⟨by exfalso; rcases putF_cases max (fewL l) (cutS item) with ⟨q1, q2⟩ | ⟨q1, q2, q3⟩ | ⟨q1, q2, q3, q4, q5, q6⟩ | ⟨q1, q2, q3, q4⟩ <;> (simp_all) <;> omega, rfl, rfl⟩
            ·
              obtain rfl : v = .bool false := by rw [hv2, decide_eq_false h33]
              refine a_and (held_pt 2 rfl rfl (held_pt 2 rfl rfl (held_pt 3 rfl rfl (held_pt 3 rfl rfl held_nil)))) ?_
              refine a_y_on (i := 30) (v := .bool false) 59 (ticked 41 2147483647) rfl (by kernel_rfl) rfl rfl rfl rfl rfl (by exact y_pick rfl rfl) ?_
              refine a_y_on (i := 31) (v := .bool false) 59 (ticked 41 4294967295) rfl (by kernel_rfl) rfl rfl rfl rfl rfl (by exact y_mv rfl) ?_
              refine a_off (i := 32) 73 (ticked 41 8589934591) rfl (by kernel_rfl) rfl rfl rfl rfl rfl rfl ?_
              refine a_off (i := 33) 73 (ticked 41 17179869183) rfl (by kernel_rfl) rfl rfl rfl rfl rfl rfl ?_
              refine a_off (i := 34) 73 (ticked 41 34359738367) rfl (by kernel_rfl) rfl rfl rfl rfl rfl rfl ?_
              refine a_off (i := 35) 73 (ticked 41 68719476735) rfl (by kernel_rfl) rfl rfl rfl rfl rfl rfl ?_
              refine a_off (i := 36) 73 (ticked 41 137438953471) rfl (by kernel_rfl) rfl rfl rfl rfl rfl rfl ?_
              refine a_y_on (i := 37) (v := .bool false) 59 (ticked 41 274877906943) rfl (by kernel_rfl) rfl rfl rfl rfl rfl (by exact y_pick rfl rfl) ?_
              refine a_y_on (i := 38) (v := .bool false) 56 (ticked 41 549755813887) rfl (by kernel_rfl) rfl rfl rfl rfl rfl (by exact y_pick rfl rfl) ?_
              refine a_y (i := 39) (v := .bool false) (ticked 41 1099511627775) rfl (by kernel_rfl) rfl rfl rfl (by exact y_pick rfl rfl) ?_
              refine a_y (i := 40) (v := .bool false) (ticked 41 2199023255551) rfl (by kernel_rfl) rfl rfl rfl (by exact y_as rfl) ?_
              refine a_done (by kernel_rfl) ?_
              refine q_then ?_
              refine c_ret ?_
              refine c_fin (I' := []) [] [0, 1, 2, 3, 4, 5, 6] rfl (.tmp rfl .nil) rfl rfl rfl ?_
              exact ⟨by exfalso; rcases putF_cases max (fewL l) (cutS item) with ⟨q1, q2⟩ | ⟨q1, q2, q3⟩ | ⟨q1, q2, q3, q4, q5, q6⟩ | ⟨q1, q2, q3, q4⟩ <;> (simp_all) <;> omega, rfl, rfl⟩
          ·
            refine a_y_on (i := 26) (v := .bool false) 59 (ticked 41 134217727) rfl (by kernel_rfl) rfl rfl rfl rfl rfl (by exact y_b (y_k (v := .bool ((usedF ((putF max (fewL l) (cutS item)).1) ((putF max (fewL l) (cutS item)).2.1) : Int) == (((usedF max (fewL l) : Int) + ((cutS item).size : Int)) + 1))) rfl rfl (fun _ => by kernel_rfl)) (beq_eq_false_iff_ne.2 h32)) ?_
            refine a_y_on (i := 27) (v := .bool false) 59 (ticked 41 268435455) rfl (by kernel_rfl) rfl rfl rfl rfl rfl (by exact y_mv rfl) ?_
            refine a_off (i := 28) 69 (ticked 41 536870911) rfl (by kernel_rfl) rfl rfl rfl rfl rfl rfl ?_
            refine a_off (i := 29) 69 (ticked 41 1073741823) rfl (by kernel_rfl) rfl rfl rfl rfl rfl rfl ?_
            refine a_y_on (i := 30) (v := .bool false) 59 (ticked 41 2147483647) rfl (by kernel_rfl) rfl rfl rfl rfl rfl (by exact y_pick rfl rfl) ?_
            refine a_y_on (i := 31) (v := .bool false) 59 (ticked 41 4294967295) rfl (by kernel_rfl) rfl rfl rfl rfl rfl (by exact y_mv rfl) ?_
            refine a_off (i := 32) 73 (ticked 41 8589934591) rfl (by kernel_rfl) rfl rfl rfl rfl rfl rfl ?_
            refine a_off (i := 33) 73 (ticked 41 17179869183) rfl (by kernel_rfl) rfl rfl rfl rfl rfl rfl ?_
            refine a_off (i := 34) 73 (ticked 41 34359738367) rfl (by kernel_rfl) rfl rfl rfl rfl rfl rfl ?_
            refine a_off (i := 35) 73 (ticked 41 68719476735) rfl (by kernel_rfl) rfl rfl rfl rfl rfl rfl ?_
            refine a_off (i := 36) 73 (ticked 41 137438953471) rfl (by kernel_rfl) rfl rfl rfl rfl rfl rfl ?_
            refine a_y_on (i := 37) (v := .bool false) 59 (ticked 41 274877906943) rfl (by kernel_rfl) rfl rfl rfl rfl rfl (by exact y_pick rfl rfl) ?_
            refine a_y_on (i := 38) (v := .bool false) 56 (ticked 41 549755813887) rfl (by kernel_rfl) rfl rfl rfl rfl rfl (by exact y_pick rfl rfl) ?_
            refine a_y (i := 39) (v := .bool false) (ticked 41 1099511627775) rfl (by kernel_rfl) rfl rfl rfl (by exact y_pick rfl rfl) ?_
            refine a_y (i := 40) (v := .bool false) (ticked 41 2199023255551) rfl (by kernel_rfl) rfl rfl rfl (by exact y_as rfl) ?_
            refine a_done (by kernel_rfl) ?_
            refine q_then ?_
            refine c_ret ?_
            refine c_fin (I' := []) [] [0, 1, 2, 3, 4, 5, 6] rfl (.tmp rfl .nil) rfl rfl rfl ?_
            exact ⟨by exfalso; rcases putF_cases max (fewL l) (cutS item) with ⟨q1, q2⟩ | ⟨q1, q2, q3⟩ | ⟨q1, q2, q3, q4, q5, q6⟩ | ⟨q1, q2, q3, q4⟩ <;> (simp_all) <;> omega, rfl, rfl⟩
        ·
          refine a_y_on (i := 3) (v := .bool false) 43 (ticked 41 15) rfl (by kernel_rfl) rfl rfl rfl rfl rfl (by exact y_b (y_k (v := .bool (((putF max (fewL l) (cutS item)).2.2) == 0)) rfl rfl (fun _ => by kernel_rfl)) (beq_eq_false_iff_ne.2 h31)) ?_
          refine a_y_on (i := 4) (v := .bool true) 43 (ticked 41 31) rfl (by kernel_rfl) rfl rfl rfl rfl rfl (by exact y_mv rfl) ?_
          refine a_y_on (i := 5) (v := .bool false) 43 (ticked 41 63) rfl (by kernel_rfl) rfl rfl rfl rfl rfl (by exact y_k rfl rfl (fun _ => by kernel_rfl)) ?_
          refine a_y (i := 6) (v := .bool false) (ticked 41 127) rfl (by kernel_rfl) rfl rfl rfl (by exact y_pick rfl rfl) ?_
          refine a_y (i := 7) (v := .bool false) (ticked 41 255) rfl (by kernel_rfl) rfl rfl rfl (by exact y_mv rfl) ?_
          refine a_off (i := 8) 49 (ticked 41 511) rfl (by kernel_rfl) rfl rfl rfl rfl rfl rfl ?_
          refine a_off (i := 9) 49 (ticked 41 1023) rfl (by kernel_rfl) rfl rfl rfl rfl rfl rfl ?_
          refine a_offu (i := 10) 51 (ticked 41 2047) rfl (by kernel_rfl) rfl rfl rfl rfl rfl ?_
          refine a_offu (i := 11) 51 (ticked 41 4095) rfl (by kernel_rfl) rfl rfl rfl rfl rfl ?_
          refine a_off (i := 12) 49 (ticked 41 8191) rfl (by kernel_rfl) rfl rfl rfl rfl rfl rfl ?_
          refine a_y (i := 13) (v := .bool false) (ticked 41 16383) rfl (by kernel_rfl) rfl rfl rfl (by exact y_pick rfl rfl) ?_
          refine a_y (i := 14) (v := .bool false) (ticked 41 32767) rfl (by kernel_rfl) rfl rfl rfl (by exact y_mv rfl) ?_
          refine a_off (i := 15) 56 (ticked 41 65535) rfl (by kernel_rfl) rfl rfl rfl rfl rfl rfl ?_
          refine a_off (i := 16) 56 (ticked 41 131071) rfl (by kernel_rfl) rfl rfl rfl rfl rfl rfl ?_
          refine a_off (i := 17) 56 (ticked 41 262143) rfl (by kernel_rfl) rfl rfl rfl rfl rfl rfl ?_
          refine a_offu (i := 18) 59 (ticked 41 524287) rfl (by kernel_rfl) rfl rfl rfl rfl rfl ?_
          refine a_offu (i := 19) 59 (ticked 41 1048575) rfl (by kernel_rfl) rfl rfl rfl rfl rfl ?_
          refine a_offu (i := 20) 59 (ticked 41 2097151) rfl (by kernel_rfl) rfl rfl rfl rfl rfl ?_
          refine a_offu (i := 21) 59 (ticked 41 4194303) rfl (by kernel_rfl) rfl rfl rfl rfl rfl ?_
          refine a_offu (i := 22) 59 (ticked 41 8388607) rfl (by kernel_rfl) rfl rfl rfl rfl rfl ?_
          refine a_offu (i := 23) 59 (ticked 41 16777215) rfl (by kernel_rfl) rfl rfl rfl rfl rfl ?_
          refine a_offu (i := 24) 59 (ticked 41 33554431) rfl (by kernel_rfl) rfl rfl rfl rfl rfl ?_
          refine a_offu (i := 25) 59 (ticked 41 67108863) rfl (by kernel_rfl) rfl rfl rfl rfl rfl ?_
          refine a_offu (i := 26) 59 (ticked 41 134217727) rfl (by kernel_rfl) rfl rfl rfl rfl rfl ?_
          refine a_offu (i := 27) 59 (ticked 41 268435455) rfl (by kernel_rfl) rfl rfl rfl rfl rfl ?_
          refine a_offu (i := 28) 69 (ticked 41 536870911) rfl (by kernel_rfl) rfl rfl rfl rfl rfl ?_
          refine a_offu (i := 29) 69 (ticked 41 1073741823) rfl (by kernel_rfl) rfl rfl rfl rfl rfl ?_
          refine a_offu (i := 30) 59 (ticked 41 2147483647) rfl (by kernel_rfl) rfl rfl rfl rfl rfl ?_
          refine a_offu (i := 31) 59 (ticked 41 4294967295) rfl (by kernel_rfl) rfl rfl rfl rfl rfl ?_
          refine a_offu (i := 32) 73 (ticked 41 8589934591) rfl (by kernel_rfl) rfl rfl rfl rfl rfl ?_
          refine a_offu (i := 33) 73 (ticked 41 17179869183) rfl (by kernel_rfl) rfl rfl rfl rfl rfl ?_
          refine a_offu (i := 34) 73 (ticked 41 34359738367) rfl (by kernel_rfl) rfl rfl rfl rfl rfl ?_
          refine a_offu (i := 35) 73 (ticked 41 68719476735) rfl (by kernel_rfl) rfl rfl rfl rfl rfl ?_
          refine a_offu (i := 36) 73 (ticked 41 137438953471) rfl (by kernel_rfl) rfl rfl rfl rfl rfl ?_
          refine a_offu (i := 37) 59 (ticked 41 274877906943) rfl (by kernel_rfl) rfl rfl rfl rfl rfl ?_
          refine a_off (i := 38) 56 (ticked 41 549755813887) rfl (by kernel_rfl) rfl rfl rfl rfl rfl rfl ?_
          refine a_y (i := 39) (v := .bool false) (ticked 41 1099511627775) rfl (by kernel_rfl) rfl rfl rfl (by exact y_pick rfl rfl) ?_
          refine a_y (i := 40) (v := .bool false) (ticked 41 2199023255551) rfl (by kernel_rfl) rfl rfl rfl (by exact y_as rfl) ?_
          refine a_done (by kernel_rfl) ?_
          refine q_then ?_
          refine c_ret ?_
          refine c_fin (I' := []) [] [0, 1, 2, 3, 4, 5, 6] rfl (.tmp rfl .nil) rfl rfl rfl ?_
          exact ⟨by exfalso; rcases putF_cases max (fewL l) (cutS item) with ⟨q1, q2⟩ | ⟨q1, q2, q3⟩ | ⟨q1, q2, q3, q4, q5, q6⟩ | ⟨q1, q2, q3, q4⟩ <;> (simp_all) <;> omega, rfl, rfl⟩
      ·
        refine a_y (i := 8) (v := .bool false) (ticked 10 511) rfl (by kernel_rfl) rfl rfl rfl (by exact y_f (y_k (v := .bool (decide (((usedF max (fewL l) : Int) + ((cutS item).size : Int)) + 1 ≤ max))) rfl rfl (fun _ => by kernel_rfl)) h30) ?_
        refine a_y (i := 9) (v := .bool false) (ticked 10 1023) rfl (by kernel_rfl) rfl rfl rfl (by exact y_as rfl) ?_
        refine a_done (by kernel_rfl) ?_
        refine q_then ?_
        refine c_seq ?_
        refine c_draw (l := ticked 41 0) [] [] (by kernel_rfl) rfl rfl ?_
        refine a_y (i := 0) (v := .bool true) (ticked 41 1) rfl (by kernel_rfl) rfl rfl rfl (by exact y_mv rfl) ?_
        refine a_y (i := 1) (v := .bool true) (ticked 41 3) rfl (by kernel_rfl) rfl rfl rfl (by exact y_mv rfl) ?_
        refine a_y_on (i := 2) (v := .int .i64 ((putF max (fewL l) (cutS item)).2.2)) 43 (ticked 41 7) rfl (by kernel_rfl) rfl rfl rfl rfl rfl (by exact y_mv rfl) ?_
        refine e_by ((putF max (fewL l) (cutS item)).2.2 = 0) (fun h35 => ?_) (fun h35 => ?_)
        ·
          refine a_y_on (i := 3) (v := .bool true) 43 (ticked 41 15) rfl (by kernel_rfl) rfl rfl rfl rfl rfl (by exact y_b (y_k (v := .bool (((putF max (fewL l) (cutS item)).2.2) == 0)) rfl rfl (fun _ => by kernel_rfl)) (beq_iff_eq.2 h35)) ?_
          refine a_y_on (i := 4) (v := .bool false) 43 (ticked 41 31) rfl (by kernel_rfl) rfl rfl rfl rfl rfl (by exact y_mv rfl) ?_
          refine a_y_on (i := 5) (v := .bool false) 43 (ticked 41 63) rfl (by kernel_rfl) rfl rfl rfl rfl rfl (by exact y_k rfl rfl (fun _ => by kernel_rfl)) ?_
          refine a_y (i := 6) (v := .bool false) (ticked 41 127) rfl (by kernel_rfl) rfl rfl rfl (by exact y_pick rfl rfl) ?_
          refine a_y (i := 7) (v := .bool false) (ticked 41 255) rfl (by kernel_rfl) rfl rfl rfl (by exact y_mv rfl) ?_
          refine a_off (i := 8) 49 (ticked 41 511) rfl (by kernel_rfl) rfl rfl rfl rfl rfl rfl ?_
          refine a_off (i := 9) 49 (ticked 41 1023) rfl (by kernel_rfl) rfl rfl rfl rfl rfl rfl ?_
          refine a_offu (i := 10) 51 (ticked 41 2047) rfl (by kernel_rfl) rfl rfl rfl rfl rfl ?_
          refine a_offu (i := 11) 51 (ticked 41 4095) rfl (by kernel_rfl) rfl rfl rfl rfl rfl ?_
          refine a_off (i := 12) 49 (ticked 41 8191) rfl (by kernel_rfl) rfl rfl rfl rfl rfl rfl ?_
          refine a_y (i := 13) (v := .bool false) (ticked 41 16383) rfl (by kernel_rfl) rfl rfl rfl (by exact y_pick rfl rfl) ?_
          refine a_y (i := 14) (v := .bool false) (ticked 41 32767) rfl (by kernel_rfl) rfl rfl rfl (by exact y_mv rfl) ?_
          refine a_off (i := 15) 56 (ticked 41 65535) rfl (by kernel_rfl) rfl rfl rfl rfl rfl rfl ?_
          refine a_off (i := 16) 56 (ticked 41 131071) rfl (by kernel_rfl) rfl rfl rfl rfl rfl rfl ?_
          refine a_off (i := 17) 56 (ticked 41 262143) rfl (by kernel_rfl) rfl rfl rfl rfl rfl rfl ?_
          refine a_offu (i := 18) 59 (ticked 41 524287) rfl (by kernel_rfl) rfl rfl rfl rfl rfl ?_
          refine a_offu (i := 19) 59 (ticked 41 1048575) rfl (by kernel_rfl) rfl rfl rfl rfl rfl ?_
          refine a_offu (i := 20) 59 (ticked 41 2097151) rfl (by kernel_rfl) rfl rfl rfl rfl rfl ?_
          refine a_offu (i := 21) 59 (ticked 41 4194303) rfl (by kernel_rfl) rfl rfl rfl rfl rfl ?_
          refine a_offu (i := 22) 59 (ticked 41 8388607) rfl (by kernel_rfl) rfl rfl rfl rfl rfl ?_
          refine a_offu (i := 23) 59 (ticked 41 16777215) rfl (by kernel_rfl) rfl rfl rfl rfl rfl ?_
          refine a_offu (i := 24) 59 (ticked 41 33554431) rfl (by kernel_rfl) rfl rfl rfl rfl rfl ?_
          refine a_offu (i := 25) 59 (ticked 41 67108863) rfl (by kernel_rfl) rfl rfl rfl rfl rfl ?_
          refine a_offu (i := 26) 59 (ticked 41 134217727) rfl (by kernel_rfl) rfl rfl rfl rfl rfl ?_
          refine a_offu (i := 27) 59 (ticked 41 268435455) rfl (by kernel_rfl) rfl rfl rfl rfl rfl ?_
          refine a_offu (i := 28) 69 (ticked 41 536870911) rfl (by kernel_rfl) rfl rfl rfl rfl rfl ?_
          refine a_offu (i := 29) 69 (ticked 41 1073741823) rfl (by kernel_rfl) rfl rfl rfl rfl rfl ?_
          refine a_offu (i := 30) 59 (ticked 41 2147483647) rfl (by kernel_rfl) rfl rfl rfl rfl rfl ?_
          refine a_offu (i := 31) 59 (ticked 41 4294967295) rfl (by kernel_rfl) rfl rfl rfl rfl rfl ?_
          refine a_offu (i := 32) 73 (ticked 41 8589934591) rfl (by kernel_rfl) rfl rfl rfl rfl rfl ?_
          refine a_offu (i := 33) 73 (ticked 41 17179869183) rfl (by kernel_rfl) rfl rfl rfl rfl rfl ?_
          refine a_offu (i := 34) 73 (ticked 41 34359738367) rfl (by kernel_rfl) rfl rfl rfl rfl rfl ?_
          refine a_offu (i := 35) 73 (ticked 41 68719476735) rfl (by kernel_rfl) rfl rfl rfl rfl rfl ?_
          refine a_offu (i := 36) 73 (ticked 41 137438953471) rfl (by kernel_rfl) rfl rfl rfl rfl rfl ?_
          refine a_offu (i := 37) 59 (ticked 41 274877906943) rfl (by kernel_rfl) rfl rfl rfl rfl rfl ?_
          refine a_off (i := 38) 56 (ticked 41 549755813887) rfl (by kernel_rfl) rfl rfl rfl rfl rfl rfl ?_
          refine a_y (i := 39) (v := .bool false) (ticked 41 1099511627775) rfl (by kernel_rfl) rfl rfl rfl (by exact y_pick rfl rfl) ?_
          refine a_y (i := 40) (v := .bool false) (ticked 41 2199023255551) rfl (by kernel_rfl) rfl rfl rfl (by exact y_as rfl) ?_
          refine a_done (by kernel_rfl) ?_
          refine q_then ?_
          refine c_ret ?_
          refine c_fin (I' := []) [] [0, 1, 2, 3, 4, 5, 6] rfl (.tmp rfl .nil) rfl rfl rfl ?_
          exact ⟨by exfalso; rcases putF_cases max (fewL l) (cutS item) with ⟨q1, q2⟩ | ⟨q1, q2, q3⟩ | ⟨q1, q2, q3, q4, q5, q6⟩ | ⟨q1, q2, q3, q4⟩ <;> (simp_all) <;> omega, rfl, rfl⟩
        ·
          refine a_y_on (i := 3) (v := .bool false) 43 (ticked 41 15) rfl (by kernel_rfl) rfl rfl rfl rfl rfl (by exact y_b (y_k (v := .bool (((putF max (fewL l) (cutS item)).2.2) == 0)) rfl rfl (fun _ => by kernel_rfl)) (beq_eq_false_iff_ne.2 h35)) ?_
          refine a_y_on (i := 4) (v := .bool false) 43 (ticked 41 31) rfl (by kernel_rfl) rfl rfl rfl rfl rfl (by exact y_mv rfl) ?_
          refine a_y_on (i := 5) (v := .bool true) 43 (ticked 41 63) rfl (by kernel_rfl) rfl rfl rfl rfl rfl (by exact y_k rfl rfl (fun _ => by kernel_rfl)) ?_
          refine a_y (i := 6) (v := .bool true) (ticked 41 127) rfl (by kernel_rfl) rfl rfl rfl (by exact y_pick rfl rfl) ?_
          refine a_y (i := 7) (v := .bool true) (ticked 41 255) rfl (by kernel_rfl) rfl rfl rfl (by exact y_mv rfl) ?_
          refine a_y_on (i := 8) (v := .bool false) 49 (ticked 41 511) rfl (by kernel_rfl) rfl rfl rfl rfl rfl (by exact y_mv rfl) ?_
          refine a_y_on (i := 9) (v := .bool false) 49 (ticked 41 1023) rfl (by kernel_rfl) rfl rfl rfl rfl rfl (by exact y_mv rfl) ?_
          refine a_y_on (i := 10) (v := .int .i64 ((putF max (fewL l) (cutS item)).2.2)) 51 (ticked 41 2047) rfl (by kernel_rfl) rfl rfl rfl rfl rfl (by exact y_mv rfl) ?_
          refine e_by ((putF max (fewL l) (cutS item)).2.2 = 80) (fun h36 => ?_) (fun h36 => ?_)
          ·
            refine a_y_on (i := 11) (v := .bool true) 51 (ticked 41 4095) rfl (by kernel_rfl) rfl rfl rfl rfl rfl (by exact y_b (y_k (v := .bool (((putF max (fewL l) (cutS item)).2.2) == 80)) rfl rfl (fun _ => by kernel_rfl)) (beq_iff_eq.2 h36)) ?_
            refine a_y_on (i := 12) (v := .bool true) 49 (ticked 41 8191) rfl (by kernel_rfl) rfl rfl rfl rfl rfl (by exact y_pick rfl rfl) ?_
            refine a_y (i := 13) (v := .bool true) (ticked 41 16383) rfl (by kernel_rfl) rfl rfl rfl (by exact y_pick rfl rfl) ?_
            refine a_y (i := 14) (v := .bool true) (ticked 41 32767) rfl (by kernel_rfl) rfl rfl rfl (by exact y_mv rfl) ?_
            refine a_y_on (i := 15) (v := .bool false) 56 (ticked 41 65535) rfl (by kernel_rfl) rfl rfl rfl rfl rfl (by exact y_mv rfl) ?_
            refine a_y_on (i := 16) (v := .bool true) 56 (ticked 41 131071) rfl (by kernel_rfl) rfl rfl rfl rfl rfl (by exact y_k rfl rfl (fun _ => by kernel_rfl)) ?_
            refine a_y_on (i := 17) (v := .bool true) 56 (ticked 41 262143) rfl (by kernel_rfl) rfl rfl rfl rfl rfl (by exact y_mv rfl) ?_
            refine a_off (i := 18) 59 (ticked 41 524287) rfl (by kernel_rfl) rfl rfl rfl rfl rfl rfl ?_
            refine a_off (i := 19) 59 (ticked 41 1048575) rfl (by kernel_rfl) rfl rfl rfl rfl rfl rfl ?_
            refine a_off (i := 20) 59 (ticked 41 2097151) rfl (by kernel_rfl) rfl rfl rfl rfl rfl rfl ?_
            refine a_off (i := 21) 59 (ticked 41 4194303) rfl (by kernel_rfl) rfl rfl rfl rfl rfl rfl ?_
            refine a_off (i := 22) 59 (ticked 41 8388607) rfl (by kernel_rfl) rfl rfl rfl rfl rfl rfl ?_
            refine a_off (i := 23) 59 (ticked 41 16777215) rfl (by kernel_rfl) rfl rfl rfl rfl rfl rfl ?_
            refine a_off (i := 24) 59 (ticked 41 33554431) rfl (by kernel_rfl) rfl rfl rfl rfl rfl rfl ?_
            refine a_off (i := 25) 59 (ticked 41 67108863) rfl (by kernel_rfl) rfl rfl rfl rfl rfl rfl ?_
            refine a_off (i := 26) 59 (ticked 41 134217727) rfl (by kernel_rfl) rfl rfl rfl rfl rfl rfl ?_
            refine a_off (i := 27) 59 (ticked 41 268435455) rfl (by kernel_rfl) rfl rfl rfl rfl rfl rfl ?_
            refine a_offu (i := 28) 69 (ticked 41 536870911) rfl (by kernel_rfl) rfl rfl rfl rfl rfl ?_
            refine a_offu (i := 29) 69 (ticked 41 1073741823) rfl (by kernel_rfl) rfl rfl rfl rfl rfl ?_
            refine a_off (i := 30) 59 (ticked 41 2147483647) rfl (by kernel_rfl) rfl rfl rfl rfl rfl rfl ?_
            refine a_off (i := 31) 59 (ticked 41 4294967295) rfl (by kernel_rfl) rfl rfl rfl rfl rfl rfl ?_
            refine a_offu (i := 32) 73 (ticked 41 8589934591) rfl (by kernel_rfl) rfl rfl rfl rfl rfl ?_
            refine a_offu (i := 33) 73 (ticked 41 17179869183) rfl (by kernel_rfl) rfl rfl rfl rfl rfl ?_
            refine a_offu (i := 34) 73 (ticked 41 34359738367) rfl (by kernel_rfl) rfl rfl rfl rfl rfl ?_
            refine a_offu (i := 35) 73 (ticked 41 68719476735) rfl (by kernel_rfl) rfl rfl rfl rfl rfl ?_
            refine a_offu (i := 36) 73 (ticked 41 137438953471) rfl (by kernel_rfl) rfl rfl rfl rfl rfl ?_
            refine a_off (i := 37) 59 (ticked 41 274877906943) rfl (by kernel_rfl) rfl rfl rfl rfl rfl rfl ?_
            refine a_y_on (i := 38) (v := .bool true) 56 (ticked 41 549755813887) rfl (by kernel_rfl) rfl rfl rfl rfl rfl (by exact y_pick rfl rfl) ?_
            refine a_y (i := 39) (v := .bool true) (ticked 41 1099511627775) rfl (by kernel_rfl) rfl rfl rfl (by exact y_pick rfl rfl) ?_
            refine a_y (i := 40) (v := .bool true) (ticked 41 2199023255551) rfl (by kernel_rfl) rfl rfl rfl (by exact y_as rfl) ?_
            refine a_done (by kernel_rfl) ?_
            refine q_then ?_
            refine c_ret ?_
            refine c_fin (I' := []) [] [0, 1, 2, 3, 4, 5, 6] rfl (.tmp rfl .nil) rfl rfl rfl ?_
            exact ⟨rfl, rfl, rfl⟩
          ·
            refine a_y_on (i := 11) (v := .bool false) 51 (ticked 41 4095) rfl (by kernel_rfl) rfl rfl rfl rfl rfl (by exact y_b (y_k (v := .bool (((putF max (fewL l) (cutS item)).2.2) == 80)) rfl rfl (fun _ => by kernel_rfl)) (beq_eq_false_iff_ne.2 h36)) ?_
            refine a_y_on (i := 12) (v := .bool false) 49 (ticked 41 8191) rfl (by kernel_rfl) rfl rfl rfl rfl rfl (by exact y_pick rfl rfl) ?_
            refine a_y (i := 13) (v := .bool false) (ticked 41 16383) rfl (by kernel_rfl) rfl rfl rfl (by exact y_pick rfl rfl) ?_
            refine a_y (i := 14) (v := .bool false) (ticked 41 32767) rfl (by kernel_rfl) rfl rfl rfl (by exact y_mv rfl) ?_
            refine a_off (i := 15) 56 (ticked 41 65535) rfl (by kernel_rfl) rfl rfl rfl rfl rfl rfl ?_
            refine a_off (i := 16) 56 (ticked 41 131071) rfl (by kernel_rfl) rfl rfl rfl rfl rfl rfl ?_
            refine a_off (i := 17) 56 (ticked 41 262143) rfl (by kernel_rfl) rfl rfl rfl rfl rfl rfl ?_
            refine a_offu (i := 18) 59 (ticked 41 524287) rfl (by kernel_rfl) rfl rfl rfl rfl rfl ?_
            refine a_offu (i := 19) 59 (ticked 41 1048575) rfl (by kernel_rfl) rfl rfl rfl rfl rfl ?_
            refine a_offu (i := 20) 59 (ticked 41 2097151) rfl (by kernel_rfl) rfl rfl rfl rfl rfl ?_
            refine a_offu (i := 21) 59 (ticked 41 4194303) rfl (by kernel_rfl) rfl rfl rfl rfl rfl ?_
            refine a_offu (i := 22) 59 (ticked 41 8388607) rfl (by kernel_rfl) rfl rfl rfl rfl rfl ?_
            refine a_offu (i := 23) 59 (ticked 41 16777215) rfl (by kernel_rfl) rfl rfl rfl rfl rfl ?_
            refine a_offu (i := 24) 59 (ticked 41 33554431) rfl (by kernel_rfl) rfl rfl rfl rfl rfl ?_
            refine a_offu (i := 25) 59 (ticked 41 67108863) rfl (by kernel_rfl) rfl rfl rfl rfl rfl ?_
            refine a_offu (i := 26) 59 (ticked 41 134217727) rfl (by kernel_rfl) rfl rfl rfl rfl rfl ?_
            refine a_offu (i := 27) 59 (ticked 41 268435455) rfl (by kernel_rfl) rfl rfl rfl rfl rfl ?_
            refine a_offu (i := 28) 69 (ticked 41 536870911) rfl (by kernel_rfl) rfl rfl rfl rfl rfl ?_
            refine a_offu (i := 29) 69 (ticked 41 1073741823) rfl (by kernel_rfl) rfl rfl rfl rfl rfl ?_
            refine a_offu (i := 30) 59 (ticked 41 2147483647) rfl (by kernel_rfl) rfl rfl rfl rfl rfl ?_
            refine a_offu (i := 31) 59 (ticked 41 4294967295) rfl (by kernel_rfl) rfl rfl rfl rfl rfl ?_
            refine a_offu (i := 32) 73 (ticked 41 8589934591) rfl (by kernel_rfl) rfl rfl rfl rfl rfl ?_
            refine a_offu (i := 33) 73 (ticked 41 17179869183) rfl (by kernel_rfl) rfl rfl rfl rfl rfl ?_
            refine a_offu (i := 34) 73 (ticked 41 34359738367) rfl (by kernel_rfl) rfl rfl rfl rfl rfl ?_
            refine a_offu (i := 35) 73 (ticked 41 68719476735) rfl (by kernel_rfl) rfl rfl rfl rfl rfl ?_
            refine a_offu (i := 36) 73 (ticked 41 137438953471) rfl (by kernel_rfl) rfl rfl rfl rfl rfl ?_
            refine a_offu (i := 37) 59 (ticked 41 274877906943) rfl (by kernel_rfl) rfl rfl rfl rfl rfl ?_
            refine a_off (i := 38) 56 (ticked 41 549755813887) rfl (by kernel_rfl) rfl rfl rfl rfl rfl rfl ?_
            refine a_y (i := 39) (v := .bool false) (ticked 41 1099511627775) rfl (by kernel_rfl) rfl rfl rfl (by exact y_pick rfl rfl) ?_
            refine a_y (i := 40) (v := .bool false) (ticked 41 2199023255551) rfl (by kernel_rfl) rfl rfl rfl (by exact y_as rfl) ?_
            refine a_done (by kernel_rfl) ?_
            refine q_then ?_
            refine c_ret ?_
            refine c_fin (I' := []) [] [0, 1, 2, 3, 4, 5, 6] rfl (.tmp rfl .nil) rfl rfl rfl ?_
            exact ⟨by exfalso; rcases putF_cases max (fewL l) (cutS item) with ⟨q1, q2⟩ | ⟨q1, q2, q3⟩ | ⟨q1, q2, q3, q4, q5, q6⟩ | ⟨q1, q2, q3, q4⟩ <;> (simp_all) <;> omega, rfl, rfl⟩
  ·
    obtain rfl : v = .bool false := by rw [hv1, decide_eq_false h27]
    refine st rfl (o_y (v := .bool true) (y_k rfl rfl (fun _ => by kernel_rfl)) rfl rfl rfl ?_)
    refine st rfl (o_y (v := .bool true) (y_mv rfl) rfl rfl rfl ?_)
    refine st_off 23 rfl rfl rfl rfl rfl rfl ?_
    refine st_off 23 rfl rfl rfl rfl rfl rfl ?_
    refine st_off 23 rfl rfl rfl rfl rfl rfl ?_
    refine st rfl (o_y (v := .bool true) (y_pick rfl rfl) rfl rfl rfl ?_)
    refine s_nil ?_
    refine q_then ?_
    refine c_true rfl ?_
    refine c_seq ?_
    refine c_region ?_
    refine st rfl (o_y (v := .bool true) (y_mv rfl) rfl rfl rfl ?_)
    refine st rfl (o_y (v := .bool true) (y_mv rfl) rfl rfl rfl ?_)
    refine st_on 29 rfl rfl rfl (o_y (v := .int .i64 ((putF max (fewL l) (cutS item)).2.2)) (y_mv rfl) rfl rfl rfl ?_)
    refine e_by ((putF max (fewL l) (cutS item)).2.2 = 2) (fun h37 => ?_) (fun h37 => ?_)
    ·
      refine st_on 29 rfl rfl rfl (o_y (v := .bool true) (y_b (y_k (v := .bool (((putF max (fewL l) (cutS item)).2.2) == 2)) rfl rfl (fun _ => by kernel_rfl)) (beq_iff_eq.2 h37)) rfl rfl rfl ?_)
      refine st rfl (o_y (v := .bool true) (y_pick rfl rfl) rfl rfl rfl ?_)
      refine st rfl (o_y (v := .bool true) (y_as rfl) rfl rfl rfl ?_)
      refine s_nil ?_
      refine q_then ?_
      refine c_ret ?_
      refine q_then_ret ?_
      refine c_fin (I' := []) [] [0, 1, 2, 3, 4, 5, 6] rfl (.tmp rfl .nil) rfl rfl rfl ?_
      exact ⟨rfl, rfl, rfl⟩
    ·
      refine st_on 29 rfl rfl rfl (o_y (v := .bool false) (y_b (y_k (v := .bool (((putF max (fewL l) (cutS item)).2.2) == 2)) rfl rfl (fun _ => by kernel_rfl)) (beq_eq_false_iff_ne.2 h37)) rfl rfl rfl ?_)
      refine st rfl (o_y (v := .bool false) (y_pick rfl rfl) rfl rfl rfl ?_)
      refine st rfl (o_y (v := .bool false) (y_as rfl) rfl rfl rfl ?_)
      refine s_nil ?_
      refine q_then ?_
      refine c_ret ?_
      refine q_then_ret ?_
      refine c_fin (I' := []) [] [0, 1, 2, 3, 4, 5, 6] rfl (.tmp rfl .nil) rfl rfl rfl ?_
      exact ⟨by exfalso; rcases putF_cases max (fewL l) (cutS item) with ⟨q1, q2⟩ | ⟨q1, q2, q3⟩ | ⟨q1, q2, q3, q4, q5, q6⟩ | ⟨q1, q2, q3, q4⟩ <;> (simp_all) <;> omega, rfl, rfl⟩
open Go.ChangeShapes Go.WideShapes Go.ChangeAt Go.Joins
theorem own : ownKnob Tryd.prog.godebug = none := by kernel_rfl
theorem laidOut : laidOutB Tryd.prog = true := by kernel_rfl
theorem gn0 : Tryd.prog.globalNamed "plimsoll/ring.errArg" = some 1 := by kernel_rfl
theorem gt0 : (Tryd.prog.globals[1]?).map (·.type) = some 47 := by kernel_rfl
theorem gn1 : Tryd.prog.globalNamed "plimsoll/ring.errFull" = some 2 := by kernel_rfl
theorem gt1 : (Tryd.prog.globals[2]?).map (·.type) = some 47 := by kernel_rfl
theorem gn2 : Tryd.prog.globalNamed "plimsoll/ring.errEmpty" = some 0 := by kernel_rfl
theorem gt2 : (Tryd.prog.globals[0]?).map (·.type) = some 47 := by kernel_rfl
theorem cellsE : Tryd.prog.cellsOf 105 = 1 := by kernel_rfl
theorem cellsS : Tryd.prog.cellsOf 9 = 1 := by kernel_rfl
theorem star : "*" ++ "errors.errorString" = "*errors.errorString" := by decide
theorem rowP (u : TypeId) (h : Tryd.prog.typeName? 3 u = some "*errors.errorString") : u = 80 :=
  typeName_ptr_named (nm := "errors.errorString") (by rw [star]; kernel_rfl) (by kernel_rfl) (by decide) u (by rw [star]; exact h)
noncomputable def laidL : List (String × DataW Unit) := Rows.ringBoundRow.laid
theorem door_met (os : Os) (args : Array Value) : laidMetH Tryd.prog laidL ((World.doorLaid Tryd.prog 400 os).forCall (fun _ _ => 0) ⟨#[], args, []⟩).memory :=
  laidMetH_of_parts3 (fuel := 8) (laidMet_of_run' 8 (by kernel_rfl) (by kernel_rfl)) (by kernel_rfl) (by kernel_rfl)
theorem of_laid {W : World} (h : laidMetH Tryd.prog laidL W) : ∃ a0 a1 a2 : Addr, Sent Tryd.prog W "plimsoll/ring.errArg" 1 80 a0 ∧ Sent Tryd.prog W "plimsoll/ring.errFull" 2 80 a1 ∧ Sent Tryd.prog W "plimsoll/ring.errEmpty" 0 80 a2 ∧ a0 ≠ a1 ∧ a0 ≠ a2 ∧ a1 ≠ a2 := by
  rw [MakeChecks.laidMetH_plain _ _ _ (by kernel_rfl)] at h
  exact laid3 h gn0 gt0 gn1 gt1 gn2 gt2 Tryd.underlying47 rowP Tryd.underlying80 Tryd.underlying105 rfl rfl Tryd.underlying9 cellsE cellsS
theorem errFact {P : Program} {W : World} {n : String} {g : Nat} {tp : TypeId} {a : Addr} (h : Sent P W n g tp a) : ∀ k, le (hpOf W) k → errAt a k := fun k hk => by
  obtain ⟨c, t, hb⟩ := h.blk
  exact ⟨c, t, hk _ _ hb⟩
set_option maxRecDepth 100000 in
theorem ringBound_lifted (os : Os) (started : os.Started) (H : Type) (enc : TypeId × Value → H) :
    ReturnsInHanded {} Tryd.checked os 3 .any (fun w args => (Rows.ringBoundSpec.pre enc Tryd.prog Tryd.f3 [] false w args ∧ laidMetH Tryd.prog laidL w) ∧ sizedMet enc Tryd.prog Tryd.f3 (OpenSpec.ofChange Rows.ringBoundSpec) false w args)
      (Rows.ringBoundSpec.post enc Tryd.prog Tryd.f3 false true false false) := by
  refine returnsInHanded_of_change_and (C := Tryd.checked) (X := fun w _ => laidMetH Tryd.prog laidL w) (fun _ _ _ hh h => h.of_heap hh) own started (by kernel_rfl) Tryd.func3
    (ChangeSpec.witness_shaped (enc := enc) (C := Tryd.checked) (os := os) (X := fun w _ => laidMetH Tryd.prog laidL w) false (World.doorLaid Tryd.prog 400 os) #[.agg #[.int .i64 0, .slice none 0 0], .string ⟨#[]⟩] 8 rfl (World.shaped_of_RefB (by kernel_rfl) (by kernel_rfl)) (by kernel_rfl) (by kernel_rfl) (by kernel_rfl) (door_met os _)) ?_
  intro W base args ds gs before hval0 hW _ _ hL _
  have hval : ∀ (j : Nat) t v, Tryd.f3.params[j]? = some t → args[j]? = some v → Value.okWide Tryd.prog W .any base t v := hval0
  have hW' := hW
  obtain ⟨p, q, hA0, hV, rfl, hfz, hnd⟩ := hW
  have hA : DataW.TrodAll enc Tryd.prog W 0 (fun _ => true) true Tryd.f3.params.toList args.toList ds p := hA0
  rw [Tryd.params3] at hA hval
  obtain ⟨v0, v1, d0, d1, p0, p1, rfl, rfl, rfl, h0, h1⟩ := trodAll_two hA
  obtain ⟨rfl, rfl⟩ := trodVars_none hV
  obtain ⟨a0, a1, a2, s0, s1, s2, n01, n02, n12⟩ := of_laid hL
  clear hA0 hval0 hL
  simp only [List.append_nil] at hW'
  have t0 := h0
  obtain ⟨x0, z0, y0, w0, m0, rfl, _, _, g0, hf0⟩ := open_agg2 Tryd.underlying24 (by kernel_rfl) (by kernel_rfl) (hval 0 24 _ rfl rfl) h0
  obtain ⟨n0, e0, _, _⟩ := DataW.trod_int Tryd.underlying3 g0
  simp only [List.cons.injEq, and_true] at e0
  subst e0
  obtain ⟨A0, c0, l0, rfl, hr0⟩ := open_texts Tryd.underlying22 Tryd.underlying9 (by kernel_rfl) hf0
  have t1 := h1
  obtain ⟨s1', rfl⟩ := okWide_string Tryd.underlying9 (hval 1 9 _ rfl rfl)
  refine (con_calls (RingBound_ A0 c0 l0 n0 s1' a0 a1 a2 n01 n02 n12) (Facts.cons (hr0) (Facts.cons (sent_facts s0) (Facts.cons (sent_facts s1) (Facts.cons (sent_facts s2) (Facts.cons (errFact s0) (Facts.cons (errFact s1) (Facts.cons (errFact s2) (Facts.nil _))))))))).mono fun e W' ⟨he, hb⟩ => ?_
  subst he
  have hlt : ∀ x ∈ (p0 ++ p1), x.block < W.heap.size := fun x hx => by simpa using hW'.lt x hx
  exact ⟨_, rfl, [d0, d1], [], _, [], p0 ++ p1, [], hW', trodAll_mk1 (shut_bool Tryd.underlying4 true), trodAll_mk2 (Below.trod laidOut (by kernel_rfl) (of_decide_eq_true (by kernel_rfl)) t0 hb (fun x hx => hlt x (by simp [hx]))) (Below.trod laidOut (by kernel_rfl) (of_decide_eq_true (by kernel_rfl)) t1 hb (fun x hx => hlt x (by simp [hx]))), rfl, hb.frame _, fun h => by cases h⟩
theorem ringBound_holds : Rows.RingBoundSaid :=
  OpenClaim.holds_of_wide 3 Tryd.f3 rfl rfl rfl rfl rfl rfl rfl ⟨rfl, rfl, rfl, rfl, rfl⟩ rfl rfl rfl rfl rfl (by kernel_rfl) Tryd.func3 (by kernel_rfl)
    (of_decide_eq_true (by kernel_rfl)) (by unfold Func.isWrapper; first | (rw [if_pos (by decide +kernel)]; kernel_rfl) | (rw [if_neg (by decide +kernel)]; exact ⟨rfl, rfl⟩))
    (fun os started H enc _ => ringBound_lifted os started H enc)
/-- The tied card. -/
theorem ringBound_card : Rows.RingBoundCardSaid :=
  Claim7.holds_tied_plain_at .later [] [.sentinel, .sentinel, .sentinel] true (true, "b786713441a752de7acee6366f0947f351ff51927903928e5be71e03e352de47") true
    ringBound_holds (fun _ h => by cases h) (by kernel_rfl) (fun _ h => by cases h) ringBound_row_tie rfl ⟨rfl, rfl⟩ (by kernel_rfl) rfl
    (fun f fn hf hfn => by
      obtain rfl : f = 3 := Option.some.inj ((show Tryd.prog.funcNamed "plimsoll/plimsolllaw08.RingBound" = some 3 by kernel_rfl).symm.trans hf) |>.symm
      obtain rfl : fn = Tryd.f3 := (Option.some.inj (Tryd.func3.symm.trans hfn)).symm
      exact ⟨by kernel_rfl, fun j t ht => by
        rw [Tryd.params3] at ht
        have hm : t ∈ [24, 9] := by simpa using Array.mem_of_getElem? ht
        have hall : ([24, 9].all fun u => !Tryd.prog.wantsStandIn u) = true := by kernel_rfl
        exact (show Tryd.prog.wantsStandIn t = false by simpa using List.all_eq_true.1 hall t hm)⟩)
    (by kernel_rfl)
#print axioms ringBound_card
end Go.Proofs.YtjcjbdhkajiaeaaDoor
