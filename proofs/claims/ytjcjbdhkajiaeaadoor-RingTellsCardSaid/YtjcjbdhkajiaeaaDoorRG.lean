/- Contracts of package ring, its reference and its laws, walked over the given program; no condition but what stands in each: part G. -/
import Derived.Test.YtjcjbdhkajiaeaaDoorRF
set_option linter.unusedVariables false
set_option linter.unusedSimpArgs false
set_option maxRecDepth 100000
namespace Go.Proofs.YtjcjbdhkajiaeaaDoor
open Go Go.Sl Go.RowKit Go.Extern.Stop Go.Stop Go.Extern
theorem checked_ (A : Option Addr) (c : Nat) (l : List ByteArray) (b : Nat) (max : Int) (ea : Addr) (ef : Addr) (ee : Addr) (hs : small l) : Con Tryd.prog 28 [.pointer (some ⟨b, 0, none⟩)] [pt b [.int .i64 max, .slice A l.length c] 52] [rd strTy A c l, cellsAt 1 0 [.iface 80 (.pointer (some ea))], cellsAt 2 0 [.iface 80 (.pointer (some ef))], cellsAt 0 0 [.iface 80 (.pointer (some ee))], errAt ea, errAt ef, errAt ee] (fun v L' I' => ((right max l) ∧ v = .nilIface ∧ L' = [pt b [.int .i64 max, .slice A l.length c] 52] ∧ I' = []) ∨ ((¬ (right max l)) ∧ v = .iface 80 (.pointer (some ea)) ∧ L' = [pt b [.int .i64 max, .slice A l.length c] 52] ∧ I' = [])) := by
  refine fn_of Tryd.func28 rfl Tryd.ntmps28 (by kernel_rfl) rfl (fun C => ?_)
  refine c_seq ?_
  refine c_region ?_
  refine st rfl (o_y (v := .nilIface) (y_as rfl) rfl rfl rfl ?_)
  refine s_nil ?_
  refine q_then ?_
  refine c_seq ?_
  refine c_seq ?_
  refine c_draw (l := ticked 26 0) [(⟨b, 0, none⟩, .int .i64 max), (⟨b, 1, none⟩, .slice A l.length c)] [] (by kernel_rfl) rfl rfl ?_
  refine a_y (i := 0) (v := .pointer (some ⟨b, 0, none⟩)) (ticked 26 1) rfl (by kernel_rfl) rfl rfl rfl (by exact y_mv rfl) ?_
  refine a_y (i := 1) (v := .pointer (some ⟨b, 0, none⟩)) (ticked 26 3) rfl (by kernel_rfl) rfl rfl rfl (by exact y_k rfl rfl (fun _ => by kernel_rfl)) ?_
  refine a_y (i := 2) (v := .pointer (some ⟨b, 0, none⟩)) (ticked 26 7) rfl (by kernel_rfl) rfl rfl rfl (by exact y_k rfl rfl (fun _ => by kernel_rfl)) ?_
  refine a_y (i := 3) (v := .pointer (some ⟨b, 0, none⟩)) (ticked 26 15) rfl (by kernel_rfl) rfl rfl rfl (by exact y_k rfl rfl (fun _ => by kernel_rfl)) ?_
  refine a_held (i := 4) (ticked 26 31) rfl (by kernel_rfl) rfl rfl rfl (held_pt 0 rfl rfl (held_pt 0 rfl rfl held_nil)) (h_ld 0 rfl rfl Tryd.underlying3 rfl) ?_
  refine a_each (rs := [5]) (by kernel_rfl) (.cons (ticked 26 63) rfl rfl rfl (o_call [] [] (isMax_ max) rfl rfl rfl rfl rfl rfl (fun v L' I' hq1 => ?_)) .nil) (List.cons_ne_nil _ _)
  obtain ⟨hv1, rfl, rfl⟩ := hq1
  refine e_by (0 ≤ max ∧ max ≤ 2000) (fun h1 => ?_) (fun h1 => ?_)
  ·
    obtain rfl : v = .bool true := by rw [hv1, decide_eq_true h1]
    refine a_and (held_pt 0 rfl rfl (held_pt 0 rfl rfl held_nil)) ?_
    refine a_y (i := 6) (v := .bool false) (ticked 26 127) rfl (by kernel_rfl) rfl rfl rfl (by exact y_k rfl rfl (fun _ => by kernel_rfl)) ?_
    refine a_y (i := 7) (v := .bool false) (ticked 26 255) rfl (by kernel_rfl) rfl rfl rfl (by exact y_mv rfl) ?_
    refine a_y_on (i := 8) (v := .pointer (some ⟨b, 0, none⟩)) 10 (ticked 26 511) rfl (by kernel_rfl) rfl rfl rfl rfl rfl (by exact y_mv rfl) ?_
    refine a_y_on (i := 9) (v := .pointer (some ⟨b, 0, none⟩)) 10 (ticked 26 1023) rfl (by kernel_rfl) rfl rfl rfl rfl rfl (by exact y_k rfl rfl (fun _ => by kernel_rfl)) ?_
    refine a_y_on (i := 10) (v := .pointer (some ⟨b, 0, none⟩)) 10 (ticked 26 2047) rfl (by kernel_rfl) rfl rfl rfl rfl rfl (by exact y_k rfl rfl (fun _ => by kernel_rfl)) ?_
    refine a_y_on (i := 11) (v := .pointer (some ⟨b, 1, none⟩)) 10 (ticked 26 4095) rfl (by kernel_rfl) rfl rfl rfl rfl rfl (by exact y_k rfl rfl (fun _ => by kernel_rfl)) ?_
    refine a_held_on (i := 12) 10 (ticked 26 8191) rfl (by kernel_rfl) rfl rfl rfl rfl rfl (held_pt 0 rfl rfl (held_pt 0 rfl rfl held_nil)) (h_ld 1 rfl rfl Tryd.underlying22 rfl) ?_
    refine a_each (rs := [13]) (by kernel_rfl) (.on 10 (ticked 26 16383) rfl rfl rfl rfl rfl (o_call [] [0] (isItem_ A c l (by first | assumption | exact small_put _ _ _ | exact small_take _ _ | exact small_all _ _ _ | exact small_nil | exact small_right (by assumption) | exact small_one (small_at (by assumption) hx1) | exact small_one (by assumption))) rfl rfl rfl rfl rfl rfl (fun v L' I' hq2 => ?_)) .nil) (List.cons_ne_nil _ _)
    obtain ⟨hv2, rfl, rfl⟩ := hq2
    refine e_by (items l) (fun h2 => ?_) (fun h2 => ?_)
    ·
      obtain rfl : v = .bool true := by rw [hv2, decide_eq_true h2]
      refine a_and (held_pt 0 rfl rfl (held_pt 0 rfl rfl held_nil)) ?_
      refine a_y_on (i := 14) (v := .bool false) 10 (ticked 26 32767) rfl (by kernel_rfl) rfl rfl rfl rfl rfl (by exact y_k rfl rfl (fun _ => by kernel_rfl)) ?_
      refine a_y (i := 15) (v := .bool false) (ticked 26 65535) rfl (by kernel_rfl) rfl rfl rfl (by exact y_pick rfl rfl) ?_
      refine a_y (i := 16) (v := .bool false) (ticked 26 131071) rfl (by kernel_rfl) rfl rfl rfl (by exact y_mv rfl) ?_
      refine a_y_on (i := 17) (v := .pointer (some ⟨b, 0, none⟩)) 19 (ticked 26 262143) rfl (by kernel_rfl) rfl rfl rfl rfl rfl (by exact y_mv rfl) ?_
      refine a_y_on (i := 19) (v := .pointer (some ⟨b, 0, none⟩)) 19 (ticked 26 786431) rfl (by kernel_rfl) rfl rfl rfl rfl rfl (by exact y_mv rfl) ?_
      refine a_y_on (i := 20) (v := .pointer (some ⟨b, 0, none⟩)) 19 (ticked 26 1835007) rfl (by kernel_rfl) rfl rfl rfl rfl rfl (by exact y_k rfl rfl (fun _ => by kernel_rfl)) ?_
      refine a_y_on (i := 21) (v := .pointer (some ⟨b, 0, none⟩)) 19 (ticked 26 3932159) rfl (by kernel_rfl) rfl rfl rfl rfl rfl (by exact y_k rfl rfl (fun _ => by kernel_rfl)) ?_
      refine a_y_on (i := 22) (v := .pointer (some ⟨b, 0, none⟩)) 19 (ticked 26 8126463) rfl (by kernel_rfl) rfl rfl rfl rfl rfl (by exact y_k rfl rfl (fun _ => by kernel_rfl)) ?_
      refine a_held_on (i := 23) 19 (ticked 26 16515071) rfl (by kernel_rfl) rfl rfl rfl rfl rfl (held_pt 0 rfl rfl (held_pt 0 rfl rfl held_nil)) (h_ld 0 rfl rfl Tryd.underlying3 rfl) ?_
      refine a_each (rs := [18]) (by kernel_rfl) (.on 19 (ticked 26 16777215) rfl rfl rfl rfl rfl (o_call [0] [0] (used_ A c l b max (by first | assumption | exact small_put _ _ _ | exact small_take _ _ | exact small_all _ _ _ | exact small_nil | exact small_right (by assumption) | exact small_one (small_at (by assumption) hx1) | exact small_one (by assumption))) rfl rfl rfl rfl rfl rfl (fun v L' I' hq3 => ?_)) .nil) (List.cons_ne_nil _ _)
      obtain ⟨rfl, rfl, rfl⟩ := hq3
      refine a_and (held_pt 0 rfl rfl (held_pt 0 rfl rfl held_nil)) ?_
      refine e_by ((takesN l : Int) > max) (fun h3 => ?_) (fun h3 => ?_)
      ·
        refine a_y_on (i := 24) (v := .bool true) 19 (ticked 26 33554431) rfl (by kernel_rfl) rfl rfl rfl rfl rfl (by exact y_t (y_k (v := .bool (decide ((takesN l : Int) > max))) rfl rfl (fun _ => by kernel_rfl)) h3) ?_
        refine a_y (i := 25) (v := .bool true) (ticked 26 67108863) rfl (by kernel_rfl) rfl rfl rfl (by exact y_pick rfl rfl) ?_
        refine a_done (by kernel_rfl) ?_
        refine q_then ?_
        refine c_true rfl ?_
        refine c_seq ?_
        refine c_region ?_
        refine st rfl (o_ldf 1 0 rfl rfl rfl Tryd.underlying47 rfl rfl ?_)
        refine st rfl (o_y (v := .iface 80 (.pointer (some ea))) (y_as rfl) rfl rfl rfl ?_)
        refine s_nil ?_
        refine q_then ?_
        refine c_ret ?_
        refine q_then_ret ?_
        refine c_fin (I' := []) [0] [0, 1, 2, 3, 4, 5, 6] rfl (.tmp rfl .nil) rfl rfl rfl ?_
        exact .inr ⟨by unfold right; first | exact ⟨by assumption, by assumption, by omega⟩ | (intro h; obtain ⟨h1, h2, h3⟩ := h; first | contradiction | omega), rfl, rfl, rfl⟩
      ·
        refine a_y_on (i := 24) (v := .bool false) 19 (ticked 26 33554431) rfl (by kernel_rfl) rfl rfl rfl rfl rfl (by exact y_f (y_k (v := .bool (decide ((takesN l : Int) > max))) rfl rfl (fun _ => by kernel_rfl)) h3) ?_
        refine a_y (i := 25) (v := .bool false) (ticked 26 67108863) rfl (by kernel_rfl) rfl rfl rfl (by exact y_pick rfl rfl) ?_
        refine a_done (by kernel_rfl) ?_
        refine q_then ?_
        refine c_false rfl ?_
        refine c_skip ?_
        refine q_then ?_
        refine c_seq ?_
        refine c_region ?_
        refine st rfl (o_y (v := .nilIface) (y_as rfl) rfl rfl rfl ?_)
        refine s_nil ?_
        refine q_then ?_
        refine c_ret ?_
        refine c_fin (I' := []) [0] [0, 1, 2, 3, 4, 5, 6] rfl (.tmp rfl .nil) rfl rfl rfl ?_
        exact .inl ⟨by unfold right; first | exact ⟨by assumption, by assumption, by omega⟩ | (intro h; obtain ⟨h1, h2, h3⟩ := h; first | contradiction | omega), rfl, rfl, rfl⟩
    ·
      obtain rfl : v = .bool false := by rw [hv2, decide_eq_false h2]
      refine a_and (held_pt 0 rfl rfl (held_pt 0 rfl rfl held_nil)) ?_
      refine a_y_on (i := 14) (v := .bool true) 10 (ticked 26 32767) rfl (by kernel_rfl) rfl rfl rfl rfl rfl (by exact y_k rfl rfl (fun _ => by kernel_rfl)) ?_
      refine a_y (i := 15) (v := .bool true) (ticked 26 65535) rfl (by kernel_rfl) rfl rfl rfl (by exact y_pick rfl rfl) ?_
      refine a_y (i := 16) (v := .bool true) (ticked 26 131071) rfl (by kernel_rfl) rfl rfl rfl (by exact y_mv rfl) ?_
      refine a_off (i := 17) 19 (ticked 26 262143) rfl (by kernel_rfl) rfl rfl rfl rfl rfl rfl ?_
      refine a_off (i := 18) 19 (ticked 26 524287) rfl (by kernel_rfl) rfl rfl rfl rfl rfl rfl ?_
      refine a_off (i := 19) 19 (ticked 26 1048575) rfl (by kernel_rfl) rfl rfl rfl rfl rfl rfl ?_
      refine a_off (i := 20) 19 (ticked 26 2097151) rfl (by kernel_rfl) rfl rfl rfl rfl rfl rfl ?_
      refine a_off (i := 21) 19 (ticked 26 4194303) rfl (by kernel_rfl) rfl rfl rfl rfl rfl rfl ?_
      refine a_off (i := 22) 19 (ticked 26 8388607) rfl (by kernel_rfl) rfl rfl rfl rfl rfl rfl ?_
      refine a_off (i := 23) 19 (ticked 26 16777215) rfl (by kernel_rfl) rfl rfl rfl rfl rfl rfl ?_
      refine a_off (i := 24) 19 (ticked 26 33554431) rfl (by kernel_rfl) rfl rfl rfl rfl rfl rfl ?_
      refine a_y (i := 25) (v := .bool true) (ticked 26 67108863) rfl (by kernel_rfl) rfl rfl rfl (by exact y_pick rfl rfl) ?_
      refine a_done (by kernel_rfl) ?_
      refine q_then ?_
      refine c_true rfl ?_
      refine c_seq ?_
      refine c_region ?_
      refine st rfl (o_ldf 1 0 rfl rfl rfl Tryd.underlying47 rfl rfl ?_)
      refine st rfl (o_y (v := .iface 80 (.pointer (some ea))) (y_as rfl) rfl rfl rfl ?_)
      refine s_nil ?_
      refine q_then ?_
      refine c_ret ?_
      refine q_then_ret ?_
      refine c_fin (I' := []) [0] [0, 1, 2, 3, 4, 5, 6] rfl (.tmp rfl .nil) rfl rfl rfl ?_
      exact .inr ⟨by unfold right; first | exact ⟨by assumption, by assumption, by omega⟩ | (intro h; obtain ⟨h1, h2, h3⟩ := h; first | contradiction | omega), rfl, rfl, rfl⟩
  ·
    obtain rfl : v = .bool false := by rw [hv1, decide_eq_false h1]
    refine a_and (held_pt 0 rfl rfl (held_pt 0 rfl rfl held_nil)) ?_
    refine a_y (i := 6) (v := .bool true) (ticked 26 127) rfl (by kernel_rfl) rfl rfl rfl (by exact y_k rfl rfl (fun _ => by kernel_rfl)) ?_
    refine a_y (i := 7) (v := .bool true) (ticked 26 255) rfl (by kernel_rfl) rfl rfl rfl (by exact y_mv rfl) ?_
    refine a_off (i := 8) 10 (ticked 26 511) rfl (by kernel_rfl) rfl rfl rfl rfl rfl rfl ?_
    refine a_off (i := 9) 10 (ticked 26 1023) rfl (by kernel_rfl) rfl rfl rfl rfl rfl rfl ?_
    refine a_off (i := 10) 10 (ticked 26 2047) rfl (by kernel_rfl) rfl rfl rfl rfl rfl rfl ?_
    refine a_off (i := 11) 10 (ticked 26 4095) rfl (by kernel_rfl) rfl rfl rfl rfl rfl rfl ?_
    refine a_off (i := 12) 10 (ticked 26 8191) rfl (by kernel_rfl) rfl rfl rfl rfl rfl rfl ?_
    refine a_off (i := 13) 10 (ticked 26 16383) rfl (by kernel_rfl) rfl rfl rfl rfl rfl rfl ?_
    refine a_off (i := 14) 10 (ticked 26 32767) rfl (by kernel_rfl) rfl rfl rfl rfl rfl rfl ?_
    refine a_y (i := 15) (v := .bool true) (ticked 26 65535) rfl (by kernel_rfl) rfl rfl rfl (by exact y_pick rfl rfl) ?_
    refine a_y (i := 16) (v := .bool true) (ticked 26 131071) rfl (by kernel_rfl) rfl rfl rfl (by exact y_mv rfl) ?_
    refine a_off (i := 17) 19 (ticked 26 262143) rfl (by kernel_rfl) rfl rfl rfl rfl rfl rfl ?_
    refine a_off (i := 18) 19 (ticked 26 524287) rfl (by kernel_rfl) rfl rfl rfl rfl rfl rfl ?_
    refine a_off (i := 19) 19 (ticked 26 1048575) rfl (by kernel_rfl) rfl rfl rfl rfl rfl rfl ?_
    refine a_off (i := 20) 19 (ticked 26 2097151) rfl (by kernel_rfl) rfl rfl rfl rfl rfl rfl ?_
    refine a_off (i := 21) 19 (ticked 26 4194303) rfl (by kernel_rfl) rfl rfl rfl rfl rfl rfl ?_
    refine a_off (i := 22) 19 (ticked 26 8388607) rfl (by kernel_rfl) rfl rfl rfl rfl rfl rfl ?_
    refine a_off (i := 23) 19 (ticked 26 16777215) rfl (by kernel_rfl) rfl rfl rfl rfl rfl rfl ?_
    refine a_off (i := 24) 19 (ticked 26 33554431) rfl (by kernel_rfl) rfl rfl rfl rfl rfl rfl ?_
    refine a_y (i := 25) (v := .bool true) (ticked 26 67108863) rfl (by kernel_rfl) rfl rfl rfl (by exact y_pick rfl rfl) ?_
    refine a_done (by kernel_rfl) ?_
    refine q_then ?_
    refine c_true rfl ?_
    refine c_seq ?_
    refine c_region ?_
    refine st rfl (o_ldf 1 0 rfl rfl rfl Tryd.underlying47 rfl rfl ?_)
    refine st rfl (o_y (v := .iface 80 (.pointer (some ea))) (y_as rfl) rfl rfl rfl ?_)
    refine s_nil ?_
    refine q_then ?_
    refine c_ret ?_
    refine q_then_ret ?_
    refine c_fin (I' := []) [0] [0, 1, 2, 3, 4, 5, 6] rfl (.tmp rfl .nil) rfl rfl rfl ?_
    exact .inr ⟨by unfold right; first | exact ⟨by assumption, by assumption, by omega⟩ | (intro h; obtain ⟨h1, h2, h3⟩ := h; first | contradiction | omega), rfl, rfl, rfl⟩
theorem told_nil_ (ea : Addr) (ef : Addr) (ee : Addr) (h12 : ea ≠ ef) (h13 : ea ≠ ee) (h23 : ef ≠ ee) : Con Tryd.prog 30 [.nilIface] [] [cellsAt 1 0 [.iface 80 (.pointer (some ea))], cellsAt 2 0 [.iface 80 (.pointer (some ef))], cellsAt 0 0 [.iface 80 (.pointer (some ee))], errAt ea, errAt ef, errAt ee] (fun v L' I' => v = .int .i64 0 ∧ L' = [] ∧ I' = []) := by
  refine fn_of Tryd.func30 rfl Tryd.ntmps30 (by kernel_rfl) rfl (fun C => ?_)
  refine c_seq ?_
  refine c_region ?_
  refine st rfl (o_y (v := .int .i64 0) (y_as rfl) rfl rfl rfl ?_)
  refine s_nil ?_
  refine q_then ?_
  refine c_seq ?_
  refine c_block ?_
  refine c_seq ?_
  refine c_region ?_
  refine st rfl (o_y (v := .nilIface) (y_mv rfl) rfl rfl rfl ?_)
  refine st rfl (o_ldf 0 0 rfl rfl rfl Tryd.underlying47 rfl rfl ?_)
  refine st rfl (o_call [] [] (is_nil_ ea) rfl rfl rfl rfl rfl rfl (fun v L' I' hq1 => ?_))
  obtain ⟨rfl, rfl, rfl⟩ := hq1
  refine st rfl (o_y (v := .bool false) (y_as rfl) rfl rfl rfl ?_)
  refine s_nil ?_
  refine q_then ?_
  refine c_false rfl ?_
  refine c_seq ?_
  refine c_region ?_
  refine st rfl (o_y (v := .nilIface) (y_mv rfl) rfl rfl rfl ?_)
  refine st rfl (o_ldf 1 0 rfl rfl rfl Tryd.underlying47 rfl rfl ?_)
  refine st rfl (o_call [] [] (is_nil_ ef) rfl rfl rfl rfl rfl rfl (fun v L' I' hq2 => ?_))
  obtain ⟨rfl, rfl, rfl⟩ := hq2
  refine st rfl (o_y (v := .bool false) (y_as rfl) rfl rfl rfl ?_)
  refine s_nil ?_
  refine q_then ?_
  refine c_false rfl ?_
  refine c_seq ?_
  refine c_region ?_
  refine st rfl (o_y (v := .nilIface) (y_mv rfl) rfl rfl rfl ?_)
  refine st rfl (o_ldf 2 0 rfl rfl rfl Tryd.underlying47 rfl rfl ?_)
  refine st rfl (o_call [] [] (is_nil_ ee) rfl rfl rfl rfl rfl rfl (fun v L' I' hq3 => ?_))
  obtain ⟨rfl, rfl, rfl⟩ := hq3
  refine st rfl (o_y (v := .bool false) (y_as rfl) rfl rfl rfl ?_)
  refine s_nil ?_
  refine q_then ?_
  refine c_false rfl ?_
  refine c_skip ?_
  refine q_block ?_
  refine q_then ?_
  refine c_seq ?_
  refine c_region ?_
  refine st rfl (o_y (v := .int .i64 0) (y_as rfl) rfl rfl rfl ?_)
  refine s_nil ?_
  refine q_then ?_
  refine c_ret ?_
  refine c_fin (I' := []) [] [0, 1, 2, 3, 4, 5] rfl (.tmp rfl .nil) rfl rfl rfl ?_
  exact ⟨rfl, rfl, rfl⟩
theorem told_arg_ (ea : Addr) (ef : Addr) (ee : Addr) (h12 : ea ≠ ef) (h13 : ea ≠ ee) (h23 : ef ≠ ee) : Con Tryd.prog 30 [.iface 80 (.pointer (some ea))] [] [cellsAt 1 0 [.iface 80 (.pointer (some ea))], cellsAt 2 0 [.iface 80 (.pointer (some ef))], cellsAt 0 0 [.iface 80 (.pointer (some ee))], errAt ea, errAt ef, errAt ee] (fun v L' I' => v = .int .i64 2 ∧ L' = [] ∧ I' = []) := by
  refine fn_of Tryd.func30 rfl Tryd.ntmps30 (by kernel_rfl) rfl (fun C => ?_)
  refine c_seq ?_
  refine c_region ?_
  refine st rfl (o_y (v := .int .i64 0) (y_as rfl) rfl rfl rfl ?_)
  refine s_nil ?_
  refine q_then ?_
  refine c_seq ?_
  refine c_block ?_
  refine c_seq ?_
  refine c_region ?_
  refine st rfl (o_y (v := .iface 80 (.pointer (some ea))) (y_mv rfl) rfl rfl rfl ?_)
  refine st rfl (o_ldf 0 0 rfl rfl rfl Tryd.underlying47 rfl rfl ?_)
  refine st rfl (o_call [] [] (is_same_ ea) rfl rfl rfl rfl rfl rfl (fun v L' I' hq1 => ?_))
  obtain ⟨rfl, rfl, rfl⟩ := hq1
  refine st rfl (o_y (v := .bool true) (y_as rfl) rfl rfl rfl ?_)
  refine s_nil ?_
  refine q_then ?_
  refine c_true rfl ?_
  refine c_seq ?_
  refine c_region ?_
  refine st rfl (o_y (v := .int .i64 2) (y_as rfl) rfl rfl rfl ?_)
  refine s_nil ?_
  refine q_then ?_
  refine c_ret ?_
  refine q_block_ret ?_
  refine q_then_ret ?_
  refine c_fin (I' := []) [] [0, 1, 2, 3, 4, 5] rfl (.tmp rfl .nil) rfl rfl rfl ?_
  exact ⟨rfl, rfl, rfl⟩
theorem told_full_ (ea : Addr) (ef : Addr) (ee : Addr) (h12 : ea ≠ ef) (h13 : ea ≠ ee) (h23 : ef ≠ ee) : Con Tryd.prog 30 [.iface 80 (.pointer (some ef))] [] [cellsAt 1 0 [.iface 80 (.pointer (some ea))], cellsAt 2 0 [.iface 80 (.pointer (some ef))], cellsAt 0 0 [.iface 80 (.pointer (some ee))], errAt ea, errAt ef, errAt ee] (fun v L' I' => v = .int .i64 80 ∧ L' = [] ∧ I' = []) := by
  refine fn_of Tryd.func30 rfl Tryd.ntmps30 (by kernel_rfl) rfl (fun C => ?_)
  refine c_seq ?_
  refine c_region ?_
  refine st rfl (o_y (v := .int .i64 0) (y_as rfl) rfl rfl rfl ?_)
  refine s_nil ?_
  refine q_then ?_
  refine c_seq ?_
  refine c_block ?_
  refine c_seq ?_
  refine c_region ?_
  refine st rfl (o_y (v := .iface 80 (.pointer (some ef))) (y_mv rfl) rfl rfl rfl ?_)
  refine st rfl (o_ldf 0 0 rfl rfl rfl Tryd.underlying47 rfl rfl ?_)
  refine st rfl (o_call [] [4, 3] (is_other_ ef ea (by first | assumption | exact Ne.symm (by assumption))) rfl rfl rfl rfl rfl rfl (fun v L' I' hq1 => ?_))
  obtain ⟨rfl, rfl, rfl⟩ := hq1
  refine st rfl (o_y (v := .bool false) (y_as rfl) rfl rfl rfl ?_)
  refine s_nil ?_
  refine q_then ?_
  refine c_false rfl ?_
  refine c_seq ?_
  refine c_region ?_
  refine st rfl (o_y (v := .iface 80 (.pointer (some ef))) (y_mv rfl) rfl rfl rfl ?_)
  refine st rfl (o_ldf 1 0 rfl rfl rfl Tryd.underlying47 rfl rfl ?_)
  refine st rfl (o_call [] [] (is_same_ ef) rfl rfl rfl rfl rfl rfl (fun v L' I' hq2 => ?_))
  obtain ⟨rfl, rfl, rfl⟩ := hq2
  refine st rfl (o_y (v := .bool true) (y_as rfl) rfl rfl rfl ?_)
  refine s_nil ?_
  refine q_then ?_
  refine c_true rfl ?_
  refine c_seq ?_
  refine c_region ?_
  refine st rfl (o_y (v := .int .i64 80) (y_as rfl) rfl rfl rfl ?_)
  refine s_nil ?_
  refine q_then ?_
  refine c_ret ?_
  refine q_block_ret ?_
  refine q_then_ret ?_
  refine c_fin (I' := []) [] [0, 1, 2, 3, 4, 5] rfl (.tmp rfl .nil) rfl rfl rfl ?_
  exact ⟨rfl, rfl, rfl⟩
theorem told_empty_ (ea : Addr) (ef : Addr) (ee : Addr) (h12 : ea ≠ ef) (h13 : ea ≠ ee) (h23 : ef ≠ ee) : Con Tryd.prog 30 [.iface 80 (.pointer (some ee))] [] [cellsAt 1 0 [.iface 80 (.pointer (some ea))], cellsAt 2 0 [.iface 80 (.pointer (some ef))], cellsAt 0 0 [.iface 80 (.pointer (some ee))], errAt ea, errAt ef, errAt ee] (fun v L' I' => v = .int .i64 81 ∧ L' = [] ∧ I' = []) := by
  refine fn_of Tryd.func30 rfl Tryd.ntmps30 (by kernel_rfl) rfl (fun C => ?_)
  refine c_seq ?_
  refine c_region ?_
  refine st rfl (o_y (v := .int .i64 0) (y_as rfl) rfl rfl rfl ?_)
  refine s_nil ?_
  refine q_then ?_
  refine c_seq ?_
  refine c_block ?_
  refine c_seq ?_
  refine c_region ?_
  refine st rfl (o_y (v := .iface 80 (.pointer (some ee))) (y_mv rfl) rfl rfl rfl ?_)
  refine st rfl (o_ldf 0 0 rfl rfl rfl Tryd.underlying47 rfl rfl ?_)
  refine st rfl (o_call [] [5, 3] (is_other_ ee ea (by first | assumption | exact Ne.symm (by assumption))) rfl rfl rfl rfl rfl rfl (fun v L' I' hq1 => ?_))
  obtain ⟨rfl, rfl, rfl⟩ := hq1
  refine st rfl (o_y (v := .bool false) (y_as rfl) rfl rfl rfl ?_)
  refine s_nil ?_
  refine q_then ?_
  refine c_false rfl ?_
  refine c_seq ?_
  refine c_region ?_
  refine st rfl (o_y (v := .iface 80 (.pointer (some ee))) (y_mv rfl) rfl rfl rfl ?_)
  refine st rfl (o_ldf 1 0 rfl rfl rfl Tryd.underlying47 rfl rfl ?_)
  refine st rfl (o_call [] [5, 4] (is_other_ ee ef (by first | assumption | exact Ne.symm (by assumption))) rfl rfl rfl rfl rfl rfl (fun v L' I' hq2 => ?_))
  obtain ⟨rfl, rfl, rfl⟩ := hq2
  refine st rfl (o_y (v := .bool false) (y_as rfl) rfl rfl rfl ?_)
  refine s_nil ?_
  refine q_then ?_
  refine c_false rfl ?_
  refine c_seq ?_
  refine c_region ?_
  refine st rfl (o_y (v := .iface 80 (.pointer (some ee))) (y_mv rfl) rfl rfl rfl ?_)
  refine st rfl (o_ldf 2 0 rfl rfl rfl Tryd.underlying47 rfl rfl ?_)
  refine st rfl (o_call [] [] (is_same_ ee) rfl rfl rfl rfl rfl rfl (fun v L' I' hq3 => ?_))
  obtain ⟨rfl, rfl, rfl⟩ := hq3
  refine st rfl (o_y (v := .bool true) (y_as rfl) rfl rfl rfl ?_)
  refine s_nil ?_
  refine q_then ?_
  refine c_true rfl ?_
  refine c_seq ?_
  refine c_region ?_
  refine st rfl (o_y (v := .int .i64 81) (y_as rfl) rfl rfl rfl ?_)
  refine s_nil ?_
  refine q_then ?_
  refine c_ret ?_
  refine q_block_ret ?_
  refine q_then_ret ?_
  refine c_fin (I' := []) [] [0, 1, 2, 3, 4, 5] rfl (.tmp rfl .nil) rfl rfl rfl ?_
  exact ⟨rfl, rfl, rfl⟩
end Go.Proofs.YtjcjbdhkajiaeaaDoor
