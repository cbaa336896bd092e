/- The laws of chapter 17 (call), walked over the given program; no condition but what stands in each theorem: part D. -/
import Derived.Test.YtcnncdniibkjkaaGreatDoorRB
import Derived.Test.YtcnncdniibkjkaaGreatDoorRC
set_option linter.unusedVariables false
set_option linter.unusedSimpArgs false
set_option maxRecDepth 100000
set_option maxHeartbeats 8000000
namespace Go.Proofs.YtcnncdniibkjkaaGreatDoor
open Go Go.Sl Go.RowKit Go.Extern.Stop Go.Stop Go.Extern
theorem told_nil_ (ea : Addr) (em : Addr) (ef : Addr) (h12 : ea ≠ em) (h13 : ea ≠ ef) (h23 : em ≠ ef) : Con Tryz.prog 61 [.nilIface] [] [cellsAt 2 0 [.iface 180 (.pointer (some ea))], cellsAt 3 0 [.iface 180 (.pointer (some em))], cellsAt 1 0 [.iface 180 (.pointer (some ef))], errAt ea, errAt em, errAt ef, cellsAt 0 0 [.iface 147 (.agg #[.pointer (some ⟨5, 48, none⟩)])]] (fun v L' I' => v = .int .i64 0 ∧ L' = [] ∧ I' = []) := by
 refine fn_of Tryz.func61 rfl Tryz.ntmps61 (by kernel_rfl) rfl (fun C => ?_)
 refine c_seq (c_region ?_)
 refine s_y rfl (v := .int .i64 0) (y_as rfl) rfl ?_
 refine s_nil (q_then (c_seq (c_region ?_)))
 refine st rfl (o_box (cs := [.nilIface, .int .i64 0]) (T := 131) rfl rfl rfl rfl (fun _ => by kernel_rfl) (fun b1 => ?_))
 refine s_nil (q_then (c_seq (c_seq (c_region ?_))))
 refine s_y rfl (v := .nilIface) (y_mv rfl) rfl ?_
 refine s_y rfl (v := .iface 144 (.pointer (some ⟨b1, 0, none⟩))) (y_k rfl rfl (fun _ => by kernel_rfl)) rfl ?_
 refine st rfl (o_call [] [] (As_nil_at_ b1) rfl rfl rfl rfl rfl rfl (fun v L' I' hq1 => ?_))
 obtain ⟨rfl, rfl, rfl⟩ := hq1
 refine s_y rfl (v := .bool false) (y_mv rfl) rfl ?_
 refine st_off 7 rfl rfl rfl rfl rfl rfl ?_
 refine st_off 7 rfl rfl rfl rfl rfl rfl ?_
 refine st_off 7 rfl rfl rfl rfl rfl rfl ?_
 refine s_y rfl (v := .bool false) (y_pick rfl rfl) rfl ?_
 refine s_nil (q_then (c_false rfl (c_skip (q_then (c_seq (c_block (c_seq (c_region ?_))))))))
 refine s_y rfl (v := .nilIface) (y_mv rfl) rfl ?_
 refine st rfl (o_ldf 0 0 rfl rfl rfl Tryz.underlying48 rfl rfl ?_)
 refine st rfl (o_call [] [] (is_nil_ ea) rfl rfl rfl rfl rfl rfl (fun v L' I' hq2 => ?_))
 obtain ⟨rfl, rfl, rfl⟩ := hq2
 refine s_y rfl (v := .bool false) (y_as rfl) rfl ?_
 refine s_nil (q_then (c_false rfl (c_seq (c_region ?_))))
 refine s_y rfl (v := .nilIface) (y_mv rfl) rfl ?_
 refine st rfl (o_ldf 1 0 rfl rfl rfl Tryz.underlying48 rfl rfl ?_)
 refine st rfl (o_call [] [] (is_nil_ em) rfl rfl rfl rfl rfl rfl (fun v L' I' hq3 => ?_))
 obtain ⟨rfl, rfl, rfl⟩ := hq3
 refine s_y rfl (v := .bool false) (y_as rfl) rfl ?_
 refine s_nil (q_then (c_false rfl (c_seq (c_region ?_))))
 refine s_y rfl (v := .nilIface) (y_mv rfl) rfl ?_
 refine st rfl (o_ldf 2 0 rfl rfl rfl Tryz.underlying48 rfl rfl ?_)
 refine st rfl (o_call [] [] (is_nil_ ef) rfl rfl rfl rfl rfl rfl (fun v L' I' hq4 => ?_))
 obtain ⟨rfl, rfl, rfl⟩ := hq4
 refine s_y rfl (v := .bool false) (y_as rfl) rfl ?_
 refine s_nil (q_then (c_false rfl (c_skip (q_block (q_then (c_seq (c_region ?_)))))))
 refine s_y rfl (v := .int .i64 0) (y_as rfl) rfl ?_
 refine s_nil (q_then (c_ret ?_))
 refine c_fin (I' := []) [] [0, 1, 2, 3, 4, 5, 6] rfl (.tmp rfl .nil) rfl rfl rfl ?_
 exact ⟨rfl, rfl, rfl⟩
theorem told_ea_ (ea : Addr) (em : Addr) (ef : Addr) (h12 : ea ≠ em) (h13 : ea ≠ ef) (h23 : em ≠ ef) : Con Tryz.prog 61 [.iface 180 (.pointer (some ea))] [] [cellsAt 2 0 [.iface 180 (.pointer (some ea))], cellsAt 3 0 [.iface 180 (.pointer (some em))], cellsAt 1 0 [.iface 180 (.pointer (some ef))], errAt ea, errAt em, errAt ef, cellsAt 0 0 [.iface 147 (.agg #[.pointer (some ⟨5, 48, none⟩)])]] (fun v L' I' => v = .int .i64 2 ∧ L' = [] ∧ I' = []) := by
 refine fn_of Tryz.func61 rfl Tryz.ntmps61 (by kernel_rfl) rfl (fun C => ?_)
 refine c_seq (c_region ?_)
 refine s_y rfl (v := .int .i64 0) (y_as rfl) rfl ?_
 refine s_nil (q_then (c_seq (c_region ?_)))
 refine st rfl (o_box (cs := [.nilIface, .int .i64 0]) (T := 131) rfl rfl rfl rfl (fun _ => by kernel_rfl) (fun b1 => ?_))
 refine s_nil (q_then (c_seq (c_seq (c_region ?_))))
 refine s_y rfl (v := .iface 180 (.pointer (some ea))) (y_mv rfl) rfl ?_
 refine s_y rfl (v := .iface 144 (.pointer (some ⟨b1, 0, none⟩))) (y_k rfl rfl (fun _ => by kernel_rfl)) rfl ?_
 refine st rfl (o_call [0] [6] (As_miss_at_ ea b1) rfl rfl rfl rfl rfl rfl (fun v L' I' hq1 => ?_))
 obtain ⟨rfl, rfl, rfl⟩ := hq1
 refine s_y rfl (v := .bool false) (y_mv rfl) rfl ?_
 refine st_off 7 rfl rfl rfl rfl rfl rfl ?_
 refine st_off 7 rfl rfl rfl rfl rfl rfl ?_
 refine st_off 7 rfl rfl rfl rfl rfl rfl ?_
 refine s_y rfl (v := .bool false) (y_pick rfl rfl) rfl ?_
 refine s_nil (q_then (c_false rfl (c_skip (q_then (c_seq (c_block (c_seq (c_region ?_))))))))
 refine s_y rfl (v := .iface 180 (.pointer (some ea))) (y_mv rfl) rfl ?_
 refine st rfl (o_ldf 0 0 rfl rfl rfl Tryz.underlying48 rfl rfl ?_)
 refine st rfl (o_call [] [] (is_same_ ea) rfl rfl rfl rfl rfl rfl (fun v L' I' hq2 => ?_))
 obtain ⟨rfl, rfl, rfl⟩ := hq2
 refine s_y rfl (v := .bool true) (y_as rfl) rfl ?_
 refine s_nil (q_then (c_true rfl (c_seq (c_region ?_))))
 refine s_y rfl (v := .int .i64 2) (y_as rfl) rfl ?_
 refine s_nil (q_then (c_ret (q_block_ret (q_then_ret ?_))))
 refine c_fin (I' := []) [] [0, 1, 2, 3, 4, 5, 6] rfl (.tmp rfl .nil) rfl rfl rfl ?_
 exact ⟨rfl, rfl, rfl⟩
theorem told_em_ (ea : Addr) (em : Addr) (ef : Addr) (h12 : ea ≠ em) (h13 : ea ≠ ef) (h23 : em ≠ ef) : Con Tryz.prog 61 [.iface 180 (.pointer (some em))] [] [cellsAt 2 0 [.iface 180 (.pointer (some ea))], cellsAt 3 0 [.iface 180 (.pointer (some em))], cellsAt 1 0 [.iface 180 (.pointer (some ef))], errAt ea, errAt em, errAt ef, cellsAt 0 0 [.iface 147 (.agg #[.pointer (some ⟨5, 48, none⟩)])]] (fun v L' I' => v = .int .i64 30 ∧ L' = [] ∧ I' = []) := by
 refine fn_of Tryz.func61 rfl Tryz.ntmps61 (by kernel_rfl) rfl (fun C => ?_)
 refine c_seq (c_region ?_)
 refine s_y rfl (v := .int .i64 0) (y_as rfl) rfl ?_
 refine s_nil (q_then (c_seq (c_region ?_)))
 refine st rfl (o_box (cs := [.nilIface, .int .i64 0]) (T := 131) rfl rfl rfl rfl (fun _ => by kernel_rfl) (fun b1 => ?_))
 refine s_nil (q_then (c_seq (c_seq (c_region ?_))))
 refine s_y rfl (v := .iface 180 (.pointer (some em))) (y_mv rfl) rfl ?_
 refine s_y rfl (v := .iface 144 (.pointer (some ⟨b1, 0, none⟩))) (y_k rfl rfl (fun _ => by kernel_rfl)) rfl ?_
 refine st rfl (o_call [0] [6] (As_miss_at_ em b1) rfl rfl rfl rfl rfl rfl (fun v L' I' hq1 => ?_))
 obtain ⟨rfl, rfl, rfl⟩ := hq1
 refine s_y rfl (v := .bool false) (y_mv rfl) rfl ?_
 refine st_off 7 rfl rfl rfl rfl rfl rfl ?_
 refine st_off 7 rfl rfl rfl rfl rfl rfl ?_
 refine st_off 7 rfl rfl rfl rfl rfl rfl ?_
 refine s_y rfl (v := .bool false) (y_pick rfl rfl) rfl ?_
 refine s_nil (q_then (c_false rfl (c_skip (q_then (c_seq (c_block (c_seq (c_region ?_))))))))
 refine s_y rfl (v := .iface 180 (.pointer (some em))) (y_mv rfl) rfl ?_
 refine st rfl (o_ldf 0 0 rfl rfl rfl Tryz.underlying48 rfl rfl ?_)
 refine st rfl (o_call [] [4, 3] (is_other_ em ea (by first | assumption | exact Ne.symm (by assumption))) rfl rfl rfl rfl rfl rfl (fun v L' I' hq2 => ?_))
 obtain ⟨rfl, rfl, rfl⟩ := hq2
 refine s_y rfl (v := .bool false) (y_as rfl) rfl ?_
 refine s_nil (q_then (c_false rfl (c_seq (c_region ?_))))
 refine s_y rfl (v := .iface 180 (.pointer (some em))) (y_mv rfl) rfl ?_
 refine st rfl (o_ldf 1 0 rfl rfl rfl Tryz.underlying48 rfl rfl ?_)
 refine st rfl (o_call [] [] (is_same_ em) rfl rfl rfl rfl rfl rfl (fun v L' I' hq3 => ?_))
 obtain ⟨rfl, rfl, rfl⟩ := hq3
 refine s_y rfl (v := .bool true) (y_as rfl) rfl ?_
 refine s_nil (q_then (c_true rfl (c_seq (c_region ?_))))
 refine s_y rfl (v := .int .i64 30) (y_as rfl) rfl ?_
 refine s_nil (q_then (c_ret (q_block_ret (q_then_ret ?_))))
 refine c_fin (I' := []) [] [0, 1, 2, 3, 4, 5, 6] rfl (.tmp rfl .nil) rfl rfl rfl ?_
 exact ⟨rfl, rfl, rfl⟩
theorem told_ef_ (ea : Addr) (em : Addr) (ef : Addr) (h12 : ea ≠ em) (h13 : ea ≠ ef) (h23 : em ≠ ef) : Con Tryz.prog 61 [.iface 180 (.pointer (some ef))] [] [cellsAt 2 0 [.iface 180 (.pointer (some ea))], cellsAt 3 0 [.iface 180 (.pointer (some em))], cellsAt 1 0 [.iface 180 (.pointer (some ef))], errAt ea, errAt em, errAt ef, cellsAt 0 0 [.iface 147 (.agg #[.pointer (some ⟨5, 48, none⟩)])]] (fun v L' I' => v = .int .i64 31 ∧ L' = [] ∧ I' = []) := by
 refine fn_of Tryz.func61 rfl Tryz.ntmps61 (by kernel_rfl) rfl (fun C => ?_)
 refine c_seq (c_region ?_)
 refine s_y rfl (v := .int .i64 0) (y_as rfl) rfl ?_
 refine s_nil (q_then (c_seq (c_region ?_)))
 refine st rfl (o_box (cs := [.nilIface, .int .i64 0]) (T := 131) rfl rfl rfl rfl (fun _ => by kernel_rfl) (fun b1 => ?_))
 refine s_nil (q_then (c_seq (c_seq (c_region ?_))))
 refine s_y rfl (v := .iface 180 (.pointer (some ef))) (y_mv rfl) rfl ?_
 refine s_y rfl (v := .iface 144 (.pointer (some ⟨b1, 0, none⟩))) (y_k rfl rfl (fun _ => by kernel_rfl)) rfl ?_
 refine st rfl (o_call [0] [6] (As_miss_at_ ef b1) rfl rfl rfl rfl rfl rfl (fun v L' I' hq1 => ?_))
 obtain ⟨rfl, rfl, rfl⟩ := hq1
 refine s_y rfl (v := .bool false) (y_mv rfl) rfl ?_
 refine st_off 7 rfl rfl rfl rfl rfl rfl ?_
 refine st_off 7 rfl rfl rfl rfl rfl rfl ?_
 refine st_off 7 rfl rfl rfl rfl rfl rfl ?_
 refine s_y rfl (v := .bool false) (y_pick rfl rfl) rfl ?_
 refine s_nil (q_then (c_false rfl (c_skip (q_then (c_seq (c_block (c_seq (c_region ?_))))))))
 refine s_y rfl (v := .iface 180 (.pointer (some ef))) (y_mv rfl) rfl ?_
 refine st rfl (o_ldf 0 0 rfl rfl rfl Tryz.underlying48 rfl rfl ?_)
 refine st rfl (o_call [] [5, 3] (is_other_ ef ea (by first | assumption | exact Ne.symm (by assumption))) rfl rfl rfl rfl rfl rfl (fun v L' I' hq2 => ?_))
 obtain ⟨rfl, rfl, rfl⟩ := hq2
 refine s_y rfl (v := .bool false) (y_as rfl) rfl ?_
 refine s_nil (q_then (c_false rfl (c_seq (c_region ?_))))
 refine s_y rfl (v := .iface 180 (.pointer (some ef))) (y_mv rfl) rfl ?_
 refine st rfl (o_ldf 1 0 rfl rfl rfl Tryz.underlying48 rfl rfl ?_)
 refine st rfl (o_call [] [5, 4] (is_other_ ef em (by first | assumption | exact Ne.symm (by assumption))) rfl rfl rfl rfl rfl rfl (fun v L' I' hq3 => ?_))
 obtain ⟨rfl, rfl, rfl⟩ := hq3
 refine s_y rfl (v := .bool false) (y_as rfl) rfl ?_
 refine s_nil (q_then (c_false rfl (c_seq (c_region ?_))))
 refine s_y rfl (v := .iface 180 (.pointer (some ef))) (y_mv rfl) rfl ?_
 refine st rfl (o_ldf 2 0 rfl rfl rfl Tryz.underlying48 rfl rfl ?_)
 refine st rfl (o_call [] [] (is_same_ ef) rfl rfl rfl rfl rfl rfl (fun v L' I' hq4 => ?_))
 obtain ⟨rfl, rfl, rfl⟩ := hq4
 refine s_y rfl (v := .bool true) (y_as rfl) rfl ?_
 refine s_nil (q_then (c_true rfl (c_seq (c_region ?_))))
 refine s_y rfl (v := .int .i64 31) (y_as rfl) rfl ?_
 refine s_nil (q_then (c_ret (q_block_ret (q_then_ret ?_))))
 refine c_fin (I' := []) [] [0, 1, 2, 3, 4, 5, 6] rfl (.tmp rfl .nil) rfl rfl rfl ?_
 exact ⟨rfl, rfl, rfl⟩
theorem told_at_ea_ (ea : Addr) (em : Addr) (ef : Addr) (h12 : ea ≠ em) (h13 : ea ≠ ef) (h23 : em ≠ ef) (k : Nat) : Con Tryz.prog 61 [.iface 131 (.agg #[.iface 180 (.pointer (some ea)), .int .i64 (k : Int)])] [] [cellsAt 2 0 [.iface 180 (.pointer (some ea))], cellsAt 3 0 [.iface 180 (.pointer (some em))], cellsAt 1 0 [.iface 180 (.pointer (some ef))], errAt ea, errAt em, errAt ef, cellsAt 0 0 [.iface 147 (.agg #[.pointer (some ⟨5, 48, none⟩)])]] (fun v L' I' => v = .int .i64 2 ∧ L' = [] ∧ I' = []) := by
 refine fn_of Tryz.func61 rfl Tryz.ntmps61 (by kernel_rfl) rfl (fun C => ?_)
 refine c_seq (c_region ?_)
 refine s_y rfl (v := .int .i64 0) (y_as rfl) rfl ?_
 refine s_nil (q_then (c_seq (c_region ?_)))
 refine st rfl (o_box (cs := [.nilIface, .int .i64 0]) (T := 131) rfl rfl rfl rfl (fun _ => by kernel_rfl) (fun b1 => ?_))
 refine s_nil (q_then (c_seq (c_seq (c_region ?_))))
 refine s_y rfl (v := .iface 131 (.agg #[.iface 180 (.pointer (some ea)), .int .i64 (k : Int)])) (y_mv rfl) rfl ?_
 refine s_y rfl (v := .iface 144 (.pointer (some ⟨b1, 0, none⟩))) (y_k rfl rfl (fun _ => by kernel_rfl)) rfl ?_
 refine st rfl (o_call [0] [6] (As_hit_at_ ea k b1) rfl rfl rfl rfl rfl rfl (fun v L' I' hq1 => ?_))
 obtain ⟨rfl, rfl, rfl⟩ := hq1
 refine s_y rfl (v := .bool true) (y_mv rfl) rfl ?_
 refine st_on 7 rfl rfl rfl (o_y (v := .pointer (some ⟨b1, 1, none⟩)) (y_k rfl rfl (fun _ => by kernel_rfl)) rfl rfl rfl ?_)
 refine st_on 7 rfl rfl rfl (o_ld 0 rfl rfl rfl Tryz.underlying3 rfl rfl ?_)
 have h24 : ¬ ((k : Int) < 0) := by omega
 refine st_on 7 rfl rfl rfl (o_y (v := .bool false) (y_f (y_k (v := .bool (decide ((k : Int) < 0))) rfl rfl (fun _ => by kernel_rfl)) h24) rfl rfl rfl ?_)
 refine s_y rfl (v := .bool false) (y_pick rfl rfl) rfl ?_
 refine s_nil (q_then (c_false rfl (c_skip (q_then (c_seq (c_block (c_seq (c_region ?_))))))))
 refine s_y rfl (v := .iface 131 (.agg #[.iface 180 (.pointer (some ea)), .int .i64 (k : Int)])) (y_mv rfl) rfl ?_
 refine st rfl (o_ldf 0 0 rfl rfl rfl Tryz.underlying48 rfl rfl ?_)
 refine st rfl (o_call [] [] (is_at_same_ ea k) rfl rfl rfl rfl rfl rfl (fun v L' I' hq2 => ?_))
 obtain ⟨rfl, rfl, rfl⟩ := hq2
 refine s_y rfl (v := .bool true) (y_as rfl) rfl ?_
 refine s_nil (q_then (c_true rfl (c_seq (c_region ?_))))
 refine s_y rfl (v := .int .i64 2) (y_as rfl) rfl ?_
 refine s_nil (q_then (c_ret (q_block_ret (q_then_ret ?_))))
 refine c_fin (I' := []) [] [0, 1, 2, 3, 4, 5, 6] rfl (.tmp rfl .nil) rfl rfl rfl ?_
 exact ⟨rfl, rfl, rfl⟩
theorem told_at_em_ (ea : Addr) (em : Addr) (ef : Addr) (h12 : ea ≠ em) (h13 : ea ≠ ef) (h23 : em ≠ ef) (k : Nat) : Con Tryz.prog 61 [.iface 131 (.agg #[.iface 180 (.pointer (some em)), .int .i64 (k : Int)])] [] [cellsAt 2 0 [.iface 180 (.pointer (some ea))], cellsAt 3 0 [.iface 180 (.pointer (some em))], cellsAt 1 0 [.iface 180 (.pointer (some ef))], errAt ea, errAt em, errAt ef, cellsAt 0 0 [.iface 147 (.agg #[.pointer (some ⟨5, 48, none⟩)])]] (fun v L' I' => v = .int .i64 30 ∧ L' = [] ∧ I' = []) := by
 refine fn_of Tryz.func61 rfl Tryz.ntmps61 (by kernel_rfl) rfl (fun C => ?_)
 refine c_seq (c_region ?_)
 refine s_y rfl (v := .int .i64 0) (y_as rfl) rfl ?_
 refine s_nil (q_then (c_seq (c_region ?_)))
 refine st rfl (o_box (cs := [.nilIface, .int .i64 0]) (T := 131) rfl rfl rfl rfl (fun _ => by kernel_rfl) (fun b1 => ?_))
 refine s_nil (q_then (c_seq (c_seq (c_region ?_))))
 refine s_y rfl (v := .iface 131 (.agg #[.iface 180 (.pointer (some em)), .int .i64 (k : Int)])) (y_mv rfl) rfl ?_
 refine s_y rfl (v := .iface 144 (.pointer (some ⟨b1, 0, none⟩))) (y_k rfl rfl (fun _ => by kernel_rfl)) rfl ?_
 refine st rfl (o_call [0] [6] (As_hit_at_ em k b1) rfl rfl rfl rfl rfl rfl (fun v L' I' hq1 => ?_))
 obtain ⟨rfl, rfl, rfl⟩ := hq1
 refine s_y rfl (v := .bool true) (y_mv rfl) rfl ?_
 refine st_on 7 rfl rfl rfl (o_y (v := .pointer (some ⟨b1, 1, none⟩)) (y_k rfl rfl (fun _ => by kernel_rfl)) rfl rfl rfl ?_)
 refine st_on 7 rfl rfl rfl (o_ld 0 rfl rfl rfl Tryz.underlying3 rfl rfl ?_)
 have h24 : ¬ ((k : Int) < 0) := by omega
 refine st_on 7 rfl rfl rfl (o_y (v := .bool false) (y_f (y_k (v := .bool (decide ((k : Int) < 0))) rfl rfl (fun _ => by kernel_rfl)) h24) rfl rfl rfl ?_)
 refine s_y rfl (v := .bool false) (y_pick rfl rfl) rfl ?_
 refine s_nil (q_then (c_false rfl (c_skip (q_then (c_seq (c_block (c_seq (c_region ?_))))))))
 refine s_y rfl (v := .iface 131 (.agg #[.iface 180 (.pointer (some em)), .int .i64 (k : Int)])) (y_mv rfl) rfl ?_
 refine st rfl (o_ldf 0 0 rfl rfl rfl Tryz.underlying48 rfl rfl ?_)
 refine st rfl (o_call [] [4, 3] (is_at_other_ em k ea (by first | assumption | exact Ne.symm (by assumption))) rfl rfl rfl rfl rfl rfl (fun v L' I' hq2 => ?_))
 obtain ⟨rfl, rfl, rfl⟩ := hq2
 refine s_y rfl (v := .bool false) (y_as rfl) rfl ?_
 refine s_nil (q_then (c_false rfl (c_seq (c_region ?_))))
 refine s_y rfl (v := .iface 131 (.agg #[.iface 180 (.pointer (some em)), .int .i64 (k : Int)])) (y_mv rfl) rfl ?_
 refine st rfl (o_ldf 1 0 rfl rfl rfl Tryz.underlying48 rfl rfl ?_)
 refine st rfl (o_call [] [] (is_at_same_ em k) rfl rfl rfl rfl rfl rfl (fun v L' I' hq3 => ?_))
 obtain ⟨rfl, rfl, rfl⟩ := hq3
 refine s_y rfl (v := .bool true) (y_as rfl) rfl ?_
 refine s_nil (q_then (c_true rfl (c_seq (c_region ?_))))
 refine s_y rfl (v := .int .i64 30) (y_as rfl) rfl ?_
 refine s_nil (q_then (c_ret (q_block_ret (q_then_ret ?_))))
 refine c_fin (I' := []) [] [0, 1, 2, 3, 4, 5, 6] rfl (.tmp rfl .nil) rfl rfl rfl ?_
 exact ⟨rfl, rfl, rfl⟩
theorem told_at_ef_ (ea : Addr) (em : Addr) (ef : Addr) (h12 : ea ≠ em) (h13 : ea ≠ ef) (h23 : em ≠ ef) (k : Nat) : Con Tryz.prog 61 [.iface 131 (.agg #[.iface 180 (.pointer (some ef)), .int .i64 (k : Int)])] [] [cellsAt 2 0 [.iface 180 (.pointer (some ea))], cellsAt 3 0 [.iface 180 (.pointer (some em))], cellsAt 1 0 [.iface 180 (.pointer (some ef))], errAt ea, errAt em, errAt ef, cellsAt 0 0 [.iface 147 (.agg #[.pointer (some ⟨5, 48, none⟩)])]] (fun v L' I' => v = .int .i64 31 ∧ L' = [] ∧ I' = []) := by
 refine fn_of Tryz.func61 rfl Tryz.ntmps61 (by kernel_rfl) rfl (fun C => ?_)
 refine c_seq (c_region ?_)
 refine s_y rfl (v := .int .i64 0) (y_as rfl) rfl ?_
 refine s_nil (q_then (c_seq (c_region ?_)))
 refine st rfl (o_box (cs := [.nilIface, .int .i64 0]) (T := 131) rfl rfl rfl rfl (fun _ => by kernel_rfl) (fun b1 => ?_))
 refine s_nil (q_then (c_seq (c_seq (c_region ?_))))
 refine s_y rfl (v := .iface 131 (.agg #[.iface 180 (.pointer (some ef)), .int .i64 (k : Int)])) (y_mv rfl) rfl ?_
 refine s_y rfl (v := .iface 144 (.pointer (some ⟨b1, 0, none⟩))) (y_k rfl rfl (fun _ => by kernel_rfl)) rfl ?_
 refine st rfl (o_call [0] [6] (As_hit_at_ ef k b1) rfl rfl rfl rfl rfl rfl (fun v L' I' hq1 => ?_))
 obtain ⟨rfl, rfl, rfl⟩ := hq1
 refine s_y rfl (v := .bool true) (y_mv rfl) rfl ?_
 refine st_on 7 rfl rfl rfl (o_y (v := .pointer (some ⟨b1, 1, none⟩)) (y_k rfl rfl (fun _ => by kernel_rfl)) rfl rfl rfl ?_)
 refine st_on 7 rfl rfl rfl (o_ld 0 rfl rfl rfl Tryz.underlying3 rfl rfl ?_)
 have h24 : ¬ ((k : Int) < 0) := by omega
 refine st_on 7 rfl rfl rfl (o_y (v := .bool false) (y_f (y_k (v := .bool (decide ((k : Int) < 0))) rfl rfl (fun _ => by kernel_rfl)) h24) rfl rfl rfl ?_)
 refine s_y rfl (v := .bool false) (y_pick rfl rfl) rfl ?_
 refine s_nil (q_then (c_false rfl (c_skip (q_then (c_seq (c_block (c_seq (c_region ?_))))))))
 refine s_y rfl (v := .iface 131 (.agg #[.iface 180 (.pointer (some ef)), .int .i64 (k : Int)])) (y_mv rfl) rfl ?_
 refine st rfl (o_ldf 0 0 rfl rfl rfl Tryz.underlying48 rfl rfl ?_)
 refine st rfl (o_call [] [5, 3] (is_at_other_ ef k ea (by first | assumption | exact Ne.symm (by assumption))) rfl rfl rfl rfl rfl rfl (fun v L' I' hq2 => ?_))
 obtain ⟨rfl, rfl, rfl⟩ := hq2
 refine s_y rfl (v := .bool false) (y_as rfl) rfl ?_
 refine s_nil (q_then (c_false rfl (c_seq (c_region ?_))))
 refine s_y rfl (v := .iface 131 (.agg #[.iface 180 (.pointer (some ef)), .int .i64 (k : Int)])) (y_mv rfl) rfl ?_
 refine st rfl (o_ldf 1 0 rfl rfl rfl Tryz.underlying48 rfl rfl ?_)
 refine st rfl (o_call [] [5, 4] (is_at_other_ ef k em (by first | assumption | exact Ne.symm (by assumption))) rfl rfl rfl rfl rfl rfl (fun v L' I' hq3 => ?_))
 obtain ⟨rfl, rfl, rfl⟩ := hq3
 refine s_y rfl (v := .bool false) (y_as rfl) rfl ?_
 refine s_nil (q_then (c_false rfl (c_seq (c_region ?_))))
 refine s_y rfl (v := .iface 131 (.agg #[.iface 180 (.pointer (some ef)), .int .i64 (k : Int)])) (y_mv rfl) rfl ?_
 refine st rfl (o_ldf 2 0 rfl rfl rfl Tryz.underlying48 rfl rfl ?_)
 refine st rfl (o_call [] [] (is_at_same_ ef k) rfl rfl rfl rfl rfl rfl (fun v L' I' hq4 => ?_))
 obtain ⟨rfl, rfl, rfl⟩ := hq4
 refine s_y rfl (v := .bool true) (y_as rfl) rfl ?_
 refine s_nil (q_then (c_true rfl (c_seq (c_region ?_))))
 refine s_y rfl (v := .int .i64 31) (y_as rfl) rfl ?_
 refine s_nil (q_then (c_ret (q_block_ret (q_then_ret ?_))))
 refine c_fin (I' := []) [] [0, 1, 2, 3, 4, 5, 6] rfl (.tmp rfl .nil) rfl rfl rfl ?_
 exact ⟨rfl, rfl, rfl⟩

def isW (w : Int) : Prop := w = 1 ∨ w = 2 ∨ w = 4 ∨ w = 8
def bitsF (w : Int) : Int := if w = 1 then 8 else if w = 2 then 16 else if w = 4 then 32 else if w = 8 then 64 else 0
def bitsR (w : Int) : Option (Nat × Value) := if w = 1 then some (0, .int .i64 8) else if w = 2 then some (1, .int .i64 16) else if w = 4 then some (2, .int .i64 32) else if w = 8 then some (3, .int .i64 64) else none
theorem bits_find (w : Int) : Instr.findNow (.int .i64) (.int .i64 w) [⟨.int .i64 1, .int .i64 8, 0⟩, ⟨.int .i64 2, .int .i64 16, 1⟩, ⟨.int .i64 4, .int .i64 32, 2⟩, ⟨.int .i64 8, .int .i64 64, 3⟩] 0 = some (bitsR w) := by
  unfold bitsR
  by_cases h1 : w = 1
  · subst h1; rfl
  by_cases h2 : w = 2
  · subst h2; rfl
  by_cases h4 : w = 4
  · subst h4; rfl
  by_cases h8 : w = 8
  · subst h8; rfl
  simp [Instr.findNow, Instr.sameNow, h1, h2, h4, h8, beq_eq_false_iff_ne.2 h1, beq_eq_false_iff_ne.2 h2, beq_eq_false_iff_ne.2 h4, beq_eq_false_iff_ne.2 h8]
theorem bits_val (w : Int) : ((bitsR w).map Prod.snd).getD (.int .i64 0) = .int .i64 (bitsF w) := by
  unfold bitsR bitsF
  repeat' split
  all_goals rfl
instance isWd0 (w : Int) : Decidable (isW w) := by unfold isW; infer_instance
theorem bits_ok (w : Int) : (bitsR w).isSome = decide (isW w) := by
  unfold bitsR
  split
  · rename_i h; subst h; rfl
  split
  · rename_i h; subst h; rfl
  split
  · rename_i h; subst h; rfl
  split
  · rename_i h; subst h; rfl
  · symm; apply decide_eq_false; unfold isW; omega
theorem bits_eq {w : Int} (h : isW w) : bitsF w = 8 * w := by
  rcases h with rfl | rfl | rfl | rfl <;> rfl

abbrev Er := Option (Nat × Nat)
def sV (ea em ef : Addr) : Nat → Addr | 0 => ea | 1 => em | _ => ef
def erV (ea em ef : Addr) : Er → Value
  | none => .nilIface
  | some (i, k) => .iface 131 (.agg #[.iface 180 (.pointer (some (sV ea em ef i))), .int .i64 (k : Int)])
def erN : Er → Int | none => 0 | some (0, _) => 2 | some (1, _) => 30 | some _ => 31
theorem er_ne (ea em ef : Addr) (q : Er) (i : Nat) (w : World) : (do eqGuard .neq 48 (.tmp i) (.const .nilIface) (erV ea em ef q) .nilIface; binOp .neq 48 (erV ea em ef q) .nilIface : Sem Value).run Tryz.prog w = .ok (.bool (!decide (q = none))) w := by
  rcases q with _ | ⟨i, k⟩
  · kernel_rfl
  · kernel_rfl
theorem er_eq (ea em ef : Addr) (q : Er) (i : Nat) (w : World) : (do eqGuard .eql 48 (.tmp i) (.const .nilIface) (erV ea em ef q) .nilIface; binOp .eql 48 (erV ea em ef q) .nilIface : Sem Value).run Tryz.prog w = .ok (.bool (decide (q = none))) w := by
  rcases q with _ | ⟨i, k⟩
  · kernel_rfl
  · kernel_rfl
end Go.Proofs.YtcnncdniibkjkaaGreatDoor
