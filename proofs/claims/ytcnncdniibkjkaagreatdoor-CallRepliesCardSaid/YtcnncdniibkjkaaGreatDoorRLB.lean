/- The laws of chapter 17 (call), walked over the given program; no condition but what stands in each theorem: part LB. -/
import Derived.Test.YtcnncdniibkjkaaGreatDoorRB
set_option linter.unusedVariables false
set_option linter.unusedSimpArgs false
set_option maxRecDepth 100000
set_option maxHeartbeats 8000000
namespace Go.Proofs.YtcnncdniibkjkaaGreatDoor
open Go Go.Sl Go.RowKit Go.Extern.Stop Go.Stop Go.Extern
theorem unwrap_lw_ (a : Addr) : Con Tryz.prog 140 [.agg #[.int .i64 20, .iface 180 (.pointer (some a))]] [] [] (fun v L' I' => v = .iface 180 (.pointer (some a)) ∧ L' = [] ∧ I' = []) := by
 refine fn_of Tryz.func140 rfl Tryz.ntmps140 (by kernel_rfl) rfl (fun C => ?_)
 refine c_seq (c_region ?_)
 refine st rfl (o_box (cs := [.int .i64 20, .iface 180 (.pointer (some a))]) (T := 165) rfl rfl rfl rfl (fun _ => by kernel_rfl) (fun b1 => ?_))
 refine s_y rfl (v := .nilIface) (y_as rfl) rfl ?_
 refine s_nil (q_then (c_seq (c_region ?_)))
 refine s_y rfl (v := .pointer (some ⟨b1, 1, none⟩)) (y_k rfl rfl (fun _ => by kernel_rfl)) rfl ?_
 refine st rfl (o_ld 0 rfl rfl rfl Tryz.underlying48 rfl rfl ?_)
 refine s_y rfl (v := .iface 180 (.pointer (some a))) (y_as rfl) rfl ?_
 refine s_nil (q_then (c_ret ?_))
 refine c_fin (I' := []) [] [] rfl (.tmp rfl .nil) rfl rfl rfl ?_
 exact ⟨rfl, rfl, rfl⟩
theorem is1_lw_same_ (a : Addr) : Con Tryz.prog 99 [.iface 165 (.agg #[.int .i64 20, .iface 180 (.pointer (some a))]), .iface 180 (.pointer (some a)), .bool true] [] [] (fun v L' I' => v = .bool true ∧ L' = [] ∧ I' = []) := by
 refine fn_of Tryz.func99 rfl Tryz.ntmps99 (by kernel_rfl) rfl (fun C => ?_)
 refine c_seq (c_region ?_)
 refine s_y rfl (v := .bool false) (y_as rfl) rfl ?_
 refine s_nil (q_then (c_block ?_))
 refine c_unroll 2 ?_
 refine c_round ?_
 refine c_block (c_seq (c_seq (c_region ?_)))
 refine s_y rfl (v := .bool true) (y_mv rfl) rfl ?_
 refine s_y rfl (v := .bool true) (y_mv rfl) rfl ?_
 refine st_on 15 rfl rfl rfl (o_y (v := .iface 165 (.agg #[.int .i64 20, .iface 180 (.pointer (some a))])) (y_mv rfl) rfl rfl rfl ?_)
 refine st_on 15 rfl rfl rfl (o_y (v := .iface 180 (.pointer (some a))) (y_mv rfl) rfl rfl rfl ?_)
 refine st_on 15 rfl rfl rfl (o_y (v := .bool false) (y_k rfl rfl (fun _ => by kernel_rfl)) rfl rfl rfl ?_)
 refine s_y rfl (v := .bool false) (y_pick rfl rfl) rfl ?_
 refine s_nil (q_then (c_false rfl (c_skip (q_then (c_seq (c_seq (c_region ?_)))))))
 refine s_y rfl (v := .iface 165 (.agg #[.int .i64 20, .iface 180 (.pointer (some a))])) (y_mv rfl) rfl ?_
 refine s_y rfl (v := .tuple #[.nilIface, .bool false]) (y_lacks rfl Tryz.underlying176 (by kernel_rfl) (by kernel_rfl)) rfl ?_
 refine s_y rfl (v := .tuple #[.nilIface, .bool false]) (y_mv rfl) rfl ?_
 refine s_y rfl (v := .nilIface) (y_k rfl rfl (fun _ => by kernel_rfl)) rfl ?_
 refine s_y rfl (v := .bool false) (y_k rfl rfl (fun _ => by kernel_rfl)) rfl ?_
 refine s_y rfl (v := .nilIface) (y_as rfl) rfl ?_
 refine s_y rfl (v := .bool false) (y_as rfl) rfl ?_
 refine s_nil (q_then (c_seq (c_region ?_)))
 refine s_y rfl (v := .bool false) (y_mv rfl) rfl ?_
 refine s_y rfl (v := .bool false) (y_mv rfl) rfl ?_
 refine st_off 26 rfl rfl rfl rfl rfl rfl ?_
 refine st_off 26 rfl rfl rfl rfl rfl rfl ?_
 refine st_off 26 rfl rfl rfl rfl rfl rfl ?_
 refine s_y rfl (v := .bool false) (y_pick rfl rfl) rfl ?_
 refine s_nil (q_then (c_false rfl (c_skip (q_then (c_seq (c_region ?_))))))
 refine s_y rfl (v := .iface 165 (.agg #[.int .i64 20, .iface 180 (.pointer (some a))])) (y_mv rfl) rfl ?_
 refine s_nil (q_then (c_block (c_seq (c_region ?_))))
 refine s_y rfl (v := .tuple #[.iface 165 (.agg #[.int .i64 20, .iface 180 (.pointer (some a))]), .bool true]) (y_has rfl Tryz.underlying155 (by kernel_rfl)) rfl ?_
 refine s_y rfl (v := .bool true) (y_k rfl rfl (fun _ => by kernel_rfl)) rfl ?_
 refine s_y rfl (v := .iface 165 (.agg #[.int .i64 20, .iface 180 (.pointer (some a))])) (y_k rfl rfl (fun _ => by kernel_rfl)) rfl ?_
 refine s_nil (q_then (c_true rfl (c_seq (c_region ?_))))
 refine s_y rfl (v := .iface 165 (.agg #[.int .i64 20, .iface 180 (.pointer (some a))])) (y_as rfl) rfl ?_
 refine s_nil (q_then (c_seq (c_region ?_)))
 refine s_y rfl (v := .iface 165 (.agg #[.int .i64 20, .iface 180 (.pointer (some a))])) (y_mv rfl) rfl ?_
 refine st rfl (o_into [] [] (unwrap_lw_ a) rfl rfl rfl (fun _ => by kernel_rfl) rfl rfl rfl (fun v L' I' hq1 => ?_))
 obtain ⟨rfl, rfl, rfl⟩ := hq1
 refine s_y rfl (v := .iface 180 (.pointer (some a))) (y_as rfl) rfl ?_
 refine s_nil (q_then (c_seq (c_region ?_)))
 refine s_y rfl (v := .iface 180 (.pointer (some a))) (y_mv rfl) rfl ?_
 refine s_y rfl (v := .bool false) (y_k rfl rfl (fun _ => by kernel_rfl)) rfl ?_
 refine s_nil (q_then (c_false rfl (c_skip (q_block (q_block (q_then ?_))))))
 refine c_round ?_
 refine c_block (c_seq (c_seq (c_region ?_)))
 refine s_y rfl (v := .bool true) (y_mv rfl) rfl ?_
 refine s_y rfl (v := .bool true) (y_mv rfl) rfl ?_
 refine st_on 15 rfl rfl rfl (o_y (v := .iface 180 (.pointer (some a))) (y_mv rfl) rfl rfl rfl ?_)
 refine st_on 15 rfl rfl rfl (o_y (v := .iface 180 (.pointer (some a))) (y_mv rfl) rfl rfl rfl ?_)
 refine st_on 15 rfl rfl rfl (o_y (v := .bool true) (y_ifsame rfl rfl Tryz.underlying48 Tryz.underlying180 (by kernel_rfl) (by kernel_rfl)) rfl rfl rfl ?_)
 refine s_y rfl (v := .bool true) (y_pick rfl rfl) rfl ?_
 refine s_nil (q_then (c_true rfl (c_seq (c_region ?_))))
 refine s_y rfl (v := .bool true) (y_as rfl) rfl ?_
 refine s_nil (q_then (c_ret (q_then_ret (q_block_ret (q_then_ret (q_block_ret ?_))))))
 refine c_fin (I' := []) [] [] rfl (.tmp rfl .nil) rfl rfl rfl ?_
 exact ⟨rfl, rfl, rfl⟩
theorem is1_lw_other_ (a : Addr) (b : Addr) (hne : a ≠ b) : Con Tryz.prog 99 [.iface 165 (.agg #[.int .i64 20, .iface 180 (.pointer (some a))]), .iface 180 (.pointer (some b)), .bool true] [] [errAt a, errAt b] (fun v L' I' => v = .bool false ∧ L' = [] ∧ I' = []) := by
 refine fn_of Tryz.func99 rfl Tryz.ntmps99 (by kernel_rfl) rfl (fun C => ?_)
 refine c_seq (c_region ?_)
 refine s_y rfl (v := .bool false) (y_as rfl) rfl ?_
 refine s_nil (q_then (c_block ?_))
 refine c_unroll 2 ?_
 refine c_round ?_
 refine c_block (c_seq (c_seq (c_region ?_)))
 refine s_y rfl (v := .bool true) (y_mv rfl) rfl ?_
 refine s_y rfl (v := .bool true) (y_mv rfl) rfl ?_
 refine st_on 15 rfl rfl rfl (o_y (v := .iface 165 (.agg #[.int .i64 20, .iface 180 (.pointer (some a))])) (y_mv rfl) rfl rfl rfl ?_)
 refine st_on 15 rfl rfl rfl (o_y (v := .iface 180 (.pointer (some b))) (y_mv rfl) rfl rfl rfl ?_)
 refine st_on 15 rfl rfl rfl (o_y (v := .bool false) (y_k rfl rfl (fun _ => by kernel_rfl)) rfl rfl rfl ?_)
 refine s_y rfl (v := .bool false) (y_pick rfl rfl) rfl ?_
 refine s_nil (q_then (c_false rfl (c_skip (q_then (c_seq (c_seq (c_region ?_)))))))
 refine s_y rfl (v := .iface 165 (.agg #[.int .i64 20, .iface 180 (.pointer (some a))])) (y_mv rfl) rfl ?_
 refine s_y rfl (v := .tuple #[.nilIface, .bool false]) (y_lacks rfl Tryz.underlying176 (by kernel_rfl) (by kernel_rfl)) rfl ?_
 refine s_y rfl (v := .tuple #[.nilIface, .bool false]) (y_mv rfl) rfl ?_
 refine s_y rfl (v := .nilIface) (y_k rfl rfl (fun _ => by kernel_rfl)) rfl ?_
 refine s_y rfl (v := .bool false) (y_k rfl rfl (fun _ => by kernel_rfl)) rfl ?_
 refine s_y rfl (v := .nilIface) (y_as rfl) rfl ?_
 refine s_y rfl (v := .bool false) (y_as rfl) rfl ?_
 refine s_nil (q_then (c_seq (c_region ?_)))
 refine s_y rfl (v := .bool false) (y_mv rfl) rfl ?_
 refine s_y rfl (v := .bool false) (y_mv rfl) rfl ?_
 refine st_off 26 rfl rfl rfl rfl rfl rfl ?_
 refine st_off 26 rfl rfl rfl rfl rfl rfl ?_
 refine st_off 26 rfl rfl rfl rfl rfl rfl ?_
 refine s_y rfl (v := .bool false) (y_pick rfl rfl) rfl ?_
 refine s_nil (q_then (c_false rfl (c_skip (q_then (c_seq (c_region ?_))))))
 refine s_y rfl (v := .iface 165 (.agg #[.int .i64 20, .iface 180 (.pointer (some a))])) (y_mv rfl) rfl ?_
 refine s_nil (q_then (c_block (c_seq (c_region ?_))))
 refine s_y rfl (v := .tuple #[.iface 165 (.agg #[.int .i64 20, .iface 180 (.pointer (some a))]), .bool true]) (y_has rfl Tryz.underlying155 (by kernel_rfl)) rfl ?_
 refine s_y rfl (v := .bool true) (y_k rfl rfl (fun _ => by kernel_rfl)) rfl ?_
 refine s_y rfl (v := .iface 165 (.agg #[.int .i64 20, .iface 180 (.pointer (some a))])) (y_k rfl rfl (fun _ => by kernel_rfl)) rfl ?_
 refine s_nil (q_then (c_true rfl (c_seq (c_region ?_))))
 refine s_y rfl (v := .iface 165 (.agg #[.int .i64 20, .iface 180 (.pointer (some a))])) (y_as rfl) rfl ?_
 refine s_nil (q_then (c_seq (c_region ?_)))
 refine s_y rfl (v := .iface 165 (.agg #[.int .i64 20, .iface 180 (.pointer (some a))])) (y_mv rfl) rfl ?_
 refine st rfl (o_into [] [] (unwrap_lw_ a) rfl rfl rfl (fun _ => by kernel_rfl) rfl rfl rfl (fun v L' I' hq1 => ?_))
 obtain ⟨rfl, rfl, rfl⟩ := hq1
 refine s_y rfl (v := .iface 180 (.pointer (some a))) (y_as rfl) rfl ?_
 refine s_nil (q_then (c_seq (c_region ?_)))
 refine s_y rfl (v := .iface 180 (.pointer (some a))) (y_mv rfl) rfl ?_
 refine s_y rfl (v := .bool false) (y_k rfl rfl (fun _ => by kernel_rfl)) rfl ?_
 refine s_nil (q_then (c_false rfl (c_skip (q_block (q_block (q_then ?_))))))
 refine c_round ?_
 refine c_block (c_seq (c_seq (c_region ?_)))
 refine s_y rfl (v := .bool true) (y_mv rfl) rfl ?_
 refine s_y rfl (v := .bool true) (y_mv rfl) rfl ?_
 refine st_on 15 rfl rfl rfl (o_y (v := .iface 180 (.pointer (some a))) (y_mv rfl) rfl rfl rfl ?_)
 refine st_on 15 rfl rfl rfl (o_y (v := .iface 180 (.pointer (some b))) (y_mv rfl) rfl rfl rfl ?_)
 refine st_on 15 rfl rfl rfl (o_ifother 0 1 rfl rfl (by first | assumption | exact Ne.symm (by assumption)) rfl rfl (fun _ h => h) (fun _ h => h) Tryz.underlying48 Tryz.underlying180 (by kernel_rfl) (by kernel_rfl) rfl ?_)
 refine s_y rfl (v := .bool false) (y_pick rfl rfl) rfl ?_
 refine s_nil (q_then (c_false rfl (c_skip (q_then (c_seq (c_seq (c_region ?_)))))))
 refine s_y rfl (v := .iface 180 (.pointer (some a))) (y_mv rfl) rfl ?_
 refine s_y rfl (v := .tuple #[.nilIface, .bool false]) (y_lacks rfl Tryz.underlying176 (by kernel_rfl) (by kernel_rfl)) rfl ?_
 refine s_y rfl (v := .tuple #[.nilIface, .bool false]) (y_mv rfl) rfl ?_
 refine s_y rfl (v := .nilIface) (y_k rfl rfl (fun _ => by kernel_rfl)) rfl ?_
 refine s_y rfl (v := .bool false) (y_k rfl rfl (fun _ => by kernel_rfl)) rfl ?_
 refine s_y rfl (v := .nilIface) (y_as rfl) rfl ?_
 refine s_y rfl (v := .bool false) (y_as rfl) rfl ?_
 refine s_nil (q_then (c_seq (c_region ?_)))
 refine s_y rfl (v := .bool false) (y_mv rfl) rfl ?_
 refine s_y rfl (v := .bool false) (y_mv rfl) rfl ?_
 refine st_off 26 rfl rfl rfl rfl rfl rfl ?_
 refine st_off 26 rfl rfl rfl rfl rfl rfl ?_
 refine st_off 26 rfl rfl rfl rfl rfl rfl ?_
 refine s_y rfl (v := .bool false) (y_pick rfl rfl) rfl ?_
 refine s_nil (q_then (c_false rfl (c_skip (q_then (c_seq (c_region ?_))))))
 refine s_y rfl (v := .iface 180 (.pointer (some a))) (y_mv rfl) rfl ?_
 refine s_nil (q_then (c_block (c_seq (c_region ?_))))
 refine s_y rfl (v := .tuple #[.nilIface, .bool false]) (y_lacks rfl Tryz.underlying155 (by kernel_rfl) (by kernel_rfl)) rfl ?_
 refine s_y rfl (v := .bool false) (y_k rfl rfl (fun _ => by kernel_rfl)) rfl ?_
 refine s_y rfl (v := .nilIface) (y_k rfl rfl (fun _ => by kernel_rfl)) rfl ?_
 refine s_nil (q_then (c_false rfl (c_seq (c_region ?_))))
 refine s_y rfl (v := .tuple #[.nilIface, .bool false]) (y_lacks rfl Tryz.underlying157 (by kernel_rfl) (by kernel_rfl)) rfl ?_
 refine s_y rfl (v := .bool false) (y_k rfl rfl (fun _ => by kernel_rfl)) rfl ?_
 refine s_y rfl (v := .nilIface) (y_k rfl rfl (fun _ => by kernel_rfl)) rfl ?_
 refine s_nil (q_then (c_false rfl (c_seq (c_region ?_))))
 refine s_y rfl (v := .iface 180 (.pointer (some a))) (y_as rfl) rfl ?_
 refine s_nil (q_then (c_seq (c_region ?_)))
 refine s_y rfl (v := .bool false) (y_as rfl) rfl ?_
 refine s_nil (q_then (c_ret (q_block_ret (q_block_ret (q_then_ret (q_block_ret ?_))))))
 refine c_fin (I' := []) [] [0, 1] rfl (.tmp rfl .nil) rfl rfl rfl ?_
 exact ⟨rfl, rfl, rfl⟩
theorem is_lw_same_ (a : Addr) : Con Tryz.prog 88 [.iface 165 (.agg #[.int .i64 20, .iface 180 (.pointer (some a))]), .iface 180 (.pointer (some a))] [] [] (fun v L' I' => v = .bool true ∧ L' = [] ∧ I' = []) := by
 refine fn_of Tryz.func88 rfl Tryz.ntmps88 (by kernel_rfl) rfl (fun C => ?_)
 refine c_seq (c_region ?_)
 refine s_y rfl (v := .bool false) (y_as rfl) rfl ?_
 refine s_nil (q_then (c_seq (c_seq (c_region ?_))))
 refine s_y rfl (v := .iface 165 (.agg #[.int .i64 20, .iface 180 (.pointer (some a))])) (y_mv rfl) rfl ?_
 refine s_y rfl (v := .bool false) (y_k rfl rfl (fun _ => by kernel_rfl)) rfl ?_
 refine s_y rfl (v := .bool false) (y_mv rfl) rfl ?_
 refine st_on 8 rfl rfl rfl (o_y (v := .iface 180 (.pointer (some a))) (y_mv rfl) rfl rfl rfl ?_)
 refine st_on 8 rfl rfl rfl (o_y (v := .bool false) (y_k rfl rfl (fun _ => by kernel_rfl)) rfl rfl rfl ?_)
 refine s_y rfl (v := .bool false) (y_pick rfl rfl) rfl ?_
 refine s_nil (q_then (c_false rfl (c_skip (q_then (c_seq (c_region ?_))))))
 refine s_y rfl (v := .iface 180 (.pointer (some a))) (y_mv rfl) rfl ?_
 refine s_y rfl (v := .iface 147 (.agg #[.pointer (some ⟨5, 180, none⟩)])) (y_k rfl rfl (fun _ => by kernel_rfl)) rfl ?_
 refine s_y rfl (v := .bool true) (y_k rfl rfl (fun _ => by kernel_rfl)) rfl ?_
 refine s_y rfl (v := .bool true) (y_as rfl) rfl ?_
 refine s_nil (q_then (c_seq (c_region ?_)))
 refine s_y rfl (v := .iface 165 (.agg #[.int .i64 20, .iface 180 (.pointer (some a))])) (y_mv rfl) rfl ?_
 refine s_y rfl (v := .iface 180 (.pointer (some a))) (y_mv rfl) rfl ?_
 refine s_y rfl (v := .bool true) (y_mv rfl) rfl ?_
 refine st rfl (o_call [] [] (is1_lw_same_ a) rfl rfl rfl rfl rfl rfl (fun v L' I' hq1 => ?_))
 obtain ⟨rfl, rfl, rfl⟩ := hq1
 refine s_y rfl (v := .bool true) (y_as rfl) rfl ?_
 refine s_nil (q_then (c_ret ?_))
 refine c_fin (I' := []) [] [] rfl (.tmp rfl .nil) rfl rfl rfl ?_
 exact ⟨rfl, rfl, rfl⟩
theorem is_lw_other_ (a : Addr) (b : Addr) (hne : a ≠ b) : Con Tryz.prog 88 [.iface 165 (.agg #[.int .i64 20, .iface 180 (.pointer (some a))]), .iface 180 (.pointer (some b))] [] [errAt a, errAt b] (fun v L' I' => v = .bool false ∧ L' = [] ∧ I' = []) := by
 refine fn_of Tryz.func88 rfl Tryz.ntmps88 (by kernel_rfl) rfl (fun C => ?_)
 refine c_seq (c_region ?_)
 refine s_y rfl (v := .bool false) (y_as rfl) rfl ?_
 refine s_nil (q_then (c_seq (c_seq (c_region ?_))))
 refine s_y rfl (v := .iface 165 (.agg #[.int .i64 20, .iface 180 (.pointer (some a))])) (y_mv rfl) rfl ?_
 refine s_y rfl (v := .bool false) (y_k rfl rfl (fun _ => by kernel_rfl)) rfl ?_
 refine s_y rfl (v := .bool false) (y_mv rfl) rfl ?_
 refine st_on 8 rfl rfl rfl (o_y (v := .iface 180 (.pointer (some b))) (y_mv rfl) rfl rfl rfl ?_)
 refine st_on 8 rfl rfl rfl (o_y (v := .bool false) (y_k rfl rfl (fun _ => by kernel_rfl)) rfl rfl rfl ?_)
 refine s_y rfl (v := .bool false) (y_pick rfl rfl) rfl ?_
 refine s_nil (q_then (c_false rfl (c_skip (q_then (c_seq (c_region ?_))))))
 refine s_y rfl (v := .iface 180 (.pointer (some b))) (y_mv rfl) rfl ?_
 refine s_y rfl (v := .iface 147 (.agg #[.pointer (some ⟨5, 180, none⟩)])) (y_k rfl rfl (fun _ => by kernel_rfl)) rfl ?_
 refine s_y rfl (v := .bool true) (y_k rfl rfl (fun _ => by kernel_rfl)) rfl ?_
 refine s_y rfl (v := .bool true) (y_as rfl) rfl ?_
 refine s_nil (q_then (c_seq (c_region ?_)))
 refine s_y rfl (v := .iface 165 (.agg #[.int .i64 20, .iface 180 (.pointer (some a))])) (y_mv rfl) rfl ?_
 refine s_y rfl (v := .iface 180 (.pointer (some b))) (y_mv rfl) rfl ?_
 refine s_y rfl (v := .bool true) (y_mv rfl) rfl ?_
 refine st rfl (o_call [] [0, 1] (is1_lw_other_ a b (by first | assumption | exact Ne.symm (by assumption))) rfl rfl rfl rfl rfl rfl (fun v L' I' hq1 => ?_))
 obtain ⟨rfl, rfl, rfl⟩ := hq1
 refine s_y rfl (v := .bool false) (y_as rfl) rfl ?_
 refine s_nil (q_then (c_ret ?_))
 refine c_fin (I' := []) [] [0, 1] rfl (.tmp rfl .nil) rfl rfl rfl ?_
 exact ⟨rfl, rfl, rfl⟩
theorem unwrap_lwn_ (k : Int) : Con Tryz.prog 140 [.agg #[.int .i64 k, .nilIface]] [] [] (fun v L' I' => v = .nilIface ∧ L' = [] ∧ I' = []) := by
 refine fn_of Tryz.func140 rfl Tryz.ntmps140 (by kernel_rfl) rfl (fun C => ?_)
 refine c_seq (c_region ?_)
 refine st rfl (o_box (cs := [.int .i64 k, .nilIface]) (T := 165) rfl rfl rfl rfl (fun _ => by kernel_rfl) (fun b1 => ?_))
 refine s_y rfl (v := .nilIface) (y_as rfl) rfl ?_
 refine s_nil (q_then (c_seq (c_region ?_)))
 refine s_y rfl (v := .pointer (some ⟨b1, 1, none⟩)) (y_k rfl rfl (fun _ => by kernel_rfl)) rfl ?_
 refine st rfl (o_ld 0 rfl rfl rfl Tryz.underlying48 rfl rfl ?_)
 refine s_y rfl (v := .nilIface) (y_as rfl) rfl ?_
 refine s_nil (q_then (c_ret ?_))
 refine c_fin (I' := []) [] [] rfl (.tmp rfl .nil) rfl rfl rfl ?_
 exact ⟨rfl, rfl, rfl⟩
theorem is1_lwn_ (k : Int) (b : Addr) : Con Tryz.prog 99 [.iface 165 (.agg #[.int .i64 k, .nilIface]), .iface 180 (.pointer (some b)), .bool true] [] [] (fun v L' I' => v = .bool false ∧ L' = [] ∧ I' = []) := by
 refine fn_of Tryz.func99 rfl Tryz.ntmps99 (by kernel_rfl) rfl (fun C => ?_)
 refine c_seq (c_region ?_)
 refine s_y rfl (v := .bool false) (y_as rfl) rfl ?_
 refine s_nil (q_then (c_block ?_))
 refine c_unroll 2 ?_
 refine c_round ?_
 refine c_block (c_seq (c_seq (c_region ?_)))
 refine s_y rfl (v := .bool true) (y_mv rfl) rfl ?_
 refine s_y rfl (v := .bool true) (y_mv rfl) rfl ?_
 refine st_on 15 rfl rfl rfl (o_y (v := .iface 165 (.agg #[.int .i64 k, .nilIface])) (y_mv rfl) rfl rfl rfl ?_)
 refine st_on 15 rfl rfl rfl (o_y (v := .iface 180 (.pointer (some b))) (y_mv rfl) rfl rfl rfl ?_)
 refine st_on 15 rfl rfl rfl (o_y (v := .bool false) (y_k rfl rfl (fun _ => by kernel_rfl)) rfl rfl rfl ?_)
 refine s_y rfl (v := .bool false) (y_pick rfl rfl) rfl ?_
 refine s_nil (q_then (c_false rfl (c_skip (q_then (c_seq (c_seq (c_region ?_)))))))
 refine s_y rfl (v := .iface 165 (.agg #[.int .i64 k, .nilIface])) (y_mv rfl) rfl ?_
 refine s_y rfl (v := .tuple #[.nilIface, .bool false]) (y_lacks rfl Tryz.underlying176 (by kernel_rfl) (by kernel_rfl)) rfl ?_
 refine s_y rfl (v := .tuple #[.nilIface, .bool false]) (y_mv rfl) rfl ?_
 refine s_y rfl (v := .nilIface) (y_k rfl rfl (fun _ => by kernel_rfl)) rfl ?_
 refine s_y rfl (v := .bool false) (y_k rfl rfl (fun _ => by kernel_rfl)) rfl ?_
 refine s_y rfl (v := .nilIface) (y_as rfl) rfl ?_
 refine s_y rfl (v := .bool false) (y_as rfl) rfl ?_
 refine s_nil (q_then (c_seq (c_region ?_)))
 refine s_y rfl (v := .bool false) (y_mv rfl) rfl ?_
 refine s_y rfl (v := .bool false) (y_mv rfl) rfl ?_
 refine st_off 26 rfl rfl rfl rfl rfl rfl ?_
 refine st_off 26 rfl rfl rfl rfl rfl rfl ?_
 refine st_off 26 rfl rfl rfl rfl rfl rfl ?_
 refine s_y rfl (v := .bool false) (y_pick rfl rfl) rfl ?_
 refine s_nil (q_then (c_false rfl (c_skip (q_then (c_seq (c_region ?_))))))
 refine s_y rfl (v := .iface 165 (.agg #[.int .i64 k, .nilIface])) (y_mv rfl) rfl ?_
 refine s_nil (q_then (c_block (c_seq (c_region ?_))))
 refine s_y rfl (v := .tuple #[.iface 165 (.agg #[.int .i64 k, .nilIface]), .bool true]) (y_has rfl Tryz.underlying155 (by kernel_rfl)) rfl ?_
 refine s_y rfl (v := .bool true) (y_k rfl rfl (fun _ => by kernel_rfl)) rfl ?_
 refine s_y rfl (v := .iface 165 (.agg #[.int .i64 k, .nilIface])) (y_k rfl rfl (fun _ => by kernel_rfl)) rfl ?_
 refine s_nil (q_then (c_true rfl (c_seq (c_region ?_))))
 refine s_y rfl (v := .iface 165 (.agg #[.int .i64 k, .nilIface])) (y_as rfl) rfl ?_
 refine s_nil (q_then (c_seq (c_region ?_)))
 refine s_y rfl (v := .iface 165 (.agg #[.int .i64 k, .nilIface])) (y_mv rfl) rfl ?_
 refine st rfl (o_into [] [] (unwrap_lwn_ k) rfl rfl rfl (fun _ => by kernel_rfl) rfl rfl rfl (fun v L' I' hq1 => ?_))
 obtain ⟨rfl, rfl, rfl⟩ := hq1
 refine s_y rfl (v := .nilIface) (y_as rfl) rfl ?_
 refine s_nil (q_then (c_seq (c_region ?_)))
 refine s_y rfl (v := .nilIface) (y_mv rfl) rfl ?_
 refine s_y rfl (v := .bool true) (y_k rfl rfl (fun _ => by kernel_rfl)) rfl ?_
 refine s_nil (q_then (c_true rfl (c_seq (c_region ?_))))
 refine s_y rfl (v := .bool false) (y_as rfl) rfl ?_
 refine s_nil (q_then (c_ret (q_block_ret (q_block_ret (q_then_ret (q_block_ret ?_))))))
 refine c_fin (I' := []) [] [] rfl (.tmp rfl .nil) rfl rfl rfl ?_
 exact ⟨rfl, rfl, rfl⟩
theorem is_lwn_ (k : Int) (b : Addr) : Con Tryz.prog 88 [.iface 165 (.agg #[.int .i64 k, .nilIface]), .iface 180 (.pointer (some b))] [] [] (fun v L' I' => v = .bool false ∧ L' = [] ∧ I' = []) := by
 refine fn_of Tryz.func88 rfl Tryz.ntmps88 (by kernel_rfl) rfl (fun C => ?_)
 refine c_seq (c_region ?_)
 refine s_y rfl (v := .bool false) (y_as rfl) rfl ?_
 refine s_nil (q_then (c_seq (c_seq (c_region ?_))))
 refine s_y rfl (v := .iface 165 (.agg #[.int .i64 k, .nilIface])) (y_mv rfl) rfl ?_
 refine s_y rfl (v := .bool false) (y_k rfl rfl (fun _ => by kernel_rfl)) rfl ?_
 refine s_y rfl (v := .bool false) (y_mv rfl) rfl ?_
 refine st_on 8 rfl rfl rfl (o_y (v := .iface 180 (.pointer (some b))) (y_mv rfl) rfl rfl rfl ?_)
 refine st_on 8 rfl rfl rfl (o_y (v := .bool false) (y_k rfl rfl (fun _ => by kernel_rfl)) rfl rfl rfl ?_)
 refine s_y rfl (v := .bool false) (y_pick rfl rfl) rfl ?_
 refine s_nil (q_then (c_false rfl (c_skip (q_then (c_seq (c_region ?_))))))
 refine s_y rfl (v := .iface 180 (.pointer (some b))) (y_mv rfl) rfl ?_
 refine s_y rfl (v := .iface 147 (.agg #[.pointer (some ⟨5, 180, none⟩)])) (y_k rfl rfl (fun _ => by kernel_rfl)) rfl ?_
 refine s_y rfl (v := .bool true) (y_k rfl rfl (fun _ => by kernel_rfl)) rfl ?_
 refine s_y rfl (v := .bool true) (y_as rfl) rfl ?_
 refine s_nil (q_then (c_seq (c_region ?_)))
 refine s_y rfl (v := .iface 165 (.agg #[.int .i64 k, .nilIface])) (y_mv rfl) rfl ?_
 refine s_y rfl (v := .iface 180 (.pointer (some b))) (y_mv rfl) rfl ?_
 refine s_y rfl (v := .bool true) (y_mv rfl) rfl ?_
 refine st rfl (o_call [] [] (is1_lwn_ k b) rfl rfl rfl rfl rfl rfl (fun v L' I' hq1 => ?_))
 obtain ⟨rfl, rfl, rfl⟩ := hq1
 refine s_y rfl (v := .bool false) (y_as rfl) rfl ?_
 refine s_nil (q_then (c_ret ?_))
 refine c_fin (I' := []) [] [] rfl (.tmp rfl .nil) rfl rfl rfl ?_
 exact ⟨rfl, rfl, rfl⟩
theorem as_hit_lwn_ (k : Int) (b : Nat) (b1 : Nat) : Con Tryz.prog 78 [.iface 165 (.agg #[.int .i64 k, .nilIface]), .iface 168 (.pointer (some ⟨b, 0, none⟩)), .agg #[.pointer (some ⟨5, 168, none⟩), .pointer (some ⟨b1, 0, none⟩), .int .u64 150], .iface 147 (.agg #[.pointer (some ⟨5, 165, none⟩)])] [pt b [.int .i64 0, .nilIface] 165, pt b1 [.pointer (some ⟨b, 0, none⟩)] 168] [] (fun v L' I' => v = .bool true ∧ L' = [pt b [.int .i64 k, .nilIface] 165] ∧ I' = []) := by
 refine fn_of Tryz.func78 rfl Tryz.ntmps78 (by kernel_rfl) rfl (fun C => ?_)
 refine c_seq (c_region ?_)
 refine st rfl (o_box (cs := [.pointer (some ⟨5, 168, none⟩), .pointer (some ⟨b1, 0, none⟩), .int .u64 150]) (T := 113) rfl rfl rfl rfl (fun _ => by kernel_rfl) (fun b2 => ?_))
 refine s_y rfl (v := .bool false) (y_as rfl) rfl ?_
 refine s_nil (q_then (c_block ?_))
 refine c_unroll 1 ?_
 refine c_round ?_
 refine c_block (c_seq (c_seq (c_region ?_)))
 refine s_y rfl (v := .iface 165 (.agg #[.int .i64 k, .nilIface])) (y_mv rfl) rfl ?_
 refine s_y rfl (v := .iface 147 (.agg #[.pointer (some ⟨5, 165, none⟩)])) (y_k rfl rfl (fun _ => by kernel_rfl)) rfl ?_
 refine s_y rfl (v := .iface 147 (.agg #[.pointer (some ⟨5, 165, none⟩)])) (y_mv rfl) rfl ?_
 refine s_y rfl (v := .bool true) (y_k rfl rfl (fun _ => by kernel_rfl)) rfl ?_
 refine s_nil (q_then (c_true rfl (c_seq (c_region ?_))))
 refine st rfl (o_ldn 0 3 rfl rfl rfl rfl Tryz.underlying113 rfl (by kernel_rfl) (by kernel_rfl) rfl ?_)
 refine st rfl (o_extr (H := ReflectliteValue.method (ReflectliteValue.valueError "reflectlite.Value.Elem" 0) ReflectliteValue.elem) (v := .agg #[.pointer (some ⟨5, 165, none⟩), .pointer (some ⟨b, 0, none⟩), .int .u64 409]) 2 (@run_callFunc_extern Tryz.prog 90 _ (ReflectliteValue.method (ReflectliteValue.valueError "reflectlite.Value.Elem" 0) ReflectliteValue.elem) Tryz.func90 (by kernel_rfl) (by kernel_rfl) (by kernel_rfl) (by kernel_rfl)) rfl rfl rfl (fun w hb => run_elemV (T := 165) (fl := 150) (fun w => by kernel_rfl) (by decide) Tryz.underlying168 rfl (fun w => by kernel_rfl) (fun w => by kernel_rfl) w hb) rfl ?_)
 refine s_y rfl (v := .iface 165 (.agg #[.int .i64 k, .nilIface])) (y_mv rfl) rfl ?_
 refine st rfl (o_boxf (cs := [.int .i64 k, .nilIface]) (T := 165) (fun b => .agg #[.pointer (some ⟨5, 165, none⟩), .pointer (some ⟨b, 0, none⟩), .int .u64 153]) rfl rfl rfl rfl (fun _ => by kernel_rfl) (fun b3 => ?_))
 refine st rfl (o_exts (H := ReflectliteValue.set) 2 0 (@run_callFunc_extern Tryz.prog 91 _ (ReflectliteValue.set) Tryz.func91 (by kernel_rfl) (by kernel_rfl) (by kernel_rfl) (by kernel_rfl)) rfl rfl rfl rfl (fun w hb hb2 => run_setV (f1 := 409) (f2 := 153) (fun w => by kernel_rfl) (fun w => by kernel_rfl) (by decide) (fun w => by kernel_rfl) Tryz.underlying165 rfl (by kernel_rfl) (by kernel_rfl) (by rfl) (by rfl) w hb hb2) rfl ?_)
 refine s_nil (q_then (c_seq (c_region ?_)))
 refine s_y rfl (v := .bool true) (y_as rfl) rfl ?_
 refine s_nil (q_then (c_ret (q_then_ret (q_block_ret (q_then_ret (q_block_ret ?_))))))
 refine c_fin (I' := []) [2] [] rfl (.tmp rfl .nil) rfl rfl rfl ?_
 exact ⟨rfl, rfl, rfl⟩
theorem As_hit_lwn_ (k : Int) (b : Nat) : Con Tryz.prog 48 [.iface 165 (.agg #[.int .i64 k, .nilIface]), .iface 168 (.pointer (some ⟨b, 0, none⟩))] [pt b [.int .i64 0, .nilIface] 165] [cellsAt 0 0 [.iface 147 (.agg #[.pointer (some ⟨5, 48, none⟩)])]] (fun v L' I' => v = .bool true ∧ L' = [pt b [.int .i64 k, .nilIface] 165] ∧ I' = []) := by
 refine fn_of Tryz.func48 rfl Tryz.ntmps48 (by kernel_rfl) rfl (fun C => ?_)
 refine c_seq (c_region ?_)
 refine s_y rfl (v := .bool false) (y_as rfl) rfl ?_
 refine s_nil (q_then (c_seq (c_seq (c_region ?_))))
 refine s_y rfl (v := .iface 165 (.agg #[.int .i64 k, .nilIface])) (y_mv rfl) rfl ?_
 refine s_y rfl (v := .bool false) (y_k rfl rfl (fun _ => by kernel_rfl)) rfl ?_
 refine s_nil (q_then (c_false rfl (c_skip (q_then (c_seq (c_seq (c_region ?_)))))))
 refine s_y rfl (v := .iface 168 (.pointer (some ⟨b, 0, none⟩))) (y_mv rfl) rfl ?_
 refine s_y rfl (v := .bool false) (y_k rfl rfl (fun _ => by kernel_rfl)) rfl ?_
 refine s_nil (q_then (c_false rfl (c_skip (q_then (c_seq (c_region ?_))))))
 refine s_y rfl (v := .iface 168 (.pointer (some ⟨b, 0, none⟩))) (y_mv rfl) rfl ?_
 refine st rfl (o_boxf (cs := [.pointer (some ⟨b, 0, none⟩)]) (T := 168) (fun b => .agg #[.pointer (some ⟨5, 168, none⟩), .pointer (some ⟨b, 0, none⟩), .int .u64 150]) rfl rfl rfl rfl (fun _ => by kernel_rfl) (fun b1 => ?_))
 refine st rfl (o_box (cs := [.pointer none, .pointer none, .int .u64 0]) (T := 113) rfl rfl rfl rfl (fun _ => by kernel_rfl) (fun b2 => ?_))
 refine st rfl (o_st 0 rfl rfl rfl rfl rfl (by kernel_rfl) (by kernel_rfl) rfl ?_)
 refine s_nil (q_then (c_seq (c_region ?_)))
 refine st rfl (o_ldn 0 3 rfl rfl rfl rfl Tryz.underlying113 rfl (by kernel_rfl) (by kernel_rfl) rfl ?_)
 refine s_y rfl (v := .iface 147 (.agg #[.pointer (some ⟨5, 168, none⟩)])) (y_k rfl rfl (fun _ => by kernel_rfl)) rfl ?_
 refine s_y rfl (v := .iface 147 (.agg #[.pointer (some ⟨5, 168, none⟩)])) (y_as rfl) rfl ?_
 refine s_nil (q_then (c_seq (c_seq (c_region ?_))))
 refine s_y rfl (v := .iface 147 (.agg #[.pointer (some ⟨5, 168, none⟩)])) (y_mv rfl) rfl ?_
 refine s_y rfl (v := .int .u8 22) (y_k rfl rfl (fun _ => by kernel_rfl)) rfl ?_
 refine s_y rfl (v := .bool false) (y_k rfl rfl (fun _ => by kernel_rfl)) rfl ?_
 refine s_y rfl (v := .bool false) (y_mv rfl) rfl ?_
 refine st_on 20 rfl rfl rfl (o_ldn 0 3 rfl rfl rfl rfl Tryz.underlying113 rfl (by kernel_rfl) (by kernel_rfl) rfl ?_)
 refine st_on 20 rfl rfl rfl (o_extr (H := ReflectliteValue.method (ReflectliteValue.valueError "reflectlite.Value.IsNil" 0) ReflectliteValue.isNil) 1 (@run_callFunc_extern Tryz.prog 77 _ (ReflectliteValue.method (ReflectliteValue.valueError "reflectlite.Value.IsNil" 0) ReflectliteValue.isNil) Tryz.func77 (by kernel_rfl) (by kernel_rfl) (by kernel_rfl) (by kernel_rfl)) rfl rfl rfl (fun w hb => run_isNil (fl := 150) (fun w => by kernel_rfl) (by decide) Tryz.underlying168 rfl w hb) rfl ?_)
 refine s_y rfl (v := .bool false) (y_pick rfl rfl) rfl ?_
 refine s_nil (q_then (c_false rfl (c_skip (q_then (c_seq (c_region ?_))))))
 refine s_y rfl (v := .iface 147 (.agg #[.pointer (some ⟨5, 168, none⟩)])) (y_mv rfl) rfl ?_
 refine s_y rfl (v := .iface 147 (.agg #[.pointer (some ⟨5, 165, none⟩)])) (y_k rfl rfl (fun _ => by kernel_rfl)) rfl ?_
 refine s_y rfl (v := .iface 147 (.agg #[.pointer (some ⟨5, 165, none⟩)])) (y_as rfl) rfl ?_
 refine s_nil (q_then (c_seq (c_seq (c_region ?_))))
 refine s_y rfl (v := .iface 147 (.agg #[.pointer (some ⟨5, 165, none⟩)])) (y_mv rfl) rfl ?_
 refine s_y rfl (v := .int .u8 25) (y_k rfl rfl (fun _ => by kernel_rfl)) rfl ?_
 refine s_y rfl (v := .bool true) (y_k rfl rfl (fun _ => by kernel_rfl)) rfl ?_
 refine s_y rfl (v := .bool true) (y_mv rfl) rfl ?_
 refine st_on 30 rfl rfl rfl (o_y (v := .iface 147 (.agg #[.pointer (some ⟨5, 165, none⟩)])) (y_mv rfl) rfl rfl rfl ?_)
 refine st_on 30 rfl rfl rfl (o_ldf 0 0 rfl rfl rfl Tryz.underlying116 rfl rfl ?_)
 refine st_on 30 rfl rfl rfl (o_y (v := .bool true) (y_k rfl rfl (fun _ => by kernel_rfl)) rfl rfl rfl ?_)
 refine st_on 30 rfl rfl rfl (o_y (v := .bool false) (y_k rfl rfl (fun _ => by kernel_rfl)) rfl rfl rfl ?_)
 refine s_y rfl (v := .bool false) (y_pick rfl rfl) rfl ?_
 refine s_nil (q_then (c_false rfl (c_skip (q_then (c_seq (c_region ?_))))))
 refine s_y rfl (v := .iface 165 (.agg #[.int .i64 k, .nilIface])) (y_mv rfl) rfl ?_
 refine s_y rfl (v := .iface 168 (.pointer (some ⟨b, 0, none⟩))) (y_mv rfl) rfl ?_
 refine st rfl (o_ldn 0 3 rfl rfl rfl rfl Tryz.underlying113 rfl (by kernel_rfl) (by kernel_rfl) rfl ?_)
 refine s_y rfl (v := .iface 147 (.agg #[.pointer (some ⟨5, 165, none⟩)])) (y_mv rfl) rfl ?_
 refine st rfl (o_call [2, 1] [] (as_hit_lwn_ k b b1) rfl rfl rfl rfl rfl rfl (fun v L' I' hq1 => ?_))
 obtain ⟨rfl, rfl, rfl⟩ := hq1
 refine s_y rfl (v := .bool true) (y_as rfl) rfl ?_
 refine s_nil (q_then (c_ret ?_))
 refine c_fin (I' := []) [0] [0] rfl (.tmp rfl .nil) rfl rfl rfl ?_
 exact ⟨rfl, rfl, rfl⟩
theorem As_nil_lwn_ (b : Nat) : Con Tryz.prog 48 [.nilIface, .iface 168 (.pointer (some ⟨b, 0, none⟩))] [] [] (fun v L' I' => v = .bool false ∧ L' = [] ∧ I' = []) := by
 refine fn_of Tryz.func48 rfl Tryz.ntmps48 (by kernel_rfl) rfl (fun C => ?_)
 refine c_seq (c_region ?_)
 refine s_y rfl (v := .bool false) (y_as rfl) rfl ?_
 refine s_nil (q_then (c_seq (c_seq (c_region ?_))))
 refine s_y rfl (v := .nilIface) (y_mv rfl) rfl ?_
 refine s_y rfl (v := .bool true) (y_k rfl rfl (fun _ => by kernel_rfl)) rfl ?_
 refine s_nil (q_then (c_true rfl (c_seq (c_region ?_))))
 refine s_y rfl (v := .bool false) (y_as rfl) rfl ?_
 refine s_nil (q_then (c_ret (q_then_ret ?_)))
 refine c_fin (I' := []) [] [] rfl (.tmp rfl .nil) rfl rfl rfl ?_
 exact ⟨rfl, rfl, rfl⟩
theorem ltold_nil_ (el : Addr) : Con Tryz.prog 83 [.nilIface] [] [cellsAt 4 0 [.iface 180 (.pointer (some el))], errAt el, cellsAt 0 0 [.iface 147 (.agg #[.pointer (some ⟨5, 48, none⟩)])]] (fun v L' I' => v = .int .i64 0 ∧ L' = [] ∧ I' = []) := by
 refine fn_of Tryz.func83 rfl Tryz.ntmps83 (by kernel_rfl) rfl (fun C => ?_)
 refine c_seq (c_region ?_)
 refine s_y rfl (v := .int .i64 0) (y_as rfl) rfl ?_
 refine s_nil (q_then (c_seq (c_region ?_)))
 refine st rfl (o_box (cs := [.int .i64 0, .nilIface]) (T := 165) rfl rfl rfl rfl (fun _ => by kernel_rfl) (fun b1 => ?_))
 refine s_nil (q_then (c_seq (c_block (c_seq (c_region ?_)))))
 refine s_y rfl (v := .nilIface) (y_mv rfl) rfl ?_
 refine st rfl (o_ldf 0 0 rfl rfl rfl Tryz.underlying48 rfl rfl ?_)
 refine st rfl (o_call [] [] (is_nil_ el) rfl rfl rfl rfl rfl rfl (fun v L' I' hq1 => ?_))
 obtain ⟨rfl, rfl, rfl⟩ := hq1
 refine s_y rfl (v := .bool false) (y_as rfl) rfl ?_
 refine s_nil (q_then (c_false rfl (c_seq (c_region ?_))))
 refine s_y rfl (v := .nilIface) (y_mv rfl) rfl ?_
 refine s_y rfl (v := .iface 168 (.pointer (some ⟨b1, 0, none⟩))) (y_k rfl rfl (fun _ => by kernel_rfl)) rfl ?_
 refine st rfl (o_call [] [] (As_nil_lwn_ b1) rfl rfl rfl rfl rfl rfl (fun v L' I' hq2 => ?_))
 obtain ⟨rfl, rfl, rfl⟩ := hq2
 refine s_y rfl (v := .bool false) (y_as rfl) rfl ?_
 refine s_nil (q_then (c_false rfl (c_skip (q_block (q_then (c_seq (c_region ?_)))))))
 refine s_y rfl (v := .int .i64 0) (y_as rfl) rfl ?_
 refine s_nil (q_then (c_ret ?_))
 refine c_fin (I' := []) [] [0, 1, 2] rfl (.tmp rfl .nil) rfl rfl rfl ?_
 exact ⟨rfl, rfl, rfl⟩
theorem ltold_lab_ (el : Addr) : Con Tryz.prog 83 [.iface 165 (.agg #[.int .i64 20, .iface 180 (.pointer (some el))])] [] [cellsAt 4 0 [.iface 180 (.pointer (some el))], errAt el, cellsAt 0 0 [.iface 147 (.agg #[.pointer (some ⟨5, 48, none⟩)])]] (fun v L' I' => v = .int .i64 20 ∧ L' = [] ∧ I' = []) := by
 refine fn_of Tryz.func83 rfl Tryz.ntmps83 (by kernel_rfl) rfl (fun C => ?_)
 refine c_seq (c_region ?_)
 refine s_y rfl (v := .int .i64 0) (y_as rfl) rfl ?_
 refine s_nil (q_then (c_seq (c_region ?_)))
 refine st rfl (o_box (cs := [.int .i64 0, .nilIface]) (T := 165) rfl rfl rfl rfl (fun _ => by kernel_rfl) (fun b1 => ?_))
 refine s_nil (q_then (c_seq (c_block (c_seq (c_region ?_)))))
 refine s_y rfl (v := .iface 165 (.agg #[.int .i64 20, .iface 180 (.pointer (some el))])) (y_mv rfl) rfl ?_
 refine st rfl (o_ldf 0 0 rfl rfl rfl Tryz.underlying48 rfl rfl ?_)
 refine st rfl (o_call [] [] (is_lw_same_ el) rfl rfl rfl rfl rfl rfl (fun v L' I' hq1 => ?_))
 obtain ⟨rfl, rfl, rfl⟩ := hq1
 refine s_y rfl (v := .bool true) (y_as rfl) rfl ?_
 refine s_nil (q_then (c_true rfl (c_seq (c_region ?_))))
 refine s_y rfl (v := .int .i64 20) (y_as rfl) rfl ?_
 refine s_nil (q_then (c_ret (q_block_ret (q_then_ret ?_))))
 refine c_fin (I' := []) [] [0, 1, 2] rfl (.tmp rfl .nil) rfl rfl rfl ?_
 exact ⟨rfl, rfl, rfl⟩
theorem ltold_k_ (el : Addr) (k : Int) : Con Tryz.prog 83 [.iface 165 (.agg #[.int .i64 k, .nilIface])] [] [cellsAt 4 0 [.iface 180 (.pointer (some el))], errAt el, cellsAt 0 0 [.iface 147 (.agg #[.pointer (some ⟨5, 48, none⟩)])]] (fun v L' I' => v = .int .i64 k ∧ L' = [] ∧ I' = []) := by
 refine fn_of Tryz.func83 rfl Tryz.ntmps83 (by kernel_rfl) rfl (fun C => ?_)
 refine c_seq (c_region ?_)
 refine s_y rfl (v := .int .i64 0) (y_as rfl) rfl ?_
 refine s_nil (q_then (c_seq (c_region ?_)))
 refine st rfl (o_box (cs := [.int .i64 0, .nilIface]) (T := 165) rfl rfl rfl rfl (fun _ => by kernel_rfl) (fun b1 => ?_))
 refine s_nil (q_then (c_seq (c_block (c_seq (c_region ?_)))))
 refine s_y rfl (v := .iface 165 (.agg #[.int .i64 k, .nilIface])) (y_mv rfl) rfl ?_
 refine st rfl (o_ldf 0 0 rfl rfl rfl Tryz.underlying48 rfl rfl ?_)
 refine st rfl (o_call [] [] (is_lwn_ k el) rfl rfl rfl rfl rfl rfl (fun v L' I' hq1 => ?_))
 obtain ⟨rfl, rfl, rfl⟩ := hq1
 refine s_y rfl (v := .bool false) (y_as rfl) rfl ?_
 refine s_nil (q_then (c_false rfl (c_seq (c_region ?_))))
 refine s_y rfl (v := .iface 165 (.agg #[.int .i64 k, .nilIface])) (y_mv rfl) rfl ?_
 refine s_y rfl (v := .iface 168 (.pointer (some ⟨b1, 0, none⟩))) (y_k rfl rfl (fun _ => by kernel_rfl)) rfl ?_
 refine st rfl (o_call [0] [2] (As_hit_lwn_ k b1) rfl rfl rfl rfl rfl rfl (fun v L' I' hq2 => ?_))
 obtain ⟨rfl, rfl, rfl⟩ := hq2
 refine s_y rfl (v := .bool true) (y_as rfl) rfl ?_
 refine s_nil (q_then (c_true rfl (c_seq (c_region ?_))))
 refine s_y rfl (v := .pointer (some ⟨b1, 0, none⟩)) (y_k rfl rfl (fun _ => by kernel_rfl)) rfl ?_
 refine st rfl (o_ld 0 rfl rfl rfl Tryz.underlying29 rfl rfl ?_)
 refine s_y rfl (v := .int .i64 k) (y_as rfl) rfl ?_
 refine s_nil (q_then (c_ret (q_block_ret (q_then_ret ?_))))
 refine c_fin (I' := []) [] [0, 1, 2] rfl (.tmp rfl .nil) rfl rfl rfl ?_
 exact ⟨rfl, rfl, rfl⟩
end Go.Proofs.YtcnncdniibkjkaaGreatDoor
