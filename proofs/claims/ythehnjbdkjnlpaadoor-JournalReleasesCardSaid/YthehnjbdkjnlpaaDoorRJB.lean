/- The laws of chapter 15 (journal), walked over the given program; no condition but what stands in each theorem: part JB. -/
import Derived.Test.YthehnjbdkjnlpaaDoorRRL
set_option linter.unusedVariables false
set_option linter.unusedSimpArgs false
set_option maxRecDepth 100000
set_option maxHeartbeats 8000000
namespace Go.Proofs.YthehnjbdkjnlpaaDoor
open Go Go.Sl Go.RowKit Go.Extern.Stop Go.Stop Go.Extern
theorem unwrap_jw_ (a : Addr) : Con Tryd.prog 111 [.agg #[.int .i64 151, .iface 154 (.pointer (some a))]] [] [] (fun v L' I' => v = .iface 154 (.pointer (some a)) ∧ L' = [] ∧ I' = []) := by
 refine fn_of Tryd.func111 rfl Tryd.ntmps111 (by kernel_rfl) rfl (fun C => ?_)
 refine c_seq (c_region ?_)
 refine st rfl (o_box (cs := [.int .i64 151, .iface 154 (.pointer (some a))]) (T := 59) rfl rfl rfl rfl (fun _ => by kernel_rfl) (fun b1 => ?_))
 refine s_y rfl (v := .nilIface) (y_as rfl) rfl ?_
 refine s_nil (q_then (c_seq (c_region ?_)))
 refine s_y rfl (v := .pointer (some ⟨b1, 1, none⟩)) (y_k rfl rfl (fun _ => by kernel_rfl)) rfl ?_
 refine st rfl (o_ld 0 rfl rfl rfl Tryd.underlying57 rfl rfl ?_)
 refine s_y rfl (v := .iface 154 (.pointer (some a))) (y_as rfl) rfl ?_
 refine s_nil (q_then (c_ret ?_))
 refine c_fin (I' := []) [] [] rfl (.tmp rfl .nil) rfl rfl rfl ?_
 exact ⟨rfl, rfl, rfl⟩
theorem is1_jw_same_ (a : Addr) : Con Tryd.prog 61 [.iface 59 (.agg #[.int .i64 151, .iface 154 (.pointer (some a))]), .iface 154 (.pointer (some a)), .bool true] [] [] (fun v L' I' => v = .bool true ∧ L' = [] ∧ I' = []) := by
 refine fn_of Tryd.func61 rfl Tryd.ntmps61 (by kernel_rfl) rfl (fun C => ?_)
 refine c_seq (c_region ?_)
 refine s_y rfl (v := .bool false) (y_as rfl) rfl ?_
 refine s_nil (q_then (c_block ?_))
 refine c_unroll 2 ?_
 refine c_round ?_
 refine c_block (c_seq (c_seq (c_region ?_)))
 refine s_y rfl (v := .bool true) (y_mv rfl) rfl ?_
 refine s_y rfl (v := .bool true) (y_mv rfl) rfl ?_
 refine st_on 15 rfl rfl rfl (o_y (v := .iface 59 (.agg #[.int .i64 151, .iface 154 (.pointer (some a))])) (y_mv rfl) rfl rfl rfl ?_)
 refine st_on 15 rfl rfl rfl (o_y (v := .iface 154 (.pointer (some a))) (y_mv rfl) rfl rfl rfl ?_)
 refine st_on 15 rfl rfl rfl (o_y (v := .bool false) (y_k rfl rfl (fun _ => by kernel_rfl)) rfl rfl rfl ?_)
 refine s_y rfl (v := .bool false) (y_pick rfl rfl) rfl ?_
 refine s_nil (q_then (c_false rfl (c_skip (q_then (c_seq (c_seq (c_region ?_)))))))
 refine s_y rfl (v := .iface 59 (.agg #[.int .i64 151, .iface 154 (.pointer (some a))])) (y_mv rfl) rfl ?_
 refine s_y rfl (v := .tuple #[.nilIface, .bool false]) (y_lacks rfl Tryd.underlying123 (by kernel_rfl) (by kernel_rfl)) rfl ?_
 refine s_y rfl (v := .tuple #[.nilIface, .bool false]) (y_mv rfl) rfl ?_
 refine s_y rfl (v := .nilIface) (y_k rfl rfl (fun _ => by kernel_rfl)) rfl ?_
 refine s_y rfl (v := .bool false) (y_k rfl rfl (fun _ => by kernel_rfl)) rfl ?_
 refine s_y rfl (v := .nilIface) (y_as rfl) rfl ?_
 refine s_y rfl (v := .bool false) (y_as rfl) rfl ?_
 refine s_nil (q_then (c_seq (c_region ?_)))
 refine s_y rfl (v := .bool false) (y_mv rfl) rfl ?_
 refine s_y rfl (v := .bool false) (y_mv rfl) rfl ?_
 refine st_off 26 rfl rfl rfl rfl rfl rfl ?_
 refine st_off 26 rfl rfl rfl rfl rfl rfl ?_
 refine st_off 26 rfl rfl rfl rfl rfl rfl ?_
 refine s_y rfl (v := .bool false) (y_pick rfl rfl) rfl ?_
 refine s_nil (q_then (c_false rfl (c_skip (q_then (c_seq (c_region ?_))))))
 refine s_y rfl (v := .iface 59 (.agg #[.int .i64 151, .iface 154 (.pointer (some a))])) (y_mv rfl) rfl ?_
 refine s_nil (q_then (c_block (c_seq (c_region ?_))))
 refine s_y rfl (v := .tuple #[.iface 59 (.agg #[.int .i64 151, .iface 154 (.pointer (some a))]), .bool true]) (y_has rfl Tryd.underlying126 (by kernel_rfl)) rfl ?_
 refine s_y rfl (v := .bool true) (y_k rfl rfl (fun _ => by kernel_rfl)) rfl ?_
 refine s_y rfl (v := .iface 59 (.agg #[.int .i64 151, .iface 154 (.pointer (some a))])) (y_k rfl rfl (fun _ => by kernel_rfl)) rfl ?_
 refine s_nil (q_then (c_true rfl (c_seq (c_region ?_))))
 refine s_y rfl (v := .iface 59 (.agg #[.int .i64 151, .iface 154 (.pointer (some a))])) (y_as rfl) rfl ?_
 refine s_nil (q_then (c_seq (c_region ?_)))
 refine s_y rfl (v := .iface 59 (.agg #[.int .i64 151, .iface 154 (.pointer (some a))])) (y_mv rfl) rfl ?_
 refine st rfl (o_into [] [] (unwrap_jw_ a) rfl rfl rfl (fun _ => by kernel_rfl) rfl rfl rfl (fun v L' I' hq1 => ?_))
 obtain ⟨rfl, rfl, rfl⟩ := hq1
 refine s_y rfl (v := .iface 154 (.pointer (some a))) (y_as rfl) rfl ?_
 refine s_nil (q_then (c_seq (c_region ?_)))
 refine s_y rfl (v := .iface 154 (.pointer (some a))) (y_mv rfl) rfl ?_
 refine s_y rfl (v := .bool false) (y_k rfl rfl (fun _ => by kernel_rfl)) rfl ?_
 refine s_nil (q_then (c_false rfl (c_skip (q_block (q_block (q_then ?_))))))
 refine c_round ?_
 refine c_block (c_seq (c_seq (c_region ?_)))
 refine s_y rfl (v := .bool true) (y_mv rfl) rfl ?_
 refine s_y rfl (v := .bool true) (y_mv rfl) rfl ?_
 refine st_on 15 rfl rfl rfl (o_y (v := .iface 154 (.pointer (some a))) (y_mv rfl) rfl rfl rfl ?_)
 refine st_on 15 rfl rfl rfl (o_y (v := .iface 154 (.pointer (some a))) (y_mv rfl) rfl rfl rfl ?_)
 refine st_on 15 rfl rfl rfl (o_y (v := .bool true) (y_ifsame rfl rfl Tryd.underlying57 Tryd.underlying154 (by kernel_rfl) (by kernel_rfl)) rfl rfl rfl ?_)
 refine s_y rfl (v := .bool true) (y_pick rfl rfl) rfl ?_
 refine s_nil (q_then (c_true rfl (c_seq (c_region ?_))))
 refine s_y rfl (v := .bool true) (y_as rfl) rfl ?_
 refine s_nil (q_then (c_ret (q_then_ret (q_block_ret (q_then_ret (q_block_ret ?_))))))
 refine c_fin (I' := []) [] [] rfl (.tmp rfl .nil) rfl rfl rfl ?_
 exact ⟨rfl, rfl, rfl⟩
theorem is1_jw_other_ (a : Addr) (b : Addr) (hne : a ≠ b) : Con Tryd.prog 61 [.iface 59 (.agg #[.int .i64 151, .iface 154 (.pointer (some a))]), .iface 154 (.pointer (some b)), .bool true] [] [errAt a, errAt b] (fun v L' I' => v = .bool false ∧ L' = [] ∧ I' = []) := by
 refine fn_of Tryd.func61 rfl Tryd.ntmps61 (by kernel_rfl) rfl (fun C => ?_)
 refine c_seq (c_region ?_)
 refine s_y rfl (v := .bool false) (y_as rfl) rfl ?_
 refine s_nil (q_then (c_block ?_))
 refine c_unroll 2 ?_
 refine c_round ?_
 refine c_block (c_seq (c_seq (c_region ?_)))
 refine s_y rfl (v := .bool true) (y_mv rfl) rfl ?_
 refine s_y rfl (v := .bool true) (y_mv rfl) rfl ?_
 refine st_on 15 rfl rfl rfl (o_y (v := .iface 59 (.agg #[.int .i64 151, .iface 154 (.pointer (some a))])) (y_mv rfl) rfl rfl rfl ?_)
 refine st_on 15 rfl rfl rfl (o_y (v := .iface 154 (.pointer (some b))) (y_mv rfl) rfl rfl rfl ?_)
 refine st_on 15 rfl rfl rfl (o_y (v := .bool false) (y_k rfl rfl (fun _ => by kernel_rfl)) rfl rfl rfl ?_)
 refine s_y rfl (v := .bool false) (y_pick rfl rfl) rfl ?_
 refine s_nil (q_then (c_false rfl (c_skip (q_then (c_seq (c_seq (c_region ?_)))))))
 refine s_y rfl (v := .iface 59 (.agg #[.int .i64 151, .iface 154 (.pointer (some a))])) (y_mv rfl) rfl ?_
 refine s_y rfl (v := .tuple #[.nilIface, .bool false]) (y_lacks rfl Tryd.underlying123 (by kernel_rfl) (by kernel_rfl)) rfl ?_
 refine s_y rfl (v := .tuple #[.nilIface, .bool false]) (y_mv rfl) rfl ?_
 refine s_y rfl (v := .nilIface) (y_k rfl rfl (fun _ => by kernel_rfl)) rfl ?_
 refine s_y rfl (v := .bool false) (y_k rfl rfl (fun _ => by kernel_rfl)) rfl ?_
 refine s_y rfl (v := .nilIface) (y_as rfl) rfl ?_
 refine s_y rfl (v := .bool false) (y_as rfl) rfl ?_
 refine s_nil (q_then (c_seq (c_region ?_)))
 refine s_y rfl (v := .bool false) (y_mv rfl) rfl ?_
 refine s_y rfl (v := .bool false) (y_mv rfl) rfl ?_
 refine st_off 26 rfl rfl rfl rfl rfl rfl ?_
 refine st_off 26 rfl rfl rfl rfl rfl rfl ?_
 refine st_off 26 rfl rfl rfl rfl rfl rfl ?_
 refine s_y rfl (v := .bool false) (y_pick rfl rfl) rfl ?_
 refine s_nil (q_then (c_false rfl (c_skip (q_then (c_seq (c_region ?_))))))
 refine s_y rfl (v := .iface 59 (.agg #[.int .i64 151, .iface 154 (.pointer (some a))])) (y_mv rfl) rfl ?_
 refine s_nil (q_then (c_block (c_seq (c_region ?_))))
 refine s_y rfl (v := .tuple #[.iface 59 (.agg #[.int .i64 151, .iface 154 (.pointer (some a))]), .bool true]) (y_has rfl Tryd.underlying126 (by kernel_rfl)) rfl ?_
 refine s_y rfl (v := .bool true) (y_k rfl rfl (fun _ => by kernel_rfl)) rfl ?_
 refine s_y rfl (v := .iface 59 (.agg #[.int .i64 151, .iface 154 (.pointer (some a))])) (y_k rfl rfl (fun _ => by kernel_rfl)) rfl ?_
 refine s_nil (q_then (c_true rfl (c_seq (c_region ?_))))
 refine s_y rfl (v := .iface 59 (.agg #[.int .i64 151, .iface 154 (.pointer (some a))])) (y_as rfl) rfl ?_
 refine s_nil (q_then (c_seq (c_region ?_)))
 refine s_y rfl (v := .iface 59 (.agg #[.int .i64 151, .iface 154 (.pointer (some a))])) (y_mv rfl) rfl ?_
 refine st rfl (o_into [] [] (unwrap_jw_ a) rfl rfl rfl (fun _ => by kernel_rfl) rfl rfl rfl (fun v L' I' hq1 => ?_))
 obtain ⟨rfl, rfl, rfl⟩ := hq1
 refine s_y rfl (v := .iface 154 (.pointer (some a))) (y_as rfl) rfl ?_
 refine s_nil (q_then (c_seq (c_region ?_)))
 refine s_y rfl (v := .iface 154 (.pointer (some a))) (y_mv rfl) rfl ?_
 refine s_y rfl (v := .bool false) (y_k rfl rfl (fun _ => by kernel_rfl)) rfl ?_
 refine s_nil (q_then (c_false rfl (c_skip (q_block (q_block (q_then ?_))))))
 refine c_round ?_
 refine c_block (c_seq (c_seq (c_region ?_)))
 refine s_y rfl (v := .bool true) (y_mv rfl) rfl ?_
 refine s_y rfl (v := .bool true) (y_mv rfl) rfl ?_
 refine st_on 15 rfl rfl rfl (o_y (v := .iface 154 (.pointer (some a))) (y_mv rfl) rfl rfl rfl ?_)
 refine st_on 15 rfl rfl rfl (o_y (v := .iface 154 (.pointer (some b))) (y_mv rfl) rfl rfl rfl ?_)
 refine st_on 15 rfl rfl rfl (o_ifother 0 1 rfl rfl (by first | assumption | exact Ne.symm (by assumption)) rfl rfl (fun _ h => h) (fun _ h => h) Tryd.underlying57 Tryd.underlying154 (by kernel_rfl) (by kernel_rfl) rfl ?_)
 refine s_y rfl (v := .bool false) (y_pick rfl rfl) rfl ?_
 refine s_nil (q_then (c_false rfl (c_skip (q_then (c_seq (c_seq (c_region ?_)))))))
 refine s_y rfl (v := .iface 154 (.pointer (some a))) (y_mv rfl) rfl ?_
 refine s_y rfl (v := .tuple #[.nilIface, .bool false]) (y_lacks rfl Tryd.underlying123 (by kernel_rfl) (by kernel_rfl)) rfl ?_
 refine s_y rfl (v := .tuple #[.nilIface, .bool false]) (y_mv rfl) rfl ?_
 refine s_y rfl (v := .nilIface) (y_k rfl rfl (fun _ => by kernel_rfl)) rfl ?_
 refine s_y rfl (v := .bool false) (y_k rfl rfl (fun _ => by kernel_rfl)) rfl ?_
 refine s_y rfl (v := .nilIface) (y_as rfl) rfl ?_
 refine s_y rfl (v := .bool false) (y_as rfl) rfl ?_
 refine s_nil (q_then (c_seq (c_region ?_)))
 refine s_y rfl (v := .bool false) (y_mv rfl) rfl ?_
 refine s_y rfl (v := .bool false) (y_mv rfl) rfl ?_
 refine st_off 26 rfl rfl rfl rfl rfl rfl ?_
 refine st_off 26 rfl rfl rfl rfl rfl rfl ?_
 refine st_off 26 rfl rfl rfl rfl rfl rfl ?_
 refine s_y rfl (v := .bool false) (y_pick rfl rfl) rfl ?_
 refine s_nil (q_then (c_false rfl (c_skip (q_then (c_seq (c_region ?_))))))
 refine s_y rfl (v := .iface 154 (.pointer (some a))) (y_mv rfl) rfl ?_
 refine s_nil (q_then (c_block (c_seq (c_region ?_))))
 refine s_y rfl (v := .tuple #[.nilIface, .bool false]) (y_lacks rfl Tryd.underlying126 (by kernel_rfl) (by kernel_rfl)) rfl ?_
 refine s_y rfl (v := .bool false) (y_k rfl rfl (fun _ => by kernel_rfl)) rfl ?_
 refine s_y rfl (v := .nilIface) (y_k rfl rfl (fun _ => by kernel_rfl)) rfl ?_
 refine s_nil (q_then (c_false rfl (c_seq (c_region ?_))))
 refine s_y rfl (v := .tuple #[.nilIface, .bool false]) (y_lacks rfl Tryd.underlying127 (by kernel_rfl) (by kernel_rfl)) rfl ?_
 refine s_y rfl (v := .bool false) (y_k rfl rfl (fun _ => by kernel_rfl)) rfl ?_
 refine s_y rfl (v := .nilIface) (y_k rfl rfl (fun _ => by kernel_rfl)) rfl ?_
 refine s_nil (q_then (c_false rfl (c_seq (c_region ?_))))
 refine s_y rfl (v := .iface 154 (.pointer (some a))) (y_as rfl) rfl ?_
 refine s_nil (q_then (c_seq (c_region ?_)))
 refine s_y rfl (v := .bool false) (y_as rfl) rfl ?_
 refine s_nil (q_then (c_ret (q_block_ret (q_block_ret (q_then_ret (q_block_ret ?_))))))
 refine c_fin (I' := []) [] [0, 1] rfl (.tmp rfl .nil) rfl rfl rfl ?_
 exact ⟨rfl, rfl, rfl⟩
theorem is_jw_same_ (a : Addr) : Con Tryd.prog 50 [.iface 59 (.agg #[.int .i64 151, .iface 154 (.pointer (some a))]), .iface 154 (.pointer (some a))] [] [] (fun v L' I' => v = .bool true ∧ L' = [] ∧ I' = []) := by
 refine fn_of Tryd.func50 rfl Tryd.ntmps50 (by kernel_rfl) rfl (fun C => ?_)
 refine c_seq (c_region ?_)
 refine s_y rfl (v := .bool false) (y_as rfl) rfl ?_
 refine s_nil (q_then (c_seq (c_seq (c_region ?_))))
 refine s_y rfl (v := .iface 59 (.agg #[.int .i64 151, .iface 154 (.pointer (some a))])) (y_mv rfl) rfl ?_
 refine s_y rfl (v := .bool false) (y_k rfl rfl (fun _ => by kernel_rfl)) rfl ?_
 refine s_y rfl (v := .bool false) (y_mv rfl) rfl ?_
 refine st_on 8 rfl rfl rfl (o_y (v := .iface 154 (.pointer (some a))) (y_mv rfl) rfl rfl rfl ?_)
 refine st_on 8 rfl rfl rfl (o_y (v := .bool false) (y_k rfl rfl (fun _ => by kernel_rfl)) rfl rfl rfl ?_)
 refine s_y rfl (v := .bool false) (y_pick rfl rfl) rfl ?_
 refine s_nil (q_then (c_false rfl (c_skip (q_then (c_seq (c_region ?_))))))
 refine s_y rfl (v := .iface 154 (.pointer (some a))) (y_mv rfl) rfl ?_
 refine s_y rfl (v := .iface 121 (.agg #[.pointer (some ⟨4, 154, none⟩)])) (y_k rfl rfl (fun _ => by kernel_rfl)) rfl ?_
 refine s_y rfl (v := .bool true) (y_k rfl rfl (fun _ => by kernel_rfl)) rfl ?_
 refine s_y rfl (v := .bool true) (y_as rfl) rfl ?_
 refine s_nil (q_then (c_seq (c_region ?_)))
 refine s_y rfl (v := .iface 59 (.agg #[.int .i64 151, .iface 154 (.pointer (some a))])) (y_mv rfl) rfl ?_
 refine s_y rfl (v := .iface 154 (.pointer (some a))) (y_mv rfl) rfl ?_
 refine s_y rfl (v := .bool true) (y_mv rfl) rfl ?_
 refine st rfl (o_call [] [] (is1_jw_same_ a) rfl rfl rfl rfl rfl rfl (fun v L' I' hq1 => ?_))
 obtain ⟨rfl, rfl, rfl⟩ := hq1
 refine s_y rfl (v := .bool true) (y_as rfl) rfl ?_
 refine s_nil (q_then (c_ret ?_))
 refine c_fin (I' := []) [] [] rfl (.tmp rfl .nil) rfl rfl rfl ?_
 exact ⟨rfl, rfl, rfl⟩
theorem is_jw_other_ (a : Addr) (b : Addr) (hne : a ≠ b) : Con Tryd.prog 50 [.iface 59 (.agg #[.int .i64 151, .iface 154 (.pointer (some a))]), .iface 154 (.pointer (some b))] [] [errAt a, errAt b] (fun v L' I' => v = .bool false ∧ L' = [] ∧ I' = []) := by
 refine fn_of Tryd.func50 rfl Tryd.ntmps50 (by kernel_rfl) rfl (fun C => ?_)
 refine c_seq (c_region ?_)
 refine s_y rfl (v := .bool false) (y_as rfl) rfl ?_
 refine s_nil (q_then (c_seq (c_seq (c_region ?_))))
 refine s_y rfl (v := .iface 59 (.agg #[.int .i64 151, .iface 154 (.pointer (some a))])) (y_mv rfl) rfl ?_
 refine s_y rfl (v := .bool false) (y_k rfl rfl (fun _ => by kernel_rfl)) rfl ?_
 refine s_y rfl (v := .bool false) (y_mv rfl) rfl ?_
 refine st_on 8 rfl rfl rfl (o_y (v := .iface 154 (.pointer (some b))) (y_mv rfl) rfl rfl rfl ?_)
 refine st_on 8 rfl rfl rfl (o_y (v := .bool false) (y_k rfl rfl (fun _ => by kernel_rfl)) rfl rfl rfl ?_)
 refine s_y rfl (v := .bool false) (y_pick rfl rfl) rfl ?_
 refine s_nil (q_then (c_false rfl (c_skip (q_then (c_seq (c_region ?_))))))
 refine s_y rfl (v := .iface 154 (.pointer (some b))) (y_mv rfl) rfl ?_
 refine s_y rfl (v := .iface 121 (.agg #[.pointer (some ⟨4, 154, none⟩)])) (y_k rfl rfl (fun _ => by kernel_rfl)) rfl ?_
 refine s_y rfl (v := .bool true) (y_k rfl rfl (fun _ => by kernel_rfl)) rfl ?_
 refine s_y rfl (v := .bool true) (y_as rfl) rfl ?_
 refine s_nil (q_then (c_seq (c_region ?_)))
 refine s_y rfl (v := .iface 59 (.agg #[.int .i64 151, .iface 154 (.pointer (some a))])) (y_mv rfl) rfl ?_
 refine s_y rfl (v := .iface 154 (.pointer (some b))) (y_mv rfl) rfl ?_
 refine s_y rfl (v := .bool true) (y_mv rfl) rfl ?_
 refine st rfl (o_call [] [0, 1] (is1_jw_other_ a b (by first | assumption | exact Ne.symm (by assumption))) rfl rfl rfl rfl rfl rfl (fun v L' I' hq1 => ?_))
 obtain ⟨rfl, rfl, rfl⟩ := hq1
 refine s_y rfl (v := .bool false) (y_as rfl) rfl ?_
 refine s_nil (q_then (c_ret ?_))
 refine c_fin (I' := []) [] [0, 1] rfl (.tmp rfl .nil) rfl rfl rfl ?_
 exact ⟨rfl, rfl, rfl⟩
theorem unwrap_jwn_ (k : Int) : Con Tryd.prog 111 [.agg #[.int .i64 k, .nilIface]] [] [] (fun v L' I' => v = .nilIface ∧ L' = [] ∧ I' = []) := by
 refine fn_of Tryd.func111 rfl Tryd.ntmps111 (by kernel_rfl) rfl (fun C => ?_)
 refine c_seq (c_region ?_)
 refine st rfl (o_box (cs := [.int .i64 k, .nilIface]) (T := 59) rfl rfl rfl rfl (fun _ => by kernel_rfl) (fun b1 => ?_))
 refine s_y rfl (v := .nilIface) (y_as rfl) rfl ?_
 refine s_nil (q_then (c_seq (c_region ?_)))
 refine s_y rfl (v := .pointer (some ⟨b1, 1, none⟩)) (y_k rfl rfl (fun _ => by kernel_rfl)) rfl ?_
 refine st rfl (o_ld 0 rfl rfl rfl Tryd.underlying57 rfl rfl ?_)
 refine s_y rfl (v := .nilIface) (y_as rfl) rfl ?_
 refine s_nil (q_then (c_ret ?_))
 refine c_fin (I' := []) [] [] rfl (.tmp rfl .nil) rfl rfl rfl ?_
 exact ⟨rfl, rfl, rfl⟩
theorem is1_jwn_ (k : Int) (b : Addr) : Con Tryd.prog 61 [.iface 59 (.agg #[.int .i64 k, .nilIface]), .iface 154 (.pointer (some b)), .bool true] [] [] (fun v L' I' => v = .bool false ∧ L' = [] ∧ I' = []) := by
 refine fn_of Tryd.func61 rfl Tryd.ntmps61 (by kernel_rfl) rfl (fun C => ?_)
 refine c_seq (c_region ?_)
 refine s_y rfl (v := .bool false) (y_as rfl) rfl ?_
 refine s_nil (q_then (c_block ?_))
 refine c_unroll 2 ?_
 refine c_round ?_
 refine c_block (c_seq (c_seq (c_region ?_)))
 refine s_y rfl (v := .bool true) (y_mv rfl) rfl ?_
 refine s_y rfl (v := .bool true) (y_mv rfl) rfl ?_
 refine st_on 15 rfl rfl rfl (o_y (v := .iface 59 (.agg #[.int .i64 k, .nilIface])) (y_mv rfl) rfl rfl rfl ?_)
 refine st_on 15 rfl rfl rfl (o_y (v := .iface 154 (.pointer (some b))) (y_mv rfl) rfl rfl rfl ?_)
 refine st_on 15 rfl rfl rfl (o_y (v := .bool false) (y_k rfl rfl (fun _ => by kernel_rfl)) rfl rfl rfl ?_)
 refine s_y rfl (v := .bool false) (y_pick rfl rfl) rfl ?_
 refine s_nil (q_then (c_false rfl (c_skip (q_then (c_seq (c_seq (c_region ?_)))))))
 refine s_y rfl (v := .iface 59 (.agg #[.int .i64 k, .nilIface])) (y_mv rfl) rfl ?_
 refine s_y rfl (v := .tuple #[.nilIface, .bool false]) (y_lacks rfl Tryd.underlying123 (by kernel_rfl) (by kernel_rfl)) rfl ?_
 refine s_y rfl (v := .tuple #[.nilIface, .bool false]) (y_mv rfl) rfl ?_
 refine s_y rfl (v := .nilIface) (y_k rfl rfl (fun _ => by kernel_rfl)) rfl ?_
 refine s_y rfl (v := .bool false) (y_k rfl rfl (fun _ => by kernel_rfl)) rfl ?_
 refine s_y rfl (v := .nilIface) (y_as rfl) rfl ?_
 refine s_y rfl (v := .bool false) (y_as rfl) rfl ?_
 refine s_nil (q_then (c_seq (c_region ?_)))
 refine s_y rfl (v := .bool false) (y_mv rfl) rfl ?_
 refine s_y rfl (v := .bool false) (y_mv rfl) rfl ?_
 refine st_off 26 rfl rfl rfl rfl rfl rfl ?_
 refine st_off 26 rfl rfl rfl rfl rfl rfl ?_
 refine st_off 26 rfl rfl rfl rfl rfl rfl ?_
 refine s_y rfl (v := .bool false) (y_pick rfl rfl) rfl ?_
 refine s_nil (q_then (c_false rfl (c_skip (q_then (c_seq (c_region ?_))))))
 refine s_y rfl (v := .iface 59 (.agg #[.int .i64 k, .nilIface])) (y_mv rfl) rfl ?_
 refine s_nil (q_then (c_block (c_seq (c_region ?_))))
 refine s_y rfl (v := .tuple #[.iface 59 (.agg #[.int .i64 k, .nilIface]), .bool true]) (y_has rfl Tryd.underlying126 (by kernel_rfl)) rfl ?_
 refine s_y rfl (v := .bool true) (y_k rfl rfl (fun _ => by kernel_rfl)) rfl ?_
 refine s_y rfl (v := .iface 59 (.agg #[.int .i64 k, .nilIface])) (y_k rfl rfl (fun _ => by kernel_rfl)) rfl ?_
 refine s_nil (q_then (c_true rfl (c_seq (c_region ?_))))
 refine s_y rfl (v := .iface 59 (.agg #[.int .i64 k, .nilIface])) (y_as rfl) rfl ?_
 refine s_nil (q_then (c_seq (c_region ?_)))
 refine s_y rfl (v := .iface 59 (.agg #[.int .i64 k, .nilIface])) (y_mv rfl) rfl ?_
 refine st rfl (o_into [] [] (unwrap_jwn_ k) rfl rfl rfl (fun _ => by kernel_rfl) rfl rfl rfl (fun v L' I' hq1 => ?_))
 obtain ⟨rfl, rfl, rfl⟩ := hq1
 refine s_y rfl (v := .nilIface) (y_as rfl) rfl ?_
 refine s_nil (q_then (c_seq (c_region ?_)))
 refine s_y rfl (v := .nilIface) (y_mv rfl) rfl ?_
 refine s_y rfl (v := .bool true) (y_k rfl rfl (fun _ => by kernel_rfl)) rfl ?_
 refine s_nil (q_then (c_true rfl (c_seq (c_region ?_))))
 refine s_y rfl (v := .bool false) (y_as rfl) rfl ?_
 refine s_nil (q_then (c_ret (q_block_ret (q_block_ret (q_then_ret (q_block_ret ?_))))))
 refine c_fin (I' := []) [] [] rfl (.tmp rfl .nil) rfl rfl rfl ?_
 exact ⟨rfl, rfl, rfl⟩
theorem is_jwn_ (k : Int) (b : Addr) : Con Tryd.prog 50 [.iface 59 (.agg #[.int .i64 k, .nilIface]), .iface 154 (.pointer (some b))] [] [] (fun v L' I' => v = .bool false ∧ L' = [] ∧ I' = []) := by
 refine fn_of Tryd.func50 rfl Tryd.ntmps50 (by kernel_rfl) rfl (fun C => ?_)
 refine c_seq (c_region ?_)
 refine s_y rfl (v := .bool false) (y_as rfl) rfl ?_
 refine s_nil (q_then (c_seq (c_seq (c_region ?_))))
 refine s_y rfl (v := .iface 59 (.agg #[.int .i64 k, .nilIface])) (y_mv rfl) rfl ?_
 refine s_y rfl (v := .bool false) (y_k rfl rfl (fun _ => by kernel_rfl)) rfl ?_
 refine s_y rfl (v := .bool false) (y_mv rfl) rfl ?_
 refine st_on 8 rfl rfl rfl (o_y (v := .iface 154 (.pointer (some b))) (y_mv rfl) rfl rfl rfl ?_)
 refine st_on 8 rfl rfl rfl (o_y (v := .bool false) (y_k rfl rfl (fun _ => by kernel_rfl)) rfl rfl rfl ?_)
 refine s_y rfl (v := .bool false) (y_pick rfl rfl) rfl ?_
 refine s_nil (q_then (c_false rfl (c_skip (q_then (c_seq (c_region ?_))))))
 refine s_y rfl (v := .iface 154 (.pointer (some b))) (y_mv rfl) rfl ?_
 refine s_y rfl (v := .iface 121 (.agg #[.pointer (some ⟨4, 154, none⟩)])) (y_k rfl rfl (fun _ => by kernel_rfl)) rfl ?_
 refine s_y rfl (v := .bool true) (y_k rfl rfl (fun _ => by kernel_rfl)) rfl ?_
 refine s_y rfl (v := .bool true) (y_as rfl) rfl ?_
 refine s_nil (q_then (c_seq (c_region ?_)))
 refine s_y rfl (v := .iface 59 (.agg #[.int .i64 k, .nilIface])) (y_mv rfl) rfl ?_
 refine s_y rfl (v := .iface 154 (.pointer (some b))) (y_mv rfl) rfl ?_
 refine s_y rfl (v := .bool true) (y_mv rfl) rfl ?_
 refine st rfl (o_call [] [] (is1_jwn_ k b) rfl rfl rfl rfl rfl rfl (fun v L' I' hq1 => ?_))
 obtain ⟨rfl, rfl, rfl⟩ := hq1
 refine s_y rfl (v := .bool false) (y_as rfl) rfl ?_
 refine s_nil (q_then (c_ret ?_))
 refine c_fin (I' := []) [] [] rfl (.tmp rfl .nil) rfl rfl rfl ?_
 exact ⟨rfl, rfl, rfl⟩
theorem as_hit_jwn_ (k : Int) (b : Nat) (b1 : Nat) : Con Tryd.prog 65 [.iface 59 (.agg #[.int .i64 k, .nilIface]), .iface 87 (.pointer (some ⟨b, 0, none⟩)), .agg #[.pointer (some ⟨4, 87, none⟩), .pointer (some ⟨b1, 0, none⟩), .int .u64 150], .iface 121 (.agg #[.pointer (some ⟨4, 59, none⟩)])] [pt b [.int .i64 0, .nilIface] 59, pt b1 [.pointer (some ⟨b, 0, none⟩)] 87] [] (fun v L' I' => v = .bool true ∧ L' = [pt b [.int .i64 k, .nilIface] 59] ∧ I' = []) := by
 refine fn_of Tryd.func65 rfl Tryd.ntmps65 (by kernel_rfl) rfl (fun C => ?_)
 refine c_seq (c_region ?_)
 refine st rfl (o_box (cs := [.pointer (some ⟨4, 87, none⟩), .pointer (some ⟨b1, 0, none⟩), .int .u64 150]) (T := 103) rfl rfl rfl rfl (fun _ => by kernel_rfl) (fun b2 => ?_))
 refine s_y rfl (v := .bool false) (y_as rfl) rfl ?_
 refine s_nil (q_then (c_block ?_))
 refine c_unroll 1 ?_
 refine c_round ?_
 refine c_block (c_seq (c_seq (c_region ?_)))
 refine s_y rfl (v := .iface 59 (.agg #[.int .i64 k, .nilIface])) (y_mv rfl) rfl ?_
 refine s_y rfl (v := .iface 121 (.agg #[.pointer (some ⟨4, 59, none⟩)])) (y_k rfl rfl (fun _ => by kernel_rfl)) rfl ?_
 refine s_y rfl (v := .iface 121 (.agg #[.pointer (some ⟨4, 59, none⟩)])) (y_mv rfl) rfl ?_
 refine s_y rfl (v := .bool true) (y_k rfl rfl (fun _ => by kernel_rfl)) rfl ?_
 refine s_nil (q_then (c_true rfl (c_seq (c_region ?_))))
 refine st rfl (o_ldn 0 3 rfl rfl rfl rfl Tryd.underlying103 rfl (by kernel_rfl) (by kernel_rfl) rfl ?_)
 refine st rfl (o_extr (H := ReflectliteValue.method (ReflectliteValue.valueError "reflectlite.Value.Elem" 0) ReflectliteValue.elem) (v := .agg #[.pointer (some ⟨4, 59, none⟩), .pointer (some ⟨b, 0, none⟩), .int .u64 409]) 2 (@run_callFunc_extern Tryd.prog 75 _ (ReflectliteValue.method (ReflectliteValue.valueError "reflectlite.Value.Elem" 0) ReflectliteValue.elem) Tryd.func75 (by kernel_rfl) (by kernel_rfl) (by kernel_rfl) (by kernel_rfl)) rfl rfl rfl (fun w hb => run_elemV (T := 59) (fl := 150) (fun w => by kernel_rfl) (by decide) Tryd.underlying87 rfl (fun w => by kernel_rfl) (fun w => by kernel_rfl) w hb) rfl ?_)
 refine s_y rfl (v := .iface 59 (.agg #[.int .i64 k, .nilIface])) (y_mv rfl) rfl ?_
 refine st rfl (o_boxf (cs := [.int .i64 k, .nilIface]) (T := 59) (fun b => .agg #[.pointer (some ⟨4, 59, none⟩), .pointer (some ⟨b, 0, none⟩), .int .u64 153]) rfl rfl rfl rfl (fun _ => by kernel_rfl) (fun b3 => ?_))
 refine st rfl (o_exts (H := ReflectliteValue.set) 2 0 (@run_callFunc_extern Tryd.prog 76 _ (ReflectliteValue.set) Tryd.func76 (by kernel_rfl) (by kernel_rfl) (by kernel_rfl) (by kernel_rfl)) rfl rfl rfl rfl (fun w hb hb2 => run_setV (f1 := 409) (f2 := 153) (fun w => by kernel_rfl) (fun w => by kernel_rfl) (by decide) (fun w => by kernel_rfl) Tryd.underlying59 rfl (by kernel_rfl) (by kernel_rfl) (by rfl) (by rfl) w hb hb2) rfl ?_)
 refine s_nil (q_then (c_seq (c_region ?_)))
 refine s_y rfl (v := .bool true) (y_as rfl) rfl ?_
 refine s_nil (q_then (c_ret (q_then_ret (q_block_ret (q_then_ret (q_block_ret ?_))))))
 refine c_fin (I' := []) [2] [] rfl (.tmp rfl .nil) rfl rfl rfl ?_
 exact ⟨rfl, rfl, rfl⟩
theorem As_hit_jwn_ (k : Int) (b : Nat) : Con Tryd.prog 51 [.iface 59 (.agg #[.int .i64 k, .nilIface]), .iface 87 (.pointer (some ⟨b, 0, none⟩))] [pt b [.int .i64 0, .nilIface] 59] [cellsAt 1 0 [.iface 121 (.agg #[.pointer (some ⟨4, 57, none⟩)])]] (fun v L' I' => v = .bool true ∧ L' = [pt b [.int .i64 k, .nilIface] 59] ∧ I' = []) := by
 refine fn_of Tryd.func51 rfl Tryd.ntmps51 (by kernel_rfl) rfl (fun C => ?_)
 refine c_seq (c_region ?_)
 refine s_y rfl (v := .bool false) (y_as rfl) rfl ?_
 refine s_nil (q_then (c_seq (c_seq (c_region ?_))))
 refine s_y rfl (v := .iface 59 (.agg #[.int .i64 k, .nilIface])) (y_mv rfl) rfl ?_
 refine s_y rfl (v := .bool false) (y_k rfl rfl (fun _ => by kernel_rfl)) rfl ?_
 refine s_nil (q_then (c_false rfl (c_skip (q_then (c_seq (c_seq (c_region ?_)))))))
 refine s_y rfl (v := .iface 87 (.pointer (some ⟨b, 0, none⟩))) (y_mv rfl) rfl ?_
 refine s_y rfl (v := .bool false) (y_k rfl rfl (fun _ => by kernel_rfl)) rfl ?_
 refine s_nil (q_then (c_false rfl (c_skip (q_then (c_seq (c_region ?_))))))
 refine s_y rfl (v := .iface 87 (.pointer (some ⟨b, 0, none⟩))) (y_mv rfl) rfl ?_
 refine st rfl (o_boxf (cs := [.pointer (some ⟨b, 0, none⟩)]) (T := 87) (fun b => .agg #[.pointer (some ⟨4, 87, none⟩), .pointer (some ⟨b, 0, none⟩), .int .u64 150]) rfl rfl rfl rfl (fun _ => by kernel_rfl) (fun b1 => ?_))
 refine st rfl (o_box (cs := [.pointer none, .pointer none, .int .u64 0]) (T := 103) rfl rfl rfl rfl (fun _ => by kernel_rfl) (fun b2 => ?_))
 refine st rfl (o_st 0 rfl rfl rfl rfl rfl (by kernel_rfl) (by kernel_rfl) rfl ?_)
 refine s_nil (q_then (c_seq (c_region ?_)))
 refine st rfl (o_ldn 0 3 rfl rfl rfl rfl Tryd.underlying103 rfl (by kernel_rfl) (by kernel_rfl) rfl ?_)
 refine s_y rfl (v := .iface 121 (.agg #[.pointer (some ⟨4, 87, none⟩)])) (y_k rfl rfl (fun _ => by kernel_rfl)) rfl ?_
 refine s_y rfl (v := .iface 121 (.agg #[.pointer (some ⟨4, 87, none⟩)])) (y_as rfl) rfl ?_
 refine s_nil (q_then (c_seq (c_seq (c_region ?_))))
 refine s_y rfl (v := .iface 121 (.agg #[.pointer (some ⟨4, 87, none⟩)])) (y_mv rfl) rfl ?_
 refine s_y rfl (v := .int .u8 22) (y_k rfl rfl (fun _ => by kernel_rfl)) rfl ?_
 refine s_y rfl (v := .bool false) (y_k rfl rfl (fun _ => by kernel_rfl)) rfl ?_
 refine s_y rfl (v := .bool false) (y_mv rfl) rfl ?_
 refine st_on 20 rfl rfl rfl (o_ldn 0 3 rfl rfl rfl rfl Tryd.underlying103 rfl (by kernel_rfl) (by kernel_rfl) rfl ?_)
 refine st_on 20 rfl rfl rfl (o_extr (H := ReflectliteValue.method (ReflectliteValue.valueError "reflectlite.Value.IsNil" 0) ReflectliteValue.isNil) 1 (@run_callFunc_extern Tryd.prog 64 _ (ReflectliteValue.method (ReflectliteValue.valueError "reflectlite.Value.IsNil" 0) ReflectliteValue.isNil) Tryd.func64 (by kernel_rfl) (by kernel_rfl) (by kernel_rfl) (by kernel_rfl)) rfl rfl rfl (fun w hb => run_isNil (fl := 150) (fun w => by kernel_rfl) (by decide) Tryd.underlying87 rfl w hb) rfl ?_)
 refine s_y rfl (v := .bool false) (y_pick rfl rfl) rfl ?_
 refine s_nil (q_then (c_false rfl (c_skip (q_then (c_seq (c_region ?_))))))
 refine s_y rfl (v := .iface 121 (.agg #[.pointer (some ⟨4, 87, none⟩)])) (y_mv rfl) rfl ?_
 refine s_y rfl (v := .iface 121 (.agg #[.pointer (some ⟨4, 59, none⟩)])) (y_k rfl rfl (fun _ => by kernel_rfl)) rfl ?_
 refine s_y rfl (v := .iface 121 (.agg #[.pointer (some ⟨4, 59, none⟩)])) (y_as rfl) rfl ?_
 refine s_nil (q_then (c_seq (c_seq (c_region ?_))))
 refine s_y rfl (v := .iface 121 (.agg #[.pointer (some ⟨4, 59, none⟩)])) (y_mv rfl) rfl ?_
 refine s_y rfl (v := .int .u8 25) (y_k rfl rfl (fun _ => by kernel_rfl)) rfl ?_
 refine s_y rfl (v := .bool true) (y_k rfl rfl (fun _ => by kernel_rfl)) rfl ?_
 refine s_y rfl (v := .bool true) (y_mv rfl) rfl ?_
 refine st_on 30 rfl rfl rfl (o_y (v := .iface 121 (.agg #[.pointer (some ⟨4, 59, none⟩)])) (y_mv rfl) rfl rfl rfl ?_)
 refine st_on 30 rfl rfl rfl (o_ldf 0 0 rfl rfl rfl Tryd.underlying97 rfl rfl ?_)
 refine st_on 30 rfl rfl rfl (o_y (v := .bool true) (y_k rfl rfl (fun _ => by kernel_rfl)) rfl rfl rfl ?_)
 refine st_on 30 rfl rfl rfl (o_y (v := .bool false) (y_k rfl rfl (fun _ => by kernel_rfl)) rfl rfl rfl ?_)
 refine s_y rfl (v := .bool false) (y_pick rfl rfl) rfl ?_
 refine s_nil (q_then (c_false rfl (c_skip (q_then (c_seq (c_region ?_))))))
 refine s_y rfl (v := .iface 59 (.agg #[.int .i64 k, .nilIface])) (y_mv rfl) rfl ?_
 refine s_y rfl (v := .iface 87 (.pointer (some ⟨b, 0, none⟩))) (y_mv rfl) rfl ?_
 refine st rfl (o_ldn 0 3 rfl rfl rfl rfl Tryd.underlying103 rfl (by kernel_rfl) (by kernel_rfl) rfl ?_)
 refine s_y rfl (v := .iface 121 (.agg #[.pointer (some ⟨4, 59, none⟩)])) (y_mv rfl) rfl ?_
 refine st rfl (o_call [2, 1] [] (as_hit_jwn_ k b b1) rfl rfl rfl rfl rfl rfl (fun v L' I' hq1 => ?_))
 obtain ⟨rfl, rfl, rfl⟩ := hq1
 refine s_y rfl (v := .bool true) (y_as rfl) rfl ?_
 refine s_nil (q_then (c_ret ?_))
 refine c_fin (I' := []) [0] [0] rfl (.tmp rfl .nil) rfl rfl rfl ?_
 exact ⟨rfl, rfl, rfl⟩
theorem As_nil_jwn_ (b : Nat) : Con Tryd.prog 51 [.nilIface, .iface 87 (.pointer (some ⟨b, 0, none⟩))] [] [] (fun v L' I' => v = .bool false ∧ L' = [] ∧ I' = []) := by
 refine fn_of Tryd.func51 rfl Tryd.ntmps51 (by kernel_rfl) rfl (fun C => ?_)
 refine c_seq (c_region ?_)
 refine s_y rfl (v := .bool false) (y_as rfl) rfl ?_
 refine s_nil (q_then (c_seq (c_seq (c_region ?_))))
 refine s_y rfl (v := .nilIface) (y_mv rfl) rfl ?_
 refine s_y rfl (v := .bool true) (y_k rfl rfl (fun _ => by kernel_rfl)) rfl ?_
 refine s_nil (q_then (c_true rfl (c_seq (c_region ?_))))
 refine s_y rfl (v := .bool false) (y_as rfl) rfl ?_
 refine s_nil (q_then (c_ret (q_then_ret ?_)))
 refine c_fin (I' := []) [] [] rfl (.tmp rfl .nil) rfl rfl rfl ?_
 exact ⟨rfl, rfl, rfl⟩
theorem jtold_nil_ (es : Addr) : Con Tryd.prog 35 [.nilIface] [] [cellsAt 0 0 [.iface 154 (.pointer (some es))], errAt es, cellsAt 1 0 [.iface 121 (.agg #[.pointer (some ⟨4, 57, none⟩)])]] (fun v L' I' => v = .int .i64 0 ∧ L' = [] ∧ I' = []) := by
 refine fn_of Tryd.func35 rfl Tryd.ntmps35 (by kernel_rfl) rfl (fun C => ?_)
 refine c_seq (c_region ?_)
 refine s_y rfl (v := .int .i64 0) (y_as rfl) rfl ?_
 refine s_nil (q_then (c_seq (c_region ?_)))
 refine st rfl (o_box (cs := [.int .i64 0, .nilIface]) (T := 59) rfl rfl rfl rfl (fun _ => by kernel_rfl) (fun b1 => ?_))
 refine s_nil (q_then (c_seq (c_block (c_seq (c_region ?_)))))
 refine s_y rfl (v := .nilIface) (y_mv rfl) rfl ?_
 refine st rfl (o_ldf 0 0 rfl rfl rfl Tryd.underlying57 rfl rfl ?_)
 refine st rfl (o_call [] [] (is_nil_ es) rfl rfl rfl rfl rfl rfl (fun v L' I' hq1 => ?_))
 obtain ⟨rfl, rfl, rfl⟩ := hq1
 refine s_y rfl (v := .bool false) (y_as rfl) rfl ?_
 refine s_nil (q_then (c_false rfl (c_seq (c_region ?_))))
 refine s_y rfl (v := .nilIface) (y_mv rfl) rfl ?_
 refine s_y rfl (v := .iface 87 (.pointer (some ⟨b1, 0, none⟩))) (y_k rfl rfl (fun _ => by kernel_rfl)) rfl ?_
 refine st rfl (o_call [] [] (As_nil_jwn_ b1) rfl rfl rfl rfl rfl rfl (fun v L' I' hq2 => ?_))
 obtain ⟨rfl, rfl, rfl⟩ := hq2
 refine s_y rfl (v := .bool false) (y_as rfl) rfl ?_
 refine s_nil (q_then (c_false rfl (c_skip (q_block (q_then (c_seq (c_region ?_)))))))
 refine s_y rfl (v := .int .i64 0) (y_as rfl) rfl ?_
 refine s_nil (q_then (c_ret ?_))
 refine c_fin (I' := []) [] [0, 1, 2] rfl (.tmp rfl .nil) rfl rfl rfl ?_
 exact ⟨rfl, rfl, rfl⟩
theorem jtold_es_ (es : Addr) : Con Tryd.prog 35 [.iface 59 (.agg #[.int .i64 151, .iface 154 (.pointer (some es))])] [] [cellsAt 0 0 [.iface 154 (.pointer (some es))], errAt es, cellsAt 1 0 [.iface 121 (.agg #[.pointer (some ⟨4, 57, none⟩)])]] (fun v L' I' => v = .int .i64 151 ∧ L' = [] ∧ I' = []) := by
 refine fn_of Tryd.func35 rfl Tryd.ntmps35 (by kernel_rfl) rfl (fun C => ?_)
 refine c_seq (c_region ?_)
 refine s_y rfl (v := .int .i64 0) (y_as rfl) rfl ?_
 refine s_nil (q_then (c_seq (c_region ?_)))
 refine st rfl (o_box (cs := [.int .i64 0, .nilIface]) (T := 59) rfl rfl rfl rfl (fun _ => by kernel_rfl) (fun b1 => ?_))
 refine s_nil (q_then (c_seq (c_block (c_seq (c_region ?_)))))
 refine s_y rfl (v := .iface 59 (.agg #[.int .i64 151, .iface 154 (.pointer (some es))])) (y_mv rfl) rfl ?_
 refine st rfl (o_ldf 0 0 rfl rfl rfl Tryd.underlying57 rfl rfl ?_)
 refine st rfl (o_call [] [] (is_jw_same_ es) rfl rfl rfl rfl rfl rfl (fun v L' I' hq1 => ?_))
 obtain ⟨rfl, rfl, rfl⟩ := hq1
 refine s_y rfl (v := .bool true) (y_as rfl) rfl ?_
 refine s_nil (q_then (c_true rfl (c_seq (c_region ?_))))
 refine s_y rfl (v := .int .i64 151) (y_as rfl) rfl ?_
 refine s_nil (q_then (c_ret (q_block_ret (q_then_ret ?_))))
 refine c_fin (I' := []) [] [0, 1, 2] rfl (.tmp rfl .nil) rfl rfl rfl ?_
 exact ⟨rfl, rfl, rfl⟩
theorem jtold_k_ (es : Addr) (k : Int) : Con Tryd.prog 35 [.iface 59 (.agg #[.int .i64 k, .nilIface])] [] [cellsAt 0 0 [.iface 154 (.pointer (some es))], errAt es, cellsAt 1 0 [.iface 121 (.agg #[.pointer (some ⟨4, 57, none⟩)])]] (fun v L' I' => v = .int .i64 k ∧ L' = [] ∧ I' = []) := by
 refine fn_of Tryd.func35 rfl Tryd.ntmps35 (by kernel_rfl) rfl (fun C => ?_)
 refine c_seq (c_region ?_)
 refine s_y rfl (v := .int .i64 0) (y_as rfl) rfl ?_
 refine s_nil (q_then (c_seq (c_region ?_)))
 refine st rfl (o_box (cs := [.int .i64 0, .nilIface]) (T := 59) rfl rfl rfl rfl (fun _ => by kernel_rfl) (fun b1 => ?_))
 refine s_nil (q_then (c_seq (c_block (c_seq (c_region ?_)))))
 refine s_y rfl (v := .iface 59 (.agg #[.int .i64 k, .nilIface])) (y_mv rfl) rfl ?_
 refine st rfl (o_ldf 0 0 rfl rfl rfl Tryd.underlying57 rfl rfl ?_)
 refine st rfl (o_call [] [] (is_jwn_ k es) rfl rfl rfl rfl rfl rfl (fun v L' I' hq1 => ?_))
 obtain ⟨rfl, rfl, rfl⟩ := hq1
 refine s_y rfl (v := .bool false) (y_as rfl) rfl ?_
 refine s_nil (q_then (c_false rfl (c_seq (c_region ?_))))
 refine s_y rfl (v := .iface 59 (.agg #[.int .i64 k, .nilIface])) (y_mv rfl) rfl ?_
 refine s_y rfl (v := .iface 87 (.pointer (some ⟨b1, 0, none⟩))) (y_k rfl rfl (fun _ => by kernel_rfl)) rfl ?_
 refine st rfl (o_call [0] [2] (As_hit_jwn_ k b1) rfl rfl rfl rfl rfl rfl (fun v L' I' hq2 => ?_))
 obtain ⟨rfl, rfl, rfl⟩ := hq2
 refine s_y rfl (v := .bool true) (y_as rfl) rfl ?_
 refine s_nil (q_then (c_true rfl (c_seq (c_region ?_))))
 refine s_y rfl (v := .pointer (some ⟨b1, 0, none⟩)) (y_k rfl rfl (fun _ => by kernel_rfl)) rfl ?_
 refine st rfl (o_ld 0 rfl rfl rfl Tryd.underlying30 rfl rfl ?_)
 refine s_y rfl (v := .int .i64 k) (y_as rfl) rfl ?_
 refine s_nil (q_then (c_ret (q_block_ret (q_then_ret ?_))))
 refine c_fin (I' := []) [] [0, 1, 2] rfl (.tmp rfl .nil) rfl rfl rfl ?_
 exact ⟨rfl, rfl, rfl⟩
end Go.Proofs.YthehnjbdkjnlpaaDoor
