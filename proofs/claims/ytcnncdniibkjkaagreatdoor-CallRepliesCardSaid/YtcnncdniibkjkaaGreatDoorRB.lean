/- The laws of chapter 17 (call), walked over the given program; no condition but what stands in each theorem: part B. -/
import Derived.WalkKit
import Derived.LaidEql
import Derived.Stop.Asserts
import Derived.RowKitTokens
import Derived.Test.YtcnncdniibkjkaaGreatDoorProg
import Derived.Test.YtcnncdniibkjkaaGreatDoorChecked
import Derived.Test.YtcnncdniibkjkaaGreatDoorSlO
set_option linter.unusedVariables false
set_option linter.unusedSimpArgs false
set_option maxRecDepth 100000
set_option maxHeartbeats 8000000
namespace Go.Proofs.YtcnncdniibkjkaaGreatDoor
open Go Go.Sl Go.RowKit Go.Extern.Stop Go.Stop Go.Extern
/-- A pointer to a block of errors.New's make. -/
def errAt (a : Addr) : Atom := fun h => ∃ c t, h a.block = some (.cells c t (0, 0))
theorem is1_same_ (a : Addr) : Con Tryz.prog 99 [.iface 180 (.pointer (some a)), .iface 180 (.pointer (some a)), .bool true] [] [] (fun v L' I' => v = .bool true ∧ L' = [] ∧ I' = []) := by
 refine fn_of Tryz.func99 rfl Tryz.ntmps99 (by kernel_rfl) rfl (fun C => ?_)
 refine c_seq (c_region ?_)
 refine s_y rfl (v := .bool false) (y_as rfl) rfl ?_
 refine s_nil (q_then (c_block ?_))
 refine c_unroll 2 ?_
 refine c_round ?_
 refine c_block (c_seq (c_seq (c_region ?_)))
 refine s_y rfl (v := .bool true) (y_mv rfl) rfl ?_
 refine s_y rfl (v := .bool true) (y_mv rfl) rfl ?_
 refine st_on 15 rfl rfl rfl (o_y (v := .iface 180 (.pointer (some a))) (y_mv rfl) rfl rfl rfl ?_)
 refine st_on 15 rfl rfl rfl (o_y (v := .iface 180 (.pointer (some a))) (y_mv rfl) rfl rfl rfl ?_)
 refine st_on 15 rfl rfl rfl (o_y (v := .bool true) (y_ifsame rfl rfl Tryz.underlying48 Tryz.underlying180 (by kernel_rfl) (by kernel_rfl)) rfl rfl rfl ?_)
 refine s_y rfl (v := .bool true) (y_pick rfl rfl) rfl ?_
 refine s_nil (q_then (c_true rfl (c_seq (c_region ?_))))
 refine s_y rfl (v := .bool true) (y_as rfl) rfl ?_
 refine s_nil (q_then (c_ret (q_then_ret (q_block_ret (q_then_ret (q_block_ret ?_))))))
 refine c_fin (I' := []) [] [] rfl (.tmp rfl .nil) rfl rfl rfl ?_
 exact ⟨rfl, rfl, rfl⟩
theorem is1_other_ (a : Addr) (b : Addr) (hne : a ≠ b) : Con Tryz.prog 99 [.iface 180 (.pointer (some a)), .iface 180 (.pointer (some b)), .bool true] [] [errAt a, errAt b] (fun v L' I' => v = .bool false ∧ L' = [] ∧ I' = []) := by
 refine fn_of Tryz.func99 rfl Tryz.ntmps99 (by kernel_rfl) rfl (fun C => ?_)
 refine c_seq (c_region ?_)
 refine s_y rfl (v := .bool false) (y_as rfl) rfl ?_
 refine s_nil (q_then (c_block ?_))
 refine c_unroll 2 ?_
 refine c_round ?_
 refine c_block (c_seq (c_seq (c_region ?_)))
 refine s_y rfl (v := .bool true) (y_mv rfl) rfl ?_
 refine s_y rfl (v := .bool true) (y_mv rfl) rfl ?_
 refine st_on 15 rfl rfl rfl (o_y (v := .iface 180 (.pointer (some a))) (y_mv rfl) rfl rfl rfl ?_)
 refine st_on 15 rfl rfl rfl (o_y (v := .iface 180 (.pointer (some b))) (y_mv rfl) rfl rfl rfl ?_)
 refine st_on 15 rfl rfl rfl (o_ifother 0 1 rfl rfl (by first | assumption | exact Ne.symm (by assumption)) rfl rfl (fun _ h => h) (fun _ h => h) Tryz.underlying48 Tryz.underlying180 (by kernel_rfl) (by kernel_rfl) rfl ?_)
 refine s_y rfl (v := .bool false) (y_pick rfl rfl) rfl ?_
 refine s_nil (q_then (c_false rfl (c_skip (q_then (c_seq (c_seq (c_region ?_)))))))
 refine s_y rfl (v := .iface 180 (.pointer (some a))) (y_mv rfl) rfl ?_
 refine s_y rfl (v := .tuple #[.nilIface, .bool false]) (y_lacks rfl Tryz.underlying176 (by kernel_rfl) (by kernel_rfl)) rfl ?_
 refine s_y rfl (v := .tuple #[.nilIface, .bool false]) (y_mv rfl) rfl ?_
 refine s_y rfl (v := .nilIface) (y_k rfl rfl (fun _ => by kernel_rfl)) rfl ?_
 refine s_y rfl (v := .bool false) (y_k rfl rfl (fun _ => by kernel_rfl)) rfl ?_
 refine s_y rfl (v := .nilIface) (y_as rfl) rfl ?_
 refine s_y rfl (v := .bool false) (y_as rfl) rfl ?_
 refine s_nil (q_then (c_seq (c_region ?_)))
 refine s_y rfl (v := .bool false) (y_mv rfl) rfl ?_
 refine s_y rfl (v := .bool false) (y_mv rfl) rfl ?_
 refine st_off 26 rfl rfl rfl rfl rfl rfl ?_
 refine st_off 26 rfl rfl rfl rfl rfl rfl ?_
 refine st_off 26 rfl rfl rfl rfl rfl rfl ?_
 refine s_y rfl (v := .bool false) (y_pick rfl rfl) rfl ?_
 refine s_nil (q_then (c_false rfl (c_skip (q_then (c_seq (c_region ?_))))))
 refine s_y rfl (v := .iface 180 (.pointer (some a))) (y_mv rfl) rfl ?_
 refine s_nil (q_then (c_block (c_seq (c_region ?_))))
 refine s_y rfl (v := .tuple #[.nilIface, .bool false]) (y_lacks rfl Tryz.underlying155 (by kernel_rfl) (by kernel_rfl)) rfl ?_
 refine s_y rfl (v := .bool false) (y_k rfl rfl (fun _ => by kernel_rfl)) rfl ?_
 refine s_y rfl (v := .nilIface) (y_k rfl rfl (fun _ => by kernel_rfl)) rfl ?_
 refine s_nil (q_then (c_false rfl (c_seq (c_region ?_))))
 refine s_y rfl (v := .tuple #[.nilIface, .bool false]) (y_lacks rfl Tryz.underlying157 (by kernel_rfl) (by kernel_rfl)) rfl ?_
 refine s_y rfl (v := .bool false) (y_k rfl rfl (fun _ => by kernel_rfl)) rfl ?_
 refine s_y rfl (v := .nilIface) (y_k rfl rfl (fun _ => by kernel_rfl)) rfl ?_
 refine s_nil (q_then (c_false rfl (c_seq (c_region ?_))))
 refine s_y rfl (v := .iface 180 (.pointer (some a))) (y_as rfl) rfl ?_
 refine s_nil (q_then (c_seq (c_region ?_)))
 refine s_y rfl (v := .bool false) (y_as rfl) rfl ?_
 refine s_nil (q_then (c_ret (q_block_ret (q_block_ret (q_then_ret (q_block_ret ?_))))))
 refine c_fin (I' := []) [] [0, 1] rfl (.tmp rfl .nil) rfl rfl rfl ?_
 exact ⟨rfl, rfl, rfl⟩
theorem unwrap_at_ (a : Addr) (k : Nat) : Con Tryz.prog 126 [.agg #[.iface 180 (.pointer (some a)), .int .i64 (k : Int)]] [] [] (fun v L' I' => v = .iface 180 (.pointer (some a)) ∧ L' = [] ∧ I' = []) := by
 refine fn_of Tryz.func126 rfl Tryz.ntmps126 (by kernel_rfl) rfl (fun C => ?_)
 refine c_seq (c_region ?_)
 refine st rfl (o_box (cs := [.iface 180 (.pointer (some a)), .int .i64 (k : Int)]) (T := 131) rfl rfl rfl rfl (fun _ => by kernel_rfl) (fun b1 => ?_))
 refine s_y rfl (v := .nilIface) (y_as rfl) rfl ?_
 refine s_nil (q_then (c_seq (c_region ?_)))
 refine s_y rfl (v := .pointer (some ⟨b1, 0, none⟩)) (y_k rfl rfl (fun _ => by kernel_rfl)) rfl ?_
 refine st rfl (o_ld 0 rfl rfl rfl Tryz.underlying48 rfl rfl ?_)
 refine s_y rfl (v := .iface 180 (.pointer (some a))) (y_as rfl) rfl ?_
 refine s_nil (q_then (c_ret ?_))
 refine c_fin (I' := []) [] [] rfl (.tmp rfl .nil) rfl rfl rfl ?_
 exact ⟨rfl, rfl, rfl⟩
theorem is1_at_same_ (a : Addr) (k : Nat) : Con Tryz.prog 99 [.iface 131 (.agg #[.iface 180 (.pointer (some a)), .int .i64 (k : Int)]), .iface 180 (.pointer (some a)), .bool true] [] [] (fun v L' I' => v = .bool true ∧ L' = [] ∧ I' = []) := by
 refine fn_of Tryz.func99 rfl Tryz.ntmps99 (by kernel_rfl) rfl (fun C => ?_)
 refine c_seq (c_region ?_)
 refine s_y rfl (v := .bool false) (y_as rfl) rfl ?_
 refine s_nil (q_then (c_block ?_))
 refine c_unroll 2 ?_
 refine c_round ?_
 refine c_block (c_seq (c_seq (c_region ?_)))
 refine s_y rfl (v := .bool true) (y_mv rfl) rfl ?_
 refine s_y rfl (v := .bool true) (y_mv rfl) rfl ?_
 refine st_on 15 rfl rfl rfl (o_y (v := .iface 131 (.agg #[.iface 180 (.pointer (some a)), .int .i64 (k : Int)])) (y_mv rfl) rfl rfl rfl ?_)
 refine st_on 15 rfl rfl rfl (o_y (v := .iface 180 (.pointer (some a))) (y_mv rfl) rfl rfl rfl ?_)
 refine st_on 15 rfl rfl rfl (o_y (v := .bool false) (y_k rfl rfl (fun _ => by kernel_rfl)) rfl rfl rfl ?_)
 refine s_y rfl (v := .bool false) (y_pick rfl rfl) rfl ?_
 refine s_nil (q_then (c_false rfl (c_skip (q_then (c_seq (c_seq (c_region ?_)))))))
 refine s_y rfl (v := .iface 131 (.agg #[.iface 180 (.pointer (some a)), .int .i64 (k : Int)])) (y_mv rfl) rfl ?_
 refine s_y rfl (v := .tuple #[.nilIface, .bool false]) (y_lacks rfl Tryz.underlying176 (by kernel_rfl) (by kernel_rfl)) rfl ?_
 refine s_y rfl (v := .tuple #[.nilIface, .bool false]) (y_mv rfl) rfl ?_
 refine s_y rfl (v := .nilIface) (y_k rfl rfl (fun _ => by kernel_rfl)) rfl ?_
 refine s_y rfl (v := .bool false) (y_k rfl rfl (fun _ => by kernel_rfl)) rfl ?_
 refine s_y rfl (v := .nilIface) (y_as rfl) rfl ?_
 refine s_y rfl (v := .bool false) (y_as rfl) rfl ?_
 refine s_nil (q_then (c_seq (c_region ?_)))
 refine s_y rfl (v := .bool false) (y_mv rfl) rfl ?_
 refine s_y rfl (v := .bool false) (y_mv rfl) rfl ?_
 refine st_off 26 rfl rfl rfl rfl rfl rfl ?_
 refine st_off 26 rfl rfl rfl rfl rfl rfl ?_
 refine st_off 26 rfl rfl rfl rfl rfl rfl ?_
 refine s_y rfl (v := .bool false) (y_pick rfl rfl) rfl ?_
 refine s_nil (q_then (c_false rfl (c_skip (q_then (c_seq (c_region ?_))))))
 refine s_y rfl (v := .iface 131 (.agg #[.iface 180 (.pointer (some a)), .int .i64 (k : Int)])) (y_mv rfl) rfl ?_
 refine s_nil (q_then (c_block (c_seq (c_region ?_))))
 refine s_y rfl (v := .tuple #[.iface 131 (.agg #[.iface 180 (.pointer (some a)), .int .i64 (k : Int)]), .bool true]) (y_has rfl Tryz.underlying155 (by kernel_rfl)) rfl ?_
 refine s_y rfl (v := .bool true) (y_k rfl rfl (fun _ => by kernel_rfl)) rfl ?_
 refine s_y rfl (v := .iface 131 (.agg #[.iface 180 (.pointer (some a)), .int .i64 (k : Int)])) (y_k rfl rfl (fun _ => by kernel_rfl)) rfl ?_
 refine s_nil (q_then (c_true rfl (c_seq (c_region ?_))))
 refine s_y rfl (v := .iface 131 (.agg #[.iface 180 (.pointer (some a)), .int .i64 (k : Int)])) (y_as rfl) rfl ?_
 refine s_nil (q_then (c_seq (c_region ?_)))
 refine s_y rfl (v := .iface 131 (.agg #[.iface 180 (.pointer (some a)), .int .i64 (k : Int)])) (y_mv rfl) rfl ?_
 refine st rfl (o_into [] [] (unwrap_at_ a k) rfl rfl rfl (fun _ => by kernel_rfl) rfl rfl rfl (fun v L' I' hq1 => ?_))
 obtain ⟨rfl, rfl, rfl⟩ := hq1
 refine s_y rfl (v := .iface 180 (.pointer (some a))) (y_as rfl) rfl ?_
 refine s_nil (q_then (c_seq (c_region ?_)))
 refine s_y rfl (v := .iface 180 (.pointer (some a))) (y_mv rfl) rfl ?_
 refine s_y rfl (v := .bool false) (y_k rfl rfl (fun _ => by kernel_rfl)) rfl ?_
 refine s_nil (q_then (c_false rfl (c_skip (q_block (q_block (q_then ?_))))))
 refine c_round ?_
 refine c_block (c_seq (c_seq (c_region ?_)))
 refine s_y rfl (v := .bool true) (y_mv rfl) rfl ?_
 refine s_y rfl (v := .bool true) (y_mv rfl) rfl ?_
 refine st_on 15 rfl rfl rfl (o_y (v := .iface 180 (.pointer (some a))) (y_mv rfl) rfl rfl rfl ?_)
 refine st_on 15 rfl rfl rfl (o_y (v := .iface 180 (.pointer (some a))) (y_mv rfl) rfl rfl rfl ?_)
 refine st_on 15 rfl rfl rfl (o_y (v := .bool true) (y_ifsame rfl rfl Tryz.underlying48 Tryz.underlying180 (by kernel_rfl) (by kernel_rfl)) rfl rfl rfl ?_)
 refine s_y rfl (v := .bool true) (y_pick rfl rfl) rfl ?_
 refine s_nil (q_then (c_true rfl (c_seq (c_region ?_))))
 refine s_y rfl (v := .bool true) (y_as rfl) rfl ?_
 refine s_nil (q_then (c_ret (q_then_ret (q_block_ret (q_then_ret (q_block_ret ?_))))))
 refine c_fin (I' := []) [] [] rfl (.tmp rfl .nil) rfl rfl rfl ?_
 exact ⟨rfl, rfl, rfl⟩
theorem is1_at_other_ (a : Addr) (k : Nat) (b : Addr) (hne : a ≠ b) : Con Tryz.prog 99 [.iface 131 (.agg #[.iface 180 (.pointer (some a)), .int .i64 (k : Int)]), .iface 180 (.pointer (some b)), .bool true] [] [errAt a, errAt b] (fun v L' I' => v = .bool false ∧ L' = [] ∧ I' = []) := by
 refine fn_of Tryz.func99 rfl Tryz.ntmps99 (by kernel_rfl) rfl (fun C => ?_)
 refine c_seq (c_region ?_)
 refine s_y rfl (v := .bool false) (y_as rfl) rfl ?_
 refine s_nil (q_then (c_block ?_))
 refine c_unroll 2 ?_
 refine c_round ?_
 refine c_block (c_seq (c_seq (c_region ?_)))
 refine s_y rfl (v := .bool true) (y_mv rfl) rfl ?_
 refine s_y rfl (v := .bool true) (y_mv rfl) rfl ?_
 refine st_on 15 rfl rfl rfl (o_y (v := .iface 131 (.agg #[.iface 180 (.pointer (some a)), .int .i64 (k : Int)])) (y_mv rfl) rfl rfl rfl ?_)
 refine st_on 15 rfl rfl rfl (o_y (v := .iface 180 (.pointer (some b))) (y_mv rfl) rfl rfl rfl ?_)
 refine st_on 15 rfl rfl rfl (o_y (v := .bool false) (y_k rfl rfl (fun _ => by kernel_rfl)) rfl rfl rfl ?_)
 refine s_y rfl (v := .bool false) (y_pick rfl rfl) rfl ?_
 refine s_nil (q_then (c_false rfl (c_skip (q_then (c_seq (c_seq (c_region ?_)))))))
 refine s_y rfl (v := .iface 131 (.agg #[.iface 180 (.pointer (some a)), .int .i64 (k : Int)])) (y_mv rfl) rfl ?_
 refine s_y rfl (v := .tuple #[.nilIface, .bool false]) (y_lacks rfl Tryz.underlying176 (by kernel_rfl) (by kernel_rfl)) rfl ?_
 refine s_y rfl (v := .tuple #[.nilIface, .bool false]) (y_mv rfl) rfl ?_
 refine s_y rfl (v := .nilIface) (y_k rfl rfl (fun _ => by kernel_rfl)) rfl ?_
 refine s_y rfl (v := .bool false) (y_k rfl rfl (fun _ => by kernel_rfl)) rfl ?_
 refine s_y rfl (v := .nilIface) (y_as rfl) rfl ?_
 refine s_y rfl (v := .bool false) (y_as rfl) rfl ?_
 refine s_nil (q_then (c_seq (c_region ?_)))
 refine s_y rfl (v := .bool false) (y_mv rfl) rfl ?_
 refine s_y rfl (v := .bool false) (y_mv rfl) rfl ?_
 refine st_off 26 rfl rfl rfl rfl rfl rfl ?_
 refine st_off 26 rfl rfl rfl rfl rfl rfl ?_
 refine st_off 26 rfl rfl rfl rfl rfl rfl ?_
 refine s_y rfl (v := .bool false) (y_pick rfl rfl) rfl ?_
 refine s_nil (q_then (c_false rfl (c_skip (q_then (c_seq (c_region ?_))))))
 refine s_y rfl (v := .iface 131 (.agg #[.iface 180 (.pointer (some a)), .int .i64 (k : Int)])) (y_mv rfl) rfl ?_
 refine s_nil (q_then (c_block (c_seq (c_region ?_))))
 refine s_y rfl (v := .tuple #[.iface 131 (.agg #[.iface 180 (.pointer (some a)), .int .i64 (k : Int)]), .bool true]) (y_has rfl Tryz.underlying155 (by kernel_rfl)) rfl ?_
 refine s_y rfl (v := .bool true) (y_k rfl rfl (fun _ => by kernel_rfl)) rfl ?_
 refine s_y rfl (v := .iface 131 (.agg #[.iface 180 (.pointer (some a)), .int .i64 (k : Int)])) (y_k rfl rfl (fun _ => by kernel_rfl)) rfl ?_
 refine s_nil (q_then (c_true rfl (c_seq (c_region ?_))))
 refine s_y rfl (v := .iface 131 (.agg #[.iface 180 (.pointer (some a)), .int .i64 (k : Int)])) (y_as rfl) rfl ?_
 refine s_nil (q_then (c_seq (c_region ?_)))
 refine s_y rfl (v := .iface 131 (.agg #[.iface 180 (.pointer (some a)), .int .i64 (k : Int)])) (y_mv rfl) rfl ?_
 refine st rfl (o_into [] [] (unwrap_at_ a k) rfl rfl rfl (fun _ => by kernel_rfl) rfl rfl rfl (fun v L' I' hq1 => ?_))
 obtain ⟨rfl, rfl, rfl⟩ := hq1
 refine s_y rfl (v := .iface 180 (.pointer (some a))) (y_as rfl) rfl ?_
 refine s_nil (q_then (c_seq (c_region ?_)))
 refine s_y rfl (v := .iface 180 (.pointer (some a))) (y_mv rfl) rfl ?_
 refine s_y rfl (v := .bool false) (y_k rfl rfl (fun _ => by kernel_rfl)) rfl ?_
 refine s_nil (q_then (c_false rfl (c_skip (q_block (q_block (q_then ?_))))))
 refine c_round ?_
 refine c_block (c_seq (c_seq (c_region ?_)))
 refine s_y rfl (v := .bool true) (y_mv rfl) rfl ?_
 refine s_y rfl (v := .bool true) (y_mv rfl) rfl ?_
 refine st_on 15 rfl rfl rfl (o_y (v := .iface 180 (.pointer (some a))) (y_mv rfl) rfl rfl rfl ?_)
 refine st_on 15 rfl rfl rfl (o_y (v := .iface 180 (.pointer (some b))) (y_mv rfl) rfl rfl rfl ?_)
 refine st_on 15 rfl rfl rfl (o_ifother 0 1 rfl rfl (by first | assumption | exact Ne.symm (by assumption)) rfl rfl (fun _ h => h) (fun _ h => h) Tryz.underlying48 Tryz.underlying180 (by kernel_rfl) (by kernel_rfl) rfl ?_)
 refine s_y rfl (v := .bool false) (y_pick rfl rfl) rfl ?_
 refine s_nil (q_then (c_false rfl (c_skip (q_then (c_seq (c_seq (c_region ?_)))))))
 refine s_y rfl (v := .iface 180 (.pointer (some a))) (y_mv rfl) rfl ?_
 refine s_y rfl (v := .tuple #[.nilIface, .bool false]) (y_lacks rfl Tryz.underlying176 (by kernel_rfl) (by kernel_rfl)) rfl ?_
 refine s_y rfl (v := .tuple #[.nilIface, .bool false]) (y_mv rfl) rfl ?_
 refine s_y rfl (v := .nilIface) (y_k rfl rfl (fun _ => by kernel_rfl)) rfl ?_
 refine s_y rfl (v := .bool false) (y_k rfl rfl (fun _ => by kernel_rfl)) rfl ?_
 refine s_y rfl (v := .nilIface) (y_as rfl) rfl ?_
 refine s_y rfl (v := .bool false) (y_as rfl) rfl ?_
 refine s_nil (q_then (c_seq (c_region ?_)))
 refine s_y rfl (v := .bool false) (y_mv rfl) rfl ?_
 refine s_y rfl (v := .bool false) (y_mv rfl) rfl ?_
 refine st_off 26 rfl rfl rfl rfl rfl rfl ?_
 refine st_off 26 rfl rfl rfl rfl rfl rfl ?_
 refine st_off 26 rfl rfl rfl rfl rfl rfl ?_
 refine s_y rfl (v := .bool false) (y_pick rfl rfl) rfl ?_
 refine s_nil (q_then (c_false rfl (c_skip (q_then (c_seq (c_region ?_))))))
 refine s_y rfl (v := .iface 180 (.pointer (some a))) (y_mv rfl) rfl ?_
 refine s_nil (q_then (c_block (c_seq (c_region ?_))))
 refine s_y rfl (v := .tuple #[.nilIface, .bool false]) (y_lacks rfl Tryz.underlying155 (by kernel_rfl) (by kernel_rfl)) rfl ?_
 refine s_y rfl (v := .bool false) (y_k rfl rfl (fun _ => by kernel_rfl)) rfl ?_
 refine s_y rfl (v := .nilIface) (y_k rfl rfl (fun _ => by kernel_rfl)) rfl ?_
 refine s_nil (q_then (c_false rfl (c_seq (c_region ?_))))
 refine s_y rfl (v := .tuple #[.nilIface, .bool false]) (y_lacks rfl Tryz.underlying157 (by kernel_rfl) (by kernel_rfl)) rfl ?_
 refine s_y rfl (v := .bool false) (y_k rfl rfl (fun _ => by kernel_rfl)) rfl ?_
 refine s_y rfl (v := .nilIface) (y_k rfl rfl (fun _ => by kernel_rfl)) rfl ?_
 refine s_nil (q_then (c_false rfl (c_seq (c_region ?_))))
 refine s_y rfl (v := .iface 180 (.pointer (some a))) (y_as rfl) rfl ?_
 refine s_nil (q_then (c_seq (c_region ?_)))
 refine s_y rfl (v := .bool false) (y_as rfl) rfl ?_
 refine s_nil (q_then (c_ret (q_block_ret (q_block_ret (q_then_ret (q_block_ret ?_))))))
 refine c_fin (I' := []) [] [0, 1] rfl (.tmp rfl .nil) rfl rfl rfl ?_
 exact ⟨rfl, rfl, rfl⟩
theorem is_nil_ (b : Addr) : Con Tryz.prog 88 [.nilIface, .iface 180 (.pointer (some b))] [] [] (fun v L' I' => v = .bool false ∧ L' = [] ∧ I' = []) := by
 refine fn_of Tryz.func88 rfl Tryz.ntmps88 (by kernel_rfl) rfl (fun C => ?_)
 refine c_seq (c_region ?_)
 refine s_y rfl (v := .bool false) (y_as rfl) rfl ?_
 refine s_nil (q_then (c_seq (c_seq (c_region ?_))))
 refine s_y rfl (v := .nilIface) (y_mv rfl) rfl ?_
 refine s_y rfl (v := .bool true) (y_k rfl rfl (fun _ => by kernel_rfl)) rfl ?_
 refine s_y rfl (v := .bool true) (y_mv rfl) rfl ?_
 refine st_off 8 rfl rfl rfl rfl rfl rfl ?_
 refine st_off 8 rfl rfl rfl rfl rfl rfl ?_
 refine s_y rfl (v := .bool true) (y_pick rfl rfl) rfl ?_
 refine s_nil (q_then (c_true rfl (c_seq (c_region ?_))))
 refine s_y rfl (v := .nilIface) (y_mv rfl) rfl ?_
 refine s_y rfl (v := .iface 180 (.pointer (some b))) (y_mv rfl) rfl ?_
 refine s_y rfl (v := .bool false) (y_k rfl rfl (fun _ => by kernel_rfl)) rfl ?_
 refine s_y rfl (v := .bool false) (y_as rfl) rfl ?_
 refine s_nil (q_then (c_ret (q_then_ret ?_)))
 refine c_fin (I' := []) [] [] rfl (.tmp rfl .nil) rfl rfl rfl ?_
 exact ⟨rfl, rfl, rfl⟩
theorem is_same_ (a : Addr) : Con Tryz.prog 88 [.iface 180 (.pointer (some a)), .iface 180 (.pointer (some a))] [] [] (fun v L' I' => v = .bool true ∧ L' = [] ∧ I' = []) := by
 refine fn_of Tryz.func88 rfl Tryz.ntmps88 (by kernel_rfl) rfl (fun C => ?_)
 refine c_seq (c_region ?_)
 refine s_y rfl (v := .bool false) (y_as rfl) rfl ?_
 refine s_nil (q_then (c_seq (c_seq (c_region ?_))))
 refine s_y rfl (v := .iface 180 (.pointer (some a))) (y_mv rfl) rfl ?_
 refine s_y rfl (v := .bool false) (y_k rfl rfl (fun _ => by kernel_rfl)) rfl ?_
 refine s_y rfl (v := .bool false) (y_mv rfl) rfl ?_
 refine st_on 8 rfl rfl rfl (o_y (v := .iface 180 (.pointer (some a))) (y_mv rfl) rfl rfl rfl ?_)
 refine st_on 8 rfl rfl rfl (o_y (v := .bool false) (y_k rfl rfl (fun _ => by kernel_rfl)) rfl rfl rfl ?_)
 refine s_y rfl (v := .bool false) (y_pick rfl rfl) rfl ?_
 refine s_nil (q_then (c_false rfl (c_skip (q_then (c_seq (c_region ?_))))))
 refine s_y rfl (v := .iface 180 (.pointer (some a))) (y_mv rfl) rfl ?_
 refine s_y rfl (v := .iface 147 (.agg #[.pointer (some ⟨5, 180, none⟩)])) (y_k rfl rfl (fun _ => by kernel_rfl)) rfl ?_
 refine s_y rfl (v := .bool true) (y_k rfl rfl (fun _ => by kernel_rfl)) rfl ?_
 refine s_y rfl (v := .bool true) (y_as rfl) rfl ?_
 refine s_nil (q_then (c_seq (c_region ?_)))
 refine s_y rfl (v := .iface 180 (.pointer (some a))) (y_mv rfl) rfl ?_
 refine s_y rfl (v := .iface 180 (.pointer (some a))) (y_mv rfl) rfl ?_
 refine s_y rfl (v := .bool true) (y_mv rfl) rfl ?_
 refine st rfl (o_call [] [] (is1_same_ a) rfl rfl rfl rfl rfl rfl (fun v L' I' hq1 => ?_))
 obtain ⟨rfl, rfl, rfl⟩ := hq1
 refine s_y rfl (v := .bool true) (y_as rfl) rfl ?_
 refine s_nil (q_then (c_ret ?_))
 refine c_fin (I' := []) [] [] rfl (.tmp rfl .nil) rfl rfl rfl ?_
 exact ⟨rfl, rfl, rfl⟩
theorem is_other_ (a : Addr) (b : Addr) (hne : a ≠ b) : Con Tryz.prog 88 [.iface 180 (.pointer (some a)), .iface 180 (.pointer (some b))] [] [errAt a, errAt b] (fun v L' I' => v = .bool false ∧ L' = [] ∧ I' = []) := by
 refine fn_of Tryz.func88 rfl Tryz.ntmps88 (by kernel_rfl) rfl (fun C => ?_)
 refine c_seq (c_region ?_)
 refine s_y rfl (v := .bool false) (y_as rfl) rfl ?_
 refine s_nil (q_then (c_seq (c_seq (c_region ?_))))
 refine s_y rfl (v := .iface 180 (.pointer (some a))) (y_mv rfl) rfl ?_
 refine s_y rfl (v := .bool false) (y_k rfl rfl (fun _ => by kernel_rfl)) rfl ?_
 refine s_y rfl (v := .bool false) (y_mv rfl) rfl ?_
 refine st_on 8 rfl rfl rfl (o_y (v := .iface 180 (.pointer (some b))) (y_mv rfl) rfl rfl rfl ?_)
 refine st_on 8 rfl rfl rfl (o_y (v := .bool false) (y_k rfl rfl (fun _ => by kernel_rfl)) rfl rfl rfl ?_)
 refine s_y rfl (v := .bool false) (y_pick rfl rfl) rfl ?_
 refine s_nil (q_then (c_false rfl (c_skip (q_then (c_seq (c_region ?_))))))
 refine s_y rfl (v := .iface 180 (.pointer (some b))) (y_mv rfl) rfl ?_
 refine s_y rfl (v := .iface 147 (.agg #[.pointer (some ⟨5, 180, none⟩)])) (y_k rfl rfl (fun _ => by kernel_rfl)) rfl ?_
 refine s_y rfl (v := .bool true) (y_k rfl rfl (fun _ => by kernel_rfl)) rfl ?_
 refine s_y rfl (v := .bool true) (y_as rfl) rfl ?_
 refine s_nil (q_then (c_seq (c_region ?_)))
 refine s_y rfl (v := .iface 180 (.pointer (some a))) (y_mv rfl) rfl ?_
 refine s_y rfl (v := .iface 180 (.pointer (some b))) (y_mv rfl) rfl ?_
 refine s_y rfl (v := .bool true) (y_mv rfl) rfl ?_
 refine st rfl (o_call [] [0, 1] (is1_other_ a b (by first | assumption | exact Ne.symm (by assumption))) rfl rfl rfl rfl rfl rfl (fun v L' I' hq1 => ?_))
 obtain ⟨rfl, rfl, rfl⟩ := hq1
 refine s_y rfl (v := .bool false) (y_as rfl) rfl ?_
 refine s_nil (q_then (c_ret ?_))
 refine c_fin (I' := []) [] [0, 1] rfl (.tmp rfl .nil) rfl rfl rfl ?_
 exact ⟨rfl, rfl, rfl⟩
theorem is_at_same_ (a : Addr) (k : Nat) : Con Tryz.prog 88 [.iface 131 (.agg #[.iface 180 (.pointer (some a)), .int .i64 (k : Int)]), .iface 180 (.pointer (some a))] [] [] (fun v L' I' => v = .bool true ∧ L' = [] ∧ I' = []) := by
 refine fn_of Tryz.func88 rfl Tryz.ntmps88 (by kernel_rfl) rfl (fun C => ?_)
 refine c_seq (c_region ?_)
 refine s_y rfl (v := .bool false) (y_as rfl) rfl ?_
 refine s_nil (q_then (c_seq (c_seq (c_region ?_))))
 refine s_y rfl (v := .iface 131 (.agg #[.iface 180 (.pointer (some a)), .int .i64 (k : Int)])) (y_mv rfl) rfl ?_
 refine s_y rfl (v := .bool false) (y_k rfl rfl (fun _ => by kernel_rfl)) rfl ?_
 refine s_y rfl (v := .bool false) (y_mv rfl) rfl ?_
 refine st_on 8 rfl rfl rfl (o_y (v := .iface 180 (.pointer (some a))) (y_mv rfl) rfl rfl rfl ?_)
 refine st_on 8 rfl rfl rfl (o_y (v := .bool false) (y_k rfl rfl (fun _ => by kernel_rfl)) rfl rfl rfl ?_)
 refine s_y rfl (v := .bool false) (y_pick rfl rfl) rfl ?_
 refine s_nil (q_then (c_false rfl (c_skip (q_then (c_seq (c_region ?_))))))
 refine s_y rfl (v := .iface 180 (.pointer (some a))) (y_mv rfl) rfl ?_
 refine s_y rfl (v := .iface 147 (.agg #[.pointer (some ⟨5, 180, none⟩)])) (y_k rfl rfl (fun _ => by kernel_rfl)) rfl ?_
 refine s_y rfl (v := .bool true) (y_k rfl rfl (fun _ => by kernel_rfl)) rfl ?_
 refine s_y rfl (v := .bool true) (y_as rfl) rfl ?_
 refine s_nil (q_then (c_seq (c_region ?_)))
 refine s_y rfl (v := .iface 131 (.agg #[.iface 180 (.pointer (some a)), .int .i64 (k : Int)])) (y_mv rfl) rfl ?_
 refine s_y rfl (v := .iface 180 (.pointer (some a))) (y_mv rfl) rfl ?_
 refine s_y rfl (v := .bool true) (y_mv rfl) rfl ?_
 refine st rfl (o_call [] [] (is1_at_same_ a k) rfl rfl rfl rfl rfl rfl (fun v L' I' hq1 => ?_))
 obtain ⟨rfl, rfl, rfl⟩ := hq1
 refine s_y rfl (v := .bool true) (y_as rfl) rfl ?_
 refine s_nil (q_then (c_ret ?_))
 refine c_fin (I' := []) [] [] rfl (.tmp rfl .nil) rfl rfl rfl ?_
 exact ⟨rfl, rfl, rfl⟩
theorem is_at_other_ (a : Addr) (k : Nat) (b : Addr) (hne : a ≠ b) : Con Tryz.prog 88 [.iface 131 (.agg #[.iface 180 (.pointer (some a)), .int .i64 (k : Int)]), .iface 180 (.pointer (some b))] [] [errAt a, errAt b] (fun v L' I' => v = .bool false ∧ L' = [] ∧ I' = []) := by
 refine fn_of Tryz.func88 rfl Tryz.ntmps88 (by kernel_rfl) rfl (fun C => ?_)
 refine c_seq (c_region ?_)
 refine s_y rfl (v := .bool false) (y_as rfl) rfl ?_
 refine s_nil (q_then (c_seq (c_seq (c_region ?_))))
 refine s_y rfl (v := .iface 131 (.agg #[.iface 180 (.pointer (some a)), .int .i64 (k : Int)])) (y_mv rfl) rfl ?_
 refine s_y rfl (v := .bool false) (y_k rfl rfl (fun _ => by kernel_rfl)) rfl ?_
 refine s_y rfl (v := .bool false) (y_mv rfl) rfl ?_
 refine st_on 8 rfl rfl rfl (o_y (v := .iface 180 (.pointer (some b))) (y_mv rfl) rfl rfl rfl ?_)
 refine st_on 8 rfl rfl rfl (o_y (v := .bool false) (y_k rfl rfl (fun _ => by kernel_rfl)) rfl rfl rfl ?_)
 refine s_y rfl (v := .bool false) (y_pick rfl rfl) rfl ?_
 refine s_nil (q_then (c_false rfl (c_skip (q_then (c_seq (c_region ?_))))))
 refine s_y rfl (v := .iface 180 (.pointer (some b))) (y_mv rfl) rfl ?_
 refine s_y rfl (v := .iface 147 (.agg #[.pointer (some ⟨5, 180, none⟩)])) (y_k rfl rfl (fun _ => by kernel_rfl)) rfl ?_
 refine s_y rfl (v := .bool true) (y_k rfl rfl (fun _ => by kernel_rfl)) rfl ?_
 refine s_y rfl (v := .bool true) (y_as rfl) rfl ?_
 refine s_nil (q_then (c_seq (c_region ?_)))
 refine s_y rfl (v := .iface 131 (.agg #[.iface 180 (.pointer (some a)), .int .i64 (k : Int)])) (y_mv rfl) rfl ?_
 refine s_y rfl (v := .iface 180 (.pointer (some b))) (y_mv rfl) rfl ?_
 refine s_y rfl (v := .bool true) (y_mv rfl) rfl ?_
 refine st rfl (o_call [] [0, 1] (is1_at_other_ a k b (by first | assumption | exact Ne.symm (by assumption))) rfl rfl rfl rfl rfl rfl (fun v L' I' hq1 => ?_))
 obtain ⟨rfl, rfl, rfl⟩ := hq1
 refine s_y rfl (v := .bool false) (y_as rfl) rfl ?_
 refine s_nil (q_then (c_ret ?_))
 refine c_fin (I' := []) [] [0, 1] rfl (.tmp rfl .nil) rfl rfl rfl ?_
 exact ⟨rfl, rfl, rfl⟩
end Go.Proofs.YtcnncdniibkjkaaGreatDoor
