/- The laws of chapter 4 (labcode), walked over the given program; no condition but what stands in each theorem: part B. -/
import Derived.WalkKit
import Derived.LaidEql
import Derived.Stop.Asserts
import Derived.RowKitTokens
import Derived.Test.YthoefkpbijcdeaaDoorProg
import Derived.Test.YthoefkpbijcdeaaDoorChecked
import Derived.Test.YthoefkpbijcdeaaDoorSlO
set_option linter.unusedVariables false
set_option linter.unusedSimpArgs false
set_option maxRecDepth 100000
set_option maxHeartbeats 8000000
namespace Go.Proofs.YthoefkpbijcdeaaDoor
open Go Go.Sl Go.RowKit Go.Extern.Stop Go.Stop Go.Extern
/-- A pointer to a block of errors.New's make. -/
def errAt (a : Addr) : Atom := fun h => ∃ c t, h a.block = some (.cells c t (0, 0))
theorem is1_same_ (a : Addr) : Con Tryd.prog 53 [.iface 141 (.pointer (some a)), .iface 141 (.pointer (some a)), .bool true] [] [] (fun v L' I' => v = .bool true ∧ L' = [] ∧ I' = []) := by
  refine fn_of Tryd.func53 rfl Tryd.ntmps53 (by kernel_rfl) rfl (fun C => ?_)
  refine c_seq ?_
  refine c_region ?_
  refine st rfl (o_y (v := .bool false) (y_as rfl) rfl rfl rfl ?_)
  refine s_nil ?_
  refine q_then ?_
  refine c_block ?_
  refine c_unroll 2 ?_
  refine c_round ?_
  refine c_block ?_
  refine c_seq ?_
  refine c_seq ?_
  refine c_region ?_
  refine st rfl (o_y (v := .bool true) (y_mv rfl) rfl rfl rfl ?_)
  refine st rfl (o_y (v := .bool true) (y_mv rfl) rfl rfl rfl ?_)
  refine st_on 15 rfl rfl rfl (o_y (v := .iface 141 (.pointer (some a))) (y_mv rfl) rfl rfl rfl ?_)
  refine st_on 15 rfl rfl rfl (o_y (v := .iface 141 (.pointer (some a))) (y_mv rfl) rfl rfl rfl ?_)
  refine st_on 15 rfl rfl rfl (o_y (v := .bool true) (y_ifsame rfl rfl Tryd.underlying46 Tryd.underlying141 (by kernel_rfl) (by kernel_rfl)) rfl rfl rfl ?_)
  refine st rfl (o_y (v := .bool true) (y_pick rfl rfl) rfl rfl rfl ?_)
  refine s_nil ?_
  refine q_then ?_
  refine c_true rfl ?_
  refine c_seq ?_
  refine c_region ?_
  refine st rfl (o_y (v := .bool true) (y_as rfl) rfl rfl rfl ?_)
  refine s_nil ?_
  refine q_then ?_
  refine c_ret ?_
  refine q_then_ret ?_
  refine q_block_ret ?_
  refine q_then_ret ?_
  refine q_block_ret ?_
  refine c_fin (I' := []) [] [] rfl (.tmp rfl .nil) rfl rfl rfl ?_
  exact ⟨rfl, rfl, rfl⟩
theorem is1_other_ (a : Addr) (b : Addr) (hne : a ≠ b) : Con Tryd.prog 53 [.iface 141 (.pointer (some a)), .iface 141 (.pointer (some b)), .bool true] [] [errAt a, errAt b] (fun v L' I' => v = .bool false ∧ L' = [] ∧ I' = []) := by
  refine fn_of Tryd.func53 rfl Tryd.ntmps53 (by kernel_rfl) rfl (fun C => ?_)
  refine c_seq ?_
  refine c_region ?_
  refine st rfl (o_y (v := .bool false) (y_as rfl) rfl rfl rfl ?_)
  refine s_nil ?_
  refine q_then ?_
  refine c_block ?_
  refine c_unroll 2 ?_
  refine c_round ?_
  refine c_block ?_
  refine c_seq ?_
  refine c_seq ?_
  refine c_region ?_
  refine st rfl (o_y (v := .bool true) (y_mv rfl) rfl rfl rfl ?_)
  refine st rfl (o_y (v := .bool true) (y_mv rfl) rfl rfl rfl ?_)
  refine st_on 15 rfl rfl rfl (o_y (v := .iface 141 (.pointer (some a))) (y_mv rfl) rfl rfl rfl ?_)
  refine st_on 15 rfl rfl rfl (o_y (v := .iface 141 (.pointer (some b))) (y_mv rfl) rfl rfl rfl ?_)
  refine st_on 15 rfl rfl rfl (o_ifother 0 1 rfl rfl (by first | assumption | exact Ne.symm (by assumption)) rfl rfl (fun _ h => h) (fun _ h => h) Tryd.underlying46 Tryd.underlying141 (by kernel_rfl) (by kernel_rfl) rfl ?_)
  refine st rfl (o_y (v := .bool false) (y_pick rfl rfl) rfl rfl rfl ?_)
  refine s_nil ?_
  refine q_then ?_
  refine c_false rfl ?_
  refine c_skip ?_
  refine q_then ?_
  refine c_seq ?_
  refine c_seq ?_
  refine c_region ?_
  refine st rfl (o_y (v := .iface 141 (.pointer (some a))) (y_mv rfl) rfl rfl rfl ?_)
  refine st rfl (o_y (v := .tuple #[.nilIface, .bool false]) (y_lacks rfl Tryd.underlying124 (by kernel_rfl) (by kernel_rfl)) rfl rfl rfl ?_)
  refine st rfl (o_y (v := .tuple #[.nilIface, .bool false]) (y_mv rfl) rfl rfl rfl ?_)
  refine st rfl (o_y (v := .nilIface) (y_k rfl rfl (fun _ => by kernel_rfl)) rfl rfl rfl ?_)
  refine st rfl (o_y (v := .bool false) (y_k rfl rfl (fun _ => by kernel_rfl)) rfl rfl rfl ?_)
  refine st rfl (o_y (v := .nilIface) (y_as rfl) rfl rfl rfl ?_)
  refine st rfl (o_y (v := .bool false) (y_as rfl) rfl rfl rfl ?_)
  refine s_nil ?_
  refine q_then ?_
  refine c_seq ?_
  refine c_region ?_
  refine st rfl (o_y (v := .bool false) (y_mv rfl) rfl rfl rfl ?_)
  refine st rfl (o_y (v := .bool false) (y_mv rfl) rfl rfl rfl ?_)
  refine st_off 26 rfl rfl rfl rfl rfl rfl ?_
  refine st_off 26 rfl rfl rfl rfl rfl rfl ?_
  refine st_off 26 rfl rfl rfl rfl rfl rfl ?_
  refine st rfl (o_y (v := .bool false) (y_pick rfl rfl) rfl rfl rfl ?_)
  refine s_nil ?_
  refine q_then ?_
  refine c_false rfl ?_
  refine c_skip ?_
  refine q_then ?_
  refine c_seq ?_
  refine c_region ?_
  refine st rfl (o_y (v := .iface 141 (.pointer (some a))) (y_mv rfl) rfl rfl rfl ?_)
  refine s_nil ?_
  refine q_then ?_
  refine c_block ?_
  refine c_seq ?_
  refine c_region ?_
  refine st rfl (o_y (v := .tuple #[.nilIface, .bool false]) (y_lacks rfl Tryd.underlying127 (by kernel_rfl) (by kernel_rfl)) rfl rfl rfl ?_)
  refine st rfl (o_y (v := .bool false) (y_k rfl rfl (fun _ => by kernel_rfl)) rfl rfl rfl ?_)
  refine st rfl (o_y (v := .nilIface) (y_k rfl rfl (fun _ => by kernel_rfl)) rfl rfl rfl ?_)
  refine s_nil ?_
  refine q_then ?_
  refine c_false rfl ?_
  refine c_seq ?_
  refine c_region ?_
  refine st rfl (o_y (v := .tuple #[.nilIface, .bool false]) (y_lacks rfl Tryd.underlying128 (by kernel_rfl) (by kernel_rfl)) rfl rfl rfl ?_)
  refine st rfl (o_y (v := .bool false) (y_k rfl rfl (fun _ => by kernel_rfl)) rfl rfl rfl ?_)
  refine st rfl (o_y (v := .nilIface) (y_k rfl rfl (fun _ => by kernel_rfl)) rfl rfl rfl ?_)
  refine s_nil ?_
  refine q_then ?_
  refine c_false rfl ?_
  refine c_seq ?_
  refine c_region ?_
  refine st rfl (o_y (v := .iface 141 (.pointer (some a))) (y_as rfl) rfl rfl rfl ?_)
  refine s_nil ?_
  refine q_then ?_
  refine c_seq ?_
  refine c_region ?_
  refine st rfl (o_y (v := .bool false) (y_as rfl) rfl rfl rfl ?_)
  refine s_nil ?_
  refine q_then ?_
  refine c_ret ?_
  refine q_block_ret ?_
  refine q_block_ret ?_
  refine q_then_ret ?_
  refine q_block_ret ?_
  refine c_fin (I' := []) [] [0, 1] rfl (.tmp rfl .nil) rfl rfl rfl ?_
  exact ⟨rfl, rfl, rfl⟩
theorem unwrap_at_ (a : Addr) (k : Nat) : Con Tryd.prog 96 [.agg #[.iface 141 (.pointer (some a)), .int .i64 (k : Int)]] [] [] (fun v L' I' => v = .iface 141 (.pointer (some a)) ∧ L' = [] ∧ I' = []) := by
  refine fn_of Tryd.func96 rfl Tryd.ntmps96 (by kernel_rfl) rfl (fun C => ?_)
  refine c_seq ?_
  refine c_region ?_
  refine st rfl (o_box (cs := [.iface 141 (.pointer (some a)), .int .i64 (k : Int)]) (T := 113) rfl rfl rfl rfl (fun _ => by kernel_rfl) (fun b1 => ?_))
  refine st rfl (o_y (v := .nilIface) (y_as rfl) rfl rfl rfl ?_)
  refine s_nil ?_
  refine q_then ?_
  refine c_seq ?_
  refine c_region ?_
  refine st rfl (o_y (v := .pointer (some ⟨b1, 0, none⟩)) (y_k rfl rfl (fun _ => by kernel_rfl)) rfl rfl rfl ?_)
  refine st rfl (o_ld 0 rfl rfl rfl Tryd.underlying46 rfl rfl ?_)
  refine st rfl (o_y (v := .iface 141 (.pointer (some a))) (y_as rfl) rfl rfl rfl ?_)
  refine s_nil ?_
  refine q_then ?_
  refine c_ret ?_
  refine c_fin (I' := []) [] [] rfl (.tmp rfl .nil) rfl rfl rfl ?_
  exact ⟨rfl, rfl, rfl⟩
theorem is1_at_same_ (a : Addr) (k : Nat) : Con Tryd.prog 53 [.iface 113 (.agg #[.iface 141 (.pointer (some a)), .int .i64 (k : Int)]), .iface 141 (.pointer (some a)), .bool true] [] [] (fun v L' I' => v = .bool true ∧ L' = [] ∧ I' = []) := by
  refine fn_of Tryd.func53 rfl Tryd.ntmps53 (by kernel_rfl) rfl (fun C => ?_)
  refine c_seq ?_
  refine c_region ?_
  refine st rfl (o_y (v := .bool false) (y_as rfl) rfl rfl rfl ?_)
  refine s_nil ?_
  refine q_then ?_
  refine c_block ?_
  refine c_unroll 2 ?_
  refine c_round ?_
  refine c_block ?_
  refine c_seq ?_
  refine c_seq ?_
  refine c_region ?_
  refine st rfl (o_y (v := .bool true) (y_mv rfl) rfl rfl rfl ?_)
  refine st rfl (o_y (v := .bool true) (y_mv rfl) rfl rfl rfl ?_)
  refine st_on 15 rfl rfl rfl (o_y (v := .iface 113 (.agg #[.iface 141 (.pointer (some a)), .int .i64 (k : Int)])) (y_mv rfl) rfl rfl rfl ?_)
  refine st_on 15 rfl rfl rfl (o_y (v := .iface 141 (.pointer (some a))) (y_mv rfl) rfl rfl rfl ?_)
  refine st_on 15 rfl rfl rfl (o_y (v := .bool false) (y_k rfl rfl (fun _ => by kernel_rfl)) rfl rfl rfl ?_)
  refine st rfl (o_y (v := .bool false) (y_pick rfl rfl) rfl rfl rfl ?_)
  refine s_nil ?_
  refine q_then ?_
  refine c_false rfl ?_
  refine c_skip ?_
  refine q_then ?_
  refine c_seq ?_
  refine c_seq ?_
  refine c_region ?_
  refine st rfl (o_y (v := .iface 113 (.agg #[.iface 141 (.pointer (some a)), .int .i64 (k : Int)])) (y_mv rfl) rfl rfl rfl ?_)
  refine st rfl (o_y (v := .tuple #[.nilIface, .bool false]) (y_lacks rfl Tryd.underlying124 (by kernel_rfl) (by kernel_rfl)) rfl rfl rfl ?_)
  refine st rfl (o_y (v := .tuple #[.nilIface, .bool false]) (y_mv rfl) rfl rfl rfl ?_)
  refine st rfl (o_y (v := .nilIface) (y_k rfl rfl (fun _ => by kernel_rfl)) rfl rfl rfl ?_)
  refine st rfl (o_y (v := .bool false) (y_k rfl rfl (fun _ => by kernel_rfl)) rfl rfl rfl ?_)
  refine st rfl (o_y (v := .nilIface) (y_as rfl) rfl rfl rfl ?_)
  refine st rfl (o_y (v := .bool false) (y_as rfl) rfl rfl rfl ?_)
  refine s_nil ?_
  refine q_then ?_
  refine c_seq ?_
  refine c_region ?_
  refine st rfl (o_y (v := .bool false) (y_mv rfl) rfl rfl rfl ?_)
  refine st rfl (o_y (v := .bool false) (y_mv rfl) rfl rfl rfl ?_)
  refine st_off 26 rfl rfl rfl rfl rfl rfl ?_
  refine st_off 26 rfl rfl rfl rfl rfl rfl ?_
  refine st_off 26 rfl rfl rfl rfl rfl rfl ?_
  refine st rfl (o_y (v := .bool false) (y_pick rfl rfl) rfl rfl rfl ?_)
  refine s_nil ?_
  refine q_then ?_
  refine c_false rfl ?_
  refine c_skip ?_
  refine q_then ?_
  refine c_seq ?_
  refine c_region ?_
  refine st rfl (o_y (v := .iface 113 (.agg #[.iface 141 (.pointer (some a)), .int .i64 (k : Int)])) (y_mv rfl) rfl rfl rfl ?_)
  refine s_nil ?_
  refine q_then ?_
  refine c_block ?_
  refine c_seq ?_
  refine c_region ?_
  refine st rfl (o_y (v := .tuple #[.iface 113 (.agg #[.iface 141 (.pointer (some a)), .int .i64 (k : Int)]), .bool true]) (y_has rfl Tryd.underlying127 (by kernel_rfl)) rfl rfl rfl ?_)
  refine st rfl (o_y (v := .bool true) (y_k rfl rfl (fun _ => by kernel_rfl)) rfl rfl rfl ?_)
  refine st rfl (o_y (v := .iface 113 (.agg #[.iface 141 (.pointer (some a)), .int .i64 (k : Int)])) (y_k rfl rfl (fun _ => by kernel_rfl)) rfl rfl rfl ?_)
  refine s_nil ?_
  refine q_then ?_
  refine c_true rfl ?_
  refine c_seq ?_
  refine c_region ?_
  refine st rfl (o_y (v := .iface 113 (.agg #[.iface 141 (.pointer (some a)), .int .i64 (k : Int)])) (y_as rfl) rfl rfl rfl ?_)
  refine s_nil ?_
  refine q_then ?_
  refine c_seq ?_
  refine c_region ?_
  refine st rfl (o_y (v := .iface 113 (.agg #[.iface 141 (.pointer (some a)), .int .i64 (k : Int)])) (y_mv rfl) rfl rfl rfl ?_)
  refine st rfl (o_into [] [] (unwrap_at_ a k) rfl rfl rfl (fun _ => by kernel_rfl) rfl rfl rfl (fun v L' I' hq1 => ?_))
  obtain ⟨rfl, rfl, rfl⟩ := hq1
  refine st rfl (o_y (v := .iface 141 (.pointer (some a))) (y_as rfl) rfl rfl rfl ?_)
  refine s_nil ?_
  refine q_then ?_
  refine c_seq ?_
  refine c_region ?_
  refine st rfl (o_y (v := .iface 141 (.pointer (some a))) (y_mv rfl) rfl rfl rfl ?_)
  refine st rfl (o_y (v := .bool false) (y_k rfl rfl (fun _ => by kernel_rfl)) rfl rfl rfl ?_)
  refine s_nil ?_
  refine q_then ?_
  refine c_false rfl ?_
  refine c_skip ?_
  refine q_block ?_
  refine q_block ?_
  refine q_then ?_
  refine c_round ?_
  refine c_block ?_
  refine c_seq ?_
  refine c_seq ?_
  refine c_region ?_
  refine st rfl (o_y (v := .bool true) (y_mv rfl) rfl rfl rfl ?_)
  refine st rfl (o_y (v := .bool true) (y_mv rfl) rfl rfl rfl ?_)
  refine st_on 15 rfl rfl rfl (o_y (v := .iface 141 (.pointer (some a))) (y_mv rfl) rfl rfl rfl ?_)
  refine st_on 15 rfl rfl rfl (o_y (v := .iface 141 (.pointer (some a))) (y_mv rfl) rfl rfl rfl ?_)
  refine st_on 15 rfl rfl rfl (o_y (v := .bool true) (y_ifsame rfl rfl Tryd.underlying46 Tryd.underlying141 (by kernel_rfl) (by kernel_rfl)) rfl rfl rfl ?_)
  refine st rfl (o_y (v := .bool true) (y_pick rfl rfl) rfl rfl rfl ?_)
  refine s_nil ?_
  refine q_then ?_
  refine c_true rfl ?_
  refine c_seq ?_
  refine c_region ?_
  refine st rfl (o_y (v := .bool true) (y_as rfl) rfl rfl rfl ?_)
  refine s_nil ?_
  refine q_then ?_
  refine c_ret ?_
  refine q_then_ret ?_
  refine q_block_ret ?_
  refine q_then_ret ?_
  refine q_block_ret ?_
  refine c_fin (I' := []) [] [] rfl (.tmp rfl .nil) rfl rfl rfl ?_
  exact ⟨rfl, rfl, rfl⟩
theorem is1_at_other_ (a : Addr) (k : Nat) (b : Addr) (hne : a ≠ b) : Con Tryd.prog 53 [.iface 113 (.agg #[.iface 141 (.pointer (some a)), .int .i64 (k : Int)]), .iface 141 (.pointer (some b)), .bool true] [] [errAt a, errAt b] (fun v L' I' => v = .bool false ∧ L' = [] ∧ I' = []) := by
  refine fn_of Tryd.func53 rfl Tryd.ntmps53 (by kernel_rfl) rfl (fun C => ?_)
  refine c_seq ?_
  refine c_region ?_
  refine st rfl (o_y (v := .bool false) (y_as rfl) rfl rfl rfl ?_)
  refine s_nil ?_
  refine q_then ?_
  refine c_block ?_
  refine c_unroll 2 ?_
  refine c_round ?_
  refine c_block ?_
  refine c_seq ?_
  refine c_seq ?_
  refine c_region ?_
  refine st rfl (o_y (v := .bool true) (y_mv rfl) rfl rfl rfl ?_)
  refine st rfl (o_y (v := .bool true) (y_mv rfl) rfl rfl rfl ?_)
  refine st_on 15 rfl rfl rfl (o_y (v := .iface 113 (.agg #[.iface 141 (.pointer (some a)), .int .i64 (k : Int)])) (y_mv rfl) rfl rfl rfl ?_)
  refine st_on 15 rfl rfl rfl (o_y (v := .iface 141 (.pointer (some b))) (y_mv rfl) rfl rfl rfl ?_)
  refine st_on 15 rfl rfl rfl (o_y (v := .bool false) (y_k rfl rfl (fun _ => by kernel_rfl)) rfl rfl rfl ?_)
  refine st rfl (o_y (v := .bool false) (y_pick rfl rfl) rfl rfl rfl ?_)
  refine s_nil ?_
  refine q_then ?_
  refine c_false rfl ?_
  refine c_skip ?_
  refine q_then ?_
  refine c_seq ?_
  refine c_seq ?_
  refine c_region ?_
  refine st rfl (o_y (v := .iface 113 (.agg #[.iface 141 (.pointer (some a)), .int .i64 (k : Int)])) (y_mv rfl) rfl rfl rfl ?_)
  refine st rfl (o_y (v := .tuple #[.nilIface, .bool false]) (y_lacks rfl Tryd.underlying124 (by kernel_rfl) (by kernel_rfl)) rfl rfl rfl ?_)
  refine st rfl (o_y (v := .tuple #[.nilIface, .bool false]) (y_mv rfl) rfl rfl rfl ?_)
  refine st rfl (o_y (v := .nilIface) (y_k rfl rfl (fun _ => by kernel_rfl)) rfl rfl rfl ?_)
  refine st rfl (o_y (v := .bool false) (y_k rfl rfl (fun _ => by kernel_rfl)) rfl rfl rfl ?_)
  refine st rfl (o_y (v := .nilIface) (y_as rfl) rfl rfl rfl ?_)
  refine st rfl (o_y (v := .bool false) (y_as rfl) rfl rfl rfl ?_)
  refine s_nil ?_
  refine q_then ?_
  refine c_seq ?_
  refine c_region ?_
  refine st rfl (o_y (v := .bool false) (y_mv rfl) rfl rfl rfl ?_)
  refine st rfl (o_y (v := .bool false) (y_mv rfl) rfl rfl rfl ?_)
  refine st_off 26 rfl rfl rfl rfl rfl rfl ?_
  refine st_off 26 rfl rfl rfl rfl rfl rfl ?_
  refine st_off 26 rfl rfl rfl rfl rfl rfl ?_
  refine st rfl (o_y (v := .bool false) (y_pick rfl rfl) rfl rfl rfl ?_)
  refine s_nil ?_
  refine q_then ?_
  refine c_false rfl ?_
  refine c_skip ?_
  refine q_then ?_
  refine c_seq ?_
  refine c_region ?_
  refine st rfl (o_y (v := .iface 113 (.agg #[.iface 141 (.pointer (some a)), .int .i64 (k : Int)])) (y_mv rfl) rfl rfl rfl ?_)
  refine s_nil ?_
  refine q_then ?_
  refine c_block ?_
  refine c_seq ?_
  refine c_region ?_
  refine st rfl (o_y (v := .tuple #[.iface 113 (.agg #[.iface 141 (.pointer (some a)), .int .i64 (k : Int)]), .bool true]) (y_has rfl Tryd.underlying127 (by kernel_rfl)) rfl rfl rfl ?_)
  refine st rfl (o_y (v := .bool true) (y_k rfl rfl (fun _ => by kernel_rfl)) rfl rfl rfl ?_)
  refine st rfl (o_y (v := .iface 113 (.agg #[.iface 141 (.pointer (some a)), .int .i64 (k : Int)])) (y_k rfl rfl (fun _ => by kernel_rfl)) rfl rfl rfl ?_)
  refine s_nil ?_
  refine q_then ?_
  refine c_true rfl ?_
  refine c_seq ?_
  refine c_region ?_
  refine st rfl (o_y (v := .iface 113 (.agg #[.iface 141 (.pointer (some a)), .int .i64 (k : Int)])) (y_as rfl) rfl rfl rfl ?_)
  refine s_nil ?_
  refine q_then ?_
  refine c_seq ?_
  refine c_region ?_
  refine st rfl (o_y (v := .iface 113 (.agg #[.iface 141 (.pointer (some a)), .int .i64 (k : Int)])) (y_mv rfl) rfl rfl rfl ?_)
  refine st rfl (o_into [] [] (unwrap_at_ a k) rfl rfl rfl (fun _ => by kernel_rfl) rfl rfl rfl (fun v L' I' hq1 => ?_))
  obtain ⟨rfl, rfl, rfl⟩ := hq1
  refine st rfl (o_y (v := .iface 141 (.pointer (some a))) (y_as rfl) rfl rfl rfl ?_)
  refine s_nil ?_
  refine q_then ?_
  refine c_seq ?_
  refine c_region ?_
  refine st rfl (o_y (v := .iface 141 (.pointer (some a))) (y_mv rfl) rfl rfl rfl ?_)
  refine st rfl (o_y (v := .bool false) (y_k rfl rfl (fun _ => by kernel_rfl)) rfl rfl rfl ?_)
  refine s_nil ?_
  refine q_then ?_
  refine c_false rfl ?_
  refine c_skip ?_
  refine q_block ?_
  refine q_block ?_
  refine q_then ?_
  refine c_round ?_
  refine c_block ?_
  refine c_seq ?_
  refine c_seq ?_
  refine c_region ?_
  refine st rfl (o_y (v := .bool true) (y_mv rfl) rfl rfl rfl ?_)
  refine st rfl (o_y (v := .bool true) (y_mv rfl) rfl rfl rfl ?_)
  refine st_on 15 rfl rfl rfl (o_y (v := .iface 141 (.pointer (some a))) (y_mv rfl) rfl rfl rfl ?_)
  refine st_on 15 rfl rfl rfl (o_y (v := .iface 141 (.pointer (some b))) (y_mv rfl) rfl rfl rfl ?_)
  refine st_on 15 rfl rfl rfl (o_ifother 0 1 rfl rfl (by first | assumption | exact Ne.symm (by assumption)) rfl rfl (fun _ h => h) (fun _ h => h) Tryd.underlying46 Tryd.underlying141 (by kernel_rfl) (by kernel_rfl) rfl ?_)
  refine st rfl (o_y (v := .bool false) (y_pick rfl rfl) rfl rfl rfl ?_)
  refine s_nil ?_
  refine q_then ?_
  refine c_false rfl ?_
  refine c_skip ?_
  refine q_then ?_
  refine c_seq ?_
  refine c_seq ?_
  refine c_region ?_
  refine st rfl (o_y (v := .iface 141 (.pointer (some a))) (y_mv rfl) rfl rfl rfl ?_)
  refine st rfl (o_y (v := .tuple #[.nilIface, .bool false]) (y_lacks rfl Tryd.underlying124 (by kernel_rfl) (by kernel_rfl)) rfl rfl rfl ?_)
  refine st rfl (o_y (v := .tuple #[.nilIface, .bool false]) (y_mv rfl) rfl rfl rfl ?_)
  refine st rfl (o_y (v := .nilIface) (y_k rfl rfl (fun _ => by kernel_rfl)) rfl rfl rfl ?_)
  refine st rfl (o_y (v := .bool false) (y_k rfl rfl (fun _ => by kernel_rfl)) rfl rfl rfl ?_)
  refine st rfl (o_y (v := .nilIface) (y_as rfl) rfl rfl rfl ?_)
  refine st rfl (o_y (v := .bool false) (y_as rfl) rfl rfl rfl ?_)
  refine s_nil ?_
  refine q_then ?_
  refine c_seq ?_
  refine c_region ?_
  refine st rfl (o_y (v := .bool false) (y_mv rfl) rfl rfl rfl ?_)
  refine st rfl (o_y (v := .bool false) (y_mv rfl) rfl rfl rfl ?_)
  refine st_off 26 rfl rfl rfl rfl rfl rfl ?_
  refine st_off 26 rfl rfl rfl rfl rfl rfl ?_
  refine st_off 26 rfl rfl rfl rfl rfl rfl ?_
  refine st rfl (o_y (v := .bool false) (y_pick rfl rfl) rfl rfl rfl ?_)
  refine s_nil ?_
  refine q_then ?_
  refine c_false rfl ?_
  refine c_skip ?_
  refine q_then ?_
  refine c_seq ?_
  refine c_region ?_
  refine st rfl (o_y (v := .iface 141 (.pointer (some a))) (y_mv rfl) rfl rfl rfl ?_)
  refine s_nil ?_
  refine q_then ?_
  refine c_block ?_
  refine c_seq ?_
  refine c_region ?_
  refine st rfl (o_y (v := .tuple #[.nilIface, .bool false]) (y_lacks rfl Tryd.underlying127 (by kernel_rfl) (by kernel_rfl)) rfl rfl rfl ?_)
  refine st rfl (o_y (v := .bool false) (y_k rfl rfl (fun _ => by kernel_rfl)) rfl rfl rfl ?_)
  refine st rfl (o_y (v := .nilIface) (y_k rfl rfl (fun _ => by kernel_rfl)) rfl rfl rfl ?_)
  refine s_nil ?_
  refine q_then ?_
  refine c_false rfl ?_
  refine c_seq ?_
  refine c_region ?_
  refine st rfl (o_y (v := .tuple #[.nilIface, .bool false]) (y_lacks rfl Tryd.underlying128 (by kernel_rfl) (by kernel_rfl)) rfl rfl rfl ?_)
  refine st rfl (o_y (v := .bool false) (y_k rfl rfl (fun _ => by kernel_rfl)) rfl rfl rfl ?_)
  refine st rfl (o_y (v := .nilIface) (y_k rfl rfl (fun _ => by kernel_rfl)) rfl rfl rfl ?_)
  refine s_nil ?_
  refine q_then ?_
  refine c_false rfl ?_
  refine c_seq ?_
  refine c_region ?_
  refine st rfl (o_y (v := .iface 141 (.pointer (some a))) (y_as rfl) rfl rfl rfl ?_)
  refine s_nil ?_
  refine q_then ?_
  refine c_seq ?_
  refine c_region ?_
  refine st rfl (o_y (v := .bool false) (y_as rfl) rfl rfl rfl ?_)
  refine s_nil ?_
  refine q_then ?_
  refine c_ret ?_
  refine q_block_ret ?_
  refine q_block_ret ?_
  refine q_then_ret ?_
  refine q_block_ret ?_
  refine c_fin (I' := []) [] [0, 1] rfl (.tmp rfl .nil) rfl rfl rfl ?_
  exact ⟨rfl, rfl, rfl⟩
theorem is_nil_ (b : Addr) : Con Tryd.prog 41 [.nilIface, .iface 141 (.pointer (some b))] [] [] (fun v L' I' => v = .bool false ∧ L' = [] ∧ I' = []) := by
  refine fn_of Tryd.func41 rfl Tryd.ntmps41 (by kernel_rfl) rfl (fun C => ?_)
  refine c_seq ?_
  refine c_region ?_
  refine st rfl (o_y (v := .bool false) (y_as rfl) rfl rfl rfl ?_)
  refine s_nil ?_
  refine q_then ?_
  refine c_seq ?_
  refine c_seq ?_
  refine c_region ?_
  refine st rfl (o_y (v := .nilIface) (y_mv rfl) rfl rfl rfl ?_)
  refine st rfl (o_y (v := .bool true) (y_k rfl rfl (fun _ => by kernel_rfl)) rfl rfl rfl ?_)
  refine st rfl (o_y (v := .bool true) (y_mv rfl) rfl rfl rfl ?_)
  refine st_off 8 rfl rfl rfl rfl rfl rfl ?_
  refine st_off 8 rfl rfl rfl rfl rfl rfl ?_
  refine st rfl (o_y (v := .bool true) (y_pick rfl rfl) rfl rfl rfl ?_)
  refine s_nil ?_
  refine q_then ?_
  refine c_true rfl ?_
  refine c_seq ?_
  refine c_region ?_
  refine st rfl (o_y (v := .nilIface) (y_mv rfl) rfl rfl rfl ?_)
  refine st rfl (o_y (v := .iface 141 (.pointer (some b))) (y_mv rfl) rfl rfl rfl ?_)
  refine st rfl (o_y (v := .bool false) (y_k rfl rfl (fun _ => by kernel_rfl)) rfl rfl rfl ?_)
  refine st rfl (o_y (v := .bool false) (y_as rfl) rfl rfl rfl ?_)
  refine s_nil ?_
  refine q_then ?_
  refine c_ret ?_
  refine q_then_ret ?_
  refine c_fin (I' := []) [] [] rfl (.tmp rfl .nil) rfl rfl rfl ?_
  exact ⟨rfl, rfl, rfl⟩
theorem is_same_ (a : Addr) : Con Tryd.prog 41 [.iface 141 (.pointer (some a)), .iface 141 (.pointer (some a))] [] [] (fun v L' I' => v = .bool true ∧ L' = [] ∧ I' = []) := by
  refine fn_of Tryd.func41 rfl Tryd.ntmps41 (by kernel_rfl) rfl (fun C => ?_)
  refine c_seq ?_
  refine c_region ?_
  refine st rfl (o_y (v := .bool false) (y_as rfl) rfl rfl rfl ?_)
  refine s_nil ?_
  refine q_then ?_
  refine c_seq ?_
  refine c_seq ?_
  refine c_region ?_
  refine st rfl (o_y (v := .iface 141 (.pointer (some a))) (y_mv rfl) rfl rfl rfl ?_)
  refine st rfl (o_y (v := .bool false) (y_k rfl rfl (fun _ => by kernel_rfl)) rfl rfl rfl ?_)
  refine st rfl (o_y (v := .bool false) (y_mv rfl) rfl rfl rfl ?_)
  refine st_on 8 rfl rfl rfl (o_y (v := .iface 141 (.pointer (some a))) (y_mv rfl) rfl rfl rfl ?_)
  refine st_on 8 rfl rfl rfl (o_y (v := .bool false) (y_k rfl rfl (fun _ => by kernel_rfl)) rfl rfl rfl ?_)
  refine st rfl (o_y (v := .bool false) (y_pick rfl rfl) rfl rfl rfl ?_)
  refine s_nil ?_
  refine q_then ?_
  refine c_false rfl ?_
  refine c_skip ?_
  refine q_then ?_
  refine c_seq ?_
  refine c_region ?_
  refine st rfl (o_y (v := .iface 141 (.pointer (some a))) (y_mv rfl) rfl rfl rfl ?_)
  refine st rfl (o_y (v := .iface 122 (.agg #[.pointer (some ⟨5, 141, none⟩)])) (y_k rfl rfl (fun _ => by kernel_rfl)) rfl rfl rfl ?_)
  refine st rfl (o_y (v := .bool true) (y_k rfl rfl (fun _ => by kernel_rfl)) rfl rfl rfl ?_)
  refine st rfl (o_y (v := .bool true) (y_as rfl) rfl rfl rfl ?_)
  refine s_nil ?_
  refine q_then ?_
  refine c_seq ?_
  refine c_region ?_
  refine st rfl (o_y (v := .iface 141 (.pointer (some a))) (y_mv rfl) rfl rfl rfl ?_)
  refine st rfl (o_y (v := .iface 141 (.pointer (some a))) (y_mv rfl) rfl rfl rfl ?_)
  refine st rfl (o_y (v := .bool true) (y_mv rfl) rfl rfl rfl ?_)
  refine st rfl (o_call [] [] (is1_same_ a) rfl rfl rfl rfl rfl rfl (fun v L' I' hq1 => ?_))
  obtain ⟨rfl, rfl, rfl⟩ := hq1
  refine st rfl (o_y (v := .bool true) (y_as rfl) rfl rfl rfl ?_)
  refine s_nil ?_
  refine q_then ?_
  refine c_ret ?_
  refine c_fin (I' := []) [] [] rfl (.tmp rfl .nil) rfl rfl rfl ?_
  exact ⟨rfl, rfl, rfl⟩
theorem is_other_ (a : Addr) (b : Addr) (hne : a ≠ b) : Con Tryd.prog 41 [.iface 141 (.pointer (some a)), .iface 141 (.pointer (some b))] [] [errAt a, errAt b] (fun v L' I' => v = .bool false ∧ L' = [] ∧ I' = []) := by
  refine fn_of Tryd.func41 rfl Tryd.ntmps41 (by kernel_rfl) rfl (fun C => ?_)
  refine c_seq ?_
  refine c_region ?_
  refine st rfl (o_y (v := .bool false) (y_as rfl) rfl rfl rfl ?_)
  refine s_nil ?_
  refine q_then ?_
  refine c_seq ?_
  refine c_seq ?_
  refine c_region ?_
  refine st rfl (o_y (v := .iface 141 (.pointer (some a))) (y_mv rfl) rfl rfl rfl ?_)
  refine st rfl (o_y (v := .bool false) (y_k rfl rfl (fun _ => by kernel_rfl)) rfl rfl rfl ?_)
  refine st rfl (o_y (v := .bool false) (y_mv rfl) rfl rfl rfl ?_)
  refine st_on 8 rfl rfl rfl (o_y (v := .iface 141 (.pointer (some b))) (y_mv rfl) rfl rfl rfl ?_)
  refine st_on 8 rfl rfl rfl (o_y (v := .bool false) (y_k rfl rfl (fun _ => by kernel_rfl)) rfl rfl rfl ?_)
  refine st rfl (o_y (v := .bool false) (y_pick rfl rfl) rfl rfl rfl ?_)
  refine s_nil ?_
  refine q_then ?_
  refine c_false rfl ?_
  refine c_skip ?_
  refine q_then ?_
  refine c_seq ?_
  refine c_region ?_
  refine st rfl (o_y (v := .iface 141 (.pointer (some b))) (y_mv rfl) rfl rfl rfl ?_)
  refine st rfl (o_y (v := .iface 122 (.agg #[.pointer (some ⟨5, 141, none⟩)])) (y_k rfl rfl (fun _ => by kernel_rfl)) rfl rfl rfl ?_)
  refine st rfl (o_y (v := .bool true) (y_k rfl rfl (fun _ => by kernel_rfl)) rfl rfl rfl ?_)
  refine st rfl (o_y (v := .bool true) (y_as rfl) rfl rfl rfl ?_)
  refine s_nil ?_
  refine q_then ?_
  refine c_seq ?_
  refine c_region ?_
  refine st rfl (o_y (v := .iface 141 (.pointer (some a))) (y_mv rfl) rfl rfl rfl ?_)
  refine st rfl (o_y (v := .iface 141 (.pointer (some b))) (y_mv rfl) rfl rfl rfl ?_)
  refine st rfl (o_y (v := .bool true) (y_mv rfl) rfl rfl rfl ?_)
  refine st rfl (o_call [] [0, 1] (is1_other_ a b (by first | assumption | exact Ne.symm (by assumption))) rfl rfl rfl rfl rfl rfl (fun v L' I' hq1 => ?_))
  obtain ⟨rfl, rfl, rfl⟩ := hq1
  refine st rfl (o_y (v := .bool false) (y_as rfl) rfl rfl rfl ?_)
  refine s_nil ?_
  refine q_then ?_
  refine c_ret ?_
  refine c_fin (I' := []) [] [0, 1] rfl (.tmp rfl .nil) rfl rfl rfl ?_
  exact ⟨rfl, rfl, rfl⟩
theorem is_at_same_ (a : Addr) (k : Nat) : Con Tryd.prog 41 [.iface 113 (.agg #[.iface 141 (.pointer (some a)), .int .i64 (k : Int)]), .iface 141 (.pointer (some a))] [] [] (fun v L' I' => v = .bool true ∧ L' = [] ∧ I' = []) := by
  refine fn_of Tryd.func41 rfl Tryd.ntmps41 (by kernel_rfl) rfl (fun C => ?_)
  refine c_seq ?_
  refine c_region ?_
  refine st rfl (o_y (v := .bool false) (y_as rfl) rfl rfl rfl ?_)
  refine s_nil ?_
  refine q_then ?_
  refine c_seq ?_
  refine c_seq ?_
  refine c_region ?_
  refine st rfl (o_y (v := .iface 113 (.agg #[.iface 141 (.pointer (some a)), .int .i64 (k : Int)])) (y_mv rfl) rfl rfl rfl ?_)
  refine st rfl (o_y (v := .bool false) (y_k rfl rfl (fun _ => by kernel_rfl)) rfl rfl rfl ?_)
  refine st rfl (o_y (v := .bool false) (y_mv rfl) rfl rfl rfl ?_)
  refine st_on 8 rfl rfl rfl (o_y (v := .iface 141 (.pointer (some a))) (y_mv rfl) rfl rfl rfl ?_)
  refine st_on 8 rfl rfl rfl (o_y (v := .bool false) (y_k rfl rfl (fun _ => by kernel_rfl)) rfl rfl rfl ?_)
  refine st rfl (o_y (v := .bool false) (y_pick rfl rfl) rfl rfl rfl ?_)
  refine s_nil ?_
  refine q_then ?_
  refine c_false rfl ?_
  refine c_skip ?_
  refine q_then ?_
  refine c_seq ?_
  refine c_region ?_
  refine st rfl (o_y (v := .iface 141 (.pointer (some a))) (y_mv rfl) rfl rfl rfl ?_)
  refine st rfl (o_y (v := .iface 122 (.agg #[.pointer (some ⟨5, 141, none⟩)])) (y_k rfl rfl (fun _ => by kernel_rfl)) rfl rfl rfl ?_)
  refine st rfl (o_y (v := .bool true) (y_k rfl rfl (fun _ => by kernel_rfl)) rfl rfl rfl ?_)
  refine st rfl (o_y (v := .bool true) (y_as rfl) rfl rfl rfl ?_)
  refine s_nil ?_
  refine q_then ?_
  refine c_seq ?_
  refine c_region ?_
  refine st rfl (o_y (v := .iface 113 (.agg #[.iface 141 (.pointer (some a)), .int .i64 (k : Int)])) (y_mv rfl) rfl rfl rfl ?_)
  refine st rfl (o_y (v := .iface 141 (.pointer (some a))) (y_mv rfl) rfl rfl rfl ?_)
  refine st rfl (o_y (v := .bool true) (y_mv rfl) rfl rfl rfl ?_)
  refine st rfl (o_call [] [] (is1_at_same_ a k) rfl rfl rfl rfl rfl rfl (fun v L' I' hq1 => ?_))
  obtain ⟨rfl, rfl, rfl⟩ := hq1
  refine st rfl (o_y (v := .bool true) (y_as rfl) rfl rfl rfl ?_)
  refine s_nil ?_
  refine q_then ?_
  refine c_ret ?_
  refine c_fin (I' := []) [] [] rfl (.tmp rfl .nil) rfl rfl rfl ?_
  exact ⟨rfl, rfl, rfl⟩
theorem is_at_other_ (a : Addr) (k : Nat) (b : Addr) (hne : a ≠ b) : Con Tryd.prog 41 [.iface 113 (.agg #[.iface 141 (.pointer (some a)), .int .i64 (k : Int)]), .iface 141 (.pointer (some b))] [] [errAt a, errAt b] (fun v L' I' => v = .bool false ∧ L' = [] ∧ I' = []) := by
  refine fn_of Tryd.func41 rfl Tryd.ntmps41 (by kernel_rfl) rfl (fun C => ?_)
  refine c_seq ?_
  refine c_region ?_
  refine st rfl (o_y (v := .bool false) (y_as rfl) rfl rfl rfl ?_)
  refine s_nil ?_
  refine q_then ?_
  refine c_seq ?_
  refine c_seq ?_
  refine c_region ?_
  refine st rfl (o_y (v := .iface 113 (.agg #[.iface 141 (.pointer (some a)), .int .i64 (k : Int)])) (y_mv rfl) rfl rfl rfl ?_)
  refine st rfl (o_y (v := .bool false) (y_k rfl rfl (fun _ => by kernel_rfl)) rfl rfl rfl ?_)
  refine st rfl (o_y (v := .bool false) (y_mv rfl) rfl rfl rfl ?_)
  refine st_on 8 rfl rfl rfl (o_y (v := .iface 141 (.pointer (some b))) (y_mv rfl) rfl rfl rfl ?_)
  refine st_on 8 rfl rfl rfl (o_y (v := .bool false) (y_k rfl rfl (fun _ => by kernel_rfl)) rfl rfl rfl ?_)
  refine st rfl (o_y (v := .bool false) (y_pick rfl rfl) rfl rfl rfl ?_)
  refine s_nil ?_
  refine q_then ?_
  refine c_false rfl ?_
  refine c_skip ?_
  refine q_then ?_
  refine c_seq ?_
  refine c_region ?_
  refine st rfl (o_y (v := .iface 141 (.pointer (some b))) (y_mv rfl) rfl rfl rfl ?_)
  refine st rfl (o_y (v := .iface 122 (.agg #[.pointer (some ⟨5, 141, none⟩)])) (y_k rfl rfl (fun _ => by kernel_rfl)) rfl rfl rfl ?_)
  refine st rfl (o_y (v := .bool true) (y_k rfl rfl (fun _ => by kernel_rfl)) rfl rfl rfl ?_)
  refine st rfl (o_y (v := .bool true) (y_as rfl) rfl rfl rfl ?_)
  refine s_nil ?_
  refine q_then ?_
  refine c_seq ?_
  refine c_region ?_
  refine st rfl (o_y (v := .iface 113 (.agg #[.iface 141 (.pointer (some a)), .int .i64 (k : Int)])) (y_mv rfl) rfl rfl rfl ?_)
  refine st rfl (o_y (v := .iface 141 (.pointer (some b))) (y_mv rfl) rfl rfl rfl ?_)
  refine st rfl (o_y (v := .bool true) (y_mv rfl) rfl rfl rfl ?_)
  refine st rfl (o_call [] [0, 1] (is1_at_other_ a k b (by first | assumption | exact Ne.symm (by assumption))) rfl rfl rfl rfl rfl rfl (fun v L' I' hq1 => ?_))
  obtain ⟨rfl, rfl, rfl⟩ := hq1
  refine st rfl (o_y (v := .bool false) (y_as rfl) rfl rfl rfl ?_)
  refine s_nil ?_
  refine q_then ?_
  refine c_ret ?_
  refine c_fin (I' := []) [] [0, 1] rfl (.tmp rfl .nil) rfl rfl rfl ?_
  exact ⟨rfl, rfl, rfl⟩
end Go.Proofs.YthoefkpbijcdeaaDoor
