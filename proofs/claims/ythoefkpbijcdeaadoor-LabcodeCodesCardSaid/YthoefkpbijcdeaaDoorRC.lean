/- The laws of chapter 4 (labcode), walked over the given program; no condition but what stands in each theorem: part C. -/
import Derived.WalkKit
import Derived.LaidEql
import Derived.Stop.Asserts
import Derived.RowKitTokens
import Derived.Test.YthoefkpbijcdeaaDoorProg
import Derived.Test.YthoefkpbijcdeaaDoorChecked
import Derived.Test.YthoefkpbijcdeaaDoorSlO
set_option linter.unusedVariables false
set_option linter.unusedSimpArgs false
set_option maxRecDepth 100000
set_option maxHeartbeats 8000000
namespace Go.Proofs.YthoefkpbijcdeaaDoor
open Go Go.Sl Go.RowKit Go.Extern.Stop Go.Stop Go.Extern
theorem as_hit_at_ (a : Addr) (k : Nat) (b : Nat) (b1 : Nat) : Con Tryd.prog 57 [.iface 113 (.agg #[.iface 141 (.pointer (some a)), .int .i64 (k : Int)]), .iface 114 (.pointer (some ⟨b, 0, none⟩)), .agg #[.pointer (some ⟨5, 114, none⟩), .pointer (some ⟨b1, 0, none⟩), .int .u64 150], .iface 122 (.agg #[.pointer (some ⟨5, 113, none⟩)])] [pt b [.nilIface, .int .i64 0] 113, pt b1 [.pointer (some ⟨b, 0, none⟩)] 114] [] (fun v L' I' => v = .bool true ∧ L' = [pt b [.iface 141 (.pointer (some a)), .int .i64 (k : Int)] 113] ∧ I' = []) := by
  refine fn_of Tryd.func57 rfl Tryd.ntmps57 (by kernel_rfl) rfl (fun C => ?_)
  refine c_seq ?_
  refine c_region ?_
  refine st rfl (o_box (cs := [.pointer (some ⟨5, 114, none⟩), .pointer (some ⟨b1, 0, none⟩), .int .u64 150]) (T := 95) rfl rfl rfl rfl (fun _ => by kernel_rfl) (fun b2 => ?_))
  refine st rfl (o_y (v := .bool false) (y_as rfl) rfl rfl rfl ?_)
  refine s_nil ?_
  refine q_then ?_
  refine c_block ?_
  refine c_unroll 1 ?_
  refine c_round ?_
  refine c_block ?_
  refine c_seq ?_
  refine c_seq ?_
  refine c_region ?_
  refine st rfl (o_y (v := .iface 113 (.agg #[.iface 141 (.pointer (some a)), .int .i64 (k : Int)])) (y_mv rfl) rfl rfl rfl ?_)
  refine st rfl (o_y (v := .iface 122 (.agg #[.pointer (some ⟨5, 113, none⟩)])) (y_k rfl rfl (fun _ => by kernel_rfl)) rfl rfl rfl ?_)
  refine st rfl (o_y (v := .iface 122 (.agg #[.pointer (some ⟨5, 113, none⟩)])) (y_mv rfl) rfl rfl rfl ?_)
  refine st rfl (o_y (v := .bool true) (y_k rfl rfl (fun _ => by kernel_rfl)) rfl rfl rfl ?_)
  refine s_nil ?_
  refine q_then ?_
  refine c_true rfl ?_
  refine c_seq ?_
  refine c_region ?_
  refine st rfl (o_ldn 0 3 rfl rfl rfl rfl Tryd.underlying95 rfl (by kernel_rfl) (by kernel_rfl) rfl ?_)
  refine st rfl (o_extr (H := ReflectliteValue.method (ReflectliteValue.valueError "reflectlite.Value.Elem" 0) ReflectliteValue.elem) (v := .agg #[.pointer (some ⟨5, 113, none⟩), .pointer (some ⟨b, 0, none⟩), .int .u64 409]) 2 (@run_callFunc_extern Tryd.prog 66 _ (ReflectliteValue.method (ReflectliteValue.valueError "reflectlite.Value.Elem" 0) ReflectliteValue.elem) Tryd.func66 (by kernel_rfl) (by kernel_rfl) (by kernel_rfl) (by kernel_rfl)) rfl rfl rfl (fun w hb => run_elemV (T := 113) (fl := 150) (fun w => by kernel_rfl) (by decide) Tryd.underlying114 rfl (fun w => by kernel_rfl) (fun w => by kernel_rfl) w hb) rfl ?_)
  refine st rfl (o_y (v := .iface 113 (.agg #[.iface 141 (.pointer (some a)), .int .i64 (k : Int)])) (y_mv rfl) rfl rfl rfl ?_)
  refine st rfl (o_boxf (cs := [.iface 141 (.pointer (some a)), .int .i64 (k : Int)]) (T := 113) (fun b => .agg #[.pointer (some ⟨5, 113, none⟩), .pointer (some ⟨b, 0, none⟩), .int .u64 153]) rfl rfl rfl rfl (fun _ => by kernel_rfl) (fun b3 => ?_))
  refine st rfl (o_exts (H := ReflectliteValue.set) 2 0 (@run_callFunc_extern Tryd.prog 67 _ (ReflectliteValue.set) Tryd.func67 (by kernel_rfl) (by kernel_rfl) (by kernel_rfl) (by kernel_rfl)) rfl rfl rfl rfl (fun w hb hb2 => run_setV (f1 := 409) (f2 := 153) (fun w => by kernel_rfl) (fun w => by kernel_rfl) (by decide) (fun w => by kernel_rfl) Tryd.underlying113 rfl (by kernel_rfl) (by kernel_rfl) (by rfl) (by rfl) w hb hb2) rfl ?_)
  refine s_nil ?_
  refine q_then ?_
  refine c_seq ?_
  refine c_region ?_
  refine st rfl (o_y (v := .bool true) (y_as rfl) rfl rfl rfl ?_)
  refine s_nil ?_
  refine q_then ?_
  refine c_ret ?_
  refine q_then_ret ?_
  refine q_block_ret ?_
  refine q_then_ret ?_
  refine q_block_ret ?_
  refine c_fin (I' := []) [2] [] rfl (.tmp rfl .nil) rfl rfl rfl ?_
  exact ⟨rfl, rfl, rfl⟩
theorem As_hit_at_ (a : Addr) (k : Nat) (b : Nat) : Con Tryd.prog 42 [.iface 113 (.agg #[.iface 141 (.pointer (some a)), .int .i64 (k : Int)]), .iface 114 (.pointer (some ⟨b, 0, none⟩))] [pt b [.nilIface, .int .i64 0] 113] [cellsAt 2 0 [.iface 122 (.agg #[.pointer (some ⟨5, 46, none⟩)])]] (fun v L' I' => v = .bool true ∧ L' = [pt b [.iface 141 (.pointer (some a)), .int .i64 (k : Int)] 113] ∧ I' = []) := by
  refine fn_of Tryd.func42 rfl Tryd.ntmps42 (by kernel_rfl) rfl (fun C => ?_)
  refine c_seq ?_
  refine c_region ?_
  refine st rfl (o_y (v := .bool false) (y_as rfl) rfl rfl rfl ?_)
  refine s_nil ?_
  refine q_then ?_
  refine c_seq ?_
  refine c_seq ?_
  refine c_region ?_
  refine st rfl (o_y (v := .iface 113 (.agg #[.iface 141 (.pointer (some a)), .int .i64 (k : Int)])) (y_mv rfl) rfl rfl rfl ?_)
  refine st rfl (o_y (v := .bool false) (y_k rfl rfl (fun _ => by kernel_rfl)) rfl rfl rfl ?_)
  refine s_nil ?_
  refine q_then ?_
  refine c_false rfl ?_
  refine c_skip ?_
  refine q_then ?_
  refine c_seq ?_
  refine c_seq ?_
  refine c_region ?_
  refine st rfl (o_y (v := .iface 114 (.pointer (some ⟨b, 0, none⟩))) (y_mv rfl) rfl rfl rfl ?_)
  refine st rfl (o_y (v := .bool false) (y_k rfl rfl (fun _ => by kernel_rfl)) rfl rfl rfl ?_)
  refine s_nil ?_
  refine q_then ?_
  refine c_false rfl ?_
  refine c_skip ?_
  refine q_then ?_
  refine c_seq ?_
  refine c_region ?_
  refine st rfl (o_y (v := .iface 114 (.pointer (some ⟨b, 0, none⟩))) (y_mv rfl) rfl rfl rfl ?_)
  refine st rfl (o_boxf (cs := [.pointer (some ⟨b, 0, none⟩)]) (T := 114) (fun b => .agg #[.pointer (some ⟨5, 114, none⟩), .pointer (some ⟨b, 0, none⟩), .int .u64 150]) rfl rfl rfl rfl (fun _ => by kernel_rfl) (fun b1 => ?_))
  refine st rfl (o_box (cs := [.pointer none, .pointer none, .int .u64 0]) (T := 95) rfl rfl rfl rfl (fun _ => by kernel_rfl) (fun b2 => ?_))
  refine st rfl (o_st 0 rfl rfl rfl rfl rfl (by kernel_rfl) (by kernel_rfl) rfl ?_)
  refine s_nil ?_
  refine q_then ?_
  refine c_seq ?_
  refine c_region ?_
  refine st rfl (o_ldn 0 3 rfl rfl rfl rfl Tryd.underlying95 rfl (by kernel_rfl) (by kernel_rfl) rfl ?_)
  refine st rfl (o_y (v := .iface 122 (.agg #[.pointer (some ⟨5, 114, none⟩)])) (y_k rfl rfl (fun _ => by kernel_rfl)) rfl rfl rfl ?_)
  refine st rfl (o_y (v := .iface 122 (.agg #[.pointer (some ⟨5, 114, none⟩)])) (y_as rfl) rfl rfl rfl ?_)
  refine s_nil ?_
  refine q_then ?_
  refine c_seq ?_
  refine c_seq ?_
  refine c_region ?_
  refine st rfl (o_y (v := .iface 122 (.agg #[.pointer (some ⟨5, 114, none⟩)])) (y_mv rfl) rfl rfl rfl ?_)
  refine st rfl (o_y (v := .int .u8 22) (y_k rfl rfl (fun _ => by kernel_rfl)) rfl rfl rfl ?_)
  refine st rfl (o_y (v := .bool false) (y_k rfl rfl (fun _ => by kernel_rfl)) rfl rfl rfl ?_)
  refine st rfl (o_y (v := .bool false) (y_mv rfl) rfl rfl rfl ?_)
  refine st_on 20 rfl rfl rfl (o_ldn 0 3 rfl rfl rfl rfl Tryd.underlying95 rfl (by kernel_rfl) (by kernel_rfl) rfl ?_)
  refine st_on 20 rfl rfl rfl (o_extr (H := ReflectliteValue.method (ReflectliteValue.valueError "reflectlite.Value.IsNil" 0) ReflectliteValue.isNil) 1 (@run_callFunc_extern Tryd.prog 56 _ (ReflectliteValue.method (ReflectliteValue.valueError "reflectlite.Value.IsNil" 0) ReflectliteValue.isNil) Tryd.func56 (by kernel_rfl) (by kernel_rfl) (by kernel_rfl) (by kernel_rfl)) rfl rfl rfl (fun w hb => run_isNil (fl := 150) (fun w => by kernel_rfl) (by decide) Tryd.underlying114 rfl w hb) rfl ?_)
  refine st rfl (o_y (v := .bool false) (y_pick rfl rfl) rfl rfl rfl ?_)
  refine s_nil ?_
  refine q_then ?_
  refine c_false rfl ?_
  refine c_skip ?_
  refine q_then ?_
  refine c_seq ?_
  refine c_region ?_
  refine st rfl (o_y (v := .iface 122 (.agg #[.pointer (some ⟨5, 114, none⟩)])) (y_mv rfl) rfl rfl rfl ?_)
  refine st rfl (o_y (v := .iface 122 (.agg #[.pointer (some ⟨5, 113, none⟩)])) (y_k rfl rfl (fun _ => by kernel_rfl)) rfl rfl rfl ?_)
  refine st rfl (o_y (v := .iface 122 (.agg #[.pointer (some ⟨5, 113, none⟩)])) (y_as rfl) rfl rfl rfl ?_)
  refine s_nil ?_
  refine q_then ?_
  refine c_seq ?_
  refine c_seq ?_
  refine c_region ?_
  refine st rfl (o_y (v := .iface 122 (.agg #[.pointer (some ⟨5, 113, none⟩)])) (y_mv rfl) rfl rfl rfl ?_)
  refine st rfl (o_y (v := .int .u8 25) (y_k rfl rfl (fun _ => by kernel_rfl)) rfl rfl rfl ?_)
  refine st rfl (o_y (v := .bool true) (y_k rfl rfl (fun _ => by kernel_rfl)) rfl rfl rfl ?_)
  refine st rfl (o_y (v := .bool true) (y_mv rfl) rfl rfl rfl ?_)
  refine st_on 30 rfl rfl rfl (o_y (v := .iface 122 (.agg #[.pointer (some ⟨5, 113, none⟩)])) (y_mv rfl) rfl rfl rfl ?_)
  refine st_on 30 rfl rfl rfl (o_ldf 0 0 rfl rfl rfl Tryd.underlying89 rfl rfl ?_)
  refine st_on 30 rfl rfl rfl (o_y (v := .bool true) (y_k rfl rfl (fun _ => by kernel_rfl)) rfl rfl rfl ?_)
  refine st_on 30 rfl rfl rfl (o_y (v := .bool false) (y_k rfl rfl (fun _ => by kernel_rfl)) rfl rfl rfl ?_)
  refine st rfl (o_y (v := .bool false) (y_pick rfl rfl) rfl rfl rfl ?_)
  refine s_nil ?_
  refine q_then ?_
  refine c_false rfl ?_
  refine c_skip ?_
  refine q_then ?_
  refine c_seq ?_
  refine c_region ?_
  refine st rfl (o_y (v := .iface 113 (.agg #[.iface 141 (.pointer (some a)), .int .i64 (k : Int)])) (y_mv rfl) rfl rfl rfl ?_)
  refine st rfl (o_y (v := .iface 114 (.pointer (some ⟨b, 0, none⟩))) (y_mv rfl) rfl rfl rfl ?_)
  refine st rfl (o_ldn 0 3 rfl rfl rfl rfl Tryd.underlying95 rfl (by kernel_rfl) (by kernel_rfl) rfl ?_)
  refine st rfl (o_y (v := .iface 122 (.agg #[.pointer (some ⟨5, 113, none⟩)])) (y_mv rfl) rfl rfl rfl ?_)
  refine st rfl (o_call [2, 1] [] (as_hit_at_ a k b b1) rfl rfl rfl rfl rfl rfl (fun v L' I' hq1 => ?_))
  obtain ⟨rfl, rfl, rfl⟩ := hq1
  refine st rfl (o_y (v := .bool true) (y_as rfl) rfl rfl rfl ?_)
  refine s_nil ?_
  refine q_then ?_
  refine c_ret ?_
  refine c_fin (I' := []) [0] [0] rfl (.tmp rfl .nil) rfl rfl rfl ?_
  exact ⟨rfl, rfl, rfl⟩
theorem As_nil_at_ (b : Nat) : Con Tryd.prog 42 [.nilIface, .iface 114 (.pointer (some ⟨b, 0, none⟩))] [] [] (fun v L' I' => v = .bool false ∧ L' = [] ∧ I' = []) := by
  refine fn_of Tryd.func42 rfl Tryd.ntmps42 (by kernel_rfl) rfl (fun C => ?_)
  refine c_seq ?_
  refine c_region ?_
  refine st rfl (o_y (v := .bool false) (y_as rfl) rfl rfl rfl ?_)
  refine s_nil ?_
  refine q_then ?_
  refine c_seq ?_
  refine c_seq ?_
  refine c_region ?_
  refine st rfl (o_y (v := .nilIface) (y_mv rfl) rfl rfl rfl ?_)
  refine st rfl (o_y (v := .bool true) (y_k rfl rfl (fun _ => by kernel_rfl)) rfl rfl rfl ?_)
  refine s_nil ?_
  refine q_then ?_
  refine c_true rfl ?_
  refine c_seq ?_
  refine c_region ?_
  refine st rfl (o_y (v := .bool false) (y_as rfl) rfl rfl rfl ?_)
  refine s_nil ?_
  refine q_then ?_
  refine c_ret ?_
  refine q_then_ret ?_
  refine c_fin (I' := []) [] [] rfl (.tmp rfl .nil) rfl rfl rfl ?_
  exact ⟨rfl, rfl, rfl⟩
theorem as_miss_at_ (a : Addr) (b : Nat) (b1 : Nat) : Con Tryd.prog 57 [.iface 141 (.pointer (some a)), .iface 114 (.pointer (some ⟨b, 0, none⟩)), .agg #[.pointer (some ⟨5, 114, none⟩), .pointer (some ⟨b1, 0, none⟩), .int .u64 150], .iface 122 (.agg #[.pointer (some ⟨5, 113, none⟩)])] [pt b [.nilIface, .int .i64 0] 113, pt b1 [.pointer (some ⟨b, 0, none⟩)] 114] [] (fun v L' I' => v = .bool false ∧ L' = [pt b [.nilIface, .int .i64 0] 113] ∧ I' = []) := by
  refine fn_of Tryd.func57 rfl Tryd.ntmps57 (by kernel_rfl) rfl (fun C => ?_)
  refine c_seq ?_
  refine c_region ?_
  refine st rfl (o_box (cs := [.pointer (some ⟨5, 114, none⟩), .pointer (some ⟨b1, 0, none⟩), .int .u64 150]) (T := 95) rfl rfl rfl rfl (fun _ => by kernel_rfl) (fun b2 => ?_))
  refine st rfl (o_y (v := .bool false) (y_as rfl) rfl rfl rfl ?_)
  refine s_nil ?_
  refine q_then ?_
  refine c_block ?_
  refine c_unroll 1 ?_
  refine c_round ?_
  refine c_block ?_
  refine c_seq ?_
  refine c_seq ?_
  refine c_region ?_
  refine st rfl (o_y (v := .iface 141 (.pointer (some a))) (y_mv rfl) rfl rfl rfl ?_)
  refine st rfl (o_y (v := .iface 122 (.agg #[.pointer (some ⟨5, 141, none⟩)])) (y_k rfl rfl (fun _ => by kernel_rfl)) rfl rfl rfl ?_)
  refine st rfl (o_y (v := .iface 122 (.agg #[.pointer (some ⟨5, 113, none⟩)])) (y_mv rfl) rfl rfl rfl ?_)
  refine st rfl (o_y (v := .bool false) (y_k rfl rfl (fun _ => by kernel_rfl)) rfl rfl rfl ?_)
  refine s_nil ?_
  refine q_then ?_
  refine c_false rfl ?_
  refine c_skip ?_
  refine q_then ?_
  refine c_seq ?_
  refine c_seq ?_
  refine c_region ?_
  refine st rfl (o_y (v := .iface 141 (.pointer (some a))) (y_mv rfl) rfl rfl rfl ?_)
  refine st rfl (o_y (v := .tuple #[.nilIface, .bool false]) (y_lacks rfl Tryd.underlying133 (by kernel_rfl) (by kernel_rfl)) rfl rfl rfl ?_)
  refine st rfl (o_y (v := .tuple #[.nilIface, .bool false]) (y_mv rfl) rfl rfl rfl ?_)
  refine st rfl (o_y (v := .nilIface) (y_k rfl rfl (fun _ => by kernel_rfl)) rfl rfl rfl ?_)
  refine st rfl (o_y (v := .bool false) (y_k rfl rfl (fun _ => by kernel_rfl)) rfl rfl rfl ?_)
  refine st rfl (o_y (v := .nilIface) (y_as rfl) rfl rfl rfl ?_)
  refine st rfl (o_y (v := .bool false) (y_as rfl) rfl rfl rfl ?_)
  refine s_nil ?_
  refine q_then ?_
  refine c_seq ?_
  refine c_region ?_
  refine st rfl (o_y (v := .bool false) (y_mv rfl) rfl rfl rfl ?_)
  refine st rfl (o_y (v := .bool false) (y_mv rfl) rfl rfl rfl ?_)
  refine st_off 31 rfl rfl rfl rfl rfl rfl ?_
  refine st_off 31 rfl rfl rfl rfl rfl rfl ?_
  refine st_off 31 rfl rfl rfl rfl rfl rfl ?_
  refine st rfl (o_y (v := .bool false) (y_pick rfl rfl) rfl rfl rfl ?_)
  refine s_nil ?_
  refine q_then ?_
  refine c_false rfl ?_
  refine c_skip ?_
  refine q_then ?_
  refine c_seq ?_
  refine c_region ?_
  refine st rfl (o_y (v := .iface 141 (.pointer (some a))) (y_mv rfl) rfl rfl rfl ?_)
  refine s_nil ?_
  refine q_then ?_
  refine c_block ?_
  refine c_seq ?_
  refine c_region ?_
  refine st rfl (o_y (v := .tuple #[.nilIface, .bool false]) (y_lacks rfl Tryd.underlying127 (by kernel_rfl) (by kernel_rfl)) rfl rfl rfl ?_)
  refine st rfl (o_y (v := .bool false) (y_k rfl rfl (fun _ => by kernel_rfl)) rfl rfl rfl ?_)
  refine st rfl (o_y (v := .nilIface) (y_k rfl rfl (fun _ => by kernel_rfl)) rfl rfl rfl ?_)
  refine s_nil ?_
  refine q_then ?_
  refine c_false rfl ?_
  refine c_seq ?_
  refine c_region ?_
  refine st rfl (o_y (v := .tuple #[.nilIface, .bool false]) (y_lacks rfl Tryd.underlying128 (by kernel_rfl) (by kernel_rfl)) rfl rfl rfl ?_)
  refine st rfl (o_y (v := .bool false) (y_k rfl rfl (fun _ => by kernel_rfl)) rfl rfl rfl ?_)
  refine st rfl (o_y (v := .nilIface) (y_k rfl rfl (fun _ => by kernel_rfl)) rfl rfl rfl ?_)
  refine s_nil ?_
  refine q_then ?_
  refine c_false rfl ?_
  refine c_seq ?_
  refine c_region ?_
  refine st rfl (o_y (v := .iface 141 (.pointer (some a))) (y_as rfl) rfl rfl rfl ?_)
  refine s_nil ?_
  refine q_then ?_
  refine c_seq ?_
  refine c_region ?_
  refine st rfl (o_y (v := .bool false) (y_as rfl) rfl rfl rfl ?_)
  refine s_nil ?_
  refine q_then ?_
  refine c_ret ?_
  refine q_block_ret ?_
  refine q_block_ret ?_
  refine q_then_ret ?_
  refine q_block_ret ?_
  refine c_fin (I' := []) [1] [] rfl (.tmp rfl .nil) rfl rfl rfl ?_
  exact ⟨rfl, rfl, rfl⟩
theorem As_miss_at_ (a : Addr) (b : Nat) : Con Tryd.prog 42 [.iface 141 (.pointer (some a)), .iface 114 (.pointer (some ⟨b, 0, none⟩))] [pt b [.nilIface, .int .i64 0] 113] [cellsAt 2 0 [.iface 122 (.agg #[.pointer (some ⟨5, 46, none⟩)])]] (fun v L' I' => v = .bool false ∧ L' = [pt b [.nilIface, .int .i64 0] 113] ∧ I' = []) := by
  refine fn_of Tryd.func42 rfl Tryd.ntmps42 (by kernel_rfl) rfl (fun C => ?_)
  refine c_seq ?_
  refine c_region ?_
  refine st rfl (o_y (v := .bool false) (y_as rfl) rfl rfl rfl ?_)
  refine s_nil ?_
  refine q_then ?_
  refine c_seq ?_
  refine c_seq ?_
  refine c_region ?_
  refine st rfl (o_y (v := .iface 141 (.pointer (some a))) (y_mv rfl) rfl rfl rfl ?_)
  refine st rfl (o_y (v := .bool false) (y_k rfl rfl (fun _ => by kernel_rfl)) rfl rfl rfl ?_)
  refine s_nil ?_
  refine q_then ?_
  refine c_false rfl ?_
  refine c_skip ?_
  refine q_then ?_
  refine c_seq ?_
  refine c_seq ?_
  refine c_region ?_
  refine st rfl (o_y (v := .iface 114 (.pointer (some ⟨b, 0, none⟩))) (y_mv rfl) rfl rfl rfl ?_)
  refine st rfl (o_y (v := .bool false) (y_k rfl rfl (fun _ => by kernel_rfl)) rfl rfl rfl ?_)
  refine s_nil ?_
  refine q_then ?_
  refine c_false rfl ?_
  refine c_skip ?_
  refine q_then ?_
  refine c_seq ?_
  refine c_region ?_
  refine st rfl (o_y (v := .iface 114 (.pointer (some ⟨b, 0, none⟩))) (y_mv rfl) rfl rfl rfl ?_)
  refine st rfl (o_boxf (cs := [.pointer (some ⟨b, 0, none⟩)]) (T := 114) (fun b => .agg #[.pointer (some ⟨5, 114, none⟩), .pointer (some ⟨b, 0, none⟩), .int .u64 150]) rfl rfl rfl rfl (fun _ => by kernel_rfl) (fun b1 => ?_))
  refine st rfl (o_box (cs := [.pointer none, .pointer none, .int .u64 0]) (T := 95) rfl rfl rfl rfl (fun _ => by kernel_rfl) (fun b2 => ?_))
  refine st rfl (o_st 0 rfl rfl rfl rfl rfl (by kernel_rfl) (by kernel_rfl) rfl ?_)
  refine s_nil ?_
  refine q_then ?_
  refine c_seq ?_
  refine c_region ?_
  refine st rfl (o_ldn 0 3 rfl rfl rfl rfl Tryd.underlying95 rfl (by kernel_rfl) (by kernel_rfl) rfl ?_)
  refine st rfl (o_y (v := .iface 122 (.agg #[.pointer (some ⟨5, 114, none⟩)])) (y_k rfl rfl (fun _ => by kernel_rfl)) rfl rfl rfl ?_)
  refine st rfl (o_y (v := .iface 122 (.agg #[.pointer (some ⟨5, 114, none⟩)])) (y_as rfl) rfl rfl rfl ?_)
  refine s_nil ?_
  refine q_then ?_
  refine c_seq ?_
  refine c_seq ?_
  refine c_region ?_
  refine st rfl (o_y (v := .iface 122 (.agg #[.pointer (some ⟨5, 114, none⟩)])) (y_mv rfl) rfl rfl rfl ?_)
  refine st rfl (o_y (v := .int .u8 22) (y_k rfl rfl (fun _ => by kernel_rfl)) rfl rfl rfl ?_)
  refine st rfl (o_y (v := .bool false) (y_k rfl rfl (fun _ => by kernel_rfl)) rfl rfl rfl ?_)
  refine st rfl (o_y (v := .bool false) (y_mv rfl) rfl rfl rfl ?_)
  refine st_on 20 rfl rfl rfl (o_ldn 0 3 rfl rfl rfl rfl Tryd.underlying95 rfl (by kernel_rfl) (by kernel_rfl) rfl ?_)
  refine st_on 20 rfl rfl rfl (o_extr (H := ReflectliteValue.method (ReflectliteValue.valueError "reflectlite.Value.IsNil" 0) ReflectliteValue.isNil) 1 (@run_callFunc_extern Tryd.prog 56 _ (ReflectliteValue.method (ReflectliteValue.valueError "reflectlite.Value.IsNil" 0) ReflectliteValue.isNil) Tryd.func56 (by kernel_rfl) (by kernel_rfl) (by kernel_rfl) (by kernel_rfl)) rfl rfl rfl (fun w hb => run_isNil (fl := 150) (fun w => by kernel_rfl) (by decide) Tryd.underlying114 rfl w hb) rfl ?_)
  refine st rfl (o_y (v := .bool false) (y_pick rfl rfl) rfl rfl rfl ?_)
  refine s_nil ?_
  refine q_then ?_
  refine c_false rfl ?_
  refine c_skip ?_
  refine q_then ?_
  refine c_seq ?_
  refine c_region ?_
  refine st rfl (o_y (v := .iface 122 (.agg #[.pointer (some ⟨5, 114, none⟩)])) (y_mv rfl) rfl rfl rfl ?_)
  refine st rfl (o_y (v := .iface 122 (.agg #[.pointer (some ⟨5, 113, none⟩)])) (y_k rfl rfl (fun _ => by kernel_rfl)) rfl rfl rfl ?_)
  refine st rfl (o_y (v := .iface 122 (.agg #[.pointer (some ⟨5, 113, none⟩)])) (y_as rfl) rfl rfl rfl ?_)
  refine s_nil ?_
  refine q_then ?_
  refine c_seq ?_
  refine c_seq ?_
  refine c_region ?_
  refine st rfl (o_y (v := .iface 122 (.agg #[.pointer (some ⟨5, 113, none⟩)])) (y_mv rfl) rfl rfl rfl ?_)
  refine st rfl (o_y (v := .int .u8 25) (y_k rfl rfl (fun _ => by kernel_rfl)) rfl rfl rfl ?_)
  refine st rfl (o_y (v := .bool true) (y_k rfl rfl (fun _ => by kernel_rfl)) rfl rfl rfl ?_)
  refine st rfl (o_y (v := .bool true) (y_mv rfl) rfl rfl rfl ?_)
  refine st_on 30 rfl rfl rfl (o_y (v := .iface 122 (.agg #[.pointer (some ⟨5, 113, none⟩)])) (y_mv rfl) rfl rfl rfl ?_)
  refine st_on 30 rfl rfl rfl (o_ldf 0 0 rfl rfl rfl Tryd.underlying89 rfl rfl ?_)
  refine st_on 30 rfl rfl rfl (o_y (v := .bool true) (y_k rfl rfl (fun _ => by kernel_rfl)) rfl rfl rfl ?_)
  refine st_on 30 rfl rfl rfl (o_y (v := .bool false) (y_k rfl rfl (fun _ => by kernel_rfl)) rfl rfl rfl ?_)
  refine st rfl (o_y (v := .bool false) (y_pick rfl rfl) rfl rfl rfl ?_)
  refine s_nil ?_
  refine q_then ?_
  refine c_false rfl ?_
  refine c_skip ?_
  refine q_then ?_
  refine c_seq ?_
  refine c_region ?_
  refine st rfl (o_y (v := .iface 141 (.pointer (some a))) (y_mv rfl) rfl rfl rfl ?_)
  refine st rfl (o_y (v := .iface 114 (.pointer (some ⟨b, 0, none⟩))) (y_mv rfl) rfl rfl rfl ?_)
  refine st rfl (o_ldn 0 3 rfl rfl rfl rfl Tryd.underlying95 rfl (by kernel_rfl) (by kernel_rfl) rfl ?_)
  refine st rfl (o_y (v := .iface 122 (.agg #[.pointer (some ⟨5, 113, none⟩)])) (y_mv rfl) rfl rfl rfl ?_)
  refine st rfl (o_call [2, 1] [] (as_miss_at_ a b b1) rfl rfl rfl rfl rfl rfl (fun v L' I' hq1 => ?_))
  obtain ⟨rfl, rfl, rfl⟩ := hq1
  refine st rfl (o_y (v := .bool false) (y_as rfl) rfl rfl rfl ?_)
  refine s_nil ?_
  refine q_then ?_
  refine c_ret ?_
  refine c_fin (I' := []) [0] [0] rfl (.tmp rfl .nil) rfl rfl rfl ?_
  exact ⟨rfl, rfl, rfl⟩
end Go.Proofs.YthoefkpbijcdeaaDoor
