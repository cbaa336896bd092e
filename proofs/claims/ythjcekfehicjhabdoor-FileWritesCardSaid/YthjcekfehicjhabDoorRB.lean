/- The laws of chapter 9 (file), walked over the given program; no condition but what stands in each theorem: part B. -/
import Derived.WalkKit
import Derived.LaidEql
import Derived.Stop.Asserts
import Derived.RowKitTokens
import Derived.Test.YthjcekfehicjhabDoorProg
import Derived.Test.YthjcekfehicjhabDoorChecked
import Derived.Test.YthjcekfehicjhabDoorSlX
set_option linter.unusedVariables false
set_option linter.unusedSimpArgs false
set_option maxRecDepth 100000
set_option maxHeartbeats 8000000
namespace Go.Proofs.YthjcekfehicjhabDoor
open Go Go.Sl Go.RowKit Go.Extern.Stop Go.Stop Go.Extern
theorem as_hit_w_ (b : Nat) (b1 : Nat) : Con Tryd.prog 27 [.iface 49 (.agg #[]), .iface 55 (.pointer (some ⟨b, 0, none⟩)), .agg #[.pointer (some ⟨1, 55, none⟩), .pointer (some ⟨b1, 0, none⟩), .int .u64 150], .iface 70 (.agg #[.pointer (some ⟨1, 49, none⟩)])] [pt b [] 49, pt b1 [.pointer (some ⟨b, 0, none⟩)] 55] [] (fun v L' I' => v = .bool true ∧ L' = [pt b [] 49] ∧ I' = []) := by
  refine fn_of Tryd.func27 rfl Tryd.ntmps27 (by kernel_rfl) rfl (fun C => ?_)
  refine c_seq ?_
  refine c_region ?_
  refine st rfl (o_box (cs := [.pointer (some ⟨1, 55, none⟩), .pointer (some ⟨b1, 0, none⟩), .int .u64 150]) (T := 60) rfl rfl rfl rfl (fun _ => by kernel_rfl) (fun b2 => ?_))
  refine st rfl (o_y (v := .bool false) (y_as rfl) rfl rfl rfl ?_)
  refine s_nil ?_
  refine q_then ?_
  refine c_block ?_
  refine c_unroll 1 ?_
  refine c_round ?_
  refine c_block ?_
  refine c_seq ?_
  refine c_seq ?_
  refine c_region ?_
  refine st rfl (o_y (v := .iface 49 (.agg #[])) (y_mv rfl) rfl rfl rfl ?_)
  refine st rfl (o_y (v := .iface 70 (.agg #[.pointer (some ⟨1, 49, none⟩)])) (y_k rfl rfl (fun _ => by kernel_rfl)) rfl rfl rfl ?_)
  refine st rfl (o_y (v := .iface 70 (.agg #[.pointer (some ⟨1, 49, none⟩)])) (y_mv rfl) rfl rfl rfl ?_)
  refine st rfl (o_y (v := .bool true) (y_k rfl rfl (fun _ => by kernel_rfl)) rfl rfl rfl ?_)
  refine s_nil ?_
  refine q_then ?_
  refine c_true rfl ?_
  refine c_seq ?_
  refine c_region ?_
  refine st rfl (o_ldn 0 3 rfl rfl rfl rfl Tryd.underlying60 rfl (by kernel_rfl) (by kernel_rfl) rfl ?_)
  refine st rfl (o_extr (H := ReflectliteValue.method (ReflectliteValue.valueError "reflectlite.Value.Elem" 0) ReflectliteValue.elem) (v := .agg #[.pointer (some ⟨1, 49, none⟩), .pointer (some ⟨b, 0, none⟩), .int .u64 409]) 2 (@run_callFunc_extern Tryd.prog 29 _ (ReflectliteValue.method (ReflectliteValue.valueError "reflectlite.Value.Elem" 0) ReflectliteValue.elem) Tryd.func29 (by kernel_rfl) (by kernel_rfl) (by kernel_rfl) (by kernel_rfl)) rfl rfl rfl (fun w hb => run_elemV (T := 49) (fl := 150) (fun w => by kernel_rfl) (by decide) Tryd.underlying55 rfl (fun w => by kernel_rfl) (fun w => by kernel_rfl) w hb) rfl ?_)
  refine st rfl (o_y (v := .iface 49 (.agg #[])) (y_mv rfl) rfl rfl rfl ?_)
  refine st rfl (o_boxf (cs := []) (T := 49) (fun b => .agg #[.pointer (some ⟨1, 49, none⟩), .pointer (some ⟨b, 0, none⟩), .int .u64 153]) rfl rfl rfl rfl (fun _ => by kernel_rfl) (fun b3 => ?_))
  refine st rfl (o_exts (H := ReflectliteValue.set) 2 0 (@run_callFunc_extern Tryd.prog 30 _ (ReflectliteValue.set) Tryd.func30 (by kernel_rfl) (by kernel_rfl) (by kernel_rfl) (by kernel_rfl)) rfl rfl rfl rfl (fun w hb hb2 => run_setV (f1 := 409) (f2 := 153) (fun w => by kernel_rfl) (fun w => by kernel_rfl) (by decide) (fun w => by kernel_rfl) Tryd.underlying49 rfl (by kernel_rfl) (by kernel_rfl) rfl rfl w hb hb2) rfl ?_)
  refine s_nil ?_
  refine q_then ?_
  refine c_seq ?_
  refine c_region ?_
  refine st rfl (o_y (v := .bool true) (y_as rfl) rfl rfl rfl ?_)
  refine s_nil ?_
  refine q_then ?_
  refine c_ret ?_
  refine q_then_ret ?_
  refine q_block_ret ?_
  refine q_then_ret ?_
  refine q_block_ret ?_
  refine c_fin (I' := []) [2] [] rfl (.tmp rfl .nil) rfl rfl rfl ?_
  exact ⟨rfl, rfl, rfl⟩
theorem As_hit_w_ (b : Nat) : Con Tryd.prog 22 [.iface 49 (.agg #[]), .iface 55 (.pointer (some ⟨b, 0, none⟩))] [pt b [] 49] [cellsAt 0 0 [.iface 70 (.agg #[.pointer (some ⟨1, 42, none⟩)])]] (fun v L' I' => v = .bool true ∧ L' = [pt b [] 49] ∧ I' = []) := by
  refine fn_of Tryd.func22 rfl Tryd.ntmps22 (by kernel_rfl) rfl (fun C => ?_)
  refine c_seq ?_
  refine c_region ?_
  refine st rfl (o_y (v := .bool false) (y_as rfl) rfl rfl rfl ?_)
  refine s_nil ?_
  refine q_then ?_
  refine c_seq ?_
  refine c_seq ?_
  refine c_region ?_
  refine st rfl (o_y (v := .iface 49 (.agg #[])) (y_mv rfl) rfl rfl rfl ?_)
  refine st rfl (o_y (v := .bool false) (y_k rfl rfl (fun _ => by kernel_rfl)) rfl rfl rfl ?_)
  refine s_nil ?_
  refine q_then ?_
  refine c_false rfl ?_
  refine c_skip ?_
  refine q_then ?_
  refine c_seq ?_
  refine c_seq ?_
  refine c_region ?_
  refine st rfl (o_y (v := .iface 55 (.pointer (some ⟨b, 0, none⟩))) (y_mv rfl) rfl rfl rfl ?_)
  refine st rfl (o_y (v := .bool false) (y_k rfl rfl (fun _ => by kernel_rfl)) rfl rfl rfl ?_)
  refine s_nil ?_
  refine q_then ?_
  refine c_false rfl ?_
  refine c_skip ?_
  refine q_then ?_
  refine c_seq ?_
  refine c_region ?_
  refine st rfl (o_y (v := .iface 55 (.pointer (some ⟨b, 0, none⟩))) (y_mv rfl) rfl rfl rfl ?_)
  refine st rfl (o_boxf (cs := [.pointer (some ⟨b, 0, none⟩)]) (T := 55) (fun b => .agg #[.pointer (some ⟨1, 55, none⟩), .pointer (some ⟨b, 0, none⟩), .int .u64 150]) rfl rfl rfl rfl (fun _ => by kernel_rfl) (fun b1 => ?_))
  refine st rfl (o_box (cs := [.pointer none, .pointer none, .int .u64 0]) (T := 60) rfl rfl rfl rfl (fun _ => by kernel_rfl) (fun b2 => ?_))
  refine st rfl (o_st 0 rfl rfl rfl rfl rfl (by kernel_rfl) (by kernel_rfl) rfl ?_)
  refine s_nil ?_
  refine q_then ?_
  refine c_seq ?_
  refine c_region ?_
  refine st rfl (o_ldn 0 3 rfl rfl rfl rfl Tryd.underlying60 rfl (by kernel_rfl) (by kernel_rfl) rfl ?_)
  refine st rfl (o_y (v := .iface 70 (.agg #[.pointer (some ⟨1, 55, none⟩)])) (y_k rfl rfl (fun _ => by kernel_rfl)) rfl rfl rfl ?_)
  refine st rfl (o_y (v := .iface 70 (.agg #[.pointer (some ⟨1, 55, none⟩)])) (y_as rfl) rfl rfl rfl ?_)
  refine s_nil ?_
  refine q_then ?_
  refine c_seq ?_
  refine c_seq ?_
  refine c_region ?_
  refine st rfl (o_y (v := .iface 70 (.agg #[.pointer (some ⟨1, 55, none⟩)])) (y_mv rfl) rfl rfl rfl ?_)
  refine st rfl (o_y (v := .int .u8 22) (y_k rfl rfl (fun _ => by kernel_rfl)) rfl rfl rfl ?_)
  refine st rfl (o_y (v := .bool false) (y_k rfl rfl (fun _ => by kernel_rfl)) rfl rfl rfl ?_)
  refine st rfl (o_y (v := .bool false) (y_mv rfl) rfl rfl rfl ?_)
  refine st_on 20 rfl rfl rfl (o_ldn 0 3 rfl rfl rfl rfl Tryd.underlying60 rfl (by kernel_rfl) (by kernel_rfl) rfl ?_)
  refine st_on 20 rfl rfl rfl (o_extr (H := ReflectliteValue.method (ReflectliteValue.valueError "reflectlite.Value.IsNil" 0) ReflectliteValue.isNil) 1 (@run_callFunc_extern Tryd.prog 26 _ (ReflectliteValue.method (ReflectliteValue.valueError "reflectlite.Value.IsNil" 0) ReflectliteValue.isNil) Tryd.func26 (by kernel_rfl) (by kernel_rfl) (by kernel_rfl) (by kernel_rfl)) rfl rfl rfl (fun w hb => run_isNil (fl := 150) (fun w => by kernel_rfl) (by decide) Tryd.underlying55 rfl w hb) rfl ?_)
  refine st rfl (o_y (v := .bool false) (y_pick rfl rfl) rfl rfl rfl ?_)
  refine s_nil ?_
  refine q_then ?_
  refine c_false rfl ?_
  refine c_skip ?_
  refine q_then ?_
  refine c_seq ?_
  refine c_region ?_
  refine st rfl (o_y (v := .iface 70 (.agg #[.pointer (some ⟨1, 55, none⟩)])) (y_mv rfl) rfl rfl rfl ?_)
  refine st rfl (o_y (v := .iface 70 (.agg #[.pointer (some ⟨1, 49, none⟩)])) (y_k rfl rfl (fun _ => by kernel_rfl)) rfl rfl rfl ?_)
  refine st rfl (o_y (v := .iface 70 (.agg #[.pointer (some ⟨1, 49, none⟩)])) (y_as rfl) rfl rfl rfl ?_)
  refine s_nil ?_
  refine q_then ?_
  refine c_seq ?_
  refine c_seq ?_
  refine c_region ?_
  refine st rfl (o_y (v := .iface 70 (.agg #[.pointer (some ⟨1, 49, none⟩)])) (y_mv rfl) rfl rfl rfl ?_)
  refine st rfl (o_y (v := .int .u8 25) (y_k rfl rfl (fun _ => by kernel_rfl)) rfl rfl rfl ?_)
  refine st rfl (o_y (v := .bool true) (y_k rfl rfl (fun _ => by kernel_rfl)) rfl rfl rfl ?_)
  refine st rfl (o_y (v := .bool true) (y_mv rfl) rfl rfl rfl ?_)
  refine st_on 30 rfl rfl rfl (o_y (v := .iface 70 (.agg #[.pointer (some ⟨1, 49, none⟩)])) (y_mv rfl) rfl rfl rfl ?_)
  refine st_on 30 rfl rfl rfl (o_ldf 0 0 rfl rfl rfl Tryd.underlying63 rfl rfl ?_)
  refine st_on 30 rfl rfl rfl (o_y (v := .bool true) (y_k rfl rfl (fun _ => by kernel_rfl)) rfl rfl rfl ?_)
  refine st_on 30 rfl rfl rfl (o_y (v := .bool false) (y_k rfl rfl (fun _ => by kernel_rfl)) rfl rfl rfl ?_)
  refine st rfl (o_y (v := .bool false) (y_pick rfl rfl) rfl rfl rfl ?_)
  refine s_nil ?_
  refine q_then ?_
  refine c_false rfl ?_
  refine c_skip ?_
  refine q_then ?_
  refine c_seq ?_
  refine c_region ?_
  refine st rfl (o_y (v := .iface 49 (.agg #[])) (y_mv rfl) rfl rfl rfl ?_)
  refine st rfl (o_y (v := .iface 55 (.pointer (some ⟨b, 0, none⟩))) (y_mv rfl) rfl rfl rfl ?_)
  refine st rfl (o_ldn 0 3 rfl rfl rfl rfl Tryd.underlying60 rfl (by kernel_rfl) (by kernel_rfl) rfl ?_)
  refine st rfl (o_y (v := .iface 70 (.agg #[.pointer (some ⟨1, 49, none⟩)])) (y_mv rfl) rfl rfl rfl ?_)
  refine st rfl (o_call [2, 1] [] (as_hit_w_ b b1) rfl rfl rfl rfl rfl rfl (fun v L' I' hq1 => ?_))
  obtain ⟨rfl, rfl, rfl⟩ := hq1
  refine st rfl (o_y (v := .bool true) (y_as rfl) rfl rfl rfl ?_)
  refine s_nil ?_
  refine q_then ?_
  refine c_ret ?_
  refine c_fin (I' := []) [0] [0] rfl (.tmp rfl .nil) rfl rfl rfl ?_
  exact ⟨rfl, rfl, rfl⟩
theorem As_nil_w_ (b : Nat) : Con Tryd.prog 22 [.nilIface, .iface 55 (.pointer (some ⟨b, 0, none⟩))] [] [] (fun v L' I' => v = .bool false ∧ L' = [] ∧ I' = []) := by
  refine fn_of Tryd.func22 rfl Tryd.ntmps22 (by kernel_rfl) rfl (fun C => ?_)
  refine c_seq ?_
  refine c_region ?_
  refine st rfl (o_y (v := .bool false) (y_as rfl) rfl rfl rfl ?_)
  refine s_nil ?_
  refine q_then ?_
  refine c_seq ?_
  refine c_seq ?_
  refine c_region ?_
  refine st rfl (o_y (v := .nilIface) (y_mv rfl) rfl rfl rfl ?_)
  refine st rfl (o_y (v := .bool true) (y_k rfl rfl (fun _ => by kernel_rfl)) rfl rfl rfl ?_)
  refine s_nil ?_
  refine q_then ?_
  refine c_true rfl ?_
  refine c_seq ?_
  refine c_region ?_
  refine st rfl (o_y (v := .bool false) (y_as rfl) rfl rfl rfl ?_)
  refine s_nil ?_
  refine q_then ?_
  refine c_ret ?_
  refine q_then_ret ?_
  refine c_fin (I' := []) [] [] rfl (.tmp rfl .nil) rfl rfl rfl ?_
  exact ⟨rfl, rfl, rfl⟩
theorem told_w_ : Con Tryd.prog 20 [.iface 49 (.agg #[])] [] [cellsAt 0 0 [.iface 70 (.agg #[.pointer (some ⟨1, 42, none⟩)])]] (fun v L' I' => v = .int .i64 90 ∧ L' = [] ∧ I' = []) := by
  refine fn_of Tryd.func20 rfl Tryd.ntmps20 (by kernel_rfl) rfl (fun C => ?_)
  refine c_seq ?_
  refine c_region ?_
  refine st rfl (o_y (v := .int .i64 0) (y_as rfl) rfl rfl rfl ?_)
  refine s_nil ?_
  refine q_then ?_
  refine c_seq ?_
  refine c_region ?_
  refine st rfl (o_box (cs := []) (T := 49) rfl rfl rfl rfl (fun _ => by kernel_rfl) (fun b1 => ?_))
  refine s_nil ?_
  refine q_then ?_
  refine c_seq ?_
  refine c_seq ?_
  refine c_region ?_
  refine st rfl (o_y (v := .iface 49 (.agg #[])) (y_mv rfl) rfl rfl rfl ?_)
  refine st rfl (o_y (v := .iface 55 (.pointer (some ⟨b1, 0, none⟩))) (y_k rfl rfl (fun _ => by kernel_rfl)) rfl rfl rfl ?_)
  refine st rfl (o_call [0] [0] (As_hit_w_ b1) rfl rfl rfl rfl rfl rfl (fun v L' I' hq1 => ?_))
  obtain ⟨rfl, rfl, rfl⟩ := hq1
  refine s_nil ?_
  refine q_then ?_
  refine c_true rfl ?_
  refine c_seq ?_
  refine c_region ?_
  refine st rfl (o_y (v := .int .i64 90) (y_as rfl) rfl rfl rfl ?_)
  refine s_nil ?_
  refine q_then ?_
  refine c_ret ?_
  refine q_then_ret ?_
  refine c_fin (I' := []) [] [0] rfl (.tmp rfl .nil) rfl rfl rfl ?_
  exact ⟨rfl, rfl, rfl⟩
end Go.Proofs.YthjcekfehicjhabDoor
