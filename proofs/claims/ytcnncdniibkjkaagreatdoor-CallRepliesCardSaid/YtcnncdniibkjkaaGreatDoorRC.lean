/- The laws of chapter 17 (call), walked over the given program; no condition but what stands in each theorem: part C. -/
import Derived.WalkKit
import Derived.LaidEql
import Derived.Stop.Asserts
import Derived.RowKitTokens
import Derived.Test.YtcnncdniibkjkaaGreatDoorProg
import Derived.Test.YtcnncdniibkjkaaGreatDoorChecked
import Derived.Test.YtcnncdniibkjkaaGreatDoorSlO
set_option linter.unusedVariables false
set_option linter.unusedSimpArgs false
set_option maxRecDepth 100000
set_option maxHeartbeats 8000000
namespace Go.Proofs.YtcnncdniibkjkaaGreatDoor
open Go Go.Sl Go.RowKit Go.Extern.Stop Go.Stop Go.Extern
theorem as_hit_at_ (a : Addr) (k : Nat) (b : Nat) (b1 : Nat) : Con Tryz.prog 78 [.iface 131 (.agg #[.iface 180 (.pointer (some a)), .int .i64 (k : Int)]), .iface 144 (.pointer (some ⟨b, 0, none⟩)), .agg #[.pointer (some ⟨5, 144, none⟩), .pointer (some ⟨b1, 0, none⟩), .int .u64 150], .iface 147 (.agg #[.pointer (some ⟨5, 131, none⟩)])] [pt b [.nilIface, .int .i64 0] 131, pt b1 [.pointer (some ⟨b, 0, none⟩)] 144] [] (fun v L' I' => v = .bool true ∧ L' = [pt b [.iface 180 (.pointer (some a)), .int .i64 (k : Int)] 131] ∧ I' = []) := by
 refine fn_of Tryz.func78 rfl Tryz.ntmps78 (by kernel_rfl) rfl (fun C => ?_)
 refine c_seq (c_region ?_)
 refine st rfl (o_box (cs := [.pointer (some ⟨5, 144, none⟩), .pointer (some ⟨b1, 0, none⟩), .int .u64 150]) (T := 113) rfl rfl rfl rfl (fun _ => by kernel_rfl) (fun b2 => ?_))
 refine s_y rfl (v := .bool false) (y_as rfl) rfl ?_
 refine s_nil (q_then (c_block ?_))
 refine c_unroll 1 ?_
 refine c_round ?_
 refine c_block (c_seq (c_seq (c_region ?_)))
 refine s_y rfl (v := .iface 131 (.agg #[.iface 180 (.pointer (some a)), .int .i64 (k : Int)])) (y_mv rfl) rfl ?_
 refine s_y rfl (v := .iface 147 (.agg #[.pointer (some ⟨5, 131, none⟩)])) (y_k rfl rfl (fun _ => by kernel_rfl)) rfl ?_
 refine s_y rfl (v := .iface 147 (.agg #[.pointer (some ⟨5, 131, none⟩)])) (y_mv rfl) rfl ?_
 refine s_y rfl (v := .bool true) (y_k rfl rfl (fun _ => by kernel_rfl)) rfl ?_
 refine s_nil (q_then (c_true rfl (c_seq (c_region ?_))))
 refine st rfl (o_ldn 0 3 rfl rfl rfl rfl Tryz.underlying113 rfl (by kernel_rfl) (by kernel_rfl) rfl ?_)
 refine st rfl (o_extr (H := ReflectliteValue.method (ReflectliteValue.valueError "reflectlite.Value.Elem" 0) ReflectliteValue.elem) (v := .agg #[.pointer (some ⟨5, 131, none⟩), .pointer (some ⟨b, 0, none⟩), .int .u64 409]) 2 (@run_callFunc_extern Tryz.prog 90 _ (ReflectliteValue.method (ReflectliteValue.valueError "reflectlite.Value.Elem" 0) ReflectliteValue.elem) Tryz.func90 (by kernel_rfl) (by kernel_rfl) (by kernel_rfl) (by kernel_rfl)) rfl rfl rfl (fun w hb => run_elemV (T := 131) (fl := 150) (fun w => by kernel_rfl) (by decide) Tryz.underlying144 rfl (fun w => by kernel_rfl) (fun w => by kernel_rfl) w hb) rfl ?_)
 refine s_y rfl (v := .iface 131 (.agg #[.iface 180 (.pointer (some a)), .int .i64 (k : Int)])) (y_mv rfl) rfl ?_
 refine st rfl (o_boxf (cs := [.iface 180 (.pointer (some a)), .int .i64 (k : Int)]) (T := 131) (fun b => .agg #[.pointer (some ⟨5, 131, none⟩), .pointer (some ⟨b, 0, none⟩), .int .u64 153]) rfl rfl rfl rfl (fun _ => by kernel_rfl) (fun b3 => ?_))
 refine st rfl (o_exts (H := ReflectliteValue.set) 2 0 (@run_callFunc_extern Tryz.prog 91 _ (ReflectliteValue.set) Tryz.func91 (by kernel_rfl) (by kernel_rfl) (by kernel_rfl) (by kernel_rfl)) rfl rfl rfl rfl (fun w hb hb2 => run_setV (f1 := 409) (f2 := 153) (fun w => by kernel_rfl) (fun w => by kernel_rfl) (by decide) (fun w => by kernel_rfl) Tryz.underlying131 rfl (by kernel_rfl) (by kernel_rfl) (by rfl) (by rfl) w hb hb2) rfl ?_)
 refine s_nil (q_then (c_seq (c_region ?_)))
 refine s_y rfl (v := .bool true) (y_as rfl) rfl ?_
 refine s_nil (q_then (c_ret (q_then_ret (q_block_ret (q_then_ret (q_block_ret ?_))))))
 refine c_fin (I' := []) [2] [] rfl (.tmp rfl .nil) rfl rfl rfl ?_
 exact ⟨rfl, rfl, rfl⟩
theorem As_hit_at_ (a : Addr) (k : Nat) (b : Nat) : Con Tryz.prog 48 [.iface 131 (.agg #[.iface 180 (.pointer (some a)), .int .i64 (k : Int)]), .iface 144 (.pointer (some ⟨b, 0, none⟩))] [pt b [.nilIface, .int .i64 0] 131] [cellsAt 0 0 [.iface 147 (.agg #[.pointer (some ⟨5, 48, none⟩)])]] (fun v L' I' => v = .bool true ∧ L' = [pt b [.iface 180 (.pointer (some a)), .int .i64 (k : Int)] 131] ∧ I' = []) := by
 refine fn_of Tryz.func48 rfl Tryz.ntmps48 (by kernel_rfl) rfl (fun C => ?_)
 refine c_seq (c_region ?_)
 refine s_y rfl (v := .bool false) (y_as rfl) rfl ?_
 refine s_nil (q_then (c_seq (c_seq (c_region ?_))))
 refine s_y rfl (v := .iface 131 (.agg #[.iface 180 (.pointer (some a)), .int .i64 (k : Int)])) (y_mv rfl) rfl ?_
 refine s_y rfl (v := .bool false) (y_k rfl rfl (fun _ => by kernel_rfl)) rfl ?_
 refine s_nil (q_then (c_false rfl (c_skip (q_then (c_seq (c_seq (c_region ?_)))))))
 refine s_y rfl (v := .iface 144 (.pointer (some ⟨b, 0, none⟩))) (y_mv rfl) rfl ?_
 refine s_y rfl (v := .bool false) (y_k rfl rfl (fun _ => by kernel_rfl)) rfl ?_
 refine s_nil (q_then (c_false rfl (c_skip (q_then (c_seq (c_region ?_))))))
 refine s_y rfl (v := .iface 144 (.pointer (some ⟨b, 0, none⟩))) (y_mv rfl) rfl ?_
 refine st rfl (o_boxf (cs := [.pointer (some ⟨b, 0, none⟩)]) (T := 144) (fun b => .agg #[.pointer (some ⟨5, 144, none⟩), .pointer (some ⟨b, 0, none⟩), .int .u64 150]) rfl rfl rfl rfl (fun _ => by kernel_rfl) (fun b1 => ?_))
 refine st rfl (o_box (cs := [.pointer none, .pointer none, .int .u64 0]) (T := 113) rfl rfl rfl rfl (fun _ => by kernel_rfl) (fun b2 => ?_))
 refine st rfl (o_st 0 rfl rfl rfl rfl rfl (by kernel_rfl) (by kernel_rfl) rfl ?_)
 refine s_nil (q_then (c_seq (c_region ?_)))
 refine st rfl (o_ldn 0 3 rfl rfl rfl rfl Tryz.underlying113 rfl (by kernel_rfl) (by kernel_rfl) rfl ?_)
 refine s_y rfl (v := .iface 147 (.agg #[.pointer (some ⟨5, 144, none⟩)])) (y_k rfl rfl (fun _ => by kernel_rfl)) rfl ?_
 refine s_y rfl (v := .iface 147 (.agg #[.pointer (some ⟨5, 144, none⟩)])) (y_as rfl) rfl ?_
 refine s_nil (q_then (c_seq (c_seq (c_region ?_))))
 refine s_y rfl (v := .iface 147 (.agg #[.pointer (some ⟨5, 144, none⟩)])) (y_mv rfl) rfl ?_
 refine s_y rfl (v := .int .u8 22) (y_k rfl rfl (fun _ => by kernel_rfl)) rfl ?_
 refine s_y rfl (v := .bool false) (y_k rfl rfl (fun _ => by kernel_rfl)) rfl ?_
 refine s_y rfl (v := .bool false) (y_mv rfl) rfl ?_
 refine st_on 20 rfl rfl rfl (o_ldn 0 3 rfl rfl rfl rfl Tryz.underlying113 rfl (by kernel_rfl) (by kernel_rfl) rfl ?_)
 refine st_on 20 rfl rfl rfl (o_extr (H := ReflectliteValue.method (ReflectliteValue.valueError "reflectlite.Value.IsNil" 0) ReflectliteValue.isNil) 1 (@run_callFunc_extern Tryz.prog 77 _ (ReflectliteValue.method (ReflectliteValue.valueError "reflectlite.Value.IsNil" 0) ReflectliteValue.isNil) Tryz.func77 (by kernel_rfl) (by kernel_rfl) (by kernel_rfl) (by kernel_rfl)) rfl rfl rfl (fun w hb => run_isNil (fl := 150) (fun w => by kernel_rfl) (by decide) Tryz.underlying144 rfl w hb) rfl ?_)
 refine s_y rfl (v := .bool false) (y_pick rfl rfl) rfl ?_
 refine s_nil (q_then (c_false rfl (c_skip (q_then (c_seq (c_region ?_))))))
 refine s_y rfl (v := .iface 147 (.agg #[.pointer (some ⟨5, 144, none⟩)])) (y_mv rfl) rfl ?_
 refine s_y rfl (v := .iface 147 (.agg #[.pointer (some ⟨5, 131, none⟩)])) (y_k rfl rfl (fun _ => by kernel_rfl)) rfl ?_
 refine s_y rfl (v := .iface 147 (.agg #[.pointer (some ⟨5, 131, none⟩)])) (y_as rfl) rfl ?_
 refine s_nil (q_then (c_seq (c_seq (c_region ?_))))
 refine s_y rfl (v := .iface 147 (.agg #[.pointer (some ⟨5, 131, none⟩)])) (y_mv rfl) rfl ?_
 refine s_y rfl (v := .int .u8 25) (y_k rfl rfl (fun _ => by kernel_rfl)) rfl ?_
 refine s_y rfl (v := .bool true) (y_k rfl rfl (fun _ => by kernel_rfl)) rfl ?_
 refine s_y rfl (v := .bool true) (y_mv rfl) rfl ?_
 refine st_on 30 rfl rfl rfl (o_y (v := .iface 147 (.agg #[.pointer (some ⟨5, 131, none⟩)])) (y_mv rfl) rfl rfl rfl ?_)
 refine st_on 30 rfl rfl rfl (o_ldf 0 0 rfl rfl rfl Tryz.underlying116 rfl rfl ?_)
 refine st_on 30 rfl rfl rfl (o_y (v := .bool true) (y_k rfl rfl (fun _ => by kernel_rfl)) rfl rfl rfl ?_)
 refine st_on 30 rfl rfl rfl (o_y (v := .bool false) (y_k rfl rfl (fun _ => by kernel_rfl)) rfl rfl rfl ?_)
 refine s_y rfl (v := .bool false) (y_pick rfl rfl) rfl ?_
 refine s_nil (q_then (c_false rfl (c_skip (q_then (c_seq (c_region ?_))))))
 refine s_y rfl (v := .iface 131 (.agg #[.iface 180 (.pointer (some a)), .int .i64 (k : Int)])) (y_mv rfl) rfl ?_
 refine s_y rfl (v := .iface 144 (.pointer (some ⟨b, 0, none⟩))) (y_mv rfl) rfl ?_
 refine st rfl (o_ldn 0 3 rfl rfl rfl rfl Tryz.underlying113 rfl (by kernel_rfl) (by kernel_rfl) rfl ?_)
 refine s_y rfl (v := .iface 147 (.agg #[.pointer (some ⟨5, 131, none⟩)])) (y_mv rfl) rfl ?_
 refine st rfl (o_call [2, 1] [] (as_hit_at_ a k b b1) rfl rfl rfl rfl rfl rfl (fun v L' I' hq1 => ?_))
 obtain ⟨rfl, rfl, rfl⟩ := hq1
 refine s_y rfl (v := .bool true) (y_as rfl) rfl ?_
 refine s_nil (q_then (c_ret ?_))
 refine c_fin (I' := []) [0] [0] rfl (.tmp rfl .nil) rfl rfl rfl ?_
 exact ⟨rfl, rfl, rfl⟩
theorem As_nil_at_ (b : Nat) : Con Tryz.prog 48 [.nilIface, .iface 144 (.pointer (some ⟨b, 0, none⟩))] [] [] (fun v L' I' => v = .bool false ∧ L' = [] ∧ I' = []) := by
 refine fn_of Tryz.func48 rfl Tryz.ntmps48 (by kernel_rfl) rfl (fun C => ?_)
 refine c_seq (c_region ?_)
 refine s_y rfl (v := .bool false) (y_as rfl) rfl ?_
 refine s_nil (q_then (c_seq (c_seq (c_region ?_))))
 refine s_y rfl (v := .nilIface) (y_mv rfl) rfl ?_
 refine s_y rfl (v := .bool true) (y_k rfl rfl (fun _ => by kernel_rfl)) rfl ?_
 refine s_nil (q_then (c_true rfl (c_seq (c_region ?_))))
 refine s_y rfl (v := .bool false) (y_as rfl) rfl ?_
 refine s_nil (q_then (c_ret (q_then_ret ?_)))
 refine c_fin (I' := []) [] [] rfl (.tmp rfl .nil) rfl rfl rfl ?_
 exact ⟨rfl, rfl, rfl⟩
theorem as_miss_at_ (a : Addr) (b : Nat) (b1 : Nat) : Con Tryz.prog 78 [.iface 180 (.pointer (some a)), .iface 144 (.pointer (some ⟨b, 0, none⟩)), .agg #[.pointer (some ⟨5, 144, none⟩), .pointer (some ⟨b1, 0, none⟩), .int .u64 150], .iface 147 (.agg #[.pointer (some ⟨5, 131, none⟩)])] [pt b [.nilIface, .int .i64 0] 131, pt b1 [.pointer (some ⟨b, 0, none⟩)] 144] [] (fun v L' I' => v = .bool false ∧ L' = [pt b [.nilIface, .int .i64 0] 131] ∧ I' = []) := by
 refine fn_of Tryz.func78 rfl Tryz.ntmps78 (by kernel_rfl) rfl (fun C => ?_)
 refine c_seq (c_region ?_)
 refine st rfl (o_box (cs := [.pointer (some ⟨5, 144, none⟩), .pointer (some ⟨b1, 0, none⟩), .int .u64 150]) (T := 113) rfl rfl rfl rfl (fun _ => by kernel_rfl) (fun b2 => ?_))
 refine s_y rfl (v := .bool false) (y_as rfl) rfl ?_
 refine s_nil (q_then (c_block ?_))
 refine c_unroll 1 ?_
 refine c_round ?_
 refine c_block (c_seq (c_seq (c_region ?_)))
 refine s_y rfl (v := .iface 180 (.pointer (some a))) (y_mv rfl) rfl ?_
 refine s_y rfl (v := .iface 147 (.agg #[.pointer (some ⟨5, 180, none⟩)])) (y_k rfl rfl (fun _ => by kernel_rfl)) rfl ?_
 refine s_y rfl (v := .iface 147 (.agg #[.pointer (some ⟨5, 131, none⟩)])) (y_mv rfl) rfl ?_
 refine s_y rfl (v := .bool false) (y_k rfl rfl (fun _ => by kernel_rfl)) rfl ?_
 refine s_nil (q_then (c_false rfl (c_skip (q_then (c_seq (c_seq (c_region ?_)))))))
 refine s_y rfl (v := .iface 180 (.pointer (some a))) (y_mv rfl) rfl ?_
 refine s_y rfl (v := .tuple #[.nilIface, .bool false]) (y_lacks rfl Tryz.underlying152 (by kernel_rfl) (by kernel_rfl)) rfl ?_
 refine s_y rfl (v := .tuple #[.nilIface, .bool false]) (y_mv rfl) rfl ?_
 refine s_y rfl (v := .nilIface) (y_k rfl rfl (fun _ => by kernel_rfl)) rfl ?_
 refine s_y rfl (v := .bool false) (y_k rfl rfl (fun _ => by kernel_rfl)) rfl ?_
 refine s_y rfl (v := .nilIface) (y_as rfl) rfl ?_
 refine s_y rfl (v := .bool false) (y_as rfl) rfl ?_
 refine s_nil (q_then (c_seq (c_region ?_)))
 refine s_y rfl (v := .bool false) (y_mv rfl) rfl ?_
 refine s_y rfl (v := .bool false) (y_mv rfl) rfl ?_
 refine st_off 31 rfl rfl rfl rfl rfl rfl ?_
 refine st_off 31 rfl rfl rfl rfl rfl rfl ?_
 refine st_off 31 rfl rfl rfl rfl rfl rfl ?_
 refine s_y rfl (v := .bool false) (y_pick rfl rfl) rfl ?_
 refine s_nil (q_then (c_false rfl (c_skip (q_then (c_seq (c_region ?_))))))
 refine s_y rfl (v := .iface 180 (.pointer (some a))) (y_mv rfl) rfl ?_
 refine s_nil (q_then (c_block (c_seq (c_region ?_))))
 refine s_y rfl (v := .tuple #[.nilIface, .bool false]) (y_lacks rfl Tryz.underlying155 (by kernel_rfl) (by kernel_rfl)) rfl ?_
 refine s_y rfl (v := .bool false) (y_k rfl rfl (fun _ => by kernel_rfl)) rfl ?_
 refine s_y rfl (v := .nilIface) (y_k rfl rfl (fun _ => by kernel_rfl)) rfl ?_
 refine s_nil (q_then (c_false rfl (c_seq (c_region ?_))))
 refine s_y rfl (v := .tuple #[.nilIface, .bool false]) (y_lacks rfl Tryz.underlying157 (by kernel_rfl) (by kernel_rfl)) rfl ?_
 refine s_y rfl (v := .bool false) (y_k rfl rfl (fun _ => by kernel_rfl)) rfl ?_
 refine s_y rfl (v := .nilIface) (y_k rfl rfl (fun _ => by kernel_rfl)) rfl ?_
 refine s_nil (q_then (c_false rfl (c_seq (c_region ?_))))
 refine s_y rfl (v := .iface 180 (.pointer (some a))) (y_as rfl) rfl ?_
 refine s_nil (q_then (c_seq (c_region ?_)))
 refine s_y rfl (v := .bool false) (y_as rfl) rfl ?_
 refine s_nil (q_then (c_ret (q_block_ret (q_block_ret (q_then_ret (q_block_ret ?_))))))
 refine c_fin (I' := []) [1] [] rfl (.tmp rfl .nil) rfl rfl rfl ?_
 exact ⟨rfl, rfl, rfl⟩
theorem As_miss_at_ (a : Addr) (b : Nat) : Con Tryz.prog 48 [.iface 180 (.pointer (some a)), .iface 144 (.pointer (some ⟨b, 0, none⟩))] [pt b [.nilIface, .int .i64 0] 131] [cellsAt 0 0 [.iface 147 (.agg #[.pointer (some ⟨5, 48, none⟩)])]] (fun v L' I' => v = .bool false ∧ L' = [pt b [.nilIface, .int .i64 0] 131] ∧ I' = []) := by
 refine fn_of Tryz.func48 rfl Tryz.ntmps48 (by kernel_rfl) rfl (fun C => ?_)
 refine c_seq (c_region ?_)
 refine s_y rfl (v := .bool false) (y_as rfl) rfl ?_
 refine s_nil (q_then (c_seq (c_seq (c_region ?_))))
 refine s_y rfl (v := .iface 180 (.pointer (some a))) (y_mv rfl) rfl ?_
 refine s_y rfl (v := .bool false) (y_k rfl rfl (fun _ => by kernel_rfl)) rfl ?_
 refine s_nil (q_then (c_false rfl (c_skip (q_then (c_seq (c_seq (c_region ?_)))))))
 refine s_y rfl (v := .iface 144 (.pointer (some ⟨b, 0, none⟩))) (y_mv rfl) rfl ?_
 refine s_y rfl (v := .bool false) (y_k rfl rfl (fun _ => by kernel_rfl)) rfl ?_
 refine s_nil (q_then (c_false rfl (c_skip (q_then (c_seq (c_region ?_))))))
 refine s_y rfl (v := .iface 144 (.pointer (some ⟨b, 0, none⟩))) (y_mv rfl) rfl ?_
 refine st rfl (o_boxf (cs := [.pointer (some ⟨b, 0, none⟩)]) (T := 144) (fun b => .agg #[.pointer (some ⟨5, 144, none⟩), .pointer (some ⟨b, 0, none⟩), .int .u64 150]) rfl rfl rfl rfl (fun _ => by kernel_rfl) (fun b1 => ?_))
 refine st rfl (o_box (cs := [.pointer none, .pointer none, .int .u64 0]) (T := 113) rfl rfl rfl rfl (fun _ => by kernel_rfl) (fun b2 => ?_))
 refine st rfl (o_st 0 rfl rfl rfl rfl rfl (by kernel_rfl) (by kernel_rfl) rfl ?_)
 refine s_nil (q_then (c_seq (c_region ?_)))
 refine st rfl (o_ldn 0 3 rfl rfl rfl rfl Tryz.underlying113 rfl (by kernel_rfl) (by kernel_rfl) rfl ?_)
 refine s_y rfl (v := .iface 147 (.agg #[.pointer (some ⟨5, 144, none⟩)])) (y_k rfl rfl (fun _ => by kernel_rfl)) rfl ?_
 refine s_y rfl (v := .iface 147 (.agg #[.pointer (some ⟨5, 144, none⟩)])) (y_as rfl) rfl ?_
 refine s_nil (q_then (c_seq (c_seq (c_region ?_))))
 refine s_y rfl (v := .iface 147 (.agg #[.pointer (some ⟨5, 144, none⟩)])) (y_mv rfl) rfl ?_
 refine s_y rfl (v := .int .u8 22) (y_k rfl rfl (fun _ => by kernel_rfl)) rfl ?_
 refine s_y rfl (v := .bool false) (y_k rfl rfl (fun _ => by kernel_rfl)) rfl ?_
 refine s_y rfl (v := .bool false) (y_mv rfl) rfl ?_
 refine st_on 20 rfl rfl rfl (o_ldn 0 3 rfl rfl rfl rfl Tryz.underlying113 rfl (by kernel_rfl) (by kernel_rfl) rfl ?_)
 refine st_on 20 rfl rfl rfl (o_extr (H := ReflectliteValue.method (ReflectliteValue.valueError "reflectlite.Value.IsNil" 0) ReflectliteValue.isNil) 1 (@run_callFunc_extern Tryz.prog 77 _ (ReflectliteValue.method (ReflectliteValue.valueError "reflectlite.Value.IsNil" 0) ReflectliteValue.isNil) Tryz.func77 (by kernel_rfl) (by kernel_rfl) (by kernel_rfl) (by kernel_rfl)) rfl rfl rfl (fun w hb => run_isNil (fl := 150) (fun w => by kernel_rfl) (by decide) Tryz.underlying144 rfl w hb) rfl ?_)
 refine s_y rfl (v := .bool false) (y_pick rfl rfl) rfl ?_
 refine s_nil (q_then (c_false rfl (c_skip (q_then (c_seq (c_region ?_))))))
 refine s_y rfl (v := .iface 147 (.agg #[.pointer (some ⟨5, 144, none⟩)])) (y_mv rfl) rfl ?_
 refine s_y rfl (v := .iface 147 (.agg #[.pointer (some ⟨5, 131, none⟩)])) (y_k rfl rfl (fun _ => by kernel_rfl)) rfl ?_
 refine s_y rfl (v := .iface 147 (.agg #[.pointer (some ⟨5, 131, none⟩)])) (y_as rfl) rfl ?_
 refine s_nil (q_then (c_seq (c_seq (c_region ?_))))
 refine s_y rfl (v := .iface 147 (.agg #[.pointer (some ⟨5, 131, none⟩)])) (y_mv rfl) rfl ?_
 refine s_y rfl (v := .int .u8 25) (y_k rfl rfl (fun _ => by kernel_rfl)) rfl ?_
 refine s_y rfl (v := .bool true) (y_k rfl rfl (fun _ => by kernel_rfl)) rfl ?_
 refine s_y rfl (v := .bool true) (y_mv rfl) rfl ?_
 refine st_on 30 rfl rfl rfl (o_y (v := .iface 147 (.agg #[.pointer (some ⟨5, 131, none⟩)])) (y_mv rfl) rfl rfl rfl ?_)
 refine st_on 30 rfl rfl rfl (o_ldf 0 0 rfl rfl rfl Tryz.underlying116 rfl rfl ?_)
 refine st_on 30 rfl rfl rfl (o_y (v := .bool true) (y_k rfl rfl (fun _ => by kernel_rfl)) rfl rfl rfl ?_)
 refine st_on 30 rfl rfl rfl (o_y (v := .bool false) (y_k rfl rfl (fun _ => by kernel_rfl)) rfl rfl rfl ?_)
 refine s_y rfl (v := .bool false) (y_pick rfl rfl) rfl ?_
 refine s_nil (q_then (c_false rfl (c_skip (q_then (c_seq (c_region ?_))))))
 refine s_y rfl (v := .iface 180 (.pointer (some a))) (y_mv rfl) rfl ?_
 refine s_y rfl (v := .iface 144 (.pointer (some ⟨b, 0, none⟩))) (y_mv rfl) rfl ?_
 refine st rfl (o_ldn 0 3 rfl rfl rfl rfl Tryz.underlying113 rfl (by kernel_rfl) (by kernel_rfl) rfl ?_)
 refine s_y rfl (v := .iface 147 (.agg #[.pointer (some ⟨5, 131, none⟩)])) (y_mv rfl) rfl ?_
 refine st rfl (o_call [2, 1] [] (as_miss_at_ a b b1) rfl rfl rfl rfl rfl rfl (fun v L' I' hq1 => ?_))
 obtain ⟨rfl, rfl, rfl⟩ := hq1
 refine s_y rfl (v := .bool false) (y_as rfl) rfl ?_
 refine s_nil (q_then (c_ret ?_))
 refine c_fin (I' := []) [0] [0] rfl (.tmp rfl .nil) rfl rfl rfl ?_
 exact ⟨rfl, rfl, rfl⟩
end Go.Proofs.YtcnncdniibkjkaaGreatDoor
