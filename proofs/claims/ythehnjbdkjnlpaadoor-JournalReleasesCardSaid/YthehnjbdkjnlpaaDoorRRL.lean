/- The laws of chapter 15 (journal), walked over the given program; no condition but what stands in each theorem: part RL. -/
import Derived.Test.YthehnjbdkjnlpaaDoorRAB
set_option linter.unusedVariables false
set_option linter.unusedSimpArgs false
set_option maxRecDepth 100000
set_option maxHeartbeats 8000000
namespace Go.Proofs.YthehnjbdkjnlpaaDoor
open Go Go.Sl Go.RowKit Go.Extern.Stop Go.Stop Go.Extern
/-- A pointer to a block of errors.New's make. -/
def errAt (a : Addr) : Atom := fun h => ∃ c t, h a.block = some (.cells c t (0, 0))
theorem is1_same_ (a : Addr) : Con Tryd.prog 61 [.iface 154 (.pointer (some a)), .iface 154 (.pointer (some a)), .bool true] [] [] (fun v L' I' => v = .bool true ∧ L' = [] ∧ I' = []) := by
 refine fn_of Tryd.func61 rfl Tryd.ntmps61 (by kernel_rfl) rfl (fun C => ?_)
 refine c_seq (c_region ?_)
 refine s_y rfl (v := .bool false) (y_as rfl) rfl ?_
 refine s_nil (q_then (c_block ?_))
 refine c_unroll 2 ?_
 refine c_round ?_
 refine c_block (c_seq (c_seq (c_region ?_)))
 refine s_y rfl (v := .bool true) (y_mv rfl) rfl ?_
 refine s_y rfl (v := .bool true) (y_mv rfl) rfl ?_
 refine st_on 15 rfl rfl rfl (o_y (v := .iface 154 (.pointer (some a))) (y_mv rfl) rfl rfl rfl ?_)
 refine st_on 15 rfl rfl rfl (o_y (v := .iface 154 (.pointer (some a))) (y_mv rfl) rfl rfl rfl ?_)
 refine st_on 15 rfl rfl rfl (o_y (v := .bool true) (y_ifsame rfl rfl Tryd.underlying57 Tryd.underlying154 (by kernel_rfl) (by kernel_rfl)) rfl rfl rfl ?_)
 refine s_y rfl (v := .bool true) (y_pick rfl rfl) rfl ?_
 refine s_nil (q_then (c_true rfl (c_seq (c_region ?_))))
 refine s_y rfl (v := .bool true) (y_as rfl) rfl ?_
 refine s_nil (q_then (c_ret (q_then_ret (q_block_ret (q_then_ret (q_block_ret ?_))))))
 refine c_fin (I' := []) [] [] rfl (.tmp rfl .nil) rfl rfl rfl ?_
 exact ⟨rfl, rfl, rfl⟩
theorem is1_other_ (a : Addr) (b : Addr) (hne : a ≠ b) : Con Tryd.prog 61 [.iface 154 (.pointer (some a)), .iface 154 (.pointer (some b)), .bool true] [] [errAt a, errAt b] (fun v L' I' => v = .bool false ∧ L' = [] ∧ I' = []) := by
 refine fn_of Tryd.func61 rfl Tryd.ntmps61 (by kernel_rfl) rfl (fun C => ?_)
 refine c_seq (c_region ?_)
 refine s_y rfl (v := .bool false) (y_as rfl) rfl ?_
 refine s_nil (q_then (c_block ?_))
 refine c_unroll 2 ?_
 refine c_round ?_
 refine c_block (c_seq (c_seq (c_region ?_)))
 refine s_y rfl (v := .bool true) (y_mv rfl) rfl ?_
 refine s_y rfl (v := .bool true) (y_mv rfl) rfl ?_
 refine st_on 15 rfl rfl rfl (o_y (v := .iface 154 (.pointer (some a))) (y_mv rfl) rfl rfl rfl ?_)
 refine st_on 15 rfl rfl rfl (o_y (v := .iface 154 (.pointer (some b))) (y_mv rfl) rfl rfl rfl ?_)
 refine st_on 15 rfl rfl rfl (o_ifother 0 1 rfl rfl (by first | assumption | exact Ne.symm (by assumption)) rfl rfl (fun _ h => h) (fun _ h => h) Tryd.underlying57 Tryd.underlying154 (by kernel_rfl) (by kernel_rfl) rfl ?_)
 refine s_y rfl (v := .bool false) (y_pick rfl rfl) rfl ?_
 refine s_nil (q_then (c_false rfl (c_skip (q_then (c_seq (c_seq (c_region ?_)))))))
 refine s_y rfl (v := .iface 154 (.pointer (some a))) (y_mv rfl) rfl ?_
 refine s_y rfl (v := .tuple #[.nilIface, .bool false]) (y_lacks rfl Tryd.underlying123 (by kernel_rfl) (by kernel_rfl)) rfl ?_
 refine s_y rfl (v := .tuple #[.nilIface, .bool false]) (y_mv rfl) rfl ?_
 refine s_y rfl (v := .nilIface) (y_k rfl rfl (fun _ => by kernel_rfl)) rfl ?_
 refine s_y rfl (v := .bool false) (y_k rfl rfl (fun _ => by kernel_rfl)) rfl ?_
 refine s_y rfl (v := .nilIface) (y_as rfl) rfl ?_
 refine s_y rfl (v := .bool false) (y_as rfl) rfl ?_
 refine s_nil (q_then (c_seq (c_region ?_)))
 refine s_y rfl (v := .bool false) (y_mv rfl) rfl ?_
 refine s_y rfl (v := .bool false) (y_mv rfl) rfl ?_
 refine st_off 26 rfl rfl rfl rfl rfl rfl ?_
 refine st_off 26 rfl rfl rfl rfl rfl rfl ?_
 refine st_off 26 rfl rfl rfl rfl rfl rfl ?_
 refine s_y rfl (v := .bool false) (y_pick rfl rfl) rfl ?_
 refine s_nil (q_then (c_false rfl (c_skip (q_then (c_seq (c_region ?_))))))
 refine s_y rfl (v := .iface 154 (.pointer (some a))) (y_mv rfl) rfl ?_
 refine s_nil (q_then (c_block (c_seq (c_region ?_))))
 refine s_y rfl (v := .tuple #[.nilIface, .bool false]) (y_lacks rfl Tryd.underlying126 (by kernel_rfl) (by kernel_rfl)) rfl ?_
 refine s_y rfl (v := .bool false) (y_k rfl rfl (fun _ => by kernel_rfl)) rfl ?_
 refine s_y rfl (v := .nilIface) (y_k rfl rfl (fun _ => by kernel_rfl)) rfl ?_
 refine s_nil (q_then (c_false rfl (c_seq (c_region ?_))))
 refine s_y rfl (v := .tuple #[.nilIface, .bool false]) (y_lacks rfl Tryd.underlying127 (by kernel_rfl) (by kernel_rfl)) rfl ?_
 refine s_y rfl (v := .bool false) (y_k rfl rfl (fun _ => by kernel_rfl)) rfl ?_
 refine s_y rfl (v := .nilIface) (y_k rfl rfl (fun _ => by kernel_rfl)) rfl ?_
 refine s_nil (q_then (c_false rfl (c_seq (c_region ?_))))
 refine s_y rfl (v := .iface 154 (.pointer (some a))) (y_as rfl) rfl ?_
 refine s_nil (q_then (c_seq (c_region ?_)))
 refine s_y rfl (v := .bool false) (y_as rfl) rfl ?_
 refine s_nil (q_then (c_ret (q_block_ret (q_block_ret (q_then_ret (q_block_ret ?_))))))
 refine c_fin (I' := []) [] [0, 1] rfl (.tmp rfl .nil) rfl rfl rfl ?_
 exact ⟨rfl, rfl, rfl⟩
theorem is_nil_ (b : Addr) : Con Tryd.prog 50 [.nilIface, .iface 154 (.pointer (some b))] [] [] (fun v L' I' => v = .bool false ∧ L' = [] ∧ I' = []) := by
 refine fn_of Tryd.func50 rfl Tryd.ntmps50 (by kernel_rfl) rfl (fun C => ?_)
 refine c_seq (c_region ?_)
 refine s_y rfl (v := .bool false) (y_as rfl) rfl ?_
 refine s_nil (q_then (c_seq (c_seq (c_region ?_))))
 refine s_y rfl (v := .nilIface) (y_mv rfl) rfl ?_
 refine s_y rfl (v := .bool true) (y_k rfl rfl (fun _ => by kernel_rfl)) rfl ?_
 refine s_y rfl (v := .bool true) (y_mv rfl) rfl ?_
 refine st_off 8 rfl rfl rfl rfl rfl rfl ?_
 refine st_off 8 rfl rfl rfl rfl rfl rfl ?_
 refine s_y rfl (v := .bool true) (y_pick rfl rfl) rfl ?_
 refine s_nil (q_then (c_true rfl (c_seq (c_region ?_))))
 refine s_y rfl (v := .nilIface) (y_mv rfl) rfl ?_
 refine s_y rfl (v := .iface 154 (.pointer (some b))) (y_mv rfl) rfl ?_
 refine s_y rfl (v := .bool false) (y_k rfl rfl (fun _ => by kernel_rfl)) rfl ?_
 refine s_y rfl (v := .bool false) (y_as rfl) rfl ?_
 refine s_nil (q_then (c_ret (q_then_ret ?_)))
 refine c_fin (I' := []) [] [] rfl (.tmp rfl .nil) rfl rfl rfl ?_
 exact ⟨rfl, rfl, rfl⟩
theorem is_same_ (a : Addr) : Con Tryd.prog 50 [.iface 154 (.pointer (some a)), .iface 154 (.pointer (some a))] [] [] (fun v L' I' => v = .bool true ∧ L' = [] ∧ I' = []) := by
 refine fn_of Tryd.func50 rfl Tryd.ntmps50 (by kernel_rfl) rfl (fun C => ?_)
 refine c_seq (c_region ?_)
 refine s_y rfl (v := .bool false) (y_as rfl) rfl ?_
 refine s_nil (q_then (c_seq (c_seq (c_region ?_))))
 refine s_y rfl (v := .iface 154 (.pointer (some a))) (y_mv rfl) rfl ?_
 refine s_y rfl (v := .bool false) (y_k rfl rfl (fun _ => by kernel_rfl)) rfl ?_
 refine s_y rfl (v := .bool false) (y_mv rfl) rfl ?_
 refine st_on 8 rfl rfl rfl (o_y (v := .iface 154 (.pointer (some a))) (y_mv rfl) rfl rfl rfl ?_)
 refine st_on 8 rfl rfl rfl (o_y (v := .bool false) (y_k rfl rfl (fun _ => by kernel_rfl)) rfl rfl rfl ?_)
 refine s_y rfl (v := .bool false) (y_pick rfl rfl) rfl ?_
 refine s_nil (q_then (c_false rfl (c_skip (q_then (c_seq (c_region ?_))))))
 refine s_y rfl (v := .iface 154 (.pointer (some a))) (y_mv rfl) rfl ?_
 refine s_y rfl (v := .iface 121 (.agg #[.pointer (some ⟨4, 154, none⟩)])) (y_k rfl rfl (fun _ => by kernel_rfl)) rfl ?_
 refine s_y rfl (v := .bool true) (y_k rfl rfl (fun _ => by kernel_rfl)) rfl ?_
 refine s_y rfl (v := .bool true) (y_as rfl) rfl ?_
 refine s_nil (q_then (c_seq (c_region ?_)))
 refine s_y rfl (v := .iface 154 (.pointer (some a))) (y_mv rfl) rfl ?_
 refine s_y rfl (v := .iface 154 (.pointer (some a))) (y_mv rfl) rfl ?_
 refine s_y rfl (v := .bool true) (y_mv rfl) rfl ?_
 refine st rfl (o_call [] [] (is1_same_ a) rfl rfl rfl rfl rfl rfl (fun v L' I' hq1 => ?_))
 obtain ⟨rfl, rfl, rfl⟩ := hq1
 refine s_y rfl (v := .bool true) (y_as rfl) rfl ?_
 refine s_nil (q_then (c_ret ?_))
 refine c_fin (I' := []) [] [] rfl (.tmp rfl .nil) rfl rfl rfl ?_
 exact ⟨rfl, rfl, rfl⟩
theorem is_other_ (a : Addr) (b : Addr) (hne : a ≠ b) : Con Tryd.prog 50 [.iface 154 (.pointer (some a)), .iface 154 (.pointer (some b))] [] [errAt a, errAt b] (fun v L' I' => v = .bool false ∧ L' = [] ∧ I' = []) := by
 refine fn_of Tryd.func50 rfl Tryd.ntmps50 (by kernel_rfl) rfl (fun C => ?_)
 refine c_seq (c_region ?_)
 refine s_y rfl (v := .bool false) (y_as rfl) rfl ?_
 refine s_nil (q_then (c_seq (c_seq (c_region ?_))))
 refine s_y rfl (v := .iface 154 (.pointer (some a))) (y_mv rfl) rfl ?_
 refine s_y rfl (v := .bool false) (y_k rfl rfl (fun _ => by kernel_rfl)) rfl ?_
 refine s_y rfl (v := .bool false) (y_mv rfl) rfl ?_
 refine st_on 8 rfl rfl rfl (o_y (v := .iface 154 (.pointer (some b))) (y_mv rfl) rfl rfl rfl ?_)
 refine st_on 8 rfl rfl rfl (o_y (v := .bool false) (y_k rfl rfl (fun _ => by kernel_rfl)) rfl rfl rfl ?_)
 refine s_y rfl (v := .bool false) (y_pick rfl rfl) rfl ?_
 refine s_nil (q_then (c_false rfl (c_skip (q_then (c_seq (c_region ?_))))))
 refine s_y rfl (v := .iface 154 (.pointer (some b))) (y_mv rfl) rfl ?_
 refine s_y rfl (v := .iface 121 (.agg #[.pointer (some ⟨4, 154, none⟩)])) (y_k rfl rfl (fun _ => by kernel_rfl)) rfl ?_
 refine s_y rfl (v := .bool true) (y_k rfl rfl (fun _ => by kernel_rfl)) rfl ?_
 refine s_y rfl (v := .bool true) (y_as rfl) rfl ?_
 refine s_nil (q_then (c_seq (c_region ?_)))
 refine s_y rfl (v := .iface 154 (.pointer (some a))) (y_mv rfl) rfl ?_
 refine s_y rfl (v := .iface 154 (.pointer (some b))) (y_mv rfl) rfl ?_
 refine s_y rfl (v := .bool true) (y_mv rfl) rfl ?_
 refine st rfl (o_call [] [0, 1] (is1_other_ a b (by first | assumption | exact Ne.symm (by assumption))) rfl rfl rfl rfl rfl rfl (fun v L' I' hq1 => ?_))
 obtain ⟨rfl, rfl, rfl⟩ := hq1
 refine s_y rfl (v := .bool false) (y_as rfl) rfl ?_
 refine s_nil (q_then (c_ret ?_))
 refine c_fin (I' := []) [] [0, 1] rfl (.tmp rfl .nil) rfl rfl rfl ?_
 exact ⟨rfl, rfl, rfl⟩
theorem labRight_ (a : Lab) : Con Tryd.prog 56 [.agg #[.int .i64 a.lv, .int .u64 (a.cs : Int), .int .i64 a.ig]] [] [] (fun v L' I' => v = .bool (decide (labRight a)) ∧ L' = [] ∧ I' = []) := by
 refine fn_of Tryd.func56 rfl Tryd.ntmps56 (by kernel_rfl) rfl (fun C => ?_)
 refine c_seq (c_region ?_)
 refine st rfl (o_box (cs := [.int .i64 a.lv, .int .u64 (a.cs : Int), .int .i64 a.ig]) (T := 26) rfl rfl rfl rfl (fun _ => by kernel_rfl) (fun b1 => ?_))
 refine s_y rfl (v := .bool false) (y_as rfl) rfl ?_
 refine s_nil (q_then (c_seq (c_region ?_)))
 refine s_y rfl (v := .pointer (some ⟨b1, 0, none⟩)) (y_k rfl rfl (fun _ => by kernel_rfl)) rfl ?_
 refine st rfl (o_ld 0 rfl rfl rfl Tryd.underlying3 rfl rfl ?_)
 refine e_by (a.lv ≥ 0) (fun h1 => ?_) (fun h1 => ?_)
 ·
  refine s_y rfl (v := .bool true) (y_t (y_k (v := .bool (decide (a.lv ≥ 0))) rfl rfl (fun _ => by kernel_rfl)) h1) rfl ?_
  refine s_y rfl (v := .bool true) (y_mv rfl) rfl ?_
  refine st_on 6 rfl rfl rfl (o_y (v := .pointer (some ⟨b1, 0, none⟩)) (y_k rfl rfl (fun _ => by kernel_rfl)) rfl rfl rfl ?_)
  refine st_on 6 rfl rfl rfl (o_ld 0 rfl rfl rfl Tryd.underlying3 rfl rfl ?_)
  refine e_by (a.lv ≤ 15) (fun h2 => ?_) (fun h2 => ?_)
  ·
   refine st_on 6 rfl rfl rfl (o_y (v := .bool true) (y_t (y_k (v := .bool (decide (a.lv ≤ 15))) rfl rfl (fun _ => by kernel_rfl)) h2) rfl rfl rfl ?_)
   refine s_y rfl (v := .bool true) (y_pick rfl rfl) rfl ?_
   refine s_y rfl (v := .bool true) (y_mv rfl) rfl ?_
   refine st_on 11 rfl rfl rfl (o_y (v := .pointer (some ⟨b1, 2, none⟩)) (y_k rfl rfl (fun _ => by kernel_rfl)) rfl rfl rfl ?_)
   refine st_on 11 rfl rfl rfl (o_ld 0 rfl rfl rfl Tryd.underlying3 rfl rfl ?_)
   refine e_by (a.ig ≥ 0) (fun h3 => ?_) (fun h3 => ?_)
   ·
    refine st_on 11 rfl rfl rfl (o_y (v := .bool true) (y_t (y_k (v := .bool (decide (a.ig ≥ 0))) rfl rfl (fun _ => by kernel_rfl)) h3) rfl rfl rfl ?_)
    refine s_y rfl (v := .bool true) (y_pick rfl rfl) rfl ?_
    refine s_y rfl (v := .bool true) (y_mv rfl) rfl ?_
    refine st_on 16 rfl rfl rfl (o_y (v := .pointer (some ⟨b1, 2, none⟩)) (y_k rfl rfl (fun _ => by kernel_rfl)) rfl rfl rfl ?_)
    refine st_on 16 rfl rfl rfl (o_ld 0 rfl rfl rfl Tryd.underlying3 rfl rfl ?_)
    refine e_by (a.ig ≤ 7) (fun h4 => ?_) (fun h4 => ?_)
    ·
     refine st_on 16 rfl rfl rfl (o_y (v := .bool true) (y_t (y_k (v := .bool (decide (a.ig ≤ 7))) rfl rfl (fun _ => by kernel_rfl)) h4) rfl rfl rfl ?_)
     refine s_y rfl (v := .bool true) (y_pick rfl rfl) rfl ?_
     refine s_y rfl (v := .bool true) (y_as rfl) rfl ?_
     refine s_nil (q_then (c_ret ?_))
     refine c_fin (I' := []) [] [] rfl (.tmp rfl .nil) rfl rfl rfl ?_
     exact ⟨dec_t (by unfold labRight; omega), rfl, rfl⟩
    ·
     refine st_on 16 rfl rfl rfl (o_y (v := .bool false) (y_f (y_k (v := .bool (decide (a.ig ≤ 7))) rfl rfl (fun _ => by kernel_rfl)) h4) rfl rfl rfl ?_)
     refine s_y rfl (v := .bool false) (y_pick rfl rfl) rfl ?_
     refine s_y rfl (v := .bool false) (y_as rfl) rfl ?_
     refine s_nil (q_then (c_ret ?_))
     refine c_fin (I' := []) [] [] rfl (.tmp rfl .nil) rfl rfl rfl ?_
     exact ⟨dec_f (by unfold labRight; omega), rfl, rfl⟩
   ·
    refine st_on 11 rfl rfl rfl (o_y (v := .bool false) (y_f (y_k (v := .bool (decide (a.ig ≥ 0))) rfl rfl (fun _ => by kernel_rfl)) h3) rfl rfl rfl ?_)
    refine s_y rfl (v := .bool false) (y_pick rfl rfl) rfl ?_
    refine s_y rfl (v := .bool false) (y_mv rfl) rfl ?_
    refine st_off 16 rfl rfl rfl rfl rfl rfl ?_
    refine st_off 16 rfl rfl rfl rfl rfl rfl ?_
    refine st_off 16 rfl rfl rfl rfl rfl rfl ?_
    refine s_y rfl (v := .bool false) (y_pick rfl rfl) rfl ?_
    refine s_y rfl (v := .bool false) (y_as rfl) rfl ?_
    refine s_nil (q_then (c_ret ?_))
    refine c_fin (I' := []) [] [] rfl (.tmp rfl .nil) rfl rfl rfl ?_
    exact ⟨dec_f (by unfold labRight; omega), rfl, rfl⟩
  ·
   refine st_on 6 rfl rfl rfl (o_y (v := .bool false) (y_f (y_k (v := .bool (decide (a.lv ≤ 15))) rfl rfl (fun _ => by kernel_rfl)) h2) rfl rfl rfl ?_)
   refine s_y rfl (v := .bool false) (y_pick rfl rfl) rfl ?_
   refine s_y rfl (v := .bool false) (y_mv rfl) rfl ?_
   refine st_off 11 rfl rfl rfl rfl rfl rfl ?_
   refine st_off 11 rfl rfl rfl rfl rfl rfl ?_
   refine st_off 11 rfl rfl rfl rfl rfl rfl ?_
   refine s_y rfl (v := .bool false) (y_pick rfl rfl) rfl ?_
   refine s_y rfl (v := .bool false) (y_mv rfl) rfl ?_
   refine st_off 16 rfl rfl rfl rfl rfl rfl ?_
   refine st_off 16 rfl rfl rfl rfl rfl rfl ?_
   refine st_off 16 rfl rfl rfl rfl rfl rfl ?_
   refine s_y rfl (v := .bool false) (y_pick rfl rfl) rfl ?_
   refine s_y rfl (v := .bool false) (y_as rfl) rfl ?_
   refine s_nil (q_then (c_ret ?_))
   refine c_fin (I' := []) [] [] rfl (.tmp rfl .nil) rfl rfl rfl ?_
   exact ⟨dec_f (by unfold labRight; omega), rfl, rfl⟩
 ·
  refine s_y rfl (v := .bool false) (y_f (y_k (v := .bool (decide (a.lv ≥ 0))) rfl rfl (fun _ => by kernel_rfl)) h1) rfl ?_
  refine s_y rfl (v := .bool false) (y_mv rfl) rfl ?_
  refine st_off 6 rfl rfl rfl rfl rfl rfl ?_
  refine st_off 6 rfl rfl rfl rfl rfl rfl ?_
  refine st_off 6 rfl rfl rfl rfl rfl rfl ?_
  refine s_y rfl (v := .bool false) (y_pick rfl rfl) rfl ?_
  refine s_y rfl (v := .bool false) (y_mv rfl) rfl ?_
  refine st_off 11 rfl rfl rfl rfl rfl rfl ?_
  refine st_off 11 rfl rfl rfl rfl rfl rfl ?_
  refine st_off 11 rfl rfl rfl rfl rfl rfl ?_
  refine s_y rfl (v := .bool false) (y_pick rfl rfl) rfl ?_
  refine s_y rfl (v := .bool false) (y_mv rfl) rfl ?_
  refine st_off 16 rfl rfl rfl rfl rfl rfl ?_
  refine st_off 16 rfl rfl rfl rfl rfl rfl ?_
  refine st_off 16 rfl rfl rfl rfl rfl rfl ?_
  refine s_y rfl (v := .bool false) (y_pick rfl rfl) rfl ?_
  refine s_y rfl (v := .bool false) (y_as rfl) rfl ?_
  refine s_nil (q_then (c_ret ?_))
  refine c_fin (I' := []) [] [] rfl (.tmp rfl .nil) rfl rfl rfl ?_
  exact ⟨dec_f (by unfold labRight; omega), rfl, rfl⟩
theorem rlabRight_ (a : Lab) : Con Tryd.prog 77 [.agg #[.int .i64 a.lv, .int .u64 (a.cs : Int), .int .i64 a.ig]] [] [] (fun v L' I' => v = .bool (decide (labRight a)) ∧ L' = [] ∧ I' = []) := by
 refine fn_of Tryd.func77 rfl Tryd.ntmps77 (by kernel_rfl) rfl (fun C => ?_)
 refine c_seq (c_region ?_)
 refine st rfl (o_box (cs := [.int .i64 a.lv, .int .u64 (a.cs : Int), .int .i64 a.ig]) (T := 26) rfl rfl rfl rfl (fun _ => by kernel_rfl) (fun b1 => ?_))
 refine s_y rfl (v := .bool false) (y_as rfl) rfl ?_
 refine s_nil (q_then (c_seq (c_region ?_)))
 refine s_y rfl (v := .pointer (some ⟨b1, 0, none⟩)) (y_k rfl rfl (fun _ => by kernel_rfl)) rfl ?_
 refine st rfl (o_ld 0 rfl rfl rfl Tryd.underlying3 rfl rfl ?_)
 refine e_by (a.lv ≥ 0) (fun h1 => ?_) (fun h1 => ?_)
 ·
  refine s_y rfl (v := .bool true) (y_t (y_k (v := .bool (decide (a.lv ≥ 0))) rfl rfl (fun _ => by kernel_rfl)) h1) rfl ?_
  refine s_y rfl (v := .bool true) (y_mv rfl) rfl ?_
  refine st_on 6 rfl rfl rfl (o_y (v := .pointer (some ⟨b1, 0, none⟩)) (y_k rfl rfl (fun _ => by kernel_rfl)) rfl rfl rfl ?_)
  refine st_on 6 rfl rfl rfl (o_ld 0 rfl rfl rfl Tryd.underlying3 rfl rfl ?_)
  refine e_by (a.lv ≤ 15) (fun h2 => ?_) (fun h2 => ?_)
  ·
   refine st_on 6 rfl rfl rfl (o_y (v := .bool true) (y_t (y_k (v := .bool (decide (a.lv ≤ 15))) rfl rfl (fun _ => by kernel_rfl)) h2) rfl rfl rfl ?_)
   refine s_y rfl (v := .bool true) (y_pick rfl rfl) rfl ?_
   refine s_y rfl (v := .bool true) (y_mv rfl) rfl ?_
   refine st_on 11 rfl rfl rfl (o_y (v := .pointer (some ⟨b1, 2, none⟩)) (y_k rfl rfl (fun _ => by kernel_rfl)) rfl rfl rfl ?_)
   refine st_on 11 rfl rfl rfl (o_ld 0 rfl rfl rfl Tryd.underlying3 rfl rfl ?_)
   refine e_by (a.ig ≥ 0) (fun h3 => ?_) (fun h3 => ?_)
   ·
    refine st_on 11 rfl rfl rfl (o_y (v := .bool true) (y_t (y_k (v := .bool (decide (a.ig ≥ 0))) rfl rfl (fun _ => by kernel_rfl)) h3) rfl rfl rfl ?_)
    refine s_y rfl (v := .bool true) (y_pick rfl rfl) rfl ?_
    refine s_y rfl (v := .bool true) (y_mv rfl) rfl ?_
    refine st_on 16 rfl rfl rfl (o_y (v := .pointer (some ⟨b1, 2, none⟩)) (y_k rfl rfl (fun _ => by kernel_rfl)) rfl rfl rfl ?_)
    refine st_on 16 rfl rfl rfl (o_ld 0 rfl rfl rfl Tryd.underlying3 rfl rfl ?_)
    refine e_by (a.ig ≤ 7) (fun h4 => ?_) (fun h4 => ?_)
    ·
     refine st_on 16 rfl rfl rfl (o_y (v := .bool true) (y_t (y_k (v := .bool (decide (a.ig ≤ 7))) rfl rfl (fun _ => by kernel_rfl)) h4) rfl rfl rfl ?_)
     refine s_y rfl (v := .bool true) (y_pick rfl rfl) rfl ?_
     refine s_y rfl (v := .bool true) (y_as rfl) rfl ?_
     refine s_nil (q_then (c_ret ?_))
     refine c_fin (I' := []) [] [] rfl (.tmp rfl .nil) rfl rfl rfl ?_
     exact ⟨dec_t (by unfold labRight; omega), rfl, rfl⟩
    ·
     refine st_on 16 rfl rfl rfl (o_y (v := .bool false) (y_f (y_k (v := .bool (decide (a.ig ≤ 7))) rfl rfl (fun _ => by kernel_rfl)) h4) rfl rfl rfl ?_)
     refine s_y rfl (v := .bool false) (y_pick rfl rfl) rfl ?_
     refine s_y rfl (v := .bool false) (y_as rfl) rfl ?_
     refine s_nil (q_then (c_ret ?_))
     refine c_fin (I' := []) [] [] rfl (.tmp rfl .nil) rfl rfl rfl ?_
     exact ⟨dec_f (by unfold labRight; omega), rfl, rfl⟩
   ·
    refine st_on 11 rfl rfl rfl (o_y (v := .bool false) (y_f (y_k (v := .bool (decide (a.ig ≥ 0))) rfl rfl (fun _ => by kernel_rfl)) h3) rfl rfl rfl ?_)
    refine s_y rfl (v := .bool false) (y_pick rfl rfl) rfl ?_
    refine s_y rfl (v := .bool false) (y_mv rfl) rfl ?_
    refine st_off 16 rfl rfl rfl rfl rfl rfl ?_
    refine st_off 16 rfl rfl rfl rfl rfl rfl ?_
    refine st_off 16 rfl rfl rfl rfl rfl rfl ?_
    refine s_y rfl (v := .bool false) (y_pick rfl rfl) rfl ?_
    refine s_y rfl (v := .bool false) (y_as rfl) rfl ?_
    refine s_nil (q_then (c_ret ?_))
    refine c_fin (I' := []) [] [] rfl (.tmp rfl .nil) rfl rfl rfl ?_
    exact ⟨dec_f (by unfold labRight; omega), rfl, rfl⟩
  ·
   refine st_on 6 rfl rfl rfl (o_y (v := .bool false) (y_f (y_k (v := .bool (decide (a.lv ≤ 15))) rfl rfl (fun _ => by kernel_rfl)) h2) rfl rfl rfl ?_)
   refine s_y rfl (v := .bool false) (y_pick rfl rfl) rfl ?_
   refine s_y rfl (v := .bool false) (y_mv rfl) rfl ?_
   refine st_off 11 rfl rfl rfl rfl rfl rfl ?_
   refine st_off 11 rfl rfl rfl rfl rfl rfl ?_
   refine st_off 11 rfl rfl rfl rfl rfl rfl ?_
   refine s_y rfl (v := .bool false) (y_pick rfl rfl) rfl ?_
   refine s_y rfl (v := .bool false) (y_mv rfl) rfl ?_
   refine st_off 16 rfl rfl rfl rfl rfl rfl ?_
   refine st_off 16 rfl rfl rfl rfl rfl rfl ?_
   refine st_off 16 rfl rfl rfl rfl rfl rfl ?_
   refine s_y rfl (v := .bool false) (y_pick rfl rfl) rfl ?_
   refine s_y rfl (v := .bool false) (y_as rfl) rfl ?_
   refine s_nil (q_then (c_ret ?_))
   refine c_fin (I' := []) [] [] rfl (.tmp rfl .nil) rfl rfl rfl ?_
   exact ⟨dec_f (by unfold labRight; omega), rfl, rfl⟩
 ·
  refine s_y rfl (v := .bool false) (y_f (y_k (v := .bool (decide (a.lv ≥ 0))) rfl rfl (fun _ => by kernel_rfl)) h1) rfl ?_
  refine s_y rfl (v := .bool false) (y_mv rfl) rfl ?_
  refine st_off 6 rfl rfl rfl rfl rfl rfl ?_
  refine st_off 6 rfl rfl rfl rfl rfl rfl ?_
  refine st_off 6 rfl rfl rfl rfl rfl rfl ?_
  refine s_y rfl (v := .bool false) (y_pick rfl rfl) rfl ?_
  refine s_y rfl (v := .bool false) (y_mv rfl) rfl ?_
  refine st_off 11 rfl rfl rfl rfl rfl rfl ?_
  refine st_off 11 rfl rfl rfl rfl rfl rfl ?_
  refine st_off 11 rfl rfl rfl rfl rfl rfl ?_
  refine s_y rfl (v := .bool false) (y_pick rfl rfl) rfl ?_
  refine s_y rfl (v := .bool false) (y_mv rfl) rfl ?_
  refine st_off 16 rfl rfl rfl rfl rfl rfl ?_
  refine st_off 16 rfl rfl rfl rfl rfl rfl ?_
  refine st_off 16 rfl rfl rfl rfl rfl rfl ?_
  refine s_y rfl (v := .bool false) (y_pick rfl rfl) rfl ?_
  refine s_y rfl (v := .bool false) (y_as rfl) rfl ?_
  refine s_nil (q_then (c_ret ?_))
  refine c_fin (I' := []) [] [] rfl (.tmp rfl .nil) rfl rfl rfl ?_
  exact ⟨dec_f (by unfold labRight; omega), rfl, rfl⟩
theorem catsSub_ (x : Nat) (y : Nat) : Con Tryd.prog 57 [.int .u64 (x : Int), .int .u64 (y : Int)] [] [] (fun v L' I' => v = .bool (decide (subN x y)) ∧ L' = [] ∧ I' = []) := by
 refine fn_of Tryd.func57 rfl Tryd.ntmps57 (by kernel_rfl) rfl (fun C => ?_)
 refine c_seq (c_region ?_)
 refine s_y rfl (v := .bool false) (y_as rfl) rfl ?_
 refine s_nil (q_then (c_seq (c_region ?_)))
 refine s_y rfl (v := .int .u64 (x : Int)) (y_mv rfl) rfl ?_
 refine s_y rfl (v := .int .u64 (y : Int)) (y_mv rfl) rfl ?_
 refine s_y rfl (v := .int .u64 (andNotN x y : Int)) (y_andNot (a := x) (b := y) rfl rfl) rfl ?_
 refine s_y rfl (v := .bool (decide ((andNotN x y : Int) = 0))) (y_k rfl rfl (fun _ => by kernel_rfl)) rfl ?_
 refine s_y rfl (v := .bool (decide ((andNotN x y : Int) = 0))) (y_as rfl) rfl ?_
 refine s_nil (q_then (c_ret ?_))
 refine c_fin (I' := []) [] [] rfl (.tmp rfl .nil) rfl rfl rfl ?_
 exact ⟨by show Value.bool _ = Value.bool _; congr 1; unfold subN; by_cases h : andNotN x y = 0 <;> simp [h], rfl, rfl⟩
theorem checked_ (a : Lab) (b : Lab) : Con Tryd.prog 44 [.agg #[.int .i64 a.lv, .int .u64 (a.cs : Int), .int .i64 a.ig, .int .i64 b.lv, .int .u64 (b.cs : Int), .int .i64 b.ig]] [] [] (fun v L' I' => ((labRight a ∧ labRight b) ∧ v = .nilIface ∧ L' = [] ∧ I' = []) ∨ (∃ x : Lab, (¬ (labRight a ∧ labRight b)) ∧ v = .iface 93 (.agg #[.int .i64 x.lv, .int .u64 (x.cs : Int), .int .i64 x.ig]) ∧ L' = [] ∧ I' = [])) := by
 refine fn_of Tryd.func44 rfl Tryd.ntmps44 (by kernel_rfl) rfl (fun C => ?_)
 refine c_seq (c_region ?_)
 refine st rfl (o_box (cs := [.int .i64 a.lv, .int .u64 (a.cs : Int), .int .i64 a.ig, .int .i64 b.lv, .int .u64 (b.cs : Int), .int .i64 b.ig]) (T := 82) rfl rfl rfl rfl (fun _ => by kernel_rfl) (fun b1 => ?_))
 refine s_y rfl (v := .nilIface) (y_as rfl) rfl ?_
 refine s_nil (q_then (c_seq (c_block (c_seq (c_region ?_)))))
 refine s_y rfl (v := .pointer (some ⟨b1, 0, none⟩)) (y_k rfl rfl (fun _ => by kernel_rfl)) rfl ?_
 refine st rfl (o_ldn 0 3 rfl rfl rfl rfl Tryd.underlying26 rfl (by kernel_rfl) (by kernel_rfl) rfl ?_)
 refine st rfl (o_call [] [] (labRight_ a) rfl rfl rfl rfl rfl rfl (fun v L' I' hq1 => ?_))
 obtain ⟨hv1, rfl, rfl⟩ := hq1
 refine e_by (labRight a) (fun h1 => ?_) (fun h1 => ?_)
 ·
  obtain rfl : v = .bool true := by rw [hv1, decide_eq_true h1]
  refine s_y rfl (v := .bool false) (y_k rfl rfl (fun _ => by kernel_rfl)) rfl ?_
  refine s_y rfl (v := .bool false) (y_as rfl) rfl ?_
  refine s_nil (q_then (c_false rfl (c_seq (c_region ?_))))
  refine s_y rfl (v := .pointer (some ⟨b1, 3, none⟩)) (y_k rfl rfl (fun _ => by kernel_rfl)) rfl ?_
  refine st rfl (o_ldn 0 3 rfl rfl rfl rfl Tryd.underlying26 rfl (by kernel_rfl) (by kernel_rfl) rfl ?_)
  refine st rfl (o_call [] [] (labRight_ b) rfl rfl rfl rfl rfl rfl (fun v L' I' hq2 => ?_))
  obtain ⟨hv2, rfl, rfl⟩ := hq2
  refine e_by (labRight b) (fun h2 => ?_) (fun h2 => ?_)
  ·
   obtain rfl : v = .bool true := by rw [hv2, decide_eq_true h2]
   refine s_y rfl (v := .bool false) (y_k rfl rfl (fun _ => by kernel_rfl)) rfl ?_
   refine s_y rfl (v := .bool false) (y_as rfl) rfl ?_
   refine s_nil (q_then (c_false rfl (c_skip (q_block (q_then (c_seq (c_region ?_)))))))
   refine s_y rfl (v := .nilIface) (y_as rfl) rfl ?_
   refine s_nil (q_then (c_ret ?_))
   refine c_fin (I' := []) [] [] rfl (.tmp rfl .nil) rfl rfl rfl ?_
   exact .inl ⟨by first | exact ⟨by assumption, by assumption⟩ | exact fun hh => absurd hh.1 (by assumption) | exact fun hh => absurd hh.2 (by assumption), rfl, rfl, rfl⟩
  ·
   obtain rfl : v = .bool false := by rw [hv2, decide_eq_false h2]
   refine s_y rfl (v := .bool true) (y_k rfl rfl (fun _ => by kernel_rfl)) rfl ?_
   refine s_y rfl (v := .bool true) (y_as rfl) rfl ?_
   refine s_nil (q_then (c_true rfl (c_seq (c_region ?_))))
   refine s_y rfl (v := .pointer (some ⟨b1, 3, none⟩)) (y_k rfl rfl (fun _ => by kernel_rfl)) rfl ?_
   refine st rfl (o_ldn 0 3 rfl rfl rfl rfl Tryd.underlying26 rfl (by kernel_rfl) (by kernel_rfl) rfl ?_)
   refine s_y rfl (v := .agg #[.int .i64 b.lv, .int .u64 (b.cs : Int), .int .i64 b.ig]) (y_k rfl rfl (fun _ => by kernel_rfl)) rfl ?_
   refine s_y rfl (v := .iface 93 (.agg #[.int .i64 b.lv, .int .u64 (b.cs : Int), .int .i64 b.ig])) (y_k rfl rfl (fun _ => by kernel_rfl)) rfl ?_
   refine s_y rfl (v := .iface 93 (.agg #[.int .i64 b.lv, .int .u64 (b.cs : Int), .int .i64 b.ig])) (y_as rfl) rfl ?_
   refine s_nil (q_then (c_ret (q_block_ret (q_then_ret ?_))))
   refine c_fin (I' := []) [] [] rfl (.tmp rfl .nil) rfl rfl rfl ?_
   exact .inr ⟨b, by first | exact ⟨by assumption, by assumption⟩ | exact fun hh => absurd hh.1 (by assumption) | exact fun hh => absurd hh.2 (by assumption), rfl, rfl, rfl⟩
 ·
  obtain rfl : v = .bool false := by rw [hv1, decide_eq_false h1]
  refine s_y rfl (v := .bool true) (y_k rfl rfl (fun _ => by kernel_rfl)) rfl ?_
  refine s_y rfl (v := .bool true) (y_as rfl) rfl ?_
  refine s_nil (q_then (c_true rfl (c_seq (c_region ?_))))
  refine s_y rfl (v := .pointer (some ⟨b1, 0, none⟩)) (y_k rfl rfl (fun _ => by kernel_rfl)) rfl ?_
  refine st rfl (o_ldn 0 3 rfl rfl rfl rfl Tryd.underlying26 rfl (by kernel_rfl) (by kernel_rfl) rfl ?_)
  refine s_y rfl (v := .agg #[.int .i64 a.lv, .int .u64 (a.cs : Int), .int .i64 a.ig]) (y_k rfl rfl (fun _ => by kernel_rfl)) rfl ?_
  refine s_y rfl (v := .iface 93 (.agg #[.int .i64 a.lv, .int .u64 (a.cs : Int), .int .i64 a.ig])) (y_k rfl rfl (fun _ => by kernel_rfl)) rfl ?_
  refine s_y rfl (v := .iface 93 (.agg #[.int .i64 a.lv, .int .u64 (a.cs : Int), .int .i64 a.ig])) (y_as rfl) rfl ?_
  refine s_nil (q_then (c_ret (q_block_ret (q_then_ret ?_))))
  refine c_fin (I' := []) [] [] rfl (.tmp rfl .nil) rfl rfl rfl ?_
  exact .inr ⟨a, by first | exact ⟨by assumption, by assumption⟩ | exact fun hh => absurd hh.1 (by assumption) | exact fun hh => absurd hh.2 (by assumption), rfl, rfl, rfl⟩
theorem isUnder_ (a : Lab) (b : Lab) : Con Tryd.prog 45 [.agg #[.int .i64 a.lv, .int .u64 (a.cs : Int), .int .i64 a.ig, .int .i64 b.lv, .int .u64 (b.cs : Int), .int .i64 b.ig]] [] [] (fun v L' I' => v = .bool (decide (a.lv ≤ b.lv ∧ b.ig ≤ a.ig ∧ subN a.cs b.cs)) ∧ L' = [] ∧ I' = []) := by
 refine fn_of Tryd.func45 rfl Tryd.ntmps45 (by kernel_rfl) rfl (fun C => ?_)
 refine c_seq (c_region ?_)
 refine st rfl (o_box (cs := [.int .i64 a.lv, .int .u64 (a.cs : Int), .int .i64 a.ig, .int .i64 b.lv, .int .u64 (b.cs : Int), .int .i64 b.ig]) (T := 82) rfl rfl rfl rfl (fun _ => by kernel_rfl) (fun b1 => ?_))
 refine s_y rfl (v := .bool false) (y_as rfl) rfl ?_
 refine s_nil (q_then (c_seq (c_region ?_)))
 refine s_y rfl (v := .pointer (some ⟨b1, 0, none⟩)) (y_k rfl rfl (fun _ => by kernel_rfl)) rfl ?_
 refine s_y rfl (v := .pointer (some ⟨b1, 0, none⟩)) (y_k rfl rfl (fun _ => by kernel_rfl)) rfl ?_
 refine st rfl (o_ld 0 rfl rfl rfl Tryd.underlying3 rfl rfl ?_)
 refine s_y rfl (v := .pointer (some ⟨b1, 3, none⟩)) (y_k rfl rfl (fun _ => by kernel_rfl)) rfl ?_
 refine s_y rfl (v := .pointer (some ⟨b1, 3, none⟩)) (y_k rfl rfl (fun _ => by kernel_rfl)) rfl ?_
 refine st rfl (o_ld 0 rfl rfl rfl Tryd.underlying3 rfl rfl ?_)
 refine e_by (a.lv ≤ b.lv) (fun h1 => ?_) (fun h1 => ?_)
 ·
  refine s_y rfl (v := .bool true) (y_t (y_k (v := .bool (decide (a.lv ≤ b.lv))) rfl rfl (fun _ => by kernel_rfl)) h1) rfl ?_
  refine s_y rfl (v := .bool true) (y_mv rfl) rfl ?_
  refine st_on 10 rfl rfl rfl (o_y (v := .pointer (some ⟨b1, 0, none⟩)) (y_k rfl rfl (fun _ => by kernel_rfl)) rfl rfl rfl ?_)
  refine st_on 10 rfl rfl rfl (o_y (v := .pointer (some ⟨b1, 2, none⟩)) (y_k rfl rfl (fun _ => by kernel_rfl)) rfl rfl rfl ?_)
  refine st_on 10 rfl rfl rfl (o_ld 0 rfl rfl rfl Tryd.underlying3 rfl rfl ?_)
  refine st_on 10 rfl rfl rfl (o_y (v := .pointer (some ⟨b1, 3, none⟩)) (y_k rfl rfl (fun _ => by kernel_rfl)) rfl rfl rfl ?_)
  refine st_on 10 rfl rfl rfl (o_y (v := .pointer (some ⟨b1, 5, none⟩)) (y_k rfl rfl (fun _ => by kernel_rfl)) rfl rfl rfl ?_)
  refine st_on 10 rfl rfl rfl (o_ld 0 rfl rfl rfl Tryd.underlying3 rfl rfl ?_)
  refine e_by (a.ig ≥ b.ig) (fun h2 => ?_) (fun h2 => ?_)
  ·
   refine st_on 10 rfl rfl rfl (o_y (v := .bool true) (y_t (y_k (v := .bool (decide (a.ig ≥ b.ig))) rfl rfl (fun _ => by kernel_rfl)) h2) rfl rfl rfl ?_)
   refine s_y rfl (v := .bool true) (y_pick rfl rfl) rfl ?_
   refine s_y rfl (v := .bool true) (y_mv rfl) rfl ?_
   refine st_on 19 rfl rfl rfl (o_y (v := .pointer (some ⟨b1, 0, none⟩)) (y_k rfl rfl (fun _ => by kernel_rfl)) rfl rfl rfl ?_)
   refine st_on 19 rfl rfl rfl (o_y (v := .pointer (some ⟨b1, 1, none⟩)) (y_k rfl rfl (fun _ => by kernel_rfl)) rfl rfl rfl ?_)
   refine st_on 19 rfl rfl rfl (o_ld 0 rfl rfl rfl Tryd.underlying24 rfl rfl ?_)
   refine st_on 19 rfl rfl rfl (o_y (v := .pointer (some ⟨b1, 3, none⟩)) (y_k rfl rfl (fun _ => by kernel_rfl)) rfl rfl rfl ?_)
   refine st_on 19 rfl rfl rfl (o_y (v := .pointer (some ⟨b1, 4, none⟩)) (y_k rfl rfl (fun _ => by kernel_rfl)) rfl rfl rfl ?_)
   refine st_on 19 rfl rfl rfl (o_ld 0 rfl rfl rfl Tryd.underlying24 rfl rfl ?_)
   refine st_on 19 rfl rfl rfl (o_call [] [] (catsSub_ a.cs b.cs) rfl rfl rfl rfl rfl rfl (fun v L' I' hq1 => ?_))
   obtain ⟨hv1, rfl, rfl⟩ := hq1
   refine e_by (subN a.cs b.cs) (fun h3 => ?_) (fun h3 => ?_)
   ·
    obtain rfl : v = .bool true := by rw [hv1, decide_eq_true h3]
    refine s_y rfl (v := .bool true) (y_pick rfl rfl) rfl ?_
    refine s_y rfl (v := .bool true) (y_as rfl) rfl ?_
    refine s_nil (q_then (c_ret ?_))
    refine c_fin (I' := []) [] [] rfl (.tmp rfl .nil) rfl rfl rfl ?_
    exact ⟨dec_t (by first | exact ⟨by omega, by omega, by assumption⟩ | (rintro ⟨q1, q2, q3⟩; first | omega | contradiction)), rfl, rfl⟩
   ·
    obtain rfl : v = .bool false := by rw [hv1, decide_eq_false h3]
    refine s_y rfl (v := .bool false) (y_pick rfl rfl) rfl ?_
    refine s_y rfl (v := .bool false) (y_as rfl) rfl ?_
    refine s_nil (q_then (c_ret ?_))
    refine c_fin (I' := []) [] [] rfl (.tmp rfl .nil) rfl rfl rfl ?_
    exact ⟨dec_f (by first | exact ⟨by omega, by omega, by assumption⟩ | (rintro ⟨q1, q2, q3⟩; first | omega | contradiction)), rfl, rfl⟩
  ·
   refine st_on 10 rfl rfl rfl (o_y (v := .bool false) (y_f (y_k (v := .bool (decide (a.ig ≥ b.ig))) rfl rfl (fun _ => by kernel_rfl)) h2) rfl rfl rfl ?_)
   refine s_y rfl (v := .bool false) (y_pick rfl rfl) rfl ?_
   refine s_y rfl (v := .bool false) (y_mv rfl) rfl ?_
   refine st_off 19 rfl rfl rfl rfl rfl rfl ?_
   refine st_off 19 rfl rfl rfl rfl rfl rfl ?_
   refine st_off 19 rfl rfl rfl rfl rfl rfl ?_
   refine st_off 19 rfl rfl rfl rfl rfl rfl ?_
   refine st_off 19 rfl rfl rfl rfl rfl rfl ?_
   refine st_off 19 rfl rfl rfl rfl rfl rfl ?_
   refine st_off 19 rfl rfl rfl rfl rfl rfl ?_
   refine s_y rfl (v := .bool false) (y_pick rfl rfl) rfl ?_
   refine s_y rfl (v := .bool false) (y_as rfl) rfl ?_
   refine s_nil (q_then (c_ret ?_))
   refine c_fin (I' := []) [] [] rfl (.tmp rfl .nil) rfl rfl rfl ?_
   exact ⟨dec_f (by first | exact ⟨by omega, by omega, by assumption⟩ | (rintro ⟨q1, q2, q3⟩; first | omega | contradiction)), rfl, rfl⟩
 ·
  refine s_y rfl (v := .bool false) (y_f (y_k (v := .bool (decide (a.lv ≤ b.lv))) rfl rfl (fun _ => by kernel_rfl)) h1) rfl ?_
  refine s_y rfl (v := .bool false) (y_mv rfl) rfl ?_
  refine st_off 10 rfl rfl rfl rfl rfl rfl ?_
  refine st_off 10 rfl rfl rfl rfl rfl rfl ?_
  refine st_off 10 rfl rfl rfl rfl rfl rfl ?_
  refine st_off 10 rfl rfl rfl rfl rfl rfl ?_
  refine st_off 10 rfl rfl rfl rfl rfl rfl ?_
  refine st_off 10 rfl rfl rfl rfl rfl rfl ?_
  refine st_off 10 rfl rfl rfl rfl rfl rfl ?_
  refine s_y rfl (v := .bool false) (y_pick rfl rfl) rfl ?_
  refine s_y rfl (v := .bool false) (y_mv rfl) rfl ?_
  refine st_off 19 rfl rfl rfl rfl rfl rfl ?_
  refine st_off 19 rfl rfl rfl rfl rfl rfl ?_
  refine st_off 19 rfl rfl rfl rfl rfl rfl ?_
  refine st_off 19 rfl rfl rfl rfl rfl rfl ?_
  refine st_off 19 rfl rfl rfl rfl rfl rfl ?_
  refine st_off 19 rfl rfl rfl rfl rfl rfl ?_
  refine st_off 19 rfl rfl rfl rfl rfl rfl ?_
  refine s_y rfl (v := .bool false) (y_pick rfl rfl) rfl ?_
  refine s_y rfl (v := .bool false) (y_as rfl) rfl ?_
  refine s_nil (q_then (c_ret ?_))
  refine c_fin (I' := []) [] [] rfl (.tmp rfl .nil) rfl rfl rfl ?_
  exact ⟨dec_f (by first | exact ⟨by omega, by omega, by assumption⟩ | (rintro ⟨q1, q2, q3⟩; first | omega | contradiction)), rfl, rfl⟩
theorem under_ (a : Lab) (b : Lab) : Con Tryd.prog 20 [.agg #[.int .i64 a.lv, .int .u64 (a.cs : Int), .int .i64 a.ig], .agg #[.int .i64 b.lv, .int .u64 (b.cs : Int), .int .i64 b.ig]] [] [] (fun v L' I' => v = .bool (decide (labUnder a b)) ∧ L' = [] ∧ I' = []) := by
 refine fn_of Tryd.func20 rfl Tryd.ntmps20 (by kernel_rfl) rfl (fun C => ?_)
 refine c_seq (c_region ?_)
 refine st rfl (o_box (cs := [.int .i64 a.lv, .int .u64 (a.cs : Int), .int .i64 a.ig]) (T := 26) rfl rfl rfl rfl (fun _ => by kernel_rfl) (fun b1 => ?_))
 refine st rfl (o_box (cs := [.int .i64 b.lv, .int .u64 (b.cs : Int), .int .i64 b.ig]) (T := 26) rfl rfl rfl rfl (fun _ => by kernel_rfl) (fun b2 => ?_))
 refine s_y rfl (v := .bool false) (y_as rfl) rfl ?_
 refine s_nil (q_then (c_seq (c_region ?_)))
 refine st rfl (o_ldn 1 3 rfl rfl rfl rfl Tryd.underlying26 rfl (by kernel_rfl) (by kernel_rfl) rfl ?_)
 refine st rfl (o_ldn 0 3 rfl rfl rfl rfl Tryd.underlying26 rfl (by kernel_rfl) (by kernel_rfl) rfl ?_)
 refine s_y rfl (v := .agg #[.int .i64 a.lv, .int .u64 (a.cs : Int), .int .i64 a.ig, .int .i64 b.lv, .int .u64 (b.cs : Int), .int .i64 b.ig]) (y_k rfl rfl (fun _ => by kernel_rfl)) rfl ?_
 refine st rfl (o_box (cs := [.int .i64 0, .int .u64 0, .int .i64 0, .int .i64 0, .int .u64 0, .int .i64 0]) (T := 82) rfl rfl rfl rfl (fun _ => by kernel_rfl) (fun b3 => ?_))
 refine st rfl (o_st 0 rfl rfl rfl rfl rfl (by kernel_rfl) (by kernel_rfl) rfl ?_)
 refine s_nil (q_then (c_seq (c_region ?_)))
 refine st rfl (o_ldn 0 6 rfl rfl rfl rfl Tryd.underlying82 rfl (by kernel_rfl) (by kernel_rfl) rfl ?_)
 refine st rfl (o_call [] [] (checked_ a b) rfl rfl rfl rfl rfl rfl (fun v L' I' hq1 => ?_))
 rcases hq1 with ⟨h1, rfl, rfl, rfl⟩ | ⟨x1, h2, rfl, rfl, rfl⟩
 ·
  refine s_y rfl (v := .bool true) (y_k rfl rfl (fun _ => by kernel_rfl)) rfl ?_
  refine s_y rfl (v := .bool true) (y_mv rfl) rfl ?_
  refine st_on 12 rfl rfl rfl (o_ldn 2 3 rfl rfl rfl rfl Tryd.underlying26 rfl (by kernel_rfl) (by kernel_rfl) rfl ?_)
  refine st_on 12 rfl rfl rfl (o_ldn 1 3 rfl rfl rfl rfl Tryd.underlying26 rfl (by kernel_rfl) (by kernel_rfl) rfl ?_)
  refine e_by (a = b) (fun h3 => ?_) (fun h3 => ?_)
  ·
   refine st_on 12 rfl rfl rfl (o_y (v := .bool true) (y_t (y_bin rfl rfl (fun w => eq_Lab a b w)) h3) rfl rfl rfl ?_)
   refine st_on 12 rfl rfl rfl (o_y (v := .bool true) (y_mv rfl) rfl rfl rfl ?_)
   refine st_off 16 rfl rfl rfl rfl rfl rfl ?_
   refine st_off 16 rfl rfl rfl rfl rfl rfl ?_
   refine st_on 12 rfl rfl rfl (o_y (v := .bool true) (y_pick rfl rfl) rfl rfl rfl ?_)
   refine s_y rfl (v := .bool true) (y_pick rfl rfl) rfl ?_
   refine s_y rfl (v := .bool true) (y_as rfl) rfl ?_
   refine s_nil (q_then (c_ret ?_))
   refine c_fin (I' := []) [] [] rfl (.tmp rfl .nil) rfl rfl rfl ?_
   exact ⟨dec_t (by first | exact under_t1 (by assumption) (by assumption) | exact under_t2 (by assumption) (by assumption) | exact under_f1 (by assumption) (by assumption) (by assumption) | exact under_f2 (by assumption)), rfl, rfl⟩
  ·
   refine st_on 12 rfl rfl rfl (o_y (v := .bool false) (y_f (y_bin rfl rfl (fun w => eq_Lab a b w)) h3) rfl rfl rfl ?_)
   refine st_on 12 rfl rfl rfl (o_y (v := .bool false) (y_mv rfl) rfl rfl rfl ?_)
   refine st_on 16 rfl rfl rfl (o_ldn 0 6 rfl rfl rfl rfl Tryd.underlying82 rfl (by kernel_rfl) (by kernel_rfl) rfl ?_)
   refine st_on 16 rfl rfl rfl (o_call [] [] (isUnder_ a b) rfl rfl rfl rfl rfl rfl (fun v L' I' hq2 => ?_))
   obtain ⟨hv1, rfl, rfl⟩ := hq2
   refine e_by (a.lv ≤ b.lv ∧ b.ig ≤ a.ig ∧ subN a.cs b.cs) (fun h4 => ?_) (fun h4 => ?_)
   ·
    obtain rfl : v = .bool true := by rw [hv1, decide_eq_true h4]
    refine st_on 12 rfl rfl rfl (o_y (v := .bool true) (y_pick rfl rfl) rfl rfl rfl ?_)
    refine s_y rfl (v := .bool true) (y_pick rfl rfl) rfl ?_
    refine s_y rfl (v := .bool true) (y_as rfl) rfl ?_
    refine s_nil (q_then (c_ret ?_))
    refine c_fin (I' := []) [] [] rfl (.tmp rfl .nil) rfl rfl rfl ?_
    exact ⟨dec_t (by first | exact under_t1 (by assumption) (by assumption) | exact under_t2 (by assumption) (by assumption) | exact under_f1 (by assumption) (by assumption) (by assumption) | exact under_f2 (by assumption)), rfl, rfl⟩
   ·
    obtain rfl : v = .bool false := by rw [hv1, decide_eq_false h4]
    refine st_on 12 rfl rfl rfl (o_y (v := .bool false) (y_pick rfl rfl) rfl rfl rfl ?_)
    refine s_y rfl (v := .bool false) (y_pick rfl rfl) rfl ?_
    refine s_y rfl (v := .bool false) (y_as rfl) rfl ?_
    refine s_nil (q_then (c_ret ?_))
    refine c_fin (I' := []) [] [] rfl (.tmp rfl .nil) rfl rfl rfl ?_
    exact ⟨dec_f (by first | exact under_t1 (by assumption) (by assumption) | exact under_t2 (by assumption) (by assumption) | exact under_f1 (by assumption) (by assumption) (by assumption) | exact under_f2 (by assumption)), rfl, rfl⟩
 ·
  refine s_y rfl (v := .bool false) (y_k rfl rfl (fun _ => by kernel_rfl)) rfl ?_
  refine s_y rfl (v := .bool false) (y_mv rfl) rfl ?_
  refine st_off 12 rfl rfl rfl rfl rfl rfl ?_
  refine st_off 12 rfl rfl rfl rfl rfl rfl ?_
  refine st_off 12 rfl rfl rfl rfl rfl rfl ?_
  refine st_off 12 rfl rfl rfl rfl rfl rfl ?_
  refine st_offu 16 rfl rfl rfl rfl rfl ?_
  refine st_offu 16 rfl rfl rfl rfl rfl ?_
  refine st_off 12 rfl rfl rfl rfl rfl rfl ?_
  refine s_y rfl (v := .bool false) (y_pick rfl rfl) rfl ?_
  refine s_y rfl (v := .bool false) (y_as rfl) rfl ?_
  refine s_nil (q_then (c_ret ?_))
  refine c_fin (I' := []) [] [] rfl (.tmp rfl .nil) rfl rfl rfl ?_
  exact ⟨dec_f (by first | exact under_t1 (by assumption) (by assumption) | exact under_t2 (by assumption) (by assumption) | exact under_f1 (by assumption) (by assumption) (by assumption) | exact under_f2 (by assumption)), rfl, rfl⟩
theorem bottom_ : Con Tryd.prog 23 [] [] [] (fun v L' I' => v = .agg #[.int .i64 0, .int .u64 0, .int .i64 7] ∧ L' = [] ∧ I' = []) := by
 refine fn_of Tryd.func23 rfl Tryd.ntmps23 (by kernel_rfl) rfl (fun C => ?_)
 refine c_seq (c_region ?_)
 refine st rfl (o_box (cs := [.int .i64 0, .int .u64 0, .int .i64 0]) (T := 26) rfl rfl rfl rfl (fun _ => by kernel_rfl) (fun b1 => ?_))
 refine s_nil (q_then (c_seq (c_region ?_)))
 refine s_y rfl (v := .agg #[.int .i64 0, .int .u64 0, .int .i64 7]) (y_k rfl rfl (fun _ => by kernel_rfl)) rfl ?_
 refine st rfl (o_st 0 rfl rfl rfl rfl rfl (by kernel_rfl) (by kernel_rfl) rfl ?_)
 refine s_nil (q_then (c_ret ?_))
 refine c_fin (I' := []) [] [] rfl (.agg 0 3 rfl rfl rfl rfl Tryd.underlying26 rfl (by kernel_rfl) (by kernel_rfl) .nil) rfl rfl rfl ?_
 exact ⟨rfl, rfl, rfl⟩
theorem catsLess_ (x : Nat) (y : Nat) : Con Tryd.prog 47 [.int .u64 (x : Int), .int .u64 (y : Int)] [] [] (fun v L' I' => v = .int .u64 (andNotN x y : Int) ∧ L' = [] ∧ I' = []) := by
 refine fn_of Tryd.func47 rfl Tryd.ntmps47 (by kernel_rfl) rfl (fun C => ?_)
 refine c_seq (c_region ?_)
 refine s_y rfl (v := .int .u64 0) (y_as rfl) rfl ?_
 refine s_nil (q_then (c_seq (c_region ?_)))
 refine s_y rfl (v := .int .u64 (x : Int)) (y_mv rfl) rfl ?_
 refine s_y rfl (v := .int .u64 (y : Int)) (y_mv rfl) rfl ?_
 refine s_y rfl (v := .int .u64 (andNotN x y : Int)) (y_andNot (a := x) (b := y) rfl rfl) rfl ?_
 refine s_y rfl (v := .int .u64 (andNotN x y : Int)) (y_as rfl) rfl ?_
 refine s_nil (q_then (c_ret ?_))
 refine c_fin (I' := []) [] [] rfl (.tmp rfl .nil) rfl rfl rfl ?_
 exact ⟨rfl, rfl, rfl⟩
theorem top_ : Con Tryd.prog 22 [] [] [] (fun v L' I' => v = .agg #[.int .i64 15, .int .u64 (18446744073709551615 : Int), .int .i64 0] ∧ L' = [] ∧ I' = []) := by
 refine fn_of Tryd.func22 rfl Tryd.ntmps22 (by kernel_rfl) rfl (fun C => ?_)
 refine c_seq (c_region ?_)
 refine st rfl (o_box (cs := [.int .i64 0, .int .u64 0, .int .i64 0]) (T := 26) rfl rfl rfl rfl (fun _ => by kernel_rfl) (fun b1 => ?_))
 refine s_nil (q_then (c_seq (c_region ?_)))
 refine st rfl (o_call [] [] (catsLess_ 18446744073709551615 0) rfl rfl rfl rfl rfl rfl (fun v L' I' hq1 => ?_))
 obtain ⟨rfl, rfl, rfl⟩ := hq1
 refine s_y rfl (v := .agg #[.int .i64 15, .int .u64 (andNotN 18446744073709551615 0 : Int), .int .i64 0]) (y_k rfl rfl (fun _ => by kernel_rfl)) rfl ?_
 refine st rfl (o_st 0 rfl rfl rfl rfl rfl (by kernel_rfl) (by kernel_rfl) rfl ?_)
 refine s_nil (q_then (c_ret ?_))
 refine c_fin (I' := []) [] [] rfl (.agg 0 3 rfl rfl rfl rfl Tryd.underlying26 rfl (by kernel_rfl) (by kernel_rfl) .nil) rfl rfl rfl ?_
 exact ⟨by simp only [packed, show andNotN 18446744073709551615 0 = 18446744073709551615 by decide]; rfl, rfl, rfl⟩
end Go.Proofs.YthehnjbdkjnlpaaDoor
