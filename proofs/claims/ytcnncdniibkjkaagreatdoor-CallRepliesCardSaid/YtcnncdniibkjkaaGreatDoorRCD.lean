/- The laws of chapter 17 (call), walked over the given program; no condition but what stands in each theorem: part CD. -/
import Derived.Test.YtcnncdniibkjkaaGreatDoorRCB
set_option linter.unusedVariables false
set_option linter.unusedSimpArgs false
set_option maxRecDepth 100000
set_option maxHeartbeats 8000000
namespace Go.Proofs.YtcnncdniibkjkaaGreatDoor
open Go Go.Sl Go.RowKit Go.Extern.Stop Go.Stop Go.Extern
theorem signs_ (op : Int) : Con Tryz.prog 22 [.int .i64 op] [] [] (fun v L' I' => v = .tuple #[.string (signsF op), .bool (decide (isOp op))] ∧ L' = [] ∧ I' = []) := by
 refine fn_of Tryz.func22 rfl Tryz.ntmps22 (by kernel_rfl) rfl (fun C => ?_)
 refine c_seq (c_region ?_)
 refine s_y rfl (v := .string (⟨#[]⟩ : ByteArray)) (y_as rfl) rfl ?_
 refine s_y rfl (v := .bool false) (y_as rfl) rfl ?_
 refine s_nil (q_then (c_seq (c_region ?_)))
 refine st rfl (o_mkmap rfl (fun m1 => ?_))
 refine s_y rfl (v := .agg #[.string (⟨#[]⟩ : ByteArray)]) (y_k rfl rfl (fun _ => by kernel_rfl)) rfl ?_
 refine st rfl (o_insert 0 rfl rfl rfl rfl Tryz.underlying93 Tryz.underlying3 rfl (by kernel_rfl) ?_)
 refine s_y rfl (v := .agg #[.string (⟨#[76]⟩ : ByteArray)]) (y_k rfl rfl (fun _ => by kernel_rfl)) rfl ?_
 refine st rfl (o_insert 0 rfl rfl rfl rfl Tryz.underlying93 Tryz.underlying3 rfl (by kernel_rfl) ?_)
 refine s_y rfl (v := .agg #[.string (⟨#[84, 73, 78]⟩ : ByteArray)]) (y_k rfl rfl (fun _ => by kernel_rfl)) rfl ?_
 refine st rfl (o_insert 0 rfl rfl rfl rfl Tryz.underlying93 Tryz.underlying3 rfl (by kernel_rfl) ?_)
 refine s_y rfl (v := .agg #[.string (⟨#[84, 65, 68]⟩ : ByteArray)]) (y_k rfl rfl (fun _ => by kernel_rfl)) rfl ?_
 refine st rfl (o_insert 0 rfl rfl rfl rfl Tryz.underlying93 Tryz.underlying3 rfl (by kernel_rfl) ?_)
 refine s_y rfl (v := .agg #[.string (⟨#[76, 84, 65, 78]⟩ : ByteArray)]) (y_k rfl rfl (fun _ => by kernel_rfl)) rfl ?_
 refine st rfl (o_insert 0 rfl rfl rfl rfl Tryz.underlying93 Tryz.underlying3 rfl (by kernel_rfl) ?_)
 refine s_y rfl (v := .agg #[.string (⟨#[84, 78]⟩ : ByteArray)]) (y_k rfl rfl (fun _ => by kernel_rfl)) rfl ?_
 refine st rfl (o_insert 0 rfl rfl rfl rfl Tryz.underlying93 Tryz.underlying3 rfl (by kernel_rfl) ?_)
 refine s_y rfl (v := .agg #[.string (⟨#[84]⟩ : ByteArray)]) (y_k rfl rfl (fun _ => by kernel_rfl)) rfl ?_
 refine st rfl (o_insert 0 rfl rfl rfl rfl Tryz.underlying93 Tryz.underlying3 rfl (by kernel_rfl) ?_)
 refine s_y rfl (v := .agg #[.string (⟨#[76]⟩ : ByteArray)]) (y_k rfl rfl (fun _ => by kernel_rfl)) rfl ?_
 refine st rfl (o_insert 0 rfl rfl rfl rfl Tryz.underlying93 Tryz.underlying3 rfl (by kernel_rfl) ?_)
 refine s_y rfl (v := .agg #[.string (⟨#[76, 84, 68]⟩ : ByteArray)]) (y_k rfl rfl (fun _ => by kernel_rfl)) rfl ?_
 refine st rfl (o_insert 0 rfl rfl rfl rfl Tryz.underlying93 Tryz.underlying3 rfl (by kernel_rfl) ?_)
 refine s_y rfl (v := .agg #[.string (⟨#[84]⟩ : ByteArray)]) (y_k rfl rfl (fun _ => by kernel_rfl)) rfl ?_
 refine st rfl (o_insert 0 rfl rfl rfl rfl Tryz.underlying93 Tryz.underlying3 rfl (by kernel_rfl) ?_)
 refine s_y rfl (v := .agg #[.string (⟨#[73]⟩ : ByteArray)]) (y_k rfl rfl (fun _ => by kernel_rfl)) rfl ?_
 refine st rfl (o_insert 0 rfl rfl rfl rfl Tryz.underlying93 Tryz.underlying3 rfl (by kernel_rfl) ?_)
 refine s_y rfl (v := .agg #[.string (⟨#[68]⟩ : ByteArray)]) (y_k rfl rfl (fun _ => by kernel_rfl)) rfl ?_
 refine st rfl (o_insert 0 rfl rfl rfl rfl Tryz.underlying93 Tryz.underlying3 rfl (by kernel_rfl) ?_)
 refine s_y rfl (v := .agg #[.string (⟨#[73, 68]⟩ : ByteArray)]) (y_k rfl rfl (fun _ => by kernel_rfl)) rfl ?_
 refine st rfl (o_insert 0 rfl rfl rfl rfl Tryz.underlying93 Tryz.underlying3 rfl (by kernel_rfl) ?_)
 refine s_y rfl (v := .agg #[.string (⟨#[73, 78]⟩ : ByteArray)]) (y_k rfl rfl (fun _ => by kernel_rfl)) rfl ?_
 refine st rfl (o_insert 0 rfl rfl rfl rfl Tryz.underlying93 Tryz.underlying3 rfl (by kernel_rfl) ?_)
 refine s_y rfl (v := .agg #[.string (⟨#[76]⟩ : ByteArray)]) (y_k rfl rfl (fun _ => by kernel_rfl)) rfl ?_
 refine st rfl (o_insert 0 rfl rfl rfl rfl Tryz.underlying93 Tryz.underlying3 rfl (by kernel_rfl) ?_)
 refine s_y rfl (v := .agg #[.string (⟨#[76]⟩ : ByteArray)]) (y_k rfl rfl (fun _ => by kernel_rfl)) rfl ?_
 refine st rfl (o_insert 0 rfl rfl rfl rfl Tryz.underlying93 Tryz.underlying3 rfl (by kernel_rfl) ?_)
 refine s_y rfl (v := .map (some m1)) (y_mv rfl) rfl ?_
 refine s_y rfl (v := .int .i64 op) (y_mv rfl) rfl ?_
 refine st rfl (o_lookup (v := .agg #[.string (signsF op)]) (ok := (decide (isOp op))) 0 rfl rfl rfl Tryz.underlying93 Tryz.underlying3 rfl (signs_find op) (fun w => by kernel_rfl) (signs_val op) (signs_ok op) rfl ?_)
 refine s_y rfl (v := .tuple #[.agg #[.string (signsF op)], .bool (decide (isOp op))]) (y_mv rfl) rfl ?_
 refine s_y rfl (v := .agg #[.string (signsF op)]) (y_k rfl rfl (fun _ => by kernel_rfl)) rfl ?_
 refine s_y rfl (v := .bool (decide (isOp op))) (y_k rfl rfl (fun _ => by kernel_rfl)) rfl ?_
 refine st rfl (o_box (cs := [.string (⟨#[]⟩ : ByteArray)]) (T := 91) rfl rfl rfl rfl (fun _ => by kernel_rfl) (fun b1 => ?_))
 refine st rfl (o_st 0 rfl rfl rfl rfl rfl (by kernel_rfl) (by kernel_rfl) rfl ?_)
 refine s_y rfl (v := .bool (decide (isOp op))) (y_as rfl) rfl ?_
 refine s_nil (q_then (c_seq (c_region ?_)))
 refine s_y rfl (v := .pointer (some ⟨b1, 0, none⟩)) (y_k rfl rfl (fun _ => by kernel_rfl)) rfl ?_
 refine st rfl (o_ld 0 rfl rfl rfl Tryz.underlying9 rfl rfl ?_)
 refine s_y rfl (v := .bool (decide (isOp op))) (y_mv rfl) rfl ?_
 refine s_y rfl (v := .string (signsF op)) (y_as rfl) rfl ?_
 refine s_y rfl (v := .bool (decide (isOp op))) (y_as rfl) rfl ?_
 refine s_nil (q_then (c_ret ?_))
 refine c_fin (I' := []) [] [] rfl (.tmp rfl (.tmp rfl .nil)) rfl rfl rfl ?_
 exact ⟨rfl, rfl, rfl⟩
theorem badd_ (b : Nat) (r : ByteArray) (q : Ec) (s : ByteArray) (e : Int) (hr : r.size ≤ 1000000) (hs : s.size ≤ 1000000) : Con Tryz.prog 45 [.pointer (some ⟨b, 0, none⟩), .string s, .int .i64 e] [pt b [.string r, cwV q] 50] [] (fun v L' I' => v = .tuple #[] ∧ L' = [pt b [.string (r ++ s), cwV (addQ q e)] 50] ∧ I' = []) := by
 refine fn_of Tryz.func45 rfl Tryz.ntmps45 (by kernel_rfl) rfl (fun C => ?_)
 refine c_seq (c_region ?_)
 refine s_y rfl (v := .pointer (some ⟨b, 0, none⟩)) (y_mv rfl) rfl ?_
 refine s_y rfl (v := .pointer (some ⟨b, 0, none⟩)) (y_k rfl rfl (fun _ => by kernel_rfl)) rfl ?_
 refine s_y rfl (v := .pointer (some ⟨b, 0, none⟩)) (y_k rfl rfl (fun _ => by kernel_rfl)) rfl ?_
 refine st rfl (o_ld 0 rfl rfl rfl Tryz.underlying9 rfl rfl ?_)
 refine s_y rfl (v := .string s) (y_mv rfl) rfl ?_
 refine s_y rfl (v := .string (r ++ s)) (y_cat (s := r) (u := s) rfl rfl (by omega)) rfl ?_
 refine s_y rfl (v := .pointer (some ⟨b, 0, none⟩)) (y_k rfl rfl (fun _ => by kernel_rfl)) rfl ?_
 refine s_y rfl (v := .pointer (some ⟨b, 0, none⟩)) (y_k rfl rfl (fun _ => by kernel_rfl)) rfl ?_
 refine st rfl (o_st 0 rfl rfl rfl rfl rfl (by kernel_rfl) (by kernel_rfl) rfl ?_)
 refine s_nil (q_then (c_seq (c_region ?_)))
 refine s_y rfl (v := .pointer (some ⟨b, 0, none⟩)) (y_mv rfl) rfl ?_
 refine s_y rfl (v := .pointer (some ⟨b, 0, none⟩)) (y_k rfl rfl (fun _ => by kernel_rfl)) rfl ?_
 refine s_y rfl (v := .pointer (some ⟨b, 1, none⟩)) (y_k rfl rfl (fun _ => by kernel_rfl)) rfl ?_
 refine st rfl (o_ld 0 rfl rfl rfl Tryz.underlying48 rfl rfl ?_)
 refine e_by (q = none) (fun h1 => ?_) (fun h1 => ?_)
 ·
  refine s_y rfl (v := .bool true) (y_t (y_bin rfl rfl (fun w => cw_eq q _ w)) h1) rfl ?_
  refine s_nil (q_then (c_true rfl (c_region ?_)))
  refine s_y rfl (v := .pointer (some ⟨b, 0, none⟩)) (y_mv rfl) rfl ?_
  refine s_y rfl (v := .int .i64 e) (y_mv rfl) rfl ?_
  refine st rfl (o_call [] [] (errOf_ e) rfl rfl rfl rfl rfl rfl (fun v L' I' hq1 => ?_))
  obtain ⟨rfl, rfl, rfl⟩ := hq1
  refine s_y rfl (v := .pointer (some ⟨b, 0, none⟩)) (y_k rfl rfl (fun _ => by kernel_rfl)) rfl ?_
  refine s_y rfl (v := .pointer (some ⟨b, 1, none⟩)) (y_k rfl rfl (fun _ => by kernel_rfl)) rfl ?_
  refine st rfl (o_st 0 rfl rfl rfl (cw_cells _) (cw_one _) (by kernel_rfl) (by kernel_rfl) rfl ?_)
  refine s_nil ?_
  have hq_ : addQ q e = ecI e := if_pos (by assumption)
  refine c_fin_end (I' := []) [0] [] rfl .nil rfl rfl rfl ?_
  rw [hq_]
  exact ⟨rfl, rfl, rfl⟩
 ·
  refine s_y rfl (v := .bool false) (y_f (y_bin rfl rfl (fun w => cw_eq q _ w)) h1) rfl ?_
  refine s_nil (q_then (c_false rfl (c_skip ?_)))
  have hq_ : addQ q e = q := if_neg (by assumption)
  refine c_fin_end (I' := []) [0] [] rfl .nil rfl rfl rfl ?_
  rw [hq_]
  exact ⟨rfl, rfl, rfl⟩
theorem wadd_ (b : Nat) (r : ByteArray) (q : Ec) (c : Cal) (s : ByteArray) (e : Int) (hr : r.size ≤ 1000000) (hs : s.size ≤ 1000000) : Con Tryz.prog 45 [.pointer (some ⟨b, 0, none⟩), .string s, .int .i64 e] [pt b [.string r, cwV q, .int .i64 c.op, .int .i64 c.lb.lv, .int .u64 (c.lb.cs : Int), .int .i64 c.lb.ig, .string c.nm, .int .i64 c.pl, .int .i64 c.nn, .string c.da, .int .i64 c.id] 52] [] (fun v L' I' => v = .tuple #[] ∧ L' = [pt b [.string (r ++ s), cwV (addQ q e), .int .i64 c.op, .int .i64 c.lb.lv, .int .u64 (c.lb.cs : Int), .int .i64 c.lb.ig, .string c.nm, .int .i64 c.pl, .int .i64 c.nn, .string c.da, .int .i64 c.id] 52] ∧ I' = []) := by
 refine fn_of Tryz.func45 rfl Tryz.ntmps45 (by kernel_rfl) rfl (fun C => ?_)
 refine c_seq (c_region ?_)
 refine s_y rfl (v := .pointer (some ⟨b, 0, none⟩)) (y_mv rfl) rfl ?_
 refine s_y rfl (v := .pointer (some ⟨b, 0, none⟩)) (y_k rfl rfl (fun _ => by kernel_rfl)) rfl ?_
 refine s_y rfl (v := .pointer (some ⟨b, 0, none⟩)) (y_k rfl rfl (fun _ => by kernel_rfl)) rfl ?_
 refine st rfl (o_ld 0 rfl rfl rfl Tryz.underlying9 rfl rfl ?_)
 refine s_y rfl (v := .string s) (y_mv rfl) rfl ?_
 refine s_y rfl (v := .string (r ++ s)) (y_cat (s := r) (u := s) rfl rfl (by omega)) rfl ?_
 refine s_y rfl (v := .pointer (some ⟨b, 0, none⟩)) (y_k rfl rfl (fun _ => by kernel_rfl)) rfl ?_
 refine s_y rfl (v := .pointer (some ⟨b, 0, none⟩)) (y_k rfl rfl (fun _ => by kernel_rfl)) rfl ?_
 refine st rfl (o_st 0 rfl rfl rfl rfl rfl (by kernel_rfl) (by kernel_rfl) rfl ?_)
 refine s_nil (q_then (c_seq (c_region ?_)))
 refine s_y rfl (v := .pointer (some ⟨b, 0, none⟩)) (y_mv rfl) rfl ?_
 refine s_y rfl (v := .pointer (some ⟨b, 0, none⟩)) (y_k rfl rfl (fun _ => by kernel_rfl)) rfl ?_
 refine s_y rfl (v := .pointer (some ⟨b, 1, none⟩)) (y_k rfl rfl (fun _ => by kernel_rfl)) rfl ?_
 refine st rfl (o_ld 0 rfl rfl rfl Tryz.underlying48 rfl rfl ?_)
 refine e_by (q = none) (fun h1 => ?_) (fun h1 => ?_)
 ·
  refine s_y rfl (v := .bool true) (y_t (y_bin rfl rfl (fun w => cw_eq q _ w)) h1) rfl ?_
  refine s_nil (q_then (c_true rfl (c_region ?_)))
  refine s_y rfl (v := .pointer (some ⟨b, 0, none⟩)) (y_mv rfl) rfl ?_
  refine s_y rfl (v := .int .i64 e) (y_mv rfl) rfl ?_
  refine st rfl (o_call [] [] (errOf_ e) rfl rfl rfl rfl rfl rfl (fun v L' I' hq1 => ?_))
  obtain ⟨rfl, rfl, rfl⟩ := hq1
  refine s_y rfl (v := .pointer (some ⟨b, 0, none⟩)) (y_k rfl rfl (fun _ => by kernel_rfl)) rfl ?_
  refine s_y rfl (v := .pointer (some ⟨b, 1, none⟩)) (y_k rfl rfl (fun _ => by kernel_rfl)) rfl ?_
  refine st rfl (o_st 0 rfl rfl rfl (cw_cells _) (cw_one _) (by kernel_rfl) (by kernel_rfl) rfl ?_)
  refine s_nil ?_
  have hq_ : addQ q e = ecI e := if_pos (by assumption)
  refine c_fin_end (I' := []) [0] [] rfl .nil rfl rfl rfl ?_
  rw [hq_]
  exact ⟨rfl, rfl, rfl⟩
 ·
  refine s_y rfl (v := .bool false) (y_f (y_bin rfl rfl (fun w => cw_eq q _ w)) h1) rfl ?_
  refine s_nil (q_then (c_false rfl (c_skip ?_)))
  have hq_ : addQ q e = q := if_neg (by assumption)
  refine c_fin_end (I' := []) [0] [] rfl .nil rfl rfl rfl ?_
  rw [hq_]
  exact ⟨rfl, rfl, rfl⟩
end Go.Proofs.YtcnncdniibkjkaaGreatDoor
