/- The laws of chapter 17 (call), walked over the given program; no condition but what stands in each theorem: part CE. -/
import Derived.Test.YtcnncdniibkjkaaGreatDoorRLE
import Derived.Test.YtcnncdniibkjkaaGreatDoorRLG
import Derived.Test.YtcnncdniibkjkaaGreatDoorRCD
set_option linter.unusedVariables false
set_option linter.unusedSimpArgs false
set_option maxRecDepth 100000
set_option maxHeartbeats 8000000
namespace Go.Proofs.YtcnncdniibkjkaaGreatDoor
open Go Go.Sl Go.RowKit Go.Extern.Stop Go.Stop Go.Extern
theorem bnumber_ (b : Nat) (r : ByteArray) (q : Ec) (w : Int) (n : Int) (ea : Addr) (em : Addr) (ef : Addr) (el : Addr) (h12 : ea ≠ em) (h13 : ea ≠ ef) (h23 : em ≠ ef) (hr : r.size ≤ 1000000) : Con Tryz.prog 23 [.pointer (some ⟨b, 0, none⟩), .int .i64 w, .int .i64 n] [pt b [.string r, cwV q] 50] [cellsAt 2 0 [.iface 180 (.pointer (some ea))], cellsAt 3 0 [.iface 180 (.pointer (some em))], cellsAt 1 0 [.iface 180 (.pointer (some ef))], errAt ea, errAt em, errAt ef, cellsAt 4 0 [.iface 180 (.pointer (some el))], errAt el, cellsAt 0 0 [.iface 147 (.agg #[.pointer (some ⟨5, 48, none⟩)])]] (fun v L' I' => v = .tuple #[] ∧ L' = [pt b [.string (r ++ (putF w (u64 n)).1), cwV (addQ q (numE w n))] 50] ∧ I' = []) := by
 refine fn_of Tryz.func23 rfl Tryz.ntmps23 (by kernel_rfl) rfl (fun C => ?_)
 refine c_seq (c_region ?_)
 refine s_y rfl (v := .int .i64 w) (y_mv rfl) rfl ?_
 refine s_y rfl (v := .int .i64 n) (y_mv rfl) rfl ?_
 refine s_y rfl (v := .int .u64 ((u64 n) : Int)) (y_cvi (r := ((u64 n) : Int)) rfl Tryz.underlying3 Tryz.underlying22 (u64_wrap _)) rfl ?_
 refine st rfl (o_call [] [0, 1, 2, 3, 4, 5, 8] (Put_ w (u64 n) ea em ef (by assumption) (by assumption) (by assumption) (u64_lt _)) rfl rfl rfl rfl rfl rfl (fun v L' I' hq1 => ?_))
 obtain ⟨rfl, rfl, rfl⟩ := hq1
 refine s_y rfl (v := .tuple #[.string ((putF w (u64 n)).1), .int .i64 ((putF w (u64 n)).2)]) (y_mv rfl) rfl ?_
 refine s_y rfl (v := .string ((putF w (u64 n)).1)) (y_k rfl rfl (fun _ => by kernel_rfl)) rfl ?_
 refine s_y rfl (v := .int .i64 ((putF w (u64 n)).2)) (y_k rfl rfl (fun _ => by kernel_rfl)) rfl ?_
 refine s_y rfl (v := .string ((putF w (u64 n)).1)) (y_as rfl) rfl ?_
 refine s_y rfl (v := .int .i64 ((putF w (u64 n)).2)) (y_as rfl) rfl ?_
 refine s_nil (q_then (c_seq (c_seq (c_region ?_))))
 refine s_y rfl (v := .int .i64 n) (y_mv rfl) rfl ?_
 refine e_by (n < 0) (fun h24 => ?_) (fun h24 => ?_)
 ·
  refine s_y rfl (v := .bool true) (y_t (y_k (v := .bool (decide (n < 0))) rfl rfl (fun _ => by kernel_rfl)) h24) rfl ?_
  refine s_nil (q_then (c_true rfl (c_region ?_)))
  refine s_y rfl (v := .int .i64 31) (y_as rfl) rfl ?_
  refine s_nil (q_then (c_region ?_))
  refine s_y rfl (v := .pointer (some ⟨b, 0, none⟩)) (y_mv rfl) rfl ?_
  refine s_y rfl (v := .string ((putF w (u64 n)).1)) (y_mv rfl) rfl ?_
  refine s_y rfl (v := .int .i64 31) (y_mv rfl) rfl ?_
  refine st rfl (o_call [0] [] (badd_ b r q ((putF w (u64 n)).1) (31 : Int) (by first | omega | assumption | decide) (by have := putF_size w (u64 n); omega)) rfl rfl rfl rfl rfl rfl (fun v L' I' hq2 => ?_))
  obtain ⟨rfl, rfl, rfl⟩ := hq2
  refine s_nil ?_
  have hq_ : numE w n = 31 := if_pos (by assumption)
  refine c_fin_end (I' := []) [0] [0, 1, 2, 3, 4, 5, 6, 7, 8] rfl .nil rfl rfl rfl ?_
  rw [hq_]
  exact ⟨rfl, rfl, rfl⟩
 ·
  refine s_y rfl (v := .bool false) (y_f (y_k (v := .bool (decide (n < 0))) rfl rfl (fun _ => by kernel_rfl)) h24) rfl ?_
  refine s_nil (q_then (c_false rfl (c_skip (q_then (c_region ?_)))))
  refine s_y rfl (v := .pointer (some ⟨b, 0, none⟩)) (y_mv rfl) rfl ?_
  refine s_y rfl (v := .string ((putF w (u64 n)).1)) (y_mv rfl) rfl ?_
  refine s_y rfl (v := .int .i64 ((putF w (u64 n)).2)) (y_mv rfl) rfl ?_
  refine st rfl (o_call [0] [] (badd_ b r q ((putF w (u64 n)).1) ((putF w (u64 n)).2) (by first | omega | assumption | decide) (by have := putF_size w (u64 n); omega)) rfl rfl rfl rfl rfl rfl (fun v L' I' hq3 => ?_))
  obtain ⟨rfl, rfl, rfl⟩ := hq3
  refine s_nil ?_
  have hq_ : numE w n = (putF w (u64 n)).2 := if_neg (by assumption)
  refine c_fin_end (I' := []) [0] [0, 1, 2, 3, 4, 5, 6, 7, 8] rfl .nil rfl rfl rfl ?_
  rw [hq_]
  exact ⟨rfl, rfl, rfl⟩
theorem btext_ (b : Nat) (r : ByteArray) (q : Ec) (t : ByteArray) (ea : Addr) (em : Addr) (ef : Addr) (el : Addr) (h12 : ea ≠ em) (h13 : ea ≠ ef) (h23 : em ≠ ef) (hr : r.size ≤ 1000000) (ht : t.size ≤ 100000) : Con Tryz.prog 54 [.pointer (some ⟨b, 0, none⟩), .string t] [pt b [.string r, cwV q] 50] [cellsAt 2 0 [.iface 180 (.pointer (some ea))], cellsAt 3 0 [.iface 180 (.pointer (some em))], cellsAt 1 0 [.iface 180 (.pointer (some ef))], errAt ea, errAt em, errAt ef, cellsAt 4 0 [.iface 180 (.pointer (some el))], errAt el, cellsAt 0 0 [.iface 147 (.agg #[.pointer (some ⟨5, 48, none⟩)])]] (fun v L' I' => v = .tuple #[] ∧ L' = [pt b [.string (r ++ (ptextF t).1), cwV (addQ q (ptextF t).2)] 50] ∧ I' = []) := by
 refine fn_of Tryz.func54 rfl Tryz.ntmps54 (by kernel_rfl) rfl (fun C => ?_)
 refine c_region ?_
 refine s_y rfl (v := .pointer (some ⟨b, 0, none⟩)) (y_mv rfl) rfl ?_
 refine s_y rfl (v := .string t) (y_mv rfl) rfl ?_
 refine st rfl (o_call [] [0, 1, 2, 3, 4, 5, 8] (PutText_ t ea em ef (by assumption) (by assumption) (by assumption) (by first | omega | (rw [ByteArray.size_append]; omega) | decide | assumption)) rfl rfl rfl rfl rfl rfl (fun v L' I' hq1 => ?_))
 obtain ⟨rfl, rfl, rfl⟩ := hq1
 refine s_y rfl (v := .string ((ptextF t).1)) (y_k rfl rfl (fun _ => by kernel_rfl)) rfl ?_
 refine s_y rfl (v := .int .i64 ((ptextF t).2)) (y_k rfl rfl (fun _ => by kernel_rfl)) rfl ?_
 refine st rfl (o_call [0] [] (badd_ b r q ((ptextF t).1) ((ptextF t).2) (by first | omega | assumption | decide) (by have := ptextF_size t; omega)) rfl rfl rfl rfl rfl rfl (fun v L' I' hq2 => ?_))
 obtain ⟨rfl, rfl, rfl⟩ := hq2
 refine s_nil ?_
 refine c_fin_end (I' := []) [0] [0, 1, 2, 3, 4, 5, 6, 7, 8] rfl .nil rfl rfl rfl ?_
 exact ⟨rfl, rfl, rfl⟩
theorem blabel_ (b : Nat) (r : ByteArray) (q : Ec) (a : Lab) (ea : Addr) (em : Addr) (ef : Addr) (el : Addr) (h12 : ea ≠ em) (h13 : ea ≠ ef) (h23 : em ≠ ef) (hr : r.size ≤ 1000000) (h6a : lab64 a) : Con Tryz.prog 34 [.pointer (some ⟨b, 0, none⟩), .agg #[.int .i64 a.lv, .int .u64 (a.cs : Int), .int .i64 a.ig]] [pt b [.string r, cwV q] 50] [cellsAt 2 0 [.iface 180 (.pointer (some ea))], cellsAt 3 0 [.iface 180 (.pointer (some em))], cellsAt 1 0 [.iface 180 (.pointer (some ef))], errAt ea, errAt em, errAt ef, cellsAt 4 0 [.iface 180 (.pointer (some el))], errAt el, cellsAt 0 0 [.iface 147 (.agg #[.pointer (some ⟨5, 48, none⟩)])]] (fun v L' I' => v = .tuple #[] ∧ L' = [pt b [.string (r ++ (putL a).1), cwV (addQ q (putL a).2)] 50] ∧ I' = []) := by
 refine fn_of Tryz.func34 rfl Tryz.ntmps34 (by kernel_rfl) rfl (fun C => ?_)
 refine c_seq (c_region ?_)
 refine st rfl (o_box (cs := [.int .i64 a.lv, .int .u64 (a.cs : Int), .int .i64 a.ig]) (T := 24) rfl rfl rfl rfl (fun _ => by kernel_rfl) (fun b1 => ?_))
 refine s_nil (q_then (c_region ?_))
 refine s_y rfl (v := .pointer (some ⟨b, 0, none⟩)) (y_mv rfl) rfl ?_
 refine st rfl (o_ldn 0 3 rfl rfl rfl rfl Tryz.underlying24 rfl (by kernel_rfl) (by kernel_rfl) rfl ?_)
 refine st rfl (o_call [] [0, 1, 2, 3, 4, 5, 6, 7, 8] (lPut_ a ea em ef el (by assumption) (by assumption) (by assumption) (h6a)) rfl rfl rfl rfl rfl rfl (fun v L' I' hq1 => ?_))
 obtain ⟨rfl, rfl, rfl⟩ := hq1
 refine s_y rfl (v := .string ((putL a).1)) (y_k rfl rfl (fun _ => by kernel_rfl)) rfl ?_
 refine s_y rfl (v := .int .i64 ((putL a).2)) (y_k rfl rfl (fun _ => by kernel_rfl)) rfl ?_
 refine st rfl (o_call [1] [] (badd_ b r q ((putL a).1) ((putL a).2) (by first | omega | assumption | decide) (by have := putL_size h6a; omega)) rfl rfl rfl rfl rfl rfl (fun v L' I' hq2 => ?_))
 obtain ⟨rfl, rfl, rfl⟩ := hq2
 refine s_nil ?_
 refine c_fin_end (I' := []) [0] [0, 1, 2, 3, 4, 5, 6, 7, 8] rfl .nil rfl rfl rfl ?_
 exact ⟨rfl, rfl, rfl⟩
theorem bleft_ (b : Nat) (r : ByteArray) (q : Ec) (s : ByteArray) (e : Int) : Con Tryz.prog 51 [.pointer (some ⟨b, 0, none⟩), .string s, .int .i64 e] [pt b [.string r, cwV q] 50] [] (fun v L' I' => v = .tuple #[] ∧ L' = [pt b [.string s, cwV (addQ q e)] 50] ∧ I' = []) := by
 refine fn_of Tryz.func51 rfl Tryz.ntmps51 (by kernel_rfl) rfl (fun C => ?_)
 refine c_seq (c_region ?_)
 refine s_y rfl (v := .pointer (some ⟨b, 0, none⟩)) (y_mv rfl) rfl ?_
 refine s_y rfl (v := .string s) (y_mv rfl) rfl ?_
 refine s_y rfl (v := .pointer (some ⟨b, 0, none⟩)) (y_k rfl rfl (fun _ => by kernel_rfl)) rfl ?_
 refine s_y rfl (v := .pointer (some ⟨b, 0, none⟩)) (y_k rfl rfl (fun _ => by kernel_rfl)) rfl ?_
 refine st rfl (o_st 0 rfl rfl rfl rfl rfl (by kernel_rfl) (by kernel_rfl) rfl ?_)
 refine s_nil (q_then (c_seq (c_region ?_)))
 refine s_y rfl (v := .pointer (some ⟨b, 0, none⟩)) (y_mv rfl) rfl ?_
 refine s_y rfl (v := .pointer (some ⟨b, 0, none⟩)) (y_k rfl rfl (fun _ => by kernel_rfl)) rfl ?_
 refine s_y rfl (v := .pointer (some ⟨b, 1, none⟩)) (y_k rfl rfl (fun _ => by kernel_rfl)) rfl ?_
 refine st rfl (o_ld 0 rfl rfl rfl Tryz.underlying48 rfl rfl ?_)
 refine e_by (q = none) (fun h1 => ?_) (fun h1 => ?_)
 ·
  refine s_y rfl (v := .bool true) (y_t (y_bin rfl rfl (fun w => cw_eq q _ w)) h1) rfl ?_
  refine s_nil (q_then (c_true rfl (c_region ?_)))
  refine s_y rfl (v := .pointer (some ⟨b, 0, none⟩)) (y_mv rfl) rfl ?_
  refine s_y rfl (v := .int .i64 e) (y_mv rfl) rfl ?_
  refine st rfl (o_call [] [] (errOf_ e) rfl rfl rfl rfl rfl rfl (fun v L' I' hq1 => ?_))
  obtain ⟨rfl, rfl, rfl⟩ := hq1
  refine s_y rfl (v := .pointer (some ⟨b, 0, none⟩)) (y_k rfl rfl (fun _ => by kernel_rfl)) rfl ?_
  refine s_y rfl (v := .pointer (some ⟨b, 1, none⟩)) (y_k rfl rfl (fun _ => by kernel_rfl)) rfl ?_
  refine st rfl (o_st 0 rfl rfl rfl (cw_cells _) (cw_one _) (by kernel_rfl) (by kernel_rfl) rfl ?_)
  refine s_nil ?_
  have hq_ : addQ q e = ecI e := if_pos (by assumption)
  refine c_fin_end (I' := []) [0] [] rfl .nil rfl rfl rfl ?_
  rw [hq_]
  exact ⟨rfl, rfl, rfl⟩
 ·
  refine s_y rfl (v := .bool false) (y_f (y_bin rfl rfl (fun w => cw_eq q _ w)) h1) rfl ?_
  refine s_nil (q_then (c_false rfl (c_skip ?_)))
  have hq_ : addQ q e = q := if_neg (by assumption)
  refine c_fin_end (I' := []) [0] [] rfl .nil rfl rfl rfl ?_
  rw [hq_]
  exact ⟨rfl, rfl, rfl⟩
theorem btakeNumber_ (b : Nat) (r : ByteArray) (q : Ec) (w : Int) (ea : Addr) (em : Addr) (ef : Addr) (el : Addr) (h12 : ea ≠ em) (h13 : ea ≠ ef) (h23 : em ≠ ef) (hr : r.size ≤ 100000) (hw : w ≤ 4) : Con Tryz.prog 29 [.pointer (some ⟨b, 0, none⟩), .int .i64 w] [pt b [.string r, cwV q] 50] [cellsAt 2 0 [.iface 180 (.pointer (some ea))], cellsAt 3 0 [.iface 180 (.pointer (some em))], cellsAt 1 0 [.iface 180 (.pointer (some ef))], errAt ea, errAt em, errAt ef, cellsAt 4 0 [.iface 180 (.pointer (some el))], errAt el, cellsAt 0 0 [.iface 147 (.agg #[.pointer (some ⟨5, 48, none⟩)])]] (fun v L' I' => v = .int .i64 ((getF w r).1 : Int) ∧ L' = [pt b [.string ((getF w r).2.1), cwV (addQ q (getF w r).2.2)] 50] ∧ I' = []) := by
 refine fn_of Tryz.func29 rfl Tryz.ntmps29 (by kernel_rfl) rfl (fun C => ?_)
 refine c_seq (c_region ?_)
 refine s_y rfl (v := .int .i64 0) (y_as rfl) rfl ?_
 refine s_nil (q_then (c_seq (c_region ?_)))
 refine s_y rfl (v := .int .i64 w) (y_mv rfl) rfl ?_
 refine s_y rfl (v := .pointer (some ⟨b, 0, none⟩)) (y_mv rfl) rfl ?_
 refine s_y rfl (v := .pointer (some ⟨b, 0, none⟩)) (y_k rfl rfl (fun _ => by kernel_rfl)) rfl ?_
 refine s_y rfl (v := .pointer (some ⟨b, 0, none⟩)) (y_k rfl rfl (fun _ => by kernel_rfl)) rfl ?_
 refine st rfl (o_ld 0 rfl rfl rfl Tryz.underlying9 rfl rfl ?_)
 refine st rfl (o_call [] [0, 1, 2, 3, 4, 5, 8] (GetF_ w r ea em ef (by assumption) (by assumption) (by assumption) (by first | omega | (rw [ByteArray.size_append]; omega) | decide | assumption)) rfl rfl rfl rfl rfl rfl (fun v L' I' hq1 => ?_))
 obtain ⟨rfl, rfl, rfl⟩ := hq1
 refine s_y rfl (v := .tuple #[.int .u64 ((getF w r).1 : Int), .string ((getF w r).2.1), .int .i64 ((getF w r).2.2)]) (y_mv rfl) rfl ?_
 refine s_y rfl (v := .int .u64 ((getF w r).1 : Int)) (y_k rfl rfl (fun _ => by kernel_rfl)) rfl ?_
 refine s_y rfl (v := .string ((getF w r).2.1)) (y_k rfl rfl (fun _ => by kernel_rfl)) rfl ?_
 refine s_y rfl (v := .int .i64 ((getF w r).2.2)) (y_k rfl rfl (fun _ => by kernel_rfl)) rfl ?_
 refine s_y rfl (v := .int .u64 ((getF w r).1 : Int)) (y_as rfl) rfl ?_
 refine s_y rfl (v := .string ((getF w r).2.1)) (y_as rfl) rfl ?_
 refine s_y rfl (v := .int .i64 ((getF w r).2.2)) (y_as rfl) rfl ?_
 refine s_nil (q_then (c_seq (c_region ?_)))
 refine s_y rfl (v := .pointer (some ⟨b, 0, none⟩)) (y_mv rfl) rfl ?_
 refine s_y rfl (v := .string ((getF w r).2.1)) (y_mv rfl) rfl ?_
 refine s_y rfl (v := .int .i64 ((getF w r).2.2)) (y_mv rfl) rfl ?_
 refine st rfl (o_call [0] [] (bleft_ b r q ((getF w r).2.1) ((getF w r).2.2)) rfl rfl rfl rfl rfl rfl (fun v L' I' hq2 => ?_))
 obtain ⟨rfl, rfl, rfl⟩ := hq2
 refine s_nil (q_then (c_seq (c_region ?_)))
 refine s_y rfl (v := .int .u64 ((getF w r).1 : Int)) (y_mv rfl) rfl ?_
 refine s_y rfl (v := .int .i64 ((getF w r).1 : Int)) (y_cvi (r := ((getF w r).1 : Int)) rfl Tryz.underlying22 Tryz.underlying3 (wrap_in (by omega) (by have := getF_small (s := r) hw; omega))) rfl ?_
 refine s_y rfl (v := .int .i64 ((getF w r).1 : Int)) (y_as rfl) rfl ?_
 refine s_nil (q_then (c_ret ?_))
 refine c_fin (I' := []) [0] [0, 1, 2, 3, 4, 5, 6, 7, 8] rfl (.tmp rfl .nil) rfl rfl rfl ?_
 exact ⟨rfl, rfl, rfl⟩
theorem btakeText_ (b : Nat) (r : ByteArray) (q : Ec) (ea : Addr) (em : Addr) (ef : Addr) (el : Addr) (h12 : ea ≠ em) (h13 : ea ≠ ef) (h23 : em ≠ ef) (hr : r.size ≤ 100000) : Con Tryz.prog 37 [.pointer (some ⟨b, 0, none⟩)] [pt b [.string r, cwV q] 50] [cellsAt 2 0 [.iface 180 (.pointer (some ea))], cellsAt 3 0 [.iface 180 (.pointer (some em))], cellsAt 1 0 [.iface 180 (.pointer (some ef))], errAt ea, errAt em, errAt ef, cellsAt 4 0 [.iface 180 (.pointer (some el))], errAt el, cellsAt 0 0 [.iface 147 (.agg #[.pointer (some ⟨5, 48, none⟩)])]] (fun v L' I' => v = .string ((textF r).1) ∧ L' = [pt b [.string ((textF r).2.1), cwV (addQ q (textF r).2.2)] 50] ∧ I' = []) := by
 refine fn_of Tryz.func37 rfl Tryz.ntmps37 (by kernel_rfl) rfl (fun C => ?_)
 refine c_seq (c_region ?_)
 refine s_y rfl (v := .string (⟨#[]⟩ : ByteArray)) (y_as rfl) rfl ?_
 refine s_nil (q_then (c_seq (c_region ?_)))
 refine s_y rfl (v := .pointer (some ⟨b, 0, none⟩)) (y_mv rfl) rfl ?_
 refine s_y rfl (v := .pointer (some ⟨b, 0, none⟩)) (y_k rfl rfl (fun _ => by kernel_rfl)) rfl ?_
 refine s_y rfl (v := .pointer (some ⟨b, 0, none⟩)) (y_k rfl rfl (fun _ => by kernel_rfl)) rfl ?_
 refine st rfl (o_ld 0 rfl rfl rfl Tryz.underlying9 rfl rfl ?_)
 refine st rfl (o_call [] [0, 1, 2, 3, 4, 5, 8] (GetTextF_ r ea em ef (by assumption) (by assumption) (by assumption) (by first | omega | (rw [ByteArray.size_append]; omega) | decide | assumption)) rfl rfl rfl rfl rfl rfl (fun v L' I' hq1 => ?_))
 obtain ⟨rfl, rfl, rfl⟩ := hq1
 refine s_y rfl (v := .tuple #[.string ((textF r).1), .string ((textF r).2.1), .int .i64 ((textF r).2.2)]) (y_mv rfl) rfl ?_
 refine s_y rfl (v := .string ((textF r).1)) (y_k rfl rfl (fun _ => by kernel_rfl)) rfl ?_
 refine s_y rfl (v := .string ((textF r).2.1)) (y_k rfl rfl (fun _ => by kernel_rfl)) rfl ?_
 refine s_y rfl (v := .int .i64 ((textF r).2.2)) (y_k rfl rfl (fun _ => by kernel_rfl)) rfl ?_
 refine s_y rfl (v := .string ((textF r).1)) (y_as rfl) rfl ?_
 refine s_y rfl (v := .string ((textF r).2.1)) (y_as rfl) rfl ?_
 refine s_y rfl (v := .int .i64 ((textF r).2.2)) (y_as rfl) rfl ?_
 refine s_nil (q_then (c_seq (c_region ?_)))
 refine s_y rfl (v := .pointer (some ⟨b, 0, none⟩)) (y_mv rfl) rfl ?_
 refine s_y rfl (v := .string ((textF r).2.1)) (y_mv rfl) rfl ?_
 refine s_y rfl (v := .int .i64 ((textF r).2.2)) (y_mv rfl) rfl ?_
 refine st rfl (o_call [0] [] (bleft_ b r q ((textF r).2.1) ((textF r).2.2)) rfl rfl rfl rfl rfl rfl (fun v L' I' hq2 => ?_))
 obtain ⟨rfl, rfl, rfl⟩ := hq2
 refine s_nil (q_then (c_seq (c_region ?_)))
 refine s_y rfl (v := .string ((textF r).1)) (y_mv rfl) rfl ?_
 refine s_y rfl (v := .string ((textF r).1)) (y_as rfl) rfl ?_
 refine s_nil (q_then (c_ret ?_))
 refine c_fin (I' := []) [0] [0, 1, 2, 3, 4, 5, 6, 7, 8] rfl (.tmp rfl .nil) rfl rfl rfl ?_
 exact ⟨rfl, rfl, rfl⟩
theorem btakeLabel_ (b : Nat) (r : ByteArray) (q : Ec) (ea : Addr) (em : Addr) (ef : Addr) (el : Addr) (h12 : ea ≠ em) (h13 : ea ≠ ef) (h23 : em ≠ ef) (hr : r.size ≤ 100000) : Con Tryz.prog 38 [.pointer (some ⟨b, 0, none⟩)] [pt b [.string r, cwV q] 50] [cellsAt 2 0 [.iface 180 (.pointer (some ea))], cellsAt 3 0 [.iface 180 (.pointer (some em))], cellsAt 1 0 [.iface 180 (.pointer (some ef))], errAt ea, errAt em, errAt ef, cellsAt 4 0 [.iface 180 (.pointer (some el))], errAt el, cellsAt 0 0 [.iface 147 (.agg #[.pointer (some ⟨5, 48, none⟩)])]] (fun v L' I' => v = .agg #[.int .i64 (((labGet r).1).lv), .int .u64 (((labGet r).1).cs : Int), .int .i64 (((labGet r).1).ig)] ∧ L' = [pt b [.string ((labGet r).2.1), cwV (addQ q (labGet r).2.2)] 50] ∧ I' = []) := by
 refine fn_of Tryz.func38 rfl Tryz.ntmps38 (by kernel_rfl) rfl (fun C => ?_)
 refine c_seq (c_region ?_)
 refine st rfl (o_box (cs := [.int .i64 0, .int .u64 0, .int .i64 0]) (T := 24) rfl rfl rfl rfl (fun _ => by kernel_rfl) (fun b1 => ?_))
 refine s_nil (q_then (c_seq (c_region ?_)))
 refine s_y rfl (v := .pointer (some ⟨b, 0, none⟩)) (y_mv rfl) rfl ?_
 refine s_y rfl (v := .pointer (some ⟨b, 0, none⟩)) (y_k rfl rfl (fun _ => by kernel_rfl)) rfl ?_
 refine s_y rfl (v := .pointer (some ⟨b, 0, none⟩)) (y_k rfl rfl (fun _ => by kernel_rfl)) rfl ?_
 refine st rfl (o_ld 1 rfl rfl rfl Tryz.underlying9 rfl rfl ?_)
 refine st rfl (o_call [] [0, 1, 2, 3, 4, 5, 6, 7, 8] (lGet_ r ea em ef el (by assumption) (by assumption) (by assumption) (by first | omega | (rw [ByteArray.size_append]; omega) | decide | assumption)) rfl rfl rfl rfl rfl rfl (fun v L' I' hq1 => ?_))
 obtain ⟨rfl, rfl, rfl⟩ := hq1
 refine s_y rfl (v := .tuple #[.agg #[.int .i64 (((labGet r).1).lv), .int .u64 (((labGet r).1).cs : Int), .int .i64 (((labGet r).1).ig)], .string ((labGet r).2.1), .int .i64 ((labGet r).2.2)]) (y_mv rfl) rfl ?_
 refine s_y rfl (v := .agg #[.int .i64 (((labGet r).1).lv), .int .u64 (((labGet r).1).cs : Int), .int .i64 (((labGet r).1).ig)]) (y_k rfl rfl (fun _ => by kernel_rfl)) rfl ?_
 refine s_y rfl (v := .string ((labGet r).2.1)) (y_k rfl rfl (fun _ => by kernel_rfl)) rfl ?_
 refine s_y rfl (v := .int .i64 ((labGet r).2.2)) (y_k rfl rfl (fun _ => by kernel_rfl)) rfl ?_
 refine st rfl (o_box (cs := [.int .i64 0, .int .u64 0, .int .i64 0]) (T := 24) rfl rfl rfl rfl (fun _ => by kernel_rfl) (fun b2 => ?_))
 refine st rfl (o_st 0 rfl rfl rfl rfl rfl (by kernel_rfl) (by kernel_rfl) rfl ?_)
 refine s_y rfl (v := .string ((labGet r).2.1)) (y_as rfl) rfl ?_
 refine s_y rfl (v := .int .i64 ((labGet r).2.2)) (y_as rfl) rfl ?_
 refine s_nil (q_then (c_seq (c_region ?_)))
 refine s_y rfl (v := .pointer (some ⟨b, 0, none⟩)) (y_mv rfl) rfl ?_
 refine s_y rfl (v := .string ((labGet r).2.1)) (y_mv rfl) rfl ?_
 refine s_y rfl (v := .int .i64 ((labGet r).2.2)) (y_mv rfl) rfl ?_
 refine st rfl (o_call [2] [] (bleft_ b r q ((labGet r).2.1) ((labGet r).2.2)) rfl rfl rfl rfl rfl rfl (fun v L' I' hq2 => ?_))
 obtain ⟨rfl, rfl, rfl⟩ := hq2
 refine s_nil (q_then (c_seq (c_region ?_)))
 refine st rfl (o_ldn 1 3 rfl rfl rfl rfl Tryz.underlying24 rfl (by kernel_rfl) (by kernel_rfl) rfl ?_)
 refine st rfl (o_st 2 rfl rfl rfl rfl rfl (by kernel_rfl) (by kernel_rfl) rfl ?_)
 refine s_nil (q_then (c_ret ?_))
 refine c_fin (I' := []) [0] [0, 1, 2, 3, 4, 5, 6, 7, 8] rfl (.agg 2 3 rfl rfl rfl rfl Tryz.underlying24 rfl (by kernel_rfl) (by kernel_rfl) .nil) rfl rfl rfl ?_
 exact ⟨rfl, rfl, rfl⟩
theorem wnumber_ (b : Nat) (r : ByteArray) (q : Ec) (c : Cal) (w : Int) (n : Int) (ea : Addr) (em : Addr) (ef : Addr) (el : Addr) (h12 : ea ≠ em) (h13 : ea ≠ ef) (h23 : em ≠ ef) (hr : r.size ≤ 1000000) : Con Tryz.prog 23 [.pointer (some ⟨b, 0, none⟩), .int .i64 w, .int .i64 n] [pt b [.string r, cwV q, .int .i64 c.op, .int .i64 c.lb.lv, .int .u64 (c.lb.cs : Int), .int .i64 c.lb.ig, .string c.nm, .int .i64 c.pl, .int .i64 c.nn, .string c.da, .int .i64 c.id] 52] [cellsAt 2 0 [.iface 180 (.pointer (some ea))], cellsAt 3 0 [.iface 180 (.pointer (some em))], cellsAt 1 0 [.iface 180 (.pointer (some ef))], errAt ea, errAt em, errAt ef, cellsAt 4 0 [.iface 180 (.pointer (some el))], errAt el, cellsAt 0 0 [.iface 147 (.agg #[.pointer (some ⟨5, 48, none⟩)])]] (fun v L' I' => v = .tuple #[] ∧ L' = [pt b [.string (r ++ (putF w (u64 n)).1), cwV (addQ q (numE w n)), .int .i64 c.op, .int .i64 c.lb.lv, .int .u64 (c.lb.cs : Int), .int .i64 c.lb.ig, .string c.nm, .int .i64 c.pl, .int .i64 c.nn, .string c.da, .int .i64 c.id] 52] ∧ I' = []) := by
 refine fn_of Tryz.func23 rfl Tryz.ntmps23 (by kernel_rfl) rfl (fun C => ?_)
 refine c_seq (c_region ?_)
 refine s_y rfl (v := .int .i64 w) (y_mv rfl) rfl ?_
 refine s_y rfl (v := .int .i64 n) (y_mv rfl) rfl ?_
 refine s_y rfl (v := .int .u64 ((u64 n) : Int)) (y_cvi (r := ((u64 n) : Int)) rfl Tryz.underlying3 Tryz.underlying22 (u64_wrap _)) rfl ?_
 refine st rfl (o_call [] [0, 1, 2, 3, 4, 5, 8] (Put_ w (u64 n) ea em ef (by assumption) (by assumption) (by assumption) (u64_lt _)) rfl rfl rfl rfl rfl rfl (fun v L' I' hq1 => ?_))
 obtain ⟨rfl, rfl, rfl⟩ := hq1
 refine s_y rfl (v := .tuple #[.string ((putF w (u64 n)).1), .int .i64 ((putF w (u64 n)).2)]) (y_mv rfl) rfl ?_
 refine s_y rfl (v := .string ((putF w (u64 n)).1)) (y_k rfl rfl (fun _ => by kernel_rfl)) rfl ?_
 refine s_y rfl (v := .int .i64 ((putF w (u64 n)).2)) (y_k rfl rfl (fun _ => by kernel_rfl)) rfl ?_
 refine s_y rfl (v := .string ((putF w (u64 n)).1)) (y_as rfl) rfl ?_
 refine s_y rfl (v := .int .i64 ((putF w (u64 n)).2)) (y_as rfl) rfl ?_
 refine s_nil (q_then (c_seq (c_seq (c_region ?_))))
 refine s_y rfl (v := .int .i64 n) (y_mv rfl) rfl ?_
 refine e_by (n < 0) (fun h24 => ?_) (fun h24 => ?_)
 ·
  refine s_y rfl (v := .bool true) (y_t (y_k (v := .bool (decide (n < 0))) rfl rfl (fun _ => by kernel_rfl)) h24) rfl ?_
  refine s_nil (q_then (c_true rfl (c_region ?_)))
  refine s_y rfl (v := .int .i64 31) (y_as rfl) rfl ?_
  refine s_nil (q_then (c_region ?_))
  refine s_y rfl (v := .pointer (some ⟨b, 0, none⟩)) (y_mv rfl) rfl ?_
  refine s_y rfl (v := .string ((putF w (u64 n)).1)) (y_mv rfl) rfl ?_
  refine s_y rfl (v := .int .i64 31) (y_mv rfl) rfl ?_
  refine st rfl (o_call [0] [] (wadd_ b r q c ((putF w (u64 n)).1) (31 : Int) (by first | omega | assumption | decide) (by have := putF_size w (u64 n); omega)) rfl rfl rfl rfl rfl rfl (fun v L' I' hq2 => ?_))
  obtain ⟨rfl, rfl, rfl⟩ := hq2
  refine s_nil ?_
  have hq_ : numE w n = 31 := if_pos (by assumption)
  refine c_fin_end (I' := []) [0] [0, 1, 2, 3, 4, 5, 6, 7, 8] rfl .nil rfl rfl rfl ?_
  rw [hq_]
  exact ⟨rfl, rfl, rfl⟩
 ·
  refine s_y rfl (v := .bool false) (y_f (y_k (v := .bool (decide (n < 0))) rfl rfl (fun _ => by kernel_rfl)) h24) rfl ?_
  refine s_nil (q_then (c_false rfl (c_skip (q_then (c_region ?_)))))
  refine s_y rfl (v := .pointer (some ⟨b, 0, none⟩)) (y_mv rfl) rfl ?_
  refine s_y rfl (v := .string ((putF w (u64 n)).1)) (y_mv rfl) rfl ?_
  refine s_y rfl (v := .int .i64 ((putF w (u64 n)).2)) (y_mv rfl) rfl ?_
  refine st rfl (o_call [0] [] (wadd_ b r q c ((putF w (u64 n)).1) ((putF w (u64 n)).2) (by first | omega | assumption | decide) (by have := putF_size w (u64 n); omega)) rfl rfl rfl rfl rfl rfl (fun v L' I' hq3 => ?_))
  obtain ⟨rfl, rfl, rfl⟩ := hq3
  refine s_nil ?_
  have hq_ : numE w n = (putF w (u64 n)).2 := if_neg (by assumption)
  refine c_fin_end (I' := []) [0] [0, 1, 2, 3, 4, 5, 6, 7, 8] rfl .nil rfl rfl rfl ?_
  rw [hq_]
  exact ⟨rfl, rfl, rfl⟩
theorem wtext_ (b : Nat) (r : ByteArray) (q : Ec) (c : Cal) (t : ByteArray) (ea : Addr) (em : Addr) (ef : Addr) (el : Addr) (h12 : ea ≠ em) (h13 : ea ≠ ef) (h23 : em ≠ ef) (hr : r.size ≤ 1000000) (ht : t.size ≤ 100000) : Con Tryz.prog 54 [.pointer (some ⟨b, 0, none⟩), .string t] [pt b [.string r, cwV q, .int .i64 c.op, .int .i64 c.lb.lv, .int .u64 (c.lb.cs : Int), .int .i64 c.lb.ig, .string c.nm, .int .i64 c.pl, .int .i64 c.nn, .string c.da, .int .i64 c.id] 52] [cellsAt 2 0 [.iface 180 (.pointer (some ea))], cellsAt 3 0 [.iface 180 (.pointer (some em))], cellsAt 1 0 [.iface 180 (.pointer (some ef))], errAt ea, errAt em, errAt ef, cellsAt 4 0 [.iface 180 (.pointer (some el))], errAt el, cellsAt 0 0 [.iface 147 (.agg #[.pointer (some ⟨5, 48, none⟩)])]] (fun v L' I' => v = .tuple #[] ∧ L' = [pt b [.string (r ++ (ptextF t).1), cwV (addQ q (ptextF t).2), .int .i64 c.op, .int .i64 c.lb.lv, .int .u64 (c.lb.cs : Int), .int .i64 c.lb.ig, .string c.nm, .int .i64 c.pl, .int .i64 c.nn, .string c.da, .int .i64 c.id] 52] ∧ I' = []) := by
 refine fn_of Tryz.func54 rfl Tryz.ntmps54 (by kernel_rfl) rfl (fun C => ?_)
 refine c_region ?_
 refine s_y rfl (v := .pointer (some ⟨b, 0, none⟩)) (y_mv rfl) rfl ?_
 refine s_y rfl (v := .string t) (y_mv rfl) rfl ?_
 refine st rfl (o_call [] [0, 1, 2, 3, 4, 5, 8] (PutText_ t ea em ef (by assumption) (by assumption) (by assumption) (by first | omega | (rw [ByteArray.size_append]; omega) | decide | assumption)) rfl rfl rfl rfl rfl rfl (fun v L' I' hq1 => ?_))
 obtain ⟨rfl, rfl, rfl⟩ := hq1
 refine s_y rfl (v := .string ((ptextF t).1)) (y_k rfl rfl (fun _ => by kernel_rfl)) rfl ?_
 refine s_y rfl (v := .int .i64 ((ptextF t).2)) (y_k rfl rfl (fun _ => by kernel_rfl)) rfl ?_
 refine st rfl (o_call [0] [] (wadd_ b r q c ((ptextF t).1) ((ptextF t).2) (by first | omega | assumption | decide) (by have := ptextF_size t; omega)) rfl rfl rfl rfl rfl rfl (fun v L' I' hq2 => ?_))
 obtain ⟨rfl, rfl, rfl⟩ := hq2
 refine s_nil ?_
 refine c_fin_end (I' := []) [0] [0, 1, 2, 3, 4, 5, 6, 7, 8] rfl .nil rfl rfl rfl ?_
 exact ⟨rfl, rfl, rfl⟩
theorem wlabel_ (b : Nat) (r : ByteArray) (q : Ec) (c : Cal) (a : Lab) (ea : Addr) (em : Addr) (ef : Addr) (el : Addr) (h12 : ea ≠ em) (h13 : ea ≠ ef) (h23 : em ≠ ef) (hr : r.size ≤ 1000000) (h6a : lab64 a) : Con Tryz.prog 34 [.pointer (some ⟨b, 0, none⟩), .agg #[.int .i64 a.lv, .int .u64 (a.cs : Int), .int .i64 a.ig]] [pt b [.string r, cwV q, .int .i64 c.op, .int .i64 c.lb.lv, .int .u64 (c.lb.cs : Int), .int .i64 c.lb.ig, .string c.nm, .int .i64 c.pl, .int .i64 c.nn, .string c.da, .int .i64 c.id] 52] [cellsAt 2 0 [.iface 180 (.pointer (some ea))], cellsAt 3 0 [.iface 180 (.pointer (some em))], cellsAt 1 0 [.iface 180 (.pointer (some ef))], errAt ea, errAt em, errAt ef, cellsAt 4 0 [.iface 180 (.pointer (some el))], errAt el, cellsAt 0 0 [.iface 147 (.agg #[.pointer (some ⟨5, 48, none⟩)])]] (fun v L' I' => v = .tuple #[] ∧ L' = [pt b [.string (r ++ (putL a).1), cwV (addQ q (putL a).2), .int .i64 c.op, .int .i64 c.lb.lv, .int .u64 (c.lb.cs : Int), .int .i64 c.lb.ig, .string c.nm, .int .i64 c.pl, .int .i64 c.nn, .string c.da, .int .i64 c.id] 52] ∧ I' = []) := by
 refine fn_of Tryz.func34 rfl Tryz.ntmps34 (by kernel_rfl) rfl (fun C => ?_)
 refine c_seq (c_region ?_)
 refine st rfl (o_box (cs := [.int .i64 a.lv, .int .u64 (a.cs : Int), .int .i64 a.ig]) (T := 24) rfl rfl rfl rfl (fun _ => by kernel_rfl) (fun b1 => ?_))
 refine s_nil (q_then (c_region ?_))
 refine s_y rfl (v := .pointer (some ⟨b, 0, none⟩)) (y_mv rfl) rfl ?_
 refine st rfl (o_ldn 0 3 rfl rfl rfl rfl Tryz.underlying24 rfl (by kernel_rfl) (by kernel_rfl) rfl ?_)
 refine st rfl (o_call [] [0, 1, 2, 3, 4, 5, 6, 7, 8] (lPut_ a ea em ef el (by assumption) (by assumption) (by assumption) (h6a)) rfl rfl rfl rfl rfl rfl (fun v L' I' hq1 => ?_))
 obtain ⟨rfl, rfl, rfl⟩ := hq1
 refine s_y rfl (v := .string ((putL a).1)) (y_k rfl rfl (fun _ => by kernel_rfl)) rfl ?_
 refine s_y rfl (v := .int .i64 ((putL a).2)) (y_k rfl rfl (fun _ => by kernel_rfl)) rfl ?_
 refine st rfl (o_call [1] [] (wadd_ b r q c ((putL a).1) ((putL a).2) (by first | omega | assumption | decide) (by have := putL_size h6a; omega)) rfl rfl rfl rfl rfl rfl (fun v L' I' hq2 => ?_))
 obtain ⟨rfl, rfl, rfl⟩ := hq2
 refine s_nil ?_
 refine c_fin_end (I' := []) [0] [0, 1, 2, 3, 4, 5, 6, 7, 8] rfl .nil rfl rfl rfl ?_
 exact ⟨rfl, rfl, rfl⟩
theorem wleft_ (b : Nat) (r : ByteArray) (q : Ec) (c : Cal) (s : ByteArray) (e : Int) : Con Tryz.prog 51 [.pointer (some ⟨b, 0, none⟩), .string s, .int .i64 e] [pt b [.string r, cwV q, .int .i64 c.op, .int .i64 c.lb.lv, .int .u64 (c.lb.cs : Int), .int .i64 c.lb.ig, .string c.nm, .int .i64 c.pl, .int .i64 c.nn, .string c.da, .int .i64 c.id] 52] [] (fun v L' I' => v = .tuple #[] ∧ L' = [pt b [.string s, cwV (addQ q e), .int .i64 c.op, .int .i64 c.lb.lv, .int .u64 (c.lb.cs : Int), .int .i64 c.lb.ig, .string c.nm, .int .i64 c.pl, .int .i64 c.nn, .string c.da, .int .i64 c.id] 52] ∧ I' = []) := by
 refine fn_of Tryz.func51 rfl Tryz.ntmps51 (by kernel_rfl) rfl (fun C => ?_)
 refine c_seq (c_region ?_)
 refine s_y rfl (v := .pointer (some ⟨b, 0, none⟩)) (y_mv rfl) rfl ?_
 refine s_y rfl (v := .string s) (y_mv rfl) rfl ?_
 refine s_y rfl (v := .pointer (some ⟨b, 0, none⟩)) (y_k rfl rfl (fun _ => by kernel_rfl)) rfl ?_
 refine s_y rfl (v := .pointer (some ⟨b, 0, none⟩)) (y_k rfl rfl (fun _ => by kernel_rfl)) rfl ?_
 refine st rfl (o_st 0 rfl rfl rfl rfl rfl (by kernel_rfl) (by kernel_rfl) rfl ?_)
 refine s_nil (q_then (c_seq (c_region ?_)))
 refine s_y rfl (v := .pointer (some ⟨b, 0, none⟩)) (y_mv rfl) rfl ?_
 refine s_y rfl (v := .pointer (some ⟨b, 0, none⟩)) (y_k rfl rfl (fun _ => by kernel_rfl)) rfl ?_
 refine s_y rfl (v := .pointer (some ⟨b, 1, none⟩)) (y_k rfl rfl (fun _ => by kernel_rfl)) rfl ?_
 refine st rfl (o_ld 0 rfl rfl rfl Tryz.underlying48 rfl rfl ?_)
 refine e_by (q = none) (fun h1 => ?_) (fun h1 => ?_)
 ·
  refine s_y rfl (v := .bool true) (y_t (y_bin rfl rfl (fun w => cw_eq q _ w)) h1) rfl ?_
  refine s_nil (q_then (c_true rfl (c_region ?_)))
  refine s_y rfl (v := .pointer (some ⟨b, 0, none⟩)) (y_mv rfl) rfl ?_
  refine s_y rfl (v := .int .i64 e) (y_mv rfl) rfl ?_
  refine st rfl (o_call [] [] (errOf_ e) rfl rfl rfl rfl rfl rfl (fun v L' I' hq1 => ?_))
  obtain ⟨rfl, rfl, rfl⟩ := hq1
  refine s_y rfl (v := .pointer (some ⟨b, 0, none⟩)) (y_k rfl rfl (fun _ => by kernel_rfl)) rfl ?_
  refine s_y rfl (v := .pointer (some ⟨b, 1, none⟩)) (y_k rfl rfl (fun _ => by kernel_rfl)) rfl ?_
  refine st rfl (o_st 0 rfl rfl rfl (cw_cells _) (cw_one _) (by kernel_rfl) (by kernel_rfl) rfl ?_)
  refine s_nil ?_
  have hq_ : addQ q e = ecI e := if_pos (by assumption)
  refine c_fin_end (I' := []) [0] [] rfl .nil rfl rfl rfl ?_
  rw [hq_]
  exact ⟨rfl, rfl, rfl⟩
 ·
  refine s_y rfl (v := .bool false) (y_f (y_bin rfl rfl (fun w => cw_eq q _ w)) h1) rfl ?_
  refine s_nil (q_then (c_false rfl (c_skip ?_)))
  have hq_ : addQ q e = q := if_neg (by assumption)
  refine c_fin_end (I' := []) [0] [] rfl .nil rfl rfl rfl ?_
  rw [hq_]
  exact ⟨rfl, rfl, rfl⟩
theorem wtakeNumber_ (b : Nat) (r : ByteArray) (q : Ec) (c : Cal) (w : Int) (ea : Addr) (em : Addr) (ef : Addr) (el : Addr) (h12 : ea ≠ em) (h13 : ea ≠ ef) (h23 : em ≠ ef) (hr : r.size ≤ 100000) (hw : w ≤ 4) : Con Tryz.prog 29 [.pointer (some ⟨b, 0, none⟩), .int .i64 w] [pt b [.string r, cwV q, .int .i64 c.op, .int .i64 c.lb.lv, .int .u64 (c.lb.cs : Int), .int .i64 c.lb.ig, .string c.nm, .int .i64 c.pl, .int .i64 c.nn, .string c.da, .int .i64 c.id] 52] [cellsAt 2 0 [.iface 180 (.pointer (some ea))], cellsAt 3 0 [.iface 180 (.pointer (some em))], cellsAt 1 0 [.iface 180 (.pointer (some ef))], errAt ea, errAt em, errAt ef, cellsAt 4 0 [.iface 180 (.pointer (some el))], errAt el, cellsAt 0 0 [.iface 147 (.agg #[.pointer (some ⟨5, 48, none⟩)])]] (fun v L' I' => v = .int .i64 ((getF w r).1 : Int) ∧ L' = [pt b [.string ((getF w r).2.1), cwV (addQ q (getF w r).2.2), .int .i64 c.op, .int .i64 c.lb.lv, .int .u64 (c.lb.cs : Int), .int .i64 c.lb.ig, .string c.nm, .int .i64 c.pl, .int .i64 c.nn, .string c.da, .int .i64 c.id] 52] ∧ I' = []) := by
 refine fn_of Tryz.func29 rfl Tryz.ntmps29 (by kernel_rfl) rfl (fun C => ?_)
 refine c_seq (c_region ?_)
 refine s_y rfl (v := .int .i64 0) (y_as rfl) rfl ?_
 refine s_nil (q_then (c_seq (c_region ?_)))
 refine s_y rfl (v := .int .i64 w) (y_mv rfl) rfl ?_
 refine s_y rfl (v := .pointer (some ⟨b, 0, none⟩)) (y_mv rfl) rfl ?_
 refine s_y rfl (v := .pointer (some ⟨b, 0, none⟩)) (y_k rfl rfl (fun _ => by kernel_rfl)) rfl ?_
 refine s_y rfl (v := .pointer (some ⟨b, 0, none⟩)) (y_k rfl rfl (fun _ => by kernel_rfl)) rfl ?_
 refine st rfl (o_ld 0 rfl rfl rfl Tryz.underlying9 rfl rfl ?_)
 refine st rfl (o_call [] [0, 1, 2, 3, 4, 5, 8] (GetF_ w r ea em ef (by assumption) (by assumption) (by assumption) (by first | omega | (rw [ByteArray.size_append]; omega) | decide | assumption)) rfl rfl rfl rfl rfl rfl (fun v L' I' hq1 => ?_))
 obtain ⟨rfl, rfl, rfl⟩ := hq1
 refine s_y rfl (v := .tuple #[.int .u64 ((getF w r).1 : Int), .string ((getF w r).2.1), .int .i64 ((getF w r).2.2)]) (y_mv rfl) rfl ?_
 refine s_y rfl (v := .int .u64 ((getF w r).1 : Int)) (y_k rfl rfl (fun _ => by kernel_rfl)) rfl ?_
 refine s_y rfl (v := .string ((getF w r).2.1)) (y_k rfl rfl (fun _ => by kernel_rfl)) rfl ?_
 refine s_y rfl (v := .int .i64 ((getF w r).2.2)) (y_k rfl rfl (fun _ => by kernel_rfl)) rfl ?_
 refine s_y rfl (v := .int .u64 ((getF w r).1 : Int)) (y_as rfl) rfl ?_
 refine s_y rfl (v := .string ((getF w r).2.1)) (y_as rfl) rfl ?_
 refine s_y rfl (v := .int .i64 ((getF w r).2.2)) (y_as rfl) rfl ?_
 refine s_nil (q_then (c_seq (c_region ?_)))
 refine s_y rfl (v := .pointer (some ⟨b, 0, none⟩)) (y_mv rfl) rfl ?_
 refine s_y rfl (v := .string ((getF w r).2.1)) (y_mv rfl) rfl ?_
 refine s_y rfl (v := .int .i64 ((getF w r).2.2)) (y_mv rfl) rfl ?_
 refine st rfl (o_call [0] [] (wleft_ b r q c ((getF w r).2.1) ((getF w r).2.2)) rfl rfl rfl rfl rfl rfl (fun v L' I' hq2 => ?_))
 obtain ⟨rfl, rfl, rfl⟩ := hq2
 refine s_nil (q_then (c_seq (c_region ?_)))
 refine s_y rfl (v := .int .u64 ((getF w r).1 : Int)) (y_mv rfl) rfl ?_
 refine s_y rfl (v := .int .i64 ((getF w r).1 : Int)) (y_cvi (r := ((getF w r).1 : Int)) rfl Tryz.underlying22 Tryz.underlying3 (wrap_in (by omega) (by have := getF_small (s := r) hw; omega))) rfl ?_
 refine s_y rfl (v := .int .i64 ((getF w r).1 : Int)) (y_as rfl) rfl ?_
 refine s_nil (q_then (c_ret ?_))
 refine c_fin (I' := []) [0] [0, 1, 2, 3, 4, 5, 6, 7, 8] rfl (.tmp rfl .nil) rfl rfl rfl ?_
 exact ⟨rfl, rfl, rfl⟩
theorem wtakeText_ (b : Nat) (r : ByteArray) (q : Ec) (c : Cal) (ea : Addr) (em : Addr) (ef : Addr) (el : Addr) (h12 : ea ≠ em) (h13 : ea ≠ ef) (h23 : em ≠ ef) (hr : r.size ≤ 100000) : Con Tryz.prog 37 [.pointer (some ⟨b, 0, none⟩)] [pt b [.string r, cwV q, .int .i64 c.op, .int .i64 c.lb.lv, .int .u64 (c.lb.cs : Int), .int .i64 c.lb.ig, .string c.nm, .int .i64 c.pl, .int .i64 c.nn, .string c.da, .int .i64 c.id] 52] [cellsAt 2 0 [.iface 180 (.pointer (some ea))], cellsAt 3 0 [.iface 180 (.pointer (some em))], cellsAt 1 0 [.iface 180 (.pointer (some ef))], errAt ea, errAt em, errAt ef, cellsAt 4 0 [.iface 180 (.pointer (some el))], errAt el, cellsAt 0 0 [.iface 147 (.agg #[.pointer (some ⟨5, 48, none⟩)])]] (fun v L' I' => v = .string ((textF r).1) ∧ L' = [pt b [.string ((textF r).2.1), cwV (addQ q (textF r).2.2), .int .i64 c.op, .int .i64 c.lb.lv, .int .u64 (c.lb.cs : Int), .int .i64 c.lb.ig, .string c.nm, .int .i64 c.pl, .int .i64 c.nn, .string c.da, .int .i64 c.id] 52] ∧ I' = []) := by
 refine fn_of Tryz.func37 rfl Tryz.ntmps37 (by kernel_rfl) rfl (fun C => ?_)
 refine c_seq (c_region ?_)
 refine s_y rfl (v := .string (⟨#[]⟩ : ByteArray)) (y_as rfl) rfl ?_
 refine s_nil (q_then (c_seq (c_region ?_)))
 refine s_y rfl (v := .pointer (some ⟨b, 0, none⟩)) (y_mv rfl) rfl ?_
 refine s_y rfl (v := .pointer (some ⟨b, 0, none⟩)) (y_k rfl rfl (fun _ => by kernel_rfl)) rfl ?_
 refine s_y rfl (v := .pointer (some ⟨b, 0, none⟩)) (y_k rfl rfl (fun _ => by kernel_rfl)) rfl ?_
 refine st rfl (o_ld 0 rfl rfl rfl Tryz.underlying9 rfl rfl ?_)
 refine st rfl (o_call [] [0, 1, 2, 3, 4, 5, 8] (GetTextF_ r ea em ef (by assumption) (by assumption) (by assumption) (by first | omega | (rw [ByteArray.size_append]; omega) | decide | assumption)) rfl rfl rfl rfl rfl rfl (fun v L' I' hq1 => ?_))
 obtain ⟨rfl, rfl, rfl⟩ := hq1
 refine s_y rfl (v := .tuple #[.string ((textF r).1), .string ((textF r).2.1), .int .i64 ((textF r).2.2)]) (y_mv rfl) rfl ?_
 refine s_y rfl (v := .string ((textF r).1)) (y_k rfl rfl (fun _ => by kernel_rfl)) rfl ?_
 refine s_y rfl (v := .string ((textF r).2.1)) (y_k rfl rfl (fun _ => by kernel_rfl)) rfl ?_
 refine s_y rfl (v := .int .i64 ((textF r).2.2)) (y_k rfl rfl (fun _ => by kernel_rfl)) rfl ?_
 refine s_y rfl (v := .string ((textF r).1)) (y_as rfl) rfl ?_
 refine s_y rfl (v := .string ((textF r).2.1)) (y_as rfl) rfl ?_
 refine s_y rfl (v := .int .i64 ((textF r).2.2)) (y_as rfl) rfl ?_
 refine s_nil (q_then (c_seq (c_region ?_)))
 refine s_y rfl (v := .pointer (some ⟨b, 0, none⟩)) (y_mv rfl) rfl ?_
 refine s_y rfl (v := .string ((textF r).2.1)) (y_mv rfl) rfl ?_
 refine s_y rfl (v := .int .i64 ((textF r).2.2)) (y_mv rfl) rfl ?_
 refine st rfl (o_call [0] [] (wleft_ b r q c ((textF r).2.1) ((textF r).2.2)) rfl rfl rfl rfl rfl rfl (fun v L' I' hq2 => ?_))
 obtain ⟨rfl, rfl, rfl⟩ := hq2
 refine s_nil (q_then (c_seq (c_region ?_)))
 refine s_y rfl (v := .string ((textF r).1)) (y_mv rfl) rfl ?_
 refine s_y rfl (v := .string ((textF r).1)) (y_as rfl) rfl ?_
 refine s_nil (q_then (c_ret ?_))
 refine c_fin (I' := []) [0] [0, 1, 2, 3, 4, 5, 6, 7, 8] rfl (.tmp rfl .nil) rfl rfl rfl ?_
 exact ⟨rfl, rfl, rfl⟩
theorem wtakeLabel_ (b : Nat) (r : ByteArray) (q : Ec) (c : Cal) (ea : Addr) (em : Addr) (ef : Addr) (el : Addr) (h12 : ea ≠ em) (h13 : ea ≠ ef) (h23 : em ≠ ef) (hr : r.size ≤ 100000) : Con Tryz.prog 38 [.pointer (some ⟨b, 0, none⟩)] [pt b [.string r, cwV q, .int .i64 c.op, .int .i64 c.lb.lv, .int .u64 (c.lb.cs : Int), .int .i64 c.lb.ig, .string c.nm, .int .i64 c.pl, .int .i64 c.nn, .string c.da, .int .i64 c.id] 52] [cellsAt 2 0 [.iface 180 (.pointer (some ea))], cellsAt 3 0 [.iface 180 (.pointer (some em))], cellsAt 1 0 [.iface 180 (.pointer (some ef))], errAt ea, errAt em, errAt ef, cellsAt 4 0 [.iface 180 (.pointer (some el))], errAt el, cellsAt 0 0 [.iface 147 (.agg #[.pointer (some ⟨5, 48, none⟩)])]] (fun v L' I' => v = .agg #[.int .i64 (((labGet r).1).lv), .int .u64 (((labGet r).1).cs : Int), .int .i64 (((labGet r).1).ig)] ∧ L' = [pt b [.string ((labGet r).2.1), cwV (addQ q (labGet r).2.2), .int .i64 c.op, .int .i64 c.lb.lv, .int .u64 (c.lb.cs : Int), .int .i64 c.lb.ig, .string c.nm, .int .i64 c.pl, .int .i64 c.nn, .string c.da, .int .i64 c.id] 52] ∧ I' = []) := by
 refine fn_of Tryz.func38 rfl Tryz.ntmps38 (by kernel_rfl) rfl (fun C => ?_)
 refine c_seq (c_region ?_)
 refine st rfl (o_box (cs := [.int .i64 0, .int .u64 0, .int .i64 0]) (T := 24) rfl rfl rfl rfl (fun _ => by kernel_rfl) (fun b1 => ?_))
 refine s_nil (q_then (c_seq (c_region ?_)))
 refine s_y rfl (v := .pointer (some ⟨b, 0, none⟩)) (y_mv rfl) rfl ?_
 refine s_y rfl (v := .pointer (some ⟨b, 0, none⟩)) (y_k rfl rfl (fun _ => by kernel_rfl)) rfl ?_
 refine s_y rfl (v := .pointer (some ⟨b, 0, none⟩)) (y_k rfl rfl (fun _ => by kernel_rfl)) rfl ?_
 refine st rfl (o_ld 1 rfl rfl rfl Tryz.underlying9 rfl rfl ?_)
 refine st rfl (o_call [] [0, 1, 2, 3, 4, 5, 6, 7, 8] (lGet_ r ea em ef el (by assumption) (by assumption) (by assumption) (by first | omega | (rw [ByteArray.size_append]; omega) | decide | assumption)) rfl rfl rfl rfl rfl rfl (fun v L' I' hq1 => ?_))
 obtain ⟨rfl, rfl, rfl⟩ := hq1
 refine s_y rfl (v := .tuple #[.agg #[.int .i64 (((labGet r).1).lv), .int .u64 (((labGet r).1).cs : Int), .int .i64 (((labGet r).1).ig)], .string ((labGet r).2.1), .int .i64 ((labGet r).2.2)]) (y_mv rfl) rfl ?_
 refine s_y rfl (v := .agg #[.int .i64 (((labGet r).1).lv), .int .u64 (((labGet r).1).cs : Int), .int .i64 (((labGet r).1).ig)]) (y_k rfl rfl (fun _ => by kernel_rfl)) rfl ?_
 refine s_y rfl (v := .string ((labGet r).2.1)) (y_k rfl rfl (fun _ => by kernel_rfl)) rfl ?_
 refine s_y rfl (v := .int .i64 ((labGet r).2.2)) (y_k rfl rfl (fun _ => by kernel_rfl)) rfl ?_
 refine st rfl (o_box (cs := [.int .i64 0, .int .u64 0, .int .i64 0]) (T := 24) rfl rfl rfl rfl (fun _ => by kernel_rfl) (fun b2 => ?_))
 refine st rfl (o_st 0 rfl rfl rfl rfl rfl (by kernel_rfl) (by kernel_rfl) rfl ?_)
 refine s_y rfl (v := .string ((labGet r).2.1)) (y_as rfl) rfl ?_
 refine s_y rfl (v := .int .i64 ((labGet r).2.2)) (y_as rfl) rfl ?_
 refine s_nil (q_then (c_seq (c_region ?_)))
 refine s_y rfl (v := .pointer (some ⟨b, 0, none⟩)) (y_mv rfl) rfl ?_
 refine s_y rfl (v := .string ((labGet r).2.1)) (y_mv rfl) rfl ?_
 refine s_y rfl (v := .int .i64 ((labGet r).2.2)) (y_mv rfl) rfl ?_
 refine st rfl (o_call [2] [] (wleft_ b r q c ((labGet r).2.1) ((labGet r).2.2)) rfl rfl rfl rfl rfl rfl (fun v L' I' hq2 => ?_))
 obtain ⟨rfl, rfl, rfl⟩ := hq2
 refine s_nil (q_then (c_seq (c_region ?_)))
 refine st rfl (o_ldn 1 3 rfl rfl rfl rfl Tryz.underlying24 rfl (by kernel_rfl) (by kernel_rfl) rfl ?_)
 refine st rfl (o_st 2 rfl rfl rfl rfl rfl (by kernel_rfl) (by kernel_rfl) rfl ?_)
 refine s_nil (q_then (c_ret ?_))
 refine c_fin (I' := []) [0] [0, 1, 2, 3, 4, 5, 6, 7, 8] rfl (.agg 2 3 rfl rfl rfl rfl Tryz.underlying24 rfl (by kernel_rfl) (by kernel_rfl) .nil) rfl rfl rfl ?_
 exact ⟨rfl, rfl, rfl⟩
end Go.Proofs.YtcnncdniibkjkaaGreatDoor
