/- The laws of chapter 17 (call), walked over the given program; no condition but what stands in each theorem: part UCodes. -/
import Derived.Test.YtcnncdniibkjkaaGreatDoorRRA5
import Derived.Test.YtcnncdniibkjkaaGreatDoorRRA6
set_option linter.unusedVariables false
set_option linter.unusedSimpArgs false
set_option maxRecDepth 100000
set_option maxHeartbeats 8000000
namespace Go.Proofs.YtcnncdniibkjkaaGreatDoor
open Go Go.Sl Go.RowKit Go.Extern.Stop Go.Stop Go.Extern
theorem CallCodes_ (ea : Addr) (em : Addr) (ef : Addr) (el : Addr) (h12 : ea ≠ em) (h13 : ea ≠ ef) (h23 : em ≠ ef) (c : Cal) (s : ByteArray) (op : Int) (h6c : lab64 c.lb) (hzac : c.nm.size ≤ 9223372036854775807) (hzbc : c.da.size ≤ 9223372036854775807) (hzs : s.size ≤ 9223372036854775807) : Con Tryz.prog 3 [.agg #[.int .i64 c.op, .int .i64 c.lb.lv, .int .u64 (c.lb.cs : Int), .int .i64 c.lb.ig, .string c.nm, .int .i64 c.pl, .int .i64 c.nn, .string c.da, .int .i64 c.id], .string s, .int .i64 op] [] [cellsAt 2 0 [.iface 180 (.pointer (some ea))], cellsAt 3 0 [.iface 180 (.pointer (some em))], cellsAt 1 0 [.iface 180 (.pointer (some ef))], cellsAt 4 0 [.iface 180 (.pointer (some el))], errAt ea, errAt em, errAt ef, errAt el, cellsAt 0 0 [.iface 147 (.agg #[.pointer (some ⟨5, 48, none⟩)])]] (fun v L' I' => v = .bool true ∧ L' = [] ∧ I' = []) := by
 have f1c := shortW_size c.nm
 have f2c := shortW_size c.da
 have f6c : lab64 (fewC c).lb := h6c
 have f3c : (fewC c).nm.size ≤ 100000 := Nat.le_trans f1c (by decide)
 have f4c : (fewC c).da.size ≤ 100000 := Nat.le_trans f2c (by decide)
 have f5c := callPut_size f6c f3c f4c
 have k1 := cutW_size s
 refine fn_of Tryz.func3 rfl Tryz.ntmps3 (by kernel_rfl) rfl (fun C => ?_)
 refine c_seq (c_region ?_)
 refine st rfl (o_box (cs := [.int .i64 c.op, .int .i64 c.lb.lv, .int .u64 (c.lb.cs : Int), .int .i64 c.lb.ig, .string c.nm, .int .i64 c.pl, .int .i64 c.nn, .string c.da, .int .i64 c.id]) (T := 26) rfl rfl rfl rfl (fun _ => by kernel_rfl) (fun b1 => ?_))
 refine s_y rfl (v := .bool false) (y_as rfl) rfl ?_
 refine s_nil (q_then (c_seq (c_region ?_)))
 refine st rfl (o_call [] [0, 1, 2, 3, 4, 5, 6, 7, 8] (shown_ ea em ef el (by assumption) (by assumption) (by assumption)) rfl rfl rfl rfl rfl rfl (fun v L' I' hq1 => ?_))
 obtain ⟨rfl, rfl, rfl⟩ := hq1
 refine s_y rfl (v := .bool true) (y_as rfl) rfl ?_
 refine s_nil (q_then (c_seq (c_region ?_)))
 refine st rfl (o_ldn 0 9 rfl rfl rfl rfl Tryz.underlying26 rfl (by kernel_rfl) (by kernel_rfl) rfl ?_)
 refine st rfl (o_call [] [] (fewc_ c (hzac) (hzbc)) rfl rfl rfl rfl rfl rfl (fun v L' I' hq2 => ?_))
 obtain ⟨rfl, rfl, rfl⟩ := hq2
 refine st rfl (o_st 0 rfl rfl rfl rfl rfl (by kernel_rfl) (by kernel_rfl) rfl ?_)
 refine s_nil (q_then (c_seq (c_region ?_)))
 refine st rfl (o_ldn 0 9 rfl rfl rfl rfl Tryz.underlying26 rfl (by kernel_rfl) (by kernel_rfl) rfl ?_)
 refine st rfl (o_call [] [0, 1, 2, 4, 5, 6, 3, 7, 8] (callPut_ (fewC c) ea em ef el (by assumption) (by assumption) (by assumption) (f6c) (f3c) (f4c)) rfl rfl rfl rfl rfl rfl (fun v L' I' hq3 => ?_))
 obtain ⟨rfl, rfl, rfl⟩ := hq3
 refine s_y rfl (v := .tuple #[.string ((callPut (fewC c)).1), .int .i64 ((callPut (fewC c)).2)]) (y_mv rfl) rfl ?_
 refine s_y rfl (v := .string ((callPut (fewC c)).1)) (y_k rfl rfl (fun _ => by kernel_rfl)) rfl ?_
 refine s_y rfl (v := .int .i64 ((callPut (fewC c)).2)) (y_k rfl rfl (fun _ => by kernel_rfl)) rfl ?_
 refine s_y rfl (v := .string ((callPut (fewC c)).1)) (y_as rfl) rfl ?_
 refine s_y rfl (v := .int .i64 ((callPut (fewC c)).2)) (y_as rfl) rfl ?_
 refine s_nil (q_then (c_seq (c_region ?_)))
 refine st rfl (o_ldn 0 9 rfl rfl rfl rfl Tryz.underlying26 rfl (by kernel_rfl) (by kernel_rfl) rfl ?_)
 refine st rfl (o_call [] [] (rcallPut_ (fewC c) (f6c) (f3c) (f4c)) rfl rfl rfl rfl rfl rfl (fun v L' I' hq4 => ?_))
 obtain ⟨rfl, rfl, rfl⟩ := hq4
 refine s_y rfl (v := .tuple #[.string ((callPut (fewC c)).1), .int .i64 ((callPut (fewC c)).2)]) (y_mv rfl) rfl ?_
 refine s_y rfl (v := .string ((callPut (fewC c)).1)) (y_k rfl rfl (fun _ => by kernel_rfl)) rfl ?_
 refine s_y rfl (v := .int .i64 ((callPut (fewC c)).2)) (y_k rfl rfl (fun _ => by kernel_rfl)) rfl ?_
 refine s_y rfl (v := .string ((callPut (fewC c)).1)) (y_as rfl) rfl ?_
 refine s_y rfl (v := .int .i64 ((callPut (fewC c)).2)) (y_as rfl) rfl ?_
 refine s_nil (q_then (c_seq (c_region ?_)))
 refine s_y rfl (v := .string s) (y_mv rfl) rfl ?_
 refine st rfl (o_call [] [] (cutw_ s (by first | omega | assumption)) rfl rfl rfl rfl rfl rfl (fun v L' I' hq5 => ?_))
 obtain ⟨rfl, rfl, rfl⟩ := hq5
 refine st rfl (o_call [] [0, 1, 2, 4, 5, 6, 3, 7, 8] (callGet_ (cutW s) ea em ef el (by assumption) (by assumption) (by assumption) (by first | omega | assumption | decide)) rfl rfl rfl rfl rfl rfl (fun v L' I' hq6 => ?_))
 obtain ⟨rfl, rfl, rfl⟩ := hq6
 refine s_y rfl (v := .tuple #[.agg #[.int .i64 (((callGet (cutW s)).1).op), .int .i64 (((callGet (cutW s)).1).lb.lv), .int .u64 (((callGet (cutW s)).1).lb.cs : Int), .int .i64 (((callGet (cutW s)).1).lb.ig), .string (((callGet (cutW s)).1).nm), .int .i64 (((callGet (cutW s)).1).pl), .int .i64 (((callGet (cutW s)).1).nn), .string (((callGet (cutW s)).1).da), .int .i64 (((callGet (cutW s)).1).id)], .int .i64 ((callGet (cutW s)).2)]) (y_mv rfl) rfl ?_
 refine s_y rfl (v := .agg #[.int .i64 (((callGet (cutW s)).1).op), .int .i64 (((callGet (cutW s)).1).lb.lv), .int .u64 (((callGet (cutW s)).1).lb.cs : Int), .int .i64 (((callGet (cutW s)).1).lb.ig), .string (((callGet (cutW s)).1).nm), .int .i64 (((callGet (cutW s)).1).pl), .int .i64 (((callGet (cutW s)).1).nn), .string (((callGet (cutW s)).1).da), .int .i64 (((callGet (cutW s)).1).id)]) (y_k rfl rfl (fun _ => by kernel_rfl)) rfl ?_
 refine s_y rfl (v := .int .i64 ((callGet (cutW s)).2)) (y_k rfl rfl (fun _ => by kernel_rfl)) rfl ?_
 refine st rfl (o_box (cs := [.int .i64 0, .int .i64 0, .int .u64 0, .int .i64 0, .string (⟨#[]⟩ : ByteArray), .int .i64 0, .int .i64 0, .string (⟨#[]⟩ : ByteArray), .int .i64 0]) (T := 26) rfl rfl rfl rfl (fun _ => by kernel_rfl) (fun b2 => ?_))
 refine st rfl (o_st 0 rfl rfl rfl rfl rfl (by kernel_rfl) (by kernel_rfl) rfl ?_)
 refine s_y rfl (v := .int .i64 ((callGet (cutW s)).2)) (y_as rfl) rfl ?_
 refine s_nil (q_then (c_seq (c_region ?_)))
 refine s_y rfl (v := .string s) (y_mv rfl) rfl ?_
 refine st rfl (o_call [] [] (cutw_ s (by first | omega | assumption)) rfl rfl rfl rfl rfl rfl (fun v L' I' hq7 => ?_))
 obtain ⟨rfl, rfl, rfl⟩ := hq7
 refine st rfl (o_call [] [] (rcallGet_ (cutW s) (by first | omega | assumption | decide)) rfl rfl rfl rfl rfl rfl (fun v L' I' hq8 => ?_))
 obtain ⟨rfl, rfl, rfl⟩ := hq8
 refine s_y rfl (v := .tuple #[.agg #[.int .i64 (((callGet (cutW s)).1).op), .int .i64 (((callGet (cutW s)).1).lb.lv), .int .u64 (((callGet (cutW s)).1).lb.cs : Int), .int .i64 (((callGet (cutW s)).1).lb.ig), .string (((callGet (cutW s)).1).nm), .int .i64 (((callGet (cutW s)).1).pl), .int .i64 (((callGet (cutW s)).1).nn), .string (((callGet (cutW s)).1).da), .int .i64 (((callGet (cutW s)).1).id)], .int .i64 ((callGet (cutW s)).2)]) (y_mv rfl) rfl ?_
 refine s_y rfl (v := .agg #[.int .i64 (((callGet (cutW s)).1).op), .int .i64 (((callGet (cutW s)).1).lb.lv), .int .u64 (((callGet (cutW s)).1).lb.cs : Int), .int .i64 (((callGet (cutW s)).1).lb.ig), .string (((callGet (cutW s)).1).nm), .int .i64 (((callGet (cutW s)).1).pl), .int .i64 (((callGet (cutW s)).1).nn), .string (((callGet (cutW s)).1).da), .int .i64 (((callGet (cutW s)).1).id)]) (y_k rfl rfl (fun _ => by kernel_rfl)) rfl ?_
 refine s_y rfl (v := .int .i64 ((callGet (cutW s)).2)) (y_k rfl rfl (fun _ => by kernel_rfl)) rfl ?_
 refine st rfl (o_box (cs := [.int .i64 0, .int .i64 0, .int .u64 0, .int .i64 0, .string (⟨#[]⟩ : ByteArray), .int .i64 0, .int .i64 0, .string (⟨#[]⟩ : ByteArray), .int .i64 0]) (T := 26) rfl rfl rfl rfl (fun _ => by kernel_rfl) (fun b3 => ?_))
 refine st rfl (o_st 0 rfl rfl rfl rfl rfl (by kernel_rfl) (by kernel_rfl) rfl ?_)
 refine s_y rfl (v := .int .i64 ((callGet (cutW s)).2)) (y_as rfl) rfl ?_
 refine s_nil (q_then (c_seq (c_region ?_)))
 refine s_y rfl (v := .bool true) (y_mv rfl) rfl ?_
 refine s_y rfl (v := .bool true) (y_mv rfl) rfl ?_
 refine st_on 42 rfl rfl rfl (o_y (v := .string ((callPut (fewC c)).1)) (y_mv rfl) rfl rfl rfl ?_)
 refine st_on 42 rfl rfl rfl (o_y (v := .string ((callPut (fewC c)).1)) (y_mv rfl) rfl rfl rfl ?_)
 have h24 : (callPut (fewC c)).1 = (callPut (fewC c)).1 := rfl
 refine st_on 42 rfl rfl rfl (o_y (v := .bool true) (y_b (y_k (v := .bool (((callPut (fewC c)).1).toList == ((callPut (fewC c)).1).toList)) rfl rfl (fun _ => by kernel_rfl)) (str_t h24)) rfl rfl rfl ?_)
 refine s_y rfl (v := .bool true) (y_pick rfl rfl) rfl ?_
 refine s_y rfl (v := .bool true) (y_mv rfl) rfl ?_
 refine st_on 47 rfl rfl rfl (o_y (v := .int .i64 ((callPut (fewC c)).2)) (y_mv rfl) rfl rfl rfl ?_)
 refine st_on 47 rfl rfl rfl (o_y (v := .int .i64 ((callPut (fewC c)).2)) (y_mv rfl) rfl rfl rfl ?_)
 have h25 : (callPut (fewC c)).2 = (callPut (fewC c)).2 := rfl
 refine st_on 47 rfl rfl rfl (o_y (v := .bool true) (y_t (y_k (v := .bool (decide ((callPut (fewC c)).2 = (callPut (fewC c)).2))) rfl rfl (fun _ => by kernel_rfl)) h25) rfl rfl rfl ?_)
 refine s_y rfl (v := .bool true) (y_pick rfl rfl) rfl ?_
 refine s_y rfl (v := .bool true) (y_mv rfl) rfl ?_
 refine st_on 52 rfl rfl rfl (o_ldn 1 9 rfl rfl rfl rfl Tryz.underlying26 rfl (by kernel_rfl) (by kernel_rfl) rfl ?_)
 refine st_on 52 rfl rfl rfl (o_ldn 0 9 rfl rfl rfl rfl Tryz.underlying26 rfl (by kernel_rfl) (by kernel_rfl) rfl ?_)
 have h26 : (callGet (cutW s)).1 = (callGet (cutW s)).1 := rfl
 refine st_on 52 rfl rfl rfl (o_y (v := .bool true) (y_t (y_bin rfl rfl (fun w => eq_Cal ((callGet (cutW s)).1) ((callGet (cutW s)).1) w)) h26) rfl rfl rfl ?_)
 refine s_y rfl (v := .bool true) (y_pick rfl rfl) rfl ?_
 refine s_y rfl (v := .bool true) (y_mv rfl) rfl ?_
 refine st_on 57 rfl rfl rfl (o_y (v := .int .i64 ((callGet (cutW s)).2)) (y_mv rfl) rfl rfl rfl ?_)
 refine st_on 57 rfl rfl rfl (o_y (v := .int .i64 ((callGet (cutW s)).2)) (y_mv rfl) rfl rfl rfl ?_)
 have h27 : (callGet (cutW s)).2 = (callGet (cutW s)).2 := rfl
 refine st_on 57 rfl rfl rfl (o_y (v := .bool true) (y_t (y_k (v := .bool (decide ((callGet (cutW s)).2 = (callGet (cutW s)).2))) rfl rfl (fun _ => by kernel_rfl)) h27) rfl rfl rfl ?_)
 refine s_y rfl (v := .bool true) (y_pick rfl rfl) rfl ?_
 refine s_y rfl (v := .bool true) (y_mv rfl) rfl ?_
 refine st_on 62 rfl rfl rfl (o_y (v := .int .i64 op) (y_mv rfl) rfl rfl rfl ?_)
 refine st_on 62 rfl rfl rfl (o_call [] [] (floats_ op) rfl rfl rfl rfl rfl rfl (fun v L' I' hq9 => ?_))
 obtain ⟨hv1, rfl, rfl⟩ := hq9
 refine e_by (op = 5 ∨ op = 8 ∨ op = 15 ∨ op = 16) (fun h28 => ?_) (fun h28 => ?_)
 ·
  obtain rfl : v = .bool true := by rw [hv1, decide_eq_true h28]
  refine st_on 62 rfl rfl rfl (o_y (v := .int .i64 op) (y_mv rfl) rfl rfl rfl ?_)
  refine st_on 62 rfl rfl rfl (o_call [] [] (rfloats_ op) rfl rfl rfl rfl rfl rfl (fun v L' I' hq10 => ?_))
  obtain ⟨hv2, rfl, rfl⟩ := hq10
  obtain rfl : v = .bool true := by rw [hv2, decide_eq_true (show op = 5 ∨ op = 8 ∨ op = 15 ∨ op = 16 from h28)]
  refine st_on 62 rfl rfl rfl (o_y (v := .bool true) (y_k rfl rfl (fun _ => by kernel_rfl)) rfl rfl rfl ?_)
  refine s_y rfl (v := .bool true) (y_pick rfl rfl) rfl ?_
  refine s_y rfl (v := .bool true) (y_as rfl) rfl ?_
  refine s_nil (q_then (c_ret ?_))
  refine c_fin (I' := []) [] [0, 1, 2, 3, 4, 5, 6, 7, 8] rfl (.tmp rfl .nil) rfl rfl rfl ?_
  exact ⟨rfl, rfl, rfl⟩
 ·
  obtain rfl : v = .bool false := by rw [hv1, decide_eq_false h28]
  refine st_on 62 rfl rfl rfl (o_y (v := .int .i64 op) (y_mv rfl) rfl rfl rfl ?_)
  refine st_on 62 rfl rfl rfl (o_call [] [] (rfloats_ op) rfl rfl rfl rfl rfl rfl (fun v L' I' hq11 => ?_))
  obtain ⟨hv3, rfl, rfl⟩ := hq11
  obtain rfl : v = .bool false := by rw [hv3, decide_eq_false (show ¬ (op = 5 ∨ op = 8 ∨ op = 15 ∨ op = 16) from h28)]
  refine st_on 62 rfl rfl rfl (o_y (v := .bool true) (y_k rfl rfl (fun _ => by kernel_rfl)) rfl rfl rfl ?_)
  refine s_y rfl (v := .bool true) (y_pick rfl rfl) rfl ?_
  refine s_y rfl (v := .bool true) (y_as rfl) rfl ?_
  refine s_nil (q_then (c_ret ?_))
  refine c_fin (I' := []) [] [0, 1, 2, 3, 4, 5, 6, 7, 8] rfl (.tmp rfl .nil) rfl rfl rfl ?_
  exact ⟨rfl, rfl, rfl⟩
end Go.Proofs.YtcnncdniibkjkaaGreatDoor
