/- The laws of chapter 17 (call), walked over the given program; no condition but what stands in each theorem: part UBack. -/
import Derived.Test.YtcnncdniibkjkaaDoorRLNB
import Derived.Test.YtcnncdniibkjkaaDoorRLPD
import Derived.Test.YtcnncdniibkjkaaDoorRLPE
set_option linter.unusedVariables false
set_option linter.unusedSimpArgs false
set_option maxRecDepth 100000
set_option maxHeartbeats 8000000
namespace Go.Proofs.YtcnncdniibkjkaaDoor
open Go Go.Sl Go.RowKit Go.Extern.Stop Go.Stop Go.Extern
theorem CallBack_ (ea : Addr) (em : Addr) (ef : Addr) (el : Addr) (h12 : ea ≠ em) (h13 : ea ≠ ef) (h23 : em ≠ ef) (c : Cal) (s : ByteArray) (h6c : lab64 c.lb) (hzac : c.nm.size ≤ 9223372036854775807) (hzbc : c.da.size ≤ 9223372036854775807) (hpi : c.pl ≤ 9223372036854775807 ∧ c.nn ≤ 9223372036854775807 ∧ c.id ≤ 9223372036854775807) (hzs : s.size ≤ 9223372036854775807) : Con Tryd.prog 3 [.agg #[.int .i64 c.op, .int .i64 c.lb.lv, .int .u64 (c.lb.cs : Int), .int .i64 c.lb.ig, .string c.nm, .int .i64 c.pl, .int .i64 c.nn, .string c.da, .int .i64 c.id], .string s] [] [cellsAt 2 0 [.iface 177 (.pointer (some ea))], cellsAt 3 0 [.iface 177 (.pointer (some em))], cellsAt 1 0 [.iface 177 (.pointer (some ef))], cellsAt 4 0 [.iface 177 (.pointer (some el))], errAt ea, errAt em, errAt ef, errAt el, cellsAt 0 0 [.iface 139 (.agg #[.pointer (some ⟨5, 51, none⟩)])]] (fun v L' I' => v = .bool true ∧ L' = [] ∧ I' = []) := by
 have f1c := shortW_size c.nm
 have f2c := shortW_size c.da
 have f6c : lab64 (fewC c).lb := h6c
 have f3c : (fewC c).nm.size ≤ 100000 := Nat.le_trans f1c (by decide)
 have f4c : (fewC c).da.size ≤ 100000 := Nat.le_trans f2c (by decide)
 have f5c := callPut_size f6c f3c f4c
 have hc := few64 h6c hpi
 have k1 := cutW_size s
 have g1 := cget_sm (Nat.le_trans k1 (by decide))
 refine fn_of Tryd.func3 rfl Tryd.ntmps3 (by kernel_rfl) rfl (fun C => ?_)
 refine c_seq (c_region ?_)
 refine st rfl (o_box (cs := [.int .i64 c.op, .int .i64 c.lb.lv, .int .u64 (c.lb.cs : Int), .int .i64 c.lb.ig, .string c.nm, .int .i64 c.pl, .int .i64 c.nn, .string c.da, .int .i64 c.id]) (T := 26) rfl rfl rfl rfl (fun _ => by kernel_rfl) (fun b1 => ?_))
 refine s_y rfl (v := .bool false) (y_as rfl) rfl ?_
 refine s_nil (q_then (c_seq (c_region ?_)))
 refine st rfl (o_call [] [0, 1, 2, 3, 4, 5, 6, 7, 8] (shown_ ea em ef el (by assumption) (by assumption) (by assumption)) rfl rfl rfl rfl rfl rfl (fun v L' I' hq1 => ?_))
 obtain ⟨rfl, rfl, rfl⟩ := hq1
 refine s_y rfl (v := .bool true) (y_as rfl) rfl ?_
 refine s_nil (q_then (c_seq (c_region ?_)))
 refine st rfl (o_ldn 0 9 rfl rfl rfl rfl Tryd.underlying26 rfl (by kernel_rfl) (by kernel_rfl) rfl ?_)
 refine st rfl (o_call [] [] (fewc_ c (hzac) (hzbc)) rfl rfl rfl rfl rfl rfl (fun v L' I' hq2 => ?_))
 obtain ⟨rfl, rfl, rfl⟩ := hq2
 refine st rfl (o_st 0 rfl rfl rfl rfl rfl (by kernel_rfl) (by kernel_rfl) rfl ?_)
 refine s_nil (q_then (c_seq (c_region ?_)))
 refine st rfl (o_ldn 0 9 rfl rfl rfl rfl Tryd.underlying26 rfl (by kernel_rfl) (by kernel_rfl) rfl ?_)
 refine st rfl (o_call [] [0, 1, 2, 4, 5, 6, 3, 7, 8] (callPut_ (fewC c) ea em ef el (by assumption) (by assumption) (by assumption) (f6c) (f3c) (f4c)) rfl rfl rfl rfl rfl rfl (fun v L' I' hq3 => ?_))
 obtain ⟨rfl, rfl, rfl⟩ := hq3
 refine s_y rfl (v := .tuple #[.string ((callPut (fewC c)).1), .int .i64 ((callPut (fewC c)).2)]) (y_mv rfl) rfl ?_
 refine s_y rfl (v := .string ((callPut (fewC c)).1)) (y_k rfl rfl (fun _ => by kernel_rfl)) rfl ?_
 refine s_y rfl (v := .int .i64 ((callPut (fewC c)).2)) (y_k rfl rfl (fun _ => by kernel_rfl)) rfl ?_
 refine s_y rfl (v := .string ((callPut (fewC c)).1)) (y_as rfl) rfl ?_
 refine s_y rfl (v := .int .i64 ((callPut (fewC c)).2)) (y_as rfl) rfl ?_
 refine s_nil (q_then (c_seq (c_region ?_)))
 refine s_y rfl (v := .string ((callPut (fewC c)).1)) (y_mv rfl) rfl ?_
 refine st rfl (o_call [] [0, 1, 2, 4, 5, 6, 3, 7, 8] (callGet_ ((callPut (fewC c)).1) ea em ef el (by assumption) (by assumption) (by assumption) (by first | omega | assumption | decide)) rfl rfl rfl rfl rfl rfl (fun v L' I' hq4 => ?_))
 obtain ⟨rfl, rfl, rfl⟩ := hq4
 refine s_y rfl (v := .tuple #[.agg #[.int .i64 (((callGet ((callPut (fewC c)).1)).1).op), .int .i64 (((callGet ((callPut (fewC c)).1)).1).lb.lv), .int .u64 (((callGet ((callPut (fewC c)).1)).1).lb.cs : Int), .int .i64 (((callGet ((callPut (fewC c)).1)).1).lb.ig), .string (((callGet ((callPut (fewC c)).1)).1).nm), .int .i64 (((callGet ((callPut (fewC c)).1)).1).pl), .int .i64 (((callGet ((callPut (fewC c)).1)).1).nn), .string (((callGet ((callPut (fewC c)).1)).1).da), .int .i64 (((callGet ((callPut (fewC c)).1)).1).id)], .int .i64 ((callGet ((callPut (fewC c)).1)).2)]) (y_mv rfl) rfl ?_
 refine s_y rfl (v := .agg #[.int .i64 (((callGet ((callPut (fewC c)).1)).1).op), .int .i64 (((callGet ((callPut (fewC c)).1)).1).lb.lv), .int .u64 (((callGet ((callPut (fewC c)).1)).1).lb.cs : Int), .int .i64 (((callGet ((callPut (fewC c)).1)).1).lb.ig), .string (((callGet ((callPut (fewC c)).1)).1).nm), .int .i64 (((callGet ((callPut (fewC c)).1)).1).pl), .int .i64 (((callGet ((callPut (fewC c)).1)).1).nn), .string (((callGet ((callPut (fewC c)).1)).1).da), .int .i64 (((callGet ((callPut (fewC c)).1)).1).id)]) (y_k rfl rfl (fun _ => by kernel_rfl)) rfl ?_
 refine s_y rfl (v := .int .i64 ((callGet ((callPut (fewC c)).1)).2)) (y_k rfl rfl (fun _ => by kernel_rfl)) rfl ?_
 refine st rfl (o_box (cs := [.int .i64 0, .int .i64 0, .int .u64 0, .int .i64 0, .string (⟨#[]⟩ : ByteArray), .int .i64 0, .int .i64 0, .string (⟨#[]⟩ : ByteArray), .int .i64 0]) (T := 26) rfl rfl rfl rfl (fun _ => by kernel_rfl) (fun b2 => ?_))
 refine st rfl (o_st 0 rfl rfl rfl rfl rfl (by kernel_rfl) (by kernel_rfl) rfl ?_)
 refine s_y rfl (v := .int .i64 ((callGet ((callPut (fewC c)).1)).2)) (y_as rfl) rfl ?_
 refine s_nil (q_then (c_seq (c_seq (c_region ?_))))
 refine s_y rfl (v := .int .i64 ((callPut (fewC c)).2)) (y_mv rfl) rfl ?_
 refine e_by ((callPut (fewC c)).2 = 0) (fun h24 => ?_) (fun h24 => ?_)
 ·
  refine s_y rfl (v := .bool true) (y_t (y_k (v := .bool (decide ((callPut (fewC c)).2 = 0))) rfl rfl (fun _ => by kernel_rfl)) h24) rfl ?_
  refine s_y rfl (v := .bool true) (y_mv rfl) rfl ?_
  refine st_on 29 rfl rfl rfl (o_y (v := .int .i64 ((callGet ((callPut (fewC c)).1)).2)) (y_mv rfl) rfl rfl rfl ?_)
  have h25 : (callGet ((callPut (fewC c)).1)).2 = 0 := by rw [back_c h24 hc]
  refine st_on 29 rfl rfl rfl (o_y (v := .bool false) (y_nt (y_k (v := .bool (!decide ((callGet ((callPut (fewC c)).1)).2 = 0))) rfl rfl (fun _ => by kernel_rfl)) h25) rfl rfl rfl ?_)
  refine st_on 29 rfl rfl rfl (o_y (v := .bool false) (y_mv rfl) rfl rfl rfl ?_)
  refine st_on 32 rfl rfl rfl (o_ldn 0 9 rfl rfl rfl rfl Tryd.underlying26 rfl (by kernel_rfl) (by kernel_rfl) rfl ?_)
  refine st_on 32 rfl rfl rfl (o_ldn 1 9 rfl rfl rfl rfl Tryd.underlying26 rfl (by kernel_rfl) (by kernel_rfl) rfl ?_)
  have h26 : (callGet (callPut (fewC c)).1).1 = (fewC c) := by rw [back_c h24 hc]
  refine st_on 32 rfl rfl rfl (o_y (v := .bool false) (y_nt (y_bin rfl rfl (fun w => eq_Caln ((callGet (callPut (fewC c)).1).1) (fewC c) w)) h26) rfl rfl rfl ?_)
  refine st_on 29 rfl rfl rfl (o_y (v := .bool false) (y_pick rfl rfl) rfl rfl rfl ?_)
  refine s_y rfl (v := .bool false) (y_pick rfl rfl) rfl ?_
  refine s_nil (q_then (c_false rfl (c_skip (q_then (c_seq (c_region ?_))))))
  refine s_y rfl (v := .string s) (y_mv rfl) rfl ?_
  refine st rfl (o_call [] [] (cutw_ s (by first | omega | assumption)) rfl rfl rfl rfl rfl rfl (fun v L' I' hq5 => ?_))
  obtain ⟨rfl, rfl, rfl⟩ := hq5
  refine st rfl (o_call [] [0, 1, 2, 4, 5, 6, 3, 7, 8] (callGet_ (cutW s) ea em ef el (by assumption) (by assumption) (by assumption) (by first | omega | assumption | decide)) rfl rfl rfl rfl rfl rfl (fun v L' I' hq6 => ?_))
  obtain ⟨rfl, rfl, rfl⟩ := hq6
  refine s_y rfl (v := .tuple #[.agg #[.int .i64 (((callGet (cutW s)).1).op), .int .i64 (((callGet (cutW s)).1).lb.lv), .int .u64 (((callGet (cutW s)).1).lb.cs : Int), .int .i64 (((callGet (cutW s)).1).lb.ig), .string (((callGet (cutW s)).1).nm), .int .i64 (((callGet (cutW s)).1).pl), .int .i64 (((callGet (cutW s)).1).nn), .string (((callGet (cutW s)).1).da), .int .i64 (((callGet (cutW s)).1).id)], .int .i64 ((callGet (cutW s)).2)]) (y_mv rfl) rfl ?_
  refine s_y rfl (v := .agg #[.int .i64 (((callGet (cutW s)).1).op), .int .i64 (((callGet (cutW s)).1).lb.lv), .int .u64 (((callGet (cutW s)).1).lb.cs : Int), .int .i64 (((callGet (cutW s)).1).lb.ig), .string (((callGet (cutW s)).1).nm), .int .i64 (((callGet (cutW s)).1).pl), .int .i64 (((callGet (cutW s)).1).nn), .string (((callGet (cutW s)).1).da), .int .i64 (((callGet (cutW s)).1).id)]) (y_k rfl rfl (fun _ => by kernel_rfl)) rfl ?_
  refine s_y rfl (v := .int .i64 ((callGet (cutW s)).2)) (y_k rfl rfl (fun _ => by kernel_rfl)) rfl ?_
  refine st rfl (o_box (cs := [.int .i64 0, .int .i64 0, .int .u64 0, .int .i64 0, .string (⟨#[]⟩ : ByteArray), .int .i64 0, .int .i64 0, .string (⟨#[]⟩ : ByteArray), .int .i64 0]) (T := 26) rfl rfl rfl rfl (fun _ => by kernel_rfl) (fun b3 => ?_))
  refine st rfl (o_st 0 rfl rfl rfl rfl rfl (by kernel_rfl) (by kernel_rfl) rfl ?_)
  refine s_y rfl (v := .int .i64 ((callGet (cutW s)).2)) (y_as rfl) rfl ?_
  refine s_nil (q_then (c_seq (c_region ?_)))
  refine st rfl (o_ldn 0 9 rfl rfl rfl rfl Tryd.underlying26 rfl (by kernel_rfl) (by kernel_rfl) rfl ?_)
  refine st rfl (o_call [] [0, 1, 2, 4, 5, 6, 3, 7, 8] (callPut_ ((callGet (cutW s)).1) ea em ef el (by assumption) (by assumption) (by assumption) (g1.1) (g1.2.1) (g1.2.2)) rfl rfl rfl rfl rfl rfl (fun v L' I' hq7 => ?_))
  obtain ⟨rfl, rfl, rfl⟩ := hq7
  refine s_y rfl (v := .tuple #[.string ((callPut ((callGet (cutW s)).1)).1), .int .i64 ((callPut ((callGet (cutW s)).1)).2)]) (y_mv rfl) rfl ?_
  refine s_y rfl (v := .string ((callPut ((callGet (cutW s)).1)).1)) (y_k rfl rfl (fun _ => by kernel_rfl)) rfl ?_
  refine s_y rfl (v := .int .i64 ((callPut ((callGet (cutW s)).1)).2)) (y_k rfl rfl (fun _ => by kernel_rfl)) rfl ?_
  refine s_y rfl (v := .string ((callPut ((callGet (cutW s)).1)).1)) (y_as rfl) rfl ?_
  refine s_y rfl (v := .int .i64 ((callPut ((callGet (cutW s)).1)).2)) (y_as rfl) rfl ?_
  refine s_nil (q_then (c_seq (c_region ?_)))
  refine s_y rfl (v := .bool true) (y_mv rfl) rfl ?_
  refine s_y rfl (v := .bool true) (y_mv rfl) rfl ?_
  refine st_on 50 rfl rfl rfl (o_y (v := .int .i64 ((callPut (fewC c)).2)) (y_mv rfl) rfl rfl rfl ?_)
  have h27 : (callPut (fewC c)).2 = 0 := h24
  refine st_on 50 rfl rfl rfl (o_y (v := .bool true) (y_t (y_k (v := .bool (decide ((callPut (fewC c)).2 = 0))) rfl rfl (fun _ => by kernel_rfl)) h27) rfl rfl rfl ?_)
  refine st_on 50 rfl rfl rfl (o_y (v := .bool true) (y_mv rfl) rfl rfl rfl ?_)
  refine st_off 53 rfl rfl rfl rfl rfl rfl ?_
  refine st_off 53 rfl rfl rfl rfl rfl rfl ?_
  refine st_on 50 rfl rfl rfl (o_y (v := .bool true) (y_pick rfl rfl) rfl rfl rfl ?_)
  refine s_y rfl (v := .bool true) (y_pick rfl rfl) rfl ?_
  refine s_y rfl (v := .bool true) (y_mv rfl) rfl ?_
  refine st_on 58 rfl rfl rfl (o_y (v := .int .i64 ((callGet (cutW s)).2)) (y_mv rfl) rfl rfl rfl ?_)
  refine e_by ((callGet (cutW s)).2 = 0) (fun h28 => ?_) (fun h28 => ?_)
  ·
   refine st_on 58 rfl rfl rfl (o_y (v := .bool false) (y_nt (y_k (v := .bool (!decide ((callGet (cutW s)).2 = 0))) rfl rfl (fun _ => by kernel_rfl)) h28) rfl rfl rfl ?_)
   refine st_on 58 rfl rfl rfl (o_y (v := .bool false) (y_mv rfl) rfl rfl rfl ?_)
   refine st_on 61 rfl rfl rfl (o_y (v := .int .i64 ((callPut ((callGet (cutW s)).1)).2)) (y_mv rfl) rfl rfl rfl ?_)
   have h29 : (callPut ((callGet (cutW s)).1)).2 = 0 := by rw [back_s h28]
   refine st_on 61 rfl rfl rfl (o_y (v := .bool true) (y_t (y_k (v := .bool (decide ((callPut ((callGet (cutW s)).1)).2 = 0))) rfl rfl (fun _ => by kernel_rfl)) h29) rfl rfl rfl ?_)
   refine st_on 61 rfl rfl rfl (o_y (v := .bool true) (y_mv rfl) rfl rfl rfl ?_)
   refine st_on 64 rfl rfl rfl (o_y (v := .string ((callPut ((callGet (cutW s)).1)).1)) (y_mv rfl) rfl rfl rfl ?_)
   refine st_on 64 rfl rfl rfl (o_y (v := .string s) (y_mv rfl) rfl rfl rfl ?_)
   refine st_on 64 rfl rfl rfl (o_call [] [] (cutw_ s (by first | omega | assumption)) rfl rfl rfl rfl rfl rfl (fun v L' I' hq8 => ?_))
   obtain ⟨rfl, rfl, rfl⟩ := hq8
   have h30 : (callPut ((callGet (cutW s)).1)).1 = cutW s := by rw [back_s h28]
   refine st_on 64 rfl rfl rfl (o_y (v := .bool true) (y_b (y_k (v := .bool (((callPut ((callGet (cutW s)).1)).1).toList == (cutW s).toList)) rfl rfl (fun _ => by kernel_rfl)) (str_t h30)) rfl rfl rfl ?_)
   refine st_on 61 rfl rfl rfl (o_y (v := .bool true) (y_pick rfl rfl) rfl rfl rfl ?_)
   refine st_on 58 rfl rfl rfl (o_y (v := .bool true) (y_pick rfl rfl) rfl rfl rfl ?_)
   refine s_y rfl (v := .bool true) (y_pick rfl rfl) rfl ?_
   refine s_y rfl (v := .bool true) (y_as rfl) rfl ?_
   refine s_nil (q_then (c_ret ?_))
   refine c_fin (I' := []) [] [0, 1, 2, 3, 4, 5, 6, 7, 8] rfl (.tmp rfl .nil) rfl rfl rfl ?_
   exact ⟨rfl, rfl, rfl⟩
  ·
   refine st_on 58 rfl rfl rfl (o_y (v := .bool true) (y_nf (y_k (v := .bool (!decide ((callGet (cutW s)).2 = 0))) rfl rfl (fun _ => by kernel_rfl)) h28) rfl rfl rfl ?_)
   refine st_on 58 rfl rfl rfl (o_y (v := .bool true) (y_mv rfl) rfl rfl rfl ?_)
   refine st_off 61 rfl rfl rfl rfl rfl rfl ?_
   refine st_off 61 rfl rfl rfl rfl rfl rfl ?_
   refine st_off 61 rfl rfl rfl rfl rfl rfl ?_
   refine st_offu 64 rfl rfl rfl rfl rfl ?_
   refine st_offu 64 rfl rfl rfl rfl rfl ?_
   refine st_offu 64 rfl rfl rfl rfl rfl ?_
   refine st_offu 64 rfl rfl rfl rfl rfl ?_
   refine st_off 61 rfl rfl rfl rfl rfl rfl ?_
   refine st_on 58 rfl rfl rfl (o_y (v := .bool true) (y_pick rfl rfl) rfl rfl rfl ?_)
   refine s_y rfl (v := .bool true) (y_pick rfl rfl) rfl ?_
   refine s_y rfl (v := .bool true) (y_as rfl) rfl ?_
   refine s_nil (q_then (c_ret ?_))
   refine c_fin (I' := []) [] [0, 1, 2, 3, 4, 5, 6, 7, 8] rfl (.tmp rfl .nil) rfl rfl rfl ?_
   exact ⟨rfl, rfl, rfl⟩
 ·
  refine s_y rfl (v := .bool false) (y_f (y_k (v := .bool (decide ((callPut (fewC c)).2 = 0))) rfl rfl (fun _ => by kernel_rfl)) h24) rfl ?_
  refine s_y rfl (v := .bool false) (y_mv rfl) rfl ?_
  refine st_off 29 rfl rfl rfl rfl rfl rfl ?_
  refine st_off 29 rfl rfl rfl rfl rfl rfl ?_
  refine st_off 29 rfl rfl rfl rfl rfl rfl ?_
  refine st_offu 32 rfl rfl rfl rfl rfl ?_
  refine st_offu 32 rfl rfl rfl rfl rfl ?_
  refine st_offu 32 rfl rfl rfl rfl rfl ?_
  refine st_off 29 rfl rfl rfl rfl rfl rfl ?_
  refine s_y rfl (v := .bool false) (y_pick rfl rfl) rfl ?_
  refine s_nil (q_then (c_false rfl (c_skip (q_then (c_seq (c_region ?_))))))
  refine s_y rfl (v := .string s) (y_mv rfl) rfl ?_
  refine st rfl (o_call [] [] (cutw_ s (by first | omega | assumption)) rfl rfl rfl rfl rfl rfl (fun v L' I' hq9 => ?_))
  obtain ⟨rfl, rfl, rfl⟩ := hq9
  refine st rfl (o_call [] [0, 1, 2, 4, 5, 6, 3, 7, 8] (callGet_ (cutW s) ea em ef el (by assumption) (by assumption) (by assumption) (by first | omega | assumption | decide)) rfl rfl rfl rfl rfl rfl (fun v L' I' hq10 => ?_))
  obtain ⟨rfl, rfl, rfl⟩ := hq10
  refine s_y rfl (v := .tuple #[.agg #[.int .i64 (((callGet (cutW s)).1).op), .int .i64 (((callGet (cutW s)).1).lb.lv), .int .u64 (((callGet (cutW s)).1).lb.cs : Int), .int .i64 (((callGet (cutW s)).1).lb.ig), .string (((callGet (cutW s)).1).nm), .int .i64 (((callGet (cutW s)).1).pl), .int .i64 (((callGet (cutW s)).1).nn), .string (((callGet (cutW s)).1).da), .int .i64 (((callGet (cutW s)).1).id)], .int .i64 ((callGet (cutW s)).2)]) (y_mv rfl) rfl ?_
  refine s_y rfl (v := .agg #[.int .i64 (((callGet (cutW s)).1).op), .int .i64 (((callGet (cutW s)).1).lb.lv), .int .u64 (((callGet (cutW s)).1).lb.cs : Int), .int .i64 (((callGet (cutW s)).1).lb.ig), .string (((callGet (cutW s)).1).nm), .int .i64 (((callGet (cutW s)).1).pl), .int .i64 (((callGet (cutW s)).1).nn), .string (((callGet (cutW s)).1).da), .int .i64 (((callGet (cutW s)).1).id)]) (y_k rfl rfl (fun _ => by kernel_rfl)) rfl ?_
  refine s_y rfl (v := .int .i64 ((callGet (cutW s)).2)) (y_k rfl rfl (fun _ => by kernel_rfl)) rfl ?_
  refine st rfl (o_box (cs := [.int .i64 0, .int .i64 0, .int .u64 0, .int .i64 0, .string (⟨#[]⟩ : ByteArray), .int .i64 0, .int .i64 0, .string (⟨#[]⟩ : ByteArray), .int .i64 0]) (T := 26) rfl rfl rfl rfl (fun _ => by kernel_rfl) (fun b4 => ?_))
  refine st rfl (o_st 0 rfl rfl rfl rfl rfl (by kernel_rfl) (by kernel_rfl) rfl ?_)
  refine s_y rfl (v := .int .i64 ((callGet (cutW s)).2)) (y_as rfl) rfl ?_
  refine s_nil (q_then (c_seq (c_region ?_)))
  refine st rfl (o_ldn 0 9 rfl rfl rfl rfl Tryd.underlying26 rfl (by kernel_rfl) (by kernel_rfl) rfl ?_)
  refine st rfl (o_call [] [0, 1, 2, 4, 5, 6, 3, 7, 8] (callPut_ ((callGet (cutW s)).1) ea em ef el (by assumption) (by assumption) (by assumption) (g1.1) (g1.2.1) (g1.2.2)) rfl rfl rfl rfl rfl rfl (fun v L' I' hq11 => ?_))
  obtain ⟨rfl, rfl, rfl⟩ := hq11
  refine s_y rfl (v := .tuple #[.string ((callPut ((callGet (cutW s)).1)).1), .int .i64 ((callPut ((callGet (cutW s)).1)).2)]) (y_mv rfl) rfl ?_
  refine s_y rfl (v := .string ((callPut ((callGet (cutW s)).1)).1)) (y_k rfl rfl (fun _ => by kernel_rfl)) rfl ?_
  refine s_y rfl (v := .int .i64 ((callPut ((callGet (cutW s)).1)).2)) (y_k rfl rfl (fun _ => by kernel_rfl)) rfl ?_
  refine s_y rfl (v := .string ((callPut ((callGet (cutW s)).1)).1)) (y_as rfl) rfl ?_
  refine s_y rfl (v := .int .i64 ((callPut ((callGet (cutW s)).1)).2)) (y_as rfl) rfl ?_
  refine s_nil (q_then (c_seq (c_region ?_)))
  refine s_y rfl (v := .bool true) (y_mv rfl) rfl ?_
  refine s_y rfl (v := .bool true) (y_mv rfl) rfl ?_
  refine st_on 50 rfl rfl rfl (o_y (v := .int .i64 ((callPut (fewC c)).2)) (y_mv rfl) rfl rfl rfl ?_)
  have h31 : ¬ ((callPut (fewC c)).2 = 0) := h24
  refine st_on 50 rfl rfl rfl (o_y (v := .bool false) (y_f (y_k (v := .bool (decide ((callPut (fewC c)).2 = 0))) rfl rfl (fun _ => by kernel_rfl)) h31) rfl rfl rfl ?_)
  refine st_on 50 rfl rfl rfl (o_y (v := .bool false) (y_mv rfl) rfl rfl rfl ?_)
  refine st_on 53 rfl rfl rfl (o_y (v := .string ((callPut (fewC c)).1)) (y_mv rfl) rfl rfl rfl ?_)
  have h32 : (callPut (fewC c)).1 = (⟨#[]⟩ : ByteArray) := by rw [cput_bad h31]
  refine st_on 53 rfl rfl rfl (o_y (v := .bool true) (y_b (y_k (v := .bool (((callPut (fewC c)).1).toList == (⟨#[]⟩ : ByteArray).toList)) rfl rfl (fun _ => by kernel_rfl)) (str_t h32)) rfl rfl rfl ?_)
  refine st_on 50 rfl rfl rfl (o_y (v := .bool true) (y_pick rfl rfl) rfl rfl rfl ?_)
  refine s_y rfl (v := .bool true) (y_pick rfl rfl) rfl ?_
  refine s_y rfl (v := .bool true) (y_mv rfl) rfl ?_
  refine st_on 58 rfl rfl rfl (o_y (v := .int .i64 ((callGet (cutW s)).2)) (y_mv rfl) rfl rfl rfl ?_)
  refine e_by ((callGet (cutW s)).2 = 0) (fun h33 => ?_) (fun h33 => ?_)
  ·
   refine st_on 58 rfl rfl rfl (o_y (v := .bool false) (y_nt (y_k (v := .bool (!decide ((callGet (cutW s)).2 = 0))) rfl rfl (fun _ => by kernel_rfl)) h33) rfl rfl rfl ?_)
   refine st_on 58 rfl rfl rfl (o_y (v := .bool false) (y_mv rfl) rfl rfl rfl ?_)
   refine st_on 61 rfl rfl rfl (o_y (v := .int .i64 ((callPut ((callGet (cutW s)).1)).2)) (y_mv rfl) rfl rfl rfl ?_)
   have h34 : (callPut ((callGet (cutW s)).1)).2 = 0 := by rw [back_s h33]
   refine st_on 61 rfl rfl rfl (o_y (v := .bool true) (y_t (y_k (v := .bool (decide ((callPut ((callGet (cutW s)).1)).2 = 0))) rfl rfl (fun _ => by kernel_rfl)) h34) rfl rfl rfl ?_)
   refine st_on 61 rfl rfl rfl (o_y (v := .bool true) (y_mv rfl) rfl rfl rfl ?_)
   refine st_on 64 rfl rfl rfl (o_y (v := .string ((callPut ((callGet (cutW s)).1)).1)) (y_mv rfl) rfl rfl rfl ?_)
   refine st_on 64 rfl rfl rfl (o_y (v := .string s) (y_mv rfl) rfl rfl rfl ?_)
   refine st_on 64 rfl rfl rfl (o_call [] [] (cutw_ s (by first | omega | assumption)) rfl rfl rfl rfl rfl rfl (fun v L' I' hq12 => ?_))
   obtain ⟨rfl, rfl, rfl⟩ := hq12
   have h35 : (callPut ((callGet (cutW s)).1)).1 = cutW s := by rw [back_s h33]
   refine st_on 64 rfl rfl rfl (o_y (v := .bool true) (y_b (y_k (v := .bool (((callPut ((callGet (cutW s)).1)).1).toList == (cutW s).toList)) rfl rfl (fun _ => by kernel_rfl)) (str_t h35)) rfl rfl rfl ?_)
   refine st_on 61 rfl rfl rfl (o_y (v := .bool true) (y_pick rfl rfl) rfl rfl rfl ?_)
   refine st_on 58 rfl rfl rfl (o_y (v := .bool true) (y_pick rfl rfl) rfl rfl rfl ?_)
   refine s_y rfl (v := .bool true) (y_pick rfl rfl) rfl ?_
   refine s_y rfl (v := .bool true) (y_as rfl) rfl ?_
   refine s_nil (q_then (c_ret ?_))
   refine c_fin (I' := []) [] [0, 1, 2, 3, 4, 5, 6, 7, 8] rfl (.tmp rfl .nil) rfl rfl rfl ?_
   exact ⟨rfl, rfl, rfl⟩
  ·
   refine st_on 58 rfl rfl rfl (o_y (v := .bool true) (y_nf (y_k (v := .bool (!decide ((callGet (cutW s)).2 = 0))) rfl rfl (fun _ => by kernel_rfl)) h33) rfl rfl rfl ?_)
   refine st_on 58 rfl rfl rfl (o_y (v := .bool true) (y_mv rfl) rfl rfl rfl ?_)
   refine st_off 61 rfl rfl rfl rfl rfl rfl ?_
   refine st_off 61 rfl rfl rfl rfl rfl rfl ?_
   refine st_off 61 rfl rfl rfl rfl rfl rfl ?_
   refine st_offu 64 rfl rfl rfl rfl rfl ?_
   refine st_offu 64 rfl rfl rfl rfl rfl ?_
   refine st_offu 64 rfl rfl rfl rfl rfl ?_
   refine st_offu 64 rfl rfl rfl rfl rfl ?_
   refine st_off 61 rfl rfl rfl rfl rfl rfl ?_
   refine st_on 58 rfl rfl rfl (o_y (v := .bool true) (y_pick rfl rfl) rfl rfl rfl ?_)
   refine s_y rfl (v := .bool true) (y_pick rfl rfl) rfl ?_
   refine s_y rfl (v := .bool true) (y_as rfl) rfl ?_
   refine s_nil (q_then (c_ret ?_))
   refine c_fin (I' := []) [] [0, 1, 2, 3, 4, 5, 6, 7, 8] rfl (.tmp rfl .nil) rfl rfl rfl ?_
   exact ⟨rfl, rfl, rfl⟩
end Go.Proofs.YtcnncdniibkjkaaDoor
