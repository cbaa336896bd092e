/- The laws of chapter 17 (call), walked over the given program; no condition but what stands in each theorem: part UShort. -/
import Derived.Test.YtcnncdniibkjkaaDoorRLNB
import Derived.Test.YtcnncdniibkjkaaDoorRLPE
import Derived.Test.YtcnncdniibkjkaaDoorRLPF
set_option linter.unusedVariables false
set_option linter.unusedSimpArgs false
set_option maxRecDepth 100000
set_option maxHeartbeats 8000000
namespace Go.Proofs.YtcnncdniibkjkaaDoor
open Go Go.Sl Go.RowKit Go.Extern.Stop Go.Stop Go.Extern
theorem CallShort_ (ea : Addr) (em : Addr) (ef : Addr) (el : Addr) (h12 : ea ≠ em) (h13 : ea ≠ ef) (h23 : em ≠ ef) (c : Cal) (z8 : UInt8) (h6c : lab64 c.lb) (hzac : c.nm.size ≤ 9223372036854775807) (hzbc : c.da.size ≤ 9223372036854775807) (hpi : c.pl ≤ 9223372036854775807 ∧ c.nn ≤ 9223372036854775807 ∧ c.id ≤ 9223372036854775807) : Con Tryd.prog 4 [.agg #[.int .i64 c.op, .int .i64 c.lb.lv, .int .u64 (c.lb.cs : Int), .int .i64 c.lb.ig, .string c.nm, .int .i64 c.pl, .int .i64 c.nn, .string c.da, .int .i64 c.id], .int .u8 (z8.toNat : Int)] [] [cellsAt 2 0 [.iface 177 (.pointer (some ea))], cellsAt 3 0 [.iface 177 (.pointer (some em))], cellsAt 1 0 [.iface 177 (.pointer (some ef))], cellsAt 4 0 [.iface 177 (.pointer (some el))], errAt ea, errAt em, errAt ef, errAt el, cellsAt 0 0 [.iface 139 (.agg #[.pointer (some ⟨5, 51, none⟩)])]] (fun v L' I' => v = .bool true ∧ L' = [] ∧ I' = []) := by
 have f1c := shortW_size c.nm
 have f2c := shortW_size c.da
 have f6c : lab64 (fewC c).lb := h6c
 have f3c : (fewC c).nm.size ≤ 100000 := Nat.le_trans f1c (by decide)
 have f4c : (fewC c).da.size ≤ 100000 := Nat.le_trans f2c (by decide)
 have f5c := callPut_size f6c f3c f4c
 have hc := few64 h6c hpi
 refine fn_of Tryd.func4 rfl Tryd.ntmps4 (by kernel_rfl) rfl (fun C => ?_)
 refine c_seq (c_region ?_)
 refine st rfl (o_box (cs := [.int .i64 c.op, .int .i64 c.lb.lv, .int .u64 (c.lb.cs : Int), .int .i64 c.lb.ig, .string c.nm, .int .i64 c.pl, .int .i64 c.nn, .string c.da, .int .i64 c.id]) (T := 26) rfl rfl rfl rfl (fun _ => by kernel_rfl) (fun b1 => ?_))
 refine s_y rfl (v := .bool false) (y_as rfl) rfl ?_
 refine s_nil (q_then (c_seq (c_region ?_)))
 refine st rfl (o_call [] [0, 1, 2, 3, 4, 5, 6, 7, 8] (shown_ ea em ef el (by assumption) (by assumption) (by assumption)) rfl rfl rfl rfl rfl rfl (fun v L' I' hq1 => ?_))
 obtain ⟨rfl, rfl, rfl⟩ := hq1
 refine s_y rfl (v := .bool true) (y_as rfl) rfl ?_
 refine s_nil (q_then (c_seq (c_region ?_)))
 refine st rfl (o_ldn 0 9 rfl rfl rfl rfl Tryd.underlying26 rfl (by kernel_rfl) (by kernel_rfl) rfl ?_)
 refine st rfl (o_call [] [] (fewc_ c (hzac) (hzbc)) rfl rfl rfl rfl rfl rfl (fun v L' I' hq2 => ?_))
 obtain ⟨rfl, rfl, rfl⟩ := hq2
 refine st rfl (o_call [] [0, 1, 2, 4, 5, 6, 3, 7, 8] (callPut_ (fewC c) ea em ef el (by assumption) (by assumption) (by assumption) (f6c) (f3c) (f4c)) rfl rfl rfl rfl rfl rfl (fun v L' I' hq3 => ?_))
 obtain ⟨rfl, rfl, rfl⟩ := hq3
 refine s_y rfl (v := .tuple #[.string ((callPut (fewC c)).1), .int .i64 ((callPut (fewC c)).2)]) (y_mv rfl) rfl ?_
 refine s_y rfl (v := .string ((callPut (fewC c)).1)) (y_k rfl rfl (fun _ => by kernel_rfl)) rfl ?_
 refine s_y rfl (v := .int .i64 ((callPut (fewC c)).2)) (y_k rfl rfl (fun _ => by kernel_rfl)) rfl ?_
 refine s_y rfl (v := .string ((callPut (fewC c)).1)) (y_as rfl) rfl ?_
 refine s_y rfl (v := .int .i64 ((callPut (fewC c)).2)) (y_as rfl) rfl ?_
 refine s_nil (q_then (c_seq (c_seq (c_region ?_))))
 refine s_y rfl (v := .int .i64 ((callPut (fewC c)).2)) (y_mv rfl) rfl ?_
 refine e_by ((callPut (fewC c)).2 = 0) (fun h24 => ?_) (fun h24 => ?_)
 ·
  refine s_y rfl (v := .bool false) (y_nt (y_k (v := .bool (!decide ((callPut (fewC c)).2 = 0))) rfl rfl (fun _ => by kernel_rfl)) h24) rfl ?_
  refine s_y rfl (v := .bool false) (y_mv rfl) rfl ?_
  refine st_on 21 rfl rfl rfl (o_y (v := .string ((callPut (fewC c)).1)) (y_mv rfl) rfl rfl rfl ?_)
  refine st_on 21 rfl rfl rfl (o_y (v := .int .i64 (((callPut (fewC c)).1).size : Int)) (y_k rfl rfl (fun _ => by kernel_rfl)) rfl rfl rfl ?_)
  have h25 : ¬ ((((callPut (fewC c)).1).size : Int) = 0) := by have := first_pos (c := fewC c) h24; omega
  refine st_on 21 rfl rfl rfl (o_y (v := .bool false) (y_f (y_k (v := .bool (decide ((((callPut (fewC c)).1).size : Int) = 0))) rfl rfl (fun _ => by kernel_rfl)) h25) rfl rfl rfl ?_)
  refine s_y rfl (v := .bool false) (y_pick rfl rfl) rfl ?_
  refine s_nil (q_then (c_false rfl (c_skip (q_then (c_seq (c_region ?_))))))
  refine s_y rfl (v := .string ((callPut (fewC c)).1)) (y_mv rfl) rfl ?_
  refine s_y rfl (v := .string ((callPut (fewC c)).1)) (y_mv rfl) rfl ?_
  refine s_y rfl (v := .int .i64 (((callPut (fewC c)).1).size : Int)) (y_k rfl rfl (fun _ => by kernel_rfl)) rfl ?_
  refine s_y rfl (v := .int .i64 ((((callPut (fewC c)).1).size : Int) - 1)) (y_sub (r := (((callPut (fewC c)).1).size : Int) - 1) rfl rfl rfl (by omega)) rfl ?_
  refine s_y rfl (v := .string (((callPut (fewC c)).1).extract 0 ((((callPut (fewC c)).1.size : Int) - 1).toNat))) (y_cuts 0 ((((callPut (fewC c)).1.size : Int) - 1).toNat) rfl .no (.at ((((callPut (fewC c)).1.size : Int) - 1).toNat) rfl (by omega)) Tryd.underlying9 (by have := first_pos (c := fewC c) (by assumption); omega) (by have := first_pos (c := fewC c) (by assumption); omega)) rfl ?_
  refine st rfl (o_call [] [0, 1, 2, 4, 5, 6, 3, 7, 8] (callGet_ (((callPut (fewC c)).1).extract 0 ((((callPut (fewC c)).1.size : Int) - 1).toNat)) ea em ef el (by assumption) (by assumption) (by assumption) (by first | omega | (rw [ByteArray.size_extract]; omega) | (rw [ByteArray.size_append]; have h9 : (⟨List.toArray [z8]⟩ : ByteArray).size = 1 := rfl; omega))) rfl rfl rfl rfl rfl rfl (fun v L' I' hq4 => ?_))
  obtain ⟨rfl, rfl, rfl⟩ := hq4
  refine s_y rfl (v := .tuple #[.agg #[.int .i64 (((callGet (((callPut (fewC c)).1).extract 0 ((((callPut (fewC c)).1.size : Int) - 1).toNat))).1).op), .int .i64 (((callGet (((callPut (fewC c)).1).extract 0 ((((callPut (fewC c)).1.size : Int) - 1).toNat))).1).lb.lv), .int .u64 (((callGet (((callPut (fewC c)).1).extract 0 ((((callPut (fewC c)).1.size : Int) - 1).toNat))).1).lb.cs : Int), .int .i64 (((callGet (((callPut (fewC c)).1).extract 0 ((((callPut (fewC c)).1.size : Int) - 1).toNat))).1).lb.ig), .string (((callGet (((callPut (fewC c)).1).extract 0 ((((callPut (fewC c)).1.size : Int) - 1).toNat))).1).nm), .int .i64 (((callGet (((callPut (fewC c)).1).extract 0 ((((callPut (fewC c)).1.size : Int) - 1).toNat))).1).pl), .int .i64 (((callGet (((callPut (fewC c)).1).extract 0 ((((callPut (fewC c)).1.size : Int) - 1).toNat))).1).nn), .string (((callGet (((callPut (fewC c)).1).extract 0 ((((callPut (fewC c)).1.size : Int) - 1).toNat))).1).da), .int .i64 (((callGet (((callPut (fewC c)).1).extract 0 ((((callPut (fewC c)).1.size : Int) - 1).toNat))).1).id)], .int .i64 ((callGet (((callPut (fewC c)).1).extract 0 ((((callPut (fewC c)).1.size : Int) - 1).toNat))).2)]) (y_mv rfl) rfl ?_
  refine s_y rfl (v := .agg #[.int .i64 (((callGet (((callPut (fewC c)).1).extract 0 ((((callPut (fewC c)).1.size : Int) - 1).toNat))).1).op), .int .i64 (((callGet (((callPut (fewC c)).1).extract 0 ((((callPut (fewC c)).1.size : Int) - 1).toNat))).1).lb.lv), .int .u64 (((callGet (((callPut (fewC c)).1).extract 0 ((((callPut (fewC c)).1.size : Int) - 1).toNat))).1).lb.cs : Int), .int .i64 (((callGet (((callPut (fewC c)).1).extract 0 ((((callPut (fewC c)).1.size : Int) - 1).toNat))).1).lb.ig), .string (((callGet (((callPut (fewC c)).1).extract 0 ((((callPut (fewC c)).1.size : Int) - 1).toNat))).1).nm), .int .i64 (((callGet (((callPut (fewC c)).1).extract 0 ((((callPut (fewC c)).1.size : Int) - 1).toNat))).1).pl), .int .i64 (((callGet (((callPut (fewC c)).1).extract 0 ((((callPut (fewC c)).1.size : Int) - 1).toNat))).1).nn), .string (((callGet (((callPut (fewC c)).1).extract 0 ((((callPut (fewC c)).1.size : Int) - 1).toNat))).1).da), .int .i64 (((callGet (((callPut (fewC c)).1).extract 0 ((((callPut (fewC c)).1.size : Int) - 1).toNat))).1).id)]) (y_k rfl rfl (fun _ => by kernel_rfl)) rfl ?_
  refine s_y rfl (v := .int .i64 ((callGet (((callPut (fewC c)).1).extract 0 ((((callPut (fewC c)).1.size : Int) - 1).toNat))).2)) (y_k rfl rfl (fun _ => by kernel_rfl)) rfl ?_
  refine st rfl (o_box (cs := [.int .i64 0, .int .i64 0, .int .u64 0, .int .i64 0, .string (⟨#[]⟩ : ByteArray), .int .i64 0, .int .i64 0, .string (⟨#[]⟩ : ByteArray), .int .i64 0]) (T := 26) rfl rfl rfl rfl (fun _ => by kernel_rfl) (fun b2 => ?_))
  refine st rfl (o_st 0 rfl rfl rfl rfl rfl (by kernel_rfl) (by kernel_rfl) rfl ?_)
  refine s_y rfl (v := .int .i64 ((callGet (((callPut (fewC c)).1).extract 0 ((((callPut (fewC c)).1.size : Int) - 1).toNat))).2)) (y_as rfl) rfl ?_
  refine s_nil (q_then (c_seq (c_region ?_)))
  refine s_y rfl (v := .string ((callPut (fewC c)).1)) (y_mv rfl) rfl ?_
  refine s_y rfl (v := .int .u8 (z8.toNat : Int)) (y_mv rfl) rfl ?_
  refine st rfl (o_lit (cs := [.int .u8 (z8.toNat : Int)]) (T := 5) (m := 1) rfl rfl rfl rfl (fun _ => by kernel_rfl) (fun b3 => ?_))
  refine st rfl (o_b2s (l := [z8]) rfl rfl (src_pt 0 rfl) Tryd.underlying36 Tryd.underlying9 Tryd.underlying5 rfl ?_)
  refine s_y rfl (v := .string (((callPut (fewC c)).1) ++ (⟨List.toArray [z8]⟩ : ByteArray))) (y_cat (s := (callPut (fewC c)).1) (u := (⟨List.toArray [z8]⟩ : ByteArray)) rfl rfl (by have h9 : (⟨List.toArray [z8]⟩ : ByteArray).size = 1 := rfl; omega)) rfl ?_
  refine st rfl (o_call [] [0, 1, 2, 4, 5, 6, 3, 7, 8] (callGet_ (((callPut (fewC c)).1) ++ (⟨List.toArray [z8]⟩ : ByteArray)) ea em ef el (by assumption) (by assumption) (by assumption) (by first | omega | (rw [ByteArray.size_extract]; omega) | (rw [ByteArray.size_append]; have h9 : (⟨List.toArray [z8]⟩ : ByteArray).size = 1 := rfl; omega))) rfl rfl rfl rfl rfl rfl (fun v L' I' hq5 => ?_))
  obtain ⟨rfl, rfl, rfl⟩ := hq5
  refine s_y rfl (v := .tuple #[.agg #[.int .i64 (((callGet (((callPut (fewC c)).1) ++ (⟨List.toArray [z8]⟩ : ByteArray))).1).op), .int .i64 (((callGet (((callPut (fewC c)).1) ++ (⟨List.toArray [z8]⟩ : ByteArray))).1).lb.lv), .int .u64 (((callGet (((callPut (fewC c)).1) ++ (⟨List.toArray [z8]⟩ : ByteArray))).1).lb.cs : Int), .int .i64 (((callGet (((callPut (fewC c)).1) ++ (⟨List.toArray [z8]⟩ : ByteArray))).1).lb.ig), .string (((callGet (((callPut (fewC c)).1) ++ (⟨List.toArray [z8]⟩ : ByteArray))).1).nm), .int .i64 (((callGet (((callPut (fewC c)).1) ++ (⟨List.toArray [z8]⟩ : ByteArray))).1).pl), .int .i64 (((callGet (((callPut (fewC c)).1) ++ (⟨List.toArray [z8]⟩ : ByteArray))).1).nn), .string (((callGet (((callPut (fewC c)).1) ++ (⟨List.toArray [z8]⟩ : ByteArray))).1).da), .int .i64 (((callGet (((callPut (fewC c)).1) ++ (⟨List.toArray [z8]⟩ : ByteArray))).1).id)], .int .i64 ((callGet (((callPut (fewC c)).1) ++ (⟨List.toArray [z8]⟩ : ByteArray))).2)]) (y_mv rfl) rfl ?_
  refine s_y rfl (v := .agg #[.int .i64 (((callGet (((callPut (fewC c)).1) ++ (⟨List.toArray [z8]⟩ : ByteArray))).1).op), .int .i64 (((callGet (((callPut (fewC c)).1) ++ (⟨List.toArray [z8]⟩ : ByteArray))).1).lb.lv), .int .u64 (((callGet (((callPut (fewC c)).1) ++ (⟨List.toArray [z8]⟩ : ByteArray))).1).lb.cs : Int), .int .i64 (((callGet (((callPut (fewC c)).1) ++ (⟨List.toArray [z8]⟩ : ByteArray))).1).lb.ig), .string (((callGet (((callPut (fewC c)).1) ++ (⟨List.toArray [z8]⟩ : ByteArray))).1).nm), .int .i64 (((callGet (((callPut (fewC c)).1) ++ (⟨List.toArray [z8]⟩ : ByteArray))).1).pl), .int .i64 (((callGet (((callPut (fewC c)).1) ++ (⟨List.toArray [z8]⟩ : ByteArray))).1).nn), .string (((callGet (((callPut (fewC c)).1) ++ (⟨List.toArray [z8]⟩ : ByteArray))).1).da), .int .i64 (((callGet (((callPut (fewC c)).1) ++ (⟨List.toArray [z8]⟩ : ByteArray))).1).id)]) (y_k rfl rfl (fun _ => by kernel_rfl)) rfl ?_
  refine s_y rfl (v := .int .i64 ((callGet (((callPut (fewC c)).1) ++ (⟨List.toArray [z8]⟩ : ByteArray))).2)) (y_k rfl rfl (fun _ => by kernel_rfl)) rfl ?_
  refine st rfl (o_box (cs := [.int .i64 0, .int .i64 0, .int .u64 0, .int .i64 0, .string (⟨#[]⟩ : ByteArray), .int .i64 0, .int .i64 0, .string (⟨#[]⟩ : ByteArray), .int .i64 0]) (T := 26) rfl rfl rfl rfl (fun _ => by kernel_rfl) (fun b4 => ?_))
  refine st rfl (o_st 0 rfl rfl rfl rfl rfl (by kernel_rfl) (by kernel_rfl) rfl ?_)
  refine s_y rfl (v := .int .i64 ((callGet (((callPut (fewC c)).1) ++ (⟨List.toArray [z8]⟩ : ByteArray))).2)) (y_as rfl) rfl ?_
  refine s_nil (q_then (c_seq (c_region ?_)))
  refine s_y rfl (v := .bool true) (y_mv rfl) rfl ?_
  refine s_y rfl (v := .bool true) (y_mv rfl) rfl ?_
  refine st_on 50 rfl rfl rfl (o_y (v := .int .i64 ((callGet (((callPut (fewC c)).1).extract 0 ((((callPut (fewC c)).1.size : Int) - 1).toNat))).2)) (y_mv rfl) rfl rfl rfl ?_)
  have h26 : (callGet (((callPut (fewC c)).1).extract 0 ((((callPut (fewC c)).1.size : Int) - 1).toNat))).2 = 170 := by rw [short_1 (c := fewC c) h24 hc (by have := first_pos (c := fewC c) h24; omega)]
  refine st_on 50 rfl rfl rfl (o_y (v := .bool true) (y_t (y_k (v := .bool (decide ((callGet (((callPut (fewC c)).1).extract 0 ((((callPut (fewC c)).1.size : Int) - 1).toNat))).2 = 170))) rfl rfl (fun _ => by kernel_rfl)) h26) rfl rfl rfl ?_)
  refine s_y rfl (v := .bool true) (y_pick rfl rfl) rfl ?_
  refine s_y rfl (v := .bool true) (y_mv rfl) rfl ?_
  refine st_on 54 rfl rfl rfl (o_ldn 2 9 rfl rfl rfl rfl Tryd.underlying26 rfl (by kernel_rfl) (by kernel_rfl) rfl ?_)
  refine st_on 54 rfl rfl rfl (o_y (v := .agg #[.int .i64 0, .int .i64 0, .int .u64 0, .int .i64 0, .string (⟨#[]⟩ : ByteArray), .int .i64 0, .int .i64 0, .string (⟨#[]⟩ : ByteArray), .int .i64 0]) (y_k rfl rfl (fun _ => by kernel_rfl)) rfl rfl rfl ?_)
  have h27 : (callGet ((callPut (fewC c)).1.extract 0 (((callPut (fewC c)).1.size : Int) - 1).toNat)).1 = (⟨0, (⟨0, 0, 0⟩ : Lab), (⟨#[]⟩ : ByteArray), 0, 0, (⟨#[]⟩ : ByteArray), 0⟩ : Cal) := by rw [short_1 (c := fewC c) h24 hc (by have := first_pos (c := fewC c) h24; omega)]; rfl
  refine st_on 54 rfl rfl rfl (o_y (v := .bool true) (y_t (y_bin rfl rfl (fun w => eq_Cal ((callGet ((callPut (fewC c)).1.extract 0 (((callPut (fewC c)).1.size : Int) - 1).toNat)).1) (⟨0, (⟨0, 0, 0⟩ : Lab), (⟨#[]⟩ : ByteArray), 0, 0, (⟨#[]⟩ : ByteArray), 0⟩ : Cal) w)) h27) rfl rfl rfl ?_)
  refine s_y rfl (v := .bool true) (y_pick rfl rfl) rfl ?_
  refine s_y rfl (v := .bool true) (y_mv rfl) rfl ?_
  refine st_on 59 rfl rfl rfl (o_y (v := .int .i64 ((callGet (((callPut (fewC c)).1) ++ (⟨List.toArray [z8]⟩ : ByteArray))).2)) (y_mv rfl) rfl rfl rfl ?_)
  have h28 : (callGet (((callPut (fewC c)).1) ++ (⟨List.toArray [z8]⟩ : ByteArray))).2 = 170 := by rw [more_c (c := fewC c) h24 hc (fun q => by have h1 := congrArg ByteArray.size q; have h9 : (⟨List.toArray [z8]⟩ : ByteArray).size = 1 := rfl; have h10 : (⟨#[]⟩ : ByteArray).size = 0 := rfl; omega)]
  refine st_on 59 rfl rfl rfl (o_y (v := .bool true) (y_t (y_k (v := .bool (decide ((callGet (((callPut (fewC c)).1) ++ (⟨List.toArray [z8]⟩ : ByteArray))).2 = 170))) rfl rfl (fun _ => by kernel_rfl)) h28) rfl rfl rfl ?_)
  refine s_y rfl (v := .bool true) (y_pick rfl rfl) rfl ?_
  refine s_y rfl (v := .bool true) (y_as rfl) rfl ?_
  refine s_nil (q_then (c_ret ?_))
  refine c_fin (I' := []) [] [0, 1, 2, 3, 4, 5, 6, 7, 8] rfl (.tmp rfl .nil) rfl rfl rfl ?_
  exact ⟨rfl, rfl, rfl⟩
 ·
  refine s_y rfl (v := .bool true) (y_nf (y_k (v := .bool (!decide ((callPut (fewC c)).2 = 0))) rfl rfl (fun _ => by kernel_rfl)) h24) rfl ?_
  refine s_y rfl (v := .bool true) (y_mv rfl) rfl ?_
  refine st_off 21 rfl rfl rfl rfl rfl rfl ?_
  refine st_off 21 rfl rfl rfl rfl rfl rfl ?_
  refine st_off 21 rfl rfl rfl rfl rfl rfl ?_
  refine s_y rfl (v := .bool true) (y_pick rfl rfl) rfl ?_
  refine s_nil (q_then (c_true rfl (c_seq (c_region ?_))))
  refine s_y rfl (v := .bool true) (y_mv rfl) rfl ?_
  refine s_y rfl (v := .bool true) (y_mv rfl) rfl ?_
  refine st_on 27 rfl rfl rfl (o_y (v := .int .i64 ((callPut (fewC c)).2)) (y_mv rfl) rfl rfl rfl ?_)
  have h29 : (callPut (fewC c)).2 = 170 := by rw [cput_bad h24]
  refine st_on 27 rfl rfl rfl (o_y (v := .bool true) (y_t (y_k (v := .bool (decide ((callPut (fewC c)).2 = 170))) rfl rfl (fun _ => by kernel_rfl)) h29) rfl rfl rfl ?_)
  refine s_y rfl (v := .bool true) (y_pick rfl rfl) rfl ?_
  refine s_y rfl (v := .bool true) (y_as rfl) rfl ?_
  refine s_nil (q_then (c_ret (q_then_ret ?_)))
  refine c_fin (I' := []) [] [0, 1, 2, 3, 4, 5, 6, 7, 8] rfl (.tmp rfl .nil) rfl rfl rfl ?_
  exact ⟨rfl, rfl, rfl⟩
end Go.Proofs.YtcnncdniibkjkaaDoor
