/- The laws of chapter 4 (labcode), walked over the given program; no condition but what stands in each theorem: part LNa. -/
import Derived.Test.YthoefkpbijcdeaaDoorRLG
import Derived.Test.YthoefkpbijcdeaaDoorRLPa
set_option linter.unusedVariables false
set_option linter.unusedSimpArgs false
set_option maxRecDepth 100000
set_option maxHeartbeats 8000000
namespace Go.Proofs.YthoefkpbijcdeaaDoor
open Go Go.Sl Go.RowKit Go.Extern.Stop Go.Stop Go.Extern
theorem cut_ (s : ByteArray) (hz : s.size ≤ 9223372036854775807) : Con Tryd.prog 12 [.string s] [] [] (fun v L' I' => v = .string (cutS s) ∧ L' = [] ∧ I' = []) := by
  refine fn_of Tryd.func12 rfl Tryd.ntmps12 (by kernel_rfl) rfl (fun C => ?_)
  refine c_seq ?_
  refine c_region ?_
  refine st rfl (o_y (v := .string (⟨#[]⟩ : ByteArray)) (y_as rfl) rfl rfl rfl ?_)
  refine s_nil ?_
  refine q_then ?_
  refine c_seq ?_
  refine c_region ?_
  refine st rfl (o_y (v := .string s) (y_mv rfl) rfl rfl rfl ?_)
  refine st rfl (o_y (v := .string s) (y_mv rfl) rfl rfl rfl ?_)
  refine st rfl (o_y (v := .int .i64 (s.size : Int)) (y_k rfl rfl (fun _ => by kernel_rfl)) rfl rfl rfl ?_)
  refine st rfl (o_y (v := .int .i64 ((min s.size 300 : Nat) : Int)) (y_min2 s.size 300 rfl rfl) rfl rfl rfl ?_)
  refine st rfl (o_y (v := .string (s.extract 0 (min s.size 300))) (y_cuts 0 (min s.size 300) rfl .no (.at (min s.size 300) rfl (rfl)) Tryd.underlying9 (by omega) (by omega)) rfl rfl rfl ?_)
  refine st rfl (o_y (v := .string (s.extract 0 (min s.size 300))) (y_as rfl) rfl rfl rfl ?_)
  refine s_nil ?_
  refine q_then ?_
  refine c_ret ?_
  have hp : cutS s = s.extract 0 (min s.size 300) := by rfl
  refine c_fin (I' := []) [] [] rfl (.tmp rfl .nil) rfl rfl rfl ?_
  rw [hp]
  exact ⟨rfl, rfl, rfl⟩
theorem shown_ (ea : Addr) (em : Addr) (ef : Addr) (el : Addr) (h12 : ea ≠ em) (h13 : ea ≠ ef) (h23 : em ≠ ef) : Con Tryd.prog 9 [] [] [cellsAt 1 0 [.iface 141 (.pointer (some ea))], cellsAt 3 0 [.iface 141 (.pointer (some em))], cellsAt 4 0 [.iface 141 (.pointer (some ef))], cellsAt 0 0 [.iface 141 (.pointer (some el))], errAt ea, errAt em, errAt ef, errAt el, cellsAt 2 0 [.iface 122 (.agg #[.pointer (some ⟨5, 46, none⟩)])]] (fun v L' I' => v = .bool true ∧ L' = [] ∧ I' = []) := by
  refine fn_of Tryd.func9 rfl Tryd.ntmps9 (by kernel_rfl) rfl (fun C => ?_)
  refine c_seq ?_
  refine c_region ?_
  refine st rfl (o_y (v := .bool false) (y_as rfl) rfl rfl rfl ?_)
  refine s_nil ?_
  refine q_then ?_
  refine c_seq ?_
  refine c_region ?_
  refine st rfl (o_y (v := .agg #[.int .i64 3, .int .u64 1, .int .i64 5]) (y_k rfl rfl (fun _ => by kernel_rfl)) rfl rfl rfl ?_)
  refine st rfl (o_box (cs := [.int .i64 0, .int .u64 0, .int .i64 0]) (T := 24) rfl rfl rfl rfl (fun _ => by kernel_rfl) (fun b1 => ?_))
  refine st rfl (o_st 0 rfl rfl rfl rfl rfl (by kernel_rfl) (by kernel_rfl) rfl ?_)
  refine s_nil ?_
  refine q_then ?_
  refine c_seq ?_
  refine c_region ?_
  refine st rfl (o_ldn 0 3 rfl rfl rfl rfl Tryd.underlying24 rfl (by kernel_rfl) (by kernel_rfl) rfl ?_)
  refine st rfl (o_call [] [0, 1, 2, 4, 5, 6, 3, 7, 8] (lPut_ (⟨3, 1, 5⟩ : Lab) ea em ef el (by assumption) (by assumption) (by assumption) (by show (1 : Nat) < _; decide)) rfl rfl rfl rfl rfl rfl (fun v L' I' hq1 => ?_))
  obtain ⟨rfl, rfl, rfl⟩ := hq1
  refine st rfl (o_y (v := .tuple #[.string ((putL (⟨3, 1, 5⟩ : Lab)).1), .int .i64 ((putL (⟨3, 1, 5⟩ : Lab)).2)]) (y_mv rfl) rfl rfl rfl ?_)
  refine st rfl (o_y (v := .string ((putL (⟨3, 1, 5⟩ : Lab)).1)) (y_k rfl rfl (fun _ => by kernel_rfl)) rfl rfl rfl ?_)
  refine st rfl (o_y (v := .int .i64 ((putL (⟨3, 1, 5⟩ : Lab)).2)) (y_k rfl rfl (fun _ => by kernel_rfl)) rfl rfl rfl ?_)
  refine st rfl (o_y (v := .string ((putL (⟨3, 1, 5⟩ : Lab)).1)) (y_as rfl) rfl rfl rfl ?_)
  refine st rfl (o_y (v := .int .i64 ((putL (⟨3, 1, 5⟩ : Lab)).2)) (y_as rfl) rfl rfl rfl ?_)
  refine s_nil ?_
  refine q_then ?_
  refine c_seq ?_
  refine c_region ?_
  refine st rfl (o_y (v := .string ((putL (⟨3, 1, 5⟩ : Lab)).1)) (y_mv rfl) rfl rfl rfl ?_)
  refine st rfl (o_y (v := .string (((putL (⟨3, 1, 5⟩ : Lab)).1) ++ (⟨#[120]⟩ : ByteArray))) (y_cat (s := (putL (⟨3, 1, 5⟩ : Lab)).1) (u := (⟨#[120]⟩ : ByteArray)) rfl rfl (by have := putL_size (a := ⟨3, 1, 5⟩) (by show (1 : Nat) < _; decide); have h2 : (⟨#[120]⟩ : ByteArray).size = 1 := rfl; omega)) rfl rfl rfl ?_)
  refine st rfl (o_call [] [0, 1, 2, 4, 5, 6, 3, 7, 8] (lGet_ (((putL (⟨3, 1, 5⟩ : Lab)).1) ++ (⟨#[120]⟩ : ByteArray)) ea em ef el (by assumption) (by assumption) (by assumption) (by first | omega | (rw [ByteArray.size_append]; omega) | decide | assumption)) rfl rfl rfl rfl rfl rfl (fun v L' I' hq2 => ?_))
  obtain ⟨rfl, rfl, rfl⟩ := hq2
  refine st rfl (o_y (v := .tuple #[.agg #[.int .i64 (((labGet (((putL (⟨3, 1, 5⟩ : Lab)).1) ++ (⟨#[120]⟩ : ByteArray))).1).lv), .int .u64 (((labGet (((putL (⟨3, 1, 5⟩ : Lab)).1) ++ (⟨#[120]⟩ : ByteArray))).1).cs : Int), .int .i64 (((labGet (((putL (⟨3, 1, 5⟩ : Lab)).1) ++ (⟨#[120]⟩ : ByteArray))).1).ig)], .string ((labGet (((putL (⟨3, 1, 5⟩ : Lab)).1) ++ (⟨#[120]⟩ : ByteArray))).2.1), .int .i64 ((labGet (((putL (⟨3, 1, 5⟩ : Lab)).1) ++ (⟨#[120]⟩ : ByteArray))).2.2)]) (y_mv rfl) rfl rfl rfl ?_)
  refine st rfl (o_y (v := .agg #[.int .i64 (((labGet (((putL (⟨3, 1, 5⟩ : Lab)).1) ++ (⟨#[120]⟩ : ByteArray))).1).lv), .int .u64 (((labGet (((putL (⟨3, 1, 5⟩ : Lab)).1) ++ (⟨#[120]⟩ : ByteArray))).1).cs : Int), .int .i64 (((labGet (((putL (⟨3, 1, 5⟩ : Lab)).1) ++ (⟨#[120]⟩ : ByteArray))).1).ig)]) (y_k rfl rfl (fun _ => by kernel_rfl)) rfl rfl rfl ?_)
  refine st rfl (o_y (v := .string ((labGet (((putL (⟨3, 1, 5⟩ : Lab)).1) ++ (⟨#[120]⟩ : ByteArray))).2.1)) (y_k rfl rfl (fun _ => by kernel_rfl)) rfl rfl rfl ?_)
  refine st rfl (o_y (v := .int .i64 ((labGet (((putL (⟨3, 1, 5⟩ : Lab)).1) ++ (⟨#[120]⟩ : ByteArray))).2.2)) (y_k rfl rfl (fun _ => by kernel_rfl)) rfl rfl rfl ?_)
  refine st rfl (o_box (cs := [.int .i64 0, .int .u64 0, .int .i64 0]) (T := 24) rfl rfl rfl rfl (fun _ => by kernel_rfl) (fun b2 => ?_))
  refine st rfl (o_st 0 rfl rfl rfl rfl rfl (by kernel_rfl) (by kernel_rfl) rfl ?_)
  refine st rfl (o_y (v := .string ((labGet (((putL (⟨3, 1, 5⟩ : Lab)).1) ++ (⟨#[120]⟩ : ByteArray))).2.1)) (y_as rfl) rfl rfl rfl ?_)
  refine st rfl (o_y (v := .int .i64 ((labGet (((putL (⟨3, 1, 5⟩ : Lab)).1) ++ (⟨#[120]⟩ : ByteArray))).2.2)) (y_as rfl) rfl rfl rfl ?_)
  refine s_nil ?_
  refine q_then ?_
  refine c_seq ?_
  refine c_region ?_
  refine st rfl (o_call [] [0, 1, 2, 4, 5, 6, 3, 7, 8] (lGet_ (⟨#[16, 0, 0, 0, 0, 0, 0, 0, 0, 0]⟩ : ByteArray) ea em ef el (by assumption) (by assumption) (by assumption) (by first | omega | (rw [ByteArray.size_append]; omega) | decide | assumption)) rfl rfl rfl rfl rfl rfl (fun v L' I' hq3 => ?_))
  obtain ⟨rfl, rfl, rfl⟩ := hq3
  refine st rfl (o_y (v := .tuple #[.agg #[.int .i64 (((labGet (⟨#[16, 0, 0, 0, 0, 0, 0, 0, 0, 0]⟩ : ByteArray)).1).lv), .int .u64 (((labGet (⟨#[16, 0, 0, 0, 0, 0, 0, 0, 0, 0]⟩ : ByteArray)).1).cs : Int), .int .i64 (((labGet (⟨#[16, 0, 0, 0, 0, 0, 0, 0, 0, 0]⟩ : ByteArray)).1).ig)], .string ((labGet (⟨#[16, 0, 0, 0, 0, 0, 0, 0, 0, 0]⟩ : ByteArray)).2.1), .int .i64 ((labGet (⟨#[16, 0, 0, 0, 0, 0, 0, 0, 0, 0]⟩ : ByteArray)).2.2)]) (y_mv rfl) rfl rfl rfl ?_)
  refine st rfl (o_y (v := .agg #[.int .i64 (((labGet (⟨#[16, 0, 0, 0, 0, 0, 0, 0, 0, 0]⟩ : ByteArray)).1).lv), .int .u64 (((labGet (⟨#[16, 0, 0, 0, 0, 0, 0, 0, 0, 0]⟩ : ByteArray)).1).cs : Int), .int .i64 (((labGet (⟨#[16, 0, 0, 0, 0, 0, 0, 0, 0, 0]⟩ : ByteArray)).1).ig)]) (y_k rfl rfl (fun _ => by kernel_rfl)) rfl rfl rfl ?_)
  refine st rfl (o_y (v := .string ((labGet (⟨#[16, 0, 0, 0, 0, 0, 0, 0, 0, 0]⟩ : ByteArray)).2.1)) (y_k rfl rfl (fun _ => by kernel_rfl)) rfl rfl rfl ?_)
  refine st rfl (o_y (v := .int .i64 ((labGet (⟨#[16, 0, 0, 0, 0, 0, 0, 0, 0, 0]⟩ : ByteArray)).2.2)) (y_k rfl rfl (fun _ => by kernel_rfl)) rfl rfl rfl ?_)
  refine st rfl (o_box (cs := [.int .i64 0, .int .u64 0, .int .i64 0]) (T := 24) rfl rfl rfl rfl (fun _ => by kernel_rfl) (fun b3 => ?_))
  refine st rfl (o_st 0 rfl rfl rfl rfl rfl (by kernel_rfl) (by kernel_rfl) rfl ?_)
  refine st rfl (o_y (v := .string ((labGet (⟨#[16, 0, 0, 0, 0, 0, 0, 0, 0, 0]⟩ : ByteArray)).2.1)) (y_as rfl) rfl rfl rfl ?_)
  refine st rfl (o_y (v := .int .i64 ((labGet (⟨#[16, 0, 0, 0, 0, 0, 0, 0, 0, 0]⟩ : ByteArray)).2.2)) (y_as rfl) rfl rfl rfl ?_)
  refine s_nil ?_
  refine q_then ?_
  refine c_seq ?_
  refine c_region ?_
  refine st rfl (o_y (v := .string ((putL (⟨3, 1, 5⟩ : Lab)).1)) (y_mv rfl) rfl rfl rfl ?_)
  have h24 : (putL (⟨3, 1, 5⟩ : Lab)).1 = (⟨#[3, 5, 0, 0, 0, 0, 0, 0, 0, 1]⟩ : ByteArray) := by decide +kernel
  refine st rfl (o_y (v := .bool true) (y_b (y_k (v := .bool (((putL (⟨3, 1, 5⟩ : Lab)).1).toList == (⟨#[3, 5, 0, 0, 0, 0, 0, 0, 0, 1]⟩ : ByteArray).toList)) rfl rfl (fun _ => by kernel_rfl)) (str_t h24)) rfl rfl rfl ?_)
  refine st rfl (o_y (v := .bool true) (y_mv rfl) rfl rfl rfl ?_)
  refine st_on 30 rfl rfl rfl (o_y (v := .int .i64 ((putL (⟨3, 1, 5⟩ : Lab)).2)) (y_mv rfl) rfl rfl rfl ?_)
  have h25 : (putL (⟨3, 1, 5⟩ : Lab)).2 = 0 := by decide +kernel
  refine st_on 30 rfl rfl rfl (o_y (v := .bool true) (y_t (y_k (v := .bool (decide ((putL (⟨3, 1, 5⟩ : Lab)).2 = 0))) rfl rfl (fun _ => by kernel_rfl)) h25) rfl rfl rfl ?_)
  refine st rfl (o_y (v := .bool true) (y_pick rfl rfl) rfl rfl rfl ?_)
  refine st rfl (o_y (v := .bool true) (y_mv rfl) rfl rfl rfl ?_)
  refine st_on 34 rfl rfl rfl (o_ldn 1 3 rfl rfl rfl rfl Tryd.underlying24 rfl (by kernel_rfl) (by kernel_rfl) rfl ?_)
  refine st_on 34 rfl rfl rfl (o_ldn 2 3 rfl rfl rfl rfl Tryd.underlying24 rfl (by kernel_rfl) (by kernel_rfl) rfl ?_)
  have h26 : (labGet ((putL (⟨3, 1, 5⟩ : Lab)).1 ++ (⟨#[120]⟩ : ByteArray))).1 = (⟨3, 1, 5⟩ : Lab) := by decide +kernel
  refine st_on 34 rfl rfl rfl (o_y (v := .bool true) (y_t (y_bin rfl rfl (fun w => eq_Lab ((labGet ((putL (⟨3, 1, 5⟩ : Lab)).1 ++ (⟨#[120]⟩ : ByteArray))).1) (⟨3, 1, 5⟩ : Lab) w)) h26) rfl rfl rfl ?_)
  refine st rfl (o_y (v := .bool true) (y_pick rfl rfl) rfl rfl rfl ?_)
  refine st rfl (o_y (v := .bool true) (y_mv rfl) rfl rfl rfl ?_)
  refine st_on 39 rfl rfl rfl (o_y (v := .string ((labGet (((putL (⟨3, 1, 5⟩ : Lab)).1) ++ (⟨#[120]⟩ : ByteArray))).2.1)) (y_mv rfl) rfl rfl rfl ?_)
  have h27 : (labGet (((putL (⟨3, 1, 5⟩ : Lab)).1) ++ (⟨#[120]⟩ : ByteArray))).2.1 = (⟨#[120]⟩ : ByteArray) := by decide +kernel
  refine st_on 39 rfl rfl rfl (o_y (v := .bool true) (y_b (y_k (v := .bool (((labGet (((putL (⟨3, 1, 5⟩ : Lab)).1) ++ (⟨#[120]⟩ : ByteArray))).2.1).toList == (⟨#[120]⟩ : ByteArray).toList)) rfl rfl (fun _ => by kernel_rfl)) (str_t h27)) rfl rfl rfl ?_)
  refine st rfl (o_y (v := .bool true) (y_pick rfl rfl) rfl rfl rfl ?_)
  refine st rfl (o_y (v := .bool true) (y_mv rfl) rfl rfl rfl ?_)
  refine st_on 43 rfl rfl rfl (o_y (v := .int .i64 ((labGet (((putL (⟨3, 1, 5⟩ : Lab)).1) ++ (⟨#[120]⟩ : ByteArray))).2.2)) (y_mv rfl) rfl rfl rfl ?_)
  have h28 : (labGet (((putL (⟨3, 1, 5⟩ : Lab)).1) ++ (⟨#[120]⟩ : ByteArray))).2.2 = 0 := by decide +kernel
  refine st_on 43 rfl rfl rfl (o_y (v := .bool true) (y_t (y_k (v := .bool (decide ((labGet (((putL (⟨3, 1, 5⟩ : Lab)).1) ++ (⟨#[120]⟩ : ByteArray))).2.2 = 0))) rfl rfl (fun _ => by kernel_rfl)) h28) rfl rfl rfl ?_)
  refine st rfl (o_y (v := .bool true) (y_pick rfl rfl) rfl rfl rfl ?_)
  refine st rfl (o_y (v := .bool true) (y_mv rfl) rfl rfl rfl ?_)
  refine st_on 47 rfl rfl rfl (o_y (v := .int .i64 ((labGet (⟨#[16, 0, 0, 0, 0, 0, 0, 0, 0, 0]⟩ : ByteArray)).2.2)) (y_mv rfl) rfl rfl rfl ?_)
  have h29 : (labGet (⟨#[16, 0, 0, 0, 0, 0, 0, 0, 0, 0]⟩ : ByteArray)).2.2 = 40 := by decide +kernel
  refine st_on 47 rfl rfl rfl (o_y (v := .bool true) (y_t (y_k (v := .bool (decide ((labGet (⟨#[16, 0, 0, 0, 0, 0, 0, 0, 0, 0]⟩ : ByteArray)).2.2 = 40))) rfl rfl (fun _ => by kernel_rfl)) h29) rfl rfl rfl ?_)
  refine st rfl (o_y (v := .bool true) (y_pick rfl rfl) rfl rfl rfl ?_)
  refine st rfl (o_y (v := .bool true) (y_as rfl) rfl rfl rfl ?_)
  refine s_nil ?_
  refine q_then ?_
  refine c_ret ?_
  refine c_fin (I' := []) [] [0, 1, 2, 3, 4, 5, 6, 7, 8] rfl (.tmp rfl .nil) rfl rfl rfl ?_
  exact ⟨rfl, rfl, rfl⟩
end Go.Proofs.YthoefkpbijcdeaaDoor
