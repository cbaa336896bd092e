/- The laws of chapter 4 (labcode), walked over the given program; no condition but what stands in each theorem: part UCodes. -/
import Derived.Test.YthoefkpbijcdeaaDoorRLK
import Derived.Test.YthoefkpbijcdeaaDoorRLNa
set_option linter.unusedVariables false
set_option linter.unusedSimpArgs false
set_option maxRecDepth 100000
set_option maxHeartbeats 8000000
namespace Go.Proofs.YthoefkpbijcdeaaDoor
open Go Go.Sl Go.RowKit Go.Extern.Stop Go.Stop Go.Extern
theorem LabcodeCodes_ (ea : Addr) (em : Addr) (ef : Addr) (el : Addr) (h12 : ea ≠ em) (h13 : ea ≠ ef) (h23 : em ≠ ef) (a : Lab) (b : Lab) (s : ByteArray) (h6a : lab64 a) (h6b : lab64 b) (zs : s.size ≤ 9223372036854775807) : Con Tryd.prog 7 [.agg #[.int .i64 a.lv, .int .u64 (a.cs : Int), .int .i64 a.ig], .agg #[.int .i64 b.lv, .int .u64 (b.cs : Int), .int .i64 b.ig], .string s] [] [cellsAt 1 0 [.iface 141 (.pointer (some ea))], cellsAt 3 0 [.iface 141 (.pointer (some em))], cellsAt 4 0 [.iface 141 (.pointer (some ef))], cellsAt 0 0 [.iface 141 (.pointer (some el))], errAt ea, errAt em, errAt ef, errAt el, cellsAt 2 0 [.iface 122 (.agg #[.pointer (some ⟨5, 46, none⟩)])]] (fun v L' I' => v = .bool true ∧ L' = [] ∧ I' = []) := by
  have cs := cutS_size s
  refine fn_of Tryd.func7 rfl Tryd.ntmps7 (by kernel_rfl) rfl (fun C => ?_)
  refine c_seq ?_
  refine c_region ?_
  refine st rfl (o_box (cs := [.int .i64 a.lv, .int .u64 (a.cs : Int), .int .i64 a.ig]) (T := 24) rfl rfl rfl rfl (fun _ => by kernel_rfl) (fun b1 => ?_))
  refine st rfl (o_box (cs := [.int .i64 b.lv, .int .u64 (b.cs : Int), .int .i64 b.ig]) (T := 24) rfl rfl rfl rfl (fun _ => by kernel_rfl) (fun b2 => ?_))
  refine st rfl (o_y (v := .bool false) (y_as rfl) rfl rfl rfl ?_)
  refine s_nil ?_
  refine q_then ?_
  refine c_seq ?_
  refine c_region ?_
  refine st rfl (o_call [] [0, 1, 2, 3, 4, 5, 6, 7, 8] (shown_ ea em ef el (by assumption) (by assumption) (by assumption)) rfl rfl rfl rfl rfl rfl (fun v L' I' hq1 => ?_))
  obtain ⟨rfl, rfl, rfl⟩ := hq1
  refine st rfl (o_y (v := .bool true) (y_as rfl) rfl rfl rfl ?_)
  refine s_nil ?_
  refine q_then ?_
  refine c_seq ?_
  refine c_region ?_
  refine st rfl (o_ldn 1 3 rfl rfl rfl rfl Tryd.underlying24 rfl (by kernel_rfl) (by kernel_rfl) rfl ?_)
  refine st rfl (o_call [] [0, 1, 2, 4, 5, 6, 3, 7, 8] (lPut_ a ea em ef el (by assumption) (by assumption) (by assumption) (by first | assumption | exact (by assumption : ∀ x ∈ _, lab64 x) _ (List.mem_of_getElem? (by assumption)) | decide)) rfl rfl rfl rfl rfl rfl (fun v L' I' hq2 => ?_))
  obtain ⟨rfl, rfl, rfl⟩ := hq2
  refine st rfl (o_y (v := .tuple #[.string ((putL a).1), .int .i64 ((putL a).2)]) (y_mv rfl) rfl rfl rfl ?_)
  refine st rfl (o_y (v := .string ((putL a).1)) (y_k rfl rfl (fun _ => by kernel_rfl)) rfl rfl rfl ?_)
  refine st rfl (o_y (v := .int .i64 ((putL a).2)) (y_k rfl rfl (fun _ => by kernel_rfl)) rfl rfl rfl ?_)
  refine st rfl (o_y (v := .string ((putL a).1)) (y_as rfl) rfl rfl rfl ?_)
  refine st rfl (o_y (v := .int .i64 ((putL a).2)) (y_as rfl) rfl rfl rfl ?_)
  refine s_nil ?_
  refine q_then ?_
  refine c_seq ?_
  refine c_region ?_
  refine st rfl (o_ldn 1 3 rfl rfl rfl rfl Tryd.underlying24 rfl (by kernel_rfl) (by kernel_rfl) rfl ?_)
  refine st rfl (o_call [] [] (rlPut_ a (by first | assumption | exact (by assumption : ∀ x ∈ _, lab64 x) _ (List.mem_of_getElem? (by assumption)) | decide)) rfl rfl rfl rfl rfl rfl (fun v L' I' hq3 => ?_))
  obtain ⟨rfl, rfl, rfl⟩ := hq3
  refine st rfl (o_y (v := .tuple #[.string ((putL a).1), .int .i64 ((putL a).2)]) (y_mv rfl) rfl rfl rfl ?_)
  refine st rfl (o_y (v := .string ((putL a).1)) (y_k rfl rfl (fun _ => by kernel_rfl)) rfl rfl rfl ?_)
  refine st rfl (o_y (v := .int .i64 ((putL a).2)) (y_k rfl rfl (fun _ => by kernel_rfl)) rfl rfl rfl ?_)
  refine st rfl (o_y (v := .string ((putL a).1)) (y_as rfl) rfl rfl rfl ?_)
  refine st rfl (o_y (v := .int .i64 ((putL a).2)) (y_as rfl) rfl rfl rfl ?_)
  refine s_nil ?_
  refine q_then ?_
  refine c_seq ?_
  refine c_region ?_
  refine st rfl (o_y (v := .string s) (y_mv rfl) rfl rfl rfl ?_)
  refine st rfl (o_call [] [] (cut_ s (by omega)) rfl rfl rfl rfl rfl rfl (fun v L' I' hq4 => ?_))
  obtain ⟨rfl, rfl, rfl⟩ := hq4
  refine st rfl (o_call [] [0, 1, 2, 4, 5, 6, 3, 7, 8] (lGet_ (cutS s) ea em ef el (by assumption) (by assumption) (by assumption) (by first | omega | (rw [ByteArray.size_append]; omega) | decide | assumption)) rfl rfl rfl rfl rfl rfl (fun v L' I' hq5 => ?_))
  obtain ⟨rfl, rfl, rfl⟩ := hq5
  refine st rfl (o_y (v := .tuple #[.agg #[.int .i64 (((labGet (cutS s)).1).lv), .int .u64 (((labGet (cutS s)).1).cs : Int), .int .i64 (((labGet (cutS s)).1).ig)], .string ((labGet (cutS s)).2.1), .int .i64 ((labGet (cutS s)).2.2)]) (y_mv rfl) rfl rfl rfl ?_)
  refine st rfl (o_y (v := .agg #[.int .i64 (((labGet (cutS s)).1).lv), .int .u64 (((labGet (cutS s)).1).cs : Int), .int .i64 (((labGet (cutS s)).1).ig)]) (y_k rfl rfl (fun _ => by kernel_rfl)) rfl rfl rfl ?_)
  refine st rfl (o_y (v := .string ((labGet (cutS s)).2.1)) (y_k rfl rfl (fun _ => by kernel_rfl)) rfl rfl rfl ?_)
  refine st rfl (o_y (v := .int .i64 ((labGet (cutS s)).2.2)) (y_k rfl rfl (fun _ => by kernel_rfl)) rfl rfl rfl ?_)
  refine st rfl (o_box (cs := [.int .i64 0, .int .u64 0, .int .i64 0]) (T := 24) rfl rfl rfl rfl (fun _ => by kernel_rfl) (fun b3 => ?_))
  refine st rfl (o_st 0 rfl rfl rfl rfl rfl (by kernel_rfl) (by kernel_rfl) rfl ?_)
  refine st rfl (o_y (v := .string ((labGet (cutS s)).2.1)) (y_as rfl) rfl rfl rfl ?_)
  refine st rfl (o_y (v := .int .i64 ((labGet (cutS s)).2.2)) (y_as rfl) rfl rfl rfl ?_)
  refine s_nil ?_
  refine q_then ?_
  refine c_seq ?_
  refine c_region ?_
  refine st rfl (o_y (v := .string s) (y_mv rfl) rfl rfl rfl ?_)
  refine st rfl (o_call [] [] (cut_ s (by omega)) rfl rfl rfl rfl rfl rfl (fun v L' I' hq6 => ?_))
  obtain ⟨rfl, rfl, rfl⟩ := hq6
  refine st rfl (o_call [] [] (rlGet_ (cutS s) (by first | omega | (rw [ByteArray.size_append]; omega) | decide | assumption)) rfl rfl rfl rfl rfl rfl (fun v L' I' hq7 => ?_))
  obtain ⟨rfl, rfl, rfl⟩ := hq7
  refine st rfl (o_y (v := .tuple #[.agg #[.int .i64 (((labGet (cutS s)).1).lv), .int .u64 (((labGet (cutS s)).1).cs : Int), .int .i64 (((labGet (cutS s)).1).ig)], .string ((labGet (cutS s)).2.1), .int .i64 ((labGet (cutS s)).2.2)]) (y_mv rfl) rfl rfl rfl ?_)
  refine st rfl (o_y (v := .agg #[.int .i64 (((labGet (cutS s)).1).lv), .int .u64 (((labGet (cutS s)).1).cs : Int), .int .i64 (((labGet (cutS s)).1).ig)]) (y_k rfl rfl (fun _ => by kernel_rfl)) rfl rfl rfl ?_)
  refine st rfl (o_y (v := .string ((labGet (cutS s)).2.1)) (y_k rfl rfl (fun _ => by kernel_rfl)) rfl rfl rfl ?_)
  refine st rfl (o_y (v := .int .i64 ((labGet (cutS s)).2.2)) (y_k rfl rfl (fun _ => by kernel_rfl)) rfl rfl rfl ?_)
  refine st rfl (o_box (cs := [.int .i64 0, .int .u64 0, .int .i64 0]) (T := 24) rfl rfl rfl rfl (fun _ => by kernel_rfl) (fun b4 => ?_))
  refine st rfl (o_st 0 rfl rfl rfl rfl rfl (by kernel_rfl) (by kernel_rfl) rfl ?_)
  refine st rfl (o_y (v := .string ((labGet (cutS s)).2.1)) (y_as rfl) rfl rfl rfl ?_)
  refine st rfl (o_y (v := .int .i64 ((labGet (cutS s)).2.2)) (y_as rfl) rfl rfl rfl ?_)
  refine s_nil ?_
  refine q_then ?_
  refine c_seq ?_
  refine c_region ?_
  refine st rfl (o_ldn 3 3 rfl rfl rfl rfl Tryd.underlying24 rfl (by kernel_rfl) (by kernel_rfl) rfl ?_)
  refine st rfl (o_ldn 2 3 rfl rfl rfl rfl Tryd.underlying24 rfl (by kernel_rfl) (by kernel_rfl) rfl ?_)
  refine st rfl (o_call [] [0, 1, 2, 4, 5, 6, 3, 7, 8] (lPutRange_ a b ea em ef el (by assumption) (by assumption) (by assumption) (by first | assumption | exact (by assumption : ∀ x ∈ _, lab64 x) _ (List.mem_of_getElem? (by assumption)) | decide) (by first | assumption | exact (by assumption : ∀ x ∈ _, lab64 x) _ (List.mem_of_getElem? (by assumption)) | decide)) rfl rfl rfl rfl rfl rfl (fun v L' I' hq8 => ?_))
  obtain ⟨rfl, rfl, rfl⟩ := hq8
  refine st rfl (o_y (v := .tuple #[.string ((rangeF a b).1), .int .i64 ((rangeF a b).2)]) (y_mv rfl) rfl rfl rfl ?_)
  refine st rfl (o_y (v := .string ((rangeF a b).1)) (y_k rfl rfl (fun _ => by kernel_rfl)) rfl rfl rfl ?_)
  refine st rfl (o_y (v := .int .i64 ((rangeF a b).2)) (y_k rfl rfl (fun _ => by kernel_rfl)) rfl rfl rfl ?_)
  refine st rfl (o_y (v := .string ((rangeF a b).1)) (y_as rfl) rfl rfl rfl ?_)
  refine st rfl (o_y (v := .int .i64 ((rangeF a b).2)) (y_as rfl) rfl rfl rfl ?_)
  refine s_nil ?_
  refine q_then ?_
  refine c_seq ?_
  refine c_region ?_
  refine st rfl (o_ldn 3 3 rfl rfl rfl rfl Tryd.underlying24 rfl (by kernel_rfl) (by kernel_rfl) rfl ?_)
  refine st rfl (o_ldn 2 3 rfl rfl rfl rfl Tryd.underlying24 rfl (by kernel_rfl) (by kernel_rfl) rfl ?_)
  refine st rfl (o_call [] [] (rlPutRange_ a b (by first | assumption | exact (by assumption : ∀ x ∈ _, lab64 x) _ (List.mem_of_getElem? (by assumption)) | decide) (by first | assumption | exact (by assumption : ∀ x ∈ _, lab64 x) _ (List.mem_of_getElem? (by assumption)) | decide)) rfl rfl rfl rfl rfl rfl (fun v L' I' hq9 => ?_))
  obtain ⟨rfl, rfl, rfl⟩ := hq9
  refine st rfl (o_y (v := .tuple #[.string ((rangeF a b).1), .int .i64 ((rangeF a b).2)]) (y_mv rfl) rfl rfl rfl ?_)
  refine st rfl (o_y (v := .string ((rangeF a b).1)) (y_k rfl rfl (fun _ => by kernel_rfl)) rfl rfl rfl ?_)
  refine st rfl (o_y (v := .int .i64 ((rangeF a b).2)) (y_k rfl rfl (fun _ => by kernel_rfl)) rfl rfl rfl ?_)
  refine st rfl (o_y (v := .string ((rangeF a b).1)) (y_as rfl) rfl rfl rfl ?_)
  refine st rfl (o_y (v := .int .i64 ((rangeF a b).2)) (y_as rfl) rfl rfl rfl ?_)
  refine s_nil ?_
  refine q_then ?_
  refine c_seq ?_
  refine c_region ?_
  refine st rfl (o_y (v := .string s) (y_mv rfl) rfl rfl rfl ?_)
  refine st rfl (o_call [] [] (cut_ s (by omega)) rfl rfl rfl rfl rfl rfl (fun v L' I' hq10 => ?_))
  obtain ⟨rfl, rfl, rfl⟩ := hq10
  refine st rfl (o_call [] [0, 1, 2, 4, 5, 6, 3, 7, 8] (lGetRange_ (cutS s) ea em ef el (by assumption) (by assumption) (by assumption) (by first | omega | (rw [ByteArray.size_append]; omega) | decide | assumption)) rfl rfl rfl rfl rfl rfl (fun v L' I' hq11 => ?_))
  obtain ⟨rfl, rfl, rfl⟩ := hq11
  refine st rfl (o_y (v := .tuple #[.agg #[.int .i64 (((rgetF (cutS s)).1).lv), .int .u64 (((rgetF (cutS s)).1).cs : Int), .int .i64 (((rgetF (cutS s)).1).ig)], .agg #[.int .i64 (((rgetF (cutS s)).2.1).lv), .int .u64 (((rgetF (cutS s)).2.1).cs : Int), .int .i64 (((rgetF (cutS s)).2.1).ig)], .string ((rgetF (cutS s)).2.2.1), .int .i64 ((rgetF (cutS s)).2.2.2)]) (y_mv rfl) rfl rfl rfl ?_)
  refine st rfl (o_y (v := .agg #[.int .i64 (((rgetF (cutS s)).1).lv), .int .u64 (((rgetF (cutS s)).1).cs : Int), .int .i64 (((rgetF (cutS s)).1).ig)]) (y_k rfl rfl (fun _ => by kernel_rfl)) rfl rfl rfl ?_)
  refine st rfl (o_y (v := .agg #[.int .i64 (((rgetF (cutS s)).2.1).lv), .int .u64 (((rgetF (cutS s)).2.1).cs : Int), .int .i64 (((rgetF (cutS s)).2.1).ig)]) (y_k rfl rfl (fun _ => by kernel_rfl)) rfl rfl rfl ?_)
  refine st rfl (o_y (v := .string ((rgetF (cutS s)).2.2.1)) (y_k rfl rfl (fun _ => by kernel_rfl)) rfl rfl rfl ?_)
  refine st rfl (o_y (v := .int .i64 ((rgetF (cutS s)).2.2.2)) (y_k rfl rfl (fun _ => by kernel_rfl)) rfl rfl rfl ?_)
  refine st rfl (o_box (cs := [.int .i64 0, .int .u64 0, .int .i64 0]) (T := 24) rfl rfl rfl rfl (fun _ => by kernel_rfl) (fun b5 => ?_))
  refine st rfl (o_box (cs := [.int .i64 0, .int .u64 0, .int .i64 0]) (T := 24) rfl rfl rfl rfl (fun _ => by kernel_rfl) (fun b6 => ?_))
  refine st rfl (o_st 1 rfl rfl rfl rfl rfl (by kernel_rfl) (by kernel_rfl) rfl ?_)
  refine st rfl (o_st 0 rfl rfl rfl rfl rfl (by kernel_rfl) (by kernel_rfl) rfl ?_)
  refine st rfl (o_y (v := .string ((rgetF (cutS s)).2.2.1)) (y_as rfl) rfl rfl rfl ?_)
  refine st rfl (o_y (v := .int .i64 ((rgetF (cutS s)).2.2.2)) (y_as rfl) rfl rfl rfl ?_)
  refine s_nil ?_
  refine q_then ?_
  refine c_seq ?_
  refine c_region ?_
  refine st rfl (o_y (v := .string s) (y_mv rfl) rfl rfl rfl ?_)
  refine st rfl (o_call [] [] (cut_ s (by omega)) rfl rfl rfl rfl rfl rfl (fun v L' I' hq12 => ?_))
  obtain ⟨rfl, rfl, rfl⟩ := hq12
  refine st rfl (o_call [] [] (rlGetRange_ (cutS s) (by first | omega | (rw [ByteArray.size_append]; omega) | decide | assumption)) rfl rfl rfl rfl rfl rfl (fun v L' I' hq13 => ?_))
  obtain ⟨rfl, rfl, rfl⟩ := hq13
  refine st rfl (o_y (v := .tuple #[.agg #[.int .i64 (((rgetF (cutS s)).1).lv), .int .u64 (((rgetF (cutS s)).1).cs : Int), .int .i64 (((rgetF (cutS s)).1).ig)], .agg #[.int .i64 (((rgetF (cutS s)).2.1).lv), .int .u64 (((rgetF (cutS s)).2.1).cs : Int), .int .i64 (((rgetF (cutS s)).2.1).ig)], .string ((rgetF (cutS s)).2.2.1), .int .i64 ((rgetF (cutS s)).2.2.2)]) (y_mv rfl) rfl rfl rfl ?_)
  refine st rfl (o_y (v := .agg #[.int .i64 (((rgetF (cutS s)).1).lv), .int .u64 (((rgetF (cutS s)).1).cs : Int), .int .i64 (((rgetF (cutS s)).1).ig)]) (y_k rfl rfl (fun _ => by kernel_rfl)) rfl rfl rfl ?_)
  refine st rfl (o_y (v := .agg #[.int .i64 (((rgetF (cutS s)).2.1).lv), .int .u64 (((rgetF (cutS s)).2.1).cs : Int), .int .i64 (((rgetF (cutS s)).2.1).ig)]) (y_k rfl rfl (fun _ => by kernel_rfl)) rfl rfl rfl ?_)
  refine st rfl (o_y (v := .string ((rgetF (cutS s)).2.2.1)) (y_k rfl rfl (fun _ => by kernel_rfl)) rfl rfl rfl ?_)
  refine st rfl (o_y (v := .int .i64 ((rgetF (cutS s)).2.2.2)) (y_k rfl rfl (fun _ => by kernel_rfl)) rfl rfl rfl ?_)
  refine st rfl (o_box (cs := [.int .i64 0, .int .u64 0, .int .i64 0]) (T := 24) rfl rfl rfl rfl (fun _ => by kernel_rfl) (fun b7 => ?_))
  refine st rfl (o_box (cs := [.int .i64 0, .int .u64 0, .int .i64 0]) (T := 24) rfl rfl rfl rfl (fun _ => by kernel_rfl) (fun b8 => ?_))
  refine st rfl (o_st 1 rfl rfl rfl rfl rfl (by kernel_rfl) (by kernel_rfl) rfl ?_)
  refine st rfl (o_st 0 rfl rfl rfl rfl rfl (by kernel_rfl) (by kernel_rfl) rfl ?_)
  refine st rfl (o_y (v := .string ((rgetF (cutS s)).2.2.1)) (y_as rfl) rfl rfl rfl ?_)
  refine st rfl (o_y (v := .int .i64 ((rgetF (cutS s)).2.2.2)) (y_as rfl) rfl rfl rfl ?_)
  refine s_nil ?_
  refine q_then ?_
  refine c_seq ?_
  refine c_region ?_
  refine st rfl (o_y (v := .bool true) (y_mv rfl) rfl rfl rfl ?_)
  refine st rfl (o_y (v := .bool true) (y_mv rfl) rfl rfl rfl ?_)
  refine st_on 84 rfl rfl rfl (o_y (v := .string ((putL a).1)) (y_mv rfl) rfl rfl rfl ?_)
  refine st_on 84 rfl rfl rfl (o_y (v := .string ((putL a).1)) (y_mv rfl) rfl rfl rfl ?_)
  have h24 : (putL a).1 = (putL a).1 := rfl
  refine st_on 84 rfl rfl rfl (o_y (v := .bool true) (y_b (y_k (v := .bool (((putL a).1).toList == ((putL a).1).toList)) rfl rfl (fun _ => by kernel_rfl)) (str_t h24)) rfl rfl rfl ?_)
  refine st rfl (o_y (v := .bool true) (y_pick rfl rfl) rfl rfl rfl ?_)
  refine st rfl (o_y (v := .bool true) (y_mv rfl) rfl rfl rfl ?_)
  refine st_on 89 rfl rfl rfl (o_y (v := .int .i64 ((putL a).2)) (y_mv rfl) rfl rfl rfl ?_)
  refine st_on 89 rfl rfl rfl (o_y (v := .int .i64 ((putL a).2)) (y_mv rfl) rfl rfl rfl ?_)
  have h25 : (putL a).2 = (putL a).2 := rfl
  refine st_on 89 rfl rfl rfl (o_y (v := .bool true) (y_t (y_k (v := .bool (decide ((putL a).2 = (putL a).2))) rfl rfl (fun _ => by kernel_rfl)) h25) rfl rfl rfl ?_)
  refine st rfl (o_y (v := .bool true) (y_pick rfl rfl) rfl rfl rfl ?_)
  refine st rfl (o_y (v := .bool true) (y_mv rfl) rfl rfl rfl ?_)
  refine st_on 94 rfl rfl rfl (o_ldn 5 3 rfl rfl rfl rfl Tryd.underlying24 rfl (by kernel_rfl) (by kernel_rfl) rfl ?_)
  refine st_on 94 rfl rfl rfl (o_ldn 4 3 rfl rfl rfl rfl Tryd.underlying24 rfl (by kernel_rfl) (by kernel_rfl) rfl ?_)
  have h26 : (labGet (cutS s)).1 = (labGet (cutS s)).1 := rfl
  refine st_on 94 rfl rfl rfl (o_y (v := .bool true) (y_t (y_bin rfl rfl (fun w => eq_Lab ((labGet (cutS s)).1) ((labGet (cutS s)).1) w)) h26) rfl rfl rfl ?_)
  refine st rfl (o_y (v := .bool true) (y_pick rfl rfl) rfl rfl rfl ?_)
  refine st rfl (o_y (v := .bool true) (y_mv rfl) rfl rfl rfl ?_)
  refine st_on 99 rfl rfl rfl (o_y (v := .string ((labGet (cutS s)).2.1)) (y_mv rfl) rfl rfl rfl ?_)
  refine st_on 99 rfl rfl rfl (o_y (v := .string ((labGet (cutS s)).2.1)) (y_mv rfl) rfl rfl rfl ?_)
  have h27 : (labGet (cutS s)).2.1 = (labGet (cutS s)).2.1 := rfl
  refine st_on 99 rfl rfl rfl (o_y (v := .bool true) (y_b (y_k (v := .bool (((labGet (cutS s)).2.1).toList == ((labGet (cutS s)).2.1).toList)) rfl rfl (fun _ => by kernel_rfl)) (str_t h27)) rfl rfl rfl ?_)
  refine st rfl (o_y (v := .bool true) (y_pick rfl rfl) rfl rfl rfl ?_)
  refine st rfl (o_y (v := .bool true) (y_mv rfl) rfl rfl rfl ?_)
  refine st_on 104 rfl rfl rfl (o_y (v := .int .i64 ((labGet (cutS s)).2.2)) (y_mv rfl) rfl rfl rfl ?_)
  refine st_on 104 rfl rfl rfl (o_y (v := .int .i64 ((labGet (cutS s)).2.2)) (y_mv rfl) rfl rfl rfl ?_)
  have h28 : (labGet (cutS s)).2.2 = (labGet (cutS s)).2.2 := rfl
  refine st_on 104 rfl rfl rfl (o_y (v := .bool true) (y_t (y_k (v := .bool (decide ((labGet (cutS s)).2.2 = (labGet (cutS s)).2.2))) rfl rfl (fun _ => by kernel_rfl)) h28) rfl rfl rfl ?_)
  refine st rfl (o_y (v := .bool true) (y_pick rfl rfl) rfl rfl rfl ?_)
  refine st rfl (o_y (v := .bool true) (y_mv rfl) rfl rfl rfl ?_)
  refine st_on 109 rfl rfl rfl (o_y (v := .string ((rangeF a b).1)) (y_mv rfl) rfl rfl rfl ?_)
  refine st_on 109 rfl rfl rfl (o_y (v := .string ((rangeF a b).1)) (y_mv rfl) rfl rfl rfl ?_)
  have h29 : (rangeF a b).1 = (rangeF a b).1 := rfl
  refine st_on 109 rfl rfl rfl (o_y (v := .bool true) (y_b (y_k (v := .bool (((rangeF a b).1).toList == ((rangeF a b).1).toList)) rfl rfl (fun _ => by kernel_rfl)) (str_t h29)) rfl rfl rfl ?_)
  refine st rfl (o_y (v := .bool true) (y_pick rfl rfl) rfl rfl rfl ?_)
  refine st rfl (o_y (v := .bool true) (y_mv rfl) rfl rfl rfl ?_)
  refine st_on 114 rfl rfl rfl (o_y (v := .int .i64 ((rangeF a b).2)) (y_mv rfl) rfl rfl rfl ?_)
  refine st_on 114 rfl rfl rfl (o_y (v := .int .i64 ((rangeF a b).2)) (y_mv rfl) rfl rfl rfl ?_)
  have h30 : (rangeF a b).2 = (rangeF a b).2 := rfl
  refine st_on 114 rfl rfl rfl (o_y (v := .bool true) (y_t (y_k (v := .bool (decide ((rangeF a b).2 = (rangeF a b).2))) rfl rfl (fun _ => by kernel_rfl)) h30) rfl rfl rfl ?_)
  refine st rfl (o_y (v := .bool true) (y_pick rfl rfl) rfl rfl rfl ?_)
  refine st rfl (o_y (v := .bool true) (y_mv rfl) rfl rfl rfl ?_)
  refine st_on 119 rfl rfl rfl (o_ldn 3 3 rfl rfl rfl rfl Tryd.underlying24 rfl (by kernel_rfl) (by kernel_rfl) rfl ?_)
  refine st_on 119 rfl rfl rfl (o_ldn 1 3 rfl rfl rfl rfl Tryd.underlying24 rfl (by kernel_rfl) (by kernel_rfl) rfl ?_)
  have h31 : (rgetF (cutS s)).1 = (rgetF (cutS s)).1 := rfl
  refine st_on 119 rfl rfl rfl (o_y (v := .bool true) (y_t (y_bin rfl rfl (fun w => eq_Lab ((rgetF (cutS s)).1) ((rgetF (cutS s)).1) w)) h31) rfl rfl rfl ?_)
  refine st rfl (o_y (v := .bool true) (y_pick rfl rfl) rfl rfl rfl ?_)
  refine st rfl (o_y (v := .bool true) (y_mv rfl) rfl rfl rfl ?_)
  refine st_on 124 rfl rfl rfl (o_ldn 2 3 rfl rfl rfl rfl Tryd.underlying24 rfl (by kernel_rfl) (by kernel_rfl) rfl ?_)
  refine st_on 124 rfl rfl rfl (o_ldn 0 3 rfl rfl rfl rfl Tryd.underlying24 rfl (by kernel_rfl) (by kernel_rfl) rfl ?_)
  have h32 : (rgetF (cutS s)).2.1 = (rgetF (cutS s)).2.1 := rfl
  refine st_on 124 rfl rfl rfl (o_y (v := .bool true) (y_t (y_bin rfl rfl (fun w => eq_Lab ((rgetF (cutS s)).2.1) ((rgetF (cutS s)).2.1) w)) h32) rfl rfl rfl ?_)
  refine st rfl (o_y (v := .bool true) (y_pick rfl rfl) rfl rfl rfl ?_)
  refine st rfl (o_y (v := .bool true) (y_mv rfl) rfl rfl rfl ?_)
  refine st_on 129 rfl rfl rfl (o_y (v := .string ((rgetF (cutS s)).2.2.1)) (y_mv rfl) rfl rfl rfl ?_)
  refine st_on 129 rfl rfl rfl (o_y (v := .string ((rgetF (cutS s)).2.2.1)) (y_mv rfl) rfl rfl rfl ?_)
  have h33 : (rgetF (cutS s)).2.2.1 = (rgetF (cutS s)).2.2.1 := rfl
  refine st_on 129 rfl rfl rfl (o_y (v := .bool true) (y_b (y_k (v := .bool (((rgetF (cutS s)).2.2.1).toList == ((rgetF (cutS s)).2.2.1).toList)) rfl rfl (fun _ => by kernel_rfl)) (str_t h33)) rfl rfl rfl ?_)
  refine st rfl (o_y (v := .bool true) (y_pick rfl rfl) rfl rfl rfl ?_)
  refine st rfl (o_y (v := .bool true) (y_mv rfl) rfl rfl rfl ?_)
  refine st_on 134 rfl rfl rfl (o_y (v := .int .i64 ((rgetF (cutS s)).2.2.2)) (y_mv rfl) rfl rfl rfl ?_)
  refine st_on 134 rfl rfl rfl (o_y (v := .int .i64 ((rgetF (cutS s)).2.2.2)) (y_mv rfl) rfl rfl rfl ?_)
  have h34 : (rgetF (cutS s)).2.2.2 = (rgetF (cutS s)).2.2.2 := rfl
  refine st_on 134 rfl rfl rfl (o_y (v := .bool true) (y_t (y_k (v := .bool (decide ((rgetF (cutS s)).2.2.2 = (rgetF (cutS s)).2.2.2))) rfl rfl (fun _ => by kernel_rfl)) h34) rfl rfl rfl ?_)
  refine st rfl (o_y (v := .bool true) (y_pick rfl rfl) rfl rfl rfl ?_)
  refine st rfl (o_y (v := .bool true) (y_as rfl) rfl rfl rfl ?_)
  refine s_nil ?_
  refine q_then ?_
  refine c_ret ?_
  refine c_fin (I' := []) [] [0, 1, 2, 3, 4, 5, 6, 7, 8] rfl (.tmp rfl .nil) rfl rfl rfl ?_
  exact ⟨rfl, rfl, rfl⟩
end Go.Proofs.YthoefkpbijcdeaaDoor
