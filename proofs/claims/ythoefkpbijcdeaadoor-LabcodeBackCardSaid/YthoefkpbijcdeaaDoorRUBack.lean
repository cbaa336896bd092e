/- The laws of chapter 4 (labcode), walked over the given program; no condition but what stands in each theorem: part UBack. -/
import Derived.Test.YthoefkpbijcdeaaDoorRLNa
set_option linter.unusedVariables false
set_option linter.unusedSimpArgs false
set_option maxRecDepth 100000
set_option maxHeartbeats 8000000
namespace Go.Proofs.YthoefkpbijcdeaaDoor
open Go Go.Sl Go.RowKit Go.Extern.Stop Go.Stop Go.Extern
theorem LabcodeBack_ (ea : Addr) (em : Addr) (ef : Addr) (el : Addr) (h12 : ea ≠ em) (h13 : ea ≠ ef) (h23 : em ≠ ef) (a : Lab) (s : ByteArray) (h6a : lab64 a) (zs : s.size ≤ 9223372036854775807) : Con Tryd.prog 3 [.agg #[.int .i64 a.lv, .int .u64 (a.cs : Int), .int .i64 a.ig], .string s] [] [cellsAt 1 0 [.iface 141 (.pointer (some ea))], cellsAt 3 0 [.iface 141 (.pointer (some em))], cellsAt 4 0 [.iface 141 (.pointer (some ef))], cellsAt 0 0 [.iface 141 (.pointer (some el))], errAt ea, errAt em, errAt ef, errAt el, cellsAt 2 0 [.iface 122 (.agg #[.pointer (some ⟨5, 46, none⟩)])]] (fun v L' I' => v = .bool true ∧ L' = [] ∧ I' = []) := by
  have cs := cutS_size s
  have p1 := putL_size h6a
  have p2 := putL_size (labGet_64 (cutS s))
  have p3 := labGet_size (cutS s)
  have p4 := labGet_64 (cutS s)
  refine fn_of Tryd.func3 rfl Tryd.ntmps3 (by kernel_rfl) rfl (fun C => ?_)
  refine c_seq ?_
  refine c_region ?_
  refine st rfl (o_box (cs := [.int .i64 a.lv, .int .u64 (a.cs : Int), .int .i64 a.ig]) (T := 24) rfl rfl rfl rfl (fun _ => by kernel_rfl) (fun b1 => ?_))
  refine st rfl (o_y (v := .bool false) (y_as rfl) rfl rfl rfl ?_)
  refine s_nil ?_
  refine q_then ?_
  refine c_seq ?_
  refine c_region ?_
  refine st rfl (o_call [] [0, 1, 2, 3, 4, 5, 6, 7, 8] (shown_ ea em ef el (by assumption) (by assumption) (by assumption)) rfl rfl rfl rfl rfl rfl (fun v L' I' hq1 => ?_))
  obtain ⟨rfl, rfl, rfl⟩ := hq1
  refine st rfl (o_y (v := .bool true) (y_as rfl) rfl rfl rfl ?_)
  refine s_nil ?_
  refine q_then ?_
  refine c_seq ?_
  refine c_region ?_
  refine st rfl (o_ldn 0 3 rfl rfl rfl rfl Tryd.underlying24 rfl (by kernel_rfl) (by kernel_rfl) rfl ?_)
  refine st rfl (o_call [] [0, 1, 2, 4, 5, 6, 3, 7, 8] (lPut_ a ea em ef el (by assumption) (by assumption) (by assumption) (by first | assumption | exact (by assumption : ∀ x ∈ _, lab64 x) _ (List.mem_of_getElem? (by assumption)) | decide)) rfl rfl rfl rfl rfl rfl (fun v L' I' hq2 => ?_))
  obtain ⟨rfl, rfl, rfl⟩ := hq2
  refine st rfl (o_y (v := .tuple #[.string ((putL a).1), .int .i64 ((putL a).2)]) (y_mv rfl) rfl rfl rfl ?_)
  refine st rfl (o_y (v := .string ((putL a).1)) (y_k rfl rfl (fun _ => by kernel_rfl)) rfl rfl rfl ?_)
  refine st rfl (o_y (v := .int .i64 ((putL a).2)) (y_k rfl rfl (fun _ => by kernel_rfl)) rfl rfl rfl ?_)
  refine st rfl (o_y (v := .string ((putL a).1)) (y_as rfl) rfl rfl rfl ?_)
  refine st rfl (o_y (v := .int .i64 ((putL a).2)) (y_as rfl) rfl rfl rfl ?_)
  refine s_nil ?_
  refine q_then ?_
  refine c_seq ?_
  refine c_region ?_
  refine st rfl (o_y (v := .string ((putL a).1)) (y_mv rfl) rfl rfl rfl ?_)
  refine st rfl (o_y (v := .string s) (y_mv rfl) rfl rfl rfl ?_)
  refine st rfl (o_call [] [] (cut_ s (by omega)) rfl rfl rfl rfl rfl rfl (fun v L' I' hq3 => ?_))
  obtain ⟨rfl, rfl, rfl⟩ := hq3
  refine st rfl (o_y (v := .string (((putL a).1) ++ (cutS s))) (y_cat (s := (putL a).1) (u := cutS s) rfl rfl (by omega)) rfl rfl rfl ?_)
  refine st rfl (o_call [] [0, 1, 2, 4, 5, 6, 3, 7, 8] (lGet_ (((putL a).1) ++ (cutS s)) ea em ef el (by assumption) (by assumption) (by assumption) (by first | omega | (rw [ByteArray.size_append]; omega) | decide | assumption)) rfl rfl rfl rfl rfl rfl (fun v L' I' hq4 => ?_))
  obtain ⟨rfl, rfl, rfl⟩ := hq4
  refine st rfl (o_y (v := .tuple #[.agg #[.int .i64 (((labGet (((putL a).1) ++ (cutS s))).1).lv), .int .u64 (((labGet (((putL a).1) ++ (cutS s))).1).cs : Int), .int .i64 (((labGet (((putL a).1) ++ (cutS s))).1).ig)], .string ((labGet (((putL a).1) ++ (cutS s))).2.1), .int .i64 ((labGet (((putL a).1) ++ (cutS s))).2.2)]) (y_mv rfl) rfl rfl rfl ?_)
  refine st rfl (o_y (v := .agg #[.int .i64 (((labGet (((putL a).1) ++ (cutS s))).1).lv), .int .u64 (((labGet (((putL a).1) ++ (cutS s))).1).cs : Int), .int .i64 (((labGet (((putL a).1) ++ (cutS s))).1).ig)]) (y_k rfl rfl (fun _ => by kernel_rfl)) rfl rfl rfl ?_)
  refine st rfl (o_y (v := .string ((labGet (((putL a).1) ++ (cutS s))).2.1)) (y_k rfl rfl (fun _ => by kernel_rfl)) rfl rfl rfl ?_)
  refine st rfl (o_y (v := .int .i64 ((labGet (((putL a).1) ++ (cutS s))).2.2)) (y_k rfl rfl (fun _ => by kernel_rfl)) rfl rfl rfl ?_)
  refine st rfl (o_box (cs := [.int .i64 0, .int .u64 0, .int .i64 0]) (T := 24) rfl rfl rfl rfl (fun _ => by kernel_rfl) (fun b2 => ?_))
  refine st rfl (o_st 0 rfl rfl rfl rfl rfl (by kernel_rfl) (by kernel_rfl) rfl ?_)
  refine st rfl (o_y (v := .string ((labGet (((putL a).1) ++ (cutS s))).2.1)) (y_as rfl) rfl rfl rfl ?_)
  refine st rfl (o_y (v := .int .i64 ((labGet (((putL a).1) ++ (cutS s))).2.2)) (y_as rfl) rfl rfl rfl ?_)
  refine s_nil ?_
  refine q_then ?_
  refine c_seq ?_
  refine c_seq ?_
  refine c_region ?_
  refine st rfl (o_y (v := .int .i64 ((putL a).2)) (y_mv rfl) rfl rfl rfl ?_)
  refine e_by ((putL a).2 = 0) (fun h24 => ?_) (fun h24 => ?_)
  ·
    refine st rfl (o_y (v := .bool false) (y_nt (y_k (v := .bool (!decide ((putL a).2 = 0))) rfl rfl (fun _ => by kernel_rfl)) h24) rfl rfl rfl ?_)
    refine s_nil ?_
    refine q_then ?_
    refine c_false rfl ?_
    refine c_skip ?_
    refine q_then ?_
    refine c_seq ?_
    refine c_region ?_
    refine st rfl (o_y (v := .string s) (y_mv rfl) rfl rfl rfl ?_)
    refine st rfl (o_call [] [] (cut_ s (by omega)) rfl rfl rfl rfl rfl rfl (fun v L' I' hq5 => ?_))
    obtain ⟨rfl, rfl, rfl⟩ := hq5
    refine st rfl (o_call [] [0, 1, 2, 4, 5, 6, 3, 7, 8] (lGet_ (cutS s) ea em ef el (by assumption) (by assumption) (by assumption) (by first | omega | (rw [ByteArray.size_append]; omega) | decide | assumption)) rfl rfl rfl rfl rfl rfl (fun v L' I' hq6 => ?_))
    obtain ⟨rfl, rfl, rfl⟩ := hq6
    refine st rfl (o_y (v := .tuple #[.agg #[.int .i64 (((labGet (cutS s)).1).lv), .int .u64 (((labGet (cutS s)).1).cs : Int), .int .i64 (((labGet (cutS s)).1).ig)], .string ((labGet (cutS s)).2.1), .int .i64 ((labGet (cutS s)).2.2)]) (y_mv rfl) rfl rfl rfl ?_)
    refine st rfl (o_y (v := .agg #[.int .i64 (((labGet (cutS s)).1).lv), .int .u64 (((labGet (cutS s)).1).cs : Int), .int .i64 (((labGet (cutS s)).1).ig)]) (y_k rfl rfl (fun _ => by kernel_rfl)) rfl rfl rfl ?_)
    refine st rfl (o_y (v := .string ((labGet (cutS s)).2.1)) (y_k rfl rfl (fun _ => by kernel_rfl)) rfl rfl rfl ?_)
    refine st rfl (o_y (v := .int .i64 ((labGet (cutS s)).2.2)) (y_k rfl rfl (fun _ => by kernel_rfl)) rfl rfl rfl ?_)
    refine st rfl (o_box (cs := [.int .i64 0, .int .u64 0, .int .i64 0]) (T := 24) rfl rfl rfl rfl (fun _ => by kernel_rfl) (fun b3 => ?_))
    refine st rfl (o_st 0 rfl rfl rfl rfl rfl (by kernel_rfl) (by kernel_rfl) rfl ?_)
    refine st rfl (o_y (v := .string ((labGet (cutS s)).2.1)) (y_as rfl) rfl rfl rfl ?_)
    refine st rfl (o_y (v := .int .i64 ((labGet (cutS s)).2.2)) (y_as rfl) rfl rfl rfl ?_)
    refine s_nil ?_
    refine q_then ?_
    refine c_seq ?_
    refine c_region ?_
    refine st rfl (o_ldn 0 3 rfl rfl rfl rfl Tryd.underlying24 rfl (by kernel_rfl) (by kernel_rfl) rfl ?_)
    refine st rfl (o_call [] [0, 1, 2, 4, 5, 6, 3, 7, 8] (lPut_ ((labGet (cutS s)).1) ea em ef el (by assumption) (by assumption) (by assumption) (by first | assumption | exact (by assumption : ∀ x ∈ _, lab64 x) _ (List.mem_of_getElem? (by assumption)) | decide)) rfl rfl rfl rfl rfl rfl (fun v L' I' hq7 => ?_))
    obtain ⟨rfl, rfl, rfl⟩ := hq7
    refine st rfl (o_y (v := .tuple #[.string ((putL ((labGet (cutS s)).1)).1), .int .i64 ((putL ((labGet (cutS s)).1)).2)]) (y_mv rfl) rfl rfl rfl ?_)
    refine st rfl (o_y (v := .string ((putL ((labGet (cutS s)).1)).1)) (y_k rfl rfl (fun _ => by kernel_rfl)) rfl rfl rfl ?_)
    refine st rfl (o_y (v := .int .i64 ((putL ((labGet (cutS s)).1)).2)) (y_k rfl rfl (fun _ => by kernel_rfl)) rfl rfl rfl ?_)
    refine st rfl (o_y (v := .string ((putL ((labGet (cutS s)).1)).1)) (y_as rfl) rfl rfl rfl ?_)
    refine st rfl (o_y (v := .int .i64 ((putL ((labGet (cutS s)).1)).2)) (y_as rfl) rfl rfl rfl ?_)
    refine s_nil ?_
    refine q_then ?_
    refine c_seq ?_
    refine c_region ?_
    refine st rfl (o_y (v := .bool true) (y_mv rfl) rfl rfl rfl ?_)
    refine st rfl (o_y (v := .bool true) (y_mv rfl) rfl rfl rfl ?_)
    refine st_on 60 rfl rfl rfl (o_y (v := .int .i64 ((labGet (((putL a).1) ++ (cutS s))).2.2)) (y_mv rfl) rfl rfl rfl ?_)
    have h25 : (labGet (((putL a).1) ++ (cutS s))).2.2 = 0 := by rw [lback h24 h6a]
    refine st_on 60 rfl rfl rfl (o_y (v := .bool true) (y_t (y_k (v := .bool (decide ((labGet (((putL a).1) ++ (cutS s))).2.2 = 0))) rfl rfl (fun _ => by kernel_rfl)) h25) rfl rfl rfl ?_)
    refine st rfl (o_y (v := .bool true) (y_pick rfl rfl) rfl rfl rfl ?_)
    refine st rfl (o_y (v := .bool true) (y_mv rfl) rfl rfl rfl ?_)
    refine st_on 64 rfl rfl rfl (o_ldn 1 3 rfl rfl rfl rfl Tryd.underlying24 rfl (by kernel_rfl) (by kernel_rfl) rfl ?_)
    refine st_on 64 rfl rfl rfl (o_ldn 2 3 rfl rfl rfl rfl Tryd.underlying24 rfl (by kernel_rfl) (by kernel_rfl) rfl ?_)
    have h26 : (labGet ((putL a).1 ++ (cutS s))).1 = a := by rw [lback h24 h6a]
    refine st_on 64 rfl rfl rfl (o_y (v := .bool true) (y_t (y_bin rfl rfl (fun w => eq_Lab ((labGet ((putL a).1 ++ (cutS s))).1) a w)) h26) rfl rfl rfl ?_)
    refine st rfl (o_y (v := .bool true) (y_pick rfl rfl) rfl rfl rfl ?_)
    refine st rfl (o_y (v := .bool true) (y_mv rfl) rfl rfl rfl ?_)
    refine st_on 69 rfl rfl rfl (o_y (v := .string ((labGet (((putL a).1) ++ (cutS s))).2.1)) (y_mv rfl) rfl rfl rfl ?_)
    refine st_on 69 rfl rfl rfl (o_y (v := .string s) (y_mv rfl) rfl rfl rfl ?_)
    refine st_on 69 rfl rfl rfl (o_call [] [] (cut_ s (by omega)) rfl rfl rfl rfl rfl rfl (fun v L' I' hq8 => ?_))
    obtain ⟨rfl, rfl, rfl⟩ := hq8
    have h27 : (labGet (((putL a).1) ++ (cutS s))).2.1 = cutS s := by rw [lback h24 h6a]
    refine st_on 69 rfl rfl rfl (o_y (v := .bool true) (y_b (y_k (v := .bool (((labGet (((putL a).1) ++ (cutS s))).2.1).toList == (cutS s).toList)) rfl rfl (fun _ => by kernel_rfl)) (str_t h27)) rfl rfl rfl ?_)
    refine st rfl (o_y (v := .bool true) (y_pick rfl rfl) rfl rfl rfl ?_)
    refine st rfl (o_y (v := .bool true) (y_mv rfl) rfl rfl rfl ?_)
    refine st_on 75 rfl rfl rfl (o_y (v := .string ((putL a).1)) (y_mv rfl) rfl rfl rfl ?_)
    refine st_on 75 rfl rfl rfl (o_y (v := .int .i64 (((putL a).1).size : Int)) (y_k rfl rfl (fun _ => by kernel_rfl)) rfl rfl rfl ?_)
    have h28 : (((putL a).1).size : Int) = 10 := lback_len h24 h6a
    refine st_on 75 rfl rfl rfl (o_y (v := .bool true) (y_t (y_k (v := .bool (decide ((((putL a).1).size : Int) = 10))) rfl rfl (fun _ => by kernel_rfl)) h28) rfl rfl rfl ?_)
    refine st rfl (o_y (v := .bool true) (y_pick rfl rfl) rfl rfl rfl ?_)
    refine st rfl (o_y (v := .bool true) (y_mv rfl) rfl rfl rfl ?_)
    refine st_on 80 rfl rfl rfl (o_y (v := .int .i64 ((labGet (cutS s)).2.2)) (y_mv rfl) rfl rfl rfl ?_)
    refine e_by ((labGet (cutS s)).2.2 = 0) (fun h29 => ?_) (fun h29 => ?_)
    ·
      refine st_on 80 rfl rfl rfl (o_y (v := .bool false) (y_nt (y_k (v := .bool (!decide ((labGet (cutS s)).2.2 = 0))) rfl rfl (fun _ => by kernel_rfl)) h29) rfl rfl rfl ?_)
      refine st_on 80 rfl rfl rfl (o_y (v := .bool false) (y_mv rfl) rfl rfl rfl ?_)
      refine st_on 83 rfl rfl rfl (o_y (v := .int .i64 ((putL ((labGet (cutS s)).1)).2)) (y_mv rfl) rfl rfl rfl ?_)
      have h30 : (putL ((labGet (cutS s)).1)).2 = 0 := lback_2 h29
      refine st_on 83 rfl rfl rfl (o_y (v := .bool true) (y_t (y_k (v := .bool (decide ((putL ((labGet (cutS s)).1)).2 = 0))) rfl rfl (fun _ => by kernel_rfl)) h30) rfl rfl rfl ?_)
      refine st_on 83 rfl rfl rfl (o_y (v := .bool true) (y_mv rfl) rfl rfl rfl ?_)
      refine st_on 86 rfl rfl rfl (o_ldn 0 3 rfl rfl rfl rfl Tryd.underlying24 rfl (by kernel_rfl) (by kernel_rfl) rfl ?_)
      refine st_on 86 rfl rfl rfl (o_call [] [] (labRight_ ((labGet (cutS s)).1)) rfl rfl rfl rfl rfl rfl (fun v L' I' hq9 => ?_))
      obtain ⟨hv1, rfl, rfl⟩ := hq9
      obtain rfl : v = .bool true := by rw [hv1, decide_eq_true (show labRight ((labGet (cutS s)).1) from labGet_right h29)]
      refine st_on 83 rfl rfl rfl (o_y (v := .bool true) (y_pick rfl rfl) rfl rfl rfl ?_)
      refine st_on 83 rfl rfl rfl (o_y (v := .bool true) (y_mv rfl) rfl rfl rfl ?_)
      refine st_on 90 rfl rfl rfl (o_y (v := .string ((putL ((labGet (cutS s)).1)).1)) (y_mv rfl) rfl rfl rfl ?_)
      refine st_on 90 rfl rfl rfl (o_y (v := .string ((labGet (cutS s)).2.1)) (y_mv rfl) rfl rfl rfl ?_)
      refine st_on 90 rfl rfl rfl (o_y (v := .string (((putL ((labGet (cutS s)).1)).1) ++ ((labGet (cutS s)).2.1))) (y_cat (s := (putL ((labGet (cutS s)).1)).1) (u := (labGet (cutS s)).2.1) rfl rfl (by omega)) rfl rfl rfl ?_)
      refine st_on 90 rfl rfl rfl (o_y (v := .string s) (y_mv rfl) rfl rfl rfl ?_)
      refine st_on 90 rfl rfl rfl (o_call [] [] (cut_ s (by omega)) rfl rfl rfl rfl rfl rfl (fun v L' I' hq10 => ?_))
      obtain ⟨rfl, rfl, rfl⟩ := hq10
      have h31 : ((putL ((labGet (cutS s)).1)).1) ++ ((labGet (cutS s)).2.1) = cutS s := lback_3 h29
      refine st_on 90 rfl rfl rfl (o_y (v := .bool true) (y_b (y_k (v := .bool ((((putL ((labGet (cutS s)).1)).1) ++ ((labGet (cutS s)).2.1)).toList == (cutS s).toList)) rfl rfl (fun _ => by kernel_rfl)) (str_t h31)) rfl rfl rfl ?_)
      refine st_on 83 rfl rfl rfl (o_y (v := .bool true) (y_pick rfl rfl) rfl rfl rfl ?_)
      refine st_on 80 rfl rfl rfl (o_y (v := .bool true) (y_pick rfl rfl) rfl rfl rfl ?_)
      refine st rfl (o_y (v := .bool true) (y_pick rfl rfl) rfl rfl rfl ?_)
      refine st rfl (o_y (v := .bool true) (y_as rfl) rfl rfl rfl ?_)
      refine s_nil ?_
      refine q_then ?_
      refine c_ret ?_
      refine c_fin (I' := []) [] [0, 1, 2, 3, 4, 5, 6, 7, 8] rfl (.tmp rfl .nil) rfl rfl rfl ?_
      exact ⟨rfl, rfl, rfl⟩
    ·
      refine st_on 80 rfl rfl rfl (o_y (v := .bool true) (y_nf (y_k (v := .bool (!decide ((labGet (cutS s)).2.2 = 0))) rfl rfl (fun _ => by kernel_rfl)) h29) rfl rfl rfl ?_)
      refine st_on 80 rfl rfl rfl (o_y (v := .bool true) (y_mv rfl) rfl rfl rfl ?_)
      refine st_off 83 rfl rfl rfl rfl rfl rfl ?_
      refine st_off 83 rfl rfl rfl rfl rfl rfl ?_
      refine st_off 83 rfl rfl rfl rfl rfl rfl ?_
      refine st_offu 86 rfl rfl rfl rfl rfl ?_
      refine st_offu 86 rfl rfl rfl rfl rfl ?_
      refine st_off 83 rfl rfl rfl rfl rfl rfl ?_
      refine st_off 83 rfl rfl rfl rfl rfl rfl ?_
      refine st_offu 90 rfl rfl rfl rfl rfl ?_
      refine st_offu 90 rfl rfl rfl rfl rfl ?_
      refine st_offu 90 rfl rfl rfl rfl rfl ?_
      refine st_offu 90 rfl rfl rfl rfl rfl ?_
      refine st_offu 90 rfl rfl rfl rfl rfl ?_
      refine st_offu 90 rfl rfl rfl rfl rfl ?_
      refine st_off 83 rfl rfl rfl rfl rfl rfl ?_
      refine st_on 80 rfl rfl rfl (o_y (v := .bool true) (y_pick rfl rfl) rfl rfl rfl ?_)
      refine st rfl (o_y (v := .bool true) (y_pick rfl rfl) rfl rfl rfl ?_)
      refine st rfl (o_y (v := .bool true) (y_as rfl) rfl rfl rfl ?_)
      refine s_nil ?_
      refine q_then ?_
      refine c_ret ?_
      refine c_fin (I' := []) [] [0, 1, 2, 3, 4, 5, 6, 7, 8] rfl (.tmp rfl .nil) rfl rfl rfl ?_
      exact ⟨rfl, rfl, rfl⟩
  ·
    refine st rfl (o_y (v := .bool true) (y_nf (y_k (v := .bool (!decide ((putL a).2 = 0))) rfl rfl (fun _ => by kernel_rfl)) h24) rfl rfl rfl ?_)
    refine s_nil ?_
    refine q_then ?_
    refine c_true rfl ?_
    refine c_seq ?_
    refine c_region ?_
    refine st rfl (o_y (v := .bool true) (y_mv rfl) rfl rfl rfl ?_)
    refine st rfl (o_y (v := .bool true) (y_mv rfl) rfl rfl rfl ?_)
    refine st_on 34 rfl rfl rfl (o_y (v := .int .i64 ((putL a).2)) (y_mv rfl) rfl rfl rfl ?_)
    have h32 : (putL a).2 = 20 := putL_e h24
    refine st_on 34 rfl rfl rfl (o_y (v := .bool true) (y_t (y_k (v := .bool (decide ((putL a).2 = 20))) rfl rfl (fun _ => by kernel_rfl)) h32) rfl rfl rfl ?_)
    refine st rfl (o_y (v := .bool true) (y_pick rfl rfl) rfl rfl rfl ?_)
    refine st rfl (o_y (v := .bool true) (y_mv rfl) rfl rfl rfl ?_)
    refine st_on 38 rfl rfl rfl (o_ldn 1 3 rfl rfl rfl rfl Tryd.underlying24 rfl (by kernel_rfl) (by kernel_rfl) rfl ?_)
    refine st_on 38 rfl rfl rfl (o_call [] [] (labRight_ a) rfl rfl rfl rfl rfl rfl (fun v L' I' hq11 => ?_))
    obtain ⟨hv2, rfl, rfl⟩ := hq11
    obtain rfl : v = .bool false := by rw [hv2, decide_eq_false (show ¬ (labRight a) from fun q => h24 (putL_c.2 q))]
    refine st_on 38 rfl rfl rfl (o_y (v := .bool true) (y_k rfl rfl (fun _ => by kernel_rfl)) rfl rfl rfl ?_)
    refine st rfl (o_y (v := .bool true) (y_pick rfl rfl) rfl rfl rfl ?_)
    refine st rfl (o_y (v := .bool true) (y_mv rfl) rfl rfl rfl ?_)
    refine st_on 43 rfl rfl rfl (o_y (v := .string ((putL a).1)) (y_mv rfl) rfl rfl rfl ?_)
    have h33 : (putL a).1 = (⟨#[]⟩ : ByteArray) := putL_n h24
    refine st_on 43 rfl rfl rfl (o_y (v := .bool true) (y_b (y_k (v := .bool (((putL a).1).toList == (⟨#[]⟩ : ByteArray).toList)) rfl rfl (fun _ => by kernel_rfl)) (str_t h33)) rfl rfl rfl ?_)
    refine st rfl (o_y (v := .bool true) (y_pick rfl rfl) rfl rfl rfl ?_)
    refine st rfl (o_y (v := .bool true) (y_as rfl) rfl rfl rfl ?_)
    refine s_nil ?_
    refine q_then ?_
    refine c_ret ?_
    refine q_then_ret ?_
    refine c_fin (I' := []) [] [0, 1, 2, 3, 4, 5, 6, 7, 8] rfl (.tmp rfl .nil) rfl rfl rfl ?_
    exact ⟨rfl, rfl, rfl⟩
end Go.Proofs.YthoefkpbijcdeaaDoor
