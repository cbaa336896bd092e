/- The laws of chapter 4 (labcode), walked over the given program; no condition but what stands in each theorem: part URanges. -/
import Derived.Test.YthoefkpbijcdeaaDoorRLNa
set_option linter.unusedVariables false
set_option linter.unusedSimpArgs false
set_option maxRecDepth 100000
set_option maxHeartbeats 8000000
namespace Go.Proofs.YthoefkpbijcdeaaDoor
open Go Go.Sl Go.RowKit Go.Extern.Stop Go.Stop Go.Extern
theorem LabcodeRanges_ (ea : Addr) (em : Addr) (ef : Addr) (el : Addr) (h12 : ea ≠ em) (h13 : ea ≠ ef) (h23 : em ≠ ef) (a : Lab) (b : Lab) (s : ByteArray) (h6a : lab64 a) (h6b : lab64 b) (zs : s.size ≤ 9223372036854775807) : Con Tryd.prog 8 [.agg #[.int .i64 a.lv, .int .u64 (a.cs : Int), .int .i64 a.ig], .agg #[.int .i64 b.lv, .int .u64 (b.cs : Int), .int .i64 b.ig], .string s] [] [cellsAt 1 0 [.iface 141 (.pointer (some ea))], cellsAt 3 0 [.iface 141 (.pointer (some em))], cellsAt 4 0 [.iface 141 (.pointer (some ef))], cellsAt 0 0 [.iface 141 (.pointer (some el))], errAt ea, errAt em, errAt ef, errAt el, cellsAt 2 0 [.iface 122 (.agg #[.pointer (some ⟨5, 46, none⟩)])]] (fun v L' I' => v = .bool true ∧ L' = [] ∧ I' = []) := by
  have cs := cutS_size s
  have p1 := rangeF_size h6a h6b
  have p4 := rg_64 (cutS s)
  have p5 := p4.1
  have p6 := p4.2
  have p2 := rangeF_size p5 p6
  have p3 := rgetF_size (cutS s)
  refine fn_of Tryd.func8 rfl Tryd.ntmps8 (by kernel_rfl) rfl (fun C => ?_)
  refine c_seq ?_
  refine c_region ?_
  refine st rfl (o_box (cs := [.int .i64 a.lv, .int .u64 (a.cs : Int), .int .i64 a.ig]) (T := 24) rfl rfl rfl rfl (fun _ => by kernel_rfl) (fun b1 => ?_))
  refine st rfl (o_box (cs := [.int .i64 b.lv, .int .u64 (b.cs : Int), .int .i64 b.ig]) (T := 24) rfl rfl rfl rfl (fun _ => by kernel_rfl) (fun b2 => ?_))
  refine st rfl (o_y (v := .bool false) (y_as rfl) rfl rfl rfl ?_)
  refine s_nil ?_
  refine q_then ?_
  refine c_seq ?_
  refine c_region ?_
  refine st rfl (o_call [] [0, 1, 2, 3, 4, 5, 6, 7, 8] (shown_ ea em ef el (by assumption) (by assumption) (by assumption)) rfl rfl rfl rfl rfl rfl (fun v L' I' hq1 => ?_))
  obtain ⟨rfl, rfl, rfl⟩ := hq1
  refine st rfl (o_y (v := .bool true) (y_as rfl) rfl rfl rfl ?_)
  refine s_nil ?_
  refine q_then ?_
  refine c_seq ?_
  refine c_region ?_
  refine st rfl (o_ldn 1 3 rfl rfl rfl rfl Tryd.underlying24 rfl (by kernel_rfl) (by kernel_rfl) rfl ?_)
  refine st rfl (o_ldn 0 3 rfl rfl rfl rfl Tryd.underlying24 rfl (by kernel_rfl) (by kernel_rfl) rfl ?_)
  refine st rfl (o_call [] [0, 1, 2, 4, 5, 6, 3, 7, 8] (lPutRange_ a b ea em ef el (by assumption) (by assumption) (by assumption) (h6a) (h6b)) rfl rfl rfl rfl rfl rfl (fun v L' I' hq2 => ?_))
  obtain ⟨rfl, rfl, rfl⟩ := hq2
  refine st rfl (o_y (v := .tuple #[.string ((rangeF a b).1), .int .i64 ((rangeF a b).2)]) (y_mv rfl) rfl rfl rfl ?_)
  refine st rfl (o_y (v := .string ((rangeF a b).1)) (y_k rfl rfl (fun _ => by kernel_rfl)) rfl rfl rfl ?_)
  refine st rfl (o_y (v := .int .i64 ((rangeF a b).2)) (y_k rfl rfl (fun _ => by kernel_rfl)) rfl rfl rfl ?_)
  refine st rfl (o_y (v := .string ((rangeF a b).1)) (y_as rfl) rfl rfl rfl ?_)
  refine st rfl (o_y (v := .int .i64 ((rangeF a b).2)) (y_as rfl) rfl rfl rfl ?_)
  refine s_nil ?_
  refine q_then ?_
  refine c_seq ?_
  refine c_region ?_
  refine st rfl (o_y (v := .string ((rangeF a b).1)) (y_mv rfl) rfl rfl rfl ?_)
  refine st rfl (o_y (v := .string s) (y_mv rfl) rfl rfl rfl ?_)
  refine st rfl (o_call [] [] (cut_ s (by omega)) rfl rfl rfl rfl rfl rfl (fun v L' I' hq3 => ?_))
  obtain ⟨rfl, rfl, rfl⟩ := hq3
  refine st rfl (o_y (v := .string (((rangeF a b).1) ++ (cutS s))) (y_cat (s := (rangeF a b).1) (u := cutS s) rfl rfl (by omega)) rfl rfl rfl ?_)
  refine st rfl (o_call [] [0, 1, 2, 4, 5, 6, 3, 7, 8] (lGetRange_ (((rangeF a b).1) ++ (cutS s)) ea em ef el (by assumption) (by assumption) (by assumption) (by first | omega | (rw [ByteArray.size_append]; omega) | decide | assumption)) rfl rfl rfl rfl rfl rfl (fun v L' I' hq4 => ?_))
  obtain ⟨rfl, rfl, rfl⟩ := hq4
  refine st rfl (o_y (v := .tuple #[.agg #[.int .i64 (((rgetF (((rangeF a b).1) ++ (cutS s))).1).lv), .int .u64 (((rgetF (((rangeF a b).1) ++ (cutS s))).1).cs : Int), .int .i64 (((rgetF (((rangeF a b).1) ++ (cutS s))).1).ig)], .agg #[.int .i64 (((rgetF (((rangeF a b).1) ++ (cutS s))).2.1).lv), .int .u64 (((rgetF (((rangeF a b).1) ++ (cutS s))).2.1).cs : Int), .int .i64 (((rgetF (((rangeF a b).1) ++ (cutS s))).2.1).ig)], .string ((rgetF (((rangeF a b).1) ++ (cutS s))).2.2.1), .int .i64 ((rgetF (((rangeF a b).1) ++ (cutS s))).2.2.2)]) (y_mv rfl) rfl rfl rfl ?_)
  refine st rfl (o_y (v := .agg #[.int .i64 (((rgetF (((rangeF a b).1) ++ (cutS s))).1).lv), .int .u64 (((rgetF (((rangeF a b).1) ++ (cutS s))).1).cs : Int), .int .i64 (((rgetF (((rangeF a b).1) ++ (cutS s))).1).ig)]) (y_k rfl rfl (fun _ => by kernel_rfl)) rfl rfl rfl ?_)
  refine st rfl (o_y (v := .agg #[.int .i64 (((rgetF (((rangeF a b).1) ++ (cutS s))).2.1).lv), .int .u64 (((rgetF (((rangeF a b).1) ++ (cutS s))).2.1).cs : Int), .int .i64 (((rgetF (((rangeF a b).1) ++ (cutS s))).2.1).ig)]) (y_k rfl rfl (fun _ => by kernel_rfl)) rfl rfl rfl ?_)
  refine st rfl (o_y (v := .string ((rgetF (((rangeF a b).1) ++ (cutS s))).2.2.1)) (y_k rfl rfl (fun _ => by kernel_rfl)) rfl rfl rfl ?_)
  refine st rfl (o_y (v := .int .i64 ((rgetF (((rangeF a b).1) ++ (cutS s))).2.2.2)) (y_k rfl rfl (fun _ => by kernel_rfl)) rfl rfl rfl ?_)
  refine st rfl (o_box (cs := [.int .i64 0, .int .u64 0, .int .i64 0]) (T := 24) rfl rfl rfl rfl (fun _ => by kernel_rfl) (fun b3 => ?_))
  refine st rfl (o_box (cs := [.int .i64 0, .int .u64 0, .int .i64 0]) (T := 24) rfl rfl rfl rfl (fun _ => by kernel_rfl) (fun b4 => ?_))
  refine st rfl (o_st 1 rfl rfl rfl rfl rfl (by kernel_rfl) (by kernel_rfl) rfl ?_)
  refine st rfl (o_st 0 rfl rfl rfl rfl rfl (by kernel_rfl) (by kernel_rfl) rfl ?_)
  refine st rfl (o_y (v := .string ((rgetF (((rangeF a b).1) ++ (cutS s))).2.2.1)) (y_as rfl) rfl rfl rfl ?_)
  refine st rfl (o_y (v := .int .i64 ((rgetF (((rangeF a b).1) ++ (cutS s))).2.2.2)) (y_as rfl) rfl rfl rfl ?_)
  refine s_nil ?_
  refine q_then ?_
  refine c_seq ?_
  refine c_seq ?_
  refine c_region ?_
  refine st rfl (o_y (v := .int .i64 ((rangeF a b).2)) (y_mv rfl) rfl rfl rfl ?_)
  refine e_by ((rangeF a b).2 = 0) (fun h24 => ?_) (fun h24 => ?_)
  ·
    refine st rfl (o_y (v := .bool true) (y_t (y_k (v := .bool (decide ((rangeF a b).2 = 0))) rfl rfl (fun _ => by kernel_rfl)) h24) rfl rfl rfl ?_)
    refine st rfl (o_y (v := .bool true) (y_mv rfl) rfl rfl rfl ?_)
    refine st_on 39 rfl rfl rfl (o_y (v := .int .i64 ((rgetF (((rangeF a b).1) ++ (cutS s))).2.2.2)) (y_mv rfl) rfl rfl rfl ?_)
    have h25 : (rgetF (((rangeF a b).1) ++ (cutS s))).2.2.2 = 0 := by rw [rback h24 h6a h6b]
    refine st_on 39 rfl rfl rfl (o_y (v := .bool false) (y_nt (y_k (v := .bool (!decide ((rgetF (((rangeF a b).1) ++ (cutS s))).2.2.2 = 0))) rfl rfl (fun _ => by kernel_rfl)) h25) rfl rfl rfl ?_)
    refine st_on 39 rfl rfl rfl (o_y (v := .bool false) (y_mv rfl) rfl rfl rfl ?_)
    refine st_on 42 rfl rfl rfl (o_ldn 1 3 rfl rfl rfl rfl Tryd.underlying24 rfl (by kernel_rfl) (by kernel_rfl) rfl ?_)
    refine st_on 42 rfl rfl rfl (o_ldn 3 3 rfl rfl rfl rfl Tryd.underlying24 rfl (by kernel_rfl) (by kernel_rfl) rfl ?_)
    have h26 : (rgetF ((rangeF a b).1 ++ (cutS s))).1 = a := by rw [rback h24 h6a h6b]
    refine st_on 42 rfl rfl rfl (o_y (v := .bool false) (y_nt (y_bin rfl rfl (fun w => eq_Labn ((rgetF ((rangeF a b).1 ++ (cutS s))).1) a w)) h26) rfl rfl rfl ?_)
    refine st_on 39 rfl rfl rfl (o_y (v := .bool false) (y_pick rfl rfl) rfl rfl rfl ?_)
    refine st_on 39 rfl rfl rfl (o_y (v := .bool false) (y_mv rfl) rfl rfl rfl ?_)
    refine st_on 47 rfl rfl rfl (o_ldn 0 3 rfl rfl rfl rfl Tryd.underlying24 rfl (by kernel_rfl) (by kernel_rfl) rfl ?_)
    refine st_on 47 rfl rfl rfl (o_ldn 2 3 rfl rfl rfl rfl Tryd.underlying24 rfl (by kernel_rfl) (by kernel_rfl) rfl ?_)
    have h27 : (rgetF ((rangeF a b).1 ++ (cutS s))).2.1 = b := by rw [rback h24 h6a h6b]
    refine st_on 47 rfl rfl rfl (o_y (v := .bool false) (y_nt (y_bin rfl rfl (fun w => eq_Labn ((rgetF ((rangeF a b).1 ++ (cutS s))).2.1) b w)) h27) rfl rfl rfl ?_)
    refine st_on 39 rfl rfl rfl (o_y (v := .bool false) (y_pick rfl rfl) rfl rfl rfl ?_)
    refine st_on 39 rfl rfl rfl (o_y (v := .bool false) (y_mv rfl) rfl rfl rfl ?_)
    refine st_on 52 rfl rfl rfl (o_y (v := .string ((rgetF (((rangeF a b).1) ++ (cutS s))).2.2.1)) (y_mv rfl) rfl rfl rfl ?_)
    refine st_on 52 rfl rfl rfl (o_y (v := .string s) (y_mv rfl) rfl rfl rfl ?_)
    refine st_on 52 rfl rfl rfl (o_call [] [] (cut_ s (by omega)) rfl rfl rfl rfl rfl rfl (fun v L' I' hq5 => ?_))
    obtain ⟨rfl, rfl, rfl⟩ := hq5
    have h28 : (rgetF (((rangeF a b).1) ++ (cutS s))).2.2.1 = cutS s := by rw [rback h24 h6a h6b]
    refine st_on 52 rfl rfl rfl (o_y (v := .bool false) (y_b (y_k (v := .bool (!(((rgetF (((rangeF a b).1) ++ (cutS s))).2.2.1).toList == (cutS s).toList))) rfl rfl (fun _ => by kernel_rfl)) (str_nt h28)) rfl rfl rfl ?_)
    refine st_on 39 rfl rfl rfl (o_y (v := .bool false) (y_pick rfl rfl) rfl rfl rfl ?_)
    refine st_on 39 rfl rfl rfl (o_y (v := .bool false) (y_mv rfl) rfl rfl rfl ?_)
    refine st_on 58 rfl rfl rfl (o_y (v := .string ((rangeF a b).1)) (y_mv rfl) rfl rfl rfl ?_)
    refine st_on 58 rfl rfl rfl (o_y (v := .int .i64 (((rangeF a b).1).size : Int)) (y_k rfl rfl (fun _ => by kernel_rfl)) rfl rfl rfl ?_)
    have h29 : (((rangeF a b).1).size : Int) = 20 := rback_len h24 h6a h6b
    refine st_on 58 rfl rfl rfl (o_y (v := .bool false) (y_nt (y_k (v := .bool (!decide ((((rangeF a b).1).size : Int) = 20))) rfl rfl (fun _ => by kernel_rfl)) h29) rfl rfl rfl ?_)
    refine st_on 39 rfl rfl rfl (o_y (v := .bool false) (y_pick rfl rfl) rfl rfl rfl ?_)
    refine st rfl (o_y (v := .bool false) (y_pick rfl rfl) rfl rfl rfl ?_)
    refine s_nil ?_
    refine q_then ?_
    refine c_false rfl ?_
    refine c_skip ?_
    refine q_then ?_
    refine c_seq ?_
    refine c_region ?_
    refine st rfl (o_y (v := .string s) (y_mv rfl) rfl rfl rfl ?_)
    refine st rfl (o_call [] [] (cut_ s (by omega)) rfl rfl rfl rfl rfl rfl (fun v L' I' hq6 => ?_))
    obtain ⟨rfl, rfl, rfl⟩ := hq6
    refine st rfl (o_call [] [0, 1, 2, 4, 5, 6, 3, 7, 8] (lGetRange_ (cutS s) ea em ef el (by assumption) (by assumption) (by assumption) (by first | omega | (rw [ByteArray.size_append]; omega) | decide | assumption)) rfl rfl rfl rfl rfl rfl (fun v L' I' hq7 => ?_))
    obtain ⟨rfl, rfl, rfl⟩ := hq7
    refine st rfl (o_y (v := .tuple #[.agg #[.int .i64 (((rgetF (cutS s)).1).lv), .int .u64 (((rgetF (cutS s)).1).cs : Int), .int .i64 (((rgetF (cutS s)).1).ig)], .agg #[.int .i64 (((rgetF (cutS s)).2.1).lv), .int .u64 (((rgetF (cutS s)).2.1).cs : Int), .int .i64 (((rgetF (cutS s)).2.1).ig)], .string ((rgetF (cutS s)).2.2.1), .int .i64 ((rgetF (cutS s)).2.2.2)]) (y_mv rfl) rfl rfl rfl ?_)
    refine st rfl (o_y (v := .agg #[.int .i64 (((rgetF (cutS s)).1).lv), .int .u64 (((rgetF (cutS s)).1).cs : Int), .int .i64 (((rgetF (cutS s)).1).ig)]) (y_k rfl rfl (fun _ => by kernel_rfl)) rfl rfl rfl ?_)
    refine st rfl (o_y (v := .agg #[.int .i64 (((rgetF (cutS s)).2.1).lv), .int .u64 (((rgetF (cutS s)).2.1).cs : Int), .int .i64 (((rgetF (cutS s)).2.1).ig)]) (y_k rfl rfl (fun _ => by kernel_rfl)) rfl rfl rfl ?_)
    refine st rfl (o_y (v := .string ((rgetF (cutS s)).2.2.1)) (y_k rfl rfl (fun _ => by kernel_rfl)) rfl rfl rfl ?_)
    refine st rfl (o_y (v := .int .i64 ((rgetF (cutS s)).2.2.2)) (y_k rfl rfl (fun _ => by kernel_rfl)) rfl rfl rfl ?_)
    refine st rfl (o_box (cs := [.int .i64 0, .int .u64 0, .int .i64 0]) (T := 24) rfl rfl rfl rfl (fun _ => by kernel_rfl) (fun b5 => ?_))
    refine st rfl (o_box (cs := [.int .i64 0, .int .u64 0, .int .i64 0]) (T := 24) rfl rfl rfl rfl (fun _ => by kernel_rfl) (fun b6 => ?_))
    refine st rfl (o_st 1 rfl rfl rfl rfl rfl (by kernel_rfl) (by kernel_rfl) rfl ?_)
    refine st rfl (o_st 0 rfl rfl rfl rfl rfl (by kernel_rfl) (by kernel_rfl) rfl ?_)
    refine st rfl (o_y (v := .string ((rgetF (cutS s)).2.2.1)) (y_as rfl) rfl rfl rfl ?_)
    refine st rfl (o_y (v := .int .i64 ((rgetF (cutS s)).2.2.2)) (y_as rfl) rfl rfl rfl ?_)
    refine s_nil ?_
    refine q_then ?_
    refine c_seq ?_
    refine c_region ?_
    refine st rfl (o_ldn 1 3 rfl rfl rfl rfl Tryd.underlying24 rfl (by kernel_rfl) (by kernel_rfl) rfl ?_)
    refine st rfl (o_ldn 0 3 rfl rfl rfl rfl Tryd.underlying24 rfl (by kernel_rfl) (by kernel_rfl) rfl ?_)
    refine st rfl (o_call [] [0, 1, 2, 4, 5, 6, 3, 7, 8] (lPutRange_ ((rgetF (cutS s)).1) ((rgetF (cutS s)).2.1) ea em ef el (by assumption) (by assumption) (by assumption) (p5) (p6)) rfl rfl rfl rfl rfl rfl (fun v L' I' hq8 => ?_))
    obtain ⟨rfl, rfl, rfl⟩ := hq8
    refine st rfl (o_y (v := .tuple #[.string ((rangeF ((rgetF (cutS s)).1) ((rgetF (cutS s)).2.1)).1), .int .i64 ((rangeF ((rgetF (cutS s)).1) ((rgetF (cutS s)).2.1)).2)]) (y_mv rfl) rfl rfl rfl ?_)
    refine st rfl (o_y (v := .string ((rangeF ((rgetF (cutS s)).1) ((rgetF (cutS s)).2.1)).1)) (y_k rfl rfl (fun _ => by kernel_rfl)) rfl rfl rfl ?_)
    refine st rfl (o_y (v := .int .i64 ((rangeF ((rgetF (cutS s)).1) ((rgetF (cutS s)).2.1)).2)) (y_k rfl rfl (fun _ => by kernel_rfl)) rfl rfl rfl ?_)
    refine st rfl (o_y (v := .string ((rangeF ((rgetF (cutS s)).1) ((rgetF (cutS s)).2.1)).1)) (y_as rfl) rfl rfl rfl ?_)
    refine st rfl (o_y (v := .int .i64 ((rangeF ((rgetF (cutS s)).1) ((rgetF (cutS s)).2.1)).2)) (y_as rfl) rfl rfl rfl ?_)
    refine s_nil ?_
    refine q_then ?_
    refine c_seq ?_
    refine c_region ?_
    refine st rfl (o_y (v := .bool true) (y_mv rfl) rfl rfl rfl ?_)
    refine st rfl (o_y (v := .bool true) (y_mv rfl) rfl rfl rfl ?_)
    refine st_on 79 rfl rfl rfl (o_y (v := .int .i64 ((rangeF a b).2)) (y_mv rfl) rfl rfl rfl ?_)
    have h30 : (rangeF a b).2 = 0 := h24
    refine st_on 79 rfl rfl rfl (o_y (v := .bool true) (y_t (y_k (v := .bool (decide ((rangeF a b).2 = 0))) rfl rfl (fun _ => by kernel_rfl)) h30) rfl rfl rfl ?_)
    refine st_on 79 rfl rfl rfl (o_ldn 5 3 rfl rfl rfl rfl Tryd.underlying24 rfl (by kernel_rfl) (by kernel_rfl) rfl ?_)
    refine st_on 79 rfl rfl rfl (o_ldn 4 3 rfl rfl rfl rfl Tryd.underlying24 rfl (by kernel_rfl) (by kernel_rfl) rfl ?_)
    refine st_on 79 rfl rfl rfl (o_call [] [] (under_ a b) rfl rfl rfl rfl rfl rfl (fun v L' I' hq9 => ?_))
    obtain ⟨hv1, rfl, rfl⟩ := hq9
    obtain rfl : v = .bool true := by rw [hv1, decide_eq_true (show labUnder a b from range_c.1 h30)]
    refine st_on 79 rfl rfl rfl (o_y (v := .bool true) (y_k rfl rfl (fun _ => by kernel_rfl)) rfl rfl rfl ?_)
    refine st rfl (o_y (v := .bool true) (y_pick rfl rfl) rfl rfl rfl ?_)
    refine st rfl (o_y (v := .bool true) (y_mv rfl) rfl rfl rfl ?_)
    refine st_on 87 rfl rfl rfl (o_y (v := .int .i64 ((rgetF (cutS s)).2.2.2)) (y_mv rfl) rfl rfl rfl ?_)
    refine e_by ((rgetF (cutS s)).2.2.2 = 0) (fun h31 => ?_) (fun h31 => ?_)
    ·
      refine st_on 87 rfl rfl rfl (o_y (v := .bool false) (y_nt (y_k (v := .bool (!decide ((rgetF (cutS s)).2.2.2 = 0))) rfl rfl (fun _ => by kernel_rfl)) h31) rfl rfl rfl ?_)
      refine st_on 87 rfl rfl rfl (o_y (v := .bool false) (y_mv rfl) rfl rfl rfl ?_)
      refine st_on 90 rfl rfl rfl (o_y (v := .int .i64 ((rangeF ((rgetF (cutS s)).1) ((rgetF (cutS s)).2.1)).2)) (y_mv rfl) rfl rfl rfl ?_)
      have h32 : (rangeF ((rgetF (cutS s)).1) ((rgetF (cutS s)).2.1)).2 = 0 := range_c.2 (rg_under h31)
      refine st_on 90 rfl rfl rfl (o_y (v := .bool true) (y_t (y_k (v := .bool (decide ((rangeF ((rgetF (cutS s)).1) ((rgetF (cutS s)).2.1)).2 = 0))) rfl rfl (fun _ => by kernel_rfl)) h32) rfl rfl rfl ?_)
      refine st_on 90 rfl rfl rfl (o_y (v := .bool true) (y_mv rfl) rfl rfl rfl ?_)
      refine st_on 93 rfl rfl rfl (o_ldn 1 3 rfl rfl rfl rfl Tryd.underlying24 rfl (by kernel_rfl) (by kernel_rfl) rfl ?_)
      refine st_on 93 rfl rfl rfl (o_ldn 0 3 rfl rfl rfl rfl Tryd.underlying24 rfl (by kernel_rfl) (by kernel_rfl) rfl ?_)
      refine st_on 93 rfl rfl rfl (o_call [] [] (under_ ((rgetF (cutS s)).1) ((rgetF (cutS s)).2.1)) rfl rfl rfl rfl rfl rfl (fun v L' I' hq10 => ?_))
      obtain ⟨hv2, rfl, rfl⟩ := hq10
      obtain rfl : v = .bool true := by rw [hv2, decide_eq_true (show labUnder ((rgetF (cutS s)).1) ((rgetF (cutS s)).2.1) from rg_under h31)]
      refine st_on 90 rfl rfl rfl (o_y (v := .bool true) (y_pick rfl rfl) rfl rfl rfl ?_)
      refine st_on 90 rfl rfl rfl (o_y (v := .bool true) (y_mv rfl) rfl rfl rfl ?_)
      refine st_on 98 rfl rfl rfl (o_y (v := .string ((rangeF ((rgetF (cutS s)).1) ((rgetF (cutS s)).2.1)).1)) (y_mv rfl) rfl rfl rfl ?_)
      refine st_on 98 rfl rfl rfl (o_y (v := .string ((rgetF (cutS s)).2.2.1)) (y_mv rfl) rfl rfl rfl ?_)
      refine st_on 98 rfl rfl rfl (o_y (v := .string (((rangeF ((rgetF (cutS s)).1) ((rgetF (cutS s)).2.1)).1) ++ ((rgetF (cutS s)).2.2.1))) (y_cat (s := (rangeF ((rgetF (cutS s)).1) ((rgetF (cutS s)).2.1)).1) (u := (rgetF (cutS s)).2.2.1) rfl rfl (by omega)) rfl rfl rfl ?_)
      refine st_on 98 rfl rfl rfl (o_y (v := .string s) (y_mv rfl) rfl rfl rfl ?_)
      refine st_on 98 rfl rfl rfl (o_call [] [] (cut_ s (by omega)) rfl rfl rfl rfl rfl rfl (fun v L' I' hq11 => ?_))
      obtain ⟨rfl, rfl, rfl⟩ := hq11
      have h33 : ((rangeF ((rgetF (cutS s)).1) ((rgetF (cutS s)).2.1)).1) ++ ((rgetF (cutS s)).2.2.1) = cutS s := rg_back h31
      refine st_on 98 rfl rfl rfl (o_y (v := .bool true) (y_b (y_k (v := .bool ((((rangeF ((rgetF (cutS s)).1) ((rgetF (cutS s)).2.1)).1) ++ ((rgetF (cutS s)).2.2.1)).toList == (cutS s).toList)) rfl rfl (fun _ => by kernel_rfl)) (str_t h33)) rfl rfl rfl ?_)
      refine st_on 90 rfl rfl rfl (o_y (v := .bool true) (y_pick rfl rfl) rfl rfl rfl ?_)
      refine st_on 87 rfl rfl rfl (o_y (v := .bool true) (y_pick rfl rfl) rfl rfl rfl ?_)
      refine st rfl (o_y (v := .bool true) (y_pick rfl rfl) rfl rfl rfl ?_)
      refine st rfl (o_y (v := .bool true) (y_as rfl) rfl rfl rfl ?_)
      refine s_nil ?_
      refine q_then ?_
      refine c_ret ?_
      refine c_fin (I' := []) [] [0, 1, 2, 3, 4, 5, 6, 7, 8] rfl (.tmp rfl .nil) rfl rfl rfl ?_
      exact ⟨rfl, rfl, rfl⟩
    ·
      refine st_on 87 rfl rfl rfl (o_y (v := .bool true) (y_nf (y_k (v := .bool (!decide ((rgetF (cutS s)).2.2.2 = 0))) rfl rfl (fun _ => by kernel_rfl)) h31) rfl rfl rfl ?_)
      refine st_on 87 rfl rfl rfl (o_y (v := .bool true) (y_mv rfl) rfl rfl rfl ?_)
      refine st_off 90 rfl rfl rfl rfl rfl rfl ?_
      refine st_off 90 rfl rfl rfl rfl rfl rfl ?_
      refine st_off 90 rfl rfl rfl rfl rfl rfl ?_
      refine st_offu 93 rfl rfl rfl rfl rfl ?_
      refine st_offu 93 rfl rfl rfl rfl rfl ?_
      refine st_offu 93 rfl rfl rfl rfl rfl ?_
      refine st_off 90 rfl rfl rfl rfl rfl rfl ?_
      refine st_off 90 rfl rfl rfl rfl rfl rfl ?_
      refine st_offu 98 rfl rfl rfl rfl rfl ?_
      refine st_offu 98 rfl rfl rfl rfl rfl ?_
      refine st_offu 98 rfl rfl rfl rfl rfl ?_
      refine st_offu 98 rfl rfl rfl rfl rfl ?_
      refine st_offu 98 rfl rfl rfl rfl rfl ?_
      refine st_offu 98 rfl rfl rfl rfl rfl ?_
      refine st_off 90 rfl rfl rfl rfl rfl rfl ?_
      refine st_on 87 rfl rfl rfl (o_y (v := .bool true) (y_pick rfl rfl) rfl rfl rfl ?_)
      refine st rfl (o_y (v := .bool true) (y_pick rfl rfl) rfl rfl rfl ?_)
      refine st rfl (o_y (v := .bool true) (y_as rfl) rfl rfl rfl ?_)
      refine s_nil ?_
      refine q_then ?_
      refine c_ret ?_
      refine c_fin (I' := []) [] [0, 1, 2, 3, 4, 5, 6, 7, 8] rfl (.tmp rfl .nil) rfl rfl rfl ?_
      exact ⟨rfl, rfl, rfl⟩
  ·
    refine st rfl (o_y (v := .bool false) (y_f (y_k (v := .bool (decide ((rangeF a b).2 = 0))) rfl rfl (fun _ => by kernel_rfl)) h24) rfl rfl rfl ?_)
    refine st rfl (o_y (v := .bool false) (y_mv rfl) rfl rfl rfl ?_)
    refine st_off 39 rfl rfl rfl rfl rfl rfl ?_
    refine st_off 39 rfl rfl rfl rfl rfl rfl ?_
    refine st_off 39 rfl rfl rfl rfl rfl rfl ?_
    refine st_offu 42 rfl rfl rfl rfl rfl ?_
    refine st_offu 42 rfl rfl rfl rfl rfl ?_
    refine st_offu 42 rfl rfl rfl rfl rfl ?_
    refine st_off 39 rfl rfl rfl rfl rfl rfl ?_
    refine st_off 39 rfl rfl rfl rfl rfl rfl ?_
    refine st_offu 47 rfl rfl rfl rfl rfl ?_
    refine st_offu 47 rfl rfl rfl rfl rfl ?_
    refine st_offu 47 rfl rfl rfl rfl rfl ?_
    refine st_off 39 rfl rfl rfl rfl rfl rfl ?_
    refine st_off 39 rfl rfl rfl rfl rfl rfl ?_
    refine st_offu 52 rfl rfl rfl rfl rfl ?_
    refine st_offu 52 rfl rfl rfl rfl rfl ?_
    refine st_offu 52 rfl rfl rfl rfl rfl ?_
    refine st_offu 52 rfl rfl rfl rfl rfl ?_
    refine st_off 39 rfl rfl rfl rfl rfl rfl ?_
    refine st_off 39 rfl rfl rfl rfl rfl rfl ?_
    refine st_offu 58 rfl rfl rfl rfl rfl ?_
    refine st_offu 58 rfl rfl rfl rfl rfl ?_
    refine st_offu 58 rfl rfl rfl rfl rfl ?_
    refine st_off 39 rfl rfl rfl rfl rfl rfl ?_
    refine st rfl (o_y (v := .bool false) (y_pick rfl rfl) rfl rfl rfl ?_)
    refine s_nil ?_
    refine q_then ?_
    refine c_false rfl ?_
    refine c_skip ?_
    refine q_then ?_
    refine c_seq ?_
    refine c_region ?_
    refine st rfl (o_y (v := .string s) (y_mv rfl) rfl rfl rfl ?_)
    refine st rfl (o_call [] [] (cut_ s (by omega)) rfl rfl rfl rfl rfl rfl (fun v L' I' hq12 => ?_))
    obtain ⟨rfl, rfl, rfl⟩ := hq12
    refine st rfl (o_call [] [0, 1, 2, 4, 5, 6, 3, 7, 8] (lGetRange_ (cutS s) ea em ef el (by assumption) (by assumption) (by assumption) (by first | omega | (rw [ByteArray.size_append]; omega) | decide | assumption)) rfl rfl rfl rfl rfl rfl (fun v L' I' hq13 => ?_))
    obtain ⟨rfl, rfl, rfl⟩ := hq13
    refine st rfl (o_y (v := .tuple #[.agg #[.int .i64 (((rgetF (cutS s)).1).lv), .int .u64 (((rgetF (cutS s)).1).cs : Int), .int .i64 (((rgetF (cutS s)).1).ig)], .agg #[.int .i64 (((rgetF (cutS s)).2.1).lv), .int .u64 (((rgetF (cutS s)).2.1).cs : Int), .int .i64 (((rgetF (cutS s)).2.1).ig)], .string ((rgetF (cutS s)).2.2.1), .int .i64 ((rgetF (cutS s)).2.2.2)]) (y_mv rfl) rfl rfl rfl ?_)
    refine st rfl (o_y (v := .agg #[.int .i64 (((rgetF (cutS s)).1).lv), .int .u64 (((rgetF (cutS s)).1).cs : Int), .int .i64 (((rgetF (cutS s)).1).ig)]) (y_k rfl rfl (fun _ => by kernel_rfl)) rfl rfl rfl ?_)
    refine st rfl (o_y (v := .agg #[.int .i64 (((rgetF (cutS s)).2.1).lv), .int .u64 (((rgetF (cutS s)).2.1).cs : Int), .int .i64 (((rgetF (cutS s)).2.1).ig)]) (y_k rfl rfl (fun _ => by kernel_rfl)) rfl rfl rfl ?_)
    refine st rfl (o_y (v := .string ((rgetF (cutS s)).2.2.1)) (y_k rfl rfl (fun _ => by kernel_rfl)) rfl rfl rfl ?_)
    refine st rfl (o_y (v := .int .i64 ((rgetF (cutS s)).2.2.2)) (y_k rfl rfl (fun _ => by kernel_rfl)) rfl rfl rfl ?_)
    refine st rfl (o_box (cs := [.int .i64 0, .int .u64 0, .int .i64 0]) (T := 24) rfl rfl rfl rfl (fun _ => by kernel_rfl) (fun b7 => ?_))
    refine st rfl (o_box (cs := [.int .i64 0, .int .u64 0, .int .i64 0]) (T := 24) rfl rfl rfl rfl (fun _ => by kernel_rfl) (fun b8 => ?_))
    refine st rfl (o_st 1 rfl rfl rfl rfl rfl (by kernel_rfl) (by kernel_rfl) rfl ?_)
    refine st rfl (o_st 0 rfl rfl rfl rfl rfl (by kernel_rfl) (by kernel_rfl) rfl ?_)
    refine st rfl (o_y (v := .string ((rgetF (cutS s)).2.2.1)) (y_as rfl) rfl rfl rfl ?_)
    refine st rfl (o_y (v := .int .i64 ((rgetF (cutS s)).2.2.2)) (y_as rfl) rfl rfl rfl ?_)
    refine s_nil ?_
    refine q_then ?_
    refine c_seq ?_
    refine c_region ?_
    refine st rfl (o_ldn 1 3 rfl rfl rfl rfl Tryd.underlying24 rfl (by kernel_rfl) (by kernel_rfl) rfl ?_)
    refine st rfl (o_ldn 0 3 rfl rfl rfl rfl Tryd.underlying24 rfl (by kernel_rfl) (by kernel_rfl) rfl ?_)
    refine st rfl (o_call [] [0, 1, 2, 4, 5, 6, 3, 7, 8] (lPutRange_ ((rgetF (cutS s)).1) ((rgetF (cutS s)).2.1) ea em ef el (by assumption) (by assumption) (by assumption) (p5) (p6)) rfl rfl rfl rfl rfl rfl (fun v L' I' hq14 => ?_))
    obtain ⟨rfl, rfl, rfl⟩ := hq14
    refine st rfl (o_y (v := .tuple #[.string ((rangeF ((rgetF (cutS s)).1) ((rgetF (cutS s)).2.1)).1), .int .i64 ((rangeF ((rgetF (cutS s)).1) ((rgetF (cutS s)).2.1)).2)]) (y_mv rfl) rfl rfl rfl ?_)
    refine st rfl (o_y (v := .string ((rangeF ((rgetF (cutS s)).1) ((rgetF (cutS s)).2.1)).1)) (y_k rfl rfl (fun _ => by kernel_rfl)) rfl rfl rfl ?_)
    refine st rfl (o_y (v := .int .i64 ((rangeF ((rgetF (cutS s)).1) ((rgetF (cutS s)).2.1)).2)) (y_k rfl rfl (fun _ => by kernel_rfl)) rfl rfl rfl ?_)
    refine st rfl (o_y (v := .string ((rangeF ((rgetF (cutS s)).1) ((rgetF (cutS s)).2.1)).1)) (y_as rfl) rfl rfl rfl ?_)
    refine st rfl (o_y (v := .int .i64 ((rangeF ((rgetF (cutS s)).1) ((rgetF (cutS s)).2.1)).2)) (y_as rfl) rfl rfl rfl ?_)
    refine s_nil ?_
    refine q_then ?_
    refine c_seq ?_
    refine c_region ?_
    refine st rfl (o_y (v := .bool true) (y_mv rfl) rfl rfl rfl ?_)
    refine st rfl (o_y (v := .bool true) (y_mv rfl) rfl rfl rfl ?_)
    refine st_on 79 rfl rfl rfl (o_y (v := .int .i64 ((rangeF a b).2)) (y_mv rfl) rfl rfl rfl ?_)
    have h34 : ¬ ((rangeF a b).2 = 0) := h24
    refine st_on 79 rfl rfl rfl (o_y (v := .bool false) (y_f (y_k (v := .bool (decide ((rangeF a b).2 = 0))) rfl rfl (fun _ => by kernel_rfl)) h34) rfl rfl rfl ?_)
    refine st_on 79 rfl rfl rfl (o_ldn 5 3 rfl rfl rfl rfl Tryd.underlying24 rfl (by kernel_rfl) (by kernel_rfl) rfl ?_)
    refine st_on 79 rfl rfl rfl (o_ldn 4 3 rfl rfl rfl rfl Tryd.underlying24 rfl (by kernel_rfl) (by kernel_rfl) rfl ?_)
    refine st_on 79 rfl rfl rfl (o_call [] [] (under_ a b) rfl rfl rfl rfl rfl rfl (fun v L' I' hq15 => ?_))
    obtain ⟨hv3, rfl, rfl⟩ := hq15
    obtain rfl : v = .bool false := by rw [hv3, decide_eq_false (show ¬ (labUnder a b) from fun q => h34 (range_c.2 q))]
    refine st_on 79 rfl rfl rfl (o_y (v := .bool true) (y_k rfl rfl (fun _ => by kernel_rfl)) rfl rfl rfl ?_)
    refine st rfl (o_y (v := .bool true) (y_pick rfl rfl) rfl rfl rfl ?_)
    refine st rfl (o_y (v := .bool true) (y_mv rfl) rfl rfl rfl ?_)
    refine st_on 87 rfl rfl rfl (o_y (v := .int .i64 ((rgetF (cutS s)).2.2.2)) (y_mv rfl) rfl rfl rfl ?_)
    refine e_by ((rgetF (cutS s)).2.2.2 = 0) (fun h35 => ?_) (fun h35 => ?_)
    ·
      refine st_on 87 rfl rfl rfl (o_y (v := .bool false) (y_nt (y_k (v := .bool (!decide ((rgetF (cutS s)).2.2.2 = 0))) rfl rfl (fun _ => by kernel_rfl)) h35) rfl rfl rfl ?_)
      refine st_on 87 rfl rfl rfl (o_y (v := .bool false) (y_mv rfl) rfl rfl rfl ?_)
      refine st_on 90 rfl rfl rfl (o_y (v := .int .i64 ((rangeF ((rgetF (cutS s)).1) ((rgetF (cutS s)).2.1)).2)) (y_mv rfl) rfl rfl rfl ?_)
      have h36 : (rangeF ((rgetF (cutS s)).1) ((rgetF (cutS s)).2.1)).2 = 0 := range_c.2 (rg_under h35)
      refine st_on 90 rfl rfl rfl (o_y (v := .bool true) (y_t (y_k (v := .bool (decide ((rangeF ((rgetF (cutS s)).1) ((rgetF (cutS s)).2.1)).2 = 0))) rfl rfl (fun _ => by kernel_rfl)) h36) rfl rfl rfl ?_)
      refine st_on 90 rfl rfl rfl (o_y (v := .bool true) (y_mv rfl) rfl rfl rfl ?_)
      refine st_on 93 rfl rfl rfl (o_ldn 1 3 rfl rfl rfl rfl Tryd.underlying24 rfl (by kernel_rfl) (by kernel_rfl) rfl ?_)
      refine st_on 93 rfl rfl rfl (o_ldn 0 3 rfl rfl rfl rfl Tryd.underlying24 rfl (by kernel_rfl) (by kernel_rfl) rfl ?_)
      refine st_on 93 rfl rfl rfl (o_call [] [] (under_ ((rgetF (cutS s)).1) ((rgetF (cutS s)).2.1)) rfl rfl rfl rfl rfl rfl (fun v L' I' hq16 => ?_))
      obtain ⟨hv4, rfl, rfl⟩ := hq16
      obtain rfl : v = .bool true := by rw [hv4, decide_eq_true (show labUnder ((rgetF (cutS s)).1) ((rgetF (cutS s)).2.1) from rg_under h35)]
      refine st_on 90 rfl rfl rfl (o_y (v := .bool true) (y_pick rfl rfl) rfl rfl rfl ?_)
      refine st_on 90 rfl rfl rfl (o_y (v := .bool true) (y_mv rfl) rfl rfl rfl ?_)
      refine st_on 98 rfl rfl rfl (o_y (v := .string ((rangeF ((rgetF (cutS s)).1) ((rgetF (cutS s)).2.1)).1)) (y_mv rfl) rfl rfl rfl ?_)
      refine st_on 98 rfl rfl rfl (o_y (v := .string ((rgetF (cutS s)).2.2.1)) (y_mv rfl) rfl rfl rfl ?_)
      refine st_on 98 rfl rfl rfl (o_y (v := .string (((rangeF ((rgetF (cutS s)).1) ((rgetF (cutS s)).2.1)).1) ++ ((rgetF (cutS s)).2.2.1))) (y_cat (s := (rangeF ((rgetF (cutS s)).1) ((rgetF (cutS s)).2.1)).1) (u := (rgetF (cutS s)).2.2.1) rfl rfl (by omega)) rfl rfl rfl ?_)
      refine st_on 98 rfl rfl rfl (o_y (v := .string s) (y_mv rfl) rfl rfl rfl ?_)
      refine st_on 98 rfl rfl rfl (o_call [] [] (cut_ s (by omega)) rfl rfl rfl rfl rfl rfl (fun v L' I' hq17 => ?_))
      obtain ⟨rfl, rfl, rfl⟩ := hq17
      have h37 : ((rangeF ((rgetF (cutS s)).1) ((rgetF (cutS s)).2.1)).1) ++ ((rgetF (cutS s)).2.2.1) = cutS s := rg_back h35
      refine st_on 98 rfl rfl rfl (o_y (v := .bool true) (y_b (y_k (v := .bool ((((rangeF ((rgetF (cutS s)).1) ((rgetF (cutS s)).2.1)).1) ++ ((rgetF (cutS s)).2.2.1)).toList == (cutS s).toList)) rfl rfl (fun _ => by kernel_rfl)) (str_t h37)) rfl rfl rfl ?_)
      refine st_on 90 rfl rfl rfl (o_y (v := .bool true) (y_pick rfl rfl) rfl rfl rfl ?_)
      refine st_on 87 rfl rfl rfl (o_y (v := .bool true) (y_pick rfl rfl) rfl rfl rfl ?_)
      refine st rfl (o_y (v := .bool true) (y_pick rfl rfl) rfl rfl rfl ?_)
      refine st rfl (o_y (v := .bool true) (y_as rfl) rfl rfl rfl ?_)
      refine s_nil ?_
      refine q_then ?_
      refine c_ret ?_
      refine c_fin (I' := []) [] [0, 1, 2, 3, 4, 5, 6, 7, 8] rfl (.tmp rfl .nil) rfl rfl rfl ?_
      exact ⟨rfl, rfl, rfl⟩
    ·
      refine st_on 87 rfl rfl rfl (o_y (v := .bool true) (y_nf (y_k (v := .bool (!decide ((rgetF (cutS s)).2.2.2 = 0))) rfl rfl (fun _ => by kernel_rfl)) h35) rfl rfl rfl ?_)
      refine st_on 87 rfl rfl rfl (o_y (v := .bool true) (y_mv rfl) rfl rfl rfl ?_)
      refine st_off 90 rfl rfl rfl rfl rfl rfl ?_
      refine st_off 90 rfl rfl rfl rfl rfl rfl ?_
      refine st_off 90 rfl rfl rfl rfl rfl rfl ?_
      refine st_offu 93 rfl rfl rfl rfl rfl ?_
      refine st_offu 93 rfl rfl rfl rfl rfl ?_
      refine st_offu 93 rfl rfl rfl rfl rfl ?_
      refine st_off 90 rfl rfl rfl rfl rfl rfl ?_
      refine st_off 90 rfl rfl rfl rfl rfl rfl ?_
      refine st_offu 98 rfl rfl rfl rfl rfl ?_
      refine st_offu 98 rfl rfl rfl rfl rfl ?_
      refine st_offu 98 rfl rfl rfl rfl rfl ?_
      refine st_offu 98 rfl rfl rfl rfl rfl ?_
      refine st_offu 98 rfl rfl rfl rfl rfl ?_
      refine st_offu 98 rfl rfl rfl rfl rfl ?_
      refine st_off 90 rfl rfl rfl rfl rfl rfl ?_
      refine st_on 87 rfl rfl rfl (o_y (v := .bool true) (y_pick rfl rfl) rfl rfl rfl ?_)
      refine st rfl (o_y (v := .bool true) (y_pick rfl rfl) rfl rfl rfl ?_)
      refine st rfl (o_y (v := .bool true) (y_as rfl) rfl rfl rfl ?_)
      refine s_nil ?_
      refine q_then ?_
      refine c_ret ?_
      refine c_fin (I' := []) [] [0, 1, 2, 3, 4, 5, 6, 7, 8] rfl (.tmp rfl .nil) rfl rfl rfl ?_
      exact ⟨rfl, rfl, rfl⟩
end Go.Proofs.YthoefkpbijcdeaaDoor
