/- The laws of chapter 17 (call), walked over the given program; no condition but what stands in each theorem: part UTurns. -/
import Derived.Test.YtcnncdniibkjkaaDoorRCQ
import Derived.Test.YtcnncdniibkjkaaDoorRLPI
set_option linter.unusedVariables false
set_option linter.unusedSimpArgs false
set_option maxRecDepth 100000
set_option maxHeartbeats 8000000
namespace Go.Proofs.YtcnncdniibkjkaaDoor
open Go Go.Sl Go.RowKit Go.Extern.Stop Go.Stop Go.Extern
theorem CallTurns_ (ea : Addr) (em : Addr) (ef : Addr) (el : Addr) (h12 : ea ≠ em) (h13 : ea ≠ ef) (h23 : em ≠ ef) (e : Int) (n : Int) (d : ByteArray) (A : Option Addr) (c : Nat) (l : List ByteArray) (a : Lab) (s : ByteArray) (hzd : d.size ≤ 9223372036854775807) (hzt : ∀ t ∈ l, t.size ≤ 9223372036854775807) (h6a : lab64 a) (hen : e ≤ 9223372036854775807 ∧ n ≤ 9223372036854775807) (hzs : s.size ≤ 9223372036854775807) : Con Tryd.prog 6 [.agg #[.int .i64 e, .int .i64 n, .string d, .slice A l.length c, .int .i64 a.lv, .int .u64 (a.cs : Int), .int .i64 a.ig], .string s] [] [rd strTy A c l, cellsAt 2 0 [.iface 177 (.pointer (some ea))], cellsAt 3 0 [.iface 177 (.pointer (some em))], cellsAt 1 0 [.iface 177 (.pointer (some ef))], cellsAt 4 0 [.iface 177 (.pointer (some el))], errAt ea, errAt em, errAt ef, errAt el, cellsAt 0 0 [.iface 139 (.agg #[.pointer (some ⟨5, 51, none⟩)])]] (fun v L' I' => v = .bool true ∧ L' = [] ∧ I' = []) := by
 have f1 := fewT_len l
 have f2 := fewT_small l
 have f3 := cutW_size d
 have k1 := cutW_size s
 have g1 := repGet_small (Nat.le_trans k1 (by decide))
 refine fn_of Tryd.func6 rfl Tryd.ntmps6 (by kernel_rfl) rfl (fun C => ?_)
 refine c_seq (c_region ?_)
 refine st rfl (o_box (cs := [.int .i64 e, .int .i64 n, .string d, .slice A l.length c, .int .i64 a.lv, .int .u64 (a.cs : Int), .int .i64 a.ig]) (T := 41) rfl rfl rfl rfl (fun _ => by kernel_rfl) (fun b1 => ?_))
 refine s_y rfl (v := .bool false) (y_as rfl) rfl ?_
 refine s_nil (q_then (c_seq (c_region ?_)))
 refine st rfl (o_call [] [1, 2, 3, 4, 5, 6, 7, 8, 9] (shown_ ea em ef el (by assumption) (by assumption) (by assumption)) rfl rfl rfl rfl rfl rfl (fun v L' I' hq1 => ?_))
 obtain ⟨rfl, rfl, rfl⟩ := hq1
 refine s_y rfl (v := .bool true) (y_as rfl) rfl ?_
 refine s_nil (q_then (c_seq (c_region ?_)))
 refine st rfl (o_ldn 0 7 rfl rfl rfl rfl Tryd.underlying41 rfl (by kernel_rfl) (by kernel_rfl) rfl ?_)
 refine st rfl (o_call [] [0] (fewr_ e n d A c l a (hzd) (hzt)) rfl rfl rfl rfl rfl rfl (fun v L' I' hq2 => ?_))
 obtain ⟨A1, c1, rfl, rfl, rfl⟩ := hq2
 refine st rfl (o_st 1 rfl rfl rfl rfl rfl (by kernel_rfl) (by kernel_rfl) rfl ?_)
 refine s_nil (q_then (c_seq (c_region ?_)))
 refine st rfl (o_ldn 1 7 rfl rfl rfl rfl Tryd.underlying41 rfl (by kernel_rfl) (by kernel_rfl) rfl ?_)
 refine st rfl (o_lend [0] [] [1, 2, 3, 5, 6, 7, 4, 8, 9] (repPut_ e n (cutW d) A1 c1 (fewT l) a ea em ef el (by assumption) (by assumption) (by assumption) (by omega) (f1) (f2) (h6a)) (.cons lend_ars .nil) rfl rfl rfl rfl rfl rfl rfl rfl (fun v L' I' hq3 => ?_))
 obtain ⟨rfl, rfl, rfl⟩ := hq3
 refine ⟨rfl, ?_⟩
 refine s_y rfl (v := .tuple #[.string ((repPut e n (cutW d) (fewT l) a).1), .int .i64 ((repPut e n (cutW d) (fewT l) a).2)]) (y_mv rfl) rfl ?_
 refine s_y rfl (v := .string ((repPut e n (cutW d) (fewT l) a).1)) (y_k rfl rfl (fun _ => by kernel_rfl)) rfl ?_
 refine s_y rfl (v := .int .i64 ((repPut e n (cutW d) (fewT l) a).2)) (y_k rfl rfl (fun _ => by kernel_rfl)) rfl ?_
 refine s_y rfl (v := .string ((repPut e n (cutW d) (fewT l) a).1)) (y_as rfl) rfl ?_
 refine s_y rfl (v := .int .i64 ((repPut e n (cutW d) (fewT l) a).2)) (y_as rfl) rfl ?_
 refine s_nil (q_then (c_seq (c_region ?_)))
 refine s_y rfl (v := .string ((repPut e n (cutW d) (fewT l) a).1)) (y_mv rfl) rfl ?_
 refine st rfl (o_call [] [1, 2, 3, 5, 6, 7, 4, 8, 9] (repGet_ ((repPut e n (cutW d) (fewT l) a).1) ea em ef el (by assumption) (by assumption) (by assumption) (by first | omega | (have := rpy_size (e := e) (n := n) (d := cutW d) (l := fewT l) (a := a); omega))) rfl rfl rfl rfl rfl rfl (fun v L' I' hq4 => ?_))
 obtain ⟨A2, c2, rfl, rfl, rfl⟩ := hq4
 refine s_y rfl (v := .tuple #[.agg #[.int .i64 ((repGet ((repPut e n (cutW d) (fewT l) a).1)).1), .int .i64 ((repGet ((repPut e n (cutW d) (fewT l) a).1)).2.1), .string ((repGet ((repPut e n (cutW d) (fewT l) a).1)).2.2.1), .slice A2 ((repGet ((repPut e n (cutW d) (fewT l) a).1)).2.2.2.1).length c2, .int .i64 (((repGet ((repPut e n (cutW d) (fewT l) a).1)).2.2.2.2.1).lv), .int .u64 (((repGet ((repPut e n (cutW d) (fewT l) a).1)).2.2.2.2.1).cs : Int), .int .i64 (((repGet ((repPut e n (cutW d) (fewT l) a).1)).2.2.2.2.1).ig)], .int .i64 ((repGet ((repPut e n (cutW d) (fewT l) a).1)).2.2.2.2.2)]) (y_mv rfl) rfl ?_
 refine s_y rfl (v := .agg #[.int .i64 ((repGet ((repPut e n (cutW d) (fewT l) a).1)).1), .int .i64 ((repGet ((repPut e n (cutW d) (fewT l) a).1)).2.1), .string ((repGet ((repPut e n (cutW d) (fewT l) a).1)).2.2.1), .slice A2 ((repGet ((repPut e n (cutW d) (fewT l) a).1)).2.2.2.1).length c2, .int .i64 (((repGet ((repPut e n (cutW d) (fewT l) a).1)).2.2.2.2.1).lv), .int .u64 (((repGet ((repPut e n (cutW d) (fewT l) a).1)).2.2.2.2.1).cs : Int), .int .i64 (((repGet ((repPut e n (cutW d) (fewT l) a).1)).2.2.2.2.1).ig)]) (y_k rfl rfl (fun _ => by kernel_rfl)) rfl ?_
 refine s_y rfl (v := .int .i64 ((repGet ((repPut e n (cutW d) (fewT l) a).1)).2.2.2.2.2)) (y_k rfl rfl (fun _ => by kernel_rfl)) rfl ?_
 refine st rfl (o_box (cs := [.int .i64 0, .int .i64 0, .string (⟨#[]⟩ : ByteArray), .slice none 0 0, .int .i64 0, .int .u64 0, .int .i64 0]) (T := 41) rfl rfl rfl rfl (fun _ => by kernel_rfl) (fun b2 => ?_))
 refine st rfl (o_st 0 rfl rfl rfl rfl rfl (by kernel_rfl) (by kernel_rfl) rfl ?_)
 refine s_y rfl (v := .int .i64 ((repGet ((repPut e n (cutW d) (fewT l) a).1)).2.2.2.2.2)) (y_as rfl) rfl ?_
 refine s_nil (q_then (c_seq (c_seq (c_region ?_))))
 refine s_y rfl (v := .int .i64 ((repPut e n (cutW d) (fewT l) a).2)) (y_mv rfl) rfl ?_
 refine e_by ((repPut e n (cutW d) (fewT l) a).2 = 0) (fun h24 => ?_) (fun h24 => ?_)
 ·
  refine s_y rfl (v := .bool true) (y_t (y_k (v := .bool (decide ((repPut e n (cutW d) (fewT l) a).2 = 0))) rfl rfl (fun _ => by kernel_rfl)) h24) rfl ?_
  refine s_y rfl (v := .bool true) (y_mv rfl) rfl ?_
  refine st_on 29 rfl rfl rfl (o_y (v := .int .i64 ((repGet ((repPut e n (cutW d) (fewT l) a).1)).2.2.2.2.2)) (y_mv rfl) rfl rfl rfl ?_)
  have h25 : (repGet ((repPut e n (cutW d) (fewT l) a).1)).2.2.2.2.2 = 0 := by rw [rep_back h24 hen.1 hen.2 h6a]
  refine st_on 29 rfl rfl rfl (o_y (v := .bool false) (y_nt (y_k (v := .bool (!decide ((repGet ((repPut e n (cutW d) (fewT l) a).1)).2.2.2.2.2 = 0))) rfl rfl (fun _ => by kernel_rfl)) h25) rfl rfl rfl ?_)
  refine st_on 29 rfl rfl rfl (o_y (v := .bool false) (y_mv rfl) rfl rfl rfl ?_)
  refine st_on 32 rfl rfl rfl (o_ldn 0 7 rfl rfl rfl rfl Tryd.underlying41 rfl (by kernel_rfl) (by kernel_rfl) rfl ?_)
  refine st_on 32 rfl rfl rfl (o_ldn 3 7 rfl rfl rfl rfl Tryd.underlying41 rfl (by kernel_rfl) (by kernel_rfl) rfl ?_)
  refine st_on 32 rfl rfl rfl (o_lend [1, 1] [] [] (sameR_ ((repGet ((repPut e n (cutW d) (fewT l) a).1)).1) ((repGet ((repPut e n (cutW d) (fewT l) a).1)).2.1) ((repGet ((repPut e n (cutW d) (fewT l) a).1)).2.2.1) A2 c2 ((repGet ((repPut e n (cutW d) (fewT l) a).1)).2.2.2.1) ((repGet (repPut e n (cutW d) (fewT l) a).1).2.2.2.2.1) e n (cutW d) A1 c1 (fewT l) a (by have := (repGet_small (s := (repPut e n (cutW d) (fewT l) a).1) (by have := rpy_size (e := e) (n := n) (d := cutW d) (l := fewT l) (a := a); omega)).2.1; omega)) (.cons lend_win (.cons lend_ars .nil)) rfl rfl rfl rfl rfl rfl rfl rfl (fun v L' I' hq5 => ?_))
  obtain ⟨hv1, rfl, rfl⟩ := hq5
  refine ⟨rfl, ?_⟩
  obtain rfl : v = .bool true := by rw [hv1, decide_eq_true (show repEq ((repGet ((repPut e n (cutW d) (fewT l) a).1)).1) ((repGet ((repPut e n (cutW d) (fewT l) a).1)).2.1) ((repGet ((repPut e n (cutW d) (fewT l) a).1)).2.2.1) ((repGet ((repPut e n (cutW d) (fewT l) a).1)).2.2.2.1) ((repGet (repPut e n (cutW d) (fewT l) a).1).2.2.2.2.1) e n (cutW d) (fewT l) a from by rw [rep_back h24 hen.1 hen.2 h6a]; exact ⟨rfl, rfl, rfl, rfl, rfl⟩)]
  refine st_on 32 rfl rfl rfl (o_y (v := .bool false) (y_k rfl rfl (fun _ => by kernel_rfl)) rfl rfl rfl ?_)
  refine st_on 29 rfl rfl rfl (o_y (v := .bool false) (y_pick rfl rfl) rfl rfl rfl ?_)
  refine st_on 29 rfl rfl rfl (o_y (v := .bool false) (y_mv rfl) rfl rfl rfl ?_)
  refine st_on 38 rfl rfl rfl (o_y (v := .string ((repPut e n (cutW d) (fewT l) a).1)) (y_mv rfl) rfl rfl rfl ?_)
  refine st_on 38 rfl rfl rfl (o_y (v := .int .i64 (((repPut e n (cutW d) (fewT l) a).1).size : Int)) (y_k rfl rfl (fun _ => by kernel_rfl)) rfl rfl rfl ?_)
  have h26 : ¬ ((((repPut e n (cutW d) (fewT l) a).1).size : Int) > 2000) := by have := rpy_size (e := e) (n := n) (d := cutW d) (l := fewT l) (a := a); omega
  refine st_on 38 rfl rfl rfl (o_y (v := .bool false) (y_f (y_k (v := .bool (decide ((((repPut e n (cutW d) (fewT l) a).1).size : Int) > 2000))) rfl rfl (fun _ => by kernel_rfl)) h26) rfl rfl rfl ?_)
  refine st_on 29 rfl rfl rfl (o_y (v := .bool false) (y_pick rfl rfl) rfl rfl rfl ?_)
  refine s_y rfl (v := .bool false) (y_pick rfl rfl) rfl ?_
  refine s_nil (q_then (c_false rfl (c_skip (q_then (c_seq (c_region ?_))))))
  refine s_y rfl (v := .string s) (y_mv rfl) rfl ?_
  refine st rfl (o_call [] [] (cutw_ s (by first | omega | assumption)) rfl rfl rfl rfl rfl rfl (fun v L' I' hq6 => ?_))
  obtain ⟨rfl, rfl, rfl⟩ := hq6
  refine st rfl (o_call [] [1, 2, 3, 5, 6, 7, 4, 8, 9] (repGet_ (cutW s) ea em ef el (by assumption) (by assumption) (by assumption) (by first | omega | (have := rpy_size (e := e) (n := n) (d := cutW d) (l := fewT l) (a := a); omega))) rfl rfl rfl rfl rfl rfl (fun v L' I' hq7 => ?_))
  obtain ⟨A3, c3, rfl, rfl, rfl⟩ := hq7
  refine s_y rfl (v := .tuple #[.agg #[.int .i64 ((repGet (cutW s)).1), .int .i64 ((repGet (cutW s)).2.1), .string ((repGet (cutW s)).2.2.1), .slice A3 ((repGet (cutW s)).2.2.2.1).length c3, .int .i64 (((repGet (cutW s)).2.2.2.2.1).lv), .int .u64 (((repGet (cutW s)).2.2.2.2.1).cs : Int), .int .i64 (((repGet (cutW s)).2.2.2.2.1).ig)], .int .i64 ((repGet (cutW s)).2.2.2.2.2)]) (y_mv rfl) rfl ?_
  refine s_y rfl (v := .agg #[.int .i64 ((repGet (cutW s)).1), .int .i64 ((repGet (cutW s)).2.1), .string ((repGet (cutW s)).2.2.1), .slice A3 ((repGet (cutW s)).2.2.2.1).length c3, .int .i64 (((repGet (cutW s)).2.2.2.2.1).lv), .int .u64 (((repGet (cutW s)).2.2.2.2.1).cs : Int), .int .i64 (((repGet (cutW s)).2.2.2.2.1).ig)]) (y_k rfl rfl (fun _ => by kernel_rfl)) rfl ?_
  refine s_y rfl (v := .int .i64 ((repGet (cutW s)).2.2.2.2.2)) (y_k rfl rfl (fun _ => by kernel_rfl)) rfl ?_
  refine st rfl (o_box (cs := [.int .i64 0, .int .i64 0, .string (⟨#[]⟩ : ByteArray), .slice none 0 0, .int .i64 0, .int .u64 0, .int .i64 0]) (T := 41) rfl rfl rfl rfl (fun _ => by kernel_rfl) (fun b3 => ?_))
  refine st rfl (o_st 0 rfl rfl rfl rfl rfl (by kernel_rfl) (by kernel_rfl) rfl ?_)
  refine s_y rfl (v := .int .i64 ((repGet (cutW s)).2.2.2.2.2)) (y_as rfl) rfl ?_
  refine s_nil (q_then (c_seq (c_region ?_)))
  refine st rfl (o_ldn 0 7 rfl rfl rfl rfl Tryd.underlying41 rfl (by kernel_rfl) (by kernel_rfl) rfl ?_)
  refine st rfl (o_lend [1] [] [1, 2, 3, 5, 6, 7, 4, 8, 9] (repPut_ ((repGet (cutW s)).1) ((repGet (cutW s)).2.1) ((repGet (cutW s)).2.2.1) A3 c3 ((repGet (cutW s)).2.2.2.1) ((repGet (cutW s)).2.2.2.2.1) ea em ef el (by assumption) (by assumption) (by assumption) (g1.1) (g1.2.1) (g1.2.2.1) (g1.2.2.2)) (.cons lend_win .nil) rfl rfl rfl rfl rfl rfl rfl rfl (fun v L' I' hq8 => ?_))
  obtain ⟨rfl, rfl, rfl⟩ := hq8
  refine ⟨rfl, ?_⟩
  refine s_y rfl (v := .tuple #[.string ((repPut ((repGet (cutW s)).1) ((repGet (cutW s)).2.1) ((repGet (cutW s)).2.2.1) ((repGet (cutW s)).2.2.2.1) ((repGet (cutW s)).2.2.2.2.1)).1), .int .i64 ((repPut ((repGet (cutW s)).1) ((repGet (cutW s)).2.1) ((repGet (cutW s)).2.2.1) ((repGet (cutW s)).2.2.2.1) ((repGet (cutW s)).2.2.2.2.1)).2)]) (y_mv rfl) rfl ?_
  refine s_y rfl (v := .string ((repPut ((repGet (cutW s)).1) ((repGet (cutW s)).2.1) ((repGet (cutW s)).2.2.1) ((repGet (cutW s)).2.2.2.1) ((repGet (cutW s)).2.2.2.2.1)).1)) (y_k rfl rfl (fun _ => by kernel_rfl)) rfl ?_
  refine s_y rfl (v := .int .i64 ((repPut ((repGet (cutW s)).1) ((repGet (cutW s)).2.1) ((repGet (cutW s)).2.2.1) ((repGet (cutW s)).2.2.2.1) ((repGet (cutW s)).2.2.2.2.1)).2)) (y_k rfl rfl (fun _ => by kernel_rfl)) rfl ?_
  refine s_y rfl (v := .string ((repPut ((repGet (cutW s)).1) ((repGet (cutW s)).2.1) ((repGet (cutW s)).2.2.1) ((repGet (cutW s)).2.2.2.1) ((repGet (cutW s)).2.2.2.2.1)).1)) (y_as rfl) rfl ?_
  refine s_y rfl (v := .int .i64 ((repPut ((repGet (cutW s)).1) ((repGet (cutW s)).2.1) ((repGet (cutW s)).2.2.1) ((repGet (cutW s)).2.2.2.1) ((repGet (cutW s)).2.2.2.2.1)).2)) (y_as rfl) rfl ?_
  refine s_nil (q_then (c_seq (c_region ?_)))
  refine s_y rfl (v := .bool true) (y_mv rfl) rfl ?_
  refine s_y rfl (v := .bool true) (y_mv rfl) rfl ?_
  refine st_on 56 rfl rfl rfl (o_y (v := .int .i64 ((repPut e n (cutW d) (fewT l) a).2)) (y_mv rfl) rfl rfl rfl ?_)
  have h27 : (repPut e n (cutW d) (fewT l) a).2 = 0 := h24
  refine st_on 56 rfl rfl rfl (o_y (v := .bool true) (y_t (y_k (v := .bool (decide ((repPut e n (cutW d) (fewT l) a).2 = 0))) rfl rfl (fun _ => by kernel_rfl)) h27) rfl rfl rfl ?_)
  refine st_on 56 rfl rfl rfl (o_y (v := .bool true) (y_mv rfl) rfl rfl rfl ?_)
  refine st_off 59 rfl rfl rfl rfl rfl rfl ?_
  refine st_off 59 rfl rfl rfl rfl rfl rfl ?_
  refine st_on 56 rfl rfl rfl (o_y (v := .bool true) (y_pick rfl rfl) rfl rfl rfl ?_)
  refine s_y rfl (v := .bool true) (y_pick rfl rfl) rfl ?_
  refine s_y rfl (v := .bool true) (y_mv rfl) rfl ?_
  refine st_on 64 rfl rfl rfl (o_y (v := .int .i64 ((repGet (cutW s)).2.2.2.2.2)) (y_mv rfl) rfl rfl rfl ?_)
  refine e_by ((repGet (cutW s)).2.2.2.2.2 = 0) (fun h28 => ?_) (fun h28 => ?_)
  ·
   refine st_on 64 rfl rfl rfl (o_y (v := .bool false) (y_nt (y_k (v := .bool (!decide ((repGet (cutW s)).2.2.2.2.2 = 0))) rfl rfl (fun _ => by kernel_rfl)) h28) rfl rfl rfl ?_)
   refine st_on 64 rfl rfl rfl (o_y (v := .bool false) (y_mv rfl) rfl rfl rfl ?_)
   refine st_on 67 rfl rfl rfl (o_y (v := .int .i64 ((repPut ((repGet (cutW s)).1) ((repGet (cutW s)).2.1) ((repGet (cutW s)).2.2.1) ((repGet (cutW s)).2.2.2.1) ((repGet (cutW s)).2.2.2.2.1)).2)) (y_mv rfl) rfl rfl rfl ?_)
   have h29 : (repPut ((repGet (cutW s)).1) ((repGet (cutW s)).2.1) ((repGet (cutW s)).2.2.1) ((repGet (cutW s)).2.2.2.1) ((repGet (cutW s)).2.2.2.2.1)).2 = 0 := by rw [rep_forth h28]
   refine st_on 67 rfl rfl rfl (o_y (v := .bool true) (y_t (y_k (v := .bool (decide ((repPut ((repGet (cutW s)).1) ((repGet (cutW s)).2.1) ((repGet (cutW s)).2.2.1) ((repGet (cutW s)).2.2.2.1) ((repGet (cutW s)).2.2.2.2.1)).2 = 0))) rfl rfl (fun _ => by kernel_rfl)) h29) rfl rfl rfl ?_)
   refine st_on 67 rfl rfl rfl (o_y (v := .bool true) (y_mv rfl) rfl rfl rfl ?_)
   refine st_on 70 rfl rfl rfl (o_y (v := .string ((repPut ((repGet (cutW s)).1) ((repGet (cutW s)).2.1) ((repGet (cutW s)).2.2.1) ((repGet (cutW s)).2.2.2.1) ((repGet (cutW s)).2.2.2.2.1)).1)) (y_mv rfl) rfl rfl rfl ?_)
   refine st_on 70 rfl rfl rfl (o_y (v := .string s) (y_mv rfl) rfl rfl rfl ?_)
   refine st_on 70 rfl rfl rfl (o_call [] [] (cutw_ s (by first | omega | assumption)) rfl rfl rfl rfl rfl rfl (fun v L' I' hq9 => ?_))
   obtain ⟨rfl, rfl, rfl⟩ := hq9
   have h30 : (repPut ((repGet (cutW s)).1) ((repGet (cutW s)).2.1) ((repGet (cutW s)).2.2.1) ((repGet (cutW s)).2.2.2.1) ((repGet (cutW s)).2.2.2.2.1)).1 = cutW s := by rw [rep_forth h28]
   refine st_on 70 rfl rfl rfl (o_y (v := .bool true) (y_b (y_k (v := .bool (((repPut ((repGet (cutW s)).1) ((repGet (cutW s)).2.1) ((repGet (cutW s)).2.2.1) ((repGet (cutW s)).2.2.2.1) ((repGet (cutW s)).2.2.2.2.1)).1).toList == (cutW s).toList)) rfl rfl (fun _ => by kernel_rfl)) (str_t h30)) rfl rfl rfl ?_)
   refine st_on 67 rfl rfl rfl (o_y (v := .bool true) (y_pick rfl rfl) rfl rfl rfl ?_)
   refine st_on 64 rfl rfl rfl (o_y (v := .bool true) (y_pick rfl rfl) rfl rfl rfl ?_)
   refine s_y rfl (v := .bool true) (y_pick rfl rfl) rfl ?_
   refine s_y rfl (v := .bool true) (y_as rfl) rfl ?_
   refine s_nil (q_then (c_ret ?_))
   refine c_fin (I' := []) [] [0, 1, 2, 3, 4, 5, 6, 7, 8, 9] rfl (.tmp rfl .nil) rfl rfl rfl ?_
   exact ⟨rfl, rfl, rfl⟩
  ·
   refine st_on 64 rfl rfl rfl (o_y (v := .bool true) (y_nf (y_k (v := .bool (!decide ((repGet (cutW s)).2.2.2.2.2 = 0))) rfl rfl (fun _ => by kernel_rfl)) h28) rfl rfl rfl ?_)
   refine st_on 64 rfl rfl rfl (o_y (v := .bool true) (y_mv rfl) rfl rfl rfl ?_)
   refine st_off 67 rfl rfl rfl rfl rfl rfl ?_
   refine st_off 67 rfl rfl rfl rfl rfl rfl ?_
   refine st_off 67 rfl rfl rfl rfl rfl rfl ?_
   refine st_offu 70 rfl rfl rfl rfl rfl ?_
   refine st_offu 70 rfl rfl rfl rfl rfl ?_
   refine st_offu 70 rfl rfl rfl rfl rfl ?_
   refine st_offu 70 rfl rfl rfl rfl rfl ?_
   refine st_off 67 rfl rfl rfl rfl rfl rfl ?_
   refine st_on 64 rfl rfl rfl (o_y (v := .bool true) (y_pick rfl rfl) rfl rfl rfl ?_)
   refine s_y rfl (v := .bool true) (y_pick rfl rfl) rfl ?_
   refine s_y rfl (v := .bool true) (y_as rfl) rfl ?_
   refine s_nil (q_then (c_ret ?_))
   refine c_fin (I' := []) [] [0, 1, 2, 3, 4, 5, 6, 7, 8, 9] rfl (.tmp rfl .nil) rfl rfl rfl ?_
   exact ⟨rfl, rfl, rfl⟩
 ·
  refine s_y rfl (v := .bool false) (y_f (y_k (v := .bool (decide ((repPut e n (cutW d) (fewT l) a).2 = 0))) rfl rfl (fun _ => by kernel_rfl)) h24) rfl ?_
  refine s_y rfl (v := .bool false) (y_mv rfl) rfl ?_
  refine st_off 29 rfl rfl rfl rfl rfl rfl ?_
  refine st_off 29 rfl rfl rfl rfl rfl rfl ?_
  refine st_off 29 rfl rfl rfl rfl rfl rfl ?_
  refine st_offu 32 rfl rfl rfl rfl rfl ?_
  refine st_offu 32 rfl rfl rfl rfl rfl ?_
  refine st_offu 32 rfl rfl rfl rfl rfl ?_
  refine st_offu 32 rfl rfl rfl rfl rfl ?_
  refine st_off 29 rfl rfl rfl rfl rfl rfl ?_
  refine st_off 29 rfl rfl rfl rfl rfl rfl ?_
  refine st_offu 38 rfl rfl rfl rfl rfl ?_
  refine st_offu 38 rfl rfl rfl rfl rfl ?_
  refine st_offu 38 rfl rfl rfl rfl rfl ?_
  refine st_off 29 rfl rfl rfl rfl rfl rfl ?_
  refine s_y rfl (v := .bool false) (y_pick rfl rfl) rfl ?_
  refine s_nil (q_then (c_false rfl (c_skip (q_then (c_seq (c_region ?_))))))
  refine s_y rfl (v := .string s) (y_mv rfl) rfl ?_
  refine st rfl (o_call [] [] (cutw_ s (by first | omega | assumption)) rfl rfl rfl rfl rfl rfl (fun v L' I' hq10 => ?_))
  obtain ⟨rfl, rfl, rfl⟩ := hq10
  refine st rfl (o_call [] [1, 2, 3, 5, 6, 7, 4, 8, 9] (repGet_ (cutW s) ea em ef el (by assumption) (by assumption) (by assumption) (by first | omega | (have := rpy_size (e := e) (n := n) (d := cutW d) (l := fewT l) (a := a); omega))) rfl rfl rfl rfl rfl rfl (fun v L' I' hq11 => ?_))
  obtain ⟨A4, c4, rfl, rfl, rfl⟩ := hq11
  refine s_y rfl (v := .tuple #[.agg #[.int .i64 ((repGet (cutW s)).1), .int .i64 ((repGet (cutW s)).2.1), .string ((repGet (cutW s)).2.2.1), .slice A4 ((repGet (cutW s)).2.2.2.1).length c4, .int .i64 (((repGet (cutW s)).2.2.2.2.1).lv), .int .u64 (((repGet (cutW s)).2.2.2.2.1).cs : Int), .int .i64 (((repGet (cutW s)).2.2.2.2.1).ig)], .int .i64 ((repGet (cutW s)).2.2.2.2.2)]) (y_mv rfl) rfl ?_
  refine s_y rfl (v := .agg #[.int .i64 ((repGet (cutW s)).1), .int .i64 ((repGet (cutW s)).2.1), .string ((repGet (cutW s)).2.2.1), .slice A4 ((repGet (cutW s)).2.2.2.1).length c4, .int .i64 (((repGet (cutW s)).2.2.2.2.1).lv), .int .u64 (((repGet (cutW s)).2.2.2.2.1).cs : Int), .int .i64 (((repGet (cutW s)).2.2.2.2.1).ig)]) (y_k rfl rfl (fun _ => by kernel_rfl)) rfl ?_
  refine s_y rfl (v := .int .i64 ((repGet (cutW s)).2.2.2.2.2)) (y_k rfl rfl (fun _ => by kernel_rfl)) rfl ?_
  refine st rfl (o_box (cs := [.int .i64 0, .int .i64 0, .string (⟨#[]⟩ : ByteArray), .slice none 0 0, .int .i64 0, .int .u64 0, .int .i64 0]) (T := 41) rfl rfl rfl rfl (fun _ => by kernel_rfl) (fun b4 => ?_))
  refine st rfl (o_st 0 rfl rfl rfl rfl rfl (by kernel_rfl) (by kernel_rfl) rfl ?_)
  refine s_y rfl (v := .int .i64 ((repGet (cutW s)).2.2.2.2.2)) (y_as rfl) rfl ?_
  refine s_nil (q_then (c_seq (c_region ?_)))
  refine st rfl (o_ldn 0 7 rfl rfl rfl rfl Tryd.underlying41 rfl (by kernel_rfl) (by kernel_rfl) rfl ?_)
  refine st rfl (o_lend [1] [] [1, 2, 3, 5, 6, 7, 4, 8, 9] (repPut_ ((repGet (cutW s)).1) ((repGet (cutW s)).2.1) ((repGet (cutW s)).2.2.1) A4 c4 ((repGet (cutW s)).2.2.2.1) ((repGet (cutW s)).2.2.2.2.1) ea em ef el (by assumption) (by assumption) (by assumption) (g1.1) (g1.2.1) (g1.2.2.1) (g1.2.2.2)) (.cons lend_win .nil) rfl rfl rfl rfl rfl rfl rfl rfl (fun v L' I' hq12 => ?_))
  obtain ⟨rfl, rfl, rfl⟩ := hq12
  refine ⟨rfl, ?_⟩
  refine s_y rfl (v := .tuple #[.string ((repPut ((repGet (cutW s)).1) ((repGet (cutW s)).2.1) ((repGet (cutW s)).2.2.1) ((repGet (cutW s)).2.2.2.1) ((repGet (cutW s)).2.2.2.2.1)).1), .int .i64 ((repPut ((repGet (cutW s)).1) ((repGet (cutW s)).2.1) ((repGet (cutW s)).2.2.1) ((repGet (cutW s)).2.2.2.1) ((repGet (cutW s)).2.2.2.2.1)).2)]) (y_mv rfl) rfl ?_
  refine s_y rfl (v := .string ((repPut ((repGet (cutW s)).1) ((repGet (cutW s)).2.1) ((repGet (cutW s)).2.2.1) ((repGet (cutW s)).2.2.2.1) ((repGet (cutW s)).2.2.2.2.1)).1)) (y_k rfl rfl (fun _ => by kernel_rfl)) rfl ?_
  refine s_y rfl (v := .int .i64 ((repPut ((repGet (cutW s)).1) ((repGet (cutW s)).2.1) ((repGet (cutW s)).2.2.1) ((repGet (cutW s)).2.2.2.1) ((repGet (cutW s)).2.2.2.2.1)).2)) (y_k rfl rfl (fun _ => by kernel_rfl)) rfl ?_
  refine s_y rfl (v := .string ((repPut ((repGet (cutW s)).1) ((repGet (cutW s)).2.1) ((repGet (cutW s)).2.2.1) ((repGet (cutW s)).2.2.2.1) ((repGet (cutW s)).2.2.2.2.1)).1)) (y_as rfl) rfl ?_
  refine s_y rfl (v := .int .i64 ((repPut ((repGet (cutW s)).1) ((repGet (cutW s)).2.1) ((repGet (cutW s)).2.2.1) ((repGet (cutW s)).2.2.2.1) ((repGet (cutW s)).2.2.2.2.1)).2)) (y_as rfl) rfl ?_
  refine s_nil (q_then (c_seq (c_region ?_)))
  refine s_y rfl (v := .bool true) (y_mv rfl) rfl ?_
  refine s_y rfl (v := .bool true) (y_mv rfl) rfl ?_
  refine st_on 56 rfl rfl rfl (o_y (v := .int .i64 ((repPut e n (cutW d) (fewT l) a).2)) (y_mv rfl) rfl rfl rfl ?_)
  have h31 : ¬ ((repPut e n (cutW d) (fewT l) a).2 = 0) := h24
  refine st_on 56 rfl rfl rfl (o_y (v := .bool false) (y_f (y_k (v := .bool (decide ((repPut e n (cutW d) (fewT l) a).2 = 0))) rfl rfl (fun _ => by kernel_rfl)) h31) rfl rfl rfl ?_)
  refine st_on 56 rfl rfl rfl (o_y (v := .bool false) (y_mv rfl) rfl rfl rfl ?_)
  refine st_on 59 rfl rfl rfl (o_y (v := .string ((repPut e n (cutW d) (fewT l) a).1)) (y_mv rfl) rfl rfl rfl ?_)
  have h32 : (repPut e n (cutW d) (fewT l) a).1 = (⟨#[]⟩ : ByteArray) := by rw [rpy_bad h31]
  refine st_on 59 rfl rfl rfl (o_y (v := .bool true) (y_b (y_k (v := .bool (((repPut e n (cutW d) (fewT l) a).1).toList == (⟨#[]⟩ : ByteArray).toList)) rfl rfl (fun _ => by kernel_rfl)) (str_t h32)) rfl rfl rfl ?_)
  refine st_on 56 rfl rfl rfl (o_y (v := .bool true) (y_pick rfl rfl) rfl rfl rfl ?_)
  refine s_y rfl (v := .bool true) (y_pick rfl rfl) rfl ?_
  refine s_y rfl (v := .bool true) (y_mv rfl) rfl ?_
  refine st_on 64 rfl rfl rfl (o_y (v := .int .i64 ((repGet (cutW s)).2.2.2.2.2)) (y_mv rfl) rfl rfl rfl ?_)
  refine e_by ((repGet (cutW s)).2.2.2.2.2 = 0) (fun h33 => ?_) (fun h33 => ?_)
  ·
   refine st_on 64 rfl rfl rfl (o_y (v := .bool false) (y_nt (y_k (v := .bool (!decide ((repGet (cutW s)).2.2.2.2.2 = 0))) rfl rfl (fun _ => by kernel_rfl)) h33) rfl rfl rfl ?_)
   refine st_on 64 rfl rfl rfl (o_y (v := .bool false) (y_mv rfl) rfl rfl rfl ?_)
   refine st_on 67 rfl rfl rfl (o_y (v := .int .i64 ((repPut ((repGet (cutW s)).1) ((repGet (cutW s)).2.1) ((repGet (cutW s)).2.2.1) ((repGet (cutW s)).2.2.2.1) ((repGet (cutW s)).2.2.2.2.1)).2)) (y_mv rfl) rfl rfl rfl ?_)
   have h34 : (repPut ((repGet (cutW s)).1) ((repGet (cutW s)).2.1) ((repGet (cutW s)).2.2.1) ((repGet (cutW s)).2.2.2.1) ((repGet (cutW s)).2.2.2.2.1)).2 = 0 := by rw [rep_forth h33]
   refine st_on 67 rfl rfl rfl (o_y (v := .bool true) (y_t (y_k (v := .bool (decide ((repPut ((repGet (cutW s)).1) ((repGet (cutW s)).2.1) ((repGet (cutW s)).2.2.1) ((repGet (cutW s)).2.2.2.1) ((repGet (cutW s)).2.2.2.2.1)).2 = 0))) rfl rfl (fun _ => by kernel_rfl)) h34) rfl rfl rfl ?_)
   refine st_on 67 rfl rfl rfl (o_y (v := .bool true) (y_mv rfl) rfl rfl rfl ?_)
   refine st_on 70 rfl rfl rfl (o_y (v := .string ((repPut ((repGet (cutW s)).1) ((repGet (cutW s)).2.1) ((repGet (cutW s)).2.2.1) ((repGet (cutW s)).2.2.2.1) ((repGet (cutW s)).2.2.2.2.1)).1)) (y_mv rfl) rfl rfl rfl ?_)
   refine st_on 70 rfl rfl rfl (o_y (v := .string s) (y_mv rfl) rfl rfl rfl ?_)
   refine st_on 70 rfl rfl rfl (o_call [] [] (cutw_ s (by first | omega | assumption)) rfl rfl rfl rfl rfl rfl (fun v L' I' hq13 => ?_))
   obtain ⟨rfl, rfl, rfl⟩ := hq13
   have h35 : (repPut ((repGet (cutW s)).1) ((repGet (cutW s)).2.1) ((repGet (cutW s)).2.2.1) ((repGet (cutW s)).2.2.2.1) ((repGet (cutW s)).2.2.2.2.1)).1 = cutW s := by rw [rep_forth h33]
   refine st_on 70 rfl rfl rfl (o_y (v := .bool true) (y_b (y_k (v := .bool (((repPut ((repGet (cutW s)).1) ((repGet (cutW s)).2.1) ((repGet (cutW s)).2.2.1) ((repGet (cutW s)).2.2.2.1) ((repGet (cutW s)).2.2.2.2.1)).1).toList == (cutW s).toList)) rfl rfl (fun _ => by kernel_rfl)) (str_t h35)) rfl rfl rfl ?_)
   refine st_on 67 rfl rfl rfl (o_y (v := .bool true) (y_pick rfl rfl) rfl rfl rfl ?_)
   refine st_on 64 rfl rfl rfl (o_y (v := .bool true) (y_pick rfl rfl) rfl rfl rfl ?_)
   refine s_y rfl (v := .bool true) (y_pick rfl rfl) rfl ?_
   refine s_y rfl (v := .bool true) (y_as rfl) rfl ?_
   refine s_nil (q_then (c_ret ?_))
   refine c_fin (I' := []) [] [0, 1, 2, 3, 4, 5, 6, 7, 8, 9] rfl (.tmp rfl .nil) rfl rfl rfl ?_
   exact ⟨rfl, rfl, rfl⟩
  ·
   refine st_on 64 rfl rfl rfl (o_y (v := .bool true) (y_nf (y_k (v := .bool (!decide ((repGet (cutW s)).2.2.2.2.2 = 0))) rfl rfl (fun _ => by kernel_rfl)) h33) rfl rfl rfl ?_)
   refine st_on 64 rfl rfl rfl (o_y (v := .bool true) (y_mv rfl) rfl rfl rfl ?_)
   refine st_off 67 rfl rfl rfl rfl rfl rfl ?_
   refine st_off 67 rfl rfl rfl rfl rfl rfl ?_
   refine st_off 67 rfl rfl rfl rfl rfl rfl ?_
   refine st_offu 70 rfl rfl rfl rfl rfl ?_
   refine st_offu 70 rfl rfl rfl rfl rfl ?_
   refine st_offu 70 rfl rfl rfl rfl rfl ?_
   refine st_offu 70 rfl rfl rfl rfl rfl ?_
   refine st_off 67 rfl rfl rfl rfl rfl rfl ?_
   refine st_on 64 rfl rfl rfl (o_y (v := .bool true) (y_pick rfl rfl) rfl rfl rfl ?_)
   refine s_y rfl (v := .bool true) (y_pick rfl rfl) rfl ?_
   refine s_y rfl (v := .bool true) (y_as rfl) rfl ?_
   refine s_nil (q_then (c_ret ?_))
   refine c_fin (I' := []) [] [0, 1, 2, 3, 4, 5, 6, 7, 8, 9] rfl (.tmp rfl .nil) rfl rfl rfl ?_
   exact ⟨rfl, rfl, rfl⟩
end Go.Proofs.YtcnncdniibkjkaaDoor
