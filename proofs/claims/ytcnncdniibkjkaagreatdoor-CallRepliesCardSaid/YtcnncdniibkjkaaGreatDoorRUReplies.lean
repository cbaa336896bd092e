/- The laws of chapter 17 (call), walked over the given program; no condition but what stands in each theorem: part UReplies. -/
import Derived.Test.YtcnncdniibkjkaaGreatDoorRCQ
import Derived.Test.YtcnncdniibkjkaaGreatDoorRLPI
import Derived.Test.YtcnncdniibkjkaaGreatDoorRRAA
set_option linter.unusedVariables false
set_option linter.unusedSimpArgs false
set_option maxRecDepth 100000
set_option maxHeartbeats 8000000
namespace Go.Proofs.YtcnncdniibkjkaaGreatDoor
open Go Go.Sl Go.RowKit Go.Extern.Stop Go.Stop Go.Extern
theorem CallReplies_ (ea : Addr) (em : Addr) (ef : Addr) (el : Addr) (h12 : ea ≠ em) (h13 : ea ≠ ef) (h23 : em ≠ ef) (e : Int) (n : Int) (d : ByteArray) (A : Option Addr) (c : Nat) (l : List ByteArray) (a : Lab) (s : ByteArray) (e' : Int) (n' : Int) (d' : ByteArray) (B : Option Addr) (k : Nat) (r : List ByteArray) (a' : Lab) (hzd : d.size ≤ 9223372036854775807) (hzt : ∀ t ∈ l, t.size ≤ 9223372036854775807) (h6a : lab64 a) (hen : e ≤ 9223372036854775807 ∧ n ≤ 9223372036854775807) (hzd' : d'.size ≤ 9223372036854775807) (hzt' : ∀ t ∈ r, t.size ≤ 9223372036854775807) (h6a' : lab64 a') (hen' : e' ≤ 9223372036854775807 ∧ n' ≤ 9223372036854775807) (hzs : s.size ≤ 9223372036854775807) : Con Tryz.prog 4 [.agg #[.int .i64 e, .int .i64 n, .string d, .slice A l.length c, .int .i64 a.lv, .int .u64 (a.cs : Int), .int .i64 a.ig], .string s, .agg #[.int .i64 e', .int .i64 n', .string d', .slice B r.length k, .int .i64 a'.lv, .int .u64 (a'.cs : Int), .int .i64 a'.ig]] [] [rd strTy A c l, rd strTy B k r, cellsAt 2 0 [.iface 180 (.pointer (some ea))], cellsAt 3 0 [.iface 180 (.pointer (some em))], cellsAt 1 0 [.iface 180 (.pointer (some ef))], cellsAt 4 0 [.iface 180 (.pointer (some el))], errAt ea, errAt em, errAt ef, errAt el, cellsAt 0 0 [.iface 147 (.agg #[.pointer (some ⟨5, 48, none⟩)])]] (fun v L' I' => v = .bool true ∧ L' = [] ∧ I' = []) := by
 have f1 := fewT_len l
 have f2 := fewT_small l
 have f3 := cutW_size d
 have k1 := cutW_size s
 have g1 := repGet_small (Nat.le_trans k1 (by decide))
 refine fn_of Tryz.func4 rfl Tryz.ntmps4 (by kernel_rfl) rfl (fun C => ?_)
 refine c_seq (c_region ?_)
 refine st rfl (o_box (cs := [.int .i64 e, .int .i64 n, .string d, .slice A l.length c, .int .i64 a.lv, .int .u64 (a.cs : Int), .int .i64 a.ig]) (T := 39) rfl rfl rfl rfl (fun _ => by kernel_rfl) (fun b1 => ?_))
 refine st rfl (o_box (cs := [.int .i64 e', .int .i64 n', .string d', .slice B r.length k, .int .i64 a'.lv, .int .u64 (a'.cs : Int), .int .i64 a'.ig]) (T := 39) rfl rfl rfl rfl (fun _ => by kernel_rfl) (fun b2 => ?_))
 refine s_y rfl (v := .bool false) (y_as rfl) rfl ?_
 refine s_nil (q_then (c_seq (c_region ?_)))
 refine st rfl (o_call [] [2, 3, 4, 5, 6, 7, 8, 9, 10] (shown_ ea em ef el (by assumption) (by assumption) (by assumption)) rfl rfl rfl rfl rfl rfl (fun v L' I' hq1 => ?_))
 obtain ⟨rfl, rfl, rfl⟩ := hq1
 refine s_y rfl (v := .bool true) (y_as rfl) rfl ?_
 refine s_nil (q_then (c_seq (c_region ?_)))
 refine st rfl (o_ldn 1 7 rfl rfl rfl rfl Tryz.underlying39 rfl (by kernel_rfl) (by kernel_rfl) rfl ?_)
 refine st rfl (o_call [] [0] (fewr_ e n d A c l a (hzd) (hzt)) rfl rfl rfl rfl rfl rfl (fun v L' I' hq2 => ?_))
 obtain ⟨A1, c1, rfl, rfl, rfl⟩ := hq2
 refine st rfl (o_st 2 rfl rfl rfl rfl rfl (by kernel_rfl) (by kernel_rfl) rfl ?_)
 refine s_nil (q_then (c_seq (c_region ?_)))
 refine st rfl (o_ldn 1 7 rfl rfl rfl rfl Tryz.underlying39 rfl (by kernel_rfl) (by kernel_rfl) rfl ?_)
 refine st rfl (o_call [] [1] (fewr_ e' n' d' B k r a' (hzd') (hzt')) rfl rfl rfl rfl rfl rfl (fun v L' I' hq3 => ?_))
 obtain ⟨A2, c2, rfl, rfl, rfl⟩ := hq3
 refine st rfl (o_st 2 rfl rfl rfl rfl rfl (by kernel_rfl) (by kernel_rfl) rfl ?_)
 refine s_nil (q_then (c_seq (c_region ?_)))
 refine st rfl (o_ldn 3 7 rfl rfl rfl rfl Tryz.underlying39 rfl (by kernel_rfl) (by kernel_rfl) rfl ?_)
 refine st rfl (o_lend [1] [] [2, 3, 4, 6, 7, 8, 5, 9, 10] (repPut_ e n (cutW d) A1 c1 (fewT l) a ea em ef el (by assumption) (by assumption) (by assumption) (by omega) (f1) (f2) (h6a)) (.cons lend_ars .nil) rfl rfl rfl rfl rfl rfl rfl rfl (fun v L' I' hq4 => ?_))
 obtain ⟨rfl, rfl, rfl⟩ := hq4
 refine ⟨rfl, ?_⟩
 refine s_y rfl (v := .tuple #[.string ((repPut e n (cutW d) (fewT l) a).1), .int .i64 ((repPut e n (cutW d) (fewT l) a).2)]) (y_mv rfl) rfl ?_
 refine s_y rfl (v := .string ((repPut e n (cutW d) (fewT l) a).1)) (y_k rfl rfl (fun _ => by kernel_rfl)) rfl ?_
 refine s_y rfl (v := .int .i64 ((repPut e n (cutW d) (fewT l) a).2)) (y_k rfl rfl (fun _ => by kernel_rfl)) rfl ?_
 refine s_y rfl (v := .string ((repPut e n (cutW d) (fewT l) a).1)) (y_as rfl) rfl ?_
 refine s_y rfl (v := .int .i64 ((repPut e n (cutW d) (fewT l) a).2)) (y_as rfl) rfl ?_
 refine s_nil (q_then (c_seq (c_region ?_)))
 refine st rfl (o_ldn 3 7 rfl rfl rfl rfl Tryz.underlying39 rfl (by kernel_rfl) (by kernel_rfl) rfl ?_)
 refine st rfl (o_lend [0] [] [] (rrepPut_ e n (cutW d) A1 c1 (fewT l) a (by omega) (f1) (f2) (h6a)) (.cons lend_ars .nil) rfl rfl rfl rfl rfl rfl rfl rfl (fun v L' I' hq5 => ?_))
 obtain ⟨rfl, rfl, rfl⟩ := hq5
 refine ⟨rfl, ?_⟩
 refine s_y rfl (v := .tuple #[.string ((repPut e n (cutW d) (fewT l) a).1), .int .i64 ((repPut e n (cutW d) (fewT l) a).2)]) (y_mv rfl) rfl ?_
 refine s_y rfl (v := .string ((repPut e n (cutW d) (fewT l) a).1)) (y_k rfl rfl (fun _ => by kernel_rfl)) rfl ?_
 refine s_y rfl (v := .int .i64 ((repPut e n (cutW d) (fewT l) a).2)) (y_k rfl rfl (fun _ => by kernel_rfl)) rfl ?_
 refine s_y rfl (v := .string ((repPut e n (cutW d) (fewT l) a).1)) (y_as rfl) rfl ?_
 refine s_y rfl (v := .int .i64 ((repPut e n (cutW d) (fewT l) a).2)) (y_as rfl) rfl ?_
 refine s_nil (q_then (c_seq (c_region ?_)))
 refine s_y rfl (v := .string s) (y_mv rfl) rfl ?_
 refine st rfl (o_call [] [] (cutw_ s (by first | omega | assumption)) rfl rfl rfl rfl rfl rfl (fun v L' I' hq6 => ?_))
 obtain ⟨rfl, rfl, rfl⟩ := hq6
 refine st rfl (o_call [] [2, 3, 4, 6, 7, 8, 5, 9, 10] (repGet_ (cutW s) ea em ef el (by assumption) (by assumption) (by assumption) (by first | omega | assumption | decide)) rfl rfl rfl rfl rfl rfl (fun v L' I' hq7 => ?_))
 obtain ⟨A3, c3, rfl, rfl, rfl⟩ := hq7
 refine s_y rfl (v := .tuple #[.agg #[.int .i64 ((repGet (cutW s)).1), .int .i64 ((repGet (cutW s)).2.1), .string ((repGet (cutW s)).2.2.1), .slice A3 ((repGet (cutW s)).2.2.2.1).length c3, .int .i64 (((repGet (cutW s)).2.2.2.2.1).lv), .int .u64 (((repGet (cutW s)).2.2.2.2.1).cs : Int), .int .i64 (((repGet (cutW s)).2.2.2.2.1).ig)], .int .i64 ((repGet (cutW s)).2.2.2.2.2)]) (y_mv rfl) rfl ?_
 refine s_y rfl (v := .agg #[.int .i64 ((repGet (cutW s)).1), .int .i64 ((repGet (cutW s)).2.1), .string ((repGet (cutW s)).2.2.1), .slice A3 ((repGet (cutW s)).2.2.2.1).length c3, .int .i64 (((repGet (cutW s)).2.2.2.2.1).lv), .int .u64 (((repGet (cutW s)).2.2.2.2.1).cs : Int), .int .i64 (((repGet (cutW s)).2.2.2.2.1).ig)]) (y_k rfl rfl (fun _ => by kernel_rfl)) rfl ?_
 refine s_y rfl (v := .int .i64 ((repGet (cutW s)).2.2.2.2.2)) (y_k rfl rfl (fun _ => by kernel_rfl)) rfl ?_
 refine st rfl (o_box (cs := [.int .i64 0, .int .i64 0, .string (⟨#[]⟩ : ByteArray), .slice none 0 0, .int .i64 0, .int .u64 0, .int .i64 0]) (T := 39) rfl rfl rfl rfl (fun _ => by kernel_rfl) (fun b3 => ?_))
 refine st rfl (o_st 0 rfl rfl rfl rfl rfl (by kernel_rfl) (by kernel_rfl) rfl ?_)
 refine s_y rfl (v := .int .i64 ((repGet (cutW s)).2.2.2.2.2)) (y_as rfl) rfl ?_
 refine s_nil (q_then (c_seq (c_region ?_)))
 refine s_y rfl (v := .string s) (y_mv rfl) rfl ?_
 refine st rfl (o_call [] [] (cutw_ s (by first | omega | assumption)) rfl rfl rfl rfl rfl rfl (fun v L' I' hq8 => ?_))
 obtain ⟨rfl, rfl, rfl⟩ := hq8
 refine st rfl (o_call [] [] (rrepGet_ (cutW s) (by first | omega | assumption | decide)) rfl rfl rfl rfl rfl rfl (fun v L' I' hq9 => ?_))
 obtain ⟨A4, c4, rfl, rfl, rfl⟩ := hq9
 refine s_y rfl (v := .tuple #[.agg #[.int .i64 ((repGet (cutW s)).1), .int .i64 ((repGet (cutW s)).2.1), .string ((repGet (cutW s)).2.2.1), .slice A4 ((repGet (cutW s)).2.2.2.1).length c4, .int .i64 (((repGet (cutW s)).2.2.2.2.1).lv), .int .u64 (((repGet (cutW s)).2.2.2.2.1).cs : Int), .int .i64 (((repGet (cutW s)).2.2.2.2.1).ig)], .int .i64 ((repGet (cutW s)).2.2.2.2.2)]) (y_mv rfl) rfl ?_
 refine s_y rfl (v := .agg #[.int .i64 ((repGet (cutW s)).1), .int .i64 ((repGet (cutW s)).2.1), .string ((repGet (cutW s)).2.2.1), .slice A4 ((repGet (cutW s)).2.2.2.1).length c4, .int .i64 (((repGet (cutW s)).2.2.2.2.1).lv), .int .u64 (((repGet (cutW s)).2.2.2.2.1).cs : Int), .int .i64 (((repGet (cutW s)).2.2.2.2.1).ig)]) (y_k rfl rfl (fun _ => by kernel_rfl)) rfl ?_
 refine s_y rfl (v := .int .i64 ((repGet (cutW s)).2.2.2.2.2)) (y_k rfl rfl (fun _ => by kernel_rfl)) rfl ?_
 refine st rfl (o_box (cs := [.int .i64 0, .int .i64 0, .string (⟨#[]⟩ : ByteArray), .slice none 0 0, .int .i64 0, .int .u64 0, .int .i64 0]) (T := 39) rfl rfl rfl rfl (fun _ => by kernel_rfl) (fun b4 => ?_))
 refine st rfl (o_st 0 rfl rfl rfl rfl rfl (by kernel_rfl) (by kernel_rfl) rfl ?_)
 refine s_y rfl (v := .int .i64 ((repGet (cutW s)).2.2.2.2.2)) (y_as rfl) rfl ?_
 refine s_nil (q_then (c_seq ?_))
 refine e_stillw 1 rfl ?_
 refine e_stillw 2 rfl ?_
 refine e_still 2 rfl ?_
 refine e_still 2 rfl ?_
 refine c_draw (l := ticked 36 0) [(⟨b3, 0, none⟩, .int .i64 ((repGet (cutW s)).1)), (⟨b3, 1, none⟩, .int .i64 ((repGet (cutW s)).2.1)), (⟨b3, 2, none⟩, .string ((repGet (cutW s)).2.2.1)), (⟨b3, 3, none⟩, .slice A3 ((repGet (cutW s)).2.2.2.1).length c3), (⟨b3, 4, none⟩, .int .i64 (((repGet (cutW s)).2.2.2.2.1).lv)), (⟨b3, 5, none⟩, .int .u64 (((repGet (cutW s)).2.2.2.2.1).cs : Int)), (⟨b3, 6, none⟩, .int .i64 (((repGet (cutW s)).2.2.2.2.1).ig)), (⟨b4, 0, none⟩, .int .i64 ((repGet (cutW s)).1)), (⟨b4, 1, none⟩, .int .i64 ((repGet (cutW s)).2.1)), (⟨b4, 2, none⟩, .string ((repGet (cutW s)).2.2.1)), (⟨b4, 3, none⟩, .slice A4 ((repGet (cutW s)).2.2.2.1).length c4), (⟨b4, 4, none⟩, .int .i64 (((repGet (cutW s)).2.2.2.2.1).lv)), (⟨b4, 5, none⟩, .int .u64 (((repGet (cutW s)).2.2.2.2.1).cs : Int)), (⟨b4, 6, none⟩, .int .i64 (((repGet (cutW s)).2.2.2.2.1).ig)), (⟨b1, 0, none⟩, .int .i64 e), (⟨b1, 1, none⟩, .int .i64 n), (⟨b1, 2, none⟩, .string (cutW d)), (⟨b1, 3, none⟩, .slice A1 (fewT l).length c1), (⟨b1, 4, none⟩, .int .i64 a.lv), (⟨b1, 5, none⟩, .int .u64 (a.cs : Int)), (⟨b1, 6, none⟩, .int .i64 a.ig), (⟨b2, 0, none⟩, .int .i64 e'), (⟨b2, 1, none⟩, .int .i64 n'), (⟨b2, 2, none⟩, .string (cutW d')), (⟨b2, 3, none⟩, .slice A2 (fewT r).length c2), (⟨b2, 4, none⟩, .int .i64 a'.lv), (⟨b2, 5, none⟩, .int .u64 (a'.cs : Int)), (⟨b2, 6, none⟩, .int .i64 a'.ig)] [] (by kernel_rfl) rfl rfl ?_
 refine b_y (i := 0) (v := .bool true) (ticked 36 1) rfl rfl (by exact y_mv rfl) ?_
 refine b_y (i := 1) (v := .bool true) (ticked 36 3) rfl rfl (by exact y_mv rfl) ?_
 refine b_yo (i := 2) (v := .string ((repPut e n (cutW d) (fewT l) a).1)) 44 (ticked 36 7) rfl rfl rfl (by exact y_mv rfl) ?_
 refine b_yo (i := 3) (v := .string ((repPut e n (cutW d) (fewT l) a).1)) 44 (ticked 36 15) rfl rfl rfl (by exact y_mv rfl) ?_
 have h24 : (repPut e n (cutW d) (fewT l) a).1 = (repPut e n (cutW d) (fewT l) a).1 := rfl
 refine b_yo (i := 4) (v := .bool true) 44 (ticked 36 31) rfl rfl rfl (by exact y_b (y_k (v := .bool (((repPut e n (cutW d) (fewT l) a).1).toList == ((repPut e n (cutW d) (fewT l) a).1).toList)) rfl rfl (fun _ => by kernel_rfl)) (str_t h24)) ?_
 refine b_y (i := 5) (v := .bool true) (ticked 36 63) rfl rfl (by exact y_pick rfl rfl) ?_
 refine b_y (i := 6) (v := .bool true) (ticked 36 127) rfl rfl (by exact y_mv rfl) ?_
 refine b_yo (i := 7) (v := .int .i64 ((repPut e n (cutW d) (fewT l) a).2)) 49 (ticked 36 255) rfl rfl rfl (by exact y_mv rfl) ?_
 refine b_yo (i := 8) (v := .int .i64 ((repPut e n (cutW d) (fewT l) a).2)) 49 (ticked 36 511) rfl rfl rfl (by exact y_mv rfl) ?_
 have h25 : (repPut e n (cutW d) (fewT l) a).2 = (repPut e n (cutW d) (fewT l) a).2 := rfl
 refine b_yo (i := 9) (v := .bool true) 49 (ticked 36 1023) rfl rfl rfl (by exact y_t (y_k (v := .bool (decide ((repPut e n (cutW d) (fewT l) a).2 = (repPut e n (cutW d) (fewT l) a).2))) rfl rfl (fun _ => by kernel_rfl)) h25) ?_
 refine b_y (i := 10) (v := .bool true) (ticked 36 2047) rfl rfl (by exact y_pick rfl rfl) ?_
 refine b_y (i := 11) (v := .bool true) (ticked 36 4095) rfl rfl (by exact y_mv rfl) ?_
 refine a_held_on (i := 12) 54 (ticked 36 8191) rfl (by as_aux_lemma => kernel_rfl) rfl rfl rfl rfl rfl (held_pt 1 rfl rfl (held_pt 1 rfl rfl (held_pt 1 rfl rfl (held_pt 1 rfl rfl (held_pt 1 rfl rfl (held_pt 1 rfl rfl (held_pt 1 rfl rfl (held_pt 0 rfl rfl (held_pt 0 rfl rfl (held_pt 0 rfl rfl (held_pt 0 rfl rfl (held_pt 0 rfl rfl (held_pt 0 rfl rfl (held_pt 0 rfl rfl (held_pt 3 rfl rfl (held_pt 3 rfl rfl (held_pt 3 rfl rfl (held_pt 3 rfl rfl (held_pt 3 rfl rfl (held_pt 3 rfl rfl (held_pt 3 rfl rfl (held_pt 2 rfl rfl (held_pt 2 rfl rfl (held_pt 2 rfl rfl (held_pt 2 rfl rfl (held_pt 2 rfl rfl (held_pt 2 rfl rfl (held_pt 2 rfl rfl held_nil)))))))))))))))))))))))))))) (h_ldn (vs := [.int .i64 ((repGet (cutW s)).1), .int .i64 ((repGet (cutW s)).2.1), .string ((repGet (cutW s)).2.2.1), .slice A3 ((repGet (cutW s)).2.2.2.1).length c3, .int .i64 (((repGet (cutW s)).2.2.2.2.1).lv), .int .u64 (((repGet (cutW s)).2.2.2.2.1).cs : Int), .int .i64 (((repGet (cutW s)).2.2.2.2.1).ig)]) 0 7 rfl rfl rfl Tryz.underlying39 rfl (by kernel_rfl) (by kernel_rfl)) ?_
 refine a_held_on (i := 13) 54 (ticked 36 16383) rfl (by as_aux_lemma => kernel_rfl) rfl rfl rfl rfl rfl (held_pt 1 rfl rfl (held_pt 1 rfl rfl (held_pt 1 rfl rfl (held_pt 1 rfl rfl (held_pt 1 rfl rfl (held_pt 1 rfl rfl (held_pt 1 rfl rfl (held_pt 0 rfl rfl (held_pt 0 rfl rfl (held_pt 0 rfl rfl (held_pt 0 rfl rfl (held_pt 0 rfl rfl (held_pt 0 rfl rfl (held_pt 0 rfl rfl (held_pt 3 rfl rfl (held_pt 3 rfl rfl (held_pt 3 rfl rfl (held_pt 3 rfl rfl (held_pt 3 rfl rfl (held_pt 3 rfl rfl (held_pt 3 rfl rfl (held_pt 2 rfl rfl (held_pt 2 rfl rfl (held_pt 2 rfl rfl (held_pt 2 rfl rfl (held_pt 2 rfl rfl (held_pt 2 rfl rfl (held_pt 2 rfl rfl held_nil)))))))))))))))))))))))))))) (h_ldn (vs := [.int .i64 ((repGet (cutW s)).1), .int .i64 ((repGet (cutW s)).2.1), .string ((repGet (cutW s)).2.2.1), .slice A4 ((repGet (cutW s)).2.2.2.1).length c4, .int .i64 (((repGet (cutW s)).2.2.2.2.1).lv), .int .u64 (((repGet (cutW s)).2.2.2.2.1).cs : Int), .int .i64 (((repGet (cutW s)).2.2.2.2.1).ig)]) 7 7 rfl rfl rfl Tryz.underlying39 rfl (by kernel_rfl) (by kernel_rfl)) ?_
 refine a_each (rs := [14]) (by as_aux_lemma => kernel_rfl) (.on 54 (ticked 36 32767) rfl rfl rfl rfl rfl (o_call [] [2, 3] (rsameR_ ((repGet (cutW s)).1) ((repGet (cutW s)).2.1) ((repGet (cutW s)).2.2.1) A3 c3 ((repGet (cutW s)).2.2.2.1) ((repGet (cutW s)).2.2.2.2.1) ((repGet (cutW s)).1) ((repGet (cutW s)).2.1) ((repGet (cutW s)).2.2.1) A4 c4 ((repGet (cutW s)).2.2.2.1) ((repGet (cutW s)).2.2.2.2.1) (by first | (have := g1.2.1; omega) | omega)) rfl rfl rfl rfl rfl rfl (fun v L' I' hq10 => ?_)) .nil) (List.cons_ne_nil _ _)
 obtain ⟨hv1, rfl, rfl⟩ := hq10
 obtain rfl : v = .bool true := by rw [hv1, decide_eq_true (show repEq ((repGet (cutW s)).1) ((repGet (cutW s)).2.1) ((repGet (cutW s)).2.2.1) ((repGet (cutW s)).2.2.2.1) ((repGet (cutW s)).2.2.2.2.1) ((repGet (cutW s)).1) ((repGet (cutW s)).2.1) ((repGet (cutW s)).2.2.1) ((repGet (cutW s)).2.2.2.1) ((repGet (cutW s)).2.2.2.2.1) from ⟨rfl, rfl, rfl, rfl, rfl⟩)]
 refine a_and (held_pt 1 rfl rfl (held_pt 1 rfl rfl (held_pt 1 rfl rfl (held_pt 1 rfl rfl (held_pt 1 rfl rfl (held_pt 1 rfl rfl (held_pt 1 rfl rfl (held_pt 0 rfl rfl (held_pt 0 rfl rfl (held_pt 0 rfl rfl (held_pt 0 rfl rfl (held_pt 0 rfl rfl (held_pt 0 rfl rfl (held_pt 0 rfl rfl (held_pt 3 rfl rfl (held_pt 3 rfl rfl (held_pt 3 rfl rfl (held_pt 3 rfl rfl (held_pt 3 rfl rfl (held_pt 3 rfl rfl (held_pt 3 rfl rfl (held_pt 2 rfl rfl (held_pt 2 rfl rfl (held_pt 2 rfl rfl (held_pt 2 rfl rfl (held_pt 2 rfl rfl (held_pt 2 rfl rfl (held_pt 2 rfl rfl held_nil)))))))))))))))))))))))))))) ?_
 refine b_y (i := 15) (v := .bool true) (ticked 36 65535) rfl rfl (by exact y_pick rfl rfl) ?_
 refine b_y (i := 16) (v := .bool true) (ticked 36 131071) rfl rfl (by exact y_mv rfl) ?_
 refine b_yo (i := 17) (v := .int .i64 ((repGet (cutW s)).2.2.2.2.2)) 59 (ticked 36 262143) rfl rfl rfl (by exact y_mv rfl) ?_
 refine b_yo (i := 18) (v := .int .i64 ((repGet (cutW s)).2.2.2.2.2)) 59 (ticked 36 524287) rfl rfl rfl (by exact y_mv rfl) ?_
 have h26 : (repGet (cutW s)).2.2.2.2.2 = (repGet (cutW s)).2.2.2.2.2 := rfl
 refine b_yo (i := 19) (v := .bool true) 59 (ticked 36 1048575) rfl rfl rfl (by exact y_t (y_k (v := .bool (decide ((repGet (cutW s)).2.2.2.2.2 = (repGet (cutW s)).2.2.2.2.2))) rfl rfl (fun _ => by kernel_rfl)) h26) ?_
 refine b_y (i := 20) (v := .bool true) (ticked 36 2097151) rfl rfl (by exact y_pick rfl rfl) ?_
 refine b_y (i := 21) (v := .bool true) (ticked 36 4194303) rfl rfl (by exact y_mv rfl) ?_
 refine a_held_on (i := 22) 64 (ticked 36 8388607) rfl (by as_aux_lemma => kernel_rfl) rfl rfl rfl rfl rfl (held_pt 1 rfl rfl (held_pt 1 rfl rfl (held_pt 1 rfl rfl (held_pt 1 rfl rfl (held_pt 1 rfl rfl (held_pt 1 rfl rfl (held_pt 1 rfl rfl (held_pt 0 rfl rfl (held_pt 0 rfl rfl (held_pt 0 rfl rfl (held_pt 0 rfl rfl (held_pt 0 rfl rfl (held_pt 0 rfl rfl (held_pt 0 rfl rfl (held_pt 3 rfl rfl (held_pt 3 rfl rfl (held_pt 3 rfl rfl (held_pt 3 rfl rfl (held_pt 3 rfl rfl (held_pt 3 rfl rfl (held_pt 3 rfl rfl (held_pt 2 rfl rfl (held_pt 2 rfl rfl (held_pt 2 rfl rfl (held_pt 2 rfl rfl (held_pt 2 rfl rfl (held_pt 2 rfl rfl (held_pt 2 rfl rfl held_nil)))))))))))))))))))))))))))) (h_ldn (vs := [.int .i64 e, .int .i64 n, .string (cutW d), .slice A1 (fewT l).length c1, .int .i64 a.lv, .int .u64 (a.cs : Int), .int .i64 a.ig]) 14 7 rfl rfl rfl Tryz.underlying39 rfl (by kernel_rfl) (by kernel_rfl)) ?_
 refine a_held_on (i := 23) 64 (ticked 36 16777215) rfl (by as_aux_lemma => kernel_rfl) rfl rfl rfl rfl rfl (held_pt 1 rfl rfl (held_pt 1 rfl rfl (held_pt 1 rfl rfl (held_pt 1 rfl rfl (held_pt 1 rfl rfl (held_pt 1 rfl rfl (held_pt 1 rfl rfl (held_pt 0 rfl rfl (held_pt 0 rfl rfl (held_pt 0 rfl rfl (held_pt 0 rfl rfl (held_pt 0 rfl rfl (held_pt 0 rfl rfl (held_pt 0 rfl rfl (held_pt 3 rfl rfl (held_pt 3 rfl rfl (held_pt 3 rfl rfl (held_pt 3 rfl rfl (held_pt 3 rfl rfl (held_pt 3 rfl rfl (held_pt 3 rfl rfl (held_pt 2 rfl rfl (held_pt 2 rfl rfl (held_pt 2 rfl rfl (held_pt 2 rfl rfl (held_pt 2 rfl rfl (held_pt 2 rfl rfl (held_pt 2 rfl rfl held_nil)))))))))))))))))))))))))))) (h_ldn (vs := [.int .i64 e', .int .i64 n', .string (cutW d'), .slice A2 (fewT r).length c2, .int .i64 a'.lv, .int .u64 (a'.cs : Int), .int .i64 a'.ig]) 21 7 rfl rfl rfl Tryz.underlying39 rfl (by kernel_rfl) (by kernel_rfl)) ?_
 refine a_held_on (i := 25) 64 (ticked 36 50331647) rfl (by as_aux_lemma => kernel_rfl) rfl rfl rfl rfl rfl (held_pt 1 rfl rfl (held_pt 1 rfl rfl (held_pt 1 rfl rfl (held_pt 1 rfl rfl (held_pt 1 rfl rfl (held_pt 1 rfl rfl (held_pt 1 rfl rfl (held_pt 0 rfl rfl (held_pt 0 rfl rfl (held_pt 0 rfl rfl (held_pt 0 rfl rfl (held_pt 0 rfl rfl (held_pt 0 rfl rfl (held_pt 0 rfl rfl (held_pt 3 rfl rfl (held_pt 3 rfl rfl (held_pt 3 rfl rfl (held_pt 3 rfl rfl (held_pt 3 rfl rfl (held_pt 3 rfl rfl (held_pt 3 rfl rfl (held_pt 2 rfl rfl (held_pt 2 rfl rfl (held_pt 2 rfl rfl (held_pt 2 rfl rfl (held_pt 2 rfl rfl (held_pt 2 rfl rfl (held_pt 2 rfl rfl held_nil)))))))))))))))))))))))))))) (h_ldn (vs := [.int .i64 e, .int .i64 n, .string (cutW d), .slice A1 (fewT l).length c1, .int .i64 a.lv, .int .u64 (a.cs : Int), .int .i64 a.ig]) 14 7 rfl rfl rfl Tryz.underlying39 rfl (by kernel_rfl) (by kernel_rfl)) ?_
 refine a_held_on (i := 26) 64 (ticked 36 117440511) rfl (by as_aux_lemma => kernel_rfl) rfl rfl rfl rfl rfl (held_pt 1 rfl rfl (held_pt 1 rfl rfl (held_pt 1 rfl rfl (held_pt 1 rfl rfl (held_pt 1 rfl rfl (held_pt 1 rfl rfl (held_pt 1 rfl rfl (held_pt 0 rfl rfl (held_pt 0 rfl rfl (held_pt 0 rfl rfl (held_pt 0 rfl rfl (held_pt 0 rfl rfl (held_pt 0 rfl rfl (held_pt 0 rfl rfl (held_pt 3 rfl rfl (held_pt 3 rfl rfl (held_pt 3 rfl rfl (held_pt 3 rfl rfl (held_pt 3 rfl rfl (held_pt 3 rfl rfl (held_pt 3 rfl rfl (held_pt 2 rfl rfl (held_pt 2 rfl rfl (held_pt 2 rfl rfl (held_pt 2 rfl rfl (held_pt 2 rfl rfl (held_pt 2 rfl rfl (held_pt 2 rfl rfl held_nil)))))))))))))))))))))))))))) (h_ldn (vs := [.int .i64 e', .int .i64 n', .string (cutW d'), .slice A2 (fewT r).length c2, .int .i64 a'.lv, .int .u64 (a'.cs : Int), .int .i64 a'.ig]) 21 7 rfl rfl rfl Tryz.underlying39 rfl (by kernel_rfl) (by kernel_rfl)) ?_
 refine a_each (rs := [24]) (by as_aux_lemma => kernel_rfl) (.on 64 (ticked 36 134217727) rfl rfl rfl rfl rfl (o_call [] [1, 0] (sameR_ e n (cutW d) A1 c1 (fewT l) a e' n' (cutW d') A2 c2 (fewT r) a' (by first | (have := g1.2.1; omega) | omega)) rfl rfl rfl rfl rfl rfl (fun v L' I' hq11 => ?_)) .nil) (List.cons_ne_nil _ _)
 obtain ⟨hv2, rfl, rfl⟩ := hq11
 refine e_by (repEq e n (cutW d) (fewT l) a e' n' (cutW d') (fewT r) a') (fun h27 => ?_) (fun h27 => ?_)
 ·
  obtain rfl : v = .bool true := by rw [hv2, decide_eq_true h27]
  refine a_and (held_pt 1 rfl rfl (held_pt 1 rfl rfl (held_pt 1 rfl rfl (held_pt 1 rfl rfl (held_pt 1 rfl rfl (held_pt 1 rfl rfl (held_pt 1 rfl rfl (held_pt 0 rfl rfl (held_pt 0 rfl rfl (held_pt 0 rfl rfl (held_pt 0 rfl rfl (held_pt 0 rfl rfl (held_pt 0 rfl rfl (held_pt 0 rfl rfl (held_pt 3 rfl rfl (held_pt 3 rfl rfl (held_pt 3 rfl rfl (held_pt 3 rfl rfl (held_pt 3 rfl rfl (held_pt 3 rfl rfl (held_pt 3 rfl rfl (held_pt 2 rfl rfl (held_pt 2 rfl rfl (held_pt 2 rfl rfl (held_pt 2 rfl rfl (held_pt 2 rfl rfl (held_pt 2 rfl rfl (held_pt 2 rfl rfl held_nil)))))))))))))))))))))))))))) ?_
  refine a_each (rs := [27]) (by as_aux_lemma => kernel_rfl) (.on 64 (ticked 36 268435455) rfl rfl rfl rfl rfl (o_call [] [1, 0] (rsameR_ e n (cutW d) A1 c1 (fewT l) a e' n' (cutW d') A2 c2 (fewT r) a' (by first | (have := g1.2.1; omega) | omega)) rfl rfl rfl rfl rfl rfl (fun v L' I' hq12 => ?_)) .nil) (List.cons_ne_nil _ _)
  obtain ⟨hv3, rfl, rfl⟩ := hq12
  obtain rfl : v = .bool true := by rw [hv3, decide_eq_true (show repEq e n (cutW d) (fewT l) a e' n' (cutW d') (fewT r) a' from h27)]
  refine a_and (held_pt 1 rfl rfl (held_pt 1 rfl rfl (held_pt 1 rfl rfl (held_pt 1 rfl rfl (held_pt 1 rfl rfl (held_pt 1 rfl rfl (held_pt 1 rfl rfl (held_pt 0 rfl rfl (held_pt 0 rfl rfl (held_pt 0 rfl rfl (held_pt 0 rfl rfl (held_pt 0 rfl rfl (held_pt 0 rfl rfl (held_pt 0 rfl rfl (held_pt 3 rfl rfl (held_pt 3 rfl rfl (held_pt 3 rfl rfl (held_pt 3 rfl rfl (held_pt 3 rfl rfl (held_pt 3 rfl rfl (held_pt 3 rfl rfl (held_pt 2 rfl rfl (held_pt 2 rfl rfl (held_pt 2 rfl rfl (held_pt 2 rfl rfl (held_pt 2 rfl rfl (held_pt 2 rfl rfl (held_pt 2 rfl rfl held_nil)))))))))))))))))))))))))))) ?_
  refine b_yo (i := 28) (v := .bool true) 64 (ticked 36 536870911) rfl rfl rfl (by exact y_k rfl rfl (fun _ => by kernel_rfl)) ?_
  refine b_y (i := 29) (v := .bool true) (ticked 36 1073741823) rfl rfl (by exact y_pick rfl rfl) ?_
  refine b_y (i := 30) (v := .bool true) (ticked 36 2147483647) rfl rfl (by exact y_mv rfl) ?_
  refine a_held_on (i := 31) 73 (ticked 36 4294967295) rfl (by as_aux_lemma => kernel_rfl) rfl rfl rfl rfl rfl (held_pt 1 rfl rfl (held_pt 1 rfl rfl (held_pt 1 rfl rfl (held_pt 1 rfl rfl (held_pt 1 rfl rfl (held_pt 1 rfl rfl (held_pt 1 rfl rfl (held_pt 0 rfl rfl (held_pt 0 rfl rfl (held_pt 0 rfl rfl (held_pt 0 rfl rfl (held_pt 0 rfl rfl (held_pt 0 rfl rfl (held_pt 0 rfl rfl (held_pt 3 rfl rfl (held_pt 3 rfl rfl (held_pt 3 rfl rfl (held_pt 3 rfl rfl (held_pt 3 rfl rfl (held_pt 3 rfl rfl (held_pt 3 rfl rfl (held_pt 2 rfl rfl (held_pt 2 rfl rfl (held_pt 2 rfl rfl (held_pt 2 rfl rfl (held_pt 2 rfl rfl (held_pt 2 rfl rfl (held_pt 2 rfl rfl held_nil)))))))))))))))))))))))))))) (h_ldn (vs := [.int .i64 e, .int .i64 n, .string (cutW d), .slice A1 (fewT l).length c1, .int .i64 a.lv, .int .u64 (a.cs : Int), .int .i64 a.ig]) 14 7 rfl rfl rfl Tryz.underlying39 rfl (by kernel_rfl) (by kernel_rfl)) ?_
  refine a_held_on (i := 32) 73 (ticked 36 8589934591) rfl (by as_aux_lemma => kernel_rfl) rfl rfl rfl rfl rfl (held_pt 1 rfl rfl (held_pt 1 rfl rfl (held_pt 1 rfl rfl (held_pt 1 rfl rfl (held_pt 1 rfl rfl (held_pt 1 rfl rfl (held_pt 1 rfl rfl (held_pt 0 rfl rfl (held_pt 0 rfl rfl (held_pt 0 rfl rfl (held_pt 0 rfl rfl (held_pt 0 rfl rfl (held_pt 0 rfl rfl (held_pt 0 rfl rfl (held_pt 3 rfl rfl (held_pt 3 rfl rfl (held_pt 3 rfl rfl (held_pt 3 rfl rfl (held_pt 3 rfl rfl (held_pt 3 rfl rfl (held_pt 3 rfl rfl (held_pt 2 rfl rfl (held_pt 2 rfl rfl (held_pt 2 rfl rfl (held_pt 2 rfl rfl (held_pt 2 rfl rfl (held_pt 2 rfl rfl (held_pt 2 rfl rfl held_nil)))))))))))))))))))))))))))) (h_ldn (vs := [.int .i64 e, .int .i64 n, .string (cutW d), .slice A1 (fewT l).length c1, .int .i64 a.lv, .int .u64 (a.cs : Int), .int .i64 a.ig]) 14 7 rfl rfl rfl Tryz.underlying39 rfl (by kernel_rfl) (by kernel_rfl)) ?_
  refine a_each (rs := [33]) (by as_aux_lemma => kernel_rfl) (.on 73 (ticked 36 17179869183) rfl rfl rfl rfl rfl (o_call [] [1, 1] (sameR_ e n (cutW d) A1 c1 (fewT l) a e n (cutW d) A1 c1 (fewT l) a (by first | (have := g1.2.1; omega) | omega)) rfl rfl rfl rfl rfl rfl (fun v L' I' hq13 => ?_)) .nil) (List.cons_ne_nil _ _)
  obtain ⟨hv4, rfl, rfl⟩ := hq13
  obtain rfl : v = .bool true := by rw [hv4, decide_eq_true (show repEq e n (cutW d) (fewT l) a e n (cutW d) (fewT l) a from ⟨rfl, rfl, rfl, rfl, rfl⟩)]
  refine a_and (held_pt 1 rfl rfl (held_pt 1 rfl rfl (held_pt 1 rfl rfl (held_pt 1 rfl rfl (held_pt 1 rfl rfl (held_pt 1 rfl rfl (held_pt 1 rfl rfl (held_pt 0 rfl rfl (held_pt 0 rfl rfl (held_pt 0 rfl rfl (held_pt 0 rfl rfl (held_pt 0 rfl rfl (held_pt 0 rfl rfl (held_pt 0 rfl rfl (held_pt 3 rfl rfl (held_pt 3 rfl rfl (held_pt 3 rfl rfl (held_pt 3 rfl rfl (held_pt 3 rfl rfl (held_pt 3 rfl rfl (held_pt 3 rfl rfl (held_pt 2 rfl rfl (held_pt 2 rfl rfl (held_pt 2 rfl rfl (held_pt 2 rfl rfl (held_pt 2 rfl rfl (held_pt 2 rfl rfl (held_pt 2 rfl rfl held_nil)))))))))))))))))))))))))))) ?_
  refine b_y (i := 34) (v := .bool true) (ticked 36 34359738367) rfl rfl (by exact y_pick rfl rfl) ?_
  refine b_y (i := 35) (v := .bool true) (ticked 36 68719476735) rfl rfl (by exact y_as rfl) ?_
  refine a_done (by as_aux_lemma => kernel_rfl) ?_
  refine q_then (c_ret ?_)
  refine c_fin (I' := []) [] [4, 5, 6, 7, 8, 9, 10, 11, 12, 13, 14] rfl (.tmp rfl .nil) rfl rfl rfl ?_
  exact ⟨rfl, rfl, rfl⟩
 ·
  obtain rfl : v = .bool false := by rw [hv2, decide_eq_false h27]
  refine a_and (held_pt 1 rfl rfl (held_pt 1 rfl rfl (held_pt 1 rfl rfl (held_pt 1 rfl rfl (held_pt 1 rfl rfl (held_pt 1 rfl rfl (held_pt 1 rfl rfl (held_pt 0 rfl rfl (held_pt 0 rfl rfl (held_pt 0 rfl rfl (held_pt 0 rfl rfl (held_pt 0 rfl rfl (held_pt 0 rfl rfl (held_pt 0 rfl rfl (held_pt 3 rfl rfl (held_pt 3 rfl rfl (held_pt 3 rfl rfl (held_pt 3 rfl rfl (held_pt 3 rfl rfl (held_pt 3 rfl rfl (held_pt 3 rfl rfl (held_pt 2 rfl rfl (held_pt 2 rfl rfl (held_pt 2 rfl rfl (held_pt 2 rfl rfl (held_pt 2 rfl rfl (held_pt 2 rfl rfl (held_pt 2 rfl rfl held_nil)))))))))))))))))))))))))))) ?_
  refine a_each (rs := [27]) (by as_aux_lemma => kernel_rfl) (.on 64 (ticked 36 268435455) rfl rfl rfl rfl rfl (o_call [] [1, 0] (rsameR_ e n (cutW d) A1 c1 (fewT l) a e' n' (cutW d') A2 c2 (fewT r) a' (by first | (have := g1.2.1; omega) | omega)) rfl rfl rfl rfl rfl rfl (fun v L' I' hq14 => ?_)) .nil) (List.cons_ne_nil _ _)
  obtain ⟨hv5, rfl, rfl⟩ := hq14
  obtain rfl : v = .bool false := by rw [hv5, decide_eq_false (show ¬ (repEq e n (cutW d) (fewT l) a e' n' (cutW d') (fewT r) a') from h27)]
  refine a_and (held_pt 1 rfl rfl (held_pt 1 rfl rfl (held_pt 1 rfl rfl (held_pt 1 rfl rfl (held_pt 1 rfl rfl (held_pt 1 rfl rfl (held_pt 1 rfl rfl (held_pt 0 rfl rfl (held_pt 0 rfl rfl (held_pt 0 rfl rfl (held_pt 0 rfl rfl (held_pt 0 rfl rfl (held_pt 0 rfl rfl (held_pt 0 rfl rfl (held_pt 3 rfl rfl (held_pt 3 rfl rfl (held_pt 3 rfl rfl (held_pt 3 rfl rfl (held_pt 3 rfl rfl (held_pt 3 rfl rfl (held_pt 3 rfl rfl (held_pt 2 rfl rfl (held_pt 2 rfl rfl (held_pt 2 rfl rfl (held_pt 2 rfl rfl (held_pt 2 rfl rfl (held_pt 2 rfl rfl (held_pt 2 rfl rfl held_nil)))))))))))))))))))))))))))) ?_
  refine b_yo (i := 28) (v := .bool true) 64 (ticked 36 536870911) rfl rfl rfl (by exact y_k rfl rfl (fun _ => by kernel_rfl)) ?_
  refine b_y (i := 29) (v := .bool true) (ticked 36 1073741823) rfl rfl (by exact y_pick rfl rfl) ?_
  refine b_y (i := 30) (v := .bool true) (ticked 36 2147483647) rfl rfl (by exact y_mv rfl) ?_
  refine a_held_on (i := 31) 73 (ticked 36 4294967295) rfl (by as_aux_lemma => kernel_rfl) rfl rfl rfl rfl rfl (held_pt 1 rfl rfl (held_pt 1 rfl rfl (held_pt 1 rfl rfl (held_pt 1 rfl rfl (held_pt 1 rfl rfl (held_pt 1 rfl rfl (held_pt 1 rfl rfl (held_pt 0 rfl rfl (held_pt 0 rfl rfl (held_pt 0 rfl rfl (held_pt 0 rfl rfl (held_pt 0 rfl rfl (held_pt 0 rfl rfl (held_pt 0 rfl rfl (held_pt 3 rfl rfl (held_pt 3 rfl rfl (held_pt 3 rfl rfl (held_pt 3 rfl rfl (held_pt 3 rfl rfl (held_pt 3 rfl rfl (held_pt 3 rfl rfl (held_pt 2 rfl rfl (held_pt 2 rfl rfl (held_pt 2 rfl rfl (held_pt 2 rfl rfl (held_pt 2 rfl rfl (held_pt 2 rfl rfl (held_pt 2 rfl rfl held_nil)))))))))))))))))))))))))))) (h_ldn (vs := [.int .i64 e, .int .i64 n, .string (cutW d), .slice A1 (fewT l).length c1, .int .i64 a.lv, .int .u64 (a.cs : Int), .int .i64 a.ig]) 14 7 rfl rfl rfl Tryz.underlying39 rfl (by kernel_rfl) (by kernel_rfl)) ?_
  refine a_held_on (i := 32) 73 (ticked 36 8589934591) rfl (by as_aux_lemma => kernel_rfl) rfl rfl rfl rfl rfl (held_pt 1 rfl rfl (held_pt 1 rfl rfl (held_pt 1 rfl rfl (held_pt 1 rfl rfl (held_pt 1 rfl rfl (held_pt 1 rfl rfl (held_pt 1 rfl rfl (held_pt 0 rfl rfl (held_pt 0 rfl rfl (held_pt 0 rfl rfl (held_pt 0 rfl rfl (held_pt 0 rfl rfl (held_pt 0 rfl rfl (held_pt 0 rfl rfl (held_pt 3 rfl rfl (held_pt 3 rfl rfl (held_pt 3 rfl rfl (held_pt 3 rfl rfl (held_pt 3 rfl rfl (held_pt 3 rfl rfl (held_pt 3 rfl rfl (held_pt 2 rfl rfl (held_pt 2 rfl rfl (held_pt 2 rfl rfl (held_pt 2 rfl rfl (held_pt 2 rfl rfl (held_pt 2 rfl rfl (held_pt 2 rfl rfl held_nil)))))))))))))))))))))))))))) (h_ldn (vs := [.int .i64 e, .int .i64 n, .string (cutW d), .slice A1 (fewT l).length c1, .int .i64 a.lv, .int .u64 (a.cs : Int), .int .i64 a.ig]) 14 7 rfl rfl rfl Tryz.underlying39 rfl (by kernel_rfl) (by kernel_rfl)) ?_
  refine a_each (rs := [33]) (by as_aux_lemma => kernel_rfl) (.on 73 (ticked 36 17179869183) rfl rfl rfl rfl rfl (o_call [] [1, 1] (sameR_ e n (cutW d) A1 c1 (fewT l) a e n (cutW d) A1 c1 (fewT l) a (by first | (have := g1.2.1; omega) | omega)) rfl rfl rfl rfl rfl rfl (fun v L' I' hq15 => ?_)) .nil) (List.cons_ne_nil _ _)
  obtain ⟨hv6, rfl, rfl⟩ := hq15
  obtain rfl : v = .bool true := by rw [hv6, decide_eq_true (show repEq e n (cutW d) (fewT l) a e n (cutW d) (fewT l) a from ⟨rfl, rfl, rfl, rfl, rfl⟩)]
  refine a_and (held_pt 1 rfl rfl (held_pt 1 rfl rfl (held_pt 1 rfl rfl (held_pt 1 rfl rfl (held_pt 1 rfl rfl (held_pt 1 rfl rfl (held_pt 1 rfl rfl (held_pt 0 rfl rfl (held_pt 0 rfl rfl (held_pt 0 rfl rfl (held_pt 0 rfl rfl (held_pt 0 rfl rfl (held_pt 0 rfl rfl (held_pt 0 rfl rfl (held_pt 3 rfl rfl (held_pt 3 rfl rfl (held_pt 3 rfl rfl (held_pt 3 rfl rfl (held_pt 3 rfl rfl (held_pt 3 rfl rfl (held_pt 3 rfl rfl (held_pt 2 rfl rfl (held_pt 2 rfl rfl (held_pt 2 rfl rfl (held_pt 2 rfl rfl (held_pt 2 rfl rfl (held_pt 2 rfl rfl (held_pt 2 rfl rfl held_nil)))))))))))))))))))))))))))) ?_
  refine b_y (i := 34) (v := .bool true) (ticked 36 34359738367) rfl rfl (by exact y_pick rfl rfl) ?_
  refine b_y (i := 35) (v := .bool true) (ticked 36 68719476735) rfl rfl (by exact y_as rfl) ?_
  refine a_done (by as_aux_lemma => kernel_rfl) ?_
  refine q_then (c_ret ?_)
  refine c_fin (I' := []) [] [4, 5, 6, 7, 8, 9, 10, 11, 12, 13, 14] rfl (.tmp rfl .nil) rfl rfl rfl ?_
  exact ⟨rfl, rfl, rfl⟩
end Go.Proofs.YtcnncdniibkjkaaGreatDoor
