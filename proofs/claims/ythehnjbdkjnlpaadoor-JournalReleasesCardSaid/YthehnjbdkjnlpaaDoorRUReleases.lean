/- The laws of chapter 15 (journal), walked over the given program; no condition but what stands in each theorem: part UReleases. -/
import Derived.Test.YthehnjbdkjnlpaaDoorRJH
import Derived.Test.YthehnjbdkjnlpaaDoorRKB
import Derived.Test.YthehnjbdkjnlpaaDoorRLQ
import Derived.Test.YthehnjbdkjnlpaaDoorRLR
set_option linter.unusedVariables false
set_option linter.unusedSimpArgs false
set_option maxRecDepth 100000
set_option maxHeartbeats 8000000
namespace Go.Proofs.YthehnjbdkjnlpaaDoor
open Go Go.Sl Go.RowKit Go.Extern.Stop Go.Stop Go.Extern
theorem JournalReleases_ (ef : Addr) (es : Addr) (B : Option Addr) (d : Nat) (rules : List Rul) (A : Option Addr) (c : Nat) (l : List Jen) (stp : Int) (cur : Lab) (id : Int) (da : ByteArray) (hbr : ∀ y ∈ rules, y.wh.fm.size ≤ 9223372036854775807) (hbl : ∀ y ∈ l, y.da.size ≤ 9223372036854775807) (hzda : da.size ≤ 9223372036854775807) : Con Tryd.prog 3 [.slice B rules.length d, .slice A l.length c, .int .i64 stp, .agg #[.int .i64 cur.lv, .int .u64 (cur.cs : Int), .int .i64 cur.ig], .int .i64 id, .string da] [] [rd rulTy B d rules, rd entTy A c l, cellsAt 2 0 [.iface 154 (.pointer (some ef))], cellsAt 0 0 [.iface 154 (.pointer (some es))], errAt ef, errAt es, cellsAt 1 0 [.iface 121 (.agg #[.pointer (some ⟨4, 57, none⟩)])]] (fun v L' I' => v = .bool true ∧ L' = [] ∧ I' = []) := by
 have hl1 := fewJ_len l
 have hl2 := fewJ_sm l
 have hr1 := fewL_len rules
 have hr2 := fewL_sm rules
 have hd1 := cutD_size da
 have ha1 := rel_len (fewL rules) (fewJ l) stp cur id (cutD da)
 have ha2 : ∀ y ∈ (relF (fewL rules) (fewJ l) stp cur id (cutD da)).1, jenSm y := rel_sm hl2 (by omega)
 refine fn_of Tryd.func3 rfl Tryd.ntmps3 (by kernel_rfl) rfl (fun C => ?_)
 refine c_seq (c_region ?_)
 refine st rfl (o_box (cs := [.int .i64 cur.lv, .int .u64 (cur.cs : Int), .int .i64 cur.ig]) (T := 26) rfl rfl rfl rfl (fun _ => by kernel_rfl) (fun b1 => ?_))
 refine s_y rfl (v := .bool false) (y_as rfl) rfl ?_
 refine s_nil (q_then (c_seq (c_region ?_)))
 refine st rfl (o_call [] [2, 3, 4, 5, 6] (shown_ ef es) rfl rfl rfl rfl rfl rfl (fun v L' I' hq1 => ?_))
 obtain ⟨rfl, rfl, rfl⟩ := hq1
 refine s_y rfl (v := .bool true) (y_as rfl) rfl ?_
 refine s_nil (q_then (c_seq (c_region ?_)))
 refine s_y rfl (v := .slice B rules.length d) (y_mv rfl) rfl ?_
 refine st rfl (o_call [] [0] (fewl_ B d rules (by assumption)) rfl rfl rfl rfl rfl rfl (fun v L' I' hq2 => ?_))
 obtain ⟨A1, c1, rfl, rfl, rfl⟩ := hq2
 refine s_y rfl (v := .slice A1 (fewL rules).length c1) (y_as rfl) rfl ?_
 refine s_nil (q_then (c_seq (c_region ?_)))
 refine s_y rfl (v := .slice A l.length c) (y_mv rfl) rfl ?_
 refine st rfl (o_call [] [2] (fewj_ A c l (by assumption)) rfl rfl rfl rfl rfl rfl (fun v L' I' hq3 => ?_))
 obtain ⟨A2, c2, rfl, rfl, rfl⟩ := hq3
 refine s_y rfl (v := .slice A2 (fewJ l).length c2) (y_as rfl) rfl ?_
 refine s_nil (q_then (c_seq ?_))
 refine c_draw (l := ticked 13 0) [(⟨b1, 0, none⟩, .int .i64 cur.lv), (⟨b1, 1, none⟩, .int .u64 (cur.cs : Int)), (⟨b1, 2, none⟩, .int .i64 cur.ig)] [] (by kernel_rfl) rfl rfl ?_
 refine b_y (i := 0) (v := .slice A1 (fewL rules).length c1) (ticked 13 1) rfl rfl (by exact y_mv rfl) ?_
 refine b_y (i := 1) (v := .slice A2 (fewJ l).length c2) (ticked 13 3) rfl rfl (by exact y_mv rfl) ?_
 refine b_y (i := 2) (v := .int .i64 stp) (ticked 13 7) rfl rfl (by exact y_mv rfl) ?_
 refine b_y (i := 4) (v := .int .i64 id) (ticked 13 23) rfl rfl (by exact y_mv rfl) ?_
 refine b_y (i := 5) (v := .string da) (ticked 13 55) rfl rfl (by exact y_mv rfl) ?_
 refine a_held (i := 3) (ticked 13 63) rfl (by as_aux_lemma => kernel_rfl) rfl rfl rfl (held_pt 0 rfl rfl (held_pt 0 rfl rfl (held_pt 0 rfl rfl held_nil))) (h_ldn (vs := [.int .i64 cur.lv, .int .u64 (cur.cs : Int), .int .i64 cur.ig]) 0 3 rfl rfl rfl Tryd.underlying26 rfl (by kernel_rfl) (by kernel_rfl)) ?_
 refine a_each (rs := [6]) (by as_aux_lemma => kernel_rfl) (.cons (ticked 13 127) rfl rfl rfl (o_call [] [] (cutd_ da (by omega)) rfl rfl rfl rfl rfl rfl (fun v L' I' hq4 => ?_)) .nil) (List.cons_ne_nil _ _)
 obtain ⟨rfl, rfl, rfl⟩ := hq4
 refine a_and (held_pt 0 rfl rfl (held_pt 0 rfl rfl (held_pt 0 rfl rfl held_nil))) ?_
 refine a_each (rs := [7]) (by as_aux_lemma => kernel_rfl) (.cons (ticked 13 255) rfl rfl rfl (o_call [] [1, 0, 4, 6, 5, 7, 8] (jRelease_ A1 c1 (fewL rules) A2 c2 (fewJ l) stp cur id (cutD da) ef es (by first | omega | (simp; done) | (simp; omega) | assumption) (by assumption) (by first | omega | (simp; done) | (simp; omega) | assumption) (by assumption) (by first | omega | assumption)) rfl rfl rfl rfl rfl rfl (fun v L' I' hq5 => ?_)) .nil) (List.cons_ne_nil _ _)
 obtain ⟨A3, c3, rfl, rfl, rfl⟩ := hq5
 refine a_and (held_pt 1 rfl rfl (held_pt 1 rfl rfl (held_pt 1 rfl rfl held_nil))) ?_
 refine b_y (i := 8) (v := .tuple #[.slice A3 ((relF (fewL rules) (fewJ l) stp cur id (cutD da)).1).length c3, .int .i64 ((relF (fewL rules) (fewJ l) stp cur id (cutD da)).2)]) (ticked 13 511) rfl rfl (by exact y_mv rfl) ?_
 refine b_y (i := 9) (v := .slice A3 ((relF (fewL rules) (fewJ l) stp cur id (cutD da)).1).length c3) (ticked 13 1023) rfl rfl (by exact y_k rfl rfl (fun _ => by kernel_rfl)) ?_
 refine b_y (i := 10) (v := .int .i64 ((relF (fewL rules) (fewJ l) stp cur id (cutD da)).2)) (ticked 13 2047) rfl rfl (by exact y_k rfl rfl (fun _ => by kernel_rfl)) ?_
 refine b_y (i := 11) (v := .slice A3 ((relF (fewL rules) (fewJ l) stp cur id (cutD da)).1).length c3) (ticked 13 4095) rfl rfl (by exact y_as rfl) ?_
 refine b_y (i := 12) (v := .int .i64 ((relF (fewL rules) (fewJ l) stp cur id (cutD da)).2)) (ticked 13 8191) rfl rfl (by exact y_as rfl) ?_
 refine a_done (by as_aux_lemma => kernel_rfl) ?_
 refine q_then (c_seq ?_)
 refine c_draw (l := ticked 13 0) [(⟨b1, 0, none⟩, .int .i64 cur.lv), (⟨b1, 1, none⟩, .int .u64 (cur.cs : Int)), (⟨b1, 2, none⟩, .int .i64 cur.ig)] [] (by kernel_rfl) rfl rfl ?_
 refine b_y (i := 0) (v := .slice A1 (fewL rules).length c1) (ticked 13 1) rfl rfl (by exact y_mv rfl) ?_
 refine b_y (i := 1) (v := .slice A2 (fewJ l).length c2) (ticked 13 3) rfl rfl (by exact y_mv rfl) ?_
 refine b_y (i := 2) (v := .int .i64 stp) (ticked 13 7) rfl rfl (by exact y_mv rfl) ?_
 refine b_y (i := 4) (v := .int .i64 id) (ticked 13 23) rfl rfl (by exact y_mv rfl) ?_
 refine b_y (i := 5) (v := .string da) (ticked 13 55) rfl rfl (by exact y_mv rfl) ?_
 refine a_held (i := 3) (ticked 13 63) rfl (by as_aux_lemma => kernel_rfl) rfl rfl rfl (held_pt 1 rfl rfl (held_pt 1 rfl rfl (held_pt 1 rfl rfl held_nil))) (h_ldn (vs := [.int .i64 cur.lv, .int .u64 (cur.cs : Int), .int .i64 cur.ig]) 0 3 rfl rfl rfl Tryd.underlying26 rfl (by kernel_rfl) (by kernel_rfl)) ?_
 refine a_each (rs := [6]) (by as_aux_lemma => kernel_rfl) (.cons (ticked 13 127) rfl rfl rfl (o_call [] [] (cutd_ da (by omega)) rfl rfl rfl rfl rfl rfl (fun v L' I' hq6 => ?_)) .nil) (List.cons_ne_nil _ _)
 obtain ⟨rfl, rfl, rfl⟩ := hq6
 refine a_and (held_pt 1 rfl rfl (held_pt 1 rfl rfl (held_pt 1 rfl rfl held_nil))) ?_
 refine a_each (rs := [7]) (by as_aux_lemma => kernel_rfl) (.cons (ticked 13 255) rfl rfl rfl (o_call [] [1, 0] (rRelease_ A1 c1 (fewL rules) A2 c2 (fewJ l) stp cur id (cutD da) (by first | omega | (simp; done) | (simp; omega) | assumption) (by assumption) (by first | omega | (simp; done) | (simp; omega) | assumption) (by assumption) (by first | omega | assumption)) rfl rfl rfl rfl rfl rfl (fun v L' I' hq7 => ?_)) .nil) (List.cons_ne_nil _ _)
 obtain ⟨A4, c4, rfl, rfl, rfl⟩ := hq7
 refine a_and (held_pt 1 rfl rfl (held_pt 1 rfl rfl (held_pt 1 rfl rfl held_nil))) ?_
 refine b_y (i := 8) (v := .tuple #[.slice A4 ((relF (fewL rules) (fewJ l) stp cur id (cutD da)).1).length c4, .int .i64 ((relF (fewL rules) (fewJ l) stp cur id (cutD da)).2)]) (ticked 13 511) rfl rfl (by exact y_mv rfl) ?_
 refine b_y (i := 9) (v := .slice A4 ((relF (fewL rules) (fewJ l) stp cur id (cutD da)).1).length c4) (ticked 13 1023) rfl rfl (by exact y_k rfl rfl (fun _ => by kernel_rfl)) ?_
 refine b_y (i := 10) (v := .int .i64 ((relF (fewL rules) (fewJ l) stp cur id (cutD da)).2)) (ticked 13 2047) rfl rfl (by exact y_k rfl rfl (fun _ => by kernel_rfl)) ?_
 refine b_y (i := 11) (v := .slice A4 ((relF (fewL rules) (fewJ l) stp cur id (cutD da)).1).length c4) (ticked 13 4095) rfl rfl (by exact y_as rfl) ?_
 refine b_y (i := 12) (v := .int .i64 ((relF (fewL rules) (fewJ l) stp cur id (cutD da)).2)) (ticked 13 8191) rfl rfl (by exact y_as rfl) ?_
 refine a_done (by as_aux_lemma => kernel_rfl) ?_
 refine q_then (c_seq (c_region ?_))
 refine s_y rfl (v := .bool true) (y_mv rfl) rfl ?_
 refine s_y rfl (v := .bool true) (y_mv rfl) rfl ?_
 refine st_on 46 rfl rfl rfl (o_y (v := .slice A3 ((relF (fewL rules) (fewJ l) stp cur id (cutD da)).1).length c3) (y_mv rfl) rfl rfl rfl ?_)
 refine st_on 46 rfl rfl rfl (o_y (v := .slice A4 ((relF (fewL rules) (fewJ l) stp cur id (cutD da)).1).length c4) (y_mv rfl) rfl rfl rfl ?_)
 refine st_on 46 rfl rfl rfl (o_lend [0] [] [0] (jrSame_ A3 c3 ((relF (fewL rules) (fewJ l) stp cur id (cutD da)).1) A4 c4 ((relF (fewL rules) (fewJ l) stp cur id (cutD da)).1) (by first | omega | (simp; done) | (simp; omega) | assumption)) (.cons lend_win .nil) rfl rfl rfl rfl rfl rfl rfl rfl (fun v L' I' hq8 => ?_))
 obtain ⟨hv1, rfl, rfl⟩ := hq8
 refine ⟨rfl, ?_⟩
 obtain rfl : v = .bool true := by rw [hv1, decide_eq_true (show ((relF (fewL rules) (fewJ l) stp cur id (cutD da)).1) = ((relF (fewL rules) (fewJ l) stp cur id (cutD da)).1) from rfl)]
 refine s_y rfl (v := .bool true) (y_pick rfl rfl) rfl ?_
 refine s_y rfl (v := .bool true) (y_mv rfl) rfl ?_
 refine st_on 51 rfl rfl rfl (o_y (v := .int .i64 ((relF (fewL rules) (fewJ l) stp cur id (cutD da)).2)) (y_mv rfl) rfl rfl rfl ?_)
 refine st_on 51 rfl rfl rfl (o_y (v := .int .i64 ((relF (fewL rules) (fewJ l) stp cur id (cutD da)).2)) (y_mv rfl) rfl rfl rfl ?_)
 have h1 : (relF (fewL rules) (fewJ l) stp cur id (cutD da)).2 = (relF (fewL rules) (fewJ l) stp cur id (cutD da)).2 := rfl
 refine st_on 51 rfl rfl rfl (o_y (v := .bool true) (y_t (y_k (v := .bool (decide ((relF (fewL rules) (fewJ l) stp cur id (cutD da)).2 = (relF (fewL rules) (fewJ l) stp cur id (cutD da)).2))) rfl rfl (fun _ => by kernel_rfl)) h1) rfl rfl rfl ?_)
 refine s_y rfl (v := .bool true) (y_pick rfl rfl) rfl ?_
 refine s_y rfl (v := .bool true) (y_as rfl) rfl ?_
 refine s_nil (q_then (c_ret ?_))
 refine c_fin (I' := []) [] [3, 4, 5, 6, 7, 8, 9] rfl (.tmp rfl .nil) rfl rfl rfl ?_
 exact ⟨rfl, rfl, rfl⟩
end Go.Proofs.YthehnjbdkjnlpaaDoor
