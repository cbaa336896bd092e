/- The six laws of chapter 18 (audit), walked over the given program; no condition but what stands in each theorem: part Nd. -/
import Derived.Test.YtdfgedkjilpcgaaDoorRM
import Derived.Test.YtdfgedkjilpcgaaDoorRNc
set_option linter.unusedVariables false
set_option linter.unusedSimpArgs false
set_option maxRecDepth 100000
set_option maxHeartbeats 8000000
namespace Go.Proofs.YtdfgedkjilpcgaaDoor
open Go Go.Sl Go.RowKit Go.Extern.Stop Go.Stop Go.Extern Go.Shelf
theorem AuditApart_ (A : Option Addr) (c : Nat) (l : List Rec) (x : Rec) (a : Lab) (el : Addr) (hm : ∀ y ∈ l, recSm y) (hx : recSm x) : Con Tryd.prog 5 [.slice A l.length c, .agg #[.int .i64 x.st, .int .i64 x.who, .int .i64 x.op, .int .i64 x.e, .int .i64 x.lab.lv, .int .u64 (x.lab.cs : Int), .int .i64 x.lab.ig], .agg #[.int .i64 a.lv, .int .u64 (a.cs : Int), .int .i64 a.ig]] [] [rd recTy A c l, cellsAt 0 0 [.iface 106 (.pointer (some el))], errAt el] (fun v L' I' => v = .bool true ∧ L' = [] ∧ I' = []) := by
  have hf := fewR_len l
  have hm1 := fewR_sm hm
  have hal := appF_len (fewR l) x
  have hm2 := appF_sm hm1 hx
  have hal2 : (appF (fewR l) x).1.length ≤ 100000 := by omega
  have hal3 : (appF (fewR l) x).1.length ≤ 1000000 := by omega
  have hs1 := shownF_len (appF (fewR l) x).1 a
  have hs2 := seenF_len (appF (fewR l) x).1 a
  refine fn_of Tryd.func5 rfl Tryd.ntmps5 (by kernel_rfl) rfl (fun C => ?_)
  refine c_seq ?_
  refine c_region ?_
  refine st rfl (o_box (cs := [.int .i64 x.st, .int .i64 x.who, .int .i64 x.op, .int .i64 x.e, .int .i64 x.lab.lv, .int .u64 (x.lab.cs : Int), .int .i64 x.lab.ig]) (T := 28) rfl rfl rfl rfl (fun _ => by kernel_rfl) (fun b1 => ?_))
  refine st rfl (o_box (cs := [.int .i64 a.lv, .int .u64 (a.cs : Int), .int .i64 a.ig]) (T := 26) rfl rfl rfl rfl (fun _ => by kernel_rfl) (fun b2 => ?_))
  refine st rfl (o_y (v := .bool false) (y_as rfl) rfl rfl rfl ?_)
  refine s_nil ?_
  refine q_then ?_
  refine c_seq ?_
  refine c_region ?_
  refine st rfl (o_call [] [1, 2] (shown_ el) rfl rfl rfl rfl rfl rfl (fun v L' I' hq1 => ?_))
  obtain ⟨rfl, rfl, rfl⟩ := hq1
  refine st rfl (o_y (v := .bool true) (y_as rfl) rfl rfl rfl ?_)
  refine s_nil ?_
  refine q_then ?_
  refine c_seq ?_
  refine c_region ?_
  refine st rfl (o_y (v := .slice A l.length c) (y_mv rfl) rfl rfl rfl ?_)
  refine st rfl (o_call [] [0] (Few_ A c l) rfl rfl rfl rfl rfl rfl (fun v L' I' hq2 => ?_))
  obtain ⟨A1, c1, rfl, rfl, rfl⟩ := hq2
  refine st rfl (o_y (v := .slice A1 (fewR l).length c1) (y_as rfl) rfl rfl rfl ?_)
  refine s_nil ?_
  refine q_then ?_
  refine c_seq ?_
  refine c_region ?_
  refine st rfl (o_y (v := .slice A1 (fewR l).length c1) (y_mv rfl) rfl rfl rfl ?_)
  refine st rfl (o_ldn 1 7 rfl rfl rfl rfl Tryd.underlying28 rfl (by kernel_rfl) (by kernel_rfl) rfl ?_)
  refine st rfl (o_call [] [0, 2, 3] (Append_ A1 c1 (fewR l) x el (by first | assumption | omega | (simp; done) | (simp; omega))) rfl rfl rfl rfl rfl rfl (fun v L' I' hq3 => ?_))
  obtain ⟨A2, c2, rfl, rfl, rfl⟩ := hq3
  refine st rfl (o_y (v := .tuple #[.slice A2 ((appF (fewR l) x).1).length c2, .int .i64 ((appF (fewR l) x).2)]) (y_mv rfl) rfl rfl rfl ?_)
  refine st rfl (o_y (v := .slice A2 ((appF (fewR l) x).1).length c2) (y_k rfl rfl (fun _ => by kernel_rfl)) rfl rfl rfl ?_)
  refine st rfl (o_y (v := .int .i64 ((appF (fewR l) x).2)) (y_k rfl rfl (fun _ => by kernel_rfl)) rfl rfl rfl ?_)
  refine st rfl (o_y (v := .slice A2 ((appF (fewR l) x).1).length c2) (y_as rfl) rfl rfl rfl ?_)
  refine st rfl (o_y (v := .int .i64 ((appF (fewR l) x).2)) (y_as rfl) rfl rfl rfl ?_)
  refine s_nil ?_
  refine q_then ?_
  refine c_seq ?_
  refine c_seq ?_
  refine c_region ?_
  refine st rfl (o_y (v := .int .i64 ((appF (fewR l) x).2)) (y_mv rfl) rfl rfl rfl ?_)
  refine e_by ((appF (fewR l) x).2 = 0) (fun h1 => ?_) (fun h1 => ?_)
  ·
    refine st rfl (o_y (v := .bool false) (y_b (y_k (v := .bool (((appF (fewR l) x).2) != 0)) rfl rfl (fun _ => by kernel_rfl)) (bne_eq_false_iff_eq.2 h1)) rfl rfl rfl ?_)
    refine s_nil ?_
    refine q_then ?_
    refine c_false rfl ?_
    refine c_skip ?_
    refine q_then ?_
    refine c_seq ?_
    refine c_draw (l := ticked 32 0) [(⟨b1, 4, none⟩, .int .i64 x.lab.lv), (⟨b1, 5, none⟩, .int .u64 (x.lab.cs : Int)), (⟨b1, 6, none⟩, .int .i64 x.lab.ig), (⟨b2, 0, none⟩, .int .i64 a.lv), (⟨b2, 1, none⟩, .int .u64 (a.cs : Int)), (⟨b2, 2, none⟩, .int .i64 a.ig)] [] (by kernel_rfl) rfl rfl ?_
    refine a_y (i := 0) (v := .bool true) (ticked 32 1) rfl (by as_aux_lemma => kernel_rfl) rfl rfl rfl (by exact y_mv rfl) ?_
    refine a_y (i := 1) (v := .bool true) (ticked 32 3) rfl (by as_aux_lemma => kernel_rfl) rfl rfl rfl (by exact y_mv rfl) ?_
    refine a_y_on (i := 2) (v := .pointer (some ⟨b1, 4, none⟩)) 23 (ticked 32 7) rfl (by as_aux_lemma => kernel_rfl) rfl rfl rfl rfl rfl (by exact y_k rfl rfl (fun _ => by kernel_rfl)) ?_
    refine a_held_on (i := 3) 23 (ticked 32 15) rfl (by as_aux_lemma => kernel_rfl) rfl rfl rfl rfl rfl (held_pt 1 rfl rfl (held_pt 1 rfl rfl (held_pt 1 rfl rfl (held_pt 0 rfl rfl (held_pt 0 rfl rfl (held_pt 0 rfl rfl held_nil)))))) (h_ldn (vs := [.int .i64 x.lab.lv, .int .u64 (x.lab.cs : Int), .int .i64 x.lab.ig]) 0 3 rfl rfl rfl Tryd.underlying26 rfl (by kernel_rfl) (by kernel_rfl)) ?_
    refine a_held_on (i := 4) 23 (ticked 32 31) rfl (by as_aux_lemma => kernel_rfl) rfl rfl rfl rfl rfl (held_pt 1 rfl rfl (held_pt 1 rfl rfl (held_pt 1 rfl rfl (held_pt 0 rfl rfl (held_pt 0 rfl rfl (held_pt 0 rfl rfl held_nil)))))) (h_ldn (vs := [.int .i64 a.lv, .int .u64 (a.cs : Int), .int .i64 a.ig]) 3 3 rfl rfl rfl Tryd.underlying26 rfl (by kernel_rfl) (by kernel_rfl)) ?_
    refine e_by (x.lab = a) (fun h2 => ?_) (fun h2 => ?_)
    ·
      refine a_y_on (i := 5) (v := .bool true) 23 (ticked 32 63) rfl (by as_aux_lemma => kernel_rfl) rfl rfl rfl rfl rfl (by exact y_t (y_bin rfl rfl (fun w => eq_Lab x.lab a w)) h2) ?_
      refine a_y_on (i := 6) (v := .bool true) 23 (ticked 32 127) rfl (by as_aux_lemma => kernel_rfl) rfl rfl rfl rfl rfl (by exact y_mv rfl) ?_
      refine a_off (i := 7) 28 (ticked 32 255) rfl (by as_aux_lemma => kernel_rfl) rfl rfl rfl rfl rfl rfl ?_
      refine a_off (i := 8) 28 (ticked 32 511) rfl (by as_aux_lemma => kernel_rfl) rfl rfl rfl rfl rfl rfl ?_
      refine a_off (i := 9) 28 (ticked 32 1023) rfl (by as_aux_lemma => kernel_rfl) rfl rfl rfl rfl rfl rfl ?_
      refine a_off (i := 10) 28 (ticked 32 2047) rfl (by as_aux_lemma => kernel_rfl) rfl rfl rfl rfl rfl rfl ?_
      refine a_off (i := 11) 28 (ticked 32 4095) rfl (by as_aux_lemma => kernel_rfl) rfl rfl rfl rfl rfl rfl ?_
      refine a_off (i := 12) 28 (ticked 32 8191) rfl (by as_aux_lemma => kernel_rfl) rfl rfl rfl rfl rfl rfl ?_
      refine a_off (i := 13) 28 (ticked 32 16383) rfl (by as_aux_lemma => kernel_rfl) rfl rfl rfl rfl rfl rfl ?_
      refine a_y_on (i := 14) (v := .bool true) 23 (ticked 32 32767) rfl (by as_aux_lemma => kernel_rfl) rfl rfl rfl rfl rfl (by exact y_pick rfl rfl) ?_
      refine a_y (i := 15) (v := .bool true) (ticked 32 65535) rfl (by as_aux_lemma => kernel_rfl) rfl rfl rfl (by exact y_pick rfl rfl) ?_
      refine a_y (i := 16) (v := .bool true) (ticked 32 131071) rfl (by as_aux_lemma => kernel_rfl) rfl rfl rfl (by exact y_mv rfl) ?_
      refine a_y_on (i := 17) (v := .pointer (some ⟨b1, 4, none⟩)) 38 (ticked 32 262143) rfl (by as_aux_lemma => kernel_rfl) rfl rfl rfl rfl rfl (by exact y_k rfl rfl (fun _ => by kernel_rfl)) ?_
      refine a_held_on (i := 18) 38 (ticked 32 524287) rfl (by as_aux_lemma => kernel_rfl) rfl rfl rfl rfl rfl (held_pt 1 rfl rfl (held_pt 1 rfl rfl (held_pt 1 rfl rfl (held_pt 0 rfl rfl (held_pt 0 rfl rfl (held_pt 0 rfl rfl held_nil)))))) (h_ldn (vs := [.int .i64 x.lab.lv, .int .u64 (x.lab.cs : Int), .int .i64 x.lab.ig]) 0 3 rfl rfl rfl Tryd.underlying26 rfl (by kernel_rfl) (by kernel_rfl)) ?_
      refine a_held_on (i := 19) 38 (ticked 32 1048575) rfl (by as_aux_lemma => kernel_rfl) rfl rfl rfl rfl rfl (held_pt 1 rfl rfl (held_pt 1 rfl rfl (held_pt 1 rfl rfl (held_pt 0 rfl rfl (held_pt 0 rfl rfl (held_pt 0 rfl rfl held_nil)))))) (h_ldn (vs := [.int .i64 a.lv, .int .u64 (a.cs : Int), .int .i64 a.ig]) 3 3 rfl rfl rfl Tryd.underlying26 rfl (by kernel_rfl) (by kernel_rfl)) ?_
      refine a_each (rs := [20]) (by as_aux_lemma => kernel_rfl) (.on 38 (ticked 32 2097151) rfl rfl rfl rfl rfl (o_call [] [] (under_ x.lab a) rfl rfl rfl rfl rfl rfl (fun v L' I' hq4 => ?_)) .nil) (List.cons_ne_nil _ _)
      obtain ⟨hv1, rfl, rfl⟩ := hq4
      refine e_by (labUnder x.lab a) (fun h3 => ?_) (fun h3 => ?_)
      ·
        obtain rfl : v = .bool true := by rw [hv1, decide_eq_true h3]
        refine a_and (held_pt 1 rfl rfl (held_pt 1 rfl rfl (held_pt 1 rfl rfl (held_pt 0 rfl rfl (held_pt 0 rfl rfl (held_pt 0 rfl rfl held_nil)))))) ?_
        refine a_y_on (i := 21) (v := .bool true) 38 (ticked 32 4194303) rfl (by as_aux_lemma => kernel_rfl) rfl rfl rfl rfl rfl (by exact y_mv rfl) ?_
        refine a_off (i := 22) 43 (ticked 32 8388607) rfl (by as_aux_lemma => kernel_rfl) rfl rfl rfl rfl rfl rfl ?_
        refine a_off (i := 23) 43 (ticked 32 16777215) rfl (by as_aux_lemma => kernel_rfl) rfl rfl rfl rfl rfl rfl ?_
        refine a_off (i := 24) 43 (ticked 32 33554431) rfl (by as_aux_lemma => kernel_rfl) rfl rfl rfl rfl rfl rfl ?_
        refine a_off (i := 25) 43 (ticked 32 67108863) rfl (by as_aux_lemma => kernel_rfl) rfl rfl rfl rfl rfl rfl ?_
        refine a_off (i := 26) 43 (ticked 32 134217727) rfl (by as_aux_lemma => kernel_rfl) rfl rfl rfl rfl rfl rfl ?_
        refine a_off (i := 27) 43 (ticked 32 268435455) rfl (by as_aux_lemma => kernel_rfl) rfl rfl rfl rfl rfl rfl ?_
        refine a_off (i := 28) 43 (ticked 32 536870911) rfl (by as_aux_lemma => kernel_rfl) rfl rfl rfl rfl rfl rfl ?_
        refine a_y_on (i := 29) (v := .bool true) 38 (ticked 32 1073741823) rfl (by as_aux_lemma => kernel_rfl) rfl rfl rfl rfl rfl (by exact y_pick rfl rfl) ?_
        refine a_y (i := 30) (v := .bool true) (ticked 32 2147483647) rfl (by as_aux_lemma => kernel_rfl) rfl rfl rfl (by exact y_pick rfl rfl) ?_
        refine a_y (i := 31) (v := .bool true) (ticked 32 4294967295) rfl (by as_aux_lemma => kernel_rfl) rfl rfl rfl (by exact y_as rfl) ?_
        refine a_done (by as_aux_lemma => kernel_rfl) ?_
        refine q_then ?_
        refine c_ret ?_
        refine c_fin (I' := []) [] [2, 3, 4] rfl (.tmp rfl .nil) rfl rfl rfl ?_
        exact ⟨rfl, rfl, rfl⟩
      ·
        obtain rfl : v = .bool false := by rw [hv1, decide_eq_false h3]
        refine a_and (held_pt 1 rfl rfl (held_pt 1 rfl rfl (held_pt 1 rfl rfl (held_pt 0 rfl rfl (held_pt 0 rfl rfl (held_pt 0 rfl rfl held_nil)))))) ?_
        refine a_y_on (i := 21) (v := .bool false) 38 (ticked 32 4194303) rfl (by as_aux_lemma => kernel_rfl) rfl rfl rfl rfl rfl (by exact y_mv rfl) ?_
        refine a_y_on (i := 22) (v := .slice A2 ((appF (fewR l) x).1).length c2) 43 (ticked 32 8388607) rfl (by as_aux_lemma => kernel_rfl) rfl rfl rfl rfl rfl (by exact y_mv rfl) ?_
        refine a_y_on (i := 25) (v := .slice A1 (fewR l).length c1) 43 (ticked 32 41943039) rfl (by as_aux_lemma => kernel_rfl) rfl rfl rfl rfl rfl (by exact y_mv rfl) ?_
        refine a_held_on (i := 23) 43 (ticked 32 50331647) rfl (by as_aux_lemma => kernel_rfl) rfl rfl rfl rfl rfl (held_pt 1 rfl rfl (held_pt 1 rfl rfl (held_pt 1 rfl rfl (held_pt 0 rfl rfl (held_pt 0 rfl rfl (held_pt 0 rfl rfl held_nil)))))) (h_ldn (vs := [.int .i64 a.lv, .int .u64 (a.cs : Int), .int .i64 a.ig]) 3 3 rfl rfl rfl Tryd.underlying26 rfl (by kernel_rfl) (by kernel_rfl)) ?_
        refine a_held_on (i := 26) 43 (ticked 32 117440511) rfl (by as_aux_lemma => kernel_rfl) rfl rfl rfl rfl rfl (held_pt 1 rfl rfl (held_pt 1 rfl rfl (held_pt 1 rfl rfl (held_pt 0 rfl rfl (held_pt 0 rfl rfl (held_pt 0 rfl rfl held_nil)))))) (h_ldn (vs := [.int .i64 a.lv, .int .u64 (a.cs : Int), .int .i64 a.ig]) 3 3 rfl rfl rfl Tryd.underlying26 rfl (by kernel_rfl) (by kernel_rfl)) ?_
        refine a_each (rs := [24]) (by as_aux_lemma => kernel_rfl) (.on 43 (ticked 32 134217727) rfl rfl rfl rfl rfl (o_call [] [0] (Seen_ A2 c2 ((appF (fewR l) x).1) a (by first | assumption | omega | (simp; done) | (simp; omega))) rfl rfl rfl rfl rfl rfl (fun v L' I' hq5 => ?_)) .nil) (List.cons_ne_nil _ _)
        obtain ⟨A3, c3, rfl, rfl, rfl⟩ := hq5
        refine a_and (held_pt 1 rfl rfl (held_pt 1 rfl rfl (held_pt 1 rfl rfl (held_pt 0 rfl rfl (held_pt 0 rfl rfl (held_pt 0 rfl rfl held_nil)))))) ?_
        refine a_each (rs := [27]) (by as_aux_lemma => kernel_rfl) (.on 43 (ticked 32 268435455) rfl rfl rfl rfl rfl (o_call [] [2] (Seen_ A1 c1 (fewR l) a (by first | assumption | omega | (simp; done) | (simp; omega))) rfl rfl rfl rfl rfl rfl (fun v L' I' hq6 => ?_)) .nil) (List.cons_ne_nil _ _)
        obtain ⟨A4, c4, rfl, rfl, rfl⟩ := hq6
        refine a_and (held_pt 1 rfl rfl (held_pt 1 rfl rfl (held_pt 1 rfl rfl (held_pt 0 rfl rfl (held_pt 0 rfl rfl (held_pt 0 rfl rfl held_nil)))))) ?_
        refine a_each (rs := [28]) (by as_aux_lemma => kernel_rfl) (.on 43 (ticked 32 536870911) rfl rfl rfl rfl rfl (o_call [] [1, 0] (rSame_ A3 c3 (seenF a ((appF (fewR l) x).1)) A4 c4 (seenF a (fewR l)) (by first | assumption | omega | (simp; done) | (simp; omega))) rfl rfl rfl rfl rfl rfl (fun v L' I' hq7 => ?_)) .nil) (List.cons_ne_nil _ _)
        obtain ⟨hv2, rfl, rfl⟩ := hq7
        obtain rfl : v = .bool true := by rw [hv2, decide_eq_true (show (seenF a ((appF (fewR l) x).1)) = (seenF a (fewR l)) from by rw [(appF_ok (by assumption)).1]; exact apart_seen (by assumption))]
        refine a_and (held_pt 1 rfl rfl (held_pt 1 rfl rfl (held_pt 1 rfl rfl (held_pt 0 rfl rfl (held_pt 0 rfl rfl (held_pt 0 rfl rfl held_nil)))))) ?_
        refine a_y_on (i := 29) (v := .bool true) 38 (ticked 32 1073741823) rfl (by as_aux_lemma => kernel_rfl) rfl rfl rfl rfl rfl (by exact y_pick rfl rfl) ?_
        refine a_y (i := 30) (v := .bool true) (ticked 32 2147483647) rfl (by as_aux_lemma => kernel_rfl) rfl rfl rfl (by exact y_pick rfl rfl) ?_
        refine a_y (i := 31) (v := .bool true) (ticked 32 4294967295) rfl (by as_aux_lemma => kernel_rfl) rfl rfl rfl (by exact y_as rfl) ?_
        refine a_done (by as_aux_lemma => kernel_rfl) ?_
        refine q_then ?_
        refine c_ret ?_
        refine c_fin (I' := []) [] [4, 5, 6] rfl (.tmp rfl .nil) rfl rfl rfl ?_
        exact ⟨rfl, rfl, rfl⟩
    ·
      refine a_y_on (i := 5) (v := .bool false) 23 (ticked 32 63) rfl (by as_aux_lemma => kernel_rfl) rfl rfl rfl rfl rfl (by exact y_f (y_bin rfl rfl (fun w => eq_Lab x.lab a w)) h2) ?_
      refine a_y_on (i := 6) (v := .bool false) 23 (ticked 32 127) rfl (by as_aux_lemma => kernel_rfl) rfl rfl rfl rfl rfl (by exact y_mv rfl) ?_
      refine a_y_on (i := 7) (v := .slice A2 ((appF (fewR l) x).1).length c2) 28 (ticked 32 255) rfl (by as_aux_lemma => kernel_rfl) rfl rfl rfl rfl rfl (by exact y_mv rfl) ?_
      refine a_y_on (i := 10) (v := .slice A1 (fewR l).length c1) 28 (ticked 32 1279) rfl (by as_aux_lemma => kernel_rfl) rfl rfl rfl rfl rfl (by exact y_mv rfl) ?_
      refine a_held_on (i := 8) 28 (ticked 32 1535) rfl (by as_aux_lemma => kernel_rfl) rfl rfl rfl rfl rfl (held_pt 1 rfl rfl (held_pt 1 rfl rfl (held_pt 1 rfl rfl (held_pt 0 rfl rfl (held_pt 0 rfl rfl (held_pt 0 rfl rfl held_nil)))))) (h_ldn (vs := [.int .i64 a.lv, .int .u64 (a.cs : Int), .int .i64 a.ig]) 3 3 rfl rfl rfl Tryd.underlying26 rfl (by kernel_rfl) (by kernel_rfl)) ?_
      refine a_held_on (i := 11) 28 (ticked 32 3583) rfl (by as_aux_lemma => kernel_rfl) rfl rfl rfl rfl rfl (held_pt 1 rfl rfl (held_pt 1 rfl rfl (held_pt 1 rfl rfl (held_pt 0 rfl rfl (held_pt 0 rfl rfl (held_pt 0 rfl rfl held_nil)))))) (h_ldn (vs := [.int .i64 a.lv, .int .u64 (a.cs : Int), .int .i64 a.ig]) 3 3 rfl rfl rfl Tryd.underlying26 rfl (by kernel_rfl) (by kernel_rfl)) ?_
      refine a_each (rs := [9]) (by as_aux_lemma => kernel_rfl) (.on 28 (ticked 32 4095) rfl rfl rfl rfl rfl (o_call [] [0] (Shown_ A2 c2 ((appF (fewR l) x).1) a (by first | assumption | omega | (simp; done) | (simp; omega)) (by assumption)) rfl rfl rfl rfl rfl rfl (fun v L' I' hq8 => ?_)) .nil) (List.cons_ne_nil _ _)
      obtain ⟨A5, c5, rfl, rfl, rfl⟩ := hq8
      refine a_and (held_pt 1 rfl rfl (held_pt 1 rfl rfl (held_pt 1 rfl rfl (held_pt 0 rfl rfl (held_pt 0 rfl rfl (held_pt 0 rfl rfl held_nil)))))) ?_
      refine a_each (rs := [12]) (by as_aux_lemma => kernel_rfl) (.on 28 (ticked 32 8191) rfl rfl rfl rfl rfl (o_call [] [2] (Shown_ A1 c1 (fewR l) a (by first | assumption | omega | (simp; done) | (simp; omega)) (by assumption)) rfl rfl rfl rfl rfl rfl (fun v L' I' hq9 => ?_)) .nil) (List.cons_ne_nil _ _)
      obtain ⟨A6, c6, rfl, rfl, rfl⟩ := hq9
      refine a_and (held_pt 1 rfl rfl (held_pt 1 rfl rfl (held_pt 1 rfl rfl (held_pt 0 rfl rfl (held_pt 0 rfl rfl (held_pt 0 rfl rfl held_nil)))))) ?_
      refine a_each (rs := [13]) (by as_aux_lemma => kernel_rfl) (.on 28 (ticked 32 16383) rfl rfl rfl rfl rfl (o_call [] [1, 0] (rTexts_ A5 c5 (shownF ((appF (fewR l) x).1) a) A6 c6 (shownF (fewR l) a) (by first | assumption | omega | (simp; done) | (simp; omega))) rfl rfl rfl rfl rfl rfl (fun v L' I' hq10 => ?_)) .nil) (List.cons_ne_nil _ _)
      obtain ⟨hv3, rfl, rfl⟩ := hq10
      obtain rfl : v = .bool true := by rw [hv3, decide_eq_true (show (shownF ((appF (fewR l) x).1) a) = (shownF (fewR l) a) from by rw [(appF_ok (by assumption)).1]; exact apart_shown (by assumption))]
      refine a_and (held_pt 1 rfl rfl (held_pt 1 rfl rfl (held_pt 1 rfl rfl (held_pt 0 rfl rfl (held_pt 0 rfl rfl (held_pt 0 rfl rfl held_nil)))))) ?_
      refine a_y_on (i := 14) (v := .bool true) 23 (ticked 32 32767) rfl (by as_aux_lemma => kernel_rfl) rfl rfl rfl rfl rfl (by exact y_pick rfl rfl) ?_
      refine a_y (i := 15) (v := .bool true) (ticked 32 65535) rfl (by as_aux_lemma => kernel_rfl) rfl rfl rfl (by exact y_pick rfl rfl) ?_
      refine a_y (i := 16) (v := .bool true) (ticked 32 131071) rfl (by as_aux_lemma => kernel_rfl) rfl rfl rfl (by exact y_mv rfl) ?_
      refine a_y_on (i := 17) (v := .pointer (some ⟨b1, 4, none⟩)) 38 (ticked 32 262143) rfl (by as_aux_lemma => kernel_rfl) rfl rfl rfl rfl rfl (by exact y_k rfl rfl (fun _ => by kernel_rfl)) ?_
      refine a_held_on (i := 18) 38 (ticked 32 524287) rfl (by as_aux_lemma => kernel_rfl) rfl rfl rfl rfl rfl (held_pt 1 rfl rfl (held_pt 1 rfl rfl (held_pt 1 rfl rfl (held_pt 0 rfl rfl (held_pt 0 rfl rfl (held_pt 0 rfl rfl held_nil)))))) (h_ldn (vs := [.int .i64 x.lab.lv, .int .u64 (x.lab.cs : Int), .int .i64 x.lab.ig]) 0 3 rfl rfl rfl Tryd.underlying26 rfl (by kernel_rfl) (by kernel_rfl)) ?_
      refine a_held_on (i := 19) 38 (ticked 32 1048575) rfl (by as_aux_lemma => kernel_rfl) rfl rfl rfl rfl rfl (held_pt 1 rfl rfl (held_pt 1 rfl rfl (held_pt 1 rfl rfl (held_pt 0 rfl rfl (held_pt 0 rfl rfl (held_pt 0 rfl rfl held_nil)))))) (h_ldn (vs := [.int .i64 a.lv, .int .u64 (a.cs : Int), .int .i64 a.ig]) 3 3 rfl rfl rfl Tryd.underlying26 rfl (by kernel_rfl) (by kernel_rfl)) ?_
      refine a_each (rs := [20]) (by as_aux_lemma => kernel_rfl) (.on 38 (ticked 32 2097151) rfl rfl rfl rfl rfl (o_call [] [] (under_ x.lab a) rfl rfl rfl rfl rfl rfl (fun v L' I' hq11 => ?_)) .nil) (List.cons_ne_nil _ _)
      obtain ⟨hv4, rfl, rfl⟩ := hq11
      refine e_by (labUnder x.lab a) (fun h4 => ?_) (fun h4 => ?_)
      ·
        obtain rfl : v = .bool true := by rw [hv4, decide_eq_true h4]
        refine a_and (held_pt 1 rfl rfl (held_pt 1 rfl rfl (held_pt 1 rfl rfl (held_pt 0 rfl rfl (held_pt 0 rfl rfl (held_pt 0 rfl rfl held_nil)))))) ?_
        refine a_y_on (i := 21) (v := .bool true) 38 (ticked 32 4194303) rfl (by as_aux_lemma => kernel_rfl) rfl rfl rfl rfl rfl (by exact y_mv rfl) ?_
        refine a_off (i := 22) 43 (ticked 32 8388607) rfl (by as_aux_lemma => kernel_rfl) rfl rfl rfl rfl rfl rfl ?_
        refine a_off (i := 23) 43 (ticked 32 16777215) rfl (by as_aux_lemma => kernel_rfl) rfl rfl rfl rfl rfl rfl ?_
        refine a_off (i := 24) 43 (ticked 32 33554431) rfl (by as_aux_lemma => kernel_rfl) rfl rfl rfl rfl rfl rfl ?_
        refine a_off (i := 25) 43 (ticked 32 67108863) rfl (by as_aux_lemma => kernel_rfl) rfl rfl rfl rfl rfl rfl ?_
        refine a_off (i := 26) 43 (ticked 32 134217727) rfl (by as_aux_lemma => kernel_rfl) rfl rfl rfl rfl rfl rfl ?_
        refine a_off (i := 27) 43 (ticked 32 268435455) rfl (by as_aux_lemma => kernel_rfl) rfl rfl rfl rfl rfl rfl ?_
        refine a_off (i := 28) 43 (ticked 32 536870911) rfl (by as_aux_lemma => kernel_rfl) rfl rfl rfl rfl rfl rfl ?_
        refine a_y_on (i := 29) (v := .bool true) 38 (ticked 32 1073741823) rfl (by as_aux_lemma => kernel_rfl) rfl rfl rfl rfl rfl (by exact y_pick rfl rfl) ?_
        refine a_y (i := 30) (v := .bool true) (ticked 32 2147483647) rfl (by as_aux_lemma => kernel_rfl) rfl rfl rfl (by exact y_pick rfl rfl) ?_
        refine a_y (i := 31) (v := .bool true) (ticked 32 4294967295) rfl (by as_aux_lemma => kernel_rfl) rfl rfl rfl (by exact y_as rfl) ?_
        refine a_done (by as_aux_lemma => kernel_rfl) ?_
        refine q_then ?_
        refine c_ret ?_
        refine c_fin (I' := []) [] [4, 5, 6] rfl (.tmp rfl .nil) rfl rfl rfl ?_
        exact ⟨rfl, rfl, rfl⟩
      ·
        obtain rfl : v = .bool false := by rw [hv4, decide_eq_false h4]
        refine a_and (held_pt 1 rfl rfl (held_pt 1 rfl rfl (held_pt 1 rfl rfl (held_pt 0 rfl rfl (held_pt 0 rfl rfl (held_pt 0 rfl rfl held_nil)))))) ?_
        refine a_y_on (i := 21) (v := .bool false) 38 (ticked 32 4194303) rfl (by as_aux_lemma => kernel_rfl) rfl rfl rfl rfl rfl (by exact y_mv rfl) ?_
        refine a_y_on (i := 22) (v := .slice A2 ((appF (fewR l) x).1).length c2) 43 (ticked 32 8388607) rfl (by as_aux_lemma => kernel_rfl) rfl rfl rfl rfl rfl (by exact y_mv rfl) ?_
        refine a_y_on (i := 25) (v := .slice A1 (fewR l).length c1) 43 (ticked 32 41943039) rfl (by as_aux_lemma => kernel_rfl) rfl rfl rfl rfl rfl (by exact y_mv rfl) ?_
        refine a_held_on (i := 23) 43 (ticked 32 50331647) rfl (by as_aux_lemma => kernel_rfl) rfl rfl rfl rfl rfl (held_pt 1 rfl rfl (held_pt 1 rfl rfl (held_pt 1 rfl rfl (held_pt 0 rfl rfl (held_pt 0 rfl rfl (held_pt 0 rfl rfl held_nil)))))) (h_ldn (vs := [.int .i64 a.lv, .int .u64 (a.cs : Int), .int .i64 a.ig]) 3 3 rfl rfl rfl Tryd.underlying26 rfl (by kernel_rfl) (by kernel_rfl)) ?_
        refine a_held_on (i := 26) 43 (ticked 32 117440511) rfl (by as_aux_lemma => kernel_rfl) rfl rfl rfl rfl rfl (held_pt 1 rfl rfl (held_pt 1 rfl rfl (held_pt 1 rfl rfl (held_pt 0 rfl rfl (held_pt 0 rfl rfl (held_pt 0 rfl rfl held_nil)))))) (h_ldn (vs := [.int .i64 a.lv, .int .u64 (a.cs : Int), .int .i64 a.ig]) 3 3 rfl rfl rfl Tryd.underlying26 rfl (by kernel_rfl) (by kernel_rfl)) ?_
        refine a_each (rs := [24]) (by as_aux_lemma => kernel_rfl) (.on 43 (ticked 32 134217727) rfl rfl rfl rfl rfl (o_call [] [2] (Seen_ A2 c2 ((appF (fewR l) x).1) a (by first | assumption | omega | (simp; done) | (simp; omega))) rfl rfl rfl rfl rfl rfl (fun v L' I' hq12 => ?_)) .nil) (List.cons_ne_nil _ _)
        obtain ⟨A7, c7, rfl, rfl, rfl⟩ := hq12
        refine a_and (held_pt 1 rfl rfl (held_pt 1 rfl rfl (held_pt 1 rfl rfl (held_pt 0 rfl rfl (held_pt 0 rfl rfl (held_pt 0 rfl rfl held_nil)))))) ?_
        refine a_each (rs := [27]) (by as_aux_lemma => kernel_rfl) (.on 43 (ticked 32 268435455) rfl rfl rfl rfl rfl (o_call [] [4] (Seen_ A1 c1 (fewR l) a (by first | assumption | omega | (simp; done) | (simp; omega))) rfl rfl rfl rfl rfl rfl (fun v L' I' hq13 => ?_)) .nil) (List.cons_ne_nil _ _)
        obtain ⟨A8, c8, rfl, rfl, rfl⟩ := hq13
        refine a_and (held_pt 1 rfl rfl (held_pt 1 rfl rfl (held_pt 1 rfl rfl (held_pt 0 rfl rfl (held_pt 0 rfl rfl (held_pt 0 rfl rfl held_nil)))))) ?_
        refine a_each (rs := [28]) (by as_aux_lemma => kernel_rfl) (.on 43 (ticked 32 536870911) rfl rfl rfl rfl rfl (o_call [] [1, 0] (rSame_ A7 c7 (seenF a ((appF (fewR l) x).1)) A8 c8 (seenF a (fewR l)) (by first | assumption | omega | (simp; done) | (simp; omega))) rfl rfl rfl rfl rfl rfl (fun v L' I' hq14 => ?_)) .nil) (List.cons_ne_nil _ _)
        obtain ⟨hv5, rfl, rfl⟩ := hq14
        obtain rfl : v = .bool true := by rw [hv5, decide_eq_true (show (seenF a ((appF (fewR l) x).1)) = (seenF a (fewR l)) from by rw [(appF_ok (by assumption)).1]; exact apart_seen (by assumption))]
        refine a_and (held_pt 1 rfl rfl (held_pt 1 rfl rfl (held_pt 1 rfl rfl (held_pt 0 rfl rfl (held_pt 0 rfl rfl (held_pt 0 rfl rfl held_nil)))))) ?_
        refine a_y_on (i := 29) (v := .bool true) 38 (ticked 32 1073741823) rfl (by as_aux_lemma => kernel_rfl) rfl rfl rfl rfl rfl (by exact y_pick rfl rfl) ?_
        refine a_y (i := 30) (v := .bool true) (ticked 32 2147483647) rfl (by as_aux_lemma => kernel_rfl) rfl rfl rfl (by exact y_pick rfl rfl) ?_
        refine a_y (i := 31) (v := .bool true) (ticked 32 4294967295) rfl (by as_aux_lemma => kernel_rfl) rfl rfl rfl (by exact y_as rfl) ?_
        refine a_done (by as_aux_lemma => kernel_rfl) ?_
        refine q_then ?_
        refine c_ret ?_
        refine c_fin (I' := []) [] [6, 7, 8] rfl (.tmp rfl .nil) rfl rfl rfl ?_
        exact ⟨rfl, rfl, rfl⟩
  ·
    refine st rfl (o_y (v := .bool true) (y_b (y_k (v := .bool (((appF (fewR l) x).2) != 0)) rfl rfl (fun _ => by kernel_rfl)) (bne_iff_ne.2 h1)) rfl rfl rfl ?_)
    refine s_nil ?_
    refine q_then ?_
    refine c_true rfl ?_
    refine c_seq ?_
    refine c_region ?_
    refine st rfl (o_y (v := .bool true) (y_mv rfl) rfl rfl rfl ?_)
    refine st rfl (o_y (v := .bool true) (y_as rfl) rfl rfl rfl ?_)
    refine s_nil ?_
    refine q_then ?_
    refine c_ret ?_
    refine q_then_ret ?_
    refine c_fin (I' := []) [] [2, 3, 4] rfl (.tmp rfl .nil) rfl rfl rfl ?_
    exact ⟨rfl, rfl, rfl⟩
theorem log_right {last : Int} : ∀ {l : List Rec}, logFrom last l → ∀ y ∈ l, recRight y
  | [], _, y, hy => by cases hy
  | x :: r, h, y, hy => by
    rcases List.mem_cons.1 hy with rfl | hy
    · exact h.1
    · exact log_right h.2.2 y hy
theorem log_weak : ∀ {l : List Rec} {p q : Int}, q ≤ p → logFrom p l → logFrom q l
  | [], _, _, _, _ => trivial
  | x :: r, p, q, h, ⟨h1, h2, h3⟩ => ⟨h1, by omega, h3⟩
theorem log_filter (f : Rec → Bool) : ∀ {l : List Rec} {last : Int}, logFrom last l → logFrom last (l.filter f)
  | [], _, _ => trivial
  | x :: r, last, ⟨h1, h2, h3⟩ => by
    rw [List.filter_cons]
    split
    · exact ⟨h1, h2, log_filter f h3⟩
    · exact log_weak (by omega) (log_filter f h3)
theorem seen_log {l : List Rec} {a : Lab} (h : logRight l) : logRight (seenF a l) := log_filter _ h
theorem seen_seen (l : List Rec) (a : Lab) : seenF a (seenF a l) = seenF a l := by unfold seenF; simp
def sumC (l : List Rec) : Nat → Nat
  | 0 => 0
  | k + 1 => sumC l k + countF l (k : Int)
theorem sumC_le (l : List Rec) : ∀ k, sumC l k ≤ k * l.length
  | 0 => by simp [sumC]
  | k + 1 => by
    have h1 := sumC_le l k
    have h2 := countF_le l (k : Int)
    rw [sumC, Nat.add_mul]; omega
theorem sumC_cons (x : Rec) (r : List Rec) : ∀ k, sumC (x :: r) k = sumC r k + (if 0 ≤ x.who ∧ x.who < k then 1 else 0)
  | 0 => by simp only [sumC]; rw [if_neg (by omega)]
  | k + 1 => by
    have h1 := sumC_cons x r k
    have h2 : countF (x :: r) (k : Int) = countF r (k : Int) + (if x.who = (k : Int) then 1 else 0) := by
      unfold countF; rw [List.filter_cons]; by_cases h : x.who = (k : Int) <;> simp [h]
    rw [sumC, sumC, h1, h2]
    by_cases h3 : 0 ≤ x.who ∧ x.who < k
    · rw [if_pos h3, if_neg (by omega), if_pos (by omega)]; omega
    · by_cases h4 : x.who = (k : Int)
      · rw [if_neg h3, if_pos h4, if_pos (by omega)]; omega
      · rw [if_neg h3, if_neg h4, if_neg (by omega)]; omega
theorem sumC_all : ∀ {l : List Rec}, (∀ y ∈ l, recRight y) → sumC l 8 = l.length
  | [], _ => rfl
  | x :: r, h => by
    rw [sumC_cons, sumC_all (fun y hy => h y (by simp [hy]))]
    obtain ⟨_, _, h3, h4, _⟩ := h x (by simp)
    rw [if_pos (by omega)]; rfl
end Go.Proofs.YtdfgedkjilpcgaaDoor
