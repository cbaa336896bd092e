/- The six laws of chapter 18 (audit), walked over the given program; no condition but what stands in each theorem: part Nc. -/
import Derived.Test.YtdfgedkjilpcgaaDoorRNb
set_option linter.unusedVariables false
set_option linter.unusedSimpArgs false
set_option maxRecDepth 100000
set_option maxHeartbeats 8000000
namespace Go.Proofs.YtdfgedkjilpcgaaDoor
open Go Go.Sl Go.RowKit Go.Extern.Stop Go.Stop Go.Extern Go.Shelf
theorem AuditLast_ (A : Option Addr) (c : Nat) (l : List Rec) (x : Rec) (el : Addr) (hm : ∀ y ∈ l, recSm y) (hx : recSm x) : Con Tryd.prog 4 [.slice A l.length c, .agg #[.int .i64 x.st, .int .i64 x.who, .int .i64 x.op, .int .i64 x.e, .int .i64 x.lab.lv, .int .u64 (x.lab.cs : Int), .int .i64 x.lab.ig]] [] [rd recTy A c l, cellsAt 0 0 [.iface 106 (.pointer (some el))], errAt el] (fun v L' I' => v = .bool true ∧ L' = [] ∧ I' = []) := by
  have hf := fewR_len l
  have hm1 := fewR_sm hm
  have hal := appF_len (fewR l) x
  have hm2 := appF_sm hm1 hx
  have hal2 : (appF (fewR l) x).1.length ≤ 100000 := by omega
  have hal3 : (appF (fewR l) x).1.length ≤ 1000000 := by omega
  have hz1 := last_facts (fewR l) x
  have hz2 := last_no (l := fewR l) (x := x)
  have hmx : ∀ y ∈ (appF (fewR l) x).1.take (fewR l).length, recSm y := fun y hy => hm2 y (List.mem_of_mem_take hy)
  refine fn_of Tryd.func4 rfl Tryd.ntmps4 (by kernel_rfl) rfl (fun C => ?_)
  refine c_seq ?_
  refine c_region ?_
  refine st rfl (o_box (cs := [.int .i64 x.st, .int .i64 x.who, .int .i64 x.op, .int .i64 x.e, .int .i64 x.lab.lv, .int .u64 (x.lab.cs : Int), .int .i64 x.lab.ig]) (T := 28) rfl rfl rfl rfl (fun _ => by kernel_rfl) (fun b1 => ?_))
  refine st rfl (o_y (v := .bool false) (y_as rfl) rfl rfl rfl ?_)
  refine s_nil ?_
  refine q_then ?_
  refine c_seq ?_
  refine c_region ?_
  refine st rfl (o_call [] [1, 2] (shown_ el) rfl rfl rfl rfl rfl rfl (fun v L' I' hq1 => ?_))
  obtain ⟨rfl, rfl, rfl⟩ := hq1
  refine st rfl (o_y (v := .bool true) (y_as rfl) rfl rfl rfl ?_)
  refine s_nil ?_
  refine q_then ?_
  refine c_seq ?_
  refine c_region ?_
  refine st rfl (o_y (v := .slice A l.length c) (y_mv rfl) rfl rfl rfl ?_)
  refine st rfl (o_call [] [0] (Few_ A c l) rfl rfl rfl rfl rfl rfl (fun v L' I' hq2 => ?_))
  obtain ⟨A1, c1, rfl, rfl, rfl⟩ := hq2
  refine st rfl (o_y (v := .slice A1 (fewR l).length c1) (y_as rfl) rfl rfl rfl ?_)
  refine s_nil ?_
  refine q_then ?_
  refine c_seq ?_
  refine c_region ?_
  refine st rfl (o_y (v := .slice A1 (fewR l).length c1) (y_mv rfl) rfl rfl rfl ?_)
  refine st rfl (o_ldn 0 7 rfl rfl rfl rfl Tryd.underlying28 rfl (by kernel_rfl) (by kernel_rfl) rfl ?_)
  refine st rfl (o_call [] [0, 2, 3] (Append_ A1 c1 (fewR l) x el (by first | assumption | omega | (simp; done) | (simp; omega))) rfl rfl rfl rfl rfl rfl (fun v L' I' hq3 => ?_))
  obtain ⟨A2, c2, rfl, rfl, rfl⟩ := hq3
  refine st rfl (o_y (v := .tuple #[.slice A2 ((appF (fewR l) x).1).length c2, .int .i64 ((appF (fewR l) x).2)]) (y_mv rfl) rfl rfl rfl ?_)
  refine st rfl (o_y (v := .slice A2 ((appF (fewR l) x).1).length c2) (y_k rfl rfl (fun _ => by kernel_rfl)) rfl rfl rfl ?_)
  refine st rfl (o_y (v := .int .i64 ((appF (fewR l) x).2)) (y_k rfl rfl (fun _ => by kernel_rfl)) rfl rfl rfl ?_)
  refine st rfl (o_y (v := .slice A2 ((appF (fewR l) x).1).length c2) (y_as rfl) rfl rfl rfl ?_)
  refine st rfl (o_y (v := .int .i64 ((appF (fewR l) x).2)) (y_as rfl) rfl rfl rfl ?_)
  refine s_nil ?_
  refine q_then ?_
  refine c_seq ?_
  refine c_seq ?_
  refine c_region ?_
  refine st rfl (o_y (v := .int .i64 ((appF (fewR l) x).2)) (y_mv rfl) rfl rfl rfl ?_)
  refine e_by ((appF (fewR l) x).2 = 0) (fun h1 => ?_) (fun h1 => ?_)
  ·
    refine st rfl (o_y (v := .bool false) (y_b (y_k (v := .bool (((appF (fewR l) x).2) != 0)) rfl rfl (fun _ => by kernel_rfl)) (bne_eq_false_iff_eq.2 h1)) rfl rfl rfl ?_)
    refine s_nil ?_
    refine q_then ?_
    refine c_false rfl ?_
    refine c_skip ?_
    refine q_then ?_
    refine c_seq ?_
    refine c_seq ?_
    refine c_region ?_
    refine st rfl (o_y (v := .slice A2 ((appF (fewR l) x).1).length c2) (y_mv rfl) rfl rfl rfl ?_)
    refine st rfl (o_y (v := .int .i64 (((appF (fewR l) x).1).length : Int)) (y_k rfl rfl (fun _ => by kernel_rfl)) rfl rfl rfl ?_)
    refine st rfl (o_y (v := .slice A1 (fewR l).length c1) (y_mv rfl) rfl rfl rfl ?_)
    refine st rfl (o_y (v := .int .i64 ((fewR l).length : Int)) (y_k rfl rfl (fun _ => by kernel_rfl)) rfl rfl rfl ?_)
    refine st rfl (o_y (v := .int .i64 (((fewR l).length : Int) + 1)) (y_add (r := ((fewR l).length : Int) + 1) rfl rfl rfl (by have h1 := countF_le (fewR l) x.who; omega)) rfl rfl rfl ?_)
    have h2 : (((appF (fewR l) x).1).length : Int) = ((fewR l).length : Int) + 1 := by omega
    refine st rfl (o_y (v := .bool false) (y_b (y_k (v := .bool ((((appF (fewR l) x).1).length : Int) != (((fewR l).length : Int) + 1))) rfl rfl (fun _ => by kernel_rfl)) (bne_eq_false_iff_eq.2 h2)) rfl rfl rfl ?_)
    refine s_nil ?_
    refine q_then ?_
    refine c_false rfl ?_
    refine c_skip ?_
    refine q_then ?_
    refine c_seq ?_
    refine c_region ?_
    refine st rfl (o_y (v := .slice A2 ((appF (fewR l) x).1).length c2) (y_mv rfl) rfl rfl rfl ?_)
    refine st rfl (o_y (v := .pointer (some ⟨b1, 4, none⟩)) (y_k rfl rfl (fun _ => by kernel_rfl)) rfl rfl rfl ?_)
    refine st rfl (o_ldn 0 3 rfl rfl rfl rfl Tryd.underlying26 rfl (by kernel_rfl) (by kernel_rfl) rfl ?_)
    refine st rfl (o_call [] [0] (Shown_ A2 c2 ((appF (fewR l) x).1) x.lab (by first | assumption | omega | (simp; done) | (simp; omega)) (by assumption)) rfl rfl rfl rfl rfl rfl (fun v L' I' hq4 => ?_))
    obtain ⟨A3, c3, rfl, rfl, rfl⟩ := hq4
    refine st rfl (o_y (v := .slice A3 (shownF ((appF (fewR l) x).1) x.lab).length c3) (y_as rfl) rfl rfl rfl ?_)
    refine s_nil ?_
    refine q_then ?_
    refine c_seq ?_
    refine e_at 1 ((fewR l).length) rfl (by first | omega | (simp only [List.length_append, List.length_map, List.length_take, List.length_drop]; omega)) (fun b2 o1 x1 hA1 hx1 => ?_)
    refine e_at 1 ((((shownF ((appF (fewR l) x).1) x.lab).length : Int) - 1).toNat) rfl (by first | omega | (simp only [List.length_append, List.length_map, List.length_take, List.length_drop]; omega)) (fun b3 o2 x2 hA2 hx2 => ?_)
    refine c_draw (l := ticked 51 0) [(⟨b2, o1 + ((fewR l).length) * 7, none⟩, .int .i64 x1.st), (⟨b2, o1 + ((fewR l).length) * 7 + 1, none⟩, .int .i64 x1.who), (⟨b2, o1 + ((fewR l).length) * 7 + 2, none⟩, .int .i64 x1.op), (⟨b2, o1 + ((fewR l).length) * 7 + 3, none⟩, .int .i64 x1.e), (⟨b2, o1 + ((fewR l).length) * 7 + 4, none⟩, .int .i64 x1.lab.lv), (⟨b2, o1 + ((fewR l).length) * 7 + 5, none⟩, .int .u64 (x1.lab.cs : Int)), (⟨b2, o1 + ((fewR l).length) * 7 + 6, none⟩, .int .i64 x1.lab.ig), (⟨b1, 0, none⟩, .int .i64 x.st), (⟨b1, 1, none⟩, .int .i64 x.who), (⟨b1, 2, none⟩, .int .i64 x.op), (⟨b1, 3, none⟩, .int .i64 x.e), (⟨b1, 4, none⟩, .int .i64 x.lab.lv), (⟨b1, 5, none⟩, .int .u64 (x.lab.cs : Int)), (⟨b1, 6, none⟩, .int .i64 x.lab.ig), (⟨b3, o2 + ((((shownF ((appF (fewR l) x).1) x.lab).length : Int) - 1).toNat) * 1, none⟩, .string x2)] [] (by kernel_rfl) rfl rfl ?_
    refine a_y (i := 0) (v := .bool true) (ticked 51 1) rfl (by as_aux_lemma => kernel_rfl) rfl rfl rfl (by exact y_mv rfl) ?_
    refine a_y (i := 1) (v := .bool true) (ticked 51 3) rfl (by as_aux_lemma => kernel_rfl) rfl rfl rfl (by exact y_mv rfl) ?_
    refine a_y_on (i := 2) (v := .slice A2 ((appF (fewR l) x).1).length c2) 41 (ticked 51 7) rfl (by as_aux_lemma => kernel_rfl) rfl rfl rfl rfl rfl (by exact y_mv rfl) ?_
    refine a_y_on (i := 3) (v := .slice A1 (fewR l).length c1) 41 (ticked 51 15) rfl (by as_aux_lemma => kernel_rfl) rfl rfl rfl rfl rfl (by exact y_mv rfl) ?_
    refine a_y_on (i := 4) (v := .int .i64 ((fewR l).length : Int)) 41 (ticked 51 31) rfl (by as_aux_lemma => kernel_rfl) rfl rfl rfl rfl rfl (by exact y_k rfl rfl (fun _ => by kernel_rfl)) ?_
    refine a_y_on (i := 5) (v := .pointer (some ⟨b2, o1 + ((fewR l).length) * 7, none⟩)) 41 (ticked 51 63) rfl (by as_aux_lemma => kernel_rfl) rfl rfl rfl rfl rfl (by exact y_at (d := recTy) (l := (appF (fewR l) x).1) ((fewR l).length) hA1 rfl rfl rfl (rfl) (List.getElem?_eq_some_iff.1 hx1).1 Tryd.underlying22 (by kernel_rfl) (by kernel_rfl)) ?_
    refine a_held_on (i := 6) 41 (ticked 51 127) rfl (by as_aux_lemma => kernel_rfl) rfl rfl rfl rfl rfl (held_fact (j := 0) 1 rfl rfl (held_fact (j := 1) 1 rfl rfl (held_fact (j := 2) 1 rfl rfl (held_fact (j := 3) 1 rfl rfl (held_fact (j := 4) 1 rfl rfl (held_fact (j := 5) 1 rfl rfl (held_fact (j := 6) 1 rfl rfl (held_pt 0 rfl rfl (held_pt 0 rfl rfl (held_pt 0 rfl rfl (held_pt 0 rfl rfl (held_pt 0 rfl rfl (held_pt 0 rfl rfl (held_pt 0 rfl rfl (held_fact (j := 0) 0 rfl rfl held_nil))))))))))))))) (h_ldn (vs := [.int .i64 x1.st, .int .i64 x1.who, .int .i64 x1.op, .int .i64 x1.e, .int .i64 x1.lab.lv, .int .u64 (x1.lab.cs : Int), .int .i64 x1.lab.ig]) 0 7 rfl rfl rfl Tryd.underlying28 rfl (by kernel_rfl) (by kernel_rfl)) ?_
    refine a_held_on (i := 7) 41 (ticked 51 255) rfl (by as_aux_lemma => kernel_rfl) rfl rfl rfl rfl rfl (held_fact (j := 0) 1 rfl rfl (held_fact (j := 1) 1 rfl rfl (held_fact (j := 2) 1 rfl rfl (held_fact (j := 3) 1 rfl rfl (held_fact (j := 4) 1 rfl rfl (held_fact (j := 5) 1 rfl rfl (held_fact (j := 6) 1 rfl rfl (held_pt 0 rfl rfl (held_pt 0 rfl rfl (held_pt 0 rfl rfl (held_pt 0 rfl rfl (held_pt 0 rfl rfl (held_pt 0 rfl rfl (held_pt 0 rfl rfl (held_fact (j := 0) 0 rfl rfl held_nil))))))))))))))) (h_ldn (vs := [.int .i64 x.st, .int .i64 x.who, .int .i64 x.op, .int .i64 x.e, .int .i64 x.lab.lv, .int .u64 (x.lab.cs : Int), .int .i64 x.lab.ig]) 7 7 rfl rfl rfl Tryd.underlying28 rfl (by kernel_rfl) (by kernel_rfl)) ?_
    have h3 : x1 = x := last_at (by assumption) (by assumption)
    refine a_y_on (i := 8) (v := .bool true) 41 (ticked 51 511) rfl (by as_aux_lemma => kernel_rfl) rfl rfl rfl rfl rfl (by exact y_t (y_bin rfl rfl (fun w => eq_Rec x1 x w)) h3) ?_
    refine a_y (i := 9) (v := .bool true) (ticked 51 1023) rfl (by as_aux_lemma => kernel_rfl) rfl rfl rfl (by exact y_pick rfl rfl) ?_
    refine a_y (i := 10) (v := .bool true) (ticked 51 2047) rfl (by as_aux_lemma => kernel_rfl) rfl rfl rfl (by exact y_mv rfl) ?_
    refine a_y_on (i := 11) (v := .slice A2 ((appF (fewR l) x).1).length c2) 50 (ticked 51 4095) rfl (by as_aux_lemma => kernel_rfl) rfl rfl rfl rfl rfl (by exact y_mv rfl) ?_
    refine a_y_on (i := 12) (v := .slice A1 (fewR l).length c1) 50 (ticked 51 8191) rfl (by as_aux_lemma => kernel_rfl) rfl rfl rfl rfl rfl (by exact y_mv rfl) ?_
    refine a_y_on (i := 13) (v := .int .i64 ((fewR l).length : Int)) 50 (ticked 51 16383) rfl (by as_aux_lemma => kernel_rfl) rfl rfl rfl rfl rfl (by exact y_k rfl rfl (fun _ => by kernel_rfl)) ?_
    refine e_len 3 rfl (fun h4 h5 => ?_)
    refine e_cut2 (l2 := ((appF (fewR l) x).1).take ((fewR l).length)) 3 0 ((fewR l).length) c2 (by simp) rfl (by omega) (by omega) (by omega) ?_
    refine a_y_on (i := 14) (v := .slice (cutA recTy A2 0 c2) (((appF (fewR l) x).1).take ((fewR l).length)).length (c2 - 0)) 50 (ticked 51 32767) rfl (by as_aux_lemma => kernel_rfl) rfl rfl rfl rfl rfl (by exact y_cut (d := recTy) (l := (appF (fewR l) x).1) (l2 := ((appF (fewR l) x).1).take ((fewR l).length)) 0 ((fewR l).length) c2 (by simp) rfl rfl .no (.at ((fewR l).length) rfl (rfl)) .no (by simp) Tryd.underlying22 (by kernel_rfl) (by kernel_rfl) (by omega) (by omega) (by omega) (by omega)) ?_
    refine a_y_on (i := 15) (v := .slice A1 (fewR l).length c1) 50 (ticked 51 65535) rfl (by as_aux_lemma => kernel_rfl) rfl rfl rfl rfl rfl (by exact y_mv rfl) ?_
    refine a_each (rs := [16]) (by as_aux_lemma => kernel_rfl) (.on 50 (ticked 51 131071) rfl rfl rfl rfl rfl (o_call [] [0, 5] (rSame_ (cutA recTy A2 0 c2) (c2 - 0) (((appF (fewR l) x).1).take ((fewR l).length)) A1 c1 (fewR l) (by first | assumption | omega | (simp; done) | (simp; omega))) rfl rfl rfl rfl rfl rfl (fun v L' I' hq5 => ?_)) .nil) (List.cons_ne_nil _ _)
    obtain ⟨hv1, rfl, rfl⟩ := hq5
    obtain rfl : v = .bool true := by rw [hv1, decide_eq_true (show (((appF (fewR l) x).1).take ((fewR l).length)) = (fewR l) from last_take (by assumption))]
    refine a_and (held_fact (j := 0) 2 rfl rfl (held_fact (j := 1) 2 rfl rfl (held_fact (j := 2) 2 rfl rfl (held_fact (j := 3) 2 rfl rfl (held_fact (j := 4) 2 rfl rfl (held_fact (j := 5) 2 rfl rfl (held_fact (j := 6) 2 rfl rfl (held_pt 0 rfl rfl (held_pt 0 rfl rfl (held_pt 0 rfl rfl (held_pt 0 rfl rfl (held_pt 0 rfl rfl (held_pt 0 rfl rfl (held_pt 0 rfl rfl (held_fact (j := 0) 1 rfl rfl held_nil))))))))))))))) ?_
    refine a_y (i := 17) (v := .bool true) (ticked 51 262143) rfl (by as_aux_lemma => kernel_rfl) rfl rfl rfl (by exact y_pick rfl rfl) ?_
    refine a_y (i := 18) (v := .bool true) (ticked 51 524287) rfl (by as_aux_lemma => kernel_rfl) rfl rfl rfl (by exact y_mv rfl) ?_
    refine a_y_on (i := 19) (v := .slice A2 ((appF (fewR l) x).1).length c2) 58 (ticked 51 1048575) rfl (by as_aux_lemma => kernel_rfl) rfl rfl rfl rfl rfl (by exact y_mv rfl) ?_
    refine a_each (rs := [20]) (by as_aux_lemma => kernel_rfl) (.on 58 (ticked 51 2097151) rfl rfl rfl rfl rfl (o_call [] [4] (Right_ A2 c2 ((appF (fewR l) x).1) (by first | assumption | omega | (simp; done) | (simp; omega))) rfl rfl rfl rfl rfl rfl (fun v L' I' hq6 => ?_)) .nil) (List.cons_ne_nil _ _)
    obtain ⟨hv2, rfl, rfl⟩ := hq6
    obtain rfl : v = .bool true := by rw [hv2, decide_eq_true (show logRight ((appF (fewR l) x).1) from last_right (by assumption))]
    refine a_and (held_fact (j := 0) 2 rfl rfl (held_fact (j := 1) 2 rfl rfl (held_fact (j := 2) 2 rfl rfl (held_fact (j := 3) 2 rfl rfl (held_fact (j := 4) 2 rfl rfl (held_fact (j := 5) 2 rfl rfl (held_fact (j := 6) 2 rfl rfl (held_pt 0 rfl rfl (held_pt 0 rfl rfl (held_pt 0 rfl rfl (held_pt 0 rfl rfl (held_pt 0 rfl rfl (held_pt 0 rfl rfl (held_pt 0 rfl rfl (held_fact (j := 0) 1 rfl rfl held_nil))))))))))))))) ?_
    refine a_y (i := 21) (v := .bool true) (ticked 51 4194303) rfl (by as_aux_lemma => kernel_rfl) rfl rfl rfl (by exact y_pick rfl rfl) ?_
    refine a_y (i := 22) (v := .bool true) (ticked 51 8388607) rfl (by as_aux_lemma => kernel_rfl) rfl rfl rfl (by exact y_mv rfl) ?_
    refine a_y_on (i := 23) (v := .slice A3 (shownF ((appF (fewR l) x).1) x.lab).length c3) 62 (ticked 51 16777215) rfl (by as_aux_lemma => kernel_rfl) rfl rfl rfl rfl rfl (by exact y_mv rfl) ?_
    refine a_y_on (i := 24) (v := .int .i64 ((shownF ((appF (fewR l) x).1) x.lab).length : Int)) 62 (ticked 51 33554431) rfl (by as_aux_lemma => kernel_rfl) rfl rfl rfl rfl rfl (by exact y_k rfl rfl (fun _ => by kernel_rfl)) ?_
    have h6 : ((shownF ((appF (fewR l) x).1) x.lab).length : Int) ≥ 1 := by omega
    refine a_y_on (i := 25) (v := .bool true) 62 (ticked 51 67108863) rfl (by as_aux_lemma => kernel_rfl) rfl rfl rfl rfl rfl (by exact y_t (y_k (v := .bool (decide (((shownF ((appF (fewR l) x).1) x.lab).length : Int) ≥ 1))) rfl rfl (fun _ => by kernel_rfl)) h6) ?_
    refine a_y (i := 26) (v := .bool true) (ticked 51 134217727) rfl (by as_aux_lemma => kernel_rfl) rfl rfl rfl (by exact y_pick rfl rfl) ?_
    refine a_y (i := 27) (v := .bool true) (ticked 51 268435455) rfl (by as_aux_lemma => kernel_rfl) rfl rfl rfl (by exact y_mv rfl) ?_
    refine a_y_on (i := 28) (v := .slice A3 (shownF ((appF (fewR l) x).1) x.lab).length c3) 67 (ticked 51 536870911) rfl (by as_aux_lemma => kernel_rfl) rfl rfl rfl rfl rfl (by exact y_mv rfl) ?_
    refine a_y_on (i := 29) (v := .slice A3 (shownF ((appF (fewR l) x).1) x.lab).length c3) 67 (ticked 51 1073741823) rfl (by as_aux_lemma => kernel_rfl) rfl rfl rfl rfl rfl (by exact y_mv rfl) ?_
    refine a_y_on (i := 30) (v := .int .i64 ((shownF ((appF (fewR l) x).1) x.lab).length : Int)) 67 (ticked 51 2147483647) rfl (by as_aux_lemma => kernel_rfl) rfl rfl rfl rfl rfl (by exact y_k rfl rfl (fun _ => by kernel_rfl)) ?_
    refine a_y_on (i := 31) (v := .int .i64 (((shownF ((appF (fewR l) x).1) x.lab).length : Int) - 1)) 67 (ticked 51 4294967295) rfl (by as_aux_lemma => kernel_rfl) rfl rfl rfl rfl rfl (by exact y_sub (r := ((shownF ((appF (fewR l) x).1) x.lab).length : Int) - 1) rfl rfl rfl (by have h1 := countF_le (fewR l) x.who; omega)) ?_
    refine a_y_on (i := 32) (v := .pointer (some ⟨b3, o2 + ((((shownF ((appF (fewR l) x).1) x.lab).length : Int) - 1).toNat) * 1, none⟩)) 67 (ticked 51 8589934591) rfl (by as_aux_lemma => kernel_rfl) rfl rfl rfl rfl rfl (by exact y_at (d := strTy) (l := shownF ((appF (fewR l) x).1) x.lab) ((((shownF ((appF (fewR l) x).1) x.lab).length : Int) - 1).toNat) hA2 rfl rfl rfl (by omega) (List.getElem?_eq_some_iff.1 hx2).1 Tryd.underlying35 (by kernel_rfl) (by kernel_rfl)) ?_
    refine a_held_on (i := 33) 67 (ticked 51 17179869183) rfl (by as_aux_lemma => kernel_rfl) rfl rfl rfl rfl rfl (held_fact (j := 0) 2 rfl rfl (held_fact (j := 1) 2 rfl rfl (held_fact (j := 2) 2 rfl rfl (held_fact (j := 3) 2 rfl rfl (held_fact (j := 4) 2 rfl rfl (held_fact (j := 5) 2 rfl rfl (held_fact (j := 6) 2 rfl rfl (held_pt 0 rfl rfl (held_pt 0 rfl rfl (held_pt 0 rfl rfl (held_pt 0 rfl rfl (held_pt 0 rfl rfl (held_pt 0 rfl rfl (held_pt 0 rfl rfl (held_fact (j := 0) 1 rfl rfl held_nil))))))))))))))) (h_ld 14 rfl rfl Tryd.underlying9 rfl) ?_
    refine a_held_on (i := 34) 67 (ticked 51 34359738367) rfl (by as_aux_lemma => kernel_rfl) rfl rfl rfl rfl rfl (held_fact (j := 0) 2 rfl rfl (held_fact (j := 1) 2 rfl rfl (held_fact (j := 2) 2 rfl rfl (held_fact (j := 3) 2 rfl rfl (held_fact (j := 4) 2 rfl rfl (held_fact (j := 5) 2 rfl rfl (held_fact (j := 6) 2 rfl rfl (held_pt 0 rfl rfl (held_pt 0 rfl rfl (held_pt 0 rfl rfl (held_pt 0 rfl rfl (held_pt 0 rfl rfl (held_pt 0 rfl rfl (held_pt 0 rfl rfl (held_fact (j := 0) 1 rfl rfl held_nil))))))))))))))) (h_ldn (vs := [.int .i64 x.st, .int .i64 x.who, .int .i64 x.op, .int .i64 x.e, .int .i64 x.lab.lv, .int .u64 (x.lab.cs : Int), .int .i64 x.lab.ig]) 7 7 rfl rfl rfl Tryd.underlying28 rfl (by kernel_rfl) (by kernel_rfl)) ?_
    refine a_each (rs := [35]) (by as_aux_lemma => kernel_rfl) (.on 67 (ticked 51 68719476735) rfl rfl rfl rfl rfl (o_call [] [] (Line_ x (by first | assumption | exact (by assumption : ∀ y ∈ _, recSm y) _ (List.mem_of_getElem? (by assumption)))) rfl rfl rfl rfl rfl rfl (fun v L' I' hq7 => ?_)) .nil) (List.cons_ne_nil _ _)
    obtain ⟨rfl, rfl, rfl⟩ := hq7
    refine a_and (held_fact (j := 0) 2 rfl rfl (held_fact (j := 1) 2 rfl rfl (held_fact (j := 2) 2 rfl rfl (held_fact (j := 3) 2 rfl rfl (held_fact (j := 4) 2 rfl rfl (held_fact (j := 5) 2 rfl rfl (held_fact (j := 6) 2 rfl rfl (held_pt 0 rfl rfl (held_pt 0 rfl rfl (held_pt 0 rfl rfl (held_pt 0 rfl rfl (held_pt 0 rfl rfl (held_pt 0 rfl rfl (held_pt 0 rfl rfl (held_fact (j := 0) 1 rfl rfl held_nil))))))))))))))) ?_
    have h7 : x2 = lineF x := last_line (by assumption) (by assumption)
    refine a_y_on (i := 36) (v := .bool true) 67 (ticked 51 137438953471) rfl (by as_aux_lemma => kernel_rfl) rfl rfl rfl rfl rfl (by exact y_b (y_k (v := .bool (x2.toList == (lineF x).toList)) rfl rfl (fun _ => by kernel_rfl)) (str_t h7)) ?_
    refine a_y (i := 37) (v := .bool true) (ticked 51 274877906943) rfl (by as_aux_lemma => kernel_rfl) rfl rfl rfl (by exact y_pick rfl rfl) ?_
    refine a_y (i := 38) (v := .bool true) (ticked 51 549755813887) rfl (by as_aux_lemma => kernel_rfl) rfl rfl rfl (by exact y_mv rfl) ?_
    refine a_y_on (i := 39) (v := .slice A2 ((appF (fewR l) x).1).length c2) 78 (ticked 51 1099511627775) rfl (by as_aux_lemma => kernel_rfl) rfl rfl rfl rfl rfl (by exact y_mv rfl) ?_
    refine a_y_on (i := 40) (v := .pointer (some ⟨b1, 1, none⟩)) 78 (ticked 51 2199023255551) rfl (by as_aux_lemma => kernel_rfl) rfl rfl rfl rfl rfl (by exact y_k rfl rfl (fun _ => by kernel_rfl)) ?_
    refine a_y_on (i := 43) (v := .slice A1 (fewR l).length c1) 78 (ticked 51 10995116277759) rfl (by as_aux_lemma => kernel_rfl) rfl rfl rfl rfl rfl (by exact y_mv rfl) ?_
    refine a_y_on (i := 44) (v := .pointer (some ⟨b1, 1, none⟩)) 78 (ticked 51 28587302322175) rfl (by as_aux_lemma => kernel_rfl) rfl rfl rfl rfl rfl (by exact y_k rfl rfl (fun _ => by kernel_rfl)) ?_
    refine a_held_on (i := 41) 78 (ticked 51 30786325577727) rfl (by as_aux_lemma => kernel_rfl) rfl rfl rfl rfl rfl (held_fact (j := 0) 2 rfl rfl (held_fact (j := 1) 2 rfl rfl (held_fact (j := 2) 2 rfl rfl (held_fact (j := 3) 2 rfl rfl (held_fact (j := 4) 2 rfl rfl (held_fact (j := 5) 2 rfl rfl (held_fact (j := 6) 2 rfl rfl (held_pt 0 rfl rfl (held_pt 0 rfl rfl (held_pt 0 rfl rfl (held_pt 0 rfl rfl (held_pt 0 rfl rfl (held_pt 0 rfl rfl (held_pt 0 rfl rfl (held_fact (j := 0) 1 rfl rfl held_nil))))))))))))))) (h_ld 8 rfl rfl Tryd.underlying3 rfl) ?_
    refine a_held_on (i := 45) 78 (ticked 51 65970697666559) rfl (by as_aux_lemma => kernel_rfl) rfl rfl rfl rfl rfl (held_fact (j := 0) 2 rfl rfl (held_fact (j := 1) 2 rfl rfl (held_fact (j := 2) 2 rfl rfl (held_fact (j := 3) 2 rfl rfl (held_fact (j := 4) 2 rfl rfl (held_fact (j := 5) 2 rfl rfl (held_fact (j := 6) 2 rfl rfl (held_pt 0 rfl rfl (held_pt 0 rfl rfl (held_pt 0 rfl rfl (held_pt 0 rfl rfl (held_pt 0 rfl rfl (held_pt 0 rfl rfl (held_pt 0 rfl rfl (held_fact (j := 0) 1 rfl rfl held_nil))))))))))))))) (h_ld 8 rfl rfl Tryd.underlying3 rfl) ?_
    refine a_each (rs := [42]) (by as_aux_lemma => kernel_rfl) (.on 78 (ticked 51 70368744177663) rfl rfl rfl rfl rfl (o_call [] [4] (Count_ A2 c2 ((appF (fewR l) x).1) x.who (by first | assumption | omega | (simp; done) | (simp; omega))) rfl rfl rfl rfl rfl rfl (fun v L' I' hq8 => ?_)) .nil) (List.cons_ne_nil _ _)
    obtain ⟨rfl, rfl, rfl⟩ := hq8
    refine a_and (held_fact (j := 0) 2 rfl rfl (held_fact (j := 1) 2 rfl rfl (held_fact (j := 2) 2 rfl rfl (held_fact (j := 3) 2 rfl rfl (held_fact (j := 4) 2 rfl rfl (held_fact (j := 5) 2 rfl rfl (held_fact (j := 6) 2 rfl rfl (held_pt 0 rfl rfl (held_pt 0 rfl rfl (held_pt 0 rfl rfl (held_pt 0 rfl rfl (held_pt 0 rfl rfl (held_pt 0 rfl rfl (held_pt 0 rfl rfl (held_fact (j := 0) 1 rfl rfl held_nil))))))))))))))) ?_
    refine a_each (rs := [46]) (by as_aux_lemma => kernel_rfl) (.on 78 (ticked 51 140737488355327) rfl rfl rfl rfl rfl (o_call [] [5] (Count_ A1 c1 (fewR l) x.who (by first | assumption | omega | (simp; done) | (simp; omega))) rfl rfl rfl rfl rfl rfl (fun v L' I' hq9 => ?_)) .nil) (List.cons_ne_nil _ _)
    obtain ⟨rfl, rfl, rfl⟩ := hq9
    refine a_and (held_fact (j := 0) 2 rfl rfl (held_fact (j := 1) 2 rfl rfl (held_fact (j := 2) 2 rfl rfl (held_fact (j := 3) 2 rfl rfl (held_fact (j := 4) 2 rfl rfl (held_fact (j := 5) 2 rfl rfl (held_fact (j := 6) 2 rfl rfl (held_pt 0 rfl rfl (held_pt 0 rfl rfl (held_pt 0 rfl rfl (held_pt 0 rfl rfl (held_pt 0 rfl rfl (held_pt 0 rfl rfl (held_pt 0 rfl rfl (held_fact (j := 0) 1 rfl rfl held_nil))))))))))))))) ?_
    refine a_y_on (i := 47) (v := .int .i64 ((countF (fewR l) x.who : Int) + 1)) 78 (ticked 51 281474976710655) rfl (by as_aux_lemma => kernel_rfl) rfl rfl rfl rfl rfl (by exact y_add (r := (countF (fewR l) x.who : Int) + 1) rfl rfl rfl (by have h1 := countF_le (fewR l) x.who; omega)) ?_
    have h8 : (countF ((appF (fewR l) x).1) x.who : Int) = (countF (fewR l) x.who : Int) + 1 := by omega
    refine a_y_on (i := 48) (v := .bool true) 78 (ticked 51 562949953421311) rfl (by as_aux_lemma => kernel_rfl) rfl rfl rfl rfl rfl (by exact y_b (y_k (v := .bool ((countF ((appF (fewR l) x).1) x.who : Int) == ((countF (fewR l) x.who : Int) + 1))) rfl rfl (fun _ => by kernel_rfl)) (beq_iff_eq.2 h8)) ?_
    refine a_y (i := 49) (v := .bool true) (ticked 51 1125899906842623) rfl (by as_aux_lemma => kernel_rfl) rfl rfl rfl (by exact y_pick rfl rfl) ?_
    refine a_y (i := 50) (v := .bool true) (ticked 51 2251799813685247) rfl (by as_aux_lemma => kernel_rfl) rfl rfl rfl (by exact y_as rfl) ?_
    refine a_done (by as_aux_lemma => kernel_rfl) ?_
    refine q_then ?_
    refine c_ret ?_
    refine c_fin (I' := []) [] [6, 7, 8] rfl (.tmp rfl .nil) rfl rfl rfl ?_
    exact ⟨rfl, rfl, rfl⟩
  ·
    refine st rfl (o_y (v := .bool true) (y_b (y_k (v := .bool (((appF (fewR l) x).2) != 0)) rfl rfl (fun _ => by kernel_rfl)) (bne_iff_ne.2 h1)) rfl rfl rfl ?_)
    refine s_nil ?_
    refine q_then ?_
    refine c_true rfl ?_
    refine c_seq ?_
    refine c_region ?_
    refine st rfl (o_y (v := .bool true) (y_mv rfl) rfl rfl rfl ?_)
    refine st rfl (o_y (v := .bool true) (y_mv rfl) rfl rfl rfl ?_)
    refine st_on 21 rfl rfl rfl (o_y (v := .int .i64 ((appF (fewR l) x).2)) (y_mv rfl) rfl rfl rfl ?_)
    have h9 : (appF (fewR l) x).2 = 180 := by omega
    refine st_on 21 rfl rfl rfl (o_y (v := .bool true) (y_b (y_k (v := .bool (((appF (fewR l) x).2) == 180)) rfl rfl (fun _ => by kernel_rfl)) (beq_iff_eq.2 h9)) rfl rfl rfl ?_)
    refine st rfl (o_y (v := .bool true) (y_pick rfl rfl) rfl rfl rfl ?_)
    refine st rfl (o_y (v := .bool true) (y_mv rfl) rfl rfl rfl ?_)
    refine st_on 25 rfl rfl rfl (o_y (v := .slice A2 ((appF (fewR l) x).1).length c2) (y_mv rfl) rfl rfl rfl ?_)
    refine st_on 25 rfl rfl rfl (o_y (v := .int .i64 (((appF (fewR l) x).1).length : Int)) (y_k rfl rfl (fun _ => by kernel_rfl)) rfl rfl rfl ?_)
    have h10 : (((appF (fewR l) x).1).length : Int) = 0 := by omega
    refine st_on 25 rfl rfl rfl (o_y (v := .bool true) (y_b (y_k (v := .bool ((((appF (fewR l) x).1).length : Int) == 0)) rfl rfl (fun _ => by kernel_rfl)) (beq_iff_eq.2 h10)) rfl rfl rfl ?_)
    refine st rfl (o_y (v := .bool true) (y_pick rfl rfl) rfl rfl rfl ?_)
    refine st rfl (o_y (v := .bool true) (y_as rfl) rfl rfl rfl ?_)
    refine s_nil ?_
    refine q_then ?_
    refine c_ret ?_
    refine q_then_ret ?_
    refine c_fin (I' := []) [] [2, 3, 4] rfl (.tmp rfl .nil) rfl rfl rfl ?_
    exact ⟨rfl, rfl, rfl⟩
theorem apart_shown {l : List Rec} {x : Rec} {a : Lab} (h : ¬ x.lab = a) : shownF (l ++ [x]) a = shownF l a := by unfold shownF atL; simp [List.filter_append, h]
theorem apart_seen {l : List Rec} {x : Rec} {a : Lab} (h : ¬ labUnder x.lab a) : seenF a (l ++ [x]) = seenF a l := by unfold seenF; simp [List.filter_append, h]
theorem shownF_len (l : List Rec) (a : Lab) : (shownF l a).length ≤ 10 := by unfold shownF lastTen; rw [List.length_drop]; omega
theorem seenF_len (l : List Rec) (a : Lab) : (seenF a l).length ≤ l.length := List.length_filter_le _ _
end Go.Proofs.YtdfgedkjilpcgaaDoor
