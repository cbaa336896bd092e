/- The six laws of chapter 18 (audit), walked over the given program; no condition but what stands in each theorem: part Nf. -/
import Derived.Test.YtdfgedkjilpcgaaDoorRM
import Derived.Test.YtdfgedkjilpcgaaDoorRNc
set_option linter.unusedVariables false
set_option linter.unusedSimpArgs false
set_option maxRecDepth 100000
set_option maxHeartbeats 8000000
namespace Go.Proofs.YtdfgedkjilpcgaaDoor
open Go Go.Sl Go.RowKit Go.Extern.Stop Go.Stop Go.Extern Go.Shelf
theorem AuditTells_ (A : Option Addr) (c : Nat) (l : List Rec) (a : Lab) (who : Int) (x : Rec) (B : Option Addr) (d : Nat) (r : List Rec) (el : Addr) (hm : ∀ y ∈ l, recSm y) (hx : recSm x) (ha : a.cs < 18446744073709551616) (hmr : ∀ y ∈ r, recSm y) : Con Tryd.prog 8 [.slice A l.length c, .agg #[.int .i64 a.lv, .int .u64 (a.cs : Int), .int .i64 a.ig], .int .i64 who, .agg #[.int .i64 x.st, .int .i64 x.who, .int .i64 x.op, .int .i64 x.e, .int .i64 x.lab.lv, .int .u64 (x.lab.cs : Int), .int .i64 x.lab.ig], .slice B r.length d] [] [rd recTy A c l, rd recTy B d r, cellsAt 0 0 [.iface 106 (.pointer (some el))], errAt el] (fun v L' I' => v = .bool true ∧ L' = [] ∧ I' = []) := by
  have hf := fewR_len l
  have hm1 := fewR_sm hm
  have hf2 := fewR_len r
  have hm2 := fewR_sm hmr
  have hs1 := shownF_len (fewR l) a
  have hs2 := seenF_len (fewR l) a
  refine fn_of Tryd.func8 rfl Tryd.ntmps8 (by kernel_rfl) rfl (fun C => ?_)
  refine c_seq ?_
  refine c_region ?_
  refine st rfl (o_box (cs := [.int .i64 a.lv, .int .u64 (a.cs : Int), .int .i64 a.ig]) (T := 26) rfl rfl rfl rfl (fun _ => by kernel_rfl) (fun b1 => ?_))
  refine st rfl (o_box (cs := [.int .i64 x.st, .int .i64 x.who, .int .i64 x.op, .int .i64 x.e, .int .i64 x.lab.lv, .int .u64 (x.lab.cs : Int), .int .i64 x.lab.ig]) (T := 28) rfl rfl rfl rfl (fun _ => by kernel_rfl) (fun b2 => ?_))
  refine st rfl (o_y (v := .bool false) (y_as rfl) rfl rfl rfl ?_)
  refine s_nil ?_
  refine q_then ?_
  refine c_seq ?_
  refine c_region ?_
  refine st rfl (o_call [] [2, 3] (shown_ el) rfl rfl rfl rfl rfl rfl (fun v L' I' hq1 => ?_))
  obtain ⟨rfl, rfl, rfl⟩ := hq1
  refine st rfl (o_y (v := .bool true) (y_as rfl) rfl rfl rfl ?_)
  refine s_nil ?_
  refine q_then ?_
  refine c_seq ?_
  refine c_region ?_
  refine st rfl (o_y (v := .slice A l.length c) (y_mv rfl) rfl rfl rfl ?_)
  refine st rfl (o_call [] [0] (Few_ A c l) rfl rfl rfl rfl rfl rfl (fun v L' I' hq2 => ?_))
  obtain ⟨A1, c1, rfl, rfl, rfl⟩ := hq2
  refine st rfl (o_y (v := .slice A1 (fewR l).length c1) (y_as rfl) rfl rfl rfl ?_)
  refine s_nil ?_
  refine q_then ?_
  refine c_seq ?_
  refine c_region ?_
  refine st rfl (o_y (v := .slice B r.length d) (y_mv rfl) rfl rfl rfl ?_)
  refine st rfl (o_call [] [2] (Few_ B d r) rfl rfl rfl rfl rfl rfl (fun v L' I' hq3 => ?_))
  obtain ⟨A2, c2, rfl, rfl, rfl⟩ := hq3
  refine st rfl (o_y (v := .slice A2 (fewR r).length c2) (y_as rfl) rfl rfl rfl ?_)
  refine s_nil ?_
  refine q_then ?_
  refine c_seq ?_
  refine c_draw (l := ticked 57 0) [(⟨b1, 0, none⟩, .int .i64 a.lv), (⟨b1, 1, none⟩, .int .u64 (a.cs : Int)), (⟨b1, 2, none⟩, .int .i64 a.ig), (⟨b2, 0, none⟩, .int .i64 x.st), (⟨b2, 1, none⟩, .int .i64 x.who), (⟨b2, 2, none⟩, .int .i64 x.op), (⟨b2, 3, none⟩, .int .i64 x.e), (⟨b2, 4, none⟩, .int .i64 x.lab.lv), (⟨b2, 5, none⟩, .int .u64 (x.lab.cs : Int)), (⟨b2, 6, none⟩, .int .i64 x.lab.ig)] [] (by kernel_rfl) rfl rfl ?_
  refine a_y (i := 0) (v := .bool true) (ticked 57 1) rfl (by as_aux_lemma => kernel_rfl) rfl rfl rfl (by exact y_mv rfl) ?_
  refine a_y (i := 1) (v := .bool true) (ticked 57 3) rfl (by as_aux_lemma => kernel_rfl) rfl rfl rfl (by exact y_mv rfl) ?_
  refine a_y_on (i := 2) (v := .slice A1 (fewR l).length c1) 18 (ticked 57 7) rfl (by as_aux_lemma => kernel_rfl) rfl rfl rfl rfl rfl (by exact y_mv rfl) ?_
  refine a_y_on (i := 4) (v := .slice A1 (fewR l).length c1) 18 (ticked 57 23) rfl (by as_aux_lemma => kernel_rfl) rfl rfl rfl rfl rfl (by exact y_mv rfl) ?_
  refine a_each (rs := [3]) (by as_aux_lemma => kernel_rfl) (.on 18 (ticked 57 31) rfl rfl rfl rfl rfl (o_call [] [1] (Right_ A1 c1 (fewR l) (by first | assumption | omega | (simp; done) | (simp; omega))) rfl rfl rfl rfl rfl rfl (fun v L' I' hq4 => ?_)) .nil) (List.cons_ne_nil _ _)
  obtain ⟨hv1, rfl, rfl⟩ := hq4
  refine e_by (logRight (fewR l)) (fun h1 => ?_) (fun h1 => ?_)
  ·
    obtain rfl : v = .bool true := by rw [hv1, decide_eq_true h1]
    refine a_and (held_pt 1 rfl rfl (held_pt 1 rfl rfl (held_pt 1 rfl rfl (held_pt 0 rfl rfl (held_pt 0 rfl rfl (held_pt 0 rfl rfl (held_pt 0 rfl rfl (held_pt 0 rfl rfl (held_pt 0 rfl rfl (held_pt 0 rfl rfl held_nil)))))))))) ?_
    refine a_each (rs := [5]) (by as_aux_lemma => kernel_rfl) (.on 18 (ticked 57 63) rfl rfl rfl rfl rfl (o_call [] [1] (rRight_ A1 c1 (fewR l) (by first | assumption | omega | (simp; done) | (simp; omega))) rfl rfl rfl rfl rfl rfl (fun v L' I' hq5 => ?_)) .nil) (List.cons_ne_nil _ _)
    obtain ⟨hv2, rfl, rfl⟩ := hq5
    obtain rfl : v = .bool true := by rw [hv2, decide_eq_true (show logRight (fewR l) from h1)]
    refine a_and (held_pt 1 rfl rfl (held_pt 1 rfl rfl (held_pt 1 rfl rfl (held_pt 0 rfl rfl (held_pt 0 rfl rfl (held_pt 0 rfl rfl (held_pt 0 rfl rfl (held_pt 0 rfl rfl (held_pt 0 rfl rfl (held_pt 0 rfl rfl held_nil)))))))))) ?_
    refine a_y_on (i := 6) (v := .bool true) 18 (ticked 57 127) rfl (by as_aux_lemma => kernel_rfl) rfl rfl rfl rfl rfl (by exact y_k rfl rfl (fun _ => by kernel_rfl)) ?_
    refine a_y (i := 7) (v := .bool true) (ticked 57 255) rfl (by as_aux_lemma => kernel_rfl) rfl rfl rfl (by exact y_pick rfl rfl) ?_
    refine a_y (i := 8) (v := .bool true) (ticked 57 511) rfl (by as_aux_lemma => kernel_rfl) rfl rfl rfl (by exact y_mv rfl) ?_
    refine a_y_on (i := 9) (v := .slice A1 (fewR l).length c1) 25 (ticked 57 1023) rfl (by as_aux_lemma => kernel_rfl) rfl rfl rfl rfl rfl (by exact y_mv rfl) ?_
    refine a_y_on (i := 12) (v := .slice A1 (fewR l).length c1) 25 (ticked 57 5119) rfl (by as_aux_lemma => kernel_rfl) rfl rfl rfl rfl rfl (by exact y_mv rfl) ?_
    refine a_held_on (i := 10) 25 (ticked 57 6143) rfl (by as_aux_lemma => kernel_rfl) rfl rfl rfl rfl rfl (held_pt 1 rfl rfl (held_pt 1 rfl rfl (held_pt 1 rfl rfl (held_pt 0 rfl rfl (held_pt 0 rfl rfl (held_pt 0 rfl rfl (held_pt 0 rfl rfl (held_pt 0 rfl rfl (held_pt 0 rfl rfl (held_pt 0 rfl rfl held_nil)))))))))) (h_ldn (vs := [.int .i64 a.lv, .int .u64 (a.cs : Int), .int .i64 a.ig]) 0 3 rfl rfl rfl Tryd.underlying26 rfl (by kernel_rfl) (by kernel_rfl)) ?_
    refine a_held_on (i := 13) 25 (ticked 57 14335) rfl (by as_aux_lemma => kernel_rfl) rfl rfl rfl rfl rfl (held_pt 1 rfl rfl (held_pt 1 rfl rfl (held_pt 1 rfl rfl (held_pt 0 rfl rfl (held_pt 0 rfl rfl (held_pt 0 rfl rfl (held_pt 0 rfl rfl (held_pt 0 rfl rfl (held_pt 0 rfl rfl (held_pt 0 rfl rfl held_nil)))))))))) (h_ldn (vs := [.int .i64 a.lv, .int .u64 (a.cs : Int), .int .i64 a.ig]) 0 3 rfl rfl rfl Tryd.underlying26 rfl (by kernel_rfl) (by kernel_rfl)) ?_
    refine a_each (rs := [11]) (by as_aux_lemma => kernel_rfl) (.on 25 (ticked 57 16383) rfl rfl rfl rfl rfl (o_call [] [1] (Shown_ A1 c1 (fewR l) a (by first | assumption | omega | (simp; done) | (simp; omega)) (by assumption)) rfl rfl rfl rfl rfl rfl (fun v L' I' hq6 => ?_)) .nil) (List.cons_ne_nil _ _)
    obtain ⟨A3, c3, rfl, rfl, rfl⟩ := hq6
    refine a_and (held_pt 1 rfl rfl (held_pt 1 rfl rfl (held_pt 1 rfl rfl (held_pt 0 rfl rfl (held_pt 0 rfl rfl (held_pt 0 rfl rfl (held_pt 0 rfl rfl (held_pt 0 rfl rfl (held_pt 0 rfl rfl (held_pt 0 rfl rfl held_nil)))))))))) ?_
    refine a_each (rs := [14]) (by as_aux_lemma => kernel_rfl) (.on 25 (ticked 57 32767) rfl rfl rfl rfl rfl (o_call [] [2] (rShown_ A1 c1 (fewR l) a (by first | assumption | omega | (simp; done) | (simp; omega)) (by assumption)) rfl rfl rfl rfl rfl rfl (fun v L' I' hq7 => ?_)) .nil) (List.cons_ne_nil _ _)
    obtain ⟨A4, c4, rfl, rfl, rfl⟩ := hq7
    refine a_and (held_pt 1 rfl rfl (held_pt 1 rfl rfl (held_pt 1 rfl rfl (held_pt 0 rfl rfl (held_pt 0 rfl rfl (held_pt 0 rfl rfl (held_pt 0 rfl rfl (held_pt 0 rfl rfl (held_pt 0 rfl rfl (held_pt 0 rfl rfl held_nil)))))))))) ?_
    refine a_each (rs := [15]) (by as_aux_lemma => kernel_rfl) (.on 25 (ticked 57 65535) rfl rfl rfl rfl rfl (o_call [] [1, 0] (rTexts_ A3 c3 (shownF (fewR l) a) A4 c4 (shownF (fewR l) a) (by first | assumption | omega | (simp; done) | (simp; omega))) rfl rfl rfl rfl rfl rfl (fun v L' I' hq8 => ?_)) .nil) (List.cons_ne_nil _ _)
    obtain ⟨hv3, rfl, rfl⟩ := hq8
    obtain rfl : v = .bool true := by rw [hv3, decide_eq_true (show (shownF (fewR l) a) = (shownF (fewR l) a) from rfl)]
    refine a_and (held_pt 1 rfl rfl (held_pt 1 rfl rfl (held_pt 1 rfl rfl (held_pt 0 rfl rfl (held_pt 0 rfl rfl (held_pt 0 rfl rfl (held_pt 0 rfl rfl (held_pt 0 rfl rfl (held_pt 0 rfl rfl (held_pt 0 rfl rfl held_nil)))))))))) ?_
    refine a_y (i := 16) (v := .bool true) (ticked 57 131071) rfl (by as_aux_lemma => kernel_rfl) rfl rfl rfl (by exact y_pick rfl rfl) ?_
    refine a_y (i := 17) (v := .bool true) (ticked 57 262143) rfl (by as_aux_lemma => kernel_rfl) rfl rfl rfl (by exact y_mv rfl) ?_
    refine a_y_on (i := 18) (v := .slice A1 (fewR l).length c1) 34 (ticked 57 524287) rfl (by as_aux_lemma => kernel_rfl) rfl rfl rfl rfl rfl (by exact y_mv rfl) ?_
    refine a_y_on (i := 21) (v := .slice A1 (fewR l).length c1) 34 (ticked 57 2621439) rfl (by as_aux_lemma => kernel_rfl) rfl rfl rfl rfl rfl (by exact y_mv rfl) ?_
    refine a_held_on (i := 19) 34 (ticked 57 3145727) rfl (by as_aux_lemma => kernel_rfl) rfl rfl rfl rfl rfl (held_pt 1 rfl rfl (held_pt 1 rfl rfl (held_pt 1 rfl rfl (held_pt 0 rfl rfl (held_pt 0 rfl rfl (held_pt 0 rfl rfl (held_pt 0 rfl rfl (held_pt 0 rfl rfl (held_pt 0 rfl rfl (held_pt 0 rfl rfl held_nil)))))))))) (h_ldn (vs := [.int .i64 a.lv, .int .u64 (a.cs : Int), .int .i64 a.ig]) 0 3 rfl rfl rfl Tryd.underlying26 rfl (by kernel_rfl) (by kernel_rfl)) ?_
    refine a_held_on (i := 22) 34 (ticked 57 7340031) rfl (by as_aux_lemma => kernel_rfl) rfl rfl rfl rfl rfl (held_pt 1 rfl rfl (held_pt 1 rfl rfl (held_pt 1 rfl rfl (held_pt 0 rfl rfl (held_pt 0 rfl rfl (held_pt 0 rfl rfl (held_pt 0 rfl rfl (held_pt 0 rfl rfl (held_pt 0 rfl rfl (held_pt 0 rfl rfl held_nil)))))))))) (h_ldn (vs := [.int .i64 a.lv, .int .u64 (a.cs : Int), .int .i64 a.ig]) 0 3 rfl rfl rfl Tryd.underlying26 rfl (by kernel_rfl) (by kernel_rfl)) ?_
    refine a_each (rs := [20]) (by as_aux_lemma => kernel_rfl) (.on 34 (ticked 57 8388607) rfl rfl rfl rfl rfl (o_call [] [3] (Seen_ A1 c1 (fewR l) a (by first | assumption | omega | (simp; done) | (simp; omega))) rfl rfl rfl rfl rfl rfl (fun v L' I' hq9 => ?_)) .nil) (List.cons_ne_nil _ _)
    obtain ⟨A5, c5, rfl, rfl, rfl⟩ := hq9
    refine a_and (held_pt 1 rfl rfl (held_pt 1 rfl rfl (held_pt 1 rfl rfl (held_pt 0 rfl rfl (held_pt 0 rfl rfl (held_pt 0 rfl rfl (held_pt 0 rfl rfl (held_pt 0 rfl rfl (held_pt 0 rfl rfl (held_pt 0 rfl rfl held_nil)))))))))) ?_
    refine a_each (rs := [23]) (by as_aux_lemma => kernel_rfl) (.on 34 (ticked 57 16777215) rfl rfl rfl rfl rfl (o_call [] [4] (rSeen_ A1 c1 (fewR l) a (by first | assumption | omega | (simp; done) | (simp; omega)) (by assumption) (by first | assumption | decide)) rfl rfl rfl rfl rfl rfl (fun v L' I' hq10 => ?_)) .nil) (List.cons_ne_nil _ _)
    obtain ⟨A6, c6, rfl, rfl, rfl⟩ := hq10
    refine a_and (held_pt 1 rfl rfl (held_pt 1 rfl rfl (held_pt 1 rfl rfl (held_pt 0 rfl rfl (held_pt 0 rfl rfl (held_pt 0 rfl rfl (held_pt 0 rfl rfl (held_pt 0 rfl rfl (held_pt 0 rfl rfl (held_pt 0 rfl rfl held_nil)))))))))) ?_
    refine a_each (rs := [24]) (by as_aux_lemma => kernel_rfl) (.on 34 (ticked 57 33554431) rfl rfl rfl rfl rfl (o_call [] [1, 0] (rSame_ A5 c5 (seenF a (fewR l)) A6 c6 (seenF a (fewR l)) (by first | assumption | omega | (simp; done) | (simp; omega))) rfl rfl rfl rfl rfl rfl (fun v L' I' hq11 => ?_)) .nil) (List.cons_ne_nil _ _)
    obtain ⟨hv4, rfl, rfl⟩ := hq11
    obtain rfl : v = .bool true := by rw [hv4, decide_eq_true (show (seenF a (fewR l)) = (seenF a (fewR l)) from rfl)]
    refine a_and (held_pt 1 rfl rfl (held_pt 1 rfl rfl (held_pt 1 rfl rfl (held_pt 0 rfl rfl (held_pt 0 rfl rfl (held_pt 0 rfl rfl (held_pt 0 rfl rfl (held_pt 0 rfl rfl (held_pt 0 rfl rfl (held_pt 0 rfl rfl held_nil)))))))))) ?_
    refine a_y (i := 25) (v := .bool true) (ticked 57 67108863) rfl (by as_aux_lemma => kernel_rfl) rfl rfl rfl (by exact y_pick rfl rfl) ?_
    refine a_y (i := 26) (v := .bool true) (ticked 57 134217727) rfl (by as_aux_lemma => kernel_rfl) rfl rfl rfl (by exact y_mv rfl) ?_
    refine a_y_on (i := 27) (v := .slice A1 (fewR l).length c1) 43 (ticked 57 268435455) rfl (by as_aux_lemma => kernel_rfl) rfl rfl rfl rfl rfl (by exact y_mv rfl) ?_
    refine a_y_on (i := 28) (v := .int .i64 who) 43 (ticked 57 536870911) rfl (by as_aux_lemma => kernel_rfl) rfl rfl rfl rfl rfl (by exact y_mv rfl) ?_
    refine a_y_on (i := 30) (v := .slice A1 (fewR l).length c1) 43 (ticked 57 1610612735) rfl (by as_aux_lemma => kernel_rfl) rfl rfl rfl rfl rfl (by exact y_mv rfl) ?_
    refine a_y_on (i := 31) (v := .int .i64 who) 43 (ticked 57 3758096383) rfl (by as_aux_lemma => kernel_rfl) rfl rfl rfl rfl rfl (by exact y_mv rfl) ?_
    refine a_each (rs := [29]) (by as_aux_lemma => kernel_rfl) (.on 43 (ticked 57 4294967295) rfl rfl rfl rfl rfl (o_call [] [5] (Count_ A1 c1 (fewR l) who (by first | assumption | omega | (simp; done) | (simp; omega))) rfl rfl rfl rfl rfl rfl (fun v L' I' hq12 => ?_)) .nil) (List.cons_ne_nil _ _)
    obtain ⟨rfl, rfl, rfl⟩ := hq12
    refine a_and (held_pt 1 rfl rfl (held_pt 1 rfl rfl (held_pt 1 rfl rfl (held_pt 0 rfl rfl (held_pt 0 rfl rfl (held_pt 0 rfl rfl (held_pt 0 rfl rfl (held_pt 0 rfl rfl (held_pt 0 rfl rfl (held_pt 0 rfl rfl held_nil)))))))))) ?_
    refine a_each (rs := [32]) (by as_aux_lemma => kernel_rfl) (.on 43 (ticked 57 8589934591) rfl rfl rfl rfl rfl (o_call [] [5] (rCount_ A1 c1 (fewR l) who (by first | assumption | omega | (simp; done) | (simp; omega))) rfl rfl rfl rfl rfl rfl (fun v L' I' hq13 => ?_)) .nil) (List.cons_ne_nil _ _)
    obtain ⟨rfl, rfl, rfl⟩ := hq13
    refine a_and (held_pt 1 rfl rfl (held_pt 1 rfl rfl (held_pt 1 rfl rfl (held_pt 0 rfl rfl (held_pt 0 rfl rfl (held_pt 0 rfl rfl (held_pt 0 rfl rfl (held_pt 0 rfl rfl (held_pt 0 rfl rfl (held_pt 0 rfl rfl held_nil)))))))))) ?_
    have h2 : (countF (fewR l) who : Int) = (countF (fewR l) who : Int) := rfl
    refine a_y_on (i := 33) (v := .bool true) 43 (ticked 57 17179869183) rfl (by as_aux_lemma => kernel_rfl) rfl rfl rfl rfl rfl (by exact y_b (y_k (v := .bool ((countF (fewR l) who : Int) == (countF (fewR l) who : Int))) rfl rfl (fun _ => by kernel_rfl)) (beq_iff_eq.2 h2)) ?_
    refine a_y (i := 34) (v := .bool true) (ticked 57 34359738367) rfl (by as_aux_lemma => kernel_rfl) rfl rfl rfl (by exact y_pick rfl rfl) ?_
    refine a_y (i := 35) (v := .bool true) (ticked 57 68719476735) rfl (by as_aux_lemma => kernel_rfl) rfl rfl rfl (by exact y_mv rfl) ?_
    refine a_held_on (i := 36) 52 (ticked 57 137438953471) rfl (by as_aux_lemma => kernel_rfl) rfl rfl rfl rfl rfl (held_pt 1 rfl rfl (held_pt 1 rfl rfl (held_pt 1 rfl rfl (held_pt 0 rfl rfl (held_pt 0 rfl rfl (held_pt 0 rfl rfl (held_pt 0 rfl rfl (held_pt 0 rfl rfl (held_pt 0 rfl rfl (held_pt 0 rfl rfl held_nil)))))))))) (h_ldn (vs := [.int .i64 x.st, .int .i64 x.who, .int .i64 x.op, .int .i64 x.e, .int .i64 x.lab.lv, .int .u64 (x.lab.cs : Int), .int .i64 x.lab.ig]) 3 7 rfl rfl rfl Tryd.underlying28 rfl (by kernel_rfl) (by kernel_rfl)) ?_
    refine a_held_on (i := 38) 52 (ticked 57 412316860415) rfl (by as_aux_lemma => kernel_rfl) rfl rfl rfl rfl rfl (held_pt 1 rfl rfl (held_pt 1 rfl rfl (held_pt 1 rfl rfl (held_pt 0 rfl rfl (held_pt 0 rfl rfl (held_pt 0 rfl rfl (held_pt 0 rfl rfl (held_pt 0 rfl rfl (held_pt 0 rfl rfl (held_pt 0 rfl rfl held_nil)))))))))) (h_ldn (vs := [.int .i64 x.st, .int .i64 x.who, .int .i64 x.op, .int .i64 x.e, .int .i64 x.lab.lv, .int .u64 (x.lab.cs : Int), .int .i64 x.lab.ig]) 3 7 rfl rfl rfl Tryd.underlying28 rfl (by kernel_rfl) (by kernel_rfl)) ?_
    refine a_each (rs := [37]) (by as_aux_lemma => kernel_rfl) (.on 52 (ticked 57 549755813887) rfl rfl rfl rfl rfl (o_call [] [] (Line_ x (by first | assumption | exact (by assumption : ∀ y ∈ _, recSm y) _ (List.mem_of_getElem? (by assumption)))) rfl rfl rfl rfl rfl rfl (fun v L' I' hq14 => ?_)) .nil) (List.cons_ne_nil _ _)
    obtain ⟨rfl, rfl, rfl⟩ := hq14
    refine a_and (held_pt 1 rfl rfl (held_pt 1 rfl rfl (held_pt 1 rfl rfl (held_pt 0 rfl rfl (held_pt 0 rfl rfl (held_pt 0 rfl rfl (held_pt 0 rfl rfl (held_pt 0 rfl rfl (held_pt 0 rfl rfl (held_pt 0 rfl rfl held_nil)))))))))) ?_
    refine a_each (rs := [39]) (by as_aux_lemma => kernel_rfl) (.on 52 (ticked 57 1099511627775) rfl rfl rfl rfl rfl (o_call [] [] (rLine_ x (by first | assumption | exact (by assumption : ∀ y ∈ _, recSm y) _ (List.mem_of_getElem? (by assumption)))) rfl rfl rfl rfl rfl rfl (fun v L' I' hq15 => ?_)) .nil) (List.cons_ne_nil _ _)
    obtain ⟨rfl, rfl, rfl⟩ := hq15
    refine a_and (held_pt 1 rfl rfl (held_pt 1 rfl rfl (held_pt 1 rfl rfl (held_pt 0 rfl rfl (held_pt 0 rfl rfl (held_pt 0 rfl rfl (held_pt 0 rfl rfl (held_pt 0 rfl rfl (held_pt 0 rfl rfl (held_pt 0 rfl rfl held_nil)))))))))) ?_
    have h3 : lineF x = lineF x := rfl
    refine a_y_on (i := 40) (v := .bool true) 52 (ticked 57 2199023255551) rfl (by as_aux_lemma => kernel_rfl) rfl rfl rfl rfl rfl (by exact y_b (y_k (v := .bool ((lineF x).toList == (lineF x).toList)) rfl rfl (fun _ => by kernel_rfl)) (str_t h3)) ?_
    refine a_y (i := 41) (v := .bool true) (ticked 57 4398046511103) rfl (by as_aux_lemma => kernel_rfl) rfl rfl rfl (by exact y_pick rfl rfl) ?_
    refine a_y (i := 42) (v := .bool true) (ticked 57 8796093022207) rfl (by as_aux_lemma => kernel_rfl) rfl rfl rfl (by exact y_mv rfl) ?_
    refine a_y_on (i := 43) (v := .slice A1 (fewR l).length c1) 59 (ticked 57 17592186044415) rfl (by as_aux_lemma => kernel_rfl) rfl rfl rfl rfl rfl (by exact y_mv rfl) ?_
    refine a_y_on (i := 44) (v := .slice A2 (fewR r).length c2) 59 (ticked 57 35184372088831) rfl (by as_aux_lemma => kernel_rfl) rfl rfl rfl rfl rfl (by exact y_mv rfl) ?_
    refine a_y_on (i := 46) (v := .slice A1 (fewR l).length c1) 59 (ticked 57 105553116266495) rfl (by as_aux_lemma => kernel_rfl) rfl rfl rfl rfl rfl (by exact y_mv rfl) ?_
    refine a_y_on (i := 47) (v := .slice A2 (fewR r).length c2) 59 (ticked 57 246290604621823) rfl (by as_aux_lemma => kernel_rfl) rfl rfl rfl rfl rfl (by exact y_mv rfl) ?_
    refine a_each (rs := [45]) (by as_aux_lemma => kernel_rfl) (.on 59 (ticked 57 281474976710655) rfl rfl rfl rfl rfl (o_call [] [5, 4] (Same_ A1 c1 (fewR l) A2 c2 (fewR r) (by first | assumption | omega | (simp; done) | (simp; omega))) rfl rfl rfl rfl rfl rfl (fun v L' I' hq16 => ?_)) .nil) (List.cons_ne_nil _ _)
    obtain ⟨hv5, rfl, rfl⟩ := hq16
    refine e_by ((fewR l) = (fewR r)) (fun h4 => ?_) (fun h4 => ?_)
    ·
      obtain rfl : v = .bool true := by rw [hv5, decide_eq_true h4]
      refine a_and (held_pt 1 rfl rfl (held_pt 1 rfl rfl (held_pt 1 rfl rfl (held_pt 0 rfl rfl (held_pt 0 rfl rfl (held_pt 0 rfl rfl (held_pt 0 rfl rfl (held_pt 0 rfl rfl (held_pt 0 rfl rfl (held_pt 0 rfl rfl held_nil)))))))))) ?_
      refine a_each (rs := [48]) (by as_aux_lemma => kernel_rfl) (.on 59 (ticked 57 562949953421311) rfl rfl rfl rfl rfl (o_call [] [5, 4] (rSame_ A1 c1 (fewR l) A2 c2 (fewR r) (by first | assumption | omega | (simp; done) | (simp; omega))) rfl rfl rfl rfl rfl rfl (fun v L' I' hq17 => ?_)) .nil) (List.cons_ne_nil _ _)
      obtain ⟨hv6, rfl, rfl⟩ := hq17
      obtain rfl : v = .bool true := by rw [hv6, decide_eq_true (show (fewR l) = (fewR r) from h4)]
      refine a_and (held_pt 1 rfl rfl (held_pt 1 rfl rfl (held_pt 1 rfl rfl (held_pt 0 rfl rfl (held_pt 0 rfl rfl (held_pt 0 rfl rfl (held_pt 0 rfl rfl (held_pt 0 rfl rfl (held_pt 0 rfl rfl (held_pt 0 rfl rfl held_nil)))))))))) ?_
      refine a_y_on (i := 49) (v := .bool true) 59 (ticked 57 1125899906842623) rfl (by as_aux_lemma => kernel_rfl) rfl rfl rfl rfl rfl (by exact y_k rfl rfl (fun _ => by kernel_rfl)) ?_
      refine a_y (i := 50) (v := .bool true) (ticked 57 2251799813685247) rfl (by as_aux_lemma => kernel_rfl) rfl rfl rfl (by exact y_pick rfl rfl) ?_
      refine a_y (i := 51) (v := .bool true) (ticked 57 4503599627370495) rfl (by as_aux_lemma => kernel_rfl) rfl rfl rfl (by exact y_mv rfl) ?_
      refine a_y_on (i := 52) (v := .slice A1 (fewR l).length c1) 68 (ticked 57 9007199254740991) rfl (by as_aux_lemma => kernel_rfl) rfl rfl rfl rfl rfl (by exact y_mv rfl) ?_
      refine a_y_on (i := 53) (v := .slice A1 (fewR l).length c1) 68 (ticked 57 18014398509481983) rfl (by as_aux_lemma => kernel_rfl) rfl rfl rfl rfl rfl (by exact y_mv rfl) ?_
      refine a_each (rs := [54]) (by as_aux_lemma => kernel_rfl) (.on 68 (ticked 57 36028797018963967) rfl rfl rfl rfl rfl (o_call [] [5, 5] (Same_ A1 c1 (fewR l) A1 c1 (fewR l) (by first | assumption | omega | (simp; done) | (simp; omega))) rfl rfl rfl rfl rfl rfl (fun v L' I' hq18 => ?_)) .nil) (List.cons_ne_nil _ _)
      obtain ⟨hv7, rfl, rfl⟩ := hq18
      obtain rfl : v = .bool true := by rw [hv7, decide_eq_true (show (fewR l) = (fewR l) from rfl)]
      refine a_and (held_pt 1 rfl rfl (held_pt 1 rfl rfl (held_pt 1 rfl rfl (held_pt 0 rfl rfl (held_pt 0 rfl rfl (held_pt 0 rfl rfl (held_pt 0 rfl rfl (held_pt 0 rfl rfl (held_pt 0 rfl rfl (held_pt 0 rfl rfl held_nil)))))))))) ?_
      refine a_y (i := 55) (v := .bool true) (ticked 57 72057594037927935) rfl (by as_aux_lemma => kernel_rfl) rfl rfl rfl (by exact y_pick rfl rfl) ?_
      refine a_y (i := 56) (v := .bool true) (ticked 57 144115188075855871) rfl (by as_aux_lemma => kernel_rfl) rfl rfl rfl (by exact y_as rfl) ?_
      refine a_done (by as_aux_lemma => kernel_rfl) ?_
      refine q_then ?_
      refine c_ret ?_
      refine c_fin (I' := []) [] [6, 7, 8, 9] rfl (.tmp rfl .nil) rfl rfl rfl ?_
      exact ⟨rfl, rfl, rfl⟩
    ·
      obtain rfl : v = .bool false := by rw [hv5, decide_eq_false h4]
      refine a_and (held_pt 1 rfl rfl (held_pt 1 rfl rfl (held_pt 1 rfl rfl (held_pt 0 rfl rfl (held_pt 0 rfl rfl (held_pt 0 rfl rfl (held_pt 0 rfl rfl (held_pt 0 rfl rfl (held_pt 0 rfl rfl (held_pt 0 rfl rfl held_nil)))))))))) ?_
      refine a_each (rs := [48]) (by as_aux_lemma => kernel_rfl) (.on 59 (ticked 57 562949953421311) rfl rfl rfl rfl rfl (o_call [] [5, 4] (rSame_ A1 c1 (fewR l) A2 c2 (fewR r) (by first | assumption | omega | (simp; done) | (simp; omega))) rfl rfl rfl rfl rfl rfl (fun v L' I' hq19 => ?_)) .nil) (List.cons_ne_nil _ _)
      obtain ⟨hv8, rfl, rfl⟩ := hq19
      obtain rfl : v = .bool false := by rw [hv8, decide_eq_false (show ¬ ((fewR l) = (fewR r)) from h4)]
      refine a_and (held_pt 1 rfl rfl (held_pt 1 rfl rfl (held_pt 1 rfl rfl (held_pt 0 rfl rfl (held_pt 0 rfl rfl (held_pt 0 rfl rfl (held_pt 0 rfl rfl (held_pt 0 rfl rfl (held_pt 0 rfl rfl (held_pt 0 rfl rfl held_nil)))))))))) ?_
      refine a_y_on (i := 49) (v := .bool true) 59 (ticked 57 1125899906842623) rfl (by as_aux_lemma => kernel_rfl) rfl rfl rfl rfl rfl (by exact y_k rfl rfl (fun _ => by kernel_rfl)) ?_
      refine a_y (i := 50) (v := .bool true) (ticked 57 2251799813685247) rfl (by as_aux_lemma => kernel_rfl) rfl rfl rfl (by exact y_pick rfl rfl) ?_
      refine a_y (i := 51) (v := .bool true) (ticked 57 4503599627370495) rfl (by as_aux_lemma => kernel_rfl) rfl rfl rfl (by exact y_mv rfl) ?_
      refine a_y_on (i := 52) (v := .slice A1 (fewR l).length c1) 68 (ticked 57 9007199254740991) rfl (by as_aux_lemma => kernel_rfl) rfl rfl rfl rfl rfl (by exact y_mv rfl) ?_
      refine a_y_on (i := 53) (v := .slice A1 (fewR l).length c1) 68 (ticked 57 18014398509481983) rfl (by as_aux_lemma => kernel_rfl) rfl rfl rfl rfl rfl (by exact y_mv rfl) ?_
      refine a_each (rs := [54]) (by as_aux_lemma => kernel_rfl) (.on 68 (ticked 57 36028797018963967) rfl rfl rfl rfl rfl (o_call [] [5, 5] (Same_ A1 c1 (fewR l) A1 c1 (fewR l) (by first | assumption | omega | (simp; done) | (simp; omega))) rfl rfl rfl rfl rfl rfl (fun v L' I' hq20 => ?_)) .nil) (List.cons_ne_nil _ _)
      obtain ⟨hv9, rfl, rfl⟩ := hq20
      obtain rfl : v = .bool true := by rw [hv9, decide_eq_true (show (fewR l) = (fewR l) from rfl)]
      refine a_and (held_pt 1 rfl rfl (held_pt 1 rfl rfl (held_pt 1 rfl rfl (held_pt 0 rfl rfl (held_pt 0 rfl rfl (held_pt 0 rfl rfl (held_pt 0 rfl rfl (held_pt 0 rfl rfl (held_pt 0 rfl rfl (held_pt 0 rfl rfl held_nil)))))))))) ?_
      refine a_y (i := 55) (v := .bool true) (ticked 57 72057594037927935) rfl (by as_aux_lemma => kernel_rfl) rfl rfl rfl (by exact y_pick rfl rfl) ?_
      refine a_y (i := 56) (v := .bool true) (ticked 57 144115188075855871) rfl (by as_aux_lemma => kernel_rfl) rfl rfl rfl (by exact y_as rfl) ?_
      refine a_done (by as_aux_lemma => kernel_rfl) ?_
      refine q_then ?_
      refine c_ret ?_
      refine c_fin (I' := []) [] [6, 7, 8, 9] rfl (.tmp rfl .nil) rfl rfl rfl ?_
      exact ⟨rfl, rfl, rfl⟩
  ·
    obtain rfl : v = .bool false := by rw [hv1, decide_eq_false h1]
    refine a_and (held_pt 1 rfl rfl (held_pt 1 rfl rfl (held_pt 1 rfl rfl (held_pt 0 rfl rfl (held_pt 0 rfl rfl (held_pt 0 rfl rfl (held_pt 0 rfl rfl (held_pt 0 rfl rfl (held_pt 0 rfl rfl (held_pt 0 rfl rfl held_nil)))))))))) ?_
    refine a_each (rs := [5]) (by as_aux_lemma => kernel_rfl) (.on 18 (ticked 57 63) rfl rfl rfl rfl rfl (o_call [] [1] (rRight_ A1 c1 (fewR l) (by first | assumption | omega | (simp; done) | (simp; omega))) rfl rfl rfl rfl rfl rfl (fun v L' I' hq21 => ?_)) .nil) (List.cons_ne_nil _ _)
    obtain ⟨hv10, rfl, rfl⟩ := hq21
    obtain rfl : v = .bool false := by rw [hv10, decide_eq_false (show ¬ (logRight (fewR l)) from h1)]
    refine a_and (held_pt 1 rfl rfl (held_pt 1 rfl rfl (held_pt 1 rfl rfl (held_pt 0 rfl rfl (held_pt 0 rfl rfl (held_pt 0 rfl rfl (held_pt 0 rfl rfl (held_pt 0 rfl rfl (held_pt 0 rfl rfl (held_pt 0 rfl rfl held_nil)))))))))) ?_
    refine a_y_on (i := 6) (v := .bool true) 18 (ticked 57 127) rfl (by as_aux_lemma => kernel_rfl) rfl rfl rfl rfl rfl (by exact y_k rfl rfl (fun _ => by kernel_rfl)) ?_
    refine a_y (i := 7) (v := .bool true) (ticked 57 255) rfl (by as_aux_lemma => kernel_rfl) rfl rfl rfl (by exact y_pick rfl rfl) ?_
    refine a_y (i := 8) (v := .bool true) (ticked 57 511) rfl (by as_aux_lemma => kernel_rfl) rfl rfl rfl (by exact y_mv rfl) ?_
    refine a_y_on (i := 9) (v := .slice A1 (fewR l).length c1) 25 (ticked 57 1023) rfl (by as_aux_lemma => kernel_rfl) rfl rfl rfl rfl rfl (by exact y_mv rfl) ?_
    refine a_y_on (i := 12) (v := .slice A1 (fewR l).length c1) 25 (ticked 57 5119) rfl (by as_aux_lemma => kernel_rfl) rfl rfl rfl rfl rfl (by exact y_mv rfl) ?_
    refine a_held_on (i := 10) 25 (ticked 57 6143) rfl (by as_aux_lemma => kernel_rfl) rfl rfl rfl rfl rfl (held_pt 1 rfl rfl (held_pt 1 rfl rfl (held_pt 1 rfl rfl (held_pt 0 rfl rfl (held_pt 0 rfl rfl (held_pt 0 rfl rfl (held_pt 0 rfl rfl (held_pt 0 rfl rfl (held_pt 0 rfl rfl (held_pt 0 rfl rfl held_nil)))))))))) (h_ldn (vs := [.int .i64 a.lv, .int .u64 (a.cs : Int), .int .i64 a.ig]) 0 3 rfl rfl rfl Tryd.underlying26 rfl (by kernel_rfl) (by kernel_rfl)) ?_
    refine a_held_on (i := 13) 25 (ticked 57 14335) rfl (by as_aux_lemma => kernel_rfl) rfl rfl rfl rfl rfl (held_pt 1 rfl rfl (held_pt 1 rfl rfl (held_pt 1 rfl rfl (held_pt 0 rfl rfl (held_pt 0 rfl rfl (held_pt 0 rfl rfl (held_pt 0 rfl rfl (held_pt 0 rfl rfl (held_pt 0 rfl rfl (held_pt 0 rfl rfl held_nil)))))))))) (h_ldn (vs := [.int .i64 a.lv, .int .u64 (a.cs : Int), .int .i64 a.ig]) 0 3 rfl rfl rfl Tryd.underlying26 rfl (by kernel_rfl) (by kernel_rfl)) ?_
    refine a_each (rs := [11]) (by as_aux_lemma => kernel_rfl) (.on 25 (ticked 57 16383) rfl rfl rfl rfl rfl (o_call [] [1] (Shown_ A1 c1 (fewR l) a (by first | assumption | omega | (simp; done) | (simp; omega)) (by assumption)) rfl rfl rfl rfl rfl rfl (fun v L' I' hq22 => ?_)) .nil) (List.cons_ne_nil _ _)
    obtain ⟨A7, c7, rfl, rfl, rfl⟩ := hq22
    refine a_and (held_pt 1 rfl rfl (held_pt 1 rfl rfl (held_pt 1 rfl rfl (held_pt 0 rfl rfl (held_pt 0 rfl rfl (held_pt 0 rfl rfl (held_pt 0 rfl rfl (held_pt 0 rfl rfl (held_pt 0 rfl rfl (held_pt 0 rfl rfl held_nil)))))))))) ?_
    refine a_each (rs := [14]) (by as_aux_lemma => kernel_rfl) (.on 25 (ticked 57 32767) rfl rfl rfl rfl rfl (o_call [] [2] (rShown_ A1 c1 (fewR l) a (by first | assumption | omega | (simp; done) | (simp; omega)) (by assumption)) rfl rfl rfl rfl rfl rfl (fun v L' I' hq23 => ?_)) .nil) (List.cons_ne_nil _ _)
    obtain ⟨A8, c8, rfl, rfl, rfl⟩ := hq23
    refine a_and (held_pt 1 rfl rfl (held_pt 1 rfl rfl (held_pt 1 rfl rfl (held_pt 0 rfl rfl (held_pt 0 rfl rfl (held_pt 0 rfl rfl (held_pt 0 rfl rfl (held_pt 0 rfl rfl (held_pt 0 rfl rfl (held_pt 0 rfl rfl held_nil)))))))))) ?_
    refine a_each (rs := [15]) (by as_aux_lemma => kernel_rfl) (.on 25 (ticked 57 65535) rfl rfl rfl rfl rfl (o_call [] [1, 0] (rTexts_ A7 c7 (shownF (fewR l) a) A8 c8 (shownF (fewR l) a) (by first | assumption | omega | (simp; done) | (simp; omega))) rfl rfl rfl rfl rfl rfl (fun v L' I' hq24 => ?_)) .nil) (List.cons_ne_nil _ _)
    obtain ⟨hv11, rfl, rfl⟩ := hq24
    obtain rfl : v = .bool true := by rw [hv11, decide_eq_true (show (shownF (fewR l) a) = (shownF (fewR l) a) from rfl)]
    refine a_and (held_pt 1 rfl rfl (held_pt 1 rfl rfl (held_pt 1 rfl rfl (held_pt 0 rfl rfl (held_pt 0 rfl rfl (held_pt 0 rfl rfl (held_pt 0 rfl rfl (held_pt 0 rfl rfl (held_pt 0 rfl rfl (held_pt 0 rfl rfl held_nil)))))))))) ?_
    refine a_y (i := 16) (v := .bool true) (ticked 57 131071) rfl (by as_aux_lemma => kernel_rfl) rfl rfl rfl (by exact y_pick rfl rfl) ?_
    refine a_y (i := 17) (v := .bool true) (ticked 57 262143) rfl (by as_aux_lemma => kernel_rfl) rfl rfl rfl (by exact y_mv rfl) ?_
    refine a_y_on (i := 18) (v := .slice A1 (fewR l).length c1) 34 (ticked 57 524287) rfl (by as_aux_lemma => kernel_rfl) rfl rfl rfl rfl rfl (by exact y_mv rfl) ?_
    refine a_y_on (i := 21) (v := .slice A1 (fewR l).length c1) 34 (ticked 57 2621439) rfl (by as_aux_lemma => kernel_rfl) rfl rfl rfl rfl rfl (by exact y_mv rfl) ?_
    refine a_held_on (i := 19) 34 (ticked 57 3145727) rfl (by as_aux_lemma => kernel_rfl) rfl rfl rfl rfl rfl (held_pt 1 rfl rfl (held_pt 1 rfl rfl (held_pt 1 rfl rfl (held_pt 0 rfl rfl (held_pt 0 rfl rfl (held_pt 0 rfl rfl (held_pt 0 rfl rfl (held_pt 0 rfl rfl (held_pt 0 rfl rfl (held_pt 0 rfl rfl held_nil)))))))))) (h_ldn (vs := [.int .i64 a.lv, .int .u64 (a.cs : Int), .int .i64 a.ig]) 0 3 rfl rfl rfl Tryd.underlying26 rfl (by kernel_rfl) (by kernel_rfl)) ?_
    refine a_held_on (i := 22) 34 (ticked 57 7340031) rfl (by as_aux_lemma => kernel_rfl) rfl rfl rfl rfl rfl (held_pt 1 rfl rfl (held_pt 1 rfl rfl (held_pt 1 rfl rfl (held_pt 0 rfl rfl (held_pt 0 rfl rfl (held_pt 0 rfl rfl (held_pt 0 rfl rfl (held_pt 0 rfl rfl (held_pt 0 rfl rfl (held_pt 0 rfl rfl held_nil)))))))))) (h_ldn (vs := [.int .i64 a.lv, .int .u64 (a.cs : Int), .int .i64 a.ig]) 0 3 rfl rfl rfl Tryd.underlying26 rfl (by kernel_rfl) (by kernel_rfl)) ?_
    refine a_each (rs := [20]) (by as_aux_lemma => kernel_rfl) (.on 34 (ticked 57 8388607) rfl rfl rfl rfl rfl (o_call [] [3] (Seen_ A1 c1 (fewR l) a (by first | assumption | omega | (simp; done) | (simp; omega))) rfl rfl rfl rfl rfl rfl (fun v L' I' hq25 => ?_)) .nil) (List.cons_ne_nil _ _)
    obtain ⟨A9, c9, rfl, rfl, rfl⟩ := hq25
    refine a_and (held_pt 1 rfl rfl (held_pt 1 rfl rfl (held_pt 1 rfl rfl (held_pt 0 rfl rfl (held_pt 0 rfl rfl (held_pt 0 rfl rfl (held_pt 0 rfl rfl (held_pt 0 rfl rfl (held_pt 0 rfl rfl (held_pt 0 rfl rfl held_nil)))))))))) ?_
    refine a_each (rs := [23]) (by as_aux_lemma => kernel_rfl) (.on 34 (ticked 57 16777215) rfl rfl rfl rfl rfl (o_call [] [4] (rSeen_ A1 c1 (fewR l) a (by first | assumption | omega | (simp; done) | (simp; omega)) (by assumption) (by first | assumption | decide)) rfl rfl rfl rfl rfl rfl (fun v L' I' hq26 => ?_)) .nil) (List.cons_ne_nil _ _)
    obtain ⟨A10, c10, rfl, rfl, rfl⟩ := hq26
    refine a_and (held_pt 1 rfl rfl (held_pt 1 rfl rfl (held_pt 1 rfl rfl (held_pt 0 rfl rfl (held_pt 0 rfl rfl (held_pt 0 rfl rfl (held_pt 0 rfl rfl (held_pt 0 rfl rfl (held_pt 0 rfl rfl (held_pt 0 rfl rfl held_nil)))))))))) ?_
    refine a_each (rs := [24]) (by as_aux_lemma => kernel_rfl) (.on 34 (ticked 57 33554431) rfl rfl rfl rfl rfl (o_call [] [1, 0] (rSame_ A9 c9 (seenF a (fewR l)) A10 c10 (seenF a (fewR l)) (by first | assumption | omega | (simp; done) | (simp; omega))) rfl rfl rfl rfl rfl rfl (fun v L' I' hq27 => ?_)) .nil) (List.cons_ne_nil _ _)
    obtain ⟨hv12, rfl, rfl⟩ := hq27
    obtain rfl : v = .bool true := by rw [hv12, decide_eq_true (show (seenF a (fewR l)) = (seenF a (fewR l)) from rfl)]
    refine a_and (held_pt 1 rfl rfl (held_pt 1 rfl rfl (held_pt 1 rfl rfl (held_pt 0 rfl rfl (held_pt 0 rfl rfl (held_pt 0 rfl rfl (held_pt 0 rfl rfl (held_pt 0 rfl rfl (held_pt 0 rfl rfl (held_pt 0 rfl rfl held_nil)))))))))) ?_
    refine a_y (i := 25) (v := .bool true) (ticked 57 67108863) rfl (by as_aux_lemma => kernel_rfl) rfl rfl rfl (by exact y_pick rfl rfl) ?_
    refine a_y (i := 26) (v := .bool true) (ticked 57 134217727) rfl (by as_aux_lemma => kernel_rfl) rfl rfl rfl (by exact y_mv rfl) ?_
    refine a_y_on (i := 27) (v := .slice A1 (fewR l).length c1) 43 (ticked 57 268435455) rfl (by as_aux_lemma => kernel_rfl) rfl rfl rfl rfl rfl (by exact y_mv rfl) ?_
    refine a_y_on (i := 28) (v := .int .i64 who) 43 (ticked 57 536870911) rfl (by as_aux_lemma => kernel_rfl) rfl rfl rfl rfl rfl (by exact y_mv rfl) ?_
    refine a_y_on (i := 30) (v := .slice A1 (fewR l).length c1) 43 (ticked 57 1610612735) rfl (by as_aux_lemma => kernel_rfl) rfl rfl rfl rfl rfl (by exact y_mv rfl) ?_
    refine a_y_on (i := 31) (v := .int .i64 who) 43 (ticked 57 3758096383) rfl (by as_aux_lemma => kernel_rfl) rfl rfl rfl rfl rfl (by exact y_mv rfl) ?_
    refine a_each (rs := [29]) (by as_aux_lemma => kernel_rfl) (.on 43 (ticked 57 4294967295) rfl rfl rfl rfl rfl (o_call [] [5] (Count_ A1 c1 (fewR l) who (by first | assumption | omega | (simp; done) | (simp; omega))) rfl rfl rfl rfl rfl rfl (fun v L' I' hq28 => ?_)) .nil) (List.cons_ne_nil _ _)
    obtain ⟨rfl, rfl, rfl⟩ := hq28
    refine a_and (held_pt 1 rfl rfl (held_pt 1 rfl rfl (held_pt 1 rfl rfl (held_pt 0 rfl rfl (held_pt 0 rfl rfl (held_pt 0 rfl rfl (held_pt 0 rfl rfl (held_pt 0 rfl rfl (held_pt 0 rfl rfl (held_pt 0 rfl rfl held_nil)))))))))) ?_
    refine a_each (rs := [32]) (by as_aux_lemma => kernel_rfl) (.on 43 (ticked 57 8589934591) rfl rfl rfl rfl rfl (o_call [] [5] (rCount_ A1 c1 (fewR l) who (by first | assumption | omega | (simp; done) | (simp; omega))) rfl rfl rfl rfl rfl rfl (fun v L' I' hq29 => ?_)) .nil) (List.cons_ne_nil _ _)
    obtain ⟨rfl, rfl, rfl⟩ := hq29
    refine a_and (held_pt 1 rfl rfl (held_pt 1 rfl rfl (held_pt 1 rfl rfl (held_pt 0 rfl rfl (held_pt 0 rfl rfl (held_pt 0 rfl rfl (held_pt 0 rfl rfl (held_pt 0 rfl rfl (held_pt 0 rfl rfl (held_pt 0 rfl rfl held_nil)))))))))) ?_
    have h5 : (countF (fewR l) who : Int) = (countF (fewR l) who : Int) := rfl
    refine a_y_on (i := 33) (v := .bool true) 43 (ticked 57 17179869183) rfl (by as_aux_lemma => kernel_rfl) rfl rfl rfl rfl rfl (by exact y_b (y_k (v := .bool ((countF (fewR l) who : Int) == (countF (fewR l) who : Int))) rfl rfl (fun _ => by kernel_rfl)) (beq_iff_eq.2 h5)) ?_
    refine a_y (i := 34) (v := .bool true) (ticked 57 34359738367) rfl (by as_aux_lemma => kernel_rfl) rfl rfl rfl (by exact y_pick rfl rfl) ?_
    refine a_y (i := 35) (v := .bool true) (ticked 57 68719476735) rfl (by as_aux_lemma => kernel_rfl) rfl rfl rfl (by exact y_mv rfl) ?_
    refine a_held_on (i := 36) 52 (ticked 57 137438953471) rfl (by as_aux_lemma => kernel_rfl) rfl rfl rfl rfl rfl (held_pt 1 rfl rfl (held_pt 1 rfl rfl (held_pt 1 rfl rfl (held_pt 0 rfl rfl (held_pt 0 rfl rfl (held_pt 0 rfl rfl (held_pt 0 rfl rfl (held_pt 0 rfl rfl (held_pt 0 rfl rfl (held_pt 0 rfl rfl held_nil)))))))))) (h_ldn (vs := [.int .i64 x.st, .int .i64 x.who, .int .i64 x.op, .int .i64 x.e, .int .i64 x.lab.lv, .int .u64 (x.lab.cs : Int), .int .i64 x.lab.ig]) 3 7 rfl rfl rfl Tryd.underlying28 rfl (by kernel_rfl) (by kernel_rfl)) ?_
    refine a_held_on (i := 38) 52 (ticked 57 412316860415) rfl (by as_aux_lemma => kernel_rfl) rfl rfl rfl rfl rfl (held_pt 1 rfl rfl (held_pt 1 rfl rfl (held_pt 1 rfl rfl (held_pt 0 rfl rfl (held_pt 0 rfl rfl (held_pt 0 rfl rfl (held_pt 0 rfl rfl (held_pt 0 rfl rfl (held_pt 0 rfl rfl (held_pt 0 rfl rfl held_nil)))))))))) (h_ldn (vs := [.int .i64 x.st, .int .i64 x.who, .int .i64 x.op, .int .i64 x.e, .int .i64 x.lab.lv, .int .u64 (x.lab.cs : Int), .int .i64 x.lab.ig]) 3 7 rfl rfl rfl Tryd.underlying28 rfl (by kernel_rfl) (by kernel_rfl)) ?_
    refine a_each (rs := [37]) (by as_aux_lemma => kernel_rfl) (.on 52 (ticked 57 549755813887) rfl rfl rfl rfl rfl (o_call [] [] (Line_ x (by first | assumption | exact (by assumption : ∀ y ∈ _, recSm y) _ (List.mem_of_getElem? (by assumption)))) rfl rfl rfl rfl rfl rfl (fun v L' I' hq30 => ?_)) .nil) (List.cons_ne_nil _ _)
    obtain ⟨rfl, rfl, rfl⟩ := hq30
    refine a_and (held_pt 1 rfl rfl (held_pt 1 rfl rfl (held_pt 1 rfl rfl (held_pt 0 rfl rfl (held_pt 0 rfl rfl (held_pt 0 rfl rfl (held_pt 0 rfl rfl (held_pt 0 rfl rfl (held_pt 0 rfl rfl (held_pt 0 rfl rfl held_nil)))))))))) ?_
    refine a_each (rs := [39]) (by as_aux_lemma => kernel_rfl) (.on 52 (ticked 57 1099511627775) rfl rfl rfl rfl rfl (o_call [] [] (rLine_ x (by first | assumption | exact (by assumption : ∀ y ∈ _, recSm y) _ (List.mem_of_getElem? (by assumption)))) rfl rfl rfl rfl rfl rfl (fun v L' I' hq31 => ?_)) .nil) (List.cons_ne_nil _ _)
    obtain ⟨rfl, rfl, rfl⟩ := hq31
    refine a_and (held_pt 1 rfl rfl (held_pt 1 rfl rfl (held_pt 1 rfl rfl (held_pt 0 rfl rfl (held_pt 0 rfl rfl (held_pt 0 rfl rfl (held_pt 0 rfl rfl (held_pt 0 rfl rfl (held_pt 0 rfl rfl (held_pt 0 rfl rfl held_nil)))))))))) ?_
    have h6 : lineF x = lineF x := rfl
    refine a_y_on (i := 40) (v := .bool true) 52 (ticked 57 2199023255551) rfl (by as_aux_lemma => kernel_rfl) rfl rfl rfl rfl rfl (by exact y_b (y_k (v := .bool ((lineF x).toList == (lineF x).toList)) rfl rfl (fun _ => by kernel_rfl)) (str_t h6)) ?_
    refine a_y (i := 41) (v := .bool true) (ticked 57 4398046511103) rfl (by as_aux_lemma => kernel_rfl) rfl rfl rfl (by exact y_pick rfl rfl) ?_
    refine a_y (i := 42) (v := .bool true) (ticked 57 8796093022207) rfl (by as_aux_lemma => kernel_rfl) rfl rfl rfl (by exact y_mv rfl) ?_
    refine a_y_on (i := 43) (v := .slice A1 (fewR l).length c1) 59 (ticked 57 17592186044415) rfl (by as_aux_lemma => kernel_rfl) rfl rfl rfl rfl rfl (by exact y_mv rfl) ?_
    refine a_y_on (i := 44) (v := .slice A2 (fewR r).length c2) 59 (ticked 57 35184372088831) rfl (by as_aux_lemma => kernel_rfl) rfl rfl rfl rfl rfl (by exact y_mv rfl) ?_
    refine a_y_on (i := 46) (v := .slice A1 (fewR l).length c1) 59 (ticked 57 105553116266495) rfl (by as_aux_lemma => kernel_rfl) rfl rfl rfl rfl rfl (by exact y_mv rfl) ?_
    refine a_y_on (i := 47) (v := .slice A2 (fewR r).length c2) 59 (ticked 57 246290604621823) rfl (by as_aux_lemma => kernel_rfl) rfl rfl rfl rfl rfl (by exact y_mv rfl) ?_
    refine a_each (rs := [45]) (by as_aux_lemma => kernel_rfl) (.on 59 (ticked 57 281474976710655) rfl rfl rfl rfl rfl (o_call [] [5, 4] (Same_ A1 c1 (fewR l) A2 c2 (fewR r) (by first | assumption | omega | (simp; done) | (simp; omega))) rfl rfl rfl rfl rfl rfl (fun v L' I' hq32 => ?_)) .nil) (List.cons_ne_nil _ _)
    obtain ⟨hv13, rfl, rfl⟩ := hq32
    refine e_by ((fewR l) = (fewR r)) (fun h7 => ?_) (fun h7 => ?_)
    ·
      obtain rfl : v = .bool true := by rw [hv13, decide_eq_true h7]
      refine a_and (held_pt 1 rfl rfl (held_pt 1 rfl rfl (held_pt 1 rfl rfl (held_pt 0 rfl rfl (held_pt 0 rfl rfl (held_pt 0 rfl rfl (held_pt 0 rfl rfl (held_pt 0 rfl rfl (held_pt 0 rfl rfl (held_pt 0 rfl rfl held_nil)))))))))) ?_
      refine a_each (rs := [48]) (by as_aux_lemma => kernel_rfl) (.on 59 (ticked 57 562949953421311) rfl rfl rfl rfl rfl (o_call [] [5, 4] (rSame_ A1 c1 (fewR l) A2 c2 (fewR r) (by first | assumption | omega | (simp; done) | (simp; omega))) rfl rfl rfl rfl rfl rfl (fun v L' I' hq33 => ?_)) .nil) (List.cons_ne_nil _ _)
      obtain ⟨hv14, rfl, rfl⟩ := hq33
      obtain rfl : v = .bool true := by rw [hv14, decide_eq_true (show (fewR l) = (fewR r) from h7)]
      refine a_and (held_pt 1 rfl rfl (held_pt 1 rfl rfl (held_pt 1 rfl rfl (held_pt 0 rfl rfl (held_pt 0 rfl rfl (held_pt 0 rfl rfl (held_pt 0 rfl rfl (held_pt 0 rfl rfl (held_pt 0 rfl rfl (held_pt 0 rfl rfl held_nil)))))))))) ?_
      refine a_y_on (i := 49) (v := .bool true) 59 (ticked 57 1125899906842623) rfl (by as_aux_lemma => kernel_rfl) rfl rfl rfl rfl rfl (by exact y_k rfl rfl (fun _ => by kernel_rfl)) ?_
      refine a_y (i := 50) (v := .bool true) (ticked 57 2251799813685247) rfl (by as_aux_lemma => kernel_rfl) rfl rfl rfl (by exact y_pick rfl rfl) ?_
      refine a_y (i := 51) (v := .bool true) (ticked 57 4503599627370495) rfl (by as_aux_lemma => kernel_rfl) rfl rfl rfl (by exact y_mv rfl) ?_
      refine a_y_on (i := 52) (v := .slice A1 (fewR l).length c1) 68 (ticked 57 9007199254740991) rfl (by as_aux_lemma => kernel_rfl) rfl rfl rfl rfl rfl (by exact y_mv rfl) ?_
      refine a_y_on (i := 53) (v := .slice A1 (fewR l).length c1) 68 (ticked 57 18014398509481983) rfl (by as_aux_lemma => kernel_rfl) rfl rfl rfl rfl rfl (by exact y_mv rfl) ?_
      refine a_each (rs := [54]) (by as_aux_lemma => kernel_rfl) (.on 68 (ticked 57 36028797018963967) rfl rfl rfl rfl rfl (o_call [] [5, 5] (Same_ A1 c1 (fewR l) A1 c1 (fewR l) (by first | assumption | omega | (simp; done) | (simp; omega))) rfl rfl rfl rfl rfl rfl (fun v L' I' hq34 => ?_)) .nil) (List.cons_ne_nil _ _)
      obtain ⟨hv15, rfl, rfl⟩ := hq34
      obtain rfl : v = .bool true := by rw [hv15, decide_eq_true (show (fewR l) = (fewR l) from rfl)]
      refine a_and (held_pt 1 rfl rfl (held_pt 1 rfl rfl (held_pt 1 rfl rfl (held_pt 0 rfl rfl (held_pt 0 rfl rfl (held_pt 0 rfl rfl (held_pt 0 rfl rfl (held_pt 0 rfl rfl (held_pt 0 rfl rfl (held_pt 0 rfl rfl held_nil)))))))))) ?_
      refine a_y (i := 55) (v := .bool true) (ticked 57 72057594037927935) rfl (by as_aux_lemma => kernel_rfl) rfl rfl rfl (by exact y_pick rfl rfl) ?_
      refine a_y (i := 56) (v := .bool true) (ticked 57 144115188075855871) rfl (by as_aux_lemma => kernel_rfl) rfl rfl rfl (by exact y_as rfl) ?_
      refine a_done (by as_aux_lemma => kernel_rfl) ?_
      refine q_then ?_
      refine c_ret ?_
      refine c_fin (I' := []) [] [6, 7, 8, 9] rfl (.tmp rfl .nil) rfl rfl rfl ?_
      exact ⟨rfl, rfl, rfl⟩
    ·
      obtain rfl : v = .bool false := by rw [hv13, decide_eq_false h7]
      refine a_and (held_pt 1 rfl rfl (held_pt 1 rfl rfl (held_pt 1 rfl rfl (held_pt 0 rfl rfl (held_pt 0 rfl rfl (held_pt 0 rfl rfl (held_pt 0 rfl rfl (held_pt 0 rfl rfl (held_pt 0 rfl rfl (held_pt 0 rfl rfl held_nil)))))))))) ?_
      refine a_each (rs := [48]) (by as_aux_lemma => kernel_rfl) (.on 59 (ticked 57 562949953421311) rfl rfl rfl rfl rfl (o_call [] [5, 4] (rSame_ A1 c1 (fewR l) A2 c2 (fewR r) (by first | assumption | omega | (simp; done) | (simp; omega))) rfl rfl rfl rfl rfl rfl (fun v L' I' hq35 => ?_)) .nil) (List.cons_ne_nil _ _)
      obtain ⟨hv16, rfl, rfl⟩ := hq35
      obtain rfl : v = .bool false := by rw [hv16, decide_eq_false (show ¬ ((fewR l) = (fewR r)) from h7)]
      refine a_and (held_pt 1 rfl rfl (held_pt 1 rfl rfl (held_pt 1 rfl rfl (held_pt 0 rfl rfl (held_pt 0 rfl rfl (held_pt 0 rfl rfl (held_pt 0 rfl rfl (held_pt 0 rfl rfl (held_pt 0 rfl rfl (held_pt 0 rfl rfl held_nil)))))))))) ?_
      refine a_y_on (i := 49) (v := .bool true) 59 (ticked 57 1125899906842623) rfl (by as_aux_lemma => kernel_rfl) rfl rfl rfl rfl rfl (by exact y_k rfl rfl (fun _ => by kernel_rfl)) ?_
      refine a_y (i := 50) (v := .bool true) (ticked 57 2251799813685247) rfl (by as_aux_lemma => kernel_rfl) rfl rfl rfl (by exact y_pick rfl rfl) ?_
      refine a_y (i := 51) (v := .bool true) (ticked 57 4503599627370495) rfl (by as_aux_lemma => kernel_rfl) rfl rfl rfl (by exact y_mv rfl) ?_
      refine a_y_on (i := 52) (v := .slice A1 (fewR l).length c1) 68 (ticked 57 9007199254740991) rfl (by as_aux_lemma => kernel_rfl) rfl rfl rfl rfl rfl (by exact y_mv rfl) ?_
      refine a_y_on (i := 53) (v := .slice A1 (fewR l).length c1) 68 (ticked 57 18014398509481983) rfl (by as_aux_lemma => kernel_rfl) rfl rfl rfl rfl rfl (by exact y_mv rfl) ?_
      refine a_each (rs := [54]) (by as_aux_lemma => kernel_rfl) (.on 68 (ticked 57 36028797018963967) rfl rfl rfl rfl rfl (o_call [] [5, 5] (Same_ A1 c1 (fewR l) A1 c1 (fewR l) (by first | assumption | omega | (simp; done) | (simp; omega))) rfl rfl rfl rfl rfl rfl (fun v L' I' hq36 => ?_)) .nil) (List.cons_ne_nil _ _)
      obtain ⟨hv17, rfl, rfl⟩ := hq36
      obtain rfl : v = .bool true := by rw [hv17, decide_eq_true (show (fewR l) = (fewR l) from rfl)]
      refine a_and (held_pt 1 rfl rfl (held_pt 1 rfl rfl (held_pt 1 rfl rfl (held_pt 0 rfl rfl (held_pt 0 rfl rfl (held_pt 0 rfl rfl (held_pt 0 rfl rfl (held_pt 0 rfl rfl (held_pt 0 rfl rfl (held_pt 0 rfl rfl held_nil)))))))))) ?_
      refine a_y (i := 55) (v := .bool true) (ticked 57 72057594037927935) rfl (by as_aux_lemma => kernel_rfl) rfl rfl rfl (by exact y_pick rfl rfl) ?_
      refine a_y (i := 56) (v := .bool true) (ticked 57 144115188075855871) rfl (by as_aux_lemma => kernel_rfl) rfl rfl rfl (by exact y_as rfl) ?_
      refine a_done (by as_aux_lemma => kernel_rfl) ?_
      refine q_then ?_
      refine c_ret ?_
      refine c_fin (I' := []) [] [6, 7, 8, 9] rfl (.tmp rfl .nil) rfl rfl rfl ?_
      exact ⟨rfl, rfl, rfl⟩
def tenR (a : Lab) (k : Nat) : Rec := ⟨(k : Int) + 1, 0, 1, 0, a⟩
def tenL (a : Lab) (n : Nat) : List Rec := (List.range n).map (tenR a)
theorem tenL_len (a : Lab) (n : Nat) : (tenL a n).length = n := by simp [tenL]
theorem tenL_succ (a : Lab) (n : Nat) : tenL a (n + 1) = tenL a n ++ [tenR a n] := by simp [tenL, List.range_succ]
theorem log_snoc : ∀ {l : List Rec} {p : Int} {x : Rec}, logFrom p l → recRight x → (∀ y ∈ l, y.st < x.st) → p < x.st → logFrom p (l ++ [x])
  | [], p, x, _, hx, _, hp => ⟨hx, hp, trivial⟩
  | y :: r, p, x, ⟨h1, h2, h3⟩, hx, hl, hp => ⟨h1, h2, log_snoc h3 hx (fun z hz => hl z (by simp [hz])) (hl y (by simp))⟩
theorem tenL_log {a : Lab} (ha : labRight a) : ∀ {n : Nat}, n ≤ 60 → logRight (tenL a n)
  | 0, _ => trivial
  | n + 1, h => by
    rw [tenL_succ]
    refine log_snoc (tenL_log ha (by omega)) ⟨by simp only [tenR]; omega, by simp only [tenR]; omega, by simp [tenR], by simp [tenR], by simp [tenR], by simp [tenR], by simp [tenR], by simp [tenR], ha⟩ ?_ (by simp only [tenR]; omega)
    intro y hy
    simp only [tenL, List.mem_map, List.mem_range] at hy
    obtain ⟨j, hj, rfl⟩ := hy
    simp [tenR]; omega
theorem ten_app {a : Lab} (ha : labRight a) {n : Nat} (h : n + 1 ≤ 60) : appF (tenL a n) ⟨(n : Int) + 1, 0, 1, 0, a⟩ = (tenL a (n + 1), 0) := by
  have := tenL_log ha h
  rw [tenL_succ] at this ⊢
  exact if_pos this
theorem ten_sm {a : Lab} (hc : a.cs < 18446744073709551616) {n : Nat} (h : n ≤ 60) : ∀ y ∈ tenL a n, recSm y := fun y hy => by
  simp only [tenL, List.mem_map, List.mem_range] at hy
  obtain ⟨j, hj, rfl⟩ := hy
  exact ⟨by simp [tenR]; omega, by simp [tenR], by simp [tenR], by simp [tenR], hc⟩
theorem ten_at (a : Lab) (n : Nat) : atL a (tenL a n) = tenL a n := List.filter_eq_self.2 (fun y hy => by
  simp only [tenL, List.mem_map, List.mem_range] at hy
  obtain ⟨j, hj, rfl⟩ := hy
  simp [tenR])
theorem ten_shown (a : Lab) (n : Nat) : shownF (tenL a n) a = ((tenL a n).map lineF).drop (n - 10) := by
  unfold shownF lastTen; rw [ten_at, List.length_map, tenL_len]
theorem ten_shown_len (a : Lab) (n : Nat) : (shownF (tenL a n) a).length = n - (n - 10) := by rw [ten_shown, List.length_drop, List.length_map, tenL_len]
theorem ten_line {a : Lab} {n i j : Nat} {s : ByteArray} {x : Rec} (hs : (shownF (tenL a n) a)[i]? = some s) (hx : (tenL a n)[j]? = some x) (hj : j = (n - 10) + i) : s = lineF x := by
  subst hj
  rw [ten_shown, List.getElem?_drop, List.getElem?_map, hx] at hs
  exact (Option.some.inj hs).symm
theorem top_under {a : Lab} (ha : labRight a) (hc : a.cs < 18446744073709551616) : labUnder a ⟨15, 18446744073709551615, 0⟩ := by
  refine ⟨ha, by unfold labRight; decide, ha.2.1, ha.2.2.1, ?_⟩
  rw [subN_iff]
  intro i hi _
  rw [hasN_bit, show (18446744073709551615 : Nat) = 2 ^ 64 - 1 from rfl, Nat.testBit_two_pow_sub_one]
  simpa using hi
theorem ten_seen {a : Lab} (ha : labRight a) (hc : a.cs < 18446744073709551616) (n : Nat) : (seenF ⟨15, 18446744073709551615, 0⟩ (tenL a n)).length = n := by
  have : seenF ⟨15, 18446744073709551615, 0⟩ (tenL a n) = tenL a n := List.filter_eq_self.2 (fun y hy => by
    simp only [tenL, List.mem_map, List.mem_range] at hy
    obtain ⟨j, hj, rfl⟩ := hy
    exact decide_eq_true (top_under ha hc))
  rw [this, tenL_len]
end Go.Proofs.YtdfgedkjilpcgaaDoor
