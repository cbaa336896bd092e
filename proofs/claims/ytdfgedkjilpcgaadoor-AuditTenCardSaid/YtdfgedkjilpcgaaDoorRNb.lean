/- The six laws of chapter 18 (audit), walked over the given program; no condition but what stands in each theorem: part Nb. -/
import Derived.Test.YtdfgedkjilpcgaaDoorRNa
set_option linter.unusedVariables false
set_option linter.unusedSimpArgs false
set_option maxRecDepth 100000
set_option maxHeartbeats 8000000
namespace Go.Proofs.YtdfgedkjilpcgaaDoor
open Go Go.Sl Go.RowKit Go.Extern.Stop Go.Stop Go.Extern Go.Shelf
theorem AuditAppends_ (A : Option Addr) (c : Nat) (l : List Rec) (x : Rec) (el : Addr) (hm : ∀ y ∈ l, recSm y) (hx : recSm x) : Con Tryd.prog 3 [.slice A l.length c, .agg #[.int .i64 x.st, .int .i64 x.who, .int .i64 x.op, .int .i64 x.e, .int .i64 x.lab.lv, .int .u64 (x.lab.cs : Int), .int .i64 x.lab.ig]] [] [rd recTy A c l, cellsAt 0 0 [.iface 106 (.pointer (some el))], errAt el] (fun v L' I' => v = .bool true ∧ L' = [] ∧ I' = []) := by
  have hf := fewR_len l
  have hm1 := fewR_sm hm
  have hal := appF_len (fewR l) x
  have hm2 := appF_sm hm1 hx
  have hal2 : (appF (fewR l) x).1.length ≤ 100000 := by omega
  have hal3 : (appF (fewR l) x).1.length ≤ 1000000 := by omega
  refine fn_of Tryd.func3 rfl Tryd.ntmps3 (by kernel_rfl) rfl (fun C => ?_)
  refine c_seq ?_
  refine c_region ?_
  refine st rfl (o_box (cs := [.int .i64 x.st, .int .i64 x.who, .int .i64 x.op, .int .i64 x.e, .int .i64 x.lab.lv, .int .u64 (x.lab.cs : Int), .int .i64 x.lab.ig]) (T := 28) rfl rfl rfl rfl (fun _ => by kernel_rfl) (fun b1 => ?_))
  refine st rfl (o_y (v := .bool false) (y_as rfl) rfl rfl rfl ?_)
  refine s_nil ?_
  refine q_then ?_
  refine c_seq ?_
  refine c_region ?_
  refine st rfl (o_call [] [1, 2] (shown_ el) rfl rfl rfl rfl rfl rfl (fun v L' I' hq1 => ?_))
  obtain ⟨rfl, rfl, rfl⟩ := hq1
  refine st rfl (o_y (v := .bool true) (y_as rfl) rfl rfl rfl ?_)
  refine s_nil ?_
  refine q_then ?_
  refine c_seq ?_
  refine c_region ?_
  refine st rfl (o_y (v := .slice A l.length c) (y_mv rfl) rfl rfl rfl ?_)
  refine st rfl (o_call [] [0] (Few_ A c l) rfl rfl rfl rfl rfl rfl (fun v L' I' hq2 => ?_))
  obtain ⟨A1, c1, rfl, rfl, rfl⟩ := hq2
  refine st rfl (o_y (v := .slice A1 (fewR l).length c1) (y_as rfl) rfl rfl rfl ?_)
  refine s_nil ?_
  refine q_then ?_
  refine c_seq ?_
  refine c_region ?_
  refine st rfl (o_y (v := .slice A1 (fewR l).length c1) (y_mv rfl) rfl rfl rfl ?_)
  refine st rfl (o_ldn 0 7 rfl rfl rfl rfl Tryd.underlying28 rfl (by kernel_rfl) (by kernel_rfl) rfl ?_)
  refine st rfl (o_call [] [0, 2, 3] (Append_ A1 c1 (fewR l) x el (by first | assumption | omega | (simp; done) | (simp; omega))) rfl rfl rfl rfl rfl rfl (fun v L' I' hq3 => ?_))
  obtain ⟨A2, c2, rfl, rfl, rfl⟩ := hq3
  refine st rfl (o_y (v := .tuple #[.slice A2 ((appF (fewR l) x).1).length c2, .int .i64 ((appF (fewR l) x).2)]) (y_mv rfl) rfl rfl rfl ?_)
  refine st rfl (o_y (v := .slice A2 ((appF (fewR l) x).1).length c2) (y_k rfl rfl (fun _ => by kernel_rfl)) rfl rfl rfl ?_)
  refine st rfl (o_y (v := .int .i64 ((appF (fewR l) x).2)) (y_k rfl rfl (fun _ => by kernel_rfl)) rfl rfl rfl ?_)
  refine st rfl (o_y (v := .slice A2 ((appF (fewR l) x).1).length c2) (y_as rfl) rfl rfl rfl ?_)
  refine st rfl (o_y (v := .int .i64 ((appF (fewR l) x).2)) (y_as rfl) rfl rfl rfl ?_)
  refine s_nil ?_
  refine q_then ?_
  refine c_seq ?_
  refine c_region ?_
  refine st rfl (o_y (v := .slice A1 (fewR l).length c1) (y_mv rfl) rfl rfl rfl ?_)
  refine st rfl (o_ldn 0 7 rfl rfl rfl rfl Tryd.underlying28 rfl (by kernel_rfl) (by kernel_rfl) rfl ?_)
  refine st rfl (o_call [] [1] (rAppend_ A1 c1 (fewR l) x (by first | assumption | omega | (simp; done) | (simp; omega))) rfl rfl rfl rfl rfl rfl (fun v L' I' hq4 => ?_))
  obtain ⟨A3, c3, rfl, rfl, rfl⟩ := hq4
  refine st rfl (o_y (v := .tuple #[.slice A3 ((appF (fewR l) x).1).length c3, .int .i64 ((appF (fewR l) x).2)]) (y_mv rfl) rfl rfl rfl ?_)
  refine st rfl (o_y (v := .slice A3 ((appF (fewR l) x).1).length c3) (y_k rfl rfl (fun _ => by kernel_rfl)) rfl rfl rfl ?_)
  refine st rfl (o_y (v := .int .i64 ((appF (fewR l) x).2)) (y_k rfl rfl (fun _ => by kernel_rfl)) rfl rfl rfl ?_)
  refine st rfl (o_y (v := .slice A3 ((appF (fewR l) x).1).length c3) (y_as rfl) rfl rfl rfl ?_)
  refine st rfl (o_y (v := .int .i64 ((appF (fewR l) x).2)) (y_as rfl) rfl rfl rfl ?_)
  refine s_nil ?_
  refine q_then ?_
  refine c_seq ?_
  refine c_region ?_
  refine st rfl (o_y (v := .bool true) (y_mv rfl) rfl rfl rfl ?_)
  refine st rfl (o_y (v := .bool true) (y_mv rfl) rfl rfl rfl ?_)
  refine st_on 26 rfl rfl rfl (o_y (v := .slice A2 ((appF (fewR l) x).1).length c2) (y_mv rfl) rfl rfl rfl ?_)
  refine st_on 26 rfl rfl rfl (o_y (v := .slice A3 ((appF (fewR l) x).1).length c3) (y_mv rfl) rfl rfl rfl ?_)
  refine st_on 26 rfl rfl rfl (o_call [] [1, 0] (rSame_ A2 c2 ((appF (fewR l) x).1) A3 c3 ((appF (fewR l) x).1) (by first | assumption | omega | (simp; done) | (simp; omega))) rfl rfl rfl rfl rfl rfl (fun v L' I' hq5 => ?_))
  obtain ⟨hv1, rfl, rfl⟩ := hq5
  obtain rfl : v = .bool true := by rw [hv1, decide_eq_true (show ((appF (fewR l) x).1) = ((appF (fewR l) x).1) from rfl)]
  refine st rfl (o_y (v := .bool true) (y_pick rfl rfl) rfl rfl rfl ?_)
  refine st rfl (o_y (v := .bool true) (y_mv rfl) rfl rfl rfl ?_)
  refine st_on 31 rfl rfl rfl (o_y (v := .int .i64 ((appF (fewR l) x).2)) (y_mv rfl) rfl rfl rfl ?_)
  refine st_on 31 rfl rfl rfl (o_y (v := .int .i64 ((appF (fewR l) x).2)) (y_mv rfl) rfl rfl rfl ?_)
  have h1 : (appF (fewR l) x).2 = (appF (fewR l) x).2 := rfl
  refine st_on 31 rfl rfl rfl (o_y (v := .bool true) (y_b (y_k (v := .bool (((appF (fewR l) x).2) == ((appF (fewR l) x).2))) rfl rfl (fun _ => by kernel_rfl)) (beq_iff_eq.2 h1)) rfl rfl rfl ?_)
  refine st rfl (o_y (v := .bool true) (y_pick rfl rfl) rfl rfl rfl ?_)
  refine st rfl (o_y (v := .bool true) (y_as rfl) rfl rfl rfl ?_)
  refine s_nil ?_
  refine q_then ?_
  refine c_ret ?_
  refine c_fin (I' := []) [] [3, 4, 5] rfl (.tmp rfl .nil) rfl rfl rfl ?_
  exact ⟨rfl, rfl, rfl⟩
theorem few_count (l : List Rec) (x : Rec) : countF (l ++ [x]) x.who = countF l x.who + 1 := by simp [countF, List.filter_append]
theorem shown_last {l : List Rec} {x : Rec} : (shownF (l ++ [x]) x.lab).length ≥ 1 ∧ ∀ y, (shownF (l ++ [x]) x.lab)[(shownF (l ++ [x]) x.lab).length - 1]? = some y → y = lineF x := by
  have e : (atL x.lab (l ++ [x])).map lineF = (atL x.lab l).map lineF ++ [lineF x] := by simp [atL, List.filter_append]
  unfold shownF
  rw [e]
  generalize (atL x.lab l).map lineF = q
  unfold lastTen
  have hl : (q ++ [lineF x]).length = q.length + 1 := by simp
  constructor
  · rw [List.length_drop]; omega
  · intro y hy
    rw [List.getElem?_drop, List.length_drop, hl, show q.length + 1 - 10 + (q.length + 1 - (q.length + 1 - 10) - 1) = q.length by omega] at hy
    simpa using hy.symm
theorem countF_le (l : List Rec) (w : Int) : countF l w ≤ l.length := List.length_filter_le _ _
theorem last_facts (l : List Rec) (x : Rec) : (appF l x).2 = 0 → (appF l x).1.length = l.length + 1 ∧ (shownF (appF l x).1 x.lab).length ≥ 1 ∧ (shownF (appF l x).1 x.lab).length ≤ 10 ∧ countF (appF l x).1 x.who = countF l x.who + 1 := fun h => by
  rw [(appF_ok h).1]
  refine ⟨by simp, shown_last.1, ?_, few_count _ _⟩
  unfold shownF lastTen; rw [List.length_drop]; omega
theorem last_at {l : List Rec} {x y : Rec} (h : (appF l x).2 = 0) (hy : (appF l x).1[l.length]? = some y) : y = x := by
  rw [(appF_ok h).1] at hy; exact cat_one hy
theorem last_take {l : List Rec} {x : Rec} (h : (appF l x).2 = 0) : (appF l x).1.take l.length = l := by rw [(appF_ok h).1]; simp
theorem last_right {l : List Rec} {x : Rec} (h : (appF l x).2 = 0) : logRight (appF l x).1 := by rw [(appF_ok h).1]; exact (appF_ok h).2
theorem last_line {l : List Rec} {x : Rec} {y : ByteArray} (h : (appF l x).2 = 0) (hy : (shownF (appF l x).1 x.lab)[(((shownF (appF l x).1 x.lab).length : Int) - 1).toNat]? = some y) : y = lineF x := by
  have h1 := last_facts l x h
  rw [(appF_ok h).1] at hy h1
  dsimp only at hy h1
  exact shown_last.2 _ (by rw [← hy]; congr 1; omega)
theorem last_no {l : List Rec} {x : Rec} : ¬ (appF l x).2 = 0 → (appF l x).2 = 180 ∧ (appF l x).1.length = 0 := fun h => by rw [appF_no h]; exact ⟨rfl, rfl⟩
end Go.Proofs.YtdfgedkjilpcgaaDoor
