/- The six laws of chapter 18 (audit), walked over the given program; no condition but what stands in each theorem: part Na. -/
import Derived.Test.YtdfgedkjilpcgaaDoorRG
import Derived.Test.YtdfgedkjilpcgaaDoorRL
set_option linter.unusedVariables false
set_option linter.unusedSimpArgs false
set_option maxRecDepth 100000
set_option maxHeartbeats 8000000
namespace Go.Proofs.YtdfgedkjilpcgaaDoor
open Go Go.Sl Go.RowKit Go.Extern.Stop Go.Stop Go.Extern Go.Shelf

def fewR (l : List Rec) : List Rec := l.take 60
theorem fewR_len (l : List Rec) : (fewR l).length ≤ 60 := by unfold fewR; simp; omega
theorem fewR_sm {l : List Rec} (h : ∀ y ∈ l, recSm y) : ∀ y ∈ fewR l, recSm y := fun y hy => h y (List.mem_of_mem_take hy)
theorem appF_len (l : List Rec) (x : Rec) : (appF l x).1.length ≤ l.length + 1 := by
  unfold appF; split <;> simp
theorem appF_no {l : List Rec} {x : Rec} (h : ¬ (appF l x).2 = 0) : appF l x = ([], 180) := by
  unfold appF at *
  split
  · rename_i hr; rw [if_pos hr] at h; exact absurd rfl h
  · rfl
theorem appF_ok {l : List Rec} {x : Rec} (h : (appF l x).2 = 0) : appF l x = (l ++ [x], 0) ∧ logRight (l ++ [x]) := by
  unfold appF at *
  split
  · rename_i hr; exact ⟨rfl, hr⟩
  · rename_i hr; rw [if_neg hr] at h; cases h
theorem appF_sm {l : List Rec} {x : Rec} (h : ∀ y ∈ l, recSm y) (hx : recSm x) : ∀ y ∈ (appF l x).1, recSm y := by
  unfold appF
  split
  · intro y hy
    rcases List.mem_append.1 hy with h' | h'
    · exact h y h'
    · have : y = x := by simpa using h'
      rw [this]; exact hx
  · intro y hy; cases hy
def recA : Rec := ⟨12, 0, 5, 102, ⟨0, 0, 7⟩⟩
theorem recA_sm : recSm recA := by unfold recSm recA; decide
theorem appA : appF [] recA = ([recA], 0) := by decide +kernel
theorem appB : appF [recA] recA = ([], 180) := by decide +kernel
theorem lineA : lineF recA = ⟨#[49, 50, 32, 48, 32, 53, 32, 49, 48, 50]⟩ := by
  have d12 : digF 12 = ⟨#[49, 50]⟩ := by unfold digF; rw [if_neg (by decide), show (12 : Int).toNat = 12 from rfl, rdig_ge (by decide), rdig_lt (by decide)]; decide
  have d0 : digF 0 = ⟨#[48]⟩ := by unfold digF; rw [if_neg (by decide), show (0 : Int).toNat = 0 from rfl, rdig_lt (by decide)]; decide
  have d5 : digF 5 = ⟨#[53]⟩ := by unfold digF; rw [if_neg (by decide), show (5 : Int).toNat = 5 from rfl, rdig_lt (by decide)]; decide
  have d102 : digF 102 = ⟨#[49, 48, 50]⟩ := by unfold digF; rw [if_neg (by decide), show (102 : Int).toNat = 102 from rfl, rdig_ge (by decide), rdig_ge (by decide), rdig_lt (by decide)]; decide
  show digF 12 ++ sp1 ++ digF 0 ++ sp1 ++ digF 5 ++ sp1 ++ digF 102 = _
  rw [d12, d0, d5, d102]; decide
theorem shownA : shownF [recA] ⟨0, 0, 7⟩ = [lineF recA] := rfl
theorem countA : countF [recA] 0 = 1 := rfl
theorem cat_one {l : List Rec} {x y : Rec} (hx : (l ++ [y])[l.length]? = some x) : x = y := by simpa using hx.symm
theorem shown_ (el : Addr) : Con Tryd.prog 9 [] [] [cellsAt 0 0 [.iface 106 (.pointer (some el))], errAt el] (fun v L' I' => v = .bool true ∧ L' = [] ∧ I' = []) := by
  have hi0 : 0 < (appF [] recA).1.length := by simp [appA]
  have hi1 : 0 < (shownF (appF [] recA).1 ⟨0, 0, 7⟩).length := by simp [appA, shownA]
  have hs0 : (appF [] recA).1.length ≤ 100000 := by simp [appA]
  have hs1 : (appF [] recA).1.length ≤ 1000000 := by simp [appA]
  have hs2 : ∀ y ∈ (appF [] recA).1, recSm y := by rw [appA]; intro y hy; have : y = recA := (by simpa using hy); rw [this]; exact recA_sm
  refine fn_of Tryd.func9 rfl Tryd.ntmps9 (by kernel_rfl) rfl (fun C => ?_)
  refine c_seq ?_
  refine c_region ?_
  refine st rfl (o_y (v := .bool false) (y_as rfl) rfl rfl rfl ?_)
  refine s_nil ?_
  refine q_then ?_
  refine c_seq ?_
  refine c_region ?_
  refine st rfl (o_call [] [] bottom_ rfl rfl rfl rfl rfl rfl (fun v L' I' hq1 => ?_))
  obtain ⟨rfl, rfl, rfl⟩ := hq1
  refine st rfl (o_y (v := .agg #[.int .i64 12, .int .i64 0, .int .i64 5, .int .i64 102, .int .i64 0, .int .u64 0, .int .i64 7]) (y_k rfl rfl (fun _ => by kernel_rfl)) rfl rfl rfl ?_)
  refine st rfl (o_box (cs := [.int .i64 0, .int .i64 0, .int .i64 0, .int .i64 0, .int .i64 0, .int .u64 0, .int .i64 0]) (T := 28) rfl rfl rfl rfl (fun _ => by kernel_rfl) (fun b1 => ?_))
  refine st rfl (o_st 0 rfl rfl rfl rfl rfl (by kernel_rfl) (by kernel_rfl) rfl ?_)
  refine s_nil ?_
  refine q_then ?_
  refine c_seq ?_
  refine c_region ?_
  refine st rfl (o_ldn 0 7 rfl rfl rfl rfl Tryd.underlying28 rfl (by kernel_rfl) (by kernel_rfl) rfl ?_)
  refine e_rdnil recTy none 0 ?_
  refine st rfl (o_call [] [0, 1, 2] (Append_ none 0 ([] : List Rec) (⟨12, 0, 5, 102, (⟨0, 0, 7⟩ : Lab)⟩ : Rec) el (by first | assumption | omega | (simp; done) | (simp; omega))) rfl rfl rfl rfl rfl rfl (fun v L' I' hq2 => ?_))
  obtain ⟨A1, c1, rfl, rfl, rfl⟩ := hq2
  refine st rfl (o_y (v := .tuple #[.slice A1 ((appF ([] : List Rec) (⟨12, 0, 5, 102, (⟨0, 0, 7⟩ : Lab)⟩ : Rec)).1).length c1, .int .i64 ((appF ([] : List Rec) (⟨12, 0, 5, 102, (⟨0, 0, 7⟩ : Lab)⟩ : Rec)).2)]) (y_mv rfl) rfl rfl rfl ?_)
  refine st rfl (o_y (v := .slice A1 ((appF ([] : List Rec) (⟨12, 0, 5, 102, (⟨0, 0, 7⟩ : Lab)⟩ : Rec)).1).length c1) (y_k rfl rfl (fun _ => by kernel_rfl)) rfl rfl rfl ?_)
  refine st rfl (o_y (v := .int .i64 ((appF ([] : List Rec) (⟨12, 0, 5, 102, (⟨0, 0, 7⟩ : Lab)⟩ : Rec)).2)) (y_k rfl rfl (fun _ => by kernel_rfl)) rfl rfl rfl ?_)
  refine st rfl (o_y (v := .slice A1 ((appF ([] : List Rec) (⟨12, 0, 5, 102, (⟨0, 0, 7⟩ : Lab)⟩ : Rec)).1).length c1) (y_as rfl) rfl rfl rfl ?_)
  refine st rfl (o_y (v := .int .i64 ((appF ([] : List Rec) (⟨12, 0, 5, 102, (⟨0, 0, 7⟩ : Lab)⟩ : Rec)).2)) (y_as rfl) rfl rfl rfl ?_)
  refine s_nil ?_
  refine q_then ?_
  refine c_seq ?_
  refine c_region ?_
  refine st rfl (o_y (v := .slice A1 ((appF ([] : List Rec) (⟨12, 0, 5, 102, (⟨0, 0, 7⟩ : Lab)⟩ : Rec)).1).length c1) (y_mv rfl) rfl rfl rfl ?_)
  refine st rfl (o_ldn 0 7 rfl rfl rfl rfl Tryd.underlying28 rfl (by kernel_rfl) (by kernel_rfl) rfl ?_)
  refine st rfl (o_call [] [0, 2, 3] (Append_ A1 c1 ((appF ([] : List Rec) (⟨12, 0, 5, 102, (⟨0, 0, 7⟩ : Lab)⟩ : Rec)).1) (⟨12, 0, 5, 102, (⟨0, 0, 7⟩ : Lab)⟩ : Rec) el (by first | assumption | omega | (simp; done) | (simp; omega))) rfl rfl rfl rfl rfl rfl (fun v L' I' hq3 => ?_))
  obtain ⟨A2, c2, rfl, rfl, rfl⟩ := hq3
  refine st rfl (o_y (v := .tuple #[.slice A2 ((appF ((appF ([] : List Rec) (⟨12, 0, 5, 102, (⟨0, 0, 7⟩ : Lab)⟩ : Rec)).1) (⟨12, 0, 5, 102, (⟨0, 0, 7⟩ : Lab)⟩ : Rec)).1).length c2, .int .i64 ((appF ((appF ([] : List Rec) (⟨12, 0, 5, 102, (⟨0, 0, 7⟩ : Lab)⟩ : Rec)).1) (⟨12, 0, 5, 102, (⟨0, 0, 7⟩ : Lab)⟩ : Rec)).2)]) (y_mv rfl) rfl rfl rfl ?_)
  refine st rfl (o_y (v := .slice A2 ((appF ((appF ([] : List Rec) (⟨12, 0, 5, 102, (⟨0, 0, 7⟩ : Lab)⟩ : Rec)).1) (⟨12, 0, 5, 102, (⟨0, 0, 7⟩ : Lab)⟩ : Rec)).1).length c2) (y_k rfl rfl (fun _ => by kernel_rfl)) rfl rfl rfl ?_)
  refine st rfl (o_y (v := .int .i64 ((appF ((appF ([] : List Rec) (⟨12, 0, 5, 102, (⟨0, 0, 7⟩ : Lab)⟩ : Rec)).1) (⟨12, 0, 5, 102, (⟨0, 0, 7⟩ : Lab)⟩ : Rec)).2)) (y_k rfl rfl (fun _ => by kernel_rfl)) rfl rfl rfl ?_)
  refine st rfl (o_y (v := .slice A2 ((appF ((appF ([] : List Rec) (⟨12, 0, 5, 102, (⟨0, 0, 7⟩ : Lab)⟩ : Rec)).1) (⟨12, 0, 5, 102, (⟨0, 0, 7⟩ : Lab)⟩ : Rec)).1).length c2) (y_as rfl) rfl rfl rfl ?_)
  refine st rfl (o_y (v := .int .i64 ((appF ((appF ([] : List Rec) (⟨12, 0, 5, 102, (⟨0, 0, 7⟩ : Lab)⟩ : Rec)).1) (⟨12, 0, 5, 102, (⟨0, 0, 7⟩ : Lab)⟩ : Rec)).2)) (y_as rfl) rfl rfl rfl ?_)
  refine s_nil ?_
  refine q_then ?_
  refine c_seq ?_
  refine c_region ?_
  refine st rfl (o_y (v := .slice A1 ((appF ([] : List Rec) (⟨12, 0, 5, 102, (⟨0, 0, 7⟩ : Lab)⟩ : Rec)).1).length c1) (y_mv rfl) rfl rfl rfl ?_)
  refine st rfl (o_call [] [] bottom_ rfl rfl rfl rfl rfl rfl (fun v L' I' hq4 => ?_))
  obtain ⟨rfl, rfl, rfl⟩ := hq4
  refine st rfl (o_call [] [1] (Shown_ A1 c1 ((appF ([] : List Rec) (⟨12, 0, 5, 102, (⟨0, 0, 7⟩ : Lab)⟩ : Rec)).1) (⟨0, 0, 7⟩ : Lab) (by first | assumption | omega | (simp; done) | (simp; omega)) (by assumption)) rfl rfl rfl rfl rfl rfl (fun v L' I' hq5 => ?_))
  obtain ⟨A3, c3, rfl, rfl, rfl⟩ := hq5
  refine st rfl (o_y (v := .slice A3 (shownF ((appF ([] : List Rec) (⟨12, 0, 5, 102, (⟨0, 0, 7⟩ : Lab)⟩ : Rec)).1) (⟨0, 0, 7⟩ : Lab)).length c3) (y_as rfl) rfl rfl rfl ?_)
  refine s_nil ?_
  refine q_then ?_
  refine c_seq ?_
  refine e_at 2 0 rfl (by first | exact hi0 | exact hi1 | omega) (fun b2 o1 x1 hA1 hx1 => ?_)
  refine e_at 1 0 rfl (by first | exact hi0 | exact hi1 | omega) (fun b3 o2 x2 hA2 hx2 => ?_)
  refine c_draw (l := ticked 35 0) [(⟨b2, o1 + 0 * 7, none⟩, .int .i64 x1.st), (⟨b2, o1 + 0 * 7 + 1, none⟩, .int .i64 x1.who), (⟨b2, o1 + 0 * 7 + 2, none⟩, .int .i64 x1.op), (⟨b2, o1 + 0 * 7 + 3, none⟩, .int .i64 x1.e), (⟨b2, o1 + 0 * 7 + 4, none⟩, .int .i64 x1.lab.lv), (⟨b2, o1 + 0 * 7 + 5, none⟩, .int .u64 (x1.lab.cs : Int)), (⟨b2, o1 + 0 * 7 + 6, none⟩, .int .i64 x1.lab.ig), (⟨b1, 0, none⟩, .int .i64 12), (⟨b1, 1, none⟩, .int .i64 0), (⟨b1, 2, none⟩, .int .i64 5), (⟨b1, 3, none⟩, .int .i64 102), (⟨b1, 4, none⟩, .int .i64 0), (⟨b1, 5, none⟩, .int .u64 0), (⟨b1, 6, none⟩, .int .i64 7), (⟨b3, o2 + 0 * 1, none⟩, .string x2)] [] (by kernel_rfl) rfl rfl ?_
  refine a_y (i := 0) (v := .int .i64 ((appF ([] : List Rec) (⟨12, 0, 5, 102, (⟨0, 0, 7⟩ : Lab)⟩ : Rec)).2)) (ticked 35 1) rfl (by as_aux_lemma => kernel_rfl) rfl rfl rfl (by exact y_mv rfl) ?_
  have h1 : (appF ([] : List Rec) (⟨12, 0, 5, 102, (⟨0, 0, 7⟩ : Lab)⟩ : Rec)).2 = 0 := by show (appF [] recA).2 = 0; rw [appA]
  refine a_y (i := 1) (v := .bool true) (ticked 35 3) rfl (by as_aux_lemma => kernel_rfl) rfl rfl rfl (by exact y_b (y_k (v := .bool (((appF ([] : List Rec) (⟨12, 0, 5, 102, (⟨0, 0, 7⟩ : Lab)⟩ : Rec)).2) == 0)) rfl rfl (fun _ => by kernel_rfl)) (beq_iff_eq.2 h1)) ?_
  refine a_y (i := 2) (v := .bool true) (ticked 35 7) rfl (by as_aux_lemma => kernel_rfl) rfl rfl rfl (by exact y_mv rfl) ?_
  refine a_y_on (i := 3) (v := .int .i64 ((appF ((appF ([] : List Rec) (⟨12, 0, 5, 102, (⟨0, 0, 7⟩ : Lab)⟩ : Rec)).1) (⟨12, 0, 5, 102, (⟨0, 0, 7⟩ : Lab)⟩ : Rec)).2)) 25 (ticked 35 15) rfl (by as_aux_lemma => kernel_rfl) rfl rfl rfl rfl rfl (by exact y_mv rfl) ?_
  have h2 : (appF ((appF ([] : List Rec) (⟨12, 0, 5, 102, (⟨0, 0, 7⟩ : Lab)⟩ : Rec)).1) (⟨12, 0, 5, 102, (⟨0, 0, 7⟩ : Lab)⟩ : Rec)).2 = 180 := by show (appF (appF [] recA).1 recA).2 = 180; rw [appA]; exact congrArg Prod.snd appB
  refine a_y_on (i := 4) (v := .bool true) 25 (ticked 35 31) rfl (by as_aux_lemma => kernel_rfl) rfl rfl rfl rfl rfl (by exact y_b (y_k (v := .bool (((appF ((appF ([] : List Rec) (⟨12, 0, 5, 102, (⟨0, 0, 7⟩ : Lab)⟩ : Rec)).1) (⟨12, 0, 5, 102, (⟨0, 0, 7⟩ : Lab)⟩ : Rec)).2) == 180)) rfl rfl (fun _ => by kernel_rfl)) (beq_iff_eq.2 h2)) ?_
  refine a_y (i := 5) (v := .bool true) (ticked 35 63) rfl (by as_aux_lemma => kernel_rfl) rfl rfl rfl (by exact y_pick rfl rfl) ?_
  refine a_y (i := 6) (v := .bool true) (ticked 35 127) rfl (by as_aux_lemma => kernel_rfl) rfl rfl rfl (by exact y_mv rfl) ?_
  refine a_y_on (i := 7) (v := .slice A1 ((appF ([] : List Rec) (⟨12, 0, 5, 102, (⟨0, 0, 7⟩ : Lab)⟩ : Rec)).1).length c1) 29 (ticked 35 255) rfl (by as_aux_lemma => kernel_rfl) rfl rfl rfl rfl rfl (by exact y_mv rfl) ?_
  refine a_y_on (i := 8) (v := .int .i64 (((appF ([] : List Rec) (⟨12, 0, 5, 102, (⟨0, 0, 7⟩ : Lab)⟩ : Rec)).1).length : Int)) 29 (ticked 35 511) rfl (by as_aux_lemma => kernel_rfl) rfl rfl rfl rfl rfl (by exact y_k rfl rfl (fun _ => by kernel_rfl)) ?_
  have h3 : (((appF ([] : List Rec) (⟨12, 0, 5, 102, (⟨0, 0, 7⟩ : Lab)⟩ : Rec)).1).length : Int) = 1 := by show ((appF [] recA).1.length : Int) = 1; rw [appA]; rfl
  refine a_y_on (i := 9) (v := .bool true) 29 (ticked 35 1023) rfl (by as_aux_lemma => kernel_rfl) rfl rfl rfl rfl rfl (by exact y_b (y_k (v := .bool ((((appF ([] : List Rec) (⟨12, 0, 5, 102, (⟨0, 0, 7⟩ : Lab)⟩ : Rec)).1).length : Int) == 1)) rfl rfl (fun _ => by kernel_rfl)) (beq_iff_eq.2 h3)) ?_
  refine a_y (i := 10) (v := .bool true) (ticked 35 2047) rfl (by as_aux_lemma => kernel_rfl) rfl rfl rfl (by exact y_pick rfl rfl) ?_
  refine a_y (i := 11) (v := .bool true) (ticked 35 4095) rfl (by as_aux_lemma => kernel_rfl) rfl rfl rfl (by exact y_mv rfl) ?_
  refine a_y_on (i := 12) (v := .slice A1 ((appF ([] : List Rec) (⟨12, 0, 5, 102, (⟨0, 0, 7⟩ : Lab)⟩ : Rec)).1).length c1) 34 (ticked 35 8191) rfl (by as_aux_lemma => kernel_rfl) rfl rfl rfl rfl rfl (by exact y_mv rfl) ?_
  refine a_y_on (i := 13) (v := .pointer (some ⟨b2, o1 + 0 * 7, none⟩)) 34 (ticked 35 16383) rfl (by as_aux_lemma => kernel_rfl) rfl rfl rfl rfl rfl (by exact y_at (d := recTy) (l := (appF ([] : List Rec) (⟨12, 0, 5, 102, (⟨0, 0, 7⟩ : Lab)⟩ : Rec)).1) 0 hA1 rfl rfl rfl (rfl) (List.getElem?_eq_some_iff.1 hx1).1 Tryd.underlying22 (by kernel_rfl) (by kernel_rfl)) ?_
  refine a_held_on (i := 14) 34 (ticked 35 32767) rfl (by as_aux_lemma => kernel_rfl) rfl rfl rfl rfl rfl (held_fact (j := 0) 1 rfl rfl (held_fact (j := 1) 1 rfl rfl (held_fact (j := 2) 1 rfl rfl (held_fact (j := 3) 1 rfl rfl (held_fact (j := 4) 1 rfl rfl (held_fact (j := 5) 1 rfl rfl (held_fact (j := 6) 1 rfl rfl (held_pt 0 rfl rfl (held_pt 0 rfl rfl (held_pt 0 rfl rfl (held_pt 0 rfl rfl (held_pt 0 rfl rfl (held_pt 0 rfl rfl (held_pt 0 rfl rfl (held_fact (j := 0) 0 rfl rfl held_nil))))))))))))))) (h_ldn (vs := [.int .i64 x1.st, .int .i64 x1.who, .int .i64 x1.op, .int .i64 x1.e, .int .i64 x1.lab.lv, .int .u64 (x1.lab.cs : Int), .int .i64 x1.lab.ig]) 0 7 rfl rfl rfl Tryd.underlying28 rfl (by kernel_rfl) (by kernel_rfl)) ?_
  refine a_held_on (i := 15) 34 (ticked 35 65535) rfl (by as_aux_lemma => kernel_rfl) rfl rfl rfl rfl rfl (held_fact (j := 0) 1 rfl rfl (held_fact (j := 1) 1 rfl rfl (held_fact (j := 2) 1 rfl rfl (held_fact (j := 3) 1 rfl rfl (held_fact (j := 4) 1 rfl rfl (held_fact (j := 5) 1 rfl rfl (held_fact (j := 6) 1 rfl rfl (held_pt 0 rfl rfl (held_pt 0 rfl rfl (held_pt 0 rfl rfl (held_pt 0 rfl rfl (held_pt 0 rfl rfl (held_pt 0 rfl rfl (held_pt 0 rfl rfl (held_fact (j := 0) 0 rfl rfl held_nil))))))))))))))) (h_ldn (vs := [.int .i64 12, .int .i64 0, .int .i64 5, .int .i64 102, .int .i64 0, .int .u64 0, .int .i64 7]) 7 7 rfl rfl rfl Tryd.underlying28 rfl (by kernel_rfl) (by kernel_rfl)) ?_
  have h4 : x1 = (⟨12, 0, 5, 102, (⟨0, 0, 7⟩ : Lab)⟩ : Rec) := by have h : (appF [] recA).1[0]? = some x1 := (by assumption); rw [appA] at h; exact (Option.some.inj h).symm
  refine a_y_on (i := 16) (v := .bool true) 34 (ticked 35 131071) rfl (by as_aux_lemma => kernel_rfl) rfl rfl rfl rfl rfl (by exact y_t (y_bin rfl rfl (fun w => eq_Rec x1 (⟨12, 0, 5, 102, (⟨0, 0, 7⟩ : Lab)⟩ : Rec) w)) h4) ?_
  refine a_y (i := 17) (v := .bool true) (ticked 35 262143) rfl (by as_aux_lemma => kernel_rfl) rfl rfl rfl (by exact y_pick rfl rfl) ?_
  refine a_y (i := 18) (v := .bool true) (ticked 35 524287) rfl (by as_aux_lemma => kernel_rfl) rfl rfl rfl (by exact y_mv rfl) ?_
  refine a_y_on (i := 19) (v := .slice A3 (shownF ((appF ([] : List Rec) (⟨12, 0, 5, 102, (⟨0, 0, 7⟩ : Lab)⟩ : Rec)).1) (⟨0, 0, 7⟩ : Lab)).length c3) 41 (ticked 35 1048575) rfl (by as_aux_lemma => kernel_rfl) rfl rfl rfl rfl rfl (by exact y_mv rfl) ?_
  refine a_y_on (i := 20) (v := .int .i64 ((shownF ((appF ([] : List Rec) (⟨12, 0, 5, 102, (⟨0, 0, 7⟩ : Lab)⟩ : Rec)).1) (⟨0, 0, 7⟩ : Lab)).length : Int)) 41 (ticked 35 2097151) rfl (by as_aux_lemma => kernel_rfl) rfl rfl rfl rfl rfl (by exact y_k rfl rfl (fun _ => by kernel_rfl)) ?_
  have h5 : ((shownF ((appF ([] : List Rec) (⟨12, 0, 5, 102, (⟨0, 0, 7⟩ : Lab)⟩ : Rec)).1) (⟨0, 0, 7⟩ : Lab)).length : Int) = 1 := by show ((shownF (appF [] recA).1 ⟨0, 0, 7⟩).length : Int) = 1; rw [appA]; rfl
  refine a_y_on (i := 21) (v := .bool true) 41 (ticked 35 4194303) rfl (by as_aux_lemma => kernel_rfl) rfl rfl rfl rfl rfl (by exact y_b (y_k (v := .bool (((shownF ((appF ([] : List Rec) (⟨12, 0, 5, 102, (⟨0, 0, 7⟩ : Lab)⟩ : Rec)).1) (⟨0, 0, 7⟩ : Lab)).length : Int) == 1)) rfl rfl (fun _ => by kernel_rfl)) (beq_iff_eq.2 h5)) ?_
  refine a_y (i := 22) (v := .bool true) (ticked 35 8388607) rfl (by as_aux_lemma => kernel_rfl) rfl rfl rfl (by exact y_pick rfl rfl) ?_
  refine a_y (i := 23) (v := .bool true) (ticked 35 16777215) rfl (by as_aux_lemma => kernel_rfl) rfl rfl rfl (by exact y_mv rfl) ?_
  refine a_y_on (i := 24) (v := .slice A3 (shownF ((appF ([] : List Rec) (⟨12, 0, 5, 102, (⟨0, 0, 7⟩ : Lab)⟩ : Rec)).1) (⟨0, 0, 7⟩ : Lab)).length c3) 46 (ticked 35 33554431) rfl (by as_aux_lemma => kernel_rfl) rfl rfl rfl rfl rfl (by exact y_mv rfl) ?_
  refine a_y_on (i := 25) (v := .pointer (some ⟨b3, o2 + 0 * 1, none⟩)) 46 (ticked 35 67108863) rfl (by as_aux_lemma => kernel_rfl) rfl rfl rfl rfl rfl (by exact y_at (d := strTy) (l := shownF ((appF ([] : List Rec) (⟨12, 0, 5, 102, (⟨0, 0, 7⟩ : Lab)⟩ : Rec)).1) (⟨0, 0, 7⟩ : Lab)) 0 hA2 rfl rfl rfl (rfl) (List.getElem?_eq_some_iff.1 hx2).1 Tryd.underlying35 (by kernel_rfl) (by kernel_rfl)) ?_
  refine a_held_on (i := 26) 46 (ticked 35 134217727) rfl (by as_aux_lemma => kernel_rfl) rfl rfl rfl rfl rfl (held_fact (j := 0) 1 rfl rfl (held_fact (j := 1) 1 rfl rfl (held_fact (j := 2) 1 rfl rfl (held_fact (j := 3) 1 rfl rfl (held_fact (j := 4) 1 rfl rfl (held_fact (j := 5) 1 rfl rfl (held_fact (j := 6) 1 rfl rfl (held_pt 0 rfl rfl (held_pt 0 rfl rfl (held_pt 0 rfl rfl (held_pt 0 rfl rfl (held_pt 0 rfl rfl (held_pt 0 rfl rfl (held_pt 0 rfl rfl (held_fact (j := 0) 0 rfl rfl held_nil))))))))))))))) (h_ld 14 rfl rfl Tryd.underlying9 rfl) ?_
  have h6 : x2 = (⟨#[49, 50, 32, 48, 32, 53, 32, 49, 48, 50]⟩ : ByteArray) := by have h : (shownF (appF [] recA).1 ⟨0, 0, 7⟩)[0]? = some x2 := (by assumption); rw [appA, shownA] at h; rw [← lineA]; exact (Option.some.inj h).symm
  refine a_y_on (i := 27) (v := .bool true) 46 (ticked 35 268435455) rfl (by as_aux_lemma => kernel_rfl) rfl rfl rfl rfl rfl (by exact y_b (y_k (v := .bool (x2.toList == (⟨#[49, 50, 32, 48, 32, 53, 32, 49, 48, 50]⟩ : ByteArray).toList)) rfl rfl (fun _ => by kernel_rfl)) (str_t h6)) ?_
  refine a_y (i := 28) (v := .bool true) (ticked 35 536870911) rfl (by as_aux_lemma => kernel_rfl) rfl rfl rfl (by exact y_pick rfl rfl) ?_
  refine a_y (i := 29) (v := .bool true) (ticked 35 1073741823) rfl (by as_aux_lemma => kernel_rfl) rfl rfl rfl (by exact y_mv rfl) ?_
  refine a_y_on (i := 30) (v := .slice A1 ((appF ([] : List Rec) (⟨12, 0, 5, 102, (⟨0, 0, 7⟩ : Lab)⟩ : Rec)).1).length c1) 52 (ticked 35 2147483647) rfl (by as_aux_lemma => kernel_rfl) rfl rfl rfl rfl rfl (by exact y_mv rfl) ?_
  refine a_each (rs := [31]) (by as_aux_lemma => kernel_rfl) (.on 52 (ticked 35 4294967295) rfl rfl rfl rfl rfl (o_call [] [4] (Count_ A1 c1 ((appF ([] : List Rec) (⟨12, 0, 5, 102, (⟨0, 0, 7⟩ : Lab)⟩ : Rec)).1) (0 : Int) (by first | assumption | omega | (simp; done) | (simp; omega))) rfl rfl rfl rfl rfl rfl (fun v L' I' hq6 => ?_)) .nil) (List.cons_ne_nil _ _)
  obtain ⟨rfl, rfl, rfl⟩ := hq6
  refine a_and (held_fact (j := 0) 1 rfl rfl (held_fact (j := 1) 1 rfl rfl (held_fact (j := 2) 1 rfl rfl (held_fact (j := 3) 1 rfl rfl (held_fact (j := 4) 1 rfl rfl (held_fact (j := 5) 1 rfl rfl (held_fact (j := 6) 1 rfl rfl (held_pt 0 rfl rfl (held_pt 0 rfl rfl (held_pt 0 rfl rfl (held_pt 0 rfl rfl (held_pt 0 rfl rfl (held_pt 0 rfl rfl (held_pt 0 rfl rfl (held_fact (j := 0) 0 rfl rfl held_nil))))))))))))))) ?_
  have h7 : (countF ((appF ([] : List Rec) (⟨12, 0, 5, 102, (⟨0, 0, 7⟩ : Lab)⟩ : Rec)).1) (0 : Int) : Int) = 1 := by show (countF (appF [] recA).1 0 : Int) = 1; rw [appA]; rfl
  refine a_y_on (i := 32) (v := .bool true) 52 (ticked 35 8589934591) rfl (by as_aux_lemma => kernel_rfl) rfl rfl rfl rfl rfl (by exact y_b (y_k (v := .bool ((countF ((appF ([] : List Rec) (⟨12, 0, 5, 102, (⟨0, 0, 7⟩ : Lab)⟩ : Rec)).1) (0 : Int) : Int) == 1)) rfl rfl (fun _ => by kernel_rfl)) (beq_iff_eq.2 h7)) ?_
  refine a_y (i := 33) (v := .bool true) (ticked 35 17179869183) rfl (by as_aux_lemma => kernel_rfl) rfl rfl rfl (by exact y_pick rfl rfl) ?_
  refine a_y (i := 34) (v := .bool true) (ticked 35 34359738367) rfl (by as_aux_lemma => kernel_rfl) rfl rfl rfl (by exact y_as rfl) ?_
  refine a_done (by as_aux_lemma => kernel_rfl) ?_
  refine q_then ?_
  refine c_ret ?_
  refine c_fin (I' := []) [] [6, 7] rfl (.tmp rfl .nil) rfl rfl rfl ?_
  exact ⟨rfl, rfl, rfl⟩
theorem Few_ (A : Option Addr) (c : Nat) (l : List Rec) : Con Tryd.prog 10 [.slice A l.length c] [] [rd recTy A c l] (fun v L' I' => ∃ A1 : Option Addr, ∃ c1 : Nat, v = .slice A1 (fewR l).length c1 ∧ L' = [] ∧ I' = [rd recTy A1 c1 (fewR l)]) := by
  refine fn_of Tryd.func10 rfl Tryd.ntmps10 (by kernel_rfl) rfl (fun C => ?_)
  refine c_seq ?_
  refine c_region ?_
  refine st rfl (o_y (v := .slice none 0 0) (y_as rfl) rfl rfl rfl ?_)
  refine s_nil ?_
  refine q_then ?_
  refine c_seq ?_
  refine c_region ?_
  refine st rfl (o_y (v := .slice A l.length c) (y_mv rfl) rfl rfl rfl ?_)
  refine st rfl (o_y (v := .slice A l.length c) (y_mv rfl) rfl rfl rfl ?_)
  refine st rfl (o_y (v := .int .i64 (l.length : Int)) (y_k rfl rfl (fun _ => by kernel_rfl)) rfl rfl rfl ?_)
  refine st rfl (o_y (v := .int .i64 ((min l.length 60 : Nat) : Int)) (y_min2 l.length 60 rfl rfl) rfl rfl rfl ?_)
  refine e_len 0 rfl (fun h1 h2 => ?_)
  refine e_cut2 (l2 := fewR l) 0 0 (min l.length 60) c (by unfold fewR; rw [List.drop_zero]; rcases Nat.le_total l.length 60 with h | h <;> simp [Nat.min_eq_left, Nat.min_eq_right, h, List.take_of_length_le]) rfl (by omega) (by omega) (by omega) ?_
  refine st rfl (o_y (v := .slice (cutA recTy A 0 c) (fewR l).length (c - 0)) (y_cut (d := recTy) (l := l) (l2 := fewR l) 0 (min l.length 60) c (by unfold fewR; rw [List.drop_zero]; rcases Nat.le_total l.length 60 with h | h <;> simp [Nat.min_eq_left, Nat.min_eq_right, h, List.take_of_length_le]) rfl rfl .no (.at (min l.length 60) rfl (rfl)) .no (by simp) Tryd.underlying22 (by kernel_rfl) (by kernel_rfl) (by omega) (by omega) (by omega) (by omega)) rfl rfl rfl ?_)
  refine st rfl (o_y (v := .slice (cutA recTy A 0 c) (fewR l).length (c - 0)) (y_as rfl) rfl rfl rfl ?_)
  refine s_nil ?_
  refine q_then ?_
  refine c_ret ?_
  refine c_fin (I' := [rd recTy (cutA recTy A 0 c) (c - 0) (fewR l)]) [] [0, 1] rfl (.tmp rfl .nil) rfl rfl rfl ?_
  exact ⟨(cutA recTy A 0 c), (c - 0), rfl, rfl, rfl⟩
end Go.Proofs.YtdfgedkjilpcgaaDoor
