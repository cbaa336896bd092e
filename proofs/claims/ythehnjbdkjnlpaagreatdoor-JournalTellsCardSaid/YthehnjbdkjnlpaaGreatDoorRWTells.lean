/- The laws of chapter 15 (journal), walked over the given program; no condition but what stands in each theorem: part WTells. -/
import Derived.Test.YthehnjbdkjnlpaaGreatDoorRUTells
import Derived.Test.YthehnjbdkjnlpaaGreatDoorRV
import Derived.Test.YthehnjbdkjnlpaaGreatDoorCards
import Derived.Test.YthehnjbdkjnlpaaGreatDoorTie
import Derived.SevenTiedAt
set_option linter.unusedVariables false
set_option linter.unusedSimpArgs false
set_option maxRecDepth 100000
set_option maxHeartbeats 8000000
namespace Go.Proofs.YthehnjbdkjnlpaaGreatDoor
open Go Go.Sl Go.RowKit Go.Extern.Stop Go.Stop Go.Extern
theorem gn0_journalTells : Tryz.prog.globalNamed "plimsoll/filter.errFilter" = some 2 := by kernel_rfl
theorem gt0_journalTells : (Tryz.prog.globals[2]?).map (·.type) = some 50 := by kernel_rfl
theorem gn1_journalTells : Tryz.prog.globalNamed "plimsoll/journal.errSpent" = some 0 := by kernel_rfl
theorem gt1_journalTells : (Tryz.prog.globals[0]?).map (·.type) = some 50 := by kernel_rfl
theorem cellsE_journalTells : Tryz.prog.cellsOf 174 = 1 := by kernel_rfl
theorem cellsS_journalTells : Tryz.prog.cellsOf 9 = 1 := by kernel_rfl
theorem star_journalTells : "*" ++ "errors.errorString" = "*errors.errorString" := by decide
theorem rowP_journalTells (u : TypeId) (h : Tryz.prog.typeName? 3 u = some "*errors.errorString") : u = 153 :=
  typeName_ptr_named (nm := "errors.errorString") (by rw [star_journalTells]; kernel_rfl) (by kernel_rfl) (by decide) u (by rw [star_journalTells]; exact h)
noncomputable def laidL_journalTells : List (String × DataW Unit) := Rows.journalTellsRow.laid
theorem door_journalTells (os : Os) (args : Array Value) : laidMetH Tryz.prog laidL_journalTells ((World.doorLaid Tryz.prog 400 os).forCall (fun _ _ => 0) ⟨#[], args, []⟩).memory :=
  laidMetH_of_parts3 (fuel := 8) (laidMet_of_run' 8 (by kernel_rfl) (by kernel_rfl)) (by kernel_rfl) (by kernel_rfl)
theorem met_journalTells {W : World} (h : laidMetH Tryz.prog laidL_journalTells W) : laidMet Tryz.prog (laidL_journalTells.filter fun x => x.2.handleName?.isNone) W ∧ W.cell? ⟨1, 0, none⟩ = some (.iface 121 (.agg #[.pointer (some ⟨4, 50, none⟩)])) := by
  have h' : laidMet Tryz.prog (laidL_journalTells.filter fun x => x.2.handleName?.isNone) W ∧ handlesMet Tryz.prog [("errors.errorType", .iface "internal/reflectlite.rtype" (.agg [.ptr (.lit (.string [101, 114, 114, 111, 114]))]))] W := h
  exact ⟨h'.1, handle_of h'.2⟩
theorem of_laid_journalTells {W : World} (h : laidMetH Tryz.prog laidL_journalTells W) : ∃ a0 a1 : Addr, Sent Tryz.prog W "plimsoll/filter.errFilter" 2 153 a0 ∧ Sent Tryz.prog W "plimsoll/journal.errSpent" 0 153 a1 ∧ a0 ≠ a1 := by
  have h := (met_journalTells h).1
  exact laid_s2 h gn0_journalTells gt0_journalTells gn1_journalTells gt1_journalTells Tryz.underlying50 rowP_journalTells Tryz.underlying153 Tryz.underlying174 rfl rfl Tryz.underlying9 cellsE_journalTells cellsS_journalTells
open Go.ChangeShapes Go.WideShapes Go.ChangeAt Go.Joins
set_option maxRecDepth 100000 in
theorem journalTells_lifted (os : Os) (started : os.Started) (H : Type) (enc : TypeId × Value → H) :
    ReturnsInHanded {} Tryz.checked os 3 .any (fun w args => (Rows.journalTellsSpec.pre enc Tryz.prog Tryz.f3 [] false w args ∧ laidMetH Tryz.prog laidL_journalTells w) ∧ sizedMet enc Tryz.prog Tryz.f3 (OpenSpec.ofChange Rows.journalTellsSpec) false w args)
      (Rows.journalTellsSpec.post enc Tryz.prog Tryz.f3 false true false false) := by
  refine returnsInHanded_of_change_and (C := Tryz.checked) (X := fun w _ => laidMetH Tryz.prog laidL_journalTells w) (fun _ _ _ hh h => h.of_heap hh) own_ started (by kernel_rfl) Tryz.func3
    (ChangeSpec.witness_shaped (enc := enc) (C := Tryz.checked) (os := os) (X := fun w _ => laidMetH Tryz.prog laidL_journalTells w) false (World.doorLaid Tryz.prog 400 os) #[.slice none 0 0, .slice none 0 0, .int .i64 0, .agg #[.int .i64 0, .int .u64 0, .int .i64 0], .slice none 0 0] 8 rfl (World.shaped_of_RefB (by kernel_rfl) (by kernel_rfl)) (by kernel_rfl) (by kernel_rfl) (by kernel_rfl) (door_journalTells os _)) ?_
  intro W base args ds gs before hval0 hW _ _ hL _
  have hval : ∀ (j : Nat) t v, Tryz.f3.params[j]? = some t → args[j]? = some v → Value.okWide Tryz.prog W .any base t v := hval0
  have hW' := hW
  obtain ⟨p, q, hA0, hV, rfl, hfz, hnd⟩ := hW
  have hA : DataW.TrodAll enc Tryz.prog W 0 (fun _ => true) true Tryz.f3.params.toList args.toList ds p := hA0
  rw [Tryz.params3] at hA hval
  obtain ⟨v0, v1, v2, v3, v4, d0, d1, d2, d3, d4, p0, p1, p2, p3, p4, rfl, rfl, rfl, h0, h1, h2, h3, h4⟩ := trodAll_n5 hA
  obtain ⟨rfl, rfl⟩ := trodVars_none hV
  obtain ⟨a0, a1, s0_, s1_, n01⟩ := of_laid_journalTells hL
  have hh_ := (met_journalTells hL).2
  clear hA0 hval0
  simp only [List.append_nil] at hW'
  have t0 := h0
  obtain ⟨fu0, hf0⟩ := h0
  obtain ⟨_, _, _, rfl⟩ := okWide_slice Tryz.underlying22 (hval 0 22 _ rfl rfl)
  obtain ⟨A0, c0, l0, he0, hr0, ok0⟩ := open_list rulTy okRul Tryz.underlying22 (by kernel_rfl) (by decide) (fun n cs y h => read_Rul h) hf0
  simp only [Value.slice.injEq] at he0
  obtain ⟨qa0, qb0, qc0⟩ := he0
  have qa0' := qa0.symm
  have qc0' := qc0.symm
  subst qa0'
  subst qb0
  subst qc0'
  have t1 := h1
  obtain ⟨fu1, hf1⟩ := h1
  obtain ⟨_, _, _, rfl⟩ := okWide_slice Tryz.underlying23 (hval 1 23 _ rfl rfl)
  obtain ⟨A1, c1, l1, he1, hr1, ok1⟩ := open_list entTy okJen Tryz.underlying23 (by kernel_rfl) (by decide) (fun n cs y h => read_Jen h) hf1
  simp only [Value.slice.injEq] at he1
  obtain ⟨qa1, qb1, qc1⟩ := he1
  have qa1' := qa1.symm
  have qc1' := qc1.symm
  subst qa1'
  subst qb1
  subst qc1'
  have t2 := h2
  obtain ⟨fu2, hf2⟩ := h2
  obtain ⟨n2, rfl⟩ := okWide_int Tryz.underlying3 (hval 2 3 _ rfl rfl)
  have b2 : -9223372036854775808 ≤ n2 ∧ n2 ≤ 9223372036854775807 := by
    obtain ⟨z, hz, hb⟩ := open_i64 Tryz.underlying3 hf2
    have e : z = n2 := by simpa [Value.cells] using hz.symm
    rw [← e]; exact hb
  have t3 := h3
  obtain ⟨fu3, hf3⟩ := h3
  obtain ⟨x3, rfl, ok3⟩ := open_struct (f := labTy.enc) (Pr := okLab) Tryz.underlying26 (hval 3 26 _ rfl rfl) (fun n cs y h => read_Lab h) t3
  have t4 := h4
  obtain ⟨fu4, hf4⟩ := h4
  obtain ⟨_, _, _, rfl⟩ := okWide_slice Tryz.underlying23 (hval 4 23 _ rfl rfl)
  obtain ⟨A4, c4, l4, he4, hr4, ok4⟩ := open_list entTy okJen Tryz.underlying23 (by kernel_rfl) (by decide) (fun n cs y h => read_Jen h) hf4
  simp only [Value.slice.injEq] at he4
  obtain ⟨qa4, qb4, qc4⟩ := he4
  have qa4' := qa4.symm
  have qc4' := qc4.symm
  subst qa4'
  subst qb4
  subst qc4'
  refine (con_calls (JournalTells_ a0 a1 A0 c0 l0 A1 c1 l1 n2 x3 A4 c4 l4 (fun y hy => rb_of (ok0 y hy)) (fun y hy => eb_of (ok1 y hy)) (fun y hy => eb_of (ok4 y hy)) (fun y hy => e6_of (ok1 y hy)) (l6_of ok3)) (Facts.cons (hr0) (Facts.cons (hr1) (Facts.cons (hr4) (Facts.cons (sent_facts s0_) (Facts.cons (sent_facts s1_) (Facts.cons (errFact s0_) (Facts.cons (errFact s1_) (Facts.cons (cell_facts hh_) (Facts.nil _)))))))))).mono fun e W' ⟨he, hb⟩ => ?_
  subst he
  have hlt : ∀ x ∈ p0 ++ (p1 ++ (p2 ++ (p3 ++ p4))), x.block < W.heap.size := fun x hx => by simpa using hW'.lt x (by simpa using hx)
  exact ⟨_, rfl, [d0, d1, d2, d3, d4], [], _, [], p0 ++ (p1 ++ (p2 ++ (p3 ++ p4))), [], hW', trodAll_mkn1 (shut_bool Tryz.underlying4 true), trodAll_mkn5 (Below.trod laidOut_ (by kernel_rfl) (of_decide_eq_true (by kernel_rfl)) t0 hb (fun x hx => hlt x (by simp [hx]))) (Below.trod laidOut_ (by kernel_rfl) (of_decide_eq_true (by kernel_rfl)) t1 hb (fun x hx => hlt x (by simp [hx]))) (Below.trod laidOut_ (by kernel_rfl) (of_decide_eq_true (by kernel_rfl)) t2 hb (fun x hx => hlt x (by simp [hx]))) (Below.trod laidOut_ (by kernel_rfl) (of_decide_eq_true (by kernel_rfl)) t3 hb (fun x hx => hlt x (by simp [hx]))) (Below.trod laidOut_ (by kernel_rfl) (of_decide_eq_true (by kernel_rfl)) t4 hb (fun x hx => hlt x (by simp [hx]))), rfl, hb.frame _, fun h => by cases h⟩
theorem journalTells_holds : Rows.JournalTellsSaid :=
  OpenClaim.holds_of_wide 3 Tryz.f3 rfl rfl rfl rfl rfl rfl rfl ⟨rfl, rfl, rfl, rfl, rfl⟩ rfl rfl rfl rfl rfl (by kernel_rfl) Tryz.func3 (by kernel_rfl)
    (of_decide_eq_true (by kernel_rfl)) (by unfold Func.isWrapper; first | (rw [if_pos (by decide +kernel)]; kernel_rfl) | (rw [if_neg (by decide +kernel)]; exact ⟨rfl, rfl⟩))
    (fun os started H enc _ => journalTells_lifted os started H enc)
/-- The tied card. -/
theorem journalTells_card : Rows.JournalTellsCardSaid :=
  Claim7.holds_tied_plain_at .later [] [.handle, .sentinel, .sentinel] true (true, "cb013ca72a810b171ce558844e8eb97459fb13afcbc56ec6ac1e9f1755ccdb6a") true
    journalTells_holds (fun _ h => by cases h) (by kernel_rfl) (fun _ h => by cases h) journalTells_row_tie rfl ⟨rfl, rfl⟩ (by kernel_rfl) rfl
    (fun f fn hf hfn => by
      obtain rfl : f = 3 := Option.some.inj ((show Tryz.prog.funcNamed "plimsoll/plimsolllaw15.JournalTells" = some 3 by kernel_rfl).symm.trans hf) |>.symm
      obtain rfl : fn = Tryz.f3 := (Option.some.inj (Tryz.func3.symm.trans hfn)).symm
      exact ⟨by kernel_rfl, fun j t ht => by
        rw [Tryz.params3] at ht
        have hm : t ∈ [22, 23, 3, 26, 23] := by simpa using Array.mem_of_getElem? ht
        have hall : ([22, 23, 3, 26, 23].all fun u => !Tryz.prog.wantsStandIn u) = true := by kernel_rfl
        exact (show Tryz.prog.wantsStandIn t = false by simpa using List.all_eq_true.1 hall t hm)⟩)
    (by kernel_rfl)
#print axioms journalTells_card
end Go.Proofs.YthehnjbdkjnlpaaGreatDoor
