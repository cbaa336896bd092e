/- The laws of chapter 15 (journal), walked over the given program; no condition but what stands in each theorem: part WReleases. -/
import Derived.Test.YthehnjbdkjnlpaaDoorRUReleases
import Derived.Test.YthehnjbdkjnlpaaDoorRV
import Derived.Test.YthehnjbdkjnlpaaDoorCards
import Derived.Test.YthehnjbdkjnlpaaDoorTie
import Derived.SevenTiedAt
set_option linter.unusedVariables false
set_option linter.unusedSimpArgs false
set_option maxRecDepth 100000
set_option maxHeartbeats 8000000
namespace Go.Proofs.YthehnjbdkjnlpaaDoor
open Go Go.Sl Go.RowKit Go.Extern.Stop Go.Stop Go.Extern
theorem gn0_journalReleases : Tryd.prog.globalNamed "plimsoll/filter.errFilter" = some 2 := by kernel_rfl
theorem gt0_journalReleases : (Tryd.prog.globals[2]?).map (·.type) = some 57 := by kernel_rfl
theorem gn1_journalReleases : Tryd.prog.globalNamed "plimsoll/journal.errSpent" = some 0 := by kernel_rfl
theorem gt1_journalReleases : (Tryd.prog.globals[0]?).map (·.type) = some 57 := by kernel_rfl
theorem cellsE_journalReleases : Tryd.prog.cellsOf 175 = 1 := by kernel_rfl
theorem cellsS_journalReleases : Tryd.prog.cellsOf 9 = 1 := by kernel_rfl
theorem star_journalReleases : "*" ++ "errors.errorString" = "*errors.errorString" := by decide
theorem rowP_journalReleases (u : TypeId) (h : Tryd.prog.typeName? 3 u = some "*errors.errorString") : u = 154 :=
  typeName_ptr_named (nm := "errors.errorString") (by rw [star_journalReleases]; kernel_rfl) (by kernel_rfl) (by decide) u (by rw [star_journalReleases]; exact h)
noncomputable def laidL_journalReleases : List (String × DataW Unit) := Rows.journalReleasesRow.laid
theorem door_journalReleases (os : Os) (args : Array Value) : laidMetH Tryd.prog laidL_journalReleases ((World.doorLaid Tryd.prog 400 os).forCall (fun _ _ => 0) ⟨#[], args, []⟩).memory :=
  laidMetH_of_parts3 (fuel := 8) (laidMet_of_run' 8 (by kernel_rfl) (by kernel_rfl)) (by kernel_rfl) (by kernel_rfl)
theorem met_journalReleases {W : World} (h : laidMetH Tryd.prog laidL_journalReleases W) : laidMet Tryd.prog (laidL_journalReleases.filter fun x => x.2.handleName?.isNone) W ∧ W.cell? ⟨1, 0, none⟩ = some (.iface 121 (.agg #[.pointer (some ⟨4, 57, none⟩)])) := by
  have h' : laidMet Tryd.prog (laidL_journalReleases.filter fun x => x.2.handleName?.isNone) W ∧ handlesMet Tryd.prog [("errors.errorType", .iface "internal/reflectlite.rtype" (.agg [.ptr (.lit (.string [101, 114, 114, 111, 114]))]))] W := h
  exact ⟨h'.1, handle_of h'.2⟩
theorem of_laid_journalReleases {W : World} (h : laidMetH Tryd.prog laidL_journalReleases W) : ∃ a0 a1 : Addr, Sent Tryd.prog W "plimsoll/filter.errFilter" 2 154 a0 ∧ Sent Tryd.prog W "plimsoll/journal.errSpent" 0 154 a1 ∧ a0 ≠ a1 := by
  have h := (met_journalReleases h).1
  exact laid_s2 h gn0_journalReleases gt0_journalReleases gn1_journalReleases gt1_journalReleases Tryd.underlying57 rowP_journalReleases Tryd.underlying154 Tryd.underlying175 rfl rfl Tryd.underlying9 cellsE_journalReleases cellsS_journalReleases
open Go.ChangeShapes Go.WideShapes Go.ChangeAt Go.Joins
set_option maxRecDepth 100000 in
theorem journalReleases_lifted (os : Os) (started : os.Started) (H : Type) (enc : TypeId × Value → H) :
    ReturnsInHanded {} Tryd.checked os 3 .any (fun w args => (Rows.journalReleasesSpec.pre enc Tryd.prog Tryd.f3 [] false w args ∧ laidMetH Tryd.prog laidL_journalReleases w) ∧ sizedMet enc Tryd.prog Tryd.f3 (OpenSpec.ofChange Rows.journalReleasesSpec) false w args)
      (Rows.journalReleasesSpec.post enc Tryd.prog Tryd.f3 false true false false) := by
  refine returnsInHanded_of_change_and (C := Tryd.checked) (X := fun w _ => laidMetH Tryd.prog laidL_journalReleases w) (fun _ _ _ hh h => h.of_heap hh) own_ started (by kernel_rfl) Tryd.func3
    (ChangeSpec.witness_shaped (enc := enc) (C := Tryd.checked) (os := os) (X := fun w _ => laidMetH Tryd.prog laidL_journalReleases w) false (World.doorLaid Tryd.prog 400 os) #[.slice none 0 0, .slice none 0 0, .int .i64 0, .agg #[.int .i64 0, .int .u64 0, .int .i64 0], .int .i64 0, .string ⟨#[]⟩] 8 rfl (World.shaped_of_RefB (by kernel_rfl) (by kernel_rfl)) (by kernel_rfl) (by kernel_rfl) (by kernel_rfl) (door_journalReleases os _)) ?_
  intro W base args ds gs before hval0 hW _ _ hL _
  have hval : ∀ (j : Nat) t v, Tryd.f3.params[j]? = some t → args[j]? = some v → Value.okWide Tryd.prog W .any base t v := hval0
  have hW' := hW
  obtain ⟨p, q, hA0, hV, rfl, hfz, hnd⟩ := hW
  have hA : DataW.TrodAll enc Tryd.prog W 0 (fun _ => true) true Tryd.f3.params.toList args.toList ds p := hA0
  rw [Tryd.params3] at hA hval
  obtain ⟨v0, v1, v2, v3, v4, v5, d0, d1, d2, d3, d4, d5, p0, p1, p2, p3, p4, p5, rfl, rfl, rfl, h0, h1, h2, h3, h4, h5⟩ := trodAll_n6 hA
  obtain ⟨rfl, rfl⟩ := trodVars_none hV
  obtain ⟨a0, a1, s0_, s1_, n01⟩ := of_laid_journalReleases hL
  have hh_ := (met_journalReleases hL).2
  clear hA0 hval0
  simp only [List.append_nil] at hW'
  have t0 := h0
  obtain ⟨fu0, hf0⟩ := h0
  obtain ⟨_, _, _, rfl⟩ := okWide_slice Tryd.underlying22 (hval 0 22 _ rfl rfl)
  obtain ⟨A0, c0, l0, he0, hr0, ok0⟩ := open_list rulTy okRul Tryd.underlying22 (by kernel_rfl) (by decide) (fun n cs y h => read_Rul h) hf0
  simp only [Value.slice.injEq] at he0
  obtain ⟨qa0, qb0, qc0⟩ := he0
  have qa0' := qa0.symm
  have qc0' := qc0.symm
  subst qa0'
  subst qb0
  subst qc0'
  have t1 := h1
  obtain ⟨fu1, hf1⟩ := h1
  obtain ⟨_, _, _, rfl⟩ := okWide_slice Tryd.underlying23 (hval 1 23 _ rfl rfl)
  obtain ⟨A1, c1, l1, he1, hr1, ok1⟩ := open_list entTy okJen Tryd.underlying23 (by kernel_rfl) (by decide) (fun n cs y h => read_Jen h) hf1
  simp only [Value.slice.injEq] at he1
  obtain ⟨qa1, qb1, qc1⟩ := he1
  have qa1' := qa1.symm
  have qc1' := qc1.symm
  subst qa1'
  subst qb1
  subst qc1'
  have t2 := h2
  obtain ⟨fu2, hf2⟩ := h2
  obtain ⟨n2, rfl⟩ := okWide_int Tryd.underlying3 (hval 2 3 _ rfl rfl)
  have b2 : -9223372036854775808 ≤ n2 ∧ n2 ≤ 9223372036854775807 := by
    obtain ⟨z, hz, hb⟩ := open_i64 Tryd.underlying3 hf2
    have e : z = n2 := by simpa [Value.cells] using hz.symm
    rw [← e]; exact hb
  have t3 := h3
  obtain ⟨fu3, hf3⟩ := h3
  obtain ⟨x3, rfl, ok3⟩ := open_struct (f := labTy.enc) (Pr := okLab) Tryd.underlying26 (hval 3 26 _ rfl rfl) (fun n cs y h => read_Lab h) t3
  have t4 := h4
  obtain ⟨fu4, hf4⟩ := h4
  obtain ⟨n4, rfl⟩ := okWide_int Tryd.underlying3 (hval 4 3 _ rfl rfl)
  have b4 : -9223372036854775808 ≤ n4 ∧ n4 ≤ 9223372036854775807 := by
    obtain ⟨z, hz, hb⟩ := open_i64 Tryd.underlying3 hf4
    have e : z = n4 := by simpa [Value.cells] using hz.symm
    rw [← e]; exact hb
  have t5 := h5
  obtain ⟨fu5, hf5⟩ := h5
  obtain ⟨s5, rfl⟩ := okWide_string Tryd.underlying9 (hval 5 9 _ rfl rfl)
  have b5 : s5.size ≤ 9223372036854775807 := by
    obtain ⟨z, hz, hb⟩ := open_str Tryd.underlying9 hf5
    have e : z = s5 := by simpa [Value.cells] using hz.symm
    rw [← e]; exact hb
  refine (con_calls (JournalReleases_ a0 a1 A0 c0 l0 A1 c1 l1 n2 x3 n4 s5 (fun y hy => rb_of (ok0 y hy)) (fun y hy => eb_of (ok1 y hy)) b5) (Facts.cons (hr0) (Facts.cons (hr1) (Facts.cons (sent_facts s0_) (Facts.cons (sent_facts s1_) (Facts.cons (errFact s0_) (Facts.cons (errFact s1_) (Facts.cons (cell_facts hh_) (Facts.nil _))))))))).mono fun e W' ⟨he, hb⟩ => ?_
  subst he
  have hlt : ∀ x ∈ p0 ++ (p1 ++ (p2 ++ (p3 ++ (p4 ++ p5)))), x.block < W.heap.size := fun x hx => by simpa using hW'.lt x (by simpa using hx)
  exact ⟨_, rfl, [d0, d1, d2, d3, d4, d5], [], _, [], p0 ++ (p1 ++ (p2 ++ (p3 ++ (p4 ++ p5)))), [], hW', trodAll_mkn1 (shut_bool Tryd.underlying4 true), trodAll_mkn6 (Below.trod laidOut_ (by kernel_rfl) (of_decide_eq_true (by kernel_rfl)) t0 hb (fun x hx => hlt x (by simp [hx]))) (Below.trod laidOut_ (by kernel_rfl) (of_decide_eq_true (by kernel_rfl)) t1 hb (fun x hx => hlt x (by simp [hx]))) (Below.trod laidOut_ (by kernel_rfl) (of_decide_eq_true (by kernel_rfl)) t2 hb (fun x hx => hlt x (by simp [hx]))) (Below.trod laidOut_ (by kernel_rfl) (of_decide_eq_true (by kernel_rfl)) t3 hb (fun x hx => hlt x (by simp [hx]))) (Below.trod laidOut_ (by kernel_rfl) (of_decide_eq_true (by kernel_rfl)) t4 hb (fun x hx => hlt x (by simp [hx]))) (Below.trod laidOut_ (by kernel_rfl) (of_decide_eq_true (by kernel_rfl)) t5 hb (fun x hx => hlt x (by simp [hx]))), rfl, hb.frame _, fun h => by cases h⟩
theorem journalReleases_holds : Rows.JournalReleasesSaid :=
  OpenClaim.holds_of_wide 3 Tryd.f3 rfl rfl rfl rfl rfl rfl rfl ⟨rfl, rfl, rfl, rfl, rfl⟩ rfl rfl rfl rfl rfl (by kernel_rfl) Tryd.func3 (by kernel_rfl)
    (of_decide_eq_true (by kernel_rfl)) (by unfold Func.isWrapper; first | (rw [if_pos (by decide +kernel)]; kernel_rfl) | (rw [if_neg (by decide +kernel)]; exact ⟨rfl, rfl⟩))
    (fun os started H enc _ => journalReleases_lifted os started H enc)
/-- The tied card. -/
theorem journalReleases_card : Rows.JournalReleasesCardSaid :=
  Claim7.holds_tied_plain_at .later [] [.handle, .sentinel, .sentinel] true (true, "72eba0f33a7e5651a87a0ac21875880bf9ac478e65bbb692fb67f4bbfb5bbbdb") true
    journalReleases_holds (fun _ h => by cases h) (by kernel_rfl) (fun _ h => by cases h) journalReleases_row_tie rfl ⟨rfl, rfl⟩ (by kernel_rfl) rfl
    (fun f fn hf hfn => by
      obtain rfl : f = 3 := Option.some.inj ((show Tryd.prog.funcNamed "plimsoll/plimsolllaw15.JournalReleases" = some 3 by kernel_rfl).symm.trans hf) |>.symm
      obtain rfl : fn = Tryd.f3 := (Option.some.inj (Tryd.func3.symm.trans hfn)).symm
      exact ⟨by kernel_rfl, fun j t ht => by
        rw [Tryd.params3] at ht
        have hm : t ∈ [22, 23, 3, 26, 3, 9] := by simpa using Array.mem_of_getElem? ht
        have hall : ([22, 23, 3, 26, 3, 9].all fun u => !Tryd.prog.wantsStandIn u) = true := by kernel_rfl
        exact (show Tryd.prog.wantsStandIn t = false by simpa using List.all_eq_true.1 hall t hm)⟩)
    (by kernel_rfl)
#print axioms journalReleases_card
end Go.Proofs.YthehnjbdkjnlpaaDoor
