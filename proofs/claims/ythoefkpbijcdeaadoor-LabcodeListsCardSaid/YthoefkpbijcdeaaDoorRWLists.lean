/- The laws of chapter 4 (labcode), walked over the given program; no condition but what stands in each theorem: part WLists. -/
import Derived.Test.YthoefkpbijcdeaaDoorRULists
import Derived.Test.YthoefkpbijcdeaaDoorRV
import Derived.Test.YthoefkpbijcdeaaDoorCards
import Derived.Test.YthoefkpbijcdeaaDoorTie
import Derived.SevenTiedAt
set_option linter.unusedVariables false
set_option linter.unusedSimpArgs false
set_option maxRecDepth 100000
set_option maxHeartbeats 8000000
namespace Go.Proofs.YthoefkpbijcdeaaDoor
open Go Go.Sl Go.RowKit Go.Extern.Stop Go.Stop Go.Extern
theorem gn0_labcodeLists : Tryd.prog.globalNamed "plimsoll/field.errArg" = some 1 := by kernel_rfl
theorem gt0_labcodeLists : (Tryd.prog.globals[1]?).map (·.type) = some 46 := by kernel_rfl
theorem gn1_labcodeLists : Tryd.prog.globalNamed "plimsoll/field.errMore" = some 3 := by kernel_rfl
theorem gt1_labcodeLists : (Tryd.prog.globals[3]?).map (·.type) = some 46 := by kernel_rfl
theorem gn2_labcodeLists : Tryd.prog.globalNamed "plimsoll/field.errField" = some 4 := by kernel_rfl
theorem gt2_labcodeLists : (Tryd.prog.globals[4]?).map (·.type) = some 46 := by kernel_rfl
theorem gn3_labcodeLists : Tryd.prog.globalNamed "plimsoll/labcode.errLabel" = some 0 := by kernel_rfl
theorem gt3_labcodeLists : (Tryd.prog.globals[0]?).map (·.type) = some 46 := by kernel_rfl
theorem cellsE_labcodeLists : Tryd.prog.cellsOf 161 = 1 := by kernel_rfl
theorem cellsS_labcodeLists : Tryd.prog.cellsOf 9 = 1 := by kernel_rfl
theorem star_labcodeLists : "*" ++ "errors.errorString" = "*errors.errorString" := by decide
theorem rowP_labcodeLists (u : TypeId) (h : Tryd.prog.typeName? 3 u = some "*errors.errorString") : u = 141 :=
  typeName_ptr_named (nm := "errors.errorString") (by rw [star_labcodeLists]; kernel_rfl) (by kernel_rfl) (by decide) u (by rw [star_labcodeLists]; exact h)
noncomputable def laidL_labcodeLists : List (String × DataW Unit) := Rows.labcodeListsRow.laid
theorem door_labcodeLists (os : Os) (args : Array Value) : laidMetH Tryd.prog laidL_labcodeLists ((World.doorLaid Tryd.prog 400 os).forCall (fun _ _ => 0) ⟨#[], args, []⟩).memory :=
  laidMetH_of_parts3 (fuel := 8) (laidMet_of_run' 8 (by kernel_rfl) (by kernel_rfl)) (by kernel_rfl) (by kernel_rfl)
theorem met_labcodeLists {W : World} (h : laidMetH Tryd.prog laidL_labcodeLists W) : laidMet Tryd.prog (laidL_labcodeLists.filter fun x => x.2.handleName?.isNone) W ∧ W.cell? ⟨2, 0, none⟩ = some (.iface 122 (.agg #[.pointer (some ⟨5, 46, none⟩)])) := by
  have h' : laidMet Tryd.prog (laidL_labcodeLists.filter fun x => x.2.handleName?.isNone) W ∧ handlesMet Tryd.prog [("errors.errorType", .iface "internal/reflectlite.rtype" (.agg [.ptr (.lit (.string [101, 114, 114, 111, 114]))]))] W := h
  exact ⟨h'.1, handle_of h'.2⟩
theorem of_laid_labcodeLists {W : World} (h : laidMetH Tryd.prog laidL_labcodeLists W) : ∃ a0 a1 a2 a3 : Addr, Sent Tryd.prog W "plimsoll/field.errArg" 1 141 a0 ∧ Sent Tryd.prog W "plimsoll/field.errMore" 3 141 a1 ∧ Sent Tryd.prog W "plimsoll/field.errField" 4 141 a2 ∧ Sent Tryd.prog W "plimsoll/labcode.errLabel" 0 141 a3 ∧ a0 ≠ a1 ∧ a0 ≠ a2 ∧ a0 ≠ a3 ∧ a1 ≠ a2 ∧ a1 ≠ a3 ∧ a2 ≠ a3 := by
  have h := (met_labcodeLists h).1
  exact laid_s4 h gn0_labcodeLists gt0_labcodeLists gn1_labcodeLists gt1_labcodeLists gn2_labcodeLists gt2_labcodeLists gn3_labcodeLists gt3_labcodeLists Tryd.underlying46 rowP_labcodeLists Tryd.underlying141 Tryd.underlying161 rfl rfl Tryd.underlying9 cellsE_labcodeLists cellsS_labcodeLists
open Go.ChangeShapes Go.WideShapes Go.ChangeAt Go.Joins
set_option maxRecDepth 100000 in
theorem labcodeLists_lifted (os : Os) (started : os.Started) (H : Type) (enc : TypeId × Value → H) :
    ReturnsInHanded {} Tryd.checked os 4 .any (fun w args => (Rows.labcodeListsSpec.pre enc Tryd.prog Tryd.f4 [] false w args ∧ laidMetH Tryd.prog laidL_labcodeLists w) ∧ sizedMet enc Tryd.prog Tryd.f4 (OpenSpec.ofChange Rows.labcodeListsSpec) false w args)
      (Rows.labcodeListsSpec.post enc Tryd.prog Tryd.f4 false true false false) := by
  refine returnsInHanded_of_change_and (C := Tryd.checked) (X := fun w _ => laidMetH Tryd.prog laidL_labcodeLists w) (fun _ _ _ hh h => h.of_heap hh) own_ started (by kernel_rfl) Tryd.func4
    (ChangeSpec.witness_shaped (enc := enc) (C := Tryd.checked) (os := os) (X := fun w _ => laidMetH Tryd.prog laidL_labcodeLists w) false (World.doorLaid Tryd.prog 400 os) #[.slice none 0 0, .string ⟨#[]⟩] 8 rfl (World.shaped_of_RefB (by kernel_rfl) (by kernel_rfl)) (by kernel_rfl) (by kernel_rfl) (by kernel_rfl) (door_labcodeLists os _)) ?_
  intro W base args ds gs before hval0 hW _ _ hL _
  have hval : ∀ (j : Nat) t v, Tryd.f4.params[j]? = some t → args[j]? = some v → Value.okWide Tryd.prog W .any base t v := hval0
  have hW' := hW
  obtain ⟨p, q, hA0, hV, rfl, hfz, hnd⟩ := hW
  have hA : DataW.TrodAll enc Tryd.prog W 0 (fun _ => true) true Tryd.f4.params.toList args.toList ds p := hA0
  rw [Tryd.params4] at hA hval
  obtain ⟨v0, v1, d0, d1, p0, p1, rfl, rfl, rfl, h0, h1⟩ := trodAll_n2 hA
  obtain ⟨rfl, rfl⟩ := trodVars_none hV
  obtain ⟨a0, a1, a2, a3, s0_, s1_, s2_, s3_, n01, n02, n03, n12, n13, n23⟩ := of_laid_labcodeLists hL
  have hh_ := (met_labcodeLists hL).2
  clear hA0 hval0
  simp only [List.append_nil] at hW'
  have t0 := h0
  obtain ⟨fu0, hf0⟩ := h0
  obtain ⟨_, _, _, rfl⟩ := okWide_slice Tryd.underlying34 (hval 0 34 _ rfl rfl)
  obtain ⟨A0, c0, l0, he0, hr0, ok0⟩ := open_list labTy okLab Tryd.underlying34 (by kernel_rfl) (by decide) (fun n cs y h => read_Lab h) hf0
  simp only [Value.slice.injEq] at he0
  obtain ⟨qa0, qb0, qc0⟩ := he0
  have qa0' := qa0.symm
  have qc0' := qc0.symm
  subst qa0'
  subst qb0
  subst qc0'
  have t1 := h1
  obtain ⟨fu1, hf1⟩ := h1
  obtain ⟨s1, rfl⟩ := okWide_string Tryd.underlying9 (hval 1 9 _ rfl rfl)
  have b1 : s1.size ≤ 9223372036854775807 := by
    obtain ⟨z, hz, hb⟩ := open_str Tryd.underlying9 hf1
    have e : z = s1 := by simpa [Value.cells] using hz.symm
    rw [← e]; exact hb
  refine (con_calls (LabcodeLists_ a0 a1 a2 a3 n01 n02 n12 A0 c0 l0 s1 (fun y hy => lb_of (ok0 y hy)) b1) (Facts.cons (hr0) (Facts.cons (sent_facts s0_) (Facts.cons (sent_facts s1_) (Facts.cons (sent_facts s2_) (Facts.cons (sent_facts s3_) (Facts.cons (errFact s0_) (Facts.cons (errFact s1_) (Facts.cons (errFact s2_) (Facts.cons (errFact s3_) (Facts.cons (cell_facts hh_) (Facts.nil _)))))))))))).mono fun e W' ⟨he, hb⟩ => ?_
  subst he
  have hlt : ∀ x ∈ p0 ++ p1, x.block < W.heap.size := fun x hx => by simpa using hW'.lt x (by simpa using hx)
  exact ⟨_, rfl, [d0, d1], [], _, [], p0 ++ p1, [], hW', trodAll_mkn1 (shut_bool Tryd.underlying4 true), trodAll_mkn2 (Below.trod laidOut_ (by kernel_rfl) (of_decide_eq_true (by kernel_rfl)) t0 hb (fun x hx => hlt x (by simp [hx]))) (Below.trod laidOut_ (by kernel_rfl) (of_decide_eq_true (by kernel_rfl)) t1 hb (fun x hx => hlt x (by simp [hx]))), rfl, hb.frame _, fun h => by cases h⟩
theorem labcodeLists_holds : Rows.LabcodeListsSaid :=
  OpenClaim.holds_of_wide 4 Tryd.f4 rfl rfl rfl rfl rfl rfl rfl ⟨rfl, rfl, rfl, rfl, rfl⟩ rfl rfl rfl rfl rfl (by kernel_rfl) Tryd.func4 (by kernel_rfl)
    (of_decide_eq_true (by kernel_rfl)) (by unfold Func.isWrapper; first | (rw [if_pos (by decide +kernel)]; kernel_rfl) | (rw [if_neg (by decide +kernel)]; exact ⟨rfl, rfl⟩))
    (fun os started H enc _ => labcodeLists_lifted os started H enc)
/-- The tied card. -/
theorem labcodeLists_card : Rows.LabcodeListsCardSaid :=
  Claim7.holds_tied_plain_at .later [] [.handle, .sentinel, .sentinel, .sentinel, .sentinel] true (true, "82d7388c699c1f59c478d7b5162bc7ad8aedc7a42c1ff6199c48f7e1ed07bcde") true
    labcodeLists_holds (fun _ h => by cases h) (by kernel_rfl) (fun _ h => by cases h) labcodeLists_row_tie rfl ⟨rfl, rfl⟩ (by kernel_rfl) rfl
    (fun f fn hf hfn => by
      obtain rfl : f = 4 := Option.some.inj ((show Tryd.prog.funcNamed "plimsoll/plimsolllaw04.LabcodeLists" = some 4 by kernel_rfl).symm.trans hf) |>.symm
      obtain rfl : fn = Tryd.f4 := (Option.some.inj (Tryd.func4.symm.trans hfn)).symm
      exact ⟨by kernel_rfl, fun j t ht => by
        rw [Tryd.params4] at ht
        have hm : t ∈ [34, 9] := by simpa using Array.mem_of_getElem? ht
        have hall : ([34, 9].all fun u => !Tryd.prog.wantsStandIn u) = true := by kernel_rfl
        exact (show Tryd.prog.wantsStandIn t = false by simpa using List.all_eq_true.1 hall t hm)⟩)
    (by kernel_rfl)
#print axioms labcodeLists_card
end Go.Proofs.YthoefkpbijcdeaaDoor
