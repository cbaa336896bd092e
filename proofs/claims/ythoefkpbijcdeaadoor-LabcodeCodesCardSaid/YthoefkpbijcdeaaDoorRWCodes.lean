/- The laws of chapter 4 (labcode), walked over the given program; no condition but what stands in each theorem: part WCodes. -/
import Derived.Test.YthoefkpbijcdeaaDoorRUCodes
import Derived.Test.YthoefkpbijcdeaaDoorRV
import Derived.Test.YthoefkpbijcdeaaDoorCards
import Derived.Test.YthoefkpbijcdeaaDoorTie
import Derived.SevenTiedAt
set_option linter.unusedVariables false
set_option linter.unusedSimpArgs false
set_option maxRecDepth 100000
set_option maxHeartbeats 8000000
namespace Go.Proofs.YthoefkpbijcdeaaDoor
open Go Go.Sl Go.RowKit Go.Extern.Stop Go.Stop Go.Extern
theorem gn0_labcodeCodes : Tryd.prog.globalNamed "plimsoll/field.errArg" = some 1 := by kernel_rfl
theorem gt0_labcodeCodes : (Tryd.prog.globals[1]?).map (·.type) = some 46 := by kernel_rfl
theorem gn1_labcodeCodes : Tryd.prog.globalNamed "plimsoll/field.errMore" = some 3 := by kernel_rfl
theorem gt1_labcodeCodes : (Tryd.prog.globals[3]?).map (·.type) = some 46 := by kernel_rfl
theorem gn2_labcodeCodes : Tryd.prog.globalNamed "plimsoll/field.errField" = some 4 := by kernel_rfl
theorem gt2_labcodeCodes : (Tryd.prog.globals[4]?).map (·.type) = some 46 := by kernel_rfl
theorem gn3_labcodeCodes : Tryd.prog.globalNamed "plimsoll/labcode.errLabel" = some 0 := by kernel_rfl
theorem gt3_labcodeCodes : (Tryd.prog.globals[0]?).map (·.type) = some 46 := by kernel_rfl
theorem cellsE_labcodeCodes : Tryd.prog.cellsOf 161 = 1 := by kernel_rfl
theorem cellsS_labcodeCodes : Tryd.prog.cellsOf 9 = 1 := by kernel_rfl
theorem star_labcodeCodes : "*" ++ "errors.errorString" = "*errors.errorString" := by decide
theorem rowP_labcodeCodes (u : TypeId) (h : Tryd.prog.typeName? 3 u = some "*errors.errorString") : u = 141 :=
  typeName_ptr_named (nm := "errors.errorString") (by rw [star_labcodeCodes]; kernel_rfl) (by kernel_rfl) (by decide) u (by rw [star_labcodeCodes]; exact h)
noncomputable def laidL_labcodeCodes : List (String × DataW Unit) := Rows.labcodeCodesRow.laid
theorem door_labcodeCodes (os : Os) (args : Array Value) : laidMetH Tryd.prog laidL_labcodeCodes ((World.doorLaid Tryd.prog 400 os).forCall (fun _ _ => 0) ⟨#[], args, []⟩).memory :=
  laidMetH_of_parts3 (fuel := 8) (laidMet_of_run' 8 (by kernel_rfl) (by kernel_rfl)) (by kernel_rfl) (by kernel_rfl)
theorem met_labcodeCodes {W : World} (h : laidMetH Tryd.prog laidL_labcodeCodes W) : laidMet Tryd.prog (laidL_labcodeCodes.filter fun x => x.2.handleName?.isNone) W ∧ W.cell? ⟨2, 0, none⟩ = some (.iface 122 (.agg #[.pointer (some ⟨5, 46, none⟩)])) := by
  have h' : laidMet Tryd.prog (laidL_labcodeCodes.filter fun x => x.2.handleName?.isNone) W ∧ handlesMet Tryd.prog [("errors.errorType", .iface "internal/reflectlite.rtype" (.agg [.ptr (.lit (.string [101, 114, 114, 111, 114]))]))] W := h
  exact ⟨h'.1, handle_of h'.2⟩
theorem of_laid_labcodeCodes {W : World} (h : laidMetH Tryd.prog laidL_labcodeCodes W) : ∃ a0 a1 a2 a3 : Addr, Sent Tryd.prog W "plimsoll/field.errArg" 1 141 a0 ∧ Sent Tryd.prog W "plimsoll/field.errMore" 3 141 a1 ∧ Sent Tryd.prog W "plimsoll/field.errField" 4 141 a2 ∧ Sent Tryd.prog W "plimsoll/labcode.errLabel" 0 141 a3 ∧ a0 ≠ a1 ∧ a0 ≠ a2 ∧ a0 ≠ a3 ∧ a1 ≠ a2 ∧ a1 ≠ a3 ∧ a2 ≠ a3 := by
  have h := (met_labcodeCodes h).1
  exact laid_s4 h gn0_labcodeCodes gt0_labcodeCodes gn1_labcodeCodes gt1_labcodeCodes gn2_labcodeCodes gt2_labcodeCodes gn3_labcodeCodes gt3_labcodeCodes Tryd.underlying46 rowP_labcodeCodes Tryd.underlying141 Tryd.underlying161 rfl rfl Tryd.underlying9 cellsE_labcodeCodes cellsS_labcodeCodes
open Go.ChangeShapes Go.WideShapes Go.ChangeAt Go.Joins
set_option maxRecDepth 100000 in
theorem labcodeCodes_lifted (os : Os) (started : os.Started) (H : Type) (enc : TypeId × Value → H) :
    ReturnsInHanded {} Tryd.checked os 7 .any (fun w args => (Rows.labcodeCodesSpec.pre enc Tryd.prog Tryd.f7 [] false w args ∧ laidMetH Tryd.prog laidL_labcodeCodes w) ∧ sizedMet enc Tryd.prog Tryd.f7 (OpenSpec.ofChange Rows.labcodeCodesSpec) false w args)
      (Rows.labcodeCodesSpec.post enc Tryd.prog Tryd.f7 false true false false) := by
  refine returnsInHanded_of_change_and (C := Tryd.checked) (X := fun w _ => laidMetH Tryd.prog laidL_labcodeCodes w) (fun _ _ _ hh h => h.of_heap hh) own_ started (by kernel_rfl) Tryd.func7
    (ChangeSpec.witness_shaped (enc := enc) (C := Tryd.checked) (os := os) (X := fun w _ => laidMetH Tryd.prog laidL_labcodeCodes w) false (World.doorLaid Tryd.prog 400 os) #[.agg #[.int .i64 0, .int .u64 0, .int .i64 0], .agg #[.int .i64 0, .int .u64 0, .int .i64 0], .string ⟨#[]⟩] 8 rfl (World.shaped_of_RefB (by kernel_rfl) (by kernel_rfl)) (by kernel_rfl) (by kernel_rfl) (by kernel_rfl) (door_labcodeCodes os _)) ?_
  intro W base args ds gs before hval0 hW _ _ hL _
  have hval : ∀ (j : Nat) t v, Tryd.f7.params[j]? = some t → args[j]? = some v → Value.okWide Tryd.prog W .any base t v := hval0
  have hW' := hW
  obtain ⟨p, q, hA0, hV, rfl, hfz, hnd⟩ := hW
  have hA : DataW.TrodAll enc Tryd.prog W 0 (fun _ => true) true Tryd.f7.params.toList args.toList ds p := hA0
  rw [Tryd.params7] at hA hval
  obtain ⟨v0, v1, v2, d0, d1, d2, p0, p1, p2, rfl, rfl, rfl, h0, h1, h2⟩ := trodAll_n3 hA
  obtain ⟨rfl, rfl⟩ := trodVars_none hV
  obtain ⟨a0, a1, a2, a3, s0_, s1_, s2_, s3_, n01, n02, n03, n12, n13, n23⟩ := of_laid_labcodeCodes hL
  have hh_ := (met_labcodeCodes hL).2
  clear hA0 hval0
  simp only [List.append_nil] at hW'
  have t0 := h0
  obtain ⟨fu0, hf0⟩ := h0
  obtain ⟨x0, rfl, ok0⟩ := open_struct (f := labTy.enc) (Pr := okLab) Tryd.underlying24 (hval 0 24 _ rfl rfl) (fun n cs y h => read_Lab h) t0
  have t1 := h1
  obtain ⟨fu1, hf1⟩ := h1
  obtain ⟨x1, rfl, ok1⟩ := open_struct (f := labTy.enc) (Pr := okLab) Tryd.underlying24 (hval 1 24 _ rfl rfl) (fun n cs y h => read_Lab h) t1
  have t2 := h2
  obtain ⟨fu2, hf2⟩ := h2
  obtain ⟨s2, rfl⟩ := okWide_string Tryd.underlying9 (hval 2 9 _ rfl rfl)
  have b2 : s2.size ≤ 9223372036854775807 := by
    obtain ⟨z, hz, hb⟩ := open_str Tryd.underlying9 hf2
    have e : z = s2 := by simpa [Value.cells] using hz.symm
    rw [← e]; exact hb
  refine (con_calls (LabcodeCodes_ a0 a1 a2 a3 n01 n02 n12 x0 x1 s2 (lb_of ok0) (lb_of ok1) b2) (Facts.cons (sent_facts s0_) (Facts.cons (sent_facts s1_) (Facts.cons (sent_facts s2_) (Facts.cons (sent_facts s3_) (Facts.cons (errFact s0_) (Facts.cons (errFact s1_) (Facts.cons (errFact s2_) (Facts.cons (errFact s3_) (Facts.cons (cell_facts hh_) (Facts.nil _))))))))))).mono fun e W' ⟨he, hb⟩ => ?_
  subst he
  have hlt : ∀ x ∈ p0 ++ (p1 ++ p2), x.block < W.heap.size := fun x hx => by simpa using hW'.lt x (by simpa using hx)
  exact ⟨_, rfl, [d0, d1, d2], [], _, [], p0 ++ (p1 ++ p2), [], hW', trodAll_mkn1 (shut_bool Tryd.underlying4 true), trodAll_mkn3 (Below.trod laidOut_ (by kernel_rfl) (of_decide_eq_true (by kernel_rfl)) t0 hb (fun x hx => hlt x (by simp [hx]))) (Below.trod laidOut_ (by kernel_rfl) (of_decide_eq_true (by kernel_rfl)) t1 hb (fun x hx => hlt x (by simp [hx]))) (Below.trod laidOut_ (by kernel_rfl) (of_decide_eq_true (by kernel_rfl)) t2 hb (fun x hx => hlt x (by simp [hx]))), rfl, hb.frame _, fun h => by cases h⟩
theorem labcodeCodes_holds : Rows.LabcodeCodesSaid :=
  OpenClaim.holds_of_wide 7 Tryd.f7 rfl rfl rfl rfl rfl rfl rfl ⟨rfl, rfl, rfl, rfl, rfl⟩ rfl rfl rfl rfl rfl (by kernel_rfl) Tryd.func7 (by kernel_rfl)
    (of_decide_eq_true (by kernel_rfl)) (by unfold Func.isWrapper; first | (rw [if_pos (by decide +kernel)]; kernel_rfl) | (rw [if_neg (by decide +kernel)]; exact ⟨rfl, rfl⟩))
    (fun os started H enc _ => labcodeCodes_lifted os started H enc)
/-- The tied card. -/
theorem labcodeCodes_card : Rows.LabcodeCodesCardSaid :=
  Claim7.holds_tied_plain_at .later [] [.handle, .sentinel, .sentinel, .sentinel, .sentinel] true (true, "82d7388c699c1f59c478d7b5162bc7ad8aedc7a42c1ff6199c48f7e1ed07bcde") true
    labcodeCodes_holds (fun _ h => by cases h) (by kernel_rfl) (fun _ h => by cases h) labcodeCodes_row_tie rfl ⟨rfl, rfl⟩ (by kernel_rfl) rfl
    (fun f fn hf hfn => by
      obtain rfl : f = 7 := Option.some.inj ((show Tryd.prog.funcNamed "plimsoll/plimsolllaw04.LabcodeCodes" = some 7 by kernel_rfl).symm.trans hf) |>.symm
      obtain rfl : fn = Tryd.f7 := (Option.some.inj (Tryd.func7.symm.trans hfn)).symm
      exact ⟨by kernel_rfl, fun j t ht => by
        rw [Tryd.params7] at ht
        have hm : t ∈ [24, 24, 9] := by simpa using Array.mem_of_getElem? ht
        have hall : ([24, 24, 9].all fun u => !Tryd.prog.wantsStandIn u) = true := by kernel_rfl
        exact (show Tryd.prog.wantsStandIn t = false by simpa using List.all_eq_true.1 hall t hm)⟩)
    (by kernel_rfl)
#print axioms labcodeCodes_card
end Go.Proofs.YthoefkpbijcdeaaDoor
