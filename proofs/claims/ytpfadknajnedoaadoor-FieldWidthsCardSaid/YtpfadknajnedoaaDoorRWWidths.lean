/- The laws of chapter 3 (field), walked over the given program; no condition but what stands in each theorem: part WWidths. -/
import Derived.Test.YtpfadknajnedoaaDoorRUWidths
import Derived.Test.YtpfadknajnedoaaDoorRV
import Derived.Test.YtpfadknajnedoaaDoorCards
import Derived.Test.YtpfadknajnedoaaDoorTie
import Derived.SevenTiedAt
set_option linter.unusedVariables false
set_option linter.unusedSimpArgs false
set_option maxRecDepth 100000
set_option maxHeartbeats 8000000
namespace Go.Proofs.YtpfadknajnedoaaDoor
open Go Go.Sl Go.RowKit Go.Extern.Stop Go.Stop Go.Extern
theorem gn0_fieldWidths : Tryd.prog.globalNamed "plimsoll/field.errArg" = some 1 := by kernel_rfl
theorem gt0_fieldWidths : (Tryd.prog.globals[1]?).map (·.type) = some 47 := by kernel_rfl
theorem gn1_fieldWidths : Tryd.prog.globalNamed "plimsoll/field.errMore" = some 2 := by kernel_rfl
theorem gt1_fieldWidths : (Tryd.prog.globals[2]?).map (·.type) = some 47 := by kernel_rfl
theorem gn2_fieldWidths : Tryd.prog.globalNamed "plimsoll/field.errField" = some 0 := by kernel_rfl
theorem gt2_fieldWidths : (Tryd.prog.globals[0]?).map (·.type) = some 47 := by kernel_rfl
theorem cellsE_fieldWidths : Tryd.prog.cellsOf 129 = 1 := by kernel_rfl
theorem cellsS_fieldWidths : Tryd.prog.cellsOf 9 = 1 := by kernel_rfl
theorem star_fieldWidths : "*" ++ "errors.errorString" = "*errors.errorString" := by decide
theorem rowP_fieldWidths (u : TypeId) (h : Tryd.prog.typeName? 3 u = some "*errors.errorString") : u = 107 :=
  typeName_ptr_named (nm := "errors.errorString") (by rw [star_fieldWidths]; kernel_rfl) (by kernel_rfl) (by decide) u (by rw [star_fieldWidths]; exact h)
noncomputable def laidL_fieldWidths : List (String × DataW Unit) := Rows.fieldWidthsRow.laid
theorem door_fieldWidths (os : Os) (args : Array Value) : laidMetH Tryd.prog laidL_fieldWidths ((World.doorLaid Tryd.prog 400 os).forCall (fun _ _ => 0) ⟨#[], args, []⟩).memory :=
  laidMetH_of_parts3 (fuel := 8) (laidMet_of_run' 8 (by kernel_rfl) (by kernel_rfl)) (by kernel_rfl) (by kernel_rfl)
theorem met_fieldWidths {W : World} (h : laidMetH Tryd.prog laidL_fieldWidths W) : laidMet Tryd.prog (laidL_fieldWidths.filter fun x => x.2.handleName?.isNone) W ∧ W.cell? ⟨3, 0, none⟩ = some (.iface 92 (.agg #[.pointer (some ⟨4, 47, none⟩)])) := by
  have h' : laidMet Tryd.prog (laidL_fieldWidths.filter fun x => x.2.handleName?.isNone) W ∧ handlesMet Tryd.prog [("errors.errorType", .iface "internal/reflectlite.rtype" (.agg [.ptr (.lit (.string [101, 114, 114, 111, 114]))]))] W := h
  exact ⟨h'.1, handle_of h'.2⟩
theorem of_laid_fieldWidths {W : World} (h : laidMetH Tryd.prog laidL_fieldWidths W) : ∃ a0 a1 a2 : Addr, Sent Tryd.prog W "plimsoll/field.errArg" 1 107 a0 ∧ Sent Tryd.prog W "plimsoll/field.errMore" 2 107 a1 ∧ Sent Tryd.prog W "plimsoll/field.errField" 0 107 a2 ∧ a0 ≠ a1 ∧ a0 ≠ a2 ∧ a1 ≠ a2 := by
  have h := (met_fieldWidths h).1
  exact laid_s3 h gn0_fieldWidths gt0_fieldWidths gn1_fieldWidths gt1_fieldWidths gn2_fieldWidths gt2_fieldWidths Tryd.underlying47 rowP_fieldWidths Tryd.underlying107 Tryd.underlying129 rfl rfl Tryd.underlying9 cellsE_fieldWidths cellsS_fieldWidths
open Go.ChangeShapes Go.WideShapes Go.ChangeAt Go.Joins
set_option maxRecDepth 100000 in
theorem fieldWidths_lifted (os : Os) (started : os.Started) (H : Type) (enc : TypeId × Value → H) :
    ReturnsInHanded {} Tryd.checked os 6 .any (fun w args => (Rows.fieldWidthsSpec.pre enc Tryd.prog Tryd.f6 [] false w args ∧ laidMetH Tryd.prog laidL_fieldWidths w) ∧ sizedMet enc Tryd.prog Tryd.f6 (OpenSpec.ofChange Rows.fieldWidthsSpec) false w args)
      (Rows.fieldWidthsSpec.post enc Tryd.prog Tryd.f6 false true false false) := by
  refine returnsInHanded_of_change_and (C := Tryd.checked) (X := fun w _ => laidMetH Tryd.prog laidL_fieldWidths w) (fun _ _ _ hh h => h.of_heap hh) own_ started (by kernel_rfl) Tryd.func6
    (ChangeSpec.witness_shaped (enc := enc) (C := Tryd.checked) (os := os) (X := fun w _ => laidMetH Tryd.prog laidL_fieldWidths w) false (World.doorLaid Tryd.prog 400 os) #[.int .i64 0, .int .u64 0] 8 rfl (World.shaped_of_RefB (by kernel_rfl) (by kernel_rfl)) (by kernel_rfl) (by kernel_rfl) (by kernel_rfl) (door_fieldWidths os _)) ?_
  intro W base args ds gs before hval0 hW _ _ hL _
  have hval : ∀ (j : Nat) t v, Tryd.f6.params[j]? = some t → args[j]? = some v → Value.okWide Tryd.prog W .any base t v := hval0
  have hW' := hW
  obtain ⟨p, q, hA0, hV, rfl, hfz, hnd⟩ := hW
  have hA : DataW.TrodAll enc Tryd.prog W 0 (fun _ => true) true Tryd.f6.params.toList args.toList ds p := hA0
  rw [Tryd.params6] at hA hval
  obtain ⟨v0, v1, d0, d1, p0, p1, rfl, rfl, rfl, h0, h1⟩ := trodAll_n2 hA
  obtain ⟨rfl, rfl⟩ := trodVars_none hV
  obtain ⟨a0, a1, a2, s0_, s1_, s2_, n01, n02, n12⟩ := of_laid_fieldWidths hL
  have hh_ := (met_fieldWidths hL).2
  clear hA0 hval0
  simp only [List.append_nil] at hW'
  have t0 := h0
  obtain ⟨fu0, hf0⟩ := h0
  obtain ⟨n0, rfl⟩ := okWide_int Tryd.underlying3 (hval 0 3 _ rfl rfl)
  have b0 : -9223372036854775808 ≤ n0 ∧ n0 ≤ 9223372036854775807 := by
    obtain ⟨z, hz, hb⟩ := open_i64 Tryd.underlying3 hf0
    have e : z = n0 := by simpa [Value.cells] using hz.symm
    rw [← e]; exact hb
  have t1 := h1
  obtain ⟨fu1, hf1⟩ := h1
  obtain ⟨nn1, rfl⟩ := okWide_int Tryd.underlying22 (hval 1 22 _ rfl rfl)
  obtain ⟨m1, hm1, b1⟩ := open_u64 Tryd.underlying22 hf1
  obtain rfl : nn1 = (m1 : Int) := by simpa [Value.cells] using hm1
  refine (con_calls (FieldWidths_ a0 a1 a2 n01 n02 n12 n0 m1 b1) (Facts.cons (sent_facts s0_) (Facts.cons (sent_facts s1_) (Facts.cons (sent_facts s2_) (Facts.cons (errFact s0_) (Facts.cons (errFact s1_) (Facts.cons (errFact s2_) (Facts.cons (cell_facts hh_) (Facts.nil _))))))))).mono fun e W' ⟨he, hb⟩ => ?_
  subst he
  have hlt : ∀ x ∈ p0 ++ p1, x.block < W.heap.size := fun x hx => by simpa using hW'.lt x (by simpa using hx)
  exact ⟨_, rfl, [d0, d1], [], _, [], p0 ++ p1, [], hW', trodAll_mkn1 (shut_bool Tryd.underlying4 true), trodAll_mkn2 (Below.trod laidOut_ (by kernel_rfl) (of_decide_eq_true (by kernel_rfl)) t0 hb (fun x hx => hlt x (by simp [hx]))) (Below.trod laidOut_ (by kernel_rfl) (of_decide_eq_true (by kernel_rfl)) t1 hb (fun x hx => hlt x (by simp [hx]))), rfl, hb.frame _, fun h => by cases h⟩
theorem fieldWidths_holds : Rows.FieldWidthsSaid :=
  OpenClaim.holds_of_wide 6 Tryd.f6 rfl rfl rfl rfl rfl rfl rfl ⟨rfl, rfl, rfl, rfl, rfl⟩ rfl rfl rfl rfl rfl (by kernel_rfl) Tryd.func6 (by kernel_rfl)
    (of_decide_eq_true (by kernel_rfl)) (by unfold Func.isWrapper; first | (rw [if_pos (by decide +kernel)]; kernel_rfl) | (rw [if_neg (by decide +kernel)]; exact ⟨rfl, rfl⟩))
    (fun os started H enc _ => fieldWidths_lifted os started H enc)
/-- The tied card. -/
theorem fieldWidths_card : Rows.FieldWidthsCardSaid :=
  Claim7.holds_tied_plain_at .later [] [.handle, .sentinel, .sentinel, .sentinel] true (true, "c8c0a27d96be948c7b8e149bfc6123fa08506cbd3750604ae164bda16609a8ab") true
    fieldWidths_holds (fun _ h => by cases h) (by kernel_rfl) (fun _ h => by cases h) fieldWidths_row_tie rfl ⟨rfl, rfl⟩ (by kernel_rfl) rfl
    (fun f fn hf hfn => by
      obtain rfl : f = 6 := Option.some.inj ((show Tryd.prog.funcNamed "plimsoll/plimsolllaw03.FieldWidths" = some 6 by kernel_rfl).symm.trans hf) |>.symm
      obtain rfl : fn = Tryd.f6 := (Option.some.inj (Tryd.func6.symm.trans hfn)).symm
      exact ⟨by kernel_rfl, fun j t ht => by
        rw [Tryd.params6] at ht
        have hm : t ∈ [3, 22] := by simpa using Array.mem_of_getElem? ht
        have hall : ([3, 22].all fun u => !Tryd.prog.wantsStandIn u) = true := by kernel_rfl
        exact (show Tryd.prog.wantsStandIn t = false by simpa using List.all_eq_true.1 hall t hm)⟩)
    (by kernel_rfl)
#print axioms fieldWidths_card
end Go.Proofs.YtpfadknajnedoaaDoor
