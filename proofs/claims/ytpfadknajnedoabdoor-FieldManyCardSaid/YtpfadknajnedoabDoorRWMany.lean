/- The laws of chapter 3 (field), walked over the given program; no condition but what stands in each theorem: part WMany. -/
import Derived.Test.YtpfadknajnedoabDoorRUMany
import Derived.Test.YtpfadknajnedoabDoorRV
import Derived.Test.YtpfadknajnedoabDoorCards
import Derived.Test.YtpfadknajnedoabDoorTie
import Derived.SevenTiedAt
set_option linter.unusedVariables false
set_option linter.unusedSimpArgs false
set_option maxRecDepth 100000
set_option maxHeartbeats 8000000
namespace Go.Proofs.YtpfadknajnedoabDoor
open Go Go.Sl Go.RowKit Go.Extern.Stop Go.Stop Go.Extern
theorem gn0_fieldMany : Tryd.prog.globalNamed "plimsoll/field.errArg" = some 0 := by kernel_rfl
theorem gt0_fieldMany : (Tryd.prog.globals[0]?).map (·.type) = some 43 := by kernel_rfl
theorem gn1_fieldMany : Tryd.prog.globalNamed "plimsoll/field.errMore" = some 2 := by kernel_rfl
theorem gt1_fieldMany : (Tryd.prog.globals[2]?).map (·.type) = some 43 := by kernel_rfl
theorem gn2_fieldMany : Tryd.prog.globalNamed "plimsoll/field.errField" = some 1 := by kernel_rfl
theorem gt2_fieldMany : (Tryd.prog.globals[1]?).map (·.type) = some 43 := by kernel_rfl
theorem cellsE_fieldMany : Tryd.prog.cellsOf 123 = 1 := by kernel_rfl
theorem cellsS_fieldMany : Tryd.prog.cellsOf 9 = 1 := by kernel_rfl
theorem star_fieldMany : "*" ++ "errors.errorString" = "*errors.errorString" := by decide
theorem rowP_fieldMany (u : TypeId) (h : Tryd.prog.typeName? 3 u = some "*errors.errorString") : u = 101 :=
  typeName_ptr_named (nm := "errors.errorString") (by rw [star_fieldMany]; kernel_rfl) (by kernel_rfl) (by decide) u (by rw [star_fieldMany]; exact h)
noncomputable def laidL_fieldMany : List (String × DataW Unit) := Rows.fieldManyRow.laid
theorem door_fieldMany (os : Os) (args : Array Value) : laidMetH Tryd.prog laidL_fieldMany ((World.doorLaid Tryd.prog 400 os).forCall (fun _ _ => 0) ⟨#[], args, []⟩).memory :=
  laidMetH_of_parts3 (fuel := 8) (laidMet_of_run' 8 (by kernel_rfl) (by kernel_rfl)) (by kernel_rfl) (by kernel_rfl)
theorem met_fieldMany {W : World} (h : laidMetH Tryd.prog laidL_fieldMany W) : laidMet Tryd.prog (laidL_fieldMany.filter fun x => x.2.handleName?.isNone) W ∧ W.cell? ⟨3, 0, none⟩ = some (.iface 86 (.agg #[.pointer (some ⟨4, 43, none⟩)])) := by
  have h' : laidMet Tryd.prog (laidL_fieldMany.filter fun x => x.2.handleName?.isNone) W ∧ handlesMet Tryd.prog [("errors.errorType", .iface "internal/reflectlite.rtype" (.agg [.ptr (.lit (.string [101, 114, 114, 111, 114]))]))] W := h
  exact ⟨h'.1, handle_of h'.2⟩
theorem of_laid_fieldMany {W : World} (h : laidMetH Tryd.prog laidL_fieldMany W) : ∃ a0 a1 a2 : Addr, Sent Tryd.prog W "plimsoll/field.errArg" 0 101 a0 ∧ Sent Tryd.prog W "plimsoll/field.errMore" 2 101 a1 ∧ Sent Tryd.prog W "plimsoll/field.errField" 1 101 a2 ∧ a0 ≠ a1 ∧ a0 ≠ a2 ∧ a1 ≠ a2 := by
  have h := (met_fieldMany h).1
  exact laid_s3 h gn0_fieldMany gt0_fieldMany gn1_fieldMany gt1_fieldMany gn2_fieldMany gt2_fieldMany Tryd.underlying43 rowP_fieldMany Tryd.underlying101 Tryd.underlying123 rfl rfl Tryd.underlying9 cellsE_fieldMany cellsS_fieldMany
open Go.ChangeShapes Go.WideShapes Go.ChangeAt Go.Joins
set_option maxRecDepth 100000 in
theorem fieldMany_lifted (os : Os) (started : os.Started) (H : Type) (enc : TypeId × Value → H) :
    ReturnsInHanded {} Tryd.checked os 3 .any (fun w args => (Rows.fieldManySpec.pre enc Tryd.prog Tryd.f3 [] false w args ∧ laidMetH Tryd.prog laidL_fieldMany w) ∧ sizedMet enc Tryd.prog Tryd.f3 (OpenSpec.ofChange Rows.fieldManySpec) false w args)
      (Rows.fieldManySpec.post enc Tryd.prog Tryd.f3 false true false false) := by
  refine returnsInHanded_of_change_and (C := Tryd.checked) (X := fun w _ => laidMetH Tryd.prog laidL_fieldMany w) (fun _ _ _ hh h => h.of_heap hh) own_ started (by kernel_rfl) Tryd.func3
    (ChangeSpec.witness_shaped (enc := enc) (C := Tryd.checked) (os := os) (X := fun w _ => laidMetH Tryd.prog laidL_fieldMany w) false (World.doorLaid Tryd.prog 400 os) #[.slice none 0 0, .slice none 0 0, .string ⟨#[]⟩] 8 rfl (World.shaped_of_RefB (by kernel_rfl) (by kernel_rfl)) (by kernel_rfl) (by kernel_rfl) (by kernel_rfl) (door_fieldMany os _)) ?_
  intro W base args ds gs before hval0 hW _ _ hL _
  have hval : ∀ (j : Nat) t v, Tryd.f3.params[j]? = some t → args[j]? = some v → Value.okWide Tryd.prog W .any base t v := hval0
  have hW' := hW
  obtain ⟨p, q, hA0, hV, rfl, hfz, hnd⟩ := hW
  have hA : DataW.TrodAll enc Tryd.prog W 0 (fun _ => true) true Tryd.f3.params.toList args.toList ds p := hA0
  rw [Tryd.params3] at hA hval
  obtain ⟨v0, v1, v2, d0, d1, d2, p0, p1, p2, rfl, rfl, rfl, h0, h1, h2⟩ := trodAll_n3 hA
  obtain ⟨rfl, rfl⟩ := trodVars_none hV
  obtain ⟨a0, a1, a2, s0_, s1_, s2_, n01, n02, n12⟩ := of_laid_fieldMany hL
  have hh_ := (met_fieldMany hL).2
  clear hA0 hval0
  simp only [List.append_nil] at hW'
  have t0 := h0
  obtain ⟨fu0, hf0⟩ := h0
  obtain ⟨_, _, _, rfl⟩ := okWide_slice Tryd.underlying22 (hval 0 22 _ rfl rfl)
  obtain ⟨A0, c0, l0, he0, hr0, ok0⟩ := open_list intTy (fun x => -9223372036854775808 ≤ x ∧ x ≤ 9223372036854775807) Tryd.underlying22 (by kernel_rfl) (by decide) (fun n cs y h => by obtain ⟨z, e, o⟩ := open_i64 Tryd.underlying3 h; exact ⟨z, e, o⟩) hf0
  simp only [Value.slice.injEq] at he0
  obtain ⟨qa0, qb0, qc0⟩ := he0
  have qa0' := qa0.symm
  have qc0' := qc0.symm
  subst qa0'
  subst qb0
  subst qc0'
  have t1 := h1
  obtain ⟨fu1, hf1⟩ := h1
  obtain ⟨_, _, _, rfl⟩ := okWide_slice Tryd.underlying23 (hval 1 23 _ rfl rfl)
  obtain ⟨A1, c1, l1, he1, hr1, ok1⟩ := open_list u64Ty (fun x => x < 18446744073709551616) Tryd.underlying23 (by kernel_rfl) (by decide) (fun n cs y h => by obtain ⟨z, e, o⟩ := open_u64 Tryd.underlying35 h; exact ⟨z, e, o⟩) hf1
  simp only [Value.slice.injEq] at he1
  obtain ⟨qa1, qb1, qc1⟩ := he1
  have qa1' := qa1.symm
  have qc1' := qc1.symm
  subst qa1'
  subst qb1
  subst qc1'
  have t2 := h2
  obtain ⟨fu2, hf2⟩ := h2
  obtain ⟨s2, rfl⟩ := okWide_string Tryd.underlying9 (hval 2 9 _ rfl rfl)
  have b2 : s2.size ≤ 9223372036854775807 := by
    obtain ⟨z, hz, hb⟩ := open_str Tryd.underlying9 hf2
    have e : z = s2 := by simpa [Value.cells] using hz.symm
    rw [← e]; exact hb
  refine (con_calls (FieldMany_ a0 a1 a2 n01 n02 n12 A0 c0 l0 A1 c1 l1 s2 ok1 b2) (Facts.cons (hr0) (Facts.cons (hr1) (Facts.cons (sent_facts s0_) (Facts.cons (sent_facts s1_) (Facts.cons (sent_facts s2_) (Facts.cons (errFact s0_) (Facts.cons (errFact s1_) (Facts.cons (errFact s2_) (Facts.cons (cell_facts hh_) (Facts.nil _))))))))))).mono fun e W' ⟨he, hb⟩ => ?_
  subst he
  have hlt : ∀ x ∈ p0 ++ (p1 ++ p2), x.block < W.heap.size := fun x hx => by simpa using hW'.lt x (by simpa using hx)
  exact ⟨_, rfl, [d0, d1, d2], [], _, [], p0 ++ (p1 ++ p2), [], hW', trodAll_mkn1 (shut_bool Tryd.underlying4 true), trodAll_mkn3 (Below.trod laidOut_ (by kernel_rfl) (of_decide_eq_true (by kernel_rfl)) t0 hb (fun x hx => hlt x (by simp [hx]))) (Below.trod laidOut_ (by kernel_rfl) (of_decide_eq_true (by kernel_rfl)) t1 hb (fun x hx => hlt x (by simp [hx]))) (Below.trod laidOut_ (by kernel_rfl) (of_decide_eq_true (by kernel_rfl)) t2 hb (fun x hx => hlt x (by simp [hx]))), rfl, hb.frame _, fun h => by cases h⟩
theorem fieldMany_holds : Rows.FieldManySaid :=
  OpenClaim.holds_of_wide 3 Tryd.f3 rfl rfl rfl rfl rfl rfl rfl ⟨rfl, rfl, rfl, rfl, rfl⟩ rfl rfl rfl rfl rfl (by kernel_rfl) Tryd.func3 (by kernel_rfl)
    (of_decide_eq_true (by kernel_rfl)) (by unfold Func.isWrapper; first | (rw [if_pos (by decide +kernel)]; kernel_rfl) | (rw [if_neg (by decide +kernel)]; exact ⟨rfl, rfl⟩))
    (fun os started H enc _ => fieldMany_lifted os started H enc)
/-- The tied card. -/
theorem fieldMany_card : Rows.FieldManyCardSaid :=
  Claim7.holds_tied_plain_at .later [] [.handle, .sentinel, .sentinel, .sentinel] true (true, "4b8e135a1f799cdcadcf5cff63d5a9c914adbfb759b1da0302c7cc5a2d7084b6") true
    fieldMany_holds (fun _ h => by cases h) (by kernel_rfl) (fun _ h => by cases h) fieldMany_row_tie rfl ⟨rfl, rfl⟩ (by kernel_rfl) rfl
    (fun f fn hf hfn => by
      obtain rfl : f = 3 := Option.some.inj ((show Tryd.prog.funcNamed "plimsoll/plimsolllaw03.FieldMany" = some 3 by kernel_rfl).symm.trans hf) |>.symm
      obtain rfl : fn = Tryd.f3 := (Option.some.inj (Tryd.func3.symm.trans hfn)).symm
      exact ⟨by kernel_rfl, fun j t ht => by
        rw [Tryd.params3] at ht
        have hm : t ∈ [22, 23, 9] := by simpa using Array.mem_of_getElem? ht
        have hall : ([22, 23, 9].all fun u => !Tryd.prog.wantsStandIn u) = true := by kernel_rfl
        exact (show Tryd.prog.wantsStandIn t = false by simpa using List.all_eq_true.1 hall t hm)⟩)
    (by kernel_rfl)
#print axioms fieldMany_card
end Go.Proofs.YtpfadknajnedoabDoor
