/- The laws of chapter 3 (field), walked over the given program; no condition but what stands in each theorem: part WBack. -/
import Derived.Test.YtpfadknajnedoaaDoorRUBack
import Derived.Test.YtpfadknajnedoaaDoorRV
import Derived.Test.YtpfadknajnedoaaDoorCards
import Derived.Test.YtpfadknajnedoaaDoorTie
import Derived.SevenTiedAt
set_option linter.unusedVariables false
set_option linter.unusedSimpArgs false
set_option maxRecDepth 100000
set_option maxHeartbeats 8000000
namespace Go.Proofs.YtpfadknajnedoaaDoor
open Go Go.Sl Go.RowKit Go.Extern.Stop Go.Stop Go.Extern
theorem gn0_fieldBack : Tryd.prog.globalNamed "plimsoll/field.errArg" = some 1 := by kernel_rfl
theorem gt0_fieldBack : (Tryd.prog.globals[1]?).map (·.type) = some 47 := by kernel_rfl
theorem gn1_fieldBack : Tryd.prog.globalNamed "plimsoll/field.errMore" = some 2 := by kernel_rfl
theorem gt1_fieldBack : (Tryd.prog.globals[2]?).map (·.type) = some 47 := by kernel_rfl
theorem gn2_fieldBack : Tryd.prog.globalNamed "plimsoll/field.errField" = some 0 := by kernel_rfl
theorem gt2_fieldBack : (Tryd.prog.globals[0]?).map (·.type) = some 47 := by kernel_rfl
theorem cellsE_fieldBack : Tryd.prog.cellsOf 129 = 1 := by kernel_rfl
theorem cellsS_fieldBack : Tryd.prog.cellsOf 9 = 1 := by kernel_rfl
theorem star_fieldBack : "*" ++ "errors.errorString" = "*errors.errorString" := by decide
theorem rowP_fieldBack (u : TypeId) (h : Tryd.prog.typeName? 3 u = some "*errors.errorString") : u = 107 :=
  typeName_ptr_named (nm := "errors.errorString") (by rw [star_fieldBack]; kernel_rfl) (by kernel_rfl) (by decide) u (by rw [star_fieldBack]; exact h)
noncomputable def laidL_fieldBack : List (String × DataW Unit) := Rows.fieldBackRow.laid
theorem door_fieldBack (os : Os) (args : Array Value) : laidMetH Tryd.prog laidL_fieldBack ((World.doorLaid Tryd.prog 400 os).forCall (fun _ _ => 0) ⟨#[], args, []⟩).memory :=
  laidMetH_of_parts3 (fuel := 8) (laidMet_of_run' 8 (by kernel_rfl) (by kernel_rfl)) (by kernel_rfl) (by kernel_rfl)
theorem met_fieldBack {W : World} (h : laidMetH Tryd.prog laidL_fieldBack W) : laidMet Tryd.prog (laidL_fieldBack.filter fun x => x.2.handleName?.isNone) W ∧ W.cell? ⟨3, 0, none⟩ = some (.iface 92 (.agg #[.pointer (some ⟨4, 47, none⟩)])) := by
  have h' : laidMet Tryd.prog (laidL_fieldBack.filter fun x => x.2.handleName?.isNone) W ∧ handlesMet Tryd.prog [("errors.errorType", .iface "internal/reflectlite.rtype" (.agg [.ptr (.lit (.string [101, 114, 114, 111, 114]))]))] W := h
  exact ⟨h'.1, handle_of h'.2⟩
theorem of_laid_fieldBack {W : World} (h : laidMetH Tryd.prog laidL_fieldBack W) : ∃ a0 a1 a2 : Addr, Sent Tryd.prog W "plimsoll/field.errArg" 1 107 a0 ∧ Sent Tryd.prog W "plimsoll/field.errMore" 2 107 a1 ∧ Sent Tryd.prog W "plimsoll/field.errField" 0 107 a2 ∧ a0 ≠ a1 ∧ a0 ≠ a2 ∧ a1 ≠ a2 := by
  have h := (met_fieldBack h).1
  exact laid_s3 h gn0_fieldBack gt0_fieldBack gn1_fieldBack gt1_fieldBack gn2_fieldBack gt2_fieldBack Tryd.underlying47 rowP_fieldBack Tryd.underlying107 Tryd.underlying129 rfl rfl Tryd.underlying9 cellsE_fieldBack cellsS_fieldBack
open Go.ChangeShapes Go.WideShapes Go.ChangeAt Go.Joins
set_option maxRecDepth 100000 in
theorem fieldBack_lifted (os : Os) (started : os.Started) (H : Type) (enc : TypeId × Value → H) :
    ReturnsInHanded {} Tryd.checked os 4 .any (fun w args => (Rows.fieldBackSpec.pre enc Tryd.prog Tryd.f4 [] false w args ∧ laidMetH Tryd.prog laidL_fieldBack w) ∧ sizedMet enc Tryd.prog Tryd.f4 (OpenSpec.ofChange Rows.fieldBackSpec) false w args)
      (Rows.fieldBackSpec.post enc Tryd.prog Tryd.f4 false true false false) := by
  refine returnsInHanded_of_change_and (C := Tryd.checked) (X := fun w _ => laidMetH Tryd.prog laidL_fieldBack w) (fun _ _ _ hh h => h.of_heap hh) own_ started (by kernel_rfl) Tryd.func4
    (ChangeSpec.witness_shaped (enc := enc) (C := Tryd.checked) (os := os) (X := fun w _ => laidMetH Tryd.prog laidL_fieldBack w) false (World.doorLaid Tryd.prog 400 os) #[.int .i64 0, .int .u64 0, .string ⟨#[]⟩] 8 rfl (World.shaped_of_RefB (by kernel_rfl) (by kernel_rfl)) (by kernel_rfl) (by kernel_rfl) (by kernel_rfl) (door_fieldBack os _)) ?_
  intro W base args ds gs before hval0 hW _ _ hL _
  have hval : ∀ (j : Nat) t v, Tryd.f4.params[j]? = some t → args[j]? = some v → Value.okWide Tryd.prog W .any base t v := hval0
  have hW' := hW
  obtain ⟨p, q, hA0, hV, rfl, hfz, hnd⟩ := hW
  have hA : DataW.TrodAll enc Tryd.prog W 0 (fun _ => true) true Tryd.f4.params.toList args.toList ds p := hA0
  rw [Tryd.params4] at hA hval
  obtain ⟨v0, v1, v2, d0, d1, d2, p0, p1, p2, rfl, rfl, rfl, h0, h1, h2⟩ := trodAll_n3 hA
  obtain ⟨rfl, rfl⟩ := trodVars_none hV
  obtain ⟨a0, a1, a2, s0_, s1_, s2_, n01, n02, n12⟩ := of_laid_fieldBack hL
  have hh_ := (met_fieldBack hL).2
  clear hA0 hval0
  simp only [List.append_nil] at hW'
  have t0 := h0
  obtain ⟨fu0, hf0⟩ := h0
  obtain ⟨n0, rfl⟩ := okWide_int Tryd.underlying3 (hval 0 3 _ rfl rfl)
  have b0 : -9223372036854775808 ≤ n0 ∧ n0 ≤ 9223372036854775807 := by
    obtain ⟨z, hz, hb⟩ := open_i64 Tryd.underlying3 hf0
    have e : z = n0 := by simpa [Value.cells] using hz.symm
    rw [← e]; exact hb
  have t1 := h1
  obtain ⟨fu1, hf1⟩ := h1
  obtain ⟨nn1, rfl⟩ := okWide_int Tryd.underlying22 (hval 1 22 _ rfl rfl)
  obtain ⟨m1, hm1, b1⟩ := open_u64 Tryd.underlying22 hf1
  obtain rfl : nn1 = (m1 : Int) := by simpa [Value.cells] using hm1
  have t2 := h2
  obtain ⟨fu2, hf2⟩ := h2
  obtain ⟨s2, rfl⟩ := okWide_string Tryd.underlying9 (hval 2 9 _ rfl rfl)
  have b2 : s2.size ≤ 9223372036854775807 := by
    obtain ⟨z, hz, hb⟩ := open_str Tryd.underlying9 hf2
    have e : z = s2 := by simpa [Value.cells] using hz.symm
    rw [← e]; exact hb
  refine (con_calls (FieldBack_ a0 a1 a2 n01 n02 n12 n0 m1 s2 b1 b2) (Facts.cons (sent_facts s0_) (Facts.cons (sent_facts s1_) (Facts.cons (sent_facts s2_) (Facts.cons (errFact s0_) (Facts.cons (errFact s1_) (Facts.cons (errFact s2_) (Facts.cons (cell_facts hh_) (Facts.nil _))))))))).mono fun e W' ⟨he, hb⟩ => ?_
  subst he
  have hlt : ∀ x ∈ p0 ++ (p1 ++ p2), x.block < W.heap.size := fun x hx => by simpa using hW'.lt x (by simpa using hx)
  exact ⟨_, rfl, [d0, d1, d2], [], _, [], p0 ++ (p1 ++ p2), [], hW', trodAll_mkn1 (shut_bool Tryd.underlying4 true), trodAll_mkn3 (Below.trod laidOut_ (by kernel_rfl) (of_decide_eq_true (by kernel_rfl)) t0 hb (fun x hx => hlt x (by simp [hx]))) (Below.trod laidOut_ (by kernel_rfl) (of_decide_eq_true (by kernel_rfl)) t1 hb (fun x hx => hlt x (by simp [hx]))) (Below.trod laidOut_ (by kernel_rfl) (of_decide_eq_true (by kernel_rfl)) t2 hb (fun x hx => hlt x (by simp [hx]))), rfl, hb.frame _, fun h => by cases h⟩
theorem fieldBack_holds : Rows.FieldBackSaid :=
  OpenClaim.holds_of_wide 4 Tryd.f4 rfl rfl rfl rfl rfl rfl rfl ⟨rfl, rfl, rfl, rfl, rfl⟩ rfl rfl rfl rfl rfl (by kernel_rfl) Tryd.func4 (by kernel_rfl)
    (of_decide_eq_true (by kernel_rfl)) (by unfold Func.isWrapper; first | (rw [if_pos (by decide +kernel)]; kernel_rfl) | (rw [if_neg (by decide +kernel)]; exact ⟨rfl, rfl⟩))
    (fun os started H enc _ => fieldBack_lifted os started H enc)
/-- The tied card. -/
theorem fieldBack_card : Rows.FieldBackCardSaid :=
  Claim7.holds_tied_plain_at .later [] [.handle, .sentinel, .sentinel, .sentinel] true (true, "c8c0a27d96be948c7b8e149bfc6123fa08506cbd3750604ae164bda16609a8ab") true
    fieldBack_holds (fun _ h => by cases h) (by kernel_rfl) (fun _ h => by cases h) fieldBack_row_tie rfl ⟨rfl, rfl⟩ (by kernel_rfl) rfl
    (fun f fn hf hfn => by
      obtain rfl : f = 4 := Option.some.inj ((show Tryd.prog.funcNamed "plimsoll/plimsolllaw03.FieldBack" = some 4 by kernel_rfl).symm.trans hf) |>.symm
      obtain rfl : fn = Tryd.f4 := (Option.some.inj (Tryd.func4.symm.trans hfn)).symm
      exact ⟨by kernel_rfl, fun j t ht => by
        rw [Tryd.params4] at ht
        have hm : t ∈ [3, 22, 9] := by simpa using Array.mem_of_getElem? ht
        have hall : ([3, 22, 9].all fun u => !Tryd.prog.wantsStandIn u) = true := by kernel_rfl
        exact (show Tryd.prog.wantsStandIn t = false by simpa using List.all_eq_true.1 hall t hm)⟩)
    (by kernel_rfl)
#print axioms fieldBack_card
end Go.Proofs.YtpfadknajnedoaaDoor
