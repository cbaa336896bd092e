/- The six laws of chapter 18 (audit), walked over the given program; no condition but what stands in each theorem: part Ue. -/
import Derived.Test.YtdfgedkjilpcgaaDoorRS
import Derived.Test.YtdfgedkjilpcgaaDoorRT
import Derived.Test.YtdfgedkjilpcgaaDoorCards
import Derived.Test.YtdfgedkjilpcgaaDoorTie
import Derived.SevenTiedAt
set_option linter.unusedVariables false
set_option linter.unusedSimpArgs false
set_option maxRecDepth 100000
set_option maxHeartbeats 8000000
namespace Go.Proofs.YtdfgedkjilpcgaaDoor
open Go Go.Sl Go.RowKit Go.Extern.Stop Go.Stop Go.Extern Go.Shelf
theorem gn0_auditTen : Tryd.prog.globalNamed "plimsoll/audit.errLog" = some 0 := by kernel_rfl
theorem gt0_auditTen : (Tryd.prog.globals[0]?).map (·.type) = some 53 := by kernel_rfl
theorem cellsE_auditTen : Tryd.prog.cellsOf 130 = 1 := by kernel_rfl
theorem cellsS_auditTen : Tryd.prog.cellsOf 9 = 1 := by kernel_rfl
theorem star_auditTen : "*" ++ "errors.errorString" = "*errors.errorString" := by decide
theorem rowP_auditTen (u : TypeId) (h : Tryd.prog.typeName? 3 u = some "*errors.errorString") : u = 106 :=
  typeName_ptr_named (nm := "errors.errorString") (by rw [star_auditTen]; kernel_rfl) (by kernel_rfl) (by decide) u (by rw [star_auditTen]; exact h)
noncomputable def laidL_auditTen : List (String × DataW Unit) := Rows.auditTenRow.laid
theorem door_auditTen (os : Os) (args : Array Value) : laidMetH Tryd.prog laidL_auditTen ((World.doorLaid Tryd.prog 400 os).forCall (fun _ _ => 0) ⟨#[], args, []⟩).memory :=
  laidMetH_of_parts3 (fuel := 8) (laidMet_of_run' 8 (by kernel_rfl) (by kernel_rfl)) (by kernel_rfl) (by kernel_rfl)
theorem of_laid_auditTen {W : World} (h : laidMetH Tryd.prog laidL_auditTen W) : ∃ a0 : Addr, Sent Tryd.prog W "plimsoll/audit.errLog" 0 106 a0 := by
  rw [MakeChecks.laidMetH_plain _ _ _ (by kernel_rfl)] at h
  exact laid_s1 h gn0_auditTen gt0_auditTen Tryd.underlying53 rowP_auditTen Tryd.underlying106 Tryd.underlying130 rfl rfl Tryd.underlying9 cellsE_auditTen cellsS_auditTen
open Go.ChangeShapes Go.WideShapes Go.ChangeAt Go.Joins
set_option maxRecDepth 100000 in
theorem auditTen_lifted (os : Os) (started : os.Started) (H : Type) (enc : TypeId × Value → H) :
    ReturnsInHanded {} Tryd.checked os 7 .any (fun w args => (Rows.auditTenSpec.pre enc Tryd.prog Tryd.f7 [] false w args ∧ laidMetH Tryd.prog laidL_auditTen w) ∧ sizedMet enc Tryd.prog Tryd.f7 (OpenSpec.ofChange Rows.auditTenSpec) false w args)
      (Rows.auditTenSpec.post enc Tryd.prog Tryd.f7 false true false false) := by
  refine returnsInHanded_of_change_and (C := Tryd.checked) (X := fun w _ => laidMetH Tryd.prog laidL_auditTen w) (fun _ _ _ hh h => h.of_heap hh) own_ started (by kernel_rfl) Tryd.func7
    (ChangeSpec.witness_shaped (enc := enc) (C := Tryd.checked) (os := os) (X := fun w _ => laidMetH Tryd.prog laidL_auditTen w) false (World.doorLaid Tryd.prog 400 os) #[.int .i64 0, .agg #[.int .i64 0, .int .u64 0, .int .i64 0]] 8 rfl (World.shaped_of_RefB (by kernel_rfl) (by kernel_rfl)) (by kernel_rfl) (by kernel_rfl) (by kernel_rfl) (door_auditTen os _)) ?_
  intro W base args ds gs before hval0 hW _ _ hL _
  have hval : ∀ (j : Nat) t v, Tryd.f7.params[j]? = some t → args[j]? = some v → Value.okWide Tryd.prog W .any base t v := hval0
  have hW' := hW
  obtain ⟨p, q, hA0, hV, rfl, hfz, hnd⟩ := hW
  have hA : DataW.TrodAll enc Tryd.prog W 0 (fun _ => true) true Tryd.f7.params.toList args.toList ds p := hA0
  rw [Tryd.params7] at hA hval
  obtain ⟨v0, v1, d0, d1, p0, p1, rfl, rfl, rfl, h0, h1⟩ := trodAll_n2 hA
  obtain ⟨rfl, rfl⟩ := trodVars_none hV
  obtain ⟨a0, s0_⟩ := of_laid_auditTen hL
  clear hA0 hval0
  simp only [List.append_nil] at hW'
  have t0 := h0
  obtain ⟨fu0, hf0⟩ := h0
  obtain ⟨n0, rfl⟩ := okWide_int Tryd.underlying3 (hval 0 3 _ rfl rfl)
  have b0 : -9223372036854775808 ≤ n0 ∧ n0 ≤ 9223372036854775807 := by
    obtain ⟨z, hz, hb⟩ := open_i64 Tryd.underlying3 hf0
    have e : z = n0 := by simpa [Value.cells] using hz.symm
    rw [← e]; exact hb
  have t1 := h1
  obtain ⟨fu1, hf1⟩ := h1
  obtain ⟨x1, rfl, ok1⟩ := open_struct (f := labTy.enc) (Pr := okLab) Tryd.underlying26 (hval 1 26 _ rfl rfl) (fun n cs y h => read_Lab h) t1
  refine (con_calls (AuditTen_ n0 x1 a0 (lb_of ok1)) (Facts.cons (sent_facts s0_) (Facts.cons (errFact s0_) (Facts.nil _)))).mono fun e W' ⟨he, hb⟩ => ?_
  subst he
  have hlt : ∀ x ∈ p0 ++ p1, x.block < W.heap.size := fun x hx => by simpa using hW'.lt x (by simpa using hx)
  exact ⟨_, rfl, [d0, d1], [], _, [], p0 ++ p1, [], hW', trodAll_mkn1 (shut_bool Tryd.underlying4 true), trodAll_mkn2 (Below.trod laidOut_ (by kernel_rfl) (of_decide_eq_true (by kernel_rfl)) t0 hb (fun x hx => hlt x (by simp [hx]))) (Below.trod laidOut_ (by kernel_rfl) (of_decide_eq_true (by kernel_rfl)) t1 hb (fun x hx => hlt x (by simp [hx]))), rfl, hb.frame _, fun h => by cases h⟩
theorem auditTen_holds : Rows.AuditTenSaid :=
  OpenClaim.holds_of_wide 7 Tryd.f7 rfl rfl rfl rfl rfl rfl rfl ⟨rfl, rfl, rfl, rfl, rfl⟩ rfl rfl rfl rfl rfl (by kernel_rfl) Tryd.func7 (by kernel_rfl)
    (of_decide_eq_true (by kernel_rfl)) (by unfold Func.isWrapper; first | (rw [if_pos (by decide +kernel)]; kernel_rfl) | (rw [if_neg (by decide +kernel)]; exact ⟨rfl, rfl⟩))
    (fun os started H enc _ => auditTen_lifted os started H enc)
/-- The tied card. -/
theorem auditTen_card : Rows.AuditTenCardSaid :=
  Claim7.holds_tied_plain_at .later [] [.sentinel] true (true, "35e7403ab91cb1dd5564393e521f2bb402b38fbb63a2a8846c559422764305c8") true
    auditTen_holds (fun _ h => by cases h) (by kernel_rfl) (fun _ h => by cases h) auditTen_row_tie rfl ⟨rfl, rfl⟩ (by kernel_rfl) rfl
    (fun f fn hf hfn => by
      obtain rfl : f = 7 := Option.some.inj ((show Tryd.prog.funcNamed "plimsoll/plimsolllaw18.AuditTen" = some 7 by kernel_rfl).symm.trans hf) |>.symm
      obtain rfl : fn = Tryd.f7 := (Option.some.inj (Tryd.func7.symm.trans hfn)).symm
      exact ⟨by kernel_rfl, fun j t ht => by
        rw [Tryd.params7] at ht
        have hm : t ∈ [3, 26] := by simpa using Array.mem_of_getElem? ht
        have hall : ([3, 26].all fun u => !Tryd.prog.wantsStandIn u) = true := by kernel_rfl
        exact (show Tryd.prog.wantsStandIn t = false by simpa using List.all_eq_true.1 hall t hm)⟩)
    (by kernel_rfl)
#print axioms auditTen_card
end Go.Proofs.YtdfgedkjilpcgaaDoor
