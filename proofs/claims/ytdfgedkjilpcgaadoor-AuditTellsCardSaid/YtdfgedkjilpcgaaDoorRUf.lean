/- The six laws of chapter 18 (audit), walked over the given program; no condition but what stands in each theorem: part Uf. -/
import Derived.Test.YtdfgedkjilpcgaaDoorRNf
import Derived.Test.YtdfgedkjilpcgaaDoorRT
import Derived.Test.YtdfgedkjilpcgaaDoorCards
import Derived.Test.YtdfgedkjilpcgaaDoorTie
import Derived.SevenTiedAt
set_option linter.unusedVariables false
set_option linter.unusedSimpArgs false
set_option maxRecDepth 100000
set_option maxHeartbeats 8000000
namespace Go.Proofs.YtdfgedkjilpcgaaDoor
open Go Go.Sl Go.RowKit Go.Extern.Stop Go.Stop Go.Extern Go.Shelf
theorem gn0_auditTells : Tryd.prog.globalNamed "plimsoll/audit.errLog" = some 0 := by kernel_rfl
theorem gt0_auditTells : (Tryd.prog.globals[0]?).map (·.type) = some 53 := by kernel_rfl
theorem cellsE_auditTells : Tryd.prog.cellsOf 130 = 1 := by kernel_rfl
theorem cellsS_auditTells : Tryd.prog.cellsOf 9 = 1 := by kernel_rfl
theorem star_auditTells : "*" ++ "errors.errorString" = "*errors.errorString" := by decide
theorem rowP_auditTells (u : TypeId) (h : Tryd.prog.typeName? 3 u = some "*errors.errorString") : u = 106 :=
  typeName_ptr_named (nm := "errors.errorString") (by rw [star_auditTells]; kernel_rfl) (by kernel_rfl) (by decide) u (by rw [star_auditTells]; exact h)
noncomputable def laidL_auditTells : List (String × DataW Unit) := Rows.auditTellsRow.laid
theorem door_auditTells (os : Os) (args : Array Value) : laidMetH Tryd.prog laidL_auditTells ((World.doorLaid Tryd.prog 400 os).forCall (fun _ _ => 0) ⟨#[], args, []⟩).memory :=
  laidMetH_of_parts3 (fuel := 8) (laidMet_of_run' 8 (by kernel_rfl) (by kernel_rfl)) (by kernel_rfl) (by kernel_rfl)
theorem of_laid_auditTells {W : World} (h : laidMetH Tryd.prog laidL_auditTells W) : ∃ a0 : Addr, Sent Tryd.prog W "plimsoll/audit.errLog" 0 106 a0 := by
  rw [MakeChecks.laidMetH_plain _ _ _ (by kernel_rfl)] at h
  exact laid_s1 h gn0_auditTells gt0_auditTells Tryd.underlying53 rowP_auditTells Tryd.underlying106 Tryd.underlying130 rfl rfl Tryd.underlying9 cellsE_auditTells cellsS_auditTells
open Go.ChangeShapes Go.WideShapes Go.ChangeAt Go.Joins
set_option maxRecDepth 100000 in
theorem auditTells_lifted (os : Os) (started : os.Started) (H : Type) (enc : TypeId × Value → H) :
    ReturnsInHanded {} Tryd.checked os 8 .any (fun w args => (Rows.auditTellsSpec.pre enc Tryd.prog Tryd.f8 [] false w args ∧ laidMetH Tryd.prog laidL_auditTells w) ∧ sizedMet enc Tryd.prog Tryd.f8 (OpenSpec.ofChange Rows.auditTellsSpec) false w args)
      (Rows.auditTellsSpec.post enc Tryd.prog Tryd.f8 false true false false) := by
  refine returnsInHanded_of_change_and (C := Tryd.checked) (X := fun w _ => laidMetH Tryd.prog laidL_auditTells w) (fun _ _ _ hh h => h.of_heap hh) own_ started (by kernel_rfl) Tryd.func8
    (ChangeSpec.witness_shaped (enc := enc) (C := Tryd.checked) (os := os) (X := fun w _ => laidMetH Tryd.prog laidL_auditTells w) false (World.doorLaid Tryd.prog 400 os) #[.slice none 0 0, .agg #[.int .i64 0, .int .u64 0, .int .i64 0], .int .i64 0, .agg #[.int .i64 0, .int .i64 0, .int .i64 0, .int .i64 0, .int .i64 0, .int .u64 0, .int .i64 0], .slice none 0 0] 8 rfl (World.shaped_of_RefB (by kernel_rfl) (by kernel_rfl)) (by kernel_rfl) (by kernel_rfl) (by kernel_rfl) (door_auditTells os _)) ?_
  intro W base args ds gs before hval0 hW _ _ hL _
  have hval : ∀ (j : Nat) t v, Tryd.f8.params[j]? = some t → args[j]? = some v → Value.okWide Tryd.prog W .any base t v := hval0
  have hW' := hW
  obtain ⟨p, q, hA0, hV, rfl, hfz, hnd⟩ := hW
  have hA : DataW.TrodAll enc Tryd.prog W 0 (fun _ => true) true Tryd.f8.params.toList args.toList ds p := hA0
  rw [Tryd.params8] at hA hval
  obtain ⟨v0, v1, v2, v3, v4, d0, d1, d2, d3, d4, p0, p1, p2, p3, p4, rfl, rfl, rfl, h0, h1, h2, h3, h4⟩ := trodAll_n5 hA
  obtain ⟨rfl, rfl⟩ := trodVars_none hV
  obtain ⟨a0, s0_⟩ := of_laid_auditTells hL
  clear hA0 hval0
  simp only [List.append_nil] at hW'
  have t0 := h0
  obtain ⟨fu0, hf0⟩ := h0
  obtain ⟨_, _, _, rfl⟩ := okWide_slice Tryd.underlying22 (hval 0 22 _ rfl rfl)
  obtain ⟨A0, c0, l0, he0, hr0, ok0⟩ := open_list recTy okRec Tryd.underlying22 (by kernel_rfl) (by decide) (fun n cs y h => read_Rec h) hf0
  simp only [Value.slice.injEq] at he0
  obtain ⟨qa0, qb0, qc0⟩ := he0
  have qa0' := qa0.symm
  have qc0' := qc0.symm
  subst qa0'
  subst qb0
  subst qc0'
  have t1 := h1
  obtain ⟨fu1, hf1⟩ := h1
  obtain ⟨x1, rfl, ok1⟩ := open_struct (f := labTy.enc) (Pr := okLab) Tryd.underlying26 (hval 1 26 _ rfl rfl) (fun n cs y h => read_Lab h) t1
  have t2 := h2
  obtain ⟨fu2, hf2⟩ := h2
  obtain ⟨n2, rfl⟩ := okWide_int Tryd.underlying3 (hval 2 3 _ rfl rfl)
  have b2 : -9223372036854775808 ≤ n2 ∧ n2 ≤ 9223372036854775807 := by
    obtain ⟨z, hz, hb⟩ := open_i64 Tryd.underlying3 hf2
    have e : z = n2 := by simpa [Value.cells] using hz.symm
    rw [← e]; exact hb
  have t3 := h3
  obtain ⟨fu3, hf3⟩ := h3
  obtain ⟨x3, rfl, ok3⟩ := open_struct (f := recTy.enc) (Pr := okRec) Tryd.underlying28 (hval 3 28 _ rfl rfl) (fun n cs y h => read_Rec h) t3
  have t4 := h4
  obtain ⟨fu4, hf4⟩ := h4
  obtain ⟨_, _, _, rfl⟩ := okWide_slice Tryd.underlying22 (hval 4 22 _ rfl rfl)
  obtain ⟨A4, c4, l4, he4, hr4, ok4⟩ := open_list recTy okRec Tryd.underlying22 (by kernel_rfl) (by decide) (fun n cs y h => read_Rec h) hf4
  simp only [Value.slice.injEq] at he4
  obtain ⟨qa4, qb4, qc4⟩ := he4
  have qa4' := qa4.symm
  have qc4' := qc4.symm
  subst qa4'
  subst qb4
  subst qc4'
  refine (con_calls (AuditTells_ A0 c0 l0 x1 n2 x3 A4 c4 l4 a0 (fun y hy => sm_of (ok0 y hy)) (sm_of ok3) (lb_of ok1) (fun y hy => sm_of (ok4 y hy))) (Facts.cons (hr0) (Facts.cons (hr4) (Facts.cons (sent_facts s0_) (Facts.cons (errFact s0_) (Facts.nil _)))))).mono fun e W' ⟨he, hb⟩ => ?_
  subst he
  have hlt : ∀ x ∈ p0 ++ (p1 ++ (p2 ++ (p3 ++ p4))), x.block < W.heap.size := fun x hx => by simpa using hW'.lt x (by simpa using hx)
  exact ⟨_, rfl, [d0, d1, d2, d3, d4], [], _, [], p0 ++ (p1 ++ (p2 ++ (p3 ++ p4))), [], hW', trodAll_mkn1 (shut_bool Tryd.underlying4 true), trodAll_mkn5 (Below.trod laidOut_ (by kernel_rfl) (of_decide_eq_true (by kernel_rfl)) t0 hb (fun x hx => hlt x (by simp [hx]))) (Below.trod laidOut_ (by kernel_rfl) (of_decide_eq_true (by kernel_rfl)) t1 hb (fun x hx => hlt x (by simp [hx]))) (Below.trod laidOut_ (by kernel_rfl) (of_decide_eq_true (by kernel_rfl)) t2 hb (fun x hx => hlt x (by simp [hx]))) (Below.trod laidOut_ (by kernel_rfl) (of_decide_eq_true (by kernel_rfl)) t3 hb (fun x hx => hlt x (by simp [hx]))) (Below.trod laidOut_ (by kernel_rfl) (of_decide_eq_true (by kernel_rfl)) t4 hb (fun x hx => hlt x (by simp [hx]))), rfl, hb.frame _, fun h => by cases h⟩
theorem auditTells_holds : Rows.AuditTellsSaid :=
  OpenClaim.holds_of_wide 8 Tryd.f8 rfl rfl rfl rfl rfl rfl rfl ⟨rfl, rfl, rfl, rfl, rfl⟩ rfl rfl rfl rfl rfl (by kernel_rfl) Tryd.func8 (by kernel_rfl)
    (of_decide_eq_true (by kernel_rfl)) (by unfold Func.isWrapper; first | (rw [if_pos (by decide +kernel)]; kernel_rfl) | (rw [if_neg (by decide +kernel)]; exact ⟨rfl, rfl⟩))
    (fun os started H enc _ => auditTells_lifted os started H enc)
/-- The tied card. -/
theorem auditTells_card : Rows.AuditTellsCardSaid :=
  Claim7.holds_tied_plain_at .later [] [.sentinel] true (true, "35e7403ab91cb1dd5564393e521f2bb402b38fbb63a2a8846c559422764305c8") true
    auditTells_holds (fun _ h => by cases h) (by kernel_rfl) (fun _ h => by cases h) auditTells_row_tie rfl ⟨rfl, rfl⟩ (by kernel_rfl) rfl
    (fun f fn hf hfn => by
      obtain rfl : f = 8 := Option.some.inj ((show Tryd.prog.funcNamed "plimsoll/plimsolllaw18.AuditTells" = some 8 by kernel_rfl).symm.trans hf) |>.symm
      obtain rfl : fn = Tryd.f8 := (Option.some.inj (Tryd.func8.symm.trans hfn)).symm
      exact ⟨by kernel_rfl, fun j t ht => by
        rw [Tryd.params8] at ht
        have hm : t ∈ [22, 26, 3, 28, 22] := by simpa using Array.mem_of_getElem? ht
        have hall : ([22, 26, 3, 28, 22].all fun u => !Tryd.prog.wantsStandIn u) = true := by kernel_rfl
        exact (show Tryd.prog.wantsStandIn t = false by simpa using List.all_eq_true.1 hall t hm)⟩)
    (by kernel_rfl)
#print axioms auditTells_card
end Go.Proofs.YtdfgedkjilpcgaaDoor
