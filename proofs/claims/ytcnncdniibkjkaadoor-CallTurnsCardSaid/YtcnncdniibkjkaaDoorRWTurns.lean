/- The laws of chapter 17 (call), walked over the given program; no condition but what stands in each theorem: part WTurns. -/
import Derived.Test.YtcnncdniibkjkaaDoorRUTurns
import Derived.Test.YtcnncdniibkjkaaDoorRV
import Derived.Test.YtcnncdniibkjkaaDoorCards
import Derived.Test.YtcnncdniibkjkaaDoorTie
import Derived.SevenTiedAt
set_option linter.unusedVariables false
set_option linter.unusedSimpArgs false
set_option maxRecDepth 100000
set_option maxHeartbeats 8000000
namespace Go.Proofs.YtcnncdniibkjkaaDoor
open Go Go.Sl Go.RowKit Go.Extern.Stop Go.Stop Go.Extern
theorem gn0_callTurns : Tryd.prog.globalNamed "plimsoll/field.errArg" = some 2 := by kernel_rfl
theorem gt0_callTurns : (Tryd.prog.globals[2]?).map (·.type) = some 51 := by kernel_rfl
theorem gn1_callTurns : Tryd.prog.globalNamed "plimsoll/field.errMore" = some 3 := by kernel_rfl
theorem gt1_callTurns : (Tryd.prog.globals[3]?).map (·.type) = some 51 := by kernel_rfl
theorem gn2_callTurns : Tryd.prog.globalNamed "plimsoll/field.errField" = some 1 := by kernel_rfl
theorem gt2_callTurns : (Tryd.prog.globals[1]?).map (·.type) = some 51 := by kernel_rfl
theorem gn3_callTurns : Tryd.prog.globalNamed "plimsoll/labcode.errLabel" = some 4 := by kernel_rfl
theorem gt3_callTurns : (Tryd.prog.globals[4]?).map (·.type) = some 51 := by kernel_rfl
theorem cellsE_callTurns : Tryd.prog.cellsOf 197 = 1 := by kernel_rfl
theorem cellsS_callTurns : Tryd.prog.cellsOf 9 = 1 := by kernel_rfl
theorem star_callTurns : "*" ++ "errors.errorString" = "*errors.errorString" := by decide
theorem rowP_callTurns (u : TypeId) (h : Tryd.prog.typeName? 3 u = some "*errors.errorString") : u = 177 :=
  typeName_ptr_named (nm := "errors.errorString") (by rw [star_callTurns]; kernel_rfl) (by kernel_rfl) (by decide) u (by rw [star_callTurns]; exact h)
noncomputable def laidL_callTurns : List (String × DataW Unit) := Rows.callTurnsRow.laid
theorem door_callTurns (os : Os) (args : Array Value) : laidMetH Tryd.prog laidL_callTurns ((World.doorLaid Tryd.prog 400 os).forCall (fun _ _ => 0) ⟨#[], args, []⟩).memory :=
  laidMetH_of_parts3 (fuel := 8) (laidMet_of_run' 8 (by kernel_rfl) (by kernel_rfl)) (by kernel_rfl) (by kernel_rfl)
theorem met_callTurns {W : World} (h : laidMetH Tryd.prog laidL_callTurns W) : laidMet Tryd.prog (laidL_callTurns.filter fun x => x.2.handleName?.isNone) W ∧ W.cell? ⟨0, 0, none⟩ = some (.iface 139 (.agg #[.pointer (some ⟨5, 51, none⟩)])) := by
  have h' : laidMet Tryd.prog (laidL_callTurns.filter fun x => x.2.handleName?.isNone) W ∧ handlesMet Tryd.prog [("errors.errorType", .iface "internal/reflectlite.rtype" (.agg [.ptr (.lit (.string [101, 114, 114, 111, 114]))]))] W := h
  exact ⟨h'.1, handle_of h'.2⟩
theorem of_laid_callTurns {W : World} (h : laidMetH Tryd.prog laidL_callTurns W) : ∃ a0 a1 a2 a3 : Addr, Sent Tryd.prog W "plimsoll/field.errArg" 2 177 a0 ∧ Sent Tryd.prog W "plimsoll/field.errMore" 3 177 a1 ∧ Sent Tryd.prog W "plimsoll/field.errField" 1 177 a2 ∧ Sent Tryd.prog W "plimsoll/labcode.errLabel" 4 177 a3 ∧ a0 ≠ a1 ∧ a0 ≠ a2 ∧ a0 ≠ a3 ∧ a1 ≠ a2 ∧ a1 ≠ a3 ∧ a2 ≠ a3 := by
  have h := (met_callTurns h).1
  exact laid_s4 h gn0_callTurns gt0_callTurns gn1_callTurns gt1_callTurns gn2_callTurns gt2_callTurns gn3_callTurns gt3_callTurns Tryd.underlying51 rowP_callTurns Tryd.underlying177 Tryd.underlying197 rfl rfl Tryd.underlying9 cellsE_callTurns cellsS_callTurns
open Go.ChangeShapes Go.WideShapes Go.ChangeAt Go.Joins
set_option maxRecDepth 100000 in
theorem callTurns_lifted (os : Os) (started : os.Started) (H : Type) (enc : TypeId × Value → H) :
    ReturnsInHanded {} Tryd.checked os 6 .any (fun w args => (Rows.callTurnsSpec.pre enc Tryd.prog Tryd.f6 [] false w args ∧ laidMetH Tryd.prog laidL_callTurns w) ∧ sizedMet enc Tryd.prog Tryd.f6 (OpenSpec.ofChange Rows.callTurnsSpec) false w args)
      (Rows.callTurnsSpec.post enc Tryd.prog Tryd.f6 false true false false) := by
  refine returnsInHanded_of_change_and (C := Tryd.checked) (X := fun w _ => laidMetH Tryd.prog laidL_callTurns w) (fun _ _ _ hh h => h.of_heap hh) own_ started (by kernel_rfl) Tryd.func6
    (ChangeSpec.witness_shaped (enc := enc) (C := Tryd.checked) (os := os) (X := fun w _ => laidMetH Tryd.prog laidL_callTurns w) false (World.doorLaid Tryd.prog 400 os) #[.agg #[.int .i64 0, .int .i64 0, .string ⟨#[]⟩, .slice none 0 0, .int .i64 0, .int .u64 0, .int .i64 0], .string ⟨#[]⟩] 8 rfl (World.shaped_of_RefB (by kernel_rfl) (by kernel_rfl)) (by kernel_rfl) (by kernel_rfl) (by kernel_rfl) (door_callTurns os _)) ?_
  intro W base args ds gs before hval0 hW _ _ hL _
  have hval : ∀ (j : Nat) t v, Tryd.f6.params[j]? = some t → args[j]? = some v → Value.okWide Tryd.prog W .any base t v := hval0
  have hW' := hW
  obtain ⟨p, q, hA0, hV, rfl, hfz, hnd⟩ := hW
  have hA : DataW.TrodAll enc Tryd.prog W 0 (fun _ => true) true Tryd.f6.params.toList args.toList ds p := hA0
  rw [Tryd.params6] at hA hval
  obtain ⟨v0, v1, d0, d1, p0, p1, rfl, rfl, rfl, h0, h1⟩ := trodAll_n2 hA
  obtain ⟨rfl, rfl⟩ := trodVars_none hV
  obtain ⟨a0, a1, a2, a3, s0_, s1_, s2_, s3_, n01, n02, n03, n12, n13, n23⟩ := of_laid_callTurns hL
  have hh_ := (met_callTurns hL).2
  clear hA0 hval0
  simp only [List.append_nil] at hW'
  have t0 := h0
  obtain ⟨fu0, hf0⟩ := h0
  obtain ⟨x0, rfl, ok0⟩ := open_struct (f := repVals) (Pr := okRep W) Tryd.underlying41 (hval 0 41 _ rfl rfl) (fun n cs y h => read_Rep h) t0
  have t1 := h1
  obtain ⟨fu1, hf1⟩ := h1
  obtain ⟨s1, rfl⟩ := okWide_string Tryd.underlying9 (hval 1 9 _ rfl rfl)
  have b1 : s1.size ≤ 9223372036854775807 := by
    obtain ⟨z, hz, hb⟩ := open_str Tryd.underlying9 hf1
    have e : z = s1 := by simpa [Value.cells] using hz.symm
    rw [← e]; exact hb
  refine (con_calls (CallTurns_ a0 a1 a2 a3 n01 n02 n12 x0.e x0.n x0.d x0.A x0.c x0.l x0.a s1 ok0.2.1 ok0.2.2.1 ok0.2.2.2.1 ok0.2.2.2.2 b1) (Facts.cons (ok0.1) (Facts.cons (sent_facts s0_) (Facts.cons (sent_facts s1_) (Facts.cons (sent_facts s2_) (Facts.cons (sent_facts s3_) (Facts.cons (errFact s0_) (Facts.cons (errFact s1_) (Facts.cons (errFact s2_) (Facts.cons (errFact s3_) (Facts.cons (cell_facts hh_) (Facts.nil _)))))))))))).mono fun e W' ⟨he, hb⟩ => ?_
  subst he
  have hlt : ∀ x ∈ p0 ++ p1, x.block < W.heap.size := fun x hx => by simpa using hW'.lt x (by simpa using hx)
  exact ⟨_, rfl, [d0, d1], [], _, [], p0 ++ p1, [], hW', trodAll_mkn1 (shut_bool Tryd.underlying4 true), trodAll_mkn2 (Below.trod laidOut_ (by kernel_rfl) (of_decide_eq_true (by kernel_rfl)) t0 hb (fun x hx => hlt x (by simp [hx]))) (Below.trod laidOut_ (by kernel_rfl) (of_decide_eq_true (by kernel_rfl)) t1 hb (fun x hx => hlt x (by simp [hx]))), rfl, hb.frame _, fun h => by cases h⟩
theorem callTurns_holds : Rows.CallTurnsSaid :=
  OpenClaim.holds_of_wide 6 Tryd.f6 rfl rfl rfl rfl rfl rfl rfl ⟨rfl, rfl, rfl, rfl, rfl⟩ rfl rfl rfl rfl rfl (by kernel_rfl) Tryd.func6 (by kernel_rfl)
    (of_decide_eq_true (by kernel_rfl)) (by unfold Func.isWrapper; first | (rw [if_pos (by decide +kernel)]; kernel_rfl) | (rw [if_neg (by decide +kernel)]; exact ⟨rfl, rfl⟩))
    (fun os started H enc _ => callTurns_lifted os started H enc)
/-- The tied card. -/
theorem callTurns_card : Rows.CallTurnsCardSaid :=
  Claim7.holds_tied_plain_at .later [] [.handle, .sentinel, .sentinel, .sentinel, .sentinel] true (true, "3c1874592a54b2e649354390c467f693355f608a460c4d021c4d60da7d4b5c58") true
    callTurns_holds (fun _ h => by cases h) (by kernel_rfl) (fun _ h => by cases h) callTurns_row_tie rfl ⟨rfl, rfl⟩ (by kernel_rfl) rfl
    (fun f fn hf hfn => by
      obtain rfl : f = 6 := Option.some.inj ((show Tryd.prog.funcNamed "plimsoll/plimsolllaw17.CallTurns" = some 6 by kernel_rfl).symm.trans hf) |>.symm
      obtain rfl : fn = Tryd.f6 := (Option.some.inj (Tryd.func6.symm.trans hfn)).symm
      exact ⟨by kernel_rfl, fun j t ht => by
        rw [Tryd.params6] at ht
        have hm : t ∈ [41, 9] := by simpa using Array.mem_of_getElem? ht
        have hall : ([41, 9].all fun u => !Tryd.prog.wantsStandIn u) = true := by kernel_rfl
        exact (show Tryd.prog.wantsStandIn t = false by simpa using List.all_eq_true.1 hall t hm)⟩)
    (by kernel_rfl)
#print axioms callTurns_card
end Go.Proofs.YtcnncdniibkjkaaDoor
