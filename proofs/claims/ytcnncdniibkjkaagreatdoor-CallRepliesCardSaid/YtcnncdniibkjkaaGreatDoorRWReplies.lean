/- The laws of chapter 17 (call), walked over the given program; no condition but what stands in each theorem: part WReplies. -/
import Derived.Test.YtcnncdniibkjkaaGreatDoorRUReplies
import Derived.Test.YtcnncdniibkjkaaGreatDoorRV
import Derived.Test.YtcnncdniibkjkaaGreatDoorCards
import Derived.Test.YtcnncdniibkjkaaGreatDoorTie
import Derived.SevenTiedAt
set_option linter.unusedVariables false
set_option linter.unusedSimpArgs false
set_option maxRecDepth 100000
set_option maxHeartbeats 8000000
namespace Go.Proofs.YtcnncdniibkjkaaGreatDoor
open Go Go.Sl Go.RowKit Go.Extern.Stop Go.Stop Go.Extern
theorem gn0_callReplies : Tryz.prog.globalNamed "plimsoll/field.errArg" = some 2 := by kernel_rfl
theorem gt0_callReplies : (Tryz.prog.globals[2]?).map (·.type) = some 48 := by kernel_rfl
theorem gn1_callReplies : Tryz.prog.globalNamed "plimsoll/field.errMore" = some 3 := by kernel_rfl
theorem gt1_callReplies : (Tryz.prog.globals[3]?).map (·.type) = some 48 := by kernel_rfl
theorem gn2_callReplies : Tryz.prog.globalNamed "plimsoll/field.errField" = some 1 := by kernel_rfl
theorem gt2_callReplies : (Tryz.prog.globals[1]?).map (·.type) = some 48 := by kernel_rfl
theorem gn3_callReplies : Tryz.prog.globalNamed "plimsoll/labcode.errLabel" = some 4 := by kernel_rfl
theorem gt3_callReplies : (Tryz.prog.globals[4]?).map (·.type) = some 48 := by kernel_rfl
theorem cellsE_callReplies : Tryz.prog.cellsOf 200 = 1 := by kernel_rfl
theorem cellsS_callReplies : Tryz.prog.cellsOf 9 = 1 := by kernel_rfl
theorem star_callReplies : "*" ++ "errors.errorString" = "*errors.errorString" := by decide
theorem rowP_callReplies (u : TypeId) (h : Tryz.prog.typeName? 3 u = some "*errors.errorString") : u = 180 :=
  typeName_ptr_named (nm := "errors.errorString") (by rw [star_callReplies]; kernel_rfl) (by kernel_rfl) (by decide) u (by rw [star_callReplies]; exact h)
noncomputable def laidL_callReplies : List (String × DataW Unit) := Rows.callRepliesRow.laid
theorem door_callReplies (os : Os) (args : Array Value) : laidMetH Tryz.prog laidL_callReplies ((World.doorLaid Tryz.prog 400 os).forCall (fun _ _ => 0) ⟨#[], args, []⟩).memory :=
  laidMetH_of_parts3 (fuel := 8) (laidMet_of_run' 8 (by kernel_rfl) (by kernel_rfl)) (by kernel_rfl) (by kernel_rfl)
theorem met_callReplies {W : World} (h : laidMetH Tryz.prog laidL_callReplies W) : laidMet Tryz.prog (laidL_callReplies.filter fun x => x.2.handleName?.isNone) W ∧ W.cell? ⟨0, 0, none⟩ = some (.iface 147 (.agg #[.pointer (some ⟨5, 48, none⟩)])) := by
  have h' : laidMet Tryz.prog (laidL_callReplies.filter fun x => x.2.handleName?.isNone) W ∧ handlesMet Tryz.prog [("errors.errorType", .iface "internal/reflectlite.rtype" (.agg [.ptr (.lit (.string [101, 114, 114, 111, 114]))]))] W := h
  exact ⟨h'.1, handle_of h'.2⟩
theorem of_laid_callReplies {W : World} (h : laidMetH Tryz.prog laidL_callReplies W) : ∃ a0 a1 a2 a3 : Addr, Sent Tryz.prog W "plimsoll/field.errArg" 2 180 a0 ∧ Sent Tryz.prog W "plimsoll/field.errMore" 3 180 a1 ∧ Sent Tryz.prog W "plimsoll/field.errField" 1 180 a2 ∧ Sent Tryz.prog W "plimsoll/labcode.errLabel" 4 180 a3 ∧ a0 ≠ a1 ∧ a0 ≠ a2 ∧ a0 ≠ a3 ∧ a1 ≠ a2 ∧ a1 ≠ a3 ∧ a2 ≠ a3 := by
  have h := (met_callReplies h).1
  exact laid_s4 h gn0_callReplies gt0_callReplies gn1_callReplies gt1_callReplies gn2_callReplies gt2_callReplies gn3_callReplies gt3_callReplies Tryz.underlying48 rowP_callReplies Tryz.underlying180 Tryz.underlying200 rfl rfl Tryz.underlying9 cellsE_callReplies cellsS_callReplies
open Go.ChangeShapes Go.WideShapes Go.ChangeAt Go.Joins
set_option maxRecDepth 100000 in
theorem callReplies_lifted (os : Os) (started : os.Started) (H : Type) (enc : TypeId × Value → H) :
    ReturnsInHanded {} Tryz.checked os 4 .any (fun w args => (Rows.callRepliesSpec.pre enc Tryz.prog Tryz.f4 [] false w args ∧ laidMetH Tryz.prog laidL_callReplies w) ∧ sizedMet enc Tryz.prog Tryz.f4 (OpenSpec.ofChange Rows.callRepliesSpec) false w args)
      (Rows.callRepliesSpec.post enc Tryz.prog Tryz.f4 false true false false) := by
  refine returnsInHanded_of_change_and (C := Tryz.checked) (X := fun w _ => laidMetH Tryz.prog laidL_callReplies w) (fun _ _ _ hh h => h.of_heap hh) own_ started (by kernel_rfl) Tryz.func4
    (ChangeSpec.witness_shaped (enc := enc) (C := Tryz.checked) (os := os) (X := fun w _ => laidMetH Tryz.prog laidL_callReplies w) false (World.doorLaid Tryz.prog 400 os) #[.agg #[.int .i64 0, .int .i64 0, .string ⟨#[]⟩, .slice none 0 0, .int .i64 0, .int .u64 0, .int .i64 0], .string ⟨#[]⟩, .agg #[.int .i64 0, .int .i64 0, .string ⟨#[]⟩, .slice none 0 0, .int .i64 0, .int .u64 0, .int .i64 0]] 8 rfl (World.shaped_of_RefB (by kernel_rfl) (by kernel_rfl)) (by kernel_rfl) (by kernel_rfl) (by kernel_rfl) (door_callReplies os _)) ?_
  intro W base args ds gs before hval0 hW _ _ hL _
  have hval : ∀ (j : Nat) t v, Tryz.f4.params[j]? = some t → args[j]? = some v → Value.okWide Tryz.prog W .any base t v := hval0
  have hW' := hW
  obtain ⟨p, q, hA0, hV, rfl, hfz, hnd⟩ := hW
  have hA : DataW.TrodAll enc Tryz.prog W 0 (fun _ => true) true Tryz.f4.params.toList args.toList ds p := hA0
  rw [Tryz.params4] at hA hval
  obtain ⟨v0, v1, v2, d0, d1, d2, p0, p1, p2, rfl, rfl, rfl, h0, h1, h2⟩ := trodAll_n3 hA
  obtain ⟨rfl, rfl⟩ := trodVars_none hV
  obtain ⟨a0, a1, a2, a3, s0_, s1_, s2_, s3_, n01, n02, n03, n12, n13, n23⟩ := of_laid_callReplies hL
  have hh_ := (met_callReplies hL).2
  clear hA0 hval0
  simp only [List.append_nil] at hW'
  have t0 := h0
  obtain ⟨fu0, hf0⟩ := h0
  obtain ⟨x0, rfl, ok0⟩ := open_struct (f := repVals) (Pr := okRep W) Tryz.underlying39 (hval 0 39 _ rfl rfl) (fun n cs y h => read_Rep h) t0
  have t1 := h1
  obtain ⟨fu1, hf1⟩ := h1
  obtain ⟨s1, rfl⟩ := okWide_string Tryz.underlying9 (hval 1 9 _ rfl rfl)
  have b1 : s1.size ≤ 9223372036854775807 := by
    obtain ⟨z, hz, hb⟩ := open_str Tryz.underlying9 hf1
    have e : z = s1 := by simpa [Value.cells] using hz.symm
    rw [← e]; exact hb
  have t2 := h2
  obtain ⟨fu2, hf2⟩ := h2
  obtain ⟨x2, rfl, ok2⟩ := open_struct (f := repVals) (Pr := okRep W) Tryz.underlying39 (hval 2 39 _ rfl rfl) (fun n cs y h => read_Rep h) t2
  refine (con_calls (CallReplies_ a0 a1 a2 a3 n01 n02 n12 x0.e x0.n x0.d x0.A x0.c x0.l x0.a s1 x2.e x2.n x2.d x2.A x2.c x2.l x2.a ok0.2.1 ok0.2.2.1 ok0.2.2.2.1 ok0.2.2.2.2 ok2.2.1 ok2.2.2.1 ok2.2.2.2.1 ok2.2.2.2.2 b1) (Facts.cons (ok0.1) (Facts.cons (ok2.1) (Facts.cons (sent_facts s0_) (Facts.cons (sent_facts s1_) (Facts.cons (sent_facts s2_) (Facts.cons (sent_facts s3_) (Facts.cons (errFact s0_) (Facts.cons (errFact s1_) (Facts.cons (errFact s2_) (Facts.cons (errFact s3_) (Facts.cons (cell_facts hh_) (Facts.nil _))))))))))))).mono fun e W' ⟨he, hb⟩ => ?_
  subst he
  have hlt : ∀ x ∈ p0 ++ (p1 ++ p2), x.block < W.heap.size := fun x hx => by simpa using hW'.lt x (by simpa using hx)
  exact ⟨_, rfl, [d0, d1, d2], [], _, [], p0 ++ (p1 ++ p2), [], hW', trodAll_mkn1 (shut_bool Tryz.underlying4 true), trodAll_mkn3 (Below.trod laidOut_ (by kernel_rfl) (of_decide_eq_true (by kernel_rfl)) t0 hb (fun x hx => hlt x (by simp [hx]))) (Below.trod laidOut_ (by kernel_rfl) (of_decide_eq_true (by kernel_rfl)) t1 hb (fun x hx => hlt x (by simp [hx]))) (Below.trod laidOut_ (by kernel_rfl) (of_decide_eq_true (by kernel_rfl)) t2 hb (fun x hx => hlt x (by simp [hx]))), rfl, hb.frame _, fun h => by cases h⟩
theorem callReplies_holds : Rows.CallRepliesSaid :=
  OpenClaim.holds_of_wide 4 Tryz.f4 rfl rfl rfl rfl rfl rfl rfl ⟨rfl, rfl, rfl, rfl, rfl⟩ rfl rfl rfl rfl rfl (by kernel_rfl) Tryz.func4 (by kernel_rfl)
    (of_decide_eq_true (by kernel_rfl)) (by unfold Func.isWrapper; first | (rw [if_pos (by decide +kernel)]; kernel_rfl) | (rw [if_neg (by decide +kernel)]; exact ⟨rfl, rfl⟩))
    (fun os started H enc _ => callReplies_lifted os started H enc)
/-- The tied card. -/
theorem callReplies_card : Rows.CallRepliesCardSaid :=
  Claim7.holds_tied_plain_at .later [] [.handle, .sentinel, .sentinel, .sentinel, .sentinel] true (true, "22c03a84e7f285918f5889c9239f3ad771e538513f185b5c7267c7d80ce70bff") true
    callReplies_holds (fun _ h => by cases h) (by kernel_rfl) (fun _ h => by cases h) callReplies_row_tie rfl ⟨rfl, rfl⟩ (by kernel_rfl) rfl
    (fun f fn hf hfn => by
      obtain rfl : f = 4 := Option.some.inj ((show Tryz.prog.funcNamed "plimsoll/plimsolllaw17.CallReplies" = some 4 by kernel_rfl).symm.trans hf) |>.symm
      obtain rfl : fn = Tryz.f4 := (Option.some.inj (Tryz.func4.symm.trans hfn)).symm
      exact ⟨by kernel_rfl, fun j t ht => by
        rw [Tryz.params4] at ht
        have hm : t ∈ [39, 9, 39] := by simpa using Array.mem_of_getElem? ht
        have hall : ([39, 9, 39].all fun u => !Tryz.prog.wantsStandIn u) = true := by kernel_rfl
        exact (show Tryz.prog.wantsStandIn t = false by simpa using List.all_eq_true.1 hall t hm)⟩)
    (by kernel_rfl)
#print axioms callReplies_card
end Go.Proofs.YtcnncdniibkjkaaGreatDoor
