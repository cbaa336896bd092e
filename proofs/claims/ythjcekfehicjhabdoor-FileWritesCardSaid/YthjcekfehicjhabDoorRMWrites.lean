/- The laws of chapter 9 (file), walked over the given program; no condition but what stands in each theorem: part MWrites. -/
import Derived.Test.YthjcekfehicjhabDoorRKWrites
import Derived.Test.YthjcekfehicjhabDoorRL
import Derived.Test.YthjcekfehicjhabDoorCards
import Derived.Test.YthjcekfehicjhabDoorTie
import Derived.SevenTiedAt
set_option linter.unusedVariables false
set_option linter.unusedSimpArgs false
set_option maxRecDepth 100000
set_option maxHeartbeats 8000000
namespace Go.Proofs.YthjcekfehicjhabDoor
open Go Go.Sl Go.RowKit Go.Extern.Stop Go.Stop Go.Extern
noncomputable def laidL_fileWrites : List (String × DataW Unit) := Rows.fileWritesRow.laid
theorem door_fileWrites (os : Os) (args : Array Value) : laidMetH Tryd.prog laidL_fileWrites ((World.doorLaid Tryd.prog 400 os).forCall (fun _ _ => 0) ⟨#[], args, []⟩).memory :=
  laidMetH_of_parts3 (fuel := 8) (laidMet_of_run' 8 (by kernel_rfl) (by kernel_rfl)) (by kernel_rfl) (by kernel_rfl)
theorem met_fileWrites {W : World} (h : laidMetH Tryd.prog laidL_fileWrites W) : laidMet Tryd.prog (laidL_fileWrites.filter fun x => x.2.handleName?.isNone) W ∧ W.cell? ⟨0, 0, none⟩ = some (.iface 70 (.agg #[.pointer (some ⟨1, 42, none⟩)])) := by
  have h' : laidMet Tryd.prog (laidL_fileWrites.filter fun x => x.2.handleName?.isNone) W ∧ handlesMet Tryd.prog [("errors.errorType", .iface "internal/reflectlite.rtype" (.agg [.ptr (.lit (.string [101, 114, 114, 111, 114]))]))] W := h
  exact ⟨h'.1, handle_of h'.2⟩
open Go.ChangeShapes Go.WideShapes Go.ChangeAt Go.Joins
set_option maxRecDepth 100000 in
theorem fileWrites_lifted (os : Os) (started : os.Started) (H : Type) (enc : TypeId × Value → H) :
    ReturnsInHanded {} Tryd.checked os 3 .any (fun w args => (Rows.fileWritesSpec.pre enc Tryd.prog Tryd.f3 [] false w args ∧ laidMetH Tryd.prog laidL_fileWrites w) ∧ sizedMet enc Tryd.prog Tryd.f3 (OpenSpec.ofChange Rows.fileWritesSpec) false w args)
      (Rows.fileWritesSpec.post enc Tryd.prog Tryd.f3 false true false false) := by
  refine returnsInHanded_of_change_and (C := Tryd.checked) (X := fun w _ => laidMetH Tryd.prog laidL_fileWrites w) (fun _ _ _ hh h => h.of_heap hh) own_ started (by kernel_rfl) Tryd.func3
    (ChangeSpec.witness_shaped (enc := enc) (C := Tryd.checked) (os := os) (X := fun w _ => laidMetH Tryd.prog laidL_fileWrites w) false (World.doorLaid Tryd.prog 400 os) #[.string ⟨#[]⟩, .string ⟨#[]⟩, .int .i64 0, .int .i64 0] 8 rfl (World.shaped_of_RefB (by kernel_rfl) (by kernel_rfl)) (by kernel_rfl) (by kernel_rfl) (by kernel_rfl) (door_fileWrites os _)) ?_
  intro W base args ds gs before hval0 hW _ _ hL _
  have hval : ∀ (j : Nat) t v, Tryd.f3.params[j]? = some t → args[j]? = some v → Value.okWide Tryd.prog W .any base t v := hval0
  have hW' := hW
  obtain ⟨p, q, hA0, hV, rfl, hfz, hnd⟩ := hW
  have hA : DataW.TrodAll enc Tryd.prog W 0 (fun _ => true) true Tryd.f3.params.toList args.toList ds p := hA0
  rw [Tryd.params3] at hA hval
  obtain ⟨v0, v1, v2, v3, d0, d1, d2, d3, p0, p1, p2, p3, rfl, rfl, rfl, h0, h1, h2, h3⟩ := trodAll_n4 hA
  obtain ⟨rfl, rfl⟩ := trodVars_none hV
  have hh_ := (met_fileWrites hL).2
  clear hA0 hval0
  simp only [List.append_nil] at hW'
  have t0 := h0
  obtain ⟨fu0, hf0⟩ := h0
  obtain ⟨s0, rfl⟩ := okWide_string Tryd.underlying9 (hval 0 9 _ rfl rfl)
  have b0 : s0.size ≤ 9223372036854775807 := by
    obtain ⟨z, hz, hb⟩ := open_str Tryd.underlying9 hf0
    have e : z = s0 := by simpa [Value.cells] using hz.symm
    rw [← e]; exact hb
  have t1 := h1
  obtain ⟨fu1, hf1⟩ := h1
  obtain ⟨s1, rfl⟩ := okWide_string Tryd.underlying9 (hval 1 9 _ rfl rfl)
  have b1 : s1.size ≤ 9223372036854775807 := by
    obtain ⟨z, hz, hb⟩ := open_str Tryd.underlying9 hf1
    have e : z = s1 := by simpa [Value.cells] using hz.symm
    rw [← e]; exact hb
  have t2 := h2
  obtain ⟨fu2, hf2⟩ := h2
  obtain ⟨n2, rfl⟩ := okWide_int Tryd.underlying3 (hval 2 3 _ rfl rfl)
  have b2 : -9223372036854775808 ≤ n2 ∧ n2 ≤ 9223372036854775807 := by
    obtain ⟨z, hz, hb⟩ := open_i64 Tryd.underlying3 hf2
    have e : z = n2 := by simpa [Value.cells] using hz.symm
    rw [← e]; exact hb
  have t3 := h3
  obtain ⟨fu3, hf3⟩ := h3
  obtain ⟨n3, rfl⟩ := okWide_int Tryd.underlying3 (hval 3 3 _ rfl rfl)
  have b3 : -9223372036854775808 ≤ n3 ∧ n3 ≤ 9223372036854775807 := by
    obtain ⟨z, hz, hb⟩ := open_i64 Tryd.underlying3 hf3
    have e : z = n3 := by simpa [Value.cells] using hz.symm
    rw [← e]; exact hb
  refine (con_calls (FileWrites_ s0 s1 n2 n3 b0 b1) (Facts.cons (cell_facts hh_) (Facts.nil _))).mono fun e W' ⟨he, hb⟩ => ?_
  subst he
  have hlt : ∀ x ∈ p0 ++ (p1 ++ (p2 ++ p3)), x.block < W.heap.size := fun x hx => by simpa using hW'.lt x (by simpa using hx)
  exact ⟨_, rfl, [d0, d1, d2, d3], [], _, [], p0 ++ (p1 ++ (p2 ++ p3)), [], hW', trodAll_mkn1 (shut_bool Tryd.underlying4 true), trodAll_mkn4 (Below.trod laidOut_ (by kernel_rfl) (of_decide_eq_true (by kernel_rfl)) t0 hb (fun x hx => hlt x (by simp [hx]))) (Below.trod laidOut_ (by kernel_rfl) (of_decide_eq_true (by kernel_rfl)) t1 hb (fun x hx => hlt x (by simp [hx]))) (Below.trod laidOut_ (by kernel_rfl) (of_decide_eq_true (by kernel_rfl)) t2 hb (fun x hx => hlt x (by simp [hx]))) (Below.trod laidOut_ (by kernel_rfl) (of_decide_eq_true (by kernel_rfl)) t3 hb (fun x hx => hlt x (by simp [hx]))), rfl, hb.frame _, fun h => by cases h⟩
theorem fileWrites_holds : Rows.FileWritesSaid :=
  OpenClaim.holds_of_wide 3 Tryd.f3 rfl rfl rfl rfl rfl rfl rfl ⟨rfl, rfl, rfl, rfl, rfl⟩ rfl rfl rfl rfl rfl (by kernel_rfl) Tryd.func3 (by kernel_rfl)
    (of_decide_eq_true (by kernel_rfl)) (by unfold Func.isWrapper; first | (rw [if_pos (by decide +kernel)]; kernel_rfl) | (rw [if_neg (by decide +kernel)]; exact ⟨rfl, rfl⟩))
    (fun os started H enc _ => fileWrites_lifted os started H enc)
/-- The tied card. -/
theorem fileWrites_card : Rows.FileWritesCardSaid :=
  Claim7.holds_tied_plain_at .later [] [.handle] true (true, "cf1a416c18b01824ea8e9042571471284076252f0cde0c9dce2f651cadb78b61") true
    fileWrites_holds (fun _ h => by cases h) (by kernel_rfl) (fun _ h => by cases h) fileWrites_row_tie rfl ⟨rfl, rfl⟩ (by kernel_rfl) rfl
    (fun f fn hf hfn => by
      obtain rfl : f = 3 := Option.some.inj ((show Tryd.prog.funcNamed "plimsoll/plimsolllaw09.FileWrites" = some 3 by kernel_rfl).symm.trans hf) |>.symm
      obtain rfl : fn = Tryd.f3 := (Option.some.inj (Tryd.func3.symm.trans hfn)).symm
      exact ⟨by kernel_rfl, fun j t ht => by
        rw [Tryd.params3] at ht
        have hm : t ∈ [9, 9, 3, 3] := by simpa using Array.mem_of_getElem? ht
        have hall : ([9, 9, 3, 3].all fun u => !Tryd.prog.wantsStandIn u) = true := by kernel_rfl
        exact (show Tryd.prog.wantsStandIn t = false by simpa using List.all_eq_true.1 hall t hm)⟩)
    (by kernel_rfl)
#print axioms fileWrites_card
end Go.Proofs.YthjcekfehicjhabDoor
