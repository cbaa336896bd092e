/- The laws of chapter 9 (file), walked over the given program; no condition but what stands in each theorem: part A. -/
import Derived.WalkKit
import Derived.LaidEql
import Derived.Stop.Asserts
import Derived.RowKitTokens
import Derived.Test.YthjcekfehicjhabDoorProg
import Derived.Test.YthjcekfehicjhabDoorChecked
import Derived.Test.YthjcekfehicjhabDoorSlX
set_option linter.unusedVariables false
set_option linter.unusedSimpArgs false
set_option maxRecDepth 100000
set_option maxHeartbeats 8000000
namespace Go.Proofs.YthjcekfehicjhabDoor
open Go Go.Sl Go.RowKit Go.Extern.Stop Go.Stop Go.Extern

theorem bytes_ext {a b : ByteArray} (h : a.data.toList = b.data.toList) : a = b := by
  obtain ⟨⟨x⟩⟩ := a
  obtain ⟨⟨y⟩⟩ := b
  simp at h; subst h; rfl
theorem len_bytes (s : ByteArray) : s.data.toList.length = s.size := Array.length_toList
/-- Those of some that together are no more than a thousand bytes. -/
def fitL : Nat → List Part → List Part
  | _, [] => []
  | n, p :: r => if n + p.l.length ≤ 1000 then p :: fitL (n + p.l.length) r else []
def sumL : List Part → Nat
  | [] => 0
  | p :: r => p.l.length + sumL r
theorem fitL_len : ∀ (ps : List Part) (n : Nat), (fitL n ps).length ≤ ps.length
  | [], _ => by simp [fitL]
  | p :: r, n => by
    unfold fitL
    split
    · have := fitL_len r (n + p.l.length); simp; omega
    · simp
def catL (ps : List Part) : List UInt8 := ps.flatMap (·.l)
theorem catL_len : ∀ ps : List Part, (catL ps).length = sumL ps
  | [] => rfl
  | p :: r => by
    have := catL_len r
    unfold catL at *
    simp only [List.flatMap_cons, List.length_append, sumL, this]
theorem catL_step' {ps : List Part} {k : Nat} {x : Part} {o : List UInt8} (ho : o = catL (ps.take k)) (hx : ps[k]? = some x) : o ++ x.l = catL (ps.take (k + 1)) := by
  rw [ho]; unfold catL; rw [List.take_add_one, hx]; simp
theorem sumL_append (a b : List Part) : sumL (a ++ b) = sumL a + sumL b := by
  induction a with
  | nil => simp [sumL]
  | cons p r ih => simp only [List.cons_append, sumL, ih]; omega
theorem sumL_step {ps : List Part} {k : Nat} {x : Part} (hx : ps[k]? = some x) : sumL (ps.take (k + 1)) = sumL (ps.take k) + x.l.length := by
  rw [List.take_add_one, hx, sumL_append]; simp [sumL]
theorem sumL_take (ps : List Part) (k : Nat) : sumL (ps.take k) ≤ sumL ps := by
  have := sumL_append (ps.take k) (ps.drop k)
  rw [List.take_append_drop] at this; omega
theorem catL_step {ps : List Part} {k : Nat} {x : Part} (hx : ps[k]? = some x) : catL (ps.take k) ++ x.l = catL (ps.take (k + 1)) := by
  unfold catL; rw [List.take_add_one, hx]; simp
/-- Up to k all fit. -/
theorem fit_step {ps : List Part} {k : Nat} {x : Part} (hF : fitL 0 ps = ps.take k ++ fitL (sumL (ps.take k)) (ps.drop k)) (hx : ps[k]? = some x) (hf : sumL (ps.take k) + x.l.length ≤ 1000) : fitL 0 ps = ps.take (k + 1) ++ fitL (sumL (ps.take (k + 1))) (ps.drop (k + 1)) := by
  obtain ⟨hk, he⟩ := List.getElem?_eq_some_iff.1 hx
  rw [hF, List.drop_eq_getElem_cons hk, he, fitL, if_pos hf, sumL_step hx, List.take_add_one, hx]
  simp
theorem fit_at {ps : List Part} {k : Nat} {x : Part} (hF : fitL 0 ps = ps.take k ++ fitL (sumL (ps.take k)) (ps.drop k)) (hx : ps[k]? = some x) (hf : sumL (ps.take k) + x.l.length ≤ 1000) : (fitL 0 ps)[k]? = some x := by
  obtain ⟨hk, he⟩ := List.getElem?_eq_some_iff.1 hx
  rw [fit_step hF hx hf, List.getElem?_append_left (by simp; omega), List.getElem?_take, if_pos (by omega), hx]
theorem fit_stop {ps : List Part} {k : Nat} {x : Part} (hF : fitL 0 ps = ps.take k ++ fitL (sumL (ps.take k)) (ps.drop k)) (hx : ps[k]? = some x) (hf : ¬ sumL (ps.take k) + x.l.length ≤ 1000) : (fitL 0 ps).length = k := by
  obtain ⟨hk, he⟩ := List.getElem?_eq_some_iff.1 hx
  rw [hF, List.drop_eq_getElem_cons hk, he, fitL, if_neg hf]
  simp; omega
theorem fit_end {ps : List Part} {k : Nat} (hF : fitL 0 ps = ps.take k ++ fitL (sumL (ps.take k)) (ps.drop k)) (hk : ps.length = k) : (fitL 0 ps).length = k := by
  rw [hF, List.drop_eq_nil_of_le (by omega), fitL]
  simp; omega
theorem fit_all : ∀ (ps : List Part) (n : Nat), n + sumL ps ≤ 1000 → fitL n ps = ps
  | [], _, _ => rfl
  | p :: r, n, h => by
    simp only [sumL] at h
    rw [fitL, if_pos (by omega), fit_all r _ (by omega)]
theorem fit_sum : ∀ (ps : List Part) (n : Nat), n ≤ 1000 → n + sumL (fitL n ps) ≤ 1000
  | [], n, h => by simp [fitL, sumL]; omega
  | p :: r, n, h => by
    rw [fitL]
    split
    · rename_i hp; have := fit_sum r _ hp; simp only [sumL]; omega
    · simp [sumL]; omega
theorem fit_iff (ps : List Part) : sumL (fitL 0 ps) = sumL ps ↔ sumL ps ≤ 1000 := by
  constructor
  · intro h; have := fit_sum ps 0 (by omega); omega
  · intro h; rw [fit_all ps 0 (by omega)]
theorem fit_sub : ∀ (ps : List Part) (n : Nat), ∀ p ∈ fitL n ps, p ∈ ps
  | [], n, p, hp => by cases hp
  | q :: r, n, p, hp => by
    rw [fitL] at hp
    split at hp
    · rcases List.mem_cons.1 hp with rfl | hp
      · simp
      · have := fit_sub r _ p hp; simp [this]
    · cases hp
end Go.Proofs.YthjcekfehicjhabDoor
