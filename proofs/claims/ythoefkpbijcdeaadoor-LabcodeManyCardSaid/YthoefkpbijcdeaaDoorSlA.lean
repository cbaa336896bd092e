/- Separation-style words for walks: partial heaps, atoms, what a call keeps. Plain definitions and lemmas; nothing of the program. -/
import Derived.WalkKit
import Derived.RangeFuncLeaves
import Derived.RangeFuncCalls
import Derived.OwnWalkIn
import Derived.TacticsInMore
import Derived.KernelRfl
set_option linter.unusedVariables false
set_option linter.unusedSimpArgs false
namespace Go.Sl
open Go Go.RowKit

/-! ### Partial heaps -/
abbrev Hp := Nat → Option Obj
def le (h k : Hp) : Prop := ∀ b o, h b = some o → k b = some o
def apart (h k : Hp) : Prop := ∀ b, h b = none ∨ k b = none
def both (h k : Hp) : Hp := fun b => (h b).or (k b)
def one (b : Nat) (o : Obj) : Hp := fun i => if i = b then some o else none
def nothing : Hp := fun _ => none
def hpOf (w : World) : Hp := fun b => w.heap[b]?

theorem le.refl (h : Hp) : le h h := fun _ _ e => e
theorem le.trans {a b c : Hp} (h : le a b) (k : le b c) : le a c := fun i o e => k i o (h i o e)
theorem nothing_le (h : Hp) : le nothing h := fun _ _ e => by cases e
theorem le_both_left (h k : Hp) : le h (both h k) := fun b o e => by simp [both, e]
theorem le_both_right {h k : Hp} (d : apart h k) : le k (both h k) := fun b o e => by
  rcases d b with hb | hb
  · simp [both, hb, e]
  · rw [hb] at e; cases e
theorem both_le {h k m : Hp} (a : le h m) (b : le k m) : le (both h k) m := fun i o e => by
  unfold both at e
  cases hh : h i with
  | some x => rw [hh] at e; simp at e; subst e; exact a i x hh
  | none => rw [hh] at e; simp at e; exact b i o e
theorem both_cases {h k : Hp} {b : Nat} {o : Obj} (e : both h k b = some o) : h b = some o ∨ k b = some o := by
  unfold both at e
  cases hh : h b with
  | some x => rw [hh] at e; simp at e; exact .inl (by rw [e])
  | none => rw [hh] at e; simp at e; exact .inr e
theorem both_none {h k : Hp} {b : Nat} : both h k b = none ↔ h b = none ∧ k b = none := by
  unfold both; cases h b <;> cases k b <;> simp
theorem apart.symm {h k : Hp} (d : apart h k) : apart k h := fun b => (d b).symm
theorem apart_nothing (h : Hp) : apart h nothing := fun _ => .inr rfl
theorem nothing_apart (h : Hp) : apart nothing h := fun _ => .inl rfl
theorem apart.mono_left {h h' k : Hp} (d : apart h k) (l : le h' h) : apart h' k := fun b => by
  rcases d b with e | e
  · left
    cases hh : h' b with
    | none => rfl
    | some o => rw [l b o hh] at e; cases e
  · exact .inr e
theorem apart.mono_right {h k k' : Hp} (d : apart h k) (l : le k' k) : apart h k' := (d.symm.mono_left l).symm
theorem apart.mono {h h' k k' : Hp} (d : apart h k) (l : le h' h) (l' : le k' k) : apart h' k' := (d.mono_left l).mono_right l'
theorem apart_both {h k m : Hp} (a : apart h m) (b : apart k m) : apart (both h k) m := fun i => by
  rcases b i with e | e
  · rcases a i with e' | e'
    · exact .inl (both_none.2 ⟨e', e⟩)
    · exact .inr e'
  · exact .inr e
theorem apart_both' {h k m : Hp} (a : apart m h) (b : apart m k) : apart m (both h k) := (apart_both a.symm b.symm).symm
theorem apart_one {h : Hp} {b : Nat} {o : Obj} (e : h b = none) : apart h (one b o) := fun i => by
  by_cases hi : i = b
  · subst hi; exact .inl e
  · exact .inr (by simp [one, hi])
theorem one_self (b : Nat) (o : Obj) : one b o b = some o := by simp [one]
theorem one_eq {b i : Nat} {o p : Obj} (e : one b o i = some p) : i = b ∧ p = o := by
  unfold one at e
  split at e
  · exact ⟨by assumption, by simpa using e.symm⟩
  · cases e
theorem one_le {h : Hp} {b : Nat} {o : Obj} (e : h b = some o) : le (one b o) h := fun i p he => by
  obtain ⟨rfl, rfl⟩ := one_eq he; exact e
/-- A heap without one block. -/
def without (h : Hp) (b : Nat) : Hp := fun i => if i = b then none else h i
theorem without_le (h : Hp) (b : Nat) : le (without h b) h := fun i o e => by
  unfold without at e; split at e
  · cases e
  · exact e

/-! ### Atoms and facts -/
abbrev Atom := Hp → Prop
/-- Parts that share no block; what is over belongs to nobody. -/
def Sep : List Atom → Hp → Prop
  | [], _ => True
  | A :: L, h => ∃ h1 h2, apart h1 h2 ∧ le h1 h ∧ le h2 h ∧ A h1 ∧ Sep L h2
/-- Facts on memory that nobody writes: they hold in whatever holds more. -/
def Facts (I : List Atom) (h : Hp) : Prop := ∀ φ ∈ I, ∀ k, le h k → φ k

theorem Sep.up : ∀ {L : List Atom} {h k : Hp}, Sep L h → le h k → Sep L k
  | [], _, _, _, _ => trivial
  | _ :: _, _, _, ⟨h1, h2, d, l1, l2, a, s⟩, l => ⟨h1, h2, d, l1.trans l, l2.trans l, a, s⟩
theorem Facts.up {I : List Atom} {h k : Hp} (f : Facts I h) (l : le h k) : Facts I k := fun φ hφ m hm => f φ hφ m (l.trans hm)
theorem Facts.nil (h : Hp) : Facts [] h := fun _ hφ => by cases hφ
theorem Facts.cons {φ : Atom} {I : List Atom} {h : Hp} (a : ∀ k, le h k → φ k) (f : Facts I h) : Facts (φ :: I) h := fun ψ hψ => by
  rcases List.mem_cons.1 hψ with rfl | hψ
  · exact a
  · exact f ψ hψ
theorem Facts.append {I J : List Atom} {h : Hp} (f : Facts I h) (g : Facts J h) : Facts (I ++ J) h := fun φ hφ => by
  rcases List.mem_append.1 hφ with e | e
  · exact f φ e
  · exact g φ e
theorem Facts.sub {I J : List Atom} {h : Hp} (f : Facts I h) (s : ∀ φ ∈ J, φ ∈ I) : Facts J h := fun φ hφ => f φ (s φ hφ)

/-- Out of several: the i-th, and the others. -/
theorem Sep.take : ∀ {L : List Atom} {h : Hp} (i : Nat) {A : Atom}, L[i]? = some A → Sep L h → ∃ h1 h2, apart h1 h2 ∧ le h1 h ∧ le h2 h ∧ A h1 ∧ Sep (L.eraseIdx i) h2
  | [], _, _, _, e, _ => by simp at e
  | B :: L, h, 0, A, e, ⟨h1, h2, d, l1, l2, a, s⟩ => by
    simp at e; subst e
    exact ⟨h1, h2, d, l1, l2, a, s⟩
  | B :: L, h, i + 1, A, e, ⟨h1, h2, d, l1, l2, a, s⟩ => by
    obtain ⟨k1, k2, d', m1, m2, a', s'⟩ := Sep.take i (by simpa using e) s
    refine ⟨k1, both h1 k2, apart_both' ((d.mono_right m1).symm) d', m1.trans l2, both_le l1 (m2.trans l2), a', ?_⟩
    exact ⟨h1, k2, d.mono_right m2, le_both_left _ _, le_both_right (d.mono_right m2), a, s'⟩
theorem Sep.cons {A : Atom} {L : List Atom} {h1 h2 : Hp} (d : apart h1 h2) (a : A h1) (s : Sep L h2) : Sep (A :: L) (both h1 h2) := ⟨h1, h2, d, le_both_left _ _, le_both_right d, a, s⟩
/-- Back in its place. -/
theorem Sep.put : ∀ {L : List Atom} {h : Hp} (i : Nat) {A B : Atom}, L[i]? = some A → ∀ {h1 h2 : Hp}, apart h1 h2 → le h1 h → le h2 h → B h1 → Sep (L.eraseIdx i) h2 → Sep (L.set i B) h
  | [], _, _, _, _, e, _, _, _, _, _, _, _ => by simp at e
  | C :: L, h, 0, A, B, e, h1, h2, d, l1, l2, b, s => ⟨h1, h2, d, l1, l2, b, s⟩
  | C :: L, h, i + 1, A, B, e, h1, h2, d, l1, l2, b, ⟨k1, k2, d', m1, m2, c, s⟩ => by
    refine ⟨k1, both h1 k2, apart_both' ((d.mono_right m1).symm) d', m1.trans l2, both_le l1 (m2.trans l2), c, ?_⟩
    exact Sep.put i (by simpa using e) (d.mono_right m2) (le_both_left _ _) (le_both_right (d.mono_right m2)) b s
theorem Sep.append : ∀ {L M : List Atom} {h : Hp}, Sep (L ++ M) h → ∃ h1 h2, apart h1 h2 ∧ le h1 h ∧ le h2 h ∧ Sep L h1 ∧ Sep M h2
  | [], M, h, s => ⟨nothing, h, nothing_apart _, nothing_le _, le.refl _, trivial, s⟩
  | A :: L, M, h, ⟨h1, h2, d, l1, l2, a, s⟩ => by
    obtain ⟨k1, k2, d', m1, m2, sl, sm⟩ := Sep.append s
    exact ⟨both h1 k1, k2, apart_both (d.mono_right m2) d', both_le l1 (m1.trans l2), m2.trans l2, Sep.cons (d.mono_right m1) a sl, sm⟩
theorem Sep.join : ∀ {L M : List Atom} {h1 h2 : Hp}, apart h1 h2 → Sep L h1 → Sep M h2 → Sep (L ++ M) (both h1 h2)
  | [], M, h1, h2, d, _, s => s.up (le_both_right d)
  | A :: L, M, h1, h2, d, ⟨k1, k2, d', m1, m2, a, s⟩, sm =>
    ⟨k1, both k2 h2, apart_both' d' (d.mono_left m1), m1.trans (le_both_left _ _), both_le (m2.trans (le_both_left _ _)) (le_both_right d), a, Sep.join (d.mono_left m2) s sm⟩
/-- Some of a list, by their places, and the others. -/
def pick (L : List Atom) : List Nat → List Atom
  | [] => []
  | i :: r => (L[i]?).toList ++ pick L r
def dropAt (L : List Atom) (ix : List Nat) : List Atom := (L.zipIdx.filter fun p => !ix.contains p.2).map (·.1)
end Go.Sl
