/- Separation-style words for walks: partial heaps, atoms, what a call keeps. Plain definitions and lemmas; nothing of the program. -/
import Derived.WalkKit
import Derived.RangeFuncLeaves
import Derived.RangeFuncCalls
import Derived.OwnWalkIn
import Derived.TacticsInMore
import Derived.KernelRfl
import Derived.Maps.AppendAt
set_option linter.unusedVariables false
set_option linter.unusedSimpArgs false
namespace Go.Sl
open Go Go.RowKit

/-! ### Partial heaps -/
abbrev Hp := Nat → Option Obj
def le (h k : Hp) : Prop := ∀ b o, h b = some o → k b = some o
def apart (h k : Hp) : Prop := ∀ b, h b = none ∨ k b = none
def both (h k : Hp) : Hp := fun b => (h b).or (k b)
def one (b : Nat) (o : Obj) : Hp := fun i => if i = b then some o else none
def nothing : Hp := fun _ => none
def hpOf (w : World) : Hp := fun b => w.heap[b]?

theorem le.refl (h : Hp) : le h h := fun _ _ e => e
theorem le.trans {a b c : Hp} (h : le a b) (k : le b c) : le a c := fun i o e => k i o (h i o e)
theorem nothing_le (h : Hp) : le nothing h := fun _ _ e => by cases e
theorem le_both_left (h k : Hp) : le h (both h k) := fun b o e => by simp [both, e]
theorem le_both_right {h k : Hp} (d : apart h k) : le k (both h k) := fun b o e => by
  rcases d b with hb | hb
  · simp [both, hb, e]
  · rw [hb] at e; cases e
theorem both_le {h k m : Hp} (a : le h m) (b : le k m) : le (both h k) m := fun i o e => by
  unfold both at e
  cases hh : h i with
  | some x => rw [hh] at e; simp at e; subst e; exact a i x hh
  | none => rw [hh] at e; simp at e; exact b i o e
theorem both_cases {h k : Hp} {b : Nat} {o : Obj} (e : both h k b = some o) : h b = some o ∨ k b = some o := by
  unfold both at e
  cases hh : h b with
  | some x => rw [hh] at e; simp at e; exact .inl (by rw [e])
  | none => rw [hh] at e; simp at e; exact .inr e
theorem both_none {h k : Hp} {b : Nat} : both h k b = none ↔ h b = none ∧ k b = none := by
  unfold both; cases h b <;> cases k b <;> simp
theorem apart.symm {h k : Hp} (d : apart h k) : apart k h := fun b => (d b).symm
theorem apart_nothing (h : Hp) : apart h nothing := fun _ => .inr rfl
theorem nothing_apart (h : Hp) : apart nothing h := fun _ => .inl rfl
theorem apart.mono_left {h h' k : Hp} (d : apart h k) (l : le h' h) : apart h' k := fun b => by
  rcases d b with e | e
  · left
    cases hh : h' b with
    | none => rfl
    | some o => rw [l b o hh] at e; cases e
  · exact .inr e
theorem apart.mono_right {h k k' : Hp} (d : apart h k) (l : le k' k) : apart h k' := (d.symm.mono_left l).symm
theorem apart.mono {h h' k k' : Hp} (d : apart h k) (l : le h' h) (l' : le k' k) : apart h' k' := (d.mono_left l).mono_right l'
theorem apart_both {h k m : Hp} (a : apart h m) (b : apart k m) : apart (both h k) m := fun i => by
  rcases b i with e | e
  · rcases a i with e' | e'
    · exact .inl (both_none.2 ⟨e', e⟩)
    · exact .inr e'
  · exact .inr e
theorem apart_both' {h k m : Hp} (a : apart m h) (b : apart m k) : apart m (both h k) := (apart_both a.symm b.symm).symm
theorem apart_one {h : Hp} {b : Nat} {o : Obj} (e : h b = none) : apart h (one b o) := fun i => by
  by_cases hi : i = b
  · subst hi; exact .inl e
  · exact .inr (by simp [one, hi])
theorem one_self (b : Nat) (o : Obj) : one b o b = some o := by simp [one]
theorem one_eq {b i : Nat} {o p : Obj} (e : one b o i = some p) : i = b ∧ p = o := by
  unfold one at e
  split at e
  · exact ⟨by assumption, by simpa using e.symm⟩
  · cases e
theorem one_le {h : Hp} {b : Nat} {o : Obj} (e : h b = some o) : le (one b o) h := fun i p he => by
  obtain ⟨rfl, rfl⟩ := one_eq he; exact e
/-- A heap without one block. -/
def without (h : Hp) (b : Nat) : Hp := fun i => if i = b then none else h i
theorem without_le (h : Hp) (b : Nat) : le (without h b) h := fun i o e => by
  unfold without at e; split at e
  · cases e
  · exact e

/-! ### Atoms and facts -/
abbrev Atom := Hp → Prop
/-- Parts that share no block; what is over belongs to nobody. -/
def Sep : List Atom → Hp → Prop
  | [], _ => True
  | A :: L, h => ∃ h1 h2, apart h1 h2 ∧ le h1 h ∧ le h2 h ∧ A h1 ∧ Sep L h2
/-- Facts on memory that nobody writes: they hold in whatever holds more. -/
def Facts (I : List Atom) (h : Hp) : Prop := ∀ φ ∈ I, ∀ k, le h k → φ k

theorem Sep.up : ∀ {L : List Atom} {h k : Hp}, Sep L h → le h k → Sep L k
  | [], _, _, _, _ => trivial
  | _ :: _, _, _, ⟨h1, h2, d, l1, l2, a, s⟩, l => ⟨h1, h2, d, l1.trans l, l2.trans l, a, s⟩
theorem Facts.up {I : List Atom} {h k : Hp} (f : Facts I h) (l : le h k) : Facts I k := fun φ hφ m hm => f φ hφ m (l.trans hm)
theorem Facts.nil (h : Hp) : Facts [] h := fun _ hφ => by cases hφ
theorem Facts.cons {φ : Atom} {I : List Atom} {h : Hp} (a : ∀ k, le h k → φ k) (f : Facts I h) : Facts (φ :: I) h := fun ψ hψ => by
  rcases List.mem_cons.1 hψ with rfl | hψ
  · exact a
  · exact f ψ hψ
theorem Facts.append {I J : List Atom} {h : Hp} (f : Facts I h) (g : Facts J h) : Facts (I ++ J) h := fun φ hφ => by
  rcases List.mem_append.1 hφ with e | e
  · exact f φ e
  · exact g φ e
theorem Facts.sub {I J : List Atom} {h : Hp} (f : Facts I h) (s : ∀ φ ∈ J, φ ∈ I) : Facts J h := fun φ hφ => f φ (s φ hφ)

/-- Out of several: the i-th, and the others. -/
theorem Sep.take : ∀ {L : List Atom} {h : Hp} (i : Nat) {A : Atom}, L[i]? = some A → Sep L h → ∃ h1 h2, apart h1 h2 ∧ le h1 h ∧ le h2 h ∧ A h1 ∧ Sep (L.eraseIdx i) h2
  | [], _, _, _, e, _ => by simp at e
  | B :: L, h, 0, A, e, ⟨h1, h2, d, l1, l2, a, s⟩ => by
    simp at e; subst e
    exact ⟨h1, h2, d, l1, l2, a, s⟩
  | B :: L, h, i + 1, A, e, ⟨h1, h2, d, l1, l2, a, s⟩ => by
    obtain ⟨k1, k2, d', m1, m2, a', s'⟩ := Sep.take i (by simpa using e) s
    refine ⟨k1, both h1 k2, apart_both' ((d.mono_right m1).symm) d', m1.trans l2, both_le l1 (m2.trans l2), a', ?_⟩
    exact ⟨h1, k2, d.mono_right m2, le_both_left _ _, le_both_right (d.mono_right m2), a, s'⟩
theorem Sep.cons {A : Atom} {L : List Atom} {h1 h2 : Hp} (d : apart h1 h2) (a : A h1) (s : Sep L h2) : Sep (A :: L) (both h1 h2) := ⟨h1, h2, d, le_both_left _ _, le_both_right d, a, s⟩
/-- Back in its place. -/
theorem Sep.put : ∀ {L : List Atom} {h : Hp} (i : Nat) {A B : Atom}, L[i]? = some A → ∀ {h1 h2 : Hp}, apart h1 h2 → le h1 h → le h2 h → B h1 → Sep (L.eraseIdx i) h2 → Sep (L.set i B) h
  | [], _, _, _, _, e, _, _, _, _, _, _, _ => by simp at e
  | C :: L, h, 0, A, B, e, h1, h2, d, l1, l2, b, s => ⟨h1, h2, d, l1, l2, b, s⟩
  | C :: L, h, i + 1, A, B, e, h1, h2, d, l1, l2, b, ⟨k1, k2, d', m1, m2, c, s⟩ => by
    refine ⟨k1, both h1 k2, apart_both' ((d.mono_right m1).symm) d', m1.trans l2, both_le l1 (m2.trans l2), c, ?_⟩
    exact Sep.put i (by simpa using e) (d.mono_right m2) (le_both_left _ _) (le_both_right (d.mono_right m2)) b s
theorem Sep.append : ∀ {L M : List Atom} {h : Hp}, Sep (L ++ M) h → ∃ h1 h2, apart h1 h2 ∧ le h1 h ∧ le h2 h ∧ Sep L h1 ∧ Sep M h2
  | [], M, h, s => ⟨nothing, h, nothing_apart _, nothing_le _, le.refl _, trivial, s⟩
  | A :: L, M, h, ⟨h1, h2, d, l1, l2, a, s⟩ => by
    obtain ⟨k1, k2, d', m1, m2, sl, sm⟩ := Sep.append s
    exact ⟨both h1 k1, k2, apart_both (d.mono_right m2) d', both_le l1 (m1.trans l2), m2.trans l2, Sep.cons (d.mono_right m1) a sl, sm⟩
theorem Sep.join : ∀ {L M : List Atom} {h1 h2 : Hp}, apart h1 h2 → Sep L h1 → Sep M h2 → Sep (L ++ M) (both h1 h2)
  | [], M, h1, h2, d, _, s => s.up (le_both_right d)
  | A :: L, M, h1, h2, d, ⟨k1, k2, d', m1, m2, a, s⟩, sm =>
    ⟨k1, both k2 h2, apart_both' d' (d.mono_left m1), m1.trans (le_both_left _ _), both_le (m2.trans (le_both_left _ _)) (le_both_right d), a, Sep.join (d.mono_left m2) s sm⟩
/-- Some of a list, by their places, and the others. -/
def pick (L : List Atom) : List Nat → List Atom
  | [] => []
  | i :: r => (L[i]?).toList ++ pick L r
def dropAt (L : List Atom) (ix : List Nat) : List Atom := (L.zipIdx.filter fun p => !ix.contains p.2).map (·.1)
end Go.Sl
/- The judgement 'Ent': from a frame of which some slots are known and a memory of atoms and facts, a step goes well; the rules for control. -/
set_option linter.unusedVariables false
set_option linter.unusedSimpArgs false
namespace Go.Sl
open Go Go.RowKit

/-! ### What is known of a frame -/
abbrev Env := List (Nat × Value)
def lk : Env → Nat → Option Value
  | [], _ => none
  | (j, v) :: r, i => cond (Nat.beq j i) (some v) (lk r i)
def ev (e : Env) : Operand → Option Value
  | .tmp t => lk e t
  | .const v => some v
  | .global g => some (.pointer (some ⟨g, 0, none⟩))
  | .func f => some (.func (.func f) #[] #[])
def Knows (e : Env) (a : Act) : Prop := ∀ i v, lk e i = some v → a.tmps[i]? = some v
theorem Knows.eval {e : Env} {a : Act} (k : Knows e a) {x : Operand} {v : Value} (h : ev e x = some v) : a.eval x = v := by
  cases x with
  | tmp t =>
    have := k t v h
    obtain ⟨hl, he⟩ := Array.getElem?_eq_some_iff.1 this
    simp [Act.eval, Array.getD_eq_getD_getElem?, this]
  | const c => exact Option.some.inj h
  | global g => exact Option.some.inj h
  | func f => exact Option.some.inj h
def pute (d : Option Tmp) (v : Value) (e : Env) : Env := match d with | some t => (t, v) :: e | none => e
theorem Knows.put {e : Env} {a : Act} (k : Knows e a) {d : Tmp} {v : Value} (hd : d < a.tmps.size) : Knows ((d, v) :: e) (a.put (some d) v) := by
  intro i u h
  unfold lk at h
  by_cases hi : d = i
  · subst hi
    have hb : Nat.beq d d = true := Nat.beq_refl d
    rw [hb] at h
    simp only [cond_true, Option.some.injEq] at h
    subst h
    simp [Act.put, hd]
  · have hb : Nat.beq d i = false := by
      cases hq : Nat.beq d i with
      | false => rfl
      | true => exact absurd (Nat.eq_of_beq_eq_true hq) hi
    rw [hb] at h
    simp only [cond_false] at h
    have := k i u h
    simp [Act.put, Array.getElem?_setIfInBounds_ne hi, this]
theorem Knows.sub {e e' : Env} {a : Act} (k : Knows e a) (s : ∀ i v, lk e' i = some v → lk e i = some v) : Knows e' a := fun i v h => k i v (s i v h)
/-- Slot for slot: what is known of e' is known of e. -/
inductive Cov (e : Env) : Env → Prop where
  | nil : Cov e []
  | cons {i : Nat} {v v' : Value} {r : Env} (h : lk e i = some v) (hv : v = v') (t : Cov e r) : Cov e ((i, v') :: r)
theorem Cov.sub {e e' : Env} (c : Cov e e') : ∀ i v, lk e' i = some v → lk e i = some v := by
  induction c with
  | nil => intro i v h; cases h
  | cons h hv t ih =>
    intro i v hi
    rename_i j u u' r
    unfold lk at hi
    cases hq : Nat.beq j i with
    | true => rw [hq] at hi; simp only [cond_true, Option.some.injEq] at hi; rw [← Nat.eq_of_beq_eq_true hq, h, hv, hi]
    | false => rw [hq] at hi; exact ih i v hi
theorem Cov.knows {e e' : Env} (c : Cov e e') {a : Act} (k : Knows e a) : Knows e' a := k.sub c.sub

/-! ### The memory of a call under way -/
/-- Of a call: the world in which it began, what belongs to others (R), what nobody writes (I0). -/
structure Ctx where
  w0 : World
  R : Hp
  I0 : Hp
structure Mem (C : Ctx) (L I : List Atom) (w : World) (h hI : Hp) : Prop where
  sep : Sep L h
  facts : Facts I hI
  base : le C.I0 hI
  d1 : apart h hI
  d2 : apart h C.R
  d3 : apart hI C.R
  l1 : le h (hpOf w)
  l2 : le hI (hpOf w)
  l3 : le C.R (hpOf w)
  os : w.os = C.w0.os
  tape : w.tape = C.w0.tape
  output : w.output = C.w0.output
def Own (C : Ctx) (L I : List Atom) (w : World) : Prop := ∃ h hI, Mem C L I w h hI
def Ent (n : Nat) (C : Ctx) (e : Env) (D : List Deferred) (L I : List Atom) (X : Act → World → Prop) : Prop :=
  ∀ a w, Knows e a → a.tmps.size = n → a.defers = D → Own C L I w → X a w

theorem Ent.mono {n : Nat} {C : Ctx} {e : Env} {D : List Deferred} {L I : List Atom} {X Y : Act → World → Prop} (h : Ent n C e D L I X) (hxy : ∀ a w, X a w → Y a w) : Ent n C e D L I Y :=
  fun a w k s d o => hxy a w (h a w k s d o)
theorem Ent.env {n : Nat} {C : Ctx} {e e' : Env} {D : List Deferred} {L I : List Atom} {X : Act → World → Prop} (c : Cov e e') (h : Ent n C e' D L I X) : Ent n C e D L I X :=
  fun a w k s d o => h a w (c.knows k) s d o

theorem Own.draw {C : Ctx} {L I : List Atom} {w : World} (o : Own C L I w) (m : Nat) : Own C L I { w with drawn := m } := by
  obtain ⟨h, hI, o⟩ := o
  exact ⟨h, hI, o.sep, o.facts, o.base, o.d1, o.d2, o.d3, o.l1, o.l2, o.l3, o.os, o.tape, o.output⟩

/-! ### Fences -/
def fen : Option Nat → Fence
  | none => Fence.wide
  | some l => Fence.wide.inRound l
theorem fen_fn (ro : Option Nat) (f : FuncId) : (fen ro).fn f := by cases ro <;> trivial
theorem fen_depth (ro : Option Nat) : (fen ro).depth = none := by cases ro <;> rfl
theorem fen_round (ro : Option Nat) : (fen ro).round = ro := by cases ro <;> rfl
theorem fen_depth' (ro : Option Nat) (n : Nat) : (fen ro).depth.isSome = true → 1 ≤ n := by rw [fen_depth]; intro h; cases h
theorem fen_calls {ro : Option Nat} {n : Nat} {P : Program} {f : FuncId} {args : Array Value} {w : World} {R : Ending → World → Prop} (h : Calls P f args w R) : CallsIn (fen ro) n P f args w R := by
  cases ro with
  | none => exact callsIn_wide.2 h
  | some l => exact CallsIn.inRound l (callsIn_wide.2 h)

section
variable {n : Nat} {C : Ctx} {e : Env} {D : List Deferred} {L I : List Atom} {P : Program} {ro : Option Nat} {Q : Exit → Act → World → Prop}

/-! ### Control -/
abbrev cw (ro : Option Nat) (P : Program) (c : Code) (Q : Exit → Act → World → Prop) : Act → World → Prop := Code.wpIn (fen ro) 0 P c Q
abbrev lw (ro : Option Nat) (P : Program) (ops : Array Oper) (Q : Exit → Act → World → Prop) (l : List Oper) : Act → World → Prop := wpListIn (fen ro) 0 P ops Q l
def ow (ro : Option Nat) (P : Program) (o : Oper) (Q : Exit → Act → World → Prop) (K : Act → World → Prop) : Act → World → Prop := fun a w => Oper.wpIn (fen ro) 0 P o a w K Q

theorem c_seq {x y : Code} (h : Ent n C e D L I (cw ro P x (Exit.then (cw ro P y Q) Q))) : Ent n C e D L I (cw ro P (.seq x y) Q) := h.mono fun _ _ => wpIn_seq
theorem c_skip (h : Ent n C e D L I (Q .normal)) : Ent n C e D L I (cw ro P .skip Q) := h.mono fun _ _ => wpIn_skip
theorem c_label {l : Nat} (h : Ent n C e D L I (Q .normal)) : Ent n C e D L I (cw ro P (.label l) Q) := h.mono fun _ _ => wpIn_label
theorem c_exit {id : Nat} (h : Ent n C e D L I (Q (.exit id))) : Ent n C e D L I (cw ro P (.exit id) Q) := h.mono fun _ _ => wpIn_exit
theorem c_goto {l : Nat} (h : Ent n C e D L I (Q (.goto l))) : Ent n C e D L I (cw ro P (.goto l) Q) := h.mono fun _ _ => wpIn_goto
theorem c_ret (h : Ent n C e D L I (Q .ret)) : Ent n C e D L I (cw ro P .ret Q) := h.mono fun _ _ => wpIn_ret
theorem c_block {id : Nat} {c : Code} (h : Ent n C e D L I (cw ro P c (Exit.inBlock id Q))) : Ent n C e D L I (cw ro P (.block id c) Q) := h.mono fun _ _ => wpIn_block
theorem c_true {c : Operand} {x y : Code} (hc : ev e c = some (.bool true)) (h : Ent n C e D L I (cw ro P x Q)) : Ent n C e D L I (cw ro P (.cond c x y) Q) :=
  fun a w k s d o => wpIn_cond_true (k.eval hc) (h a w k s d o)
theorem c_false {c : Operand} {x y : Code} (hc : ev e c = some (.bool false)) (h : Ent n C e D L I (cw ro P y Q)) : Ent n C e D L I (cw ro P (.cond c x y) Q) :=
  fun a w k s d o => wpIn_cond_false (k.eval hc) (h a w k s d o)
theorem c_dec {p : Prop} [hp : Decidable p] {c : Operand} {x y : Code} (hc : ev e c = some (.bool (decide p))) (ht : p → Ent n C e D L I (cw ro P x Q)) (hf : ¬ p → Ent n C e D L I (cw ro P y Q)) : Ent n C e D L I (cw ro P (.cond c x y) Q) :=
  fun a w k s d o => by
    have he := k.eval hc
    by_cases h : p
    · rw [decide_eq_true h] at he; exact wpIn_cond_true he (ht h a w k s d o)
    · rw [decide_eq_false h] at he; exact wpIn_cond_false he (hf h a w k s d o)
theorem c_bool {b : Bool} {c : Operand} {x y : Code} (hc : ev e c = some (.bool b)) (ht : b = true → Ent n C e D L I (cw ro P x Q)) (hf : b = false → Ent n C e D L I (cw ro P y Q)) : Ent n C e D L I (cw ro P (.cond c x y) Q) :=
  fun a w k s d o => by
    have he := k.eval hc
    cases b with
    | true => exact wpIn_cond_true he (ht rfl a w k s d o)
    | false => exact wpIn_cond_false he (hf rfl a w k s d o)
theorem c_region {id : Nat} {l : List Oper} (h : Ent n C e D L I (lw ro P l.toArray Q l)) : Ent n C e D L I (cw ro P (.region id l.toArray false) Q) := h.mono fun _ _ => wpIn_region_lit

/-- The end of a round: a state of the family, nearer to the end. -/
def Again {ι : Type} (n : Nat) (C : Ctx) (D : List Deferred) (ok : ι → Prop) (E : ι → Env) (LL II : ι → List Atom) (m : ι → Nat) (i : ι) : Act → World → Prop := fun a w => ∃ j, ok j ∧ m j < m i ∧ Knows (E j) a ∧ a.tmps.size = n ∧ a.defers = D ∧ Own C (LL j) (II j) w
/-- A loop: a family of states over 'ι'; each round ends in one that is nearer to the end. -/
theorem c_loop0 {c : Code} {ι : Type} (ok : ι → Prop) (E : ι → Env) (LL II : ι → List Atom) (m : ι → Nat) (i0 : ι) (h0 : ok i0) (hE : ∀ a, Knows e a → Knows (E i0) a) (hL : L = LL i0) (hI : ∀ φ ∈ II i0, φ ∈ I)
    (round : ∀ i, ok i → Ent n C (E i) D (LL i) (II i) (cw ro P c (Exit.then (Again n C D ok E LL II m i) Q))) :
    Ent n C e D L I (cw ro P (.loop c) Q) := by
  intro a w hk hs hd ho b k cs hro hb hr
  have key : ∀ q i a w, m i = q → ok i → Knows (E i) a → a.tmps.size = n → a.defers = D → Own C (LL i) (II i) w →
      ∃ x a' w', Q x a' w' ∧ ArrivesIn (Machine.fenced P (fen ro)) P (lone (b.atR a (.code c :: .inLoop c :: k)) cs w) b k cs x a' w' := by
    intro q
    induction q using Nat.strongRecOn with
    | _ q ih =>
      intro i a w hq hi hk hs hd ho
      obtain ⟨x, a₁, w₁, hx, harr⟩ := round i hi a w hk hs hd ho b (.inLoop c :: k) cs hro hb hr
      cases x with
      | normal =>
        obtain ⟨j, hj, hlt, hk', hs', hd', ho'⟩ := hx
        obtain ⟨x₂, a₂, w₂, hq₂, harr₂⟩ := ih (m j) (hq ▸ hlt) j a₁ w₁ rfl hj hk' hs' hd' ho'
        exact ⟨x₂, a₂, w₂, hq₂, .of_steps (StepsIn.trans harr (.one (fenced_calm hb hr rfl) stepR_inLoop)) harr₂⟩
      | exit id => exact ⟨_, a₁, w₁, hx, .pass (x := .inLoop c) rfl (fun _ _ => .inl (by simp)) harr⟩
      | goto l => exact ⟨_, a₁, w₁, hx, .pass (x := .inLoop c) rfl (fun _ _ => .inl (by simp)) harr⟩
      | ret => exact ⟨_, a₁, w₁, hx, .pass (x := .inLoop c) rfl (fun _ _ => .inl (by simp)) harr⟩
      | panic ch => exact ⟨_, a₁, w₁, hx, .pass (x := .inLoop c) rfl (fun _ _ => .inl (by simp)) harr⟩
      | outgrown => exact ⟨_, a₁, w₁, hx, .pass (x := .inLoop c) rfl (fun _ _ => .inl (by simp)) harr⟩
  obtain ⟨x, a', w', hq, harr⟩ := key _ i0 a w rfl h0 (hE a hk) hs hd (by
    obtain ⟨h, hI', o⟩ := ho
    subst hL
    exact ⟨h, hI', o.sep, o.facts.sub hI, o.base, o.d1, o.d2, o.d3, o.l1, o.l2, o.l3, o.os, o.tape, o.output⟩)
  exact ⟨x, a', w', hq, .of_steps (.one (fenced_calm hb hr rfl) stepR_loop) harr⟩
theorem c_loop {c : Code} {ι : Type} (ok : ι → Prop) (E : ι → Env) (LL II : ι → List Atom) (m : ι → Nat) (i0 : ι) (h0 : ok i0) (hE : Cov e (E i0)) (hL : L = LL i0) (hI : ∀ φ ∈ II i0, φ ∈ I)
    (round : ∀ i, ok i → Ent n C (E i) D (LL i) (II i) (cw ro P c (Exit.then (Again n C D ok E LL II m i) Q))) :
    Ent n C e D L I (cw ro P (.loop c) Q) := c_loop0 ok E LL II m i0 h0 (fun _ => hE.knows) hL hI round
/-- The end of a round: which state of the family it is. -/
theorem c_again {ι : Type} {ok : ι → Prop} {E : ι → Env} {LL II : ι → List Atom} {m : ι → Nat} {i : ι} (j : ι) (hj : ok j) (hm : m j < m i) (hE : Cov e (E j)) (hL : L = LL j) (hI : ∀ φ ∈ II j, φ ∈ I) :
    Ent n C e D L I (Again n C D ok E LL II m i) := by
  intro a w k s d o
  refine ⟨j, hj, hm, hE.knows k, s, d, ?_⟩
  obtain ⟨h, hI', o⟩ := o
  subst hL
  exact ⟨h, hI', o.sep, o.facts.sub hI, o.base, o.d1, o.d2, o.d3, o.l1, o.l2, o.l3, o.os, o.tape, o.output⟩

/-! ### Operations one after the other -/
theorem s_nil {ops : Array Oper} (h : Ent n C e D L I (Q .normal)) : Ent n C e D L I (lw ro P ops Q []) := h.mono fun _ _ => wpListIn_nil
theorem st {ops : Array Oper} {o : Oper} {rest : List Oper} (hg : o.guard = none) (h : Ent n C e D L I (ow ro P o Q (lw ro P ops Q rest))) : Ent n C e D L I (lw ro P ops Q (o :: rest)) :=
  h.mono fun a w hh => by
    show wpListIn _ _ _ _ _ (o :: rest) a w
    unfold wpListIn
    rw [if_pos (by simp [Region.wanted, hg])]
    exact hh
theorem yielded_of {ops : Array Oper} {j : Nat} {t : Tmp} {b : Bool} {a : Act} (ht : (ops[j]?).bind (·.dst) = some t) (k : Knows e a) (hv : lk e t = some (.bool b)) : yielded ops a.tmps j = some b := by
  unfold yielded
  rw [ht]
  simp only [Option.bind_some, k t _ hv]
theorem st_on {ops : Array Oper} {o : Oper} {rest : List Oper} {j : Nat} {b : Bool} (t : Tmp) (hg : o.guard = some (j, b)) (ht : (ops[j]?).bind (·.dst) = some t) (hv : lk e t = some (.bool b)) (h : Ent n C e D L I (ow ro P o Q (lw ro P ops Q rest))) : Ent n C e D L I (lw ro P ops Q (o :: rest)) :=
  fun a w k s d ho => by
    show wpListIn _ _ _ _ _ (o :: rest) a w
    unfold wpListIn
    rw [if_pos (by simp [Region.wanted, hg, yielded_of ht k hv])]
    exact h a w k s d ho
theorem st_off {ops : Array Oper} {o : Oper} {rest : List Oper} {j : Nat} {b c : Bool} {dt : Tmp} (t : Tmp) (hg : o.guard = some (j, b)) (ht : (ops[j]?).bind (·.dst) = some t) (hv : lk e t = some (.bool c)) (hne : (c == b) = false) (hdst : o.dst = some dt) (hd : Nat.blt dt n = true)
    (h : Ent n C ((dt, undef) :: e) D L I (lw ro P ops Q rest)) : Ent n C e D L I (lw ro P ops Q (o :: rest)) :=
  fun a w k s d ho => by
    show wpListIn _ _ _ _ _ (o :: rest) a w
    unfold wpListIn
    have hne' : c ≠ b := by intro h; rw [h] at hne; simp at hne
    rw [if_neg (by simp [Region.wanted, hg, yielded_of ht k hv, hne'])]
    refine ⟨fun f _ => fen_fn ro f, ?_⟩
    have hlt : dt < a.tmps.size := by rw [s]; simpa using hd
    rw [hdst]
    exact h _ w (k.put hlt) (by simp [Act.put, s]) (by simpa [Act.put] using d) ho
/-- The same of an operation without a destination. -/
theorem st_off' {ops : Array Oper} {o : Oper} {rest : List Oper} {j : Nat} {b c : Bool} (t : Tmp) (hg : o.guard = some (j, b)) (ht : (ops[j]?).bind (·.dst) = some t) (hv : lk e t = some (.bool c)) (hne : (c == b) = false) (hdst : o.dst = none)
    (h : Ent n C e D L I (lw ro P ops Q rest)) : Ent n C e D L I (lw ro P ops Q (o :: rest)) :=
  fun a w k s d ho => by
    show wpListIn _ _ _ _ _ (o :: rest) a w
    unfold wpListIn
    have hne' : c ≠ b := by intro h; rw [h] at hne; simp at hne
    rw [if_neg (by simp [Region.wanted, hg, yielded_of ht k hv, hne'])]
    refine ⟨fun f _ => fen_fn ro f, ?_⟩
    rw [hdst]
    exact h a w k s d ho

/-! ### One operation -/
theorem ow_value {o : Oper} {K : Act → World → Prop} {a : Act} {w w' : World} {v : Value} (hnd : ∀ c, o.op ≠ .defer c) (hr : (execOp a.eval o).run P w = .ok (.value v) w') (h : K (a.put o.dst v) w') : ow ro P o Q K a w := by
  refine ⟨fun f _ => fen_fn ro f, ?_⟩
  rw [Oper.semAt_eq _ _ _ hnd, hr]
  exact h
theorem ow_skip {o : Oper} {K : Act → World → Prop} {a : Act} {w w' : World} (hnd : ∀ c, o.op ≠ .defer c) (hr : (execOp a.eval o).run P w = .ok .skip w') (h : K (a.put o.dst undef) w') : ow ro P o Q K a w := by
  refine ⟨fun f _ => fen_fn ro f, ?_⟩
  rw [Oper.semAt_eq _ _ _ hnd, hr]
  exact h
theorem ow_enter {o : Oper} {K : Act → World → Prop} {a : Act} {w w' : World} {f : FuncId} {args : Array Value} {R : Value → World → Prop} (hnd : ∀ c, o.op ≠ .defer c) (hr : (execOp a.eval o).run P w = .ok (.enter f args) w')
    (hc : Calls P f args w' fun e w'' => ∃ v, e = .returned v ∧ R v w'') (h : ∀ v w'', R v w'' → K (a.put o.dst v) w'') : ow ro P o Q K a w := by
  refine ⟨fun f _ => fen_fn ro f, ?_⟩
  rw [Oper.semAt_eq _ _ _ hnd, hr]
  refine ⟨fen_depth' ro _, (fen_calls hc).mono ?_⟩
  rintro x w'' ⟨v, rfl, hR⟩
  exact h v w'' hR
/-- What puts a value and leaves the memory. -/
theorem ow_pure {o : Oper} {dt : Tmp} {v : Value} {K : Act → World → Prop} (hdst : o.dst = some dt) (hd : Nat.blt dt n = true) (hnd : ∀ c, o.op ≠ .defer c) (hr : ∀ a w, Knows e a → Own C L I w → (execOp a.eval o).run P w = .ok (.value v) w)
    (h : Ent n C ((dt, v) :: e) D L I K) : Ent n C e D L I (ow ro P o Q K) := fun a w k s d ho =>
  ow_value hnd (hr a w k ho) (by
    have hlt : dt < a.tmps.size := by rw [s]; simpa using hd
    rw [hdst]
    exact h _ w (k.put hlt) (by simp [Act.put, s]) (by simpa [Act.put] using d) ho)
/-- What puts a value and turns the memory. -/
theorem ow_turn {o : Oper} {dt : Tmp} {K : Act → World → Prop} (hdst : o.dst = some dt) (hd : Nat.blt dt n = true) (hnd : ∀ c, o.op ≠ .defer c)
    (hr : ∀ a w, Knows e a → Own C L I w → ∃ v w' L' I', (execOp a.eval o).run P w = .ok (.value v) w' ∧ Own C L' I' w' ∧ Ent n C ((dt, v) :: e) D L' I' K) : Ent n C e D L I (ow ro P o Q K) := fun a w k s d ho => by
  obtain ⟨v, w', L', I', h1, h2, h3⟩ := hr a w k ho
  refine ow_value hnd h1 ?_
  have hlt : dt < a.tmps.size := by rw [s]; simpa using hd
  rw [hdst]
  exact h3 _ w' (k.put hlt) (by simp [Act.put, s]) (by simpa [Act.put] using d) h2
end
end Go.Sl
/- The rules for single operations. -/
set_option linter.unusedVariables false
set_option linter.unusedSimpArgs false
namespace Go.Sl
open Go Go.RowKit

/-- A block of cells. -/
def pt (b : Nat) (cs : List Value) (T : TypeId) : Atom := fun h => h b = some (.cells cs.toArray T (0, 0))
/-- A block of whatever kind. -/
def ob (b : Nat) (o : Obj) : Atom := fun h => h b = some o

def rho (e : Env) (x : Operand) : Value := (ev e x).getD undef
def known (e : Env) (o : Oper) : Bool := o.op.operands.toList.all fun x => (ev e x).isSome
theorem exec_rho {e : Env} {a : Act} {o : Oper} (k : Knows e a) (hs : ∀ cs b, o.op ≠ .select cs b) (hk : known e o = true) : execOp a.eval o = execOp (rho e) o := by
  refine execOp_congr o hs (fun x hx => ?_)
  have h1 : (ev e x).isSome = true := by
    unfold known at hk
    rw [List.all_eq_true] at hk
    exact hk x (by simpa using hx)
  obtain ⟨v, hv⟩ := Option.isSome_iff_exists.1 h1
  rw [k.eval hv]
  simp [rho, hv]
def plainOp : Op → Bool
  | .defer _ | .select _ _ => false
  | _ => true

section
variable {n : Nat} {C : Ctx} {e : Env} {D : List Deferred} {L I : List Atom} {P : Program} {ro : Option Nat} {Q : Exit → Act → World → Prop} {K : Act → World → Prop}

theorem plain_nd {o : Oper} (hp : plainOp o.op = true) : (∀ c, o.op ≠ .defer c) ∧ ∀ cs b, o.op ≠ .select cs b := by
  refine ⟨fun c h => ?_, fun cs b h => ?_⟩ <;> rw [h] at hp <;> cases hp

/-- An operation on what is known, reckoned by the kernel. -/
theorem o_k {o : Oper} {dt : Tmp} (v : Value) (hdst : o.dst = some dt) (hd : Nat.blt dt n = true) (hp : plainOp o.op = true) (hk : known e o = true) (hr : ∀ w, (execOp (rho e) o).run P w = .ok (.value v) w)
    (h : Ent n C ((dt, v) :: e) D L I K) : Ent n C e D L I (ow ro P o Q K) :=
  ow_pure hdst hd (plain_nd hp).1 (fun a w k _ => by rw [exec_rho k (plain_nd hp).2 hk]; exact hr w) h
/-- A copy. -/
theorem o_mv {dt : Tmp} {x : Operand} {v : Value} {ty : TypeId} {pos : String} {aft : Array Edge} {g : Option (Nat × Bool)} (hx : ev e x = some v) (hd : Nat.blt dt n = true)
    (h : Ent n C ((dt, v) :: e) D L I K) : Ent n C e D L I (ow ro P ⟨some dt, .move x, ty, pos, aft, g⟩ Q K) :=
  ow_pure rfl hd (by simp) (fun a w k _ => by simp [execOp, k.eval hx]) h
theorem o_as {dt : Tmp} {x : Operand} {v : Value} {ty : TypeId} {pos : String} {aft : Array Edge} {g : Option (Nat × Bool)} (hx : ev e x = some v) (hd : Nat.blt dt n = true)
    (h : Ent n C ((dt, v) :: e) D L I K) : Ent n C e D L I (ow ro P ⟨some dt, .assign x, ty, pos, aft, g⟩ Q K) :=
  ow_pure rfl hd (by simp) (fun a w k _ => by simp [execOp, k.eval hx]) h
theorem o_pick {dt : Tmp} {c x y : Operand} {b : Bool} {v : Value} {ty : TypeId} {pos : String} {aft : Array Edge} {g : Option (Nat × Bool)} (hc : ev e c = some (.bool b)) (hx : ev e (cond b x y) = some v) (hd : Nat.blt dt n = true)
    (h : Ent n C ((dt, v) :: e) D L I K) : Ent n C e D L I (ow ro P ⟨some dt, .pick c x y, ty, pos, aft, g⟩ Q K) :=
  ow_pure rfl hd (by simp) (fun a w k _ => by
    have h1 := k.eval hc
    have h2 := k.eval hx
    cases b <;> simp_all [execOp, asBool]) h

/-! ### Memory -/
theorem alloc_own {w : World} (o : Own C L I w) (x : Obj) : Own C (ob w.heap.size x :: L) I { w with heap := w.heap.push x } := by
  obtain ⟨h, hI, o⟩ := o
  have hn : ∀ k : Hp, le k (hpOf w) → k w.heap.size = none := fun k hk => by
    cases hc : k w.heap.size with
    | none => rfl
    | some y => have := hk _ _ hc; simp [hpOf] at this
  have hle : ∀ k : Hp, le k (hpOf w) → le k (hpOf { w with heap := w.heap.push x }) := fun k hk b y hb => by
    have h1 := hk b y hb
    have hlt : b < w.heap.size := (Array.getElem?_eq_some_iff.1 h1).1
    show (w.heap.push x)[b]? = some y
    rw [Array.getElem?_push, if_neg (by omega)]
    exact h1
  have hnew : le (one w.heap.size x) (hpOf { w with heap := w.heap.push x }) := one_le (by show (w.heap.push x)[w.heap.size]? = some x; simp)
  refine ⟨both (one w.heap.size x) h, hI, ?_, o.facts, o.base, ?_, ?_, o.d3, both_le hnew (hle _ o.l1), hle _ o.l2, hle _ o.l3, o.os, o.tape, o.output⟩
  · exact Sep.cons (apart_one (hn _ o.l1)).symm (one_self _ _) o.sep
  · exact apart_both (apart_one (hn _ o.l2)).symm o.d1
  · exact apart_both (apart_one (hn _ o.l3)).symm o.d2
theorem Own.atom {w : World} (o : Own C L I w) (i : Nat) {A : Atom} (hi : L[i]? = some A) : ∃ h1, le h1 (hpOf w) ∧ A h1 := by
  obtain ⟨h, hI, o⟩ := o
  obtain ⟨h1, h2, _, l1, _, a, _⟩ := Sep.take i hi o.sep
  exact ⟨h1, l1.trans o.l1, a⟩
theorem Own.fact {w : World} (o : Own C L I w) {A : Atom} (hi : A ∈ I) : ∃ h1, le h1 (hpOf w) ∧ ∀ k, le h1 k → A k := by
  obtain ⟨h, hI, o⟩ := o
  exact ⟨hI, o.l2, o.facts A hi⟩
/-- A block is turned. -/
theorem write_own {w : World} (o : Own C L I w) (i : Nat) {b : Nat} {x y : Obj} (hi : L[i]? = some (ob b x)) : Own C (L.set i (ob b y)) I { w with heap := w.heap.setIfInBounds b y } ∧ w.heap[b]? = some x := by
  obtain ⟨h, hI, o⟩ := o
  obtain ⟨h1, h2, d, l1, l2, a, s⟩ := Sep.take i hi o.sep
  have hb : h1 b = some x := a
  have hw : w.heap[b]? = some x := o.l1 _ _ (l1 _ _ hb)
  have hlt : b < w.heap.size := (Array.getElem?_eq_some_iff.1 hw).1
  have hother : ∀ k : Hp, k b = none → le k (hpOf w) → le k (hpOf { w with heap := w.heap.setIfInBounds b y }) := fun k hkb hk j z hz => by
    have hj : b ≠ j := fun e => by rw [← e, hkb] at hz; cases hz
    show (w.heap.setIfInBounds b y)[j]? = some z
    rw [Array.getElem?_setIfInBounds_ne hj]
    exact hk j z hz
  have n2 : h2 b = none := by rcases d b with e | e; · rw [hb] at e; cases e
                              · exact e
  have nI : hI b = none := by rcases o.d1 b with e | e; · rw [l1 _ _ hb] at e; cases e
                              · exact e
  have nR : C.R b = none := by rcases o.d2 b with e | e; · rw [l1 _ _ hb] at e; cases e
                               · exact e
  have l1' : le (one b x) h := one_le (l1 _ _ hb)
  have hbI : apart (one b y) hI := (apart_one nI).symm
  have hbR : apart (one b y) C.R := (apart_one nR).symm
  refine ⟨⟨both (one b y) h2, hI, ?_, o.facts, o.base, ?_, ?_, o.d3, ?_, hother _ nI o.l2, hother _ nR o.l3, o.os, o.tape, o.output⟩, hw⟩
  · exact Sep.put i hi (apart_one n2).symm (le_both_left _ _) (le_both_right (apart_one n2).symm) (one_self b y) s
  · exact apart_both hbI (o.d1.mono_left l2)
  · exact apart_both hbR (o.d2.mono_left l2)
  · refine both_le (one_le ?_) (hother _ n2 (l2.trans o.l1))
    show (w.heap.setIfInBounds b y)[b]? = some y
    simp [hlt]

/-- What lays a new block and puts its address. -/
theorem o_new {o : Oper} {dt : Tmp} {x : Obj} {f : Nat → Value} (hdst : o.dst = some dt) (hd : Nat.blt dt n = true) (hp : plainOp o.op = true) (hk : known e o = true)
    (hr : ∀ w, (execOp (rho e) o).run P w = .ok (.value (f w.heap.size)) { w with heap := w.heap.push x })
    (h : ∀ b, Ent n C ((dt, f b) :: e) D (ob b x :: L) I K) : Ent n C e D L I (ow ro P o Q K) :=
  ow_turn hdst hd (plain_nd hp).1 fun a w k ho => by
    rw [exec_rho k (plain_nd hp).2 hk]
    exact ⟨_, _, _, _, hr w, alloc_own ho x, h _⟩
end
end Go.Sl
/- The rules for loads, stores, calls and returns. -/
set_option linter.unusedVariables false
set_option linter.unusedSimpArgs false
namespace Go.Sl
open Go Go.RowKit

theorem add_none (b o k : Nat) : (⟨b, o, none⟩ : Addr).add k = ⟨b, o + k, none⟩ := by
  unfold Addr.add; split
  · simp_all
  · rfl
theorem cell_of {w : World} {b : Nat} {cs : Array Value} {T : TypeId} {fr : Nat × Nat} (h : w.heap[b]? = some (.cells cs T fr)) (o : Nat) : w.cell? ⟨b, o, none⟩ = cs[o]? := by
  simp [World.cell?, h]
theorem frozen_of {w : World} {b : Nat} {cs : Array Value} {T : TypeId} (h : w.heap[b]? = some (.cells cs T (0, 0))) (o : Nat) : w.frozen? ⟨b, o, none⟩ = false := by
  simp [World.frozen?, h]

def aggD : TypeDesc → Bool
  | .struct _ => true
  | .array _ _ => true
  | _ => false
theorem run_isAgg {P : Program} {t : TypeId} {d : TypeDesc} (hu : P.underlying t = some d) (w : World) : (isAgg t).run P w = .ok (aggD d) w := by
  simp only [isAgg, Sem.run_bind, run_underlying hu, Result.andThen_ok]
  cases d <;> rfl
theorem run_load1 {P : Program} {t : TypeId} {d : TypeDesc} (hu : P.underlying t = some d) (ha : aggD d = false) {w : World} {p : Addr} {v : Value} (hc : w.cell? p = some v) :
    (Instr.loadAt t (.pointer (some p))).run P w = .ok v w := by
  simp only [Instr.loadAt, Instr.sureAddr, loadVar, Sem.run_bind, Sem.run_pure, Result.andThen_ok, run_isAgg hu, ha]
  simp [run_load, hc]
theorem run_loadn {P : Program} {t : TypeId} {d : TypeDesc} (hu : P.underlying t = some d) (ha : aggD d = true) {w : World} {p : Addr} (vs : List Value) (hsz : P.cellsOf t = vs.length) (hi : (P.info? t).isSome = true)
    (hc : ∀ j v, vs[j]? = some v → w.cell? (p.add j) = some v) :
    (Instr.loadAt t (.pointer (some p))).run P w = .ok (.agg vs.toArray) w := by
  obtain ⟨i, hi⟩ := Option.isSome_iff_exists.1 hi
  have hs : i.size = vs.length := by simpa [Program.cellsOf, hi] using hsz
  have h1 : (sizeOf t).run P w = .ok vs.length w := by simp [sizeOf, typeInfo, hi, hs]
  simp only [Instr.loadAt, Instr.sureAddr, loadVar, Sem.run_bind, Sem.run_pure, Result.andThen_ok, run_isAgg hu, ha, if_true, h1, run_loadCells_list (P := P) w p vs hc]
/-- Values laid over some cells. -/
def over (cs : List Value) : Nat → List Value → List Value
  | _, [] => cs
  | k, v :: vs => over (cs.set k v) (k + 1) vs
theorem over_length : ∀ (vs : List Value) (cs : List Value) (k : Nat), (over cs k vs).length = cs.length
  | [], _, _ => rfl
  | v :: vs, cs, k => by simp [over, over_length vs]
def oneAll (vs : List Value) : Bool := vs.all Value.oneCell'
theorem run_storeCells_pt {P : Program} {b T : Nat} : ∀ (vs : List Value) (cs : List Value) (w : World) (o i : Nat), w.heap[b]? = some (.cells cs.toArray T (0, 0)) → oneAll vs = true → o + i + vs.length ≤ cs.length →
    (storeCells ⟨b, o, none⟩ vs i).run P w = .ok () { w with heap := w.heap.setIfInBounds b (.cells (over cs (o + i) vs).toArray T (0, 0)) }
  | [], cs, w, o, i, hb, _, _ => by
    have : w.heap.setIfInBounds b (.cells cs.toArray T (0, 0)) = w.heap := by
      obtain ⟨hlt, he⟩ := Array.getElem?_eq_some_iff.1 hb
      rw [← he, Array.setIfInBounds_def, dif_pos hlt, Array.set_getElem_self]
    simp [storeCells, over, this]
  | v :: vs, cs, w, o, i, hb, h1, hl => by
    simp only [oneAll, List.all_cons, Bool.and_eq_true] at h1
    simp only [List.length_cons] at hl
    obtain ⟨hlt, he⟩ := Array.getElem?_eq_some_iff.1 hb
    have hcell : w.cell? ⟨b, o + i, none⟩ = some (cs[o + i]'(by omega)) := by rw [cell_of hb]; simp
    have hset : w.setCell ⟨b, o + i, none⟩ v = { w with heap := w.heap.setIfInBounds b (.cells (cs.set (o + i) v).toArray T (0, 0)) } := by
      simp only [World.setCell]
      congr 1
      apply Array.ext_getElem?
      intro j
      by_cases hj : b = j
      · subst hj
        rw [Array.getElem?_modify, Array.getElem?_setIfInBounds]
        simp [hlt, he]
      · rw [Array.getElem?_modify, Array.getElem?_setIfInBounds, if_neg hj, if_neg hj]
    have hstep : (store ⟨b, o + i, none⟩ v).run P w = .ok () (w.setCell ⟨b, o + i, none⟩ v) := by
      rw [run_store _ _ _ _ _ h1.1]
      simp [stored, hcell, frozen_of hb]
    have hb' : ({ w with heap := w.heap.setIfInBounds b (.cells (cs.set (o + i) v).toArray T (0, 0)) } : World).heap[b]? = some (.cells (cs.set (o + i) v).toArray T (0, 0)) := by
      show (w.heap.setIfInBounds b _)[b]? = _
      simp [hlt]
    have ih := run_storeCells_pt (P := P) vs (cs.set (o + i) v) { w with heap := w.heap.setIfInBounds b (.cells (cs.set (o + i) v).toArray T (0, 0)) } o (i + 1) hb' h1.2 (by simp; omega)
    simp only [storeCells, add_none, Sem.run_bind, hstep, Result.andThen_ok, hset]
    rw [show o + (i + 1) = o + i + 1 from by omega] at ih
    rw [ih]
    simp [over]
theorem run_store_pt {P : Program} {b T t : Nat} {cs vs : List Value} {w : World} {o : Nat} {v : Value} (hb : w.heap[b]? = some (.cells cs.toArray T (0, 0))) (hv : v.cells.toList = vs) (hsz : P.cellsOf t = vs.length) (hi : (P.info? t).isSome = true)
    (h1 : oneAll vs = true) (hl : o + vs.length ≤ cs.length) :
    (Instr.storeAt t (.pointer (some ⟨b, o, none⟩)) v).run P w = .ok () { w with heap := w.heap.setIfInBounds b (.cells (over cs o vs).toArray T (0, 0)) } := by
  obtain ⟨i, hi⟩ := Option.isSome_iff_exists.1 hi
  have hs : i.size = vs.length := by simpa [Program.cellsOf, hi] using hsz
  have hl2 : v.cells.size = vs.length := by rw [← hv, Array.length_toList]
  have h2 : (sizeOf t).run P w = .ok vs.length w := by simp [sizeOf, typeInfo, hi, hs]
  have := run_storeCells_pt (P := P) vs cs w o 0 hb h1 (by simpa using hl)
  simp only [Nat.add_zero] at this
  simp only [Instr.storeAt, Instr.sureAddr, storeVar, Sem.run_bind, Sem.run_pure, Result.andThen_ok, h2, hl2]
  simp [hv, this]

section
variable {n : Nat} {C : Ctx} {e : Env} {D : List Deferred} {L I : List Atom} {P : Program} {ro : Option Nat} {Q : Exit → Act → World → Prop} {K : Act → World → Prop}

/-- A load of one cell out of a block of the call's own. -/
theorem o_ld {dt : Tmp} {x : Operand} {t : TypeId} {ty : TypeId} {pos : String} {aft : Array Edge} {g : Option (Nat × Bool)} {b o T : Nat} {cs : List Value} {v : Value} {d : TypeDesc} (i : Nat)
    (hx : ev e x = some (.pointer (some ⟨b, o, none⟩))) (hi : L[i]? = some (pt b cs T)) (hv : cs[o]? = some v) (hu : P.underlying t = some d) (ha : aggD d = false) (hd : Nat.blt dt n = true)
    (h : Ent n C ((dt, v) :: e) D L I K) : Ent n C e D L I (ow ro P ⟨some dt, .load t x, ty, pos, aft, g⟩ Q K) :=
  ow_pure rfl hd (by simp) (fun a w k ho => by
    obtain ⟨h1, hl, hA⟩ := ho.atom i hi
    have hb : w.heap[b]? = some (.cells cs.toArray T (0, 0)) := hl _ _ hA
    have hc : w.cell? ⟨b, o, none⟩ = some v := by rw [cell_of hb]; simpa using hv
    have hr := run_load1 (P := P) hu ha hc
    simp only [execOp, k.eval hx, Sem.run_bind, hr, Result.andThen_ok, Sem.run_pure]) h
/-- A load of a struct or an array out of a block of the call's own. -/
theorem o_ldn {dt : Tmp} {x : Operand} {t : TypeId} {ty : TypeId} {pos : String} {aft : Array Edge} {g : Option (Nat × Bool)} {b o T : Nat} {cs : List Value} {d : TypeDesc} (i m : Nat)
    (hx : ev e x = some (.pointer (some ⟨b, o, none⟩))) (hi : L[i]? = some (pt b cs T)) {vs : List Value} (hv : (cs.drop o).take m = vs) (hm : Nat.beq vs.length m = true) (hu : P.underlying t = some d) (ha : aggD d = true) (hsz : P.cellsOf t = m) (hin : (P.info? t).isSome = true) (hd : Nat.blt dt n = true)
    (h : Ent n C ((dt, .agg vs.toArray) :: e) D L I K) : Ent n C e D L I (ow ro P ⟨some dt, .load t x, ty, pos, aft, g⟩ Q K) :=
  ow_pure rfl hd (by simp) (fun a w k ho => by
    obtain ⟨h1, hl, hA⟩ := ho.atom i hi
    have hb : w.heap[b]? = some (.cells cs.toArray T (0, 0)) := hl _ _ hA
    have hm' := Nat.eq_of_beq_eq_true hm
    have hr := run_loadn (P := P) hu ha (w := w) (p := ⟨b, o, none⟩) vs (by rw [hsz, hm']) hin (fun j v hj => by
      rw [add_none, cell_of hb]
      rw [← hv, List.getElem?_take] at hj
      split at hj
      · simpa using hj
      · cases hj)
    simp only [execOp, k.eval hx, Sem.run_bind, hr, Result.andThen_ok, Sem.run_pure]) h
/-- A store into a block of the call's own. -/
theorem o_st {x y : Operand} {t : TypeId} {ty : TypeId} {pos : String} {aft : Array Edge} {g : Option (Nat × Bool)} {b o T : Nat} {cs vs : List Value} {v : Value} (i : Nat)
    (hx : ev e x = some (.pointer (some ⟨b, o, none⟩))) (hy : ev e y = some v) (hi : L[i]? = some (pt b cs T)) (hv : v.cells.toList = vs) (h1 : oneAll vs = true) (hsz : P.cellsOf t = vs.length) (hin : (P.info? t).isSome = true) (hl : Nat.ble (o + vs.length) cs.length = true)
    (h : Ent n C e D (L.set i (pt b (over cs o vs) T)) I K) : Ent n C e D L I (ow ro P ⟨none, .store t x y, ty, pos, aft, g⟩ Q K) :=
  fun a w k s d ho => by
    obtain ⟨ho', hb⟩ := write_own (y := .cells (over cs o vs).toArray T (0, 0)) ho i hi
    have hr := run_store_pt (P := P) (t := t) hb hv hsz hin h1 (Nat.le_of_ble_eq_true hl)
    refine ow_skip (by simp) (w' := { w with heap := w.heap.setIfInBounds b (.cells (over cs o vs).toArray T (0, 0)) }) (by simp only [execOp, k.eval hx, k.eval hy, Sem.run_bind, hr, Result.andThen_ok, Sem.run_pure]) ?_
    exact h a _ k s d ho'
end
end Go.Sl
/- Contracts: what a call takes, gives and keeps; calls by contract; entry and return. -/
set_option linter.unusedVariables false
set_option linter.unusedSimpArgs false
namespace Go.Sl
open Go Go.RowKit

/-- A function with a body of its own. -/
def Goes (P : Program) (f : FuncId) : Prop := ∃ fn, P.funcs[f]? = some fn ∧ (fn.name == "runtime.NumGoroutine") = false ∧ fn.body.isNone = false
/-- From atoms L and facts I a call of f returns; what it returns, leaves and shows besides is of 'post'. -/
def Con (P : Program) (f : FuncId) (args : List Value) (L I : List Atom) (post : Value → List Atom → List Atom → Prop) : Prop :=
  Goes P f ∧ ∀ (C : Ctx) (w : World), Own C L I w → Calls P f args.toArray w fun e w' => ∃ v, e = .returned v ∧ ∃ L' I', post v L' I' ∧ Own C L' (I' ++ I) w'
theorem Con.mono {P : Program} {f : FuncId} {args : List Value} {L I : List Atom} {post post' : Value → List Atom → List Atom → Prop} (h : Con P f args L I post) (hp : ∀ v L' I', post v L' I' → post' v L' I') : Con P f args L I post' :=
  ⟨h.1, fun C w o => (h.2 C w o).mono fun e w' ⟨v, he, L', I', hq, ho⟩ => ⟨v, he, L', I', hp _ _ _ hq, ho⟩⟩

def pull : List Atom → List Nat → Option (List Atom × List Atom)
  | L, [] => some ([], L)
  | L, i :: r => match L[i]? with
    | none => none
    | some A => match pull (L.eraseIdx i) r with
      | none => none
      | some (M, R) => some (A :: M, R)
theorem Sep.pull : ∀ {ix : List Nat} {L M R : List Atom} {h : Hp}, Sl.pull L ix = some (M, R) → Sep L h → ∃ h1 h2, apart h1 h2 ∧ le h1 h ∧ le h2 h ∧ Sep M h1 ∧ Sep R h2
  | [], L, M, R, h, e, s => by
    simp only [Sl.pull, Option.some.injEq, Prod.mk.injEq] at e
    obtain ⟨rfl, rfl⟩ := e
    exact ⟨nothing, h, nothing_apart _, nothing_le _, le.refl _, trivial, s⟩
  | i :: r, L, M, R, h, e, s => by
    unfold Sl.pull at e
    cases hi : L[i]? with
    | none => rw [hi] at e; cases e
    | some A =>
      rw [hi] at e
      simp only at e
      cases hq : Sl.pull (L.eraseIdx i) r with
      | none => rw [hq] at e; cases e
      | some p =>
        rw [hq] at e
        obtain ⟨M', R'⟩ := p
        simp only [Option.some.injEq, Prod.mk.injEq] at e
        obtain ⟨rfl, rfl⟩ := e
        obtain ⟨h1, h2, d, l1, l2, a, s2⟩ := Sep.take i hi s
        obtain ⟨k1, k2, d', m1, m2, sm, sr⟩ := Sep.pull hq s2
        exact ⟨both h1 k1, k2, apart_both (d.mono_right m2) d', both_le l1 (m1.trans l2), m2.trans l2, Sep.cons (d.mono_right m1) a sm, sr⟩
def picks (L : List Atom) : List Nat → Option (List Atom)
  | [] => some []
  | i :: r => match L[i]? with
    | none => none
    | some A => (picks L r).map (A :: ·)
theorem picks_mem : ∀ {ix : List Nat} {L M : List Atom}, picks L ix = some M → ∀ φ ∈ M, φ ∈ L
  | [], L, M, e, φ, hφ => by simp only [picks, Option.some.injEq] at e; subst e; cases hφ
  | i :: r, L, M, e, φ, hφ => by
    unfold picks at e
    cases hi : L[i]? with
    | none => rw [hi] at e; cases e
    | some A =>
      rw [hi] at e
      obtain ⟨M', hM, rfl⟩ := Option.map_eq_some_iff.1 e
      rcases List.mem_cons.1 hφ with rfl | hφ
      · exact List.mem_of_getElem? hi
      · exact picks_mem hM φ hφ
def evs (e : Env) : List Operand → Option (List Value)
  | [] => some []
  | x :: r => match ev e x with
    | none => none
    | some v => match evs e r with
      | none => none
      | some vs => some (v :: vs)
theorem Knows.evals {e : Env} {a : Act} (k : Knows e a) : ∀ {xs : List Operand} {vs : List Value}, evs e xs = some vs → xs.map a.eval = vs
  | [], vs, h => by simp only [evs, Option.some.injEq] at h; simp [← h]
  | x :: r, vs, h => by
    unfold evs at h
    cases hx : ev e x with
    | none => rw [hx] at h; cases h
    | some v =>
      rw [hx] at h
      simp only at h
      cases hr : evs e r with
      | none => rw [hr] at h; cases h
      | some us =>
        rw [hr] at h
        simp only [Option.some.injEq] at h
        subst h
        simp [k.eval hx, Knows.evals k hr]

theorem run_callFunc {P : Program} {f : FuncId} (g : Goes P f) (args : Array Value) (w : World) : (callFunc f args).run P w = .ok (.enter f args) w := by
  obtain ⟨fn, h1, h2, h3⟩ := g
  simp only [callFunc, Sem.run_bind, run_program, Result.andThen_ok, h1, h2, h3, Bool.false_eq_true, if_false]
  rfl

section
variable {n : Nat} {C : Ctx} {e : Env} {D : List Deferred} {L I : List Atom} {P : Program} {ro : Option Nat} {Q : Exit → Act → World → Prop} {K : Act → World → Prop}

/-- Of the atoms L some (Lf) are handed to a call, which leaves L'; the others (Lr) stay. -/
theorem Own.handed {w : World} {Lf Lr If : List Atom} {ix : List Nat} (o : Own C L I w) (hp : pull L ix = some (Lf, Lr)) (hI : ∀ φ ∈ If, φ ∈ I) :
    ∃ C' : Ctx, Own C' Lf If w ∧ ∀ w' L' I', Own C' L' (I' ++ If) w' → Own C (L' ++ Lr) (I' ++ I) w' := by
  obtain ⟨h, hI0, o⟩ := o
  obtain ⟨h1, h2, d, l1, l2, s1, s2⟩ := Sep.pull hp o.sep
  have d2' : apart h2 C.R := o.d2.mono_left l2
  refine ⟨⟨C.w0, both h2 C.R, hI0⟩, ⟨h1, hI0, s1, o.facts.sub hI, le.refl _, o.d1.mono_left l1, apart_both' d (o.d2.mono_left l1), apart_both' (o.d1.mono_left l2).symm o.d3, l1.trans o.l1, o.l2, both_le (l2.trans o.l1) o.l3, o.os, o.tape, o.output⟩, ?_⟩
  rintro w' L' I' ⟨k, kI, m⟩
  have hb : le h2 (both h2 C.R) := le_both_left _ _
  have hR : le C.R (both h2 C.R) := le_both_right d2'
  refine ⟨both k h2, kI, Sep.join (m.d2.mono_right hb) m.sep s2, ?_, o.base.trans m.base, apart_both m.d1 (m.d3.mono_right hb).symm, apart_both (m.d2.mono_right hR) d2', m.d3.mono_right hR, both_le m.l1 (hb.trans m.l3), m.l2, hR.trans m.l3, m.os, m.tape, m.output⟩
  exact Facts.append (m.facts.sub fun φ hφ => List.mem_append_left _ hφ) (o.facts.up m.base)

/-- A call of a known function value by its contract. -/
theorem o_call {dt : Tmp} {fo : Operand} {xs : List Operand} {ats : Array TypeId} {ty : TypeId} {pos : String} {aft : Array Edge} {g : Option (Nat × Bool)} {f : FuncId} {fst cap vals args : List Value} {Lf Lr If : List Atom} {post : Value → List Atom → List Atom → Prop}
    (ix jx : List Nat) (spec : Con P f args Lf If post) (hx : ev e fo = some (.func (.func f) fst.toArray cap.toArray)) (hv : evs e xs = some vals) (ha : fst ++ vals ++ cap = args) (hp : pull L ix = some (Lf, Lr)) (hI : picks I jx = some If) (hd : Nat.blt dt n = true)
    (h : ∀ v L' I', post v L' I' → Ent n C ((dt, v) :: e) D (L' ++ Lr) (I' ++ I) K) : Ent n C e D L I (ow ro P ⟨some dt, .call ⟨.value fo, xs.toArray, ats⟩, ty, pos, aft, g⟩ Q K) :=
  fun a w k s d ho => by
    obtain ⟨C', o1, back⟩ := ho.handed hp (picks_mem hI)
    have hval := k.evals hv
    have hrun : (execOp a.eval ⟨some dt, .call ⟨.value fo, xs.toArray, ats⟩, ty, pos, aft, g⟩).run P w = .ok (.enter f args.toArray) w := by
      have h1 : (xs.toArray.map a.eval) = vals.toArray := by rw [List.map_toArray, hval]
      simp only [execOp, resolve, h1, k.eval hx, Deferred.ofValue, Sem.run_bind, Sem.run_pure, Result.andThen_ok, invoke]
      rw [← ha]
      simpa using run_callFunc (P := P) spec.1 (fst.toArray ++ vals.toArray ++ cap.toArray) w
    refine ow_enter (by simp) hrun (spec.2 C' w o1) ?_
    rintro v w'' ⟨L', I', hq, ho'⟩
    have hlt : dt < a.tmps.size := by rw [s]; simpa using hd
    exact h v L' I' hq _ _ (k.put hlt) (by simp [Act.put, s]) (by simpa [Act.put] using d) (back _ _ _ ho')

/-! ### The results -/
inductive Res (P : Program) (e : Env) (L : List Atom) : List ResultVar → List Value → Prop where
  | nil : Res P e L [] []
  | tmp {t : Tmp} {v : Value} {rs : List ResultVar} {vs : List Value} (h : lk e t = some v) (r : Res P e L rs vs) : Res P e L (.tmp t :: rs) (v :: vs)
  | agg {q : Tmp} {t b o T : Nat} {cs us : List Value} {d : TypeDesc} {rs : List ResultVar} {vs : List Value} (i m : Nat) (hx : lk e q = some (.pointer (some ⟨b, o, none⟩))) (hi : L[i]? = some (pt b cs T)) (hv : (cs.drop o).take m = us) (hm : Nat.beq us.length m = true)
      (hu : P.underlying t = some d) (ha : aggD d = true) (hsz : P.cellsOf t = m) (hin : (P.info? t).isSome = true) (r : Res P e L rs vs) : Res P e L (.cell q t :: rs) (.agg us.toArray :: vs)
  | one {q : Tmp} {t b o T : Nat} {cs : List Value} {v : Value} {d : TypeDesc} {rs : List ResultVar} {vs : List Value} (i : Nat) (hx : lk e q = some (.pointer (some ⟨b, o, none⟩))) (hi : L[i]? = some (pt b cs T)) (hv : cs[o]? = some v)
      (hu : P.underlying t = some d) (ha : aggD d = false) (r : Res P e L rs vs) : Res P e L (.cell q t :: rs) (v :: vs)
theorem run_loadVar_of {P : Program} {t : TypeId} {p : Addr} {w : World} {v : Value} (h : (Instr.loadAt t (.pointer (some p))).run P w = .ok v w) : (loadVar t p).run P w = .ok v w := by
  simpa [Instr.loadAt, Instr.sureAddr] using h
theorem Res.run {a : Act} {w : World} (k : Knows e a) (o : Own C L I w) {rs : List ResultVar} {vs : List Value} (r : Res P e L rs vs) (f : ResultVar → Sem Value) (hf : ∀ u, f (.tmp u) = pure (a.tmps.getD u undef)) (hc : ∀ q t, f (.cell q t) = (do loadVar t (← asAddr (a.tmps.getD q undef)))) :
    (rs.mapM f).run P w = .ok vs w := by
  have tmp : ∀ {t v}, lk e t = some v → a.tmps.getD t undef = v := fun {t v} h => by
    have := k t v h
    simp [Array.getD_eq_getD_getElem?, this]
  induction r with
  | nil => simp
  | tmp h r ih => simp [List.mapM_cons, hf, ih, tmp h]
  | agg i m hx hi hv hm hu ha hsz hin r ih =>
    rename_i q t b off T cs us d rs vs
    obtain ⟨h1, hl, hA⟩ := o.atom i hi
    have hb : w.heap[b]? = some (.cells cs.toArray T (0, 0)) := hl _ _ hA
    have hm' := Nat.eq_of_beq_eq_true hm
    have hr := run_loadVar_of (run_loadn (P := P) hu ha (w := w) (p := ⟨b, off, none⟩) us (by rw [hsz, hm']) hin (fun j v hj => by
      rw [add_none, cell_of hb]
      rw [← hv, List.getElem?_take] at hj
      split at hj
      · simpa using hj
      · cases hj))
    rw [List.mapM_cons, hc, tmp hx]
    simp [asAddr, hr, ih]
  | one i hx hi hv hu ha r ih =>
    rename_i q t b off T cs v d rs vs
    obtain ⟨h1, hl, hA⟩ := o.atom i hi
    have hb : w.heap[b]? = some (.cells cs.toArray T (0, 0)) := hl _ _ hA
    have hr := run_loadVar_of (run_load1 (P := P) hu ha (w := w) (p := ⟨b, off, none⟩) (v := v) (by rw [cell_of hb]; simpa using hv))
    rw [List.mapM_cons, hc, tmp hx]
    simp [asAddr, hr, ih]
def packed : List Value → Value
  | [v] => v
  | vs => .tuple vs.toArray
theorem results_of {a : Act} {w : World} (k : Knows e a) (o : Own C L I w) {fn : Func} {rs : List ResultVar} {vs : List Value} (hrs : fn.results = rs.toArray) (r : Res P e L rs vs) : (results fn a.tmps).run P w = .ok (packed vs) w := by
  unfold results
  rw [hrs, List.mapM_toArray]
  simp only [Sem.run_bind, Sem.run_map]
  rw [Res.run k o r _ (fun _ => rfl) (fun _ _ => rfl)]
  match vs with
  | [] => simp [packed]
  | [v] => simp [packed]
  | v :: u :: vs => simp [packed]

/-- What a function's body comes to. -/
def Ret (C : Ctx) (I : List Atom) (post : Value → List Atom → List Atom → Prop) : Ending → World → Prop := fun e w' => ∃ v, e = .returned v ∧ ∃ L' I', post v L' I' ∧ Own C L' (I' ++ I) w'
abbrev bq (P : Program) (fn : Func) (C : Ctx) (I : List Atom) (post : Value → List Atom → List Atom → Prop) : Exit → Act → World → Prop := bodyPostM Fence.wide 0 P fn (Ret C I post)

theorem Own.sub {w : World} {L' Lr I' : List Atom} {ix : List Nat} (o : Own C L I w) (hp : pull L ix = some (L', Lr)) (hI : ∀ φ ∈ I', φ ∈ I) : Own C L' I' w := by
  obtain ⟨h, hI0, o⟩ := o
  obtain ⟨h1, h2, d, l1, l2, s1, s2⟩ := Sep.pull hp o.sep
  exact ⟨h1, hI0, s1, o.facts.sub hI, o.base, o.d1.mono_left l1, o.d2.mono_left l1, o.d3, l1.trans o.l1, o.l2, o.l3, o.os, o.tape, o.output⟩

/-- The return of a function without deferred calls. -/
theorem c_fin {fn : Func} {rs : List ResultVar} {vs : List Value} {post : Value → List Atom → List Atom → Prop} {L' Lr I' I1 I0 : List Atom} (ix jx : List Nat) (hrs : fn.results = rs.toArray) (r : Res P e L rs vs) (hp : pull L ix = some (L', Lr)) (hI : picks I jx = some I1) (hI1 : I1 = I' ++ I0) (hq : post (packed vs) L' I') :
    Ent n C e [] L I (bq P fn C I0 post .ret) := by
  subst hI1
  intro a w k s d o
  show LeavesInM Fence.wide 0 P fn a.tmps (Ret C I0 post) a.defers .returning w
  rw [d]
  exact ⟨_, results_of k o hrs r, _, rfl, _, _, hq, o.sub hp (picks_mem hI)⟩
theorem c_fin_end {fn : Func} {rs : List ResultVar} {vs : List Value} {post : Value → List Atom → List Atom → Prop} {L' Lr I' I1 I0 : List Atom} (ix jx : List Nat) (hrs : fn.results = rs.toArray) (r : Res P e L rs vs) (hp : pull L ix = some (L', Lr)) (hI : picks I jx = some I1) (hI1 : I1 = I' ++ I0) (hq : post (packed vs) L' I') :
    Ent n C e [] L I (bq P fn C I0 post .normal) := c_fin ix jx hrs r hp hI hI1 hq

/-- The frame at the beginning. -/
def frame0 : List Value → Nat → Env
  | [], _ => []
  | v :: r, k => (k, v) :: frame0 r (k + 1)
theorem frame0_lk : ∀ (args : List Value) (k i : Nat) (v : Value), lk (frame0 args k) i = some v → k ≤ i ∧ args[i - k]? = some v
  | [], k, i, v, h => by cases h
  | u :: r, k, i, v, h => by
    unfold frame0 lk at h
    cases hq : Nat.beq k i with
    | true =>
      rw [hq] at h
      simp only [cond_true, Option.some.injEq] at h
      have := Nat.eq_of_beq_eq_true hq
      subst this
      simp [h]
    | false =>
      rw [hq] at h
      have := frame0_lk r (k + 1) i v h
      refine ⟨by omega, ?_⟩
      rw [show i - k = (i - (k + 1)) + 1 from by omega]
      simpa using this.2
/-- A contract from the function's body. -/
theorem fn_of {f : FuncId} {fn : Func} {c : Code} {args : List Value} {post : Value → List Atom → List Atom → Prop} {m : Nat} (hf : P.funcs[f]? = some fn) (hb : fn.body = some c) (hm : fn.ntmps = m) (hn : (fn.name == "runtime.NumGoroutine") = false) (hl : Nat.ble args.length m = true)
    (h : ∀ C, Ent m C (frame0 args 0) [] L I (cw none P c (bq P fn C I post))) : Con P f args L I post := by
  refine ⟨⟨fn, hf, hn, by rw [hb]; rfl⟩, fun C w o => ?_⟩
  have hl' := Nat.le_of_ble_eq_true hl
  refine callsIn_wide.1 (callsIn_of_wp_marks (F := Fence.wide) (n := 0) hf hb trivial ?_ rfl)
  refine h C _ w ?_ ?_ rfl o
  · intro i v hi
    have := (frame0_lk args 0 i v hi).2
    simp only [Nat.sub_zero] at this
    have hlt : i < args.length := (List.getElem?_eq_some_iff.1 this).1
    show (args.toArray ++ Array.replicate _ undef)[i]? = some v
    rw [Array.getElem?_append_left (by simpa using hlt)]
    simpa using this
  · simp; omega
end
end Go.Sl
