/- The judgement 'Ent': from a frame of which some slots are known and a memory of atoms and facts, a step goes well; the rules for control. -/
import Derived.Test.YthoefkpbijcdeaaDoorSlA
set_option linter.unusedVariables false
set_option linter.unusedSimpArgs false
namespace Go.Sl
open Go Go.RowKit

/-! ### What is known of a frame -/
abbrev Env := List (Nat × Value)
def lk : Env → Nat → Option Value
  | [], _ => none
  | (j, v) :: r, i => cond (Nat.beq j i) (some v) (lk r i)
def ev (e : Env) : Operand → Option Value
  | .tmp t => lk e t
  | .const v => some v
  | .global g => some (.pointer (some ⟨g, 0, none⟩))
  | .func f => some (.func (.func f) #[] #[])
def Knows (e : Env) (a : Act) : Prop := ∀ i v, lk e i = some v → a.tmps[i]? = some v
theorem Knows.eval {e : Env} {a : Act} (k : Knows e a) {x : Operand} {v : Value} (h : ev e x = some v) : a.eval x = v := by
  cases x with
  | tmp t =>
    have := k t v h
    obtain ⟨hl, he⟩ := Array.getElem?_eq_some_iff.1 this
    simp [Act.eval, Array.getD_eq_getD_getElem?, this]
  | const c => exact Option.some.inj h
  | global g => exact Option.some.inj h
  | func f => exact Option.some.inj h
def pute (d : Option Tmp) (v : Value) (e : Env) : Env := match d with | some t => (t, v) :: e | none => e
theorem Knows.put {e : Env} {a : Act} (k : Knows e a) {d : Tmp} {v : Value} (hd : d < a.tmps.size) : Knows ((d, v) :: e) (a.put (some d) v) := by
  intro i u h
  unfold lk at h
  by_cases hi : d = i
  · subst hi
    have hb : Nat.beq d d = true := Nat.beq_refl d
    rw [hb] at h
    simp only [cond_true, Option.some.injEq] at h
    subst h
    simp [Act.put, hd]
  · have hb : Nat.beq d i = false := by
      cases hq : Nat.beq d i with
      | false => rfl
      | true => exact absurd (Nat.eq_of_beq_eq_true hq) hi
    rw [hb] at h
    simp only [cond_false] at h
    have := k i u h
    simp [Act.put, Array.getElem?_setIfInBounds_ne hi, this]
theorem Knows.sub {e e' : Env} {a : Act} (k : Knows e a) (s : ∀ i v, lk e' i = some v → lk e i = some v) : Knows e' a := fun i v h => k i v (s i v h)
/-- Slot for slot: what is known of e' is known of e. -/
inductive Cov (e : Env) : Env → Prop where
  | nil : Cov e []
  | cons {i : Nat} {v v' : Value} {r : Env} (h : lk e i = some v) (hv : v = v') (t : Cov e r) : Cov e ((i, v') :: r)
theorem Cov.sub {e e' : Env} (c : Cov e e') : ∀ i v, lk e' i = some v → lk e i = some v := by
  induction c with
  | nil => intro i v h; cases h
  | cons h hv t ih =>
    intro i v hi
    rename_i j u u' r
    unfold lk at hi
    cases hq : Nat.beq j i with
    | true => rw [hq] at hi; simp only [cond_true, Option.some.injEq] at hi; rw [← Nat.eq_of_beq_eq_true hq, h, hv, hi]
    | false => rw [hq] at hi; exact ih i v hi
theorem Cov.knows {e e' : Env} (c : Cov e e') {a : Act} (k : Knows e a) : Knows e' a := k.sub c.sub

/-! ### The memory of a call under way -/
/-- Of a call: the world in which it began, what belongs to others (R), what nobody writes (I0). -/
structure Ctx where
  w0 : World
  R : Hp
  I0 : Hp
structure Mem (C : Ctx) (L I : List Atom) (w : World) (h hI : Hp) : Prop where
  sep : Sep L h
  facts : Facts I hI
  base : le C.I0 hI
  d1 : apart h hI
  d2 : apart h C.R
  d3 : apart hI C.R
  l1 : le h (hpOf w)
  l2 : le hI (hpOf w)
  l3 : le C.R (hpOf w)
  os : w.os = C.w0.os
  tape : w.tape = C.w0.tape
  output : w.output = C.w0.output
def Own (C : Ctx) (L I : List Atom) (w : World) : Prop := ∃ h hI, Mem C L I w h hI
def Ent (n : Nat) (C : Ctx) (e : Env) (D : List Deferred) (L I : List Atom) (X : Act → World → Prop) : Prop :=
  ∀ a w, Knows e a → a.tmps.size = n → a.defers = D → Own C L I w → X a w

theorem Ent.mono {n : Nat} {C : Ctx} {e : Env} {D : List Deferred} {L I : List Atom} {X Y : Act → World → Prop} (h : Ent n C e D L I X) (hxy : ∀ a w, X a w → Y a w) : Ent n C e D L I Y :=
  fun a w k s d o => hxy a w (h a w k s d o)
theorem Ent.env {n : Nat} {C : Ctx} {e e' : Env} {D : List Deferred} {L I : List Atom} {X : Act → World → Prop} (c : Cov e e') (h : Ent n C e' D L I X) : Ent n C e D L I X :=
  fun a w k s d o => h a w (c.knows k) s d o

theorem Own.draw {C : Ctx} {L I : List Atom} {w : World} (o : Own C L I w) (m : Nat) : Own C L I { w with drawn := m } := by
  obtain ⟨h, hI, o⟩ := o
  exact ⟨h, hI, o.sep, o.facts, o.base, o.d1, o.d2, o.d3, o.l1, o.l2, o.l3, o.os, o.tape, o.output⟩

/-! ### Fences -/
def fen : Option Nat → Fence
  | none => Fence.wide
  | some l => Fence.wide.inRound l
theorem fen_fn (ro : Option Nat) (f : FuncId) : (fen ro).fn f := by cases ro <;> trivial
theorem fen_depth (ro : Option Nat) : (fen ro).depth = none := by cases ro <;> rfl
theorem fen_round (ro : Option Nat) : (fen ro).round = ro := by cases ro <;> rfl
theorem fen_depth' (ro : Option Nat) (n : Nat) : (fen ro).depth.isSome = true → 1 ≤ n := by rw [fen_depth]; intro h; cases h
theorem fen_calls {ro : Option Nat} {n : Nat} {P : Program} {f : FuncId} {args : Array Value} {w : World} {R : Ending → World → Prop} (h : Calls P f args w R) : CallsIn (fen ro) n P f args w R := by
  cases ro with
  | none => exact callsIn_wide.2 h
  | some l => exact CallsIn.inRound l (callsIn_wide.2 h)

section
variable {n : Nat} {C : Ctx} {e : Env} {D : List Deferred} {L I : List Atom} {P : Program} {ro : Option Nat} {Q : Exit → Act → World → Prop}

/-! ### Control -/
abbrev cw (ro : Option Nat) (P : Program) (c : Code) (Q : Exit → Act → World → Prop) : Act → World → Prop := Code.wpIn (fen ro) 0 P c Q
abbrev lw (ro : Option Nat) (P : Program) (ops : Array Oper) (Q : Exit → Act → World → Prop) (l : List Oper) : Act → World → Prop := wpListIn (fen ro) 0 P ops Q l
def ow (ro : Option Nat) (P : Program) (o : Oper) (Q : Exit → Act → World → Prop) (K : Act → World → Prop) : Act → World → Prop := fun a w => Oper.wpIn (fen ro) 0 P o a w K Q

theorem c_seq {x y : Code} (h : Ent n C e D L I (cw ro P x (Exit.then (cw ro P y Q) Q))) : Ent n C e D L I (cw ro P (.seq x y) Q) := h.mono fun _ _ => wpIn_seq
theorem c_skip (h : Ent n C e D L I (Q .normal)) : Ent n C e D L I (cw ro P .skip Q) := h.mono fun _ _ => wpIn_skip
theorem c_label {l : Nat} (h : Ent n C e D L I (Q .normal)) : Ent n C e D L I (cw ro P (.label l) Q) := h.mono fun _ _ => wpIn_label
theorem c_exit {id : Nat} (h : Ent n C e D L I (Q (.exit id))) : Ent n C e D L I (cw ro P (.exit id) Q) := h.mono fun _ _ => wpIn_exit
theorem c_goto {l : Nat} (h : Ent n C e D L I (Q (.goto l))) : Ent n C e D L I (cw ro P (.goto l) Q) := h.mono fun _ _ => wpIn_goto
theorem c_ret (h : Ent n C e D L I (Q .ret)) : Ent n C e D L I (cw ro P .ret Q) := h.mono fun _ _ => wpIn_ret
theorem c_block {id : Nat} {c : Code} (h : Ent n C e D L I (cw ro P c (Exit.inBlock id Q))) : Ent n C e D L I (cw ro P (.block id c) Q) := h.mono fun _ _ => wpIn_block
theorem c_true {c : Operand} {x y : Code} (hc : ev e c = some (.bool true)) (h : Ent n C e D L I (cw ro P x Q)) : Ent n C e D L I (cw ro P (.cond c x y) Q) :=
  fun a w k s d o => wpIn_cond_true (k.eval hc) (h a w k s d o)
theorem c_false {c : Operand} {x y : Code} (hc : ev e c = some (.bool false)) (h : Ent n C e D L I (cw ro P y Q)) : Ent n C e D L I (cw ro P (.cond c x y) Q) :=
  fun a w k s d o => wpIn_cond_false (k.eval hc) (h a w k s d o)
theorem c_dec {p : Prop} [hp : Decidable p] {c : Operand} {x y : Code} (hc : ev e c = some (.bool (decide p))) (ht : p → Ent n C e D L I (cw ro P x Q)) (hf : ¬ p → Ent n C e D L I (cw ro P y Q)) : Ent n C e D L I (cw ro P (.cond c x y) Q) :=
  fun a w k s d o => by
    have he := k.eval hc
    by_cases h : p
    · rw [decide_eq_true h] at he; exact wpIn_cond_true he (ht h a w k s d o)
    · rw [decide_eq_false h] at he; exact wpIn_cond_false he (hf h a w k s d o)
theorem c_bool {b : Bool} {c : Operand} {x y : Code} (hc : ev e c = some (.bool b)) (ht : b = true → Ent n C e D L I (cw ro P x Q)) (hf : b = false → Ent n C e D L I (cw ro P y Q)) : Ent n C e D L I (cw ro P (.cond c x y) Q) :=
  fun a w k s d o => by
    have he := k.eval hc
    cases b with
    | true => exact wpIn_cond_true he (ht rfl a w k s d o)
    | false => exact wpIn_cond_false he (hf rfl a w k s d o)
theorem c_region {id : Nat} {l : List Oper} (h : Ent n C e D L I (lw ro P l.toArray Q l)) : Ent n C e D L I (cw ro P (.region id l.toArray false) Q) := h.mono fun _ _ => wpIn_region_lit

/-- The end of a round: a state of the family, nearer to the end. -/
def Again {ι : Type} (n : Nat) (C : Ctx) (D : List Deferred) (ok : ι → Prop) (E : ι → Env) (LL II : ι → List Atom) (m : ι → Nat) (i : ι) : Act → World → Prop := fun a w => ∃ j, ok j ∧ m j < m i ∧ Knows (E j) a ∧ a.tmps.size = n ∧ a.defers = D ∧ Own C (LL j) (II j) w
/-- A loop: a family of states over 'ι'; each round ends in one that is nearer to the end. -/
theorem c_loop0 {c : Code} {ι : Type} (ok : ι → Prop) (E : ι → Env) (LL II : ι → List Atom) (m : ι → Nat) (i0 : ι) (h0 : ok i0) (hE : ∀ a, Knows e a → Knows (E i0) a) (hL : L = LL i0) (hI : ∀ φ ∈ II i0, φ ∈ I)
    (round : ∀ i, ok i → Ent n C (E i) D (LL i) (II i) (cw ro P c (Exit.then (Again n C D ok E LL II m i) Q))) :
    Ent n C e D L I (cw ro P (.loop c) Q) := by
  intro a w hk hs hd ho b k cs hro hb hr
  have key : ∀ q i a w, m i = q → ok i → Knows (E i) a → a.tmps.size = n → a.defers = D → Own C (LL i) (II i) w →
      ∃ x a' w', Q x a' w' ∧ ArrivesIn (Machine.fenced P (fen ro)) P (lone (b.atR a (.code c :: .inLoop c :: k)) cs w) b k cs x a' w' := by
    intro q
    induction q using Nat.strongRecOn with
    | _ q ih =>
      intro i a w hq hi hk hs hd ho
      obtain ⟨x, a₁, w₁, hx, harr⟩ := round i hi a w hk hs hd ho b (.inLoop c :: k) cs hro hb hr
      cases x with
      | normal =>
        obtain ⟨j, hj, hlt, hk', hs', hd', ho'⟩ := hx
        obtain ⟨x₂, a₂, w₂, hq₂, harr₂⟩ := ih (m j) (hq ▸ hlt) j a₁ w₁ rfl hj hk' hs' hd' ho'
        exact ⟨x₂, a₂, w₂, hq₂, .of_steps (StepsIn.trans harr (.one (fenced_calm hb hr rfl) stepR_inLoop)) harr₂⟩
      | exit id => exact ⟨_, a₁, w₁, hx, .pass (x := .inLoop c) rfl (fun _ _ => .inl (by simp)) harr⟩
      | goto l => exact ⟨_, a₁, w₁, hx, .pass (x := .inLoop c) rfl (fun _ _ => .inl (by simp)) harr⟩
      | ret => exact ⟨_, a₁, w₁, hx, .pass (x := .inLoop c) rfl (fun _ _ => .inl (by simp)) harr⟩
      | panic ch => exact ⟨_, a₁, w₁, hx, .pass (x := .inLoop c) rfl (fun _ _ => .inl (by simp)) harr⟩
      | outgrown => exact ⟨_, a₁, w₁, hx, .pass (x := .inLoop c) rfl (fun _ _ => .inl (by simp)) harr⟩
  obtain ⟨x, a', w', hq, harr⟩ := key _ i0 a w rfl h0 (hE a hk) hs hd (by
    obtain ⟨h, hI', o⟩ := ho
    subst hL
    exact ⟨h, hI', o.sep, o.facts.sub hI, o.base, o.d1, o.d2, o.d3, o.l1, o.l2, o.l3, o.os, o.tape, o.output⟩)
  exact ⟨x, a', w', hq, .of_steps (.one (fenced_calm hb hr rfl) stepR_loop) harr⟩
theorem c_loop {c : Code} {ι : Type} (ok : ι → Prop) (E : ι → Env) (LL II : ι → List Atom) (m : ι → Nat) (i0 : ι) (h0 : ok i0) (hE : Cov e (E i0)) (hL : L = LL i0) (hI : ∀ φ ∈ II i0, φ ∈ I)
    (round : ∀ i, ok i → Ent n C (E i) D (LL i) (II i) (cw ro P c (Exit.then (Again n C D ok E LL II m i) Q))) :
    Ent n C e D L I (cw ro P (.loop c) Q) := c_loop0 ok E LL II m i0 h0 (fun _ => hE.knows) hL hI round
/-- The end of a round: which state of the family it is. -/
theorem c_again {ι : Type} {ok : ι → Prop} {E : ι → Env} {LL II : ι → List Atom} {m : ι → Nat} {i : ι} (j : ι) (hj : ok j) (hm : m j < m i) (hE : Cov e (E j)) (hL : L = LL j) (hI : ∀ φ ∈ II j, φ ∈ I) :
    Ent n C e D L I (Again n C D ok E LL II m i) := by
  intro a w k s d o
  refine ⟨j, hj, hm, hE.knows k, s, d, ?_⟩
  obtain ⟨h, hI', o⟩ := o
  subst hL
  exact ⟨h, hI', o.sep, o.facts.sub hI, o.base, o.d1, o.d2, o.d3, o.l1, o.l2, o.l3, o.os, o.tape, o.output⟩

/-! ### Operations one after the other -/
theorem s_nil {ops : Array Oper} (h : Ent n C e D L I (Q .normal)) : Ent n C e D L I (lw ro P ops Q []) := h.mono fun _ _ => wpListIn_nil
theorem st {ops : Array Oper} {o : Oper} {rest : List Oper} (hg : o.guard = none) (h : Ent n C e D L I (ow ro P o Q (lw ro P ops Q rest))) : Ent n C e D L I (lw ro P ops Q (o :: rest)) :=
  h.mono fun a w hh => by
    show wpListIn _ _ _ _ _ (o :: rest) a w
    unfold wpListIn
    rw [if_pos (by simp [Region.wanted, hg])]
    exact hh
theorem yielded_of {ops : Array Oper} {j : Nat} {t : Tmp} {b : Bool} {a : Act} (ht : (ops[j]?).bind (·.dst) = some t) (k : Knows e a) (hv : lk e t = some (.bool b)) : yielded ops a.tmps j = some b := by
  unfold yielded
  rw [ht]
  simp only [Option.bind_some, k t _ hv]
theorem st_on {ops : Array Oper} {o : Oper} {rest : List Oper} {j : Nat} {b : Bool} (t : Tmp) (hg : o.guard = some (j, b)) (ht : (ops[j]?).bind (·.dst) = some t) (hv : lk e t = some (.bool b)) (h : Ent n C e D L I (ow ro P o Q (lw ro P ops Q rest))) : Ent n C e D L I (lw ro P ops Q (o :: rest)) :=
  fun a w k s d ho => by
    show wpListIn _ _ _ _ _ (o :: rest) a w
    unfold wpListIn
    rw [if_pos (by simp [Region.wanted, hg, yielded_of ht k hv])]
    exact h a w k s d ho
theorem st_off {ops : Array Oper} {o : Oper} {rest : List Oper} {j : Nat} {b c : Bool} {dt : Tmp} (t : Tmp) (hg : o.guard = some (j, b)) (ht : (ops[j]?).bind (·.dst) = some t) (hv : lk e t = some (.bool c)) (hne : (c == b) = false) (hdst : o.dst = some dt) (hd : Nat.blt dt n = true)
    (h : Ent n C ((dt, undef) :: e) D L I (lw ro P ops Q rest)) : Ent n C e D L I (lw ro P ops Q (o :: rest)) :=
  fun a w k s d ho => by
    show wpListIn _ _ _ _ _ (o :: rest) a w
    unfold wpListIn
    have hne' : c ≠ b := by intro h; rw [h] at hne; simp at hne
    rw [if_neg (by simp [Region.wanted, hg, yielded_of ht k hv, hne'])]
    refine ⟨fun f _ => fen_fn ro f, ?_⟩
    have hlt : dt < a.tmps.size := by rw [s]; simpa using hd
    rw [hdst]
    exact h _ w (k.put hlt) (by simp [Act.put, s]) (by simpa [Act.put] using d) ho
/-- The same of an operation without a destination. -/
theorem st_off' {ops : Array Oper} {o : Oper} {rest : List Oper} {j : Nat} {b c : Bool} (t : Tmp) (hg : o.guard = some (j, b)) (ht : (ops[j]?).bind (·.dst) = some t) (hv : lk e t = some (.bool c)) (hne : (c == b) = false) (hdst : o.dst = none)
    (h : Ent n C e D L I (lw ro P ops Q rest)) : Ent n C e D L I (lw ro P ops Q (o :: rest)) :=
  fun a w k s d ho => by
    show wpListIn _ _ _ _ _ (o :: rest) a w
    unfold wpListIn
    have hne' : c ≠ b := by intro h; rw [h] at hne; simp at hne
    rw [if_neg (by simp [Region.wanted, hg, yielded_of ht k hv, hne'])]
    refine ⟨fun f _ => fen_fn ro f, ?_⟩
    rw [hdst]
    exact h a w k s d ho

/-! ### One operation -/
theorem ow_value {o : Oper} {K : Act → World → Prop} {a : Act} {w w' : World} {v : Value} (hnd : ∀ c, o.op ≠ .defer c) (hr : (execOp a.eval o).run P w = .ok (.value v) w') (h : K (a.put o.dst v) w') : ow ro P o Q K a w := by
  refine ⟨fun f _ => fen_fn ro f, ?_⟩
  rw [Oper.semAt_eq _ _ _ hnd, hr]
  exact h
theorem ow_skip {o : Oper} {K : Act → World → Prop} {a : Act} {w w' : World} (hnd : ∀ c, o.op ≠ .defer c) (hr : (execOp a.eval o).run P w = .ok .skip w') (h : K (a.put o.dst undef) w') : ow ro P o Q K a w := by
  refine ⟨fun f _ => fen_fn ro f, ?_⟩
  rw [Oper.semAt_eq _ _ _ hnd, hr]
  exact h
theorem ow_enter {o : Oper} {K : Act → World → Prop} {a : Act} {w w' : World} {f : FuncId} {args : Array Value} {R : Value → World → Prop} (hnd : ∀ c, o.op ≠ .defer c) (hr : (execOp a.eval o).run P w = .ok (.enter f args) w')
    (hc : Calls P f args w' fun e w'' => ∃ v, e = .returned v ∧ R v w'') (h : ∀ v w'', R v w'' → K (a.put o.dst v) w'') : ow ro P o Q K a w := by
  refine ⟨fun f _ => fen_fn ro f, ?_⟩
  rw [Oper.semAt_eq _ _ _ hnd, hr]
  refine ⟨fen_depth' ro _, (fen_calls hc).mono ?_⟩
  rintro x w'' ⟨v, rfl, hR⟩
  exact h v w'' hR
/-- What puts a value and leaves the memory. -/
theorem ow_pure {o : Oper} {dt : Tmp} {v : Value} {K : Act → World → Prop} (hdst : o.dst = some dt) (hd : Nat.blt dt n = true) (hnd : ∀ c, o.op ≠ .defer c) (hr : ∀ a w, Knows e a → Own C L I w → (execOp a.eval o).run P w = .ok (.value v) w)
    (h : Ent n C ((dt, v) :: e) D L I K) : Ent n C e D L I (ow ro P o Q K) := fun a w k s d ho =>
  ow_value hnd (hr a w k ho) (by
    have hlt : dt < a.tmps.size := by rw [s]; simpa using hd
    rw [hdst]
    exact h _ w (k.put hlt) (by simp [Act.put, s]) (by simpa [Act.put] using d) ho)
/-- What puts a value and turns the memory. -/
theorem ow_turn {o : Oper} {dt : Tmp} {K : Act → World → Prop} (hdst : o.dst = some dt) (hd : Nat.blt dt n = true) (hnd : ∀ c, o.op ≠ .defer c)
    (hr : ∀ a w, Knows e a → Own C L I w → ∃ v w' L' I', (execOp a.eval o).run P w = .ok (.value v) w' ∧ Own C L' I' w' ∧ Ent n C ((dt, v) :: e) D L' I' K) : Ent n C e D L I (ow ro P o Q K) := fun a w k s d ho => by
  obtain ⟨v, w', L', I', h1, h2, h3⟩ := hr a w k ho
  refine ow_value hnd h1 ?_
  have hlt : dt < a.tmps.size := by rw [s]; simpa using hd
  rw [hdst]
  exact h3 _ w' (k.put hlt) (by simp [Act.put, s]) (by simpa [Act.put] using d) h2
end
end Go.Sl
