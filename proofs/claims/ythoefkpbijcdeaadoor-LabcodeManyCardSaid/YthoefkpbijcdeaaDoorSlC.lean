/- The rules for single operations. -/
import Derived.Test.YthoefkpbijcdeaaDoorSlB
set_option linter.unusedVariables false
set_option linter.unusedSimpArgs false
namespace Go.Sl
open Go Go.RowKit

/-- A block of cells. -/
def pt (b : Nat) (cs : List Value) (T : TypeId) : Atom := fun h => h b = some (.cells cs.toArray T (0, 0))
/-- A block of whatever kind. -/
def ob (b : Nat) (o : Obj) : Atom := fun h => h b = some o

def rho (e : Env) (x : Operand) : Value := (ev e x).getD undef
def known (e : Env) (o : Oper) : Bool := o.op.operands.toList.all fun x => (ev e x).isSome
theorem exec_rho {e : Env} {a : Act} {o : Oper} (k : Knows e a) (hs : ∀ cs b, o.op ≠ .select cs b) (hk : known e o = true) : execOp a.eval o = execOp (rho e) o := by
  refine execOp_congr o hs (fun x hx => ?_)
  have h1 : (ev e x).isSome = true := by
    unfold known at hk
    rw [List.all_eq_true] at hk
    exact hk x (by simpa using hx)
  obtain ⟨v, hv⟩ := Option.isSome_iff_exists.1 h1
  rw [k.eval hv]
  simp [rho, hv]
def plainOp : Op → Bool
  | .defer _ | .select _ _ => false
  | _ => true

section
variable {n : Nat} {C : Ctx} {e : Env} {D : List Deferred} {L I : List Atom} {P : Program} {ro : Option Nat} {Q : Exit → Act → World → Prop} {K : Act → World → Prop}

theorem plain_nd {o : Oper} (hp : plainOp o.op = true) : (∀ c, o.op ≠ .defer c) ∧ ∀ cs b, o.op ≠ .select cs b := by
  refine ⟨fun c h => ?_, fun cs b h => ?_⟩ <;> rw [h] at hp <;> cases hp

/-- An operation on what is known, reckoned by the kernel. -/
theorem o_k {o : Oper} {dt : Tmp} (v : Value) (hdst : o.dst = some dt) (hd : Nat.blt dt n = true) (hp : plainOp o.op = true) (hk : known e o = true) (hr : ∀ w, (execOp (rho e) o).run P w = .ok (.value v) w)
    (h : Ent n C ((dt, v) :: e) D L I K) : Ent n C e D L I (ow ro P o Q K) :=
  ow_pure hdst hd (plain_nd hp).1 (fun a w k _ => by rw [exec_rho k (plain_nd hp).2 hk]; exact hr w) h
/-- A copy. -/
theorem o_mv {dt : Tmp} {x : Operand} {v : Value} {ty : TypeId} {pos : String} {aft : Array Edge} {g : Option (Nat × Bool)} (hx : ev e x = some v) (hd : Nat.blt dt n = true)
    (h : Ent n C ((dt, v) :: e) D L I K) : Ent n C e D L I (ow ro P ⟨some dt, .move x, ty, pos, aft, g⟩ Q K) :=
  ow_pure rfl hd (by simp) (fun a w k _ => by simp [execOp, k.eval hx]) h
theorem o_as {dt : Tmp} {x : Operand} {v : Value} {ty : TypeId} {pos : String} {aft : Array Edge} {g : Option (Nat × Bool)} (hx : ev e x = some v) (hd : Nat.blt dt n = true)
    (h : Ent n C ((dt, v) :: e) D L I K) : Ent n C e D L I (ow ro P ⟨some dt, .assign x, ty, pos, aft, g⟩ Q K) :=
  ow_pure rfl hd (by simp) (fun a w k _ => by simp [execOp, k.eval hx]) h
theorem o_pick {dt : Tmp} {c x y : Operand} {b : Bool} {v : Value} {ty : TypeId} {pos : String} {aft : Array Edge} {g : Option (Nat × Bool)} (hc : ev e c = some (.bool b)) (hx : ev e (cond b x y) = some v) (hd : Nat.blt dt n = true)
    (h : Ent n C ((dt, v) :: e) D L I K) : Ent n C e D L I (ow ro P ⟨some dt, .pick c x y, ty, pos, aft, g⟩ Q K) :=
  ow_pure rfl hd (by simp) (fun a w k _ => by
    have h1 := k.eval hc
    have h2 := k.eval hx
    cases b <;> simp_all [execOp, asBool]) h

/-! ### Memory -/
theorem alloc_own {w : World} (o : Own C L I w) (x : Obj) : Own C (ob w.heap.size x :: L) I { w with heap := w.heap.push x } := by
  obtain ⟨h, hI, o⟩ := o
  have hn : ∀ k : Hp, le k (hpOf w) → k w.heap.size = none := fun k hk => by
    cases hc : k w.heap.size with
    | none => rfl
    | some y => have := hk _ _ hc; simp [hpOf] at this
  have hle : ∀ k : Hp, le k (hpOf w) → le k (hpOf { w with heap := w.heap.push x }) := fun k hk b y hb => by
    have h1 := hk b y hb
    have hlt : b < w.heap.size := (Array.getElem?_eq_some_iff.1 h1).1
    show (w.heap.push x)[b]? = some y
    rw [Array.getElem?_push, if_neg (by omega)]
    exact h1
  have hnew : le (one w.heap.size x) (hpOf { w with heap := w.heap.push x }) := one_le (by show (w.heap.push x)[w.heap.size]? = some x; simp)
  refine ⟨both (one w.heap.size x) h, hI, ?_, o.facts, o.base, ?_, ?_, o.d3, both_le hnew (hle _ o.l1), hle _ o.l2, hle _ o.l3, o.os, o.tape, o.output⟩
  · exact Sep.cons (apart_one (hn _ o.l1)).symm (one_self _ _) o.sep
  · exact apart_both (apart_one (hn _ o.l2)).symm o.d1
  · exact apart_both (apart_one (hn _ o.l3)).symm o.d2
theorem Own.atom {w : World} (o : Own C L I w) (i : Nat) {A : Atom} (hi : L[i]? = some A) : ∃ h1, le h1 (hpOf w) ∧ A h1 := by
  obtain ⟨h, hI, o⟩ := o
  obtain ⟨h1, h2, _, l1, _, a, _⟩ := Sep.take i hi o.sep
  exact ⟨h1, l1.trans o.l1, a⟩
theorem Own.fact {w : World} (o : Own C L I w) {A : Atom} (hi : A ∈ I) : ∃ h1, le h1 (hpOf w) ∧ ∀ k, le h1 k → A k := by
  obtain ⟨h, hI, o⟩ := o
  exact ⟨hI, o.l2, o.facts A hi⟩
/-- A block is turned. -/
theorem write_own {w : World} (o : Own C L I w) (i : Nat) {b : Nat} {x y : Obj} (hi : L[i]? = some (ob b x)) : Own C (L.set i (ob b y)) I { w with heap := w.heap.setIfInBounds b y } ∧ w.heap[b]? = some x := by
  obtain ⟨h, hI, o⟩ := o
  obtain ⟨h1, h2, d, l1, l2, a, s⟩ := Sep.take i hi o.sep
  have hb : h1 b = some x := a
  have hw : w.heap[b]? = some x := o.l1 _ _ (l1 _ _ hb)
  have hlt : b < w.heap.size := (Array.getElem?_eq_some_iff.1 hw).1
  have hother : ∀ k : Hp, k b = none → le k (hpOf w) → le k (hpOf { w with heap := w.heap.setIfInBounds b y }) := fun k hkb hk j z hz => by
    have hj : b ≠ j := fun e => by rw [← e, hkb] at hz; cases hz
    show (w.heap.setIfInBounds b y)[j]? = some z
    rw [Array.getElem?_setIfInBounds_ne hj]
    exact hk j z hz
  have n2 : h2 b = none := by rcases d b with e | e; · rw [hb] at e; cases e
                              · exact e
  have nI : hI b = none := by rcases o.d1 b with e | e; · rw [l1 _ _ hb] at e; cases e
                              · exact e
  have nR : C.R b = none := by rcases o.d2 b with e | e; · rw [l1 _ _ hb] at e; cases e
                               · exact e
  have l1' : le (one b x) h := one_le (l1 _ _ hb)
  have hbI : apart (one b y) hI := (apart_one nI).symm
  have hbR : apart (one b y) C.R := (apart_one nR).symm
  refine ⟨⟨both (one b y) h2, hI, ?_, o.facts, o.base, ?_, ?_, o.d3, ?_, hother _ nI o.l2, hother _ nR o.l3, o.os, o.tape, o.output⟩, hw⟩
  · exact Sep.put i hi (apart_one n2).symm (le_both_left _ _) (le_both_right (apart_one n2).symm) (one_self b y) s
  · exact apart_both hbI (o.d1.mono_left l2)
  · exact apart_both hbR (o.d2.mono_left l2)
  · refine both_le (one_le ?_) (hother _ n2 (l2.trans o.l1))
    show (w.heap.setIfInBounds b y)[b]? = some y
    simp [hlt]

/-- What lays a new block and puts its address. -/
theorem o_new {o : Oper} {dt : Tmp} {x : Obj} {f : Nat → Value} (hdst : o.dst = some dt) (hd : Nat.blt dt n = true) (hp : plainOp o.op = true) (hk : known e o = true)
    (hr : ∀ w, (execOp (rho e) o).run P w = .ok (.value (f w.heap.size)) { w with heap := w.heap.push x })
    (h : ∀ b, Ent n C ((dt, f b) :: e) D (ob b x :: L) I K) : Ent n C e D L I (ow ro P o Q K) :=
  ow_turn hdst hd (plain_nd hp).1 fun a w k ho => by
    rw [exec_rho k (plain_nd hp).2 hk]
    exact ⟨_, _, _, _, hr w, alloc_own ho x, h _⟩
end
end Go.Sl
