/- Regions whose order is left open. What reads may be taken first ('S' is kept till then); of what writes or calls each order is walked. -/
import Derived.Test.YtcnncdniibkjkaaGreatDoorSlA
import Derived.OrdersIn
import Derived.OrdersHeld
import Derived.IntWalk
import Derived.Maps.AppendAt
import Derived.Laws.MakeOwn
import Derived.Laws.CopyRow
import Derived.Laws.IdiomCopy
import Derived.RangeFuncSeq
set_option linter.unusedVariables false
set_option linter.unusedSimpArgs false
namespace Go.Sl
open Go Go.RowKit

/-- A region is left by its end alone. -/
def only (X : Act → World → Prop) : Exit → Act → World → Prop
  | .normal, a, w => X a w
  | _, _, _ => False
abbrev rdy (ops : Array Oper) (l : Array Bool) : List Nat := Region.ready .any ops l

/-- Operation d waits for operation i. -/
def waits (ops : Array Oper) (i : Nat) : Nat → Nat → Bool
  | 0, _ => false
  | k + 1, d => match ops[d]? with
    | some o => o.after.any fun e => Region.binds .any e && (e.on == i || waits ops i k e.on)
    | none => false
def shutB (ops : Array Oper) (l : Array Bool) : Bool :=
  (List.range ops.size).all fun j => !l.getD j false || match ops[j]? with
    | some o => o.after.all fun e => !Region.binds .any e || l.getD e.on false
    | none => true
def lastB (ops : Array Oper) (l : Array Bool) (ds : List Nat) (i : Nat) : Bool := ds.all fun d => l.getD d true || waits ops i ops.size d
def ShutL (ops : Array Oper) (l : Array Bool) : Prop := ∀ j oj, ops[j]? = some oj → l.getD j false = true → ∀ e ∈ oj.after, Region.binds .any e = true → l.getD e.on false = true
def plainAll (ops : Array Oper) : Bool := ops.all fun o => plainOp o.op

section
variable {P : Program} {ops : Array Oper} {S : World → Prop} {ds : List Nat} {ro : Option Nat} {X : Act → World → Prop}

theorem shutB_spec {l : Array Bool} (h : shutB ops l = true) : ShutL ops l := by
  intro j oj hj hl e he hb
  have hlt : j < ops.size := (Array.getElem?_eq_some_iff.1 hj).1
  have h1 := List.all_eq_true.1 h j (List.mem_range.2 hlt)
  simp only [hl, hj, Bool.not_true, Bool.false_or] at h1
  have h2 := Array.all_eq_true_iff_forall_mem.1 h1 e he
  simpa [hb] using h2
theorem ShutL.set {l : Array Bool} {i : Nat} (h : ShutL ops l) (hi : i ∈ rdy ops l) : ShutL ops (l.setIfInBounds i true) := by
  obtain ⟨_, oi, hoi, hall⟩ := mem_ready.1 hi
  intro j oj hj hl e he hb
  by_cases hij : i = j
  · subst hij
    have : oj = oi := Option.some.inj (hj.symm.trans hoi)
    subst this
    exact getD_set_true (hall e he hb)
  · rw [getD_set_ne false hij] at hl
    exact getD_set_true (h j oj hj hl e he hb)
theorem waits_listed {l : Array Bool} {i : Nat} (hc : ShutL ops l) : ∀ (k d : Nat), waits ops i k d = true → l.getD d false = true → l.getD i false = true
  | 0, _, h, _ => by simp [waits] at h
  | k + 1, d, h, hl => by
    unfold waits at h
    cases ho : ops[d]? with
    | none => rw [ho] at h; simp at h
    | some o =>
      rw [ho] at h
      obtain ⟨e, he, h1⟩ := Array.any_eq_true'.1 h
      simp only [Bool.and_eq_true, Bool.or_eq_true, beq_iff_eq] at h1
      have hle := hc d o ho hl e he h1.1
      rcases h1.2 with h2 | h2
      · rw [← h2]; exact hle
      · exact waits_listed hc k e.on h2 hle
theorem unlisted {l : Array Bool} {i : Nat} (h : l.getD i true = false) : ¬ l.getD i false = true := by
  intro h'
  rcases Nat.lt_or_ge i l.size with k | k
  · simp [k] at h h'; rw [h] at h'; cases h'
  · simp [Array.getElem?_eq_none k] at h
theorem waits_not_ready {l : Array Bool} {i d k : Nat} (hc : ShutL ops l) (hr : waits ops i k d = true) (hun : l.getD i true = false) : d ∉ rdy ops l := by
  intro hd
  obtain ⟨_, o, ho, hall⟩ := mem_ready.1 hd
  refine unlisted hun ?_
  cases k with
  | zero => simp [waits] at hr
  | succ n =>
    unfold waits at hr
    rw [ho] at hr
    obtain ⟨e, he, h1⟩ := Array.any_eq_true'.1 hr
    simp only [Bool.and_eq_true, Bool.or_eq_true, beq_iff_eq] at h1
    have hle := hall e he h1.1
    rcases h1.2 with h2 | h2
    · rw [← h2]; exact hle
    · exact waits_listed hc n e.on h2 hle

/-- Whatever comes up next; behind each (those of ds apart) S is kept. -/
def anyL (ro : Option Nat) (P : Program) (ops : Array Oper) (S : World → Prop) (ds : List Nat) (X : Act → World → Prop) : Nat → Array Bool → Act → World → Prop
  | 0, l, a, w => rdy ops l = [] ∧ X a w
  | k + 1, l, a, w => (rdy ops l = [] → X a w) ∧ ∀ i ∈ rdy ops l, wpOpIn (fen ro) 0 P ops (only X) i (fun a' w' => (i ∉ ds → S w → S w') ∧ anyL ro P ops S ds X k (l.setIfInBounds i true) a' w') a w
theorem any_of : ∀ (k : Nat) (l : Array Bool) (a : Act) (w : World), anyL ro P ops S ds X k l a w → wpAnyIn (fen ro) 0 P .any ops (only X) k l a w
  | 0, _, _, _, h => h
  | k + 1, _, _, _, h => ⟨h.1, fun i hi => wpOpIn_mono (fun a' w' h' => any_of k _ a' w' h'.2) (h.2 i hi)⟩

/-- In this state, in every world that meets S, the operation puts v and does nothing else. -/
def Puts (P : Program) (ops : Array Oper) (S : World → Prop) (o : Oper) (v : Value) (a : Act) : Prop :=
  (Region.wanted o (yielded ops a.tmps) = true ∧ ∀ w, S w → (execOp a.eval o).run P w = .ok (.value v) w) ∨ (Region.wanted o (yielded ops a.tmps) = false ∧ v = undef)
theorem Puts.same {o : Oper} {v : Value} {a a' : Act} (hy : Puts P ops S o v a) (he : execOp a'.eval o = execOp a.eval o) (hw : Region.wanted o (yielded ops a'.tmps) = Region.wanted o (yielded ops a.tmps)) : Puts P ops S o v a' := by
  unfold Puts at *; rw [he, hw]; exact hy
theorem Puts.step {i : Nat} {o : Oper} {v : Value} {a : Act} (hi : ops[i]? = some o) (hnd : ∀ c, o.op ≠ .defer c) (hy : Puts P ops S o v a) {K : Act → World → Prop} {w : World} (hS : S w) (h : K (a.put o.dst v) w) : wpOpIn (fen ro) 0 P ops (only X) i K a w := by
  unfold wpOpIn
  simp only [hi]
  rcases hy with ⟨hw, hv⟩ | ⟨hw, rfl⟩
  · rw [if_pos hw]
    refine ⟨fun f _ => fen_fn ro f, ?_⟩
    rw [Oper.semAt_eq _ _ _ hnd, hv w hS]
    exact h
  · rw [if_neg (by simp [hw])]
    exact ⟨fun f _ => fen_fn ro f, h⟩
theorem put_other {j : Nat} {oi oj : Oper} {v : Value} (hj : ops[j]? = some oj) (hap : oi.apart ops oj = true) (hsi : ∀ cs b, oi.op ≠ .select cs b) (hsj : ∀ cs b, oj.op ≠ .select cs b) (hdj : ∀ c, oj.op ≠ .defer c)
    {K : Act → World → Prop} {a : Act} {w : World} (hy : Puts P ops S oi v a) (h : wpOpIn (fen ro) 0 P ops (only X) j K (a.put oi.dst v) w) :
    wpOpIn (fen ro) 0 P ops (only X) j (fun a' w' => Puts P ops S oi v a' ∧ K (a'.put oi.dst v) w') a w := by
  obtain ⟨h1, h2, h3⟩ := Oper.apart_spec hap
  have keep : ∀ (a : Act), Puts P ops S oi v a → ∀ u, Puts P ops S oi v (a.put oj.dst u) := fun a hy u => hy.same (execOp_put oi hsi a oj.dst u h3) (wanted_put oi a oj.dst u h3)
  have keepD : ∀ d, Puts P ops S oi v { a with defers := d :: a.defers } := fun d => hy.same rfl rfl
  unfold wpOpIn at *
  simp only [hj] at *
  rw [wanted_put oj a oi.dst v h1] at h
  split
  · rename_i hw
    simp only [hw, if_true] at h
    refine ⟨fun f _ => fen_fn ro f, ?_⟩
    have h := h.2
    rw [Oper.semAt_eq _ _ _ hdj, execOp_put oj hsj a oi.dst v h1] at h
    rw [Oper.semAt_eq _ _ _ hdj]
    generalize (execOp a.eval oj).run P w = r at *
    cases r with
    | ok x w' =>
      cases x <;> simp only [Oper.uponIn] at h ⊢
      case value u => exact ⟨keep a hy u, by rw [← Act.put_comm a v u h2]; exact h⟩
      case skip => exact ⟨keep a hy _, by rw [← Act.put_comm a v undef h2]; exact h⟩
      case defer d =>
        refine ⟨keep _ (keepD d) _, ?_⟩
        rw [← Act.put_comm _ v undef h2, ← Act.put_defers]
        exact h
      case enter f args =>
        refine ⟨h.1, CallsIn.mono h.2 fun e w'' he => ?_⟩
        cases e with
        | returned u => exact ⟨keep a hy u, by rw [← Act.put_comm a v u h2]; exact he⟩
        | panicked c => exact he
        | outgrown => exact he
      case row row args => exact ⟨h.1, RowsIn.mono h.2 fun u w'' he => ⟨keep a hy u, by rw [← Act.put_comm a v u h2]; exact he⟩⟩
      case round l f tmps assign body =>
        refine ⟨h.1, RoundIn.mono h.2 fun e w'' he => ?_⟩
        cases e with
        | returned u => exact ⟨keep a hy u, by rw [← Act.put_comm a v u h2]; exact he⟩
        | panicked c => exact he
        | outgrown => exact he
    | halt x w' =>
      cases x <;> simp only [Oper.uponIn] at h ⊢
      case panic u => exact h
  · rename_i hw
    simp only [hw] at h
    exact ⟨fun f _ => fen_fn ro f, keep a hy _, by rw [← Act.put_comm a v undef h2]; exact h.2⟩

theorem plainAll_spec (h : plainAll ops = true) {j : Nat} {o : Oper} (ho : ops[j]? = some o) : (∀ c, o.op ≠ .defer c) ∧ ∀ cs b, o.op ≠ .select cs b :=
  plain_nd (Array.all_eq_true_iff_forall_mem.1 h o (Array.mem_of_getElem? ho))

/-- Taken first: b tells whether S is leaned on. -/
theorem any_first {i : Nat} {oi : Oper} {v : Value} (hp : plainAll ops = true) (hi : ops[i]? = some oi) (n : Nat) :
    ∀ (k : Nat) (l : Array Bool) (a : Act) (w : World),
      (∀ j oj, ops[j]? = some oj → j ≠ i → l.getD j true = false → (∀ e ∈ oj.after, Region.binds .any e = true → e.on ≠ i) → oi.apart ops oj = true) →
      ShutL ops l → (∀ d ∈ ds, l.getD d true = false → waits ops i n d = true) →
      i ∈ rdy ops l → Puts P ops S oi v a → S w →
      anyL ro P ops S ds X k (l.setIfInBounds i true) (a.put oi.dst v) w → anyL ro P ops S ds X (k + 1) l a w := by
  intro k
  induction k with
  | zero =>
    intro l a w _ _ _ hr hy hS H
    refine ⟨fun h => (by rw [h] at hr; cases hr), fun j hj => ?_⟩
    by_cases hji : j = i
    · subst hji; exact hy.step hi (plainAll_spec hp hi).1 hS ⟨fun _ h => h, H⟩
    · have hq : j ∈ rdy ops (l.setIfInBounds i true) := ready_mono hj hji
      rw [H.1] at hq
      cases hq
  | succ k ih =>
    intro l a w hfree hc hd hr hy hS H
    refine ⟨fun h => (by rw [h] at hr; cases hr), fun j hj => ?_⟩
    by_cases hji : j = i
    · subst hji; exact hy.step hi (plainAll_spec hp hi).1 hS ⟨fun _ h => h, H⟩
    · have h1 := H.2 j (ready_mono hj hji)
      obtain ⟨hjun, oj, hoj, hall⟩ := mem_ready.1 hj
      have hiun := (mem_ready.1 hr).1
      have hnot : ∀ e ∈ oj.after, Region.binds .any e = true → e.on ≠ i := fun e he hb heq => by
        have h1 := hall e he hb
        rw [heq] at h1
        exact unlisted hiun h1
      have hjd : j ∉ ds := fun hm => waits_not_ready hc (hd j hm hjun) hiun hj
      have h2 := put_other hoj (hfree j oj hoj hji hjun hnot) (plainAll_spec hp hi).2 (plainAll_spec hp hoj).2 (plainAll_spec hp hoj).1 hy h1
      have hfree' : ∀ k ok, ops[k]? = some ok → k ≠ i → (l.setIfInBounds j true).getD k true = false → (∀ e ∈ ok.after, Region.binds .any e = true → e.on ≠ i) → oi.apart ops ok = true := fun k ok hk hki hun hno => by
        refine hfree k ok hk hki ?_ hno
        by_cases hjk : j = k
        · subst hjk; exact hjun
        · rw [getD_set_ne true hjk] at hun; exact hun
      have hd' : ∀ d ∈ ds, (l.setIfInBounds j true).getD d true = false → waits ops i n d = true := fun d hm hun => by
        refine hd d hm ?_
        by_cases hjk : j = d
        · subst hjk; exact hjun
        · rw [getD_set_ne true hjk] at hun; exact hun
      refine wpOpIn_mono (fun a' w' h3 => ⟨h3.2.1, ih (l.setIfInBounds j true) a' w' hfree' (hc.set hj) hd' (ready_mono hr (Ne.symm hji)) h3.1 (h3.2.1 hjd hS) ?_⟩) h2
      rw [Array.setIfInBounds_comm _ _ hji]
      exact h3.2.2
/-- The same of what yields whatever the world. -/
theorem any_pure {i : Nat} {oi : Oper} {v : Value} (hp : plainAll ops = true) (hi : ops[i]? = some oi) :
    ∀ (k : Nat) (l : Array Bool) (a : Act) (w : World),
      (∀ j oj, ops[j]? = some oj → j ≠ i → l.getD j true = false → (∀ e ∈ oj.after, Region.binds .any e = true → e.on ≠ i) → oi.apart ops oj = true) →
      i ∈ rdy ops l → Puts P ops (fun _ => True) oi v a →
      anyL ro P ops S ds X k (l.setIfInBounds i true) (a.put oi.dst v) w → anyL ro P ops S ds X (k + 1) l a w := by
  intro k
  induction k with
  | zero =>
    intro l a w _ hr hy H
    refine ⟨fun h => (by rw [h] at hr; cases hr), fun j hj => ?_⟩
    by_cases hji : j = i
    · subst hji; exact hy.step hi (plainAll_spec hp hi).1 trivial ⟨fun _ h => h, H⟩
    · have hq : j ∈ rdy ops (l.setIfInBounds i true) := ready_mono hj hji
      rw [H.1] at hq
      cases hq
  | succ k ih =>
    intro l a w hfree hr hy H
    refine ⟨fun h => (by rw [h] at hr; cases hr), fun j hj => ?_⟩
    by_cases hji : j = i
    · subst hji; exact hy.step hi (plainAll_spec hp hi).1 trivial ⟨fun _ h => h, H⟩
    · have h1 := H.2 j (ready_mono hj hji)
      obtain ⟨hjun, oj, hoj, hall⟩ := mem_ready.1 hj
      have hiun := (mem_ready.1 hr).1
      have hnot : ∀ e ∈ oj.after, Region.binds .any e = true → e.on ≠ i := fun e he hb heq => by
        have h1 := hall e he hb
        rw [heq] at h1
        exact unlisted hiun h1
      have h2 := put_other hoj (hfree j oj hoj hji hjun hnot) (plainAll_spec hp hi).2 (plainAll_spec hp hoj).2 (plainAll_spec hp hoj).1 hy h1
      have hfree' : ∀ k ok, ops[k]? = some ok → k ≠ i → (l.setIfInBounds j true).getD k true = false → (∀ e ∈ ok.after, Region.binds .any e = true → e.on ≠ i) → oi.apart ops ok = true := fun k ok hk hki hun hno => by
        refine hfree k ok hk hki ?_ hno
        by_cases hjk : j = k
        · subst hjk; exact hjun
        · rw [getD_set_ne true hjk] at hun; exact hun
      refine wpOpIn_mono (fun a' w' h3 => ⟨h3.2.1, ih (l.setIfInBounds j true) a' w' hfree' (ready_mono hr (Ne.symm hji)) h3.1 ?_⟩) h2
      rw [Array.setIfInBounds_comm _ _ hji]
      exact h3.2.2

def pureB (ops : Array Oper) (l l' : Array Bool) (i : Nat) : Bool := plainAll ops && Region.free .any ops l i && (rdy ops l).contains i && (l.setIfInBounds i true == l')
def heldB (ops : Array Oper) (ds : List Nat) (l l' : Array Bool) (i : Nat) : Bool := pureB ops l l' i && shutB ops l && lastB ops l ds i
def onesB (ops : Array Oper) (l : Array Bool) (rs : List Nat) : Bool := rdy ops l == rs
end

/-! ### In the judgement -/
def Held (l : List (Addr × Value)) (w : World) : Prop := ∀ p ∈ l, w.cell? p.1 = some p.2
section
variable {n : Nat} {C : Ctx} {e : Env} {D : List Deferred} {L I : List Atom} {P : Program} {ro : Option Nat} {Q : Exit → Act → World → Prop} {K X : Act → World → Prop} {ops : Array Oper} {ds : List Nat} {H : List (Addr × Value)} {k : Nat} {l l' : Array Bool}

theorem held_nil : ∀ w, Own C L I w → Held [] w := fun _ _ _ h => by cases h
theorem held_pt {b o T : Nat} {cs : List Value} {v : Value} {r : List (Addr × Value)} (i : Nat) (hi : L[i]? = some (pt b cs T)) (hv : cs[o]? = some v) (h : ∀ w, Own C L I w → Held r w) : ∀ w, Own C L I w → Held ((⟨b, o, none⟩, v) :: r) w :=
  fun w ho p hp => by
    rcases List.mem_cons.1 hp with rfl | hp
    · obtain ⟨h1, hl, hA⟩ := ho.atom i hi
      have hb : w.heap[b]? = some (.cells cs.toArray T (0, 0)) := hl _ _ hA
      show w.cell? ⟨b, o, none⟩ = some v
      rw [cell_of hb]; simpa using hv
    · exact h w ho p hp

abbrev aw (ro : Option Nat) (P : Program) (ops : Array Oper) (H : List (Addr × Value)) (ds : List Nat) (X : Act → World → Prop) (k : Nat) (l : Array Bool) : Act → World → Prop := anyL ro P ops (Held H) ds X k l

/-- The beginning. -/
theorem c_draw {id m : Nat} {os : List Oper} (H : List (Addr × Value)) (ds : List Nat) (hm : P.follows .mixedOrders = true) (hn : os.length = m) (hl : Array.replicate m false = l) (h : Ent n C e D L I (aw ro P os.toArray H ds (Q .normal) m l)) : Ent n C e D L I (cw ro P (.region id os.toArray true) Q) :=
  fun a w kn s d ho => by
    subst hn; subst hl
    have h1 := h a { w with drawn := w.drawn + 1 } kn s d (ho.draw _)
    refine wpIn_mono (wpIn_region_any (F := fen ro) (n := 0) (Q := only (Q .normal)) hm ?_) (fun e a w q => by cases e <;> first | exact q | exact q.elim)
    simpa using any_of _ _ _ _ h1
theorem a_done (hr : onesB ops l [] = true) (h : Ent n C e D L I X) : Ent n C e D L I (aw ro P ops H ds X k l) := fun a w kn s d ho => by
  have hr' : rdy ops l = [] := by simpa [onesB] using hr
  cases k with
  | zero => exact ⟨hr', h a w kn s d ho⟩
  | succ k => exact ⟨fun _ => h a w kn s d ho, fun i hi => by rw [hr'] at hi; cases hi⟩
/-- What yields whatever the world, reckoned by 'hy'. -/
theorem a_pure {i : Nat} {o : Oper} {dt : Tmp} {v : Value} (l' : Array Bool) (hi : ops[i]? = some o) (hc : pureB ops l l' i = true) (hg : o.guard = none) (hdst : o.dst = some dt) (hd : Nat.blt dt n = true)
    (hy : ∀ a w, Knows e a → (execOp a.eval o).run P w = .ok (.value v) w) (h : Ent n C ((dt, v) :: e) D L I (aw ro P ops H ds X k l')) : Ent n C e D L I (aw ro P ops H ds X (k + 1) l) := fun a w kn s d ho => by
  simp only [pureB, Bool.and_eq_true, beq_iff_eq] at hc
  obtain ⟨⟨⟨h1, h2⟩, h3⟩, rfl⟩ := hc
  have hlt : dt < a.tmps.size := by rw [s]; simpa using hd
  refine any_pure h1 hi k l a w (Region.free_spec hi h2) (by simpa using h3) (.inl ⟨by simp [Region.wanted, hg], fun w _ => hy a w kn⟩) ?_
  rw [hdst]
  exact h _ w (kn.put hlt) (by simp [Act.put, s]) (by simpa [Act.put] using d) ho
/-- The same of a guarded one that is wanted. -/
theorem a_pure_on {i j : Nat} {b : Bool} {o : Oper} {dt : Tmp} {v : Value} (t : Tmp) (l' : Array Bool) (hi : ops[i]? = some o) (hc : pureB ops l l' i = true) (hg : o.guard = some (j, b)) (ht : (ops[j]?).bind (·.dst) = some t) (hv : lk e t = some (.bool b)) (hdst : o.dst = some dt) (hd : Nat.blt dt n = true)
    (hy : ∀ a w, Knows e a → (execOp a.eval o).run P w = .ok (.value v) w) (h : Ent n C ((dt, v) :: e) D L I (aw ro P ops H ds X k l')) : Ent n C e D L I (aw ro P ops H ds X (k + 1) l) := fun a w kn s d ho => by
  simp only [pureB, Bool.and_eq_true, beq_iff_eq] at hc
  obtain ⟨⟨⟨h1, h2⟩, h3⟩, rfl⟩ := hc
  have hlt : dt < a.tmps.size := by rw [s]; simpa using hd
  refine any_pure h1 hi k l a w (Region.free_spec hi h2) (by simpa using h3) (.inl ⟨by simp [Region.wanted, hg, yielded_of ht kn hv], fun w _ => hy a w kn⟩) ?_
  rw [hdst]
  exact h _ w (kn.put hlt) (by simp [Act.put, s]) (by simpa [Act.put] using d) ho
/-- A guarded one that is passed over. -/
theorem a_off {i j : Nat} {b c : Bool} {o : Oper} {dt : Tmp} (t : Tmp) (l' : Array Bool) (hi : ops[i]? = some o) (hc : pureB ops l l' i = true) (hg : o.guard = some (j, b)) (ht : (ops[j]?).bind (·.dst) = some t) (hv : lk e t = some (.bool c)) (hne : (c == b) = false) (hdst : o.dst = some dt) (hd : Nat.blt dt n = true)
    (h : Ent n C ((dt, undef) :: e) D L I (aw ro P ops H ds X k l')) : Ent n C e D L I (aw ro P ops H ds X (k + 1) l) := fun a w kn s d ho => by
  simp only [pureB, Bool.and_eq_true, beq_iff_eq] at hc
  obtain ⟨⟨⟨h1, h2⟩, h3⟩, rfl⟩ := hc
  have hlt : dt < a.tmps.size := by rw [s]; simpa using hd
  have hne' : c ≠ b := by intro h; rw [h] at hne; simp at hne
  refine any_pure h1 hi k l a w (Region.free_spec hi h2) (by simpa using h3) (.inr ⟨by simp [Region.wanted, hg, yielded_of ht kn hv, hne'], rfl⟩) ?_
  rw [hdst]
  exact h _ w (kn.put hlt) (by simp [Act.put, s]) (by simpa [Act.put] using d) ho
theorem a_off' {i j : Nat} {b c : Bool} {o : Oper} (t : Tmp) (l' : Array Bool) (hi : ops[i]? = some o) (hc : pureB ops l l' i = true) (hg : o.guard = some (j, b)) (ht : (ops[j]?).bind (·.dst) = some t) (hv : lk e t = some (.bool c)) (hne : (c == b) = false) (hdst : o.dst = none)
    (h : Ent n C e D L I (aw ro P ops H ds X k l')) : Ent n C e D L I (aw ro P ops H ds X (k + 1) l) := fun a w kn s d ho => by
  simp only [pureB, Bool.and_eq_true, beq_iff_eq] at hc
  obtain ⟨⟨⟨h1, h2⟩, h3⟩, rfl⟩ := hc
  have hne' : c ≠ b := by intro h; rw [h] at hne; simp at hne
  refine any_pure h1 hi k l a w (Region.free_spec hi h2) (by simpa using h3) (.inr ⟨by simp [Region.wanted, hg, yielded_of ht kn hv, hne'], rfl⟩) ?_
  rw [hdst]
  exact h a w kn s d ho
/-- What reads one of the held cells. -/
theorem a_held {i : Nat} {o : Oper} {dt : Tmp} {v : Value} (l' : Array Bool) (hi : ops[i]? = some o) (hc : heldB ops ds l l' i = true) (hg : o.guard = none) (hdst : o.dst = some dt) (hd : Nat.blt dt n = true)
    (hS : ∀ w, Own C L I w → Held H w) (hy : ∀ a w, Knows e a → Held H w → (execOp a.eval o).run P w = .ok (.value v) w) (h : Ent n C ((dt, v) :: e) D L I (aw ro P ops H ds X k l')) : Ent n C e D L I (aw ro P ops H ds X (k + 1) l) := fun a w kn s d ho => by
  simp only [heldB, pureB, Bool.and_eq_true, beq_iff_eq] at hc
  obtain ⟨⟨⟨⟨⟨h1, h2⟩, h3⟩, rfl⟩, h4⟩, h5⟩ := hc
  have hlt : dt < a.tmps.size := by rw [s]; simpa using hd
  refine any_first h1 hi ops.size k l a w (Region.free_spec hi h2) (shutB_spec h4) (fun d hm hun => by have := List.all_eq_true.1 h5 d hm; rw [hun] at this; simpa using this) (by simpa using h3) (.inl ⟨by simp [Region.wanted, hg], fun w hw => hy a w kn hw⟩) (hS w ho) ?_
  rw [hdst]
  exact h _ w (kn.put hlt) (by simp [Act.put, s]) (by simpa [Act.put] using d) ho
theorem a_held_on {i j : Nat} {b : Bool} {o : Oper} {dt : Tmp} {v : Value} (t : Tmp) (l' : Array Bool) (hi : ops[i]? = some o) (hc : heldB ops ds l l' i = true) (hg : o.guard = some (j, b)) (ht : (ops[j]?).bind (·.dst) = some t) (hv : lk e t = some (.bool b)) (hdst : o.dst = some dt) (hd : Nat.blt dt n = true)
    (hS : ∀ w, Own C L I w → Held H w) (hy : ∀ a w, Knows e a → Held H w → (execOp a.eval o).run P w = .ok (.value v) w) (h : Ent n C ((dt, v) :: e) D L I (aw ro P ops H ds X k l')) : Ent n C e D L I (aw ro P ops H ds X (k + 1) l) := fun a w kn s d ho => by
  simp only [heldB, pureB, Bool.and_eq_true, beq_iff_eq] at hc
  obtain ⟨⟨⟨⟨⟨h1, h2⟩, h3⟩, rfl⟩, h4⟩, h5⟩ := hc
  have hlt : dt < a.tmps.size := by rw [s]; simpa using hd
  refine any_first h1 hi ops.size k l a w (Region.free_spec hi h2) (shutB_spec h4) (fun d hm hun => by have := List.all_eq_true.1 h5 d hm; rw [hun] at this; simpa using this) (by simpa using h3) (.inl ⟨by simp [Region.wanted, hg, yielded_of ht kn hv], fun w hw => hy a w kn hw⟩) (hS w ho) ?_
  rw [hdst]
  exact h _ w (kn.put hlt) (by simp [Act.put, s]) (by simpa [Act.put] using d) ho
/-- Those that may come up now, each in turn. -/
inductive Each (n : Nat) (C : Ctx) (e : Env) (D : List Deferred) (L I : List Atom) (ro : Option Nat) (P : Program) (ops : Array Oper) (H : List (Addr × Value)) (ds : List Nat) (X : Act → World → Prop) (k : Nat) (l : Array Bool) : List Nat → Prop where
  | nil : Each n C e D L I ro P ops H ds X k l []
  | cons {i : Nat} {o : Oper} {rs : List Nat} (l' : Array Bool) (hi : ops[i]? = some o) (hl : (l.setIfInBounds i true == l') = true) (hg : o.guard = none)
      (h : Ent n C e D L I (ow ro P o (only X) fun a w => Held H w ∧ aw ro P ops H ds X k l' a w)) (r : Each n C e D L I ro P ops H ds X k l rs) : Each n C e D L I ro P ops H ds X k l (i :: rs)
  | on {i j : Nat} {b : Bool} {o : Oper} {rs : List Nat} (t : Tmp) (l' : Array Bool) (hi : ops[i]? = some o) (hl : (l.setIfInBounds i true == l') = true) (hg : o.guard = some (j, b)) (ht : (ops[j]?).bind (·.dst) = some t) (hv : lk e t = some (.bool b))
      (h : Ent n C e D L I (ow ro P o (only X) fun a w => Held H w ∧ aw ro P ops H ds X k l' a w)) (r : Each n C e D L I ro P ops H ds X k l rs) : Each n C e D L I ro P ops H ds X k l (i :: rs)
  | last {i : Nat} {o : Oper} {rs : List Nat} (l' : Array Bool) (hi : ops[i]? = some o) (hl : (l.setIfInBounds i true == l') = true) (hds : ds.contains i = true) (hg : o.guard = none)
      (h : Ent n C e D L I (ow ro P o (only X) (aw ro P ops H ds X k l'))) (r : Each n C e D L I ro P ops H ds X k l rs) : Each n C e D L I ro P ops H ds X k l (i :: rs)
theorem Each.all {rs : List Nat} (h : Each n C e D L I ro P ops H ds X k l rs) : ∀ i ∈ rs, Ent n C e D L I (fun a w => wpOpIn (fen ro) 0 P ops (only X) i (fun a' w' => (i ∉ ds → Held H w → Held H w') ∧ anyL ro P ops (Held H) ds X k (l.setIfInBounds i true) a' w') a w) := by
  induction h with
  | nil => intro i hi; cases hi
  | cons l' hi hl hg h r ih =>
    intro q hq
    rcases List.mem_cons.1 hq with rfl | hq
    · intro a w kn s d ho
      have hl' := beq_iff_eq.1 hl
      subst hl'
      unfold wpOpIn
      simp only [hi]
      rw [if_pos (by simp [Region.wanted, hg])]
      exact Oper.wpIn_mono (fun a' w' h => ⟨fun _ _ => h.1, h.2⟩) (h a w kn s d ho)
    · exact ih q hq
  | on t l' hi hl hg ht hv h r ih =>
    intro q hq
    rcases List.mem_cons.1 hq with rfl | hq
    · intro a w kn s d ho
      have hl' := beq_iff_eq.1 hl
      subst hl'
      unfold wpOpIn
      simp only [hi]
      rw [if_pos (by simp [Region.wanted, hg, yielded_of ht kn hv])]
      exact Oper.wpIn_mono (fun a' w' h => ⟨fun _ _ => h.1, h.2⟩) (h a w kn s d ho)
    · exact ih q hq
  | last l' hi hl hds hg h r ih =>
    intro q hq
    rcases List.mem_cons.1 hq with rfl | hq
    · intro a w kn s d ho
      have hl' := beq_iff_eq.1 hl
      subst hl'
      unfold wpOpIn
      simp only [hi]
      rw [if_pos (by simp [Region.wanted, hg])]
      exact Oper.wpIn_mono (fun a' w' h => ⟨fun hn => absurd (by simpa using hds) hn, h⟩) (h a w kn s d ho)
    · exact ih q hq
theorem a_each {rs : List Nat} (hr : onesB ops l rs = true) (h : Each n C e D L I ro P ops H ds X k l rs) (hne : rs ≠ []) : Ent n C e D L I (aw ro P ops H ds X (k + 1) l) := fun a w kn s d ho => by
  have hr' : rdy ops l = rs := by simpa [onesB] using hr
  refine ⟨fun h0 => absurd (hr' ▸ h0) hne, fun i hi => ?_⟩
  exact Each.all h i (hr' ▸ hi) a w kn s d ho
theorem a_and {Y : Act → World → Prop} (hS : ∀ w, Own C L I w → Held H w) (h : Ent n C e D L I Y) : Ent n C e D L I (fun a w => Held H w ∧ Y a w) := fun a w kn s d ho => ⟨hS w ho, h a w kn s d ho⟩

/-- Ways meet: from here on one proof. -/
theorem e_cut {γ : Type} (ok : γ → Prop) (E : γ → Env) (LL II : γ → List Atom) {Y : Act → World → Prop} (X : Act → World → Prop) (h1 : ∀ x, ok x → Ent n C (E x) D (LL x) (II x) X) (h2 : (∀ x, ok x → Ent n C (E x) D (LL x) (II x) X) → Ent n C e D L I Y) : Ent n C e D L I Y := h2 h1
/-- The state in another order, or with less. -/
theorem e_norm {e' : Env} {L' Lr I' : List Atom} (ix jx : List Nat) (c : Cov e e') (hp : pull L ix = some (L', Lr)) (hI : picks I jx = some I') (h : Ent n C e' D L' I' X) : Ent n C e D L I X := fun a w kn s d ho => h a w (c.knows kn) s d (ho.sub hp (picks_mem hI))
end
end Go.Sl
/- More rules for single operations: tests, numbers, boxes. -/
set_option linter.unusedVariables false
set_option linter.unusedSimpArgs false
namespace Go.Sl
open Go Go.RowKit

def ticked (n m : Nat) : Array Bool := ((List.range n).map fun i => m.testBit i).toArray
section
variable {n : Nat} {C : Ctx} {e : Env} {D : List Deferred} {L I : List Atom} {P : Program} {ro : Option Nat} {Q : Exit → Act → World → Prop} {K X : Act → World → Prop} {ops : Array Oper} {ds : List Nat} {H : List (Addr × Value)} {k : Nat} {l : Array Bool}

/-! What an operation yields, whatever the world: for 'o_y' in a row, for 'a_pure' in an open order. -/
def Ys (P : Program) (e : Env) (o : Oper) (v : Value) : Prop := ∀ a w, Knows e a → (execOp a.eval o).run P w = .ok (.value v) w
theorem y_k {o : Oper} {v : Value} (hp : plainOp o.op = true) (hk : known e o = true) (hr : ∀ w, (execOp (rho e) o).run P w = .ok (.value v) w) : Ys P e o v :=
  fun a w kn => by rw [exec_rho kn (plain_nd hp).2 hk]; exact hr w
theorem y_mv {d : Option Tmp} {x : Operand} {v : Value} {ty : TypeId} {pos : String} {aft : Array Edge} {g : Option (Nat × Bool)} (hx : ev e x = some v) : Ys P e ⟨d, .move x, ty, pos, aft, g⟩ v := fun a w kn => by simp [execOp, kn.eval hx]
theorem y_as {d : Option Tmp} {x : Operand} {v : Value} {ty : TypeId} {pos : String} {aft : Array Edge} {g : Option (Nat × Bool)} (hx : ev e x = some v) : Ys P e ⟨d, .assign x, ty, pos, aft, g⟩ v := fun a w kn => by simp [execOp, kn.eval hx]
theorem y_pick {d : Option Tmp} {c x y : Operand} {b : Bool} {v : Value} {ty : TypeId} {pos : String} {aft : Array Edge} {g : Option (Nat × Bool)} (hc : ev e c = some (.bool b)) (hx : ev e (cond b x y) = some v) : Ys P e ⟨d, .pick c x y, ty, pos, aft, g⟩ v := fun a w kn => by
  have h1 := kn.eval hc
  have h2 := kn.eval hx
  cases b <;> simp_all [execOp, asBool]
theorem y_bin {d : Option Tmp} {op : BinOp} {x y : Operand} {u v r : Value} {t t2 : TypeId} {ty : TypeId} {pos : String} {aft : Array Edge} {g : Option (Nat × Bool)} (hx : ev e x = some u) (hy : ev e y = some v) (hr : ∀ w, (do eqGuard op t x y u v; binOp op t u v : Sem Value).run P w = .ok r w) :
    Ys P e ⟨d, .binOp op t x y t2, ty, pos, aft, g⟩ r := fun a w kn => by
  simp only [execOp, kn.eval hx, kn.eval hy]
  have := hr w
  simp only [Sem.run_bind] at this ⊢
  rw [this]
  rfl
theorem wrap_in {z : Int} (h0 : -9223372036854775808 ≤ z) (h1 : z ≤ 9223372036854775807) : IntKind.i64.wrap z = z := by
  have := IntWalk.i64_in z ⟨by omega, by omega⟩
  simpa using this
theorem y_add {d : Option Tmp} {x y : Operand} {p q r : Int} {t t2 : TypeId} {ty : TypeId} {pos : String} {aft : Array Edge} {g : Option (Nat × Bool)} (hx : ev e x = some (.int .i64 p)) (hy : ev e y = some (.int .i64 q)) (hr : p + q = r) (hb : -9223372036854775808 ≤ r ∧ r ≤ 9223372036854775807) :
    Ys P e ⟨d, .binOp .add t x y t2, ty, pos, aft, g⟩ (.int .i64 r) := by
  subst hr
  exact y_bin hx hy fun w => by simp [eqGuard, binOp, Op.intArith, wrap_in hb.1 hb.2]
theorem y_sub {d : Option Tmp} {x y : Operand} {p q r : Int} {t t2 : TypeId} {ty : TypeId} {pos : String} {aft : Array Edge} {g : Option (Nat × Bool)} (hx : ev e x = some (.int .i64 p)) (hy : ev e y = some (.int .i64 q)) (hr : p - q = r) (hb : -9223372036854775808 ≤ r ∧ r ≤ 9223372036854775807) :
    Ys P e ⟨d, .binOp .sub t x y t2, ty, pos, aft, g⟩ (.int .i64 r) := by
  subst hr
  exact y_bin hx hy fun w => by simp [eqGuard, binOp, Op.intArith, wrap_in hb.1 hb.2]
theorem y_mul {d : Option Tmp} {x y : Operand} {p q r : Int} {t t2 : TypeId} {ty : TypeId} {pos : String} {aft : Array Edge} {g : Option (Nat × Bool)} (hx : ev e x = some (.int .i64 p)) (hy : ev e y = some (.int .i64 q)) (hr : p * q = r) (hb : -9223372036854775808 ≤ r ∧ r ≤ 9223372036854775807) :
    Ys P e ⟨d, .binOp .mul t x y t2, ty, pos, aft, g⟩ (.int .i64 r) := by
  subst hr
  exact y_bin hx hy fun w => by simp [eqGuard, binOp, Op.intArith, wrap_in hb.1 hb.2]

theorem y_t {p : Prop} [Decidable p] {o : Oper} (hy : Ys P e o (.bool (decide p))) (h : p) : Ys P e o (.bool true) := by rwa [decide_eq_true h] at hy
theorem y_f {p : Prop} [Decidable p] {o : Oper} (hy : Ys P e o (.bool (decide p))) (h : ¬ p) : Ys P e o (.bool false) := by rwa [decide_eq_false h] at hy
theorem y_b {b c : Bool} {o : Oper} (hy : Ys P e o (.bool b)) (h : b = c) : Ys P e o (.bool c) := by rwa [h] at hy
theorem y_not {b : Bool} {d : Option Tmp} {x : Operand} {t : TypeId} {ty : TypeId} {pos : String} {aft : Array Edge} {g : Option (Nat × Bool)} (hx : ev e x = some (.bool b)) : Ys P e ⟨d, .unOp .not t x, ty, pos, aft, g⟩ (.bool !b) := fun a w kn => by simp [execOp, kn.eval hx, Op.unary]
/-- In a row: an operation that yields. -/
theorem o_y {o : Oper} {dt : Tmp} {v : Value} (hy : Ys P e o v) (hdst : o.dst = some dt) (hd : Nat.blt dt n = true) (hp : plainOp o.op = true) (h : Ent n C ((dt, v) :: e) D L I K) : Ent n C e D L I (ow ro P o Q K) :=
  ow_pure hdst hd (plain_nd hp).1 (fun a w kn _ => hy a w kn) h
/-- In a row: a test, its two ways. -/
theorem o_if {p : Prop} [Decidable p] {o : Oper} {dt : Tmp} (hy : Ys P e o (.bool (decide p))) (hdst : o.dst = some dt) (hd : Nat.blt dt n = true) (hp : plainOp o.op = true) (ht : p → Ent n C ((dt, .bool true) :: e) D L I K) (hf : ¬ p → Ent n C ((dt, .bool false) :: e) D L I K) : Ent n C e D L I (ow ro P o Q K) := by
  by_cases h : p
  · exact o_y (by rwa [decide_eq_true h] at hy) hdst hd hp (ht h)
  · exact o_y (by rwa [decide_eq_false h] at hy) hdst hd hp (hf h)
theorem o_ifb {b : Bool} {o : Oper} {dt : Tmp} (hy : Ys P e o (.bool b)) (hdst : o.dst = some dt) (hd : Nat.blt dt n = true) (hp : plainOp o.op = true) (ht : b = true → Ent n C ((dt, .bool true) :: e) D L I K) (hf : b = false → Ent n C ((dt, .bool false) :: e) D L I K) : Ent n C e D L I (ow ro P o Q K) := by
  cases b
  · exact o_y hy hdst hd hp (hf rfl)
  · exact o_y hy hdst hd hp (ht rfl)
/-- In an open order: taken first. -/
theorem a_y {i : Nat} {o : Oper} {dt : Tmp} {v : Value} (l' : Array Bool) (hi : ops[i]? = some o) (hc : pureB ops l l' i = true) (hg : o.guard = none) (hdst : o.dst = some dt) (hd : Nat.blt dt n = true) (hy : Ys P e o v) (h : Ent n C ((dt, v) :: e) D L I (aw ro P ops H ds X k l')) : Ent n C e D L I (aw ro P ops H ds X (k + 1) l) := a_pure l' hi hc hg hdst hd hy h
theorem a_y_on {i j : Nat} {b : Bool} {o : Oper} {dt : Tmp} {v : Value} (t : Tmp) (l' : Array Bool) (hi : ops[i]? = some o) (hc : pureB ops l l' i = true) (hg : o.guard = some (j, b)) (ht : (ops[j]?).bind (·.dst) = some t) (hv : lk e t = some (.bool b)) (hdst : o.dst = some dt) (hd : Nat.blt dt n = true) (hy : Ys P e o v)
    (h : Ent n C ((dt, v) :: e) D L I (aw ro P ops H ds X k l')) : Ent n C e D L I (aw ro P ops H ds X (k + 1) l) := a_pure_on t l' hi hc hg ht hv hdst hd hy h
/-- A proposition decided. -/
theorem e_by (p : Prop) (ht : p → Ent n C e D L I X) (hf : ¬ p → Ent n C e D L I X) : Ent n C e D L I X := by
  by_cases h : p
  · exact ht h
  · exact hf h
/-- The state said in other words. -/
theorem e_show {e' : Env} {L' I' : List Atom} (he : e = e') (hL : L = L') (hI : I = I') (h : Ent n C e' D L' I' X) : Ent n C e D L I X := by subst he; subst hL; subst hI; exact h

/-! ### Boxes -/
theorem o_box {o : Oper} {dt : Tmp} {cs : List Value} {T : TypeId} (hdst : o.dst = some dt) (hd : Nat.blt dt n = true) (hp : plainOp o.op = true) (hk : known e o = true)
    (hr : ∀ w, (execOp (rho e) o).run P w = .ok (.value (.pointer (some ⟨w.heap.size, 0, none⟩))) { w with heap := w.heap.push (.cells cs.toArray T (0, 0)) })
    (h : ∀ b, Ent n C ((dt, .pointer (some ⟨b, 0, none⟩)) :: e) D (pt b cs T :: L) I K) : Ent n C e D L I (ow ro P o Q K) := o_new (f := fun b => .pointer (some ⟨b, 0, none⟩)) hdst hd hp hk hr h
theorem o_lit {o : Oper} {dt : Tmp} {cs : List Value} {T m : Nat} (hdst : o.dst = some dt) (hd : Nat.blt dt n = true) (hp : plainOp o.op = true) (hk : known e o = true)
    (hr : ∀ w, (execOp (rho e) o).run P w = .ok (.value (.slice (some ⟨w.heap.size, 0, none⟩) m m)) { w with heap := w.heap.push (.cells cs.toArray T (0, 0)) })
    (h : ∀ b, Ent n C ((dt, .slice (some ⟨b, 0, none⟩) m m) :: e) D (pt b cs T :: L) I K) : Ent n C e D L I (ow ro P o Q K) := o_new (f := fun b => .slice (some ⟨b, 0, none⟩) m m) hdst hd hp hk hr h

/-! ### Exits -/
theorem q_then {X : Act → World → Prop} (h : Ent n C e D L I X) : Ent n C e D L I (Exit.then X Q .normal) := h
theorem q_then_ret {X : Act → World → Prop} (h : Ent n C e D L I (Q .ret)) : Ent n C e D L I (Exit.then X Q .ret) := h
theorem q_then_exit {X : Act → World → Prop} {id : Nat} (h : Ent n C e D L I (Q (.exit id))) : Ent n C e D L I (Exit.then X Q (.exit id)) := h
theorem q_then_goto {X : Act → World → Prop} {id : Nat} (h : Ent n C e D L I (Q (.goto id))) : Ent n C e D L I (Exit.then X Q (.goto id)) := h
theorem q_block {id : Nat} (h : Ent n C e D L I (Q .normal)) : Ent n C e D L I (Exit.inBlock id Q .normal) := h
theorem q_block_ret {id : Nat} (h : Ent n C e D L I (Q .ret)) : Ent n C e D L I (Exit.inBlock id Q .ret) := h
theorem q_block_goto {id l : Nat} (h : Ent n C e D L I (Q (.goto l))) : Ent n C e D L I (Exit.inBlock id Q (.goto l)) := h
theorem q_block_here {id : Nat} (h : Ent n C e D L I (Q .normal)) : Ent n C e D L I (Exit.inBlock id Q (.exit id)) := fun a w kn s d ho => by
  show (if id = id then Q .normal a w else Q (.exit id) a w)
  rw [if_pos rfl]
  exact h a w kn s d ho
theorem q_block_exit {id j : Nat} (hne : Nat.beq j id = false) (h : Ent n C e D L I (Q (.exit j))) : Ent n C e D L I (Exit.inBlock id Q (.exit j)) := fun a w kn s d ho => by
  show (if j = id then Q .normal a w else Q (.exit j) a w)
  rw [if_neg (fun e => by rw [e, Nat.beq_refl] at hne; cases hne)]
  exact h a w kn s d ho
end
end Go.Sl
/- Lists in memory: those that are read (facts), those of the call's own (atoms). -/
set_option linter.unusedVariables false
set_option linter.unusedSimpArgs false
namespace Go.Sl
open Go Go.RowKit

/-- How an element of a list lies in cells. -/
structure Ty (α : Type) where
  sz : Nat
  enc : α → List Value
  len : ∀ x, (enc x).length = sz
  one : ∀ x, oneAll (enc x) = true
def Ty.cells {α : Type} (d : Ty α) (l : List α) : List Value := l.flatMap d.enc
theorem Ty.cells_length {α : Type} (d : Ty α) : ∀ l : List α, (d.cells l).length = l.length * d.sz
  | [] => by simp [Ty.cells]
  | x :: l => by
    have := d.cells_length l
    unfold Ty.cells at *
    simp [List.flatMap_cons, d.len, this, Nat.add_mul, Nat.add_comm]
theorem Ty.cells_append {α : Type} (d : Ty α) (l m : List α) : d.cells (l ++ m) = d.cells l ++ d.cells m := by simp [Ty.cells]
theorem Ty.cells_one {α : Type} (d : Ty α) (l : List α) : ∀ u ∈ d.cells l, u.oneCell' = true := by
  intro u hu
  simp only [Ty.cells, List.mem_flatMap] at hu
  obtain ⟨x, _, hx⟩ := hu
  exact List.all_eq_true.1 (d.one x) u hx
theorem Ty.cells_drop {α : Type} (d : Ty α) : ∀ (l : List α) (k : Nat), d.cells (l.drop k) = (d.cells l).drop (k * d.sz)
  | l, 0 => by simp
  | [], k + 1 => by simp [Ty.cells]
  | x :: l, k + 1 => by
    have := d.cells_drop l k
    simp only [List.drop_succ_cons, this]
    unfold Ty.cells
    have h1 : (k + 1) * d.sz - d.sz = k * d.sz := by rw [Nat.add_mul, Nat.one_mul]; omega
    have h2 : (d.enc x).drop ((k + 1) * d.sz) = [] := List.drop_eq_nil_of_le (by rw [d.len, Nat.add_mul, Nat.one_mul]; omega)
    rw [List.flatMap_cons, List.drop_append, d.len, h1, h2]
    simp
theorem Ty.cells_take {α : Type} (d : Ty α) : ∀ (l : List α) (k : Nat), d.cells (l.take k) = (d.cells l).take (k * d.sz)
  | l, 0 => by simp [Ty.cells]
  | [], k + 1 => by simp [Ty.cells]
  | x :: l, k + 1 => by
    have := d.cells_take l k
    unfold Ty.cells at *
    simp only [List.take_succ_cons, List.flatMap_cons, this]
    have h1 : (k + 1) * d.sz - d.sz = k * d.sz := by rw [Nat.add_mul, Nat.one_mul]; omega
    have h2 : (d.enc x).take ((k + 1) * d.sz) = d.enc x := List.take_of_length_le (by rw [d.len, Nat.add_mul, Nat.one_mul]; omega)
    rw [List.take_append, d.len, h1, h2]
theorem Ty.cells_at {α : Type} (d : Ty α) {l : List α} {k : Nat} {x : α} (h : l[k]? = some x) : ((d.cells l).drop (k * d.sz)).take d.sz = d.enc x := by
  rw [← d.cells_drop]
  obtain ⟨hk, he⟩ := List.getElem?_eq_some_iff.1 h
  rw [List.drop_eq_getElem_cons hk, he]
  unfold Ty.cells
  rw [List.flatMap_cons, List.take_append_of_le_length (by rw [d.len]; exact Nat.le_refl _), List.take_of_length_le (by rw [d.len]; exact Nat.le_refl _)]

/-- At b, from o on, stand these values (and nobody writes there). -/
def cellsAt (b o : Nat) (vs : List Value) : Atom := fun h => ∃ cur T fr, h b = some (.cells cur T fr) ∧ ∀ j v, vs[j]? = some v → cur[o + j]? = some v
/-- A slice that is read. -/
def rd {α : Type} (d : Ty α) (A : Option Addr) (c : Nat) (l : List α) : Atom := fun h => l.length ≤ c ∧ l.length ≤ 9223372036854775807 ∧ (0 < l.length → ∃ b o, A = some ⟨b, o, none⟩ ∧ cellsAt b o (d.cells l) h)
/-- A slice of the call's own. -/
def ars {α : Type} (d : Ty α) (T : TypeId) (A : Option Addr) (c : Nat) (l : List α) : Atom := fun h =>
  (A = none ∧ c = 0 ∧ l = []) ∨ ∃ b cur, A = some ⟨b, 0, none⟩ ∧ h b = some (.cells cur T (0, 0)) ∧ l.length ≤ c ∧ c ≤ maxLen ∧ cur.size = c * d.sz ∧ cur.toList.take (l.length * d.sz) = d.cells l

theorem cellsAt.cell {b o : Nat} {vs : List Value} {h : Hp} {w : World} (a : cellsAt b o vs h) (l : le h (hpOf w)) {j : Nat} {v : Value} (hv : vs[j]? = some v) : w.cell? ⟨b, o + j, none⟩ = some v := by
  obtain ⟨cur, T, fr, hb, hc⟩ := a
  rw [cell_of (l _ _ hb)]
  exact hc j v hv
theorem cellsAt.part {b o : Nat} {vs us : List Value} {h : Hp} (a : cellsAt b o vs h) (k m : Nat) (hu : (vs.drop k).take m = us) : cellsAt b (o + k) us h := by
  obtain ⟨cur, T, fr, hb, hc⟩ := a
  refine ⟨cur, T, fr, hb, fun j v hj => ?_⟩
  rw [← hu, List.getElem?_take] at hj
  split at hj
  · rw [Nat.add_assoc]; exact hc (k + j) v (by simpa using hj)
  · cases hj
theorem ars.reads {α : Type} {d : Ty α} {T : TypeId} {A : Option Addr} {c : Nat} {l : List α} {h : Hp} (a : ars d T A c l h) : rd d A c l h := by
  rcases a with ⟨rfl, rfl, rfl⟩ | ⟨b, cur, rfl, hb, hl, hm, hs, ht⟩
  · exact ⟨Nat.le_refl _, by simp, fun h => absurd h (by simp)⟩
  · refine ⟨hl, by simp only [maxLen] at hm; omega, fun _ => ⟨b, 0, rfl, cur, T, (0, 0), hb, fun j v hj => ?_⟩⟩
    rw [← ht, List.getElem?_take] at hj
    split at hj
    · simpa using hj
    · cases hj
theorem ars.owns {α : Type} {d : Ty α} {T : TypeId} {A : Option Addr} {c : Nat} {l : List α} {h : Hp} {w : World} (a : ars d T A c l h) (le : le h (hpOf w)) : w.ownsRow 0 T d.sz (.slice A l.length c) l.length (d.cells l) := by
  refine ⟨d.cells_length l, ?_⟩
  rcases a with ⟨rfl, rfl, rfl⟩ | ⟨b, cur, rfl, hb, hl, hm, hs, ht⟩
  · exact .inl ⟨rfl, rfl⟩
  · exact .inr ⟨b, c, cur, rfl, Nat.zero_le _, le _ _ hb, hl, hm, hs, ht⟩
theorem ars.block {α : Type} {d : Ty α} {T : TypeId} {A : Option Addr} {c n : Nat} {l : List α} {h : Hp} (a : ars d T A c l h) {k : Nat} (hk : (Value.slice A n c).ownBlock = some k) : ∃ o, h k = some o := by
  rcases a with ⟨rfl, rfl, rfl⟩ | ⟨b, cur, rfl, hb, _⟩
  · simp [Value.ownBlock] at hk
  · have : b = k := by simpa [Value.ownBlock] using hk
    subst this
    exact ⟨_, hb⟩

section
variable {n : Nat} {C : Ctx} {e : Env} {D : List Deferred} {L I : List Atom} {P : Program} {ro : Option Nat} {Q : Exit → Act → World → Prop} {K X : Act → World → Prop} {ops : Array Oper} {ds : List Nat} {H : List (Addr × Value)} {k : Nat} {l' : Array Bool}

/-- One of the call's own rows was turned, or laid anew. -/
theorem turn_own {w w1 : World} (ho : Own C L I w) (i : Nat) {α : Type} {d : Ty α} {T : TypeId} {A : Option Addr} {c : Nat} {l : List α} (hi : L[i]? = some (ars d T A c l)) {m0 : Nat} {v1 : Value} {n1 : Nat} {xs : List Value} (hg : w.grownBy w1 (Value.slice A m0 c).ownBlock) (hown : w1.ownsRow 0 T d.sz v1 n1 xs)
    (hat : v1.ownBlock = (Value.slice A m0 c).ownBlock ∨ v1.ownBlock = some w.heap.size) {l1 : List α} (hx : xs = d.cells l1) (hn : n1 = l1.length) :
    ∃ A1 c1, v1 = .slice A1 l1.length c1 ∧ Own C (L.set i (ars d T A1 c1 l1)) I w1 := by
  subst hx; subst hn
  obtain ⟨h, hI, o⟩ := ho
  obtain ⟨h1, h2, dd, s1, s2, a, s⟩ := Sep.take i hi o.sep
  have hother : ∀ k : Hp, apart h1 k → le k (hpOf w) → le k (hpOf w1) := fun k hk hl j z hz => by
    have h0 := hl j z hz
    have hlt : j < w.heap.size := (Array.getElem?_eq_some_iff.1 h0).1
    refine (hg.block j hlt ?_).trans h0
    intro e
    obtain ⟨z', hz'⟩ := a.block e.symm
    rcases hk j with q | q
    · rw [hz'] at q; cases q
    · rw [hz] at q; cases q
  have hfresh : ∀ k : Hp, le k (hpOf w) → k w.heap.size = none := fun k hk => by
    cases hc : k w.heap.size with
    | none => rfl
    | some y => have := hk _ _ hc; simp [hpOf] at this
  have dI : apart h1 hI := o.d1.mono_left s1
  have dR : apart h1 C.R := o.d2.mono_left s1
  -- the new part
  have hnew : ∃ (A1 : Option Addr) (c1 : Nat) (k1 : Hp), v1 = .slice A1 l1.length c1 ∧ ars d T A1 c1 l1 k1 ∧ le k1 (hpOf w1) ∧ ∀ m : Hp, apart h1 m → le m (hpOf w) → apart k1 m := by
    rcases hown.2 with ⟨rfl, h0⟩ | ⟨g, cap, cur, rfl, _, hh, hnc, hcm, hcs, ht⟩
    · have : l1 = [] := List.eq_nil_of_length_eq_zero h0
      subst this
      exact ⟨none, 0, nothing, rfl, .inl ⟨rfl, rfl, rfl⟩, nothing_le _, fun m _ _ => nothing_apart m⟩
    · refine ⟨some ⟨g, 0, none⟩, cap, one g (.cells cur T (0, 0)), rfl, .inr ⟨g, cur, rfl, one_self _ _, hnc, hcm, hcs, ht⟩, one_le hh, fun m hm hl => ?_⟩
      refine (apart_one ?_).symm
      rcases hat with q | q
      · have hq : (Value.slice A m0 c).ownBlock = some g := by rw [← q]; rfl
        obtain ⟨z', hz'⟩ := a.block hq
        rcases hm g with r | r
        · rw [hz'] at r; cases r
        · exact r
      · have : g = w.heap.size := by simpa [Value.ownBlock] using q
        rw [this]; exact hfresh m hl
  obtain ⟨A1, c1, k1, rfl, ha1, hl1, hap⟩ := hnew
  have l2w : le h2 (hpOf w) := s2.trans o.l1
  refine ⟨A1, c1, rfl, both k1 h2, hI, ?_, o.facts, o.base, ?_, ?_, o.d3, ?_, hother _ dI o.l2, hother _ dR o.l3, hg.os.trans o.os, hg.tape.trans o.tape, hg.output.trans o.output⟩
  · exact Sep.put i hi (hap _ dd l2w) (le_both_left _ _) (le_both_right (hap _ dd l2w)) ha1 s
  · exact apart_both (hap _ dI o.l2) (o.d1.mono_left s2)
  · exact apart_both (hap _ dR o.l3) (o.d2.mono_left s2)
  · exact both_le hl1 (hother _ dd l2w)

/-! ### Readings -/
theorem e_rd {α : Type} {d : Ty α} {A : Option Addr} {c : Nat} {l : List α} (i : Nat) (hi : I[i]? = some (rd d A c l)) (hne : 0 < l.length) (h : ∀ b o, A = some ⟨b, o, none⟩ → Ent n C e D L (cellsAt b o (d.cells l) :: I) X) : Ent n C e D L I X := fun a w kn s dd ho => by
  obtain ⟨h0, hI, o⟩ := ho
  obtain ⟨_, _, hr⟩ := o.facts _ (List.mem_of_getElem? hi) hI (le.refl _)
  obtain ⟨b, off, hA, hc⟩ := hr hne
  refine h b off hA a w kn s dd ⟨h0, hI, o.sep, Facts.cons (fun k hk => ?_) o.facts, o.base, o.d1, o.d2, o.d3, o.l1, o.l2, o.l3, o.os, o.tape, o.output⟩
  obtain ⟨cur, T, fr, hb, hcc⟩ := hc
  exact ⟨cur, T, fr, hk _ _ hb, hcc⟩
/-- What a reading says of lengths. -/
theorem e_len {α : Type} {d : Ty α} {A : Option Addr} {c : Nat} {l : List α} (i : Nat) (hi : I[i]? = some (rd d A c l)) (h : l.length ≤ c → l.length ≤ 9223372036854775807 → Ent n C e D L I X) : Ent n C e D L I X := fun a w kn s dd ho => by
  obtain ⟨h0, hI, o⟩ := ho
  obtain ⟨h1, h2, _⟩ := o.facts _ (List.mem_of_getElem? hi) hI (le.refl _)
  exact h h1 h2 a w kn s dd ⟨h0, hI, o⟩
theorem e_fact {φ : Atom} (hφ : ∀ h hI : Hp, Facts I hI → ∀ k, le hI k → φ k) (h : Ent n C e D L (φ :: I) X) : Ent n C e D L I X := fun a w kn s dd ho => by
  obtain ⟨h0, hI, o⟩ := ho
  exact h a w kn s dd ⟨h0, hI, o.sep, Facts.cons (fun k hk => hφ h0 hI o.facts k hk) o.facts, o.base, o.d1, o.d2, o.d3, o.l1, o.l2, o.l3, o.os, o.tape, o.output⟩
/-- The cells of one element. -/
theorem e_elem {α : Type} {d : Ty α} {b o : Nat} {l : List α} (i k : Nat) (hi : I[i]? = some (cellsAt b o (d.cells l))) (hk : k < l.length) (h : ∀ x, l[k]? = some x → Ent n C e D L (cellsAt b (o + k * d.sz) (d.enc x) :: I) X) : Ent n C e D L I X := by
  have hx : l[k]? = some l[k] := List.getElem?_eq_getElem hk
  refine e_fact (fun _ hI hf q hq => ?_) (h _ hx)
  exact (hf _ (List.mem_of_getElem? hi) q hq).part _ _ (d.cells_at hx)
/-- A list of the call's own that is written no more. -/
theorem e_still {α : Type} {d : Ty α} {T : TypeId} {A : Option Addr} {c : Nat} {l : List α} (i : Nat) (hi : L[i]? = some (ars d T A c l)) (h : Ent n C e D (L.eraseIdx i) (rd d A c l :: I) X) : Ent n C e D L I X := fun a w kn s dd ho => by
  obtain ⟨h0, hI, o⟩ := ho
  obtain ⟨h1, h2, ap, l1, l2, ha, hs⟩ := Sep.take i hi o.sep
  refine h a w kn s dd ⟨h2, both hI h1, hs, Facts.cons (fun k hk => ?_) (o.facts.up (le_both_left _ _)), o.base.trans (le_both_left _ _), apart_both' (o.d1.mono_left l2) ap.symm, o.d2.mono_left l2, apart_both o.d3 (o.d2.mono_left l1), l2.trans o.l1, both_le o.l2 (l1.trans o.l1), o.l3, o.os, o.tape, o.output⟩
  have hl : le h1 k := (le_both_right ((o.d1.mono_left l1).symm)).trans hk
  obtain ⟨q1, q2, q3⟩ := ha.reads
  refine ⟨q1, q2, fun hp => ?_⟩
  obtain ⟨b, off, hA, cur, T', fr, hb, hc⟩ := q3 hp
  exact ⟨b, off, hA, cur, T', fr, hl _ _ hb, hc⟩
/-- A block of the call's own that is written no more. -/
theorem e_calm {b T : Nat} {cs : List Value} (i : Nat) (hi : L[i]? = some (pt b cs T)) (h : Ent n C e D (L.eraseIdx i) (cellsAt b 0 cs :: I) X) : Ent n C e D L I X := fun a w kn s dd ho => by
  obtain ⟨h0, hI, o⟩ := ho
  obtain ⟨h1, h2, ap, l1, l2, ha, hs⟩ := Sep.take i hi o.sep
  refine h a w kn s dd ⟨h2, both hI h1, hs, Facts.cons (fun k hk => ?_) (o.facts.up (le_both_left _ _)), o.base.trans (le_both_left _ _), apart_both' (o.d1.mono_left l2) ap.symm, o.d2.mono_left l2, apart_both o.d3 (o.d2.mono_left l1), l2.trans o.l1, both_le o.l2 (l1.trans o.l1), o.l3, o.os, o.tape, o.output⟩
  have hl : le h1 k := (le_both_right ((o.d1.mono_left l1).symm)).trans hk
  exact ⟨cs.toArray, T, (0, 0), hl _ _ ha, fun j v hj => by simpa using hj⟩
/-- A new literal as a list that is read. -/
theorem e_lit {α : Type} (d : Ty α) {b : Nat} {cs : List Value} (l : List α) (i : Nat) (hi : I[i]? = some (cellsAt b 0 cs)) (hl : d.cells l = cs) (hm : l.length ≤ 9223372036854775807) (h : Ent n C e D L (rd d (some ⟨b, 0, none⟩) l.length l :: I) X) : Ent n C e D L I X := by
  refine e_fact (fun _ hI hf q hq => ?_) h
  refine ⟨Nat.le_refl _, hm, fun _ => ⟨b, 0, rfl, ?_⟩⟩
  rw [hl]; exact hf _ (List.mem_of_getElem? hi) q hq
theorem e_rdnil {α : Type} (d : Ty α) (A : Option Addr) (c : Nat) (h : Ent n C e D L (rd d A c [] :: I) X) : Ent n C e D L I X :=
  e_fact (fun _ hI hf q hq => ⟨Nat.zero_le _, by simp, fun h => absurd h (by simp)⟩) h
/-- Nil is an empty list of the call's own. -/
theorem e_nil {α : Type} (d : Ty α) (T : TypeId) (h : Ent n C e D (ars d T none 0 [] :: L) I X) : Ent n C e D L I X := fun a w kn s dd ho => by
  obtain ⟨h0, hI, o⟩ := ho
  exact h a w kn s dd ⟨h0, hI, ⟨nothing, h0, nothing_apart _, nothing_le _, le.refl _, .inl ⟨rfl, rfl, rfl⟩, o.sep⟩, o.facts, o.base, o.d1, o.d2, o.d3, o.l1, o.l2, o.l3, o.os, o.tape, o.output⟩

/-- Loads by a fact. -/
theorem o_ldf {dt : Tmp} {x : Operand} {t : TypeId} {ty : TypeId} {pos : String} {aft : Array Edge} {g : Option (Nat × Bool)} {b o : Nat} {cs : List Value} {v : Value} {d : TypeDesc} (i j : Nat)
    (hi : I[i]? = some (cellsAt b o cs)) (hx : ev e x = some (.pointer (some ⟨b, o + j, none⟩))) (hv : cs[j]? = some v) (hu : P.underlying t = some d) (ha : aggD d = false) (hd : Nat.blt dt n = true)
    (h : Ent n C ((dt, v) :: e) D L I K) : Ent n C e D L I (ow ro P ⟨some dt, .load t x, ty, pos, aft, g⟩ Q K) :=
  ow_pure rfl hd (by simp) (fun a w kn ho => by
    obtain ⟨h1, hl, hA⟩ := ho.fact (List.mem_of_getElem? hi)
    have hr := run_load1 (P := P) hu ha ((hA h1 (le.refl _)).cell hl hv)
    simp only [execOp, kn.eval hx, Sem.run_bind, hr, Result.andThen_ok, Sem.run_pure]) h
theorem o_ldnf {dt : Tmp} {x : Operand} {t : TypeId} {ty : TypeId} {pos : String} {aft : Array Edge} {g : Option (Nat × Bool)} {b o : Nat} {cs vs : List Value} {d : TypeDesc} (i j m : Nat)
    (hi : I[i]? = some (cellsAt b o cs)) (hx : ev e x = some (.pointer (some ⟨b, o + j, none⟩))) (hv : (cs.drop j).take m = vs) (hm : Nat.beq vs.length m = true) (hu : P.underlying t = some d) (ha : aggD d = true) (hsz : P.cellsOf t = m) (hin : (P.info? t).isSome = true) (hd : Nat.blt dt n = true)
    (h : Ent n C ((dt, .agg vs.toArray) :: e) D L I K) : Ent n C e D L I (ow ro P ⟨some dt, .load t x, ty, pos, aft, g⟩ Q K) :=
  ow_pure rfl hd (by simp) (fun a w kn ho => by
    obtain ⟨h1, hl, hA⟩ := ho.fact (List.mem_of_getElem? hi)
    have hm' := Nat.eq_of_beq_eq_true hm
    have hp := (hA h1 (le.refl _)).part j m hv
    have hr := run_loadn (P := P) hu ha (w := w) (p := ⟨b, o + j, none⟩) vs (by rw [hsz, hm']) hin (fun q v hq => by rw [add_none]; exact hp.cell hl hq)
    simp only [execOp, kn.eval hx, Sem.run_bind, hr, Result.andThen_ok, Sem.run_pure]) h
theorem held_fact {b o j : Nat} {cs : List Value} {v : Value} {r : List (Addr × Value)} (i : Nat) (hi : I[i]? = some (cellsAt b o cs)) (hv : cs[j]? = some v) (h : ∀ w, Own C L I w → Held r w) : ∀ w, Own C L I w → Held ((⟨b, o + j, none⟩, v) :: r) w :=
  fun w ho p hp => by
    rcases List.mem_cons.1 hp with rfl | hp
    · obtain ⟨h1, hl, hA⟩ := ho.fact (List.mem_of_getElem? hi)
      exact (hA h1 (le.refl _)).cell hl hv
    · exact h w ho p hp
/-- What a held cell yields: q is its place in H. -/
def Hs (P : Program) (e : Env) (H : List (Addr × Value)) (o : Oper) (v : Value) : Prop := ∀ a w, Knows e a → Held H w → (execOp a.eval o).run P w = .ok (.value v) w
theorem h_ld {d : Option Tmp} {x : Operand} {t : TypeId} {ty : TypeId} {pos : String} {aft : Array Edge} {g : Option (Nat × Bool)} {p : Addr} {v : Value} {dd : TypeDesc} (q : Nat) (hx : ev e x = some (.pointer (some p))) (hq : H[q]? = some (p, v)) (hu : P.underlying t = some dd) (ha : aggD dd = false) : Hs P e H ⟨d, .load t x, ty, pos, aft, g⟩ v := fun a w kn hh => by
  have hr := run_load1 (P := P) hu ha (hh _ (List.mem_of_getElem? hq))
  simp only [execOp, kn.eval hx, Sem.run_bind, hr, Result.andThen_ok, Sem.run_pure]
theorem h_ldn {d : Option Tmp} {x : Operand} {t : TypeId} {ty : TypeId} {pos : String} {aft : Array Edge} {g : Option (Nat × Bool)} {b o : Nat} {vs : List Value} {dd : TypeDesc} (q m : Nat) (hx : ev e x = some (.pointer (some ⟨b, o, none⟩))) (hq : (H.drop q).take m = vs.zipIdx.map (fun p => (⟨b, o + p.2, none⟩, p.1))) (hm : Nat.beq vs.length m = true) (hu : P.underlying t = some dd) (ha : aggD dd = true) (hsz : P.cellsOf t = m) (hin : (P.info? t).isSome = true) :
    Hs P e H ⟨d, .load t x, ty, pos, aft, g⟩ (.agg vs.toArray) := fun a w kn hh => by
  have hm' := Nat.eq_of_beq_eq_true hm
  have hr := run_loadn (P := P) hu ha (w := w) (p := ⟨b, o, none⟩) vs (by rw [hsz, hm']) hin (fun j v hj => by
    rw [add_none]
    have hmem : ((⟨b, o + j, none⟩ : Addr), v) ∈ (H.drop q).take m := by
      rw [hq]
      exact List.mem_map.2 ⟨(v, j), List.mk_mem_zipIdx_iff_getElem?.2 hj, rfl⟩
    exact hh (⟨b, o + j, none⟩, v) (List.mem_of_mem_drop (List.mem_of_mem_take hmem)))
  simp only [execOp, kn.eval hx, Sem.run_bind, hr, Result.andThen_ok, Sem.run_pure]

/-! ### Indices and cuts -/
theorem y_ix {α : Type} {d : Ty α} {dd : Option Tmp} {x i : Operand} {t el : TypeId} {ty : TypeId} {pos : String} {aft : Array Edge} {g : Option (Nat × Bool)} {b o m c : Nat} {z : Int} (k : Nat) (hx : ev e x = some (.slice (some ⟨b, o, none⟩) m c)) (hz : ev e i = some (.int .i64 z)) (hk : z = (k : Int)) (hlt : k < m) (ht : P.underlying t = some (.slice el)) (hsz : P.cellsOf el = d.sz) (hin : (P.info? el).isSome = true) :
    Ys P e ⟨dd, .indexAddr t x i, ty, pos, aft, g⟩ (.pointer (some ⟨b, o + k * d.sz, none⟩)) := fun a w kn => by
  subst hk
  obtain ⟨inf, hin⟩ := Option.isSome_iff_exists.1 hin
  have hs : inf.size = d.sz := by simpa [Program.cellsOf, hin] using hsz
  have h1 : (sizeOf el).run P w = .ok d.sz w := by simp [sizeOf, typeInfo, hin, hs]
  simp only [execOp, kn.eval hx, kn.eval hz, Instr.indexAt, asIntOf, Sem.run_bind, Sem.run_pure, Result.andThen_ok, run_underlying ht]
  rw [if_pos ⟨by omega, by omega⟩]
  simp only [Sem.run_bind, h1, Result.andThen_ok, Sem.run_pure, Int.toNat_natCast, add_none]
/-- The bounds of a cut, as numbers. -/
def bnd (lo : Option Operand) (e : Env) (dflt : Nat) (r : Nat) : Prop := match lo with | none => r = dflt | some x => ev e x = some (.int .i64 (r : Int))
theorem e_cutl {α : Type} {d : Ty α} {A : Option Addr} {c : Nat} {l : List α} {t el : TypeId} (P : Program) (i lo hi mx : Nat) (three : Bool) (hi' : I[i]? = some (rd d A c l)) (ht : P.underlying t = some (.slice el)) (hsz : P.cellsOf el = d.sz) (hin : (P.info? el).isSome = true) (h0 : lo ≤ hi) (h1 : hi ≤ l.length) (h2 : hi ≤ mx) (h3 : three = true → mx ≤ c) (h4 : three = false → mx = c)
    (h : ∀ A1, (∀ w, (do let size ← sizeOf el; pure (.slice (if mx = lo then A else A.map (·.add (lo * size))) (hi - lo) (mx - lo)) : Sem Value).run P w = .ok (.slice A1 ((l.take hi).drop lo).length (mx - lo)) w) → Ent n C e D L (rd d A1 (mx - lo) ((l.take hi).drop lo) :: I) X) : Ent n C e D L I X := fun a w kn s dd ho => by
  obtain ⟨inf, hin⟩ := Option.isSome_iff_exists.1 hin
  have hs : inf.size = d.sz := by simpa [Program.cellsOf, hin] using hsz
  have hlen : ((l.take hi).drop lo).length = hi - lo := by simp; omega
  refine h (if mx = lo then A else A.map (·.add (lo * d.sz))) (fun w => ?_) a w kn s dd ?_
  · simp [sizeOf, typeInfo, hin, hs, hlen]
  · obtain ⟨h0', hI, o⟩ := ho
    refine ⟨h0', hI, o.sep, Facts.cons (fun k hk => ?_) o.facts, o.base, o.d1, o.d2, o.d3, o.l1, o.l2, o.l3, o.os, o.tape, o.output⟩
    obtain ⟨q1, q2, q3⟩ := o.facts _ (List.mem_of_getElem? hi') k hk
    refine ⟨by omega, by omega, fun hp => ?_⟩
    obtain ⟨b, off, rfl, hc⟩ := q3 (by omega)
    refine ⟨b, off + lo * d.sz, ?_, ?_⟩
    · rw [if_neg (by omega)]
      simp [add_none]
    · refine hc.part (lo * d.sz) ((hi - lo) * d.sz) ?_
      rw [← d.cells_drop, ← d.cells_take, List.drop_take]
end
end Go.Sl
/- Ranges over functions: the iterator's word, the round, the statement. -/
set_option linter.unusedVariables false
set_option linter.unusedSimpArgs false
namespace Go.Sl
open Go Go.RowKit

abbrev States := List Atom → List Atom → Prop
/-- A call of yield at these values, from these atoms and facts: it answers b, and leaves a state of 'post b'. -/
def Yl (P : Program) (l : Nat) (vs : List Value) (L I : List Atom) (post : Bool → States) : Prop :=
  ∀ (C : Ctx) (w : World), Own C L I w → ∃ fn tmps assign body, (Instr.yield l vs.toArray).run P w = .ok (.round l fn tmps assign body) w ∧
    RoundIn Fence.wide 0 P l fn tmps assign body w fun e w' => ∃ b, e = .returned (.bool b) ∧ ∃ L' I', post b L' I' ∧ Own C L' I' w'
/-- An iterator over xs: whatever states S k (k rounds are over) and X k (round k has left) the rounds keep to. 'fin' tells what becomes of its own atoms. -/
def It (P : Program) (f : FuncId) (cap : List Value) (Li Ii : List Atom) (xs : List (List Value)) (fin : List Atom → Prop) : Prop :=
  ∀ (l : Nat) (S X : Nat → States) (L0 I0 : List Atom), S 0 L0 I0 →
    (∀ k x L I, xs[k]? = some x → S k L I → Yl P l x L I fun b L' I' => (b = true ∧ S (k + 1) L' I') ∨ (b = false ∧ X k L' I')) →
    Con P f (.func (.yield l) #[] #[] :: cap) (Li ++ L0) (Ii ++ I0) fun v L' I' => ∃ L1 L2, L' = L1 ++ L2 ∧ fin L1 ∧ (S xs.length L2 I' ∨ ∃ k, k < xs.length ∧ X k L2 I')

/-- The same, its own atoms told apart: at the end, and where round k has left. -/
def It2 (P : Program) (f : FuncId) (cap : List Value) (Li Ii : List Atom) (xs : List (List Value)) (fin : List Atom → Prop) (finX : Nat → List Atom → Prop) : Prop :=
  ∀ (l : Nat) (S X : Nat → States) (L0 I0 : List Atom), S 0 L0 I0 →
    (∀ k x L I, xs[k]? = some x → S k L I → Yl P l x L I fun b L' I' => (b = true ∧ S (k + 1) L' I') ∨ (b = false ∧ X k L' I')) →
    Con P f (.func (.yield l) #[] #[] :: cap) (Li ++ L0) (Ii ++ I0) fun v L' I' => ∃ L1 L2, L' = L1 ++ L2 ∧ ((fin L1 ∧ S xs.length L2 I') ∨ ∃ k, k < xs.length ∧ finX k L1 ∧ X k L2 I')
theorem It.two {P : Program} {f : FuncId} {cap : List Value} {Li Ii : List Atom} {xs : List (List Value)} {fin : List Atom → Prop} (h : It P f cap Li Ii xs fin) : It2 P f cap Li Ii xs fin (fun _ => fin) := fun l S X L0 I0 h0 hY =>
  (h l S X L0 I0 h0 hY).mono fun v L' I' ⟨L1, L2, e, hf, hs⟩ => ⟨L1, L2, e, hs.elim (fun q => .inl ⟨hf, q⟩) (fun ⟨k, hk, q⟩ => .inr ⟨k, hk, hf, q⟩)⟩

section
variable {n : Nat} {C : Ctx} {e : Env} {D : List Deferred} {L I : List Atom} {P : Program} {ro : Option Nat} {Q : Exit → Act → World → Prop} {K X : Act → World → Prop}

theorem run_getLoop {w : World} {l : Nat} {r : Loop} (h : w.heap[l]? = some (.loop r)) : (Instr.getLoop l).run P w = .ok r w := by
  simp [Instr.getLoop, getObj, Sem.run, Sem.run_bind', h]
theorem run_setLoop {w : World} {l : Nat} {r r' : Loop} (h : w.heap[l]? = some (.loop r)) : (setObj l (.loop r')).run P w = .ok () { w with heap := w.heap.setIfInBounds l (.loop r') } := by
  simp [setObj, Sem.run, h]
theorem run_beginRound {w : World} {l : Nat} {r : Loop} (h : w.heap[l]? = some (.loop r)) (hr : r.state = .ready) : (Instr.beginRound l).run P w = .ok () { w with heap := w.heap.setIfInBounds l (.loop { r with state := .busy }) } := by
  simp [Instr.beginRound, Sem.run_bind, run_getLoop h, run_setLoop h, hr]
theorem run_endRound {w : World} {l : Nat} {r : Loop} (h : w.heap[l]? = some (.loop r)) (j : Option Code) : (Instr.endRound l j).run P w = .ok (.bool j.isNone) { w with heap := w.heap.setIfInBounds l (.loop { r with state := if j.isNone then .ready else .done, pending := j }) } := by
  simp [Instr.endRound, Sem.run_bind, run_getLoop h, run_setLoop h]
theorem run_endLoop {w : World} {l : Nat} {r : Loop} (h : w.heap[l]? = some (.loop r)) (hr : r.state ≠ .busy) : (Instr.endLoop l).run P w = .ok r.pending { w with heap := w.heap.setIfInBounds l (.loop { r with state := .exhausted }) } := by
  simp [Instr.endLoop, Sem.run_bind, run_getLoop h, run_setLoop h, hr]
theorem run_yield {w : World} {l : Nat} {r : Loop} (h : w.heap[l]? = some (.loop r)) {vs : Array Value} (hs : vs.size = r.params.size) : (Instr.yield l vs).run P w = .ok (.round l r.fn ((r.params.zip vs).foldl (fun tmps (t, a) => tmps.setIfInBounds t a) r.tmps) r.assign r.body) w := by
  simp [Instr.yield, Sem.run_bind, run_getLoop h, hs]

def rdyL (r : Loop) : Loop := { r with state := .ready, pending := none }
def busyL (r : Loop) : Loop := { r with state := .busy, pending := none }
def doneL (r : Loop) (c : Code) : Loop := { r with state := .done, pending := some c }
def binds : List Tmp → List Value → Env → Env
  | t :: ts, v :: vs, e => binds ts vs ((t, v) :: e)
  | _, _, e => e
theorem binds_knows : ∀ (ps : List Tmp) (vs : List Value) (e : Env) (a : Act), Knows e a → (ps.all fun t => Nat.blt t a.tmps.size) = true →
    Knows (binds ps vs e) { a with tmps := (ps.zip vs).foldl (fun tmps p => tmps.setIfInBounds p.1 p.2) a.tmps } ∧ ((ps.zip vs).foldl (fun tmps p => tmps.setIfInBounds p.1 p.2) a.tmps).size = a.tmps.size
  | [], vs, e, a, k, _ => by cases vs <;> exact ⟨k, rfl⟩
  | t :: ts, [], e, a, k, _ => ⟨k, rfl⟩
  | t :: ts, v :: vs, e, a, k, h => by
    simp only [List.all_cons, Bool.and_eq_true] at h
    have hlt : t < a.tmps.size := by simpa using h.1
    have k' := k.put (v := v) hlt
    have := binds_knows ts vs ((t, v) :: e) { a with tmps := a.tmps.setIfInBounds t v } k' (by simpa using h.2)
    simpa [binds] using this

/-- What a round's body comes to. -/
def RoundR (C' : Ctx) (S1 : States) (X1 : States) : Ending → World → Prop := fun e w' => ∃ b, e = .returned (.bool b) ∧ ∃ L' I', ((b = true ∧ S1 L' I') ∨ (b = false ∧ X1 L' I')) ∧ Own C' L' I' w'
def SL (l : Nat) (r : Loop) (S : States) : States := fun L I => ∃ L1, L = ob l (.loop (rdyL r)) :: L1 ∧ S L1 I
def XL (l : Nat) (r : Loop) (X : Code → States) : States := fun L I => ∃ c L1, L = ob l (.loop (doneL r c)) :: L1 ∧ X c L1 I
abbrev rq (P : Program) (l : Nat) (r : Loop) (C' : Ctx) (S1 : States) (X1 : Code → States) : Exit → Act → World → Prop := roundPost P l (RoundR C' (SL l r S1) (XL l r X1))
/-- Behind the assignment to the loop's left sides. -/
def rb (P : Program) (l : Nat) (body : Code) (q : Exit → Act → World → Prop) : Act → World → Prop := fun a w => ∃ w₂, (Instr.beginRound l).run P w = .ok () w₂ ∧ cw (some l) P body q a w₂
def never : Exit → Act → World → Prop := fun _ _ _ => False

theorem r_begin {l : Nat} {r : Loop} {body : Code} (i : Nat) (hi : L[i]? = some (ob l (.loop (rdyL r)))) (h : Ent n C e D (L.set i (ob l (.loop (busyL r)))) I (cw (some l) P body Q)) : Ent n C e D L I (rb P l body Q) := fun a w kn s d ho => by
  obtain ⟨ho', hw⟩ := write_own (y := .loop (busyL r)) ho i hi
  refine ⟨_, run_beginRound hw rfl, ?_⟩
  exact h a _ kn s d ho'
theorem r_end {l : Nat} {r : Loop} {S1 : States} {X1 : Code → States} {L2 Lr I2 : List Atom} (i : Nat) (ix jx : List Nat) (hi : L[i]? = some (ob l (.loop (busyL r)))) (hp : pull (L.eraseIdx i) ix = some (L2, Lr)) (hI : picks I jx = some I2) (hS : S1 L2 I2) : Ent n C e D L I (rq P l r C S1 X1 .normal) := fun a w kn s d ho => by
  obtain ⟨ho', hw⟩ := write_own (y := .loop (rdyL r)) ho i hi
  refine ⟨_, _, run_endRound hw none, true, rfl, ob l (.loop (rdyL r)) :: L2, I2, .inl ⟨rfl, L2, rfl, hS⟩, ?_⟩
  have hi2 : (L.set i (ob l (.loop (rdyL r))))[i]? = some (ob l (.loop (rdyL r))) := by
    have hlt := (List.getElem?_eq_some_iff.1 hi).1
    simp [hlt]
  have he : (L.set i (ob l (.loop (rdyL r)))).eraseIdx i = L.eraseIdx i := by
    rw [List.eraseIdx_set_eq]
  refine Own.sub (ix := i :: ix) (Lr := Lr) ho' ?_ (picks_mem hI)
  unfold pull
  rw [hi2, he, hp]
theorem r_left {l : Nat} {r : Loop} {S1 : States} {X1 : Code → States} {L2 Lr I2 : List Atom} {x : Exit} {c : Code} (i : Nat) (ix jx : List Nat) (hc : x = .ret ∧ c = .ret ∨ (∃ id, x = .exit id ∧ c = .exit id) ∨ ∃ t, x = .goto t ∧ c = .goto t) (hi : L[i]? = some (ob l (.loop (busyL r)))) (hp : pull (L.eraseIdx i) ix = some (L2, Lr)) (hI : picks I jx = some I2) (hS : X1 c L2 I2) : Ent n C e D L I (rq P l r C S1 X1 x) := fun a w kn s d ho => by
  obtain ⟨ho', hw⟩ := write_own (y := .loop (doneL r c)) ho i hi
  have hi2 : (L.set i (ob l (.loop (doneL r c))))[i]? = some (ob l (.loop (doneL r c))) := by
    have hlt := (List.getElem?_eq_some_iff.1 hi).1
    simp [hlt]
  have he : (L.set i (ob l (.loop (doneL r c)))).eraseIdx i = L.eraseIdx i := by
    rw [List.eraseIdx_set_eq]
  have fin : RoundR C (SL l r S1) (XL l r X1) (.returned (.bool false)) { w with heap := w.heap.setIfInBounds l (.loop (doneL r c)) } := by
    refine ⟨false, rfl, ob l (.loop (doneL r c)) :: L2, I2, .inr ⟨rfl, c, L2, rfl, hS⟩, ?_⟩
    refine Own.sub (ix := i :: ix) (Lr := Lr) ho' ?_ (picks_mem hI)
    unfold pull
    rw [hi2, he, hp]
  rcases hc with ⟨rfl, rfl⟩ | ⟨id, rfl, rfl⟩ | ⟨t, rfl, rfl⟩
  · exact ⟨_, _, run_endRound hw (some .ret), fin⟩
  · exact ⟨_, _, run_endRound hw (some (.exit id)), fin⟩
  · exact ⟨_, _, run_endRound hw (some (.goto t)), fin⟩

def markD (b : Nat) : Deferred := { target := .collected b, args := #[] }
/-- The statement. -/
theorem c_range2 {fo : Operand} {ps : List Tmp} {assign body : Code} {f : FuncId} {cap : List Value} {xs : List (List Value)} {Li Ii Lr L0 I0 : List Atom} {fin : List Atom → Prop} {finX : Nat → List Atom → Prop} (S : Nat → States) (X : Nat → Code → States) (ix jx : List Nat)
    (it : It2 P f cap Li Ii xs fin finX) (hx : ev e fo = some (.func (.func f) #[] cap.toArray)) (hp : pull L ix = some (Li ++ L0, Lr)) (hI : picks I jx = some (Ii ++ I0)) (h0 : S 0 L0 I0) (hlen : ∀ x ∈ xs, x.length = ps.length) (hps : (ps.all fun t => Nat.blt t n) = true)
    (hround : ∀ C' l r k x L I, xs[k]? = some x → S k L I → Ent n C' (binds ps x e) [] (ob l (.loop (rdyL r)) :: L) I (cw (some l) P assign (Exit.then (rb P l body (rq P l r C' (S (k + 1)) (X k))) never)))
    (hdone : ∀ b L1 L2 I2, fin L1 → S xs.length L2 I2 → Ent n C e (markD b :: D) (ob b (.deferred (some [])) :: (L1 ++ L2 ++ Lr)) (I2 ++ I) (Q .normal))
    (hleft : ∀ b k c L1 L2 I2, k < xs.length → finX k L1 → X k c L2 I2 → Ent n C e (markD b :: D) (ob b (.deferred (some [])) :: (L1 ++ L2 ++ Lr)) (I2 ++ I) (cw none P c Q)) :
    Ent n C e D L I (cw none P (.rangeFunc fo ps.toArray assign body) Q) := fun a w kn s d ho => by
  refine wpIn_rangeFunc (fun fn _ => ?_)
  let bD := w.heap.size
  let w1 : World := { w with heap := w.heap.push (.deferred (some [])) }
  let r : Loop := { state := .ready, pending := none, fn := fn, tmps := a.tmps, params := ps.toArray, assign := assign, body := body, defers := bD }
  let l := w1.heap.size
  let w2 : World := { w1 with heap := w1.heap.push (.loop r) }
  have o1 : Own C (ob bD (.deferred (some [])) :: L) I w1 := alloc_own ho _
  have o2 : Own C (ob l (.loop r) :: ob bD (.deferred (some [])) :: L) I w2 := alloc_own o1 _
  have hr : rdyL r = r := rfl
  -- the call
  have hS0 : SL l r (S 0) (ob l (.loop (rdyL r)) :: L0) I0 := ⟨L0, rfl, h0⟩
  have hcon := it l (fun k => SL l r (S k)) (fun k => XL l r (X k)) (ob l (.loop (rdyL r)) :: L0) I0 hS0 (fun k x L I hk hs => by
    obtain ⟨L1, rfl, hs⟩ := hs
    intro C' w' ho'
    obtain ⟨h1, hle, hA⟩ := ho'.atom 0 rfl
    have hw' : w'.heap[l]? = some (.loop r) := hle _ _ hA
    have hxl : x.length = ps.length := hlen x (List.mem_of_getElem? hk)
    refine ⟨_, _, _, _, run_yield hw' (by show x.toArray.size = ps.toArray.size; simpa using hxl), ?_⟩
    have hb := binds_knows ps x e { tmps := a.tmps, defers := [] } kn (by simpa [s] using hps)
    have hz : ((ps.toArray.zip x.toArray).foldl (fun tmps (t, a) => tmps.setIfInBounds t a) a.tmps) = (ps.zip x).foldl (fun tmps p => tmps.setIfInBounds p.1 p.2) a.tmps := by
      simp
    refine roundIn_of_wpIn (F := Fence.wide) trivial ?_
    show cw (some l) P assign _ _ _
    rw [show r.params = ps.toArray from rfl, show r.tmps = a.tmps from rfl, hz]
    have := hround C' l r k x L1 I hk hs { tmps := (ps.zip x).foldl (fun tmps p => tmps.setIfInBounds p.1 p.2) a.tmps, defers := [] } w' hb.1 (hb.2.trans s) rfl ho'
    exact this)
  have hmove : Own C (ob l (.loop (rdyL r)) :: ob bD (.deferred (some [])) :: (Li ++ L0 ++ Lr)) I w2 := by
    obtain ⟨h, hI0, o⟩ := o2
    obtain ⟨k1, k2, d1, l1, l2, s1, s2⟩ := o.sep
    obtain ⟨m1, m2, d2, l3, l4, s3, s4⟩ := s2
    obtain ⟨q1, q2, d3, l5, l6, s5, s6⟩ := Sep.pull hp s4
    refine ⟨h, hI0, ⟨k1, k2, d1, l1, l2, s1, m1, m2, d2, l3, l4, s3, (Sep.join d3 s5 s6).up (both_le l5 l6)⟩, o.facts, o.base, o.d1, o.d2, o.d3, o.l1, o.l2, o.l3, o.os, o.tape, o.output⟩
  -- the callee's atoms, and what stays
  have hlist : ∃ ix', pull (ob l (.loop (rdyL r)) :: ob bD (.deferred (some [])) :: (Li ++ L0 ++ Lr)) ix' = some (Li ++ ob l (.loop (rdyL r)) :: L0, ob bD (.deferred (some [])) :: Lr) := by
    have hrep : ∀ (M N : List Atom) (A : Atom), pull (A :: (M ++ N)) (List.replicate M.length 1) = some (M, A :: N) := by
      intro M
      induction M with
      | nil => intro N A; rfl
      | cons B M ih =>
        intro N A
        show pull (A :: B :: (M ++ N)) (1 :: List.replicate M.length 1) = _
        unfold pull
        simp only [List.getElem?_cons_succ, List.getElem?_cons_zero, List.eraseIdx_cons_succ, List.eraseIdx_cons_zero]
        rw [ih N A]
    have happ : ∀ (p q : List Nat) (L M R M' R' : List Atom), pull L p = some (M, R) → pull R q = some (M', R') → pull L (p ++ q) = some (M ++ M', R') := by
      intro p
      induction p with
      | nil =>
        intro q L M R M' R' h1 h2
        simp only [pull, Option.some.injEq, Prod.mk.injEq] at h1
        obtain ⟨rfl, rfl⟩ := h1
        simpa using h2
      | cons i p ih =>
        intro q L M R M' R' h1 h2
        unfold pull at h1
        cases hi : L[i]? with
        | none => rw [hi] at h1; cases h1
        | some A =>
          rw [hi] at h1
          cases hq : pull (L.eraseIdx i) p with
          | none => rw [hq] at h1; cases h1
          | some z =>
            obtain ⟨M1, R1⟩ := z
            rw [hq] at h1
            simp only [Option.some.injEq, Prod.mk.injEq] at h1
            obtain ⟨rfl, rfl⟩ := h1
            show pull L (i :: (p ++ q)) = _
            unfold pull
            rw [hi]
            simp only
            rw [ih q _ _ _ _ _ hq h2]
            rfl
    refine ⟨List.replicate Li.length 2 ++ (0 :: List.replicate L0.length 1), ?_⟩
    refine happ _ _ _ Li (ob l (.loop (rdyL r)) :: ob bD (.deferred (some [])) :: (L0 ++ Lr)) _ _ ?_ ?_
    · have hrep2 : ∀ (M N : List Atom) (A B : Atom), pull (A :: B :: (M ++ N)) (List.replicate M.length 2) = some (M, A :: B :: N) := by
        intro M
        induction M with
        | nil => intro N A B; rfl
        | cons E M ih =>
          intro N A B
          show pull (A :: B :: E :: (M ++ N)) (2 :: List.replicate M.length 2) = _
          unfold pull
          simp only [List.getElem?_cons_succ, List.getElem?_cons_zero, List.eraseIdx_cons_succ, List.eraseIdx_cons_zero]
          rw [ih N A B]
      have := hrep2 Li (L0 ++ Lr) (ob l (.loop (rdyL r))) (ob bD (.deferred (some [])))
      simpa [List.append_assoc] using this
    · show pull (ob l (.loop (rdyL r)) :: ob bD (.deferred (some [])) :: (L0 ++ Lr)) (0 :: List.replicate L0.length 1) = _
      unfold pull
      simp only [List.getElem?_cons_zero, List.eraseIdx_cons_zero]
      rw [hrep L0 Lr]
  obtain ⟨ix', hpull⟩ := hlist
  obtain ⟨C', oc, back⟩ := hmove.handed (If := Ii ++ I0) hpull (picks_mem hI)
  have hcalls := hcon.2 C' w2 oc
  have hres : (resolve a.eval (rangeCall fo l) 0).run P w2 = .ok { target := .fn (.func f) cap.toArray, args := #[.func (.yield l) #[] #[]] } w2 := by
    simp only [resolve, rangeCall, kn.eval hx, Deferred.ofValue]
    simp [Act.eval]
  have hinv : (invoke (.fn (.func f) cap.toArray) #[.func (.yield l) #[] #[]]).run P w2 = .ok (.enter f (Value.func (.yield l) #[] #[] :: cap).toArray) w2 := by
    have := run_callFunc (P := P) hcon.1 (#[Value.func (.yield l) #[] #[]] ++ cap.toArray) w2
    simpa [invoke] using this
  refine ⟨l, [markD bD], w2, _, w2, f, _, w2, ?_, hres, fun f' _ => trivial, hinv, fun h => (by cases h), ?_⟩
  · simp [Instr.enterLoop, Fence.wide, fen, newObj, Sem.run, markD, bD, l, w1, w2, r]
  · refine (callsIn_wide.2 hcalls).mono ?_
    rintro x w3 ⟨v, rfl, L', I', ⟨L1, L2, rfl, hend⟩, o3⟩
    have o4 := back _ _ _ o3
    have hde : ([markD bD] ++ a.defers) = markD bD :: D := by rw [d]; rfl
    -- out of what came back: the loop's record
    have key : ∀ (M : List Atom) (y : Loop), L2 = ob l (.loop y) :: M → y.state ≠ .busy → ∃ w4, (Instr.endLoop l).run P w3 = .ok y.pending w4 ∧ Own C (ob bD (.deferred (some [])) :: (L1 ++ M ++ Lr)) (I' ++ I) w4 := by
      rintro M y rfl hy
      have hi : (L1 ++ ob l (.loop y) :: M ++ ob bD (.deferred (some [])) :: Lr)[L1.length]? = some (ob l (.loop y)) := by simp
      obtain ⟨o5, hw⟩ := write_own (y := .loop { y with state := .exhausted }) o4 L1.length hi
      refine ⟨_, run_endLoop hw hy, ?_⟩
      obtain ⟨h, hI0, o⟩ := o5
      have hs : Sep (L1 ++ ob l (.loop { y with state := .exhausted }) :: M ++ ob bD (.deferred (some [])) :: Lr) h := by
        have := o.sep
        simpa using this
      obtain ⟨k1, k2, d1, l1, l2, s1, s2⟩ := Sep.append hs
      obtain ⟨k3, k4, d2, l3, l4, s3, s4⟩ := Sep.append s1
      obtain ⟨k5, k6, d3, l5, l6, _, s5⟩ := s4
      obtain ⟨k7, k8, d4, l7, l8, s6, s7⟩ := s2
      refine ⟨h, hI0, ?_, o.facts, o.base, o.d1, o.d2, o.d3, o.l1, o.l2, o.l3, o.os, o.tape, o.output⟩
      have e1 : apart k3 k6 := d2.mono_right l6
      have e2 : apart (both k3 k6) k8 := (d1.mono_left (both_le l3 (l6.trans l4))).mono_right l8
      have e3 : apart k7 (both (both k3 k6) k8) := apart_both' ((d1.mono_left (both_le l3 (l6.trans l4))).mono_right l7).symm d4
      refine ⟨k7, both (both k3 k6) k8, e3, l7.trans l2, both_le (both_le (l3.trans l1) ((l6.trans l4).trans l1)) (l8.trans l2), s6, ?_⟩
      exact Sep.join e2 (Sep.join e1 s3 s5) s7
    rcases hend with ⟨hf, hs⟩ | ⟨k, hk, hf, hs⟩
    · obtain ⟨M, hM, hs⟩ := hs
      obtain ⟨w4, he, o5⟩ := key M _ hM (by simp [rdyL])
      refine ⟨_, w4, he, ?_⟩
      show Q .normal _ w4
      exact hdone bD L1 M I' hf hs _ w4 kn s hde o5
    · obtain ⟨c, M, hM, hs⟩ := hs
      obtain ⟨w4, he, o5⟩ := key M _ hM (by simp [doneL])
      refine ⟨_, w4, he, ?_⟩
      show cw none P c Q _ w4
      exact hleft bD k c L1 M I' hk hf hs _ w4 kn s hde o5

theorem c_range {fo : Operand} {ps : List Tmp} {assign body : Code} {f : FuncId} {cap : List Value} {xs : List (List Value)} {Li Ii Lr L0 I0 : List Atom} {fin : List Atom → Prop} (S : Nat → States) (X : Nat → Code → States) (ix jx : List Nat)
    (it : It P f cap Li Ii xs fin) (hx : ev e fo = some (.func (.func f) #[] cap.toArray)) (hp : pull L ix = some (Li ++ L0, Lr)) (hI : picks I jx = some (Ii ++ I0)) (h0 : S 0 L0 I0) (hlen : ∀ x ∈ xs, x.length = ps.length) (hps : (ps.all fun t => Nat.blt t n) = true)
    (hround : ∀ C' l r k x L I, xs[k]? = some x → S k L I → Ent n C' (binds ps x e) [] (ob l (.loop (rdyL r)) :: L) I (cw (some l) P assign (Exit.then (rb P l body (rq P l r C' (S (k + 1)) (X k))) never)))
    (hdone : ∀ b L1 L2 I2, fin L1 → S xs.length L2 I2 → Ent n C e (markD b :: D) (ob b (.deferred (some [])) :: (L1 ++ L2 ++ Lr)) (I2 ++ I) (Q .normal))
    (hleft : ∀ b k c L1 L2 I2, k < xs.length → fin L1 → X k c L2 I2 → Ent n C e (markD b :: D) (ob b (.deferred (some [])) :: (L1 ++ L2 ++ Lr)) (I2 ++ I) (cw none P c Q)) :
    Ent n C e D L I (cw none P (.rangeFunc fo ps.toArray assign body) Q) := c_range2 S X ix jx it.two hx hp hI h0 hlen hps hround hdone hleft

/-- The mark is taken off at the return. -/
theorem e_mark {fn : Func} {post : Value → List Atom → List Atom → Prop} {I0 : List Atom} {b : Nat} (i : Nat) (hi : L[i]? = some (ob b (.deferred (some [])))) (h : Ent n C e D (L.set i (ob b (.deferred none))) I (bq P fn C I0 post .ret)) : Ent n C e (markD b :: D) L I (bq P fn C I0 post .ret) := fun a w kn s d ho => by
  obtain ⟨ho', hw⟩ := write_own (y := .deferred none) ho i hi
  have ht : (Instr.takeDeferred b).run P w = .ok [] { w with heap := w.heap.setIfInBounds b (.deferred none) } := by
    simp [Instr.takeDeferred, getObj, setObj, Sem.run, hw]
  have h1 := h { a with defers := D } _ kn s rfl ho'
  show LeavesInM Fence.wide 0 P fn a.tmps _ a.defers .returning w
  rw [d]
  exact ⟨by simp, .inl ⟨b, _, rfl, ht, h1⟩⟩
end
end Go.Sl
