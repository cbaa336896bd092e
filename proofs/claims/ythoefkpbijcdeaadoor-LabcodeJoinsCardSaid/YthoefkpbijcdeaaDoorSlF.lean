/- Regions whose order is left open. What reads may be taken first ('S' is kept till then); of what writes or calls each order is walked. -/
import Derived.Test.YthoefkpbijcdeaaDoorSlE
import Derived.OrdersIn
import Derived.OrdersHeld
set_option linter.unusedVariables false
set_option linter.unusedSimpArgs false
namespace Go.Sl
open Go Go.RowKit

/-- A region is left by its end alone. -/
def only (X : Act → World → Prop) : Exit → Act → World → Prop
  | .normal, a, w => X a w
  | _, _, _ => False
abbrev rdy (ops : Array Oper) (l : Array Bool) : List Nat := Region.ready .any ops l

/-- Operation d waits for operation i. -/
def waits (ops : Array Oper) (i : Nat) : Nat → Nat → Bool
  | 0, _ => false
  | k + 1, d => match ops[d]? with
    | some o => o.after.any fun e => Region.binds .any e && (e.on == i || waits ops i k e.on)
    | none => false
def shutB (ops : Array Oper) (l : Array Bool) : Bool :=
  (List.range ops.size).all fun j => !l.getD j false || match ops[j]? with
    | some o => o.after.all fun e => !Region.binds .any e || l.getD e.on false
    | none => true
def lastB (ops : Array Oper) (l : Array Bool) (ds : List Nat) (i : Nat) : Bool := ds.all fun d => l.getD d true || waits ops i ops.size d
def ShutL (ops : Array Oper) (l : Array Bool) : Prop := ∀ j oj, ops[j]? = some oj → l.getD j false = true → ∀ e ∈ oj.after, Region.binds .any e = true → l.getD e.on false = true
def plainAll (ops : Array Oper) : Bool := ops.all fun o => plainOp o.op

section
variable {P : Program} {ops : Array Oper} {S : World → Prop} {ds : List Nat} {ro : Option Nat} {X : Act → World → Prop}

theorem shutB_spec {l : Array Bool} (h : shutB ops l = true) : ShutL ops l := by
  intro j oj hj hl e he hb
  have hlt : j < ops.size := (Array.getElem?_eq_some_iff.1 hj).1
  have h1 := List.all_eq_true.1 h j (List.mem_range.2 hlt)
  simp only [hl, hj, Bool.not_true, Bool.false_or] at h1
  have h2 := Array.all_eq_true_iff_forall_mem.1 h1 e he
  simpa [hb] using h2
theorem ShutL.set {l : Array Bool} {i : Nat} (h : ShutL ops l) (hi : i ∈ rdy ops l) : ShutL ops (l.setIfInBounds i true) := by
  obtain ⟨_, oi, hoi, hall⟩ := mem_ready.1 hi
  intro j oj hj hl e he hb
  by_cases hij : i = j
  · subst hij
    have : oj = oi := Option.some.inj (hj.symm.trans hoi)
    subst this
    exact getD_set_true (hall e he hb)
  · rw [getD_set_ne false hij] at hl
    exact getD_set_true (h j oj hj hl e he hb)
theorem waits_listed {l : Array Bool} {i : Nat} (hc : ShutL ops l) : ∀ (k d : Nat), waits ops i k d = true → l.getD d false = true → l.getD i false = true
  | 0, _, h, _ => by simp [waits] at h
  | k + 1, d, h, hl => by
    unfold waits at h
    cases ho : ops[d]? with
    | none => rw [ho] at h; simp at h
    | some o =>
      rw [ho] at h
      obtain ⟨e, he, h1⟩ := Array.any_eq_true'.1 h
      simp only [Bool.and_eq_true, Bool.or_eq_true, beq_iff_eq] at h1
      have hle := hc d o ho hl e he h1.1
      rcases h1.2 with h2 | h2
      · rw [← h2]; exact hle
      · exact waits_listed hc k e.on h2 hle
theorem unlisted {l : Array Bool} {i : Nat} (h : l.getD i true = false) : ¬ l.getD i false = true := by
  intro h'
  rcases Nat.lt_or_ge i l.size with k | k
  · simp [k] at h h'; rw [h] at h'; cases h'
  · simp [Array.getElem?_eq_none k] at h
theorem waits_not_ready {l : Array Bool} {i d k : Nat} (hc : ShutL ops l) (hr : waits ops i k d = true) (hun : l.getD i true = false) : d ∉ rdy ops l := by
  intro hd
  obtain ⟨_, o, ho, hall⟩ := mem_ready.1 hd
  refine unlisted hun ?_
  cases k with
  | zero => simp [waits] at hr
  | succ n =>
    unfold waits at hr
    rw [ho] at hr
    obtain ⟨e, he, h1⟩ := Array.any_eq_true'.1 hr
    simp only [Bool.and_eq_true, Bool.or_eq_true, beq_iff_eq] at h1
    have hle := hall e he h1.1
    rcases h1.2 with h2 | h2
    · rw [← h2]; exact hle
    · exact waits_listed hc n e.on h2 hle

/-- Whatever comes up next; behind each (those of ds apart) S is kept. -/
def anyL (ro : Option Nat) (P : Program) (ops : Array Oper) (S : World → Prop) (ds : List Nat) (X : Act → World → Prop) : Nat → Array Bool → Act → World → Prop
  | 0, l, a, w => rdy ops l = [] ∧ X a w
  | k + 1, l, a, w => (rdy ops l = [] → X a w) ∧ ∀ i ∈ rdy ops l, wpOpIn (fen ro) 0 P ops (only X) i (fun a' w' => (i ∉ ds → S w → S w') ∧ anyL ro P ops S ds X k (l.setIfInBounds i true) a' w') a w
theorem any_of : ∀ (k : Nat) (l : Array Bool) (a : Act) (w : World), anyL ro P ops S ds X k l a w → wpAnyIn (fen ro) 0 P .any ops (only X) k l a w
  | 0, _, _, _, h => h
  | k + 1, _, _, _, h => ⟨h.1, fun i hi => wpOpIn_mono (fun a' w' h' => any_of k _ a' w' h'.2) (h.2 i hi)⟩

/-- In this state, in every world that meets S, the operation puts v and does nothing else. -/
def Puts (P : Program) (ops : Array Oper) (S : World → Prop) (o : Oper) (v : Value) (a : Act) : Prop :=
  (Region.wanted o (yielded ops a.tmps) = true ∧ ∀ w, S w → (execOp a.eval o).run P w = .ok (.value v) w) ∨ (Region.wanted o (yielded ops a.tmps) = false ∧ v = undef)
theorem Puts.same {o : Oper} {v : Value} {a a' : Act} (hy : Puts P ops S o v a) (he : execOp a'.eval o = execOp a.eval o) (hw : Region.wanted o (yielded ops a'.tmps) = Region.wanted o (yielded ops a.tmps)) : Puts P ops S o v a' := by
  unfold Puts at *; rw [he, hw]; exact hy
theorem Puts.step {i : Nat} {o : Oper} {v : Value} {a : Act} (hi : ops[i]? = some o) (hnd : ∀ c, o.op ≠ .defer c) (hy : Puts P ops S o v a) {K : Act → World → Prop} {w : World} (hS : S w) (h : K (a.put o.dst v) w) : wpOpIn (fen ro) 0 P ops (only X) i K a w := by
  unfold wpOpIn
  simp only [hi]
  rcases hy with ⟨hw, hv⟩ | ⟨hw, rfl⟩
  · rw [if_pos hw]
    refine ⟨fun f _ => fen_fn ro f, ?_⟩
    rw [Oper.semAt_eq _ _ _ hnd, hv w hS]
    exact h
  · rw [if_neg (by simp [hw])]
    exact ⟨fun f _ => fen_fn ro f, h⟩
theorem put_other {j : Nat} {oi oj : Oper} {v : Value} (hj : ops[j]? = some oj) (hap : oi.apart ops oj = true) (hsi : ∀ cs b, oi.op ≠ .select cs b) (hsj : ∀ cs b, oj.op ≠ .select cs b) (hdj : ∀ c, oj.op ≠ .defer c)
    {K : Act → World → Prop} {a : Act} {w : World} (hy : Puts P ops S oi v a) (h : wpOpIn (fen ro) 0 P ops (only X) j K (a.put oi.dst v) w) :
    wpOpIn (fen ro) 0 P ops (only X) j (fun a' w' => Puts P ops S oi v a' ∧ K (a'.put oi.dst v) w') a w := by
  obtain ⟨h1, h2, h3⟩ := Oper.apart_spec hap
  have keep : ∀ (a : Act), Puts P ops S oi v a → ∀ u, Puts P ops S oi v (a.put oj.dst u) := fun a hy u => hy.same (execOp_put oi hsi a oj.dst u h3) (wanted_put oi a oj.dst u h3)
  have keepD : ∀ d, Puts P ops S oi v { a with defers := d :: a.defers } := fun d => hy.same rfl rfl
  unfold wpOpIn at *
  simp only [hj] at *
  rw [wanted_put oj a oi.dst v h1] at h
  split
  · rename_i hw
    simp only [hw, if_true] at h
    refine ⟨fun f _ => fen_fn ro f, ?_⟩
    have h := h.2
    rw [Oper.semAt_eq _ _ _ hdj, execOp_put oj hsj a oi.dst v h1] at h
    rw [Oper.semAt_eq _ _ _ hdj]
    generalize (execOp a.eval oj).run P w = r at *
    cases r with
    | ok x w' =>
      cases x <;> simp only [Oper.uponIn] at h ⊢
      case value u => exact ⟨keep a hy u, by rw [← Act.put_comm a v u h2]; exact h⟩
      case skip => exact ⟨keep a hy _, by rw [← Act.put_comm a v undef h2]; exact h⟩
      case defer d =>
        refine ⟨keep _ (keepD d) _, ?_⟩
        rw [← Act.put_comm _ v undef h2, ← Act.put_defers]
        exact h
      case enter f args =>
        refine ⟨h.1, CallsIn.mono h.2 fun e w'' he => ?_⟩
        cases e with
        | returned u => exact ⟨keep a hy u, by rw [← Act.put_comm a v u h2]; exact he⟩
        | panicked c => exact he
        | outgrown => exact he
      case row row args => exact ⟨h.1, RowsIn.mono h.2 fun u w'' he => ⟨keep a hy u, by rw [← Act.put_comm a v u h2]; exact he⟩⟩
      case round l f tmps assign body =>
        refine ⟨h.1, RoundIn.mono h.2 fun e w'' he => ?_⟩
        cases e with
        | returned u => exact ⟨keep a hy u, by rw [← Act.put_comm a v u h2]; exact he⟩
        | panicked c => exact he
        | outgrown => exact he
    | halt x w' =>
      cases x <;> simp only [Oper.uponIn] at h ⊢
      case panic u => exact h
  · rename_i hw
    simp only [hw] at h
    exact ⟨fun f _ => fen_fn ro f, keep a hy _, by rw [← Act.put_comm a v undef h2]; exact h.2⟩

theorem plainAll_spec (h : plainAll ops = true) {j : Nat} {o : Oper} (ho : ops[j]? = some o) : (∀ c, o.op ≠ .defer c) ∧ ∀ cs b, o.op ≠ .select cs b :=
  plain_nd (Array.all_eq_true_iff_forall_mem.1 h o (Array.mem_of_getElem? ho))

/-- Taken first: b tells whether S is leaned on. -/
theorem any_first {i : Nat} {oi : Oper} {v : Value} (hp : plainAll ops = true) (hi : ops[i]? = some oi) (n : Nat) :
    ∀ (k : Nat) (l : Array Bool) (a : Act) (w : World),
      (∀ j oj, ops[j]? = some oj → j ≠ i → l.getD j true = false → (∀ e ∈ oj.after, Region.binds .any e = true → e.on ≠ i) → oi.apart ops oj = true) →
      ShutL ops l → (∀ d ∈ ds, l.getD d true = false → waits ops i n d = true) →
      i ∈ rdy ops l → Puts P ops S oi v a → S w →
      anyL ro P ops S ds X k (l.setIfInBounds i true) (a.put oi.dst v) w → anyL ro P ops S ds X (k + 1) l a w := by
  intro k
  induction k with
  | zero =>
    intro l a w _ _ _ hr hy hS H
    refine ⟨fun h => (by rw [h] at hr; cases hr), fun j hj => ?_⟩
    by_cases hji : j = i
    · subst hji; exact hy.step hi (plainAll_spec hp hi).1 hS ⟨fun _ h => h, H⟩
    · have hq : j ∈ rdy ops (l.setIfInBounds i true) := ready_mono hj hji
      rw [H.1] at hq
      cases hq
  | succ k ih =>
    intro l a w hfree hc hd hr hy hS H
    refine ⟨fun h => (by rw [h] at hr; cases hr), fun j hj => ?_⟩
    by_cases hji : j = i
    · subst hji; exact hy.step hi (plainAll_spec hp hi).1 hS ⟨fun _ h => h, H⟩
    · have h1 := H.2 j (ready_mono hj hji)
      obtain ⟨hjun, oj, hoj, hall⟩ := mem_ready.1 hj
      have hiun := (mem_ready.1 hr).1
      have hnot : ∀ e ∈ oj.after, Region.binds .any e = true → e.on ≠ i := fun e he hb heq => by
        have h1 := hall e he hb
        rw [heq] at h1
        exact unlisted hiun h1
      have hjd : j ∉ ds := fun hm => waits_not_ready hc (hd j hm hjun) hiun hj
      have h2 := put_other hoj (hfree j oj hoj hji hjun hnot) (plainAll_spec hp hi).2 (plainAll_spec hp hoj).2 (plainAll_spec hp hoj).1 hy h1
      have hfree' : ∀ k ok, ops[k]? = some ok → k ≠ i → (l.setIfInBounds j true).getD k true = false → (∀ e ∈ ok.after, Region.binds .any e = true → e.on ≠ i) → oi.apart ops ok = true := fun k ok hk hki hun hno => by
        refine hfree k ok hk hki ?_ hno
        by_cases hjk : j = k
        · subst hjk; exact hjun
        · rw [getD_set_ne true hjk] at hun; exact hun
      have hd' : ∀ d ∈ ds, (l.setIfInBounds j true).getD d true = false → waits ops i n d = true := fun d hm hun => by
        refine hd d hm ?_
        by_cases hjk : j = d
        · subst hjk; exact hjun
        · rw [getD_set_ne true hjk] at hun; exact hun
      refine wpOpIn_mono (fun a' w' h3 => ⟨h3.2.1, ih (l.setIfInBounds j true) a' w' hfree' (hc.set hj) hd' (ready_mono hr (Ne.symm hji)) h3.1 (h3.2.1 hjd hS) ?_⟩) h2
      rw [Array.setIfInBounds_comm _ _ hji]
      exact h3.2.2
/-- The same of what yields whatever the world. -/
theorem any_pure {i : Nat} {oi : Oper} {v : Value} (hp : plainAll ops = true) (hi : ops[i]? = some oi) :
    ∀ (k : Nat) (l : Array Bool) (a : Act) (w : World),
      (∀ j oj, ops[j]? = some oj → j ≠ i → l.getD j true = false → (∀ e ∈ oj.after, Region.binds .any e = true → e.on ≠ i) → oi.apart ops oj = true) →
      i ∈ rdy ops l → Puts P ops (fun _ => True) oi v a →
      anyL ro P ops S ds X k (l.setIfInBounds i true) (a.put oi.dst v) w → anyL ro P ops S ds X (k + 1) l a w := by
  intro k
  induction k with
  | zero =>
    intro l a w _ hr hy H
    refine ⟨fun h => (by rw [h] at hr; cases hr), fun j hj => ?_⟩
    by_cases hji : j = i
    · subst hji; exact hy.step hi (plainAll_spec hp hi).1 trivial ⟨fun _ h => h, H⟩
    · have hq : j ∈ rdy ops (l.setIfInBounds i true) := ready_mono hj hji
      rw [H.1] at hq
      cases hq
  | succ k ih =>
    intro l a w hfree hr hy H
    refine ⟨fun h => (by rw [h] at hr; cases hr), fun j hj => ?_⟩
    by_cases hji : j = i
    · subst hji; exact hy.step hi (plainAll_spec hp hi).1 trivial ⟨fun _ h => h, H⟩
    · have h1 := H.2 j (ready_mono hj hji)
      obtain ⟨hjun, oj, hoj, hall⟩ := mem_ready.1 hj
      have hiun := (mem_ready.1 hr).1
      have hnot : ∀ e ∈ oj.after, Region.binds .any e = true → e.on ≠ i := fun e he hb heq => by
        have h1 := hall e he hb
        rw [heq] at h1
        exact unlisted hiun h1
      have h2 := put_other hoj (hfree j oj hoj hji hjun hnot) (plainAll_spec hp hi).2 (plainAll_spec hp hoj).2 (plainAll_spec hp hoj).1 hy h1
      have hfree' : ∀ k ok, ops[k]? = some ok → k ≠ i → (l.setIfInBounds j true).getD k true = false → (∀ e ∈ ok.after, Region.binds .any e = true → e.on ≠ i) → oi.apart ops ok = true := fun k ok hk hki hun hno => by
        refine hfree k ok hk hki ?_ hno
        by_cases hjk : j = k
        · subst hjk; exact hjun
        · rw [getD_set_ne true hjk] at hun; exact hun
      refine wpOpIn_mono (fun a' w' h3 => ⟨h3.2.1, ih (l.setIfInBounds j true) a' w' hfree' (ready_mono hr (Ne.symm hji)) h3.1 ?_⟩) h2
      rw [Array.setIfInBounds_comm _ _ hji]
      exact h3.2.2

def pureB (ops : Array Oper) (l l' : Array Bool) (i : Nat) : Bool := plainAll ops && Region.free .any ops l i && (rdy ops l).contains i && (l.setIfInBounds i true == l')
def heldB (ops : Array Oper) (ds : List Nat) (l l' : Array Bool) (i : Nat) : Bool := pureB ops l l' i && shutB ops l && lastB ops l ds i
def onesB (ops : Array Oper) (l : Array Bool) (rs : List Nat) : Bool := rdy ops l == rs
end

/-! ### In the judgement -/
def Held (l : List (Addr × Value)) (w : World) : Prop := ∀ p ∈ l, w.cell? p.1 = some p.2
section
variable {n : Nat} {C : Ctx} {e : Env} {D : List Deferred} {L I : List Atom} {P : Program} {ro : Option Nat} {Q : Exit → Act → World → Prop} {K X : Act → World → Prop} {ops : Array Oper} {ds : List Nat} {H : List (Addr × Value)} {k : Nat} {l l' : Array Bool}

theorem held_nil : ∀ w, Own C L I w → Held [] w := fun _ _ _ h => by cases h
theorem held_pt {b o T : Nat} {cs : List Value} {v : Value} {r : List (Addr × Value)} (i : Nat) (hi : L[i]? = some (pt b cs T)) (hv : cs[o]? = some v) (h : ∀ w, Own C L I w → Held r w) : ∀ w, Own C L I w → Held ((⟨b, o, none⟩, v) :: r) w :=
  fun w ho p hp => by
    rcases List.mem_cons.1 hp with rfl | hp
    · obtain ⟨h1, hl, hA⟩ := ho.atom i hi
      have hb : w.heap[b]? = some (.cells cs.toArray T (0, 0)) := hl _ _ hA
      show w.cell? ⟨b, o, none⟩ = some v
      rw [cell_of hb]; simpa using hv
    · exact h w ho p hp

abbrev aw (ro : Option Nat) (P : Program) (ops : Array Oper) (H : List (Addr × Value)) (ds : List Nat) (X : Act → World → Prop) (k : Nat) (l : Array Bool) : Act → World → Prop := anyL ro P ops (Held H) ds X k l

/-- The beginning. -/
theorem c_draw {id m : Nat} {os : List Oper} (H : List (Addr × Value)) (ds : List Nat) (hm : P.follows .mixedOrders = true) (hn : os.length = m) (hl : Array.replicate m false = l) (h : Ent n C e D L I (aw ro P os.toArray H ds (Q .normal) m l)) : Ent n C e D L I (cw ro P (.region id os.toArray true) Q) :=
  fun a w kn s d ho => by
    subst hn; subst hl
    have h1 := h a { w with drawn := w.drawn + 1 } kn s d (ho.draw _)
    refine wpIn_mono (wpIn_region_any (F := fen ro) (n := 0) (Q := only (Q .normal)) hm ?_) (fun e a w q => by cases e <;> first | exact q | exact q.elim)
    simpa using any_of _ _ _ _ h1
theorem a_done (hr : onesB ops l [] = true) (h : Ent n C e D L I X) : Ent n C e D L I (aw ro P ops H ds X k l) := fun a w kn s d ho => by
  have hr' : rdy ops l = [] := by simpa [onesB] using hr
  cases k with
  | zero => exact ⟨hr', h a w kn s d ho⟩
  | succ k => exact ⟨fun _ => h a w kn s d ho, fun i hi => by rw [hr'] at hi; cases hi⟩
/-- What yields whatever the world, reckoned by 'hy'. -/
theorem a_pure {i : Nat} {o : Oper} {dt : Tmp} {v : Value} (l' : Array Bool) (hi : ops[i]? = some o) (hc : pureB ops l l' i = true) (hg : o.guard = none) (hdst : o.dst = some dt) (hd : Nat.blt dt n = true)
    (hy : ∀ a w, Knows e a → (execOp a.eval o).run P w = .ok (.value v) w) (h : Ent n C ((dt, v) :: e) D L I (aw ro P ops H ds X k l')) : Ent n C e D L I (aw ro P ops H ds X (k + 1) l) := fun a w kn s d ho => by
  simp only [pureB, Bool.and_eq_true, beq_iff_eq] at hc
  obtain ⟨⟨⟨h1, h2⟩, h3⟩, rfl⟩ := hc
  have hlt : dt < a.tmps.size := by rw [s]; simpa using hd
  refine any_pure h1 hi k l a w (Region.free_spec hi h2) (by simpa using h3) (.inl ⟨by simp [Region.wanted, hg], fun w _ => hy a w kn⟩) ?_
  rw [hdst]
  exact h _ w (kn.put hlt) (by simp [Act.put, s]) (by simpa [Act.put] using d) ho
/-- The same of a guarded one that is wanted. -/
theorem a_pure_on {i j : Nat} {b : Bool} {o : Oper} {dt : Tmp} {v : Value} (t : Tmp) (l' : Array Bool) (hi : ops[i]? = some o) (hc : pureB ops l l' i = true) (hg : o.guard = some (j, b)) (ht : (ops[j]?).bind (·.dst) = some t) (hv : lk e t = some (.bool b)) (hdst : o.dst = some dt) (hd : Nat.blt dt n = true)
    (hy : ∀ a w, Knows e a → (execOp a.eval o).run P w = .ok (.value v) w) (h : Ent n C ((dt, v) :: e) D L I (aw ro P ops H ds X k l')) : Ent n C e D L I (aw ro P ops H ds X (k + 1) l) := fun a w kn s d ho => by
  simp only [pureB, Bool.and_eq_true, beq_iff_eq] at hc
  obtain ⟨⟨⟨h1, h2⟩, h3⟩, rfl⟩ := hc
  have hlt : dt < a.tmps.size := by rw [s]; simpa using hd
  refine any_pure h1 hi k l a w (Region.free_spec hi h2) (by simpa using h3) (.inl ⟨by simp [Region.wanted, hg, yielded_of ht kn hv], fun w _ => hy a w kn⟩) ?_
  rw [hdst]
  exact h _ w (kn.put hlt) (by simp [Act.put, s]) (by simpa [Act.put] using d) ho
/-- A guarded one that is passed over. -/
theorem a_off {i j : Nat} {b c : Bool} {o : Oper} {dt : Tmp} (t : Tmp) (l' : Array Bool) (hi : ops[i]? = some o) (hc : pureB ops l l' i = true) (hg : o.guard = some (j, b)) (ht : (ops[j]?).bind (·.dst) = some t) (hv : lk e t = some (.bool c)) (hne : (c == b) = false) (hdst : o.dst = some dt) (hd : Nat.blt dt n = true)
    (h : Ent n C ((dt, undef) :: e) D L I (aw ro P ops H ds X k l')) : Ent n C e D L I (aw ro P ops H ds X (k + 1) l) := fun a w kn s d ho => by
  simp only [pureB, Bool.and_eq_true, beq_iff_eq] at hc
  obtain ⟨⟨⟨h1, h2⟩, h3⟩, rfl⟩ := hc
  have hlt : dt < a.tmps.size := by rw [s]; simpa using hd
  have hne' : c ≠ b := by intro h; rw [h] at hne; simp at hne
  refine any_pure h1 hi k l a w (Region.free_spec hi h2) (by simpa using h3) (.inr ⟨by simp [Region.wanted, hg, yielded_of ht kn hv, hne'], rfl⟩) ?_
  rw [hdst]
  exact h _ w (kn.put hlt) (by simp [Act.put, s]) (by simpa [Act.put] using d) ho
theorem a_off' {i j : Nat} {b c : Bool} {o : Oper} (t : Tmp) (l' : Array Bool) (hi : ops[i]? = some o) (hc : pureB ops l l' i = true) (hg : o.guard = some (j, b)) (ht : (ops[j]?).bind (·.dst) = some t) (hv : lk e t = some (.bool c)) (hne : (c == b) = false) (hdst : o.dst = none)
    (h : Ent n C e D L I (aw ro P ops H ds X k l')) : Ent n C e D L I (aw ro P ops H ds X (k + 1) l) := fun a w kn s d ho => by
  simp only [pureB, Bool.and_eq_true, beq_iff_eq] at hc
  obtain ⟨⟨⟨h1, h2⟩, h3⟩, rfl⟩ := hc
  have hne' : c ≠ b := by intro h; rw [h] at hne; simp at hne
  refine any_pure h1 hi k l a w (Region.free_spec hi h2) (by simpa using h3) (.inr ⟨by simp [Region.wanted, hg, yielded_of ht kn hv, hne'], rfl⟩) ?_
  rw [hdst]
  exact h a w kn s d ho
/-- What reads one of the held cells. -/
theorem a_held {i : Nat} {o : Oper} {dt : Tmp} {v : Value} (l' : Array Bool) (hi : ops[i]? = some o) (hc : heldB ops ds l l' i = true) (hg : o.guard = none) (hdst : o.dst = some dt) (hd : Nat.blt dt n = true)
    (hS : ∀ w, Own C L I w → Held H w) (hy : ∀ a w, Knows e a → Held H w → (execOp a.eval o).run P w = .ok (.value v) w) (h : Ent n C ((dt, v) :: e) D L I (aw ro P ops H ds X k l')) : Ent n C e D L I (aw ro P ops H ds X (k + 1) l) := fun a w kn s d ho => by
  simp only [heldB, pureB, Bool.and_eq_true, beq_iff_eq] at hc
  obtain ⟨⟨⟨⟨⟨h1, h2⟩, h3⟩, rfl⟩, h4⟩, h5⟩ := hc
  have hlt : dt < a.tmps.size := by rw [s]; simpa using hd
  refine any_first h1 hi ops.size k l a w (Region.free_spec hi h2) (shutB_spec h4) (fun d hm hun => by have := List.all_eq_true.1 h5 d hm; rw [hun] at this; simpa using this) (by simpa using h3) (.inl ⟨by simp [Region.wanted, hg], fun w hw => hy a w kn hw⟩) (hS w ho) ?_
  rw [hdst]
  exact h _ w (kn.put hlt) (by simp [Act.put, s]) (by simpa [Act.put] using d) ho
theorem a_held_on {i j : Nat} {b : Bool} {o : Oper} {dt : Tmp} {v : Value} (t : Tmp) (l' : Array Bool) (hi : ops[i]? = some o) (hc : heldB ops ds l l' i = true) (hg : o.guard = some (j, b)) (ht : (ops[j]?).bind (·.dst) = some t) (hv : lk e t = some (.bool b)) (hdst : o.dst = some dt) (hd : Nat.blt dt n = true)
    (hS : ∀ w, Own C L I w → Held H w) (hy : ∀ a w, Knows e a → Held H w → (execOp a.eval o).run P w = .ok (.value v) w) (h : Ent n C ((dt, v) :: e) D L I (aw ro P ops H ds X k l')) : Ent n C e D L I (aw ro P ops H ds X (k + 1) l) := fun a w kn s d ho => by
  simp only [heldB, pureB, Bool.and_eq_true, beq_iff_eq] at hc
  obtain ⟨⟨⟨⟨⟨h1, h2⟩, h3⟩, rfl⟩, h4⟩, h5⟩ := hc
  have hlt : dt < a.tmps.size := by rw [s]; simpa using hd
  refine any_first h1 hi ops.size k l a w (Region.free_spec hi h2) (shutB_spec h4) (fun d hm hun => by have := List.all_eq_true.1 h5 d hm; rw [hun] at this; simpa using this) (by simpa using h3) (.inl ⟨by simp [Region.wanted, hg, yielded_of ht kn hv], fun w hw => hy a w kn hw⟩) (hS w ho) ?_
  rw [hdst]
  exact h _ w (kn.put hlt) (by simp [Act.put, s]) (by simpa [Act.put] using d) ho
/-- Those that may come up now, each in turn. -/
inductive Each (n : Nat) (C : Ctx) (e : Env) (D : List Deferred) (L I : List Atom) (ro : Option Nat) (P : Program) (ops : Array Oper) (H : List (Addr × Value)) (ds : List Nat) (X : Act → World → Prop) (k : Nat) (l : Array Bool) : List Nat → Prop where
  | nil : Each n C e D L I ro P ops H ds X k l []
  | cons {i : Nat} {o : Oper} {rs : List Nat} (l' : Array Bool) (hi : ops[i]? = some o) (hl : (l.setIfInBounds i true == l') = true) (hg : o.guard = none)
      (h : Ent n C e D L I (ow ro P o (only X) fun a w => Held H w ∧ aw ro P ops H ds X k l' a w)) (r : Each n C e D L I ro P ops H ds X k l rs) : Each n C e D L I ro P ops H ds X k l (i :: rs)
  | on {i j : Nat} {b : Bool} {o : Oper} {rs : List Nat} (t : Tmp) (l' : Array Bool) (hi : ops[i]? = some o) (hl : (l.setIfInBounds i true == l') = true) (hg : o.guard = some (j, b)) (ht : (ops[j]?).bind (·.dst) = some t) (hv : lk e t = some (.bool b))
      (h : Ent n C e D L I (ow ro P o (only X) fun a w => Held H w ∧ aw ro P ops H ds X k l' a w)) (r : Each n C e D L I ro P ops H ds X k l rs) : Each n C e D L I ro P ops H ds X k l (i :: rs)
  | last {i : Nat} {o : Oper} {rs : List Nat} (l' : Array Bool) (hi : ops[i]? = some o) (hl : (l.setIfInBounds i true == l') = true) (hds : ds.contains i = true) (hg : o.guard = none)
      (h : Ent n C e D L I (ow ro P o (only X) (aw ro P ops H ds X k l'))) (r : Each n C e D L I ro P ops H ds X k l rs) : Each n C e D L I ro P ops H ds X k l (i :: rs)
theorem Each.all {rs : List Nat} (h : Each n C e D L I ro P ops H ds X k l rs) : ∀ i ∈ rs, Ent n C e D L I (fun a w => wpOpIn (fen ro) 0 P ops (only X) i (fun a' w' => (i ∉ ds → Held H w → Held H w') ∧ anyL ro P ops (Held H) ds X k (l.setIfInBounds i true) a' w') a w) := by
  induction h with
  | nil => intro i hi; cases hi
  | cons l' hi hl hg h r ih =>
    intro q hq
    rcases List.mem_cons.1 hq with rfl | hq
    · intro a w kn s d ho
      have hl' := beq_iff_eq.1 hl
      subst hl'
      unfold wpOpIn
      simp only [hi]
      rw [if_pos (by simp [Region.wanted, hg])]
      exact Oper.wpIn_mono (fun a' w' h => ⟨fun _ _ => h.1, h.2⟩) (h a w kn s d ho)
    · exact ih q hq
  | on t l' hi hl hg ht hv h r ih =>
    intro q hq
    rcases List.mem_cons.1 hq with rfl | hq
    · intro a w kn s d ho
      have hl' := beq_iff_eq.1 hl
      subst hl'
      unfold wpOpIn
      simp only [hi]
      rw [if_pos (by simp [Region.wanted, hg, yielded_of ht kn hv])]
      exact Oper.wpIn_mono (fun a' w' h => ⟨fun _ _ => h.1, h.2⟩) (h a w kn s d ho)
    · exact ih q hq
  | last l' hi hl hds hg h r ih =>
    intro q hq
    rcases List.mem_cons.1 hq with rfl | hq
    · intro a w kn s d ho
      have hl' := beq_iff_eq.1 hl
      subst hl'
      unfold wpOpIn
      simp only [hi]
      rw [if_pos (by simp [Region.wanted, hg])]
      exact Oper.wpIn_mono (fun a' w' h => ⟨fun hn => absurd (by simpa using hds) hn, h⟩) (h a w kn s d ho)
    · exact ih q hq
theorem a_each {rs : List Nat} (hr : onesB ops l rs = true) (h : Each n C e D L I ro P ops H ds X k l rs) (hne : rs ≠ []) : Ent n C e D L I (aw ro P ops H ds X (k + 1) l) := fun a w kn s d ho => by
  have hr' : rdy ops l = rs := by simpa [onesB] using hr
  refine ⟨fun h0 => absurd (hr' ▸ h0) hne, fun i hi => ?_⟩
  exact Each.all h i (hr' ▸ hi) a w kn s d ho
theorem a_and {Y : Act → World → Prop} (hS : ∀ w, Own C L I w → Held H w) (h : Ent n C e D L I Y) : Ent n C e D L I (fun a w => Held H w ∧ Y a w) := fun a w kn s d ho => ⟨hS w ho, h a w kn s d ho⟩

/-- Ways meet: from here on one proof. -/
theorem e_cut {γ : Type} (ok : γ → Prop) (E : γ → Env) (LL II : γ → List Atom) {Y : Act → World → Prop} (X : Act → World → Prop) (h1 : ∀ x, ok x → Ent n C (E x) D (LL x) (II x) X) (h2 : (∀ x, ok x → Ent n C (E x) D (LL x) (II x) X) → Ent n C e D L I Y) : Ent n C e D L I Y := h2 h1
/-- The state in another order, or with less. -/
theorem e_norm {e' : Env} {L' Lr I' : List Atom} (ix jx : List Nat) (c : Cov e e') (hp : pull L ix = some (L', Lr)) (hI : picks I jx = some I') (h : Ent n C e' D L' I' X) : Ent n C e D L I X := fun a w kn s d ho => h a w (c.knows kn) s d (ho.sub hp (picks_mem hI))
end
end Go.Sl
