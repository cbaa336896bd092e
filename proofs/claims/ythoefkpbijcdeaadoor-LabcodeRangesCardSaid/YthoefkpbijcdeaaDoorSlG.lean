/- More rules for single operations: tests, numbers, boxes. -/
import Derived.Test.YthoefkpbijcdeaaDoorSlF
import Derived.IntWalk
set_option linter.unusedVariables false
set_option linter.unusedSimpArgs false
namespace Go.Sl
open Go Go.RowKit

def ticked (n m : Nat) : Array Bool := ((List.range n).map fun i => m.testBit i).toArray
section
variable {n : Nat} {C : Ctx} {e : Env} {D : List Deferred} {L I : List Atom} {P : Program} {ro : Option Nat} {Q : Exit → Act → World → Prop} {K X : Act → World → Prop} {ops : Array Oper} {ds : List Nat} {H : List (Addr × Value)} {k : Nat} {l : Array Bool}

/-! What an operation yields, whatever the world: for 'o_y' in a row, for 'a_pure' in an open order. -/
def Ys (P : Program) (e : Env) (o : Oper) (v : Value) : Prop := ∀ a w, Knows e a → (execOp a.eval o).run P w = .ok (.value v) w
theorem y_k {o : Oper} {v : Value} (hp : plainOp o.op = true) (hk : known e o = true) (hr : ∀ w, (execOp (rho e) o).run P w = .ok (.value v) w) : Ys P e o v :=
  fun a w kn => by rw [exec_rho kn (plain_nd hp).2 hk]; exact hr w
theorem y_mv {d : Option Tmp} {x : Operand} {v : Value} {ty : TypeId} {pos : String} {aft : Array Edge} {g : Option (Nat × Bool)} (hx : ev e x = some v) : Ys P e ⟨d, .move x, ty, pos, aft, g⟩ v := fun a w kn => by simp [execOp, kn.eval hx]
theorem y_as {d : Option Tmp} {x : Operand} {v : Value} {ty : TypeId} {pos : String} {aft : Array Edge} {g : Option (Nat × Bool)} (hx : ev e x = some v) : Ys P e ⟨d, .assign x, ty, pos, aft, g⟩ v := fun a w kn => by simp [execOp, kn.eval hx]
theorem y_pick {d : Option Tmp} {c x y : Operand} {b : Bool} {v : Value} {ty : TypeId} {pos : String} {aft : Array Edge} {g : Option (Nat × Bool)} (hc : ev e c = some (.bool b)) (hx : ev e (cond b x y) = some v) : Ys P e ⟨d, .pick c x y, ty, pos, aft, g⟩ v := fun a w kn => by
  have h1 := kn.eval hc
  have h2 := kn.eval hx
  cases b <;> simp_all [execOp, asBool]
theorem y_bin {d : Option Tmp} {op : BinOp} {x y : Operand} {u v r : Value} {t t2 : TypeId} {ty : TypeId} {pos : String} {aft : Array Edge} {g : Option (Nat × Bool)} (hx : ev e x = some u) (hy : ev e y = some v) (hr : ∀ w, (do eqGuard op t x y u v; binOp op t u v : Sem Value).run P w = .ok r w) :
    Ys P e ⟨d, .binOp op t x y t2, ty, pos, aft, g⟩ r := fun a w kn => by
  simp only [execOp, kn.eval hx, kn.eval hy]
  have := hr w
  simp only [Sem.run_bind] at this ⊢
  rw [this]
  rfl
theorem wrap_in {z : Int} (h0 : -9223372036854775808 ≤ z) (h1 : z ≤ 9223372036854775807) : IntKind.i64.wrap z = z := by
  have := IntWalk.i64_in z ⟨by omega, by omega⟩
  simpa using this
theorem y_add {d : Option Tmp} {x y : Operand} {p q r : Int} {t t2 : TypeId} {ty : TypeId} {pos : String} {aft : Array Edge} {g : Option (Nat × Bool)} (hx : ev e x = some (.int .i64 p)) (hy : ev e y = some (.int .i64 q)) (hr : p + q = r) (hb : -9223372036854775808 ≤ r ∧ r ≤ 9223372036854775807) :
    Ys P e ⟨d, .binOp .add t x y t2, ty, pos, aft, g⟩ (.int .i64 r) := by
  subst hr
  exact y_bin hx hy fun w => by simp [eqGuard, binOp, Op.intArith, wrap_in hb.1 hb.2]
theorem y_sub {d : Option Tmp} {x y : Operand} {p q r : Int} {t t2 : TypeId} {ty : TypeId} {pos : String} {aft : Array Edge} {g : Option (Nat × Bool)} (hx : ev e x = some (.int .i64 p)) (hy : ev e y = some (.int .i64 q)) (hr : p - q = r) (hb : -9223372036854775808 ≤ r ∧ r ≤ 9223372036854775807) :
    Ys P e ⟨d, .binOp .sub t x y t2, ty, pos, aft, g⟩ (.int .i64 r) := by
  subst hr
  exact y_bin hx hy fun w => by simp [eqGuard, binOp, Op.intArith, wrap_in hb.1 hb.2]
theorem y_mul {d : Option Tmp} {x y : Operand} {p q r : Int} {t t2 : TypeId} {ty : TypeId} {pos : String} {aft : Array Edge} {g : Option (Nat × Bool)} (hx : ev e x = some (.int .i64 p)) (hy : ev e y = some (.int .i64 q)) (hr : p * q = r) (hb : -9223372036854775808 ≤ r ∧ r ≤ 9223372036854775807) :
    Ys P e ⟨d, .binOp .mul t x y t2, ty, pos, aft, g⟩ (.int .i64 r) := by
  subst hr
  exact y_bin hx hy fun w => by simp [eqGuard, binOp, Op.intArith, wrap_in hb.1 hb.2]

theorem y_t {p : Prop} [Decidable p] {o : Oper} (hy : Ys P e o (.bool (decide p))) (h : p) : Ys P e o (.bool true) := by rwa [decide_eq_true h] at hy
theorem y_f {p : Prop} [Decidable p] {o : Oper} (hy : Ys P e o (.bool (decide p))) (h : ¬ p) : Ys P e o (.bool false) := by rwa [decide_eq_false h] at hy
theorem y_b {b c : Bool} {o : Oper} (hy : Ys P e o (.bool b)) (h : b = c) : Ys P e o (.bool c) := by rwa [h] at hy
theorem y_not {b : Bool} {d : Option Tmp} {x : Operand} {t : TypeId} {ty : TypeId} {pos : String} {aft : Array Edge} {g : Option (Nat × Bool)} (hx : ev e x = some (.bool b)) : Ys P e ⟨d, .unOp .not t x, ty, pos, aft, g⟩ (.bool !b) := fun a w kn => by simp [execOp, kn.eval hx, Op.unary]
/-- In a row: an operation that yields. -/
theorem o_y {o : Oper} {dt : Tmp} {v : Value} (hy : Ys P e o v) (hdst : o.dst = some dt) (hd : Nat.blt dt n = true) (hp : plainOp o.op = true) (h : Ent n C ((dt, v) :: e) D L I K) : Ent n C e D L I (ow ro P o Q K) :=
  ow_pure hdst hd (plain_nd hp).1 (fun a w kn _ => hy a w kn) h
/-- In a row: a test, its two ways. -/
theorem o_if {p : Prop} [Decidable p] {o : Oper} {dt : Tmp} (hy : Ys P e o (.bool (decide p))) (hdst : o.dst = some dt) (hd : Nat.blt dt n = true) (hp : plainOp o.op = true) (ht : p → Ent n C ((dt, .bool true) :: e) D L I K) (hf : ¬ p → Ent n C ((dt, .bool false) :: e) D L I K) : Ent n C e D L I (ow ro P o Q K) := by
  by_cases h : p
  · exact o_y (by rwa [decide_eq_true h] at hy) hdst hd hp (ht h)
  · exact o_y (by rwa [decide_eq_false h] at hy) hdst hd hp (hf h)
theorem o_ifb {b : Bool} {o : Oper} {dt : Tmp} (hy : Ys P e o (.bool b)) (hdst : o.dst = some dt) (hd : Nat.blt dt n = true) (hp : plainOp o.op = true) (ht : b = true → Ent n C ((dt, .bool true) :: e) D L I K) (hf : b = false → Ent n C ((dt, .bool false) :: e) D L I K) : Ent n C e D L I (ow ro P o Q K) := by
  cases b
  · exact o_y hy hdst hd hp (hf rfl)
  · exact o_y hy hdst hd hp (ht rfl)
/-- In an open order: taken first. -/
theorem a_y {i : Nat} {o : Oper} {dt : Tmp} {v : Value} (l' : Array Bool) (hi : ops[i]? = some o) (hc : pureB ops l l' i = true) (hg : o.guard = none) (hdst : o.dst = some dt) (hd : Nat.blt dt n = true) (hy : Ys P e o v) (h : Ent n C ((dt, v) :: e) D L I (aw ro P ops H ds X k l')) : Ent n C e D L I (aw ro P ops H ds X (k + 1) l) := a_pure l' hi hc hg hdst hd hy h
theorem a_y_on {i j : Nat} {b : Bool} {o : Oper} {dt : Tmp} {v : Value} (t : Tmp) (l' : Array Bool) (hi : ops[i]? = some o) (hc : pureB ops l l' i = true) (hg : o.guard = some (j, b)) (ht : (ops[j]?).bind (·.dst) = some t) (hv : lk e t = some (.bool b)) (hdst : o.dst = some dt) (hd : Nat.blt dt n = true) (hy : Ys P e o v)
    (h : Ent n C ((dt, v) :: e) D L I (aw ro P ops H ds X k l')) : Ent n C e D L I (aw ro P ops H ds X (k + 1) l) := a_pure_on t l' hi hc hg ht hv hdst hd hy h
/-- A proposition decided. -/
theorem e_by (p : Prop) (ht : p → Ent n C e D L I X) (hf : ¬ p → Ent n C e D L I X) : Ent n C e D L I X := by
  by_cases h : p
  · exact ht h
  · exact hf h
/-- The state said in other words. -/
theorem e_show {e' : Env} {L' I' : List Atom} (he : e = e') (hL : L = L') (hI : I = I') (h : Ent n C e' D L' I' X) : Ent n C e D L I X := by subst he; subst hL; subst hI; exact h

/-! ### Boxes -/
theorem o_box {o : Oper} {dt : Tmp} {cs : List Value} {T : TypeId} (hdst : o.dst = some dt) (hd : Nat.blt dt n = true) (hp : plainOp o.op = true) (hk : known e o = true)
    (hr : ∀ w, (execOp (rho e) o).run P w = .ok (.value (.pointer (some ⟨w.heap.size, 0, none⟩))) { w with heap := w.heap.push (.cells cs.toArray T (0, 0)) })
    (h : ∀ b, Ent n C ((dt, .pointer (some ⟨b, 0, none⟩)) :: e) D (pt b cs T :: L) I K) : Ent n C e D L I (ow ro P o Q K) := o_new (f := fun b => .pointer (some ⟨b, 0, none⟩)) hdst hd hp hk hr h
theorem o_lit {o : Oper} {dt : Tmp} {cs : List Value} {T m : Nat} (hdst : o.dst = some dt) (hd : Nat.blt dt n = true) (hp : plainOp o.op = true) (hk : known e o = true)
    (hr : ∀ w, (execOp (rho e) o).run P w = .ok (.value (.slice (some ⟨w.heap.size, 0, none⟩) m m)) { w with heap := w.heap.push (.cells cs.toArray T (0, 0)) })
    (h : ∀ b, Ent n C ((dt, .slice (some ⟨b, 0, none⟩) m m) :: e) D (pt b cs T :: L) I K) : Ent n C e D L I (ow ro P o Q K) := o_new (f := fun b => .slice (some ⟨b, 0, none⟩) m m) hdst hd hp hk hr h

/-! ### Exits -/
theorem q_then {X : Act → World → Prop} (h : Ent n C e D L I X) : Ent n C e D L I (Exit.then X Q .normal) := h
theorem q_then_ret {X : Act → World → Prop} (h : Ent n C e D L I (Q .ret)) : Ent n C e D L I (Exit.then X Q .ret) := h
theorem q_then_exit {X : Act → World → Prop} {id : Nat} (h : Ent n C e D L I (Q (.exit id))) : Ent n C e D L I (Exit.then X Q (.exit id)) := h
theorem q_then_goto {X : Act → World → Prop} {id : Nat} (h : Ent n C e D L I (Q (.goto id))) : Ent n C e D L I (Exit.then X Q (.goto id)) := h
theorem q_block {id : Nat} (h : Ent n C e D L I (Q .normal)) : Ent n C e D L I (Exit.inBlock id Q .normal) := h
theorem q_block_ret {id : Nat} (h : Ent n C e D L I (Q .ret)) : Ent n C e D L I (Exit.inBlock id Q .ret) := h
theorem q_block_goto {id l : Nat} (h : Ent n C e D L I (Q (.goto l))) : Ent n C e D L I (Exit.inBlock id Q (.goto l)) := h
theorem q_block_here {id : Nat} (h : Ent n C e D L I (Q .normal)) : Ent n C e D L I (Exit.inBlock id Q (.exit id)) := fun a w kn s d ho => by
  show (if id = id then Q .normal a w else Q (.exit id) a w)
  rw [if_pos rfl]
  exact h a w kn s d ho
theorem q_block_exit {id j : Nat} (hne : Nat.beq j id = false) (h : Ent n C e D L I (Q (.exit j))) : Ent n C e D L I (Exit.inBlock id Q (.exit j)) := fun a w kn s d ho => by
  show (if j = id then Q .normal a w else Q (.exit j) a w)
  rw [if_neg (fun e => by rw [e, Nat.beq_refl] at hne; cases hne)]
  exact h a w kn s d ho
end
end Go.Sl
