/- More operations: quotients, conversions of numbers, bits; structs by '=='; elements of several cells; clear; a contract from a call that only adds memory. -/
import Derived.Test.YthoefkpbijcdeaaDoorSlN
import Derived.Laws.StructEq
import Derived.Lib.SmallJoins
set_option linter.unusedVariables false
set_option linter.unusedSimpArgs false
namespace Go.Sl
open Go Go.RowKit

/-- The byte of a number. -/
def u8of (z : Int) : UInt8 := UInt8.ofNat (z % 256).toNat
theorem u8of_wrap (z : Int) : IntKind.u8.wrap z = ((u8of z).toNat : Int) := by
  rw [IntKind.wrap_u8]
  unfold u8of
  have h : (z % 256).toNat < 256 := by omega
  rw [UInt8.toNat_ofNat_of_lt' h]
  omega
theorem u8of_toNat {z : Int} (h0 : 0 ≤ z) (h1 : z < 256) : (u8of z).toNat = z.toNat := by
  unfold u8of
  have h : (z % 256).toNat < 256 := by omega
  rw [UInt8.toNat_ofNat_of_lt' h]
  omega
theorem u8of_cast (b : UInt8) : u8of (b.toNat : Int) = b := by
  unfold u8of
  have h : ((b.toNat : Int) % 256).toNat = b.toNat := by
    have : b.toNat < 256 := b.toNat_lt
    omega
  rw [h]
  exact UInt8.ofNat_toNat
def andNotN (a b : Nat) : Nat := (BitVec.ofNat 64 a &&& ~~~ BitVec.ofNat 64 b).toNat
def two64 : Nat := 18446744073709551616
section
variable {n : Nat} {C : Ctx} {e : Env} {D : List Deferred} {L I : List Atom} {P : Program} {ro : Option Nat} {Q : Exit → Act → World → Prop} {K X : Act → World → Prop}

theorem y_nt {p : Prop} [Decidable p] {o : Oper} (hy : Ys P e o (.bool (!decide p))) (h : p) : Ys P e o (.bool false) := by rw [decide_eq_true h] at hy; exact hy
theorem y_nf {p : Prop} [Decidable p] {o : Oper} (hy : Ys P e o (.bool (!decide p))) (h : ¬ p) : Ys P e o (.bool true) := by rw [decide_eq_false h] at hy; exact hy
theorem y_re {o : Oper} {v v' : Value} (hy : Ys P e o v) (h : v = v') : Ys P e o v' := h ▸ hy
theorem y_quo {d : Option Tmp} {x y : Operand} {p q r : Int} {t t2 : TypeId} {ty : TypeId} {pos : String} {aft : Array Edge} {g : Option (Nat × Bool)} (hx : ev e x = some (.int .i64 p)) (hy : ev e y = some (.int .i64 q)) (hr : p / q = r) (hb : 0 ≤ p ∧ p ≤ 9223372036854775807 ∧ 1 ≤ q) :
    Ys P e ⟨d, .binOp .quo t x y t2, ty, pos, aft, g⟩ (.int .i64 r) := by
  subst hr
  have h0 : q ≠ 0 := by omega
  exact y_bin hx hy fun w => by simp [eqGuard, binOp, Op.intDiv, h0, IntWalk.i64_quo p q hb]
theorem y_rem {d : Option Tmp} {x y : Operand} {k : IntKind} {p q r : Int} {t t2 : TypeId} {ty : TypeId} {pos : String} {aft : Array Edge} {g : Option (Nat × Bool)} (hx : ev e x = some (.int k p)) (hy : ev e y = some (.int k q)) (hr : p % q = r) (hb : 0 ≤ p ∧ 1 ≤ q) :
    Ys P e ⟨d, .binOp .rem t x y t2, ty, pos, aft, g⟩ (.int k r) := by
  subst hr
  have h0 : q ≠ 0 := by omega
  exact y_bin hx hy fun w => by simp [eqGuard, binOp, Op.intDiv, h0, IntWalk.rem_in p q hb.1]
/-- A number of another kind. -/
theorem y_cvi {dd : Option Tmp} {x : Operand} {k k0 : IntKind} {z r : Int} {s d : TypeId} {td : TypeDesc} {ty : TypeId} {pos : String} {aft : Array Edge} {g : Option (Nat × Bool)} (hx : ev e x = some (.int k0 z)) (hs : P.underlying s = some td) (hd : P.underlying d = some (.int k)) (hr : k.wrap z = r) :
    Ys P e ⟨dd, .convert s d x, ty, pos, aft, g⟩ (.int k r) := fun a w kn => by
  subst hr
  simp [execOp, kn.eval hx, convert, run_underlying hs, run_underlying hd, Conv.intToInt]
theorem y_shr {d : Option Tmp} {x y : Operand} {ik : IntKind} {a k : Nat} {z : Int} {t t2 : TypeId} {ty : TypeId} {pos : String} {aft : Array Edge} {g : Option (Nat × Bool)} (hx : ev e x = some (.int .u64 (a : Int))) (hy : ev e y = some (.int ik z)) (hz : z = (k : Int)) (ha : a < 18446744073709551616) :
    Ys P e ⟨d, .binOp .shr t x y t2, ty, pos, aft, g⟩ (.int .u64 ((a / 2 ^ k : Nat) : Int)) := by
  subst hz
  have h0 : ¬ ((k : Int) < 0) := by omega
  have key : ((a : Int).fdiv (2 ^ (min k 64))) = ((a / 2 ^ k : Nat) : Int) := by
    have e1 : ((2 : Int) ^ (min k 64)) = ((2 ^ (min k 64) : Nat) : Int) := by simp
    rw [e1, Int.fdiv_eq_ediv_of_nonneg _ (Int.natCast_nonneg _), ← Int.natCast_ediv]
    congr 1
    rcases Nat.le_total k 64 with h | h
    · rw [Nat.min_eq_left h]
    · rw [Nat.min_eq_right h, Nat.div_eq_of_lt (show a < 2 ^ 64 by omega), Nat.div_eq_of_lt]
      exact Nat.lt_of_lt_of_le (show a < 2 ^ 64 by omega) (Nat.pow_le_pow_right (by omega) h)
  exact y_bin hx hy fun w => by
    have hb : IntKind.u64.bits = 64 := rfl
    simp only [eqGuard, binOp, Op.shift, h0, if_false, Int.toNat_natCast, hb, key]
    try simp
theorem bits_cast (a : Nat) : BitVec.ofInt 64 (a : Int) = BitVec.ofNat 64 a := by
  apply BitVec.eq_of_toNat_eq
  simp [BitVec.toNat_ofInt]
theorem wrap64 (r : BitVec 64) : IntKind.u64.wrap (r.toNat : Int) = (r.toNat : Int) := IntWalk.u64_in _ ⟨by omega, by have := r.isLt; omega⟩
theorem y_andNot {d : Option Tmp} {x y : Operand} {a b : Nat} {t t2 : TypeId} {ty : TypeId} {pos : String} {aft : Array Edge} {g : Option (Nat × Bool)} (hx : ev e x = some (.int .u64 (a : Int))) (hy : ev e y = some (.int .u64 (b : Int))) :
    Ys P e ⟨d, .binOp .andNot t x y t2, ty, pos, aft, g⟩ (.int .u64 ((andNotN a b : Nat) : Int)) :=
  y_bin hx hy fun w => by
    have key : (Op.intBits .andNot .u64 (a : Int) (b : Int)).run P w = .ok (.int .u64 ((andNotN a b : Nat) : Int)) w := by
      show Result.ok (Value.int .u64 (IntKind.u64.wrap (((BitVec.ofInt 64 (a : Int)) &&& ~~~ (BitVec.ofInt 64 (b : Int))).toNat : Int))) w = _
      rw [bits_cast, bits_cast, wrap64]
      rfl
    simp only [eqGuard, binOp]
    simp [key]
theorem y_or {d : Option Tmp} {x y : Operand} {a b : Nat} {t t2 : TypeId} {ty : TypeId} {pos : String} {aft : Array Edge} {g : Option (Nat × Bool)} (hx : ev e x = some (.int .u64 (a : Int))) (hy : ev e y = some (.int .u64 (b : Int))) (ha : a < 18446744073709551616) (hb : b < 18446744073709551616) :
    Ys P e ⟨d, .binOp .or t x y t2, ty, pos, aft, g⟩ (.int .u64 ((a ||| b : Nat) : Int)) :=
  y_bin hx hy fun w => by
    have key : (Op.intBits .or .u64 (a : Int) (b : Int)).run P w = .ok (.int .u64 ((a ||| b : Nat) : Int)) w := by
      show Result.ok (Value.int .u64 (IntKind.u64.wrap (((BitVec.ofInt 64 (a : Int)) ||| (BitVec.ofInt 64 (b : Int))).toNat : Int))) w = _
      rw [bits_cast, bits_cast, wrap64, BitVec.toNat_or, BitVec.toNat_ofNat, BitVec.toNat_ofNat, Nat.mod_eq_of_lt (show a < 2 ^ 64 by omega), Nat.mod_eq_of_lt (show b < 2 ^ 64 by omega)]
    simp only [eqGuard, binOp]
    simp [key]
theorem y_and {d : Option Tmp} {x y : Operand} {a b : Nat} {t t2 : TypeId} {ty : TypeId} {pos : String} {aft : Array Edge} {g : Option (Nat × Bool)} (hx : ev e x = some (.int .u64 (a : Int))) (hy : ev e y = some (.int .u64 (b : Int))) (ha : a < 18446744073709551616) (hb : b < 18446744073709551616) :
    Ys P e ⟨d, .binOp .and t x y t2, ty, pos, aft, g⟩ (.int .u64 ((a &&& b : Nat) : Int)) :=
  y_bin hx hy fun w => by
    have key : (Op.intBits .and .u64 (a : Int) (b : Int)).run P w = .ok (.int .u64 ((a &&& b : Nat) : Int)) w := by
      show Result.ok (Value.int .u64 (IntKind.u64.wrap (((BitVec.ofInt 64 (a : Int)) &&& (BitVec.ofInt 64 (b : Int))).toNat : Int))) w = _
      rw [bits_cast, bits_cast, wrap64, BitVec.toNat_and, BitVec.toNat_ofNat, BitVec.toNat_ofNat, Nat.mod_eq_of_lt (show a < 2 ^ 64 by omega), Nat.mod_eq_of_lt (show b < 2 ^ 64 by omega)]
    simp only [eqGuard, binOp]
    simp [key]
theorem y_shl {d : Option Tmp} {x y : Operand} {ik : IntKind} {a k : Nat} {z : Int} {t t2 : TypeId} {ty : TypeId} {pos : String} {aft : Array Edge} {g : Option (Nat × Bool)} (hx : ev e x = some (.int .u64 (a : Int))) (hy : ev e y = some (.int ik z)) (hz : z = (k : Int)) (hk : k ≤ 64) :
    Ys P e ⟨d, .binOp .shl t x y t2, ty, pos, aft, g⟩ (.int .u64 ((a * 2 ^ k % 18446744073709551616 : Nat) : Int)) := by
  subst hz
  have h0 : ¬ ((k : Int) < 0) := by omega
  exact y_bin hx hy fun w => by
    have hb : IntKind.u64.bits = 64 := rfl
    have key : IntKind.u64.wrap ((a : Int) * 2 ^ (min k 64)) = ((a * 2 ^ k % 18446744073709551616 : Nat) : Int) := by
      have e1 : ((2 : Int) ^ (min k 64)) = ((2 ^ k : Nat) : Int) := by rw [Nat.min_eq_left hk]; simp
      rw [e1, ← Int.natCast_mul]
      show (((a * 2 ^ k : Nat) : Int) % (2 ^ 64 : Int)) = _
      rw [show ((2 : Int) ^ 64) = ((18446744073709551616 : Nat) : Int) from rfl, ← Int.natCast_emod]
    simp only [eqGuard, binOp, Op.shift, h0, if_false, Int.toNat_natCast, hb, key]
    try simp

theorem y_maxi {dd : Option Tmp} {x y : Operand} {ats : Array TypeId} {ty : TypeId} {pos : String} {aft : Array Edge} {g : Option (Nat × Bool)} {p q : Int} (hx : ev e x = some (.int .i64 p)) (hy : ev e y = some (.int .i64 q)) :
    Ys P e ⟨dd, .call ⟨.builtin .max, [x, y].toArray, ats⟩, ty, pos, aft, g⟩ (.int .i64 (max p q)) := fun a w kn => by
  have h1 : (if p < q then q else p) = max p q := by split <;> omega
  simp only [execOp, resolve, Sem.run_bind, Sem.run_pure, Result.andThen_ok, List.map_toArray, List.map_cons, List.map_nil, kn.eval hx, kn.eval hy, invoke, builtin, Builtin.max_, Builtin.max2, List.foldlM_cons, List.foldlM_nil, h1]
theorem y_mini {dd : Option Tmp} {x y : Operand} {ats : Array TypeId} {ty : TypeId} {pos : String} {aft : Array Edge} {g : Option (Nat × Bool)} {p q : Int} (hx : ev e x = some (.int .i64 p)) (hy : ev e y = some (.int .i64 q)) :
    Ys P e ⟨dd, .call ⟨.builtin .min, [x, y].toArray, ats⟩, ty, pos, aft, g⟩ (.int .i64 (min p q)) := fun a w kn => by
  have h1 : (if q < p then q else p) = min p q := by split <;> omega
  simp only [execOp, resolve, Sem.run_bind, Sem.run_pure, Result.andThen_ok, List.map_toArray, List.map_cons, List.map_nil, kn.eval hx, kn.eval hy, invoke, builtin, Builtin.min_, Builtin.min2, List.foldlM_cons, List.foldlM_nil, h1]
theorem run_slnil {A : Option Addr} {m c : Nat} {t el : TypeId} (ht : P.underlying t = some (.slice el)) (w : World) (k : Nat) : (Op.equalIn (k + 1) t (.slice A m c) (.slice none 0 0)).run P w = .ok (decide (A = none)) w := by
  cases A with
  | none => simp only [Op.equalIn, Sem.run_bind, run_underlying ht, Result.andThen_ok]; rfl
  | some a => simp only [Op.equalIn, Sem.run_bind, run_underlying ht, Result.andThen_ok]; rfl
/-- A slice against nil. -/
theorem y_slnil {d : Option Tmp} {x y : Operand} {A : Option Addr} {m c : Nat} {t t2 el : TypeId} {ty : TypeId} {pos : String} {aft : Array Edge} {g : Option (Nat × Bool)} (hx : ev e x = some (.slice A m c)) (hy : ev e y = some (.slice none 0 0)) (ht : P.underlying t = some (.slice el)) :
    Ys P e ⟨d, .binOp .eql t x y t2, ty, pos, aft, g⟩ (.bool (decide (A = none))) := y_bin hx hy fun w => by
  have h := run_slnil (A := A) (m := m) (c := c) ht w 9999
  simp only [eqGuard, binOp, Op.equal, Op.maxDepth, Sem.run_bind] at h ⊢
  simp [h]
theorem y_slnn {d : Option Tmp} {x y : Operand} {A : Option Addr} {m c : Nat} {t t2 el : TypeId} {ty : TypeId} {pos : String} {aft : Array Edge} {g : Option (Nat × Bool)} (hx : ev e x = some (.slice A m c)) (hy : ev e y = some (.slice none 0 0)) (ht : P.underlying t = some (.slice el)) :
    Ys P e ⟨d, .binOp .neq t x y t2, ty, pos, aft, g⟩ (.bool (!decide (A = none))) := y_bin hx hy fun w => by
  have h := run_slnil (A := A) (m := m) (c := c) ht w 9999
  simp only [eqGuard, binOp, Op.equal, Op.maxDepth, Sem.run_bind] at h ⊢
  simp [h]
/-- One atom less. -/
theorem Sep.drop : ∀ {L : List Atom} {h : Hp} (i : Nat), Sep L h → Sep (L.eraseIdx i) h
  | [], _, _, s => s
  | _ :: _, _, 0, ⟨h1, h2, d, l1, l2, a, s⟩ => s.up l2
  | _ :: _, _, i + 1, ⟨h1, h2, d, l1, l2, a, s⟩ => ⟨h1, h2, d, l1, l2, a, Sep.drop i s⟩
theorem e_drop (i : Nat) (h : Ent n C e D (L.eraseIdx i) I X) : Ent n C e D L I X := fun a w kn s dd ho => by
  obtain ⟨h0, hI, m⟩ := ho
  exact h a w kn s dd ⟨h0, hI, m.sep.drop i, m.facts, m.base, m.d1, m.d2, m.d3, m.l1, m.l2, m.l3, m.os, m.tape, m.output⟩
/-- What is read at nil has no element. -/
theorem e_rdn {α : Type} {d : Ty α} {A : Option Addr} {c : Nat} {l : List α} (i : Nat) (hi : I[i]? = some (rd d A c l)) (hA : A = none) (h : l = [] → Ent n C e D L I X) : Ent n C e D L I X := fun a w kn s dd ho => by
  obtain ⟨h1, hl, hA'⟩ := ho.fact (List.mem_of_getElem? hi)
  obtain ⟨_, _, h3⟩ := hA' h1 (le.refl _)
  refine h ?_ a w kn s dd ho
  rcases Nat.eq_zero_or_pos l.length with q | q
  · exact List.eq_nil_of_length_eq_zero q
  · obtain ⟨b, o, hb, _⟩ := h3 q
    rw [hA] at hb; cases hb

/-! ### Elements of several cells -/
theorem o_ldwn {α : Type} {d : Ty α} {T : TypeId} {A : Option Addr} {c b o : Nat} {l : List α} {dt : Tmp} {x : Operand} {t : TypeId} {ty : TypeId} {pos : String} {aft : Array Edge} {g : Option (Nat × Bool)} {vs : List Value} {dd : TypeDesc} {y : α} (i k : Nat) (hi : L[i]? = some (win d T A c l)) (hA : A = some ⟨b, o, none⟩) (hk : l[k]? = some y)
    (hx : ev e x = some (.pointer (some ⟨b, o + k * d.sz, none⟩))) (hv : d.enc y = vs) (hu : P.underlying t = some dd) (ha : aggD dd = true) (hsz : P.cellsOf t = d.sz) (hin : (P.info? t).isSome = true) (hd : Nat.blt dt n = true)
    (h : Ent n C ((dt, .agg vs.toArray) :: e) D L I K) : Ent n C e D L I (ow ro P ⟨some dt, .load t x, ty, pos, aft, g⟩ Q K) :=
  ow_pure rfl hd (by simp) (fun a w kn ho => by
    subst hv
    obtain ⟨h1, hl, q1, q2, q3⟩ := ho.atom i hi
    obtain ⟨b', o', cur, hA', hb, hc⟩ := q3 (by have := (List.getElem?_eq_some_iff.1 hk).1; omega)
    rw [hA] at hA'
    simp only [Option.some.injEq, Addr.mk.injEq] at hA'
    obtain ⟨rfl, rfl, _⟩ := hA'
    have hr := run_loadn (P := P) hu ha (w := w) (p := ⟨b, o + k * d.sz, none⟩) (d.enc y) (by rw [hsz, d.len]) hin (fun j v hj => by
      rw [add_none, cell_of (hl _ _ hb), Nat.add_assoc]
      refine hc _ v ?_
      have := d.cells_at hk
      rw [← this, List.getElem?_take] at hj
      split at hj
      · simpa using hj
      · cases hj)
    simp only [execOp, kn.eval hx, Sem.run_bind, hr, Result.andThen_ok, Sem.run_pure]) h
theorem ars_lit0 {α : Type} {d : Ty α} {T : TypeId} {b : Nat} (h : Hp) (a : pt b [] T h) : ars d T (some ⟨b, 0, none⟩) 0 [] h :=
  .inr ⟨b, #[], rfl, a, Nat.le_refl _, by simp [maxLen], by simp, by simp [Ty.cells]⟩
theorem zeroCells_list {α : Type} {d : Ty α} {z : Value} {x0 : α} (hz : z.cells.toList = d.enc x0) (m : Nat) : (Builtin.zeroCells z.cells m).toList = d.cells (List.replicate m x0) := by
  have hs : z.cells.size = d.sz := by rw [← Array.length_toList, hz, d.len]
  apply List.ext_getElem?
  intro i
  rw [Array.getElem?_toList]
  have hlen := d.cells_length (List.replicate m x0)
  rw [List.length_replicate] at hlen
  by_cases hi : i < m * d.sz
  · have hpos : 0 < d.sz := by
      rcases Nat.eq_zero_or_pos d.sz with h | h
      · rw [h] at hi; omega
      · exact h
    have hq : i / d.sz < m := Nat.div_lt_of_lt_mul (by rw [Nat.mul_comm]; exact hi)
    have hr : i % d.sz < d.sz := Nat.mod_lt _ hpos
    have hx : (List.replicate m x0)[i / d.sz]? = some x0 := by simp [hq]
    have hat := d.cells_at hx
    have hi2 : (d.cells (List.replicate m x0))[i]? = (d.enc x0)[i % d.sz]? := by
      rw [← hat, List.getElem?_take, if_pos hr, List.getElem?_drop]
      congr 1
      rw [Nat.mul_comm]
      exact (Nat.div_add_mod i d.sz).symm
    rw [hi2, ← hz, Array.getElem?_toList]
    simp [Builtin.zeroCells, hs, hi]
    rw [Array.getElem?_eq_getElem (by rw [hs]; exact hr)]
    exact congrArg some (getElem!_pos z.cells (i % d.sz) (by rw [hs]; exact hr))
  · rw [List.getElem?_eq_none (by omega), Array.getElem?_eq_none (by simp [Builtin.zeroCells, hs]; omega)]
theorem cells_clear {α : Type} (d : Ty α) (l : List α) (lo : Nat) (x0 : α) (hlo : lo ≤ l.length) : d.cells (l.take lo ++ List.replicate (l.length - lo) x0) = over (d.cells l) (lo * d.sz) (d.cells (List.replicate (l.length - lo) x0)) := by
  have h1 := d.cells_length (l.take lo)
  have h2 := d.cells_length (List.replicate (l.length - lo) x0)
  have h3 := d.cells_length l
  have hlk : (l.take lo).length = lo := by simp; omega
  rw [hlk] at h1
  rw [List.length_replicate] at h2
  have hmul : l.length * d.sz = lo * d.sz + (l.length - lo) * d.sz := by rw [← Nat.add_mul]; congr 1; omega
  apply List.ext_getElem?
  intro j
  rw [over_get _ _ _ _ (by omega), d.cells_append]
  by_cases hj : j < lo * d.sz
  · rw [if_neg (by omega), List.getElem?_append_left (by omega), d.cells_take, List.getElem?_take, if_pos hj]
  · rw [List.getElem?_append_right (by omega), h1]
    by_cases hj2 : j < lo * d.sz + (d.cells (List.replicate (l.length - lo) x0)).length
    · rw [if_pos ⟨by omega, hj2⟩]
    · rw [if_neg (fun h => hj2 h.2), List.getElem?_eq_none (by omega), List.getElem?_eq_none (by omega)]
/-- What turns the memory and puts no value. -/
theorem ow_turn0 {o : Oper} (hdst : o.dst = none) (hnd : ∀ c, o.op ≠ .defer c)
    (hr : ∀ a w, Knows e a → Own C L I w → ∃ v w' L' I', (execOp a.eval o).run P w = .ok (.value v) w' ∧ Own C L' I' w' ∧ Ent n C e D L' I' K) : Ent n C e D L I (ow ro P o Q K) := fun a w k s d ho => by
  obtain ⟨v, w', L', I', h1, h2, h3⟩ := hr a w k ho
  refine ow_value hnd h1 ?_
  rw [hdst]
  exact h3 _ w' k s d h2
/-- clear of the end of a window. -/
theorem o_clear {α : Type} {d : Ty α} {T : TypeId} {A : Option Addr} {c lo m cc : Nat} {l : List α} {x : Operand} {t el : TypeId} {ty : TypeId} {pos : String} {aft : Array Edge} {g : Option (Nat × Bool)} {z : Value} (i : Nat) (x0 : α) (hi : L[i]? = some (win d T A c l))
    (hx : ev e x = some (.slice (cutA d A lo c) m cc)) (hm : m = l.length - lo) (hlo : lo ≤ l.length) (ht : P.underlying t = some (.slice el)) (hinf : (P.info? el).map (fun i => (i.zero, i.size)) = some (some z, d.sz)) (hz : z.cells.toList = d.enc x0) (hsz0 : d.sz ≠ 0)
    (h : Ent n C e D (L.set i (win d T A c (l.take lo ++ List.replicate (l.length - lo) x0))) I K) : Ent n C e D L I (ow ro P ⟨none, .call ⟨.builtin .clear, [x].toArray, [t].toArray⟩, ty, pos, aft, g⟩ Q K) :=
  ow_turn0 rfl (by simp) fun a w kn ho => by
    subst hm
    obtain ⟨inf, hin, he⟩ := Option.map_eq_some_iff.1 hinf
    simp only [Prod.mk.injEq] at he
    rcases Nat.eq_zero_or_pos (l.length - lo) with h0 | h0
    · have hlist : l.take lo ++ List.replicate (l.length - lo) x0 = l := by rw [h0, List.replicate_zero, List.append_nil, List.take_of_length_le (by omega)]
      rw [hlist] at h
      have hset : L.set i (win d T A c l) = L := by
        obtain ⟨hlt, he⟩ := List.getElem?_eq_some_iff.1 hi
        rw [← he]; exact List.set_getElem_self hlt
      rw [hset] at h
      refine ⟨.tuple #[], w, L, I, ?_, ho, h⟩
      simp only [execOp, resolve, Sem.run_bind, Sem.run_pure, Result.andThen_ok, List.map_toArray, List.map_cons, List.map_nil, kn.eval hx, invoke, builtin, Builtin.clear_, h0]
      simp only [run_underlying ht, Sem.run_bind, Result.andThen_ok, List.getElem?_toArray, List.getElem?_cons_zero]
      cases cutA d A lo c <;> simp [run_underlying ht]
    · obtain ⟨g0, gI, m⟩ := ho
      obtain ⟨h1, h2, ap, s1, s2, hw, hs⟩ := Sep.take i hi m.sep
      obtain ⟨q1, q2, q3⟩ := hw
      obtain ⟨b, o, cur, rfl, hb, hc⟩ := q3 (by omega)
      have hcl := d.cells_length l
      have hcr := d.cells_length (List.replicate (l.length - lo) x0)
      rw [List.length_replicate] at hcr
      have hmul : l.length * d.sz = lo * d.sz + (l.length - lo) * d.sz := by rw [← Nat.add_mul, Nat.add_sub_cancel' hlo]
      have hfit : o + lo * d.sz + (d.cells (List.replicate (l.length - lo) x0)).length ≤ cur.toList.length := by
        rw [hcr]
        rcases Nat.eq_zero_or_pos (l.length * d.sz) with hz0 | hz0
        · have : d.sz = 0 := by
            rcases Nat.eq_zero_or_pos d.sz with h | h
            · exact h
            · have hlp : 0 < l.length := by omega
              have := Nat.mul_pos hlp h
              omega
          exact absurd this hsz0
        · have hlast : (d.cells l)[l.length * d.sz - 1]? = some ((d.cells l)[l.length * d.sz - 1]'(by omega)) := List.getElem?_eq_getElem _
          have := hc _ _ hlast
          have := (Array.getElem?_eq_some_iff.1 this).1
          simp only [Array.length_toList]
          omega
      have hwb : w.heap[b]? = some (.cells cur.toList.toArray T (0, 0)) := m.l1 _ _ (s1 _ _ hb)
      have hone : Own C (ob b (.cells cur T (0, 0)) :: L.eraseIdx i) I w :=
        ⟨g0, gI, ⟨h1, h2, ap, s1, s2, hb, hs⟩, m.facts, m.base, m.d1, m.d2, m.d3, m.l1, m.l2, m.l3, m.os, m.tape, m.output⟩
      obtain ⟨ho', _⟩ := write_own (y := .cells (over cur.toList (o + lo * d.sz) (d.cells (List.replicate (l.length - lo) x0))).toArray T (0, 0)) hone 0 rfl
      have hst := run_storeCells_pt (P := P) (b := b) (T := T) (d.cells (List.replicate (l.length - lo) x0)) cur.toList w (o + lo * d.sz) 0 hwb (List.all_eq_true.2 (d.cells_one _)) (by simpa using hfit)
      have hA : cutA d (some ⟨b, o, none⟩) lo c = some ⟨b, o + lo * d.sz, none⟩ := by
        unfold cutA; rw [if_neg (by omega)]; simp [add_none]
      have hzv : (zeroValue el).run P w = .ok z w := by
        simp [zeroValue, typeInfo, hin, he.1]
      refine ⟨.tuple #[], { w with heap := w.heap.setIfInBounds b (.cells (over cur.toList (o + lo * d.sz) (d.cells (List.replicate (l.length - lo) x0))).toArray T (0, 0)) }, L.set i (win d T (some ⟨b, o, none⟩) c (l.take lo ++ List.replicate (l.length - lo) x0)), I, ?_, ?_, h⟩
      · have hzl := zeroCells_list (d := d) hz (l.length - lo)
        simp only [execOp, resolve, Sem.run_bind, Sem.run_pure, Result.andThen_ok, List.map_toArray, List.map_cons, List.map_nil, kn.eval hx, invoke, builtin, Builtin.clear_, hA]
        simp only [List.getElem?_toArray, List.getElem?_cons_zero]
        obtain ⟨k, hk⟩ : ∃ k, l.length - lo = k + 1 := ⟨l.length - lo - 1, by omega⟩
        simp only [Nat.add_zero] at hst
        rw [← hzl] at hst ⊢
        rw [hk] at hst ⊢
        simp [run_underlying ht, hzv, hst]
      · obtain ⟨g0, gI, m'⟩ := ho'
        obtain ⟨g1, g2, ap', t1, t2, hb', hs'⟩ := m'.sep
        refine ⟨g0, gI, Sep.put i hi ap' t1 t2 ?_ hs', m'.facts, m'.base, m'.d1, m'.d2, m'.d3, m'.l1, m'.l2, m'.l3, m'.os, m'.tape, m'.output⟩
        have hlen : (l.take lo ++ List.replicate (l.length - lo) x0).length = l.length := by simp; omega
        refine ⟨by rw [hlen]; exact q1, q2, fun _ => ⟨b, o, _, rfl, hb', fun j u hj => ?_⟩⟩
        rw [cells_clear d l lo x0 hlo, over_get _ _ _ _ (by omega)] at hj
        simp only [List.getElem?_toArray]
        rw [over_get _ _ _ _ hfit]
        by_cases hin2 : lo * d.sz ≤ j ∧ j < lo * d.sz + (d.cells (List.replicate (l.length - lo) x0)).length
        · rw [if_pos hin2] at hj
          rw [if_pos (by omega), show o + j - (o + lo * d.sz) = j - lo * d.sz from by omega]
          exact hj
        · rw [if_neg hin2] at hj
          rw [if_neg (by omega)]
          have := hc j u hj
          simpa using this
/-- Of what only adds memory. -/
theorem Own.below {w w' : World} (o : Own C L I w) (b : Below w.heap.size w w') : Own C L I w' := by
  obtain ⟨h, hI, m⟩ := o
  obtain ⟨b1, b2, b3, b4, b5⟩ := b
  have hle : ∀ k : Hp, le k (hpOf w) → le k (hpOf w') := fun k hk j x hj => by
    have h1 := hk j x hj
    have hlt : j < w.heap.size := (Array.getElem?_eq_some_iff.1 h1).1
    exact (b5 j hlt).trans h1
  exact ⟨h, hI, m.sep, m.facts, m.base, m.d1, m.d2, m.d3, hle _ m.l1, hle _ m.l2, hle _ m.l3, b1.trans m.os, b2.trans m.tape, b3.trans m.output⟩
theorem con_below {f : FuncId} {args : List Value} {r : Value} (g : Goes P f) (h : ∀ w, (∀ C : Ctx, Own C [] I w → Calls P f args.toArray w fun e w' => e = .returned r ∧ Below w.heap.size w w')) : Con P f args [] I (fun v L' I' => v = r ∧ L' = [] ∧ I' = []) :=
  ⟨g, fun C w o => (h w C o).mono fun e w' ⟨he, hb⟩ => ⟨r, he, [], [], ⟨rfl, rfl, rfl⟩, by simpa using o.below hb⟩⟩
end
end Go.Sl
