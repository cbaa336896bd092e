/- More operations: quotients, conversions of numbers, bits; structs by '=='; elements of several cells; clear; a contract from a call that only adds memory. -/
import Derived.Test.YtcnncdniibkjkaaGreatDoorSlJ
import Derived.Laws.StructEq
import Derived.Lib.SmallJoins
import Derived.Laws.Externs
import Derived.Lib.BufferWrite
import Derived.ProofKit
import Derived.LaidMore
import Derived.OpenShut
import Derived.Stop.Joined
import Derived.Stop.LaidTwo
import Derived.Stop.LaidErr
import Derived.Carry
import Derived.SliceStrings
import Derived.MapKept
import Derived.LaidEql
import Derived.Stop.Asserts
import Derived.Lib.AppendStr
import Derived.Lib.UnsafeStr
import Derived.Lib.Builder
set_option linter.unusedVariables false
set_option linter.unusedSimpArgs false
namespace Go.Sl
open Go Go.RowKit

/-- The byte of a number. -/
def u8of (z : Int) : UInt8 := UInt8.ofNat (z % 256).toNat
theorem u8of_wrap (z : Int) : IntKind.u8.wrap z = ((u8of z).toNat : Int) := by
  rw [IntKind.wrap_u8]
  unfold u8of
  have h : (z % 256).toNat < 256 := by omega
  rw [UInt8.toNat_ofNat_of_lt' h]
  omega
theorem u8of_toNat {z : Int} (h0 : 0 ≤ z) (h1 : z < 256) : (u8of z).toNat = z.toNat := by
  unfold u8of
  have h : (z % 256).toNat < 256 := by omega
  rw [UInt8.toNat_ofNat_of_lt' h]
  omega
theorem u8of_cast (b : UInt8) : u8of (b.toNat : Int) = b := by
  unfold u8of
  have h : ((b.toNat : Int) % 256).toNat = b.toNat := by
    have : b.toNat < 256 := b.toNat_lt
    omega
  rw [h]
  exact UInt8.ofNat_toNat
def andNotN (a b : Nat) : Nat := (BitVec.ofNat 64 a &&& ~~~ BitVec.ofNat 64 b).toNat
def two64 : Nat := 18446744073709551616
section
variable {n : Nat} {C : Ctx} {e : Env} {D : List Deferred} {L I : List Atom} {P : Program} {ro : Option Nat} {Q : Exit → Act → World → Prop} {K X : Act → World → Prop}

theorem y_nt {p : Prop} [Decidable p] {o : Oper} (hy : Ys P e o (.bool (!decide p))) (h : p) : Ys P e o (.bool false) := by rw [decide_eq_true h] at hy; exact hy
theorem y_nf {p : Prop} [Decidable p] {o : Oper} (hy : Ys P e o (.bool (!decide p))) (h : ¬ p) : Ys P e o (.bool true) := by rw [decide_eq_false h] at hy; exact hy
theorem y_re {o : Oper} {v v' : Value} (hy : Ys P e o v) (h : v = v') : Ys P e o v' := h ▸ hy
theorem y_quo {d : Option Tmp} {x y : Operand} {p q r : Int} {t t2 : TypeId} {ty : TypeId} {pos : String} {aft : Array Edge} {g : Option (Nat × Bool)} (hx : ev e x = some (.int .i64 p)) (hy : ev e y = some (.int .i64 q)) (hr : p / q = r) (hb : 0 ≤ p ∧ p ≤ 9223372036854775807 ∧ 1 ≤ q) :
    Ys P e ⟨d, .binOp .quo t x y t2, ty, pos, aft, g⟩ (.int .i64 r) := by
  subst hr
  have h0 : q ≠ 0 := by omega
  exact y_bin hx hy fun w => by simp [eqGuard, binOp, Op.intDiv, h0, IntWalk.i64_quo p q hb]
theorem y_rem {d : Option Tmp} {x y : Operand} {k : IntKind} {p q r : Int} {t t2 : TypeId} {ty : TypeId} {pos : String} {aft : Array Edge} {g : Option (Nat × Bool)} (hx : ev e x = some (.int k p)) (hy : ev e y = some (.int k q)) (hr : p % q = r) (hb : 0 ≤ p ∧ 1 ≤ q) :
    Ys P e ⟨d, .binOp .rem t x y t2, ty, pos, aft, g⟩ (.int k r) := by
  subst hr
  have h0 : q ≠ 0 := by omega
  exact y_bin hx hy fun w => by simp [eqGuard, binOp, Op.intDiv, h0, IntWalk.rem_in p q hb.1]
/-- A number of another kind. -/
theorem y_cvi {dd : Option Tmp} {x : Operand} {k k0 : IntKind} {z r : Int} {s d : TypeId} {td : TypeDesc} {ty : TypeId} {pos : String} {aft : Array Edge} {g : Option (Nat × Bool)} (hx : ev e x = some (.int k0 z)) (hs : P.underlying s = some td) (hd : P.underlying d = some (.int k)) (hr : k.wrap z = r) :
    Ys P e ⟨dd, .convert s d x, ty, pos, aft, g⟩ (.int k r) := fun a w kn => by
  subst hr
  simp [execOp, kn.eval hx, convert, run_underlying hs, run_underlying hd, Conv.intToInt]
theorem y_shr {d : Option Tmp} {x y : Operand} {ik : IntKind} {a k : Nat} {z : Int} {t t2 : TypeId} {ty : TypeId} {pos : String} {aft : Array Edge} {g : Option (Nat × Bool)} (hx : ev e x = some (.int .u64 (a : Int))) (hy : ev e y = some (.int ik z)) (hz : z = (k : Int)) (ha : a < 18446744073709551616) :
    Ys P e ⟨d, .binOp .shr t x y t2, ty, pos, aft, g⟩ (.int .u64 ((a / 2 ^ k : Nat) : Int)) := by
  subst hz
  have h0 : ¬ ((k : Int) < 0) := by omega
  have key : ((a : Int).fdiv (2 ^ (min k 64))) = ((a / 2 ^ k : Nat) : Int) := by
    have e1 : ((2 : Int) ^ (min k 64)) = ((2 ^ (min k 64) : Nat) : Int) := by simp
    rw [e1, Int.fdiv_eq_ediv_of_nonneg _ (Int.natCast_nonneg _), ← Int.natCast_ediv]
    congr 1
    rcases Nat.le_total k 64 with h | h
    · rw [Nat.min_eq_left h]
    · rw [Nat.min_eq_right h, Nat.div_eq_of_lt (show a < 2 ^ 64 by omega), Nat.div_eq_of_lt]
      exact Nat.lt_of_lt_of_le (show a < 2 ^ 64 by omega) (Nat.pow_le_pow_right (by omega) h)
  exact y_bin hx hy fun w => by
    have hb : IntKind.u64.bits = 64 := rfl
    simp only [eqGuard, binOp, Op.shift, h0, if_false, Int.toNat_natCast, hb, key]
    try simp
theorem bits_cast (a : Nat) : BitVec.ofInt 64 (a : Int) = BitVec.ofNat 64 a := by
  apply BitVec.eq_of_toNat_eq
  simp [BitVec.toNat_ofInt]
theorem wrap64 (r : BitVec 64) : IntKind.u64.wrap (r.toNat : Int) = (r.toNat : Int) := IntWalk.u64_in _ ⟨by omega, by have := r.isLt; omega⟩
theorem y_andNot {d : Option Tmp} {x y : Operand} {a b : Nat} {t t2 : TypeId} {ty : TypeId} {pos : String} {aft : Array Edge} {g : Option (Nat × Bool)} (hx : ev e x = some (.int .u64 (a : Int))) (hy : ev e y = some (.int .u64 (b : Int))) :
    Ys P e ⟨d, .binOp .andNot t x y t2, ty, pos, aft, g⟩ (.int .u64 ((andNotN a b : Nat) : Int)) :=
  y_bin hx hy fun w => by
    have key : (Op.intBits .andNot .u64 (a : Int) (b : Int)).run P w = .ok (.int .u64 ((andNotN a b : Nat) : Int)) w := by
      show Result.ok (Value.int .u64 (IntKind.u64.wrap (((BitVec.ofInt 64 (a : Int)) &&& ~~~ (BitVec.ofInt 64 (b : Int))).toNat : Int))) w = _
      rw [bits_cast, bits_cast, wrap64]
      rfl
    simp only [eqGuard, binOp]
    simp [key]
theorem y_or {d : Option Tmp} {x y : Operand} {a b : Nat} {t t2 : TypeId} {ty : TypeId} {pos : String} {aft : Array Edge} {g : Option (Nat × Bool)} (hx : ev e x = some (.int .u64 (a : Int))) (hy : ev e y = some (.int .u64 (b : Int))) (ha : a < 18446744073709551616) (hb : b < 18446744073709551616) :
    Ys P e ⟨d, .binOp .or t x y t2, ty, pos, aft, g⟩ (.int .u64 ((a ||| b : Nat) : Int)) :=
  y_bin hx hy fun w => by
    have key : (Op.intBits .or .u64 (a : Int) (b : Int)).run P w = .ok (.int .u64 ((a ||| b : Nat) : Int)) w := by
      show Result.ok (Value.int .u64 (IntKind.u64.wrap (((BitVec.ofInt 64 (a : Int)) ||| (BitVec.ofInt 64 (b : Int))).toNat : Int))) w = _
      rw [bits_cast, bits_cast, wrap64, BitVec.toNat_or, BitVec.toNat_ofNat, BitVec.toNat_ofNat, Nat.mod_eq_of_lt (show a < 2 ^ 64 by omega), Nat.mod_eq_of_lt (show b < 2 ^ 64 by omega)]
    simp only [eqGuard, binOp]
    simp [key]
theorem y_and {d : Option Tmp} {x y : Operand} {a b : Nat} {t t2 : TypeId} {ty : TypeId} {pos : String} {aft : Array Edge} {g : Option (Nat × Bool)} (hx : ev e x = some (.int .u64 (a : Int))) (hy : ev e y = some (.int .u64 (b : Int))) (ha : a < 18446744073709551616) (hb : b < 18446744073709551616) :
    Ys P e ⟨d, .binOp .and t x y t2, ty, pos, aft, g⟩ (.int .u64 ((a &&& b : Nat) : Int)) :=
  y_bin hx hy fun w => by
    have key : (Op.intBits .and .u64 (a : Int) (b : Int)).run P w = .ok (.int .u64 ((a &&& b : Nat) : Int)) w := by
      show Result.ok (Value.int .u64 (IntKind.u64.wrap (((BitVec.ofInt 64 (a : Int)) &&& (BitVec.ofInt 64 (b : Int))).toNat : Int))) w = _
      rw [bits_cast, bits_cast, wrap64, BitVec.toNat_and, BitVec.toNat_ofNat, BitVec.toNat_ofNat, Nat.mod_eq_of_lt (show a < 2 ^ 64 by omega), Nat.mod_eq_of_lt (show b < 2 ^ 64 by omega)]
    simp only [eqGuard, binOp]
    simp [key]
theorem y_shl {d : Option Tmp} {x y : Operand} {ik : IntKind} {a k : Nat} {z : Int} {t t2 : TypeId} {ty : TypeId} {pos : String} {aft : Array Edge} {g : Option (Nat × Bool)} (hx : ev e x = some (.int .u64 (a : Int))) (hy : ev e y = some (.int ik z)) (hz : z = (k : Int)) (hk : k ≤ 64) :
    Ys P e ⟨d, .binOp .shl t x y t2, ty, pos, aft, g⟩ (.int .u64 ((a * 2 ^ k % 18446744073709551616 : Nat) : Int)) := by
  subst hz
  have h0 : ¬ ((k : Int) < 0) := by omega
  exact y_bin hx hy fun w => by
    have hb : IntKind.u64.bits = 64 := rfl
    have key : IntKind.u64.wrap ((a : Int) * 2 ^ (min k 64)) = ((a * 2 ^ k % 18446744073709551616 : Nat) : Int) := by
      have e1 : ((2 : Int) ^ (min k 64)) = ((2 ^ k : Nat) : Int) := by rw [Nat.min_eq_left hk]; simp
      rw [e1, ← Int.natCast_mul]
      show (((a * 2 ^ k : Nat) : Int) % (2 ^ 64 : Int)) = _
      rw [show ((2 : Int) ^ 64) = ((18446744073709551616 : Nat) : Int) from rfl, ← Int.natCast_emod]
    simp only [eqGuard, binOp, Op.shift, h0, if_false, Int.toNat_natCast, hb, key]
    try simp

theorem y_maxi {dd : Option Tmp} {x y : Operand} {ats : Array TypeId} {ty : TypeId} {pos : String} {aft : Array Edge} {g : Option (Nat × Bool)} {p q : Int} (hx : ev e x = some (.int .i64 p)) (hy : ev e y = some (.int .i64 q)) :
    Ys P e ⟨dd, .call ⟨.builtin .max, [x, y].toArray, ats⟩, ty, pos, aft, g⟩ (.int .i64 (max p q)) := fun a w kn => by
  have h1 : (if p < q then q else p) = max p q := by split <;> omega
  simp only [execOp, resolve, Sem.run_bind, Sem.run_pure, Result.andThen_ok, List.map_toArray, List.map_cons, List.map_nil, kn.eval hx, kn.eval hy, invoke, builtin, Builtin.max_, Builtin.max2, List.foldlM_cons, List.foldlM_nil, h1]
theorem y_mini {dd : Option Tmp} {x y : Operand} {ats : Array TypeId} {ty : TypeId} {pos : String} {aft : Array Edge} {g : Option (Nat × Bool)} {p q : Int} (hx : ev e x = some (.int .i64 p)) (hy : ev e y = some (.int .i64 q)) :
    Ys P e ⟨dd, .call ⟨.builtin .min, [x, y].toArray, ats⟩, ty, pos, aft, g⟩ (.int .i64 (min p q)) := fun a w kn => by
  have h1 : (if q < p then q else p) = min p q := by split <;> omega
  simp only [execOp, resolve, Sem.run_bind, Sem.run_pure, Result.andThen_ok, List.map_toArray, List.map_cons, List.map_nil, kn.eval hx, kn.eval hy, invoke, builtin, Builtin.min_, Builtin.min2, List.foldlM_cons, List.foldlM_nil, h1]
theorem run_slnil {A : Option Addr} {m c : Nat} {t el : TypeId} (ht : P.underlying t = some (.slice el)) (w : World) (k : Nat) : (Op.equalIn (k + 1) t (.slice A m c) (.slice none 0 0)).run P w = .ok (decide (A = none)) w := by
  cases A with
  | none => simp only [Op.equalIn, Sem.run_bind, run_underlying ht, Result.andThen_ok]; rfl
  | some a => simp only [Op.equalIn, Sem.run_bind, run_underlying ht, Result.andThen_ok]; rfl
/-- A slice against nil. -/
theorem y_slnil {d : Option Tmp} {x y : Operand} {A : Option Addr} {m c : Nat} {t t2 el : TypeId} {ty : TypeId} {pos : String} {aft : Array Edge} {g : Option (Nat × Bool)} (hx : ev e x = some (.slice A m c)) (hy : ev e y = some (.slice none 0 0)) (ht : P.underlying t = some (.slice el)) :
    Ys P e ⟨d, .binOp .eql t x y t2, ty, pos, aft, g⟩ (.bool (decide (A = none))) := y_bin hx hy fun w => by
  have h := run_slnil (A := A) (m := m) (c := c) ht w 9999
  simp only [eqGuard, binOp, Op.equal, Op.maxDepth, Sem.run_bind] at h ⊢
  simp [h]
theorem y_slnn {d : Option Tmp} {x y : Operand} {A : Option Addr} {m c : Nat} {t t2 el : TypeId} {ty : TypeId} {pos : String} {aft : Array Edge} {g : Option (Nat × Bool)} (hx : ev e x = some (.slice A m c)) (hy : ev e y = some (.slice none 0 0)) (ht : P.underlying t = some (.slice el)) :
    Ys P e ⟨d, .binOp .neq t x y t2, ty, pos, aft, g⟩ (.bool (!decide (A = none))) := y_bin hx hy fun w => by
  have h := run_slnil (A := A) (m := m) (c := c) ht w 9999
  simp only [eqGuard, binOp, Op.equal, Op.maxDepth, Sem.run_bind] at h ⊢
  simp [h]
/-- One atom less. -/
theorem Sep.drop : ∀ {L : List Atom} {h : Hp} (i : Nat), Sep L h → Sep (L.eraseIdx i) h
  | [], _, _, s => s
  | _ :: _, _, 0, ⟨h1, h2, d, l1, l2, a, s⟩ => s.up l2
  | _ :: _, _, i + 1, ⟨h1, h2, d, l1, l2, a, s⟩ => ⟨h1, h2, d, l1, l2, a, Sep.drop i s⟩
theorem e_drop (i : Nat) (h : Ent n C e D (L.eraseIdx i) I X) : Ent n C e D L I X := fun a w kn s dd ho => by
  obtain ⟨h0, hI, m⟩ := ho
  exact h a w kn s dd ⟨h0, hI, m.sep.drop i, m.facts, m.base, m.d1, m.d2, m.d3, m.l1, m.l2, m.l3, m.os, m.tape, m.output⟩
/-- What is read at nil has no element. -/
theorem e_rdn {α : Type} {d : Ty α} {A : Option Addr} {c : Nat} {l : List α} (i : Nat) (hi : I[i]? = some (rd d A c l)) (hA : A = none) (h : l = [] → Ent n C e D L I X) : Ent n C e D L I X := fun a w kn s dd ho => by
  obtain ⟨h1, hl, hA'⟩ := ho.fact (List.mem_of_getElem? hi)
  obtain ⟨_, _, h3⟩ := hA' h1 (le.refl _)
  refine h ?_ a w kn s dd ho
  rcases Nat.eq_zero_or_pos l.length with q | q
  · exact List.eq_nil_of_length_eq_zero q
  · obtain ⟨b, o, hb, _⟩ := h3 q
    rw [hA] at hb; cases hb

/-! ### Elements of several cells -/
theorem o_ldwn {α : Type} {d : Ty α} {T : TypeId} {A : Option Addr} {c b o : Nat} {l : List α} {dt : Tmp} {x : Operand} {t : TypeId} {ty : TypeId} {pos : String} {aft : Array Edge} {g : Option (Nat × Bool)} {vs : List Value} {dd : TypeDesc} {y : α} (i k : Nat) (hi : L[i]? = some (win d T A c l)) (hA : A = some ⟨b, o, none⟩) (hk : l[k]? = some y)
    (hx : ev e x = some (.pointer (some ⟨b, o + k * d.sz, none⟩))) (hv : d.enc y = vs) (hu : P.underlying t = some dd) (ha : aggD dd = true) (hsz : P.cellsOf t = d.sz) (hin : (P.info? t).isSome = true) (hd : Nat.blt dt n = true)
    (h : Ent n C ((dt, .agg vs.toArray) :: e) D L I K) : Ent n C e D L I (ow ro P ⟨some dt, .load t x, ty, pos, aft, g⟩ Q K) :=
  ow_pure rfl hd (by simp) (fun a w kn ho => by
    subst hv
    obtain ⟨h1, hl, q1, q2, q3⟩ := ho.atom i hi
    obtain ⟨b', o', cur, hA', hb, hc⟩ := q3 (by have := (List.getElem?_eq_some_iff.1 hk).1; omega)
    rw [hA] at hA'
    simp only [Option.some.injEq, Addr.mk.injEq] at hA'
    obtain ⟨rfl, rfl, _⟩ := hA'
    have hr := run_loadn (P := P) hu ha (w := w) (p := ⟨b, o + k * d.sz, none⟩) (d.enc y) (by rw [hsz, d.len]) hin (fun j v hj => by
      rw [add_none, cell_of (hl _ _ hb), Nat.add_assoc]
      refine hc _ v ?_
      have := d.cells_at hk
      rw [← this, List.getElem?_take] at hj
      split at hj
      · simpa using hj
      · cases hj)
    simp only [execOp, kn.eval hx, Sem.run_bind, hr, Result.andThen_ok, Sem.run_pure]) h
theorem ars_lit0 {α : Type} {d : Ty α} {T : TypeId} {b : Nat} (h : Hp) (a : pt b [] T h) : ars d T (some ⟨b, 0, none⟩) 0 [] h :=
  .inr ⟨b, #[], rfl, a, Nat.le_refl _, by simp [maxLen], by simp, by simp [Ty.cells]⟩
theorem zeroCells_list {α : Type} {d : Ty α} {z : Value} {x0 : α} (hz : z.cells.toList = d.enc x0) (m : Nat) : (Builtin.zeroCells z.cells m).toList = d.cells (List.replicate m x0) := by
  have hs : z.cells.size = d.sz := by rw [← Array.length_toList, hz, d.len]
  apply List.ext_getElem?
  intro i
  rw [Array.getElem?_toList]
  have hlen := d.cells_length (List.replicate m x0)
  rw [List.length_replicate] at hlen
  by_cases hi : i < m * d.sz
  · have hpos : 0 < d.sz := by
      rcases Nat.eq_zero_or_pos d.sz with h | h
      · rw [h] at hi; omega
      · exact h
    have hq : i / d.sz < m := Nat.div_lt_of_lt_mul (by rw [Nat.mul_comm]; exact hi)
    have hr : i % d.sz < d.sz := Nat.mod_lt _ hpos
    have hx : (List.replicate m x0)[i / d.sz]? = some x0 := by simp [hq]
    have hat := d.cells_at hx
    have hi2 : (d.cells (List.replicate m x0))[i]? = (d.enc x0)[i % d.sz]? := by
      rw [← hat, List.getElem?_take, if_pos hr, List.getElem?_drop]
      congr 1
      rw [Nat.mul_comm]
      exact (Nat.div_add_mod i d.sz).symm
    rw [hi2, ← hz, Array.getElem?_toList]
    simp [Builtin.zeroCells, hs, hi]
    rw [Array.getElem?_eq_getElem (by rw [hs]; exact hr)]
    exact congrArg some (getElem!_pos z.cells (i % d.sz) (by rw [hs]; exact hr))
  · rw [List.getElem?_eq_none (by omega), Array.getElem?_eq_none (by simp [Builtin.zeroCells, hs]; omega)]
theorem cells_clear {α : Type} (d : Ty α) (l : List α) (lo : Nat) (x0 : α) (hlo : lo ≤ l.length) : d.cells (l.take lo ++ List.replicate (l.length - lo) x0) = over (d.cells l) (lo * d.sz) (d.cells (List.replicate (l.length - lo) x0)) := by
  have h1 := d.cells_length (l.take lo)
  have h2 := d.cells_length (List.replicate (l.length - lo) x0)
  have h3 := d.cells_length l
  have hlk : (l.take lo).length = lo := by simp; omega
  rw [hlk] at h1
  rw [List.length_replicate] at h2
  have hmul : l.length * d.sz = lo * d.sz + (l.length - lo) * d.sz := by rw [← Nat.add_mul]; congr 1; omega
  apply List.ext_getElem?
  intro j
  rw [over_get _ _ _ _ (by omega), d.cells_append]
  by_cases hj : j < lo * d.sz
  · rw [if_neg (by omega), List.getElem?_append_left (by omega), d.cells_take, List.getElem?_take, if_pos hj]
  · rw [List.getElem?_append_right (by omega), h1]
    by_cases hj2 : j < lo * d.sz + (d.cells (List.replicate (l.length - lo) x0)).length
    · rw [if_pos ⟨by omega, hj2⟩]
    · rw [if_neg (fun h => hj2 h.2), List.getElem?_eq_none (by omega), List.getElem?_eq_none (by omega)]
/-- What turns the memory and puts no value. -/
theorem ow_turn0 {o : Oper} (hdst : o.dst = none) (hnd : ∀ c, o.op ≠ .defer c)
    (hr : ∀ a w, Knows e a → Own C L I w → ∃ v w' L' I', (execOp a.eval o).run P w = .ok (.value v) w' ∧ Own C L' I' w' ∧ Ent n C e D L' I' K) : Ent n C e D L I (ow ro P o Q K) := fun a w k s d ho => by
  obtain ⟨v, w', L', I', h1, h2, h3⟩ := hr a w k ho
  refine ow_value hnd h1 ?_
  rw [hdst]
  exact h3 _ w' k s d h2
/-- clear of the end of a window. -/
theorem o_clear {α : Type} {d : Ty α} {T : TypeId} {A : Option Addr} {c lo m cc : Nat} {l : List α} {x : Operand} {t el : TypeId} {ty : TypeId} {pos : String} {aft : Array Edge} {g : Option (Nat × Bool)} {z : Value} (i : Nat) (x0 : α) (hi : L[i]? = some (win d T A c l))
    (hx : ev e x = some (.slice (cutA d A lo c) m cc)) (hm : m = l.length - lo) (hlo : lo ≤ l.length) (ht : P.underlying t = some (.slice el)) (hinf : (P.info? el).map (fun i => (i.zero, i.size)) = some (some z, d.sz)) (hz : z.cells.toList = d.enc x0) (hsz0 : d.sz ≠ 0)
    (h : Ent n C e D (L.set i (win d T A c (l.take lo ++ List.replicate (l.length - lo) x0))) I K) : Ent n C e D L I (ow ro P ⟨none, .call ⟨.builtin .clear, [x].toArray, [t].toArray⟩, ty, pos, aft, g⟩ Q K) :=
  ow_turn0 rfl (by simp) fun a w kn ho => by
    subst hm
    obtain ⟨inf, hin, he⟩ := Option.map_eq_some_iff.1 hinf
    simp only [Prod.mk.injEq] at he
    rcases Nat.eq_zero_or_pos (l.length - lo) with h0 | h0
    · have hlist : l.take lo ++ List.replicate (l.length - lo) x0 = l := by rw [h0, List.replicate_zero, List.append_nil, List.take_of_length_le (by omega)]
      rw [hlist] at h
      have hset : L.set i (win d T A c l) = L := by
        obtain ⟨hlt, he⟩ := List.getElem?_eq_some_iff.1 hi
        rw [← he]; exact List.set_getElem_self hlt
      rw [hset] at h
      refine ⟨.tuple #[], w, L, I, ?_, ho, h⟩
      simp only [execOp, resolve, Sem.run_bind, Sem.run_pure, Result.andThen_ok, List.map_toArray, List.map_cons, List.map_nil, kn.eval hx, invoke, builtin, Builtin.clear_, h0]
      simp only [run_underlying ht, Sem.run_bind, Result.andThen_ok, List.getElem?_toArray, List.getElem?_cons_zero]
      cases cutA d A lo c <;> simp [run_underlying ht]
    · obtain ⟨g0, gI, m⟩ := ho
      obtain ⟨h1, h2, ap, s1, s2, hw, hs⟩ := Sep.take i hi m.sep
      obtain ⟨q1, q2, q3⟩ := hw
      obtain ⟨b, o, cur, rfl, hb, hc⟩ := q3 (by omega)
      have hcl := d.cells_length l
      have hcr := d.cells_length (List.replicate (l.length - lo) x0)
      rw [List.length_replicate] at hcr
      have hmul : l.length * d.sz = lo * d.sz + (l.length - lo) * d.sz := by rw [← Nat.add_mul, Nat.add_sub_cancel' hlo]
      have hfit : o + lo * d.sz + (d.cells (List.replicate (l.length - lo) x0)).length ≤ cur.toList.length := by
        rw [hcr]
        rcases Nat.eq_zero_or_pos (l.length * d.sz) with hz0 | hz0
        · have : d.sz = 0 := by
            rcases Nat.eq_zero_or_pos d.sz with h | h
            · exact h
            · have hlp : 0 < l.length := by omega
              have := Nat.mul_pos hlp h
              omega
          exact absurd this hsz0
        · have hlast : (d.cells l)[l.length * d.sz - 1]? = some ((d.cells l)[l.length * d.sz - 1]'(by omega)) := List.getElem?_eq_getElem _
          have := hc _ _ hlast
          have := (Array.getElem?_eq_some_iff.1 this).1
          simp only [Array.length_toList]
          omega
      have hwb : w.heap[b]? = some (.cells cur.toList.toArray T (0, 0)) := m.l1 _ _ (s1 _ _ hb)
      have hone : Own C (ob b (.cells cur T (0, 0)) :: L.eraseIdx i) I w :=
        ⟨g0, gI, ⟨h1, h2, ap, s1, s2, hb, hs⟩, m.facts, m.base, m.d1, m.d2, m.d3, m.l1, m.l2, m.l3, m.os, m.tape, m.output⟩
      obtain ⟨ho', _⟩ := write_own (y := .cells (over cur.toList (o + lo * d.sz) (d.cells (List.replicate (l.length - lo) x0))).toArray T (0, 0)) hone 0 rfl
      have hst := run_storeCells_pt (P := P) (b := b) (T := T) (d.cells (List.replicate (l.length - lo) x0)) cur.toList w (o + lo * d.sz) 0 hwb (List.all_eq_true.2 (d.cells_one _)) (by simpa using hfit)
      have hA : cutA d (some ⟨b, o, none⟩) lo c = some ⟨b, o + lo * d.sz, none⟩ := by
        unfold cutA; rw [if_neg (by omega)]; simp [add_none]
      have hzv : (zeroValue el).run P w = .ok z w := by
        simp [zeroValue, typeInfo, hin, he.1]
      refine ⟨.tuple #[], { w with heap := w.heap.setIfInBounds b (.cells (over cur.toList (o + lo * d.sz) (d.cells (List.replicate (l.length - lo) x0))).toArray T (0, 0)) }, L.set i (win d T (some ⟨b, o, none⟩) c (l.take lo ++ List.replicate (l.length - lo) x0)), I, ?_, ?_, h⟩
      · have hzl := zeroCells_list (d := d) hz (l.length - lo)
        simp only [execOp, resolve, Sem.run_bind, Sem.run_pure, Result.andThen_ok, List.map_toArray, List.map_cons, List.map_nil, kn.eval hx, invoke, builtin, Builtin.clear_, hA]
        simp only [List.getElem?_toArray, List.getElem?_cons_zero]
        obtain ⟨k, hk⟩ : ∃ k, l.length - lo = k + 1 := ⟨l.length - lo - 1, by omega⟩
        simp only [Nat.add_zero] at hst
        rw [← hzl] at hst ⊢
        rw [hk] at hst ⊢
        simp [run_underlying ht, hzv, hst]
      · obtain ⟨g0, gI, m'⟩ := ho'
        obtain ⟨g1, g2, ap', t1, t2, hb', hs'⟩ := m'.sep
        refine ⟨g0, gI, Sep.put i hi ap' t1 t2 ?_ hs', m'.facts, m'.base, m'.d1, m'.d2, m'.d3, m'.l1, m'.l2, m'.l3, m'.os, m'.tape, m'.output⟩
        have hlen : (l.take lo ++ List.replicate (l.length - lo) x0).length = l.length := by simp; omega
        refine ⟨by rw [hlen]; exact q1, q2, fun _ => ⟨b, o, _, rfl, hb', fun j u hj => ?_⟩⟩
        rw [cells_clear d l lo x0 hlo, over_get _ _ _ _ (by omega)] at hj
        simp only [List.getElem?_toArray]
        rw [over_get _ _ _ _ hfit]
        by_cases hin2 : lo * d.sz ≤ j ∧ j < lo * d.sz + (d.cells (List.replicate (l.length - lo) x0)).length
        · rw [if_pos hin2] at hj
          rw [if_pos (by omega), show o + j - (o + lo * d.sz) = j - lo * d.sz from by omega]
          exact hj
        · rw [if_neg hin2] at hj
          rw [if_neg (by omega)]
          have := hc j u hj
          simpa using this
/-- Of what only adds memory. -/
theorem Own.below {w w' : World} (o : Own C L I w) (b : Below w.heap.size w w') : Own C L I w' := by
  obtain ⟨h, hI, m⟩ := o
  obtain ⟨b1, b2, b3, b4, b5⟩ := b
  have hle : ∀ k : Hp, le k (hpOf w) → le k (hpOf w') := fun k hk j x hj => by
    have h1 := hk j x hj
    have hlt : j < w.heap.size := (Array.getElem?_eq_some_iff.1 h1).1
    exact (b5 j hlt).trans h1
  exact ⟨h, hI, m.sep, m.facts, m.base, m.d1, m.d2, m.d3, hle _ m.l1, hle _ m.l2, hle _ m.l3, b1.trans m.os, b2.trans m.tape, b3.trans m.output⟩
theorem con_below {f : FuncId} {args : List Value} {r : Value} (g : Goes P f) (h : ∀ w, (∀ C : Ctx, Own C [] I w → Calls P f args.toArray w fun e w' => e = .returned r ∧ Below w.heap.size w w')) : Con P f args [] I (fun v L' I' => v = r ∧ L' = [] ∧ I' = []) :=
  ⟨g, fun C w o => (h w C o).mono fun e w' ⟨he, hb⟩ => ⟨r, he, [], [], ⟨rfl, rfl, rfl⟩, by simpa using o.below hb⟩⟩
end
end Go.Sl
/- errors.As: functions without a body, methods by their names. -/
set_option linter.unusedVariables false
set_option linter.unusedSimpArgs false
namespace Go.Sl
open Go Go.RowKit Go.Extern
section
variable {n : Nat} {C : Ctx} {e : Env} {D : List Deferred} {L I : List Atom} {P : Program} {ro : Option Nat} {Q : Exit → Act → World → Prop} {K X : Act → World → Prop}

/-- A loop under way: its rounds one by one. -/
theorem c_rounds {c : Code} (m : Nat) (Z : Nat → Act → World → Prop) (h0 : Ent n C e D L I (Z 0))
    (round : ∀ q, q < m → ∀ a w, Z q a w → cw ro P c (Exit.then (Z (q + 1)) Q) a w) (hend : ∀ q, m ≤ q → ∀ a w, ¬ Z q a w) : Ent n C e D L I (cw ro P (.loop c) Q) := by
  intro a w hk hs hd ho b k cs hro hb hr
  have key : ∀ r q a w, m - q = r → Z q a w → ∃ x a' w', Q x a' w' ∧ ArrivesIn (Machine.fenced P (fen ro)) P (lone (b.atR a (.code c :: .inLoop c :: k)) cs w) b k cs x a' w' := by
    intro r
    induction r with
    | zero => intro q a w hq hz; exact absurd hz (hend q (by omega) a w)
    | succ r ih =>
      intro q a w hq hz
      obtain ⟨x, a₁, w₁, hx, harr⟩ := round q (by omega) a w hz b (.inLoop c :: k) cs hro hb hr
      cases x with
      | normal =>
        obtain ⟨x₂, a₂, w₂, hq₂, harr₂⟩ := ih (q + 1) a₁ w₁ (by omega) hx
        exact ⟨x₂, a₂, w₂, hq₂, .of_steps (StepsIn.trans harr (.one (fenced_calm hb hr rfl) stepR_inLoop)) harr₂⟩
      | exit id => exact ⟨_, a₁, w₁, hx, .pass (x := .inLoop c) rfl (fun _ _ => .inl (by simp)) harr⟩
      | goto l => exact ⟨_, a₁, w₁, hx, .pass (x := .inLoop c) rfl (fun _ _ => .inl (by simp)) harr⟩
      | ret => exact ⟨_, a₁, w₁, hx, .pass (x := .inLoop c) rfl (fun _ _ => .inl (by simp)) harr⟩
      | panic ch => exact ⟨_, a₁, w₁, hx, .pass (x := .inLoop c) rfl (fun _ _ => .inl (by simp)) harr⟩
      | outgrown => exact ⟨_, a₁, w₁, hx, .pass (x := .inLoop c) rfl (fun _ _ => .inl (by simp)) harr⟩
  obtain ⟨x, a', w', hq, harr⟩ := key _ 0 a w rfl (h0 a w hk hs hd ho)
  exact ⟨x, a', w', hq, .of_steps (.one (fenced_calm hb hr rfl) stepR_loop) harr⟩
/-- The rounds of a loop that ends within m of them. -/
def Rd (ro : Option Nat) (P : Program) (c : Code) (Q : Exit → Act → World → Prop) : Nat → Act → World → Prop
  | 0 => fun _ _ => False
  | m + 1 => cw ro P c (Exit.then (Rd ro P c Q m) Q)
theorem c_unroll {c : Code} (m : Nat) (h : Ent n C e D L I (Rd ro P c Q m)) : Ent n C e D L I (cw ro P (.loop c) Q) :=
  c_rounds m (fun q => if q < m then Rd ro P c Q (m - q) else fun _ _ => False) (by
    by_cases hm : 0 < m
    · rw [if_pos hm]; exact h
    · have : m = 0 := by omega
      subst this
      exact h) (fun q hq a w hz => by
      rw [if_pos hq] at hz
      obtain ⟨r, hr⟩ : ∃ r, m - q = r + 1 := ⟨m - q - 1, by omega⟩
      rw [hr] at hz
      have e : (if q + 1 < m then Rd ro P c Q (m - (q + 1)) else fun _ _ => False) = Rd ro P c Q r := by
        by_cases h1 : q + 1 < m
        · rw [if_pos h1]; congr 1; omega
        · rw [if_neg h1]
          have : r = 0 := by omega
          subst this; rfl
      rw [e]
      exact hz) (fun q hq a w hz => by rw [if_neg (by omega)] at hz; exact hz)
theorem c_round {c : Code} {m : Nat} (h : Ent n C e D L I (cw ro P c (Exit.then (Rd ro P c Q m) Q))) : Ent n C e D L I (Rd ro P c Q (m + 1)) := h
/-- What lays a block and puts something of its address. -/
theorem o_boxf {o : Oper} {dt : Tmp} {cs : List Value} {T : TypeId} (f : Nat → Value) (hdst : o.dst = some dt) (hd : Nat.blt dt n = true) (hp : plainOp o.op = true) (hk : known e o = true)
    (hr : ∀ w, (execOp (rho e) o).run P w = .ok (.value (f w.heap.size)) { w with heap := w.heap.push (.cells cs.toArray T (0, 0)) })
    (h : ∀ b, Ent n C ((dt, f b) :: e) D (pt b cs T :: L) I K) : Ent n C e D L I (ow ro P o Q K) := o_new (f := f) hdst hd hp hk hr h
/-- A call that enters a function, by whatever name, by its contract. -/
theorem o_into {o : Oper} {dt : Tmp} {f : FuncId} {args : List Value} {Lf Lr If : List Atom} {post : Value → List Atom → List Atom → Prop}
    (ix jx : List Nat) (spec : Con P f args Lf If post) (hdst : o.dst = some dt) (hpl : plainOp o.op = true) (hk : known e o = true) (hr : ∀ w, (execOp (rho e) o).run P w = .ok (.enter f args.toArray) w) (hp : pull L ix = some (Lf, Lr)) (hI : picks I jx = some If) (hd : Nat.blt dt n = true)
    (h : ∀ v L' I', post v L' I' → Ent n C ((dt, v) :: e) D (L' ++ Lr) (I' ++ I) K) : Ent n C e D L I (ow ro P o Q K) :=
  fun a w k s d ho => by
    obtain ⟨C', o1, back⟩ := ho.handed hp (picks_mem hI)
    refine ow_enter (plain_nd hpl).1 (by rw [exec_rho k (plain_nd hpl).2 hk]; exact hr w) (spec.2 C' w o1) ?_
    rintro v w'' ⟨L', I', hq, ho'⟩
    have hlt : dt < a.tmps.size := by rw [s]; simpa using hd
    rw [hdst]
    exact h v L' I' hq _ _ (k.put hlt) (by simp [Act.put, s]) (by simpa [Act.put] using d) (back _ _ _ ho')
/-- A function without a body that reads one block. -/
theorem o_extr {dt : Tmp} {fo : Operand} {xs : List Operand} {ats : Array TypeId} {ty : TypeId} {pos : String} {aft : Array Edge} {g : Option (Nat × Bool)} {f : FuncId} {vals : List Value} {H : Array Value → Sem Value} {b T : Nat} {cs : List Value} {v : Value} (i : Nat)
    (hc : ∀ (args : Array Value) (w : World), (callFunc f args).run P w = ((H args).run P w).andThen fun v w' => .ok (.value v) w') (hx : ev e fo = some (.func (.func f) #[] #[])) (hv : evs e xs = some vals) (hi : L[i]? = some (pt b cs T))
    (hr : ∀ w : World, w.heap[b]? = some (.cells cs.toArray T (0, 0)) → (H vals.toArray).run P w = .ok v w) (hd : Nat.blt dt n = true)
    (h : Ent n C ((dt, v) :: e) D L I K) : Ent n C e D L I (ow ro P ⟨some dt, .call ⟨.value fo, xs.toArray, ats⟩, ty, pos, aft, g⟩ Q K) :=
  ow_pure rfl hd (by simp) (fun a w k ho => by
    obtain ⟨h1, hl, hA⟩ := ho.atom i hi
    have hb : w.heap[b]? = some (.cells cs.toArray T (0, 0)) := hl _ _ hA
    have hval := k.evals hv
    have h1 : (xs.toArray.map a.eval) = vals.toArray := by rw [List.map_toArray, hval]
    simp only [execOp, resolve, h1, k.eval hx, Deferred.ofValue, Sem.run_bind, Sem.run_pure, Result.andThen_ok, invoke]
    rw [show (#[] ++ vals.toArray ++ #[] : Array Value) = vals.toArray by simp, hc, hr w hb]
    rfl) h
/-- The same of one that lays the contents of a block over another one. -/
theorem o_exts {dt : Tmp} {fo : Operand} {xs : List Operand} {ats : Array TypeId} {ty : TypeId} {pos : String} {aft : Array Edge} {g : Option (Nat × Bool)} {f : FuncId} {vals : List Value} {H : Array Value → Sem Value} {b b2 T T2 : Nat} {cs old : List Value} {v : Value} (i j : Nat)
    (hc : ∀ (args : Array Value) (w : World), (callFunc f args).run P w = ((H args).run P w).andThen fun v w' => .ok (.value v) w') (hx : ev e fo = some (.func (.func f) #[] #[])) (hv : evs e xs = some vals) (hi : L[i]? = some (pt b old T)) (hj : L[j]? = some (pt b2 cs T2))
    (hr : ∀ w : World, w.heap[b]? = some (.cells old.toArray T (0, 0)) → w.heap[b2]? = some (.cells cs.toArray T2 (0, 0)) → (H vals.toArray).run P w = .ok v { w with heap := w.heap.setIfInBounds b (.cells cs.toArray T (0, 0)) }) (hd : Nat.blt dt n = true)
    (h : Ent n C ((dt, v) :: e) D (L.set i (pt b cs T)) I K) : Ent n C e D L I (ow ro P ⟨some dt, .call ⟨.value fo, xs.toArray, ats⟩, ty, pos, aft, g⟩ Q K) :=
  ow_turn rfl hd (by simp) fun a w k ho => by
    obtain ⟨h2, hl2, hA2⟩ := ho.atom j hj
    have hb2 : w.heap[b2]? = some (.cells cs.toArray T2 (0, 0)) := hl2 _ _ hA2
    obtain ⟨ho', hb⟩ := write_own (y := .cells cs.toArray T (0, 0)) ho i hi
    have hval := k.evals hv
    have h1 : (xs.toArray.map a.eval) = vals.toArray := by rw [List.map_toArray, hval]
    refine ⟨v, _, _, I, ?_, ho', h⟩
    simp only [execOp, resolve, h1, k.eval hx, Deferred.ofValue, Sem.run_bind, Sem.run_pure, Result.andThen_ok, invoke]
    rw [show (#[] ++ vals.toArray ++ #[] : Array Value) = vals.toArray by simp, hc, hr w hb hb2]
    rfl

/-! ### Values of reflectlite -/
theorem rlm (z : Sem Value) (f : TypeId → Addr → Nat → Nat → Sem Value) (v : Value) : ReflectliteValue.method z f #[v] = (do match ← ReflectliteValue.parts v with | none => z | some (t, a, fl) => f t a fl (fl % 32)) := rfl
theorem rls (v x : Value) : ReflectliteValue.set #[v, x] = (do
    let (some (dst, a, fl), some (src, b, _)) := (← ReflectliteValue.parts v, ← ReflectliteValue.parts x)
      | unsupported (.noEntry "extern/(internal/reflectlite.Value).Set.zeroValue")
    if fl / ReflectliteValue.flagAddr % 2 == 0 then unsupported (.noEntry "extern/(internal/reflectlite.Value).Set.unaddressable")
    let val ← loadVar src b
    if ← Rtype.directlyAssignable dst src then storeVar dst a val
    else if ← Rtype.implements dst src then
      if (← Rtype.kind src) == 20 then
        match val with
        | .nilIface => unsupported (.noEntry "extern/reflectlite: a nil value of one interface type handed on as a value of another")
        | _ => storeVar dst a val
      else storeVar dst a (.iface src val)
    else panicString ("reflectlite.Set: value of type " ++ (← Rtype.spelt src) ++ " is not assignable to type " ++ (← Rtype.spelt dst))
    pure (.tuple #[])) := rfl
/-- IsNil of a pointer's Value. -/
theorem run_isNil {tp : TypeId} {d : TypeDesc} {z : Sem Value} {v : Value} {b : Nat} {p : Addr} {fl : Nat} (hparts : ∀ w, (ReflectliteValue.parts v).run P w = .ok (some (tp, ⟨b, 0, none⟩, fl)) w) (hfl : fl % 32 = 22) (hu : P.underlying tp = some d) (ha : aggD d = false) (w : World) (hb : w.heap[b]? = some (.cells #[.pointer (some p)] tp (0, 0))) :
    (ReflectliteValue.method z ReflectliteValue.isNil #[v]).run P w = .ok (.bool false) w := by
  have hl := run_loadVar_of (run_load1 (P := P) hu ha (w := w) (p := ⟨b, 0, none⟩) (v := .pointer (some p)) (by rw [cell_of hb]; rfl))
  rw [rlm]
  simp only [Sem.run_bind, hparts, Result.andThen, hfl]
  simp [ReflectliteValue.isNil, hl, Result.andThen]
/-- Elem of a pointer's Value. -/
theorem run_elemV {tp T : TypeId} {d : TypeDesc} {z : Sem Value} {v r : Value} {b : Nat} {p : Addr} {fl : Nat} (hparts : ∀ w, (ReflectliteValue.parts v).run P w = .ok (some (tp, ⟨b, 0, none⟩, fl)) w) (hfl : fl % 32 = 22) (hu : P.underlying tp = some d) (ha : aggD d = false)
    (hel : ∀ w, (Rtype.elem? tp).run P w = .ok (some T) w) (hmk : ∀ w, (ReflectliteValue.mk T p ReflectliteValue.flagAddr).run P w = .ok r w) (w : World) (hb : w.heap[b]? = some (.cells #[.pointer (some p)] tp (0, 0))) :
    (ReflectliteValue.method z ReflectliteValue.elem #[v]).run P w = .ok r w := by
  have hl := run_loadVar_of (run_load1 (P := P) hu ha (w := w) (p := ⟨b, 0, none⟩) (v := .pointer (some p)) (by rw [cell_of hb]; rfl))
  rw [rlm]
  simp only [Sem.run_bind, hparts, Result.andThen, hfl]
  simp [ReflectliteValue.elem, hl, hel, hmk, Result.andThen]
/-- Set of a struct's variable. -/
theorem run_setV {T : TypeId} {d : TypeDesc} {v x : Value} {b b2 : Nat} {cs old : List Value} {f1 f2 : Nat} (h1 : ∀ w, (ReflectliteValue.parts v).run P w = .ok (some (T, ⟨b, 0, none⟩, f1)) w) (h2 : ∀ w, (ReflectliteValue.parts x).run P w = .ok (some (T, ⟨b2, 0, none⟩, f2)) w) (hf : (f1 / ReflectliteValue.flagAddr % 2 == 0) = false)
    (hda : ∀ w, (Rtype.directlyAssignable T T).run P w = .ok true w) (hu : P.underlying T = some d) (ha : aggD d = true) (hsz : P.cellsOf T = cs.length) (hin : (P.info? T).isSome = true) (hone : oneAll cs = true) (hlen : cs.length = old.length) (w : World)
    (hb : w.heap[b]? = some (.cells old.toArray T (0, 0))) (hb2 : w.heap[b2]? = some (.cells cs.toArray T (0, 0))) :
    (ReflectliteValue.set #[v, x]).run P w = .ok (.tuple #[]) { w with heap := w.heap.setIfInBounds b (.cells cs.toArray T (0, 0)) } := by
  have hl := run_loadVar_of (run_loadn (P := P) hu ha (w := w) (p := ⟨b2, 0, none⟩) cs hsz hin (fun j v hj => by rw [add_none, cell_of hb2]; simpa using hj))
  have hst := run_store_pt (P := P) (t := T) (o := 0) (v := .agg cs.toArray) (vs := cs) hb (by simp [Value.cells]) hsz hin hone (by omega)
  have hov : over old 0 cs = cs := by
    apply List.ext_getElem?
    intro q
    rw [over_get _ _ _ _ (by omega)]
    by_cases hq : q < cs.length
    · rw [if_pos ⟨by omega, by omega⟩]; simp
    · rw [if_neg (by omega), List.getElem?_eq_none (by omega), List.getElem?_eq_none (by omega)]
  rw [hov] at hst
  have hst' : (storeVar T ⟨b, 0, none⟩ (.agg cs.toArray)).run P w = .ok () { w with heap := w.heap.setIfInBounds b (.cells cs.toArray T (0, 0)) } := by
    simpa [Instr.storeAt, Instr.sureAddr] using hst
  rw [rls]
  simp only [Sem.run_bind, h1, h2, Result.andThen, hf, Bool.false_eq_true, if_false, Sem.run_pure, hl, hda, if_true, hst']
end
end Go.Sl
/- Copies of texts; slices of slices of bytes; differences that may wrap. -/
set_option linter.unusedVariables false
set_option linter.unusedSimpArgs false
namespace Go.Sl
open Go Go.RowKit Go.Lib
/-- A slice of bytes as an element: its head and what it holds. -/
structure Part where
  A : Option Addr
  c : Nat
  l : List UInt8
def partTy : Ty Part := ⟨1, fun p => [.slice p.A p.l.length p.c], fun _ => rfl, fun _ => rfl⟩
/-- What some hold, to be read. -/
def rds (ps : List Part) : Atom := fun h => ∀ p ∈ ps, rd u8Ty p.A p.c p.l h
section
variable {n : Nat} {C : Ctx} {e : Env} {D : List Deferred} {L I : List Atom} {P : Program} {ro : Option Nat} {Q : Exit → Act → World → Prop} {K X : Act → World → Prop}
theorem e_rds {ps : List Part} {x : Part} (i : Nat) (hi : I[i]? = some (rds ps)) (hx : x ∈ ps) (h : Ent n C e D L (rd u8Ty x.A x.c x.l :: I) X) : Ent n C e D L I X :=
  e_fact (fun _ hI hf k hk => hf _ (List.mem_of_getElem? hi) k hk x hx) h
theorem e_mk0 (h : Ent n C e D L (rds [] :: I) X) : Ent n C e D L I X := e_fact (fun _ hI hf k hk => fun p hp => by cases hp) h
theorem e_mk1 {ps : List Part} {A : Option Addr} {c : Nat} {l : List UInt8} (i j : Nat) (hi : I[i]? = some (rd u8Ty A c l)) (hj : I[j]? = some (rds ps)) (h : Ent n C e D L (rds (⟨A, c, l⟩ :: ps) :: I) X) : Ent n C e D L I X :=
  e_fact (fun _ hI hf k hk => fun p hp => by
    rcases List.mem_cons.1 hp with rfl | hp
    · exact hf _ (List.mem_of_getElem? hi) k hk
    · exact hf _ (List.mem_of_getElem? hj) k hk p hp) h
theorem y_subw {d : Option Tmp} {x y : Operand} {p q : Int} {t t2 : TypeId} {ty : TypeId} {pos : String} {aft : Array Edge} {g : Option (Nat × Bool)} (hx : ev e x = some (.int .i64 p)) (hy : ev e y = some (.int .i64 q)) :
    Ys P e ⟨d, .binOp .sub t x y t2, ty, pos, aft, g⟩ (.int .i64 (IntKind.i64.wrap (p - q))) :=
  y_bin hx hy fun w => by simp [eqGuard, binOp, Op.intArith]
theorem y_addw {d : Option Tmp} {x y : Operand} {p q : Int} {t t2 : TypeId} {ty : TypeId} {pos : String} {aft : Array Edge} {g : Option (Nat × Bool)} (hx : ev e x = some (.int .i64 p)) (hy : ev e y = some (.int .i64 q)) :
    Ys P e ⟨d, .binOp .add t x y t2, ty, pos, aft, g⟩ (.int .i64 (IntKind.i64.wrap (p + q))) :=
  y_bin hx hy fun w => by simp [eqGuard, binOp, Op.intArith]
/-- copy of a text over the whole of a list of the call's own. -/
theorem o_copys {x y : Operand} {t t2 el : TypeId} {ty : TypeId} {pos : String} {aft : Array Edge} {g : Option (Nat × Bool)} {A : Option Addr} {c m : Nat} {l : List UInt8} {s : ByteArray} (i : Nat) {od : Option Tmp} (hod : ∀ dt, od = some dt → Nat.blt dt n = true)
    (hx : ev e x = some (.slice A m c)) (hy : ev e y = some (.string s)) (hi : L[i]? = some (ars u8Ty el A c l)) (hm : m = l.length) (hlen : s.size = l.length) (ht : P.underlying t = some (.slice el)) (hinf : (P.info? el).map (·.size) = some 1)
    (h : Ent n C (pute od (.int .i64 (s.size : Int)) e) D (L.set i (ars u8Ty el A c s.data.toList)) I K) : Ent n C e D L I (ow ro P ⟨od, .call ⟨.builtin .copy, [x, y].toArray, [t, t2].toArray⟩, ty, pos, aft, g⟩ Q K) := fun a w kn ss dd ho => by
  subst hm
  have hsz : s.data.toList.length = s.size := Array.length_toList
  have hcl : ∀ q : List UInt8, u8Ty.cells q = byteCells q := fun q => by rw [u8cells]; simp [byteCells]
  obtain ⟨h1, hl, hA⟩ := ho.atom i hi
  have fin : ∀ w' : World, Own C (L.set i (ars u8Ty el A c s.data.toList)) I w' → K (a.put od (.int .i64 (s.size : Int))) w' := fun w' ho' => by
    cases od with
    | none => exact h a w' kn ss dd ho'
    | some dt =>
      have hlt : dt < a.tmps.size := by rw [ss]; simpa using hod dt rfl
      exact h _ w' (kn.put hlt) (by simp [Act.put, ss]) (by simpa [Act.put] using dd) ho'
  have hexec : ∀ r w', (Builtin.copy_ #[t, t2] ty #[.slice A l.length c, .string s]).run P w = .ok r w' → (execOp a.eval ⟨od, .call ⟨.builtin .copy, [x, y].toArray, [t, t2].toArray⟩, ty, pos, aft, g⟩).run P w = .ok (.value r) w' := fun r w' hr => by
    simp only [execOp, resolve, Sem.run_bind, Sem.run_pure, Result.andThen_ok, List.map_toArray, List.map_cons, List.map_nil, kn.eval hx, kn.eval hy, invoke, builtin, hr]
  rcases hA with ⟨rfl, rfl, rfl⟩ | ⟨b, cur, rfl, hb, hlc, hcm, hcs, htk⟩
  · have h0 : s.size = 0 := by simpa using hlen
    have hr := run_copy_empty_string (P := P) w t t2 ty el none 0 0 s ht (by cases hq : P.info? el <;> simp_all) h0
    refine ow_value (by simp) (hexec _ _ hr) ?_
    have hs0 : s.data.toList = [] := List.eq_nil_of_length_eq_zero (by omega)
    have hset : L.set i (ars u8Ty el none 0 s.data.toList) = L := by
      obtain ⟨hlt, he⟩ := List.getElem?_eq_some_iff.1 hi
      rw [hs0, ← he]; exact List.set_getElem_self hlt
    have := fin w (by rw [hset]; exact ho)
    rw [h0] at this
    exact this
  · have hg := hl _ _ hb
    have h1s : u8Ty.sz = 1 := rfl
    have hr := run_copy_row_string (P := P) w t t2 ty el b 0 l.length c s cur el ht hinf hg (by omega) (by rw [hcs, h1s]; omega)
    have hown : (w.setRow b (cur.toList.take 0 ++ byteCells s.data.toList ++ cur.toList.drop (0 + s.size)).toArray).ownsRow 0 el u8Ty.sz (.slice (some ⟨b, 0, none⟩) s.data.toList.length c) s.data.toList.length (u8Ty.cells s.data.toList) := by
      have hbl : (byteCells s.data.toList).length = s.size := by simp [byteCells, hsz]
      refine ⟨u8Ty.cells_length _, .inr ⟨b, c, _, rfl, Nat.zero_le _, setRow_heap w b _ _ el _ hg, by omega, hcm, ?_, ?_⟩⟩
      · simp [hbl, h1s]; have : cur.toList.length = cur.size := Array.length_toList; rw [h1s] at hcs; omega
      · rw [hcl]; simp only [List.take_zero, List.nil_append, h1s, Nat.mul_one]
        rw [show s.data.toList.length = (byteCells s.data.toList).length by rw [hbl, hsz]]
        simp
    have hgr : w.grownBy (w.setRow b (cur.toList.take 0 ++ byteCells s.data.toList ++ cur.toList.drop (0 + s.size)).toArray) (Value.slice (some ⟨b, 0, none⟩) l.length c).ownBlock := by
      refine ⟨rfl, rfl, rfl, by simp [World.setRow], fun k hk hne => ?_⟩
      have : b ≠ k := fun q => hne (by rw [← q]; rfl)
      simp only [World.setRow]
      rw [Array.getElem?_modify, if_neg this]
    obtain ⟨A1, c1, hv, ho'⟩ := turn_own (l1 := s.data.toList) ho i hi hgr hown (.inl (by rw [hsz, hlen])) rfl rfl
    simp only [Value.slice.injEq] at hv
    obtain ⟨rfl, _, rfl⟩ := hv
    exact ow_value (by simp) (hexec _ _ hr) (fin _ ho')
end
end Go.Sl
/- From a contract to a row: what a call keeps; what the arguments and the laid variables give. -/
set_option linter.unusedVariables false
set_option linter.unusedSimpArgs false
namespace Go.Sl
open Go Go.RowKit Go.ChangeShapes Go.WideShapes Go.ChangeAt

theorem con_calls {P : Program} {f : FuncId} {args : List Value} {I : List Atom} {r : Value} (h : Con P f args [] I (fun v L' I' => v = r ∧ L' = [] ∧ I' = [])) {W : World} (hf : Facts I (hpOf W)) :
    Calls P f args.toArray W fun e W' => e = .returned r ∧ Below W.heap.size W W' := by
  have o : Own ⟨W, nothing, hpOf W⟩ [] I W := ⟨nothing, hpOf W, trivial, hf, le.refl _, nothing_apart _, nothing_apart _, apart_nothing _, nothing_le _, le.refl _, nothing_le _, rfl, rfl, rfl⟩
  refine (h.2 _ W o).mono ?_
  rintro e W' ⟨v, rfl, L', I', ⟨rfl, rfl, rfl⟩, h0, hI, m⟩
  have hle : le (hpOf W) (hpOf W') := m.base.trans m.l2
  refine ⟨rfl, m.os, m.tape, m.output, ?_, fun k hk => ?_⟩
  · rcases Nat.eq_zero_or_pos W.heap.size with h | h
    · omega
    · have h1 : hpOf W (W.heap.size - 1) = some W.heap[W.heap.size - 1] := Array.getElem?_eq_getElem (by omega)
      have := (Array.getElem?_eq_some_iff.1 (hle _ _ h1)).1
      omega
  · have h1 : hpOf W k = some W.heap[k] := Array.getElem?_eq_getElem hk
    exact (hle _ _ h1).trans h1.symm

theorem cellsAt_of {W : World} {a : Addr} {vs : List Value} (hne : 0 < vs.length) (h : ∀ j v, vs[j]? = some v → W.cell? (a.add j) = some v) : ∃ b o, a = ⟨b, o, none⟩ ∧ cellsAt b o vs (hpOf W) := by
  have h0 := h 0 vs[0] (List.getElem?_eq_getElem hne)
  obtain ⟨b, o, spot⟩ := a
  have hs : spot = none := by
    cases spot with
    | none => rfl
    | some s =>
      simp only [World.cell?, Addr.add] at h0
      split at h0 <;> simp at h0
  subst hs
  refine ⟨b, o, rfl, ?_⟩
  simp only [add_none] at h h0
  have hb : ∃ cur T fr, W.heap[b]? = some (.cells cur T fr) := by
    simp only [World.cell?] at h0
    split at h0
    · rename_i c T fr hc; exact ⟨c, T, fr, hc⟩
    · cases h0
  obtain ⟨cur, T, fr, hb⟩ := hb
  refine ⟨cur, T, fr, hb, fun j v hj => ?_⟩
  have := h j v hj
  rwa [cell_of hb] at this
theorem rd_of {α : Type} (d : Ty α) {W : World} {a : Addr} {c : Nat} {l : List α} (hc : l.length ≤ c) (hm : l.length ≤ 9223372036854775807) (hsz : 0 < d.sz) (h : ∀ j v, (d.cells l)[j]? = some v → W.cell? (a.add j) = some v) : ∀ k, le (hpOf W) k → rd d (some a) c l k := fun k hk => by
  refine rd.up (h := hpOf W) ⟨hc, hm, fun hp => ?_⟩ hk
  have : 0 < (d.cells l).length := by rw [d.cells_length]; exact Nat.mul_pos hp hsz
  obtain ⟨b, o, rfl, hc⟩ := cellsAt_of this h
  exact ⟨b, o, rfl, hc⟩
theorem rd_nil {α : Type} (d : Ty α) (A : Option Addr) (c : Nat) (k : Hp) : rd d A c [] k := ⟨Nat.zero_le _, by simp, fun h => absurd h (by simp)⟩
/-- A slice of texts, opened. -/
theorem open_texts {H : Type} {enc : TypeId × Value → H} {P : Program} {W : World} {base : Nat} {spare : Nat → Bool} {held : Bool} {t e : TypeId} {fuel : Nat} {v : Value} {x : DataW H × List MemPlace} (ht : P.underlying t = some (.slice e)) (he : P.underlying e = some .string) (hc : P.cellsOf e = 1)
    (h : DataW.trod enc P W base spare held fuel t [v] = some x) : ∃ (A : Option Addr) (c : Nat) (l : List ByteArray), v = .slice A l.length c ∧ ∀ k, le (hpOf W) k → rd strTy A c l k := by
  rcases open_strings ht he hc h with ⟨hcs, _⟩ | ⟨a, len, cap, ss, hcs, _, hl, hm, hz, _, hcell, _⟩
  · simp only [List.cons.injEq, and_true] at hcs
    exact ⟨none, 0, [], hcs, fun k _ => rd_nil _ _ _ _⟩
  · simp only [List.cons.injEq, and_true] at hcs
    have hlen : (ss.take len).length = len := by
      have : len ≤ ss.length := by rw [hz]; split <;> omega
      simp; omega
    refine ⟨some a, cap, ss.take len, by rw [hlen]; exact hcs, rd_of strTy (by rw [hlen]; exact hl) (by rw [hlen]; simp only [maxLen] at hm; omega) (by decide) fun j u hj => ?_⟩
    have e1 : ∀ l : List ByteArray, strTy.cells l = l.map fun s => Value.string s := fun l => by
      induction l with
      | nil => rfl
      | cons s r ih => unfold Ty.cells at *; rw [List.flatMap_cons, ih]; rfl
    rw [e1, List.getElem?_map, Option.map_eq_some_iff] at hj
    obtain ⟨s, hs, rfl⟩ := hj
    rw [List.getElem?_take] at hs
    split at hs
    · have hlt := (List.getElem?_eq_some_iff.1 hs).1
      have := hcell j hlt
      rw [this, List.getD_eq_getElem?_getD, hs]
      rfl
    · cases hs

/-- A sentinel of errors.New's make: what the walk asks of it. -/
structure Sent (P : Program) (W : World) (n : String) (g : Nat) (tp : TypeId) (a : Addr) : Prop where
  var : W.cell? ⟨g, 0, none⟩ = some (.iface tp (.pointer (some a)))
  blk : ∃ c t, W.heap[a.block]? = some (.cells c t (0, 0))
theorem sent_facts {P : Program} {W : World} {n : String} {g : Nat} {tp : TypeId} {a : Addr} (h : Sent P W n g tp a) : ∀ k, le (hpOf W) k → cellsAt g 0 [.iface tp (.pointer (some a))] k := fun k hk => by
  obtain ⟨b, o, he, cur, T, fr, hb, hc⟩ := cellsAt_of (W := W) (a := ⟨g, 0, none⟩) (vs := [.iface tp (.pointer (some a))]) (by simp) (fun j v hj => by
    cases j with
    | zero => simp at hj; subst hj; rw [add_none]; exact h.var
    | succ j => simp at hj)
  simp only [Addr.mk.injEq] at he
  obtain ⟨rfl, rfl, _⟩ := he
  exact ⟨cur, T, fr, hk _ _ hb, hc⟩
/-- Three sentinels of one type. -/
theorem laid3 {P : Program} {n0 n1 n2 nm : String} {text0 text1 text2 : List UInt8} {W : World} {g0 g1 g2 : Nat} {ti tp te ts : TypeId} {ms : Array (String × TypeId)} {f : Field}
    (h : laidMet P [(n0, .iface nm (.ptr (.agg [.lit (.string text0)]))), (n1, .iface nm (.ptr (.agg [.lit (.string text1)]))), (n2, .iface nm (.ptr (.agg [.lit (.string text2)])))] W)
    (hg0 : P.globalNamed n0 = some g0) (ht0 : (P.globals[g0]?).map (·.type) = some ti) (hg1 : P.globalNamed n1 = some g1) (ht1 : (P.globals[g1]?).map (·.type) = some ti) (hg2 : P.globalNamed n2 = some g2) (ht2 : (P.globals[g2]?).map (·.type) = some ti)
    (hi : P.underlying ti = some (.interface ms)) (hrow : ∀ u, P.typeName? 3 u = some nm → u = tp)
    (hp : P.underlying tp = some (.pointer te)) (he : P.underlying te = some (.struct #[f])) (hft : f.type = ts) (hfo : f.offset = 0) (hs : P.underlying ts = some .string) (hc : P.cellsOf te = 1) (hcs : P.cellsOf ts = 1) :
    ∃ a0 a1 a2 : Addr, Sent P W n0 g0 tp a0 ∧ Sent P W n1 g1 tp a1 ∧ Sent P W n2 g2 tp a2 ∧ a0 ≠ a1 ∧ a0 ≠ a2 ∧ a1 ≠ a2 := by
  obtain ⟨ps, ⟨g0', t0', cs0, f0, p0, q0, hg0', ht0', hv0, hd0, ⟨g1', t1', cs1, f1, p1, q1, hg1', ht1', hv1, hd1, ⟨g2', t2', cs2, f2, p2, q2, hg2', ht2', hv2, hd2, _, e2⟩, e1⟩, e0⟩, hnd, hrows⟩ := h
  obtain rfl := Option.some.inj (hg0.symm.trans hg0')
  obtain rfl := Option.some.inj (hg1.symm.trans hg1')
  obtain rfl := Option.some.inj (hg2.symm.trans hg2')
  obtain rfl := Option.some.inj (ht0.symm.trans ht0')
  obtain rfl := Option.some.inj (ht1.symm.trans ht1')
  obtain rfl := Option.some.inj (ht2.symm.trans ht2')
  subst e2
  subst e1
  subst e0
  obtain ⟨l0⟩ := cs0
  obtain ⟨l1⟩ := cs1
  obtain ⟨l2⟩ := cs2
  have ok0 : ∀ u v, l0 = [.iface u v] → Value.okWide P W .any 0 u v := fun u v e => by
    subst e
    exact (hrows g0 0 (by simp [MemPlace.row])).2 u v (by simpa using World.var?_cell hg0' hv0 0)
  have ok1 : ∀ u v, l1 = [.iface u v] → Value.okWide P W .any 0 u v := fun u v e => by
    subst e
    exact (hrows g1 0 (by simp [MemPlace.row])).2 u v (by simpa using World.var?_cell hg1' hv1 0)
  have ok2 : ∀ u v, l2 = [.iface u v] → Value.okWide P W .any 0 u v := fun u v e => by
    subst e
    exact (hrows g2 0 (by simp [MemPlace.row])).2 u v (by simpa using World.var?_cell hg2' hv2 0)
  obtain ⟨a0, s0, rfl, hc0, hs0, hz0, rfl⟩ := errorString_of_trod hi hrow hp he hft hfo hs hc hcs hd0 ok0
  obtain ⟨a1, s1, rfl, hc1, hs1, hz1, rfl⟩ := errorString_of_trod hi hrow hp he hft hfo hs hc hcs hd1 ok1
  obtain ⟨a2, s2, rfl, hc2, hs2, hz2, rfl⟩ := errorString_of_trod hi hrow hp he hft hfo hs hc hcs hd2 ok2
  obtain ⟨c0, t0, hb0⟩ := (hrows a0.block a0.off (by simp [MemPlace.row])).1
  obtain ⟨c1, t1, hb1⟩ := (hrows a1.block a1.off (by simp [MemPlace.row])).1
  obtain ⟨c2, t2, hb2⟩ := (hrows a2.block a2.off (by simp [MemPlace.row])).1
  refine ⟨a0, a1, a2, ⟨by simpa using World.var?_cell hg0' hv0 0, _, _, hb0⟩, ⟨by simpa using World.var?_cell hg1' hv1 0, _, _, hb1⟩, ⟨by simpa using World.var?_cell hg2' hv2 0, _, _, hb2⟩, ?_, ?_, ?_⟩
  · rintro rfl; simp [MemPlace.row] at hnd
  · rintro rfl; simp [MemPlace.row] at hnd
  · rintro rfl; simp [MemPlace.row] at hnd
end Go.Sl
/- Openers: from what the arguments read as, to values and facts. -/
set_option linter.unusedVariables false
set_option linter.unusedSimpArgs false
namespace Go.Sl
open Go Go.RowKit Go.ChangeShapes Go.WideShapes Go.ChangeAt

theorem choose_list {α : Type} {Q : Nat → α → Prop} : ∀ {n : Nat}, (∀ i, i < n → ∃ x, Q i x) → ∃ l : List α, l.length = n ∧ ∀ i x, l[i]? = some x → Q i x
  | 0, _ => ⟨[], rfl, fun i x h => by simp at h⟩
  | n + 1, h => by
    obtain ⟨l, hl, hq⟩ := choose_list (n := n) (fun i hi => h i (by omega))
    obtain ⟨x, hx⟩ := h n (by omega)
    refine ⟨l ++ [x], by simp [hl], fun i y hy => ?_⟩
    by_cases hi : i < l.length
    · rw [List.getElem?_append_left hi] at hy; exact hq i y hy
    · have hlt := (List.getElem?_eq_some_iff.1 hy).1
      simp at hlt
      have : i = n := by omega
      subst this
      rw [List.getElem?_append_right (by omega), hl, Nat.sub_self] at hy
      simp at hy; subst hy; exact hx
theorem Ty.cells_get {α : Type} (d : Ty α) {l : List α} {j : Nat} {u : Value} (hj : (d.cells l)[j]? = some u) (hpos : 0 < d.sz) : ∃ x, l[j / d.sz]? = some x ∧ (d.enc x)[j % d.sz]? = some u := by
  have hlt := (List.getElem?_eq_some_iff.1 hj).1
  rw [d.cells_length] at hlt
  have hq : j / d.sz < l.length := Nat.div_lt_of_lt_mul (by rw [Nat.mul_comm]; exact hlt)
  refine ⟨l[j / d.sz], List.getElem?_eq_getElem hq, ?_⟩
  have h1 := d.cells_at (List.getElem?_eq_getElem hq)
  rw [← h1, List.getElem?_take, if_pos (Nat.mod_lt _ hpos), List.getElem?_drop]
  rw [show j / d.sz * d.sz + j % d.sz = j by rw [Nat.mul_comm]; exact Nat.div_add_mod j d.sz]
  exact hj
/-- A slice, each of whose elements reads as one of a kind. -/
theorem open_list {H : Type} {enc : TypeId × Value → H} {P : Program} {W : World} {base : Nat} {spare : Nat → Bool} {held : Bool} {α : Type} (d : Ty α) (Pr : α → Prop) {t e : TypeId} {fuel : Nat} {v : Value} {x : DataW H × List MemPlace}
    (ht : P.underlying t = some (.slice e)) (hsz : P.cellsOf e = d.sz) (hpos : 0 < d.sz)
    (hE : ∀ n cs y, DataW.trod enc P W base spare held n e cs = some y → ∃ x, cs = d.enc x ∧ Pr x) (h : DataW.trod enc P W base spare held fuel t [v] = some x) :
    ∃ (A : Option Addr) (c : Nat) (l : List α), v = .slice A l.length c ∧ (∀ k, le (hpOf W) k → rd d A c l k) ∧ (∀ x ∈ l, Pr x) := by
  rcases DataW.trod_slice ht h with ⟨hcs, _⟩ | ⟨a, len, cap, elems, rest, n, _, hcs, _, hb, hl, hm, hlen, hel, _, _⟩
  · simp only [List.cons.injEq, and_true] at hcs
    exact ⟨none, 0, [], hcs, fun k _ => rd_nil _ _ _ _, fun x hx => by cases hx⟩
  · simp only [List.cons.injEq, and_true] at hcs
    have each : ∀ i, i < len → ∃ x, W.cells? base (a.add (i * P.cellsOf e)) (P.cellsOf e) = some (d.enc x) ∧ Pr x := fun i hi => by
      have h1 := hel i hi
      rw [List.getElem?_eq_getElem (by omega)] at h1
      obtain ⟨cs, hc, hy⟩ := Option.bind_eq_some_iff.1 h1
      obtain ⟨x, rfl, hp⟩ := hE _ _ _ hy
      exact ⟨x, hc, hp⟩
    obtain ⟨l, hll, hq⟩ := choose_list each
    refine ⟨some a, cap, l, by rw [hll]; exact hcs, rd_of d (by omega) (by simp only [maxLen] at hm; omega) hpos fun j u hj => ?_, fun x hx => ?_⟩
    · obtain ⟨x, hx, hu⟩ := d.cells_get hj hpos
      have h1 := (hq _ _ hx).1
      obtain ⟨_, _, h2⟩ := World.cells?_some h1
      have h3 := h2 (j % d.sz) (by rw [hsz]; exact Nat.mod_lt _ hpos)
      rw [hu, hsz] at h3
      rw [← h3]
      have hd : j = j / d.sz * d.sz + j % d.sz := by rw [Nat.mul_comm]; exact (Nat.div_add_mod j d.sz).symm
      rw [Addr.add_add, ← hd]
    · obtain ⟨i, hi⟩ := List.getElem?_of_mem hx
      exact (hq _ _ hi).2
/-- A struct among the arguments. -/
theorem open_struct {H : Type} {enc : TypeId × Value → H} {P : Program} {W : World} {base : Nat} {spare : Nat → Bool} {held : Bool} {base' : Nat} {α : Type} {f : α → List Value} {Pr : α → Prop} {t : TypeId} {fs : Array Field} {v : Value} {d : DataW H} {p : List MemPlace} {r : Reach}
    (ht : P.underlying t = some (.struct fs)) (hv : Value.okWide P W r base' t v) (hE : ∀ n cs y, DataW.trod enc P W base spare held n t cs = some y → ∃ x, cs = f x ∧ Pr x) (h : DataW.Trod enc P W base spare held t v d p) : ∃ x, v = .agg (f x).toArray ∧ Pr x := by
  simp only [Value.okWide, ht] at hv
  obtain ⟨cs, rfl, _, _⟩ := hv
  obtain ⟨fuel, hf⟩ := h
  obtain ⟨x, hx, hp⟩ := hE _ _ _ hf
  refine ⟨x, ?_, hp⟩
  have : cs.toList = f x := by simpa [Value.cells] using hx
  rw [← this]
theorem open_u64 {H : Type} {enc : TypeId × Value → H} {P : Program} {W : World} {base : Nat} {spare : Nat → Bool} {held : Bool} {t : TypeId} {n : Nat} {cs : List Value} {y : DataW H × List MemPlace} (ht : P.underlying t = some (.int .u64)) (h : DataW.trod enc P W base spare held n t cs = some y) : ∃ x : Nat, cs = [.int .u64 (x : Int)] ∧ x < 18446744073709551616 := by
  obtain ⟨z, rfl, _, hw⟩ := DataW.trod_int ht h
  simp only [Lit.wf, Bool.and_eq_true, decide_eq_true_eq] at hw
  obtain ⟨h1, h2⟩ := hw
  have h1' : (0 : Int) ≤ z := h1
  have h2' : z ≤ 18446744073709551615 := h2
  exact ⟨z.toNat, by rw [Int.toNat_of_nonneg h1'], by omega⟩
theorem open_i64 {H : Type} {enc : TypeId × Value → H} {P : Program} {W : World} {base : Nat} {spare : Nat → Bool} {held : Bool} {t : TypeId} {n : Nat} {cs : List Value} {y : DataW H × List MemPlace} (ht : P.underlying t = some (.int .i64)) (h : DataW.trod enc P W base spare held n t cs = some y) : ∃ x : Int, cs = [.int .i64 x] ∧ -9223372036854775808 ≤ x ∧ x ≤ 9223372036854775807 := by
  obtain ⟨z, rfl, _, hw⟩ := DataW.trod_int ht h
  simp only [Lit.wf, Bool.and_eq_true, decide_eq_true_eq] at hw
  exact ⟨z, rfl, hw.1, hw.2⟩
theorem open_str {H : Type} {enc : TypeId × Value → H} {P : Program} {W : World} {base : Nat} {spare : Nat → Bool} {held : Bool} {t : TypeId} {n : Nat} {cs : List Value} {y : DataW H × List MemPlace} (ht : P.underlying t = some .string) (h : DataW.trod enc P W base spare held n t cs = some y) : ∃ x : ByteArray, cs = [.string x] ∧ x.size ≤ 9223372036854775807 := by
  obtain ⟨s, rfl, _, hw⟩ := DataW.trod_string ht h
  exact ⟨s, rfl, by simpa [maxLen] using hw⟩
theorem cut_nil {cs : List Value} {n m : Nat} (h : cs.length = n) (hm : n ≤ m) : cs.drop m = [] := List.drop_eq_nil_of_le (by omega)
section
variable {H : Type} {enc : TypeId × Value → H} {P : Program} {w : World} {base : Nat} {spare : Nat → Bool} {held : Bool}
theorem trodAll_uncons {t : TypeId} {ts : List TypeId} {l : List Value} {ds : List (DataW H)} {ps : List MemPlace} (h : DataW.TrodAll enc P w base spare held (t :: ts) l ds ps) :
    ∃ v l' d ds' p q, l = v :: l' ∧ ds = d :: ds' ∧ ps = p ++ q ∧ DataW.Trod enc P w base spare held t v d p ∧ DataW.TrodAll enc P w base spare held ts l' ds' q := by
  cases l with
  | nil => cases ds <;> exact h.elim
  | cons v l =>
    cases ds with
    | nil => exact h.elim
    | cons d ds =>
      obtain ⟨p, q, h1, h2, rfl⟩ := h
      exact ⟨v, l, d, ds, p, q, rfl, rfl, rfl, h1, h2⟩
theorem trodAll_unnil {l : List Value} {ds : List (DataW H)} {ps : List MemPlace} (h : DataW.TrodAll enc P w base spare held [] l ds ps) : l = [] ∧ ds = [] ∧ ps = [] := by
  cases l with
  | nil =>
    cases ds with
    | nil => exact ⟨rfl, rfl, h⟩
    | cons d ds => exact h.elim
  | cons v l => cases ds <;> exact h.elim
theorem trodAll_n1 {t0 : TypeId} {args : Array Value} {ds : List (DataW H)} {ps : List MemPlace} (h : DataW.TrodAll enc P w base spare held [t0] args.toList ds ps) :
    ∃ v0 d0 p0, args = #[v0] ∧ ds = [d0] ∧ ps = p0 ∧ DataW.Trod enc P w base spare held t0 v0 d0 p0 := by
  obtain ⟨l⟩ := args
  replace h : DataW.TrodAll enc P w base spare held [t0] l ds ps := h
  obtain ⟨v0, l0, d0, e0, p0, q0, rfl, rfl, rfl, g0, h0⟩ := trodAll_uncons h
  obtain ⟨rfl, rfl, rfl⟩ := trodAll_unnil h0
  exact ⟨_, _, _, rfl, rfl, by simp, g0⟩
theorem trodAll_mkn1 {t0 : TypeId} {v0 : Value} {d0 : DataW H} {p0 : List MemPlace} (h0 : DataW.Trod enc P w base spare held t0 v0 d0 p0) :
    DataW.TrodAll enc P w base spare held [t0] [v0] [d0] (p0) :=
  trodAll_mk1 h0
theorem trodAll_n2 {t0 t1 : TypeId} {args : Array Value} {ds : List (DataW H)} {ps : List MemPlace} (h : DataW.TrodAll enc P w base spare held [t0, t1] args.toList ds ps) :
    ∃ v0 v1 d0 d1 p0 p1, args = #[v0, v1] ∧ ds = [d0, d1] ∧ ps = p0 ++ p1 ∧ DataW.Trod enc P w base spare held t0 v0 d0 p0 ∧ DataW.Trod enc P w base spare held t1 v1 d1 p1 := by
  obtain ⟨l⟩ := args
  replace h : DataW.TrodAll enc P w base spare held [t0, t1] l ds ps := h
  obtain ⟨v0, l0, d0, e0, p0, q0, rfl, rfl, rfl, g0, h0⟩ := trodAll_uncons h
  obtain ⟨v1, l1, d1, e1, p1, q1, rfl, rfl, rfl, g1, h1⟩ := trodAll_uncons h0
  obtain ⟨rfl, rfl, rfl⟩ := trodAll_unnil h1
  exact ⟨_, _, _, _, _, _, rfl, rfl, by simp, g0, g1⟩
theorem trodAll_mkn2 {t0 t1 : TypeId} {v0 v1 : Value} {d0 d1 : DataW H} {p0 p1 : List MemPlace} (h0 : DataW.Trod enc P w base spare held t0 v0 d0 p0) (h1 : DataW.Trod enc P w base spare held t1 v1 d1 p1) :
    DataW.TrodAll enc P w base spare held [t0, t1] [v0, v1] [d0, d1] (p0 ++ p1) :=
  ⟨p0, _, h0, trodAll_mk1 h1, rfl⟩
theorem trodAll_n3 {t0 t1 t2 : TypeId} {args : Array Value} {ds : List (DataW H)} {ps : List MemPlace} (h : DataW.TrodAll enc P w base spare held [t0, t1, t2] args.toList ds ps) :
    ∃ v0 v1 v2 d0 d1 d2 p0 p1 p2, args = #[v0, v1, v2] ∧ ds = [d0, d1, d2] ∧ ps = p0 ++ (p1 ++ p2) ∧ DataW.Trod enc P w base spare held t0 v0 d0 p0 ∧ DataW.Trod enc P w base spare held t1 v1 d1 p1 ∧ DataW.Trod enc P w base spare held t2 v2 d2 p2 := by
  obtain ⟨l⟩ := args
  replace h : DataW.TrodAll enc P w base spare held [t0, t1, t2] l ds ps := h
  obtain ⟨v0, l0, d0, e0, p0, q0, rfl, rfl, rfl, g0, h0⟩ := trodAll_uncons h
  obtain ⟨v1, l1, d1, e1, p1, q1, rfl, rfl, rfl, g1, h1⟩ := trodAll_uncons h0
  obtain ⟨v2, l2, d2, e2, p2, q2, rfl, rfl, rfl, g2, h2⟩ := trodAll_uncons h1
  obtain ⟨rfl, rfl, rfl⟩ := trodAll_unnil h2
  exact ⟨_, _, _, _, _, _, _, _, _, rfl, rfl, by simp, g0, g1, g2⟩
theorem trodAll_mkn3 {t0 t1 t2 : TypeId} {v0 v1 v2 : Value} {d0 d1 d2 : DataW H} {p0 p1 p2 : List MemPlace} (h0 : DataW.Trod enc P w base spare held t0 v0 d0 p0) (h1 : DataW.Trod enc P w base spare held t1 v1 d1 p1) (h2 : DataW.Trod enc P w base spare held t2 v2 d2 p2) :
    DataW.TrodAll enc P w base spare held [t0, t1, t2] [v0, v1, v2] [d0, d1, d2] (p0 ++ (p1 ++ p2)) :=
  ⟨p0, _, h0, ⟨p1, _, h1, trodAll_mk1 h2, rfl⟩, rfl⟩
theorem trodAll_n4 {t0 t1 t2 t3 : TypeId} {args : Array Value} {ds : List (DataW H)} {ps : List MemPlace} (h : DataW.TrodAll enc P w base spare held [t0, t1, t2, t3] args.toList ds ps) :
    ∃ v0 v1 v2 v3 d0 d1 d2 d3 p0 p1 p2 p3, args = #[v0, v1, v2, v3] ∧ ds = [d0, d1, d2, d3] ∧ ps = p0 ++ (p1 ++ (p2 ++ p3)) ∧ DataW.Trod enc P w base spare held t0 v0 d0 p0 ∧ DataW.Trod enc P w base spare held t1 v1 d1 p1 ∧ DataW.Trod enc P w base spare held t2 v2 d2 p2 ∧ DataW.Trod enc P w base spare held t3 v3 d3 p3 := by
  obtain ⟨l⟩ := args
  replace h : DataW.TrodAll enc P w base spare held [t0, t1, t2, t3] l ds ps := h
  obtain ⟨v0, l0, d0, e0, p0, q0, rfl, rfl, rfl, g0, h0⟩ := trodAll_uncons h
  obtain ⟨v1, l1, d1, e1, p1, q1, rfl, rfl, rfl, g1, h1⟩ := trodAll_uncons h0
  obtain ⟨v2, l2, d2, e2, p2, q2, rfl, rfl, rfl, g2, h2⟩ := trodAll_uncons h1
  obtain ⟨v3, l3, d3, e3, p3, q3, rfl, rfl, rfl, g3, h3⟩ := trodAll_uncons h2
  obtain ⟨rfl, rfl, rfl⟩ := trodAll_unnil h3
  exact ⟨_, _, _, _, _, _, _, _, _, _, _, _, rfl, rfl, by simp, g0, g1, g2, g3⟩
theorem trodAll_mkn4 {t0 t1 t2 t3 : TypeId} {v0 v1 v2 v3 : Value} {d0 d1 d2 d3 : DataW H} {p0 p1 p2 p3 : List MemPlace} (h0 : DataW.Trod enc P w base spare held t0 v0 d0 p0) (h1 : DataW.Trod enc P w base spare held t1 v1 d1 p1) (h2 : DataW.Trod enc P w base spare held t2 v2 d2 p2) (h3 : DataW.Trod enc P w base spare held t3 v3 d3 p3) :
    DataW.TrodAll enc P w base spare held [t0, t1, t2, t3] [v0, v1, v2, v3] [d0, d1, d2, d3] (p0 ++ (p1 ++ (p2 ++ p3))) :=
  ⟨p0, _, h0, ⟨p1, _, h1, ⟨p2, _, h2, trodAll_mk1 h3, rfl⟩, rfl⟩, rfl⟩
theorem trodAll_n5 {t0 t1 t2 t3 t4 : TypeId} {args : Array Value} {ds : List (DataW H)} {ps : List MemPlace} (h : DataW.TrodAll enc P w base spare held [t0, t1, t2, t3, t4] args.toList ds ps) :
    ∃ v0 v1 v2 v3 v4 d0 d1 d2 d3 d4 p0 p1 p2 p3 p4, args = #[v0, v1, v2, v3, v4] ∧ ds = [d0, d1, d2, d3, d4] ∧ ps = p0 ++ (p1 ++ (p2 ++ (p3 ++ p4))) ∧ DataW.Trod enc P w base spare held t0 v0 d0 p0 ∧ DataW.Trod enc P w base spare held t1 v1 d1 p1 ∧ DataW.Trod enc P w base spare held t2 v2 d2 p2 ∧ DataW.Trod enc P w base spare held t3 v3 d3 p3 ∧ DataW.Trod enc P w base spare held t4 v4 d4 p4 := by
  obtain ⟨l⟩ := args
  replace h : DataW.TrodAll enc P w base spare held [t0, t1, t2, t3, t4] l ds ps := h
  obtain ⟨v0, l0, d0, e0, p0, q0, rfl, rfl, rfl, g0, h0⟩ := trodAll_uncons h
  obtain ⟨v1, l1, d1, e1, p1, q1, rfl, rfl, rfl, g1, h1⟩ := trodAll_uncons h0
  obtain ⟨v2, l2, d2, e2, p2, q2, rfl, rfl, rfl, g2, h2⟩ := trodAll_uncons h1
  obtain ⟨v3, l3, d3, e3, p3, q3, rfl, rfl, rfl, g3, h3⟩ := trodAll_uncons h2
  obtain ⟨v4, l4, d4, e4, p4, q4, rfl, rfl, rfl, g4, h4⟩ := trodAll_uncons h3
  obtain ⟨rfl, rfl, rfl⟩ := trodAll_unnil h4
  exact ⟨_, _, _, _, _, _, _, _, _, _, _, _, _, _, _, rfl, rfl, by simp, g0, g1, g2, g3, g4⟩
theorem trodAll_mkn5 {t0 t1 t2 t3 t4 : TypeId} {v0 v1 v2 v3 v4 : Value} {d0 d1 d2 d3 d4 : DataW H} {p0 p1 p2 p3 p4 : List MemPlace} (h0 : DataW.Trod enc P w base spare held t0 v0 d0 p0) (h1 : DataW.Trod enc P w base spare held t1 v1 d1 p1) (h2 : DataW.Trod enc P w base spare held t2 v2 d2 p2) (h3 : DataW.Trod enc P w base spare held t3 v3 d3 p3) (h4 : DataW.Trod enc P w base spare held t4 v4 d4 p4) :
    DataW.TrodAll enc P w base spare held [t0, t1, t2, t3, t4] [v0, v1, v2, v3, v4] [d0, d1, d2, d3, d4] (p0 ++ (p1 ++ (p2 ++ (p3 ++ p4)))) :=
  ⟨p0, _, h0, ⟨p1, _, h1, ⟨p2, _, h2, ⟨p3, _, h3, trodAll_mk1 h4, rfl⟩, rfl⟩, rfl⟩, rfl⟩
theorem trodAll_n6 {t0 t1 t2 t3 t4 t5 : TypeId} {args : Array Value} {ds : List (DataW H)} {ps : List MemPlace} (h : DataW.TrodAll enc P w base spare held [t0, t1, t2, t3, t4, t5] args.toList ds ps) :
    ∃ v0 v1 v2 v3 v4 v5 d0 d1 d2 d3 d4 d5 p0 p1 p2 p3 p4 p5, args = #[v0, v1, v2, v3, v4, v5] ∧ ds = [d0, d1, d2, d3, d4, d5] ∧ ps = p0 ++ (p1 ++ (p2 ++ (p3 ++ (p4 ++ p5)))) ∧ DataW.Trod enc P w base spare held t0 v0 d0 p0 ∧ DataW.Trod enc P w base spare held t1 v1 d1 p1 ∧ DataW.Trod enc P w base spare held t2 v2 d2 p2 ∧ DataW.Trod enc P w base spare held t3 v3 d3 p3 ∧ DataW.Trod enc P w base spare held t4 v4 d4 p4 ∧ DataW.Trod enc P w base spare held t5 v5 d5 p5 := by
  obtain ⟨l⟩ := args
  replace h : DataW.TrodAll enc P w base spare held [t0, t1, t2, t3, t4, t5] l ds ps := h
  obtain ⟨v0, l0, d0, e0, p0, q0, rfl, rfl, rfl, g0, h0⟩ := trodAll_uncons h
  obtain ⟨v1, l1, d1, e1, p1, q1, rfl, rfl, rfl, g1, h1⟩ := trodAll_uncons h0
  obtain ⟨v2, l2, d2, e2, p2, q2, rfl, rfl, rfl, g2, h2⟩ := trodAll_uncons h1
  obtain ⟨v3, l3, d3, e3, p3, q3, rfl, rfl, rfl, g3, h3⟩ := trodAll_uncons h2
  obtain ⟨v4, l4, d4, e4, p4, q4, rfl, rfl, rfl, g4, h4⟩ := trodAll_uncons h3
  obtain ⟨v5, l5, d5, e5, p5, q5, rfl, rfl, rfl, g5, h5⟩ := trodAll_uncons h4
  obtain ⟨rfl, rfl, rfl⟩ := trodAll_unnil h5
  exact ⟨_, _, _, _, _, _, _, _, _, _, _, _, _, _, _, _, _, _, rfl, rfl, by simp, g0, g1, g2, g3, g4, g5⟩
theorem trodAll_mkn6 {t0 t1 t2 t3 t4 t5 : TypeId} {v0 v1 v2 v3 v4 v5 : Value} {d0 d1 d2 d3 d4 d5 : DataW H} {p0 p1 p2 p3 p4 p5 : List MemPlace} (h0 : DataW.Trod enc P w base spare held t0 v0 d0 p0) (h1 : DataW.Trod enc P w base spare held t1 v1 d1 p1) (h2 : DataW.Trod enc P w base spare held t2 v2 d2 p2) (h3 : DataW.Trod enc P w base spare held t3 v3 d3 p3) (h4 : DataW.Trod enc P w base spare held t4 v4 d4 p4) (h5 : DataW.Trod enc P w base spare held t5 v5 d5 p5) :
    DataW.TrodAll enc P w base spare held [t0, t1, t2, t3, t4, t5] [v0, v1, v2, v3, v4, v5] [d0, d1, d2, d3, d4, d5] (p0 ++ (p1 ++ (p2 ++ (p3 ++ (p4 ++ p5))))) :=
  ⟨p0, _, h0, ⟨p1, _, h1, ⟨p2, _, h2, ⟨p3, _, h3, ⟨p4, _, h4, trodAll_mk1 h5, rfl⟩, rfl⟩, rfl⟩, rfl⟩, rfl⟩
theorem trodAll_n7 {t0 t1 t2 t3 t4 t5 t6 : TypeId} {args : Array Value} {ds : List (DataW H)} {ps : List MemPlace} (h : DataW.TrodAll enc P w base spare held [t0, t1, t2, t3, t4, t5, t6] args.toList ds ps) :
    ∃ v0 v1 v2 v3 v4 v5 v6 d0 d1 d2 d3 d4 d5 d6 p0 p1 p2 p3 p4 p5 p6, args = #[v0, v1, v2, v3, v4, v5, v6] ∧ ds = [d0, d1, d2, d3, d4, d5, d6] ∧ ps = p0 ++ (p1 ++ (p2 ++ (p3 ++ (p4 ++ (p5 ++ p6))))) ∧ DataW.Trod enc P w base spare held t0 v0 d0 p0 ∧ DataW.Trod enc P w base spare held t1 v1 d1 p1 ∧ DataW.Trod enc P w base spare held t2 v2 d2 p2 ∧ DataW.Trod enc P w base spare held t3 v3 d3 p3 ∧ DataW.Trod enc P w base spare held t4 v4 d4 p4 ∧ DataW.Trod enc P w base spare held t5 v5 d5 p5 ∧ DataW.Trod enc P w base spare held t6 v6 d6 p6 := by
  obtain ⟨l⟩ := args
  replace h : DataW.TrodAll enc P w base spare held [t0, t1, t2, t3, t4, t5, t6] l ds ps := h
  obtain ⟨v0, l0, d0, e0, p0, q0, rfl, rfl, rfl, g0, h0⟩ := trodAll_uncons h
  obtain ⟨v1, l1, d1, e1, p1, q1, rfl, rfl, rfl, g1, h1⟩ := trodAll_uncons h0
  obtain ⟨v2, l2, d2, e2, p2, q2, rfl, rfl, rfl, g2, h2⟩ := trodAll_uncons h1
  obtain ⟨v3, l3, d3, e3, p3, q3, rfl, rfl, rfl, g3, h3⟩ := trodAll_uncons h2
  obtain ⟨v4, l4, d4, e4, p4, q4, rfl, rfl, rfl, g4, h4⟩ := trodAll_uncons h3
  obtain ⟨v5, l5, d5, e5, p5, q5, rfl, rfl, rfl, g5, h5⟩ := trodAll_uncons h4
  obtain ⟨v6, l6, d6, e6, p6, q6, rfl, rfl, rfl, g6, h6⟩ := trodAll_uncons h5
  obtain ⟨rfl, rfl, rfl⟩ := trodAll_unnil h6
  exact ⟨_, _, _, _, _, _, _, _, _, _, _, _, _, _, _, _, _, _, _, _, _, rfl, rfl, by simp, g0, g1, g2, g3, g4, g5, g6⟩
theorem trodAll_mkn7 {t0 t1 t2 t3 t4 t5 t6 : TypeId} {v0 v1 v2 v3 v4 v5 v6 : Value} {d0 d1 d2 d3 d4 d5 d6 : DataW H} {p0 p1 p2 p3 p4 p5 p6 : List MemPlace} (h0 : DataW.Trod enc P w base spare held t0 v0 d0 p0) (h1 : DataW.Trod enc P w base spare held t1 v1 d1 p1) (h2 : DataW.Trod enc P w base spare held t2 v2 d2 p2) (h3 : DataW.Trod enc P w base spare held t3 v3 d3 p3) (h4 : DataW.Trod enc P w base spare held t4 v4 d4 p4) (h5 : DataW.Trod enc P w base spare held t5 v5 d5 p5) (h6 : DataW.Trod enc P w base spare held t6 v6 d6 p6) :
    DataW.TrodAll enc P w base spare held [t0, t1, t2, t3, t4, t5, t6] [v0, v1, v2, v3, v4, v5, v6] [d0, d1, d2, d3, d4, d5, d6] (p0 ++ (p1 ++ (p2 ++ (p3 ++ (p4 ++ (p5 ++ p6)))))) :=
  ⟨p0, _, h0, ⟨p1, _, h1, ⟨p2, _, h2, ⟨p3, _, h3, ⟨p4, _, h4, ⟨p5, _, h5, trodAll_mk1 h6, rfl⟩, rfl⟩, rfl⟩, rfl⟩, rfl⟩, rfl⟩
theorem trodAll_n8 {t0 t1 t2 t3 t4 t5 t6 t7 : TypeId} {args : Array Value} {ds : List (DataW H)} {ps : List MemPlace} (h : DataW.TrodAll enc P w base spare held [t0, t1, t2, t3, t4, t5, t6, t7] args.toList ds ps) :
    ∃ v0 v1 v2 v3 v4 v5 v6 v7 d0 d1 d2 d3 d4 d5 d6 d7 p0 p1 p2 p3 p4 p5 p6 p7, args = #[v0, v1, v2, v3, v4, v5, v6, v7] ∧ ds = [d0, d1, d2, d3, d4, d5, d6, d7] ∧ ps = p0 ++ (p1 ++ (p2 ++ (p3 ++ (p4 ++ (p5 ++ (p6 ++ p7)))))) ∧ DataW.Trod enc P w base spare held t0 v0 d0 p0 ∧ DataW.Trod enc P w base spare held t1 v1 d1 p1 ∧ DataW.Trod enc P w base spare held t2 v2 d2 p2 ∧ DataW.Trod enc P w base spare held t3 v3 d3 p3 ∧ DataW.Trod enc P w base spare held t4 v4 d4 p4 ∧ DataW.Trod enc P w base spare held t5 v5 d5 p5 ∧ DataW.Trod enc P w base spare held t6 v6 d6 p6 ∧ DataW.Trod enc P w base spare held t7 v7 d7 p7 := by
  obtain ⟨l⟩ := args
  replace h : DataW.TrodAll enc P w base spare held [t0, t1, t2, t3, t4, t5, t6, t7] l ds ps := h
  obtain ⟨v0, l0, d0, e0, p0, q0, rfl, rfl, rfl, g0, h0⟩ := trodAll_uncons h
  obtain ⟨v1, l1, d1, e1, p1, q1, rfl, rfl, rfl, g1, h1⟩ := trodAll_uncons h0
  obtain ⟨v2, l2, d2, e2, p2, q2, rfl, rfl, rfl, g2, h2⟩ := trodAll_uncons h1
  obtain ⟨v3, l3, d3, e3, p3, q3, rfl, rfl, rfl, g3, h3⟩ := trodAll_uncons h2
  obtain ⟨v4, l4, d4, e4, p4, q4, rfl, rfl, rfl, g4, h4⟩ := trodAll_uncons h3
  obtain ⟨v5, l5, d5, e5, p5, q5, rfl, rfl, rfl, g5, h5⟩ := trodAll_uncons h4
  obtain ⟨v6, l6, d6, e6, p6, q6, rfl, rfl, rfl, g6, h6⟩ := trodAll_uncons h5
  obtain ⟨v7, l7, d7, e7, p7, q7, rfl, rfl, rfl, g7, h7⟩ := trodAll_uncons h6
  obtain ⟨rfl, rfl, rfl⟩ := trodAll_unnil h7
  exact ⟨_, _, _, _, _, _, _, _, _, _, _, _, _, _, _, _, _, _, _, _, _, _, _, _, rfl, rfl, by simp, g0, g1, g2, g3, g4, g5, g6, g7⟩
theorem trodAll_mkn8 {t0 t1 t2 t3 t4 t5 t6 t7 : TypeId} {v0 v1 v2 v3 v4 v5 v6 v7 : Value} {d0 d1 d2 d3 d4 d5 d6 d7 : DataW H} {p0 p1 p2 p3 p4 p5 p6 p7 : List MemPlace} (h0 : DataW.Trod enc P w base spare held t0 v0 d0 p0) (h1 : DataW.Trod enc P w base spare held t1 v1 d1 p1) (h2 : DataW.Trod enc P w base spare held t2 v2 d2 p2) (h3 : DataW.Trod enc P w base spare held t3 v3 d3 p3) (h4 : DataW.Trod enc P w base spare held t4 v4 d4 p4) (h5 : DataW.Trod enc P w base spare held t5 v5 d5 p5) (h6 : DataW.Trod enc P w base spare held t6 v6 d6 p6) (h7 : DataW.Trod enc P w base spare held t7 v7 d7 p7) :
    DataW.TrodAll enc P w base spare held [t0, t1, t2, t3, t4, t5, t6, t7] [v0, v1, v2, v3, v4, v5, v6, v7] [d0, d1, d2, d3, d4, d5, d6, d7] (p0 ++ (p1 ++ (p2 ++ (p3 ++ (p4 ++ (p5 ++ (p6 ++ p7))))))) :=
  ⟨p0, _, h0, ⟨p1, _, h1, ⟨p2, _, h2, ⟨p3, _, h3, ⟨p4, _, h4, ⟨p5, _, h5, ⟨p6, _, h6, trodAll_mk1 h7, rfl⟩, rfl⟩, rfl⟩, rfl⟩, rfl⟩, rfl⟩, rfl⟩
end
end Go.Sl
/- More rules: maps of the call's own; errors compared by '=='. -/
set_option linter.unusedVariables false
set_option linter.unusedSimpArgs false
namespace Go.Sl
open Go Go.RowKit Go.MapKept
section
variable {n : Nat} {C : Ctx} {e : Env} {D : List Deferred} {L I : List Atom} {P : Program} {ro : Option Nat} {Q : Exit → Act → World → Prop} {K X : Act → World → Prop}
/-! ### Maps -/
theorem o_mkmap {dt : Tmp} {t : TypeId} {ty : TypeId} {pos : String} {aft : Array Edge} {g : Option (Nat × Bool)} (hd : Nat.blt dt n = true)
    (h : ∀ b, Ent n C ((dt, .map (some b)) :: e) D (ob b (.map #[] 0) :: L) I K) : Ent n C e D L I (ow ro P ⟨some dt, .makeMap t none, ty, pos, aft, g⟩ Q K) :=
  o_new (f := fun b => .map (some b)) rfl hd rfl rfl (fun w => by simp [execOp, Instr.makeMap, newObj, Sem.run]) h
/-- A key is put that was not there. -/
theorem o_insert {b clk : Nat} {es : Array MapEntry} {m k x : Operand} {kv xv : Value} {t kt et : TypeId} {kd : TypeDesc} {ty : TypeId} {pos : String} {aft : Array Edge} {g : Option (Nat × Bool)} (i : Nat) (hi : L[i]? = some (ob b (.map es clk)))
    (hm : ev e m = some (.map (some b))) (hk : ev e k = some kv) (hx : ev e x = some xv) (ht : P.underlying t = some (.map kt et)) (hkt : P.underlying kt = some kd) (hc : IsKey kd kv) (hf : Instr.findNow kd kv es.toList 0 = some none)
    (h : Ent n C e D (L.set i (ob b (.map (es.push ⟨kv, xv, clk⟩) (clk + 1)))) I K) : Ent n C e D L I (ow ro P ⟨none, .insert t m k x, ty, pos, aft, g⟩ Q K) := fun a w kn s d ho => by
  obtain ⟨ho', hb⟩ := write_own (y := .map (es.push ⟨kv, xv, clk⟩) (clk + 1)) ho i hi
  refine ow_skip (by simp) (w' := { w with heap := w.heap.setIfInBounds b (.map (es.push ⟨kv, xv, clk⟩) (clk + 1)) }) ?_ (h a _ kn s d ho')
  simp only [execOp, kn.eval hm, kn.eval hk, kn.eval hx, Instr.mapUpdate, Sem.run_bind, run_underlying ht, Result.andThen_ok, Go.MapKept.run_getObj_map hb, Go.MapKept.run_checkKey hkt hc, Go.MapKept.run_findKey hkt hf, Go.MapKept.run_setObj_map _ hb, Sem.run_pure]
theorem o_lookup {b clk : Nat} {es : Array MapEntry} {dt : Tmp} {m k : Operand} {kv v z : Value} {ok : Bool} {r : Option (Nat × Value)} {t kt et : TypeId} {kd : TypeDesc} {ty : TypeId} {pos : String} {aft : Array Edge} {g : Option (Nat × Bool)} (i : Nat) (hi : L[i]? = some (ob b (.map es clk)))
    (hm : ev e m = some (.map (some b))) (hk : ev e k = some kv) (ht : P.underlying t = some (.map kt et)) (hkt : P.underlying kt = some kd) (hc : IsKey kd kv) (hf : Instr.findNow kd kv es.toList 0 = some r)
    (hz : ∀ w, (zeroValue et).run P w = .ok z w) (hv : (r.map Prod.snd).getD z = v) (hb : r.isSome = ok) (hd : Nat.blt dt n = true)
    (h : Ent n C ((dt, .tuple #[v, .bool ok]) :: e) D L I K) : Ent n C e D L I (ow ro P ⟨some dt, .lookup t m k true, ty, pos, aft, g⟩ Q K) :=
  ow_pure rfl hd (by simp) (fun a w kn ho => by
    obtain ⟨h1, hl, hA⟩ := ho.atom i hi
    have hbk : w.heap[b]? = some (.map es clk) := hl _ _ hA
    simp only [execOp, kn.eval hm, kn.eval hk, Instr.lookup, Sem.run_bind, run_underlying ht, Result.andThen_ok, Go.MapKept.run_getObj_map hbk, Sem.run_pure, Go.MapKept.run_checkKey hkt hc, Go.MapKept.run_findKey hkt hf]
    cases r with
    | none => simp at hv hb; subst hv; subst hb; simp [hz]
    | some q => obtain ⟨j, u⟩ := q; simp at hv hb; subst hv; subst hb; simp) h

/-! ### Errors by '==' -/
theorem y_ifsame {d : Option Tmp} {x y : Operand} {ti tp te : TypeId} {ms : Array (String × TypeId)} {a : Addr} {t2 : TypeId} {ty : TypeId} {pos : String} {aft : Array Edge} {g : Option (Nat × Bool)} (hx : ev e x = some (.iface tp (.pointer (some a)))) (hy : ev e y = some (.iface tp (.pointer (some a))))
    (hi : P.underlying ti = some (.interface ms)) (hp : P.underlying tp = some (.pointer te)) (hc : (P.info? tp).map (·.comparable) = some true) (hs : (P.info? te).isSome = true) : Ys P e ⟨d, .binOp .eql ti x y t2, ty, pos, aft, g⟩ (.bool true) :=
  y_bin hx hy fun w => by
    obtain ⟨i, h1, h2⟩ := Option.map_eq_some_iff.1 hc
    obtain ⟨j, h3⟩ := Option.isSome_iff_exists.1 hs
    have := run_eql_iface_ptr_same (P := P) w a hi hp h1 h2 h3
    simpa [eqGuard] using this
theorem o_ifother {dt : Tmp} {x y : Operand} {ti tp te : TypeId} {ms : Array (String × TypeId)} {a b : Addr} {A B : Atom} {t2 : TypeId} {ty : TypeId} {pos : String} {aft : Array Edge} {g : Option (Nat × Bool)} (i j : Nat) (hx : ev e x = some (.iface tp (.pointer (some a)))) (hy : ev e y = some (.iface tp (.pointer (some b)))) (hne : a ≠ b)
    (hA : I[i]? = some A) (hB : I[j]? = some B) (fA : ∀ h, A h → ∃ c t, h a.block = some (.cells c t (0, 0))) (fB : ∀ h, B h → ∃ c t, h b.block = some (.cells c t (0, 0)))
    (hi : P.underlying ti = some (.interface ms)) (hp : P.underlying tp = some (.pointer te)) (hc : (P.info? tp).map (·.comparable) = some true) (hs : (P.info? te).map (fun i => i.size != 0) = some true) (hd : Nat.blt dt n = true)
    (h : Ent n C ((dt, .bool false) :: e) D L I K) : Ent n C e D L I (ow ro P ⟨some dt, .binOp .eql ti x y t2, ty, pos, aft, g⟩ Q K) :=
  ow_pure rfl hd (by simp) (fun w0 w kn ho => by
    obtain ⟨i, h1, h2⟩ := Option.map_eq_some_iff.1 hc
    obtain ⟨j, h3, h4⟩ := Option.map_eq_some_iff.1 hs
    obtain ⟨k1, l1, f1⟩ := ho.fact (List.mem_of_getElem? hA)
    obtain ⟨k2, l2, f2⟩ := ho.fact (List.mem_of_getElem? hB)
    obtain ⟨ca, ta, ea⟩ := fA _ (f1 k1 (le.refl _))
    obtain ⟨cb, tb, eb⟩ := fB _ (f2 k2 (le.refl _))
    have := run_eql_iface_ptr_other (P := P) w hi hp h1 h2 h3 (by simpa using h4) hne (l1 _ _ ea) (l2 _ _ eb)
    simp only [execOp, kn.eval hx, kn.eval hy, Sem.run_bind]
    simp [eqGuard, this]) h
theorem y_lacks {dd : Option Tmp} {x : Operand} {t xT to : TypeId} {v : Value} {want : Array (String × TypeId)} {ty : TypeId} {pos : String} {aft : Array Edge} {g : Option (Nat × Bool)} (hx : ev e x = some (.iface t v)) (hu : P.underlying to = some (.interface want)) (h : (P.info? t).map (fun i => (Go.lacking want i.methods).isEmpty) = some false) (hz : (P.info? to).map (·.zero) = some (some .nilIface)) :
    Ys P e ⟨dd, .typeAssert x xT to true, ty, pos, aft, g⟩ (.tuple #[.nilIface, .bool false]) := fun a w kn => by
  have := Go.run_typeAssert_lacksB hu h hz v xT w
  simp [execOp, kn.eval hx, this]
theorem y_has {dd : Option Tmp} {x : Operand} {t xT to : TypeId} {v : Value} {want : Array (String × TypeId)} {ty : TypeId} {pos : String} {aft : Array Edge} {g : Option (Nat × Bool)} (hx : ev e x = some (.iface t v)) (hu : P.underlying to = some (.interface want)) (h : (P.info? t).map (fun i => (Go.lacking want i.methods).isEmpty) = some true) :
    Ys P e ⟨dd, .typeAssert x xT to true, ty, pos, aft, g⟩ (.tuple #[.iface t v, .bool true]) := fun a w kn => by
  have := Go.run_typeAssert_hasB hu h v xT w
  simp [execOp, kn.eval hx, this]
theorem y_slss {d : Option Tmp} {x y : Operand} {s u : ByteArray} {t t2 : TypeId} {ty : TypeId} {pos : String} {aft : Array Edge} {g : Option (Nat × Bool)} (hx : ev e x = some (.string s)) (hy : ev e y = some (.string u)) :
    Ys P e ⟨d, .binOp .lss t x y t2, ty, pos, aft, g⟩ (.bool (decide (Op.bytesLess s.toList u.toList = true))) := y_bin hx hy fun w => by
  simp [eqGuard, binOp, Op.stringOp]
/-! ### Sums and products of u64 -/
theorem u64_in {z : Int} (h0 : 0 ≤ z) (h1 : z < 18446744073709551616) : IntKind.u64.wrap z = z := by
  rw [IntKind.wrap_u64]; omega
theorem y_addu {d : Option Tmp} {x y : Operand} {a b : Nat} {t t2 : TypeId} {ty : TypeId} {pos : String} {aft : Array Edge} {g : Option (Nat × Bool)} (hx : ev e x = some (.int .u64 (a : Int))) (hy : ev e y = some (.int .u64 (b : Int))) (hb : a + b < 18446744073709551616) :
    Ys P e ⟨d, .binOp .add t x y t2, ty, pos, aft, g⟩ (.int .u64 ((a + b : Nat) : Int)) :=
  y_bin hx hy fun w => by simp [eqGuard, binOp, Op.intArith, u64_in (z := (a : Int) + (b : Int)) (by omega) (by omega)]
theorem y_mulu {d : Option Tmp} {x y : Operand} {a b : Nat} {t t2 : TypeId} {ty : TypeId} {pos : String} {aft : Array Edge} {g : Option (Nat × Bool)} (hx : ev e x = some (.int .u64 (a : Int))) (hy : ev e y = some (.int .u64 (b : Int))) (hb : a * b < 18446744073709551616) :
    Ys P e ⟨d, .binOp .mul t x y t2, ty, pos, aft, g⟩ (.int .u64 ((a * b : Nat) : Int)) :=
  y_bin hx hy fun w => by
    have h : (a : Int) * (b : Int) = ((a * b : Nat) : Int) := by simp
    simp only [eqGuard, binOp, Op.intArith, h, u64_in (z := ((a * b : Nat) : Int)) (by omega) (by omega)]
    simp
end
end Go.Sl
/- Rules for strings.Builder: its pointer as an unsafe one and back, bytes of a text appended, its text. -/
set_option linter.unusedVariables false
set_option linter.unusedSimpArgs false
namespace Go.Sl
open Go Go.RowKit
theorem run_appS {P : Program} (w : World) (t u ty el : TypeId) (i : TypeInfo) (ht : P.underlying t = some (.slice el)) (hu : P.underlying u = some .string) (hi : P.info? el = some i) (hz : i.zero = some (.int .u8 0)) (hsize : i.size = 1) (hby : i.bytes = 1)
    (A : Option Addr) (m c : Nat) (xs : List Value) (hown : w.ownsRow 0 el 1 (.slice A m c) m xs) (s : ByteArray) (h63 : m + s.size ≤ maxLen) (hbytes : m + s.size ≤ 140737488355328) (hA : A = none ∨ 0 < c) :
    ∃ v' w', (Builtin.append_ #[t, u] ty #[.slice A m c, .string s]).run P w = .ok v' w' ∧ w'.ownsRow 0 el 1 v' (m + s.size) (xs ++ Lib.strCells s) ∧ w.grownBy w' (Value.slice A m c).ownBlock ∧ (v'.ownBlock = (Value.slice A m c).ownBlock ∨ v'.ownBlock = some w.heap.size) ∧ (∃ A' c', v' = .slice A' (m + s.size) c' ∧ (A' = none ∨ 0 < c')) := by
  obtain ⟨v', w', hr, h2, h3, h4⟩ := Lib.run_append_own_string (P := P) w 0 t u ty el i ht hu hi hz hsize hby (.slice A m c) m xs hown s h63 hbytes (Nat.zero_le _)
  refine ⟨v', w', hr, h2, h3, ?_⟩
  have hxl : xs.length = m := by simpa using hown.1
  rcases hown.2 with ⟨e1, e2⟩ | ⟨g, cap, cur, e1, hbg, hg, hnc, hcm, hcs, htake⟩
  · simp only [Value.slice.injEq] at e1
    obtain ⟨rfl, rfl, rfl⟩ := e1
    by_cases hm : s.size = 0
    · have := h4.2 ⟨rfl, hm⟩
      exact ⟨.inl (by rw [this]), none, 0, by rw [this, hm], .inl rfl⟩
    · have hr2 := run_append_nil_string (P := P) w t u ty el i (.int .u8 0) ht hu hi hz s (by omega) (by simp only [maxLen] at h63; omega) (by rw [hby]; omega)
      rw [hr] at hr2
      simp only [Result.ok.injEq] at hr2
      have hge := grownCap_ge w (s.size) 0 el
      refine ⟨.inr (by rw [hr2.1]; rfl), _, _, by rw [hr2.1, Nat.zero_add], .inr (by omega)⟩
  · simp only [Value.slice.injEq] at e1
    obtain ⟨rfl, _, rfl⟩ := e1
    by_cases hroom : m + s.size ≤ c
    · have hcs' : cur.size = c := by simpa using hcs
      have hr2 := Lib.run_append_room_string (P := P) w t u ty el i ht hu hi hsize g m c cur hg s hroom (by omega)
      rw [hr] at hr2
      simp only [Result.ok.injEq] at hr2
      refine ⟨.inl (by rw [hr2.1]; rfl), _, _, hr2.1, .inr (hA.resolve_left (by simp))⟩
    · have holds : ∀ j u, xs[j]? = some u → w.cell? ((⟨g, 0, none⟩ : Addr).add j) = some u := hown.cells (g := g) rfl
      have hr2 := Lib.run_append_grow_string (P := P) w t u ty el i (.int .u8 0) ht hu hi hz ⟨g, 0, none⟩ m c xs (by rw [hsize]; simpa using hxl) holds s (by omega) (by simp only [maxLen] at h63; omega) (by rw [hby]; exact growslice_fits (by omega) (by omega))
      rw [hr] at hr2
      simp only [Result.ok.injEq] at hr2
      have hge := grownCap_ge w (m + s.size) c el
      refine ⟨.inr (by rw [hr2.1]; rfl), _, _, hr2.1, .inr (by omega)⟩
section
variable {n : Nat} {C : Ctx} {e : Env} {D : List Deferred} {L I : List Atom} {P : Program} {ro : Option Nat} {Q : Exit → Act → World → Prop} {K X : Act → World → Prop}
theorem strcells (s : ByteArray) : Lib.strCells s = u8Ty.cells s.data.toList := by
  rw [u8cells]; simp [Lib.strCells]
/-- append of a text's bytes to a list of the call's own. -/
theorem o_apps {s : ByteArray} {dt : Tmp} {x y : Operand} {t u el : TypeId} {ty : TypeId} {pos : String} {aft : Array Edge} {g : Option (Nat × Bool)} {A : Option Addr} {c m : Nat} {l : List UInt8} (i : Nat)
    (hx : ev e x = some (.slice A m c)) (hy : ev e y = some (.string s)) (hi : L[i]? = some (ars u8Ty el A c l)) (hm : m = l.length) (hA : A = none ∨ 0 < c) (ht : P.underlying t = some (.slice el)) (hu : P.underlying u = some .string) (hinf : (P.info? el).map (fun i => (i.zero, i.size, i.bytes)) = some (some (.int .u8 0), 1, 1)) (hb : l.length + s.size ≤ 140737488355328) (hd : Nat.blt dt n = true)
    (h : ∀ A1 c1, (A1 = none ∨ 0 < c1) → Ent n C ((dt, .slice A1 (l ++ s.data.toList).length c1) :: e) D (L.set i (ars u8Ty el A1 c1 (l ++ s.data.toList))) I K) : Ent n C e D L I (ow ro P ⟨some dt, .call ⟨.builtin .append, [x, y].toArray, [t, u].toArray⟩, ty, pos, aft, g⟩ Q K) :=
  ow_turn rfl hd (by simp) fun a w kn ho => by
    subst hm
    obtain ⟨h1, hl, hA'⟩ := ho.atom i hi
    obtain ⟨inf, hi', he⟩ := Option.map_eq_some_iff.1 hinf
    simp only [Prod.mk.injEq] at he
    obtain ⟨e1, e2, e3⟩ := he
    obtain ⟨v', w', r1, r2, r3, r4, A1, c1, r5, r6⟩ := run_appS (P := P) w t u ty el inf ht hu hi' e1 e2 e3 A l.length c _ (hA'.owns hl) s (by simp only [maxLen]; omega) hb hA
    have hsz : s.data.toList.length = s.size := Array.length_toList
    obtain ⟨A2, c2, hv, ho'⟩ := turn_own (l1 := l ++ s.data.toList) ho i hi r3 r2 r4 (by rw [u8Ty.cells_append, strcells]) (by rw [List.length_append, hsz])
    rw [hv] at r5
    simp only [Value.slice.injEq] at r5
    obtain ⟨rfl, _, rfl⟩ := r5
    refine ⟨_, w', _, I, ?_, ho', h A2 c2 r6⟩
    simp only [execOp, resolve, Sem.run_bind, Sem.run_pure, Result.andThen_ok, List.map_toArray, List.map_cons, List.map_nil, kn.eval hx, kn.eval hy, invoke, builtin, r1, hv]
/-- Some atoms ahead. -/
theorem e_perm {M Rr : List Atom} {X : Act → World → Prop} (ix : List Nat) (hp : pull L ix = some (M, Rr)) (h : Ent n C e D (M ++ Rr) I X) : Ent n C e D L I X := fun a w kn s dd ho => by
  obtain ⟨h0, hI, m⟩ := ho
  obtain ⟨k1, k2, d, l1, l2, s1, s2⟩ := Sep.pull hp m.sep
  exact h a w kn s dd ⟨h0, hI, (Sep.join d s1 s2).up (both_le l1 l2), m.facts, m.base, m.d1, m.d2, m.d3, m.l1, m.l2, m.l3, m.os, m.tape, m.output⟩
/-- A pointer against itself. -/
theorem y_ptrnn {d : Option Tmp} {x y : Operand} {t te t2 : TypeId} {a : Addr} {ty : TypeId} {pos : String} {aft : Array Edge} {g : Option (Nat × Bool)} (hx : ev e x = some (.pointer (some a))) (hy : ev e y = some (.pointer (some a))) (ht : P.underlying t = some (.pointer te)) (hj : (P.info? te).isSome = true) :
    Ys P e ⟨d, .binOp .neq t x y t2, ty, pos, aft, g⟩ (.bool false) := y_bin hx hy fun w => by
  obtain ⟨j, hj⟩ := Option.isSome_iff_exists.1 hj
  have := Lib.run_neq_ptr_same (P := P) w a ht hj
  simp [eqGuard, this]
theorem shape_of {w : World} {b T : Nat} {cs : List Value} {fr : Nat × Nat} (h : w.heap[b]? = some (.cells cs.toArray T fr)) : w.shape? b = some (T, cs.length) := by
  simp [World.shape?, h]
/-- A pointer as an unsafe one. -/
theorem o_tou {dt : Tmp} {x : Operand} {s d te T b o : Nat} {cs : List Value} {ty : TypeId} {pos : String} {aft : Array Edge} {g : Option (Nat × Bool)} (i : Nat) (hx : ev e x = some (.pointer (some ⟨b, o, none⟩))) (hi : L[i]? = some (pt b cs T)) (ho : Nat.blt o cs.length = true) (hs : P.underlying s = some (.pointer te)) (hd : P.underlying d = some .unsafePointer) (hj : (P.info? te).map (fun i => Nat.beq i.size 0) = some false) (hdt : Nat.blt dt n = true)
    (h : Ent n C ((dt, .pointer (some ⟨b, o, none⟩)) :: e) D L I K) : Ent n C e D L I (ow ro P ⟨some dt, .convert s d x, ty, pos, aft, g⟩ Q K) :=
  ow_pure rfl hdt (by simp) (fun a w k ho' => by
    obtain ⟨h1, hl, hA⟩ := ho'.atom i hi
    obtain ⟨j, hj1, hj2⟩ := Option.map_eq_some_iff.1 hj
    have hj3 : j.size ≠ 0 := fun e => by rw [e] at hj2; cases hj2
    have hr := Lib.run_to_unsafe (P := P) w ⟨b, o, none⟩ hs hd hj1 hj3 (shape_of (hl _ _ hA)) (by simpa using ho)
    simp only [execOp, k.eval hx, Sem.run_bind, hr, Result.andThen_ok, Sem.run_pure]) h
/-- .. and back. -/
theorem o_fromu {dt : Tmp} {x : Operand} {s d te T b o m : Nat} {cs : List Value} {ty : TypeId} {pos : String} {aft : Array Edge} {g : Option (Nat × Bool)} (i : Nat) (hx : ev e x = some (.pointer (some ⟨b, o, none⟩))) (hi : L[i]? = some (pt b cs T)) (hm : cs.length = m) (hs : P.underlying s = some .unsafePointer) (hd : P.underlying d = some (.pointer te)) (hj : (P.info? te).isSome = true) (hlies : liesAt P P.depth T (m / P.cellsOf T) o te 1 = true) (hdt : Nat.blt dt n = true)
    (h : Ent n C ((dt, .pointer (some ⟨b, o, none⟩)) :: e) D L I K) : Ent n C e D L I (ow ro P ⟨some dt, .convert s d x, ty, pos, aft, g⟩ Q K) :=
  ow_pure rfl hdt (by simp) (fun a w k ho' => by
    subst hm
    obtain ⟨h1, hl, hA⟩ := ho'.atom i hi
    obtain ⟨j, hj1⟩ := Option.isSome_iff_exists.1 hj
    have hr := Lib.run_from_unsafe (P := P) w ⟨b, o, none⟩ hs hd hj1 (shape_of (hl _ _ hA)) hlies
    simp only [execOp, k.eval hx, Sem.run_bind, hr, Result.andThen_ok, Sem.run_pure]) h
/-- The address of a list's first element. -/
theorem y_sdata {d : Option Tmp} {x : Operand} {A : Option Addr} {m c : Nat} {ats : Array TypeId} {ty : TypeId} {pos : String} {aft : Array Edge} {g : Option (Nat × Bool)} (hx : ev e x = some (.slice A m c)) (hA : A = none ∨ 0 < c) :
    Ys P e ⟨d, .call ⟨.builtin .unsafeSliceData, [x].toArray, ats⟩, ty, pos, aft, g⟩ (.pointer A) := fun a w kn => by
  have hr : (Builtin.unsafeSliceData_ ats ty #[.slice A m c]).run P w = .ok (.pointer A) w := by
    cases A with
    | none => exact Lib.run_unsafeSliceData_nil w ats ty m c
    | some b => exact Lib.run_unsafeSliceData_row w ats ty b m c (by rcases hA with q | q; · cases q
                                                                     · omega)
  simp only [execOp, resolve, Sem.run_bind, Sem.run_pure, Result.andThen_ok, List.map_toArray, List.map_cons, List.map_nil, kn.eval hx, invoke, builtin, hr]
theorem freeze_own {w : World} (o : Own C L I w) (i : Nat) {T : TypeId} {A : Option Addr} {c : Nat} {l : List UInt8} (hi : L[i]? = some (ars u8Ty T A c l)) {g k : Nat} (hA : A = some ⟨g, 0, none⟩) : Own C (L.eraseIdx i) I (w.freeze ⟨g, 0, none⟩ k) := by
  obtain ⟨h, hI, o⟩ := o
  obtain ⟨h1, h2, d, l1, l2, a, s⟩ := Sep.take i hi o.sep
  obtain ⟨z, hz⟩ : ∃ z, h1 g = some z := by
    rcases a with ⟨q, _⟩ | ⟨b, cur, q, hb, _⟩
    · rw [hA] at q; cases q
    · rw [hA] at q; simp only [Option.some.injEq, Addr.mk.injEq] at q; obtain ⟨rfl, _⟩ := q; exact ⟨_, hb⟩
  have hother : ∀ q : Hp, q g = none → le q (hpOf w) → le q (hpOf (w.freeze ⟨g, 0, none⟩ k)) := fun q hq hk j y hy => by
    have hj : g ≠ j := fun e => by rw [← e, hq] at hy; cases hy
    show (w.freeze ⟨g, 0, none⟩ k).heap[j]? = some y
    unfold World.freeze
    split
    · exact hk j y hy
    · show (w.heap.modify g _)[j]? = some y
      rw [Array.getElem?_modify, if_neg hj]
      exact hk j y hy
  have nn : ∀ q : Hp, apart h1 q → q g = none := fun q hq => by
    rcases hq g with e | e
    · rw [hz] at e; cases e
    · exact e
  have hf : (w.freeze ⟨g, 0, none⟩ k).os = w.os ∧ (w.freeze ⟨g, 0, none⟩ k).tape = w.tape ∧ (w.freeze ⟨g, 0, none⟩ k).output = w.output := by unfold World.freeze; split <;> exact ⟨rfl, rfl, rfl⟩
  exact ⟨h2, hI, s, o.facts, o.base, o.d1.mono_left l2, o.d2.mono_left l2, o.d3, hother _ (nn _ d) (l2.trans o.l1), hother _ (nn _ (o.d1.mono_left l1)) o.l2, hother _ (nn _ (o.d2.mono_left l1)) o.l3, hf.1.trans o.os, hf.2.1.trans o.tape, hf.2.2.trans o.output⟩
/-- The text of the call's own bytes: they are written no more. -/
theorem o_ustr {dt : Tmp} {x y : Operand} {q iq el : TypeId} {ty : TypeId} {pos : String} {aft : Array Edge} {g : Option (Nat × Bool)} {A : Option Addr} {c : Nat} {z : Int} {l : List UInt8} (i : Nat)
    (hx : ev e x = some (.pointer A)) (hy : ev e y = some (.int .i64 z)) (hz : z = (l.length : Int)) (hi : L[i]? = some (ars u8Ty el A c l)) (hq : P.underlying q = some (.pointer el)) (hc : P.cellsOf el = 1) (hd : Nat.blt dt n = true)
    (h : Ent n C ((dt, .string ⟨l.toArray⟩) :: e) D (L.eraseIdx i) I K) : Ent n C e D L I (ow ro P ⟨some dt, .call ⟨.builtin .unsafeString, [x, y].toArray, [q, iq].toArray⟩, ty, pos, aft, g⟩ Q K) :=
  ow_turn rfl hd (by simp) fun a w kn ho => by
    subst hz
    obtain ⟨h1, hl, hA⟩ := ho.atom i hi
    have hdrop : ∀ w : World, Own C L I w → Own C (L.eraseIdx i) I w := fun w ho => by
      obtain ⟨h0, hI, m⟩ := ho
      exact ⟨h0, hI, m.sep.drop i, m.facts, m.base, m.d1, m.d2, m.d3, m.l1, m.l2, m.l3, m.os, m.tape, m.output⟩
    have fin : ∀ w', (Builtin.unsafeString_ #[q, iq] ty #[.pointer A, .int .i64 (l.length : Int)]).run P w = .ok (.string ⟨l.toArray⟩) w' → (execOp a.eval ⟨some dt, .call ⟨.builtin .unsafeString, [x, y].toArray, [q, iq].toArray⟩, ty, pos, aft, g⟩).run P w = .ok (.value (.string ⟨l.toArray⟩)) w' := fun w' hr => by
      simp only [execOp, resolve, Sem.run_bind, Sem.run_pure, Result.andThen_ok, List.map_toArray, List.map_cons, List.map_nil, kn.eval hx, kn.eval hy, invoke, builtin, hr]
    by_cases h0 : l = []
    · subst h0
      exact ⟨_, w, _, I, fin w (Lib.run_unsafeString_none w q iq ty A), hdrop w ho, h⟩
    · rcases hA with ⟨_, _, hn⟩ | ⟨b, cur, hA, hb, hlc, hcm, hcs, htk⟩
      · exact absurd hn h0
      · subst hA
        have hg := hl _ _ hb
        have hcs' : cur.size = c := by have : u8Ty.sz = 1 := rfl; rw [hcs, this, Nat.mul_one]
        have hr := Lib.run_unsafeString_row (P := P) w q iq ty el hq hc b cur.size (by simp [World.shape?, show w.heap[b]? = some (Obj.cells cur el (0, 0)) from hg]) l h0 (by omega) (by simp only [maxLen] at hcm; omega) (fun j x hj => by
          rw [add_none, Nat.zero_add, cell_of hg]
          have h1 : (u8Ty.cells l)[j]? = some (.int .u8 (x.toNat : Int)) := by rw [u8cells]; simp [hj]
          rw [← htk, List.getElem?_take] at h1
          split at h1
          · simpa using h1
          · cases h1)
        exact ⟨_, _, _, I, fin _ hr, freeze_own ho i hi rfl, h⟩
end
end Go.Sl
/- Maps of whole numbers to whole numbers, of the call's own: what they hold, as a function. -/
set_option linter.unusedVariables false
set_option linter.unusedSimpArgs false
namespace Go.Sl
open Go Go.RowKit Go.MapKept
def lk2 : List (Int × Int) → Int → Option Int
  | [], _ => none
  | (j, v) :: r, k => if k = j then some v else lk2 r k
def pairsOf (es : List MapEntry) (ps : List (Int × Int)) : Prop := es.map (fun e => (e.key, e.val)) = ps.map fun p => (Value.int .i64 p.1, Value.int .i64 p.2)
/-- A map of the call's own; what is not there reads 0. -/
def mpi (b : Nat) (f : Int → Int) : Atom := fun h => ∃ es clk ps, h b = some (.map es clk) ∧ pairsOf es.toList ps ∧ ∀ k, (lk2 ps k).getD 0 = f k
theorem mpi_new {b : Nat} (h : Hp) (a : ob b (.map #[] 0) h) : mpi b (fun _ => 0) h := ⟨#[], 0, [], a, rfl, fun _ => rfl⟩
theorem mpi_re {b : Nat} {f g : Int → Int} (e : ∀ k, f k = g k) (h : Hp) (a : mpi b f h) : mpi b g h := by
  obtain ⟨es, clk, ps, h1, h2, h3⟩ := a
  exact ⟨es, clk, ps, h1, h2, fun k => (h3 k).trans (e k)⟩
theorem find_int : ∀ (es : List MapEntry) (ps : List (Int × Int)) (k : Int) (i : Nat), pairsOf es ps → (lk2 ps k = none ∧ Instr.findNow (.int .i64) (.int .i64 k) es i = some none) ∨ ∃ j v, lk2 ps k = some v ∧ Instr.findNow (.int .i64) (.int .i64 k) es i = some (some (i + j, .int .i64 v)) ∧ (∃ e, es[j]? = some e ∧ e.key = .int .i64 k) ∧ ps[j]? = some (k, v) ∧ ∀ q p, q < j → ps[q]? = some p → p.1 ≠ k
  | [], ps, k, i, h => by
    have : ps = [] := by cases ps with | nil => rfl | cons p r => simp [pairsOf] at h
    subst this; exact .inl ⟨rfl, rfl⟩
  | e :: es, [], k, i, h => by simp [pairsOf] at h
  | e :: es, (j, v) :: ps, k, i, h => by
    simp only [pairsOf, List.map_cons, List.cons.injEq, Prod.mk.injEq] at h
    obtain ⟨⟨h1, h2⟩, h3⟩ := h
    by_cases hk : k = j
    · right
      refine ⟨0, v, by simp [lk2, hk], ?_, ⟨e, rfl, by rw [h1, hk]⟩, by simp [hk], fun q p hq => absurd hq (by omega)⟩
      simp [Instr.findNow, Instr.sameNow, h1, h2, hk]
    · rcases find_int es ps k (i + 1) h3 with ⟨q1, q2⟩ | ⟨j', v', q1, q2, ⟨e', q3, q4⟩, q5, q6⟩
      · left
        refine ⟨by simp [lk2, hk, q1], ?_⟩
        simp [Instr.findNow, Instr.sameNow, h1, hk, q2, beq_eq_false_iff_ne.2 hk]
      · right
        refine ⟨j' + 1, v', by simp [lk2, hk, q1], ?_, ⟨e', by simpa using q3, q4⟩, by simpa using q5, fun q p hq hp => ?_⟩
        · simp [Instr.findNow, Instr.sameNow, h1, hk, q2, beq_eq_false_iff_ne.2 hk]; omega
        · cases q with
          | zero => simp at hp; subst hp; exact fun e => hk e.symm
          | succ q => exact q6 q p (by omega) (by simpa using hp)
theorem lk2_push : ∀ (ps : List (Int × Int)) (k v j : Int), lk2 ps k = none → lk2 (ps ++ [(k, v)]) j = if j = k then some v else lk2 ps j
  | [], k, v, j, _ => by simp [lk2]
  | (a, b) :: ps, k, v, j, h => by
    have hk : ¬ k = a := fun e => by simp [lk2, e] at h
    have h' : lk2 ps k = none := by simpa [lk2, hk] using h
    have ih := lk2_push ps k v j h'
    by_cases ja : j = a
    · have : ¬ j = k := fun e => hk (e ▸ ja)
      subst ja
      simp only [List.cons_append, lk2, if_pos, if_neg this]
    · simp only [List.cons_append, lk2, if_neg ja]; exact ih
theorem lk2_set : ∀ (ps : List (Int × Int)) (i : Nat) (k v u j : Int), ps[i]? = some (k, u) → (∀ q p, q < i → ps[q]? = some p → p.1 ≠ k) → lk2 (ps.set i (k, v)) j = if j = k then some v else lk2 ps j
  | [], i, k, v, u, j, h, _ => by simp at h
  | (a, b) :: ps, 0, k, v, u, j, h, _ => by
    simp at h; obtain ⟨rfl, rfl⟩ := h
    simp only [List.set_cons_zero, lk2]
    split <;> rfl
  | (a, b) :: ps, i + 1, k, v, u, j, h, hq => by
    have hk : a ≠ k := hq 0 (a, b) (by omega) rfl
    have ih := lk2_set ps i k v u j (by simpa using h) (fun q p h1 h2 => hq (q + 1) p (by omega) (by simpa using h2))
    simp only [List.set_cons_succ, lk2, ih]
    by_cases ja : j = a
    · rw [if_pos ja, if_pos ja, if_neg (fun e => hk (ja ▸ e))]
    · rw [if_neg ja, if_neg ja]
section
variable {n : Nat} {C : Ctx} {e : Env} {D : List Deferred} {L I : List Atom} {P : Program} {ro : Option Nat} {Q : Exit → Act → World → Prop} {K X : Act → World → Prop}
theorem write_atom {w : World} (o : Own C L I w) (i : Nat) {A B : Atom} {b : Nat} {x y : Obj} (hi : L[i]? = some A) (hA : ∀ h, A h → le h (hpOf w) → h b = some x) (hB : B (one b y)) (hw : w.heap[b]? = some x) : Own C (L.set i B) I { w with heap := w.heap.setIfInBounds b y } := by
  obtain ⟨h, hI, o⟩ := o
  obtain ⟨h1, h2, d, l1, l2, a, s⟩ := Sep.take i hi o.sep
  have hb : h1 b = some x := hA h1 a (l1.trans o.l1)
  have hlt : b < w.heap.size := (Array.getElem?_eq_some_iff.1 hw).1
  have hother : ∀ k : Hp, k b = none → le k (hpOf w) → le k (hpOf { w with heap := w.heap.setIfInBounds b y }) := fun k hkb hk j z hz => by
    have hj : b ≠ j := fun e => by rw [← e, hkb] at hz; cases hz
    show (w.heap.setIfInBounds b y)[j]? = some z
    rw [Array.getElem?_setIfInBounds_ne hj]
    exact hk j z hz
  have n2 : h2 b = none := by rcases d b with e | e; · rw [hb] at e; cases e
                              · exact e
  have nI : hI b = none := by rcases o.d1 b with e | e; · rw [l1 _ _ hb] at e; cases e
                              · exact e
  have nR : C.R b = none := by rcases o.d2 b with e | e; · rw [l1 _ _ hb] at e; cases e
                               · exact e
  have hbI : apart (one b y) hI := (apart_one nI).symm
  have hbR : apart (one b y) C.R := (apart_one nR).symm
  refine ⟨both (one b y) h2, hI, ?_, o.facts, o.base, ?_, ?_, o.d3, ?_, hother _ nI o.l2, hother _ nR o.l3, o.os, o.tape, o.output⟩
  · exact Sep.put i hi (apart_one n2).symm (le_both_left _ _) (le_both_right (apart_one n2).symm) hB s
  · exact apart_both hbI (o.d1.mono_left l2)
  · exact apart_both hbR (o.d2.mono_left l2)
  · refine both_le (one_le ?_) (hother _ n2 (l2.trans o.l1))
    show (w.heap.setIfInBounds b y)[b]? = some y
    simp [hlt]
theorem o_lki {b : Nat} {f : Int → Int} {dt : Tmp} {m k : Operand} {z : Int} {t kt et : TypeId} {ty : TypeId} {pos : String} {aft : Array Edge} {g : Option (Nat × Bool)} (i : Nat) (hi : L[i]? = some (mpi b f)) (hm : ev e m = some (.map (some b))) (hk : ev e k = some (.int .i64 z)) (ht : P.underlying t = some (.map kt et)) (hkt : P.underlying kt = some (.int .i64)) (hz : ∀ w, (zeroValue et).run P w = .ok (.int .i64 0) w) (hd : Nat.blt dt n = true)
    (h : Ent n C ((dt, .int .i64 (f z)) :: e) D L I K) : Ent n C e D L I (ow ro P ⟨some dt, .lookup t m k false, ty, pos, aft, g⟩ Q K) :=
  ow_pure rfl hd (by simp) (fun a w kn ho => by
    obtain ⟨h1, hl, es, clk, ps, hA, hp, hf⟩ := ho.atom i hi
    have hbk : w.heap[b]? = some (.map es clk) := hl _ _ hA
    have hc : IsKey (.int .i64) (.int .i64 z) := rfl
    simp only [execOp, kn.eval hm, kn.eval hk, Instr.lookup, Sem.run_bind, run_underlying ht, Result.andThen_ok, Go.MapKept.run_getObj_map hbk, Sem.run_pure, Go.MapKept.run_checkKey hkt hc]
    rcases find_int es.toList ps z 0 hp with ⟨q1, q2⟩ | ⟨j, v, q1, q2, _⟩
    · have e0 : f z = 0 := by rw [← hf z, q1]; rfl
      simp [Go.MapKept.run_findKey hkt q2, hz, e0]
    · have e0 : f z = v := by rw [← hf z, q1]; rfl
      simp [Go.MapKept.run_findKey hkt q2, e0]) h
theorem o_lkv {b : Nat} {f : Int → Int} {dt : Tmp} {m k : Operand} {z v : Int} {t kt et : TypeId} {ty : TypeId} {pos : String} {aft : Array Edge} {g : Option (Nat × Bool)} (i : Nat) (hi : L[i]? = some (mpi b f)) (hm : ev e m = some (.map (some b))) (hk : ev e k = some (.int .i64 z)) (hv : f z = v) (ht : P.underlying t = some (.map kt et)) (hkt : P.underlying kt = some (.int .i64)) (hz : ∀ w, (zeroValue et).run P w = .ok (.int .i64 0) w) (hd : Nat.blt dt n = true)
    (h : Ent n C ((dt, .int .i64 v) :: e) D L I K) : Ent n C e D L I (ow ro P ⟨some dt, .lookup t m k false, ty, pos, aft, g⟩ Q K) := by
  subst hv; exact o_lki i hi hm hk ht hkt hz hd h
theorem o_ini {b : Nat} {f : Int → Int} {m k x : Operand} {z v : Int} {t kt et : TypeId} {ty : TypeId} {pos : String} {aft : Array Edge} {g : Option (Nat × Bool)} (i : Nat) (hi : L[i]? = some (mpi b f)) (hm : ev e m = some (.map (some b))) (hk : ev e k = some (.int .i64 z)) (hx : ev e x = some (.int .i64 v)) (ht : P.underlying t = some (.map kt et)) (hkt : P.underlying kt = some (.int .i64))
    (h : Ent n C e D (L.set i (mpi b (fun j => if j = z then v else f j))) I K) : Ent n C e D L I (ow ro P ⟨none, .insert t m k x, ty, pos, aft, g⟩ Q K) := fun a w kn s d ho => by
  obtain ⟨h1, hl, es, clk, ps, hA, hp, hf⟩ := ho.atom i hi
  have hbk : w.heap[b]? = some (.map es clk) := hl _ _ hA
  have hc : IsKey (.int .i64) (.int .i64 z) := rfl
  have hAx : ∀ h, mpi b f h → le h (hpOf w) → h b = some (.map es clk) := fun h ⟨es', clk', ps', q, _⟩ hle => by
    have := hle _ _ q
    have e2 : some (Obj.map es' clk') = some (Obj.map es clk) := this.symm.trans hbk
    rw [q, Option.some.inj e2]
  rcases find_int es.toList ps z 0 hp with ⟨q1, q2⟩ | ⟨j, u, q1, q2, ⟨e', q3, q4⟩, q5, q6⟩
  · have hB : mpi b (fun j => if j = z then v else f j) (one b (.map (es.push ⟨.int .i64 z, .int .i64 v, clk⟩) (clk + 1))) := ⟨_, _, ps ++ [(z, v)], one_self _ _, by simp [pairsOf] at hp ⊢; exact hp, fun k => by
      rw [lk2_push ps z v k q1]
      show _ = if k = z then v else f k
      by_cases hkz : k = z
      · rw [if_pos hkz, if_pos hkz]; rfl
      · rw [if_neg hkz, if_neg hkz]; exact hf k⟩
    have ho' := write_atom ho i hi hAx hB hbk
    refine ow_skip (by simp) (w' := { w with heap := w.heap.setIfInBounds b (.map (es.push ⟨.int .i64 z, .int .i64 v, clk⟩) (clk + 1)) }) ?_ (h a _ kn s d ho')
    simp only [execOp, kn.eval hm, kn.eval hk, kn.eval hx, Instr.mapUpdate, Sem.run_bind, run_underlying ht, Result.andThen_ok, Go.MapKept.run_getObj_map hbk, Go.MapKept.run_checkKey hkt hc, Go.MapKept.run_findKey hkt q2, Go.MapKept.run_setObj_map _ hbk, Sem.run_pure]
  · have hB : mpi b (fun j => if j = z then v else f j) (one b (.map (es.modify j fun e => { e with key := .int .i64 z, val := .int .i64 v }) clk)) := ⟨_, _, ps.set j (z, v), one_self _ _, by
        unfold pairsOf at hp ⊢
        apply List.ext_getElem?
        intro q
        have hq := congrArg (fun l => l[q]?) hp
        simp only [List.getElem?_map, Array.getElem?_toList] at hq ⊢
        rw [Array.getElem?_modify, List.getElem?_set]
        by_cases hjq : j = q
        · subst hjq
          have hlt : j < ps.length := (List.getElem?_eq_some_iff.1 q5).1
          rw [Array.getElem?_toList] at q3
          simp [q3, hlt]
        · simp [hjq]; exact hq, fun k => by
      rw [lk2_set ps j z v u k q5 q6]
      show _ = if k = z then v else f k
      by_cases hkz : k = z
      · rw [if_pos hkz, if_pos hkz]; rfl
      · rw [if_neg hkz, if_neg hkz]; exact hf k⟩
    have ho' := write_atom ho i hi hAx hB hbk
    refine ow_skip (by simp) (w' := { w with heap := w.heap.setIfInBounds b (.map (es.modify j fun e => { e with key := .int .i64 z, val := .int .i64 v }) clk) }) ?_ (h a _ kn s d ho')
    have hks : ∀ w : World, (Instr.keyThatStays (((es[j]?).map (·.key)).getD (.int .i64 z)) (.int .i64 z)).run P w = .ok (.int .i64 z) w := fun w => by
      rw [Array.getElem?_toList] at q3
      simp [q3, q4, Instr.keyThatStays, Instr.sameBits]
    simp only [Nat.zero_add] at q2
    simp only [execOp, kn.eval hm, kn.eval hk, kn.eval hx, Instr.mapUpdate, Sem.run_bind, run_underlying ht, Result.andThen_ok, Go.MapKept.run_getObj_map hbk, Go.MapKept.run_checkKey hkt hc, Go.MapKept.run_findKey hkt q2, hks, Go.MapKept.run_setObj_map _ hbk, Sem.run_pure]
theorem o_upi {b : Nat} {f : Int → Int} {m k x : Operand} {z v : Int} {t kt et : TypeId} {ty : TypeId} {pos : String} {aft : Array Edge} {g : Option (Nat × Bool)} (i : Nat) (hi : L[i]? = some (mpi b f)) (hm : ev e m = some (.map (some b))) (hk : ev e k = some (.int .i64 z)) (hx : ev e x = some (.int .i64 v)) (ht : P.underlying t = some (.map kt et)) (hkt : P.underlying kt = some (.int .i64))
    (h : Ent n C e D (L.set i (mpi b (fun j => if j = z then v else f j))) I K) : Ent n C e D L I (ow ro P ⟨none, .mapUpdate t m k x, ty, pos, aft, g⟩ Q K) := fun a w kn s d ho => by
  obtain ⟨h1, hl, es, clk, ps, hA, hp, hf⟩ := ho.atom i hi
  have hbk : w.heap[b]? = some (.map es clk) := hl _ _ hA
  have hc : IsKey (.int .i64) (.int .i64 z) := rfl
  have hAx : ∀ h, mpi b f h → le h (hpOf w) → h b = some (.map es clk) := fun h ⟨es', clk', ps', q, _⟩ hle => by
    have := hle _ _ q
    have e2 : some (Obj.map es' clk') = some (Obj.map es clk) := this.symm.trans hbk
    rw [q, Option.some.inj e2]
  rcases find_int es.toList ps z 0 hp with ⟨q1, q2⟩ | ⟨j, u, q1, q2, ⟨e', q3, q4⟩, q5, q6⟩
  · have hB : mpi b (fun j => if j = z then v else f j) (one b (.map (es.push ⟨.int .i64 z, .int .i64 v, clk⟩) (clk + 1))) := ⟨_, _, ps ++ [(z, v)], one_self _ _, by simp [pairsOf] at hp ⊢; exact hp, fun k => by
      rw [lk2_push ps z v k q1]
      show _ = if k = z then v else f k
      by_cases hkz : k = z
      · rw [if_pos hkz, if_pos hkz]; rfl
      · rw [if_neg hkz, if_neg hkz]; exact hf k⟩
    have ho' := write_atom ho i hi hAx hB hbk
    refine ow_skip (by simp) (w' := { w with heap := w.heap.setIfInBounds b (.map (es.push ⟨.int .i64 z, .int .i64 v, clk⟩) (clk + 1)) }) ?_ (h a _ kn s d ho')
    simp only [execOp, kn.eval hm, kn.eval hk, kn.eval hx, Instr.mapUpdate, Sem.run_bind, run_underlying ht, Result.andThen_ok, Go.MapKept.run_getObj_map hbk, Go.MapKept.run_checkKey hkt hc, Go.MapKept.run_findKey hkt q2, Go.MapKept.run_setObj_map _ hbk, Sem.run_pure]
  · have hB : mpi b (fun j => if j = z then v else f j) (one b (.map (es.modify j fun e => { e with key := .int .i64 z, val := .int .i64 v }) clk)) := ⟨_, _, ps.set j (z, v), one_self _ _, by
        unfold pairsOf at hp ⊢
        apply List.ext_getElem?
        intro q
        have hq := congrArg (fun l => l[q]?) hp
        simp only [List.getElem?_map, Array.getElem?_toList] at hq ⊢
        rw [Array.getElem?_modify, List.getElem?_set]
        by_cases hjq : j = q
        · subst hjq
          have hlt : j < ps.length := (List.getElem?_eq_some_iff.1 q5).1
          rw [Array.getElem?_toList] at q3
          simp [q3, hlt]
        · simp [hjq]; exact hq, fun k => by
      rw [lk2_set ps j z v u k q5 q6]
      show _ = if k = z then v else f k
      by_cases hkz : k = z
      · rw [if_pos hkz, if_pos hkz]; rfl
      · rw [if_neg hkz, if_neg hkz]; exact hf k⟩
    have ho' := write_atom ho i hi hAx hB hbk
    refine ow_skip (by simp) (w' := { w with heap := w.heap.setIfInBounds b (.map (es.modify j fun e => { e with key := .int .i64 z, val := .int .i64 v }) clk) }) ?_ (h a _ kn s d ho')
    have hks : ∀ w : World, (Instr.keyThatStays (((es[j]?).map (·.key)).getD (.int .i64 z)) (.int .i64 z)).run P w = .ok (.int .i64 z) w := fun w => by
      rw [Array.getElem?_toList] at q3
      simp [q3, q4, Instr.keyThatStays, Instr.sameBits]
    simp only [Nat.zero_add] at q2
    simp only [execOp, kn.eval hm, kn.eval hk, kn.eval hx, Instr.mapUpdate, Sem.run_bind, run_underlying ht, Result.andThen_ok, Go.MapKept.run_getObj_map hbk, Go.MapKept.run_checkKey hkt hc, Go.MapKept.run_findKey hkt q2, hks, Go.MapKept.run_setObj_map _ hbk, Sem.run_pure]
/-- A function of the library that the model itself carries out, at known values. -/
theorem y_ext {dd : Option Tmp} {fo : Operand} {xs : List Operand} {ats : Array TypeId} {ty : TypeId} {pos : String} {aft : Array Edge} {g : Option (Nat × Bool)} {f : FuncId} {vals : List Value} {H : Array Value → Sem Value} {v : Value}
    (hc : ∀ (args : Array Value) (w : World), (callFunc f args).run P w = ((H args).run P w).andThen fun v w' => .ok (.value v) w') (hx : ev e fo = some (.func (.func f) #[] #[])) (hv : evs e xs = some vals) (hr : ∀ w : World, (H vals.toArray).run P w = .ok v w) :
    Ys P e ⟨dd, .call ⟨.value fo, xs.toArray, ats⟩, ty, pos, aft, g⟩ v := fun a w k => by
  have hval := k.evals hv
  have h1 : (xs.toArray.map a.eval) = vals.toArray := by rw [List.map_toArray, hval]
  simp only [execOp, resolve, h1, k.eval hx, Deferred.ofValue, Sem.run_bind, Sem.run_pure, Result.andThen_ok, invoke]
  rw [show (#[] ++ vals.toArray ++ #[] : Array Value) = vals.toArray by simp, hc, hr w]
  rfl
theorem y_sub8 {d : Option Tmp} {x y : Operand} {p q r : Int} {t t2 : TypeId} {ty : TypeId} {pos : String} {aft : Array Edge} {g : Option (Nat × Bool)} (hx : ev e x = some (.int .u8 p)) (hy : ev e y = some (.int .u8 q)) (hr : p - q = r) (hb : 0 ≤ r ∧ r ≤ 255) :
    Ys P e ⟨d, .binOp .sub t x y t2, ty, pos, aft, g⟩ (.int .u8 r) := by
  subst hr
  have hw : IntKind.u8.wrap (p - q) = p - q := by rw [IntKind.wrap_u8]; omega
  exact y_bin hx hy fun w => by simp [eqGuard, binOp, Op.intArith, hw]
end
end Go.Sl
/- Short forms of the rules that are told most often: what need not be told is found by itself. -/
set_option linter.unusedVariables false
namespace Go.Sl
open Go Go.RowKit
theorem dec_t {p : Prop} [i : Decidable p] (h : p) : Value.bool true = Value.bool (decide p) := by rw [decide_eq_true h]
theorem dec_f {p : Prop} [i : Decidable p] (h : ¬ p) : Value.bool false = Value.bool (decide p) := by rw [decide_eq_false h]
section
variable {n : Nat} {C : Ctx} {e : Env} {D : List Deferred} {L I : List Atom} {P : Program} {ro : Option Nat} {Q : Exit → Act → World → Prop} {K X : Act → World → Prop} {H : List (Addr × Value)} {ds : List Nat} {k : Nat} {l : Array Bool}
theorem s_y {ops : Array Oper} {o : Oper} {rest : List Oper} {dt : Tmp} {v : Value} (hg : o.guard = none) (hy : Ys P e o v) (hdst : o.dst = some dt) (h : Ent n C ((dt, v) :: e) D L I (lw ro P ops Q rest)) (hd : Nat.blt dt n = true := by rfl) (hp : plainOp o.op = true := by rfl) : Ent n C e D L I (lw ro P ops Q (o :: rest)) :=
  st hg (o_y hy hdst hd hp h)
variable {ops : Array Oper}
theorem b_y {i : Nat} {o : Oper} {dt : Tmp} {v : Value} (l' : Array Bool) (hi : ops[i]? = some o) (hdst : o.dst = some dt) (hy : Ys P e o v) (h : Ent n C ((dt, v) :: e) D L I (aw ro P ops H ds X k l')) (hg : o.guard = none := by rfl) (hd : Nat.blt dt n = true := by rfl) (hc : pureB ops l l' i = true := by as_aux_lemma => kernel_rfl) : Ent n C e D L I (aw ro P ops H ds X (k + 1) l) := a_y l' hi hc hg hdst hd hy h
theorem b_yo {i j : Nat} {b : Bool} {o : Oper} {dt : Tmp} {v : Value} (t : Tmp) (l' : Array Bool) (hi : ops[i]? = some o) (hg : o.guard = some (j, b)) (hdst : o.dst = some dt) (hy : Ys P e o v) (h : Ent n C ((dt, v) :: e) D L I (aw ro P ops H ds X k l')) (ht : (ops[j]?).bind (·.dst) = some t := by rfl) (hv : lk e t = some (.bool b) := by rfl) (hd : Nat.blt dt n = true := by rfl) (hc : pureB ops l l' i = true := by as_aux_lemma => kernel_rfl) : Ent n C e D L I (aw ro P ops H ds X (k + 1) l) := a_y_on t l' hi hc hg ht hv hdst hd hy h
theorem b_f {i j : Nat} {b c : Bool} {o : Oper} {dt : Tmp} (t : Tmp) (l' : Array Bool) (hi : ops[i]? = some o) (hg : o.guard = some (j, b)) (hv : lk e t = some (.bool c)) (hdst : o.dst = some dt) (h : Ent n C ((dt, undef) :: e) D L I (aw ro P ops H ds X k l')) (ht : (ops[j]?).bind (·.dst) = some t := by rfl) (hne : (c == b) = false := by rfl) (hd : Nat.blt dt n = true := by rfl) (hc : pureB ops l l' i = true := by as_aux_lemma => kernel_rfl) : Ent n C e D L I (aw ro P ops H ds X (k + 1) l) := a_off t l' hi hc hg ht hv hne hdst hd h
theorem b_u {i j : Nat} {b : Bool} {o : Oper} {dt : Tmp} (t : Tmp) (l' : Array Bool) (hi : ops[i]? = some o) (hg : o.guard = some (j, b)) (hdst : o.dst = some dt) (h : Ent n C ((dt, undef) :: e) D L I (aw ro P ops H ds X k l')) (ht : (ops[j]?).bind (·.dst) = some t := by rfl) (hv : lk e t = some undef := by rfl) (hd : Nat.blt dt n = true := by rfl) (hc : pureB ops l l' i = true := by as_aux_lemma => kernel_rfl) : Ent n C e D L I (aw ro P ops H ds X (k + 1) l) := a_offu t l' hi hc hg ht hv hdst hd h
end
end Go.Sl
/- A string gone through by its letters (those below 128), and an error that may be none. -/
set_option linter.unusedVariables false
set_option linter.unusedSimpArgs false
namespace Go.Sl
open Go Go.RowKit Go.MapKept
theorem dec_ascii {s : ByteArray} {p : Nat} {c : UInt8} (h : s[p]? = some c) (hc : c.toNat < 128) : Utf8.decode s p = (c.toNat, 1) := by
  obtain ⟨hp, he⟩ := getElem?_eq_some_iff.1 h
  have hg : s.get! (p + 0) = c := by
    rw [Nat.add_zero]
    show s.data[p]! = c
    have hp' : p < s.data.size := hp
    rw [getElem!_pos s.data p hp']
    exact he
  unfold Utf8.decode
  simp only [hg]
  rw [if_pos hc]
theorem get_sit {P : Program} {w : World} {r p : Nat} {s : ByteArray} (hb : w.heap[r]? = some (.stringIter s p)) : (getObj r).run P w = .ok (.stringIter s p) w := by simp [getObj, Sem.run, hb]
theorem set_sit {P : Program} {w : World} {r p : Nat} {s : ByteArray} (o : Obj) (hb : w.heap[r]? = some (.stringIter s p)) : (setObj r o).run P w = .ok () { w with heap := w.heap.setIfInBounds r o } := by simp [setObj, Sem.run, hb]
section
variable {n : Nat} {C : Ctx} {e : Env} {D : List Deferred} {L I : List Atom} {P : Program} {ro : Option Nat} {Q : Exit → Act → World → Prop} {K X : Act → World → Prop}
theorem o_srange {dt : Tmp} {x : Operand} {s : ByteArray} {t : TypeId} {ty : TypeId} {pos : String} {aft : Array Edge} {g : Option (Nat × Bool)} (hx : ev e x = some (.string s)) (ht : P.underlying t = some .string) (hd : Nat.blt dt n = true)
    (h : ∀ b, Ent n C ((dt, .pointer (some ⟨b, 0, none⟩)) :: e) D (ob b (.stringIter s 0) :: L) I K) : Ent n C e D L I (ow ro P ⟨some dt, .range t x, ty, pos, aft, g⟩ Q K) :=
  ow_turn rfl hd (by simp) fun a w k ho => ⟨_, { w with heap := w.heap.push (.stringIter s 0) }, _, _, by
    simp only [execOp, k.eval hx, Instr.range, Sem.run_bind, run_underlying ht, Result.andThen_ok, Sem.run_pure]
    simp [newObj, Sem.run], alloc_own ho _, h _⟩
/-- What a map of the call's own holds at a key, or zero. -/
theorem o_lookv {b clk : Nat} {es : Array MapEntry} {dt : Tmp} {m k : Operand} {kv v z : Value} {r : Option (Nat × Value)} {t kt et : TypeId} {kd : TypeDesc} {ty : TypeId} {pos : String} {aft : Array Edge} {g : Option (Nat × Bool)} (i : Nat) (hi : L[i]? = some (ob b (.map es clk)))
    (hm : ev e m = some (.map (some b))) (hk : ev e k = some kv) (ht : P.underlying t = some (.map kt et)) (hkt : P.underlying kt = some kd) (hc : IsKey kd kv) (hf : Instr.findNow kd kv es.toList 0 = some r)
    (hz : ∀ w, (zeroValue et).run P w = .ok z w) (hv : (r.map Prod.snd).getD z = v) (hd : Nat.blt dt n = true)
    (h : Ent n C ((dt, v) :: e) D L I K) : Ent n C e D L I (ow ro P ⟨some dt, .lookup t m k false, ty, pos, aft, g⟩ Q K) :=
  ow_pure rfl hd (by simp) (fun a w kn ho => by
    obtain ⟨h1, hl, hA⟩ := ho.atom i hi
    have hbk : w.heap[b]? = some (.map es clk) := hl _ _ hA
    simp only [execOp, kn.eval hm, kn.eval hk, Instr.lookup, Sem.run_bind, run_underlying ht, Result.andThen_ok, Go.MapKept.run_getObj_map hbk, Sem.run_pure, Go.MapKept.run_checkKey hkt hc, Go.MapKept.run_findKey hkt hf]
    cases r with
    | none => simp at hv; subst hv; simp [hz]
    | some q => obtain ⟨j, u⟩ := q; simp at hv; subst hv; simp) h
theorem o_send {b p : Nat} {s : ByteArray} {dt : Tmp} {x : Operand} {ty : TypeId} {pos : String} {aft : Array Edge} {g : Option (Nat × Bool)} (i : Nat) (hi : L[i]? = some (ob b (.stringIter s p))) (hx : ev e x = some (.pointer (some ⟨b, 0, none⟩))) (hp : ¬ p < s.size) (hd : Nat.blt dt n = true)
    (h : Ent n C ((dt, .tuple #[.bool false]) :: e) D L I K) : Ent n C e D L I (ow ro P ⟨some dt, .next x true, ty, pos, aft, g⟩ Q K) :=
  ow_pure rfl hd (by simp) (fun a w k ho => by
    obtain ⟨h1, hl, hA⟩ := ho.atom i hi
    have hb : w.heap[b]? = some (.stringIter s p) := hl _ _ hA
    simp only [execOp, k.eval hx, Instr.next, Sem.run_bind, get_sit hb, Result.andThen_ok, if_neg hp, Sem.run_pure]) h
theorem o_snext {b p : Nat} {s : ByteArray} {c : UInt8} {dt : Tmp} {x : Operand} {ty : TypeId} {pos : String} {aft : Array Edge} {g : Option (Nat × Bool)} (i : Nat) (hi : L[i]? = some (ob b (.stringIter s p))) (hx : ev e x = some (.pointer (some ⟨b, 0, none⟩))) (hc : s[p]? = some c) (h128 : c.toNat < 128) (hd : Nat.blt dt n = true)
    (h : Ent n C ((dt, .tuple #[.bool true, .int .i64 (p : Int), .int .i32 (c.toNat : Int)]) :: e) D (L.set i (ob b (.stringIter s (p + 1)))) I K) : Ent n C e D L I (ow ro P ⟨some dt, .next x true, ty, pos, aft, g⟩ Q K) :=
  ow_turn rfl hd (by simp) fun a w k ho => by
    obtain ⟨ho', hb⟩ := write_own (y := .stringIter s (p + 1)) ho i hi
    obtain ⟨hp, he⟩ := getElem?_eq_some_iff.1 hc
    refine ⟨_, { w with heap := w.heap.setIfInBounds b (.stringIter s (p + 1)) }, _, _, ?_, ho', h⟩
    simp only [execOp, k.eval hx, Instr.next, Sem.run_bind, get_sit hb, Result.andThen_ok, if_pos hp, dec_ascii hc h128, set_sit _ hb, Sem.run_pure]
    rfl
end
end Go.Sl
