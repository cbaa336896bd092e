/- The laws of chapter 17 (call), walked over the given program; no condition but what stands in each theorem: part AB. -/
import Derived.WalkKit
import Derived.LaidEql
import Derived.Stop.Asserts
import Derived.RowKitTokens
import Derived.Test.YtcnncdniibkjkaaGreatDoorProg
import Derived.Test.YtcnncdniibkjkaaGreatDoorChecked
import Derived.Test.YtcnncdniibkjkaaGreatDoorSlO
set_option linter.unusedVariables false
set_option linter.unusedSimpArgs false
set_option maxRecDepth 100000
set_option maxHeartbeats 8000000
namespace Go.Proofs.YtcnncdniibkjkaaGreatDoor
open Go Go.Sl Go.RowKit Go.Extern.Stop Go.Stop Go.Extern
structure Lab where
  lv : Int
  cs : Nat
  ig : Int
deriving DecidableEq
def labTy : Ty Lab := ⟨3, fun x => [.int .i64 x.lv, .int .u64 (x.cs : Int), .int .i64 x.ig], fun _ => rfl, fun _ => rfl⟩
structure Cal where
  op : Int
  lb : Lab
  nm : ByteArray
  pl : Int
  nn : Int
  da : ByteArray
  id : Int
deriving DecidableEq
def calTy : Ty Cal := ⟨9, fun x => [.int .i64 x.op, .int .i64 x.lb.lv, .int .u64 (x.lb.cs : Int), .int .i64 x.lb.ig, .string x.nm, .int .i64 x.pl, .int .i64 x.nn, .string x.da, .int .i64 x.id], fun _ => rfl, fun _ => rfl⟩

/-! ### Labels -/
def labRight (a : Lab) : Prop := 0 ≤ a.lv ∧ a.lv ≤ 15 ∧ 0 ≤ a.ig ∧ a.ig ≤ 7
instance (a : Lab) : Decidable (labRight a) := by unfold labRight; infer_instance
def hasN (s : Nat) (i : Nat) : Prop := s / 2 ^ i % 2 = 1
instance (s i : Nat) : Decidable (hasN s i) := by unfold hasN; infer_instance
/-- Categories in others. -/
def subN (a b : Nat) : Prop := andNotN a b = 0
instance (a b : Nat) : Decidable (subN a b) := by unfold subN; infer_instance
def labUnder (a b : Lab) : Prop := labRight a ∧ labRight b ∧ a.lv ≤ b.lv ∧ b.ig ≤ a.ig ∧ subN a.cs b.cs
instance (a b : Lab) : Decidable (labUnder a b) := by unfold labUnder; infer_instance
theorem subN_self (a : Nat) : subN a a := by
  unfold subN andNotN
  have : BitVec.ofNat 64 a &&& ~~~ BitVec.ofNat 64 a = 0#64 := by
    apply BitVec.eq_of_getLsbD_eq
    intro i hi
    simp [hi]
  rw [this]; rfl
theorem hasN_bit (s i : Nat) : hasN s i ↔ s.testBit i = true := by
  unfold hasN
  rw [Nat.testBit_eq_decide_div_mod_eq]
  simp
theorem subN_iff {a b : Nat} : subN a b ↔ ∀ i, i < 64 → hasN a i → hasN b i := by
  unfold subN andNotN
  constructor
  · intro h i hi ha
    rw [hasN_bit] at *
    have h1 : (BitVec.ofNat 64 a &&& ~~~ BitVec.ofNat 64 b) = 0#64 := BitVec.eq_of_toNat_eq (by rw [h]; rfl)
    have h2 : (BitVec.ofNat 64 a &&& ~~~ BitVec.ofNat 64 b).getLsbD i = false := by rw [h1]; simp only [BitVec.getLsbD_zero]
    rw [BitVec.getLsbD_and, BitVec.getLsbD_not, BitVec.getLsbD_ofNat, BitVec.getLsbD_ofNat] at h2
    simpa only [hi, ha, decide_true, Bool.true_and, Bool.not_eq_false'] using h2
  · intro h
    have h1 : (BitVec.ofNat 64 a &&& ~~~ BitVec.ofNat 64 b) = 0#64 := by
      apply BitVec.eq_of_getLsbD_eq
      intro i hi
      have := h i hi
      rw [hasN_bit, hasN_bit] at this
      simp only [BitVec.getLsbD_and, BitVec.getLsbD_not, BitVec.getLsbD_ofNat, hi, decide_true, Bool.true_and, BitVec.getLsbD_zero]
      cases ha : a.testBit i <;> simp_all
    rw [h1]; rfl
theorem labUnder_self {a : Lab} (h : labRight a) : labUnder a a := ⟨h, h, Int.le_refl _, Int.le_refl _, subN_self _⟩
theorem under_or {a b : Lab} (h1 : labRight a) (h2 : labRight b) : labUnder a b ↔ (a = b ∨ (a.lv ≤ b.lv ∧ b.ig ≤ a.ig ∧ subN a.cs b.cs)) := by
  constructor
  · intro h; exact .inr h.2.2
  · rintro (rfl | h)
    · exact labUnder_self h1
    · exact ⟨h1, h2, h⟩
theorem under_t1 {a b : Lab} (h : labRight a ∧ labRight b) (e : a = b) : labUnder a b := (under_or h.1 h.2).2 (.inl e)
theorem under_t2 {a b : Lab} (h : labRight a ∧ labRight b) (e : a.lv ≤ b.lv ∧ b.ig ≤ a.ig ∧ subN a.cs b.cs) : labUnder a b := (under_or h.1 h.2).2 (.inr e)
theorem under_f1 {a b : Lab} (h : labRight a ∧ labRight b) (n : ¬ a = b) (m : ¬ (a.lv ≤ b.lv ∧ b.ig ≤ a.ig ∧ subN a.cs b.cs)) : ¬ labUnder a b := fun q => ((under_or h.1 h.2).1 q).elim n m
theorem under_f2 {a b : Lab} (h : ¬ (labRight a ∧ labRight b)) : ¬ labUnder a b := fun q => h ⟨q.1, q.2.1⟩
def lab64 (a : Lab) : Prop := a.cs < 18446744073709551616
theorem eqin_Lab (d : Nat) (a b : Lab) (w : World) : (Op.equalIn (d + 2) 24 (.agg #[.int .i64 a.lv, .int .u64 (a.cs : Int), .int .i64 a.ig]) (.agg #[.int .i64 b.lv, .int .u64 (b.cs : Int), .int .i64 b.ig])).run Tryz.prog w = .ok (decide (a = b)) w := by
  have hS : Tryz.prog.underlying 24 = some (.struct (Tryz.prog.fieldsOf 24)) := by kernel_rfl
  have hp : Tryz.prog.stoodInHeld 24 = false := by kernel_rfl
  rw [run_equalIn_agg w (d + 1) 24 _ _ hS hp]
  simp only [Program.fieldsOf, Tryz.underlying24]
  have u0 := Tryz.underlying3
  have a0 := Tryz.isAgg3
  have z0 := Tryz.sizeOf3
  have u1 := Tryz.underlying22
  have a1 := Tryz.isAgg22
  have z1 := Tryz.sizeOf22
  obtain ⟨p0, p1, p2⟩ := a
  obtain ⟨q0, q1, q2⟩ := b
  go_simp
  by_cases h0 : p0 = q0
  · by_cases h1 : p1 = q1
    · by_cases h2 : p2 = q2
      · simp [h0, h1, h2]
      · simp [h0, h1, h2]
    · have : ¬ ((p1 : Int) = (q1 : Int)) := by omega
      simp [h0, h1, this]
  · simp [h0]
theorem eq_Lab {x y : Operand} (a b : Lab) (w : World) : (do eqGuard .eql 24 x y (.agg #[.int .i64 a.lv, .int .u64 (a.cs : Int), .int .i64 a.ig]) (.agg #[.int .i64 b.lv, .int .u64 (b.cs : Int), .int .i64 b.ig]); binOp .eql 24 (.agg #[.int .i64 a.lv, .int .u64 (a.cs : Int), .int .i64 a.ig]) (.agg #[.int .i64 b.lv, .int .u64 (b.cs : Int), .int .i64 b.ig]) : Sem Value).run Tryz.prog w = .ok (.bool (decide (a = b))) w := by
  have h := eqin_Lab 9998 a b w
  rw [Sem.run_bind, run_eqGuard_agg w .eql 24 x y _ _ (by kernel_rfl), Result.andThen_ok, run_eql_struct]
  simp only [show 9998 + 2 = 10000 from rfl] at h
  rw [h]
  rfl
theorem eq_Labn {x y : Operand} (a b : Lab) (w : World) : (do eqGuard .neq 24 x y (.agg #[.int .i64 a.lv, .int .u64 (a.cs : Int), .int .i64 a.ig]) (.agg #[.int .i64 b.lv, .int .u64 (b.cs : Int), .int .i64 b.ig]); binOp .neq 24 (.agg #[.int .i64 a.lv, .int .u64 (a.cs : Int), .int .i64 a.ig]) (.agg #[.int .i64 b.lv, .int .u64 (b.cs : Int), .int .i64 b.ig]) : Sem Value).run Tryz.prog w = .ok (.bool (!decide (a = b))) w := by
  have h := eqin_Lab 9998 a b w
  rw [Sem.run_bind, run_eqGuard_agg w .neq 24 x y _ _ (by kernel_rfl), Result.andThen_ok, run_neq_struct]
  simp only [show 9998 + 2 = 10000 from rfl] at h
  rw [h]
  rfl
theorem eqin_Cal (d : Nat) (a b : Cal) (w : World) : (Op.equalIn (d + 3) 26 (.agg #[.int .i64 a.op, .int .i64 a.lb.lv, .int .u64 (a.lb.cs : Int), .int .i64 a.lb.ig, .string a.nm, .int .i64 a.pl, .int .i64 a.nn, .string a.da, .int .i64 a.id]) (.agg #[.int .i64 b.op, .int .i64 b.lb.lv, .int .u64 (b.lb.cs : Int), .int .i64 b.lb.ig, .string b.nm, .int .i64 b.pl, .int .i64 b.nn, .string b.da, .int .i64 b.id])).run Tryz.prog w = .ok (decide (a = b)) w := by
  have hS : Tryz.prog.underlying 26 = some (.struct (Tryz.prog.fieldsOf 26)) := by kernel_rfl
  have hp : Tryz.prog.stoodInHeld 26 = false := by kernel_rfl
  rw [run_equalIn_agg w (d + 2) 26 _ _ hS hp]
  simp only [Program.fieldsOf, Tryz.underlying26]
  have u0 := Tryz.underlying3
  have a0 := Tryz.isAgg3
  have z0 := Tryz.sizeOf3
  have u1 := Tryz.underlying9
  have a1 := Tryz.isAgg9
  have z1 := Tryz.sizeOf9
  have a2 := Tryz.isAgg24
  have z2 := Tryz.sizeOf24
  have e1 := fun (w : World) => eqin_Lab (d + 0) a.lb b.lb w
  obtain ⟨p0, p1, p2, p3, p4, p5, p6⟩ := a
  obtain ⟨q0, q1, q2, q3, q4, q5, q6⟩ := b
  go_simp
  try simp only [e1]
  by_cases h0 : p0 = q0
  · by_cases h1 : p1 = q1
    · by_cases h2 : p2 = q2
      · by_cases h3 : p3 = q3
        · by_cases h4 : p4 = q4
          · by_cases h5 : p5 = q5
            · by_cases h6 : p6 = q6
              · simp [h0, h1, h2, h3, h4, h5, h6]
              · simp [h0, h1, h2, h3, h4, h5, h6]
            · have : ¬ (p5.toList = q5.toList) := fun h => h5 (str_inj h)
              simp [h0, h1, h2, h3, h4, h5, this]
          · simp [h0, h1, h2, h3, h4]
        · simp [h0, h1, h2, h3]
      · have : ¬ (p2.toList = q2.toList) := fun h => h2 (str_inj h)
        simp [h0, h1, h2, this]
    · simp [h0, h1]
  · simp [h0]
theorem eq_Cal {x y : Operand} (a b : Cal) (w : World) : (do eqGuard .eql 26 x y (.agg #[.int .i64 a.op, .int .i64 a.lb.lv, .int .u64 (a.lb.cs : Int), .int .i64 a.lb.ig, .string a.nm, .int .i64 a.pl, .int .i64 a.nn, .string a.da, .int .i64 a.id]) (.agg #[.int .i64 b.op, .int .i64 b.lb.lv, .int .u64 (b.lb.cs : Int), .int .i64 b.lb.ig, .string b.nm, .int .i64 b.pl, .int .i64 b.nn, .string b.da, .int .i64 b.id]); binOp .eql 26 (.agg #[.int .i64 a.op, .int .i64 a.lb.lv, .int .u64 (a.lb.cs : Int), .int .i64 a.lb.ig, .string a.nm, .int .i64 a.pl, .int .i64 a.nn, .string a.da, .int .i64 a.id]) (.agg #[.int .i64 b.op, .int .i64 b.lb.lv, .int .u64 (b.lb.cs : Int), .int .i64 b.lb.ig, .string b.nm, .int .i64 b.pl, .int .i64 b.nn, .string b.da, .int .i64 b.id]) : Sem Value).run Tryz.prog w = .ok (.bool (decide (a = b))) w := by
  have h := eqin_Cal 9997 a b w
  rw [Sem.run_bind, run_eqGuard_agg w .eql 26 x y _ _ (by kernel_rfl), Result.andThen_ok, run_eql_struct]
  simp only [show 9997 + 3 = 10000 from rfl] at h
  rw [h]
  rfl
theorem eq_Caln {x y : Operand} (a b : Cal) (w : World) : (do eqGuard .neq 26 x y (.agg #[.int .i64 a.op, .int .i64 a.lb.lv, .int .u64 (a.lb.cs : Int), .int .i64 a.lb.ig, .string a.nm, .int .i64 a.pl, .int .i64 a.nn, .string a.da, .int .i64 a.id]) (.agg #[.int .i64 b.op, .int .i64 b.lb.lv, .int .u64 (b.lb.cs : Int), .int .i64 b.lb.ig, .string b.nm, .int .i64 b.pl, .int .i64 b.nn, .string b.da, .int .i64 b.id]); binOp .neq 26 (.agg #[.int .i64 a.op, .int .i64 a.lb.lv, .int .u64 (a.lb.cs : Int), .int .i64 a.lb.ig, .string a.nm, .int .i64 a.pl, .int .i64 a.nn, .string a.da, .int .i64 a.id]) (.agg #[.int .i64 b.op, .int .i64 b.lb.lv, .int .u64 (b.lb.cs : Int), .int .i64 b.lb.ig, .string b.nm, .int .i64 b.pl, .int .i64 b.nn, .string b.da, .int .i64 b.id]) : Sem Value).run Tryz.prog w = .ok (.bool (!decide (a = b))) w := by
  have h := eqin_Cal 9997 a b w
  rw [Sem.run_bind, run_eqGuard_agg w .neq 26 x y _ _ (by kernel_rfl), Result.andThen_ok, run_neq_struct]
  simp only [show 9997 + 3 = 10000 from rfl] at h
  rw [h]
  rfl
end Go.Proofs.YtcnncdniibkjkaaGreatDoor
