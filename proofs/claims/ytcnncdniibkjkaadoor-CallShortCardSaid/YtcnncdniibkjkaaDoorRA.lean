/- The laws of chapter 17 (call), walked over the given program; no condition but what stands in each theorem: part A. -/
import Derived.WalkKit
import Derived.LaidEql
import Derived.Stop.Asserts
import Derived.RowKitTokens
import Derived.Test.YtcnncdniibkjkaaDoorProg
import Derived.Test.YtcnncdniibkjkaaDoorChecked
import Derived.Test.YtcnncdniibkjkaaDoorSlO
set_option linter.unusedVariables false
set_option linter.unusedSimpArgs false
set_option maxRecDepth 100000
set_option maxHeartbeats 8000000
namespace Go.Proofs.YtcnncdniibkjkaaDoor
open Go Go.Sl Go.RowKit Go.Extern.Stop Go.Stop Go.Extern
structure Lab where
  lv : Int
  cs : Nat
  ig : Int
deriving DecidableEq
def labTy : Ty Lab := ⟨3, fun x => [.int .i64 x.lv, .int .u64 (x.cs : Int), .int .i64 x.ig], fun _ => rfl, fun _ => rfl⟩
structure Cal where
  op : Int
  lb : Lab
  nm : ByteArray
  pl : Int
  nn : Int
  da : ByteArray
  id : Int
deriving DecidableEq
def calTy : Ty Cal := ⟨9, fun x => [.int .i64 x.op, .int .i64 x.lb.lv, .int .u64 (x.lb.cs : Int), .int .i64 x.lb.ig, .string x.nm, .int .i64 x.pl, .int .i64 x.nn, .string x.da, .int .i64 x.id], fun _ => rfl, fun _ => rfl⟩

/-! ### Labels -/
def labRight (a : Lab) : Prop := 0 ≤ a.lv ∧ a.lv ≤ 15 ∧ 0 ≤ a.ig ∧ a.ig ≤ 7
instance (a : Lab) : Decidable (labRight a) := by unfold labRight; infer_instance
def hasN (s : Nat) (i : Nat) : Prop := s / 2 ^ i % 2 = 1
instance (s i : Nat) : Decidable (hasN s i) := by unfold hasN; infer_instance
/-- Categories in others. -/
def subN (a b : Nat) : Prop := andNotN a b = 0
instance (a b : Nat) : Decidable (subN a b) := by unfold subN; infer_instance
def labUnder (a b : Lab) : Prop := labRight a ∧ labRight b ∧ a.lv ≤ b.lv ∧ b.ig ≤ a.ig ∧ subN a.cs b.cs
instance (a b : Lab) : Decidable (labUnder a b) := by unfold labUnder; infer_instance
theorem subN_self (a : Nat) : subN a a := by
  unfold subN andNotN
  have : BitVec.ofNat 64 a &&& ~~~ BitVec.ofNat 64 a = 0#64 := by
    apply BitVec.eq_of_getLsbD_eq
    intro i hi
    simp [hi]
  rw [this]; rfl
theorem hasN_bit (s i : Nat) : hasN s i ↔ s.testBit i = true := by
  unfold hasN
  rw [Nat.testBit_eq_decide_div_mod_eq]
  simp
theorem subN_iff {a b : Nat} : subN a b ↔ ∀ i, i < 64 → hasN a i → hasN b i := by
  unfold subN andNotN
  constructor
  · intro h i hi ha
    rw [hasN_bit] at *
    have h1 : (BitVec.ofNat 64 a &&& ~~~ BitVec.ofNat 64 b) = 0#64 := BitVec.eq_of_toNat_eq (by rw [h]; rfl)
    have h2 : (BitVec.ofNat 64 a &&& ~~~ BitVec.ofNat 64 b).getLsbD i = false := by rw [h1]; simp only [BitVec.getLsbD_zero]
    rw [BitVec.getLsbD_and, BitVec.getLsbD_not, BitVec.getLsbD_ofNat, BitVec.getLsbD_ofNat] at h2
    simpa only [hi, ha, decide_true, Bool.true_and, Bool.not_eq_false'] using h2
  · intro h
    have h1 : (BitVec.ofNat 64 a &&& ~~~ BitVec.ofNat 64 b) = 0#64 := by
      apply BitVec.eq_of_getLsbD_eq
      intro i hi
      have := h i hi
      rw [hasN_bit, hasN_bit] at this
      simp only [BitVec.getLsbD_and, BitVec.getLsbD_not, BitVec.getLsbD_ofNat, hi, decide_true, Bool.true_and, BitVec.getLsbD_zero]
      cases ha : a.testBit i <;> simp_all
    rw [h1]; rfl
theorem labUnder_self {a : Lab} (h : labRight a) : labUnder a a := ⟨h, h, Int.le_refl _, Int.le_refl _, subN_self _⟩
theorem under_or {a b : Lab} (h1 : labRight a) (h2 : labRight b) : labUnder a b ↔ (a = b ∨ (a.lv ≤ b.lv ∧ b.ig ≤ a.ig ∧ subN a.cs b.cs)) := by
  constructor
  · intro h; exact .inr h.2.2
  · rintro (rfl | h)
    · exact labUnder_self h1
    · exact ⟨h1, h2, h⟩
theorem under_t1 {a b : Lab} (h : labRight a ∧ labRight b) (e : a = b) : labUnder a b := (under_or h.1 h.2).2 (.inl e)
theorem under_t2 {a b : Lab} (h : labRight a ∧ labRight b) (e : a.lv ≤ b.lv ∧ b.ig ≤ a.ig ∧ subN a.cs b.cs) : labUnder a b := (under_or h.1 h.2).2 (.inr e)
theorem under_f1 {a b : Lab} (h : labRight a ∧ labRight b) (n : ¬ a = b) (m : ¬ (a.lv ≤ b.lv ∧ b.ig ≤ a.ig ∧ subN a.cs b.cs)) : ¬ labUnder a b := fun q => ((under_or h.1 h.2).1 q).elim n m
theorem under_f2 {a b : Lab} (h : ¬ (labRight a ∧ labRight b)) : ¬ labUnder a b := fun q => h ⟨q.1, q.2.1⟩
def lab64 (a : Lab) : Prop := a.cs < 18446744073709551616
end Go.Proofs.YtcnncdniibkjkaaDoor
