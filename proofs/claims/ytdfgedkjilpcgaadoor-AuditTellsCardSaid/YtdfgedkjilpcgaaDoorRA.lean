/- The six laws of chapter 18 (audit), walked over the given program; no condition but what stands in each theorem: part A. -/
import Derived.WalkKit
import Derived.LaidEql
import Derived.Stop.Asserts
import Derived.RowKitTokens
import Derived.Shelf.Strings.OnBuilder
import Derived.Test.YtdfgedkjilpcgaaDoorProg
import Derived.Test.YtdfgedkjilpcgaaDoorChecked
import Derived.Test.YtdfgedkjilpcgaaDoorSlX
set_option linter.unusedVariables false
set_option linter.unusedSimpArgs false
set_option maxRecDepth 100000
set_option maxHeartbeats 8000000
namespace Go.Proofs.YtdfgedkjilpcgaaDoor
open Go Go.Sl Go.RowKit Go.Extern.Stop Go.Stop Go.Extern Go.Shelf
structure Lab where
  lv : Int
  cs : Nat
  ig : Int
deriving DecidableEq
def labTy : Ty Lab := ⟨3, fun x => [.int .i64 x.lv, .int .u64 (x.cs : Int), .int .i64 x.ig], fun _ => rfl, fun _ => rfl⟩
structure Rec where
  st : Int
  who : Int
  op : Int
  e : Int
  lab : Lab
deriving DecidableEq
def recTy : Ty Rec := ⟨7, fun x => [.int .i64 x.st, .int .i64 x.who, .int .i64 x.op, .int .i64 x.e, .int .i64 x.lab.lv, .int .u64 (x.lab.cs : Int), .int .i64 x.lab.ig], fun _ => rfl, fun _ => rfl⟩

/-! ### Labels -/
def labRight (a : Lab) : Prop := 0 ≤ a.lv ∧ a.lv ≤ 15 ∧ 0 ≤ a.ig ∧ a.ig ≤ 7
instance (a : Lab) : Decidable (labRight a) := by unfold labRight; infer_instance
def hasN (s : Nat) (i : Nat) : Prop := s / 2 ^ i % 2 = 1
instance (s i : Nat) : Decidable (hasN s i) := by unfold hasN; infer_instance
/-- Categories in others. -/
def subN (a b : Nat) : Prop := andNotN a b = 0
instance (a b : Nat) : Decidable (subN a b) := by unfold subN; infer_instance
def labUnder (a b : Lab) : Prop := labRight a ∧ labRight b ∧ a.lv ≤ b.lv ∧ b.ig ≤ a.ig ∧ subN a.cs b.cs
instance (a b : Lab) : Decidable (labUnder a b) := by unfold labUnder; infer_instance
theorem subN_self (a : Nat) : subN a a := by
  unfold subN andNotN
  have : BitVec.ofNat 64 a &&& ~~~ BitVec.ofNat 64 a = 0#64 := by
    apply BitVec.eq_of_getLsbD_eq
    intro i hi
    simp [hi]
  rw [this]; rfl
theorem hasN_bit (s i : Nat) : hasN s i ↔ s.testBit i = true := by
  unfold hasN
  rw [Nat.testBit_eq_decide_div_mod_eq]
  simp
theorem subN_iff {a b : Nat} : subN a b ↔ ∀ i, i < 64 → hasN a i → hasN b i := by
  unfold subN andNotN
  constructor
  · intro h i hi ha
    rw [hasN_bit] at *
    have h1 : (BitVec.ofNat 64 a &&& ~~~ BitVec.ofNat 64 b) = 0#64 := BitVec.eq_of_toNat_eq (by rw [h]; rfl)
    have h2 : (BitVec.ofNat 64 a &&& ~~~ BitVec.ofNat 64 b).getLsbD i = false := by rw [h1]; simp only [BitVec.getLsbD_zero]
    rw [BitVec.getLsbD_and, BitVec.getLsbD_not, BitVec.getLsbD_ofNat, BitVec.getLsbD_ofNat] at h2
    simpa only [hi, ha, decide_true, Bool.true_and, Bool.not_eq_false'] using h2
  · intro h
    have h1 : (BitVec.ofNat 64 a &&& ~~~ BitVec.ofNat 64 b) = 0#64 := by
      apply BitVec.eq_of_getLsbD_eq
      intro i hi
      have := h i hi
      rw [hasN_bit, hasN_bit] at this
      simp only [BitVec.getLsbD_and, BitVec.getLsbD_not, BitVec.getLsbD_ofNat, hi, decide_true, Bool.true_and, BitVec.getLsbD_zero]
      cases ha : a.testBit i <;> simp_all
    rw [h1]; rfl
theorem labUnder_self {a : Lab} (h : labRight a) : labUnder a a := ⟨h, h, Int.le_refl _, Int.le_refl _, subN_self _⟩
theorem under_or {a b : Lab} (h1 : labRight a) (h2 : labRight b) : labUnder a b ↔ (a = b ∨ (a.lv ≤ b.lv ∧ b.ig ≤ a.ig ∧ subN a.cs b.cs)) := by
  constructor
  · intro h; exact .inr h.2.2
  · rintro (rfl | h)
    · exact labUnder_self h1
    · exact ⟨h1, h2, h⟩
theorem under_t1 {a b : Lab} (h : labRight a ∧ labRight b) (e : a = b) : labUnder a b := (under_or h.1 h.2).2 (.inl e)
theorem under_t2 {a b : Lab} (h : labRight a ∧ labRight b) (e : a.lv ≤ b.lv ∧ b.ig ≤ a.ig ∧ subN a.cs b.cs) : labUnder a b := (under_or h.1 h.2).2 (.inr e)
theorem under_f1 {a b : Lab} (h : labRight a ∧ labRight b) (n : ¬ a = b) (m : ¬ (a.lv ≤ b.lv ∧ b.ig ≤ a.ig ∧ subN a.cs b.cs)) : ¬ labUnder a b := fun q => ((under_or h.1 h.2).1 q).elim n m
theorem under_f2 {a b : Lab} (h : ¬ (labRight a ∧ labRight b)) : ¬ labUnder a b := fun q => h ⟨q.1, q.2.1⟩
def lab64 (a : Lab) : Prop := a.cs < 18446744073709551616

/-! ### Digits -/
/-- A number's digits, the last one first. -/
def rdig (n : Nat) : List UInt8 := if n < 10 then [u8of (48 + ((n % 10 : Nat) : Int))] else u8of (48 + ((n % 10 : Nat) : Int)) :: rdig (n / 10)
termination_by n
decreasing_by omega
theorem rdig_lt {n : Nat} (h : n < 10) : rdig n = [u8of (48 + ((n % 10 : Nat) : Int))] := by rw [rdig, if_pos h]
theorem rdig_ge {n : Nat} (h : ¬ n < 10) : rdig n = u8of (48 + ((n % 10 : Nat) : Int)) :: rdig (n / 10) := by rw [rdig, if_neg h]
theorem rdig_head (n : Nat) : (rdig n)[0]? = some (u8of (48 + ((n % 10 : Nat) : Int))) := by
  by_cases h : n < 10
  · rw [rdig_lt h]; rfl
  · rw [rdig_ge h]; rfl
theorem rdig_len {k : Nat} : ∀ {n : Nat}, n < 10 ^ (k + 1) → (rdig n).length ≤ k + 1 := by
  induction k with
  | zero => intro n h; rw [rdig_lt (by simpa using h)]; simp
  | succ k ih =>
    intro n h
    by_cases h1 : n < 10
    · rw [rdig_lt h1]; simp
    · rw [rdig_ge h1]
      have : n / 10 < 10 ^ (k + 1) := by rw [Nat.div_lt_iff_lt_mul (by omega)]; rw [Nat.pow_succ] at h; exact h
      have := ih this
      simp only [List.length_cons]; omega
/-- A number's text. -/
def digF (z : Int) : ByteArray := if z < 0 then ⟨#[]⟩ else ⟨(rdig z.toNat).reverse.toArray⟩
theorem digF_size {z : Int} (h : z ≤ 9223372036854775807) : (digF z).size ≤ 19 := by
  unfold digF
  split
  · decide
  · have := rdig_len (k := 18) (n := z.toNat) (by omega)
    show (rdig z.toNat).reverse.toArray.size ≤ 19
    simpa using this
theorem dig_at {l : List UInt8} {k : Nat} {z : Int} (h0 : 0 ≤ z) (hm : l.drop k = rdig z.toNat) : l[k]? = some (u8of (48 + z % 10)) := by
  have h1 := rdig_head z.toNat
  rw [← hm, List.getElem?_drop, Nat.add_zero] at h1
  rw [h1, show ((z.toNat % 10 : Nat) : Int) = z % 10 by omega]
theorem dig_next {l : List UInt8} {k : Nat} {z : Int} (h0 : 0 ≤ z) (hm : l.drop k = rdig z.toNat) (hz : ¬ z / 10 = 0) : l.drop (k + 1) = rdig (z / 10).toNat := by
  have h1 := rdig_ge (n := z.toNat) (by omega)
  have h2 : (l.drop k).drop 1 = rdig (z.toNat / 10) := by rw [hm, h1]; rfl
  rw [List.drop_drop] at h2
  rw [h2, show z.toNat / 10 = (z / 10).toNat by omega]
theorem dig_last {l : List UInt8} {k : Nat} {z : Int} (h0 : 0 ≤ z) (hm : l.drop k = rdig z.toNat) (hz : z / 10 = 0) : l.length = k + 1 := by
  have h1 := rdig_lt (n := z.toNat) (by omega)
  have h2 := congrArg List.length (hm.trans h1)
  simp at h2; omega
theorem dig_lt {l : List UInt8} {k : Nat} {z : Int} (hm : l.drop k = rdig z.toNat) : k < l.length := by
  have h1 := rdig_head z.toNat
  rw [← hm, List.getElem?_drop, Nat.add_zero] at h1
  exact (List.getElem?_eq_some_iff.1 h1).1
theorem bytes_ext {a b : ByteArray} (h : a.data.toList = b.data.toList) : a = b := by
  obtain ⟨⟨x⟩⟩ := a
  obtain ⟨⟨y⟩⟩ := b
  simp at h; subst h; rfl
theorem bytes_cat (a b : ByteArray) : (a ++ b).data.toList = a.data.toList ++ b.data.toList := by simp
theorem dig_pre {l : List UInt8} {k : Nat} {y : UInt8} {o : ByteArray} (hy : l[k]? = some y) (ho : o = ⟨(l.take k).reverse.toArray⟩) : (⟨List.toArray [y]⟩ : ByteArray) ++ o = ⟨(l.take (k + 1)).reverse.toArray⟩ := by
  subst ho
  apply bytes_ext
  rw [bytes_cat, List.take_add_one, hy]
  simp
theorem dig_small {z : Int} (hz : z ≤ 9223372036854775807) {o : ByteArray} {k : Nat} (ho : o = ⟨((rdig z.toNat).take k).reverse.toArray⟩) (y : UInt8) : (⟨List.toArray [y]⟩ : ByteArray).size + o.size ≤ 9223372036854775807 := by
  have := rdig_len (k := 18) (n := z.toNat) (by omega)
  subst ho
  show 1 + (((rdig z.toNat).take k).reverse.toArray).size ≤ _
  simp; omega
theorem digF_end {z : Int} {o : ByteArray} (h : ¬ z < 0) (ho : o = ⟨((rdig z.toNat).take (rdig z.toNat).length).reverse.toArray⟩) : o = digF z := by
  unfold digF; rw [if_neg h, ho, List.take_length]
theorem digF_rec {z : Int} (h : ¬ z < 10) : digF (z / 10) ++ digF (z % 10) = digF z := by
  have h1 := rdig_ge (n := z.toNat) (by omega)
  have h2 := rdig_lt (n := (z % 10).toNat) (by omega)
  unfold digF
  rw [if_neg (by omega), if_neg (by omega), if_neg (by omega), h1, h2]
  apply bytes_ext
  rw [bytes_cat]
  simp only [List.reverse_cons, List.reverse_nil, List.nil_append]
  rw [show (z / 10).toNat = z.toNat / 10 by omega, show (z % 10).toNat % 10 = z.toNat % 10 by omega]
theorem digF_one {z : Int} (h0 : ¬ z < 0) (h : z < 10) : digF z = ⟨List.toArray [u8of (48 + z)]⟩ := by
  unfold digF
  rw [if_neg h0, rdig_lt (by omega), show ((z.toNat % 10 : Nat) : Int) = z by omega]
  rfl

def recRight (x : Rec) : Prop := 1 ≤ x.st ∧ x.st ≤ 400 ∧ 0 ≤ x.who ∧ x.who < 8 ∧ 0 ≤ x.op ∧ x.op ≤ 16 ∧ 0 ≤ x.e ∧ x.e ≤ 65535 ∧ labRight x.lab
instance (x : Rec) : Decidable (recRight x) := by unfold recRight; infer_instance
/-- A log: its steps rise. -/
def logFrom : Int → List Rec → Prop
  | _, [] => True
  | last, x :: r => recRight x ∧ last < x.st ∧ logFrom x.st r
instance logFromDec : (last : Int) → (l : List Rec) → Decidable (logFrom last l)
  | _, [] => isTrue trivial
  | last, x :: r => @instDecidableAnd _ _ _ (@instDecidableAnd _ _ _ (logFromDec x.st r))
def logRight (l : List Rec) : Prop := logFrom 0 l
instance (l : List Rec) : Decidable (logRight l) := by unfold logRight; infer_instance
theorem logFrom_at {last : Int} {l : List Rec} {k : Nat} {x : Rec} (hx : l[k]? = some x) : logFrom last (l.drop k) ↔ recRight x ∧ last < x.st ∧ logFrom x.st (l.drop (k + 1)) := by
  obtain ⟨hk, he⟩ := List.getElem?_eq_some_iff.1 hx
  rw [List.drop_eq_getElem_cons hk, he]
  exact Iff.rfl
def lastOf (l : List Rec) : Nat → Int
  | 0 => 0
  | k + 1 => (l[k]?.map (·.st)).getD 0
theorem rstep {l : List Rec} {k : Nat} {x : Rec} (hF : logRight l ↔ logFrom (lastOf l k) (l.drop k)) (hx : l[k]? = some x) (h1 : recRight x) (h2 : lastOf l k < x.st) : logRight l ↔ logFrom (lastOf l (k + 1)) (l.drop (k + 1)) := by
  have : lastOf l (k + 1) = x.st := by show (l[k]?.map (·.st)).getD 0 = x.st; rw [hx]; rfl
  rw [this]
  exact hF.trans ((logFrom_at hx).trans ⟨fun q => q.2.2, fun q => ⟨h1, h2, q⟩⟩)
theorem lastOf_at {l : List Rec} {k : Nat} {x : Rec} (hx : l[k]? = some x) : lastOf l (k + 1) = x.st := by show (l[k]?.map (·.st)).getD 0 = x.st; rw [hx]; rfl
theorem rlast0 {l : List Rec} {k : Nat} {x : Rec} (h : ¬ (k : Int) > 0) (hr : recRight x) : lastOf l k < x.st := by
  have : k = 0 := by omega
  subst this
  have := hr.1
  show (0 : Int) < x.st
  omega
theorem rlast1 {l : List Rec} {k : Nat} {x y : Rec} (h : (k : Int) > 0) (hy : l[((k : Int) - 1).toNat]? = some y) (hl : ¬ y.st ≥ x.st) : lastOf l k < x.st := by
  obtain ⟨j, rfl⟩ : ∃ j, k = j + 1 := ⟨k - 1, by omega⟩
  have e : (((j + 1 : Nat) : Int) - 1).toNat = j := by omega
  rw [e] at hy
  rw [lastOf_at hy]; omega
theorem rlast2 {l : List Rec} {k : Nat} {x y : Rec} (h : (k : Int) > 0) (hy : l[((k : Int) - 1).toNat]? = some y) (hl : y.st ≥ x.st) : ¬ lastOf l k < x.st := by
  obtain ⟨j, rfl⟩ : ∃ j, k = j + 1 := ⟨k - 1, by omega⟩
  have e : (((j + 1 : Nat) : Int) - 1).toNat = j := by omega
  rw [e] at hy
  rw [lastOf_at hy]; omega
theorem eq_step {α : Type} {a b : List α} {k : Nat} {x y : α} (h : a.take k = b.take k) (hx : a[k]? = some x) (hy : b[k]? = some y) (he : x = y) : a.take (k + 1) = b.take (k + 1) := by
  rw [List.take_add_one, List.take_add_one, h, hx, hy, he]
theorem eq_end {α : Type} {a b : List α} {k : Nat} (h : a.take k = b.take k) (ha : a.length ≤ k) (hb : b.length ≤ k) : a = b := by
  rwa [List.take_of_length_le ha, List.take_of_length_le hb] at h
theorem eq_not {α : Type} {a b : List α} {k : Nat} {x y : α} (hx : a[k]? = some x) (hy : b[k]? = some y) (he : ¬ x = y) : ¬ a = b := fun h => by
  rw [h, hy] at hx; exact he (Option.some.inj hx).symm
theorem eq_len {α : Type} {a b : List α} (h : ¬ (a.length : Int) = (b.length : Int)) : ¬ a = b := fun e => by subst e; exact h rfl
def sp1 : ByteArray := ⟨#[32]⟩
def recSm (x : Rec) : Prop := x.st ≤ 9223372036854775807 ∧ x.who ≤ 9223372036854775807 ∧ x.op ≤ 9223372036854775807 ∧ x.e ≤ 9223372036854775807 ∧ x.lab.cs < 18446744073709551616
def lineF (x : Rec) : ByteArray := digF x.st ++ sp1 ++ digF x.who ++ sp1 ++ digF x.op ++ sp1 ++ digF x.e
def lastTen (l : List ByteArray) : List ByteArray := l.drop (l.length - 10)
def atL (a : Lab) (l : List Rec) : List Rec := l.filter fun x => decide (x.lab = a)
def shownF (l : List Rec) (a : Lab) : List ByteArray := lastTen ((atL a l).map lineF)
def seenF (a : Lab) (l : List Rec) : List Rec := l.filter fun x => decide (labUnder x.lab a)
def countF (l : List Rec) (who : Int) : Nat := (l.filter fun x => decide (x.who = who)).length
theorem filt_step {α : Type} {p : α → Bool} {l : List α} {k : Nat} {x : α} (hx : l[k]? = some x) : (l.take (k + 1)).filter p = (l.take k).filter p ++ (if p x then [x] else []) := by
  rw [List.take_add_one, hx, List.filter_append]
  simp [List.filter_cons]
theorem filt_t {α : Type} {p : α → Bool} {l : List α} {k : Nat} {x : α} (hx : l[k]? = some x) (hp : p x = true) : (l.take (k + 1)).filter p = (l.take k).filter p ++ [x] := by rw [filt_step hx, if_pos hp]
theorem filt_f {α : Type} {p : α → Bool} {l : List α} {k : Nat} {x : α} (hx : l[k]? = some x) (hp : ¬ p x = true) : (l.take (k + 1)).filter p = (l.take k).filter p := by rw [filt_step hx, if_neg hp, List.append_nil]
theorem filt_len {α : Type} (p : α → Bool) (l : List α) (k : Nat) : ((l.take k).filter p).length ≤ k := by
  have := List.length_filter_le p (l.take k)
  simp at this; omega
theorem filt_at {α : Type} {p : α → Bool} {l : List α} {k : Nat} {x : α} (hx : l[k]? = some x) (hp : p x = true) : (l.filter p)[((l.take k).filter p).length]? = some x := by
  obtain ⟨hk, he⟩ := List.getElem?_eq_some_iff.1 hx
  have h1 : l.filter p = (l.take k).filter p ++ (l.drop k).filter p := by rw [← List.filter_append, List.take_append_drop]
  rw [h1, List.getElem?_append_right (Nat.le_refl _), Nat.sub_self, List.drop_eq_getElem_cons hk, he, List.filter_cons, if_pos hp]
  rfl
theorem at_at {l : List Rec} {k q : Nat} {x : Rec} {a : Lab} (hq : q = ((l.take k).filter fun x => decide (x.lab = a)).length) (hx : l[k]? = some x) (ha : x.lab = a) : (atL a l)[q]? = some x := by
  rw [hq]; exact filt_at (p := fun x => decide (x.lab = a)) hx (by simpa using ha)
theorem at_lt {l : List Rec} {k q : Nat} {x : Rec} {a : Lab} (hq : q = ((l.take k).filter fun x => decide (x.lab = a)).length) (hx : l[k]? = some x) (ha : x.lab = a) : q < (atL a l).length := (List.getElem?_eq_some_iff.1 (at_at hq hx ha)).1
theorem at_end {l : List Rec} {k q : Nat} {a : Lab} (hq : q = ((l.take k).filter fun x => decide (x.lab = a)).length) (hk : l.length ≤ k) : (atL a l).length = q := by
  rw [hq, List.take_of_length_le hk]; rfl
theorem shown_step {l : List Rec} {k : Nat} {x : Rec} {o : List ByteArray} (ho : o = (l.take k).map lineF) (hx : l[k]? = some x) : o ++ [lineF x] = (l.take (k + 1)).map lineF := by
  rw [ho, List.take_add_one, hx]; simp
theorem rshown_t {l : List Rec} {k : Nat} {x : Rec} {a : Lab} {o : List ByteArray} (ho : o = (atL a (l.take k)).map lineF) (hx : l[k]? = some x) (ha : x.lab = a) : o ++ [lineF x] = (atL a (l.take (k + 1))).map lineF := by
  rw [ho]; unfold atL; rw [filt_t hx (by simpa using ha)]; simp
theorem rshown_f {l : List Rec} {k : Nat} {x : Rec} {a : Lab} {o : List ByteArray} (ho : o = (atL a (l.take k)).map lineF) (hx : l[k]? = some x) (ha : ¬ x.lab = a) : o = (atL a (l.take (k + 1))).map lineF := by
  rw [ho]; unfold atL; rw [filt_f hx (by simpa using ha)]
theorem atL_sub {a : Lab} {l : List Rec} {P : Rec → Prop} (h : ∀ y ∈ l, P y) : ∀ y ∈ atL a l, P y := fun y hy => h y (List.mem_filter.1 hy).1
theorem atL_len (a : Lab) (l : List Rec) : (atL a l).length ≤ l.length := List.length_filter_le _ _
theorem shown_len {l : List Rec} {k : Nat} {a : Lab} {o : List ByteArray} (ho : o = (atL a (l.take k)).map lineF) : o.length ≤ k := by
  have h1 := atL_len a (l.take k)
  rw [ho, List.length_map]; simp at h1; omega
theorem shown_len2 {l : List Rec} {k : Nat} {a : Lab} {o : List ByteArray} (ho : o = ((atL a l).take k).map lineF) : o.length ≤ l.length := by
  have h1 := atL_len a l
  rw [ho, List.length_map, List.length_take]; omega
theorem lastTen_cut {o : List ByteArray} {n : Nat} (hn : n = (max 0 ((o.length : Int) - 10)).toNat) : o.drop n = lastTen o := by
  unfold lastTen; congr 1; omega
theorem all_step {α : Type} {P : α → Prop} {l : List α} {k : Nat} {x : α} (h : ∀ y ∈ l.take k, P y) (hx : l[k]? = some x) (hp : P x) : ∀ y ∈ l.take (k + 1), P y := by
  rw [List.take_add_one, hx]
  intro y hy
  rcases List.mem_append.1 hy with h' | h'
  · exact h y h'
  · have : y = x := by simpa using h'
    rw [this]; exact hp
theorem all_end {α : Type} {P : α → Prop} {l : List α} {k : Nat} (h : ∀ y ∈ l.take k, P y) (hk : l.length ≤ k) : ∀ y ∈ l, P y := by rwa [List.take_of_length_le hk] at h
theorem seen_all {l : List Rec} {a : Lab} (h : ∀ y ∈ l, labUnder y.lab a) : seenF a l = l := List.filter_eq_self.2 (fun y hy => by simpa using h y hy)
theorem seen_init {l : List Rec} {a : Lab} {k : Nat} (h : ∀ y ∈ l.take k, labUnder y.lab a) (hn : ∃ x, l[k]? = some x ∧ ¬ labUnder x.lab a) : l.take k = seenF a (l.take (k + 1)) := by
  obtain ⟨x, hx, hx2⟩ := hn
  unfold seenF
  rw [filt_f hx (by simpa using hx2)]
  exact (seen_all h).symm
theorem seen_at {m l : List Rec} {j : Nat} {x : Rec} (h2 : m.drop j = l.drop j) (hx : m[j]? = some x) : l[j]? = some x := by
  have e : ∀ q : List Rec, q[j]? = (q.drop j)[0]? := fun q => by rw [List.getElem?_drop, Nat.add_zero]
  rw [e, ← h2, ← e]; exact hx
theorem seen_put {m l : List Rec} {a : Lab} {i j : Nat} {x : Rec} (hi : i < m.length) (h1 : m.take i = seenF a (l.take j)) (h2 : m.drop j = l.drop j) (hx : m[j]? = some x) (hu : labUnder x.lab a) : (m.set i x).take (i + 1) = seenF a (l.take (j + 1)) := by
  have e : (m.set i x).take (i + 1) = m.take i ++ [x] := by
    apply List.ext_getElem?
    intro q
    rw [List.getElem?_take, List.getElem?_set]
    by_cases hq : q < i
    · rw [if_pos (by omega), if_neg (by omega), List.getElem?_append_left (by simp; omega), List.getElem?_take, if_pos hq]
    · by_cases hq2 : q = i
      · subst hq2
        rw [if_pos (by omega), if_pos rfl, if_pos hi, List.getElem?_append_right (by simp; omega)]
        simp [show min q m.length = q by omega]
      · rw [if_neg (by omega), List.getElem?_append_right (by simp; omega)]
        simp; omega
  unfold seenF
  rw [e, h1, filt_t (seen_at h2 hx) (by simpa using hu)]
  rfl
theorem seen_skip {m l : List Rec} {a : Lab} {i j : Nat} {x : Rec} (h1 : m.take i = seenF a (l.take j)) (h2 : m.drop j = l.drop j) (hx : m[j]? = some x) (hu : ¬ labUnder x.lab a) : m.take i = seenF a (l.take (j + 1)) := by
  rw [h1]; unfold seenF; rw [filt_f (seen_at h2 hx) (by simpa using hu)]
theorem seen_drop {m l : List Rec} {i j : Nat} {x : Rec} (hij : i < j) (h2 : m.drop j = l.drop j) : (m.set i x).drop (j + 1) = l.drop (j + 1) := by
  rw [List.drop_set_of_lt (by omega), ← List.drop_drop, h2, List.drop_drop]
theorem seen_drop0 {m l : List Rec} {j : Nat} (h2 : m.drop j = l.drop j) : m.drop (j + 1) = l.drop (j + 1) := by
  rw [← List.drop_drop, h2, List.drop_drop]
theorem seen_fin {m l r : List Rec} {a : Lab} {i j : Nat} (hi : i ≤ m.length) (h1 : m.take i = seenF a (l.take j)) (hj : l.length ≤ j) : ((m.take i ++ r).take i).drop 0 = seenF a l := by
  rw [List.drop_zero, List.take_append_of_le_length (by simp; omega), List.take_take, Nat.min_self, h1, List.take_of_length_le hj]
theorem rseen_t {l : List Rec} {k : Nat} {x : Rec} {a : Lab} {o : List Rec} (ho : o = seenF a (l.take k)) (hx : l[k]? = some x) (ha : labUnder x.lab a) : o ++ [x] = seenF a (l.take (k + 1)) := by
  rw [ho]; unfold seenF; rw [filt_t hx (by simpa using ha)]
theorem rseen_f {l : List Rec} {k : Nat} {x : Rec} {a : Lab} {o : List Rec} (ho : o = seenF a (l.take k)) (hx : l[k]? = some x) (ha : ¬ labUnder x.lab a) : o = seenF a (l.take (k + 1)) := by
  rw [ho]; unfold seenF; rw [filt_f hx (by simpa using ha)]
theorem seen_len {a : Lab} {l : List Rec} : (seenF a l).length ≤ l.length := List.length_filter_le _ _
theorem cnt_t {x : Rec} {who : Int} (h : x = ⟨x.st, who, x.op, x.e, x.lab⟩) : x.who = who := by rw [h]
theorem cnt_f {x : Rec} {who : Int} (h : ¬ (x = ⟨x.st, who, x.op, x.e, x.lab⟩)) : ¬ x.who = who := fun e => h (by cases x; simp at e; subst e; rfl)
def appF (l : List Rec) (x : Rec) : List Rec × Int := if logRight (l ++ [x]) then (l ++ [x], 0) else ([], 180)
end Go.Proofs.YtdfgedkjilpcgaaDoor
