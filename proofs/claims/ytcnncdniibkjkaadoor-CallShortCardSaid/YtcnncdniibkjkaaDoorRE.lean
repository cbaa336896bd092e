/- The laws of chapter 17 (call), walked over the given program; no condition but what stands in each theorem: part E. -/
import Derived.Test.YtcnncdniibkjkaaDoorRD
set_option linter.unusedVariables false
set_option linter.unusedSimpArgs false
set_option maxRecDepth 100000
set_option maxHeartbeats 8000000
namespace Go.Proofs.YtcnncdniibkjkaaDoor
open Go Go.Sl Go.RowKit Go.Extern.Stop Go.Stop Go.Extern

theorem isW_rng {w : Int} (h : isW w) : 1 ≤ w ∧ w ≤ 8 := by unfold isW at h; omega
def be : Nat → Nat → List UInt8
  | 0, _ => []
  | w + 1, n => u8of ((n / 2 ^ (8 * w) : Nat) : Int) :: be w n
def beB (w : Int) (n : Nat) : ByteArray := ⟨(be w.toNat n).toArray⟩
theorem be_len : ∀ w n, (be w n).length = w
  | 0, _ => rfl
  | w + 1, n => by show (be w n).length + 1 = w + 1; rw [be_len]
theorem be_get : ∀ {w n i : Nat}, i < w → (be w n)[i]? = some (u8of ((n / 2 ^ (8 * (w - 1 - i)) : Nat) : Int))
  | w + 1, n, 0, _ => rfl
  | w + 1, n, i + 1, h => by
    show (be w n)[i]? = _
    rw [be_get (by omega : i < w), show w + 1 - 1 - (i + 1) = w - 1 - i by omega]
theorem be_at {w : Int} {n k : Nat} (h : (8 : Int) * w - 8 * (k : Int) - 8 ≥ 0) : (be w.toNat n)[k]? = some (u8of ((n / 2 ^ (8 * w - 8 * (k : Int) - 8).toNat : Nat) : Int)) := by
  rw [be_get (by omega), show 8 * (w.toNat - 1 - k) = (8 * w - 8 * (k : Int) - 8).toNat by omega]
theorem beB_size (w : Int) (n : Nat) : (beB w n).size = w.toNat := by
  show (be w.toNat n).toArray.size = _
  simp [be_len]
def numL (l : List UInt8) : Nat := l.foldl (fun n c => 256 * n + c.toNat) 0
theorem numL_snoc (l : List UInt8) (c : UInt8) : numL (l ++ [c]) = 256 * numL l + c.toNat := by simp [numL]
theorem numL_take {l : List UInt8} {k : Nat} {c : UInt8} (h : l[k]? = some c) : numL (l.take (k + 1)) = 256 * numL (l.take k) + c.toNat := by
  rw [List.take_add_one, h]; exact numL_snoc _ _
theorem numL_lt0 : ∀ (l : List UInt8) (a : Nat), l.foldl (fun n c => 256 * n + c.toNat) a < (a + 1) * 256 ^ l.length
  | [], a => by simp
  | c :: l, a => by
    have h := numL_lt0 l (256 * a + c.toNat)
    have hc : c.toNat < 256 := c.toNat_lt
    have h2 : (256 * a + c.toNat + 1) * 256 ^ l.length ≤ (256 * (a + 1)) * 256 ^ l.length := Nat.mul_le_mul_right _ (by omega)
    rw [List.foldl_cons, List.length_cons, Nat.pow_succ, Nat.mul_comm (256 ^ l.length) 256, ← Nat.mul_assoc, Nat.mul_comm (a + 1) 256]
    omega
theorem numL_lt (l : List UInt8) : numL l < 256 ^ l.length := by
  have := numL_lt0 l 0
  unfold numL; omega
theorem pow_le8 {a b : Nat} (h : a ≤ b) : 256 ^ a ≤ 256 ^ b := Nat.pow_le_pow_right (by decide) h
theorem num_small {l : List UInt8} {k : Nat} (h : k ≤ 7) : numL (l.take k) < 72057594037927936 := by
  have h1 := numL_lt (l.take k)
  have h2 : 256 ^ (l.take k).length ≤ 256 ^ 7 := pow_le8 (by rw [List.length_take]; omega)
  omega
theorem num_or {l : List UInt8} {k : Nat} {c : UInt8} (h : l[k]? = some c) (hk : k ≤ 7) : (numL (l.take k) * 2 ^ 8 % 18446744073709551616 ||| c.toNat) = numL (l.take (k + 1)) := by
  have h1 := num_small (l := l) hk
  have h2 : c.toNat < 256 := c.toNat_lt
  have h3 : numL (l.take k) * 2 ^ 8 ||| c.toNat = 2 ^ 8 * numL (l.take k) + c.toNat := by
    rw [Nat.mul_comm]; exact (Nat.two_pow_add_eq_or_of_lt (i := 8) (by omega) _).symm
  rw [Nat.mod_eq_of_lt (by omega), numL_take h, h3]
theorem u8_lt64 (b : UInt8) : b.toNat < 18446744073709551616 := by have : b.toNat < 256 := b.toNat_lt; omega
def takeS (n : Int) (r : ByteArray) (q : Er) : ByteArray × ByteArray × Er := if q = none then (if (r.size : Int) < n then (⟨#[]⟩, r, some (1, r.size)) else (r.extract 0 n.toNat, r.extract n.toNat r.size, none)) else (⟨#[]⟩, r, q)
def badW (w : Int) (r : ByteArray) (q : Er) : Er := if isW w then q else if q = none then some (0, r.size) else q
def numberF (w : Int) (r : ByteArray) (q : Er) : Nat × ByteArray × Er := (numL (takeS w r (badW w r q)).1.data.toList, (takeS w r (badW w r q)).2)
theorem takeS_size (n : Int) (r : ByteArray) (q : Er) : (takeS n r q).1.size ≤ n.toNat := by
  unfold takeS
  split
  · split
    · exact Nat.zero_le _
    · show (r.extract 0 n.toNat).size ≤ _
      rw [ByteArray.size_extract]; omega
  · exact Nat.zero_le _
theorem takeS_rest (n : Int) (r : ByteArray) (q : Er) : (takeS n r q).2.1.size ≤ r.size := by
  unfold takeS
  split
  · split
    · exact Nat.le_refl _
    · show (r.extract n.toNat r.size).size ≤ _
      rw [ByteArray.size_extract]; omega
  · exact Nat.le_refl _
theorem badW_none {w : Int} {r : ByteArray} {q : Er} (h : badW w r q = none) : isW w := by
  unfold badW at h
  split at h
  · assumption
  · split at h
    · cases h
    · contradiction
theorem take_le8 {w : Int} {r : ByteArray} {q : Er} : (takeS w r (badW w r q)).1.size ≤ 8 := by
  by_cases hw : isW w
  · have := takeS_size w r (badW w r q); have := isW_rng hw; omega
  · have : ¬ badW w r q = none := fun h => hw (badW_none h)
    rw [takeS, if_neg this]; exact Nat.zero_le _
theorem number_lt (w : Int) (r : ByteArray) (q : Er) : (numberF w r q).1 < 18446744073709551616 := by
  have h1 := numL_lt (takeS w r (badW w r q)).1.data.toList
  have h2 := take_le8 (w := w) (r := r) (q := q)
  have h3 : 256 ^ (takeS w r (badW w r q)).1.data.toList.length ≤ 256 ^ 8 := pow_le8 (by simpa using h2)
  show numL _ < _
  omega
theorem number_one (r : ByteArray) (q : Er) : (numberF 1 r q).1 < 256 := by
  have h1 := numL_lt (takeS 1 r (badW 1 r q)).1.data.toList
  have h2 := takeS_size 1 r (badW 1 r q)
  have h3 : 256 ^ (takeS 1 r (badW 1 r q)).1.data.toList.length ≤ 256 ^ 1 := pow_le8 (by simpa using h2)
  show numL _ < _
  omega
theorem take_le8s {w : Int} {r : ByteArray} {q : Er} (h : q = none → isW w) : (takeS w r q).1.size ≤ 8 := by
  by_cases hq : q = none
  · have := takeS_size w r q; have := isW_rng (h hq); omega
  · rw [takeS, if_neg hq]; exact Nat.zero_le _
theorem take_le8l {w : Int} {r : ByteArray} {q : Er} (h : q = none → isW w) : (takeS w r q).1.data.toList.length ≤ 8 := take_le8s h
theorem u8_in64 (b : UInt8) : IntKind.u64.wrap (b.toNat : Int) = (b.toNat : Int) := by
  have := u8_lt64 b
  rw [IntKind.wrap_u64]; omega
def endF (r : ByteArray) (q : Er) : ByteArray × Int := if q = none then (r, 0) else (⟨#[]⟩, erN q)
theorem put_fits {w : Int} {n : Nat} (hw : isW w) : ((n / 2 ^ (8 * w - 1).toNat / 2 ^ 1 : Nat) : Int) = 0 ↔ n < 2 ^ (8 * w.toNat) := by
  have := isW_rng hw
  rw [Nat.div_div_eq_div_mul, ← Nat.pow_add, show (8 * w - 1).toNat + 1 = 8 * w.toNat by omega]
  constructor
  · intro h
    have h : n / 2 ^ (8 * w.toNat) = 0 := by omega
    exact (Nat.div_eq_zero_iff_lt (Nat.two_pow_pos _)).1 h
  · intro h
    rw [Nat.div_eq_of_lt h]; rfl
def putF (w : Int) (n : Nat) : ByteArray × Int := if isW w then (if n < 2 ^ (8 * w.toNat) then (beB w n, 0) else (⟨#[]⟩, 31)) else (⟨#[]⟩, 2)
def getF (w : Int) (s : ByteArray) : Nat × ByteArray × Int := if isW w then (if (s.size : Int) < w then (0, ⟨#[]⟩, 30) else (numL (s.data.toList.take w.toNat), s.extract w.toNat s.size, 0)) else (0, ⟨#[]⟩, 2)
end Go.Proofs.YtcnncdniibkjkaaDoor
