/- Contracts of package ring, its reference and its laws, walked over the given program; no condition but what stands in each: part A. -/
import Derived.WalkKit
import Derived.LaidEql
import Derived.Stop.Asserts
import Derived.RowKitTokens
import Derived.Test.YtjcjbdhkajiaeaaDoorProg
import Derived.Test.YtjcjbdhkajiaeaaDoorChecked
import Derived.Test.YtjcjbdhkajiaeaaDoorSlM
set_option linter.unusedVariables false
set_option linter.unusedSimpArgs false
set_option maxRecDepth 100000
namespace Go.Proofs.YtjcjbdhkajiaeaaDoor
open Go Go.Sl Go.RowKit Go.Extern.Stop Go.Stop Go.Extern

/-! ### What a ring is -/
/-- What texts take: their bytes, and one each. -/
def takesN : List ByteArray → Nat
  | [] => 0
  | s :: r => s.size + 1 + takesN r
def items (l : List ByteArray) : Prop := ∀ s ∈ l, s.size ≤ 200
instance (l : List ByteArray) : Decidable (items l) := by unfold items; infer_instance
def right (max : Int) (l : List ByteArray) : Prop := (0 ≤ max ∧ max ≤ 2000) ∧ items l ∧ (takesN l : Int) ≤ max
instance (max : Int) (l : List ByteArray) : Decidable (right max l) := by unfold right; infer_instance
theorem takesN_append (a b : List ByteArray) : takesN (a ++ b) = takesN a + takesN b := by
  induction a with
  | nil => simp [takesN]
  | cons s r ih => simp only [List.cons_append, takesN, ih]; omega
theorem takesN_take {l : List ByteArray} {k : Nat} {x : ByteArray} (hx : l[k]? = some x) : takesN (l.take (k + 1)) = takesN (l.take k) + x.size + 1 := by
  rw [List.take_add_one, hx, takesN_append]; simp [takesN]; omega
theorem takesN_le (l : List ByteArray) : ∀ k, takesN (l.take k) ≤ takesN l := by
  induction l with
  | nil => intro k; simp [takesN]
  | cons s r ih =>
    intro k
    cases k with
    | zero => simp [takesN]
    | succ k => simp only [List.take_succ_cons, takesN]; have := ih k; omega
theorem takesN_items {l : List ByteArray} (h : items l) : takesN l ≤ l.length * 201 := by
  induction l with
  | nil => simp [takesN]
  | cons s r ih =>
    have h1 := h s (by simp)
    have h2 := ih (fun t ht => h t (by simp [ht]))
    simp only [takesN, List.length_cons]; omega
theorem items_step {l : List ByteArray} {k : Nat} {x : ByteArray} (h : items (l.take k)) (hx : l[k]? = some x) (hs : x.size ≤ 200) : items (l.take (k + 1)) := by
  rw [List.take_add_one, hx]
  intro s hm
  rcases List.mem_append.1 hm with h' | h'
  · exact h s h'
  · have : s = x := by simpa using h'
    rw [this]; exact hs
/-- Some put in, one by one, as long as each is an item and there is room: the list, and how many. -/
def addF (max : Int) : List ByteArray → List ByteArray → List ByteArray × Nat
  | l, [] => (l, 0)
  | l, s :: r => if s.size ≤ 200 ∧ ((takesN l : Int) + s.size + 1 ≤ max) then ((addF max (l ++ [s]) r).1, (addF max (l ++ [s]) r).2 + 1) else (l, 0)
def putF (max : Int) (l : List ByteArray) (s : ByteArray) : Int × List ByteArray × Int :=
  if right max l ∧ s.size ≤ 200 then (if (takesN l : Int) + s.size + 1 ≤ max then (max, l ++ [s], 0) else (0, [], 80)) else (0, [], 2)
def takeF (max : Int) (l : List ByteArray) : ByteArray × Int × List ByteArray × Int :=
  if right max l then (match l with | [] => (⟨#[]⟩, 0, [], 81) | s :: r => (s, max, r, 0)) else (⟨#[]⟩, 0, [], 2)
def allF (max : Int) (l r : List ByteArray) : Int × List ByteArray × Nat × Int :=
  if right max l then (max, (addF max l r).1, (addF max l r).2, 0) else (0, [], 0, 2)
theorem right_add {max : Int} {l : List ByteArray} {s : ByteArray} (h : right max l) (h1 : s.size ≤ 200) (h2 : (takesN l : Int) + s.size + 1 ≤ max) : right max (l ++ [s]) := by
  refine ⟨h.1, ?_, ?_⟩
  · intro t ht
    rcases List.mem_append.1 ht with h' | h'
    · exact h.2.1 t h'
    · have : t = s := by simpa using h'
      rw [this]; exact h1
  · rw [takesN_append]; simp only [takesN]; omega
theorem takesN_length (l : List ByteArray) : l.length ≤ takesN l := by
  induction l with
  | nil => simp
  | cons s r ih => simp only [List.length_cons, takesN]; omega
theorem right_len {max : Int} {l : List ByteArray} (h : right max l) : l.length ≤ 2000 ∧ takesN l ≤ 2000 := by
  have := takesN_length l
  have := h.1
  have := h.2.2
  omega
theorem addF_step {max : Int} {l0 l r : List ByteArray} {k : Nat} {s : ByteArray} (h : addF max l0 r = ((addF max l (r.drop k)).1, k + (addF max l (r.drop k)).2)) (hx : r[k]? = some s) (h1 : s.size ≤ 200) (h2 : (takesN l : Int) + s.size + 1 ≤ max) :
    addF max l0 r = ((addF max (l ++ [s]) (r.drop (k + 1))).1, (k + 1) + (addF max (l ++ [s]) (r.drop (k + 1))).2) := by
  obtain ⟨hk, he⟩ := List.getElem?_eq_some_iff.1 hx
  rw [h, List.drop_eq_getElem_cons hk, he, addF, if_pos ⟨h1, h2⟩]
  simp; omega
theorem addF_stop {max : Int} {l0 l r : List ByteArray} {k : Nat} {s : ByteArray} (h : addF max l0 r = ((addF max l (r.drop k)).1, k + (addF max l (r.drop k)).2)) (hx : r[k]? = some s) (h1 : ¬ (s.size ≤ 200 ∧ (takesN l : Int) + s.size + 1 ≤ max)) : addF max l0 r = (l, k) := by
  obtain ⟨hk, he⟩ := List.getElem?_eq_some_iff.1 hx
  rw [h, List.drop_eq_getElem_cons hk, he, addF, if_neg h1]
  simp
theorem addF_end {max : Int} {l0 l r : List ByteArray} {k : Nat} (h : addF max l0 r = ((addF max l (r.drop k)).1, k + (addF max l (r.drop k)).2)) (hk : r.length ≤ k) : addF max l0 r = (l, k) := by
  rw [h, List.drop_eq_nil_of_le hk]; simp [addF]
/-- Short texts, few of them: what keeps all sums in bounds. -/
def small (l : List ByteArray) : Prop := l.length ≤ 1000000 ∧ ∀ s ∈ l, s.size ≤ 1000000
theorem small_takes {l : List ByteArray} (h : small l) : takesN l ≤ 1000001000000 := by
  obtain ⟨h1, h2⟩ := h
  have : takesN l ≤ l.length * 1000001 := by
    clear h1
    induction l with
    | nil => simp [takesN]
    | cons s r ih =>
      have a := h2 s (by simp)
      have b := ih (fun t ht => h2 t (by simp [ht]))
      simp only [takesN, List.length_cons]; omega
  omega
theorem small_at {l : List ByteArray} (h : small l) {k : Nat} {x : ByteArray} (hx : l[k]? = some x) : x.size ≤ 1000000 := h.2 x (List.mem_of_getElem? hx)
theorem eq_step {a b : List ByteArray} {k : Nat} {x y : ByteArray} (h : a.take k = b.take k) (hx : a[k]? = some x) (hy : b[k]? = some y) (he : x = y) : a.take (k + 1) = b.take (k + 1) := by
  rw [List.take_add_one, List.take_add_one, h, hx, hy, he]
theorem eq_end {a b : List ByteArray} {k : Nat} (h : a.take k = b.take k) (ha : a.length ≤ k) (hb : b.length ≤ k) : a = b := by
  rwa [List.take_of_length_le ha, List.take_of_length_le hb] at h
theorem eq_not {a b : List ByteArray} {k : Nat} {x y : ByteArray} (hx : a[k]? = some x) (hy : b[k]? = some y) (he : ¬ x = y) : ¬ a = b := fun h => by
  rw [h, hy] at hx; exact he (Option.some.inj hx).symm
theorem putF_no2 {max : Int} {l : List ByteArray} {s : ByteArray} (h : (s.size : Int) > 200) : putF max l s = (0, [], 2) := by unfold putF; rw [if_neg (fun hh => by have := hh.2; omega)]
theorem putF_fit {max : Int} {l : List ByteArray} {s : ByteArray} (hr : right max l) (h : ¬ (s.size : Int) > 200) (h2 : ¬ ((takesN l : Int) + (s.size : Int)) + 1 > max) : putF max l s = (max, l ++ [s], 0) := by unfold putF; rw [if_pos ⟨hr, by omega⟩, if_pos (by omega)]
theorem putF_room {max : Int} {l : List ByteArray} {s : ByteArray} (hr : right max l) (h : ¬ (s.size : Int) > 200) (h2 : ((takesN l : Int) + (s.size : Int)) + 1 > max) : putF max l s = (0, [], 80) := by unfold putF; rw [if_pos ⟨hr, by omega⟩, if_neg (by omega)]
theorem putF_0 {max : Int} {l : List ByteArray} {s : ByteArray} (hr : right max l) (h : (putF max l s).2.2 = 0) : (s.size ≤ 200 ∧ (takesN l : Int) + s.size + 1 ≤ max) ∧ putF max l s = (max, l ++ [s], 0) := by
  unfold putF at *
  split at h
  · rename_i h1
    split at h
    · rename_i h2; exact ⟨⟨h1.2, h2⟩, by rw [if_pos h1, if_pos h2]⟩
    · cases h
  · cases h
theorem putF_n0 {max : Int} {l : List ByteArray} {s : ByteArray} (hr : right max l) (h : ¬ (putF max l s).2.2 = 0) : ¬ (s.size ≤ 200 ∧ (takesN l : Int) + s.size + 1 ≤ max) := fun hh => h (by unfold putF; rw [if_pos ⟨hr, hh.1⟩, if_pos hh.2])
theorem putF_ok {max : Int} {l l1 : List ByteArray} {n : Nat} {s : ByteArray} (hr : right max l) (ha : addF max l [s] = (l1, n)) (hn : n = [s].length) : putF max l s = (max, l1, 0) := by
  unfold addF at ha
  split at ha
  · rename_i h
    simp only [addF, Prod.mk.injEq] at ha
    unfold putF
    rw [if_pos ⟨hr, h.1⟩, if_pos h.2, ← ha.1]
  · simp only [Prod.mk.injEq] at ha
    have := ha.2; simp at hn; omega
theorem putF_no {max : Int} {l : List ByteArray} {s : ByteArray} (hr : ¬ right max l) : putF max l s = (0, [], 2) := by unfold putF; rw [if_neg (fun h => hr h.1)]
theorem at_one {s t : ByteArray} {n : Nat} (h : [s][n]? = some t) : n = 0 ∧ s = t := by
  obtain ⟨hk, he⟩ := List.getElem?_eq_some_iff.1 h
  have : n = 0 := by simpa using hk
  subst this; exact ⟨rfl, by simpa using he⟩
theorem putF_long {max : Int} {l l1 : List ByteArray} {n : Nat} {s : ByteArray} (ha : addF max l [s] = (l1, n)) (hn : ∃ t, [s][n]? = some t ∧ 200 < t.size) : putF max l s = (0, [], 2) := by
  obtain ⟨t, h1, h2⟩ := hn
  obtain ⟨_, rfl⟩ := at_one h1
  unfold putF; rw [if_neg (fun h => by have := h.2; omega)]
theorem putF_full {max : Int} {l l1 : List ByteArray} {n : Nat} {s : ByteArray} (hr : right max l) (ha : addF max l [s] = (l1, n)) (hn : ∃ t, [s][n]? = some t ∧ t.size ≤ 200 ∧ max < (takesN l1 : Int) + t.size + 1) : putF max l s = (0, [], 80) := by
  obtain ⟨t, h1, h2, h3⟩ := hn
  obtain ⟨rfl, rfl⟩ := at_one h1
  unfold addF at ha
  split at ha
  · simp at ha
  · rename_i hc
    simp only [Prod.mk.injEq] at ha
    obtain ⟨rfl, _⟩ := ha
    unfold putF
    rw [if_pos ⟨hr, h2⟩, if_neg (by omega)]
theorem takeF_no {max : Int} {l : List ByteArray} (hr : ¬ right max l) : takeF max l = (⟨#[]⟩, 0, [], 2) := by unfold takeF; rw [if_neg hr]
theorem takeF_nil {max : Int} {l : List ByteArray} (hr : right max l) (hl : l.length = 0) : takeF max l = (⟨#[]⟩, 0, [], 81) := by
  obtain rfl := List.eq_nil_of_length_eq_zero hl
  unfold takeF; rw [if_pos hr]
theorem takeF_ok {max : Int} {l : List ByteArray} {s : ByteArray} (hr : right max l) (hx : l[0]? = some s) : takeF max l = (s, max, l.drop 1, 0) := by
  cases l with
  | nil => simp at hx
  | cons t r => simp at hx; subst hx; unfold takeF; rw [if_pos hr]; rfl
theorem allF_no {max : Int} {l r : List ByteArray} (hr : ¬ right max l) : allF max l r = (0, [], 0, 2) := by unfold allF; rw [if_neg hr]
theorem allF_ok {max : Int} {l r l1 : List ByteArray} {n : Nat} (hr : right max l) (ha : addF max l r = (l1, n)) : allF max l r = (max, l1, n, 0) := by unfold allF; rw [if_pos hr, ha]
def usedF (max : Int) (l : List ByteArray) : Nat := if right max l then takesN l else 0
theorem usedF_le (max : Int) (l : List ByteArray) : usedF max l ≤ 2000 := by
  unfold usedF; split
  · rename_i h; exact (right_len h).2
  · omega
theorem putF_cases (max : Int) (l : List ByteArray) (s : ByteArray) : (¬ right max l ∧ putF max l s = (0, [], 2)) ∨ (right max l ∧ 200 < s.size ∧ putF max l s = (0, [], 2)) ∨
    (right max l ∧ s.size ≤ 200 ∧ (usedF max l : Int) + s.size + 1 ≤ max ∧ putF max l s = (max, l ++ [s], 0) ∧ usedF max (l ++ [s]) = usedF max l + s.size + 1 ∧ right max (l ++ [s])) ∨
    (right max l ∧ s.size ≤ 200 ∧ ¬ ((usedF max l : Int) + s.size + 1 ≤ max) ∧ putF max l s = (0, [], 80)) := by
  by_cases h1 : right max l
  · have hu : usedF max l = takesN l := if_pos h1
    by_cases h2 : s.size ≤ 200
    · by_cases h3 : (usedF max l : Int) + s.size + 1 ≤ max
      · rw [hu] at h3
        have hr := right_add h1 h2 h3
        refine .inr (.inr (.inl ⟨h1, h2, by rw [hu]; exact h3, ?_, ?_, hr⟩))
        · unfold putF; rw [if_pos ⟨h1, h2⟩, if_pos h3]
        · have : usedF max (l ++ [s]) = takesN (l ++ [s]) := if_pos hr
          rw [this, takesN_append, hu]; simp only [takesN]; omega
      · refine .inr (.inr (.inr ⟨h1, h2, h3, ?_⟩))
        rw [hu] at h3
        unfold putF; rw [if_pos ⟨h1, h2⟩, if_neg h3]
    · exact .inr (.inl ⟨h1, by omega, by unfold putF; rw [if_neg (fun hh => h2 hh.2)]⟩)
  · exact .inl ⟨h1, putF_no h1⟩
theorem small_right {max : Int} {l : List ByteArray} (h : right max l) : small l := by
  obtain ⟨h1, h2⟩ := right_len h
  exact ⟨by omega, fun s hs => by have := h.2.1 s hs; omega⟩
theorem small_one {s : ByteArray} (h : s.size ≤ 1000000) : small [s] := ⟨by simp, fun t ht => by have : t = s := (by simpa using ht); rw [this]; exact h⟩
theorem small_nil : small [] := ⟨by simp, fun s hs => by cases hs⟩
theorem small_drop {l : List ByteArray} {k : Nat} (h : small l) : small (l.drop k) := ⟨by have := h.1; simp; omega, fun s hs => h.2 s (List.mem_of_mem_drop hs)⟩
theorem right_put {max : Int} {l : List ByteArray} {s : ByteArray} (h : (putF max l s).2.2 = 0) : right (putF max l s).1 (putF max l s).2.1 := by
  unfold putF at *
  split at h
  · rename_i hr
    split at h
    · rename_i h2
      rw [if_pos hr, if_pos h2]; exact right_add hr.1 hr.2 h2
    · cases h
  · cases h
theorem small_put (max : Int) (l : List ByteArray) (s : ByteArray) : small (putF max l s).2.1 := by
  by_cases h : (putF max l s).2.2 = 0
  · exact small_right (right_put h)
  · unfold putF at *
    split
    · rename_i hr
      rw [if_pos hr] at h
      split
      · rename_i h2; rw [if_pos h2] at h; exact absurd rfl h
      · exact small_nil
    · exact small_nil
theorem right_drop {max : Int} {s : ByteArray} {r : List ByteArray} (h : right max (s :: r)) : right max r :=
  ⟨h.1, fun t ht => h.2.1 t (by simp [ht]), by have := h.2.2; simp only [takesN] at this; omega⟩
theorem small_take (max : Int) (l : List ByteArray) : small (takeF max l).2.2.1 := by
  unfold takeF
  split
  · rename_i h
    cases l with
    | nil => exact small_nil
    | cons s r => exact small_right (right_drop h)
  · exact small_nil
theorem right_addF {max : Int} : ∀ {r l : List ByteArray}, right max l → right max (addF max l r).1
  | [], l, h => h
  | s :: r, l, h => by
    unfold addF
    split
    · rename_i hc; exact right_addF (right_add h hc.1 hc.2)
    · exact h
theorem small_all (max : Int) (l r : List ByteArray) : small (allF max l r).2.1 := by
  unfold allF
  split
  · rename_i h; exact small_right (right_addF h)
  · exact small_nil
end Go.Proofs.YtjcjbdhkajiaeaaDoor
