/- The laws of chapter 15 (journal), walked over the given program; no condition but what stands in each theorem: part KA. -/
import Derived.Test.YthehnjbdkjnlpaaDoorRJA
set_option linter.unusedVariables false
set_option linter.unusedSimpArgs false
set_option maxRecDepth 100000
set_option maxHeartbeats 8000000
namespace Go.Proofs.YthehnjbdkjnlpaaDoor
open Go Go.Sl Go.RowKit Go.Extern.Stop Go.Stop Go.Extern

def rjOk (rules : List Rul) (l : List Jen) (k : Nat) (x : Jen) : Prop := match findR rules x.ru with
  | none => False
  | some r => (1 ≤ x.st ∧ x.st ≤ 400) ∧ lastSt (l.take k) < x.st ∧ x.to = r.to ∧ passP r.wh x.da ∧ (spentF l x.ru : Int) ≤ r.bu
theorem rj_some {rules : List Rul} {l : List Jen} {k : Nat} {x : Jen} {r : Rul} (h : findR rules x.ru = some r) : rjOk rules l k x ↔ ((1 ≤ x.st ∧ x.st ≤ 400) ∧ lastSt (l.take k) < x.st ∧ x.to = r.to ∧ passP r.wh x.da ∧ (spentF l x.ru : Int) ≤ r.bu) := by unfold rjOk; rw [h]
theorem rj_none {rules : List Rul} {l : List Jen} {k : Nat} {x : Jen} (h : findR rules x.ru = none) : ¬ rjOk rules l k x := by unfold rjOk; rw [h]; exact id
theorem spent_no : ∀ (l : List Jen) (id : Int), (∀ y ∈ l, ¬ y.ru = id) → spentF l id = 0
  | [], _, _ => rfl
  | x :: r, id, h => by
    simp only [spentF, if_neg (h x (by simp)), spent_no r id (fun y hy => h y (by simp [hy]))]
theorem jf_tot {rules : List Rul} : ∀ (t pre : List Jen), jFrom rules pre t → ∀ {id : Int} {r : Rul}, findR rules id = some r → (∃ y ∈ t, y.ru = id) → (spentF (pre ++ t) id : Int) ≤ r.bu
  | [], _, _, _, _, _, h => by obtain ⟨y, hy, _⟩ := h; cases hy
  | x :: t, pre, h, id, r, hf, hex => by
    by_cases h2 : ∃ y ∈ t, y.ru = id
    · have := jf_tot t (pre ++ [x]) h.2 hf h2
      rw [List.append_assoc] at this; exact this
    · have hx : x.ru = id := by
        obtain ⟨y, hy, e⟩ := hex
        rcases List.mem_cons.1 hy with rfl | hy
        · exact e
        · exact absurd ⟨y, hy, e⟩ h2
      subst hx
      have h3 := ((jOk_some hf).1 h.1).2.2.2
      have h4 := spent_no t x.ru (fun y hy e => h2 ⟨y, hy, e⟩)
      rw [spent_app]; simp only [spentF, if_pos trivial, h4]; omega
theorem jf_all {rules : List Rul} {l : List Jen} (h : jFrom rules [] l) : ∀ k, jFrom rules (l.take k) (l.drop k)
  | 0 => by rw [List.take_zero, List.drop_zero]; exact h
  | k + 1 => by
    have ih := jf_all h k
    cases hx : l[k]? with
    | none => exact jFrom_end (by have := List.getElem?_eq_none_iff.1 hx; omega)
    | some x => exact ((jFrom_at hx).1 ih).2
theorem rj_of {rules : List Rul} {l : List Jen} {k : Nat} {x : Jen} (h : jFrom rules [] l) (hx : l[k]? = some x) : rjOk rules l k x := by
  have h1 := ((jFrom_at hx).1 (jf_all h k)).1
  cases hf : findR rules x.ru with
  | none => exact absurd h1 (jOk_none hf)
  | some r =>
    obtain ⟨q1, q2, q3, q4⟩ := (jOk_some hf).1 h1
    have h2 := jf_tot l [] h hf ⟨x, List.mem_of_getElem? hx, rfl⟩
    rw [List.nil_append] at h2
    exact (rj_some hf).2 ⟨q2.2, q2.1, q1, q3, h2⟩
theorem spent_mono (l : List Jen) (k : Nat) (id : Int) : spentF (l.take k) id ≤ spentF l id := by
  have := spent_app (l.take k) (l.drop k) id
  rw [List.take_append_drop] at this; omega
theorem rj_back {rules : List Rul} {l : List Jen} (h : ∀ j x, l[j]? = some x → rjOk rules l j x) : ∀ n k, l.length ≤ k + n → jFrom rules (l.take k) (l.drop k)
  | 0, k, hk => jFrom_end hk
  | n + 1, k, hk => by
    cases hx : l[k]? with
    | none => exact jFrom_end (by have := List.getElem?_eq_none_iff.1 hx; omega)
    | some x =>
      refine (jFrom_at hx).2 ⟨?_, rj_back h n (k + 1) (by omega)⟩
      have h1 := h k x hx
      cases hf : findR rules x.ru with
      | none => exact absurd h1 (rj_none hf)
      | some r =>
        obtain ⟨q1, q2, q3, q4, q5⟩ := (rj_some hf).1 h1
        have h3 := spent_mono l (k + 1) x.ru
        rw [spent_at hx, if_pos rfl] at h3
        exact (jOk_some hf).2 ⟨q3, ⟨q2, q1⟩, q4, by omega⟩
theorem rj_step {rules : List Rul} {l : List Jen} {k : Nat} {x : Jen} (h : ∀ j y, j < k → l[j]? = some y → rjOk rules l j y) (hx : l[k]? = some x) (hp : rjOk rules l k x) : ∀ j y, j < k + 1 → l[j]? = some y → rjOk rules l j y := fun j y hj hy => by
  by_cases e : j = k
  · subst e; rw [hx] at hy; cases hy; exact hp
  · exact h j y (by omega) hy
theorem rj_end {rules : List Rul} {l : List Jen} {k : Nat} (h : ∀ j y, j < k → l[j]? = some y → rjOk rules l j y) (hk : l.length ≤ k) : jFrom rules [] l := by
  have := rj_back (fun j x hx => h j x (by have := (List.getElem?_eq_some_iff.1 hx).1; omega) hx) l.length 0 (by omega)
  rwa [List.take_zero, List.drop_zero] at this
theorem rj_0 {l : List Jen} {k : Nat} {x : Jen} (h : ¬ (k : Int) > 0) (hs : ¬ x.st < 1) : lastSt (l.take k) < x.st := by
  have : k = 0 := by omega
  subst this
  rw [List.take_zero]
  show (0 : Int) < x.st
  omega
theorem rj_1 {l : List Jen} {k : Nat} {x y : Jen} (h : (k : Int) > 0) (hy : l[((k : Int) - 1).toNat]? = some y) (hl : ¬ y.st ≥ x.st) : lastSt (l.take k) < x.st := by
  obtain ⟨j, rfl⟩ : ∃ j, k = j + 1 := ⟨k - 1, by omega⟩
  have e : (((j + 1 : Nat) : Int) - 1).toNat = j := by omega
  rw [e] at hy
  rw [last_at hy]; omega
theorem rj_2 {l : List Jen} {k : Nat} {x y : Jen} (h : (k : Int) > 0) (hy : l[((k : Int) - 1).toNat]? = some y) (hl : y.st ≥ x.st) : ¬ lastSt (l.take k) < x.st := by
  obtain ⟨j, rfl⟩ : ∃ j, k = j + 1 := ⟨k - 1, by omega⟩
  have e : (((j + 1 : Nat) : Int) - 1).toNat = j := by omega
  rw [e] at hy
  rw [last_at hy]; omega
theorem rl_a {l : List Jen} {stp : Int} (h : ¬ (l.length : Int) > 0) (h2 : ¬ stp < 1) : lastSt l < stp := by rw [last_nil (by omega)]; omega
theorem rl_b {l : List Jen} {stp : Int} {y : Jen} (hy : l[((l.length : Int) - 1).toNat]? = some y) (h : ¬ y.st ≥ stp) : lastSt l < stp := by rw [last_end hy]; omega
theorem rl_c {l : List Jen} {stp : Int} {y : Jen} (hy : l[((l.length : Int) - 1).toNat]? = some y) (h : y.st ≥ stp) : ¬ lastSt l < stp := by rw [last_end hy]; omega
theorem rsp_t {l : List Jen} {k : Nat} {x : Jen} {id : Int} {q : Nat} (hq : q = spentF (l.take k) id) (hx : l[k]? = some x) (h : x.ru = id) : q + x.da.size = spentF (l.take (k + 1)) id := by rw [spent_at hx, if_pos h, hq]
theorem rsp_f {l : List Jen} {k : Nat} {x : Jen} {id : Int} {q : Nat} (hq : q = spentF (l.take k) id) (hx : l[k]? = some x) (h : ¬ x.ru = id) : q = spentF (l.take (k + 1)) id := by rw [spent_at hx, if_neg h, hq]; rfl
theorem rdt_t {l : List Jen} {k : Nat} {x : Jen} {id : Int} {o : List ByteArray} (ho : o = datF id (l.take k)) (hx : l[k]? = some x) (h : x.ru = id) : o ++ [x.da] = datF id (l.take (k + 1)) := by
  rw [ho]; unfold datF ofF; rw [filt_t hx (by simpa using h)]; simp
theorem rdt_f {l : List Jen} {k : Nat} {x : Jen} {id : Int} {o : List ByteArray} (ho : o = datF id (l.take k)) (hx : l[k]? = some x) (h : ¬ x.ru = id) : o = datF id (l.take (k + 1)) := by
  rw [ho]; unfold datF ofF; rw [filt_f hx (by simpa using h)]
theorem dat_len (id : Int) (l : List Jen) : (datF id l).length ≤ l.length := by unfold datF; rw [List.length_map]; exact of_len id l
theorem rsn_t {l : List Jen} {k : Nat} {x : Jen} {a : Lab} {o : List Jen} (ho : o = seenJ a (l.take k)) (hx : l[k]? = some x) (h : labUnder x.to a) : o ++ [x] = seenJ a (l.take (k + 1)) := by
  rw [ho]; unfold seenJ; rw [filt_t hx (by simpa using h)]
theorem rsn_f {l : List Jen} {k : Nat} {x : Jen} {a : Lab} {o : List Jen} (ho : o = seenJ a (l.take k)) (hx : l[k]? = some x) (h : ¬ labUnder x.to a) : o = seenJ a (l.take (k + 1)) := by
  rw [ho]; unfold seenJ; rw [filt_f hx (by simpa using h)]
def jen64 (x : Jen) : Prop := x.to.cs < 18446744073709551616
end Go.Proofs.YthehnjbdkjnlpaaDoor
