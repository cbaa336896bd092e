/- The laws of chapter 15 (journal), walked over the given program; no condition but what stands in each theorem: part JA. -/
import Derived.Test.YthehnjbdkjnlpaaDoorRRA
set_option linter.unusedVariables false
set_option linter.unusedSimpArgs false
set_option maxRecDepth 100000
set_option maxHeartbeats 8000000
namespace Go.Proofs.YthehnjbdkjnlpaaDoor
open Go Go.Sl Go.RowKit Go.Extern.Stop Go.Stop Go.Extern

def spentF : List Jen → Int → Nat
  | [], _ => 0
  | x :: r, id => (if x.ru = id then x.da.size else 0) + spentF r id
theorem spent_app : ∀ (a b : List Jen) (id : Int), spentF (a ++ b) id = spentF a id + spentF b id
  | [], b, id => by simp [spentF]
  | x :: a, b, id => by simp only [List.cons_append, spentF, spent_app a b id]; omega
theorem spent_at {l : List Jen} {k : Nat} {x : Jen} (hx : l[k]? = some x) (id : Int) : spentF (l.take (k + 1)) id = spentF (l.take k) id + (if x.ru = id then x.da.size else 0) := by
  rw [List.take_add_one, hx, Option.toList_some, spent_app]; simp [spentF]
def jenSm (x : Jen) : Prop := x.da.size ≤ 100000
instance (x : Jen) : Decidable (jenSm x) := by unfold jenSm; infer_instance
theorem spent_le : ∀ (l : List Jen) (id : Int), (∀ y ∈ l, jenSm y) → spentF l id ≤ 100000 * l.length
  | [], id, _ => Nat.zero_le _
  | x :: r, id, h => by
    have h1 := spent_le r id (fun y hy => h y (by simp [hy]))
    have h2 : x.da.size ≤ 100000 := h x (by simp)
    simp only [spentF, List.length_cons]
    split <;> omega
def lastSt (l : List Jen) : Int := match l.getLast? with | some x => x.st | none => 0
theorem last_app (l : List Jen) (x : Jen) : lastSt (l ++ [x]) = x.st := by unfold lastSt; simp
theorem last_at {l : List Jen} {k : Nat} {x : Jen} (hx : l[k]? = some x) : lastSt (l.take (k + 1)) = x.st := by
  rw [List.take_add_one, hx]; exact last_app _ _
theorem last_end {l : List Jen} {x : Jen} (hx : l[((l.length : Int) - 1).toNat]? = some x) : lastSt l = x.st := by
  have e : ((l.length : Int) - 1).toNat = l.length - 1 := by omega
  rw [e] at hx
  unfold lastSt
  rw [List.getLast?_eq_getElem?, hx]
theorem last_nil {l : List Jen} (h : (l.length : Int) = 0) : lastSt l = 0 := by
  have : l = [] := List.eq_nil_of_length_eq_zero (by omega)
  subst this; rfl
/-- May an entry stand behind others? -/
def jOk (rules : List Rul) (pre : List Jen) (x : Jen) : Prop := match findR rules x.ru with
  | none => False
  | some r => x.to = r.to ∧ (lastSt pre < x.st ∧ 1 ≤ x.st ∧ x.st ≤ 400) ∧ passP r.wh x.da ∧ (spentF pre x.ru : Int) + (x.da.size : Int) ≤ r.bu
instance (rules : List Rul) (pre : List Jen) (x : Jen) : Decidable (jOk rules pre x) := by unfold jOk; split <;> infer_instance
theorem jOk_some {rules : List Rul} {pre : List Jen} {x : Jen} {r : Rul} (h : findR rules x.ru = some r) : jOk rules pre x ↔ (x.to = r.to ∧ (lastSt pre < x.st ∧ 1 ≤ x.st ∧ x.st ≤ 400) ∧ passP r.wh x.da ∧ (spentF pre x.ru : Int) + (x.da.size : Int) ≤ r.bu) := by unfold jOk; rw [h]
theorem jOk_none {rules : List Rul} {pre : List Jen} {x : Jen} (h : findR rules x.ru = none) : ¬ jOk rules pre x := by unfold jOk; rw [h]; exact id
def jFrom (rules : List Rul) : List Jen → List Jen → Prop
  | _, [] => True
  | pre, x :: r => jOk rules pre x ∧ jFrom rules (pre ++ [x]) r
instance jFromDec (rules : List Rul) : (pre l : List Jen) → Decidable (jFrom rules pre l)
  | _, [] => isTrue trivial
  | pre, x :: r => @instDecidableAnd _ _ _ (jFromDec rules (pre ++ [x]) r)
def jRight (rules : List Rul) (l : List Jen) : Prop := rulesR rules ∧ jFrom rules [] l
instance (rules : List Rul) (l : List Jen) : Decidable (jRight rules l) := by unfold jRight; infer_instance
theorem jFrom_at {rules : List Rul} {l : List Jen} {k : Nat} {x : Jen} (hx : l[k]? = some x) : jFrom rules (l.take k) (l.drop k) ↔ jOk rules (l.take k) x ∧ jFrom rules (l.take (k + 1)) (l.drop (k + 1)) := by
  have e : l.take (k + 1) = l.take k ++ [x] := by rw [List.take_add_one, hx]; rfl
  rw [drop_two hx, e]; exact Iff.rfl
theorem jFrom_end {rules : List Rul} {l : List Jen} {k : Nat} (hk : l.length ≤ k) : jFrom rules (l.take k) (l.drop k) := by
  rw [List.drop_eq_nil_of_le hk]; trivial
def relF (rules : List Rul) (l : List Jen) (step : Int) (cur : Lab) (id : Int) (data : ByteArray) : List Jen × Int :=
  if jRight rules l then (if lastSt l < step ∧ 1 ≤ step ∧ step ≤ 400 then (match findR rules id with
    | none => ([], 140)
    | some r => if r.fr = cur then (if passP r.wh data then (if (spentF l id : Int) + (data.size : Int) ≤ r.bu then (l ++ [⟨step, id, r.to, data⟩], 0) else ([], 151)) else ([], 130)) else ([], 150)) else ([], 152)) else ([], 152)
theorem rel_1 {rules : List Rul} {l : List Jen} {step : Int} {cur : Lab} {id : Int} {data : ByteArray} (h : ¬ jRight rules l) : relF rules l step cur id data = ([], 152) := if_neg h
theorem rel_2 {rules : List Rul} {l : List Jen} {step : Int} {cur : Lab} {id : Int} {data : ByteArray} (h : jRight rules l) (h2 : ¬ (lastSt l < step ∧ 1 ≤ step ∧ step ≤ 400)) : relF rules l step cur id data = ([], 152) := by unfold relF; rw [if_pos h, if_neg h2]
theorem rel_3 {rules : List Rul} {l : List Jen} {step : Int} {cur : Lab} {id : Int} {data : ByteArray} (h : jRight rules l) (h2 : lastSt l < step ∧ 1 ≤ step ∧ step ≤ 400) (h3 : findR rules id = none) : relF rules l step cur id data = ([], 140) := by unfold relF; rw [if_pos h, if_pos h2, h3]
theorem rel_4 {rules : List Rul} {l : List Jen} {step : Int} {cur : Lab} {id : Int} {data : ByteArray} {r : Rul} (h : jRight rules l) (h2 : lastSt l < step ∧ 1 ≤ step ∧ step ≤ 400) (h3 : findR rules id = some r) (h4 : ¬ r.fr = cur) : relF rules l step cur id data = ([], 150) := by unfold relF; rw [if_pos h, if_pos h2, h3]; exact if_neg h4
theorem rel_5 {rules : List Rul} {l : List Jen} {step : Int} {cur : Lab} {id : Int} {data : ByteArray} {r : Rul} (h : jRight rules l) (h2 : lastSt l < step ∧ 1 ≤ step ∧ step ≤ 400) (h3 : findR rules id = some r) (h4 : r.fr = cur) (h5 : ¬ passP r.wh data) : relF rules l step cur id data = ([], 130) := by unfold relF; rw [if_pos h, if_pos h2, h3]; simp only [if_pos h4, if_neg h5]
theorem rel_6 {rules : List Rul} {l : List Jen} {step : Int} {cur : Lab} {id : Int} {data : ByteArray} {r : Rul} (h : jRight rules l) (h2 : lastSt l < step ∧ 1 ≤ step ∧ step ≤ 400) (h3 : findR rules id = some r) (h4 : r.fr = cur) (h5 : passP r.wh data) (h6 : ¬ (spentF l id : Int) + (data.size : Int) ≤ r.bu) : relF rules l step cur id data = ([], 151) := by unfold relF; rw [if_pos h, if_pos h2, h3]; simp only [if_pos h4, if_pos h5, if_neg h6]
theorem rel_7 {rules : List Rul} {l : List Jen} {step : Int} {cur : Lab} {id : Int} {data : ByteArray} {r : Rul} (h : jRight rules l) (h2 : lastSt l < step ∧ 1 ≤ step ∧ step ≤ 400) (h3 : findR rules id = some r) (h4 : r.fr = cur) (h5 : passP r.wh data) (h6 : (spentF l id : Int) + (data.size : Int) ≤ r.bu) : relF rules l step cur id data = (l ++ [⟨step, id, r.to, data⟩], 0) := by unfold relF; rw [if_pos h, if_pos h2, h3]; simp only [if_pos h4, if_pos h5, if_pos h6]
theorem jen_eq {x : Jen} {r : Rul} (hid : r.id = x.ru) (h : x.to = r.to) : x = ⟨x.st, r.id, r.to, x.da⟩ := by
  obtain ⟨a, b, c, d⟩ := x
  simp only at hid h
  rw [hid, h]
theorem jen_to {x : Jen} {r : Rul} (h : x = ⟨x.st, r.id, r.to, x.da⟩) : x.to = r.to := by rw [h]
theorem jf_step {l : List Jen} {k : Nat} {x : Jen} {f : Int → Int} {id : Int} (hf : ∀ j, f j = (spentF (l.take k) j : Int)) (hx : l[k]? = some x) (hid : id = x.ru) : ∀ j, (fun j => if j = id then f id + (x.da.size : Int) else f j) j = (spentF (l.take (k + 1)) j : Int) := fun j => by
  rw [spent_at hx]
  show (if j = id then f id + (x.da.size : Int) else f j) = _
  by_cases hj : j = id
  · rw [if_pos hj, if_pos (by rw [hj, hid]), hf, hj]; omega
  · rw [if_neg hj, if_neg (fun e => hj (by rw [hid, e])), hf]; rfl
theorem jf_bound2 {l : List Jen} {id : Int} (hm : ∀ y ∈ l, jenSm y) (hn : l.length ≤ 1000) : (0 : Int) ≤ (spentF l id : Int) ∧ (spentF l id : Int) ≤ 1000000000 := by
  have h1 := spent_le l id hm
  omega
theorem jf_over {l : List Jen} {k : Nat} {f : Int → Int} {id ru bu n : Int} (hf : ∀ j, f j = (spentF (l.take k) j : Int)) (hid : id = ru) (h8 : ¬ f id + n ≤ bu) (q6 : (spentF (l.take k) ru : Int) + n ≤ bu) : False := by
  rw [hf, hid] at h8; exact h8 q6
theorem jf_bound {l : List Jen} {k : Nat} {id : Int} (hm : ∀ y ∈ l, jenSm y) (hn : l.length ≤ 1000) : (0 : Int) ≤ (spentF (l.take k) id : Int) ∧ (spentF (l.take k) id : Int) ≤ 1000000000 := by
  have h1 := spent_le (l.take k) id (fun y hy => hm y (List.mem_of_mem_take hy))
  rw [List.length_take] at h1
  omega
def ofF (id : Int) (l : List Jen) : List Jen := l.filter fun x => decide (x.ru = id)
def sumSz (l : List Jen) : Nat := (l.map fun x => x.da.size).foldr (· + ·) 0
theorem sum_app (a b : List Jen) : sumSz (a ++ b) = sumSz a + sumSz b := by
  unfold sumSz
  induction a with
  | nil => simp
  | cons x a ih => simp only [List.cons_append, List.map_cons, List.foldr_cons, ih]; omega
theorem sum_at {l : List Jen} {k : Nat} {x : Jen} (hx : l[k]? = some x) : sumSz (l.take (k + 1)) = sumSz (l.take k) + x.da.size := by
  rw [List.take_add_one, hx, Option.toList_some, sum_app]; simp [sumSz]
theorem spent_sum : ∀ (l : List Jen) (id : Int), spentF l id = sumSz (ofF id l)
  | [], id => rfl
  | x :: r, id => by
    have ih := spent_sum r id
    unfold ofF at *
    by_cases h : x.ru = id
    · rw [List.filter_cons, if_pos (by simpa using h)]
      simp only [spentF, if_pos h, ih, sumSz, List.map_cons, List.foldr_cons]
    · rw [List.filter_cons, if_neg (by simpa using h)]
      simp only [spentF, if_neg h, ih, Nat.zero_add]
theorem sum_le {l : List Jen} {k : Nat} (h : ∀ y ∈ l, jenSm y) : sumSz (l.take k) ≤ 100000 * l.length := by
  have : ∀ m : List Jen, (∀ y ∈ m, jenSm y) → sumSz m ≤ 100000 * m.length := by
    intro m
    induction m with
    | nil => intro _; exact Nat.zero_le _
    | cons x m ih =>
      intro hm
      have h1 := ih (fun y hy => hm y (by simp [hy]))
      have h2 : x.da.size ≤ 100000 := hm x (by simp)
      simp only [sumSz, List.map_cons, List.foldr_cons, List.length_cons] at *
      omega
  have h1 := this (l.take k) (fun y hy => h y (List.mem_of_mem_take hy))
  rw [List.length_take] at h1
  have : 100000 * min k l.length ≤ 100000 * l.length := Nat.mul_le_mul_left _ (Nat.min_le_right _ _)
  omega
theorem of_sub {id : Int} {l : List Jen} {P : Jen → Prop} (h : ∀ y ∈ l, P y) : ∀ y ∈ ofF id l, P y := fun y hy => h y (List.mem_filter.1 hy).1
theorem of_len (id : Int) (l : List Jen) : (ofF id l).length ≤ l.length := List.length_filter_le _ _
theorem filt_step {α : Type} {p : α → Bool} {l : List α} {k : Nat} {x : α} (hx : l[k]? = some x) : (l.take (k + 1)).filter p = (l.take k).filter p ++ (if p x then [x] else []) := by
  rw [List.take_add_one, hx, List.filter_append]
  simp [List.filter_cons]
theorem filt_t {α : Type} {p : α → Bool} {l : List α} {k : Nat} {x : α} (hx : l[k]? = some x) (hp : p x = true) : (l.take (k + 1)).filter p = (l.take k).filter p ++ [x] := by rw [filt_step hx, if_pos hp]
theorem filt_f {α : Type} {p : α → Bool} {l : List α} {k : Nat} {x : α} (hx : l[k]? = some x) (hp : ¬ p x = true) : (l.take (k + 1)).filter p = (l.take k).filter p := by rw [filt_step hx, if_neg hp, List.append_nil]
theorem filt_at {α : Type} {p : α → Bool} {l : List α} {k : Nat} {x : α} (hx : l[k]? = some x) (hp : p x = true) : (l.filter p)[((l.take k).filter p).length]? = some x := by
  obtain ⟨hk, he⟩ := List.getElem?_eq_some_iff.1 hx
  have h1 : l.filter p = (l.take k).filter p ++ (l.drop k).filter p := by rw [← List.filter_append, List.take_append_drop]
  rw [h1, List.getElem?_append_right (Nat.le_refl _), Nat.sub_self, List.drop_eq_getElem_cons hk, he, List.filter_cons, if_pos hp]
  rfl
theorem of_at {l : List Jen} {k q : Nat} {x : Jen} {id : Int} (hq : q = ((l.take k).filter fun x => decide (x.ru = id)).length) (hx : l[k]? = some x) (ha : x.ru = id) : (ofF id l)[q]? = some x := by
  rw [hq]; exact filt_at (p := fun x => decide (x.ru = id)) hx (by simpa using ha)
theorem of_lt {l : List Jen} {k q : Nat} {x : Jen} {id : Int} (hq : q = ((l.take k).filter fun x => decide (x.ru = id)).length) (hx : l[k]? = some x) (ha : x.ru = id) : q < (ofF id l).length := (List.getElem?_eq_some_iff.1 (of_at hq hx ha)).1
theorem of_end {l : List Jen} {k q : Nat} {id : Int} (hq : q = ((l.take k).filter fun x => decide (x.ru = id)).length) (hk : l.length ≤ k) : (ofF id l).length = q := by
  rw [hq, List.take_of_length_le hk]; rfl
def datF (id : Int) (l : List Jen) : List ByteArray := (ofF id l).map (·.da)
def seenJ (a : Lab) (l : List Jen) : List Jen := l.filter fun x => decide (labUnder x.to a)
end Go.Proofs.YthehnjbdkjnlpaaDoor
