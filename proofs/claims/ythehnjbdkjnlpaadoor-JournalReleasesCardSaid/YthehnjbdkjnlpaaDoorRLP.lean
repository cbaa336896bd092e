/- The laws of chapter 15 (journal), walked over the given program; no condition but what stands in each theorem: part LP. -/
import Derived.Test.YthehnjbdkjnlpaaDoorRKA
set_option linter.unusedVariables false
set_option linter.unusedSimpArgs false
set_option maxRecDepth 100000
set_option maxHeartbeats 8000000
namespace Go.Proofs.YthehnjbdkjnlpaaDoor
open Go Go.Sl Go.RowKit Go.Extern.Stop Go.Stop Go.Extern

def cutD (s : ByteArray) : ByteArray := s.extract 0 (min s.size 210)
theorem cutD_size (s : ByteArray) : (cutD s).size ≤ 210 := by unfold cutD; rw [ByteArray.size_extract]; omega
def cutJ (x : Jen) : Jen := ⟨x.st, x.ru, x.to, cutD x.da⟩
def fewJ (l : List Jen) : List Jen := (l.take 30).map cutJ
theorem few_take {α β : Type} (f : α → β) {l : List α} {k n : Nat} (h : l.length ≤ k ∨ n ≤ k) (hk : k ≤ n) : (l.take k).map f = (l.take n).map f := by
  rcases h with h | h
  · rw [List.take_of_length_le h, List.take_of_length_le (by omega)]
  · rw [show k = n by omega]
theorem few_step {α β : Type} (f : α → β) {l : List α} {k : Nat} {x : α} {o : List β} (ho : o = (l.take k).map f) (hx : l[k]? = some x) : o ++ [f x] = (l.take (k + 1)).map f := by
  rw [ho, List.take_add_one, hx]; simp
theorem fewJ_len (l : List Jen) : (fewJ l).length ≤ 30 := by unfold fewJ; rw [List.length_map, List.length_take]; omega
theorem fewJ_sm (l : List Jen) : ∀ y ∈ fewJ l, jenSm y := fun y hy => by
  obtain ⟨x, _, rfl⟩ := List.mem_map.1 hy
  have := cutD_size x.da
  show (cutD x.da).size ≤ 100000
  omega
theorem fewJ_64 {l : List Jen} (h : ∀ y ∈ l, jen64 y) : ∀ y ∈ fewJ l, jen64 y := fun y hy => by
  obtain ⟨x, hx, rfl⟩ := List.mem_map.1 hy
  exact h x (List.mem_of_mem_take hx)
def cutR (x : Rul) : Rul := ⟨x.id, x.fr, x.to, x.bu, ⟨x.wh.kd, x.wh.mx, x.wh.fm.extract 0 (min x.wh.fm.size 50)⟩⟩
def fewL (l : List Rul) : List Rul := (l.take 10).map cutR
theorem fewL_len (l : List Rul) : (fewL l).length ≤ 10 := by unfold fewL; rw [List.length_map, List.length_take]; omega
theorem fewL_sm (l : List Rul) : ∀ y ∈ fewL l, rulSm y := fun y hy => by
  obtain ⟨x, _, rfl⟩ := List.mem_map.1 hy
  show (x.wh.fm.extract 0 (min x.wh.fm.size 50)).size ≤ 1000
  rw [ByteArray.size_extract]; omega
theorem rel_ok {rules : List Rul} {l : List Jen} {step : Int} {cur : Lab} {id : Int} {data : ByteArray} (h : (relF rules l step cur id data).2 = 0) : ∃ r, jRight rules l ∧ (lastSt l < step ∧ 1 ≤ step ∧ step ≤ 400) ∧ findR rules id = some r ∧ r.fr = cur ∧ passP r.wh data ∧ (spentF l id : Int) + (data.size : Int) ≤ r.bu ∧ relF rules l step cur id data = (l ++ [⟨step, id, r.to, data⟩], 0) := by
  by_cases h1 : jRight rules l
  · by_cases h2 : lastSt l < step ∧ 1 ≤ step ∧ step ≤ 400
    · cases h3 : findR rules id with
      | none => rw [rel_3 h1 h2 h3] at h; exact absurd h (by decide)
      | some r =>
        by_cases h4 : r.fr = cur
        · by_cases h5 : passP r.wh data
          · by_cases h6 : (spentF l id : Int) + (data.size : Int) ≤ r.bu
            · exact ⟨r, h1, h2, rfl, h4, h5, h6, rel_7 h1 h2 h3 h4 h5 h6⟩
            · rw [rel_6 h1 h2 h3 h4 h5 h6] at h; exact absurd h (by decide)
          · rw [rel_5 h1 h2 h3 h4 h5] at h; exact absurd h (by decide)
        · rw [rel_4 h1 h2 h3 h4] at h; exact absurd h (by decide)
    · rw [rel_2 h1 h2] at h; exact absurd h (by decide)
  · rw [rel_1 h1] at h; exact absurd h (by decide)
theorem rel_no {rules : List Rul} {l : List Jen} {step : Int} {cur : Lab} {id : Int} {data : ByteArray} (h : ¬ (relF rules l step cur id data).2 = 0) : (relF rules l step cur id data).1 = [] := by
  by_cases h1 : jRight rules l
  · by_cases h2 : lastSt l < step ∧ 1 ≤ step ∧ step ≤ 400
    · cases h3 : findR rules id with
      | none => rw [rel_3 h1 h2 h3]
      | some r =>
        by_cases h4 : r.fr = cur
        · by_cases h5 : passP r.wh data
          · by_cases h6 : (spentF l id : Int) + (data.size : Int) ≤ r.bu
            · rw [rel_7 h1 h2 h3 h4 h5 h6] at h; exact absurd rfl h
            · rw [rel_6 h1 h2 h3 h4 h5 h6]
          · rw [rel_5 h1 h2 h3 h4 h5]
        · rw [rel_4 h1 h2 h3 h4]
    · rw [rel_2 h1 h2]
  · rw [rel_1 h1]
theorem rel_len (rules : List Rul) (l : List Jen) (step : Int) (cur : Lab) (id : Int) (data : ByteArray) : (relF rules l step cur id data).1.length ≤ l.length + 1 := by
  by_cases h : (relF rules l step cur id data).2 = 0
  · obtain ⟨r, _, _, _, _, _, _, e⟩ := rel_ok h
    rw [e]; simp
  · rw [rel_no h]; exact Nat.zero_le _
theorem rel_sm {rules : List Rul} {l : List Jen} {step : Int} {cur : Lab} {id : Int} {data : ByteArray} (h : ∀ y ∈ l, jenSm y) (hd : data.size ≤ 100000) : ∀ y ∈ (relF rules l step cur id data).1, jenSm y := by
  by_cases h0 : (relF rules l step cur id data).2 = 0
  · obtain ⟨r, _, _, _, _, _, _, e⟩ := rel_ok h0
    rw [e]
    intro y hy
    rcases List.mem_append.1 hy with h' | h'
    · exact h y h'
    · have : y = ⟨step, id, r.to, data⟩ := by simpa using h'
      rw [this]; exact hd
  · rw [rel_no h0]; intro y hy; cases hy
theorem jFrom_app {rules : List Rul} : ∀ (l pre : List Jen) (x : Jen), jFrom rules pre (l ++ [x]) ↔ jFrom rules pre l ∧ jOk rules (pre ++ l) x
  | [], pre, x => by
    rw [List.append_nil]
    exact ⟨fun h => ⟨trivial, h.1⟩, fun h => ⟨h.2, trivial⟩⟩
  | y :: l, pre, x => by
    have ih := jFrom_app (rules := rules) l (pre ++ [y]) x
    rw [List.append_assoc] at ih
    exact ⟨fun h => ⟨⟨h.1, (ih.1 h.2).1⟩, (ih.1 h.2).2⟩, fun h => ⟨h.1.1, ih.2 ⟨h.1.2, h.2⟩⟩⟩
theorem jb_len {rules : List Rul} {l : List Jen} {step : Int} {cur : Lab} {id : Int} {data : ByteArray} (h : (relF rules l step cur id data).2 = 0) : ((relF rules l step cur id data).1.length : Int) = (l.length : Int) + 1 := by
  obtain ⟨r, _, _, _, _, _, _, e⟩ := rel_ok h
  rw [e]; simp
theorem jb_right {rules : List Rul} {l : List Jen} {step : Int} {cur : Lab} {id : Int} {data : ByteArray} (h : (relF rules l step cur id data).2 = 0) : jRight rules (relF rules l step cur id data).1 := by
  obtain ⟨r, q1, q2, q3, q4, q5, q6, e⟩ := rel_ok h
  rw [e]
  exact ⟨q1.1, (jFrom_app l [] _).2 ⟨q1.2, (jOk_some q3).2 ⟨rfl, q2, q5, q6⟩⟩⟩
theorem jb_find {rules : List Rul} {l : List Jen} {step : Int} {cur : Lab} {id : Int} {data : ByteArray} (h : (relF rules l step cur id data).2 = 0) : ¬ findR rules id = none := fun hn => by
  obtain ⟨r, _, _, q3, _⟩ := rel_ok h
  rw [hn] at q3; cases q3
theorem jb_fr {rules : List Rul} {l : List Jen} {step : Int} {cur : Lab} {id : Int} {data : ByteArray} {r : Rul} (h : (relF rules l step cur id data).2 = 0) (hf : findR rules id = some r) : r.fr = cur := by
  obtain ⟨r', _, _, q3, q4, _⟩ := rel_ok h
  rw [hf] at q3; cases q3; exact q4
theorem jb_eqn {rules : List Rul} {l : List Jen} {step : Int} {cur : Lab} {id : Int} {data : ByteArray} {r : Rul} (h : (relF rules l step cur id data).2 = 0) (hf : findR rules id = some r) : (relF rules l step cur id data).1 = l ++ [⟨step, id, r.to, data⟩] := by
  obtain ⟨r', _, _, q3, _, _, _, e⟩ := rel_ok h
  rw [hf] at q3; cases q3; rw [e]
theorem jb_x {rules : List Rul} {l : List Jen} {step : Int} {cur : Lab} {id : Int} {data : ByteArray} {r : Rul} {x : Jen} (h : (relF rules l step cur id data).2 = 0) (hf : findR rules id = some r) (hx : (relF rules l step cur id data).1[(((relF rules l step cur id data).1.length : Int) - 1).toNat]? = some x) : x = ⟨step, id, r.to, data⟩ := by
  rw [jb_eqn h hf] at hx
  have e : ((((l ++ [(⟨step, id, r.to, data⟩ : Jen)]).length : Nat) : Int) - 1).toNat = l.length := by simp
  rw [e, List.getElem?_append_right (Nat.le_refl _), Nat.sub_self] at hx
  exact (Option.some.inj hx).symm
theorem spent_last {l : List Jen} {x : Jen} {id : Int} : spentF (l ++ [x]) id = spentF l id + (if x.ru = id then x.da.size else 0) := by
  rw [spent_app]; rfl
theorem jb_eq {rules : List Rul} {l : List Jen} {step : Int} {cur : Lab} {id : Int} {data : ByteArray} (h : (relF rules l step cur id data).2 = 0) : (spentF (relF rules l step cur id data).1 id : Int) = (spentF l id : Int) + (data.size : Int) := by
  obtain ⟨r, _, _, _, _, _, _, e⟩ := rel_ok h
  rw [e, spent_last, if_pos rfl]; rfl
theorem jb_sp {rules : List Rul} {l : List Jen} {step : Int} {cur : Lab} {id : Int} {data : ByteArray} {r : Rul} (h : (relF rules l step cur id data).2 = 0) (hf : findR rules id = some r) : (spentF (relF rules l step cur id data).1 id : Int) ≤ r.bu := by
  rw [jb_eq h]
  obtain ⟨r', _, _, q3, _, _, q6, _⟩ := rel_ok h
  rw [hf] at q3; cases q3; exact q6
theorem jb_take {rules : List Rul} {l : List Jen} {step : Int} {cur : Lab} {id : Int} {data : ByteArray} (h : (relF rules l step cur id data).2 = 0) : (relF rules l step cur id data).1.take l.length = l := by
  obtain ⟨r, _, _, _, _, _, _, e⟩ := rel_ok h
  rw [e]; simp
theorem ja_sp {rules : List Rul} {l : List Jen} {step : Int} {cur : Lab} {id other : Int} {data : ByteArray} (h : (relF rules l step cur id data).2 = 0) (hne : ¬ id = other) : (spentF (relF rules l step cur id data).1 other : Int) = (spentF l other : Int) := by
  obtain ⟨r, _, _, _, _, _, _, e⟩ := rel_ok h
  rw [e, spent_last, if_neg hne]; rfl
theorem ja_code {rules : List Rul} {l : List Jen} {step : Int} {cur : Lab} {id other : Int} {data more : ByteArray} (h : (relF rules l step cur id data).2 = 0) (hne : ¬ id = other) (h398 : step ≤ 398) : (relF rules l (step + 1) cur other more).2 = (relF rules (relF rules l step cur id data).1 (step + 1) cur other more).2 := by
  have hr := jb_right h
  have hs := ja_sp h hne
  obtain ⟨r, q1, q2, q3, q4, q5, q6, e⟩ := rel_ok h
  have hl : lastSt (relF rules l step cur id data).1 = step := by rw [e]; exact last_app _ _
  generalize (relF rules l step cur id data).1 = a at hr hs hl
  have c1 : lastSt l < step + 1 ∧ 1 ≤ step + 1 ∧ step + 1 ≤ 400 := by omega
  have c2 : lastSt a < step + 1 ∧ 1 ≤ step + 1 ∧ step + 1 ≤ 400 := by omega
  cases hf : findR rules other with
  | none => rw [rel_3 q1 c1 hf, rel_3 hr c2 hf]
  | some r2 =>
    by_cases h4 : r2.fr = cur
    · by_cases h5 : passP r2.wh more
      · by_cases h6 : (spentF l other : Int) + (more.size : Int) ≤ r2.bu
        · rw [rel_7 q1 c1 hf h4 h5 h6, rel_7 hr c2 hf h4 h5 (by omega)]
        · rw [rel_6 q1 c1 hf h4 h5 h6, rel_6 hr c2 hf h4 h5 (by omega)]
      · rw [rel_5 q1 c1 hf h4 h5, rel_5 hr c2 hf h4 h5]
    · rw [rel_4 q1 c1 hf h4, rel_4 hr c2 hf h4]
theorem seen_app (b : Lab) (l : List Jen) (x : Jen) : seenJ b (l ++ [x]) = seenJ b l ++ (if labUnder x.to b then [x] else []) := by
  unfold seenJ
  rw [List.filter_append]
  simp [List.filter_cons]
theorem js_no {rules : List Rul} {l : List Jen} {step : Int} {cur : Lab} {id : Int} {data : ByteArray} {r : Rul} {b : Lab} (h : (relF rules l step cur id data).2 = 0) (hf : findR rules id = some r) (hu : ¬ labUnder r.to b) : seenJ b l = seenJ b (relF rules l step cur id data).1 := by
  rw [jb_eqn h hf, seen_app, if_neg hu, List.append_nil]
theorem js_len {rules : List Rul} {l : List Jen} {step : Int} {cur : Lab} {id : Int} {data : ByteArray} {r : Rul} {b : Lab} (h : (relF rules l step cur id data).2 = 0) (hf : findR rules id = some r) (hu : labUnder r.to b) : ((seenJ b (relF rules l step cur id data).1).length : Int) = ((seenJ b l).length : Int) + 1 := by
  rw [jb_eqn h hf, seen_app, if_pos hu]; simp
theorem js_x {rules : List Rul} {l : List Jen} {step : Int} {cur : Lab} {id : Int} {data : ByteArray} {r : Rul} {b : Lab} {x : Jen} (h : (relF rules l step cur id data).2 = 0) (hf : findR rules id = some r) (hu : labUnder r.to b) (hx : (seenJ b (relF rules l step cur id data).1)[(((seenJ b (relF rules l step cur id data).1).length : Int) - 1).toNat]? = some x) : x.da = data := by
  rw [jb_eqn h hf, seen_app, if_pos hu] at hx
  have e : ((((seenJ b l ++ [(⟨step, id, r.to, data⟩ : Jen)]).length : Nat) : Int) - 1).toNat = (seenJ b l).length := by simp
  rw [e, List.getElem?_append_right (Nat.le_refl _), Nat.sub_self] at hx
  rw [← Option.some.inj hx]
def sumB (l : List ByteArray) : Nat := (l.map fun x => x.size).foldr (· + ·) 0
theorem sumB_app (a b : List ByteArray) : sumB (a ++ b) = sumB a + sumB b := by
  unfold sumB
  induction a with
  | nil => simp
  | cons x a ih => simp only [List.cons_append, List.map_cons, List.foldr_cons, ih]; omega
theorem sumB_at {l : List ByteArray} {k : Nat} {x : ByteArray} (hx : l[k]? = some x) : sumB (l.take (k + 1)) = sumB (l.take k) + x.size := by
  rw [List.take_add_one, hx, Option.toList_some, sumB_app]; simp [sumB]
theorem sumB_dat (id : Int) (l : List Jen) : sumB (datF id l) = spentF l id := by
  rw [spent_sum]; unfold sumB datF sumSz; rw [List.map_map]; rfl
theorem sumB_mono (l : List ByteArray) (k : Nat) : sumB (l.take k) ≤ sumB l := by
  have := sumB_app (l.take k) (l.drop k)
  rw [List.take_append_drop] at this; omega
def cntA : List Rul → List Jen → Nat
  | [], _ => 0
  | r :: t, l => (datF r.id l).length + cntA t l
theorem cntA_app : ∀ (a b : List Rul) (l : List Jen), cntA (a ++ b) l = cntA a l + cntA b l
  | [], b, l => by simp [cntA]
  | r :: a, b, l => by simp only [List.cons_append, cntA, cntA_app a b l]; omega
theorem cntA_at {rules : List Rul} {k : Nat} {x : Rul} {l : List Jen} (hx : rules[k]? = some x) : cntA (rules.take (k + 1)) l = cntA (rules.take k) l + (datF x.id l).length := by
  rw [List.take_add_one, hx, Option.toList_some, cntA_app]; simp [cntA]
theorem cntA_le (l : List Jen) : ∀ (rules : List Rul), cntA rules l ≤ rules.length * l.length
  | [] => Nat.zero_le _
  | r :: t => by
    have h1 := cntA_le l t
    have h2 := dat_len r.id l
    simp only [cntA, List.length_cons, Nat.succ_mul]
    omega
theorem cntA_30 {rules : List Rul} {l : List Jen} (k : Nat) (h1 : rules.length ≤ 10) (h2 : l.length ≤ 30) : cntA (rules.take k) l ≤ 300 := by
  have h := cntA_le l (rules.take k)
  have h3 : (rules.take k).length ≤ 10 := by rw [List.length_take]; omega
  have := Nat.mul_le_mul h3 h2
  omega
def cntN : List Rul → Int → Nat
  | [], _ => 0
  | r :: t, id => (if r.id = id then 1 else 0) + cntN t id
theorem cntA_cons : ∀ (rules : List Rul) (x : Jen) (l : List Jen), cntA rules (x :: l) = cntN rules x.ru + cntA rules l
  | [], _, _ => rfl
  | r :: t, x, l => by
    have ih := cntA_cons t x l
    have e : (datF r.id (x :: l)).length = (if r.id = x.ru then 1 else 0) + (datF r.id l).length := by
      unfold datF ofF
      by_cases h : r.id = x.ru
      · rw [List.filter_cons, if_pos (by simpa using h.symm), if_pos h]; simp; omega
      · rw [List.filter_cons, if_neg (by simpa using Ne.symm h), if_neg h]; simp
    simp only [cntA, cntN, ih, e]; omega
theorem cntN_0 : ∀ (t : List Rul) {last id : Int}, rulesFrom last t → id ≤ last → cntN t id = 0
  | [], _, _, _, _ => rfl
  | r :: t, last, id, h, hle => by
    have h1 := h.2.1
    have ih := cntN_0 t (id := id) h.2.2 (by omega)
    simp only [cntN, ih, if_neg (show ¬ r.id = id by omega)]
theorem cntN_1 : ∀ (t : List Rul) {last id : Int} {r : Rul}, rulesFrom last t → findR t id = some r → cntN t id = 1
  | [], _, _, _, _, h => by cases h
  | x :: t, last, id, r, h, hf => by
    unfold findR at hf
    by_cases hx : x.id = id
    · have := cntN_0 t (id := id) h.2.2 (by omega)
      simp only [cntN, if_pos hx, this]
    · rw [if_neg hx] at hf
      have := cntN_1 t h.2.2 hf
      simp only [cntN, if_neg hx, this]
theorem cntA_all {rules : List Rul} (hr : rulesR rules) : ∀ (l : List Jen), (∀ y ∈ l, ∃ r, findR rules y.ru = some r) → cntA rules l = l.length
  | [], _ => by
    have : ∀ t : List Rul, cntA t [] = 0 := by
      intro t
      induction t with
      | nil => rfl
      | cons r t ih => simp only [cntA, ih]; rfl
    exact this rules
  | x :: l, h => by
    obtain ⟨r, hf⟩ := h x (by simp)
    rw [cntA_cons, cntA_all hr l (fun y hy => h y (by simp [hy])), cntN_1 rules hr.1 hf, List.length_cons]; omega
theorem jsum_all {rules : List Rul} {l : List Jen} (h : jRight rules l) : cntA rules l = l.length := cntA_all h.1 l (fun y hy => by
  obtain ⟨k, hk⟩ := List.mem_iff_getElem?.1 hy
  have h1 := rj_of h.2 hk
  cases hf : findR rules y.ru with
  | none => exact absurd h1 (rj_none hf)
  | some r => exact ⟨r, rfl⟩)
theorem jsum_pre {rules : List Rul} {l : List Jen} (h : jRight rules l) (k : Nat) : jRight rules (l.take k) := by
  refine ⟨h.1, ?_⟩
  have : ∀ (t : List Jen) (pre : List Jen) (k : Nat), jFrom rules pre t → jFrom rules pre (t.take k) := by
    intro t
    induction t with
    | nil => intro pre k _; rw [List.take_nil]; trivial
    | cons x t ih =>
      intro pre k hh
      cases k with
      | zero => exact trivial
      | succ k => exact ⟨hh.1, ih _ k hh.2⟩
  exact this l [] k h.2
end Go.Proofs.YthehnjbdkjnlpaaDoor
