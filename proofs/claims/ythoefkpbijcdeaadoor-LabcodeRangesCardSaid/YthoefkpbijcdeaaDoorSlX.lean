/- Openers: from what the arguments read as, to values and facts. -/
import Derived.Test.YthoefkpbijcdeaaDoorSlW
set_option linter.unusedVariables false
set_option linter.unusedSimpArgs false
namespace Go.Sl
open Go Go.RowKit Go.ChangeShapes Go.WideShapes Go.ChangeAt

theorem choose_list {α : Type} {Q : Nat → α → Prop} : ∀ {n : Nat}, (∀ i, i < n → ∃ x, Q i x) → ∃ l : List α, l.length = n ∧ ∀ i x, l[i]? = some x → Q i x
  | 0, _ => ⟨[], rfl, fun i x h => by simp at h⟩
  | n + 1, h => by
    obtain ⟨l, hl, hq⟩ := choose_list (n := n) (fun i hi => h i (by omega))
    obtain ⟨x, hx⟩ := h n (by omega)
    refine ⟨l ++ [x], by simp [hl], fun i y hy => ?_⟩
    by_cases hi : i < l.length
    · rw [List.getElem?_append_left hi] at hy; exact hq i y hy
    · have hlt := (List.getElem?_eq_some_iff.1 hy).1
      simp at hlt
      have : i = n := by omega
      subst this
      rw [List.getElem?_append_right (by omega), hl, Nat.sub_self] at hy
      simp at hy; subst hy; exact hx
theorem Ty.cells_get {α : Type} (d : Ty α) {l : List α} {j : Nat} {u : Value} (hj : (d.cells l)[j]? = some u) (hpos : 0 < d.sz) : ∃ x, l[j / d.sz]? = some x ∧ (d.enc x)[j % d.sz]? = some u := by
  have hlt := (List.getElem?_eq_some_iff.1 hj).1
  rw [d.cells_length] at hlt
  have hq : j / d.sz < l.length := Nat.div_lt_of_lt_mul (by rw [Nat.mul_comm]; exact hlt)
  refine ⟨l[j / d.sz], List.getElem?_eq_getElem hq, ?_⟩
  have h1 := d.cells_at (List.getElem?_eq_getElem hq)
  rw [← h1, List.getElem?_take, if_pos (Nat.mod_lt _ hpos), List.getElem?_drop]
  rw [show j / d.sz * d.sz + j % d.sz = j by rw [Nat.mul_comm]; exact Nat.div_add_mod j d.sz]
  exact hj
/-- A slice, each of whose elements reads as one of a kind. -/
theorem open_list {H : Type} {enc : TypeId × Value → H} {P : Program} {W : World} {base : Nat} {spare : Nat → Bool} {held : Bool} {α : Type} (d : Ty α) (Pr : α → Prop) {t e : TypeId} {fuel : Nat} {v : Value} {x : DataW H × List MemPlace}
    (ht : P.underlying t = some (.slice e)) (hsz : P.cellsOf e = d.sz) (hpos : 0 < d.sz)
    (hE : ∀ n cs y, DataW.trod enc P W base spare held n e cs = some y → ∃ x, cs = d.enc x ∧ Pr x) (h : DataW.trod enc P W base spare held fuel t [v] = some x) :
    ∃ (A : Option Addr) (c : Nat) (l : List α), v = .slice A l.length c ∧ (∀ k, le (hpOf W) k → rd d A c l k) ∧ (∀ x ∈ l, Pr x) := by
  rcases DataW.trod_slice ht h with ⟨hcs, _⟩ | ⟨a, len, cap, elems, rest, n, _, hcs, _, hb, hl, hm, hlen, hel, _, _⟩
  · simp only [List.cons.injEq, and_true] at hcs
    exact ⟨none, 0, [], hcs, fun k _ => rd_nil _ _ _ _, fun x hx => by cases hx⟩
  · simp only [List.cons.injEq, and_true] at hcs
    have each : ∀ i, i < len → ∃ x, W.cells? base (a.add (i * P.cellsOf e)) (P.cellsOf e) = some (d.enc x) ∧ Pr x := fun i hi => by
      have h1 := hel i hi
      rw [List.getElem?_eq_getElem (by omega)] at h1
      obtain ⟨cs, hc, hy⟩ := Option.bind_eq_some_iff.1 h1
      obtain ⟨x, rfl, hp⟩ := hE _ _ _ hy
      exact ⟨x, hc, hp⟩
    obtain ⟨l, hll, hq⟩ := choose_list each
    refine ⟨some a, cap, l, by rw [hll]; exact hcs, rd_of d (by omega) (by simp only [maxLen] at hm; omega) hpos fun j u hj => ?_, fun x hx => ?_⟩
    · obtain ⟨x, hx, hu⟩ := d.cells_get hj hpos
      have h1 := (hq _ _ hx).1
      obtain ⟨_, _, h2⟩ := World.cells?_some h1
      have h3 := h2 (j % d.sz) (by rw [hsz]; exact Nat.mod_lt _ hpos)
      rw [hu, hsz] at h3
      rw [← h3]
      have hd : j = j / d.sz * d.sz + j % d.sz := by rw [Nat.mul_comm]; exact (Nat.div_add_mod j d.sz).symm
      rw [Addr.add_add, ← hd]
    · obtain ⟨i, hi⟩ := List.getElem?_of_mem hx
      exact (hq _ _ hi).2
/-- A struct among the arguments. -/
theorem open_struct {H : Type} {enc : TypeId × Value → H} {P : Program} {W : World} {base : Nat} {spare : Nat → Bool} {held : Bool} {base' : Nat} {α : Type} {f : α → List Value} {Pr : α → Prop} {t : TypeId} {fs : Array Field} {v : Value} {d : DataW H} {p : List MemPlace} {r : Reach}
    (ht : P.underlying t = some (.struct fs)) (hv : Value.okWide P W r base' t v) (hE : ∀ n cs y, DataW.trod enc P W base spare held n t cs = some y → ∃ x, cs = f x ∧ Pr x) (h : DataW.Trod enc P W base spare held t v d p) : ∃ x, v = .agg (f x).toArray ∧ Pr x := by
  simp only [Value.okWide, ht] at hv
  obtain ⟨cs, rfl, _, _⟩ := hv
  obtain ⟨fuel, hf⟩ := h
  obtain ⟨x, hx, hp⟩ := hE _ _ _ hf
  refine ⟨x, ?_, hp⟩
  have : cs.toList = f x := by simpa [Value.cells] using hx
  rw [← this]
theorem open_u64 {H : Type} {enc : TypeId × Value → H} {P : Program} {W : World} {base : Nat} {spare : Nat → Bool} {held : Bool} {t : TypeId} {n : Nat} {cs : List Value} {y : DataW H × List MemPlace} (ht : P.underlying t = some (.int .u64)) (h : DataW.trod enc P W base spare held n t cs = some y) : ∃ x : Nat, cs = [.int .u64 (x : Int)] ∧ x < 18446744073709551616 := by
  obtain ⟨z, rfl, _, hw⟩ := DataW.trod_int ht h
  simp only [Lit.wf, Bool.and_eq_true, decide_eq_true_eq] at hw
  obtain ⟨h1, h2⟩ := hw
  have h1' : (0 : Int) ≤ z := h1
  have h2' : z ≤ 18446744073709551615 := h2
  exact ⟨z.toNat, by rw [Int.toNat_of_nonneg h1'], by omega⟩
theorem open_i64 {H : Type} {enc : TypeId × Value → H} {P : Program} {W : World} {base : Nat} {spare : Nat → Bool} {held : Bool} {t : TypeId} {n : Nat} {cs : List Value} {y : DataW H × List MemPlace} (ht : P.underlying t = some (.int .i64)) (h : DataW.trod enc P W base spare held n t cs = some y) : ∃ x : Int, cs = [.int .i64 x] ∧ -9223372036854775808 ≤ x ∧ x ≤ 9223372036854775807 := by
  obtain ⟨z, rfl, _, hw⟩ := DataW.trod_int ht h
  simp only [Lit.wf, Bool.and_eq_true, decide_eq_true_eq] at hw
  exact ⟨z, rfl, hw.1, hw.2⟩
theorem open_str {H : Type} {enc : TypeId × Value → H} {P : Program} {W : World} {base : Nat} {spare : Nat → Bool} {held : Bool} {t : TypeId} {n : Nat} {cs : List Value} {y : DataW H × List MemPlace} (ht : P.underlying t = some .string) (h : DataW.trod enc P W base spare held n t cs = some y) : ∃ x : ByteArray, cs = [.string x] ∧ x.size ≤ 9223372036854775807 := by
  obtain ⟨s, rfl, _, hw⟩ := DataW.trod_string ht h
  exact ⟨s, rfl, by simpa [maxLen] using hw⟩
theorem cut_nil {cs : List Value} {n m : Nat} (h : cs.length = n) (hm : n ≤ m) : cs.drop m = [] := List.drop_eq_nil_of_le (by omega)
section
variable {H : Type} {enc : TypeId × Value → H} {P : Program} {w : World} {base : Nat} {spare : Nat → Bool} {held : Bool}
theorem trodAll_uncons {t : TypeId} {ts : List TypeId} {l : List Value} {ds : List (DataW H)} {ps : List MemPlace} (h : DataW.TrodAll enc P w base spare held (t :: ts) l ds ps) :
    ∃ v l' d ds' p q, l = v :: l' ∧ ds = d :: ds' ∧ ps = p ++ q ∧ DataW.Trod enc P w base spare held t v d p ∧ DataW.TrodAll enc P w base spare held ts l' ds' q := by
  cases l with
  | nil => cases ds <;> exact h.elim
  | cons v l =>
    cases ds with
    | nil => exact h.elim
    | cons d ds =>
      obtain ⟨p, q, h1, h2, rfl⟩ := h
      exact ⟨v, l, d, ds, p, q, rfl, rfl, rfl, h1, h2⟩
theorem trodAll_unnil {l : List Value} {ds : List (DataW H)} {ps : List MemPlace} (h : DataW.TrodAll enc P w base spare held [] l ds ps) : l = [] ∧ ds = [] ∧ ps = [] := by
  cases l with
  | nil =>
    cases ds with
    | nil => exact ⟨rfl, rfl, h⟩
    | cons d ds => exact h.elim
  | cons v l => cases ds <;> exact h.elim
theorem trodAll_n1 {t0 : TypeId} {args : Array Value} {ds : List (DataW H)} {ps : List MemPlace} (h : DataW.TrodAll enc P w base spare held [t0] args.toList ds ps) :
    ∃ v0 d0 p0, args = #[v0] ∧ ds = [d0] ∧ ps = p0 ∧ DataW.Trod enc P w base spare held t0 v0 d0 p0 := by
  obtain ⟨l⟩ := args
  replace h : DataW.TrodAll enc P w base spare held [t0] l ds ps := h
  obtain ⟨v0, l0, d0, e0, p0, q0, rfl, rfl, rfl, g0, h0⟩ := trodAll_uncons h
  obtain ⟨rfl, rfl, rfl⟩ := trodAll_unnil h0
  exact ⟨_, _, _, rfl, rfl, by simp, g0⟩
theorem trodAll_mkn1 {t0 : TypeId} {v0 : Value} {d0 : DataW H} {p0 : List MemPlace} (h0 : DataW.Trod enc P w base spare held t0 v0 d0 p0) :
    DataW.TrodAll enc P w base spare held [t0] [v0] [d0] (p0) :=
  trodAll_mk1 h0
theorem trodAll_n2 {t0 t1 : TypeId} {args : Array Value} {ds : List (DataW H)} {ps : List MemPlace} (h : DataW.TrodAll enc P w base spare held [t0, t1] args.toList ds ps) :
    ∃ v0 v1 d0 d1 p0 p1, args = #[v0, v1] ∧ ds = [d0, d1] ∧ ps = p0 ++ p1 ∧ DataW.Trod enc P w base spare held t0 v0 d0 p0 ∧ DataW.Trod enc P w base spare held t1 v1 d1 p1 := by
  obtain ⟨l⟩ := args
  replace h : DataW.TrodAll enc P w base spare held [t0, t1] l ds ps := h
  obtain ⟨v0, l0, d0, e0, p0, q0, rfl, rfl, rfl, g0, h0⟩ := trodAll_uncons h
  obtain ⟨v1, l1, d1, e1, p1, q1, rfl, rfl, rfl, g1, h1⟩ := trodAll_uncons h0
  obtain ⟨rfl, rfl, rfl⟩ := trodAll_unnil h1
  exact ⟨_, _, _, _, _, _, rfl, rfl, by simp, g0, g1⟩
theorem trodAll_mkn2 {t0 t1 : TypeId} {v0 v1 : Value} {d0 d1 : DataW H} {p0 p1 : List MemPlace} (h0 : DataW.Trod enc P w base spare held t0 v0 d0 p0) (h1 : DataW.Trod enc P w base spare held t1 v1 d1 p1) :
    DataW.TrodAll enc P w base spare held [t0, t1] [v0, v1] [d0, d1] (p0 ++ p1) :=
  ⟨p0, _, h0, trodAll_mk1 h1, rfl⟩
theorem trodAll_n3 {t0 t1 t2 : TypeId} {args : Array Value} {ds : List (DataW H)} {ps : List MemPlace} (h : DataW.TrodAll enc P w base spare held [t0, t1, t2] args.toList ds ps) :
    ∃ v0 v1 v2 d0 d1 d2 p0 p1 p2, args = #[v0, v1, v2] ∧ ds = [d0, d1, d2] ∧ ps = p0 ++ (p1 ++ p2) ∧ DataW.Trod enc P w base spare held t0 v0 d0 p0 ∧ DataW.Trod enc P w base spare held t1 v1 d1 p1 ∧ DataW.Trod enc P w base spare held t2 v2 d2 p2 := by
  obtain ⟨l⟩ := args
  replace h : DataW.TrodAll enc P w base spare held [t0, t1, t2] l ds ps := h
  obtain ⟨v0, l0, d0, e0, p0, q0, rfl, rfl, rfl, g0, h0⟩ := trodAll_uncons h
  obtain ⟨v1, l1, d1, e1, p1, q1, rfl, rfl, rfl, g1, h1⟩ := trodAll_uncons h0
  obtain ⟨v2, l2, d2, e2, p2, q2, rfl, rfl, rfl, g2, h2⟩ := trodAll_uncons h1
  obtain ⟨rfl, rfl, rfl⟩ := trodAll_unnil h2
  exact ⟨_, _, _, _, _, _, _, _, _, rfl, rfl, by simp, g0, g1, g2⟩
theorem trodAll_mkn3 {t0 t1 t2 : TypeId} {v0 v1 v2 : Value} {d0 d1 d2 : DataW H} {p0 p1 p2 : List MemPlace} (h0 : DataW.Trod enc P w base spare held t0 v0 d0 p0) (h1 : DataW.Trod enc P w base spare held t1 v1 d1 p1) (h2 : DataW.Trod enc P w base spare held t2 v2 d2 p2) :
    DataW.TrodAll enc P w base spare held [t0, t1, t2] [v0, v1, v2] [d0, d1, d2] (p0 ++ (p1 ++ p2)) :=
  ⟨p0, _, h0, ⟨p1, _, h1, trodAll_mk1 h2, rfl⟩, rfl⟩
theorem trodAll_n4 {t0 t1 t2 t3 : TypeId} {args : Array Value} {ds : List (DataW H)} {ps : List MemPlace} (h : DataW.TrodAll enc P w base spare held [t0, t1, t2, t3] args.toList ds ps) :
    ∃ v0 v1 v2 v3 d0 d1 d2 d3 p0 p1 p2 p3, args = #[v0, v1, v2, v3] ∧ ds = [d0, d1, d2, d3] ∧ ps = p0 ++ (p1 ++ (p2 ++ p3)) ∧ DataW.Trod enc P w base spare held t0 v0 d0 p0 ∧ DataW.Trod enc P w base spare held t1 v1 d1 p1 ∧ DataW.Trod enc P w base spare held t2 v2 d2 p2 ∧ DataW.Trod enc P w base spare held t3 v3 d3 p3 := by
  obtain ⟨l⟩ := args
  replace h : DataW.TrodAll enc P w base spare held [t0, t1, t2, t3] l ds ps := h
  obtain ⟨v0, l0, d0, e0, p0, q0, rfl, rfl, rfl, g0, h0⟩ := trodAll_uncons h
  obtain ⟨v1, l1, d1, e1, p1, q1, rfl, rfl, rfl, g1, h1⟩ := trodAll_uncons h0
  obtain ⟨v2, l2, d2, e2, p2, q2, rfl, rfl, rfl, g2, h2⟩ := trodAll_uncons h1
  obtain ⟨v3, l3, d3, e3, p3, q3, rfl, rfl, rfl, g3, h3⟩ := trodAll_uncons h2
  obtain ⟨rfl, rfl, rfl⟩ := trodAll_unnil h3
  exact ⟨_, _, _, _, _, _, _, _, _, _, _, _, rfl, rfl, by simp, g0, g1, g2, g3⟩
theorem trodAll_mkn4 {t0 t1 t2 t3 : TypeId} {v0 v1 v2 v3 : Value} {d0 d1 d2 d3 : DataW H} {p0 p1 p2 p3 : List MemPlace} (h0 : DataW.Trod enc P w base spare held t0 v0 d0 p0) (h1 : DataW.Trod enc P w base spare held t1 v1 d1 p1) (h2 : DataW.Trod enc P w base spare held t2 v2 d2 p2) (h3 : DataW.Trod enc P w base spare held t3 v3 d3 p3) :
    DataW.TrodAll enc P w base spare held [t0, t1, t2, t3] [v0, v1, v2, v3] [d0, d1, d2, d3] (p0 ++ (p1 ++ (p2 ++ p3))) :=
  ⟨p0, _, h0, ⟨p1, _, h1, ⟨p2, _, h2, trodAll_mk1 h3, rfl⟩, rfl⟩, rfl⟩
theorem trodAll_n5 {t0 t1 t2 t3 t4 : TypeId} {args : Array Value} {ds : List (DataW H)} {ps : List MemPlace} (h : DataW.TrodAll enc P w base spare held [t0, t1, t2, t3, t4] args.toList ds ps) :
    ∃ v0 v1 v2 v3 v4 d0 d1 d2 d3 d4 p0 p1 p2 p3 p4, args = #[v0, v1, v2, v3, v4] ∧ ds = [d0, d1, d2, d3, d4] ∧ ps = p0 ++ (p1 ++ (p2 ++ (p3 ++ p4))) ∧ DataW.Trod enc P w base spare held t0 v0 d0 p0 ∧ DataW.Trod enc P w base spare held t1 v1 d1 p1 ∧ DataW.Trod enc P w base spare held t2 v2 d2 p2 ∧ DataW.Trod enc P w base spare held t3 v3 d3 p3 ∧ DataW.Trod enc P w base spare held t4 v4 d4 p4 := by
  obtain ⟨l⟩ := args
  replace h : DataW.TrodAll enc P w base spare held [t0, t1, t2, t3, t4] l ds ps := h
  obtain ⟨v0, l0, d0, e0, p0, q0, rfl, rfl, rfl, g0, h0⟩ := trodAll_uncons h
  obtain ⟨v1, l1, d1, e1, p1, q1, rfl, rfl, rfl, g1, h1⟩ := trodAll_uncons h0
  obtain ⟨v2, l2, d2, e2, p2, q2, rfl, rfl, rfl, g2, h2⟩ := trodAll_uncons h1
  obtain ⟨v3, l3, d3, e3, p3, q3, rfl, rfl, rfl, g3, h3⟩ := trodAll_uncons h2
  obtain ⟨v4, l4, d4, e4, p4, q4, rfl, rfl, rfl, g4, h4⟩ := trodAll_uncons h3
  obtain ⟨rfl, rfl, rfl⟩ := trodAll_unnil h4
  exact ⟨_, _, _, _, _, _, _, _, _, _, _, _, _, _, _, rfl, rfl, by simp, g0, g1, g2, g3, g4⟩
theorem trodAll_mkn5 {t0 t1 t2 t3 t4 : TypeId} {v0 v1 v2 v3 v4 : Value} {d0 d1 d2 d3 d4 : DataW H} {p0 p1 p2 p3 p4 : List MemPlace} (h0 : DataW.Trod enc P w base spare held t0 v0 d0 p0) (h1 : DataW.Trod enc P w base spare held t1 v1 d1 p1) (h2 : DataW.Trod enc P w base spare held t2 v2 d2 p2) (h3 : DataW.Trod enc P w base spare held t3 v3 d3 p3) (h4 : DataW.Trod enc P w base spare held t4 v4 d4 p4) :
    DataW.TrodAll enc P w base spare held [t0, t1, t2, t3, t4] [v0, v1, v2, v3, v4] [d0, d1, d2, d3, d4] (p0 ++ (p1 ++ (p2 ++ (p3 ++ p4)))) :=
  ⟨p0, _, h0, ⟨p1, _, h1, ⟨p2, _, h2, ⟨p3, _, h3, trodAll_mk1 h4, rfl⟩, rfl⟩, rfl⟩, rfl⟩
theorem trodAll_n6 {t0 t1 t2 t3 t4 t5 : TypeId} {args : Array Value} {ds : List (DataW H)} {ps : List MemPlace} (h : DataW.TrodAll enc P w base spare held [t0, t1, t2, t3, t4, t5] args.toList ds ps) :
    ∃ v0 v1 v2 v3 v4 v5 d0 d1 d2 d3 d4 d5 p0 p1 p2 p3 p4 p5, args = #[v0, v1, v2, v3, v4, v5] ∧ ds = [d0, d1, d2, d3, d4, d5] ∧ ps = p0 ++ (p1 ++ (p2 ++ (p3 ++ (p4 ++ p5)))) ∧ DataW.Trod enc P w base spare held t0 v0 d0 p0 ∧ DataW.Trod enc P w base spare held t1 v1 d1 p1 ∧ DataW.Trod enc P w base spare held t2 v2 d2 p2 ∧ DataW.Trod enc P w base spare held t3 v3 d3 p3 ∧ DataW.Trod enc P w base spare held t4 v4 d4 p4 ∧ DataW.Trod enc P w base spare held t5 v5 d5 p5 := by
  obtain ⟨l⟩ := args
  replace h : DataW.TrodAll enc P w base spare held [t0, t1, t2, t3, t4, t5] l ds ps := h
  obtain ⟨v0, l0, d0, e0, p0, q0, rfl, rfl, rfl, g0, h0⟩ := trodAll_uncons h
  obtain ⟨v1, l1, d1, e1, p1, q1, rfl, rfl, rfl, g1, h1⟩ := trodAll_uncons h0
  obtain ⟨v2, l2, d2, e2, p2, q2, rfl, rfl, rfl, g2, h2⟩ := trodAll_uncons h1
  obtain ⟨v3, l3, d3, e3, p3, q3, rfl, rfl, rfl, g3, h3⟩ := trodAll_uncons h2
  obtain ⟨v4, l4, d4, e4, p4, q4, rfl, rfl, rfl, g4, h4⟩ := trodAll_uncons h3
  obtain ⟨v5, l5, d5, e5, p5, q5, rfl, rfl, rfl, g5, h5⟩ := trodAll_uncons h4
  obtain ⟨rfl, rfl, rfl⟩ := trodAll_unnil h5
  exact ⟨_, _, _, _, _, _, _, _, _, _, _, _, _, _, _, _, _, _, rfl, rfl, by simp, g0, g1, g2, g3, g4, g5⟩
theorem trodAll_mkn6 {t0 t1 t2 t3 t4 t5 : TypeId} {v0 v1 v2 v3 v4 v5 : Value} {d0 d1 d2 d3 d4 d5 : DataW H} {p0 p1 p2 p3 p4 p5 : List MemPlace} (h0 : DataW.Trod enc P w base spare held t0 v0 d0 p0) (h1 : DataW.Trod enc P w base spare held t1 v1 d1 p1) (h2 : DataW.Trod enc P w base spare held t2 v2 d2 p2) (h3 : DataW.Trod enc P w base spare held t3 v3 d3 p3) (h4 : DataW.Trod enc P w base spare held t4 v4 d4 p4) (h5 : DataW.Trod enc P w base spare held t5 v5 d5 p5) :
    DataW.TrodAll enc P w base spare held [t0, t1, t2, t3, t4, t5] [v0, v1, v2, v3, v4, v5] [d0, d1, d2, d3, d4, d5] (p0 ++ (p1 ++ (p2 ++ (p3 ++ (p4 ++ p5))))) :=
  ⟨p0, _, h0, ⟨p1, _, h1, ⟨p2, _, h2, ⟨p3, _, h3, ⟨p4, _, h4, trodAll_mk1 h5, rfl⟩, rfl⟩, rfl⟩, rfl⟩, rfl⟩
theorem trodAll_n7 {t0 t1 t2 t3 t4 t5 t6 : TypeId} {args : Array Value} {ds : List (DataW H)} {ps : List MemPlace} (h : DataW.TrodAll enc P w base spare held [t0, t1, t2, t3, t4, t5, t6] args.toList ds ps) :
    ∃ v0 v1 v2 v3 v4 v5 v6 d0 d1 d2 d3 d4 d5 d6 p0 p1 p2 p3 p4 p5 p6, args = #[v0, v1, v2, v3, v4, v5, v6] ∧ ds = [d0, d1, d2, d3, d4, d5, d6] ∧ ps = p0 ++ (p1 ++ (p2 ++ (p3 ++ (p4 ++ (p5 ++ p6))))) ∧ DataW.Trod enc P w base spare held t0 v0 d0 p0 ∧ DataW.Trod enc P w base spare held t1 v1 d1 p1 ∧ DataW.Trod enc P w base spare held t2 v2 d2 p2 ∧ DataW.Trod enc P w base spare held t3 v3 d3 p3 ∧ DataW.Trod enc P w base spare held t4 v4 d4 p4 ∧ DataW.Trod enc P w base spare held t5 v5 d5 p5 ∧ DataW.Trod enc P w base spare held t6 v6 d6 p6 := by
  obtain ⟨l⟩ := args
  replace h : DataW.TrodAll enc P w base spare held [t0, t1, t2, t3, t4, t5, t6] l ds ps := h
  obtain ⟨v0, l0, d0, e0, p0, q0, rfl, rfl, rfl, g0, h0⟩ := trodAll_uncons h
  obtain ⟨v1, l1, d1, e1, p1, q1, rfl, rfl, rfl, g1, h1⟩ := trodAll_uncons h0
  obtain ⟨v2, l2, d2, e2, p2, q2, rfl, rfl, rfl, g2, h2⟩ := trodAll_uncons h1
  obtain ⟨v3, l3, d3, e3, p3, q3, rfl, rfl, rfl, g3, h3⟩ := trodAll_uncons h2
  obtain ⟨v4, l4, d4, e4, p4, q4, rfl, rfl, rfl, g4, h4⟩ := trodAll_uncons h3
  obtain ⟨v5, l5, d5, e5, p5, q5, rfl, rfl, rfl, g5, h5⟩ := trodAll_uncons h4
  obtain ⟨v6, l6, d6, e6, p6, q6, rfl, rfl, rfl, g6, h6⟩ := trodAll_uncons h5
  obtain ⟨rfl, rfl, rfl⟩ := trodAll_unnil h6
  exact ⟨_, _, _, _, _, _, _, _, _, _, _, _, _, _, _, _, _, _, _, _, _, rfl, rfl, by simp, g0, g1, g2, g3, g4, g5, g6⟩
theorem trodAll_mkn7 {t0 t1 t2 t3 t4 t5 t6 : TypeId} {v0 v1 v2 v3 v4 v5 v6 : Value} {d0 d1 d2 d3 d4 d5 d6 : DataW H} {p0 p1 p2 p3 p4 p5 p6 : List MemPlace} (h0 : DataW.Trod enc P w base spare held t0 v0 d0 p0) (h1 : DataW.Trod enc P w base spare held t1 v1 d1 p1) (h2 : DataW.Trod enc P w base spare held t2 v2 d2 p2) (h3 : DataW.Trod enc P w base spare held t3 v3 d3 p3) (h4 : DataW.Trod enc P w base spare held t4 v4 d4 p4) (h5 : DataW.Trod enc P w base spare held t5 v5 d5 p5) (h6 : DataW.Trod enc P w base spare held t6 v6 d6 p6) :
    DataW.TrodAll enc P w base spare held [t0, t1, t2, t3, t4, t5, t6] [v0, v1, v2, v3, v4, v5, v6] [d0, d1, d2, d3, d4, d5, d6] (p0 ++ (p1 ++ (p2 ++ (p3 ++ (p4 ++ (p5 ++ p6)))))) :=
  ⟨p0, _, h0, ⟨p1, _, h1, ⟨p2, _, h2, ⟨p3, _, h3, ⟨p4, _, h4, ⟨p5, _, h5, trodAll_mk1 h6, rfl⟩, rfl⟩, rfl⟩, rfl⟩, rfl⟩, rfl⟩
theorem trodAll_n8 {t0 t1 t2 t3 t4 t5 t6 t7 : TypeId} {args : Array Value} {ds : List (DataW H)} {ps : List MemPlace} (h : DataW.TrodAll enc P w base spare held [t0, t1, t2, t3, t4, t5, t6, t7] args.toList ds ps) :
    ∃ v0 v1 v2 v3 v4 v5 v6 v7 d0 d1 d2 d3 d4 d5 d6 d7 p0 p1 p2 p3 p4 p5 p6 p7, args = #[v0, v1, v2, v3, v4, v5, v6, v7] ∧ ds = [d0, d1, d2, d3, d4, d5, d6, d7] ∧ ps = p0 ++ (p1 ++ (p2 ++ (p3 ++ (p4 ++ (p5 ++ (p6 ++ p7)))))) ∧ DataW.Trod enc P w base spare held t0 v0 d0 p0 ∧ DataW.Trod enc P w base spare held t1 v1 d1 p1 ∧ DataW.Trod enc P w base spare held t2 v2 d2 p2 ∧ DataW.Trod enc P w base spare held t3 v3 d3 p3 ∧ DataW.Trod enc P w base spare held t4 v4 d4 p4 ∧ DataW.Trod enc P w base spare held t5 v5 d5 p5 ∧ DataW.Trod enc P w base spare held t6 v6 d6 p6 ∧ DataW.Trod enc P w base spare held t7 v7 d7 p7 := by
  obtain ⟨l⟩ := args
  replace h : DataW.TrodAll enc P w base spare held [t0, t1, t2, t3, t4, t5, t6, t7] l ds ps := h
  obtain ⟨v0, l0, d0, e0, p0, q0, rfl, rfl, rfl, g0, h0⟩ := trodAll_uncons h
  obtain ⟨v1, l1, d1, e1, p1, q1, rfl, rfl, rfl, g1, h1⟩ := trodAll_uncons h0
  obtain ⟨v2, l2, d2, e2, p2, q2, rfl, rfl, rfl, g2, h2⟩ := trodAll_uncons h1
  obtain ⟨v3, l3, d3, e3, p3, q3, rfl, rfl, rfl, g3, h3⟩ := trodAll_uncons h2
  obtain ⟨v4, l4, d4, e4, p4, q4, rfl, rfl, rfl, g4, h4⟩ := trodAll_uncons h3
  obtain ⟨v5, l5, d5, e5, p5, q5, rfl, rfl, rfl, g5, h5⟩ := trodAll_uncons h4
  obtain ⟨v6, l6, d6, e6, p6, q6, rfl, rfl, rfl, g6, h6⟩ := trodAll_uncons h5
  obtain ⟨v7, l7, d7, e7, p7, q7, rfl, rfl, rfl, g7, h7⟩ := trodAll_uncons h6
  obtain ⟨rfl, rfl, rfl⟩ := trodAll_unnil h7
  exact ⟨_, _, _, _, _, _, _, _, _, _, _, _, _, _, _, _, _, _, _, _, _, _, _, _, rfl, rfl, by simp, g0, g1, g2, g3, g4, g5, g6, g7⟩
theorem trodAll_mkn8 {t0 t1 t2 t3 t4 t5 t6 t7 : TypeId} {v0 v1 v2 v3 v4 v5 v6 v7 : Value} {d0 d1 d2 d3 d4 d5 d6 d7 : DataW H} {p0 p1 p2 p3 p4 p5 p6 p7 : List MemPlace} (h0 : DataW.Trod enc P w base spare held t0 v0 d0 p0) (h1 : DataW.Trod enc P w base spare held t1 v1 d1 p1) (h2 : DataW.Trod enc P w base spare held t2 v2 d2 p2) (h3 : DataW.Trod enc P w base spare held t3 v3 d3 p3) (h4 : DataW.Trod enc P w base spare held t4 v4 d4 p4) (h5 : DataW.Trod enc P w base spare held t5 v5 d5 p5) (h6 : DataW.Trod enc P w base spare held t6 v6 d6 p6) (h7 : DataW.Trod enc P w base spare held t7 v7 d7 p7) :
    DataW.TrodAll enc P w base spare held [t0, t1, t2, t3, t4, t5, t6, t7] [v0, v1, v2, v3, v4, v5, v6, v7] [d0, d1, d2, d3, d4, d5, d6, d7] (p0 ++ (p1 ++ (p2 ++ (p3 ++ (p4 ++ (p5 ++ (p6 ++ p7))))))) :=
  ⟨p0, _, h0, ⟨p1, _, h1, ⟨p2, _, h2, ⟨p3, _, h3, ⟨p4, _, h4, ⟨p5, _, h5, ⟨p6, _, h6, trodAll_mk1 h7, rfl⟩, rfl⟩, rfl⟩, rfl⟩, rfl⟩, rfl⟩, rfl⟩
end
end Go.Sl
