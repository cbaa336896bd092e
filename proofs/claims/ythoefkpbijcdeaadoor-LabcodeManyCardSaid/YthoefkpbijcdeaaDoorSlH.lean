/- Lists in memory: those that are read (facts), those of the call's own (atoms). -/
import Derived.Test.YthoefkpbijcdeaaDoorSlG
import Derived.Maps.AppendAt
import Derived.Laws.MakeOwn
import Derived.Laws.CopyRow
import Derived.Laws.IdiomCopy
set_option linter.unusedVariables false
set_option linter.unusedSimpArgs false
namespace Go.Sl
open Go Go.RowKit

/-- How an element of a list lies in cells. -/
structure Ty (α : Type) where
  sz : Nat
  enc : α → List Value
  len : ∀ x, (enc x).length = sz
  one : ∀ x, oneAll (enc x) = true
def Ty.cells {α : Type} (d : Ty α) (l : List α) : List Value := l.flatMap d.enc
theorem Ty.cells_length {α : Type} (d : Ty α) : ∀ l : List α, (d.cells l).length = l.length * d.sz
  | [] => by simp [Ty.cells]
  | x :: l => by
    have := d.cells_length l
    unfold Ty.cells at *
    simp [List.flatMap_cons, d.len, this, Nat.add_mul, Nat.add_comm]
theorem Ty.cells_append {α : Type} (d : Ty α) (l m : List α) : d.cells (l ++ m) = d.cells l ++ d.cells m := by simp [Ty.cells]
theorem Ty.cells_one {α : Type} (d : Ty α) (l : List α) : ∀ u ∈ d.cells l, u.oneCell' = true := by
  intro u hu
  simp only [Ty.cells, List.mem_flatMap] at hu
  obtain ⟨x, _, hx⟩ := hu
  exact List.all_eq_true.1 (d.one x) u hx
theorem Ty.cells_drop {α : Type} (d : Ty α) : ∀ (l : List α) (k : Nat), d.cells (l.drop k) = (d.cells l).drop (k * d.sz)
  | l, 0 => by simp
  | [], k + 1 => by simp [Ty.cells]
  | x :: l, k + 1 => by
    have := d.cells_drop l k
    simp only [List.drop_succ_cons, this]
    unfold Ty.cells
    have h1 : (k + 1) * d.sz - d.sz = k * d.sz := by rw [Nat.add_mul, Nat.one_mul]; omega
    have h2 : (d.enc x).drop ((k + 1) * d.sz) = [] := List.drop_eq_nil_of_le (by rw [d.len, Nat.add_mul, Nat.one_mul]; omega)
    rw [List.flatMap_cons, List.drop_append, d.len, h1, h2]
    simp
theorem Ty.cells_take {α : Type} (d : Ty α) : ∀ (l : List α) (k : Nat), d.cells (l.take k) = (d.cells l).take (k * d.sz)
  | l, 0 => by simp [Ty.cells]
  | [], k + 1 => by simp [Ty.cells]
  | x :: l, k + 1 => by
    have := d.cells_take l k
    unfold Ty.cells at *
    simp only [List.take_succ_cons, List.flatMap_cons, this]
    have h1 : (k + 1) * d.sz - d.sz = k * d.sz := by rw [Nat.add_mul, Nat.one_mul]; omega
    have h2 : (d.enc x).take ((k + 1) * d.sz) = d.enc x := List.take_of_length_le (by rw [d.len, Nat.add_mul, Nat.one_mul]; omega)
    rw [List.take_append, d.len, h1, h2]
theorem Ty.cells_at {α : Type} (d : Ty α) {l : List α} {k : Nat} {x : α} (h : l[k]? = some x) : ((d.cells l).drop (k * d.sz)).take d.sz = d.enc x := by
  rw [← d.cells_drop]
  obtain ⟨hk, he⟩ := List.getElem?_eq_some_iff.1 h
  rw [List.drop_eq_getElem_cons hk, he]
  unfold Ty.cells
  rw [List.flatMap_cons, List.take_append_of_le_length (by rw [d.len]; exact Nat.le_refl _), List.take_of_length_le (by rw [d.len]; exact Nat.le_refl _)]

/-- At b, from o on, stand these values (and nobody writes there). -/
def cellsAt (b o : Nat) (vs : List Value) : Atom := fun h => ∃ cur T fr, h b = some (.cells cur T fr) ∧ ∀ j v, vs[j]? = some v → cur[o + j]? = some v
/-- A slice that is read. -/
def rd {α : Type} (d : Ty α) (A : Option Addr) (c : Nat) (l : List α) : Atom := fun h => l.length ≤ c ∧ l.length ≤ 9223372036854775807 ∧ (0 < l.length → ∃ b o, A = some ⟨b, o, none⟩ ∧ cellsAt b o (d.cells l) h)
/-- A slice of the call's own. -/
def ars {α : Type} (d : Ty α) (T : TypeId) (A : Option Addr) (c : Nat) (l : List α) : Atom := fun h =>
  (A = none ∧ c = 0 ∧ l = []) ∨ ∃ b cur, A = some ⟨b, 0, none⟩ ∧ h b = some (.cells cur T (0, 0)) ∧ l.length ≤ c ∧ c ≤ maxLen ∧ cur.size = c * d.sz ∧ cur.toList.take (l.length * d.sz) = d.cells l

theorem cellsAt.cell {b o : Nat} {vs : List Value} {h : Hp} {w : World} (a : cellsAt b o vs h) (l : le h (hpOf w)) {j : Nat} {v : Value} (hv : vs[j]? = some v) : w.cell? ⟨b, o + j, none⟩ = some v := by
  obtain ⟨cur, T, fr, hb, hc⟩ := a
  rw [cell_of (l _ _ hb)]
  exact hc j v hv
theorem cellsAt.part {b o : Nat} {vs us : List Value} {h : Hp} (a : cellsAt b o vs h) (k m : Nat) (hu : (vs.drop k).take m = us) : cellsAt b (o + k) us h := by
  obtain ⟨cur, T, fr, hb, hc⟩ := a
  refine ⟨cur, T, fr, hb, fun j v hj => ?_⟩
  rw [← hu, List.getElem?_take] at hj
  split at hj
  · rw [Nat.add_assoc]; exact hc (k + j) v (by simpa using hj)
  · cases hj
theorem ars.reads {α : Type} {d : Ty α} {T : TypeId} {A : Option Addr} {c : Nat} {l : List α} {h : Hp} (a : ars d T A c l h) : rd d A c l h := by
  rcases a with ⟨rfl, rfl, rfl⟩ | ⟨b, cur, rfl, hb, hl, hm, hs, ht⟩
  · exact ⟨Nat.le_refl _, by simp, fun h => absurd h (by simp)⟩
  · refine ⟨hl, by simp only [maxLen] at hm; omega, fun _ => ⟨b, 0, rfl, cur, T, (0, 0), hb, fun j v hj => ?_⟩⟩
    rw [← ht, List.getElem?_take] at hj
    split at hj
    · simpa using hj
    · cases hj
theorem ars.owns {α : Type} {d : Ty α} {T : TypeId} {A : Option Addr} {c : Nat} {l : List α} {h : Hp} {w : World} (a : ars d T A c l h) (le : le h (hpOf w)) : w.ownsRow 0 T d.sz (.slice A l.length c) l.length (d.cells l) := by
  refine ⟨d.cells_length l, ?_⟩
  rcases a with ⟨rfl, rfl, rfl⟩ | ⟨b, cur, rfl, hb, hl, hm, hs, ht⟩
  · exact .inl ⟨rfl, rfl⟩
  · exact .inr ⟨b, c, cur, rfl, Nat.zero_le _, le _ _ hb, hl, hm, hs, ht⟩
theorem ars.block {α : Type} {d : Ty α} {T : TypeId} {A : Option Addr} {c n : Nat} {l : List α} {h : Hp} (a : ars d T A c l h) {k : Nat} (hk : (Value.slice A n c).ownBlock = some k) : ∃ o, h k = some o := by
  rcases a with ⟨rfl, rfl, rfl⟩ | ⟨b, cur, rfl, hb, _⟩
  · simp [Value.ownBlock] at hk
  · have : b = k := by simpa [Value.ownBlock] using hk
    subst this
    exact ⟨_, hb⟩

section
variable {n : Nat} {C : Ctx} {e : Env} {D : List Deferred} {L I : List Atom} {P : Program} {ro : Option Nat} {Q : Exit → Act → World → Prop} {K X : Act → World → Prop} {ops : Array Oper} {ds : List Nat} {H : List (Addr × Value)} {k : Nat} {l' : Array Bool}

/-- One of the call's own rows was turned, or laid anew. -/
theorem turn_own {w w1 : World} (ho : Own C L I w) (i : Nat) {α : Type} {d : Ty α} {T : TypeId} {A : Option Addr} {c : Nat} {l : List α} (hi : L[i]? = some (ars d T A c l)) {m0 : Nat} {v1 : Value} {n1 : Nat} {xs : List Value} (hg : w.grownBy w1 (Value.slice A m0 c).ownBlock) (hown : w1.ownsRow 0 T d.sz v1 n1 xs)
    (hat : v1.ownBlock = (Value.slice A m0 c).ownBlock ∨ v1.ownBlock = some w.heap.size) {l1 : List α} (hx : xs = d.cells l1) (hn : n1 = l1.length) :
    ∃ A1 c1, v1 = .slice A1 l1.length c1 ∧ Own C (L.set i (ars d T A1 c1 l1)) I w1 := by
  subst hx; subst hn
  obtain ⟨h, hI, o⟩ := ho
  obtain ⟨h1, h2, dd, s1, s2, a, s⟩ := Sep.take i hi o.sep
  have hother : ∀ k : Hp, apart h1 k → le k (hpOf w) → le k (hpOf w1) := fun k hk hl j z hz => by
    have h0 := hl j z hz
    have hlt : j < w.heap.size := (Array.getElem?_eq_some_iff.1 h0).1
    refine (hg.block j hlt ?_).trans h0
    intro e
    obtain ⟨z', hz'⟩ := a.block e.symm
    rcases hk j with q | q
    · rw [hz'] at q; cases q
    · rw [hz] at q; cases q
  have hfresh : ∀ k : Hp, le k (hpOf w) → k w.heap.size = none := fun k hk => by
    cases hc : k w.heap.size with
    | none => rfl
    | some y => have := hk _ _ hc; simp [hpOf] at this
  have dI : apart h1 hI := o.d1.mono_left s1
  have dR : apart h1 C.R := o.d2.mono_left s1
  -- the new part
  have hnew : ∃ (A1 : Option Addr) (c1 : Nat) (k1 : Hp), v1 = .slice A1 l1.length c1 ∧ ars d T A1 c1 l1 k1 ∧ le k1 (hpOf w1) ∧ ∀ m : Hp, apart h1 m → le m (hpOf w) → apart k1 m := by
    rcases hown.2 with ⟨rfl, h0⟩ | ⟨g, cap, cur, rfl, _, hh, hnc, hcm, hcs, ht⟩
    · have : l1 = [] := List.eq_nil_of_length_eq_zero h0
      subst this
      exact ⟨none, 0, nothing, rfl, .inl ⟨rfl, rfl, rfl⟩, nothing_le _, fun m _ _ => nothing_apart m⟩
    · refine ⟨some ⟨g, 0, none⟩, cap, one g (.cells cur T (0, 0)), rfl, .inr ⟨g, cur, rfl, one_self _ _, hnc, hcm, hcs, ht⟩, one_le hh, fun m hm hl => ?_⟩
      refine (apart_one ?_).symm
      rcases hat with q | q
      · have hq : (Value.slice A m0 c).ownBlock = some g := by rw [← q]; rfl
        obtain ⟨z', hz'⟩ := a.block hq
        rcases hm g with r | r
        · rw [hz'] at r; cases r
        · exact r
      · have : g = w.heap.size := by simpa [Value.ownBlock] using q
        rw [this]; exact hfresh m hl
  obtain ⟨A1, c1, k1, rfl, ha1, hl1, hap⟩ := hnew
  have l2w : le h2 (hpOf w) := s2.trans o.l1
  refine ⟨A1, c1, rfl, both k1 h2, hI, ?_, o.facts, o.base, ?_, ?_, o.d3, ?_, hother _ dI o.l2, hother _ dR o.l3, hg.os.trans o.os, hg.tape.trans o.tape, hg.output.trans o.output⟩
  · exact Sep.put i hi (hap _ dd l2w) (le_both_left _ _) (le_both_right (hap _ dd l2w)) ha1 s
  · exact apart_both (hap _ dI o.l2) (o.d1.mono_left s2)
  · exact apart_both (hap _ dR o.l3) (o.d2.mono_left s2)
  · exact both_le hl1 (hother _ dd l2w)

/-! ### Readings -/
theorem e_rd {α : Type} {d : Ty α} {A : Option Addr} {c : Nat} {l : List α} (i : Nat) (hi : I[i]? = some (rd d A c l)) (hne : 0 < l.length) (h : ∀ b o, A = some ⟨b, o, none⟩ → Ent n C e D L (cellsAt b o (d.cells l) :: I) X) : Ent n C e D L I X := fun a w kn s dd ho => by
  obtain ⟨h0, hI, o⟩ := ho
  obtain ⟨_, _, hr⟩ := o.facts _ (List.mem_of_getElem? hi) hI (le.refl _)
  obtain ⟨b, off, hA, hc⟩ := hr hne
  refine h b off hA a w kn s dd ⟨h0, hI, o.sep, Facts.cons (fun k hk => ?_) o.facts, o.base, o.d1, o.d2, o.d3, o.l1, o.l2, o.l3, o.os, o.tape, o.output⟩
  obtain ⟨cur, T, fr, hb, hcc⟩ := hc
  exact ⟨cur, T, fr, hk _ _ hb, hcc⟩
/-- What a reading says of lengths. -/
theorem e_len {α : Type} {d : Ty α} {A : Option Addr} {c : Nat} {l : List α} (i : Nat) (hi : I[i]? = some (rd d A c l)) (h : l.length ≤ c → l.length ≤ 9223372036854775807 → Ent n C e D L I X) : Ent n C e D L I X := fun a w kn s dd ho => by
  obtain ⟨h0, hI, o⟩ := ho
  obtain ⟨h1, h2, _⟩ := o.facts _ (List.mem_of_getElem? hi) hI (le.refl _)
  exact h h1 h2 a w kn s dd ⟨h0, hI, o⟩
theorem e_fact {φ : Atom} (hφ : ∀ h hI : Hp, Facts I hI → ∀ k, le hI k → φ k) (h : Ent n C e D L (φ :: I) X) : Ent n C e D L I X := fun a w kn s dd ho => by
  obtain ⟨h0, hI, o⟩ := ho
  exact h a w kn s dd ⟨h0, hI, o.sep, Facts.cons (fun k hk => hφ h0 hI o.facts k hk) o.facts, o.base, o.d1, o.d2, o.d3, o.l1, o.l2, o.l3, o.os, o.tape, o.output⟩
/-- The cells of one element. -/
theorem e_elem {α : Type} {d : Ty α} {b o : Nat} {l : List α} (i k : Nat) (hi : I[i]? = some (cellsAt b o (d.cells l))) (hk : k < l.length) (h : ∀ x, l[k]? = some x → Ent n C e D L (cellsAt b (o + k * d.sz) (d.enc x) :: I) X) : Ent n C e D L I X := by
  have hx : l[k]? = some l[k] := List.getElem?_eq_getElem hk
  refine e_fact (fun _ hI hf q hq => ?_) (h _ hx)
  exact (hf _ (List.mem_of_getElem? hi) q hq).part _ _ (d.cells_at hx)
/-- A list of the call's own that is written no more. -/
theorem e_still {α : Type} {d : Ty α} {T : TypeId} {A : Option Addr} {c : Nat} {l : List α} (i : Nat) (hi : L[i]? = some (ars d T A c l)) (h : Ent n C e D (L.eraseIdx i) (rd d A c l :: I) X) : Ent n C e D L I X := fun a w kn s dd ho => by
  obtain ⟨h0, hI, o⟩ := ho
  obtain ⟨h1, h2, ap, l1, l2, ha, hs⟩ := Sep.take i hi o.sep
  refine h a w kn s dd ⟨h2, both hI h1, hs, Facts.cons (fun k hk => ?_) (o.facts.up (le_both_left _ _)), o.base.trans (le_both_left _ _), apart_both' (o.d1.mono_left l2) ap.symm, o.d2.mono_left l2, apart_both o.d3 (o.d2.mono_left l1), l2.trans o.l1, both_le o.l2 (l1.trans o.l1), o.l3, o.os, o.tape, o.output⟩
  have hl : le h1 k := (le_both_right ((o.d1.mono_left l1).symm)).trans hk
  obtain ⟨q1, q2, q3⟩ := ha.reads
  refine ⟨q1, q2, fun hp => ?_⟩
  obtain ⟨b, off, hA, cur, T', fr, hb, hc⟩ := q3 hp
  exact ⟨b, off, hA, cur, T', fr, hl _ _ hb, hc⟩
/-- A block of the call's own that is written no more. -/
theorem e_calm {b T : Nat} {cs : List Value} (i : Nat) (hi : L[i]? = some (pt b cs T)) (h : Ent n C e D (L.eraseIdx i) (cellsAt b 0 cs :: I) X) : Ent n C e D L I X := fun a w kn s dd ho => by
  obtain ⟨h0, hI, o⟩ := ho
  obtain ⟨h1, h2, ap, l1, l2, ha, hs⟩ := Sep.take i hi o.sep
  refine h a w kn s dd ⟨h2, both hI h1, hs, Facts.cons (fun k hk => ?_) (o.facts.up (le_both_left _ _)), o.base.trans (le_both_left _ _), apart_both' (o.d1.mono_left l2) ap.symm, o.d2.mono_left l2, apart_both o.d3 (o.d2.mono_left l1), l2.trans o.l1, both_le o.l2 (l1.trans o.l1), o.l3, o.os, o.tape, o.output⟩
  have hl : le h1 k := (le_both_right ((o.d1.mono_left l1).symm)).trans hk
  exact ⟨cs.toArray, T, (0, 0), hl _ _ ha, fun j v hj => by simpa using hj⟩
/-- A new literal as a list that is read. -/
theorem e_lit {α : Type} (d : Ty α) {b : Nat} {cs : List Value} (l : List α) (i : Nat) (hi : I[i]? = some (cellsAt b 0 cs)) (hl : d.cells l = cs) (hm : l.length ≤ 9223372036854775807) (h : Ent n C e D L (rd d (some ⟨b, 0, none⟩) l.length l :: I) X) : Ent n C e D L I X := by
  refine e_fact (fun _ hI hf q hq => ?_) h
  refine ⟨Nat.le_refl _, hm, fun _ => ⟨b, 0, rfl, ?_⟩⟩
  rw [hl]; exact hf _ (List.mem_of_getElem? hi) q hq
theorem e_rdnil {α : Type} (d : Ty α) (A : Option Addr) (c : Nat) (h : Ent n C e D L (rd d A c [] :: I) X) : Ent n C e D L I X :=
  e_fact (fun _ hI hf q hq => ⟨Nat.zero_le _, by simp, fun h => absurd h (by simp)⟩) h
/-- Nil is an empty list of the call's own. -/
theorem e_nil {α : Type} (d : Ty α) (T : TypeId) (h : Ent n C e D (ars d T none 0 [] :: L) I X) : Ent n C e D L I X := fun a w kn s dd ho => by
  obtain ⟨h0, hI, o⟩ := ho
  exact h a w kn s dd ⟨h0, hI, ⟨nothing, h0, nothing_apart _, nothing_le _, le.refl _, .inl ⟨rfl, rfl, rfl⟩, o.sep⟩, o.facts, o.base, o.d1, o.d2, o.d3, o.l1, o.l2, o.l3, o.os, o.tape, o.output⟩

/-- Loads by a fact. -/
theorem o_ldf {dt : Tmp} {x : Operand} {t : TypeId} {ty : TypeId} {pos : String} {aft : Array Edge} {g : Option (Nat × Bool)} {b o : Nat} {cs : List Value} {v : Value} {d : TypeDesc} (i j : Nat)
    (hi : I[i]? = some (cellsAt b o cs)) (hx : ev e x = some (.pointer (some ⟨b, o + j, none⟩))) (hv : cs[j]? = some v) (hu : P.underlying t = some d) (ha : aggD d = false) (hd : Nat.blt dt n = true)
    (h : Ent n C ((dt, v) :: e) D L I K) : Ent n C e D L I (ow ro P ⟨some dt, .load t x, ty, pos, aft, g⟩ Q K) :=
  ow_pure rfl hd (by simp) (fun a w kn ho => by
    obtain ⟨h1, hl, hA⟩ := ho.fact (List.mem_of_getElem? hi)
    have hr := run_load1 (P := P) hu ha ((hA h1 (le.refl _)).cell hl hv)
    simp only [execOp, kn.eval hx, Sem.run_bind, hr, Result.andThen_ok, Sem.run_pure]) h
theorem o_ldnf {dt : Tmp} {x : Operand} {t : TypeId} {ty : TypeId} {pos : String} {aft : Array Edge} {g : Option (Nat × Bool)} {b o : Nat} {cs vs : List Value} {d : TypeDesc} (i j m : Nat)
    (hi : I[i]? = some (cellsAt b o cs)) (hx : ev e x = some (.pointer (some ⟨b, o + j, none⟩))) (hv : (cs.drop j).take m = vs) (hm : Nat.beq vs.length m = true) (hu : P.underlying t = some d) (ha : aggD d = true) (hsz : P.cellsOf t = m) (hin : (P.info? t).isSome = true) (hd : Nat.blt dt n = true)
    (h : Ent n C ((dt, .agg vs.toArray) :: e) D L I K) : Ent n C e D L I (ow ro P ⟨some dt, .load t x, ty, pos, aft, g⟩ Q K) :=
  ow_pure rfl hd (by simp) (fun a w kn ho => by
    obtain ⟨h1, hl, hA⟩ := ho.fact (List.mem_of_getElem? hi)
    have hm' := Nat.eq_of_beq_eq_true hm
    have hp := (hA h1 (le.refl _)).part j m hv
    have hr := run_loadn (P := P) hu ha (w := w) (p := ⟨b, o + j, none⟩) vs (by rw [hsz, hm']) hin (fun q v hq => by rw [add_none]; exact hp.cell hl hq)
    simp only [execOp, kn.eval hx, Sem.run_bind, hr, Result.andThen_ok, Sem.run_pure]) h
theorem held_fact {b o j : Nat} {cs : List Value} {v : Value} {r : List (Addr × Value)} (i : Nat) (hi : I[i]? = some (cellsAt b o cs)) (hv : cs[j]? = some v) (h : ∀ w, Own C L I w → Held r w) : ∀ w, Own C L I w → Held ((⟨b, o + j, none⟩, v) :: r) w :=
  fun w ho p hp => by
    rcases List.mem_cons.1 hp with rfl | hp
    · obtain ⟨h1, hl, hA⟩ := ho.fact (List.mem_of_getElem? hi)
      exact (hA h1 (le.refl _)).cell hl hv
    · exact h w ho p hp
/-- What a held cell yields: q is its place in H. -/
def Hs (P : Program) (e : Env) (H : List (Addr × Value)) (o : Oper) (v : Value) : Prop := ∀ a w, Knows e a → Held H w → (execOp a.eval o).run P w = .ok (.value v) w
theorem h_ld {d : Option Tmp} {x : Operand} {t : TypeId} {ty : TypeId} {pos : String} {aft : Array Edge} {g : Option (Nat × Bool)} {p : Addr} {v : Value} {dd : TypeDesc} (q : Nat) (hx : ev e x = some (.pointer (some p))) (hq : H[q]? = some (p, v)) (hu : P.underlying t = some dd) (ha : aggD dd = false) : Hs P e H ⟨d, .load t x, ty, pos, aft, g⟩ v := fun a w kn hh => by
  have hr := run_load1 (P := P) hu ha (hh _ (List.mem_of_getElem? hq))
  simp only [execOp, kn.eval hx, Sem.run_bind, hr, Result.andThen_ok, Sem.run_pure]
theorem h_ldn {d : Option Tmp} {x : Operand} {t : TypeId} {ty : TypeId} {pos : String} {aft : Array Edge} {g : Option (Nat × Bool)} {b o : Nat} {vs : List Value} {dd : TypeDesc} (q m : Nat) (hx : ev e x = some (.pointer (some ⟨b, o, none⟩))) (hq : (H.drop q).take m = vs.zipIdx.map (fun p => (⟨b, o + p.2, none⟩, p.1))) (hm : Nat.beq vs.length m = true) (hu : P.underlying t = some dd) (ha : aggD dd = true) (hsz : P.cellsOf t = m) (hin : (P.info? t).isSome = true) :
    Hs P e H ⟨d, .load t x, ty, pos, aft, g⟩ (.agg vs.toArray) := fun a w kn hh => by
  have hm' := Nat.eq_of_beq_eq_true hm
  have hr := run_loadn (P := P) hu ha (w := w) (p := ⟨b, o, none⟩) vs (by rw [hsz, hm']) hin (fun j v hj => by
    rw [add_none]
    have hmem : ((⟨b, o + j, none⟩ : Addr), v) ∈ (H.drop q).take m := by
      rw [hq]
      exact List.mem_map.2 ⟨(v, j), List.mk_mem_zipIdx_iff_getElem?.2 hj, rfl⟩
    exact hh (⟨b, o + j, none⟩, v) (List.mem_of_mem_drop (List.mem_of_mem_take hmem)))
  simp only [execOp, kn.eval hx, Sem.run_bind, hr, Result.andThen_ok, Sem.run_pure]

/-! ### Indices and cuts -/
theorem y_ix {α : Type} {d : Ty α} {dd : Option Tmp} {x i : Operand} {t el : TypeId} {ty : TypeId} {pos : String} {aft : Array Edge} {g : Option (Nat × Bool)} {b o m c : Nat} {z : Int} (k : Nat) (hx : ev e x = some (.slice (some ⟨b, o, none⟩) m c)) (hz : ev e i = some (.int .i64 z)) (hk : z = (k : Int)) (hlt : k < m) (ht : P.underlying t = some (.slice el)) (hsz : P.cellsOf el = d.sz) (hin : (P.info? el).isSome = true) :
    Ys P e ⟨dd, .indexAddr t x i, ty, pos, aft, g⟩ (.pointer (some ⟨b, o + k * d.sz, none⟩)) := fun a w kn => by
  subst hk
  obtain ⟨inf, hin⟩ := Option.isSome_iff_exists.1 hin
  have hs : inf.size = d.sz := by simpa [Program.cellsOf, hin] using hsz
  have h1 : (sizeOf el).run P w = .ok d.sz w := by simp [sizeOf, typeInfo, hin, hs]
  simp only [execOp, kn.eval hx, kn.eval hz, Instr.indexAt, asIntOf, Sem.run_bind, Sem.run_pure, Result.andThen_ok, run_underlying ht]
  rw [if_pos ⟨by omega, by omega⟩]
  simp only [Sem.run_bind, h1, Result.andThen_ok, Sem.run_pure, Int.toNat_natCast, add_none]
/-- The bounds of a cut, as numbers. -/
def bnd (lo : Option Operand) (e : Env) (dflt : Nat) (r : Nat) : Prop := match lo with | none => r = dflt | some x => ev e x = some (.int .i64 (r : Int))
theorem e_cutl {α : Type} {d : Ty α} {A : Option Addr} {c : Nat} {l : List α} {t el : TypeId} (P : Program) (i lo hi mx : Nat) (three : Bool) (hi' : I[i]? = some (rd d A c l)) (ht : P.underlying t = some (.slice el)) (hsz : P.cellsOf el = d.sz) (hin : (P.info? el).isSome = true) (h0 : lo ≤ hi) (h1 : hi ≤ l.length) (h2 : hi ≤ mx) (h3 : three = true → mx ≤ c) (h4 : three = false → mx = c)
    (h : ∀ A1, (∀ w, (do let size ← sizeOf el; pure (.slice (if mx = lo then A else A.map (·.add (lo * size))) (hi - lo) (mx - lo)) : Sem Value).run P w = .ok (.slice A1 ((l.take hi).drop lo).length (mx - lo)) w) → Ent n C e D L (rd d A1 (mx - lo) ((l.take hi).drop lo) :: I) X) : Ent n C e D L I X := fun a w kn s dd ho => by
  obtain ⟨inf, hin⟩ := Option.isSome_iff_exists.1 hin
  have hs : inf.size = d.sz := by simpa [Program.cellsOf, hin] using hsz
  have hlen : ((l.take hi).drop lo).length = hi - lo := by simp; omega
  refine h (if mx = lo then A else A.map (·.add (lo * d.sz))) (fun w => ?_) a w kn s dd ?_
  · simp [sizeOf, typeInfo, hin, hs, hlen]
  · obtain ⟨h0', hI, o⟩ := ho
    refine ⟨h0', hI, o.sep, Facts.cons (fun k hk => ?_) o.facts, o.base, o.d1, o.d2, o.d3, o.l1, o.l2, o.l3, o.os, o.tape, o.output⟩
    obtain ⟨q1, q2, q3⟩ := o.facts _ (List.mem_of_getElem? hi') k hk
    refine ⟨by omega, by omega, fun hp => ?_⟩
    obtain ⟨b, off, rfl, hc⟩ := q3 (by omega)
    refine ⟨b, off + lo * d.sz, ?_, ?_⟩
    · rw [if_neg (by omega)]
      simp [add_none]
    · refine hc.part (lo * d.sz) ((hi - lo) * d.sz) ?_
      rw [← d.cells_drop, ← d.cells_take, List.drop_take]
end
end Go.Sl
