/- From a contract to a row: what a call keeps; what the arguments and the laid variables give. -/
import Derived.Test.YthoefkpbijcdeaaDoorSlS
import Derived.ProofKit
import Derived.LaidMore
import Derived.OpenShut
import Derived.Stop.Joined
import Derived.Stop.LaidTwo
import Derived.Stop.LaidErr
import Derived.Carry
import Derived.Lib.SmallJoins
import Derived.SliceStrings
set_option linter.unusedVariables false
set_option linter.unusedSimpArgs false
namespace Go.Sl
open Go Go.RowKit Go.ChangeShapes Go.WideShapes Go.ChangeAt

theorem con_calls {P : Program} {f : FuncId} {args : List Value} {I : List Atom} {r : Value} (h : Con P f args [] I (fun v L' I' => v = r ∧ L' = [] ∧ I' = [])) {W : World} (hf : Facts I (hpOf W)) :
    Calls P f args.toArray W fun e W' => e = .returned r ∧ Below W.heap.size W W' := by
  have o : Own ⟨W, nothing, hpOf W⟩ [] I W := ⟨nothing, hpOf W, trivial, hf, le.refl _, nothing_apart _, nothing_apart _, apart_nothing _, nothing_le _, le.refl _, nothing_le _, rfl, rfl, rfl⟩
  refine (h.2 _ W o).mono ?_
  rintro e W' ⟨v, rfl, L', I', ⟨rfl, rfl, rfl⟩, h0, hI, m⟩
  have hle : le (hpOf W) (hpOf W') := m.base.trans m.l2
  refine ⟨rfl, m.os, m.tape, m.output, ?_, fun k hk => ?_⟩
  · rcases Nat.eq_zero_or_pos W.heap.size with h | h
    · omega
    · have h1 : hpOf W (W.heap.size - 1) = some W.heap[W.heap.size - 1] := Array.getElem?_eq_getElem (by omega)
      have := (Array.getElem?_eq_some_iff.1 (hle _ _ h1)).1
      omega
  · have h1 : hpOf W k = some W.heap[k] := Array.getElem?_eq_getElem hk
    exact (hle _ _ h1).trans h1.symm

theorem cellsAt_of {W : World} {a : Addr} {vs : List Value} (hne : 0 < vs.length) (h : ∀ j v, vs[j]? = some v → W.cell? (a.add j) = some v) : ∃ b o, a = ⟨b, o, none⟩ ∧ cellsAt b o vs (hpOf W) := by
  have h0 := h 0 vs[0] (List.getElem?_eq_getElem hne)
  obtain ⟨b, o, spot⟩ := a
  have hs : spot = none := by
    cases spot with
    | none => rfl
    | some s =>
      simp only [World.cell?, Addr.add] at h0
      split at h0 <;> simp at h0
  subst hs
  refine ⟨b, o, rfl, ?_⟩
  simp only [add_none] at h h0
  have hb : ∃ cur T fr, W.heap[b]? = some (.cells cur T fr) := by
    simp only [World.cell?] at h0
    split at h0
    · rename_i c T fr hc; exact ⟨c, T, fr, hc⟩
    · cases h0
  obtain ⟨cur, T, fr, hb⟩ := hb
  refine ⟨cur, T, fr, hb, fun j v hj => ?_⟩
  have := h j v hj
  rwa [cell_of hb] at this
theorem rd_of {α : Type} (d : Ty α) {W : World} {a : Addr} {c : Nat} {l : List α} (hc : l.length ≤ c) (hm : l.length ≤ 9223372036854775807) (hsz : 0 < d.sz) (h : ∀ j v, (d.cells l)[j]? = some v → W.cell? (a.add j) = some v) : ∀ k, le (hpOf W) k → rd d (some a) c l k := fun k hk => by
  refine rd.up (h := hpOf W) ⟨hc, hm, fun hp => ?_⟩ hk
  have : 0 < (d.cells l).length := by rw [d.cells_length]; exact Nat.mul_pos hp hsz
  obtain ⟨b, o, rfl, hc⟩ := cellsAt_of this h
  exact ⟨b, o, rfl, hc⟩
theorem rd_nil {α : Type} (d : Ty α) (A : Option Addr) (c : Nat) (k : Hp) : rd d A c [] k := ⟨Nat.zero_le _, by simp, fun h => absurd h (by simp)⟩
/-- A slice of texts, opened. -/
theorem open_texts {H : Type} {enc : TypeId × Value → H} {P : Program} {W : World} {base : Nat} {spare : Nat → Bool} {held : Bool} {t e : TypeId} {fuel : Nat} {v : Value} {x : DataW H × List MemPlace} (ht : P.underlying t = some (.slice e)) (he : P.underlying e = some .string) (hc : P.cellsOf e = 1)
    (h : DataW.trod enc P W base spare held fuel t [v] = some x) : ∃ (A : Option Addr) (c : Nat) (l : List ByteArray), v = .slice A l.length c ∧ ∀ k, le (hpOf W) k → rd strTy A c l k := by
  rcases open_strings ht he hc h with ⟨hcs, _⟩ | ⟨a, len, cap, ss, hcs, _, hl, hm, hz, _, hcell, _⟩
  · simp only [List.cons.injEq, and_true] at hcs
    exact ⟨none, 0, [], hcs, fun k _ => rd_nil _ _ _ _⟩
  · simp only [List.cons.injEq, and_true] at hcs
    have hlen : (ss.take len).length = len := by
      have : len ≤ ss.length := by rw [hz]; split <;> omega
      simp; omega
    refine ⟨some a, cap, ss.take len, by rw [hlen]; exact hcs, rd_of strTy (by rw [hlen]; exact hl) (by rw [hlen]; simp only [maxLen] at hm; omega) (by decide) fun j u hj => ?_⟩
    have e1 : ∀ l : List ByteArray, strTy.cells l = l.map fun s => Value.string s := fun l => by
      induction l with
      | nil => rfl
      | cons s r ih => unfold Ty.cells at *; rw [List.flatMap_cons, ih]; rfl
    rw [e1, List.getElem?_map, Option.map_eq_some_iff] at hj
    obtain ⟨s, hs, rfl⟩ := hj
    rw [List.getElem?_take] at hs
    split at hs
    · have hlt := (List.getElem?_eq_some_iff.1 hs).1
      have := hcell j hlt
      rw [this, List.getD_eq_getElem?_getD, hs]
      rfl
    · cases hs

/-- A sentinel of errors.New's make: what the walk asks of it. -/
structure Sent (P : Program) (W : World) (n : String) (g : Nat) (tp : TypeId) (a : Addr) : Prop where
  var : W.cell? ⟨g, 0, none⟩ = some (.iface tp (.pointer (some a)))
  blk : ∃ c t, W.heap[a.block]? = some (.cells c t (0, 0))
theorem sent_facts {P : Program} {W : World} {n : String} {g : Nat} {tp : TypeId} {a : Addr} (h : Sent P W n g tp a) : ∀ k, le (hpOf W) k → cellsAt g 0 [.iface tp (.pointer (some a))] k := fun k hk => by
  obtain ⟨b, o, he, cur, T, fr, hb, hc⟩ := cellsAt_of (W := W) (a := ⟨g, 0, none⟩) (vs := [.iface tp (.pointer (some a))]) (by simp) (fun j v hj => by
    cases j with
    | zero => simp at hj; subst hj; rw [add_none]; exact h.var
    | succ j => simp at hj)
  simp only [Addr.mk.injEq] at he
  obtain ⟨rfl, rfl, _⟩ := he
  exact ⟨cur, T, fr, hk _ _ hb, hc⟩
/-- Three sentinels of one type. -/
theorem laid3 {P : Program} {n0 n1 n2 nm : String} {text0 text1 text2 : List UInt8} {W : World} {g0 g1 g2 : Nat} {ti tp te ts : TypeId} {ms : Array (String × TypeId)} {f : Field}
    (h : laidMet P [(n0, .iface nm (.ptr (.agg [.lit (.string text0)]))), (n1, .iface nm (.ptr (.agg [.lit (.string text1)]))), (n2, .iface nm (.ptr (.agg [.lit (.string text2)])))] W)
    (hg0 : P.globalNamed n0 = some g0) (ht0 : (P.globals[g0]?).map (·.type) = some ti) (hg1 : P.globalNamed n1 = some g1) (ht1 : (P.globals[g1]?).map (·.type) = some ti) (hg2 : P.globalNamed n2 = some g2) (ht2 : (P.globals[g2]?).map (·.type) = some ti)
    (hi : P.underlying ti = some (.interface ms)) (hrow : ∀ u, P.typeName? 3 u = some nm → u = tp)
    (hp : P.underlying tp = some (.pointer te)) (he : P.underlying te = some (.struct #[f])) (hft : f.type = ts) (hfo : f.offset = 0) (hs : P.underlying ts = some .string) (hc : P.cellsOf te = 1) (hcs : P.cellsOf ts = 1) :
    ∃ a0 a1 a2 : Addr, Sent P W n0 g0 tp a0 ∧ Sent P W n1 g1 tp a1 ∧ Sent P W n2 g2 tp a2 ∧ a0 ≠ a1 ∧ a0 ≠ a2 ∧ a1 ≠ a2 := by
  obtain ⟨ps, ⟨g0', t0', cs0, f0, p0, q0, hg0', ht0', hv0, hd0, ⟨g1', t1', cs1, f1, p1, q1, hg1', ht1', hv1, hd1, ⟨g2', t2', cs2, f2, p2, q2, hg2', ht2', hv2, hd2, _, e2⟩, e1⟩, e0⟩, hnd, hrows⟩ := h
  obtain rfl := Option.some.inj (hg0.symm.trans hg0')
  obtain rfl := Option.some.inj (hg1.symm.trans hg1')
  obtain rfl := Option.some.inj (hg2.symm.trans hg2')
  obtain rfl := Option.some.inj (ht0.symm.trans ht0')
  obtain rfl := Option.some.inj (ht1.symm.trans ht1')
  obtain rfl := Option.some.inj (ht2.symm.trans ht2')
  subst e2
  subst e1
  subst e0
  obtain ⟨l0⟩ := cs0
  obtain ⟨l1⟩ := cs1
  obtain ⟨l2⟩ := cs2
  have ok0 : ∀ u v, l0 = [.iface u v] → Value.okWide P W .any 0 u v := fun u v e => by
    subst e
    exact (hrows g0 0 (by simp [MemPlace.row])).2 u v (by simpa using World.var?_cell hg0' hv0 0)
  have ok1 : ∀ u v, l1 = [.iface u v] → Value.okWide P W .any 0 u v := fun u v e => by
    subst e
    exact (hrows g1 0 (by simp [MemPlace.row])).2 u v (by simpa using World.var?_cell hg1' hv1 0)
  have ok2 : ∀ u v, l2 = [.iface u v] → Value.okWide P W .any 0 u v := fun u v e => by
    subst e
    exact (hrows g2 0 (by simp [MemPlace.row])).2 u v (by simpa using World.var?_cell hg2' hv2 0)
  obtain ⟨a0, s0, rfl, hc0, hs0, hz0, rfl⟩ := errorString_of_trod hi hrow hp he hft hfo hs hc hcs hd0 ok0
  obtain ⟨a1, s1, rfl, hc1, hs1, hz1, rfl⟩ := errorString_of_trod hi hrow hp he hft hfo hs hc hcs hd1 ok1
  obtain ⟨a2, s2, rfl, hc2, hs2, hz2, rfl⟩ := errorString_of_trod hi hrow hp he hft hfo hs hc hcs hd2 ok2
  obtain ⟨c0, t0, hb0⟩ := (hrows a0.block a0.off (by simp [MemPlace.row])).1
  obtain ⟨c1, t1, hb1⟩ := (hrows a1.block a1.off (by simp [MemPlace.row])).1
  obtain ⟨c2, t2, hb2⟩ := (hrows a2.block a2.off (by simp [MemPlace.row])).1
  refine ⟨a0, a1, a2, ⟨by simpa using World.var?_cell hg0' hv0 0, _, _, hb0⟩, ⟨by simpa using World.var?_cell hg1' hv1 0, _, _, hb1⟩, ⟨by simpa using World.var?_cell hg2' hv2 0, _, _, hb2⟩, ?_, ?_, ?_⟩
  · rintro rfl; simp [MemPlace.row] at hnd
  · rintro rfl; simp [MemPlace.row] at hnd
  · rintro rfl; simp [MemPlace.row] at hnd
end Go.Sl
