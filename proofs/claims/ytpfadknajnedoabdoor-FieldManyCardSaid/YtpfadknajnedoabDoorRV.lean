/- The laws of chapter 3 (field), walked over the given program; no condition but what stands in each theorem: part V. -/
import Derived.Test.YtpfadknajnedoabDoorRB
set_option linter.unusedVariables false
set_option linter.unusedSimpArgs false
set_option maxRecDepth 100000
set_option maxHeartbeats 8000000
namespace Go.Proofs.YtpfadknajnedoabDoor
open Go Go.Sl Go.RowKit Go.Extern.Stop Go.Stop Go.Extern
theorem own_ : ownKnob Tryd.prog.godebug = none := by kernel_rfl
theorem laidOut_ : laidOutB Tryd.prog = true := by kernel_rfl
theorem errFact {P : Program} {W : World} {n : String} {g : Nat} {tp : TypeId} {a : Addr} (h : Sent P W n g tp a) : ∀ k, le (hpOf W) k → errAt a k := fun k hk => by
  obtain ⟨c, t, hb⟩ := h.blk
  exact ⟨c, t, hk _ _ hb⟩
theorem cell_facts {W : World} {g : Nat} {v : Value} (h : W.cell? ⟨g, 0, none⟩ = some v) : ∀ k, le (hpOf W) k → cellsAt g 0 [v] k := fun k hk => by
  obtain ⟨b, o, he, cur, T, fr, hb, hc⟩ := cellsAt_of (W := W) (a := ⟨g, 0, none⟩) (vs := [v]) (by simp) (fun j u hj => by
    cases j with
    | zero => simp at hj; subst hj; rw [add_none]; exact h
    | succ j => simp at hj)
  simp only [Addr.mk.injEq] at he
  obtain ⟨rfl, rfl, _⟩ := he
  exact ⟨cur, T, fr, hk _ _ hb, hc⟩
theorem hd_g : Tryd.prog.globalNamed "errors.errorType" = some 3 := by kernel_rfl
theorem hd_rt : (Tryd.prog.cutTypes.find? (·.1 == "internal/reflectlite.rtype")).map (·.2) = some 86 := by kernel_rfl
theorem hd_row : ((List.range 135).filter fun t => Tryd.prog.rowNamed t [101, 114, 114, 111, 114]) = [43] := by kernel_rfl
theorem hd_size : Tryd.prog.types.size = 135 := by kernel_rfl
theorem handle_of {W : World} (h : handlesMet Tryd.prog [("errors.errorType", .iface "internal/reflectlite.rtype" (.agg [.ptr (.lit (.string [101, 114, 114, 111, 114]))]))] W) : W.cell? ⟨3, 0, none⟩ = some (.iface 86 (.agg #[.pointer (some ⟨4, 43, none⟩)])) := by
  obtain ⟨name, u, ty, e1, e2, e3, e4, e5⟩ := h _ (List.mem_singleton.2 rfl)
  have en : name = [101, 114, 114, 111, 114] := (Option.some.inj e1).symm
  subst en
  obtain rfl := Option.some.inj (hd_rt.symm.trans e2)
  have hm : ty ∈ (List.range 135).filter fun t => Tryd.prog.rowNamed t [101, 114, 114, 111, 114] := List.mem_filter.2 ⟨List.mem_range.2 (by rw [← hd_size]; exact e3), e4⟩
  rw [hd_row] at hm
  obtain rfl := List.mem_singleton.1 hm
  have hh : typeHandle Tryd.prog 43 = .pointer (some ⟨4, 43, none⟩) := by kernel_rfl
  rw [hh] at e5
  simpa using World.var?_cell hd_g e5 0
theorem laid_s3 {P : Program} {n0 n1 n2 nm : String} {text0 text1 text2 : List UInt8} {W : World} {g0 g1 g2 : Nat} {ti tp te ts : TypeId} {ms : Array (String × TypeId)} {f : Field}
    (h : laidMet P [(n0, .iface nm (.ptr (.agg [.lit (.string text0)]))), (n1, .iface nm (.ptr (.agg [.lit (.string text1)]))), (n2, .iface nm (.ptr (.agg [.lit (.string text2)])))] W)
    (hg0 : P.globalNamed n0 = some g0) (ht0 : (P.globals[g0]?).map (·.type) = some ti) (hg1 : P.globalNamed n1 = some g1) (ht1 : (P.globals[g1]?).map (·.type) = some ti) (hg2 : P.globalNamed n2 = some g2) (ht2 : (P.globals[g2]?).map (·.type) = some ti)
    (hi : P.underlying ti = some (.interface ms)) (hrow : ∀ u, P.typeName? 3 u = some nm → u = tp)
    (hp : P.underlying tp = some (.pointer te)) (he : P.underlying te = some (.struct #[f])) (hft : f.type = ts) (hfo : f.offset = 0) (hs : P.underlying ts = some .string) (hc : P.cellsOf te = 1) (hcs : P.cellsOf ts = 1) :
    ∃ a0 a1 a2 : Addr, Sent P W n0 g0 tp a0 ∧ Sent P W n1 g1 tp a1 ∧ Sent P W n2 g2 tp a2 ∧ a0 ≠ a1 ∧ a0 ≠ a2 ∧ a1 ≠ a2 := by
  obtain ⟨ps, ⟨g0', t0', cs0, f0, p0, q0, hg0', ht0', hv0, hd0, ⟨g1', t1', cs1, f1, p1, q1, hg1', ht1', hv1, hd1, ⟨g2', t2', cs2, f2, p2, q2, hg2', ht2', hv2, hd2, _, e2⟩, e1⟩, e0⟩, hnd, hrows⟩ := h
  obtain rfl := Option.some.inj (hg0.symm.trans hg0')
  obtain rfl := Option.some.inj (hg1.symm.trans hg1')
  obtain rfl := Option.some.inj (hg2.symm.trans hg2')
  obtain rfl := Option.some.inj (ht0.symm.trans ht0')
  obtain rfl := Option.some.inj (ht1.symm.trans ht1')
  obtain rfl := Option.some.inj (ht2.symm.trans ht2')
  subst e2
  subst e1
  subst e0
  obtain ⟨l0⟩ := cs0
  obtain ⟨l1⟩ := cs1
  obtain ⟨l2⟩ := cs2
  have ok0 : ∀ u v, l0 = [.iface u v] → Value.okWide P W .any 0 u v := fun u v e => by
    subst e
    exact (hrows g0 0 (by simp [MemPlace.row])).2 u v (by simpa using World.var?_cell hg0' hv0 0)
  have ok1 : ∀ u v, l1 = [.iface u v] → Value.okWide P W .any 0 u v := fun u v e => by
    subst e
    exact (hrows g1 0 (by simp [MemPlace.row])).2 u v (by simpa using World.var?_cell hg1' hv1 0)
  have ok2 : ∀ u v, l2 = [.iface u v] → Value.okWide P W .any 0 u v := fun u v e => by
    subst e
    exact (hrows g2 0 (by simp [MemPlace.row])).2 u v (by simpa using World.var?_cell hg2' hv2 0)
  obtain ⟨a0, s0, rfl, hc0, hs0, hz0, rfl⟩ := errorString_of_trod hi hrow hp he hft hfo hs hc hcs hd0 ok0
  obtain ⟨a1, s1, rfl, hc1, hs1, hz1, rfl⟩ := errorString_of_trod hi hrow hp he hft hfo hs hc hcs hd1 ok1
  obtain ⟨a2, s2, rfl, hc2, hs2, hz2, rfl⟩ := errorString_of_trod hi hrow hp he hft hfo hs hc hcs hd2 ok2
  obtain ⟨c0, t0, hb0⟩ := (hrows a0.block a0.off (by simp [MemPlace.row])).1
  obtain ⟨c1, t1, hb1⟩ := (hrows a1.block a1.off (by simp [MemPlace.row])).1
  obtain ⟨c2, t2, hb2⟩ := (hrows a2.block a2.off (by simp [MemPlace.row])).1
  refine ⟨a0, a1, a2, ⟨by simpa using World.var?_cell hg0' hv0 0, _, _, hb0⟩, ⟨by simpa using World.var?_cell hg1' hv1 0, _, _, hb1⟩, ⟨by simpa using World.var?_cell hg2' hv2 0, _, _, hb2⟩, ?_, ?_, ?_⟩
  · rintro rfl; simp [MemPlace.row] at hnd
  · rintro rfl; simp [MemPlace.row] at hnd
  · rintro rfl; simp [MemPlace.row] at hnd
end Go.Proofs.YtpfadknajnedoabDoor
