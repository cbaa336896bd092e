/- The six laws of chapter 18 (audit), walked over the given program; no condition but what stands in each theorem: part T. -/
import Derived.Test.YtdfgedkjilpcgaaDoorRA
import Derived.Test.YtdfgedkjilpcgaaDoorRC
set_option linter.unusedVariables false
set_option linter.unusedSimpArgs false
set_option maxRecDepth 100000
set_option maxHeartbeats 8000000
namespace Go.Proofs.YtdfgedkjilpcgaaDoor
open Go Go.Sl Go.RowKit Go.Extern.Stop Go.Stop Go.Extern Go.Shelf
theorem own_ : ownKnob Tryd.prog.godebug = none := by kernel_rfl
theorem laidOut_ : laidOutB Tryd.prog = true := by kernel_rfl
theorem errFact {P : Program} {W : World} {n : String} {g : Nat} {tp : TypeId} {a : Addr} (h : Sent P W n g tp a) : ∀ k, le (hpOf W) k → errAt a k := fun k hk => by
  obtain ⟨c, t, hb⟩ := h.blk
  exact ⟨c, t, hk _ _ hb⟩
theorem laid_s1 {P : Program} {n0 nm : String} {text0 : List UInt8} {W : World} {g0 : Nat} {ti tp te ts : TypeId} {ms : Array (String × TypeId)} {f : Field}
    (h : laidMet P [(n0, .iface nm (.ptr (.agg [.lit (.string text0)])))] W)
    (hg0 : P.globalNamed n0 = some g0) (ht0 : (P.globals[g0]?).map (·.type) = some ti)
    (hi : P.underlying ti = some (.interface ms)) (hrow : ∀ u, P.typeName? 3 u = some nm → u = tp)
    (hp : P.underlying tp = some (.pointer te)) (he : P.underlying te = some (.struct #[f])) (hft : f.type = ts) (hfo : f.offset = 0) (hs : P.underlying ts = some .string) (hc : P.cellsOf te = 1) (hcs : P.cellsOf ts = 1) :
    ∃ a0 : Addr, Sent P W n0 g0 tp a0 := by
  obtain ⟨ps, ⟨g0', t0', cs0, f0, p0, q0, hg0', ht0', hv0, hd0, _, e0⟩, hnd, hrows⟩ := h
  obtain rfl := Option.some.inj (hg0.symm.trans hg0')
  obtain rfl := Option.some.inj (ht0.symm.trans ht0')
  subst e0
  obtain ⟨l0⟩ := cs0
  have ok0 : ∀ u v, l0 = [.iface u v] → Value.okWide P W .any 0 u v := fun u v e => by
    subst e
    exact (hrows g0 0 (by simp [MemPlace.row])).2 u v (by simpa using World.var?_cell hg0' hv0 0)
  obtain ⟨a0, s0, rfl, hc0, hs0, hz0, rfl⟩ := errorString_of_trod hi hrow hp he hft hfo hs hc hcs hd0 ok0
  obtain ⟨c0, t0, hb0⟩ := (hrows a0.block a0.off (by simp [MemPlace.row])).1
  refine ⟨a0, ⟨by simpa using World.var?_cell hg0' hv0 0, _, _, hb0⟩⟩
def okLab (x : Lab) : Prop := (-9223372036854775808 ≤ x.lv ∧ x.lv ≤ 9223372036854775807) ∧ x.cs < 18446744073709551616 ∧ (-9223372036854775808 ≤ x.ig ∧ x.ig ≤ 9223372036854775807)
theorem read_Lab {H : Type} {enc : TypeId × Value → H} {W : World} {base : Nat} {spare : Nat → Bool} {held : Bool} {n : Nat} {cs : List Value} {y : DataW H × List MemPlace} (h : DataW.trod enc Tryd.prog W base spare held n 26 cs = some y) : ∃ x : Lab, cs = labTy.enc x ∧ okLab x := by
  obtain ⟨xs, m, _, _, hl, hxs, hf⟩ := DataW.trod_struct Tryd.underlying26 h
  have hc : Tryd.prog.cellsOf 26 = 3 := by kernel_rfl
  rw [hc] at hl
  have g0 : DataW.trod enc Tryd.prog W base spare held m 3 ((cs.drop 0).take (Tryd.prog.cellsOf 3)) = xs[0]? := hf 0 _ rfl
  rw [show Tryd.prog.cellsOf 3 = 1 by kernel_rfl] at g0
  obtain ⟨y0, k0⟩ : ∃ y, xs[0]? = some y := ⟨_, List.getElem?_eq_getElem (by rw [hxs]; decide)⟩
  rw [k0] at g0
  obtain ⟨z0, e0, o0⟩ := open_i64 Tryd.underlying3 g0
  have g1 : DataW.trod enc Tryd.prog W base spare held m 24 ((cs.drop 1).take (Tryd.prog.cellsOf 24)) = xs[1]? := hf 1 _ rfl
  rw [show Tryd.prog.cellsOf 24 = 1 by kernel_rfl] at g1
  obtain ⟨y1, k1⟩ : ∃ y, xs[1]? = some y := ⟨_, List.getElem?_eq_getElem (by rw [hxs]; decide)⟩
  rw [k1] at g1
  obtain ⟨z1, e1, o1⟩ := open_u64 Tryd.underlying24 g1
  have g2 : DataW.trod enc Tryd.prog W base spare held m 3 ((cs.drop 2).take (Tryd.prog.cellsOf 3)) = xs[2]? := hf 2 _ rfl
  rw [show Tryd.prog.cellsOf 3 = 1 by kernel_rfl] at g2
  obtain ⟨y2, k2⟩ : ∃ y, xs[2]? = some y := ⟨_, List.getElem?_eq_getElem (by rw [hxs]; decide)⟩
  rw [k2] at g2
  obtain ⟨z2, e2, o2⟩ := open_i64 Tryd.underlying3 g2
  refine ⟨⟨z0, z1, z2⟩, ?_, ⟨o0, o1, o2⟩⟩
  have hs : cs = ((cs.drop 0).take 1) ++ ((cs.drop 1).take 1) ++ ((cs.drop 2).take 1) := by
    match cs, hl with
    | [c0, c1, c2], _ => rfl
  rw [hs, e0, e1, e2]
  rfl
def okRec (x : Rec) : Prop := (-9223372036854775808 ≤ x.st ∧ x.st ≤ 9223372036854775807) ∧ (-9223372036854775808 ≤ x.who ∧ x.who ≤ 9223372036854775807) ∧ (-9223372036854775808 ≤ x.op ∧ x.op ≤ 9223372036854775807) ∧ (-9223372036854775808 ≤ x.e ∧ x.e ≤ 9223372036854775807) ∧ okLab x.lab
theorem read_Rec {H : Type} {enc : TypeId × Value → H} {W : World} {base : Nat} {spare : Nat → Bool} {held : Bool} {n : Nat} {cs : List Value} {y : DataW H × List MemPlace} (h : DataW.trod enc Tryd.prog W base spare held n 28 cs = some y) : ∃ x : Rec, cs = recTy.enc x ∧ okRec x := by
  obtain ⟨xs, m, _, _, hl, hxs, hf⟩ := DataW.trod_struct Tryd.underlying28 h
  have hc : Tryd.prog.cellsOf 28 = 7 := by kernel_rfl
  rw [hc] at hl
  have g0 : DataW.trod enc Tryd.prog W base spare held m 3 ((cs.drop 0).take (Tryd.prog.cellsOf 3)) = xs[0]? := hf 0 _ rfl
  rw [show Tryd.prog.cellsOf 3 = 1 by kernel_rfl] at g0
  obtain ⟨y0, k0⟩ : ∃ y, xs[0]? = some y := ⟨_, List.getElem?_eq_getElem (by rw [hxs]; decide)⟩
  rw [k0] at g0
  obtain ⟨z0, e0, o0⟩ := open_i64 Tryd.underlying3 g0
  have g1 : DataW.trod enc Tryd.prog W base spare held m 3 ((cs.drop 1).take (Tryd.prog.cellsOf 3)) = xs[1]? := hf 1 _ rfl
  rw [show Tryd.prog.cellsOf 3 = 1 by kernel_rfl] at g1
  obtain ⟨y1, k1⟩ : ∃ y, xs[1]? = some y := ⟨_, List.getElem?_eq_getElem (by rw [hxs]; decide)⟩
  rw [k1] at g1
  obtain ⟨z1, e1, o1⟩ := open_i64 Tryd.underlying3 g1
  have g2 : DataW.trod enc Tryd.prog W base spare held m 3 ((cs.drop 2).take (Tryd.prog.cellsOf 3)) = xs[2]? := hf 2 _ rfl
  rw [show Tryd.prog.cellsOf 3 = 1 by kernel_rfl] at g2
  obtain ⟨y2, k2⟩ : ∃ y, xs[2]? = some y := ⟨_, List.getElem?_eq_getElem (by rw [hxs]; decide)⟩
  rw [k2] at g2
  obtain ⟨z2, e2, o2⟩ := open_i64 Tryd.underlying3 g2
  have g3 : DataW.trod enc Tryd.prog W base spare held m 23 ((cs.drop 3).take (Tryd.prog.cellsOf 23)) = xs[3]? := hf 3 _ rfl
  rw [show Tryd.prog.cellsOf 23 = 1 by kernel_rfl] at g3
  obtain ⟨y3, k3⟩ : ∃ y, xs[3]? = some y := ⟨_, List.getElem?_eq_getElem (by rw [hxs]; decide)⟩
  rw [k3] at g3
  obtain ⟨z3, e3, o3⟩ := open_i64 Tryd.underlying23 g3
  have g4 : DataW.trod enc Tryd.prog W base spare held m 26 ((cs.drop 4).take (Tryd.prog.cellsOf 26)) = xs[4]? := hf 4 _ rfl
  rw [show Tryd.prog.cellsOf 26 = 3 by kernel_rfl] at g4
  obtain ⟨y4, k4⟩ : ∃ y, xs[4]? = some y := ⟨_, List.getElem?_eq_getElem (by rw [hxs]; decide)⟩
  rw [k4] at g4
  obtain ⟨z4, e4, o4⟩ := read_Lab g4
  refine ⟨⟨z0, z1, z2, z3, z4⟩, ?_, ⟨o0, o1, o2, o3, o4⟩⟩
  have hs : cs = ((cs.drop 0).take 1) ++ ((cs.drop 1).take 1) ++ ((cs.drop 2).take 1) ++ ((cs.drop 3).take 1) ++ ((cs.drop 4).take 3) := by
    match cs, hl with
    | [c0, c1, c2, c3, c4, c5, c6], _ => rfl
  rw [hs, e0, e1, e2, e3, e4]
  rfl
theorem sm_of {x : Rec} (h : okRec x) : recSm x := by
  obtain ⟨h1, h2, h3, h4, h5⟩ := h
  obtain ⟨_, h6, _⟩ := h5
  exact ⟨h1.2, h2.2, h3.2, h4.2, h6⟩
theorem lb_of {a : Lab} (h : okLab a) : a.cs < 18446744073709551616 := h.2.1
end Go.Proofs.YtdfgedkjilpcgaaDoor
