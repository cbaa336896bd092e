/- The laws of chapter 17 (call), walked over the given program; no condition but what stands in each theorem: part V. -/
import Derived.Test.YtcnncdniibkjkaaGreatDoorRCB
set_option linter.unusedVariables false
set_option linter.unusedSimpArgs false
set_option maxRecDepth 100000
set_option maxHeartbeats 8000000
namespace Go.Proofs.YtcnncdniibkjkaaGreatDoor
open Go Go.Sl Go.RowKit Go.Extern.Stop Go.Stop Go.Extern
theorem own_ : ownKnob Tryz.prog.godebug = none := by kernel_rfl
theorem laidOut_ : laidOutB Tryz.prog = true := by kernel_rfl
theorem errFact {P : Program} {W : World} {n : String} {g : Nat} {tp : TypeId} {a : Addr} (h : Sent P W n g tp a) : ∀ k, le (hpOf W) k → errAt a k := fun k hk => by
  obtain ⟨c, t, hb⟩ := h.blk
  exact ⟨c, t, hk _ _ hb⟩
theorem cell_facts {W : World} {g : Nat} {v : Value} (h : W.cell? ⟨g, 0, none⟩ = some v) : ∀ k, le (hpOf W) k → cellsAt g 0 [v] k := fun k hk => by
  obtain ⟨b, o, he, cur, T, fr, hb, hc⟩ := cellsAt_of (W := W) (a := ⟨g, 0, none⟩) (vs := [v]) (by simp) (fun j u hj => by
    cases j with
    | zero => simp at hj; subst hj; rw [add_none]; exact h
    | succ j => simp at hj)
  simp only [Addr.mk.injEq] at he
  obtain ⟨rfl, rfl, _⟩ := he
  exact ⟨cur, T, fr, hk _ _ hb, hc⟩
theorem hd_g : Tryz.prog.globalNamed "errors.errorType" = some 0 := by kernel_rfl
theorem hd_rt : (Tryz.prog.cutTypes.find? (·.1 == "internal/reflectlite.rtype")).map (·.2) = some 147 := by kernel_rfl
theorem hd_row : ((List.range 212).filter fun t => Tryz.prog.rowNamed t [101, 114, 114, 111, 114]) = [48] := by kernel_rfl
theorem hd_size : Tryz.prog.types.size = 212 := by kernel_rfl
theorem handle_of {W : World} (h : handlesMet Tryz.prog [("errors.errorType", .iface "internal/reflectlite.rtype" (.agg [.ptr (.lit (.string [101, 114, 114, 111, 114]))]))] W) : W.cell? ⟨0, 0, none⟩ = some (.iface 147 (.agg #[.pointer (some ⟨5, 48, none⟩)])) := by
  obtain ⟨name, u, ty, e1, e2, e3, e4, e5⟩ := h _ (List.mem_singleton.2 rfl)
  have en : name = [101, 114, 114, 111, 114] := (Option.some.inj e1).symm
  subst en
  obtain rfl := Option.some.inj (hd_rt.symm.trans e2)
  have hm : ty ∈ (List.range 212).filter fun t => Tryz.prog.rowNamed t [101, 114, 114, 111, 114] := List.mem_filter.2 ⟨List.mem_range.2 (by rw [← hd_size]; exact e3), e4⟩
  rw [hd_row] at hm
  obtain rfl := List.mem_singleton.1 hm
  have hh : typeHandle Tryz.prog 48 = .pointer (some ⟨5, 48, none⟩) := by kernel_rfl
  rw [hh] at e5
  simpa using World.var?_cell hd_g e5 0
theorem laid_s4 {P : Program} {n0 n1 n2 n3 nm : String} {text0 text1 text2 text3 : List UInt8} {W : World} {g0 g1 g2 g3 : Nat} {ti tp te ts : TypeId} {ms : Array (String × TypeId)} {f : Field}
    (h : laidMet P [(n0, .iface nm (.ptr (.agg [.lit (.string text0)]))), (n1, .iface nm (.ptr (.agg [.lit (.string text1)]))), (n2, .iface nm (.ptr (.agg [.lit (.string text2)]))), (n3, .iface nm (.ptr (.agg [.lit (.string text3)])))] W)
    (hg0 : P.globalNamed n0 = some g0) (ht0 : (P.globals[g0]?).map (·.type) = some ti) (hg1 : P.globalNamed n1 = some g1) (ht1 : (P.globals[g1]?).map (·.type) = some ti) (hg2 : P.globalNamed n2 = some g2) (ht2 : (P.globals[g2]?).map (·.type) = some ti) (hg3 : P.globalNamed n3 = some g3) (ht3 : (P.globals[g3]?).map (·.type) = some ti)
    (hi : P.underlying ti = some (.interface ms)) (hrow : ∀ u, P.typeName? 3 u = some nm → u = tp)
    (hp : P.underlying tp = some (.pointer te)) (he : P.underlying te = some (.struct #[f])) (hft : f.type = ts) (hfo : f.offset = 0) (hs : P.underlying ts = some .string) (hc : P.cellsOf te = 1) (hcs : P.cellsOf ts = 1) :
    ∃ a0 a1 a2 a3 : Addr, Sent P W n0 g0 tp a0 ∧ Sent P W n1 g1 tp a1 ∧ Sent P W n2 g2 tp a2 ∧ Sent P W n3 g3 tp a3 ∧ a0 ≠ a1 ∧ a0 ≠ a2 ∧ a0 ≠ a3 ∧ a1 ≠ a2 ∧ a1 ≠ a3 ∧ a2 ≠ a3 := by
  obtain ⟨ps, ⟨g0', t0', cs0, f0, p0, q0, hg0', ht0', hv0, hd0, ⟨g1', t1', cs1, f1, p1, q1, hg1', ht1', hv1, hd1, ⟨g2', t2', cs2, f2, p2, q2, hg2', ht2', hv2, hd2, ⟨g3', t3', cs3, f3, p3, q3, hg3', ht3', hv3, hd3, _, e3⟩, e2⟩, e1⟩, e0⟩, hnd, hrows⟩ := h
  obtain rfl := Option.some.inj (hg0.symm.trans hg0')
  obtain rfl := Option.some.inj (hg1.symm.trans hg1')
  obtain rfl := Option.some.inj (hg2.symm.trans hg2')
  obtain rfl := Option.some.inj (hg3.symm.trans hg3')
  obtain rfl := Option.some.inj (ht0.symm.trans ht0')
  obtain rfl := Option.some.inj (ht1.symm.trans ht1')
  obtain rfl := Option.some.inj (ht2.symm.trans ht2')
  obtain rfl := Option.some.inj (ht3.symm.trans ht3')
  subst e3
  subst e2
  subst e1
  subst e0
  obtain ⟨l0⟩ := cs0
  obtain ⟨l1⟩ := cs1
  obtain ⟨l2⟩ := cs2
  obtain ⟨l3⟩ := cs3
  have ok0 : ∀ u v, l0 = [.iface u v] → Value.okWide P W .any 0 u v := fun u v e => by
    subst e
    exact (hrows g0 0 (by simp [MemPlace.row])).2 u v (by simpa using World.var?_cell hg0' hv0 0)
  have ok1 : ∀ u v, l1 = [.iface u v] → Value.okWide P W .any 0 u v := fun u v e => by
    subst e
    exact (hrows g1 0 (by simp [MemPlace.row])).2 u v (by simpa using World.var?_cell hg1' hv1 0)
  have ok2 : ∀ u v, l2 = [.iface u v] → Value.okWide P W .any 0 u v := fun u v e => by
    subst e
    exact (hrows g2 0 (by simp [MemPlace.row])).2 u v (by simpa using World.var?_cell hg2' hv2 0)
  have ok3 : ∀ u v, l3 = [.iface u v] → Value.okWide P W .any 0 u v := fun u v e => by
    subst e
    exact (hrows g3 0 (by simp [MemPlace.row])).2 u v (by simpa using World.var?_cell hg3' hv3 0)
  obtain ⟨a0, s0, rfl, hc0, hs0, hz0, rfl⟩ := errorString_of_trod hi hrow hp he hft hfo hs hc hcs hd0 ok0
  obtain ⟨a1, s1, rfl, hc1, hs1, hz1, rfl⟩ := errorString_of_trod hi hrow hp he hft hfo hs hc hcs hd1 ok1
  obtain ⟨a2, s2, rfl, hc2, hs2, hz2, rfl⟩ := errorString_of_trod hi hrow hp he hft hfo hs hc hcs hd2 ok2
  obtain ⟨a3, s3, rfl, hc3, hs3, hz3, rfl⟩ := errorString_of_trod hi hrow hp he hft hfo hs hc hcs hd3 ok3
  obtain ⟨c0, t0, hb0⟩ := (hrows a0.block a0.off (by simp [MemPlace.row])).1
  obtain ⟨c1, t1, hb1⟩ := (hrows a1.block a1.off (by simp [MemPlace.row])).1
  obtain ⟨c2, t2, hb2⟩ := (hrows a2.block a2.off (by simp [MemPlace.row])).1
  obtain ⟨c3, t3, hb3⟩ := (hrows a3.block a3.off (by simp [MemPlace.row])).1
  refine ⟨a0, a1, a2, a3, ⟨by simpa using World.var?_cell hg0' hv0 0, _, _, hb0⟩, ⟨by simpa using World.var?_cell hg1' hv1 0, _, _, hb1⟩, ⟨by simpa using World.var?_cell hg2' hv2 0, _, _, hb2⟩, ⟨by simpa using World.var?_cell hg3' hv3 0, _, _, hb3⟩, ?_, ?_, ?_, ?_, ?_, ?_⟩
  · rintro rfl; simp [MemPlace.row] at hnd
  · rintro rfl; simp [MemPlace.row] at hnd
  · rintro rfl; simp [MemPlace.row] at hnd
  · rintro rfl; simp [MemPlace.row] at hnd
  · rintro rfl; simp [MemPlace.row] at hnd
  · rintro rfl; simp [MemPlace.row] at hnd
def okLab (x : Lab) : Prop := (-9223372036854775808 ≤ x.lv ∧ x.lv ≤ 9223372036854775807) ∧ x.cs < 18446744073709551616 ∧ (-9223372036854775808 ≤ x.ig ∧ x.ig ≤ 9223372036854775807)
theorem read_Lab {H : Type} {enc : TypeId × Value → H} {W : World} {base : Nat} {spare : Nat → Bool} {held : Bool} {n : Nat} {cs : List Value} {y : DataW H × List MemPlace} (h : DataW.trod enc Tryz.prog W base spare held n 24 cs = some y) : ∃ x : Lab, cs = labTy.enc x ∧ okLab x := by
  obtain ⟨xs, m, _, _, hl, hxs, hf⟩ := DataW.trod_struct Tryz.underlying24 h
  have hc : Tryz.prog.cellsOf 24 = 3 := by kernel_rfl
  rw [hc] at hl
  have g0 : DataW.trod enc Tryz.prog W base spare held m 3 ((cs.drop 0).take (Tryz.prog.cellsOf 3)) = xs[0]? := hf 0 _ rfl
  rw [show Tryz.prog.cellsOf 3 = 1 by kernel_rfl] at g0
  obtain ⟨y0, k0⟩ : ∃ y, xs[0]? = some y := ⟨_, List.getElem?_eq_getElem (by rw [hxs]; decide)⟩
  rw [k0] at g0
  obtain ⟨z0, e0, o0⟩ := open_i64 Tryz.underlying3 g0
  have g1 : DataW.trod enc Tryz.prog W base spare held m 22 ((cs.drop 1).take (Tryz.prog.cellsOf 22)) = xs[1]? := hf 1 _ rfl
  rw [show Tryz.prog.cellsOf 22 = 1 by kernel_rfl] at g1
  obtain ⟨y1, k1⟩ : ∃ y, xs[1]? = some y := ⟨_, List.getElem?_eq_getElem (by rw [hxs]; decide)⟩
  rw [k1] at g1
  obtain ⟨z1, e1, o1⟩ := open_u64 Tryz.underlying22 g1
  have g2 : DataW.trod enc Tryz.prog W base spare held m 3 ((cs.drop 2).take (Tryz.prog.cellsOf 3)) = xs[2]? := hf 2 _ rfl
  rw [show Tryz.prog.cellsOf 3 = 1 by kernel_rfl] at g2
  obtain ⟨y2, k2⟩ : ∃ y, xs[2]? = some y := ⟨_, List.getElem?_eq_getElem (by rw [hxs]; decide)⟩
  rw [k2] at g2
  obtain ⟨z2, e2, o2⟩ := open_i64 Tryz.underlying3 g2
  refine ⟨⟨z0, z1, z2⟩, ?_, ⟨o0, o1, o2⟩⟩
  have hs : cs = ((cs.drop 0).take 1) ++ ((cs.drop 1).take 1) ++ ((cs.drop 2).take 1) := by
    match cs, hl with
    | [c0, c1, c2], _ => rfl
  rw [hs, e0, e1, e2]
  rfl
def okCal (x : Cal) : Prop := (-9223372036854775808 ≤ x.op ∧ x.op ≤ 9223372036854775807) ∧ okLab x.lb ∧ x.nm.size ≤ 9223372036854775807 ∧ (-9223372036854775808 ≤ x.pl ∧ x.pl ≤ 9223372036854775807) ∧ (-9223372036854775808 ≤ x.nn ∧ x.nn ≤ 9223372036854775807) ∧ x.da.size ≤ 9223372036854775807 ∧ (-9223372036854775808 ≤ x.id ∧ x.id ≤ 9223372036854775807)
theorem read_Cal {H : Type} {enc : TypeId × Value → H} {W : World} {base : Nat} {spare : Nat → Bool} {held : Bool} {n : Nat} {cs : List Value} {y : DataW H × List MemPlace} (h : DataW.trod enc Tryz.prog W base spare held n 26 cs = some y) : ∃ x : Cal, cs = calTy.enc x ∧ okCal x := by
  obtain ⟨xs, m, _, _, hl, hxs, hf⟩ := DataW.trod_struct Tryz.underlying26 h
  have hc : Tryz.prog.cellsOf 26 = 9 := by kernel_rfl
  rw [hc] at hl
  have g0 : DataW.trod enc Tryz.prog W base spare held m 3 ((cs.drop 0).take (Tryz.prog.cellsOf 3)) = xs[0]? := hf 0 _ rfl
  rw [show Tryz.prog.cellsOf 3 = 1 by kernel_rfl] at g0
  obtain ⟨y0, k0⟩ : ∃ y, xs[0]? = some y := ⟨_, List.getElem?_eq_getElem (by rw [hxs]; decide)⟩
  rw [k0] at g0
  obtain ⟨z0, e0, o0⟩ := open_i64 Tryz.underlying3 g0
  have g1 : DataW.trod enc Tryz.prog W base spare held m 24 ((cs.drop 1).take (Tryz.prog.cellsOf 24)) = xs[1]? := hf 1 _ rfl
  rw [show Tryz.prog.cellsOf 24 = 3 by kernel_rfl] at g1
  obtain ⟨y1, k1⟩ : ∃ y, xs[1]? = some y := ⟨_, List.getElem?_eq_getElem (by rw [hxs]; decide)⟩
  rw [k1] at g1
  obtain ⟨z1, e1, o1⟩ := read_Lab g1
  have g2 : DataW.trod enc Tryz.prog W base spare held m 9 ((cs.drop 4).take (Tryz.prog.cellsOf 9)) = xs[2]? := hf 2 _ rfl
  rw [show Tryz.prog.cellsOf 9 = 1 by kernel_rfl] at g2
  obtain ⟨y2, k2⟩ : ∃ y, xs[2]? = some y := ⟨_, List.getElem?_eq_getElem (by rw [hxs]; decide)⟩
  rw [k2] at g2
  obtain ⟨z2, e2, o2⟩ := open_str Tryz.underlying9 g2
  have g3 : DataW.trod enc Tryz.prog W base spare held m 3 ((cs.drop 5).take (Tryz.prog.cellsOf 3)) = xs[3]? := hf 3 _ rfl
  rw [show Tryz.prog.cellsOf 3 = 1 by kernel_rfl] at g3
  obtain ⟨y3, k3⟩ : ∃ y, xs[3]? = some y := ⟨_, List.getElem?_eq_getElem (by rw [hxs]; decide)⟩
  rw [k3] at g3
  obtain ⟨z3, e3, o3⟩ := open_i64 Tryz.underlying3 g3
  have g4 : DataW.trod enc Tryz.prog W base spare held m 3 ((cs.drop 6).take (Tryz.prog.cellsOf 3)) = xs[4]? := hf 4 _ rfl
  rw [show Tryz.prog.cellsOf 3 = 1 by kernel_rfl] at g4
  obtain ⟨y4, k4⟩ : ∃ y, xs[4]? = some y := ⟨_, List.getElem?_eq_getElem (by rw [hxs]; decide)⟩
  rw [k4] at g4
  obtain ⟨z4, e4, o4⟩ := open_i64 Tryz.underlying3 g4
  have g5 : DataW.trod enc Tryz.prog W base spare held m 9 ((cs.drop 7).take (Tryz.prog.cellsOf 9)) = xs[5]? := hf 5 _ rfl
  rw [show Tryz.prog.cellsOf 9 = 1 by kernel_rfl] at g5
  obtain ⟨y5, k5⟩ : ∃ y, xs[5]? = some y := ⟨_, List.getElem?_eq_getElem (by rw [hxs]; decide)⟩
  rw [k5] at g5
  obtain ⟨z5, e5, o5⟩ := open_str Tryz.underlying9 g5
  have g6 : DataW.trod enc Tryz.prog W base spare held m 3 ((cs.drop 8).take (Tryz.prog.cellsOf 3)) = xs[6]? := hf 6 _ rfl
  rw [show Tryz.prog.cellsOf 3 = 1 by kernel_rfl] at g6
  obtain ⟨y6, k6⟩ : ∃ y, xs[6]? = some y := ⟨_, List.getElem?_eq_getElem (by rw [hxs]; decide)⟩
  rw [k6] at g6
  obtain ⟨z6, e6, o6⟩ := open_i64 Tryz.underlying3 g6
  refine ⟨⟨z0, z1, z2, z3, z4, z5, z6⟩, ?_, ⟨o0, o1, o2, o3, o4, o5, o6⟩⟩
  have hs : cs = ((cs.drop 0).take 1) ++ ((cs.drop 1).take 3) ++ ((cs.drop 4).take 1) ++ ((cs.drop 5).take 1) ++ ((cs.drop 6).take 1) ++ ((cs.drop 7).take 1) ++ ((cs.drop 8).take 1) := by
    match cs, hl with
    | [c0, c1, c2, c3, c4, c5, c6, c7, c8], _ => rfl
  rw [hs, e0, e1, e2, e3, e4, e5, e6]
  rfl
structure RepIn where
  e : Int
  n : Int
  d : ByteArray
  A : Option Addr
  c : Nat
  l : List ByteArray
  a : Lab
def repVals (x : RepIn) : List Value := [.int .i64 x.e, .int .i64 x.n, .string x.d, .slice x.A x.l.length x.c, .int .i64 x.a.lv, .int .u64 (x.a.cs : Int), .int .i64 x.a.ig]
def okRep (W : World) (x : RepIn) : Prop := (∀ k, le (hpOf W) k → rd strTy x.A x.c x.l k) ∧ x.d.size ≤ 9223372036854775807 ∧ (∀ t ∈ x.l, t.size ≤ 9223372036854775807) ∧ lab64 x.a ∧ x.e ≤ 9223372036854775807 ∧ x.n ≤ 9223372036854775807
theorem read_Rep {H : Type} {enc : TypeId × Value → H} {W : World} {base : Nat} {spare : Nat → Bool} {held : Bool} {n : Nat} {cs : List Value} {y : DataW H × List MemPlace} (h : DataW.trod enc Tryz.prog W base spare held n 39 cs = some y) : ∃ x : RepIn, cs = repVals x ∧ okRep W x := by
  obtain ⟨xs, m, _, _, hl, hxs, hf⟩ := DataW.trod_struct Tryz.underlying39 h
  have hc : Tryz.prog.cellsOf 39 = 7 := by kernel_rfl
  rw [hc] at hl
  obtain ⟨c0, c1, c2, c3, c4, c5, c6, rfl⟩ : ∃ c0 c1 c2 c3 c4 c5 c6, cs = [c0, c1, c2, c3, c4, c5, c6] := by
    match cs, hl with
    | [c0, c1, c2, c3, c4, c5, c6], _ => exact ⟨_, _, _, _, _, _, _, rfl⟩
  have g0 : DataW.trod enc Tryz.prog W base spare held m 29 (([c0, c1, c2, c3, c4, c5, c6].drop 0).take (Tryz.prog.cellsOf 29)) = xs[0]? := hf 0 _ rfl
  rw [show Tryz.prog.cellsOf 29 = 1 by kernel_rfl] at g0
  obtain ⟨y0, k0⟩ : ∃ y, xs[0]? = some y := ⟨_, List.getElem?_eq_getElem (by rw [hxs]; decide)⟩
  rw [k0] at g0
  replace g0 : DataW.trod enc Tryz.prog W base spare held m 29 [c0] = some y0 := g0
  have g1 : DataW.trod enc Tryz.prog W base spare held m 3 (([c0, c1, c2, c3, c4, c5, c6].drop 1).take (Tryz.prog.cellsOf 3)) = xs[1]? := hf 1 _ rfl
  rw [show Tryz.prog.cellsOf 3 = 1 by kernel_rfl] at g1
  obtain ⟨y1, k1⟩ : ∃ y, xs[1]? = some y := ⟨_, List.getElem?_eq_getElem (by rw [hxs]; decide)⟩
  rw [k1] at g1
  replace g1 : DataW.trod enc Tryz.prog W base spare held m 3 [c1] = some y1 := g1
  have g2 : DataW.trod enc Tryz.prog W base spare held m 9 (([c0, c1, c2, c3, c4, c5, c6].drop 2).take (Tryz.prog.cellsOf 9)) = xs[2]? := hf 2 _ rfl
  rw [show Tryz.prog.cellsOf 9 = 1 by kernel_rfl] at g2
  obtain ⟨y2, k2⟩ : ∃ y, xs[2]? = some y := ⟨_, List.getElem?_eq_getElem (by rw [hxs]; decide)⟩
  rw [k2] at g2
  replace g2 : DataW.trod enc Tryz.prog W base spare held m 9 [c2] = some y2 := g2
  have g3 : DataW.trod enc Tryz.prog W base spare held m 37 (([c0, c1, c2, c3, c4, c5, c6].drop 3).take (Tryz.prog.cellsOf 37)) = xs[3]? := hf 3 _ rfl
  rw [show Tryz.prog.cellsOf 37 = 1 by kernel_rfl] at g3
  obtain ⟨y3, k3⟩ : ∃ y, xs[3]? = some y := ⟨_, List.getElem?_eq_getElem (by rw [hxs]; decide)⟩
  rw [k3] at g3
  replace g3 : DataW.trod enc Tryz.prog W base spare held m 37 [c3] = some y3 := g3
  have g4 : DataW.trod enc Tryz.prog W base spare held m 24 (([c0, c1, c2, c3, c4, c5, c6].drop 4).take (Tryz.prog.cellsOf 24)) = xs[4]? := hf 4 _ rfl
  rw [show Tryz.prog.cellsOf 24 = 3 by kernel_rfl] at g4
  obtain ⟨y4, k4⟩ : ∃ y, xs[4]? = some y := ⟨_, List.getElem?_eq_getElem (by rw [hxs]; decide)⟩
  rw [k4] at g4
  replace g4 : DataW.trod enc Tryz.prog W base spare held m 24 [c4, c5, c6] = some y4 := g4
  obtain ⟨z0, e0, o0⟩ := open_i64 Tryz.underlying29 g0
  obtain ⟨z1, e1, o1⟩ := open_i64 Tryz.underlying3 g1
  obtain ⟨z2, e2, o2⟩ := open_str Tryz.underlying9 g2
  obtain ⟨z4, e4, o4⟩ := read_Lab g4
  obtain ⟨A3, d3, l3, e3, r3, o3⟩ := open_list strTy (fun x => x.size ≤ 9223372036854775807) Tryz.underlying37 (by kernel_rfl) (by decide) (fun n cs y h => by obtain ⟨z, e, o⟩ := open_str Tryz.underlying9 h; exact ⟨z, e, o⟩) g3
  refine ⟨⟨z0, z1, z2, A3, d3, l3, z4⟩, ?_, r3, o2, o3, o4.2.1, o0.2, o1.2⟩
  have hs : [c0, c1, c2, c3, c4, c5, c6] = [c0] ++ ([c1] ++ ([c2] ++ ([c3] ++ [c4, c5, c6]))) := rfl
  rw [hs, e0, e1, e2, e3, e4]
  rfl
theorem open_u8 {H : Type} {enc : TypeId × Value → H} {P : Program} {W : World} {base : Nat} {spare : Nat → Bool} {held : Bool} {t : TypeId} {n : Nat} {cs : List Value} {y : DataW H × List MemPlace} (ht : P.underlying t = some (.int .u8)) (h : DataW.trod enc P W base spare held n t cs = some y) : ∃ x : UInt8, cs = [.int .u8 (x.toNat : Int)] ∧ True := by
  obtain ⟨z, rfl, _, hw⟩ := DataW.trod_int ht h
  simp only [Lit.wf, Bool.and_eq_true, decide_eq_true_eq] at hw
  obtain ⟨h1, h2⟩ := hw
  have h1' : (0 : Int) ≤ z := h1
  have h2' : z ≤ 255 := h2
  refine ⟨UInt8.ofNat z.toNat, ?_, trivial⟩
  rw [UInt8.toNat_ofNat_of_lt' (by show z.toNat < 256; omega), Int.toNat_of_nonneg h1']
theorem k6_of {x : Cal} (h : okCal x) : lab64 x.lb := h.2.1.2.1
theorem ka_of {x : Cal} (h : okCal x) : x.nm.size ≤ 9223372036854775807 := h.2.2.1
theorem kb_of {x : Cal} (h : okCal x) : x.da.size ≤ 9223372036854775807 := h.2.2.2.2.2.1
theorem ki_of {x : Cal} (h : okCal x) : x.pl ≤ 9223372036854775807 ∧ x.nn ≤ 9223372036854775807 ∧ x.id ≤ 9223372036854775807 := ⟨h.2.2.2.1.2, h.2.2.2.2.1.2, h.2.2.2.2.2.2.2⟩
end Go.Proofs.YtcnncdniibkjkaaGreatDoor
