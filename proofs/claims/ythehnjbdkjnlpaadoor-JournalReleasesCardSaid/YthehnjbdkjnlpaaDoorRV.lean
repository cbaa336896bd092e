/- The laws of chapter 15 (journal), walked over the given program; no condition but what stands in each theorem: part V. -/
import Derived.Test.YthehnjbdkjnlpaaDoorRRL
import Derived.Test.YthehnjbdkjnlpaaDoorRKA
set_option linter.unusedVariables false
set_option linter.unusedSimpArgs false
set_option maxRecDepth 100000
set_option maxHeartbeats 8000000
namespace Go.Proofs.YthehnjbdkjnlpaaDoor
open Go Go.Sl Go.RowKit Go.Extern.Stop Go.Stop Go.Extern
theorem own_ : ownKnob Tryd.prog.godebug = none := by kernel_rfl
theorem laidOut_ : laidOutB Tryd.prog = true := by kernel_rfl
theorem errFact {P : Program} {W : World} {n : String} {g : Nat} {tp : TypeId} {a : Addr} (h : Sent P W n g tp a) : ∀ k, le (hpOf W) k → errAt a k := fun k hk => by
  obtain ⟨c, t, hb⟩ := h.blk
  exact ⟨c, t, hk _ _ hb⟩
theorem cell_facts {W : World} {g : Nat} {v : Value} (h : W.cell? ⟨g, 0, none⟩ = some v) : ∀ k, le (hpOf W) k → cellsAt g 0 [v] k := fun k hk => by
  obtain ⟨b, o, he, cur, T, fr, hb, hc⟩ := cellsAt_of (W := W) (a := ⟨g, 0, none⟩) (vs := [v]) (by simp) (fun j u hj => by
    cases j with
    | zero => simp at hj; subst hj; rw [add_none]; exact h
    | succ j => simp at hj)
  simp only [Addr.mk.injEq] at he
  obtain ⟨rfl, rfl, _⟩ := he
  exact ⟨cur, T, fr, hk _ _ hb, hc⟩
theorem hd_g : Tryd.prog.globalNamed "errors.errorType" = some 1 := by kernel_rfl
theorem hd_rt : (Tryd.prog.cutTypes.find? (·.1 == "internal/reflectlite.rtype")).map (·.2) = some 121 := by kernel_rfl
theorem hd_row : ((List.range 187).filter fun t => Tryd.prog.rowNamed t [101, 114, 114, 111, 114]) = [57] := by kernel_rfl
theorem hd_size : Tryd.prog.types.size = 187 := by kernel_rfl
theorem handle_of {W : World} (h : handlesMet Tryd.prog [("errors.errorType", .iface "internal/reflectlite.rtype" (.agg [.ptr (.lit (.string [101, 114, 114, 111, 114]))]))] W) : W.cell? ⟨1, 0, none⟩ = some (.iface 121 (.agg #[.pointer (some ⟨4, 57, none⟩)])) := by
  obtain ⟨name, u, ty, e1, e2, e3, e4, e5⟩ := h _ (List.mem_singleton.2 rfl)
  have en : name = [101, 114, 114, 111, 114] := (Option.some.inj e1).symm
  subst en
  obtain rfl := Option.some.inj (hd_rt.symm.trans e2)
  have hm : ty ∈ (List.range 187).filter fun t => Tryd.prog.rowNamed t [101, 114, 114, 111, 114] := List.mem_filter.2 ⟨List.mem_range.2 (by rw [← hd_size]; exact e3), e4⟩
  rw [hd_row] at hm
  obtain rfl := List.mem_singleton.1 hm
  have hh : typeHandle Tryd.prog 57 = .pointer (some ⟨4, 57, none⟩) := by kernel_rfl
  rw [hh] at e5
  simpa using World.var?_cell hd_g e5 0
theorem laid_s2 {P : Program} {n0 n1 nm : String} {text0 text1 : List UInt8} {W : World} {g0 g1 : Nat} {ti tp te ts : TypeId} {ms : Array (String × TypeId)} {f : Field}
    (h : laidMet P [(n0, .iface nm (.ptr (.agg [.lit (.string text0)]))), (n1, .iface nm (.ptr (.agg [.lit (.string text1)])))] W)
    (hg0 : P.globalNamed n0 = some g0) (ht0 : (P.globals[g0]?).map (·.type) = some ti) (hg1 : P.globalNamed n1 = some g1) (ht1 : (P.globals[g1]?).map (·.type) = some ti)
    (hi : P.underlying ti = some (.interface ms)) (hrow : ∀ u, P.typeName? 3 u = some nm → u = tp)
    (hp : P.underlying tp = some (.pointer te)) (he : P.underlying te = some (.struct #[f])) (hft : f.type = ts) (hfo : f.offset = 0) (hs : P.underlying ts = some .string) (hc : P.cellsOf te = 1) (hcs : P.cellsOf ts = 1) :
    ∃ a0 a1 : Addr, Sent P W n0 g0 tp a0 ∧ Sent P W n1 g1 tp a1 ∧ a0 ≠ a1 := by
  obtain ⟨ps, ⟨g0', t0', cs0, f0, p0, q0, hg0', ht0', hv0, hd0, ⟨g1', t1', cs1, f1, p1, q1, hg1', ht1', hv1, hd1, _, e1⟩, e0⟩, hnd, hrows⟩ := h
  obtain rfl := Option.some.inj (hg0.symm.trans hg0')
  obtain rfl := Option.some.inj (hg1.symm.trans hg1')
  obtain rfl := Option.some.inj (ht0.symm.trans ht0')
  obtain rfl := Option.some.inj (ht1.symm.trans ht1')
  subst e1
  subst e0
  obtain ⟨l0⟩ := cs0
  obtain ⟨l1⟩ := cs1
  have ok0 : ∀ u v, l0 = [.iface u v] → Value.okWide P W .any 0 u v := fun u v e => by
    subst e
    exact (hrows g0 0 (by simp [MemPlace.row])).2 u v (by simpa using World.var?_cell hg0' hv0 0)
  have ok1 : ∀ u v, l1 = [.iface u v] → Value.okWide P W .any 0 u v := fun u v e => by
    subst e
    exact (hrows g1 0 (by simp [MemPlace.row])).2 u v (by simpa using World.var?_cell hg1' hv1 0)
  obtain ⟨a0, s0, rfl, hc0, hs0, hz0, rfl⟩ := errorString_of_trod hi hrow hp he hft hfo hs hc hcs hd0 ok0
  obtain ⟨a1, s1, rfl, hc1, hs1, hz1, rfl⟩ := errorString_of_trod hi hrow hp he hft hfo hs hc hcs hd1 ok1
  obtain ⟨c0, t0, hb0⟩ := (hrows a0.block a0.off (by simp [MemPlace.row])).1
  obtain ⟨c1, t1, hb1⟩ := (hrows a1.block a1.off (by simp [MemPlace.row])).1
  refine ⟨a0, a1, ⟨by simpa using World.var?_cell hg0' hv0 0, _, _, hb0⟩, ⟨by simpa using World.var?_cell hg1' hv1 0, _, _, hb1⟩, ?_⟩
  · rintro rfl; simp [MemPlace.row] at hnd
def okLab (x : Lab) : Prop := (-9223372036854775808 ≤ x.lv ∧ x.lv ≤ 9223372036854775807) ∧ x.cs < 18446744073709551616 ∧ (-9223372036854775808 ≤ x.ig ∧ x.ig ≤ 9223372036854775807)
theorem read_Lab {H : Type} {enc : TypeId × Value → H} {W : World} {base : Nat} {spare : Nat → Bool} {held : Bool} {n : Nat} {cs : List Value} {y : DataW H × List MemPlace} (h : DataW.trod enc Tryd.prog W base spare held n 26 cs = some y) : ∃ x : Lab, cs = labTy.enc x ∧ okLab x := by
  obtain ⟨xs, m, _, _, hl, hxs, hf⟩ := DataW.trod_struct Tryd.underlying26 h
  have hc : Tryd.prog.cellsOf 26 = 3 := by kernel_rfl
  rw [hc] at hl
  have g0 : DataW.trod enc Tryd.prog W base spare held m 3 ((cs.drop 0).take (Tryd.prog.cellsOf 3)) = xs[0]? := hf 0 _ rfl
  rw [show Tryd.prog.cellsOf 3 = 1 by kernel_rfl] at g0
  obtain ⟨y0, k0⟩ : ∃ y, xs[0]? = some y := ⟨_, List.getElem?_eq_getElem (by rw [hxs]; decide)⟩
  rw [k0] at g0
  obtain ⟨z0, e0, o0⟩ := open_i64 Tryd.underlying3 g0
  have g1 : DataW.trod enc Tryd.prog W base spare held m 24 ((cs.drop 1).take (Tryd.prog.cellsOf 24)) = xs[1]? := hf 1 _ rfl
  rw [show Tryd.prog.cellsOf 24 = 1 by kernel_rfl] at g1
  obtain ⟨y1, k1⟩ : ∃ y, xs[1]? = some y := ⟨_, List.getElem?_eq_getElem (by rw [hxs]; decide)⟩
  rw [k1] at g1
  obtain ⟨z1, e1, o1⟩ := open_u64 Tryd.underlying24 g1
  have g2 : DataW.trod enc Tryd.prog W base spare held m 3 ((cs.drop 2).take (Tryd.prog.cellsOf 3)) = xs[2]? := hf 2 _ rfl
  rw [show Tryd.prog.cellsOf 3 = 1 by kernel_rfl] at g2
  obtain ⟨y2, k2⟩ : ∃ y, xs[2]? = some y := ⟨_, List.getElem?_eq_getElem (by rw [hxs]; decide)⟩
  rw [k2] at g2
  obtain ⟨z2, e2, o2⟩ := open_i64 Tryd.underlying3 g2
  refine ⟨⟨z0, z1, z2⟩, ?_, ⟨o0, o1, o2⟩⟩
  have hs : cs = ((cs.drop 0).take 1) ++ ((cs.drop 1).take 1) ++ ((cs.drop 2).take 1) := by
    match cs, hl with
    | [c0, c1, c2], _ => rfl
  rw [hs, e0, e1, e2]
  rfl
def okFil (x : Fil) : Prop := (-9223372036854775808 ≤ x.kd ∧ x.kd ≤ 9223372036854775807) ∧ (-9223372036854775808 ≤ x.mx ∧ x.mx ≤ 9223372036854775807) ∧ x.fm.size ≤ 9223372036854775807
theorem read_Fil {H : Type} {enc : TypeId × Value → H} {W : World} {base : Nat} {spare : Nat → Bool} {held : Bool} {n : Nat} {cs : List Value} {y : DataW H × List MemPlace} (h : DataW.trod enc Tryd.prog W base spare held n 39 cs = some y) : ∃ x : Fil, cs = filTy.enc x ∧ okFil x := by
  obtain ⟨xs, m, _, _, hl, hxs, hf⟩ := DataW.trod_struct Tryd.underlying39 h
  have hc : Tryd.prog.cellsOf 39 = 3 := by kernel_rfl
  rw [hc] at hl
  have g0 : DataW.trod enc Tryd.prog W base spare held m 3 ((cs.drop 0).take (Tryd.prog.cellsOf 3)) = xs[0]? := hf 0 _ rfl
  rw [show Tryd.prog.cellsOf 3 = 1 by kernel_rfl] at g0
  obtain ⟨y0, k0⟩ : ∃ y, xs[0]? = some y := ⟨_, List.getElem?_eq_getElem (by rw [hxs]; decide)⟩
  rw [k0] at g0
  obtain ⟨z0, e0, o0⟩ := open_i64 Tryd.underlying3 g0
  have g1 : DataW.trod enc Tryd.prog W base spare held m 3 ((cs.drop 1).take (Tryd.prog.cellsOf 3)) = xs[1]? := hf 1 _ rfl
  rw [show Tryd.prog.cellsOf 3 = 1 by kernel_rfl] at g1
  obtain ⟨y1, k1⟩ : ∃ y, xs[1]? = some y := ⟨_, List.getElem?_eq_getElem (by rw [hxs]; decide)⟩
  rw [k1] at g1
  obtain ⟨z1, e1, o1⟩ := open_i64 Tryd.underlying3 g1
  have g2 : DataW.trod enc Tryd.prog W base spare held m 9 ((cs.drop 2).take (Tryd.prog.cellsOf 9)) = xs[2]? := hf 2 _ rfl
  rw [show Tryd.prog.cellsOf 9 = 1 by kernel_rfl] at g2
  obtain ⟨y2, k2⟩ : ∃ y, xs[2]? = some y := ⟨_, List.getElem?_eq_getElem (by rw [hxs]; decide)⟩
  rw [k2] at g2
  obtain ⟨z2, e2, o2⟩ := open_str Tryd.underlying9 g2
  refine ⟨⟨z0, z1, z2⟩, ?_, ⟨o0, o1, o2⟩⟩
  have hs : cs = ((cs.drop 0).take 1) ++ ((cs.drop 1).take 1) ++ ((cs.drop 2).take 1) := by
    match cs, hl with
    | [c0, c1, c2], _ => rfl
  rw [hs, e0, e1, e2]
  rfl
def okRul (x : Rul) : Prop := (-9223372036854775808 ≤ x.id ∧ x.id ≤ 9223372036854775807) ∧ okLab x.fr ∧ okLab x.to ∧ (-9223372036854775808 ≤ x.bu ∧ x.bu ≤ 9223372036854775807) ∧ okFil x.wh
theorem read_Rul {H : Type} {enc : TypeId × Value → H} {W : World} {base : Nat} {spare : Nat → Bool} {held : Bool} {n : Nat} {cs : List Value} {y : DataW H × List MemPlace} (h : DataW.trod enc Tryd.prog W base spare held n 41 cs = some y) : ∃ x : Rul, cs = rulTy.enc x ∧ okRul x := by
  obtain ⟨xs, m, _, _, hl, hxs, hf⟩ := DataW.trod_struct Tryd.underlying41 h
  have hc : Tryd.prog.cellsOf 41 = 11 := by kernel_rfl
  rw [hc] at hl
  have g0 : DataW.trod enc Tryd.prog W base spare held m 3 ((cs.drop 0).take (Tryd.prog.cellsOf 3)) = xs[0]? := hf 0 _ rfl
  rw [show Tryd.prog.cellsOf 3 = 1 by kernel_rfl] at g0
  obtain ⟨y0, k0⟩ : ∃ y, xs[0]? = some y := ⟨_, List.getElem?_eq_getElem (by rw [hxs]; decide)⟩
  rw [k0] at g0
  obtain ⟨z0, e0, o0⟩ := open_i64 Tryd.underlying3 g0
  have g1 : DataW.trod enc Tryd.prog W base spare held m 26 ((cs.drop 1).take (Tryd.prog.cellsOf 26)) = xs[1]? := hf 1 _ rfl
  rw [show Tryd.prog.cellsOf 26 = 3 by kernel_rfl] at g1
  obtain ⟨y1, k1⟩ : ∃ y, xs[1]? = some y := ⟨_, List.getElem?_eq_getElem (by rw [hxs]; decide)⟩
  rw [k1] at g1
  obtain ⟨z1, e1, o1⟩ := read_Lab g1
  have g2 : DataW.trod enc Tryd.prog W base spare held m 26 ((cs.drop 4).take (Tryd.prog.cellsOf 26)) = xs[2]? := hf 2 _ rfl
  rw [show Tryd.prog.cellsOf 26 = 3 by kernel_rfl] at g2
  obtain ⟨y2, k2⟩ : ∃ y, xs[2]? = some y := ⟨_, List.getElem?_eq_getElem (by rw [hxs]; decide)⟩
  rw [k2] at g2
  obtain ⟨z2, e2, o2⟩ := read_Lab g2
  have g3 : DataW.trod enc Tryd.prog W base spare held m 3 ((cs.drop 7).take (Tryd.prog.cellsOf 3)) = xs[3]? := hf 3 _ rfl
  rw [show Tryd.prog.cellsOf 3 = 1 by kernel_rfl] at g3
  obtain ⟨y3, k3⟩ : ∃ y, xs[3]? = some y := ⟨_, List.getElem?_eq_getElem (by rw [hxs]; decide)⟩
  rw [k3] at g3
  obtain ⟨z3, e3, o3⟩ := open_i64 Tryd.underlying3 g3
  have g4 : DataW.trod enc Tryd.prog W base spare held m 39 ((cs.drop 8).take (Tryd.prog.cellsOf 39)) = xs[4]? := hf 4 _ rfl
  rw [show Tryd.prog.cellsOf 39 = 3 by kernel_rfl] at g4
  obtain ⟨y4, k4⟩ : ∃ y, xs[4]? = some y := ⟨_, List.getElem?_eq_getElem (by rw [hxs]; decide)⟩
  rw [k4] at g4
  obtain ⟨z4, e4, o4⟩ := read_Fil g4
  refine ⟨⟨z0, z1, z2, z3, z4⟩, ?_, ⟨o0, o1, o2, o3, o4⟩⟩
  have hs : cs = ((cs.drop 0).take 1) ++ ((cs.drop 1).take 3) ++ ((cs.drop 4).take 3) ++ ((cs.drop 7).take 1) ++ ((cs.drop 8).take 3) := by
    match cs, hl with
    | [c0, c1, c2, c3, c4, c5, c6, c7, c8, c9, c10], _ => rfl
  rw [hs, e0, e1, e2, e3, e4]
  rfl
def okJen (x : Jen) : Prop := (-9223372036854775808 ≤ x.st ∧ x.st ≤ 9223372036854775807) ∧ (-9223372036854775808 ≤ x.ru ∧ x.ru ≤ 9223372036854775807) ∧ okLab x.to ∧ x.da.size ≤ 9223372036854775807
theorem read_Jen {H : Type} {enc : TypeId × Value → H} {W : World} {base : Nat} {spare : Nat → Bool} {held : Bool} {n : Nat} {cs : List Value} {y : DataW H × List MemPlace} (h : DataW.trod enc Tryd.prog W base spare held n 46 cs = some y) : ∃ x : Jen, cs = entTy.enc x ∧ okJen x := by
  obtain ⟨xs, m, _, _, hl, hxs, hf⟩ := DataW.trod_struct Tryd.underlying46 h
  have hc : Tryd.prog.cellsOf 46 = 6 := by kernel_rfl
  rw [hc] at hl
  have g0 : DataW.trod enc Tryd.prog W base spare held m 3 ((cs.drop 0).take (Tryd.prog.cellsOf 3)) = xs[0]? := hf 0 _ rfl
  rw [show Tryd.prog.cellsOf 3 = 1 by kernel_rfl] at g0
  obtain ⟨y0, k0⟩ : ∃ y, xs[0]? = some y := ⟨_, List.getElem?_eq_getElem (by rw [hxs]; decide)⟩
  rw [k0] at g0
  obtain ⟨z0, e0, o0⟩ := open_i64 Tryd.underlying3 g0
  have g1 : DataW.trod enc Tryd.prog W base spare held m 3 ((cs.drop 1).take (Tryd.prog.cellsOf 3)) = xs[1]? := hf 1 _ rfl
  rw [show Tryd.prog.cellsOf 3 = 1 by kernel_rfl] at g1
  obtain ⟨y1, k1⟩ : ∃ y, xs[1]? = some y := ⟨_, List.getElem?_eq_getElem (by rw [hxs]; decide)⟩
  rw [k1] at g1
  obtain ⟨z1, e1, o1⟩ := open_i64 Tryd.underlying3 g1
  have g2 : DataW.trod enc Tryd.prog W base spare held m 26 ((cs.drop 2).take (Tryd.prog.cellsOf 26)) = xs[2]? := hf 2 _ rfl
  rw [show Tryd.prog.cellsOf 26 = 3 by kernel_rfl] at g2
  obtain ⟨y2, k2⟩ : ∃ y, xs[2]? = some y := ⟨_, List.getElem?_eq_getElem (by rw [hxs]; decide)⟩
  rw [k2] at g2
  obtain ⟨z2, e2, o2⟩ := read_Lab g2
  have g3 : DataW.trod enc Tryd.prog W base spare held m 9 ((cs.drop 5).take (Tryd.prog.cellsOf 9)) = xs[3]? := hf 3 _ rfl
  rw [show Tryd.prog.cellsOf 9 = 1 by kernel_rfl] at g3
  obtain ⟨y3, k3⟩ : ∃ y, xs[3]? = some y := ⟨_, List.getElem?_eq_getElem (by rw [hxs]; decide)⟩
  rw [k3] at g3
  obtain ⟨z3, e3, o3⟩ := open_str Tryd.underlying9 g3
  refine ⟨⟨z0, z1, z2, z3⟩, ?_, ⟨o0, o1, o2, o3⟩⟩
  have hs : cs = ((cs.drop 0).take 1) ++ ((cs.drop 1).take 1) ++ ((cs.drop 2).take 3) ++ ((cs.drop 5).take 1) := by
    match cs, hl with
    | [c0, c1, c2, c3, c4, c5], _ => rfl
  rw [hs, e0, e1, e2, e3]
  rfl
theorem rb_of {x : Rul} (h : okRul x) : x.wh.fm.size ≤ 9223372036854775807 := h.2.2.2.2.2.2
theorem eb_of {x : Jen} (h : okJen x) : x.da.size ≤ 9223372036854775807 := h.2.2.2
theorem e6_of {x : Jen} (h : okJen x) : jen64 x := h.2.2.1.2.1
theorem l6_of {a : Lab} (h : okLab a) : lab64 a := h.2.1
end Go.Proofs.YthehnjbdkjnlpaaDoor
