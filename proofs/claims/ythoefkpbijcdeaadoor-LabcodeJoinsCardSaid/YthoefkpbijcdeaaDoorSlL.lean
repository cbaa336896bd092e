/- Kinds of elements; windows on lists of the call's own; what is lent for a call; yields. -/
import Derived.Test.YthoefkpbijcdeaaDoorSlK
set_option linter.unusedVariables false
set_option linter.unusedSimpArgs false
namespace Go.Sl
open Go Go.RowKit

def strTy : Ty ByteArray := ⟨1, fun s => [.string s], fun _ => rfl, fun _ => rfl⟩
def intTy : Ty Int := ⟨1, fun z => [.int .i64 z], fun _ => rfl, fun _ => rfl⟩
def u8Ty : Ty UInt8 := ⟨1, fun z => [.int .u8 (z.toNat : Int)], fun _ => rfl, fun _ => rfl⟩
def u64Ty : Ty Nat := ⟨1, fun z => [.int .u64 (z : Int)], fun _ => rfl, fun _ => rfl⟩

/-! ### Windows -/
/-- Elements of the call's own, wherever they begin. -/
def win {α : Type} (d : Ty α) (T : TypeId) (A : Option Addr) (c : Nat) (l : List α) : Atom := fun h => l.length ≤ c ∧ c ≤ maxLen ∧ (0 < l.length → ∃ b o cur, A = some ⟨b, o, none⟩ ∧ h b = some (.cells cur T (0, 0)) ∧ ∀ j v, (d.cells l)[j]? = some v → cur[o + j]? = some v)
theorem win.reads {α : Type} {d : Ty α} {T : TypeId} {A : Option Addr} {c : Nat} {l : List α} {h : Hp} (a : win d T A c l h) : rd d A c l h := by
  obtain ⟨h1, h2, h3⟩ := a
  refine ⟨h1, by simp only [maxLen] at h2; omega, fun hp => ?_⟩
  obtain ⟨b, o, cur, hA, hb, hc⟩ := h3 hp
  exact ⟨b, o, hA, cur, T, (0, 0), hb, hc⟩
theorem ars.win {α : Type} {d : Ty α} {T : TypeId} {A : Option Addr} {c : Nat} {l : List α} {h : Hp} (a : ars d T A c l h) : win d T A c l h := by
  rcases a with ⟨rfl, rfl, rfl⟩ | ⟨b, cur, rfl, hb, hl, hm, hs, ht⟩
  · exact ⟨Nat.le_refl _, by simp [maxLen], fun h => absurd h (by simp)⟩
  · refine ⟨hl, hm, fun _ => ⟨b, 0, cur, rfl, hb, fun j v hj => ?_⟩⟩
    rw [← ht, List.getElem?_take] at hj
    split at hj
    · simpa using hj
    · cases hj
theorem win.cut {α : Type} {d : Ty α} {T : TypeId} {A : Option Addr} {c lo hi mx : Nat} {l : List α} {h : Hp} (h0 : lo ≤ hi) (h1 : hi ≤ l.length) (h2 : hi ≤ mx) (h4 : mx ≤ c) (a : win d T A c l h) : win d T (cutA d A lo mx) (mx - lo) ((l.take hi).drop lo) h := by
  have hlen : ((l.take hi).drop lo).length = hi - lo := by simp; omega
  obtain ⟨q1, q2, q3⟩ := a
  refine ⟨by omega, by omega, fun hp => ?_⟩
  obtain ⟨b, o, cur, rfl, hb, hc⟩ := q3 (by omega)
  refine ⟨b, o + lo * d.sz, cur, ?_, hb, fun j v hj => ?_⟩
  · unfold cutA
    rw [if_neg (by omega)]
    simp [add_none]
  · have e1 : ((d.cells l).drop (lo * d.sz)).take ((hi - lo) * d.sz) = d.cells ((l.take hi).drop lo) := by rw [← d.cells_drop, ← d.cells_take, List.drop_take]
    rw [← e1, List.getElem?_take] at hj
    split at hj
    · rw [Nat.add_assoc]; exact hc _ v (by simpa using hj)
    · cases hj
theorem over_get : ∀ (vs cs : List Value) (p q : Nat), p + vs.length ≤ cs.length → (over cs p vs)[q]? = if p ≤ q ∧ q < p + vs.length then vs[q - p]? else cs[q]?
  | [], cs, p, q, h => by
    simp only [over, List.length_nil, Nat.add_zero]
    rw [if_neg (by omega)]
  | v :: vs, cs, p, q, h => by
    simp only [List.length_cons] at h
    rw [over, over_get vs (cs.set p v) (p + 1) q (by simp; omega)]
    by_cases h1 : p + 1 ≤ q ∧ q < p + 1 + vs.length
    · rw [if_pos h1, if_pos (by simp; omega), show q - p = (q - (p + 1)) + 1 from by omega]
      simp
    · rw [if_neg h1]
      by_cases h2 : q = p
      · subst h2
        rw [if_pos (by simp)]
        simp [show q < cs.length from by omega]
      · rw [if_neg (by simp; omega), List.getElem?_set_ne (fun e => h2 e.symm)]
theorem Ty.cells_set {α : Type} (d : Ty α) (l : List α) (k : Nat) (x : α) (hk : k < l.length) : d.cells (l.set k x) = over (d.cells l) (k * d.sz) (d.enc x) := by
  have e1 : l.set k x = l.take k ++ [x] ++ l.drop (k + 1) := by rw [List.set_eq_take_append_cons_drop, if_pos hk]; simp
  have e2 := d.cells_length (l.take k)
  have e4 : d.cells [x] = d.enc x := by simp [Ty.cells]
  have hlk : (l.take k).length = k := by simp; omega
  have hmul : (k + 1) * d.sz ≤ l.length * d.sz := Nat.mul_le_mul_right _ hk
  have hm2 : (k + 1) * d.sz = k * d.sz + d.sz := by rw [Nat.add_mul, Nat.one_mul]
  apply List.ext_getElem?
  intro j
  rw [over_get _ _ _ _ (by rw [d.len, d.cells_length]; omega), e1, d.cells_append, d.cells_append, e4, d.len]
  rw [hlk] at e2
  by_cases h1 : j < k * d.sz
  · rw [if_neg (by omega), List.append_assoc, List.getElem?_append_left (by omega), d.cells_take, List.getElem?_take, if_pos h1]
  · by_cases h2 : j < k * d.sz + d.sz
    · rw [if_pos (by omega), List.append_assoc, List.getElem?_append_right (by omega), List.getElem?_append_left (by rw [d.len]; omega), e2]
    · rw [if_neg (by omega), List.getElem?_append_right (by simp only [List.length_append, e2, d.len]; omega), d.cells_drop, List.getElem?_drop]
      congr 1
      simp only [List.length_append, e2, d.len]; omega

/-! ### What is lent -/
def Lends (A φ : Atom) : Prop := ∀ h k, A h → le h k → φ k
inductive Lent : List Atom → List Atom → Prop where
  | nil : Lent [] []
  | cons {A φ : Atom} {As φs : List Atom} (h : Lends A φ) (r : Lent As φs) : Lent (A :: As) (φ :: φs)
theorem rd.up {α : Type} {d : Ty α} {A : Option Addr} {c : Nat} {l : List α} {h k : Hp} (a : rd d A c l h) (hl : le h k) : rd d A c l k := by
  obtain ⟨q1, q2, q3⟩ := a
  refine ⟨q1, q2, fun hp => ?_⟩
  obtain ⟨b, off, hA, cur, T', fr, hb, hc⟩ := q3 hp
  exact ⟨b, off, hA, cur, T', fr, hl _ _ hb, hc⟩
theorem lend_ars {α : Type} {d : Ty α} {T : TypeId} {A : Option Addr} {c : Nat} {l : List α} : Lends (ars d T A c l) (rd d A c l) := fun h k a hl => a.reads.up hl
theorem lend_win {α : Type} {d : Ty α} {T : TypeId} {A : Option Addr} {c : Nat} {l : List α} : Lends (win d T A c l) (rd d A c l) := fun h k a hl => a.reads.up hl
theorem lend_pt {b T : Nat} {cs : List Value} : Lends (pt b cs T) (cellsAt b 0 cs) := fun h k a hl => ⟨cs.toArray, T, (0, 0), hl _ _ a, fun j v hj => by simpa using hj⟩
theorem Lent.facts : ∀ {Ms Fs : List Atom} {h : Hp}, Lent Ms Fs → Sep Ms h → Facts Fs h
  | _, _, _, .nil, _ => Facts.nil _
  | _, _, _, .cons hl r, ⟨h1, h2, d, l1, l2, a, s⟩ => Facts.cons (fun k hk => hl h1 k a (l1.trans hk)) ((r.facts s).up l2)

section
variable {n : Nat} {C : Ctx} {e : Env} {D : List Deferred} {L I : List Atom} {P : Program} {ro : Option Nat} {Q : Exit → Act → World → Prop} {K X : Act → World → Prop}

theorem Own.lent {w : World} {Ml L1 Lf Lr Fl If : List Atom} {lx ix : List Nat} (o : Own C L I w) (hl : pull L lx = some (Ml, L1)) (hp : pull L1 ix = some (Lf, Lr)) (hr : Lent Ml Fl) (hI : ∀ φ ∈ If, φ ∈ I) :
    ∃ C' : Ctx, Own C' Lf (Fl ++ If) w ∧ ∀ w' L', Own C' L' (Fl ++ If) w' → Own C (L' ++ (Ml ++ Lr)) I w' := by
  obtain ⟨h, hI0, o⟩ := o
  obtain ⟨h1, h2, d, l1, l2, s1, s2⟩ := Sep.pull hl o.sep
  obtain ⟨k1, k2, d', m1, m2, t1, t2⟩ := Sep.pull hp s2
  have a1 : apart h1 hI0 := o.d1.mono_left l1
  have a2 : apart h2 hI0 := o.d1.mono_left l2
  have lI : le (both hI0 h1) (hpOf w) := both_le o.l2 (l1.trans o.l1)
  have r2 : apart k2 C.R := o.d2.mono_left (m2.trans l2)
  refine ⟨⟨C.w0, both k2 C.R, both hI0 h1⟩, ⟨k1, both hI0 h1, t1, ?_, le.refl _, ?_, ?_, ?_, m1.trans (l2.trans o.l1), lI, both_le (m2.trans (l2.trans o.l1)) o.l3, o.os, o.tape, o.output⟩, ?_⟩
  · exact Facts.append ((hr.facts s1).up (le_both_right a1.symm)) ((o.facts.sub hI).up (le_both_left _ _))
  · exact apart_both' (a2.mono_left m1) (d.symm.mono_left m1)
  · exact apart_both' d' (o.d2.mono_left (m1.trans l2))
  · exact apart_both (apart_both' (a2.mono_left m2).symm o.d3) (apart_both' (d.mono_right m2) (o.d2.mono_left l1))
  · rintro w' L' ⟨k, kI, m⟩
    have b1 : le hI0 kI := (le_both_left _ _).trans m.base
    have b2 : le h1 kI := (le_both_right a1.symm).trans m.base
    have c1 : apart k hI0 := m.d1.mono_right b1
    have c2 : apart k h1 := m.d1.mono_right b2
    have c3 : apart k k2 := m.d2.mono_right (le_both_left _ _)
    have c4 : apart k C.R := m.d2.mono_right (le_both_right r2)
    have c5 : apart h1 k2 := d.mono_right m2
    have lR : le (both k2 C.R) (hpOf w') := m.l3
    refine ⟨both k (both h1 k2), hI0, Sep.join (apart_both' c2 c3) m.sep (Sep.join c5 s1 t2), o.facts, o.base, apart_both c1 (apart_both a1 (a2.mono_left m2)), apart_both c4 (apart_both (o.d2.mono_left l1) r2), o.d3, both_le m.l1 (both_le (b2.trans m.l2) ((le_both_left _ _).trans lR)), b1.trans m.l2, (le_both_right r2).trans lR, m.os, m.tape, m.output⟩

/-- A call that reads what is lent to it. -/
theorem o_lend {dt : Tmp} {fo : Operand} {xs : List Operand} {ats : Array TypeId} {ty : TypeId} {pos : String} {aft : Array Edge} {g : Option (Nat × Bool)} {f : FuncId} {fst cap vals args : List Value} {Ml L1 Lf Lr Fl If Ia : List Atom} {post : Value → List Atom → List Atom → Prop}
    (lx ix jx : List Nat) (spec : Con P f args Lf Ia post) (hr : Lent Ml Fl) (hx : ev e fo = some (.func (.func f) fst.toArray cap.toArray)) (hv : evs e xs = some vals) (ha : fst ++ vals ++ cap = args) (hl : pull L lx = some (Ml, L1)) (hp : pull L1 ix = some (Lf, Lr)) (hI : picks I jx = some If) (hIa : Ia = Fl ++ If) (hd : Nat.blt dt n = true)
    (h : ∀ v L' I', post v L' I' → I' = [] ∧ Ent n C ((dt, v) :: e) D (L' ++ (Ml ++ Lr)) I K) : Ent n C e D L I (ow ro P ⟨some dt, .call ⟨.value fo, xs.toArray, ats⟩, ty, pos, aft, g⟩ Q K) :=
  fun a w k s d ho => by
    subst hIa
    obtain ⟨C', o1, back⟩ := ho.lent hl hp hr (picks_mem hI)
    have hval := k.evals hv
    have hrun : (execOp a.eval ⟨some dt, .call ⟨.value fo, xs.toArray, ats⟩, ty, pos, aft, g⟩).run P w = .ok (.enter f args.toArray) w := by
      have h1 : (xs.toArray.map a.eval) = vals.toArray := by rw [List.map_toArray, hval]
      simp only [execOp, resolve, h1, k.eval hx, Deferred.ofValue, Sem.run_bind, Sem.run_pure, Result.andThen_ok, invoke]
      rw [← ha]
      simpa using run_callFunc (P := P) spec.1 (fst.toArray ++ vals.toArray ++ cap.toArray) w
    refine ow_enter (by simp) hrun (spec.2 C' w o1) ?_
    rintro v w'' ⟨L', I', hq, ho'⟩
    have hlt : dt < a.tmps.size := by rw [s]; simpa using hd
    obtain ⟨rfl, h⟩ := h v L' I' hq
    exact h _ _ (k.put hlt) (by simp [Act.put, s]) (by simpa [Act.put] using d) (back _ _ ho')

/-! ### Atoms in other words -/
theorem e_weak {A B : Atom} (i : Nat) (hi : L[i]? = some A) (hw : ∀ h, A h → B h) (h : Ent n C e D (L.set i B) I X) : Ent n C e D L I X := fun a w kn s dd ho => by
  obtain ⟨h0, hI, o⟩ := ho
  obtain ⟨h1, h2, ap, l1, l2, ha, hs⟩ := Sep.take i hi o.sep
  exact h a w kn s dd ⟨h0, hI, Sep.put i hi ap l1 l2 (hw _ ha) hs, o.facts, o.base, o.d1, o.d2, o.d3, o.l1, o.l2, o.l3, o.os, o.tape, o.output⟩
/-- What an atom says of the plain data. -/
theorem e_know {A : Atom} {p : Prop} (i : Nat) (hi : L[i]? = some A) (hw : ∀ h, A h → p) (h : p → Ent n C e D L I X) : Ent n C e D L I X := fun a w kn s dd ho => by
  obtain ⟨h1, _, hA⟩ := ho.atom i hi
  exact h (hw _ hA) a w kn s dd ho
theorem ars.lens {α : Type} {d : Ty α} {T : TypeId} {A : Option Addr} {c : Nat} {l : List α} (h : Hp) (a : ars d T A c l h) : l.length ≤ c ∧ c ≤ maxLen := by
  rcases a with ⟨rfl, rfl, rfl⟩ | ⟨b, cur, rfl, hb, hl, hm, hs, ht⟩
  · exact ⟨Nat.le_refl _, by simp [maxLen]⟩
  · exact ⟨hl, hm⟩
theorem win.lens {α : Type} {d : Ty α} {T : TypeId} {A : Option Addr} {c : Nat} {l : List α} (h : Hp) (a : win d T A c l h) : l.length ≤ c ∧ c ≤ maxLen := ⟨a.1, a.2.1⟩
/-- A window that is written no more. -/
theorem e_stillw {α : Type} {d : Ty α} {T : TypeId} {A : Option Addr} {c : Nat} {l : List α} (i : Nat) (hi : L[i]? = some (win d T A c l)) (h : Ent n C e D (L.eraseIdx i) (rd d A c l :: I) X) : Ent n C e D L I X := fun a w kn s dd ho => by
  obtain ⟨h0, hI, o⟩ := ho
  obtain ⟨h1, h2, ap, l1, l2, ha, hs⟩ := Sep.take i hi o.sep
  refine h a w kn s dd ⟨h2, both hI h1, hs, Facts.cons (fun k hk => ?_) (o.facts.up (le_both_left _ _)), o.base.trans (le_both_left _ _), apart_both' (o.d1.mono_left l2) ap.symm, o.d2.mono_left l2, apart_both o.d3 (o.d2.mono_left l1), l2.trans o.l1, both_le o.l2 (l1.trans o.l1), o.l3, o.os, o.tape, o.output⟩
  exact ha.reads.up ((le_both_right ((o.d1.mono_left l1).symm)).trans hk)
/-- Where a window begins. -/
theorem e_winb {α : Type} {d : Ty α} {T : TypeId} {A : Option Addr} {c : Nat} {l : List α} (i : Nat) (hi : L[i]? = some (win d T A c l)) (hne : 0 < l.length) (h : ∀ b o, A = some ⟨b, o, none⟩ → Ent n C e D L I X) : Ent n C e D L I X := fun a w kn s dd ho => by
  obtain ⟨h1, _, hA⟩ := ho.atom i hi
  obtain ⟨b, o, cur, hA, _, _⟩ := hA.2.2 hne
  exact h b o hA a w kn s dd ho
/-- An element of a window, read. -/
theorem o_ldw {α : Type} {d : Ty α} {T : TypeId} {A : Option Addr} {c b o j : Nat} {l : List α} {dt : Tmp} {x : Operand} {t : TypeId} {ty : TypeId} {pos : String} {aft : Array Edge} {g : Option (Nat × Bool)} {v : Value} {dd : TypeDesc} {y : α} (i k : Nat) (hi : L[i]? = some (win d T A c l)) (hA : A = some ⟨b, o, none⟩) (hk : l[k]? = some y)
    (hx : ev e x = some (.pointer (some ⟨b, o + k * d.sz + j, none⟩))) (hv : (d.enc y)[j]? = some v) (hu : P.underlying t = some dd) (ha : aggD dd = false) (hd : Nat.blt dt n = true)
    (h : Ent n C ((dt, v) :: e) D L I K) : Ent n C e D L I (ow ro P ⟨some dt, .load t x, ty, pos, aft, g⟩ Q K) :=
  ow_pure rfl hd (by simp) (fun a w kn ho => by
    obtain ⟨h1, hl, q1, q2, q3⟩ := ho.atom i hi
    obtain ⟨b', o', cur, hA', hb, hc⟩ := q3 (by have := (List.getElem?_eq_some_iff.1 hk).1; omega)
    rw [hA] at hA'
    simp only [Option.some.injEq, Addr.mk.injEq] at hA'
    obtain ⟨rfl, rfl, _⟩ := hA'
    have h2 : (d.cells l)[k * d.sz + j]? = some v := by
      have := d.cells_at hk
      rw [← this, List.getElem?_take] at hv
      split at hv
      · simpa using hv
      · cases hv
    have hcell : w.cell? ⟨b, o + k * d.sz + j, none⟩ = some v := by
      rw [cell_of (hl _ _ hb), Nat.add_assoc]; exact hc _ v h2
    have hr := run_load1 (P := P) hu ha hcell
    simp only [execOp, kn.eval hx, Sem.run_bind, hr, Result.andThen_ok, Sem.run_pure]) h
/-- An element of a window, written. -/
theorem o_stw {α : Type} {d : Ty α} {T : TypeId} {A : Option Addr} {c b o : Nat} {l : List α} {x y : Operand} {t : TypeId} {ty : TypeId} {pos : String} {aft : Array Edge} {g : Option (Nat × Bool)} {v : Value} (i k : Nat) (z : α) (hi : L[i]? = some (win d T A c l)) (hA : A = some ⟨b, o, none⟩) (hk : k < l.length)
    (hx : ev e x = some (.pointer (some ⟨b, o + k * d.sz, none⟩))) (hy : ev e y = some v) (hv : v.cells.toList = d.enc z) (hsz : P.cellsOf t = d.sz) (hin : (P.info? t).isSome = true) (hpos : Nat.blt 0 d.sz = true)
    (h : Ent n C e D (L.set i (win d T A c (l.set k z))) I K) : Ent n C e D L I (ow ro P ⟨none, .store t x y, ty, pos, aft, g⟩ Q K) :=
  fun a w kn s dd ho => by
    obtain ⟨h0, hI, m⟩ := ho
    obtain ⟨h1, h2, ap, s1, s2, hw, hs⟩ := Sep.take i hi m.sep
    obtain ⟨q1, q2, q3⟩ := hw
    obtain ⟨b', o', cur, hA', hb, hc⟩ := q3 (by omega)
    rw [hA] at hA'
    simp only [Option.some.injEq, Addr.mk.injEq] at hA'
    obtain ⟨rfl, rfl, _⟩ := hA'
    have hpos' : 0 < d.sz := by simpa using hpos
    have hkm : (k + 1) * d.sz ≤ l.length * d.sz := Nat.mul_le_mul_right _ hk
    have hk1 : (k + 1) * d.sz = k * d.sz + d.sz := by rw [Nat.add_mul, Nat.one_mul]
    have hcl := d.cells_length l
    have hfit : o + k * d.sz + (d.enc z).length ≤ cur.toList.length := by
      rw [d.len]
      have hlast : (d.cells l)[l.length * d.sz - 1]? = some ((d.cells l)[l.length * d.sz - 1]'(by omega)) := List.getElem?_eq_getElem _
      have := hc _ _ hlast
      have := (Array.getElem?_eq_some_iff.1 this).1
      simp only [Array.length_toList]
      omega
    have hwb : w.heap[b]? = some (.cells cur.toList.toArray T (0, 0)) := m.l1 _ _ (s1 _ _ hb)
    have hr := run_store_pt (P := P) (t := t) (o := o + k * d.sz) hwb hv (by rw [hsz, d.len]) hin (d.one z) hfit
    have hone : Own C (ob b (.cells cur T (0, 0)) :: L.eraseIdx i) I w := by
      refine ⟨h0, hI, ⟨h1, h2, ap, s1, s2, hb, hs⟩, m.facts, m.base, m.d1, m.d2, m.d3, m.l1, m.l2, m.l3, m.os, m.tape, m.output⟩
    obtain ⟨ho', _⟩ := write_own (y := .cells (over cur.toList (o + k * d.sz) (d.enc z)).toArray T (0, 0)) hone 0 rfl
    refine ow_skip (by simp) (w' := { w with heap := w.heap.setIfInBounds b (.cells (over cur.toList (o + k * d.sz) (d.enc z)).toArray T (0, 0)) }) (by simp only [execOp, kn.eval hx, kn.eval hy, Sem.run_bind, hr, Result.andThen_ok, Sem.run_pure]) ?_
    refine h a _ kn s dd ?_
    obtain ⟨g0, gI, m'⟩ := ho'
    obtain ⟨g1, g2, ap', t1, t2, hb', hs'⟩ := m'.sep
    refine ⟨g0, gI, Sep.put i hi ap' t1 t2 ?_ hs', m'.facts, m'.base, m'.d1, m'.d2, m'.d3, m'.l1, m'.l2, m'.l3, m'.os, m'.tape, m'.output⟩
    refine ⟨by simpa using q1, q2, fun _ => ⟨b, o, _, hA, hb', fun j u hj => ?_⟩⟩
    rw [d.cells_set l k z hk, over_get _ _ _ _ (by rw [d.len, hcl]; omega)] at hj
    simp only [List.getElem?_toArray]
    rw [over_get _ _ _ _ hfit]
    simp only [d.len] at hj ⊢
    by_cases hin2 : k * d.sz ≤ j ∧ j < k * d.sz + d.sz
    · rw [if_pos hin2] at hj
      rw [if_pos (by omega), show o + j - (o + k * d.sz) = j - k * d.sz from by omega]
      exact hj
    · rw [if_neg hin2] at hj
      rw [if_neg (by omega)]
      have := hc j u hj
      simpa using this

/-! ### Yields -/
theorem o_yield {dt : Tmp} {fo : Operand} {xs : List Operand} {ats : Array TypeId} {ty : TypeId} {pos : String} {aft : Array Edge} {g : Option (Nat × Bool)} {l : Nat} {vs : List Value} {post : Bool → States} (M Lx Ix : List Atom)
    (hy : Yl P l vs Lx Ix post) (hx : ev e fo = some (.func (.yield l) #[] #[])) (hv : evs e xs = some vs) (hL : L = M ++ Lx) (hI : ∀ φ ∈ Ix, φ ∈ I) (hd : Nat.blt dt n = true)
    (h : ∀ b L' I', post b L' I' → Ent n C ((dt, .bool b) :: e) D (M ++ L') (I' ++ I) K) : Ent n C e D L I (ow ro P ⟨some dt, .call ⟨.value fo, xs.toArray, ats⟩, ty, pos, aft, g⟩ Q K) :=
  fun a w k s d ho => by
    subst hL
    have hval := k.evals hv
    obtain ⟨h0, hI0, m⟩ := ho
    obtain ⟨h1, h2, ap, l1, l2, s1, s2⟩ := Sep.append m.sep
    have d2' : apart h1 C.R := m.d2.mono_left l1
    have o1 : Own ⟨C.w0, both h1 C.R, hI0⟩ Lx Ix w := ⟨h2, hI0, s2, m.facts.sub hI, le.refl _, m.d1.mono_left l2, apart_both' ap.symm (m.d2.mono_left l2), apart_both' (m.d1.mono_left l1).symm m.d3, l2.trans m.l1, m.l2, both_le (l1.trans m.l1) m.l3, m.os, m.tape, m.output⟩
    obtain ⟨fn, tmps, assign, body, hrun, hround⟩ := hy _ w o1
    have hrun' : (execOp a.eval ⟨some dt, .call ⟨.value fo, xs.toArray, ats⟩, ty, pos, aft, g⟩).run P w = .ok (.round l fn tmps assign body) w := by
      have h1 : (xs.toArray.map a.eval) = vs.toArray := by rw [List.map_toArray, hval]
      simp only [execOp, resolve, h1, k.eval hx, Deferred.ofValue, Sem.run_bind, Sem.run_pure, Result.andThen_ok, invoke]
      simpa using hrun
    refine ⟨fun f _ => fen_fn ro f, ?_⟩
    rw [Oper.semAt_eq _ _ _ (by simp), hrun']
    have hround' : ∀ R, RoundIn Fence.wide 0 P l fn tmps assign body w R → RoundIn (fen ro) 0 P l fn tmps assign body w R := fun R hR => by
      cases ro with
      | none => exact hR
      | some r => exact hR
    refine ⟨fen_depth' ro _, (hround' _ hround).mono ?_⟩
    rintro x w'' ⟨b, rfl, L', I', hq, k', kI, mm⟩
    have hlt : dt < a.tmps.size := by rw [s]; simpa using hd
    have hb : le h1 (both h1 C.R) := le_both_left _ _
    have hR : le C.R (both h1 C.R) := le_both_right d2'
    refine h b L' I' hq _ _ (k.put hlt) (by simp [Act.put, s]) (by simpa [Act.put] using d) ?_
    refine ⟨both h1 k', kI, Sep.join (mm.d2.mono_right hb).symm s1 mm.sep, Facts.append mm.facts (m.facts.up mm.base), m.base.trans mm.base, apart_both (mm.d3.mono_right hb).symm mm.d1, apart_both d2' (mm.d2.mono_right hR), mm.d3.mono_right hR, both_le (hb.trans mm.l3) mm.l1, mm.l2, hR.trans mm.l3, mm.os, mm.tape, mm.output⟩
end
end Go.Sl
