/- The rules for loads, stores, calls and returns. -/
import Derived.Test.YthoefkpbijcdeaaDoorSlC
import Derived.Maps.AppendAt
set_option linter.unusedVariables false
set_option linter.unusedSimpArgs false
namespace Go.Sl
open Go Go.RowKit

theorem add_none (b o k : Nat) : (⟨b, o, none⟩ : Addr).add k = ⟨b, o + k, none⟩ := by
  unfold Addr.add; split
  · simp_all
  · rfl
theorem cell_of {w : World} {b : Nat} {cs : Array Value} {T : TypeId} {fr : Nat × Nat} (h : w.heap[b]? = some (.cells cs T fr)) (o : Nat) : w.cell? ⟨b, o, none⟩ = cs[o]? := by
  simp [World.cell?, h]
theorem frozen_of {w : World} {b : Nat} {cs : Array Value} {T : TypeId} (h : w.heap[b]? = some (.cells cs T (0, 0))) (o : Nat) : w.frozen? ⟨b, o, none⟩ = false := by
  simp [World.frozen?, h]

def aggD : TypeDesc → Bool
  | .struct _ => true
  | .array _ _ => true
  | _ => false
theorem run_isAgg {P : Program} {t : TypeId} {d : TypeDesc} (hu : P.underlying t = some d) (w : World) : (isAgg t).run P w = .ok (aggD d) w := by
  simp only [isAgg, Sem.run_bind, run_underlying hu, Result.andThen_ok]
  cases d <;> rfl
theorem run_load1 {P : Program} {t : TypeId} {d : TypeDesc} (hu : P.underlying t = some d) (ha : aggD d = false) {w : World} {p : Addr} {v : Value} (hc : w.cell? p = some v) :
    (Instr.loadAt t (.pointer (some p))).run P w = .ok v w := by
  simp only [Instr.loadAt, Instr.sureAddr, loadVar, Sem.run_bind, Sem.run_pure, Result.andThen_ok, run_isAgg hu, ha]
  simp [run_load, hc]
theorem run_loadn {P : Program} {t : TypeId} {d : TypeDesc} (hu : P.underlying t = some d) (ha : aggD d = true) {w : World} {p : Addr} (vs : List Value) (hsz : P.cellsOf t = vs.length) (hi : (P.info? t).isSome = true)
    (hc : ∀ j v, vs[j]? = some v → w.cell? (p.add j) = some v) :
    (Instr.loadAt t (.pointer (some p))).run P w = .ok (.agg vs.toArray) w := by
  obtain ⟨i, hi⟩ := Option.isSome_iff_exists.1 hi
  have hs : i.size = vs.length := by simpa [Program.cellsOf, hi] using hsz
  have h1 : (sizeOf t).run P w = .ok vs.length w := by simp [sizeOf, typeInfo, hi, hs]
  simp only [Instr.loadAt, Instr.sureAddr, loadVar, Sem.run_bind, Sem.run_pure, Result.andThen_ok, run_isAgg hu, ha, if_true, h1, run_loadCells_list (P := P) w p vs hc]
/-- Values laid over some cells. -/
def over (cs : List Value) : Nat → List Value → List Value
  | _, [] => cs
  | k, v :: vs => over (cs.set k v) (k + 1) vs
theorem over_length : ∀ (vs : List Value) (cs : List Value) (k : Nat), (over cs k vs).length = cs.length
  | [], _, _ => rfl
  | v :: vs, cs, k => by simp [over, over_length vs]
def oneAll (vs : List Value) : Bool := vs.all Value.oneCell'
theorem run_storeCells_pt {P : Program} {b T : Nat} : ∀ (vs : List Value) (cs : List Value) (w : World) (o i : Nat), w.heap[b]? = some (.cells cs.toArray T (0, 0)) → oneAll vs = true → o + i + vs.length ≤ cs.length →
    (storeCells ⟨b, o, none⟩ vs i).run P w = .ok () { w with heap := w.heap.setIfInBounds b (.cells (over cs (o + i) vs).toArray T (0, 0)) }
  | [], cs, w, o, i, hb, _, _ => by
    have : w.heap.setIfInBounds b (.cells cs.toArray T (0, 0)) = w.heap := by
      obtain ⟨hlt, he⟩ := Array.getElem?_eq_some_iff.1 hb
      rw [← he, Array.setIfInBounds_def, dif_pos hlt, Array.set_getElem_self]
    simp [storeCells, over, this]
  | v :: vs, cs, w, o, i, hb, h1, hl => by
    simp only [oneAll, List.all_cons, Bool.and_eq_true] at h1
    simp only [List.length_cons] at hl
    obtain ⟨hlt, he⟩ := Array.getElem?_eq_some_iff.1 hb
    have hcell : w.cell? ⟨b, o + i, none⟩ = some (cs[o + i]'(by omega)) := by rw [cell_of hb]; simp
    have hset : w.setCell ⟨b, o + i, none⟩ v = { w with heap := w.heap.setIfInBounds b (.cells (cs.set (o + i) v).toArray T (0, 0)) } := by
      simp only [World.setCell]
      congr 1
      apply Array.ext_getElem?
      intro j
      by_cases hj : b = j
      · subst hj
        rw [Array.getElem?_modify, Array.getElem?_setIfInBounds]
        simp [hlt, he]
      · rw [Array.getElem?_modify, Array.getElem?_setIfInBounds, if_neg hj, if_neg hj]
    have hstep : (store ⟨b, o + i, none⟩ v).run P w = .ok () (w.setCell ⟨b, o + i, none⟩ v) := by
      rw [run_store _ _ _ _ _ h1.1]
      simp [stored, hcell, frozen_of hb]
    have hb' : ({ w with heap := w.heap.setIfInBounds b (.cells (cs.set (o + i) v).toArray T (0, 0)) } : World).heap[b]? = some (.cells (cs.set (o + i) v).toArray T (0, 0)) := by
      show (w.heap.setIfInBounds b _)[b]? = _
      simp [hlt]
    have ih := run_storeCells_pt (P := P) vs (cs.set (o + i) v) { w with heap := w.heap.setIfInBounds b (.cells (cs.set (o + i) v).toArray T (0, 0)) } o (i + 1) hb' h1.2 (by simp; omega)
    simp only [storeCells, add_none, Sem.run_bind, hstep, Result.andThen_ok, hset]
    rw [show o + (i + 1) = o + i + 1 from by omega] at ih
    rw [ih]
    simp [over]
theorem run_store_pt {P : Program} {b T t : Nat} {cs vs : List Value} {w : World} {o : Nat} {v : Value} (hb : w.heap[b]? = some (.cells cs.toArray T (0, 0))) (hv : v.cells.toList = vs) (hsz : P.cellsOf t = vs.length) (hi : (P.info? t).isSome = true)
    (h1 : oneAll vs = true) (hl : o + vs.length ≤ cs.length) :
    (Instr.storeAt t (.pointer (some ⟨b, o, none⟩)) v).run P w = .ok () { w with heap := w.heap.setIfInBounds b (.cells (over cs o vs).toArray T (0, 0)) } := by
  obtain ⟨i, hi⟩ := Option.isSome_iff_exists.1 hi
  have hs : i.size = vs.length := by simpa [Program.cellsOf, hi] using hsz
  have hl2 : v.cells.size = vs.length := by rw [← hv, Array.length_toList]
  have h2 : (sizeOf t).run P w = .ok vs.length w := by simp [sizeOf, typeInfo, hi, hs]
  have := run_storeCells_pt (P := P) vs cs w o 0 hb h1 (by simpa using hl)
  simp only [Nat.add_zero] at this
  simp only [Instr.storeAt, Instr.sureAddr, storeVar, Sem.run_bind, Sem.run_pure, Result.andThen_ok, h2, hl2]
  simp [hv, this]

section
variable {n : Nat} {C : Ctx} {e : Env} {D : List Deferred} {L I : List Atom} {P : Program} {ro : Option Nat} {Q : Exit → Act → World → Prop} {K : Act → World → Prop}

/-- A load of one cell out of a block of the call's own. -/
theorem o_ld {dt : Tmp} {x : Operand} {t : TypeId} {ty : TypeId} {pos : String} {aft : Array Edge} {g : Option (Nat × Bool)} {b o T : Nat} {cs : List Value} {v : Value} {d : TypeDesc} (i : Nat)
    (hx : ev e x = some (.pointer (some ⟨b, o, none⟩))) (hi : L[i]? = some (pt b cs T)) (hv : cs[o]? = some v) (hu : P.underlying t = some d) (ha : aggD d = false) (hd : Nat.blt dt n = true)
    (h : Ent n C ((dt, v) :: e) D L I K) : Ent n C e D L I (ow ro P ⟨some dt, .load t x, ty, pos, aft, g⟩ Q K) :=
  ow_pure rfl hd (by simp) (fun a w k ho => by
    obtain ⟨h1, hl, hA⟩ := ho.atom i hi
    have hb : w.heap[b]? = some (.cells cs.toArray T (0, 0)) := hl _ _ hA
    have hc : w.cell? ⟨b, o, none⟩ = some v := by rw [cell_of hb]; simpa using hv
    have hr := run_load1 (P := P) hu ha hc
    simp only [execOp, k.eval hx, Sem.run_bind, hr, Result.andThen_ok, Sem.run_pure]) h
/-- A load of a struct or an array out of a block of the call's own. -/
theorem o_ldn {dt : Tmp} {x : Operand} {t : TypeId} {ty : TypeId} {pos : String} {aft : Array Edge} {g : Option (Nat × Bool)} {b o T : Nat} {cs : List Value} {d : TypeDesc} (i m : Nat)
    (hx : ev e x = some (.pointer (some ⟨b, o, none⟩))) (hi : L[i]? = some (pt b cs T)) {vs : List Value} (hv : (cs.drop o).take m = vs) (hm : Nat.beq vs.length m = true) (hu : P.underlying t = some d) (ha : aggD d = true) (hsz : P.cellsOf t = m) (hin : (P.info? t).isSome = true) (hd : Nat.blt dt n = true)
    (h : Ent n C ((dt, .agg vs.toArray) :: e) D L I K) : Ent n C e D L I (ow ro P ⟨some dt, .load t x, ty, pos, aft, g⟩ Q K) :=
  ow_pure rfl hd (by simp) (fun a w k ho => by
    obtain ⟨h1, hl, hA⟩ := ho.atom i hi
    have hb : w.heap[b]? = some (.cells cs.toArray T (0, 0)) := hl _ _ hA
    have hm' := Nat.eq_of_beq_eq_true hm
    have hr := run_loadn (P := P) hu ha (w := w) (p := ⟨b, o, none⟩) vs (by rw [hsz, hm']) hin (fun j v hj => by
      rw [add_none, cell_of hb]
      rw [← hv, List.getElem?_take] at hj
      split at hj
      · simpa using hj
      · cases hj)
    simp only [execOp, k.eval hx, Sem.run_bind, hr, Result.andThen_ok, Sem.run_pure]) h
/-- A store into a block of the call's own. -/
theorem o_st {x y : Operand} {t : TypeId} {ty : TypeId} {pos : String} {aft : Array Edge} {g : Option (Nat × Bool)} {b o T : Nat} {cs vs : List Value} {v : Value} (i : Nat)
    (hx : ev e x = some (.pointer (some ⟨b, o, none⟩))) (hy : ev e y = some v) (hi : L[i]? = some (pt b cs T)) (hv : v.cells.toList = vs) (h1 : oneAll vs = true) (hsz : P.cellsOf t = vs.length) (hin : (P.info? t).isSome = true) (hl : Nat.ble (o + vs.length) cs.length = true)
    (h : Ent n C e D (L.set i (pt b (over cs o vs) T)) I K) : Ent n C e D L I (ow ro P ⟨none, .store t x y, ty, pos, aft, g⟩ Q K) :=
  fun a w k s d ho => by
    obtain ⟨ho', hb⟩ := write_own (y := .cells (over cs o vs).toArray T (0, 0)) ho i hi
    have hr := run_store_pt (P := P) (t := t) hb hv hsz hin h1 (Nat.le_of_ble_eq_true hl)
    refine ow_skip (by simp) (w' := { w with heap := w.heap.setIfInBounds b (.cells (over cs o vs).toArray T (0, 0)) }) (by simp only [execOp, k.eval hx, k.eval hy, Sem.run_bind, hr, Result.andThen_ok, Sem.run_pure]) ?_
    exact h a _ k s d ho'
end
end Go.Sl
