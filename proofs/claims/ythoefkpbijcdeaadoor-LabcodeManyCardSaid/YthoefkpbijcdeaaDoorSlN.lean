/- Bytes and texts: conversions, concatenation, copies; truths as elements; sums that may wrap. -/
import Derived.Test.YthoefkpbijcdeaaDoorSlM
import Derived.Laws.BytesString
set_option linter.unusedVariables false
set_option linter.unusedSimpArgs false
namespace Go.Sl
open Go Go.RowKit

def boolTy : Ty Bool := ⟨1, fun b => [.bool b], fun _ => rfl, fun _ => rfl⟩
/-- A slice's head, as an element of another list. -/
structure Hd where
  A : Option Addr
  n : Nat
  c : Nat
def hdTy : Ty Hd := ⟨1, fun h => [.slice h.A h.n h.c], fun _ => rfl, fun _ => rfl⟩
theorem u8cells (l : List UInt8) : u8Ty.cells l = (l.map fun b => (b.toNat : Int)).map (Value.int .u8) := by
  induction l with
  | nil => rfl
  | cons b r ih => unfold Ty.cells at *; rw [List.flatMap_cons, ih]; rfl
theorem foldl_push : ∀ (l : List UInt8) (s : ByteArray), (l.map fun b => (b.toNat : Int)).foldl (fun r n => r.push (UInt8.ofNat n.toNat)) s = ⟨s.data ++ l.toArray⟩
  | [], s => by simp
  | b :: r, s => by
    simp only [List.map_cons, List.foldl_cons]
    rw [foldl_push r]
    have : UInt8.ofNat ((b.toNat : Int).toNat) = b := by simp
    rw [this]
    apply ByteArray.ext
    simp [ByteArray.push]
section
variable {n : Nat} {C : Ctx} {e : Env} {D : List Deferred} {L I : List Atom} {P : Program} {ro : Option Nat} {Q : Exit → Act → World → Prop} {K X : Act → World → Prop}
/-- A text of bytes that are read. -/
theorem o_b2s {A : Option Addr} {c m : Nat} {l : List UInt8} {dt : Tmp} {x : Operand} {t t2 el : TypeId} {ty : TypeId} {pos : String} {aft : Array Edge} {g : Option (Nat × Bool)} (hx : ev e x = some (.slice A m c)) (hm : m = l.length) (hs : srcOf C L I A m (u8Ty.cells l)) (ht : P.underlying t = some (.slice el)) (h2 : P.underlying t2 = some .string) (hel : P.underlying el = some (.int .u8)) (hd : Nat.blt dt n = true)
    (h : Ent n C ((dt, .string ⟨l.toArray⟩) :: e) D L I K) : Ent n C e D L I (ow ro P ⟨some dt, .convert t t2 x, ty, pos, aft, g⟩ Q K) :=
  ow_pure rfl hd (by simp) (fun a w kn ho => by
    subst hm
    have key : (Conv.bytesToString (.slice A l.length c)).run P w = .ok (.string ⟨l.toArray⟩) w := by
      rcases A with _ | b
      · have hl : l = [] := by
          rcases hs w ho with h | ⟨ad, h, _⟩
          · exact List.eq_nil_of_length_eq_zero h
          · cases h
        subst hl
        simp [Conv.bytesToString, Sem.run_pure]
        rfl
      · have hc : ∀ j u, (u8Ty.cells l)[j]? = some u → w.cell? (b.add j) = some u := by
          rcases hs w ho with h | ⟨ad, h, hc⟩
          · have : l = [] := List.eq_nil_of_length_eq_zero h
            subst this
            intro j u hu; simp [Ty.cells] at hu
          · cases h; exact hc
        have hr := run_loadCells_list (P := P) w b (u8Ty.cells l) hc
        have hlen : (u8Ty.cells l).length = l.length := by rw [u8cells]; simp
        rw [hlen, u8cells] at hr
        rw [run_bytesToString w b l.length c (l.map fun b => (b.toNat : Int)) hr, foldl_push]
        show Result.ok (Value.string ⟨#[] ++ l.toArray⟩) w = _
        rw [Array.empty_append]
    simp only [execOp, kn.eval hx, convert, Sem.run_bind, run_underlying ht, run_underlying h2, run_underlying hel, Result.andThen_ok, key, Sem.run_pure]) h

end
def bytesRow (s : ByteArray) (cap : Nat) : Array Value := s.data.map (fun b => Value.int .u8 (b.toNat : Int)) ++ Array.replicate (cap - s.size) (Value.int .u8 0)
theorem run_s2b {P : Program} (w : World) (el : TypeId) (s : ByteArray) : (Conv.stringToBytes el s).run P w = .ok (.slice (some ⟨w.heap.size, 0, none⟩) s.size (grownCap w s.size 0 el)) { w with drawn := w.drawn + 1, heap := w.heap.push (.cells (bytesRow s (grownCap w s.size 0 el)) el ((bytesRow s (grownCap w s.size 0 el)).size, (bytesRow s (grownCap w s.size 0 el)).size + 1)) } := by
  have hc : (Question.appendCap s.size 0 el).cut (w.tape w.drawn (.appendCap s.size 0 el)) = grownCap w s.size 0 el := rfl
  simp only [Conv.stringToBytes, Sem.run_bind, run_choose_drew, Question.forced, Bool.false_eq_true, if_false, Result.andThen_ok, hc, newRow, markStringish, Sem.run_pure]
  show _ = _
  generalize hcs : bytesRow s (grownCap w s.size 0 el) = cs
  have hcs' : s.data.map (fun b => Value.int .u8 (b.toNat : Int)) ++ Array.replicate (grownCap w s.size 0 el - s.size) (Value.int .u8 0) = cs := hcs
  rw [hcs']
  have e1 : w.drew.heap = w.heap := rfl
  have e2 : w.drew.os = w.os := rfl
  have e3 : w.drew.tape = w.tape := rfl
  have e4 : w.drew.output = w.output := rfl
  simp [e1, e2, e4, shape, freeze, newObj, World.freeze, World.shape?, Sem.run]
  apply Array.ext_getElem?
  intro i
  rw [Array.getElem?_modify, Array.getElem?_push, Array.getElem?_push]
  by_cases hi : i = w.heap.size
  · simp [hi]
  · simp [hi, Ne.symm hi]
section
variable {n : Nat} {C : Ctx} {e : Env} {D : List Deferred} {L I : List Atom} {P : Program} {ro : Option Nat} {Q : Exit → Act → World → Prop} {K X : Act → World → Prop}
/-- A new block that is read alone. -/
theorem alloc_fact {w : World} (o : Own C L I w) (x : Obj) {φ : Atom} (hφ : ∀ k, k w.heap.size = some x → φ k) : Own C L (φ :: I) { w with heap := w.heap.push x } := by
  obtain ⟨h, hI, m⟩ := alloc_own o x
  obtain ⟨h1, h2, d, l1, l2, a, s⟩ := m.sep
  refine ⟨h2, both hI h1, s, Facts.cons (fun k hk => hφ k (hk _ _ ?_)) (m.facts.up (le_both_left _ _)), m.base.trans (le_both_left _ _), apart_both' (m.d1.mono_left l2) d.symm, m.d2.mono_left l2, apart_both m.d3 (m.d2.mono_left l1), l2.trans m.l1, both_le m.l2 (l1.trans m.l1), m.l3, m.os, m.tape, m.output⟩
  exact le_both_right (m.d1.mono_left l1).symm _ _ a
/-- The bytes of a text, new, to be read. -/
theorem o_s2b {s : ByteArray} {dt : Tmp} {x : Operand} {t t2 el : TypeId} {ty : TypeId} {pos : String} {aft : Array Edge} {g : Option (Nat × Bool)} (hx : ev e x = some (.string s)) (ht : P.underlying t = some .string) (h2 : P.underlying t2 = some (.slice el)) (hel : P.underlying el = some (.int .u8)) (hd : Nat.blt dt n = true) (hm : s.data.toList.length ≤ 9223372036854775807)
    (h : ∀ A c, Ent n C ((dt, .slice A s.data.toList.length c) :: e) D L (rd u8Ty A c s.data.toList :: I) K) : Ent n C e D L I (ow ro P ⟨some dt, .convert t t2 x, ty, pos, aft, g⟩ Q K) :=
  ow_turn rfl hd (by simp) fun a w kn ho => by
    have hr := run_s2b (P := P) w el s
    have hsz : s.data.toList.length = s.size := Array.length_toList
    refine ⟨.slice (some ⟨w.heap.size, 0, none⟩) s.data.toList.length (grownCap w s.size 0 el), _, L, _, ?_, (alloc_fact (w := w) ho (.cells (bytesRow s (grownCap w s.size 0 el)) el ((bytesRow s (grownCap w s.size 0 el)).size, (bytesRow s (grownCap w s.size 0 el)).size + 1)) (φ := rd u8Ty (some ⟨w.heap.size, 0, none⟩) (grownCap w s.size 0 el) s.data.toList) fun k hk => ?_).draw (w.drawn + 1), h _ _⟩
    · simp only [execOp, kn.eval hx, convert, Sem.run_bind, run_underlying ht, run_underlying h2, run_underlying hel, Result.andThen_ok, hr, Sem.run_pure, hsz]
    · refine ⟨by rw [hsz]; exact grownCap_ge _ _ _ _, hm, fun _ => ⟨_, 0, rfl, _, _, _, hk, fun j v hj => ?_⟩⟩
      have hlt : j < s.size := by
        have := (List.getElem?_eq_some_iff.1 hj).1
        rw [u8cells] at this
        simp only [List.length_map, Array.length_toList] at this
        exact this
      rw [u8cells] at hj
      simp only [Nat.zero_add, bytesRow]
      rw [Array.getElem?_append_left (by rw [Array.size_map]; exact hlt)]
      simpa using hj
end
section
variable {n : Nat} {C : Ctx} {e : Env} {D : List Deferred} {L I : List Atom} {P : Program} {ro : Option Nat} {Q : Exit → Act → World → Prop} {K X : Act → World → Prop}
theorem y_cat {d : Option Tmp} {x y : Operand} {s u : ByteArray} {t t2 : TypeId} {ty : TypeId} {pos : String} {aft : Array Edge} {g : Option (Nat × Bool)} (hx : ev e x = some (.string s)) (hy : ev e y = some (.string u)) (hb : s.size + u.size ≤ 9223372036854775807) :
    Ys P e ⟨d, .binOp .add t x y t2, ty, pos, aft, g⟩ (.string (s ++ u)) := y_bin hx hy fun w => by
  have h1 : ¬ (((s.size + u.size : Nat) : Int) > IntKind.i64.max) := by
    have : IntKind.i64.max = 9223372036854775807 := rfl
    omega
  simp only [eqGuard, binOp, Op.stringOp, h1, if_false]
  simp
theorem y_sidx {d : Option Tmp} {x i : Operand} {s : ByteArray} {z : Int} {ik : IntKind} {t : TypeId} {ty : TypeId} {pos : String} {aft : Array Edge} {g : Option (Nat × Bool)} (k : Nat) (b : UInt8) (hx : ev e x = some (.string s)) (hi : ev e i = some (.int ik z)) (hz : z = (k : Int)) (hb : s[k]? = some b) (ht : P.underlying t = some .string) :
    Ys P e ⟨d, .index t x i, ty, pos, aft, g⟩ (.int .u8 (b.toNat : Int)) := fun a w kn => by
  subst hz
  have h0 : (0 : Int) ≤ (k : Int) := by omega
  simp [execOp, kn.eval hx, kn.eval hi, Instr.index, asIntOf, run_underlying ht, h0, hb]
end
end Go.Sl
