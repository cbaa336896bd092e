/- Rules for strings.Builder: its pointer as an unsafe one and back, bytes of a text appended, its text. -/
import Derived.Test.YthoefkpbijcdeaaDoorSlY
import Derived.Lib.AppendStr
import Derived.Lib.UnsafeStr
import Derived.Lib.Builder
set_option linter.unusedVariables false
set_option linter.unusedSimpArgs false
namespace Go.Sl
open Go Go.RowKit
theorem run_appS {P : Program} (w : World) (t u ty el : TypeId) (i : TypeInfo) (ht : P.underlying t = some (.slice el)) (hu : P.underlying u = some .string) (hi : P.info? el = some i) (hz : i.zero = some (.int .u8 0)) (hsize : i.size = 1) (hby : i.bytes = 1)
    (A : Option Addr) (m c : Nat) (xs : List Value) (hown : w.ownsRow 0 el 1 (.slice A m c) m xs) (s : ByteArray) (h63 : m + s.size ≤ maxLen) (hbytes : m + s.size ≤ 140737488355328) (hA : A = none ∨ 0 < c) :
    ∃ v' w', (Builtin.append_ #[t, u] ty #[.slice A m c, .string s]).run P w = .ok v' w' ∧ w'.ownsRow 0 el 1 v' (m + s.size) (xs ++ Lib.strCells s) ∧ w.grownBy w' (Value.slice A m c).ownBlock ∧ (v'.ownBlock = (Value.slice A m c).ownBlock ∨ v'.ownBlock = some w.heap.size) ∧ (∃ A' c', v' = .slice A' (m + s.size) c' ∧ (A' = none ∨ 0 < c')) := by
  obtain ⟨v', w', hr, h2, h3, h4⟩ := Lib.run_append_own_string (P := P) w 0 t u ty el i ht hu hi hz hsize hby (.slice A m c) m xs hown s h63 hbytes (Nat.zero_le _)
  refine ⟨v', w', hr, h2, h3, ?_⟩
  have hxl : xs.length = m := by simpa using hown.1
  rcases hown.2 with ⟨e1, e2⟩ | ⟨g, cap, cur, e1, hbg, hg, hnc, hcm, hcs, htake⟩
  · simp only [Value.slice.injEq] at e1
    obtain ⟨rfl, rfl, rfl⟩ := e1
    by_cases hm : s.size = 0
    · have := h4.2 ⟨rfl, hm⟩
      exact ⟨.inl (by rw [this]), none, 0, by rw [this, hm], .inl rfl⟩
    · have hr2 := run_append_nil_string (P := P) w t u ty el i (.int .u8 0) ht hu hi hz s (by omega) (by simp only [maxLen] at h63; omega) (by rw [hby]; omega)
      rw [hr] at hr2
      simp only [Result.ok.injEq] at hr2
      have hge := grownCap_ge w (s.size) 0 el
      refine ⟨.inr (by rw [hr2.1]; rfl), _, _, by rw [hr2.1, Nat.zero_add], .inr (by omega)⟩
  · simp only [Value.slice.injEq] at e1
    obtain ⟨rfl, _, rfl⟩ := e1
    by_cases hroom : m + s.size ≤ c
    · have hcs' : cur.size = c := by simpa using hcs
      have hr2 := Lib.run_append_room_string (P := P) w t u ty el i ht hu hi hsize g m c cur hg s hroom (by omega)
      rw [hr] at hr2
      simp only [Result.ok.injEq] at hr2
      refine ⟨.inl (by rw [hr2.1]; rfl), _, _, hr2.1, .inr (hA.resolve_left (by simp))⟩
    · have holds : ∀ j u, xs[j]? = some u → w.cell? ((⟨g, 0, none⟩ : Addr).add j) = some u := hown.cells (g := g) rfl
      have hr2 := Lib.run_append_grow_string (P := P) w t u ty el i (.int .u8 0) ht hu hi hz ⟨g, 0, none⟩ m c xs (by rw [hsize]; simpa using hxl) holds s (by omega) (by simp only [maxLen] at h63; omega) (by rw [hby]; exact growslice_fits (by omega) (by omega))
      rw [hr] at hr2
      simp only [Result.ok.injEq] at hr2
      have hge := grownCap_ge w (m + s.size) c el
      refine ⟨.inr (by rw [hr2.1]; rfl), _, _, hr2.1, .inr (by omega)⟩
section
variable {n : Nat} {C : Ctx} {e : Env} {D : List Deferred} {L I : List Atom} {P : Program} {ro : Option Nat} {Q : Exit → Act → World → Prop} {K X : Act → World → Prop}
theorem strcells (s : ByteArray) : Lib.strCells s = u8Ty.cells s.data.toList := by
  rw [u8cells]; simp [Lib.strCells]
/-- append of a text's bytes to a list of the call's own. -/
theorem o_apps {s : ByteArray} {dt : Tmp} {x y : Operand} {t u el : TypeId} {ty : TypeId} {pos : String} {aft : Array Edge} {g : Option (Nat × Bool)} {A : Option Addr} {c m : Nat} {l : List UInt8} (i : Nat)
    (hx : ev e x = some (.slice A m c)) (hy : ev e y = some (.string s)) (hi : L[i]? = some (ars u8Ty el A c l)) (hm : m = l.length) (hA : A = none ∨ 0 < c) (ht : P.underlying t = some (.slice el)) (hu : P.underlying u = some .string) (hinf : (P.info? el).map (fun i => (i.zero, i.size, i.bytes)) = some (some (.int .u8 0), 1, 1)) (hb : l.length + s.size ≤ 140737488355328) (hd : Nat.blt dt n = true)
    (h : ∀ A1 c1, (A1 = none ∨ 0 < c1) → Ent n C ((dt, .slice A1 (l ++ s.data.toList).length c1) :: e) D (L.set i (ars u8Ty el A1 c1 (l ++ s.data.toList))) I K) : Ent n C e D L I (ow ro P ⟨some dt, .call ⟨.builtin .append, [x, y].toArray, [t, u].toArray⟩, ty, pos, aft, g⟩ Q K) :=
  ow_turn rfl hd (by simp) fun a w kn ho => by
    subst hm
    obtain ⟨h1, hl, hA'⟩ := ho.atom i hi
    obtain ⟨inf, hi', he⟩ := Option.map_eq_some_iff.1 hinf
    simp only [Prod.mk.injEq] at he
    obtain ⟨e1, e2, e3⟩ := he
    obtain ⟨v', w', r1, r2, r3, r4, A1, c1, r5, r6⟩ := run_appS (P := P) w t u ty el inf ht hu hi' e1 e2 e3 A l.length c _ (hA'.owns hl) s (by simp only [maxLen]; omega) hb hA
    have hsz : s.data.toList.length = s.size := Array.length_toList
    obtain ⟨A2, c2, hv, ho'⟩ := turn_own (l1 := l ++ s.data.toList) ho i hi r3 r2 r4 (by rw [u8Ty.cells_append, strcells]) (by rw [List.length_append, hsz])
    rw [hv] at r5
    simp only [Value.slice.injEq] at r5
    obtain ⟨rfl, _, rfl⟩ := r5
    refine ⟨_, w', _, I, ?_, ho', h A2 c2 r6⟩
    simp only [execOp, resolve, Sem.run_bind, Sem.run_pure, Result.andThen_ok, List.map_toArray, List.map_cons, List.map_nil, kn.eval hx, kn.eval hy, invoke, builtin, r1, hv]
/-- Some atoms ahead. -/
theorem e_perm {M Rr : List Atom} {X : Act → World → Prop} (ix : List Nat) (hp : pull L ix = some (M, Rr)) (h : Ent n C e D (M ++ Rr) I X) : Ent n C e D L I X := fun a w kn s dd ho => by
  obtain ⟨h0, hI, m⟩ := ho
  obtain ⟨k1, k2, d, l1, l2, s1, s2⟩ := Sep.pull hp m.sep
  exact h a w kn s dd ⟨h0, hI, (Sep.join d s1 s2).up (both_le l1 l2), m.facts, m.base, m.d1, m.d2, m.d3, m.l1, m.l2, m.l3, m.os, m.tape, m.output⟩
/-- A pointer against itself. -/
theorem y_ptrnn {d : Option Tmp} {x y : Operand} {t te t2 : TypeId} {a : Addr} {ty : TypeId} {pos : String} {aft : Array Edge} {g : Option (Nat × Bool)} (hx : ev e x = some (.pointer (some a))) (hy : ev e y = some (.pointer (some a))) (ht : P.underlying t = some (.pointer te)) (hj : (P.info? te).isSome = true) :
    Ys P e ⟨d, .binOp .neq t x y t2, ty, pos, aft, g⟩ (.bool false) := y_bin hx hy fun w => by
  obtain ⟨j, hj⟩ := Option.isSome_iff_exists.1 hj
  have := Lib.run_neq_ptr_same (P := P) w a ht hj
  simp [eqGuard, this]
theorem shape_of {w : World} {b T : Nat} {cs : List Value} {fr : Nat × Nat} (h : w.heap[b]? = some (.cells cs.toArray T fr)) : w.shape? b = some (T, cs.length) := by
  simp [World.shape?, h]
/-- A pointer as an unsafe one. -/
theorem o_tou {dt : Tmp} {x : Operand} {s d te T b o : Nat} {cs : List Value} {ty : TypeId} {pos : String} {aft : Array Edge} {g : Option (Nat × Bool)} (i : Nat) (hx : ev e x = some (.pointer (some ⟨b, o, none⟩))) (hi : L[i]? = some (pt b cs T)) (ho : Nat.blt o cs.length = true) (hs : P.underlying s = some (.pointer te)) (hd : P.underlying d = some .unsafePointer) (hj : (P.info? te).map (fun i => Nat.beq i.size 0) = some false) (hdt : Nat.blt dt n = true)
    (h : Ent n C ((dt, .pointer (some ⟨b, o, none⟩)) :: e) D L I K) : Ent n C e D L I (ow ro P ⟨some dt, .convert s d x, ty, pos, aft, g⟩ Q K) :=
  ow_pure rfl hdt (by simp) (fun a w k ho' => by
    obtain ⟨h1, hl, hA⟩ := ho'.atom i hi
    obtain ⟨j, hj1, hj2⟩ := Option.map_eq_some_iff.1 hj
    have hj3 : j.size ≠ 0 := fun e => by rw [e] at hj2; cases hj2
    have hr := Lib.run_to_unsafe (P := P) w ⟨b, o, none⟩ hs hd hj1 hj3 (shape_of (hl _ _ hA)) (by simpa using ho)
    simp only [execOp, k.eval hx, Sem.run_bind, hr, Result.andThen_ok, Sem.run_pure]) h
/-- .. and back. -/
theorem o_fromu {dt : Tmp} {x : Operand} {s d te T b o m : Nat} {cs : List Value} {ty : TypeId} {pos : String} {aft : Array Edge} {g : Option (Nat × Bool)} (i : Nat) (hx : ev e x = some (.pointer (some ⟨b, o, none⟩))) (hi : L[i]? = some (pt b cs T)) (hm : cs.length = m) (hs : P.underlying s = some .unsafePointer) (hd : P.underlying d = some (.pointer te)) (hj : (P.info? te).isSome = true) (hlies : liesAt P P.depth T (m / P.cellsOf T) o te 1 = true) (hdt : Nat.blt dt n = true)
    (h : Ent n C ((dt, .pointer (some ⟨b, o, none⟩)) :: e) D L I K) : Ent n C e D L I (ow ro P ⟨some dt, .convert s d x, ty, pos, aft, g⟩ Q K) :=
  ow_pure rfl hdt (by simp) (fun a w k ho' => by
    subst hm
    obtain ⟨h1, hl, hA⟩ := ho'.atom i hi
    obtain ⟨j, hj1⟩ := Option.isSome_iff_exists.1 hj
    have hr := Lib.run_from_unsafe (P := P) w ⟨b, o, none⟩ hs hd hj1 (shape_of (hl _ _ hA)) hlies
    simp only [execOp, k.eval hx, Sem.run_bind, hr, Result.andThen_ok, Sem.run_pure]) h
/-- The address of a list's first element. -/
theorem y_sdata {d : Option Tmp} {x : Operand} {A : Option Addr} {m c : Nat} {ats : Array TypeId} {ty : TypeId} {pos : String} {aft : Array Edge} {g : Option (Nat × Bool)} (hx : ev e x = some (.slice A m c)) (hA : A = none ∨ 0 < c) :
    Ys P e ⟨d, .call ⟨.builtin .unsafeSliceData, [x].toArray, ats⟩, ty, pos, aft, g⟩ (.pointer A) := fun a w kn => by
  have hr : (Builtin.unsafeSliceData_ ats ty #[.slice A m c]).run P w = .ok (.pointer A) w := by
    cases A with
    | none => exact Lib.run_unsafeSliceData_nil w ats ty m c
    | some b => exact Lib.run_unsafeSliceData_row w ats ty b m c (by rcases hA with q | q; · cases q
                                                                     · omega)
  simp only [execOp, resolve, Sem.run_bind, Sem.run_pure, Result.andThen_ok, List.map_toArray, List.map_cons, List.map_nil, kn.eval hx, invoke, builtin, hr]
theorem freeze_own {w : World} (o : Own C L I w) (i : Nat) {T : TypeId} {A : Option Addr} {c : Nat} {l : List UInt8} (hi : L[i]? = some (ars u8Ty T A c l)) {g k : Nat} (hA : A = some ⟨g, 0, none⟩) : Own C (L.eraseIdx i) I (w.freeze ⟨g, 0, none⟩ k) := by
  obtain ⟨h, hI, o⟩ := o
  obtain ⟨h1, h2, d, l1, l2, a, s⟩ := Sep.take i hi o.sep
  obtain ⟨z, hz⟩ : ∃ z, h1 g = some z := by
    rcases a with ⟨q, _⟩ | ⟨b, cur, q, hb, _⟩
    · rw [hA] at q; cases q
    · rw [hA] at q; simp only [Option.some.injEq, Addr.mk.injEq] at q; obtain ⟨rfl, _⟩ := q; exact ⟨_, hb⟩
  have hother : ∀ q : Hp, q g = none → le q (hpOf w) → le q (hpOf (w.freeze ⟨g, 0, none⟩ k)) := fun q hq hk j y hy => by
    have hj : g ≠ j := fun e => by rw [← e, hq] at hy; cases hy
    show (w.freeze ⟨g, 0, none⟩ k).heap[j]? = some y
    unfold World.freeze
    split
    · exact hk j y hy
    · show (w.heap.modify g _)[j]? = some y
      rw [Array.getElem?_modify, if_neg hj]
      exact hk j y hy
  have nn : ∀ q : Hp, apart h1 q → q g = none := fun q hq => by
    rcases hq g with e | e
    · rw [hz] at e; cases e
    · exact e
  have hf : (w.freeze ⟨g, 0, none⟩ k).os = w.os ∧ (w.freeze ⟨g, 0, none⟩ k).tape = w.tape ∧ (w.freeze ⟨g, 0, none⟩ k).output = w.output := by unfold World.freeze; split <;> exact ⟨rfl, rfl, rfl⟩
  exact ⟨h2, hI, s, o.facts, o.base, o.d1.mono_left l2, o.d2.mono_left l2, o.d3, hother _ (nn _ d) (l2.trans o.l1), hother _ (nn _ (o.d1.mono_left l1)) o.l2, hother _ (nn _ (o.d2.mono_left l1)) o.l3, hf.1.trans o.os, hf.2.1.trans o.tape, hf.2.2.trans o.output⟩
/-- The text of the call's own bytes: they are written no more. -/
theorem o_ustr {dt : Tmp} {x y : Operand} {q iq el : TypeId} {ty : TypeId} {pos : String} {aft : Array Edge} {g : Option (Nat × Bool)} {A : Option Addr} {c : Nat} {z : Int} {l : List UInt8} (i : Nat)
    (hx : ev e x = some (.pointer A)) (hy : ev e y = some (.int .i64 z)) (hz : z = (l.length : Int)) (hi : L[i]? = some (ars u8Ty el A c l)) (hq : P.underlying q = some (.pointer el)) (hc : P.cellsOf el = 1) (hd : Nat.blt dt n = true)
    (h : Ent n C ((dt, .string ⟨l.toArray⟩) :: e) D (L.eraseIdx i) I K) : Ent n C e D L I (ow ro P ⟨some dt, .call ⟨.builtin .unsafeString, [x, y].toArray, [q, iq].toArray⟩, ty, pos, aft, g⟩ Q K) :=
  ow_turn rfl hd (by simp) fun a w kn ho => by
    subst hz
    obtain ⟨h1, hl, hA⟩ := ho.atom i hi
    have hdrop : ∀ w : World, Own C L I w → Own C (L.eraseIdx i) I w := fun w ho => by
      obtain ⟨h0, hI, m⟩ := ho
      exact ⟨h0, hI, m.sep.drop i, m.facts, m.base, m.d1, m.d2, m.d3, m.l1, m.l2, m.l3, m.os, m.tape, m.output⟩
    have fin : ∀ w', (Builtin.unsafeString_ #[q, iq] ty #[.pointer A, .int .i64 (l.length : Int)]).run P w = .ok (.string ⟨l.toArray⟩) w' → (execOp a.eval ⟨some dt, .call ⟨.builtin .unsafeString, [x, y].toArray, [q, iq].toArray⟩, ty, pos, aft, g⟩).run P w = .ok (.value (.string ⟨l.toArray⟩)) w' := fun w' hr => by
      simp only [execOp, resolve, Sem.run_bind, Sem.run_pure, Result.andThen_ok, List.map_toArray, List.map_cons, List.map_nil, kn.eval hx, kn.eval hy, invoke, builtin, hr]
    by_cases h0 : l = []
    · subst h0
      exact ⟨_, w, _, I, fin w (Lib.run_unsafeString_none w q iq ty A), hdrop w ho, h⟩
    · rcases hA with ⟨_, _, hn⟩ | ⟨b, cur, hA, hb, hlc, hcm, hcs, htk⟩
      · exact absurd hn h0
      · subst hA
        have hg := hl _ _ hb
        have hcs' : cur.size = c := by have : u8Ty.sz = 1 := rfl; rw [hcs, this, Nat.mul_one]
        have hr := Lib.run_unsafeString_row (P := P) w q iq ty el hq hc b cur.size (by simp [World.shape?, show w.heap[b]? = some (Obj.cells cur el (0, 0)) from hg]) l h0 (by omega) (by simp only [maxLen] at hcm; omega) (fun j x hj => by
          rw [add_none, Nat.zero_add, cell_of hg]
          have h1 : (u8Ty.cells l)[j]? = some (.int .u8 (x.toNat : Int)) := by rw [u8cells]; simp [hj]
          rw [← htk, List.getElem?_take] at h1
          split at h1
          · simpa using h1
          · cases h1)
        exact ⟨_, _, _, I, fin _ hr, freeze_own ho i hi rfl, h⟩
end
end Go.Sl
