/- Copies of texts; slices of slices of bytes; differences that may wrap. -/
import Derived.Test.YthoefkpbijcdeaaDoorSlP
import Derived.Lib.BufferWrite
set_option linter.unusedVariables false
set_option linter.unusedSimpArgs false
namespace Go.Sl
open Go Go.RowKit Go.Lib
/-- A slice of bytes as an element: its head and what it holds. -/
structure Part where
  A : Option Addr
  c : Nat
  l : List UInt8
def partTy : Ty Part := ⟨1, fun p => [.slice p.A p.l.length p.c], fun _ => rfl, fun _ => rfl⟩
/-- What some hold, to be read. -/
def rds (ps : List Part) : Atom := fun h => ∀ p ∈ ps, rd u8Ty p.A p.c p.l h
section
variable {n : Nat} {C : Ctx} {e : Env} {D : List Deferred} {L I : List Atom} {P : Program} {ro : Option Nat} {Q : Exit → Act → World → Prop} {K X : Act → World → Prop}
theorem e_rds {ps : List Part} {x : Part} (i : Nat) (hi : I[i]? = some (rds ps)) (hx : x ∈ ps) (h : Ent n C e D L (rd u8Ty x.A x.c x.l :: I) X) : Ent n C e D L I X :=
  e_fact (fun _ hI hf k hk => hf _ (List.mem_of_getElem? hi) k hk x hx) h
theorem e_mk0 (h : Ent n C e D L (rds [] :: I) X) : Ent n C e D L I X := e_fact (fun _ hI hf k hk => fun p hp => by cases hp) h
theorem e_mk1 {ps : List Part} {A : Option Addr} {c : Nat} {l : List UInt8} (i j : Nat) (hi : I[i]? = some (rd u8Ty A c l)) (hj : I[j]? = some (rds ps)) (h : Ent n C e D L (rds (⟨A, c, l⟩ :: ps) :: I) X) : Ent n C e D L I X :=
  e_fact (fun _ hI hf k hk => fun p hp => by
    rcases List.mem_cons.1 hp with rfl | hp
    · exact hf _ (List.mem_of_getElem? hi) k hk
    · exact hf _ (List.mem_of_getElem? hj) k hk p hp) h
theorem y_subw {d : Option Tmp} {x y : Operand} {p q : Int} {t t2 : TypeId} {ty : TypeId} {pos : String} {aft : Array Edge} {g : Option (Nat × Bool)} (hx : ev e x = some (.int .i64 p)) (hy : ev e y = some (.int .i64 q)) :
    Ys P e ⟨d, .binOp .sub t x y t2, ty, pos, aft, g⟩ (.int .i64 (IntKind.i64.wrap (p - q))) :=
  y_bin hx hy fun w => by simp [eqGuard, binOp, Op.intArith]
theorem y_addw {d : Option Tmp} {x y : Operand} {p q : Int} {t t2 : TypeId} {ty : TypeId} {pos : String} {aft : Array Edge} {g : Option (Nat × Bool)} (hx : ev e x = some (.int .i64 p)) (hy : ev e y = some (.int .i64 q)) :
    Ys P e ⟨d, .binOp .add t x y t2, ty, pos, aft, g⟩ (.int .i64 (IntKind.i64.wrap (p + q))) :=
  y_bin hx hy fun w => by simp [eqGuard, binOp, Op.intArith]
/-- copy of a text over the whole of a list of the call's own. -/
theorem o_copys {x y : Operand} {t t2 el : TypeId} {ty : TypeId} {pos : String} {aft : Array Edge} {g : Option (Nat × Bool)} {A : Option Addr} {c m : Nat} {l : List UInt8} {s : ByteArray} (i : Nat) {od : Option Tmp} (hod : ∀ dt, od = some dt → Nat.blt dt n = true)
    (hx : ev e x = some (.slice A m c)) (hy : ev e y = some (.string s)) (hi : L[i]? = some (ars u8Ty el A c l)) (hm : m = l.length) (hlen : s.size = l.length) (ht : P.underlying t = some (.slice el)) (hinf : (P.info? el).map (·.size) = some 1)
    (h : Ent n C (pute od (.int .i64 (s.size : Int)) e) D (L.set i (ars u8Ty el A c s.data.toList)) I K) : Ent n C e D L I (ow ro P ⟨od, .call ⟨.builtin .copy, [x, y].toArray, [t, t2].toArray⟩, ty, pos, aft, g⟩ Q K) := fun a w kn ss dd ho => by
  subst hm
  have hsz : s.data.toList.length = s.size := Array.length_toList
  have hcl : ∀ q : List UInt8, u8Ty.cells q = byteCells q := fun q => by rw [u8cells]; simp [byteCells]
  obtain ⟨h1, hl, hA⟩ := ho.atom i hi
  have fin : ∀ w' : World, Own C (L.set i (ars u8Ty el A c s.data.toList)) I w' → K (a.put od (.int .i64 (s.size : Int))) w' := fun w' ho' => by
    cases od with
    | none => exact h a w' kn ss dd ho'
    | some dt =>
      have hlt : dt < a.tmps.size := by rw [ss]; simpa using hod dt rfl
      exact h _ w' (kn.put hlt) (by simp [Act.put, ss]) (by simpa [Act.put] using dd) ho'
  have hexec : ∀ r w', (Builtin.copy_ #[t, t2] ty #[.slice A l.length c, .string s]).run P w = .ok r w' → (execOp a.eval ⟨od, .call ⟨.builtin .copy, [x, y].toArray, [t, t2].toArray⟩, ty, pos, aft, g⟩).run P w = .ok (.value r) w' := fun r w' hr => by
    simp only [execOp, resolve, Sem.run_bind, Sem.run_pure, Result.andThen_ok, List.map_toArray, List.map_cons, List.map_nil, kn.eval hx, kn.eval hy, invoke, builtin, hr]
  rcases hA with ⟨rfl, rfl, rfl⟩ | ⟨b, cur, rfl, hb, hlc, hcm, hcs, htk⟩
  · have h0 : s.size = 0 := by simpa using hlen
    have hr := run_copy_empty_string (P := P) w t t2 ty el none 0 0 s ht (by cases hq : P.info? el <;> simp_all) h0
    refine ow_value (by simp) (hexec _ _ hr) ?_
    have hs0 : s.data.toList = [] := List.eq_nil_of_length_eq_zero (by omega)
    have hset : L.set i (ars u8Ty el none 0 s.data.toList) = L := by
      obtain ⟨hlt, he⟩ := List.getElem?_eq_some_iff.1 hi
      rw [hs0, ← he]; exact List.set_getElem_self hlt
    have := fin w (by rw [hset]; exact ho)
    rw [h0] at this
    exact this
  · have hg := hl _ _ hb
    have h1s : u8Ty.sz = 1 := rfl
    have hr := run_copy_row_string (P := P) w t t2 ty el b 0 l.length c s cur el ht hinf hg (by omega) (by rw [hcs, h1s]; omega)
    have hown : (w.setRow b (cur.toList.take 0 ++ byteCells s.data.toList ++ cur.toList.drop (0 + s.size)).toArray).ownsRow 0 el u8Ty.sz (.slice (some ⟨b, 0, none⟩) s.data.toList.length c) s.data.toList.length (u8Ty.cells s.data.toList) := by
      have hbl : (byteCells s.data.toList).length = s.size := by simp [byteCells, hsz]
      refine ⟨u8Ty.cells_length _, .inr ⟨b, c, _, rfl, Nat.zero_le _, setRow_heap w b _ _ el _ hg, by omega, hcm, ?_, ?_⟩⟩
      · simp [hbl, h1s]; have : cur.toList.length = cur.size := Array.length_toList; rw [h1s] at hcs; omega
      · rw [hcl]; simp only [List.take_zero, List.nil_append, h1s, Nat.mul_one]
        rw [show s.data.toList.length = (byteCells s.data.toList).length by rw [hbl, hsz]]
        simp
    have hgr : w.grownBy (w.setRow b (cur.toList.take 0 ++ byteCells s.data.toList ++ cur.toList.drop (0 + s.size)).toArray) (Value.slice (some ⟨b, 0, none⟩) l.length c).ownBlock := by
      refine ⟨rfl, rfl, rfl, by simp [World.setRow], fun k hk hne => ?_⟩
      have : b ≠ k := fun q => hne (by rw [← q]; rfl)
      simp only [World.setRow]
      rw [Array.getElem?_modify, if_neg this]
    obtain ⟨A1, c1, hv, ho'⟩ := turn_own (l1 := s.data.toList) ho i hi hgr hown (.inl (by rw [hsz, hlen])) rfl rfl
    simp only [Value.slice.injEq] at hv
    obtain ⟨rfl, _, rfl⟩ := hv
    exact ow_value (by simp) (hexec _ _ hr) (fin _ ho')
end
end Go.Sl
