/- Appends, makes, copies; cuts of lists and strings. -/
import Derived.Test.YthoefkpbijcdeaaDoorSlR
set_option linter.unusedVariables false
set_option linter.unusedSimpArgs false
namespace Go.Sl
open Go Go.RowKit

/-- A source of cells: what 'append' and 'copy' read. -/
def Src (w : World) (A : Option Addr) (m : Nat) (news : List Value) : Prop := m = 0 ∨ ∃ ad, A = some ad ∧ ∀ j u, news[j]? = some u → w.cell? (ad.add j) = some u
theorem run_app {P : Program} (w : World) (t ty el : TypeId) (i : TypeInfo) (z : Value) (sz bytes : Nat) (ht : P.underlying t = some (.slice el)) (hi : P.info? el = some i) (hz : i.zero = some z)
    (hsize : i.size = sz) (hby : i.bytes = bytes) (hzs : z.cells.size = sz) (hsz : 0 < sz) (v : Value) (n : Nat) (xs : List Value) (hown : w.ownsRow 0 el sz v n xs)
    (A : Option Addr) (m c : Nat) (news : List Value) (hl : news.length = m * sz) (hs : Src w A m news) (h1 : ∀ u ∈ news, u.oneCell' = true) (hbytes : (n + m) * bytes ≤ 140737488355328) (h63 : n + m ≤ maxLen) :
    ∃ v' w', (Builtin.append_ #[t, t] ty #[v, .slice A m c]).run P w = .ok v' w' ∧ w'.ownsRow 0 el sz v' (n + m) (xs ++ news) ∧ w.grownBy w' v.ownBlock ∧ (v'.ownBlock = v.ownBlock ∨ v'.ownBlock = some w.heap.size) := by
  rcases A with _ | ad
  · have hm : m = 0 := by
      rcases hs with h | ⟨ad, h, _⟩
      · exact h
      · cases h
    subst hm
    obtain rfl : news = [] := List.eq_nil_of_length_eq_zero (by simpa using hl)
    refine ⟨v, w, ?_, by simpa using hown, World.grownBy.refl w _, .inl rfl⟩
    rcases hown.2 with ⟨rfl, hn⟩ | ⟨g, cap, cur, rfl, _, _, hnc, _⟩
    · simp [Builtin.append_, run_underlying ht, sizeOf, typeInfo, hi, Builtin.lenOf, Builtin.firstCells]
    · simp [Builtin.append_, run_underlying ht, sizeOf, typeInfo, hi, Builtin.lenOf, Builtin.firstCells, hnc, storeCells]
  · have hnews : ∀ j u, news[j]? = some u → w.cell? (ad.add j) = some u := by
      rcases hs with h | ⟨ad', h, hc⟩
      · subst h
        obtain rfl : news = [] := List.eq_nil_of_length_eq_zero (by simpa using hl)
        intro j u hu; simp at hu
      · cases h; exact hc
    obtain ⟨v', w', h1, h2, h3, _, h5⟩ := run_append_own_at (P := P) w 0 t ty el i z sz bytes ht hi hz hsize hby hzs hsz v n xs hown ad m c news hl hnews h1 h63 hbytes (Nat.zero_le _)
    exact ⟨v', w', h1, h2, h3, h5⟩

/-- An element's type: its zero, its cells, its bytes. -/
structure Elem (P : Program) (el : TypeId) (sz bytes : Nat) : Prop where
  ex : ∃ i z, P.info? el = some i ∧ i.zero = some z ∧ i.size = sz ∧ i.bytes = bytes ∧ z.cells.size = sz
theorem elem_of {P : Program} {el : TypeId} {z : Value} {sz bytes : Nat} (h : (P.info? el).map (fun i => (i.zero, i.size, i.bytes)) = some (some z, sz, bytes)) (hz : z.cells.size = sz) : Elem P el sz bytes := by
  obtain ⟨i, hi, he⟩ := Option.map_eq_some_iff.1 h
  simp only [Prod.mk.injEq] at he
  exact ⟨i, z, hi, he.1, he.2.1, he.2.2, hz⟩

section
variable {n : Nat} {C : Ctx} {e : Env} {D : List Deferred} {L I : List Atom} {P : Program} {ro : Option Nat} {Q : Exit → Act → World → Prop} {K X : Act → World → Prop}

def srcOf (C : Ctx) (L I : List Atom) (A : Option Addr) (m : Nat) (news : List Value) : Prop := ∀ w, Own C L I w → Src w A m news
theorem src_pt {b T m : Nat} {cs : List Value} (i : Nat) (hi : L[i]? = some (pt b cs T)) : srcOf C L I (some ⟨b, 0, none⟩) m cs := fun w ho => by
  obtain ⟨h1, hl, hA⟩ := ho.atom i hi
  refine .inr ⟨_, rfl, fun j u hu => ?_⟩
  rw [add_none, cell_of (hl _ _ hA)]
  simpa using hu
theorem src_rd {α : Type} {d : Ty α} {A : Option Addr} {c : Nat} {l : List α} (i : Nat) (hi : I[i]? = some (rd d A c l)) : srcOf C L I A l.length (d.cells l) := fun w ho => by
  obtain ⟨h1, hl, hA⟩ := ho.fact (List.mem_of_getElem? hi)
  obtain ⟨_, _, h3⟩ := hA h1 (le.refl _)
  rcases Nat.eq_zero_or_pos l.length with h | h
  · exact .inl h
  · obtain ⟨b, o, rfl, hc⟩ := h3 h
    refine .inr ⟨_, rfl, fun j u hu => ?_⟩
    rw [add_none]
    exact hc.cell hl hu
theorem src_ars {α : Type} {d : Ty α} {T : TypeId} {A : Option Addr} {c : Nat} {l : List α} (i : Nat) (hi : L[i]? = some (ars d T A c l)) : srcOf C L I A l.length (d.cells l) := fun w ho => by
  obtain ⟨h1, hl, hA⟩ := ho.atom i hi
  obtain ⟨_, _, h3⟩ := hA.reads
  rcases Nat.eq_zero_or_pos l.length with h | h
  · exact .inl h
  · obtain ⟨b, o, rfl, hc⟩ := h3 h
    refine .inr ⟨_, rfl, fun j u hu => ?_⟩
    rw [add_none]
    exact hc.cell hl hu

/-- append to a list of the call's own. -/
theorem o_app {α : Type} {d : Ty α} {dt : Tmp} {x y : Operand} {t el : TypeId} {ty : TypeId} {pos : String} {aft : Array Edge} {g : Option (Nat × Bool)} {A Ay : Option Addr} {c m my cy bytes : Nat} {l us : List α} (i : Nat)
    (hx : ev e x = some (.slice A m c)) (hy : ev e y = some (.slice Ay my cy)) (hi : L[i]? = some (ars d el A c l)) (hm : m = l.length) (hmy : my = us.length) (hs : srcOf C L I Ay my (d.cells us)) (ht : P.underlying t = some (.slice el)) (hel : Elem P el d.sz bytes) (hsz : Nat.blt 0 d.sz = true) (hb : (l.length + us.length) * bytes ≤ 140737488355328) (hb0 : Nat.blt 0 bytes = true) (hd : Nat.blt dt n = true)
    (h : ∀ A1 c1, Ent n C ((dt, .slice A1 (l ++ us).length c1) :: e) D (L.set i (ars d el A1 c1 (l ++ us))) I K) : Ent n C e D L I (ow ro P ⟨some dt, .call ⟨.builtin .append, [x, y].toArray, [t, t].toArray⟩, ty, pos, aft, g⟩ Q K) :=
  ow_turn rfl hd (by simp) fun a w kn ho => by
    subst hm; subst hmy
    obtain ⟨h1, hl, hA⟩ := ho.atom i hi
    obtain ⟨inf, z, q1, q2, q3, q4, q5⟩ := hel.ex
    have hb0' : 0 < bytes := by simpa using hb0
    have hmax : l.length + us.length ≤ maxLen := by
      have := Nat.le_mul_of_pos_right (l.length + us.length) hb0'
      simp only [maxLen]; omega
    obtain ⟨v', w', r1, r2, r3, r4⟩ := run_app (P := P) w t ty el inf z d.sz bytes ht q1 q2 q3 q4 q5 (by simpa using hsz) _ _ _ (hA.owns hl) Ay us.length cy (d.cells us) (d.cells_length us) (hs w ho) (d.cells_one us) hb hmax
    obtain ⟨A1, c1, rfl, ho'⟩ := turn_own (l1 := l ++ us) ho i hi r3 r2 r4 (by rw [d.cells_append]) (by simp)
    refine ⟨_, w', _, I, ?_, ho', h A1 c1⟩
    simp only [execOp, resolve, Sem.run_bind, Sem.run_pure, Result.andThen_ok, List.map_toArray, List.map_cons, List.map_nil, kn.eval hx, kn.eval hy, invoke, builtin, r1]
/-- append to a full list: always a new one. -/
theorem o_appfull {α : Type} {d : Ty α} {dt : Tmp} {x y : Operand} {t el : TypeId} {ty : TypeId} {pos : String} {aft : Array Edge} {g : Option (Nat × Bool)} {A Ay : Option Addr} {m mc my cy bytes : Nat} {l us : List α}
    (hx : ev e x = some (.slice A m mc)) (hy : ev e y = some (.slice Ay my cy)) (hm : m = l.length) (hmc : mc = l.length) (hmy : my = us.length) (hs0 : srcOf C L I A m (d.cells l)) (hs : srcOf C L I Ay my (d.cells us)) (hpos : 0 < us.length) (ht : P.underlying t = some (.slice el)) (hel : Elem P el d.sz bytes) (hb : (l.length + us.length) * bytes ≤ 140737488355328) (hb0 : Nat.blt 0 bytes = true) (hd : Nat.blt dt n = true)
    (h : ∀ A1 c1, Ent n C ((dt, .slice A1 (l ++ us).length c1) :: e) D (ars d el A1 c1 (l ++ us) :: L) I K) : Ent n C e D L I (ow ro P ⟨some dt, .call ⟨.builtin .append, [x, y].toArray, [t, t].toArray⟩, ty, pos, aft, g⟩ Q K) :=
  ow_turn rfl hd (by simp) fun a w kn ho => by
    subst hm; subst hmc; subst hmy
    obtain ⟨inf, z, q1, q2, q3, q4, q5⟩ := hel.ex
    have hb0' : 0 < bytes := by simpa using hb0
    have hmul := Nat.le_mul_of_pos_right (l.length + us.length) hb0'
    have hmax : l.length + us.length ≤ maxLen := by simp only [maxLen]; omega
    obtain ⟨ad, rfl, hnews⟩ : ∃ ad, Ay = some ad ∧ ∀ j u, (d.cells us)[j]? = some u → w.cell? (ad.add j) = some u := by
      rcases hs w ho with h | h
      · omega
      · exact h
    have hfitb : Builtin.nextslicecap (l.length + us.length) l.length * inf.bytes ≤ 281474976710656 := by
      rw [q4]; exact growslice_fits (by omega) hb
    have made : ∀ cap : Nat, l.length + us.length ≤ cap → cap ≤ maxLen → ∀ w0 : World, Own C L I w0 → Own C (ars d el (some ⟨w0.heap.size, 0, none⟩) cap (l ++ us) :: L) I { w0 with heap := w0.heap.push (.cells ((d.cells l).toArray ++ (d.cells us).toArray ++ Builtin.zeroCells z.cells (cap - (l.length + us.length))) el (0, 0)) } := by
      intro cap h1 h2 w0 ho0
      obtain ⟨h0, hI, o⟩ := alloc_own ho0 (.cells ((d.cells l).toArray ++ (d.cells us).toArray ++ Builtin.zeroCells z.cells (cap - (l.length + us.length))) el (0, 0))
      obtain ⟨k1, k2, dd, s1, s2, ha, hs'⟩ := o.sep
      refine ⟨h0, hI, ⟨k1, k2, dd, s1, s2, .inr ⟨_, _, rfl, ha, by simpa using h1, h2, ?_, ?_⟩, hs'⟩, o.facts, o.base, o.d1, o.d2, o.d3, o.l1, o.l2, o.l3, o.os, o.tape, o.output⟩
      · simp only [Array.size_append, List.size_toArray, size_zeroCells, q5, d.cells_length, ← Nat.add_mul]
        congr 1; omega
      · simp only [Array.toList_append, d.cells_append, ← List.append_assoc]
        rw [List.length_append, show (l.length + us.length) * d.sz = (d.cells l ++ d.cells us).length by rw [List.length_append, d.cells_length, d.cells_length, Nat.add_mul]]
        exact List.take_left
    have hge := grownCap_ge w (l.length + us.length) l.length el
    have hcm := grownCap_le_maxLen w (l.length + us.length) l.length el hmax
    have ho1 : Own C (ars d el (some ⟨w.heap.size, 0, none⟩) (grownCap w (l.length + us.length) l.length el) (l ++ us) :: L) I (w.drew.alloc (.cells ((d.cells l).toArray ++ (d.cells us).toArray ++ Builtin.zeroCells z.cells (grownCap w (l.length + us.length) l.length el - (l.length + us.length))) el)) := made _ hge hcm w.drew (ho.draw _)
    have hlen : (l ++ us).length = l.length + us.length := List.length_append
    refine ⟨_, _, _, I, ?_, ho1, h _ _⟩
    rcases A with _ | b
    · have hl0 : l = [] := by
        rcases hs0 w ho with h | ⟨ad', h, _⟩
        · exact List.eq_nil_of_length_eq_zero h
        · cases h
      subst hl0
      have hr := run_append_nil (P := P) w t ty el inf z ht q1 q2 ad us.length cy (d.cells us) (by rw [q3, d.cells_length]) hnews hpos (by simp only [maxLen] at hmax; omega) (by rw [q4]; simp at hb; omega)
      simp only [execOp, resolve, Sem.run_bind, Sem.run_pure, Result.andThen_ok, List.map_toArray, List.map_cons, List.map_nil, kn.eval hx, kn.eval hy, invoke, builtin, List.length_nil] at hr ⊢
      rw [hr]
      simp [Ty.cells]
    · have holds : ∀ j u, (d.cells l)[j]? = some u → w.cell? (b.add j) = some u := by
        rcases hs0 w ho with h | ⟨ad', h, hc⟩
        · have : l = [] := List.eq_nil_of_length_eq_zero h
          subst this
          intro j u hu; simp [Ty.cells] at hu
        · cases h; exact hc
      have hr := run_append_grow (P := P) w t ty el inf z ht q1 q2 b l.length l.length (d.cells l) (by rw [q3, d.cells_length]) holds ad us.length cy (d.cells us) (by rw [q3, d.cells_length]) hnews (by omega) (by simp only [maxLen] at hmax; omega) hfitb
      simp only [execOp, resolve, Sem.run_bind, Sem.run_pure, Result.andThen_ok, List.map_toArray, List.map_cons, List.map_nil, kn.eval hx, kn.eval hy, invoke, builtin]
      rw [hr]
      simp [hlen]

/-- make of a list, each element its zero (elements of one cell). -/
theorem o_make {α : Type} {d : Ty α} {dt : Tmp} {x y : Operand} {t el : TypeId} {ty : TypeId} {pos : String} {aft : Array Edge} {g : Option (Nat × Bool)} {z : Int} {bytes : Nat} {zv : Value} (m : Nat) (x0 : α)
    (hx : ev e x = some (.int .i64 z)) (hy : ev e y = some (.int .i64 z)) (hz : z = (m : Int)) (ht : P.underlying t = some (.slice el)) (hinf : (P.info? el).map (fun i => (i.zero, i.size, i.bytes)) = some (some zv, 1, bytes)) (hsz : d.sz = 1) (hen : d.enc x0 = [zv]) (hzc : zv.cells = #[zv]) (hb : bytes * m ≤ 281474976710656) (hmx : m ≤ maxLen) (hd : Nat.blt dt n = true)
    (h : ∀ A, Ent n C ((dt, .slice A (List.replicate m x0).length m) :: e) D (ars d el A m (List.replicate m x0) :: L) I K) : Ent n C e D L I (ow ro P ⟨some dt, .makeSlice t x y, ty, pos, aft, g⟩ Q K) :=
  ow_turn rfl hd (by simp) fun a w kn ho => by
    subst hz
    obtain ⟨inf, hi, he⟩ := Option.map_eq_some_iff.1 hinf
    simp only [Prod.mk.injEq] at he
    obtain ⟨e1, e2, e3⟩ := he
    have hbz : (inf.bytes : Int) * (m : Int) ≤ 281474976710656 := by
      rw [e3, ← Int.natCast_mul]; omega
    have hr := run_make (P := P) w t el inf zv ht hi e1 .i64 .i64 (m : Int) (m : Int) (by omega) (by omega) hbz (by simp only [maxLen] at hmx; omega)
    simp only [Int.toNat_natCast, e2, Nat.mul_one] at hr
    have hcells : (madeCells zv.cells m).toList = d.cells (List.replicate m x0) := by
      rw [hzc]
      have : d.cells (List.replicate m x0) = List.replicate m zv := by
        clear hr hbz hb hmx hx hy h
        induction m with
        | zero => simp [Ty.cells]
        | succ m ih => rw [List.replicate_succ, Ty.cells, List.flatMap_cons, hen]; unfold Ty.cells at ih; rw [ih]; rfl
      rw [this]
      apply List.ext_getElem
      · simp [madeCells]
      · intro i h1 h2
        simp [madeCells, Nat.mod_one]
    refine ⟨.slice (some ⟨w.heap.size, 0, none⟩) (List.replicate m x0).length m, w.alloc (.cells (madeCells zv.cells m) el), _, I, ?_, ?_, h (some ⟨w.heap.size, 0, none⟩)⟩
    · simp only [execOp, kn.eval hx, kn.eval hy, Sem.run_bind, hr, Result.andThen_ok, Sem.run_pure, List.length_replicate]
    · obtain ⟨h0, hI, o⟩ := alloc_own ho (.cells (madeCells zv.cells m) el (0, 0))
      obtain ⟨k1, k2, dd, s1, s2, ha, hs'⟩ := o.sep
      refine ⟨h0, hI, ⟨k1, k2, dd, s1, s2, .inr ⟨_, _, rfl, ha, by simp, hmx, by rw [size_madeCells, hsz, Nat.mul_one], ?_⟩, hs'⟩, o.facts, o.base, o.d1, o.d2, o.d3, o.l1, o.l2, o.l3, o.os, o.tape, o.output⟩
      rw [hcells, List.take_of_length_le (by rw [d.cells_length]; exact Nat.le_refl _)]
/-- copy over the whole of a list of the call's own (elements of one cell). -/
theorem o_copy {α : Type} {d : Ty α} {x y : Operand} {dt : Tmp} {t t2 el : TypeId} {ty : TypeId} {pos : String} {aft : Array Edge} {g : Option (Nat × Bool)} {A Ay : Option Addr} {c m my cy : Nat} {l us : List α} (i : Nat)
    (hx : ev e x = some (.slice A m c)) (hy : ev e y = some (.slice Ay my cy)) (hi : L[i]? = some (ars d el A c l)) (hm : m = l.length) (hmy : my = us.length) (hlen : us.length = l.length) (hs : srcOf C L I Ay my (d.cells us)) (ht : P.underlying t = some (.slice el)) (hinf : (P.info? el).map (·.size) = some 1) (hsz : d.sz = 1) (hd : Nat.blt dt n = true)
    (h : Ent n C ((dt, .int .i64 (us.length : Int)) :: e) D (L.set i (ars d el A c us)) I K) : Ent n C e D L I (ow ro P ⟨some dt, .call ⟨.builtin .copy, [x, y].toArray, [t, t2].toArray⟩, ty, pos, aft, g⟩ Q K) :=
  ow_turn rfl hd (by simp) fun a w kn ho => by
    subst hm; subst hmy
    obtain ⟨h1, hl, hA⟩ := ho.atom i hi
    have hcl : (d.cells us).length = us.length := by rw [d.cells_length, hsz, Nat.mul_one]
    have hmin : Nat.min us.length l.length = us.length := by rw [hlen]; exact Nat.min_self _
    rcases Nat.eq_zero_or_pos us.length with h0 | h0
    · have hr := run_copy_none (P := P) w t t2 ty el A Ay l.length c us.length cy ht hinf (by rw [hmin, h0])
      obtain rfl : us = [] := List.eq_nil_of_length_eq_zero h0
      obtain rfl : l = [] := List.eq_nil_of_length_eq_zero (by omega)
      have hset : L.set i (ars d el A c []) = L := by
        obtain ⟨hlt, he⟩ := List.getElem?_eq_some_iff.1 hi
        rw [← he]; exact List.set_getElem_self hlt
      refine ⟨.int .i64 (0 : Int), w, L, I, ?_, ho, by simpa [hset] using h⟩
      simp only [execOp, resolve, Sem.run_bind, Sem.run_pure, Result.andThen_ok, List.map_toArray, List.map_cons, List.map_nil, kn.eval hx, kn.eval hy, invoke, builtin]
      simp only [List.length_nil] at hr ⊢
      rw [hr]; rfl
    · obtain ⟨ad, rfl, hsrc⟩ : ∃ ad, Ay = some ad ∧ ∀ j u, (d.cells us)[j]? = some u → w.cell? (ad.add j) = some u := by
        rcases hs w ho with q | q
        · omega
        · exact q
      rcases hA with ⟨_, _, hnil⟩ | ⟨b, cur, rfl, hb, hlc, hcm, hcs, htk⟩
      · rw [hnil] at hlen; simp at hlen; rw [hlen] at h0; simp at h0
      · rw [hsz] at hcs htk
        have hg := hl _ _ hb
        have hr := run_copy_row (P := P) w t t2 ty el b 0 l.length c ad us.length cy cur el (d.cells us) ht hinf hg (by rw [hcl, hmin]) hsrc (by rw [hcl]; omega) (d.cells_one us)
        have hown : (w.setRow b (cur.toList.take 0 ++ d.cells us ++ cur.toList.drop (0 + (d.cells us).length)).toArray).ownsRow 0 el d.sz (.slice (some ⟨b, 0, none⟩) us.length c) us.length (d.cells us) := by
          refine ⟨d.cells_length us, .inr ⟨b, c, _, rfl, Nat.zero_le _, setRow_heap w b _ _ el _ hg, by omega, hcm, ?_, ?_⟩⟩
          · simp [hcl, hsz]; have : cur.toList.length = cur.size := Array.length_toList; omega
          · simp [hcl, hsz]
        have hgr : w.grownBy (w.setRow b (cur.toList.take 0 ++ d.cells us ++ cur.toList.drop (0 + (d.cells us).length)).toArray) (Value.slice (some ⟨b, 0, none⟩) l.length c).ownBlock := by
          refine ⟨rfl, rfl, rfl, by simp [World.setRow], fun k hk hne => ?_⟩
          have : b ≠ k := fun q => hne (by rw [← q]; rfl)
          simp only [World.setRow]
          rw [Array.getElem?_modify, if_neg this]
        obtain ⟨A1, c1, hv, ho'⟩ := turn_own (l1 := us) ho i hi hgr hown (.inl (by rw [hlen])) rfl rfl
        simp only [Value.slice.injEq] at hv
        obtain ⟨rfl, _, rfl⟩ := hv
        refine ⟨.int .i64 (us.length : Int), _, _, I, ?_, ho', h⟩
        simp only [execOp, resolve, Sem.run_bind, Sem.run_pure, Result.andThen_ok, List.map_toArray, List.map_cons, List.map_nil, kn.eval hx, kn.eval hy, invoke, builtin, hr, hcl]
        rfl

/-! ### Cuts -/
end
end Go.Sl
