/- Appends, makes, copies; cuts of lists and strings. -/
import Derived.Test.YtcnncdniibkjkaaGreatDoorSlF
import Derived.Laws.Slices
import Derived.Laws.BytesString
set_option linter.unusedVariables false
set_option linter.unusedSimpArgs false
namespace Go.Sl
open Go Go.RowKit

/-- A source of cells: what 'append' and 'copy' read. -/
def Src (w : World) (A : Option Addr) (m : Nat) (news : List Value) : Prop := m = 0 ∨ ∃ ad, A = some ad ∧ ∀ j u, news[j]? = some u → w.cell? (ad.add j) = some u
theorem run_app {P : Program} (w : World) (t ty el : TypeId) (i : TypeInfo) (z : Value) (sz bytes : Nat) (ht : P.underlying t = some (.slice el)) (hi : P.info? el = some i) (hz : i.zero = some z)
    (hsize : i.size = sz) (hby : i.bytes = bytes) (hzs : z.cells.size = sz) (hsz : 0 < sz) (v : Value) (n : Nat) (xs : List Value) (hown : w.ownsRow 0 el sz v n xs)
    (A : Option Addr) (m c : Nat) (news : List Value) (hl : news.length = m * sz) (hs : Src w A m news) (h1 : ∀ u ∈ news, u.oneCell' = true) (hbytes : (n + m) * bytes ≤ 140737488355328) (h63 : n + m ≤ maxLen) :
    ∃ v' w', (Builtin.append_ #[t, t] ty #[v, .slice A m c]).run P w = .ok v' w' ∧ w'.ownsRow 0 el sz v' (n + m) (xs ++ news) ∧ w.grownBy w' v.ownBlock ∧ (v'.ownBlock = v.ownBlock ∨ v'.ownBlock = some w.heap.size) := by
  rcases A with _ | ad
  · have hm : m = 0 := by
      rcases hs with h | ⟨ad, h, _⟩
      · exact h
      · cases h
    subst hm
    obtain rfl : news = [] := List.eq_nil_of_length_eq_zero (by simpa using hl)
    refine ⟨v, w, ?_, by simpa using hown, World.grownBy.refl w _, .inl rfl⟩
    rcases hown.2 with ⟨rfl, hn⟩ | ⟨g, cap, cur, rfl, _, _, hnc, _⟩
    · simp [Builtin.append_, run_underlying ht, sizeOf, typeInfo, hi, Builtin.lenOf, Builtin.firstCells]
    · simp [Builtin.append_, run_underlying ht, sizeOf, typeInfo, hi, Builtin.lenOf, Builtin.firstCells, hnc, storeCells]
  · have hnews : ∀ j u, news[j]? = some u → w.cell? (ad.add j) = some u := by
      rcases hs with h | ⟨ad', h, hc⟩
      · subst h
        obtain rfl : news = [] := List.eq_nil_of_length_eq_zero (by simpa using hl)
        intro j u hu; simp at hu
      · cases h; exact hc
    obtain ⟨v', w', h1, h2, h3, _, h5⟩ := run_append_own_at (P := P) w 0 t ty el i z sz bytes ht hi hz hsize hby hzs hsz v n xs hown ad m c news hl hnews h1 h63 hbytes (Nat.zero_le _)
    exact ⟨v', w', h1, h2, h3, h5⟩

/-- An element's type: its zero, its cells, its bytes. -/
structure Elem (P : Program) (el : TypeId) (sz bytes : Nat) : Prop where
  ex : ∃ i z, P.info? el = some i ∧ i.zero = some z ∧ i.size = sz ∧ i.bytes = bytes ∧ z.cells.size = sz
theorem elem_of {P : Program} {el : TypeId} {z : Value} {sz bytes : Nat} (h : (P.info? el).map (fun i => (i.zero, i.size, i.bytes)) = some (some z, sz, bytes)) (hz : z.cells.size = sz) : Elem P el sz bytes := by
  obtain ⟨i, hi, he⟩ := Option.map_eq_some_iff.1 h
  simp only [Prod.mk.injEq] at he
  exact ⟨i, z, hi, he.1, he.2.1, he.2.2, hz⟩

section
variable {n : Nat} {C : Ctx} {e : Env} {D : List Deferred} {L I : List Atom} {P : Program} {ro : Option Nat} {Q : Exit → Act → World → Prop} {K X : Act → World → Prop}

def srcOf (C : Ctx) (L I : List Atom) (A : Option Addr) (m : Nat) (news : List Value) : Prop := ∀ w, Own C L I w → Src w A m news
theorem src_pt {b T m : Nat} {cs : List Value} (i : Nat) (hi : L[i]? = some (pt b cs T)) : srcOf C L I (some ⟨b, 0, none⟩) m cs := fun w ho => by
  obtain ⟨h1, hl, hA⟩ := ho.atom i hi
  refine .inr ⟨_, rfl, fun j u hu => ?_⟩
  rw [add_none, cell_of (hl _ _ hA)]
  simpa using hu
theorem src_rd {α : Type} {d : Ty α} {A : Option Addr} {c : Nat} {l : List α} (i : Nat) (hi : I[i]? = some (rd d A c l)) : srcOf C L I A l.length (d.cells l) := fun w ho => by
  obtain ⟨h1, hl, hA⟩ := ho.fact (List.mem_of_getElem? hi)
  obtain ⟨_, _, h3⟩ := hA h1 (le.refl _)
  rcases Nat.eq_zero_or_pos l.length with h | h
  · exact .inl h
  · obtain ⟨b, o, rfl, hc⟩ := h3 h
    refine .inr ⟨_, rfl, fun j u hu => ?_⟩
    rw [add_none]
    exact hc.cell hl hu
theorem src_ars {α : Type} {d : Ty α} {T : TypeId} {A : Option Addr} {c : Nat} {l : List α} (i : Nat) (hi : L[i]? = some (ars d T A c l)) : srcOf C L I A l.length (d.cells l) := fun w ho => by
  obtain ⟨h1, hl, hA⟩ := ho.atom i hi
  obtain ⟨_, _, h3⟩ := hA.reads
  rcases Nat.eq_zero_or_pos l.length with h | h
  · exact .inl h
  · obtain ⟨b, o, rfl, hc⟩ := h3 h
    refine .inr ⟨_, rfl, fun j u hu => ?_⟩
    rw [add_none]
    exact hc.cell hl hu

/-- append to a list of the call's own. -/
theorem o_app {α : Type} {d : Ty α} {dt : Tmp} {x y : Operand} {t el : TypeId} {ty : TypeId} {pos : String} {aft : Array Edge} {g : Option (Nat × Bool)} {A Ay : Option Addr} {c m my cy bytes : Nat} {l us : List α} (i : Nat)
    (hx : ev e x = some (.slice A m c)) (hy : ev e y = some (.slice Ay my cy)) (hi : L[i]? = some (ars d el A c l)) (hm : m = l.length) (hmy : my = us.length) (hs : srcOf C L I Ay my (d.cells us)) (ht : P.underlying t = some (.slice el)) (hel : Elem P el d.sz bytes) (hsz : Nat.blt 0 d.sz = true) (hb : (l.length + us.length) * bytes ≤ 140737488355328) (hb0 : Nat.blt 0 bytes = true) (hd : Nat.blt dt n = true)
    (h : ∀ A1 c1, Ent n C ((dt, .slice A1 (l ++ us).length c1) :: e) D (L.set i (ars d el A1 c1 (l ++ us))) I K) : Ent n C e D L I (ow ro P ⟨some dt, .call ⟨.builtin .append, [x, y].toArray, [t, t].toArray⟩, ty, pos, aft, g⟩ Q K) :=
  ow_turn rfl hd (by simp) fun a w kn ho => by
    subst hm; subst hmy
    obtain ⟨h1, hl, hA⟩ := ho.atom i hi
    obtain ⟨inf, z, q1, q2, q3, q4, q5⟩ := hel.ex
    have hb0' : 0 < bytes := by simpa using hb0
    have hmax : l.length + us.length ≤ maxLen := by
      have := Nat.le_mul_of_pos_right (l.length + us.length) hb0'
      simp only [maxLen]; omega
    obtain ⟨v', w', r1, r2, r3, r4⟩ := run_app (P := P) w t ty el inf z d.sz bytes ht q1 q2 q3 q4 q5 (by simpa using hsz) _ _ _ (hA.owns hl) Ay us.length cy (d.cells us) (d.cells_length us) (hs w ho) (d.cells_one us) hb hmax
    obtain ⟨A1, c1, rfl, ho'⟩ := turn_own (l1 := l ++ us) ho i hi r3 r2 r4 (by rw [d.cells_append]) (by simp)
    refine ⟨_, w', _, I, ?_, ho', h A1 c1⟩
    simp only [execOp, resolve, Sem.run_bind, Sem.run_pure, Result.andThen_ok, List.map_toArray, List.map_cons, List.map_nil, kn.eval hx, kn.eval hy, invoke, builtin, r1]
/-- append to a full list: always a new one. -/
theorem o_appfull {α : Type} {d : Ty α} {dt : Tmp} {x y : Operand} {t el : TypeId} {ty : TypeId} {pos : String} {aft : Array Edge} {g : Option (Nat × Bool)} {A Ay : Option Addr} {m mc my cy bytes : Nat} {l us : List α}
    (hx : ev e x = some (.slice A m mc)) (hy : ev e y = some (.slice Ay my cy)) (hm : m = l.length) (hmc : mc = l.length) (hmy : my = us.length) (hs0 : srcOf C L I A m (d.cells l)) (hs : srcOf C L I Ay my (d.cells us)) (hpos : 0 < us.length) (ht : P.underlying t = some (.slice el)) (hel : Elem P el d.sz bytes) (hb : (l.length + us.length) * bytes ≤ 140737488355328) (hb0 : Nat.blt 0 bytes = true) (hd : Nat.blt dt n = true)
    (h : ∀ A1 c1, Ent n C ((dt, .slice A1 (l ++ us).length c1) :: e) D (ars d el A1 c1 (l ++ us) :: L) I K) : Ent n C e D L I (ow ro P ⟨some dt, .call ⟨.builtin .append, [x, y].toArray, [t, t].toArray⟩, ty, pos, aft, g⟩ Q K) :=
  ow_turn rfl hd (by simp) fun a w kn ho => by
    subst hm; subst hmc; subst hmy
    obtain ⟨inf, z, q1, q2, q3, q4, q5⟩ := hel.ex
    have hb0' : 0 < bytes := by simpa using hb0
    have hmul := Nat.le_mul_of_pos_right (l.length + us.length) hb0'
    have hmax : l.length + us.length ≤ maxLen := by simp only [maxLen]; omega
    obtain ⟨ad, rfl, hnews⟩ : ∃ ad, Ay = some ad ∧ ∀ j u, (d.cells us)[j]? = some u → w.cell? (ad.add j) = some u := by
      rcases hs w ho with h | h
      · omega
      · exact h
    have hfitb : Builtin.nextslicecap (l.length + us.length) l.length * inf.bytes ≤ 281474976710656 := by
      rw [q4]; exact growslice_fits (by omega) hb
    have made : ∀ cap : Nat, l.length + us.length ≤ cap → cap ≤ maxLen → ∀ w0 : World, Own C L I w0 → Own C (ars d el (some ⟨w0.heap.size, 0, none⟩) cap (l ++ us) :: L) I { w0 with heap := w0.heap.push (.cells ((d.cells l).toArray ++ (d.cells us).toArray ++ Builtin.zeroCells z.cells (cap - (l.length + us.length))) el (0, 0)) } := by
      intro cap h1 h2 w0 ho0
      obtain ⟨h0, hI, o⟩ := alloc_own ho0 (.cells ((d.cells l).toArray ++ (d.cells us).toArray ++ Builtin.zeroCells z.cells (cap - (l.length + us.length))) el (0, 0))
      obtain ⟨k1, k2, dd, s1, s2, ha, hs'⟩ := o.sep
      refine ⟨h0, hI, ⟨k1, k2, dd, s1, s2, .inr ⟨_, _, rfl, ha, by simpa using h1, h2, ?_, ?_⟩, hs'⟩, o.facts, o.base, o.d1, o.d2, o.d3, o.l1, o.l2, o.l3, o.os, o.tape, o.output⟩
      · simp only [Array.size_append, List.size_toArray, size_zeroCells, q5, d.cells_length, ← Nat.add_mul]
        congr 1; omega
      · simp only [Array.toList_append, d.cells_append, ← List.append_assoc]
        rw [List.length_append, show (l.length + us.length) * d.sz = (d.cells l ++ d.cells us).length by rw [List.length_append, d.cells_length, d.cells_length, Nat.add_mul]]
        exact List.take_left
    have hge := grownCap_ge w (l.length + us.length) l.length el
    have hcm := grownCap_le_maxLen w (l.length + us.length) l.length el hmax
    have ho1 : Own C (ars d el (some ⟨w.heap.size, 0, none⟩) (grownCap w (l.length + us.length) l.length el) (l ++ us) :: L) I (w.drew.alloc (.cells ((d.cells l).toArray ++ (d.cells us).toArray ++ Builtin.zeroCells z.cells (grownCap w (l.length + us.length) l.length el - (l.length + us.length))) el)) := made _ hge hcm w.drew (ho.draw _)
    have hlen : (l ++ us).length = l.length + us.length := List.length_append
    refine ⟨_, _, _, I, ?_, ho1, h _ _⟩
    rcases A with _ | b
    · have hl0 : l = [] := by
        rcases hs0 w ho with h | ⟨ad', h, _⟩
        · exact List.eq_nil_of_length_eq_zero h
        · cases h
      subst hl0
      have hr := run_append_nil (P := P) w t ty el inf z ht q1 q2 ad us.length cy (d.cells us) (by rw [q3, d.cells_length]) hnews hpos (by simp only [maxLen] at hmax; omega) (by rw [q4]; simp at hb; omega)
      simp only [execOp, resolve, Sem.run_bind, Sem.run_pure, Result.andThen_ok, List.map_toArray, List.map_cons, List.map_nil, kn.eval hx, kn.eval hy, invoke, builtin, List.length_nil] at hr ⊢
      rw [hr]
      simp [Ty.cells]
    · have holds : ∀ j u, (d.cells l)[j]? = some u → w.cell? (b.add j) = some u := by
        rcases hs0 w ho with h | ⟨ad', h, hc⟩
        · have : l = [] := List.eq_nil_of_length_eq_zero h
          subst this
          intro j u hu; simp [Ty.cells] at hu
        · cases h; exact hc
      have hr := run_append_grow (P := P) w t ty el inf z ht q1 q2 b l.length l.length (d.cells l) (by rw [q3, d.cells_length]) holds ad us.length cy (d.cells us) (by rw [q3, d.cells_length]) hnews (by omega) (by simp only [maxLen] at hmax; omega) hfitb
      simp only [execOp, resolve, Sem.run_bind, Sem.run_pure, Result.andThen_ok, List.map_toArray, List.map_cons, List.map_nil, kn.eval hx, kn.eval hy, invoke, builtin]
      rw [hr]
      simp [hlen]

/-- make of a list, each element its zero (elements of one cell). -/
theorem o_make {α : Type} {d : Ty α} {dt : Tmp} {x y : Operand} {t el : TypeId} {ty : TypeId} {pos : String} {aft : Array Edge} {g : Option (Nat × Bool)} {z : Int} {bytes : Nat} {zv : Value} (m : Nat) (x0 : α)
    (hx : ev e x = some (.int .i64 z)) (hy : ev e y = some (.int .i64 z)) (hz : z = (m : Int)) (ht : P.underlying t = some (.slice el)) (hinf : (P.info? el).map (fun i => (i.zero, i.size, i.bytes)) = some (some zv, 1, bytes)) (hsz : d.sz = 1) (hen : d.enc x0 = [zv]) (hzc : zv.cells = #[zv]) (hb : bytes * m ≤ 281474976710656) (hmx : m ≤ maxLen) (hd : Nat.blt dt n = true)
    (h : ∀ A, Ent n C ((dt, .slice A (List.replicate m x0).length m) :: e) D (ars d el A m (List.replicate m x0) :: L) I K) : Ent n C e D L I (ow ro P ⟨some dt, .makeSlice t x y, ty, pos, aft, g⟩ Q K) :=
  ow_turn rfl hd (by simp) fun a w kn ho => by
    subst hz
    obtain ⟨inf, hi, he⟩ := Option.map_eq_some_iff.1 hinf
    simp only [Prod.mk.injEq] at he
    obtain ⟨e1, e2, e3⟩ := he
    have hbz : (inf.bytes : Int) * (m : Int) ≤ 281474976710656 := by
      rw [e3, ← Int.natCast_mul]; omega
    have hr := run_make (P := P) w t el inf zv ht hi e1 .i64 .i64 (m : Int) (m : Int) (by omega) (by omega) hbz (by simp only [maxLen] at hmx; omega)
    simp only [Int.toNat_natCast, e2, Nat.mul_one] at hr
    have hcells : (madeCells zv.cells m).toList = d.cells (List.replicate m x0) := by
      rw [hzc]
      have : d.cells (List.replicate m x0) = List.replicate m zv := by
        clear hr hbz hb hmx hx hy h
        induction m with
        | zero => simp [Ty.cells]
        | succ m ih => rw [List.replicate_succ, Ty.cells, List.flatMap_cons, hen]; unfold Ty.cells at ih; rw [ih]; rfl
      rw [this]
      apply List.ext_getElem
      · simp [madeCells]
      · intro i h1 h2
        simp [madeCells, Nat.mod_one]
    refine ⟨.slice (some ⟨w.heap.size, 0, none⟩) (List.replicate m x0).length m, w.alloc (.cells (madeCells zv.cells m) el), _, I, ?_, ?_, h (some ⟨w.heap.size, 0, none⟩)⟩
    · simp only [execOp, kn.eval hx, kn.eval hy, Sem.run_bind, hr, Result.andThen_ok, Sem.run_pure, List.length_replicate]
    · obtain ⟨h0, hI, o⟩ := alloc_own ho (.cells (madeCells zv.cells m) el (0, 0))
      obtain ⟨k1, k2, dd, s1, s2, ha, hs'⟩ := o.sep
      refine ⟨h0, hI, ⟨k1, k2, dd, s1, s2, .inr ⟨_, _, rfl, ha, by simp, hmx, by rw [size_madeCells, hsz, Nat.mul_one], ?_⟩, hs'⟩, o.facts, o.base, o.d1, o.d2, o.d3, o.l1, o.l2, o.l3, o.os, o.tape, o.output⟩
      rw [hcells, List.take_of_length_le (by rw [d.cells_length]; exact Nat.le_refl _)]
/-- copy over the whole of a list of the call's own (elements of one cell). -/
theorem o_copy {α : Type} {d : Ty α} {x y : Operand} {dt : Tmp} {t t2 el : TypeId} {ty : TypeId} {pos : String} {aft : Array Edge} {g : Option (Nat × Bool)} {A Ay : Option Addr} {c m my cy : Nat} {l us : List α} (i : Nat)
    (hx : ev e x = some (.slice A m c)) (hy : ev e y = some (.slice Ay my cy)) (hi : L[i]? = some (ars d el A c l)) (hm : m = l.length) (hmy : my = us.length) (hlen : us.length = l.length) (hs : srcOf C L I Ay my (d.cells us)) (ht : P.underlying t = some (.slice el)) (hinf : (P.info? el).map (·.size) = some 1) (hsz : d.sz = 1) (hd : Nat.blt dt n = true)
    (h : Ent n C ((dt, .int .i64 (us.length : Int)) :: e) D (L.set i (ars d el A c us)) I K) : Ent n C e D L I (ow ro P ⟨some dt, .call ⟨.builtin .copy, [x, y].toArray, [t, t2].toArray⟩, ty, pos, aft, g⟩ Q K) :=
  ow_turn rfl hd (by simp) fun a w kn ho => by
    subst hm; subst hmy
    obtain ⟨h1, hl, hA⟩ := ho.atom i hi
    have hcl : (d.cells us).length = us.length := by rw [d.cells_length, hsz, Nat.mul_one]
    have hmin : Nat.min us.length l.length = us.length := by rw [hlen]; exact Nat.min_self _
    rcases Nat.eq_zero_or_pos us.length with h0 | h0
    · have hr := run_copy_none (P := P) w t t2 ty el A Ay l.length c us.length cy ht hinf (by rw [hmin, h0])
      obtain rfl : us = [] := List.eq_nil_of_length_eq_zero h0
      obtain rfl : l = [] := List.eq_nil_of_length_eq_zero (by omega)
      have hset : L.set i (ars d el A c []) = L := by
        obtain ⟨hlt, he⟩ := List.getElem?_eq_some_iff.1 hi
        rw [← he]; exact List.set_getElem_self hlt
      refine ⟨.int .i64 (0 : Int), w, L, I, ?_, ho, by simpa [hset] using h⟩
      simp only [execOp, resolve, Sem.run_bind, Sem.run_pure, Result.andThen_ok, List.map_toArray, List.map_cons, List.map_nil, kn.eval hx, kn.eval hy, invoke, builtin]
      simp only [List.length_nil] at hr ⊢
      rw [hr]; rfl
    · obtain ⟨ad, rfl, hsrc⟩ : ∃ ad, Ay = some ad ∧ ∀ j u, (d.cells us)[j]? = some u → w.cell? (ad.add j) = some u := by
        rcases hs w ho with q | q
        · omega
        · exact q
      rcases hA with ⟨_, _, hnil⟩ | ⟨b, cur, rfl, hb, hlc, hcm, hcs, htk⟩
      · rw [hnil] at hlen; simp at hlen; rw [hlen] at h0; simp at h0
      · rw [hsz] at hcs htk
        have hg := hl _ _ hb
        have hr := run_copy_row (P := P) w t t2 ty el b 0 l.length c ad us.length cy cur el (d.cells us) ht hinf hg (by rw [hcl, hmin]) hsrc (by rw [hcl]; omega) (d.cells_one us)
        have hown : (w.setRow b (cur.toList.take 0 ++ d.cells us ++ cur.toList.drop (0 + (d.cells us).length)).toArray).ownsRow 0 el d.sz (.slice (some ⟨b, 0, none⟩) us.length c) us.length (d.cells us) := by
          refine ⟨d.cells_length us, .inr ⟨b, c, _, rfl, Nat.zero_le _, setRow_heap w b _ _ el _ hg, by omega, hcm, ?_, ?_⟩⟩
          · simp [hcl, hsz]; have : cur.toList.length = cur.size := Array.length_toList; omega
          · simp [hcl, hsz]
        have hgr : w.grownBy (w.setRow b (cur.toList.take 0 ++ d.cells us ++ cur.toList.drop (0 + (d.cells us).length)).toArray) (Value.slice (some ⟨b, 0, none⟩) l.length c).ownBlock := by
          refine ⟨rfl, rfl, rfl, by simp [World.setRow], fun k hk hne => ?_⟩
          have : b ≠ k := fun q => hne (by rw [← q]; rfl)
          simp only [World.setRow]
          rw [Array.getElem?_modify, if_neg this]
        obtain ⟨A1, c1, hv, ho'⟩ := turn_own (l1 := us) ho i hi hgr hown (.inl (by rw [hlen])) rfl rfl
        simp only [Value.slice.injEq] at hv
        obtain ⟨rfl, _, rfl⟩ := hv
        refine ⟨.int .i64 (us.length : Int), _, _, I, ?_, ho', h⟩
        simp only [execOp, resolve, Sem.run_bind, Sem.run_pure, Result.andThen_ok, List.map_toArray, List.map_cons, List.map_nil, kn.eval hx, kn.eval hy, invoke, builtin, hr, hcl]
        rfl

/-! ### Cuts -/
end
end Go.Sl
/- Scopes, elements by their place, cuts of lists and strings, small reckoning. -/
set_option linter.unusedVariables false
set_option linter.unusedSimpArgs false
namespace Go.Sl
open Go Go.RowKit

/-! ### Scopes -/
theorem stepR_scope {P : Program} {b : Frame} {a : Act} {k : List Item} {cs : List Frame} {w : World} {c : Code} : step P (lone (b.atR a (.code (.scope c) :: k)) cs w) = .next (lone (b.atR a (.code c :: .inScope c :: k)) cs w) :=
  step_lone_go (by simp [stepG, stepG.exec, Frame.atR])
theorem stepR_inScope {P : Program} {b : Frame} {a : Act} {k : List Item} {cs : List Frame} {w : World} {c : Code} : step P (lone (b.atR a (.inScope c :: k)) cs w) = .next (lone (b.atR a k) cs w) :=
  step_lone_go (by simp [stepG, stepG.exec, Frame.atR])
theorem arr_scope {J : Machine → Prop} {P : Program} {m : Machine} {b : Frame} {k : List Item} {cs : List Frame} {x : Exit} {a : Act} {w : World} {c : Code} (hn : x ≠ .normal) (hg : ∀ l, x ≠ .goto l) (h : ArrivesIn J P m b (.inScope c :: k) cs x a w) : ArrivesIn J P m b k cs x a w := by
  cases x with
  | normal => exact (hn rfl).elim
  | goto l => exact (hg l rfl).elim
  | exit id => exact ⟨fun k' hk => h.1 k' (by simpa [exitTo] using hk), fun hr hk => h.2 hr (by simpa [exitTo] using hk)⟩
  | ret => exact h
  | panic ch => exact h
  | outgrown => exact h
def jumpTo (l : Nat) (Y : Act → World → Prop) (Q : Exit → Act → World → Prop) : Exit → Act → World → Prop
  | .goto l', a, w => l' = l ∧ Y a w
  | x, a, w => Q x a w
def noJump (Q : Exit → Act → World → Prop) : Exit → Act → World → Prop
  | .goto _, _, _ => False
  | x, a, w => Q x a w
section
variable {n : Nat} {C : Ctx} {e : Env} {D : List Deferred} {L I : List Atom} {P : Program} {ro : Option Nat} {Q : Exit → Act → World → Prop} {K X : Act → World → Prop}

theorem c_scope0 {c : Code} (h : Ent n C e D L I (cw ro P c (noJump Q))) : Ent n C e D L I (cw ro P (.scope c) Q) := by
  intro a w hk hs hd ho b k cs hro hb hr
  obtain ⟨x, a₁, w₁, hx, harr⟩ := h a w hk hs hd ho b (.inScope c :: k) cs hro hb hr
  have s1 : StepsIn (Machine.fenced P (fen ro)) P (lone (b.atR a (.code (.scope c) :: k)) cs w) (lone (b.atR a (.code c :: .inScope c :: k)) cs w) := .one (fenced_calm hb hr rfl) stepR_scope
  cases x with
  | normal => exact ⟨.normal, a₁, w₁, hx, .of_steps s1 (StepsIn.trans harr (.one (fenced_calm hb hr rfl) stepR_inScope))⟩
  | goto l => exact hx.elim
  | exit id => exact ⟨_, a₁, w₁, hx, .of_steps s1 (arr_scope (by simp) (by simp) harr)⟩
  | ret => exact ⟨_, a₁, w₁, hx, .of_steps s1 (arr_scope (by simp) (by simp) harr)⟩
  | panic ch => exact ⟨_, a₁, w₁, hx, .of_steps s1 (arr_scope (by simp) (by simp) harr)⟩
  | outgrown => exact ⟨_, a₁, w₁, hx, .of_steps s1 (arr_scope (by simp) (by simp) harr)⟩
/-- A scope out of which the run jumps forward to one label: what stands behind the label is walked where the jump is. -/
theorem c_scope {c rest : Code} (l : Nat) (hf : findLabel c l = some rest) (h : Ent n C e D L I (cw ro P c (jumpTo l (cw ro P rest (noJump Q)) Q))) : Ent n C e D L I (cw ro P (.scope c) Q) := by
  intro a w hk hs hd ho b k cs hro hb hr
  obtain ⟨x, a₁, w₁, hx, harr⟩ := h a w hk hs hd ho b (.inScope c :: k) cs hro hb hr
  have s1 : StepsIn (Machine.fenced P (fen ro)) P (lone (b.atR a (.code (.scope c) :: k)) cs w) (lone (b.atR a (.code c :: .inScope c :: k)) cs w) := .one (fenced_calm hb hr rfl) stepR_scope
  cases x with
  | normal => exact ⟨.normal, a₁, w₁, hx, .of_steps s1 (StepsIn.trans harr (.one (fenced_calm hb hr rfl) stepR_inScope))⟩
  | goto l' =>
    obtain ⟨rfl, hY⟩ := hx
    have hg : gotoIn l' (.inScope c :: k) = some (.code rest :: .inScope c :: k) := by simp [gotoIn, hf]
    have s2 := s1.trans (harr.1 _ hg)
    obtain ⟨x, a₂, w₂, hx, harr⟩ := hY b (.inScope c :: k) cs hro hb hr
    cases x with
    | normal => exact ⟨.normal, a₂, w₂, hx, .of_steps s2 (StepsIn.trans harr (.one (fenced_calm hb hr rfl) stepR_inScope))⟩
    | goto l => exact hx.elim
    | exit id => exact ⟨_, a₂, w₂, hx, .of_steps s2 (arr_scope (by simp) (by simp) harr)⟩
    | ret => exact ⟨_, a₂, w₂, hx, .of_steps s2 (arr_scope (by simp) (by simp) harr)⟩
    | panic ch => exact ⟨_, a₂, w₂, hx, .of_steps s2 (arr_scope (by simp) (by simp) harr)⟩
    | outgrown => exact ⟨_, a₂, w₂, hx, .of_steps s2 (arr_scope (by simp) (by simp) harr)⟩
  | exit id => exact ⟨_, a₁, w₁, hx, .of_steps s1 (arr_scope (by simp) (by simp) harr)⟩
  | ret => exact ⟨_, a₁, w₁, hx, .of_steps s1 (arr_scope (by simp) (by simp) harr)⟩
  | panic ch => exact ⟨_, a₁, w₁, hx, .of_steps s1 (arr_scope (by simp) (by simp) harr)⟩
  | outgrown => exact ⟨_, a₁, w₁, hx, .of_steps s1 (arr_scope (by simp) (by simp) harr)⟩
theorem q_nj (h : Ent n C e D L I (Q .normal)) : Ent n C e D L I (noJump Q .normal) := h
theorem q_nj_ret (h : Ent n C e D L I (Q .ret)) : Ent n C e D L I (noJump Q .ret) := h
theorem q_nj_exit {id : Nat} (h : Ent n C e D L I (Q (.exit id))) : Ent n C e D L I (noJump Q (.exit id)) := h
theorem q_jt {l : Nat} {Y : Act → World → Prop} (h : Ent n C e D L I (Q .normal)) : Ent n C e D L I (jumpTo l Y Q .normal) := h
theorem q_jt_ret {l : Nat} {Y : Act → World → Prop} (h : Ent n C e D L I (Q .ret)) : Ent n C e D L I (jumpTo l Y Q .ret) := h
theorem q_jt_exit {l : Nat} {Y : Act → World → Prop} {id : Nat} (h : Ent n C e D L I (Q (.exit id))) : Ent n C e D L I (jumpTo l Y Q (.exit id)) := h
theorem q_jt_goto {l : Nat} {Y : Act → World → Prop} (h : Ent n C e D L I Y) : Ent n C e D L I (jumpTo l Y Q (.goto l)) := fun a w kn s d ho => ⟨rfl, h a w kn s d ho⟩

/-! ### Open orders: one end for all of them -/
theorem c_drawx {id m : Nat} {os : List Oper} {l : Array Bool} (H : List (Addr × Value)) (ds : List Nat) (hm : P.follows .mixedOrders = true) (hn : os.length = m) (hl : Array.replicate m false = l)
    (h : ∀ Y : Act → World → Prop, (∀ {e' : Env} {L' I' : List Atom}, Ent n C e' D L' I' (Q .normal) → Ent n C e' D L' I' Y) → Ent n C e D L I (aw ro P os.toArray H ds Y m l)) : Ent n C e D L I (cw ro P (.region id os.toArray true) Q) :=
  c_draw H ds hm hn hl (h _ fun h => h)

/-! ### Elements by their place -/
theorem e_at {α : Type} {d : Ty α} {A : Option Addr} {c : Nat} {l : List α} (i k : Nat) (hi : I[i]? = some (rd d A c l)) (hk : k < l.length) (h : ∀ b o x, A = some ⟨b, o, none⟩ → l[k]? = some x → Ent n C e D L (cellsAt b (o + k * d.sz) (d.enc x) :: I) X) : Ent n C e D L I X :=
  e_rd i hi (by omega) fun b o hA => e_elem 0 k rfl hk fun x hx a w kn s dd ho => h b o x hA hx a w kn s dd (by
    obtain ⟨h0, hI, m⟩ := ho
    exact ⟨h0, hI, m.sep, Facts.cons (m.facts _ List.mem_cons_self) (m.facts.sub fun φ hφ => by simp [hφ]), m.base, m.d1, m.d2, m.d3, m.l1, m.l2, m.l3, m.os, m.tape, m.output⟩)
theorem y_at {α : Type} {d : Ty α} {dd : Option Tmp} {x i : Operand} {t el : TypeId} {ty : TypeId} {pos : String} {aft : Array Edge} {g : Option (Nat × Bool)} {A : Option Addr} {b o c m : Nat} {z : Int} {ik : IntKind} {l : List α} (k : Nat) (hA : A = some ⟨b, o, none⟩) (hx : ev e x = some (.slice A m c)) (hm : m = l.length) (hz : ev e i = some (.int ik z)) (hk : z = (k : Int)) (hlt : k < l.length) (ht : P.underlying t = some (.slice el)) (hsz : P.cellsOf el = d.sz) (hin : (P.info? el).isSome = true) :
    Ys P e ⟨dd, .indexAddr t x i, ty, pos, aft, g⟩ (.pointer (some ⟨b, o + k * d.sz, none⟩)) := fun a w kn => by
  subst hk; subst hA; subst hm
  obtain ⟨inf, hin⟩ := Option.isSome_iff_exists.1 hin
  have hs : inf.size = d.sz := by simpa [Program.cellsOf, hin] using hsz
  have h1 : (sizeOf el).run P w = .ok d.sz w := by simp [sizeOf, typeInfo, hin, hs]
  simp only [execOp, kn.eval hx, kn.eval hz, Instr.indexAt, asIntOf, Sem.run_bind, Sem.run_pure, Result.andThen_ok, run_underlying ht]
  rw [if_pos ⟨by omega, by omega⟩]
  simp only [Sem.run_bind, h1, Result.andThen_ok, Sem.run_pure, Int.toNat_natCast, add_none]

/-! ### Cuts -/
theorem run_sb {P : Program} (w : World) (ik : IntKind) (k y : Nat) (code : BoundsCode) (h : k ≤ y) : (Instr.sliceBound (.int ik (k : Int)) y code).run P w = .ok k w := by
  simp only [Instr.sliceBound, asIntOf, Sem.run_bind, Sem.run_pure, Result.andThen_ok]
  rw [if_pos ⟨by omega, by omega⟩]
  simp
/-- A bound of a cut: what it is, or what stands for it. -/
inductive Bd (e : Env) (dflt : Nat) : Option Operand → Nat → Prop where
  | no : Bd e dflt none dflt
  | at {x : Operand} {ik : IntKind} {z : Int} (k : Nat) (h : ev e x = some (.int ik z)) (hz : z = (k : Int)) : Bd e dflt (some x) k
theorem Bd.run {a : Act} {w : World} (kn : Knows e a) {dflt r y : Nat} {x : Option Operand} (h : Bd e dflt x r) (hr : r ≤ y) (code : BoundsCode) : (match x.map a.eval with | some v => Instr.sliceBound v y code | none => pure dflt).run P w = .ok r w := by
  cases h with
  | no => simp
  | «at» k h hz => subst hz; simp only [Option.map_some, kn.eval h]; exact run_sb _ _ _ _ _ hr
theorem run_bounds {a : Act} {w : World} (kn : Knows e a) {isSlice : Bool} {len cap lo hi mx : Nat} {xl xh xm : Option Operand} (hl : Bd e 0 xl lo) (hh : Bd e len xh hi) (hm : Bd e cap xm mx) (h3 : xm.isSome = true → xh.isSome = true) (h0 : lo ≤ hi) (h1 : hi ≤ mx) (h2 : mx ≤ cap) :
    (Instr.sliceBounds isSlice len cap (xl.map a.eval) (xh.map a.eval) (xm.map a.eval)).run P w = .ok (lo, hi, mx) w := by
  unfold Instr.sliceBounds
  cases hm with
  | no =>
    cases hh with
    | no =>
      cases hl with
      | no => simp
      | «at» k h hz => subst hz; simp only [Option.map_some, Option.map_none, kn.eval h, Sem.run_bind, Sem.run_pure, Result.andThen_ok]; rw [run_sb _ _ _ _ _ (by omega)]; simp
    | «at» k h hz =>
      subst hz
      cases hl with
      | no => simp only [Option.map_some, Option.map_none, kn.eval h, Sem.run_bind, Sem.run_pure, Result.andThen_ok]; rw [run_sb _ _ _ _ _ (by omega)]; simp
      | «at» k2 h2' hz2 => subst hz2; simp only [Option.map_some, Option.map_none, kn.eval h, kn.eval h2', Sem.run_bind, Sem.run_pure, Result.andThen_ok]; rw [run_sb _ _ _ _ _ (by omega)]; simp only [Result.andThen_ok]; rw [run_sb _ _ _ _ _ (by omega)]; simp
  | «at» k3 h3' hz3 =>
    subst hz3
    cases hh with
    | no => simp at h3
    | «at» k h hz =>
      subst hz
      cases hl with
      | no => simp only [Option.map_some, Option.map_none, kn.eval h, kn.eval h3', Sem.run_bind, Sem.run_pure, Result.andThen_ok]; rw [run_sb _ _ _ _ _ (by omega)]; simp only [Result.andThen_ok]; rw [run_sb _ _ _ _ _ (by omega)]; simp
      | «at» k2 h2' hz2 => subst hz2; simp only [Option.map_some, Option.map_none, kn.eval h, kn.eval h2', kn.eval h3', Sem.run_bind, Sem.run_pure, Result.andThen_ok]; rw [run_sb _ _ _ _ _ (by omega)]; simp only [Result.andThen_ok]; rw [run_sb _ _ _ _ _ (by omega)]; simp only [Result.andThen_ok]; rw [run_sb _ _ _ _ _ (by omega)]; simp
/-- A cut of a text. -/
theorem y_cuts {dd : Option Tmp} {x : Operand} {xl xh : Option Operand} {t : TypeId} {ty : TypeId} {pos : String} {aft : Array Edge} {g : Option (Nat × Bool)} {s : ByteArray} (lo hi : Nat) (hx : ev e x = some (.string s)) (hl : Bd e 0 xl lo) (hh : Bd e s.size xh hi) (ht : P.underlying t = some .string) (h0 : lo ≤ hi) (h1 : hi ≤ s.size) :
    Ys P e ⟨dd, .slice t x xl xh none, ty, pos, aft, g⟩ (.string (s.extract lo hi)) := fun a w kn => by
  have hb := run_bounds (P := P) (w := w) kn (isSlice := false) (cap := s.size) hl hh (Bd.no) (by simp) h0 h1 (Nat.le_refl _)
  simp only [Option.map_none] at hb
  simp only [execOp, kn.eval hx, Instr.sliceAt, Instr.slice, Sem.run_bind, Sem.run_pure, Result.andThen_ok, run_underlying ht, Option.map_none, Option.isSome_none, Bool.false_eq_true, if_false, hb]
/-- A cut of a list: where it begins. -/
def cutA {α : Type} (d : Ty α) (A : Option Addr) (lo mx : Nat) : Option Addr := if mx = lo then A else A.map (·.add (lo * d.sz))
theorem y_cutl {α : Type} {d : Ty α} {dd : Option Tmp} {x : Operand} {xl xh xm : Option Operand} {t el : TypeId} {ty : TypeId} {pos : String} {aft : Array Edge} {g : Option (Nat × Bool)} {A : Option Addr} {m c : Nat} {l : List α} (lo hi mx : Nat) (hx : ev e x = some (.slice A m c)) (hm : m = l.length) (hl : Bd e 0 xl lo) (hh : Bd e m xh hi) (hmx : Bd e c xm mx) (h3 : xm.isSome = true → xh.isSome = true) (ht : P.underlying t = some (.slice el)) (hsz : P.cellsOf el = d.sz) (hin : (P.info? el).isSome = true) (h0 : lo ≤ hi) (h1 : hi ≤ l.length) (h2 : hi ≤ mx) (h4 : mx ≤ c) :
    Ys P e ⟨dd, .slice t x xl xh xm, ty, pos, aft, g⟩ (.slice (cutA d A lo mx) ((l.take hi).drop lo).length (mx - lo)) := fun a w kn => by
  subst hm
  have hb := run_bounds (P := P) (w := w) kn (isSlice := true) hl hh hmx h3 h0 h2 h4
  obtain ⟨inf, hin⟩ := Option.isSome_iff_exists.1 hin
  have hs : inf.size = d.sz := by simpa [Program.cellsOf, hin] using hsz
  have hlen : ((l.take hi).drop lo).length = hi - lo := by simp; omega
  simp only [execOp, kn.eval hx, Instr.sliceAt, Instr.slice, Sem.run_bind, Sem.run_pure, Result.andThen_ok, run_underlying ht, hb, hlen, sizeOf, typeInfo]
  simp [hin, hs, cutA]
/-- What the cut reads as. -/
theorem e_cut1 {α : Type} {d : Ty α} {A : Option Addr} {c : Nat} {l : List α} (i lo hi mx : Nat) (hi' : I[i]? = some (rd d A c l)) (h0 : lo ≤ hi) (h1 : hi ≤ l.length) (h2 : hi ≤ mx) (h : Ent n C e D L (rd d (cutA d A lo mx) (mx - lo) ((l.take hi).drop lo) :: I) X) : Ent n C e D L I X := fun a w kn s dd ho => by
  have hlen : ((l.take hi).drop lo).length = hi - lo := by simp; omega
  refine h a w kn s dd ?_
  obtain ⟨h0', hI, o⟩ := ho
  refine ⟨h0', hI, o.sep, Facts.cons (fun k hk => ?_) o.facts, o.base, o.d1, o.d2, o.d3, o.l1, o.l2, o.l3, o.os, o.tape, o.output⟩
  obtain ⟨q1, q2, q3⟩ := o.facts _ (List.mem_of_getElem? hi') k hk
  refine ⟨by omega, by omega, fun hp => ?_⟩
  obtain ⟨b, off, rfl, hc⟩ := q3 (by omega)
  refine ⟨b, off + lo * d.sz, ?_, ?_⟩
  · unfold cutA
    rw [if_neg (by omega)]
    simp [add_none]
  · refine hc.part (lo * d.sz) ((hi - lo) * d.sz) ?_
    rw [← d.cells_drop, ← d.cells_take, List.drop_take]
/-- Of one's own list a part that is read while it stands: none; but its head may be cut off for good. -/
theorem y_min2 {dd : Option Tmp} {x y : Operand} {ats : Array TypeId} {ty : TypeId} {pos : String} {aft : Array Edge} {g : Option (Nat × Bool)} (p q : Nat) (hx : ev e x = some (.int .i64 (p : Int))) (hy : ev e y = some (.int .i64 (q : Int))) :
    Ys P e ⟨dd, .call ⟨.builtin .min, [x, y].toArray, ats⟩, ty, pos, aft, g⟩ (.int .i64 ((min p q : Nat) : Int)) := fun a w kn => by
  have h1 : (if ((q : Int)) < (p : Int) then (q : Int) else (p : Int)) = ((min p q : Nat) : Int) := by split <;> omega
  simp only [execOp, resolve, Sem.run_bind, Sem.run_pure, Result.andThen_ok, List.map_toArray, List.map_cons, List.map_nil, kn.eval hx, kn.eval hy, invoke, builtin, Builtin.min_, Builtin.min2, List.foldlM_cons, List.foldlM_nil, h1]
theorem y_max2 {dd : Option Tmp} {x y : Operand} {ats : Array TypeId} {ty : TypeId} {pos : String} {aft : Array Edge} {g : Option (Nat × Bool)} (p q : Nat) (hx : ev e x = some (.int .i64 (p : Int))) (hy : ev e y = some (.int .i64 (q : Int))) :
    Ys P e ⟨dd, .call ⟨.builtin .max, [x, y].toArray, ats⟩, ty, pos, aft, g⟩ (.int .i64 ((max p q : Nat) : Int)) := fun a w kn => by
  have h1 : (if (p : Int) < (q : Int) then (q : Int) else (p : Int)) = ((max p q : Nat) : Int) := by split <;> omega
  simp only [execOp, resolve, Sem.run_bind, Sem.run_pure, Result.andThen_ok, List.map_toArray, List.map_cons, List.map_nil, kn.eval hx, kn.eval hy, invoke, builtin, Builtin.max_, Builtin.max2, List.foldlM_cons, List.foldlM_nil, h1]
end
end Go.Sl
/- Kinds of elements; windows on lists of the call's own; what is lent for a call; yields. -/
set_option linter.unusedVariables false
set_option linter.unusedSimpArgs false
namespace Go.Sl
open Go Go.RowKit

def strTy : Ty ByteArray := ⟨1, fun s => [.string s], fun _ => rfl, fun _ => rfl⟩
def intTy : Ty Int := ⟨1, fun z => [.int .i64 z], fun _ => rfl, fun _ => rfl⟩
def u8Ty : Ty UInt8 := ⟨1, fun z => [.int .u8 (z.toNat : Int)], fun _ => rfl, fun _ => rfl⟩
def u64Ty : Ty Nat := ⟨1, fun z => [.int .u64 (z : Int)], fun _ => rfl, fun _ => rfl⟩

/-! ### Windows -/
/-- Elements of the call's own, wherever they begin. -/
def win {α : Type} (d : Ty α) (T : TypeId) (A : Option Addr) (c : Nat) (l : List α) : Atom := fun h => l.length ≤ c ∧ c ≤ maxLen ∧ (0 < l.length → ∃ b o cur, A = some ⟨b, o, none⟩ ∧ h b = some (.cells cur T (0, 0)) ∧ ∀ j v, (d.cells l)[j]? = some v → cur[o + j]? = some v)
theorem win.reads {α : Type} {d : Ty α} {T : TypeId} {A : Option Addr} {c : Nat} {l : List α} {h : Hp} (a : win d T A c l h) : rd d A c l h := by
  obtain ⟨h1, h2, h3⟩ := a
  refine ⟨h1, by simp only [maxLen] at h2; omega, fun hp => ?_⟩
  obtain ⟨b, o, cur, hA, hb, hc⟩ := h3 hp
  exact ⟨b, o, hA, cur, T, (0, 0), hb, hc⟩
theorem ars.win {α : Type} {d : Ty α} {T : TypeId} {A : Option Addr} {c : Nat} {l : List α} {h : Hp} (a : ars d T A c l h) : win d T A c l h := by
  rcases a with ⟨rfl, rfl, rfl⟩ | ⟨b, cur, rfl, hb, hl, hm, hs, ht⟩
  · exact ⟨Nat.le_refl _, by simp [maxLen], fun h => absurd h (by simp)⟩
  · refine ⟨hl, hm, fun _ => ⟨b, 0, cur, rfl, hb, fun j v hj => ?_⟩⟩
    rw [← ht, List.getElem?_take] at hj
    split at hj
    · simpa using hj
    · cases hj
theorem win.cut {α : Type} {d : Ty α} {T : TypeId} {A : Option Addr} {c lo hi mx : Nat} {l : List α} {h : Hp} (h0 : lo ≤ hi) (h1 : hi ≤ l.length) (h2 : hi ≤ mx) (h4 : mx ≤ c) (a : win d T A c l h) : win d T (cutA d A lo mx) (mx - lo) ((l.take hi).drop lo) h := by
  have hlen : ((l.take hi).drop lo).length = hi - lo := by simp; omega
  obtain ⟨q1, q2, q3⟩ := a
  refine ⟨by omega, by omega, fun hp => ?_⟩
  obtain ⟨b, o, cur, rfl, hb, hc⟩ := q3 (by omega)
  refine ⟨b, o + lo * d.sz, cur, ?_, hb, fun j v hj => ?_⟩
  · unfold cutA
    rw [if_neg (by omega)]
    simp [add_none]
  · have e1 : ((d.cells l).drop (lo * d.sz)).take ((hi - lo) * d.sz) = d.cells ((l.take hi).drop lo) := by rw [← d.cells_drop, ← d.cells_take, List.drop_take]
    rw [← e1, List.getElem?_take] at hj
    split at hj
    · rw [Nat.add_assoc]; exact hc _ v (by simpa using hj)
    · cases hj
theorem over_get : ∀ (vs cs : List Value) (p q : Nat), p + vs.length ≤ cs.length → (over cs p vs)[q]? = if p ≤ q ∧ q < p + vs.length then vs[q - p]? else cs[q]?
  | [], cs, p, q, h => by
    simp only [over, List.length_nil, Nat.add_zero]
    rw [if_neg (by omega)]
  | v :: vs, cs, p, q, h => by
    simp only [List.length_cons] at h
    rw [over, over_get vs (cs.set p v) (p + 1) q (by simp; omega)]
    by_cases h1 : p + 1 ≤ q ∧ q < p + 1 + vs.length
    · rw [if_pos h1, if_pos (by simp; omega), show q - p = (q - (p + 1)) + 1 from by omega]
      simp
    · rw [if_neg h1]
      by_cases h2 : q = p
      · subst h2
        rw [if_pos (by simp)]
        simp [show q < cs.length from by omega]
      · rw [if_neg (by simp; omega), List.getElem?_set_ne (fun e => h2 e.symm)]
theorem Ty.cells_set {α : Type} (d : Ty α) (l : List α) (k : Nat) (x : α) (hk : k < l.length) : d.cells (l.set k x) = over (d.cells l) (k * d.sz) (d.enc x) := by
  have e1 : l.set k x = l.take k ++ [x] ++ l.drop (k + 1) := by rw [List.set_eq_take_append_cons_drop, if_pos hk]; simp
  have e2 := d.cells_length (l.take k)
  have e4 : d.cells [x] = d.enc x := by simp [Ty.cells]
  have hlk : (l.take k).length = k := by simp; omega
  have hmul : (k + 1) * d.sz ≤ l.length * d.sz := Nat.mul_le_mul_right _ hk
  have hm2 : (k + 1) * d.sz = k * d.sz + d.sz := by rw [Nat.add_mul, Nat.one_mul]
  apply List.ext_getElem?
  intro j
  rw [over_get _ _ _ _ (by rw [d.len, d.cells_length]; omega), e1, d.cells_append, d.cells_append, e4, d.len]
  rw [hlk] at e2
  by_cases h1 : j < k * d.sz
  · rw [if_neg (by omega), List.append_assoc, List.getElem?_append_left (by omega), d.cells_take, List.getElem?_take, if_pos h1]
  · by_cases h2 : j < k * d.sz + d.sz
    · rw [if_pos (by omega), List.append_assoc, List.getElem?_append_right (by omega), List.getElem?_append_left (by rw [d.len]; omega), e2]
    · rw [if_neg (by omega), List.getElem?_append_right (by simp only [List.length_append, e2, d.len]; omega), d.cells_drop, List.getElem?_drop]
      congr 1
      simp only [List.length_append, e2, d.len]; omega

/-! ### What is lent -/
def Lends (A φ : Atom) : Prop := ∀ h k, A h → le h k → φ k
inductive Lent : List Atom → List Atom → Prop where
  | nil : Lent [] []
  | cons {A φ : Atom} {As φs : List Atom} (h : Lends A φ) (r : Lent As φs) : Lent (A :: As) (φ :: φs)
theorem rd.up {α : Type} {d : Ty α} {A : Option Addr} {c : Nat} {l : List α} {h k : Hp} (a : rd d A c l h) (hl : le h k) : rd d A c l k := by
  obtain ⟨q1, q2, q3⟩ := a
  refine ⟨q1, q2, fun hp => ?_⟩
  obtain ⟨b, off, hA, cur, T', fr, hb, hc⟩ := q3 hp
  exact ⟨b, off, hA, cur, T', fr, hl _ _ hb, hc⟩
theorem lend_ars {α : Type} {d : Ty α} {T : TypeId} {A : Option Addr} {c : Nat} {l : List α} : Lends (ars d T A c l) (rd d A c l) := fun h k a hl => a.reads.up hl
theorem lend_win {α : Type} {d : Ty α} {T : TypeId} {A : Option Addr} {c : Nat} {l : List α} : Lends (win d T A c l) (rd d A c l) := fun h k a hl => a.reads.up hl
theorem lend_pt {b T : Nat} {cs : List Value} : Lends (pt b cs T) (cellsAt b 0 cs) := fun h k a hl => ⟨cs.toArray, T, (0, 0), hl _ _ a, fun j v hj => by simpa using hj⟩
theorem Lent.facts : ∀ {Ms Fs : List Atom} {h : Hp}, Lent Ms Fs → Sep Ms h → Facts Fs h
  | _, _, _, .nil, _ => Facts.nil _
  | _, _, _, .cons hl r, ⟨h1, h2, d, l1, l2, a, s⟩ => Facts.cons (fun k hk => hl h1 k a (l1.trans hk)) ((r.facts s).up l2)

section
variable {n : Nat} {C : Ctx} {e : Env} {D : List Deferred} {L I : List Atom} {P : Program} {ro : Option Nat} {Q : Exit → Act → World → Prop} {K X : Act → World → Prop}

theorem Own.lent {w : World} {Ml L1 Lf Lr Fl If : List Atom} {lx ix : List Nat} (o : Own C L I w) (hl : pull L lx = some (Ml, L1)) (hp : pull L1 ix = some (Lf, Lr)) (hr : Lent Ml Fl) (hI : ∀ φ ∈ If, φ ∈ I) :
    ∃ C' : Ctx, Own C' Lf (Fl ++ If) w ∧ ∀ w' L', Own C' L' (Fl ++ If) w' → Own C (L' ++ (Ml ++ Lr)) I w' := by
  obtain ⟨h, hI0, o⟩ := o
  obtain ⟨h1, h2, d, l1, l2, s1, s2⟩ := Sep.pull hl o.sep
  obtain ⟨k1, k2, d', m1, m2, t1, t2⟩ := Sep.pull hp s2
  have a1 : apart h1 hI0 := o.d1.mono_left l1
  have a2 : apart h2 hI0 := o.d1.mono_left l2
  have lI : le (both hI0 h1) (hpOf w) := both_le o.l2 (l1.trans o.l1)
  have r2 : apart k2 C.R := o.d2.mono_left (m2.trans l2)
  refine ⟨⟨C.w0, both k2 C.R, both hI0 h1⟩, ⟨k1, both hI0 h1, t1, ?_, le.refl _, ?_, ?_, ?_, m1.trans (l2.trans o.l1), lI, both_le (m2.trans (l2.trans o.l1)) o.l3, o.os, o.tape, o.output⟩, ?_⟩
  · exact Facts.append ((hr.facts s1).up (le_both_right a1.symm)) ((o.facts.sub hI).up (le_both_left _ _))
  · exact apart_both' (a2.mono_left m1) (d.symm.mono_left m1)
  · exact apart_both' d' (o.d2.mono_left (m1.trans l2))
  · exact apart_both (apart_both' (a2.mono_left m2).symm o.d3) (apart_both' (d.mono_right m2) (o.d2.mono_left l1))
  · rintro w' L' ⟨k, kI, m⟩
    have b1 : le hI0 kI := (le_both_left _ _).trans m.base
    have b2 : le h1 kI := (le_both_right a1.symm).trans m.base
    have c1 : apart k hI0 := m.d1.mono_right b1
    have c2 : apart k h1 := m.d1.mono_right b2
    have c3 : apart k k2 := m.d2.mono_right (le_both_left _ _)
    have c4 : apart k C.R := m.d2.mono_right (le_both_right r2)
    have c5 : apart h1 k2 := d.mono_right m2
    have lR : le (both k2 C.R) (hpOf w') := m.l3
    refine ⟨both k (both h1 k2), hI0, Sep.join (apart_both' c2 c3) m.sep (Sep.join c5 s1 t2), o.facts, o.base, apart_both c1 (apart_both a1 (a2.mono_left m2)), apart_both c4 (apart_both (o.d2.mono_left l1) r2), o.d3, both_le m.l1 (both_le (b2.trans m.l2) ((le_both_left _ _).trans lR)), b1.trans m.l2, (le_both_right r2).trans lR, m.os, m.tape, m.output⟩

/-- A call that reads what is lent to it. -/
theorem o_lend {dt : Tmp} {fo : Operand} {xs : List Operand} {ats : Array TypeId} {ty : TypeId} {pos : String} {aft : Array Edge} {g : Option (Nat × Bool)} {f : FuncId} {fst cap vals args : List Value} {Ml L1 Lf Lr Fl If Ia : List Atom} {post : Value → List Atom → List Atom → Prop}
    (lx ix jx : List Nat) (spec : Con P f args Lf Ia post) (hr : Lent Ml Fl) (hx : ev e fo = some (.func (.func f) fst.toArray cap.toArray)) (hv : evs e xs = some vals) (ha : fst ++ vals ++ cap = args) (hl : pull L lx = some (Ml, L1)) (hp : pull L1 ix = some (Lf, Lr)) (hI : picks I jx = some If) (hIa : Ia = Fl ++ If) (hd : Nat.blt dt n = true)
    (h : ∀ v L' I', post v L' I' → I' = [] ∧ Ent n C ((dt, v) :: e) D (L' ++ (Ml ++ Lr)) I K) : Ent n C e D L I (ow ro P ⟨some dt, .call ⟨.value fo, xs.toArray, ats⟩, ty, pos, aft, g⟩ Q K) :=
  fun a w k s d ho => by
    subst hIa
    obtain ⟨C', o1, back⟩ := ho.lent hl hp hr (picks_mem hI)
    have hval := k.evals hv
    have hrun : (execOp a.eval ⟨some dt, .call ⟨.value fo, xs.toArray, ats⟩, ty, pos, aft, g⟩).run P w = .ok (.enter f args.toArray) w := by
      have h1 : (xs.toArray.map a.eval) = vals.toArray := by rw [List.map_toArray, hval]
      simp only [execOp, resolve, h1, k.eval hx, Deferred.ofValue, Sem.run_bind, Sem.run_pure, Result.andThen_ok, invoke]
      rw [← ha]
      simpa using run_callFunc (P := P) spec.1 (fst.toArray ++ vals.toArray ++ cap.toArray) w
    refine ow_enter (by simp) hrun (spec.2 C' w o1) ?_
    rintro v w'' ⟨L', I', hq, ho'⟩
    have hlt : dt < a.tmps.size := by rw [s]; simpa using hd
    obtain ⟨rfl, h⟩ := h v L' I' hq
    exact h _ _ (k.put hlt) (by simp [Act.put, s]) (by simpa [Act.put] using d) (back _ _ ho')

/-! ### Atoms in other words -/
theorem e_weak {A B : Atom} (i : Nat) (hi : L[i]? = some A) (hw : ∀ h, A h → B h) (h : Ent n C e D (L.set i B) I X) : Ent n C e D L I X := fun a w kn s dd ho => by
  obtain ⟨h0, hI, o⟩ := ho
  obtain ⟨h1, h2, ap, l1, l2, ha, hs⟩ := Sep.take i hi o.sep
  exact h a w kn s dd ⟨h0, hI, Sep.put i hi ap l1 l2 (hw _ ha) hs, o.facts, o.base, o.d1, o.d2, o.d3, o.l1, o.l2, o.l3, o.os, o.tape, o.output⟩
/-- What an atom says of the plain data. -/
theorem e_know {A : Atom} {p : Prop} (i : Nat) (hi : L[i]? = some A) (hw : ∀ h, A h → p) (h : p → Ent n C e D L I X) : Ent n C e D L I X := fun a w kn s dd ho => by
  obtain ⟨h1, _, hA⟩ := ho.atom i hi
  exact h (hw _ hA) a w kn s dd ho
theorem ars.lens {α : Type} {d : Ty α} {T : TypeId} {A : Option Addr} {c : Nat} {l : List α} (h : Hp) (a : ars d T A c l h) : l.length ≤ c ∧ c ≤ maxLen := by
  rcases a with ⟨rfl, rfl, rfl⟩ | ⟨b, cur, rfl, hb, hl, hm, hs, ht⟩
  · exact ⟨Nat.le_refl _, by simp [maxLen]⟩
  · exact ⟨hl, hm⟩
theorem win.lens {α : Type} {d : Ty α} {T : TypeId} {A : Option Addr} {c : Nat} {l : List α} (h : Hp) (a : win d T A c l h) : l.length ≤ c ∧ c ≤ maxLen := ⟨a.1, a.2.1⟩
/-- A window that is written no more. -/
theorem e_stillw {α : Type} {d : Ty α} {T : TypeId} {A : Option Addr} {c : Nat} {l : List α} (i : Nat) (hi : L[i]? = some (win d T A c l)) (h : Ent n C e D (L.eraseIdx i) (rd d A c l :: I) X) : Ent n C e D L I X := fun a w kn s dd ho => by
  obtain ⟨h0, hI, o⟩ := ho
  obtain ⟨h1, h2, ap, l1, l2, ha, hs⟩ := Sep.take i hi o.sep
  refine h a w kn s dd ⟨h2, both hI h1, hs, Facts.cons (fun k hk => ?_) (o.facts.up (le_both_left _ _)), o.base.trans (le_both_left _ _), apart_both' (o.d1.mono_left l2) ap.symm, o.d2.mono_left l2, apart_both o.d3 (o.d2.mono_left l1), l2.trans o.l1, both_le o.l2 (l1.trans o.l1), o.l3, o.os, o.tape, o.output⟩
  exact ha.reads.up ((le_both_right ((o.d1.mono_left l1).symm)).trans hk)
/-- Where a window begins. -/
theorem e_winb {α : Type} {d : Ty α} {T : TypeId} {A : Option Addr} {c : Nat} {l : List α} (i : Nat) (hi : L[i]? = some (win d T A c l)) (hne : 0 < l.length) (h : ∀ b o, A = some ⟨b, o, none⟩ → Ent n C e D L I X) : Ent n C e D L I X := fun a w kn s dd ho => by
  obtain ⟨h1, _, hA⟩ := ho.atom i hi
  obtain ⟨b, o, cur, hA, _, _⟩ := hA.2.2 hne
  exact h b o hA a w kn s dd ho
/-- An element of a window, read. -/
theorem o_ldw {α : Type} {d : Ty α} {T : TypeId} {A : Option Addr} {c b o j : Nat} {l : List α} {dt : Tmp} {x : Operand} {t : TypeId} {ty : TypeId} {pos : String} {aft : Array Edge} {g : Option (Nat × Bool)} {v : Value} {dd : TypeDesc} {y : α} (i k : Nat) (hi : L[i]? = some (win d T A c l)) (hA : A = some ⟨b, o, none⟩) (hk : l[k]? = some y)
    (hx : ev e x = some (.pointer (some ⟨b, o + k * d.sz + j, none⟩))) (hv : (d.enc y)[j]? = some v) (hu : P.underlying t = some dd) (ha : aggD dd = false) (hd : Nat.blt dt n = true)
    (h : Ent n C ((dt, v) :: e) D L I K) : Ent n C e D L I (ow ro P ⟨some dt, .load t x, ty, pos, aft, g⟩ Q K) :=
  ow_pure rfl hd (by simp) (fun a w kn ho => by
    obtain ⟨h1, hl, q1, q2, q3⟩ := ho.atom i hi
    obtain ⟨b', o', cur, hA', hb, hc⟩ := q3 (by have := (List.getElem?_eq_some_iff.1 hk).1; omega)
    rw [hA] at hA'
    simp only [Option.some.injEq, Addr.mk.injEq] at hA'
    obtain ⟨rfl, rfl, _⟩ := hA'
    have h2 : (d.cells l)[k * d.sz + j]? = some v := by
      have := d.cells_at hk
      rw [← this, List.getElem?_take] at hv
      split at hv
      · simpa using hv
      · cases hv
    have hcell : w.cell? ⟨b, o + k * d.sz + j, none⟩ = some v := by
      rw [cell_of (hl _ _ hb), Nat.add_assoc]; exact hc _ v h2
    have hr := run_load1 (P := P) hu ha hcell
    simp only [execOp, kn.eval hx, Sem.run_bind, hr, Result.andThen_ok, Sem.run_pure]) h
/-- An element of a window, written. -/
theorem o_stw {α : Type} {d : Ty α} {T : TypeId} {A : Option Addr} {c b o : Nat} {l : List α} {x y : Operand} {t : TypeId} {ty : TypeId} {pos : String} {aft : Array Edge} {g : Option (Nat × Bool)} {v : Value} (i k : Nat) (z : α) (hi : L[i]? = some (win d T A c l)) (hA : A = some ⟨b, o, none⟩) (hk : k < l.length)
    (hx : ev e x = some (.pointer (some ⟨b, o + k * d.sz, none⟩))) (hy : ev e y = some v) (hv : v.cells.toList = d.enc z) (hsz : P.cellsOf t = d.sz) (hin : (P.info? t).isSome = true) (hpos : Nat.blt 0 d.sz = true)
    (h : Ent n C e D (L.set i (win d T A c (l.set k z))) I K) : Ent n C e D L I (ow ro P ⟨none, .store t x y, ty, pos, aft, g⟩ Q K) :=
  fun a w kn s dd ho => by
    obtain ⟨h0, hI, m⟩ := ho
    obtain ⟨h1, h2, ap, s1, s2, hw, hs⟩ := Sep.take i hi m.sep
    obtain ⟨q1, q2, q3⟩ := hw
    obtain ⟨b', o', cur, hA', hb, hc⟩ := q3 (by omega)
    rw [hA] at hA'
    simp only [Option.some.injEq, Addr.mk.injEq] at hA'
    obtain ⟨rfl, rfl, _⟩ := hA'
    have hpos' : 0 < d.sz := by simpa using hpos
    have hkm : (k + 1) * d.sz ≤ l.length * d.sz := Nat.mul_le_mul_right _ hk
    have hk1 : (k + 1) * d.sz = k * d.sz + d.sz := by rw [Nat.add_mul, Nat.one_mul]
    have hcl := d.cells_length l
    have hfit : o + k * d.sz + (d.enc z).length ≤ cur.toList.length := by
      rw [d.len]
      have hlast : (d.cells l)[l.length * d.sz - 1]? = some ((d.cells l)[l.length * d.sz - 1]'(by omega)) := List.getElem?_eq_getElem _
      have := hc _ _ hlast
      have := (Array.getElem?_eq_some_iff.1 this).1
      simp only [Array.length_toList]
      omega
    have hwb : w.heap[b]? = some (.cells cur.toList.toArray T (0, 0)) := m.l1 _ _ (s1 _ _ hb)
    have hr := run_store_pt (P := P) (t := t) (o := o + k * d.sz) hwb hv (by rw [hsz, d.len]) hin (d.one z) hfit
    have hone : Own C (ob b (.cells cur T (0, 0)) :: L.eraseIdx i) I w := by
      refine ⟨h0, hI, ⟨h1, h2, ap, s1, s2, hb, hs⟩, m.facts, m.base, m.d1, m.d2, m.d3, m.l1, m.l2, m.l3, m.os, m.tape, m.output⟩
    obtain ⟨ho', _⟩ := write_own (y := .cells (over cur.toList (o + k * d.sz) (d.enc z)).toArray T (0, 0)) hone 0 rfl
    refine ow_skip (by simp) (w' := { w with heap := w.heap.setIfInBounds b (.cells (over cur.toList (o + k * d.sz) (d.enc z)).toArray T (0, 0)) }) (by simp only [execOp, kn.eval hx, kn.eval hy, Sem.run_bind, hr, Result.andThen_ok, Sem.run_pure]) ?_
    refine h a _ kn s dd ?_
    obtain ⟨g0, gI, m'⟩ := ho'
    obtain ⟨g1, g2, ap', t1, t2, hb', hs'⟩ := m'.sep
    refine ⟨g0, gI, Sep.put i hi ap' t1 t2 ?_ hs', m'.facts, m'.base, m'.d1, m'.d2, m'.d3, m'.l1, m'.l2, m'.l3, m'.os, m'.tape, m'.output⟩
    refine ⟨by simpa using q1, q2, fun _ => ⟨b, o, _, hA, hb', fun j u hj => ?_⟩⟩
    rw [d.cells_set l k z hk, over_get _ _ _ _ (by rw [d.len, hcl]; omega)] at hj
    simp only [List.getElem?_toArray]
    rw [over_get _ _ _ _ hfit]
    simp only [d.len] at hj ⊢
    by_cases hin2 : k * d.sz ≤ j ∧ j < k * d.sz + d.sz
    · rw [if_pos hin2] at hj
      rw [if_pos (by omega), show o + j - (o + k * d.sz) = j - k * d.sz from by omega]
      exact hj
    · rw [if_neg hin2] at hj
      rw [if_neg (by omega)]
      have := hc j u hj
      simpa using this

/-! ### Yields -/
theorem o_yield {dt : Tmp} {fo : Operand} {xs : List Operand} {ats : Array TypeId} {ty : TypeId} {pos : String} {aft : Array Edge} {g : Option (Nat × Bool)} {l : Nat} {vs : List Value} {post : Bool → States} (M Lx Ix : List Atom)
    (hy : Yl P l vs Lx Ix post) (hx : ev e fo = some (.func (.yield l) #[] #[])) (hv : evs e xs = some vs) (hL : L = M ++ Lx) (hI : ∀ φ ∈ Ix, φ ∈ I) (hd : Nat.blt dt n = true)
    (h : ∀ b L' I', post b L' I' → Ent n C ((dt, .bool b) :: e) D (M ++ L') (I' ++ I) K) : Ent n C e D L I (ow ro P ⟨some dt, .call ⟨.value fo, xs.toArray, ats⟩, ty, pos, aft, g⟩ Q K) :=
  fun a w k s d ho => by
    subst hL
    have hval := k.evals hv
    obtain ⟨h0, hI0, m⟩ := ho
    obtain ⟨h1, h2, ap, l1, l2, s1, s2⟩ := Sep.append m.sep
    have d2' : apart h1 C.R := m.d2.mono_left l1
    have o1 : Own ⟨C.w0, both h1 C.R, hI0⟩ Lx Ix w := ⟨h2, hI0, s2, m.facts.sub hI, le.refl _, m.d1.mono_left l2, apart_both' ap.symm (m.d2.mono_left l2), apart_both' (m.d1.mono_left l1).symm m.d3, l2.trans m.l1, m.l2, both_le (l1.trans m.l1) m.l3, m.os, m.tape, m.output⟩
    obtain ⟨fn, tmps, assign, body, hrun, hround⟩ := hy _ w o1
    have hrun' : (execOp a.eval ⟨some dt, .call ⟨.value fo, xs.toArray, ats⟩, ty, pos, aft, g⟩).run P w = .ok (.round l fn tmps assign body) w := by
      have h1 : (xs.toArray.map a.eval) = vs.toArray := by rw [List.map_toArray, hval]
      simp only [execOp, resolve, h1, k.eval hx, Deferred.ofValue, Sem.run_bind, Sem.run_pure, Result.andThen_ok, invoke]
      simpa using hrun
    refine ⟨fun f _ => fen_fn ro f, ?_⟩
    rw [Oper.semAt_eq _ _ _ (by simp), hrun']
    have hround' : ∀ R, RoundIn Fence.wide 0 P l fn tmps assign body w R → RoundIn (fen ro) 0 P l fn tmps assign body w R := fun R hR => by
      cases ro with
      | none => exact hR
      | some r => exact hR
    refine ⟨fen_depth' ro _, (hround' _ hround).mono ?_⟩
    rintro x w'' ⟨b, rfl, L', I', hq, k', kI, mm⟩
    have hlt : dt < a.tmps.size := by rw [s]; simpa using hd
    have hb : le h1 (both h1 C.R) := le_both_left _ _
    have hR : le C.R (both h1 C.R) := le_both_right d2'
    refine h b L' I' hq _ _ (k.put hlt) (by simp [Act.put, s]) (by simpa [Act.put] using d) ?_
    refine ⟨both h1 k', kI, Sep.join (mm.d2.mono_right hb).symm s1 mm.sep, Facts.append mm.facts (m.facts.up mm.base), m.base.trans mm.base, apart_both (mm.d3.mono_right hb).symm mm.d1, apart_both d2' (mm.d2.mono_right hR), mm.d3.mono_right hR, both_le (hb.trans mm.l3) mm.l1, mm.l2, hR.trans mm.l3, mm.os, mm.tape, mm.output⟩
end
end Go.Sl
/- A round's end with less; contracts with more facts. -/
set_option linter.unusedVariables false
set_option linter.unusedSimpArgs false
namespace Go.Sl
open Go Go.RowKit
/-! Texts, the same or not. -/
theorem str_inj {x y : ByteArray} (h : x.toList = y.toList) : x = y := by
  rw [ByteArray.toList_eq, ByteArray.toList_eq] at h
  exact ByteArray.ext (Array.toList_inj.1 h)
theorem str_t {x y : ByteArray} (h : x = y) : (x.toList == y.toList) = true := by rw [h]; exact beq_self_eq_true _
theorem str_f {x y : ByteArray} (h : ¬ x = y) : (x.toList == y.toList) = false := beq_eq_false_iff_ne.2 fun e => h (str_inj e)
theorem str_nt {x y : ByteArray} (h : x = y) : (!(x.toList == y.toList)) = false := by rw [str_t h]; rfl
theorem str_nf {x y : ByteArray} (h : ¬ x = y) : (!(x.toList == y.toList)) = true := by rw [str_f h]; rfl
theorem pullAll : ∀ L : List Atom, pull L (List.replicate L.length 0) = some (L, [])
  | [] => rfl
  | A :: L => by
    show pull (A :: L) (0 :: List.replicate L.length 0) = _
    unfold pull
    simp only [List.getElem?_cons_zero, List.eraseIdx_cons_zero]
    rw [pullAll L]
section
variable {n : Nat} {C : Ctx} {e : Env} {D : List Deferred} {L I : List Atom} {P : Program} {ro : Option Nat} {Q : Exit → Act → World → Prop} {K X : Act → World → Prop}
theorem c_next {ι : Type} {ok : ι → Prop} {E : ι → Env} {LL II : ι → List Atom} {m : ι → Nat} {i : ι} {Lr : List Atom} (ix jx : List Nat) (j : ι) (hj : ok j) (hm : m j < m i) (hE : Cov e (E j)) (hp : pull L ix = some (LL j, Lr)) (hI : picks I jx = some (II j)) :
    Ent n C e D L I (Again n C D ok E LL II m i) :=
  fun a w k s d o => ⟨j, hj, hm, hE.knows k, s, d, o.sub hp (picks_mem hI)⟩
/-- A loop, begun with less. -/
theorem c_loopn {c : Code} {ι : Type} {Lr : List Atom} (ok : ι → Prop) (E : ι → Env) (LL II : ι → List Atom) (m : ι → Nat) (i0 : ι) (ix jx : List Nat) (h0 : ok i0) (hE : Cov e (E i0)) (hp : pull L ix = some (LL i0, Lr)) (hI : picks I jx = some (II i0))
    (round : ∀ i, ok i → Ent n C (E i) D (LL i) (II i) (cw ro P c (Exit.then (Again n C D ok E LL II m i) Q))) :
    Ent n C e D L I (cw ro P (.loop c) Q) := 
  fun a w kn s d ho => c_loop0 ok E LL II m i0 h0 (fun _ h => h) rfl (fun _ h => h) round a w (hE.knows kn) s d (ho.sub hp (picks_mem hI))
/-- More facts than are asked for. -/
theorem Con.wide {f : FuncId} {args : List Value} {L I I2 : List Atom} {post : Value → List Atom → List Atom → Prop} (h : Con P f args L I post) (hI : ∀ φ ∈ I, φ ∈ I2) : Con P f args L I2 post :=
  ⟨h.1, fun C w o => by
    obtain ⟨C', o1, back⟩ := o.handed (pullAll L) hI
    exact (h.2 C' w o1).mono fun x w' ⟨v, hv, L', I', hq, ho⟩ => ⟨v, hv, L', I', hq, by simpa using back _ _ _ ho⟩⟩
/-! A guard that was itself passed over. -/
theorem yielded_undef {ops : Array Oper} {j : Nat} {t : Tmp} {a : Act} (ht : (ops[j]?).bind (·.dst) = some t) (k : Knows e a) (hv : lk e t = some undef) : yielded ops a.tmps j = none := by
  unfold yielded
  rw [ht]
  simp only [Option.bind_some, k t _ hv]
  rfl
theorem st_offu {ops : Array Oper} {o : Oper} {rest : List Oper} {j : Nat} {b : Bool} {dt : Tmp} (t : Tmp) (hg : o.guard = some (j, b)) (ht : (ops[j]?).bind (·.dst) = some t) (hv : lk e t = some undef) (hdst : o.dst = some dt) (hd : Nat.blt dt n = true)
    (h : Ent n C ((dt, undef) :: e) D L I (lw ro P ops Q rest)) : Ent n C e D L I (lw ro P ops Q (o :: rest)) :=
  fun a w k s d ho => by
    show wpListIn _ _ _ _ _ (o :: rest) a w
    unfold wpListIn
    rw [if_neg (by simp [Region.wanted, hg, yielded_undef ht k hv])]
    refine ⟨fun f _ => fen_fn ro f, ?_⟩
    have hlt : dt < a.tmps.size := by rw [s]; simpa using hd
    rw [hdst]
    exact h _ w (k.put hlt) (by simp [Act.put, s]) (by simpa [Act.put] using d) ho
theorem st_offu' {ops : Array Oper} {o : Oper} {rest : List Oper} {j : Nat} {b : Bool} (t : Tmp) (hg : o.guard = some (j, b)) (ht : (ops[j]?).bind (·.dst) = some t) (hv : lk e t = some undef) (hdst : o.dst = none)
    (h : Ent n C e D L I (lw ro P ops Q rest)) : Ent n C e D L I (lw ro P ops Q (o :: rest)) :=
  fun a w k s d ho => by
    show wpListIn _ _ _ _ _ (o :: rest) a w
    unfold wpListIn
    rw [if_neg (by simp [Region.wanted, hg, yielded_undef ht k hv])]
    refine ⟨fun f _ => fen_fn ro f, ?_⟩
    rw [hdst]
    exact h a w k s d ho
theorem a_offu {ops : Array Oper} {H : List (Addr × Value)} {ds : List Nat} {k : Nat} {l : Array Bool} {i j : Nat} {b : Bool} {o : Oper} {dt : Tmp} (t : Tmp) (l' : Array Bool) (hi : ops[i]? = some o) (hc : pureB ops l l' i = true) (hg : o.guard = some (j, b)) (ht : (ops[j]?).bind (·.dst) = some t) (hv : lk e t = some undef) (hdst : o.dst = some dt) (hd : Nat.blt dt n = true)
    (h : Ent n C ((dt, undef) :: e) D L I (aw ro P ops H ds X k l')) : Ent n C e D L I (aw ro P ops H ds X (k + 1) l) := fun a w kn s d ho => by
  simp only [pureB, Bool.and_eq_true, beq_iff_eq] at hc
  obtain ⟨⟨⟨h1, h2⟩, h3⟩, rfl⟩ := hc
  have hlt : dt < a.tmps.size := by rw [s]; simpa using hd
  refine any_pure h1 hi k l a w (Region.free_spec hi h2) (by simpa using h3) (.inr ⟨by simp [Region.wanted, hg, yielded_undef ht kn hv], rfl⟩) ?_
  rw [hdst]
  exact h _ w (kn.put hlt) (by simp [Act.put, s]) (by simpa [Act.put] using d) ho
theorem a_offu' {ops : Array Oper} {H : List (Addr × Value)} {ds : List Nat} {k : Nat} {l : Array Bool} {i j : Nat} {b : Bool} {o : Oper} (t : Tmp) (l' : Array Bool) (hi : ops[i]? = some o) (hc : pureB ops l l' i = true) (hg : o.guard = some (j, b)) (ht : (ops[j]?).bind (·.dst) = some t) (hv : lk e t = some undef) (hdst : o.dst = none)
    (h : Ent n C e D L I (aw ro P ops H ds X k l')) : Ent n C e D L I (aw ro P ops H ds X (k + 1) l) := fun a w kn s d ho => by
  simp only [pureB, Bool.and_eq_true, beq_iff_eq] at hc
  obtain ⟨⟨⟨h1, h2⟩, h3⟩, rfl⟩ := hc
  refine any_pure h1 hi k l a w (Region.free_spec hi h2) (by simpa using h3) (.inr ⟨by simp [Region.wanted, hg, yielded_undef ht kn hv], rfl⟩) ?_
  rw [hdst]
  exact h a w kn s d ho
/-! Cuts, the list in other words. -/
theorem y_cut {α : Type} {d : Ty α} {dd : Option Tmp} {x : Operand} {xl xh xm : Option Operand} {t el : TypeId} {ty : TypeId} {pos : String} {aft : Array Edge} {g : Option (Nat × Bool)} {A : Option Addr} {m c : Nat} {l l2 : List α} (lo hi mx : Nat) (h2' : (l.take hi).drop lo = l2) (hx : ev e x = some (.slice A m c)) (hm : m = l.length) (hl : Bd e 0 xl lo) (hh : Bd e m xh hi) (hmx : Bd e c xm mx) (h3 : xm.isSome = true → xh.isSome = true) (ht : P.underlying t = some (.slice el)) (hsz : P.cellsOf el = d.sz) (hin : (P.info? el).isSome = true) (h0 : lo ≤ hi) (h1 : hi ≤ l.length) (h2 : hi ≤ mx) (h4 : mx ≤ c) :
    Ys P e ⟨dd, .slice t x xl xh xm, ty, pos, aft, g⟩ (.slice (cutA d A lo mx) l2.length (mx - lo)) := by
  subst h2'
  exact y_cutl lo hi mx hx hm hl hh hmx h3 ht hsz hin h0 h1 h2 h4
theorem e_cut2 {α : Type} {d : Ty α} {A : Option Addr} {c : Nat} {l l2 : List α} (i lo hi mx : Nat) (h2' : (l.take hi).drop lo = l2) (hi' : I[i]? = some (rd d A c l)) (h0 : lo ≤ hi) (h1 : hi ≤ l.length) (h2 : hi ≤ mx) (h : Ent n C e D L (rd d (cutA d A lo mx) (mx - lo) l2 :: I) X) : Ent n C e D L I X := by
  subst h2'
  exact e_cut1 i lo hi mx hi' h0 h1 h2 h
theorem win.cut2 {α : Type} {d : Ty α} {T : TypeId} {A : Option Addr} {c lo hi mx : Nat} {l l2 : List α} {h : Hp} (h2' : (l.take hi).drop lo = l2) (h0 : lo ≤ hi) (h1 : hi ≤ l.length) (h2 : hi ≤ mx) (h4 : mx ≤ c) (a : win d T A c l h) : win d T (cutA d A lo mx) (mx - lo) l2 h := by
  subst h2'
  exact a.cut h0 h1 h2 h4
theorem src_reads {α : Type} {d : Ty α} {A : Option Addr} {c : Nat} {l : List α} {h : Hp} {w : World} (a : rd d A c l h) (hl : le h (hpOf w)) : Src w A l.length (d.cells l) := by
  obtain ⟨_, _, h3⟩ := a
  rcases Nat.eq_zero_or_pos l.length with h | h
  · exact .inl h
  · obtain ⟨b, o, rfl, hc⟩ := h3 h
    refine .inr ⟨_, rfl, fun j u hu => ?_⟩
    rw [add_none]
    exact hc.cell hl hu
theorem src_win {α : Type} {d : Ty α} {T : TypeId} {A : Option Addr} {c : Nat} {l : List α} (i : Nat) (hi : L[i]? = some (win d T A c l)) : srcOf C L I A l.length (d.cells l) := fun w ho => by
  obtain ⟨h1, hl, hA⟩ := ho.atom i hi
  exact src_reads hA.reads hl
theorem src_cut {α : Type} {d : Ty α} {T : TypeId} {A : Option Addr} {c lo hi mx : Nat} {l l2 : List α} (i : Nat) (hi' : L[i]? = some (win d T A c l)) (h2' : (l.take hi).drop lo = l2) (h0 : lo ≤ hi) (h1 : hi ≤ l.length) (h2 : hi ≤ mx) (h4 : mx ≤ c) : srcOf C L I (cutA d A lo mx) l2.length (d.cells l2) := fun w ho => by
  obtain ⟨h1', hl, hA⟩ := ho.atom i hi'
  exact src_reads (hA.cut2 h2' h0 h1 h2 h4).reads hl
/-- The end of an iterator: all that is left is handed back. -/
theorem c_fin_it {fn : Func} {post : Value → List Atom → List Atom → Prop} {L' I' I0 : List Atom} (hrs : fn.results = #[]) (hL : L = L') (hI : ∀ φ ∈ I' ++ I0, φ ∈ I) (hq : post (.tuple #[]) L' I') : Ent n C e [] L I (bq P fn C I0 post .normal) := by
  subst hL
  intro a w k s d o
  show LeavesInM Fence.wide 0 P fn a.tmps (Ret C I0 post) a.defers .returning w
  rw [d]
  refine ⟨.tuple #[], ?_, _, rfl, _, _, hq, ?_⟩
  · have := results_of (P := P) (e := []) (a := a) (fun i v h => by cases h) o (rs := []) (vs := []) (fn := fn) (by simpa using hrs) .nil
    simpa [packed] using this
  · obtain ⟨h, hI0, o⟩ := o
    exact ⟨h, hI0, o.sep, o.facts.sub hI, o.base, o.d1, o.d2, o.d3, o.l1, o.l2, o.l3, o.os, o.tape, o.output⟩
end
end Go.Sl
/- Bytes and texts: conversions, concatenation, copies; truths as elements; sums that may wrap. -/
set_option linter.unusedVariables false
set_option linter.unusedSimpArgs false
namespace Go.Sl
open Go Go.RowKit

def boolTy : Ty Bool := ⟨1, fun b => [.bool b], fun _ => rfl, fun _ => rfl⟩
/-- A slice's head, as an element of another list. -/
structure Hd where
  A : Option Addr
  n : Nat
  c : Nat
def hdTy : Ty Hd := ⟨1, fun h => [.slice h.A h.n h.c], fun _ => rfl, fun _ => rfl⟩
theorem u8cells (l : List UInt8) : u8Ty.cells l = (l.map fun b => (b.toNat : Int)).map (Value.int .u8) := by
  induction l with
  | nil => rfl
  | cons b r ih => unfold Ty.cells at *; rw [List.flatMap_cons, ih]; rfl
theorem foldl_push : ∀ (l : List UInt8) (s : ByteArray), (l.map fun b => (b.toNat : Int)).foldl (fun r n => r.push (UInt8.ofNat n.toNat)) s = ⟨s.data ++ l.toArray⟩
  | [], s => by simp
  | b :: r, s => by
    simp only [List.map_cons, List.foldl_cons]
    rw [foldl_push r]
    have : UInt8.ofNat ((b.toNat : Int).toNat) = b := by simp
    rw [this]
    apply ByteArray.ext
    simp [ByteArray.push]
section
variable {n : Nat} {C : Ctx} {e : Env} {D : List Deferred} {L I : List Atom} {P : Program} {ro : Option Nat} {Q : Exit → Act → World → Prop} {K X : Act → World → Prop}
/-- A text of bytes that are read. -/
theorem o_b2s {A : Option Addr} {c m : Nat} {l : List UInt8} {dt : Tmp} {x : Operand} {t t2 el : TypeId} {ty : TypeId} {pos : String} {aft : Array Edge} {g : Option (Nat × Bool)} (hx : ev e x = some (.slice A m c)) (hm : m = l.length) (hs : srcOf C L I A m (u8Ty.cells l)) (ht : P.underlying t = some (.slice el)) (h2 : P.underlying t2 = some .string) (hel : P.underlying el = some (.int .u8)) (hd : Nat.blt dt n = true)
    (h : Ent n C ((dt, .string ⟨l.toArray⟩) :: e) D L I K) : Ent n C e D L I (ow ro P ⟨some dt, .convert t t2 x, ty, pos, aft, g⟩ Q K) :=
  ow_pure rfl hd (by simp) (fun a w kn ho => by
    subst hm
    have key : (Conv.bytesToString (.slice A l.length c)).run P w = .ok (.string ⟨l.toArray⟩) w := by
      rcases A with _ | b
      · have hl : l = [] := by
          rcases hs w ho with h | ⟨ad, h, _⟩
          · exact List.eq_nil_of_length_eq_zero h
          · cases h
        subst hl
        simp [Conv.bytesToString, Sem.run_pure]
        rfl
      · have hc : ∀ j u, (u8Ty.cells l)[j]? = some u → w.cell? (b.add j) = some u := by
          rcases hs w ho with h | ⟨ad, h, hc⟩
          · have : l = [] := List.eq_nil_of_length_eq_zero h
            subst this
            intro j u hu; simp [Ty.cells] at hu
          · cases h; exact hc
        have hr := run_loadCells_list (P := P) w b (u8Ty.cells l) hc
        have hlen : (u8Ty.cells l).length = l.length := by rw [u8cells]; simp
        rw [hlen, u8cells] at hr
        rw [run_bytesToString w b l.length c (l.map fun b => (b.toNat : Int)) hr, foldl_push]
        show Result.ok (Value.string ⟨#[] ++ l.toArray⟩) w = _
        rw [Array.empty_append]
    simp only [execOp, kn.eval hx, convert, Sem.run_bind, run_underlying ht, run_underlying h2, run_underlying hel, Result.andThen_ok, key, Sem.run_pure]) h

end
def bytesRow (s : ByteArray) (cap : Nat) : Array Value := s.data.map (fun b => Value.int .u8 (b.toNat : Int)) ++ Array.replicate (cap - s.size) (Value.int .u8 0)
theorem run_s2b {P : Program} (w : World) (el : TypeId) (s : ByteArray) : (Conv.stringToBytes el s).run P w = .ok (.slice (some ⟨w.heap.size, 0, none⟩) s.size (grownCap w s.size 0 el)) { w with drawn := w.drawn + 1, heap := w.heap.push (.cells (bytesRow s (grownCap w s.size 0 el)) el ((bytesRow s (grownCap w s.size 0 el)).size, (bytesRow s (grownCap w s.size 0 el)).size + 1)) } := by
  have hc : (Question.appendCap s.size 0 el).cut (w.tape w.drawn (.appendCap s.size 0 el)) = grownCap w s.size 0 el := rfl
  simp only [Conv.stringToBytes, Sem.run_bind, run_choose_drew, Question.forced, Bool.false_eq_true, if_false, Result.andThen_ok, hc, newRow, markStringish, Sem.run_pure]
  show _ = _
  generalize hcs : bytesRow s (grownCap w s.size 0 el) = cs
  have hcs' : s.data.map (fun b => Value.int .u8 (b.toNat : Int)) ++ Array.replicate (grownCap w s.size 0 el - s.size) (Value.int .u8 0) = cs := hcs
  rw [hcs']
  have e1 : w.drew.heap = w.heap := rfl
  have e2 : w.drew.os = w.os := rfl
  have e3 : w.drew.tape = w.tape := rfl
  have e4 : w.drew.output = w.output := rfl
  simp [e1, e2, e4, shape, freeze, newObj, World.freeze, World.shape?, Sem.run]
  apply Array.ext_getElem?
  intro i
  rw [Array.getElem?_modify, Array.getElem?_push, Array.getElem?_push]
  by_cases hi : i = w.heap.size
  · simp [hi]
  · simp [hi, Ne.symm hi]
section
variable {n : Nat} {C : Ctx} {e : Env} {D : List Deferred} {L I : List Atom} {P : Program} {ro : Option Nat} {Q : Exit → Act → World → Prop} {K X : Act → World → Prop}
/-- A new block that is read alone. -/
theorem alloc_fact {w : World} (o : Own C L I w) (x : Obj) {φ : Atom} (hφ : ∀ k, k w.heap.size = some x → φ k) : Own C L (φ :: I) { w with heap := w.heap.push x } := by
  obtain ⟨h, hI, m⟩ := alloc_own o x
  obtain ⟨h1, h2, d, l1, l2, a, s⟩ := m.sep
  refine ⟨h2, both hI h1, s, Facts.cons (fun k hk => hφ k (hk _ _ ?_)) (m.facts.up (le_both_left _ _)), m.base.trans (le_both_left _ _), apart_both' (m.d1.mono_left l2) d.symm, m.d2.mono_left l2, apart_both m.d3 (m.d2.mono_left l1), l2.trans m.l1, both_le m.l2 (l1.trans m.l1), m.l3, m.os, m.tape, m.output⟩
  exact le_both_right (m.d1.mono_left l1).symm _ _ a
/-- The bytes of a text, new, to be read. -/
theorem o_s2b {s : ByteArray} {dt : Tmp} {x : Operand} {t t2 el : TypeId} {ty : TypeId} {pos : String} {aft : Array Edge} {g : Option (Nat × Bool)} (hx : ev e x = some (.string s)) (ht : P.underlying t = some .string) (h2 : P.underlying t2 = some (.slice el)) (hel : P.underlying el = some (.int .u8)) (hd : Nat.blt dt n = true) (hm : s.data.toList.length ≤ 9223372036854775807)
    (h : ∀ A c, Ent n C ((dt, .slice A s.data.toList.length c) :: e) D L (rd u8Ty A c s.data.toList :: I) K) : Ent n C e D L I (ow ro P ⟨some dt, .convert t t2 x, ty, pos, aft, g⟩ Q K) :=
  ow_turn rfl hd (by simp) fun a w kn ho => by
    have hr := run_s2b (P := P) w el s
    have hsz : s.data.toList.length = s.size := Array.length_toList
    refine ⟨.slice (some ⟨w.heap.size, 0, none⟩) s.data.toList.length (grownCap w s.size 0 el), _, L, _, ?_, (alloc_fact (w := w) ho (.cells (bytesRow s (grownCap w s.size 0 el)) el ((bytesRow s (grownCap w s.size 0 el)).size, (bytesRow s (grownCap w s.size 0 el)).size + 1)) (φ := rd u8Ty (some ⟨w.heap.size, 0, none⟩) (grownCap w s.size 0 el) s.data.toList) fun k hk => ?_).draw (w.drawn + 1), h _ _⟩
    · simp only [execOp, kn.eval hx, convert, Sem.run_bind, run_underlying ht, run_underlying h2, run_underlying hel, Result.andThen_ok, hr, Sem.run_pure, hsz]
    · refine ⟨by rw [hsz]; exact grownCap_ge _ _ _ _, hm, fun _ => ⟨_, 0, rfl, _, _, _, hk, fun j v hj => ?_⟩⟩
      have hlt : j < s.size := by
        have := (List.getElem?_eq_some_iff.1 hj).1
        rw [u8cells] at this
        simp only [List.length_map, Array.length_toList] at this
        exact this
      rw [u8cells] at hj
      simp only [Nat.zero_add, bytesRow]
      rw [Array.getElem?_append_left (by rw [Array.size_map]; exact hlt)]
      simpa using hj
end
section
variable {n : Nat} {C : Ctx} {e : Env} {D : List Deferred} {L I : List Atom} {P : Program} {ro : Option Nat} {Q : Exit → Act → World → Prop} {K X : Act → World → Prop}
theorem y_cat {d : Option Tmp} {x y : Operand} {s u : ByteArray} {t t2 : TypeId} {ty : TypeId} {pos : String} {aft : Array Edge} {g : Option (Nat × Bool)} (hx : ev e x = some (.string s)) (hy : ev e y = some (.string u)) (hb : s.size + u.size ≤ 9223372036854775807) :
    Ys P e ⟨d, .binOp .add t x y t2, ty, pos, aft, g⟩ (.string (s ++ u)) := y_bin hx hy fun w => by
  have h1 : ¬ (((s.size + u.size : Nat) : Int) > IntKind.i64.max) := by
    have : IntKind.i64.max = 9223372036854775807 := rfl
    omega
  simp only [eqGuard, binOp, Op.stringOp, h1, if_false]
  simp
theorem y_sidx {d : Option Tmp} {x i : Operand} {s : ByteArray} {z : Int} {ik : IntKind} {t : TypeId} {ty : TypeId} {pos : String} {aft : Array Edge} {g : Option (Nat × Bool)} (k : Nat) (b : UInt8) (hx : ev e x = some (.string s)) (hi : ev e i = some (.int ik z)) (hz : z = (k : Int)) (hb : s[k]? = some b) (ht : P.underlying t = some .string) :
    Ys P e ⟨d, .index t x i, ty, pos, aft, g⟩ (.int .u8 (b.toNat : Int)) := fun a w kn => by
  subst hz
  have h0 : (0 : Int) ≤ (k : Int) := by omega
  simp [execOp, kn.eval hx, kn.eval hi, Instr.index, asIntOf, run_underlying ht, h0, hb]
end
end Go.Sl
