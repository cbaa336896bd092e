/- A round's end with less; contracts with more facts. -/
import Derived.Test.YthoefkpbijcdeaaDoorSlL
set_option linter.unusedVariables false
set_option linter.unusedSimpArgs false
namespace Go.Sl
open Go Go.RowKit
/-! Texts, the same or not. -/
theorem str_inj {x y : ByteArray} (h : x.toList = y.toList) : x = y := by
  rw [ByteArray.toList_eq, ByteArray.toList_eq] at h
  exact ByteArray.ext (Array.toList_inj.1 h)
theorem str_t {x y : ByteArray} (h : x = y) : (x.toList == y.toList) = true := by rw [h]; exact beq_self_eq_true _
theorem str_f {x y : ByteArray} (h : ¬ x = y) : (x.toList == y.toList) = false := beq_eq_false_iff_ne.2 fun e => h (str_inj e)
theorem str_nt {x y : ByteArray} (h : x = y) : (!(x.toList == y.toList)) = false := by rw [str_t h]; rfl
theorem str_nf {x y : ByteArray} (h : ¬ x = y) : (!(x.toList == y.toList)) = true := by rw [str_f h]; rfl
theorem pullAll : ∀ L : List Atom, pull L (List.replicate L.length 0) = some (L, [])
  | [] => rfl
  | A :: L => by
    show pull (A :: L) (0 :: List.replicate L.length 0) = _
    unfold pull
    simp only [List.getElem?_cons_zero, List.eraseIdx_cons_zero]
    rw [pullAll L]
section
variable {n : Nat} {C : Ctx} {e : Env} {D : List Deferred} {L I : List Atom} {P : Program} {ro : Option Nat} {Q : Exit → Act → World → Prop} {K X : Act → World → Prop}
theorem c_next {ι : Type} {ok : ι → Prop} {E : ι → Env} {LL II : ι → List Atom} {m : ι → Nat} {i : ι} {Lr : List Atom} (ix jx : List Nat) (j : ι) (hj : ok j) (hm : m j < m i) (hE : Cov e (E j)) (hp : pull L ix = some (LL j, Lr)) (hI : picks I jx = some (II j)) :
    Ent n C e D L I (Again n C D ok E LL II m i) :=
  fun a w k s d o => ⟨j, hj, hm, hE.knows k, s, d, o.sub hp (picks_mem hI)⟩
/-- A loop, begun with less. -/
theorem c_loopn {c : Code} {ι : Type} {Lr : List Atom} (ok : ι → Prop) (E : ι → Env) (LL II : ι → List Atom) (m : ι → Nat) (i0 : ι) (ix jx : List Nat) (h0 : ok i0) (hE : Cov e (E i0)) (hp : pull L ix = some (LL i0, Lr)) (hI : picks I jx = some (II i0))
    (round : ∀ i, ok i → Ent n C (E i) D (LL i) (II i) (cw ro P c (Exit.then (Again n C D ok E LL II m i) Q))) :
    Ent n C e D L I (cw ro P (.loop c) Q) := 
  fun a w kn s d ho => c_loop0 ok E LL II m i0 h0 (fun _ h => h) rfl (fun _ h => h) round a w (hE.knows kn) s d (ho.sub hp (picks_mem hI))
/-- More facts than are asked for. -/
theorem Con.wide {f : FuncId} {args : List Value} {L I I2 : List Atom} {post : Value → List Atom → List Atom → Prop} (h : Con P f args L I post) (hI : ∀ φ ∈ I, φ ∈ I2) : Con P f args L I2 post :=
  ⟨h.1, fun C w o => by
    obtain ⟨C', o1, back⟩ := o.handed (pullAll L) hI
    exact (h.2 C' w o1).mono fun x w' ⟨v, hv, L', I', hq, ho⟩ => ⟨v, hv, L', I', hq, by simpa using back _ _ _ ho⟩⟩
/-! A guard that was itself passed over. -/
theorem yielded_undef {ops : Array Oper} {j : Nat} {t : Tmp} {a : Act} (ht : (ops[j]?).bind (·.dst) = some t) (k : Knows e a) (hv : lk e t = some undef) : yielded ops a.tmps j = none := by
  unfold yielded
  rw [ht]
  simp only [Option.bind_some, k t _ hv]
  rfl
theorem st_offu {ops : Array Oper} {o : Oper} {rest : List Oper} {j : Nat} {b : Bool} {dt : Tmp} (t : Tmp) (hg : o.guard = some (j, b)) (ht : (ops[j]?).bind (·.dst) = some t) (hv : lk e t = some undef) (hdst : o.dst = some dt) (hd : Nat.blt dt n = true)
    (h : Ent n C ((dt, undef) :: e) D L I (lw ro P ops Q rest)) : Ent n C e D L I (lw ro P ops Q (o :: rest)) :=
  fun a w k s d ho => by
    show wpListIn _ _ _ _ _ (o :: rest) a w
    unfold wpListIn
    rw [if_neg (by simp [Region.wanted, hg, yielded_undef ht k hv])]
    refine ⟨fun f _ => fen_fn ro f, ?_⟩
    have hlt : dt < a.tmps.size := by rw [s]; simpa using hd
    rw [hdst]
    exact h _ w (k.put hlt) (by simp [Act.put, s]) (by simpa [Act.put] using d) ho
theorem st_offu' {ops : Array Oper} {o : Oper} {rest : List Oper} {j : Nat} {b : Bool} (t : Tmp) (hg : o.guard = some (j, b)) (ht : (ops[j]?).bind (·.dst) = some t) (hv : lk e t = some undef) (hdst : o.dst = none)
    (h : Ent n C e D L I (lw ro P ops Q rest)) : Ent n C e D L I (lw ro P ops Q (o :: rest)) :=
  fun a w k s d ho => by
    show wpListIn _ _ _ _ _ (o :: rest) a w
    unfold wpListIn
    rw [if_neg (by simp [Region.wanted, hg, yielded_undef ht k hv])]
    refine ⟨fun f _ => fen_fn ro f, ?_⟩
    rw [hdst]
    exact h a w k s d ho
theorem a_offu {ops : Array Oper} {H : List (Addr × Value)} {ds : List Nat} {k : Nat} {l : Array Bool} {i j : Nat} {b : Bool} {o : Oper} {dt : Tmp} (t : Tmp) (l' : Array Bool) (hi : ops[i]? = some o) (hc : pureB ops l l' i = true) (hg : o.guard = some (j, b)) (ht : (ops[j]?).bind (·.dst) = some t) (hv : lk e t = some undef) (hdst : o.dst = some dt) (hd : Nat.blt dt n = true)
    (h : Ent n C ((dt, undef) :: e) D L I (aw ro P ops H ds X k l')) : Ent n C e D L I (aw ro P ops H ds X (k + 1) l) := fun a w kn s d ho => by
  simp only [pureB, Bool.and_eq_true, beq_iff_eq] at hc
  obtain ⟨⟨⟨h1, h2⟩, h3⟩, rfl⟩ := hc
  have hlt : dt < a.tmps.size := by rw [s]; simpa using hd
  refine any_pure h1 hi k l a w (Region.free_spec hi h2) (by simpa using h3) (.inr ⟨by simp [Region.wanted, hg, yielded_undef ht kn hv], rfl⟩) ?_
  rw [hdst]
  exact h _ w (kn.put hlt) (by simp [Act.put, s]) (by simpa [Act.put] using d) ho
theorem a_offu' {ops : Array Oper} {H : List (Addr × Value)} {ds : List Nat} {k : Nat} {l : Array Bool} {i j : Nat} {b : Bool} {o : Oper} (t : Tmp) (l' : Array Bool) (hi : ops[i]? = some o) (hc : pureB ops l l' i = true) (hg : o.guard = some (j, b)) (ht : (ops[j]?).bind (·.dst) = some t) (hv : lk e t = some undef) (hdst : o.dst = none)
    (h : Ent n C e D L I (aw ro P ops H ds X k l')) : Ent n C e D L I (aw ro P ops H ds X (k + 1) l) := fun a w kn s d ho => by
  simp only [pureB, Bool.and_eq_true, beq_iff_eq] at hc
  obtain ⟨⟨⟨h1, h2⟩, h3⟩, rfl⟩ := hc
  refine any_pure h1 hi k l a w (Region.free_spec hi h2) (by simpa using h3) (.inr ⟨by simp [Region.wanted, hg, yielded_undef ht kn hv], rfl⟩) ?_
  rw [hdst]
  exact h a w kn s d ho
/-! Cuts, the list in other words. -/
theorem y_cut {α : Type} {d : Ty α} {dd : Option Tmp} {x : Operand} {xl xh xm : Option Operand} {t el : TypeId} {ty : TypeId} {pos : String} {aft : Array Edge} {g : Option (Nat × Bool)} {A : Option Addr} {m c : Nat} {l l2 : List α} (lo hi mx : Nat) (h2' : (l.take hi).drop lo = l2) (hx : ev e x = some (.slice A m c)) (hm : m = l.length) (hl : Bd e 0 xl lo) (hh : Bd e m xh hi) (hmx : Bd e c xm mx) (h3 : xm.isSome = true → xh.isSome = true) (ht : P.underlying t = some (.slice el)) (hsz : P.cellsOf el = d.sz) (hin : (P.info? el).isSome = true) (h0 : lo ≤ hi) (h1 : hi ≤ l.length) (h2 : hi ≤ mx) (h4 : mx ≤ c) :
    Ys P e ⟨dd, .slice t x xl xh xm, ty, pos, aft, g⟩ (.slice (cutA d A lo mx) l2.length (mx - lo)) := by
  subst h2'
  exact y_cutl lo hi mx hx hm hl hh hmx h3 ht hsz hin h0 h1 h2 h4
theorem e_cut2 {α : Type} {d : Ty α} {A : Option Addr} {c : Nat} {l l2 : List α} (i lo hi mx : Nat) (h2' : (l.take hi).drop lo = l2) (hi' : I[i]? = some (rd d A c l)) (h0 : lo ≤ hi) (h1 : hi ≤ l.length) (h2 : hi ≤ mx) (h : Ent n C e D L (rd d (cutA d A lo mx) (mx - lo) l2 :: I) X) : Ent n C e D L I X := by
  subst h2'
  exact e_cut1 i lo hi mx hi' h0 h1 h2 h
theorem win.cut2 {α : Type} {d : Ty α} {T : TypeId} {A : Option Addr} {c lo hi mx : Nat} {l l2 : List α} {h : Hp} (h2' : (l.take hi).drop lo = l2) (h0 : lo ≤ hi) (h1 : hi ≤ l.length) (h2 : hi ≤ mx) (h4 : mx ≤ c) (a : win d T A c l h) : win d T (cutA d A lo mx) (mx - lo) l2 h := by
  subst h2'
  exact a.cut h0 h1 h2 h4
theorem src_reads {α : Type} {d : Ty α} {A : Option Addr} {c : Nat} {l : List α} {h : Hp} {w : World} (a : rd d A c l h) (hl : le h (hpOf w)) : Src w A l.length (d.cells l) := by
  obtain ⟨_, _, h3⟩ := a
  rcases Nat.eq_zero_or_pos l.length with h | h
  · exact .inl h
  · obtain ⟨b, o, rfl, hc⟩ := h3 h
    refine .inr ⟨_, rfl, fun j u hu => ?_⟩
    rw [add_none]
    exact hc.cell hl hu
theorem src_win {α : Type} {d : Ty α} {T : TypeId} {A : Option Addr} {c : Nat} {l : List α} (i : Nat) (hi : L[i]? = some (win d T A c l)) : srcOf C L I A l.length (d.cells l) := fun w ho => by
  obtain ⟨h1, hl, hA⟩ := ho.atom i hi
  exact src_reads hA.reads hl
theorem src_cut {α : Type} {d : Ty α} {T : TypeId} {A : Option Addr} {c lo hi mx : Nat} {l l2 : List α} (i : Nat) (hi' : L[i]? = some (win d T A c l)) (h2' : (l.take hi).drop lo = l2) (h0 : lo ≤ hi) (h1 : hi ≤ l.length) (h2 : hi ≤ mx) (h4 : mx ≤ c) : srcOf C L I (cutA d A lo mx) l2.length (d.cells l2) := fun w ho => by
  obtain ⟨h1', hl, hA⟩ := ho.atom i hi'
  exact src_reads (hA.cut2 h2' h0 h1 h2 h4).reads hl
/-- The end of an iterator: all that is left is handed back. -/
theorem c_fin_it {fn : Func} {post : Value → List Atom → List Atom → Prop} {L' I' I0 : List Atom} (hrs : fn.results = #[]) (hL : L = L') (hI : ∀ φ ∈ I' ++ I0, φ ∈ I) (hq : post (.tuple #[]) L' I') : Ent n C e [] L I (bq P fn C I0 post .normal) := by
  subst hL
  intro a w k s d o
  show LeavesInM Fence.wide 0 P fn a.tmps (Ret C I0 post) a.defers .returning w
  rw [d]
  refine ⟨.tuple #[], ?_, _, rfl, _, _, hq, ?_⟩
  · have := results_of (P := P) (e := []) (a := a) (fun i v h => by cases h) o (rs := []) (vs := []) (fn := fn) (by simpa using hrs) .nil
    simpa [packed] using this
  · obtain ⟨h, hI0, o⟩ := o
    exact ⟨h, hI0, o.sep, o.facts.sub hI, o.base, o.d1, o.d2, o.d3, o.l1, o.l2, o.l3, o.os, o.tape, o.output⟩
end
end Go.Sl
