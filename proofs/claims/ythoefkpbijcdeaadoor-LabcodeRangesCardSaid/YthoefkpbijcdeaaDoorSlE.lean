/- Contracts: what a call takes, gives and keeps; calls by contract; entry and return. -/
import Derived.Test.YthoefkpbijcdeaaDoorSlD
set_option linter.unusedVariables false
set_option linter.unusedSimpArgs false
namespace Go.Sl
open Go Go.RowKit

/-- A function with a body of its own. -/
def Goes (P : Program) (f : FuncId) : Prop := ∃ fn, P.funcs[f]? = some fn ∧ (fn.name == "runtime.NumGoroutine") = false ∧ fn.body.isNone = false
/-- From atoms L and facts I a call of f returns; what it returns, leaves and shows besides is of 'post'. -/
def Con (P : Program) (f : FuncId) (args : List Value) (L I : List Atom) (post : Value → List Atom → List Atom → Prop) : Prop :=
  Goes P f ∧ ∀ (C : Ctx) (w : World), Own C L I w → Calls P f args.toArray w fun e w' => ∃ v, e = .returned v ∧ ∃ L' I', post v L' I' ∧ Own C L' (I' ++ I) w'
theorem Con.mono {P : Program} {f : FuncId} {args : List Value} {L I : List Atom} {post post' : Value → List Atom → List Atom → Prop} (h : Con P f args L I post) (hp : ∀ v L' I', post v L' I' → post' v L' I') : Con P f args L I post' :=
  ⟨h.1, fun C w o => (h.2 C w o).mono fun e w' ⟨v, he, L', I', hq, ho⟩ => ⟨v, he, L', I', hp _ _ _ hq, ho⟩⟩

def pull : List Atom → List Nat → Option (List Atom × List Atom)
  | L, [] => some ([], L)
  | L, i :: r => match L[i]? with
    | none => none
    | some A => match pull (L.eraseIdx i) r with
      | none => none
      | some (M, R) => some (A :: M, R)
theorem Sep.pull : ∀ {ix : List Nat} {L M R : List Atom} {h : Hp}, Sl.pull L ix = some (M, R) → Sep L h → ∃ h1 h2, apart h1 h2 ∧ le h1 h ∧ le h2 h ∧ Sep M h1 ∧ Sep R h2
  | [], L, M, R, h, e, s => by
    simp only [Sl.pull, Option.some.injEq, Prod.mk.injEq] at e
    obtain ⟨rfl, rfl⟩ := e
    exact ⟨nothing, h, nothing_apart _, nothing_le _, le.refl _, trivial, s⟩
  | i :: r, L, M, R, h, e, s => by
    unfold Sl.pull at e
    cases hi : L[i]? with
    | none => rw [hi] at e; cases e
    | some A =>
      rw [hi] at e
      simp only at e
      cases hq : Sl.pull (L.eraseIdx i) r with
      | none => rw [hq] at e; cases e
      | some p =>
        rw [hq] at e
        obtain ⟨M', R'⟩ := p
        simp only [Option.some.injEq, Prod.mk.injEq] at e
        obtain ⟨rfl, rfl⟩ := e
        obtain ⟨h1, h2, d, l1, l2, a, s2⟩ := Sep.take i hi s
        obtain ⟨k1, k2, d', m1, m2, sm, sr⟩ := Sep.pull hq s2
        exact ⟨both h1 k1, k2, apart_both (d.mono_right m2) d', both_le l1 (m1.trans l2), m2.trans l2, Sep.cons (d.mono_right m1) a sm, sr⟩
def picks (L : List Atom) : List Nat → Option (List Atom)
  | [] => some []
  | i :: r => match L[i]? with
    | none => none
    | some A => (picks L r).map (A :: ·)
theorem picks_mem : ∀ {ix : List Nat} {L M : List Atom}, picks L ix = some M → ∀ φ ∈ M, φ ∈ L
  | [], L, M, e, φ, hφ => by simp only [picks, Option.some.injEq] at e; subst e; cases hφ
  | i :: r, L, M, e, φ, hφ => by
    unfold picks at e
    cases hi : L[i]? with
    | none => rw [hi] at e; cases e
    | some A =>
      rw [hi] at e
      obtain ⟨M', hM, rfl⟩ := Option.map_eq_some_iff.1 e
      rcases List.mem_cons.1 hφ with rfl | hφ
      · exact List.mem_of_getElem? hi
      · exact picks_mem hM φ hφ
def evs (e : Env) : List Operand → Option (List Value)
  | [] => some []
  | x :: r => match ev e x with
    | none => none
    | some v => match evs e r with
      | none => none
      | some vs => some (v :: vs)
theorem Knows.evals {e : Env} {a : Act} (k : Knows e a) : ∀ {xs : List Operand} {vs : List Value}, evs e xs = some vs → xs.map a.eval = vs
  | [], vs, h => by simp only [evs, Option.some.injEq] at h; simp [← h]
  | x :: r, vs, h => by
    unfold evs at h
    cases hx : ev e x with
    | none => rw [hx] at h; cases h
    | some v =>
      rw [hx] at h
      simp only at h
      cases hr : evs e r with
      | none => rw [hr] at h; cases h
      | some us =>
        rw [hr] at h
        simp only [Option.some.injEq] at h
        subst h
        simp [k.eval hx, Knows.evals k hr]

theorem run_callFunc {P : Program} {f : FuncId} (g : Goes P f) (args : Array Value) (w : World) : (callFunc f args).run P w = .ok (.enter f args) w := by
  obtain ⟨fn, h1, h2, h3⟩ := g
  simp only [callFunc, Sem.run_bind, run_program, Result.andThen_ok, h1, h2, h3, Bool.false_eq_true, if_false]
  rfl

section
variable {n : Nat} {C : Ctx} {e : Env} {D : List Deferred} {L I : List Atom} {P : Program} {ro : Option Nat} {Q : Exit → Act → World → Prop} {K : Act → World → Prop}

/-- Of the atoms L some (Lf) are handed to a call, which leaves L'; the others (Lr) stay. -/
theorem Own.handed {w : World} {Lf Lr If : List Atom} {ix : List Nat} (o : Own C L I w) (hp : pull L ix = some (Lf, Lr)) (hI : ∀ φ ∈ If, φ ∈ I) :
    ∃ C' : Ctx, Own C' Lf If w ∧ ∀ w' L' I', Own C' L' (I' ++ If) w' → Own C (L' ++ Lr) (I' ++ I) w' := by
  obtain ⟨h, hI0, o⟩ := o
  obtain ⟨h1, h2, d, l1, l2, s1, s2⟩ := Sep.pull hp o.sep
  have d2' : apart h2 C.R := o.d2.mono_left l2
  refine ⟨⟨C.w0, both h2 C.R, hI0⟩, ⟨h1, hI0, s1, o.facts.sub hI, le.refl _, o.d1.mono_left l1, apart_both' d (o.d2.mono_left l1), apart_both' (o.d1.mono_left l2).symm o.d3, l1.trans o.l1, o.l2, both_le (l2.trans o.l1) o.l3, o.os, o.tape, o.output⟩, ?_⟩
  rintro w' L' I' ⟨k, kI, m⟩
  have hb : le h2 (both h2 C.R) := le_both_left _ _
  have hR : le C.R (both h2 C.R) := le_both_right d2'
  refine ⟨both k h2, kI, Sep.join (m.d2.mono_right hb) m.sep s2, ?_, o.base.trans m.base, apart_both m.d1 (m.d3.mono_right hb).symm, apart_both (m.d2.mono_right hR) d2', m.d3.mono_right hR, both_le m.l1 (hb.trans m.l3), m.l2, hR.trans m.l3, m.os, m.tape, m.output⟩
  exact Facts.append (m.facts.sub fun φ hφ => List.mem_append_left _ hφ) (o.facts.up m.base)

/-- A call of a known function value by its contract. -/
theorem o_call {dt : Tmp} {fo : Operand} {xs : List Operand} {ats : Array TypeId} {ty : TypeId} {pos : String} {aft : Array Edge} {g : Option (Nat × Bool)} {f : FuncId} {fst cap vals args : List Value} {Lf Lr If : List Atom} {post : Value → List Atom → List Atom → Prop}
    (ix jx : List Nat) (spec : Con P f args Lf If post) (hx : ev e fo = some (.func (.func f) fst.toArray cap.toArray)) (hv : evs e xs = some vals) (ha : fst ++ vals ++ cap = args) (hp : pull L ix = some (Lf, Lr)) (hI : picks I jx = some If) (hd : Nat.blt dt n = true)
    (h : ∀ v L' I', post v L' I' → Ent n C ((dt, v) :: e) D (L' ++ Lr) (I' ++ I) K) : Ent n C e D L I (ow ro P ⟨some dt, .call ⟨.value fo, xs.toArray, ats⟩, ty, pos, aft, g⟩ Q K) :=
  fun a w k s d ho => by
    obtain ⟨C', o1, back⟩ := ho.handed hp (picks_mem hI)
    have hval := k.evals hv
    have hrun : (execOp a.eval ⟨some dt, .call ⟨.value fo, xs.toArray, ats⟩, ty, pos, aft, g⟩).run P w = .ok (.enter f args.toArray) w := by
      have h1 : (xs.toArray.map a.eval) = vals.toArray := by rw [List.map_toArray, hval]
      simp only [execOp, resolve, h1, k.eval hx, Deferred.ofValue, Sem.run_bind, Sem.run_pure, Result.andThen_ok, invoke]
      rw [← ha]
      simpa using run_callFunc (P := P) spec.1 (fst.toArray ++ vals.toArray ++ cap.toArray) w
    refine ow_enter (by simp) hrun (spec.2 C' w o1) ?_
    rintro v w'' ⟨L', I', hq, ho'⟩
    have hlt : dt < a.tmps.size := by rw [s]; simpa using hd
    exact h v L' I' hq _ _ (k.put hlt) (by simp [Act.put, s]) (by simpa [Act.put] using d) (back _ _ _ ho')

/-! ### The results -/
inductive Res (P : Program) (e : Env) (L : List Atom) : List ResultVar → List Value → Prop where
  | nil : Res P e L [] []
  | tmp {t : Tmp} {v : Value} {rs : List ResultVar} {vs : List Value} (h : lk e t = some v) (r : Res P e L rs vs) : Res P e L (.tmp t :: rs) (v :: vs)
  | agg {q : Tmp} {t b o T : Nat} {cs us : List Value} {d : TypeDesc} {rs : List ResultVar} {vs : List Value} (i m : Nat) (hx : lk e q = some (.pointer (some ⟨b, o, none⟩))) (hi : L[i]? = some (pt b cs T)) (hv : (cs.drop o).take m = us) (hm : Nat.beq us.length m = true)
      (hu : P.underlying t = some d) (ha : aggD d = true) (hsz : P.cellsOf t = m) (hin : (P.info? t).isSome = true) (r : Res P e L rs vs) : Res P e L (.cell q t :: rs) (.agg us.toArray :: vs)
  | one {q : Tmp} {t b o T : Nat} {cs : List Value} {v : Value} {d : TypeDesc} {rs : List ResultVar} {vs : List Value} (i : Nat) (hx : lk e q = some (.pointer (some ⟨b, o, none⟩))) (hi : L[i]? = some (pt b cs T)) (hv : cs[o]? = some v)
      (hu : P.underlying t = some d) (ha : aggD d = false) (r : Res P e L rs vs) : Res P e L (.cell q t :: rs) (v :: vs)
theorem run_loadVar_of {P : Program} {t : TypeId} {p : Addr} {w : World} {v : Value} (h : (Instr.loadAt t (.pointer (some p))).run P w = .ok v w) : (loadVar t p).run P w = .ok v w := by
  simpa [Instr.loadAt, Instr.sureAddr] using h
theorem Res.run {a : Act} {w : World} (k : Knows e a) (o : Own C L I w) {rs : List ResultVar} {vs : List Value} (r : Res P e L rs vs) (f : ResultVar → Sem Value) (hf : ∀ u, f (.tmp u) = pure (a.tmps.getD u undef)) (hc : ∀ q t, f (.cell q t) = (do loadVar t (← asAddr (a.tmps.getD q undef)))) :
    (rs.mapM f).run P w = .ok vs w := by
  have tmp : ∀ {t v}, lk e t = some v → a.tmps.getD t undef = v := fun {t v} h => by
    have := k t v h
    simp [Array.getD_eq_getD_getElem?, this]
  induction r with
  | nil => simp
  | tmp h r ih => simp [List.mapM_cons, hf, ih, tmp h]
  | agg i m hx hi hv hm hu ha hsz hin r ih =>
    rename_i q t b off T cs us d rs vs
    obtain ⟨h1, hl, hA⟩ := o.atom i hi
    have hb : w.heap[b]? = some (.cells cs.toArray T (0, 0)) := hl _ _ hA
    have hm' := Nat.eq_of_beq_eq_true hm
    have hr := run_loadVar_of (run_loadn (P := P) hu ha (w := w) (p := ⟨b, off, none⟩) us (by rw [hsz, hm']) hin (fun j v hj => by
      rw [add_none, cell_of hb]
      rw [← hv, List.getElem?_take] at hj
      split at hj
      · simpa using hj
      · cases hj))
    rw [List.mapM_cons, hc, tmp hx]
    simp [asAddr, hr, ih]
  | one i hx hi hv hu ha r ih =>
    rename_i q t b off T cs v d rs vs
    obtain ⟨h1, hl, hA⟩ := o.atom i hi
    have hb : w.heap[b]? = some (.cells cs.toArray T (0, 0)) := hl _ _ hA
    have hr := run_loadVar_of (run_load1 (P := P) hu ha (w := w) (p := ⟨b, off, none⟩) (v := v) (by rw [cell_of hb]; simpa using hv))
    rw [List.mapM_cons, hc, tmp hx]
    simp [asAddr, hr, ih]
def packed : List Value → Value
  | [v] => v
  | vs => .tuple vs.toArray
theorem results_of {a : Act} {w : World} (k : Knows e a) (o : Own C L I w) {fn : Func} {rs : List ResultVar} {vs : List Value} (hrs : fn.results = rs.toArray) (r : Res P e L rs vs) : (results fn a.tmps).run P w = .ok (packed vs) w := by
  unfold results
  rw [hrs, List.mapM_toArray]
  simp only [Sem.run_bind, Sem.run_map]
  rw [Res.run k o r _ (fun _ => rfl) (fun _ _ => rfl)]
  match vs with
  | [] => simp [packed]
  | [v] => simp [packed]
  | v :: u :: vs => simp [packed]

/-- What a function's body comes to. -/
def Ret (C : Ctx) (I : List Atom) (post : Value → List Atom → List Atom → Prop) : Ending → World → Prop := fun e w' => ∃ v, e = .returned v ∧ ∃ L' I', post v L' I' ∧ Own C L' (I' ++ I) w'
abbrev bq (P : Program) (fn : Func) (C : Ctx) (I : List Atom) (post : Value → List Atom → List Atom → Prop) : Exit → Act → World → Prop := bodyPostM Fence.wide 0 P fn (Ret C I post)

theorem Own.sub {w : World} {L' Lr I' : List Atom} {ix : List Nat} (o : Own C L I w) (hp : pull L ix = some (L', Lr)) (hI : ∀ φ ∈ I', φ ∈ I) : Own C L' I' w := by
  obtain ⟨h, hI0, o⟩ := o
  obtain ⟨h1, h2, d, l1, l2, s1, s2⟩ := Sep.pull hp o.sep
  exact ⟨h1, hI0, s1, o.facts.sub hI, o.base, o.d1.mono_left l1, o.d2.mono_left l1, o.d3, l1.trans o.l1, o.l2, o.l3, o.os, o.tape, o.output⟩

/-- The return of a function without deferred calls. -/
theorem c_fin {fn : Func} {rs : List ResultVar} {vs : List Value} {post : Value → List Atom → List Atom → Prop} {L' Lr I' I1 I0 : List Atom} (ix jx : List Nat) (hrs : fn.results = rs.toArray) (r : Res P e L rs vs) (hp : pull L ix = some (L', Lr)) (hI : picks I jx = some I1) (hI1 : I1 = I' ++ I0) (hq : post (packed vs) L' I') :
    Ent n C e [] L I (bq P fn C I0 post .ret) := by
  subst hI1
  intro a w k s d o
  show LeavesInM Fence.wide 0 P fn a.tmps (Ret C I0 post) a.defers .returning w
  rw [d]
  exact ⟨_, results_of k o hrs r, _, rfl, _, _, hq, o.sub hp (picks_mem hI)⟩
theorem c_fin_end {fn : Func} {rs : List ResultVar} {vs : List Value} {post : Value → List Atom → List Atom → Prop} {L' Lr I' I1 I0 : List Atom} (ix jx : List Nat) (hrs : fn.results = rs.toArray) (r : Res P e L rs vs) (hp : pull L ix = some (L', Lr)) (hI : picks I jx = some I1) (hI1 : I1 = I' ++ I0) (hq : post (packed vs) L' I') :
    Ent n C e [] L I (bq P fn C I0 post .normal) := c_fin ix jx hrs r hp hI hI1 hq

/-- The frame at the beginning. -/
def frame0 : List Value → Nat → Env
  | [], _ => []
  | v :: r, k => (k, v) :: frame0 r (k + 1)
theorem frame0_lk : ∀ (args : List Value) (k i : Nat) (v : Value), lk (frame0 args k) i = some v → k ≤ i ∧ args[i - k]? = some v
  | [], k, i, v, h => by cases h
  | u :: r, k, i, v, h => by
    unfold frame0 lk at h
    cases hq : Nat.beq k i with
    | true =>
      rw [hq] at h
      simp only [cond_true, Option.some.injEq] at h
      have := Nat.eq_of_beq_eq_true hq
      subst this
      simp [h]
    | false =>
      rw [hq] at h
      have := frame0_lk r (k + 1) i v h
      refine ⟨by omega, ?_⟩
      rw [show i - k = (i - (k + 1)) + 1 from by omega]
      simpa using this.2
/-- A contract from the function's body. -/
theorem fn_of {f : FuncId} {fn : Func} {c : Code} {args : List Value} {post : Value → List Atom → List Atom → Prop} {m : Nat} (hf : P.funcs[f]? = some fn) (hb : fn.body = some c) (hm : fn.ntmps = m) (hn : (fn.name == "runtime.NumGoroutine") = false) (hl : Nat.ble args.length m = true)
    (h : ∀ C, Ent m C (frame0 args 0) [] L I (cw none P c (bq P fn C I post))) : Con P f args L I post := by
  refine ⟨⟨fn, hf, hn, by rw [hb]; rfl⟩, fun C w o => ?_⟩
  have hl' := Nat.le_of_ble_eq_true hl
  refine callsIn_wide.1 (callsIn_of_wp_marks (F := Fence.wide) (n := 0) hf hb trivial ?_ rfl)
  refine h C _ w ?_ ?_ rfl o
  · intro i v hi
    have := (frame0_lk args 0 i v hi).2
    simp only [Nat.sub_zero] at this
    have hlt : i < args.length := (List.getElem?_eq_some_iff.1 this).1
    show (args.toArray ++ Array.replicate _ undef)[i]? = some v
    rw [Array.getElem?_append_left (by simpa using hlt)]
    simpa using this
  · simp; omega
end
end Go.Sl
