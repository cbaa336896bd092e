/- Ranges over functions: the iterator's word, the round, the statement. -/
import Derived.Test.YthoefkpbijcdeaaDoorSlH
import Derived.RangeFuncSeq
set_option linter.unusedVariables false
set_option linter.unusedSimpArgs false
namespace Go.Sl
open Go Go.RowKit

abbrev States := List Atom → List Atom → Prop
/-- A call of yield at these values, from these atoms and facts: it answers b, and leaves a state of 'post b'. -/
def Yl (P : Program) (l : Nat) (vs : List Value) (L I : List Atom) (post : Bool → States) : Prop :=
  ∀ (C : Ctx) (w : World), Own C L I w → ∃ fn tmps assign body, (Instr.yield l vs.toArray).run P w = .ok (.round l fn tmps assign body) w ∧
    RoundIn Fence.wide 0 P l fn tmps assign body w fun e w' => ∃ b, e = .returned (.bool b) ∧ ∃ L' I', post b L' I' ∧ Own C L' I' w'
/-- An iterator over xs: whatever states S k (k rounds are over) and X k (round k has left) the rounds keep to. 'fin' tells what becomes of its own atoms. -/
def It (P : Program) (f : FuncId) (cap : List Value) (Li Ii : List Atom) (xs : List (List Value)) (fin : List Atom → Prop) : Prop :=
  ∀ (l : Nat) (S X : Nat → States) (L0 I0 : List Atom), S 0 L0 I0 →
    (∀ k x L I, xs[k]? = some x → S k L I → Yl P l x L I fun b L' I' => (b = true ∧ S (k + 1) L' I') ∨ (b = false ∧ X k L' I')) →
    Con P f (.func (.yield l) #[] #[] :: cap) (Li ++ L0) (Ii ++ I0) fun v L' I' => ∃ L1 L2, L' = L1 ++ L2 ∧ fin L1 ∧ (S xs.length L2 I' ∨ ∃ k, k < xs.length ∧ X k L2 I')

/-- The same, its own atoms told apart: at the end, and where round k has left. -/
def It2 (P : Program) (f : FuncId) (cap : List Value) (Li Ii : List Atom) (xs : List (List Value)) (fin : List Atom → Prop) (finX : Nat → List Atom → Prop) : Prop :=
  ∀ (l : Nat) (S X : Nat → States) (L0 I0 : List Atom), S 0 L0 I0 →
    (∀ k x L I, xs[k]? = some x → S k L I → Yl P l x L I fun b L' I' => (b = true ∧ S (k + 1) L' I') ∨ (b = false ∧ X k L' I')) →
    Con P f (.func (.yield l) #[] #[] :: cap) (Li ++ L0) (Ii ++ I0) fun v L' I' => ∃ L1 L2, L' = L1 ++ L2 ∧ ((fin L1 ∧ S xs.length L2 I') ∨ ∃ k, k < xs.length ∧ finX k L1 ∧ X k L2 I')
theorem It.two {P : Program} {f : FuncId} {cap : List Value} {Li Ii : List Atom} {xs : List (List Value)} {fin : List Atom → Prop} (h : It P f cap Li Ii xs fin) : It2 P f cap Li Ii xs fin (fun _ => fin) := fun l S X L0 I0 h0 hY =>
  (h l S X L0 I0 h0 hY).mono fun v L' I' ⟨L1, L2, e, hf, hs⟩ => ⟨L1, L2, e, hs.elim (fun q => .inl ⟨hf, q⟩) (fun ⟨k, hk, q⟩ => .inr ⟨k, hk, hf, q⟩)⟩

section
variable {n : Nat} {C : Ctx} {e : Env} {D : List Deferred} {L I : List Atom} {P : Program} {ro : Option Nat} {Q : Exit → Act → World → Prop} {K X : Act → World → Prop}

theorem run_getLoop {w : World} {l : Nat} {r : Loop} (h : w.heap[l]? = some (.loop r)) : (Instr.getLoop l).run P w = .ok r w := by
  simp [Instr.getLoop, getObj, Sem.run, Sem.run_bind', h]
theorem run_setLoop {w : World} {l : Nat} {r r' : Loop} (h : w.heap[l]? = some (.loop r)) : (setObj l (.loop r')).run P w = .ok () { w with heap := w.heap.setIfInBounds l (.loop r') } := by
  simp [setObj, Sem.run, h]
theorem run_beginRound {w : World} {l : Nat} {r : Loop} (h : w.heap[l]? = some (.loop r)) (hr : r.state = .ready) : (Instr.beginRound l).run P w = .ok () { w with heap := w.heap.setIfInBounds l (.loop { r with state := .busy }) } := by
  simp [Instr.beginRound, Sem.run_bind, run_getLoop h, run_setLoop h, hr]
theorem run_endRound {w : World} {l : Nat} {r : Loop} (h : w.heap[l]? = some (.loop r)) (j : Option Code) : (Instr.endRound l j).run P w = .ok (.bool j.isNone) { w with heap := w.heap.setIfInBounds l (.loop { r with state := if j.isNone then .ready else .done, pending := j }) } := by
  simp [Instr.endRound, Sem.run_bind, run_getLoop h, run_setLoop h]
theorem run_endLoop {w : World} {l : Nat} {r : Loop} (h : w.heap[l]? = some (.loop r)) (hr : r.state ≠ .busy) : (Instr.endLoop l).run P w = .ok r.pending { w with heap := w.heap.setIfInBounds l (.loop { r with state := .exhausted }) } := by
  simp [Instr.endLoop, Sem.run_bind, run_getLoop h, run_setLoop h, hr]
theorem run_yield {w : World} {l : Nat} {r : Loop} (h : w.heap[l]? = some (.loop r)) {vs : Array Value} (hs : vs.size = r.params.size) : (Instr.yield l vs).run P w = .ok (.round l r.fn ((r.params.zip vs).foldl (fun tmps (t, a) => tmps.setIfInBounds t a) r.tmps) r.assign r.body) w := by
  simp [Instr.yield, Sem.run_bind, run_getLoop h, hs]

def rdyL (r : Loop) : Loop := { r with state := .ready, pending := none }
def busyL (r : Loop) : Loop := { r with state := .busy, pending := none }
def doneL (r : Loop) (c : Code) : Loop := { r with state := .done, pending := some c }
def binds : List Tmp → List Value → Env → Env
  | t :: ts, v :: vs, e => binds ts vs ((t, v) :: e)
  | _, _, e => e
theorem binds_knows : ∀ (ps : List Tmp) (vs : List Value) (e : Env) (a : Act), Knows e a → (ps.all fun t => Nat.blt t a.tmps.size) = true →
    Knows (binds ps vs e) { a with tmps := (ps.zip vs).foldl (fun tmps p => tmps.setIfInBounds p.1 p.2) a.tmps } ∧ ((ps.zip vs).foldl (fun tmps p => tmps.setIfInBounds p.1 p.2) a.tmps).size = a.tmps.size
  | [], vs, e, a, k, _ => by cases vs <;> exact ⟨k, rfl⟩
  | t :: ts, [], e, a, k, _ => ⟨k, rfl⟩
  | t :: ts, v :: vs, e, a, k, h => by
    simp only [List.all_cons, Bool.and_eq_true] at h
    have hlt : t < a.tmps.size := by simpa using h.1
    have k' := k.put (v := v) hlt
    have := binds_knows ts vs ((t, v) :: e) { a with tmps := a.tmps.setIfInBounds t v } k' (by simpa using h.2)
    simpa [binds] using this

/-- What a round's body comes to. -/
def RoundR (C' : Ctx) (S1 : States) (X1 : States) : Ending → World → Prop := fun e w' => ∃ b, e = .returned (.bool b) ∧ ∃ L' I', ((b = true ∧ S1 L' I') ∨ (b = false ∧ X1 L' I')) ∧ Own C' L' I' w'
def SL (l : Nat) (r : Loop) (S : States) : States := fun L I => ∃ L1, L = ob l (.loop (rdyL r)) :: L1 ∧ S L1 I
def XL (l : Nat) (r : Loop) (X : Code → States) : States := fun L I => ∃ c L1, L = ob l (.loop (doneL r c)) :: L1 ∧ X c L1 I
abbrev rq (P : Program) (l : Nat) (r : Loop) (C' : Ctx) (S1 : States) (X1 : Code → States) : Exit → Act → World → Prop := roundPost P l (RoundR C' (SL l r S1) (XL l r X1))
/-- Behind the assignment to the loop's left sides. -/
def rb (P : Program) (l : Nat) (body : Code) (q : Exit → Act → World → Prop) : Act → World → Prop := fun a w => ∃ w₂, (Instr.beginRound l).run P w = .ok () w₂ ∧ cw (some l) P body q a w₂
def never : Exit → Act → World → Prop := fun _ _ _ => False

theorem r_begin {l : Nat} {r : Loop} {body : Code} (i : Nat) (hi : L[i]? = some (ob l (.loop (rdyL r)))) (h : Ent n C e D (L.set i (ob l (.loop (busyL r)))) I (cw (some l) P body Q)) : Ent n C e D L I (rb P l body Q) := fun a w kn s d ho => by
  obtain ⟨ho', hw⟩ := write_own (y := .loop (busyL r)) ho i hi
  refine ⟨_, run_beginRound hw rfl, ?_⟩
  exact h a _ kn s d ho'
theorem r_end {l : Nat} {r : Loop} {S1 : States} {X1 : Code → States} {L2 Lr I2 : List Atom} (i : Nat) (ix jx : List Nat) (hi : L[i]? = some (ob l (.loop (busyL r)))) (hp : pull (L.eraseIdx i) ix = some (L2, Lr)) (hI : picks I jx = some I2) (hS : S1 L2 I2) : Ent n C e D L I (rq P l r C S1 X1 .normal) := fun a w kn s d ho => by
  obtain ⟨ho', hw⟩ := write_own (y := .loop (rdyL r)) ho i hi
  refine ⟨_, _, run_endRound hw none, true, rfl, ob l (.loop (rdyL r)) :: L2, I2, .inl ⟨rfl, L2, rfl, hS⟩, ?_⟩
  have hi2 : (L.set i (ob l (.loop (rdyL r))))[i]? = some (ob l (.loop (rdyL r))) := by
    have hlt := (List.getElem?_eq_some_iff.1 hi).1
    simp [hlt]
  have he : (L.set i (ob l (.loop (rdyL r)))).eraseIdx i = L.eraseIdx i := by
    rw [List.eraseIdx_set_eq]
  refine Own.sub (ix := i :: ix) (Lr := Lr) ho' ?_ (picks_mem hI)
  unfold pull
  rw [hi2, he, hp]
theorem r_left {l : Nat} {r : Loop} {S1 : States} {X1 : Code → States} {L2 Lr I2 : List Atom} {x : Exit} {c : Code} (i : Nat) (ix jx : List Nat) (hc : x = .ret ∧ c = .ret ∨ (∃ id, x = .exit id ∧ c = .exit id) ∨ ∃ t, x = .goto t ∧ c = .goto t) (hi : L[i]? = some (ob l (.loop (busyL r)))) (hp : pull (L.eraseIdx i) ix = some (L2, Lr)) (hI : picks I jx = some I2) (hS : X1 c L2 I2) : Ent n C e D L I (rq P l r C S1 X1 x) := fun a w kn s d ho => by
  obtain ⟨ho', hw⟩ := write_own (y := .loop (doneL r c)) ho i hi
  have hi2 : (L.set i (ob l (.loop (doneL r c))))[i]? = some (ob l (.loop (doneL r c))) := by
    have hlt := (List.getElem?_eq_some_iff.1 hi).1
    simp [hlt]
  have he : (L.set i (ob l (.loop (doneL r c)))).eraseIdx i = L.eraseIdx i := by
    rw [List.eraseIdx_set_eq]
  have fin : RoundR C (SL l r S1) (XL l r X1) (.returned (.bool false)) { w with heap := w.heap.setIfInBounds l (.loop (doneL r c)) } := by
    refine ⟨false, rfl, ob l (.loop (doneL r c)) :: L2, I2, .inr ⟨rfl, c, L2, rfl, hS⟩, ?_⟩
    refine Own.sub (ix := i :: ix) (Lr := Lr) ho' ?_ (picks_mem hI)
    unfold pull
    rw [hi2, he, hp]
  rcases hc with ⟨rfl, rfl⟩ | ⟨id, rfl, rfl⟩ | ⟨t, rfl, rfl⟩
  · exact ⟨_, _, run_endRound hw (some .ret), fin⟩
  · exact ⟨_, _, run_endRound hw (some (.exit id)), fin⟩
  · exact ⟨_, _, run_endRound hw (some (.goto t)), fin⟩

def markD (b : Nat) : Deferred := { target := .collected b, args := #[] }
/-- The statement. -/
theorem c_range2 {fo : Operand} {ps : List Tmp} {assign body : Code} {f : FuncId} {cap : List Value} {xs : List (List Value)} {Li Ii Lr L0 I0 : List Atom} {fin : List Atom → Prop} {finX : Nat → List Atom → Prop} (S : Nat → States) (X : Nat → Code → States) (ix jx : List Nat)
    (it : It2 P f cap Li Ii xs fin finX) (hx : ev e fo = some (.func (.func f) #[] cap.toArray)) (hp : pull L ix = some (Li ++ L0, Lr)) (hI : picks I jx = some (Ii ++ I0)) (h0 : S 0 L0 I0) (hlen : ∀ x ∈ xs, x.length = ps.length) (hps : (ps.all fun t => Nat.blt t n) = true)
    (hround : ∀ C' l r k x L I, xs[k]? = some x → S k L I → Ent n C' (binds ps x e) [] (ob l (.loop (rdyL r)) :: L) I (cw (some l) P assign (Exit.then (rb P l body (rq P l r C' (S (k + 1)) (X k))) never)))
    (hdone : ∀ b L1 L2 I2, fin L1 → S xs.length L2 I2 → Ent n C e (markD b :: D) (ob b (.deferred (some [])) :: (L1 ++ L2 ++ Lr)) (I2 ++ I) (Q .normal))
    (hleft : ∀ b k c L1 L2 I2, k < xs.length → finX k L1 → X k c L2 I2 → Ent n C e (markD b :: D) (ob b (.deferred (some [])) :: (L1 ++ L2 ++ Lr)) (I2 ++ I) (cw none P c Q)) :
    Ent n C e D L I (cw none P (.rangeFunc fo ps.toArray assign body) Q) := fun a w kn s d ho => by
  refine wpIn_rangeFunc (fun fn _ => ?_)
  let bD := w.heap.size
  let w1 : World := { w with heap := w.heap.push (.deferred (some [])) }
  let r : Loop := { state := .ready, pending := none, fn := fn, tmps := a.tmps, params := ps.toArray, assign := assign, body := body, defers := bD }
  let l := w1.heap.size
  let w2 : World := { w1 with heap := w1.heap.push (.loop r) }
  have o1 : Own C (ob bD (.deferred (some [])) :: L) I w1 := alloc_own ho _
  have o2 : Own C (ob l (.loop r) :: ob bD (.deferred (some [])) :: L) I w2 := alloc_own o1 _
  have hr : rdyL r = r := rfl
  -- the call
  have hS0 : SL l r (S 0) (ob l (.loop (rdyL r)) :: L0) I0 := ⟨L0, rfl, h0⟩
  have hcon := it l (fun k => SL l r (S k)) (fun k => XL l r (X k)) (ob l (.loop (rdyL r)) :: L0) I0 hS0 (fun k x L I hk hs => by
    obtain ⟨L1, rfl, hs⟩ := hs
    intro C' w' ho'
    obtain ⟨h1, hle, hA⟩ := ho'.atom 0 rfl
    have hw' : w'.heap[l]? = some (.loop r) := hle _ _ hA
    have hxl : x.length = ps.length := hlen x (List.mem_of_getElem? hk)
    refine ⟨_, _, _, _, run_yield hw' (by show x.toArray.size = ps.toArray.size; simpa using hxl), ?_⟩
    have hb := binds_knows ps x e { tmps := a.tmps, defers := [] } kn (by simpa [s] using hps)
    have hz : ((ps.toArray.zip x.toArray).foldl (fun tmps (t, a) => tmps.setIfInBounds t a) a.tmps) = (ps.zip x).foldl (fun tmps p => tmps.setIfInBounds p.1 p.2) a.tmps := by
      simp
    refine roundIn_of_wpIn (F := Fence.wide) trivial ?_
    show cw (some l) P assign _ _ _
    rw [show r.params = ps.toArray from rfl, show r.tmps = a.tmps from rfl, hz]
    have := hround C' l r k x L1 I hk hs { tmps := (ps.zip x).foldl (fun tmps p => tmps.setIfInBounds p.1 p.2) a.tmps, defers := [] } w' hb.1 (hb.2.trans s) rfl ho'
    exact this)
  have hmove : Own C (ob l (.loop (rdyL r)) :: ob bD (.deferred (some [])) :: (Li ++ L0 ++ Lr)) I w2 := by
    obtain ⟨h, hI0, o⟩ := o2
    obtain ⟨k1, k2, d1, l1, l2, s1, s2⟩ := o.sep
    obtain ⟨m1, m2, d2, l3, l4, s3, s4⟩ := s2
    obtain ⟨q1, q2, d3, l5, l6, s5, s6⟩ := Sep.pull hp s4
    refine ⟨h, hI0, ⟨k1, k2, d1, l1, l2, s1, m1, m2, d2, l3, l4, s3, (Sep.join d3 s5 s6).up (both_le l5 l6)⟩, o.facts, o.base, o.d1, o.d2, o.d3, o.l1, o.l2, o.l3, o.os, o.tape, o.output⟩
  -- the callee's atoms, and what stays
  have hlist : ∃ ix', pull (ob l (.loop (rdyL r)) :: ob bD (.deferred (some [])) :: (Li ++ L0 ++ Lr)) ix' = some (Li ++ ob l (.loop (rdyL r)) :: L0, ob bD (.deferred (some [])) :: Lr) := by
    have hrep : ∀ (M N : List Atom) (A : Atom), pull (A :: (M ++ N)) (List.replicate M.length 1) = some (M, A :: N) := by
      intro M
      induction M with
      | nil => intro N A; rfl
      | cons B M ih =>
        intro N A
        show pull (A :: B :: (M ++ N)) (1 :: List.replicate M.length 1) = _
        unfold pull
        simp only [List.getElem?_cons_succ, List.getElem?_cons_zero, List.eraseIdx_cons_succ, List.eraseIdx_cons_zero]
        rw [ih N A]
    have happ : ∀ (p q : List Nat) (L M R M' R' : List Atom), pull L p = some (M, R) → pull R q = some (M', R') → pull L (p ++ q) = some (M ++ M', R') := by
      intro p
      induction p with
      | nil =>
        intro q L M R M' R' h1 h2
        simp only [pull, Option.some.injEq, Prod.mk.injEq] at h1
        obtain ⟨rfl, rfl⟩ := h1
        simpa using h2
      | cons i p ih =>
        intro q L M R M' R' h1 h2
        unfold pull at h1
        cases hi : L[i]? with
        | none => rw [hi] at h1; cases h1
        | some A =>
          rw [hi] at h1
          cases hq : pull (L.eraseIdx i) p with
          | none => rw [hq] at h1; cases h1
          | some z =>
            obtain ⟨M1, R1⟩ := z
            rw [hq] at h1
            simp only [Option.some.injEq, Prod.mk.injEq] at h1
            obtain ⟨rfl, rfl⟩ := h1
            show pull L (i :: (p ++ q)) = _
            unfold pull
            rw [hi]
            simp only
            rw [ih q _ _ _ _ _ hq h2]
            rfl
    refine ⟨List.replicate Li.length 2 ++ (0 :: List.replicate L0.length 1), ?_⟩
    refine happ _ _ _ Li (ob l (.loop (rdyL r)) :: ob bD (.deferred (some [])) :: (L0 ++ Lr)) _ _ ?_ ?_
    · have hrep2 : ∀ (M N : List Atom) (A B : Atom), pull (A :: B :: (M ++ N)) (List.replicate M.length 2) = some (M, A :: B :: N) := by
        intro M
        induction M with
        | nil => intro N A B; rfl
        | cons E M ih =>
          intro N A B
          show pull (A :: B :: E :: (M ++ N)) (2 :: List.replicate M.length 2) = _
          unfold pull
          simp only [List.getElem?_cons_succ, List.getElem?_cons_zero, List.eraseIdx_cons_succ, List.eraseIdx_cons_zero]
          rw [ih N A B]
      have := hrep2 Li (L0 ++ Lr) (ob l (.loop (rdyL r))) (ob bD (.deferred (some [])))
      simpa [List.append_assoc] using this
    · show pull (ob l (.loop (rdyL r)) :: ob bD (.deferred (some [])) :: (L0 ++ Lr)) (0 :: List.replicate L0.length 1) = _
      unfold pull
      simp only [List.getElem?_cons_zero, List.eraseIdx_cons_zero]
      rw [hrep L0 Lr]
  obtain ⟨ix', hpull⟩ := hlist
  obtain ⟨C', oc, back⟩ := hmove.handed (If := Ii ++ I0) hpull (picks_mem hI)
  have hcalls := hcon.2 C' w2 oc
  have hres : (resolve a.eval (rangeCall fo l) 0).run P w2 = .ok { target := .fn (.func f) cap.toArray, args := #[.func (.yield l) #[] #[]] } w2 := by
    simp only [resolve, rangeCall, kn.eval hx, Deferred.ofValue]
    simp [Act.eval]
  have hinv : (invoke (.fn (.func f) cap.toArray) #[.func (.yield l) #[] #[]]).run P w2 = .ok (.enter f (Value.func (.yield l) #[] #[] :: cap).toArray) w2 := by
    have := run_callFunc (P := P) hcon.1 (#[Value.func (.yield l) #[] #[]] ++ cap.toArray) w2
    simpa [invoke] using this
  refine ⟨l, [markD bD], w2, _, w2, f, _, w2, ?_, hres, fun f' _ => trivial, hinv, fun h => (by cases h), ?_⟩
  · simp [Instr.enterLoop, Fence.wide, fen, newObj, Sem.run, markD, bD, l, w1, w2, r]
  · refine (callsIn_wide.2 hcalls).mono ?_
    rintro x w3 ⟨v, rfl, L', I', ⟨L1, L2, rfl, hend⟩, o3⟩
    have o4 := back _ _ _ o3
    have hde : ([markD bD] ++ a.defers) = markD bD :: D := by rw [d]; rfl
    -- out of what came back: the loop's record
    have key : ∀ (M : List Atom) (y : Loop), L2 = ob l (.loop y) :: M → y.state ≠ .busy → ∃ w4, (Instr.endLoop l).run P w3 = .ok y.pending w4 ∧ Own C (ob bD (.deferred (some [])) :: (L1 ++ M ++ Lr)) (I' ++ I) w4 := by
      rintro M y rfl hy
      have hi : (L1 ++ ob l (.loop y) :: M ++ ob bD (.deferred (some [])) :: Lr)[L1.length]? = some (ob l (.loop y)) := by simp
      obtain ⟨o5, hw⟩ := write_own (y := .loop { y with state := .exhausted }) o4 L1.length hi
      refine ⟨_, run_endLoop hw hy, ?_⟩
      obtain ⟨h, hI0, o⟩ := o5
      have hs : Sep (L1 ++ ob l (.loop { y with state := .exhausted }) :: M ++ ob bD (.deferred (some [])) :: Lr) h := by
        have := o.sep
        simpa using this
      obtain ⟨k1, k2, d1, l1, l2, s1, s2⟩ := Sep.append hs
      obtain ⟨k3, k4, d2, l3, l4, s3, s4⟩ := Sep.append s1
      obtain ⟨k5, k6, d3, l5, l6, _, s5⟩ := s4
      obtain ⟨k7, k8, d4, l7, l8, s6, s7⟩ := s2
      refine ⟨h, hI0, ?_, o.facts, o.base, o.d1, o.d2, o.d3, o.l1, o.l2, o.l3, o.os, o.tape, o.output⟩
      have e1 : apart k3 k6 := d2.mono_right l6
      have e2 : apart (both k3 k6) k8 := (d1.mono_left (both_le l3 (l6.trans l4))).mono_right l8
      have e3 : apart k7 (both (both k3 k6) k8) := apart_both' ((d1.mono_left (both_le l3 (l6.trans l4))).mono_right l7).symm d4
      refine ⟨k7, both (both k3 k6) k8, e3, l7.trans l2, both_le (both_le (l3.trans l1) ((l6.trans l4).trans l1)) (l8.trans l2), s6, ?_⟩
      exact Sep.join e2 (Sep.join e1 s3 s5) s7
    rcases hend with ⟨hf, hs⟩ | ⟨k, hk, hf, hs⟩
    · obtain ⟨M, hM, hs⟩ := hs
      obtain ⟨w4, he, o5⟩ := key M _ hM (by simp [rdyL])
      refine ⟨_, w4, he, ?_⟩
      show Q .normal _ w4
      exact hdone bD L1 M I' hf hs _ w4 kn s hde o5
    · obtain ⟨c, M, hM, hs⟩ := hs
      obtain ⟨w4, he, o5⟩ := key M _ hM (by simp [doneL])
      refine ⟨_, w4, he, ?_⟩
      show cw none P c Q _ w4
      exact hleft bD k c L1 M I' hk hf hs _ w4 kn s hde o5

theorem c_range {fo : Operand} {ps : List Tmp} {assign body : Code} {f : FuncId} {cap : List Value} {xs : List (List Value)} {Li Ii Lr L0 I0 : List Atom} {fin : List Atom → Prop} (S : Nat → States) (X : Nat → Code → States) (ix jx : List Nat)
    (it : It P f cap Li Ii xs fin) (hx : ev e fo = some (.func (.func f) #[] cap.toArray)) (hp : pull L ix = some (Li ++ L0, Lr)) (hI : picks I jx = some (Ii ++ I0)) (h0 : S 0 L0 I0) (hlen : ∀ x ∈ xs, x.length = ps.length) (hps : (ps.all fun t => Nat.blt t n) = true)
    (hround : ∀ C' l r k x L I, xs[k]? = some x → S k L I → Ent n C' (binds ps x e) [] (ob l (.loop (rdyL r)) :: L) I (cw (some l) P assign (Exit.then (rb P l body (rq P l r C' (S (k + 1)) (X k))) never)))
    (hdone : ∀ b L1 L2 I2, fin L1 → S xs.length L2 I2 → Ent n C e (markD b :: D) (ob b (.deferred (some [])) :: (L1 ++ L2 ++ Lr)) (I2 ++ I) (Q .normal))
    (hleft : ∀ b k c L1 L2 I2, k < xs.length → fin L1 → X k c L2 I2 → Ent n C e (markD b :: D) (ob b (.deferred (some [])) :: (L1 ++ L2 ++ Lr)) (I2 ++ I) (cw none P c Q)) :
    Ent n C e D L I (cw none P (.rangeFunc fo ps.toArray assign body) Q) := c_range2 S X ix jx it.two hx hp hI h0 hlen hps hround hdone hleft

/-- The mark is taken off at the return. -/
theorem e_mark {fn : Func} {post : Value → List Atom → List Atom → Prop} {I0 : List Atom} {b : Nat} (i : Nat) (hi : L[i]? = some (ob b (.deferred (some [])))) (h : Ent n C e D (L.set i (ob b (.deferred none))) I (bq P fn C I0 post .ret)) : Ent n C e (markD b :: D) L I (bq P fn C I0 post .ret) := fun a w kn s d ho => by
  obtain ⟨ho', hw⟩ := write_own (y := .deferred none) ho i hi
  have ht : (Instr.takeDeferred b).run P w = .ok [] { w with heap := w.heap.setIfInBounds b (.deferred none) } := by
    simp [Instr.takeDeferred, getObj, setObj, Sem.run, hw]
  have h1 := h { a with defers := D } _ kn s rfl ho'
  show LeavesInM Fence.wide 0 P fn a.tmps _ a.defers .returning w
  rw [d]
  exact ⟨by simp, .inl ⟨b, _, rfl, ht, h1⟩⟩
end
end Go.Sl
