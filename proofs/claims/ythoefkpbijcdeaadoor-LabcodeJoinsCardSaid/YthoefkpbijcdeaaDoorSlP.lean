/- errors.As: functions without a body, methods by their names. -/
import Derived.Test.YthoefkpbijcdeaaDoorSlO
import Derived.Laws.Externs
set_option linter.unusedVariables false
set_option linter.unusedSimpArgs false
namespace Go.Sl
open Go Go.RowKit Go.Extern
section
variable {n : Nat} {C : Ctx} {e : Env} {D : List Deferred} {L I : List Atom} {P : Program} {ro : Option Nat} {Q : Exit → Act → World → Prop} {K X : Act → World → Prop}

/-- A loop under way: its rounds one by one. -/
theorem c_rounds {c : Code} (m : Nat) (Z : Nat → Act → World → Prop) (h0 : Ent n C e D L I (Z 0))
    (round : ∀ q, q < m → ∀ a w, Z q a w → cw ro P c (Exit.then (Z (q + 1)) Q) a w) (hend : ∀ q, m ≤ q → ∀ a w, ¬ Z q a w) : Ent n C e D L I (cw ro P (.loop c) Q) := by
  intro a w hk hs hd ho b k cs hro hb hr
  have key : ∀ r q a w, m - q = r → Z q a w → ∃ x a' w', Q x a' w' ∧ ArrivesIn (Machine.fenced P (fen ro)) P (lone (b.atR a (.code c :: .inLoop c :: k)) cs w) b k cs x a' w' := by
    intro r
    induction r with
    | zero => intro q a w hq hz; exact absurd hz (hend q (by omega) a w)
    | succ r ih =>
      intro q a w hq hz
      obtain ⟨x, a₁, w₁, hx, harr⟩ := round q (by omega) a w hz b (.inLoop c :: k) cs hro hb hr
      cases x with
      | normal =>
        obtain ⟨x₂, a₂, w₂, hq₂, harr₂⟩ := ih (q + 1) a₁ w₁ (by omega) hx
        exact ⟨x₂, a₂, w₂, hq₂, .of_steps (StepsIn.trans harr (.one (fenced_calm hb hr rfl) stepR_inLoop)) harr₂⟩
      | exit id => exact ⟨_, a₁, w₁, hx, .pass (x := .inLoop c) rfl (fun _ _ => .inl (by simp)) harr⟩
      | goto l => exact ⟨_, a₁, w₁, hx, .pass (x := .inLoop c) rfl (fun _ _ => .inl (by simp)) harr⟩
      | ret => exact ⟨_, a₁, w₁, hx, .pass (x := .inLoop c) rfl (fun _ _ => .inl (by simp)) harr⟩
      | panic ch => exact ⟨_, a₁, w₁, hx, .pass (x := .inLoop c) rfl (fun _ _ => .inl (by simp)) harr⟩
      | outgrown => exact ⟨_, a₁, w₁, hx, .pass (x := .inLoop c) rfl (fun _ _ => .inl (by simp)) harr⟩
  obtain ⟨x, a', w', hq, harr⟩ := key _ 0 a w rfl (h0 a w hk hs hd ho)
  exact ⟨x, a', w', hq, .of_steps (.one (fenced_calm hb hr rfl) stepR_loop) harr⟩
/-- The rounds of a loop that ends within m of them. -/
def Rd (ro : Option Nat) (P : Program) (c : Code) (Q : Exit → Act → World → Prop) : Nat → Act → World → Prop
  | 0 => fun _ _ => False
  | m + 1 => cw ro P c (Exit.then (Rd ro P c Q m) Q)
theorem c_unroll {c : Code} (m : Nat) (h : Ent n C e D L I (Rd ro P c Q m)) : Ent n C e D L I (cw ro P (.loop c) Q) :=
  c_rounds m (fun q => if q < m then Rd ro P c Q (m - q) else fun _ _ => False) (by
    by_cases hm : 0 < m
    · rw [if_pos hm]; exact h
    · have : m = 0 := by omega
      subst this
      exact h) (fun q hq a w hz => by
      rw [if_pos hq] at hz
      obtain ⟨r, hr⟩ : ∃ r, m - q = r + 1 := ⟨m - q - 1, by omega⟩
      rw [hr] at hz
      have e : (if q + 1 < m then Rd ro P c Q (m - (q + 1)) else fun _ _ => False) = Rd ro P c Q r := by
        by_cases h1 : q + 1 < m
        · rw [if_pos h1]; congr 1; omega
        · rw [if_neg h1]
          have : r = 0 := by omega
          subst this; rfl
      rw [e]
      exact hz) (fun q hq a w hz => by rw [if_neg (by omega)] at hz; exact hz)
theorem c_round {c : Code} {m : Nat} (h : Ent n C e D L I (cw ro P c (Exit.then (Rd ro P c Q m) Q))) : Ent n C e D L I (Rd ro P c Q (m + 1)) := h
/-- What lays a block and puts something of its address. -/
theorem o_boxf {o : Oper} {dt : Tmp} {cs : List Value} {T : TypeId} (f : Nat → Value) (hdst : o.dst = some dt) (hd : Nat.blt dt n = true) (hp : plainOp o.op = true) (hk : known e o = true)
    (hr : ∀ w, (execOp (rho e) o).run P w = .ok (.value (f w.heap.size)) { w with heap := w.heap.push (.cells cs.toArray T (0, 0)) })
    (h : ∀ b, Ent n C ((dt, f b) :: e) D (pt b cs T :: L) I K) : Ent n C e D L I (ow ro P o Q K) := o_new (f := f) hdst hd hp hk hr h
/-- A call that enters a function, by whatever name, by its contract. -/
theorem o_into {o : Oper} {dt : Tmp} {f : FuncId} {args : List Value} {Lf Lr If : List Atom} {post : Value → List Atom → List Atom → Prop}
    (ix jx : List Nat) (spec : Con P f args Lf If post) (hdst : o.dst = some dt) (hpl : plainOp o.op = true) (hk : known e o = true) (hr : ∀ w, (execOp (rho e) o).run P w = .ok (.enter f args.toArray) w) (hp : pull L ix = some (Lf, Lr)) (hI : picks I jx = some If) (hd : Nat.blt dt n = true)
    (h : ∀ v L' I', post v L' I' → Ent n C ((dt, v) :: e) D (L' ++ Lr) (I' ++ I) K) : Ent n C e D L I (ow ro P o Q K) :=
  fun a w k s d ho => by
    obtain ⟨C', o1, back⟩ := ho.handed hp (picks_mem hI)
    refine ow_enter (plain_nd hpl).1 (by rw [exec_rho k (plain_nd hpl).2 hk]; exact hr w) (spec.2 C' w o1) ?_
    rintro v w'' ⟨L', I', hq, ho'⟩
    have hlt : dt < a.tmps.size := by rw [s]; simpa using hd
    rw [hdst]
    exact h v L' I' hq _ _ (k.put hlt) (by simp [Act.put, s]) (by simpa [Act.put] using d) (back _ _ _ ho')
/-- A function without a body that reads one block. -/
theorem o_extr {dt : Tmp} {fo : Operand} {xs : List Operand} {ats : Array TypeId} {ty : TypeId} {pos : String} {aft : Array Edge} {g : Option (Nat × Bool)} {f : FuncId} {vals : List Value} {H : Array Value → Sem Value} {b T : Nat} {cs : List Value} {v : Value} (i : Nat)
    (hc : ∀ (args : Array Value) (w : World), (callFunc f args).run P w = ((H args).run P w).andThen fun v w' => .ok (.value v) w') (hx : ev e fo = some (.func (.func f) #[] #[])) (hv : evs e xs = some vals) (hi : L[i]? = some (pt b cs T))
    (hr : ∀ w : World, w.heap[b]? = some (.cells cs.toArray T (0, 0)) → (H vals.toArray).run P w = .ok v w) (hd : Nat.blt dt n = true)
    (h : Ent n C ((dt, v) :: e) D L I K) : Ent n C e D L I (ow ro P ⟨some dt, .call ⟨.value fo, xs.toArray, ats⟩, ty, pos, aft, g⟩ Q K) :=
  ow_pure rfl hd (by simp) (fun a w k ho => by
    obtain ⟨h1, hl, hA⟩ := ho.atom i hi
    have hb : w.heap[b]? = some (.cells cs.toArray T (0, 0)) := hl _ _ hA
    have hval := k.evals hv
    have h1 : (xs.toArray.map a.eval) = vals.toArray := by rw [List.map_toArray, hval]
    simp only [execOp, resolve, h1, k.eval hx, Deferred.ofValue, Sem.run_bind, Sem.run_pure, Result.andThen_ok, invoke]
    rw [show (#[] ++ vals.toArray ++ #[] : Array Value) = vals.toArray by simp, hc, hr w hb]
    rfl) h
/-- The same of one that lays the contents of a block over another one. -/
theorem o_exts {dt : Tmp} {fo : Operand} {xs : List Operand} {ats : Array TypeId} {ty : TypeId} {pos : String} {aft : Array Edge} {g : Option (Nat × Bool)} {f : FuncId} {vals : List Value} {H : Array Value → Sem Value} {b b2 T T2 : Nat} {cs old : List Value} {v : Value} (i j : Nat)
    (hc : ∀ (args : Array Value) (w : World), (callFunc f args).run P w = ((H args).run P w).andThen fun v w' => .ok (.value v) w') (hx : ev e fo = some (.func (.func f) #[] #[])) (hv : evs e xs = some vals) (hi : L[i]? = some (pt b old T)) (hj : L[j]? = some (pt b2 cs T2))
    (hr : ∀ w : World, w.heap[b]? = some (.cells old.toArray T (0, 0)) → w.heap[b2]? = some (.cells cs.toArray T2 (0, 0)) → (H vals.toArray).run P w = .ok v { w with heap := w.heap.setIfInBounds b (.cells cs.toArray T (0, 0)) }) (hd : Nat.blt dt n = true)
    (h : Ent n C ((dt, v) :: e) D (L.set i (pt b cs T)) I K) : Ent n C e D L I (ow ro P ⟨some dt, .call ⟨.value fo, xs.toArray, ats⟩, ty, pos, aft, g⟩ Q K) :=
  ow_turn rfl hd (by simp) fun a w k ho => by
    obtain ⟨h2, hl2, hA2⟩ := ho.atom j hj
    have hb2 : w.heap[b2]? = some (.cells cs.toArray T2 (0, 0)) := hl2 _ _ hA2
    obtain ⟨ho', hb⟩ := write_own (y := .cells cs.toArray T (0, 0)) ho i hi
    have hval := k.evals hv
    have h1 : (xs.toArray.map a.eval) = vals.toArray := by rw [List.map_toArray, hval]
    refine ⟨v, _, _, I, ?_, ho', h⟩
    simp only [execOp, resolve, h1, k.eval hx, Deferred.ofValue, Sem.run_bind, Sem.run_pure, Result.andThen_ok, invoke]
    rw [show (#[] ++ vals.toArray ++ #[] : Array Value) = vals.toArray by simp, hc, hr w hb hb2]
    rfl

/-! ### Values of reflectlite -/
theorem rlm (z : Sem Value) (f : TypeId → Addr → Nat → Nat → Sem Value) (v : Value) : ReflectliteValue.method z f #[v] = (do match ← ReflectliteValue.parts v with | none => z | some (t, a, fl) => f t a fl (fl % 32)) := rfl
theorem rls (v x : Value) : ReflectliteValue.set #[v, x] = (do
    let (some (dst, a, fl), some (src, b, _)) := (← ReflectliteValue.parts v, ← ReflectliteValue.parts x)
      | unsupported (.noEntry "extern/(internal/reflectlite.Value).Set.zeroValue")
    if fl / ReflectliteValue.flagAddr % 2 == 0 then unsupported (.noEntry "extern/(internal/reflectlite.Value).Set.unaddressable")
    let val ← loadVar src b
    if ← Rtype.directlyAssignable dst src then storeVar dst a val
    else if ← Rtype.implements dst src then
      if (← Rtype.kind src) == 20 then
        match val with
        | .nilIface => unsupported (.noEntry "extern/reflectlite: a nil value of one interface type handed on as a value of another")
        | _ => storeVar dst a val
      else storeVar dst a (.iface src val)
    else panicString ("reflectlite.Set: value of type " ++ (← Rtype.spelt src) ++ " is not assignable to type " ++ (← Rtype.spelt dst))
    pure (.tuple #[])) := rfl
/-- IsNil of a pointer's Value. -/
theorem run_isNil {tp : TypeId} {d : TypeDesc} {z : Sem Value} {v : Value} {b : Nat} {p : Addr} {fl : Nat} (hparts : ∀ w, (ReflectliteValue.parts v).run P w = .ok (some (tp, ⟨b, 0, none⟩, fl)) w) (hfl : fl % 32 = 22) (hu : P.underlying tp = some d) (ha : aggD d = false) (w : World) (hb : w.heap[b]? = some (.cells #[.pointer (some p)] tp (0, 0))) :
    (ReflectliteValue.method z ReflectliteValue.isNil #[v]).run P w = .ok (.bool false) w := by
  have hl := run_loadVar_of (run_load1 (P := P) hu ha (w := w) (p := ⟨b, 0, none⟩) (v := .pointer (some p)) (by rw [cell_of hb]; rfl))
  rw [rlm]
  simp only [Sem.run_bind, hparts, Result.andThen, hfl]
  simp [ReflectliteValue.isNil, hl, Result.andThen]
/-- Elem of a pointer's Value. -/
theorem run_elemV {tp T : TypeId} {d : TypeDesc} {z : Sem Value} {v r : Value} {b : Nat} {p : Addr} {fl : Nat} (hparts : ∀ w, (ReflectliteValue.parts v).run P w = .ok (some (tp, ⟨b, 0, none⟩, fl)) w) (hfl : fl % 32 = 22) (hu : P.underlying tp = some d) (ha : aggD d = false)
    (hel : ∀ w, (Rtype.elem? tp).run P w = .ok (some T) w) (hmk : ∀ w, (ReflectliteValue.mk T p ReflectliteValue.flagAddr).run P w = .ok r w) (w : World) (hb : w.heap[b]? = some (.cells #[.pointer (some p)] tp (0, 0))) :
    (ReflectliteValue.method z ReflectliteValue.elem #[v]).run P w = .ok r w := by
  have hl := run_loadVar_of (run_load1 (P := P) hu ha (w := w) (p := ⟨b, 0, none⟩) (v := .pointer (some p)) (by rw [cell_of hb]; rfl))
  rw [rlm]
  simp only [Sem.run_bind, hparts, Result.andThen, hfl]
  simp [ReflectliteValue.elem, hl, hel, hmk, Result.andThen]
/-- Set of a struct's variable. -/
theorem run_setV {T : TypeId} {d : TypeDesc} {v x : Value} {b b2 : Nat} {cs old : List Value} {f1 f2 : Nat} (h1 : ∀ w, (ReflectliteValue.parts v).run P w = .ok (some (T, ⟨b, 0, none⟩, f1)) w) (h2 : ∀ w, (ReflectliteValue.parts x).run P w = .ok (some (T, ⟨b2, 0, none⟩, f2)) w) (hf : (f1 / ReflectliteValue.flagAddr % 2 == 0) = false)
    (hda : ∀ w, (Rtype.directlyAssignable T T).run P w = .ok true w) (hu : P.underlying T = some d) (ha : aggD d = true) (hsz : P.cellsOf T = cs.length) (hin : (P.info? T).isSome = true) (hone : oneAll cs = true) (hlen : cs.length = old.length) (w : World)
    (hb : w.heap[b]? = some (.cells old.toArray T (0, 0))) (hb2 : w.heap[b2]? = some (.cells cs.toArray T (0, 0))) :
    (ReflectliteValue.set #[v, x]).run P w = .ok (.tuple #[]) { w with heap := w.heap.setIfInBounds b (.cells cs.toArray T (0, 0)) } := by
  have hl := run_loadVar_of (run_loadn (P := P) hu ha (w := w) (p := ⟨b2, 0, none⟩) cs hsz hin (fun j v hj => by rw [add_none, cell_of hb2]; simpa using hj))
  have hst := run_store_pt (P := P) (t := T) (o := 0) (v := .agg cs.toArray) (vs := cs) hb (by simp [Value.cells]) hsz hin hone (by omega)
  have hov : over old 0 cs = cs := by
    apply List.ext_getElem?
    intro q
    rw [over_get _ _ _ _ (by omega)]
    by_cases hq : q < cs.length
    · rw [if_pos ⟨by omega, by omega⟩]; simp
    · rw [if_neg (by omega), List.getElem?_eq_none (by omega), List.getElem?_eq_none (by omega)]
  rw [hov] at hst
  have hst' : (storeVar T ⟨b, 0, none⟩ (.agg cs.toArray)).run P w = .ok () { w with heap := w.heap.setIfInBounds b (.cells cs.toArray T (0, 0)) } := by
    simpa [Instr.storeAt, Instr.sureAddr] using hst
  rw [rls]
  simp only [Sem.run_bind, h1, h2, Result.andThen, hf, Bool.false_eq_true, if_false, Sem.run_pure, hl, hda, if_true, hst']
end
end Go.Sl
