/- Scopes, elements by their place, cuts of lists and strings, small reckoning. -/
import Derived.Test.YthoefkpbijcdeaaDoorSlJ
import Derived.Laws.Slices
set_option linter.unusedVariables false
set_option linter.unusedSimpArgs false
namespace Go.Sl
open Go Go.RowKit

/-! ### Scopes -/
theorem stepR_scope {P : Program} {b : Frame} {a : Act} {k : List Item} {cs : List Frame} {w : World} {c : Code} : step P (lone (b.atR a (.code (.scope c) :: k)) cs w) = .next (lone (b.atR a (.code c :: .inScope c :: k)) cs w) :=
  step_lone_go (by simp [stepG, stepG.exec, Frame.atR])
theorem stepR_inScope {P : Program} {b : Frame} {a : Act} {k : List Item} {cs : List Frame} {w : World} {c : Code} : step P (lone (b.atR a (.inScope c :: k)) cs w) = .next (lone (b.atR a k) cs w) :=
  step_lone_go (by simp [stepG, stepG.exec, Frame.atR])
theorem arr_scope {J : Machine → Prop} {P : Program} {m : Machine} {b : Frame} {k : List Item} {cs : List Frame} {x : Exit} {a : Act} {w : World} {c : Code} (hn : x ≠ .normal) (hg : ∀ l, x ≠ .goto l) (h : ArrivesIn J P m b (.inScope c :: k) cs x a w) : ArrivesIn J P m b k cs x a w := by
  cases x with
  | normal => exact (hn rfl).elim
  | goto l => exact (hg l rfl).elim
  | exit id => exact ⟨fun k' hk => h.1 k' (by simpa [exitTo] using hk), fun hr hk => h.2 hr (by simpa [exitTo] using hk)⟩
  | ret => exact h
  | panic ch => exact h
  | outgrown => exact h
def jumpTo (l : Nat) (Y : Act → World → Prop) (Q : Exit → Act → World → Prop) : Exit → Act → World → Prop
  | .goto l', a, w => l' = l ∧ Y a w
  | x, a, w => Q x a w
def noJump (Q : Exit → Act → World → Prop) : Exit → Act → World → Prop
  | .goto _, _, _ => False
  | x, a, w => Q x a w
section
variable {n : Nat} {C : Ctx} {e : Env} {D : List Deferred} {L I : List Atom} {P : Program} {ro : Option Nat} {Q : Exit → Act → World → Prop} {K X : Act → World → Prop}

theorem c_scope0 {c : Code} (h : Ent n C e D L I (cw ro P c (noJump Q))) : Ent n C e D L I (cw ro P (.scope c) Q) := by
  intro a w hk hs hd ho b k cs hro hb hr
  obtain ⟨x, a₁, w₁, hx, harr⟩ := h a w hk hs hd ho b (.inScope c :: k) cs hro hb hr
  have s1 : StepsIn (Machine.fenced P (fen ro)) P (lone (b.atR a (.code (.scope c) :: k)) cs w) (lone (b.atR a (.code c :: .inScope c :: k)) cs w) := .one (fenced_calm hb hr rfl) stepR_scope
  cases x with
  | normal => exact ⟨.normal, a₁, w₁, hx, .of_steps s1 (StepsIn.trans harr (.one (fenced_calm hb hr rfl) stepR_inScope))⟩
  | goto l => exact hx.elim
  | exit id => exact ⟨_, a₁, w₁, hx, .of_steps s1 (arr_scope (by simp) (by simp) harr)⟩
  | ret => exact ⟨_, a₁, w₁, hx, .of_steps s1 (arr_scope (by simp) (by simp) harr)⟩
  | panic ch => exact ⟨_, a₁, w₁, hx, .of_steps s1 (arr_scope (by simp) (by simp) harr)⟩
  | outgrown => exact ⟨_, a₁, w₁, hx, .of_steps s1 (arr_scope (by simp) (by simp) harr)⟩
/-- A scope out of which the run jumps forward to one label: what stands behind the label is walked where the jump is. -/
theorem c_scope {c rest : Code} (l : Nat) (hf : findLabel c l = some rest) (h : Ent n C e D L I (cw ro P c (jumpTo l (cw ro P rest (noJump Q)) Q))) : Ent n C e D L I (cw ro P (.scope c) Q) := by
  intro a w hk hs hd ho b k cs hro hb hr
  obtain ⟨x, a₁, w₁, hx, harr⟩ := h a w hk hs hd ho b (.inScope c :: k) cs hro hb hr
  have s1 : StepsIn (Machine.fenced P (fen ro)) P (lone (b.atR a (.code (.scope c) :: k)) cs w) (lone (b.atR a (.code c :: .inScope c :: k)) cs w) := .one (fenced_calm hb hr rfl) stepR_scope
  cases x with
  | normal => exact ⟨.normal, a₁, w₁, hx, .of_steps s1 (StepsIn.trans harr (.one (fenced_calm hb hr rfl) stepR_inScope))⟩
  | goto l' =>
    obtain ⟨rfl, hY⟩ := hx
    have hg : gotoIn l' (.inScope c :: k) = some (.code rest :: .inScope c :: k) := by simp [gotoIn, hf]
    have s2 := s1.trans (harr.1 _ hg)
    obtain ⟨x, a₂, w₂, hx, harr⟩ := hY b (.inScope c :: k) cs hro hb hr
    cases x with
    | normal => exact ⟨.normal, a₂, w₂, hx, .of_steps s2 (StepsIn.trans harr (.one (fenced_calm hb hr rfl) stepR_inScope))⟩
    | goto l => exact hx.elim
    | exit id => exact ⟨_, a₂, w₂, hx, .of_steps s2 (arr_scope (by simp) (by simp) harr)⟩
    | ret => exact ⟨_, a₂, w₂, hx, .of_steps s2 (arr_scope (by simp) (by simp) harr)⟩
    | panic ch => exact ⟨_, a₂, w₂, hx, .of_steps s2 (arr_scope (by simp) (by simp) harr)⟩
    | outgrown => exact ⟨_, a₂, w₂, hx, .of_steps s2 (arr_scope (by simp) (by simp) harr)⟩
  | exit id => exact ⟨_, a₁, w₁, hx, .of_steps s1 (arr_scope (by simp) (by simp) harr)⟩
  | ret => exact ⟨_, a₁, w₁, hx, .of_steps s1 (arr_scope (by simp) (by simp) harr)⟩
  | panic ch => exact ⟨_, a₁, w₁, hx, .of_steps s1 (arr_scope (by simp) (by simp) harr)⟩
  | outgrown => exact ⟨_, a₁, w₁, hx, .of_steps s1 (arr_scope (by simp) (by simp) harr)⟩
theorem q_nj (h : Ent n C e D L I (Q .normal)) : Ent n C e D L I (noJump Q .normal) := h
theorem q_nj_ret (h : Ent n C e D L I (Q .ret)) : Ent n C e D L I (noJump Q .ret) := h
theorem q_nj_exit {id : Nat} (h : Ent n C e D L I (Q (.exit id))) : Ent n C e D L I (noJump Q (.exit id)) := h
theorem q_jt {l : Nat} {Y : Act → World → Prop} (h : Ent n C e D L I (Q .normal)) : Ent n C e D L I (jumpTo l Y Q .normal) := h
theorem q_jt_ret {l : Nat} {Y : Act → World → Prop} (h : Ent n C e D L I (Q .ret)) : Ent n C e D L I (jumpTo l Y Q .ret) := h
theorem q_jt_exit {l : Nat} {Y : Act → World → Prop} {id : Nat} (h : Ent n C e D L I (Q (.exit id))) : Ent n C e D L I (jumpTo l Y Q (.exit id)) := h
theorem q_jt_goto {l : Nat} {Y : Act → World → Prop} (h : Ent n C e D L I Y) : Ent n C e D L I (jumpTo l Y Q (.goto l)) := fun a w kn s d ho => ⟨rfl, h a w kn s d ho⟩

/-! ### Open orders: one end for all of them -/
theorem c_drawx {id m : Nat} {os : List Oper} {l : Array Bool} (H : List (Addr × Value)) (ds : List Nat) (hm : P.follows .mixedOrders = true) (hn : os.length = m) (hl : Array.replicate m false = l)
    (h : ∀ Y : Act → World → Prop, (∀ {e' : Env} {L' I' : List Atom}, Ent n C e' D L' I' (Q .normal) → Ent n C e' D L' I' Y) → Ent n C e D L I (aw ro P os.toArray H ds Y m l)) : Ent n C e D L I (cw ro P (.region id os.toArray true) Q) :=
  c_draw H ds hm hn hl (h _ fun h => h)

/-! ### Elements by their place -/
theorem e_at {α : Type} {d : Ty α} {A : Option Addr} {c : Nat} {l : List α} (i k : Nat) (hi : I[i]? = some (rd d A c l)) (hk : k < l.length) (h : ∀ b o x, A = some ⟨b, o, none⟩ → l[k]? = some x → Ent n C e D L (cellsAt b (o + k * d.sz) (d.enc x) :: I) X) : Ent n C e D L I X :=
  e_rd i hi (by omega) fun b o hA => e_elem 0 k rfl hk fun x hx a w kn s dd ho => h b o x hA hx a w kn s dd (by
    obtain ⟨h0, hI, m⟩ := ho
    exact ⟨h0, hI, m.sep, Facts.cons (m.facts _ List.mem_cons_self) (m.facts.sub fun φ hφ => by simp [hφ]), m.base, m.d1, m.d2, m.d3, m.l1, m.l2, m.l3, m.os, m.tape, m.output⟩)
theorem y_at {α : Type} {d : Ty α} {dd : Option Tmp} {x i : Operand} {t el : TypeId} {ty : TypeId} {pos : String} {aft : Array Edge} {g : Option (Nat × Bool)} {A : Option Addr} {b o c m : Nat} {z : Int} {ik : IntKind} {l : List α} (k : Nat) (hA : A = some ⟨b, o, none⟩) (hx : ev e x = some (.slice A m c)) (hm : m = l.length) (hz : ev e i = some (.int ik z)) (hk : z = (k : Int)) (hlt : k < l.length) (ht : P.underlying t = some (.slice el)) (hsz : P.cellsOf el = d.sz) (hin : (P.info? el).isSome = true) :
    Ys P e ⟨dd, .indexAddr t x i, ty, pos, aft, g⟩ (.pointer (some ⟨b, o + k * d.sz, none⟩)) := fun a w kn => by
  subst hk; subst hA; subst hm
  obtain ⟨inf, hin⟩ := Option.isSome_iff_exists.1 hin
  have hs : inf.size = d.sz := by simpa [Program.cellsOf, hin] using hsz
  have h1 : (sizeOf el).run P w = .ok d.sz w := by simp [sizeOf, typeInfo, hin, hs]
  simp only [execOp, kn.eval hx, kn.eval hz, Instr.indexAt, asIntOf, Sem.run_bind, Sem.run_pure, Result.andThen_ok, run_underlying ht]
  rw [if_pos ⟨by omega, by omega⟩]
  simp only [Sem.run_bind, h1, Result.andThen_ok, Sem.run_pure, Int.toNat_natCast, add_none]

/-! ### Cuts -/
theorem run_sb {P : Program} (w : World) (ik : IntKind) (k y : Nat) (code : BoundsCode) (h : k ≤ y) : (Instr.sliceBound (.int ik (k : Int)) y code).run P w = .ok k w := by
  simp only [Instr.sliceBound, asIntOf, Sem.run_bind, Sem.run_pure, Result.andThen_ok]
  rw [if_pos ⟨by omega, by omega⟩]
  simp
/-- A bound of a cut: what it is, or what stands for it. -/
inductive Bd (e : Env) (dflt : Nat) : Option Operand → Nat → Prop where
  | no : Bd e dflt none dflt
  | at {x : Operand} {ik : IntKind} {z : Int} (k : Nat) (h : ev e x = some (.int ik z)) (hz : z = (k : Int)) : Bd e dflt (some x) k
theorem Bd.run {a : Act} {w : World} (kn : Knows e a) {dflt r y : Nat} {x : Option Operand} (h : Bd e dflt x r) (hr : r ≤ y) (code : BoundsCode) : (match x.map a.eval with | some v => Instr.sliceBound v y code | none => pure dflt).run P w = .ok r w := by
  cases h with
  | no => simp
  | «at» k h hz => subst hz; simp only [Option.map_some, kn.eval h]; exact run_sb _ _ _ _ _ hr
theorem run_bounds {a : Act} {w : World} (kn : Knows e a) {isSlice : Bool} {len cap lo hi mx : Nat} {xl xh xm : Option Operand} (hl : Bd e 0 xl lo) (hh : Bd e len xh hi) (hm : Bd e cap xm mx) (h3 : xm.isSome = true → xh.isSome = true) (h0 : lo ≤ hi) (h1 : hi ≤ mx) (h2 : mx ≤ cap) :
    (Instr.sliceBounds isSlice len cap (xl.map a.eval) (xh.map a.eval) (xm.map a.eval)).run P w = .ok (lo, hi, mx) w := by
  unfold Instr.sliceBounds
  cases hm with
  | no =>
    cases hh with
    | no =>
      cases hl with
      | no => simp
      | «at» k h hz => subst hz; simp only [Option.map_some, Option.map_none, kn.eval h, Sem.run_bind, Sem.run_pure, Result.andThen_ok]; rw [run_sb _ _ _ _ _ (by omega)]; simp
    | «at» k h hz =>
      subst hz
      cases hl with
      | no => simp only [Option.map_some, Option.map_none, kn.eval h, Sem.run_bind, Sem.run_pure, Result.andThen_ok]; rw [run_sb _ _ _ _ _ (by omega)]; simp
      | «at» k2 h2' hz2 => subst hz2; simp only [Option.map_some, Option.map_none, kn.eval h, kn.eval h2', Sem.run_bind, Sem.run_pure, Result.andThen_ok]; rw [run_sb _ _ _ _ _ (by omega)]; simp only [Result.andThen_ok]; rw [run_sb _ _ _ _ _ (by omega)]; simp
  | «at» k3 h3' hz3 =>
    subst hz3
    cases hh with
    | no => simp at h3
    | «at» k h hz =>
      subst hz
      cases hl with
      | no => simp only [Option.map_some, Option.map_none, kn.eval h, kn.eval h3', Sem.run_bind, Sem.run_pure, Result.andThen_ok]; rw [run_sb _ _ _ _ _ (by omega)]; simp only [Result.andThen_ok]; rw [run_sb _ _ _ _ _ (by omega)]; simp
      | «at» k2 h2' hz2 => subst hz2; simp only [Option.map_some, Option.map_none, kn.eval h, kn.eval h2', kn.eval h3', Sem.run_bind, Sem.run_pure, Result.andThen_ok]; rw [run_sb _ _ _ _ _ (by omega)]; simp only [Result.andThen_ok]; rw [run_sb _ _ _ _ _ (by omega)]; simp only [Result.andThen_ok]; rw [run_sb _ _ _ _ _ (by omega)]; simp
/-- A cut of a text. -/
theorem y_cuts {dd : Option Tmp} {x : Operand} {xl xh : Option Operand} {t : TypeId} {ty : TypeId} {pos : String} {aft : Array Edge} {g : Option (Nat × Bool)} {s : ByteArray} (lo hi : Nat) (hx : ev e x = some (.string s)) (hl : Bd e 0 xl lo) (hh : Bd e s.size xh hi) (ht : P.underlying t = some .string) (h0 : lo ≤ hi) (h1 : hi ≤ s.size) :
    Ys P e ⟨dd, .slice t x xl xh none, ty, pos, aft, g⟩ (.string (s.extract lo hi)) := fun a w kn => by
  have hb := run_bounds (P := P) (w := w) kn (isSlice := false) (cap := s.size) hl hh (Bd.no) (by simp) h0 h1 (Nat.le_refl _)
  simp only [Option.map_none] at hb
  simp only [execOp, kn.eval hx, Instr.sliceAt, Instr.slice, Sem.run_bind, Sem.run_pure, Result.andThen_ok, run_underlying ht, Option.map_none, Option.isSome_none, Bool.false_eq_true, if_false, hb]
/-- A cut of a list: where it begins. -/
def cutA {α : Type} (d : Ty α) (A : Option Addr) (lo mx : Nat) : Option Addr := if mx = lo then A else A.map (·.add (lo * d.sz))
theorem y_cutl {α : Type} {d : Ty α} {dd : Option Tmp} {x : Operand} {xl xh xm : Option Operand} {t el : TypeId} {ty : TypeId} {pos : String} {aft : Array Edge} {g : Option (Nat × Bool)} {A : Option Addr} {m c : Nat} {l : List α} (lo hi mx : Nat) (hx : ev e x = some (.slice A m c)) (hm : m = l.length) (hl : Bd e 0 xl lo) (hh : Bd e m xh hi) (hmx : Bd e c xm mx) (h3 : xm.isSome = true → xh.isSome = true) (ht : P.underlying t = some (.slice el)) (hsz : P.cellsOf el = d.sz) (hin : (P.info? el).isSome = true) (h0 : lo ≤ hi) (h1 : hi ≤ l.length) (h2 : hi ≤ mx) (h4 : mx ≤ c) :
    Ys P e ⟨dd, .slice t x xl xh xm, ty, pos, aft, g⟩ (.slice (cutA d A lo mx) ((l.take hi).drop lo).length (mx - lo)) := fun a w kn => by
  subst hm
  have hb := run_bounds (P := P) (w := w) kn (isSlice := true) hl hh hmx h3 h0 h2 h4
  obtain ⟨inf, hin⟩ := Option.isSome_iff_exists.1 hin
  have hs : inf.size = d.sz := by simpa [Program.cellsOf, hin] using hsz
  have hlen : ((l.take hi).drop lo).length = hi - lo := by simp; omega
  simp only [execOp, kn.eval hx, Instr.sliceAt, Instr.slice, Sem.run_bind, Sem.run_pure, Result.andThen_ok, run_underlying ht, hb, hlen, sizeOf, typeInfo]
  simp [hin, hs, cutA]
/-- What the cut reads as. -/
theorem e_cut1 {α : Type} {d : Ty α} {A : Option Addr} {c : Nat} {l : List α} (i lo hi mx : Nat) (hi' : I[i]? = some (rd d A c l)) (h0 : lo ≤ hi) (h1 : hi ≤ l.length) (h2 : hi ≤ mx) (h : Ent n C e D L (rd d (cutA d A lo mx) (mx - lo) ((l.take hi).drop lo) :: I) X) : Ent n C e D L I X := fun a w kn s dd ho => by
  have hlen : ((l.take hi).drop lo).length = hi - lo := by simp; omega
  refine h a w kn s dd ?_
  obtain ⟨h0', hI, o⟩ := ho
  refine ⟨h0', hI, o.sep, Facts.cons (fun k hk => ?_) o.facts, o.base, o.d1, o.d2, o.d3, o.l1, o.l2, o.l3, o.os, o.tape, o.output⟩
  obtain ⟨q1, q2, q3⟩ := o.facts _ (List.mem_of_getElem? hi') k hk
  refine ⟨by omega, by omega, fun hp => ?_⟩
  obtain ⟨b, off, rfl, hc⟩ := q3 (by omega)
  refine ⟨b, off + lo * d.sz, ?_, ?_⟩
  · unfold cutA
    rw [if_neg (by omega)]
    simp [add_none]
  · refine hc.part (lo * d.sz) ((hi - lo) * d.sz) ?_
    rw [← d.cells_drop, ← d.cells_take, List.drop_take]
/-- Of one's own list a part that is read while it stands: none; but its head may be cut off for good. -/
theorem y_min2 {dd : Option Tmp} {x y : Operand} {ats : Array TypeId} {ty : TypeId} {pos : String} {aft : Array Edge} {g : Option (Nat × Bool)} (p q : Nat) (hx : ev e x = some (.int .i64 (p : Int))) (hy : ev e y = some (.int .i64 (q : Int))) :
    Ys P e ⟨dd, .call ⟨.builtin .min, [x, y].toArray, ats⟩, ty, pos, aft, g⟩ (.int .i64 ((min p q : Nat) : Int)) := fun a w kn => by
  have h1 : (if ((q : Int)) < (p : Int) then (q : Int) else (p : Int)) = ((min p q : Nat) : Int) := by split <;> omega
  simp only [execOp, resolve, Sem.run_bind, Sem.run_pure, Result.andThen_ok, List.map_toArray, List.map_cons, List.map_nil, kn.eval hx, kn.eval hy, invoke, builtin, Builtin.min_, Builtin.min2, List.foldlM_cons, List.foldlM_nil, h1]
theorem y_max2 {dd : Option Tmp} {x y : Operand} {ats : Array TypeId} {ty : TypeId} {pos : String} {aft : Array Edge} {g : Option (Nat × Bool)} (p q : Nat) (hx : ev e x = some (.int .i64 (p : Int))) (hy : ev e y = some (.int .i64 (q : Int))) :
    Ys P e ⟨dd, .call ⟨.builtin .max, [x, y].toArray, ats⟩, ty, pos, aft, g⟩ (.int .i64 ((max p q : Nat) : Int)) := fun a w kn => by
  have h1 : (if (p : Int) < (q : Int) then (q : Int) else (p : Int)) = ((max p q : Nat) : Int) := by split <;> omega
  simp only [execOp, resolve, Sem.run_bind, Sem.run_pure, Result.andThen_ok, List.map_toArray, List.map_cons, List.map_nil, kn.eval hx, kn.eval hy, invoke, builtin, Builtin.max_, Builtin.max2, List.foldlM_cons, List.foldlM_nil, h1]
end
end Go.Sl
