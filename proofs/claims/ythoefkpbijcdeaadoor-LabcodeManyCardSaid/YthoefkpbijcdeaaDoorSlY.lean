/- More rules: maps of the call's own; errors compared by '=='. -/
import Derived.Test.YthoefkpbijcdeaaDoorSlX
import Derived.MapKept
import Derived.LaidEql
import Derived.Stop.Asserts
set_option linter.unusedVariables false
set_option linter.unusedSimpArgs false
namespace Go.Sl
open Go Go.RowKit Go.MapKept
section
variable {n : Nat} {C : Ctx} {e : Env} {D : List Deferred} {L I : List Atom} {P : Program} {ro : Option Nat} {Q : Exit → Act → World → Prop} {K X : Act → World → Prop}
/-! ### Maps -/
theorem o_mkmap {dt : Tmp} {t : TypeId} {ty : TypeId} {pos : String} {aft : Array Edge} {g : Option (Nat × Bool)} (hd : Nat.blt dt n = true)
    (h : ∀ b, Ent n C ((dt, .map (some b)) :: e) D (ob b (.map #[] 0) :: L) I K) : Ent n C e D L I (ow ro P ⟨some dt, .makeMap t none, ty, pos, aft, g⟩ Q K) :=
  o_new (f := fun b => .map (some b)) rfl hd rfl rfl (fun w => by simp [execOp, Instr.makeMap, newObj, Sem.run]) h
/-- A key is put that was not there. -/
theorem o_insert {b clk : Nat} {es : Array MapEntry} {m k x : Operand} {kv xv : Value} {t kt et : TypeId} {kd : TypeDesc} {ty : TypeId} {pos : String} {aft : Array Edge} {g : Option (Nat × Bool)} (i : Nat) (hi : L[i]? = some (ob b (.map es clk)))
    (hm : ev e m = some (.map (some b))) (hk : ev e k = some kv) (hx : ev e x = some xv) (ht : P.underlying t = some (.map kt et)) (hkt : P.underlying kt = some kd) (hc : IsKey kd kv) (hf : Instr.findNow kd kv es.toList 0 = some none)
    (h : Ent n C e D (L.set i (ob b (.map (es.push ⟨kv, xv, clk⟩) (clk + 1)))) I K) : Ent n C e D L I (ow ro P ⟨none, .insert t m k x, ty, pos, aft, g⟩ Q K) := fun a w kn s d ho => by
  obtain ⟨ho', hb⟩ := write_own (y := .map (es.push ⟨kv, xv, clk⟩) (clk + 1)) ho i hi
  refine ow_skip (by simp) (w' := { w with heap := w.heap.setIfInBounds b (.map (es.push ⟨kv, xv, clk⟩) (clk + 1)) }) ?_ (h a _ kn s d ho')
  simp only [execOp, kn.eval hm, kn.eval hk, kn.eval hx, Instr.mapUpdate, Sem.run_bind, run_underlying ht, Result.andThen_ok, Go.MapKept.run_getObj_map hb, Go.MapKept.run_checkKey hkt hc, Go.MapKept.run_findKey hkt hf, Go.MapKept.run_setObj_map _ hb, Sem.run_pure]
theorem o_lookup {b clk : Nat} {es : Array MapEntry} {dt : Tmp} {m k : Operand} {kv v z : Value} {ok : Bool} {r : Option (Nat × Value)} {t kt et : TypeId} {kd : TypeDesc} {ty : TypeId} {pos : String} {aft : Array Edge} {g : Option (Nat × Bool)} (i : Nat) (hi : L[i]? = some (ob b (.map es clk)))
    (hm : ev e m = some (.map (some b))) (hk : ev e k = some kv) (ht : P.underlying t = some (.map kt et)) (hkt : P.underlying kt = some kd) (hc : IsKey kd kv) (hf : Instr.findNow kd kv es.toList 0 = some r)
    (hz : ∀ w, (zeroValue et).run P w = .ok z w) (hv : (r.map Prod.snd).getD z = v) (hb : r.isSome = ok) (hd : Nat.blt dt n = true)
    (h : Ent n C ((dt, .tuple #[v, .bool ok]) :: e) D L I K) : Ent n C e D L I (ow ro P ⟨some dt, .lookup t m k true, ty, pos, aft, g⟩ Q K) :=
  ow_pure rfl hd (by simp) (fun a w kn ho => by
    obtain ⟨h1, hl, hA⟩ := ho.atom i hi
    have hbk : w.heap[b]? = some (.map es clk) := hl _ _ hA
    simp only [execOp, kn.eval hm, kn.eval hk, Instr.lookup, Sem.run_bind, run_underlying ht, Result.andThen_ok, Go.MapKept.run_getObj_map hbk, Sem.run_pure, Go.MapKept.run_checkKey hkt hc, Go.MapKept.run_findKey hkt hf]
    cases r with
    | none => simp at hv hb; subst hv; subst hb; simp [hz]
    | some q => obtain ⟨j, u⟩ := q; simp at hv hb; subst hv; subst hb; simp) h

/-! ### Errors by '==' -/
theorem y_ifsame {d : Option Tmp} {x y : Operand} {ti tp te : TypeId} {ms : Array (String × TypeId)} {a : Addr} {t2 : TypeId} {ty : TypeId} {pos : String} {aft : Array Edge} {g : Option (Nat × Bool)} (hx : ev e x = some (.iface tp (.pointer (some a)))) (hy : ev e y = some (.iface tp (.pointer (some a))))
    (hi : P.underlying ti = some (.interface ms)) (hp : P.underlying tp = some (.pointer te)) (hc : (P.info? tp).map (·.comparable) = some true) (hs : (P.info? te).isSome = true) : Ys P e ⟨d, .binOp .eql ti x y t2, ty, pos, aft, g⟩ (.bool true) :=
  y_bin hx hy fun w => by
    obtain ⟨i, h1, h2⟩ := Option.map_eq_some_iff.1 hc
    obtain ⟨j, h3⟩ := Option.isSome_iff_exists.1 hs
    have := run_eql_iface_ptr_same (P := P) w a hi hp h1 h2 h3
    simpa [eqGuard] using this
theorem o_ifother {dt : Tmp} {x y : Operand} {ti tp te : TypeId} {ms : Array (String × TypeId)} {a b : Addr} {A B : Atom} {t2 : TypeId} {ty : TypeId} {pos : String} {aft : Array Edge} {g : Option (Nat × Bool)} (i j : Nat) (hx : ev e x = some (.iface tp (.pointer (some a)))) (hy : ev e y = some (.iface tp (.pointer (some b)))) (hne : a ≠ b)
    (hA : I[i]? = some A) (hB : I[j]? = some B) (fA : ∀ h, A h → ∃ c t, h a.block = some (.cells c t (0, 0))) (fB : ∀ h, B h → ∃ c t, h b.block = some (.cells c t (0, 0)))
    (hi : P.underlying ti = some (.interface ms)) (hp : P.underlying tp = some (.pointer te)) (hc : (P.info? tp).map (·.comparable) = some true) (hs : (P.info? te).map (fun i => i.size != 0) = some true) (hd : Nat.blt dt n = true)
    (h : Ent n C ((dt, .bool false) :: e) D L I K) : Ent n C e D L I (ow ro P ⟨some dt, .binOp .eql ti x y t2, ty, pos, aft, g⟩ Q K) :=
  ow_pure rfl hd (by simp) (fun w0 w kn ho => by
    obtain ⟨i, h1, h2⟩ := Option.map_eq_some_iff.1 hc
    obtain ⟨j, h3, h4⟩ := Option.map_eq_some_iff.1 hs
    obtain ⟨k1, l1, f1⟩ := ho.fact (List.mem_of_getElem? hA)
    obtain ⟨k2, l2, f2⟩ := ho.fact (List.mem_of_getElem? hB)
    obtain ⟨ca, ta, ea⟩ := fA _ (f1 k1 (le.refl _))
    obtain ⟨cb, tb, eb⟩ := fB _ (f2 k2 (le.refl _))
    have := run_eql_iface_ptr_other (P := P) w hi hp h1 h2 h3 (by simpa using h4) hne (l1 _ _ ea) (l2 _ _ eb)
    simp only [execOp, kn.eval hx, kn.eval hy, Sem.run_bind]
    simp [eqGuard, this]) h
theorem y_lacks {dd : Option Tmp} {x : Operand} {t xT to : TypeId} {v : Value} {want : Array (String × TypeId)} {ty : TypeId} {pos : String} {aft : Array Edge} {g : Option (Nat × Bool)} (hx : ev e x = some (.iface t v)) (hu : P.underlying to = some (.interface want)) (h : (P.info? t).map (fun i => (Go.lacking want i.methods).isEmpty) = some false) (hz : (P.info? to).map (·.zero) = some (some .nilIface)) :
    Ys P e ⟨dd, .typeAssert x xT to true, ty, pos, aft, g⟩ (.tuple #[.nilIface, .bool false]) := fun a w kn => by
  have := Go.run_typeAssert_lacksB hu h hz v xT w
  simp [execOp, kn.eval hx, this]
theorem y_has {dd : Option Tmp} {x : Operand} {t xT to : TypeId} {v : Value} {want : Array (String × TypeId)} {ty : TypeId} {pos : String} {aft : Array Edge} {g : Option (Nat × Bool)} (hx : ev e x = some (.iface t v)) (hu : P.underlying to = some (.interface want)) (h : (P.info? t).map (fun i => (Go.lacking want i.methods).isEmpty) = some true) :
    Ys P e ⟨dd, .typeAssert x xT to true, ty, pos, aft, g⟩ (.tuple #[.iface t v, .bool true]) := fun a w kn => by
  have := Go.run_typeAssert_hasB hu h v xT w
  simp [execOp, kn.eval hx, this]
theorem y_slss {d : Option Tmp} {x y : Operand} {s u : ByteArray} {t t2 : TypeId} {ty : TypeId} {pos : String} {aft : Array Edge} {g : Option (Nat × Bool)} (hx : ev e x = some (.string s)) (hy : ev e y = some (.string u)) :
    Ys P e ⟨d, .binOp .lss t x y t2, ty, pos, aft, g⟩ (.bool (decide (Op.bytesLess s.toList u.toList = true))) := y_bin hx hy fun w => by
  simp [eqGuard, binOp, Op.stringOp]
/-! ### Sums and products of u64 -/
theorem u64_in {z : Int} (h0 : 0 ≤ z) (h1 : z < 18446744073709551616) : IntKind.u64.wrap z = z := by
  rw [IntKind.wrap_u64]; omega
theorem y_addu {d : Option Tmp} {x y : Operand} {a b : Nat} {t t2 : TypeId} {ty : TypeId} {pos : String} {aft : Array Edge} {g : Option (Nat × Bool)} (hx : ev e x = some (.int .u64 (a : Int))) (hy : ev e y = some (.int .u64 (b : Int))) (hb : a + b < 18446744073709551616) :
    Ys P e ⟨d, .binOp .add t x y t2, ty, pos, aft, g⟩ (.int .u64 ((a + b : Nat) : Int)) :=
  y_bin hx hy fun w => by simp [eqGuard, binOp, Op.intArith, u64_in (z := (a : Int) + (b : Int)) (by omega) (by omega)]
theorem y_mulu {d : Option Tmp} {x y : Operand} {a b : Nat} {t t2 : TypeId} {ty : TypeId} {pos : String} {aft : Array Edge} {g : Option (Nat × Bool)} (hx : ev e x = some (.int .u64 (a : Int))) (hy : ev e y = some (.int .u64 (b : Int))) (hb : a * b < 18446744073709551616) :
    Ys P e ⟨d, .binOp .mul t x y t2, ty, pos, aft, g⟩ (.int .u64 ((a * b : Nat) : Int)) :=
  y_bin hx hy fun w => by
    have h : (a : Int) * (b : Int) = ((a * b : Nat) : Int) := by simp
    simp only [eqGuard, binOp, Op.intArith, h, u64_in (z := ((a * b : Nat) : Int)) (by omega) (by omega)]
    simp
end
end Go.Sl
