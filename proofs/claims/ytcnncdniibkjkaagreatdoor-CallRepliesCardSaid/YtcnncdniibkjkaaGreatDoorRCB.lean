/- The laws of chapter 17 (call), walked over the given program; no condition but what stands in each theorem: part CB. -/
import Derived.Test.YtcnncdniibkjkaaGreatDoorRLA
set_option linter.unusedVariables false
set_option linter.unusedSimpArgs false
set_option maxRecDepth 100000
set_option maxHeartbeats 8000000
namespace Go.Proofs.YtcnncdniibkjkaaGreatDoor
open Go Go.Sl Go.RowKit Go.Extern.Stop Go.Stop Go.Extern

def ecI (e : Int) : Ec := if e = 0 then none else some e
def addQ (q : Ec) (e : Int) : Ec := if q = none then ecI e else q
theorem ecI_0 {e : Int} (h : e = 0) : ecI e = none := if_pos h
theorem ecI_1 {e : Int} (h : ¬ e = 0) : ecI e = some e := if_neg h
def u64 (n : Int) : Nat := (IntKind.u64.wrap n).toNat
theorem u64_wrap (n : Int) : IntKind.u64.wrap n = (u64 n : Int) := by
  unfold u64
  have := IntKind.wrap_u64 n
  rw [this]; omega
theorem u64_lt (n : Int) : u64 n < 18446744073709551616 := by
  unfold u64
  have := IntKind.wrap_u64 n
  rw [this]; omega
theorem u64_of {n : Nat} (h : n < 18446744073709551616) : u64 (n : Int) = n := by
  unfold u64
  have := IntKind.wrap_u64 (n : Int)
  rw [this]; omega
theorem ptextF_size (t : ByteArray) : (ptextF t).1.size ≤ 201 := by
  unfold ptextF
  split
  · exact Nat.zero_le _
  · show (beB 1 t.size ++ t).size ≤ 201
    rw [ByteArray.size_append, beB_size]; omega
theorem getF_small {w : Int} {s : ByteArray} (hw : w ≤ 4) : (getF w s).1 < 4294967296 := by
  unfold getF
  split
  · split
    · exact (by decide : (0 : Nat) < 4294967296)
    · show numL (s.data.toList.take w.toNat) < 4294967296
      have h1 := numL_lt (s.data.toList.take w.toNat)
      have h2 : (s.data.toList.take w.toNat).length ≤ 4 := by rw [List.length_take]; omega
      have h3 : 256 ^ (s.data.toList.take w.toNat).length ≤ 256 ^ 4 := Nat.pow_le_pow_right (by decide) h2
      omega
  · exact (by decide : (0 : Nat) < 4294967296)
def lts (s : ByteArray) : List UInt8 := s.data.toList
theorem lts_at {s : ByteArray} {k : Nat} {x : UInt8} (h : s[k]? = some x) : (lts s)[k]? = some x := by
  obtain ⟨hp, he⟩ := getElem?_eq_some_iff.1 h
  have hp' : k < s.data.size := hp
  show s.data.toList[k]? = some x
  rw [Array.getElem?_toList, Array.getElem?_eq_getElem hp']
  exact congrArg some he
theorem lts_lt {s : ByteArray} {k : Nat} {x : UInt8} (h : s[k]? = some x) : k < (lts s).length := (List.getElem?_eq_some_iff.1 (lts_at h)).1
theorem lts_mem {s : ByteArray} {k : Nat} {x : UInt8} (h : s[k]? = some x) : x ∈ lts s := List.mem_of_getElem? (lts_at h)
theorem lts_end {s : ByteArray} {k : Nat} (h : ¬ k < s.size) (hk : k ≤ s.size) : (lts s).length = k := by
  have : (lts s).length = s.size := Array.length_toList
  omega
def numE (w n : Int) : Int := if n < 0 then 31 else (putF w (u64 n)).2
def signsF (op : Int) : ByteArray := if op = 1 then (⟨#[]⟩ : ByteArray) else if op = 2 then (⟨#[76]⟩ : ByteArray) else if op = 3 then (⟨#[84, 73, 78]⟩ : ByteArray) else if op = 4 then (⟨#[84, 65, 68]⟩ : ByteArray) else if op = 5 then (⟨#[76, 84, 65, 78]⟩ : ByteArray) else if op = 6 then (⟨#[84, 78]⟩ : ByteArray) else if op = 7 then (⟨#[84]⟩ : ByteArray) else if op = 8 then (⟨#[76]⟩ : ByteArray) else if op = 9 then (⟨#[76, 84, 68]⟩ : ByteArray) else if op = 10 then (⟨#[84]⟩ : ByteArray) else if op = 11 then (⟨#[73]⟩ : ByteArray) else if op = 12 then (⟨#[68]⟩ : ByteArray) else if op = 13 then (⟨#[73, 68]⟩ : ByteArray) else if op = 14 then (⟨#[73, 78]⟩ : ByteArray) else if op = 15 then (⟨#[76]⟩ : ByteArray) else if op = 16 then (⟨#[76]⟩ : ByteArray) else (⟨#[]⟩ : ByteArray)
def isOp (op : Int) : Prop := 1 ≤ op ∧ op ≤ 16
instance (op : Int) : Decidable (isOp op) := by unfold isOp; infer_instance
def signsR (op : Int) : Option (Nat × Value) := if op = 1 then some (0, .agg #[.string (⟨#[]⟩ : ByteArray)]) else if op = 2 then some (1, .agg #[.string (⟨#[76]⟩ : ByteArray)]) else if op = 3 then some (2, .agg #[.string (⟨#[84, 73, 78]⟩ : ByteArray)]) else if op = 4 then some (3, .agg #[.string (⟨#[84, 65, 68]⟩ : ByteArray)]) else if op = 5 then some (4, .agg #[.string (⟨#[76, 84, 65, 78]⟩ : ByteArray)]) else if op = 6 then some (5, .agg #[.string (⟨#[84, 78]⟩ : ByteArray)]) else if op = 7 then some (6, .agg #[.string (⟨#[84]⟩ : ByteArray)]) else if op = 8 then some (7, .agg #[.string (⟨#[76]⟩ : ByteArray)]) else if op = 9 then some (8, .agg #[.string (⟨#[76, 84, 68]⟩ : ByteArray)]) else if op = 10 then some (9, .agg #[.string (⟨#[84]⟩ : ByteArray)]) else if op = 11 then some (10, .agg #[.string (⟨#[73]⟩ : ByteArray)]) else if op = 12 then some (11, .agg #[.string (⟨#[68]⟩ : ByteArray)]) else if op = 13 then some (12, .agg #[.string (⟨#[73, 68]⟩ : ByteArray)]) else if op = 14 then some (13, .agg #[.string (⟨#[73, 78]⟩ : ByteArray)]) else if op = 15 then some (14, .agg #[.string (⟨#[76]⟩ : ByteArray)]) else if op = 16 then some (15, .agg #[.string (⟨#[76]⟩ : ByteArray)]) else none
theorem signs_find (op : Int) : Instr.findNow (.int .i64) (.int .i64 op) [⟨.int .i64 1, .agg #[.string (⟨#[]⟩ : ByteArray)], 0⟩, ⟨.int .i64 2, .agg #[.string (⟨#[76]⟩ : ByteArray)], 1⟩, ⟨.int .i64 3, .agg #[.string (⟨#[84, 73, 78]⟩ : ByteArray)], 2⟩, ⟨.int .i64 4, .agg #[.string (⟨#[84, 65, 68]⟩ : ByteArray)], 3⟩, ⟨.int .i64 5, .agg #[.string (⟨#[76, 84, 65, 78]⟩ : ByteArray)], 4⟩, ⟨.int .i64 6, .agg #[.string (⟨#[84, 78]⟩ : ByteArray)], 5⟩, ⟨.int .i64 7, .agg #[.string (⟨#[84]⟩ : ByteArray)], 6⟩, ⟨.int .i64 8, .agg #[.string (⟨#[76]⟩ : ByteArray)], 7⟩, ⟨.int .i64 9, .agg #[.string (⟨#[76, 84, 68]⟩ : ByteArray)], 8⟩, ⟨.int .i64 10, .agg #[.string (⟨#[84]⟩ : ByteArray)], 9⟩, ⟨.int .i64 11, .agg #[.string (⟨#[73]⟩ : ByteArray)], 10⟩, ⟨.int .i64 12, .agg #[.string (⟨#[68]⟩ : ByteArray)], 11⟩, ⟨.int .i64 13, .agg #[.string (⟨#[73, 68]⟩ : ByteArray)], 12⟩, ⟨.int .i64 14, .agg #[.string (⟨#[73, 78]⟩ : ByteArray)], 13⟩, ⟨.int .i64 15, .agg #[.string (⟨#[76]⟩ : ByteArray)], 14⟩, ⟨.int .i64 16, .agg #[.string (⟨#[76]⟩ : ByteArray)], 15⟩] 0 = some (signsR op) := by
  unfold signsR
  by_cases h1 : op = 1
  · subst h1; rfl
  by_cases h2 : op = 2
  · subst h2; rfl
  by_cases h3 : op = 3
  · subst h3; rfl
  by_cases h4 : op = 4
  · subst h4; rfl
  by_cases h5 : op = 5
  · subst h5; rfl
  by_cases h6 : op = 6
  · subst h6; rfl
  by_cases h7 : op = 7
  · subst h7; rfl
  by_cases h8 : op = 8
  · subst h8; rfl
  by_cases h9 : op = 9
  · subst h9; rfl
  by_cases h10 : op = 10
  · subst h10; rfl
  by_cases h11 : op = 11
  · subst h11; rfl
  by_cases h12 : op = 12
  · subst h12; rfl
  by_cases h13 : op = 13
  · subst h13; rfl
  by_cases h14 : op = 14
  · subst h14; rfl
  by_cases h15 : op = 15
  · subst h15; rfl
  by_cases h16 : op = 16
  · subst h16; rfl
  simp [Instr.findNow, Instr.sameNow, h1, beq_eq_false_iff_ne.2 h1, h2, beq_eq_false_iff_ne.2 h2, h3, beq_eq_false_iff_ne.2 h3, h4, beq_eq_false_iff_ne.2 h4, h5, beq_eq_false_iff_ne.2 h5, h6, beq_eq_false_iff_ne.2 h6, h7, beq_eq_false_iff_ne.2 h7, h8, beq_eq_false_iff_ne.2 h8, h9, beq_eq_false_iff_ne.2 h9, h10, beq_eq_false_iff_ne.2 h10, h11, beq_eq_false_iff_ne.2 h11, h12, beq_eq_false_iff_ne.2 h12, h13, beq_eq_false_iff_ne.2 h13, h14, beq_eq_false_iff_ne.2 h14, h15, beq_eq_false_iff_ne.2 h15, h16, beq_eq_false_iff_ne.2 h16]
theorem signs_val (op : Int) : ((signsR op).map Prod.snd).getD (.agg #[.string ⟨#[]⟩]) = .agg #[.string (signsF op)] := by
  unfold signsR signsF
  by_cases h1 : op = 1
  · subst h1; rfl
  by_cases h2 : op = 2
  · subst h2; rfl
  by_cases h3 : op = 3
  · subst h3; rfl
  by_cases h4 : op = 4
  · subst h4; rfl
  by_cases h5 : op = 5
  · subst h5; rfl
  by_cases h6 : op = 6
  · subst h6; rfl
  by_cases h7 : op = 7
  · subst h7; rfl
  by_cases h8 : op = 8
  · subst h8; rfl
  by_cases h9 : op = 9
  · subst h9; rfl
  by_cases h10 : op = 10
  · subst h10; rfl
  by_cases h11 : op = 11
  · subst h11; rfl
  by_cases h12 : op = 12
  · subst h12; rfl
  by_cases h13 : op = 13
  · subst h13; rfl
  by_cases h14 : op = 14
  · subst h14; rfl
  by_cases h15 : op = 15
  · subst h15; rfl
  by_cases h16 : op = 16
  · subst h16; rfl
  simp only [if_neg h1, if_neg h2, if_neg h3, if_neg h4, if_neg h5, if_neg h6, if_neg h7, if_neg h8, if_neg h9, if_neg h10, if_neg h11, if_neg h12, if_neg h13, if_neg h14, if_neg h15, if_neg h16]
  rfl
theorem signs_ok (op : Int) : (signsR op).isSome = decide (isOp op) := by
  unfold signsR
  by_cases h1 : op = 1
  · subst h1; rfl
  by_cases h2 : op = 2
  · subst h2; rfl
  by_cases h3 : op = 3
  · subst h3; rfl
  by_cases h4 : op = 4
  · subst h4; rfl
  by_cases h5 : op = 5
  · subst h5; rfl
  by_cases h6 : op = 6
  · subst h6; rfl
  by_cases h7 : op = 7
  · subst h7; rfl
  by_cases h8 : op = 8
  · subst h8; rfl
  by_cases h9 : op = 9
  · subst h9; rfl
  by_cases h10 : op = 10
  · subst h10; rfl
  by_cases h11 : op = 11
  · subst h11; rfl
  by_cases h12 : op = 12
  · subst h12; rfl
  by_cases h13 : op = 13
  · subst h13; rfl
  by_cases h14 : op = 14
  · subst h14; rfl
  by_cases h15 : op = 15
  · subst h15; rfl
  by_cases h16 : op = 16
  · subst h16; rfl
  rw [if_neg h1, if_neg h2, if_neg h3, if_neg h4, if_neg h5, if_neg h6, if_neg h7, if_neg h8, if_neg h9, if_neg h10, if_neg h11, if_neg h12, if_neg h13, if_neg h14, if_neg h15, if_neg h16]
  symm
  exact decide_eq_false (fun q => by unfold isOp at q; omega)
def cwV : Ec → Value
  | none => .nilIface
  | some k => .iface 64 (.agg #[.int .i64 k])
theorem cw_cells (q : Ec) : (cwV q).cells.toList = [cwV q] := by cases q <;> rfl
theorem cw_one (q : Ec) : oneAll [cwV q] = true := by cases q <;> rfl
theorem cw_ne (q : Ec) (i : Nat) (w : World) : (do eqGuard .neq 48 (.tmp i) (.const .nilIface) (cwV q) .nilIface; binOp .neq 48 (cwV q) .nilIface : Sem Value).run Tryz.prog w = .ok (.bool (!decide (q = none))) w := by
  rcases q with _ | k
  · kernel_rfl
  · kernel_rfl
theorem cw_eq (q : Ec) (i : Nat) (w : World) : (do eqGuard .eql 48 (.tmp i) (.const .nilIface) (cwV q) .nilIface; binOp .eql 48 (cwV q) .nilIface : Sem Value).run Tryz.prog w = .ok (.bool (decide (q = none))) w := by
  rcases q with _ | k
  · kernel_rfl
  · kernel_rfl
theorem as_hit_cw_ (k : Int) (b : Nat) (b1 : Nat) : Con Tryz.prog 78 [.iface 64 (.agg #[.int .i64 k]), .iface 100 (.pointer (some ⟨b, 0, none⟩)), .agg #[.pointer (some ⟨5, 100, none⟩), .pointer (some ⟨b1, 0, none⟩), .int .u64 150], .iface 147 (.agg #[.pointer (some ⟨5, 64, none⟩)])] [pt b [.int .i64 0] 64, pt b1 [.pointer (some ⟨b, 0, none⟩)] 100] [] (fun v L' I' => v = .bool true ∧ L' = [pt b [.int .i64 k] 64] ∧ I' = []) := by
 refine fn_of Tryz.func78 rfl Tryz.ntmps78 (by kernel_rfl) rfl (fun C => ?_)
 refine c_seq (c_region ?_)
 refine st rfl (o_box (cs := [.pointer (some ⟨5, 100, none⟩), .pointer (some ⟨b1, 0, none⟩), .int .u64 150]) (T := 113) rfl rfl rfl rfl (fun _ => by kernel_rfl) (fun b2 => ?_))
 refine s_y rfl (v := .bool false) (y_as rfl) rfl ?_
 refine s_nil (q_then (c_block ?_))
 refine c_unroll 1 ?_
 refine c_round ?_
 refine c_block (c_seq (c_seq (c_region ?_)))
 refine s_y rfl (v := .iface 64 (.agg #[.int .i64 k])) (y_mv rfl) rfl ?_
 refine s_y rfl (v := .iface 147 (.agg #[.pointer (some ⟨5, 64, none⟩)])) (y_k rfl rfl (fun _ => by kernel_rfl)) rfl ?_
 refine s_y rfl (v := .iface 147 (.agg #[.pointer (some ⟨5, 64, none⟩)])) (y_mv rfl) rfl ?_
 refine s_y rfl (v := .bool true) (y_k rfl rfl (fun _ => by kernel_rfl)) rfl ?_
 refine s_nil (q_then (c_true rfl (c_seq (c_region ?_))))
 refine st rfl (o_ldn 0 3 rfl rfl rfl rfl Tryz.underlying113 rfl (by kernel_rfl) (by kernel_rfl) rfl ?_)
 refine st rfl (o_extr (H := ReflectliteValue.method (ReflectliteValue.valueError "reflectlite.Value.Elem" 0) ReflectliteValue.elem) (v := .agg #[.pointer (some ⟨5, 64, none⟩), .pointer (some ⟨b, 0, none⟩), .int .u64 409]) 2 (@run_callFunc_extern Tryz.prog 90 _ (ReflectliteValue.method (ReflectliteValue.valueError "reflectlite.Value.Elem" 0) ReflectliteValue.elem) Tryz.func90 (by kernel_rfl) (by kernel_rfl) (by kernel_rfl) (by kernel_rfl)) rfl rfl rfl (fun w hb => run_elemV (T := 64) (fl := 150) (fun w => by kernel_rfl) (by decide) Tryz.underlying100 rfl (fun w => by kernel_rfl) (fun w => by kernel_rfl) w hb) rfl ?_)
 refine s_y rfl (v := .iface 64 (.agg #[.int .i64 k])) (y_mv rfl) rfl ?_
 refine st rfl (o_boxf (cs := [.int .i64 k]) (T := 64) (fun b => .agg #[.pointer (some ⟨5, 64, none⟩), .pointer (some ⟨b, 0, none⟩), .int .u64 153]) rfl rfl rfl rfl (fun _ => by kernel_rfl) (fun b3 => ?_))
 refine st rfl (o_exts (H := ReflectliteValue.set) 2 0 (@run_callFunc_extern Tryz.prog 91 _ (ReflectliteValue.set) Tryz.func91 (by kernel_rfl) (by kernel_rfl) (by kernel_rfl) (by kernel_rfl)) rfl rfl rfl rfl (fun w hb hb2 => run_setV (f1 := 409) (f2 := 153) (fun w => by kernel_rfl) (fun w => by kernel_rfl) (by decide) (fun w => by kernel_rfl) Tryz.underlying64 rfl (by kernel_rfl) (by kernel_rfl) (by rfl) (by rfl) w hb hb2) rfl ?_)
 refine s_nil (q_then (c_seq (c_region ?_)))
 refine s_y rfl (v := .bool true) (y_as rfl) rfl ?_
 refine s_nil (q_then (c_ret (q_then_ret (q_block_ret (q_then_ret (q_block_ret ?_))))))
 refine c_fin (I' := []) [2] [] rfl (.tmp rfl .nil) rfl rfl rfl ?_
 exact ⟨rfl, rfl, rfl⟩
theorem As_hit_cw_ (k : Int) (b : Nat) : Con Tryz.prog 48 [.iface 64 (.agg #[.int .i64 k]), .iface 100 (.pointer (some ⟨b, 0, none⟩))] [pt b [.int .i64 0] 64] [cellsAt 0 0 [.iface 147 (.agg #[.pointer (some ⟨5, 48, none⟩)])]] (fun v L' I' => v = .bool true ∧ L' = [pt b [.int .i64 k] 64] ∧ I' = []) := by
 refine fn_of Tryz.func48 rfl Tryz.ntmps48 (by kernel_rfl) rfl (fun C => ?_)
 refine c_seq (c_region ?_)
 refine s_y rfl (v := .bool false) (y_as rfl) rfl ?_
 refine s_nil (q_then (c_seq (c_seq (c_region ?_))))
 refine s_y rfl (v := .iface 64 (.agg #[.int .i64 k])) (y_mv rfl) rfl ?_
 refine s_y rfl (v := .bool false) (y_k rfl rfl (fun _ => by kernel_rfl)) rfl ?_
 refine s_nil (q_then (c_false rfl (c_skip (q_then (c_seq (c_seq (c_region ?_)))))))
 refine s_y rfl (v := .iface 100 (.pointer (some ⟨b, 0, none⟩))) (y_mv rfl) rfl ?_
 refine s_y rfl (v := .bool false) (y_k rfl rfl (fun _ => by kernel_rfl)) rfl ?_
 refine s_nil (q_then (c_false rfl (c_skip (q_then (c_seq (c_region ?_))))))
 refine s_y rfl (v := .iface 100 (.pointer (some ⟨b, 0, none⟩))) (y_mv rfl) rfl ?_
 refine st rfl (o_boxf (cs := [.pointer (some ⟨b, 0, none⟩)]) (T := 100) (fun b => .agg #[.pointer (some ⟨5, 100, none⟩), .pointer (some ⟨b, 0, none⟩), .int .u64 150]) rfl rfl rfl rfl (fun _ => by kernel_rfl) (fun b1 => ?_))
 refine st rfl (o_box (cs := [.pointer none, .pointer none, .int .u64 0]) (T := 113) rfl rfl rfl rfl (fun _ => by kernel_rfl) (fun b2 => ?_))
 refine st rfl (o_st 0 rfl rfl rfl rfl rfl (by kernel_rfl) (by kernel_rfl) rfl ?_)
 refine s_nil (q_then (c_seq (c_region ?_)))
 refine st rfl (o_ldn 0 3 rfl rfl rfl rfl Tryz.underlying113 rfl (by kernel_rfl) (by kernel_rfl) rfl ?_)
 refine s_y rfl (v := .iface 147 (.agg #[.pointer (some ⟨5, 100, none⟩)])) (y_k rfl rfl (fun _ => by kernel_rfl)) rfl ?_
 refine s_y rfl (v := .iface 147 (.agg #[.pointer (some ⟨5, 100, none⟩)])) (y_as rfl) rfl ?_
 refine s_nil (q_then (c_seq (c_seq (c_region ?_))))
 refine s_y rfl (v := .iface 147 (.agg #[.pointer (some ⟨5, 100, none⟩)])) (y_mv rfl) rfl ?_
 refine s_y rfl (v := .int .u8 22) (y_k rfl rfl (fun _ => by kernel_rfl)) rfl ?_
 refine s_y rfl (v := .bool false) (y_k rfl rfl (fun _ => by kernel_rfl)) rfl ?_
 refine s_y rfl (v := .bool false) (y_mv rfl) rfl ?_
 refine st_on 20 rfl rfl rfl (o_ldn 0 3 rfl rfl rfl rfl Tryz.underlying113 rfl (by kernel_rfl) (by kernel_rfl) rfl ?_)
 refine st_on 20 rfl rfl rfl (o_extr (H := ReflectliteValue.method (ReflectliteValue.valueError "reflectlite.Value.IsNil" 0) ReflectliteValue.isNil) 1 (@run_callFunc_extern Tryz.prog 77 _ (ReflectliteValue.method (ReflectliteValue.valueError "reflectlite.Value.IsNil" 0) ReflectliteValue.isNil) Tryz.func77 (by kernel_rfl) (by kernel_rfl) (by kernel_rfl) (by kernel_rfl)) rfl rfl rfl (fun w hb => run_isNil (fl := 150) (fun w => by kernel_rfl) (by decide) Tryz.underlying100 rfl w hb) rfl ?_)
 refine s_y rfl (v := .bool false) (y_pick rfl rfl) rfl ?_
 refine s_nil (q_then (c_false rfl (c_skip (q_then (c_seq (c_region ?_))))))
 refine s_y rfl (v := .iface 147 (.agg #[.pointer (some ⟨5, 100, none⟩)])) (y_mv rfl) rfl ?_
 refine s_y rfl (v := .iface 147 (.agg #[.pointer (some ⟨5, 64, none⟩)])) (y_k rfl rfl (fun _ => by kernel_rfl)) rfl ?_
 refine s_y rfl (v := .iface 147 (.agg #[.pointer (some ⟨5, 64, none⟩)])) (y_as rfl) rfl ?_
 refine s_nil (q_then (c_seq (c_seq (c_region ?_))))
 refine s_y rfl (v := .iface 147 (.agg #[.pointer (some ⟨5, 64, none⟩)])) (y_mv rfl) rfl ?_
 refine s_y rfl (v := .int .u8 25) (y_k rfl rfl (fun _ => by kernel_rfl)) rfl ?_
 refine s_y rfl (v := .bool true) (y_k rfl rfl (fun _ => by kernel_rfl)) rfl ?_
 refine s_y rfl (v := .bool true) (y_mv rfl) rfl ?_
 refine st_on 30 rfl rfl rfl (o_y (v := .iface 147 (.agg #[.pointer (some ⟨5, 64, none⟩)])) (y_mv rfl) rfl rfl rfl ?_)
 refine st_on 30 rfl rfl rfl (o_ldf 0 0 rfl rfl rfl Tryz.underlying116 rfl rfl ?_)
 refine st_on 30 rfl rfl rfl (o_y (v := .bool true) (y_k rfl rfl (fun _ => by kernel_rfl)) rfl rfl rfl ?_)
 refine st_on 30 rfl rfl rfl (o_y (v := .bool false) (y_k rfl rfl (fun _ => by kernel_rfl)) rfl rfl rfl ?_)
 refine s_y rfl (v := .bool false) (y_pick rfl rfl) rfl ?_
 refine s_nil (q_then (c_false rfl (c_skip (q_then (c_seq (c_region ?_))))))
 refine s_y rfl (v := .iface 64 (.agg #[.int .i64 k])) (y_mv rfl) rfl ?_
 refine s_y rfl (v := .iface 100 (.pointer (some ⟨b, 0, none⟩))) (y_mv rfl) rfl ?_
 refine st rfl (o_ldn 0 3 rfl rfl rfl rfl Tryz.underlying113 rfl (by kernel_rfl) (by kernel_rfl) rfl ?_)
 refine s_y rfl (v := .iface 147 (.agg #[.pointer (some ⟨5, 64, none⟩)])) (y_mv rfl) rfl ?_
 refine st rfl (o_call [2, 1] [] (as_hit_cw_ k b b1) rfl rfl rfl rfl rfl rfl (fun v L' I' hq1 => ?_))
 obtain ⟨rfl, rfl, rfl⟩ := hq1
 refine s_y rfl (v := .bool true) (y_as rfl) rfl ?_
 refine s_nil (q_then (c_ret ?_))
 refine c_fin (I' := []) [0] [0] rfl (.tmp rfl .nil) rfl rfl rfl ?_
 exact ⟨rfl, rfl, rfl⟩
theorem As_nil_cw_ (b : Nat) : Con Tryz.prog 48 [.nilIface, .iface 100 (.pointer (some ⟨b, 0, none⟩))] [] [] (fun v L' I' => v = .bool false ∧ L' = [] ∧ I' = []) := by
 refine fn_of Tryz.func48 rfl Tryz.ntmps48 (by kernel_rfl) rfl (fun C => ?_)
 refine c_seq (c_region ?_)
 refine s_y rfl (v := .bool false) (y_as rfl) rfl ?_
 refine s_nil (q_then (c_seq (c_seq (c_region ?_))))
 refine s_y rfl (v := .nilIface) (y_mv rfl) rfl ?_
 refine s_y rfl (v := .bool true) (y_k rfl rfl (fun _ => by kernel_rfl)) rfl ?_
 refine s_nil (q_then (c_true rfl (c_seq (c_region ?_))))
 refine s_y rfl (v := .bool false) (y_as rfl) rfl ?_
 refine s_nil (q_then (c_ret (q_then_ret ?_)))
 refine c_fin (I' := []) [] [] rfl (.tmp rfl .nil) rfl rfl rfl ?_
 exact ⟨rfl, rfl, rfl⟩
theorem ctold_ (k : Int) (why : Int) : Con Tryz.prog 25 [.iface 64 (.agg #[.int .i64 k]), .int .i64 why] [] [cellsAt 0 0 [.iface 147 (.agg #[.pointer (some ⟨5, 48, none⟩)])]] (fun v L' I' => v = .int .i64 why ∧ L' = [] ∧ I' = []) := by
 refine fn_of Tryz.func25 rfl Tryz.ntmps25 (by kernel_rfl) rfl (fun C => ?_)
 refine c_seq (c_region ?_)
 refine s_y rfl (v := .int .i64 0) (y_as rfl) rfl ?_
 refine s_nil (q_then (c_seq (c_region ?_)))
 refine st rfl (o_box (cs := [.int .i64 0]) (T := 64) rfl rfl rfl rfl (fun _ => by kernel_rfl) (fun b1 => ?_))
 refine s_nil (q_then (c_seq (c_seq (c_region ?_))))
 refine s_y rfl (v := .iface 64 (.agg #[.int .i64 k])) (y_mv rfl) rfl ?_
 refine s_y rfl (v := .iface 100 (.pointer (some ⟨b1, 0, none⟩))) (y_k rfl rfl (fun _ => by kernel_rfl)) rfl ?_
 refine st rfl (o_call [0] [0] (As_hit_cw_ k b1) rfl rfl rfl rfl rfl rfl (fun v L' I' hq1 => ?_))
 obtain ⟨rfl, rfl, rfl⟩ := hq1
 refine s_nil (q_then (c_true rfl (c_seq (c_region ?_))))
 refine s_y rfl (v := .int .i64 why) (y_mv rfl) rfl ?_
 refine s_y rfl (v := .int .i64 why) (y_as rfl) rfl ?_
 refine s_nil (q_then (c_ret (q_then_ret ?_)))
 refine c_fin (I' := []) [] [0] rfl (.tmp rfl .nil) rfl rfl rfl ?_
 exact ⟨rfl, rfl, rfl⟩
theorem errOf_ (e : Int) : Con Tryz.prog 62 [.int .i64 e] [] [] (fun v L' I' => v = cwV (ecI e) ∧ L' = [] ∧ I' = []) := by
 refine fn_of Tryz.func62 rfl Tryz.ntmps62 (by kernel_rfl) rfl (fun C => ?_)
 refine c_seq (c_region ?_)
 refine s_y rfl (v := .nilIface) (y_as rfl) rfl ?_
 refine s_nil (q_then (c_seq (c_seq (c_region ?_))))
 refine s_y rfl (v := .int .i64 e) (y_mv rfl) rfl ?_
 refine e_by (e = 0) (fun h1 => ?_) (fun h1 => ?_)
 ·
  refine s_y rfl (v := .bool false) (y_nt (y_k (v := .bool (!decide (e = 0))) rfl rfl (fun _ => by kernel_rfl)) h1) rfl ?_
  refine s_nil (q_then (c_false rfl (c_skip (q_then (c_seq (c_region ?_))))))
  refine s_y rfl (v := .nilIface) (y_as rfl) rfl ?_
  refine s_nil (q_then (c_ret ?_))
  refine c_fin (I' := []) [] [] rfl (.tmp rfl .nil) rfl rfl rfl ?_
  exact ⟨by rw [ecI_0 (by omega)]; rfl, rfl, rfl⟩
 ·
  refine s_y rfl (v := .bool true) (y_nf (y_k (v := .bool (!decide (e = 0))) rfl rfl (fun _ => by kernel_rfl)) h1) rfl ?_
  refine s_nil (q_then (c_true rfl (c_seq (c_region ?_))))
  refine s_y rfl (v := .int .i64 e) (y_mv rfl) rfl ?_
  refine s_y rfl (v := .agg #[.int .i64 e]) (y_k rfl rfl (fun _ => by kernel_rfl)) rfl ?_
  refine s_y rfl (v := .iface 64 (.agg #[.int .i64 e])) (y_k rfl rfl (fun _ => by kernel_rfl)) rfl ?_
  refine s_y rfl (v := .iface 64 (.agg #[.int .i64 e])) (y_as rfl) rfl ?_
  refine s_nil (q_then (c_ret (q_then_ret ?_)))
  refine c_fin (I' := []) [] [] rfl (.tmp rfl .nil) rfl rfl rfl ?_
  exact ⟨by rw [ecI_1 (by assumption)]; rfl, rfl, rfl⟩
end Go.Proofs.YtcnncdniibkjkaaGreatDoor
