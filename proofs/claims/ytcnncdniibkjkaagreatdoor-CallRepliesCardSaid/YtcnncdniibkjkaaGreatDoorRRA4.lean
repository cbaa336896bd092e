/- The laws of chapter 17 (call), walked over the given program; no condition but what stands in each theorem: part RA4. -/
import Derived.Test.YtcnncdniibkjkaaGreatDoorRLJ
import Derived.Test.YtcnncdniibkjkaaGreatDoorRLNB
import Derived.Test.YtcnncdniibkjkaaGreatDoorRLPD
set_option linter.unusedVariables false
set_option linter.unusedSimpArgs false
set_option maxRecDepth 100000
set_option maxHeartbeats 8000000
namespace Go.Proofs.YtcnncdniibkjkaaGreatDoor
open Go Go.Sl Go.RowKit Go.Extern.Stop Go.Stop Go.Extern

def gsm (x : Wst) : Prop := x.1.size ≤ 100000 ∧ lab64 x.2.2.lb ∧ x.2.2.nm.size ≤ 100000 ∧ x.2.2.da.size ≤ 100000
theorem gsm_get {x : Wst} (y : UInt8) (h : gsm x) : gsm (getC x y) := by
  obtain ⟨h1, h2, h3, h4⟩ := h
  have a0 := getC_size x y
  have a1 := textF_size x.1
  have h5 : (getC x y).1.size ≤ 100000 := by omega
  refine ⟨h5, ?_⟩
  clear h5 a0
  unfold getC getP
  repeat' split
  · exact ⟨labGet_64 _, h3, h4⟩
  · exact ⟨h2, Nat.le_trans a1 h1, h4⟩
  · exact ⟨h2, h3, Nat.le_trans a1 h1⟩
  · exact ⟨h2, h3, h4⟩
  · exact ⟨h2, h3, h4⟩
  · exact ⟨h2, h3, h4⟩
  · exact ⟨h2, h3, h4⟩
theorem gsm_getN : ∀ (l : List UInt8) {x : Wst}, gsm x → gsm (getN l x)
  | [], _, h => h
  | y :: l, x, h => gsm_getN l (gsm_get y h)
theorem cget_sm {s : ByteArray} (h : s.size ≤ 100000) : lab64 (callGet s).1.lb ∧ (callGet s).1.nm.size ≤ 100000 ∧ (callGet s).1.da.size ≤ 100000 := by
  have l0 : lab64 ⟨0, 0, 0⟩ := by show (0 : Nat) < _; decide
  have z0 : (⟨#[]⟩ : ByteArray).size ≤ 100000 := by decide
  have h1 : gsm (getI s) := ⟨Nat.le_trans (getF_rest 1 s) h, l0, z0, z0⟩
  have h2 : gsm (getX s) := gsm_getN _ h1
  unfold callGet
  split
  · exact h2.2
  · exact ⟨l0, z0, z0⟩
theorem few64 {c : Cal} (h : lab64 c.lb) (hp : c.pl ≤ 9223372036854775807 ∧ c.nn ≤ 9223372036854775807 ∧ c.id ≤ 9223372036854775807) : c64 (fewC c) := ⟨h, by show c.pl < _; omega, by show c.nn < _; omega, by show c.id < _; omega⟩

def numS (w n : Int) : ByteArray := if n < 0 then ⟨#[]⟩ else (putF w (u64 n)).1
theorem numS_ok {w n : Int} (h : numE w n = 0) : numS w n = (putF w (u64 n)).1 := by
  have h1 := (num_put h).1
  unfold numS; rw [if_neg (by omega)]
theorem numS_neg {w n : Int} (h : n < 0) : numS w n = ⟨#[]⟩ ∧ numE w n = 31 := ⟨if_pos h, if_pos h⟩
theorem numS_pos {w n : Int} (h : ¬ n < 0) : numS w n = (putF w (u64 n)).1 ∧ numE w n = (putF w (u64 n)).2 := ⟨if_neg h, if_neg h⟩
def encR (y : UInt8) (c : Cal) : ByteArray := if y = 76 then (putL c.lb).1 else if y = 84 then (ptextF c.nm).1 else if y = 68 then (ptextF c.da).1 else if y = 65 then numS 2 c.pl else if y = 78 then numS 2 c.nn else if y = 73 then numS 1 c.id else ⟨#[]⟩
theorem encR_ok {y : UInt8} {c : Cal} (hy : isLet y) (h : (encC y c).2 = 0) : encR y c = (encC y c).1 := by
  rcases hy with rfl | rfl | rfl | rfl | rfl | rfl
  · rfl
  · rfl
  · rfl
  · exact numS_ok (w := 2) (n := c.pl) h
  · exact numS_ok (w := 2) (n := c.nn) h
  · exact numS_ok (w := 1) (n := c.id) h
theorem numS_size (w n : Int) : (numS w n).size ≤ 8 := by
  unfold numS
  split
  · exact Nat.zero_le _
  · exact putF_size _ _
theorem encR_size {y : UInt8} {c : Cal} (h6 : lab64 c.lb) : (encR y c).size ≤ 300 := by
  have a1 := putL_size h6
  have a2 := ptextF_size c.nm
  have a3 := ptextF_size c.da
  have a4 := numS_size 2 c.pl
  have a5 := numS_size 2 c.nn
  have a6 := numS_size 1 c.id
  unfold encR
  repeat' split
  all_goals first | omega | exact Nat.zero_le _
theorem fld_at {op : Int} {x : ByteArray} (h : ([(⟨#[]⟩ : ByteArray), (⟨#[]⟩ : ByteArray), (⟨#[76]⟩ : ByteArray), (⟨#[84, 73, 78]⟩ : ByteArray), (⟨#[84, 65, 68]⟩ : ByteArray), (⟨#[76, 84, 65, 78]⟩ : ByteArray), (⟨#[84, 78]⟩ : ByteArray), (⟨#[84]⟩ : ByteArray), (⟨#[76]⟩ : ByteArray), (⟨#[76, 84, 68]⟩ : ByteArray), (⟨#[84]⟩ : ByteArray), (⟨#[73]⟩ : ByteArray), (⟨#[68]⟩ : ByteArray), (⟨#[73, 68]⟩ : ByteArray), (⟨#[73, 78]⟩ : ByteArray), (⟨#[76]⟩ : ByteArray), (⟨#[76]⟩ : ByteArray)] : List ByteArray)[op.toNat]? = some x) (h1 : ¬ op < 1) (h2 : ¬ op ≥ 17) : x = signsF op := by
  have hop : op = 1 ∨ op = 2 ∨ op = 3 ∨ op = 4 ∨ op = 5 ∨ op = 6 ∨ op = 7 ∨ op = 8 ∨ op = 9 ∨ op = 10 ∨ op = 11 ∨ op = 12 ∨ op = 13 ∨ op = 14 ∨ op = 15 ∨ op = 16 := by omega
  rcases hop with rfl | rfl | rfl | rfl | rfl | rfl | rfl | rfl | rfl | rfl | rfl | rfl | rfl | rfl | rfl | rfl <;> exact (Option.some.inj h).symm
theorem let_73 {y : UInt8} (hy : isLet y) (h1 : ¬ (y.toNat : Int) = 76) (h2 : ¬ (y.toNat : Int) = 84) (h3 : ¬ (y.toNat : Int) = 68) (h4 : ¬ (y.toNat : Int) = 65) (h5 : ¬ (y.toNat : Int) = 78) : (y.toNat : Int) = 73 := by
  rcases hy with rfl | rfl | rfl | rfl | rfl | rfl
  · exact absurd rfl h1
  · exact absurd rfl h2
  · exact absurd rfl h3
  · exact absurd rfl h4
  · exact absurd rfl h5
  · rfl
theorem u8_of {y z : UInt8} (h : (y.toNat : Int) = (z.toNat : Int)) : y = z := UInt8.toNat_inj.1 (by omega)
theorem dec_add (e : Int) : decide (addQ none e = none) = decide (e = 0) := by
  by_cases h : e = 0
  · subst h; rfl
  · rw [decide_eq_false h]
    exact decide_eq_false (fun q => h (addQ_none q).2)
theorem lts_sz (s : ByteArray) : (lts s).length = s.size := Array.length_toList
theorem signs_sz (op : Int) : (signsF op).size ≤ 4 := by
  have := signs_len op
  rw [lts_sz] at this; exact this
theorem clrN_snoc (l : List UInt8) (y : UInt8) (c : Cal) : clrN (l ++ [y]) c = clrC y (clrN l c) := by unfold clrN; rw [List.foldl_append]; rfl
theorem okN_snoc : ∀ (l : List UInt8) (y : UInt8) (c : Cal), okN (l ++ [y]) c ↔ okN l c ∧ (encC y (clrN l c)).2 = 0
  | [], y, c => by show (encC y c).2 = 0 ∧ True ↔ True ∧ (encC y c).2 = 0; simp
  | z :: l, y, c => by
    have ih := okN_snoc l y (clrC z c)
    show ((encC z c).2 = 0 ∧ okN (l ++ [y]) (clrC z c)) ↔ ((encC z c).2 = 0 ∧ okN l (clrC z c)) ∧ (encC y (clrN l (clrC z c))).2 = 0
    rw [ih, and_assoc]
theorem encN_snoc : ∀ (l : List UInt8) (y : UInt8) (c : Cal), encN (l ++ [y]) c = encN l c ++ (encC y (clrN l c)).1
  | [], y, c => by show (encC y c).1 ++ (⟨#[]⟩ : ByteArray) = (⟨#[]⟩ : ByteArray) ++ (encC y c).1; rw [ba_nil, ba_nil']
  | z :: l, y, c => by
    have ih := encN_snoc l y (clrC z c)
    show (encC z c).1 ++ encN (l ++ [y]) (clrC z c) = ((encC z c).1 ++ encN l (clrC z c)) ++ (encC y (clrN l (clrC z c))).1
    rw [ih, ba_assoc]
theorem okN_pre : ∀ (l m : List UInt8) (c : Cal), okN (l ++ m) c → okN l c
  | [], _, _, _ => trivial
  | z :: l, m, c, h => ⟨h.1, okN_pre l m (clrC z c) h.2⟩
abbrev RPI (l : List UInt8) (k : Nat) (x0 o : ByteArray) (c0 c1 : Cal) : Prop := okN (l.take k) c0 ∧ c1 = clrN (l.take k) c0 ∧ o = x0 ++ encN (l.take k) c0
theorem rp_t {l : List UInt8} {k : Nat} {x0 o : ByteArray} {c0 c1 : Cal} {y : UInt8} (hl : ∀ z ∈ l, isLet z) (h : RPI l k x0 o c0 c1) (hy : l[k]? = some y) (he : (encC y c1).2 = 0) : RPI l (k + 1) x0 (o ++ encR y c1) c0 (clrC y c1) := by
  obtain ⟨h1, h2, h3⟩ := h
  have e : l.take (k + 1) = l.take k ++ [y] := by rw [List.take_add_one, hy]; rfl
  have hr := encR_ok (hl y (List.mem_of_getElem? hy)) he
  refine ⟨?_, ?_, ?_⟩
  · rw [e]; exact (okN_snoc _ _ _).2 ⟨h1, by rw [← h2]; exact he⟩
  · rw [e, clrN_snoc, ← h2]
  · rw [e, encN_snoc, ← h2, h3, hr, ba_assoc]
theorem rp_f {l : List UInt8} {k : Nat} {x0 o : ByteArray} {c0 c1 : Cal} {y : UInt8} (h : RPI l k x0 o c0 c1) (hy : l[k]? = some y) (he : ¬ (encC y c1).2 = 0) : ¬ okN l c0 := fun q => by
  obtain ⟨_, h2, _⟩ := h
  have e : l.take (k + 1) = l.take k ++ [y] := by rw [List.take_add_one, hy]; rfl
  rw [← List.take_append_drop (k + 1) l] at q
  have q1 := okN_pre _ _ _ q
  rw [e] at q1
  have q2 := ((okN_snoc _ _ _).1 q1).2
  rw [← h2] at q2
  exact he q2
theorem clrC_sm {y : UInt8} {c : Cal} (h : lab64 c.lb ∧ c.nm.size ≤ 100000 ∧ c.da.size ≤ 100000) : lab64 (clrC y c).lb ∧ (clrC y c).nm.size ≤ 100000 ∧ (clrC y c).da.size ≤ 100000 := by
  obtain ⟨h1, h2, h3⟩ := h
  have l0 : lab64 ⟨0, 0, 0⟩ := by show (0 : Nat) < _; decide
  have z0 : (⟨#[]⟩ : ByteArray).size ≤ 100000 := by decide
  unfold clrC
  repeat' split
  · exact ⟨l0, h2, h3⟩
  · exact ⟨h1, z0, h3⟩
  · exact ⟨h1, h2, z0⟩
  · exact ⟨h1, h2, h3⟩
  · exact ⟨h1, h2, h3⟩
  · exact ⟨h1, h2, h3⟩
  · exact ⟨h1, h2, h3⟩
theorem rpe_no {c : Cal} (h : ¬ isOp c.op) : callPut c = (⟨#[]⟩, 170) := by
  unfold callPut; rw [if_neg (fun q => h q.1)]
theorem putI_eq {c : Cal} (h : isOp c.op) : putI c = (numS 1 c.op, none, op0 c) := by
  obtain ⟨i1, i2⟩ := putI_op h
  have e : numS 1 c.op = beB 1 (u64 c.op) := by
    unfold numS
    rw [if_neg (by unfold isOp at h; omega), put_op h]
  show ((putI c).1, (putI c).2.1, (putI c).2.2) = _
  rw [i1, i2, e]; rfl
theorem rpe_bad {c : Cal} (h : isOp c.op) (hn : ¬ okN (lts (signsF c.op)) (op0 c)) : callPut c = (⟨#[]⟩, 170) := by
  unfold callPut
  rw [if_neg]
  rintro ⟨_, q2, _⟩
  unfold putX at q2
  rw [putI_eq h] at q2
  exact hn (putN_enc _ _ _ (signs_let _) q2).1
theorem rpe_x {c c1 : Cal} {k : Nat} {o : ByteArray} (h : isOp c.op) (hp : RPI (lts (signsF c.op)) k (numS 1 c.op) o (op0 c) c1) (hk : (signsF c.op).size ≤ k) : putX c = (o, none, c1) := by
  obtain ⟨h1, h2, h3⟩ := hp
  rw [List.take_of_length_le (by rw [lts_sz]; exact hk)] at h1 h2 h3
  unfold putX
  rw [putI_eq h, putN_of _ _ _ (signs_let _) h1, h2, h3]
theorem rpe_g {c c1 : Cal} {k : Nat} {o : ByteArray} (h : isOp c.op) (hp : RPI (lts (signsF c.op)) k (numS 1 c.op) o (op0 c) c1) (hk : (signsF c.op).size ≤ k) (hc : c1 = cal0) : callPut c = (o, 0) := by
  have e := rpe_x h hp hk
  unfold callPut; rw [e, if_pos ⟨h, rfl, hc⟩]
theorem rpe_r {c c1 : Cal} {k : Nat} {o : ByteArray} (h : isOp c.op) (hp : RPI (lts (signsF c.op)) k (numS 1 c.op) o (op0 c) c1) (hk : (signsF c.op).size ≤ k) (hc : ¬ c1 = cal0) : callPut c = (⟨#[]⟩, 170) := by
  have e := rpe_x h hp hk
  unfold callPut; rw [e, if_neg (fun q => hc q.2.2)]
theorem gi_0 {s : ByteArray} (h : (getF 1 s).2.2 = 0) : getI s = ((getF 1 s).2.1, none, (getI s).2.2) := by
  unfold getI; rw [h]; rfl
theorem rg_t {l : List UInt8} {k : Nat} {R : Wst} {o : ByteArray} {c1 : Cal} {y : UInt8} (h : getN (l.take k) R = (o, none, c1)) (hy : l[k]? = some y) (he : (getC (o, none, c1) y).2.1 = none) : getN (l.take (k + 1)) R = ((getC (o, none, c1) y).1, none, (getC (o, none, c1) y).2.2) := by
  rw [← getN_at h.symm hy]
  generalize getC (o, none, c1) y = g at he ⊢
  obtain ⟨a, q, b⟩ := g
  simp only at he
  rw [he]
theorem rg_f {l : List UInt8} {k : Nat} {R : Wst} {o : ByteArray} {c1 : Cal} {y : UInt8} (hl : ∀ z ∈ l, isLet z) (h : getN (l.take k) R = (o, none, c1)) (hy : l[k]? = some y) (he : ¬ (getC (o, none, c1) y).2.1 = none) : ¬ (getN l R).2.1 = none := fun q => by
  have e := getN_at h.symm hy
  have e2 : getN l R = getN (l.drop (k + 1)) (getN (l.take (k + 1)) R) := by
    have : l = l.take (k + 1) ++ l.drop (k + 1) := (List.take_append_drop _ _).symm
    conv => lhs; rw [this]
    unfold getN; rw [List.foldl_append]
  rw [e2, ← e] at q
  exact he (getN_none _ _ (fun z hz => hl z (List.mem_of_mem_drop hz)) q)
theorem rge_e {s : ByteArray} (he : ¬ (getF 1 s).2.2 = 0) : callGet s = (cal0, 170) := by
  unfold callGet; rw [if_neg (fun q => he (getX_head q.2.1).1)]
theorem rge_no {s : ByteArray} (h : ¬ isOp (opG s)) : callGet s = (cal0, 170) := by
  unfold callGet; rw [if_neg (fun q => h q.1)]
theorem rge_bad {s : ByteArray} (hn : ¬ (getN (lts (signsF (opG s))) (getI s)).2.1 = none) : callGet s = (cal0, 170) := by
  unfold callGet; rw [if_neg (fun q => hn q.2.1)]
theorem rge_x {s o : ByteArray} {k : Nat} {c1 : Cal} (hp : getN ((lts (signsF (opG s))).take k) (getI s) = (o, none, c1)) (hk : (signsF (opG s)).size ≤ k) : getX s = (o, none, c1) := by
  rw [List.take_of_length_le (by rw [lts_sz]; exact hk)] at hp
  exact hp
theorem rge_g {s o : ByteArray} {k : Nat} {c1 : Cal} (h : isOp (opG s)) (hp : getN ((lts (signsF (opG s))).take k) (getI s) = (o, none, c1)) (hk : (signsF (opG s)).size ≤ k) (ho : o = ⟨#[]⟩) : callGet s = (c1, 0) := by
  unfold callGet; rw [rge_x hp hk, if_pos ⟨h, rfl, ho⟩]
theorem rge_r {s o : ByteArray} {k : Nat} {c1 : Cal} (hp : getN ((lts (signsF (opG s))).take k) (getI s) = (o, none, c1)) (hk : (signsF (opG s)).size ≤ k) (ho : ¬ o = ⟨#[]⟩) : callGet s = (cal0, 170) := by
  unfold callGet; rw [rge_x hp hk, if_neg (fun q => ho q.2.2)]
theorem rfields_ (op : Int) : Con Tryz.prog 26 [.int .i64 op] [] [] (fun v L' I' => ((isOp op) ∧ v = .tuple #[.string (signsF op), .bool true] ∧ L' = [] ∧ I' = []) ∨ ((¬ isOp op) ∧ v = .tuple #[.string (⟨#[]⟩ : ByteArray), .bool false] ∧ L' = [] ∧ I' = [])) := by
 refine fn_of Tryz.func26 rfl Tryz.ntmps26 (by kernel_rfl) rfl (fun C => ?_)
 refine c_seq (c_region ?_)
 refine s_y rfl (v := .string (⟨#[]⟩ : ByteArray)) (y_as rfl) rfl ?_
 refine s_y rfl (v := .bool false) (y_as rfl) rfl ?_
 refine s_nil (q_then (c_seq (c_region ?_)))
 refine st rfl (o_lit (cs := [.string (⟨#[]⟩ : ByteArray), .string (⟨#[]⟩ : ByteArray), .string (⟨#[76]⟩ : ByteArray), .string (⟨#[84, 73, 78]⟩ : ByteArray), .string (⟨#[84, 65, 68]⟩ : ByteArray), .string (⟨#[76, 84, 65, 78]⟩ : ByteArray), .string (⟨#[84, 78]⟩ : ByteArray), .string (⟨#[84]⟩ : ByteArray), .string (⟨#[76]⟩ : ByteArray), .string (⟨#[76, 84, 68]⟩ : ByteArray), .string (⟨#[84]⟩ : ByteArray), .string (⟨#[73]⟩ : ByteArray), .string (⟨#[68]⟩ : ByteArray), .string (⟨#[73, 68]⟩ : ByteArray), .string (⟨#[73, 78]⟩ : ByteArray), .string (⟨#[76]⟩ : ByteArray), .string (⟨#[76]⟩ : ByteArray)]) (T := 9) (m := 17) rfl rfl rfl rfl (fun _ => by kernel_rfl) (fun b1 => ?_))
 refine s_y rfl (v := .slice (some ⟨b1, 0, none⟩) 17 17) (y_as rfl) rfl ?_
 refine s_nil (q_then (c_seq (c_seq (c_region ?_))))
 refine s_y rfl (v := .int .i64 op) (y_mv rfl) rfl ?_
 refine e_by (op < 1) (fun h1 => ?_) (fun h1 => ?_)
 ·
  refine s_y rfl (v := .bool true) (y_t (y_k (v := .bool (decide (op < 1))) rfl rfl (fun _ => by kernel_rfl)) h1) rfl ?_
  refine s_y rfl (v := .bool true) (y_mv rfl) rfl ?_
  refine st_off 8 rfl rfl rfl rfl rfl rfl ?_
  refine st_off 8 rfl rfl rfl rfl rfl rfl ?_
  refine st_off 8 rfl rfl rfl rfl rfl rfl ?_
  refine st_off 8 rfl rfl rfl rfl rfl rfl ?_
  refine s_y rfl (v := .bool true) (y_pick rfl rfl) rfl ?_
  refine s_nil (q_then (c_true rfl (c_seq (c_region ?_))))
  refine s_y rfl (v := .string (⟨#[]⟩ : ByteArray)) (y_as rfl) rfl ?_
  refine s_y rfl (v := .bool false) (y_as rfl) rfl ?_
  refine s_nil (q_then (c_ret (q_then_ret ?_)))
  refine c_fin (I' := []) [] [] rfl (.tmp rfl (.tmp rfl .nil)) rfl rfl rfl ?_
  exact .inr ⟨fun q => by unfold isOp at q; omega, rfl, rfl, rfl⟩
 ·
  refine s_y rfl (v := .bool false) (y_f (y_k (v := .bool (decide (op < 1))) rfl rfl (fun _ => by kernel_rfl)) h1) rfl ?_
  refine s_y rfl (v := .bool false) (y_mv rfl) rfl ?_
  refine st_on 8 rfl rfl rfl (o_y (v := .int .i64 op) (y_mv rfl) rfl rfl rfl ?_)
  refine st_on 8 rfl rfl rfl (o_y (v := .slice (some ⟨b1, 0, none⟩) 17 17) (y_mv rfl) rfl rfl rfl ?_)
  refine st_on 8 rfl rfl rfl (o_y (v := .int .i64 17) (y_k rfl rfl (fun _ => by kernel_rfl)) rfl rfl rfl ?_)
  refine e_by (op ≥ 17) (fun h2 => ?_) (fun h2 => ?_)
  ·
   refine st_on 8 rfl rfl rfl (o_y (v := .bool true) (y_t (y_k (v := .bool (decide (op ≥ 17))) rfl rfl (fun _ => by kernel_rfl)) h2) rfl rfl rfl ?_)
   refine s_y rfl (v := .bool true) (y_pick rfl rfl) rfl ?_
   refine s_nil (q_then (c_true rfl (c_seq (c_region ?_))))
   refine s_y rfl (v := .string (⟨#[]⟩ : ByteArray)) (y_as rfl) rfl ?_
   refine s_y rfl (v := .bool false) (y_as rfl) rfl ?_
   refine s_nil (q_then (c_ret (q_then_ret ?_)))
   refine c_fin (I' := []) [] [] rfl (.tmp rfl (.tmp rfl .nil)) rfl rfl rfl ?_
   exact .inr ⟨fun q => by unfold isOp at q; omega, rfl, rfl, rfl⟩
  ·
   refine st_on 8 rfl rfl rfl (o_y (v := .bool false) (y_f (y_k (v := .bool (decide (op ≥ 17))) rfl rfl (fun _ => by kernel_rfl)) h2) rfl rfl rfl ?_)
   refine s_y rfl (v := .bool false) (y_pick rfl rfl) rfl ?_
   refine s_nil (q_then (c_false rfl (c_skip (q_then (c_seq (c_region ?_))))))
   refine s_y rfl (v := .slice (some ⟨b1, 0, none⟩) 17 17) (y_mv rfl) rfl ?_
   refine s_y rfl (v := .int .i64 op) (y_mv rfl) rfl ?_
   refine e_calm 0 rfl ?_
   refine e_lit strTy [(⟨#[]⟩ : ByteArray), (⟨#[]⟩ : ByteArray), (⟨#[76]⟩ : ByteArray), (⟨#[84, 73, 78]⟩ : ByteArray), (⟨#[84, 65, 68]⟩ : ByteArray), (⟨#[76, 84, 65, 78]⟩ : ByteArray), (⟨#[84, 78]⟩ : ByteArray), (⟨#[84]⟩ : ByteArray), (⟨#[76]⟩ : ByteArray), (⟨#[76, 84, 68]⟩ : ByteArray), (⟨#[84]⟩ : ByteArray), (⟨#[73]⟩ : ByteArray), (⟨#[68]⟩ : ByteArray), (⟨#[73, 68]⟩ : ByteArray), (⟨#[73, 78]⟩ : ByteArray), (⟨#[76]⟩ : ByteArray), (⟨#[76]⟩ : ByteArray)] 0 rfl rfl (by simp) ?_
   refine e_at 0 ((op).toNat) rfl (by simp only [List.length_cons, List.length_nil]; omega) (fun b2 o1 x1 hA1 hx1 => ?_)
   refine s_y rfl (v := .pointer (some ⟨b2, o1 + ((op).toNat) * 1, none⟩)) (y_at (d := strTy) (l := [(⟨#[]⟩ : ByteArray), (⟨#[]⟩ : ByteArray), (⟨#[76]⟩ : ByteArray), (⟨#[84, 73, 78]⟩ : ByteArray), (⟨#[84, 65, 68]⟩ : ByteArray), (⟨#[76, 84, 65, 78]⟩ : ByteArray), (⟨#[84, 78]⟩ : ByteArray), (⟨#[84]⟩ : ByteArray), (⟨#[76]⟩ : ByteArray), (⟨#[76, 84, 68]⟩ : ByteArray), (⟨#[84]⟩ : ByteArray), (⟨#[73]⟩ : ByteArray), (⟨#[68]⟩ : ByteArray), (⟨#[73, 68]⟩ : ByteArray), (⟨#[73, 78]⟩ : ByteArray), (⟨#[76]⟩ : ByteArray), (⟨#[76]⟩ : ByteArray)]) ((op).toNat) hA1 rfl rfl rfl (by omega) (List.getElem?_eq_some_iff.1 hx1).1 Tryz.underlying37 (by kernel_rfl) (by kernel_rfl)) rfl ?_
   refine st rfl (o_ldf 0 0 rfl rfl rfl Tryz.underlying9 rfl rfl ?_)
   refine s_y rfl (v := .string x1) (y_as rfl) rfl ?_
   refine s_y rfl (v := .bool true) (y_as rfl) rfl ?_
   refine s_nil (q_then (c_ret ?_))
   obtain rfl : x1 = signsF op := fld_at hx1 (by omega) (by omega)
   refine c_fin (I' := []) [] [] rfl (.tmp rfl (.tmp rfl .nil)) rfl rfl rfl ?_
   exact .inl ⟨⟨by omega, by omega⟩, rfl, rfl, rfl⟩
theorem rnum_ (w : Int) (n : Int) : Con Tryz.prog 27 [.int .i64 w, .int .i64 n] [] [] (fun v L' I' => v = .tuple #[.string (numS w n), .bool (decide (numE w n = 0))] ∧ L' = [] ∧ I' = []) := by
 refine fn_of Tryz.func27 rfl Tryz.ntmps27 (by kernel_rfl) rfl (fun C => ?_)
 refine c_seq (c_region ?_)
 refine s_y rfl (v := .string (⟨#[]⟩ : ByteArray)) (y_as rfl) rfl ?_
 refine s_y rfl (v := .bool false) (y_as rfl) rfl ?_
 refine s_nil (q_then (c_seq (c_seq (c_region ?_))))
 refine s_y rfl (v := .int .i64 n) (y_mv rfl) rfl ?_
 refine e_by (n < 0) (fun h1 => ?_) (fun h1 => ?_)
 ·
  refine s_y rfl (v := .bool true) (y_t (y_k (v := .bool (decide (n < 0))) rfl rfl (fun _ => by kernel_rfl)) h1) rfl ?_
  refine s_nil (q_then (c_true rfl (c_seq (c_region ?_))))
  refine s_y rfl (v := .string (⟨#[]⟩ : ByteArray)) (y_as rfl) rfl ?_
  refine s_y rfl (v := .bool false) (y_as rfl) rfl ?_
  refine s_nil (q_then (c_ret (q_then_ret ?_)))
  refine c_fin (I' := []) [] [] rfl (.tmp rfl (.tmp rfl .nil)) rfl rfl rfl ?_
  exact ⟨by first | (rw [(numS_neg (by assumption)).1, (numS_neg (by assumption)).2]; rfl) | (rw [(numS_pos (by assumption)).1, (numS_pos (by assumption)).2]; rfl), rfl, rfl⟩
 ·
  refine s_y rfl (v := .bool false) (y_f (y_k (v := .bool (decide (n < 0))) rfl rfl (fun _ => by kernel_rfl)) h1) rfl ?_
  refine s_nil (q_then (c_false rfl (c_skip (q_then (c_seq (c_region ?_))))))
  refine s_y rfl (v := .int .i64 w) (y_mv rfl) rfl ?_
  refine s_y rfl (v := .int .i64 n) (y_mv rfl) rfl ?_
  refine s_y rfl (v := .int .u64 ((u64 n) : Int)) (y_cvi (r := ((u64 n) : Int)) rfl Tryz.underlying3 Tryz.underlying22 (u64_wrap _)) rfl ?_
  refine st rfl (o_call [] [] (rPut_ w (u64 n) (u64_lt _)) rfl rfl rfl rfl rfl rfl (fun v L' I' hq1 => ?_))
  obtain ⟨rfl, rfl, rfl⟩ := hq1
  refine s_y rfl (v := .tuple #[.string ((putF w (u64 n)).1), .int .i64 ((putF w (u64 n)).2)]) (y_mv rfl) rfl ?_
  refine s_y rfl (v := .string ((putF w (u64 n)).1)) (y_k rfl rfl (fun _ => by kernel_rfl)) rfl ?_
  refine s_y rfl (v := .int .i64 ((putF w (u64 n)).2)) (y_k rfl rfl (fun _ => by kernel_rfl)) rfl ?_
  refine s_y rfl (v := .string ((putF w (u64 n)).1)) (y_as rfl) rfl ?_
  refine s_y rfl (v := .int .i64 ((putF w (u64 n)).2)) (y_as rfl) rfl ?_
  refine s_nil (q_then (c_seq (c_region ?_)))
  refine s_y rfl (v := .string ((putF w (u64 n)).1)) (y_mv rfl) rfl ?_
  refine s_y rfl (v := .int .i64 ((putF w (u64 n)).2)) (y_mv rfl) rfl ?_
  refine s_y rfl (v := .bool (decide ((putF w (u64 n)).2 = 0))) (y_k rfl rfl (fun _ => by kernel_rfl)) rfl ?_
  refine s_y rfl (v := .string ((putF w (u64 n)).1)) (y_as rfl) rfl ?_
  refine s_y rfl (v := .bool (decide ((putF w (u64 n)).2 = 0))) (y_as rfl) rfl ?_
  refine s_nil (q_then (c_ret ?_))
  refine c_fin (I' := []) [] [] rfl (.tmp rfl (.tmp rfl .nil)) rfl rfl rfl ?_
  exact ⟨by first | (rw [(numS_neg (by assumption)).1, (numS_neg (by assumption)).2]; rfl) | (rw [(numS_pos (by assumption)).1, (numS_pos (by assumption)).2]; rfl), rfl, rfl⟩
theorem rput_ (c : Cal) (y : UInt8) (hy : isLet y) (h6 : lab64 c.lb) (hn1 : c.nm.size ≤ 100000) (hn2 : c.da.size ≤ 100000) : Con Tryz.prog 28 [.agg #[.int .i64 c.op, .int .i64 c.lb.lv, .int .u64 (c.lb.cs : Int), .int .i64 c.lb.ig, .string c.nm, .int .i64 c.pl, .int .i64 c.nn, .string c.da, .int .i64 c.id], .int .u8 (y.toNat : Int)] [] [] (fun v L' I' => v = .tuple #[.string (encR y c), .agg #[.int .i64 ((clrC y c).op), .int .i64 ((clrC y c).lb.lv), .int .u64 ((clrC y c).lb.cs : Int), .int .i64 ((clrC y c).lb.ig), .string ((clrC y c).nm), .int .i64 ((clrC y c).pl), .int .i64 ((clrC y c).nn), .string ((clrC y c).da), .int .i64 ((clrC y c).id)], .bool (decide ((encC y c).2 = 0))] ∧ L' = [] ∧ I' = []) := by
 refine fn_of Tryz.func28 rfl Tryz.ntmps28 (by kernel_rfl) rfl (fun C => ?_)
 refine c_seq (c_region ?_)
 refine st rfl (o_box (cs := [.int .i64 c.op, .int .i64 c.lb.lv, .int .u64 (c.lb.cs : Int), .int .i64 c.lb.ig, .string c.nm, .int .i64 c.pl, .int .i64 c.nn, .string c.da, .int .i64 c.id]) (T := 26) rfl rfl rfl rfl (fun _ => by kernel_rfl) (fun b1 => ?_))
 refine s_y rfl (v := .string (⟨#[]⟩ : ByteArray)) (y_as rfl) rfl ?_
 refine st rfl (o_box (cs := [.int .i64 0, .int .i64 0, .int .u64 0, .int .i64 0, .string (⟨#[]⟩ : ByteArray), .int .i64 0, .int .i64 0, .string (⟨#[]⟩ : ByteArray), .int .i64 0]) (T := 26) rfl rfl rfl rfl (fun _ => by kernel_rfl) (fun b2 => ?_))
 refine s_y rfl (v := .bool false) (y_as rfl) rfl ?_
 refine s_nil (q_then (c_seq (c_region ?_)))
 refine s_y rfl (v := .string (⟨#[]⟩ : ByteArray)) (y_as rfl) rfl ?_
 refine s_nil (q_then (c_seq (c_region ?_)))
 refine s_y rfl (v := .bool false) (y_as rfl) rfl ?_
 refine s_nil (q_then (c_seq (c_region ?_)))
 refine s_y rfl (v := .int .i64 0) (y_as rfl) rfl ?_
 refine s_nil (q_then (c_seq (c_seq (c_region ?_))))
 refine s_y rfl (v := .int .u8 (y.toNat : Int)) (y_mv rfl) rfl ?_
 refine s_nil (q_then (c_block (c_seq (c_region ?_))))
 refine e_by ((y.toNat : Int) = 76) (fun h7 => ?_) (fun h7 => ?_)
 ·
  refine s_y rfl (v := .bool true) (y_t (y_k (v := .bool (decide ((y.toNat : Int) = 76))) rfl rfl (fun _ => by kernel_rfl)) h7) rfl ?_
  refine s_y rfl (v := .bool true) (y_as rfl) rfl ?_
  refine s_nil (q_then (c_true rfl (c_seq (c_region ?_))))
  refine s_y rfl (v := .pointer (some ⟨b1, 1, none⟩)) (y_k rfl rfl (fun _ => by kernel_rfl)) rfl ?_
  refine st rfl (o_ldn 1 3 rfl rfl rfl rfl Tryz.underlying24 rfl (by kernel_rfl) (by kernel_rfl) rfl ?_)
  refine st rfl (o_call [] [] (rlPut_ c.lb (by first | assumption | exact (by assumption : ∀ x ∈ _, lab64 x) _ (List.mem_of_getElem? (by assumption)) | decide)) rfl rfl rfl rfl rfl rfl (fun v L' I' hq1 => ?_))
  obtain ⟨rfl, rfl, rfl⟩ := hq1
  refine s_y rfl (v := .tuple #[.string ((putL c.lb).1), .int .i64 ((putL c.lb).2)]) (y_mv rfl) rfl ?_
  refine s_y rfl (v := .string ((putL c.lb).1)) (y_k rfl rfl (fun _ => by kernel_rfl)) rfl ?_
  refine s_y rfl (v := .int .i64 ((putL c.lb).2)) (y_k rfl rfl (fun _ => by kernel_rfl)) rfl ?_
  refine s_y rfl (v := .string ((putL c.lb).1)) (y_as rfl) rfl ?_
  refine s_y rfl (v := .int .i64 ((putL c.lb).2)) (y_as rfl) rfl ?_
  refine s_nil (q_then (c_seq (c_region ?_)))
  refine s_y rfl (v := .int .i64 ((putL c.lb).2)) (y_mv rfl) rfl ?_
  refine s_y rfl (v := .bool (decide ((putL c.lb).2 = 0))) (y_k rfl rfl (fun _ => by kernel_rfl)) rfl ?_
  refine s_y rfl (v := .bool (decide ((putL c.lb).2 = 0))) (y_as rfl) rfl ?_
  refine s_nil (q_then (c_region ?_))
  refine s_y rfl (v := .agg #[.int .i64 0, .int .u64 0, .int .i64 0]) (y_k rfl rfl (fun _ => by kernel_rfl)) rfl ?_
  refine s_y rfl (v := .pointer (some ⟨b1, 1, none⟩)) (y_k rfl rfl (fun _ => by kernel_rfl)) rfl ?_
  refine st rfl (o_st 1 rfl rfl rfl rfl rfl (by kernel_rfl) (by kernel_rfl) rfl ?_)
  refine s_nil (q_block (q_then (c_seq ?_)))
  refine c_draw (l := ticked 6 0) [(⟨b1, 0, none⟩, .int .i64 c.op), (⟨b1, 1, none⟩, .int .i64 0), (⟨b1, 2, none⟩, .int .u64 0), (⟨b1, 3, none⟩, .int .i64 0), (⟨b1, 4, none⟩, .string c.nm), (⟨b1, 5, none⟩, .int .i64 c.pl), (⟨b1, 6, none⟩, .int .i64 c.nn), (⟨b1, 7, none⟩, .string c.da), (⟨b1, 8, none⟩, .int .i64 c.id)] [] (by kernel_rfl) rfl rfl ?_
  refine b_y (i := 0) (v := .string ((putL c.lb).1)) (ticked 6 1) rfl rfl (by exact y_mv rfl) ?_
  refine b_y (i := 2) (v := .bool (decide ((putL c.lb).2 = 0))) (ticked 6 5) rfl rfl (by exact y_mv rfl) ?_
  refine b_y (i := 3) (v := .string ((putL c.lb).1)) (ticked 6 13) rfl rfl (by exact y_as rfl) ?_
  refine a_held (i := 1) (ticked 6 15) rfl (by as_aux_lemma => kernel_rfl) rfl rfl rfl (held_pt 1 rfl rfl (held_pt 1 rfl rfl (held_pt 1 rfl rfl (held_pt 1 rfl rfl (held_pt 1 rfl rfl (held_pt 1 rfl rfl (held_pt 1 rfl rfl (held_pt 1 rfl rfl (held_pt 1 rfl rfl held_nil))))))))) (h_ldn (vs := [.int .i64 c.op, .int .i64 0, .int .u64 0, .int .i64 0, .string c.nm, .int .i64 c.pl, .int .i64 c.nn, .string c.da, .int .i64 c.id]) 0 9 rfl rfl rfl Tryz.underlying26 rfl (by kernel_rfl) (by kernel_rfl)) ?_
  refine a_each (rs := [4]) (by as_aux_lemma => kernel_rfl) (.cons (ticked 6 31) rfl rfl rfl (o_st 0 rfl rfl rfl rfl rfl (by kernel_rfl) (by kernel_rfl) rfl ?_) .nil) (List.cons_ne_nil _ _)
  refine a_and (held_pt 1 rfl rfl (held_pt 1 rfl rfl (held_pt 1 rfl rfl (held_pt 1 rfl rfl (held_pt 1 rfl rfl (held_pt 1 rfl rfl (held_pt 1 rfl rfl (held_pt 1 rfl rfl (held_pt 1 rfl rfl held_nil))))))))) ?_
  refine b_y (i := 5) (v := .bool (decide ((putL c.lb).2 = 0))) (ticked 6 63) rfl rfl (by exact y_as rfl) ?_
  refine a_done (by as_aux_lemma => kernel_rfl) ?_
  refine q_then (c_ret ?_)
  refine c_fin (I' := []) [] [] rfl (.tmp rfl (.agg 0 9 rfl rfl rfl rfl Tryz.underlying26 rfl (by kernel_rfl) (by kernel_rfl) (.tmp rfl .nil))) rfl rfl rfl ?_
  exact ⟨by obtain rfl : y = 76 := u8_of h7; rfl, rfl, rfl⟩
 ·
  refine s_y rfl (v := .bool false) (y_f (y_k (v := .bool (decide ((y.toNat : Int) = 76))) rfl rfl (fun _ => by kernel_rfl)) h7) rfl ?_
  refine s_y rfl (v := .bool false) (y_as rfl) rfl ?_
  refine s_nil (q_then (c_false rfl (c_seq (c_region ?_))))
  refine e_by ((y.toNat : Int) = 84) (fun h8 => ?_) (fun h8 => ?_)
  ·
   refine s_y rfl (v := .bool true) (y_t (y_k (v := .bool (decide ((y.toNat : Int) = 84))) rfl rfl (fun _ => by kernel_rfl)) h8) rfl ?_
   refine s_y rfl (v := .bool true) (y_as rfl) rfl ?_
   refine s_nil (q_then (c_true rfl (c_seq (c_region ?_))))
   refine s_y rfl (v := .pointer (some ⟨b1, 4, none⟩)) (y_k rfl rfl (fun _ => by kernel_rfl)) rfl ?_
   refine st rfl (o_ld 1 rfl rfl rfl Tryz.underlying9 rfl rfl ?_)
   refine st rfl (o_call [] [] (rPutText_ c.nm (by first | omega | (rw [ByteArray.size_append]; omega) | decide | assumption)) rfl rfl rfl rfl rfl rfl (fun v L' I' hq2 => ?_))
   obtain ⟨rfl, rfl, rfl⟩ := hq2
   refine s_y rfl (v := .tuple #[.string ((ptextF c.nm).1), .int .i64 ((ptextF c.nm).2)]) (y_mv rfl) rfl ?_
   refine s_y rfl (v := .string ((ptextF c.nm).1)) (y_k rfl rfl (fun _ => by kernel_rfl)) rfl ?_
   refine s_y rfl (v := .int .i64 ((ptextF c.nm).2)) (y_k rfl rfl (fun _ => by kernel_rfl)) rfl ?_
   refine s_y rfl (v := .string ((ptextF c.nm).1)) (y_as rfl) rfl ?_
   refine s_y rfl (v := .int .i64 ((ptextF c.nm).2)) (y_as rfl) rfl ?_
   refine s_nil (q_then (c_seq (c_region ?_)))
   refine s_y rfl (v := .int .i64 ((ptextF c.nm).2)) (y_mv rfl) rfl ?_
   refine s_y rfl (v := .bool (decide ((ptextF c.nm).2 = 0))) (y_k rfl rfl (fun _ => by kernel_rfl)) rfl ?_
   refine s_y rfl (v := .bool (decide ((ptextF c.nm).2 = 0))) (y_as rfl) rfl ?_
   refine s_nil (q_then (c_region ?_))
   refine s_y rfl (v := .pointer (some ⟨b1, 4, none⟩)) (y_k rfl rfl (fun _ => by kernel_rfl)) rfl ?_
   refine st rfl (o_st 1 rfl rfl rfl rfl rfl (by kernel_rfl) (by kernel_rfl) rfl ?_)
   refine s_nil (q_block (q_then (c_seq ?_)))
   refine c_draw (l := ticked 6 0) [(⟨b1, 0, none⟩, .int .i64 c.op), (⟨b1, 1, none⟩, .int .i64 c.lb.lv), (⟨b1, 2, none⟩, .int .u64 (c.lb.cs : Int)), (⟨b1, 3, none⟩, .int .i64 c.lb.ig), (⟨b1, 4, none⟩, .string (⟨#[]⟩ : ByteArray)), (⟨b1, 5, none⟩, .int .i64 c.pl), (⟨b1, 6, none⟩, .int .i64 c.nn), (⟨b1, 7, none⟩, .string c.da), (⟨b1, 8, none⟩, .int .i64 c.id)] [] (by kernel_rfl) rfl rfl ?_
   refine b_y (i := 0) (v := .string ((ptextF c.nm).1)) (ticked 6 1) rfl rfl (by exact y_mv rfl) ?_
   refine b_y (i := 2) (v := .bool (decide ((ptextF c.nm).2 = 0))) (ticked 6 5) rfl rfl (by exact y_mv rfl) ?_
   refine b_y (i := 3) (v := .string ((ptextF c.nm).1)) (ticked 6 13) rfl rfl (by exact y_as rfl) ?_
   refine a_held (i := 1) (ticked 6 15) rfl (by as_aux_lemma => kernel_rfl) rfl rfl rfl (held_pt 1 rfl rfl (held_pt 1 rfl rfl (held_pt 1 rfl rfl (held_pt 1 rfl rfl (held_pt 1 rfl rfl (held_pt 1 rfl rfl (held_pt 1 rfl rfl (held_pt 1 rfl rfl (held_pt 1 rfl rfl held_nil))))))))) (h_ldn (vs := [.int .i64 c.op, .int .i64 c.lb.lv, .int .u64 (c.lb.cs : Int), .int .i64 c.lb.ig, .string (⟨#[]⟩ : ByteArray), .int .i64 c.pl, .int .i64 c.nn, .string c.da, .int .i64 c.id]) 0 9 rfl rfl rfl Tryz.underlying26 rfl (by kernel_rfl) (by kernel_rfl)) ?_
   refine a_each (rs := [4]) (by as_aux_lemma => kernel_rfl) (.cons (ticked 6 31) rfl rfl rfl (o_st 0 rfl rfl rfl rfl rfl (by kernel_rfl) (by kernel_rfl) rfl ?_) .nil) (List.cons_ne_nil _ _)
   refine a_and (held_pt 1 rfl rfl (held_pt 1 rfl rfl (held_pt 1 rfl rfl (held_pt 1 rfl rfl (held_pt 1 rfl rfl (held_pt 1 rfl rfl (held_pt 1 rfl rfl (held_pt 1 rfl rfl (held_pt 1 rfl rfl held_nil))))))))) ?_
   refine b_y (i := 5) (v := .bool (decide ((ptextF c.nm).2 = 0))) (ticked 6 63) rfl rfl (by exact y_as rfl) ?_
   refine a_done (by as_aux_lemma => kernel_rfl) ?_
   refine q_then (c_ret ?_)
   refine c_fin (I' := []) [] [] rfl (.tmp rfl (.agg 0 9 rfl rfl rfl rfl Tryz.underlying26 rfl (by kernel_rfl) (by kernel_rfl) (.tmp rfl .nil))) rfl rfl rfl ?_
   exact ⟨by obtain rfl : y = 84 := u8_of h8; rfl, rfl, rfl⟩
  ·
   refine s_y rfl (v := .bool false) (y_f (y_k (v := .bool (decide ((y.toNat : Int) = 84))) rfl rfl (fun _ => by kernel_rfl)) h8) rfl ?_
   refine s_y rfl (v := .bool false) (y_as rfl) rfl ?_
   refine s_nil (q_then (c_false rfl (c_seq (c_region ?_))))
   refine e_by ((y.toNat : Int) = 68) (fun h9 => ?_) (fun h9 => ?_)
   ·
    refine s_y rfl (v := .bool true) (y_t (y_k (v := .bool (decide ((y.toNat : Int) = 68))) rfl rfl (fun _ => by kernel_rfl)) h9) rfl ?_
    refine s_y rfl (v := .bool true) (y_as rfl) rfl ?_
    refine s_nil (q_then (c_true rfl (c_seq (c_region ?_))))
    refine s_y rfl (v := .pointer (some ⟨b1, 7, none⟩)) (y_k rfl rfl (fun _ => by kernel_rfl)) rfl ?_
    refine st rfl (o_ld 1 rfl rfl rfl Tryz.underlying9 rfl rfl ?_)
    refine st rfl (o_call [] [] (rPutText_ c.da (by first | omega | (rw [ByteArray.size_append]; omega) | decide | assumption)) rfl rfl rfl rfl rfl rfl (fun v L' I' hq3 => ?_))
    obtain ⟨rfl, rfl, rfl⟩ := hq3
    refine s_y rfl (v := .tuple #[.string ((ptextF c.da).1), .int .i64 ((ptextF c.da).2)]) (y_mv rfl) rfl ?_
    refine s_y rfl (v := .string ((ptextF c.da).1)) (y_k rfl rfl (fun _ => by kernel_rfl)) rfl ?_
    refine s_y rfl (v := .int .i64 ((ptextF c.da).2)) (y_k rfl rfl (fun _ => by kernel_rfl)) rfl ?_
    refine s_y rfl (v := .string ((ptextF c.da).1)) (y_as rfl) rfl ?_
    refine s_y rfl (v := .int .i64 ((ptextF c.da).2)) (y_as rfl) rfl ?_
    refine s_nil (q_then (c_seq (c_region ?_)))
    refine s_y rfl (v := .int .i64 ((ptextF c.da).2)) (y_mv rfl) rfl ?_
    refine s_y rfl (v := .bool (decide ((ptextF c.da).2 = 0))) (y_k rfl rfl (fun _ => by kernel_rfl)) rfl ?_
    refine s_y rfl (v := .bool (decide ((ptextF c.da).2 = 0))) (y_as rfl) rfl ?_
    refine s_nil (q_then (c_region ?_))
    refine s_y rfl (v := .pointer (some ⟨b1, 7, none⟩)) (y_k rfl rfl (fun _ => by kernel_rfl)) rfl ?_
    refine st rfl (o_st 1 rfl rfl rfl rfl rfl (by kernel_rfl) (by kernel_rfl) rfl ?_)
    refine s_nil (q_block (q_then (c_seq ?_)))
    refine c_draw (l := ticked 6 0) [(⟨b1, 0, none⟩, .int .i64 c.op), (⟨b1, 1, none⟩, .int .i64 c.lb.lv), (⟨b1, 2, none⟩, .int .u64 (c.lb.cs : Int)), (⟨b1, 3, none⟩, .int .i64 c.lb.ig), (⟨b1, 4, none⟩, .string c.nm), (⟨b1, 5, none⟩, .int .i64 c.pl), (⟨b1, 6, none⟩, .int .i64 c.nn), (⟨b1, 7, none⟩, .string (⟨#[]⟩ : ByteArray)), (⟨b1, 8, none⟩, .int .i64 c.id)] [] (by kernel_rfl) rfl rfl ?_
    refine b_y (i := 0) (v := .string ((ptextF c.da).1)) (ticked 6 1) rfl rfl (by exact y_mv rfl) ?_
    refine b_y (i := 2) (v := .bool (decide ((ptextF c.da).2 = 0))) (ticked 6 5) rfl rfl (by exact y_mv rfl) ?_
    refine b_y (i := 3) (v := .string ((ptextF c.da).1)) (ticked 6 13) rfl rfl (by exact y_as rfl) ?_
    refine a_held (i := 1) (ticked 6 15) rfl (by as_aux_lemma => kernel_rfl) rfl rfl rfl (held_pt 1 rfl rfl (held_pt 1 rfl rfl (held_pt 1 rfl rfl (held_pt 1 rfl rfl (held_pt 1 rfl rfl (held_pt 1 rfl rfl (held_pt 1 rfl rfl (held_pt 1 rfl rfl (held_pt 1 rfl rfl held_nil))))))))) (h_ldn (vs := [.int .i64 c.op, .int .i64 c.lb.lv, .int .u64 (c.lb.cs : Int), .int .i64 c.lb.ig, .string c.nm, .int .i64 c.pl, .int .i64 c.nn, .string (⟨#[]⟩ : ByteArray), .int .i64 c.id]) 0 9 rfl rfl rfl Tryz.underlying26 rfl (by kernel_rfl) (by kernel_rfl)) ?_
    refine a_each (rs := [4]) (by as_aux_lemma => kernel_rfl) (.cons (ticked 6 31) rfl rfl rfl (o_st 0 rfl rfl rfl rfl rfl (by kernel_rfl) (by kernel_rfl) rfl ?_) .nil) (List.cons_ne_nil _ _)
    refine a_and (held_pt 1 rfl rfl (held_pt 1 rfl rfl (held_pt 1 rfl rfl (held_pt 1 rfl rfl (held_pt 1 rfl rfl (held_pt 1 rfl rfl (held_pt 1 rfl rfl (held_pt 1 rfl rfl (held_pt 1 rfl rfl held_nil))))))))) ?_
    refine b_y (i := 5) (v := .bool (decide ((ptextF c.da).2 = 0))) (ticked 6 63) rfl rfl (by exact y_as rfl) ?_
    refine a_done (by as_aux_lemma => kernel_rfl) ?_
    refine q_then (c_ret ?_)
    refine c_fin (I' := []) [] [] rfl (.tmp rfl (.agg 0 9 rfl rfl rfl rfl Tryz.underlying26 rfl (by kernel_rfl) (by kernel_rfl) (.tmp rfl .nil))) rfl rfl rfl ?_
    exact ⟨by obtain rfl : y = 68 := u8_of h9; rfl, rfl, rfl⟩
   ·
    refine s_y rfl (v := .bool false) (y_f (y_k (v := .bool (decide ((y.toNat : Int) = 68))) rfl rfl (fun _ => by kernel_rfl)) h9) rfl ?_
    refine s_y rfl (v := .bool false) (y_as rfl) rfl ?_
    refine s_nil (q_then (c_false rfl (c_seq (c_region ?_))))
    refine e_by ((y.toNat : Int) = 65) (fun h10 => ?_) (fun h10 => ?_)
    ·
     refine s_y rfl (v := .bool true) (y_t (y_k (v := .bool (decide ((y.toNat : Int) = 65))) rfl rfl (fun _ => by kernel_rfl)) h10) rfl ?_
     refine s_y rfl (v := .bool true) (y_as rfl) rfl ?_
     refine s_nil (q_then (c_true rfl (c_seq (c_region ?_))))
     refine s_y rfl (v := .pointer (some ⟨b1, 5, none⟩)) (y_k rfl rfl (fun _ => by kernel_rfl)) rfl ?_
     refine st rfl (o_ld 1 rfl rfl rfl Tryz.underlying3 rfl rfl ?_)
     refine st rfl (o_call [] [] (rnum_ (2 : Int) c.pl) rfl rfl rfl rfl rfl rfl (fun v L' I' hq4 => ?_))
     obtain ⟨rfl, rfl, rfl⟩ := hq4
     refine s_y rfl (v := .tuple #[.string (numS (2 : Int) c.pl), .bool (decide (numE (2 : Int) c.pl = 0))]) (y_mv rfl) rfl ?_
     refine s_y rfl (v := .string (numS (2 : Int) c.pl)) (y_k rfl rfl (fun _ => by kernel_rfl)) rfl ?_
     refine s_y rfl (v := .bool (decide (numE (2 : Int) c.pl = 0))) (y_k rfl rfl (fun _ => by kernel_rfl)) rfl ?_
     refine s_y rfl (v := .string (numS (2 : Int) c.pl)) (y_as rfl) rfl ?_
     refine s_y rfl (v := .bool (decide (numE (2 : Int) c.pl = 0))) (y_as rfl) rfl ?_
     refine s_nil (q_then (c_region ?_))
     refine s_y rfl (v := .pointer (some ⟨b1, 5, none⟩)) (y_k rfl rfl (fun _ => by kernel_rfl)) rfl ?_
     refine st rfl (o_st 1 rfl rfl rfl rfl rfl (by kernel_rfl) (by kernel_rfl) rfl ?_)
     refine s_nil (q_block (q_then (c_seq ?_)))
     refine c_draw (l := ticked 6 0) [(⟨b1, 0, none⟩, .int .i64 c.op), (⟨b1, 1, none⟩, .int .i64 c.lb.lv), (⟨b1, 2, none⟩, .int .u64 (c.lb.cs : Int)), (⟨b1, 3, none⟩, .int .i64 c.lb.ig), (⟨b1, 4, none⟩, .string c.nm), (⟨b1, 5, none⟩, .int .i64 0), (⟨b1, 6, none⟩, .int .i64 c.nn), (⟨b1, 7, none⟩, .string c.da), (⟨b1, 8, none⟩, .int .i64 c.id)] [] (by kernel_rfl) rfl rfl ?_
     refine b_y (i := 0) (v := .string (numS (2 : Int) c.pl)) (ticked 6 1) rfl rfl (by exact y_mv rfl) ?_
     refine b_y (i := 2) (v := .bool (decide (numE (2 : Int) c.pl = 0))) (ticked 6 5) rfl rfl (by exact y_mv rfl) ?_
     refine b_y (i := 3) (v := .string (numS (2 : Int) c.pl)) (ticked 6 13) rfl rfl (by exact y_as rfl) ?_
     refine a_held (i := 1) (ticked 6 15) rfl (by as_aux_lemma => kernel_rfl) rfl rfl rfl (held_pt 1 rfl rfl (held_pt 1 rfl rfl (held_pt 1 rfl rfl (held_pt 1 rfl rfl (held_pt 1 rfl rfl (held_pt 1 rfl rfl (held_pt 1 rfl rfl (held_pt 1 rfl rfl (held_pt 1 rfl rfl held_nil))))))))) (h_ldn (vs := [.int .i64 c.op, .int .i64 c.lb.lv, .int .u64 (c.lb.cs : Int), .int .i64 c.lb.ig, .string c.nm, .int .i64 0, .int .i64 c.nn, .string c.da, .int .i64 c.id]) 0 9 rfl rfl rfl Tryz.underlying26 rfl (by kernel_rfl) (by kernel_rfl)) ?_
     refine a_each (rs := [4]) (by as_aux_lemma => kernel_rfl) (.cons (ticked 6 31) rfl rfl rfl (o_st 0 rfl rfl rfl rfl rfl (by kernel_rfl) (by kernel_rfl) rfl ?_) .nil) (List.cons_ne_nil _ _)
     refine a_and (held_pt 1 rfl rfl (held_pt 1 rfl rfl (held_pt 1 rfl rfl (held_pt 1 rfl rfl (held_pt 1 rfl rfl (held_pt 1 rfl rfl (held_pt 1 rfl rfl (held_pt 1 rfl rfl (held_pt 1 rfl rfl held_nil))))))))) ?_
     refine b_y (i := 5) (v := .bool (decide (numE (2 : Int) c.pl = 0))) (ticked 6 63) rfl rfl (by exact y_as rfl) ?_
     refine a_done (by as_aux_lemma => kernel_rfl) ?_
     refine q_then (c_ret ?_)
     refine c_fin (I' := []) [] [] rfl (.tmp rfl (.agg 0 9 rfl rfl rfl rfl Tryz.underlying26 rfl (by kernel_rfl) (by kernel_rfl) (.tmp rfl .nil))) rfl rfl rfl ?_
     exact ⟨by obtain rfl : y = 65 := u8_of h10; rfl, rfl, rfl⟩
    ·
     refine s_y rfl (v := .bool false) (y_f (y_k (v := .bool (decide ((y.toNat : Int) = 65))) rfl rfl (fun _ => by kernel_rfl)) h10) rfl ?_
     refine s_y rfl (v := .bool false) (y_as rfl) rfl ?_
     refine s_nil (q_then (c_false rfl (c_seq (c_region ?_))))
     refine e_by ((y.toNat : Int) = 78) (fun h11 => ?_) (fun h11 => ?_)
     ·
      refine s_y rfl (v := .bool true) (y_t (y_k (v := .bool (decide ((y.toNat : Int) = 78))) rfl rfl (fun _ => by kernel_rfl)) h11) rfl ?_
      refine s_y rfl (v := .bool true) (y_as rfl) rfl ?_
      refine s_nil (q_then (c_true rfl (c_seq (c_region ?_))))
      refine s_y rfl (v := .pointer (some ⟨b1, 6, none⟩)) (y_k rfl rfl (fun _ => by kernel_rfl)) rfl ?_
      refine st rfl (o_ld 1 rfl rfl rfl Tryz.underlying3 rfl rfl ?_)
      refine st rfl (o_call [] [] (rnum_ (2 : Int) c.nn) rfl rfl rfl rfl rfl rfl (fun v L' I' hq5 => ?_))
      obtain ⟨rfl, rfl, rfl⟩ := hq5
      refine s_y rfl (v := .tuple #[.string (numS (2 : Int) c.nn), .bool (decide (numE (2 : Int) c.nn = 0))]) (y_mv rfl) rfl ?_
      refine s_y rfl (v := .string (numS (2 : Int) c.nn)) (y_k rfl rfl (fun _ => by kernel_rfl)) rfl ?_
      refine s_y rfl (v := .bool (decide (numE (2 : Int) c.nn = 0))) (y_k rfl rfl (fun _ => by kernel_rfl)) rfl ?_
      refine s_y rfl (v := .string (numS (2 : Int) c.nn)) (y_as rfl) rfl ?_
      refine s_y rfl (v := .bool (decide (numE (2 : Int) c.nn = 0))) (y_as rfl) rfl ?_
      refine s_nil (q_then (c_region ?_))
      refine s_y rfl (v := .pointer (some ⟨b1, 6, none⟩)) (y_k rfl rfl (fun _ => by kernel_rfl)) rfl ?_
      refine st rfl (o_st 1 rfl rfl rfl rfl rfl (by kernel_rfl) (by kernel_rfl) rfl ?_)
      refine s_nil (q_block (q_then (c_seq ?_)))
      refine c_draw (l := ticked 6 0) [(⟨b1, 0, none⟩, .int .i64 c.op), (⟨b1, 1, none⟩, .int .i64 c.lb.lv), (⟨b1, 2, none⟩, .int .u64 (c.lb.cs : Int)), (⟨b1, 3, none⟩, .int .i64 c.lb.ig), (⟨b1, 4, none⟩, .string c.nm), (⟨b1, 5, none⟩, .int .i64 c.pl), (⟨b1, 6, none⟩, .int .i64 0), (⟨b1, 7, none⟩, .string c.da), (⟨b1, 8, none⟩, .int .i64 c.id)] [] (by kernel_rfl) rfl rfl ?_
      refine b_y (i := 0) (v := .string (numS (2 : Int) c.nn)) (ticked 6 1) rfl rfl (by exact y_mv rfl) ?_
      refine b_y (i := 2) (v := .bool (decide (numE (2 : Int) c.nn = 0))) (ticked 6 5) rfl rfl (by exact y_mv rfl) ?_
      refine b_y (i := 3) (v := .string (numS (2 : Int) c.nn)) (ticked 6 13) rfl rfl (by exact y_as rfl) ?_
      refine a_held (i := 1) (ticked 6 15) rfl (by as_aux_lemma => kernel_rfl) rfl rfl rfl (held_pt 1 rfl rfl (held_pt 1 rfl rfl (held_pt 1 rfl rfl (held_pt 1 rfl rfl (held_pt 1 rfl rfl (held_pt 1 rfl rfl (held_pt 1 rfl rfl (held_pt 1 rfl rfl (held_pt 1 rfl rfl held_nil))))))))) (h_ldn (vs := [.int .i64 c.op, .int .i64 c.lb.lv, .int .u64 (c.lb.cs : Int), .int .i64 c.lb.ig, .string c.nm, .int .i64 c.pl, .int .i64 0, .string c.da, .int .i64 c.id]) 0 9 rfl rfl rfl Tryz.underlying26 rfl (by kernel_rfl) (by kernel_rfl)) ?_
      refine a_each (rs := [4]) (by as_aux_lemma => kernel_rfl) (.cons (ticked 6 31) rfl rfl rfl (o_st 0 rfl rfl rfl rfl rfl (by kernel_rfl) (by kernel_rfl) rfl ?_) .nil) (List.cons_ne_nil _ _)
      refine a_and (held_pt 1 rfl rfl (held_pt 1 rfl rfl (held_pt 1 rfl rfl (held_pt 1 rfl rfl (held_pt 1 rfl rfl (held_pt 1 rfl rfl (held_pt 1 rfl rfl (held_pt 1 rfl rfl (held_pt 1 rfl rfl held_nil))))))))) ?_
      refine b_y (i := 5) (v := .bool (decide (numE (2 : Int) c.nn = 0))) (ticked 6 63) rfl rfl (by exact y_as rfl) ?_
      refine a_done (by as_aux_lemma => kernel_rfl) ?_
      refine q_then (c_ret ?_)
      refine c_fin (I' := []) [] [] rfl (.tmp rfl (.agg 0 9 rfl rfl rfl rfl Tryz.underlying26 rfl (by kernel_rfl) (by kernel_rfl) (.tmp rfl .nil))) rfl rfl rfl ?_
      exact ⟨by obtain rfl : y = 78 := u8_of h11; rfl, rfl, rfl⟩
     ·
      refine s_y rfl (v := .bool false) (y_f (y_k (v := .bool (decide ((y.toNat : Int) = 78))) rfl rfl (fun _ => by kernel_rfl)) h11) rfl ?_
      refine s_y rfl (v := .bool false) (y_as rfl) rfl ?_
      refine s_nil (q_then (c_false rfl (c_seq (c_region ?_))))
      have h12 : (y.toNat : Int) = 73 := let_73 hy (by assumption) (by assumption) (by assumption) (by assumption) (by assumption)
      refine s_y rfl (v := .bool true) (y_t (y_k (v := .bool (decide ((y.toNat : Int) = 73))) rfl rfl (fun _ => by kernel_rfl)) h12) rfl ?_
      refine s_y rfl (v := .bool true) (y_as rfl) rfl ?_
      refine s_nil (q_then (c_true rfl (c_seq (c_region ?_))))
      refine s_y rfl (v := .pointer (some ⟨b1, 8, none⟩)) (y_k rfl rfl (fun _ => by kernel_rfl)) rfl ?_
      refine st rfl (o_ld 1 rfl rfl rfl Tryz.underlying3 rfl rfl ?_)
      refine st rfl (o_call [] [] (rnum_ (1 : Int) c.id) rfl rfl rfl rfl rfl rfl (fun v L' I' hq6 => ?_))
      obtain ⟨rfl, rfl, rfl⟩ := hq6
      refine s_y rfl (v := .tuple #[.string (numS (1 : Int) c.id), .bool (decide (numE (1 : Int) c.id = 0))]) (y_mv rfl) rfl ?_
      refine s_y rfl (v := .string (numS (1 : Int) c.id)) (y_k rfl rfl (fun _ => by kernel_rfl)) rfl ?_
      refine s_y rfl (v := .bool (decide (numE (1 : Int) c.id = 0))) (y_k rfl rfl (fun _ => by kernel_rfl)) rfl ?_
      refine s_y rfl (v := .string (numS (1 : Int) c.id)) (y_as rfl) rfl ?_
      refine s_y rfl (v := .bool (decide (numE (1 : Int) c.id = 0))) (y_as rfl) rfl ?_
      refine s_nil (q_then (c_region ?_))
      refine s_y rfl (v := .pointer (some ⟨b1, 8, none⟩)) (y_k rfl rfl (fun _ => by kernel_rfl)) rfl ?_
      refine st rfl (o_st 1 rfl rfl rfl rfl rfl (by kernel_rfl) (by kernel_rfl) rfl ?_)
      refine s_nil (q_block (q_then (c_seq ?_)))
      refine c_draw (l := ticked 6 0) [(⟨b1, 0, none⟩, .int .i64 c.op), (⟨b1, 1, none⟩, .int .i64 c.lb.lv), (⟨b1, 2, none⟩, .int .u64 (c.lb.cs : Int)), (⟨b1, 3, none⟩, .int .i64 c.lb.ig), (⟨b1, 4, none⟩, .string c.nm), (⟨b1, 5, none⟩, .int .i64 c.pl), (⟨b1, 6, none⟩, .int .i64 c.nn), (⟨b1, 7, none⟩, .string c.da), (⟨b1, 8, none⟩, .int .i64 0)] [] (by kernel_rfl) rfl rfl ?_
      refine b_y (i := 0) (v := .string (numS (1 : Int) c.id)) (ticked 6 1) rfl rfl (by exact y_mv rfl) ?_
      refine b_y (i := 2) (v := .bool (decide (numE (1 : Int) c.id = 0))) (ticked 6 5) rfl rfl (by exact y_mv rfl) ?_
      refine b_y (i := 3) (v := .string (numS (1 : Int) c.id)) (ticked 6 13) rfl rfl (by exact y_as rfl) ?_
      refine a_held (i := 1) (ticked 6 15) rfl (by as_aux_lemma => kernel_rfl) rfl rfl rfl (held_pt 1 rfl rfl (held_pt 1 rfl rfl (held_pt 1 rfl rfl (held_pt 1 rfl rfl (held_pt 1 rfl rfl (held_pt 1 rfl rfl (held_pt 1 rfl rfl (held_pt 1 rfl rfl (held_pt 1 rfl rfl held_nil))))))))) (h_ldn (vs := [.int .i64 c.op, .int .i64 c.lb.lv, .int .u64 (c.lb.cs : Int), .int .i64 c.lb.ig, .string c.nm, .int .i64 c.pl, .int .i64 c.nn, .string c.da, .int .i64 0]) 0 9 rfl rfl rfl Tryz.underlying26 rfl (by kernel_rfl) (by kernel_rfl)) ?_
      refine a_each (rs := [4]) (by as_aux_lemma => kernel_rfl) (.cons (ticked 6 31) rfl rfl rfl (o_st 0 rfl rfl rfl rfl rfl (by kernel_rfl) (by kernel_rfl) rfl ?_) .nil) (List.cons_ne_nil _ _)
      refine a_and (held_pt 1 rfl rfl (held_pt 1 rfl rfl (held_pt 1 rfl rfl (held_pt 1 rfl rfl (held_pt 1 rfl rfl (held_pt 1 rfl rfl (held_pt 1 rfl rfl (held_pt 1 rfl rfl (held_pt 1 rfl rfl held_nil))))))))) ?_
      refine b_y (i := 5) (v := .bool (decide (numE (1 : Int) c.id = 0))) (ticked 6 63) rfl rfl (by exact y_as rfl) ?_
      refine a_done (by as_aux_lemma => kernel_rfl) ?_
      refine q_then (c_ret ?_)
      refine c_fin (I' := []) [] [] rfl (.tmp rfl (.agg 0 9 rfl rfl rfl rfl Tryz.underlying26 rfl (by kernel_rfl) (by kernel_rfl) (.tmp rfl .nil))) rfl rfl rfl ?_
      exact ⟨by obtain rfl : y = 73 := u8_of h12; rfl, rfl, rfl⟩
theorem rget_ (c : Cal) (y : UInt8) (s : ByteArray) (hy : isLet y) (hs : s.size ≤ 100000) : Con Tryz.prog 31 [.agg #[.int .i64 c.op, .int .i64 c.lb.lv, .int .u64 (c.lb.cs : Int), .int .i64 c.lb.ig, .string c.nm, .int .i64 c.pl, .int .i64 c.nn, .string c.da, .int .i64 c.id], .int .u8 (y.toNat : Int), .string s] [] [] (fun v L' I' => v = .tuple #[.agg #[.int .i64 (((getC (s, none, c) y).2.2).op), .int .i64 (((getC (s, none, c) y).2.2).lb.lv), .int .u64 (((getC (s, none, c) y).2.2).lb.cs : Int), .int .i64 (((getC (s, none, c) y).2.2).lb.ig), .string (((getC (s, none, c) y).2.2).nm), .int .i64 (((getC (s, none, c) y).2.2).pl), .int .i64 (((getC (s, none, c) y).2.2).nn), .string (((getC (s, none, c) y).2.2).da), .int .i64 (((getC (s, none, c) y).2.2).id)], .string ((getC (s, none, c) y).1), .bool (decide ((getC (s, none, c) y).2.1 = none))] ∧ L' = [] ∧ I' = []) := by
 refine fn_of Tryz.func31 rfl Tryz.ntmps31 (by kernel_rfl) rfl (fun C => ?_)
 refine c_seq (c_region ?_)
 refine st rfl (o_box (cs := [.int .i64 c.op, .int .i64 c.lb.lv, .int .u64 (c.lb.cs : Int), .int .i64 c.lb.ig, .string c.nm, .int .i64 c.pl, .int .i64 c.nn, .string c.da, .int .i64 c.id]) (T := 26) rfl rfl rfl rfl (fun _ => by kernel_rfl) (fun b1 => ?_))
 refine st rfl (o_box (cs := [.int .i64 0, .int .i64 0, .int .u64 0, .int .i64 0, .string (⟨#[]⟩ : ByteArray), .int .i64 0, .int .i64 0, .string (⟨#[]⟩ : ByteArray), .int .i64 0]) (T := 26) rfl rfl rfl rfl (fun _ => by kernel_rfl) (fun b2 => ?_))
 refine s_y rfl (v := .string (⟨#[]⟩ : ByteArray)) (y_as rfl) rfl ?_
 refine s_y rfl (v := .bool false) (y_as rfl) rfl ?_
 refine s_nil (q_then (c_seq (c_region ?_)))
 refine s_y rfl (v := .int .i64 0) (y_as rfl) rfl ?_
 refine s_nil (q_then (c_seq (c_region ?_)))
 refine s_y rfl (v := .int .u64 0) (y_as rfl) rfl ?_
 refine s_nil (q_then (c_seq (c_region ?_)))
 refine s_y rfl (v := .string (⟨#[]⟩ : ByteArray)) (y_as rfl) rfl ?_
 refine s_nil (q_then (c_seq (c_seq (c_region ?_))))
 refine s_y rfl (v := .int .u8 (y.toNat : Int)) (y_mv rfl) rfl ?_
 refine s_nil (q_then (c_block (c_seq (c_region ?_))))
 refine e_by ((y.toNat : Int) = 76) (fun h1 => ?_) (fun h1 => ?_)
 ·
  refine s_y rfl (v := .bool true) (y_t (y_k (v := .bool (decide ((y.toNat : Int) = 76))) rfl rfl (fun _ => by kernel_rfl)) h1) rfl ?_
  refine s_y rfl (v := .bool true) (y_as rfl) rfl ?_
  refine s_nil (q_then (c_true rfl (c_region ?_)))
  refine s_y rfl (v := .string s) (y_mv rfl) rfl ?_
  refine st rfl (o_call [] [] (rlGet_ s (by first | omega | (rw [ByteArray.size_append]; omega) | decide | assumption)) rfl rfl rfl rfl rfl rfl (fun v L' I' hq1 => ?_))
  obtain ⟨rfl, rfl, rfl⟩ := hq1
  refine s_y rfl (v := .tuple #[.agg #[.int .i64 (((labGet s).1).lv), .int .u64 (((labGet s).1).cs : Int), .int .i64 (((labGet s).1).ig)], .string ((labGet s).2.1), .int .i64 ((labGet s).2.2)]) (y_mv rfl) rfl ?_
  refine s_y rfl (v := .agg #[.int .i64 (((labGet s).1).lv), .int .u64 (((labGet s).1).cs : Int), .int .i64 (((labGet s).1).ig)]) (y_k rfl rfl (fun _ => by kernel_rfl)) rfl ?_
  refine s_y rfl (v := .string ((labGet s).2.1)) (y_k rfl rfl (fun _ => by kernel_rfl)) rfl ?_
  refine s_y rfl (v := .int .i64 ((labGet s).2.2)) (y_k rfl rfl (fun _ => by kernel_rfl)) rfl ?_
  refine s_y rfl (v := .pointer (some ⟨b1, 1, none⟩)) (y_k rfl rfl (fun _ => by kernel_rfl)) rfl ?_
  refine st rfl (o_st 1 rfl rfl rfl rfl rfl (by kernel_rfl) (by kernel_rfl) rfl ?_)
  refine s_y rfl (v := .string ((labGet s).2.1)) (y_as rfl) rfl ?_
  refine s_y rfl (v := .int .i64 ((labGet s).2.2)) (y_as rfl) rfl ?_
  refine s_nil (q_block (q_then (c_seq (c_region ?_))))
  refine st rfl (o_ldn 1 9 rfl rfl rfl rfl Tryz.underlying26 rfl (by kernel_rfl) (by kernel_rfl) rfl ?_)
  refine s_y rfl (v := .string ((labGet s).2.1)) (y_mv rfl) rfl ?_
  refine s_y rfl (v := .int .i64 ((labGet s).2.2)) (y_mv rfl) rfl ?_
  refine s_y rfl (v := .bool (decide ((labGet s).2.2 = 0))) (y_k rfl rfl (fun _ => by kernel_rfl)) rfl ?_
  refine st rfl (o_st 0 rfl rfl rfl rfl rfl (by kernel_rfl) (by kernel_rfl) rfl ?_)
  refine s_y rfl (v := .string ((labGet s).2.1)) (y_as rfl) rfl ?_
  refine s_y rfl (v := .bool (decide ((labGet s).2.2 = 0))) (y_as rfl) rfl ?_
  refine s_nil (q_then (c_ret ?_))
  refine c_fin (I' := []) [] [] rfl (.agg 0 9 rfl rfl rfl rfl Tryz.underlying26 rfl (by kernel_rfl) (by kernel_rfl) (.tmp rfl (.tmp rfl .nil))) rfl rfl rfl ?_
  exact ⟨by obtain rfl : y = 76 := u8_of h1; rw [show decide ((getC (s, none, c) 76).2.1 = none) = decide ((labGet s).2.2 = 0) from dec_add _]; rfl, rfl, rfl⟩
 ·
  refine s_y rfl (v := .bool false) (y_f (y_k (v := .bool (decide ((y.toNat : Int) = 76))) rfl rfl (fun _ => by kernel_rfl)) h1) rfl ?_
  refine s_y rfl (v := .bool false) (y_as rfl) rfl ?_
  refine s_nil (q_then (c_false rfl (c_seq (c_region ?_))))
  refine e_by ((y.toNat : Int) = 84) (fun h2 => ?_) (fun h2 => ?_)
  ·
   refine s_y rfl (v := .bool true) (y_t (y_k (v := .bool (decide ((y.toNat : Int) = 84))) rfl rfl (fun _ => by kernel_rfl)) h2) rfl ?_
   refine s_y rfl (v := .bool true) (y_as rfl) rfl ?_
   refine s_nil (q_then (c_true rfl (c_region ?_)))
   refine s_y rfl (v := .string s) (y_mv rfl) rfl ?_
   refine st rfl (o_call [] [] (rGetText_ s (by first | omega | (rw [ByteArray.size_append]; omega) | decide | assumption)) rfl rfl rfl rfl rfl rfl (fun v L' I' hq2 => ?_))
   obtain ⟨rfl, rfl, rfl⟩ := hq2
   refine s_y rfl (v := .tuple #[.string ((textF s).1), .string ((textF s).2.1), .int .i64 ((textF s).2.2)]) (y_mv rfl) rfl ?_
   refine s_y rfl (v := .string ((textF s).1)) (y_k rfl rfl (fun _ => by kernel_rfl)) rfl ?_
   refine s_y rfl (v := .string ((textF s).2.1)) (y_k rfl rfl (fun _ => by kernel_rfl)) rfl ?_
   refine s_y rfl (v := .int .i64 ((textF s).2.2)) (y_k rfl rfl (fun _ => by kernel_rfl)) rfl ?_
   refine s_y rfl (v := .pointer (some ⟨b1, 4, none⟩)) (y_k rfl rfl (fun _ => by kernel_rfl)) rfl ?_
   refine st rfl (o_st 1 rfl rfl rfl rfl rfl (by kernel_rfl) (by kernel_rfl) rfl ?_)
   refine s_y rfl (v := .string ((textF s).2.1)) (y_as rfl) rfl ?_
   refine s_y rfl (v := .int .i64 ((textF s).2.2)) (y_as rfl) rfl ?_
   refine s_nil (q_block (q_then (c_seq (c_region ?_))))
   refine st rfl (o_ldn 1 9 rfl rfl rfl rfl Tryz.underlying26 rfl (by kernel_rfl) (by kernel_rfl) rfl ?_)
   refine s_y rfl (v := .string ((textF s).2.1)) (y_mv rfl) rfl ?_
   refine s_y rfl (v := .int .i64 ((textF s).2.2)) (y_mv rfl) rfl ?_
   refine s_y rfl (v := .bool (decide ((textF s).2.2 = 0))) (y_k rfl rfl (fun _ => by kernel_rfl)) rfl ?_
   refine st rfl (o_st 0 rfl rfl rfl rfl rfl (by kernel_rfl) (by kernel_rfl) rfl ?_)
   refine s_y rfl (v := .string ((textF s).2.1)) (y_as rfl) rfl ?_
   refine s_y rfl (v := .bool (decide ((textF s).2.2 = 0))) (y_as rfl) rfl ?_
   refine s_nil (q_then (c_ret ?_))
   refine c_fin (I' := []) [] [] rfl (.agg 0 9 rfl rfl rfl rfl Tryz.underlying26 rfl (by kernel_rfl) (by kernel_rfl) (.tmp rfl (.tmp rfl .nil))) rfl rfl rfl ?_
   exact ⟨by obtain rfl : y = 84 := u8_of h2; rw [show decide ((getC (s, none, c) 84).2.1 = none) = decide ((textF s).2.2 = 0) from dec_add _]; rfl, rfl, rfl⟩
  ·
   refine s_y rfl (v := .bool false) (y_f (y_k (v := .bool (decide ((y.toNat : Int) = 84))) rfl rfl (fun _ => by kernel_rfl)) h2) rfl ?_
   refine s_y rfl (v := .bool false) (y_as rfl) rfl ?_
   refine s_nil (q_then (c_false rfl (c_seq (c_region ?_))))
   refine e_by ((y.toNat : Int) = 68) (fun h3 => ?_) (fun h3 => ?_)
   ·
    refine s_y rfl (v := .bool true) (y_t (y_k (v := .bool (decide ((y.toNat : Int) = 68))) rfl rfl (fun _ => by kernel_rfl)) h3) rfl ?_
    refine s_y rfl (v := .bool true) (y_as rfl) rfl ?_
    refine s_nil (q_then (c_true rfl (c_region ?_)))
    refine s_y rfl (v := .string s) (y_mv rfl) rfl ?_
    refine st rfl (o_call [] [] (rGetText_ s (by first | omega | (rw [ByteArray.size_append]; omega) | decide | assumption)) rfl rfl rfl rfl rfl rfl (fun v L' I' hq3 => ?_))
    obtain ⟨rfl, rfl, rfl⟩ := hq3
    refine s_y rfl (v := .tuple #[.string ((textF s).1), .string ((textF s).2.1), .int .i64 ((textF s).2.2)]) (y_mv rfl) rfl ?_
    refine s_y rfl (v := .string ((textF s).1)) (y_k rfl rfl (fun _ => by kernel_rfl)) rfl ?_
    refine s_y rfl (v := .string ((textF s).2.1)) (y_k rfl rfl (fun _ => by kernel_rfl)) rfl ?_
    refine s_y rfl (v := .int .i64 ((textF s).2.2)) (y_k rfl rfl (fun _ => by kernel_rfl)) rfl ?_
    refine s_y rfl (v := .pointer (some ⟨b1, 7, none⟩)) (y_k rfl rfl (fun _ => by kernel_rfl)) rfl ?_
    refine st rfl (o_st 1 rfl rfl rfl rfl rfl (by kernel_rfl) (by kernel_rfl) rfl ?_)
    refine s_y rfl (v := .string ((textF s).2.1)) (y_as rfl) rfl ?_
    refine s_y rfl (v := .int .i64 ((textF s).2.2)) (y_as rfl) rfl ?_
    refine s_nil (q_block (q_then (c_seq (c_region ?_))))
    refine st rfl (o_ldn 1 9 rfl rfl rfl rfl Tryz.underlying26 rfl (by kernel_rfl) (by kernel_rfl) rfl ?_)
    refine s_y rfl (v := .string ((textF s).2.1)) (y_mv rfl) rfl ?_
    refine s_y rfl (v := .int .i64 ((textF s).2.2)) (y_mv rfl) rfl ?_
    refine s_y rfl (v := .bool (decide ((textF s).2.2 = 0))) (y_k rfl rfl (fun _ => by kernel_rfl)) rfl ?_
    refine st rfl (o_st 0 rfl rfl rfl rfl rfl (by kernel_rfl) (by kernel_rfl) rfl ?_)
    refine s_y rfl (v := .string ((textF s).2.1)) (y_as rfl) rfl ?_
    refine s_y rfl (v := .bool (decide ((textF s).2.2 = 0))) (y_as rfl) rfl ?_
    refine s_nil (q_then (c_ret ?_))
    refine c_fin (I' := []) [] [] rfl (.agg 0 9 rfl rfl rfl rfl Tryz.underlying26 rfl (by kernel_rfl) (by kernel_rfl) (.tmp rfl (.tmp rfl .nil))) rfl rfl rfl ?_
    exact ⟨by obtain rfl : y = 68 := u8_of h3; rw [show decide ((getC (s, none, c) 68).2.1 = none) = decide ((textF s).2.2 = 0) from dec_add _]; rfl, rfl, rfl⟩
   ·
    refine s_y rfl (v := .bool false) (y_f (y_k (v := .bool (decide ((y.toNat : Int) = 68))) rfl rfl (fun _ => by kernel_rfl)) h3) rfl ?_
    refine s_y rfl (v := .bool false) (y_as rfl) rfl ?_
    refine s_nil (q_then (c_false rfl (c_seq (c_region ?_))))
    refine e_by ((y.toNat : Int) = 65) (fun h4 => ?_) (fun h4 => ?_)
    ·
     refine s_y rfl (v := .bool true) (y_t (y_k (v := .bool (decide ((y.toNat : Int) = 65))) rfl rfl (fun _ => by kernel_rfl)) h4) rfl ?_
     refine s_y rfl (v := .bool true) (y_as rfl) rfl ?_
     refine s_nil (q_then (c_true rfl (c_seq (c_region ?_))))
     refine s_y rfl (v := .string s) (y_mv rfl) rfl ?_
     refine st rfl (o_call [] [] (rGet_ (2 : Int) s (by first | omega | (rw [ByteArray.size_append]; omega) | decide | assumption)) rfl rfl rfl rfl rfl rfl (fun v L' I' hq4 => ?_))
     obtain ⟨rfl, rfl, rfl⟩ := hq4
     refine s_y rfl (v := .tuple #[.int .u64 ((getF (2 : Int) s).1 : Int), .string ((getF (2 : Int) s).2.1), .int .i64 ((getF (2 : Int) s).2.2)]) (y_mv rfl) rfl ?_
     refine s_y rfl (v := .int .u64 ((getF (2 : Int) s).1 : Int)) (y_k rfl rfl (fun _ => by kernel_rfl)) rfl ?_
     refine s_y rfl (v := .string ((getF (2 : Int) s).2.1)) (y_k rfl rfl (fun _ => by kernel_rfl)) rfl ?_
     refine s_y rfl (v := .int .i64 ((getF (2 : Int) s).2.2)) (y_k rfl rfl (fun _ => by kernel_rfl)) rfl ?_
     refine s_y rfl (v := .int .u64 ((getF (2 : Int) s).1 : Int)) (y_as rfl) rfl ?_
     refine s_y rfl (v := .string ((getF (2 : Int) s).2.1)) (y_as rfl) rfl ?_
     refine s_y rfl (v := .int .i64 ((getF (2 : Int) s).2.2)) (y_as rfl) rfl ?_
     refine s_nil (q_then (c_region ?_))
     refine s_y rfl (v := .int .u64 ((getF (2 : Int) s).1 : Int)) (y_mv rfl) rfl ?_
     refine s_y rfl (v := .int .i64 ((getF (2 : Int) s).1 : Int)) (y_cvi (r := ((getF (2 : Int) s).1 : Int)) rfl Tryz.underlying22 Tryz.underlying3 (wrap_in (by omega) (by have h1_ := getF_small (s := s) (w := 2) (by decide); have h2_ := getF_small (s := s) (w := 1) (by decide); omega))) rfl ?_
     refine s_y rfl (v := .pointer (some ⟨b1, 5, none⟩)) (y_k rfl rfl (fun _ => by kernel_rfl)) rfl ?_
     refine st rfl (o_st 1 rfl rfl rfl rfl rfl (by kernel_rfl) (by kernel_rfl) rfl ?_)
     refine s_nil (q_block (q_then (c_seq (c_region ?_))))
     refine st rfl (o_ldn 1 9 rfl rfl rfl rfl Tryz.underlying26 rfl (by kernel_rfl) (by kernel_rfl) rfl ?_)
     refine s_y rfl (v := .string ((getF (2 : Int) s).2.1)) (y_mv rfl) rfl ?_
     refine s_y rfl (v := .int .i64 ((getF (2 : Int) s).2.2)) (y_mv rfl) rfl ?_
     refine s_y rfl (v := .bool (decide ((getF (2 : Int) s).2.2 = 0))) (y_k rfl rfl (fun _ => by kernel_rfl)) rfl ?_
     refine st rfl (o_st 0 rfl rfl rfl rfl rfl (by kernel_rfl) (by kernel_rfl) rfl ?_)
     refine s_y rfl (v := .string ((getF (2 : Int) s).2.1)) (y_as rfl) rfl ?_
     refine s_y rfl (v := .bool (decide ((getF (2 : Int) s).2.2 = 0))) (y_as rfl) rfl ?_
     refine s_nil (q_then (c_ret ?_))
     refine c_fin (I' := []) [] [] rfl (.agg 0 9 rfl rfl rfl rfl Tryz.underlying26 rfl (by kernel_rfl) (by kernel_rfl) (.tmp rfl (.tmp rfl .nil))) rfl rfl rfl ?_
     exact ⟨by obtain rfl : y = 65 := u8_of h4; rw [show decide ((getC (s, none, c) 65).2.1 = none) = decide ((getF 2 s).2.2 = 0) from dec_add _]; rfl, rfl, rfl⟩
    ·
     refine s_y rfl (v := .bool false) (y_f (y_k (v := .bool (decide ((y.toNat : Int) = 65))) rfl rfl (fun _ => by kernel_rfl)) h4) rfl ?_
     refine s_y rfl (v := .bool false) (y_as rfl) rfl ?_
     refine s_nil (q_then (c_false rfl (c_seq (c_region ?_))))
     refine e_by ((y.toNat : Int) = 78) (fun h5 => ?_) (fun h5 => ?_)
     ·
      refine s_y rfl (v := .bool true) (y_t (y_k (v := .bool (decide ((y.toNat : Int) = 78))) rfl rfl (fun _ => by kernel_rfl)) h5) rfl ?_
      refine s_y rfl (v := .bool true) (y_as rfl) rfl ?_
      refine s_nil (q_then (c_true rfl (c_seq (c_region ?_))))
      refine s_y rfl (v := .string s) (y_mv rfl) rfl ?_
      refine st rfl (o_call [] [] (rGet_ (2 : Int) s (by first | omega | (rw [ByteArray.size_append]; omega) | decide | assumption)) rfl rfl rfl rfl rfl rfl (fun v L' I' hq5 => ?_))
      obtain ⟨rfl, rfl, rfl⟩ := hq5
      refine s_y rfl (v := .tuple #[.int .u64 ((getF (2 : Int) s).1 : Int), .string ((getF (2 : Int) s).2.1), .int .i64 ((getF (2 : Int) s).2.2)]) (y_mv rfl) rfl ?_
      refine s_y rfl (v := .int .u64 ((getF (2 : Int) s).1 : Int)) (y_k rfl rfl (fun _ => by kernel_rfl)) rfl ?_
      refine s_y rfl (v := .string ((getF (2 : Int) s).2.1)) (y_k rfl rfl (fun _ => by kernel_rfl)) rfl ?_
      refine s_y rfl (v := .int .i64 ((getF (2 : Int) s).2.2)) (y_k rfl rfl (fun _ => by kernel_rfl)) rfl ?_
      refine s_y rfl (v := .int .u64 ((getF (2 : Int) s).1 : Int)) (y_as rfl) rfl ?_
      refine s_y rfl (v := .string ((getF (2 : Int) s).2.1)) (y_as rfl) rfl ?_
      refine s_y rfl (v := .int .i64 ((getF (2 : Int) s).2.2)) (y_as rfl) rfl ?_
      refine s_nil (q_then (c_region ?_))
      refine s_y rfl (v := .int .u64 ((getF (2 : Int) s).1 : Int)) (y_mv rfl) rfl ?_
      refine s_y rfl (v := .int .i64 ((getF (2 : Int) s).1 : Int)) (y_cvi (r := ((getF (2 : Int) s).1 : Int)) rfl Tryz.underlying22 Tryz.underlying3 (wrap_in (by omega) (by have h1_ := getF_small (s := s) (w := 2) (by decide); have h2_ := getF_small (s := s) (w := 1) (by decide); omega))) rfl ?_
      refine s_y rfl (v := .pointer (some ⟨b1, 6, none⟩)) (y_k rfl rfl (fun _ => by kernel_rfl)) rfl ?_
      refine st rfl (o_st 1 rfl rfl rfl rfl rfl (by kernel_rfl) (by kernel_rfl) rfl ?_)
      refine s_nil (q_block (q_then (c_seq (c_region ?_))))
      refine st rfl (o_ldn 1 9 rfl rfl rfl rfl Tryz.underlying26 rfl (by kernel_rfl) (by kernel_rfl) rfl ?_)
      refine s_y rfl (v := .string ((getF (2 : Int) s).2.1)) (y_mv rfl) rfl ?_
      refine s_y rfl (v := .int .i64 ((getF (2 : Int) s).2.2)) (y_mv rfl) rfl ?_
      refine s_y rfl (v := .bool (decide ((getF (2 : Int) s).2.2 = 0))) (y_k rfl rfl (fun _ => by kernel_rfl)) rfl ?_
      refine st rfl (o_st 0 rfl rfl rfl rfl rfl (by kernel_rfl) (by kernel_rfl) rfl ?_)
      refine s_y rfl (v := .string ((getF (2 : Int) s).2.1)) (y_as rfl) rfl ?_
      refine s_y rfl (v := .bool (decide ((getF (2 : Int) s).2.2 = 0))) (y_as rfl) rfl ?_
      refine s_nil (q_then (c_ret ?_))
      refine c_fin (I' := []) [] [] rfl (.agg 0 9 rfl rfl rfl rfl Tryz.underlying26 rfl (by kernel_rfl) (by kernel_rfl) (.tmp rfl (.tmp rfl .nil))) rfl rfl rfl ?_
      exact ⟨by obtain rfl : y = 78 := u8_of h5; rw [show decide ((getC (s, none, c) 78).2.1 = none) = decide ((getF 2 s).2.2 = 0) from dec_add _]; rfl, rfl, rfl⟩
     ·
      refine s_y rfl (v := .bool false) (y_f (y_k (v := .bool (decide ((y.toNat : Int) = 78))) rfl rfl (fun _ => by kernel_rfl)) h5) rfl ?_
      refine s_y rfl (v := .bool false) (y_as rfl) rfl ?_
      refine s_nil (q_then (c_false rfl (c_seq (c_region ?_))))
      have h6 : (y.toNat : Int) = 73 := let_73 hy (by assumption) (by assumption) (by assumption) (by assumption) (by assumption)
      refine s_y rfl (v := .bool true) (y_t (y_k (v := .bool (decide ((y.toNat : Int) = 73))) rfl rfl (fun _ => by kernel_rfl)) h6) rfl ?_
      refine s_y rfl (v := .bool true) (y_as rfl) rfl ?_
      refine s_nil (q_then (c_true rfl (c_seq (c_region ?_))))
      refine s_y rfl (v := .string s) (y_mv rfl) rfl ?_
      refine st rfl (o_call [] [] (rGet_ (1 : Int) s (by first | omega | (rw [ByteArray.size_append]; omega) | decide | assumption)) rfl rfl rfl rfl rfl rfl (fun v L' I' hq6 => ?_))
      obtain ⟨rfl, rfl, rfl⟩ := hq6
      refine s_y rfl (v := .tuple #[.int .u64 ((getF (1 : Int) s).1 : Int), .string ((getF (1 : Int) s).2.1), .int .i64 ((getF (1 : Int) s).2.2)]) (y_mv rfl) rfl ?_
      refine s_y rfl (v := .int .u64 ((getF (1 : Int) s).1 : Int)) (y_k rfl rfl (fun _ => by kernel_rfl)) rfl ?_
      refine s_y rfl (v := .string ((getF (1 : Int) s).2.1)) (y_k rfl rfl (fun _ => by kernel_rfl)) rfl ?_
      refine s_y rfl (v := .int .i64 ((getF (1 : Int) s).2.2)) (y_k rfl rfl (fun _ => by kernel_rfl)) rfl ?_
      refine s_y rfl (v := .int .u64 ((getF (1 : Int) s).1 : Int)) (y_as rfl) rfl ?_
      refine s_y rfl (v := .string ((getF (1 : Int) s).2.1)) (y_as rfl) rfl ?_
      refine s_y rfl (v := .int .i64 ((getF (1 : Int) s).2.2)) (y_as rfl) rfl ?_
      refine s_nil (q_then (c_region ?_))
      refine s_y rfl (v := .int .u64 ((getF (1 : Int) s).1 : Int)) (y_mv rfl) rfl ?_
      refine s_y rfl (v := .int .i64 ((getF (1 : Int) s).1 : Int)) (y_cvi (r := ((getF (1 : Int) s).1 : Int)) rfl Tryz.underlying22 Tryz.underlying3 (wrap_in (by omega) (by have h1_ := getF_small (s := s) (w := 2) (by decide); have h2_ := getF_small (s := s) (w := 1) (by decide); omega))) rfl ?_
      refine s_y rfl (v := .pointer (some ⟨b1, 8, none⟩)) (y_k rfl rfl (fun _ => by kernel_rfl)) rfl ?_
      refine st rfl (o_st 1 rfl rfl rfl rfl rfl (by kernel_rfl) (by kernel_rfl) rfl ?_)
      refine s_nil (q_block (q_then (c_seq (c_region ?_))))
      refine st rfl (o_ldn 1 9 rfl rfl rfl rfl Tryz.underlying26 rfl (by kernel_rfl) (by kernel_rfl) rfl ?_)
      refine s_y rfl (v := .string ((getF (1 : Int) s).2.1)) (y_mv rfl) rfl ?_
      refine s_y rfl (v := .int .i64 ((getF (1 : Int) s).2.2)) (y_mv rfl) rfl ?_
      refine s_y rfl (v := .bool (decide ((getF (1 : Int) s).2.2 = 0))) (y_k rfl rfl (fun _ => by kernel_rfl)) rfl ?_
      refine st rfl (o_st 0 rfl rfl rfl rfl rfl (by kernel_rfl) (by kernel_rfl) rfl ?_)
      refine s_y rfl (v := .string ((getF (1 : Int) s).2.1)) (y_as rfl) rfl ?_
      refine s_y rfl (v := .bool (decide ((getF (1 : Int) s).2.2 = 0))) (y_as rfl) rfl ?_
      refine s_nil (q_then (c_ret ?_))
      refine c_fin (I' := []) [] [] rfl (.agg 0 9 rfl rfl rfl rfl Tryz.underlying26 rfl (by kernel_rfl) (by kernel_rfl) (.tmp rfl (.tmp rfl .nil))) rfl rfl rfl ?_
      exact ⟨by obtain rfl : y = 73 := u8_of h6; rw [show decide ((getC (s, none, c) 73).2.1 = none) = decide ((getF 1 s).2.2 = 0) from dec_add _]; rfl, rfl, rfl⟩
end Go.Proofs.YtcnncdniibkjkaaGreatDoor
