/- The laws of chapter 17 (call), walked over the given program; no condition but what stands in each theorem: part CJ. -/
import Derived.Test.YtcnncdniibkjkaaGreatDoorRCG
import Derived.Test.YtcnncdniibkjkaaGreatDoorRCH
set_option linter.unusedVariables false
set_option linter.unusedSimpArgs false
set_option maxRecDepth 100000
set_option maxHeartbeats 8000000
namespace Go.Proofs.YtcnncdniibkjkaaGreatDoor
open Go Go.Sl Go.RowKit Go.Extern.Stop Go.Stop Go.Extern
theorem put_con {y : UInt8} (hy : isLet y) (b : Nat) (x : Wst) (ea : Addr) (em : Addr) (ef : Addr) (el : Addr) (h12 : ea ≠ em) (h13 : ea ≠ ef) (h23 : em ≠ ef) (hr : x.1.size ≤ 100000) (h6 : lab64 x.2.2.lb) (hn1 : x.2.2.nm.size ≤ 100000) (hn2 : x.2.2.da.size ≤ 100000) : ∃ f, putV y = .func (.func f) #[] #[] ∧ Con Tryz.prog f [.pointer (some ⟨b, 0, none⟩)] [pt b [.string x.1, cwV x.2.1, .int .i64 x.2.2.op, .int .i64 x.2.2.lb.lv, .int .u64 (x.2.2.lb.cs : Int), .int .i64 x.2.2.lb.ig, .string x.2.2.nm, .int .i64 x.2.2.pl, .int .i64 x.2.2.nn, .string x.2.2.da, .int .i64 x.2.2.id] 52] [cellsAt 2 0 [.iface 180 (.pointer (some ea))], cellsAt 3 0 [.iface 180 (.pointer (some em))], cellsAt 1 0 [.iface 180 (.pointer (some ef))], errAt ea, errAt em, errAt ef, cellsAt 4 0 [.iface 180 (.pointer (some el))], errAt el, cellsAt 0 0 [.iface 147 (.agg #[.pointer (some ⟨5, 48, none⟩)])]] (fun v L' I' => v = .tuple #[] ∧ L' = [pt b [.string ((putC x y).1), cwV (putC x y).2.1, .int .i64 (((putC x y).2.2).op), .int .i64 (((putC x y).2.2).lb.lv), .int .u64 (((putC x y).2.2).lb.cs : Int), .int .i64 (((putC x y).2.2).lb.ig), .string (((putC x y).2.2).nm), .int .i64 (((putC x y).2.2).pl), .int .i64 (((putC x y).2.2).nn), .string (((putC x y).2.2).da), .int .i64 (((putC x y).2.2).id)] 52] ∧ I' = []) := by
  rcases hy with rfl | rfl | rfl | rfl | rfl | rfl
  · exact ⟨63, rfl, cput76_ b x.1 x.2.1 x.2.2 ea em ef el h12 h13 h23 hr h6 hn1 hn2⟩
  · exact ⟨65, rfl, cput84_ b x.1 x.2.1 x.2.2 ea em ef el h12 h13 h23 hr h6 hn1 hn2⟩
  · exact ⟨67, rfl, cput68_ b x.1 x.2.1 x.2.2 ea em ef el h12 h13 h23 hr h6 hn1 hn2⟩
  · exact ⟨69, rfl, cput65_ b x.1 x.2.1 x.2.2 ea em ef el h12 h13 h23 hr h6 hn1 hn2⟩
  · exact ⟨71, rfl, cput78_ b x.1 x.2.1 x.2.2 ea em ef el h12 h13 h23 hr h6 hn1 hn2⟩
  · exact ⟨73, rfl, cput73_ b x.1 x.2.1 x.2.2 ea em ef el h12 h13 h23 hr h6 hn1 hn2⟩
theorem get_con {y : UInt8} (hy : isLet y) (b : Nat) (x : Wst) (ea : Addr) (em : Addr) (ef : Addr) (el : Addr) (h12 : ea ≠ em) (h13 : ea ≠ ef) (h23 : em ≠ ef) (hr : x.1.size ≤ 100000) : ∃ f, getV y = .func (.func f) #[] #[] ∧ Con Tryz.prog f [.pointer (some ⟨b, 0, none⟩)] [pt b [.string x.1, cwV x.2.1, .int .i64 x.2.2.op, .int .i64 x.2.2.lb.lv, .int .u64 (x.2.2.lb.cs : Int), .int .i64 x.2.2.lb.ig, .string x.2.2.nm, .int .i64 x.2.2.pl, .int .i64 x.2.2.nn, .string x.2.2.da, .int .i64 x.2.2.id] 52] [cellsAt 2 0 [.iface 180 (.pointer (some ea))], cellsAt 3 0 [.iface 180 (.pointer (some em))], cellsAt 1 0 [.iface 180 (.pointer (some ef))], errAt ea, errAt em, errAt ef, cellsAt 4 0 [.iface 180 (.pointer (some el))], errAt el, cellsAt 0 0 [.iface 147 (.agg #[.pointer (some ⟨5, 48, none⟩)])]] (fun v L' I' => v = .tuple #[] ∧ L' = [pt b [.string ((getC x y).1), cwV (getC x y).2.1, .int .i64 (((getC x y).2.2).op), .int .i64 (((getC x y).2.2).lb.lv), .int .u64 (((getC x y).2.2).lb.cs : Int), .int .i64 (((getC x y).2.2).lb.ig), .string (((getC x y).2.2).nm), .int .i64 (((getC x y).2.2).pl), .int .i64 (((getC x y).2.2).nn), .string (((getC x y).2.2).da), .int .i64 (((getC x y).2.2).id)] 52] ∧ I' = []) := by
  rcases hy with rfl | rfl | rfl | rfl | rfl | rfl
  · exact ⟨64, rfl, cget76_ b x.1 x.2.1 x.2.2 ea em ef el h12 h13 h23 hr⟩
  · exact ⟨66, rfl, cget84_ b x.1 x.2.1 x.2.2 ea em ef el h12 h13 h23 hr⟩
  · exact ⟨68, rfl, cget68_ b x.1 x.2.1 x.2.2 ea em ef el h12 h13 h23 hr⟩
  · exact ⟨70, rfl, cget65_ b x.1 x.2.1 x.2.2 ea em ef el h12 h13 h23 hr⟩
  · exact ⟨72, rfl, cget78_ b x.1 x.2.1 x.2.2 ea em ef el h12 h13 h23 hr⟩
  · exact ⟨74, rfl, cget73_ b x.1 x.2.1 x.2.2 ea em ef el h12 h13 h23 hr⟩
def wsm (n : Nat) (x : Wst) : Prop := x.1.size ≤ n ∧ lab64 x.2.2.lb ∧ x.2.2.nm.size ≤ 100000 ∧ x.2.2.da.size ≤ 100000
theorem wsm_put {n : Nat} {x : Wst} {y : UInt8} (h : wsm n x) : wsm (n + 300) (putC x y) := by
  obtain ⟨h1, h2, h3, h4⟩ := h
  have z0 : (⟨#[]⟩ : ByteArray).size = 0 := rfl
  have l0 : lab64 ⟨0, 0, 0⟩ := by show (0 : Nat) < _; decide
  have a1 := putL_size h2
  have a2 := ptextF_size x.2.2.nm
  have a3 := ptextF_size x.2.2.da
  have a4 := putF_size 2 (u64 x.2.2.pl)
  have a5 := putF_size 2 (u64 x.2.2.nn)
  have a6 := putF_size 1 (u64 x.2.2.id)
  unfold putC putP
  repeat' split
  · exact ⟨by show (_ ++ _ : ByteArray).size ≤ _; rw [ByteArray.size_append]; omega, l0, h3, h4⟩
  · exact ⟨by show (_ ++ _ : ByteArray).size ≤ _; rw [ByteArray.size_append]; omega, h2, by show (⟨#[]⟩ : ByteArray).size ≤ _; omega, h4⟩
  · exact ⟨by show (_ ++ _ : ByteArray).size ≤ _; rw [ByteArray.size_append]; omega, h2, h3, by show (⟨#[]⟩ : ByteArray).size ≤ _; omega⟩
  · exact ⟨by show (_ ++ _ : ByteArray).size ≤ _; rw [ByteArray.size_append]; omega, h2, h3, h4⟩
  · exact ⟨by show (_ ++ _ : ByteArray).size ≤ _; rw [ByteArray.size_append]; omega, h2, h3, h4⟩
  · exact ⟨by show (_ ++ _ : ByteArray).size ≤ _; rw [ByteArray.size_append]; omega, h2, h3, h4⟩
  · exact ⟨by show x.1.size ≤ _; omega, h2, h3, h4⟩
def putN (l : List UInt8) (x : Wst) : Wst := l.foldl putC x
def getN (l : List UInt8) (x : Wst) : Wst := l.foldl getC x
theorem putN_at {l : List UInt8} {k : Nat} {y : UInt8} {x x0 : Wst} (hx : x = putN (l.take k) x0) (hy : l[k]? = some y) : putC x y = putN (l.take (k + 1)) x0 := by
  rw [hx, List.take_add_one, hy]; unfold putN; rw [List.foldl_append]; rfl
theorem getN_at {l : List UInt8} {k : Nat} {y : UInt8} {x x0 : Wst} (hx : x = getN (l.take k) x0) (hy : l[k]? = some y) : getC x y = getN (l.take (k + 1)) x0 := by
  rw [hx, List.take_add_one, hy]; unfold getN; rw [List.foldl_append]; rfl
def cal0 : Cal := ⟨0, ⟨0, 0, 0⟩, ⟨#[]⟩, 0, 0, ⟨#[]⟩, 0⟩
def putI (c : Cal) : Wst := ((⟨#[]⟩ : ByteArray) ++ (putF 1 (u64 c.op)).1, addQ none (numE 1 c.op), ⟨0, c.lb, c.nm, c.pl, c.nn, c.da, c.id⟩)
def putX (c : Cal) : Wst := putN (lts (signsF c.op)) (putI c)
def callPut (c : Cal) : ByteArray × Int := if isOp c.op ∧ (putX c).2.1 = none ∧ (putX c).2.2 = cal0 then ((putX c).1, 0) else (⟨#[]⟩, 170)
theorem cp_ok {c : Cal} {x : Wst} (hx : x = putN ((lts (signsF c.op)).take (lts (signsF c.op)).length) (putI c)) (h1 : isOp c.op) (h2 : x.2.1 = none) (h3 : x.2.2 = cal0) : callPut c = (x.1, 0) := by
  rw [List.take_length] at hx
  have e : putX c = x := hx.symm
  unfold callPut; rw [e, if_pos ⟨h1, h2, h3⟩]
theorem cp_no {c : Cal} {x : Wst} (hx : x = putN ((lts (signsF c.op)).take (lts (signsF c.op)).length) (putI c)) (h : ¬ isOp c.op ∨ ¬ x.2.1 = none ∨ ¬ x.2.2 = cal0) : callPut c = (⟨#[]⟩, 170) := by
  rw [List.take_length] at hx
  have e : putX c = x := hx.symm
  unfold callPut; rw [e, if_neg]
  rintro ⟨q1, q2, q3⟩
  rcases h with h | h | h
  · exact h q1
  · exact h q2
  · exact h q3
theorem wsm_i {c : Cal} (h6 : lab64 c.lb) (h1 : c.nm.size ≤ 100000) (h2 : c.da.size ≤ 100000) : wsm 8 (putI c) := by
  have := putF_size 1 (u64 c.op)
  have z0 : (⟨#[]⟩ : ByteArray).size = 0 := rfl
  exact ⟨by show (_ ++ _ : ByteArray).size ≤ 8; rw [ByteArray.size_append]; omega, h6, h1, h2⟩
theorem callPut_ (c : Cal) (ea : Addr) (em : Addr) (ef : Addr) (el : Addr) (h12 : ea ≠ em) (h13 : ea ≠ ef) (h23 : em ≠ ef) (h6 : lab64 c.lb) (hn1 : c.nm.size ≤ 100000) (hn2 : c.da.size ≤ 100000) : Con Tryz.prog 7 [.agg #[.int .i64 c.op, .int .i64 c.lb.lv, .int .u64 (c.lb.cs : Int), .int .i64 c.lb.ig, .string c.nm, .int .i64 c.pl, .int .i64 c.nn, .string c.da, .int .i64 c.id]] [] [cellsAt 2 0 [.iface 180 (.pointer (some ea))], cellsAt 3 0 [.iface 180 (.pointer (some em))], cellsAt 1 0 [.iface 180 (.pointer (some ef))], errAt ea, errAt em, errAt ef, cellsAt 4 0 [.iface 180 (.pointer (some el))], errAt el, cellsAt 0 0 [.iface 147 (.agg #[.pointer (some ⟨5, 48, none⟩)])]] (fun v L' I' => v = .tuple #[.string ((callPut c).1), .int .i64 ((callPut c).2)] ∧ L' = [] ∧ I' = []) := by
 refine fn_of Tryz.func7 rfl Tryz.ntmps7 (by kernel_rfl) rfl (fun C => ?_)
 refine c_seq (c_region ?_)
 refine st rfl (o_box (cs := [.int .i64 c.op, .int .i64 c.lb.lv, .int .u64 (c.lb.cs : Int), .int .i64 c.lb.ig, .string c.nm, .int .i64 c.pl, .int .i64 c.nn, .string c.da, .int .i64 c.id]) (T := 26) rfl rfl rfl rfl (fun _ => by kernel_rfl) (fun b1 => ?_))
 refine s_y rfl (v := .string (⟨#[]⟩ : ByteArray)) (y_as rfl) rfl ?_
 refine s_y rfl (v := .int .i64 0) (y_as rfl) rfl ?_
 refine s_nil (q_then (c_seq (c_region ?_)))
 refine st rfl (o_ldn 0 9 rfl rfl rfl rfl Tryz.underlying26 rfl (by kernel_rfl) (by kernel_rfl) rfl ?_)
 refine s_y rfl (v := .agg #[.string (⟨#[]⟩ : ByteArray), .nilIface, .int .i64 c.op, .int .i64 c.lb.lv, .int .u64 (c.lb.cs : Int), .int .i64 c.lb.ig, .string c.nm, .int .i64 c.pl, .int .i64 c.nn, .string c.da, .int .i64 c.id]) (y_k rfl rfl (fun _ => by kernel_rfl)) rfl ?_
 refine st rfl (o_box (cs := [.string (⟨#[]⟩ : ByteArray), .nilIface, .int .i64 c.op, .int .i64 c.lb.lv, .int .u64 (c.lb.cs : Int), .int .i64 c.lb.ig, .string c.nm, .int .i64 c.pl, .int .i64 c.nn, .string c.da, .int .i64 c.id]) (T := 52) rfl rfl rfl rfl (fun _ => by kernel_rfl) (fun b2 => ?_))
 refine st rfl (o_box (cs := [.pointer none]) (T := 46) rfl rfl rfl rfl (fun _ => by kernel_rfl) (fun b3 => ?_))
 refine st rfl (o_st 0 rfl rfl rfl rfl rfl (by kernel_rfl) (by kernel_rfl) rfl ?_)
 refine s_nil (q_then (c_seq (c_region ?_)))
 refine s_y rfl (v := .pointer (some ⟨b1, 0, none⟩)) (y_k rfl rfl (fun _ => by kernel_rfl)) rfl ?_
 refine st rfl (o_ld 2 rfl rfl rfl Tryz.underlying3 rfl rfl ?_)
 refine st rfl (o_call [] [] (signs_ c.op) rfl rfl rfl rfl rfl rfl (fun v L' I' hq1 => ?_))
 obtain ⟨rfl, rfl, rfl⟩ := hq1
 refine s_y rfl (v := .tuple #[.string (signsF c.op), .bool (decide (isOp c.op))]) (y_mv rfl) rfl ?_
 refine s_y rfl (v := .string (signsF c.op)) (y_k rfl rfl (fun _ => by kernel_rfl)) rfl ?_
 refine s_y rfl (v := .bool (decide (isOp c.op))) (y_k rfl rfl (fun _ => by kernel_rfl)) rfl ?_
 refine s_y rfl (v := .string (signsF c.op)) (y_as rfl) rfl ?_
 refine s_y rfl (v := .bool (decide (isOp c.op))) (y_as rfl) rfl ?_
 refine s_nil (q_then (c_seq ?_))
 refine c_draw (l := ticked 6 0) [(⟨b3, 0, none⟩, .pointer (some ⟨b2, 0, none⟩)), (⟨b1, 0, none⟩, .int .i64 c.op)] [] (by kernel_rfl) rfl rfl ?_
 refine b_y (i := 3) (v := .pointer (some ⟨b1, 0, none⟩)) (ticked 6 8) rfl rfl (by exact y_k rfl rfl (fun _ => by kernel_rfl)) ?_
 refine a_held (i := 0) (ticked 6 9) rfl (by as_aux_lemma => kernel_rfl) rfl rfl rfl (held_pt 0 rfl rfl (held_pt 2 rfl rfl held_nil)) (h_ld 0 rfl rfl Tryz.underlying46 rfl) ?_
 refine b_y (i := 1) (v := .pointer (some ⟨b2, 0, none⟩)) (ticked 6 11) rfl rfl (by exact y_k rfl rfl (fun _ => by kernel_rfl)) ?_
 refine b_y (i := 2) (v := .pointer (some ⟨b2, 0, none⟩)) (ticked 6 15) rfl rfl (by exact y_k rfl rfl (fun _ => by kernel_rfl)) ?_
 refine a_held (i := 4) (ticked 6 31) rfl (by as_aux_lemma => kernel_rfl) rfl rfl rfl (held_pt 0 rfl rfl (held_pt 2 rfl rfl held_nil)) (h_ld 1 rfl rfl Tryz.underlying3 rfl) ?_
 show Ent _ _ _ _ [pt b3 [.pointer (some ⟨b2, 0, none⟩)] 46, pt b2 [.string (⟨#[]⟩ : ByteArray), cwV none, .int .i64 c.op, .int .i64 c.lb.lv, .int .u64 (c.lb.cs : Int), .int .i64 c.lb.ig, .string c.nm, .int .i64 c.pl, .int .i64 c.nn, .string c.da, .int .i64 c.id] 52, pt b1 [.int .i64 c.op, .int .i64 c.lb.lv, .int .u64 (c.lb.cs : Int), .int .i64 c.lb.ig, .string c.nm, .int .i64 c.pl, .int .i64 c.nn, .string c.da, .int .i64 c.id] 26] _ _
 refine a_each (rs := [5]) (by as_aux_lemma => kernel_rfl) (.cons (ticked 6 63) rfl rfl rfl (o_call [1] [0, 1, 2, 3, 4, 5, 6, 7, 8] (wnumber_ b2 (⟨#[]⟩ : ByteArray) none c (1 : Int) c.op ea em ef el (by assumption) (by assumption) (by assumption) (by first | omega | assumption | decide)) rfl rfl rfl rfl rfl rfl (fun v L' I' hq2 => ?_)) .nil) (List.cons_ne_nil _ _)
 obtain ⟨rfl, rfl, rfl⟩ := hq2
 refine a_and (held_pt 1 rfl rfl (held_pt 2 rfl rfl held_nil)) ?_
 refine a_done (by as_aux_lemma => kernel_rfl) ?_
 refine q_then (c_seq (c_region ?_))
 refine st rfl (o_ld 1 rfl rfl rfl Tryz.underlying46 rfl rfl ?_)
 refine s_y rfl (v := .pointer (some ⟨b2, 0, none⟩)) (y_k rfl rfl (fun _ => by kernel_rfl)) rfl ?_
 refine s_y rfl (v := .pointer (some ⟨b2, 2, none⟩)) (y_k rfl rfl (fun _ => by kernel_rfl)) rfl ?_
 refine s_y rfl (v := .pointer (some ⟨b2, 2, none⟩)) (y_k rfl rfl (fun _ => by kernel_rfl)) rfl ?_
 refine st rfl (o_st 0 rfl rfl rfl rfl rfl (by kernel_rfl) (by kernel_rfl) rfl ?_)
 refine s_nil (q_then (c_seq (c_seq (c_region ?_))))
 refine s_y rfl (v := .string (signsF c.op)) (y_mv rfl) rfl ?_
 refine st rfl (o_call [] [] (cof_ (signsF c.op)) rfl rfl rfl rfl rfl rfl (fun v L' I' hq3 => ?_))
 obtain ⟨k1, rfl, rfl, rfl⟩ := hq3
 refine s_nil (q_then (c_block ?_))
 show Ent _ _ _ _ [pt k1 [.string (signsF c.op)] 9, pt b2 [.string ((putI c).1), cwV (putI c).2.1, .int .i64 (((putI c).2.2).op), .int .i64 (((putI c).2.2).lb.lv), .int .u64 (((putI c).2.2).lb.cs : Int), .int .i64 (((putI c).2.2).lb.ig), .string (((putI c).2.2).nm), .int .i64 (((putI c).2.2).pl), .int .i64 (((putI c).2.2).nn), .string (((putI c).2.2).da), .int .i64 (((putI c).2.2).id)] 52, pt b3 [.pointer (some ⟨b2, 0, none⟩)] 46, pt b1 [.int .i64 c.op, .int .i64 c.lb.lv, .int .u64 (c.lb.cs : Int), .int .i64 c.lb.ig, .string c.nm, .int .i64 c.pl, .int .i64 c.nn, .string c.da, .int .i64 c.id] 26] _ _
 refine c_range (xs := (lts (signsF c.op)).map fun y => [.agg #[putV y, getV y]]) (fun k L I => ∃ x : Wst, (x = putN ((lts (signsF c.op)).take k) (putI c)) ∧ (wsm (8 + 300 * k) x) ∧ L = [pt b2 [.string x.1, cwV x.2.1, .int .i64 x.2.2.op, .int .i64 x.2.2.lb.lv, .int .u64 (x.2.2.lb.cs : Int), .int .i64 x.2.2.lb.ig, .string x.2.2.nm, .int .i64 x.2.2.pl, .int .i64 x.2.2.nn, .string x.2.2.da, .int .i64 x.2.2.id] 52, pt b3 [.pointer (some ⟨b2, 0, none⟩)] 46] ∧ I = [cellsAt 2 0 [.iface 180 (.pointer (some ea))], cellsAt 3 0 [.iface 180 (.pointer (some em))], cellsAt 1 0 [.iface 180 (.pointer (some ef))], errAt ea, errAt em, errAt ef, cellsAt 4 0 [.iface 180 (.pointer (some el))], errAt el, cellsAt 0 0 [.iface 147 (.agg #[.pointer (some ⟨5, 48, none⟩)])]]) (fun _ _ _ _ => False) [0, 0, 0] [0, 1, 2, 3, 4, 5, 6, 7, 8] (cof1_ k1 (signsF c.op) (signs_let c.op)) rfl rfl rfl ⟨(putI c), rfl, wsm_i h6 hn1 hn2, rfl, rfl⟩ (by intro x hx; simp only [List.mem_map] at hx; obtain ⟨_, _, rfl⟩ := hx; rfl) rfl (fun C1 lp1 r1 k2 x1 Lx1 Ix1 hx1 hS1 => ?_) (fun bD1 La1 Lb1 Ib1 hf1 hS1 => ?_) (fun bD1 k2 cc La1 Lb1 Ib1 hk hf1 hX => ?_)
 ·
  obtain ⟨y1, hy1, rfl⟩ : ∃ y, (lts (signsF c.op))[k2]? = some y ∧ [.agg #[putV y, getV y]] = x1 := by simpa using hx1
  obtain ⟨x2, h24, h25, rfl, rfl⟩ := hS1
  refine Ent.env (e' := [(0, .agg #[.int .i64 c.op, .int .i64 c.lb.lv, .int .u64 (c.lb.cs : Int), .int .i64 c.lb.ig, .string c.nm, .int .i64 c.pl, .int .i64 c.nn, .string c.da, .int .i64 c.id]), (1, .pointer (some ⟨b1, 0, none⟩)), (2, .string (⟨#[]⟩ : ByteArray)), (3, .int .i64 0), (4, .pointer (some ⟨b3, 0, none⟩)), (5, .string (signsF c.op)), (6, .bool (decide (isOp c.op))), (9, .agg #[.int .i64 c.op, .int .i64 c.lb.lv, .int .u64 (c.lb.cs : Int), .int .i64 c.lb.ig, .string c.nm, .int .i64 c.pl, .int .i64 c.nn, .string c.da, .int .i64 c.id]), (10, .agg #[.string (⟨#[]⟩ : ByteArray), .nilIface, .int .i64 c.op, .int .i64 c.lb.lv, .int .u64 (c.lb.cs : Int), .int .i64 c.lb.ig, .string c.nm, .int .i64 c.pl, .int .i64 c.nn, .string c.da, .int .i64 c.id]), (11, .pointer (some ⟨b2, 0, none⟩)), (12, .tuple #[.string (signsF c.op), .bool (decide (isOp c.op))]), (13, .pointer (some ⟨b1, 0, none⟩)), (14, .int .i64 c.op), (15, .tuple #[.string (signsF c.op), .bool (decide (isOp c.op))]), (16, .string (signsF c.op)), (17, .bool (decide (isOp c.op))), (18, .pointer (some ⟨b2, 0, none⟩)), (19, .pointer (some ⟨b2, 0, none⟩)), (20, .pointer (some ⟨b2, 0, none⟩)), (21, .pointer (some ⟨b1, 0, none⟩)), (22, .int .i64 c.op), (23, .tuple #[]), (24, .pointer (some ⟨b2, 0, none⟩)), (25, .pointer (some ⟨b2, 0, none⟩)), (26, .pointer (some ⟨b2, 2, none⟩)), (27, .pointer (some ⟨b2, 2, none⟩)), (28, .string (signsF c.op)), (29, .func (.func 46) #[] #[.pointer (some ⟨k1, 0, none⟩)]), (30, .agg #[putV y1, getV y1])]) (.cons rfl rfl (.cons rfl rfl (.cons rfl rfl (.cons rfl rfl (.cons rfl rfl (.cons rfl rfl (.cons rfl rfl (.cons rfl rfl (.cons rfl rfl (.cons rfl rfl (.cons rfl rfl (.cons rfl rfl (.cons rfl rfl (.cons rfl rfl (.cons rfl rfl (.cons rfl rfl (.cons rfl rfl (.cons rfl rfl (.cons rfl rfl (.cons rfl rfl (.cons rfl rfl (.cons rfl rfl (.cons rfl rfl (.cons rfl rfl (.cons rfl rfl (.cons rfl rfl (.cons rfl rfl (.cons rfl rfl (.cons rfl rfl .nil))))))))))))))))))))))))))))) ?_
  refine c_region ?_
  refine st rfl (o_box (cs := [.nilFunc, .nilFunc]) (T := 61) rfl rfl rfl rfl (fun _ => by kernel_rfl) (fun b4 => ?_))
  refine st rfl (o_st 0 rfl rfl rfl (cod_cells _) (cod_one _) (by kernel_rfl) (by kernel_rfl) rfl ?_)
  refine s_nil (q_then ?_)
  refine r_begin 1 rfl ?_
  refine c_block (c_region ?_)
  refine s_y rfl (v := .pointer (some ⟨b4, 0, none⟩)) (y_k rfl rfl (fun _ => by kernel_rfl)) rfl ?_
  refine st rfl (o_ld 0 rfl rfl rfl Tryz.underlying59 rfl rfl ?_)
  refine st rfl (o_ld 3 rfl rfl rfl Tryz.underlying46 rfl rfl ?_)
  have hlt_ := (List.getElem?_eq_some_iff.1 hy1).1
  have hle_ : ((lts (signsF c.op))).length ≤ 4 := signs_len _
  obtain ⟨f1, hf2, hc1⟩ := put_con (signs_let _ _ (List.mem_of_getElem? hy1)) b2 x2 ea em ef el h12 h13 h23 (by have := h25.1; omega) h25.2.1 h25.2.2.1 h25.2.2.2
  rw [hf2]
  refine st rfl (o_call [2] [0, 1, 2, 3, 4, 5, 6, 7, 8] hc1 rfl rfl rfl rfl rfl rfl (fun v L' I' hq4 => ?_))
  obtain ⟨rfl, rfl, rfl⟩ := hq4
  refine s_nil (q_block ?_)
  refine r_end 2 [0, 1] [0, 1, 2, 3, 4, 5, 6, 7, 8] rfl rfl rfl ⟨(putC x2 y1), putN_at h24 hy1, wsm_put h25, rfl, rfl⟩
 ·
  obtain rfl := hf1
  rw [List.length_map] at hS1
  obtain ⟨x3, h26, h27, rfl, rfl⟩ := hS1
  refine Ent.env (e' := [(0, .agg #[.int .i64 c.op, .int .i64 c.lb.lv, .int .u64 (c.lb.cs : Int), .int .i64 c.lb.ig, .string c.nm, .int .i64 c.pl, .int .i64 c.nn, .string c.da, .int .i64 c.id]), (1, .pointer (some ⟨b1, 0, none⟩)), (2, .string (⟨#[]⟩ : ByteArray)), (3, .int .i64 0), (4, .pointer (some ⟨b3, 0, none⟩)), (5, .string (signsF c.op)), (6, .bool (decide (isOp c.op))), (9, .agg #[.int .i64 c.op, .int .i64 c.lb.lv, .int .u64 (c.lb.cs : Int), .int .i64 c.lb.ig, .string c.nm, .int .i64 c.pl, .int .i64 c.nn, .string c.da, .int .i64 c.id]), (10, .agg #[.string (⟨#[]⟩ : ByteArray), .nilIface, .int .i64 c.op, .int .i64 c.lb.lv, .int .u64 (c.lb.cs : Int), .int .i64 c.lb.ig, .string c.nm, .int .i64 c.pl, .int .i64 c.nn, .string c.da, .int .i64 c.id]), (11, .pointer (some ⟨b2, 0, none⟩)), (12, .tuple #[.string (signsF c.op), .bool (decide (isOp c.op))]), (13, .pointer (some ⟨b1, 0, none⟩)), (14, .int .i64 c.op), (15, .tuple #[.string (signsF c.op), .bool (decide (isOp c.op))]), (16, .string (signsF c.op)), (17, .bool (decide (isOp c.op))), (18, .pointer (some ⟨b2, 0, none⟩)), (19, .pointer (some ⟨b2, 0, none⟩)), (20, .pointer (some ⟨b2, 0, none⟩)), (21, .pointer (some ⟨b1, 0, none⟩)), (22, .int .i64 c.op), (23, .tuple #[]), (24, .pointer (some ⟨b2, 0, none⟩)), (25, .pointer (some ⟨b2, 0, none⟩)), (26, .pointer (some ⟨b2, 2, none⟩)), (27, .pointer (some ⟨b2, 2, none⟩)), (28, .string (signsF c.op)), (29, .func (.func 46) #[] #[.pointer (some ⟨k1, 0, none⟩)])]) (.cons rfl rfl (.cons rfl rfl (.cons rfl rfl (.cons rfl rfl (.cons rfl rfl (.cons rfl rfl (.cons rfl rfl (.cons rfl rfl (.cons rfl rfl (.cons rfl rfl (.cons rfl rfl (.cons rfl rfl (.cons rfl rfl (.cons rfl rfl (.cons rfl rfl (.cons rfl rfl (.cons rfl rfl (.cons rfl rfl (.cons rfl rfl (.cons rfl rfl (.cons rfl rfl (.cons rfl rfl (.cons rfl rfl (.cons rfl rfl (.cons rfl rfl (.cons rfl rfl (.cons rfl rfl (.cons rfl rfl .nil)))))))))))))))))))))))))))) ?_
  refine q_block (q_then (c_seq (c_seq (c_region ?_))))
  refine st rfl (o_ld 3 rfl rfl rfl Tryz.underlying46 rfl rfl ?_)
  refine s_y rfl (v := .pointer (some ⟨b2, 0, none⟩)) (y_k rfl rfl (fun _ => by kernel_rfl)) rfl ?_
  refine s_y rfl (v := .pointer (some ⟨b2, 2, none⟩)) (y_k rfl rfl (fun _ => by kernel_rfl)) rfl ?_
  refine st rfl (o_ldn 2 9 rfl rfl rfl rfl Tryz.underlying26 rfl (by kernel_rfl) (by kernel_rfl) rfl ?_)
  refine st rfl (o_box (cs := [.int .i64 0, .int .i64 0, .int .u64 0, .int .i64 0, .string (⟨#[]⟩ : ByteArray), .int .i64 0, .int .i64 0, .string (⟨#[]⟩ : ByteArray), .int .i64 0]) (T := 26) rfl rfl rfl rfl (fun _ => by kernel_rfl) (fun b5 => ?_))
  refine st rfl (o_st 0 rfl rfl rfl rfl rfl (by kernel_rfl) (by kernel_rfl) rfl ?_)
  refine s_nil (q_then (c_seq (c_region ?_)))
  refine s_y rfl (v := .bool (decide (isOp c.op))) (y_mv rfl) rfl ?_
  refine e_by (isOp c.op) (fun h28 => ?_) (fun h28 => ?_)
  ·
   refine s_y rfl (v := .bool false) (y_nt (y_not rfl) h28) rfl ?_
   refine s_y rfl (v := .bool false) (y_mv rfl) rfl ?_
   refine st_on 41 rfl rfl rfl (o_ld 4 rfl rfl rfl Tryz.underlying46 rfl rfl ?_)
   refine st_on 41 rfl rfl rfl (o_y (v := .pointer (some ⟨b2, 0, none⟩)) (y_k rfl rfl (fun _ => by kernel_rfl)) rfl rfl rfl ?_)
   refine st_on 41 rfl rfl rfl (o_y (v := .pointer (some ⟨b2, 0, none⟩)) (y_k rfl rfl (fun _ => by kernel_rfl)) rfl rfl rfl ?_)
   refine st_on 41 rfl rfl rfl (o_y (v := .pointer (some ⟨b2, 1, none⟩)) (y_k rfl rfl (fun _ => by kernel_rfl)) rfl rfl rfl ?_)
   refine st_on 41 rfl rfl rfl (o_ld 3 rfl rfl rfl Tryz.underlying48 rfl rfl ?_)
   refine e_by (x3.2.1 = none) (fun h29 => ?_) (fun h29 => ?_)
   ·
    refine st_on 41 rfl rfl rfl (o_y (v := .bool false) (y_nt (y_bin rfl rfl (fun w => cw_ne x3.2.1 _ w)) h29) rfl rfl rfl ?_)
    refine s_y rfl (v := .bool false) (y_pick rfl rfl) rfl ?_
    refine s_y rfl (v := .bool false) (y_mv rfl) rfl ?_
    refine st_on 49 rfl rfl rfl (o_ldn 0 9 rfl rfl rfl rfl Tryz.underlying26 rfl (by kernel_rfl) (by kernel_rfl) rfl ?_)
    refine st_on 49 rfl rfl rfl (o_y (v := .agg #[.int .i64 0, .int .i64 0, .int .u64 0, .int .i64 0, .string (⟨#[]⟩ : ByteArray), .int .i64 0, .int .i64 0, .string (⟨#[]⟩ : ByteArray), .int .i64 0]) (y_k rfl rfl (fun _ => by kernel_rfl)) rfl rfl rfl ?_)
    refine e_by (x3.2.2 = (⟨0, (⟨0, 0, 0⟩ : Lab), (⟨#[]⟩ : ByteArray), 0, 0, (⟨#[]⟩ : ByteArray), 0⟩ : Cal)) (fun h30 => ?_) (fun h30 => ?_)
    ·
     refine st_on 49 rfl rfl rfl (o_y (v := .bool false) (y_nt (y_bin rfl rfl (fun w => eq_Caln x3.2.2 (⟨0, (⟨0, 0, 0⟩ : Lab), (⟨#[]⟩ : ByteArray), 0, 0, (⟨#[]⟩ : ByteArray), 0⟩ : Cal) w)) h30) rfl rfl rfl ?_)
     refine s_y rfl (v := .bool false) (y_pick rfl rfl) rfl ?_
     refine s_nil (q_then (c_false rfl (c_skip (q_then (c_seq (c_region ?_))))))
     refine st rfl (o_ld 4 rfl rfl rfl Tryz.underlying46 rfl rfl ?_)
     refine s_y rfl (v := .pointer (some ⟨b2, 0, none⟩)) (y_k rfl rfl (fun _ => by kernel_rfl)) rfl ?_
     refine s_y rfl (v := .pointer (some ⟨b2, 0, none⟩)) (y_k rfl rfl (fun _ => by kernel_rfl)) rfl ?_
     refine s_y rfl (v := .pointer (some ⟨b2, 0, none⟩)) (y_k rfl rfl (fun _ => by kernel_rfl)) rfl ?_
     refine st rfl (o_ld 3 rfl rfl rfl Tryz.underlying9 rfl rfl ?_)
     refine s_y rfl (v := .string x3.1) (y_as rfl) rfl ?_
     refine s_y rfl (v := .int .i64 0) (y_as rfl) rfl ?_
     refine s_nil (q_then (c_ret ?_))
     have hp : callPut c = (x3.1, 0) := by first | exact cp_ok h26 (by assumption) (by assumption) (by assumption) | exact cp_no h26 (by first | exact .inl (by assumption) | exact .inr (.inl (by assumption)) | exact .inr (.inr (by assumption)))
     refine e_mark 1 rfl ?_
     refine c_fin (I' := []) [] [9, 10, 11, 12, 13, 14, 15, 16, 17] rfl (.tmp rfl (.tmp rfl .nil)) rfl rfl rfl ?_
     rw [hp]
     exact ⟨rfl, rfl, rfl⟩
    ·
     refine st_on 49 rfl rfl rfl (o_y (v := .bool true) (y_nf (y_bin rfl rfl (fun w => eq_Caln x3.2.2 (⟨0, (⟨0, 0, 0⟩ : Lab), (⟨#[]⟩ : ByteArray), 0, 0, (⟨#[]⟩ : ByteArray), 0⟩ : Cal) w)) h30) rfl rfl rfl ?_)
     refine s_y rfl (v := .bool true) (y_pick rfl rfl) rfl ?_
     refine s_nil (q_then (c_true rfl (c_seq (c_region ?_))))
     refine s_y rfl (v := .agg #[.int .i64 0]) (y_k rfl rfl (fun _ => by kernel_rfl)) rfl ?_
     refine s_y rfl (v := .iface 64 (.agg #[.int .i64 0])) (y_k rfl rfl (fun _ => by kernel_rfl)) rfl ?_
     refine st rfl (o_call [] [8] (ctold_ (0 : Int) (170 : Int)) rfl rfl rfl rfl rfl rfl (fun v L' I' hq5 => ?_))
     obtain ⟨rfl, rfl, rfl⟩ := hq5
     refine s_y rfl (v := .string (⟨#[]⟩ : ByteArray)) (y_as rfl) rfl ?_
     refine s_y rfl (v := .int .i64 (170 : Int)) (y_as rfl) rfl ?_
     refine s_nil (q_then (c_ret (q_then_ret ?_)))
     have hp : callPut c = ((⟨#[]⟩ : ByteArray), (170 : Int)) := by first | exact cp_ok h26 (by assumption) (by assumption) (by assumption) | exact cp_no h26 (by first | exact .inl (by assumption) | exact .inr (.inl (by assumption)) | exact .inr (.inr (by assumption)))
     refine e_mark 1 rfl ?_
     refine c_fin (I' := []) [] [9, 10, 11, 12, 13, 14, 15, 16, 17] rfl (.tmp rfl (.tmp rfl .nil)) rfl rfl rfl ?_
     rw [hp]
     exact ⟨rfl, rfl, rfl⟩
   ·
    refine st_on 41 rfl rfl rfl (o_y (v := .bool true) (y_nf (y_bin rfl rfl (fun w => cw_ne x3.2.1 _ w)) h29) rfl rfl rfl ?_)
    refine s_y rfl (v := .bool true) (y_pick rfl rfl) rfl ?_
    refine s_y rfl (v := .bool true) (y_mv rfl) rfl ?_
    refine st_off 49 rfl rfl rfl rfl rfl rfl ?_
    refine st_off 49 rfl rfl rfl rfl rfl rfl ?_
    refine st_off 49 rfl rfl rfl rfl rfl rfl ?_
    refine s_y rfl (v := .bool true) (y_pick rfl rfl) rfl ?_
    refine s_nil (q_then (c_true rfl (c_seq (c_region ?_))))
    refine s_y rfl (v := .agg #[.int .i64 0]) (y_k rfl rfl (fun _ => by kernel_rfl)) rfl ?_
    refine s_y rfl (v := .iface 64 (.agg #[.int .i64 0])) (y_k rfl rfl (fun _ => by kernel_rfl)) rfl ?_
    refine st rfl (o_call [] [8] (ctold_ (0 : Int) (170 : Int)) rfl rfl rfl rfl rfl rfl (fun v L' I' hq6 => ?_))
    obtain ⟨rfl, rfl, rfl⟩ := hq6
    refine s_y rfl (v := .string (⟨#[]⟩ : ByteArray)) (y_as rfl) rfl ?_
    refine s_y rfl (v := .int .i64 (170 : Int)) (y_as rfl) rfl ?_
    refine s_nil (q_then (c_ret (q_then_ret ?_)))
    have hp : callPut c = ((⟨#[]⟩ : ByteArray), (170 : Int)) := by first | exact cp_ok h26 (by assumption) (by assumption) (by assumption) | exact cp_no h26 (by first | exact .inl (by assumption) | exact .inr (.inl (by assumption)) | exact .inr (.inr (by assumption)))
    refine e_mark 1 rfl ?_
    refine c_fin (I' := []) [] [9, 10, 11, 12, 13, 14, 15, 16, 17] rfl (.tmp rfl (.tmp rfl .nil)) rfl rfl rfl ?_
    rw [hp]
    exact ⟨rfl, rfl, rfl⟩
  ·
   refine s_y rfl (v := .bool true) (y_nf (y_not rfl) h28) rfl ?_
   refine s_y rfl (v := .bool true) (y_mv rfl) rfl ?_
   refine st_off 41 rfl rfl rfl rfl rfl rfl ?_
   refine st_off 41 rfl rfl rfl rfl rfl rfl ?_
   refine st_off 41 rfl rfl rfl rfl rfl rfl ?_
   refine st_off 41 rfl rfl rfl rfl rfl rfl ?_
   refine st_off 41 rfl rfl rfl rfl rfl rfl ?_
   refine st_off 41 rfl rfl rfl rfl rfl rfl ?_
   refine s_y rfl (v := .bool true) (y_pick rfl rfl) rfl ?_
   refine s_y rfl (v := .bool true) (y_mv rfl) rfl ?_
   refine st_off 49 rfl rfl rfl rfl rfl rfl ?_
   refine st_off 49 rfl rfl rfl rfl rfl rfl ?_
   refine st_off 49 rfl rfl rfl rfl rfl rfl ?_
   refine s_y rfl (v := .bool true) (y_pick rfl rfl) rfl ?_
   refine s_nil (q_then (c_true rfl (c_seq (c_region ?_))))
   refine s_y rfl (v := .agg #[.int .i64 0]) (y_k rfl rfl (fun _ => by kernel_rfl)) rfl ?_
   refine s_y rfl (v := .iface 64 (.agg #[.int .i64 0])) (y_k rfl rfl (fun _ => by kernel_rfl)) rfl ?_
   refine st rfl (o_call [] [8] (ctold_ (0 : Int) (170 : Int)) rfl rfl rfl rfl rfl rfl (fun v L' I' hq7 => ?_))
   obtain ⟨rfl, rfl, rfl⟩ := hq7
   refine s_y rfl (v := .string (⟨#[]⟩ : ByteArray)) (y_as rfl) rfl ?_
   refine s_y rfl (v := .int .i64 (170 : Int)) (y_as rfl) rfl ?_
   refine s_nil (q_then (c_ret (q_then_ret ?_)))
   have hp : callPut c = ((⟨#[]⟩ : ByteArray), (170 : Int)) := by first | exact cp_ok h26 (by assumption) (by assumption) (by assumption) | exact cp_no h26 (by first | exact .inl (by assumption) | exact .inr (.inl (by assumption)) | exact .inr (.inr (by assumption)))
   refine e_mark 1 rfl ?_
   refine c_fin (I' := []) [] [9, 10, 11, 12, 13, 14, 15, 16, 17] rfl (.tmp rfl (.tmp rfl .nil)) rfl rfl rfl ?_
   rw [hp]
   exact ⟨rfl, rfl, rfl⟩
 ·
  exact hX.elim
end Go.Proofs.YtcnncdniibkjkaaGreatDoor
