/- The laws of chapter 17 (call), walked over the given program; no condition but what stands in each theorem: part CI. -/
import Derived.Test.YtcnncdniibkjkaaDoorRCF
import Derived.Test.YtcnncdniibkjkaaDoorRCH
set_option linter.unusedVariables false
set_option linter.unusedSimpArgs false
set_option maxRecDepth 100000
set_option maxHeartbeats 8000000
namespace Go.Proofs.YtcnncdniibkjkaaDoor
open Go Go.Sl Go.RowKit Go.Extern.Stop Go.Stop Go.Extern
theorem put_con {y : UInt8} (hy : isLet y) (b : Nat) (x : Wst) (ea : Addr) (em : Addr) (ef : Addr) (el : Addr) (h12 : ea ≠ em) (h13 : ea ≠ ef) (h23 : em ≠ ef) (hr : x.1.size ≤ 100000) (h6 : lab64 x.2.2.lb) (hn1 : x.2.2.nm.size ≤ 100000) (hn2 : x.2.2.da.size ≤ 100000) : ∃ f, putV y = .func (.func f) #[] #[] ∧ Con Tryd.prog f [.pointer (some ⟨b, 0, none⟩)] [pt b [.string x.1, cwV x.2.1, .int .i64 x.2.2.op, .int .i64 x.2.2.lb.lv, .int .u64 (x.2.2.lb.cs : Int), .int .i64 x.2.2.lb.ig, .string x.2.2.nm, .int .i64 x.2.2.pl, .int .i64 x.2.2.nn, .string x.2.2.da, .int .i64 x.2.2.id] 55] [cellsAt 2 0 [.iface 177 (.pointer (some ea))], cellsAt 3 0 [.iface 177 (.pointer (some em))], cellsAt 1 0 [.iface 177 (.pointer (some ef))], errAt ea, errAt em, errAt ef, cellsAt 4 0 [.iface 177 (.pointer (some el))], errAt el, cellsAt 0 0 [.iface 139 (.agg #[.pointer (some ⟨5, 51, none⟩)])]] (fun v L' I' => v = .tuple #[] ∧ L' = [pt b [.string ((putC x y).1), cwV (putC x y).2.1, .int .i64 (((putC x y).2.2).op), .int .i64 (((putC x y).2.2).lb.lv), .int .u64 (((putC x y).2.2).lb.cs : Int), .int .i64 (((putC x y).2.2).lb.ig), .string (((putC x y).2.2).nm), .int .i64 (((putC x y).2.2).pl), .int .i64 (((putC x y).2.2).nn), .string (((putC x y).2.2).da), .int .i64 (((putC x y).2.2).id)] 55] ∧ I' = []) := by
  rcases hy with rfl | rfl | rfl | rfl | rfl | rfl
  · exact ⟨44, rfl, cput76_ b x.1 x.2.1 x.2.2 ea em ef el h12 h13 h23 hr h6 hn1 hn2⟩
  · exact ⟨46, rfl, cput84_ b x.1 x.2.1 x.2.2 ea em ef el h12 h13 h23 hr h6 hn1 hn2⟩
  · exact ⟨48, rfl, cput68_ b x.1 x.2.1 x.2.2 ea em ef el h12 h13 h23 hr h6 hn1 hn2⟩
  · exact ⟨50, rfl, cput65_ b x.1 x.2.1 x.2.2 ea em ef el h12 h13 h23 hr h6 hn1 hn2⟩
  · exact ⟨52, rfl, cput78_ b x.1 x.2.1 x.2.2 ea em ef el h12 h13 h23 hr h6 hn1 hn2⟩
  · exact ⟨54, rfl, cput73_ b x.1 x.2.1 x.2.2 ea em ef el h12 h13 h23 hr h6 hn1 hn2⟩
theorem get_con {y : UInt8} (hy : isLet y) (b : Nat) (x : Wst) (ea : Addr) (em : Addr) (ef : Addr) (el : Addr) (h12 : ea ≠ em) (h13 : ea ≠ ef) (h23 : em ≠ ef) (hr : x.1.size ≤ 100000) : ∃ f, getV y = .func (.func f) #[] #[] ∧ Con Tryd.prog f [.pointer (some ⟨b, 0, none⟩)] [pt b [.string x.1, cwV x.2.1, .int .i64 x.2.2.op, .int .i64 x.2.2.lb.lv, .int .u64 (x.2.2.lb.cs : Int), .int .i64 x.2.2.lb.ig, .string x.2.2.nm, .int .i64 x.2.2.pl, .int .i64 x.2.2.nn, .string x.2.2.da, .int .i64 x.2.2.id] 55] [cellsAt 2 0 [.iface 177 (.pointer (some ea))], cellsAt 3 0 [.iface 177 (.pointer (some em))], cellsAt 1 0 [.iface 177 (.pointer (some ef))], errAt ea, errAt em, errAt ef, cellsAt 4 0 [.iface 177 (.pointer (some el))], errAt el, cellsAt 0 0 [.iface 139 (.agg #[.pointer (some ⟨5, 51, none⟩)])]] (fun v L' I' => v = .tuple #[] ∧ L' = [pt b [.string ((getC x y).1), cwV (getC x y).2.1, .int .i64 (((getC x y).2.2).op), .int .i64 (((getC x y).2.2).lb.lv), .int .u64 (((getC x y).2.2).lb.cs : Int), .int .i64 (((getC x y).2.2).lb.ig), .string (((getC x y).2.2).nm), .int .i64 (((getC x y).2.2).pl), .int .i64 (((getC x y).2.2).nn), .string (((getC x y).2.2).da), .int .i64 (((getC x y).2.2).id)] 55] ∧ I' = []) := by
  rcases hy with rfl | rfl | rfl | rfl | rfl | rfl
  · exact ⟨45, rfl, cget76_ b x.1 x.2.1 x.2.2 ea em ef el h12 h13 h23 hr⟩
  · exact ⟨47, rfl, cget84_ b x.1 x.2.1 x.2.2 ea em ef el h12 h13 h23 hr⟩
  · exact ⟨49, rfl, cget68_ b x.1 x.2.1 x.2.2 ea em ef el h12 h13 h23 hr⟩
  · exact ⟨51, rfl, cget65_ b x.1 x.2.1 x.2.2 ea em ef el h12 h13 h23 hr⟩
  · exact ⟨53, rfl, cget78_ b x.1 x.2.1 x.2.2 ea em ef el h12 h13 h23 hr⟩
  · exact ⟨55, rfl, cget73_ b x.1 x.2.1 x.2.2 ea em ef el h12 h13 h23 hr⟩
def wsm (n : Nat) (x : Wst) : Prop := x.1.size ≤ n ∧ lab64 x.2.2.lb ∧ x.2.2.nm.size ≤ 100000 ∧ x.2.2.da.size ≤ 100000
theorem wsm_put {n : Nat} {x : Wst} {y : UInt8} (h : wsm n x) : wsm (n + 300) (putC x y) := by
  obtain ⟨h1, h2, h3, h4⟩ := h
  have z0 : (⟨#[]⟩ : ByteArray).size = 0 := rfl
  have l0 : lab64 ⟨0, 0, 0⟩ := by show (0 : Nat) < _; decide
  have a1 := putL_size h2
  have a2 := ptextF_size x.2.2.nm
  have a3 := ptextF_size x.2.2.da
  have a4 := putF_size 2 (u64 x.2.2.pl)
  have a5 := putF_size 2 (u64 x.2.2.nn)
  have a6 := putF_size 1 (u64 x.2.2.id)
  unfold putC putP
  repeat' split
  · exact ⟨by show (_ ++ _ : ByteArray).size ≤ _; rw [ByteArray.size_append]; omega, l0, h3, h4⟩
  · exact ⟨by show (_ ++ _ : ByteArray).size ≤ _; rw [ByteArray.size_append]; omega, h2, by show (⟨#[]⟩ : ByteArray).size ≤ _; omega, h4⟩
  · exact ⟨by show (_ ++ _ : ByteArray).size ≤ _; rw [ByteArray.size_append]; omega, h2, h3, by show (⟨#[]⟩ : ByteArray).size ≤ _; omega⟩
  · exact ⟨by show (_ ++ _ : ByteArray).size ≤ _; rw [ByteArray.size_append]; omega, h2, h3, h4⟩
  · exact ⟨by show (_ ++ _ : ByteArray).size ≤ _; rw [ByteArray.size_append]; omega, h2, h3, h4⟩
  · exact ⟨by show (_ ++ _ : ByteArray).size ≤ _; rw [ByteArray.size_append]; omega, h2, h3, h4⟩
  · exact ⟨by show x.1.size ≤ _; omega, h2, h3, h4⟩
def putN (l : List UInt8) (x : Wst) : Wst := l.foldl putC x
def getN (l : List UInt8) (x : Wst) : Wst := l.foldl getC x
theorem putN_at {l : List UInt8} {k : Nat} {y : UInt8} {x x0 : Wst} (hx : x = putN (l.take k) x0) (hy : l[k]? = some y) : putC x y = putN (l.take (k + 1)) x0 := by
  rw [hx, List.take_add_one, hy]; unfold putN; rw [List.foldl_append]; rfl
theorem getN_at {l : List UInt8} {k : Nat} {y : UInt8} {x x0 : Wst} (hx : x = getN (l.take k) x0) (hy : l[k]? = some y) : getC x y = getN (l.take (k + 1)) x0 := by
  rw [hx, List.take_add_one, hy]; unfold getN; rw [List.foldl_append]; rfl
def cal0 : Cal := ⟨0, ⟨0, 0, 0⟩, ⟨#[]⟩, 0, 0, ⟨#[]⟩, 0⟩
def putI (c : Cal) : Wst := ((⟨#[]⟩ : ByteArray) ++ (putF 1 (u64 c.op)).1, addQ none (numE 1 c.op), ⟨0, c.lb, c.nm, c.pl, c.nn, c.da, c.id⟩)
def putX (c : Cal) : Wst := putN (lts (signsF c.op)) (putI c)
def callPut (c : Cal) : ByteArray × Int := if isOp c.op ∧ (putX c).2.1 = none ∧ (putX c).2.2 = cal0 then ((putX c).1, 0) else (⟨#[]⟩, 170)
theorem cp_ok {c : Cal} {x : Wst} (hx : x = putN ((lts (signsF c.op)).take (lts (signsF c.op)).length) (putI c)) (h1 : isOp c.op) (h2 : x.2.1 = none) (h3 : x.2.2 = cal0) : callPut c = (x.1, 0) := by
  rw [List.take_length] at hx
  have e : putX c = x := hx.symm
  unfold callPut; rw [e, if_pos ⟨h1, h2, h3⟩]
theorem cp_no {c : Cal} {x : Wst} (hx : x = putN ((lts (signsF c.op)).take (lts (signsF c.op)).length) (putI c)) (h : ¬ isOp c.op ∨ ¬ x.2.1 = none ∨ ¬ x.2.2 = cal0) : callPut c = (⟨#[]⟩, 170) := by
  rw [List.take_length] at hx
  have e : putX c = x := hx.symm
  unfold callPut; rw [e, if_neg]
  rintro ⟨q1, q2, q3⟩
  rcases h with h | h | h
  · exact h q1
  · exact h q2
  · exact h q3
theorem wsm_i {c : Cal} (h6 : lab64 c.lb) (h1 : c.nm.size ≤ 100000) (h2 : c.da.size ≤ 100000) : wsm 8 (putI c) := by
  have := putF_size 1 (u64 c.op)
  have z0 : (⟨#[]⟩ : ByteArray).size = 0 := rfl
  exact ⟨by show (_ ++ _ : ByteArray).size ≤ 8; rw [ByteArray.size_append]; omega, h6, h1, h2⟩
end Go.Proofs.YtcnncdniibkjkaaDoor
