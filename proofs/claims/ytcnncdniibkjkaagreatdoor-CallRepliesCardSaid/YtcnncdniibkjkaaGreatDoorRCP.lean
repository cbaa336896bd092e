/- The laws of chapter 17 (call), walked over the given program; no condition but what stands in each theorem: part CP. -/
import Derived.Test.YtcnncdniibkjkaaGreatDoorRCL
import Derived.Test.YtcnncdniibkjkaaGreatDoorRCN
set_option linter.unusedVariables false
set_option linter.unusedSimpArgs false
set_option maxRecDepth 100000
set_option maxHeartbeats 8000000
namespace Go.Proofs.YtcnncdniibkjkaaGreatDoor
open Go Go.Sl Go.RowKit Go.Extern.Stop Go.Stop Go.Extern

def gB (w : Int) (x : Wb) : Wb := ((getF w x.1).2.1, addQ x.2 (getF w x.1).2.2)
def tB (x : Wb) : Wb := ((textF x.1).2.1, addQ x.2 (textF x.1).2.2)
def lB (x : Wb) : Wb := ((labGet x.1).2.1, addQ x.2 (labGet x.1).2.2)
def tkB : Nat → Wb → List ByteArray × Wb
  | 0, x => ([], x)
  | k + 1, x => ((tkB k x).1 ++ [(textF (tkB k x).2.1).1], tB (tkB k x).2)
abbrev RepT := Int × Int × ByteArray × List ByteArray × Lab × Int
def repBad : RepT := (0, 0, ⟨#[]⟩, [], ⟨0, 0, 0⟩, 171)
def rep3 (s : ByteArray) : Wb := gB 2 (gB 4 (gB 2 (s, none)))
def repN (s : ByteArray) : Nat := (getF 2 (gB 4 (gB 2 (s, none))).1).1
def rep4 (s : ByteArray) : Wb := ((rep3 s).1.extract (repN s) (rep3 s).1.size, (rep3 s).2)
def repT (s : ByteArray) : List ByteArray × Wb := tkB (getF 1 (rep4 s).1).1 (gB 1 (rep4 s))
def repGet (s : ByteArray) : RepT :=
  if (rep3 s).2 = none ∧ repN s ≤ (rep3 s).1.size ∧ s.size ≤ 2000 then
    if (lB (repT s).2).2 = none ∧ (lB (repT s).2).1 = ⟨#[]⟩ then (((getF 2 s).1 : Int), ((getF 4 (gB 2 (s, none)).1).1 : Int), (rep3 s).1.extract 0 (repN s), (repT s).1, (labGet (repT s).2.1).1, 0) else repBad
  else repBad
theorem gB_1 (w : Int) (x : Wb) : (gB w x).1 = (getF w x.1).2.1 := rfl
theorem gB_2 (w : Int) (x : Wb) : (gB w x).2 = addQ x.2 (getF w x.1).2.2 := rfl
theorem tB_1 (x : Wb) : (tB x).1 = (textF x.1).2.1 := rfl
theorem tB_2 (x : Wb) : (tB x).2 = addQ x.2 (textF x.1).2.2 := rfl
theorem lB_1 (x : Wb) : (lB x).1 = (labGet x.1).2.1 := rfl
theorem lB_2 (x : Wb) : (lB x).2 = addQ x.2 (labGet x.1).2.2 := rfl
theorem tkB_s (k : Nat) (x : Wb) : tkB (k + 1) x = ((tkB k x).1 ++ [(textF (tkB k x).2.1).1], tB (tkB k x).2) := rfl
theorem rep3_def (s : ByteArray) : rep3 s = gB 2 (gB 4 (gB 2 (s, none))) := rfl
theorem repT_def (s : ByteArray) : repT s = tkB (getF 1 (rep4 s).1).1 (gB 1 (rep4 s)) := rfl
theorem rep4_def (s : ByteArray) : rep4 s = ((rep3 s).1.extract (repN s) (rep3 s).1.size, (rep3 s).2) := rfl
theorem tkB_rest (k : Nat) (x : Wb) : (tkB k x).2.1.size ≤ x.1.size := by
  induction k with
  | zero => exact Nat.le_refl _
  | succ k ih => exact Nat.le_trans (textF_rst _) ih
theorem gB_rest (w : Int) (x : Wb) : (gB w x).1.size ≤ x.1.size := getF_rest _ _
theorem tk_step {k : Nat} {l : List ByteArray} {x x0 y : Wb} (hx : tkB k x0 = (l, x)) (hy : y = tB x) : tkB (k + 1) x0 = (l ++ [(textF x.1).1], y) := by
  show ((tkB k x0).1 ++ [(textF (tkB k x0).2.1).1], tB (tkB k x0).2) = _
  rw [hx, hy]
theorem rgy_3 {s : ByteArray} {x : Wb} {m : Nat} (hx : x = rep3 s) (hm : m = repN s) (h : ¬ x.2 = none ∨ ¬ m ≤ x.1.size ∨ ¬ s.size ≤ 2000) : repGet s = repBad := by
  unfold repGet; rw [← hx, ← hm, if_neg]
  rintro ⟨q1, q2, q3⟩
  rcases h with h | h | h
  · exact h q1
  · exact h q2
  · exact h q3
theorem rgy_6 {s : ByteArray} {x y z : Wb} {m : Nat} {l : List ByteArray} (hx : x = rep3 s) (hm : m = repN s) (h1 : x.2 = none) (h2 : m ≤ x.1.size) (h3 : s.size ≤ 2000) (ht : tkB (getF 1 (x.1.extract m x.1.size)).1 (gB 1 (x.1.extract m x.1.size, x.2)) = (l, y)) (hz : z = lB y) (h : ¬ z.2 = none ∨ ¬ z.1 = ⟨#[]⟩) : repGet s = repBad := by
  have ht' : repT s = (l, y) := by unfold repT rep4; rw [← hx, ← hm]; exact ht
  unfold repGet; rw [← hx, ← hm, if_pos ⟨h1, h2, h3⟩, ht', if_neg]
  rw [← hz]
  rintro ⟨q1, q2⟩
  rcases h with h | h
  · exact h q1
  · exact h q2
theorem rgy_ok {s : ByteArray} {u x y z : Wb} {m : Nat} {l : List ByteArray} (hu : u = gB 2 (s, none)) (hx : x = rep3 s) (hm : m = repN s) (h1 : x.2 = none) (h2 : m ≤ x.1.size) (h3 : s.size ≤ 2000) (ht : tkB (getF 1 (x.1.extract m x.1.size)).1 (gB 1 (x.1.extract m x.1.size, x.2)) = (l, y)) (hz : z = lB y) (h4 : z.2 = none) (h5 : z.1 = ⟨#[]⟩) : repGet s = (((getF 2 s).1 : Int), ((getF 4 u.1).1 : Int), x.1.extract 0 m, l, (labGet y.1).1, 0) := by
  have ht' : repT s = (l, y) := by unfold repT rep4; rw [← hx, ← hm]; exact ht
  unfold repGet; rw [← hu, ← hx, ← hm, if_pos ⟨h1, h2, h3⟩, ht', if_pos]
  rw [← hz]; exact ⟨h4, h5⟩
theorem tk_fin {M k : Nat} {y y' : Wb} {p : List ByteArray × Wb} (h : tkB k y = p) (hy : y = y') (hM : M = k) : tkB M y' = p := by rw [hM, ← hy]; exact h
def repEq (e n : Int) (d : ByteArray) (l : List ByteArray) (a : Lab) (e' n' : Int) (d' : ByteArray) (l' : List ByteArray) (a' : Lab) : Prop := e = e' ∧ n = n' ∧ d = d' ∧ l = l' ∧ a = a'
instance (e n : Int) (d : ByteArray) (l : List ByteArray) (a : Lab) (e' n' : Int) (d' : ByteArray) (l' : List ByteArray) (a' : Lab) : Decidable (repEq e n d l a e' n' d' l' a') := by unfold repEq; infer_instance
theorem eqs_step {l r : List ByteArray} {k : Nat} {x y : ByteArray} (h : l.take k = r.take k) (hx : l[k]? = some x) (hy : r[k]? = some y) (e : x = y) : l.take (k + 1) = r.take (k + 1) := by
  rw [List.take_add_one, List.take_add_one, hx, hy, h, e]
theorem eqs_end {l r : List ByteArray} {k : Nat} (h : l.take k = r.take k) (ha : l.length ≤ k) (hb : r.length ≤ k) : l = r := by
  rwa [List.take_of_length_le ha, List.take_of_length_le hb] at h
theorem eqs_not {l r : List ByteArray} {k : Nat} {x y : ByteArray} (hx : l[k]? = some x) (hy : r[k]? = some y) (e : ¬ x = y) : ¬ l = r := fun h => by
  subst h; rw [hx] at hy; exact e (Option.some.inj hy)
theorem eqs_len {l r : List ByteArray} (h : ¬ (l.length : Int) = (r.length : Int)) : ¬ l = r := fun e => h (by rw [e])
theorem gnumY_ (b : Nat) (r : ByteArray) (q : Ec) (w : Int) (ea : Addr) (em : Addr) (ef : Addr) (el : Addr) (h12 : ea ≠ em) (h13 : ea ≠ ef) (h23 : em ≠ ef) (hr : r.size ≤ 100000) (hw : w ≤ 4) : Con Tryz.prog 29 [.pointer (some ⟨b, 0, none⟩), .int .i64 w] [pt b [.string r, cwV q] 50] [cellsAt 2 0 [.iface 180 (.pointer (some ea))], cellsAt 3 0 [.iface 180 (.pointer (some em))], cellsAt 1 0 [.iface 180 (.pointer (some ef))], errAt ea, errAt em, errAt ef, cellsAt 4 0 [.iface 180 (.pointer (some el))], errAt el, cellsAt 0 0 [.iface 147 (.agg #[.pointer (some ⟨5, 48, none⟩)])]] (fun v L' I' => ∃ y : Wb, (y = gB w (r, q)) ∧ (y.1.size ≤ r.size) ∧ v = .int .i64 ((getF w r).1 : Int) ∧ L' = [pt b [.string y.1, cwV y.2] 50] ∧ I' = []) :=
  (btakeNumber_ b r q w ea em ef el h12 h13 h23 hr hw).mono (fun v L' I' h => by
    obtain ⟨rfl, rfl, rfl⟩ := h
    exact ⟨gB w (r, q), rfl, gB_rest _ _, rfl, rfl, rfl⟩)
theorem gtxtY_ (b : Nat) (r : ByteArray) (q : Ec) (ea : Addr) (em : Addr) (ef : Addr) (el : Addr) (h12 : ea ≠ em) (h13 : ea ≠ ef) (h23 : em ≠ ef) (hr : r.size ≤ 100000) : Con Tryz.prog 37 [.pointer (some ⟨b, 0, none⟩)] [pt b [.string r, cwV q] 50] [cellsAt 2 0 [.iface 180 (.pointer (some ea))], cellsAt 3 0 [.iface 180 (.pointer (some em))], cellsAt 1 0 [.iface 180 (.pointer (some ef))], errAt ea, errAt em, errAt ef, cellsAt 4 0 [.iface 180 (.pointer (some el))], errAt el, cellsAt 0 0 [.iface 147 (.agg #[.pointer (some ⟨5, 48, none⟩)])]] (fun v L' I' => ∃ y : Wb, (y = tB (r, q)) ∧ (y.1.size ≤ r.size) ∧ v = .string ((textF r).1) ∧ L' = [pt b [.string y.1, cwV y.2] 50] ∧ I' = []) :=
  (btakeText_ b r q ea em ef el h12 h13 h23 hr).mono (fun v L' I' h => by
    obtain ⟨rfl, rfl, rfl⟩ := h
    exact ⟨tB (r, q), rfl, textF_rst _, rfl, rfl, rfl⟩)
theorem glabY_ (b : Nat) (r : ByteArray) (q : Ec) (ea : Addr) (em : Addr) (ef : Addr) (el : Addr) (h12 : ea ≠ em) (h13 : ea ≠ ef) (h23 : em ≠ ef) (hr : r.size ≤ 100000) : Con Tryz.prog 38 [.pointer (some ⟨b, 0, none⟩)] [pt b [.string r, cwV q] 50] [cellsAt 2 0 [.iface 180 (.pointer (some ea))], cellsAt 3 0 [.iface 180 (.pointer (some em))], cellsAt 1 0 [.iface 180 (.pointer (some ef))], errAt ea, errAt em, errAt ef, cellsAt 4 0 [.iface 180 (.pointer (some el))], errAt el, cellsAt 0 0 [.iface 147 (.agg #[.pointer (some ⟨5, 48, none⟩)])]] (fun v L' I' => ∃ y : Wb, (y = lB (r, q)) ∧ (y.1.size ≤ r.size) ∧ v = .agg #[.int .i64 (((labGet r).1).lv), .int .u64 (((labGet r).1).cs : Int), .int .i64 (((labGet r).1).ig)] ∧ L' = [pt b [.string y.1, cwV y.2] 50] ∧ I' = []) :=
  (btakeLabel_ b r q ea em ef el h12 h13 h23 hr).mono (fun v L' I' h => by
    obtain ⟨rfl, rfl, rfl⟩ := h
    exact ⟨lB (r, q), rfl, labGet_size _, rfl, rfl, rfl⟩)
theorem repGet_ (s : ByteArray) (ea : Addr) (em : Addr) (ef : Addr) (el : Addr) (h12 : ea ≠ em) (h13 : ea ≠ ef) (h23 : em ≠ ef) (hs : s.size ≤ 100000) : Con Tryz.prog 17 [.string s] [] [cellsAt 2 0 [.iface 180 (.pointer (some ea))], cellsAt 3 0 [.iface 180 (.pointer (some em))], cellsAt 1 0 [.iface 180 (.pointer (some ef))], errAt ea, errAt em, errAt ef, cellsAt 4 0 [.iface 180 (.pointer (some el))], errAt el, cellsAt 0 0 [.iface 147 (.agg #[.pointer (some ⟨5, 48, none⟩)])]] (fun v L' I' => ∃ A1 : Option Addr, ∃ c1 : Nat, v = .tuple #[.agg #[.int .i64 ((repGet s).1), .int .i64 ((repGet s).2.1), .string ((repGet s).2.2.1), .slice A1 ((repGet s).2.2.2.1).length c1, .int .i64 (((repGet s).2.2.2.2.1).lv), .int .u64 (((repGet s).2.2.2.2.1).cs : Int), .int .i64 (((repGet s).2.2.2.2.1).ig)], .int .i64 ((repGet s).2.2.2.2.2)] ∧ L' = [win strTy 9 A1 c1 ((repGet s).2.2.2.1)] ∧ I' = []) := by
 have z0 : (⟨#[]⟩ : ByteArray).size = 0 := rfl
 refine fn_of Tryz.func17 rfl Tryz.ntmps17 (by kernel_rfl) rfl (fun C => ?_)
 refine c_seq (c_region ?_)
 refine st rfl (o_box (cs := [.int .i64 0, .int .i64 0, .string (⟨#[]⟩ : ByteArray), .slice none 0 0, .int .i64 0, .int .u64 0, .int .i64 0]) (T := 39) rfl rfl rfl rfl (fun _ => by kernel_rfl) (fun b1 => ?_))
 refine s_y rfl (v := .int .i64 0) (y_as rfl) rfl ?_
 refine s_nil (q_then (c_seq (c_region ?_)))
 refine s_y rfl (v := .string s) (y_mv rfl) rfl ?_
 refine s_y rfl (v := .agg #[.string s, .nilIface]) (y_k rfl rfl (fun _ => by kernel_rfl)) rfl ?_
 refine st rfl (o_box (cs := [.string s, .nilIface]) (T := 50) rfl rfl rfl rfl (fun _ => by kernel_rfl) (fun b2 => ?_))
 refine s_y rfl (v := .pointer (some ⟨b2, 0, none⟩)) (y_as rfl) rfl ?_
 refine s_nil (q_then (c_seq (c_region ?_)))
 refine s_y rfl (v := .pointer (some ⟨b2, 0, none⟩)) (y_mv rfl) rfl ?_
 show Ent _ _ _ _ [pt b2 [.string s, cwV none] 50, pt b1 [.int .i64 0, .int .i64 0, .string (⟨#[]⟩ : ByteArray), .slice none 0 0, .int .i64 0, .int .u64 0, .int .i64 0] 39] _ _
 refine st rfl (o_call [0] [0, 1, 2, 3, 4, 5, 6, 7, 8] (gnumY_ b2 s none (2 : Int) ea em ef el (by assumption) (by assumption) (by assumption) (by first | omega | (rw [ByteArray.size_extract]; omega)) (by omega)) rfl rfl rfl rfl rfl rfl (fun v L' I' hq1 => ?_))
 obtain ⟨y1, h24, h25, rfl, rfl, rfl⟩ := hq1
 refine s_y rfl (v := .pointer (some ⟨b2, 0, none⟩)) (y_mv rfl) rfl ?_
 refine st rfl (o_call [0] [0, 1, 2, 3, 4, 5, 6, 7, 8] (gnumY_ b2 y1.1 y1.2 (4 : Int) ea em ef el (by assumption) (by assumption) (by assumption) (by first | omega | (rw [ByteArray.size_extract]; omega)) (by omega)) rfl rfl rfl rfl rfl rfl (fun v L' I' hq2 => ?_))
 obtain ⟨y2, h26, h27, rfl, rfl, rfl⟩ := hq2
 refine s_y rfl (v := .agg #[.int .i64 ((getF (2 : Int) s).1 : Int), .int .i64 ((getF (4 : Int) y1.1).1 : Int), .string (⟨#[]⟩ : ByteArray), .slice none 0 0, .int .i64 0, .int .u64 0, .int .i64 0]) (y_k rfl rfl (fun _ => by kernel_rfl)) rfl ?_
 refine st rfl (o_box (cs := [.int .i64 0, .int .i64 0, .string (⟨#[]⟩ : ByteArray), .slice none 0 0, .int .i64 0, .int .u64 0, .int .i64 0]) (T := 39) rfl rfl rfl rfl (fun _ => by kernel_rfl) (fun b3 => ?_))
 refine st rfl (o_st 0 rfl rfl rfl rfl rfl (by kernel_rfl) (by kernel_rfl) rfl ?_)
 refine s_nil (q_then (c_seq (c_region ?_)))
 refine s_y rfl (v := .pointer (some ⟨b2, 0, none⟩)) (y_mv rfl) rfl ?_
 refine st rfl (o_call [1] [0, 1, 2, 3, 4, 5, 6, 7, 8] (gnumY_ b2 y2.1 y2.2 (2 : Int) ea em ef el (by assumption) (by assumption) (by assumption) (by first | omega | (rw [ByteArray.size_extract]; omega)) (by omega)) rfl rfl rfl rfl rfl rfl (fun v L' I' hq3 => ?_))
 obtain ⟨y3, h28, h29, rfl, rfl, rfl⟩ := hq3
 refine s_y rfl (v := .int .i64 ((getF (2 : Int) y2.1).1 : Int)) (y_as rfl) rfl ?_
 refine s_nil (q_then (c_seq (c_seq (c_region ?_))))
 refine s_y rfl (v := .pointer (some ⟨b2, 0, none⟩)) (y_mv rfl) rfl ?_
 refine s_y rfl (v := .pointer (some ⟨b2, 0, none⟩)) (y_k rfl rfl (fun _ => by kernel_rfl)) rfl ?_
 refine s_y rfl (v := .pointer (some ⟨b2, 1, none⟩)) (y_k rfl rfl (fun _ => by kernel_rfl)) rfl ?_
 refine st rfl (o_ld 0 rfl rfl rfl Tryz.underlying48 rfl rfl ?_)
 refine e_by (y3.2 = none) (fun h30 => ?_) (fun h30 => ?_)
 ·
  refine s_y rfl (v := .bool false) (y_nt (y_bin rfl rfl (fun w => cw_ne y3.2 _ w)) h30) rfl ?_
  refine s_y rfl (v := .bool false) (y_mv rfl) rfl ?_
  refine st_on 22 rfl rfl rfl (o_y (v := .int .i64 ((getF (2 : Int) y2.1).1 : Int)) (y_mv rfl) rfl rfl rfl ?_)
  refine st_on 22 rfl rfl rfl (o_y (v := .pointer (some ⟨b2, 0, none⟩)) (y_mv rfl) rfl rfl rfl ?_)
  refine st_on 22 rfl rfl rfl (o_y (v := .pointer (some ⟨b2, 0, none⟩)) (y_k rfl rfl (fun _ => by kernel_rfl)) rfl rfl rfl ?_)
  refine st_on 22 rfl rfl rfl (o_y (v := .pointer (some ⟨b2, 0, none⟩)) (y_k rfl rfl (fun _ => by kernel_rfl)) rfl rfl rfl ?_)
  refine st_on 22 rfl rfl rfl (o_ld 0 rfl rfl rfl Tryz.underlying9 rfl rfl ?_)
  refine st_on 22 rfl rfl rfl (o_y (v := .int .i64 (y3.1.size : Int)) (y_k rfl rfl (fun _ => by kernel_rfl)) rfl rfl rfl ?_)
  refine e_by (((getF (2 : Int) y2.1).1 : Int) > (y3.1.size : Int)) (fun h31 => ?_) (fun h31 => ?_)
  ·
   refine st_on 22 rfl rfl rfl (o_y (v := .bool true) (y_t (y_k (v := .bool (decide (((getF (2 : Int) y2.1).1 : Int) > (y3.1.size : Int)))) rfl rfl (fun _ => by kernel_rfl)) h31) rfl rfl rfl ?_)
   refine s_y rfl (v := .bool true) (y_pick rfl rfl) rfl ?_
   refine s_y rfl (v := .bool true) (y_mv rfl) rfl ?_
   refine st_off 31 rfl rfl rfl rfl rfl rfl ?_
   refine st_off 31 rfl rfl rfl rfl rfl rfl ?_
   refine st_off 31 rfl rfl rfl rfl rfl rfl ?_
   refine s_y rfl (v := .bool true) (y_pick rfl rfl) rfl ?_
   refine s_nil (q_then (c_true rfl (c_seq (c_region ?_))))
   refine s_y rfl (v := .agg #[.int .i64 0, .int .i64 0, .string (⟨#[]⟩ : ByteArray), .slice none 0 0, .int .i64 0, .int .u64 0, .int .i64 0]) (y_k rfl rfl (fun _ => by kernel_rfl)) rfl ?_
   refine s_y rfl (v := .agg #[.int .i64 0]) (y_k rfl rfl (fun _ => by kernel_rfl)) rfl ?_
   refine s_y rfl (v := .iface 64 (.agg #[.int .i64 0])) (y_k rfl rfl (fun _ => by kernel_rfl)) rfl ?_
   refine st rfl (o_call [] [8] (ctold_ (0 : Int) (171 : Int)) rfl rfl rfl rfl rfl rfl (fun v L' I' hq4 => ?_))
   obtain ⟨rfl, rfl, rfl⟩ := hq4
   refine st rfl (o_st 2 rfl rfl rfl rfl rfl (by kernel_rfl) (by kernel_rfl) rfl ?_)
   refine s_y rfl (v := .int .i64 (171 : Int)) (y_as rfl) rfl ?_
   refine s_nil (q_then (c_ret (q_then_ret ?_)))
   refine e_nil strTy 9 ?_
   refine e_weak 0 rfl (fun _ h => h.win) ?_
   have hp : repGet s = (0, 0, (⟨#[]⟩ : ByteArray), [], (⟨0, 0, 0⟩ : Lab), (171 : Int)) := by exact rgy_3 (show y3 = rep3 s by rw [h28, h26, h24]; rfl) (show (getF 2 y2.1).1 = repN s by rw [h26, h24]; rfl) (by first | exact .inl (by assumption) | exact .inr (.inl (by omega)) | exact .inr (.inr (by omega)))
   refine c_fin (I' := []) [0] [0, 1, 2, 3, 4, 5, 6, 7, 8] rfl (.agg 3 7 rfl rfl rfl rfl Tryz.underlying39 rfl (by kernel_rfl) (by kernel_rfl) (.tmp rfl .nil)) rfl rfl rfl ?_
   rw [hp]
   exact ⟨_, _, rfl, rfl, rfl⟩
  ·
   refine st_on 22 rfl rfl rfl (o_y (v := .bool false) (y_f (y_k (v := .bool (decide (((getF (2 : Int) y2.1).1 : Int) > (y3.1.size : Int)))) rfl rfl (fun _ => by kernel_rfl)) h31) rfl rfl rfl ?_)
   refine s_y rfl (v := .bool false) (y_pick rfl rfl) rfl ?_
   refine s_y rfl (v := .bool false) (y_mv rfl) rfl ?_
   refine st_on 31 rfl rfl rfl (o_y (v := .string s) (y_mv rfl) rfl rfl rfl ?_)
   refine st_on 31 rfl rfl rfl (o_y (v := .int .i64 (s.size : Int)) (y_k rfl rfl (fun _ => by kernel_rfl)) rfl rfl rfl ?_)
   refine e_by ((s.size : Int) > 2000) (fun h32 => ?_) (fun h32 => ?_)
   ·
    refine st_on 31 rfl rfl rfl (o_y (v := .bool true) (y_t (y_k (v := .bool (decide ((s.size : Int) > 2000))) rfl rfl (fun _ => by kernel_rfl)) h32) rfl rfl rfl ?_)
    refine s_y rfl (v := .bool true) (y_pick rfl rfl) rfl ?_
    refine s_nil (q_then (c_true rfl (c_seq (c_region ?_))))
    refine s_y rfl (v := .agg #[.int .i64 0, .int .i64 0, .string (⟨#[]⟩ : ByteArray), .slice none 0 0, .int .i64 0, .int .u64 0, .int .i64 0]) (y_k rfl rfl (fun _ => by kernel_rfl)) rfl ?_
    refine s_y rfl (v := .agg #[.int .i64 0]) (y_k rfl rfl (fun _ => by kernel_rfl)) rfl ?_
    refine s_y rfl (v := .iface 64 (.agg #[.int .i64 0])) (y_k rfl rfl (fun _ => by kernel_rfl)) rfl ?_
    refine st rfl (o_call [] [8] (ctold_ (0 : Int) (171 : Int)) rfl rfl rfl rfl rfl rfl (fun v L' I' hq5 => ?_))
    obtain ⟨rfl, rfl, rfl⟩ := hq5
    refine st rfl (o_st 2 rfl rfl rfl rfl rfl (by kernel_rfl) (by kernel_rfl) rfl ?_)
    refine s_y rfl (v := .int .i64 (171 : Int)) (y_as rfl) rfl ?_
    refine s_nil (q_then (c_ret (q_then_ret ?_)))
    refine e_nil strTy 9 ?_
    refine e_weak 0 rfl (fun _ h => h.win) ?_
    have hp : repGet s = (0, 0, (⟨#[]⟩ : ByteArray), [], (⟨0, 0, 0⟩ : Lab), (171 : Int)) := by exact rgy_3 (show y3 = rep3 s by rw [h28, h26, h24]; rfl) (show (getF 2 y2.1).1 = repN s by rw [h26, h24]; rfl) (by first | exact .inl (by assumption) | exact .inr (.inl (by omega)) | exact .inr (.inr (by omega)))
    refine c_fin (I' := []) [0] [0, 1, 2, 3, 4, 5, 6, 7, 8] rfl (.agg 3 7 rfl rfl rfl rfl Tryz.underlying39 rfl (by kernel_rfl) (by kernel_rfl) (.tmp rfl .nil)) rfl rfl rfl ?_
    rw [hp]
    exact ⟨_, _, rfl, rfl, rfl⟩
   ·
    refine st_on 31 rfl rfl rfl (o_y (v := .bool false) (y_f (y_k (v := .bool (decide ((s.size : Int) > 2000))) rfl rfl (fun _ => by kernel_rfl)) h32) rfl rfl rfl ?_)
    refine s_y rfl (v := .bool false) (y_pick rfl rfl) rfl ?_
    refine s_nil (q_then (c_false rfl (c_skip (q_then (c_seq ?_)))))
    refine c_draw (l := ticked 18 0) [(⟨b2, 0, none⟩, .string y3.1)] [17] (by kernel_rfl) rfl rfl ?_
    refine b_y (i := 0) (v := .pointer (some ⟨b2, 0, none⟩)) (ticked 18 1) rfl rfl (by exact y_mv rfl) ?_
    refine b_y (i := 1) (v := .pointer (some ⟨b2, 0, none⟩)) (ticked 18 3) rfl rfl (by exact y_mv rfl) ?_
    refine b_y (i := 2) (v := .pointer (some ⟨b2, 0, none⟩)) (ticked 18 7) rfl rfl (by exact y_k rfl rfl (fun _ => by kernel_rfl)) ?_
    refine b_y (i := 3) (v := .pointer (some ⟨b2, 0, none⟩)) (ticked 18 15) rfl rfl (by exact y_k rfl rfl (fun _ => by kernel_rfl)) ?_
    refine b_y (i := 5) (v := .int .i64 ((getF (2 : Int) y2.1).1 : Int)) (ticked 18 47) rfl rfl (by exact y_mv rfl) ?_
    refine b_y (i := 7) (v := .pointer (some ⟨b2, 0, none⟩)) (ticked 18 175) rfl rfl (by exact y_mv rfl) ?_
    refine b_y (i := 8) (v := .pointer (some ⟨b2, 0, none⟩)) (ticked 18 431) rfl rfl (by exact y_k rfl rfl (fun _ => by kernel_rfl)) ?_
    refine b_y (i := 9) (v := .pointer (some ⟨b2, 0, none⟩)) (ticked 18 943) rfl rfl (by exact y_k rfl rfl (fun _ => by kernel_rfl)) ?_
    refine b_y (i := 11) (v := .int .i64 ((getF (2 : Int) y2.1).1 : Int)) (ticked 18 2991) rfl rfl (by exact y_mv rfl) ?_
    refine a_held (i := 4) (ticked 18 3007) rfl (by as_aux_lemma => kernel_rfl) rfl rfl rfl (held_pt 0 rfl rfl held_nil) (h_ld 0 rfl rfl Tryz.underlying9 rfl) ?_
    refine b_y (i := 6) (v := .string (y3.1.extract 0 ((getF 2 y2.1).1))) (ticked 18 3071) rfl rfl (by exact y_cuts 0 ((getF 2 y2.1).1) rfl .no (.at ((getF 2 y2.1).1) rfl (rfl)) Tryz.underlying9 (by omega) (by omega)) ?_
    refine b_y (i := 13) (v := .pointer (some ⟨b3, 2, none⟩)) (ticked 18 11263) rfl rfl (by exact y_k rfl rfl (fun _ => by kernel_rfl)) ?_
    refine a_held (i := 10) (ticked 18 12287) rfl (by as_aux_lemma => kernel_rfl) rfl rfl rfl (held_pt 0 rfl rfl held_nil) (h_ld 0 rfl rfl Tryz.underlying9 rfl) ?_
    refine b_y (i := 12) (v := .string (y3.1.extract ((getF 2 y2.1).1) y3.1.size)) (ticked 18 16383) rfl rfl (by exact y_cuts ((getF 2 y2.1).1) y3.1.size rfl (.at ((getF 2 y2.1).1) rfl (rfl)) .no Tryz.underlying9 (by omega) (by omega)) ?_
    refine a_each (rs := [14]) (by as_aux_lemma => kernel_rfl) (.cons (ticked 18 32767) rfl rfl rfl (o_st 1 rfl rfl rfl rfl rfl (by kernel_rfl) (by kernel_rfl) rfl ?_) .nil) (List.cons_ne_nil _ _)
    refine a_and (held_pt 0 rfl rfl held_nil) ?_
    refine b_y (i := 15) (v := .pointer (some ⟨b2, 0, none⟩)) (ticked 18 65535) rfl rfl (by exact y_k rfl rfl (fun _ => by kernel_rfl)) ?_
    refine b_y (i := 16) (v := .pointer (some ⟨b2, 0, none⟩)) (ticked 18 131071) rfl rfl (by exact y_k rfl rfl (fun _ => by kernel_rfl)) ?_
    refine a_each (rs := [17]) (by as_aux_lemma => kernel_rfl) (.last (ticked 18 262143) rfl rfl rfl rfl (o_st 0 rfl rfl rfl rfl rfl (by kernel_rfl) (by kernel_rfl) rfl ?_) .nil) (List.cons_ne_nil _ _)
    refine a_done (by as_aux_lemma => kernel_rfl) ?_
    refine q_then (c_seq (c_seq (c_region ?_)))
    refine s_y rfl (v := .pointer (some ⟨b2, 0, none⟩)) (y_mv rfl) rfl ?_
    refine st rfl (o_call [0] [0, 1, 2, 3, 4, 5, 6, 7, 8] (gnumY_ b2 (y3.1.extract ((getF 2 y2.1).1) y3.1.size) y3.2 (1 : Int) ea em ef el (by assumption) (by assumption) (by assumption) (by first | omega | (rw [ByteArray.size_extract]; omega)) (by omega)) rfl rfl rfl rfl rfl rfl (fun v L' I' hq6 => ?_))
    obtain ⟨y4, h33, h34, rfl, rfl, rfl⟩ := hq6
    refine s_y rfl (v := .int .i64 0) (y_mv rfl) rfl ?_
    refine s_nil (q_then (c_block ?_))
    refine e_nil strTy 9 ?_
    refine c_loopn (ι := Nat × Wb × (Option Addr) × Nat × (List ByteArray)) (fun (k, x, A2, c2, l2) => (k ≤ (getF 1 (y3.1.extract (getF 2 y2.1).1 y3.1.size)).1) ∧ ((getF 1 (y3.1.extract (getF 2 y2.1).1 y3.1.size)).1 < 4294967296) ∧ (tkB k y4 = (l2, x)) ∧ (l2.length = k) ∧ (x.1.size ≤ 100000)) (fun (k, x, A2, c2, l2) => [(2, .pointer (some ⟨b1, 0, none⟩)), (3, .int .i64 0), (4, .pointer (some ⟨b2, 0, none⟩)), (5, .pointer (some ⟨b3, 0, none⟩)), (57, .int .i64 ((getF (1 : Int) (y3.1.extract ((getF 2 y2.1).1) y3.1.size)).1 : Int)), (58, .int .i64 (k : Int))]) (fun (k, x, A2, c2, l2) => [pt b2 [.string x.1, cwV x.2] 50, pt b3 [.int .i64 ((getF (2 : Int) s).1 : Int), .int .i64 ((getF (4 : Int) y1.1).1 : Int), .string (y3.1.extract 0 ((getF 2 y2.1).1)), .slice A2 l2.length c2, .int .i64 0, .int .u64 0, .int .i64 0] 39, pt b1 [.int .i64 0, .int .i64 0, .string (⟨#[]⟩ : ByteArray), .slice none 0 0, .int .i64 0, .int .u64 0, .int .i64 0] 39, ars strTy 9 A2 c2 l2]) (fun (k, x, A2, c2, l2) => [cellsAt 2 0 [.iface 180 (.pointer (some ea))], cellsAt 3 0 [.iface 180 (.pointer (some em))], cellsAt 1 0 [.iface 180 (.pointer (some ef))], errAt ea, errAt em, errAt ef, cellsAt 4 0 [.iface 180 (.pointer (some el))], errAt el, cellsAt 0 0 [.iface 147 (.agg #[.pointer (some ⟨5, 48, none⟩)])]]) (fun (k, x, A2, c2, l2) => (getF 1 (y3.1.extract (getF 2 y2.1).1 y3.1.size)).1 - k) (0, y4, none, 0, []) [1, 1, 1, 0] [0, 1, 2, 3, 4, 5, 6, 7, 8] (show (0 ≤ (getF 1 (y3.1.extract (getF 2 y2.1).1 y3.1.size)).1) ∧ ((getF 1 (y3.1.extract (getF 2 y2.1).1 y3.1.size)).1 < 4294967296) ∧ (tkB 0 y4 = ([], y4)) ∧ ([].length = 0) ∧ (y4.1.size ≤ 100000) from ⟨by first | omega | simp_all | (simp; done), getF_small (by decide), rfl, rfl, by have := z0; first | omega | (simp only [ByteArray.size_extract] at *; omega)⟩) ((.cons rfl rfl (.cons rfl rfl (.cons rfl rfl (.cons rfl rfl (.cons rfl rfl (.cons rfl rfl .nil))))))) rfl rfl ?_
    rintro ⟨k, x, A2, c2, l2⟩ ⟨hk, hM, hx, hal, hz⟩
    show Ent 88 C [(2, .pointer (some ⟨b1, 0, none⟩)), (3, .int .i64 0), (4, .pointer (some ⟨b2, 0, none⟩)), (5, .pointer (some ⟨b3, 0, none⟩)), (57, .int .i64 ((getF (1 : Int) (y3.1.extract ((getF 2 y2.1).1) y3.1.size)).1 : Int)), (58, .int .i64 (k : Int))] [] [pt b2 [.string x.1, cwV x.2] 50, pt b3 [.int .i64 ((getF (2 : Int) s).1 : Int), .int .i64 ((getF (4 : Int) y1.1).1 : Int), .string (y3.1.extract 0 ((getF 2 y2.1).1)), .slice A2 l2.length c2, .int .i64 0, .int .u64 0, .int .i64 0] 39, pt b1 [.int .i64 0, .int .i64 0, .string (⟨#[]⟩ : ByteArray), .slice none 0 0, .int .i64 0, .int .u64 0, .int .i64 0] 39, ars strTy 9 A2 c2 l2] [cellsAt 2 0 [.iface 180 (.pointer (some ea))], cellsAt 3 0 [.iface 180 (.pointer (some em))], cellsAt 1 0 [.iface 180 (.pointer (some ef))], errAt ea, errAt em, errAt ef, cellsAt 4 0 [.iface 180 (.pointer (some el))], errAt el, cellsAt 0 0 [.iface 147 (.agg #[.pointer (some ⟨5, 48, none⟩)])]] _
    refine c_seq (c_region ?_)
    refine e_by ((k : Int) < ((getF (1 : Int) (y3.1.extract ((getF 2 y2.1).1) y3.1.size)).1 : Int)) (fun h35 => ?_) (fun h35 => ?_)
    ·
     refine s_y rfl (v := .bool true) (y_t (y_k (v := .bool (decide ((k : Int) < ((getF (1 : Int) (y3.1.extract ((getF 2 y2.1).1) y3.1.size)).1 : Int)))) rfl rfl (fun _ => by kernel_rfl)) h35) rfl ?_
     refine s_nil (q_then (c_seq (c_true rfl (c_skip (q_then (c_seq (c_block ?_)))))))
     refine c_draw (l := ticked 8 0) [(⟨b3, 3, none⟩, .slice A2 l2.length c2)] [7] (by kernel_rfl) rfl rfl ?_
     refine b_y (i := 0) (v := .pointer (some ⟨b3, 3, none⟩)) (ticked 8 1) rfl rfl (by exact y_k rfl rfl (fun _ => by kernel_rfl)) ?_
     refine b_y (i := 2) (v := .pointer (some ⟨b2, 0, none⟩)) (ticked 8 5) rfl rfl (by exact y_mv rfl) ?_
     refine a_held (i := 1) (ticked 8 7) rfl (by as_aux_lemma => kernel_rfl) rfl rfl rfl (held_pt 1 rfl rfl held_nil) (h_ld 0 rfl rfl Tryz.underlying37 rfl) ?_
     refine a_each (rs := [3]) (by as_aux_lemma => kernel_rfl) (.cons (ticked 8 15) rfl rfl rfl (o_call [0] [0, 1, 2, 3, 4, 5, 6, 7, 8] (gtxtY_ b2 x.1 x.2 ea em ef el (by assumption) (by assumption) (by assumption) (by first | omega | (rw [ByteArray.size_extract]; omega))) rfl rfl rfl rfl rfl rfl (fun v L' I' hq7 => ?_)) .nil) (List.cons_ne_nil _ _)
     obtain ⟨y5, h36, h37, rfl, rfl, rfl⟩ := hq7
     refine a_and (held_pt 1 rfl rfl held_nil) ?_
     refine a_each (rs := [4]) (by as_aux_lemma => kernel_rfl) (.cons (ticked 8 31) rfl rfl rfl (o_lit (cs := [.string ((textF x.1).1)]) (T := 9) (m := 1) rfl rfl rfl rfl (fun _ => by kernel_rfl) (fun b4 => ?_)) .nil) (List.cons_ne_nil _ _)
     refine a_and (held_pt 2 rfl rfl held_nil) ?_
     refine a_each (rs := [5]) (by as_aux_lemma => kernel_rfl) (.cons (ticked 8 63) rfl rfl rfl (o_app (l := l2) (us := [(textF x.1).1]) 4 rfl rfl rfl rfl rfl (src_pt 0 rfl) Tryz.underlying37 (elem_of (z := .string (⟨#[]⟩ : ByteArray)) (sz := 1) (bytes := 16) (by kernel_rfl) rfl) rfl (by simp only [List.length_cons, List.length_nil]; omega) rfl rfl (fun A1 c1 => ?_)) .nil) (List.cons_ne_nil _ _)
     refine a_and (held_pt 2 rfl rfl held_nil) ?_
     refine b_y (i := 6) (v := .pointer (some ⟨b3, 3, none⟩)) (ticked 8 127) rfl rfl (by exact y_k rfl rfl (fun _ => by kernel_rfl)) ?_
     refine a_each (rs := [7]) (by as_aux_lemma => kernel_rfl) (.last (ticked 8 255) rfl rfl rfl rfl (o_st 2 rfl rfl rfl rfl rfl (by kernel_rfl) (by kernel_rfl) rfl ?_) .nil) (List.cons_ne_nil _ _)
     refine a_done (by as_aux_lemma => kernel_rfl) ?_
     refine q_block (q_then (c_region ?_))
     refine s_y rfl (v := .int .i64 ((k : Int) + 1)) (y_add (r := (k : Int) + 1) rfl rfl rfl (by omega)) rfl ?_
     refine s_y rfl (v := .int .i64 ((k : Int) + 1)) (y_mv rfl) rfl ?_
     refine s_nil (q_then ?_)
     refine c_next [1, 1, 1, 1] [0, 1, 2, 3, 4, 5, 6, 7, 8] (k + 1, y5, A1, c1, l2 ++ [(textF x.1).1]) ?_ ?_ ?_ (by rfl) (by rfl)
     · exact (show ((k + 1) ≤ (getF 1 (y3.1.extract (getF 2 y2.1).1 y3.1.size)).1) ∧ ((getF 1 (y3.1.extract (getF 2 y2.1).1 y3.1.size)).1 < 4294967296) ∧ (tkB (k + 1) y4 = ((l2 ++ [(textF x.1).1]), y5)) ∧ ((l2 ++ [(textF x.1).1]).length = (k + 1)) ∧ (y5.1.size ≤ 100000) from ⟨by first | omega | simp_all | (simp; done), by first | omega | simp_all | (simp; done), tk_step hx h36, by rw [List.length_append, List.length_singleton, hal], by omega⟩)
     · show (getF 1 (y3.1.extract (getF 2 y2.1).1 y3.1.size)).1 - (k + 1) < (getF 1 (y3.1.extract (getF 2 y2.1).1 y3.1.size)).1 - k; omega
     · exact (.cons rfl rfl (.cons rfl rfl (.cons rfl rfl (.cons rfl rfl (.cons rfl rfl (.cons rfl (show (.int .i64 ((k : Int) + 1) : Value) = .int .i64 ((k + 1) : Int) from by first | rfl | (congr 1; omega) | (congr 1; simp; done) | (congr 1; simp; omega)) .nil))))))
    ·
     refine s_y rfl (v := .bool false) (y_f (y_k (v := .bool (decide ((k : Int) < ((getF (1 : Int) (y3.1.extract ((getF 2 y2.1).1) y3.1.size)).1 : Int)))) rfl rfl (fun _ => by kernel_rfl)) h35) rfl ?_
     refine s_nil (q_then (c_seq (c_false rfl ?_)))
     refine c_exit ?_
     refine q_then_exit ?_
     refine q_then_exit ?_
     refine q_block_here ?_
     refine q_then (c_seq (c_region ?_))
     refine s_y rfl (v := .pointer (some ⟨b2, 0, none⟩)) (y_mv rfl) rfl ?_
     refine st rfl (o_call [0] [0, 1, 2, 3, 4, 5, 6, 7, 8] (glabY_ b2 x.1 x.2 ea em ef el (by assumption) (by assumption) (by assumption) (by first | omega | (rw [ByteArray.size_extract]; omega))) rfl rfl rfl rfl rfl rfl (fun v L' I' hq8 => ?_))
     obtain ⟨y6, h38, h39, rfl, rfl, rfl⟩ := hq8
     refine s_y rfl (v := .pointer (some ⟨b3, 4, none⟩)) (y_k rfl rfl (fun _ => by kernel_rfl)) rfl ?_
     refine st rfl (o_st 1 rfl rfl rfl rfl rfl (by kernel_rfl) (by kernel_rfl) rfl ?_)
     refine s_nil (q_then (c_seq (c_seq (c_region ?_))))
     refine s_y rfl (v := .pointer (some ⟨b2, 0, none⟩)) (y_mv rfl) rfl ?_
     refine s_y rfl (v := .pointer (some ⟨b2, 0, none⟩)) (y_k rfl rfl (fun _ => by kernel_rfl)) rfl ?_
     refine s_y rfl (v := .pointer (some ⟨b2, 1, none⟩)) (y_k rfl rfl (fun _ => by kernel_rfl)) rfl ?_
     refine st rfl (o_ld 0 rfl rfl rfl Tryz.underlying48 rfl rfl ?_)
     refine e_by (y6.2 = none) (fun h40 => ?_) (fun h40 => ?_)
     ·
      refine s_y rfl (v := .bool false) (y_nt (y_bin rfl rfl (fun w => cw_ne y6.2 _ w)) h40) rfl ?_
      refine s_y rfl (v := .bool false) (y_mv rfl) rfl ?_
      refine st_on 76 rfl rfl rfl (o_y (v := .pointer (some ⟨b2, 0, none⟩)) (y_mv rfl) rfl rfl rfl ?_)
      refine st_on 76 rfl rfl rfl (o_y (v := .pointer (some ⟨b2, 0, none⟩)) (y_k rfl rfl (fun _ => by kernel_rfl)) rfl rfl rfl ?_)
      refine st_on 76 rfl rfl rfl (o_y (v := .pointer (some ⟨b2, 0, none⟩)) (y_k rfl rfl (fun _ => by kernel_rfl)) rfl rfl rfl ?_)
      refine st_on 76 rfl rfl rfl (o_ld 0 rfl rfl rfl Tryz.underlying9 rfl rfl ?_)
      refine e_by (y6.1 = (⟨#[]⟩ : ByteArray)) (fun h41 => ?_) (fun h41 => ?_)
      ·
       refine st_on 76 rfl rfl rfl (o_y (v := .bool false) (y_b (y_k (v := .bool (!(y6.1.toList == (⟨#[]⟩ : ByteArray).toList))) rfl rfl (fun _ => by kernel_rfl)) (str_nt h41)) rfl rfl rfl ?_)
       refine s_y rfl (v := .bool false) (y_pick rfl rfl) rfl ?_
       refine s_nil (q_then (c_false rfl (c_skip (q_then (c_seq (c_region ?_))))))
       refine st rfl (o_ldn 1 7 rfl rfl rfl rfl Tryz.underlying39 rfl (by kernel_rfl) (by kernel_rfl) rfl ?_)
       refine st rfl (o_st 2 rfl rfl rfl rfl rfl (by kernel_rfl) (by kernel_rfl) rfl ?_)
       refine s_y rfl (v := .int .i64 0) (y_as rfl) rfl ?_
       refine s_nil (q_then (c_ret ?_))
       refine e_weak 3 rfl (fun _ h => h.win) ?_
       have hp : repGet s = (((getF (2 : Int) s).1 : Int), ((getF (4 : Int) y1.1).1 : Int), y3.1.extract 0 ((getF 2 y2.1).1), l2, (labGet x.1).1, 0) := by first | exact rgy_ok h24 (show y3 = rep3 s by rw [h28, h26, h24]; rfl) (show (getF 2 y2.1).1 = repN s by rw [h26, h24]; rfl) (by assumption) (by omega) (by omega) (tk_fin hx h33 (by omega)) h38 (by assumption) (by assumption) | exact rgy_6 (show y3 = rep3 s by rw [h28, h26, h24]; rfl) (show (getF 2 y2.1).1 = repN s by rw [h26, h24]; rfl) (by assumption) (by omega) (by omega) (tk_fin hx h33 (by omega)) h38 (by first | exact .inl (by assumption) | exact .inr (by assumption))
       refine c_fin (I' := []) [3] [0, 1, 2, 3, 4, 5, 6, 7, 8] rfl (.agg 2 7 rfl rfl rfl rfl Tryz.underlying39 rfl (by kernel_rfl) (by kernel_rfl) (.tmp rfl .nil)) rfl rfl rfl ?_
       rw [hp]
       exact ⟨_, _, rfl, rfl, rfl⟩
      ·
       refine st_on 76 rfl rfl rfl (o_y (v := .bool true) (y_b (y_k (v := .bool (!(y6.1.toList == (⟨#[]⟩ : ByteArray).toList))) rfl rfl (fun _ => by kernel_rfl)) (str_nf h41)) rfl rfl rfl ?_)
       refine s_y rfl (v := .bool true) (y_pick rfl rfl) rfl ?_
       refine s_nil (q_then (c_true rfl (c_seq (c_region ?_))))
       refine s_y rfl (v := .agg #[.int .i64 0, .int .i64 0, .string (⟨#[]⟩ : ByteArray), .slice none 0 0, .int .i64 0, .int .u64 0, .int .i64 0]) (y_k rfl rfl (fun _ => by kernel_rfl)) rfl ?_
       refine s_y rfl (v := .agg #[.int .i64 0]) (y_k rfl rfl (fun _ => by kernel_rfl)) rfl ?_
       refine s_y rfl (v := .iface 64 (.agg #[.int .i64 0])) (y_k rfl rfl (fun _ => by kernel_rfl)) rfl ?_
       refine st rfl (o_call [] [8] (ctold_ (0 : Int) (171 : Int)) rfl rfl rfl rfl rfl rfl (fun v L' I' hq9 => ?_))
       obtain ⟨rfl, rfl, rfl⟩ := hq9
       refine st rfl (o_st 2 rfl rfl rfl rfl rfl (by kernel_rfl) (by kernel_rfl) rfl ?_)
       refine s_y rfl (v := .int .i64 (171 : Int)) (y_as rfl) rfl ?_
       refine s_nil (q_then (c_ret (q_then_ret ?_)))
       refine e_nil strTy 9 ?_
       refine e_weak 0 rfl (fun _ h => h.win) ?_
       have hp : repGet s = (0, 0, (⟨#[]⟩ : ByteArray), [], (⟨0, 0, 0⟩ : Lab), (171 : Int)) := by first | exact rgy_ok h24 (show y3 = rep3 s by rw [h28, h26, h24]; rfl) (show (getF 2 y2.1).1 = repN s by rw [h26, h24]; rfl) (by assumption) (by omega) (by omega) (tk_fin hx h33 (by omega)) h38 (by assumption) (by assumption) | exact rgy_6 (show y3 = rep3 s by rw [h28, h26, h24]; rfl) (show (getF 2 y2.1).1 = repN s by rw [h26, h24]; rfl) (by assumption) (by omega) (by omega) (tk_fin hx h33 (by omega)) h38 (by first | exact .inl (by assumption) | exact .inr (by assumption))
       refine c_fin (I' := []) [0] [0, 1, 2, 3, 4, 5, 6, 7, 8] rfl (.agg 3 7 rfl rfl rfl rfl Tryz.underlying39 rfl (by kernel_rfl) (by kernel_rfl) (.tmp rfl .nil)) rfl rfl rfl ?_
       rw [hp]
       exact ⟨_, _, rfl, rfl, rfl⟩
     ·
      refine s_y rfl (v := .bool true) (y_nf (y_bin rfl rfl (fun w => cw_ne y6.2 _ w)) h40) rfl ?_
      refine s_y rfl (v := .bool true) (y_mv rfl) rfl ?_
      refine st_off 76 rfl rfl rfl rfl rfl rfl ?_
      refine st_off 76 rfl rfl rfl rfl rfl rfl ?_
      refine st_off 76 rfl rfl rfl rfl rfl rfl ?_
      refine st_off 76 rfl rfl rfl rfl rfl rfl ?_
      refine st_off 76 rfl rfl rfl rfl rfl rfl ?_
      refine s_y rfl (v := .bool true) (y_pick rfl rfl) rfl ?_
      refine s_nil (q_then (c_true rfl (c_seq (c_region ?_))))
      refine s_y rfl (v := .agg #[.int .i64 0, .int .i64 0, .string (⟨#[]⟩ : ByteArray), .slice none 0 0, .int .i64 0, .int .u64 0, .int .i64 0]) (y_k rfl rfl (fun _ => by kernel_rfl)) rfl ?_
      refine s_y rfl (v := .agg #[.int .i64 0]) (y_k rfl rfl (fun _ => by kernel_rfl)) rfl ?_
      refine s_y rfl (v := .iface 64 (.agg #[.int .i64 0])) (y_k rfl rfl (fun _ => by kernel_rfl)) rfl ?_
      refine st rfl (o_call [] [8] (ctold_ (0 : Int) (171 : Int)) rfl rfl rfl rfl rfl rfl (fun v L' I' hq10 => ?_))
      obtain ⟨rfl, rfl, rfl⟩ := hq10
      refine st rfl (o_st 2 rfl rfl rfl rfl rfl (by kernel_rfl) (by kernel_rfl) rfl ?_)
      refine s_y rfl (v := .int .i64 (171 : Int)) (y_as rfl) rfl ?_
      refine s_nil (q_then (c_ret (q_then_ret ?_)))
      refine e_nil strTy 9 ?_
      refine e_weak 0 rfl (fun _ h => h.win) ?_
      have hp : repGet s = (0, 0, (⟨#[]⟩ : ByteArray), [], (⟨0, 0, 0⟩ : Lab), (171 : Int)) := by first | exact rgy_ok h24 (show y3 = rep3 s by rw [h28, h26, h24]; rfl) (show (getF 2 y2.1).1 = repN s by rw [h26, h24]; rfl) (by assumption) (by omega) (by omega) (tk_fin hx h33 (by omega)) h38 (by assumption) (by assumption) | exact rgy_6 (show y3 = rep3 s by rw [h28, h26, h24]; rfl) (show (getF 2 y2.1).1 = repN s by rw [h26, h24]; rfl) (by assumption) (by omega) (by omega) (tk_fin hx h33 (by omega)) h38 (by first | exact .inl (by assumption) | exact .inr (by assumption))
      refine c_fin (I' := []) [0] [0, 1, 2, 3, 4, 5, 6, 7, 8] rfl (.agg 3 7 rfl rfl rfl rfl Tryz.underlying39 rfl (by kernel_rfl) (by kernel_rfl) (.tmp rfl .nil)) rfl rfl rfl ?_
      rw [hp]
      exact ⟨_, _, rfl, rfl, rfl⟩
 ·
  refine s_y rfl (v := .bool true) (y_nf (y_bin rfl rfl (fun w => cw_ne y3.2 _ w)) h30) rfl ?_
  refine s_y rfl (v := .bool true) (y_mv rfl) rfl ?_
  refine st_off 22 rfl rfl rfl rfl rfl rfl ?_
  refine st_off 22 rfl rfl rfl rfl rfl rfl ?_
  refine st_off 22 rfl rfl rfl rfl rfl rfl ?_
  refine st_off 22 rfl rfl rfl rfl rfl rfl ?_
  refine st_off 22 rfl rfl rfl rfl rfl rfl ?_
  refine st_off 22 rfl rfl rfl rfl rfl rfl ?_
  refine st_off 22 rfl rfl rfl rfl rfl rfl ?_
  refine s_y rfl (v := .bool true) (y_pick rfl rfl) rfl ?_
  refine s_y rfl (v := .bool true) (y_mv rfl) rfl ?_
  refine st_off 31 rfl rfl rfl rfl rfl rfl ?_
  refine st_off 31 rfl rfl rfl rfl rfl rfl ?_
  refine st_off 31 rfl rfl rfl rfl rfl rfl ?_
  refine s_y rfl (v := .bool true) (y_pick rfl rfl) rfl ?_
  refine s_nil (q_then (c_true rfl (c_seq (c_region ?_))))
  refine s_y rfl (v := .agg #[.int .i64 0, .int .i64 0, .string (⟨#[]⟩ : ByteArray), .slice none 0 0, .int .i64 0, .int .u64 0, .int .i64 0]) (y_k rfl rfl (fun _ => by kernel_rfl)) rfl ?_
  refine s_y rfl (v := .agg #[.int .i64 0]) (y_k rfl rfl (fun _ => by kernel_rfl)) rfl ?_
  refine s_y rfl (v := .iface 64 (.agg #[.int .i64 0])) (y_k rfl rfl (fun _ => by kernel_rfl)) rfl ?_
  refine st rfl (o_call [] [8] (ctold_ (0 : Int) (171 : Int)) rfl rfl rfl rfl rfl rfl (fun v L' I' hq11 => ?_))
  obtain ⟨rfl, rfl, rfl⟩ := hq11
  refine st rfl (o_st 2 rfl rfl rfl rfl rfl (by kernel_rfl) (by kernel_rfl) rfl ?_)
  refine s_y rfl (v := .int .i64 (171 : Int)) (y_as rfl) rfl ?_
  refine s_nil (q_then (c_ret (q_then_ret ?_)))
  refine e_nil strTy 9 ?_
  refine e_weak 0 rfl (fun _ h => h.win) ?_
  have hp : repGet s = (0, 0, (⟨#[]⟩ : ByteArray), [], (⟨0, 0, 0⟩ : Lab), (171 : Int)) := by exact rgy_3 (show y3 = rep3 s by rw [h28, h26, h24]; rfl) (show (getF 2 y2.1).1 = repN s by rw [h26, h24]; rfl) (by first | exact .inl (by assumption) | exact .inr (.inl (by omega)) | exact .inr (.inr (by omega)))
  refine c_fin (I' := []) [0] [0, 1, 2, 3, 4, 5, 6, 7, 8] rfl (.agg 3 7 rfl rfl rfl rfl Tryz.underlying39 rfl (by kernel_rfl) (by kernel_rfl) (.tmp rfl .nil)) rfl rfl rfl ?_
  rw [hp]
  exact ⟨_, _, rfl, rfl, rfl⟩
end Go.Proofs.YtcnncdniibkjkaaGreatDoor
