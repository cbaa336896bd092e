/- The laws of chapter 17 (call), walked over the given program; no condition but what stands in each theorem: part CL. -/
import Derived.Test.YtcnncdniibkjkaaGreatDoorRCJ
set_option linter.unusedVariables false
set_option linter.unusedSimpArgs false
set_option maxRecDepth 100000
set_option maxHeartbeats 8000000
namespace Go.Proofs.YtcnncdniibkjkaaGreatDoor
open Go Go.Sl Go.RowKit Go.Extern.Stop Go.Stop Go.Extern
theorem textF_rst (s : ByteArray) : (textF s).2.1.size ≤ s.size := by
  have h := getF_rest 1 s
  unfold textF
  repeat' split
  all_goals first | exact Nat.zero_le _ | (show (ByteArray.extract _ _ _).size ≤ _; rw [ByteArray.size_extract]; omega)
theorem getC_size (x : Wst) (y : UInt8) : (getC x y).1.size ≤ x.1.size := by
  have a1 := labGet_size x.1
  have a2 := textF_rst x.1
  have a3 := getF_rest 2 x.1
  have a4 := getF_rest 1 x.1
  unfold getC getP
  repeat' split
  all_goals first | exact a1 | exact a2 | exact a3 | exact a4 | exact Nat.le_refl _
def opG (s : ByteArray) : Int := ((getF 1 s).1 : Int)
def getI (s : ByteArray) : Wst := ((getF 1 s).2.1, addQ none (getF 1 s).2.2, ⟨opG s, ⟨0, 0, 0⟩, ⟨#[]⟩, 0, 0, ⟨#[]⟩, 0⟩)
def getX (s : ByteArray) : Wst := getN (lts (signsF (opG s))) (getI s)
def callGet (s : ByteArray) : Cal × Int := if isOp (opG s) ∧ (getX s).2.1 = none ∧ (getX s).1 = ⟨#[]⟩ then ((getX s).2.2, 0) else (cal0, 170)
theorem cg_ok {s : ByteArray} {x : Wst} (hx : x = getN ((lts (signsF (opG s))).take (lts (signsF (opG s))).length) (getI s)) (h1 : isOp (opG s)) (h2 : x.2.1 = none) (h3 : x.1 = ⟨#[]⟩) : callGet s = (x.2.2, 0) := by
  rw [List.take_length] at hx
  have e : getX s = x := hx.symm
  unfold callGet; rw [e, if_pos ⟨h1, h2, h3⟩]
theorem cg_no {s : ByteArray} {x : Wst} (hx : x = getN ((lts (signsF (opG s))).take (lts (signsF (opG s))).length) (getI s)) (h : ¬ isOp (opG s) ∨ ¬ x.2.1 = none ∨ ¬ x.1 = ⟨#[]⟩) : callGet s = (cal0, 170) := by
  rw [List.take_length] at hx
  have e : getX s = x := hx.symm
  unfold callGet; rw [e, if_neg]
  rintro ⟨q1, q2, q3⟩
  rcases h with h | h | h
  · exact h q1
  · exact h q2
  · exact h q3
theorem callGet_ (s : ByteArray) (ea : Addr) (em : Addr) (ef : Addr) (el : Addr) (h12 : ea ≠ em) (h13 : ea ≠ ef) (h23 : em ≠ ef) (hs : s.size ≤ 100000) : Con Tryz.prog 9 [.string s] [] [cellsAt 2 0 [.iface 180 (.pointer (some ea))], cellsAt 3 0 [.iface 180 (.pointer (some em))], cellsAt 1 0 [.iface 180 (.pointer (some ef))], errAt ea, errAt em, errAt ef, cellsAt 4 0 [.iface 180 (.pointer (some el))], errAt el, cellsAt 0 0 [.iface 147 (.agg #[.pointer (some ⟨5, 48, none⟩)])]] (fun v L' I' => v = .tuple #[.agg #[.int .i64 (((callGet s).1).op), .int .i64 (((callGet s).1).lb.lv), .int .u64 (((callGet s).1).lb.cs : Int), .int .i64 (((callGet s).1).lb.ig), .string (((callGet s).1).nm), .int .i64 (((callGet s).1).pl), .int .i64 (((callGet s).1).nn), .string (((callGet s).1).da), .int .i64 (((callGet s).1).id)], .int .i64 ((callGet s).2)] ∧ L' = [] ∧ I' = []) := by
 refine fn_of Tryz.func9 rfl Tryz.ntmps9 (by kernel_rfl) rfl (fun C => ?_)
 refine c_seq (c_region ?_)
 refine st rfl (o_box (cs := [.int .i64 0, .int .i64 0, .int .u64 0, .int .i64 0, .string (⟨#[]⟩ : ByteArray), .int .i64 0, .int .i64 0, .string (⟨#[]⟩ : ByteArray), .int .i64 0]) (T := 26) rfl rfl rfl rfl (fun _ => by kernel_rfl) (fun b1 => ?_))
 refine s_y rfl (v := .int .i64 0) (y_as rfl) rfl ?_
 refine s_nil (q_then (c_seq (c_region ?_)))
 refine s_y rfl (v := .string s) (y_mv rfl) rfl ?_
 refine s_y rfl (v := .agg #[.string s, .nilIface]) (y_k rfl rfl (fun _ => by kernel_rfl)) rfl ?_
 refine s_y rfl (v := .agg #[.string s, .nilIface, .int .i64 0, .int .i64 0, .int .u64 0, .int .i64 0, .string (⟨#[]⟩ : ByteArray), .int .i64 0, .int .i64 0, .string (⟨#[]⟩ : ByteArray), .int .i64 0]) (y_k rfl rfl (fun _ => by kernel_rfl)) rfl ?_
 refine st rfl (o_box (cs := [.string s, .nilIface, .int .i64 0, .int .i64 0, .int .u64 0, .int .i64 0, .string (⟨#[]⟩ : ByteArray), .int .i64 0, .int .i64 0, .string (⟨#[]⟩ : ByteArray), .int .i64 0]) (T := 52) rfl rfl rfl rfl (fun _ => by kernel_rfl) (fun b2 => ?_))
 refine st rfl (o_box (cs := [.pointer none]) (T := 46) rfl rfl rfl rfl (fun _ => by kernel_rfl) (fun b3 => ?_))
 refine st rfl (o_st 0 rfl rfl rfl rfl rfl (by kernel_rfl) (by kernel_rfl) rfl ?_)
 refine s_nil (q_then (c_seq ?_))
 refine c_draw (l := ticked 9 0) [(⟨b3, 0, none⟩, .pointer (some ⟨b2, 0, none⟩))] [] (by kernel_rfl) rfl rfl ?_
 refine a_held (i := 0) (ticked 9 1) rfl (by as_aux_lemma => kernel_rfl) rfl rfl rfl (held_pt 0 rfl rfl held_nil) (h_ld 0 rfl rfl Tryz.underlying46 rfl) ?_
 refine a_held (i := 1) (ticked 9 3) rfl (by as_aux_lemma => kernel_rfl) rfl rfl rfl (held_pt 0 rfl rfl held_nil) (h_ld 0 rfl rfl Tryz.underlying46 rfl) ?_
 refine b_y (i := 2) (v := .pointer (some ⟨b2, 0, none⟩)) (ticked 9 7) rfl rfl (by exact y_k rfl rfl (fun _ => by kernel_rfl)) ?_
 refine b_y (i := 3) (v := .pointer (some ⟨b2, 0, none⟩)) (ticked 9 15) rfl rfl (by exact y_k rfl rfl (fun _ => by kernel_rfl)) ?_
 show Ent _ _ _ _ [pt b3 [.pointer (some ⟨b2, 0, none⟩)] 46, pt b2 [.string s, cwV none, .int .i64 cal0.op, .int .i64 cal0.lb.lv, .int .u64 (cal0.lb.cs : Int), .int .i64 cal0.lb.ig, .string cal0.nm, .int .i64 cal0.pl, .int .i64 cal0.nn, .string cal0.da, .int .i64 cal0.id] 52, pt b1 [.int .i64 0, .int .i64 0, .int .u64 0, .int .i64 0, .string (⟨#[]⟩ : ByteArray), .int .i64 0, .int .i64 0, .string (⟨#[]⟩ : ByteArray), .int .i64 0] 26] _ _
 refine a_each (rs := [4]) (by as_aux_lemma => kernel_rfl) (.cons (ticked 9 31) rfl rfl rfl (o_call [1] [0, 1, 2, 3, 4, 5, 6, 7, 8] (wtakeNumber_ b2 s none cal0 (1 : Int) ea em ef el (by assumption) (by assumption) (by assumption) (by first | omega | assumption | decide) (by omega)) rfl rfl rfl rfl rfl rfl (fun v L' I' hq1 => ?_)) .nil) (List.cons_ne_nil _ _)
 obtain ⟨rfl, rfl, rfl⟩ := hq1
 refine a_and (held_pt 1 rfl rfl held_nil) ?_
 refine b_y (i := 5) (v := .pointer (some ⟨b2, 0, none⟩)) (ticked 9 63) rfl rfl (by exact y_k rfl rfl (fun _ => by kernel_rfl)) ?_
 refine b_y (i := 6) (v := .pointer (some ⟨b2, 2, none⟩)) (ticked 9 127) rfl rfl (by exact y_k rfl rfl (fun _ => by kernel_rfl)) ?_
 refine b_y (i := 7) (v := .pointer (some ⟨b2, 2, none⟩)) (ticked 9 255) rfl rfl (by exact y_k rfl rfl (fun _ => by kernel_rfl)) ?_
 refine a_each (rs := [8]) (by as_aux_lemma => kernel_rfl) (.cons (ticked 9 511) rfl rfl rfl (o_st 0 rfl rfl rfl rfl rfl (by kernel_rfl) (by kernel_rfl) rfl ?_) .nil) (List.cons_ne_nil _ _)
 refine a_and (held_pt 1 rfl rfl held_nil) ?_
 refine a_done (by as_aux_lemma => kernel_rfl) ?_
 refine q_then (c_seq (c_region ?_))
 refine st rfl (o_ld 1 rfl rfl rfl Tryz.underlying46 rfl rfl ?_)
 refine s_y rfl (v := .pointer (some ⟨b2, 0, none⟩)) (y_k rfl rfl (fun _ => by kernel_rfl)) rfl ?_
 refine s_y rfl (v := .pointer (some ⟨b2, 2, none⟩)) (y_k rfl rfl (fun _ => by kernel_rfl)) rfl ?_
 refine s_y rfl (v := .pointer (some ⟨b2, 2, none⟩)) (y_k rfl rfl (fun _ => by kernel_rfl)) rfl ?_
 refine st rfl (o_ld 0 rfl rfl rfl Tryz.underlying3 rfl rfl ?_)
 refine st rfl (o_call [] [] (signs_ ((getF (1 : Int) s).1 : Int)) rfl rfl rfl rfl rfl rfl (fun v L' I' hq2 => ?_))
 obtain ⟨rfl, rfl, rfl⟩ := hq2
 refine s_y rfl (v := .tuple #[.string (signsF ((getF (1 : Int) s).1 : Int)), .bool (decide (isOp ((getF (1 : Int) s).1 : Int)))]) (y_mv rfl) rfl ?_
 refine s_y rfl (v := .string (signsF ((getF (1 : Int) s).1 : Int))) (y_k rfl rfl (fun _ => by kernel_rfl)) rfl ?_
 refine s_y rfl (v := .bool (decide (isOp ((getF (1 : Int) s).1 : Int)))) (y_k rfl rfl (fun _ => by kernel_rfl)) rfl ?_
 refine s_y rfl (v := .string (signsF ((getF (1 : Int) s).1 : Int))) (y_as rfl) rfl ?_
 refine s_y rfl (v := .bool (decide (isOp ((getF (1 : Int) s).1 : Int)))) (y_as rfl) rfl ?_
 refine s_nil (q_then (c_seq (c_seq (c_region ?_))))
 refine s_y rfl (v := .string (signsF ((getF (1 : Int) s).1 : Int))) (y_mv rfl) rfl ?_
 refine st rfl (o_call [] [] (cof_ (signsF ((getF (1 : Int) s).1 : Int))) rfl rfl rfl rfl rfl rfl (fun v L' I' hq3 => ?_))
 obtain ⟨k1, rfl, rfl, rfl⟩ := hq3
 refine s_nil (q_then (c_block ?_))
 show Ent _ _ _ _ [pt k1 [.string (signsF ((getF (1 : Int) s).1 : Int))] 9, pt b2 [.string ((getI s).1), cwV (getI s).2.1, .int .i64 (((getI s).2.2).op), .int .i64 (((getI s).2.2).lb.lv), .int .u64 (((getI s).2.2).lb.cs : Int), .int .i64 (((getI s).2.2).lb.ig), .string (((getI s).2.2).nm), .int .i64 (((getI s).2.2).pl), .int .i64 (((getI s).2.2).nn), .string (((getI s).2.2).da), .int .i64 (((getI s).2.2).id)] 52, pt b3 [.pointer (some ⟨b2, 0, none⟩)] 46, pt b1 [.int .i64 0, .int .i64 0, .int .u64 0, .int .i64 0, .string (⟨#[]⟩ : ByteArray), .int .i64 0, .int .i64 0, .string (⟨#[]⟩ : ByteArray), .int .i64 0] 26] _ _
 refine c_range (xs := (lts (signsF (opG s))).map fun y => [.agg #[putV y, getV y]]) (fun k L I => ∃ x : Wst, (x = getN ((lts (signsF (opG s))).take k) (getI s)) ∧ (x.1.size ≤ 100000) ∧ L = [pt b2 [.string x.1, cwV x.2.1, .int .i64 x.2.2.op, .int .i64 x.2.2.lb.lv, .int .u64 (x.2.2.lb.cs : Int), .int .i64 x.2.2.lb.ig, .string x.2.2.nm, .int .i64 x.2.2.pl, .int .i64 x.2.2.nn, .string x.2.2.da, .int .i64 x.2.2.id] 52, pt b3 [.pointer (some ⟨b2, 0, none⟩)] 46] ∧ I = [cellsAt 2 0 [.iface 180 (.pointer (some ea))], cellsAt 3 0 [.iface 180 (.pointer (some em))], cellsAt 1 0 [.iface 180 (.pointer (some ef))], errAt ea, errAt em, errAt ef, cellsAt 4 0 [.iface 180 (.pointer (some el))], errAt el, cellsAt 0 0 [.iface 147 (.agg #[.pointer (some ⟨5, 48, none⟩)])]]) (fun _ _ _ _ => False) [0, 0, 0] [0, 1, 2, 3, 4, 5, 6, 7, 8] (cof1_ k1 (signsF (opG s)) (signs_let _)) rfl rfl rfl ⟨(getI s), rfl, by have := getF_rest 1 s; show (getF 1 s).2.1.size ≤ 100000; omega, rfl, rfl⟩ (by intro x hx; simp only [List.mem_map] at hx; obtain ⟨_, _, rfl⟩ := hx; rfl) rfl (fun C1 lp1 r1 k2 x1 Lx1 Ix1 hx1 hS1 => ?_) (fun bD1 La1 Lb1 Ib1 hf1 hS1 => ?_) (fun bD1 k2 cc La1 Lb1 Ib1 hk hf1 hX => ?_)
 ·
  obtain ⟨y1, hy1, rfl⟩ : ∃ y, (lts (signsF (opG s)))[k2]? = some y ∧ [.agg #[putV y, getV y]] = x1 := by simpa using hx1
  obtain ⟨x2, h24, h25, rfl, rfl⟩ := hS1
  refine Ent.env (e' := [(0, .string s), (2, .pointer (some ⟨b1, 0, none⟩)), (3, .int .i64 0), (4, .pointer (some ⟨b3, 0, none⟩)), (5, .string (signsF ((getF (1 : Int) s).1 : Int))), (6, .bool (decide (isOp ((getF (1 : Int) s).1 : Int)))), (8, .string s), (9, .agg #[.string s, .nilIface]), (10, .agg #[.string s, .nilIface, .int .i64 0, .int .i64 0, .int .u64 0, .int .i64 0, .string (⟨#[]⟩ : ByteArray), .int .i64 0, .int .i64 0, .string (⟨#[]⟩ : ByteArray), .int .i64 0]), (11, .pointer (some ⟨b2, 0, none⟩)), (12, .pointer (some ⟨b2, 0, none⟩)), (13, .pointer (some ⟨b2, 0, none⟩)), (14, .pointer (some ⟨b2, 0, none⟩)), (15, .pointer (some ⟨b2, 0, none⟩)), (16, .int .i64 ((getF (1 : Int) s).1 : Int)), (17, .pointer (some ⟨b2, 0, none⟩)), (18, .pointer (some ⟨b2, 2, none⟩)), (19, .pointer (some ⟨b2, 2, none⟩)), (20, .tuple #[.string (signsF ((getF (1 : Int) s).1 : Int)), .bool (decide (isOp ((getF (1 : Int) s).1 : Int)))]), (21, .pointer (some ⟨b2, 0, none⟩)), (22, .pointer (some ⟨b2, 0, none⟩)), (23, .pointer (some ⟨b2, 2, none⟩)), (24, .pointer (some ⟨b2, 2, none⟩)), (25, .int .i64 ((getF (1 : Int) s).1 : Int)), (26, .tuple #[.string (signsF ((getF (1 : Int) s).1 : Int)), .bool (decide (isOp ((getF (1 : Int) s).1 : Int)))]), (27, .string (signsF ((getF (1 : Int) s).1 : Int))), (28, .bool (decide (isOp ((getF (1 : Int) s).1 : Int)))), (29, .string (signsF ((getF (1 : Int) s).1 : Int))), (30, .func (.func 46) #[] #[.pointer (some ⟨k1, 0, none⟩)]), (31, .agg #[putV y1, getV y1])]) (.cons rfl rfl (.cons rfl rfl (.cons rfl rfl (.cons rfl rfl (.cons rfl rfl (.cons rfl rfl (.cons rfl rfl (.cons rfl rfl (.cons rfl rfl (.cons rfl rfl (.cons rfl rfl (.cons rfl rfl (.cons rfl rfl (.cons rfl rfl (.cons rfl rfl (.cons rfl rfl (.cons rfl rfl (.cons rfl rfl (.cons rfl rfl (.cons rfl rfl (.cons rfl rfl (.cons rfl rfl (.cons rfl rfl (.cons rfl rfl (.cons rfl rfl (.cons rfl rfl (.cons rfl rfl (.cons rfl rfl (.cons rfl rfl (.cons rfl rfl .nil)))))))))))))))))))))))))))))) ?_
  refine c_region ?_
  refine st rfl (o_box (cs := [.nilFunc, .nilFunc]) (T := 61) rfl rfl rfl rfl (fun _ => by kernel_rfl) (fun b4 => ?_))
  refine st rfl (o_st 0 rfl rfl rfl (cod_cells _) (cod_one _) (by kernel_rfl) (by kernel_rfl) rfl ?_)
  refine s_nil (q_then ?_)
  refine r_begin 1 rfl ?_
  refine c_block (c_region ?_)
  refine s_y rfl (v := .pointer (some ⟨b4, 1, none⟩)) (y_k rfl rfl (fun _ => by kernel_rfl)) rfl ?_
  refine st rfl (o_ld 0 rfl rfl rfl Tryz.underlying59 rfl rfl ?_)
  refine st rfl (o_ld 3 rfl rfl rfl Tryz.underlying46 rfl rfl ?_)
  have hlt_ := (List.getElem?_eq_some_iff.1 hy1).1
  have hle_ : ((lts (signsF (opG s)))).length ≤ 4 := signs_len _
  obtain ⟨f1, hf2, hc1⟩ := get_con (signs_let _ _ (List.mem_of_getElem? hy1)) b2 x2 ea em ef el h12 h13 h23 (by omega)
  rw [hf2]
  refine st rfl (o_call [2] [0, 1, 2, 3, 4, 5, 6, 7, 8] hc1 rfl rfl rfl rfl rfl rfl (fun v L' I' hq4 => ?_))
  obtain ⟨rfl, rfl, rfl⟩ := hq4
  refine s_nil (q_block ?_)
  refine r_end 2 [0, 1] [0, 1, 2, 3, 4, 5, 6, 7, 8] rfl rfl rfl ⟨(getC x2 y1), getN_at h24 hy1, Nat.le_trans (getC_size _ _) h25, rfl, rfl⟩
 ·
  obtain rfl := hf1
  rw [List.length_map] at hS1
  obtain ⟨x3, h26, h27, rfl, rfl⟩ := hS1
  refine Ent.env (e' := [(0, .string s), (2, .pointer (some ⟨b1, 0, none⟩)), (3, .int .i64 0), (4, .pointer (some ⟨b3, 0, none⟩)), (5, .string (signsF ((getF (1 : Int) s).1 : Int))), (6, .bool (decide (isOp ((getF (1 : Int) s).1 : Int)))), (8, .string s), (9, .agg #[.string s, .nilIface]), (10, .agg #[.string s, .nilIface, .int .i64 0, .int .i64 0, .int .u64 0, .int .i64 0, .string (⟨#[]⟩ : ByteArray), .int .i64 0, .int .i64 0, .string (⟨#[]⟩ : ByteArray), .int .i64 0]), (11, .pointer (some ⟨b2, 0, none⟩)), (12, .pointer (some ⟨b2, 0, none⟩)), (13, .pointer (some ⟨b2, 0, none⟩)), (14, .pointer (some ⟨b2, 0, none⟩)), (15, .pointer (some ⟨b2, 0, none⟩)), (16, .int .i64 ((getF (1 : Int) s).1 : Int)), (17, .pointer (some ⟨b2, 0, none⟩)), (18, .pointer (some ⟨b2, 2, none⟩)), (19, .pointer (some ⟨b2, 2, none⟩)), (20, .tuple #[.string (signsF ((getF (1 : Int) s).1 : Int)), .bool (decide (isOp ((getF (1 : Int) s).1 : Int)))]), (21, .pointer (some ⟨b2, 0, none⟩)), (22, .pointer (some ⟨b2, 0, none⟩)), (23, .pointer (some ⟨b2, 2, none⟩)), (24, .pointer (some ⟨b2, 2, none⟩)), (25, .int .i64 ((getF (1 : Int) s).1 : Int)), (26, .tuple #[.string (signsF ((getF (1 : Int) s).1 : Int)), .bool (decide (isOp ((getF (1 : Int) s).1 : Int)))]), (27, .string (signsF ((getF (1 : Int) s).1 : Int))), (28, .bool (decide (isOp ((getF (1 : Int) s).1 : Int)))), (29, .string (signsF ((getF (1 : Int) s).1 : Int))), (30, .func (.func 46) #[] #[.pointer (some ⟨k1, 0, none⟩)])]) (.cons rfl rfl (.cons rfl rfl (.cons rfl rfl (.cons rfl rfl (.cons rfl rfl (.cons rfl rfl (.cons rfl rfl (.cons rfl rfl (.cons rfl rfl (.cons rfl rfl (.cons rfl rfl (.cons rfl rfl (.cons rfl rfl (.cons rfl rfl (.cons rfl rfl (.cons rfl rfl (.cons rfl rfl (.cons rfl rfl (.cons rfl rfl (.cons rfl rfl (.cons rfl rfl (.cons rfl rfl (.cons rfl rfl (.cons rfl rfl (.cons rfl rfl (.cons rfl rfl (.cons rfl rfl (.cons rfl rfl (.cons rfl rfl .nil))))))))))))))))))))))))))))) ?_
  refine q_block (q_then (c_seq (c_seq (c_region ?_))))
  refine s_y rfl (v := .bool (decide (isOp ((getF (1 : Int) s).1 : Int)))) (y_mv rfl) rfl ?_
  refine e_by (isOp ((getF (1 : Int) s).1 : Int)) (fun h28 => ?_) (fun h28 => ?_)
  ·
   refine s_y rfl (v := .bool false) (y_nt (y_not rfl) h28) rfl ?_
   refine s_y rfl (v := .bool false) (y_mv rfl) rfl ?_
   refine st_on 38 rfl rfl rfl (o_ld 3 rfl rfl rfl Tryz.underlying46 rfl rfl ?_)
   refine st_on 38 rfl rfl rfl (o_y (v := .pointer (some ⟨b2, 0, none⟩)) (y_k rfl rfl (fun _ => by kernel_rfl)) rfl rfl rfl ?_)
   refine st_on 38 rfl rfl rfl (o_y (v := .pointer (some ⟨b2, 0, none⟩)) (y_k rfl rfl (fun _ => by kernel_rfl)) rfl rfl rfl ?_)
   refine st_on 38 rfl rfl rfl (o_y (v := .pointer (some ⟨b2, 1, none⟩)) (y_k rfl rfl (fun _ => by kernel_rfl)) rfl rfl rfl ?_)
   refine st_on 38 rfl rfl rfl (o_ld 2 rfl rfl rfl Tryz.underlying48 rfl rfl ?_)
   refine e_by (x3.2.1 = none) (fun h29 => ?_) (fun h29 => ?_)
   ·
    refine st_on 38 rfl rfl rfl (o_y (v := .bool false) (y_nt (y_bin rfl rfl (fun w => cw_ne x3.2.1 _ w)) h29) rfl rfl rfl ?_)
    refine s_y rfl (v := .bool false) (y_pick rfl rfl) rfl ?_
    refine s_y rfl (v := .bool false) (y_mv rfl) rfl ?_
    refine st_on 46 rfl rfl rfl (o_ld 3 rfl rfl rfl Tryz.underlying46 rfl rfl ?_)
    refine st_on 46 rfl rfl rfl (o_y (v := .pointer (some ⟨b2, 0, none⟩)) (y_k rfl rfl (fun _ => by kernel_rfl)) rfl rfl rfl ?_)
    refine st_on 46 rfl rfl rfl (o_y (v := .pointer (some ⟨b2, 0, none⟩)) (y_k rfl rfl (fun _ => by kernel_rfl)) rfl rfl rfl ?_)
    refine st_on 46 rfl rfl rfl (o_y (v := .pointer (some ⟨b2, 0, none⟩)) (y_k rfl rfl (fun _ => by kernel_rfl)) rfl rfl rfl ?_)
    refine st_on 46 rfl rfl rfl (o_ld 2 rfl rfl rfl Tryz.underlying9 rfl rfl ?_)
    refine e_by (x3.1 = (⟨#[]⟩ : ByteArray)) (fun h30 => ?_) (fun h30 => ?_)
    ·
     refine st_on 46 rfl rfl rfl (o_y (v := .bool false) (y_b (y_k (v := .bool (!(x3.1.toList == (⟨#[]⟩ : ByteArray).toList))) rfl rfl (fun _ => by kernel_rfl)) (str_nt h30)) rfl rfl rfl ?_)
     refine s_y rfl (v := .bool false) (y_pick rfl rfl) rfl ?_
     refine s_nil (q_then (c_false rfl (c_skip (q_then (c_seq (c_region ?_))))))
     refine st rfl (o_ld 3 rfl rfl rfl Tryz.underlying46 rfl rfl ?_)
     refine s_y rfl (v := .pointer (some ⟨b2, 0, none⟩)) (y_k rfl rfl (fun _ => by kernel_rfl)) rfl ?_
     refine s_y rfl (v := .pointer (some ⟨b2, 2, none⟩)) (y_k rfl rfl (fun _ => by kernel_rfl)) rfl ?_
     refine st rfl (o_ldn 2 9 rfl rfl rfl rfl Tryz.underlying26 rfl (by kernel_rfl) (by kernel_rfl) rfl ?_)
     refine st rfl (o_st 4 rfl rfl rfl rfl rfl (by kernel_rfl) (by kernel_rfl) rfl ?_)
     refine s_y rfl (v := .int .i64 0) (y_as rfl) rfl ?_
     refine s_nil (q_then (c_ret ?_))
     have hp : callGet s = (x3.2.2, 0) := by first | exact cg_ok h26 (by assumption) (by assumption) (by assumption) | exact cg_no h26 (by first | exact .inl (by assumption) | exact .inr (.inl (by assumption)) | exact .inr (.inr (by assumption)))
     refine e_mark 0 rfl ?_
     refine c_fin (I' := []) [] [9, 10, 11, 12, 13, 14, 15, 16, 17] rfl (.agg 4 9 rfl rfl rfl rfl Tryz.underlying26 rfl (by kernel_rfl) (by kernel_rfl) (.tmp rfl .nil)) rfl rfl rfl ?_
     rw [hp]
     exact ⟨rfl, rfl, rfl⟩
    ·
     refine st_on 46 rfl rfl rfl (o_y (v := .bool true) (y_b (y_k (v := .bool (!(x3.1.toList == (⟨#[]⟩ : ByteArray).toList))) rfl rfl (fun _ => by kernel_rfl)) (str_nf h30)) rfl rfl rfl ?_)
     refine s_y rfl (v := .bool true) (y_pick rfl rfl) rfl ?_
     refine s_nil (q_then (c_true rfl (c_seq (c_region ?_))))
     refine s_y rfl (v := .agg #[.int .i64 0, .int .i64 0, .int .u64 0, .int .i64 0, .string (⟨#[]⟩ : ByteArray), .int .i64 0, .int .i64 0, .string (⟨#[]⟩ : ByteArray), .int .i64 0]) (y_k rfl rfl (fun _ => by kernel_rfl)) rfl ?_
     refine s_y rfl (v := .agg #[.int .i64 0]) (y_k rfl rfl (fun _ => by kernel_rfl)) rfl ?_
     refine s_y rfl (v := .iface 64 (.agg #[.int .i64 0])) (y_k rfl rfl (fun _ => by kernel_rfl)) rfl ?_
     refine st rfl (o_call [] [8] (ctold_ (0 : Int) (170 : Int)) rfl rfl rfl rfl rfl rfl (fun v L' I' hq5 => ?_))
     obtain ⟨rfl, rfl, rfl⟩ := hq5
     refine st rfl (o_st 4 rfl rfl rfl rfl rfl (by kernel_rfl) (by kernel_rfl) rfl ?_)
     refine s_y rfl (v := .int .i64 (170 : Int)) (y_as rfl) rfl ?_
     refine s_nil (q_then (c_ret (q_then_ret ?_)))
     have hp : callGet s = ((⟨0, (⟨0, 0, 0⟩ : Lab), (⟨#[]⟩ : ByteArray), 0, 0, (⟨#[]⟩ : ByteArray), 0⟩ : Cal), (170 : Int)) := by first | exact cg_ok h26 (by assumption) (by assumption) (by assumption) | exact cg_no h26 (by first | exact .inl (by assumption) | exact .inr (.inl (by assumption)) | exact .inr (.inr (by assumption)))
     refine e_mark 0 rfl ?_
     refine c_fin (I' := []) [] [9, 10, 11, 12, 13, 14, 15, 16, 17] rfl (.agg 4 9 rfl rfl rfl rfl Tryz.underlying26 rfl (by kernel_rfl) (by kernel_rfl) (.tmp rfl .nil)) rfl rfl rfl ?_
     rw [hp]
     exact ⟨rfl, rfl, rfl⟩
   ·
    refine st_on 38 rfl rfl rfl (o_y (v := .bool true) (y_nf (y_bin rfl rfl (fun w => cw_ne x3.2.1 _ w)) h29) rfl rfl rfl ?_)
    refine s_y rfl (v := .bool true) (y_pick rfl rfl) rfl ?_
    refine s_y rfl (v := .bool true) (y_mv rfl) rfl ?_
    refine st_off 46 rfl rfl rfl rfl rfl rfl ?_
    refine st_off 46 rfl rfl rfl rfl rfl rfl ?_
    refine st_off 46 rfl rfl rfl rfl rfl rfl ?_
    refine st_off 46 rfl rfl rfl rfl rfl rfl ?_
    refine st_off 46 rfl rfl rfl rfl rfl rfl ?_
    refine st_off 46 rfl rfl rfl rfl rfl rfl ?_
    refine s_y rfl (v := .bool true) (y_pick rfl rfl) rfl ?_
    refine s_nil (q_then (c_true rfl (c_seq (c_region ?_))))
    refine s_y rfl (v := .agg #[.int .i64 0, .int .i64 0, .int .u64 0, .int .i64 0, .string (⟨#[]⟩ : ByteArray), .int .i64 0, .int .i64 0, .string (⟨#[]⟩ : ByteArray), .int .i64 0]) (y_k rfl rfl (fun _ => by kernel_rfl)) rfl ?_
    refine s_y rfl (v := .agg #[.int .i64 0]) (y_k rfl rfl (fun _ => by kernel_rfl)) rfl ?_
    refine s_y rfl (v := .iface 64 (.agg #[.int .i64 0])) (y_k rfl rfl (fun _ => by kernel_rfl)) rfl ?_
    refine st rfl (o_call [] [8] (ctold_ (0 : Int) (170 : Int)) rfl rfl rfl rfl rfl rfl (fun v L' I' hq6 => ?_))
    obtain ⟨rfl, rfl, rfl⟩ := hq6
    refine st rfl (o_st 4 rfl rfl rfl rfl rfl (by kernel_rfl) (by kernel_rfl) rfl ?_)
    refine s_y rfl (v := .int .i64 (170 : Int)) (y_as rfl) rfl ?_
    refine s_nil (q_then (c_ret (q_then_ret ?_)))
    have hp : callGet s = ((⟨0, (⟨0, 0, 0⟩ : Lab), (⟨#[]⟩ : ByteArray), 0, 0, (⟨#[]⟩ : ByteArray), 0⟩ : Cal), (170 : Int)) := by first | exact cg_ok h26 (by assumption) (by assumption) (by assumption) | exact cg_no h26 (by first | exact .inl (by assumption) | exact .inr (.inl (by assumption)) | exact .inr (.inr (by assumption)))
    refine e_mark 0 rfl ?_
    refine c_fin (I' := []) [] [9, 10, 11, 12, 13, 14, 15, 16, 17] rfl (.agg 4 9 rfl rfl rfl rfl Tryz.underlying26 rfl (by kernel_rfl) (by kernel_rfl) (.tmp rfl .nil)) rfl rfl rfl ?_
    rw [hp]
    exact ⟨rfl, rfl, rfl⟩
  ·
   refine s_y rfl (v := .bool true) (y_nf (y_not rfl) h28) rfl ?_
   refine s_y rfl (v := .bool true) (y_mv rfl) rfl ?_
   refine st_off 38 rfl rfl rfl rfl rfl rfl ?_
   refine st_off 38 rfl rfl rfl rfl rfl rfl ?_
   refine st_off 38 rfl rfl rfl rfl rfl rfl ?_
   refine st_off 38 rfl rfl rfl rfl rfl rfl ?_
   refine st_off 38 rfl rfl rfl rfl rfl rfl ?_
   refine st_off 38 rfl rfl rfl rfl rfl rfl ?_
   refine s_y rfl (v := .bool true) (y_pick rfl rfl) rfl ?_
   refine s_y rfl (v := .bool true) (y_mv rfl) rfl ?_
   refine st_off 46 rfl rfl rfl rfl rfl rfl ?_
   refine st_off 46 rfl rfl rfl rfl rfl rfl ?_
   refine st_off 46 rfl rfl rfl rfl rfl rfl ?_
   refine st_off 46 rfl rfl rfl rfl rfl rfl ?_
   refine st_off 46 rfl rfl rfl rfl rfl rfl ?_
   refine st_off 46 rfl rfl rfl rfl rfl rfl ?_
   refine s_y rfl (v := .bool true) (y_pick rfl rfl) rfl ?_
   refine s_nil (q_then (c_true rfl (c_seq (c_region ?_))))
   refine s_y rfl (v := .agg #[.int .i64 0, .int .i64 0, .int .u64 0, .int .i64 0, .string (⟨#[]⟩ : ByteArray), .int .i64 0, .int .i64 0, .string (⟨#[]⟩ : ByteArray), .int .i64 0]) (y_k rfl rfl (fun _ => by kernel_rfl)) rfl ?_
   refine s_y rfl (v := .agg #[.int .i64 0]) (y_k rfl rfl (fun _ => by kernel_rfl)) rfl ?_
   refine s_y rfl (v := .iface 64 (.agg #[.int .i64 0])) (y_k rfl rfl (fun _ => by kernel_rfl)) rfl ?_
   refine st rfl (o_call [] [8] (ctold_ (0 : Int) (170 : Int)) rfl rfl rfl rfl rfl rfl (fun v L' I' hq7 => ?_))
   obtain ⟨rfl, rfl, rfl⟩ := hq7
   refine st rfl (o_st 4 rfl rfl rfl rfl rfl (by kernel_rfl) (by kernel_rfl) rfl ?_)
   refine s_y rfl (v := .int .i64 (170 : Int)) (y_as rfl) rfl ?_
   refine s_nil (q_then (c_ret (q_then_ret ?_)))
   have hp : callGet s = ((⟨0, (⟨0, 0, 0⟩ : Lab), (⟨#[]⟩ : ByteArray), 0, 0, (⟨#[]⟩ : ByteArray), 0⟩ : Cal), (170 : Int)) := by first | exact cg_ok h26 (by assumption) (by assumption) (by assumption) | exact cg_no h26 (by first | exact .inl (by assumption) | exact .inr (.inl (by assumption)) | exact .inr (.inr (by assumption)))
   refine e_mark 0 rfl ?_
   refine c_fin (I' := []) [] [9, 10, 11, 12, 13, 14, 15, 16, 17] rfl (.agg 4 9 rfl rfl rfl rfl Tryz.underlying26 rfl (by kernel_rfl) (by kernel_rfl) (.tmp rfl .nil)) rfl rfl rfl ?_
   rw [hp]
   exact ⟨rfl, rfl, rfl⟩
 ·
  exact hX.elim
end Go.Proofs.YtcnncdniibkjkaaGreatDoor
