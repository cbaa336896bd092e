/- The laws of chapter 17 (call), walked over the given program; no condition but what stands in each theorem: part CG. -/
import Derived.Test.YtcnncdniibkjkaaGreatDoorRCB
set_option linter.unusedVariables false
set_option linter.unusedSimpArgs false
set_option maxRecDepth 100000
set_option maxHeartbeats 8000000
namespace Go.Proofs.YtcnncdniibkjkaaGreatDoor
open Go Go.Sl Go.RowKit Go.Extern.Stop Go.Stop Go.Extern
abbrev Wst := ByteArray × Ec × Cal
def putP (y : UInt8) (r : ByteArray) (q : Ec) (c : Cal) : Wst := if y = 76 then (r ++ (putL c.lb).1, addQ q (putL c.lb).2, ⟨c.op, (⟨0, 0, 0⟩ : Lab), c.nm, c.pl, c.nn, c.da, c.id⟩) else if y = 84 then (r ++ (ptextF c.nm).1, addQ q (ptextF c.nm).2, ⟨c.op, c.lb, (⟨#[]⟩ : ByteArray), c.pl, c.nn, c.da, c.id⟩) else if y = 68 then (r ++ (ptextF c.da).1, addQ q (ptextF c.da).2, ⟨c.op, c.lb, c.nm, c.pl, c.nn, (⟨#[]⟩ : ByteArray), c.id⟩) else if y = 65 then (r ++ (putF 2 (u64 c.pl)).1, addQ q (numE 2 c.pl), ⟨c.op, c.lb, c.nm, (0 : Int), c.nn, c.da, c.id⟩) else if y = 78 then (r ++ (putF 2 (u64 c.nn)).1, addQ q (numE 2 c.nn), ⟨c.op, c.lb, c.nm, c.pl, (0 : Int), c.da, c.id⟩) else if y = 73 then (r ++ (putF 1 (u64 c.id)).1, addQ q (numE 1 c.id), ⟨c.op, c.lb, c.nm, c.pl, c.nn, c.da, (0 : Int)⟩) else (r, q, c)
def getP (y : UInt8) (r : ByteArray) (q : Ec) (c : Cal) : Wst := if y = 76 then ((labGet r).2.1, addQ q (labGet r).2.2, ⟨c.op, (labGet r).1, c.nm, c.pl, c.nn, c.da, c.id⟩) else if y = 84 then ((textF r).2.1, addQ q (textF r).2.2, ⟨c.op, c.lb, (textF r).1, c.pl, c.nn, c.da, c.id⟩) else if y = 68 then ((textF r).2.1, addQ q (textF r).2.2, ⟨c.op, c.lb, c.nm, c.pl, c.nn, (textF r).1, c.id⟩) else if y = 65 then ((getF 2 r).2.1, addQ q (getF 2 r).2.2, ⟨c.op, c.lb, c.nm, ((getF 2 r).1 : Int), c.nn, c.da, c.id⟩) else if y = 78 then ((getF 2 r).2.1, addQ q (getF 2 r).2.2, ⟨c.op, c.lb, c.nm, c.pl, ((getF 2 r).1 : Int), c.da, c.id⟩) else if y = 73 then ((getF 1 r).2.1, addQ q (getF 1 r).2.2, ⟨c.op, c.lb, c.nm, c.pl, c.nn, c.da, ((getF 1 r).1 : Int)⟩) else (r, q, c)
def putC (x : Wst) (y : UInt8) : Wst := putP y x.1 x.2.1 x.2.2
def getC (x : Wst) (y : UInt8) : Wst := getP y x.1 x.2.1 x.2.2
def putV (y : UInt8) : Value := if y = 76 then .func (.func 63) #[] #[] else if y = 84 then .func (.func 65) #[] #[] else if y = 68 then .func (.func 67) #[] #[] else if y = 65 then .func (.func 69) #[] #[] else if y = 78 then .func (.func 71) #[] #[] else if y = 73 then .func (.func 73) #[] #[] else .nilFunc
def getV (y : UInt8) : Value := if y = 76 then .func (.func 64) #[] #[] else if y = 84 then .func (.func 66) #[] #[] else if y = 68 then .func (.func 68) #[] #[] else if y = 65 then .func (.func 70) #[] #[] else if y = 78 then .func (.func 72) #[] #[] else if y = 73 then .func (.func 74) #[] #[] else .nilFunc
def isLet (y : UInt8) : Prop := y = 76 ∨ y = 84 ∨ y = 68 ∨ y = 65 ∨ y = 78 ∨ y = 73
theorem let128 {y : UInt8} (h : isLet y) : y.toNat < 128 := by rcases h with rfl | rfl | rfl | rfl | rfl | rfl <;> decide
def codI (y : UInt8) : Nat := if y = 76 then 0 else if y = 84 then 1 else if y = 68 then 2 else if y = 65 then 3 else if y = 78 then 4 else if y = 73 then 5 else 0
theorem cod_find {y : UInt8} (h : isLet y) : Instr.findNow (.int .i32) (.int .i32 (y.toNat : Int)) [⟨.int .i32 76, .agg #[.func (.func 63) #[] #[], .func (.func 64) #[] #[]], 0⟩, ⟨.int .i32 84, .agg #[.func (.func 65) #[] #[], .func (.func 66) #[] #[]], 1⟩, ⟨.int .i32 68, .agg #[.func (.func 67) #[] #[], .func (.func 68) #[] #[]], 2⟩, ⟨.int .i32 65, .agg #[.func (.func 69) #[] #[], .func (.func 70) #[] #[]], 3⟩, ⟨.int .i32 78, .agg #[.func (.func 71) #[] #[], .func (.func 72) #[] #[]], 4⟩, ⟨.int .i32 73, .agg #[.func (.func 73) #[] #[], .func (.func 74) #[] #[]], 5⟩] 0 = some (some (codI y, .agg #[putV y, getV y])) := by rcases h with rfl | rfl | rfl | rfl | rfl | rfl <;> rfl
theorem cod_cells (y : UInt8) : (Value.agg #[putV y, getV y]).cells.toList = [putV y, getV y] := by
  have h1 : (putV y).cells = #[putV y] := by unfold putV; repeat' split
                                             all_goals rfl
  have h2 : (getV y).cells = #[getV y] := by unfold getV; repeat' split
                                             all_goals rfl
  simp [Value.cells, h1, h2]
theorem cod_one (y : UInt8) : oneAll [putV y, getV y] = true := by
  have h1 : (putV y).oneCell' = true := by unfold putV; repeat' split
                                           all_goals rfl
  have h2 : (getV y).oneCell' = true := by unfold getV; repeat' split
                                           all_goals rfl
  simp [oneAll, h1, h2]
instance (y : UInt8) : Decidable (isLet y) := by unfold isLet; infer_instance
theorem signs_no {op : Int} (h : ¬ isOp op) : signsF op = ⟨#[]⟩ := by
  unfold isOp at h
  unfold signsF
  rw [if_neg (by omega), if_neg (by omega), if_neg (by omega), if_neg (by omega), if_neg (by omega), if_neg (by omega), if_neg (by omega), if_neg (by omega), if_neg (by omega), if_neg (by omega), if_neg (by omega), if_neg (by omega), if_neg (by omega), if_neg (by omega), if_neg (by omega), if_neg (by omega)]
theorem signs_all {p : ByteArray → Prop} (h0 : p ⟨#[]⟩) (h1 : p (signsF 1)) (h2 : p (signsF 2)) (h3 : p (signsF 3)) (h4 : p (signsF 4)) (h5 : p (signsF 5)) (h6 : p (signsF 6)) (h7 : p (signsF 7)) (h8 : p (signsF 8)) (h9 : p (signsF 9)) (h10 : p (signsF 10)) (h11 : p (signsF 11)) (h12 : p (signsF 12)) (h13 : p (signsF 13)) (h14 : p (signsF 14)) (h15 : p (signsF 15)) (h16 : p (signsF 16)) (op : Int) : p (signsF op) := by
  by_cases e1 : op = 1
  · subst e1; assumption
  by_cases e2 : op = 2
  · subst e2; assumption
  by_cases e3 : op = 3
  · subst e3; assumption
  by_cases e4 : op = 4
  · subst e4; assumption
  by_cases e5 : op = 5
  · subst e5; assumption
  by_cases e6 : op = 6
  · subst e6; assumption
  by_cases e7 : op = 7
  · subst e7; assumption
  by_cases e8 : op = 8
  · subst e8; assumption
  by_cases e9 : op = 9
  · subst e9; assumption
  by_cases e10 : op = 10
  · subst e10; assumption
  by_cases e11 : op = 11
  · subst e11; assumption
  by_cases e12 : op = 12
  · subst e12; assumption
  by_cases e13 : op = 13
  · subst e13; assumption
  by_cases e14 : op = 14
  · subst e14; assumption
  by_cases e15 : op = 15
  · subst e15; assumption
  by_cases e16 : op = 16
  · subst e16; assumption
  rw [signs_no (by unfold isOp; omega)]; exact h0
theorem signs_let (op : Int) : ∀ y ∈ lts (signsF op), isLet y := signs_all (p := fun s => ∀ y ∈ lts s, isLet y) (by decide) (by decide) (by decide) (by decide) (by decide) (by decide) (by decide) (by decide) (by decide) (by decide) (by decide) (by decide) (by decide) (by decide) (by decide) (by decide) (by decide) op
theorem signs_len (op : Int) : (lts (signsF op)).length ≤ 4 := signs_all (p := fun s => (lts s).length ≤ 4) (by decide) (by decide) (by decide) (by decide) (by decide) (by decide) (by decide) (by decide) (by decide) (by decide) (by decide) (by decide) (by decide) (by decide) (by decide) (by decide) (by decide) op
theorem coders_ : Con Tryz.prog 47 [] [] [] (fun v L' I' => ∃ m : Nat, v = .map (some m) ∧ L' = [ob m (.map ((((((#[].push ⟨.int .i32 76, .agg #[.func (.func 63) #[] #[], .func (.func 64) #[] #[]], 0⟩).push ⟨.int .i32 84, .agg #[.func (.func 65) #[] #[], .func (.func 66) #[] #[]], 1⟩).push ⟨.int .i32 68, .agg #[.func (.func 67) #[] #[], .func (.func 68) #[] #[]], 2⟩).push ⟨.int .i32 65, .agg #[.func (.func 69) #[] #[], .func (.func 70) #[] #[]], 3⟩).push ⟨.int .i32 78, .agg #[.func (.func 71) #[] #[], .func (.func 72) #[] #[]], 4⟩).push ⟨.int .i32 73, .agg #[.func (.func 73) #[] #[], .func (.func 74) #[] #[]], 5⟩) 6)] ∧ I' = []) := by
 refine fn_of Tryz.func47 rfl Tryz.ntmps47 (by kernel_rfl) rfl (fun C => ?_)
 refine c_seq (c_region ?_)
 refine s_y rfl (v := .map none) (y_as rfl) rfl ?_
 refine s_nil (q_then (c_seq (c_region ?_)))
 refine st rfl (o_mkmap rfl (fun m1 => ?_))
 refine s_y rfl (v := .agg #[.func (.func 63) #[] #[], .func (.func 64) #[] #[]]) (y_k rfl rfl (fun _ => by kernel_rfl)) rfl ?_
 refine st rfl (o_insert 0 rfl rfl rfl rfl Tryz.underlying97 Tryz.underlying21 rfl (by kernel_rfl) ?_)
 refine s_y rfl (v := .agg #[.func (.func 65) #[] #[], .func (.func 66) #[] #[]]) (y_k rfl rfl (fun _ => by kernel_rfl)) rfl ?_
 refine st rfl (o_insert 0 rfl rfl rfl rfl Tryz.underlying97 Tryz.underlying21 rfl (by kernel_rfl) ?_)
 refine s_y rfl (v := .agg #[.func (.func 67) #[] #[], .func (.func 68) #[] #[]]) (y_k rfl rfl (fun _ => by kernel_rfl)) rfl ?_
 refine st rfl (o_insert 0 rfl rfl rfl rfl Tryz.underlying97 Tryz.underlying21 rfl (by kernel_rfl) ?_)
 refine s_y rfl (v := .agg #[.func (.func 69) #[] #[], .func (.func 70) #[] #[]]) (y_k rfl rfl (fun _ => by kernel_rfl)) rfl ?_
 refine st rfl (o_insert 0 rfl rfl rfl rfl Tryz.underlying97 Tryz.underlying21 rfl (by kernel_rfl) ?_)
 refine s_y rfl (v := .agg #[.func (.func 71) #[] #[], .func (.func 72) #[] #[]]) (y_k rfl rfl (fun _ => by kernel_rfl)) rfl ?_
 refine st rfl (o_insert 0 rfl rfl rfl rfl Tryz.underlying97 Tryz.underlying21 rfl (by kernel_rfl) ?_)
 refine s_y rfl (v := .agg #[.func (.func 73) #[] #[], .func (.func 74) #[] #[]]) (y_k rfl rfl (fun _ => by kernel_rfl)) rfl ?_
 refine st rfl (o_insert 0 rfl rfl rfl rfl Tryz.underlying97 Tryz.underlying21 rfl (by kernel_rfl) ?_)
 refine s_y rfl (v := .map (some m1)) (y_mv rfl) rfl ?_
 refine s_y rfl (v := .map (some m1)) (y_as rfl) rfl ?_
 refine s_nil (q_then (c_ret ?_))
 refine c_fin (I' := []) [0] [] rfl (.tmp rfl .nil) rfl rfl rfl ?_
 exact ⟨m1, rfl, rfl, rfl⟩
theorem cof_ (sg : ByteArray) : Con Tryz.prog 24 [.string sg] [] [] (fun v L' I' => ∃ k : Nat, v = .func (.func 46) #[] #[.pointer (some ⟨k, 0, none⟩)] ∧ L' = [pt k [.string sg] 9] ∧ I' = []) := by
 refine fn_of Tryz.func24 rfl Tryz.ntmps24 (by kernel_rfl) rfl (fun C => ?_)
 refine c_seq (c_region ?_)
 refine st rfl (o_box (cs := [.string sg]) (T := 9) rfl rfl rfl rfl (fun _ => by kernel_rfl) (fun b1 => ?_))
 refine s_y rfl (v := .nilFunc) (y_as rfl) rfl ?_
 refine s_nil (q_then (c_seq (c_region ?_)))
 refine s_y rfl (v := .func (.func 46) #[] #[.pointer (some ⟨b1, 0, none⟩)]) (y_k rfl rfl (fun _ => by kernel_rfl)) rfl ?_
 refine s_y rfl (v := .func (.func 46) #[] #[.pointer (some ⟨b1, 0, none⟩)]) (y_as rfl) rfl ?_
 refine s_nil (q_then (c_ret ?_))
 refine c_fin (I' := []) [0] [] rfl (.tmp rfl .nil) rfl rfl rfl ?_
 exact ⟨b1, rfl, rfl, rfl⟩
theorem cof1_ (k1 : Nat) (sg : ByteArray) (hl : ∀ y ∈ lts sg, isLet y) : It Tryz.prog 46 [.pointer (some ⟨k1, 0, none⟩)] [pt k1 [.string sg] 9] [] ((lts sg).map fun y => [.agg #[putV y, getV y]]) (fun L1 => L1 = [pt k1 [.string sg] 9]) := by
 intro lp SS XX L0 I0 h0a hY
 refine fn_of Tryz.func46 rfl Tryz.ntmps46 (by kernel_rfl) rfl (fun C => ?_)
 refine c_scope0 ?_
 refine c_seq (c_region ?_)
 refine st rfl (o_call [] [] coders_ rfl rfl rfl rfl rfl rfl (fun v L' I' hq1 => ?_))
 obtain ⟨m1, rfl, rfl, rfl⟩ := hq1
 refine s_y rfl (v := .map (some m1)) (y_as rfl) rfl ?_
 refine s_nil (q_then (c_seq ?_))
 refine c_label ?_
 refine q_then (c_seq (c_region ?_))
 refine st rfl (o_ld 1 rfl rfl rfl Tryz.underlying9 rfl rfl ?_)
 refine st rfl (o_srange rfl Tryz.underlying9 rfl (fun b1 => ?_))
 refine s_nil (q_then (c_block ?_))
 refine e_perm [2, 1, 0] rfl ?_
 show Ent _ _ _ _ ([pt k1 [.string sg] 9, ob m1 (.map ((((((#[].push ⟨.int .i32 76, .agg #[.func (.func 63) #[] #[], .func (.func 64) #[] #[]], 0⟩).push ⟨.int .i32 84, .agg #[.func (.func 65) #[] #[], .func (.func 66) #[] #[]], 1⟩).push ⟨.int .i32 68, .agg #[.func (.func 67) #[] #[], .func (.func 68) #[] #[]], 2⟩).push ⟨.int .i32 65, .agg #[.func (.func 69) #[] #[], .func (.func 70) #[] #[]], 3⟩).push ⟨.int .i32 78, .agg #[.func (.func 71) #[] #[], .func (.func 72) #[] #[]], 4⟩).push ⟨.int .i32 73, .agg #[.func (.func 73) #[] #[], .func (.func 74) #[] #[]], 5⟩) 6), ob b1 (.stringIter sg 0)] ++ L0) _ _
 refine c_loop (ι := Nat × (List Atom) × (List Atom)) (fun (ka, Lx, Ix) => (ka ≤ sg.size) ∧ (SS ka Lx Ix)) (fun (ka, Lx, Ix) => [(0, .func (.yield lp) #[] #[]), (3, .map (some m1)), (8, .pointer (some ⟨b1, 0, none⟩))]) (fun (ka, Lx, Ix) => ([pt k1 [.string sg] 9, ob m1 (.map ((((((#[].push ⟨.int .i32 76, .agg #[.func (.func 63) #[] #[], .func (.func 64) #[] #[]], 0⟩).push ⟨.int .i32 84, .agg #[.func (.func 65) #[] #[], .func (.func 66) #[] #[]], 1⟩).push ⟨.int .i32 68, .agg #[.func (.func 67) #[] #[], .func (.func 68) #[] #[]], 2⟩).push ⟨.int .i32 65, .agg #[.func (.func 69) #[] #[], .func (.func 70) #[] #[]], 3⟩).push ⟨.int .i32 78, .agg #[.func (.func 71) #[] #[], .func (.func 72) #[] #[]], 4⟩).push ⟨.int .i32 73, .agg #[.func (.func 73) #[] #[], .func (.func 74) #[] #[]], 5⟩) 6), ob b1 (.stringIter sg ka)] ++ Lx)) (fun (ka, Lx, Ix) => (Ix ++ I0)) (fun (ka, Lx, Ix) => sg.size - ka) (0, L0, I0) (show (0 ≤ sg.size) ∧ (SS 0 L0 I0) from ⟨by first | omega | simp_all | (simp; done), h0a⟩) ((.cons rfl rfl (.cons rfl rfl (.cons rfl rfl .nil)))) rfl (by intro φ hφ; simp only [List.mem_append, List.mem_cons, List.not_mem_nil, or_false, false_or] at hφ ⊢; grind) ?_
 rintro ⟨ka, Lx, Ix⟩ ⟨hk, hS⟩
 show Ent 18 C [(0, .func (.yield lp) #[] #[]), (3, .map (some m1)), (8, .pointer (some ⟨b1, 0, none⟩))] [] ([pt k1 [.string sg] 9, ob m1 (.map ((((((#[].push ⟨.int .i32 76, .agg #[.func (.func 63) #[] #[], .func (.func 64) #[] #[]], 0⟩).push ⟨.int .i32 84, .agg #[.func (.func 65) #[] #[], .func (.func 66) #[] #[]], 1⟩).push ⟨.int .i32 68, .agg #[.func (.func 67) #[] #[], .func (.func 68) #[] #[]], 2⟩).push ⟨.int .i32 65, .agg #[.func (.func 69) #[] #[], .func (.func 70) #[] #[]], 3⟩).push ⟨.int .i32 78, .agg #[.func (.func 71) #[] #[], .func (.func 72) #[] #[]], 4⟩).push ⟨.int .i32 73, .agg #[.func (.func 73) #[] #[], .func (.func 74) #[] #[]], 5⟩) 6), ob b1 (.stringIter sg ka)] ++ Lx) (Ix ++ I0) _
 refine c_seq (c_region ?_)
 refine e_by (ka < sg.size) (fun h1 => ?_) (fun h1 => ?_)
 ·
  obtain ⟨x1, hx1⟩ : ∃ x, (sg)[ka]? = some x := ⟨_, getElem?_pos (sg) ka h1⟩; refine st rfl (o_snext 2 rfl rfl hx1 (let128 (hl _ (lts_mem hx1))) rfl ?_)
  refine s_y rfl (v := .bool true) (y_k rfl rfl (fun _ => by kernel_rfl)) rfl ?_
  refine s_nil (q_then (c_seq (c_true rfl (c_skip (q_then (c_block (c_seq (c_region ?_))))))))
  refine s_y rfl (v := .int .i32 (x1.toNat : Int)) (y_k rfl rfl (fun _ => by kernel_rfl)) rfl ?_
  refine s_y rfl (v := .int .i32 (x1.toNat : Int)) (y_as rfl) rfl ?_
  refine s_nil (q_then (c_seq (c_region ?_)))
  refine s_y rfl (v := .func (.yield lp) #[] #[]) (y_mv rfl) rfl ?_
  refine s_y rfl (v := .map (some m1)) (y_mv rfl) rfl ?_
  refine s_y rfl (v := .int .i32 (x1.toNat : Int)) (y_mv rfl) rfl ?_
  refine st rfl (o_lookv (v := .agg #[putV x1, getV x1]) (z := .agg #[.nilFunc, .nilFunc]) 1 rfl rfl rfl Tryz.underlying97 Tryz.underlying21 rfl (cod_find (hl _ (lts_mem hx1))) (fun w => by kernel_rfl) (rfl) rfl ?_)
  refine st rfl (o_yield [pt k1 [.string sg] 9, ob m1 (.map ((((((#[].push ⟨.int .i32 76, .agg #[.func (.func 63) #[] #[], .func (.func 64) #[] #[]], 0⟩).push ⟨.int .i32 84, .agg #[.func (.func 65) #[] #[], .func (.func 66) #[] #[]], 1⟩).push ⟨.int .i32 68, .agg #[.func (.func 67) #[] #[], .func (.func 68) #[] #[]], 2⟩).push ⟨.int .i32 65, .agg #[.func (.func 69) #[] #[], .func (.func 70) #[] #[]], 3⟩).push ⟨.int .i32 78, .agg #[.func (.func 71) #[] #[], .func (.func 72) #[] #[]], 4⟩).push ⟨.int .i32 73, .agg #[.func (.func 73) #[] #[], .func (.func 74) #[] #[]], 5⟩) 6), ob b1 (.stringIter sg (ka + 1))] Lx Ix (hY ka _ _ _ (by rw [List.getElem?_map, lts_at hx1]; rfl) hS) rfl rfl rfl (by intro φ hφ; simp only [List.mem_append, List.mem_cons, List.not_mem_nil, or_false, false_or] at hφ ⊢; grind) rfl (fun bb1 Ly1 Iy1 hq2 => ?_))
  rcases hq2 with ⟨rfl, hq2⟩ | ⟨rfl, hq2⟩
  ·
   refine s_y rfl (v := .bool false) (y_k rfl rfl (fun _ => by kernel_rfl)) rfl ?_
   refine s_nil (q_then (c_false rfl (c_skip (q_block (q_then ?_)))))
   refine c_again (ka + 1, Ly1, Iy1) ?_ ?_ ?_ (by rfl) (by intro φ hφ; simp only [List.mem_append, List.mem_cons, List.not_mem_nil, or_false, false_or] at hφ ⊢; grind)
   · exact (show ((ka + 1) ≤ sg.size) ∧ (SS (ka + 1) Ly1 Iy1) from ⟨by omega, hq2⟩)
   · show sg.size - (ka + 1) < sg.size - ka; omega
   · exact (.cons rfl rfl (.cons rfl rfl (.cons rfl rfl .nil)))
  ·
   refine s_y rfl (v := .bool true) (y_k rfl rfl (fun _ => by kernel_rfl)) rfl ?_
   refine s_nil (q_then (c_true rfl ?_))
   refine c_exit ?_
   refine q_block_exit rfl ?_
   refine q_then_exit ?_
   refine q_block_here ?_
   refine q_nj ?_
   refine e_drop 1 ?_
   show Ent _ _ _ _ ([pt k1 [.string sg] 9, ob b1 (.stringIter sg (ka + 1))] ++ Ly1) _ _
   refine e_drop 1 ?_
   show Ent _ _ _ _ ([pt k1 [.string sg] 9] ++ Ly1) _ _
   refine c_fin_it (I' := Iy1) rfl rfl (by intro φ hφ; simp only [List.mem_append, List.mem_cons, List.not_mem_nil, or_false, false_or] at hφ ⊢; grind) ⟨_, Ly1, rfl, rfl, ?_⟩
   exact .inr ⟨ka, by rw [List.length_map]; exact lts_lt hx1, hq2⟩
 ·
  refine st rfl (o_send 2 rfl rfl h1 rfl ?_)
  refine s_y rfl (v := .bool false) (y_k rfl rfl (fun _ => by kernel_rfl)) rfl ?_
  refine s_nil (q_then (c_seq (c_false rfl ?_)))
  refine c_exit ?_
  refine q_then_exit ?_
  refine q_then_exit ?_
  refine q_block_here ?_
  refine q_nj ?_
  refine e_drop 1 ?_
  show Ent _ _ _ _ ([pt k1 [.string sg] 9, ob b1 (.stringIter sg ka)] ++ Lx) _ _
  refine e_drop 1 ?_
  show Ent _ _ _ _ ([pt k1 [.string sg] 9] ++ Lx) _ _
  refine c_fin_it (I' := Ix) rfl rfl (by intro φ hφ; simp only [List.mem_append, List.mem_cons, List.not_mem_nil, or_false, false_or] at hφ ⊢; grind) ⟨_, Lx, rfl, rfl, ?_⟩
  left; rw [List.length_map, lts_end (by omega) hk]; exact hS
end Go.Proofs.YtcnncdniibkjkaaGreatDoor
