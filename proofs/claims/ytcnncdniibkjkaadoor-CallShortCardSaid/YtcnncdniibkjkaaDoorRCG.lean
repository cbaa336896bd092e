/- The laws of chapter 17 (call), walked over the given program; no condition but what stands in each theorem: part CG. -/
import Derived.Test.YtcnncdniibkjkaaDoorRCF
set_option linter.unusedVariables false
set_option linter.unusedSimpArgs false
set_option maxRecDepth 100000
set_option maxHeartbeats 8000000
namespace Go.Proofs.YtcnncdniibkjkaaDoor
open Go Go.Sl Go.RowKit Go.Extern.Stop Go.Stop Go.Extern
theorem coders_ : Con Tryd.prog 32 [] [] [] (fun v L' I' => ∃ m : Nat, v = .map (some m) ∧ L' = [ob m (.map ((((((#[].push ⟨.int .i32 76, .agg #[.func (.func 44) #[] #[], .func (.func 45) #[] #[]], 0⟩).push ⟨.int .i32 84, .agg #[.func (.func 46) #[] #[], .func (.func 47) #[] #[]], 1⟩).push ⟨.int .i32 68, .agg #[.func (.func 48) #[] #[], .func (.func 49) #[] #[]], 2⟩).push ⟨.int .i32 65, .agg #[.func (.func 50) #[] #[], .func (.func 51) #[] #[]], 3⟩).push ⟨.int .i32 78, .agg #[.func (.func 52) #[] #[], .func (.func 53) #[] #[]], 4⟩).push ⟨.int .i32 73, .agg #[.func (.func 54) #[] #[], .func (.func 55) #[] #[]], 5⟩) 6)] ∧ I' = []) := by
 refine fn_of Tryd.func32 rfl Tryd.ntmps32 (by kernel_rfl) rfl (fun C => ?_)
 refine c_seq (c_region ?_)
 refine s_y rfl (v := .map none) (y_as rfl) rfl ?_
 refine s_nil (q_then (c_seq (c_region ?_)))
 refine st rfl (o_mkmap rfl (fun m1 => ?_))
 refine s_y rfl (v := .agg #[.func (.func 44) #[] #[], .func (.func 45) #[] #[]]) (y_k rfl rfl (fun _ => by kernel_rfl)) rfl ?_
 refine st rfl (o_insert 0 rfl rfl rfl rfl Tryd.underlying84 Tryd.underlying21 rfl (by kernel_rfl) ?_)
 refine s_y rfl (v := .agg #[.func (.func 46) #[] #[], .func (.func 47) #[] #[]]) (y_k rfl rfl (fun _ => by kernel_rfl)) rfl ?_
 refine st rfl (o_insert 0 rfl rfl rfl rfl Tryd.underlying84 Tryd.underlying21 rfl (by kernel_rfl) ?_)
 refine s_y rfl (v := .agg #[.func (.func 48) #[] #[], .func (.func 49) #[] #[]]) (y_k rfl rfl (fun _ => by kernel_rfl)) rfl ?_
 refine st rfl (o_insert 0 rfl rfl rfl rfl Tryd.underlying84 Tryd.underlying21 rfl (by kernel_rfl) ?_)
 refine s_y rfl (v := .agg #[.func (.func 50) #[] #[], .func (.func 51) #[] #[]]) (y_k rfl rfl (fun _ => by kernel_rfl)) rfl ?_
 refine st rfl (o_insert 0 rfl rfl rfl rfl Tryd.underlying84 Tryd.underlying21 rfl (by kernel_rfl) ?_)
 refine s_y rfl (v := .agg #[.func (.func 52) #[] #[], .func (.func 53) #[] #[]]) (y_k rfl rfl (fun _ => by kernel_rfl)) rfl ?_
 refine st rfl (o_insert 0 rfl rfl rfl rfl Tryd.underlying84 Tryd.underlying21 rfl (by kernel_rfl) ?_)
 refine s_y rfl (v := .agg #[.func (.func 54) #[] #[], .func (.func 55) #[] #[]]) (y_k rfl rfl (fun _ => by kernel_rfl)) rfl ?_
 refine st rfl (o_insert 0 rfl rfl rfl rfl Tryd.underlying84 Tryd.underlying21 rfl (by kernel_rfl) ?_)
 refine s_y rfl (v := .map (some m1)) (y_mv rfl) rfl ?_
 refine s_y rfl (v := .map (some m1)) (y_as rfl) rfl ?_
 refine s_nil (q_then (c_ret ?_))
 refine c_fin (I' := []) [0] [] rfl (.tmp rfl .nil) rfl rfl rfl ?_
 exact ⟨m1, rfl, rfl, rfl⟩
theorem cof_ (sg : ByteArray) : Con Tryd.prog 20 [.string sg] [] [] (fun v L' I' => ∃ k : Nat, v = .func (.func 31) #[] #[.pointer (some ⟨k, 0, none⟩)] ∧ L' = [pt k [.string sg] 9] ∧ I' = []) := by
 refine fn_of Tryd.func20 rfl Tryd.ntmps20 (by kernel_rfl) rfl (fun C => ?_)
 refine c_seq (c_region ?_)
 refine st rfl (o_box (cs := [.string sg]) (T := 9) rfl rfl rfl rfl (fun _ => by kernel_rfl) (fun b1 => ?_))
 refine s_y rfl (v := .nilFunc) (y_as rfl) rfl ?_
 refine s_nil (q_then (c_seq (c_region ?_)))
 refine s_y rfl (v := .func (.func 31) #[] #[.pointer (some ⟨b1, 0, none⟩)]) (y_k rfl rfl (fun _ => by kernel_rfl)) rfl ?_
 refine s_y rfl (v := .func (.func 31) #[] #[.pointer (some ⟨b1, 0, none⟩)]) (y_as rfl) rfl ?_
 refine s_nil (q_then (c_ret ?_))
 refine c_fin (I' := []) [0] [] rfl (.tmp rfl .nil) rfl rfl rfl ?_
 exact ⟨b1, rfl, rfl, rfl⟩
theorem cof1_ (k1 : Nat) (sg : ByteArray) (hl : ∀ y ∈ lts sg, isLet y) : It Tryd.prog 31 [.pointer (some ⟨k1, 0, none⟩)] [pt k1 [.string sg] 9] [] ((lts sg).map fun y => [.agg #[putV y, getV y]]) (fun L1 => L1 = [pt k1 [.string sg] 9]) := by
 intro lp SS XX L0 I0 h0a hY
 refine fn_of Tryd.func31 rfl Tryd.ntmps31 (by kernel_rfl) rfl (fun C => ?_)
 refine c_scope0 ?_
 refine c_seq (c_region ?_)
 refine st rfl (o_call [] [] coders_ rfl rfl rfl rfl rfl rfl (fun v L' I' hq1 => ?_))
 obtain ⟨m1, rfl, rfl, rfl⟩ := hq1
 refine s_y rfl (v := .map (some m1)) (y_as rfl) rfl ?_
 refine s_nil (q_then (c_seq ?_))
 refine c_label ?_
 refine q_then (c_seq (c_region ?_))
 refine st rfl (o_ld 1 rfl rfl rfl Tryd.underlying9 rfl rfl ?_)
 refine st rfl (o_srange rfl Tryd.underlying9 rfl (fun b1 => ?_))
 refine s_nil (q_then (c_block ?_))
 refine e_perm [2, 1, 0] rfl ?_
 show Ent _ _ _ _ ([pt k1 [.string sg] 9, ob m1 (.map ((((((#[].push ⟨.int .i32 76, .agg #[.func (.func 44) #[] #[], .func (.func 45) #[] #[]], 0⟩).push ⟨.int .i32 84, .agg #[.func (.func 46) #[] #[], .func (.func 47) #[] #[]], 1⟩).push ⟨.int .i32 68, .agg #[.func (.func 48) #[] #[], .func (.func 49) #[] #[]], 2⟩).push ⟨.int .i32 65, .agg #[.func (.func 50) #[] #[], .func (.func 51) #[] #[]], 3⟩).push ⟨.int .i32 78, .agg #[.func (.func 52) #[] #[], .func (.func 53) #[] #[]], 4⟩).push ⟨.int .i32 73, .agg #[.func (.func 54) #[] #[], .func (.func 55) #[] #[]], 5⟩) 6), ob b1 (.stringIter sg 0)] ++ L0) _ _
 refine c_loop (ι := Nat × (List Atom) × (List Atom)) (fun (ka, Lx, Ix) => (ka ≤ sg.size) ∧ (SS ka Lx Ix)) (fun (ka, Lx, Ix) => [(0, .func (.yield lp) #[] #[]), (3, .map (some m1)), (8, .pointer (some ⟨b1, 0, none⟩))]) (fun (ka, Lx, Ix) => ([pt k1 [.string sg] 9, ob m1 (.map ((((((#[].push ⟨.int .i32 76, .agg #[.func (.func 44) #[] #[], .func (.func 45) #[] #[]], 0⟩).push ⟨.int .i32 84, .agg #[.func (.func 46) #[] #[], .func (.func 47) #[] #[]], 1⟩).push ⟨.int .i32 68, .agg #[.func (.func 48) #[] #[], .func (.func 49) #[] #[]], 2⟩).push ⟨.int .i32 65, .agg #[.func (.func 50) #[] #[], .func (.func 51) #[] #[]], 3⟩).push ⟨.int .i32 78, .agg #[.func (.func 52) #[] #[], .func (.func 53) #[] #[]], 4⟩).push ⟨.int .i32 73, .agg #[.func (.func 54) #[] #[], .func (.func 55) #[] #[]], 5⟩) 6), ob b1 (.stringIter sg ka)] ++ Lx)) (fun (ka, Lx, Ix) => (Ix ++ I0)) (fun (ka, Lx, Ix) => sg.size - ka) (0, L0, I0) (show (0 ≤ sg.size) ∧ (SS 0 L0 I0) from ⟨by first | omega | simp_all | (simp; done), h0a⟩) ((.cons rfl rfl (.cons rfl rfl (.cons rfl rfl .nil)))) rfl (by intro φ hφ; simp only [List.mem_append, List.mem_cons, List.not_mem_nil, or_false, false_or] at hφ ⊢; grind) ?_
 rintro ⟨ka, Lx, Ix⟩ ⟨hk, hS⟩
 show Ent 18 C [(0, .func (.yield lp) #[] #[]), (3, .map (some m1)), (8, .pointer (some ⟨b1, 0, none⟩))] [] ([pt k1 [.string sg] 9, ob m1 (.map ((((((#[].push ⟨.int .i32 76, .agg #[.func (.func 44) #[] #[], .func (.func 45) #[] #[]], 0⟩).push ⟨.int .i32 84, .agg #[.func (.func 46) #[] #[], .func (.func 47) #[] #[]], 1⟩).push ⟨.int .i32 68, .agg #[.func (.func 48) #[] #[], .func (.func 49) #[] #[]], 2⟩).push ⟨.int .i32 65, .agg #[.func (.func 50) #[] #[], .func (.func 51) #[] #[]], 3⟩).push ⟨.int .i32 78, .agg #[.func (.func 52) #[] #[], .func (.func 53) #[] #[]], 4⟩).push ⟨.int .i32 73, .agg #[.func (.func 54) #[] #[], .func (.func 55) #[] #[]], 5⟩) 6), ob b1 (.stringIter sg ka)] ++ Lx) (Ix ++ I0) _
 refine c_seq (c_region ?_)
 refine e_by (ka < sg.size) (fun h1 => ?_) (fun h1 => ?_)
 ·
  obtain ⟨x1, hx1⟩ : ∃ x, (sg)[ka]? = some x := ⟨_, getElem?_pos (sg) ka h1⟩; refine st rfl (o_snext 2 rfl rfl hx1 (let128 (hl _ (lts_mem hx1))) rfl ?_)
  refine s_y rfl (v := .bool true) (y_k rfl rfl (fun _ => by kernel_rfl)) rfl ?_
  refine s_nil (q_then (c_seq (c_true rfl (c_skip (q_then (c_block (c_seq (c_region ?_))))))))
  refine s_y rfl (v := .int .i32 (x1.toNat : Int)) (y_k rfl rfl (fun _ => by kernel_rfl)) rfl ?_
  refine s_y rfl (v := .int .i32 (x1.toNat : Int)) (y_as rfl) rfl ?_
  refine s_nil (q_then (c_seq (c_region ?_)))
  refine s_y rfl (v := .func (.yield lp) #[] #[]) (y_mv rfl) rfl ?_
  refine s_y rfl (v := .map (some m1)) (y_mv rfl) rfl ?_
  refine s_y rfl (v := .int .i32 (x1.toNat : Int)) (y_mv rfl) rfl ?_
  refine st rfl (o_lookv (v := .agg #[putV x1, getV x1]) (z := .agg #[.nilFunc, .nilFunc]) 1 rfl rfl rfl Tryd.underlying84 Tryd.underlying21 rfl (cod_find (hl _ (lts_mem hx1))) (fun w => by kernel_rfl) (rfl) rfl ?_)
  refine st rfl (o_yield [pt k1 [.string sg] 9, ob m1 (.map ((((((#[].push ⟨.int .i32 76, .agg #[.func (.func 44) #[] #[], .func (.func 45) #[] #[]], 0⟩).push ⟨.int .i32 84, .agg #[.func (.func 46) #[] #[], .func (.func 47) #[] #[]], 1⟩).push ⟨.int .i32 68, .agg #[.func (.func 48) #[] #[], .func (.func 49) #[] #[]], 2⟩).push ⟨.int .i32 65, .agg #[.func (.func 50) #[] #[], .func (.func 51) #[] #[]], 3⟩).push ⟨.int .i32 78, .agg #[.func (.func 52) #[] #[], .func (.func 53) #[] #[]], 4⟩).push ⟨.int .i32 73, .agg #[.func (.func 54) #[] #[], .func (.func 55) #[] #[]], 5⟩) 6), ob b1 (.stringIter sg (ka + 1))] Lx Ix (hY ka _ _ _ (by rw [List.getElem?_map, lts_at hx1]; rfl) hS) rfl rfl rfl (by intro φ hφ; simp only [List.mem_append, List.mem_cons, List.not_mem_nil, or_false, false_or] at hφ ⊢; grind) rfl (fun bb1 Ly1 Iy1 hq2 => ?_))
  rcases hq2 with ⟨rfl, hq2⟩ | ⟨rfl, hq2⟩
  ·
   refine s_y rfl (v := .bool false) (y_k rfl rfl (fun _ => by kernel_rfl)) rfl ?_
   refine s_nil (q_then (c_false rfl (c_skip (q_block (q_then ?_)))))
   refine c_again (ka + 1, Ly1, Iy1) ?_ ?_ ?_ (by rfl) (by intro φ hφ; simp only [List.mem_append, List.mem_cons, List.not_mem_nil, or_false, false_or] at hφ ⊢; grind)
   · exact (show ((ka + 1) ≤ sg.size) ∧ (SS (ka + 1) Ly1 Iy1) from ⟨by omega, hq2⟩)
   · show sg.size - (ka + 1) < sg.size - ka; omega
   · exact (.cons rfl rfl (.cons rfl rfl (.cons rfl rfl .nil)))
  ·
   refine s_y rfl (v := .bool true) (y_k rfl rfl (fun _ => by kernel_rfl)) rfl ?_
   refine s_nil (q_then (c_true rfl ?_))
   refine c_exit ?_
   refine q_block_exit rfl ?_
   refine q_then_exit ?_
   refine q_block_here ?_
   refine q_nj ?_
   refine e_drop 1 ?_
   show Ent _ _ _ _ ([pt k1 [.string sg] 9, ob b1 (.stringIter sg (ka + 1))] ++ Ly1) _ _
   refine e_drop 1 ?_
   show Ent _ _ _ _ ([pt k1 [.string sg] 9] ++ Ly1) _ _
   refine c_fin_it (I' := Iy1) rfl rfl (by intro φ hφ; simp only [List.mem_append, List.mem_cons, List.not_mem_nil, or_false, false_or] at hφ ⊢; grind) ⟨_, Ly1, rfl, rfl, ?_⟩
   exact .inr ⟨ka, by rw [List.length_map]; exact lts_lt hx1, hq2⟩
 ·
  refine st rfl (o_send 2 rfl rfl h1 rfl ?_)
  refine s_y rfl (v := .bool false) (y_k rfl rfl (fun _ => by kernel_rfl)) rfl ?_
  refine s_nil (q_then (c_seq (c_false rfl ?_)))
  refine c_exit ?_
  refine q_then_exit ?_
  refine q_then_exit ?_
  refine q_block_here ?_
  refine q_nj ?_
  refine e_drop 1 ?_
  show Ent _ _ _ _ ([pt k1 [.string sg] 9, ob b1 (.stringIter sg ka)] ++ Lx) _ _
  refine e_drop 1 ?_
  show Ent _ _ _ _ ([pt k1 [.string sg] 9] ++ Lx) _ _
  refine c_fin_it (I' := Ix) rfl rfl (by intro φ hφ; simp only [List.mem_append, List.mem_cons, List.not_mem_nil, or_false, false_or] at hφ ⊢; grind) ⟨_, Lx, rfl, rfl, ?_⟩
  left; rw [List.length_map, lts_end (by omega) hk]; exact hS
end Go.Proofs.YtcnncdniibkjkaaDoor
