/- The laws of chapter 4 (labcode), walked over the given program; no condition but what stands in each theorem: part LH. -/
import Derived.Test.YthoefkpbijcdeaaDoorRLF
set_option linter.unusedVariables false
set_option linter.unusedSimpArgs false
set_option maxRecDepth 100000
set_option maxHeartbeats 8000000
namespace Go.Proofs.YthoefkpbijcdeaaDoor
open Go Go.Sl Go.RowKit Go.Extern.Stop Go.Stop Go.Extern
theorem labels_ (b : Nat) : Con Tryd.prog 29 [.pointer (some ⟨b, 0, none⟩), .func (.func 28) #[.pointer (some ⟨b, 0, none⟩)] #[]] [] [] (fun v L' I' => ∃ b1 : Nat, ∃ b2 : Nat, v = .func (.func 44) #[] #[.pointer (some ⟨b1, 0, none⟩), .pointer (some ⟨b2, 0, none⟩)] ∧ L' = [pt b1 [.pointer (some ⟨b, 0, none⟩)] 50, pt b2 [.func (.func 28) #[.pointer (some ⟨b, 0, none⟩)] #[]] 55] ∧ I' = []) := by
  refine fn_of Tryd.func29 rfl Tryd.ntmps29 (by kernel_rfl) rfl (fun C => ?_)
  refine c_seq ?_
  refine c_region ?_
  refine st rfl (o_box (cs := [.pointer (some ⟨b, 0, none⟩)]) (T := 50) rfl rfl rfl rfl (fun _ => by kernel_rfl) (fun b1 => ?_))
  refine st rfl (o_box (cs := [.func (.func 28) #[.pointer (some ⟨b, 0, none⟩)] #[]]) (T := 55) rfl rfl rfl rfl (fun _ => by kernel_rfl) (fun b2 => ?_))
  refine st rfl (o_y (v := .nilFunc) (y_as rfl) rfl rfl rfl ?_)
  refine s_nil ?_
  refine q_then ?_
  refine c_seq ?_
  refine c_region ?_
  refine st rfl (o_y (v := .func (.func 44) #[] #[.pointer (some ⟨b1, 0, none⟩), .pointer (some ⟨b2, 0, none⟩)]) (y_k rfl rfl (fun _ => by kernel_rfl)) rfl rfl rfl ?_)
  refine st rfl (o_y (v := .func (.func 44) #[] #[.pointer (some ⟨b1, 0, none⟩), .pointer (some ⟨b2, 0, none⟩)]) (y_as rfl) rfl rfl rfl ?_)
  refine s_nil ?_
  refine q_then ?_
  refine c_ret ?_
  refine c_fin (I' := []) [1, 0] [] rfl (.tmp rfl .nil) rfl rfl rfl ?_
  exact ⟨b1, b2, rfl, rfl, rfl⟩
theorem labels1_ (b1 : Nat) (b2 : Nat) (b : Nat) (s : ByteArray) (ea : Addr) (em : Addr) (ef : Addr) (el : Addr) (h12 : ea ≠ em) (h13 : ea ≠ ef) (h23 : em ≠ ef) (hs : s.size ≤ 100000) : It2 Tryd.prog 44 [.pointer (some ⟨b1, 0, none⟩), .pointer (some ⟨b2, 0, none⟩)] [pt b1 [.pointer (some ⟨b, 0, none⟩)] 50, pt b2 [.func (.func 28) #[.pointer (some ⟨b, 0, none⟩)] #[]] 55, pt b [.string s, ecV none] 54] [cellsAt 1 0 [.iface 141 (.pointer (some ea))], cellsAt 3 0 [.iface 141 (.pointer (some em))], cellsAt 4 0 [.iface 141 (.pointer (some ef))], errAt ea, errAt em, errAt ef, cellsAt 0 0 [.iface 141 (.pointer (some el))], errAt el, cellsAt 2 0 [.iface 122 (.agg #[.pointer (some ⟨5, 46, none⟩)])]] ((glF s).1.map fun y => [.agg #[.int .i64 y.lv, .int .u64 (y.cs : Int), .int .i64 y.ig]]) (fun L1 => L1 = [pt b1 [.pointer (some ⟨b, 0, none⟩)] 50, pt b2 [.func (.func 28) #[.pointer (some ⟨b, 0, none⟩)] #[]] 55, pt b [.string ((glF s).2.1), ecV (glF s).2.2] 54]) (fun _ L1 => ∃ r q, L1 = [pt b1 [.pointer (some ⟨b, 0, none⟩)] 50, pt b2 [.func (.func 28) #[.pointer (some ⟨b, 0, none⟩)] #[]] 55, pt b [.string r, ecV q] 54]) := by
  intro lp SS XX L0 I0 h0a hY
  refine fn_of Tryd.func44 rfl Tryd.ntmps44 (by kernel_rfl) rfl (fun C => ?_)
  refine c_scope0 ?_
  refine c_seq ?_
  refine c_label ?_
  refine q_then ?_
  refine c_block ?_
  refine c_loop (ι := Nat × ByteArray × (List Atom) × (List Atom)) (fun (ka, r, Lx, Ix) => (ka ≤ (glF s).1.length) ∧ ((glF s).1.drop ka = (glF r).1) ∧ ((glF s).2 = (glF r).2) ∧ (r.size ≤ 100000) ∧ (SS ka Lx Ix)) (fun (ka, r, Lx, Ix) => [(0, .func (.yield lp) #[] #[]), (1, .pointer (some ⟨b1, 0, none⟩)), (2, .pointer (some ⟨b2, 0, none⟩))]) (fun (ka, r, Lx, Ix) => ([pt b1 [.pointer (some ⟨b, 0, none⟩)] 50, pt b2 [.func (.func 28) #[.pointer (some ⟨b, 0, none⟩)] #[]] 55, pt b [.string r, ecV none] 54] ++ Lx)) (fun (ka, r, Lx, Ix) => ([cellsAt 1 0 [.iface 141 (.pointer (some ea))], cellsAt 3 0 [.iface 141 (.pointer (some em))], cellsAt 4 0 [.iface 141 (.pointer (some ef))], errAt ea, errAt em, errAt ef, cellsAt 0 0 [.iface 141 (.pointer (some el))], errAt el, cellsAt 2 0 [.iface 122 (.agg #[.pointer (some ⟨5, 46, none⟩)])]] ++ Ix ++ I0)) (fun (ka, r, Lx, Ix) => r.size) (0, s, L0, I0) (show (0 ≤ (glF s).1.length) ∧ ((glF s).1.drop 0 = (glF s).1) ∧ ((glF s).2 = (glF s).2) ∧ (s.size ≤ 100000) ∧ (SS 0 L0 I0) from ⟨by first | omega | simp_all | (simp; done), rfl, rfl, by first | omega | simp_all | (simp; done), h0a⟩) ((.cons rfl rfl (.cons rfl rfl (.cons rfl rfl .nil)))) rfl (by intro φ hφ; simp only [List.mem_append, List.mem_cons, List.not_mem_nil, or_false, false_or] at hφ ⊢; grind) ?_
  rintro ⟨ka, r, Lx, Ix⟩ ⟨hk, hg1, hg2, hr, hS⟩
  show Ent 24 C [(0, .func (.yield lp) #[] #[]), (1, .pointer (some ⟨b1, 0, none⟩)), (2, .pointer (some ⟨b2, 0, none⟩))] [] ([pt b1 [.pointer (some ⟨b, 0, none⟩)] 50, pt b2 [.func (.func 28) #[.pointer (some ⟨b, 0, none⟩)] #[]] 55, pt b [.string r, ecV none] 54] ++ Lx) ([cellsAt 1 0 [.iface 141 (.pointer (some ea))], cellsAt 3 0 [.iface 141 (.pointer (some em))], cellsAt 4 0 [.iface 141 (.pointer (some ef))], errAt ea, errAt em, errAt ef, cellsAt 0 0 [.iface 141 (.pointer (some el))], errAt el, cellsAt 2 0 [.iface 122 (.agg #[.pointer (some ⟨5, 46, none⟩)])]] ++ Ix ++ I0) _
  refine c_seq ?_
  refine c_seq ?_
  refine c_region ?_
  refine st rfl (o_ld 0 rfl rfl rfl Tryd.underlying50 rfl rfl ?_)
  refine st rfl (o_y (v := .pointer (some ⟨b, 0, none⟩)) (y_k rfl rfl (fun _ => by kernel_rfl)) rfl rfl rfl ?_)
  refine st rfl (o_y (v := .pointer (some ⟨b, 0, none⟩)) (y_k rfl rfl (fun _ => by kernel_rfl)) rfl rfl rfl ?_)
  refine st rfl (o_y (v := .pointer (some ⟨b, 0, none⟩)) (y_k rfl rfl (fun _ => by kernel_rfl)) rfl rfl rfl ?_)
  refine st rfl (o_ld 2 rfl rfl rfl Tryd.underlying9 rfl rfl ?_)
  refine e_by (r = (⟨#[]⟩ : ByteArray)) (fun h24 => ?_) (fun h24 => ?_)
  ·
    refine st rfl (o_y (v := .bool false) (y_b (y_k (v := .bool (!(r.toList == (⟨#[]⟩ : ByteArray).toList))) rfl rfl (fun _ => by kernel_rfl)) (str_nt h24)) rfl rfl rfl ?_)
    refine s_nil ?_
    refine q_then ?_
    refine c_false rfl ?_
    refine c_exit ?_
    refine q_then_exit ?_
    refine q_then_exit ?_
    refine q_block_here ?_
    refine q_nj ?_
    refine c_fin_it (I' := Ix) rfl rfl (by intro φ hφ; simp only [List.mem_append, List.mem_cons, List.not_mem_nil, or_false, false_or] at hφ ⊢; grind) ⟨[pt b1 [.pointer (some ⟨b, 0, none⟩)] 50, pt b2 [.func (.func 28) #[.pointer (some ⟨b, 0, none⟩)] #[]] 55, pt b [.string r, ecV none] 54], Lx, rfl, ?_⟩
    refine .inl ⟨by rw [hg2, gl_nil (by assumption)], ?_⟩
    (have e : ka = (glF s).1.length := drop_nil_at hk (by rw [hg1, gl_nil (by assumption)]); subst e; rw [List.length_map]; exact hS)
  ·
    refine st rfl (o_y (v := .bool true) (y_b (y_k (v := .bool (!(r.toList == (⟨#[]⟩ : ByteArray).toList))) rfl rfl (fun _ => by kernel_rfl)) (str_nf h24)) rfl rfl rfl ?_)
    refine s_nil ?_
    refine q_then ?_
    refine c_true rfl ?_
    refine c_skip ?_
    refine q_then ?_
    refine c_block ?_
    refine c_seq ?_
    refine c_region ?_
    refine st rfl (o_ld 1 rfl rfl rfl Tryd.underlying55 rfl rfl ?_)
    refine st rfl (o_call [2] [0, 1, 2, 3, 4, 5, 6, 7, 8] (next_ b r none ea em ef el (by assumption) (by assumption) (by assumption) (by first | omega | exact Nat.le_trans (next_size _ _) (by omega))) rfl rfl rfl rfl rfl rfl (fun v L' I' hq1 => ?_))
    obtain ⟨rfl, rfl, rfl⟩ := hq1
    refine st rfl (o_box (cs := [.int .i64 0, .int .u64 0, .int .i64 0]) (T := 24) rfl rfl rfl rfl (fun _ => by kernel_rfl) (fun b3 => ?_))
    refine st rfl (o_st 0 rfl rfl rfl rfl rfl (by kernel_rfl) (by kernel_rfl) rfl ?_)
    refine s_nil ?_
    refine q_then ?_
    refine c_seq ?_
    refine c_region ?_
    refine st rfl (o_ld 2 rfl rfl rfl Tryd.underlying50 rfl rfl ?_)
    refine st rfl (o_y (v := .pointer (some ⟨b, 0, none⟩)) (y_k rfl rfl (fun _ => by kernel_rfl)) rfl rfl rfl ?_)
    refine st rfl (o_y (v := .pointer (some ⟨b, 1, none⟩)) (y_k rfl rfl (fun _ => by kernel_rfl)) rfl rfl rfl ?_)
    refine st rfl (o_ld 1 rfl rfl rfl Tryd.underlying46 rfl rfl ?_)
    refine e_by ((nextF r none).2.2 = none) (fun h25 => ?_) (fun h25 => ?_)
    ·
      refine st rfl (o_y (v := .bool false) (y_nt (y_bin rfl rfl (fun w => ec_ne ((nextF r none).2.2) _ w)) h25) rfl rfl rfl ?_)
      refine st rfl (o_y (v := .bool false) (y_mv rfl) rfl rfl rfl ?_)
      refine st_on 18 rfl rfl rfl (o_y (v := .func (.yield lp) #[] #[]) (y_mv rfl) rfl rfl rfl ?_)
      refine st_on 18 rfl rfl rfl (o_ldn 0 3 rfl rfl rfl rfl Tryd.underlying24 rfl (by kernel_rfl) (by kernel_rfl) rfl ?_)
      refine st_on 18 rfl rfl rfl (o_yield [pt b3 [.int .i64 (((nextF r none).1).lv), .int .u64 (((nextF r none).1).cs : Int), .int .i64 (((nextF r none).1).ig)] 24, pt b [.string ((nextF r none).2.1), ecV (nextF r none).2.2] 54, pt b1 [.pointer (some ⟨b, 0, none⟩)] 50, pt b2 [.func (.func 28) #[.pointer (some ⟨b, 0, none⟩)] #[]] 55] Lx Ix (hY ka _ _ _ (by rw [List.getElem?_map, (drop_cons_at (hg1.trans (by rw [gl_cons (by assumption) (by assumption)]))).1]; rfl) hS) rfl rfl rfl (by intro φ hφ; simp only [List.mem_append, List.mem_cons, List.not_mem_nil, or_false, false_or] at hφ ⊢; grind) rfl (fun bb1 Ly1 Iy1 hq2 => ?_))
      rcases hq2 with ⟨rfl, hq2⟩ | ⟨rfl, hq2⟩
      ·
        refine st_on 18 rfl rfl rfl (o_y (v := .bool false) (y_k rfl rfl (fun _ => by kernel_rfl)) rfl rfl rfl ?_)
        refine st rfl (o_y (v := .bool false) (y_pick rfl rfl) rfl rfl rfl ?_)
        refine s_nil ?_
        refine q_then ?_
        refine c_false rfl ?_
        refine c_skip ?_
        refine q_block ?_
        refine q_then ?_
        have hc := drop_cons_at (hg1.trans (by rw [gl_cons (by assumption) (by assumption)]))
        have hno : (nextF r none).2.2 = none := (by assumption)
        have hsz : (nextF r none).2.1.size < r.size := by have e := get_ok hno; have hr := labGet_rest (s := r) (by rw [e]); rw [e] at hr; simp only [] at hr; omega
        rw [hno]
        refine e_drop 0 ?_
        show Ent _ _ _ _ ([pt b [.string ((nextF r none).2.1), ecV none] 54, pt b1 [.pointer (some ⟨b, 0, none⟩)] 50, pt b2 [.func (.func 28) #[.pointer (some ⟨b, 0, none⟩)] #[]] 55] ++ Ly1) _ _
        refine e_perm [1, 1, 0] rfl ?_
        show Ent _ _ _ _ ([pt b1 [.pointer (some ⟨b, 0, none⟩)] 50, pt b2 [.func (.func 28) #[.pointer (some ⟨b, 0, none⟩)] #[]] 55, pt b [.string ((nextF r none).2.1), ecV none] 54] ++ Ly1) _ _
        refine c_again (ka + 1, (nextF r none).2.1, Ly1, Iy1) ?_ ?_ ?_ (by rfl) (by intro φ hφ; simp only [List.mem_append, List.mem_cons, List.not_mem_nil, or_false, false_or] at hφ ⊢; grind)
        · exact (show ((ka + 1) ≤ (glF s).1.length) ∧ ((glF s).1.drop (ka + 1) = (glF ((nextF r none).2.1)).1) ∧ ((glF s).2 = (glF ((nextF r none).2.1)).2) ∧ (((nextF r none).2.1).size ≤ 100000) ∧ (SS (ka + 1) Ly1 Iy1) from ⟨hc.2.2, hc.2.1, by rw [hg2, gl_cons (by assumption) (by assumption)], by omega, hq2⟩)
        · show ((nextF r none).2.1).size < r.size; exact hsz
        · exact (.cons rfl rfl (.cons rfl rfl (.cons rfl rfl .nil)))
      ·
        refine st_on 18 rfl rfl rfl (o_y (v := .bool true) (y_k rfl rfl (fun _ => by kernel_rfl)) rfl rfl rfl ?_)
        refine st rfl (o_y (v := .bool true) (y_pick rfl rfl) rfl rfl rfl ?_)
        refine s_nil ?_
        refine q_then ?_
        refine c_true rfl ?_
        refine c_exit ?_
        refine q_block_exit rfl ?_
        refine q_then_exit ?_
        refine q_block_here ?_
        refine q_nj ?_
        refine e_drop 0 ?_
        show Ent _ _ _ _ ([pt b [.string ((nextF r none).2.1), ecV (nextF r none).2.2] 54, pt b1 [.pointer (some ⟨b, 0, none⟩)] 50, pt b2 [.func (.func 28) #[.pointer (some ⟨b, 0, none⟩)] #[]] 55] ++ Ly1) _ _
        refine e_perm [1, 1, 0] rfl ?_
        show Ent _ _ _ _ ([pt b1 [.pointer (some ⟨b, 0, none⟩)] 50, pt b2 [.func (.func 28) #[.pointer (some ⟨b, 0, none⟩)] #[]] 55, pt b [.string ((nextF r none).2.1), ecV (nextF r none).2.2] 54] ++ Ly1) _ _
        refine c_fin_it (I' := Iy1) rfl rfl (by intro φ hφ; simp only [List.mem_append, List.mem_cons, List.not_mem_nil, or_false, false_or] at hφ ⊢; grind) ⟨[pt b1 [.pointer (some ⟨b, 0, none⟩)] 50, pt b2 [.func (.func 28) #[.pointer (some ⟨b, 0, none⟩)] #[]] 55, pt b [.string ((nextF r none).2.1), ecV (nextF r none).2.2] 54], Ly1, rfl, ?_⟩
        exact .inr ⟨ka, by rw [List.length_map]; exact (drop_cons_at (hg1.trans (by rw [gl_cons (by assumption) (by assumption)]))).2.2, ⟨_, _, rfl⟩, hq2⟩
    ·
      refine st rfl (o_y (v := .bool true) (y_nf (y_bin rfl rfl (fun w => ec_ne ((nextF r none).2.2) _ w)) h25) rfl rfl rfl ?_)
      refine st rfl (o_y (v := .bool true) (y_mv rfl) rfl rfl rfl ?_)
      refine st_off 18 rfl rfl rfl rfl rfl rfl ?_
      refine st_off 18 rfl rfl rfl rfl rfl rfl ?_
      refine st_off 18 rfl rfl rfl rfl rfl rfl ?_
      refine st_off 18 rfl rfl rfl rfl rfl rfl ?_
      refine st rfl (o_y (v := .bool true) (y_pick rfl rfl) rfl rfl rfl ?_)
      refine s_nil ?_
      refine q_then ?_
      refine c_true rfl ?_
      refine c_exit ?_
      refine q_block_exit rfl ?_
      refine q_then_exit ?_
      refine q_block_here ?_
      refine q_nj ?_
      refine e_drop 0 ?_
      show Ent _ _ _ _ ([pt b [.string ((nextF r none).2.1), ecV (nextF r none).2.2] 54, pt b1 [.pointer (some ⟨b, 0, none⟩)] 50, pt b2 [.func (.func 28) #[.pointer (some ⟨b, 0, none⟩)] #[]] 55] ++ Lx) _ _
      refine e_perm [1, 1, 0] rfl ?_
      show Ent _ _ _ _ ([pt b1 [.pointer (some ⟨b, 0, none⟩)] 50, pt b2 [.func (.func 28) #[.pointer (some ⟨b, 0, none⟩)] #[]] 55, pt b [.string ((nextF r none).2.1), ecV (nextF r none).2.2] 54] ++ Lx) _ _
      refine c_fin_it (I' := Ix) rfl rfl (by intro φ hφ; simp only [List.mem_append, List.mem_cons, List.not_mem_nil, or_false, false_or] at hφ ⊢; grind) ⟨[pt b1 [.pointer (some ⟨b, 0, none⟩)] 50, pt b2 [.func (.func 28) #[.pointer (some ⟨b, 0, none⟩)] #[]] 55, pt b [.string ((nextF r none).2.1), ecV (nextF r none).2.2] 54], Lx, rfl, ?_⟩
      refine .inl ⟨by rw [hg2, gl_err (by assumption) (by assumption)], ?_⟩
      (have e : ka = (glF s).1.length := drop_nil_at hk (by rw [hg1, gl_err (by assumption) (by assumption)]); subst e; rw [List.length_map]; exact hS)
end Go.Proofs.YthoefkpbijcdeaaDoor
