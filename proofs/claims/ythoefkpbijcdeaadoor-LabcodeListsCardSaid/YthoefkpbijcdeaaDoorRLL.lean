/- The laws of chapter 4 (labcode), walked over the given program; no condition but what stands in each theorem: part LL. -/
import Derived.Test.YthoefkpbijcdeaaDoorRLJ
set_option linter.unusedVariables false
set_option linter.unusedSimpArgs false
set_option maxRecDepth 100000
set_option maxHeartbeats 8000000
namespace Go.Proofs.YthoefkpbijcdeaaDoor
open Go Go.Sl Go.RowKit Go.Extern.Stop Go.Stop Go.Extern
theorem rlGetList_ (s : ByteArray) (hs : s.size ≤ 100000) : Con Tryd.prog 17 [.string s] [] [] (fun v L' I' => ∃ A1 : Option Addr, ∃ c1 : Nat, v = .tuple #[.slice A1 ((glR s).1).length c1, .int .i64 ((glR s).2)] ∧ L' = [win labTy 24 A1 c1 ((glR s).1)] ∧ I' = []) := by
  refine fn_of Tryd.func17 rfl Tryd.ntmps17 (by kernel_rfl) rfl (fun C => ?_)
  refine c_seq ?_
  refine c_region ?_
  refine st rfl (o_y (v := .slice none 0 0) (y_as rfl) rfl rfl rfl ?_)
  refine st rfl (o_y (v := .int .i64 0) (y_as rfl) rfl rfl rfl ?_)
  refine s_nil ?_
  refine q_then ?_
  refine c_seq ?_
  refine c_region ?_
  refine st rfl (o_y (v := .slice none 0 0) (y_as rfl) rfl rfl rfl ?_)
  refine s_nil ?_
  refine q_then ?_
  refine c_seq ?_
  refine c_block ?_
  refine e_nil labTy 24 ?_
  refine c_loopn (ι := (List Lab) × ByteArray × (Option Addr) × Nat) (fun (a, r, Ao, co) => ((glF s).1 = a ++ (glF r).1) ∧ ((glF s).2 = (glF r).2) ∧ (r.size ≤ 100000)) (fun (a, r, Ao, co) => [(0, .string r), (4, .slice Ao a.length co)]) (fun (a, r, Ao, co) => [ars labTy 24 Ao co a]) (fun (a, r, Ao, co) => []) (fun (a, r, Ao, co) => r.size) ([], s, none, 0) [0] [] (show ((glF s).1 = [] ++ (glF s).1) ∧ ((glF s).2 = (glF s).2) ∧ (s.size ≤ 100000) from ⟨by simp, rfl, by first | omega | simp_all | (simp; done)⟩) ((.cons rfl rfl (.cons rfl (show (.slice none 0 0 : Value) = .slice none [].length 0 from by first | rfl | (congr 1; omega) | (congr 1; simp; done) | (congr 1; simp; omega)) .nil))) rfl rfl ?_
  rintro ⟨a, r, Ao, co⟩ ⟨hg1, hg2, hr⟩
  show Ent 25 C [(0, .string r), (4, .slice Ao a.length co)] [] [ars labTy 24 Ao co a] [] _
  refine c_seq ?_
  refine c_seq ?_
  refine c_region ?_
  refine st rfl (o_y (v := .string r) (y_mv rfl) rfl rfl rfl ?_)
  refine e_by (r = (⟨#[]⟩ : ByteArray)) (fun h1 => ?_) (fun h1 => ?_)
  ·
    refine st rfl (o_y (v := .bool false) (y_b (y_k (v := .bool (!(r.toList == (⟨#[]⟩ : ByteArray).toList))) rfl rfl (fun _ => by kernel_rfl)) (str_nt h1)) rfl rfl rfl ?_)
    refine s_nil ?_
    refine q_then ?_
    refine c_false rfl ?_
    refine c_exit ?_
    refine q_then_exit ?_
    refine q_then_exit ?_
    refine q_block_here ?_
    refine q_then ?_
    refine c_seq ?_
    refine c_region ?_
    refine st rfl (o_y (v := .slice Ao a.length co) (y_mv rfl) rfl rfl rfl ?_)
    refine st rfl (o_y (v := .slice Ao a.length co) (y_as rfl) rfl rfl rfl ?_)
    refine st rfl (o_y (v := .int .i64 0) (y_as rfl) rfl rfl rfl ?_)
    refine s_nil ?_
    refine q_then ?_
    refine c_ret ?_
    refine e_weak 0 rfl (fun _ h => h.win) ?_
    have hp : glR s = (a, 0) := by first | exact rgl_end hg1 hg2 (by assumption) | exact rgl_bad hg2 (by assumption) (by assumption)
    refine c_fin (I' := []) [0] [] rfl (.tmp rfl (.tmp rfl .nil)) rfl rfl rfl ?_
    rw [hp]
    exact ⟨_, _, rfl, rfl, rfl⟩
  ·
    refine st rfl (o_y (v := .bool true) (y_b (y_k (v := .bool (!(r.toList == (⟨#[]⟩ : ByteArray).toList))) rfl rfl (fun _ => by kernel_rfl)) (str_nf h1)) rfl rfl rfl ?_)
    refine s_nil ?_
    refine q_then ?_
    refine c_true rfl ?_
    refine c_skip ?_
    refine q_then ?_
    refine c_block ?_
    refine c_seq ?_
    refine c_region ?_
    refine st rfl (o_y (v := .string r) (y_mv rfl) rfl rfl rfl ?_)
    refine st rfl (o_call [] [] (rlGet_ r (by first | omega | (rw [ByteArray.size_append]; omega) | decide | assumption)) rfl rfl rfl rfl rfl rfl (fun v L' I' hq1 => ?_))
    obtain ⟨rfl, rfl, rfl⟩ := hq1
    refine st rfl (o_y (v := .tuple #[.agg #[.int .i64 (((labGet r).1).lv), .int .u64 (((labGet r).1).cs : Int), .int .i64 (((labGet r).1).ig)], .string ((labGet r).2.1), .int .i64 ((labGet r).2.2)]) (y_mv rfl) rfl rfl rfl ?_)
    refine st rfl (o_y (v := .agg #[.int .i64 (((labGet r).1).lv), .int .u64 (((labGet r).1).cs : Int), .int .i64 (((labGet r).1).ig)]) (y_k rfl rfl (fun _ => by kernel_rfl)) rfl rfl rfl ?_)
    refine st rfl (o_y (v := .string ((labGet r).2.1)) (y_k rfl rfl (fun _ => by kernel_rfl)) rfl rfl rfl ?_)
    refine st rfl (o_y (v := .int .i64 ((labGet r).2.2)) (y_k rfl rfl (fun _ => by kernel_rfl)) rfl rfl rfl ?_)
    refine st rfl (o_box (cs := [.int .i64 0, .int .u64 0, .int .i64 0]) (T := 24) rfl rfl rfl rfl (fun _ => by kernel_rfl) (fun b1 => ?_))
    refine st rfl (o_st 0 rfl rfl rfl rfl rfl (by kernel_rfl) (by kernel_rfl) rfl ?_)
    refine st rfl (o_y (v := .string ((labGet r).2.1)) (y_as rfl) rfl rfl rfl ?_)
    refine st rfl (o_y (v := .int .i64 ((labGet r).2.2)) (y_as rfl) rfl rfl rfl ?_)
    refine s_nil ?_
    refine q_then ?_
    refine c_seq ?_
    refine c_seq ?_
    refine c_region ?_
    refine st rfl (o_y (v := .int .i64 ((labGet r).2.2)) (y_mv rfl) rfl rfl rfl ?_)
    refine e_by ((labGet r).2.2 = 0) (fun h2 => ?_) (fun h2 => ?_)
    ·
      refine st rfl (o_y (v := .bool false) (y_nt (y_k (v := .bool (!decide ((labGet r).2.2 = 0))) rfl rfl (fun _ => by kernel_rfl)) h2) rfl rfl rfl ?_)
      refine s_nil ?_
      refine q_then ?_
      refine c_false rfl ?_
      refine c_skip ?_
      refine q_then ?_
      refine c_seq ?_
      refine c_region ?_
      refine st rfl (o_y (v := .slice Ao a.length co) (y_mv rfl) rfl rfl rfl ?_)
      refine st rfl (o_ldn 0 3 rfl rfl rfl rfl Tryd.underlying24 rfl (by kernel_rfl) (by kernel_rfl) rfl ?_)
      refine st rfl (o_lit (cs := [.int .i64 (((labGet r).1).lv), .int .u64 (((labGet r).1).cs : Int), .int .i64 (((labGet r).1).ig)]) (T := 24) (m := 1) rfl rfl rfl rfl (fun _ => by kernel_rfl) (fun b2 => ?_))
      refine st rfl (o_app (l := a) (us := [(labGet r).1]) 2 rfl rfl rfl rfl rfl (src_pt 0 rfl) Tryd.underlying34 (elem_of (z := .agg #[.int .i64 0, .int .u64 0, .int .i64 0]) (sz := 3) (bytes := 24) (by kernel_rfl) rfl) rfl (by have q := rgl_len hg1; simp only [List.length_cons, List.length_nil]; omega) rfl rfl (fun A1 c1 => ?_))
      refine st rfl (o_y (v := .slice A1 (a ++ [(labGet r).1]).length c1) (y_as rfl) rfl rfl rfl ?_)
      refine s_nil ?_
      refine q_then ?_
      refine c_region ?_
      refine st rfl (o_y (v := .string ((labGet r).2.1)) (y_mv rfl) rfl rfl rfl ?_)
      refine st rfl (o_y (v := .string ((labGet r).2.1)) (y_as rfl) rfl rfl rfl ?_)
      refine s_nil ?_
      refine q_block ?_
      refine q_then ?_
      refine c_next [2] [] (a ++ [(labGet r).1], (labGet r).2.1, A1, c1) ?_ ?_ ?_ (by rfl) (by rfl)
      · exact (show ((glF s).1 = (a ++ [(labGet r).1]) ++ (glF ((labGet r).2.1)).1) ∧ ((glF s).2 = (glF ((labGet r).2.1)).2) ∧ (((labGet r).2.1).size ≤ 100000) from ⟨rgl_s1 hg1 (by assumption) (by assumption), rgl_s2 hg2 (by assumption) (by assumption), Nat.le_trans (labGet_size _) hr⟩)
      · show ((labGet r).2.1).size < r.size; (have q := labGet_rest (s := r) (by assumption); have q2 := size_pos (s := r) (by assumption); omega)
      · exact (.cons rfl rfl (.cons rfl rfl .nil))
    ·
      refine st rfl (o_y (v := .bool true) (y_nf (y_k (v := .bool (!decide ((labGet r).2.2 = 0))) rfl rfl (fun _ => by kernel_rfl)) h2) rfl rfl rfl ?_)
      refine s_nil ?_
      refine q_then ?_
      refine c_true rfl ?_
      refine c_seq ?_
      refine c_region ?_
      refine st rfl (o_y (v := .int .i64 ((labGet r).2.2)) (y_mv rfl) rfl rfl rfl ?_)
      refine st rfl (o_y (v := .slice none 0 0) (y_as rfl) rfl rfl rfl ?_)
      refine st rfl (o_y (v := .int .i64 ((labGet r).2.2)) (y_as rfl) rfl rfl rfl ?_)
      refine s_nil ?_
      refine q_then ?_
      refine c_ret ?_
      refine q_then_ret ?_
      refine q_block_ret ?_
      refine q_then_ret ?_
      refine q_block_ret ?_
      refine q_then_ret ?_
      refine e_nil labTy 24 ?_
      refine e_weak 0 rfl (fun _ h => h.win) ?_
      have hp : glR s = ([], (labGet r).2.2) := by first | exact rgl_end hg1 hg2 (by assumption) | exact rgl_bad hg2 (by assumption) (by assumption)
      refine c_fin (I' := []) [0] [] rfl (.tmp rfl (.tmp rfl .nil)) rfl rfl rfl ?_
      rw [hp]
      exact ⟨_, _, rfl, rfl, rfl⟩
end Go.Proofs.YthoefkpbijcdeaaDoor
