/- The laws of chapter 4 (labcode), walked over the given program; no condition but what stands in each theorem: part N. -/
import Derived.Test.YthoefkpbijcdeaaDoorRM
set_option linter.unusedVariables false
set_option linter.unusedSimpArgs false
set_option maxRecDepth 100000
set_option maxHeartbeats 8000000
namespace Go.Proofs.YthoefkpbijcdeaaDoor
open Go Go.Sl Go.RowKit Go.Extern.Stop Go.Stop Go.Extern
theorem rGet_ (w : Int) (s : ByteArray) (hs : s.size ≤ 9223372036854775807) : Con Tryd.prog 46 [.int .i64 w, .string s] [] [] (fun v L' I' => v = .tuple #[.int .u64 ((getF w s).1 : Int), .string ((getF w s).2.1), .int .i64 ((getF w s).2.2)] ∧ L' = [] ∧ I' = []) := by
  refine fn_of Tryd.func46 rfl Tryd.ntmps46 (by kernel_rfl) rfl (fun C => ?_)
  refine c_seq ?_
  refine c_region ?_
  refine st rfl (o_y (v := .int .u64 0) (y_as rfl) rfl rfl rfl ?_)
  refine st rfl (o_y (v := .string (⟨#[]⟩ : ByteArray)) (y_as rfl) rfl rfl rfl ?_)
  refine st rfl (o_y (v := .int .i64 0) (y_as rfl) rfl rfl rfl ?_)
  refine s_nil ?_
  refine q_then ?_
  refine c_seq ?_
  refine c_seq ?_
  refine c_region ?_
  refine st rfl (o_y (v := .int .i64 w) (y_mv rfl) rfl rfl rfl ?_)
  refine st rfl (o_call [] [] (ris_ w) rfl rfl rfl rfl rfl rfl (fun v L' I' hq1 => ?_))
  obtain ⟨hv1, rfl, rfl⟩ := hq1
  refine e_by (isW w) (fun h1 => ?_) (fun h1 => ?_)
  ·
    obtain rfl : v = .bool true := by rw [hv1, decide_eq_true h1]
    refine st rfl (o_y (v := .bool false) (y_k rfl rfl (fun _ => by kernel_rfl)) rfl rfl rfl ?_)
    refine s_nil ?_
    refine q_then ?_
    refine c_false rfl ?_
    refine c_skip ?_
    refine q_then ?_
    refine c_seq ?_
    refine c_seq ?_
    refine c_region ?_
    refine st rfl (o_y (v := .string s) (y_mv rfl) rfl rfl rfl ?_)
    refine st rfl (o_y (v := .int .i64 (s.size : Int)) (y_k rfl rfl (fun _ => by kernel_rfl)) rfl rfl rfl ?_)
    refine st rfl (o_y (v := .int .i64 w) (y_mv rfl) rfl rfl rfl ?_)
    refine e_by ((s.size : Int) < w) (fun h2 => ?_) (fun h2 => ?_)
    ·
      refine st rfl (o_y (v := .bool true) (y_t (y_k (v := .bool (decide ((s.size : Int) < w))) rfl rfl (fun _ => by kernel_rfl)) h2) rfl rfl rfl ?_)
      refine s_nil ?_
      refine q_then ?_
      refine c_true rfl ?_
      refine c_seq ?_
      refine c_region ?_
      refine st rfl (o_y (v := .int .u64 0) (y_as rfl) rfl rfl rfl ?_)
      refine st rfl (o_y (v := .string (⟨#[]⟩ : ByteArray)) (y_as rfl) rfl rfl rfl ?_)
      refine st rfl (o_y (v := .int .i64 30) (y_as rfl) rfl rfl rfl ?_)
      refine s_nil ?_
      refine q_then ?_
      refine c_ret ?_
      refine q_then_ret ?_
      have hp : getF w s = (0, (⟨#[]⟩ : ByteArray), 30) := by unfold getF; first | (rw [if_neg (by assumption)]; done) | (rw [if_pos (by assumption), if_pos (by assumption)]; done) | (rw [if_pos (by assumption), if_neg (by assumption), show w.toNat = k by omega])
      refine c_fin (I' := []) [] [] rfl (.tmp rfl (.tmp rfl (.tmp rfl .nil))) rfl rfl rfl ?_
      rw [hp]
      exact ⟨rfl, rfl, rfl⟩
    ·
      refine st rfl (o_y (v := .bool false) (y_f (y_k (v := .bool (decide ((s.size : Int) < w))) rfl rfl (fun _ => by kernel_rfl)) h2) rfl rfl rfl ?_)
      refine s_nil ?_
      refine q_then ?_
      refine c_false rfl ?_
      refine c_skip ?_
      refine q_then ?_
      refine c_seq ?_
      refine c_region ?_
      refine st rfl (o_y (v := .int .u64 0) (y_as rfl) rfl rfl rfl ?_)
      refine s_nil ?_
      refine q_then ?_
      refine c_seq ?_
      refine c_seq ?_
      refine c_region ?_
      refine st rfl (o_y (v := .int .i64 0) (y_as rfl) rfl rfl rfl ?_)
      refine s_nil ?_
      refine q_then ?_
      refine c_block ?_
      refine c_loopn (ι := Nat) (fun k => ((k : Int) ≤ w)) (fun k => [(0, .int .i64 w), (1, .string s), (4, .int .u64 0), (5, .string (⟨#[]⟩ : ByteArray)), (6, .int .i64 0), (7, .int .u64 ((numL (s.data.toList.take k) : Nat) : Int)), (8, .int .i64 (k : Int))]) (fun k => []) (fun k => []) (fun k => w.toNat - k) (0) [] [] (show (0 : Int) ≤ w from by have := isW_rng (by assumption); omega) ((.cons rfl rfl (.cons rfl rfl (.cons rfl rfl (.cons rfl rfl (.cons rfl rfl (.cons rfl (show (.int .u64 0 : Value) = .int .u64 ((numL (s.data.toList.take 0) : Nat) : Int) from by first | rfl | (congr 1; omega) | (congr 1; simp; done) | (congr 1; simp; omega)) (.cons rfl rfl .nil)))))))) rfl rfl ?_
      rintro k hk
      show Ent 32 C [(0, .int .i64 w), (1, .string s), (4, .int .u64 0), (5, .string (⟨#[]⟩ : ByteArray)), (6, .int .i64 0), (7, .int .u64 ((numL (s.data.toList.take k) : Nat) : Int)), (8, .int .i64 (k : Int))] [] [] [] _
      refine c_seq ?_
      refine c_seq ?_
      refine c_region ?_
      refine st rfl (o_y (v := .int .i64 (k : Int)) (y_mv rfl) rfl rfl rfl ?_)
      refine st rfl (o_y (v := .int .i64 w) (y_mv rfl) rfl rfl rfl ?_)
      refine e_by ((k : Int) < w) (fun h3 => ?_) (fun h3 => ?_)
      ·
        refine st rfl (o_y (v := .bool true) (y_t (y_k (v := .bool (decide ((k : Int) < w))) rfl rfl (fun _ => by kernel_rfl)) h3) rfl rfl rfl ?_)
        refine s_nil ?_
        refine q_then ?_
        refine c_true rfl ?_
        refine c_skip ?_
        refine q_then ?_
        refine c_seq ?_
        refine c_block ?_
        refine c_region ?_
        refine st rfl (o_y (v := .int .u64 ((numL (s.data.toList.take k) : Nat) : Int)) (y_mv rfl) rfl rfl rfl ?_)
        refine st rfl (o_y (v := .int .u64 ((256 * (numL (s.data.toList.take k)) : Nat) : Int)) (y_mulu (a := 256) (b := numL (s.data.toList.take k)) rfl rfl (by have := num_small (l := s.data.toList) (k := k) (by have := isW_rng (by assumption); omega); first | omega | (have h8 := UInt8.toNat_lt (by assumption); omega))) rfl rfl rfl ?_)
        refine st rfl (o_y (v := .string s) (y_mv rfl) rfl rfl rfl ?_)
        refine st rfl (o_y (v := .int .i64 (k : Int)) (y_mv rfl) rfl rfl rfl ?_)
        obtain ⟨x1, hb1⟩ : ∃ x, (s)[k]? = some x := ⟨_, getElem?_pos (s) k (by omega)⟩
        refine st rfl (o_y (v := .int .u8 (x1.toNat : Int)) (y_sidx k x1 rfl rfl (rfl) hb1 Tryd.underlying9) rfl rfl rfl ?_)
        refine st rfl (o_y (v := .int .u64 (x1.toNat : Int)) (y_cvi (r := (x1.toNat : Int)) rfl Tryd.underlying5 Tryd.underlying22 (u8_in64 _)) rfl rfl rfl ?_)
        refine st rfl (o_y (v := .int .u64 (((256 * (numL (s.data.toList.take k))) + x1.toNat : Nat) : Int)) (y_addu (a := 256 * (numL (s.data.toList.take k))) (b := x1.toNat) rfl rfl (by have := num_small (l := s.data.toList) (k := k) (by have := isW_rng (by assumption); omega); first | omega | (have h8 := UInt8.toNat_lt (by assumption); omega))) rfl rfl rfl ?_)
        refine st rfl (o_y (v := .int .u64 (((256 * (numL (s.data.toList.take k))) + x1.toNat : Nat) : Int)) (y_as rfl) rfl rfl rfl ?_)
        refine s_nil ?_
        refine q_block ?_
        refine q_then ?_
        refine c_region ?_
        refine st rfl (o_y (v := .int .i64 (k : Int)) (y_mv rfl) rfl rfl rfl ?_)
        refine st rfl (o_y (v := .int .i64 ((k : Int) + 1)) (y_add (r := (k : Int) + 1) rfl rfl rfl (by omega)) rfl rfl rfl ?_)
        refine st rfl (o_y (v := .int .i64 ((k : Int) + 1)) (y_as rfl) rfl rfl rfl ?_)
        refine s_nil ?_
        refine q_then ?_
        have hstep := numL_take ((getE s k).symm.trans hb1)
        rw [← hstep]
        refine c_next [] [] (k + 1) ?_ ?_ ?_ (by rfl) (by rfl)
        · exact (show ((k + 1) : Int) ≤ w from by first | omega | simp_all | (simp; done))
        · show w.toNat - (k + 1) < w.toNat - k; omega
        · exact (.cons rfl rfl (.cons rfl rfl (.cons rfl rfl (.cons rfl rfl (.cons rfl rfl (.cons rfl rfl (.cons rfl (show (.int .i64 ((k : Int) + 1) : Value) = .int .i64 ((k + 1) : Int) from by first | rfl | (congr 1; omega) | (congr 1; simp; done) | (congr 1; simp; omega)) .nil)))))))
      ·
        refine st rfl (o_y (v := .bool false) (y_f (y_k (v := .bool (decide ((k : Int) < w))) rfl rfl (fun _ => by kernel_rfl)) h3) rfl rfl rfl ?_)
        refine s_nil ?_
        refine q_then ?_
        refine c_false rfl ?_
        refine c_exit ?_
        refine q_then_exit ?_
        refine q_then_exit ?_
        refine q_block_here ?_
        refine q_then ?_
        refine c_seq ?_
        refine c_draw (l := ticked 7 0) [] [] (by kernel_rfl) rfl rfl ?_
        refine a_y (i := 0) (v := .int .u64 ((numL (s.data.toList.take k) : Nat) : Int)) (ticked 7 1) rfl (by as_aux_lemma => kernel_rfl) rfl rfl rfl (by exact y_mv rfl) ?_
        refine a_y (i := 1) (v := .string s) (ticked 7 3) rfl (by as_aux_lemma => kernel_rfl) rfl rfl rfl (by exact y_mv rfl) ?_
        refine a_y (i := 2) (v := .int .i64 w) (ticked 7 7) rfl (by as_aux_lemma => kernel_rfl) rfl rfl rfl (by exact y_mv rfl) ?_
        refine a_y (i := 3) (v := .string (s.extract ((w).toNat) s.size)) (ticked 7 15) rfl (by as_aux_lemma => kernel_rfl) rfl rfl rfl (by exact y_cuts ((w).toNat) s.size rfl (.at ((w).toNat) rfl (by have := isW_rng (by assumption); omega)) .no Tryd.underlying9 (by have := isW_rng (by assumption); omega) (by have := isW_rng (by assumption); omega)) ?_
        refine a_y (i := 4) (v := .int .u64 ((numL (s.data.toList.take k) : Nat) : Int)) (ticked 7 31) rfl (by as_aux_lemma => kernel_rfl) rfl rfl rfl (by exact y_as rfl) ?_
        refine a_y (i := 5) (v := .string (s.extract ((w).toNat) s.size)) (ticked 7 63) rfl (by as_aux_lemma => kernel_rfl) rfl rfl rfl (by exact y_as rfl) ?_
        refine a_y (i := 6) (v := .int .i64 0) (ticked 7 127) rfl (by as_aux_lemma => kernel_rfl) rfl rfl rfl (by exact y_as rfl) ?_
        refine a_done (by as_aux_lemma => kernel_rfl) ?_
        refine q_then ?_
        refine c_ret ?_
        have hp : getF w s = ((numL (s.data.toList.take k) : Nat), s.extract ((w).toNat) s.size, 0) := by unfold getF; first | (rw [if_neg (by assumption)]; done) | (rw [if_pos (by assumption), if_pos (by assumption)]; done) | (rw [if_pos (by assumption), if_neg (by assumption), show w.toNat = k by omega])
        refine c_fin (I' := []) [] [] rfl (.tmp rfl (.tmp rfl (.tmp rfl .nil))) rfl rfl rfl ?_
        rw [hp]
        exact ⟨rfl, rfl, rfl⟩
  ·
    obtain rfl : v = .bool false := by rw [hv1, decide_eq_false h1]
    refine st rfl (o_y (v := .bool true) (y_k rfl rfl (fun _ => by kernel_rfl)) rfl rfl rfl ?_)
    refine s_nil ?_
    refine q_then ?_
    refine c_true rfl ?_
    refine c_seq ?_
    refine c_region ?_
    refine st rfl (o_y (v := .int .u64 0) (y_as rfl) rfl rfl rfl ?_)
    refine st rfl (o_y (v := .string (⟨#[]⟩ : ByteArray)) (y_as rfl) rfl rfl rfl ?_)
    refine st rfl (o_y (v := .int .i64 2) (y_as rfl) rfl rfl rfl ?_)
    refine s_nil ?_
    refine q_then ?_
    refine c_ret ?_
    refine q_then_ret ?_
    have hp : getF w s = (0, (⟨#[]⟩ : ByteArray), 2) := by unfold getF; first | (rw [if_neg (by assumption)]; done) | (rw [if_pos (by assumption), if_pos (by assumption)]; done) | (rw [if_pos (by assumption), if_neg (by assumption), show w.toNat = k by omega])
    refine c_fin (I' := []) [] [] rfl (.tmp rfl (.tmp rfl (.tmp rfl .nil))) rfl rfl rfl ?_
    rw [hp]
    exact ⟨rfl, rfl, rfl⟩
end Go.Proofs.YthoefkpbijcdeaaDoor
