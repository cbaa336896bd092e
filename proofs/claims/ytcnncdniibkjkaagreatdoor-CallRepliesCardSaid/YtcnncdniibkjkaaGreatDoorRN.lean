/- The laws of chapter 17 (call), walked over the given program; no condition but what stands in each theorem: part N. -/
import Derived.Test.YtcnncdniibkjkaaGreatDoorRM
set_option linter.unusedVariables false
set_option linter.unusedSimpArgs false
set_option maxRecDepth 100000
set_option maxHeartbeats 8000000
namespace Go.Proofs.YtcnncdniibkjkaaGreatDoor
open Go Go.Sl Go.RowKit Go.Extern.Stop Go.Stop Go.Extern
theorem rGet_ (w : Int) (s : ByteArray) (hs : s.size ≤ 9223372036854775807) : Con Tryz.prog 30 [.int .i64 w, .string s] [] [] (fun v L' I' => v = .tuple #[.int .u64 ((getF w s).1 : Int), .string ((getF w s).2.1), .int .i64 ((getF w s).2.2)] ∧ L' = [] ∧ I' = []) := by
 refine fn_of Tryz.func30 rfl Tryz.ntmps30 (by kernel_rfl) rfl (fun C => ?_)
 refine c_seq (c_region ?_)
 refine s_y rfl (v := .int .u64 0) (y_as rfl) rfl ?_
 refine s_y rfl (v := .string (⟨#[]⟩ : ByteArray)) (y_as rfl) rfl ?_
 refine s_y rfl (v := .int .i64 0) (y_as rfl) rfl ?_
 refine s_nil (q_then (c_seq (c_seq (c_region ?_))))
 refine s_y rfl (v := .int .i64 w) (y_mv rfl) rfl ?_
 refine st rfl (o_call [] [] (ris_ w) rfl rfl rfl rfl rfl rfl (fun v L' I' hq1 => ?_))
 obtain ⟨hv1, rfl, rfl⟩ := hq1
 refine e_by (isW w) (fun h1 => ?_) (fun h1 => ?_)
 ·
  obtain rfl : v = .bool true := by rw [hv1, decide_eq_true h1]
  refine s_y rfl (v := .bool false) (y_k rfl rfl (fun _ => by kernel_rfl)) rfl ?_
  refine s_nil (q_then (c_false rfl (c_skip (q_then (c_seq (c_seq (c_region ?_)))))))
  refine s_y rfl (v := .string s) (y_mv rfl) rfl ?_
  refine s_y rfl (v := .int .i64 (s.size : Int)) (y_k rfl rfl (fun _ => by kernel_rfl)) rfl ?_
  refine s_y rfl (v := .int .i64 w) (y_mv rfl) rfl ?_
  refine e_by ((s.size : Int) < w) (fun h2 => ?_) (fun h2 => ?_)
  ·
   refine s_y rfl (v := .bool true) (y_t (y_k (v := .bool (decide ((s.size : Int) < w))) rfl rfl (fun _ => by kernel_rfl)) h2) rfl ?_
   refine s_nil (q_then (c_true rfl (c_seq (c_region ?_))))
   refine s_y rfl (v := .int .u64 0) (y_as rfl) rfl ?_
   refine s_y rfl (v := .string (⟨#[]⟩ : ByteArray)) (y_as rfl) rfl ?_
   refine s_y rfl (v := .int .i64 30) (y_as rfl) rfl ?_
   refine s_nil (q_then (c_ret (q_then_ret ?_)))
   have hp : getF w s = (0, (⟨#[]⟩ : ByteArray), 30) := by unfold getF; first | (rw [if_neg (by assumption)]; done) | (rw [if_pos (by assumption), if_pos (by assumption)]; done) | (rw [if_pos (by assumption), if_neg (by assumption), show w.toNat = k by omega])
   refine c_fin (I' := []) [] [] rfl (.tmp rfl (.tmp rfl (.tmp rfl .nil))) rfl rfl rfl ?_
   rw [hp]
   exact ⟨rfl, rfl, rfl⟩
  ·
   refine s_y rfl (v := .bool false) (y_f (y_k (v := .bool (decide ((s.size : Int) < w))) rfl rfl (fun _ => by kernel_rfl)) h2) rfl ?_
   refine s_nil (q_then (c_false rfl (c_skip (q_then (c_seq (c_region ?_))))))
   refine s_y rfl (v := .int .u64 0) (y_as rfl) rfl ?_
   refine s_nil (q_then (c_seq (c_seq (c_region ?_))))
   refine s_y rfl (v := .int .i64 0) (y_as rfl) rfl ?_
   refine s_nil (q_then (c_block ?_))
   refine c_loopn (ι := Nat) (fun k => ((k : Int) ≤ w)) (fun k => [(0, .int .i64 w), (1, .string s), (4, .int .u64 0), (5, .string (⟨#[]⟩ : ByteArray)), (6, .int .i64 0), (7, .int .u64 ((numL (s.data.toList.take k) : Nat) : Int)), (8, .int .i64 (k : Int))]) (fun k => []) (fun k => []) (fun k => w.toNat - k) (0) [] [] (show (0 : Int) ≤ w from by have := isW_rng (by assumption); omega) ((.cons rfl rfl (.cons rfl rfl (.cons rfl rfl (.cons rfl rfl (.cons rfl rfl (.cons rfl (show (.int .u64 0 : Value) = .int .u64 ((numL (s.data.toList.take 0) : Nat) : Int) from by first | rfl | (congr 1; omega) | (congr 1; simp; done) | (congr 1; simp; omega)) (.cons rfl rfl .nil)))))))) rfl rfl ?_
   rintro k hk
   show Ent 32 C [(0, .int .i64 w), (1, .string s), (4, .int .u64 0), (5, .string (⟨#[]⟩ : ByteArray)), (6, .int .i64 0), (7, .int .u64 ((numL (s.data.toList.take k) : Nat) : Int)), (8, .int .i64 (k : Int))] [] [] [] _
   refine c_seq (c_seq (c_region ?_))
   refine s_y rfl (v := .int .i64 (k : Int)) (y_mv rfl) rfl ?_
   refine s_y rfl (v := .int .i64 w) (y_mv rfl) rfl ?_
   refine e_by ((k : Int) < w) (fun h3 => ?_) (fun h3 => ?_)
   ·
    refine s_y rfl (v := .bool true) (y_t (y_k (v := .bool (decide ((k : Int) < w))) rfl rfl (fun _ => by kernel_rfl)) h3) rfl ?_
    refine s_nil (q_then (c_true rfl (c_skip (q_then (c_seq (c_block (c_region ?_)))))))
    refine s_y rfl (v := .int .u64 ((numL (s.data.toList.take k) : Nat) : Int)) (y_mv rfl) rfl ?_
    refine s_y rfl (v := .int .u64 ((256 * (numL (s.data.toList.take k)) : Nat) : Int)) (y_mulu (a := 256) (b := numL (s.data.toList.take k)) rfl rfl (by have := num_small (l := s.data.toList) (k := k) (by have := isW_rng (by assumption); omega); first | omega | (have h8 := UInt8.toNat_lt (by assumption); omega))) rfl ?_
    refine s_y rfl (v := .string s) (y_mv rfl) rfl ?_
    refine s_y rfl (v := .int .i64 (k : Int)) (y_mv rfl) rfl ?_
    obtain ⟨x1, hb1⟩ : ∃ x, (s)[k]? = some x := ⟨_, getElem?_pos (s) k (by omega)⟩
    refine s_y rfl (v := .int .u8 (x1.toNat : Int)) (y_sidx k x1 rfl rfl (rfl) hb1 Tryz.underlying9) rfl ?_
    refine s_y rfl (v := .int .u64 (x1.toNat : Int)) (y_cvi (r := (x1.toNat : Int)) rfl Tryz.underlying5 Tryz.underlying22 (u8_in64 _)) rfl ?_
    refine s_y rfl (v := .int .u64 (((256 * (numL (s.data.toList.take k))) + x1.toNat : Nat) : Int)) (y_addu (a := 256 * (numL (s.data.toList.take k))) (b := x1.toNat) rfl rfl (by have := num_small (l := s.data.toList) (k := k) (by have := isW_rng (by assumption); omega); first | omega | (have h8 := UInt8.toNat_lt (by assumption); omega))) rfl ?_
    refine s_y rfl (v := .int .u64 (((256 * (numL (s.data.toList.take k))) + x1.toNat : Nat) : Int)) (y_as rfl) rfl ?_
    refine s_nil (q_block (q_then (c_region ?_)))
    refine s_y rfl (v := .int .i64 (k : Int)) (y_mv rfl) rfl ?_
    refine s_y rfl (v := .int .i64 ((k : Int) + 1)) (y_add (r := (k : Int) + 1) rfl rfl rfl (by omega)) rfl ?_
    refine s_y rfl (v := .int .i64 ((k : Int) + 1)) (y_as rfl) rfl ?_
    refine s_nil (q_then ?_)
    have hstep := numL_take ((getE s k).symm.trans hb1)
    rw [← hstep]
    refine c_next [] [] (k + 1) ?_ ?_ ?_ (by rfl) (by rfl)
    · exact (show ((k + 1) : Int) ≤ w from by first | omega | simp_all | (simp; done))
    · show w.toNat - (k + 1) < w.toNat - k; omega
    · exact (.cons rfl rfl (.cons rfl rfl (.cons rfl rfl (.cons rfl rfl (.cons rfl rfl (.cons rfl rfl (.cons rfl (show (.int .i64 ((k : Int) + 1) : Value) = .int .i64 ((k + 1) : Int) from by first | rfl | (congr 1; omega) | (congr 1; simp; done) | (congr 1; simp; omega)) .nil)))))))
   ·
    refine s_y rfl (v := .bool false) (y_f (y_k (v := .bool (decide ((k : Int) < w))) rfl rfl (fun _ => by kernel_rfl)) h3) rfl ?_
    refine s_nil (q_then (c_false rfl ?_))
    refine c_exit ?_
    refine q_then_exit ?_
    refine q_then_exit ?_
    refine q_block_here ?_
    refine q_then (c_seq ?_)
    refine c_draw (l := ticked 7 0) [] [] (by kernel_rfl) rfl rfl ?_
    refine b_y (i := 0) (v := .int .u64 ((numL (s.data.toList.take k) : Nat) : Int)) (ticked 7 1) rfl rfl (by exact y_mv rfl) ?_
    refine b_y (i := 1) (v := .string s) (ticked 7 3) rfl rfl (by exact y_mv rfl) ?_
    refine b_y (i := 2) (v := .int .i64 w) (ticked 7 7) rfl rfl (by exact y_mv rfl) ?_
    refine b_y (i := 3) (v := .string (s.extract ((w).toNat) s.size)) (ticked 7 15) rfl rfl (by exact y_cuts ((w).toNat) s.size rfl (.at ((w).toNat) rfl (by have := isW_rng (by assumption); omega)) .no Tryz.underlying9 (by have := isW_rng (by assumption); omega) (by have := isW_rng (by assumption); omega)) ?_
    refine b_y (i := 4) (v := .int .u64 ((numL (s.data.toList.take k) : Nat) : Int)) (ticked 7 31) rfl rfl (by exact y_as rfl) ?_
    refine b_y (i := 5) (v := .string (s.extract ((w).toNat) s.size)) (ticked 7 63) rfl rfl (by exact y_as rfl) ?_
    refine b_y (i := 6) (v := .int .i64 0) (ticked 7 127) rfl rfl (by exact y_as rfl) ?_
    refine a_done (by as_aux_lemma => kernel_rfl) ?_
    refine q_then (c_ret ?_)
    have hp : getF w s = ((numL (s.data.toList.take k) : Nat), s.extract ((w).toNat) s.size, 0) := by unfold getF; first | (rw [if_neg (by assumption)]; done) | (rw [if_pos (by assumption), if_pos (by assumption)]; done) | (rw [if_pos (by assumption), if_neg (by assumption), show w.toNat = k by omega])
    refine c_fin (I' := []) [] [] rfl (.tmp rfl (.tmp rfl (.tmp rfl .nil))) rfl rfl rfl ?_
    rw [hp]
    exact ⟨rfl, rfl, rfl⟩
 ·
  obtain rfl : v = .bool false := by rw [hv1, decide_eq_false h1]
  refine s_y rfl (v := .bool true) (y_k rfl rfl (fun _ => by kernel_rfl)) rfl ?_
  refine s_nil (q_then (c_true rfl (c_seq (c_region ?_))))
  refine s_y rfl (v := .int .u64 0) (y_as rfl) rfl ?_
  refine s_y rfl (v := .string (⟨#[]⟩ : ByteArray)) (y_as rfl) rfl ?_
  refine s_y rfl (v := .int .i64 2) (y_as rfl) rfl ?_
  refine s_nil (q_then (c_ret (q_then_ret ?_)))
  have hp : getF w s = (0, (⟨#[]⟩ : ByteArray), 2) := by unfold getF; first | (rw [if_neg (by assumption)]; done) | (rw [if_pos (by assumption), if_pos (by assumption)]; done) | (rw [if_pos (by assumption), if_neg (by assumption), show w.toNat = k by omega])
  refine c_fin (I' := []) [] [] rfl (.tmp rfl (.tmp rfl (.tmp rfl .nil))) rfl rfl rfl ?_
  rw [hp]
  exact ⟨rfl, rfl, rfl⟩
theorem rPutText_ (t : ByteArray) (ht : t.size ≤ 9223372036854775807) : Con Tryz.prog 36 [.string t] [] [] (fun v L' I' => v = .tuple #[.string ((ptextF t).1), .int .i64 ((ptextF t).2)] ∧ L' = [] ∧ I' = []) := by
 refine fn_of Tryz.func36 rfl Tryz.ntmps36 (by kernel_rfl) rfl (fun C => ?_)
 refine c_seq (c_region ?_)
 refine s_y rfl (v := .string (⟨#[]⟩ : ByteArray)) (y_as rfl) rfl ?_
 refine s_y rfl (v := .int .i64 0) (y_as rfl) rfl ?_
 refine s_nil (q_then (c_seq (c_seq (c_region ?_))))
 refine s_y rfl (v := .string t) (y_mv rfl) rfl ?_
 refine s_y rfl (v := .int .i64 (t.size : Int)) (y_k rfl rfl (fun _ => by kernel_rfl)) rfl ?_
 refine e_by ((t.size : Int) > 200) (fun h1 => ?_) (fun h1 => ?_)
 ·
  refine s_y rfl (v := .bool true) (y_t (y_k (v := .bool (decide ((t.size : Int) > 200))) rfl rfl (fun _ => by kernel_rfl)) h1) rfl ?_
  refine s_nil (q_then (c_true rfl (c_seq (c_region ?_))))
  refine s_y rfl (v := .string (⟨#[]⟩ : ByteArray)) (y_as rfl) rfl ?_
  refine s_y rfl (v := .int .i64 31) (y_as rfl) rfl ?_
  refine s_nil (q_then (c_ret (q_then_ret ?_)))
  have hp : ptextF t = ((⟨#[]⟩ : ByteArray), 31) := by unfold ptextF; first | (rw [if_pos (by assumption)]; done) | (rw [if_neg (by assumption), one_byte]; done)
  refine c_fin (I' := []) [] [] rfl (.tmp rfl (.tmp rfl .nil)) rfl rfl rfl ?_
  rw [hp]
  exact ⟨rfl, rfl, rfl⟩
 ·
  refine s_y rfl (v := .bool false) (y_f (y_k (v := .bool (decide ((t.size : Int) > 200))) rfl rfl (fun _ => by kernel_rfl)) h1) rfl ?_
  refine s_nil (q_then (c_false rfl (c_skip (q_then (c_seq (c_region ?_))))))
  refine s_y rfl (v := .string t) (y_mv rfl) rfl ?_
  refine s_y rfl (v := .int .i64 (t.size : Int)) (y_k rfl rfl (fun _ => by kernel_rfl)) rfl ?_
  refine s_y rfl (v := .int .u8 ((u8of (t.size : Int)).toNat : Int)) (y_cvi (r := ((u8of (t.size : Int)).toNat : Int)) rfl Tryz.underlying3 Tryz.underlying5 (u8of_wrap _)) rfl ?_
  refine st rfl (o_lit (cs := [.int .u8 ((u8of (t.size : Int)).toNat : Int)]) (T := 5) (m := 1) rfl rfl rfl rfl (fun _ => by kernel_rfl) (fun b1 => ?_))
  refine st rfl (o_b2s (l := [u8of (t.size : Int)]) rfl rfl (src_pt 0 rfl) Tryz.underlying105 Tryz.underlying9 Tryz.underlying5 rfl ?_)
  refine s_y rfl (v := .string t) (y_mv rfl) rfl ?_
  refine s_y rfl (v := .string ((⟨List.toArray [u8of (t.size : Int)]⟩ : ByteArray) ++ t)) (y_cat (s := (⟨List.toArray [u8of (t.size : Int)]⟩ : ByteArray)) (u := t) rfl rfl (by show 1 + _ ≤ _; omega)) rfl ?_
  refine s_y rfl (v := .string ((⟨List.toArray [u8of (t.size : Int)]⟩ : ByteArray) ++ t)) (y_as rfl) rfl ?_
  refine s_y rfl (v := .int .i64 0) (y_as rfl) rfl ?_
  refine s_nil (q_then (c_ret ?_))
  have hp : ptextF t = ((⟨List.toArray [u8of (t.size : Int)]⟩ : ByteArray) ++ t, 0) := by unfold ptextF; first | (rw [if_pos (by assumption)]; done) | (rw [if_neg (by assumption), one_byte]; done)
  refine c_fin (I' := []) [] [] rfl (.tmp rfl (.tmp rfl .nil)) rfl rfl rfl ?_
  rw [hp]
  exact ⟨rfl, rfl, rfl⟩
theorem rGetText_ (s : ByteArray) (hs : s.size ≤ 9223372036854775807) : Con Tryz.prog 40 [.string s] [] [] (fun v L' I' => v = .tuple #[.string ((textF s).1), .string ((textF s).2.1), .int .i64 ((textF s).2.2)] ∧ L' = [] ∧ I' = []) := by
 have g1 := getF_lt 1 s
 have g2 := getF_rest 1 s
 refine fn_of Tryz.func40 rfl Tryz.ntmps40 (by kernel_rfl) rfl (fun C => ?_)
 refine c_seq (c_region ?_)
 refine s_y rfl (v := .string (⟨#[]⟩ : ByteArray)) (y_as rfl) rfl ?_
 refine s_y rfl (v := .string (⟨#[]⟩ : ByteArray)) (y_as rfl) rfl ?_
 refine s_y rfl (v := .int .i64 0) (y_as rfl) rfl ?_
 refine s_nil (q_then (c_seq (c_region ?_)))
 refine s_y rfl (v := .string s) (y_mv rfl) rfl ?_
 refine st rfl (o_call [] [] (rGet_ (1 : Int) s (by first | omega | (rw [ByteArray.size_append]; omega) | decide | assumption)) rfl rfl rfl rfl rfl rfl (fun v L' I' hq1 => ?_))
 obtain ⟨rfl, rfl, rfl⟩ := hq1
 refine s_y rfl (v := .tuple #[.int .u64 ((getF (1 : Int) s).1 : Int), .string ((getF (1 : Int) s).2.1), .int .i64 ((getF (1 : Int) s).2.2)]) (y_mv rfl) rfl ?_
 refine s_y rfl (v := .int .u64 ((getF (1 : Int) s).1 : Int)) (y_k rfl rfl (fun _ => by kernel_rfl)) rfl ?_
 refine s_y rfl (v := .string ((getF (1 : Int) s).2.1)) (y_k rfl rfl (fun _ => by kernel_rfl)) rfl ?_
 refine s_y rfl (v := .int .i64 ((getF (1 : Int) s).2.2)) (y_k rfl rfl (fun _ => by kernel_rfl)) rfl ?_
 refine s_y rfl (v := .int .u64 ((getF (1 : Int) s).1 : Int)) (y_as rfl) rfl ?_
 refine s_y rfl (v := .string ((getF (1 : Int) s).2.1)) (y_as rfl) rfl ?_
 refine s_y rfl (v := .int .i64 ((getF (1 : Int) s).2.2)) (y_as rfl) rfl ?_
 refine s_nil (q_then (c_seq (c_seq (c_region ?_))))
 refine s_y rfl (v := .int .i64 ((getF (1 : Int) s).2.2)) (y_mv rfl) rfl ?_
 refine e_by ((getF (1 : Int) s).2.2 = 0) (fun h1 => ?_) (fun h1 => ?_)
 ·
  refine s_y rfl (v := .bool false) (y_nt (y_k (v := .bool (!decide ((getF (1 : Int) s).2.2 = 0))) rfl rfl (fun _ => by kernel_rfl)) h1) rfl ?_
  refine s_nil (q_then (c_false rfl (c_skip (q_then (c_seq (c_seq (c_region ?_)))))))
  refine s_y rfl (v := .int .u64 ((getF (1 : Int) s).1 : Int)) (y_mv rfl) rfl ?_
  refine e_by (((getF (1 : Int) s).1 : Int) > 200) (fun h2 => ?_) (fun h2 => ?_)
  ·
   refine s_y rfl (v := .bool true) (y_t (y_k (v := .bool (decide (((getF (1 : Int) s).1 : Int) > 200))) rfl rfl (fun _ => by kernel_rfl)) h2) rfl ?_
   refine s_nil (q_then (c_true rfl (c_seq (c_region ?_))))
   refine s_y rfl (v := .string (⟨#[]⟩ : ByteArray)) (y_as rfl) rfl ?_
   refine s_y rfl (v := .string (⟨#[]⟩ : ByteArray)) (y_as rfl) rfl ?_
   refine s_y rfl (v := .int .i64 31) (y_as rfl) rfl ?_
   refine s_nil (q_then (c_ret (q_then_ret ?_)))
   have hp : textF s = ((⟨#[]⟩ : ByteArray), (⟨#[]⟩ : ByteArray), 31) := by unfold textF; first | (rw [if_neg (by assumption)]; done) | (rw [if_pos (by assumption), if_pos (by assumption)]; done) | (rw [if_pos (by assumption), if_neg (by assumption), if_pos (by assumption)]; done) | (rw [if_pos (by assumption), if_neg (by assumption), if_neg (by assumption)]; done)
   refine c_fin (I' := []) [] [] rfl (.tmp rfl (.tmp rfl (.tmp rfl .nil))) rfl rfl rfl ?_
   rw [hp]
   exact ⟨rfl, rfl, rfl⟩
  ·
   refine s_y rfl (v := .bool false) (y_f (y_k (v := .bool (decide (((getF (1 : Int) s).1 : Int) > 200))) rfl rfl (fun _ => by kernel_rfl)) h2) rfl ?_
   refine s_nil (q_then (c_false rfl (c_skip (q_then (c_seq (c_seq (c_region ?_)))))))
   refine s_y rfl (v := .string ((getF (1 : Int) s).2.1)) (y_mv rfl) rfl ?_
   refine s_y rfl (v := .int .i64 (((getF (1 : Int) s).2.1).size : Int)) (y_k rfl rfl (fun _ => by kernel_rfl)) rfl ?_
   refine s_y rfl (v := .int .u64 (((getF (1 : Int) s).2.1).size : Int)) (y_cvi (r := (((getF (1 : Int) s).2.1).size : Int)) rfl Tryz.underlying3 Tryz.underlying22 (IntWalk.u64_in _ (by omega))) rfl ?_
   refine s_y rfl (v := .int .u64 ((getF (1 : Int) s).1 : Int)) (y_mv rfl) rfl ?_
   refine e_by ((((getF (1 : Int) s).2.1).size : Int) < ((getF (1 : Int) s).1 : Int)) (fun h3 => ?_) (fun h3 => ?_)
   ·
    refine s_y rfl (v := .bool true) (y_t (y_k (v := .bool (decide ((((getF (1 : Int) s).2.1).size : Int) < ((getF (1 : Int) s).1 : Int)))) rfl rfl (fun _ => by kernel_rfl)) h3) rfl ?_
    refine s_nil (q_then (c_true rfl (c_seq (c_region ?_))))
    refine s_y rfl (v := .string (⟨#[]⟩ : ByteArray)) (y_as rfl) rfl ?_
    refine s_y rfl (v := .string (⟨#[]⟩ : ByteArray)) (y_as rfl) rfl ?_
    refine s_y rfl (v := .int .i64 30) (y_as rfl) rfl ?_
    refine s_nil (q_then (c_ret (q_then_ret ?_)))
    have hp : textF s = ((⟨#[]⟩ : ByteArray), (⟨#[]⟩ : ByteArray), 30) := by unfold textF; first | (rw [if_neg (by assumption)]; done) | (rw [if_pos (by assumption), if_pos (by assumption)]; done) | (rw [if_pos (by assumption), if_neg (by assumption), if_pos (by assumption)]; done) | (rw [if_pos (by assumption), if_neg (by assumption), if_neg (by assumption)]; done)
    refine c_fin (I' := []) [] [] rfl (.tmp rfl (.tmp rfl (.tmp rfl .nil))) rfl rfl rfl ?_
    rw [hp]
    exact ⟨rfl, rfl, rfl⟩
   ·
    refine s_y rfl (v := .bool false) (y_f (y_k (v := .bool (decide ((((getF (1 : Int) s).2.1).size : Int) < ((getF (1 : Int) s).1 : Int)))) rfl rfl (fun _ => by kernel_rfl)) h3) rfl ?_
    refine s_nil (q_then (c_false rfl (c_skip (q_then (c_seq ?_)))))
    refine c_draw (l := ticked 9 0) [] [] (by kernel_rfl) rfl rfl ?_
    refine b_y (i := 0) (v := .string ((getF (1 : Int) s).2.1)) (ticked 9 1) rfl rfl (by exact y_mv rfl) ?_
    refine b_y (i := 1) (v := .int .u64 ((getF (1 : Int) s).1 : Int)) (ticked 9 3) rfl rfl (by exact y_mv rfl) ?_
    refine b_y (i := 2) (v := .string (((getF (1 : Int) s).2.1).extract 0 ((getF 1 s).1))) (ticked 9 7) rfl rfl (by exact y_cuts 0 ((getF 1 s).1) rfl .no (.at ((getF 1 s).1) rfl (rfl)) Tryz.underlying9 (by omega) (by omega)) ?_
    refine b_y (i := 3) (v := .string ((getF (1 : Int) s).2.1)) (ticked 9 15) rfl rfl (by exact y_mv rfl) ?_
    refine b_y (i := 4) (v := .int .u64 ((getF (1 : Int) s).1 : Int)) (ticked 9 31) rfl rfl (by exact y_mv rfl) ?_
    refine b_y (i := 5) (v := .string (((getF (1 : Int) s).2.1).extract ((getF 1 s).1) (((getF (1 : Int) s).2.1).size))) (ticked 9 63) rfl rfl (by exact y_cuts ((getF 1 s).1) (((getF (1 : Int) s).2.1).size) rfl (.at ((getF 1 s).1) rfl (rfl)) .no Tryz.underlying9 (by omega) (by omega)) ?_
    refine b_y (i := 6) (v := .string (((getF (1 : Int) s).2.1).extract 0 ((getF 1 s).1))) (ticked 9 127) rfl rfl (by exact y_as rfl) ?_
    refine b_y (i := 7) (v := .string (((getF (1 : Int) s).2.1).extract ((getF 1 s).1) (((getF (1 : Int) s).2.1).size))) (ticked 9 255) rfl rfl (by exact y_as rfl) ?_
    refine b_y (i := 8) (v := .int .i64 0) (ticked 9 511) rfl rfl (by exact y_as rfl) ?_
    refine a_done (by as_aux_lemma => kernel_rfl) ?_
    refine q_then (c_ret ?_)
    have hp : textF s = (((getF (1 : Int) s).2.1).extract 0 ((getF 1 s).1), ((getF (1 : Int) s).2.1).extract ((getF 1 s).1) (((getF (1 : Int) s).2.1).size), 0) := by unfold textF; first | (rw [if_neg (by assumption)]; done) | (rw [if_pos (by assumption), if_pos (by assumption)]; done) | (rw [if_pos (by assumption), if_neg (by assumption), if_pos (by assumption)]; done) | (rw [if_pos (by assumption), if_neg (by assumption), if_neg (by assumption)]; done)
    refine c_fin (I' := []) [] [] rfl (.tmp rfl (.tmp rfl (.tmp rfl .nil))) rfl rfl rfl ?_
    rw [hp]
    exact ⟨rfl, rfl, rfl⟩
 ·
  refine s_y rfl (v := .bool true) (y_nf (y_k (v := .bool (!decide ((getF (1 : Int) s).2.2 = 0))) rfl rfl (fun _ => by kernel_rfl)) h1) rfl ?_
  refine s_nil (q_then (c_true rfl (c_seq (c_region ?_))))
  refine s_y rfl (v := .int .i64 ((getF (1 : Int) s).2.2)) (y_mv rfl) rfl ?_
  refine s_y rfl (v := .string (⟨#[]⟩ : ByteArray)) (y_as rfl) rfl ?_
  refine s_y rfl (v := .string (⟨#[]⟩ : ByteArray)) (y_as rfl) rfl ?_
  refine s_y rfl (v := .int .i64 ((getF (1 : Int) s).2.2)) (y_as rfl) rfl ?_
  refine s_nil (q_then (c_ret (q_then_ret ?_)))
  have hp : textF s = ((⟨#[]⟩ : ByteArray), (⟨#[]⟩ : ByteArray), (getF (1 : Int) s).2.2) := by unfold textF; first | (rw [if_neg (by assumption)]; done) | (rw [if_pos (by assumption), if_pos (by assumption)]; done) | (rw [if_pos (by assumption), if_neg (by assumption), if_pos (by assumption)]; done) | (rw [if_pos (by assumption), if_neg (by assumption), if_neg (by assumption)]; done)
  refine c_fin (I' := []) [] [] rfl (.tmp rfl (.tmp rfl (.tmp rfl .nil))) rfl rfl rfl ?_
  rw [hp]
  exact ⟨rfl, rfl, rfl⟩
end Go.Proofs.YtcnncdniibkjkaaGreatDoor
