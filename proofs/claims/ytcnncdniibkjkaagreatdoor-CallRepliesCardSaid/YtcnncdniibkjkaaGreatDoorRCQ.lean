/- The laws of chapter 17 (call), walked over the given program; no condition but what stands in each theorem: part CQ. -/
import Derived.Test.YtcnncdniibkjkaaGreatDoorRCP
set_option linter.unusedVariables false
set_option linter.unusedSimpArgs false
set_option maxRecDepth 100000
set_option maxHeartbeats 8000000
namespace Go.Proofs.YtcnncdniibkjkaaGreatDoor
open Go Go.Sl Go.RowKit Go.Extern.Stop Go.Stop Go.Extern
theorem equals_ (A : Option Addr) (c : Nat) (l : List ByteArray) (B : Option Addr) (k : Nat) (r : List ByteArray) (hn : l.length ≤ 1000000) : Con Tryz.prog 43 [.slice A l.length c, .slice B r.length k] [] [rd strTy A c l, rd strTy B k r] (fun v L' I' => v = .bool (decide (l = r)) ∧ L' = [] ∧ I' = []) := by
 refine fn_of Tryz.func43 rfl Tryz.ntmps43 (by kernel_rfl) rfl (fun C => ?_)
 refine c_seq (c_region ?_)
 refine s_y rfl (v := .bool false) (y_as rfl) rfl ?_
 refine s_nil (q_then (c_seq (c_seq (c_region ?_))))
 refine s_y rfl (v := .slice A l.length c) (y_mv rfl) rfl ?_
 refine s_y rfl (v := .int .i64 (l.length : Int)) (y_k rfl rfl (fun _ => by kernel_rfl)) rfl ?_
 refine s_y rfl (v := .slice B r.length k) (y_mv rfl) rfl ?_
 refine s_y rfl (v := .int .i64 (r.length : Int)) (y_k rfl rfl (fun _ => by kernel_rfl)) rfl ?_
 refine e_by ((l.length : Int) = (r.length : Int)) (fun h1 => ?_) (fun h1 => ?_)
 ·
  refine s_y rfl (v := .bool false) (y_nt (y_k (v := .bool (!decide ((l.length : Int) = (r.length : Int)))) rfl rfl (fun _ => by kernel_rfl)) h1) rfl ?_
  refine s_nil (q_then (c_false rfl (c_skip (q_then (c_seq (c_seq (c_region ?_)))))))
  refine s_y rfl (v := .slice A l.length c) (y_mv rfl) rfl ?_
  refine s_y rfl (v := .int .i64 (l.length : Int)) (y_k rfl rfl (fun _ => by kernel_rfl)) rfl ?_
  refine s_y rfl (v := .int .i64 0) (y_mv rfl) rfl ?_
  refine s_nil (q_then (c_block ?_))
  refine c_loopn (ι := Nat) (fun kk => (kk ≤ l.length) ∧ (l.take kk = r.take kk)) (fun kk => [(0, .slice A l.length c), (1, .slice B r.length k), (12, .int .i64 (l.length : Int)), (13, .int .i64 (kk : Int))]) (fun kk => []) (fun kk => [rd strTy A c l, rd strTy B k r]) (fun kk => l.length - kk) (0) [] [0, 1] (show (0 ≤ l.length) ∧ (l.take 0 = r.take 0) from ⟨by first | omega | simp_all | (simp; done), rfl⟩) ((.cons rfl rfl (.cons rfl rfl (.cons rfl rfl (.cons rfl rfl .nil))))) rfl rfl ?_
  rintro kk ⟨hk, he⟩
  show Ent 26 C [(0, .slice A l.length c), (1, .slice B r.length k), (12, .int .i64 (l.length : Int)), (13, .int .i64 (kk : Int))] [] [] [rd strTy A c l, rd strTy B k r] _
  refine c_seq (c_region ?_)
  refine e_by ((kk : Int) < (l.length : Int)) (fun h2 => ?_) (fun h2 => ?_)
  ·
   refine s_y rfl (v := .bool true) (y_t (y_k (v := .bool (decide ((kk : Int) < (l.length : Int)))) rfl rfl (fun _ => by kernel_rfl)) h2) rfl ?_
   refine s_nil (q_then (c_seq (c_true rfl (c_skip (q_then (c_seq (c_block (c_seq (c_region ?_)))))))))
   refine s_y rfl (v := .int .i64 (kk : Int)) (y_mv rfl) rfl ?_
   refine s_y rfl (v := .int .i64 (kk : Int)) (y_as rfl) rfl ?_
   refine s_nil (q_then (c_seq ?_))
   refine e_at 0 kk rfl (by omega) (fun b1 o1 x1 hA1 hx1 => ?_)
   refine e_at 2 kk rfl (by omega) (fun b2 o2 x2 hA2 hx2 => ?_)
   refine c_draw (l := ticked 9 0) [(⟨b1, o1 + kk * 1, none⟩, .string x1), (⟨b2, o2 + kk * 1, none⟩, .string x2)] [] (by kernel_rfl) rfl rfl ?_
   refine b_y (i := 0) (v := .slice A l.length c) (ticked 9 1) rfl rfl (by exact y_mv rfl) ?_
   refine b_y (i := 1) (v := .int .i64 (kk : Int)) (ticked 9 3) rfl rfl (by exact y_mv rfl) ?_
   refine b_y (i := 2) (v := .pointer (some ⟨b1, o1 + kk * 1, none⟩)) (ticked 9 7) rfl rfl (by exact y_at (d := strTy) (l := l) kk hA1 rfl rfl rfl (rfl) (List.getElem?_eq_some_iff.1 hx1).1 Tryz.underlying37 (by kernel_rfl) (by kernel_rfl)) ?_
   refine b_y (i := 4) (v := .slice B r.length k) (ticked 9 23) rfl rfl (by exact y_mv rfl) ?_
   refine b_y (i := 5) (v := .int .i64 (kk : Int)) (ticked 9 55) rfl rfl (by exact y_mv rfl) ?_
   refine b_y (i := 6) (v := .pointer (some ⟨b2, o2 + kk * 1, none⟩)) (ticked 9 119) rfl rfl (by exact y_at (d := strTy) (l := r) kk hA2 rfl rfl rfl (rfl) (List.getElem?_eq_some_iff.1 hx2).1 Tryz.underlying37 (by kernel_rfl) (by kernel_rfl)) ?_
   refine a_held (i := 3) (ticked 9 127) rfl (by as_aux_lemma => kernel_rfl) rfl rfl rfl (held_fact (j := 0) 1 rfl rfl (held_fact (j := 0) 0 rfl rfl held_nil)) (h_ld 0 rfl rfl Tryz.underlying9 rfl) ?_
   refine a_held (i := 7) (ticked 9 255) rfl (by as_aux_lemma => kernel_rfl) rfl rfl rfl (held_fact (j := 0) 1 rfl rfl (held_fact (j := 0) 0 rfl rfl held_nil)) (h_ld 1 rfl rfl Tryz.underlying9 rfl) ?_
   refine e_by (x1 = x2) (fun h3 => ?_) (fun h3 => ?_)
   ·
    refine b_y (i := 8) (v := .bool false) (ticked 9 511) rfl rfl (by exact y_b (y_k (v := .bool (!(x1.toList == x2.toList))) rfl rfl (fun _ => by kernel_rfl)) (str_nt h3)) ?_
    refine a_done (by as_aux_lemma => kernel_rfl) ?_
    refine q_then (c_false rfl (c_skip (q_block (q_then (c_region ?_)))))
    refine s_y rfl (v := .int .i64 ((kk : Int) + 1)) (y_add (r := (kk : Int) + 1) rfl rfl rfl (by omega)) rfl ?_
    refine s_y rfl (v := .int .i64 ((kk : Int) + 1)) (y_mv rfl) rfl ?_
    refine s_nil (q_then ?_)
    refine c_next [] [2, 3] (kk + 1) ?_ ?_ ?_ (by rfl) (by rfl)
    · exact (show ((kk + 1) ≤ l.length) ∧ (l.take (kk + 1) = r.take (kk + 1)) from ⟨by first | omega | simp_all | (simp; done), eqs_step he hx1 hx2 (by assumption)⟩)
    · show l.length - (kk + 1) < l.length - kk; omega
    · exact (.cons rfl rfl (.cons rfl rfl (.cons rfl rfl (.cons rfl (show (.int .i64 ((kk : Int) + 1) : Value) = .int .i64 ((kk + 1) : Int) from by first | rfl | (congr 1; omega) | (congr 1; simp; done) | (congr 1; simp; omega)) .nil))))
   ·
    refine b_y (i := 8) (v := .bool true) (ticked 9 511) rfl rfl (by exact y_b (y_k (v := .bool (!(x1.toList == x2.toList))) rfl rfl (fun _ => by kernel_rfl)) (str_nf h3)) ?_
    refine a_done (by as_aux_lemma => kernel_rfl) ?_
    refine q_then (c_true rfl (c_seq (c_region ?_)))
    refine s_y rfl (v := .bool false) (y_as rfl) rfl ?_
    refine s_nil (q_then (c_ret (q_block_ret (q_then_ret (q_then_ret (q_block_ret (q_then_ret ?_)))))))
    refine c_fin (I' := []) [] [2, 3] rfl (.tmp rfl .nil) rfl rfl rfl ?_
    exact ⟨dec_f (by first | exact eqs_end he (by omega) (by omega) | exact eqs_not hx1 hx2 (by assumption) | exact eqs_len (by assumption)), rfl, rfl⟩
  ·
   refine s_y rfl (v := .bool false) (y_f (y_k (v := .bool (decide ((kk : Int) < (l.length : Int)))) rfl rfl (fun _ => by kernel_rfl)) h2) rfl ?_
   refine s_nil (q_then (c_seq (c_false rfl ?_)))
   refine c_exit ?_
   refine q_then_exit ?_
   refine q_then_exit ?_
   refine q_block_here ?_
   refine q_then (c_seq (c_region ?_))
   refine s_y rfl (v := .bool true) (y_as rfl) rfl ?_
   refine s_nil (q_then (c_ret ?_))
   refine c_fin (I' := []) [] [0, 1] rfl (.tmp rfl .nil) rfl rfl rfl ?_
   exact ⟨dec_t (by first | exact eqs_end he (by omega) (by omega) | exact eqs_not hx1 hx2 (by assumption) | exact eqs_len (by assumption)), rfl, rfl⟩
 ·
  refine s_y rfl (v := .bool true) (y_nf (y_k (v := .bool (!decide ((l.length : Int) = (r.length : Int)))) rfl rfl (fun _ => by kernel_rfl)) h1) rfl ?_
  refine s_nil (q_then (c_true rfl (c_seq (c_region ?_))))
  refine s_y rfl (v := .bool false) (y_as rfl) rfl ?_
  refine s_nil (q_then (c_ret (q_then_ret ?_)))
  refine c_fin (I' := []) [] [0, 1] rfl (.tmp rfl .nil) rfl rfl rfl ?_
  exact ⟨dec_f (by first | exact eqs_end he (by omega) (by omega) | exact eqs_not hx1 hx2 (by assumption) | exact eqs_len (by assumption)), rfl, rfl⟩
theorem sameR_ (e : Int) (n : Int) (d : ByteArray) (A : Option Addr) (c : Nat) (l : List ByteArray) (a : Lab) (e' : Int) (n' : Int) (d' : ByteArray) (B : Option Addr) (k : Nat) (r : List ByteArray) (a' : Lab) (hn : l.length ≤ 1000000) : Con Tryz.prog 20 [.agg #[.int .i64 e, .int .i64 n, .string d, .slice A l.length c, .int .i64 a.lv, .int .u64 (a.cs : Int), .int .i64 a.ig], .agg #[.int .i64 e', .int .i64 n', .string d', .slice B r.length k, .int .i64 a'.lv, .int .u64 (a'.cs : Int), .int .i64 a'.ig]] [] [rd strTy A c l, rd strTy B k r] (fun v L' I' => v = .bool (decide (repEq e n d l a e' n' d' r a')) ∧ L' = [] ∧ I' = []) := by
 refine fn_of Tryz.func20 rfl Tryz.ntmps20 (by kernel_rfl) rfl (fun C => ?_)
 refine c_seq (c_region ?_)
 refine st rfl (o_box (cs := [.int .i64 e, .int .i64 n, .string d, .slice A l.length c, .int .i64 a.lv, .int .u64 (a.cs : Int), .int .i64 a.ig]) (T := 39) rfl rfl rfl rfl (fun _ => by kernel_rfl) (fun b1 => ?_))
 refine st rfl (o_box (cs := [.int .i64 e', .int .i64 n', .string d', .slice B r.length k, .int .i64 a'.lv, .int .u64 (a'.cs : Int), .int .i64 a'.ig]) (T := 39) rfl rfl rfl rfl (fun _ => by kernel_rfl) (fun b2 => ?_))
 refine s_y rfl (v := .bool false) (y_as rfl) rfl ?_
 refine s_nil (q_then (c_seq (c_region ?_)))
 refine s_y rfl (v := .pointer (some ⟨b1, 0, none⟩)) (y_k rfl rfl (fun _ => by kernel_rfl)) rfl ?_
 refine st rfl (o_ld 1 rfl rfl rfl Tryz.underlying29 rfl rfl ?_)
 refine s_y rfl (v := .pointer (some ⟨b2, 0, none⟩)) (y_k rfl rfl (fun _ => by kernel_rfl)) rfl ?_
 refine st rfl (o_ld 0 rfl rfl rfl Tryz.underlying29 rfl rfl ?_)
 refine e_by (e = e') (fun h1 => ?_) (fun h1 => ?_)
 ·
  refine s_y rfl (v := .bool true) (y_t (y_k (v := .bool (decide (e = e'))) rfl rfl (fun _ => by kernel_rfl)) h1) rfl ?_
  refine s_y rfl (v := .bool true) (y_mv rfl) rfl ?_
  refine st_on 10 rfl rfl rfl (o_y (v := .pointer (some ⟨b1, 1, none⟩)) (y_k rfl rfl (fun _ => by kernel_rfl)) rfl rfl rfl ?_)
  refine st_on 10 rfl rfl rfl (o_ld 1 rfl rfl rfl Tryz.underlying3 rfl rfl ?_)
  refine st_on 10 rfl rfl rfl (o_y (v := .pointer (some ⟨b2, 1, none⟩)) (y_k rfl rfl (fun _ => by kernel_rfl)) rfl rfl rfl ?_)
  refine st_on 10 rfl rfl rfl (o_ld 0 rfl rfl rfl Tryz.underlying3 rfl rfl ?_)
  refine e_by (n = n') (fun h2 => ?_) (fun h2 => ?_)
  ·
   refine st_on 10 rfl rfl rfl (o_y (v := .bool true) (y_t (y_k (v := .bool (decide (n = n'))) rfl rfl (fun _ => by kernel_rfl)) h2) rfl rfl rfl ?_)
   refine s_y rfl (v := .bool true) (y_pick rfl rfl) rfl ?_
   refine s_y rfl (v := .bool true) (y_mv rfl) rfl ?_
   refine st_on 17 rfl rfl rfl (o_y (v := .pointer (some ⟨b1, 2, none⟩)) (y_k rfl rfl (fun _ => by kernel_rfl)) rfl rfl rfl ?_)
   refine st_on 17 rfl rfl rfl (o_ld 1 rfl rfl rfl Tryz.underlying9 rfl rfl ?_)
   refine st_on 17 rfl rfl rfl (o_y (v := .pointer (some ⟨b2, 2, none⟩)) (y_k rfl rfl (fun _ => by kernel_rfl)) rfl rfl rfl ?_)
   refine st_on 17 rfl rfl rfl (o_ld 0 rfl rfl rfl Tryz.underlying9 rfl rfl ?_)
   refine e_by (d = d') (fun h3 => ?_) (fun h3 => ?_)
   ·
    refine st_on 17 rfl rfl rfl (o_y (v := .bool true) (y_b (y_k (v := .bool (d.toList == d'.toList)) rfl rfl (fun _ => by kernel_rfl)) (str_t h3)) rfl rfl rfl ?_)
    refine s_y rfl (v := .bool true) (y_pick rfl rfl) rfl ?_
    refine s_y rfl (v := .bool true) (y_mv rfl) rfl ?_
    refine st_on 24 rfl rfl rfl (o_y (v := .pointer (some ⟨b1, 3, none⟩)) (y_k rfl rfl (fun _ => by kernel_rfl)) rfl rfl rfl ?_)
    refine st_on 24 rfl rfl rfl (o_ld 1 rfl rfl rfl Tryz.underlying37 rfl rfl ?_)
    refine st_on 24 rfl rfl rfl (o_y (v := .pointer (some ⟨b2, 3, none⟩)) (y_k rfl rfl (fun _ => by kernel_rfl)) rfl rfl rfl ?_)
    refine st_on 24 rfl rfl rfl (o_ld 0 rfl rfl rfl Tryz.underlying37 rfl rfl ?_)
    refine st_on 24 rfl rfl rfl (o_call [] [0, 1] (equals_ A c l B k r (by first | assumption | omega)) rfl rfl rfl rfl rfl rfl (fun v L' I' hq1 => ?_))
    obtain ⟨hv1, rfl, rfl⟩ := hq1
    refine e_by (l = r) (fun h4 => ?_) (fun h4 => ?_)
    ·
     obtain rfl : v = .bool true := by rw [hv1, decide_eq_true h4]
     refine s_y rfl (v := .bool true) (y_pick rfl rfl) rfl ?_
     refine s_y rfl (v := .bool true) (y_mv rfl) rfl ?_
     refine st_on 31 rfl rfl rfl (o_y (v := .pointer (some ⟨b1, 4, none⟩)) (y_k rfl rfl (fun _ => by kernel_rfl)) rfl rfl rfl ?_)
     refine st_on 31 rfl rfl rfl (o_ldn 1 3 rfl rfl rfl rfl Tryz.underlying24 rfl (by kernel_rfl) (by kernel_rfl) rfl ?_)
     refine st_on 31 rfl rfl rfl (o_y (v := .pointer (some ⟨b2, 4, none⟩)) (y_k rfl rfl (fun _ => by kernel_rfl)) rfl rfl rfl ?_)
     refine st_on 31 rfl rfl rfl (o_ldn 0 3 rfl rfl rfl rfl Tryz.underlying24 rfl (by kernel_rfl) (by kernel_rfl) rfl ?_)
     refine e_by (a = a') (fun h5 => ?_) (fun h5 => ?_)
     ·
      refine st_on 31 rfl rfl rfl (o_y (v := .bool true) (y_t (y_bin rfl rfl (fun w => eq_Lab a a' w)) h5) rfl rfl rfl ?_)
      refine s_y rfl (v := .bool true) (y_pick rfl rfl) rfl ?_
      refine s_y rfl (v := .bool true) (y_as rfl) rfl ?_
      refine s_nil (q_then (c_ret ?_))
      refine c_fin (I' := []) [] [0, 1] rfl (.tmp rfl .nil) rfl rfl rfl ?_
      exact ⟨dec_t (by first | exact ⟨by assumption, by assumption, by assumption, by assumption, by assumption⟩ | (rintro ⟨q1, q2, q3, q4, q5⟩; contradiction)), rfl, rfl⟩
     ·
      refine st_on 31 rfl rfl rfl (o_y (v := .bool false) (y_f (y_bin rfl rfl (fun w => eq_Lab a a' w)) h5) rfl rfl rfl ?_)
      refine s_y rfl (v := .bool false) (y_pick rfl rfl) rfl ?_
      refine s_y rfl (v := .bool false) (y_as rfl) rfl ?_
      refine s_nil (q_then (c_ret ?_))
      refine c_fin (I' := []) [] [0, 1] rfl (.tmp rfl .nil) rfl rfl rfl ?_
      exact ⟨dec_f (by first | exact ⟨by assumption, by assumption, by assumption, by assumption, by assumption⟩ | (rintro ⟨q1, q2, q3, q4, q5⟩; contradiction)), rfl, rfl⟩
    ·
     obtain rfl : v = .bool false := by rw [hv1, decide_eq_false h4]
     refine s_y rfl (v := .bool false) (y_pick rfl rfl) rfl ?_
     refine s_y rfl (v := .bool false) (y_mv rfl) rfl ?_
     refine st_off 31 rfl rfl rfl rfl rfl rfl ?_
     refine st_off 31 rfl rfl rfl rfl rfl rfl ?_
     refine st_off 31 rfl rfl rfl rfl rfl rfl ?_
     refine st_off 31 rfl rfl rfl rfl rfl rfl ?_
     refine st_off 31 rfl rfl rfl rfl rfl rfl ?_
     refine s_y rfl (v := .bool false) (y_pick rfl rfl) rfl ?_
     refine s_y rfl (v := .bool false) (y_as rfl) rfl ?_
     refine s_nil (q_then (c_ret ?_))
     refine c_fin (I' := []) [] [0, 1] rfl (.tmp rfl .nil) rfl rfl rfl ?_
     exact ⟨dec_f (by first | exact ⟨by assumption, by assumption, by assumption, by assumption, by assumption⟩ | (rintro ⟨q1, q2, q3, q4, q5⟩; contradiction)), rfl, rfl⟩
   ·
    refine st_on 17 rfl rfl rfl (o_y (v := .bool false) (y_b (y_k (v := .bool (d.toList == d'.toList)) rfl rfl (fun _ => by kernel_rfl)) (str_f h3)) rfl rfl rfl ?_)
    refine s_y rfl (v := .bool false) (y_pick rfl rfl) rfl ?_
    refine s_y rfl (v := .bool false) (y_mv rfl) rfl ?_
    refine st_off 24 rfl rfl rfl rfl rfl rfl ?_
    refine st_off 24 rfl rfl rfl rfl rfl rfl ?_
    refine st_off 24 rfl rfl rfl rfl rfl rfl ?_
    refine st_off 24 rfl rfl rfl rfl rfl rfl ?_
    refine st_off 24 rfl rfl rfl rfl rfl rfl ?_
    refine s_y rfl (v := .bool false) (y_pick rfl rfl) rfl ?_
    refine s_y rfl (v := .bool false) (y_mv rfl) rfl ?_
    refine st_off 31 rfl rfl rfl rfl rfl rfl ?_
    refine st_off 31 rfl rfl rfl rfl rfl rfl ?_
    refine st_off 31 rfl rfl rfl rfl rfl rfl ?_
    refine st_off 31 rfl rfl rfl rfl rfl rfl ?_
    refine st_off 31 rfl rfl rfl rfl rfl rfl ?_
    refine s_y rfl (v := .bool false) (y_pick rfl rfl) rfl ?_
    refine s_y rfl (v := .bool false) (y_as rfl) rfl ?_
    refine s_nil (q_then (c_ret ?_))
    refine c_fin (I' := []) [] [0, 1] rfl (.tmp rfl .nil) rfl rfl rfl ?_
    exact ⟨dec_f (by first | exact ⟨by assumption, by assumption, by assumption, by assumption, by assumption⟩ | (rintro ⟨q1, q2, q3, q4, q5⟩; contradiction)), rfl, rfl⟩
  ·
   refine st_on 10 rfl rfl rfl (o_y (v := .bool false) (y_f (y_k (v := .bool (decide (n = n'))) rfl rfl (fun _ => by kernel_rfl)) h2) rfl rfl rfl ?_)
   refine s_y rfl (v := .bool false) (y_pick rfl rfl) rfl ?_
   refine s_y rfl (v := .bool false) (y_mv rfl) rfl ?_
   refine st_off 17 rfl rfl rfl rfl rfl rfl ?_
   refine st_off 17 rfl rfl rfl rfl rfl rfl ?_
   refine st_off 17 rfl rfl rfl rfl rfl rfl ?_
   refine st_off 17 rfl rfl rfl rfl rfl rfl ?_
   refine st_off 17 rfl rfl rfl rfl rfl rfl ?_
   refine s_y rfl (v := .bool false) (y_pick rfl rfl) rfl ?_
   refine s_y rfl (v := .bool false) (y_mv rfl) rfl ?_
   refine st_off 24 rfl rfl rfl rfl rfl rfl ?_
   refine st_off 24 rfl rfl rfl rfl rfl rfl ?_
   refine st_off 24 rfl rfl rfl rfl rfl rfl ?_
   refine st_off 24 rfl rfl rfl rfl rfl rfl ?_
   refine st_off 24 rfl rfl rfl rfl rfl rfl ?_
   refine s_y rfl (v := .bool false) (y_pick rfl rfl) rfl ?_
   refine s_y rfl (v := .bool false) (y_mv rfl) rfl ?_
   refine st_off 31 rfl rfl rfl rfl rfl rfl ?_
   refine st_off 31 rfl rfl rfl rfl rfl rfl ?_
   refine st_off 31 rfl rfl rfl rfl rfl rfl ?_
   refine st_off 31 rfl rfl rfl rfl rfl rfl ?_
   refine st_off 31 rfl rfl rfl rfl rfl rfl ?_
   refine s_y rfl (v := .bool false) (y_pick rfl rfl) rfl ?_
   refine s_y rfl (v := .bool false) (y_as rfl) rfl ?_
   refine s_nil (q_then (c_ret ?_))
   refine c_fin (I' := []) [] [0, 1] rfl (.tmp rfl .nil) rfl rfl rfl ?_
   exact ⟨dec_f (by first | exact ⟨by assumption, by assumption, by assumption, by assumption, by assumption⟩ | (rintro ⟨q1, q2, q3, q4, q5⟩; contradiction)), rfl, rfl⟩
 ·
  refine s_y rfl (v := .bool false) (y_f (y_k (v := .bool (decide (e = e'))) rfl rfl (fun _ => by kernel_rfl)) h1) rfl ?_
  refine s_y rfl (v := .bool false) (y_mv rfl) rfl ?_
  refine st_off 10 rfl rfl rfl rfl rfl rfl ?_
  refine st_off 10 rfl rfl rfl rfl rfl rfl ?_
  refine st_off 10 rfl rfl rfl rfl rfl rfl ?_
  refine st_off 10 rfl rfl rfl rfl rfl rfl ?_
  refine st_off 10 rfl rfl rfl rfl rfl rfl ?_
  refine s_y rfl (v := .bool false) (y_pick rfl rfl) rfl ?_
  refine s_y rfl (v := .bool false) (y_mv rfl) rfl ?_
  refine st_off 17 rfl rfl rfl rfl rfl rfl ?_
  refine st_off 17 rfl rfl rfl rfl rfl rfl ?_
  refine st_off 17 rfl rfl rfl rfl rfl rfl ?_
  refine st_off 17 rfl rfl rfl rfl rfl rfl ?_
  refine st_off 17 rfl rfl rfl rfl rfl rfl ?_
  refine s_y rfl (v := .bool false) (y_pick rfl rfl) rfl ?_
  refine s_y rfl (v := .bool false) (y_mv rfl) rfl ?_
  refine st_off 24 rfl rfl rfl rfl rfl rfl ?_
  refine st_off 24 rfl rfl rfl rfl rfl rfl ?_
  refine st_off 24 rfl rfl rfl rfl rfl rfl ?_
  refine st_off 24 rfl rfl rfl rfl rfl rfl ?_
  refine st_off 24 rfl rfl rfl rfl rfl rfl ?_
  refine s_y rfl (v := .bool false) (y_pick rfl rfl) rfl ?_
  refine s_y rfl (v := .bool false) (y_mv rfl) rfl ?_
  refine st_off 31 rfl rfl rfl rfl rfl rfl ?_
  refine st_off 31 rfl rfl rfl rfl rfl rfl ?_
  refine st_off 31 rfl rfl rfl rfl rfl rfl ?_
  refine st_off 31 rfl rfl rfl rfl rfl rfl ?_
  refine st_off 31 rfl rfl rfl rfl rfl rfl ?_
  refine s_y rfl (v := .bool false) (y_pick rfl rfl) rfl ?_
  refine s_y rfl (v := .bool false) (y_as rfl) rfl ?_
  refine s_nil (q_then (c_ret ?_))
  refine c_fin (I' := []) [] [0, 1] rfl (.tmp rfl .nil) rfl rfl rfl ?_
  exact ⟨dec_f (by first | exact ⟨by assumption, by assumption, by assumption, by assumption, by assumption⟩ | (rintro ⟨q1, q2, q3, q4, q5⟩; contradiction)), rfl, rfl⟩
end Go.Proofs.YtcnncdniibkjkaaGreatDoor
