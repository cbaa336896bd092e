/- The laws of chapter 15 (journal), walked over the given program; no condition but what stands in each theorem: part FH. -/
import Derived.Test.YthehnjbdkjnlpaaGreatDoorRFF
import Derived.Test.YthehnjbdkjnlpaaGreatDoorRFG
set_option linter.unusedVariables false
set_option linter.unusedSimpArgs false
set_option maxRecDepth 100000
set_option maxHeartbeats 8000000
namespace Go.Proofs.YthehnjbdkjnlpaaGreatDoor
open Go Go.Sl Go.RowKit Go.Extern.Stop Go.Stop Go.Extern
theorem Place_ (f : Fil) (s : ByteArray) (ef : Addr) (hs : s.size ≤ 100000) (hsz : f.fm.size ≤ 1000) : Con Tryz.prog 66 [.agg #[.int .i64 f.kd, .int .i64 f.mx, .string f.fm], .string s] [] [cellsAt 2 0 [.iface 153 (.pointer (some ef))], errAt ef] (fun v L' I' => v = .tuple #[.int .i64 ((placeF f s).1), .int .i64 ((placeF f s).2)] ∧ L' = [] ∧ I' = []) := by
 refine fn_of Tryz.func66 rfl Tryz.ntmps66 (by kernel_rfl) rfl (fun C => ?_)
 refine c_seq (c_region ?_)
 refine st rfl (o_box (cs := [.int .i64 f.kd, .int .i64 f.mx, .string f.fm]) (T := 40) rfl rfl rfl rfl (fun _ => by kernel_rfl) (fun b1 => ?_))
 refine s_y rfl (v := .int .i64 0) (y_as rfl) rfl ?_
 refine s_y rfl (v := .int .i64 0) (y_as rfl) rfl ?_
 refine s_nil (q_then (c_seq (c_region ?_)))
 refine st rfl (o_ldn 0 3 rfl rfl rfl rfl Tryz.underlying40 rfl (by kernel_rfl) (by kernel_rfl) rfl ?_)
 refine st rfl (o_call [] [0, 1] (fchecked_ f ef (by first | omega | assumption)) rfl rfl rfl rfl rfl rfl (fun v L' I' hq1 => ?_))
 rcases hq1 with ⟨b2, b3, h1, h2, rfl, rfl, rfl⟩ | ⟨b4, b5, b6, h3, h4, rfl, rfl, rfl⟩ | ⟨b7, b8, b9, h5, h6, rfl, rfl, rfl⟩ | ⟨h7, rfl, rfl, rfl⟩
 ·
  refine s_y rfl (v := .tuple #[.slice (some ⟨b2, 0, none⟩) 1 1, .int .i64 0, .nilIface]) (y_mv rfl) rfl ?_
  refine s_y rfl (v := .slice (some ⟨b2, 0, none⟩) 1 1) (y_k rfl rfl (fun _ => by kernel_rfl)) rfl ?_
  refine s_y rfl (v := .int .i64 0) (y_k rfl rfl (fun _ => by kernel_rfl)) rfl ?_
  refine s_y rfl (v := .nilIface) (y_k rfl rfl (fun _ => by kernel_rfl)) rfl ?_
  refine s_y rfl (v := .slice (some ⟨b2, 0, none⟩) 1 1) (y_as rfl) rfl ?_
  refine s_y rfl (v := .int .i64 0) (y_as rfl) rfl ?_
  refine s_y rfl (v := .nilIface) (y_as rfl) rfl ?_
  refine s_nil (q_then (c_seq (c_seq (c_region ?_))))
  refine s_y rfl (v := .nilIface) (y_mv rfl) rfl ?_
  refine s_y rfl (v := .bool false) (y_k rfl rfl (fun _ => by kernel_rfl)) rfl ?_
  refine s_nil (q_then (c_false rfl (c_skip (q_then (c_seq (c_region ?_))))))
  refine s_y rfl (v := .string s) (y_mv rfl) rfl ?_
  refine s_y rfl (v := .slice (some ⟨b2, 0, none⟩) 1 1) (y_mv rfl) rfl ?_
  refine st rfl (o_call [0, 0] [] (first1_ f s b2 b3 (by first | omega | assumption) (by assumption)) rfl rfl rfl rfl rfl rfl (fun v L' I' hq2 => ?_))
  obtain ⟨rfl, rfl, rfl⟩ := hq2
  refine s_y rfl (v := .int .i64 (firstF f s)) (y_as rfl) rfl ?_
  refine s_nil (q_then (c_seq (c_seq (c_region ?_))))
  refine s_y rfl (v := .int .i64 (firstF f s)) (y_mv rfl) rfl ?_
  refine e_by (firstF f s < 0) (fun h8 => ?_) (fun h8 => ?_)
  ·
   refine s_y rfl (v := .bool true) (y_t (y_k (v := .bool (decide (firstF f s < 0))) rfl rfl (fun _ => by kernel_rfl)) h8) rfl ?_
   refine s_y rfl (v := .bool true) (y_mv rfl) rfl ?_
   refine st_on 25 rfl rfl rfl (o_y (v := .string s) (y_mv rfl) rfl rfl rfl ?_)
   refine st_on 25 rfl rfl rfl (o_y (v := .int .i64 (s.size : Int)) (y_k rfl rfl (fun _ => by kernel_rfl)) rfl rfl rfl ?_)
   refine st_on 25 rfl rfl rfl (o_y (v := .int .i64 0) (y_mv rfl) rfl rfl rfl ?_)
   have h9 : ¬ ((s.size : Int) < 0) := by have := firstF_le f s; omega
   refine st_on 25 rfl rfl rfl (o_y (v := .bool false) (y_f (y_k (v := .bool (decide ((s.size : Int) < 0))) rfl rfl (fun _ => by kernel_rfl)) h9) rfl rfl rfl ?_)
   refine s_y rfl (v := .bool false) (y_pick rfl rfl) rfl ?_
   refine s_nil (q_then (c_false rfl (c_skip (q_then (c_seq (c_region ?_))))))
   refine s_y rfl (v := .int .i64 (firstF f s)) (y_mv rfl) rfl ?_
   refine s_y rfl (v := .int .i64 (firstF f s)) (y_as rfl) rfl ?_
   refine s_y rfl (v := .int .i64 0) (y_as rfl) rfl ?_
   refine s_nil (q_then (c_ret ?_))
   have hp : placeF f s = (firstF f s, 0) := place_1 (by first | assumption | exact (filR_3 (by assumption)).2 (by assumption)) (fun q => by first | omega | (have q1 := q.1; have q2 := q.2.1; have q3 := q.2.2; omega))
   refine c_fin (I' := []) [] [0, 1] rfl (.tmp rfl (.tmp rfl .nil)) rfl rfl rfl ?_
   rw [hp]
   exact ⟨rfl, rfl, rfl⟩
  ·
   refine s_y rfl (v := .bool false) (y_f (y_k (v := .bool (decide (firstF f s < 0))) rfl rfl (fun _ => by kernel_rfl)) h8) rfl ?_
   refine s_y rfl (v := .bool false) (y_mv rfl) rfl ?_
   refine st_off 25 rfl rfl rfl rfl rfl rfl ?_
   refine st_off 25 rfl rfl rfl rfl rfl rfl ?_
   refine st_off 25 rfl rfl rfl rfl rfl rfl ?_
   refine st_off 25 rfl rfl rfl rfl rfl rfl ?_
   refine s_y rfl (v := .bool false) (y_pick rfl rfl) rfl ?_
   refine s_nil (q_then (c_false rfl (c_skip (q_then (c_seq (c_region ?_))))))
   refine s_y rfl (v := .int .i64 (firstF f s)) (y_mv rfl) rfl ?_
   refine s_y rfl (v := .int .i64 (firstF f s)) (y_as rfl) rfl ?_
   refine s_y rfl (v := .int .i64 0) (y_as rfl) rfl ?_
   refine s_nil (q_then (c_ret ?_))
   have hp : placeF f s = (firstF f s, 0) := place_1 (by first | assumption | exact (filR_3 (by assumption)).2 (by assumption)) (fun q => by first | omega | (have q1 := q.1; have q2 := q.2.1; have q3 := q.2.2; omega))
   refine c_fin (I' := []) [] [0, 1] rfl (.tmp rfl (.tmp rfl .nil)) rfl rfl rfl ?_
   rw [hp]
   exact ⟨rfl, rfl, rfl⟩
 ·
  refine s_y rfl (v := .tuple #[.slice (some ⟨b4, 0, none⟩) 2 2, .int .i64 0, .nilIface]) (y_mv rfl) rfl ?_
  refine s_y rfl (v := .slice (some ⟨b4, 0, none⟩) 2 2) (y_k rfl rfl (fun _ => by kernel_rfl)) rfl ?_
  refine s_y rfl (v := .int .i64 0) (y_k rfl rfl (fun _ => by kernel_rfl)) rfl ?_
  refine s_y rfl (v := .nilIface) (y_k rfl rfl (fun _ => by kernel_rfl)) rfl ?_
  refine s_y rfl (v := .slice (some ⟨b4, 0, none⟩) 2 2) (y_as rfl) rfl ?_
  refine s_y rfl (v := .int .i64 0) (y_as rfl) rfl ?_
  refine s_y rfl (v := .nilIface) (y_as rfl) rfl ?_
  refine s_nil (q_then (c_seq (c_seq (c_region ?_))))
  refine s_y rfl (v := .nilIface) (y_mv rfl) rfl ?_
  refine s_y rfl (v := .bool false) (y_k rfl rfl (fun _ => by kernel_rfl)) rfl ?_
  refine s_nil (q_then (c_false rfl (c_skip (q_then (c_seq (c_region ?_))))))
  refine s_y rfl (v := .string s) (y_mv rfl) rfl ?_
  refine s_y rfl (v := .slice (some ⟨b4, 0, none⟩) 2 2) (y_mv rfl) rfl ?_
  refine st rfl (o_call [0, 0, 0] [] (first2_ f s b4 b5 b6 (by first | omega | assumption) (by assumption) (by first | omega | assumption)) rfl rfl rfl rfl rfl rfl (fun v L' I' hq3 => ?_))
  obtain ⟨rfl, rfl, rfl⟩ := hq3
  refine s_y rfl (v := .int .i64 (firstF f s)) (y_as rfl) rfl ?_
  refine s_nil (q_then (c_seq (c_seq (c_region ?_))))
  refine s_y rfl (v := .int .i64 (firstF f s)) (y_mv rfl) rfl ?_
  refine e_by (firstF f s < 0) (fun h10 => ?_) (fun h10 => ?_)
  ·
   refine s_y rfl (v := .bool true) (y_t (y_k (v := .bool (decide (firstF f s < 0))) rfl rfl (fun _ => by kernel_rfl)) h10) rfl ?_
   refine s_y rfl (v := .bool true) (y_mv rfl) rfl ?_
   refine st_on 25 rfl rfl rfl (o_y (v := .string s) (y_mv rfl) rfl rfl rfl ?_)
   refine st_on 25 rfl rfl rfl (o_y (v := .int .i64 (s.size : Int)) (y_k rfl rfl (fun _ => by kernel_rfl)) rfl rfl rfl ?_)
   refine st_on 25 rfl rfl rfl (o_y (v := .int .i64 0) (y_mv rfl) rfl rfl rfl ?_)
   have h11 : ¬ ((s.size : Int) < 0) := by have := firstF_le f s; omega
   refine st_on 25 rfl rfl rfl (o_y (v := .bool false) (y_f (y_k (v := .bool (decide ((s.size : Int) < 0))) rfl rfl (fun _ => by kernel_rfl)) h11) rfl rfl rfl ?_)
   refine s_y rfl (v := .bool false) (y_pick rfl rfl) rfl ?_
   refine s_nil (q_then (c_false rfl (c_skip (q_then (c_seq (c_region ?_))))))
   refine s_y rfl (v := .int .i64 (firstF f s)) (y_mv rfl) rfl ?_
   refine s_y rfl (v := .int .i64 (firstF f s)) (y_as rfl) rfl ?_
   refine s_y rfl (v := .int .i64 0) (y_as rfl) rfl ?_
   refine s_nil (q_then (c_ret ?_))
   have hp : placeF f s = (firstF f s, 0) := place_1 (by first | assumption | exact (filR_3 (by assumption)).2 (by assumption)) (fun q => by first | omega | (have q1 := q.1; have q2 := q.2.1; have q3 := q.2.2; omega))
   refine c_fin (I' := []) [] [0, 1] rfl (.tmp rfl (.tmp rfl .nil)) rfl rfl rfl ?_
   rw [hp]
   exact ⟨rfl, rfl, rfl⟩
  ·
   refine s_y rfl (v := .bool false) (y_f (y_k (v := .bool (decide (firstF f s < 0))) rfl rfl (fun _ => by kernel_rfl)) h10) rfl ?_
   refine s_y rfl (v := .bool false) (y_mv rfl) rfl ?_
   refine st_off 25 rfl rfl rfl rfl rfl rfl ?_
   refine st_off 25 rfl rfl rfl rfl rfl rfl ?_
   refine st_off 25 rfl rfl rfl rfl rfl rfl ?_
   refine st_off 25 rfl rfl rfl rfl rfl rfl ?_
   refine s_y rfl (v := .bool false) (y_pick rfl rfl) rfl ?_
   refine s_nil (q_then (c_false rfl (c_skip (q_then (c_seq (c_region ?_))))))
   refine s_y rfl (v := .int .i64 (firstF f s)) (y_mv rfl) rfl ?_
   refine s_y rfl (v := .int .i64 (firstF f s)) (y_as rfl) rfl ?_
   refine s_y rfl (v := .int .i64 0) (y_as rfl) rfl ?_
   refine s_nil (q_then (c_ret ?_))
   have hp : placeF f s = (firstF f s, 0) := place_1 (by first | assumption | exact (filR_3 (by assumption)).2 (by assumption)) (fun q => by first | omega | (have q1 := q.1; have q2 := q.2.1; have q3 := q.2.2; omega))
   refine c_fin (I' := []) [] [0, 1] rfl (.tmp rfl (.tmp rfl .nil)) rfl rfl rfl ?_
   rw [hp]
   exact ⟨rfl, rfl, rfl⟩
 ·
  refine s_y rfl (v := .tuple #[.slice (some ⟨b7, 0, none⟩) 2 2, .int .i64 ((recF f.fm).1.size : Int), fefV ef ((recF f.fm).2)]) (y_mv rfl) rfl ?_
  refine s_y rfl (v := .slice (some ⟨b7, 0, none⟩) 2 2) (y_k rfl rfl (fun _ => by kernel_rfl)) rfl ?_
  refine s_y rfl (v := .int .i64 ((recF f.fm).1.size : Int)) (y_k rfl rfl (fun _ => by kernel_rfl)) rfl ?_
  refine s_y rfl (v := fefV ef ((recF f.fm).2)) (y_k rfl rfl (fun _ => by kernel_rfl)) rfl ?_
  refine s_y rfl (v := .slice (some ⟨b7, 0, none⟩) 2 2) (y_as rfl) rfl ?_
  refine s_y rfl (v := .int .i64 ((recF f.fm).1.size : Int)) (y_as rfl) rfl ?_
  refine s_y rfl (v := fefV ef ((recF f.fm).2)) (y_as rfl) rfl ?_
  refine s_nil (q_then (c_seq (c_seq (c_region ?_))))
  refine s_y rfl (v := fefV ef ((recF f.fm).2)) (y_mv rfl) rfl ?_
  refine e_by ((recF f.fm).2 = false) (fun h12 => ?_) (fun h12 => ?_)
  ·
   refine s_y rfl (v := .bool false) (y_nt (y_bin rfl rfl (fun w => fef_ne ef ((recF f.fm).2) _ w)) h12) rfl ?_
   refine s_nil (q_then (c_false rfl (c_skip (q_then (c_seq (c_region ?_))))))
   refine s_y rfl (v := .string s) (y_mv rfl) rfl ?_
   refine s_y rfl (v := .slice (some ⟨b7, 0, none⟩) 2 2) (y_mv rfl) rfl ?_
   refine st rfl (o_call [0, 0, 0] [] (first3_ f s b7 b8 b9 (by first | omega | assumption) (by assumption)) rfl rfl rfl rfl rfl rfl (fun v L' I' hq4 => ?_))
   obtain ⟨rfl, rfl, rfl⟩ := hq4
   refine s_y rfl (v := .int .i64 (firstF f s)) (y_as rfl) rfl ?_
   refine s_nil (q_then (c_seq (c_seq (c_region ?_))))
   refine s_y rfl (v := .int .i64 (firstF f s)) (y_mv rfl) rfl ?_
   refine e_by (firstF f s < 0) (fun h13 => ?_) (fun h13 => ?_)
   ·
    refine s_y rfl (v := .bool true) (y_t (y_k (v := .bool (decide (firstF f s < 0))) rfl rfl (fun _ => by kernel_rfl)) h13) rfl ?_
    refine s_y rfl (v := .bool true) (y_mv rfl) rfl ?_
    refine st_on 25 rfl rfl rfl (o_y (v := .string s) (y_mv rfl) rfl rfl rfl ?_)
    refine st_on 25 rfl rfl rfl (o_y (v := .int .i64 (s.size : Int)) (y_k rfl rfl (fun _ => by kernel_rfl)) rfl rfl rfl ?_)
    refine st_on 25 rfl rfl rfl (o_y (v := .int .i64 ((recF f.fm).1.size : Int)) (y_mv rfl) rfl rfl rfl ?_)
    refine e_by ((s.size : Int) < ((recF f.fm).1.size : Int)) (fun h14 => ?_) (fun h14 => ?_)
    ·
     refine st_on 25 rfl rfl rfl (o_y (v := .bool true) (y_t (y_k (v := .bool (decide ((s.size : Int) < ((recF f.fm).1.size : Int)))) rfl rfl (fun _ => by kernel_rfl)) h14) rfl rfl rfl ?_)
     refine s_y rfl (v := .bool true) (y_pick rfl rfl) rfl ?_
     refine s_nil (q_then (c_true rfl (c_region ?_)))
     refine s_y rfl (v := .string s) (y_mv rfl) rfl ?_
     refine s_y rfl (v := .int .i64 (s.size : Int)) (y_k rfl rfl (fun _ => by kernel_rfl)) rfl ?_
     refine s_y rfl (v := .int .i64 (s.size : Int)) (y_as rfl) rfl ?_
     refine s_nil (q_then (c_seq (c_region ?_)))
     refine s_y rfl (v := .int .i64 (s.size : Int)) (y_mv rfl) rfl ?_
     refine s_y rfl (v := .int .i64 (s.size : Int)) (y_as rfl) rfl ?_
     refine s_y rfl (v := .int .i64 0) (y_as rfl) rfl ?_
     refine s_nil (q_then (c_ret ?_))
     have hp : placeF f s = ((s.size : Int), 0) := place_2 (by first | assumption | exact (filR_3 (by assumption)).2 (by assumption)) ⟨by assumption, by assumption, by omega⟩
     refine c_fin (I' := []) [] [0, 1] rfl (.tmp rfl (.tmp rfl .nil)) rfl rfl rfl ?_
     rw [hp]
     exact ⟨rfl, rfl, rfl⟩
    ·
     refine st_on 25 rfl rfl rfl (o_y (v := .bool false) (y_f (y_k (v := .bool (decide ((s.size : Int) < ((recF f.fm).1.size : Int)))) rfl rfl (fun _ => by kernel_rfl)) h14) rfl rfl rfl ?_)
     refine s_y rfl (v := .bool false) (y_pick rfl rfl) rfl ?_
     refine s_nil (q_then (c_false rfl (c_skip (q_then (c_seq (c_region ?_))))))
     refine s_y rfl (v := .int .i64 (firstF f s)) (y_mv rfl) rfl ?_
     refine s_y rfl (v := .int .i64 (firstF f s)) (y_as rfl) rfl ?_
     refine s_y rfl (v := .int .i64 0) (y_as rfl) rfl ?_
     refine s_nil (q_then (c_ret ?_))
     have hp : placeF f s = (firstF f s, 0) := place_1 (by first | assumption | exact (filR_3 (by assumption)).2 (by assumption)) (fun q => by first | omega | (have q1 := q.1; have q2 := q.2.1; have q3 := q.2.2; omega))
     refine c_fin (I' := []) [] [0, 1] rfl (.tmp rfl (.tmp rfl .nil)) rfl rfl rfl ?_
     rw [hp]
     exact ⟨rfl, rfl, rfl⟩
   ·
    refine s_y rfl (v := .bool false) (y_f (y_k (v := .bool (decide (firstF f s < 0))) rfl rfl (fun _ => by kernel_rfl)) h13) rfl ?_
    refine s_y rfl (v := .bool false) (y_mv rfl) rfl ?_
    refine st_off 25 rfl rfl rfl rfl rfl rfl ?_
    refine st_off 25 rfl rfl rfl rfl rfl rfl ?_
    refine st_off 25 rfl rfl rfl rfl rfl rfl ?_
    refine st_off 25 rfl rfl rfl rfl rfl rfl ?_
    refine s_y rfl (v := .bool false) (y_pick rfl rfl) rfl ?_
    refine s_nil (q_then (c_false rfl (c_skip (q_then (c_seq (c_region ?_))))))
    refine s_y rfl (v := .int .i64 (firstF f s)) (y_mv rfl) rfl ?_
    refine s_y rfl (v := .int .i64 (firstF f s)) (y_as rfl) rfl ?_
    refine s_y rfl (v := .int .i64 0) (y_as rfl) rfl ?_
    refine s_nil (q_then (c_ret ?_))
    have hp : placeF f s = (firstF f s, 0) := place_1 (by first | assumption | exact (filR_3 (by assumption)).2 (by assumption)) (fun q => by first | omega | (have q1 := q.1; have q2 := q.2.1; have q3 := q.2.2; omega))
    refine c_fin (I' := []) [] [0, 1] rfl (.tmp rfl (.tmp rfl .nil)) rfl rfl rfl ?_
    rw [hp]
    exact ⟨rfl, rfl, rfl⟩
  ·
   refine s_y rfl (v := .bool true) (y_nf (y_bin rfl rfl (fun w => fef_ne ef ((recF f.fm).2) _ w)) h12) rfl ?_
   refine s_nil (q_then (c_true rfl (c_seq (c_region ?_))))
   refine s_y rfl (v := fefV ef ((recF f.fm).2)) (y_mv rfl) rfl ?_
   refine st rfl (o_call [] [0, 1] (ftold_fe_ ef ((recF f.fm).2)) rfl rfl rfl rfl rfl rfl (fun v L' I' hq5 => ?_))
   obtain ⟨rfl, rfl, rfl⟩ := hq5
   refine s_y rfl (v := .int .i64 0) (y_as rfl) rfl ?_
   refine s_y rfl (v := .int .i64 (fefN ((recF f.fm).2))) (y_as rfl) rfl ?_
   refine s_nil (q_then (c_ret (q_then_ret ?_)))
   have hq0 : (recF f.fm).2 = true := eq_true_of_ne_false (by assumption)
   rw [hq0]
   have hp : placeF f s = (0, 130) := place_no (by first | assumption | exact fun q => absurd ((filR_3 (by assumption)).1 q) (by assumption))
   refine c_fin (I' := []) [] [0, 1] rfl (.tmp rfl (.tmp rfl .nil)) rfl rfl rfl ?_
   rw [hp]
   exact ⟨rfl, rfl, rfl⟩
 ·
  refine s_y rfl (v := .tuple #[.slice none 0 0, .int .i64 0, .iface 153 (.pointer (some ef))]) (y_mv rfl) rfl ?_
  refine s_y rfl (v := .slice none 0 0) (y_k rfl rfl (fun _ => by kernel_rfl)) rfl ?_
  refine s_y rfl (v := .int .i64 0) (y_k rfl rfl (fun _ => by kernel_rfl)) rfl ?_
  refine s_y rfl (v := .iface 153 (.pointer (some ef))) (y_k rfl rfl (fun _ => by kernel_rfl)) rfl ?_
  refine s_y rfl (v := .slice none 0 0) (y_as rfl) rfl ?_
  refine s_y rfl (v := .int .i64 0) (y_as rfl) rfl ?_
  refine s_y rfl (v := .iface 153 (.pointer (some ef))) (y_as rfl) rfl ?_
  refine s_nil (q_then (c_seq (c_seq (c_region ?_))))
  refine s_y rfl (v := .iface 153 (.pointer (some ef))) (y_mv rfl) rfl ?_
  refine s_y rfl (v := .bool true) (y_k rfl rfl (fun _ => by kernel_rfl)) rfl ?_
  refine s_nil (q_then (c_true rfl (c_seq (c_region ?_))))
  refine s_y rfl (v := .iface 153 (.pointer (some ef))) (y_mv rfl) rfl ?_
  refine st rfl (o_call [] [0, 1] (ftold_ef_ ef) rfl rfl rfl rfl rfl rfl (fun v L' I' hq6 => ?_))
  obtain ⟨rfl, rfl, rfl⟩ := hq6
  refine s_y rfl (v := .int .i64 0) (y_as rfl) rfl ?_
  refine s_y rfl (v := .int .i64 130) (y_as rfl) rfl ?_
  refine s_nil (q_then (c_ret (q_then_ret ?_)))
  have hp : placeF f s = (0, 130) := place_no (by first | assumption | exact fun q => absurd ((filR_3 (by assumption)).1 q) (by assumption))
  refine c_fin (I' := []) [] [0, 1] rfl (.tmp rfl (.tmp rfl .nil)) rfl rfl rfl ?_
  rw [hp]
  exact ⟨rfl, rfl, rfl⟩
theorem Pass_ (f : Fil) (s : ByteArray) (ef : Addr) (hs : s.size ≤ 100000) (hsz : f.fm.size ≤ 1000) : Con Tryz.prog 55 [.agg #[.int .i64 f.kd, .int .i64 f.mx, .string f.fm], .string s] [] [cellsAt 2 0 [.iface 153 (.pointer (some ef))], errAt ef] (fun v L' I' => (∃ e : Int, (passP f s) ∧ (e = 0) ∧ v = .tuple #[.bool true, .int .i64 e] ∧ L' = [] ∧ I' = []) ∨ (∃ e : Int, (¬ (passP f s)) ∧ v = .tuple #[.bool false, .int .i64 e] ∧ L' = [] ∧ I' = [])) := by
 refine fn_of Tryz.func55 rfl Tryz.ntmps55 (by kernel_rfl) rfl (fun C => ?_)
 refine c_seq (c_region ?_)
 refine st rfl (o_box (cs := [.int .i64 f.kd, .int .i64 f.mx, .string f.fm]) (T := 40) rfl rfl rfl rfl (fun _ => by kernel_rfl) (fun b1 => ?_))
 refine s_y rfl (v := .bool false) (y_as rfl) rfl ?_
 refine s_y rfl (v := .int .i64 0) (y_as rfl) rfl ?_
 refine s_nil (q_then (c_seq (c_region ?_)))
 refine st rfl (o_ldn 0 3 rfl rfl rfl rfl Tryz.underlying40 rfl (by kernel_rfl) (by kernel_rfl) rfl ?_)
 refine s_y rfl (v := .string s) (y_mv rfl) rfl ?_
 refine st rfl (o_call [] [0, 1] (Place_ f s ef (by first | omega | assumption) (by first | omega | assumption)) rfl rfl rfl rfl rfl rfl (fun v L' I' hq1 => ?_))
 obtain ⟨rfl, rfl, rfl⟩ := hq1
 refine s_y rfl (v := .tuple #[.int .i64 ((placeF f s).1), .int .i64 ((placeF f s).2)]) (y_mv rfl) rfl ?_
 refine s_y rfl (v := .int .i64 ((placeF f s).1)) (y_k rfl rfl (fun _ => by kernel_rfl)) rfl ?_
 refine s_y rfl (v := .int .i64 ((placeF f s).2)) (y_k rfl rfl (fun _ => by kernel_rfl)) rfl ?_
 refine s_y rfl (v := .int .i64 ((placeF f s).1)) (y_as rfl) rfl ?_
 refine s_y rfl (v := .int .i64 ((placeF f s).2)) (y_as rfl) rfl ?_
 refine s_nil (q_then (c_seq (c_region ?_)))
 refine s_y rfl (v := .int .i64 ((placeF f s).2)) (y_mv rfl) rfl ?_
 refine e_by ((placeF f s).2 = 0) (fun h1 => ?_) (fun h1 => ?_)
 ·
  refine s_y rfl (v := .bool true) (y_t (y_k (v := .bool (decide ((placeF f s).2 = 0))) rfl rfl (fun _ => by kernel_rfl)) h1) rfl ?_
  refine s_y rfl (v := .bool true) (y_mv rfl) rfl ?_
  refine st_on 16 rfl rfl rfl (o_y (v := .int .i64 ((placeF f s).1)) (y_mv rfl) rfl rfl rfl ?_)
  refine e_by ((placeF f s).1 < 0) (fun h2 => ?_) (fun h2 => ?_)
  ·
   refine st_on 16 rfl rfl rfl (o_y (v := .bool true) (y_t (y_k (v := .bool (decide ((placeF f s).1 < 0))) rfl rfl (fun _ => by kernel_rfl)) h2) rfl rfl rfl ?_)
   refine s_y rfl (v := .bool true) (y_pick rfl rfl) rfl ?_
   refine s_y rfl (v := .int .i64 ((placeF f s).2)) (y_mv rfl) rfl ?_
   refine s_y rfl (v := .bool true) (y_as rfl) rfl ?_
   refine s_y rfl (v := .int .i64 ((placeF f s).2)) (y_as rfl) rfl ?_
   refine s_nil (q_then (c_ret ?_))
   refine c_fin (I' := []) [] [0, 1] rfl (.tmp rfl (.tmp rfl .nil)) rfl rfl rfl ?_
   exact .inl ⟨((placeF f s).2), by first | exact ⟨by assumption, by assumption⟩ | exact fun q => absurd q.1 (by assumption) | exact fun q => absurd q.2 (by assumption), by assumption, rfl, rfl, rfl⟩
  ·
   refine st_on 16 rfl rfl rfl (o_y (v := .bool false) (y_f (y_k (v := .bool (decide ((placeF f s).1 < 0))) rfl rfl (fun _ => by kernel_rfl)) h2) rfl rfl rfl ?_)
   refine s_y rfl (v := .bool false) (y_pick rfl rfl) rfl ?_
   refine s_y rfl (v := .int .i64 ((placeF f s).2)) (y_mv rfl) rfl ?_
   refine s_y rfl (v := .bool false) (y_as rfl) rfl ?_
   refine s_y rfl (v := .int .i64 ((placeF f s).2)) (y_as rfl) rfl ?_
   refine s_nil (q_then (c_ret ?_))
   refine c_fin (I' := []) [] [0, 1] rfl (.tmp rfl (.tmp rfl .nil)) rfl rfl rfl ?_
   exact .inr ⟨((placeF f s).2), by first | exact ⟨by assumption, by assumption⟩ | exact fun q => absurd q.1 (by assumption) | exact fun q => absurd q.2 (by assumption), rfl, rfl, rfl⟩
 ·
  refine s_y rfl (v := .bool false) (y_f (y_k (v := .bool (decide ((placeF f s).2 = 0))) rfl rfl (fun _ => by kernel_rfl)) h1) rfl ?_
  refine s_y rfl (v := .bool false) (y_mv rfl) rfl ?_
  refine st_off 16 rfl rfl rfl rfl rfl rfl ?_
  refine st_off 16 rfl rfl rfl rfl rfl rfl ?_
  refine s_y rfl (v := .bool false) (y_pick rfl rfl) rfl ?_
  refine s_y rfl (v := .int .i64 ((placeF f s).2)) (y_mv rfl) rfl ?_
  refine s_y rfl (v := .bool false) (y_as rfl) rfl ?_
  refine s_y rfl (v := .int .i64 ((placeF f s).2)) (y_as rfl) rfl ?_
  refine s_nil (q_then (c_ret ?_))
  refine c_fin (I' := []) [] [0, 1] rfl (.tmp rfl (.tmp rfl .nil)) rfl rfl rfl ?_
  exact .inr ⟨((placeF f s).2), by first | exact ⟨by assumption, by assumption⟩ | exact fun q => absurd q.1 (by assumption) | exact fun q => absurd q.2 (by assumption), rfl, rfl, rfl⟩
end Go.Proofs.YthehnjbdkjnlpaaGreatDoor
