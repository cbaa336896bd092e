/- The laws of chapter 15 (journal), walked over the given program; no condition but what stands in each theorem: part FK. -/
import Derived.Test.YthehnjbdkjnlpaaDoorRFJ
set_option linter.unusedVariables false
set_option linter.unusedSimpArgs false
set_option maxRecDepth 100000
set_option maxHeartbeats 8000000
namespace Go.Proofs.YthehnjbdkjnlpaaDoor
open Go Go.Sl Go.RowKit Go.Extern.Stop Go.Stop Go.Extern
theorem rfRight_ (f : Fil) (hsz : f.fm.size ≤ 1000) : Con Tryd.prog 67 [.agg #[.int .i64 f.kd, .int .i64 f.mx, .string f.fm]] [] [] (fun v L' I' => v = .bool (decide (filR f)) ∧ L' = [] ∧ I' = []) := by
 refine fn_of Tryd.func67 rfl Tryd.ntmps67 (by kernel_rfl) rfl (fun C => ?_)
 refine c_seq (c_region ?_)
 refine st rfl (o_box (cs := [.int .i64 f.kd, .int .i64 f.mx, .string f.fm]) (T := 39) rfl rfl rfl rfl (fun _ => by kernel_rfl) (fun b1 => ?_))
 refine s_y rfl (v := .bool false) (y_as rfl) rfl ?_
 refine s_nil (q_then (c_seq (c_seq (c_region ?_))))
 refine s_y rfl (v := .pointer (some ⟨b1, 1, none⟩)) (y_k rfl rfl (fun _ => by kernel_rfl)) rfl ?_
 refine st rfl (o_ld 0 rfl rfl rfl Tryd.underlying3 rfl rfl ?_)
 refine e_by (f.mx < 0) (fun h1 => ?_) (fun h1 => ?_)
 ·
  refine s_y rfl (v := .bool true) (y_t (y_k (v := .bool (decide (f.mx < 0))) rfl rfl (fun _ => by kernel_rfl)) h1) rfl ?_
  refine s_y rfl (v := .bool true) (y_mv rfl) rfl ?_
  refine st_off 8 rfl rfl rfl rfl rfl rfl ?_
  refine st_off 8 rfl rfl rfl rfl rfl rfl ?_
  refine st_off 8 rfl rfl rfl rfl rfl rfl ?_
  refine s_y rfl (v := .bool true) (y_pick rfl rfl) rfl ?_
  refine s_y rfl (v := .bool true) (y_mv rfl) rfl ?_
  refine st_off 13 rfl rfl rfl rfl rfl rfl ?_
  refine st_off 13 rfl rfl rfl rfl rfl rfl ?_
  refine st_off 13 rfl rfl rfl rfl rfl rfl ?_
  refine st_off 13 rfl rfl rfl rfl rfl rfl ?_
  refine s_y rfl (v := .bool true) (y_pick rfl rfl) rfl ?_
  refine s_nil (q_then (c_true rfl (c_seq (c_region ?_))))
  refine s_y rfl (v := .bool false) (y_as rfl) rfl ?_
  refine s_nil (q_then (c_ret (q_then_ret ?_)))
  refine c_fin (I' := []) [] [] rfl (.tmp rfl .nil) rfl rfl rfl ?_
  exact ⟨dec_f (by first | exact filR_no (by omega) | exact filR_no1 (by assumption) (by assumption) | exact filR_no2 (by assumption) (by assumption) | exact filR_no0 (by assumption) (by assumption) (by assumption) | exact ⟨⟨by omega, by omega, by omega⟩, .inl ⟨by assumption, by assumption⟩⟩ | exact ⟨⟨by omega, by omega, by omega⟩, .inr (.inl ⟨by assumption, by assumption⟩)⟩ | exact (filR_3 ⟨⟨by omega, by omega, by omega⟩, by assumption⟩).2 (by assumption) | exact fun q => absurd (filR_ok3 q (by assumption)) (by rw [(by assumption : (recF f.fm).2 = true)]; decide)), rfl, rfl⟩
 ·
  refine s_y rfl (v := .bool false) (y_f (y_k (v := .bool (decide (f.mx < 0))) rfl rfl (fun _ => by kernel_rfl)) h1) rfl ?_
  refine s_y rfl (v := .bool false) (y_mv rfl) rfl ?_
  refine st_on 8 rfl rfl rfl (o_y (v := .pointer (some ⟨b1, 1, none⟩)) (y_k rfl rfl (fun _ => by kernel_rfl)) rfl rfl rfl ?_)
  refine st_on 8 rfl rfl rfl (o_ld 0 rfl rfl rfl Tryd.underlying3 rfl rfl ?_)
  refine e_by (f.mx > 200) (fun h2 => ?_) (fun h2 => ?_)
  ·
   refine st_on 8 rfl rfl rfl (o_y (v := .bool true) (y_t (y_k (v := .bool (decide (f.mx > 200))) rfl rfl (fun _ => by kernel_rfl)) h2) rfl rfl rfl ?_)
   refine s_y rfl (v := .bool true) (y_pick rfl rfl) rfl ?_
   refine s_y rfl (v := .bool true) (y_mv rfl) rfl ?_
   refine st_off 13 rfl rfl rfl rfl rfl rfl ?_
   refine st_off 13 rfl rfl rfl rfl rfl rfl ?_
   refine st_off 13 rfl rfl rfl rfl rfl rfl ?_
   refine st_off 13 rfl rfl rfl rfl rfl rfl ?_
   refine s_y rfl (v := .bool true) (y_pick rfl rfl) rfl ?_
   refine s_nil (q_then (c_true rfl (c_seq (c_region ?_))))
   refine s_y rfl (v := .bool false) (y_as rfl) rfl ?_
   refine s_nil (q_then (c_ret (q_then_ret ?_)))
   refine c_fin (I' := []) [] [] rfl (.tmp rfl .nil) rfl rfl rfl ?_
   exact ⟨dec_f (by first | exact filR_no (by omega) | exact filR_no1 (by assumption) (by assumption) | exact filR_no2 (by assumption) (by assumption) | exact filR_no0 (by assumption) (by assumption) (by assumption) | exact ⟨⟨by omega, by omega, by omega⟩, .inl ⟨by assumption, by assumption⟩⟩ | exact ⟨⟨by omega, by omega, by omega⟩, .inr (.inl ⟨by assumption, by assumption⟩)⟩ | exact (filR_3 ⟨⟨by omega, by omega, by omega⟩, by assumption⟩).2 (by assumption) | exact fun q => absurd (filR_ok3 q (by assumption)) (by rw [(by assumption : (recF f.fm).2 = true)]; decide)), rfl, rfl⟩
  ·
   refine st_on 8 rfl rfl rfl (o_y (v := .bool false) (y_f (y_k (v := .bool (decide (f.mx > 200))) rfl rfl (fun _ => by kernel_rfl)) h2) rfl rfl rfl ?_)
   refine s_y rfl (v := .bool false) (y_pick rfl rfl) rfl ?_
   refine s_y rfl (v := .bool false) (y_mv rfl) rfl ?_
   refine st_on 13 rfl rfl rfl (o_y (v := .pointer (some ⟨b1, 2, none⟩)) (y_k rfl rfl (fun _ => by kernel_rfl)) rfl rfl rfl ?_)
   refine st_on 13 rfl rfl rfl (o_ld 0 rfl rfl rfl Tryd.underlying9 rfl rfl ?_)
   refine st_on 13 rfl rfl rfl (o_y (v := .int .i64 (f.fm.size : Int)) (y_k rfl rfl (fun _ => by kernel_rfl)) rfl rfl rfl ?_)
   refine e_by ((f.fm.size : Int) > 40) (fun h3 => ?_) (fun h3 => ?_)
   ·
    refine st_on 13 rfl rfl rfl (o_y (v := .bool true) (y_t (y_k (v := .bool (decide ((f.fm.size : Int) > 40))) rfl rfl (fun _ => by kernel_rfl)) h3) rfl rfl rfl ?_)
    refine s_y rfl (v := .bool true) (y_pick rfl rfl) rfl ?_
    refine s_nil (q_then (c_true rfl (c_seq (c_region ?_))))
    refine s_y rfl (v := .bool false) (y_as rfl) rfl ?_
    refine s_nil (q_then (c_ret (q_then_ret ?_)))
    refine c_fin (I' := []) [] [] rfl (.tmp rfl .nil) rfl rfl rfl ?_
    exact ⟨dec_f (by first | exact filR_no (by omega) | exact filR_no1 (by assumption) (by assumption) | exact filR_no2 (by assumption) (by assumption) | exact filR_no0 (by assumption) (by assumption) (by assumption) | exact ⟨⟨by omega, by omega, by omega⟩, .inl ⟨by assumption, by assumption⟩⟩ | exact ⟨⟨by omega, by omega, by omega⟩, .inr (.inl ⟨by assumption, by assumption⟩)⟩ | exact (filR_3 ⟨⟨by omega, by omega, by omega⟩, by assumption⟩).2 (by assumption) | exact fun q => absurd (filR_ok3 q (by assumption)) (by rw [(by assumption : (recF f.fm).2 = true)]; decide)), rfl, rfl⟩
   ·
    refine st_on 13 rfl rfl rfl (o_y (v := .bool false) (y_f (y_k (v := .bool (decide ((f.fm.size : Int) > 40))) rfl rfl (fun _ => by kernel_rfl)) h3) rfl rfl rfl ?_)
    refine s_y rfl (v := .bool false) (y_pick rfl rfl) rfl ?_
    refine s_nil (q_then (c_false rfl (c_skip (q_then (c_seq (c_seq (c_region ?_)))))))
    refine s_y rfl (v := .pointer (some ⟨b1, 0, none⟩)) (y_k rfl rfl (fun _ => by kernel_rfl)) rfl ?_
    refine st rfl (o_ld 0 rfl rfl rfl Tryd.underlying3 rfl rfl ?_)
    refine s_nil (q_then (c_block (c_seq (c_region ?_))))
    refine e_by (f.kd = 1) (fun h4 => ?_) (fun h4 => ?_)
    ·
     refine s_y rfl (v := .bool true) (y_t (y_k (v := .bool (decide (f.kd = 1))) rfl rfl (fun _ => by kernel_rfl)) h4) rfl ?_
     refine s_y rfl (v := .bool true) (y_as rfl) rfl ?_
     refine s_nil (q_then (c_true rfl (c_seq (c_region ?_))))
     refine s_y rfl (v := .pointer (some ⟨b1, 2, none⟩)) (y_k rfl rfl (fun _ => by kernel_rfl)) rfl ?_
     refine st rfl (o_ld 0 rfl rfl rfl Tryd.underlying9 rfl rfl ?_)
     refine e_by (f.fm = (⟨#[]⟩ : ByteArray)) (fun h5 => ?_) (fun h5 => ?_)
     ·
      refine s_y rfl (v := .bool true) (y_b (y_k (v := .bool (f.fm.toList == (⟨#[]⟩ : ByteArray).toList)) rfl rfl (fun _ => by kernel_rfl)) (str_t h5)) rfl ?_
      refine s_y rfl (v := .bool true) (y_as rfl) rfl ?_
      refine s_nil (q_then (c_ret (q_block_ret (q_then_ret ?_))))
      refine c_fin (I' := []) [] [] rfl (.tmp rfl .nil) rfl rfl rfl ?_
      exact ⟨dec_t (by first | exact filR_no (by omega) | exact filR_no1 (by assumption) (by assumption) | exact filR_no2 (by assumption) (by assumption) | exact filR_no0 (by assumption) (by assumption) (by assumption) | exact ⟨⟨by omega, by omega, by omega⟩, .inl ⟨by assumption, by assumption⟩⟩ | exact ⟨⟨by omega, by omega, by omega⟩, .inr (.inl ⟨by assumption, by assumption⟩)⟩ | exact (filR_3 ⟨⟨by omega, by omega, by omega⟩, by assumption⟩).2 (by assumption) | exact fun q => absurd (filR_ok3 q (by assumption)) (by rw [(by assumption : (recF f.fm).2 = true)]; decide)), rfl, rfl⟩
     ·
      refine s_y rfl (v := .bool false) (y_b (y_k (v := .bool (f.fm.toList == (⟨#[]⟩ : ByteArray).toList)) rfl rfl (fun _ => by kernel_rfl)) (str_f h5)) rfl ?_
      refine s_y rfl (v := .bool false) (y_as rfl) rfl ?_
      refine s_nil (q_then (c_ret (q_block_ret (q_then_ret ?_))))
      refine c_fin (I' := []) [] [] rfl (.tmp rfl .nil) rfl rfl rfl ?_
      exact ⟨dec_f (by first | exact filR_no (by omega) | exact filR_no1 (by assumption) (by assumption) | exact filR_no2 (by assumption) (by assumption) | exact filR_no0 (by assumption) (by assumption) (by assumption) | exact ⟨⟨by omega, by omega, by omega⟩, .inl ⟨by assumption, by assumption⟩⟩ | exact ⟨⟨by omega, by omega, by omega⟩, .inr (.inl ⟨by assumption, by assumption⟩)⟩ | exact (filR_3 ⟨⟨by omega, by omega, by omega⟩, by assumption⟩).2 (by assumption) | exact fun q => absurd (filR_ok3 q (by assumption)) (by rw [(by assumption : (recF f.fm).2 = true)]; decide)), rfl, rfl⟩
    ·
     refine s_y rfl (v := .bool false) (y_f (y_k (v := .bool (decide (f.kd = 1))) rfl rfl (fun _ => by kernel_rfl)) h4) rfl ?_
     refine s_y rfl (v := .bool false) (y_as rfl) rfl ?_
     refine s_nil (q_then (c_false rfl (c_seq (c_region ?_))))
     refine e_by (f.kd = 2) (fun h6 => ?_) (fun h6 => ?_)
     ·
      refine s_y rfl (v := .bool true) (y_t (y_k (v := .bool (decide (f.kd = 2))) rfl rfl (fun _ => by kernel_rfl)) h6) rfl ?_
      refine s_y rfl (v := .bool true) (y_as rfl) rfl ?_
      refine s_nil (q_then (c_true rfl (c_seq (c_region ?_))))
      refine s_y rfl (v := .pointer (some ⟨b1, 2, none⟩)) (y_k rfl rfl (fun _ => by kernel_rfl)) rfl ?_
      refine st rfl (o_ld 0 rfl rfl rfl Tryd.underlying9 rfl rfl ?_)
      refine st rfl (o_call [] [] (rclass_ f.fm (by first | omega | assumption)) rfl rfl rfl rfl rfl rfl (fun v L' I' hq1 => ?_))
      obtain ⟨hv1, rfl, rfl⟩ := hq1
      refine e_by (classP f.fm) (fun h7 => ?_) (fun h7 => ?_)
      ·
       obtain rfl : v = .bool true := by rw [hv1, decide_eq_true h7]
       refine s_y rfl (v := .bool true) (y_as rfl) rfl ?_
       refine s_nil (q_then (c_ret (q_block_ret (q_then_ret ?_))))
       refine c_fin (I' := []) [] [] rfl (.tmp rfl .nil) rfl rfl rfl ?_
       exact ⟨dec_t (by first | exact filR_no (by omega) | exact filR_no1 (by assumption) (by assumption) | exact filR_no2 (by assumption) (by assumption) | exact filR_no0 (by assumption) (by assumption) (by assumption) | exact ⟨⟨by omega, by omega, by omega⟩, .inl ⟨by assumption, by assumption⟩⟩ | exact ⟨⟨by omega, by omega, by omega⟩, .inr (.inl ⟨by assumption, by assumption⟩)⟩ | exact (filR_3 ⟨⟨by omega, by omega, by omega⟩, by assumption⟩).2 (by assumption) | exact fun q => absurd (filR_ok3 q (by assumption)) (by rw [(by assumption : (recF f.fm).2 = true)]; decide)), rfl, rfl⟩
      ·
       obtain rfl : v = .bool false := by rw [hv1, decide_eq_false h7]
       refine s_y rfl (v := .bool false) (y_as rfl) rfl ?_
       refine s_nil (q_then (c_ret (q_block_ret (q_then_ret ?_))))
       refine c_fin (I' := []) [] [] rfl (.tmp rfl .nil) rfl rfl rfl ?_
       exact ⟨dec_f (by first | exact filR_no (by omega) | exact filR_no1 (by assumption) (by assumption) | exact filR_no2 (by assumption) (by assumption) | exact filR_no0 (by assumption) (by assumption) (by assumption) | exact ⟨⟨by omega, by omega, by omega⟩, .inl ⟨by assumption, by assumption⟩⟩ | exact ⟨⟨by omega, by omega, by omega⟩, .inr (.inl ⟨by assumption, by assumption⟩)⟩ | exact (filR_3 ⟨⟨by omega, by omega, by omega⟩, by assumption⟩).2 (by assumption) | exact fun q => absurd (filR_ok3 q (by assumption)) (by rw [(by assumption : (recF f.fm).2 = true)]; decide)), rfl, rfl⟩
     ·
      refine s_y rfl (v := .bool false) (y_f (y_k (v := .bool (decide (f.kd = 2))) rfl rfl (fun _ => by kernel_rfl)) h6) rfl ?_
      refine s_y rfl (v := .bool false) (y_as rfl) rfl ?_
      refine s_nil (q_then (c_false rfl (c_seq (c_region ?_))))
      refine e_by (f.kd = 3) (fun h8 => ?_) (fun h8 => ?_)
      ·
       refine s_y rfl (v := .bool true) (y_t (y_k (v := .bool (decide (f.kd = 3))) rfl rfl (fun _ => by kernel_rfl)) h8) rfl ?_
       refine s_y rfl (v := .bool true) (y_as rfl) rfl ?_
       refine s_nil (q_then (c_true rfl (c_seq (c_region ?_))))
       refine s_y rfl (v := .pointer (some ⟨b1, 2, none⟩)) (y_k rfl rfl (fun _ => by kernel_rfl)) rfl ?_
       refine st rfl (o_ld 0 rfl rfl rfl Tryd.underlying9 rfl rfl ?_)
       refine st rfl (o_call [] [] (rspread_ f.fm (by first | omega | assumption)) rfl rfl rfl rfl rfl rfl (fun v L' I' hq2 => ?_))
       rcases hq2 with ⟨h9, rfl, rfl, rfl⟩ | ⟨t1, h10, h11, rfl, rfl, rfl⟩
       ·
        refine s_y rfl (v := .tuple #[.string ((recF f.fm).1), .bool true]) (y_mv rfl) rfl ?_
        refine s_y rfl (v := .string ((recF f.fm).1)) (y_k rfl rfl (fun _ => by kernel_rfl)) rfl ?_
        refine s_y rfl (v := .bool true) (y_k rfl rfl (fun _ => by kernel_rfl)) rfl ?_
        refine s_y rfl (v := .string ((recF f.fm).1)) (y_as rfl) rfl ?_
        refine s_y rfl (v := .bool true) (y_as rfl) rfl ?_
        refine s_nil (q_then (c_seq (c_region ?_)))
        refine s_y rfl (v := .bool true) (y_mv rfl) rfl ?_
        refine s_y rfl (v := .bool true) (y_as rfl) rfl ?_
        refine s_nil (q_then (c_ret (q_block_ret (q_then_ret ?_))))
        refine c_fin (I' := []) [] [] rfl (.tmp rfl .nil) rfl rfl rfl ?_
        exact ⟨dec_t (by first | exact filR_no (by omega) | exact filR_no1 (by assumption) (by assumption) | exact filR_no2 (by assumption) (by assumption) | exact filR_no0 (by assumption) (by assumption) (by assumption) | exact ⟨⟨by omega, by omega, by omega⟩, .inl ⟨by assumption, by assumption⟩⟩ | exact ⟨⟨by omega, by omega, by omega⟩, .inr (.inl ⟨by assumption, by assumption⟩)⟩ | exact (filR_3 ⟨⟨by omega, by omega, by omega⟩, by assumption⟩).2 (by assumption) | exact fun q => absurd (filR_ok3 q (by assumption)) (by rw [(by assumption : (recF f.fm).2 = true)]; decide)), rfl, rfl⟩
       ·
        refine s_y rfl (v := .tuple #[.string t1, .bool false]) (y_mv rfl) rfl ?_
        refine s_y rfl (v := .string t1) (y_k rfl rfl (fun _ => by kernel_rfl)) rfl ?_
        refine s_y rfl (v := .bool false) (y_k rfl rfl (fun _ => by kernel_rfl)) rfl ?_
        refine s_y rfl (v := .string t1) (y_as rfl) rfl ?_
        refine s_y rfl (v := .bool false) (y_as rfl) rfl ?_
        refine s_nil (q_then (c_seq (c_region ?_)))
        refine s_y rfl (v := .bool false) (y_mv rfl) rfl ?_
        refine s_y rfl (v := .bool false) (y_as rfl) rfl ?_
        refine s_nil (q_then (c_ret (q_block_ret (q_then_ret ?_))))
        refine c_fin (I' := []) [] [] rfl (.tmp rfl .nil) rfl rfl rfl ?_
        exact ⟨dec_f (by first | exact filR_no (by omega) | exact filR_no1 (by assumption) (by assumption) | exact filR_no2 (by assumption) (by assumption) | exact filR_no0 (by assumption) (by assumption) (by assumption) | exact ⟨⟨by omega, by omega, by omega⟩, .inl ⟨by assumption, by assumption⟩⟩ | exact ⟨⟨by omega, by omega, by omega⟩, .inr (.inl ⟨by assumption, by assumption⟩)⟩ | exact (filR_3 ⟨⟨by omega, by omega, by omega⟩, by assumption⟩).2 (by assumption) | exact fun q => absurd (filR_ok3 q (by assumption)) (by rw [(by assumption : (recF f.fm).2 = true)]; decide)), rfl, rfl⟩
      ·
       refine s_y rfl (v := .bool false) (y_f (y_k (v := .bool (decide (f.kd = 3))) rfl rfl (fun _ => by kernel_rfl)) h8) rfl ?_
       refine s_y rfl (v := .bool false) (y_as rfl) rfl ?_
       refine s_nil (q_then (c_false rfl (c_skip (q_block (q_then (c_seq (c_region ?_)))))))
       refine s_y rfl (v := .bool false) (y_as rfl) rfl ?_
       refine s_nil (q_then (c_ret ?_))
       refine c_fin (I' := []) [] [] rfl (.tmp rfl .nil) rfl rfl rfl ?_
       exact ⟨dec_f (by first | exact filR_no (by omega) | exact filR_no1 (by assumption) (by assumption) | exact filR_no2 (by assumption) (by assumption) | exact filR_no0 (by assumption) (by assumption) (by assumption) | exact ⟨⟨by omega, by omega, by omega⟩, .inl ⟨by assumption, by assumption⟩⟩ | exact ⟨⟨by omega, by omega, by omega⟩, .inr (.inl ⟨by assumption, by assumption⟩)⟩ | exact (filR_3 ⟨⟨by omega, by omega, by omega⟩, by assumption⟩).2 (by assumption) | exact fun q => absurd (filR_ok3 q (by assumption)) (by rw [(by assumption : (recF f.fm).2 = true)]; decide)), rfl, rfl⟩
set_option maxHeartbeats 4000000 in
theorem rPlace_ (f : Fil) (s : ByteArray) (hs : s.size ≤ 100000) (hsz : f.fm.size ≤ 1000) : Con Tryd.prog 53 [.agg #[.int .i64 f.kd, .int .i64 f.mx, .string f.fm], .string s] [] [] (fun v L' I' => v = .tuple #[.int .i64 ((placeF f s).1), .int .i64 ((placeF f s).2)] ∧ L' = [] ∧ I' = []) := by
 refine fn_of Tryd.func53 rfl Tryd.ntmps53 (by kernel_rfl) rfl (fun C => ?_)
 refine c_seq (c_region ?_)
 refine st rfl (o_box (cs := [.int .i64 f.kd, .int .i64 f.mx, .string f.fm]) (T := 39) rfl rfl rfl rfl (fun _ => by kernel_rfl) (fun b1 => ?_))
 refine s_y rfl (v := .int .i64 0) (y_as rfl) rfl ?_
 refine s_y rfl (v := .int .i64 0) (y_as rfl) rfl ?_
 refine s_nil (q_then (c_seq (c_seq (c_region ?_))))
 refine st rfl (o_ldn 0 3 rfl rfl rfl rfl Tryd.underlying39 rfl (by kernel_rfl) (by kernel_rfl) rfl ?_)
 refine st rfl (o_call [] [] (rfRight_ f (by first | omega | assumption)) rfl rfl rfl rfl rfl rfl (fun v L' I' hq1 => ?_))
 obtain ⟨hv1, rfl, rfl⟩ := hq1
 refine e_by (filR f) (fun h1 => ?_) (fun h1 => ?_)
 ·
  obtain rfl : v = .bool true := by rw [hv1, decide_eq_true h1]
  refine s_y rfl (v := .bool false) (y_k rfl rfl (fun _ => by kernel_rfl)) rfl ?_
  refine s_nil (q_then (c_false rfl (c_skip (q_then (c_seq (c_region ?_))))))
  refine s_y rfl (v := .pointer (some ⟨b1, 2, none⟩)) (y_k rfl rfl (fun _ => by kernel_rfl)) rfl ?_
  refine st rfl (o_ld 0 rfl rfl rfl Tryd.underlying9 rfl rfl ?_)
  refine st rfl (o_call [] [] (rspread_ f.fm (by have := (filR_mx (by assumption)); omega)) rfl rfl rfl rfl rfl rfl (fun v L' I' hq2 => ?_))
  rcases hq2 with ⟨h2, rfl, rfl, rfl⟩ | ⟨t1, h3, h4, rfl, rfl, rfl⟩
  ·
   refine s_y rfl (v := .tuple #[.string ((recF f.fm).1), .bool true]) (y_mv rfl) rfl ?_
   refine s_y rfl (v := .string ((recF f.fm).1)) (y_k rfl rfl (fun _ => by kernel_rfl)) rfl ?_
   refine s_y rfl (v := .bool true) (y_k rfl rfl (fun _ => by kernel_rfl)) rfl ?_
   refine s_y rfl (v := .string ((recF f.fm).1)) (y_as rfl) rfl ?_
   refine s_y rfl (v := .bool true) (y_as rfl) rfl ?_
   refine s_nil (q_then (c_seq (c_seq (c_region ?_))))
   refine s_y rfl (v := .int .i64 0) (y_as rfl) rfl ?_
   refine s_nil (q_then (c_block ?_))
   refine c_loopn (ι := Nat) (fun i => (i ≤ s.size) ∧ ((i : Int) ≤ f.mx) ∧ (firstF f s = badAt f ((bl s).drop i) i)) (fun i => [(1, .string s), (2, .pointer (some ⟨b1, 0, none⟩)), (6, .string ((recF f.fm).1)), (8, .int .i64 (i : Int))]) (fun i => [pt b1 [.int .i64 f.kd, .int .i64 f.mx, .string f.fm] 39]) (fun i => []) (fun i => s.size - i) (0) [0] [] (show (0 ≤ s.size) ∧ ((0 : Int) ≤ f.mx) ∧ (firstF f s = badAt f ((bl s).drop 0) 0) from ⟨by first | omega | simp_all | (simp; done), by have := (filR_mx (by assumption)); omega, rfl⟩) ((.cons rfl rfl (.cons rfl rfl (.cons rfl rfl (.cons rfl rfl .nil))))) rfl rfl ?_
   rintro i ⟨hi, hmx, hb⟩
   show Ent 76 C [(1, .string s), (2, .pointer (some ⟨b1, 0, none⟩)), (6, .string ((recF f.fm).1)), (8, .int .i64 (i : Int))] [] [pt b1 [.int .i64 f.kd, .int .i64 f.mx, .string f.fm] 39] [] _
   refine c_seq (c_seq (c_region ?_))
   refine s_y rfl (v := .int .i64 (i : Int)) (y_mv rfl) rfl ?_
   refine s_y rfl (v := .string s) (y_mv rfl) rfl ?_
   refine s_y rfl (v := .int .i64 (s.size : Int)) (y_k rfl rfl (fun _ => by kernel_rfl)) rfl ?_
   refine e_by ((i : Int) < (s.size : Int)) (fun h5 => ?_) (fun h5 => ?_)
   ·
    refine s_y rfl (v := .bool true) (y_t (y_k (v := .bool (decide ((i : Int) < (s.size : Int)))) rfl rfl (fun _ => by kernel_rfl)) h5) rfl ?_
    refine s_nil (q_then (c_true rfl (c_skip (q_then (c_seq (c_block (c_seq ?_)))))))
    refine c_draw (l := ticked 39 0) [(⟨b1, 1, none⟩, .int .i64 f.mx), (⟨b1, 0, none⟩, .int .i64 f.kd), (⟨b1, 2, none⟩, .string f.fm)] [] (by kernel_rfl) rfl rfl ?_
    refine b_y (i := 0) (v := .int .i64 (i : Int)) (ticked 39 1) rfl rfl (by exact y_mv rfl) ?_
    refine b_y (i := 1) (v := .pointer (some ⟨b1, 1, none⟩)) (ticked 39 3) rfl rfl (by exact y_k rfl rfl (fun _ => by kernel_rfl)) ?_
    refine a_held (i := 2) (ticked 39 7) rfl (by as_aux_lemma => kernel_rfl) rfl rfl rfl (held_pt 0 rfl rfl (held_pt 0 rfl rfl (held_pt 0 rfl rfl held_nil))) (h_ld 0 rfl rfl Tryd.underlying3 rfl) ?_
    refine e_by ((i : Int) = f.mx) (fun h6 => ?_) (fun h6 => ?_)
    ·
     refine b_y (i := 3) (v := .bool true) (ticked 39 15) rfl rfl (by exact y_t (y_k (v := .bool (decide ((i : Int) = f.mx))) rfl rfl (fun _ => by kernel_rfl)) h6) ?_
     refine b_y (i := 4) (v := .bool true) (ticked 39 31) rfl rfl (by exact y_mv rfl) ?_
     refine b_f (i := 5) 28 (ticked 39 63) rfl rfl rfl rfl ?_
     refine b_f (i := 6) 28 (ticked 39 127) rfl rfl rfl rfl ?_
     refine b_f (i := 7) 28 (ticked 39 255) rfl rfl rfl rfl ?_
     refine b_f (i := 8) 28 (ticked 39 511) rfl rfl rfl rfl ?_
     refine b_u (i := 9) 32 (ticked 39 1023) rfl rfl rfl ?_
     refine b_u (i := 10) 32 (ticked 39 2047) rfl rfl rfl ?_
     refine b_u (i := 11) 32 (ticked 39 4095) rfl rfl rfl ?_
     refine b_u (i := 12) 32 (ticked 39 8191) rfl rfl rfl ?_
     refine b_u (i := 13) 32 (ticked 39 16383) rfl rfl rfl ?_
     refine b_u (i := 14) 32 (ticked 39 32767) rfl rfl rfl ?_
     refine b_u (i := 15) 32 (ticked 39 65535) rfl rfl rfl ?_
     refine b_f (i := 16) 28 (ticked 39 131071) rfl rfl rfl rfl ?_
     refine b_y (i := 17) (v := .bool true) (ticked 39 262143) rfl rfl (by exact y_pick rfl rfl) ?_
     refine b_y (i := 18) (v := .bool true) (ticked 39 524287) rfl rfl (by exact y_mv rfl) ?_
     refine b_f (i := 19) 42 (ticked 39 1048575) rfl rfl rfl rfl ?_
     refine b_f (i := 20) 42 (ticked 39 2097151) rfl rfl rfl rfl ?_
     refine b_f (i := 21) 42 (ticked 39 4194303) rfl rfl rfl rfl ?_
     refine b_f (i := 22) 42 (ticked 39 8388607) rfl rfl rfl rfl ?_
     refine b_u (i := 23) 46 (ticked 39 16777215) rfl rfl rfl ?_
     refine b_u (i := 24) 46 (ticked 39 33554431) rfl rfl rfl ?_
     refine b_u (i := 25) 46 (ticked 39 67108863) rfl rfl rfl ?_
     refine b_u (i := 26) 46 (ticked 39 134217727) rfl rfl rfl ?_
     refine b_u (i := 27) 46 (ticked 39 268435455) rfl rfl rfl ?_
     refine b_u (i := 28) 51 (ticked 39 536870911) rfl rfl rfl ?_
     refine b_u (i := 29) 51 (ticked 39 1073741823) rfl rfl rfl ?_
     refine b_u (i := 30) 51 (ticked 39 2147483647) rfl rfl rfl ?_
     refine b_u (i := 31) 51 (ticked 39 4294967295) rfl rfl rfl ?_
     refine b_u (i := 32) 51 (ticked 39 8589934591) rfl rfl rfl ?_
     refine b_u (i := 33) 51 (ticked 39 17179869183) rfl rfl rfl ?_
     refine b_u (i := 34) 51 (ticked 39 34359738367) rfl rfl rfl ?_
     refine b_u (i := 35) 51 (ticked 39 68719476735) rfl rfl rfl ?_
     refine b_u (i := 36) 46 (ticked 39 137438953471) rfl rfl rfl ?_
     refine b_f (i := 37) 42 (ticked 39 274877906943) rfl rfl rfl rfl ?_
     refine b_y (i := 38) (v := .bool true) (ticked 39 549755813887) rfl rfl (by exact y_pick rfl rfl) ?_
     refine a_done (by as_aux_lemma => kernel_rfl) ?_
     refine q_then (c_true rfl (c_seq (c_region ?_)))
     refine s_y rfl (v := .int .i64 (i : Int)) (y_mv rfl) rfl ?_
     refine s_y rfl (v := .int .i64 (i : Int)) (y_as rfl) rfl ?_
     refine s_y rfl (v := .int .i64 0) (y_as rfl) rfl ?_
     refine s_nil (q_then (c_ret (q_block_ret (q_then_ret (q_then_ret (q_block_ret (q_then_ret ?_)))))))
     have hz : firstF f s = (i : Int) := bads_no (by omega) (fun c hc q => by first | (have q1 := q.1; omega) | (obtain rfl := Option.some.inj (hx.symm.trans hc); exact absurd (q.2.1 (by assumption)) (by assumption)) | (have q1 := q.2.2 (by assumption); exact isin_no (by omega) q1) | (obtain rfl := Option.some.inj (hx.symm.trans hc); exact fit_no hx (by assumption) (q.2.2 (by assumption)))) hb
     have hp : placeF f s = ((i : Int), 0) := by rw [place_1 (by assumption) (fun q => by have q1 := q.1; omega), hz]
     refine c_fin (I' := []) [] [] rfl (.tmp rfl (.tmp rfl .nil)) rfl rfl rfl ?_
     rw [hp]
     exact ⟨rfl, rfl, rfl⟩
    ·
     refine b_y (i := 3) (v := .bool false) (ticked 39 15) rfl rfl (by exact y_f (y_k (v := .bool (decide ((i : Int) = f.mx))) rfl rfl (fun _ => by kernel_rfl)) h6) ?_
     refine b_y (i := 4) (v := .bool false) (ticked 39 31) rfl rfl (by exact y_mv rfl) ?_
     refine b_yo (i := 5) (v := .pointer (some ⟨b1, 0, none⟩)) 28 (ticked 39 63) rfl rfl rfl (by exact y_k rfl rfl (fun _ => by kernel_rfl)) ?_
     refine a_held_on (i := 6) 28 (ticked 39 127) rfl (by as_aux_lemma => kernel_rfl) rfl rfl rfl rfl rfl (held_pt 0 rfl rfl (held_pt 0 rfl rfl (held_pt 0 rfl rfl held_nil))) (h_ld 1 rfl rfl Tryd.underlying3 rfl) ?_
     refine e_by (f.kd = 2) (fun h7 => ?_) (fun h7 => ?_)
     ·
      refine b_yo (i := 7) (v := .bool true) 28 (ticked 39 255) rfl rfl rfl (by exact y_t (y_k (v := .bool (decide (f.kd = 2))) rfl rfl (fun _ => by kernel_rfl)) h7) ?_
      refine b_yo (i := 8) (v := .bool true) 28 (ticked 39 511) rfl rfl rfl (by exact y_mv rfl) ?_
      refine b_yo (i := 9) (v := .pointer (some ⟨b1, 2, none⟩)) 32 (ticked 39 1023) rfl rfl rfl (by exact y_k rfl rfl (fun _ => by kernel_rfl)) ?_
      refine b_yo (i := 11) (v := .string s) 32 (ticked 39 3071) rfl rfl rfl (by exact y_mv rfl) ?_
      refine b_yo (i := 12) (v := .int .i64 (i : Int)) 32 (ticked 39 7167) rfl rfl rfl (by exact y_mv rfl) ?_
      obtain ⟨x1, hb1⟩ : ∃ x, (s)[i]? = some x := ⟨_, getElem?_pos (s) i (by omega)⟩
      refine b_yo (i := 13) (v := .int .u8 (x1.toNat : Int)) 32 (ticked 39 15359) rfl rfl rfl (by exact y_sidx i x1 rfl rfl (rfl) hb1 Tryd.underlying9) ?_
      refine a_held_on (i := 10) 32 (ticked 39 16383) rfl (by as_aux_lemma => kernel_rfl) rfl rfl rfl rfl rfl (held_pt 0 rfl rfl (held_pt 0 rfl rfl (held_pt 0 rfl rfl held_nil))) (h_ld 2 rfl rfl Tryd.underlying9 rfl) ?_
      refine a_each (rs := [14]) (by as_aux_lemma => kernel_rfl) (.on 32 (ticked 39 32767) rfl rfl rfl rfl rfl (o_call [] [] (rof_ f.fm x1 (by first | omega | assumption)) rfl rfl rfl rfl rfl rfl (fun v L' I' hq3 => ?_)) .nil) (List.cons_ne_nil _ _)
      obtain ⟨hv2, rfl, rfl⟩ := hq3
      refine e_by (inCl (bl f.fm) x1) (fun h8 => ?_) (fun h8 => ?_)
      ·
       obtain rfl : v = .bool true := by rw [hv2, decide_eq_true h8]
       refine a_and (held_pt 0 rfl rfl (held_pt 0 rfl rfl (held_pt 0 rfl rfl held_nil))) ?_
       refine b_yo (i := 15) (v := .bool false) 32 (ticked 39 65535) rfl rfl rfl (by exact y_k rfl rfl (fun _ => by kernel_rfl)) ?_
       refine b_yo (i := 16) (v := .bool false) 28 (ticked 39 131071) rfl rfl rfl (by exact y_pick rfl rfl) ?_
       refine b_y (i := 17) (v := .bool false) (ticked 39 262143) rfl rfl (by exact y_pick rfl rfl) ?_
       refine b_y (i := 18) (v := .bool false) (ticked 39 524287) rfl rfl (by exact y_mv rfl) ?_
       refine b_yo (i := 19) (v := .pointer (some ⟨b1, 0, none⟩)) 42 (ticked 39 1048575) rfl rfl rfl (by exact y_k rfl rfl (fun _ => by kernel_rfl)) ?_
       refine a_held_on (i := 20) 42 (ticked 39 2097151) rfl (by as_aux_lemma => kernel_rfl) rfl rfl rfl rfl rfl (held_pt 0 rfl rfl (held_pt 0 rfl rfl (held_pt 0 rfl rfl held_nil))) (h_ld 1 rfl rfl Tryd.underlying3 rfl) ?_
       refine e_by (f.kd = 3) (fun h9 => ?_) (fun h9 => ?_)
       ·
        refine b_yo (i := 21) (v := .bool true) 42 (ticked 39 4194303) rfl rfl rfl (by exact y_t (y_k (v := .bool (decide (f.kd = 3))) rfl rfl (fun _ => by kernel_rfl)) h9) ?_
        refine b_yo (i := 22) (v := .bool true) 42 (ticked 39 8388607) rfl rfl rfl (by exact y_mv rfl) ?_
        refine b_yo (i := 23) (v := .int .i64 (i : Int)) 46 (ticked 39 16777215) rfl rfl rfl (by exact y_mv rfl) ?_
        refine b_yo (i := 24) (v := .string ((recF f.fm).1)) 46 (ticked 39 33554431) rfl rfl rfl (by exact y_mv rfl) ?_
        refine b_yo (i := 25) (v := .int .i64 (((recF f.fm).1).size : Int)) 46 (ticked 39 67108863) rfl rfl rfl (by exact y_k rfl rfl (fun _ => by kernel_rfl)) ?_
        refine e_by ((i : Int) ≥ (((recF f.fm).1).size : Int)) (fun h10 => ?_) (fun h10 => ?_)
        ·
         refine b_yo (i := 26) (v := .bool true) 46 (ticked 39 134217727) rfl rfl rfl (by exact y_t (y_k (v := .bool (decide ((i : Int) ≥ (((recF f.fm).1).size : Int)))) rfl rfl (fun _ => by kernel_rfl)) h10) ?_
         refine b_yo (i := 27) (v := .bool true) 46 (ticked 39 268435455) rfl rfl rfl (by exact y_mv rfl) ?_
         refine b_f (i := 28) 51 (ticked 39 536870911) rfl rfl rfl rfl ?_
         refine b_f (i := 29) 51 (ticked 39 1073741823) rfl rfl rfl rfl ?_
         refine b_f (i := 30) 51 (ticked 39 2147483647) rfl rfl rfl rfl ?_
         refine b_f (i := 31) 51 (ticked 39 4294967295) rfl rfl rfl rfl ?_
         refine b_f (i := 32) 51 (ticked 39 8589934591) rfl rfl rfl rfl ?_
         refine b_f (i := 33) 51 (ticked 39 17179869183) rfl rfl rfl rfl ?_
         refine b_f (i := 34) 51 (ticked 39 34359738367) rfl rfl rfl rfl ?_
         refine b_f (i := 35) 51 (ticked 39 68719476735) rfl rfl rfl rfl ?_
         refine b_yo (i := 36) (v := .bool true) 46 (ticked 39 137438953471) rfl rfl rfl (by exact y_pick rfl rfl) ?_
         refine b_yo (i := 37) (v := .bool true) 42 (ticked 39 274877906943) rfl rfl rfl (by exact y_pick rfl rfl) ?_
         refine b_y (i := 38) (v := .bool true) (ticked 39 549755813887) rfl rfl (by exact y_pick rfl rfl) ?_
         refine a_done (by as_aux_lemma => kernel_rfl) ?_
         refine q_then (c_true rfl (c_seq (c_region ?_)))
         refine s_y rfl (v := .int .i64 (i : Int)) (y_mv rfl) rfl ?_
         refine s_y rfl (v := .int .i64 (i : Int)) (y_as rfl) rfl ?_
         refine s_y rfl (v := .int .i64 0) (y_as rfl) rfl ?_
         refine s_nil (q_then (c_ret (q_block_ret (q_then_ret (q_then_ret (q_block_ret (q_then_ret ?_)))))))
         have hz : firstF f s = (i : Int) := bads_no (by omega) (fun c hc q => by first | (have q1 := q.1; omega) | (obtain rfl := Option.some.inj (hb1.symm.trans hc); exact absurd (q.2.1 (by assumption)) (by assumption)) | (have q1 := q.2.2 (by assumption); exact isin_no (by omega) q1) | (obtain rfl := Option.some.inj (hb1.symm.trans hc); exact fit_no hx (by assumption) (q.2.2 (by assumption)))) hb
         have hp : placeF f s = ((i : Int), 0) := by rw [place_1 (by assumption) (fun q => by have q1 := q.1; omega), hz]
         refine c_fin (I' := []) [] [] rfl (.tmp rfl (.tmp rfl .nil)) rfl rfl rfl ?_
         rw [hp]
         exact ⟨rfl, rfl, rfl⟩
        ·
         refine b_yo (i := 26) (v := .bool false) 46 (ticked 39 134217727) rfl rfl rfl (by exact y_f (y_k (v := .bool (decide ((i : Int) ≥ (((recF f.fm).1).size : Int)))) rfl rfl (fun _ => by kernel_rfl)) h10) ?_
         refine b_yo (i := 27) (v := .bool false) 46 (ticked 39 268435455) rfl rfl rfl (by exact y_mv rfl) ?_
         refine b_yo (i := 28) (v := .string ((recF f.fm).1)) 51 (ticked 39 536870911) rfl rfl rfl (by exact y_mv rfl) ?_
         refine b_yo (i := 29) (v := .int .i64 (i : Int)) 51 (ticked 39 1073741823) rfl rfl rfl (by exact y_mv rfl) ?_
         obtain ⟨x2, hb2⟩ : ∃ x, ((recF f.fm).1)[i]? = some x := ⟨_, getElem?_pos ((recF f.fm).1) i (by omega)⟩
         refine b_yo (i := 30) (v := .int .u8 (x2.toNat : Int)) 51 (ticked 39 2147483647) rfl rfl rfl (by exact y_sidx i x2 rfl rfl (rfl) hb2 Tryd.underlying9) ?_
         refine b_yo (i := 31) (v := .string s) 51 (ticked 39 4294967295) rfl rfl rfl (by exact y_mv rfl) ?_
         refine b_yo (i := 32) (v := .int .i64 (i : Int)) 51 (ticked 39 8589934591) rfl rfl rfl (by exact y_mv rfl) ?_
         refine b_yo (i := 33) (v := .int .u8 (x1.toNat : Int)) 51 (ticked 39 17179869183) rfl rfl rfl (by exact y_sidx i x1 rfl rfl (rfl) hb1 Tryd.underlying9) ?_
         refine a_each (rs := [34]) (by as_aux_lemma => kernel_rfl) (.on 51 (ticked 39 34359738367) rfl rfl rfl rfl rfl (o_call [] [] (rfits_ x2 x1) rfl rfl rfl rfl rfl rfl (fun v L' I' hq4 => ?_)) .nil) (List.cons_ne_nil _ _)
         obtain ⟨hv3, rfl, rfl⟩ := hq4
         refine e_by (fitsC x2 x1) (fun h11 => ?_) (fun h11 => ?_)
         ·
          obtain rfl : v = .bool true := by rw [hv3, decide_eq_true h11]
          refine a_and (held_pt 0 rfl rfl (held_pt 0 rfl rfl (held_pt 0 rfl rfl held_nil))) ?_
          refine b_yo (i := 35) (v := .bool false) 51 (ticked 39 68719476735) rfl rfl rfl (by exact y_k rfl rfl (fun _ => by kernel_rfl)) ?_
          refine b_yo (i := 36) (v := .bool false) 46 (ticked 39 137438953471) rfl rfl rfl (by exact y_pick rfl rfl) ?_
          refine b_yo (i := 37) (v := .bool false) 42 (ticked 39 274877906943) rfl rfl rfl (by exact y_pick rfl rfl) ?_
          refine b_y (i := 38) (v := .bool false) (ticked 39 549755813887) rfl rfl (by exact y_pick rfl rfl) ?_
          refine a_done (by as_aux_lemma => kernel_rfl) ?_
          refine q_then (c_false rfl (c_skip (q_block (q_then (c_region ?_)))))
          refine s_y rfl (v := .int .i64 (i : Int)) (y_mv rfl) rfl ?_
          refine s_y rfl (v := .int .i64 ((i : Int) + 1)) (y_add (r := (i : Int) + 1) rfl rfl rfl (by omega)) rfl ?_
          refine s_y rfl (v := .int .i64 ((i : Int) + 1)) (y_as rfl) rfl ?_
          refine s_nil (q_then ?_)
          refine c_next [0] [] (i + 1) ?_ ?_ ?_ (by rfl) (by rfl)
          · exact (show ((i + 1) ≤ s.size) ∧ (((i + 1) : Int) ≤ f.mx) ∧ (firstF f s = badAt f ((bl s).drop (i + 1)) (i + 1)) from ⟨by first | omega | simp_all | (simp; done), by first | omega | simp_all | (simp; done), bads_ok hb1 ⟨by omega, fun e => by first | assumption | exact absurd e (by first | assumption | omega), fun e => by first | exact fit_at hb2 (by assumption) | exact absurd e (by first | assumption | omega | exact fun e => absurd (filR_ok3 (by assumption) e) (by rw [(by assumption : (recF f.fm).2 = true)]; decide))⟩ hb⟩)
          · show s.size - (i + 1) < s.size - i; omega
          · exact (.cons rfl rfl (.cons rfl rfl (.cons rfl rfl (.cons rfl (show (.int .i64 ((i : Int) + 1) : Value) = .int .i64 ((i + 1) : Int) from by first | rfl | (congr 1; omega) | (congr 1; simp; done) | (congr 1; simp; omega)) .nil))))
         ·
          obtain rfl : v = .bool false := by rw [hv3, decide_eq_false h11]
          refine a_and (held_pt 0 rfl rfl (held_pt 0 rfl rfl (held_pt 0 rfl rfl held_nil))) ?_
          refine b_yo (i := 35) (v := .bool true) 51 (ticked 39 68719476735) rfl rfl rfl (by exact y_k rfl rfl (fun _ => by kernel_rfl)) ?_
          refine b_yo (i := 36) (v := .bool true) 46 (ticked 39 137438953471) rfl rfl rfl (by exact y_pick rfl rfl) ?_
          refine b_yo (i := 37) (v := .bool true) 42 (ticked 39 274877906943) rfl rfl rfl (by exact y_pick rfl rfl) ?_
          refine b_y (i := 38) (v := .bool true) (ticked 39 549755813887) rfl rfl (by exact y_pick rfl rfl) ?_
          refine a_done (by as_aux_lemma => kernel_rfl) ?_
          refine q_then (c_true rfl (c_seq (c_region ?_)))
          refine s_y rfl (v := .int .i64 (i : Int)) (y_mv rfl) rfl ?_
          refine s_y rfl (v := .int .i64 (i : Int)) (y_as rfl) rfl ?_
          refine s_y rfl (v := .int .i64 0) (y_as rfl) rfl ?_
          refine s_nil (q_then (c_ret (q_block_ret (q_then_ret (q_then_ret (q_block_ret (q_then_ret ?_)))))))
          have hz : firstF f s = (i : Int) := bads_no (by omega) (fun c hc q => by first | (have q1 := q.1; omega) | (obtain rfl := Option.some.inj (hb1.symm.trans hc); exact absurd (q.2.1 (by assumption)) (by assumption)) | (have q1 := q.2.2 (by assumption); exact isin_no (by omega) q1) | (obtain rfl := Option.some.inj (hb1.symm.trans hc); exact fit_no hb2 (by assumption) (q.2.2 (by assumption)))) hb
          have hp : placeF f s = ((i : Int), 0) := by rw [place_1 (by assumption) (fun q => by have q1 := q.1; omega), hz]
          refine c_fin (I' := []) [] [] rfl (.tmp rfl (.tmp rfl .nil)) rfl rfl rfl ?_
          rw [hp]
          exact ⟨rfl, rfl, rfl⟩
       ·
        refine b_yo (i := 21) (v := .bool false) 42 (ticked 39 4194303) rfl rfl rfl (by exact y_f (y_k (v := .bool (decide (f.kd = 3))) rfl rfl (fun _ => by kernel_rfl)) h9) ?_
        refine b_yo (i := 22) (v := .bool false) 42 (ticked 39 8388607) rfl rfl rfl (by exact y_mv rfl) ?_
        refine b_f (i := 23) 46 (ticked 39 16777215) rfl rfl rfl rfl ?_
        refine b_f (i := 24) 46 (ticked 39 33554431) rfl rfl rfl rfl ?_
        refine b_f (i := 25) 46 (ticked 39 67108863) rfl rfl rfl rfl ?_
        refine b_f (i := 26) 46 (ticked 39 134217727) rfl rfl rfl rfl ?_
        refine b_f (i := 27) 46 (ticked 39 268435455) rfl rfl rfl rfl ?_
        refine b_u (i := 28) 51 (ticked 39 536870911) rfl rfl rfl ?_
        refine b_u (i := 29) 51 (ticked 39 1073741823) rfl rfl rfl ?_
        refine b_u (i := 30) 51 (ticked 39 2147483647) rfl rfl rfl ?_
        refine b_u (i := 31) 51 (ticked 39 4294967295) rfl rfl rfl ?_
        refine b_u (i := 32) 51 (ticked 39 8589934591) rfl rfl rfl ?_
        refine b_u (i := 33) 51 (ticked 39 17179869183) rfl rfl rfl ?_
        refine b_u (i := 34) 51 (ticked 39 34359738367) rfl rfl rfl ?_
        refine b_u (i := 35) 51 (ticked 39 68719476735) rfl rfl rfl ?_
        refine b_f (i := 36) 46 (ticked 39 137438953471) rfl rfl rfl rfl ?_
        refine b_yo (i := 37) (v := .bool false) 42 (ticked 39 274877906943) rfl rfl rfl (by exact y_pick rfl rfl) ?_
        refine b_y (i := 38) (v := .bool false) (ticked 39 549755813887) rfl rfl (by exact y_pick rfl rfl) ?_
        refine a_done (by as_aux_lemma => kernel_rfl) ?_
        refine q_then (c_false rfl (c_skip (q_block (q_then (c_region ?_)))))
        refine s_y rfl (v := .int .i64 (i : Int)) (y_mv rfl) rfl ?_
        refine s_y rfl (v := .int .i64 ((i : Int) + 1)) (y_add (r := (i : Int) + 1) rfl rfl rfl (by omega)) rfl ?_
        refine s_y rfl (v := .int .i64 ((i : Int) + 1)) (y_as rfl) rfl ?_
        refine s_nil (q_then ?_)
        refine c_next [0] [] (i + 1) ?_ ?_ ?_ (by rfl) (by rfl)
        · exact (show ((i + 1) ≤ s.size) ∧ (((i + 1) : Int) ≤ f.mx) ∧ (firstF f s = badAt f ((bl s).drop (i + 1)) (i + 1)) from ⟨by first | omega | simp_all | (simp; done), by first | omega | simp_all | (simp; done), bads_ok hb1 ⟨by omega, fun e => by first | assumption | exact absurd e (by first | assumption | omega), fun e => by first | exact fit_at hx (by assumption) | exact absurd e (by first | assumption | omega | exact fun e => absurd (filR_ok3 (by assumption) e) (by rw [(by assumption : (recF f.fm).2 = true)]; decide))⟩ hb⟩)
        · show s.size - (i + 1) < s.size - i; omega
        · exact (.cons rfl rfl (.cons rfl rfl (.cons rfl rfl (.cons rfl (show (.int .i64 ((i : Int) + 1) : Value) = .int .i64 ((i + 1) : Int) from by first | rfl | (congr 1; omega) | (congr 1; simp; done) | (congr 1; simp; omega)) .nil))))
      ·
       obtain rfl : v = .bool false := by rw [hv2, decide_eq_false h8]
       refine a_and (held_pt 0 rfl rfl (held_pt 0 rfl rfl (held_pt 0 rfl rfl held_nil))) ?_
       refine b_yo (i := 15) (v := .bool true) 32 (ticked 39 65535) rfl rfl rfl (by exact y_k rfl rfl (fun _ => by kernel_rfl)) ?_
       refine b_yo (i := 16) (v := .bool true) 28 (ticked 39 131071) rfl rfl rfl (by exact y_pick rfl rfl) ?_
       refine b_y (i := 17) (v := .bool true) (ticked 39 262143) rfl rfl (by exact y_pick rfl rfl) ?_
       refine b_y (i := 18) (v := .bool true) (ticked 39 524287) rfl rfl (by exact y_mv rfl) ?_
       refine b_f (i := 19) 42 (ticked 39 1048575) rfl rfl rfl rfl ?_
       refine b_f (i := 20) 42 (ticked 39 2097151) rfl rfl rfl rfl ?_
       refine b_f (i := 21) 42 (ticked 39 4194303) rfl rfl rfl rfl ?_
       refine b_f (i := 22) 42 (ticked 39 8388607) rfl rfl rfl rfl ?_
       refine b_u (i := 23) 46 (ticked 39 16777215) rfl rfl rfl ?_
       refine b_u (i := 24) 46 (ticked 39 33554431) rfl rfl rfl ?_
       refine b_u (i := 25) 46 (ticked 39 67108863) rfl rfl rfl ?_
       refine b_u (i := 26) 46 (ticked 39 134217727) rfl rfl rfl ?_
       refine b_u (i := 27) 46 (ticked 39 268435455) rfl rfl rfl ?_
       refine b_u (i := 28) 51 (ticked 39 536870911) rfl rfl rfl ?_
       refine b_u (i := 29) 51 (ticked 39 1073741823) rfl rfl rfl ?_
       refine b_u (i := 30) 51 (ticked 39 2147483647) rfl rfl rfl ?_
       refine b_u (i := 31) 51 (ticked 39 4294967295) rfl rfl rfl ?_
       refine b_u (i := 32) 51 (ticked 39 8589934591) rfl rfl rfl ?_
       refine b_u (i := 33) 51 (ticked 39 17179869183) rfl rfl rfl ?_
       refine b_u (i := 34) 51 (ticked 39 34359738367) rfl rfl rfl ?_
       refine b_u (i := 35) 51 (ticked 39 68719476735) rfl rfl rfl ?_
       refine b_u (i := 36) 46 (ticked 39 137438953471) rfl rfl rfl ?_
       refine b_f (i := 37) 42 (ticked 39 274877906943) rfl rfl rfl rfl ?_
       refine b_y (i := 38) (v := .bool true) (ticked 39 549755813887) rfl rfl (by exact y_pick rfl rfl) ?_
       refine a_done (by as_aux_lemma => kernel_rfl) ?_
       refine q_then (c_true rfl (c_seq (c_region ?_)))
       refine s_y rfl (v := .int .i64 (i : Int)) (y_mv rfl) rfl ?_
       refine s_y rfl (v := .int .i64 (i : Int)) (y_as rfl) rfl ?_
       refine s_y rfl (v := .int .i64 0) (y_as rfl) rfl ?_
       refine s_nil (q_then (c_ret (q_block_ret (q_then_ret (q_then_ret (q_block_ret (q_then_ret ?_)))))))
       have hz : firstF f s = (i : Int) := bads_no (by omega) (fun c hc q => by first | (have q1 := q.1; omega) | (obtain rfl := Option.some.inj (hb1.symm.trans hc); exact absurd (q.2.1 (by assumption)) (by assumption)) | (have q1 := q.2.2 (by assumption); exact isin_no (by omega) q1) | (obtain rfl := Option.some.inj (hb1.symm.trans hc); exact fit_no hx (by assumption) (q.2.2 (by assumption)))) hb
       have hp : placeF f s = ((i : Int), 0) := by rw [place_1 (by assumption) (fun q => by have q1 := q.1; omega), hz]
       refine c_fin (I' := []) [] [] rfl (.tmp rfl (.tmp rfl .nil)) rfl rfl rfl ?_
       rw [hp]
       exact ⟨rfl, rfl, rfl⟩
     ·
      refine b_yo (i := 7) (v := .bool false) 28 (ticked 39 255) rfl rfl rfl (by exact y_f (y_k (v := .bool (decide (f.kd = 2))) rfl rfl (fun _ => by kernel_rfl)) h7) ?_
      refine b_yo (i := 8) (v := .bool false) 28 (ticked 39 511) rfl rfl rfl (by exact y_mv rfl) ?_
      refine b_f (i := 9) 32 (ticked 39 1023) rfl rfl rfl rfl ?_
      refine b_f (i := 10) 32 (ticked 39 2047) rfl rfl rfl rfl ?_
      refine b_f (i := 11) 32 (ticked 39 4095) rfl rfl rfl rfl ?_
      refine b_f (i := 12) 32 (ticked 39 8191) rfl rfl rfl rfl ?_
      refine b_f (i := 13) 32 (ticked 39 16383) rfl rfl rfl rfl ?_
      refine b_f (i := 14) 32 (ticked 39 32767) rfl rfl rfl rfl ?_
      refine b_f (i := 15) 32 (ticked 39 65535) rfl rfl rfl rfl ?_
      refine b_yo (i := 16) (v := .bool false) 28 (ticked 39 131071) rfl rfl rfl (by exact y_pick rfl rfl) ?_
      refine b_y (i := 17) (v := .bool false) (ticked 39 262143) rfl rfl (by exact y_pick rfl rfl) ?_
      refine b_y (i := 18) (v := .bool false) (ticked 39 524287) rfl rfl (by exact y_mv rfl) ?_
      refine b_yo (i := 19) (v := .pointer (some ⟨b1, 0, none⟩)) 42 (ticked 39 1048575) rfl rfl rfl (by exact y_k rfl rfl (fun _ => by kernel_rfl)) ?_
      refine a_held_on (i := 20) 42 (ticked 39 2097151) rfl (by as_aux_lemma => kernel_rfl) rfl rfl rfl rfl rfl (held_pt 0 rfl rfl (held_pt 0 rfl rfl (held_pt 0 rfl rfl held_nil))) (h_ld 1 rfl rfl Tryd.underlying3 rfl) ?_
      refine e_by (f.kd = 3) (fun h12 => ?_) (fun h12 => ?_)
      ·
       refine b_yo (i := 21) (v := .bool true) 42 (ticked 39 4194303) rfl rfl rfl (by exact y_t (y_k (v := .bool (decide (f.kd = 3))) rfl rfl (fun _ => by kernel_rfl)) h12) ?_
       refine b_yo (i := 22) (v := .bool true) 42 (ticked 39 8388607) rfl rfl rfl (by exact y_mv rfl) ?_
       refine b_yo (i := 23) (v := .int .i64 (i : Int)) 46 (ticked 39 16777215) rfl rfl rfl (by exact y_mv rfl) ?_
       refine b_yo (i := 24) (v := .string ((recF f.fm).1)) 46 (ticked 39 33554431) rfl rfl rfl (by exact y_mv rfl) ?_
       refine b_yo (i := 25) (v := .int .i64 (((recF f.fm).1).size : Int)) 46 (ticked 39 67108863) rfl rfl rfl (by exact y_k rfl rfl (fun _ => by kernel_rfl)) ?_
       refine e_by ((i : Int) ≥ (((recF f.fm).1).size : Int)) (fun h13 => ?_) (fun h13 => ?_)
       ·
        refine b_yo (i := 26) (v := .bool true) 46 (ticked 39 134217727) rfl rfl rfl (by exact y_t (y_k (v := .bool (decide ((i : Int) ≥ (((recF f.fm).1).size : Int)))) rfl rfl (fun _ => by kernel_rfl)) h13) ?_
        refine b_yo (i := 27) (v := .bool true) 46 (ticked 39 268435455) rfl rfl rfl (by exact y_mv rfl) ?_
        refine b_f (i := 28) 51 (ticked 39 536870911) rfl rfl rfl rfl ?_
        refine b_f (i := 29) 51 (ticked 39 1073741823) rfl rfl rfl rfl ?_
        refine b_f (i := 30) 51 (ticked 39 2147483647) rfl rfl rfl rfl ?_
        refine b_f (i := 31) 51 (ticked 39 4294967295) rfl rfl rfl rfl ?_
        refine b_f (i := 32) 51 (ticked 39 8589934591) rfl rfl rfl rfl ?_
        refine b_f (i := 33) 51 (ticked 39 17179869183) rfl rfl rfl rfl ?_
        refine b_f (i := 34) 51 (ticked 39 34359738367) rfl rfl rfl rfl ?_
        refine b_f (i := 35) 51 (ticked 39 68719476735) rfl rfl rfl rfl ?_
        refine b_yo (i := 36) (v := .bool true) 46 (ticked 39 137438953471) rfl rfl rfl (by exact y_pick rfl rfl) ?_
        refine b_yo (i := 37) (v := .bool true) 42 (ticked 39 274877906943) rfl rfl rfl (by exact y_pick rfl rfl) ?_
        refine b_y (i := 38) (v := .bool true) (ticked 39 549755813887) rfl rfl (by exact y_pick rfl rfl) ?_
        refine a_done (by as_aux_lemma => kernel_rfl) ?_
        refine q_then (c_true rfl (c_seq (c_region ?_)))
        refine s_y rfl (v := .int .i64 (i : Int)) (y_mv rfl) rfl ?_
        refine s_y rfl (v := .int .i64 (i : Int)) (y_as rfl) rfl ?_
        refine s_y rfl (v := .int .i64 0) (y_as rfl) rfl ?_
        refine s_nil (q_then (c_ret (q_block_ret (q_then_ret (q_then_ret (q_block_ret (q_then_ret ?_)))))))
        have hz : firstF f s = (i : Int) := bads_no (by omega) (fun c hc q => by first | (have q1 := q.1; omega) | (obtain rfl := Option.some.inj (hx.symm.trans hc); exact absurd (q.2.1 (by assumption)) (by assumption)) | (have q1 := q.2.2 (by assumption); exact isin_no (by omega) q1) | (obtain rfl := Option.some.inj (hx.symm.trans hc); exact fit_no hx (by assumption) (q.2.2 (by assumption)))) hb
        have hp : placeF f s = ((i : Int), 0) := by rw [place_1 (by assumption) (fun q => by have q1 := q.1; omega), hz]
        refine c_fin (I' := []) [] [] rfl (.tmp rfl (.tmp rfl .nil)) rfl rfl rfl ?_
        rw [hp]
        exact ⟨rfl, rfl, rfl⟩
       ·
        refine b_yo (i := 26) (v := .bool false) 46 (ticked 39 134217727) rfl rfl rfl (by exact y_f (y_k (v := .bool (decide ((i : Int) ≥ (((recF f.fm).1).size : Int)))) rfl rfl (fun _ => by kernel_rfl)) h13) ?_
        refine b_yo (i := 27) (v := .bool false) 46 (ticked 39 268435455) rfl rfl rfl (by exact y_mv rfl) ?_
        refine b_yo (i := 28) (v := .string ((recF f.fm).1)) 51 (ticked 39 536870911) rfl rfl rfl (by exact y_mv rfl) ?_
        refine b_yo (i := 29) (v := .int .i64 (i : Int)) 51 (ticked 39 1073741823) rfl rfl rfl (by exact y_mv rfl) ?_
        obtain ⟨x3, hb3⟩ : ∃ x, ((recF f.fm).1)[i]? = some x := ⟨_, getElem?_pos ((recF f.fm).1) i (by omega)⟩
        refine b_yo (i := 30) (v := .int .u8 (x3.toNat : Int)) 51 (ticked 39 2147483647) rfl rfl rfl (by exact y_sidx i x3 rfl rfl (rfl) hb3 Tryd.underlying9) ?_
        refine b_yo (i := 31) (v := .string s) 51 (ticked 39 4294967295) rfl rfl rfl (by exact y_mv rfl) ?_
        refine b_yo (i := 32) (v := .int .i64 (i : Int)) 51 (ticked 39 8589934591) rfl rfl rfl (by exact y_mv rfl) ?_
        obtain ⟨x4, hb4⟩ : ∃ x, (s)[i]? = some x := ⟨_, getElem?_pos (s) i (by omega)⟩
        refine b_yo (i := 33) (v := .int .u8 (x4.toNat : Int)) 51 (ticked 39 17179869183) rfl rfl rfl (by exact y_sidx i x4 rfl rfl (rfl) hb4 Tryd.underlying9) ?_
        refine a_each (rs := [34]) (by as_aux_lemma => kernel_rfl) (.on 51 (ticked 39 34359738367) rfl rfl rfl rfl rfl (o_call [] [] (rfits_ x3 x4) rfl rfl rfl rfl rfl rfl (fun v L' I' hq5 => ?_)) .nil) (List.cons_ne_nil _ _)
        obtain ⟨hv4, rfl, rfl⟩ := hq5
        refine e_by (fitsC x3 x4) (fun h14 => ?_) (fun h14 => ?_)
        ·
         obtain rfl : v = .bool true := by rw [hv4, decide_eq_true h14]
         refine a_and (held_pt 0 rfl rfl (held_pt 0 rfl rfl (held_pt 0 rfl rfl held_nil))) ?_
         refine b_yo (i := 35) (v := .bool false) 51 (ticked 39 68719476735) rfl rfl rfl (by exact y_k rfl rfl (fun _ => by kernel_rfl)) ?_
         refine b_yo (i := 36) (v := .bool false) 46 (ticked 39 137438953471) rfl rfl rfl (by exact y_pick rfl rfl) ?_
         refine b_yo (i := 37) (v := .bool false) 42 (ticked 39 274877906943) rfl rfl rfl (by exact y_pick rfl rfl) ?_
         refine b_y (i := 38) (v := .bool false) (ticked 39 549755813887) rfl rfl (by exact y_pick rfl rfl) ?_
         refine a_done (by as_aux_lemma => kernel_rfl) ?_
         refine q_then (c_false rfl (c_skip (q_block (q_then (c_region ?_)))))
         refine s_y rfl (v := .int .i64 (i : Int)) (y_mv rfl) rfl ?_
         refine s_y rfl (v := .int .i64 ((i : Int) + 1)) (y_add (r := (i : Int) + 1) rfl rfl rfl (by omega)) rfl ?_
         refine s_y rfl (v := .int .i64 ((i : Int) + 1)) (y_as rfl) rfl ?_
         refine s_nil (q_then ?_)
         refine c_next [0] [] (i + 1) ?_ ?_ ?_ (by rfl) (by rfl)
         · exact (show ((i + 1) ≤ s.size) ∧ (((i + 1) : Int) ≤ f.mx) ∧ (firstF f s = badAt f ((bl s).drop (i + 1)) (i + 1)) from ⟨by first | omega | simp_all | (simp; done), by first | omega | simp_all | (simp; done), bads_ok hb4 ⟨by omega, fun e => by first | assumption | exact absurd e (by first | assumption | omega), fun e => by first | exact fit_at hb3 (by assumption) | exact absurd e (by first | assumption | omega | exact fun e => absurd (filR_ok3 (by assumption) e) (by rw [(by assumption : (recF f.fm).2 = true)]; decide))⟩ hb⟩)
         · show s.size - (i + 1) < s.size - i; omega
         · exact (.cons rfl rfl (.cons rfl rfl (.cons rfl rfl (.cons rfl (show (.int .i64 ((i : Int) + 1) : Value) = .int .i64 ((i + 1) : Int) from by first | rfl | (congr 1; omega) | (congr 1; simp; done) | (congr 1; simp; omega)) .nil))))
        ·
         obtain rfl : v = .bool false := by rw [hv4, decide_eq_false h14]
         refine a_and (held_pt 0 rfl rfl (held_pt 0 rfl rfl (held_pt 0 rfl rfl held_nil))) ?_
         refine b_yo (i := 35) (v := .bool true) 51 (ticked 39 68719476735) rfl rfl rfl (by exact y_k rfl rfl (fun _ => by kernel_rfl)) ?_
         refine b_yo (i := 36) (v := .bool true) 46 (ticked 39 137438953471) rfl rfl rfl (by exact y_pick rfl rfl) ?_
         refine b_yo (i := 37) (v := .bool true) 42 (ticked 39 274877906943) rfl rfl rfl (by exact y_pick rfl rfl) ?_
         refine b_y (i := 38) (v := .bool true) (ticked 39 549755813887) rfl rfl (by exact y_pick rfl rfl) ?_
         refine a_done (by as_aux_lemma => kernel_rfl) ?_
         refine q_then (c_true rfl (c_seq (c_region ?_)))
         refine s_y rfl (v := .int .i64 (i : Int)) (y_mv rfl) rfl ?_
         refine s_y rfl (v := .int .i64 (i : Int)) (y_as rfl) rfl ?_
         refine s_y rfl (v := .int .i64 0) (y_as rfl) rfl ?_
         refine s_nil (q_then (c_ret (q_block_ret (q_then_ret (q_then_ret (q_block_ret (q_then_ret ?_)))))))
         have hz : firstF f s = (i : Int) := bads_no (by omega) (fun c hc q => by first | (have q1 := q.1; omega) | (obtain rfl := Option.some.inj (hb4.symm.trans hc); exact absurd (q.2.1 (by assumption)) (by assumption)) | (have q1 := q.2.2 (by assumption); exact isin_no (by omega) q1) | (obtain rfl := Option.some.inj (hb4.symm.trans hc); exact fit_no hb3 (by assumption) (q.2.2 (by assumption)))) hb
         have hp : placeF f s = ((i : Int), 0) := by rw [place_1 (by assumption) (fun q => by have q1 := q.1; omega), hz]
         refine c_fin (I' := []) [] [] rfl (.tmp rfl (.tmp rfl .nil)) rfl rfl rfl ?_
         rw [hp]
         exact ⟨rfl, rfl, rfl⟩
      ·
       refine b_yo (i := 21) (v := .bool false) 42 (ticked 39 4194303) rfl rfl rfl (by exact y_f (y_k (v := .bool (decide (f.kd = 3))) rfl rfl (fun _ => by kernel_rfl)) h12) ?_
       refine b_yo (i := 22) (v := .bool false) 42 (ticked 39 8388607) rfl rfl rfl (by exact y_mv rfl) ?_
       refine b_f (i := 23) 46 (ticked 39 16777215) rfl rfl rfl rfl ?_
       refine b_f (i := 24) 46 (ticked 39 33554431) rfl rfl rfl rfl ?_
       refine b_f (i := 25) 46 (ticked 39 67108863) rfl rfl rfl rfl ?_
       refine b_f (i := 26) 46 (ticked 39 134217727) rfl rfl rfl rfl ?_
       refine b_f (i := 27) 46 (ticked 39 268435455) rfl rfl rfl rfl ?_
       refine b_u (i := 28) 51 (ticked 39 536870911) rfl rfl rfl ?_
       refine b_u (i := 29) 51 (ticked 39 1073741823) rfl rfl rfl ?_
       refine b_u (i := 30) 51 (ticked 39 2147483647) rfl rfl rfl ?_
       refine b_u (i := 31) 51 (ticked 39 4294967295) rfl rfl rfl ?_
       refine b_u (i := 32) 51 (ticked 39 8589934591) rfl rfl rfl ?_
       refine b_u (i := 33) 51 (ticked 39 17179869183) rfl rfl rfl ?_
       refine b_u (i := 34) 51 (ticked 39 34359738367) rfl rfl rfl ?_
       refine b_u (i := 35) 51 (ticked 39 68719476735) rfl rfl rfl ?_
       refine b_f (i := 36) 46 (ticked 39 137438953471) rfl rfl rfl rfl ?_
       refine b_yo (i := 37) (v := .bool false) 42 (ticked 39 274877906943) rfl rfl rfl (by exact y_pick rfl rfl) ?_
       refine b_y (i := 38) (v := .bool false) (ticked 39 549755813887) rfl rfl (by exact y_pick rfl rfl) ?_
       refine a_done (by as_aux_lemma => kernel_rfl) ?_
       refine q_then (c_false rfl (c_skip (q_block (q_then (c_region ?_)))))
       refine s_y rfl (v := .int .i64 (i : Int)) (y_mv rfl) rfl ?_
       refine s_y rfl (v := .int .i64 ((i : Int) + 1)) (y_add (r := (i : Int) + 1) rfl rfl rfl (by omega)) rfl ?_
       refine s_y rfl (v := .int .i64 ((i : Int) + 1)) (y_as rfl) rfl ?_
       refine s_nil (q_then ?_)
       refine c_next [0] [] (i + 1) ?_ ?_ ?_ (by rfl) (by rfl)
       · exact (show ((i + 1) ≤ s.size) ∧ (((i + 1) : Int) ≤ f.mx) ∧ (firstF f s = badAt f ((bl s).drop (i + 1)) (i + 1)) from ⟨by first | omega | simp_all | (simp; done), by first | omega | simp_all | (simp; done), bads_any (by omega) (fun c => ⟨by omega, fun e => absurd e (by first | assumption | omega), fun e => absurd e (by first | assumption | omega)⟩) hb⟩)
       · show s.size - (i + 1) < s.size - i; omega
       · exact (.cons rfl rfl (.cons rfl rfl (.cons rfl rfl (.cons rfl (show (.int .i64 ((i : Int) + 1) : Value) = .int .i64 ((i + 1) : Int) from by first | rfl | (congr 1; omega) | (congr 1; simp; done) | (congr 1; simp; omega)) .nil))))
   ·
    refine s_y rfl (v := .bool false) (y_f (y_k (v := .bool (decide ((i : Int) < (s.size : Int)))) rfl rfl (fun _ => by kernel_rfl)) h5) rfl ?_
    refine s_nil (q_then (c_false rfl ?_))
    refine c_exit ?_
    refine q_then_exit ?_
    refine q_then_exit ?_
    refine q_block_here ?_
    refine q_then (c_seq (c_seq (c_region ?_)))
    refine s_y rfl (v := .pointer (some ⟨b1, 0, none⟩)) (y_k rfl rfl (fun _ => by kernel_rfl)) rfl ?_
    refine st rfl (o_ld 0 rfl rfl rfl Tryd.underlying3 rfl rfl ?_)
    refine e_by (f.kd = 3) (fun h15 => ?_) (fun h15 => ?_)
    ·
     refine s_y rfl (v := .bool true) (y_t (y_k (v := .bool (decide (f.kd = 3))) rfl rfl (fun _ => by kernel_rfl)) h15) rfl ?_
     refine s_y rfl (v := .bool true) (y_mv rfl) rfl ?_
     refine st_on 67 rfl rfl rfl (o_y (v := .string s) (y_mv rfl) rfl rfl rfl ?_)
     refine st_on 67 rfl rfl rfl (o_y (v := .int .i64 (s.size : Int)) (y_k rfl rfl (fun _ => by kernel_rfl)) rfl rfl rfl ?_)
     refine st_on 67 rfl rfl rfl (o_y (v := .string ((recF f.fm).1)) (y_mv rfl) rfl rfl rfl ?_)
     refine st_on 67 rfl rfl rfl (o_y (v := .int .i64 (((recF f.fm).1).size : Int)) (y_k rfl rfl (fun _ => by kernel_rfl)) rfl rfl rfl ?_)
     refine e_by ((s.size : Int) < (((recF f.fm).1).size : Int)) (fun h16 => ?_) (fun h16 => ?_)
     ·
      refine st_on 67 rfl rfl rfl (o_y (v := .bool true) (y_t (y_k (v := .bool (decide ((s.size : Int) < (((recF f.fm).1).size : Int)))) rfl rfl (fun _ => by kernel_rfl)) h16) rfl rfl rfl ?_)
      refine s_y rfl (v := .bool true) (y_pick rfl rfl) rfl ?_
      refine s_nil (q_then (c_true rfl (c_seq (c_region ?_))))
      refine s_y rfl (v := .string s) (y_mv rfl) rfl ?_
      refine s_y rfl (v := .int .i64 (s.size : Int)) (y_k rfl rfl (fun _ => by kernel_rfl)) rfl ?_
      refine s_y rfl (v := .int .i64 (s.size : Int)) (y_as rfl) rfl ?_
      refine s_y rfl (v := .int .i64 0) (y_as rfl) rfl ?_
      refine s_nil (q_then (c_ret (q_then_ret ?_)))
      have hz := bads_end (by omega) hb
      have hp : placeF f s = ((s.size : Int), 0) := place_2 (by assumption) ⟨by omega, by assumption, by omega⟩
      refine c_fin (I' := []) [] [] rfl (.tmp rfl (.tmp rfl .nil)) rfl rfl rfl ?_
      rw [hp]
      exact ⟨rfl, rfl, rfl⟩
     ·
      refine st_on 67 rfl rfl rfl (o_y (v := .bool false) (y_f (y_k (v := .bool (decide ((s.size : Int) < (((recF f.fm).1).size : Int)))) rfl rfl (fun _ => by kernel_rfl)) h16) rfl rfl rfl ?_)
      refine s_y rfl (v := .bool false) (y_pick rfl rfl) rfl ?_
      refine s_nil (q_then (c_false rfl (c_skip (q_then (c_seq (c_region ?_))))))
      refine s_y rfl (v := .int .i64 (-1)) (y_as rfl) rfl ?_
      refine s_y rfl (v := .int .i64 0) (y_as rfl) rfl ?_
      refine s_nil (q_then (c_ret ?_))
      have hz := bads_end (by omega) hb
      have hp : placeF f s = ((-1), 0) := by rw [place_1 (by assumption) (fun q => by first | (have q2 := q.2.1; contradiction) | (have q2 := q.2.2; omega)), hz]
      refine c_fin (I' := []) [] [] rfl (.tmp rfl (.tmp rfl .nil)) rfl rfl rfl ?_
      rw [hp]
      exact ⟨rfl, rfl, rfl⟩
    ·
     refine s_y rfl (v := .bool false) (y_f (y_k (v := .bool (decide (f.kd = 3))) rfl rfl (fun _ => by kernel_rfl)) h15) rfl ?_
     refine s_y rfl (v := .bool false) (y_mv rfl) rfl ?_
     refine st_off 67 rfl rfl rfl rfl rfl rfl ?_
     refine st_off 67 rfl rfl rfl rfl rfl rfl ?_
     refine st_off 67 rfl rfl rfl rfl rfl rfl ?_
     refine st_off 67 rfl rfl rfl rfl rfl rfl ?_
     refine st_off 67 rfl rfl rfl rfl rfl rfl ?_
     refine s_y rfl (v := .bool false) (y_pick rfl rfl) rfl ?_
     refine s_nil (q_then (c_false rfl (c_skip (q_then (c_seq (c_region ?_))))))
     refine s_y rfl (v := .int .i64 (-1)) (y_as rfl) rfl ?_
     refine s_y rfl (v := .int .i64 0) (y_as rfl) rfl ?_
     refine s_nil (q_then (c_ret ?_))
     have hz := bads_end (by omega) hb
     have hp : placeF f s = ((-1), 0) := by rw [place_1 (by assumption) (fun q => by first | (have q2 := q.2.1; contradiction) | (have q2 := q.2.2; omega)), hz]
     refine c_fin (I' := []) [] [] rfl (.tmp rfl (.tmp rfl .nil)) rfl rfl rfl ?_
     rw [hp]
     exact ⟨rfl, rfl, rfl⟩
  ·
   refine s_y rfl (v := .tuple #[.string t1, .bool false]) (y_mv rfl) rfl ?_
   refine s_y rfl (v := .string t1) (y_k rfl rfl (fun _ => by kernel_rfl)) rfl ?_
   refine s_y rfl (v := .bool false) (y_k rfl rfl (fun _ => by kernel_rfl)) rfl ?_
   refine s_y rfl (v := .string t1) (y_as rfl) rfl ?_
   refine s_y rfl (v := .bool false) (y_as rfl) rfl ?_
   refine s_nil (q_then (c_seq (c_seq (c_region ?_))))
   refine s_y rfl (v := .int .i64 0) (y_as rfl) rfl ?_
   refine s_nil (q_then (c_block ?_))
   refine c_loopn (ι := Nat) (fun i => (i ≤ s.size) ∧ ((i : Int) ≤ f.mx) ∧ (firstF f s = badAt f ((bl s).drop i) i)) (fun i => [(1, .string s), (2, .pointer (some ⟨b1, 0, none⟩)), (6, .string t1), (8, .int .i64 (i : Int))]) (fun i => [pt b1 [.int .i64 f.kd, .int .i64 f.mx, .string f.fm] 39]) (fun i => []) (fun i => s.size - i) (0) [0] [] (show (0 ≤ s.size) ∧ ((0 : Int) ≤ f.mx) ∧ (firstF f s = badAt f ((bl s).drop 0) 0) from ⟨by first | omega | simp_all | (simp; done), by have := (filR_mx (by assumption)); omega, rfl⟩) ((.cons rfl rfl (.cons rfl rfl (.cons rfl rfl (.cons rfl rfl .nil))))) rfl rfl ?_
   rintro i ⟨hi, hmx, hb⟩
   show Ent 76 C [(1, .string s), (2, .pointer (some ⟨b1, 0, none⟩)), (6, .string t1), (8, .int .i64 (i : Int))] [] [pt b1 [.int .i64 f.kd, .int .i64 f.mx, .string f.fm] 39] [] _
   refine c_seq (c_seq (c_region ?_))
   refine s_y rfl (v := .int .i64 (i : Int)) (y_mv rfl) rfl ?_
   refine s_y rfl (v := .string s) (y_mv rfl) rfl ?_
   refine s_y rfl (v := .int .i64 (s.size : Int)) (y_k rfl rfl (fun _ => by kernel_rfl)) rfl ?_
   refine e_by ((i : Int) < (s.size : Int)) (fun h17 => ?_) (fun h17 => ?_)
   ·
    refine s_y rfl (v := .bool true) (y_t (y_k (v := .bool (decide ((i : Int) < (s.size : Int)))) rfl rfl (fun _ => by kernel_rfl)) h17) rfl ?_
    refine s_nil (q_then (c_true rfl (c_skip (q_then (c_seq (c_block (c_seq ?_)))))))
    refine c_draw (l := ticked 39 0) [(⟨b1, 1, none⟩, .int .i64 f.mx), (⟨b1, 0, none⟩, .int .i64 f.kd), (⟨b1, 2, none⟩, .string f.fm)] [] (by kernel_rfl) rfl rfl ?_
    refine b_y (i := 0) (v := .int .i64 (i : Int)) (ticked 39 1) rfl rfl (by exact y_mv rfl) ?_
    refine b_y (i := 1) (v := .pointer (some ⟨b1, 1, none⟩)) (ticked 39 3) rfl rfl (by exact y_k rfl rfl (fun _ => by kernel_rfl)) ?_
    refine a_held (i := 2) (ticked 39 7) rfl (by as_aux_lemma => kernel_rfl) rfl rfl rfl (held_pt 0 rfl rfl (held_pt 0 rfl rfl (held_pt 0 rfl rfl held_nil))) (h_ld 0 rfl rfl Tryd.underlying3 rfl) ?_
    refine e_by ((i : Int) = f.mx) (fun h18 => ?_) (fun h18 => ?_)
    ·
     refine b_y (i := 3) (v := .bool true) (ticked 39 15) rfl rfl (by exact y_t (y_k (v := .bool (decide ((i : Int) = f.mx))) rfl rfl (fun _ => by kernel_rfl)) h18) ?_
     refine b_y (i := 4) (v := .bool true) (ticked 39 31) rfl rfl (by exact y_mv rfl) ?_
     refine b_f (i := 5) 28 (ticked 39 63) rfl rfl rfl rfl ?_
     refine b_f (i := 6) 28 (ticked 39 127) rfl rfl rfl rfl ?_
     refine b_f (i := 7) 28 (ticked 39 255) rfl rfl rfl rfl ?_
     refine b_f (i := 8) 28 (ticked 39 511) rfl rfl rfl rfl ?_
     refine b_u (i := 9) 32 (ticked 39 1023) rfl rfl rfl ?_
     refine b_u (i := 10) 32 (ticked 39 2047) rfl rfl rfl ?_
     refine b_u (i := 11) 32 (ticked 39 4095) rfl rfl rfl ?_
     refine b_u (i := 12) 32 (ticked 39 8191) rfl rfl rfl ?_
     refine b_u (i := 13) 32 (ticked 39 16383) rfl rfl rfl ?_
     refine b_u (i := 14) 32 (ticked 39 32767) rfl rfl rfl ?_
     refine b_u (i := 15) 32 (ticked 39 65535) rfl rfl rfl ?_
     refine b_f (i := 16) 28 (ticked 39 131071) rfl rfl rfl rfl ?_
     refine b_y (i := 17) (v := .bool true) (ticked 39 262143) rfl rfl (by exact y_pick rfl rfl) ?_
     refine b_y (i := 18) (v := .bool true) (ticked 39 524287) rfl rfl (by exact y_mv rfl) ?_
     refine b_f (i := 19) 42 (ticked 39 1048575) rfl rfl rfl rfl ?_
     refine b_f (i := 20) 42 (ticked 39 2097151) rfl rfl rfl rfl ?_
     refine b_f (i := 21) 42 (ticked 39 4194303) rfl rfl rfl rfl ?_
     refine b_f (i := 22) 42 (ticked 39 8388607) rfl rfl rfl rfl ?_
     refine b_u (i := 23) 46 (ticked 39 16777215) rfl rfl rfl ?_
     refine b_u (i := 24) 46 (ticked 39 33554431) rfl rfl rfl ?_
     refine b_u (i := 25) 46 (ticked 39 67108863) rfl rfl rfl ?_
     refine b_u (i := 26) 46 (ticked 39 134217727) rfl rfl rfl ?_
     refine b_u (i := 27) 46 (ticked 39 268435455) rfl rfl rfl ?_
     refine b_u (i := 28) 51 (ticked 39 536870911) rfl rfl rfl ?_
     refine b_u (i := 29) 51 (ticked 39 1073741823) rfl rfl rfl ?_
     refine b_u (i := 30) 51 (ticked 39 2147483647) rfl rfl rfl ?_
     refine b_u (i := 31) 51 (ticked 39 4294967295) rfl rfl rfl ?_
     refine b_u (i := 32) 51 (ticked 39 8589934591) rfl rfl rfl ?_
     refine b_u (i := 33) 51 (ticked 39 17179869183) rfl rfl rfl ?_
     refine b_u (i := 34) 51 (ticked 39 34359738367) rfl rfl rfl ?_
     refine b_u (i := 35) 51 (ticked 39 68719476735) rfl rfl rfl ?_
     refine b_u (i := 36) 46 (ticked 39 137438953471) rfl rfl rfl ?_
     refine b_f (i := 37) 42 (ticked 39 274877906943) rfl rfl rfl rfl ?_
     refine b_y (i := 38) (v := .bool true) (ticked 39 549755813887) rfl rfl (by exact y_pick rfl rfl) ?_
     refine a_done (by as_aux_lemma => kernel_rfl) ?_
     refine q_then (c_true rfl (c_seq (c_region ?_)))
     refine s_y rfl (v := .int .i64 (i : Int)) (y_mv rfl) rfl ?_
     refine s_y rfl (v := .int .i64 (i : Int)) (y_as rfl) rfl ?_
     refine s_y rfl (v := .int .i64 0) (y_as rfl) rfl ?_
     refine s_nil (q_then (c_ret (q_block_ret (q_then_ret (q_then_ret (q_block_ret (q_then_ret ?_)))))))
     have hz : firstF f s = (i : Int) := bads_no (by omega) (fun c hc q => by first | (have q1 := q.1; omega) | (obtain rfl := Option.some.inj (hx.symm.trans hc); exact absurd (q.2.1 (by assumption)) (by assumption)) | (have q1 := q.2.2 (by assumption); exact isin_no (by omega) q1) | (obtain rfl := Option.some.inj (hx.symm.trans hc); exact fit_no hx (by assumption) (q.2.2 (by assumption)))) hb
     have hp : placeF f s = ((i : Int), 0) := by rw [place_1 (by assumption) (fun q => by have q1 := q.1; omega), hz]
     refine c_fin (I' := []) [] [] rfl (.tmp rfl (.tmp rfl .nil)) rfl rfl rfl ?_
     rw [hp]
     exact ⟨rfl, rfl, rfl⟩
    ·
     refine b_y (i := 3) (v := .bool false) (ticked 39 15) rfl rfl (by exact y_f (y_k (v := .bool (decide ((i : Int) = f.mx))) rfl rfl (fun _ => by kernel_rfl)) h18) ?_
     refine b_y (i := 4) (v := .bool false) (ticked 39 31) rfl rfl (by exact y_mv rfl) ?_
     refine b_yo (i := 5) (v := .pointer (some ⟨b1, 0, none⟩)) 28 (ticked 39 63) rfl rfl rfl (by exact y_k rfl rfl (fun _ => by kernel_rfl)) ?_
     refine a_held_on (i := 6) 28 (ticked 39 127) rfl (by as_aux_lemma => kernel_rfl) rfl rfl rfl rfl rfl (held_pt 0 rfl rfl (held_pt 0 rfl rfl (held_pt 0 rfl rfl held_nil))) (h_ld 1 rfl rfl Tryd.underlying3 rfl) ?_
     refine e_by (f.kd = 2) (fun h19 => ?_) (fun h19 => ?_)
     ·
      refine b_yo (i := 7) (v := .bool true) 28 (ticked 39 255) rfl rfl rfl (by exact y_t (y_k (v := .bool (decide (f.kd = 2))) rfl rfl (fun _ => by kernel_rfl)) h19) ?_
      refine b_yo (i := 8) (v := .bool true) 28 (ticked 39 511) rfl rfl rfl (by exact y_mv rfl) ?_
      refine b_yo (i := 9) (v := .pointer (some ⟨b1, 2, none⟩)) 32 (ticked 39 1023) rfl rfl rfl (by exact y_k rfl rfl (fun _ => by kernel_rfl)) ?_
      refine b_yo (i := 11) (v := .string s) 32 (ticked 39 3071) rfl rfl rfl (by exact y_mv rfl) ?_
      refine b_yo (i := 12) (v := .int .i64 (i : Int)) 32 (ticked 39 7167) rfl rfl rfl (by exact y_mv rfl) ?_
      obtain ⟨x5, hb5⟩ : ∃ x, (s)[i]? = some x := ⟨_, getElem?_pos (s) i (by omega)⟩
      refine b_yo (i := 13) (v := .int .u8 (x5.toNat : Int)) 32 (ticked 39 15359) rfl rfl rfl (by exact y_sidx i x5 rfl rfl (rfl) hb5 Tryd.underlying9) ?_
      refine a_held_on (i := 10) 32 (ticked 39 16383) rfl (by as_aux_lemma => kernel_rfl) rfl rfl rfl rfl rfl (held_pt 0 rfl rfl (held_pt 0 rfl rfl (held_pt 0 rfl rfl held_nil))) (h_ld 2 rfl rfl Tryd.underlying9 rfl) ?_
      refine a_each (rs := [14]) (by as_aux_lemma => kernel_rfl) (.on 32 (ticked 39 32767) rfl rfl rfl rfl rfl (o_call [] [] (rof_ f.fm x5 (by first | omega | assumption)) rfl rfl rfl rfl rfl rfl (fun v L' I' hq6 => ?_)) .nil) (List.cons_ne_nil _ _)
      obtain ⟨hv5, rfl, rfl⟩ := hq6
      refine e_by (inCl (bl f.fm) x5) (fun h20 => ?_) (fun h20 => ?_)
      ·
       obtain rfl : v = .bool true := by rw [hv5, decide_eq_true h20]
       refine a_and (held_pt 0 rfl rfl (held_pt 0 rfl rfl (held_pt 0 rfl rfl held_nil))) ?_
       refine b_yo (i := 15) (v := .bool false) 32 (ticked 39 65535) rfl rfl rfl (by exact y_k rfl rfl (fun _ => by kernel_rfl)) ?_
       refine b_yo (i := 16) (v := .bool false) 28 (ticked 39 131071) rfl rfl rfl (by exact y_pick rfl rfl) ?_
       refine b_y (i := 17) (v := .bool false) (ticked 39 262143) rfl rfl (by exact y_pick rfl rfl) ?_
       refine b_y (i := 18) (v := .bool false) (ticked 39 524287) rfl rfl (by exact y_mv rfl) ?_
       refine b_yo (i := 19) (v := .pointer (some ⟨b1, 0, none⟩)) 42 (ticked 39 1048575) rfl rfl rfl (by exact y_k rfl rfl (fun _ => by kernel_rfl)) ?_
       refine a_held_on (i := 20) 42 (ticked 39 2097151) rfl (by as_aux_lemma => kernel_rfl) rfl rfl rfl rfl rfl (held_pt 0 rfl rfl (held_pt 0 rfl rfl (held_pt 0 rfl rfl held_nil))) (h_ld 1 rfl rfl Tryd.underlying3 rfl) ?_
       have h21 : ¬ (f.kd = 3) := fun e => absurd (filR_ok3 (by assumption) e) (by rw [(by assumption : (recF f.fm).2 = true)]; decide)
       refine b_yo (i := 21) (v := .bool false) 42 (ticked 39 4194303) rfl rfl rfl (by exact y_f (y_k (v := .bool (decide (f.kd = 3))) rfl rfl (fun _ => by kernel_rfl)) h21) ?_
       refine b_yo (i := 22) (v := .bool false) 42 (ticked 39 8388607) rfl rfl rfl (by exact y_mv rfl) ?_
       refine b_f (i := 23) 46 (ticked 39 16777215) rfl rfl rfl rfl ?_
       refine b_f (i := 24) 46 (ticked 39 33554431) rfl rfl rfl rfl ?_
       refine b_f (i := 25) 46 (ticked 39 67108863) rfl rfl rfl rfl ?_
       refine b_f (i := 26) 46 (ticked 39 134217727) rfl rfl rfl rfl ?_
       refine b_f (i := 27) 46 (ticked 39 268435455) rfl rfl rfl rfl ?_
       refine b_u (i := 28) 51 (ticked 39 536870911) rfl rfl rfl ?_
       refine b_u (i := 29) 51 (ticked 39 1073741823) rfl rfl rfl ?_
       refine b_u (i := 30) 51 (ticked 39 2147483647) rfl rfl rfl ?_
       refine b_u (i := 31) 51 (ticked 39 4294967295) rfl rfl rfl ?_
       refine b_u (i := 32) 51 (ticked 39 8589934591) rfl rfl rfl ?_
       refine b_u (i := 33) 51 (ticked 39 17179869183) rfl rfl rfl ?_
       refine b_u (i := 34) 51 (ticked 39 34359738367) rfl rfl rfl ?_
       refine b_u (i := 35) 51 (ticked 39 68719476735) rfl rfl rfl ?_
       refine b_f (i := 36) 46 (ticked 39 137438953471) rfl rfl rfl rfl ?_
       refine b_yo (i := 37) (v := .bool false) 42 (ticked 39 274877906943) rfl rfl rfl (by exact y_pick rfl rfl) ?_
       refine b_y (i := 38) (v := .bool false) (ticked 39 549755813887) rfl rfl (by exact y_pick rfl rfl) ?_
       refine a_done (by as_aux_lemma => kernel_rfl) ?_
       refine q_then (c_false rfl (c_skip (q_block (q_then (c_region ?_)))))
       refine s_y rfl (v := .int .i64 (i : Int)) (y_mv rfl) rfl ?_
       refine s_y rfl (v := .int .i64 ((i : Int) + 1)) (y_add (r := (i : Int) + 1) rfl rfl rfl (by omega)) rfl ?_
       refine s_y rfl (v := .int .i64 ((i : Int) + 1)) (y_as rfl) rfl ?_
       refine s_nil (q_then ?_)
       refine c_next [0] [] (i + 1) ?_ ?_ ?_ (by rfl) (by rfl)
       · exact (show ((i + 1) ≤ s.size) ∧ (((i + 1) : Int) ≤ f.mx) ∧ (firstF f s = badAt f ((bl s).drop (i + 1)) (i + 1)) from ⟨by first | omega | simp_all | (simp; done), by first | omega | simp_all | (simp; done), bads_ok hb5 ⟨by omega, fun e => by first | assumption | exact absurd e (by first | assumption | omega), fun e => by first | exact fit_at hx (by assumption) | exact absurd e (by first | assumption | omega | exact fun e => absurd (filR_ok3 (by assumption) e) (by rw [(by assumption : (recF f.fm).2 = true)]; decide))⟩ hb⟩)
       · show s.size - (i + 1) < s.size - i; omega
       · exact (.cons rfl rfl (.cons rfl rfl (.cons rfl rfl (.cons rfl (show (.int .i64 ((i : Int) + 1) : Value) = .int .i64 ((i + 1) : Int) from by first | rfl | (congr 1; omega) | (congr 1; simp; done) | (congr 1; simp; omega)) .nil))))
      ·
       obtain rfl : v = .bool false := by rw [hv5, decide_eq_false h20]
       refine a_and (held_pt 0 rfl rfl (held_pt 0 rfl rfl (held_pt 0 rfl rfl held_nil))) ?_
       refine b_yo (i := 15) (v := .bool true) 32 (ticked 39 65535) rfl rfl rfl (by exact y_k rfl rfl (fun _ => by kernel_rfl)) ?_
       refine b_yo (i := 16) (v := .bool true) 28 (ticked 39 131071) rfl rfl rfl (by exact y_pick rfl rfl) ?_
       refine b_y (i := 17) (v := .bool true) (ticked 39 262143) rfl rfl (by exact y_pick rfl rfl) ?_
       refine b_y (i := 18) (v := .bool true) (ticked 39 524287) rfl rfl (by exact y_mv rfl) ?_
       refine b_f (i := 19) 42 (ticked 39 1048575) rfl rfl rfl rfl ?_
       refine b_f (i := 20) 42 (ticked 39 2097151) rfl rfl rfl rfl ?_
       refine b_f (i := 21) 42 (ticked 39 4194303) rfl rfl rfl rfl ?_
       refine b_f (i := 22) 42 (ticked 39 8388607) rfl rfl rfl rfl ?_
       refine b_u (i := 23) 46 (ticked 39 16777215) rfl rfl rfl ?_
       refine b_u (i := 24) 46 (ticked 39 33554431) rfl rfl rfl ?_
       refine b_u (i := 25) 46 (ticked 39 67108863) rfl rfl rfl ?_
       refine b_u (i := 26) 46 (ticked 39 134217727) rfl rfl rfl ?_
       refine b_u (i := 27) 46 (ticked 39 268435455) rfl rfl rfl ?_
       refine b_u (i := 28) 51 (ticked 39 536870911) rfl rfl rfl ?_
       refine b_u (i := 29) 51 (ticked 39 1073741823) rfl rfl rfl ?_
       refine b_u (i := 30) 51 (ticked 39 2147483647) rfl rfl rfl ?_
       refine b_u (i := 31) 51 (ticked 39 4294967295) rfl rfl rfl ?_
       refine b_u (i := 32) 51 (ticked 39 8589934591) rfl rfl rfl ?_
       refine b_u (i := 33) 51 (ticked 39 17179869183) rfl rfl rfl ?_
       refine b_u (i := 34) 51 (ticked 39 34359738367) rfl rfl rfl ?_
       refine b_u (i := 35) 51 (ticked 39 68719476735) rfl rfl rfl ?_
       refine b_u (i := 36) 46 (ticked 39 137438953471) rfl rfl rfl ?_
       refine b_f (i := 37) 42 (ticked 39 274877906943) rfl rfl rfl rfl ?_
       refine b_y (i := 38) (v := .bool true) (ticked 39 549755813887) rfl rfl (by exact y_pick rfl rfl) ?_
       refine a_done (by as_aux_lemma => kernel_rfl) ?_
       refine q_then (c_true rfl (c_seq (c_region ?_)))
       refine s_y rfl (v := .int .i64 (i : Int)) (y_mv rfl) rfl ?_
       refine s_y rfl (v := .int .i64 (i : Int)) (y_as rfl) rfl ?_
       refine s_y rfl (v := .int .i64 0) (y_as rfl) rfl ?_
       refine s_nil (q_then (c_ret (q_block_ret (q_then_ret (q_then_ret (q_block_ret (q_then_ret ?_)))))))
       have hz : firstF f s = (i : Int) := bads_no (by omega) (fun c hc q => by first | (have q1 := q.1; omega) | (obtain rfl := Option.some.inj (hb5.symm.trans hc); exact absurd (q.2.1 (by assumption)) (by assumption)) | (have q1 := q.2.2 (by assumption); exact isin_no (by omega) q1) | (obtain rfl := Option.some.inj (hb5.symm.trans hc); exact fit_no hx (by assumption) (q.2.2 (by assumption)))) hb
       have hp : placeF f s = ((i : Int), 0) := by rw [place_1 (by assumption) (fun q => by have q1 := q.1; omega), hz]
       refine c_fin (I' := []) [] [] rfl (.tmp rfl (.tmp rfl .nil)) rfl rfl rfl ?_
       rw [hp]
       exact ⟨rfl, rfl, rfl⟩
     ·
      refine b_yo (i := 7) (v := .bool false) 28 (ticked 39 255) rfl rfl rfl (by exact y_f (y_k (v := .bool (decide (f.kd = 2))) rfl rfl (fun _ => by kernel_rfl)) h19) ?_
      refine b_yo (i := 8) (v := .bool false) 28 (ticked 39 511) rfl rfl rfl (by exact y_mv rfl) ?_
      refine b_f (i := 9) 32 (ticked 39 1023) rfl rfl rfl rfl ?_
      refine b_f (i := 10) 32 (ticked 39 2047) rfl rfl rfl rfl ?_
      refine b_f (i := 11) 32 (ticked 39 4095) rfl rfl rfl rfl ?_
      refine b_f (i := 12) 32 (ticked 39 8191) rfl rfl rfl rfl ?_
      refine b_f (i := 13) 32 (ticked 39 16383) rfl rfl rfl rfl ?_
      refine b_f (i := 14) 32 (ticked 39 32767) rfl rfl rfl rfl ?_
      refine b_f (i := 15) 32 (ticked 39 65535) rfl rfl rfl rfl ?_
      refine b_yo (i := 16) (v := .bool false) 28 (ticked 39 131071) rfl rfl rfl (by exact y_pick rfl rfl) ?_
      refine b_y (i := 17) (v := .bool false) (ticked 39 262143) rfl rfl (by exact y_pick rfl rfl) ?_
      refine b_y (i := 18) (v := .bool false) (ticked 39 524287) rfl rfl (by exact y_mv rfl) ?_
      refine b_yo (i := 19) (v := .pointer (some ⟨b1, 0, none⟩)) 42 (ticked 39 1048575) rfl rfl rfl (by exact y_k rfl rfl (fun _ => by kernel_rfl)) ?_
      refine a_held_on (i := 20) 42 (ticked 39 2097151) rfl (by as_aux_lemma => kernel_rfl) rfl rfl rfl rfl rfl (held_pt 0 rfl rfl (held_pt 0 rfl rfl (held_pt 0 rfl rfl held_nil))) (h_ld 1 rfl rfl Tryd.underlying3 rfl) ?_
      have h22 : ¬ (f.kd = 3) := fun e => absurd (filR_ok3 (by assumption) e) (by rw [(by assumption : (recF f.fm).2 = true)]; decide)
      refine b_yo (i := 21) (v := .bool false) 42 (ticked 39 4194303) rfl rfl rfl (by exact y_f (y_k (v := .bool (decide (f.kd = 3))) rfl rfl (fun _ => by kernel_rfl)) h22) ?_
      refine b_yo (i := 22) (v := .bool false) 42 (ticked 39 8388607) rfl rfl rfl (by exact y_mv rfl) ?_
      refine b_f (i := 23) 46 (ticked 39 16777215) rfl rfl rfl rfl ?_
      refine b_f (i := 24) 46 (ticked 39 33554431) rfl rfl rfl rfl ?_
      refine b_f (i := 25) 46 (ticked 39 67108863) rfl rfl rfl rfl ?_
      refine b_f (i := 26) 46 (ticked 39 134217727) rfl rfl rfl rfl ?_
      refine b_f (i := 27) 46 (ticked 39 268435455) rfl rfl rfl rfl ?_
      refine b_u (i := 28) 51 (ticked 39 536870911) rfl rfl rfl ?_
      refine b_u (i := 29) 51 (ticked 39 1073741823) rfl rfl rfl ?_
      refine b_u (i := 30) 51 (ticked 39 2147483647) rfl rfl rfl ?_
      refine b_u (i := 31) 51 (ticked 39 4294967295) rfl rfl rfl ?_
      refine b_u (i := 32) 51 (ticked 39 8589934591) rfl rfl rfl ?_
      refine b_u (i := 33) 51 (ticked 39 17179869183) rfl rfl rfl ?_
      refine b_u (i := 34) 51 (ticked 39 34359738367) rfl rfl rfl ?_
      refine b_u (i := 35) 51 (ticked 39 68719476735) rfl rfl rfl ?_
      refine b_f (i := 36) 46 (ticked 39 137438953471) rfl rfl rfl rfl ?_
      refine b_yo (i := 37) (v := .bool false) 42 (ticked 39 274877906943) rfl rfl rfl (by exact y_pick rfl rfl) ?_
      refine b_y (i := 38) (v := .bool false) (ticked 39 549755813887) rfl rfl (by exact y_pick rfl rfl) ?_
      refine a_done (by as_aux_lemma => kernel_rfl) ?_
      refine q_then (c_false rfl (c_skip (q_block (q_then (c_region ?_)))))
      refine s_y rfl (v := .int .i64 (i : Int)) (y_mv rfl) rfl ?_
      refine s_y rfl (v := .int .i64 ((i : Int) + 1)) (y_add (r := (i : Int) + 1) rfl rfl rfl (by omega)) rfl ?_
      refine s_y rfl (v := .int .i64 ((i : Int) + 1)) (y_as rfl) rfl ?_
      refine s_nil (q_then ?_)
      refine c_next [0] [] (i + 1) ?_ ?_ ?_ (by rfl) (by rfl)
      · exact (show ((i + 1) ≤ s.size) ∧ (((i + 1) : Int) ≤ f.mx) ∧ (firstF f s = badAt f ((bl s).drop (i + 1)) (i + 1)) from ⟨by first | omega | simp_all | (simp; done), by first | omega | simp_all | (simp; done), bads_any (by omega) (fun c => ⟨by omega, fun e => absurd e (by first | assumption | omega), fun e => absurd e (by first | assumption | omega)⟩) hb⟩)
      · show s.size - (i + 1) < s.size - i; omega
      · exact (.cons rfl rfl (.cons rfl rfl (.cons rfl rfl (.cons rfl (show (.int .i64 ((i : Int) + 1) : Value) = .int .i64 ((i + 1) : Int) from by first | rfl | (congr 1; omega) | (congr 1; simp; done) | (congr 1; simp; omega)) .nil))))
   ·
    refine s_y rfl (v := .bool false) (y_f (y_k (v := .bool (decide ((i : Int) < (s.size : Int)))) rfl rfl (fun _ => by kernel_rfl)) h17) rfl ?_
    refine s_nil (q_then (c_false rfl ?_))
    refine c_exit ?_
    refine q_then_exit ?_
    refine q_then_exit ?_
    refine q_block_here ?_
    refine q_then (c_seq (c_seq (c_region ?_)))
    refine s_y rfl (v := .pointer (some ⟨b1, 0, none⟩)) (y_k rfl rfl (fun _ => by kernel_rfl)) rfl ?_
    refine st rfl (o_ld 0 rfl rfl rfl Tryd.underlying3 rfl rfl ?_)
    have h23 : ¬ (f.kd = 3) := fun e => absurd (filR_ok3 (by assumption) e) (by rw [(by assumption : (recF f.fm).2 = true)]; decide)
    refine s_y rfl (v := .bool false) (y_f (y_k (v := .bool (decide (f.kd = 3))) rfl rfl (fun _ => by kernel_rfl)) h23) rfl ?_
    refine s_y rfl (v := .bool false) (y_mv rfl) rfl ?_
    refine st_off 67 rfl rfl rfl rfl rfl rfl ?_
    refine st_off 67 rfl rfl rfl rfl rfl rfl ?_
    refine st_off 67 rfl rfl rfl rfl rfl rfl ?_
    refine st_off 67 rfl rfl rfl rfl rfl rfl ?_
    refine st_off 67 rfl rfl rfl rfl rfl rfl ?_
    refine s_y rfl (v := .bool false) (y_pick rfl rfl) rfl ?_
    refine s_nil (q_then (c_false rfl (c_skip (q_then (c_seq (c_region ?_))))))
    refine s_y rfl (v := .int .i64 (-1)) (y_as rfl) rfl ?_
    refine s_y rfl (v := .int .i64 0) (y_as rfl) rfl ?_
    refine s_nil (q_then (c_ret ?_))
    have hz := bads_end (by omega) hb
    have hp : placeF f s = ((-1), 0) := by rw [place_1 (by assumption) (fun q => by first | (have q2 := q.2.1; contradiction) | (have q2 := q.2.2; omega)), hz]
    refine c_fin (I' := []) [] [] rfl (.tmp rfl (.tmp rfl .nil)) rfl rfl rfl ?_
    rw [hp]
    exact ⟨rfl, rfl, rfl⟩
 ·
  obtain rfl : v = .bool false := by rw [hv1, decide_eq_false h1]
  refine s_y rfl (v := .bool true) (y_k rfl rfl (fun _ => by kernel_rfl)) rfl ?_
  refine s_nil (q_then (c_true rfl (c_seq (c_region ?_))))
  refine s_y rfl (v := .int .i64 0) (y_as rfl) rfl ?_
  refine s_y rfl (v := .int .i64 130) (y_as rfl) rfl ?_
  refine s_nil (q_then (c_ret (q_then_ret ?_)))
  have hp : placeF f s = (0, 130) := place_no (by assumption)
  refine c_fin (I' := []) [] [] rfl (.tmp rfl (.tmp rfl .nil)) rfl rfl rfl ?_
  rw [hp]
  exact ⟨rfl, rfl, rfl⟩
theorem rPass_ (f : Fil) (s : ByteArray) (hs : s.size ≤ 100000) (hsz : f.fm.size ≤ 1000) : Con Tryd.prog 38 [.agg #[.int .i64 f.kd, .int .i64 f.mx, .string f.fm], .string s] [] [] (fun v L' I' => (∃ e : Int, (passP f s) ∧ (e = 0) ∧ v = .tuple #[.bool true, .int .i64 e] ∧ L' = [] ∧ I' = []) ∨ (∃ e : Int, (¬ (passP f s)) ∧ v = .tuple #[.bool false, .int .i64 e] ∧ L' = [] ∧ I' = [])) := by
 refine fn_of Tryd.func38 rfl Tryd.ntmps38 (by kernel_rfl) rfl (fun C => ?_)
 refine c_seq (c_region ?_)
 refine st rfl (o_box (cs := [.int .i64 f.kd, .int .i64 f.mx, .string f.fm]) (T := 39) rfl rfl rfl rfl (fun _ => by kernel_rfl) (fun b1 => ?_))
 refine s_y rfl (v := .bool false) (y_as rfl) rfl ?_
 refine s_y rfl (v := .int .i64 0) (y_as rfl) rfl ?_
 refine s_nil (q_then (c_seq (c_region ?_)))
 refine st rfl (o_ldn 0 3 rfl rfl rfl rfl Tryd.underlying39 rfl (by kernel_rfl) (by kernel_rfl) rfl ?_)
 refine s_y rfl (v := .string s) (y_mv rfl) rfl ?_
 refine st rfl (o_call [] [] (rPlace_ f s (by first | omega | assumption) (by first | omega | assumption)) rfl rfl rfl rfl rfl rfl (fun v L' I' hq1 => ?_))
 obtain ⟨rfl, rfl, rfl⟩ := hq1
 refine s_y rfl (v := .tuple #[.int .i64 ((placeF f s).1), .int .i64 ((placeF f s).2)]) (y_mv rfl) rfl ?_
 refine s_y rfl (v := .int .i64 ((placeF f s).1)) (y_k rfl rfl (fun _ => by kernel_rfl)) rfl ?_
 refine s_y rfl (v := .int .i64 ((placeF f s).2)) (y_k rfl rfl (fun _ => by kernel_rfl)) rfl ?_
 refine s_y rfl (v := .int .i64 ((placeF f s).1)) (y_as rfl) rfl ?_
 refine s_y rfl (v := .int .i64 ((placeF f s).2)) (y_as rfl) rfl ?_
 refine s_nil (q_then (c_seq (c_region ?_)))
 refine s_y rfl (v := .int .i64 ((placeF f s).2)) (y_mv rfl) rfl ?_
 refine e_by ((placeF f s).2 = 0) (fun h1 => ?_) (fun h1 => ?_)
 ·
  refine s_y rfl (v := .bool true) (y_t (y_k (v := .bool (decide ((placeF f s).2 = 0))) rfl rfl (fun _ => by kernel_rfl)) h1) rfl ?_
  refine s_y rfl (v := .bool true) (y_mv rfl) rfl ?_
  refine st_on 16 rfl rfl rfl (o_y (v := .int .i64 ((placeF f s).1)) (y_mv rfl) rfl rfl rfl ?_)
  refine e_by ((placeF f s).1 < 0) (fun h2 => ?_) (fun h2 => ?_)
  ·
   refine st_on 16 rfl rfl rfl (o_y (v := .bool true) (y_t (y_k (v := .bool (decide ((placeF f s).1 < 0))) rfl rfl (fun _ => by kernel_rfl)) h2) rfl rfl rfl ?_)
   refine s_y rfl (v := .bool true) (y_pick rfl rfl) rfl ?_
   refine s_y rfl (v := .int .i64 ((placeF f s).2)) (y_mv rfl) rfl ?_
   refine s_y rfl (v := .bool true) (y_as rfl) rfl ?_
   refine s_y rfl (v := .int .i64 ((placeF f s).2)) (y_as rfl) rfl ?_
   refine s_nil (q_then (c_ret ?_))
   refine c_fin (I' := []) [] [] rfl (.tmp rfl (.tmp rfl .nil)) rfl rfl rfl ?_
   exact .inl ⟨((placeF f s).2), by first | exact ⟨by assumption, by assumption⟩ | exact fun q => absurd q.1 (by assumption) | exact fun q => absurd q.2 (by assumption), by assumption, rfl, rfl, rfl⟩
  ·
   refine st_on 16 rfl rfl rfl (o_y (v := .bool false) (y_f (y_k (v := .bool (decide ((placeF f s).1 < 0))) rfl rfl (fun _ => by kernel_rfl)) h2) rfl rfl rfl ?_)
   refine s_y rfl (v := .bool false) (y_pick rfl rfl) rfl ?_
   refine s_y rfl (v := .int .i64 ((placeF f s).2)) (y_mv rfl) rfl ?_
   refine s_y rfl (v := .bool false) (y_as rfl) rfl ?_
   refine s_y rfl (v := .int .i64 ((placeF f s).2)) (y_as rfl) rfl ?_
   refine s_nil (q_then (c_ret ?_))
   refine c_fin (I' := []) [] [] rfl (.tmp rfl (.tmp rfl .nil)) rfl rfl rfl ?_
   exact .inr ⟨((placeF f s).2), by first | exact ⟨by assumption, by assumption⟩ | exact fun q => absurd q.1 (by assumption) | exact fun q => absurd q.2 (by assumption), rfl, rfl, rfl⟩
 ·
  refine s_y rfl (v := .bool false) (y_f (y_k (v := .bool (decide ((placeF f s).2 = 0))) rfl rfl (fun _ => by kernel_rfl)) h1) rfl ?_
  refine s_y rfl (v := .bool false) (y_mv rfl) rfl ?_
  refine st_off 16 rfl rfl rfl rfl rfl rfl ?_
  refine st_off 16 rfl rfl rfl rfl rfl rfl ?_
  refine s_y rfl (v := .bool false) (y_pick rfl rfl) rfl ?_
  refine s_y rfl (v := .int .i64 ((placeF f s).2)) (y_mv rfl) rfl ?_
  refine s_y rfl (v := .bool false) (y_as rfl) rfl ?_
  refine s_y rfl (v := .int .i64 ((placeF f s).2)) (y_as rfl) rfl ?_
  refine s_nil (q_then (c_ret ?_))
  refine c_fin (I' := []) [] [] rfl (.tmp rfl (.tmp rfl .nil)) rfl rfl rfl ?_
  exact .inr ⟨((placeF f s).2), by first | exact ⟨by assumption, by assumption⟩ | exact fun q => absurd q.1 (by assumption) | exact fun q => absurd q.2 (by assumption), rfl, rfl, rfl⟩
end Go.Proofs.YthehnjbdkjnlpaaDoor
