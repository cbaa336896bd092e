/- The laws of chapter 15 (journal), walked over the given program; no condition but what stands in each theorem: part FJ. -/
import Derived.Test.YthehnjbdkjnlpaaGreatDoorRFI
set_option linter.unusedVariables false
set_option linter.unusedSimpArgs false
set_option maxRecDepth 100000
set_option maxHeartbeats 8000000
namespace Go.Proofs.YthehnjbdkjnlpaaGreatDoor
open Go Go.Sl Go.RowKit Go.Extern.Stop Go.Stop Go.Extern
theorem rfits_ (g : UInt8) (c : UInt8) : Con Tryz.prog 62 [.int .u8 (g.toNat : Int), .int .u8 (c.toNat : Int)] [] [] (fun v L' I' => v = .bool (decide (fitsC g c)) ∧ L' = [] ∧ I' = []) := by
 refine fn_of Tryz.func62 rfl Tryz.ntmps62 (by kernel_rfl) rfl (fun C => ?_)
 refine c_seq (c_region ?_)
 refine s_y rfl (v := .bool false) (y_as rfl) rfl ?_
 refine s_nil (q_then (c_seq (c_seq (c_region ?_))))
 refine s_y rfl (v := .int .u8 (g.toNat : Int)) (y_mv rfl) rfl ?_
 refine s_nil (q_then (c_block (c_seq (c_region ?_))))
 refine e_by ((g.toNat : Int) = 100) (fun h1 => ?_) (fun h1 => ?_)
 ·
  refine s_y rfl (v := .bool true) (y_t (y_k (v := .bool (decide ((g.toNat : Int) = 100))) rfl rfl (fun _ => by kernel_rfl)) h1) rfl ?_
  refine s_y rfl (v := .bool true) (y_as rfl) rfl ?_
  refine s_nil (q_then (c_true rfl (c_seq (c_region ?_))))
  refine s_y rfl (v := .int .u8 (c.toNat : Int)) (y_mv rfl) rfl ?_
  refine e_by ((c.toNat : Int) ≥ 48) (fun h2 => ?_) (fun h2 => ?_)
  ·
   refine s_y rfl (v := .bool true) (y_t (y_k (v := .bool (decide ((c.toNat : Int) ≥ 48))) rfl rfl (fun _ => by kernel_rfl)) h2) rfl ?_
   refine s_y rfl (v := .bool true) (y_mv rfl) rfl ?_
   refine st_on 10 rfl rfl rfl (o_y (v := .int .u8 (c.toNat : Int)) (y_mv rfl) rfl rfl rfl ?_)
   refine e_by ((c.toNat : Int) ≤ 57) (fun h3 => ?_) (fun h3 => ?_)
   ·
    refine st_on 10 rfl rfl rfl (o_y (v := .bool true) (y_t (y_k (v := .bool (decide ((c.toNat : Int) ≤ 57))) rfl rfl (fun _ => by kernel_rfl)) h3) rfl rfl rfl ?_)
    refine s_y rfl (v := .bool true) (y_pick rfl rfl) rfl ?_
    refine s_y rfl (v := .bool true) (y_as rfl) rfl ?_
    refine s_nil (q_then (c_ret (q_block_ret (q_then_ret ?_))))
    refine c_fin (I' := []) [] [] rfl (.tmp rfl .nil) rfl rfl rfl ?_
    exact ⟨dec_t (by first | exact (fits_d (by assumption)).2 ⟨by omega, by omega⟩ | exact (fits_a (by assumption) (by assumption)).2 ⟨by omega, by omega⟩ | exact (fits_o (by assumption) (by assumption)).2 (by assumption) | exact fun q => absurd ((fits_d (by assumption)).1 q) (by omega) | exact fun q => absurd ((fits_a (by assumption) (by assumption)).1 q) (by omega) | exact fun q => absurd ((fits_o (by assumption) (by assumption)).1 q) (by assumption)), rfl, rfl⟩
   ·
    refine st_on 10 rfl rfl rfl (o_y (v := .bool false) (y_f (y_k (v := .bool (decide ((c.toNat : Int) ≤ 57))) rfl rfl (fun _ => by kernel_rfl)) h3) rfl rfl rfl ?_)
    refine s_y rfl (v := .bool false) (y_pick rfl rfl) rfl ?_
    refine s_y rfl (v := .bool false) (y_as rfl) rfl ?_
    refine s_nil (q_then (c_ret (q_block_ret (q_then_ret ?_))))
    refine c_fin (I' := []) [] [] rfl (.tmp rfl .nil) rfl rfl rfl ?_
    exact ⟨dec_f (by first | exact (fits_d (by assumption)).2 ⟨by omega, by omega⟩ | exact (fits_a (by assumption) (by assumption)).2 ⟨by omega, by omega⟩ | exact (fits_o (by assumption) (by assumption)).2 (by assumption) | exact fun q => absurd ((fits_d (by assumption)).1 q) (by omega) | exact fun q => absurd ((fits_a (by assumption) (by assumption)).1 q) (by omega) | exact fun q => absurd ((fits_o (by assumption) (by assumption)).1 q) (by assumption)), rfl, rfl⟩
  ·
   refine s_y rfl (v := .bool false) (y_f (y_k (v := .bool (decide ((c.toNat : Int) ≥ 48))) rfl rfl (fun _ => by kernel_rfl)) h2) rfl ?_
   refine s_y rfl (v := .bool false) (y_mv rfl) rfl ?_
   refine st_off 10 rfl rfl rfl rfl rfl rfl ?_
   refine st_off 10 rfl rfl rfl rfl rfl rfl ?_
   refine s_y rfl (v := .bool false) (y_pick rfl rfl) rfl ?_
   refine s_y rfl (v := .bool false) (y_as rfl) rfl ?_
   refine s_nil (q_then (c_ret (q_block_ret (q_then_ret ?_))))
   refine c_fin (I' := []) [] [] rfl (.tmp rfl .nil) rfl rfl rfl ?_
   exact ⟨dec_f (by first | exact (fits_d (by assumption)).2 ⟨by omega, by omega⟩ | exact (fits_a (by assumption) (by assumption)).2 ⟨by omega, by omega⟩ | exact (fits_o (by assumption) (by assumption)).2 (by assumption) | exact fun q => absurd ((fits_d (by assumption)).1 q) (by omega) | exact fun q => absurd ((fits_a (by assumption) (by assumption)).1 q) (by omega) | exact fun q => absurd ((fits_o (by assumption) (by assumption)).1 q) (by assumption)), rfl, rfl⟩
 ·
  refine s_y rfl (v := .bool false) (y_f (y_k (v := .bool (decide ((g.toNat : Int) = 100))) rfl rfl (fun _ => by kernel_rfl)) h1) rfl ?_
  refine s_y rfl (v := .bool false) (y_as rfl) rfl ?_
  refine s_nil (q_then (c_false rfl (c_seq (c_region ?_))))
  refine e_by ((g.toNat : Int) = 97) (fun h4 => ?_) (fun h4 => ?_)
  ·
   refine s_y rfl (v := .bool true) (y_t (y_k (v := .bool (decide ((g.toNat : Int) = 97))) rfl rfl (fun _ => by kernel_rfl)) h4) rfl ?_
   refine s_y rfl (v := .bool true) (y_as rfl) rfl ?_
   refine s_nil (q_then (c_true rfl (c_seq (c_region ?_))))
   refine s_y rfl (v := .int .u8 (c.toNat : Int)) (y_mv rfl) rfl ?_
   refine e_by ((c.toNat : Int) ≥ 97) (fun h5 => ?_) (fun h5 => ?_)
   ·
    refine s_y rfl (v := .bool true) (y_t (y_k (v := .bool (decide ((c.toNat : Int) ≥ 97))) rfl rfl (fun _ => by kernel_rfl)) h5) rfl ?_
    refine s_y rfl (v := .bool true) (y_mv rfl) rfl ?_
    refine st_on 18 rfl rfl rfl (o_y (v := .int .u8 (c.toNat : Int)) (y_mv rfl) rfl rfl rfl ?_)
    refine e_by ((c.toNat : Int) ≤ 122) (fun h6 => ?_) (fun h6 => ?_)
    ·
     refine st_on 18 rfl rfl rfl (o_y (v := .bool true) (y_t (y_k (v := .bool (decide ((c.toNat : Int) ≤ 122))) rfl rfl (fun _ => by kernel_rfl)) h6) rfl rfl rfl ?_)
     refine s_y rfl (v := .bool true) (y_pick rfl rfl) rfl ?_
     refine s_y rfl (v := .bool true) (y_as rfl) rfl ?_
     refine s_nil (q_then (c_ret (q_block_ret (q_then_ret ?_))))
     refine c_fin (I' := []) [] [] rfl (.tmp rfl .nil) rfl rfl rfl ?_
     exact ⟨dec_t (by first | exact (fits_d (by assumption)).2 ⟨by omega, by omega⟩ | exact (fits_a (by assumption) (by assumption)).2 ⟨by omega, by omega⟩ | exact (fits_o (by assumption) (by assumption)).2 (by assumption) | exact fun q => absurd ((fits_d (by assumption)).1 q) (by omega) | exact fun q => absurd ((fits_a (by assumption) (by assumption)).1 q) (by omega) | exact fun q => absurd ((fits_o (by assumption) (by assumption)).1 q) (by assumption)), rfl, rfl⟩
    ·
     refine st_on 18 rfl rfl rfl (o_y (v := .bool false) (y_f (y_k (v := .bool (decide ((c.toNat : Int) ≤ 122))) rfl rfl (fun _ => by kernel_rfl)) h6) rfl rfl rfl ?_)
     refine s_y rfl (v := .bool false) (y_pick rfl rfl) rfl ?_
     refine s_y rfl (v := .bool false) (y_as rfl) rfl ?_
     refine s_nil (q_then (c_ret (q_block_ret (q_then_ret ?_))))
     refine c_fin (I' := []) [] [] rfl (.tmp rfl .nil) rfl rfl rfl ?_
     exact ⟨dec_f (by first | exact (fits_d (by assumption)).2 ⟨by omega, by omega⟩ | exact (fits_a (by assumption) (by assumption)).2 ⟨by omega, by omega⟩ | exact (fits_o (by assumption) (by assumption)).2 (by assumption) | exact fun q => absurd ((fits_d (by assumption)).1 q) (by omega) | exact fun q => absurd ((fits_a (by assumption) (by assumption)).1 q) (by omega) | exact fun q => absurd ((fits_o (by assumption) (by assumption)).1 q) (by assumption)), rfl, rfl⟩
   ·
    refine s_y rfl (v := .bool false) (y_f (y_k (v := .bool (decide ((c.toNat : Int) ≥ 97))) rfl rfl (fun _ => by kernel_rfl)) h5) rfl ?_
    refine s_y rfl (v := .bool false) (y_mv rfl) rfl ?_
    refine st_off 18 rfl rfl rfl rfl rfl rfl ?_
    refine st_off 18 rfl rfl rfl rfl rfl rfl ?_
    refine s_y rfl (v := .bool false) (y_pick rfl rfl) rfl ?_
    refine s_y rfl (v := .bool false) (y_as rfl) rfl ?_
    refine s_nil (q_then (c_ret (q_block_ret (q_then_ret ?_))))
    refine c_fin (I' := []) [] [] rfl (.tmp rfl .nil) rfl rfl rfl ?_
    exact ⟨dec_f (by first | exact (fits_d (by assumption)).2 ⟨by omega, by omega⟩ | exact (fits_a (by assumption) (by assumption)).2 ⟨by omega, by omega⟩ | exact (fits_o (by assumption) (by assumption)).2 (by assumption) | exact fun q => absurd ((fits_d (by assumption)).1 q) (by omega) | exact fun q => absurd ((fits_a (by assumption) (by assumption)).1 q) (by omega) | exact fun q => absurd ((fits_o (by assumption) (by assumption)).1 q) (by assumption)), rfl, rfl⟩
  ·
   refine s_y rfl (v := .bool false) (y_f (y_k (v := .bool (decide ((g.toNat : Int) = 97))) rfl rfl (fun _ => by kernel_rfl)) h4) rfl ?_
   refine s_y rfl (v := .bool false) (y_as rfl) rfl ?_
   refine s_nil (q_then (c_false rfl (c_skip (q_block (q_then (c_seq (c_region ?_)))))))
   refine s_y rfl (v := .int .u8 (c.toNat : Int)) (y_mv rfl) rfl ?_
   refine s_y rfl (v := .int .u8 (g.toNat : Int)) (y_mv rfl) rfl ?_
   refine e_by ((c.toNat : Int) = (g.toNat : Int)) (fun h7 => ?_) (fun h7 => ?_)
   ·
    refine s_y rfl (v := .bool true) (y_t (y_k (v := .bool (decide ((c.toNat : Int) = (g.toNat : Int)))) rfl rfl (fun _ => by kernel_rfl)) h7) rfl ?_
    refine s_y rfl (v := .bool true) (y_as rfl) rfl ?_
    refine s_nil (q_then (c_ret ?_))
    refine c_fin (I' := []) [] [] rfl (.tmp rfl .nil) rfl rfl rfl ?_
    exact ⟨dec_t (by first | exact (fits_d (by assumption)).2 ⟨by omega, by omega⟩ | exact (fits_a (by assumption) (by assumption)).2 ⟨by omega, by omega⟩ | exact (fits_o (by assumption) (by assumption)).2 (by assumption) | exact fun q => absurd ((fits_d (by assumption)).1 q) (by omega) | exact fun q => absurd ((fits_a (by assumption) (by assumption)).1 q) (by omega) | exact fun q => absurd ((fits_o (by assumption) (by assumption)).1 q) (by assumption)), rfl, rfl⟩
   ·
    refine s_y rfl (v := .bool false) (y_f (y_k (v := .bool (decide ((c.toNat : Int) = (g.toNat : Int)))) rfl rfl (fun _ => by kernel_rfl)) h7) rfl ?_
    refine s_y rfl (v := .bool false) (y_as rfl) rfl ?_
    refine s_nil (q_then (c_ret ?_))
    refine c_fin (I' := []) [] [] rfl (.tmp rfl .nil) rfl rfl rfl ?_
    exact ⟨dec_f (by first | exact (fits_d (by assumption)).2 ⟨by omega, by omega⟩ | exact (fits_a (by assumption) (by assumption)).2 ⟨by omega, by omega⟩ | exact (fits_o (by assumption) (by assumption)).2 (by assumption) | exact fun q => absurd ((fits_d (by assumption)).1 q) (by omega) | exact fun q => absurd ((fits_a (by assumption) (by assumption)).1 q) (by omega) | exact fun q => absurd ((fits_o (by assumption) (by assumption)).1 q) (by assumption)), rfl, rfl⟩
theorem rclass_ (sg : ByteArray) (hssg : sg.size ≤ 100000) : Con Tryz.prog 74 [.string sg] [] [] (fun v L' I' => v = .bool (decide (classP sg)) ∧ L' = [] ∧ I' = []) := by
 refine fn_of Tryz.func74 rfl Tryz.ntmps74 (by kernel_rfl) rfl (fun C => ?_)
 refine c_seq (c_region ?_)
 refine s_y rfl (v := .bool false) (y_as rfl) rfl ?_
 refine s_nil (q_then (c_seq (c_seq (c_region ?_))))
 refine s_y rfl (v := .int .i64 0) (y_as rfl) rfl ?_
 refine s_nil (q_then (c_block ?_))
 refine c_loopn (ι := Nat) (fun j => (j ≤ sg.size) ∧ (∀ i, i < j → chk (bl sg) i)) (fun j => [(0, .string sg), (3, .int .i64 (j : Int))]) (fun j => []) (fun j => []) (fun j => sg.size - j) (0) [] [] (show (0 ≤ sg.size) ∧ (∀ i, i < 0 → chk (bl sg) i) from ⟨by first | omega | simp_all | (simp; done), fun i hi => absurd hi (by omega)⟩) ((.cons rfl rfl (.cons rfl rfl .nil))) rfl rfl ?_
 rintro j ⟨hj, hF⟩
 show Ent 44 C [(0, .string sg), (3, .int .i64 (j : Int))] [] [] [] _
 refine c_seq (c_seq (c_region ?_))
 refine s_y rfl (v := .int .i64 (j : Int)) (y_mv rfl) rfl ?_
 refine s_y rfl (v := .string sg) (y_mv rfl) rfl ?_
 refine s_y rfl (v := .int .i64 (sg.size : Int)) (y_k rfl rfl (fun _ => by kernel_rfl)) rfl ?_
 refine e_by ((j : Int) < (sg.size : Int)) (fun h1 => ?_) (fun h1 => ?_)
 ·
  refine s_y rfl (v := .bool true) (y_t (y_k (v := .bool (decide ((j : Int) < (sg.size : Int)))) rfl rfl (fun _ => by kernel_rfl)) h1) rfl ?_
  refine s_nil (q_then (c_true rfl (c_skip (q_then (c_seq (c_block (c_seq ?_)))))))
  refine c_draw (l := ticked 25 0) [] [] (by kernel_rfl) rfl rfl ?_
  refine b_y (i := 0) (v := .string sg) (ticked 25 1) rfl rfl (by exact y_mv rfl) ?_
  refine b_y (i := 1) (v := .int .i64 (j : Int)) (ticked 25 3) rfl rfl (by exact y_mv rfl) ?_
  obtain ⟨x1, hb1⟩ : ∃ x, (sg)[j]? = some x := ⟨_, getElem?_pos (sg) j (by omega)⟩
  refine b_y (i := 2) (v := .int .u8 (x1.toNat : Int)) (ticked 25 7) rfl rfl (by exact y_sidx j x1 rfl rfl (rfl) hb1 Tryz.underlying9) ?_
  refine e_by ((x1.toNat : Int) < 33) (fun h2 => ?_) (fun h2 => ?_)
  ·
   refine b_y (i := 3) (v := .bool true) (ticked 25 15) rfl rfl (by exact y_t (y_k (v := .bool (decide ((x1.toNat : Int) < 33))) rfl rfl (fun _ => by kernel_rfl)) h2) ?_
   refine b_y (i := 4) (v := .bool true) (ticked 25 31) rfl rfl (by exact y_mv rfl) ?_
   refine b_f (i := 5) 14 (ticked 25 63) rfl rfl rfl rfl ?_
   refine b_f (i := 6) 14 (ticked 25 127) rfl rfl rfl rfl ?_
   refine b_f (i := 7) 14 (ticked 25 255) rfl rfl rfl rfl ?_
   refine b_f (i := 8) 14 (ticked 25 511) rfl rfl rfl rfl ?_
   refine b_y (i := 9) (v := .bool true) (ticked 25 1023) rfl rfl (by exact y_pick rfl rfl) ?_
   refine b_y (i := 10) (v := .bool true) (ticked 25 2047) rfl rfl (by exact y_mv rfl) ?_
   refine b_f (i := 11) 20 (ticked 25 4095) rfl rfl rfl rfl ?_
   refine b_f (i := 12) 20 (ticked 25 8191) rfl rfl rfl rfl ?_
   refine b_f (i := 13) 20 (ticked 25 16383) rfl rfl rfl rfl ?_
   refine b_f (i := 14) 20 (ticked 25 32767) rfl rfl rfl rfl ?_
   refine b_u (i := 15) 24 (ticked 25 65535) rfl rfl rfl ?_
   refine b_u (i := 16) 24 (ticked 25 131071) rfl rfl rfl ?_
   refine b_u (i := 17) 24 (ticked 25 262143) rfl rfl rfl ?_
   refine b_u (i := 18) 24 (ticked 25 524287) rfl rfl rfl ?_
   refine b_u (i := 19) 24 (ticked 25 1048575) rfl rfl rfl ?_
   refine b_u (i := 20) 24 (ticked 25 2097151) rfl rfl rfl ?_
   refine b_u (i := 21) 24 (ticked 25 4194303) rfl rfl rfl ?_
   refine b_u (i := 22) 24 (ticked 25 8388607) rfl rfl rfl ?_
   refine b_f (i := 23) 20 (ticked 25 16777215) rfl rfl rfl rfl ?_
   refine b_y (i := 24) (v := .bool true) (ticked 25 33554431) rfl rfl (by exact y_pick rfl rfl) ?_
   refine a_done (by as_aux_lemma => kernel_rfl) ?_
   refine q_then (c_true rfl (c_seq (c_region ?_)))
   refine s_y rfl (v := .bool false) (y_as rfl) rfl ?_
   refine s_nil (q_then (c_ret (q_block_ret (q_then_ret (q_then_ret (q_block_ret (q_then_ret ?_)))))))
   refine c_fin (I' := []) [] [] rfl (.tmp rfl .nil) rfl rfl rfl ?_
   exact ⟨by show Value.bool _ = Value.bool _; congr 1; symm; first | exact decide_eq_true (by first | exact fun q => chk_n1 hb1 (by assumption) q | exact fun q => chk_n2 hb1 (by assumption) q | exact fun q => chk_n3 hb1 hx (by omega) (by assumption) q | exact chk_end hF (by omega) (by omega) (by omega) | (intro q; have q1 := bl_pos q.1; have q2 := cls_even _ q.2; rw [bl_size] at q2; omega)) | exact decide_eq_false (by first | exact fun q => chk_n1 hb1 (by assumption) q | exact fun q => chk_n2 hb1 (by assumption) q | exact fun q => chk_n3 hb1 hx (by omega) (by assumption) q | exact chk_end hF (by omega) (by omega) (by omega) | (intro q; have q1 := bl_pos q.1; have q2 := cls_even _ q.2; rw [bl_size] at q2; omega)), rfl, rfl⟩
  ·
   refine b_y (i := 3) (v := .bool false) (ticked 25 15) rfl rfl (by exact y_f (y_k (v := .bool (decide ((x1.toNat : Int) < 33))) rfl rfl (fun _ => by kernel_rfl)) h2) ?_
   refine b_y (i := 4) (v := .bool false) (ticked 25 31) rfl rfl (by exact y_mv rfl) ?_
   refine b_yo (i := 5) (v := .string sg) 14 (ticked 25 63) rfl rfl rfl (by exact y_mv rfl) ?_
   refine b_yo (i := 6) (v := .int .i64 (j : Int)) 14 (ticked 25 127) rfl rfl rfl (by exact y_mv rfl) ?_
   refine b_yo (i := 7) (v := .int .u8 (x1.toNat : Int)) 14 (ticked 25 255) rfl rfl rfl (by exact y_sidx j x1 rfl rfl (rfl) hb1 Tryz.underlying9) ?_
   refine e_by ((x1.toNat : Int) > 126) (fun h3 => ?_) (fun h3 => ?_)
   ·
    refine b_yo (i := 8) (v := .bool true) 14 (ticked 25 511) rfl rfl rfl (by exact y_t (y_k (v := .bool (decide ((x1.toNat : Int) > 126))) rfl rfl (fun _ => by kernel_rfl)) h3) ?_
    refine b_y (i := 9) (v := .bool true) (ticked 25 1023) rfl rfl (by exact y_pick rfl rfl) ?_
    refine b_y (i := 10) (v := .bool true) (ticked 25 2047) rfl rfl (by exact y_mv rfl) ?_
    refine b_f (i := 11) 20 (ticked 25 4095) rfl rfl rfl rfl ?_
    refine b_f (i := 12) 20 (ticked 25 8191) rfl rfl rfl rfl ?_
    refine b_f (i := 13) 20 (ticked 25 16383) rfl rfl rfl rfl ?_
    refine b_f (i := 14) 20 (ticked 25 32767) rfl rfl rfl rfl ?_
    refine b_u (i := 15) 24 (ticked 25 65535) rfl rfl rfl ?_
    refine b_u (i := 16) 24 (ticked 25 131071) rfl rfl rfl ?_
    refine b_u (i := 17) 24 (ticked 25 262143) rfl rfl rfl ?_
    refine b_u (i := 18) 24 (ticked 25 524287) rfl rfl rfl ?_
    refine b_u (i := 19) 24 (ticked 25 1048575) rfl rfl rfl ?_
    refine b_u (i := 20) 24 (ticked 25 2097151) rfl rfl rfl ?_
    refine b_u (i := 21) 24 (ticked 25 4194303) rfl rfl rfl ?_
    refine b_u (i := 22) 24 (ticked 25 8388607) rfl rfl rfl ?_
    refine b_f (i := 23) 20 (ticked 25 16777215) rfl rfl rfl rfl ?_
    refine b_y (i := 24) (v := .bool true) (ticked 25 33554431) rfl rfl (by exact y_pick rfl rfl) ?_
    refine a_done (by as_aux_lemma => kernel_rfl) ?_
    refine q_then (c_true rfl (c_seq (c_region ?_)))
    refine s_y rfl (v := .bool false) (y_as rfl) rfl ?_
    refine s_nil (q_then (c_ret (q_block_ret (q_then_ret (q_then_ret (q_block_ret (q_then_ret ?_)))))))
    refine c_fin (I' := []) [] [] rfl (.tmp rfl .nil) rfl rfl rfl ?_
    exact ⟨by show Value.bool _ = Value.bool _; congr 1; symm; first | exact decide_eq_true (by first | exact fun q => chk_n1 hb1 (by assumption) q | exact fun q => chk_n2 hb1 (by assumption) q | exact fun q => chk_n3 hb1 hx (by omega) (by assumption) q | exact chk_end hF (by omega) (by omega) (by omega) | (intro q; have q1 := bl_pos q.1; have q2 := cls_even _ q.2; rw [bl_size] at q2; omega)) | exact decide_eq_false (by first | exact fun q => chk_n1 hb1 (by assumption) q | exact fun q => chk_n2 hb1 (by assumption) q | exact fun q => chk_n3 hb1 hx (by omega) (by assumption) q | exact chk_end hF (by omega) (by omega) (by omega) | (intro q; have q1 := bl_pos q.1; have q2 := cls_even _ q.2; rw [bl_size] at q2; omega)), rfl, rfl⟩
   ·
    refine b_yo (i := 8) (v := .bool false) 14 (ticked 25 511) rfl rfl rfl (by exact y_f (y_k (v := .bool (decide ((x1.toNat : Int) > 126))) rfl rfl (fun _ => by kernel_rfl)) h3) ?_
    refine b_y (i := 9) (v := .bool false) (ticked 25 1023) rfl rfl (by exact y_pick rfl rfl) ?_
    refine b_y (i := 10) (v := .bool false) (ticked 25 2047) rfl rfl (by exact y_mv rfl) ?_
    refine b_yo (i := 11) (v := .int .i64 (j : Int)) 20 (ticked 25 4095) rfl rfl rfl (by exact y_mv rfl) ?_
    refine b_yo (i := 12) (v := .int .i64 ((j : Int) % 2)) 20 (ticked 25 8191) rfl rfl rfl (by exact y_rem (r := (j : Int) % 2) rfl rfl rfl (by omega)) ?_
    refine e_by ((j : Int) % 2 = 1) (fun h4 => ?_) (fun h4 => ?_)
    ·
     refine b_yo (i := 13) (v := .bool true) 20 (ticked 25 16383) rfl rfl rfl (by exact y_t (y_k (v := .bool (decide ((j : Int) % 2 = 1))) rfl rfl (fun _ => by kernel_rfl)) h4) ?_
     refine b_yo (i := 14) (v := .bool true) 20 (ticked 25 32767) rfl rfl rfl (by exact y_mv rfl) ?_
     refine b_yo (i := 15) (v := .string sg) 24 (ticked 25 65535) rfl rfl rfl (by exact y_mv rfl) ?_
     refine b_yo (i := 16) (v := .int .i64 (j : Int)) 24 (ticked 25 131071) rfl rfl rfl (by exact y_mv rfl) ?_
     refine b_yo (i := 17) (v := .int .i64 ((j : Int) - 1)) 24 (ticked 25 262143) rfl rfl rfl (by exact y_sub (r := (j : Int) - 1) rfl rfl rfl (by omega)) ?_
     obtain ⟨x2, hb2⟩ : ∃ x, (sg)[((j : Int) - 1).toNat]? = some x := ⟨_, getElem?_pos (sg) (((j : Int) - 1).toNat) (by omega)⟩
     refine b_yo (i := 18) (v := .int .u8 (x2.toNat : Int)) 24 (ticked 25 524287) rfl rfl rfl (by exact y_sidx (((j : Int) - 1).toNat) x2 rfl rfl (by omega) hb2 Tryz.underlying9) ?_
     refine b_yo (i := 19) (v := .string sg) 24 (ticked 25 1048575) rfl rfl rfl (by exact y_mv rfl) ?_
     refine b_yo (i := 20) (v := .int .i64 (j : Int)) 24 (ticked 25 2097151) rfl rfl rfl (by exact y_mv rfl) ?_
     refine b_yo (i := 21) (v := .int .u8 (x1.toNat : Int)) 24 (ticked 25 4194303) rfl rfl rfl (by exact y_sidx j x1 rfl rfl (rfl) hb1 Tryz.underlying9) ?_
     refine e_by ((x2.toNat : Int) > (x1.toNat : Int)) (fun h5 => ?_) (fun h5 => ?_)
     ·
      refine b_yo (i := 22) (v := .bool true) 24 (ticked 25 8388607) rfl rfl rfl (by exact y_t (y_k (v := .bool (decide ((x2.toNat : Int) > (x1.toNat : Int)))) rfl rfl (fun _ => by kernel_rfl)) h5) ?_
      refine b_yo (i := 23) (v := .bool true) 20 (ticked 25 16777215) rfl rfl rfl (by exact y_pick rfl rfl) ?_
      refine b_y (i := 24) (v := .bool true) (ticked 25 33554431) rfl rfl (by exact y_pick rfl rfl) ?_
      refine a_done (by as_aux_lemma => kernel_rfl) ?_
      refine q_then (c_true rfl (c_seq (c_region ?_)))
      refine s_y rfl (v := .bool false) (y_as rfl) rfl ?_
      refine s_nil (q_then (c_ret (q_block_ret (q_then_ret (q_then_ret (q_block_ret (q_then_ret ?_)))))))
      refine c_fin (I' := []) [] [] rfl (.tmp rfl .nil) rfl rfl rfl ?_
      exact ⟨by show Value.bool _ = Value.bool _; congr 1; symm; first | exact decide_eq_true (by first | exact fun q => chk_n1 hb1 (by assumption) q | exact fun q => chk_n2 hb1 (by assumption) q | exact fun q => chk_n3 hb1 hb2 (by omega) (by assumption) q | exact chk_end hF (by omega) (by omega) (by omega) | (intro q; have q1 := bl_pos q.1; have q2 := cls_even _ q.2; rw [bl_size] at q2; omega)) | exact decide_eq_false (by first | exact fun q => chk_n1 hb1 (by assumption) q | exact fun q => chk_n2 hb1 (by assumption) q | exact fun q => chk_n3 hb1 hb2 (by omega) (by assumption) q | exact chk_end hF (by omega) (by omega) (by omega) | (intro q; have q1 := bl_pos q.1; have q2 := cls_even _ q.2; rw [bl_size] at q2; omega)), rfl, rfl⟩
     ·
      refine b_yo (i := 22) (v := .bool false) 24 (ticked 25 8388607) rfl rfl rfl (by exact y_f (y_k (v := .bool (decide ((x2.toNat : Int) > (x1.toNat : Int)))) rfl rfl (fun _ => by kernel_rfl)) h5) ?_
      refine b_yo (i := 23) (v := .bool false) 20 (ticked 25 16777215) rfl rfl rfl (by exact y_pick rfl rfl) ?_
      refine b_y (i := 24) (v := .bool false) (ticked 25 33554431) rfl rfl (by exact y_pick rfl rfl) ?_
      refine a_done (by as_aux_lemma => kernel_rfl) ?_
      refine q_then (c_false rfl (c_skip (q_block (q_then (c_region ?_)))))
      refine s_y rfl (v := .int .i64 (j : Int)) (y_mv rfl) rfl ?_
      refine s_y rfl (v := .int .i64 ((j : Int) + 1)) (y_add (r := (j : Int) + 1) rfl rfl rfl (by omega)) rfl ?_
      refine s_y rfl (v := .int .i64 ((j : Int) + 1)) (y_as rfl) rfl ?_
      refine s_nil (q_then ?_)
      refine c_next [] [] (j + 1) ?_ ?_ ?_ (by rfl) (by rfl)
      · exact (show ((j + 1) ≤ sg.size) ∧ (∀ i, i < (j + 1) → chk (bl sg) i) from ⟨by first | omega | simp_all | (simp; done), chk_step2 hF hb1 hb2 (by omega) (by omega) (by omega) (by omega)⟩)
      · show sg.size - (j + 1) < sg.size - j; omega
      · exact (.cons rfl rfl (.cons rfl (show (.int .i64 ((j : Int) + 1) : Value) = .int .i64 ((j + 1) : Int) from by first | rfl | (congr 1; omega) | (congr 1; simp; done) | (congr 1; simp; omega)) .nil))
    ·
     refine b_yo (i := 13) (v := .bool false) 20 (ticked 25 16383) rfl rfl rfl (by exact y_f (y_k (v := .bool (decide ((j : Int) % 2 = 1))) rfl rfl (fun _ => by kernel_rfl)) h4) ?_
     refine b_yo (i := 14) (v := .bool false) 20 (ticked 25 32767) rfl rfl rfl (by exact y_mv rfl) ?_
     refine b_f (i := 15) 24 (ticked 25 65535) rfl rfl rfl rfl ?_
     refine b_f (i := 16) 24 (ticked 25 131071) rfl rfl rfl rfl ?_
     refine b_f (i := 17) 24 (ticked 25 262143) rfl rfl rfl rfl ?_
     refine b_f (i := 18) 24 (ticked 25 524287) rfl rfl rfl rfl ?_
     refine b_f (i := 19) 24 (ticked 25 1048575) rfl rfl rfl rfl ?_
     refine b_f (i := 20) 24 (ticked 25 2097151) rfl rfl rfl rfl ?_
     refine b_f (i := 21) 24 (ticked 25 4194303) rfl rfl rfl rfl ?_
     refine b_f (i := 22) 24 (ticked 25 8388607) rfl rfl rfl rfl ?_
     refine b_yo (i := 23) (v := .bool false) 20 (ticked 25 16777215) rfl rfl rfl (by exact y_pick rfl rfl) ?_
     refine b_y (i := 24) (v := .bool false) (ticked 25 33554431) rfl rfl (by exact y_pick rfl rfl) ?_
     refine a_done (by as_aux_lemma => kernel_rfl) ?_
     refine q_then (c_false rfl (c_skip (q_block (q_then (c_region ?_)))))
     refine s_y rfl (v := .int .i64 (j : Int)) (y_mv rfl) rfl ?_
     refine s_y rfl (v := .int .i64 ((j : Int) + 1)) (y_add (r := (j : Int) + 1) rfl rfl rfl (by omega)) rfl ?_
     refine s_y rfl (v := .int .i64 ((j : Int) + 1)) (y_as rfl) rfl ?_
     refine s_nil (q_then ?_)
     refine c_next [] [] (j + 1) ?_ ?_ ?_ (by rfl) (by rfl)
     · exact (show ((j + 1) ≤ sg.size) ∧ (∀ i, i < (j + 1) → chk (bl sg) i) from ⟨by first | omega | simp_all | (simp; done), chk_step hF hb1 (by omega) (by omega) (fun hodd => by omega)⟩)
     · show sg.size - (j + 1) < sg.size - j; omega
     · exact (.cons rfl rfl (.cons rfl (show (.int .i64 ((j : Int) + 1) : Value) = .int .i64 ((j + 1) : Int) from by first | rfl | (congr 1; omega) | (congr 1; simp; done) | (congr 1; simp; omega)) .nil))
 ·
  refine s_y rfl (v := .bool false) (y_f (y_k (v := .bool (decide ((j : Int) < (sg.size : Int)))) rfl rfl (fun _ => by kernel_rfl)) h1) rfl ?_
  refine s_nil (q_then (c_false rfl ?_))
  refine c_exit ?_
  refine q_then_exit ?_
  refine q_then_exit ?_
  refine q_block_here ?_
  refine q_then (c_seq (c_region ?_))
  refine s_y rfl (v := .string sg) (y_mv rfl) rfl ?_
  refine s_y rfl (v := .int .i64 (sg.size : Int)) (y_k rfl rfl (fun _ => by kernel_rfl)) rfl ?_
  refine e_by ((sg.size : Int) > 0) (fun h6 => ?_) (fun h6 => ?_)
  ·
   refine s_y rfl (v := .bool true) (y_t (y_k (v := .bool (decide ((sg.size : Int) > 0))) rfl rfl (fun _ => by kernel_rfl)) h6) rfl ?_
   refine s_y rfl (v := .bool true) (y_mv rfl) rfl ?_
   refine st_on 38 rfl rfl rfl (o_y (v := .string sg) (y_mv rfl) rfl rfl rfl ?_)
   refine st_on 38 rfl rfl rfl (o_y (v := .int .i64 (sg.size : Int)) (y_k rfl rfl (fun _ => by kernel_rfl)) rfl rfl rfl ?_)
   refine st_on 38 rfl rfl rfl (o_y (v := .int .i64 ((sg.size : Int) % 2)) (y_rem (r := (sg.size : Int) % 2) rfl rfl rfl (by omega)) rfl rfl rfl ?_)
   refine e_by ((sg.size : Int) % 2 = 0) (fun h7 => ?_) (fun h7 => ?_)
   ·
    refine st_on 38 rfl rfl rfl (o_y (v := .bool true) (y_t (y_k (v := .bool (decide ((sg.size : Int) % 2 = 0))) rfl rfl (fun _ => by kernel_rfl)) h7) rfl rfl rfl ?_)
    refine s_y rfl (v := .bool true) (y_pick rfl rfl) rfl ?_
    refine s_y rfl (v := .bool true) (y_as rfl) rfl ?_
    refine s_nil (q_then (c_ret ?_))
    refine c_fin (I' := []) [] [] rfl (.tmp rfl .nil) rfl rfl rfl ?_
    exact ⟨by show Value.bool _ = Value.bool _; congr 1; symm; first | exact decide_eq_true (by first | exact fun q => chk_n1 hx (by assumption) q | exact fun q => chk_n2 hx (by assumption) q | exact fun q => chk_n3 hx hx (by omega) (by assumption) q | exact chk_end hF (by omega) (by omega) (by omega) | (intro q; have q1 := bl_pos q.1; have q2 := cls_even _ q.2; rw [bl_size] at q2; omega)) | exact decide_eq_false (by first | exact fun q => chk_n1 hx (by assumption) q | exact fun q => chk_n2 hx (by assumption) q | exact fun q => chk_n3 hx hx (by omega) (by assumption) q | exact chk_end hF (by omega) (by omega) (by omega) | (intro q; have q1 := bl_pos q.1; have q2 := cls_even _ q.2; rw [bl_size] at q2; omega)), rfl, rfl⟩
   ·
    refine st_on 38 rfl rfl rfl (o_y (v := .bool false) (y_f (y_k (v := .bool (decide ((sg.size : Int) % 2 = 0))) rfl rfl (fun _ => by kernel_rfl)) h7) rfl rfl rfl ?_)
    refine s_y rfl (v := .bool false) (y_pick rfl rfl) rfl ?_
    refine s_y rfl (v := .bool false) (y_as rfl) rfl ?_
    refine s_nil (q_then (c_ret ?_))
    refine c_fin (I' := []) [] [] rfl (.tmp rfl .nil) rfl rfl rfl ?_
    exact ⟨by show Value.bool _ = Value.bool _; congr 1; symm; first | exact decide_eq_true (by first | exact fun q => chk_n1 hx (by assumption) q | exact fun q => chk_n2 hx (by assumption) q | exact fun q => chk_n3 hx hx (by omega) (by assumption) q | exact chk_end hF (by omega) (by omega) (by omega) | (intro q; have q1 := bl_pos q.1; have q2 := cls_even _ q.2; rw [bl_size] at q2; omega)) | exact decide_eq_false (by first | exact fun q => chk_n1 hx (by assumption) q | exact fun q => chk_n2 hx (by assumption) q | exact fun q => chk_n3 hx hx (by omega) (by assumption) q | exact chk_end hF (by omega) (by omega) (by omega) | (intro q; have q1 := bl_pos q.1; have q2 := cls_even _ q.2; rw [bl_size] at q2; omega)), rfl, rfl⟩
  ·
   refine s_y rfl (v := .bool false) (y_f (y_k (v := .bool (decide ((sg.size : Int) > 0))) rfl rfl (fun _ => by kernel_rfl)) h6) rfl ?_
   refine s_y rfl (v := .bool false) (y_mv rfl) rfl ?_
   refine st_off 38 rfl rfl rfl rfl rfl rfl ?_
   refine st_off 38 rfl rfl rfl rfl rfl rfl ?_
   refine st_off 38 rfl rfl rfl rfl rfl rfl ?_
   refine st_off 38 rfl rfl rfl rfl rfl rfl ?_
   refine s_y rfl (v := .bool false) (y_pick rfl rfl) rfl ?_
   refine s_y rfl (v := .bool false) (y_as rfl) rfl ?_
   refine s_nil (q_then (c_ret ?_))
   refine c_fin (I' := []) [] [] rfl (.tmp rfl .nil) rfl rfl rfl ?_
   exact ⟨by show Value.bool _ = Value.bool _; congr 1; symm; first | exact decide_eq_true (by first | exact fun q => chk_n1 hx (by assumption) q | exact fun q => chk_n2 hx (by assumption) q | exact fun q => chk_n3 hx hx (by omega) (by assumption) q | exact chk_end hF (by omega) (by omega) (by omega) | (intro q; have q1 := bl_pos q.1; have q2 := cls_even _ q.2; rw [bl_size] at q2; omega)) | exact decide_eq_false (by first | exact fun q => chk_n1 hx (by assumption) q | exact fun q => chk_n2 hx (by assumption) q | exact fun q => chk_n3 hx hx (by omega) (by assumption) q | exact chk_end hF (by omega) (by omega) (by omega) | (intro q; have q1 := bl_pos q.1; have q2 := cls_even _ q.2; rw [bl_size] at q2; omega)), rfl, rfl⟩
theorem rspread_ (s : ByteArray) (hs : s.size ≤ 1000) : Con Tryz.prog 60 [.string s] [] [] (fun v L' I' => (((recF s).2 = false) ∧ v = .tuple #[.string ((recF s).1), .bool true] ∧ L' = [] ∧ I' = []) ∨ (∃ t : ByteArray, ((recF s).2 = true) ∧ (t.size ≤ 9 * s.size) ∧ v = .tuple #[.string t, .bool false] ∧ L' = [] ∧ I' = [])) := by
 refine fn_of Tryz.func60 rfl Tryz.ntmps60 (by kernel_rfl) rfl (fun C => ?_)
 refine c_seq (c_region ?_)
 refine s_y rfl (v := .string (⟨#[]⟩ : ByteArray)) (y_as rfl) rfl ?_
 refine s_y rfl (v := .bool false) (y_as rfl) rfl ?_
 refine s_nil (q_then (c_seq (c_region ?_)))
 refine s_y rfl (v := .string (⟨#[]⟩ : ByteArray)) (y_as rfl) rfl ?_
 refine s_nil (q_then (c_seq (c_seq (c_region ?_))))
 refine s_y rfl (v := .int .i64 0) (y_as rfl) rfl ?_
 refine s_nil (q_then (c_block ?_))
 refine c_loopn (ι := Nat × ByteArray) (fun (i, o) => (i ≤ s.size) ∧ ((sgnF (bl s)).1 = bl o ++ (sgnF ((bl s).drop i)).1) ∧ ((sgnF (bl s)).2 = (sgnF ((bl s).drop i)).2) ∧ (o.size ≤ 9 * i)) (fun (i, o) => [(0, .string s), (4, .string o), (5, .int .i64 (i : Int))]) (fun (i, o) => []) (fun (i, o) => []) (fun (i, o) => s.size - i) (0, (⟨#[]⟩ : ByteArray)) [] [] (show (0 ≤ s.size) ∧ ((sgnF (bl s)).1 = bl (⟨#[]⟩ : ByteArray) ++ (sgnF ((bl s).drop 0)).1) ∧ ((sgnF (bl s)).2 = (sgnF ((bl s).drop 0)).2) ∧ ((⟨#[]⟩ : ByteArray).size ≤ 9 * 0) from ⟨by first | omega | simp_all | (simp; done), by rw [List.drop_zero]; rfl, rfl, Nat.zero_le _⟩) ((.cons rfl rfl (.cons rfl rfl (.cons rfl rfl .nil)))) rfl rfl ?_
 rintro ⟨i, o⟩ ⟨hi, hg1, hg2, ho⟩
 show Ent 77 C [(0, .string s), (4, .string o), (5, .int .i64 (i : Int))] [] [] [] _
 refine c_seq (c_seq (c_region ?_))
 refine s_y rfl (v := .int .i64 (i : Int)) (y_mv rfl) rfl ?_
 refine s_y rfl (v := .string s) (y_mv rfl) rfl ?_
 refine s_y rfl (v := .int .i64 (s.size : Int)) (y_k rfl rfl (fun _ => by kernel_rfl)) rfl ?_
 refine e_by ((i : Int) < (s.size : Int)) (fun h1 => ?_) (fun h1 => ?_)
 ·
  refine s_y rfl (v := .bool true) (y_t (y_k (v := .bool (decide ((i : Int) < (s.size : Int)))) rfl rfl (fun _ => by kernel_rfl)) h1) rfl ?_
  refine s_nil (q_then (c_true rfl (c_skip (q_then (c_block (c_seq (c_region ?_)))))))
  refine s_y rfl (v := .string s) (y_mv rfl) rfl ?_
  refine s_y rfl (v := .int .i64 (i : Int)) (y_mv rfl) rfl ?_
  refine s_y rfl (v := .int .i64 (i : Int)) (y_mv rfl) rfl ?_
  refine s_y rfl (v := .int .i64 ((i : Int) + 1)) (y_add (r := (i : Int) + 1) rfl rfl rfl (by omega)) rfl ?_
  refine s_y rfl (v := .string (s.extract i (i + 1))) (y_cuts i (i + 1) rfl (.at i rfl (rfl)) (.at (i + 1) rfl (rfl)) Tryz.underlying9 (by omega) (by omega)) rfl ?_
  refine s_y rfl (v := .string (s.extract i (i + 1))) (y_as rfl) rfl ?_
  refine s_nil (q_then (c_seq (c_seq (c_region ?_))))
  refine s_y rfl (v := .string (s.extract i (i + 1))) (y_mv rfl) rfl ?_
  refine e_by (s.extract i (i + 1) = (⟨#[45]⟩ : ByteArray)) (fun h2 => ?_) (fun h2 => ?_)
  ·
   refine s_y rfl (v := .bool true) (y_b (y_k (v := .bool ((s.extract i (i + 1)).toList == (⟨#[45]⟩ : ByteArray).toList)) rfl rfl (fun _ => by kernel_rfl)) (str_t h2)) rfl ?_
   refine s_y rfl (v := .bool true) (y_mv rfl) rfl ?_
   refine st_off 19 rfl rfl rfl rfl rfl rfl ?_
   refine st_off 19 rfl rfl rfl rfl rfl rfl ?_
   refine s_y rfl (v := .bool true) (y_pick rfl rfl) rfl ?_
   refine s_y rfl (v := .bool true) (y_mv rfl) rfl ?_
   refine st_off 23 rfl rfl rfl rfl rfl rfl ?_
   refine st_off 23 rfl rfl rfl rfl rfl rfl ?_
   refine s_y rfl (v := .bool true) (y_pick rfl rfl) rfl ?_
   refine s_nil (q_then (c_true rfl (c_seq (c_region ?_))))
   refine s_y rfl (v := .string o) (y_mv rfl) rfl ?_
   refine s_y rfl (v := .string (s.extract i (i + 1))) (y_mv rfl) rfl ?_
   refine s_y rfl (v := .string (o ++ (s.extract i (i + 1)))) (y_cat (s := o) (u := s.extract i (i + 1)) rfl rfl (by rw [ByteArray.size_extract]; omega)) rfl ?_
   refine s_y rfl (v := .string (o ++ (s.extract i (i + 1)))) (y_as rfl) rfl ?_
   refine s_nil (q_then (c_seq (c_region ?_)))
   refine s_y rfl (v := .int .i64 (i : Int)) (y_mv rfl) rfl ?_
   refine s_y rfl (v := .int .i64 ((i : Int) + 1)) (y_add (r := (i : Int) + 1) rfl rfl rfl (by omega)) rfl ?_
   refine s_y rfl (v := .int .i64 ((i : Int) + 1)) (y_as rfl) rfl ?_
   refine s_nil (q_then ?_)
   refine c_exit ?_
   refine q_then_exit ?_
   refine q_block_here ?_
   refine q_then ?_
   refine c_next [] [] (i + 1, o ++ (s.extract i (i + 1))) ?_ ?_ ?_ (by rfl) (by rfl)
   · exact (show ((i + 1) ≤ s.size) ∧ ((sgnF (bl s)).1 = bl (o ++ (s.extract i (i + 1))) ++ (sgnF ((bl s).drop (i + 1))).1) ∧ ((sgnF (bl s)).2 = (sgnF ((bl s).drop (i + 1))).2) ∧ ((o ++ (s.extract i (i + 1))).size ≤ 9 * (i + 1)) from ⟨by first | omega | simp_all | (simp; done), sp_s1 hg1 (sp_simp (by omega) (by first | exact .inl (by assumption) | exact .inr (.inl (by assumption)) | exact .inr (.inr (by assumption)))), by rw [hg2, sp_simp (by omega) (by first | exact .inl (by assumption) | exact .inr (.inl (by assumption)) | exact .inr (.inr (by assumption)))], by rw [ByteArray.size_append, ByteArray.size_extract]; omega⟩)
   · show s.size - (i + 1) < s.size - i; omega
   · exact (.cons rfl rfl (.cons rfl rfl (.cons rfl (show (.int .i64 ((i : Int) + 1) : Value) = .int .i64 ((i + 1) : Int) from by first | rfl | (congr 1; omega) | (congr 1; simp; done) | (congr 1; simp; omega)) .nil)))
  ·
   refine s_y rfl (v := .bool false) (y_b (y_k (v := .bool ((s.extract i (i + 1)).toList == (⟨#[45]⟩ : ByteArray).toList)) rfl rfl (fun _ => by kernel_rfl)) (str_f h2)) rfl ?_
   refine s_y rfl (v := .bool false) (y_mv rfl) rfl ?_
   refine st_on 19 rfl rfl rfl (o_y (v := .string (s.extract i (i + 1))) (y_mv rfl) rfl rfl rfl ?_)
   refine e_by (s.extract i (i + 1) = (⟨#[58]⟩ : ByteArray)) (fun h3 => ?_) (fun h3 => ?_)
   ·
    refine st_on 19 rfl rfl rfl (o_y (v := .bool true) (y_b (y_k (v := .bool ((s.extract i (i + 1)).toList == (⟨#[58]⟩ : ByteArray).toList)) rfl rfl (fun _ => by kernel_rfl)) (str_t h3)) rfl rfl rfl ?_)
    refine s_y rfl (v := .bool true) (y_pick rfl rfl) rfl ?_
    refine s_y rfl (v := .bool true) (y_mv rfl) rfl ?_
    refine st_off 23 rfl rfl rfl rfl rfl rfl ?_
    refine st_off 23 rfl rfl rfl rfl rfl rfl ?_
    refine s_y rfl (v := .bool true) (y_pick rfl rfl) rfl ?_
    refine s_nil (q_then (c_true rfl (c_seq (c_region ?_))))
    refine s_y rfl (v := .string o) (y_mv rfl) rfl ?_
    refine s_y rfl (v := .string (s.extract i (i + 1))) (y_mv rfl) rfl ?_
    refine s_y rfl (v := .string (o ++ (s.extract i (i + 1)))) (y_cat (s := o) (u := s.extract i (i + 1)) rfl rfl (by rw [ByteArray.size_extract]; omega)) rfl ?_
    refine s_y rfl (v := .string (o ++ (s.extract i (i + 1)))) (y_as rfl) rfl ?_
    refine s_nil (q_then (c_seq (c_region ?_)))
    refine s_y rfl (v := .int .i64 (i : Int)) (y_mv rfl) rfl ?_
    refine s_y rfl (v := .int .i64 ((i : Int) + 1)) (y_add (r := (i : Int) + 1) rfl rfl rfl (by omega)) rfl ?_
    refine s_y rfl (v := .int .i64 ((i : Int) + 1)) (y_as rfl) rfl ?_
    refine s_nil (q_then ?_)
    refine c_exit ?_
    refine q_then_exit ?_
    refine q_block_here ?_
    refine q_then ?_
    refine c_next [] [] (i + 1, o ++ (s.extract i (i + 1))) ?_ ?_ ?_ (by rfl) (by rfl)
    · exact (show ((i + 1) ≤ s.size) ∧ ((sgnF (bl s)).1 = bl (o ++ (s.extract i (i + 1))) ++ (sgnF ((bl s).drop (i + 1))).1) ∧ ((sgnF (bl s)).2 = (sgnF ((bl s).drop (i + 1))).2) ∧ ((o ++ (s.extract i (i + 1))).size ≤ 9 * (i + 1)) from ⟨by first | omega | simp_all | (simp; done), sp_s1 hg1 (sp_simp (by omega) (by first | exact .inl (by assumption) | exact .inr (.inl (by assumption)) | exact .inr (.inr (by assumption)))), by rw [hg2, sp_simp (by omega) (by first | exact .inl (by assumption) | exact .inr (.inl (by assumption)) | exact .inr (.inr (by assumption)))], by rw [ByteArray.size_append, ByteArray.size_extract]; omega⟩)
    · show s.size - (i + 1) < s.size - i; omega
    · exact (.cons rfl rfl (.cons rfl rfl (.cons rfl (show (.int .i64 ((i : Int) + 1) : Value) = .int .i64 ((i + 1) : Int) from by first | rfl | (congr 1; omega) | (congr 1; simp; done) | (congr 1; simp; omega)) .nil)))
   ·
    refine st_on 19 rfl rfl rfl (o_y (v := .bool false) (y_b (y_k (v := .bool ((s.extract i (i + 1)).toList == (⟨#[58]⟩ : ByteArray).toList)) rfl rfl (fun _ => by kernel_rfl)) (str_f h3)) rfl rfl rfl ?_)
    refine s_y rfl (v := .bool false) (y_pick rfl rfl) rfl ?_
    refine s_y rfl (v := .bool false) (y_mv rfl) rfl ?_
    refine st_on 23 rfl rfl rfl (o_y (v := .string (s.extract i (i + 1))) (y_mv rfl) rfl rfl rfl ?_)
    refine e_by (s.extract i (i + 1) = (⟨#[47]⟩ : ByteArray)) (fun h4 => ?_) (fun h4 => ?_)
    ·
     refine st_on 23 rfl rfl rfl (o_y (v := .bool true) (y_b (y_k (v := .bool ((s.extract i (i + 1)).toList == (⟨#[47]⟩ : ByteArray).toList)) rfl rfl (fun _ => by kernel_rfl)) (str_t h4)) rfl rfl rfl ?_)
     refine s_y rfl (v := .bool true) (y_pick rfl rfl) rfl ?_
     refine s_nil (q_then (c_true rfl (c_seq (c_region ?_))))
     refine s_y rfl (v := .string o) (y_mv rfl) rfl ?_
     refine s_y rfl (v := .string (s.extract i (i + 1))) (y_mv rfl) rfl ?_
     refine s_y rfl (v := .string (o ++ (s.extract i (i + 1)))) (y_cat (s := o) (u := s.extract i (i + 1)) rfl rfl (by rw [ByteArray.size_extract]; omega)) rfl ?_
     refine s_y rfl (v := .string (o ++ (s.extract i (i + 1)))) (y_as rfl) rfl ?_
     refine s_nil (q_then (c_seq (c_region ?_)))
     refine s_y rfl (v := .int .i64 (i : Int)) (y_mv rfl) rfl ?_
     refine s_y rfl (v := .int .i64 ((i : Int) + 1)) (y_add (r := (i : Int) + 1) rfl rfl rfl (by omega)) rfl ?_
     refine s_y rfl (v := .int .i64 ((i : Int) + 1)) (y_as rfl) rfl ?_
     refine s_nil (q_then ?_)
     refine c_exit ?_
     refine q_then_exit ?_
     refine q_block_here ?_
     refine q_then ?_
     refine c_next [] [] (i + 1, o ++ (s.extract i (i + 1))) ?_ ?_ ?_ (by rfl) (by rfl)
     · exact (show ((i + 1) ≤ s.size) ∧ ((sgnF (bl s)).1 = bl (o ++ (s.extract i (i + 1))) ++ (sgnF ((bl s).drop (i + 1))).1) ∧ ((sgnF (bl s)).2 = (sgnF ((bl s).drop (i + 1))).2) ∧ ((o ++ (s.extract i (i + 1))).size ≤ 9 * (i + 1)) from ⟨by first | omega | simp_all | (simp; done), sp_s1 hg1 (sp_simp (by omega) (by first | exact .inl (by assumption) | exact .inr (.inl (by assumption)) | exact .inr (.inr (by assumption)))), by rw [hg2, sp_simp (by omega) (by first | exact .inl (by assumption) | exact .inr (.inl (by assumption)) | exact .inr (.inr (by assumption)))], by rw [ByteArray.size_append, ByteArray.size_extract]; omega⟩)
     · show s.size - (i + 1) < s.size - i; omega
     · exact (.cons rfl rfl (.cons rfl rfl (.cons rfl (show (.int .i64 ((i : Int) + 1) : Value) = .int .i64 ((i + 1) : Int) from by first | rfl | (congr 1; omega) | (congr 1; simp; done) | (congr 1; simp; omega)) .nil)))
    ·
     refine st_on 23 rfl rfl rfl (o_y (v := .bool false) (y_b (y_k (v := .bool ((s.extract i (i + 1)).toList == (⟨#[47]⟩ : ByteArray).toList)) rfl rfl (fun _ => by kernel_rfl)) (str_f h4)) rfl rfl rfl ?_)
     refine s_y rfl (v := .bool false) (y_pick rfl rfl) rfl ?_
     refine s_nil (q_then (c_false rfl (c_skip (q_then (c_seq (c_seq (c_region ?_)))))))
     refine s_y rfl (v := .string (s.extract i (i + 1))) (y_mv rfl) rfl ?_
     refine e_by (s.extract i (i + 1) = (⟨#[100]⟩ : ByteArray)) (fun h5 => ?_) (fun h5 => ?_)
     ·
      refine s_y rfl (v := .bool false) (y_b (y_k (v := .bool (!((s.extract i (i + 1)).toList == (⟨#[100]⟩ : ByteArray).toList))) rfl rfl (fun _ => by kernel_rfl)) (str_nt h5)) rfl ?_
      refine s_y rfl (v := .bool false) (y_mv rfl) rfl ?_
      refine st_off 34 rfl rfl rfl rfl rfl rfl ?_
      refine st_off 34 rfl rfl rfl rfl rfl rfl ?_
      refine s_y rfl (v := .bool false) (y_pick rfl rfl) rfl ?_
      refine s_y rfl (v := .bool false) (y_mv rfl) rfl ?_
      refine st_on 38 rfl rfl rfl (o_y (v := .int .i64 (i : Int)) (y_mv rfl) rfl rfl rfl ?_)
      refine st_on 38 rfl rfl rfl (o_y (v := .int .i64 ((i : Int) + 1)) (y_add (r := (i : Int) + 1) rfl rfl rfl (by omega)) rfl rfl rfl ?_)
      refine st_on 38 rfl rfl rfl (o_y (v := .string s) (y_mv rfl) rfl rfl rfl ?_)
      refine st_on 38 rfl rfl rfl (o_y (v := .int .i64 (s.size : Int)) (y_k rfl rfl (fun _ => by kernel_rfl)) rfl rfl rfl ?_)
      refine e_by ((i : Int) + 1 = (s.size : Int)) (fun h6 => ?_) (fun h6 => ?_)
      ·
       refine st_on 38 rfl rfl rfl (o_y (v := .bool true) (y_t (y_k (v := .bool (decide ((i : Int) + 1 = (s.size : Int)))) rfl rfl (fun _ => by kernel_rfl)) h6) rfl rfl rfl ?_)
       refine s_y rfl (v := .bool true) (y_pick rfl rfl) rfl ?_
       refine s_y rfl (v := .bool true) (y_mv rfl) rfl ?_
       refine st_off 45 rfl rfl rfl rfl rfl rfl ?_
       refine st_off 45 rfl rfl rfl rfl rfl rfl ?_
       refine st_off 45 rfl rfl rfl rfl rfl rfl ?_
       refine st_off 45 rfl rfl rfl rfl rfl rfl ?_
       refine st_off 45 rfl rfl rfl rfl rfl rfl ?_
       refine s_y rfl (v := .bool true) (y_pick rfl rfl) rfl ?_
       refine s_y rfl (v := .bool true) (y_mv rfl) rfl ?_
       refine st_off 52 rfl rfl rfl rfl rfl rfl ?_
       refine st_off 52 rfl rfl rfl rfl rfl rfl ?_
       refine st_off 52 rfl rfl rfl rfl rfl rfl ?_
       refine st_off 52 rfl rfl rfl rfl rfl rfl ?_
       refine st_off 52 rfl rfl rfl rfl rfl rfl ?_
       refine s_y rfl (v := .bool true) (y_pick rfl rfl) rfl ?_
       refine s_nil (q_then (c_true rfl (c_seq (c_region ?_))))
       refine s_y rfl (v := .string (⟨#[]⟩ : ByteArray)) (y_as rfl) rfl ?_
       refine s_y rfl (v := .bool false) (y_as rfl) rfl ?_
       refine s_nil (q_then (c_ret (q_then_ret (q_block_ret (q_then_ret (q_block_ret (q_then_ret ?_)))))))
       refine c_fin (I' := []) [] [] rfl (.tmp rfl (.tmp rfl .nil)) rfl rfl rfl ?_
       exact .inr ⟨(⟨#[]⟩ : ByteArray), by first | exact sp_nil (by assumption) | exact sp_err hg2 (sp_bad (by omega) (by assumption) (by assumption) (by assumption) (by first | exact .inl ⟨by assumption, by assumption⟩ | exact .inr (.inl (by omega)) | exact .inr (.inr ⟨_, by assumption, by unfold isDg; omega⟩))), by first | exact Nat.zero_le _ | omega, rfl, rfl, rfl⟩
      ·
       refine st_on 38 rfl rfl rfl (o_y (v := .bool false) (y_f (y_k (v := .bool (decide ((i : Int) + 1 = (s.size : Int)))) rfl rfl (fun _ => by kernel_rfl)) h6) rfl rfl rfl ?_)
       refine s_y rfl (v := .bool false) (y_pick rfl rfl) rfl ?_
       refine s_y rfl (v := .bool false) (y_mv rfl) rfl ?_
       refine st_on 45 rfl rfl rfl (o_y (v := .string s) (y_mv rfl) rfl rfl rfl ?_)
       refine st_on 45 rfl rfl rfl (o_y (v := .int .i64 (i : Int)) (y_mv rfl) rfl rfl rfl ?_)
       refine st_on 45 rfl rfl rfl (o_y (v := .int .i64 ((i : Int) + 1)) (y_add (r := (i : Int) + 1) rfl rfl rfl (by omega)) rfl rfl rfl ?_)
       obtain ⟨x1, hb1⟩ : ∃ x, (s)[i + 1]? = some x := ⟨_, getElem?_pos (s) (i + 1) (by omega)⟩
       refine st_on 45 rfl rfl rfl (o_y (v := .int .u8 (x1.toNat : Int)) (y_sidx (i + 1) x1 rfl rfl (rfl) hb1 Tryz.underlying9) rfl rfl rfl ?_)
       refine e_by ((x1.toNat : Int) < 49) (fun h7 => ?_) (fun h7 => ?_)
       ·
        refine st_on 45 rfl rfl rfl (o_y (v := .bool true) (y_t (y_k (v := .bool (decide ((x1.toNat : Int) < 49))) rfl rfl (fun _ => by kernel_rfl)) h7) rfl rfl rfl ?_)
        refine s_y rfl (v := .bool true) (y_pick rfl rfl) rfl ?_
        refine s_y rfl (v := .bool true) (y_mv rfl) rfl ?_
        refine st_off 52 rfl rfl rfl rfl rfl rfl ?_
        refine st_off 52 rfl rfl rfl rfl rfl rfl ?_
        refine st_off 52 rfl rfl rfl rfl rfl rfl ?_
        refine st_off 52 rfl rfl rfl rfl rfl rfl ?_
        refine st_off 52 rfl rfl rfl rfl rfl rfl ?_
        refine s_y rfl (v := .bool true) (y_pick rfl rfl) rfl ?_
        refine s_nil (q_then (c_true rfl (c_seq (c_region ?_))))
        refine s_y rfl (v := .string (⟨#[]⟩ : ByteArray)) (y_as rfl) rfl ?_
        refine s_y rfl (v := .bool false) (y_as rfl) rfl ?_
        refine s_nil (q_then (c_ret (q_then_ret (q_block_ret (q_then_ret (q_block_ret (q_then_ret ?_)))))))
        refine c_fin (I' := []) [] [] rfl (.tmp rfl (.tmp rfl .nil)) rfl rfl rfl ?_
        exact .inr ⟨(⟨#[]⟩ : ByteArray), by first | exact sp_nil (by assumption) | exact sp_err hg2 (sp_bad (by omega) (by assumption) (by assumption) (by assumption) (by first | exact .inl ⟨by assumption, by assumption⟩ | exact .inr (.inl (by omega)) | exact .inr (.inr ⟨_, by assumption, by unfold isDg; omega⟩))), by first | exact Nat.zero_le _ | omega, rfl, rfl, rfl⟩
       ·
        refine st_on 45 rfl rfl rfl (o_y (v := .bool false) (y_f (y_k (v := .bool (decide ((x1.toNat : Int) < 49))) rfl rfl (fun _ => by kernel_rfl)) h7) rfl rfl rfl ?_)
        refine s_y rfl (v := .bool false) (y_pick rfl rfl) rfl ?_
        refine s_y rfl (v := .bool false) (y_mv rfl) rfl ?_
        refine st_on 52 rfl rfl rfl (o_y (v := .string s) (y_mv rfl) rfl rfl rfl ?_)
        refine st_on 52 rfl rfl rfl (o_y (v := .int .i64 (i : Int)) (y_mv rfl) rfl rfl rfl ?_)
        refine st_on 52 rfl rfl rfl (o_y (v := .int .i64 ((i : Int) + 1)) (y_add (r := (i : Int) + 1) rfl rfl rfl (by omega)) rfl rfl rfl ?_)
        refine st_on 52 rfl rfl rfl (o_y (v := .int .u8 (x1.toNat : Int)) (y_sidx (i + 1) x1 rfl rfl (rfl) hb1 Tryz.underlying9) rfl rfl rfl ?_)
        refine e_by ((x1.toNat : Int) > 57) (fun h8 => ?_) (fun h8 => ?_)
        ·
         refine st_on 52 rfl rfl rfl (o_y (v := .bool true) (y_t (y_k (v := .bool (decide ((x1.toNat : Int) > 57))) rfl rfl (fun _ => by kernel_rfl)) h8) rfl rfl rfl ?_)
         refine s_y rfl (v := .bool true) (y_pick rfl rfl) rfl ?_
         refine s_nil (q_then (c_true rfl (c_seq (c_region ?_))))
         refine s_y rfl (v := .string (⟨#[]⟩ : ByteArray)) (y_as rfl) rfl ?_
         refine s_y rfl (v := .bool false) (y_as rfl) rfl ?_
         refine s_nil (q_then (c_ret (q_then_ret (q_block_ret (q_then_ret (q_block_ret (q_then_ret ?_)))))))
         refine c_fin (I' := []) [] [] rfl (.tmp rfl (.tmp rfl .nil)) rfl rfl rfl ?_
         exact .inr ⟨(⟨#[]⟩ : ByteArray), by first | exact sp_nil (by assumption) | exact sp_err hg2 (sp_bad (by omega) (by assumption) (by assumption) (by assumption) (by first | exact .inl ⟨by assumption, by assumption⟩ | exact .inr (.inl (by omega)) | exact .inr (.inr ⟨_, by assumption, by unfold isDg; omega⟩))), by first | exact Nat.zero_le _ | omega, rfl, rfl, rfl⟩
        ·
         refine st_on 52 rfl rfl rfl (o_y (v := .bool false) (y_f (y_k (v := .bool (decide ((x1.toNat : Int) > 57))) rfl rfl (fun _ => by kernel_rfl)) h8) rfl rfl rfl ?_)
         refine s_y rfl (v := .bool false) (y_pick rfl rfl) rfl ?_
         refine s_nil (q_then (c_false rfl (c_skip (q_then (c_seq (c_seq (c_region ?_)))))))
         refine s_y rfl (v := .int .i64 0) (y_as rfl) rfl ?_
         refine s_nil (q_then (c_block ?_))
         refine c_loopn (ι := Nat × ByteArray) (fun (k, o2) => (k ≤ x1.toNat - 48) ∧ (bl o2 = bl o ++ List.replicate k ((bl s).getD i 0)) ∧ (o2.size ≤ 9 * i + k)) (fun (k, o2) => [(0, .string s), (4, .string o2), (5, .int .i64 (i : Int)), (6, .string (s.extract i (i + 1))), (7, .int .i64 (k : Int)), (8, .int .i64 (i : Int)), (9, .string s), (10, .int .i64 (s.size : Int)), (11, .bool true), (12, .string s), (13, .int .i64 (i : Int)), (14, .int .i64 (i : Int)), (15, .int .i64 ((i : Int) + 1)), (16, .string (s.extract i (i + 1))), (17, .string (s.extract i (i + 1))), (18, .bool false), (19, .bool false), (20, .string (s.extract i (i + 1))), (21, .bool false), (22, .bool false), (23, .bool false), (24, .string (s.extract i (i + 1))), (25, .bool false), (26, .bool false), (32, .string (s.extract i (i + 1))), (33, .bool false), (34, .bool false), (35, undef), (36, undef), (37, .bool false), (38, .bool false), (39, .int .i64 (i : Int)), (40, .int .i64 ((i : Int) + 1)), (41, .string s), (42, .int .i64 (s.size : Int)), (43, .bool false), (44, .bool false), (45, .bool false), (46, .string s), (47, .int .i64 (i : Int)), (48, .int .i64 ((i : Int) + 1)), (49, .int .u8 (x1.toNat : Int)), (50, .bool false), (51, .bool false), (52, .bool false), (53, .string s), (54, .int .i64 (i : Int)), (55, .int .i64 ((i : Int) + 1)), (56, .int .u8 (x1.toNat : Int)), (57, .bool false), (58, .bool false)]) (fun (k, o2) => []) (fun (k, o2) => []) (fun (k, o2) => x1.toNat - 48 - k) (0, o) [] [] (show (0 ≤ x1.toNat - 48) ∧ (bl o = bl o ++ List.replicate 0 ((bl s).getD i 0)) ∧ (o.size ≤ 9 * i + 0) from ⟨by first | omega | simp_all | (simp; done), by simp, by first | omega | simp_all | (simp; done)⟩) ((.cons rfl rfl (.cons rfl rfl (.cons rfl rfl (.cons rfl rfl (.cons rfl rfl (.cons rfl rfl (.cons rfl rfl (.cons rfl rfl (.cons rfl rfl (.cons rfl rfl (.cons rfl rfl (.cons rfl rfl (.cons rfl rfl (.cons rfl rfl (.cons rfl rfl (.cons rfl rfl (.cons rfl rfl (.cons rfl rfl (.cons rfl rfl (.cons rfl rfl (.cons rfl rfl (.cons rfl rfl (.cons rfl rfl (.cons rfl rfl (.cons rfl rfl (.cons rfl rfl (.cons rfl rfl (.cons rfl rfl (.cons rfl rfl (.cons rfl rfl (.cons rfl rfl (.cons rfl rfl (.cons rfl rfl (.cons rfl rfl (.cons rfl rfl (.cons rfl rfl (.cons rfl rfl (.cons rfl rfl (.cons rfl rfl (.cons rfl rfl (.cons rfl rfl (.cons rfl rfl (.cons rfl rfl (.cons rfl rfl (.cons rfl rfl (.cons rfl rfl (.cons rfl rfl (.cons rfl rfl (.cons rfl rfl (.cons rfl rfl (.cons rfl rfl .nil)))))))))))))))))))))))))))))))))))))))))))))))))))) rfl rfl ?_
         rintro ⟨k, o2⟩ ⟨hk, hk2, hk3⟩
         show Ent 77 C [(0, .string s), (4, .string o2), (5, .int .i64 (i : Int)), (6, .string (s.extract i (i + 1))), (7, .int .i64 (k : Int)), (8, .int .i64 (i : Int)), (9, .string s), (10, .int .i64 (s.size : Int)), (11, .bool true), (12, .string s), (13, .int .i64 (i : Int)), (14, .int .i64 (i : Int)), (15, .int .i64 ((i : Int) + 1)), (16, .string (s.extract i (i + 1))), (17, .string (s.extract i (i + 1))), (18, .bool false), (19, .bool false), (20, .string (s.extract i (i + 1))), (21, .bool false), (22, .bool false), (23, .bool false), (24, .string (s.extract i (i + 1))), (25, .bool false), (26, .bool false), (32, .string (s.extract i (i + 1))), (33, .bool false), (34, .bool false), (35, undef), (36, undef), (37, .bool false), (38, .bool false), (39, .int .i64 (i : Int)), (40, .int .i64 ((i : Int) + 1)), (41, .string s), (42, .int .i64 (s.size : Int)), (43, .bool false), (44, .bool false), (45, .bool false), (46, .string s), (47, .int .i64 (i : Int)), (48, .int .i64 ((i : Int) + 1)), (49, .int .u8 (x1.toNat : Int)), (50, .bool false), (51, .bool false), (52, .bool false), (53, .string s), (54, .int .i64 (i : Int)), (55, .int .i64 ((i : Int) + 1)), (56, .int .u8 (x1.toNat : Int)), (57, .bool false), (58, .bool false)] [] [] [] _
         refine c_seq (c_seq (c_region ?_))
         refine s_y rfl (v := .int .i64 (k : Int)) (y_mv rfl) rfl ?_
         refine s_y rfl (v := .string s) (y_mv rfl) rfl ?_
         refine s_y rfl (v := .int .i64 (i : Int)) (y_mv rfl) rfl ?_
         refine s_y rfl (v := .int .i64 ((i : Int) + 1)) (y_add (r := (i : Int) + 1) rfl rfl rfl (by omega)) rfl ?_
         refine s_y rfl (v := .int .u8 (x1.toNat : Int)) (y_sidx (i + 1) x1 rfl rfl (rfl) hb1 Tryz.underlying9) rfl ?_
         refine s_y rfl (v := .int .u8 ((x1.toNat : Int) - 48)) (y_sub8 (r := (x1.toNat : Int) - 48) rfl rfl rfl (by first | omega | (have := (x1 : UInt8).toNat_lt; omega))) rfl ?_
         refine s_y rfl (v := .int .i64 ((x1.toNat : Int) - 48)) (y_cvi (r := (x1.toNat : Int) - 48) rfl Tryz.underlying5 Tryz.underlying3 (wrap_in (by have := (x1 : UInt8).toNat_lt; omega) (by have := (x1 : UInt8).toNat_lt; omega))) rfl ?_
         refine e_by ((k : Int) < (x1.toNat : Int) - 48) (fun h9 => ?_) (fun h9 => ?_)
         ·
          refine s_y rfl (v := .bool true) (y_t (y_k (v := .bool (decide ((k : Int) < (x1.toNat : Int) - 48))) rfl rfl (fun _ => by kernel_rfl)) h9) rfl ?_
          refine s_nil (q_then (c_true rfl (c_skip (q_then (c_seq (c_block (c_region ?_)))))))
          refine s_y rfl (v := .string o2) (y_mv rfl) rfl ?_
          refine s_y rfl (v := .string (s.extract i (i + 1))) (y_mv rfl) rfl ?_
          refine s_y rfl (v := .string (o2 ++ (s.extract i (i + 1)))) (y_cat (s := o2) (u := s.extract i (i + 1)) rfl rfl (by rw [ByteArray.size_extract]; omega)) rfl ?_
          refine s_y rfl (v := .string (o2 ++ (s.extract i (i + 1)))) (y_as rfl) rfl ?_
          refine s_nil (q_block (q_then (c_region ?_)))
          refine s_y rfl (v := .int .i64 (k : Int)) (y_mv rfl) rfl ?_
          refine s_y rfl (v := .int .i64 ((k : Int) + 1)) (y_add (r := (k : Int) + 1) rfl rfl rfl (by omega)) rfl ?_
          refine s_y rfl (v := .int .i64 ((k : Int) + 1)) (y_as rfl) rfl ?_
          refine s_nil (q_then ?_)
          refine c_next [] [] (k + 1, o2 ++ (s.extract i (i + 1))) ?_ ?_ ?_ (by rfl) (by rfl)
          · exact (show ((k + 1) ≤ x1.toNat - 48) ∧ (bl (o2 ++ (s.extract i (i + 1))) = bl o ++ List.replicate (k + 1) ((bl s).getD i 0)) ∧ ((o2 ++ (s.extract i (i + 1))).size ≤ 9 * i + (k + 1)) from ⟨by first | omega | simp_all | (simp; done), sp_in hk2 (by omega), by rw [ByteArray.size_append, ByteArray.size_extract]; omega⟩)
          · show x1.toNat - 48 - (k + 1) < x1.toNat - 48 - k; omega
          · exact (.cons rfl rfl (.cons rfl rfl (.cons rfl rfl (.cons rfl rfl (.cons rfl (show (.int .i64 ((k : Int) + 1) : Value) = .int .i64 ((k + 1) : Int) from by first | rfl | (congr 1; omega) | (congr 1; simp; done) | (congr 1; simp; omega)) (.cons rfl rfl (.cons rfl rfl (.cons rfl rfl (.cons rfl rfl (.cons rfl rfl (.cons rfl rfl (.cons rfl rfl (.cons rfl rfl (.cons rfl rfl (.cons rfl rfl (.cons rfl rfl (.cons rfl rfl (.cons rfl rfl (.cons rfl rfl (.cons rfl rfl (.cons rfl rfl (.cons rfl rfl (.cons rfl rfl (.cons rfl rfl (.cons rfl rfl (.cons rfl rfl (.cons rfl rfl (.cons rfl rfl (.cons rfl rfl (.cons rfl rfl (.cons rfl rfl (.cons rfl rfl (.cons rfl rfl (.cons rfl rfl (.cons rfl rfl (.cons rfl rfl (.cons rfl rfl (.cons rfl rfl (.cons rfl rfl (.cons rfl rfl (.cons rfl rfl (.cons rfl rfl (.cons rfl rfl (.cons rfl rfl (.cons rfl rfl (.cons rfl rfl (.cons rfl rfl (.cons rfl rfl (.cons rfl rfl (.cons rfl rfl (.cons rfl rfl .nil)))))))))))))))))))))))))))))))))))))))))))))))))))
         ·
          refine s_y rfl (v := .bool false) (y_f (y_k (v := .bool (decide ((k : Int) < (x1.toNat : Int) - 48))) rfl rfl (fun _ => by kernel_rfl)) h9) rfl ?_
          refine s_nil (q_then (c_false rfl ?_))
          refine c_exit ?_
          refine q_then_exit ?_
          refine q_then_exit ?_
          refine q_block_here ?_
          refine q_then (c_region ?_)
          refine s_y rfl (v := .int .i64 (i : Int)) (y_mv rfl) rfl ?_
          refine s_y rfl (v := .int .i64 ((i : Int) + 2)) (y_add (r := (i : Int) + 2) rfl rfl rfl (by omega)) rfl ?_
          refine s_y rfl (v := .int .i64 ((i : Int) + 2)) (y_as rfl) rfl ?_
          refine s_nil (q_block (q_then ?_))
          refine c_next [] [] (i + 2, o2) ?_ ?_ ?_ (by rfl) (by rfl)
          · exact (show ((i + 2) ≤ s.size) ∧ ((sgnF (bl s)).1 = bl o2 ++ (sgnF ((bl s).drop (i + 2))).1) ∧ ((sgnF (bl s)).2 = (sgnF ((bl s).drop (i + 2))).2) ∧ (o2.size ≤ 9 * (i + 2)) from ⟨by first | omega | simp_all | (simp; done), by have hk0 : k = x1.toNat - 48 := (by omega); subst hk0; rw [hg1, (sp_dig (by omega) (by first | exact .inl (by assumption) | exact .inr (by assumption)) (by assumption : (s)[i + 1]? = some x1) (by unfold isDg; omega)), hk2]; simp, by rw [hg2, (sp_dig (by omega) (by first | exact .inl (by assumption) | exact .inr (by assumption)) (by assumption : (s)[i + 1]? = some x1) (by unfold isDg; omega))], by omega⟩)
          · show s.size - (i + 2) < s.size - i; omega
          · exact (.cons rfl rfl (.cons rfl rfl (.cons rfl (show (.int .i64 ((i : Int) + 2) : Value) = .int .i64 ((i + 2) : Int) from by first | rfl | (congr 1; omega) | (congr 1; simp; done) | (congr 1; simp; omega)) .nil)))
     ·
      refine s_y rfl (v := .bool true) (y_b (y_k (v := .bool (!((s.extract i (i + 1)).toList == (⟨#[100]⟩ : ByteArray).toList))) rfl rfl (fun _ => by kernel_rfl)) (str_nf h5)) rfl ?_
      refine s_y rfl (v := .bool true) (y_mv rfl) rfl ?_
      refine st_on 34 rfl rfl rfl (o_y (v := .string (s.extract i (i + 1))) (y_mv rfl) rfl rfl rfl ?_)
      refine e_by (s.extract i (i + 1) = (⟨#[97]⟩ : ByteArray)) (fun h10 => ?_) (fun h10 => ?_)
      ·
       refine st_on 34 rfl rfl rfl (o_y (v := .bool false) (y_b (y_k (v := .bool (!((s.extract i (i + 1)).toList == (⟨#[97]⟩ : ByteArray).toList))) rfl rfl (fun _ => by kernel_rfl)) (str_nt h10)) rfl rfl rfl ?_)
       refine s_y rfl (v := .bool false) (y_pick rfl rfl) rfl ?_
       refine s_y rfl (v := .bool false) (y_mv rfl) rfl ?_
       refine st_on 38 rfl rfl rfl (o_y (v := .int .i64 (i : Int)) (y_mv rfl) rfl rfl rfl ?_)
       refine st_on 38 rfl rfl rfl (o_y (v := .int .i64 ((i : Int) + 1)) (y_add (r := (i : Int) + 1) rfl rfl rfl (by omega)) rfl rfl rfl ?_)
       refine st_on 38 rfl rfl rfl (o_y (v := .string s) (y_mv rfl) rfl rfl rfl ?_)
       refine st_on 38 rfl rfl rfl (o_y (v := .int .i64 (s.size : Int)) (y_k rfl rfl (fun _ => by kernel_rfl)) rfl rfl rfl ?_)
       refine e_by ((i : Int) + 1 = (s.size : Int)) (fun h11 => ?_) (fun h11 => ?_)
       ·
        refine st_on 38 rfl rfl rfl (o_y (v := .bool true) (y_t (y_k (v := .bool (decide ((i : Int) + 1 = (s.size : Int)))) rfl rfl (fun _ => by kernel_rfl)) h11) rfl rfl rfl ?_)
        refine s_y rfl (v := .bool true) (y_pick rfl rfl) rfl ?_
        refine s_y rfl (v := .bool true) (y_mv rfl) rfl ?_
        refine st_off 45 rfl rfl rfl rfl rfl rfl ?_
        refine st_off 45 rfl rfl rfl rfl rfl rfl ?_
        refine st_off 45 rfl rfl rfl rfl rfl rfl ?_
        refine st_off 45 rfl rfl rfl rfl rfl rfl ?_
        refine st_off 45 rfl rfl rfl rfl rfl rfl ?_
        refine s_y rfl (v := .bool true) (y_pick rfl rfl) rfl ?_
        refine s_y rfl (v := .bool true) (y_mv rfl) rfl ?_
        refine st_off 52 rfl rfl rfl rfl rfl rfl ?_
        refine st_off 52 rfl rfl rfl rfl rfl rfl ?_
        refine st_off 52 rfl rfl rfl rfl rfl rfl ?_
        refine st_off 52 rfl rfl rfl rfl rfl rfl ?_
        refine st_off 52 rfl rfl rfl rfl rfl rfl ?_
        refine s_y rfl (v := .bool true) (y_pick rfl rfl) rfl ?_
        refine s_nil (q_then (c_true rfl (c_seq (c_region ?_))))
        refine s_y rfl (v := .string (⟨#[]⟩ : ByteArray)) (y_as rfl) rfl ?_
        refine s_y rfl (v := .bool false) (y_as rfl) rfl ?_
        refine s_nil (q_then (c_ret (q_then_ret (q_block_ret (q_then_ret (q_block_ret (q_then_ret ?_)))))))
        refine c_fin (I' := []) [] [] rfl (.tmp rfl (.tmp rfl .nil)) rfl rfl rfl ?_
        exact .inr ⟨(⟨#[]⟩ : ByteArray), by first | exact sp_nil (by assumption) | exact sp_err hg2 (sp_bad (by omega) (by assumption) (by assumption) (by assumption) (by first | exact .inl ⟨by assumption, by assumption⟩ | exact .inr (.inl (by omega)) | exact .inr (.inr ⟨_, by assumption, by unfold isDg; omega⟩))), by first | exact Nat.zero_le _ | omega, rfl, rfl, rfl⟩
       ·
        refine st_on 38 rfl rfl rfl (o_y (v := .bool false) (y_f (y_k (v := .bool (decide ((i : Int) + 1 = (s.size : Int)))) rfl rfl (fun _ => by kernel_rfl)) h11) rfl rfl rfl ?_)
        refine s_y rfl (v := .bool false) (y_pick rfl rfl) rfl ?_
        refine s_y rfl (v := .bool false) (y_mv rfl) rfl ?_
        refine st_on 45 rfl rfl rfl (o_y (v := .string s) (y_mv rfl) rfl rfl rfl ?_)
        refine st_on 45 rfl rfl rfl (o_y (v := .int .i64 (i : Int)) (y_mv rfl) rfl rfl rfl ?_)
        refine st_on 45 rfl rfl rfl (o_y (v := .int .i64 ((i : Int) + 1)) (y_add (r := (i : Int) + 1) rfl rfl rfl (by omega)) rfl rfl rfl ?_)
        obtain ⟨x2, hb2⟩ : ∃ x, (s)[i + 1]? = some x := ⟨_, getElem?_pos (s) (i + 1) (by omega)⟩
        refine st_on 45 rfl rfl rfl (o_y (v := .int .u8 (x2.toNat : Int)) (y_sidx (i + 1) x2 rfl rfl (rfl) hb2 Tryz.underlying9) rfl rfl rfl ?_)
        refine e_by ((x2.toNat : Int) < 49) (fun h12 => ?_) (fun h12 => ?_)
        ·
         refine st_on 45 rfl rfl rfl (o_y (v := .bool true) (y_t (y_k (v := .bool (decide ((x2.toNat : Int) < 49))) rfl rfl (fun _ => by kernel_rfl)) h12) rfl rfl rfl ?_)
         refine s_y rfl (v := .bool true) (y_pick rfl rfl) rfl ?_
         refine s_y rfl (v := .bool true) (y_mv rfl) rfl ?_
         refine st_off 52 rfl rfl rfl rfl rfl rfl ?_
         refine st_off 52 rfl rfl rfl rfl rfl rfl ?_
         refine st_off 52 rfl rfl rfl rfl rfl rfl ?_
         refine st_off 52 rfl rfl rfl rfl rfl rfl ?_
         refine st_off 52 rfl rfl rfl rfl rfl rfl ?_
         refine s_y rfl (v := .bool true) (y_pick rfl rfl) rfl ?_
         refine s_nil (q_then (c_true rfl (c_seq (c_region ?_))))
         refine s_y rfl (v := .string (⟨#[]⟩ : ByteArray)) (y_as rfl) rfl ?_
         refine s_y rfl (v := .bool false) (y_as rfl) rfl ?_
         refine s_nil (q_then (c_ret (q_then_ret (q_block_ret (q_then_ret (q_block_ret (q_then_ret ?_)))))))
         refine c_fin (I' := []) [] [] rfl (.tmp rfl (.tmp rfl .nil)) rfl rfl rfl ?_
         exact .inr ⟨(⟨#[]⟩ : ByteArray), by first | exact sp_nil (by assumption) | exact sp_err hg2 (sp_bad (by omega) (by assumption) (by assumption) (by assumption) (by first | exact .inl ⟨by assumption, by assumption⟩ | exact .inr (.inl (by omega)) | exact .inr (.inr ⟨_, by assumption, by unfold isDg; omega⟩))), by first | exact Nat.zero_le _ | omega, rfl, rfl, rfl⟩
        ·
         refine st_on 45 rfl rfl rfl (o_y (v := .bool false) (y_f (y_k (v := .bool (decide ((x2.toNat : Int) < 49))) rfl rfl (fun _ => by kernel_rfl)) h12) rfl rfl rfl ?_)
         refine s_y rfl (v := .bool false) (y_pick rfl rfl) rfl ?_
         refine s_y rfl (v := .bool false) (y_mv rfl) rfl ?_
         refine st_on 52 rfl rfl rfl (o_y (v := .string s) (y_mv rfl) rfl rfl rfl ?_)
         refine st_on 52 rfl rfl rfl (o_y (v := .int .i64 (i : Int)) (y_mv rfl) rfl rfl rfl ?_)
         refine st_on 52 rfl rfl rfl (o_y (v := .int .i64 ((i : Int) + 1)) (y_add (r := (i : Int) + 1) rfl rfl rfl (by omega)) rfl rfl rfl ?_)
         refine st_on 52 rfl rfl rfl (o_y (v := .int .u8 (x2.toNat : Int)) (y_sidx (i + 1) x2 rfl rfl (rfl) hb2 Tryz.underlying9) rfl rfl rfl ?_)
         refine e_by ((x2.toNat : Int) > 57) (fun h13 => ?_) (fun h13 => ?_)
         ·
          refine st_on 52 rfl rfl rfl (o_y (v := .bool true) (y_t (y_k (v := .bool (decide ((x2.toNat : Int) > 57))) rfl rfl (fun _ => by kernel_rfl)) h13) rfl rfl rfl ?_)
          refine s_y rfl (v := .bool true) (y_pick rfl rfl) rfl ?_
          refine s_nil (q_then (c_true rfl (c_seq (c_region ?_))))
          refine s_y rfl (v := .string (⟨#[]⟩ : ByteArray)) (y_as rfl) rfl ?_
          refine s_y rfl (v := .bool false) (y_as rfl) rfl ?_
          refine s_nil (q_then (c_ret (q_then_ret (q_block_ret (q_then_ret (q_block_ret (q_then_ret ?_)))))))
          refine c_fin (I' := []) [] [] rfl (.tmp rfl (.tmp rfl .nil)) rfl rfl rfl ?_
          exact .inr ⟨(⟨#[]⟩ : ByteArray), by first | exact sp_nil (by assumption) | exact sp_err hg2 (sp_bad (by omega) (by assumption) (by assumption) (by assumption) (by first | exact .inl ⟨by assumption, by assumption⟩ | exact .inr (.inl (by omega)) | exact .inr (.inr ⟨_, by assumption, by unfold isDg; omega⟩))), by first | exact Nat.zero_le _ | omega, rfl, rfl, rfl⟩
         ·
          refine st_on 52 rfl rfl rfl (o_y (v := .bool false) (y_f (y_k (v := .bool (decide ((x2.toNat : Int) > 57))) rfl rfl (fun _ => by kernel_rfl)) h13) rfl rfl rfl ?_)
          refine s_y rfl (v := .bool false) (y_pick rfl rfl) rfl ?_
          refine s_nil (q_then (c_false rfl (c_skip (q_then (c_seq (c_seq (c_region ?_)))))))
          refine s_y rfl (v := .int .i64 0) (y_as rfl) rfl ?_
          refine s_nil (q_then (c_block ?_))
          refine c_loopn (ι := Nat × ByteArray) (fun (k, o2) => (k ≤ x2.toNat - 48) ∧ (bl o2 = bl o ++ List.replicate k ((bl s).getD i 0)) ∧ (o2.size ≤ 9 * i + k)) (fun (k, o2) => [(0, .string s), (4, .string o2), (5, .int .i64 (i : Int)), (6, .string (s.extract i (i + 1))), (7, .int .i64 (k : Int)), (8, .int .i64 (i : Int)), (9, .string s), (10, .int .i64 (s.size : Int)), (11, .bool true), (12, .string s), (13, .int .i64 (i : Int)), (14, .int .i64 (i : Int)), (15, .int .i64 ((i : Int) + 1)), (16, .string (s.extract i (i + 1))), (17, .string (s.extract i (i + 1))), (18, .bool false), (19, .bool false), (20, .string (s.extract i (i + 1))), (21, .bool false), (22, .bool false), (23, .bool false), (24, .string (s.extract i (i + 1))), (25, .bool false), (26, .bool false), (32, .string (s.extract i (i + 1))), (33, .bool true), (34, .bool true), (35, .string (s.extract i (i + 1))), (36, .bool false), (37, .bool false), (38, .bool false), (39, .int .i64 (i : Int)), (40, .int .i64 ((i : Int) + 1)), (41, .string s), (42, .int .i64 (s.size : Int)), (43, .bool false), (44, .bool false), (45, .bool false), (46, .string s), (47, .int .i64 (i : Int)), (48, .int .i64 ((i : Int) + 1)), (49, .int .u8 (x2.toNat : Int)), (50, .bool false), (51, .bool false), (52, .bool false), (53, .string s), (54, .int .i64 (i : Int)), (55, .int .i64 ((i : Int) + 1)), (56, .int .u8 (x2.toNat : Int)), (57, .bool false), (58, .bool false)]) (fun (k, o2) => []) (fun (k, o2) => []) (fun (k, o2) => x2.toNat - 48 - k) (0, o) [] [] (show (0 ≤ x2.toNat - 48) ∧ (bl o = bl o ++ List.replicate 0 ((bl s).getD i 0)) ∧ (o.size ≤ 9 * i + 0) from ⟨by first | omega | simp_all | (simp; done), by simp, by first | omega | simp_all | (simp; done)⟩) ((.cons rfl rfl (.cons rfl rfl (.cons rfl rfl (.cons rfl rfl (.cons rfl rfl (.cons rfl rfl (.cons rfl rfl (.cons rfl rfl (.cons rfl rfl (.cons rfl rfl (.cons rfl rfl (.cons rfl rfl (.cons rfl rfl (.cons rfl rfl (.cons rfl rfl (.cons rfl rfl (.cons rfl rfl (.cons rfl rfl (.cons rfl rfl (.cons rfl rfl (.cons rfl rfl (.cons rfl rfl (.cons rfl rfl (.cons rfl rfl (.cons rfl rfl (.cons rfl rfl (.cons rfl rfl (.cons rfl rfl (.cons rfl rfl (.cons rfl rfl (.cons rfl rfl (.cons rfl rfl (.cons rfl rfl (.cons rfl rfl (.cons rfl rfl (.cons rfl rfl (.cons rfl rfl (.cons rfl rfl (.cons rfl rfl (.cons rfl rfl (.cons rfl rfl (.cons rfl rfl (.cons rfl rfl (.cons rfl rfl (.cons rfl rfl (.cons rfl rfl (.cons rfl rfl (.cons rfl rfl (.cons rfl rfl (.cons rfl rfl (.cons rfl rfl .nil)))))))))))))))))))))))))))))))))))))))))))))))))))) rfl rfl ?_
          rintro ⟨k, o2⟩ ⟨hk, hk2, hk3⟩
          show Ent 77 C [(0, .string s), (4, .string o2), (5, .int .i64 (i : Int)), (6, .string (s.extract i (i + 1))), (7, .int .i64 (k : Int)), (8, .int .i64 (i : Int)), (9, .string s), (10, .int .i64 (s.size : Int)), (11, .bool true), (12, .string s), (13, .int .i64 (i : Int)), (14, .int .i64 (i : Int)), (15, .int .i64 ((i : Int) + 1)), (16, .string (s.extract i (i + 1))), (17, .string (s.extract i (i + 1))), (18, .bool false), (19, .bool false), (20, .string (s.extract i (i + 1))), (21, .bool false), (22, .bool false), (23, .bool false), (24, .string (s.extract i (i + 1))), (25, .bool false), (26, .bool false), (32, .string (s.extract i (i + 1))), (33, .bool true), (34, .bool true), (35, .string (s.extract i (i + 1))), (36, .bool false), (37, .bool false), (38, .bool false), (39, .int .i64 (i : Int)), (40, .int .i64 ((i : Int) + 1)), (41, .string s), (42, .int .i64 (s.size : Int)), (43, .bool false), (44, .bool false), (45, .bool false), (46, .string s), (47, .int .i64 (i : Int)), (48, .int .i64 ((i : Int) + 1)), (49, .int .u8 (x2.toNat : Int)), (50, .bool false), (51, .bool false), (52, .bool false), (53, .string s), (54, .int .i64 (i : Int)), (55, .int .i64 ((i : Int) + 1)), (56, .int .u8 (x2.toNat : Int)), (57, .bool false), (58, .bool false)] [] [] [] _
          refine c_seq (c_seq (c_region ?_))
          refine s_y rfl (v := .int .i64 (k : Int)) (y_mv rfl) rfl ?_
          refine s_y rfl (v := .string s) (y_mv rfl) rfl ?_
          refine s_y rfl (v := .int .i64 (i : Int)) (y_mv rfl) rfl ?_
          refine s_y rfl (v := .int .i64 ((i : Int) + 1)) (y_add (r := (i : Int) + 1) rfl rfl rfl (by omega)) rfl ?_
          refine s_y rfl (v := .int .u8 (x2.toNat : Int)) (y_sidx (i + 1) x2 rfl rfl (rfl) hb2 Tryz.underlying9) rfl ?_
          refine s_y rfl (v := .int .u8 ((x2.toNat : Int) - 48)) (y_sub8 (r := (x2.toNat : Int) - 48) rfl rfl rfl (by first | omega | (have := (x2 : UInt8).toNat_lt; omega))) rfl ?_
          refine s_y rfl (v := .int .i64 ((x2.toNat : Int) - 48)) (y_cvi (r := (x2.toNat : Int) - 48) rfl Tryz.underlying5 Tryz.underlying3 (wrap_in (by have := (x2 : UInt8).toNat_lt; omega) (by have := (x2 : UInt8).toNat_lt; omega))) rfl ?_
          refine e_by ((k : Int) < (x2.toNat : Int) - 48) (fun h14 => ?_) (fun h14 => ?_)
          ·
           refine s_y rfl (v := .bool true) (y_t (y_k (v := .bool (decide ((k : Int) < (x2.toNat : Int) - 48))) rfl rfl (fun _ => by kernel_rfl)) h14) rfl ?_
           refine s_nil (q_then (c_true rfl (c_skip (q_then (c_seq (c_block (c_region ?_)))))))
           refine s_y rfl (v := .string o2) (y_mv rfl) rfl ?_
           refine s_y rfl (v := .string (s.extract i (i + 1))) (y_mv rfl) rfl ?_
           refine s_y rfl (v := .string (o2 ++ (s.extract i (i + 1)))) (y_cat (s := o2) (u := s.extract i (i + 1)) rfl rfl (by rw [ByteArray.size_extract]; omega)) rfl ?_
           refine s_y rfl (v := .string (o2 ++ (s.extract i (i + 1)))) (y_as rfl) rfl ?_
           refine s_nil (q_block (q_then (c_region ?_)))
           refine s_y rfl (v := .int .i64 (k : Int)) (y_mv rfl) rfl ?_
           refine s_y rfl (v := .int .i64 ((k : Int) + 1)) (y_add (r := (k : Int) + 1) rfl rfl rfl (by omega)) rfl ?_
           refine s_y rfl (v := .int .i64 ((k : Int) + 1)) (y_as rfl) rfl ?_
           refine s_nil (q_then ?_)
           refine c_next [] [] (k + 1, o2 ++ (s.extract i (i + 1))) ?_ ?_ ?_ (by rfl) (by rfl)
           · exact (show ((k + 1) ≤ x2.toNat - 48) ∧ (bl (o2 ++ (s.extract i (i + 1))) = bl o ++ List.replicate (k + 1) ((bl s).getD i 0)) ∧ ((o2 ++ (s.extract i (i + 1))).size ≤ 9 * i + (k + 1)) from ⟨by first | omega | simp_all | (simp; done), sp_in hk2 (by omega), by rw [ByteArray.size_append, ByteArray.size_extract]; omega⟩)
           · show x2.toNat - 48 - (k + 1) < x2.toNat - 48 - k; omega
           · exact (.cons rfl rfl (.cons rfl rfl (.cons rfl rfl (.cons rfl rfl (.cons rfl (show (.int .i64 ((k : Int) + 1) : Value) = .int .i64 ((k + 1) : Int) from by first | rfl | (congr 1; omega) | (congr 1; simp; done) | (congr 1; simp; omega)) (.cons rfl rfl (.cons rfl rfl (.cons rfl rfl (.cons rfl rfl (.cons rfl rfl (.cons rfl rfl (.cons rfl rfl (.cons rfl rfl (.cons rfl rfl (.cons rfl rfl (.cons rfl rfl (.cons rfl rfl (.cons rfl rfl (.cons rfl rfl (.cons rfl rfl (.cons rfl rfl (.cons rfl rfl (.cons rfl rfl (.cons rfl rfl (.cons rfl rfl (.cons rfl rfl (.cons rfl rfl (.cons rfl rfl (.cons rfl rfl (.cons rfl rfl (.cons rfl rfl (.cons rfl rfl (.cons rfl rfl (.cons rfl rfl (.cons rfl rfl (.cons rfl rfl (.cons rfl rfl (.cons rfl rfl (.cons rfl rfl (.cons rfl rfl (.cons rfl rfl (.cons rfl rfl (.cons rfl rfl (.cons rfl rfl (.cons rfl rfl (.cons rfl rfl (.cons rfl rfl (.cons rfl rfl (.cons rfl rfl (.cons rfl rfl (.cons rfl rfl .nil)))))))))))))))))))))))))))))))))))))))))))))))))))
          ·
           refine s_y rfl (v := .bool false) (y_f (y_k (v := .bool (decide ((k : Int) < (x2.toNat : Int) - 48))) rfl rfl (fun _ => by kernel_rfl)) h14) rfl ?_
           refine s_nil (q_then (c_false rfl ?_))
           refine c_exit ?_
           refine q_then_exit ?_
           refine q_then_exit ?_
           refine q_block_here ?_
           refine q_then (c_region ?_)
           refine s_y rfl (v := .int .i64 (i : Int)) (y_mv rfl) rfl ?_
           refine s_y rfl (v := .int .i64 ((i : Int) + 2)) (y_add (r := (i : Int) + 2) rfl rfl rfl (by omega)) rfl ?_
           refine s_y rfl (v := .int .i64 ((i : Int) + 2)) (y_as rfl) rfl ?_
           refine s_nil (q_block (q_then ?_))
           refine c_next [] [] (i + 2, o2) ?_ ?_ ?_ (by rfl) (by rfl)
           · exact (show ((i + 2) ≤ s.size) ∧ ((sgnF (bl s)).1 = bl o2 ++ (sgnF ((bl s).drop (i + 2))).1) ∧ ((sgnF (bl s)).2 = (sgnF ((bl s).drop (i + 2))).2) ∧ (o2.size ≤ 9 * (i + 2)) from ⟨by first | omega | simp_all | (simp; done), by have hk0 : k = x2.toNat - 48 := (by omega); subst hk0; rw [hg1, (sp_dig (by omega) (by first | exact .inl (by assumption) | exact .inr (by assumption)) (by assumption : (s)[i + 1]? = some x2) (by unfold isDg; omega)), hk2]; simp, by rw [hg2, (sp_dig (by omega) (by first | exact .inl (by assumption) | exact .inr (by assumption)) (by assumption : (s)[i + 1]? = some x2) (by unfold isDg; omega))], by omega⟩)
           · show s.size - (i + 2) < s.size - i; omega
           · exact (.cons rfl rfl (.cons rfl rfl (.cons rfl (show (.int .i64 ((i : Int) + 2) : Value) = .int .i64 ((i + 2) : Int) from by first | rfl | (congr 1; omega) | (congr 1; simp; done) | (congr 1; simp; omega)) .nil)))
      ·
       refine st_on 34 rfl rfl rfl (o_y (v := .bool true) (y_b (y_k (v := .bool (!((s.extract i (i + 1)).toList == (⟨#[97]⟩ : ByteArray).toList))) rfl rfl (fun _ => by kernel_rfl)) (str_nf h10)) rfl rfl rfl ?_)
       refine s_y rfl (v := .bool true) (y_pick rfl rfl) rfl ?_
       refine s_y rfl (v := .bool true) (y_mv rfl) rfl ?_
       refine st_off 38 rfl rfl rfl rfl rfl rfl ?_
       refine st_off 38 rfl rfl rfl rfl rfl rfl ?_
       refine st_off 38 rfl rfl rfl rfl rfl rfl ?_
       refine st_off 38 rfl rfl rfl rfl rfl rfl ?_
       refine st_off 38 rfl rfl rfl rfl rfl rfl ?_
       refine s_y rfl (v := .bool true) (y_pick rfl rfl) rfl ?_
       refine s_y rfl (v := .bool true) (y_mv rfl) rfl ?_
       refine st_off 45 rfl rfl rfl rfl rfl rfl ?_
       refine st_off 45 rfl rfl rfl rfl rfl rfl ?_
       refine st_off 45 rfl rfl rfl rfl rfl rfl ?_
       refine st_off 45 rfl rfl rfl rfl rfl rfl ?_
       refine st_off 45 rfl rfl rfl rfl rfl rfl ?_
       refine s_y rfl (v := .bool true) (y_pick rfl rfl) rfl ?_
       refine s_y rfl (v := .bool true) (y_mv rfl) rfl ?_
       refine st_off 52 rfl rfl rfl rfl rfl rfl ?_
       refine st_off 52 rfl rfl rfl rfl rfl rfl ?_
       refine st_off 52 rfl rfl rfl rfl rfl rfl ?_
       refine st_off 52 rfl rfl rfl rfl rfl rfl ?_
       refine st_off 52 rfl rfl rfl rfl rfl rfl ?_
       refine s_y rfl (v := .bool true) (y_pick rfl rfl) rfl ?_
       refine s_nil (q_then (c_true rfl (c_seq (c_region ?_))))
       refine s_y rfl (v := .string (⟨#[]⟩ : ByteArray)) (y_as rfl) rfl ?_
       refine s_y rfl (v := .bool false) (y_as rfl) rfl ?_
       refine s_nil (q_then (c_ret (q_then_ret (q_block_ret (q_then_ret (q_block_ret (q_then_ret ?_)))))))
       refine c_fin (I' := []) [] [] rfl (.tmp rfl (.tmp rfl .nil)) rfl rfl rfl ?_
       exact .inr ⟨(⟨#[]⟩ : ByteArray), by first | exact sp_nil (by assumption) | exact sp_err hg2 (sp_bad (by omega) (by assumption) (by assumption) (by assumption) (by first | exact .inl ⟨by assumption, by assumption⟩ | exact .inr (.inl (by omega)) | exact .inr (.inr ⟨_, by assumption, by unfold isDg; omega⟩))), by first | exact Nat.zero_le _ | omega, rfl, rfl, rfl⟩
 ·
  refine s_y rfl (v := .bool false) (y_f (y_k (v := .bool (decide ((i : Int) < (s.size : Int)))) rfl rfl (fun _ => by kernel_rfl)) h1) rfl ?_
  refine s_nil (q_then (c_false rfl ?_))
  refine c_exit ?_
  refine q_then_exit ?_
  refine q_then_exit ?_
  refine q_block_here ?_
  refine q_then (c_seq (c_region ?_))
  refine s_y rfl (v := .string o) (y_mv rfl) rfl ?_
  refine s_y rfl (v := .string s) (y_mv rfl) rfl ?_
  refine e_by (s = (⟨#[]⟩ : ByteArray)) (fun h15 => ?_) (fun h15 => ?_)
  ·
   refine s_y rfl (v := .bool false) (y_b (y_k (v := .bool (!(s.toList == (⟨#[]⟩ : ByteArray).toList))) rfl rfl (fun _ => by kernel_rfl)) (str_nt h15)) rfl ?_
   refine s_y rfl (v := .string o) (y_as rfl) rfl ?_
   refine s_y rfl (v := .bool false) (y_as rfl) rfl ?_
   refine s_nil (q_then (c_ret ?_))
   refine c_fin (I' := []) [] [] rfl (.tmp rfl (.tmp rfl .nil)) rfl rfl rfl ?_
   exact .inr ⟨o, by first | exact sp_nil (by assumption) | exact sp_err hg2 (sp_bad (by omega) (by assumption) (by assumption) (by assumption) (by first | exact .inl ⟨by assumption, by assumption⟩ | exact .inr (.inl (by omega)) | exact .inr (.inr ⟨_, by assumption, by unfold isDg; omega⟩))), by first | exact Nat.zero_le _ | omega, rfl, rfl, rfl⟩
  ·
   refine s_y rfl (v := .bool true) (y_b (y_k (v := .bool (!(s.toList == (⟨#[]⟩ : ByteArray).toList))) rfl rfl (fun _ => by kernel_rfl)) (str_nf h15)) rfl ?_
   refine s_y rfl (v := .string o) (y_as rfl) rfl ?_
   refine s_y rfl (v := .bool true) (y_as rfl) rfl ?_
   refine s_nil (q_then (c_ret ?_))
   refine c_fin (I' := []) [] [] rfl (.tmp rfl (.tmp rfl .nil)) rfl rfl rfl ?_
   exact .inl ⟨sp_end1 hg2 (by omega) (by assumption), by simp only [packed]; rw [sp_end2 hg1 hg2 (by omega) (by assumption)], rfl, rfl⟩
end Go.Proofs.YthehnjbdkjnlpaaGreatDoor
