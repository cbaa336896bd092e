/- The laws of chapter 15 (journal), walked over the given program; no condition but what stands in each theorem: part RB. -/
import Derived.Test.YthehnjbdkjnlpaaDoorRFF
import Derived.Test.YthehnjbdkjnlpaaDoorRFK
import Derived.Test.YthehnjbdkjnlpaaDoorRRA
set_option linter.unusedVariables false
set_option linter.unusedSimpArgs false
set_option maxRecDepth 100000
set_option maxHeartbeats 8000000
namespace Go.Proofs.YthehnjbdkjnlpaaDoor
open Go Go.Sl Go.RowKit Go.Extern.Stop Go.Stop Go.Extern
theorem isRule_ (r : Rul) (ef : Addr) (hsm : rulSm r) : Con Tryd.prog 71 [.agg #[.int .i64 r.id, .int .i64 r.fr.lv, .int .u64 (r.fr.cs : Int), .int .i64 r.fr.ig, .int .i64 r.to.lv, .int .u64 (r.to.cs : Int), .int .i64 r.to.ig, .int .i64 r.bu, .int .i64 r.wh.kd, .int .i64 r.wh.mx, .string r.wh.fm]] [] [cellsAt 2 0 [.iface 154 (.pointer (some ef))], errAt ef] (fun v L' I' => v = .bool (decide (rulOk r)) ∧ L' = [] ∧ I' = []) := by
 refine fn_of Tryd.func71 rfl Tryd.ntmps71 (by kernel_rfl) rfl (fun C => ?_)
 refine c_seq (c_region ?_)
 refine st rfl (o_box (cs := [.int .i64 r.id, .int .i64 r.fr.lv, .int .u64 (r.fr.cs : Int), .int .i64 r.fr.ig, .int .i64 r.to.lv, .int .u64 (r.to.cs : Int), .int .i64 r.to.ig, .int .i64 r.bu, .int .i64 r.wh.kd, .int .i64 r.wh.mx, .string r.wh.fm]) (T := 41) rfl rfl rfl rfl (fun _ => by kernel_rfl) (fun b1 => ?_))
 refine s_y rfl (v := .bool false) (y_as rfl) rfl ?_
 refine s_nil (q_then (c_seq (c_region ?_)))
 refine s_y rfl (v := .pointer (some ⟨b1, 0, none⟩)) (y_k rfl rfl (fun _ => by kernel_rfl)) rfl ?_
 refine st rfl (o_ld 0 rfl rfl rfl Tryd.underlying3 rfl rfl ?_)
 refine e_by (r.id ≥ 1) (fun h1 => ?_) (fun h1 => ?_)
 ·
  refine s_y rfl (v := .bool true) (y_t (y_k (v := .bool (decide (r.id ≥ 1))) rfl rfl (fun _ => by kernel_rfl)) h1) rfl ?_
  refine s_y rfl (v := .bool true) (y_mv rfl) rfl ?_
  refine st_on 6 rfl rfl rfl (o_y (v := .pointer (some ⟨b1, 0, none⟩)) (y_k rfl rfl (fun _ => by kernel_rfl)) rfl rfl rfl ?_)
  refine st_on 6 rfl rfl rfl (o_ld 0 rfl rfl rfl Tryd.underlying3 rfl rfl ?_)
  refine e_by (r.id ≤ 99) (fun h2 => ?_) (fun h2 => ?_)
  ·
   refine st_on 6 rfl rfl rfl (o_y (v := .bool true) (y_t (y_k (v := .bool (decide (r.id ≤ 99))) rfl rfl (fun _ => by kernel_rfl)) h2) rfl rfl rfl ?_)
   refine s_y rfl (v := .bool true) (y_pick rfl rfl) rfl ?_
   refine s_y rfl (v := .bool true) (y_mv rfl) rfl ?_
   refine st_on 11 rfl rfl rfl (o_y (v := .pointer (some ⟨b1, 1, none⟩)) (y_k rfl rfl (fun _ => by kernel_rfl)) rfl rfl rfl ?_)
   refine st_on 11 rfl rfl rfl (o_ldn 0 3 rfl rfl rfl rfl Tryd.underlying26 rfl (by kernel_rfl) (by kernel_rfl) rfl ?_)
   refine st_on 11 rfl rfl rfl (o_call [] [] (labRight_ r.fr) rfl rfl rfl rfl rfl rfl (fun v L' I' hq1 => ?_))
   obtain ⟨hv1, rfl, rfl⟩ := hq1
   refine e_by (labRight r.fr) (fun h3 => ?_) (fun h3 => ?_)
   ·
    obtain rfl : v = .bool true := by rw [hv1, decide_eq_true h3]
    refine s_y rfl (v := .bool true) (y_pick rfl rfl) rfl ?_
    refine s_y rfl (v := .bool true) (y_mv rfl) rfl ?_
    refine st_on 16 rfl rfl rfl (o_y (v := .pointer (some ⟨b1, 4, none⟩)) (y_k rfl rfl (fun _ => by kernel_rfl)) rfl rfl rfl ?_)
    refine st_on 16 rfl rfl rfl (o_ldn 0 3 rfl rfl rfl rfl Tryd.underlying26 rfl (by kernel_rfl) (by kernel_rfl) rfl ?_)
    refine st_on 16 rfl rfl rfl (o_call [] [] (labRight_ r.to) rfl rfl rfl rfl rfl rfl (fun v L' I' hq2 => ?_))
    obtain ⟨hv2, rfl, rfl⟩ := hq2
    refine e_by (labRight r.to) (fun h4 => ?_) (fun h4 => ?_)
    ·
     obtain rfl : v = .bool true := by rw [hv2, decide_eq_true h4]
     refine s_y rfl (v := .bool true) (y_pick rfl rfl) rfl ?_
     refine s_y rfl (v := .bool true) (y_mv rfl) rfl ?_
     refine st_on 21 rfl rfl rfl (o_y (v := .pointer (some ⟨b1, 1, none⟩)) (y_k rfl rfl (fun _ => by kernel_rfl)) rfl rfl rfl ?_)
     refine st_on 21 rfl rfl rfl (o_ldn 0 3 rfl rfl rfl rfl Tryd.underlying26 rfl (by kernel_rfl) (by kernel_rfl) rfl ?_)
     refine st_on 21 rfl rfl rfl (o_y (v := .pointer (some ⟨b1, 4, none⟩)) (y_k rfl rfl (fun _ => by kernel_rfl)) rfl rfl rfl ?_)
     refine st_on 21 rfl rfl rfl (o_ldn 0 3 rfl rfl rfl rfl Tryd.underlying26 rfl (by kernel_rfl) (by kernel_rfl) rfl ?_)
     refine e_by (r.fr = r.to) (fun h5 => ?_) (fun h5 => ?_)
     ·
      refine st_on 21 rfl rfl rfl (o_y (v := .bool false) (y_nt (y_bin rfl rfl (fun w => eq_Labn r.fr r.to w)) h5) rfl rfl rfl ?_)
      refine s_y rfl (v := .bool false) (y_pick rfl rfl) rfl ?_
      refine s_y rfl (v := .bool false) (y_mv rfl) rfl ?_
      refine st_off 28 rfl rfl rfl rfl rfl rfl ?_
      refine st_off 28 rfl rfl rfl rfl rfl rfl ?_
      refine st_off 28 rfl rfl rfl rfl rfl rfl ?_
      refine s_y rfl (v := .bool false) (y_pick rfl rfl) rfl ?_
      refine s_y rfl (v := .bool false) (y_mv rfl) rfl ?_
      refine st_off 33 rfl rfl rfl rfl rfl rfl ?_
      refine st_off 33 rfl rfl rfl rfl rfl rfl ?_
      refine st_off 33 rfl rfl rfl rfl rfl rfl ?_
      refine s_y rfl (v := .bool false) (y_pick rfl rfl) rfl ?_
      refine s_y rfl (v := .bool false) (y_mv rfl) rfl ?_
      refine st_off 38 rfl rfl rfl rfl rfl rfl ?_
      refine st_off 38 rfl rfl rfl rfl rfl rfl ?_
      refine st_off 38 rfl rfl rfl rfl rfl rfl ?_
      refine s_y rfl (v := .bool false) (y_pick rfl rfl) rfl ?_
      refine s_y rfl (v := .bool false) (y_as rfl) rfl ?_
      refine s_nil (q_then (c_ret ?_))
      refine c_fin (I' := []) [] [0, 1] rfl (.tmp rfl .nil) rfl rfl rfl ?_
      exact ⟨dec_f (by unfold rulOk; first | omega | exact ⟨⟨by omega, by omega⟩, by assumption, by assumption, by assumption, ⟨by omega, by omega⟩, by assumption⟩ | (rintro ⟨_, _, _, _, _, q⟩; exact absurd q (by assumption)) | (rintro ⟨_, q, _⟩; exact absurd q (by assumption)) | (rintro ⟨_, _, q, _⟩; exact absurd q (by assumption)) | (rintro ⟨_, _, _, q, _⟩; exact absurd (by assumption) q)), rfl, rfl⟩
     ·
      refine st_on 21 rfl rfl rfl (o_y (v := .bool true) (y_nf (y_bin rfl rfl (fun w => eq_Labn r.fr r.to w)) h5) rfl rfl rfl ?_)
      refine s_y rfl (v := .bool true) (y_pick rfl rfl) rfl ?_
      refine s_y rfl (v := .bool true) (y_mv rfl) rfl ?_
      refine st_on 28 rfl rfl rfl (o_y (v := .pointer (some ⟨b1, 7, none⟩)) (y_k rfl rfl (fun _ => by kernel_rfl)) rfl rfl rfl ?_)
      refine st_on 28 rfl rfl rfl (o_ld 0 rfl rfl rfl Tryd.underlying3 rfl rfl ?_)
      refine e_by (r.bu ≥ 0) (fun h6 => ?_) (fun h6 => ?_)
      ·
       refine st_on 28 rfl rfl rfl (o_y (v := .bool true) (y_t (y_k (v := .bool (decide (r.bu ≥ 0))) rfl rfl (fun _ => by kernel_rfl)) h6) rfl rfl rfl ?_)
       refine s_y rfl (v := .bool true) (y_pick rfl rfl) rfl ?_
       refine s_y rfl (v := .bool true) (y_mv rfl) rfl ?_
       refine st_on 33 rfl rfl rfl (o_y (v := .pointer (some ⟨b1, 7, none⟩)) (y_k rfl rfl (fun _ => by kernel_rfl)) rfl rfl rfl ?_)
       refine st_on 33 rfl rfl rfl (o_ld 0 rfl rfl rfl Tryd.underlying3 rfl rfl ?_)
       refine e_by (r.bu ≤ 1000) (fun h7 => ?_) (fun h7 => ?_)
       ·
        refine st_on 33 rfl rfl rfl (o_y (v := .bool true) (y_t (y_k (v := .bool (decide (r.bu ≤ 1000))) rfl rfl (fun _ => by kernel_rfl)) h7) rfl rfl rfl ?_)
        refine s_y rfl (v := .bool true) (y_pick rfl rfl) rfl ?_
        refine s_y rfl (v := .bool true) (y_mv rfl) rfl ?_
        refine st_on 38 rfl rfl rfl (o_y (v := .pointer (some ⟨b1, 8, none⟩)) (y_k rfl rfl (fun _ => by kernel_rfl)) rfl rfl rfl ?_)
        refine st_on 38 rfl rfl rfl (o_ldn 0 3 rfl rfl rfl rfl Tryd.underlying39 rfl (by kernel_rfl) (by kernel_rfl) rfl ?_)
        refine st_on 38 rfl rfl rfl (o_call [] [0, 1] (fRight_ r.wh ef (by unfold rulSm at hsm; omega)) rfl rfl rfl rfl rfl rfl (fun v L' I' hq3 => ?_))
        obtain ⟨hv3, rfl, rfl⟩ := hq3
        refine e_by (filR r.wh) (fun h8 => ?_) (fun h8 => ?_)
        ·
         obtain rfl : v = .bool true := by rw [hv3, decide_eq_true h8]
         refine s_y rfl (v := .bool true) (y_pick rfl rfl) rfl ?_
         refine s_y rfl (v := .bool true) (y_as rfl) rfl ?_
         refine s_nil (q_then (c_ret ?_))
         refine c_fin (I' := []) [] [0, 1] rfl (.tmp rfl .nil) rfl rfl rfl ?_
         exact ⟨dec_t (by unfold rulOk; first | omega | exact ⟨⟨by omega, by omega⟩, by assumption, by assumption, by assumption, ⟨by omega, by omega⟩, by assumption⟩ | (rintro ⟨_, _, _, _, _, q⟩; exact absurd q (by assumption)) | (rintro ⟨_, q, _⟩; exact absurd q (by assumption)) | (rintro ⟨_, _, q, _⟩; exact absurd q (by assumption)) | (rintro ⟨_, _, _, q, _⟩; exact absurd (by assumption) q)), rfl, rfl⟩
        ·
         obtain rfl : v = .bool false := by rw [hv3, decide_eq_false h8]
         refine s_y rfl (v := .bool false) (y_pick rfl rfl) rfl ?_
         refine s_y rfl (v := .bool false) (y_as rfl) rfl ?_
         refine s_nil (q_then (c_ret ?_))
         refine c_fin (I' := []) [] [0, 1] rfl (.tmp rfl .nil) rfl rfl rfl ?_
         exact ⟨dec_f (by unfold rulOk; first | omega | exact ⟨⟨by omega, by omega⟩, by assumption, by assumption, by assumption, ⟨by omega, by omega⟩, by assumption⟩ | (rintro ⟨_, _, _, _, _, q⟩; exact absurd q (by assumption)) | (rintro ⟨_, q, _⟩; exact absurd q (by assumption)) | (rintro ⟨_, _, q, _⟩; exact absurd q (by assumption)) | (rintro ⟨_, _, _, q, _⟩; exact absurd (by assumption) q)), rfl, rfl⟩
       ·
        refine st_on 33 rfl rfl rfl (o_y (v := .bool false) (y_f (y_k (v := .bool (decide (r.bu ≤ 1000))) rfl rfl (fun _ => by kernel_rfl)) h7) rfl rfl rfl ?_)
        refine s_y rfl (v := .bool false) (y_pick rfl rfl) rfl ?_
        refine s_y rfl (v := .bool false) (y_mv rfl) rfl ?_
        refine st_off 38 rfl rfl rfl rfl rfl rfl ?_
        refine st_off 38 rfl rfl rfl rfl rfl rfl ?_
        refine st_off 38 rfl rfl rfl rfl rfl rfl ?_
        refine s_y rfl (v := .bool false) (y_pick rfl rfl) rfl ?_
        refine s_y rfl (v := .bool false) (y_as rfl) rfl ?_
        refine s_nil (q_then (c_ret ?_))
        refine c_fin (I' := []) [] [0, 1] rfl (.tmp rfl .nil) rfl rfl rfl ?_
        exact ⟨dec_f (by unfold rulOk; first | omega | exact ⟨⟨by omega, by omega⟩, by assumption, by assumption, by assumption, ⟨by omega, by omega⟩, by assumption⟩ | (rintro ⟨_, _, _, _, _, q⟩; exact absurd q (by assumption)) | (rintro ⟨_, q, _⟩; exact absurd q (by assumption)) | (rintro ⟨_, _, q, _⟩; exact absurd q (by assumption)) | (rintro ⟨_, _, _, q, _⟩; exact absurd (by assumption) q)), rfl, rfl⟩
      ·
       refine st_on 28 rfl rfl rfl (o_y (v := .bool false) (y_f (y_k (v := .bool (decide (r.bu ≥ 0))) rfl rfl (fun _ => by kernel_rfl)) h6) rfl rfl rfl ?_)
       refine s_y rfl (v := .bool false) (y_pick rfl rfl) rfl ?_
       refine s_y rfl (v := .bool false) (y_mv rfl) rfl ?_
       refine st_off 33 rfl rfl rfl rfl rfl rfl ?_
       refine st_off 33 rfl rfl rfl rfl rfl rfl ?_
       refine st_off 33 rfl rfl rfl rfl rfl rfl ?_
       refine s_y rfl (v := .bool false) (y_pick rfl rfl) rfl ?_
       refine s_y rfl (v := .bool false) (y_mv rfl) rfl ?_
       refine st_off 38 rfl rfl rfl rfl rfl rfl ?_
       refine st_off 38 rfl rfl rfl rfl rfl rfl ?_
       refine st_off 38 rfl rfl rfl rfl rfl rfl ?_
       refine s_y rfl (v := .bool false) (y_pick rfl rfl) rfl ?_
       refine s_y rfl (v := .bool false) (y_as rfl) rfl ?_
       refine s_nil (q_then (c_ret ?_))
       refine c_fin (I' := []) [] [0, 1] rfl (.tmp rfl .nil) rfl rfl rfl ?_
       exact ⟨dec_f (by unfold rulOk; first | omega | exact ⟨⟨by omega, by omega⟩, by assumption, by assumption, by assumption, ⟨by omega, by omega⟩, by assumption⟩ | (rintro ⟨_, _, _, _, _, q⟩; exact absurd q (by assumption)) | (rintro ⟨_, q, _⟩; exact absurd q (by assumption)) | (rintro ⟨_, _, q, _⟩; exact absurd q (by assumption)) | (rintro ⟨_, _, _, q, _⟩; exact absurd (by assumption) q)), rfl, rfl⟩
    ·
     obtain rfl : v = .bool false := by rw [hv2, decide_eq_false h4]
     refine s_y rfl (v := .bool false) (y_pick rfl rfl) rfl ?_
     refine s_y rfl (v := .bool false) (y_mv rfl) rfl ?_
     refine st_off 21 rfl rfl rfl rfl rfl rfl ?_
     refine st_off 21 rfl rfl rfl rfl rfl rfl ?_
     refine st_off 21 rfl rfl rfl rfl rfl rfl ?_
     refine st_off 21 rfl rfl rfl rfl rfl rfl ?_
     refine st_off 21 rfl rfl rfl rfl rfl rfl ?_
     refine s_y rfl (v := .bool false) (y_pick rfl rfl) rfl ?_
     refine s_y rfl (v := .bool false) (y_mv rfl) rfl ?_
     refine st_off 28 rfl rfl rfl rfl rfl rfl ?_
     refine st_off 28 rfl rfl rfl rfl rfl rfl ?_
     refine st_off 28 rfl rfl rfl rfl rfl rfl ?_
     refine s_y rfl (v := .bool false) (y_pick rfl rfl) rfl ?_
     refine s_y rfl (v := .bool false) (y_mv rfl) rfl ?_
     refine st_off 33 rfl rfl rfl rfl rfl rfl ?_
     refine st_off 33 rfl rfl rfl rfl rfl rfl ?_
     refine st_off 33 rfl rfl rfl rfl rfl rfl ?_
     refine s_y rfl (v := .bool false) (y_pick rfl rfl) rfl ?_
     refine s_y rfl (v := .bool false) (y_mv rfl) rfl ?_
     refine st_off 38 rfl rfl rfl rfl rfl rfl ?_
     refine st_off 38 rfl rfl rfl rfl rfl rfl ?_
     refine st_off 38 rfl rfl rfl rfl rfl rfl ?_
     refine s_y rfl (v := .bool false) (y_pick rfl rfl) rfl ?_
     refine s_y rfl (v := .bool false) (y_as rfl) rfl ?_
     refine s_nil (q_then (c_ret ?_))
     refine c_fin (I' := []) [] [0, 1] rfl (.tmp rfl .nil) rfl rfl rfl ?_
     exact ⟨dec_f (by unfold rulOk; first | omega | exact ⟨⟨by omega, by omega⟩, by assumption, by assumption, by assumption, ⟨by omega, by omega⟩, by assumption⟩ | (rintro ⟨_, _, _, _, _, q⟩; exact absurd q (by assumption)) | (rintro ⟨_, q, _⟩; exact absurd q (by assumption)) | (rintro ⟨_, _, q, _⟩; exact absurd q (by assumption)) | (rintro ⟨_, _, _, q, _⟩; exact absurd (by assumption) q)), rfl, rfl⟩
   ·
    obtain rfl : v = .bool false := by rw [hv1, decide_eq_false h3]
    refine s_y rfl (v := .bool false) (y_pick rfl rfl) rfl ?_
    refine s_y rfl (v := .bool false) (y_mv rfl) rfl ?_
    refine st_off 16 rfl rfl rfl rfl rfl rfl ?_
    refine st_off 16 rfl rfl rfl rfl rfl rfl ?_
    refine st_off 16 rfl rfl rfl rfl rfl rfl ?_
    refine s_y rfl (v := .bool false) (y_pick rfl rfl) rfl ?_
    refine s_y rfl (v := .bool false) (y_mv rfl) rfl ?_
    refine st_off 21 rfl rfl rfl rfl rfl rfl ?_
    refine st_off 21 rfl rfl rfl rfl rfl rfl ?_
    refine st_off 21 rfl rfl rfl rfl rfl rfl ?_
    refine st_off 21 rfl rfl rfl rfl rfl rfl ?_
    refine st_off 21 rfl rfl rfl rfl rfl rfl ?_
    refine s_y rfl (v := .bool false) (y_pick rfl rfl) rfl ?_
    refine s_y rfl (v := .bool false) (y_mv rfl) rfl ?_
    refine st_off 28 rfl rfl rfl rfl rfl rfl ?_
    refine st_off 28 rfl rfl rfl rfl rfl rfl ?_
    refine st_off 28 rfl rfl rfl rfl rfl rfl ?_
    refine s_y rfl (v := .bool false) (y_pick rfl rfl) rfl ?_
    refine s_y rfl (v := .bool false) (y_mv rfl) rfl ?_
    refine st_off 33 rfl rfl rfl rfl rfl rfl ?_
    refine st_off 33 rfl rfl rfl rfl rfl rfl ?_
    refine st_off 33 rfl rfl rfl rfl rfl rfl ?_
    refine s_y rfl (v := .bool false) (y_pick rfl rfl) rfl ?_
    refine s_y rfl (v := .bool false) (y_mv rfl) rfl ?_
    refine st_off 38 rfl rfl rfl rfl rfl rfl ?_
    refine st_off 38 rfl rfl rfl rfl rfl rfl ?_
    refine st_off 38 rfl rfl rfl rfl rfl rfl ?_
    refine s_y rfl (v := .bool false) (y_pick rfl rfl) rfl ?_
    refine s_y rfl (v := .bool false) (y_as rfl) rfl ?_
    refine s_nil (q_then (c_ret ?_))
    refine c_fin (I' := []) [] [0, 1] rfl (.tmp rfl .nil) rfl rfl rfl ?_
    exact ⟨dec_f (by unfold rulOk; first | omega | exact ⟨⟨by omega, by omega⟩, by assumption, by assumption, by assumption, ⟨by omega, by omega⟩, by assumption⟩ | (rintro ⟨_, _, _, _, _, q⟩; exact absurd q (by assumption)) | (rintro ⟨_, q, _⟩; exact absurd q (by assumption)) | (rintro ⟨_, _, q, _⟩; exact absurd q (by assumption)) | (rintro ⟨_, _, _, q, _⟩; exact absurd (by assumption) q)), rfl, rfl⟩
  ·
   refine st_on 6 rfl rfl rfl (o_y (v := .bool false) (y_f (y_k (v := .bool (decide (r.id ≤ 99))) rfl rfl (fun _ => by kernel_rfl)) h2) rfl rfl rfl ?_)
   refine s_y rfl (v := .bool false) (y_pick rfl rfl) rfl ?_
   refine s_y rfl (v := .bool false) (y_mv rfl) rfl ?_
   refine st_off 11 rfl rfl rfl rfl rfl rfl ?_
   refine st_off 11 rfl rfl rfl rfl rfl rfl ?_
   refine st_off 11 rfl rfl rfl rfl rfl rfl ?_
   refine s_y rfl (v := .bool false) (y_pick rfl rfl) rfl ?_
   refine s_y rfl (v := .bool false) (y_mv rfl) rfl ?_
   refine st_off 16 rfl rfl rfl rfl rfl rfl ?_
   refine st_off 16 rfl rfl rfl rfl rfl rfl ?_
   refine st_off 16 rfl rfl rfl rfl rfl rfl ?_
   refine s_y rfl (v := .bool false) (y_pick rfl rfl) rfl ?_
   refine s_y rfl (v := .bool false) (y_mv rfl) rfl ?_
   refine st_off 21 rfl rfl rfl rfl rfl rfl ?_
   refine st_off 21 rfl rfl rfl rfl rfl rfl ?_
   refine st_off 21 rfl rfl rfl rfl rfl rfl ?_
   refine st_off 21 rfl rfl rfl rfl rfl rfl ?_
   refine st_off 21 rfl rfl rfl rfl rfl rfl ?_
   refine s_y rfl (v := .bool false) (y_pick rfl rfl) rfl ?_
   refine s_y rfl (v := .bool false) (y_mv rfl) rfl ?_
   refine st_off 28 rfl rfl rfl rfl rfl rfl ?_
   refine st_off 28 rfl rfl rfl rfl rfl rfl ?_
   refine st_off 28 rfl rfl rfl rfl rfl rfl ?_
   refine s_y rfl (v := .bool false) (y_pick rfl rfl) rfl ?_
   refine s_y rfl (v := .bool false) (y_mv rfl) rfl ?_
   refine st_off 33 rfl rfl rfl rfl rfl rfl ?_
   refine st_off 33 rfl rfl rfl rfl rfl rfl ?_
   refine st_off 33 rfl rfl rfl rfl rfl rfl ?_
   refine s_y rfl (v := .bool false) (y_pick rfl rfl) rfl ?_
   refine s_y rfl (v := .bool false) (y_mv rfl) rfl ?_
   refine st_off 38 rfl rfl rfl rfl rfl rfl ?_
   refine st_off 38 rfl rfl rfl rfl rfl rfl ?_
   refine st_off 38 rfl rfl rfl rfl rfl rfl ?_
   refine s_y rfl (v := .bool false) (y_pick rfl rfl) rfl ?_
   refine s_y rfl (v := .bool false) (y_as rfl) rfl ?_
   refine s_nil (q_then (c_ret ?_))
   refine c_fin (I' := []) [] [0, 1] rfl (.tmp rfl .nil) rfl rfl rfl ?_
   exact ⟨dec_f (by unfold rulOk; first | omega | exact ⟨⟨by omega, by omega⟩, by assumption, by assumption, by assumption, ⟨by omega, by omega⟩, by assumption⟩ | (rintro ⟨_, _, _, _, _, q⟩; exact absurd q (by assumption)) | (rintro ⟨_, q, _⟩; exact absurd q (by assumption)) | (rintro ⟨_, _, q, _⟩; exact absurd q (by assumption)) | (rintro ⟨_, _, _, q, _⟩; exact absurd (by assumption) q)), rfl, rfl⟩
 ·
  refine s_y rfl (v := .bool false) (y_f (y_k (v := .bool (decide (r.id ≥ 1))) rfl rfl (fun _ => by kernel_rfl)) h1) rfl ?_
  refine s_y rfl (v := .bool false) (y_mv rfl) rfl ?_
  refine st_off 6 rfl rfl rfl rfl rfl rfl ?_
  refine st_off 6 rfl rfl rfl rfl rfl rfl ?_
  refine st_off 6 rfl rfl rfl rfl rfl rfl ?_
  refine s_y rfl (v := .bool false) (y_pick rfl rfl) rfl ?_
  refine s_y rfl (v := .bool false) (y_mv rfl) rfl ?_
  refine st_off 11 rfl rfl rfl rfl rfl rfl ?_
  refine st_off 11 rfl rfl rfl rfl rfl rfl ?_
  refine st_off 11 rfl rfl rfl rfl rfl rfl ?_
  refine s_y rfl (v := .bool false) (y_pick rfl rfl) rfl ?_
  refine s_y rfl (v := .bool false) (y_mv rfl) rfl ?_
  refine st_off 16 rfl rfl rfl rfl rfl rfl ?_
  refine st_off 16 rfl rfl rfl rfl rfl rfl ?_
  refine st_off 16 rfl rfl rfl rfl rfl rfl ?_
  refine s_y rfl (v := .bool false) (y_pick rfl rfl) rfl ?_
  refine s_y rfl (v := .bool false) (y_mv rfl) rfl ?_
  refine st_off 21 rfl rfl rfl rfl rfl rfl ?_
  refine st_off 21 rfl rfl rfl rfl rfl rfl ?_
  refine st_off 21 rfl rfl rfl rfl rfl rfl ?_
  refine st_off 21 rfl rfl rfl rfl rfl rfl ?_
  refine st_off 21 rfl rfl rfl rfl rfl rfl ?_
  refine s_y rfl (v := .bool false) (y_pick rfl rfl) rfl ?_
  refine s_y rfl (v := .bool false) (y_mv rfl) rfl ?_
  refine st_off 28 rfl rfl rfl rfl rfl rfl ?_
  refine st_off 28 rfl rfl rfl rfl rfl rfl ?_
  refine st_off 28 rfl rfl rfl rfl rfl rfl ?_
  refine s_y rfl (v := .bool false) (y_pick rfl rfl) rfl ?_
  refine s_y rfl (v := .bool false) (y_mv rfl) rfl ?_
  refine st_off 33 rfl rfl rfl rfl rfl rfl ?_
  refine st_off 33 rfl rfl rfl rfl rfl rfl ?_
  refine st_off 33 rfl rfl rfl rfl rfl rfl ?_
  refine s_y rfl (v := .bool false) (y_pick rfl rfl) rfl ?_
  refine s_y rfl (v := .bool false) (y_mv rfl) rfl ?_
  refine st_off 38 rfl rfl rfl rfl rfl rfl ?_
  refine st_off 38 rfl rfl rfl rfl rfl rfl ?_
  refine st_off 38 rfl rfl rfl rfl rfl rfl ?_
  refine s_y rfl (v := .bool false) (y_pick rfl rfl) rfl ?_
  refine s_y rfl (v := .bool false) (y_as rfl) rfl ?_
  refine s_nil (q_then (c_ret ?_))
  refine c_fin (I' := []) [] [0, 1] rfl (.tmp rfl .nil) rfl rfl rfl ?_
  exact ⟨dec_f (by unfold rulOk; first | omega | exact ⟨⟨by omega, by omega⟩, by assumption, by assumption, by assumption, ⟨by omega, by omega⟩, by assumption⟩ | (rintro ⟨_, _, _, _, _, q⟩; exact absurd q (by assumption)) | (rintro ⟨_, q, _⟩; exact absurd q (by assumption)) | (rintro ⟨_, _, q, _⟩; exact absurd q (by assumption)) | (rintro ⟨_, _, _, q, _⟩; exact absurd (by assumption) q)), rfl, rfl⟩
theorem rIsRule_ (r : Rul) (hsm : rulSm r) : Con Tryd.prog 66 [.agg #[.int .i64 r.id, .int .i64 r.fr.lv, .int .u64 (r.fr.cs : Int), .int .i64 r.fr.ig, .int .i64 r.to.lv, .int .u64 (r.to.cs : Int), .int .i64 r.to.ig, .int .i64 r.bu, .int .i64 r.wh.kd, .int .i64 r.wh.mx, .string r.wh.fm]] [] [] (fun v L' I' => v = .bool (decide (rulOk r)) ∧ L' = [] ∧ I' = []) := by
 refine fn_of Tryd.func66 rfl Tryd.ntmps66 (by kernel_rfl) rfl (fun C => ?_)
 refine c_seq (c_region ?_)
 refine st rfl (o_box (cs := [.int .i64 r.id, .int .i64 r.fr.lv, .int .u64 (r.fr.cs : Int), .int .i64 r.fr.ig, .int .i64 r.to.lv, .int .u64 (r.to.cs : Int), .int .i64 r.to.ig, .int .i64 r.bu, .int .i64 r.wh.kd, .int .i64 r.wh.mx, .string r.wh.fm]) (T := 41) rfl rfl rfl rfl (fun _ => by kernel_rfl) (fun b1 => ?_))
 refine s_y rfl (v := .bool false) (y_as rfl) rfl ?_
 refine s_nil (q_then (c_seq (c_region ?_)))
 refine s_y rfl (v := .pointer (some ⟨b1, 0, none⟩)) (y_k rfl rfl (fun _ => by kernel_rfl)) rfl ?_
 refine st rfl (o_ld 0 rfl rfl rfl Tryd.underlying3 rfl rfl ?_)
 refine e_by (r.id ≥ 1) (fun h1 => ?_) (fun h1 => ?_)
 ·
  refine s_y rfl (v := .bool true) (y_t (y_k (v := .bool (decide (r.id ≥ 1))) rfl rfl (fun _ => by kernel_rfl)) h1) rfl ?_
  refine s_y rfl (v := .bool true) (y_mv rfl) rfl ?_
  refine st_on 6 rfl rfl rfl (o_y (v := .pointer (some ⟨b1, 0, none⟩)) (y_k rfl rfl (fun _ => by kernel_rfl)) rfl rfl rfl ?_)
  refine st_on 6 rfl rfl rfl (o_ld 0 rfl rfl rfl Tryd.underlying3 rfl rfl ?_)
  refine e_by (r.id ≤ 99) (fun h2 => ?_) (fun h2 => ?_)
  ·
   refine st_on 6 rfl rfl rfl (o_y (v := .bool true) (y_t (y_k (v := .bool (decide (r.id ≤ 99))) rfl rfl (fun _ => by kernel_rfl)) h2) rfl rfl rfl ?_)
   refine s_y rfl (v := .bool true) (y_pick rfl rfl) rfl ?_
   refine s_y rfl (v := .bool true) (y_mv rfl) rfl ?_
   refine st_on 11 rfl rfl rfl (o_y (v := .pointer (some ⟨b1, 1, none⟩)) (y_k rfl rfl (fun _ => by kernel_rfl)) rfl rfl rfl ?_)
   refine st_on 11 rfl rfl rfl (o_ldn 0 3 rfl rfl rfl rfl Tryd.underlying26 rfl (by kernel_rfl) (by kernel_rfl) rfl ?_)
   refine st_on 11 rfl rfl rfl (o_call [] [] (rlabRight_ r.fr) rfl rfl rfl rfl rfl rfl (fun v L' I' hq1 => ?_))
   obtain ⟨hv1, rfl, rfl⟩ := hq1
   refine e_by (labRight r.fr) (fun h3 => ?_) (fun h3 => ?_)
   ·
    obtain rfl : v = .bool true := by rw [hv1, decide_eq_true h3]
    refine s_y rfl (v := .bool true) (y_pick rfl rfl) rfl ?_
    refine s_y rfl (v := .bool true) (y_mv rfl) rfl ?_
    refine st_on 16 rfl rfl rfl (o_y (v := .pointer (some ⟨b1, 4, none⟩)) (y_k rfl rfl (fun _ => by kernel_rfl)) rfl rfl rfl ?_)
    refine st_on 16 rfl rfl rfl (o_ldn 0 3 rfl rfl rfl rfl Tryd.underlying26 rfl (by kernel_rfl) (by kernel_rfl) rfl ?_)
    refine st_on 16 rfl rfl rfl (o_call [] [] (rlabRight_ r.to) rfl rfl rfl rfl rfl rfl (fun v L' I' hq2 => ?_))
    obtain ⟨hv2, rfl, rfl⟩ := hq2
    refine e_by (labRight r.to) (fun h4 => ?_) (fun h4 => ?_)
    ·
     obtain rfl : v = .bool true := by rw [hv2, decide_eq_true h4]
     refine s_y rfl (v := .bool true) (y_pick rfl rfl) rfl ?_
     refine s_y rfl (v := .bool true) (y_mv rfl) rfl ?_
     refine st_on 21 rfl rfl rfl (o_y (v := .pointer (some ⟨b1, 1, none⟩)) (y_k rfl rfl (fun _ => by kernel_rfl)) rfl rfl rfl ?_)
     refine st_on 21 rfl rfl rfl (o_ldn 0 3 rfl rfl rfl rfl Tryd.underlying26 rfl (by kernel_rfl) (by kernel_rfl) rfl ?_)
     refine st_on 21 rfl rfl rfl (o_y (v := .pointer (some ⟨b1, 4, none⟩)) (y_k rfl rfl (fun _ => by kernel_rfl)) rfl rfl rfl ?_)
     refine st_on 21 rfl rfl rfl (o_ldn 0 3 rfl rfl rfl rfl Tryd.underlying26 rfl (by kernel_rfl) (by kernel_rfl) rfl ?_)
     refine e_by (r.fr = r.to) (fun h5 => ?_) (fun h5 => ?_)
     ·
      refine st_on 21 rfl rfl rfl (o_y (v := .bool false) (y_nt (y_bin rfl rfl (fun w => eq_Labn r.fr r.to w)) h5) rfl rfl rfl ?_)
      refine s_y rfl (v := .bool false) (y_pick rfl rfl) rfl ?_
      refine s_y rfl (v := .bool false) (y_mv rfl) rfl ?_
      refine st_off 28 rfl rfl rfl rfl rfl rfl ?_
      refine st_off 28 rfl rfl rfl rfl rfl rfl ?_
      refine st_off 28 rfl rfl rfl rfl rfl rfl ?_
      refine s_y rfl (v := .bool false) (y_pick rfl rfl) rfl ?_
      refine s_y rfl (v := .bool false) (y_mv rfl) rfl ?_
      refine st_off 33 rfl rfl rfl rfl rfl rfl ?_
      refine st_off 33 rfl rfl rfl rfl rfl rfl ?_
      refine st_off 33 rfl rfl rfl rfl rfl rfl ?_
      refine s_y rfl (v := .bool false) (y_pick rfl rfl) rfl ?_
      refine s_y rfl (v := .bool false) (y_mv rfl) rfl ?_
      refine st_off 38 rfl rfl rfl rfl rfl rfl ?_
      refine st_off 38 rfl rfl rfl rfl rfl rfl ?_
      refine st_off 38 rfl rfl rfl rfl rfl rfl ?_
      refine s_y rfl (v := .bool false) (y_pick rfl rfl) rfl ?_
      refine s_y rfl (v := .bool false) (y_as rfl) rfl ?_
      refine s_nil (q_then (c_ret ?_))
      refine c_fin (I' := []) [] [] rfl (.tmp rfl .nil) rfl rfl rfl ?_
      exact ⟨dec_f (by unfold rulOk; first | omega | exact ⟨⟨by omega, by omega⟩, by assumption, by assumption, by assumption, ⟨by omega, by omega⟩, by assumption⟩ | (rintro ⟨_, _, _, _, _, q⟩; exact absurd q (by assumption)) | (rintro ⟨_, q, _⟩; exact absurd q (by assumption)) | (rintro ⟨_, _, q, _⟩; exact absurd q (by assumption)) | (rintro ⟨_, _, _, q, _⟩; exact absurd (by assumption) q)), rfl, rfl⟩
     ·
      refine st_on 21 rfl rfl rfl (o_y (v := .bool true) (y_nf (y_bin rfl rfl (fun w => eq_Labn r.fr r.to w)) h5) rfl rfl rfl ?_)
      refine s_y rfl (v := .bool true) (y_pick rfl rfl) rfl ?_
      refine s_y rfl (v := .bool true) (y_mv rfl) rfl ?_
      refine st_on 28 rfl rfl rfl (o_y (v := .pointer (some ⟨b1, 7, none⟩)) (y_k rfl rfl (fun _ => by kernel_rfl)) rfl rfl rfl ?_)
      refine st_on 28 rfl rfl rfl (o_ld 0 rfl rfl rfl Tryd.underlying3 rfl rfl ?_)
      refine e_by (r.bu ≥ 0) (fun h6 => ?_) (fun h6 => ?_)
      ·
       refine st_on 28 rfl rfl rfl (o_y (v := .bool true) (y_t (y_k (v := .bool (decide (r.bu ≥ 0))) rfl rfl (fun _ => by kernel_rfl)) h6) rfl rfl rfl ?_)
       refine s_y rfl (v := .bool true) (y_pick rfl rfl) rfl ?_
       refine s_y rfl (v := .bool true) (y_mv rfl) rfl ?_
       refine st_on 33 rfl rfl rfl (o_y (v := .pointer (some ⟨b1, 7, none⟩)) (y_k rfl rfl (fun _ => by kernel_rfl)) rfl rfl rfl ?_)
       refine st_on 33 rfl rfl rfl (o_ld 0 rfl rfl rfl Tryd.underlying3 rfl rfl ?_)
       refine e_by (r.bu ≤ 1000) (fun h7 => ?_) (fun h7 => ?_)
       ·
        refine st_on 33 rfl rfl rfl (o_y (v := .bool true) (y_t (y_k (v := .bool (decide (r.bu ≤ 1000))) rfl rfl (fun _ => by kernel_rfl)) h7) rfl rfl rfl ?_)
        refine s_y rfl (v := .bool true) (y_pick rfl rfl) rfl ?_
        refine s_y rfl (v := .bool true) (y_mv rfl) rfl ?_
        refine st_on 38 rfl rfl rfl (o_y (v := .pointer (some ⟨b1, 8, none⟩)) (y_k rfl rfl (fun _ => by kernel_rfl)) rfl rfl rfl ?_)
        refine st_on 38 rfl rfl rfl (o_ldn 0 3 rfl rfl rfl rfl Tryd.underlying39 rfl (by kernel_rfl) (by kernel_rfl) rfl ?_)
        refine st_on 38 rfl rfl rfl (o_call [] [] (rfRight_ r.wh (by unfold rulSm at hsm; omega)) rfl rfl rfl rfl rfl rfl (fun v L' I' hq3 => ?_))
        obtain ⟨hv3, rfl, rfl⟩ := hq3
        refine e_by (filR r.wh) (fun h8 => ?_) (fun h8 => ?_)
        ·
         obtain rfl : v = .bool true := by rw [hv3, decide_eq_true h8]
         refine s_y rfl (v := .bool true) (y_pick rfl rfl) rfl ?_
         refine s_y rfl (v := .bool true) (y_as rfl) rfl ?_
         refine s_nil (q_then (c_ret ?_))
         refine c_fin (I' := []) [] [] rfl (.tmp rfl .nil) rfl rfl rfl ?_
         exact ⟨dec_t (by unfold rulOk; first | omega | exact ⟨⟨by omega, by omega⟩, by assumption, by assumption, by assumption, ⟨by omega, by omega⟩, by assumption⟩ | (rintro ⟨_, _, _, _, _, q⟩; exact absurd q (by assumption)) | (rintro ⟨_, q, _⟩; exact absurd q (by assumption)) | (rintro ⟨_, _, q, _⟩; exact absurd q (by assumption)) | (rintro ⟨_, _, _, q, _⟩; exact absurd (by assumption) q)), rfl, rfl⟩
        ·
         obtain rfl : v = .bool false := by rw [hv3, decide_eq_false h8]
         refine s_y rfl (v := .bool false) (y_pick rfl rfl) rfl ?_
         refine s_y rfl (v := .bool false) (y_as rfl) rfl ?_
         refine s_nil (q_then (c_ret ?_))
         refine c_fin (I' := []) [] [] rfl (.tmp rfl .nil) rfl rfl rfl ?_
         exact ⟨dec_f (by unfold rulOk; first | omega | exact ⟨⟨by omega, by omega⟩, by assumption, by assumption, by assumption, ⟨by omega, by omega⟩, by assumption⟩ | (rintro ⟨_, _, _, _, _, q⟩; exact absurd q (by assumption)) | (rintro ⟨_, q, _⟩; exact absurd q (by assumption)) | (rintro ⟨_, _, q, _⟩; exact absurd q (by assumption)) | (rintro ⟨_, _, _, q, _⟩; exact absurd (by assumption) q)), rfl, rfl⟩
       ·
        refine st_on 33 rfl rfl rfl (o_y (v := .bool false) (y_f (y_k (v := .bool (decide (r.bu ≤ 1000))) rfl rfl (fun _ => by kernel_rfl)) h7) rfl rfl rfl ?_)
        refine s_y rfl (v := .bool false) (y_pick rfl rfl) rfl ?_
        refine s_y rfl (v := .bool false) (y_mv rfl) rfl ?_
        refine st_off 38 rfl rfl rfl rfl rfl rfl ?_
        refine st_off 38 rfl rfl rfl rfl rfl rfl ?_
        refine st_off 38 rfl rfl rfl rfl rfl rfl ?_
        refine s_y rfl (v := .bool false) (y_pick rfl rfl) rfl ?_
        refine s_y rfl (v := .bool false) (y_as rfl) rfl ?_
        refine s_nil (q_then (c_ret ?_))
        refine c_fin (I' := []) [] [] rfl (.tmp rfl .nil) rfl rfl rfl ?_
        exact ⟨dec_f (by unfold rulOk; first | omega | exact ⟨⟨by omega, by omega⟩, by assumption, by assumption, by assumption, ⟨by omega, by omega⟩, by assumption⟩ | (rintro ⟨_, _, _, _, _, q⟩; exact absurd q (by assumption)) | (rintro ⟨_, q, _⟩; exact absurd q (by assumption)) | (rintro ⟨_, _, q, _⟩; exact absurd q (by assumption)) | (rintro ⟨_, _, _, q, _⟩; exact absurd (by assumption) q)), rfl, rfl⟩
      ·
       refine st_on 28 rfl rfl rfl (o_y (v := .bool false) (y_f (y_k (v := .bool (decide (r.bu ≥ 0))) rfl rfl (fun _ => by kernel_rfl)) h6) rfl rfl rfl ?_)
       refine s_y rfl (v := .bool false) (y_pick rfl rfl) rfl ?_
       refine s_y rfl (v := .bool false) (y_mv rfl) rfl ?_
       refine st_off 33 rfl rfl rfl rfl rfl rfl ?_
       refine st_off 33 rfl rfl rfl rfl rfl rfl ?_
       refine st_off 33 rfl rfl rfl rfl rfl rfl ?_
       refine s_y rfl (v := .bool false) (y_pick rfl rfl) rfl ?_
       refine s_y rfl (v := .bool false) (y_mv rfl) rfl ?_
       refine st_off 38 rfl rfl rfl rfl rfl rfl ?_
       refine st_off 38 rfl rfl rfl rfl rfl rfl ?_
       refine st_off 38 rfl rfl rfl rfl rfl rfl ?_
       refine s_y rfl (v := .bool false) (y_pick rfl rfl) rfl ?_
       refine s_y rfl (v := .bool false) (y_as rfl) rfl ?_
       refine s_nil (q_then (c_ret ?_))
       refine c_fin (I' := []) [] [] rfl (.tmp rfl .nil) rfl rfl rfl ?_
       exact ⟨dec_f (by unfold rulOk; first | omega | exact ⟨⟨by omega, by omega⟩, by assumption, by assumption, by assumption, ⟨by omega, by omega⟩, by assumption⟩ | (rintro ⟨_, _, _, _, _, q⟩; exact absurd q (by assumption)) | (rintro ⟨_, q, _⟩; exact absurd q (by assumption)) | (rintro ⟨_, _, q, _⟩; exact absurd q (by assumption)) | (rintro ⟨_, _, _, q, _⟩; exact absurd (by assumption) q)), rfl, rfl⟩
    ·
     obtain rfl : v = .bool false := by rw [hv2, decide_eq_false h4]
     refine s_y rfl (v := .bool false) (y_pick rfl rfl) rfl ?_
     refine s_y rfl (v := .bool false) (y_mv rfl) rfl ?_
     refine st_off 21 rfl rfl rfl rfl rfl rfl ?_
     refine st_off 21 rfl rfl rfl rfl rfl rfl ?_
     refine st_off 21 rfl rfl rfl rfl rfl rfl ?_
     refine st_off 21 rfl rfl rfl rfl rfl rfl ?_
     refine st_off 21 rfl rfl rfl rfl rfl rfl ?_
     refine s_y rfl (v := .bool false) (y_pick rfl rfl) rfl ?_
     refine s_y rfl (v := .bool false) (y_mv rfl) rfl ?_
     refine st_off 28 rfl rfl rfl rfl rfl rfl ?_
     refine st_off 28 rfl rfl rfl rfl rfl rfl ?_
     refine st_off 28 rfl rfl rfl rfl rfl rfl ?_
     refine s_y rfl (v := .bool false) (y_pick rfl rfl) rfl ?_
     refine s_y rfl (v := .bool false) (y_mv rfl) rfl ?_
     refine st_off 33 rfl rfl rfl rfl rfl rfl ?_
     refine st_off 33 rfl rfl rfl rfl rfl rfl ?_
     refine st_off 33 rfl rfl rfl rfl rfl rfl ?_
     refine s_y rfl (v := .bool false) (y_pick rfl rfl) rfl ?_
     refine s_y rfl (v := .bool false) (y_mv rfl) rfl ?_
     refine st_off 38 rfl rfl rfl rfl rfl rfl ?_
     refine st_off 38 rfl rfl rfl rfl rfl rfl ?_
     refine st_off 38 rfl rfl rfl rfl rfl rfl ?_
     refine s_y rfl (v := .bool false) (y_pick rfl rfl) rfl ?_
     refine s_y rfl (v := .bool false) (y_as rfl) rfl ?_
     refine s_nil (q_then (c_ret ?_))
     refine c_fin (I' := []) [] [] rfl (.tmp rfl .nil) rfl rfl rfl ?_
     exact ⟨dec_f (by unfold rulOk; first | omega | exact ⟨⟨by omega, by omega⟩, by assumption, by assumption, by assumption, ⟨by omega, by omega⟩, by assumption⟩ | (rintro ⟨_, _, _, _, _, q⟩; exact absurd q (by assumption)) | (rintro ⟨_, q, _⟩; exact absurd q (by assumption)) | (rintro ⟨_, _, q, _⟩; exact absurd q (by assumption)) | (rintro ⟨_, _, _, q, _⟩; exact absurd (by assumption) q)), rfl, rfl⟩
   ·
    obtain rfl : v = .bool false := by rw [hv1, decide_eq_false h3]
    refine s_y rfl (v := .bool false) (y_pick rfl rfl) rfl ?_
    refine s_y rfl (v := .bool false) (y_mv rfl) rfl ?_
    refine st_off 16 rfl rfl rfl rfl rfl rfl ?_
    refine st_off 16 rfl rfl rfl rfl rfl rfl ?_
    refine st_off 16 rfl rfl rfl rfl rfl rfl ?_
    refine s_y rfl (v := .bool false) (y_pick rfl rfl) rfl ?_
    refine s_y rfl (v := .bool false) (y_mv rfl) rfl ?_
    refine st_off 21 rfl rfl rfl rfl rfl rfl ?_
    refine st_off 21 rfl rfl rfl rfl rfl rfl ?_
    refine st_off 21 rfl rfl rfl rfl rfl rfl ?_
    refine st_off 21 rfl rfl rfl rfl rfl rfl ?_
    refine st_off 21 rfl rfl rfl rfl rfl rfl ?_
    refine s_y rfl (v := .bool false) (y_pick rfl rfl) rfl ?_
    refine s_y rfl (v := .bool false) (y_mv rfl) rfl ?_
    refine st_off 28 rfl rfl rfl rfl rfl rfl ?_
    refine st_off 28 rfl rfl rfl rfl rfl rfl ?_
    refine st_off 28 rfl rfl rfl rfl rfl rfl ?_
    refine s_y rfl (v := .bool false) (y_pick rfl rfl) rfl ?_
    refine s_y rfl (v := .bool false) (y_mv rfl) rfl ?_
    refine st_off 33 rfl rfl rfl rfl rfl rfl ?_
    refine st_off 33 rfl rfl rfl rfl rfl rfl ?_
    refine st_off 33 rfl rfl rfl rfl rfl rfl ?_
    refine s_y rfl (v := .bool false) (y_pick rfl rfl) rfl ?_
    refine s_y rfl (v := .bool false) (y_mv rfl) rfl ?_
    refine st_off 38 rfl rfl rfl rfl rfl rfl ?_
    refine st_off 38 rfl rfl rfl rfl rfl rfl ?_
    refine st_off 38 rfl rfl rfl rfl rfl rfl ?_
    refine s_y rfl (v := .bool false) (y_pick rfl rfl) rfl ?_
    refine s_y rfl (v := .bool false) (y_as rfl) rfl ?_
    refine s_nil (q_then (c_ret ?_))
    refine c_fin (I' := []) [] [] rfl (.tmp rfl .nil) rfl rfl rfl ?_
    exact ⟨dec_f (by unfold rulOk; first | omega | exact ⟨⟨by omega, by omega⟩, by assumption, by assumption, by assumption, ⟨by omega, by omega⟩, by assumption⟩ | (rintro ⟨_, _, _, _, _, q⟩; exact absurd q (by assumption)) | (rintro ⟨_, q, _⟩; exact absurd q (by assumption)) | (rintro ⟨_, _, q, _⟩; exact absurd q (by assumption)) | (rintro ⟨_, _, _, q, _⟩; exact absurd (by assumption) q)), rfl, rfl⟩
  ·
   refine st_on 6 rfl rfl rfl (o_y (v := .bool false) (y_f (y_k (v := .bool (decide (r.id ≤ 99))) rfl rfl (fun _ => by kernel_rfl)) h2) rfl rfl rfl ?_)
   refine s_y rfl (v := .bool false) (y_pick rfl rfl) rfl ?_
   refine s_y rfl (v := .bool false) (y_mv rfl) rfl ?_
   refine st_off 11 rfl rfl rfl rfl rfl rfl ?_
   refine st_off 11 rfl rfl rfl rfl rfl rfl ?_
   refine st_off 11 rfl rfl rfl rfl rfl rfl ?_
   refine s_y rfl (v := .bool false) (y_pick rfl rfl) rfl ?_
   refine s_y rfl (v := .bool false) (y_mv rfl) rfl ?_
   refine st_off 16 rfl rfl rfl rfl rfl rfl ?_
   refine st_off 16 rfl rfl rfl rfl rfl rfl ?_
   refine st_off 16 rfl rfl rfl rfl rfl rfl ?_
   refine s_y rfl (v := .bool false) (y_pick rfl rfl) rfl ?_
   refine s_y rfl (v := .bool false) (y_mv rfl) rfl ?_
   refine st_off 21 rfl rfl rfl rfl rfl rfl ?_
   refine st_off 21 rfl rfl rfl rfl rfl rfl ?_
   refine st_off 21 rfl rfl rfl rfl rfl rfl ?_
   refine st_off 21 rfl rfl rfl rfl rfl rfl ?_
   refine st_off 21 rfl rfl rfl rfl rfl rfl ?_
   refine s_y rfl (v := .bool false) (y_pick rfl rfl) rfl ?_
   refine s_y rfl (v := .bool false) (y_mv rfl) rfl ?_
   refine st_off 28 rfl rfl rfl rfl rfl rfl ?_
   refine st_off 28 rfl rfl rfl rfl rfl rfl ?_
   refine st_off 28 rfl rfl rfl rfl rfl rfl ?_
   refine s_y rfl (v := .bool false) (y_pick rfl rfl) rfl ?_
   refine s_y rfl (v := .bool false) (y_mv rfl) rfl ?_
   refine st_off 33 rfl rfl rfl rfl rfl rfl ?_
   refine st_off 33 rfl rfl rfl rfl rfl rfl ?_
   refine st_off 33 rfl rfl rfl rfl rfl rfl ?_
   refine s_y rfl (v := .bool false) (y_pick rfl rfl) rfl ?_
   refine s_y rfl (v := .bool false) (y_mv rfl) rfl ?_
   refine st_off 38 rfl rfl rfl rfl rfl rfl ?_
   refine st_off 38 rfl rfl rfl rfl rfl rfl ?_
   refine st_off 38 rfl rfl rfl rfl rfl rfl ?_
   refine s_y rfl (v := .bool false) (y_pick rfl rfl) rfl ?_
   refine s_y rfl (v := .bool false) (y_as rfl) rfl ?_
   refine s_nil (q_then (c_ret ?_))
   refine c_fin (I' := []) [] [] rfl (.tmp rfl .nil) rfl rfl rfl ?_
   exact ⟨dec_f (by unfold rulOk; first | omega | exact ⟨⟨by omega, by omega⟩, by assumption, by assumption, by assumption, ⟨by omega, by omega⟩, by assumption⟩ | (rintro ⟨_, _, _, _, _, q⟩; exact absurd q (by assumption)) | (rintro ⟨_, q, _⟩; exact absurd q (by assumption)) | (rintro ⟨_, _, q, _⟩; exact absurd q (by assumption)) | (rintro ⟨_, _, _, q, _⟩; exact absurd (by assumption) q)), rfl, rfl⟩
 ·
  refine s_y rfl (v := .bool false) (y_f (y_k (v := .bool (decide (r.id ≥ 1))) rfl rfl (fun _ => by kernel_rfl)) h1) rfl ?_
  refine s_y rfl (v := .bool false) (y_mv rfl) rfl ?_
  refine st_off 6 rfl rfl rfl rfl rfl rfl ?_
  refine st_off 6 rfl rfl rfl rfl rfl rfl ?_
  refine st_off 6 rfl rfl rfl rfl rfl rfl ?_
  refine s_y rfl (v := .bool false) (y_pick rfl rfl) rfl ?_
  refine s_y rfl (v := .bool false) (y_mv rfl) rfl ?_
  refine st_off 11 rfl rfl rfl rfl rfl rfl ?_
  refine st_off 11 rfl rfl rfl rfl rfl rfl ?_
  refine st_off 11 rfl rfl rfl rfl rfl rfl ?_
  refine s_y rfl (v := .bool false) (y_pick rfl rfl) rfl ?_
  refine s_y rfl (v := .bool false) (y_mv rfl) rfl ?_
  refine st_off 16 rfl rfl rfl rfl rfl rfl ?_
  refine st_off 16 rfl rfl rfl rfl rfl rfl ?_
  refine st_off 16 rfl rfl rfl rfl rfl rfl ?_
  refine s_y rfl (v := .bool false) (y_pick rfl rfl) rfl ?_
  refine s_y rfl (v := .bool false) (y_mv rfl) rfl ?_
  refine st_off 21 rfl rfl rfl rfl rfl rfl ?_
  refine st_off 21 rfl rfl rfl rfl rfl rfl ?_
  refine st_off 21 rfl rfl rfl rfl rfl rfl ?_
  refine st_off 21 rfl rfl rfl rfl rfl rfl ?_
  refine st_off 21 rfl rfl rfl rfl rfl rfl ?_
  refine s_y rfl (v := .bool false) (y_pick rfl rfl) rfl ?_
  refine s_y rfl (v := .bool false) (y_mv rfl) rfl ?_
  refine st_off 28 rfl rfl rfl rfl rfl rfl ?_
  refine st_off 28 rfl rfl rfl rfl rfl rfl ?_
  refine st_off 28 rfl rfl rfl rfl rfl rfl ?_
  refine s_y rfl (v := .bool false) (y_pick rfl rfl) rfl ?_
  refine s_y rfl (v := .bool false) (y_mv rfl) rfl ?_
  refine st_off 33 rfl rfl rfl rfl rfl rfl ?_
  refine st_off 33 rfl rfl rfl rfl rfl rfl ?_
  refine st_off 33 rfl rfl rfl rfl rfl rfl ?_
  refine s_y rfl (v := .bool false) (y_pick rfl rfl) rfl ?_
  refine s_y rfl (v := .bool false) (y_mv rfl) rfl ?_
  refine st_off 38 rfl rfl rfl rfl rfl rfl ?_
  refine st_off 38 rfl rfl rfl rfl rfl rfl ?_
  refine st_off 38 rfl rfl rfl rfl rfl rfl ?_
  refine s_y rfl (v := .bool false) (y_pick rfl rfl) rfl ?_
  refine s_y rfl (v := .bool false) (y_as rfl) rfl ?_
  refine s_nil (q_then (c_ret ?_))
  refine c_fin (I' := []) [] [] rfl (.tmp rfl .nil) rfl rfl rfl ?_
  exact ⟨dec_f (by unfold rulOk; first | omega | exact ⟨⟨by omega, by omega⟩, by assumption, by assumption, by assumption, ⟨by omega, by omega⟩, by assumption⟩ | (rintro ⟨_, _, _, _, _, q⟩; exact absurd q (by assumption)) | (rintro ⟨_, q, _⟩; exact absurd q (by assumption)) | (rintro ⟨_, _, q, _⟩; exact absurd q (by assumption)) | (rintro ⟨_, _, _, q, _⟩; exact absurd (by assumption) q)), rfl, rfl⟩
theorem areRight_ (A : Option Addr) (c : Nat) (l : List Rul) (ef : Addr) (hn : l.length ≤ 100000) (hm : ∀ y ∈ l, rulSm y) : Con Tryd.prog 58 [.slice A l.length c] [] [rd rulTy A c l, cellsAt 2 0 [.iface 154 (.pointer (some ef))], errAt ef] (fun v L' I' => v = .bool (decide (rulesR l)) ∧ L' = [] ∧ I' = []) := by
 refine fn_of Tryd.func58 rfl Tryd.ntmps58 (by kernel_rfl) rfl (fun C => ?_)
 refine c_seq (c_region ?_)
 refine s_y rfl (v := .bool false) (y_as rfl) rfl ?_
 refine s_nil (q_then (c_seq (c_region ?_)))
 refine s_y rfl (v := .int .i64 0) (y_as rfl) rfl ?_
 refine s_nil (q_then (c_seq (c_seq (c_region ?_))))
 refine s_y rfl (v := .slice A l.length c) (y_mv rfl) rfl ?_
 refine s_y rfl (v := .int .i64 (l.length : Int)) (y_k rfl rfl (fun _ => by kernel_rfl)) rfl ?_
 refine s_y rfl (v := .int .i64 0) (y_mv rfl) rfl ?_
 refine s_nil (q_then (c_block ?_))
 refine c_loopn (ι := Nat × Int) (fun (k, last) => (k ≤ l.length) ∧ (rulesFrom 0 l ↔ rulesFrom last (l.drop k))) (fun (k, last) => [(0, .slice A l.length c), (3, .int .i64 last), (6, .slice A l.length c), (7, .int .i64 (l.length : Int)), (8, .int .i64 (k : Int))]) (fun (k, last) => []) (fun (k, last) => [rd rulTy A c l, cellsAt 2 0 [.iface 154 (.pointer (some ef))], errAt ef]) (fun (k, last) => l.length - k) (0, 0) [] [0, 1, 2] (show (0 ≤ l.length) ∧ (rulesFrom 0 l ↔ rulesFrom 0 (l.drop 0)) from ⟨by first | omega | simp_all | (simp; done), Iff.rfl⟩) ((.cons rfl rfl (.cons rfl rfl (.cons rfl rfl (.cons rfl rfl (.cons rfl rfl .nil)))))) rfl rfl ?_
 rintro ⟨k, last⟩ ⟨hk, hF⟩
 show Ent 27 C [(0, .slice A l.length c), (3, .int .i64 last), (6, .slice A l.length c), (7, .int .i64 (l.length : Int)), (8, .int .i64 (k : Int))] [] [] [rd rulTy A c l, cellsAt 2 0 [.iface 154 (.pointer (some ef))], errAt ef] _
 refine c_seq (c_region ?_)
 refine e_by ((k : Int) < (l.length : Int)) (fun h1 => ?_) (fun h1 => ?_)
 ·
  refine s_y rfl (v := .bool true) (y_t (y_k (v := .bool (decide ((k : Int) < (l.length : Int)))) rfl rfl (fun _ => by kernel_rfl)) h1) rfl ?_
  refine s_nil (q_then (c_seq (c_true rfl (c_skip (q_then (c_seq (c_block (c_seq (c_region ?_)))))))))
  refine e_at 0 k rfl (by first | omega | (simp only [List.length_append, List.length_map, List.length_take, List.length_drop]; omega)) (fun b1 o1 x1 hA1 hx1 => ?_)
  refine s_y rfl (v := .pointer (some ⟨b1, o1 + k * 11, none⟩)) (y_at (d := rulTy) (l := l) k hA1 rfl rfl rfl (rfl) (List.getElem?_eq_some_iff.1 hx1).1 Tryd.underlying22 (by kernel_rfl) (by kernel_rfl)) rfl ?_
  refine st rfl (o_ldnf 0 0 11 rfl rfl rfl rfl Tryd.underlying41 rfl (by kernel_rfl) (by kernel_rfl) rfl ?_)
  refine st rfl (o_box (cs := [.int .i64 0, .int .i64 0, .int .u64 0, .int .i64 0, .int .i64 0, .int .u64 0, .int .i64 0, .int .i64 0, .int .i64 0, .int .i64 0, .string (⟨#[]⟩ : ByteArray)]) (T := 41) rfl rfl rfl rfl (fun _ => by kernel_rfl) (fun b2 => ?_))
  refine st rfl (o_st 0 rfl rfl rfl rfl rfl (by kernel_rfl) (by kernel_rfl) rfl ?_)
  refine s_nil (q_then (c_seq (c_seq (c_region ?_))))
  refine st rfl (o_ldn 0 11 rfl rfl rfl rfl Tryd.underlying41 rfl (by kernel_rfl) (by kernel_rfl) rfl ?_)
  refine st rfl (o_call [] [2, 3] (isRule_ x1 ef (by first | assumption | exact (by assumption : ∀ y ∈ _, rulSm y) _ (List.mem_of_getElem? (by assumption)))) rfl rfl rfl rfl rfl rfl (fun v L' I' hq1 => ?_))
  obtain ⟨hv1, rfl, rfl⟩ := hq1
  refine e_by (rulOk x1) (fun h2 => ?_) (fun h2 => ?_)
  ·
   obtain rfl : v = .bool true := by rw [hv1, decide_eq_true h2]
   refine s_y rfl (v := .bool false) (y_k rfl rfl (fun _ => by kernel_rfl)) rfl ?_
   refine s_y rfl (v := .bool false) (y_mv rfl) rfl ?_
   refine st_on 15 rfl rfl rfl (o_y (v := .pointer (some ⟨b2, 0, none⟩)) (y_k rfl rfl (fun _ => by kernel_rfl)) rfl rfl rfl ?_)
   refine st_on 15 rfl rfl rfl (o_ld 0 rfl rfl rfl Tryd.underlying3 rfl rfl ?_)
   refine st_on 15 rfl rfl rfl (o_y (v := .int .i64 last) (y_mv rfl) rfl rfl rfl ?_)
   refine e_by (x1.id ≤ last) (fun h3 => ?_) (fun h3 => ?_)
   ·
    refine st_on 15 rfl rfl rfl (o_y (v := .bool true) (y_t (y_k (v := .bool (decide (x1.id ≤ last))) rfl rfl (fun _ => by kernel_rfl)) h3) rfl rfl rfl ?_)
    refine s_y rfl (v := .bool true) (y_pick rfl rfl) rfl ?_
    refine s_nil (q_then (c_true rfl (c_seq (c_region ?_))))
    refine s_y rfl (v := .bool false) (y_as rfl) rfl ?_
    refine s_nil (q_then (c_ret (q_then_ret (q_block_ret (q_then_ret (q_then_ret (q_block_ret (q_then_ret ?_))))))))
    refine c_fin (I' := []) [] [1, 2, 3] rfl (.tmp rfl .nil) rfl rfl rfl ?_
    exact ⟨dec_f (by first | exact rules_end hF (by omega) (by omega) | exact fun q => absurd q.2 (by omega) | (intro q; have q2 := (rulesFrom_at hx1).1 (hF.1 q.1); obtain ⟨q3, q4, q5⟩ := q2; first | omega | contradiction | exact rl_2 (by assumption) (by assumption) (by assumption) q4)), rfl, rfl⟩
   ·
    refine st_on 15 rfl rfl rfl (o_y (v := .bool false) (y_f (y_k (v := .bool (decide (x1.id ≤ last))) rfl rfl (fun _ => by kernel_rfl)) h3) rfl rfl rfl ?_)
    refine s_y rfl (v := .bool false) (y_pick rfl rfl) rfl ?_
    refine s_nil (q_then (c_false rfl (c_skip (q_then (c_region ?_)))))
    refine s_y rfl (v := .pointer (some ⟨b2, 0, none⟩)) (y_k rfl rfl (fun _ => by kernel_rfl)) rfl ?_
    refine st rfl (o_ld 0 rfl rfl rfl Tryd.underlying3 rfl rfl ?_)
    refine s_y rfl (v := .int .i64 x1.id) (y_as rfl) rfl ?_
    refine s_nil (q_block (q_then (c_region ?_)))
    refine s_y rfl (v := .int .i64 ((k : Int) + 1)) (y_add (r := (k : Int) + 1) rfl rfl rfl (by omega)) rfl ?_
    refine s_y rfl (v := .int .i64 ((k : Int) + 1)) (y_mv rfl) rfl ?_
    refine s_nil (q_then ?_)
    refine c_next [] [1, 2, 3] (k + 1, x1.id) ?_ ?_ ?_ (by rfl) (by rfl)
    · exact (show ((k + 1) ≤ l.length) ∧ (rulesFrom 0 l ↔ rulesFrom x1.id (l.drop (k + 1))) from ⟨by first | omega | simp_all | (simp; done), hF.trans ((rulesFrom_at hx1).trans ⟨fun q => q.2.2, fun q => ⟨by assumption, by omega, q⟩⟩)⟩)
    · show l.length - (k + 1) < l.length - k; omega
    · exact (.cons rfl rfl (.cons rfl rfl (.cons rfl rfl (.cons rfl rfl (.cons rfl (show (.int .i64 ((k : Int) + 1) : Value) = .int .i64 ((k + 1) : Int) from by first | rfl | (congr 1; omega) | (congr 1; simp; done) | (congr 1; simp; omega)) .nil)))))
  ·
   obtain rfl : v = .bool false := by rw [hv1, decide_eq_false h2]
   refine s_y rfl (v := .bool true) (y_k rfl rfl (fun _ => by kernel_rfl)) rfl ?_
   refine s_y rfl (v := .bool true) (y_mv rfl) rfl ?_
   refine st_off 15 rfl rfl rfl rfl rfl rfl ?_
   refine st_off 15 rfl rfl rfl rfl rfl rfl ?_
   refine st_off 15 rfl rfl rfl rfl rfl rfl ?_
   refine st_off 15 rfl rfl rfl rfl rfl rfl ?_
   refine s_y rfl (v := .bool true) (y_pick rfl rfl) rfl ?_
   refine s_nil (q_then (c_true rfl (c_seq (c_region ?_))))
   refine s_y rfl (v := .bool false) (y_as rfl) rfl ?_
   refine s_nil (q_then (c_ret (q_then_ret (q_block_ret (q_then_ret (q_then_ret (q_block_ret (q_then_ret ?_))))))))
   refine c_fin (I' := []) [] [1, 2, 3] rfl (.tmp rfl .nil) rfl rfl rfl ?_
   exact ⟨dec_f (by first | exact rules_end hF (by omega) (by omega) | exact fun q => absurd q.2 (by omega) | (intro q; have q2 := (rulesFrom_at hx1).1 (hF.1 q.1); obtain ⟨q3, q4, q5⟩ := q2; first | omega | contradiction | exact rl_2 (by assumption) (by assumption) (by assumption) q4)), rfl, rfl⟩
 ·
  refine s_y rfl (v := .bool false) (y_f (y_k (v := .bool (decide ((k : Int) < (l.length : Int)))) rfl rfl (fun _ => by kernel_rfl)) h1) rfl ?_
  refine s_nil (q_then (c_seq (c_false rfl ?_)))
  refine c_exit ?_
  refine q_then_exit ?_
  refine q_then_exit ?_
  refine q_block_here ?_
  refine q_then (c_seq (c_region ?_))
  refine s_y rfl (v := .slice A l.length c) (y_mv rfl) rfl ?_
  refine s_y rfl (v := .int .i64 (l.length : Int)) (y_k rfl rfl (fun _ => by kernel_rfl)) rfl ?_
  refine e_by ((l.length : Int) ≤ 8) (fun h4 => ?_) (fun h4 => ?_)
  ·
   refine s_y rfl (v := .bool true) (y_t (y_k (v := .bool (decide ((l.length : Int) ≤ 8))) rfl rfl (fun _ => by kernel_rfl)) h4) rfl ?_
   refine s_y rfl (v := .bool true) (y_as rfl) rfl ?_
   refine s_nil (q_then (c_ret ?_))
   refine c_fin (I' := []) [] [0, 1, 2] rfl (.tmp rfl .nil) rfl rfl rfl ?_
   exact ⟨dec_t (by first | exact rules_end hF (by omega) (by omega) | exact fun q => absurd q.2 (by omega) | (intro q; have q2 := (rulesFrom_at hx1).1 (hF.1 q.1); obtain ⟨q3, q4, q5⟩ := q2; first | omega | contradiction | exact rl_2 (by assumption) (by assumption) (by assumption) q4)), rfl, rfl⟩
  ·
   refine s_y rfl (v := .bool false) (y_f (y_k (v := .bool (decide ((l.length : Int) ≤ 8))) rfl rfl (fun _ => by kernel_rfl)) h4) rfl ?_
   refine s_y rfl (v := .bool false) (y_as rfl) rfl ?_
   refine s_nil (q_then (c_ret ?_))
   refine c_fin (I' := []) [] [0, 1, 2] rfl (.tmp rfl .nil) rfl rfl rfl ?_
   exact ⟨dec_f (by first | exact rules_end hF (by omega) (by omega) | exact fun q => absurd q.2 (by omega) | (intro q; have q2 := (rulesFrom_at hx1).1 (hF.1 q.1); obtain ⟨q3, q4, q5⟩ := q2; first | omega | contradiction | exact rl_2 (by assumption) (by assumption) (by assumption) q4)), rfl, rfl⟩
theorem ruRight_ (A : Option Addr) (c : Nat) (l : List Rul) (ef : Addr) (hn : l.length ≤ 100000) (hm : ∀ y ∈ l, rulSm y) : Con Tryd.prog 48 [.slice A l.length c] [] [rd rulTy A c l, cellsAt 2 0 [.iface 154 (.pointer (some ef))], errAt ef] (fun v L' I' => v = .bool (decide (rulesR l)) ∧ L' = [] ∧ I' = []) := by
 refine fn_of Tryd.func48 rfl Tryd.ntmps48 (by kernel_rfl) rfl (fun C => ?_)
 refine c_seq (c_region ?_)
 refine s_y rfl (v := .bool false) (y_as rfl) rfl ?_
 refine s_nil (q_then (c_seq (c_region ?_)))
 refine s_y rfl (v := .slice A l.length c) (y_mv rfl) rfl ?_
 refine st rfl (o_call [] [0, 1, 2] (areRight_ A c l ef (by first | omega | (simp; done) | (simp; omega) | assumption) (by assumption)) rfl rfl rfl rfl rfl rfl (fun v L' I' hq1 => ?_))
 obtain ⟨rfl, rfl, rfl⟩ := hq1
 refine s_y rfl (v := .bool (decide (rulesR l))) (y_as rfl) rfl ?_
 refine s_nil (q_then (c_ret ?_))
 refine c_fin (I' := []) [] [0, 1, 2] rfl (.tmp rfl .nil) rfl rfl rfl ?_
 exact ⟨rfl, rfl, rfl⟩
theorem rRuRight_ (A : Option Addr) (c : Nat) (l : List Rul) (hn : l.length ≤ 100000) (hm : ∀ y ∈ l, rulSm y) : Con Tryd.prog 52 [.slice A l.length c] [] [rd rulTy A c l] (fun v L' I' => v = .bool (decide (rulesR l)) ∧ L' = [] ∧ I' = []) := by
 refine fn_of Tryd.func52 rfl Tryd.ntmps52 (by kernel_rfl) rfl (fun C => ?_)
 refine c_seq (c_region ?_)
 refine s_y rfl (v := .bool false) (y_as rfl) rfl ?_
 refine s_nil (q_then (c_seq (c_seq (c_region ?_))))
 refine s_y rfl (v := .int .i64 0) (y_as rfl) rfl ?_
 refine s_nil (q_then (c_block ?_))
 refine c_loopn (ι := Nat) (fun k => (k ≤ l.length) ∧ (rulesFrom 0 l ↔ rulesFrom (lastId l k) (l.drop k))) (fun k => [(0, .slice A l.length c), (3, .int .i64 (k : Int))]) (fun k => []) (fun k => [rd rulTy A c l]) (fun k => l.length - k) (0) [] [0] (show (0 ≤ l.length) ∧ (rulesFrom 0 l ↔ rulesFrom (lastId l 0) (l.drop 0)) from ⟨by first | omega | simp_all | (simp; done), Iff.rfl⟩) ((.cons rfl rfl (.cons rfl rfl .nil))) rfl rfl ?_
 rintro k ⟨hk, hF⟩
 show Ent 37 C [(0, .slice A l.length c), (3, .int .i64 (k : Int))] [] [] [rd rulTy A c l] _
 refine c_seq (c_seq (c_region ?_))
 refine s_y rfl (v := .int .i64 (k : Int)) (y_mv rfl) rfl ?_
 refine s_y rfl (v := .slice A l.length c) (y_mv rfl) rfl ?_
 refine s_y rfl (v := .int .i64 (l.length : Int)) (y_k rfl rfl (fun _ => by kernel_rfl)) rfl ?_
 refine e_by ((k : Int) < (l.length : Int)) (fun h1 => ?_) (fun h1 => ?_)
 ·
  refine s_y rfl (v := .bool true) (y_t (y_k (v := .bool (decide ((k : Int) < (l.length : Int)))) rfl rfl (fun _ => by kernel_rfl)) h1) rfl ?_
  refine s_nil (q_then (c_true rfl (c_skip (q_then (c_seq (c_block (c_seq ?_)))))))
  refine e_at 0 k rfl (by first | omega | (simp only [List.length_append, List.length_map, List.length_take, List.length_drop]; omega)) (fun b1 o1 x1 hA1 hx1 => ?_)
  refine e_at 1 (((k : Int) - 1).toNat) rfl (by first | omega | (simp only [List.length_append, List.length_map, List.length_take, List.length_drop]; omega)) (fun b2 o2 x2 hA2 hx2 => ?_)
  refine c_draw (l := ticked 24 0) [(⟨b1, o1 + k * 11, none⟩, .int .i64 x1.id), (⟨b1, o1 + k * 11 + 1, none⟩, .int .i64 x1.fr.lv), (⟨b1, o1 + k * 11 + 2, none⟩, .int .u64 (x1.fr.cs : Int)), (⟨b1, o1 + k * 11 + 3, none⟩, .int .i64 x1.fr.ig), (⟨b1, o1 + k * 11 + 4, none⟩, .int .i64 x1.to.lv), (⟨b1, o1 + k * 11 + 5, none⟩, .int .u64 (x1.to.cs : Int)), (⟨b1, o1 + k * 11 + 6, none⟩, .int .i64 x1.to.ig), (⟨b1, o1 + k * 11 + 7, none⟩, .int .i64 x1.bu), (⟨b1, o1 + k * 11 + 8, none⟩, .int .i64 x1.wh.kd), (⟨b1, o1 + k * 11 + 9, none⟩, .int .i64 x1.wh.mx), (⟨b1, o1 + k * 11 + 10, none⟩, .string x1.wh.fm), (⟨b2, o2 + (((k : Int) - 1).toNat) * 11, none⟩, .int .i64 x2.id)] [] (by kernel_rfl) rfl rfl ?_
  refine b_y (i := 0) (v := .slice A l.length c) (ticked 24 1) rfl rfl (by exact y_mv rfl) ?_
  refine b_y (i := 1) (v := .int .i64 (k : Int)) (ticked 24 3) rfl rfl (by exact y_mv rfl) ?_
  refine b_y (i := 2) (v := .pointer (some ⟨b1, o1 + k * 11, none⟩)) (ticked 24 7) rfl rfl (by exact y_at (d := rulTy) (l := l) k hA1 rfl rfl rfl (rfl) (List.getElem?_eq_some_iff.1 hx1).1 Tryd.underlying22 (by kernel_rfl) (by kernel_rfl)) ?_
  refine a_held (i := 3) (ticked 24 15) rfl (by as_aux_lemma => kernel_rfl) rfl rfl rfl (held_fact (j := 0) 1 rfl rfl (held_fact (j := 1) 1 rfl rfl (held_fact (j := 2) 1 rfl rfl (held_fact (j := 3) 1 rfl rfl (held_fact (j := 4) 1 rfl rfl (held_fact (j := 5) 1 rfl rfl (held_fact (j := 6) 1 rfl rfl (held_fact (j := 7) 1 rfl rfl (held_fact (j := 8) 1 rfl rfl (held_fact (j := 9) 1 rfl rfl (held_fact (j := 10) 1 rfl rfl (held_fact (j := 0) 0 rfl rfl held_nil)))))))))))) (h_ldn (vs := [.int .i64 x1.id, .int .i64 x1.fr.lv, .int .u64 (x1.fr.cs : Int), .int .i64 x1.fr.ig, .int .i64 x1.to.lv, .int .u64 (x1.to.cs : Int), .int .i64 x1.to.ig, .int .i64 x1.bu, .int .i64 x1.wh.kd, .int .i64 x1.wh.mx, .string x1.wh.fm]) 0 11 rfl rfl rfl Tryd.underlying41 rfl (by kernel_rfl) (by kernel_rfl)) ?_
  refine a_each (rs := [4]) (by as_aux_lemma => kernel_rfl) (.cons (ticked 24 31) rfl rfl rfl (o_call [] [] (rIsRule_ x1 (by first | assumption | exact (by assumption : ∀ y ∈ _, rulSm y) _ (List.mem_of_getElem? (by assumption)))) rfl rfl rfl rfl rfl rfl (fun v L' I' hq1 => ?_)) .nil) (List.cons_ne_nil _ _)
  obtain ⟨hv1, rfl, rfl⟩ := hq1
  refine e_by (rulOk x1) (fun h2 => ?_) (fun h2 => ?_)
  ·
   obtain rfl : v = .bool true := by rw [hv1, decide_eq_true h2]
   refine a_and (held_fact (j := 0) 1 rfl rfl (held_fact (j := 1) 1 rfl rfl (held_fact (j := 2) 1 rfl rfl (held_fact (j := 3) 1 rfl rfl (held_fact (j := 4) 1 rfl rfl (held_fact (j := 5) 1 rfl rfl (held_fact (j := 6) 1 rfl rfl (held_fact (j := 7) 1 rfl rfl (held_fact (j := 8) 1 rfl rfl (held_fact (j := 9) 1 rfl rfl (held_fact (j := 10) 1 rfl rfl (held_fact (j := 0) 0 rfl rfl held_nil)))))))))))) ?_
   refine b_y (i := 5) (v := .bool false) (ticked 24 63) rfl rfl (by exact y_k rfl rfl (fun _ => by kernel_rfl)) ?_
   refine b_y (i := 6) (v := .bool false) (ticked 24 127) rfl rfl (by exact y_mv rfl) ?_
   refine b_yo (i := 7) (v := .int .i64 (k : Int)) 16 (ticked 24 255) rfl rfl rfl (by exact y_mv rfl) ?_
   refine e_by ((k : Int) > 0) (fun h3 => ?_) (fun h3 => ?_)
   ·
    refine b_yo (i := 8) (v := .bool true) 16 (ticked 24 511) rfl rfl rfl (by exact y_t (y_k (v := .bool (decide ((k : Int) > 0))) rfl rfl (fun _ => by kernel_rfl)) h3) ?_
    refine b_yo (i := 9) (v := .bool true) 16 (ticked 24 1023) rfl rfl rfl (by exact y_mv rfl) ?_
    refine b_yo (i := 10) (v := .slice A l.length c) 19 (ticked 24 2047) rfl rfl rfl (by exact y_mv rfl) ?_
    refine b_yo (i := 11) (v := .int .i64 (k : Int)) 19 (ticked 24 4095) rfl rfl rfl (by exact y_mv rfl) ?_
    refine b_yo (i := 12) (v := .int .i64 ((k : Int) - 1)) 19 (ticked 24 8191) rfl rfl rfl (by exact y_sub (r := (k : Int) - 1) rfl rfl rfl (by omega)) ?_
    refine b_yo (i := 13) (v := .pointer (some ⟨b2, o2 + (((k : Int) - 1).toNat) * 11, none⟩)) 19 (ticked 24 16383) rfl rfl rfl (by exact y_at (d := rulTy) (l := l) (((k : Int) - 1).toNat) hA2 rfl rfl rfl (by omega) (List.getElem?_eq_some_iff.1 hx2).1 Tryd.underlying22 (by kernel_rfl) (by kernel_rfl)) ?_
    refine b_yo (i := 14) (v := .pointer (some ⟨b2, o2 + (((k : Int) - 1).toNat) * 11, none⟩)) 19 (ticked 24 32767) rfl rfl rfl (by exact y_k rfl rfl (fun _ => by kernel_rfl)) ?_
    refine b_yo (i := 16) (v := .slice A l.length c) 19 (ticked 24 98303) rfl rfl rfl (by exact y_mv rfl) ?_
    refine b_yo (i := 17) (v := .int .i64 (k : Int)) 19 (ticked 24 229375) rfl rfl rfl (by exact y_mv rfl) ?_
    refine b_yo (i := 18) (v := .pointer (some ⟨b1, o1 + k * 11, none⟩)) 19 (ticked 24 491519) rfl rfl rfl (by exact y_at (d := rulTy) (l := l) k hA1 rfl rfl rfl (rfl) (List.getElem?_eq_some_iff.1 hx1).1 Tryd.underlying22 (by kernel_rfl) (by kernel_rfl)) ?_
    refine b_yo (i := 19) (v := .pointer (some ⟨b1, o1 + k * 11, none⟩)) 19 (ticked 24 1015807) rfl rfl rfl (by exact y_k rfl rfl (fun _ => by kernel_rfl)) ?_
    refine a_held_on (i := 15) 19 (ticked 24 1048575) rfl (by as_aux_lemma => kernel_rfl) rfl rfl rfl rfl rfl (held_fact (j := 0) 1 rfl rfl (held_fact (j := 1) 1 rfl rfl (held_fact (j := 2) 1 rfl rfl (held_fact (j := 3) 1 rfl rfl (held_fact (j := 4) 1 rfl rfl (held_fact (j := 5) 1 rfl rfl (held_fact (j := 6) 1 rfl rfl (held_fact (j := 7) 1 rfl rfl (held_fact (j := 8) 1 rfl rfl (held_fact (j := 9) 1 rfl rfl (held_fact (j := 10) 1 rfl rfl (held_fact (j := 0) 0 rfl rfl held_nil)))))))))))) (h_ld 11 rfl rfl Tryd.underlying3 rfl) ?_
    refine a_held_on (i := 20) 19 (ticked 24 2097151) rfl (by as_aux_lemma => kernel_rfl) rfl rfl rfl rfl rfl (held_fact (j := 0) 1 rfl rfl (held_fact (j := 1) 1 rfl rfl (held_fact (j := 2) 1 rfl rfl (held_fact (j := 3) 1 rfl rfl (held_fact (j := 4) 1 rfl rfl (held_fact (j := 5) 1 rfl rfl (held_fact (j := 6) 1 rfl rfl (held_fact (j := 7) 1 rfl rfl (held_fact (j := 8) 1 rfl rfl (held_fact (j := 9) 1 rfl rfl (held_fact (j := 10) 1 rfl rfl (held_fact (j := 0) 0 rfl rfl held_nil)))))))))))) (h_ld 0 rfl rfl Tryd.underlying3 rfl) ?_
    refine e_by (x2.id ≥ x1.id) (fun h4 => ?_) (fun h4 => ?_)
    ·
     refine b_yo (i := 21) (v := .bool true) 19 (ticked 24 4194303) rfl rfl rfl (by exact y_t (y_k (v := .bool (decide (x2.id ≥ x1.id))) rfl rfl (fun _ => by kernel_rfl)) h4) ?_
     refine b_yo (i := 22) (v := .bool true) 16 (ticked 24 8388607) rfl rfl rfl (by exact y_pick rfl rfl) ?_
     refine b_y (i := 23) (v := .bool true) (ticked 24 16777215) rfl rfl (by exact y_pick rfl rfl) ?_
     refine a_done (by as_aux_lemma => kernel_rfl) ?_
     refine q_then (c_true rfl (c_seq (c_region ?_)))
     refine s_y rfl (v := .bool false) (y_as rfl) rfl ?_
     refine s_nil (q_then (c_ret (q_block_ret (q_then_ret (q_then_ret (q_block_ret (q_then_ret ?_)))))))
     refine c_fin (I' := []) [] [2] rfl (.tmp rfl .nil) rfl rfl rfl ?_
     exact ⟨dec_f (by first | exact rules_end hF (by omega) (by omega) | exact fun q => absurd q.2 (by omega) | (intro q; have q2 := (rulesFrom_at hx1).1 (hF.1 q.1); obtain ⟨q3, q4, q5⟩ := q2; first | omega | contradiction | exact rl_2 (by assumption) (by assumption) (by assumption) q4)), rfl, rfl⟩
    ·
     refine b_yo (i := 21) (v := .bool false) 19 (ticked 24 4194303) rfl rfl rfl (by exact y_f (y_k (v := .bool (decide (x2.id ≥ x1.id))) rfl rfl (fun _ => by kernel_rfl)) h4) ?_
     refine b_yo (i := 22) (v := .bool false) 16 (ticked 24 8388607) rfl rfl rfl (by exact y_pick rfl rfl) ?_
     refine b_y (i := 23) (v := .bool false) (ticked 24 16777215) rfl rfl (by exact y_pick rfl rfl) ?_
     refine a_done (by as_aux_lemma => kernel_rfl) ?_
     refine q_then (c_false rfl (c_skip (q_block (q_then (c_region ?_)))))
     refine s_y rfl (v := .int .i64 (k : Int)) (y_mv rfl) rfl ?_
     refine s_y rfl (v := .int .i64 ((k : Int) + 1)) (y_add (r := (k : Int) + 1) rfl rfl rfl (by omega)) rfl ?_
     refine s_y rfl (v := .int .i64 ((k : Int) + 1)) (y_as rfl) rfl ?_
     refine s_nil (q_then ?_)
     refine c_next [] [2] (k + 1) ?_ ?_ ?_ (by rfl) (by rfl)
     · exact (show ((k + 1) ≤ l.length) ∧ (rulesFrom 0 l ↔ rulesFrom (lastId l (k + 1)) (l.drop (k + 1))) from ⟨by first | omega | simp_all | (simp; done), rl_step hF hx1 (by assumption) (by first | exact rl_0 (by assumption) (by assumption) | exact rl_1 (by assumption) (by assumption) (by assumption))⟩)
     · show l.length - (k + 1) < l.length - k; omega
     · exact (.cons rfl rfl (.cons rfl (show (.int .i64 ((k : Int) + 1) : Value) = .int .i64 ((k + 1) : Int) from by first | rfl | (congr 1; omega) | (congr 1; simp; done) | (congr 1; simp; omega)) .nil))
   ·
    refine b_yo (i := 8) (v := .bool false) 16 (ticked 24 511) rfl rfl rfl (by exact y_f (y_k (v := .bool (decide ((k : Int) > 0))) rfl rfl (fun _ => by kernel_rfl)) h3) ?_
    refine b_yo (i := 9) (v := .bool false) 16 (ticked 24 1023) rfl rfl rfl (by exact y_mv rfl) ?_
    refine b_f (i := 10) 19 (ticked 24 2047) rfl rfl rfl rfl ?_
    refine b_f (i := 11) 19 (ticked 24 4095) rfl rfl rfl rfl ?_
    refine b_f (i := 12) 19 (ticked 24 8191) rfl rfl rfl rfl ?_
    refine b_f (i := 13) 19 (ticked 24 16383) rfl rfl rfl rfl ?_
    refine b_f (i := 14) 19 (ticked 24 32767) rfl rfl rfl rfl ?_
    refine b_f (i := 15) 19 (ticked 24 65535) rfl rfl rfl rfl ?_
    refine b_f (i := 16) 19 (ticked 24 131071) rfl rfl rfl rfl ?_
    refine b_f (i := 17) 19 (ticked 24 262143) rfl rfl rfl rfl ?_
    refine b_f (i := 18) 19 (ticked 24 524287) rfl rfl rfl rfl ?_
    refine b_f (i := 19) 19 (ticked 24 1048575) rfl rfl rfl rfl ?_
    refine b_f (i := 20) 19 (ticked 24 2097151) rfl rfl rfl rfl ?_
    refine b_f (i := 21) 19 (ticked 24 4194303) rfl rfl rfl rfl ?_
    refine b_yo (i := 22) (v := .bool false) 16 (ticked 24 8388607) rfl rfl rfl (by exact y_pick rfl rfl) ?_
    refine b_y (i := 23) (v := .bool false) (ticked 24 16777215) rfl rfl (by exact y_pick rfl rfl) ?_
    refine a_done (by as_aux_lemma => kernel_rfl) ?_
    refine q_then (c_false rfl (c_skip (q_block (q_then (c_region ?_)))))
    refine s_y rfl (v := .int .i64 (k : Int)) (y_mv rfl) rfl ?_
    refine s_y rfl (v := .int .i64 ((k : Int) + 1)) (y_add (r := (k : Int) + 1) rfl rfl rfl (by omega)) rfl ?_
    refine s_y rfl (v := .int .i64 ((k : Int) + 1)) (y_as rfl) rfl ?_
    refine s_nil (q_then ?_)
    refine c_next [] [2] (k + 1) ?_ ?_ ?_ (by rfl) (by rfl)
    · exact (show ((k + 1) ≤ l.length) ∧ (rulesFrom 0 l ↔ rulesFrom (lastId l (k + 1)) (l.drop (k + 1))) from ⟨by first | omega | simp_all | (simp; done), rl_step hF hx1 (by assumption) (by first | exact rl_0 (by assumption) (by assumption) | exact rl_1 (by assumption) (by assumption) (by assumption))⟩)
    · show l.length - (k + 1) < l.length - k; omega
    · exact (.cons rfl rfl (.cons rfl (show (.int .i64 ((k : Int) + 1) : Value) = .int .i64 ((k + 1) : Int) from by first | rfl | (congr 1; omega) | (congr 1; simp; done) | (congr 1; simp; omega)) .nil))
  ·
   obtain rfl : v = .bool false := by rw [hv1, decide_eq_false h2]
   refine a_and (held_fact (j := 0) 1 rfl rfl (held_fact (j := 1) 1 rfl rfl (held_fact (j := 2) 1 rfl rfl (held_fact (j := 3) 1 rfl rfl (held_fact (j := 4) 1 rfl rfl (held_fact (j := 5) 1 rfl rfl (held_fact (j := 6) 1 rfl rfl (held_fact (j := 7) 1 rfl rfl (held_fact (j := 8) 1 rfl rfl (held_fact (j := 9) 1 rfl rfl (held_fact (j := 10) 1 rfl rfl (held_fact (j := 0) 0 rfl rfl held_nil)))))))))))) ?_
   refine b_y (i := 5) (v := .bool true) (ticked 24 63) rfl rfl (by exact y_k rfl rfl (fun _ => by kernel_rfl)) ?_
   refine b_y (i := 6) (v := .bool true) (ticked 24 127) rfl rfl (by exact y_mv rfl) ?_
   refine b_f (i := 7) 16 (ticked 24 255) rfl rfl rfl rfl ?_
   refine b_f (i := 8) 16 (ticked 24 511) rfl rfl rfl rfl ?_
   refine b_f (i := 9) 16 (ticked 24 1023) rfl rfl rfl rfl ?_
   refine b_u (i := 10) 19 (ticked 24 2047) rfl rfl rfl ?_
   refine b_u (i := 11) 19 (ticked 24 4095) rfl rfl rfl ?_
   refine b_u (i := 12) 19 (ticked 24 8191) rfl rfl rfl ?_
   refine b_u (i := 13) 19 (ticked 24 16383) rfl rfl rfl ?_
   refine b_u (i := 14) 19 (ticked 24 32767) rfl rfl rfl ?_
   refine b_u (i := 15) 19 (ticked 24 65535) rfl rfl rfl ?_
   refine b_u (i := 16) 19 (ticked 24 131071) rfl rfl rfl ?_
   refine b_u (i := 17) 19 (ticked 24 262143) rfl rfl rfl ?_
   refine b_u (i := 18) 19 (ticked 24 524287) rfl rfl rfl ?_
   refine b_u (i := 19) 19 (ticked 24 1048575) rfl rfl rfl ?_
   refine b_u (i := 20) 19 (ticked 24 2097151) rfl rfl rfl ?_
   refine b_u (i := 21) 19 (ticked 24 4194303) rfl rfl rfl ?_
   refine b_f (i := 22) 16 (ticked 24 8388607) rfl rfl rfl rfl ?_
   refine b_y (i := 23) (v := .bool true) (ticked 24 16777215) rfl rfl (by exact y_pick rfl rfl) ?_
   refine a_done (by as_aux_lemma => kernel_rfl) ?_
   refine q_then (c_true rfl (c_seq (c_region ?_)))
   refine s_y rfl (v := .bool false) (y_as rfl) rfl ?_
   refine s_nil (q_then (c_ret (q_block_ret (q_then_ret (q_then_ret (q_block_ret (q_then_ret ?_)))))))
   refine c_fin (I' := []) [] [2] rfl (.tmp rfl .nil) rfl rfl rfl ?_
   exact ⟨dec_f (by first | exact rules_end hF (by omega) (by omega) | exact fun q => absurd q.2 (by omega) | (intro q; have q2 := (rulesFrom_at hx1).1 (hF.1 q.1); obtain ⟨q3, q4, q5⟩ := q2; first | omega | contradiction | exact rl_2 (by assumption) (by assumption) (by assumption) q4)), rfl, rfl⟩
 ·
  refine s_y rfl (v := .bool false) (y_f (y_k (v := .bool (decide ((k : Int) < (l.length : Int)))) rfl rfl (fun _ => by kernel_rfl)) h1) rfl ?_
  refine s_nil (q_then (c_false rfl ?_))
  refine c_exit ?_
  refine q_then_exit ?_
  refine q_then_exit ?_
  refine q_block_here ?_
  refine q_then (c_seq (c_region ?_))
  refine s_y rfl (v := .slice A l.length c) (y_mv rfl) rfl ?_
  refine s_y rfl (v := .int .i64 (l.length : Int)) (y_k rfl rfl (fun _ => by kernel_rfl)) rfl ?_
  refine e_by ((l.length : Int) ≤ 8) (fun h5 => ?_) (fun h5 => ?_)
  ·
   refine s_y rfl (v := .bool true) (y_t (y_k (v := .bool (decide ((l.length : Int) ≤ 8))) rfl rfl (fun _ => by kernel_rfl)) h5) rfl ?_
   refine s_y rfl (v := .bool true) (y_as rfl) rfl ?_
   refine s_nil (q_then (c_ret ?_))
   refine c_fin (I' := []) [] [0] rfl (.tmp rfl .nil) rfl rfl rfl ?_
   exact ⟨dec_t (by first | exact rules_end hF (by omega) (by omega) | exact fun q => absurd q.2 (by omega) | (intro q; have q2 := (rulesFrom_at hx1).1 (hF.1 q.1); obtain ⟨q3, q4, q5⟩ := q2; first | omega | contradiction | exact rl_2 (by assumption) (by assumption) (by assumption) q4)), rfl, rfl⟩
  ·
   refine s_y rfl (v := .bool false) (y_f (y_k (v := .bool (decide ((l.length : Int) ≤ 8))) rfl rfl (fun _ => by kernel_rfl)) h5) rfl ?_
   refine s_y rfl (v := .bool false) (y_as rfl) rfl ?_
   refine s_nil (q_then (c_ret ?_))
   refine c_fin (I' := []) [] [0] rfl (.tmp rfl .nil) rfl rfl rfl ?_
   exact ⟨dec_f (by first | exact rules_end hF (by omega) (by omega) | exact fun q => absurd q.2 (by omega) | (intro q; have q2 := (rulesFrom_at hx1).1 (hF.1 q.1); obtain ⟨q3, q4, q5⟩ := q2; first | omega | contradiction | exact rl_2 (by assumption) (by assumption) (by assumption) q4)), rfl, rfl⟩
theorem Find_ (A : Option Addr) (c : Nat) (l : List Rul) (id : Int) (hn : l.length ≤ 100000) : Con Tryd.prog 25 [.slice A l.length c, .int .i64 id] [] [rd rulTy A c l] (fun v L' I' => (∃ r : Rul, (findR l id = some r) ∧ v = .tuple #[.agg #[.int .i64 r.id, .int .i64 r.fr.lv, .int .u64 (r.fr.cs : Int), .int .i64 r.fr.ig, .int .i64 r.to.lv, .int .u64 (r.to.cs : Int), .int .i64 r.to.ig, .int .i64 r.bu, .int .i64 r.wh.kd, .int .i64 r.wh.mx, .string r.wh.fm], .bool true] ∧ L' = [] ∧ I' = []) ∨ ((findR l id = none) ∧ v = .tuple #[.agg #[.int .i64 0, .int .i64 0, .int .u64 0, .int .i64 0, .int .i64 0, .int .u64 0, .int .i64 0, .int .i64 0, .int .i64 0, .int .i64 0, .string (⟨#[]⟩ : ByteArray)], .bool false] ∧ L' = [] ∧ I' = [])) := by
 refine fn_of Tryd.func25 rfl Tryd.ntmps25 (by kernel_rfl) rfl (fun C => ?_)
 refine c_seq (c_region ?_)
 refine st rfl (o_box (cs := [.int .i64 0, .int .i64 0, .int .u64 0, .int .i64 0, .int .i64 0, .int .u64 0, .int .i64 0, .int .i64 0, .int .i64 0, .int .i64 0, .string (⟨#[]⟩ : ByteArray)]) (T := 41) rfl rfl rfl rfl (fun _ => by kernel_rfl) (fun b1 => ?_))
 refine s_y rfl (v := .bool false) (y_as rfl) rfl ?_
 refine s_nil (q_then (c_seq (c_seq (c_region ?_))))
 refine s_y rfl (v := .slice A l.length c) (y_mv rfl) rfl ?_
 refine s_y rfl (v := .int .i64 (l.length : Int)) (y_k rfl rfl (fun _ => by kernel_rfl)) rfl ?_
 refine s_y rfl (v := .int .i64 0) (y_mv rfl) rfl ?_
 refine s_nil (q_then (c_block ?_))
 refine c_loopn (ι := Nat) (fun k => (k ≤ l.length) ∧ (findR l id = findR (l.drop k) id)) (fun k => [(1, .int .i64 id), (4, .pointer (some ⟨b1, 0, none⟩)), (8, .slice A l.length c), (9, .int .i64 (l.length : Int)), (10, .int .i64 (k : Int))]) (fun k => [pt b1 [.int .i64 0, .int .i64 0, .int .u64 0, .int .i64 0, .int .i64 0, .int .u64 0, .int .i64 0, .int .i64 0, .int .i64 0, .int .i64 0, .string (⟨#[]⟩ : ByteArray)] 41]) (fun k => [rd rulTy A c l]) (fun k => l.length - k) (0) [0] [0] (show (0 ≤ l.length) ∧ (findR l id = findR (l.drop 0) id) from ⟨by first | omega | simp_all | (simp; done), rfl⟩) ((.cons rfl rfl (.cons rfl rfl (.cons rfl rfl (.cons rfl rfl (.cons rfl rfl .nil)))))) rfl rfl ?_
 rintro k ⟨hk, hb⟩
 show Ent 21 C [(1, .int .i64 id), (4, .pointer (some ⟨b1, 0, none⟩)), (8, .slice A l.length c), (9, .int .i64 (l.length : Int)), (10, .int .i64 (k : Int))] [] [pt b1 [.int .i64 0, .int .i64 0, .int .u64 0, .int .i64 0, .int .i64 0, .int .u64 0, .int .i64 0, .int .i64 0, .int .i64 0, .int .i64 0, .string (⟨#[]⟩ : ByteArray)] 41] [rd rulTy A c l] _
 refine c_seq (c_region ?_)
 refine e_by ((k : Int) < (l.length : Int)) (fun h1 => ?_) (fun h1 => ?_)
 ·
  refine s_y rfl (v := .bool true) (y_t (y_k (v := .bool (decide ((k : Int) < (l.length : Int)))) rfl rfl (fun _ => by kernel_rfl)) h1) rfl ?_
  refine s_nil (q_then (c_seq (c_true rfl (c_skip (q_then (c_seq (c_block (c_seq (c_region ?_)))))))))
  refine e_at 0 k rfl (by first | omega | (simp only [List.length_append, List.length_map, List.length_take, List.length_drop]; omega)) (fun b2 o1 x1 hA1 hx1 => ?_)
  refine s_y rfl (v := .pointer (some ⟨b2, o1 + k * 11, none⟩)) (y_at (d := rulTy) (l := l) k hA1 rfl rfl rfl (rfl) (List.getElem?_eq_some_iff.1 hx1).1 Tryd.underlying22 (by kernel_rfl) (by kernel_rfl)) rfl ?_
  refine st rfl (o_ldnf 0 0 11 rfl rfl rfl rfl Tryd.underlying41 rfl (by kernel_rfl) (by kernel_rfl) rfl ?_)
  refine st rfl (o_box (cs := [.int .i64 0, .int .i64 0, .int .u64 0, .int .i64 0, .int .i64 0, .int .u64 0, .int .i64 0, .int .i64 0, .int .i64 0, .int .i64 0, .string (⟨#[]⟩ : ByteArray)]) (T := 41) rfl rfl rfl rfl (fun _ => by kernel_rfl) (fun b3 => ?_))
  refine st rfl (o_st 0 rfl rfl rfl rfl rfl (by kernel_rfl) (by kernel_rfl) rfl ?_)
  refine s_nil (q_then (c_seq (c_region ?_)))
  refine s_y rfl (v := .pointer (some ⟨b3, 0, none⟩)) (y_k rfl rfl (fun _ => by kernel_rfl)) rfl ?_
  refine st rfl (o_ld 0 rfl rfl rfl Tryd.underlying3 rfl rfl ?_)
  refine s_y rfl (v := .int .i64 id) (y_mv rfl) rfl ?_
  refine e_by (x1.id = id) (fun h2 => ?_) (fun h2 => ?_)
  ·
   refine s_y rfl (v := .bool true) (y_t (y_k (v := .bool (decide (x1.id = id))) rfl rfl (fun _ => by kernel_rfl)) h2) rfl ?_
   refine s_nil (q_then (c_true rfl (c_seq (c_region ?_))))
   refine st rfl (o_ldn 0 11 rfl rfl rfl rfl Tryd.underlying41 rfl (by kernel_rfl) (by kernel_rfl) rfl ?_)
   refine st rfl (o_st 1 rfl rfl rfl rfl rfl (by kernel_rfl) (by kernel_rfl) rfl ?_)
   refine s_y rfl (v := .bool true) (y_as rfl) rfl ?_
   refine s_nil (q_then (c_ret (q_block_ret (q_then_ret (q_then_ret (q_block_ret (q_then_ret ?_)))))))
   refine c_fin (I' := []) [] [1] rfl (.agg 1 11 rfl rfl rfl rfl Tryd.underlying41 rfl (by kernel_rfl) (by kernel_rfl) (.tmp rfl .nil)) rfl rfl rfl ?_
   exact .inl ⟨x1, by first | exact find_yes hb hx1 (by assumption) | exact find_none hb (by omega), rfl, rfl, rfl⟩
  ·
   refine s_y rfl (v := .bool false) (y_f (y_k (v := .bool (decide (x1.id = id))) rfl rfl (fun _ => by kernel_rfl)) h2) rfl ?_
   refine s_nil (q_then (c_false rfl (c_skip (q_block (q_then (c_region ?_))))))
   refine s_y rfl (v := .int .i64 ((k : Int) + 1)) (y_add (r := (k : Int) + 1) rfl rfl rfl (by omega)) rfl ?_
   refine s_y rfl (v := .int .i64 ((k : Int) + 1)) (y_mv rfl) rfl ?_
   refine s_nil (q_then ?_)
   refine c_next [1] [1] (k + 1) ?_ ?_ ?_ (by rfl) (by rfl)
   · exact (show ((k + 1) ≤ l.length) ∧ (findR l id = findR (l.drop (k + 1)) id) from ⟨by first | omega | simp_all | (simp; done), find_next hb hx1 (by assumption)⟩)
   · show l.length - (k + 1) < l.length - k; omega
   · exact (.cons rfl rfl (.cons rfl rfl (.cons rfl rfl (.cons rfl rfl (.cons rfl (show (.int .i64 ((k : Int) + 1) : Value) = .int .i64 ((k + 1) : Int) from by first | rfl | (congr 1; omega) | (congr 1; simp; done) | (congr 1; simp; omega)) .nil)))))
 ·
  refine s_y rfl (v := .bool false) (y_f (y_k (v := .bool (decide ((k : Int) < (l.length : Int)))) rfl rfl (fun _ => by kernel_rfl)) h1) rfl ?_
  refine s_nil (q_then (c_seq (c_false rfl ?_)))
  refine c_exit ?_
  refine q_then_exit ?_
  refine q_then_exit ?_
  refine q_block_here ?_
  refine q_then (c_seq (c_region ?_))
  refine s_y rfl (v := .agg #[.int .i64 0, .int .i64 0, .int .u64 0, .int .i64 0, .int .i64 0, .int .u64 0, .int .i64 0, .int .i64 0, .int .i64 0, .int .i64 0, .string (⟨#[]⟩ : ByteArray)]) (y_k rfl rfl (fun _ => by kernel_rfl)) rfl ?_
  refine st rfl (o_st 0 rfl rfl rfl rfl rfl (by kernel_rfl) (by kernel_rfl) rfl ?_)
  refine s_y rfl (v := .bool false) (y_as rfl) rfl ?_
  refine s_nil (q_then (c_ret ?_))
  refine c_fin (I' := []) [] [0] rfl (.agg 0 11 rfl rfl rfl rfl Tryd.underlying41 rfl (by kernel_rfl) (by kernel_rfl) (.tmp rfl .nil)) rfl rfl rfl ?_
  exact .inr ⟨by first | exact find_yes hb hx1 (by assumption) | exact find_none hb (by omega), rfl, rfl, rfl⟩
theorem rFind_ (A : Option Addr) (c : Nat) (l : List Rul) (id : Int) (hn : l.length ≤ 100000) : Con Tryd.prog 16 [.slice A l.length c, .int .i64 id] [] [rd rulTy A c l] (fun v L' I' => (∃ r : Rul, (findR l id = some r) ∧ v = .tuple #[.agg #[.int .i64 r.id, .int .i64 r.fr.lv, .int .u64 (r.fr.cs : Int), .int .i64 r.fr.ig, .int .i64 r.to.lv, .int .u64 (r.to.cs : Int), .int .i64 r.to.ig, .int .i64 r.bu, .int .i64 r.wh.kd, .int .i64 r.wh.mx, .string r.wh.fm], .bool true] ∧ L' = [] ∧ I' = []) ∨ ((findR l id = none) ∧ v = .tuple #[.agg #[.int .i64 0, .int .i64 0, .int .u64 0, .int .i64 0, .int .i64 0, .int .u64 0, .int .i64 0, .int .i64 0, .int .i64 0, .int .i64 0, .string (⟨#[]⟩ : ByteArray)], .bool false] ∧ L' = [] ∧ I' = [])) := by
 refine fn_of Tryd.func16 rfl Tryd.ntmps16 (by kernel_rfl) rfl (fun C => ?_)
 refine c_seq (c_region ?_)
 refine st rfl (o_box (cs := [.int .i64 0, .int .i64 0, .int .u64 0, .int .i64 0, .int .i64 0, .int .u64 0, .int .i64 0, .int .i64 0, .int .i64 0, .int .i64 0, .string (⟨#[]⟩ : ByteArray)]) (T := 41) rfl rfl rfl rfl (fun _ => by kernel_rfl) (fun b1 => ?_))
 refine s_y rfl (v := .bool false) (y_as rfl) rfl ?_
 refine s_nil (q_then (c_seq (c_seq (c_region ?_))))
 refine s_y rfl (v := .int .i64 0) (y_as rfl) rfl ?_
 refine s_nil (q_then (c_block ?_))
 refine c_loopn (ι := Nat) (fun k => (k ≤ l.length) ∧ (findR l id = findR (l.drop k) id)) (fun k => [(0, .slice A l.length c), (1, .int .i64 id), (4, .pointer (some ⟨b1, 0, none⟩)), (6, .int .i64 (k : Int))]) (fun k => [pt b1 [.int .i64 0, .int .i64 0, .int .u64 0, .int .i64 0, .int .i64 0, .int .u64 0, .int .i64 0, .int .i64 0, .int .i64 0, .int .i64 0, .string (⟨#[]⟩ : ByteArray)] 41]) (fun k => [rd rulTy A c l]) (fun k => l.length - k) (0) [0] [0] (show (0 ≤ l.length) ∧ (findR l id = findR (l.drop 0) id) from ⟨by first | omega | simp_all | (simp; done), rfl⟩) ((.cons rfl rfl (.cons rfl rfl (.cons rfl rfl (.cons rfl rfl .nil))))) rfl rfl ?_
 rintro k ⟨hk, hb⟩
 show Ent 25 C [(0, .slice A l.length c), (1, .int .i64 id), (4, .pointer (some ⟨b1, 0, none⟩)), (6, .int .i64 (k : Int))] [] [pt b1 [.int .i64 0, .int .i64 0, .int .u64 0, .int .i64 0, .int .i64 0, .int .u64 0, .int .i64 0, .int .i64 0, .int .i64 0, .int .i64 0, .string (⟨#[]⟩ : ByteArray)] 41] [rd rulTy A c l] _
 refine c_seq (c_seq (c_region ?_))
 refine s_y rfl (v := .int .i64 (k : Int)) (y_mv rfl) rfl ?_
 refine s_y rfl (v := .slice A l.length c) (y_mv rfl) rfl ?_
 refine s_y rfl (v := .int .i64 (l.length : Int)) (y_k rfl rfl (fun _ => by kernel_rfl)) rfl ?_
 refine e_by ((k : Int) < (l.length : Int)) (fun h1 => ?_) (fun h1 => ?_)
 ·
  refine s_y rfl (v := .bool true) (y_t (y_k (v := .bool (decide ((k : Int) < (l.length : Int)))) rfl rfl (fun _ => by kernel_rfl)) h1) rfl ?_
  refine s_nil (q_then (c_true rfl (c_skip (q_then (c_seq (c_block (c_seq (c_region ?_))))))))
  refine s_y rfl (v := .slice A l.length c) (y_mv rfl) rfl ?_
  refine s_y rfl (v := .int .i64 (k : Int)) (y_mv rfl) rfl ?_
  refine e_at 0 k rfl (by first | omega | (simp only [List.length_append, List.length_map, List.length_take, List.length_drop]; omega)) (fun b2 o1 x1 hA1 hx1 => ?_)
  refine s_y rfl (v := .pointer (some ⟨b2, o1 + k * 11, none⟩)) (y_at (d := rulTy) (l := l) k hA1 rfl rfl rfl (rfl) (List.getElem?_eq_some_iff.1 hx1).1 Tryd.underlying22 (by kernel_rfl) (by kernel_rfl)) rfl ?_
  refine s_y rfl (v := .pointer (some ⟨b2, o1 + k * 11, none⟩)) (y_k rfl rfl (fun _ => by kernel_rfl)) rfl ?_
  refine st rfl (o_ldf 0 0 rfl rfl rfl Tryd.underlying3 rfl rfl ?_)
  refine s_y rfl (v := .int .i64 id) (y_mv rfl) rfl ?_
  refine e_by (x1.id = id) (fun h2 => ?_) (fun h2 => ?_)
  ·
   refine s_y rfl (v := .bool true) (y_t (y_k (v := .bool (decide (x1.id = id))) rfl rfl (fun _ => by kernel_rfl)) h2) rfl ?_
   refine s_nil (q_then (c_true rfl (c_seq (c_region ?_))))
   refine s_y rfl (v := .slice A l.length c) (y_mv rfl) rfl ?_
   refine s_y rfl (v := .int .i64 (k : Int)) (y_mv rfl) rfl ?_
   refine s_y rfl (v := .pointer (some ⟨b2, o1 + k * 11, none⟩)) (y_at (d := rulTy) (l := l) k hA1 rfl rfl rfl (rfl) (List.getElem?_eq_some_iff.1 hx1).1 Tryd.underlying22 (by kernel_rfl) (by kernel_rfl)) rfl ?_
   refine st rfl (o_ldnf 0 0 11 rfl rfl rfl rfl Tryd.underlying41 rfl (by kernel_rfl) (by kernel_rfl) rfl ?_)
   refine st rfl (o_st 0 rfl rfl rfl rfl rfl (by kernel_rfl) (by kernel_rfl) rfl ?_)
   refine s_y rfl (v := .bool true) (y_as rfl) rfl ?_
   refine s_nil (q_then (c_ret (q_block_ret (q_then_ret (q_then_ret (q_block_ret (q_then_ret ?_)))))))
   refine c_fin (I' := []) [] [1] rfl (.agg 0 11 rfl rfl rfl rfl Tryd.underlying41 rfl (by kernel_rfl) (by kernel_rfl) (.tmp rfl .nil)) rfl rfl rfl ?_
   exact .inl ⟨x1, by first | exact find_yes hb hx1 (by assumption) | exact find_none hb (by omega), rfl, rfl, rfl⟩
  ·
   refine s_y rfl (v := .bool false) (y_f (y_k (v := .bool (decide (x1.id = id))) rfl rfl (fun _ => by kernel_rfl)) h2) rfl ?_
   refine s_nil (q_then (c_false rfl (c_skip (q_block (q_then (c_region ?_))))))
   refine s_y rfl (v := .int .i64 (k : Int)) (y_mv rfl) rfl ?_
   refine s_y rfl (v := .int .i64 ((k : Int) + 1)) (y_add (r := (k : Int) + 1) rfl rfl rfl (by omega)) rfl ?_
   refine s_y rfl (v := .int .i64 ((k : Int) + 1)) (y_as rfl) rfl ?_
   refine s_nil (q_then ?_)
   refine c_next [0] [1] (k + 1) ?_ ?_ ?_ (by rfl) (by rfl)
   · exact (show ((k + 1) ≤ l.length) ∧ (findR l id = findR (l.drop (k + 1)) id) from ⟨by first | omega | simp_all | (simp; done), find_next hb hx1 (by assumption)⟩)
   · show l.length - (k + 1) < l.length - k; omega
   · exact (.cons rfl rfl (.cons rfl rfl (.cons rfl rfl (.cons rfl (show (.int .i64 ((k : Int) + 1) : Value) = .int .i64 ((k + 1) : Int) from by first | rfl | (congr 1; omega) | (congr 1; simp; done) | (congr 1; simp; omega)) .nil))))
 ·
  refine s_y rfl (v := .bool false) (y_f (y_k (v := .bool (decide ((k : Int) < (l.length : Int)))) rfl rfl (fun _ => by kernel_rfl)) h1) rfl ?_
  refine s_nil (q_then (c_false rfl ?_))
  refine c_exit ?_
  refine q_then_exit ?_
  refine q_then_exit ?_
  refine q_block_here ?_
  refine q_then (c_seq (c_region ?_))
  refine s_y rfl (v := .agg #[.int .i64 0, .int .i64 0, .int .u64 0, .int .i64 0, .int .i64 0, .int .u64 0, .int .i64 0, .int .i64 0, .int .i64 0, .int .i64 0, .string (⟨#[]⟩ : ByteArray)]) (y_k rfl rfl (fun _ => by kernel_rfl)) rfl ?_
  refine st rfl (o_st 0 rfl rfl rfl rfl rfl (by kernel_rfl) (by kernel_rfl) rfl ?_)
  refine s_y rfl (v := .bool false) (y_as rfl) rfl ?_
  refine s_nil (q_then (c_ret ?_))
  refine c_fin (I' := []) [] [0] rfl (.agg 0 11 rfl rfl rfl rfl Tryd.underlying41 rfl (by kernel_rfl) (by kernel_rfl) (.tmp rfl .nil)) rfl rfl rfl ?_
  exact .inr ⟨by first | exact find_yes hb hx1 (by assumption) | exact find_none hb (by omega), rfl, rfl, rfl⟩
end Go.Proofs.YthehnjbdkjnlpaaDoor
