/- The laws of chapter 17 (call), walked over the given program; no condition but what stands in each theorem: part LF. -/
import Derived.Test.YtcnncdniibkjkaaGreatDoorRLD
set_option linter.unusedVariables false
set_option linter.unusedSimpArgs false
set_option maxRecDepth 100000
set_option maxHeartbeats 8000000
namespace Go.Proofs.YtcnncdniibkjkaaGreatDoor
open Go Go.Sl Go.RowKit Go.Extern.Stop Go.Stop Go.Extern
theorem next_ (b : Nat) (r : ByteArray) (q : Ec) (ea : Addr) (em : Addr) (ef : Addr) (el : Addr) (h12 : ea ≠ em) (h13 : ea ≠ ef) (h23 : em ≠ ef) (hr : r.size ≤ 9223372036854775807) : Con Tryz.prog 85 [.pointer (some ⟨b, 0, none⟩)] [pt b [.string r, ecV q] 137] [cellsAt 2 0 [.iface 180 (.pointer (some ea))], cellsAt 3 0 [.iface 180 (.pointer (some em))], cellsAt 1 0 [.iface 180 (.pointer (some ef))], errAt ea, errAt em, errAt ef, cellsAt 4 0 [.iface 180 (.pointer (some el))], errAt el, cellsAt 0 0 [.iface 147 (.agg #[.pointer (some ⟨5, 48, none⟩)])]] (fun v L' I' => v = .agg #[.int .i64 (((nextF r q).1).lv), .int .u64 (((nextF r q).1).cs : Int), .int .i64 (((nextF r q).1).ig)] ∧ L' = [pt b [.string ((nextF r q).2.1), ecV (nextF r q).2.2] 137] ∧ I' = []) := by
 refine fn_of Tryz.func85 rfl Tryz.ntmps85 (by kernel_rfl) rfl (fun C => ?_)
 refine c_seq (c_region ?_)
 refine st rfl (o_box (cs := [.int .i64 0, .int .u64 0, .int .i64 0]) (T := 24) rfl rfl rfl rfl (fun _ => by kernel_rfl) (fun b1 => ?_))
 refine s_nil (q_then (c_seq (c_seq (c_region ?_))))
 refine s_y rfl (v := .pointer (some ⟨b, 0, none⟩)) (y_mv rfl) rfl ?_
 refine s_y rfl (v := .pointer (some ⟨b, 0, none⟩)) (y_k rfl rfl (fun _ => by kernel_rfl)) rfl ?_
 refine s_y rfl (v := .pointer (some ⟨b, 1, none⟩)) (y_k rfl rfl (fun _ => by kernel_rfl)) rfl ?_
 refine st rfl (o_ld 1 rfl rfl rfl Tryz.underlying48 rfl rfl ?_)
 refine e_by (q = none) (fun h24 => ?_) (fun h24 => ?_)
 ·
  refine s_y rfl (v := .bool false) (y_nt (y_bin rfl rfl (fun w => ec_ne q _ w)) h24) rfl ?_
  refine s_nil (q_then (c_false rfl (c_skip (q_then (c_seq ?_)))))
  refine c_draw (l := ticked 14 0) [(⟨b, 0, none⟩, .string r)] [] (by kernel_rfl) rfl rfl ?_
  refine b_y (i := 1) (v := .pointer (some ⟨b, 0, none⟩)) (ticked 14 2) rfl rfl (by exact y_mv rfl) ?_
  refine b_y (i := 2) (v := .pointer (some ⟨b, 0, none⟩)) (ticked 14 6) rfl rfl (by exact y_k rfl rfl (fun _ => by kernel_rfl)) ?_
  refine b_y (i := 3) (v := .pointer (some ⟨b, 0, none⟩)) (ticked 14 14) rfl rfl (by exact y_k rfl rfl (fun _ => by kernel_rfl)) ?_
  refine b_y (i := 4) (v := .pointer (some ⟨b, 0, none⟩)) (ticked 14 30) rfl rfl (by exact y_k rfl rfl (fun _ => by kernel_rfl)) ?_
  refine a_held (i := 5) (ticked 14 62) rfl (by as_aux_lemma => kernel_rfl) rfl rfl rfl (held_pt 1 rfl rfl held_nil) (h_ld 0 rfl rfl Tryz.underlying9 rfl) ?_
  refine a_each (rs := [0]) (by as_aux_lemma => kernel_rfl) (.cons (ticked 14 63) rfl rfl rfl (o_call [] [] lwidths_ rfl rfl rfl rfl rfl rfl (fun v L' I' hq1 => ?_)) .nil) (List.cons_ne_nil _ _)
  obtain ⟨b2, rfl, rfl, rfl⟩ := hq1
  refine a_and (held_pt 2 rfl rfl held_nil) ?_
  refine e_calm 0 rfl ?_
  refine e_lit intTy [1, 1, 8] 0 rfl rfl (by simp) ?_
  refine a_each (rs := [6]) (by as_aux_lemma => kernel_rfl) (.cons (ticked 14 127) rfl rfl rfl (o_call [] [0, 2, 3, 4, 5, 6, 7, 10] (Unpack_ (some ⟨b2, 0, none⟩) 3 [1, 1, 8] r ea em ef (by assumption) (by assumption) (by assumption) (by first | omega | (rw [ByteArray.size_append]; omega) | decide | assumption) (by decide)) rfl rfl rfl rfl rfl rfl (fun v L' I' hq2 => ?_)) .nil) (List.cons_ne_nil _ _)
  obtain ⟨A1, c1, rfl, rfl, rfl⟩ := hq2
  refine a_and (held_pt 2 rfl rfl held_nil) ?_
  refine b_y (i := 7) (v := .tuple #[.slice A1 ((unpackF [1, 1, 8] r).1).length c1, .string ((unpackF [1, 1, 8] r).2.1), .int .i64 ((unpackF [1, 1, 8] r).2.2)]) (ticked 14 255) rfl rfl (by exact y_mv rfl) ?_
  refine b_y (i := 8) (v := .slice A1 ((unpackF [1, 1, 8] r).1).length c1) (ticked 14 511) rfl rfl (by exact y_k rfl rfl (fun _ => by kernel_rfl)) ?_
  refine b_y (i := 9) (v := .string ((unpackF [1, 1, 8] r).2.1)) (ticked 14 1023) rfl rfl (by exact y_k rfl rfl (fun _ => by kernel_rfl)) ?_
  refine b_y (i := 10) (v := .int .i64 ((unpackF [1, 1, 8] r).2.2)) (ticked 14 2047) rfl rfl (by exact y_k rfl rfl (fun _ => by kernel_rfl)) ?_
  refine b_y (i := 11) (v := .slice A1 ((unpackF [1, 1, 8] r).1).length c1) (ticked 14 4095) rfl rfl (by exact y_as rfl) ?_
  refine b_y (i := 12) (v := .string ((unpackF [1, 1, 8] r).2.1)) (ticked 14 8191) rfl rfl (by exact y_as rfl) ?_
  refine b_y (i := 13) (v := .int .i64 ((unpackF [1, 1, 8] r).2.2)) (ticked 14 16383) rfl rfl (by exact y_as rfl) ?_
  refine a_done (by as_aux_lemma => kernel_rfl) ?_
  refine q_then (c_seq (c_seq (c_region ?_)))
  refine s_y rfl (v := .int .i64 ((unpackF [1, 1, 8] r).2.2)) (y_mv rfl) rfl ?_
  refine e_by ((unpackF [1, 1, 8] r).2.2 = 0) (fun h25 => ?_) (fun h25 => ?_)
  ·
   refine s_y rfl (v := .bool false) (y_nt (y_k (v := .bool (!decide ((unpackF [1, 1, 8] r).2.2 = 0))) rfl rfl (fun _ => by kernel_rfl)) h25) rfl ?_
   refine s_nil (q_then (c_false rfl (c_skip (q_then (c_seq ?_)))))
   refine e_stillw 0 rfl ?_
   refine e_at 0 0 rfl (by have h3_ : (unpackF [1, 1, 8] r).1.length = 3 := un3_len (by assumption); omega) (fun b3 o1 x1 hA1 hx1 => ?_)
   refine e_at 1 1 rfl (by have h3_ : (unpackF [1, 1, 8] r).1.length = 3 := un3_len (by assumption); omega) (fun b4 o2 x2 hA2 hx2 => ?_)
   refine e_at 2 2 rfl (by have h3_ : (unpackF [1, 1, 8] r).1.length = 3 := un3_len (by assumption); omega) (fun b5 o3 x3 hA3 hx3 => ?_)
   refine c_draw (l := ticked 14 0) [(⟨b3, o1 + 0 * 1, none⟩, .int .u64 (x1 : Int)), (⟨b4, o2 + 1 * 1, none⟩, .int .u64 (x2 : Int)), (⟨b5, o3 + 2 * 1, none⟩, .int .u64 (x3 : Int))] [] (by kernel_rfl) rfl rfl ?_
   refine b_y (i := 0) (v := .slice A1 ((unpackF [1, 1, 8] r).1).length c1) (ticked 14 1) rfl rfl (by exact y_mv rfl) ?_
   refine b_y (i := 1) (v := .pointer (some ⟨b3, o1 + 0 * 1, none⟩)) (ticked 14 3) rfl rfl (by exact y_at (d := u64Ty) (l := (unpackF [1, 1, 8] r).1) 0 hA1 rfl rfl rfl (rfl) (List.getElem?_eq_some_iff.1 hx1).1 Tryz.underlying82 (by kernel_rfl) (by kernel_rfl)) ?_
   refine b_y (i := 4) (v := .slice A1 ((unpackF [1, 1, 8] r).1).length c1) (ticked 14 19) rfl rfl (by exact y_mv rfl) ?_
   refine b_y (i := 5) (v := .pointer (some ⟨b4, o2 + 1 * 1, none⟩)) (ticked 14 51) rfl rfl (by exact y_at (d := u64Ty) (l := (unpackF [1, 1, 8] r).1) 1 hA2 rfl rfl rfl (rfl) (List.getElem?_eq_some_iff.1 hx2).1 Tryz.underlying82 (by kernel_rfl) (by kernel_rfl)) ?_
   refine b_y (i := 8) (v := .slice A1 ((unpackF [1, 1, 8] r).1).length c1) (ticked 14 307) rfl rfl (by exact y_mv rfl) ?_
   refine b_y (i := 9) (v := .pointer (some ⟨b5, o3 + 2 * 1, none⟩)) (ticked 14 819) rfl rfl (by exact y_at (d := u64Ty) (l := (unpackF [1, 1, 8] r).1) 2 hA3 rfl rfl rfl (rfl) (List.getElem?_eq_some_iff.1 hx3).1 Tryz.underlying82 (by kernel_rfl) (by kernel_rfl)) ?_
   refine a_held (i := 2) (ticked 14 823) rfl (by as_aux_lemma => kernel_rfl) rfl rfl rfl (held_fact (j := 0) 2 rfl rfl (held_fact (j := 0) 1 rfl rfl (held_fact (j := 0) 0 rfl rfl held_nil))) (h_ld 0 rfl rfl Tryz.underlying22 rfl) ?_
   refine b_y (i := 3) (v := .int .i64 (x1 : Int)) (ticked 14 831) rfl rfl (by exact y_cvi (r := (x1 : Int)) rfl Tryz.underlying22 Tryz.underlying3 (u8_i64 (by first | exact un3_0 (by assumption) (by assumption) | exact un3_1 (by assumption) (by assumption)))) ?_
   refine a_held (i := 6) (ticked 14 895) rfl (by as_aux_lemma => kernel_rfl) rfl rfl rfl (held_fact (j := 0) 2 rfl rfl (held_fact (j := 0) 1 rfl rfl (held_fact (j := 0) 0 rfl rfl held_nil))) (h_ld 1 rfl rfl Tryz.underlying22 rfl) ?_
   refine b_y (i := 7) (v := .int .i64 (x2 : Int)) (ticked 14 1023) rfl rfl (by exact y_cvi (r := (x2 : Int)) rfl Tryz.underlying22 Tryz.underlying3 (u8_i64 (by first | exact un3_0 (by assumption) (by assumption) | exact un3_1 (by assumption) (by assumption)))) ?_
   refine a_held (i := 10) (ticked 14 2047) rfl (by as_aux_lemma => kernel_rfl) rfl rfl rfl (held_fact (j := 0) 2 rfl rfl (held_fact (j := 0) 1 rfl rfl (held_fact (j := 0) 0 rfl rfl held_nil))) (h_ld 2 rfl rfl Tryz.underlying22 rfl) ?_
   refine b_y (i := 11) (v := .agg #[.int .i64 (x1 : Int), .int .u64 (x3 : Int), .int .i64 (x2 : Int)]) (ticked 14 4095) rfl rfl (by exact y_k rfl rfl (fun _ => by kernel_rfl)) ?_
   refine a_each (rs := [12]) (by as_aux_lemma => kernel_rfl) (.cons (ticked 14 8191) rfl rfl rfl (o_box (cs := [.int .i64 0, .int .u64 0, .int .i64 0]) (T := 24) rfl rfl rfl rfl (fun _ => by kernel_rfl) (fun b6 => ?_)) .nil) (List.cons_ne_nil _ _)
   refine a_and (held_fact (j := 0) 2 rfl rfl (held_fact (j := 0) 1 rfl rfl (held_fact (j := 0) 0 rfl rfl held_nil))) ?_
   refine a_each (rs := [13]) (by as_aux_lemma => kernel_rfl) (.cons (ticked 14 16383) rfl rfl rfl (o_st 0 rfl rfl rfl rfl rfl (by kernel_rfl) (by kernel_rfl) rfl ?_) .nil) (List.cons_ne_nil _ _)
   refine a_and (held_fact (j := 0) 2 rfl rfl (held_fact (j := 0) 1 rfl rfl (held_fact (j := 0) 0 rfl rfl held_nil))) ?_
   refine a_done (by as_aux_lemma => kernel_rfl) ?_
   refine q_then (c_seq (c_seq (c_region ?_)))
   refine st rfl (o_ldn 0 3 rfl rfl rfl rfl Tryz.underlying24 rfl (by kernel_rfl) (by kernel_rfl) rfl ?_)
   refine st rfl (o_call [] [] (labRight_ (⟨(x1 : Int), x3, (x2 : Int)⟩ : Lab)) rfl rfl rfl rfl rfl rfl (fun v L' I' hq3 => ?_))
   obtain ⟨hv1, rfl, rfl⟩ := hq3
   refine e_by (labRight (⟨(x1 : Int), x3, (x2 : Int)⟩ : Lab)) (fun h26 => ?_) (fun h26 => ?_)
   ·
    obtain rfl : v = .bool true := by rw [hv1, decide_eq_true h26]
    refine s_y rfl (v := .bool false) (y_k rfl rfl (fun _ => by kernel_rfl)) rfl ?_
    refine s_nil (q_then (c_false rfl (c_skip (q_then (c_seq (c_region ?_))))))
    refine s_y rfl (v := .pointer (some ⟨b, 0, none⟩)) (y_mv rfl) rfl ?_
    refine s_y rfl (v := .string ((unpackF [1, 1, 8] r).2.1)) (y_mv rfl) rfl ?_
    refine s_y rfl (v := .pointer (some ⟨b, 0, none⟩)) (y_k rfl rfl (fun _ => by kernel_rfl)) rfl ?_
    refine s_y rfl (v := .pointer (some ⟨b, 0, none⟩)) (y_k rfl rfl (fun _ => by kernel_rfl)) rfl ?_
    refine s_y rfl (v := .pointer (some ⟨b, 0, none⟩)) (y_k rfl rfl (fun _ => by kernel_rfl)) rfl ?_
    refine st rfl (o_st 2 rfl rfl rfl rfl rfl (by kernel_rfl) (by kernel_rfl) rfl ?_)
    refine s_nil (q_then (c_seq (c_region ?_)))
    refine st rfl (o_ldn 0 3 rfl rfl rfl rfl Tryz.underlying24 rfl (by kernel_rfl) (by kernel_rfl) rfl ?_)
    refine st rfl (o_st 1 rfl rfl rfl rfl rfl (by kernel_rfl) (by kernel_rfl) rfl ?_)
    refine s_nil (q_then (c_ret ?_))
    have hp : nextF r q = ((⟨(x1 : Int), x3, (x2 : Int)⟩ : Lab), (unpackF [1, 1, 8] r).2.1, q) := by first | (rw [show q = none by assumption]; exact n_bad (by assumption)) | (rw [show q = none by assumption]; exact n_code (by assumption) (labOf_at hx1 hx2 hx3) (by assumption)) | (rw [show q = none by assumption]; exact n_ok (by assumption) (labOf_at hx1 hx2 hx3) (by assumption)) | exact if_neg (by assumption)
    refine c_fin (I' := []) [2] [6, 7, 8, 9, 10, 11, 12, 13, 14] rfl (.agg 1 3 rfl rfl rfl rfl Tryz.underlying24 rfl (by kernel_rfl) (by kernel_rfl) .nil) rfl rfl rfl ?_
    rw [hp]
    exact ⟨rfl, rfl, rfl⟩
   ·
    obtain rfl : v = .bool false := by rw [hv1, decide_eq_false h26]
    refine s_y rfl (v := .bool true) (y_k rfl rfl (fun _ => by kernel_rfl)) rfl ?_
    refine s_nil (q_then (c_true rfl (c_seq (c_region ?_))))
    refine s_y rfl (v := .pointer (some ⟨b, 0, none⟩)) (y_mv rfl) rfl ?_
    refine s_y rfl (v := .agg #[.int .i64 40, .nilIface]) (y_k rfl rfl (fun _ => by kernel_rfl)) rfl ?_
    refine s_y rfl (v := .iface 165 (.agg #[.int .i64 40, .nilIface])) (y_k rfl rfl (fun _ => by kernel_rfl)) rfl ?_
    refine s_y rfl (v := .pointer (some ⟨b, 0, none⟩)) (y_k rfl rfl (fun _ => by kernel_rfl)) rfl ?_
    refine s_y rfl (v := .pointer (some ⟨b, 1, none⟩)) (y_k rfl rfl (fun _ => by kernel_rfl)) rfl ?_
    refine st rfl (o_st 2 rfl rfl rfl rfl rfl (by kernel_rfl) (by kernel_rfl) rfl ?_)
    refine s_nil (q_then (c_seq (c_region ?_)))
    refine s_y rfl (v := .agg #[.int .i64 0, .int .u64 0, .int .i64 0]) (y_k rfl rfl (fun _ => by kernel_rfl)) rfl ?_
    refine st rfl (o_st 1 rfl rfl rfl rfl rfl (by kernel_rfl) (by kernel_rfl) rfl ?_)
    refine s_nil (q_then (c_ret (q_then_ret ?_)))
    have hp : nextF r q = ((⟨0, 0, 0⟩ : Lab), r, some (40)) := by first | (rw [show q = none by assumption]; exact n_bad (by assumption)) | (rw [show q = none by assumption]; exact n_code (by assumption) (labOf_at hx1 hx2 hx3) (by assumption)) | (rw [show q = none by assumption]; exact n_ok (by assumption) (labOf_at hx1 hx2 hx3) (by assumption)) | exact if_neg (by assumption)
    refine c_fin (I' := []) [2] [6, 7, 8, 9, 10, 11, 12, 13, 14] rfl (.agg 1 3 rfl rfl rfl rfl Tryz.underlying24 rfl (by kernel_rfl) (by kernel_rfl) .nil) rfl rfl rfl ?_
    rw [hp]
    exact ⟨rfl, rfl, rfl⟩
  ·
   refine s_y rfl (v := .bool true) (y_nf (y_k (v := .bool (!decide ((unpackF [1, 1, 8] r).2.2 = 0))) rfl rfl (fun _ => by kernel_rfl)) h25) rfl ?_
   refine s_nil (q_then (c_true rfl (c_seq (c_region ?_))))
   refine s_y rfl (v := .pointer (some ⟨b, 0, none⟩)) (y_mv rfl) rfl ?_
   refine s_y rfl (v := .int .i64 ((unpackF [1, 1, 8] r).2.2)) (y_mv rfl) rfl ?_
   refine s_y rfl (v := .agg #[.int .i64 ((unpackF [1, 1, 8] r).2.2), .nilIface]) (y_k rfl rfl (fun _ => by kernel_rfl)) rfl ?_
   refine s_y rfl (v := .iface 165 (.agg #[.int .i64 ((unpackF [1, 1, 8] r).2.2), .nilIface])) (y_k rfl rfl (fun _ => by kernel_rfl)) rfl ?_
   refine s_y rfl (v := .pointer (some ⟨b, 0, none⟩)) (y_k rfl rfl (fun _ => by kernel_rfl)) rfl ?_
   refine s_y rfl (v := .pointer (some ⟨b, 1, none⟩)) (y_k rfl rfl (fun _ => by kernel_rfl)) rfl ?_
   refine st rfl (o_st 2 rfl rfl rfl rfl rfl (by kernel_rfl) (by kernel_rfl) rfl ?_)
   refine s_nil (q_then (c_seq (c_region ?_)))
   refine s_y rfl (v := .agg #[.int .i64 0, .int .u64 0, .int .i64 0]) (y_k rfl rfl (fun _ => by kernel_rfl)) rfl ?_
   refine st rfl (o_st 1 rfl rfl rfl rfl rfl (by kernel_rfl) (by kernel_rfl) rfl ?_)
   refine s_nil (q_then (c_ret (q_then_ret ?_)))
   have hp : nextF r q = ((⟨0, 0, 0⟩ : Lab), r, some ((unpackF [1, 1, 8] r).2.2)) := by first | (rw [show q = none by assumption]; exact n_bad (by assumption)) | (rw [show q = none by assumption]; exact n_code (by assumption) (labOf_at hx1 hx1 hx1) (by assumption)) | (rw [show q = none by assumption]; exact n_ok (by assumption) (labOf_at hx1 hx1 hx1) (by assumption)) | exact if_neg (by assumption)
   refine c_fin (I' := []) [2] [2, 3, 4, 5, 6, 7, 8, 9, 10] rfl (.agg 1 3 rfl rfl rfl rfl Tryz.underlying24 rfl (by kernel_rfl) (by kernel_rfl) .nil) rfl rfl rfl ?_
   rw [hp]
   exact ⟨rfl, rfl, rfl⟩
 ·
  refine s_y rfl (v := .bool true) (y_nf (y_bin rfl rfl (fun w => ec_ne q _ w)) h24) rfl ?_
  refine s_nil (q_then (c_true rfl (c_seq (c_region ?_))))
  refine s_y rfl (v := .agg #[.int .i64 0, .int .u64 0, .int .i64 0]) (y_k rfl rfl (fun _ => by kernel_rfl)) rfl ?_
  refine st rfl (o_st 0 rfl rfl rfl rfl rfl (by kernel_rfl) (by kernel_rfl) rfl ?_)
  refine s_nil (q_then (c_ret (q_then_ret ?_)))
  have hp : nextF r q = ((⟨0, 0, 0⟩ : Lab), r, q) := by first | (rw [show q = none by assumption]; exact n_bad (by assumption)) | (rw [show q = none by assumption]; exact n_code (by assumption) (labOf_at hx1 hx1 hx1) (by assumption)) | (rw [show q = none by assumption]; exact n_ok (by assumption) (labOf_at hx1 hx1 hx1) (by assumption)) | exact if_neg (by assumption)
  refine c_fin (I' := []) [1] [0, 1, 2, 3, 4, 5, 6, 7, 8] rfl (.agg 0 3 rfl rfl rfl rfl Tryz.underlying24 rfl (by kernel_rfl) (by kernel_rfl) .nil) rfl rfl rfl ?_
  rw [hp]
  exact ⟨rfl, rfl, rfl⟩
end Go.Proofs.YtcnncdniibkjkaaGreatDoor
