/- The laws of chapter 17 (call), walked over the given program; no condition but what stands in each theorem: part I. -/
import Derived.Test.YtcnncdniibkjkaaGreatDoorRG
set_option linter.unusedVariables false
set_option linter.unusedSimpArgs false
set_option maxRecDepth 100000
set_option maxHeartbeats 8000000
namespace Go.Proofs.YtcnncdniibkjkaaGreatDoor
open Go Go.Sl Go.RowKit Go.Extern.Stop Go.Stop Go.Extern
theorem told_er_ (ea em ef : Addr) (h12 : ea ≠ em) (h13 : ea ≠ ef) (h23 : em ≠ ef) (q : Er) : Con Tryz.prog 61 [erV ea em ef q] [] [cellsAt 2 0 [.iface 180 (.pointer (some ea))], cellsAt 3 0 [.iface 180 (.pointer (some em))], cellsAt 1 0 [.iface 180 (.pointer (some ef))], errAt ea, errAt em, errAt ef, cellsAt 0 0 [.iface 147 (.agg #[.pointer (some ⟨5, 48, none⟩)])]] (fun v L' I' => v = .int .i64 (erN q) ∧ L' = [] ∧ I' = []) := by
  match q with
  | none => exact told_nil_ ea em ef h12 h13 h23
  | some (0, k) => exact told_at_ea_ ea em ef h12 h13 h23 k
  | some (1, k) => exact told_at_em_ ea em ef h12 h13 h23 k
  | some (n + 2, k) => exact told_at_ef_ ea em ef h12 h13 h23 k
theorem take_ (b : Nat) (r : ByteArray) (q : Er) (n : Int) (ea : Addr) (em : Addr) (ef : Addr) (hn : q = none → 0 ≤ n) (hr : r.size ≤ 9223372036854775807) : Con Tryz.prog 84 [.pointer (some ⟨b, 0, none⟩), .int .i64 n] [pt b [.string r, erV ea em ef q] 126] [cellsAt 2 0 [.iface 180 (.pointer (some ea))], cellsAt 3 0 [.iface 180 (.pointer (some em))], cellsAt 1 0 [.iface 180 (.pointer (some ef))], errAt ea, errAt em, errAt ef, cellsAt 0 0 [.iface 147 (.agg #[.pointer (some ⟨5, 48, none⟩)])]] (fun v L' I' => v = .string ((takeS n r q).1) ∧ L' = [pt b [.string ((takeS n r q).2.1), erV ea em ef ((takeS n r q).2.2)] 126] ∧ I' = []) := by
 refine fn_of Tryz.func84 rfl Tryz.ntmps84 (by kernel_rfl) rfl (fun C => ?_)
 refine c_seq (c_region ?_)
 refine s_y rfl (v := .string (⟨#[]⟩ : ByteArray)) (y_as rfl) rfl ?_
 refine s_nil (q_then (c_seq (c_seq (c_region ?_))))
 refine s_y rfl (v := .pointer (some ⟨b, 0, none⟩)) (y_mv rfl) rfl ?_
 refine s_y rfl (v := .pointer (some ⟨b, 0, none⟩)) (y_k rfl rfl (fun _ => by kernel_rfl)) rfl ?_
 refine s_y rfl (v := .pointer (some ⟨b, 1, none⟩)) (y_k rfl rfl (fun _ => by kernel_rfl)) rfl ?_
 refine st rfl (o_ld 0 rfl rfl rfl Tryz.underlying48 rfl rfl ?_)
 refine e_by (q = none) (fun h1 => ?_) (fun h1 => ?_)
 ·
  refine s_y rfl (v := .bool false) (y_nt (y_bin rfl rfl (fun w => er_ne ea em ef q _ w)) h1) rfl ?_
  refine s_nil (q_then (c_false rfl (c_skip (q_then (c_seq (c_seq (c_region ?_)))))))
  refine s_y rfl (v := .pointer (some ⟨b, 0, none⟩)) (y_mv rfl) rfl ?_
  refine s_y rfl (v := .pointer (some ⟨b, 0, none⟩)) (y_k rfl rfl (fun _ => by kernel_rfl)) rfl ?_
  refine s_y rfl (v := .pointer (some ⟨b, 0, none⟩)) (y_k rfl rfl (fun _ => by kernel_rfl)) rfl ?_
  refine s_y rfl (v := .pointer (some ⟨b, 0, none⟩)) (y_k rfl rfl (fun _ => by kernel_rfl)) rfl ?_
  refine st rfl (o_ld 0 rfl rfl rfl Tryz.underlying9 rfl rfl ?_)
  refine s_y rfl (v := .int .i64 (r.size : Int)) (y_k rfl rfl (fun _ => by kernel_rfl)) rfl ?_
  refine s_y rfl (v := .int .i64 n) (y_mv rfl) rfl ?_
  refine e_by ((r.size : Int) < n) (fun h2 => ?_) (fun h2 => ?_)
  ·
   refine s_y rfl (v := .bool true) (y_t (y_k (v := .bool (decide ((r.size : Int) < n))) rfl rfl (fun _ => by kernel_rfl)) h2) rfl ?_
   refine s_nil (q_then (c_true rfl (c_seq ?_)))
   refine c_draw (l := ticked 13 0) [(⟨3, 0, none⟩, .iface 180 (.pointer (some em))), (⟨b, 0, none⟩, .string r)] [] (by kernel_rfl) rfl rfl ?_
   refine b_y (i := 0) (v := .pointer (some ⟨b, 0, none⟩)) (ticked 13 1) rfl rfl (by exact y_mv rfl) ?_
   refine b_y (i := 2) (v := .pointer (some ⟨b, 0, none⟩)) (ticked 13 5) rfl rfl (by exact y_mv rfl) ?_
   refine b_y (i := 3) (v := .pointer (some ⟨b, 0, none⟩)) (ticked 13 13) rfl rfl (by exact y_k rfl rfl (fun _ => by kernel_rfl)) ?_
   refine b_y (i := 4) (v := .pointer (some ⟨b, 0, none⟩)) (ticked 13 29) rfl rfl (by exact y_k rfl rfl (fun _ => by kernel_rfl)) ?_
   refine b_y (i := 5) (v := .pointer (some ⟨b, 0, none⟩)) (ticked 13 61) rfl rfl (by exact y_k rfl rfl (fun _ => by kernel_rfl)) ?_
   refine a_held (i := 1) (ticked 13 63) rfl (by as_aux_lemma => kernel_rfl) rfl rfl rfl (held_fact (j := 0) 1 rfl rfl (held_pt 0 rfl rfl held_nil)) (h_ld 0 rfl rfl Tryz.underlying48 rfl) ?_
   refine a_held (i := 6) (ticked 13 127) rfl (by as_aux_lemma => kernel_rfl) rfl rfl rfl (held_fact (j := 0) 1 rfl rfl (held_pt 0 rfl rfl held_nil)) (h_ld 1 rfl rfl Tryz.underlying9 rfl) ?_
   refine b_y (i := 7) (v := .int .i64 (r.size : Int)) (ticked 13 255) rfl rfl (by exact y_k rfl rfl (fun _ => by kernel_rfl)) ?_
   refine b_y (i := 8) (v := .agg #[.iface 180 (.pointer (some em)), .int .i64 (r.size : Int)]) (ticked 13 511) rfl rfl (by exact y_k rfl rfl (fun _ => by kernel_rfl)) ?_
   refine b_y (i := 9) (v := .iface 131 (.agg #[.iface 180 (.pointer (some em)), .int .i64 (r.size : Int)])) (ticked 13 1023) rfl rfl (by exact y_k rfl rfl (fun _ => by kernel_rfl)) ?_
   refine b_y (i := 10) (v := .pointer (some ⟨b, 0, none⟩)) (ticked 13 2047) rfl rfl (by exact y_k rfl rfl (fun _ => by kernel_rfl)) ?_
   refine b_y (i := 11) (v := .pointer (some ⟨b, 1, none⟩)) (ticked 13 4095) rfl rfl (by exact y_k rfl rfl (fun _ => by kernel_rfl)) ?_
   refine a_each (rs := [12]) (by as_aux_lemma => kernel_rfl) (.cons (ticked 13 8191) rfl rfl rfl (o_st 0 rfl rfl rfl rfl rfl (by kernel_rfl) (by kernel_rfl) rfl ?_) .nil) (List.cons_ne_nil _ _)
   refine a_and (held_fact (j := 0) 1 rfl rfl (held_pt 0 rfl rfl held_nil)) ?_
   refine a_done (by as_aux_lemma => kernel_rfl) ?_
   refine q_then (c_seq (c_region ?_))
   refine s_y rfl (v := .string (⟨#[]⟩ : ByteArray)) (y_as rfl) rfl ?_
   refine s_nil (q_then (c_ret (q_then_ret ?_)))
   have hp : takeS n r q = ((⟨#[]⟩ : ByteArray), r, some (1, r.size)) := by unfold takeS; first | (rw [if_neg (by assumption)]; done) | (rw [if_pos (by assumption), if_pos (by assumption)]; done) | (rw [if_pos (by assumption), if_neg (by assumption), show q = none by assumption])
   refine c_fin (I' := []) [0] [0, 1, 2, 3, 4, 5, 6] rfl (.tmp rfl .nil) rfl rfl rfl ?_
   rw [hp]
   exact ⟨rfl, rfl, rfl⟩
  ·
   refine s_y rfl (v := .bool false) (y_f (y_k (v := .bool (decide ((r.size : Int) < n))) rfl rfl (fun _ => by kernel_rfl)) h2) rfl ?_
   refine s_nil (q_then (c_false rfl (c_skip (q_then (c_seq (c_region ?_))))))
   refine s_y rfl (v := .pointer (some ⟨b, 0, none⟩)) (y_mv rfl) rfl ?_
   refine s_y rfl (v := .pointer (some ⟨b, 0, none⟩)) (y_k rfl rfl (fun _ => by kernel_rfl)) rfl ?_
   refine s_y rfl (v := .pointer (some ⟨b, 0, none⟩)) (y_k rfl rfl (fun _ => by kernel_rfl)) rfl ?_
   refine s_y rfl (v := .pointer (some ⟨b, 0, none⟩)) (y_k rfl rfl (fun _ => by kernel_rfl)) rfl ?_
   refine st rfl (o_ld 0 rfl rfl rfl Tryz.underlying9 rfl rfl ?_)
   refine s_y rfl (v := .int .i64 n) (y_mv rfl) rfl ?_
   refine s_y rfl (v := .string (r.extract 0 ((n).toNat))) (y_cuts 0 ((n).toNat) rfl .no (.at ((n).toNat) rfl (by have := hn (by assumption); omega)) Tryz.underlying9 (by have := hn (by assumption); omega) (by have := hn (by assumption); omega)) rfl ?_
   refine s_y rfl (v := .string (r.extract 0 ((n).toNat))) (y_as rfl) rfl ?_
   refine s_nil (q_then (c_seq (c_region ?_)))
   refine s_y rfl (v := .pointer (some ⟨b, 0, none⟩)) (y_mv rfl) rfl ?_
   refine s_y rfl (v := .pointer (some ⟨b, 0, none⟩)) (y_mv rfl) rfl ?_
   refine s_y rfl (v := .pointer (some ⟨b, 0, none⟩)) (y_k rfl rfl (fun _ => by kernel_rfl)) rfl ?_
   refine s_y rfl (v := .pointer (some ⟨b, 0, none⟩)) (y_k rfl rfl (fun _ => by kernel_rfl)) rfl ?_
   refine s_y rfl (v := .pointer (some ⟨b, 0, none⟩)) (y_k rfl rfl (fun _ => by kernel_rfl)) rfl ?_
   refine st rfl (o_ld 0 rfl rfl rfl Tryz.underlying9 rfl rfl ?_)
   refine s_y rfl (v := .int .i64 n) (y_mv rfl) rfl ?_
   refine s_y rfl (v := .string (r.extract ((n).toNat) r.size)) (y_cuts ((n).toNat) r.size rfl (.at ((n).toNat) rfl (by have := hn (by assumption); omega)) .no Tryz.underlying9 (by have := hn (by assumption); omega) (by have := hn (by assumption); omega)) rfl ?_
   refine s_y rfl (v := .pointer (some ⟨b, 0, none⟩)) (y_k rfl rfl (fun _ => by kernel_rfl)) rfl ?_
   refine s_y rfl (v := .pointer (some ⟨b, 0, none⟩)) (y_k rfl rfl (fun _ => by kernel_rfl)) rfl ?_
   refine s_y rfl (v := .pointer (some ⟨b, 0, none⟩)) (y_k rfl rfl (fun _ => by kernel_rfl)) rfl ?_
   refine st rfl (o_st 0 rfl rfl rfl rfl rfl (by kernel_rfl) (by kernel_rfl) rfl ?_)
   refine s_nil (q_then (c_seq (c_region ?_)))
   refine s_y rfl (v := .string (r.extract 0 ((n).toNat))) (y_mv rfl) rfl ?_
   refine s_y rfl (v := .string (r.extract 0 ((n).toNat))) (y_as rfl) rfl ?_
   refine s_nil (q_then (c_ret ?_))
   have hp : takeS n r q = (r.extract 0 ((n).toNat), r.extract ((n).toNat) r.size, q) := by unfold takeS; first | (rw [if_neg (by assumption)]; done) | (rw [if_pos (by assumption), if_pos (by assumption)]; done) | (rw [if_pos (by assumption), if_neg (by assumption), show q = none by assumption])
   refine c_fin (I' := []) [0] [0, 1, 2, 3, 4, 5, 6] rfl (.tmp rfl .nil) rfl rfl rfl ?_
   rw [hp]
   exact ⟨rfl, rfl, rfl⟩
 ·
  refine s_y rfl (v := .bool true) (y_nf (y_bin rfl rfl (fun w => er_ne ea em ef q _ w)) h1) rfl ?_
  refine s_nil (q_then (c_true rfl (c_seq (c_region ?_))))
  refine s_y rfl (v := .string (⟨#[]⟩ : ByteArray)) (y_as rfl) rfl ?_
  refine s_nil (q_then (c_ret (q_then_ret ?_)))
  have hp : takeS n r q = ((⟨#[]⟩ : ByteArray), r, q) := by unfold takeS; first | (rw [if_neg (by assumption)]; done) | (rw [if_pos (by assumption), if_pos (by assumption)]; done) | (rw [if_pos (by assumption), if_neg (by assumption), show q = none by assumption])
  refine c_fin (I' := []) [0] [0, 1, 2, 3, 4, 5, 6] rfl (.tmp rfl .nil) rfl rfl rfl ?_
  rw [hp]
  exact ⟨rfl, rfl, rfl⟩
end Go.Proofs.YtcnncdniibkjkaaGreatDoor
