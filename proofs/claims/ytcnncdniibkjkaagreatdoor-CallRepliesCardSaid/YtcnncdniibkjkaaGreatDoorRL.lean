/- The laws of chapter 17 (call), walked over the given program; no condition but what stands in each theorem: part L. -/
import Derived.Test.YtcnncdniibkjkaaGreatDoorRK
set_option linter.unusedVariables false
set_option linter.unusedSimpArgs false
set_option maxRecDepth 100000
set_option maxHeartbeats 8000000
namespace Go.Proofs.YtcnncdniibkjkaaGreatDoor
open Go Go.Sl Go.RowKit Go.Extern.Stop Go.Stop Go.Extern
theorem GetText_ (s : ByteArray) (ea : Addr) (em : Addr) (ef : Addr) (h12 : ea ≠ em) (h13 : ea ≠ ef) (h23 : em ≠ ef) (hs : s.size ≤ 9223372036854775807) : Con Tryz.prog 58 [.string s] [] [cellsAt 2 0 [.iface 180 (.pointer (some ea))], cellsAt 3 0 [.iface 180 (.pointer (some em))], cellsAt 1 0 [.iface 180 (.pointer (some ef))], errAt ea, errAt em, errAt ef, cellsAt 0 0 [.iface 147 (.agg #[.pointer (some ⟨5, 48, none⟩)])]] (fun v L' I' => v = .tuple #[.string ((textG s).1), .string ((textG s).2.1), .int .i64 ((textG s).2.2)] ∧ L' = [] ∧ I' = []) := by
 have n1 := number_one s none
 have n2 := number_rest 1 s none
 refine fn_of Tryz.func58 rfl Tryz.ntmps58 (by kernel_rfl) rfl (fun C => ?_)
 refine c_seq (c_region ?_)
 refine s_y rfl (v := .string (⟨#[]⟩ : ByteArray)) (y_as rfl) rfl ?_
 refine s_y rfl (v := .string (⟨#[]⟩ : ByteArray)) (y_as rfl) rfl ?_
 refine s_y rfl (v := .int .i64 0) (y_as rfl) rfl ?_
 refine s_nil (q_then (c_seq (c_region ?_)))
 refine s_y rfl (v := .string s) (y_mv rfl) rfl ?_
 refine s_y rfl (v := .agg #[.string s]) (y_k rfl rfl (fun _ => by kernel_rfl)) rfl ?_
 refine s_y rfl (v := .agg #[.string s, .nilIface]) (y_k rfl rfl (fun _ => by kernel_rfl)) rfl ?_
 refine st rfl (o_box (cs := [.string s, .nilIface]) (T := 126) rfl rfl rfl rfl (fun _ => by kernel_rfl) (fun b1 => ?_))
 refine s_y rfl (v := .pointer (some ⟨b1, 0, none⟩)) (y_as rfl) rfl ?_
 refine s_nil (q_then (c_seq (c_region ?_)))
 refine s_y rfl (v := .pointer (some ⟨b1, 0, none⟩)) (y_mv rfl) rfl ?_
 show Ent _ _ _ _ [pt b1 [.string s, erV ea em ef none] 126] _ _
 refine st rfl (o_call [0] [0, 1, 2, 3, 4, 5, 6] (number_ b1 (1 : Int) s none ea em ef (by first | omega | (rw [ByteArray.size_append]; omega) | decide | assumption)) rfl rfl rfl rfl rfl rfl (fun v L' I' hq1 => ?_))
 obtain ⟨rfl, rfl, rfl⟩ := hq1
 refine s_y rfl (v := .int .u64 ((numberF (1 : Int) s none).1 : Int)) (y_as rfl) rfl ?_
 refine s_nil (q_then (c_seq (c_seq (c_region ?_))))
 refine s_y rfl (v := .int .u64 ((numberF (1 : Int) s none).1 : Int)) (y_mv rfl) rfl ?_
 refine e_by (((numberF (1 : Int) s none).1 : Int) > 200) (fun h24 => ?_) (fun h24 => ?_)
 ·
  refine s_y rfl (v := .bool true) (y_t (y_k (v := .bool (decide (((numberF (1 : Int) s none).1 : Int) > 200))) rfl rfl (fun _ => by kernel_rfl)) h24) rfl ?_
  refine s_nil (q_then (c_true rfl ?_))
  refine c_draw (l := ticked 13 0) [(⟨1, 0, none⟩, .iface 180 (.pointer (some ef))), (⟨b1, 0, none⟩, .string ((numberF (1 : Int) s none).2.1))] [] (by kernel_rfl) rfl rfl ?_
  refine b_y (i := 0) (v := .pointer (some ⟨b1, 0, none⟩)) (ticked 13 1) rfl rfl (by exact y_mv rfl) ?_
  refine b_y (i := 2) (v := .pointer (some ⟨b1, 0, none⟩)) (ticked 13 5) rfl rfl (by exact y_mv rfl) ?_
  refine b_y (i := 3) (v := .pointer (some ⟨b1, 0, none⟩)) (ticked 13 13) rfl rfl (by exact y_k rfl rfl (fun _ => by kernel_rfl)) ?_
  refine b_y (i := 4) (v := .pointer (some ⟨b1, 0, none⟩)) (ticked 13 29) rfl rfl (by exact y_k rfl rfl (fun _ => by kernel_rfl)) ?_
  refine b_y (i := 5) (v := .pointer (some ⟨b1, 0, none⟩)) (ticked 13 61) rfl rfl (by exact y_k rfl rfl (fun _ => by kernel_rfl)) ?_
  refine a_held (i := 1) (ticked 13 63) rfl (by as_aux_lemma => kernel_rfl) rfl rfl rfl (held_fact (j := 0) 2 rfl rfl (held_pt 0 rfl rfl held_nil)) (h_ld 0 rfl rfl Tryz.underlying48 rfl) ?_
  refine a_held (i := 6) (ticked 13 127) rfl (by as_aux_lemma => kernel_rfl) rfl rfl rfl (held_fact (j := 0) 2 rfl rfl (held_pt 0 rfl rfl held_nil)) (h_ld 1 rfl rfl Tryz.underlying9 rfl) ?_
  refine b_y (i := 7) (v := .int .i64 (((numberF (1 : Int) s none).2.1).size : Int)) (ticked 13 255) rfl rfl (by exact y_k rfl rfl (fun _ => by kernel_rfl)) ?_
  refine b_y (i := 8) (v := .agg #[.iface 180 (.pointer (some ef)), .int .i64 (((numberF (1 : Int) s none).2.1).size : Int)]) (ticked 13 511) rfl rfl (by exact y_k rfl rfl (fun _ => by kernel_rfl)) ?_
  refine b_y (i := 9) (v := .iface 131 (.agg #[.iface 180 (.pointer (some ef)), .int .i64 (((numberF (1 : Int) s none).2.1).size : Int)])) (ticked 13 1023) rfl rfl (by exact y_k rfl rfl (fun _ => by kernel_rfl)) ?_
  refine b_y (i := 10) (v := .pointer (some ⟨b1, 0, none⟩)) (ticked 13 2047) rfl rfl (by exact y_k rfl rfl (fun _ => by kernel_rfl)) ?_
  refine b_y (i := 11) (v := .pointer (some ⟨b1, 1, none⟩)) (ticked 13 4095) rfl rfl (by exact y_k rfl rfl (fun _ => by kernel_rfl)) ?_
  refine a_each (rs := [12]) (by as_aux_lemma => kernel_rfl) (.cons (ticked 13 8191) rfl rfl rfl (o_st 0 rfl rfl rfl rfl rfl (by kernel_rfl) (by kernel_rfl) rfl ?_) .nil) (List.cons_ne_nil _ _)
  refine a_and (held_fact (j := 0) 2 rfl rfl (held_pt 0 rfl rfl held_nil)) ?_
  refine a_done (by as_aux_lemma => kernel_rfl) ?_
  refine q_then (c_seq (c_region ?_))
  refine s_y rfl (v := .pointer (some ⟨b1, 0, none⟩)) (y_mv rfl) rfl ?_
  refine s_y rfl (v := .int .u64 ((numberF (1 : Int) s none).1 : Int)) (y_mv rfl) rfl ?_
  refine s_y rfl (v := .int .i64 ((numberF (1 : Int) s none).1 : Int)) (y_cvi (r := ((numberF (1 : Int) s none).1 : Int)) rfl Tryz.underlying22 Tryz.underlying3 (wrap_in (by omega) (by omega))) rfl ?_
  show Ent _ _ _ _ [pt b1 [.string ((numberF (1 : Int) s none).2.1), erV ea em ef (some (2, (numberF 1 s none).2.1.size))] 126] _ _
  have h25 : badT s = some (2, (numberF 1 s none).2.1.size) := by unfold badT; first | rw [if_pos (by first | assumption | omega)] | rw [if_neg (by first | assumption | omega)]
  rw [← h25]
  refine st rfl (o_call [0] [0, 1, 2, 3, 4, 5, 6] (take_ b1 ((numberF (1 : Int) s none).2.1) (badT s) ((numberF (1 : Int) s none).1 : Int) ea em ef (by first | assumption | (intro hh; first | omega | contradiction | exact absurd hh (by simp) | (have := isW_rng (by assumption); omega))) (by first | omega | (rw [ByteArray.size_append]; omega) | decide | assumption)) rfl rfl rfl rfl rfl rfl (fun v L' I' hq2 => ?_))
  obtain ⟨rfl, rfl, rfl⟩ := hq2
  refine s_y rfl (v := .string ((takeS ((numberF (1 : Int) s none).1 : Int) ((numberF (1 : Int) s none).2.1) (badT s)).1)) (y_as rfl) rfl ?_
  refine s_nil (q_then (c_seq (c_region ?_)))
  refine s_y rfl (v := .pointer (some ⟨b1, 0, none⟩)) (y_mv rfl) rfl ?_
  refine st rfl (o_call [0] [0, 1, 2, 3, 4, 5, 6] (end_ b1 ((takeS ((numberF (1 : Int) s none).1 : Int) ((numberF (1 : Int) s none).2.1) (badT s)).2.1) ((takeS ((numberF 1 s none).1 : Int) (numberF 1 s none).2.1 (badT s)).2.2) ea em ef (by assumption) (by assumption) (by assumption)) rfl rfl rfl rfl rfl rfl (fun v L' I' hq3 => ?_))
  obtain ⟨rfl, rfl, rfl⟩ := hq3
  refine s_y rfl (v := .tuple #[.string ((endF ((takeS ((numberF (1 : Int) s none).1 : Int) ((numberF (1 : Int) s none).2.1) (badT s)).2.1) ((takeS ((numberF 1 s none).1 : Int) (numberF 1 s none).2.1 (badT s)).2.2)).1), .int .i64 ((endF ((takeS ((numberF (1 : Int) s none).1 : Int) ((numberF (1 : Int) s none).2.1) (badT s)).2.1) ((takeS ((numberF 1 s none).1 : Int) (numberF 1 s none).2.1 (badT s)).2.2)).2)]) (y_mv rfl) rfl ?_
  refine s_y rfl (v := .string ((endF ((takeS ((numberF (1 : Int) s none).1 : Int) ((numberF (1 : Int) s none).2.1) (badT s)).2.1) ((takeS ((numberF 1 s none).1 : Int) (numberF 1 s none).2.1 (badT s)).2.2)).1)) (y_k rfl rfl (fun _ => by kernel_rfl)) rfl ?_
  refine s_y rfl (v := .int .i64 ((endF ((takeS ((numberF (1 : Int) s none).1 : Int) ((numberF (1 : Int) s none).2.1) (badT s)).2.1) ((takeS ((numberF 1 s none).1 : Int) (numberF 1 s none).2.1 (badT s)).2.2)).2)) (y_k rfl rfl (fun _ => by kernel_rfl)) rfl ?_
  refine s_y rfl (v := .string ((endF ((takeS ((numberF (1 : Int) s none).1 : Int) ((numberF (1 : Int) s none).2.1) (badT s)).2.1) ((takeS ((numberF 1 s none).1 : Int) (numberF 1 s none).2.1 (badT s)).2.2)).1)) (y_as rfl) rfl ?_
  refine s_y rfl (v := .int .i64 ((endF ((takeS ((numberF (1 : Int) s none).1 : Int) ((numberF (1 : Int) s none).2.1) (badT s)).2.1) ((takeS ((numberF 1 s none).1 : Int) (numberF 1 s none).2.1 (badT s)).2.2)).2)) (y_as rfl) rfl ?_
  refine s_nil (q_then (c_seq (c_seq (c_region ?_))))
  refine s_y rfl (v := .int .i64 ((endF ((takeS ((numberF (1 : Int) s none).1 : Int) ((numberF (1 : Int) s none).2.1) (badT s)).2.1) ((takeS ((numberF 1 s none).1 : Int) (numberF 1 s none).2.1 (badT s)).2.2)).2)) (y_mv rfl) rfl ?_
  refine e_by ((endF ((takeS ((numberF (1 : Int) s none).1 : Int) ((numberF (1 : Int) s none).2.1) (badT s)).2.1) ((takeS ((numberF 1 s none).1 : Int) (numberF 1 s none).2.1 (badT s)).2.2)).2 = 0) (fun h26 => ?_) (fun h26 => ?_)
  ·
   refine s_y rfl (v := .bool false) (y_nt (y_k (v := .bool (!decide ((endF ((takeS ((numberF (1 : Int) s none).1 : Int) ((numberF (1 : Int) s none).2.1) (badT s)).2.1) ((takeS ((numberF 1 s none).1 : Int) (numberF 1 s none).2.1 (badT s)).2.2)).2 = 0))) rfl rfl (fun _ => by kernel_rfl)) h26) rfl ?_
   refine s_nil (q_then (c_false rfl (c_skip (q_then (c_seq (c_region ?_))))))
   refine s_y rfl (v := .string ((takeS ((numberF (1 : Int) s none).1 : Int) ((numberF (1 : Int) s none).2.1) (badT s)).1)) (y_mv rfl) rfl ?_
   refine s_y rfl (v := .string ((endF ((takeS ((numberF (1 : Int) s none).1 : Int) ((numberF (1 : Int) s none).2.1) (badT s)).2.1) ((takeS ((numberF 1 s none).1 : Int) (numberF 1 s none).2.1 (badT s)).2.2)).1)) (y_mv rfl) rfl ?_
   refine s_y rfl (v := .string ((takeS ((numberF (1 : Int) s none).1 : Int) ((numberF (1 : Int) s none).2.1) (badT s)).1)) (y_as rfl) rfl ?_
   refine s_y rfl (v := .string ((endF ((takeS ((numberF (1 : Int) s none).1 : Int) ((numberF (1 : Int) s none).2.1) (badT s)).2.1) ((takeS ((numberF 1 s none).1 : Int) (numberF 1 s none).2.1 (badT s)).2.2)).1)) (y_as rfl) rfl ?_
   refine s_y rfl (v := .int .i64 0) (y_as rfl) rfl ?_
   refine s_nil (q_then (c_ret ?_))
   have hp : textG s = ((takeS ((numberF (1 : Int) s none).1 : Int) ((numberF (1 : Int) s none).2.1) (badT s)).1, (endF ((takeS ((numberF (1 : Int) s none).1 : Int) ((numberF (1 : Int) s none).2.1) (badT s)).2.1) ((takeS ((numberF 1 s none).1 : Int) (numberF 1 s none).2.1 (badT s)).2.2)).1, 0) := by show textG s = _; unfold textG takT; first | (rw [if_pos (by assumption)]; done) | (rw [if_neg (by assumption)]; done)
   refine c_fin (I' := []) [] [0, 1, 2, 3, 4, 5, 6] rfl (.tmp rfl (.tmp rfl (.tmp rfl .nil))) rfl rfl rfl ?_
   rw [hp]
   exact ⟨rfl, rfl, rfl⟩
  ·
   refine s_y rfl (v := .bool true) (y_nf (y_k (v := .bool (!decide ((endF ((takeS ((numberF (1 : Int) s none).1 : Int) ((numberF (1 : Int) s none).2.1) (badT s)).2.1) ((takeS ((numberF 1 s none).1 : Int) (numberF 1 s none).2.1 (badT s)).2.2)).2 = 0))) rfl rfl (fun _ => by kernel_rfl)) h26) rfl ?_
   refine s_nil (q_then (c_true rfl (c_seq (c_region ?_))))
   refine s_y rfl (v := .int .i64 ((endF ((takeS ((numberF (1 : Int) s none).1 : Int) ((numberF (1 : Int) s none).2.1) (badT s)).2.1) ((takeS ((numberF 1 s none).1 : Int) (numberF 1 s none).2.1 (badT s)).2.2)).2)) (y_mv rfl) rfl ?_
   refine s_y rfl (v := .string (⟨#[]⟩ : ByteArray)) (y_as rfl) rfl ?_
   refine s_y rfl (v := .string (⟨#[]⟩ : ByteArray)) (y_as rfl) rfl ?_
   refine s_y rfl (v := .int .i64 ((endF ((takeS ((numberF (1 : Int) s none).1 : Int) ((numberF (1 : Int) s none).2.1) (badT s)).2.1) ((takeS ((numberF 1 s none).1 : Int) (numberF 1 s none).2.1 (badT s)).2.2)).2)) (y_as rfl) rfl ?_
   refine s_nil (q_then (c_ret (q_then_ret ?_)))
   have hp : textG s = ((⟨#[]⟩ : ByteArray), (⟨#[]⟩ : ByteArray), (endF ((takeS ((numberF (1 : Int) s none).1 : Int) ((numberF (1 : Int) s none).2.1) (badT s)).2.1) ((takeS ((numberF 1 s none).1 : Int) (numberF 1 s none).2.1 (badT s)).2.2)).2) := by show textG s = _; unfold textG takT; first | (rw [if_pos (by assumption)]; done) | (rw [if_neg (by assumption)]; done)
   refine c_fin (I' := []) [] [0, 1, 2, 3, 4, 5, 6] rfl (.tmp rfl (.tmp rfl (.tmp rfl .nil))) rfl rfl rfl ?_
   rw [hp]
   exact ⟨rfl, rfl, rfl⟩
 ·
  refine s_y rfl (v := .bool false) (y_f (y_k (v := .bool (decide (((numberF (1 : Int) s none).1 : Int) > 200))) rfl rfl (fun _ => by kernel_rfl)) h24) rfl ?_
  refine s_nil (q_then (c_false rfl (c_skip (q_then (c_seq (c_region ?_))))))
  refine s_y rfl (v := .pointer (some ⟨b1, 0, none⟩)) (y_mv rfl) rfl ?_
  refine s_y rfl (v := .int .u64 ((numberF (1 : Int) s none).1 : Int)) (y_mv rfl) rfl ?_
  refine s_y rfl (v := .int .i64 ((numberF (1 : Int) s none).1 : Int)) (y_cvi (r := ((numberF (1 : Int) s none).1 : Int)) rfl Tryz.underlying22 Tryz.underlying3 (wrap_in (by omega) (by omega))) rfl ?_
  have h27 : badT s = (numberF 1 s none).2.2 := by unfold badT; first | rw [if_pos (by first | assumption | omega)] | rw [if_neg (by first | assumption | omega)]
  rw [← h27]
  refine st rfl (o_call [0] [0, 1, 2, 3, 4, 5, 6] (take_ b1 ((numberF (1 : Int) s none).2.1) (badT s) ((numberF (1 : Int) s none).1 : Int) ea em ef (by first | assumption | (intro hh; first | omega | contradiction | exact absurd hh (by simp) | (have := isW_rng (by assumption); omega))) (by first | omega | (rw [ByteArray.size_append]; omega) | decide | assumption)) rfl rfl rfl rfl rfl rfl (fun v L' I' hq4 => ?_))
  obtain ⟨rfl, rfl, rfl⟩ := hq4
  refine s_y rfl (v := .string ((takeS ((numberF (1 : Int) s none).1 : Int) ((numberF (1 : Int) s none).2.1) (badT s)).1)) (y_as rfl) rfl ?_
  refine s_nil (q_then (c_seq (c_region ?_)))
  refine s_y rfl (v := .pointer (some ⟨b1, 0, none⟩)) (y_mv rfl) rfl ?_
  refine st rfl (o_call [0] [0, 1, 2, 3, 4, 5, 6] (end_ b1 ((takeS ((numberF (1 : Int) s none).1 : Int) ((numberF (1 : Int) s none).2.1) (badT s)).2.1) ((takeS ((numberF 1 s none).1 : Int) (numberF 1 s none).2.1 (badT s)).2.2) ea em ef (by assumption) (by assumption) (by assumption)) rfl rfl rfl rfl rfl rfl (fun v L' I' hq5 => ?_))
  obtain ⟨rfl, rfl, rfl⟩ := hq5
  refine s_y rfl (v := .tuple #[.string ((endF ((takeS ((numberF (1 : Int) s none).1 : Int) ((numberF (1 : Int) s none).2.1) (badT s)).2.1) ((takeS ((numberF 1 s none).1 : Int) (numberF 1 s none).2.1 (badT s)).2.2)).1), .int .i64 ((endF ((takeS ((numberF (1 : Int) s none).1 : Int) ((numberF (1 : Int) s none).2.1) (badT s)).2.1) ((takeS ((numberF 1 s none).1 : Int) (numberF 1 s none).2.1 (badT s)).2.2)).2)]) (y_mv rfl) rfl ?_
  refine s_y rfl (v := .string ((endF ((takeS ((numberF (1 : Int) s none).1 : Int) ((numberF (1 : Int) s none).2.1) (badT s)).2.1) ((takeS ((numberF 1 s none).1 : Int) (numberF 1 s none).2.1 (badT s)).2.2)).1)) (y_k rfl rfl (fun _ => by kernel_rfl)) rfl ?_
  refine s_y rfl (v := .int .i64 ((endF ((takeS ((numberF (1 : Int) s none).1 : Int) ((numberF (1 : Int) s none).2.1) (badT s)).2.1) ((takeS ((numberF 1 s none).1 : Int) (numberF 1 s none).2.1 (badT s)).2.2)).2)) (y_k rfl rfl (fun _ => by kernel_rfl)) rfl ?_
  refine s_y rfl (v := .string ((endF ((takeS ((numberF (1 : Int) s none).1 : Int) ((numberF (1 : Int) s none).2.1) (badT s)).2.1) ((takeS ((numberF 1 s none).1 : Int) (numberF 1 s none).2.1 (badT s)).2.2)).1)) (y_as rfl) rfl ?_
  refine s_y rfl (v := .int .i64 ((endF ((takeS ((numberF (1 : Int) s none).1 : Int) ((numberF (1 : Int) s none).2.1) (badT s)).2.1) ((takeS ((numberF 1 s none).1 : Int) (numberF 1 s none).2.1 (badT s)).2.2)).2)) (y_as rfl) rfl ?_
  refine s_nil (q_then (c_seq (c_seq (c_region ?_))))
  refine s_y rfl (v := .int .i64 ((endF ((takeS ((numberF (1 : Int) s none).1 : Int) ((numberF (1 : Int) s none).2.1) (badT s)).2.1) ((takeS ((numberF 1 s none).1 : Int) (numberF 1 s none).2.1 (badT s)).2.2)).2)) (y_mv rfl) rfl ?_
  refine e_by ((endF ((takeS ((numberF (1 : Int) s none).1 : Int) ((numberF (1 : Int) s none).2.1) (badT s)).2.1) ((takeS ((numberF 1 s none).1 : Int) (numberF 1 s none).2.1 (badT s)).2.2)).2 = 0) (fun h28 => ?_) (fun h28 => ?_)
  ·
   refine s_y rfl (v := .bool false) (y_nt (y_k (v := .bool (!decide ((endF ((takeS ((numberF (1 : Int) s none).1 : Int) ((numberF (1 : Int) s none).2.1) (badT s)).2.1) ((takeS ((numberF 1 s none).1 : Int) (numberF 1 s none).2.1 (badT s)).2.2)).2 = 0))) rfl rfl (fun _ => by kernel_rfl)) h28) rfl ?_
   refine s_nil (q_then (c_false rfl (c_skip (q_then (c_seq (c_region ?_))))))
   refine s_y rfl (v := .string ((takeS ((numberF (1 : Int) s none).1 : Int) ((numberF (1 : Int) s none).2.1) (badT s)).1)) (y_mv rfl) rfl ?_
   refine s_y rfl (v := .string ((endF ((takeS ((numberF (1 : Int) s none).1 : Int) ((numberF (1 : Int) s none).2.1) (badT s)).2.1) ((takeS ((numberF 1 s none).1 : Int) (numberF 1 s none).2.1 (badT s)).2.2)).1)) (y_mv rfl) rfl ?_
   refine s_y rfl (v := .string ((takeS ((numberF (1 : Int) s none).1 : Int) ((numberF (1 : Int) s none).2.1) (badT s)).1)) (y_as rfl) rfl ?_
   refine s_y rfl (v := .string ((endF ((takeS ((numberF (1 : Int) s none).1 : Int) ((numberF (1 : Int) s none).2.1) (badT s)).2.1) ((takeS ((numberF 1 s none).1 : Int) (numberF 1 s none).2.1 (badT s)).2.2)).1)) (y_as rfl) rfl ?_
   refine s_y rfl (v := .int .i64 0) (y_as rfl) rfl ?_
   refine s_nil (q_then (c_ret ?_))
   have hp : textG s = ((takeS ((numberF (1 : Int) s none).1 : Int) ((numberF (1 : Int) s none).2.1) (badT s)).1, (endF ((takeS ((numberF (1 : Int) s none).1 : Int) ((numberF (1 : Int) s none).2.1) (badT s)).2.1) ((takeS ((numberF 1 s none).1 : Int) (numberF 1 s none).2.1 (badT s)).2.2)).1, 0) := by show textG s = _; unfold textG takT; first | (rw [if_pos (by assumption)]; done) | (rw [if_neg (by assumption)]; done)
   refine c_fin (I' := []) [] [0, 1, 2, 3, 4, 5, 6] rfl (.tmp rfl (.tmp rfl (.tmp rfl .nil))) rfl rfl rfl ?_
   rw [hp]
   exact ⟨rfl, rfl, rfl⟩
  ·
   refine s_y rfl (v := .bool true) (y_nf (y_k (v := .bool (!decide ((endF ((takeS ((numberF (1 : Int) s none).1 : Int) ((numberF (1 : Int) s none).2.1) (badT s)).2.1) ((takeS ((numberF 1 s none).1 : Int) (numberF 1 s none).2.1 (badT s)).2.2)).2 = 0))) rfl rfl (fun _ => by kernel_rfl)) h28) rfl ?_
   refine s_nil (q_then (c_true rfl (c_seq (c_region ?_))))
   refine s_y rfl (v := .int .i64 ((endF ((takeS ((numberF (1 : Int) s none).1 : Int) ((numberF (1 : Int) s none).2.1) (badT s)).2.1) ((takeS ((numberF 1 s none).1 : Int) (numberF 1 s none).2.1 (badT s)).2.2)).2)) (y_mv rfl) rfl ?_
   refine s_y rfl (v := .string (⟨#[]⟩ : ByteArray)) (y_as rfl) rfl ?_
   refine s_y rfl (v := .string (⟨#[]⟩ : ByteArray)) (y_as rfl) rfl ?_
   refine s_y rfl (v := .int .i64 ((endF ((takeS ((numberF (1 : Int) s none).1 : Int) ((numberF (1 : Int) s none).2.1) (badT s)).2.1) ((takeS ((numberF 1 s none).1 : Int) (numberF 1 s none).2.1 (badT s)).2.2)).2)) (y_as rfl) rfl ?_
   refine s_nil (q_then (c_ret (q_then_ret ?_)))
   have hp : textG s = ((⟨#[]⟩ : ByteArray), (⟨#[]⟩ : ByteArray), (endF ((takeS ((numberF (1 : Int) s none).1 : Int) ((numberF (1 : Int) s none).2.1) (badT s)).2.1) ((takeS ((numberF 1 s none).1 : Int) (numberF 1 s none).2.1 (badT s)).2.2)).2) := by show textG s = _; unfold textG takT; first | (rw [if_pos (by assumption)]; done) | (rw [if_neg (by assumption)]; done)
   refine c_fin (I' := []) [] [0, 1, 2, 3, 4, 5, 6] rfl (.tmp rfl (.tmp rfl (.tmp rfl .nil))) rfl rfl rfl ?_
   rw [hp]
   exact ⟨rfl, rfl, rfl⟩
end Go.Proofs.YtcnncdniibkjkaaGreatDoor
