/- The laws of chapter 17 (call), walked over the given program; no condition but what stands in each theorem: part LG. -/
import Derived.Test.YtcnncdniibkjkaaGreatDoorRLF
set_option linter.unusedVariables false
set_option linter.unusedSimpArgs false
set_option maxRecDepth 100000
set_option maxHeartbeats 8000000
namespace Go.Proofs.YtcnncdniibkjkaaGreatDoor
open Go Go.Sl Go.RowKit Go.Extern.Stop Go.Stop Go.Extern
theorem lGet_ (s : ByteArray) (ea : Addr) (em : Addr) (ef : Addr) (el : Addr) (h12 : ea ≠ em) (h13 : ea ≠ ef) (h23 : em ≠ ef) (hs : s.size ≤ 100000) : Con Tryz.prog 59 [.string s] [] [cellsAt 2 0 [.iface 180 (.pointer (some ea))], cellsAt 3 0 [.iface 180 (.pointer (some em))], cellsAt 1 0 [.iface 180 (.pointer (some ef))], errAt ea, errAt em, errAt ef, cellsAt 4 0 [.iface 180 (.pointer (some el))], errAt el, cellsAt 0 0 [.iface 147 (.agg #[.pointer (some ⟨5, 48, none⟩)])]] (fun v L' I' => v = .tuple #[.agg #[.int .i64 (((labGet s).1).lv), .int .u64 (((labGet s).1).cs : Int), .int .i64 (((labGet s).1).ig)], .string ((labGet s).2.1), .int .i64 ((labGet s).2.2)] ∧ L' = [] ∧ I' = []) := by
 refine fn_of Tryz.func59 rfl Tryz.ntmps59 (by kernel_rfl) rfl (fun C => ?_)
 refine c_seq (c_region ?_)
 refine st rfl (o_box (cs := [.int .i64 0, .int .u64 0, .int .i64 0]) (T := 24) rfl rfl rfl rfl (fun _ => by kernel_rfl) (fun b1 => ?_))
 refine s_y rfl (v := .string (⟨#[]⟩ : ByteArray)) (y_as rfl) rfl ?_
 refine s_y rfl (v := .int .i64 0) (y_as rfl) rfl ?_
 refine s_nil (q_then (c_seq (c_region ?_)))
 refine s_y rfl (v := .string s) (y_mv rfl) rfl ?_
 refine s_y rfl (v := .agg #[.string s]) (y_k rfl rfl (fun _ => by kernel_rfl)) rfl ?_
 refine s_y rfl (v := .agg #[.string s, .nilIface]) (y_k rfl rfl (fun _ => by kernel_rfl)) rfl ?_
 refine st rfl (o_box (cs := [.string s, .nilIface]) (T := 137) rfl rfl rfl rfl (fun _ => by kernel_rfl) (fun b2 => ?_))
 refine s_y rfl (v := .pointer (some ⟨b2, 0, none⟩)) (y_as rfl) rfl ?_
 refine s_nil (q_then (c_seq (c_region ?_)))
 refine s_y rfl (v := .pointer (some ⟨b2, 0, none⟩)) (y_mv rfl) rfl ?_
 show Ent _ _ _ _ [pt b2 [.string s, ecV none] 137, pt b1 [.int .i64 0, .int .u64 0, .int .i64 0] 24] _ _
 refine st rfl (o_call [0] [0, 1, 2, 3, 4, 5, 6, 7, 8] (next_ b2 s none ea em ef el (by assumption) (by assumption) (by assumption) (by first | omega | exact Nat.le_trans (next_size _ _) (by omega))) rfl rfl rfl rfl rfl rfl (fun v L' I' hq1 => ?_))
 obtain ⟨rfl, rfl, rfl⟩ := hq1
 refine st rfl (o_box (cs := [.int .i64 0, .int .u64 0, .int .i64 0]) (T := 24) rfl rfl rfl rfl (fun _ => by kernel_rfl) (fun b3 => ?_))
 refine st rfl (o_st 0 rfl rfl rfl rfl rfl (by kernel_rfl) (by kernel_rfl) rfl ?_)
 refine s_nil (q_then (c_seq (c_seq (c_region ?_))))
 refine s_y rfl (v := .pointer (some ⟨b2, 0, none⟩)) (y_mv rfl) rfl ?_
 refine s_y rfl (v := .pointer (some ⟨b2, 0, none⟩)) (y_k rfl rfl (fun _ => by kernel_rfl)) rfl ?_
 refine s_y rfl (v := .pointer (some ⟨b2, 1, none⟩)) (y_k rfl rfl (fun _ => by kernel_rfl)) rfl ?_
 refine st rfl (o_ld 1 rfl rfl rfl Tryz.underlying48 rfl rfl ?_)
 refine e_by ((nextF s none).2.2 = none) (fun h24 => ?_) (fun h24 => ?_)
 ·
  refine s_y rfl (v := .bool false) (y_nt (y_bin rfl rfl (fun w => ec_ne ((nextF s none).2.2) _ w)) h24) rfl ?_
  refine s_nil (q_then (c_false rfl (c_skip (q_then (c_seq ?_)))))
  refine c_draw (l := ticked 9 0) [(⟨b3, 0, none⟩, .int .i64 (((nextF s none).1).lv)), (⟨b3, 1, none⟩, .int .u64 (((nextF s none).1).cs : Int)), (⟨b3, 2, none⟩, .int .i64 (((nextF s none).1).ig)), (⟨b2, 0, none⟩, .string ((nextF s none).2.1))] [] (by kernel_rfl) rfl rfl ?_
  refine b_y (i := 1) (v := .pointer (some ⟨b2, 0, none⟩)) (ticked 9 2) rfl rfl (by exact y_mv rfl) ?_
  refine b_y (i := 2) (v := .pointer (some ⟨b2, 0, none⟩)) (ticked 9 6) rfl rfl (by exact y_k rfl rfl (fun _ => by kernel_rfl)) ?_
  refine b_y (i := 3) (v := .pointer (some ⟨b2, 0, none⟩)) (ticked 9 14) rfl rfl (by exact y_k rfl rfl (fun _ => by kernel_rfl)) ?_
  refine b_y (i := 4) (v := .pointer (some ⟨b2, 0, none⟩)) (ticked 9 30) rfl rfl (by exact y_k rfl rfl (fun _ => by kernel_rfl)) ?_
  refine a_held (i := 0) (ticked 9 31) rfl (by as_aux_lemma => kernel_rfl) rfl rfl rfl (held_pt 0 rfl rfl (held_pt 0 rfl rfl (held_pt 0 rfl rfl (held_pt 1 rfl rfl held_nil)))) (h_ldn (vs := [.int .i64 (((nextF s none).1).lv), .int .u64 (((nextF s none).1).cs : Int), .int .i64 (((nextF s none).1).ig)]) 0 3 rfl rfl rfl Tryz.underlying24 rfl (by kernel_rfl) (by kernel_rfl)) ?_
  refine a_held (i := 5) (ticked 9 63) rfl (by as_aux_lemma => kernel_rfl) rfl rfl rfl (held_pt 0 rfl rfl (held_pt 0 rfl rfl (held_pt 0 rfl rfl (held_pt 1 rfl rfl held_nil)))) (h_ld 3 rfl rfl Tryz.underlying9 rfl) ?_
  refine a_each (rs := [6]) (by as_aux_lemma => kernel_rfl) (.cons (ticked 9 127) rfl rfl rfl (o_st 2 rfl rfl rfl rfl rfl (by kernel_rfl) (by kernel_rfl) rfl ?_) .nil) (List.cons_ne_nil _ _)
  refine a_and (held_pt 0 rfl rfl (held_pt 0 rfl rfl (held_pt 0 rfl rfl (held_pt 1 rfl rfl held_nil)))) ?_
  refine b_y (i := 7) (v := .string ((nextF s none).2.1)) (ticked 9 255) rfl rfl (by exact y_as rfl) ?_
  refine b_y (i := 8) (v := .int .i64 0) (ticked 9 511) rfl rfl (by exact y_as rfl) ?_
  refine a_done (by as_aux_lemma => kernel_rfl) ?_
  refine q_then (c_ret ?_)
  have hp : labGet s = ((nextF s none).1, (nextF s none).2.1, 0) := by first | exact get_ok (by assumption) | exact get_no (by assumption)
  refine c_fin (I' := []) [] [0, 1, 2, 3, 4, 5, 6, 7, 8] rfl (.agg 2 3 rfl rfl rfl rfl Tryz.underlying24 rfl (by kernel_rfl) (by kernel_rfl) (.tmp rfl (.tmp rfl .nil))) rfl rfl rfl ?_
  rw [hp]
  exact ⟨rfl, rfl, rfl⟩
 ·
  refine s_y rfl (v := .bool true) (y_nf (y_bin rfl rfl (fun w => ec_ne ((nextF s none).2.2) _ w)) h24) rfl ?_
  refine s_nil (q_then (c_true rfl (c_seq (c_region ?_))))
  refine s_y rfl (v := .agg #[.int .i64 0, .int .u64 0, .int .i64 0]) (y_k rfl rfl (fun _ => by kernel_rfl)) rfl ?_
  refine s_y rfl (v := .pointer (some ⟨b2, 0, none⟩)) (y_mv rfl) rfl ?_
  refine s_y rfl (v := .pointer (some ⟨b2, 0, none⟩)) (y_k rfl rfl (fun _ => by kernel_rfl)) rfl ?_
  refine s_y rfl (v := .pointer (some ⟨b2, 1, none⟩)) (y_k rfl rfl (fun _ => by kernel_rfl)) rfl ?_
  refine st rfl (o_ld 1 rfl rfl rfl Tryz.underlying48 rfl rfl ?_)
  refine st rfl (o_call [] [6, 7, 8] (ltold_ec_ el ((nextF s none).2.2)) rfl rfl rfl rfl rfl rfl (fun v L' I' hq2 => ?_))
  obtain ⟨rfl, rfl, rfl⟩ := hq2
  refine st rfl (o_st 2 rfl rfl rfl rfl rfl (by kernel_rfl) (by kernel_rfl) rfl ?_)
  refine s_y rfl (v := .string (⟨#[]⟩ : ByteArray)) (y_as rfl) rfl ?_
  refine s_y rfl (v := .int .i64 (ecN ((nextF s none).2.2))) (y_as rfl) rfl ?_
  refine s_nil (q_then (c_ret (q_then_ret ?_)))
  have hp : labGet s = ((⟨0, 0, 0⟩ : Lab), (⟨#[]⟩ : ByteArray), ecN ((nextF s none).2.2)) := by first | exact get_ok (by assumption) | exact get_no (by assumption)
  refine c_fin (I' := []) [] [0, 1, 2, 3, 4, 5, 6, 7, 8] rfl (.agg 2 3 rfl rfl rfl rfl Tryz.underlying24 rfl (by kernel_rfl) (by kernel_rfl) (.tmp rfl (.tmp rfl .nil))) rfl rfl rfl ?_
  rw [hp]
  exact ⟨rfl, rfl, rfl⟩
end Go.Proofs.YtcnncdniibkjkaaGreatDoor
