/- The laws of chapter 17 (call), walked over the given program; no condition but what stands in each theorem: part F. -/
import Derived.Test.YtcnncdniibkjkaaDoorRD
set_option linter.unusedVariables false
set_option linter.unusedSimpArgs false
set_option maxRecDepth 100000
set_option maxHeartbeats 8000000
namespace Go.Proofs.YtcnncdniibkjkaaDoor
open Go Go.Sl Go.RowKit Go.Extern.Stop Go.Stop Go.Extern
theorem bitsOf_ (w : Int) (ea : Addr) (em : Addr) (ef : Addr) : Con Tryd.prog 67 [.int .i64 w] [] [cellsAt 2 0 [.iface 177 (.pointer (some ea))], cellsAt 3 0 [.iface 177 (.pointer (some em))], cellsAt 1 0 [.iface 177 (.pointer (some ef))], errAt ea, errAt em, errAt ef, cellsAt 0 0 [.iface 139 (.agg #[.pointer (some ⟨5, 51, none⟩)])]] (fun v L' I' => ((isW w) ∧ v = .tuple #[.int .i64 (8 * w), .nilIface] ∧ L' = [] ∧ I' = []) ∨ ((¬ (isW w)) ∧ v = .tuple #[.int .i64 0, .iface 177 (.pointer (some ea))] ∧ L' = [] ∧ I' = [])) := by
 refine fn_of Tryd.func67 rfl Tryd.ntmps67 (by kernel_rfl) rfl (fun C => ?_)
 refine c_seq (c_region ?_)
 refine s_y rfl (v := .int .i64 0) (y_as rfl) rfl ?_
 refine s_y rfl (v := .nilIface) (y_as rfl) rfl ?_
 refine s_nil (q_then (c_seq (c_region ?_)))
 refine st rfl (o_mkmap rfl (fun m1 => ?_))
 refine st rfl (o_insert 0 rfl rfl rfl rfl Tryd.underlying167 Tryd.underlying3 rfl (by kernel_rfl) ?_)
 refine st rfl (o_insert 0 rfl rfl rfl rfl Tryd.underlying167 Tryd.underlying3 rfl (by kernel_rfl) ?_)
 refine st rfl (o_insert 0 rfl rfl rfl rfl Tryd.underlying167 Tryd.underlying3 rfl (by kernel_rfl) ?_)
 refine st rfl (o_insert 0 rfl rfl rfl rfl Tryd.underlying167 Tryd.underlying3 rfl (by kernel_rfl) ?_)
 refine s_y rfl (v := .map (some m1)) (y_mv rfl) rfl ?_
 refine s_y rfl (v := .int .i64 w) (y_mv rfl) rfl ?_
 refine st rfl (o_lookup (v := .int .i64 (bitsF w)) (ok := (decide (isW w))) 0 rfl rfl rfl Tryd.underlying167 Tryd.underlying3 rfl (bits_find w) (fun w => by kernel_rfl) (bits_val w) (bits_ok w) rfl ?_)
 refine s_y rfl (v := .tuple #[.int .i64 (bitsF w), .bool (decide (isW w))]) (y_mv rfl) rfl ?_
 refine s_y rfl (v := .int .i64 (bitsF w)) (y_k rfl rfl (fun _ => by kernel_rfl)) rfl ?_
 refine s_y rfl (v := .bool (decide (isW w))) (y_k rfl rfl (fun _ => by kernel_rfl)) rfl ?_
 refine s_y rfl (v := .int .i64 (bitsF w)) (y_as rfl) rfl ?_
 refine s_y rfl (v := .bool (decide (isW w))) (y_as rfl) rfl ?_
 refine s_nil (q_then (c_seq (c_seq (c_region ?_))))
 refine s_y rfl (v := .bool (decide (isW w))) (y_mv rfl) rfl ?_
 refine s_y rfl (v := .bool (!decide (isW w))) (y_not rfl) rfl ?_
 refine s_nil (q_then ?_)
 refine c_bool rfl (fun h1 => ?_) (fun h1 => ?_)
 ·
  have h2 : ¬ (isW w) := by simpa using h1
  refine c_seq ?_
  refine c_draw (l := ticked 3 0) [(⟨2, 0, none⟩, .iface 177 (.pointer (some ea)))] [] (by kernel_rfl) rfl rfl ?_
  refine b_y (i := 1) (v := .int .i64 0) (ticked 3 2) rfl rfl (by exact y_as rfl) ?_
  refine a_held (i := 0) (ticked 3 3) rfl (by as_aux_lemma => kernel_rfl) rfl rfl rfl (held_fact (j := 0) 0 rfl rfl held_nil) (h_ld 0 rfl rfl Tryd.underlying51 rfl) ?_
  refine b_y (i := 2) (v := .iface 177 (.pointer (some ea))) (ticked 3 7) rfl rfl (by exact y_as rfl) ?_
  refine a_done (by as_aux_lemma => kernel_rfl) ?_
  refine q_then (c_ret (q_then_ret ?_))
  refine c_fin (I' := []) [] [0, 1, 2, 3, 4, 5, 6] rfl (.tmp rfl (.tmp rfl .nil)) rfl rfl rfl ?_
  exact .inr ⟨h2, rfl, rfl, rfl⟩
 ·
  have h3 : isW w := by simpa using h1
  refine c_skip (q_then (c_seq (c_region ?_)))
  refine s_y rfl (v := .int .i64 (bitsF w)) (y_mv rfl) rfl ?_
  refine s_y rfl (v := .int .i64 (bitsF w)) (y_as rfl) rfl ?_
  refine s_y rfl (v := .nilIface) (y_as rfl) rfl ?_
  refine s_nil (q_then (c_ret ?_))
  have hb := bits_eq (by assumption)
  rw [hb]
  refine c_fin (I' := []) [] [0, 1, 2, 3, 4, 5, 6] rfl (.tmp rfl (.tmp rfl .nil)) rfl rfl rfl ?_
  exact .inl ⟨h3, rfl, rfl, rfl⟩
end Go.Proofs.YtcnncdniibkjkaaDoor
