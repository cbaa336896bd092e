/- The laws of chapter 4 (labcode), walked over the given program; no condition but what stands in each theorem: part F. -/
import Derived.Test.YthoefkpbijcdeaaDoorRD
set_option linter.unusedVariables false
set_option linter.unusedSimpArgs false
set_option maxRecDepth 100000
set_option maxHeartbeats 8000000
namespace Go.Proofs.YthoefkpbijcdeaaDoor
open Go Go.Sl Go.RowKit Go.Extern.Stop Go.Stop Go.Extern
theorem ris_ (w : Int) : Con Tryd.prog 61 [.int .i64 w] [] [] (fun v L' I' => v = .bool (decide (isW w)) ∧ L' = [] ∧ I' = []) := by
  refine fn_of Tryd.func61 rfl Tryd.ntmps61 (by kernel_rfl) rfl (fun C => ?_)
  refine c_seq ?_
  refine c_region ?_
  refine st rfl (o_y (v := .bool false) (y_as rfl) rfl rfl rfl ?_)
  refine s_nil ?_
  refine q_then ?_
  refine c_seq ?_
  refine c_region ?_
  refine st rfl (o_y (v := .int .i64 w) (y_mv rfl) rfl rfl rfl ?_)
  refine e_by (w = 1) (fun h1 => ?_) (fun h1 => ?_)
  ·
    refine st rfl (o_y (v := .bool true) (y_t (y_k (v := .bool (decide (w = 1))) rfl rfl (fun _ => by kernel_rfl)) h1) rfl rfl rfl ?_)
    refine st rfl (o_y (v := .bool true) (y_mv rfl) rfl rfl rfl ?_)
    refine st_off 5 rfl rfl rfl rfl rfl rfl ?_
    refine st_off 5 rfl rfl rfl rfl rfl rfl ?_
    refine st rfl (o_y (v := .bool true) (y_pick rfl rfl) rfl rfl rfl ?_)
    refine st rfl (o_y (v := .bool true) (y_mv rfl) rfl rfl rfl ?_)
    refine st_off 9 rfl rfl rfl rfl rfl rfl ?_
    refine st_off 9 rfl rfl rfl rfl rfl rfl ?_
    refine st rfl (o_y (v := .bool true) (y_pick rfl rfl) rfl rfl rfl ?_)
    refine st rfl (o_y (v := .bool true) (y_mv rfl) rfl rfl rfl ?_)
    refine st_off 13 rfl rfl rfl rfl rfl rfl ?_
    refine st_off 13 rfl rfl rfl rfl rfl rfl ?_
    refine st rfl (o_y (v := .bool true) (y_pick rfl rfl) rfl rfl rfl ?_)
    refine st rfl (o_y (v := .bool true) (y_as rfl) rfl rfl rfl ?_)
    refine s_nil ?_
    refine q_then ?_
    refine c_ret ?_
    refine c_fin (I' := []) [] [] rfl (.tmp rfl .nil) rfl rfl rfl ?_
    exact ⟨by show Value.bool _ = Value.bool _; congr 1; symm; first | exact decide_eq_true (by unfold isW; omega) | exact decide_eq_false (by unfold isW; omega), rfl, rfl⟩
  ·
    refine st rfl (o_y (v := .bool false) (y_f (y_k (v := .bool (decide (w = 1))) rfl rfl (fun _ => by kernel_rfl)) h1) rfl rfl rfl ?_)
    refine st rfl (o_y (v := .bool false) (y_mv rfl) rfl rfl rfl ?_)
    refine st_on 5 rfl rfl rfl (o_y (v := .int .i64 w) (y_mv rfl) rfl rfl rfl ?_)
    refine e_by (w = 2) (fun h2 => ?_) (fun h2 => ?_)
    ·
      refine st_on 5 rfl rfl rfl (o_y (v := .bool true) (y_t (y_k (v := .bool (decide (w = 2))) rfl rfl (fun _ => by kernel_rfl)) h2) rfl rfl rfl ?_)
      refine st rfl (o_y (v := .bool true) (y_pick rfl rfl) rfl rfl rfl ?_)
      refine st rfl (o_y (v := .bool true) (y_mv rfl) rfl rfl rfl ?_)
      refine st_off 9 rfl rfl rfl rfl rfl rfl ?_
      refine st_off 9 rfl rfl rfl rfl rfl rfl ?_
      refine st rfl (o_y (v := .bool true) (y_pick rfl rfl) rfl rfl rfl ?_)
      refine st rfl (o_y (v := .bool true) (y_mv rfl) rfl rfl rfl ?_)
      refine st_off 13 rfl rfl rfl rfl rfl rfl ?_
      refine st_off 13 rfl rfl rfl rfl rfl rfl ?_
      refine st rfl (o_y (v := .bool true) (y_pick rfl rfl) rfl rfl rfl ?_)
      refine st rfl (o_y (v := .bool true) (y_as rfl) rfl rfl rfl ?_)
      refine s_nil ?_
      refine q_then ?_
      refine c_ret ?_
      refine c_fin (I' := []) [] [] rfl (.tmp rfl .nil) rfl rfl rfl ?_
      exact ⟨by show Value.bool _ = Value.bool _; congr 1; symm; first | exact decide_eq_true (by unfold isW; omega) | exact decide_eq_false (by unfold isW; omega), rfl, rfl⟩
    ·
      refine st_on 5 rfl rfl rfl (o_y (v := .bool false) (y_f (y_k (v := .bool (decide (w = 2))) rfl rfl (fun _ => by kernel_rfl)) h2) rfl rfl rfl ?_)
      refine st rfl (o_y (v := .bool false) (y_pick rfl rfl) rfl rfl rfl ?_)
      refine st rfl (o_y (v := .bool false) (y_mv rfl) rfl rfl rfl ?_)
      refine st_on 9 rfl rfl rfl (o_y (v := .int .i64 w) (y_mv rfl) rfl rfl rfl ?_)
      refine e_by (w = 4) (fun h3 => ?_) (fun h3 => ?_)
      ·
        refine st_on 9 rfl rfl rfl (o_y (v := .bool true) (y_t (y_k (v := .bool (decide (w = 4))) rfl rfl (fun _ => by kernel_rfl)) h3) rfl rfl rfl ?_)
        refine st rfl (o_y (v := .bool true) (y_pick rfl rfl) rfl rfl rfl ?_)
        refine st rfl (o_y (v := .bool true) (y_mv rfl) rfl rfl rfl ?_)
        refine st_off 13 rfl rfl rfl rfl rfl rfl ?_
        refine st_off 13 rfl rfl rfl rfl rfl rfl ?_
        refine st rfl (o_y (v := .bool true) (y_pick rfl rfl) rfl rfl rfl ?_)
        refine st rfl (o_y (v := .bool true) (y_as rfl) rfl rfl rfl ?_)
        refine s_nil ?_
        refine q_then ?_
        refine c_ret ?_
        refine c_fin (I' := []) [] [] rfl (.tmp rfl .nil) rfl rfl rfl ?_
        exact ⟨by show Value.bool _ = Value.bool _; congr 1; symm; first | exact decide_eq_true (by unfold isW; omega) | exact decide_eq_false (by unfold isW; omega), rfl, rfl⟩
      ·
        refine st_on 9 rfl rfl rfl (o_y (v := .bool false) (y_f (y_k (v := .bool (decide (w = 4))) rfl rfl (fun _ => by kernel_rfl)) h3) rfl rfl rfl ?_)
        refine st rfl (o_y (v := .bool false) (y_pick rfl rfl) rfl rfl rfl ?_)
        refine st rfl (o_y (v := .bool false) (y_mv rfl) rfl rfl rfl ?_)
        refine st_on 13 rfl rfl rfl (o_y (v := .int .i64 w) (y_mv rfl) rfl rfl rfl ?_)
        refine e_by (w = 8) (fun h4 => ?_) (fun h4 => ?_)
        ·
          refine st_on 13 rfl rfl rfl (o_y (v := .bool true) (y_t (y_k (v := .bool (decide (w = 8))) rfl rfl (fun _ => by kernel_rfl)) h4) rfl rfl rfl ?_)
          refine st rfl (o_y (v := .bool true) (y_pick rfl rfl) rfl rfl rfl ?_)
          refine st rfl (o_y (v := .bool true) (y_as rfl) rfl rfl rfl ?_)
          refine s_nil ?_
          refine q_then ?_
          refine c_ret ?_
          refine c_fin (I' := []) [] [] rfl (.tmp rfl .nil) rfl rfl rfl ?_
          exact ⟨by show Value.bool _ = Value.bool _; congr 1; symm; first | exact decide_eq_true (by unfold isW; omega) | exact decide_eq_false (by unfold isW; omega), rfl, rfl⟩
        ·
          refine st_on 13 rfl rfl rfl (o_y (v := .bool false) (y_f (y_k (v := .bool (decide (w = 8))) rfl rfl (fun _ => by kernel_rfl)) h4) rfl rfl rfl ?_)
          refine st rfl (o_y (v := .bool false) (y_pick rfl rfl) rfl rfl rfl ?_)
          refine st rfl (o_y (v := .bool false) (y_as rfl) rfl rfl rfl ?_)
          refine s_nil ?_
          refine q_then ?_
          refine c_ret ?_
          refine c_fin (I' := []) [] [] rfl (.tmp rfl .nil) rfl rfl rfl ?_
          exact ⟨by show Value.bool _ = Value.bool _; congr 1; symm; first | exact decide_eq_true (by unfold isW; omega) | exact decide_eq_false (by unfold isW; omega), rfl, rfl⟩
theorem bitsOf_ (w : Int) (ea : Addr) (em : Addr) (ef : Addr) : Con Tryd.prog 63 [.int .i64 w] [] [cellsAt 1 0 [.iface 141 (.pointer (some ea))], cellsAt 3 0 [.iface 141 (.pointer (some em))], cellsAt 4 0 [.iface 141 (.pointer (some ef))], errAt ea, errAt em, errAt ef, cellsAt 2 0 [.iface 122 (.agg #[.pointer (some ⟨5, 46, none⟩)])]] (fun v L' I' => ((isW w) ∧ v = .tuple #[.int .i64 (8 * w), .nilIface] ∧ L' = [] ∧ I' = []) ∨ ((¬ (isW w)) ∧ v = .tuple #[.int .i64 0, .iface 141 (.pointer (some ea))] ∧ L' = [] ∧ I' = [])) := by
  refine fn_of Tryd.func63 rfl Tryd.ntmps63 (by kernel_rfl) rfl (fun C => ?_)
  refine c_seq ?_
  refine c_region ?_
  refine st rfl (o_y (v := .int .i64 0) (y_as rfl) rfl rfl rfl ?_)
  refine st rfl (o_y (v := .nilIface) (y_as rfl) rfl rfl rfl ?_)
  refine s_nil ?_
  refine q_then ?_
  refine c_seq ?_
  refine c_region ?_
  refine st rfl (o_mkmap rfl (fun m1 => ?_))
  refine st rfl (o_insert 0 rfl rfl rfl rfl Tryd.underlying138 Tryd.underlying3 rfl (by kernel_rfl) ?_)
  refine st rfl (o_insert 0 rfl rfl rfl rfl Tryd.underlying138 Tryd.underlying3 rfl (by kernel_rfl) ?_)
  refine st rfl (o_insert 0 rfl rfl rfl rfl Tryd.underlying138 Tryd.underlying3 rfl (by kernel_rfl) ?_)
  refine st rfl (o_insert 0 rfl rfl rfl rfl Tryd.underlying138 Tryd.underlying3 rfl (by kernel_rfl) ?_)
  refine st rfl (o_y (v := .map (some m1)) (y_mv rfl) rfl rfl rfl ?_)
  refine st rfl (o_y (v := .int .i64 w) (y_mv rfl) rfl rfl rfl ?_)
  refine st rfl (o_lookup (v := .int .i64 (bitsF w)) (ok := (decide (isW w))) 0 rfl rfl rfl Tryd.underlying138 Tryd.underlying3 rfl (bits_find w) (fun w => by kernel_rfl) (bits_val w) (bits_ok w) rfl ?_)
  refine st rfl (o_y (v := .tuple #[.int .i64 (bitsF w), .bool (decide (isW w))]) (y_mv rfl) rfl rfl rfl ?_)
  refine st rfl (o_y (v := .int .i64 (bitsF w)) (y_k rfl rfl (fun _ => by kernel_rfl)) rfl rfl rfl ?_)
  refine st rfl (o_y (v := .bool (decide (isW w))) (y_k rfl rfl (fun _ => by kernel_rfl)) rfl rfl rfl ?_)
  refine st rfl (o_y (v := .int .i64 (bitsF w)) (y_as rfl) rfl rfl rfl ?_)
  refine st rfl (o_y (v := .bool (decide (isW w))) (y_as rfl) rfl rfl rfl ?_)
  refine s_nil ?_
  refine q_then ?_
  refine c_seq ?_
  refine c_seq ?_
  refine c_region ?_
  refine st rfl (o_y (v := .bool (decide (isW w))) (y_mv rfl) rfl rfl rfl ?_)
  refine st rfl (o_y (v := .bool (!decide (isW w))) (y_not rfl) rfl rfl rfl ?_)
  refine s_nil ?_
  refine q_then ?_
  refine c_bool rfl (fun h1 => ?_) (fun h1 => ?_)
  ·
    have h2 : ¬ (isW w) := by simpa using h1
    refine c_seq ?_
    refine c_draw (l := ticked 3 0) [(⟨1, 0, none⟩, .iface 141 (.pointer (some ea)))] [] (by kernel_rfl) rfl rfl ?_
    refine a_y (i := 1) (v := .int .i64 0) (ticked 3 2) rfl (by as_aux_lemma => kernel_rfl) rfl rfl rfl (by exact y_as rfl) ?_
    refine a_held (i := 0) (ticked 3 3) rfl (by as_aux_lemma => kernel_rfl) rfl rfl rfl (held_fact (j := 0) 0 rfl rfl held_nil) (h_ld 0 rfl rfl Tryd.underlying46 rfl) ?_
    refine a_y (i := 2) (v := .iface 141 (.pointer (some ea))) (ticked 3 7) rfl (by as_aux_lemma => kernel_rfl) rfl rfl rfl (by exact y_as rfl) ?_
    refine a_done (by as_aux_lemma => kernel_rfl) ?_
    refine q_then ?_
    refine c_ret ?_
    refine q_then_ret ?_
    refine c_fin (I' := []) [] [0, 1, 2, 3, 4, 5, 6] rfl (.tmp rfl (.tmp rfl .nil)) rfl rfl rfl ?_
    exact .inr ⟨h2, rfl, rfl, rfl⟩
  ·
    have h3 : isW w := by simpa using h1
    refine c_skip ?_
    refine q_then ?_
    refine c_seq ?_
    refine c_region ?_
    refine st rfl (o_y (v := .int .i64 (bitsF w)) (y_mv rfl) rfl rfl rfl ?_)
    refine st rfl (o_y (v := .int .i64 (bitsF w)) (y_as rfl) rfl rfl rfl ?_)
    refine st rfl (o_y (v := .nilIface) (y_as rfl) rfl rfl rfl ?_)
    refine s_nil ?_
    refine q_then ?_
    refine c_ret ?_
    have hb := bits_eq (by assumption)
    rw [hb]
    refine c_fin (I' := []) [] [0, 1, 2, 3, 4, 5, 6] rfl (.tmp rfl (.tmp rfl .nil)) rfl rfl rfl ?_
    exact .inl ⟨h3, rfl, rfl, rfl⟩
end Go.Proofs.YthoefkpbijcdeaaDoor
