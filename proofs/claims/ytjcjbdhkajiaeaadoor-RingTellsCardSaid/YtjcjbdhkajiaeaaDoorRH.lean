/- Contracts of package ring, its reference and its laws, walked over the given program; no condition but what stands in each: part H. -/
import Derived.Test.YtjcjbdhkajiaeaaDoorRG
set_option linter.unusedVariables false
set_option linter.unusedSimpArgs false
set_option maxRecDepth 100000
namespace Go.Proofs.YtjcjbdhkajiaeaaDoor
open Go Go.Sl Go.RowKit Go.Extern.Stop Go.Stop Go.Extern
theorem own_ (A : Option Addr) (c : Nat) (l : List ByteArray) (max : Int) (hs : small l) : Con Tryd.prog 27 [.agg #[.int .i64 max, .slice A l.length c]] [] [rd strTy A c l] (fun v L' I' => ∃ b2 : Nat, ∃ A1 : Option Addr, v = .pointer (some ⟨b2, 0, none⟩) ∧ L' = [pt b2 [.int .i64 max, .slice A1 l.length l.length] 52, ars strTy 9 A1 l.length l] ∧ I' = []) := by
  refine fn_of Tryd.func27 rfl Tryd.ntmps27 (by kernel_rfl) rfl (fun C => ?_)
  refine c_seq ?_
  refine c_region ?_
  refine st rfl (o_box (cs := [.int .i64 max, .slice A l.length c]) (T := 24) rfl rfl rfl rfl (fun _ => by kernel_rfl) (fun b1 => ?_))
  refine st rfl (o_y (v := .pointer none) (y_as rfl) rfl rfl rfl ?_)
  refine s_nil ?_
  refine q_then ?_
  refine c_seq ?_
  refine c_region ?_
  refine st rfl (o_ldn 0 2 rfl rfl rfl rfl Tryd.underlying24 rfl (by kernel_rfl) (by kernel_rfl) rfl ?_)
  refine st rfl (o_y (v := .agg #[.int .i64 max, .slice A l.length c]) (y_k rfl rfl (fun _ => by kernel_rfl)) rfl rfl rfl ?_)
  refine st rfl (o_box (cs := [.int .i64 max, .slice A l.length c]) (T := 52) rfl rfl rfl rfl (fun _ => by kernel_rfl) (fun b2 => ?_))
  refine st rfl (o_y (v := .pointer (some ⟨b2, 0, none⟩)) (y_as rfl) rfl rfl rfl ?_)
  refine s_nil ?_
  refine q_then ?_
  refine c_seq ?_
  refine c_region ?_
  refine st rfl (o_y (v := .pointer (some ⟨b2, 0, none⟩)) (y_mv rfl) rfl rfl rfl ?_)
  refine st rfl (o_y (v := .pointer (some ⟨b1, 1, none⟩)) (y_k rfl rfl (fun _ => by kernel_rfl)) rfl rfl rfl ?_)
  refine st rfl (o_ld 1 rfl rfl rfl Tryd.underlying22 rfl rfl ?_)
  refine st rfl (o_y (v := .int .i64 (l.length : Int)) (y_k rfl rfl (fun _ => by kernel_rfl)) rfl rfl rfl ?_)
  refine st rfl (o_make (d := strTy) (zv := .string (⟨#[]⟩ : ByteArray)) (bytes := 16) l.length (⟨#[]⟩ : ByteArray) rfl rfl (rfl) Tryd.underlying22 (by kernel_rfl) rfl rfl rfl (by have := hs.1; omega) (by have := hs.1; simp only [maxLen]; omega) rfl (fun A1 => ?_))
  refine st rfl (o_y (v := .pointer (some ⟨b2, 0, none⟩)) (y_k rfl rfl (fun _ => by kernel_rfl)) rfl rfl rfl ?_)
  refine st rfl (o_y (v := .pointer (some ⟨b2, 0, none⟩)) (y_k rfl rfl (fun _ => by kernel_rfl)) rfl rfl rfl ?_)
  refine st rfl (o_y (v := .pointer (some ⟨b2, 1, none⟩)) (y_k rfl rfl (fun _ => by kernel_rfl)) rfl rfl rfl ?_)
  refine st rfl (o_st 1 rfl rfl rfl rfl rfl (by kernel_rfl) (by kernel_rfl) rfl ?_)
  refine s_nil ?_
  refine q_then ?_
  refine c_seq ?_
  refine c_draw (l := ticked 8 0) [(⟨b2, 1, none⟩, .slice A1 (List.replicate l.length (⟨#[]⟩ : ByteArray)).length l.length), (⟨b1, 1, none⟩, .slice A l.length c)] [7] (by kernel_rfl) rfl rfl ?_
  refine a_y (i := 0) (v := .pointer (some ⟨b2, 0, none⟩)) (ticked 8 1) rfl (by kernel_rfl) rfl rfl rfl (by exact y_mv rfl) ?_
  refine a_y (i := 1) (v := .pointer (some ⟨b2, 0, none⟩)) (ticked 8 3) rfl (by kernel_rfl) rfl rfl rfl (by exact y_k rfl rfl (fun _ => by kernel_rfl)) ?_
  refine a_y (i := 2) (v := .pointer (some ⟨b2, 0, none⟩)) (ticked 8 7) rfl (by kernel_rfl) rfl rfl rfl (by exact y_k rfl rfl (fun _ => by kernel_rfl)) ?_
  refine a_y (i := 3) (v := .pointer (some ⟨b2, 1, none⟩)) (ticked 8 15) rfl (by kernel_rfl) rfl rfl rfl (by exact y_k rfl rfl (fun _ => by kernel_rfl)) ?_
  refine a_y (i := 5) (v := .pointer (some ⟨b1, 1, none⟩)) (ticked 8 47) rfl (by kernel_rfl) rfl rfl rfl (by exact y_k rfl rfl (fun _ => by kernel_rfl)) ?_
  refine a_held (i := 4) (ticked 8 63) rfl (by kernel_rfl) rfl rfl rfl (held_pt 1 rfl rfl (held_pt 2 rfl rfl held_nil)) (h_ld 0 rfl rfl Tryd.underlying22 rfl) ?_
  refine a_held (i := 6) (ticked 8 127) rfl (by kernel_rfl) rfl rfl rfl (held_pt 1 rfl rfl (held_pt 2 rfl rfl held_nil)) (h_ld 1 rfl rfl Tryd.underlying22 rfl) ?_
  refine a_each (rs := [7]) (by kernel_rfl) (.last (ticked 8 255) rfl rfl rfl rfl (o_copy (us := l) 0 rfl rfl rfl rfl rfl (by simp) (src_rd 0 rfl) Tryd.underlying22 (by kernel_rfl) rfl rfl ?_) .nil) (List.cons_ne_nil _ _)
  have h1 : (List.replicate l.length (⟨#[]⟩ : ByteArray)).length = l.length := (by simp)
  rw [h1]
  refine a_done (by kernel_rfl) ?_
  refine q_then ?_
  refine c_seq ?_
  refine c_region ?_
  refine st rfl (o_y (v := .pointer (some ⟨b2, 0, none⟩)) (y_mv rfl) rfl rfl rfl ?_)
  refine st rfl (o_y (v := .pointer (some ⟨b2, 0, none⟩)) (y_as rfl) rfl rfl rfl ?_)
  refine s_nil ?_
  refine q_then ?_
  refine c_ret ?_
  refine c_fin (I' := []) [1, 0] [0] rfl (.tmp rfl .nil) rfl rfl rfl ?_
  exact ⟨b2, A1, rfl, rfl, rfl⟩
theorem New_ (max : Int) (ea : Addr) (ef : Addr) (ee : Addr) (h12 : ea ≠ ef) (h13 : ea ≠ ee) (h23 : ef ≠ ee) : Con Tryd.prog 20 [.int .i64 max] [] [cellsAt 1 0 [.iface 80 (.pointer (some ea))], cellsAt 2 0 [.iface 80 (.pointer (some ef))], cellsAt 0 0 [.iface 80 (.pointer (some ee))], errAt ea, errAt ef, errAt ee] (fun v L' I' => ((0 ≤ max ∧ max ≤ 2000) ∧ v = .tuple #[.agg #[.int .i64 max, .slice none 0 0], .int .i64 0] ∧ L' = [] ∧ I' = []) ∨ ((¬ (0 ≤ max ∧ max ≤ 2000)) ∧ v = .tuple #[.agg #[.int .i64 0, .slice none 0 0], .int .i64 2] ∧ L' = [] ∧ I' = [])) := by
  refine fn_of Tryd.func20 rfl Tryd.ntmps20 (by kernel_rfl) rfl (fun C => ?_)
  refine c_seq ?_
  refine c_region ?_
  refine st rfl (o_box (cs := [.int .i64 0, .slice none 0 0]) (T := 24) rfl rfl rfl rfl (fun _ => by kernel_rfl) (fun b1 => ?_))
  refine st rfl (o_y (v := .int .i64 0) (y_as rfl) rfl rfl rfl ?_)
  refine s_nil ?_
  refine q_then ?_
  refine c_seq ?_
  refine c_seq ?_
  refine c_region ?_
  refine st rfl (o_y (v := .int .i64 max) (y_mv rfl) rfl rfl rfl ?_)
  refine st rfl (o_call [] [] (isMax_ max) rfl rfl rfl rfl rfl rfl (fun v L' I' hq1 => ?_))
  obtain ⟨hv1, rfl, rfl⟩ := hq1
  refine e_by (0 ≤ max ∧ max ≤ 2000) (fun h24 => ?_) (fun h24 => ?_)
  ·
    obtain rfl : v = .bool true := by rw [hv1, decide_eq_true h24]
    refine st rfl (o_y (v := .bool false) (y_k rfl rfl (fun _ => by kernel_rfl)) rfl rfl rfl ?_)
    refine s_nil ?_
    refine q_then ?_
    refine c_false rfl ?_
    refine c_skip ?_
    refine q_then ?_
    refine c_seq ?_
    refine c_region ?_
    refine st rfl (o_y (v := .int .i64 max) (y_mv rfl) rfl rfl rfl ?_)
    refine st rfl (o_y (v := .agg #[.int .i64 max, .slice none 0 0]) (y_k rfl rfl (fun _ => by kernel_rfl)) rfl rfl rfl ?_)
    refine st rfl (o_st 0 rfl rfl rfl rfl rfl (by kernel_rfl) (by kernel_rfl) rfl ?_)
    refine st rfl (o_y (v := .int .i64 0) (y_as rfl) rfl rfl rfl ?_)
    refine s_nil ?_
    refine q_then ?_
    refine c_ret ?_
    refine c_fin (I' := []) [] [0, 1, 2, 3, 4, 5] rfl (.agg 0 2 rfl rfl rfl rfl Tryd.underlying24 rfl (by kernel_rfl) (by kernel_rfl) (.tmp rfl .nil)) rfl rfl rfl ?_
    exact .inl ⟨h24, rfl, rfl, rfl⟩
  ·
    obtain rfl : v = .bool false := by rw [hv1, decide_eq_false h24]
    refine st rfl (o_y (v := .bool true) (y_k rfl rfl (fun _ => by kernel_rfl)) rfl rfl rfl ?_)
    refine s_nil ?_
    refine q_then ?_
    refine c_true rfl ?_
    refine c_seq ?_
    refine c_region ?_
    refine st rfl (o_y (v := .agg #[.int .i64 0, .slice none 0 0]) (y_k rfl rfl (fun _ => by kernel_rfl)) rfl rfl rfl ?_)
    refine st rfl (o_ldf 0 0 rfl rfl rfl Tryd.underlying47 rfl rfl ?_)
    refine st rfl (o_call [] [0, 1, 2, 3, 4, 5] (told_arg_ ea ef ee (by assumption) (by assumption) (by assumption)) rfl rfl rfl rfl rfl rfl (fun v L' I' hq2 => ?_))
    obtain ⟨rfl, rfl, rfl⟩ := hq2
    refine st rfl (o_st 0 rfl rfl rfl rfl rfl (by kernel_rfl) (by kernel_rfl) rfl ?_)
    refine st rfl (o_y (v := .int .i64 2) (y_as rfl) rfl rfl rfl ?_)
    refine s_nil ?_
    refine q_then ?_
    refine c_ret ?_
    refine q_then_ret ?_
    refine c_fin (I' := []) [] [0, 1, 2, 3, 4, 5] rfl (.agg 0 2 rfl rfl rfl rfl Tryd.underlying24 rfl (by kernel_rfl) (by kernel_rfl) (.tmp rfl .nil)) rfl rfl rfl ?_
    exact .inr ⟨h24, rfl, rfl, rfl⟩
theorem Right_ (A : Option Addr) (c : Nat) (l : List ByteArray) (max : Int) (ea : Addr) (ef : Addr) (ee : Addr) (hs : small l) : Con Tryd.prog 13 [.agg #[.int .i64 max, .slice A l.length c]] [] [rd strTy A c l, cellsAt 1 0 [.iface 80 (.pointer (some ea))], cellsAt 2 0 [.iface 80 (.pointer (some ef))], cellsAt 0 0 [.iface 80 (.pointer (some ee))], errAt ea, errAt ef, errAt ee] (fun v L' I' => v = .bool (decide (right max l)) ∧ L' = [] ∧ I' = []) := by
  refine fn_of Tryd.func13 rfl Tryd.ntmps13 (by kernel_rfl) rfl (fun C => ?_)
  refine c_seq ?_
  refine c_region ?_
  refine st rfl (o_box (cs := [.int .i64 max, .slice A l.length c]) (T := 24) rfl rfl rfl rfl (fun _ => by kernel_rfl) (fun b1 => ?_))
  refine st rfl (o_y (v := .bool false) (y_as rfl) rfl rfl rfl ?_)
  refine s_nil ?_
  refine q_then ?_
  refine c_seq ?_
  refine c_region ?_
  refine st rfl (o_ldn 0 2 rfl rfl rfl rfl Tryd.underlying24 rfl (by kernel_rfl) (by kernel_rfl) rfl ?_)
  refine st rfl (o_y (v := .agg #[.int .i64 max, .slice A l.length c]) (y_k rfl rfl (fun _ => by kernel_rfl)) rfl rfl rfl ?_)
  refine st rfl (o_box (cs := [.int .i64 max, .slice A l.length c]) (T := 52) rfl rfl rfl rfl (fun _ => by kernel_rfl) (fun b2 => ?_))
  refine st rfl (o_call [0] [0, 1, 2, 3, 4, 5, 6] (checked_ A c l b2 max ea ef ee (by first | assumption | exact small_put _ _ _ | exact small_take _ _ | exact small_all _ _ _ | exact small_nil | exact small_right (by assumption) | exact small_one (small_at (by assumption) hx1) | exact small_one (by assumption))) rfl rfl rfl rfl rfl rfl (fun v L' I' hq1 => ?_))
  rcases hq1 with ⟨h1, rfl, rfl, rfl⟩ | ⟨h2, rfl, rfl, rfl⟩
  ·
    refine st rfl (o_y (v := .bool true) (y_k rfl rfl (fun _ => by kernel_rfl)) rfl rfl rfl ?_)
    refine st rfl (o_y (v := .bool true) (y_as rfl) rfl rfl rfl ?_)
    refine s_nil ?_
    refine q_then ?_
    refine c_ret ?_
    refine c_fin (I' := []) [] [0, 1, 2, 3, 4, 5, 6] rfl (.tmp rfl .nil) rfl rfl rfl ?_
    exact ⟨by show Value.bool _ = Value.bool _; congr 1; symm; first | exact decide_eq_true (by assumption) | exact decide_eq_false (by assumption), rfl, rfl⟩
  ·
    refine st rfl (o_y (v := .bool false) (y_k rfl rfl (fun _ => by kernel_rfl)) rfl rfl rfl ?_)
    refine st rfl (o_y (v := .bool false) (y_as rfl) rfl rfl rfl ?_)
    refine s_nil ?_
    refine q_then ?_
    refine c_ret ?_
    refine c_fin (I' := []) [] [0, 1, 2, 3, 4, 5, 6] rfl (.tmp rfl .nil) rfl rfl rfl ?_
    exact ⟨by show Value.bool _ = Value.bool _; congr 1; symm; first | exact decide_eq_true (by assumption) | exact decide_eq_false (by assumption), rfl, rfl⟩
theorem Used_ (A : Option Addr) (c : Nat) (l : List ByteArray) (max : Int) (ea : Addr) (ef : Addr) (ee : Addr) (hs : small l) : Con Tryd.prog 14 [.agg #[.int .i64 max, .slice A l.length c]] [] [rd strTy A c l, cellsAt 1 0 [.iface 80 (.pointer (some ea))], cellsAt 2 0 [.iface 80 (.pointer (some ef))], cellsAt 0 0 [.iface 80 (.pointer (some ee))], errAt ea, errAt ef, errAt ee] (fun v L' I' => v = .int .i64 (usedF max l : Int) ∧ L' = [] ∧ I' = []) := by
  refine fn_of Tryd.func14 rfl Tryd.ntmps14 (by kernel_rfl) rfl (fun C => ?_)
  refine c_seq ?_
  refine c_region ?_
  refine st rfl (o_box (cs := [.int .i64 max, .slice A l.length c]) (T := 24) rfl rfl rfl rfl (fun _ => by kernel_rfl) (fun b1 => ?_))
  refine st rfl (o_y (v := .int .i64 0) (y_as rfl) rfl rfl rfl ?_)
  refine s_nil ?_
  refine q_then ?_
  refine c_seq ?_
  refine c_seq ?_
  refine c_region ?_
  refine st rfl (o_ldn 0 2 rfl rfl rfl rfl Tryd.underlying24 rfl (by kernel_rfl) (by kernel_rfl) rfl ?_)
  refine st rfl (o_call [] [0, 1, 2, 3, 4, 5, 6] (Right_ A c l max ea ef ee (by first | assumption | exact small_put _ _ _ | exact small_take _ _ | exact small_all _ _ _ | exact small_nil | exact small_right (by assumption) | exact small_one (small_at (by assumption) hx1) | exact small_one (by assumption))) rfl rfl rfl rfl rfl rfl (fun v L' I' hq1 => ?_))
  obtain ⟨hv1, rfl, rfl⟩ := hq1
  refine e_by (right max l) (fun h1 => ?_) (fun h1 => ?_)
  ·
    obtain rfl : v = .bool true := by rw [hv1, decide_eq_true h1]
    refine st rfl (o_y (v := .bool false) (y_k rfl rfl (fun _ => by kernel_rfl)) rfl rfl rfl ?_)
    refine s_nil ?_
    refine q_then ?_
    refine c_false rfl ?_
    refine c_skip ?_
    refine q_then ?_
    refine c_seq ?_
    refine c_region ?_
    refine st rfl (o_ldn 0 2 rfl rfl rfl rfl Tryd.underlying24 rfl (by kernel_rfl) (by kernel_rfl) rfl ?_)
    refine st rfl (o_y (v := .agg #[.int .i64 max, .slice A l.length c]) (y_k rfl rfl (fun _ => by kernel_rfl)) rfl rfl rfl ?_)
    refine st rfl (o_box (cs := [.int .i64 max, .slice A l.length c]) (T := 52) rfl rfl rfl rfl (fun _ => by kernel_rfl) (fun b2 => ?_))
    refine st rfl (o_call [0] [0] (used_ A c l b2 max (by first | assumption | exact small_put _ _ _ | exact small_take _ _ | exact small_all _ _ _ | exact small_nil | exact small_right (by assumption) | exact small_one (small_at (by assumption) hx1) | exact small_one (by assumption))) rfl rfl rfl rfl rfl rfl (fun v L' I' hq2 => ?_))
    obtain ⟨rfl, rfl, rfl⟩ := hq2
    refine st rfl (o_y (v := .int .i64 (takesN l : Int)) (y_as rfl) rfl rfl rfl ?_)
    refine s_nil ?_
    refine q_then ?_
    refine c_ret ?_
    refine c_fin (I' := []) [] [0, 1, 2, 3, 4, 5, 6] rfl (.tmp rfl .nil) rfl rfl rfl ?_
    exact ⟨by unfold usedF; first | (rw [if_pos (by assumption)]; rfl) | (rw [if_neg (by assumption)]; rfl), rfl, rfl⟩
  ·
    obtain rfl : v = .bool false := by rw [hv1, decide_eq_false h1]
    refine st rfl (o_y (v := .bool true) (y_k rfl rfl (fun _ => by kernel_rfl)) rfl rfl rfl ?_)
    refine s_nil ?_
    refine q_then ?_
    refine c_true rfl ?_
    refine c_seq ?_
    refine c_region ?_
    refine st rfl (o_y (v := .int .i64 0) (y_as rfl) rfl rfl rfl ?_)
    refine s_nil ?_
    refine q_then ?_
    refine c_ret ?_
    refine q_then_ret ?_
    refine c_fin (I' := []) [] [0, 1, 2, 3, 4, 5, 6] rfl (.tmp rfl .nil) rfl rfl rfl ?_
    exact ⟨by unfold usedF; first | (rw [if_pos (by assumption)]; rfl) | (rw [if_neg (by assumption)]; rfl), rfl, rfl⟩
end Go.Proofs.YtjcjbdhkajiaeaaDoor
