/- Contracts of package ring, its reference and its laws, walked over the given program; no condition but what stands in each: part C. -/
import Derived.Test.YtjcjbdhkajiaeaaDoorRB
set_option linter.unusedVariables false
set_option linter.unusedSimpArgs false
set_option maxRecDepth 100000
namespace Go.Proofs.YtjcjbdhkajiaeaaDoor
open Go Go.Sl Go.RowKit Go.Extern.Stop Go.Stop Go.Extern
theorem rtakes_ (A : Option Addr) (c : Nat) (l : List ByteArray) (hs : small l) : Con Tryd.prog 34 [.slice A l.length c] [] [rd strTy A c l] (fun v L' I' => v = .int .i64 (takesN l : Int) ∧ L' = [] ∧ I' = []) := by
  have hT := small_takes hs
  refine fn_of Tryd.func34 rfl Tryd.ntmps34 (by kernel_rfl) rfl (fun C => ?_)
  refine c_seq ?_
  refine c_region ?_
  refine st rfl (o_y (v := .int .i64 0) (y_as rfl) rfl rfl rfl ?_)
  refine s_nil ?_
  refine q_then ?_
  refine c_seq ?_
  refine c_region ?_
  refine st rfl (o_y (v := .int .i64 0) (y_as rfl) rfl rfl rfl ?_)
  refine s_nil ?_
  refine q_then ?_
  refine c_seq ?_
  refine c_seq ?_
  refine c_region ?_
  refine st rfl (o_y (v := .int .i64 0) (y_as rfl) rfl rfl rfl ?_)
  refine s_nil ?_
  refine q_then ?_
  refine c_block ?_
  refine c_loopn (ι := Nat) (fun k => (k ≤ l.length)) (fun k => [(0, .slice A l.length c), (2, .int .i64 0), (3, .int .i64 (takesN (l.take k) : Int)), (4, .int .i64 (k : Int))]) (fun k => []) (fun k => [rd strTy A c l]) (fun k => l.length - k) (0) [] [0] (show 0 ≤ l.length from by first | omega | simp_all | (simp; done)) ((.cons rfl rfl (.cons rfl rfl (.cons rfl (show (.int .i64 0 : Value) = .int .i64 (takesN (l.take 0) : Int) from by first | rfl | (congr 1; omega) | (congr 1; simp; done) | (congr 1; simp; omega)) (.cons rfl rfl .nil))))) rfl rfl ?_
  rintro k hk
  show Ent 20 C [(0, .slice A l.length c), (2, .int .i64 0), (3, .int .i64 (takesN (l.take k) : Int)), (4, .int .i64 (k : Int))] [] [] [rd strTy A c l] _
  refine c_seq ?_
  refine c_seq ?_
  refine c_region ?_
  refine st rfl (o_y (v := .int .i64 (k : Int)) (y_mv rfl) rfl rfl rfl ?_)
  refine st rfl (o_y (v := .slice A l.length c) (y_mv rfl) rfl rfl rfl ?_)
  refine st rfl (o_y (v := .int .i64 (l.length : Int)) (y_k rfl rfl (fun _ => by kernel_rfl)) rfl rfl rfl ?_)
  refine e_by ((k : Int) < (l.length : Int)) (fun h1 => ?_) (fun h1 => ?_)
  ·
    refine st rfl (o_y (v := .bool true) (y_t (y_k (v := .bool (decide ((k : Int) < (l.length : Int)))) rfl rfl (fun _ => by kernel_rfl)) h1) rfl rfl rfl ?_)
    refine s_nil ?_
    refine q_then ?_
    refine c_true rfl ?_
    refine c_skip ?_
    refine q_then ?_
    refine c_seq ?_
    refine c_block ?_
    refine c_region ?_
    refine st rfl (o_y (v := .int .i64 (takesN (l.take k) : Int)) (y_mv rfl) rfl rfl rfl ?_)
    refine st rfl (o_y (v := .slice A l.length c) (y_mv rfl) rfl rfl rfl ?_)
    refine st rfl (o_y (v := .int .i64 (k : Int)) (y_mv rfl) rfl rfl rfl ?_)
    refine e_at 0 k rfl (by first | omega | (simp only [List.length_append, List.length_map, List.length_take, List.length_drop]; omega)) (fun b1 o1 x1 hA1 hx1 => ?_)
    refine st rfl (o_y (v := .pointer (some ⟨b1, o1 + k * 1, none⟩)) (y_at (d := strTy) (l := l) k hA1 rfl rfl rfl (rfl) (List.getElem?_eq_some_iff.1 hx1).1 Tryd.underlying22 (by kernel_rfl) (by kernel_rfl)) rfl rfl rfl ?_)
    refine st rfl (o_ldf 0 0 rfl rfl rfl Tryd.underlying9 rfl rfl ?_)
    refine st rfl (o_y (v := .int .i64 (x1.size : Int)) (y_k rfl rfl (fun _ => by kernel_rfl)) rfl rfl rfl ?_)
    refine st rfl (o_y (v := .int .i64 ((takesN (l.take k) : Int) + (x1.size : Int))) (y_add (r := (takesN (l.take k) : Int) + (x1.size : Int)) rfl rfl rfl (by have h0 := takesN_le l k; have h2 := small_at hs hx1; have := hs.1; omega)) rfl rfl rfl ?_)
    refine st rfl (o_y (v := .int .i64 (((takesN (l.take k) : Int) + (x1.size : Int)) + 1)) (y_add (r := ((takesN (l.take k) : Int) + (x1.size : Int)) + 1) rfl rfl rfl (by have h0 := takesN_le l k; have h2 := small_at hs hx1; have := hs.1; omega)) rfl rfl rfl ?_)
    refine st rfl (o_y (v := .int .i64 (((takesN (l.take k) : Int) + (x1.size : Int)) + 1)) (y_as rfl) rfl rfl rfl ?_)
    refine s_nil ?_
    refine q_block ?_
    refine q_then ?_
    refine c_region ?_
    refine st rfl (o_y (v := .int .i64 (k : Int)) (y_mv rfl) rfl rfl rfl ?_)
    refine st rfl (o_y (v := .int .i64 ((k : Int) + 1)) (y_add (r := (k : Int) + 1) rfl rfl rfl (by have h0 := takesN_le l k; have h2 := small_at hs hx1; have := hs.1; omega)) rfl rfl rfl ?_)
    refine st rfl (o_y (v := .int .i64 ((k : Int) + 1)) (y_as rfl) rfl rfl rfl ?_)
    refine s_nil ?_
    refine q_then ?_
    have hT2 := takesN_take hx1
    refine c_next [] [1] (k + 1) ?_ ?_ ?_ (by rfl) (by rfl)
    · exact (show (k + 1) ≤ l.length from by first | omega | simp_all | (simp; done))
    · show l.length - (k + 1) < l.length - k; omega
    · exact (.cons rfl rfl (.cons rfl rfl (.cons rfl (show (.int .i64 (((takesN (l.take k) : Int) + (x1.size : Int)) + 1) : Value) = .int .i64 (takesN (l.take (k + 1)) : Int) from by first | rfl | (congr 1; omega) | (congr 1; simp; done) | (congr 1; simp; omega)) (.cons rfl (show (.int .i64 ((k : Int) + 1) : Value) = .int .i64 ((k + 1) : Int) from by first | rfl | (congr 1; omega) | (congr 1; simp; done) | (congr 1; simp; omega)) .nil))))
  ·
    refine st rfl (o_y (v := .bool false) (y_f (y_k (v := .bool (decide ((k : Int) < (l.length : Int)))) rfl rfl (fun _ => by kernel_rfl)) h1) rfl rfl rfl ?_)
    refine s_nil ?_
    refine q_then ?_
    refine c_false rfl ?_
    refine c_exit ?_
    refine q_then_exit ?_
    refine q_then_exit ?_
    refine q_block_here ?_
    refine q_then ?_
    refine c_seq ?_
    refine c_region ?_
    refine st rfl (o_y (v := .int .i64 (takesN (l.take k) : Int)) (y_mv rfl) rfl rfl rfl ?_)
    refine st rfl (o_y (v := .int .i64 (takesN (l.take k) : Int)) (y_as rfl) rfl rfl rfl ?_)
    refine s_nil ?_
    refine q_then ?_
    refine c_ret ?_
    have he : takesN (l.take k) = takesN l := by rw [List.take_of_length_le (by omega)]
    refine c_fin (I' := []) [] [0] rfl (.tmp rfl .nil) rfl rfl rfl ?_
    exact ⟨by simp [packed, he], rfl, rfl⟩
theorem rRight_ (A : Option Addr) (c : Nat) (l : List ByteArray) (max : Int) (hs : small l) : Con Tryd.prog 24 [.agg #[.int .i64 max, .slice A l.length c]] [] [rd strTy A c l] (fun v L' I' => v = .bool (decide (right max l)) ∧ L' = [] ∧ I' = []) := by
  refine fn_of Tryd.func24 rfl Tryd.ntmps24 (by kernel_rfl) rfl (fun C => ?_)
  refine c_seq ?_
  refine c_region ?_
  refine st rfl (o_box (cs := [.int .i64 max, .slice A l.length c]) (T := 24) rfl rfl rfl rfl (fun _ => by kernel_rfl) (fun b1 => ?_))
  refine st rfl (o_y (v := .bool false) (y_as rfl) rfl rfl rfl ?_)
  refine s_nil ?_
  refine q_then ?_
  refine c_seq ?_
  refine c_seq ?_
  refine c_region ?_
  refine st rfl (o_y (v := .int .i64 0) (y_as rfl) rfl rfl rfl ?_)
  refine s_nil ?_
  refine q_then ?_
  refine c_block ?_
  refine c_loopn (ι := Nat) (fun k => (k ≤ l.length) ∧ (items (l.take k))) (fun k => [(1, .pointer (some ⟨b1, 0, none⟩)), (3, .int .i64 (k : Int))]) (fun k => [pt b1 [.int .i64 max, .slice A l.length c] 24]) (fun k => [rd strTy A c l]) (fun k => l.length - k) (0) [0] [0] (show (0 ≤ l.length) ∧ (items (l.take 0)) from ⟨by first | omega | simp_all | (simp; done), by simp [items]⟩) ((.cons rfl rfl (.cons rfl rfl .nil))) rfl rfl ?_
  rintro k ⟨hk, hi⟩
  show Ent 34 C [(1, .pointer (some ⟨b1, 0, none⟩)), (3, .int .i64 (k : Int))] [] [pt b1 [.int .i64 max, .slice A l.length c] 24] [rd strTy A c l] _
  refine c_seq ?_
  refine c_seq ?_
  refine c_region ?_
  refine st rfl (o_y (v := .int .i64 (k : Int)) (y_mv rfl) rfl rfl rfl ?_)
  refine st rfl (o_y (v := .pointer (some ⟨b1, 1, none⟩)) (y_k rfl rfl (fun _ => by kernel_rfl)) rfl rfl rfl ?_)
  refine st rfl (o_ld 0 rfl rfl rfl Tryd.underlying22 rfl rfl ?_)
  refine st rfl (o_y (v := .int .i64 (l.length : Int)) (y_k rfl rfl (fun _ => by kernel_rfl)) rfl rfl rfl ?_)
  refine e_by ((k : Int) < (l.length : Int)) (fun h1 => ?_) (fun h1 => ?_)
  ·
    refine st rfl (o_y (v := .bool true) (y_t (y_k (v := .bool (decide ((k : Int) < (l.length : Int)))) rfl rfl (fun _ => by kernel_rfl)) h1) rfl rfl rfl ?_)
    refine s_nil ?_
    refine q_then ?_
    refine c_true rfl ?_
    refine c_skip ?_
    refine q_then ?_
    refine c_seq ?_
    refine c_block ?_
    refine c_seq ?_
    refine c_region ?_
    refine st rfl (o_y (v := .pointer (some ⟨b1, 1, none⟩)) (y_k rfl rfl (fun _ => by kernel_rfl)) rfl rfl rfl ?_)
    refine st rfl (o_ld 0 rfl rfl rfl Tryd.underlying22 rfl rfl ?_)
    refine st rfl (o_y (v := .int .i64 (k : Int)) (y_mv rfl) rfl rfl rfl ?_)
    refine e_at 0 k rfl (by first | omega | (simp only [List.length_append, List.length_map, List.length_take, List.length_drop]; omega)) (fun b2 o1 x1 hA1 hx1 => ?_)
    refine st rfl (o_y (v := .pointer (some ⟨b2, o1 + k * 1, none⟩)) (y_at (d := strTy) (l := l) k hA1 rfl rfl rfl (rfl) (List.getElem?_eq_some_iff.1 hx1).1 Tryd.underlying22 (by kernel_rfl) (by kernel_rfl)) rfl rfl rfl ?_)
    refine st rfl (o_ldf 0 0 rfl rfl rfl Tryd.underlying9 rfl rfl ?_)
    refine st rfl (o_y (v := .int .i64 (x1.size : Int)) (y_k rfl rfl (fun _ => by kernel_rfl)) rfl rfl rfl ?_)
    refine e_by ((x1.size : Int) > 200) (fun h2 => ?_) (fun h2 => ?_)
    ·
      refine st rfl (o_y (v := .bool true) (y_t (y_k (v := .bool (decide ((x1.size : Int) > 200))) rfl rfl (fun _ => by kernel_rfl)) h2) rfl rfl rfl ?_)
      refine s_nil ?_
      refine q_then ?_
      refine c_true rfl ?_
      refine c_seq ?_
      refine c_region ?_
      refine st rfl (o_y (v := .bool false) (y_as rfl) rfl rfl rfl ?_)
      refine s_nil ?_
      refine q_then ?_
      refine c_ret ?_
      refine q_block_ret ?_
      refine q_then_ret ?_
      refine q_then_ret ?_
      refine q_block_ret ?_
      refine q_then_ret ?_
      refine c_fin (I' := []) [] [1] rfl (.tmp rfl .nil) rfl rfl rfl ?_
      exact ⟨by simp only [packed, Value.bool.injEq, Bool.false_eq, decide_eq_false_iff_not, Bool.true_eq, decide_eq_true_eq]; intro hr; have := hr.2.1 _ (List.mem_of_getElem? hx1); omega, rfl, rfl⟩
    ·
      refine st rfl (o_y (v := .bool false) (y_f (y_k (v := .bool (decide ((x1.size : Int) > 200))) rfl rfl (fun _ => by kernel_rfl)) h2) rfl rfl rfl ?_)
      refine s_nil ?_
      refine q_then ?_
      refine c_false rfl ?_
      refine c_skip ?_
      refine q_block ?_
      refine q_then ?_
      refine c_region ?_
      refine st rfl (o_y (v := .int .i64 (k : Int)) (y_mv rfl) rfl rfl rfl ?_)
      refine st rfl (o_y (v := .int .i64 ((k : Int) + 1)) (y_add (r := (k : Int) + 1) rfl rfl rfl (by have := hs.1; omega)) rfl rfl rfl ?_)
      refine st rfl (o_y (v := .int .i64 ((k : Int) + 1)) (y_as rfl) rfl rfl rfl ?_)
      refine s_nil ?_
      refine q_then ?_
      refine c_next [0] [1] (k + 1) ?_ ?_ ?_ (by rfl) (by rfl)
      · exact (show ((k + 1) ≤ l.length) ∧ (items (l.take (k + 1))) from ⟨by first | omega | simp_all | (simp; done), items_step hi hx1 (by omega)⟩)
      · show l.length - (k + 1) < l.length - k; omega
      · exact (.cons rfl rfl (.cons rfl (show (.int .i64 ((k : Int) + 1) : Value) = .int .i64 ((k + 1) : Int) from by first | rfl | (congr 1; omega) | (congr 1; simp; done) | (congr 1; simp; omega)) .nil))
  ·
    refine st rfl (o_y (v := .bool false) (y_f (y_k (v := .bool (decide ((k : Int) < (l.length : Int)))) rfl rfl (fun _ => by kernel_rfl)) h1) rfl rfl rfl ?_)
    refine s_nil ?_
    refine q_then ?_
    refine c_false rfl ?_
    refine c_exit ?_
    refine q_then_exit ?_
    refine q_then_exit ?_
    refine q_block_here ?_
    refine q_then ?_
    refine c_seq ?_
    refine c_draw (l := ticked 17 0) [(⟨b1, 0, none⟩, .int .i64 max), (⟨b1, 1, none⟩, .slice A l.length c)] [] (by kernel_rfl) rfl rfl ?_
    refine a_y (i := 0) (v := .pointer (some ⟨b1, 0, none⟩)) (ticked 17 1) rfl (by kernel_rfl) rfl rfl rfl (by exact y_k rfl rfl (fun _ => by kernel_rfl)) ?_
    refine a_held (i := 1) (ticked 17 3) rfl (by kernel_rfl) rfl rfl rfl (held_pt 0 rfl rfl (held_pt 0 rfl rfl held_nil)) (h_ld 0 rfl rfl Tryd.underlying3 rfl) ?_
    refine e_by (max ≥ 0) (fun h3 => ?_) (fun h3 => ?_)
    ·
      refine a_y (i := 2) (v := .bool true) (ticked 17 7) rfl (by kernel_rfl) rfl rfl rfl (by exact y_t (y_k (v := .bool (decide (max ≥ 0))) rfl rfl (fun _ => by kernel_rfl)) h3) ?_
      refine a_y (i := 3) (v := .bool true) (ticked 17 15) rfl (by kernel_rfl) rfl rfl rfl (by exact y_mv rfl) ?_
      refine a_y_on (i := 4) (v := .pointer (some ⟨b1, 0, none⟩)) 21 (ticked 17 31) rfl (by kernel_rfl) rfl rfl rfl rfl rfl (by exact y_k rfl rfl (fun _ => by kernel_rfl)) ?_
      refine a_held_on (i := 5) 21 (ticked 17 63) rfl (by kernel_rfl) rfl rfl rfl rfl rfl (held_pt 0 rfl rfl (held_pt 0 rfl rfl held_nil)) (h_ld 0 rfl rfl Tryd.underlying3 rfl) ?_
      refine e_by (max ≤ 2000) (fun h4 => ?_) (fun h4 => ?_)
      ·
        refine a_y_on (i := 6) (v := .bool true) 21 (ticked 17 127) rfl (by kernel_rfl) rfl rfl rfl rfl rfl (by exact y_t (y_k (v := .bool (decide (max ≤ 2000))) rfl rfl (fun _ => by kernel_rfl)) h4) ?_
        refine a_y (i := 7) (v := .bool true) (ticked 17 255) rfl (by kernel_rfl) rfl rfl rfl (by exact y_pick rfl rfl) ?_
        refine a_y (i := 8) (v := .bool true) (ticked 17 511) rfl (by kernel_rfl) rfl rfl rfl (by exact y_mv rfl) ?_
        refine a_y_on (i := 9) (v := .pointer (some ⟨b1, 1, none⟩)) 26 (ticked 17 1023) rfl (by kernel_rfl) rfl rfl rfl rfl rfl (by exact y_k rfl rfl (fun _ => by kernel_rfl)) ?_
        refine a_y_on (i := 12) (v := .pointer (some ⟨b1, 0, none⟩)) 26 (ticked 17 5119) rfl (by kernel_rfl) rfl rfl rfl rfl rfl (by exact y_k rfl rfl (fun _ => by kernel_rfl)) ?_
        refine a_held_on (i := 10) 26 (ticked 17 6143) rfl (by kernel_rfl) rfl rfl rfl rfl rfl (held_pt 0 rfl rfl (held_pt 0 rfl rfl held_nil)) (h_ld 1 rfl rfl Tryd.underlying22 rfl) ?_
        refine a_held_on (i := 13) 26 (ticked 17 14335) rfl (by kernel_rfl) rfl rfl rfl rfl rfl (held_pt 0 rfl rfl (held_pt 0 rfl rfl held_nil)) (h_ld 0 rfl rfl Tryd.underlying3 rfl) ?_
        refine a_each (rs := [11]) (by kernel_rfl) (.on 26 (ticked 17 16383) rfl rfl rfl rfl rfl (o_call [] [0] (rtakes_ A c l (by first | assumption | exact small_put _ _ _ | exact small_take _ _ | exact small_all _ _ _ | exact small_nil | exact small_right (by assumption) | exact small_one (small_at (by assumption) hx1) | exact small_one (by assumption))) rfl rfl rfl rfl rfl rfl (fun v L' I' hq1 => ?_)) .nil) (List.cons_ne_nil _ _)
        obtain ⟨rfl, rfl, rfl⟩ := hq1
        refine a_and (held_pt 0 rfl rfl (held_pt 0 rfl rfl held_nil)) ?_
        refine e_by ((takesN l : Int) ≤ max) (fun h5 => ?_) (fun h5 => ?_)
        ·
          refine a_y_on (i := 14) (v := .bool true) 26 (ticked 17 32767) rfl (by kernel_rfl) rfl rfl rfl rfl rfl (by exact y_t (y_k (v := .bool (decide ((takesN l : Int) ≤ max))) rfl rfl (fun _ => by kernel_rfl)) h5) ?_
          refine a_y (i := 15) (v := .bool true) (ticked 17 65535) rfl (by kernel_rfl) rfl rfl rfl (by exact y_pick rfl rfl) ?_
          refine a_y (i := 16) (v := .bool true) (ticked 17 131071) rfl (by kernel_rfl) rfl rfl rfl (by exact y_as rfl) ?_
          refine a_done (by kernel_rfl) ?_
          refine q_then ?_
          refine c_ret ?_
          refine c_fin (I' := []) [] [0] rfl (.tmp rfl .nil) rfl rfl rfl ?_
          exact ⟨by have hil : items l := by { rw [List.take_of_length_le (by omega)] at hi; exact hi }; show Value.bool _ = Value.bool _; congr 1; symm; first | exact decide_eq_true ⟨⟨by omega, by omega⟩, hil, by omega⟩ | exact decide_eq_false (fun hh => by obtain ⟨⟨q1, q2⟩, q3, q4⟩ := hh; omega), rfl, rfl⟩
        ·
          refine a_y_on (i := 14) (v := .bool false) 26 (ticked 17 32767) rfl (by kernel_rfl) rfl rfl rfl rfl rfl (by exact y_f (y_k (v := .bool (decide ((takesN l : Int) ≤ max))) rfl rfl (fun _ => by kernel_rfl)) h5) ?_
          refine a_y (i := 15) (v := .bool false) (ticked 17 65535) rfl (by kernel_rfl) rfl rfl rfl (by exact y_pick rfl rfl) ?_
          refine a_y (i := 16) (v := .bool false) (ticked 17 131071) rfl (by kernel_rfl) rfl rfl rfl (by exact y_as rfl) ?_
          refine a_done (by kernel_rfl) ?_
          refine q_then ?_
          refine c_ret ?_
          refine c_fin (I' := []) [] [0] rfl (.tmp rfl .nil) rfl rfl rfl ?_
          exact ⟨by have hil : items l := by { rw [List.take_of_length_le (by omega)] at hi; exact hi }; show Value.bool _ = Value.bool _; congr 1; symm; first | exact decide_eq_true ⟨⟨by omega, by omega⟩, hil, by omega⟩ | exact decide_eq_false (fun hh => by obtain ⟨⟨q1, q2⟩, q3, q4⟩ := hh; omega), rfl, rfl⟩
      ·
        refine a_y_on (i := 6) (v := .bool false) 21 (ticked 17 127) rfl (by kernel_rfl) rfl rfl rfl rfl rfl (by exact y_f (y_k (v := .bool (decide (max ≤ 2000))) rfl rfl (fun _ => by kernel_rfl)) h4) ?_
        refine a_y (i := 7) (v := .bool false) (ticked 17 255) rfl (by kernel_rfl) rfl rfl rfl (by exact y_pick rfl rfl) ?_
        refine a_y (i := 8) (v := .bool false) (ticked 17 511) rfl (by kernel_rfl) rfl rfl rfl (by exact y_mv rfl) ?_
        refine a_off (i := 9) 26 (ticked 17 1023) rfl (by kernel_rfl) rfl rfl rfl rfl rfl rfl ?_
        refine a_off (i := 10) 26 (ticked 17 2047) rfl (by kernel_rfl) rfl rfl rfl rfl rfl rfl ?_
        refine a_off (i := 11) 26 (ticked 17 4095) rfl (by kernel_rfl) rfl rfl rfl rfl rfl rfl ?_
        refine a_off (i := 12) 26 (ticked 17 8191) rfl (by kernel_rfl) rfl rfl rfl rfl rfl rfl ?_
        refine a_off (i := 13) 26 (ticked 17 16383) rfl (by kernel_rfl) rfl rfl rfl rfl rfl rfl ?_
        refine a_off (i := 14) 26 (ticked 17 32767) rfl (by kernel_rfl) rfl rfl rfl rfl rfl rfl ?_
        refine a_y (i := 15) (v := .bool false) (ticked 17 65535) rfl (by kernel_rfl) rfl rfl rfl (by exact y_pick rfl rfl) ?_
        refine a_y (i := 16) (v := .bool false) (ticked 17 131071) rfl (by kernel_rfl) rfl rfl rfl (by exact y_as rfl) ?_
        refine a_done (by kernel_rfl) ?_
        refine q_then ?_
        refine c_ret ?_
        refine c_fin (I' := []) [] [0] rfl (.tmp rfl .nil) rfl rfl rfl ?_
        exact ⟨by have hil : items l := by { rw [List.take_of_length_le (by omega)] at hi; exact hi }; show Value.bool _ = Value.bool _; congr 1; symm; first | exact decide_eq_true ⟨⟨by omega, by omega⟩, hil, by omega⟩ | exact decide_eq_false (fun hh => by obtain ⟨⟨q1, q2⟩, q3, q4⟩ := hh; omega), rfl, rfl⟩
    ·
      refine a_y (i := 2) (v := .bool false) (ticked 17 7) rfl (by kernel_rfl) rfl rfl rfl (by exact y_f (y_k (v := .bool (decide (max ≥ 0))) rfl rfl (fun _ => by kernel_rfl)) h3) ?_
      refine a_y (i := 3) (v := .bool false) (ticked 17 15) rfl (by kernel_rfl) rfl rfl rfl (by exact y_mv rfl) ?_
      refine a_off (i := 4) 21 (ticked 17 31) rfl (by kernel_rfl) rfl rfl rfl rfl rfl rfl ?_
      refine a_off (i := 5) 21 (ticked 17 63) rfl (by kernel_rfl) rfl rfl rfl rfl rfl rfl ?_
      refine a_off (i := 6) 21 (ticked 17 127) rfl (by kernel_rfl) rfl rfl rfl rfl rfl rfl ?_
      refine a_y (i := 7) (v := .bool false) (ticked 17 255) rfl (by kernel_rfl) rfl rfl rfl (by exact y_pick rfl rfl) ?_
      refine a_y (i := 8) (v := .bool false) (ticked 17 511) rfl (by kernel_rfl) rfl rfl rfl (by exact y_mv rfl) ?_
      refine a_off (i := 9) 26 (ticked 17 1023) rfl (by kernel_rfl) rfl rfl rfl rfl rfl rfl ?_
      refine a_off (i := 10) 26 (ticked 17 2047) rfl (by kernel_rfl) rfl rfl rfl rfl rfl rfl ?_
      refine a_off (i := 11) 26 (ticked 17 4095) rfl (by kernel_rfl) rfl rfl rfl rfl rfl rfl ?_
      refine a_off (i := 12) 26 (ticked 17 8191) rfl (by kernel_rfl) rfl rfl rfl rfl rfl rfl ?_
      refine a_off (i := 13) 26 (ticked 17 16383) rfl (by kernel_rfl) rfl rfl rfl rfl rfl rfl ?_
      refine a_off (i := 14) 26 (ticked 17 32767) rfl (by kernel_rfl) rfl rfl rfl rfl rfl rfl ?_
      refine a_y (i := 15) (v := .bool false) (ticked 17 65535) rfl (by kernel_rfl) rfl rfl rfl (by exact y_pick rfl rfl) ?_
      refine a_y (i := 16) (v := .bool false) (ticked 17 131071) rfl (by kernel_rfl) rfl rfl rfl (by exact y_as rfl) ?_
      refine a_done (by kernel_rfl) ?_
      refine q_then ?_
      refine c_ret ?_
      refine c_fin (I' := []) [] [0] rfl (.tmp rfl .nil) rfl rfl rfl ?_
      exact ⟨by have hil : items l := by { rw [List.take_of_length_le (by omega)] at hi; exact hi }; show Value.bool _ = Value.bool _; congr 1; symm; first | exact decide_eq_true ⟨⟨by omega, by omega⟩, hil, by omega⟩ | exact decide_eq_false (fun hh => by obtain ⟨⟨q1, q2⟩, q3, q4⟩ := hh; omega), rfl, rfl⟩
end Go.Proofs.YtjcjbdhkajiaeaaDoor
