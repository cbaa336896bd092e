/- Contracts of package ring, its reference and its laws, walked over the given program; no condition but what stands in each: part M. -/
import Derived.Test.YtjcjbdhkajiaeaaDoorRK
set_option linter.unusedVariables false
set_option linter.unusedSimpArgs false
set_option maxRecDepth 100000
namespace Go.Proofs.YtjcjbdhkajiaeaaDoor
open Go Go.Sl Go.RowKit Go.Extern.Stop Go.Stop Go.Extern
theorem Equal_ (A : Option Addr) (c : Nat) (l : List ByteArray) (B : Option Addr) (d : Nat) (r : List ByteArray) (hs : small l) : Con Tryd.prog 35 [.slice A l.length c, .slice B r.length d] [] [rd strTy A c l, rd strTy B d r] (fun v L' I' => v = .bool (decide (l = r)) ∧ L' = [] ∧ I' = []) := by
  refine fn_of Tryd.func35 rfl Tryd.ntmps35 (by kernel_rfl) rfl (fun C => ?_)
  refine c_seq ?_
  refine c_region ?_
  refine st rfl (o_y (v := .bool false) (y_as rfl) rfl rfl rfl ?_)
  refine s_nil ?_
  refine q_then ?_
  refine c_seq ?_
  refine c_seq ?_
  refine c_region ?_
  refine st rfl (o_y (v := .slice A l.length c) (y_mv rfl) rfl rfl rfl ?_)
  refine st rfl (o_y (v := .int .i64 (l.length : Int)) (y_k rfl rfl (fun _ => by kernel_rfl)) rfl rfl rfl ?_)
  refine st rfl (o_y (v := .slice B r.length d) (y_mv rfl) rfl rfl rfl ?_)
  refine st rfl (o_y (v := .int .i64 (r.length : Int)) (y_k rfl rfl (fun _ => by kernel_rfl)) rfl rfl rfl ?_)
  refine e_by ((l.length : Int) = (r.length : Int)) (fun h1 => ?_) (fun h1 => ?_)
  ·
    refine st rfl (o_y (v := .bool false) (y_b (y_k (v := .bool ((l.length : Int) != (r.length : Int))) rfl rfl (fun _ => by kernel_rfl)) (bne_eq_false_iff_eq.2 h1)) rfl rfl rfl ?_)
    refine s_nil ?_
    refine q_then ?_
    refine c_false rfl ?_
    refine c_skip ?_
    refine q_then ?_
    refine c_seq ?_
    refine c_seq ?_
    refine c_region ?_
    refine st rfl (o_y (v := .slice A l.length c) (y_mv rfl) rfl rfl rfl ?_)
    refine st rfl (o_y (v := .int .i64 (l.length : Int)) (y_k rfl rfl (fun _ => by kernel_rfl)) rfl rfl rfl ?_)
    refine st rfl (o_y (v := .int .i64 0) (y_mv rfl) rfl rfl rfl ?_)
    refine s_nil ?_
    refine q_then ?_
    refine c_block ?_
    refine c_loopn (ι := Nat) (fun k => (k ≤ l.length) ∧ (l.take k = r.take k)) (fun k => [(0, .slice A l.length c), (1, .slice B r.length d), (12, .int .i64 (l.length : Int)), (13, .int .i64 (k : Int))]) (fun k => []) (fun k => [rd strTy A c l, rd strTy B d r]) (fun k => l.length - k) (0) [] [0, 1] (show (0 ≤ l.length) ∧ (l.take 0 = r.take 0) from ⟨by first | omega | simp_all | (simp; done), by simp⟩) ((.cons rfl rfl (.cons rfl rfl (.cons rfl rfl (.cons rfl rfl .nil))))) rfl rfl ?_
    rintro k ⟨hk, he⟩
    show Ent 26 C [(0, .slice A l.length c), (1, .slice B r.length d), (12, .int .i64 (l.length : Int)), (13, .int .i64 (k : Int))] [] [] [rd strTy A c l, rd strTy B d r] _
    refine c_seq ?_
    refine c_region ?_
    refine e_by ((k : Int) < (l.length : Int)) (fun h2 => ?_) (fun h2 => ?_)
    ·
      refine st rfl (o_y (v := .bool true) (y_t (y_k (v := .bool (decide ((k : Int) < (l.length : Int)))) rfl rfl (fun _ => by kernel_rfl)) h2) rfl rfl rfl ?_)
      refine s_nil ?_
      refine q_then ?_
      refine c_seq ?_
      refine c_true rfl ?_
      refine c_skip ?_
      refine q_then ?_
      refine c_seq ?_
      refine c_block ?_
      refine c_seq ?_
      refine c_region ?_
      refine st rfl (o_y (v := .int .i64 (k : Int)) (y_mv rfl) rfl rfl rfl ?_)
      refine st rfl (o_y (v := .int .i64 (k : Int)) (y_as rfl) rfl rfl rfl ?_)
      refine s_nil ?_
      refine q_then ?_
      refine c_seq ?_
      refine e_at 0 k rfl (by first | omega | (simp only [List.length_append, List.length_map, List.length_take, List.length_drop]; omega)) (fun b1 o1 x1 hA1 hx1 => ?_)
      refine e_at 2 k rfl (by first | omega | (simp only [List.length_append, List.length_map, List.length_take, List.length_drop]; omega)) (fun b2 o2 x2 hA2 hx2 => ?_)
      refine c_draw (l := ticked 9 0) [(⟨b1, o1 + k * 1, none⟩, .string x1), (⟨b2, o2 + k * 1, none⟩, .string x2)] [] (by kernel_rfl) rfl rfl ?_
      refine a_y (i := 0) (v := .slice A l.length c) (ticked 9 1) rfl (by kernel_rfl) rfl rfl rfl (by exact y_mv rfl) ?_
      refine a_y (i := 1) (v := .int .i64 (k : Int)) (ticked 9 3) rfl (by kernel_rfl) rfl rfl rfl (by exact y_mv rfl) ?_
      refine a_y (i := 2) (v := .pointer (some ⟨b1, o1 + k * 1, none⟩)) (ticked 9 7) rfl (by kernel_rfl) rfl rfl rfl (by exact y_at (d := strTy) (l := l) k hA1 rfl rfl rfl (rfl) (List.getElem?_eq_some_iff.1 hx1).1 Tryd.underlying22 (by kernel_rfl) (by kernel_rfl)) ?_
      refine a_y (i := 4) (v := .slice B r.length d) (ticked 9 23) rfl (by kernel_rfl) rfl rfl rfl (by exact y_mv rfl) ?_
      refine a_y (i := 5) (v := .int .i64 (k : Int)) (ticked 9 55) rfl (by kernel_rfl) rfl rfl rfl (by exact y_mv rfl) ?_
      refine a_y (i := 6) (v := .pointer (some ⟨b2, o2 + k * 1, none⟩)) (ticked 9 119) rfl (by kernel_rfl) rfl rfl rfl (by exact y_at (d := strTy) (l := r) k hA2 rfl rfl rfl (rfl) (List.getElem?_eq_some_iff.1 hx2).1 Tryd.underlying22 (by kernel_rfl) (by kernel_rfl)) ?_
      refine a_held (i := 3) (ticked 9 127) rfl (by kernel_rfl) rfl rfl rfl (held_fact (j := 0) 1 rfl rfl (held_fact (j := 0) 0 rfl rfl held_nil)) (h_ld 0 rfl rfl Tryd.underlying9 rfl) ?_
      refine a_held (i := 7) (ticked 9 255) rfl (by kernel_rfl) rfl rfl rfl (held_fact (j := 0) 1 rfl rfl (held_fact (j := 0) 0 rfl rfl held_nil)) (h_ld 1 rfl rfl Tryd.underlying9 rfl) ?_
      refine e_by (x1 = x2) (fun h3 => ?_) (fun h3 => ?_)
      ·
        refine a_y (i := 8) (v := .bool false) (ticked 9 511) rfl (by kernel_rfl) rfl rfl rfl (by exact y_b (y_k (v := .bool (!(x1.toList == x2.toList))) rfl rfl (fun _ => by kernel_rfl)) (str_nt h3)) ?_
        refine a_done (by kernel_rfl) ?_
        refine q_then ?_
        refine c_false rfl ?_
        refine c_skip ?_
        refine q_block ?_
        refine q_then ?_
        refine c_region ?_
        refine st rfl (o_y (v := .int .i64 ((k : Int) + 1)) (y_add (r := (k : Int) + 1) rfl rfl rfl (by have := hs.1; omega)) rfl rfl rfl ?_)
        refine st rfl (o_y (v := .int .i64 ((k : Int) + 1)) (y_mv rfl) rfl rfl rfl ?_)
        refine s_nil ?_
        refine q_then ?_
        refine c_next [] [2, 3] (k + 1) ?_ ?_ ?_ (by rfl) (by rfl)
        · exact (show ((k + 1) ≤ l.length) ∧ (l.take (k + 1) = r.take (k + 1)) from ⟨by first | omega | simp_all | (simp; done), eq_step he hx1 hx2 (by assumption)⟩)
        · show l.length - (k + 1) < l.length - k; omega
        · exact (.cons rfl rfl (.cons rfl rfl (.cons rfl rfl (.cons rfl (show (.int .i64 ((k : Int) + 1) : Value) = .int .i64 ((k + 1) : Int) from by first | rfl | (congr 1; omega) | (congr 1; simp; done) | (congr 1; simp; omega)) .nil))))
      ·
        refine a_y (i := 8) (v := .bool true) (ticked 9 511) rfl (by kernel_rfl) rfl rfl rfl (by exact y_b (y_k (v := .bool (!(x1.toList == x2.toList))) rfl rfl (fun _ => by kernel_rfl)) (str_nf h3)) ?_
        refine a_done (by kernel_rfl) ?_
        refine q_then ?_
        refine c_true rfl ?_
        refine c_seq ?_
        refine c_region ?_
        refine st rfl (o_y (v := .bool false) (y_as rfl) rfl rfl rfl ?_)
        refine s_nil ?_
        refine q_then ?_
        refine c_ret ?_
        refine q_block_ret ?_
        refine q_then_ret ?_
        refine q_then_ret ?_
        refine q_block_ret ?_
        refine q_then_ret ?_
        refine c_fin (I' := []) [] [2, 3] rfl (.tmp rfl .nil) rfl rfl rfl ?_
        exact ⟨by show Value.bool _ = Value.bool _; congr 1; symm; first | exact decide_eq_true (eq_end he (by omega) (by omega)) | exact decide_eq_false (by first | exact eq_not hx1 hx2 (by assumption) | (intro hh; subst hh; first | omega | contradiction)), rfl, rfl⟩
    ·
      refine st rfl (o_y (v := .bool false) (y_f (y_k (v := .bool (decide ((k : Int) < (l.length : Int)))) rfl rfl (fun _ => by kernel_rfl)) h2) rfl rfl rfl ?_)
      refine s_nil ?_
      refine q_then ?_
      refine c_seq ?_
      refine c_false rfl ?_
      refine c_exit ?_
      refine q_then_exit ?_
      refine q_then_exit ?_
      refine q_block_here ?_
      refine q_then ?_
      refine c_seq ?_
      refine c_region ?_
      refine st rfl (o_y (v := .bool true) (y_as rfl) rfl rfl rfl ?_)
      refine s_nil ?_
      refine q_then ?_
      refine c_ret ?_
      refine c_fin (I' := []) [] [0, 1] rfl (.tmp rfl .nil) rfl rfl rfl ?_
      exact ⟨by show Value.bool _ = Value.bool _; congr 1; symm; first | exact decide_eq_true (eq_end he (by omega) (by omega)) | exact decide_eq_false (by first | exact eq_not hx1 hx2 (by assumption) | (intro hh; subst hh; first | omega | contradiction)), rfl, rfl⟩
  ·
    refine st rfl (o_y (v := .bool true) (y_b (y_k (v := .bool ((l.length : Int) != (r.length : Int))) rfl rfl (fun _ => by kernel_rfl)) (bne_iff_ne.2 h1)) rfl rfl rfl ?_)
    refine s_nil ?_
    refine q_then ?_
    refine c_true rfl ?_
    refine c_seq ?_
    refine c_region ?_
    refine st rfl (o_y (v := .bool false) (y_as rfl) rfl rfl rfl ?_)
    refine s_nil ?_
    refine q_then ?_
    refine c_ret ?_
    refine q_then_ret ?_
    refine c_fin (I' := []) [] [0, 1] rfl (.tmp rfl .nil) rfl rfl rfl ?_
    exact ⟨by show Value.bool _ = Value.bool _; congr 1; symm; first | exact decide_eq_true (eq_end he (by omega) (by omega)) | exact decide_eq_false (by first | exact eq_not hx1 hx2 (by assumption) | (intro hh; subst hh; first | omega | contradiction)), rfl, rfl⟩
theorem rTexts_ (A : Option Addr) (c : Nat) (l : List ByteArray) (B : Option Addr) (d : Nat) (r : List ByteArray) (hs : small l) : Con Tryd.prog 32 [.slice A l.length c, .slice B r.length d] [] [rd strTy A c l, rd strTy B d r] (fun v L' I' => v = .bool (decide (l = r)) ∧ L' = [] ∧ I' = []) := by
  refine fn_of Tryd.func32 rfl Tryd.ntmps32 (by kernel_rfl) rfl (fun C => ?_)
  refine c_seq ?_
  refine c_region ?_
  refine st rfl (o_y (v := .bool false) (y_as rfl) rfl rfl rfl ?_)
  refine s_nil ?_
  refine q_then ?_
  refine c_seq ?_
  refine c_seq ?_
  refine c_region ?_
  refine st rfl (o_y (v := .slice A l.length c) (y_mv rfl) rfl rfl rfl ?_)
  refine st rfl (o_y (v := .int .i64 (l.length : Int)) (y_k rfl rfl (fun _ => by kernel_rfl)) rfl rfl rfl ?_)
  refine st rfl (o_y (v := .slice B r.length d) (y_mv rfl) rfl rfl rfl ?_)
  refine st rfl (o_y (v := .int .i64 (r.length : Int)) (y_k rfl rfl (fun _ => by kernel_rfl)) rfl rfl rfl ?_)
  refine e_by ((l.length : Int) = (r.length : Int)) (fun h1 => ?_) (fun h1 => ?_)
  ·
    refine st rfl (o_y (v := .bool false) (y_b (y_k (v := .bool ((l.length : Int) != (r.length : Int))) rfl rfl (fun _ => by kernel_rfl)) (bne_eq_false_iff_eq.2 h1)) rfl rfl rfl ?_)
    refine s_nil ?_
    refine q_then ?_
    refine c_false rfl ?_
    refine c_skip ?_
    refine q_then ?_
    refine c_seq ?_
    refine c_seq ?_
    refine c_region ?_
    refine st rfl (o_y (v := .int .i64 0) (y_as rfl) rfl rfl rfl ?_)
    refine s_nil ?_
    refine q_then ?_
    refine c_block ?_
    refine c_loopn (ι := Nat) (fun k => (k ≤ l.length) ∧ (l.take k = r.take k)) (fun k => [(0, .slice A l.length c), (1, .slice B r.length d), (5, .int .i64 (k : Int))]) (fun k => []) (fun k => [rd strTy A c l, rd strTy B d r]) (fun k => l.length - k) (0) [] [0, 1] (show (0 ≤ l.length) ∧ (l.take 0 = r.take 0) from ⟨by first | omega | simp_all | (simp; done), by simp⟩) ((.cons rfl rfl (.cons rfl rfl (.cons rfl rfl .nil)))) rfl rfl ?_
    rintro k ⟨hk, he⟩
    show Ent 26 C [(0, .slice A l.length c), (1, .slice B r.length d), (5, .int .i64 (k : Int))] [] [] [rd strTy A c l, rd strTy B d r] _
    refine c_seq ?_
    refine c_seq ?_
    refine c_region ?_
    refine st rfl (o_y (v := .int .i64 (k : Int)) (y_mv rfl) rfl rfl rfl ?_)
    refine st rfl (o_y (v := .slice A l.length c) (y_mv rfl) rfl rfl rfl ?_)
    refine st rfl (o_y (v := .int .i64 (l.length : Int)) (y_k rfl rfl (fun _ => by kernel_rfl)) rfl rfl rfl ?_)
    refine e_by ((k : Int) < (l.length : Int)) (fun h2 => ?_) (fun h2 => ?_)
    ·
      refine st rfl (o_y (v := .bool true) (y_t (y_k (v := .bool (decide ((k : Int) < (l.length : Int)))) rfl rfl (fun _ => by kernel_rfl)) h2) rfl rfl rfl ?_)
      refine s_nil ?_
      refine q_then ?_
      refine c_true rfl ?_
      refine c_skip ?_
      refine q_then ?_
      refine c_seq ?_
      refine c_block ?_
      refine c_seq ?_
      refine e_at 0 k rfl (by first | omega | (simp only [List.length_append, List.length_map, List.length_take, List.length_drop]; omega)) (fun b1 o1 x1 hA1 hx1 => ?_)
      refine e_at 2 k rfl (by first | omega | (simp only [List.length_append, List.length_map, List.length_take, List.length_drop]; omega)) (fun b2 o2 x2 hA2 hx2 => ?_)
      refine c_draw (l := ticked 9 0) [(⟨b1, o1 + k * 1, none⟩, .string x1), (⟨b2, o2 + k * 1, none⟩, .string x2)] [] (by kernel_rfl) rfl rfl ?_
      refine a_y (i := 0) (v := .slice A l.length c) (ticked 9 1) rfl (by kernel_rfl) rfl rfl rfl (by exact y_mv rfl) ?_
      refine a_y (i := 1) (v := .int .i64 (k : Int)) (ticked 9 3) rfl (by kernel_rfl) rfl rfl rfl (by exact y_mv rfl) ?_
      refine a_y (i := 2) (v := .pointer (some ⟨b1, o1 + k * 1, none⟩)) (ticked 9 7) rfl (by kernel_rfl) rfl rfl rfl (by exact y_at (d := strTy) (l := l) k hA1 rfl rfl rfl (rfl) (List.getElem?_eq_some_iff.1 hx1).1 Tryd.underlying22 (by kernel_rfl) (by kernel_rfl)) ?_
      refine a_y (i := 4) (v := .slice B r.length d) (ticked 9 23) rfl (by kernel_rfl) rfl rfl rfl (by exact y_mv rfl) ?_
      refine a_y (i := 5) (v := .int .i64 (k : Int)) (ticked 9 55) rfl (by kernel_rfl) rfl rfl rfl (by exact y_mv rfl) ?_
      refine a_y (i := 6) (v := .pointer (some ⟨b2, o2 + k * 1, none⟩)) (ticked 9 119) rfl (by kernel_rfl) rfl rfl rfl (by exact y_at (d := strTy) (l := r) k hA2 rfl rfl rfl (rfl) (List.getElem?_eq_some_iff.1 hx2).1 Tryd.underlying22 (by kernel_rfl) (by kernel_rfl)) ?_
      refine a_held (i := 3) (ticked 9 127) rfl (by kernel_rfl) rfl rfl rfl (held_fact (j := 0) 1 rfl rfl (held_fact (j := 0) 0 rfl rfl held_nil)) (h_ld 0 rfl rfl Tryd.underlying9 rfl) ?_
      refine a_held (i := 7) (ticked 9 255) rfl (by kernel_rfl) rfl rfl rfl (held_fact (j := 0) 1 rfl rfl (held_fact (j := 0) 0 rfl rfl held_nil)) (h_ld 1 rfl rfl Tryd.underlying9 rfl) ?_
      refine e_by (x1 = x2) (fun h3 => ?_) (fun h3 => ?_)
      ·
        refine a_y (i := 8) (v := .bool false) (ticked 9 511) rfl (by kernel_rfl) rfl rfl rfl (by exact y_b (y_k (v := .bool (!(x1.toList == x2.toList))) rfl rfl (fun _ => by kernel_rfl)) (str_nt h3)) ?_
        refine a_done (by kernel_rfl) ?_
        refine q_then ?_
        refine c_false rfl ?_
        refine c_skip ?_
        refine q_block ?_
        refine q_then ?_
        refine c_region ?_
        refine st rfl (o_y (v := .int .i64 (k : Int)) (y_mv rfl) rfl rfl rfl ?_)
        refine st rfl (o_y (v := .int .i64 ((k : Int) + 1)) (y_add (r := (k : Int) + 1) rfl rfl rfl (by have := hs.1; omega)) rfl rfl rfl ?_)
        refine st rfl (o_y (v := .int .i64 ((k : Int) + 1)) (y_as rfl) rfl rfl rfl ?_)
        refine s_nil ?_
        refine q_then ?_
        refine c_next [] [2, 3] (k + 1) ?_ ?_ ?_ (by rfl) (by rfl)
        · exact (show ((k + 1) ≤ l.length) ∧ (l.take (k + 1) = r.take (k + 1)) from ⟨by first | omega | simp_all | (simp; done), eq_step he hx1 hx2 (by assumption)⟩)
        · show l.length - (k + 1) < l.length - k; omega
        · exact (.cons rfl rfl (.cons rfl rfl (.cons rfl (show (.int .i64 ((k : Int) + 1) : Value) = .int .i64 ((k + 1) : Int) from by first | rfl | (congr 1; omega) | (congr 1; simp; done) | (congr 1; simp; omega)) .nil)))
      ·
        refine a_y (i := 8) (v := .bool true) (ticked 9 511) rfl (by kernel_rfl) rfl rfl rfl (by exact y_b (y_k (v := .bool (!(x1.toList == x2.toList))) rfl rfl (fun _ => by kernel_rfl)) (str_nf h3)) ?_
        refine a_done (by kernel_rfl) ?_
        refine q_then ?_
        refine c_true rfl ?_
        refine c_seq ?_
        refine c_region ?_
        refine st rfl (o_y (v := .bool false) (y_as rfl) rfl rfl rfl ?_)
        refine s_nil ?_
        refine q_then ?_
        refine c_ret ?_
        refine q_block_ret ?_
        refine q_then_ret ?_
        refine q_then_ret ?_
        refine q_block_ret ?_
        refine q_then_ret ?_
        refine c_fin (I' := []) [] [2, 3] rfl (.tmp rfl .nil) rfl rfl rfl ?_
        exact ⟨by show Value.bool _ = Value.bool _; congr 1; symm; first | exact decide_eq_true (eq_end he (by omega) (by omega)) | exact decide_eq_false (by first | exact eq_not hx1 hx2 (by assumption) | (intro hh; subst hh; first | omega | contradiction)), rfl, rfl⟩
    ·
      refine st rfl (o_y (v := .bool false) (y_f (y_k (v := .bool (decide ((k : Int) < (l.length : Int)))) rfl rfl (fun _ => by kernel_rfl)) h2) rfl rfl rfl ?_)
      refine s_nil ?_
      refine q_then ?_
      refine c_false rfl ?_
      refine c_exit ?_
      refine q_then_exit ?_
      refine q_then_exit ?_
      refine q_block_here ?_
      refine q_then ?_
      refine c_seq ?_
      refine c_region ?_
      refine st rfl (o_y (v := .bool true) (y_as rfl) rfl rfl rfl ?_)
      refine s_nil ?_
      refine q_then ?_
      refine c_ret ?_
      refine c_fin (I' := []) [] [0, 1] rfl (.tmp rfl .nil) rfl rfl rfl ?_
      exact ⟨by show Value.bool _ = Value.bool _; congr 1; symm; first | exact decide_eq_true (eq_end he (by omega) (by omega)) | exact decide_eq_false (by first | exact eq_not hx1 hx2 (by assumption) | (intro hh; subst hh; first | omega | contradiction)), rfl, rfl⟩
  ·
    refine st rfl (o_y (v := .bool true) (y_b (y_k (v := .bool ((l.length : Int) != (r.length : Int))) rfl rfl (fun _ => by kernel_rfl)) (bne_iff_ne.2 h1)) rfl rfl rfl ?_)
    refine s_nil ?_
    refine q_then ?_
    refine c_true rfl ?_
    refine c_seq ?_
    refine c_region ?_
    refine st rfl (o_y (v := .bool false) (y_as rfl) rfl rfl rfl ?_)
    refine s_nil ?_
    refine q_then ?_
    refine c_ret ?_
    refine q_then_ret ?_
    refine c_fin (I' := []) [] [0, 1] rfl (.tmp rfl .nil) rfl rfl rfl ?_
    exact ⟨by show Value.bool _ = Value.bool _; congr 1; symm; first | exact decide_eq_true (eq_end he (by omega) (by omega)) | exact decide_eq_false (by first | exact eq_not hx1 hx2 (by assumption) | (intro hh; subst hh; first | omega | contradiction)), rfl, rfl⟩
theorem Same_ (A : Option Addr) (c : Nat) (l : List ByteArray) (B : Option Addr) (d : Nat) (r : List ByteArray) (max : Int) (mr : Int) (hs : small l) : Con Tryd.prog 26 [.agg #[.int .i64 max, .slice A l.length c], .agg #[.int .i64 mr, .slice B r.length d]] [] [rd strTy A c l, rd strTy B d r] (fun v L' I' => v = .bool (decide (max = mr ∧ l = r)) ∧ L' = [] ∧ I' = []) := by
  refine fn_of Tryd.func26 rfl Tryd.ntmps26 (by kernel_rfl) rfl (fun C => ?_)
  refine c_seq ?_
  refine c_region ?_
  refine st rfl (o_box (cs := [.int .i64 max, .slice A l.length c]) (T := 24) rfl rfl rfl rfl (fun _ => by kernel_rfl) (fun b1 => ?_))
  refine st rfl (o_box (cs := [.int .i64 mr, .slice B r.length d]) (T := 24) rfl rfl rfl rfl (fun _ => by kernel_rfl) (fun b2 => ?_))
  refine st rfl (o_y (v := .bool false) (y_as rfl) rfl rfl rfl ?_)
  refine s_nil ?_
  refine q_then ?_
  refine c_seq ?_
  refine c_region ?_
  refine st rfl (o_y (v := .pointer (some ⟨b1, 0, none⟩)) (y_k rfl rfl (fun _ => by kernel_rfl)) rfl rfl rfl ?_)
  refine st rfl (o_ld 1 rfl rfl rfl Tryd.underlying3 rfl rfl ?_)
  refine st rfl (o_y (v := .pointer (some ⟨b2, 0, none⟩)) (y_k rfl rfl (fun _ => by kernel_rfl)) rfl rfl rfl ?_)
  refine st rfl (o_ld 0 rfl rfl rfl Tryd.underlying3 rfl rfl ?_)
  refine e_by (max = mr) (fun h1 => ?_) (fun h1 => ?_)
  ·
    refine st rfl (o_y (v := .bool true) (y_b (y_k (v := .bool (max == mr)) rfl rfl (fun _ => by kernel_rfl)) (beq_iff_eq.2 h1)) rfl rfl rfl ?_)
    refine st rfl (o_y (v := .bool true) (y_mv rfl) rfl rfl rfl ?_)
    refine st_on 10 rfl rfl rfl (o_y (v := .pointer (some ⟨b1, 1, none⟩)) (y_k rfl rfl (fun _ => by kernel_rfl)) rfl rfl rfl ?_)
    refine st_on 10 rfl rfl rfl (o_ld 1 rfl rfl rfl Tryd.underlying22 rfl rfl ?_)
    refine st_on 10 rfl rfl rfl (o_y (v := .pointer (some ⟨b2, 1, none⟩)) (y_k rfl rfl (fun _ => by kernel_rfl)) rfl rfl rfl ?_)
    refine st_on 10 rfl rfl rfl (o_ld 0 rfl rfl rfl Tryd.underlying22 rfl rfl ?_)
    refine st_on 10 rfl rfl rfl (o_call [] [0, 1] (Equal_ A c l B d r (by first | assumption | exact small_put _ _ _ | exact small_take _ _ | exact small_all _ _ _ | exact small_nil | exact small_right (by assumption) | exact small_one (small_at (by assumption) hx1) | exact small_one (by assumption))) rfl rfl rfl rfl rfl rfl (fun v L' I' hq1 => ?_))
    obtain ⟨rfl, rfl, rfl⟩ := hq1
    refine st rfl (o_y (v := .bool (decide (l = r))) (y_pick rfl rfl) rfl rfl rfl ?_)
    refine st rfl (o_y (v := .bool (decide (l = r))) (y_as rfl) rfl rfl rfl ?_)
    refine s_nil ?_
    refine q_then ?_
    refine c_ret ?_
    refine c_fin (I' := []) [] [0, 1] rfl (.tmp rfl .nil) rfl rfl rfl ?_
    exact ⟨by show Value.bool _ = Value.bool _; congr 1; symm; first | exact decide_eq_true (by assumption) | exact decide_eq_false (fun hh => by first | exact absurd hh.1 (by assumption) | exact absurd hh.2 (by assumption)) | (rw [decide_eq_decide]; exact ⟨fun hh => hh.2, fun hh => ⟨by assumption, hh⟩⟩), rfl, rfl⟩
  ·
    refine st rfl (o_y (v := .bool false) (y_b (y_k (v := .bool (max == mr)) rfl rfl (fun _ => by kernel_rfl)) (beq_eq_false_iff_ne.2 h1)) rfl rfl rfl ?_)
    refine st rfl (o_y (v := .bool false) (y_mv rfl) rfl rfl rfl ?_)
    refine st_off 10 rfl rfl rfl rfl rfl rfl ?_
    refine st_off 10 rfl rfl rfl rfl rfl rfl ?_
    refine st_off 10 rfl rfl rfl rfl rfl rfl ?_
    refine st_off 10 rfl rfl rfl rfl rfl rfl ?_
    refine st_off 10 rfl rfl rfl rfl rfl rfl ?_
    refine st rfl (o_y (v := .bool false) (y_pick rfl rfl) rfl rfl rfl ?_)
    refine st rfl (o_y (v := .bool false) (y_as rfl) rfl rfl rfl ?_)
    refine s_nil ?_
    refine q_then ?_
    refine c_ret ?_
    refine c_fin (I' := []) [] [0, 1] rfl (.tmp rfl .nil) rfl rfl rfl ?_
    exact ⟨by show Value.bool _ = Value.bool _; congr 1; symm; first | exact decide_eq_true (by assumption) | exact decide_eq_false (fun hh => by first | exact absurd hh.1 (by assumption) | exact absurd hh.2 (by assumption)) | (rw [decide_eq_decide]; exact ⟨fun hh => hh.2, fun hh => ⟨by assumption, hh⟩⟩), rfl, rfl⟩
theorem rSame_ (A : Option Addr) (c : Nat) (l : List ByteArray) (B : Option Addr) (d : Nat) (r : List ByteArray) (max : Int) (mr : Int) (hs : small l) : Con Tryd.prog 18 [.agg #[.int .i64 max, .slice A l.length c], .agg #[.int .i64 mr, .slice B r.length d]] [] [rd strTy A c l, rd strTy B d r] (fun v L' I' => v = .bool (decide (max = mr ∧ l = r)) ∧ L' = [] ∧ I' = []) := by
  refine fn_of Tryd.func18 rfl Tryd.ntmps18 (by kernel_rfl) rfl (fun C => ?_)
  refine c_seq ?_
  refine c_region ?_
  refine st rfl (o_box (cs := [.int .i64 max, .slice A l.length c]) (T := 24) rfl rfl rfl rfl (fun _ => by kernel_rfl) (fun b1 => ?_))
  refine st rfl (o_box (cs := [.int .i64 mr, .slice B r.length d]) (T := 24) rfl rfl rfl rfl (fun _ => by kernel_rfl) (fun b2 => ?_))
  refine st rfl (o_y (v := .bool false) (y_as rfl) rfl rfl rfl ?_)
  refine s_nil ?_
  refine q_then ?_
  refine c_seq ?_
  refine c_region ?_
  refine st rfl (o_y (v := .pointer (some ⟨b1, 0, none⟩)) (y_k rfl rfl (fun _ => by kernel_rfl)) rfl rfl rfl ?_)
  refine st rfl (o_ld 1 rfl rfl rfl Tryd.underlying3 rfl rfl ?_)
  refine st rfl (o_y (v := .pointer (some ⟨b2, 0, none⟩)) (y_k rfl rfl (fun _ => by kernel_rfl)) rfl rfl rfl ?_)
  refine st rfl (o_ld 0 rfl rfl rfl Tryd.underlying3 rfl rfl ?_)
  refine e_by (max = mr) (fun h1 => ?_) (fun h1 => ?_)
  ·
    refine st rfl (o_y (v := .bool true) (y_b (y_k (v := .bool (max == mr)) rfl rfl (fun _ => by kernel_rfl)) (beq_iff_eq.2 h1)) rfl rfl rfl ?_)
    refine st rfl (o_y (v := .bool true) (y_mv rfl) rfl rfl rfl ?_)
    refine st_on 10 rfl rfl rfl (o_y (v := .pointer (some ⟨b1, 1, none⟩)) (y_k rfl rfl (fun _ => by kernel_rfl)) rfl rfl rfl ?_)
    refine st_on 10 rfl rfl rfl (o_ld 1 rfl rfl rfl Tryd.underlying22 rfl rfl ?_)
    refine st_on 10 rfl rfl rfl (o_y (v := .pointer (some ⟨b2, 1, none⟩)) (y_k rfl rfl (fun _ => by kernel_rfl)) rfl rfl rfl ?_)
    refine st_on 10 rfl rfl rfl (o_ld 0 rfl rfl rfl Tryd.underlying22 rfl rfl ?_)
    refine st_on 10 rfl rfl rfl (o_call [] [0, 1] (rTexts_ A c l B d r (by first | assumption | exact small_put _ _ _ | exact small_take _ _ | exact small_all _ _ _ | exact small_nil | exact small_right (by assumption) | exact small_one (small_at (by assumption) hx1) | exact small_one (by assumption))) rfl rfl rfl rfl rfl rfl (fun v L' I' hq1 => ?_))
    obtain ⟨rfl, rfl, rfl⟩ := hq1
    refine st rfl (o_y (v := .bool (decide (l = r))) (y_pick rfl rfl) rfl rfl rfl ?_)
    refine st rfl (o_y (v := .bool (decide (l = r))) (y_as rfl) rfl rfl rfl ?_)
    refine s_nil ?_
    refine q_then ?_
    refine c_ret ?_
    refine c_fin (I' := []) [] [0, 1] rfl (.tmp rfl .nil) rfl rfl rfl ?_
    exact ⟨by show Value.bool _ = Value.bool _; congr 1; symm; first | exact decide_eq_true (by assumption) | exact decide_eq_false (fun hh => by first | exact absurd hh.1 (by assumption) | exact absurd hh.2 (by assumption)) | (rw [decide_eq_decide]; exact ⟨fun hh => hh.2, fun hh => ⟨by assumption, hh⟩⟩), rfl, rfl⟩
  ·
    refine st rfl (o_y (v := .bool false) (y_b (y_k (v := .bool (max == mr)) rfl rfl (fun _ => by kernel_rfl)) (beq_eq_false_iff_ne.2 h1)) rfl rfl rfl ?_)
    refine st rfl (o_y (v := .bool false) (y_mv rfl) rfl rfl rfl ?_)
    refine st_off 10 rfl rfl rfl rfl rfl rfl ?_
    refine st_off 10 rfl rfl rfl rfl rfl rfl ?_
    refine st_off 10 rfl rfl rfl rfl rfl rfl ?_
    refine st_off 10 rfl rfl rfl rfl rfl rfl ?_
    refine st_off 10 rfl rfl rfl rfl rfl rfl ?_
    refine st rfl (o_y (v := .bool false) (y_pick rfl rfl) rfl rfl rfl ?_)
    refine st rfl (o_y (v := .bool false) (y_as rfl) rfl rfl rfl ?_)
    refine s_nil ?_
    refine q_then ?_
    refine c_ret ?_
    refine c_fin (I' := []) [] [0, 1] rfl (.tmp rfl .nil) rfl rfl rfl ?_
    exact ⟨by show Value.bool _ = Value.bool _; congr 1; symm; first | exact decide_eq_true (by assumption) | exact decide_eq_false (fun hh => by first | exact absurd hh.1 (by assumption) | exact absurd hh.2 (by assumption)) | (rw [decide_eq_decide]; exact ⟨fun hh => hh.2, fun hh => ⟨by assumption, hh⟩⟩), rfl, rfl⟩
theorem rNew_ (max : Int) : Con Tryd.prog 21 [.int .i64 max] [] [] (fun v L' I' => ((0 ≤ max ∧ max ≤ 2000) ∧ v = .tuple #[.agg #[.int .i64 max, .slice none 0 0], .int .i64 0] ∧ L' = [] ∧ I' = []) ∨ ((¬ (0 ≤ max ∧ max ≤ 2000)) ∧ v = .tuple #[.agg #[.int .i64 0, .slice none 0 0], .int .i64 2] ∧ L' = [] ∧ I' = [])) := by
  refine fn_of Tryd.func21 rfl Tryd.ntmps21 (by kernel_rfl) rfl (fun C => ?_)
  refine c_seq ?_
  refine c_region ?_
  refine st rfl (o_box (cs := [.int .i64 0, .slice none 0 0]) (T := 24) rfl rfl rfl rfl (fun _ => by kernel_rfl) (fun b1 => ?_))
  refine st rfl (o_y (v := .int .i64 0) (y_as rfl) rfl rfl rfl ?_)
  refine s_nil ?_
  refine q_then ?_
  refine c_seq ?_
  refine c_seq ?_
  refine c_region ?_
  refine st rfl (o_y (v := .int .i64 max) (y_mv rfl) rfl rfl rfl ?_)
  refine e_by (max < 0) (fun h1 => ?_) (fun h1 => ?_)
  ·
    refine st rfl (o_y (v := .bool true) (y_t (y_k (v := .bool (decide (max < 0))) rfl rfl (fun _ => by kernel_rfl)) h1) rfl rfl rfl ?_)
    refine st rfl (o_y (v := .bool true) (y_mv rfl) rfl rfl rfl ?_)
    refine st_off 6 rfl rfl rfl rfl rfl rfl ?_
    refine st_off 6 rfl rfl rfl rfl rfl rfl ?_
    refine st rfl (o_y (v := .bool true) (y_pick rfl rfl) rfl rfl rfl ?_)
    refine s_nil ?_
    refine q_then ?_
    refine c_true rfl ?_
    refine c_seq ?_
    refine c_region ?_
    refine st rfl (o_y (v := .agg #[.int .i64 0, .slice none 0 0]) (y_k rfl rfl (fun _ => by kernel_rfl)) rfl rfl rfl ?_)
    refine st rfl (o_st 0 rfl rfl rfl rfl rfl (by kernel_rfl) (by kernel_rfl) rfl ?_)
    refine st rfl (o_y (v := .int .i64 2) (y_as rfl) rfl rfl rfl ?_)
    refine s_nil ?_
    refine q_then ?_
    refine c_ret ?_
    refine q_then_ret ?_
    refine c_fin (I' := []) [] [] rfl (.agg 0 2 rfl rfl rfl rfl Tryd.underlying24 rfl (by kernel_rfl) (by kernel_rfl) (.tmp rfl .nil)) rfl rfl rfl ?_
    exact .inr ⟨by first | omega | simp_all, rfl, rfl, rfl⟩
  ·
    refine st rfl (o_y (v := .bool false) (y_f (y_k (v := .bool (decide (max < 0))) rfl rfl (fun _ => by kernel_rfl)) h1) rfl rfl rfl ?_)
    refine st rfl (o_y (v := .bool false) (y_mv rfl) rfl rfl rfl ?_)
    refine st_on 6 rfl rfl rfl (o_y (v := .int .i64 max) (y_mv rfl) rfl rfl rfl ?_)
    refine e_by (max > 2000) (fun h2 => ?_) (fun h2 => ?_)
    ·
      refine st_on 6 rfl rfl rfl (o_y (v := .bool true) (y_t (y_k (v := .bool (decide (max > 2000))) rfl rfl (fun _ => by kernel_rfl)) h2) rfl rfl rfl ?_)
      refine st rfl (o_y (v := .bool true) (y_pick rfl rfl) rfl rfl rfl ?_)
      refine s_nil ?_
      refine q_then ?_
      refine c_true rfl ?_
      refine c_seq ?_
      refine c_region ?_
      refine st rfl (o_y (v := .agg #[.int .i64 0, .slice none 0 0]) (y_k rfl rfl (fun _ => by kernel_rfl)) rfl rfl rfl ?_)
      refine st rfl (o_st 0 rfl rfl rfl rfl rfl (by kernel_rfl) (by kernel_rfl) rfl ?_)
      refine st rfl (o_y (v := .int .i64 2) (y_as rfl) rfl rfl rfl ?_)
      refine s_nil ?_
      refine q_then ?_
      refine c_ret ?_
      refine q_then_ret ?_
      refine c_fin (I' := []) [] [] rfl (.agg 0 2 rfl rfl rfl rfl Tryd.underlying24 rfl (by kernel_rfl) (by kernel_rfl) (.tmp rfl .nil)) rfl rfl rfl ?_
      exact .inr ⟨by first | omega | simp_all, rfl, rfl, rfl⟩
    ·
      refine st_on 6 rfl rfl rfl (o_y (v := .bool false) (y_f (y_k (v := .bool (decide (max > 2000))) rfl rfl (fun _ => by kernel_rfl)) h2) rfl rfl rfl ?_)
      refine st rfl (o_y (v := .bool false) (y_pick rfl rfl) rfl rfl rfl ?_)
      refine s_nil ?_
      refine q_then ?_
      refine c_false rfl ?_
      refine c_skip ?_
      refine q_then ?_
      refine c_seq ?_
      refine c_region ?_
      refine st rfl (o_y (v := .int .i64 max) (y_mv rfl) rfl rfl rfl ?_)
      refine st rfl (o_y (v := .agg #[.int .i64 max, .slice none 0 0]) (y_k rfl rfl (fun _ => by kernel_rfl)) rfl rfl rfl ?_)
      refine st rfl (o_st 0 rfl rfl rfl rfl rfl (by kernel_rfl) (by kernel_rfl) rfl ?_)
      refine st rfl (o_y (v := .int .i64 0) (y_as rfl) rfl rfl rfl ?_)
      refine s_nil ?_
      refine q_then ?_
      refine c_ret ?_
      refine c_fin (I' := []) [] [] rfl (.agg 0 2 rfl rfl rfl rfl Tryd.underlying24 rfl (by kernel_rfl) (by kernel_rfl) (.tmp rfl .nil)) rfl rfl rfl ?_
      exact .inl ⟨by first | omega | simp_all, rfl, rfl, rfl⟩
theorem rUsed_ (A : Option Addr) (c : Nat) (l : List ByteArray) (max : Int) (hs : small l) : Con Tryd.prog 25 [.agg #[.int .i64 max, .slice A l.length c]] [] [rd strTy A c l] (fun v L' I' => v = .int .i64 (usedF max l : Int) ∧ L' = [] ∧ I' = []) := by
  refine fn_of Tryd.func25 rfl Tryd.ntmps25 (by kernel_rfl) rfl (fun C => ?_)
  refine c_seq ?_
  refine c_region ?_
  refine st rfl (o_box (cs := [.int .i64 max, .slice A l.length c]) (T := 24) rfl rfl rfl rfl (fun _ => by kernel_rfl) (fun b1 => ?_))
  refine st rfl (o_y (v := .int .i64 0) (y_as rfl) rfl rfl rfl ?_)
  refine s_nil ?_
  refine q_then ?_
  refine c_seq ?_
  refine c_seq ?_
  refine c_region ?_
  refine st rfl (o_ldn 0 2 rfl rfl rfl rfl Tryd.underlying24 rfl (by kernel_rfl) (by kernel_rfl) rfl ?_)
  refine st rfl (o_call [] [0] (rRight_ A c l max (by first | assumption | exact small_put _ _ _ | exact small_take _ _ | exact small_all _ _ _ | exact small_nil | exact small_right (by assumption) | exact small_one (small_at (by assumption) hx1) | exact small_one (by assumption))) rfl rfl rfl rfl rfl rfl (fun v L' I' hq1 => ?_))
  obtain ⟨hv1, rfl, rfl⟩ := hq1
  refine e_by (right max l) (fun h1 => ?_) (fun h1 => ?_)
  ·
    obtain rfl : v = .bool true := by rw [hv1, decide_eq_true h1]
    refine st rfl (o_y (v := .bool false) (y_k rfl rfl (fun _ => by kernel_rfl)) rfl rfl rfl ?_)
    refine s_nil ?_
    refine q_then ?_
    refine c_false rfl ?_
    refine c_skip ?_
    refine q_then ?_
    refine c_seq ?_
    refine c_region ?_
    refine st rfl (o_y (v := .pointer (some ⟨b1, 1, none⟩)) (y_k rfl rfl (fun _ => by kernel_rfl)) rfl rfl rfl ?_)
    refine st rfl (o_ld 0 rfl rfl rfl Tryd.underlying22 rfl rfl ?_)
    refine st rfl (o_call [] [0] (rtakes_ A c l (by first | assumption | exact small_put _ _ _ | exact small_take _ _ | exact small_all _ _ _ | exact small_nil | exact small_right (by assumption) | exact small_one (small_at (by assumption) hx1) | exact small_one (by assumption))) rfl rfl rfl rfl rfl rfl (fun v L' I' hq2 => ?_))
    obtain ⟨rfl, rfl, rfl⟩ := hq2
    refine st rfl (o_y (v := .int .i64 (takesN l : Int)) (y_as rfl) rfl rfl rfl ?_)
    refine s_nil ?_
    refine q_then ?_
    refine c_ret ?_
    refine c_fin (I' := []) [] [0] rfl (.tmp rfl .nil) rfl rfl rfl ?_
    exact ⟨by unfold usedF; first | (rw [if_pos (by assumption)]; rfl) | (rw [if_neg (by assumption)]; rfl), rfl, rfl⟩
  ·
    obtain rfl : v = .bool false := by rw [hv1, decide_eq_false h1]
    refine st rfl (o_y (v := .bool true) (y_k rfl rfl (fun _ => by kernel_rfl)) rfl rfl rfl ?_)
    refine s_nil ?_
    refine q_then ?_
    refine c_true rfl ?_
    refine c_seq ?_
    refine c_region ?_
    refine st rfl (o_y (v := .int .i64 0) (y_as rfl) rfl rfl rfl ?_)
    refine s_nil ?_
    refine q_then ?_
    refine c_ret ?_
    refine q_then_ret ?_
    refine c_fin (I' := []) [] [0] rfl (.tmp rfl .nil) rfl rfl rfl ?_
    exact ⟨by unfold usedF; first | (rw [if_pos (by assumption)]; rfl) | (rw [if_neg (by assumption)]; rfl), rfl, rfl⟩
theorem rPut_ (A : Option Addr) (c : Nat) (l : List ByteArray) (max : Int) (item : ByteArray) (hs : small l) (hi : item.size ≤ 1000000) : Con Tryd.prog 22 [.agg #[.int .i64 max, .slice A l.length c], .string item] [] [rd strTy A c l] (fun v L' I' => ∃ A1 : Option Addr, ∃ c1 : Nat, v = .tuple #[.agg #[.int .i64 ((putF max l item).1), .slice A1 ((putF max l item).2.1).length c1], .int .i64 ((putF max l item).2.2)] ∧ L' = [] ∧ I' = [rd strTy A1 c1 ((putF max l item).2.1)]) := by
  refine fn_of Tryd.func22 rfl Tryd.ntmps22 (by kernel_rfl) rfl (fun C => ?_)
  refine c_seq ?_
  refine c_region ?_
  refine st rfl (o_box (cs := [.int .i64 max, .slice A l.length c]) (T := 24) rfl rfl rfl rfl (fun _ => by kernel_rfl) (fun b1 => ?_))
  refine st rfl (o_box (cs := [.int .i64 0, .slice none 0 0]) (T := 24) rfl rfl rfl rfl (fun _ => by kernel_rfl) (fun b2 => ?_))
  refine st rfl (o_y (v := .int .i64 0) (y_as rfl) rfl rfl rfl ?_)
  refine s_nil ?_
  refine q_then ?_
  refine c_seq ?_
  refine c_seq ?_
  refine c_region ?_
  refine st rfl (o_ldn 1 2 rfl rfl rfl rfl Tryd.underlying24 rfl (by kernel_rfl) (by kernel_rfl) rfl ?_)
  refine st rfl (o_call [] [0] (rRight_ A c l max (by first | assumption | exact small_put _ _ _ | exact small_take _ _ | exact small_all _ _ _ | exact small_nil | exact small_right (by assumption) | exact small_one (small_at (by assumption) hx1) | exact small_one (by assumption))) rfl rfl rfl rfl rfl rfl (fun v L' I' hq1 => ?_))
  obtain ⟨hv1, rfl, rfl⟩ := hq1
  refine e_by (right max l) (fun h1 => ?_) (fun h1 => ?_)
  ·
    obtain rfl : v = .bool true := by rw [hv1, decide_eq_true h1]
    refine st rfl (o_y (v := .bool false) (y_k rfl rfl (fun _ => by kernel_rfl)) rfl rfl rfl ?_)
    refine st rfl (o_y (v := .bool false) (y_mv rfl) rfl rfl rfl ?_)
    refine st_on 10 rfl rfl rfl (o_y (v := .string item) (y_mv rfl) rfl rfl rfl ?_)
    refine st_on 10 rfl rfl rfl (o_y (v := .int .i64 (item.size : Int)) (y_k rfl rfl (fun _ => by kernel_rfl)) rfl rfl rfl ?_)
    refine e_by ((item.size : Int) > 200) (fun h2 => ?_) (fun h2 => ?_)
    ·
      refine st_on 10 rfl rfl rfl (o_y (v := .bool true) (y_t (y_k (v := .bool (decide ((item.size : Int) > 200))) rfl rfl (fun _ => by kernel_rfl)) h2) rfl rfl rfl ?_)
      refine st rfl (o_y (v := .bool true) (y_pick rfl rfl) rfl rfl rfl ?_)
      refine s_nil ?_
      refine q_then ?_
      refine c_true rfl ?_
      refine c_seq ?_
      refine c_region ?_
      refine st rfl (o_y (v := .agg #[.int .i64 0, .slice none 0 0]) (y_k rfl rfl (fun _ => by kernel_rfl)) rfl rfl rfl ?_)
      refine st rfl (o_st 0 rfl rfl rfl rfl rfl (by kernel_rfl) (by kernel_rfl) rfl ?_)
      refine st rfl (o_y (v := .int .i64 2) (y_as rfl) rfl rfl rfl ?_)
      refine s_nil ?_
      refine q_then ?_
      refine c_ret ?_
      refine q_then_ret ?_
      have hp : putF max l item = (0, [], 2) := by first | exact putF_no (by assumption) | exact putF_no2 (by assumption) | exact putF_fit (by assumption) (by assumption) (by assumption) | exact putF_room (by assumption) (by assumption) (by assumption)
      refine e_rdnil strTy none 0 ?_
      refine c_fin (I' := [rd strTy none 0 []]) [] [0, 1] rfl (.agg 0 2 rfl rfl rfl rfl Tryd.underlying24 rfl (by kernel_rfl) (by kernel_rfl) (.tmp rfl .nil)) rfl rfl rfl ?_
      rw [hp]
      exact ⟨_, _, rfl, rfl, rfl⟩
    ·
      refine st_on 10 rfl rfl rfl (o_y (v := .bool false) (y_f (y_k (v := .bool (decide ((item.size : Int) > 200))) rfl rfl (fun _ => by kernel_rfl)) h2) rfl rfl rfl ?_)
      refine st rfl (o_y (v := .bool false) (y_pick rfl rfl) rfl rfl rfl ?_)
      refine s_nil ?_
      refine q_then ?_
      refine c_false rfl ?_
      refine c_skip ?_
      refine q_then ?_
      refine c_seq ?_
      refine c_seq ?_
      refine c_draw (l := ticked 10 0) [(⟨b1, 1, none⟩, .slice A l.length c), (⟨b1, 0, none⟩, .int .i64 max)] [] (by kernel_rfl) rfl rfl ?_
      refine a_y (i := 0) (v := .pointer (some ⟨b1, 1, none⟩)) (ticked 10 1) rfl (by kernel_rfl) rfl rfl rfl (by exact y_k rfl rfl (fun _ => by kernel_rfl)) ?_
      refine a_y (i := 3) (v := .string item) (ticked 10 9) rfl (by kernel_rfl) rfl rfl rfl (by exact y_mv rfl) ?_
      refine a_y (i := 4) (v := .int .i64 (item.size : Int)) (ticked 10 25) rfl (by kernel_rfl) rfl rfl rfl (by exact y_k rfl rfl (fun _ => by kernel_rfl)) ?_
      refine a_y (i := 7) (v := .pointer (some ⟨b1, 0, none⟩)) (ticked 10 153) rfl (by kernel_rfl) rfl rfl rfl (by exact y_k rfl rfl (fun _ => by kernel_rfl)) ?_
      refine a_held (i := 1) (ticked 10 155) rfl (by kernel_rfl) rfl rfl rfl (held_pt 1 rfl rfl (held_pt 1 rfl rfl held_nil)) (h_ld 0 rfl rfl Tryd.underlying22 rfl) ?_
      refine a_held (i := 8) (ticked 10 411) rfl (by kernel_rfl) rfl rfl rfl (held_pt 1 rfl rfl (held_pt 1 rfl rfl held_nil)) (h_ld 1 rfl rfl Tryd.underlying3 rfl) ?_
      refine a_each (rs := [2]) (by kernel_rfl) (.cons (ticked 10 415) rfl rfl rfl (o_call [] [0] (rtakes_ A c l (by first | assumption | exact small_put _ _ _ | exact small_take _ _ | exact small_all _ _ _ | exact small_nil | exact small_right (by assumption) | exact small_one (small_at (by assumption) hx1) | exact small_one (by assumption))) rfl rfl rfl rfl rfl rfl (fun v L' I' hq2 => ?_)) .nil) (List.cons_ne_nil _ _)
      obtain ⟨rfl, rfl, rfl⟩ := hq2
      refine a_and (held_pt 1 rfl rfl (held_pt 1 rfl rfl held_nil)) ?_
      refine a_y (i := 5) (v := .int .i64 ((takesN l : Int) + (item.size : Int))) (ticked 10 447) rfl (by kernel_rfl) rfl rfl rfl (by exact y_add (r := (takesN l : Int) + (item.size : Int)) rfl rfl rfl (by have := right_len (by assumption); omega)) ?_
      refine a_y (i := 6) (v := .int .i64 (((takesN l : Int) + (item.size : Int)) + 1)) (ticked 10 511) rfl (by kernel_rfl) rfl rfl rfl (by exact y_add (r := ((takesN l : Int) + (item.size : Int)) + 1) rfl rfl rfl (by have := right_len (by assumption); omega)) ?_
      refine e_by (((takesN l : Int) + (item.size : Int)) + 1 > max) (fun h3 => ?_) (fun h3 => ?_)
      ·
        refine a_y (i := 9) (v := .bool true) (ticked 10 1023) rfl (by kernel_rfl) rfl rfl rfl (by exact y_t (y_k (v := .bool (decide (((takesN l : Int) + (item.size : Int)) + 1 > max))) rfl rfl (fun _ => by kernel_rfl)) h3) ?_
        refine a_done (by kernel_rfl) ?_
        refine q_then ?_
        refine c_true rfl ?_
        refine c_seq ?_
        refine c_region ?_
        refine st rfl (o_y (v := .agg #[.int .i64 0, .slice none 0 0]) (y_k rfl rfl (fun _ => by kernel_rfl)) rfl rfl rfl ?_)
        refine st rfl (o_st 0 rfl rfl rfl rfl rfl (by kernel_rfl) (by kernel_rfl) rfl ?_)
        refine st rfl (o_y (v := .int .i64 80) (y_as rfl) rfl rfl rfl ?_)
        refine s_nil ?_
        refine q_then ?_
        refine c_ret ?_
        refine q_then_ret ?_
        have hp : putF max l item = (0, [], 80) := by first | exact putF_no (by assumption) | exact putF_no2 (by assumption) | exact putF_fit (by assumption) (by assumption) (by assumption) | exact putF_room (by assumption) (by assumption) (by assumption)
        refine e_rdnil strTy none 0 ?_
        refine c_fin (I' := [rd strTy none 0 []]) [] [0, 1] rfl (.agg 0 2 rfl rfl rfl rfl Tryd.underlying24 rfl (by kernel_rfl) (by kernel_rfl) (.tmp rfl .nil)) rfl rfl rfl ?_
        rw [hp]
        exact ⟨_, _, rfl, rfl, rfl⟩
      ·
        refine a_y (i := 9) (v := .bool false) (ticked 10 1023) rfl (by kernel_rfl) rfl rfl rfl (by exact y_f (y_k (v := .bool (decide (((takesN l : Int) + (item.size : Int)) + 1 > max))) rfl rfl (fun _ => by kernel_rfl)) h3) ?_
        refine a_done (by kernel_rfl) ?_
        refine q_then ?_
        refine c_false rfl ?_
        refine c_skip ?_
        refine q_then ?_
        refine c_seq ?_
        refine c_region ?_
        refine st rfl (o_y (v := .slice none 0 0) (y_as rfl) rfl rfl rfl ?_)
        refine s_nil ?_
        refine q_then ?_
        refine c_seq ?_
        refine c_drawx (l := ticked 12 0) [(⟨b1, 0, none⟩, .int .i64 max), (⟨b1, 1, none⟩, .slice A l.length c)] [] (by kernel_rfl) rfl rfl (fun Y back => ?_)
        have cut1 : ∀ (b3 : Nat) (A1 : Option Addr) (c1 : Nat), Ent 37 C [(4, .pointer (some ⟨b2, 0, none⟩)), (5, .int .i64 0)] [] [pt b3 [.string item] 9, ars strTy 9 A1 c1 (l ++ [item]), pt b2 [.int .i64 max, .slice A1 (l ++ [item]).length c1] 24, pt b1 [.int .i64 max, .slice A l.length c] 24] [rd strTy A c l] Y := by
          intro b3 A1 c1
          refine back ?_
          refine q_then ?_
          refine c_ret ?_
          have hp : putF max l item = (max, l ++ [item], 0) := by first | exact putF_no (by assumption) | exact putF_no2 (by assumption) | exact putF_fit (by assumption) (by assumption) (by assumption) | exact putF_room (by assumption) (by assumption) (by assumption)
          refine e_still 1 rfl ?_
          refine c_fin (I' := [rd strTy A1 c1 (l ++ [item])]) [] [0, 1] rfl (.agg 1 2 rfl rfl rfl rfl Tryd.underlying24 rfl (by kernel_rfl) (by kernel_rfl) (.tmp rfl .nil)) rfl rfl rfl ?_
          rw [hp]
          exact ⟨_, _, rfl, rfl, rfl⟩
        refine a_y (i := 0) (v := .pointer (some ⟨b1, 0, none⟩)) (ticked 12 1) rfl (by kernel_rfl) rfl rfl rfl (by exact y_k rfl rfl (fun _ => by kernel_rfl)) ?_
        refine a_y (i := 2) (v := .slice none 0 0) (ticked 12 5) rfl (by kernel_rfl) rfl rfl rfl (by exact y_mv rfl) ?_
        refine a_y (i := 3) (v := .pointer (some ⟨b1, 1, none⟩)) (ticked 12 13) rfl (by kernel_rfl) rfl rfl rfl (by exact y_k rfl rfl (fun _ => by kernel_rfl)) ?_
        refine a_y (i := 6) (v := .string item) (ticked 12 77) rfl (by kernel_rfl) rfl rfl rfl (by exact y_mv rfl) ?_
        refine a_held (i := 1) (ticked 12 79) rfl (by kernel_rfl) rfl rfl rfl (held_pt 1 rfl rfl (held_pt 1 rfl rfl held_nil)) (h_ld 0 rfl rfl Tryd.underlying3 rfl) ?_
        refine a_held (i := 4) (ticked 12 95) rfl (by kernel_rfl) rfl rfl rfl (held_pt 1 rfl rfl (held_pt 1 rfl rfl held_nil)) (h_ld 1 rfl rfl Tryd.underlying22 rfl) ?_
        refine a_each (rs := [5, 7]) (by kernel_rfl) (.cons (ticked 12 127) rfl rfl rfl ?_ (.cons (ticked 12 223) rfl rfl rfl ?_ .nil)) (List.cons_ne_nil _ _)
        ·
          refine e_nil strTy 9 ?_
          refine o_app (l := ([] : List ByteArray)) (us := l) 0 rfl rfl rfl rfl rfl (src_rd 0 rfl) Tryd.underlying22 (elem_of (z := .string (⟨#[]⟩ : ByteArray)) (sz := 1) (bytes := 16) (by kernel_rfl) rfl) rfl (by have := right_len (by assumption); simp only [List.length_cons, List.length_nil, List.length_append]; omega) rfl rfl (fun A2 c2 => ?_)
          refine a_and (held_pt 2 rfl rfl (held_pt 2 rfl rfl held_nil)) ?_
          refine a_each (rs := [7]) (by kernel_rfl) (.cons (ticked 12 255) rfl rfl rfl (o_lit (cs := [.string item]) (T := 9) (m := 1) rfl rfl rfl rfl (fun _ => by kernel_rfl) (fun b4 => ?_)) .nil) (List.cons_ne_nil _ _)
          refine a_and (held_pt 3 rfl rfl (held_pt 3 rfl rfl held_nil)) ?_
          refine a_each (rs := [8]) (by kernel_rfl) (.cons (ticked 12 511) rfl rfl rfl (o_app (l := l) (us := [item]) 1 rfl rfl rfl rfl rfl (src_pt 0 rfl) Tryd.underlying22 (elem_of (z := .string (⟨#[]⟩ : ByteArray)) (sz := 1) (bytes := 16) (by kernel_rfl) rfl) rfl (by have := right_len (by assumption); simp only [List.length_cons, List.length_nil, List.length_append]; omega) rfl rfl (fun A3 c3 => ?_)) .nil) (List.cons_ne_nil _ _)
          refine a_and (held_pt 3 rfl rfl (held_pt 3 rfl rfl held_nil)) ?_
          refine a_y (i := 9) (v := .agg #[.int .i64 max, .slice A3 (l ++ [item]).length c3]) (ticked 12 1023) rfl (by kernel_rfl) rfl rfl rfl (by exact y_k rfl rfl (fun _ => by kernel_rfl)) ?_
          refine a_each (rs := [10]) (by kernel_rfl) (.cons (ticked 12 2047) rfl rfl rfl (o_st 2 rfl rfl rfl rfl rfl (by kernel_rfl) (by kernel_rfl) rfl ?_) .nil) (List.cons_ne_nil _ _)
          refine a_and (held_pt 3 rfl rfl (held_pt 3 rfl rfl held_nil)) ?_
          refine a_y (i := 11) (v := .int .i64 0) (ticked 12 4095) rfl (by kernel_rfl) rfl rfl rfl (by exact y_as rfl) ?_
          refine a_done (by kernel_rfl) ?_
          refine e_norm (e' := [(4, .pointer (some ⟨b2, 0, none⟩)), (5, .int .i64 0)]) [0, 0, 0, 0] [0] ((.cons rfl rfl (.cons rfl rfl .nil))) rfl rfl ?_
          exact cut1 b4 A3 c3
        ·
          refine o_lit (cs := [.string item]) (T := 9) (m := 1) rfl rfl rfl rfl (fun _ => by kernel_rfl) (fun b5 => ?_)
          refine a_and (held_pt 2 rfl rfl (held_pt 2 rfl rfl held_nil)) ?_
          refine e_nil strTy 9 ?_
          refine a_each (rs := [5]) (by kernel_rfl) (.cons (ticked 12 255) rfl rfl rfl (o_app (l := ([] : List ByteArray)) (us := l) 0 rfl rfl rfl rfl rfl (src_rd 0 rfl) Tryd.underlying22 (elem_of (z := .string (⟨#[]⟩ : ByteArray)) (sz := 1) (bytes := 16) (by kernel_rfl) rfl) rfl (by have := right_len (by assumption); simp only [List.length_cons, List.length_nil, List.length_append]; omega) rfl rfl (fun A4 c4 => ?_)) .nil) (List.cons_ne_nil _ _)
          refine a_and (held_pt 3 rfl rfl (held_pt 3 rfl rfl held_nil)) ?_
          refine a_each (rs := [8]) (by kernel_rfl) (.cons (ticked 12 511) rfl rfl rfl (o_app (l := l) (us := [item]) 0 rfl rfl rfl rfl rfl (src_pt 1 rfl) Tryd.underlying22 (elem_of (z := .string (⟨#[]⟩ : ByteArray)) (sz := 1) (bytes := 16) (by kernel_rfl) rfl) rfl (by have := right_len (by assumption); simp only [List.length_cons, List.length_nil, List.length_append]; omega) rfl rfl (fun A5 c5 => ?_)) .nil) (List.cons_ne_nil _ _)
          refine a_and (held_pt 3 rfl rfl (held_pt 3 rfl rfl held_nil)) ?_
          refine a_y (i := 9) (v := .agg #[.int .i64 max, .slice A5 (l ++ [item]).length c5]) (ticked 12 1023) rfl (by kernel_rfl) rfl rfl rfl (by exact y_k rfl rfl (fun _ => by kernel_rfl)) ?_
          refine a_each (rs := [10]) (by kernel_rfl) (.cons (ticked 12 2047) rfl rfl rfl (o_st 2 rfl rfl rfl rfl rfl (by kernel_rfl) (by kernel_rfl) rfl ?_) .nil) (List.cons_ne_nil _ _)
          refine a_and (held_pt 3 rfl rfl (held_pt 3 rfl rfl held_nil)) ?_
          refine a_y (i := 11) (v := .int .i64 0) (ticked 12 4095) rfl (by kernel_rfl) rfl rfl rfl (by exact y_as rfl) ?_
          refine a_done (by kernel_rfl) ?_
          refine e_norm (e' := [(4, .pointer (some ⟨b2, 0, none⟩)), (5, .int .i64 0)]) [1, 0, 0, 0] [0] ((.cons rfl rfl (.cons rfl rfl .nil))) rfl rfl ?_
          exact cut1 b5 A5 c5
  ·
    obtain rfl : v = .bool false := by rw [hv1, decide_eq_false h1]
    refine st rfl (o_y (v := .bool true) (y_k rfl rfl (fun _ => by kernel_rfl)) rfl rfl rfl ?_)
    refine st rfl (o_y (v := .bool true) (y_mv rfl) rfl rfl rfl ?_)
    refine st_off 10 rfl rfl rfl rfl rfl rfl ?_
    refine st_off 10 rfl rfl rfl rfl rfl rfl ?_
    refine st_off 10 rfl rfl rfl rfl rfl rfl ?_
    refine st rfl (o_y (v := .bool true) (y_pick rfl rfl) rfl rfl rfl ?_)
    refine s_nil ?_
    refine q_then ?_
    refine c_true rfl ?_
    refine c_seq ?_
    refine c_region ?_
    refine st rfl (o_y (v := .agg #[.int .i64 0, .slice none 0 0]) (y_k rfl rfl (fun _ => by kernel_rfl)) rfl rfl rfl ?_)
    refine st rfl (o_st 0 rfl rfl rfl rfl rfl (by kernel_rfl) (by kernel_rfl) rfl ?_)
    refine st rfl (o_y (v := .int .i64 2) (y_as rfl) rfl rfl rfl ?_)
    refine s_nil ?_
    refine q_then ?_
    refine c_ret ?_
    refine q_then_ret ?_
    have hp : putF max l item = (0, [], 2) := by first | exact putF_no (by assumption) | exact putF_no2 (by assumption) | exact putF_fit (by assumption) (by assumption) (by assumption) | exact putF_room (by assumption) (by assumption) (by assumption)
    refine e_rdnil strTy none 0 ?_
    refine c_fin (I' := [rd strTy none 0 []]) [] [0, 1] rfl (.agg 0 2 rfl rfl rfl rfl Tryd.underlying24 rfl (by kernel_rfl) (by kernel_rfl) (.tmp rfl .nil)) rfl rfl rfl ?_
    rw [hp]
    exact ⟨_, _, rfl, rfl, rfl⟩
theorem rTake_ (A : Option Addr) (c : Nat) (l : List ByteArray) (max : Int) (hs : small l) : Con Tryd.prog 23 [.agg #[.int .i64 max, .slice A l.length c]] [] [rd strTy A c l] (fun v L' I' => ∃ A1 : Option Addr, ∃ c1 : Nat, v = .tuple #[.string ((takeF max l).1), .agg #[.int .i64 ((takeF max l).2.1), .slice A1 ((takeF max l).2.2.1).length c1], .int .i64 ((takeF max l).2.2.2)] ∧ L' = [] ∧ I' = [rd strTy A1 c1 ((takeF max l).2.2.1)]) := by
  refine fn_of Tryd.func23 rfl Tryd.ntmps23 (by kernel_rfl) rfl (fun C => ?_)
  refine c_seq ?_
  refine c_region ?_
  refine st rfl (o_box (cs := [.int .i64 max, .slice A l.length c]) (T := 24) rfl rfl rfl rfl (fun _ => by kernel_rfl) (fun b1 => ?_))
  refine st rfl (o_y (v := .string (⟨#[]⟩ : ByteArray)) (y_as rfl) rfl rfl rfl ?_)
  refine st rfl (o_box (cs := [.int .i64 0, .slice none 0 0]) (T := 24) rfl rfl rfl rfl (fun _ => by kernel_rfl) (fun b2 => ?_))
  refine st rfl (o_y (v := .int .i64 0) (y_as rfl) rfl rfl rfl ?_)
  refine s_nil ?_
  refine q_then ?_
  refine c_seq ?_
  refine c_seq ?_
  refine c_region ?_
  refine st rfl (o_ldn 1 2 rfl rfl rfl rfl Tryd.underlying24 rfl (by kernel_rfl) (by kernel_rfl) rfl ?_)
  refine st rfl (o_call [] [0] (rRight_ A c l max (by first | assumption | exact small_put _ _ _ | exact small_take _ _ | exact small_all _ _ _ | exact small_nil | exact small_right (by assumption) | exact small_one (small_at (by assumption) hx1) | exact small_one (by assumption))) rfl rfl rfl rfl rfl rfl (fun v L' I' hq1 => ?_))
  obtain ⟨hv1, rfl, rfl⟩ := hq1
  refine e_by (right max l) (fun h1 => ?_) (fun h1 => ?_)
  ·
    obtain rfl : v = .bool true := by rw [hv1, decide_eq_true h1]
    refine st rfl (o_y (v := .bool false) (y_k rfl rfl (fun _ => by kernel_rfl)) rfl rfl rfl ?_)
    refine s_nil ?_
    refine q_then ?_
    refine c_false rfl ?_
    refine c_skip ?_
    refine q_then ?_
    refine c_seq ?_
    refine c_seq ?_
    refine c_region ?_
    refine st rfl (o_y (v := .pointer (some ⟨b1, 1, none⟩)) (y_k rfl rfl (fun _ => by kernel_rfl)) rfl rfl rfl ?_)
    refine st rfl (o_ld 1 rfl rfl rfl Tryd.underlying22 rfl rfl ?_)
    refine st rfl (o_y (v := .int .i64 (l.length : Int)) (y_k rfl rfl (fun _ => by kernel_rfl)) rfl rfl rfl ?_)
    refine e_by ((l.length : Int) = 0) (fun h2 => ?_) (fun h2 => ?_)
    ·
      refine st rfl (o_y (v := .bool true) (y_b (y_k (v := .bool ((l.length : Int) == 0)) rfl rfl (fun _ => by kernel_rfl)) (beq_iff_eq.2 h2)) rfl rfl rfl ?_)
      refine s_nil ?_
      refine q_then ?_
      refine c_true rfl ?_
      refine c_seq ?_
      refine c_region ?_
      refine st rfl (o_y (v := .agg #[.int .i64 0, .slice none 0 0]) (y_k rfl rfl (fun _ => by kernel_rfl)) rfl rfl rfl ?_)
      refine st rfl (o_y (v := .string (⟨#[]⟩ : ByteArray)) (y_as rfl) rfl rfl rfl ?_)
      refine st rfl (o_st 0 rfl rfl rfl rfl rfl (by kernel_rfl) (by kernel_rfl) rfl ?_)
      refine st rfl (o_y (v := .int .i64 81) (y_as rfl) rfl rfl rfl ?_)
      refine s_nil ?_
      refine q_then ?_
      refine c_ret ?_
      refine q_then_ret ?_
      have hp : takeF max l = ((⟨#[]⟩ : ByteArray), 0, [], 81) := by first | exact takeF_no (by assumption) | exact takeF_nil (by assumption) (by omega) | exact takeF_ok (by assumption) hx1
      refine e_rdnil strTy none 0 ?_
      refine c_fin (I' := [rd strTy none 0 []]) [] [0, 1] rfl (.tmp rfl (.agg 0 2 rfl rfl rfl rfl Tryd.underlying24 rfl (by kernel_rfl) (by kernel_rfl) (.tmp rfl .nil))) rfl rfl rfl ?_
      rw [hp]
      exact ⟨_, _, rfl, rfl, rfl⟩
    ·
      refine st rfl (o_y (v := .bool false) (y_b (y_k (v := .bool ((l.length : Int) == 0)) rfl rfl (fun _ => by kernel_rfl)) (beq_eq_false_iff_ne.2 h2)) rfl rfl rfl ?_)
      refine s_nil ?_
      refine q_then ?_
      refine c_false rfl ?_
      refine c_skip ?_
      refine q_then ?_
      refine c_seq ?_
      refine c_region ?_
      refine st rfl (o_y (v := .slice none 0 0) (y_as rfl) rfl rfl rfl ?_)
      refine s_nil ?_
      refine q_then ?_
      refine c_seq ?_
      refine e_at 0 0 rfl (by first | omega | (simp only [List.length_append, List.length_map, List.length_take, List.length_drop]; omega)) (fun b3 o1 x1 hA1 hx1 => ?_)
      refine c_draw (l := ticked 15 0) [(⟨b1, 1, none⟩, .slice A l.length c), (⟨b3, o1 + 0 * 1, none⟩, .string x1), (⟨b1, 0, none⟩, .int .i64 max)] [] (by kernel_rfl) rfl rfl ?_
      refine a_y (i := 0) (v := .pointer (some ⟨b1, 1, none⟩)) (ticked 15 1) rfl (by kernel_rfl) rfl rfl rfl (by exact y_k rfl rfl (fun _ => by kernel_rfl)) ?_
      refine a_y (i := 4) (v := .pointer (some ⟨b1, 0, none⟩)) (ticked 15 17) rfl (by kernel_rfl) rfl rfl rfl (by exact y_k rfl rfl (fun _ => by kernel_rfl)) ?_
      refine a_y (i := 6) (v := .slice none 0 0) (ticked 15 81) rfl (by kernel_rfl) rfl rfl rfl (by exact y_mv rfl) ?_
      refine a_y (i := 7) (v := .pointer (some ⟨b1, 1, none⟩)) (ticked 15 209) rfl (by kernel_rfl) rfl rfl rfl (by exact y_k rfl rfl (fun _ => by kernel_rfl)) ?_
      refine a_held (i := 1) (ticked 15 211) rfl (by kernel_rfl) rfl rfl rfl (held_pt 1 rfl rfl (held_fact (j := 0) 0 rfl rfl (held_pt 1 rfl rfl held_nil))) (h_ld 0 rfl rfl Tryd.underlying22 rfl) ?_
      refine a_y (i := 2) (v := .pointer (some ⟨b3, o1 + 0 * 1, none⟩)) (ticked 15 215) rfl (by kernel_rfl) rfl rfl rfl (by exact y_at (d := strTy) (l := l) 0 hA1 rfl rfl rfl (rfl) (List.getElem?_eq_some_iff.1 hx1).1 Tryd.underlying22 (by kernel_rfl) (by kernel_rfl)) ?_
      refine a_held (i := 3) (ticked 15 223) rfl (by kernel_rfl) rfl rfl rfl (held_pt 1 rfl rfl (held_fact (j := 0) 0 rfl rfl (held_pt 1 rfl rfl held_nil))) (h_ld 1 rfl rfl Tryd.underlying9 rfl) ?_
      refine a_held (i := 5) (ticked 15 255) rfl (by kernel_rfl) rfl rfl rfl (held_pt 1 rfl rfl (held_fact (j := 0) 0 rfl rfl (held_pt 1 rfl rfl held_nil))) (h_ld 2 rfl rfl Tryd.underlying3 rfl) ?_
      refine a_held (i := 8) (ticked 15 511) rfl (by kernel_rfl) rfl rfl rfl (held_pt 1 rfl rfl (held_fact (j := 0) 0 rfl rfl (held_pt 1 rfl rfl held_nil))) (h_ld 0 rfl rfl Tryd.underlying22 rfl) ?_
      refine e_len 1 rfl (fun h3 h4 => ?_)
      refine e_cut2 (l2 := l.drop 1) 1 1 l.length c (by simp) rfl (by omega) (by omega) (by omega) ?_
      refine a_y (i := 9) (v := .slice (cutA strTy A 1 c) (l.drop 1).length (c - 1)) (ticked 15 1023) rfl (by kernel_rfl) rfl rfl rfl (by exact y_cut (d := strTy) (l := l) (l2 := l.drop 1) 1 l.length c (by simp) rfl rfl (.at 1 rfl (rfl)) .no .no (by simp) Tryd.underlying22 (by kernel_rfl) (by kernel_rfl) (by omega) (by omega) (by omega) (by omega)) ?_
      refine e_nil strTy 9 ?_
      refine a_each (rs := [10]) (by kernel_rfl) (.cons (ticked 15 2047) rfl rfl rfl (o_app (l := ([] : List ByteArray)) (us := l.drop 1) 0 rfl rfl rfl rfl rfl (src_rd 0 rfl) Tryd.underlying22 (elem_of (z := .string (⟨#[]⟩ : ByteArray)) (sz := 1) (bytes := 16) (by kernel_rfl) rfl) rfl (by have := right_len (by assumption); simp only [List.length_nil, List.length_drop]; omega) rfl rfl (fun A1 c1 => ?_)) .nil) (List.cons_ne_nil _ _)
      refine a_and (held_pt 2 rfl rfl (held_fact (j := 0) 1 rfl rfl (held_pt 2 rfl rfl held_nil))) ?_
      refine a_y (i := 11) (v := .agg #[.int .i64 max, .slice A1 (l.drop 1).length c1]) (ticked 15 4095) rfl (by kernel_rfl) rfl rfl rfl (by exact y_k rfl rfl (fun _ => by kernel_rfl)) ?_
      refine a_y (i := 12) (v := .string x1) (ticked 15 8191) rfl (by kernel_rfl) rfl rfl rfl (by exact y_as rfl) ?_
      refine a_each (rs := [13]) (by kernel_rfl) (.cons (ticked 15 16383) rfl rfl rfl (o_st 1 rfl rfl rfl rfl rfl (by kernel_rfl) (by kernel_rfl) rfl ?_) .nil) (List.cons_ne_nil _ _)
      refine a_and (held_pt 2 rfl rfl (held_fact (j := 0) 1 rfl rfl (held_pt 2 rfl rfl held_nil))) ?_
      refine a_y (i := 14) (v := .int .i64 0) (ticked 15 32767) rfl (by kernel_rfl) rfl rfl rfl (by exact y_as rfl) ?_
      refine a_done (by kernel_rfl) ?_
      refine q_then ?_
      refine c_ret ?_
      have hp : takeF max l = (x1, max, l.drop 1, 0) := by first | exact takeF_no (by assumption) | exact takeF_nil (by assumption) (by omega) | exact takeF_ok (by assumption) hx1
      refine e_still 0 rfl ?_
      refine c_fin (I' := [rd strTy A1 c1 (l.drop 1)]) [] [0, 3] rfl (.tmp rfl (.agg 0 2 rfl rfl rfl rfl Tryd.underlying24 rfl (by kernel_rfl) (by kernel_rfl) (.tmp rfl .nil))) rfl rfl rfl ?_
      rw [hp]
      exact ⟨_, _, rfl, rfl, rfl⟩
  ·
    obtain rfl : v = .bool false := by rw [hv1, decide_eq_false h1]
    refine st rfl (o_y (v := .bool true) (y_k rfl rfl (fun _ => by kernel_rfl)) rfl rfl rfl ?_)
    refine s_nil ?_
    refine q_then ?_
    refine c_true rfl ?_
    refine c_seq ?_
    refine c_region ?_
    refine st rfl (o_y (v := .agg #[.int .i64 0, .slice none 0 0]) (y_k rfl rfl (fun _ => by kernel_rfl)) rfl rfl rfl ?_)
    refine st rfl (o_y (v := .string (⟨#[]⟩ : ByteArray)) (y_as rfl) rfl rfl rfl ?_)
    refine st rfl (o_st 0 rfl rfl rfl rfl rfl (by kernel_rfl) (by kernel_rfl) rfl ?_)
    refine st rfl (o_y (v := .int .i64 2) (y_as rfl) rfl rfl rfl ?_)
    refine s_nil ?_
    refine q_then ?_
    refine c_ret ?_
    refine q_then_ret ?_
    have hp : takeF max l = ((⟨#[]⟩ : ByteArray), 0, [], 2) := by first | exact takeF_no (by assumption) | exact takeF_nil (by assumption) (by omega) | exact takeF_ok (by assumption) hx1
    refine e_rdnil strTy none 0 ?_
    refine c_fin (I' := [rd strTy none 0 []]) [] [0, 1] rfl (.tmp rfl (.agg 0 2 rfl rfl rfl rfl Tryd.underlying24 rfl (by kernel_rfl) (by kernel_rfl) (.tmp rfl .nil))) rfl rfl rfl ?_
    rw [hp]
    exact ⟨_, _, rfl, rfl, rfl⟩
end Go.Proofs.YtjcjbdhkajiaeaaDoor
