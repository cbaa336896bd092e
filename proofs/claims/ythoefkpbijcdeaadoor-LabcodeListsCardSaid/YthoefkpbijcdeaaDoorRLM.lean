/- The laws of chapter 4 (labcode), walked over the given program; no condition but what stands in each theorem: part LM. -/
import Derived.Test.YthoefkpbijcdeaaDoorRAB
set_option linter.unusedVariables false
set_option linter.unusedSimpArgs false
set_option maxRecDepth 100000
set_option maxHeartbeats 8000000
namespace Go.Proofs.YthoefkpbijcdeaaDoor
open Go Go.Sl Go.RowKit Go.Extern.Stop Go.Stop Go.Extern
theorem eq_step {α : Type} {a b : List α} {k : Nat} {x y : α} (h : a.take k = b.take k) (hx : a[k]? = some x) (hy : b[k]? = some y) (he : x = y) : a.take (k + 1) = b.take (k + 1) := by
  rw [List.take_add_one, List.take_add_one, h, hx, hy, he]
theorem eq_end {α : Type} {a b : List α} {k : Nat} (h : a.take k = b.take k) (ha : a.length ≤ k) (hb : b.length ≤ k) : a = b := by
  rwa [List.take_of_length_le ha, List.take_of_length_le hb] at h
theorem eq_not {α : Type} {a b : List α} {k : Nat} {x y : α} (hx : a[k]? = some x) (hy : b[k]? = some y) (he : ¬ x = y) : ¬ a = b := fun h => by
  rw [h, hy] at hx; exact he (Option.some.inj hx).symm
theorem eq_len {α : Type} {a b : List α} (h : ¬ (a.length : Int) = (b.length : Int)) : ¬ a = b := fun e => by subst e; exact h rfl
theorem rLabels_ (A : Option Addr) (c : Nat) (l : List Lab) (B : Option Addr) (d : Nat) (r : List Lab) (hn : l.length ≤ 100000) : Con Tryd.prog 18 [.slice A l.length c, .slice B r.length d] [] [rd labTy A c l, rd labTy B d r] (fun v L' I' => v = .bool (decide (l = r)) ∧ L' = [] ∧ I' = []) := by
  refine fn_of Tryd.func18 rfl Tryd.ntmps18 (by kernel_rfl) rfl (fun C => ?_)
  refine c_seq ?_
  refine c_region ?_
  refine st rfl (o_y (v := .bool false) (y_as rfl) rfl rfl rfl ?_)
  refine s_nil ?_
  refine q_then ?_
  refine c_seq ?_
  refine c_seq ?_
  refine c_region ?_
  refine st rfl (o_y (v := .slice A l.length c) (y_mv rfl) rfl rfl rfl ?_)
  refine st rfl (o_y (v := .int .i64 (l.length : Int)) (y_k rfl rfl (fun _ => by kernel_rfl)) rfl rfl rfl ?_)
  refine st rfl (o_y (v := .slice B r.length d) (y_mv rfl) rfl rfl rfl ?_)
  refine st rfl (o_y (v := .int .i64 (r.length : Int)) (y_k rfl rfl (fun _ => by kernel_rfl)) rfl rfl rfl ?_)
  refine e_by ((l.length : Int) = (r.length : Int)) (fun h1 => ?_) (fun h1 => ?_)
  ·
    refine st rfl (o_y (v := .bool false) (y_nt (y_k (v := .bool (!decide ((l.length : Int) = (r.length : Int)))) rfl rfl (fun _ => by kernel_rfl)) h1) rfl rfl rfl ?_)
    refine s_nil ?_
    refine q_then ?_
    refine c_false rfl ?_
    refine c_skip ?_
    refine q_then ?_
    refine c_seq ?_
    refine c_seq ?_
    refine c_region ?_
    refine st rfl (o_y (v := .int .i64 0) (y_as rfl) rfl rfl rfl ?_)
    refine s_nil ?_
    refine q_then ?_
    refine c_block ?_
    refine c_loopn (ι := Nat) (fun k => (k ≤ l.length) ∧ (l.take k = r.take k)) (fun k => [(0, .slice A l.length c), (1, .slice B r.length d), (5, .int .i64 (k : Int))]) (fun k => []) (fun k => [rd labTy A c l, rd labTy B d r]) (fun k => l.length - k) (0) [] [0, 1] (show (0 ≤ l.length) ∧ (l.take 0 = r.take 0) from ⟨by first | omega | simp_all | (simp; done), by simp⟩) ((.cons rfl rfl (.cons rfl rfl (.cons rfl rfl .nil)))) rfl rfl ?_
    rintro k ⟨hk, he⟩
    show Ent 26 C [(0, .slice A l.length c), (1, .slice B r.length d), (5, .int .i64 (k : Int))] [] [] [rd labTy A c l, rd labTy B d r] _
    refine c_seq ?_
    refine c_seq ?_
    refine c_region ?_
    refine st rfl (o_y (v := .int .i64 (k : Int)) (y_mv rfl) rfl rfl rfl ?_)
    refine st rfl (o_y (v := .slice A l.length c) (y_mv rfl) rfl rfl rfl ?_)
    refine st rfl (o_y (v := .int .i64 (l.length : Int)) (y_k rfl rfl (fun _ => by kernel_rfl)) rfl rfl rfl ?_)
    refine e_by ((k : Int) < (l.length : Int)) (fun h2 => ?_) (fun h2 => ?_)
    ·
      refine st rfl (o_y (v := .bool true) (y_t (y_k (v := .bool (decide ((k : Int) < (l.length : Int)))) rfl rfl (fun _ => by kernel_rfl)) h2) rfl rfl rfl ?_)
      refine s_nil ?_
      refine q_then ?_
      refine c_true rfl ?_
      refine c_skip ?_
      refine q_then ?_
      refine c_seq ?_
      refine c_block ?_
      refine c_seq ?_
      refine e_at 0 k rfl (by omega) (fun b1 o1 x1 hA1 hx1 => ?_)
      refine e_at 2 k rfl (by omega) (fun b2 o2 x2 hA2 hx2 => ?_)
      refine c_draw (l := ticked 9 0) [(⟨b1, o1 + k * 3, none⟩, .int .i64 x1.lv), (⟨b1, o1 + k * 3 + 1, none⟩, .int .u64 (x1.cs : Int)), (⟨b1, o1 + k * 3 + 2, none⟩, .int .i64 x1.ig), (⟨b2, o2 + k * 3, none⟩, .int .i64 x2.lv), (⟨b2, o2 + k * 3 + 1, none⟩, .int .u64 (x2.cs : Int)), (⟨b2, o2 + k * 3 + 2, none⟩, .int .i64 x2.ig)] [] (by kernel_rfl) rfl rfl ?_
      refine a_y (i := 0) (v := .slice A l.length c) (ticked 9 1) rfl (by as_aux_lemma => kernel_rfl) rfl rfl rfl (by exact y_mv rfl) ?_
      refine a_y (i := 1) (v := .int .i64 (k : Int)) (ticked 9 3) rfl (by as_aux_lemma => kernel_rfl) rfl rfl rfl (by exact y_mv rfl) ?_
      refine a_y (i := 2) (v := .pointer (some ⟨b1, o1 + k * 3, none⟩)) (ticked 9 7) rfl (by as_aux_lemma => kernel_rfl) rfl rfl rfl (by exact y_at (d := labTy) (l := l) k hA1 rfl rfl rfl (rfl) (List.getElem?_eq_some_iff.1 hx1).1 Tryd.underlying34 (by kernel_rfl) (by kernel_rfl)) ?_
      refine a_y (i := 4) (v := .slice B r.length d) (ticked 9 23) rfl (by as_aux_lemma => kernel_rfl) rfl rfl rfl (by exact y_mv rfl) ?_
      refine a_y (i := 5) (v := .int .i64 (k : Int)) (ticked 9 55) rfl (by as_aux_lemma => kernel_rfl) rfl rfl rfl (by exact y_mv rfl) ?_
      refine a_y (i := 6) (v := .pointer (some ⟨b2, o2 + k * 3, none⟩)) (ticked 9 119) rfl (by as_aux_lemma => kernel_rfl) rfl rfl rfl (by exact y_at (d := labTy) (l := r) k hA2 rfl rfl rfl (rfl) (List.getElem?_eq_some_iff.1 hx2).1 Tryd.underlying34 (by kernel_rfl) (by kernel_rfl)) ?_
      refine a_held (i := 3) (ticked 9 127) rfl (by as_aux_lemma => kernel_rfl) rfl rfl rfl (held_fact (j := 0) 1 rfl rfl (held_fact (j := 1) 1 rfl rfl (held_fact (j := 2) 1 rfl rfl (held_fact (j := 0) 0 rfl rfl (held_fact (j := 1) 0 rfl rfl (held_fact (j := 2) 0 rfl rfl held_nil)))))) (h_ldn (vs := [.int .i64 x1.lv, .int .u64 (x1.cs : Int), .int .i64 x1.ig]) 0 3 rfl rfl rfl Tryd.underlying24 rfl (by kernel_rfl) (by kernel_rfl)) ?_
      refine a_held (i := 7) (ticked 9 255) rfl (by as_aux_lemma => kernel_rfl) rfl rfl rfl (held_fact (j := 0) 1 rfl rfl (held_fact (j := 1) 1 rfl rfl (held_fact (j := 2) 1 rfl rfl (held_fact (j := 0) 0 rfl rfl (held_fact (j := 1) 0 rfl rfl (held_fact (j := 2) 0 rfl rfl held_nil)))))) (h_ldn (vs := [.int .i64 x2.lv, .int .u64 (x2.cs : Int), .int .i64 x2.ig]) 3 3 rfl rfl rfl Tryd.underlying24 rfl (by kernel_rfl) (by kernel_rfl)) ?_
      refine e_by (x1 = x2) (fun h3 => ?_) (fun h3 => ?_)
      ·
        refine a_y (i := 8) (v := .bool false) (ticked 9 511) rfl (by as_aux_lemma => kernel_rfl) rfl rfl rfl (by exact y_nt (y_bin rfl rfl (fun w => eq_Labn x1 x2 w)) h3) ?_
        refine a_done (by as_aux_lemma => kernel_rfl) ?_
        refine q_then ?_
        refine c_false rfl ?_
        refine c_skip ?_
        refine q_block ?_
        refine q_then ?_
        refine c_region ?_
        refine st rfl (o_y (v := .int .i64 (k : Int)) (y_mv rfl) rfl rfl rfl ?_)
        refine st rfl (o_y (v := .int .i64 ((k : Int) + 1)) (y_add (r := (k : Int) + 1) rfl rfl rfl (by omega)) rfl rfl rfl ?_)
        refine st rfl (o_y (v := .int .i64 ((k : Int) + 1)) (y_as rfl) rfl rfl rfl ?_)
        refine s_nil ?_
        refine q_then ?_
        refine c_next [] [2, 3] (k + 1) ?_ ?_ ?_ (by rfl) (by rfl)
        · exact (show ((k + 1) ≤ l.length) ∧ (l.take (k + 1) = r.take (k + 1)) from ⟨by first | omega | simp_all | (simp; done), eq_step he hx1 hx2 (by assumption)⟩)
        · show l.length - (k + 1) < l.length - k; omega
        · exact (.cons rfl rfl (.cons rfl rfl (.cons rfl (show (.int .i64 ((k : Int) + 1) : Value) = .int .i64 ((k + 1) : Int) from by first | rfl | (congr 1; omega) | (congr 1; simp; done) | (congr 1; simp; omega)) .nil)))
      ·
        refine a_y (i := 8) (v := .bool true) (ticked 9 511) rfl (by as_aux_lemma => kernel_rfl) rfl rfl rfl (by exact y_nf (y_bin rfl rfl (fun w => eq_Labn x1 x2 w)) h3) ?_
        refine a_done (by as_aux_lemma => kernel_rfl) ?_
        refine q_then ?_
        refine c_true rfl ?_
        refine c_seq ?_
        refine c_region ?_
        refine st rfl (o_y (v := .bool false) (y_as rfl) rfl rfl rfl ?_)
        refine s_nil ?_
        refine q_then ?_
        refine c_ret ?_
        refine q_block_ret ?_
        refine q_then_ret ?_
        refine q_then_ret ?_
        refine q_block_ret ?_
        refine q_then_ret ?_
        refine c_fin (I' := []) [] [2, 3] rfl (.tmp rfl .nil) rfl rfl rfl ?_
        exact ⟨by show Value.bool _ = Value.bool _; congr 1; symm; first | exact decide_eq_true (by first | exact eq_end he (by omega) (by omega) | exact eq_not hx1 hx2 (by assumption) | exact eq_len (by assumption)) | exact decide_eq_false (by first | exact eq_end he (by omega) (by omega) | exact eq_not hx1 hx2 (by assumption) | exact eq_len (by assumption)), rfl, rfl⟩
    ·
      refine st rfl (o_y (v := .bool false) (y_f (y_k (v := .bool (decide ((k : Int) < (l.length : Int)))) rfl rfl (fun _ => by kernel_rfl)) h2) rfl rfl rfl ?_)
      refine s_nil ?_
      refine q_then ?_
      refine c_false rfl ?_
      refine c_exit ?_
      refine q_then_exit ?_
      refine q_then_exit ?_
      refine q_block_here ?_
      refine q_then ?_
      refine c_seq ?_
      refine c_region ?_
      refine st rfl (o_y (v := .bool true) (y_as rfl) rfl rfl rfl ?_)
      refine s_nil ?_
      refine q_then ?_
      refine c_ret ?_
      refine c_fin (I' := []) [] [0, 1] rfl (.tmp rfl .nil) rfl rfl rfl ?_
      exact ⟨by show Value.bool _ = Value.bool _; congr 1; symm; first | exact decide_eq_true (by first | exact eq_end he (by omega) (by omega) | exact eq_not hx1 hx2 (by assumption) | exact eq_len (by assumption)) | exact decide_eq_false (by first | exact eq_end he (by omega) (by omega) | exact eq_not hx1 hx2 (by assumption) | exact eq_len (by assumption)), rfl, rfl⟩
  ·
    refine st rfl (o_y (v := .bool true) (y_nf (y_k (v := .bool (!decide ((l.length : Int) = (r.length : Int)))) rfl rfl (fun _ => by kernel_rfl)) h1) rfl rfl rfl ?_)
    refine s_nil ?_
    refine q_then ?_
    refine c_true rfl ?_
    refine c_seq ?_
    refine c_region ?_
    refine st rfl (o_y (v := .bool false) (y_as rfl) rfl rfl rfl ?_)
    refine s_nil ?_
    refine q_then ?_
    refine c_ret ?_
    refine q_then_ret ?_
    refine c_fin (I' := []) [] [0, 1] rfl (.tmp rfl .nil) rfl rfl rfl ?_
    exact ⟨by show Value.bool _ = Value.bool _; congr 1; symm; first | exact decide_eq_true (by first | exact eq_end he (by omega) (by omega) | exact eq_not hx1 hx2 (by assumption) | exact eq_len (by assumption)) | exact decide_eq_false (by first | exact eq_end he (by omega) (by omega) | exact eq_not hx1 hx2 (by assumption) | exact eq_len (by assumption)), rfl, rfl⟩
end Go.Proofs.YthoefkpbijcdeaaDoor
