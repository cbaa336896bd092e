/- The laws of chapter 15 (journal), walked over the given program; no condition but what stands in each theorem: part JF. -/
import Derived.Test.YthehnjbdkjnlpaaDoorRJA
import Derived.Test.YthehnjbdkjnlpaaDoorRJC
set_option linter.unusedVariables false
set_option linter.unusedSimpArgs false
set_option maxRecDepth 100000
set_option maxHeartbeats 8000000
namespace Go.Proofs.YthehnjbdkjnlpaaDoor
open Go Go.Sl Go.RowKit Go.Extern.Stop Go.Stop Go.Extern
theorem must_t_ (k : Int) : Con Tryd.prog 26 [.bool true, .int .i64 k] [] [] (fun v L' I' => v = .nilIface ∧ L' = [] ∧ I' = []) := by
 refine fn_of Tryd.func26 rfl Tryd.ntmps26 (by kernel_rfl) rfl (fun C => ?_)
 refine c_seq (c_region ?_)
 refine s_y rfl (v := .nilIface) (y_as rfl) rfl ?_
 refine s_nil (q_then (c_seq (c_seq (c_region ?_))))
 refine s_y rfl (v := .bool true) (y_mv rfl) rfl ?_
 refine s_y rfl (v := .bool false) (y_k rfl rfl (fun _ => by kernel_rfl)) rfl ?_
 refine s_nil (q_then (c_false rfl (c_skip (q_then (c_seq (c_region ?_))))))
 refine s_y rfl (v := .nilIface) (y_as rfl) rfl ?_
 refine s_nil (q_then (c_ret ?_))
 refine c_fin (I' := []) [] [] rfl (.tmp rfl .nil) rfl rfl rfl ?_
 exact ⟨rfl, rfl, rfl⟩
theorem must_f_ (k : Int) : Con Tryd.prog 26 [.bool false, .int .i64 k] [] [] (fun v L' I' => v = .iface 59 (.agg #[.int .i64 k, .nilIface]) ∧ L' = [] ∧ I' = []) := by
 refine fn_of Tryd.func26 rfl Tryd.ntmps26 (by kernel_rfl) rfl (fun C => ?_)
 refine c_seq (c_region ?_)
 refine s_y rfl (v := .nilIface) (y_as rfl) rfl ?_
 refine s_nil (q_then (c_seq (c_seq (c_region ?_))))
 refine s_y rfl (v := .bool false) (y_mv rfl) rfl ?_
 refine s_y rfl (v := .bool true) (y_k rfl rfl (fun _ => by kernel_rfl)) rfl ?_
 refine s_nil (q_then (c_true rfl (c_seq (c_region ?_))))
 refine s_y rfl (v := .int .i64 k) (y_mv rfl) rfl ?_
 refine s_y rfl (v := .agg #[.int .i64 k, .nilIface]) (y_k rfl rfl (fun _ => by kernel_rfl)) rfl ?_
 refine s_y rfl (v := .iface 59 (.agg #[.int .i64 k, .nilIface])) (y_k rfl rfl (fun _ => by kernel_rfl)) rfl ?_
 refine s_y rfl (v := .iface 59 (.agg #[.int .i64 k, .nilIface])) (y_as rfl) rfl ?_
 refine s_nil (q_then (c_ret (q_then_ret ?_)))
 refine c_fin (I' := []) [] [] rfl (.tmp rfl .nil) rfl rfl rfl ?_
 exact ⟨rfl, rfl, rfl⟩
theorem jlast_ (b : Nat) (A : Option Addr) (c : Nat) (l : List Jen) (X : Value) (Y : Value) (hn : l.length ≤ 1000) : Con Tryd.prog 30 [.pointer (some ⟨b, 0, none⟩)] [pt b [.slice A l.length c, X, Y] 68] [rd entTy A c l] (fun v L' I' => v = .int .i64 (lastSt l) ∧ L' = [pt b [.slice A l.length c, X, Y] 68] ∧ I' = []) := by
 refine fn_of Tryd.func30 rfl Tryd.ntmps30 (by kernel_rfl) rfl (fun C => ?_)
 refine c_seq (c_region ?_)
 refine s_y rfl (v := .int .i64 0) (y_as rfl) rfl ?_
 refine s_nil (q_then (c_seq (c_seq (c_region ?_))))
 refine s_y rfl (v := .pointer (some ⟨b, 0, none⟩)) (y_mv rfl) rfl ?_
 refine s_y rfl (v := .pointer (some ⟨b, 0, none⟩)) (y_k rfl rfl (fun _ => by kernel_rfl)) rfl ?_
 refine s_y rfl (v := .pointer (some ⟨b, 0, none⟩)) (y_k rfl rfl (fun _ => by kernel_rfl)) rfl ?_
 refine st rfl (o_ld 0 rfl rfl rfl Tryd.underlying23 rfl rfl ?_)
 refine s_y rfl (v := .int .i64 (l.length : Int)) (y_k rfl rfl (fun _ => by kernel_rfl)) rfl ?_
 refine e_by ((l.length : Int) = 0) (fun h1 => ?_) (fun h1 => ?_)
 ·
  refine s_y rfl (v := .bool true) (y_t (y_k (v := .bool (decide ((l.length : Int) = 0))) rfl rfl (fun _ => by kernel_rfl)) h1) rfl ?_
  refine s_nil (q_then (c_true rfl (c_seq (c_region ?_))))
  refine s_y rfl (v := .int .i64 0) (y_as rfl) rfl ?_
  refine s_nil (q_then (c_ret (q_then_ret ?_)))
  refine c_fin (I' := []) [0] [0] rfl (.tmp rfl .nil) rfl rfl rfl ?_
  exact ⟨by simp only [packed]; first | rw [last_nil (by assumption)] | rw [last_end hx1], rfl, rfl⟩
 ·
  refine s_y rfl (v := .bool false) (y_f (y_k (v := .bool (decide ((l.length : Int) = 0))) rfl rfl (fun _ => by kernel_rfl)) h1) rfl ?_
  refine s_nil (q_then (c_false rfl (c_skip (q_then (c_seq ?_)))))
  refine e_at 0 (((l.length : Int) - 1).toNat) rfl (by omega) (fun b1 o1 x1 hA1 hx1 => ?_)
  refine c_draw (l := ticked 14 0) [(⟨b, 0, none⟩, .slice A l.length c), (⟨b1, o1 + (((l.length : Int) - 1).toNat) * 6, none⟩, .int .i64 x1.st)] [] (by kernel_rfl) rfl rfl ?_
  refine b_y (i := 0) (v := .pointer (some ⟨b, 0, none⟩)) (ticked 14 1) rfl rfl (by exact y_mv rfl) ?_
  refine b_y (i := 1) (v := .pointer (some ⟨b, 0, none⟩)) (ticked 14 3) rfl rfl (by exact y_k rfl rfl (fun _ => by kernel_rfl)) ?_
  refine b_y (i := 2) (v := .pointer (some ⟨b, 0, none⟩)) (ticked 14 7) rfl rfl (by exact y_k rfl rfl (fun _ => by kernel_rfl)) ?_
  refine b_y (i := 4) (v := .pointer (some ⟨b, 0, none⟩)) (ticked 14 23) rfl rfl (by exact y_mv rfl) ?_
  refine b_y (i := 5) (v := .pointer (some ⟨b, 0, none⟩)) (ticked 14 55) rfl rfl (by exact y_k rfl rfl (fun _ => by kernel_rfl)) ?_
  refine b_y (i := 6) (v := .pointer (some ⟨b, 0, none⟩)) (ticked 14 119) rfl rfl (by exact y_k rfl rfl (fun _ => by kernel_rfl)) ?_
  refine a_held (i := 3) (ticked 14 127) rfl (by as_aux_lemma => kernel_rfl) rfl rfl rfl (held_pt 0 rfl rfl (held_fact (j := 0) 0 rfl rfl held_nil)) (h_ld 0 rfl rfl Tryd.underlying23 rfl) ?_
  refine a_held (i := 7) (ticked 14 255) rfl (by as_aux_lemma => kernel_rfl) rfl rfl rfl (held_pt 0 rfl rfl (held_fact (j := 0) 0 rfl rfl held_nil)) (h_ld 0 rfl rfl Tryd.underlying23 rfl) ?_
  refine b_y (i := 8) (v := .int .i64 (l.length : Int)) (ticked 14 511) rfl rfl (by exact y_k rfl rfl (fun _ => by kernel_rfl)) ?_
  refine b_y (i := 9) (v := .int .i64 ((l.length : Int) - 1)) (ticked 14 1023) rfl rfl (by exact y_sub (r := (l.length : Int) - 1) rfl rfl rfl (by omega)) ?_
  refine b_y (i := 10) (v := .pointer (some ⟨b1, o1 + (((l.length : Int) - 1).toNat) * 6, none⟩)) (ticked 14 2047) rfl rfl (by exact y_at (d := entTy) (l := l) (((l.length : Int) - 1).toNat) hA1 rfl rfl rfl (by omega) (List.getElem?_eq_some_iff.1 hx1).1 Tryd.underlying23 (by kernel_rfl) (by kernel_rfl)) ?_
  refine b_y (i := 11) (v := .pointer (some ⟨b1, o1 + (((l.length : Int) - 1).toNat) * 6, none⟩)) (ticked 14 4095) rfl rfl (by exact y_k rfl rfl (fun _ => by kernel_rfl)) ?_
  refine a_held (i := 12) (ticked 14 8191) rfl (by as_aux_lemma => kernel_rfl) rfl rfl rfl (held_pt 0 rfl rfl (held_fact (j := 0) 0 rfl rfl held_nil)) (h_ld 1 rfl rfl Tryd.underlying3 rfl) ?_
  refine b_y (i := 13) (v := .int .i64 x1.st) (ticked 14 16383) rfl rfl (by exact y_as rfl) ?_
  refine a_done (by as_aux_lemma => kernel_rfl) ?_
  refine q_then (c_ret ?_)
  refine c_fin (I' := []) [0] [1] rfl (.tmp rfl .nil) rfl rfl rfl ?_
  exact ⟨by simp only [packed]; first | rw [last_nil (by assumption)] | rw [last_end hx1], rfl, rfl⟩
theorem rel2_ (k1 : Nat) (k2 : Nat) (k3 : Nat) (b : Nat) (stp : Int) (A : Option Addr) (c : Nat) (l : List Jen) (X : Value) (Y : Value) (hn : l.length ≤ 1000) : Con Tryd.prog 28 [.pointer (some ⟨k1, 0, none⟩), .pointer (some ⟨k2, 0, none⟩), .pointer (some ⟨k3, 0, none⟩)] [pt k1 [.func (.func 26) #[] #[]] 60, pt k2 [.int .i64 stp] 3, pt k3 [.pointer (some ⟨b, 0, none⟩)] 54, pt b [.slice A l.length c, X, Y] 68] [rd entTy A c l] (fun v L' I' => ((lastSt l < stp ∧ 1 ≤ stp ∧ stp ≤ 400) ∧ v = .nilIface ∧ L' = [pt k1 [.func (.func 26) #[] #[]] 60, pt k2 [.int .i64 stp] 3, pt k3 [.pointer (some ⟨b, 0, none⟩)] 54, pt b [.slice A l.length c, X, Y] 68] ∧ I' = []) ∨ ((¬ (lastSt l < stp ∧ 1 ≤ stp ∧ stp ≤ 400)) ∧ v = .iface 59 (.agg #[.int .i64 152, .nilIface]) ∧ L' = [pt k1 [.func (.func 26) #[] #[]] 60, pt k2 [.int .i64 stp] 3, pt k3 [.pointer (some ⟨b, 0, none⟩)] 54, pt b [.slice A l.length c, X, Y] 68] ∧ I' = [])) := by
 refine fn_of Tryd.func28 rfl Tryd.ntmps28 (by kernel_rfl) rfl (fun C => ?_)
 refine c_seq (c_region ?_)
 refine s_y rfl (v := .nilIface) (y_as rfl) rfl ?_
 refine s_nil (q_then (c_seq ?_))
 refine c_draw (l := ticked 9 0) [(⟨k1, 0, none⟩, .func (.func 26) #[] #[]), (⟨k2, 0, none⟩, .int .i64 stp), (⟨k3, 0, none⟩, .pointer (some ⟨b, 0, none⟩))] [] (by kernel_rfl) rfl rfl ?_
 refine a_held (i := 0) (ticked 9 1) rfl (by as_aux_lemma => kernel_rfl) rfl rfl rfl (held_pt 0 rfl rfl (held_pt 1 rfl rfl (held_pt 2 rfl rfl held_nil))) (h_ld 0 rfl rfl Tryd.underlying60 rfl) ?_
 refine a_held (i := 1) (ticked 9 3) rfl (by as_aux_lemma => kernel_rfl) rfl rfl rfl (held_pt 0 rfl rfl (held_pt 1 rfl rfl (held_pt 2 rfl rfl held_nil))) (h_ld 1 rfl rfl Tryd.underlying3 rfl) ?_
 refine a_held (i := 2) (ticked 9 7) rfl (by as_aux_lemma => kernel_rfl) rfl rfl rfl (held_pt 0 rfl rfl (held_pt 1 rfl rfl (held_pt 2 rfl rfl held_nil))) (h_ld 2 rfl rfl Tryd.underlying54 rfl) ?_
 refine b_y (i := 3) (v := .pointer (some ⟨b, 0, none⟩)) (ticked 9 15) rfl rfl (by exact y_k rfl rfl (fun _ => by kernel_rfl)) ?_
 refine b_y (i := 4) (v := .pointer (some ⟨b, 0, none⟩)) (ticked 9 31) rfl rfl (by exact y_k rfl rfl (fun _ => by kernel_rfl)) ?_
 refine a_each (rs := [5]) (by as_aux_lemma => kernel_rfl) (.cons (ticked 9 63) rfl rfl rfl (o_call [3] [0] (jlast_ b A c l X Y (by first | omega | (simp; done) | (simp; omega) | assumption)) rfl rfl rfl rfl rfl rfl (fun v L' I' hq1 => ?_)) .nil) (List.cons_ne_nil _ _)
 obtain ⟨rfl, rfl, rfl⟩ := hq1
 refine a_and (held_pt 1 rfl rfl (held_pt 2 rfl rfl (held_pt 3 rfl rfl held_nil))) ?_
 refine a_each (rs := [6]) (by as_aux_lemma => kernel_rfl) (.cons (ticked 9 127) rfl rfl rfl (o_call [] [] (isNext_ stp (lastSt l)) rfl rfl rfl rfl rfl rfl (fun v L' I' hq2 => ?_)) .nil) (List.cons_ne_nil _ _)
 obtain ⟨hv1, rfl, rfl⟩ := hq2
 refine e_by ((lastSt l) < stp ∧ 1 ≤ stp ∧ stp ≤ 400) (fun h1 => ?_) (fun h1 => ?_)
 ·
  obtain rfl : v = .bool true := by rw [hv1, decide_eq_true h1]
  refine a_and (held_pt 1 rfl rfl (held_pt 2 rfl rfl (held_pt 3 rfl rfl held_nil))) ?_
  refine a_each (rs := [7]) (by as_aux_lemma => kernel_rfl) (.cons (ticked 9 255) rfl rfl rfl (o_call [] [] (must_t_ (152 : Int)) rfl rfl rfl rfl rfl rfl (fun v L' I' hq3 => ?_)) .nil) (List.cons_ne_nil _ _)
  obtain ⟨rfl, rfl, rfl⟩ := hq3
  refine a_and (held_pt 1 rfl rfl (held_pt 2 rfl rfl (held_pt 3 rfl rfl held_nil))) ?_
  refine b_y (i := 8) (v := .nilIface) (ticked 9 511) rfl rfl (by exact y_as rfl) ?_
  refine a_done (by as_aux_lemma => kernel_rfl) ?_
  refine q_then (c_ret ?_)
  refine c_fin (I' := []) [1, 1, 1, 0] [0] rfl (.tmp rfl .nil) rfl rfl rfl ?_
  exact .inl ⟨by first | omega | simp_all, rfl, rfl, rfl⟩
 ·
  obtain rfl : v = .bool false := by rw [hv1, decide_eq_false h1]
  refine a_and (held_pt 1 rfl rfl (held_pt 2 rfl rfl (held_pt 3 rfl rfl held_nil))) ?_
  refine a_each (rs := [7]) (by as_aux_lemma => kernel_rfl) (.cons (ticked 9 255) rfl rfl rfl (o_call [] [] (must_f_ (152 : Int)) rfl rfl rfl rfl rfl rfl (fun v L' I' hq4 => ?_)) .nil) (List.cons_ne_nil _ _)
  obtain ⟨rfl, rfl, rfl⟩ := hq4
  refine a_and (held_pt 1 rfl rfl (held_pt 2 rfl rfl (held_pt 3 rfl rfl held_nil))) ?_
  refine b_y (i := 8) (v := .iface 59 (.agg #[.int .i64 (152 : Int), .nilIface])) (ticked 9 511) rfl rfl (by exact y_as rfl) ?_
  refine a_done (by as_aux_lemma => kernel_rfl) ?_
  refine q_then (c_ret ?_)
  refine c_fin (I' := []) [1, 1, 1, 0] [0] rfl (.tmp rfl .nil) rfl rfl rfl ?_
  exact .inr ⟨by first | omega | simp_all, rfl, rfl, rfl⟩
theorem rel3_t_ (k1 : Nat) (k2 : Nat) : Con Tryd.prog 31 [.pointer (some ⟨k1, 0, none⟩), .pointer (some ⟨k2, 0, none⟩)] [pt k1 [.func (.func 26) #[] #[]] 60, pt k2 [.bool true] 4] [] (fun v L' I' => v = .nilIface ∧ L' = [pt k1 [.func (.func 26) #[] #[]] 60, pt k2 [.bool true] 4] ∧ I' = []) := by
 refine fn_of Tryd.func31 rfl Tryd.ntmps31 (by kernel_rfl) rfl (fun C => ?_)
 refine c_seq (c_region ?_)
 refine s_y rfl (v := .nilIface) (y_as rfl) rfl ?_
 refine s_nil (q_then (c_seq (c_region ?_)))
 refine st rfl (o_ld 0 rfl rfl rfl Tryd.underlying60 rfl rfl ?_)
 refine st rfl (o_ld 1 rfl rfl rfl Tryd.underlying4 rfl rfl ?_)
 refine st rfl (o_call [] [] (must_t_ (140 : Int)) rfl rfl rfl rfl rfl rfl (fun v L' I' hq1 => ?_))
 obtain ⟨rfl, rfl, rfl⟩ := hq1
 refine s_y rfl (v := .nilIface) (y_as rfl) rfl ?_
 refine s_nil (q_then (c_ret ?_))
 refine c_fin (I' := []) [0, 0] [] rfl (.tmp rfl .nil) rfl rfl rfl ?_
 exact ⟨rfl, rfl, rfl⟩
theorem rel3_f_ (k1 : Nat) (k2 : Nat) : Con Tryd.prog 31 [.pointer (some ⟨k1, 0, none⟩), .pointer (some ⟨k2, 0, none⟩)] [pt k1 [.func (.func 26) #[] #[]] 60, pt k2 [.bool false] 4] [] (fun v L' I' => v = .iface 59 (.agg #[.int .i64 140, .nilIface]) ∧ L' = [pt k1 [.func (.func 26) #[] #[]] 60, pt k2 [.bool false] 4] ∧ I' = []) := by
 refine fn_of Tryd.func31 rfl Tryd.ntmps31 (by kernel_rfl) rfl (fun C => ?_)
 refine c_seq (c_region ?_)
 refine s_y rfl (v := .nilIface) (y_as rfl) rfl ?_
 refine s_nil (q_then (c_seq (c_region ?_)))
 refine st rfl (o_ld 0 rfl rfl rfl Tryd.underlying60 rfl rfl ?_)
 refine st rfl (o_ld 1 rfl rfl rfl Tryd.underlying4 rfl rfl ?_)
 refine st rfl (o_call [] [] (must_f_ (140 : Int)) rfl rfl rfl rfl rfl rfl (fun v L' I' hq1 => ?_))
 obtain ⟨rfl, rfl, rfl⟩ := hq1
 refine s_y rfl (v := .iface 59 (.agg #[.int .i64 (140 : Int), .nilIface])) (y_as rfl) rfl ?_
 refine s_nil (q_then (c_ret ?_))
 refine c_fin (I' := []) [0, 0] [] rfl (.tmp rfl .nil) rfl rfl rfl ?_
 exact ⟨rfl, rfl, rfl⟩
theorem rel4_ (k1 : Nat) (k2 : Nat) (k3 : Nat) (r : Rul) (a : Lab) : Con Tryd.prog 32 [.pointer (some ⟨k1, 0, none⟩), .pointer (some ⟨k2, 0, none⟩), .pointer (some ⟨k3, 0, none⟩)] [pt k1 [.func (.func 26) #[] #[]] 60, pt k2 [.int .i64 r.id, .int .i64 r.fr.lv, .int .u64 (r.fr.cs : Int), .int .i64 r.fr.ig, .int .i64 r.to.lv, .int .u64 (r.to.cs : Int), .int .i64 r.to.ig, .int .i64 r.bu, .int .i64 r.wh.kd, .int .i64 r.wh.mx, .string r.wh.fm] 41, pt k3 [.int .i64 a.lv, .int .u64 (a.cs : Int), .int .i64 a.ig] 26] [] (fun v L' I' => ((r.fr = a) ∧ v = .nilIface ∧ L' = [pt k1 [.func (.func 26) #[] #[]] 60, pt k2 [.int .i64 r.id, .int .i64 r.fr.lv, .int .u64 (r.fr.cs : Int), .int .i64 r.fr.ig, .int .i64 r.to.lv, .int .u64 (r.to.cs : Int), .int .i64 r.to.ig, .int .i64 r.bu, .int .i64 r.wh.kd, .int .i64 r.wh.mx, .string r.wh.fm] 41, pt k3 [.int .i64 a.lv, .int .u64 (a.cs : Int), .int .i64 a.ig] 26] ∧ I' = []) ∨ ((¬ (r.fr = a)) ∧ v = .iface 59 (.agg #[.int .i64 150, .nilIface]) ∧ L' = [pt k1 [.func (.func 26) #[] #[]] 60, pt k2 [.int .i64 r.id, .int .i64 r.fr.lv, .int .u64 (r.fr.cs : Int), .int .i64 r.fr.ig, .int .i64 r.to.lv, .int .u64 (r.to.cs : Int), .int .i64 r.to.ig, .int .i64 r.bu, .int .i64 r.wh.kd, .int .i64 r.wh.mx, .string r.wh.fm] 41, pt k3 [.int .i64 a.lv, .int .u64 (a.cs : Int), .int .i64 a.ig] 26] ∧ I' = [])) := by
 refine fn_of Tryd.func32 rfl Tryd.ntmps32 (by kernel_rfl) rfl (fun C => ?_)
 refine c_seq (c_region ?_)
 refine s_y rfl (v := .nilIface) (y_as rfl) rfl ?_
 refine s_nil (q_then (c_seq ?_))
 refine c_draw (l := ticked 7 0) [(⟨k1, 0, none⟩, .func (.func 26) #[] #[]), (⟨k2, 1, none⟩, .int .i64 r.fr.lv), (⟨k2, 2, none⟩, .int .u64 (r.fr.cs : Int)), (⟨k2, 3, none⟩, .int .i64 r.fr.ig), (⟨k3, 0, none⟩, .int .i64 a.lv), (⟨k3, 1, none⟩, .int .u64 (a.cs : Int)), (⟨k3, 2, none⟩, .int .i64 a.ig)] [] (by kernel_rfl) rfl rfl ?_
 refine b_y (i := 1) (v := .pointer (some ⟨k2, 1, none⟩)) (ticked 7 2) rfl rfl (by exact y_k rfl rfl (fun _ => by kernel_rfl)) ?_
 refine a_held (i := 0) (ticked 7 3) rfl (by as_aux_lemma => kernel_rfl) rfl rfl rfl (held_pt 0 rfl rfl (held_pt 1 rfl rfl (held_pt 1 rfl rfl (held_pt 1 rfl rfl (held_pt 2 rfl rfl (held_pt 2 rfl rfl (held_pt 2 rfl rfl held_nil))))))) (h_ld 0 rfl rfl Tryd.underlying60 rfl) ?_
 refine a_held (i := 2) (ticked 7 7) rfl (by as_aux_lemma => kernel_rfl) rfl rfl rfl (held_pt 0 rfl rfl (held_pt 1 rfl rfl (held_pt 1 rfl rfl (held_pt 1 rfl rfl (held_pt 2 rfl rfl (held_pt 2 rfl rfl (held_pt 2 rfl rfl held_nil))))))) (h_ldn (vs := [.int .i64 r.fr.lv, .int .u64 (r.fr.cs : Int), .int .i64 r.fr.ig]) 1 3 rfl rfl rfl Tryd.underlying26 rfl (by kernel_rfl) (by kernel_rfl)) ?_
 refine a_held (i := 3) (ticked 7 15) rfl (by as_aux_lemma => kernel_rfl) rfl rfl rfl (held_pt 0 rfl rfl (held_pt 1 rfl rfl (held_pt 1 rfl rfl (held_pt 1 rfl rfl (held_pt 2 rfl rfl (held_pt 2 rfl rfl (held_pt 2 rfl rfl held_nil))))))) (h_ldn (vs := [.int .i64 a.lv, .int .u64 (a.cs : Int), .int .i64 a.ig]) 4 3 rfl rfl rfl Tryd.underlying26 rfl (by kernel_rfl) (by kernel_rfl)) ?_
 refine e_by (r.fr = a) (fun h1 => ?_) (fun h1 => ?_)
 ·
  refine b_y (i := 4) (v := .bool true) (ticked 7 31) rfl rfl (by exact y_t (y_bin rfl rfl (fun w => eq_Lab r.fr a w)) h1) ?_
  refine a_each (rs := [5]) (by as_aux_lemma => kernel_rfl) (.cons (ticked 7 63) rfl rfl rfl (o_call [] [] (must_t_ (150 : Int)) rfl rfl rfl rfl rfl rfl (fun v L' I' hq1 => ?_)) .nil) (List.cons_ne_nil _ _)
  obtain ⟨rfl, rfl, rfl⟩ := hq1
  refine a_and (held_pt 0 rfl rfl (held_pt 1 rfl rfl (held_pt 1 rfl rfl (held_pt 1 rfl rfl (held_pt 2 rfl rfl (held_pt 2 rfl rfl (held_pt 2 rfl rfl held_nil))))))) ?_
  refine b_y (i := 6) (v := .nilIface) (ticked 7 127) rfl rfl (by exact y_as rfl) ?_
  refine a_done (by as_aux_lemma => kernel_rfl) ?_
  refine q_then (c_ret ?_)
  refine c_fin (I' := []) [0, 0, 0] [] rfl (.tmp rfl .nil) rfl rfl rfl ?_
  exact .inl ⟨h1, rfl, rfl, rfl⟩
 ·
  refine b_y (i := 4) (v := .bool false) (ticked 7 31) rfl rfl (by exact y_f (y_bin rfl rfl (fun w => eq_Lab r.fr a w)) h1) ?_
  refine a_each (rs := [5]) (by as_aux_lemma => kernel_rfl) (.cons (ticked 7 63) rfl rfl rfl (o_call [] [] (must_f_ (150 : Int)) rfl rfl rfl rfl rfl rfl (fun v L' I' hq2 => ?_)) .nil) (List.cons_ne_nil _ _)
  obtain ⟨rfl, rfl, rfl⟩ := hq2
  refine a_and (held_pt 0 rfl rfl (held_pt 1 rfl rfl (held_pt 1 rfl rfl (held_pt 1 rfl rfl (held_pt 2 rfl rfl (held_pt 2 rfl rfl (held_pt 2 rfl rfl held_nil))))))) ?_
  refine b_y (i := 6) (v := .iface 59 (.agg #[.int .i64 (150 : Int), .nilIface])) (ticked 7 127) rfl rfl (by exact y_as rfl) ?_
  refine a_done (by as_aux_lemma => kernel_rfl) ?_
  refine q_then (c_ret ?_)
  refine c_fin (I' := []) [0, 0, 0] [] rfl (.tmp rfl .nil) rfl rfl rfl ?_
  exact .inr ⟨h1, rfl, rfl, rfl⟩
theorem rel5_ (k1 : Nat) (k2 : Nat) (k3 : Nat) (b : Nat) (m : Nat) (f : Int → Int) (X : Value) (Y : Value) (r : Rul) (da : ByteArray) (ef : Addr) (es : Addr) (hfb : 0 ≤ f r.id ∧ f r.id ≤ 1000000000) (hrs : rulSm r) (hd_ : da.size ≤ 100000) : Con Tryd.prog 33 [.pointer (some ⟨k1, 0, none⟩), .pointer (some ⟨k2, 0, none⟩), .pointer (some ⟨k3, 0, none⟩)] [pt k1 [.pointer (some ⟨b, 0, none⟩)] 54, pt k2 [.int .i64 r.id, .int .i64 r.fr.lv, .int .u64 (r.fr.cs : Int), .int .i64 r.fr.ig, .int .i64 r.to.lv, .int .u64 (r.to.cs : Int), .int .i64 r.to.ig, .int .i64 r.bu, .int .i64 r.wh.kd, .int .i64 r.wh.mx, .string r.wh.fm] 41, pt k3 [.string da] 9, pt b [X, Y, .map (some m)] 68, mpi m f] [cellsAt 2 0 [.iface 154 (.pointer (some ef))], errAt ef, cellsAt 0 0 [.iface 154 (.pointer (some es))], errAt es, cellsAt 1 0 [.iface 121 (.agg #[.pointer (some ⟨4, 57, none⟩)])]] (fun v L' I' => ((¬ (passP r.wh da)) ∧ v = .iface 59 (.agg #[.int .i64 130, .nilIface]) ∧ L' = [pt k1 [.pointer (some ⟨b, 0, none⟩)] 54, pt k2 [.int .i64 r.id, .int .i64 r.fr.lv, .int .u64 (r.fr.cs : Int), .int .i64 r.fr.ig, .int .i64 r.to.lv, .int .u64 (r.to.cs : Int), .int .i64 r.to.ig, .int .i64 r.bu, .int .i64 r.wh.kd, .int .i64 r.wh.mx, .string r.wh.fm] 41, pt k3 [.string da] 9, pt b [X, Y, .map (some m)] 68, mpi m f] ∧ I' = []) ∨ ((passP r.wh da) ∧ (¬ (f r.id + (da.size : Int) ≤ r.bu)) ∧ v = .iface 59 (.agg #[.int .i64 151, .iface 154 (.pointer (some es))]) ∧ L' = [pt k1 [.pointer (some ⟨b, 0, none⟩)] 54, pt k2 [.int .i64 r.id, .int .i64 r.fr.lv, .int .u64 (r.fr.cs : Int), .int .i64 r.fr.ig, .int .i64 r.to.lv, .int .u64 (r.to.cs : Int), .int .i64 r.to.ig, .int .i64 r.bu, .int .i64 r.wh.kd, .int .i64 r.wh.mx, .string r.wh.fm] 41, pt k3 [.string da] 9, pt b [X, Y, .map (some m)] 68, mpi m (fun j => if j = r.id then (f r.id) + (da.size : Int) else f j)] ∧ I' = []) ∨ ((passP r.wh da) ∧ (f r.id + (da.size : Int) ≤ r.bu) ∧ v = .nilIface ∧ L' = [pt k1 [.pointer (some ⟨b, 0, none⟩)] 54, pt k2 [.int .i64 r.id, .int .i64 r.fr.lv, .int .u64 (r.fr.cs : Int), .int .i64 r.fr.ig, .int .i64 r.to.lv, .int .u64 (r.to.cs : Int), .int .i64 r.to.ig, .int .i64 r.bu, .int .i64 r.wh.kd, .int .i64 r.wh.mx, .string r.wh.fm] 41, pt k3 [.string da] 9, pt b [X, Y, .map (some m)] 68, mpi m (fun j => if j = r.id then (f r.id) + (da.size : Int) else f j)] ∧ I' = [])) := by
 refine fn_of Tryd.func33 rfl Tryd.ntmps33 (by kernel_rfl) rfl (fun C => ?_)
 refine c_seq (c_region ?_)
 refine s_y rfl (v := .nilIface) (y_as rfl) rfl ?_
 refine s_nil (q_then (c_seq (c_region ?_)))
 refine st rfl (o_ld 0 rfl rfl rfl Tryd.underlying54 rfl rfl ?_)
 refine st rfl (o_ldn 1 11 rfl rfl rfl rfl Tryd.underlying41 rfl (by kernel_rfl) (by kernel_rfl) rfl ?_)
 refine st rfl (o_ld 2 rfl rfl rfl Tryd.underlying9 rfl rfl ?_)
 refine st rfl (o_call [3, 3] [0, 1, 2, 3, 4] (jpass_ b m f X Y r da ef es (by assumption) (by assumption) (by first | omega | assumption)) rfl rfl rfl rfl rfl rfl (fun v L' I' hq1 => ?_))
 rcases hq1 with ⟨h1, rfl, rfl, rfl⟩ | ⟨h2, h3, rfl, rfl, rfl⟩ | ⟨h4, h5, rfl, rfl, rfl⟩
 ·
  refine s_y rfl (v := .iface 59 (.agg #[.int .i64 130, .nilIface])) (y_as rfl) rfl ?_
  refine s_nil (q_then (c_ret ?_))
  refine c_fin (I' := []) [2, 2, 2, 0, 0] [0, 1, 2, 3, 4] rfl (.tmp rfl .nil) rfl rfl rfl ?_
  exact .inl ⟨by assumption, rfl, rfl, rfl⟩
 ·
  refine s_y rfl (v := .iface 59 (.agg #[.int .i64 151, .iface 154 (.pointer (some es))])) (y_as rfl) rfl ?_
  refine s_nil (q_then (c_ret ?_))
  refine c_fin (I' := []) [2, 2, 2, 0, 0] [0, 1, 2, 3, 4] rfl (.tmp rfl .nil) rfl rfl rfl ?_
  exact .inr (.inl ⟨by assumption, by assumption, rfl, rfl, rfl⟩)
 ·
  refine s_y rfl (v := .nilIface) (y_as rfl) rfl ?_
  refine s_nil (q_then (c_ret ?_))
  refine c_fin (I' := []) [2, 2, 2, 0, 0] [0, 1, 2, 3, 4] rfl (.tmp rfl .nil) rfl rfl rfl ?_
  exact .inr (.inr ⟨by assumption, by assumption, rfl, rfl, rfl⟩)
theorem jadd_ (A : Option Addr) (c : Nat) (l : List Jen) (b : Nat) (X : Value) (Y : Value) (B : Option Addr) (d : Nat) (r : List Jen) (hp : 0 < r.length) (hn : l.length ≤ 1000) (hrn : r.length ≤ 1000) : Con Tryd.prog 36 [.pointer (some ⟨b, 0, none⟩), .slice B r.length d] [pt b [.slice A l.length c, X, Y] 68] [rd entTy A c l, rd entTy B d r] (fun v L' I' => ∃ A1 : Option Addr, ∃ c1 : Nat, v = .tuple #[] ∧ L' = [pt b [.slice A1 (l ++ r).length c1, X, Y] 68, ars entTy 46 A1 c1 (l ++ r)] ∧ I' = []) := by
 refine fn_of Tryd.func36 rfl Tryd.ntmps36 (by kernel_rfl) rfl (fun C => ?_)
 refine c_draw (l := ticked 21 0) [(⟨b, 0, none⟩, .slice A l.length c)] [20] (by kernel_rfl) rfl rfl ?_
 refine b_y (i := 0) (v := .pointer (some ⟨b, 0, none⟩)) (ticked 21 1) rfl rfl (by exact y_mv rfl) ?_
 refine b_y (i := 1) (v := .pointer (some ⟨b, 0, none⟩)) (ticked 21 3) rfl rfl (by exact y_mv rfl) ?_
 refine b_y (i := 2) (v := .pointer (some ⟨b, 0, none⟩)) (ticked 21 7) rfl rfl (by exact y_k rfl rfl (fun _ => by kernel_rfl)) ?_
 refine b_y (i := 3) (v := .pointer (some ⟨b, 0, none⟩)) (ticked 21 15) rfl rfl (by exact y_k rfl rfl (fun _ => by kernel_rfl)) ?_
 refine b_y (i := 5) (v := .pointer (some ⟨b, 0, none⟩)) (ticked 21 47) rfl rfl (by exact y_mv rfl) ?_
 refine b_y (i := 6) (v := .pointer (some ⟨b, 0, none⟩)) (ticked 21 111) rfl rfl (by exact y_k rfl rfl (fun _ => by kernel_rfl)) ?_
 refine b_y (i := 7) (v := .pointer (some ⟨b, 0, none⟩)) (ticked 21 239) rfl rfl (by exact y_k rfl rfl (fun _ => by kernel_rfl)) ?_
 refine b_y (i := 10) (v := .pointer (some ⟨b, 0, none⟩)) (ticked 21 1263) rfl rfl (by exact y_mv rfl) ?_
 refine b_y (i := 11) (v := .pointer (some ⟨b, 0, none⟩)) (ticked 21 3311) rfl rfl (by exact y_k rfl rfl (fun _ => by kernel_rfl)) ?_
 refine b_y (i := 12) (v := .pointer (some ⟨b, 0, none⟩)) (ticked 21 7407) rfl rfl (by exact y_k rfl rfl (fun _ => by kernel_rfl)) ?_
 refine b_y (i := 16) (v := .slice B r.length d) (ticked 21 72943) rfl rfl (by exact y_mv rfl) ?_
 refine a_held (i := 4) (ticked 21 72959) rfl (by as_aux_lemma => kernel_rfl) rfl rfl rfl (held_pt 0 rfl rfl held_nil) (h_ld 0 rfl rfl Tryd.underlying23 rfl) ?_
 refine a_held (i := 8) (ticked 21 73215) rfl (by as_aux_lemma => kernel_rfl) rfl rfl rfl (held_pt 0 rfl rfl held_nil) (h_ld 0 rfl rfl Tryd.underlying23 rfl) ?_
 refine b_y (i := 9) (v := .int .i64 (l.length : Int)) (ticked 21 73727) rfl rfl (by exact y_k rfl rfl (fun _ => by kernel_rfl)) ?_
 refine a_held (i := 13) (ticked 21 81919) rfl (by as_aux_lemma => kernel_rfl) rfl rfl rfl (held_pt 0 rfl rfl held_nil) (h_ld 0 rfl rfl Tryd.underlying23 rfl) ?_
 refine b_y (i := 14) (v := .int .i64 (l.length : Int)) (ticked 21 98303) rfl rfl (by exact y_k rfl rfl (fun _ => by kernel_rfl)) ?_
 refine e_len 0 rfl (fun h1 h2 => ?_)
 refine e_cut2 (l2 := l) 0 0 l.length l.length (by simp) rfl (by omega) (by omega) (by omega) ?_
 refine b_y (i := 15) (v := .slice (cutA entTy A 0 l.length) l.length (l.length - 0)) (ticked 21 131071) rfl rfl (by exact y_cut (d := entTy) (l := l) (l2 := l) 0 l.length l.length (by simp) rfl rfl .no (.at l.length rfl (rfl)) (.at l.length rfl (rfl)) (by simp) Tryd.underlying23 (by kernel_rfl) (by kernel_rfl) (by omega) (by omega) (by omega) (by omega)) ?_
 refine a_each (rs := [17]) (by as_aux_lemma => kernel_rfl) (.cons (ticked 21 262143) rfl rfl rfl (o_appfull (d := entTy) (l := l) (us := r) rfl rfl rfl (by first | rfl | omega) rfl (src_rd 0 rfl) (src_rd 2 rfl) (by assumption) Tryd.underlying23 (elem_of (z := .agg #[.int .i64 0, .int .i64 0, .int .i64 0, .int .u64 0, .int .i64 0, .string (⟨#[]⟩ : ByteArray)]) (sz := 6) (bytes := 56) (by kernel_rfl) rfl) (by first | omega | (simp only [List.take_length, List.drop_zero]; omega)) rfl rfl (fun A1 c1 => ?_)) .nil) (List.cons_ne_nil _ _)
 refine a_and (held_pt 1 rfl rfl held_nil) ?_
 refine b_y (i := 18) (v := .pointer (some ⟨b, 0, none⟩)) (ticked 21 524287) rfl rfl (by exact y_k rfl rfl (fun _ => by kernel_rfl)) ?_
 refine b_y (i := 19) (v := .pointer (some ⟨b, 0, none⟩)) (ticked 21 1048575) rfl rfl (by exact y_k rfl rfl (fun _ => by kernel_rfl)) ?_
 refine a_each (rs := [20]) (by as_aux_lemma => kernel_rfl) (.last (ticked 21 2097151) rfl rfl rfl rfl (o_st 1 rfl rfl rfl rfl rfl (by kernel_rfl) (by kernel_rfl) rfl ?_) .nil) (List.cons_ne_nil _ _)
 refine a_done (by as_aux_lemma => kernel_rfl) ?_
 refine c_fin_end (I' := []) [1, 0] [1, 2] rfl .nil rfl rfl rfl ?_
 exact ⟨A1, c1, rfl, rfl, rfl⟩
end Go.Proofs.YthehnjbdkjnlpaaDoor
