/- The six laws of chapter 18 (audit), walked over the given program; no condition but what stands in each theorem: part S. -/
import Derived.Test.YtdfgedkjilpcgaaDoorRNf
set_option linter.unusedVariables false
set_option linter.unusedSimpArgs false
set_option maxRecDepth 100000
set_option maxHeartbeats 8000000
namespace Go.Proofs.YtdfgedkjilpcgaaDoor
open Go Go.Sl Go.RowKit Go.Extern.Stop Go.Stop Go.Extern Go.Shelf
theorem AuditTen_ (n : Int) (a : Lab) (el : Addr) (ha : a.cs < 18446744073709551616) : Con Tryd.prog 7 [.int .i64 n, .agg #[.int .i64 a.lv, .int .u64 (a.cs : Int), .int .i64 a.ig]] [] [cellsAt 0 0 [.iface 106 (.pointer (some el))], errAt el] (fun v L' I' => v = .bool true ∧ L' = [] ∧ I' = []) := by
  refine fn_of Tryd.func7 rfl Tryd.ntmps7 (by kernel_rfl) rfl (fun C => ?_)
  refine c_seq ?_
  refine c_region ?_
  refine st rfl (o_box (cs := [.int .i64 a.lv, .int .u64 (a.cs : Int), .int .i64 a.ig]) (T := 26) rfl rfl rfl rfl (fun _ => by kernel_rfl) (fun b1 => ?_))
  refine st rfl (o_y (v := .bool false) (y_as rfl) rfl rfl rfl ?_)
  refine s_nil ?_
  refine q_then ?_
  refine c_seq ?_
  refine c_region ?_
  refine st rfl (o_call [] [0, 1] (shown_ el) rfl rfl rfl rfl rfl rfl (fun v L' I' hq1 => ?_))
  obtain ⟨rfl, rfl, rfl⟩ := hq1
  refine st rfl (o_y (v := .bool true) (y_as rfl) rfl rfl rfl ?_)
  refine s_nil ?_
  refine q_then ?_
  refine c_seq ?_
  refine c_seq ?_
  refine c_region ?_
  refine st rfl (o_y (v := .int .i64 n) (y_mv rfl) rfl rfl rfl ?_)
  refine e_by (n < 0) (fun h1 => ?_) (fun h1 => ?_)
  ·
    refine st rfl (o_y (v := .bool true) (y_t (y_k (v := .bool (decide (n < 0))) rfl rfl (fun _ => by kernel_rfl)) h1) rfl rfl rfl ?_)
    refine st rfl (o_y (v := .bool true) (y_mv rfl) rfl rfl rfl ?_)
    refine st_off 15 rfl rfl rfl rfl rfl rfl ?_
    refine st_off 15 rfl rfl rfl rfl rfl rfl ?_
    refine st rfl (o_y (v := .bool true) (y_pick rfl rfl) rfl rfl rfl ?_)
    refine st rfl (o_y (v := .bool true) (y_mv rfl) rfl rfl rfl ?_)
    refine st_off 19 rfl rfl rfl rfl rfl rfl ?_
    refine st_off 19 rfl rfl rfl rfl rfl rfl ?_
    refine st_off 19 rfl rfl rfl rfl rfl rfl ?_
    refine st rfl (o_y (v := .bool true) (y_pick rfl rfl) rfl rfl rfl ?_)
    refine s_nil ?_
    refine q_then ?_
    refine c_true rfl ?_
    refine c_seq ?_
    refine c_region ?_
    refine st rfl (o_y (v := .bool true) (y_mv rfl) rfl rfl rfl ?_)
    refine st rfl (o_y (v := .bool true) (y_as rfl) rfl rfl rfl ?_)
    refine s_nil ?_
    refine q_then ?_
    refine c_ret ?_
    refine q_then_ret ?_
    refine c_fin (I' := []) [] [0, 1] rfl (.tmp rfl .nil) rfl rfl rfl ?_
    exact ⟨rfl, rfl, rfl⟩
  ·
    refine st rfl (o_y (v := .bool false) (y_f (y_k (v := .bool (decide (n < 0))) rfl rfl (fun _ => by kernel_rfl)) h1) rfl rfl rfl ?_)
    refine st rfl (o_y (v := .bool false) (y_mv rfl) rfl rfl rfl ?_)
    refine st_on 15 rfl rfl rfl (o_y (v := .int .i64 n) (y_mv rfl) rfl rfl rfl ?_)
    refine e_by (n > 60) (fun h2 => ?_) (fun h2 => ?_)
    ·
      refine st_on 15 rfl rfl rfl (o_y (v := .bool true) (y_t (y_k (v := .bool (decide (n > 60))) rfl rfl (fun _ => by kernel_rfl)) h2) rfl rfl rfl ?_)
      refine st rfl (o_y (v := .bool true) (y_pick rfl rfl) rfl rfl rfl ?_)
      refine st rfl (o_y (v := .bool true) (y_mv rfl) rfl rfl rfl ?_)
      refine st_off 19 rfl rfl rfl rfl rfl rfl ?_
      refine st_off 19 rfl rfl rfl rfl rfl rfl ?_
      refine st_off 19 rfl rfl rfl rfl rfl rfl ?_
      refine st rfl (o_y (v := .bool true) (y_pick rfl rfl) rfl rfl rfl ?_)
      refine s_nil ?_
      refine q_then ?_
      refine c_true rfl ?_
      refine c_seq ?_
      refine c_region ?_
      refine st rfl (o_y (v := .bool true) (y_mv rfl) rfl rfl rfl ?_)
      refine st rfl (o_y (v := .bool true) (y_as rfl) rfl rfl rfl ?_)
      refine s_nil ?_
      refine q_then ?_
      refine c_ret ?_
      refine q_then_ret ?_
      refine c_fin (I' := []) [] [0, 1] rfl (.tmp rfl .nil) rfl rfl rfl ?_
      exact ⟨rfl, rfl, rfl⟩
    ·
      refine st_on 15 rfl rfl rfl (o_y (v := .bool false) (y_f (y_k (v := .bool (decide (n > 60))) rfl rfl (fun _ => by kernel_rfl)) h2) rfl rfl rfl ?_)
      refine st rfl (o_y (v := .bool false) (y_pick rfl rfl) rfl rfl rfl ?_)
      refine st rfl (o_y (v := .bool false) (y_mv rfl) rfl rfl rfl ?_)
      refine st_on 19 rfl rfl rfl (o_ldn 0 3 rfl rfl rfl rfl Tryd.underlying26 rfl (by kernel_rfl) (by kernel_rfl) rfl ?_)
      refine st_on 19 rfl rfl rfl (o_call [] [] (labRight_ a) rfl rfl rfl rfl rfl rfl (fun v L' I' hq2 => ?_))
      obtain ⟨hv1, rfl, rfl⟩ := hq2
      refine e_by (labRight a) (fun h3 => ?_) (fun h3 => ?_)
      ·
        obtain rfl : v = .bool true := by rw [hv1, decide_eq_true h3]
        refine st_on 19 rfl rfl rfl (o_y (v := .bool false) (y_k rfl rfl (fun _ => by kernel_rfl)) rfl rfl rfl ?_)
        refine st rfl (o_y (v := .bool false) (y_pick rfl rfl) rfl rfl rfl ?_)
        refine s_nil ?_
        refine q_then ?_
        refine c_false rfl ?_
        refine c_skip ?_
        refine q_then ?_
        refine c_seq ?_
        refine c_region ?_
        refine st rfl (o_y (v := .slice none 0 0) (y_as rfl) rfl rfl rfl ?_)
        refine s_nil ?_
        refine q_then ?_
        refine c_seq ?_
        refine c_seq ?_
        refine c_region ?_
        refine st rfl (o_y (v := .int .i64 0) (y_as rfl) rfl rfl rfl ?_)
        refine s_nil ?_
        refine q_then ?_
        refine c_block ?_
        refine e_rdnil recTy none 0 ?_
        refine c_loopn (ι := Nat × (List Rec) × (Option Addr) × Nat) (fun (k, q, Aq, cq) => ((k : Int) ≤ n) ∧ (q = tenL a k) ∧ (q.length = k) ∧ (∀ y ∈ q, recSm y)) (fun (k, q, Aq, cq) => [(0, .int .i64 n), (3, .pointer (some ⟨b1, 0, none⟩)), (5, .bool true), (6, .slice Aq q.length cq), (7, .int .i64 (k : Int))]) (fun (k, q, Aq, cq) => [pt b1 [.int .i64 a.lv, .int .u64 (a.cs : Int), .int .i64 a.ig] 26]) (fun (k, q, Aq, cq) => [rd recTy Aq cq q, cellsAt 0 0 [.iface 106 (.pointer (some el))], errAt el]) (fun (k, q, Aq, cq) => n.toNat - k) (0, ([] : List Rec), none, 0) [0] [0, 1, 2] (show ((0 : Int) ≤ n) ∧ (([] : List Rec) = tenL a 0) ∧ (([] : List Rec).length = 0) ∧ (∀ y ∈ ([] : List Rec), recSm y) from ⟨by first | omega | simp_all | (simp; done), rfl, rfl, by intro y hy; cases hy⟩) ((.cons rfl rfl (.cons rfl rfl (.cons rfl rfl (.cons rfl (show (.slice none 0 0 : Value) = .slice none ([] : List Rec).length 0 from by first | rfl | (congr 1; omega) | (congr 1; simp; done) | (congr 1; simp; omega)) (.cons rfl rfl .nil)))))) rfl rfl ?_
        rintro ⟨k, q, Aq, cq⟩ ⟨hk, hq, hql, hqm⟩
        show Ent 80 C [(0, .int .i64 n), (3, .pointer (some ⟨b1, 0, none⟩)), (5, .bool true), (6, .slice Aq q.length cq), (7, .int .i64 (k : Int))] [] [pt b1 [.int .i64 a.lv, .int .u64 (a.cs : Int), .int .i64 a.ig] 26] [rd recTy Aq cq q, cellsAt 0 0 [.iface 106 (.pointer (some el))], errAt el] _
        refine c_seq ?_
        refine c_seq ?_
        refine c_region ?_
        refine st rfl (o_y (v := .int .i64 (k : Int)) (y_mv rfl) rfl rfl rfl ?_)
        refine st rfl (o_y (v := .int .i64 n) (y_mv rfl) rfl rfl rfl ?_)
        refine e_by ((k : Int) < n) (fun h4 => ?_) (fun h4 => ?_)
        ·
          refine st rfl (o_y (v := .bool true) (y_t (y_k (v := .bool (decide ((k : Int) < n))) rfl rfl (fun _ => by kernel_rfl)) h4) rfl rfl rfl ?_)
          refine s_nil ?_
          refine q_then ?_
          refine c_true rfl ?_
          refine c_skip ?_
          refine q_then ?_
          refine c_seq ?_
          refine c_block ?_
          refine c_seq ?_
          refine c_region ?_
          refine st rfl (o_y (v := .slice Aq q.length cq) (y_mv rfl) rfl rfl rfl ?_)
          refine st rfl (o_y (v := .int .i64 (k : Int)) (y_mv rfl) rfl rfl rfl ?_)
          refine st rfl (o_y (v := .int .i64 ((k : Int) + 1)) (y_add (r := (k : Int) + 1) rfl rfl rfl (by have h0 := ten_shown_len a k; have h1 := tenL_len a k; rw [← hq] at h0 h1; omega)) rfl rfl rfl ?_)
          refine st rfl (o_ldn 0 3 rfl rfl rfl rfl Tryd.underlying26 rfl (by kernel_rfl) (by kernel_rfl) rfl ?_)
          refine st rfl (o_y (v := .agg #[.int .i64 ((k : Int) + 1), .int .i64 0, .int .i64 1, .int .i64 0, .int .i64 a.lv, .int .u64 (a.cs : Int), .int .i64 a.ig]) (y_k rfl rfl (fun _ => by kernel_rfl)) rfl rfl rfl ?_)
          refine st rfl (o_call [] [0, 1, 2] (Append_ Aq cq q (⟨(k : Int) + 1, 0, 1, 0, a⟩ : Rec) el (by first | assumption | omega | (simp; done) | (simp; omega))) rfl rfl rfl rfl rfl rfl (fun v L' I' hq3 => ?_))
          obtain ⟨A1, c1, rfl, rfl, rfl⟩ := hq3
          refine st rfl (o_y (v := .tuple #[.slice A1 ((appF q (⟨(k : Int) + 1, 0, 1, 0, a⟩ : Rec)).1).length c1, .int .i64 ((appF q (⟨(k : Int) + 1, 0, 1, 0, a⟩ : Rec)).2)]) (y_mv rfl) rfl rfl rfl ?_)
          refine st rfl (o_y (v := .slice A1 ((appF q (⟨(k : Int) + 1, 0, 1, 0, a⟩ : Rec)).1).length c1) (y_k rfl rfl (fun _ => by kernel_rfl)) rfl rfl rfl ?_)
          refine st rfl (o_y (v := .int .i64 ((appF q (⟨(k : Int) + 1, 0, 1, 0, a⟩ : Rec)).2)) (y_k rfl rfl (fun _ => by kernel_rfl)) rfl rfl rfl ?_)
          refine st rfl (o_y (v := .slice A1 ((appF q (⟨(k : Int) + 1, 0, 1, 0, a⟩ : Rec)).1).length c1) (y_as rfl) rfl rfl rfl ?_)
          refine st rfl (o_y (v := .int .i64 ((appF q (⟨(k : Int) + 1, 0, 1, 0, a⟩ : Rec)).2)) (y_as rfl) rfl rfl rfl ?_)
          refine s_nil ?_
          refine q_then ?_
          refine c_seq ?_
          refine c_seq ?_
          refine c_region ?_
          refine st rfl (o_y (v := .int .i64 ((appF q (⟨(k : Int) + 1, 0, 1, 0, a⟩ : Rec)).2)) (y_mv rfl) rfl rfl rfl ?_)
          have h5 : (appF q (⟨(k : Int) + 1, 0, 1, 0, a⟩ : Rec)).2 = 0 := by rw [hq, ten_app (by assumption) (by omega)]
          refine st rfl (o_y (v := .bool false) (y_b (y_k (v := .bool (((appF q (⟨(k : Int) + 1, 0, 1, 0, a⟩ : Rec)).2) != 0)) rfl rfl (fun _ => by kernel_rfl)) (bne_eq_false_iff_eq.2 h5)) rfl rfl rfl ?_)
          refine s_nil ?_
          refine q_then ?_
          refine c_false rfl ?_
          refine c_skip ?_
          refine q_then ?_
          refine c_region ?_
          refine st rfl (o_y (v := .slice A1 ((appF q (⟨(k : Int) + 1, 0, 1, 0, a⟩ : Rec)).1).length c1) (y_mv rfl) rfl rfl rfl ?_)
          refine st rfl (o_y (v := .slice A1 ((appF q (⟨(k : Int) + 1, 0, 1, 0, a⟩ : Rec)).1).length c1) (y_as rfl) rfl rfl rfl ?_)
          refine s_nil ?_
          refine q_block ?_
          refine q_then ?_
          refine c_region ?_
          refine st rfl (o_y (v := .int .i64 (k : Int)) (y_mv rfl) rfl rfl rfl ?_)
          refine st rfl (o_y (v := .int .i64 ((k : Int) + 1)) (y_add (r := (k : Int) + 1) rfl rfl rfl (by have h0 := ten_shown_len a k; have h1 := tenL_len a k; rw [← hq] at h0 h1; omega)) rfl rfl rfl ?_)
          refine st rfl (o_y (v := .int .i64 ((k : Int) + 1)) (y_as rfl) rfl rfl rfl ?_)
          refine s_nil ?_
          refine q_then ?_
          refine c_next [0] [0, 2, 3] (k + 1, (appF q (⟨(k : Int) + 1, 0, 1, 0, a⟩ : Rec)).1, A1, c1) ?_ ?_ ?_ (by rfl) (by rfl)
          · exact (show (((k + 1) : Int) ≤ n) ∧ (((appF q (⟨(k : Int) + 1, 0, 1, 0, a⟩ : Rec)).1) = tenL a (k + 1)) ∧ (((appF q (⟨(k : Int) + 1, 0, 1, 0, a⟩ : Rec)).1).length = (k + 1)) ∧ (∀ y ∈ ((appF q (⟨(k : Int) + 1, 0, 1, 0, a⟩ : Rec)).1), recSm y) from ⟨by first | omega | simp_all | (simp; done), by rw [hq, ten_app (by assumption) (by omega)], by rw [hq, ten_app (by assumption) (by omega)]; exact tenL_len _ _, by rw [hq, ten_app (by assumption) (by omega)]; exact ten_sm ha (by omega)⟩)
          · show n.toNat - (k + 1) < n.toNat - k; omega
          · exact (.cons rfl rfl (.cons rfl rfl (.cons rfl rfl (.cons rfl rfl (.cons rfl (show (.int .i64 ((k : Int) + 1) : Value) = .int .i64 ((k + 1) : Int) from by first | rfl | (congr 1; omega) | (congr 1; simp; done) | (congr 1; simp; omega)) .nil)))))
        ·
          refine st rfl (o_y (v := .bool false) (y_f (y_k (v := .bool (decide ((k : Int) < n))) rfl rfl (fun _ => by kernel_rfl)) h4) rfl rfl rfl ?_)
          refine s_nil ?_
          refine q_then ?_
          refine c_false rfl ?_
          refine c_exit ?_
          refine q_then_exit ?_
          refine q_then_exit ?_
          refine q_block_here ?_
          refine q_then ?_
          refine c_seq ?_
          refine c_region ?_
          refine st rfl (o_y (v := .slice Aq q.length cq) (y_mv rfl) rfl rfl rfl ?_)
          refine st rfl (o_ldn 0 3 rfl rfl rfl rfl Tryd.underlying26 rfl (by kernel_rfl) (by kernel_rfl) rfl ?_)
          refine st rfl (o_call [] [0] (Shown_ Aq cq q a (by first | assumption | omega | (simp; done) | (simp; omega)) (by assumption)) rfl rfl rfl rfl rfl rfl (fun v L' I' hq4 => ?_))
          obtain ⟨A2, c2, rfl, rfl, rfl⟩ := hq4
          refine st rfl (o_y (v := .slice A2 (shownF q a).length c2) (y_as rfl) rfl rfl rfl ?_)
          refine s_nil ?_
          refine q_then ?_
          refine c_seq ?_
          refine c_seq ?_
          refine c_region ?_
          refine st rfl (o_y (v := .slice A2 (shownF q a).length c2) (y_mv rfl) rfl rfl rfl ?_)
          refine st rfl (o_y (v := .int .i64 ((shownF q a).length : Int)) (y_k rfl rfl (fun _ => by kernel_rfl)) rfl rfl rfl ?_)
          refine st rfl (o_y (v := .int .i64 n) (y_mv rfl) rfl rfl rfl ?_)
          refine st rfl (o_y (v := .int .i64 (min n 10)) (y_mini (p := n) (q := 10) rfl rfl) rfl rfl rfl ?_)
          have h6 : ((shownF q a).length : Int) = min n 10 := by rw [hq, ten_shown_len]; omega
          refine st rfl (o_y (v := .bool false) (y_b (y_k (v := .bool (((shownF q a).length : Int) != (min n 10))) rfl rfl (fun _ => by kernel_rfl)) (bne_eq_false_iff_eq.2 h6)) rfl rfl rfl ?_)
          refine s_nil ?_
          refine q_then ?_
          refine c_false rfl ?_
          refine c_skip ?_
          refine q_then ?_
          refine c_seq ?_
          refine c_seq ?_
          refine c_region ?_
          refine st rfl (o_y (v := .int .i64 0) (y_as rfl) rfl rfl rfl ?_)
          refine s_nil ?_
          refine q_then ?_
          refine c_block ?_
          refine c_loopn (ι := Nat) (fun i => (i ≤ (shownF q a).length)) (fun i => [(0, .int .i64 n), (5, .bool true), (6, .slice Aq q.length cq), (10, .slice A2 (shownF q a).length c2), (11, .int .i64 (i : Int))]) (fun i => [pt b1 [.int .i64 a.lv, .int .u64 (a.cs : Int), .int .i64 a.ig] 26]) (fun i => [rd strTy A2 c2 (shownF q a), rd recTy Aq cq q, cellsAt 0 0 [.iface 106 (.pointer (some el))], errAt el]) (fun i => (shownF q a).length - i) (0) [0] [0, 1, 2, 3] (show 0 ≤ (shownF q a).length from by first | omega | simp_all | (simp; done)) ((.cons rfl rfl (.cons rfl rfl (.cons rfl rfl (.cons rfl rfl (.cons rfl rfl .nil)))))) rfl rfl ?_
          rintro i hi
          show Ent 80 C [(0, .int .i64 n), (5, .bool true), (6, .slice Aq q.length cq), (10, .slice A2 (shownF q a).length c2), (11, .int .i64 (i : Int))] [] [pt b1 [.int .i64 a.lv, .int .u64 (a.cs : Int), .int .i64 a.ig] 26] [rd strTy A2 c2 (shownF q a), rd recTy Aq cq q, cellsAt 0 0 [.iface 106 (.pointer (some el))], errAt el] _
          refine c_seq ?_
          refine c_seq ?_
          refine c_region ?_
          refine st rfl (o_y (v := .int .i64 (i : Int)) (y_mv rfl) rfl rfl rfl ?_)
          refine st rfl (o_y (v := .slice A2 (shownF q a).length c2) (y_mv rfl) rfl rfl rfl ?_)
          refine st rfl (o_y (v := .int .i64 ((shownF q a).length : Int)) (y_k rfl rfl (fun _ => by kernel_rfl)) rfl rfl rfl ?_)
          refine e_by ((i : Int) < ((shownF q a).length : Int)) (fun h7 => ?_) (fun h7 => ?_)
          ·
            refine st rfl (o_y (v := .bool true) (y_t (y_k (v := .bool (decide ((i : Int) < ((shownF q a).length : Int)))) rfl rfl (fun _ => by kernel_rfl)) h7) rfl rfl rfl ?_)
            refine s_nil ?_
            refine q_then ?_
            refine c_true rfl ?_
            refine c_skip ?_
            refine q_then ?_
            refine c_seq ?_
            refine c_block ?_
            refine c_seq ?_
            refine e_at 0 i rfl (by first | omega | (simp only [List.length_append, List.length_map, List.length_take, List.length_drop]; omega)) (fun b2 o1 x1 hA1 hx1 => ?_)
            refine e_at 2 (((n - ((shownF q a).length : Int)) + (i : Int)).toNat) rfl (by first | omega | (simp only [List.length_append, List.length_map, List.length_take, List.length_drop]; omega)) (fun b3 o2 x2 hA2 hx2 => ?_)
            refine c_draw (l := ticked 15 0) [(⟨b2, o1 + i * 1, none⟩, .string x1), (⟨b3, o2 + (((n - ((shownF q a).length : Int)) + (i : Int)).toNat) * 7, none⟩, .int .i64 x2.st), (⟨b3, o2 + (((n - ((shownF q a).length : Int)) + (i : Int)).toNat) * 7 + 1, none⟩, .int .i64 x2.who), (⟨b3, o2 + (((n - ((shownF q a).length : Int)) + (i : Int)).toNat) * 7 + 2, none⟩, .int .i64 x2.op), (⟨b3, o2 + (((n - ((shownF q a).length : Int)) + (i : Int)).toNat) * 7 + 3, none⟩, .int .i64 x2.e), (⟨b3, o2 + (((n - ((shownF q a).length : Int)) + (i : Int)).toNat) * 7 + 4, none⟩, .int .i64 x2.lab.lv), (⟨b3, o2 + (((n - ((shownF q a).length : Int)) + (i : Int)).toNat) * 7 + 5, none⟩, .int .u64 (x2.lab.cs : Int)), (⟨b3, o2 + (((n - ((shownF q a).length : Int)) + (i : Int)).toNat) * 7 + 6, none⟩, .int .i64 x2.lab.ig)] [] (by kernel_rfl) rfl rfl ?_
            refine a_y (i := 0) (v := .slice A2 (shownF q a).length c2) (ticked 15 1) rfl (by as_aux_lemma => kernel_rfl) rfl rfl rfl (by exact y_mv rfl) ?_
            refine a_y (i := 1) (v := .int .i64 (i : Int)) (ticked 15 3) rfl (by as_aux_lemma => kernel_rfl) rfl rfl rfl (by exact y_mv rfl) ?_
            refine a_y (i := 2) (v := .pointer (some ⟨b2, o1 + i * 1, none⟩)) (ticked 15 7) rfl (by as_aux_lemma => kernel_rfl) rfl rfl rfl (by exact y_at (d := strTy) (l := shownF q a) i hA1 rfl rfl rfl (rfl) (List.getElem?_eq_some_iff.1 hx1).1 Tryd.underlying35 (by kernel_rfl) (by kernel_rfl)) ?_
            refine a_y (i := 4) (v := .slice Aq q.length cq) (ticked 15 23) rfl (by as_aux_lemma => kernel_rfl) rfl rfl rfl (by exact y_mv rfl) ?_
            refine a_y (i := 5) (v := .int .i64 n) (ticked 15 55) rfl (by as_aux_lemma => kernel_rfl) rfl rfl rfl (by exact y_mv rfl) ?_
            refine a_y (i := 6) (v := .slice A2 (shownF q a).length c2) (ticked 15 119) rfl (by as_aux_lemma => kernel_rfl) rfl rfl rfl (by exact y_mv rfl) ?_
            refine a_y (i := 7) (v := .int .i64 ((shownF q a).length : Int)) (ticked 15 247) rfl (by as_aux_lemma => kernel_rfl) rfl rfl rfl (by exact y_k rfl rfl (fun _ => by kernel_rfl)) ?_
            refine a_y (i := 8) (v := .int .i64 (n - ((shownF q a).length : Int))) (ticked 15 503) rfl (by as_aux_lemma => kernel_rfl) rfl rfl rfl (by exact y_sub (r := n - ((shownF q a).length : Int)) rfl rfl rfl (by have h0 := ten_shown_len a k; have h1 := tenL_len a k; rw [← hq] at h0 h1; omega)) ?_
            refine a_y (i := 9) (v := .int .i64 (i : Int)) (ticked 15 1015) rfl (by as_aux_lemma => kernel_rfl) rfl rfl rfl (by exact y_mv rfl) ?_
            refine a_y (i := 10) (v := .int .i64 ((n - ((shownF q a).length : Int)) + (i : Int))) (ticked 15 2039) rfl (by as_aux_lemma => kernel_rfl) rfl rfl rfl (by exact y_add (r := (n - ((shownF q a).length : Int)) + (i : Int)) rfl rfl rfl (by have h0 := ten_shown_len a k; have h1 := tenL_len a k; rw [← hq] at h0 h1; omega)) ?_
            refine a_y (i := 11) (v := .pointer (some ⟨b3, o2 + (((n - ((shownF q a).length : Int)) + (i : Int)).toNat) * 7, none⟩)) (ticked 15 4087) rfl (by as_aux_lemma => kernel_rfl) rfl rfl rfl (by exact y_at (d := recTy) (l := q) (((n - ((shownF q a).length : Int)) + (i : Int)).toNat) hA2 rfl rfl rfl (by omega) (List.getElem?_eq_some_iff.1 hx2).1 Tryd.underlying22 (by kernel_rfl) (by kernel_rfl)) ?_
            refine a_held (i := 3) (ticked 15 4095) rfl (by as_aux_lemma => kernel_rfl) rfl rfl rfl (held_fact (j := 0) 1 rfl rfl (held_fact (j := 0) 0 rfl rfl (held_fact (j := 1) 0 rfl rfl (held_fact (j := 2) 0 rfl rfl (held_fact (j := 3) 0 rfl rfl (held_fact (j := 4) 0 rfl rfl (held_fact (j := 5) 0 rfl rfl (held_fact (j := 6) 0 rfl rfl held_nil)))))))) (h_ld 0 rfl rfl Tryd.underlying9 rfl) ?_
            refine a_held (i := 12) (ticked 15 8191) rfl (by as_aux_lemma => kernel_rfl) rfl rfl rfl (held_fact (j := 0) 1 rfl rfl (held_fact (j := 0) 0 rfl rfl (held_fact (j := 1) 0 rfl rfl (held_fact (j := 2) 0 rfl rfl (held_fact (j := 3) 0 rfl rfl (held_fact (j := 4) 0 rfl rfl (held_fact (j := 5) 0 rfl rfl (held_fact (j := 6) 0 rfl rfl held_nil)))))))) (h_ldn (vs := [.int .i64 x2.st, .int .i64 x2.who, .int .i64 x2.op, .int .i64 x2.e, .int .i64 x2.lab.lv, .int .u64 (x2.lab.cs : Int), .int .i64 x2.lab.ig]) 1 7 rfl rfl rfl Tryd.underlying28 rfl (by kernel_rfl) (by kernel_rfl)) ?_
            refine a_each (rs := [13]) (by as_aux_lemma => kernel_rfl) (.cons (ticked 15 16383) rfl rfl rfl (o_call [] [] (Line_ x2 (by first | assumption | exact (by assumption : ∀ y ∈ _, recSm y) _ (List.mem_of_getElem? (by assumption)))) rfl rfl rfl rfl rfl rfl (fun v L' I' hq5 => ?_)) .nil) (List.cons_ne_nil _ _)
            obtain ⟨rfl, rfl, rfl⟩ := hq5
            refine a_and (held_fact (j := 0) 1 rfl rfl (held_fact (j := 0) 0 rfl rfl (held_fact (j := 1) 0 rfl rfl (held_fact (j := 2) 0 rfl rfl (held_fact (j := 3) 0 rfl rfl (held_fact (j := 4) 0 rfl rfl (held_fact (j := 5) 0 rfl rfl (held_fact (j := 6) 0 rfl rfl held_nil)))))))) ?_
            have h8 : x1 = lineF x2 := by subst hq; exact ten_line (by assumption) (by assumption) (by have := ten_shown_len a k; omega)
            refine a_y (i := 14) (v := .bool false) (ticked 15 32767) rfl (by as_aux_lemma => kernel_rfl) rfl rfl rfl (by exact y_b (y_k (v := .bool (!(x1.toList == (lineF x2).toList))) rfl rfl (fun _ => by kernel_rfl)) (str_nt h8)) ?_
            refine a_done (by as_aux_lemma => kernel_rfl) ?_
            refine q_then ?_
            refine c_false rfl ?_
            refine c_skip ?_
            refine q_block ?_
            refine q_then ?_
            refine c_region ?_
            refine st rfl (o_y (v := .int .i64 (i : Int)) (y_mv rfl) rfl rfl rfl ?_)
            refine st rfl (o_y (v := .int .i64 ((i : Int) + 1)) (y_add (r := (i : Int) + 1) rfl rfl rfl (by have h0 := ten_shown_len a k; have h1 := tenL_len a k; rw [← hq] at h0 h1; omega)) rfl rfl rfl ?_)
            refine st rfl (o_y (v := .int .i64 ((i : Int) + 1)) (y_as rfl) rfl rfl rfl ?_)
            refine s_nil ?_
            refine q_then ?_
            refine c_next [0] [2, 3, 4, 5] (i + 1) ?_ ?_ ?_ (by rfl) (by rfl)
            · exact (show (i + 1) ≤ (shownF q a).length from by first | omega | simp_all | (simp; done))
            · show (shownF q a).length - (i + 1) < (shownF q a).length - i; omega
            · exact (.cons rfl rfl (.cons rfl rfl (.cons rfl rfl (.cons rfl rfl (.cons rfl (show (.int .i64 ((i : Int) + 1) : Value) = .int .i64 ((i + 1) : Int) from by first | rfl | (congr 1; omega) | (congr 1; simp; done) | (congr 1; simp; omega)) .nil)))))
          ·
            refine st rfl (o_y (v := .bool false) (y_f (y_k (v := .bool (decide ((i : Int) < ((shownF q a).length : Int)))) rfl rfl (fun _ => by kernel_rfl)) h7) rfl rfl rfl ?_)
            refine s_nil ?_
            refine q_then ?_
            refine c_false rfl ?_
            refine c_exit ?_
            refine q_then_exit ?_
            refine q_then_exit ?_
            refine q_block_here ?_
            refine q_then ?_
            refine c_seq ?_
            refine c_region ?_
            refine st rfl (o_y (v := .bool true) (y_mv rfl) rfl rfl rfl ?_)
            refine st rfl (o_y (v := .bool true) (y_mv rfl) rfl rfl rfl ?_)
            refine st_on 72 rfl rfl rfl (o_y (v := .slice Aq q.length cq) (y_mv rfl) rfl rfl rfl ?_)
            refine st_on 72 rfl rfl rfl (o_call [] [] top_ rfl rfl rfl rfl rfl rfl (fun v L' I' hq6 => ?_))
            obtain ⟨rfl, rfl, rfl⟩ := hq6
            refine st_on 72 rfl rfl rfl (o_call [] [1] (Seen_ Aq cq q (⟨15, 18446744073709551615, 0⟩ : Lab) (by first | assumption | omega | (simp; done) | (simp; omega))) rfl rfl rfl rfl rfl rfl (fun v L' I' hq7 => ?_))
            obtain ⟨A3, c3, rfl, rfl, rfl⟩ := hq7
            refine st_on 72 rfl rfl rfl (o_y (v := .int .i64 ((seenF (⟨15, 18446744073709551615, 0⟩ : Lab) q).length : Int)) (y_k rfl rfl (fun _ => by kernel_rfl)) rfl rfl rfl ?_)
            refine st_on 72 rfl rfl rfl (o_y (v := .int .i64 n) (y_mv rfl) rfl rfl rfl ?_)
            have h9 : ((seenF (⟨15, 18446744073709551615, 0⟩ : Lab) q).length : Int) = n := by have := ten_seen (by assumption) ha k; rw [hq]; omega
            refine st_on 72 rfl rfl rfl (o_y (v := .bool true) (y_b (y_k (v := .bool (((seenF (⟨15, 18446744073709551615, 0⟩ : Lab) q).length : Int) == n)) rfl rfl (fun _ => by kernel_rfl)) (beq_iff_eq.2 h9)) rfl rfl rfl ?_)
            refine st rfl (o_y (v := .bool true) (y_pick rfl rfl) rfl rfl rfl ?_)
            refine st rfl (o_y (v := .bool true) (y_as rfl) rfl rfl rfl ?_)
            refine s_nil ?_
            refine q_then ?_
            refine c_ret ?_
            refine c_fin (I' := []) [] [3, 4] rfl (.tmp rfl .nil) rfl rfl rfl ?_
            exact ⟨rfl, rfl, rfl⟩
      ·
        obtain rfl : v = .bool false := by rw [hv1, decide_eq_false h3]
        refine st_on 19 rfl rfl rfl (o_y (v := .bool true) (y_k rfl rfl (fun _ => by kernel_rfl)) rfl rfl rfl ?_)
        refine st rfl (o_y (v := .bool true) (y_pick rfl rfl) rfl rfl rfl ?_)
        refine s_nil ?_
        refine q_then ?_
        refine c_true rfl ?_
        refine c_seq ?_
        refine c_region ?_
        refine st rfl (o_y (v := .bool true) (y_mv rfl) rfl rfl rfl ?_)
        refine st rfl (o_y (v := .bool true) (y_as rfl) rfl rfl rfl ?_)
        refine s_nil ?_
        refine q_then ?_
        refine c_ret ?_
        refine q_then_ret ?_
        refine c_fin (I' := []) [] [0, 1] rfl (.tmp rfl .nil) rfl rfl rfl ?_
        exact ⟨rfl, rfl, rfl⟩
end Go.Proofs.YtdfgedkjilpcgaaDoor
