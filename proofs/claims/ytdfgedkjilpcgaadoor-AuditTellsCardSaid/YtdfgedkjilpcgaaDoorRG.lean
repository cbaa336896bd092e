/- The six laws of chapter 18 (audit), walked over the given program; no condition but what stands in each theorem: part G. -/
import Derived.Test.YtdfgedkjilpcgaaDoorRC
import Derived.Test.YtdfgedkjilpcgaaDoorRE
set_option linter.unusedVariables false
set_option linter.unusedSimpArgs false
set_option maxRecDepth 100000
set_option maxHeartbeats 8000000
namespace Go.Proofs.YtdfgedkjilpcgaaDoor
open Go Go.Sl Go.RowKit Go.Extern.Stop Go.Stop Go.Extern Go.Shelf
theorem Right_ (A : Option Addr) (c : Nat) (l : List Rec) (hs : l.length ≤ 1000000) : Con Tryd.prog 15 [.slice A l.length c] [] [rd recTy A c l] (fun v L' I' => v = .bool (decide (logRight l)) ∧ L' = [] ∧ I' = []) := by
  refine fn_of Tryd.func15 rfl Tryd.ntmps15 (by kernel_rfl) rfl (fun C => ?_)
  refine c_seq ?_
  refine c_region ?_
  refine st rfl (o_y (v := .bool false) (y_as rfl) rfl rfl rfl ?_)
  refine s_nil ?_
  refine q_then ?_
  refine c_seq ?_
  refine c_region ?_
  refine st rfl (o_y (v := .int .i64 0) (y_as rfl) rfl rfl rfl ?_)
  refine s_nil ?_
  refine q_then ?_
  refine c_seq ?_
  refine c_seq ?_
  refine c_region ?_
  refine st rfl (o_y (v := .slice A l.length c) (y_mv rfl) rfl rfl rfl ?_)
  refine st rfl (o_y (v := .int .i64 (l.length : Int)) (y_k rfl rfl (fun _ => by kernel_rfl)) rfl rfl rfl ?_)
  refine st rfl (o_y (v := .int .i64 0) (y_mv rfl) rfl rfl rfl ?_)
  refine s_nil ?_
  refine q_then ?_
  refine c_block ?_
  refine c_loopn (ι := Nat × Int) (fun (k, last) => (k ≤ l.length) ∧ (logRight l ↔ logFrom last (l.drop k))) (fun (k, last) => [(3, .int .i64 last), (6, .slice A l.length c), (7, .int .i64 (l.length : Int)), (8, .int .i64 (k : Int))]) (fun (k, last) => []) (fun (k, last) => [rd recTy A c l]) (fun (k, last) => l.length - k) (0, 0) [] [0] (show (0 ≤ l.length) ∧ (logRight l ↔ logFrom 0 (l.drop 0)) from ⟨by first | omega | simp_all | (simp; done), Iff.rfl⟩) ((.cons rfl rfl (.cons rfl rfl (.cons rfl rfl (.cons rfl rfl .nil))))) rfl rfl ?_
  rintro ⟨k, last⟩ ⟨hk, hF⟩
  show Ent 24 C [(3, .int .i64 last), (6, .slice A l.length c), (7, .int .i64 (l.length : Int)), (8, .int .i64 (k : Int))] [] [] [rd recTy A c l] _
  refine c_seq ?_
  refine c_region ?_
  refine e_by ((k : Int) < (l.length : Int)) (fun h1 => ?_) (fun h1 => ?_)
  ·
    refine st rfl (o_y (v := .bool true) (y_t (y_k (v := .bool (decide ((k : Int) < (l.length : Int)))) rfl rfl (fun _ => by kernel_rfl)) h1) rfl rfl rfl ?_)
    refine s_nil ?_
    refine q_then ?_
    refine c_seq ?_
    refine c_true rfl ?_
    refine c_skip ?_
    refine q_then ?_
    refine c_seq ?_
    refine c_block ?_
    refine c_seq ?_
    refine c_region ?_
    refine e_at 0 k rfl (by first | omega | (simp only [List.length_append, List.length_map, List.length_take, List.length_drop]; omega)) (fun b1 o1 x1 hA1 hx1 => ?_)
    refine st rfl (o_y (v := .pointer (some ⟨b1, o1 + k * 7, none⟩)) (y_at (d := recTy) (l := l) k hA1 rfl rfl rfl (rfl) (List.getElem?_eq_some_iff.1 hx1).1 Tryd.underlying22 (by kernel_rfl) (by kernel_rfl)) rfl rfl rfl ?_)
    refine st rfl (o_ldnf 0 0 7 rfl rfl rfl rfl Tryd.underlying28 rfl (by kernel_rfl) (by kernel_rfl) rfl ?_)
    refine st rfl (o_box (cs := [.int .i64 0, .int .i64 0, .int .i64 0, .int .i64 0, .int .i64 0, .int .u64 0, .int .i64 0]) (T := 28) rfl rfl rfl rfl (fun _ => by kernel_rfl) (fun b2 => ?_))
    refine st rfl (o_st 0 rfl rfl rfl rfl rfl (by kernel_rfl) (by kernel_rfl) rfl ?_)
    refine s_nil ?_
    refine q_then ?_
    refine c_seq ?_
    refine c_seq ?_
    refine c_region ?_
    refine st rfl (o_ldn 0 7 rfl rfl rfl rfl Tryd.underlying28 rfl (by kernel_rfl) (by kernel_rfl) rfl ?_)
    refine st rfl (o_call [] [] (isRight_ x1) rfl rfl rfl rfl rfl rfl (fun v L' I' hq1 => ?_))
    obtain ⟨hv1, rfl, rfl⟩ := hq1
    refine e_by (recRight x1) (fun h2 => ?_) (fun h2 => ?_)
    ·
      obtain rfl : v = .bool true := by rw [hv1, decide_eq_true h2]
      refine st rfl (o_y (v := .bool false) (y_k rfl rfl (fun _ => by kernel_rfl)) rfl rfl rfl ?_)
      refine st rfl (o_y (v := .bool false) (y_mv rfl) rfl rfl rfl ?_)
      refine st_on 15 rfl rfl rfl (o_y (v := .pointer (some ⟨b2, 0, none⟩)) (y_k rfl rfl (fun _ => by kernel_rfl)) rfl rfl rfl ?_)
      refine st_on 15 rfl rfl rfl (o_ld 0 rfl rfl rfl Tryd.underlying3 rfl rfl ?_)
      refine st_on 15 rfl rfl rfl (o_y (v := .int .i64 last) (y_mv rfl) rfl rfl rfl ?_)
      refine e_by (x1.st ≤ last) (fun h3 => ?_) (fun h3 => ?_)
      ·
        refine st_on 15 rfl rfl rfl (o_y (v := .bool true) (y_t (y_k (v := .bool (decide (x1.st ≤ last))) rfl rfl (fun _ => by kernel_rfl)) h3) rfl rfl rfl ?_)
        refine st rfl (o_y (v := .bool true) (y_pick rfl rfl) rfl rfl rfl ?_)
        refine s_nil ?_
        refine q_then ?_
        refine c_true rfl ?_
        refine c_seq ?_
        refine c_region ?_
        refine st rfl (o_y (v := .bool false) (y_as rfl) rfl rfl rfl ?_)
        refine s_nil ?_
        refine q_then ?_
        refine c_ret ?_
        refine q_then_ret ?_
        refine q_block_ret ?_
        refine q_then_ret ?_
        refine q_then_ret ?_
        refine q_block_ret ?_
        refine q_then_ret ?_
        refine c_fin (I' := []) [] [1] rfl (.tmp rfl .nil) rfl rfl rfl ?_
        exact ⟨by show Value.bool _ = Value.bool _; congr 1; symm; first | exact decide_eq_true (by first | exact (hF.2 (by rw [List.drop_eq_nil_of_le (by omega)]; trivial)) | (rw [hF, logFrom_at hx1]; rintro ⟨q1, q2, q3⟩; first | omega | contradiction)) | exact decide_eq_false (by first | exact (hF.2 (by rw [List.drop_eq_nil_of_le (by omega)]; trivial)) | (rw [hF, logFrom_at hx1]; rintro ⟨q1, q2, q3⟩; first | omega | contradiction)), rfl, rfl⟩
      ·
        refine st_on 15 rfl rfl rfl (o_y (v := .bool false) (y_f (y_k (v := .bool (decide (x1.st ≤ last))) rfl rfl (fun _ => by kernel_rfl)) h3) rfl rfl rfl ?_)
        refine st rfl (o_y (v := .bool false) (y_pick rfl rfl) rfl rfl rfl ?_)
        refine s_nil ?_
        refine q_then ?_
        refine c_false rfl ?_
        refine c_skip ?_
        refine q_then ?_
        refine c_region ?_
        refine st rfl (o_y (v := .pointer (some ⟨b2, 0, none⟩)) (y_k rfl rfl (fun _ => by kernel_rfl)) rfl rfl rfl ?_)
        refine st rfl (o_ld 0 rfl rfl rfl Tryd.underlying3 rfl rfl ?_)
        refine st rfl (o_y (v := .int .i64 x1.st) (y_as rfl) rfl rfl rfl ?_)
        refine s_nil ?_
        refine q_block ?_
        refine q_then ?_
        refine c_region ?_
        refine st rfl (o_y (v := .int .i64 ((k : Int) + 1)) (y_add (r := (k : Int) + 1) rfl rfl rfl (by omega)) rfl rfl rfl ?_)
        refine st rfl (o_y (v := .int .i64 ((k : Int) + 1)) (y_mv rfl) rfl rfl rfl ?_)
        refine s_nil ?_
        refine q_then ?_
        refine c_next [] [1] (k + 1, x1.st) ?_ ?_ ?_ (by rfl) (by rfl)
        · exact (show ((k + 1) ≤ l.length) ∧ (logRight l ↔ logFrom x1.st (l.drop (k + 1))) from ⟨by first | omega | simp_all | (simp; done), hF.trans ((logFrom_at hx1).trans ⟨fun q => q.2.2, fun q => ⟨by assumption, by omega, q⟩⟩)⟩)
        · show l.length - (k + 1) < l.length - k; omega
        · exact (.cons rfl rfl (.cons rfl rfl (.cons rfl rfl (.cons rfl (show (.int .i64 ((k : Int) + 1) : Value) = .int .i64 ((k + 1) : Int) from by first | rfl | (congr 1; omega) | (congr 1; simp; done) | (congr 1; simp; omega)) .nil))))
    ·
      obtain rfl : v = .bool false := by rw [hv1, decide_eq_false h2]
      refine st rfl (o_y (v := .bool true) (y_k rfl rfl (fun _ => by kernel_rfl)) rfl rfl rfl ?_)
      refine st rfl (o_y (v := .bool true) (y_mv rfl) rfl rfl rfl ?_)
      refine st_off 15 rfl rfl rfl rfl rfl rfl ?_
      refine st_off 15 rfl rfl rfl rfl rfl rfl ?_
      refine st_off 15 rfl rfl rfl rfl rfl rfl ?_
      refine st_off 15 rfl rfl rfl rfl rfl rfl ?_
      refine st rfl (o_y (v := .bool true) (y_pick rfl rfl) rfl rfl rfl ?_)
      refine s_nil ?_
      refine q_then ?_
      refine c_true rfl ?_
      refine c_seq ?_
      refine c_region ?_
      refine st rfl (o_y (v := .bool false) (y_as rfl) rfl rfl rfl ?_)
      refine s_nil ?_
      refine q_then ?_
      refine c_ret ?_
      refine q_then_ret ?_
      refine q_block_ret ?_
      refine q_then_ret ?_
      refine q_then_ret ?_
      refine q_block_ret ?_
      refine q_then_ret ?_
      refine c_fin (I' := []) [] [1] rfl (.tmp rfl .nil) rfl rfl rfl ?_
      exact ⟨by show Value.bool _ = Value.bool _; congr 1; symm; first | exact decide_eq_true (by first | exact (hF.2 (by rw [List.drop_eq_nil_of_le (by omega)]; trivial)) | (rw [hF, logFrom_at hx1]; rintro ⟨q1, q2, q3⟩; first | omega | contradiction)) | exact decide_eq_false (by first | exact (hF.2 (by rw [List.drop_eq_nil_of_le (by omega)]; trivial)) | (rw [hF, logFrom_at hx1]; rintro ⟨q1, q2, q3⟩; first | omega | contradiction)), rfl, rfl⟩
  ·
    refine st rfl (o_y (v := .bool false) (y_f (y_k (v := .bool (decide ((k : Int) < (l.length : Int)))) rfl rfl (fun _ => by kernel_rfl)) h1) rfl rfl rfl ?_)
    refine s_nil ?_
    refine q_then ?_
    refine c_seq ?_
    refine c_false rfl ?_
    refine c_exit ?_
    refine q_then_exit ?_
    refine q_then_exit ?_
    refine q_block_here ?_
    refine q_then ?_
    refine c_seq ?_
    refine c_region ?_
    refine st rfl (o_y (v := .bool true) (y_as rfl) rfl rfl rfl ?_)
    refine s_nil ?_
    refine q_then ?_
    refine c_ret ?_
    refine c_fin (I' := []) [] [0] rfl (.tmp rfl .nil) rfl rfl rfl ?_
    exact ⟨by show Value.bool _ = Value.bool _; congr 1; symm; first | exact decide_eq_true (by first | exact (hF.2 (by rw [List.drop_eq_nil_of_le (by omega)]; trivial)) | (rw [hF, logFrom_at hx1]; rintro ⟨q1, q2, q3⟩; first | omega | contradiction)) | exact decide_eq_false (by first | exact (hF.2 (by rw [List.drop_eq_nil_of_le (by omega)]; trivial)) | (rw [hF, logFrom_at hx1]; rintro ⟨q1, q2, q3⟩; first | omega | contradiction)), rfl, rfl⟩
theorem rRight_ (A : Option Addr) (c : Nat) (l : List Rec) (hs : l.length ≤ 1000000) : Con Tryd.prog 23 [.slice A l.length c] [] [rd recTy A c l] (fun v L' I' => v = .bool (decide (logRight l)) ∧ L' = [] ∧ I' = []) := by
  refine fn_of Tryd.func23 rfl Tryd.ntmps23 (by kernel_rfl) rfl (fun C => ?_)
  refine c_seq ?_
  refine c_region ?_
  refine st rfl (o_y (v := .bool false) (y_as rfl) rfl rfl rfl ?_)
  refine s_nil ?_
  refine q_then ?_
  refine c_seq ?_
  refine c_seq ?_
  refine c_region ?_
  refine st rfl (o_y (v := .int .i64 0) (y_as rfl) rfl rfl rfl ?_)
  refine s_nil ?_
  refine q_then ?_
  refine c_block ?_
  refine c_loopn (ι := Nat) (fun k => (k ≤ l.length) ∧ (logRight l ↔ logFrom (lastOf l k) (l.drop k))) (fun k => [(0, .slice A l.length c), (3, .int .i64 (k : Int))]) (fun k => []) (fun k => [rd recTy A c l]) (fun k => l.length - k) (0) [] [0] (show (0 ≤ l.length) ∧ (logRight l ↔ logFrom (lastOf l 0) (l.drop 0)) from ⟨by first | omega | simp_all | (simp; done), Iff.rfl⟩) ((.cons rfl rfl (.cons rfl rfl .nil))) rfl rfl ?_
  rintro k ⟨hk, hF⟩
  show Ent 34 C [(0, .slice A l.length c), (3, .int .i64 (k : Int))] [] [] [rd recTy A c l] _
  refine c_seq ?_
  refine c_seq ?_
  refine c_region ?_
  refine st rfl (o_y (v := .int .i64 (k : Int)) (y_mv rfl) rfl rfl rfl ?_)
  refine st rfl (o_y (v := .slice A l.length c) (y_mv rfl) rfl rfl rfl ?_)
  refine st rfl (o_y (v := .int .i64 (l.length : Int)) (y_k rfl rfl (fun _ => by kernel_rfl)) rfl rfl rfl ?_)
  refine e_by ((k : Int) < (l.length : Int)) (fun h1 => ?_) (fun h1 => ?_)
  ·
    refine st rfl (o_y (v := .bool true) (y_t (y_k (v := .bool (decide ((k : Int) < (l.length : Int)))) rfl rfl (fun _ => by kernel_rfl)) h1) rfl rfl rfl ?_)
    refine s_nil ?_
    refine q_then ?_
    refine c_true rfl ?_
    refine c_skip ?_
    refine q_then ?_
    refine c_seq ?_
    refine c_block ?_
    refine c_seq ?_
    refine e_at 0 k rfl (by first | omega | (simp only [List.length_append, List.length_map, List.length_take, List.length_drop]; omega)) (fun b1 o1 x1 hA1 hx1 => ?_)
    refine e_at 1 (((k : Int) - 1).toNat) rfl (by first | omega | (simp only [List.length_append, List.length_map, List.length_take, List.length_drop]; omega)) (fun b2 o2 x2 hA2 hx2 => ?_)
    refine c_draw (l := ticked 24 0) [(⟨b1, o1 + k * 7, none⟩, .int .i64 x1.st), (⟨b1, o1 + k * 7 + 1, none⟩, .int .i64 x1.who), (⟨b1, o1 + k * 7 + 2, none⟩, .int .i64 x1.op), (⟨b1, o1 + k * 7 + 3, none⟩, .int .i64 x1.e), (⟨b1, o1 + k * 7 + 4, none⟩, .int .i64 x1.lab.lv), (⟨b1, o1 + k * 7 + 5, none⟩, .int .u64 (x1.lab.cs : Int)), (⟨b1, o1 + k * 7 + 6, none⟩, .int .i64 x1.lab.ig), (⟨b2, o2 + (((k : Int) - 1).toNat) * 7, none⟩, .int .i64 x2.st)] [] (by kernel_rfl) rfl rfl ?_
    refine a_y (i := 0) (v := .slice A l.length c) (ticked 24 1) rfl (by as_aux_lemma => kernel_rfl) rfl rfl rfl (by exact y_mv rfl) ?_
    refine a_y (i := 1) (v := .int .i64 (k : Int)) (ticked 24 3) rfl (by as_aux_lemma => kernel_rfl) rfl rfl rfl (by exact y_mv rfl) ?_
    refine a_y (i := 2) (v := .pointer (some ⟨b1, o1 + k * 7, none⟩)) (ticked 24 7) rfl (by as_aux_lemma => kernel_rfl) rfl rfl rfl (by exact y_at (d := recTy) (l := l) k hA1 rfl rfl rfl (rfl) (List.getElem?_eq_some_iff.1 hx1).1 Tryd.underlying22 (by kernel_rfl) (by kernel_rfl)) ?_
    refine a_held (i := 3) (ticked 24 15) rfl (by as_aux_lemma => kernel_rfl) rfl rfl rfl (held_fact (j := 0) 1 rfl rfl (held_fact (j := 1) 1 rfl rfl (held_fact (j := 2) 1 rfl rfl (held_fact (j := 3) 1 rfl rfl (held_fact (j := 4) 1 rfl rfl (held_fact (j := 5) 1 rfl rfl (held_fact (j := 6) 1 rfl rfl (held_fact (j := 0) 0 rfl rfl held_nil)))))))) (h_ldn (vs := [.int .i64 x1.st, .int .i64 x1.who, .int .i64 x1.op, .int .i64 x1.e, .int .i64 x1.lab.lv, .int .u64 (x1.lab.cs : Int), .int .i64 x1.lab.ig]) 0 7 rfl rfl rfl Tryd.underlying28 rfl (by kernel_rfl) (by kernel_rfl)) ?_
    refine a_each (rs := [4]) (by as_aux_lemma => kernel_rfl) (.cons (ticked 24 31) rfl rfl rfl (o_call [] [] (ris_ x1) rfl rfl rfl rfl rfl rfl (fun v L' I' hq1 => ?_)) .nil) (List.cons_ne_nil _ _)
    obtain ⟨hv1, rfl, rfl⟩ := hq1
    refine e_by (recRight x1) (fun h2 => ?_) (fun h2 => ?_)
    ·
      obtain rfl : v = .bool true := by rw [hv1, decide_eq_true h2]
      refine a_and (held_fact (j := 0) 1 rfl rfl (held_fact (j := 1) 1 rfl rfl (held_fact (j := 2) 1 rfl rfl (held_fact (j := 3) 1 rfl rfl (held_fact (j := 4) 1 rfl rfl (held_fact (j := 5) 1 rfl rfl (held_fact (j := 6) 1 rfl rfl (held_fact (j := 0) 0 rfl rfl held_nil)))))))) ?_
      refine a_y (i := 5) (v := .bool false) (ticked 24 63) rfl (by as_aux_lemma => kernel_rfl) rfl rfl rfl (by exact y_k rfl rfl (fun _ => by kernel_rfl)) ?_
      refine a_y (i := 6) (v := .bool false) (ticked 24 127) rfl (by as_aux_lemma => kernel_rfl) rfl rfl rfl (by exact y_mv rfl) ?_
      refine a_y_on (i := 7) (v := .int .i64 (k : Int)) 16 (ticked 24 255) rfl (by as_aux_lemma => kernel_rfl) rfl rfl rfl rfl rfl (by exact y_mv rfl) ?_
      refine e_by ((k : Int) > 0) (fun h3 => ?_) (fun h3 => ?_)
      ·
        refine a_y_on (i := 8) (v := .bool true) 16 (ticked 24 511) rfl (by as_aux_lemma => kernel_rfl) rfl rfl rfl rfl rfl (by exact y_t (y_k (v := .bool (decide ((k : Int) > 0))) rfl rfl (fun _ => by kernel_rfl)) h3) ?_
        refine a_y_on (i := 9) (v := .bool true) 16 (ticked 24 1023) rfl (by as_aux_lemma => kernel_rfl) rfl rfl rfl rfl rfl (by exact y_mv rfl) ?_
        refine a_y_on (i := 10) (v := .slice A l.length c) 19 (ticked 24 2047) rfl (by as_aux_lemma => kernel_rfl) rfl rfl rfl rfl rfl (by exact y_mv rfl) ?_
        refine a_y_on (i := 11) (v := .int .i64 (k : Int)) 19 (ticked 24 4095) rfl (by as_aux_lemma => kernel_rfl) rfl rfl rfl rfl rfl (by exact y_mv rfl) ?_
        refine a_y_on (i := 12) (v := .int .i64 ((k : Int) - 1)) 19 (ticked 24 8191) rfl (by as_aux_lemma => kernel_rfl) rfl rfl rfl rfl rfl (by exact y_sub (r := (k : Int) - 1) rfl rfl rfl (by omega)) ?_
        refine a_y_on (i := 13) (v := .pointer (some ⟨b2, o2 + (((k : Int) - 1).toNat) * 7, none⟩)) 19 (ticked 24 16383) rfl (by as_aux_lemma => kernel_rfl) rfl rfl rfl rfl rfl (by exact y_at (d := recTy) (l := l) (((k : Int) - 1).toNat) hA2 rfl rfl rfl (by omega) (List.getElem?_eq_some_iff.1 hx2).1 Tryd.underlying22 (by kernel_rfl) (by kernel_rfl)) ?_
        refine a_y_on (i := 14) (v := .pointer (some ⟨b2, o2 + (((k : Int) - 1).toNat) * 7, none⟩)) 19 (ticked 24 32767) rfl (by as_aux_lemma => kernel_rfl) rfl rfl rfl rfl rfl (by exact y_k rfl rfl (fun _ => by kernel_rfl)) ?_
        refine a_y_on (i := 16) (v := .slice A l.length c) 19 (ticked 24 98303) rfl (by as_aux_lemma => kernel_rfl) rfl rfl rfl rfl rfl (by exact y_mv rfl) ?_
        refine a_y_on (i := 17) (v := .int .i64 (k : Int)) 19 (ticked 24 229375) rfl (by as_aux_lemma => kernel_rfl) rfl rfl rfl rfl rfl (by exact y_mv rfl) ?_
        refine a_y_on (i := 18) (v := .pointer (some ⟨b1, o1 + k * 7, none⟩)) 19 (ticked 24 491519) rfl (by as_aux_lemma => kernel_rfl) rfl rfl rfl rfl rfl (by exact y_at (d := recTy) (l := l) k hA1 rfl rfl rfl (rfl) (List.getElem?_eq_some_iff.1 hx1).1 Tryd.underlying22 (by kernel_rfl) (by kernel_rfl)) ?_
        refine a_y_on (i := 19) (v := .pointer (some ⟨b1, o1 + k * 7, none⟩)) 19 (ticked 24 1015807) rfl (by as_aux_lemma => kernel_rfl) rfl rfl rfl rfl rfl (by exact y_k rfl rfl (fun _ => by kernel_rfl)) ?_
        refine a_held_on (i := 15) 19 (ticked 24 1048575) rfl (by as_aux_lemma => kernel_rfl) rfl rfl rfl rfl rfl (held_fact (j := 0) 1 rfl rfl (held_fact (j := 1) 1 rfl rfl (held_fact (j := 2) 1 rfl rfl (held_fact (j := 3) 1 rfl rfl (held_fact (j := 4) 1 rfl rfl (held_fact (j := 5) 1 rfl rfl (held_fact (j := 6) 1 rfl rfl (held_fact (j := 0) 0 rfl rfl held_nil)))))))) (h_ld 7 rfl rfl Tryd.underlying3 rfl) ?_
        refine a_held_on (i := 20) 19 (ticked 24 2097151) rfl (by as_aux_lemma => kernel_rfl) rfl rfl rfl rfl rfl (held_fact (j := 0) 1 rfl rfl (held_fact (j := 1) 1 rfl rfl (held_fact (j := 2) 1 rfl rfl (held_fact (j := 3) 1 rfl rfl (held_fact (j := 4) 1 rfl rfl (held_fact (j := 5) 1 rfl rfl (held_fact (j := 6) 1 rfl rfl (held_fact (j := 0) 0 rfl rfl held_nil)))))))) (h_ld 0 rfl rfl Tryd.underlying3 rfl) ?_
        refine e_by (x2.st ≥ x1.st) (fun h4 => ?_) (fun h4 => ?_)
        ·
          refine a_y_on (i := 21) (v := .bool true) 19 (ticked 24 4194303) rfl (by as_aux_lemma => kernel_rfl) rfl rfl rfl rfl rfl (by exact y_t (y_k (v := .bool (decide (x2.st ≥ x1.st))) rfl rfl (fun _ => by kernel_rfl)) h4) ?_
          refine a_y_on (i := 22) (v := .bool true) 16 (ticked 24 8388607) rfl (by as_aux_lemma => kernel_rfl) rfl rfl rfl rfl rfl (by exact y_pick rfl rfl) ?_
          refine a_y (i := 23) (v := .bool true) (ticked 24 16777215) rfl (by as_aux_lemma => kernel_rfl) rfl rfl rfl (by exact y_pick rfl rfl) ?_
          refine a_done (by as_aux_lemma => kernel_rfl) ?_
          refine q_then ?_
          refine c_true rfl ?_
          refine c_seq ?_
          refine c_region ?_
          refine st rfl (o_y (v := .bool false) (y_as rfl) rfl rfl rfl ?_)
          refine s_nil ?_
          refine q_then ?_
          refine c_ret ?_
          refine q_block_ret ?_
          refine q_then_ret ?_
          refine q_then_ret ?_
          refine q_block_ret ?_
          refine q_then_ret ?_
          refine c_fin (I' := []) [] [2] rfl (.tmp rfl .nil) rfl rfl rfl ?_
          exact ⟨by show Value.bool _ = Value.bool _; congr 1; symm; first | exact decide_eq_true (by first | exact (hF.2 (by rw [List.drop_eq_nil_of_le (by omega)]; trivial)) | (rw [hF, logFrom_at hx1]; rintro ⟨q1, q2, q3⟩; first | contradiction | exact rlast2 (by assumption) (by assumption) (by assumption) q2)) | exact decide_eq_false (by first | exact (hF.2 (by rw [List.drop_eq_nil_of_le (by omega)]; trivial)) | (rw [hF, logFrom_at hx1]; rintro ⟨q1, q2, q3⟩; first | contradiction | exact rlast2 (by assumption) (by assumption) (by assumption) q2)), rfl, rfl⟩
        ·
          refine a_y_on (i := 21) (v := .bool false) 19 (ticked 24 4194303) rfl (by as_aux_lemma => kernel_rfl) rfl rfl rfl rfl rfl (by exact y_f (y_k (v := .bool (decide (x2.st ≥ x1.st))) rfl rfl (fun _ => by kernel_rfl)) h4) ?_
          refine a_y_on (i := 22) (v := .bool false) 16 (ticked 24 8388607) rfl (by as_aux_lemma => kernel_rfl) rfl rfl rfl rfl rfl (by exact y_pick rfl rfl) ?_
          refine a_y (i := 23) (v := .bool false) (ticked 24 16777215) rfl (by as_aux_lemma => kernel_rfl) rfl rfl rfl (by exact y_pick rfl rfl) ?_
          refine a_done (by as_aux_lemma => kernel_rfl) ?_
          refine q_then ?_
          refine c_false rfl ?_
          refine c_skip ?_
          refine q_block ?_
          refine q_then ?_
          refine c_region ?_
          refine st rfl (o_y (v := .int .i64 (k : Int)) (y_mv rfl) rfl rfl rfl ?_)
          refine st rfl (o_y (v := .int .i64 ((k : Int) + 1)) (y_add (r := (k : Int) + 1) rfl rfl rfl (by omega)) rfl rfl rfl ?_)
          refine st rfl (o_y (v := .int .i64 ((k : Int) + 1)) (y_as rfl) rfl rfl rfl ?_)
          refine s_nil ?_
          refine q_then ?_
          refine c_next [] [2] (k + 1) ?_ ?_ ?_ (by rfl) (by rfl)
          · exact (show ((k + 1) ≤ l.length) ∧ (logRight l ↔ logFrom (lastOf l (k + 1)) (l.drop (k + 1))) from ⟨by first | omega | simp_all | (simp; done), rstep hF hx1 (by assumption) (by first | exact rlast0 (by assumption) (by assumption) | exact rlast1 (by assumption) (by assumption) (by assumption))⟩)
          · show l.length - (k + 1) < l.length - k; omega
          · exact (.cons rfl rfl (.cons rfl (show (.int .i64 ((k : Int) + 1) : Value) = .int .i64 ((k + 1) : Int) from by first | rfl | (congr 1; omega) | (congr 1; simp; done) | (congr 1; simp; omega)) .nil))
      ·
        refine a_y_on (i := 8) (v := .bool false) 16 (ticked 24 511) rfl (by as_aux_lemma => kernel_rfl) rfl rfl rfl rfl rfl (by exact y_f (y_k (v := .bool (decide ((k : Int) > 0))) rfl rfl (fun _ => by kernel_rfl)) h3) ?_
        refine a_y_on (i := 9) (v := .bool false) 16 (ticked 24 1023) rfl (by as_aux_lemma => kernel_rfl) rfl rfl rfl rfl rfl (by exact y_mv rfl) ?_
        refine a_off (i := 10) 19 (ticked 24 2047) rfl (by as_aux_lemma => kernel_rfl) rfl rfl rfl rfl rfl rfl ?_
        refine a_off (i := 11) 19 (ticked 24 4095) rfl (by as_aux_lemma => kernel_rfl) rfl rfl rfl rfl rfl rfl ?_
        refine a_off (i := 12) 19 (ticked 24 8191) rfl (by as_aux_lemma => kernel_rfl) rfl rfl rfl rfl rfl rfl ?_
        refine a_off (i := 13) 19 (ticked 24 16383) rfl (by as_aux_lemma => kernel_rfl) rfl rfl rfl rfl rfl rfl ?_
        refine a_off (i := 14) 19 (ticked 24 32767) rfl (by as_aux_lemma => kernel_rfl) rfl rfl rfl rfl rfl rfl ?_
        refine a_off (i := 15) 19 (ticked 24 65535) rfl (by as_aux_lemma => kernel_rfl) rfl rfl rfl rfl rfl rfl ?_
        refine a_off (i := 16) 19 (ticked 24 131071) rfl (by as_aux_lemma => kernel_rfl) rfl rfl rfl rfl rfl rfl ?_
        refine a_off (i := 17) 19 (ticked 24 262143) rfl (by as_aux_lemma => kernel_rfl) rfl rfl rfl rfl rfl rfl ?_
        refine a_off (i := 18) 19 (ticked 24 524287) rfl (by as_aux_lemma => kernel_rfl) rfl rfl rfl rfl rfl rfl ?_
        refine a_off (i := 19) 19 (ticked 24 1048575) rfl (by as_aux_lemma => kernel_rfl) rfl rfl rfl rfl rfl rfl ?_
        refine a_off (i := 20) 19 (ticked 24 2097151) rfl (by as_aux_lemma => kernel_rfl) rfl rfl rfl rfl rfl rfl ?_
        refine a_off (i := 21) 19 (ticked 24 4194303) rfl (by as_aux_lemma => kernel_rfl) rfl rfl rfl rfl rfl rfl ?_
        refine a_y_on (i := 22) (v := .bool false) 16 (ticked 24 8388607) rfl (by as_aux_lemma => kernel_rfl) rfl rfl rfl rfl rfl (by exact y_pick rfl rfl) ?_
        refine a_y (i := 23) (v := .bool false) (ticked 24 16777215) rfl (by as_aux_lemma => kernel_rfl) rfl rfl rfl (by exact y_pick rfl rfl) ?_
        refine a_done (by as_aux_lemma => kernel_rfl) ?_
        refine q_then ?_
        refine c_false rfl ?_
        refine c_skip ?_
        refine q_block ?_
        refine q_then ?_
        refine c_region ?_
        refine st rfl (o_y (v := .int .i64 (k : Int)) (y_mv rfl) rfl rfl rfl ?_)
        refine st rfl (o_y (v := .int .i64 ((k : Int) + 1)) (y_add (r := (k : Int) + 1) rfl rfl rfl (by omega)) rfl rfl rfl ?_)
        refine st rfl (o_y (v := .int .i64 ((k : Int) + 1)) (y_as rfl) rfl rfl rfl ?_)
        refine s_nil ?_
        refine q_then ?_
        refine c_next [] [2] (k + 1) ?_ ?_ ?_ (by rfl) (by rfl)
        · exact (show ((k + 1) ≤ l.length) ∧ (logRight l ↔ logFrom (lastOf l (k + 1)) (l.drop (k + 1))) from ⟨by first | omega | simp_all | (simp; done), rstep hF hx1 (by assumption) (by first | exact rlast0 (by assumption) (by assumption) | exact rlast1 (by assumption) (by assumption) (by assumption))⟩)
        · show l.length - (k + 1) < l.length - k; omega
        · exact (.cons rfl rfl (.cons rfl (show (.int .i64 ((k : Int) + 1) : Value) = .int .i64 ((k + 1) : Int) from by first | rfl | (congr 1; omega) | (congr 1; simp; done) | (congr 1; simp; omega)) .nil))
    ·
      obtain rfl : v = .bool false := by rw [hv1, decide_eq_false h2]
      refine a_and (held_fact (j := 0) 1 rfl rfl (held_fact (j := 1) 1 rfl rfl (held_fact (j := 2) 1 rfl rfl (held_fact (j := 3) 1 rfl rfl (held_fact (j := 4) 1 rfl rfl (held_fact (j := 5) 1 rfl rfl (held_fact (j := 6) 1 rfl rfl (held_fact (j := 0) 0 rfl rfl held_nil)))))))) ?_
      refine a_y (i := 5) (v := .bool true) (ticked 24 63) rfl (by as_aux_lemma => kernel_rfl) rfl rfl rfl (by exact y_k rfl rfl (fun _ => by kernel_rfl)) ?_
      refine a_y (i := 6) (v := .bool true) (ticked 24 127) rfl (by as_aux_lemma => kernel_rfl) rfl rfl rfl (by exact y_mv rfl) ?_
      refine a_off (i := 7) 16 (ticked 24 255) rfl (by as_aux_lemma => kernel_rfl) rfl rfl rfl rfl rfl rfl ?_
      refine a_off (i := 8) 16 (ticked 24 511) rfl (by as_aux_lemma => kernel_rfl) rfl rfl rfl rfl rfl rfl ?_
      refine a_off (i := 9) 16 (ticked 24 1023) rfl (by as_aux_lemma => kernel_rfl) rfl rfl rfl rfl rfl rfl ?_
      refine a_offu (i := 10) 19 (ticked 24 2047) rfl (by as_aux_lemma => kernel_rfl) rfl rfl rfl rfl rfl ?_
      refine a_offu (i := 11) 19 (ticked 24 4095) rfl (by as_aux_lemma => kernel_rfl) rfl rfl rfl rfl rfl ?_
      refine a_offu (i := 12) 19 (ticked 24 8191) rfl (by as_aux_lemma => kernel_rfl) rfl rfl rfl rfl rfl ?_
      refine a_offu (i := 13) 19 (ticked 24 16383) rfl (by as_aux_lemma => kernel_rfl) rfl rfl rfl rfl rfl ?_
      refine a_offu (i := 14) 19 (ticked 24 32767) rfl (by as_aux_lemma => kernel_rfl) rfl rfl rfl rfl rfl ?_
      refine a_offu (i := 15) 19 (ticked 24 65535) rfl (by as_aux_lemma => kernel_rfl) rfl rfl rfl rfl rfl ?_
      refine a_offu (i := 16) 19 (ticked 24 131071) rfl (by as_aux_lemma => kernel_rfl) rfl rfl rfl rfl rfl ?_
      refine a_offu (i := 17) 19 (ticked 24 262143) rfl (by as_aux_lemma => kernel_rfl) rfl rfl rfl rfl rfl ?_
      refine a_offu (i := 18) 19 (ticked 24 524287) rfl (by as_aux_lemma => kernel_rfl) rfl rfl rfl rfl rfl ?_
      refine a_offu (i := 19) 19 (ticked 24 1048575) rfl (by as_aux_lemma => kernel_rfl) rfl rfl rfl rfl rfl ?_
      refine a_offu (i := 20) 19 (ticked 24 2097151) rfl (by as_aux_lemma => kernel_rfl) rfl rfl rfl rfl rfl ?_
      refine a_offu (i := 21) 19 (ticked 24 4194303) rfl (by as_aux_lemma => kernel_rfl) rfl rfl rfl rfl rfl ?_
      refine a_off (i := 22) 16 (ticked 24 8388607) rfl (by as_aux_lemma => kernel_rfl) rfl rfl rfl rfl rfl rfl ?_
      refine a_y (i := 23) (v := .bool true) (ticked 24 16777215) rfl (by as_aux_lemma => kernel_rfl) rfl rfl rfl (by exact y_pick rfl rfl) ?_
      refine a_done (by as_aux_lemma => kernel_rfl) ?_
      refine q_then ?_
      refine c_true rfl ?_
      refine c_seq ?_
      refine c_region ?_
      refine st rfl (o_y (v := .bool false) (y_as rfl) rfl rfl rfl ?_)
      refine s_nil ?_
      refine q_then ?_
      refine c_ret ?_
      refine q_block_ret ?_
      refine q_then_ret ?_
      refine q_then_ret ?_
      refine q_block_ret ?_
      refine q_then_ret ?_
      refine c_fin (I' := []) [] [2] rfl (.tmp rfl .nil) rfl rfl rfl ?_
      exact ⟨by show Value.bool _ = Value.bool _; congr 1; symm; first | exact decide_eq_true (by first | exact (hF.2 (by rw [List.drop_eq_nil_of_le (by omega)]; trivial)) | (rw [hF, logFrom_at hx1]; rintro ⟨q1, q2, q3⟩; first | contradiction | exact rlast2 (by assumption) (by assumption) (by assumption) q2)) | exact decide_eq_false (by first | exact (hF.2 (by rw [List.drop_eq_nil_of_le (by omega)]; trivial)) | (rw [hF, logFrom_at hx1]; rintro ⟨q1, q2, q3⟩; first | contradiction | exact rlast2 (by assumption) (by assumption) (by assumption) q2)), rfl, rfl⟩
  ·
    refine st rfl (o_y (v := .bool false) (y_f (y_k (v := .bool (decide ((k : Int) < (l.length : Int)))) rfl rfl (fun _ => by kernel_rfl)) h1) rfl rfl rfl ?_)
    refine s_nil ?_
    refine q_then ?_
    refine c_false rfl ?_
    refine c_exit ?_
    refine q_then_exit ?_
    refine q_then_exit ?_
    refine q_block_here ?_
    refine q_then ?_
    refine c_seq ?_
    refine c_region ?_
    refine st rfl (o_y (v := .bool true) (y_as rfl) rfl rfl rfl ?_)
    refine s_nil ?_
    refine q_then ?_
    refine c_ret ?_
    refine c_fin (I' := []) [] [0] rfl (.tmp rfl .nil) rfl rfl rfl ?_
    exact ⟨by show Value.bool _ = Value.bool _; congr 1; symm; first | exact decide_eq_true (by first | exact (hF.2 (by rw [List.drop_eq_nil_of_le (by omega)]; trivial)) | (rw [hF, logFrom_at hx1]; rintro ⟨q1, q2, q3⟩; first | contradiction | exact rlast2 (by assumption) (by assumption) (by assumption) q2)) | exact decide_eq_false (by first | exact (hF.2 (by rw [List.drop_eq_nil_of_le (by omega)]; trivial)) | (rw [hF, logFrom_at hx1]; rintro ⟨q1, q2, q3⟩; first | contradiction | exact rlast2 (by assumption) (by assumption) (by assumption) q2)), rfl, rfl⟩
theorem told_nil_ (el : Addr) : Con Tryd.prog 31 [.nilIface] [] [cellsAt 0 0 [.iface 106 (.pointer (some el))], errAt el] (fun v L' I' => v = .int .i64 0 ∧ L' = [] ∧ I' = []) := by
  refine fn_of Tryd.func31 rfl Tryd.ntmps31 (by kernel_rfl) rfl (fun C => ?_)
  refine c_seq ?_
  refine c_region ?_
  refine st rfl (o_y (v := .int .i64 0) (y_as rfl) rfl rfl rfl ?_)
  refine s_nil ?_
  refine q_then ?_
  refine c_seq ?_
  refine c_seq ?_
  refine c_region ?_
  refine st rfl (o_y (v := .nilIface) (y_mv rfl) rfl rfl rfl ?_)
  refine st rfl (o_ldf 0 0 rfl rfl rfl Tryd.underlying53 rfl rfl ?_)
  refine st rfl (o_call [] [] (is_nil_ el) rfl rfl rfl rfl rfl rfl (fun v L' I' hq1 => ?_))
  obtain ⟨rfl, rfl, rfl⟩ := hq1
  refine s_nil ?_
  refine q_then ?_
  refine c_false rfl ?_
  refine c_skip ?_
  refine q_then ?_
  refine c_seq ?_
  refine c_region ?_
  refine st rfl (o_y (v := .int .i64 0) (y_as rfl) rfl rfl rfl ?_)
  refine s_nil ?_
  refine q_then ?_
  refine c_ret ?_
  refine c_fin (I' := []) [] [0, 1] rfl (.tmp rfl .nil) rfl rfl rfl ?_
  exact ⟨rfl, rfl, rfl⟩
theorem told_log_ (el : Addr) : Con Tryd.prog 31 [.iface 106 (.pointer (some el))] [] [cellsAt 0 0 [.iface 106 (.pointer (some el))], errAt el] (fun v L' I' => v = .int .i64 180 ∧ L' = [] ∧ I' = []) := by
  refine fn_of Tryd.func31 rfl Tryd.ntmps31 (by kernel_rfl) rfl (fun C => ?_)
  refine c_seq ?_
  refine c_region ?_
  refine st rfl (o_y (v := .int .i64 0) (y_as rfl) rfl rfl rfl ?_)
  refine s_nil ?_
  refine q_then ?_
  refine c_seq ?_
  refine c_seq ?_
  refine c_region ?_
  refine st rfl (o_y (v := .iface 106 (.pointer (some el))) (y_mv rfl) rfl rfl rfl ?_)
  refine st rfl (o_ldf 0 0 rfl rfl rfl Tryd.underlying53 rfl rfl ?_)
  refine st rfl (o_call [] [] (is_same_ el) rfl rfl rfl rfl rfl rfl (fun v L' I' hq1 => ?_))
  obtain ⟨rfl, rfl, rfl⟩ := hq1
  refine s_nil ?_
  refine q_then ?_
  refine c_true rfl ?_
  refine c_seq ?_
  refine c_region ?_
  refine st rfl (o_y (v := .int .i64 180) (y_as rfl) rfl rfl rfl ?_)
  refine s_nil ?_
  refine q_then ?_
  refine c_ret ?_
  refine q_then_ret ?_
  refine c_fin (I' := []) [] [0, 1] rfl (.tmp rfl .nil) rfl rfl rfl ?_
  exact ⟨rfl, rfl, rfl⟩
theorem write_ (A : Option Addr) (c : Nat) (l : List Rec) (b : Nat) (B : Option Addr) (d : Nat) (r : List Rec) (hp : 0 < r.length) (hs2 : l.length + r.length ≤ 1000000) (el : Addr) : Con Tryd.prog 30 [.pointer (some ⟨b, 0, none⟩), .slice B r.length d] [pt b [.slice A l.length c, .nilIface] 55] [rd recTy A c l, rd recTy B d r, cellsAt 0 0 [.iface 106 (.pointer (some el))], errAt el] (fun v L' I' => (∃ A1 : Option Addr, ∃ c1 : Nat, (logRight (l ++ r)) ∧ v = .tuple #[] ∧ L' = [pt b [.slice A1 (l ++ r).length c1, .nilIface] 55, ars recTy 28 A1 c1 (l ++ r)] ∧ I' = []) ∨ (∃ A1 : Option Addr, ∃ c1 : Nat, (¬ (logRight (l ++ r))) ∧ v = .tuple #[] ∧ L' = [pt b [.slice A1 (l ++ r).length c1, .iface 106 (.pointer (some el))] 55, ars recTy 28 A1 c1 (l ++ r)] ∧ I' = [])) := by
  refine fn_of Tryd.func30 rfl Tryd.ntmps30 (by kernel_rfl) rfl (fun C => ?_)
  refine c_seq ?_
  refine c_draw (l := ticked 25 0) [(⟨b, 0, none⟩, .slice A l.length c)] [24] (by kernel_rfl) rfl rfl ?_
  refine a_y (i := 0) (v := .pointer (some ⟨b, 0, none⟩)) (ticked 25 1) rfl (by as_aux_lemma => kernel_rfl) rfl rfl rfl (by exact y_mv rfl) ?_
  refine a_y (i := 1) (v := .pointer (some ⟨b, 0, none⟩)) (ticked 25 3) rfl (by as_aux_lemma => kernel_rfl) rfl rfl rfl (by exact y_mv rfl) ?_
  refine a_y (i := 2) (v := .pointer (some ⟨b, 0, none⟩)) (ticked 25 7) rfl (by as_aux_lemma => kernel_rfl) rfl rfl rfl (by exact y_k rfl rfl (fun _ => by kernel_rfl)) ?_
  refine a_y (i := 3) (v := .pointer (some ⟨b, 0, none⟩)) (ticked 25 15) rfl (by as_aux_lemma => kernel_rfl) rfl rfl rfl (by exact y_k rfl rfl (fun _ => by kernel_rfl)) ?_
  refine a_y (i := 4) (v := .pointer (some ⟨b, 0, none⟩)) (ticked 25 31) rfl (by as_aux_lemma => kernel_rfl) rfl rfl rfl (by exact y_k rfl rfl (fun _ => by kernel_rfl)) ?_
  refine a_y (i := 6) (v := .pointer (some ⟨b, 0, none⟩)) (ticked 25 95) rfl (by as_aux_lemma => kernel_rfl) rfl rfl rfl (by exact y_mv rfl) ?_
  refine a_y (i := 7) (v := .pointer (some ⟨b, 0, none⟩)) (ticked 25 223) rfl (by as_aux_lemma => kernel_rfl) rfl rfl rfl (by exact y_k rfl rfl (fun _ => by kernel_rfl)) ?_
  refine a_y (i := 8) (v := .pointer (some ⟨b, 0, none⟩)) (ticked 25 479) rfl (by as_aux_lemma => kernel_rfl) rfl rfl rfl (by exact y_k rfl rfl (fun _ => by kernel_rfl)) ?_
  refine a_y (i := 9) (v := .pointer (some ⟨b, 0, none⟩)) (ticked 25 991) rfl (by as_aux_lemma => kernel_rfl) rfl rfl rfl (by exact y_k rfl rfl (fun _ => by kernel_rfl)) ?_
  refine a_y (i := 12) (v := .pointer (some ⟨b, 0, none⟩)) (ticked 25 5087) rfl (by as_aux_lemma => kernel_rfl) rfl rfl rfl (by exact y_mv rfl) ?_
  refine a_y (i := 13) (v := .pointer (some ⟨b, 0, none⟩)) (ticked 25 13279) rfl (by as_aux_lemma => kernel_rfl) rfl rfl rfl (by exact y_k rfl rfl (fun _ => by kernel_rfl)) ?_
  refine a_y (i := 14) (v := .pointer (some ⟨b, 0, none⟩)) (ticked 25 29663) rfl (by as_aux_lemma => kernel_rfl) rfl rfl rfl (by exact y_k rfl rfl (fun _ => by kernel_rfl)) ?_
  refine a_y (i := 15) (v := .pointer (some ⟨b, 0, none⟩)) (ticked 25 62431) rfl (by as_aux_lemma => kernel_rfl) rfl rfl rfl (by exact y_k rfl rfl (fun _ => by kernel_rfl)) ?_
  refine a_y (i := 19) (v := .slice B r.length d) (ticked 25 586719) rfl (by as_aux_lemma => kernel_rfl) rfl rfl rfl (by exact y_mv rfl) ?_
  refine a_held (i := 5) (ticked 25 586751) rfl (by as_aux_lemma => kernel_rfl) rfl rfl rfl (held_pt 0 rfl rfl held_nil) (h_ld 0 rfl rfl Tryd.underlying22 rfl) ?_
  refine a_held (i := 10) (ticked 25 587775) rfl (by as_aux_lemma => kernel_rfl) rfl rfl rfl (held_pt 0 rfl rfl held_nil) (h_ld 0 rfl rfl Tryd.underlying22 rfl) ?_
  refine a_y (i := 11) (v := .int .i64 (l.length : Int)) (ticked 25 589823) rfl (by as_aux_lemma => kernel_rfl) rfl rfl rfl (by exact y_k rfl rfl (fun _ => by kernel_rfl)) ?_
  refine a_held (i := 16) (ticked 25 655359) rfl (by as_aux_lemma => kernel_rfl) rfl rfl rfl (held_pt 0 rfl rfl held_nil) (h_ld 0 rfl rfl Tryd.underlying22 rfl) ?_
  refine a_y (i := 17) (v := .int .i64 (l.length : Int)) (ticked 25 786431) rfl (by as_aux_lemma => kernel_rfl) rfl rfl rfl (by exact y_k rfl rfl (fun _ => by kernel_rfl)) ?_
  refine e_len 0 rfl (fun h1 h2 => ?_)
  refine e_cut2 (l2 := l) 0 0 l.length l.length (by simp) rfl (by omega) (by omega) (by omega) ?_
  refine a_y (i := 18) (v := .slice (cutA recTy A 0 l.length) l.length (l.length - 0)) (ticked 25 1048575) rfl (by as_aux_lemma => kernel_rfl) rfl rfl rfl (by exact y_cut (d := recTy) (l := l) (l2 := l) 0 l.length l.length (by simp) rfl rfl .no (.at l.length rfl (rfl)) (.at l.length rfl (rfl)) (by simp) Tryd.underlying22 (by kernel_rfl) (by kernel_rfl) (by omega) (by omega) (by omega) (by omega)) ?_
  refine a_each (rs := [20]) (by as_aux_lemma => kernel_rfl) (.cons (ticked 25 2097151) rfl rfl rfl (o_appfull (d := recTy) (l := l) (us := r) rfl rfl rfl (by first | rfl | omega) rfl (src_rd 0 rfl) (src_rd 2 rfl) (by assumption) Tryd.underlying22 (elem_of (z := .agg #[.int .i64 0, .int .i64 0, .int .i64 0, .int .i64 0, .int .i64 0, .int .u64 0, .int .i64 0]) (sz := 7) (bytes := 56) (by kernel_rfl) rfl) (by first | omega | (simp only [List.take_length, List.drop_zero]; omega)) rfl rfl (fun A1 c1 => ?_)) .nil) (List.cons_ne_nil _ _)
  refine a_and (held_pt 1 rfl rfl held_nil) ?_
  refine a_y (i := 21) (v := .pointer (some ⟨b, 0, none⟩)) (ticked 25 4194303) rfl (by as_aux_lemma => kernel_rfl) rfl rfl rfl (by exact y_k rfl rfl (fun _ => by kernel_rfl)) ?_
  refine a_y (i := 22) (v := .pointer (some ⟨b, 0, none⟩)) (ticked 25 8388607) rfl (by as_aux_lemma => kernel_rfl) rfl rfl rfl (by exact y_k rfl rfl (fun _ => by kernel_rfl)) ?_
  refine a_y (i := 23) (v := .pointer (some ⟨b, 0, none⟩)) (ticked 25 16777215) rfl (by as_aux_lemma => kernel_rfl) rfl rfl rfl (by exact y_k rfl rfl (fun _ => by kernel_rfl)) ?_
  refine a_each (rs := [24]) (by as_aux_lemma => kernel_rfl) (.last (ticked 25 33554431) rfl rfl rfl rfl (o_st 1 rfl rfl rfl rfl rfl (by kernel_rfl) (by kernel_rfl) rfl ?_) .nil) (List.cons_ne_nil _ _)
  refine a_done (by as_aux_lemma => kernel_rfl) ?_
  refine q_then ?_
  refine c_seq ?_
  refine c_region ?_
  refine st rfl (o_y (v := .pointer (some ⟨b, 0, none⟩)) (y_mv rfl) rfl rfl rfl ?_)
  refine st rfl (o_y (v := .pointer (some ⟨b, 0, none⟩)) (y_k rfl rfl (fun _ => by kernel_rfl)) rfl rfl rfl ?_)
  refine st rfl (o_y (v := .pointer (some ⟨b, 0, none⟩)) (y_k rfl rfl (fun _ => by kernel_rfl)) rfl rfl rfl ?_)
  refine st rfl (o_y (v := .pointer (some ⟨b, 0, none⟩)) (y_k rfl rfl (fun _ => by kernel_rfl)) rfl rfl rfl ?_)
  refine st rfl (o_ld 1 rfl rfl rfl Tryd.underlying22 rfl rfl ?_)
  refine st rfl (o_lend [0] [] [] (Right_ A1 c1 (l ++ r) (by first | assumption | omega | (simp; done) | (simp; omega))) (.cons lend_ars .nil) rfl rfl rfl rfl rfl rfl rfl rfl (fun v L' I' hq1 => ?_))
  obtain ⟨hv1, rfl, rfl⟩ := hq1
  refine ⟨rfl, ?_⟩
  refine e_by (logRight (l ++ r)) (fun h3 => ?_) (fun h3 => ?_)
  ·
    obtain rfl : v = .bool true := by rw [hv1, decide_eq_true h3]
    refine st rfl (o_y (v := .bool false) (y_k rfl rfl (fun _ => by kernel_rfl)) rfl rfl rfl ?_)
    refine s_nil ?_
    refine q_then ?_
    refine c_false rfl ?_
    refine c_skip ?_
    refine c_fin_end (I' := []) [1, 0] [1, 2, 3, 4] rfl .nil rfl rfl rfl ?_
    exact .inl ⟨A1, c1, h3, rfl, rfl, rfl⟩
  ·
    obtain rfl : v = .bool false := by rw [hv1, decide_eq_false h3]
    refine st rfl (o_y (v := .bool true) (y_k rfl rfl (fun _ => by kernel_rfl)) rfl rfl rfl ?_)
    refine s_nil ?_
    refine q_then ?_
    refine c_true rfl ?_
    refine c_region ?_
    refine st rfl (o_y (v := .pointer (some ⟨b, 0, none⟩)) (y_mv rfl) rfl rfl rfl ?_)
    refine st rfl (o_ldf 3 0 rfl rfl rfl Tryd.underlying53 rfl rfl ?_)
    refine st rfl (o_y (v := .pointer (some ⟨b, 0, none⟩)) (y_k rfl rfl (fun _ => by kernel_rfl)) rfl rfl rfl ?_)
    refine st rfl (o_y (v := .pointer (some ⟨b, 1, none⟩)) (y_k rfl rfl (fun _ => by kernel_rfl)) rfl rfl rfl ?_)
    refine st rfl (o_st 1 rfl rfl rfl rfl rfl (by kernel_rfl) (by kernel_rfl) rfl ?_)
    refine s_nil ?_
    refine c_fin_end (I' := []) [1, 0] [1, 2, 3, 4] rfl .nil rfl rfl rfl ?_
    exact .inr ⟨A1, c1, h3, rfl, rfl, rfl⟩
theorem Append_ (A : Option Addr) (c : Nat) (l : List Rec) (x : Rec) (el : Addr) (hs : l.length ≤ 100000) : Con Tryd.prog 11 [.slice A l.length c, .agg #[.int .i64 x.st, .int .i64 x.who, .int .i64 x.op, .int .i64 x.e, .int .i64 x.lab.lv, .int .u64 (x.lab.cs : Int), .int .i64 x.lab.ig]] [] [rd recTy A c l, cellsAt 0 0 [.iface 106 (.pointer (some el))], errAt el] (fun v L' I' => ∃ A1 : Option Addr, ∃ c1 : Nat, v = .tuple #[.slice A1 ((appF l x).1).length c1, .int .i64 ((appF l x).2)] ∧ L' = [] ∧ I' = [rd recTy A1 c1 ((appF l x).1)]) := by
  refine fn_of Tryd.func11 rfl Tryd.ntmps11 (by kernel_rfl) rfl (fun C => ?_)
  refine c_seq ?_
  refine c_region ?_
  refine st rfl (o_box (cs := [.int .i64 x.st, .int .i64 x.who, .int .i64 x.op, .int .i64 x.e, .int .i64 x.lab.lv, .int .u64 (x.lab.cs : Int), .int .i64 x.lab.ig]) (T := 28) rfl rfl rfl rfl (fun _ => by kernel_rfl) (fun b1 => ?_))
  refine st rfl (o_y (v := .slice none 0 0) (y_as rfl) rfl rfl rfl ?_)
  refine st rfl (o_y (v := .int .i64 0) (y_as rfl) rfl rfl rfl ?_)
  refine s_nil ?_
  refine q_then ?_
  refine c_scope 0 rfl ?_
  refine c_seq ?_
  refine c_region ?_
  refine st rfl (o_y (v := .slice A l.length c) (y_mv rfl) rfl rfl rfl ?_)
  refine st rfl (o_y (v := .agg #[.slice A l.length c]) (y_k rfl rfl (fun _ => by kernel_rfl)) rfl rfl rfl ?_)
  refine st rfl (o_y (v := .agg #[.slice A l.length c, .nilIface]) (y_k rfl rfl (fun _ => by kernel_rfl)) rfl rfl rfl ?_)
  refine st rfl (o_box (cs := [.slice A l.length c, .nilIface]) (T := 55) rfl rfl rfl rfl (fun _ => by kernel_rfl) (fun b2 => ?_))
  refine st rfl (o_y (v := .pointer (some ⟨b2, 0, none⟩)) (y_as rfl) rfl rfl rfl ?_)
  refine s_nil ?_
  refine q_then ?_
  refine c_seq ?_
  refine c_region ?_
  refine st rfl (o_y (v := .pointer (some ⟨b2, 0, none⟩)) (y_mv rfl) rfl rfl rfl ?_)
  refine st rfl (o_ldn 1 7 rfl rfl rfl rfl Tryd.underlying28 rfl (by kernel_rfl) (by kernel_rfl) rfl ?_)
  refine st rfl (o_lit (cs := [.int .i64 x.st, .int .i64 x.who, .int .i64 x.op, .int .i64 x.e, .int .i64 x.lab.lv, .int .u64 (x.lab.cs : Int), .int .i64 x.lab.ig]) (T := 28) (m := 1) rfl rfl rfl rfl (fun _ => by kernel_rfl) (fun b3 => ?_))
  refine e_calm 0 rfl ?_
  refine e_lit recTy [x] 0 rfl rfl (by simp) ?_
  refine st rfl (o_call [0] [2, 0, 3, 4] (write_ A c l b2 (some ⟨b3, 0, none⟩) 1 [x] (by first | assumption | omega | (simp; done)) (by first | assumption | omega | (simp; done) | (simp; omega)) el) rfl rfl rfl rfl rfl rfl (fun v L' I' hq1 => ?_))
  rcases hq1 with ⟨A1, c1, h1, rfl, rfl, rfl⟩ | ⟨A2, c2, h2, rfl, rfl, rfl⟩
  ·
    refine s_nil ?_
    refine q_then ?_
    refine c_seq ?_
    refine c_seq ?_
    refine c_region ?_
    refine st rfl (o_y (v := .pointer (some ⟨b2, 0, none⟩)) (y_mv rfl) rfl rfl rfl ?_)
    refine st rfl (o_y (v := .pointer (some ⟨b2, 0, none⟩)) (y_k rfl rfl (fun _ => by kernel_rfl)) rfl rfl rfl ?_)
    refine st rfl (o_y (v := .pointer (some ⟨b2, 1, none⟩)) (y_k rfl rfl (fun _ => by kernel_rfl)) rfl rfl rfl ?_)
    refine st rfl (o_ld 0 rfl rfl rfl Tryd.underlying53 rfl rfl ?_)
    refine st rfl (o_y (v := .bool false) (y_k rfl rfl (fun _ => by kernel_rfl)) rfl rfl rfl ?_)
    refine s_nil ?_
    refine q_then ?_
    refine c_false rfl ?_
    refine c_skip ?_
    refine q_then ?_
    refine c_seq ?_
    refine c_seq ?_
    refine c_region ?_
    refine st rfl (o_y (v := .pointer (some ⟨b2, 0, none⟩)) (y_mv rfl) rfl rfl rfl ?_)
    refine st rfl (o_y (v := .pointer (some ⟨b2, 0, none⟩)) (y_k rfl rfl (fun _ => by kernel_rfl)) rfl rfl rfl ?_)
    refine st rfl (o_y (v := .pointer (some ⟨b2, 0, none⟩)) (y_k rfl rfl (fun _ => by kernel_rfl)) rfl rfl rfl ?_)
    refine st rfl (o_y (v := .pointer (some ⟨b2, 0, none⟩)) (y_k rfl rfl (fun _ => by kernel_rfl)) rfl rfl rfl ?_)
    refine st rfl (o_ld 0 rfl rfl rfl Tryd.underlying22 rfl rfl ?_)
    refine st rfl (o_y (v := .slice A1 (l ++ [x]).length c1) (y_as rfl) rfl rfl rfl ?_)
    refine st rfl (o_y (v := .int .i64 0) (y_as rfl) rfl rfl rfl ?_)
    refine s_nil ?_
    refine q_then ?_
    refine c_ret ?_
    refine q_then_ret ?_
    refine q_jt_ret ?_
    refine e_still 1 rfl ?_
    have hp : appF l x = (l ++ [x], 0) := by first | exact if_pos (by assumption) | exact if_neg (by assumption)
    refine c_fin (I' := [rd recTy A1 c1 (l ++ [x])]) [] [0, 3, 4, 5] rfl (.tmp rfl (.tmp rfl .nil)) rfl rfl rfl ?_
    rw [hp]
    exact ⟨_, _, rfl, rfl, rfl⟩
  ·
    refine s_nil ?_
    refine q_then ?_
    refine c_seq ?_
    refine c_seq ?_
    refine c_region ?_
    refine st rfl (o_y (v := .pointer (some ⟨b2, 0, none⟩)) (y_mv rfl) rfl rfl rfl ?_)
    refine st rfl (o_y (v := .pointer (some ⟨b2, 0, none⟩)) (y_k rfl rfl (fun _ => by kernel_rfl)) rfl rfl rfl ?_)
    refine st rfl (o_y (v := .pointer (some ⟨b2, 1, none⟩)) (y_k rfl rfl (fun _ => by kernel_rfl)) rfl rfl rfl ?_)
    refine st rfl (o_ld 0 rfl rfl rfl Tryd.underlying53 rfl rfl ?_)
    refine st rfl (o_y (v := .bool true) (y_k rfl rfl (fun _ => by kernel_rfl)) rfl rfl rfl ?_)
    refine s_nil ?_
    refine q_then ?_
    refine c_true rfl ?_
    refine c_goto ?_
    refine q_then_goto ?_
    refine q_jt_goto ?_
    refine c_seq ?_
    refine c_skip ?_
    refine q_then ?_
    refine c_seq ?_
    refine c_region ?_
    refine st rfl (o_y (v := .pointer (some ⟨b2, 0, none⟩)) (y_mv rfl) rfl rfl rfl ?_)
    refine st rfl (o_y (v := .pointer (some ⟨b2, 0, none⟩)) (y_k rfl rfl (fun _ => by kernel_rfl)) rfl rfl rfl ?_)
    refine st rfl (o_y (v := .pointer (some ⟨b2, 1, none⟩)) (y_k rfl rfl (fun _ => by kernel_rfl)) rfl rfl rfl ?_)
    refine st rfl (o_ld 0 rfl rfl rfl Tryd.underlying53 rfl rfl ?_)
    refine st rfl (o_call [] [3, 4] (told_log_ el) rfl rfl rfl rfl rfl rfl (fun v L' I' hq2 => ?_))
    obtain ⟨rfl, rfl, rfl⟩ := hq2
    refine st rfl (o_y (v := .slice none 0 0) (y_as rfl) rfl rfl rfl ?_)
    refine st rfl (o_y (v := .int .i64 180) (y_as rfl) rfl rfl rfl ?_)
    refine s_nil ?_
    refine q_then ?_
    refine c_ret ?_
    refine q_nj_ret ?_
    refine e_rdnil recTy none 0 ?_
    have hp : appF l x = ([], 180) := by first | exact if_pos (by assumption) | exact if_neg (by assumption)
    refine c_fin (I' := [rd recTy none 0 []]) [] [0, 3, 4, 5] rfl (.tmp rfl (.tmp rfl .nil)) rfl rfl rfl ?_
    rw [hp]
    exact ⟨_, _, rfl, rfl, rfl⟩
theorem rAppend_ (A : Option Addr) (c : Nat) (l : List Rec) (x : Rec) (hs : l.length ≤ 100000) : Con Tryd.prog 12 [.slice A l.length c, .agg #[.int .i64 x.st, .int .i64 x.who, .int .i64 x.op, .int .i64 x.e, .int .i64 x.lab.lv, .int .u64 (x.lab.cs : Int), .int .i64 x.lab.ig]] [] [rd recTy A c l] (fun v L' I' => ∃ A1 : Option Addr, ∃ c1 : Nat, v = .tuple #[.slice A1 ((appF l x).1).length c1, .int .i64 ((appF l x).2)] ∧ L' = [] ∧ I' = [rd recTy A1 c1 ((appF l x).1)]) := by
  refine fn_of Tryd.func12 rfl Tryd.ntmps12 (by kernel_rfl) rfl (fun C => ?_)
  refine c_seq ?_
  refine c_region ?_
  refine st rfl (o_box (cs := [.int .i64 x.st, .int .i64 x.who, .int .i64 x.op, .int .i64 x.e, .int .i64 x.lab.lv, .int .u64 (x.lab.cs : Int), .int .i64 x.lab.ig]) (T := 28) rfl rfl rfl rfl (fun _ => by kernel_rfl) (fun b1 => ?_))
  refine st rfl (o_y (v := .slice none 0 0) (y_as rfl) rfl rfl rfl ?_)
  refine st rfl (o_y (v := .int .i64 0) (y_as rfl) rfl rfl rfl ?_)
  refine s_nil ?_
  refine q_then ?_
  refine c_seq ?_
  refine c_region ?_
  refine st rfl (o_y (v := .slice none 0 0) (y_as rfl) rfl rfl rfl ?_)
  refine s_nil ?_
  refine q_then ?_
  refine c_seq ?_
  refine c_drawx (l := ticked 7 0) [(⟨b1, 0, none⟩, .int .i64 x.st), (⟨b1, 1, none⟩, .int .i64 x.who), (⟨b1, 2, none⟩, .int .i64 x.op), (⟨b1, 3, none⟩, .int .i64 x.e), (⟨b1, 4, none⟩, .int .i64 x.lab.lv), (⟨b1, 5, none⟩, .int .u64 (x.lab.cs : Int)), (⟨b1, 6, none⟩, .int .i64 x.lab.ig)] [] (by kernel_rfl) rfl rfl (fun Y back => ?_)
  have cut1 : ∀ (b2 : Nat) (A1 : Option Addr) (c1 : Nat), Ent 17 C [(4, .slice none 0 0), (5, .int .i64 0), (6, .slice A1 (l ++ [x]).length c1)] [] [pt b2 [.int .i64 x.st, .int .i64 x.who, .int .i64 x.op, .int .i64 x.e, .int .i64 x.lab.lv, .int .u64 (x.lab.cs : Int), .int .i64 x.lab.ig] 28, ars recTy 28 A1 c1 (l ++ [x]), pt b1 [.int .i64 x.st, .int .i64 x.who, .int .i64 x.op, .int .i64 x.e, .int .i64 x.lab.lv, .int .u64 (x.lab.cs : Int), .int .i64 x.lab.ig] 28] [rd recTy A c l] Y := by
    intro b2 A1 c1
    refine back ?_
    refine q_then ?_
    refine c_seq ?_
    refine c_seq ?_
    refine c_region ?_
    refine st rfl (o_y (v := .slice A1 (l ++ [x]).length c1) (y_mv rfl) rfl rfl rfl ?_)
    refine st rfl (o_lend [1] [] [] (rRight_ A1 c1 (l ++ [x]) (by first | assumption | omega | (simp; done) | (simp; omega))) (.cons lend_ars .nil) rfl rfl rfl rfl rfl rfl rfl rfl (fun v L' I' hq1 => ?_))
    obtain ⟨hv1, rfl, rfl⟩ := hq1
    refine ⟨rfl, ?_⟩
    refine e_by (logRight (l ++ [x])) (fun h1 => ?_) (fun h1 => ?_)
    ·
      obtain rfl : v = .bool true := by rw [hv1, decide_eq_true h1]
      refine st rfl (o_y (v := .bool false) (y_k rfl rfl (fun _ => by kernel_rfl)) rfl rfl rfl ?_)
      refine s_nil ?_
      refine q_then ?_
      refine c_false rfl ?_
      refine c_skip ?_
      refine q_then ?_
      refine c_seq ?_
      refine c_region ?_
      refine st rfl (o_y (v := .slice A1 (l ++ [x]).length c1) (y_mv rfl) rfl rfl rfl ?_)
      refine st rfl (o_y (v := .slice A1 (l ++ [x]).length c1) (y_as rfl) rfl rfl rfl ?_)
      refine st rfl (o_y (v := .int .i64 0) (y_as rfl) rfl rfl rfl ?_)
      refine s_nil ?_
      refine q_then ?_
      refine c_ret ?_
      refine e_still 0 rfl ?_
      have hp : appF l x = (l ++ [x], 0) := by first | exact if_pos (by assumption) | exact if_neg (by assumption)
      refine c_fin (I' := [rd recTy A1 c1 (l ++ [x])]) [] [0, 1] rfl (.tmp rfl (.tmp rfl .nil)) rfl rfl rfl ?_
      rw [hp]
      exact ⟨_, _, rfl, rfl, rfl⟩
    ·
      obtain rfl : v = .bool false := by rw [hv1, decide_eq_false h1]
      refine st rfl (o_y (v := .bool true) (y_k rfl rfl (fun _ => by kernel_rfl)) rfl rfl rfl ?_)
      refine s_nil ?_
      refine q_then ?_
      refine c_true rfl ?_
      refine c_seq ?_
      refine c_region ?_
      refine st rfl (o_y (v := .slice none 0 0) (y_as rfl) rfl rfl rfl ?_)
      refine st rfl (o_y (v := .int .i64 180) (y_as rfl) rfl rfl rfl ?_)
      refine s_nil ?_
      refine q_then ?_
      refine c_ret ?_
      refine q_then_ret ?_
      refine e_rdnil recTy none 0 ?_
      have hp : appF l x = ([], 180) := by first | exact if_pos (by assumption) | exact if_neg (by assumption)
      refine c_fin (I' := [rd recTy none 0 []]) [] [0, 1] rfl (.tmp rfl (.tmp rfl .nil)) rfl rfl rfl ?_
      rw [hp]
      exact ⟨_, _, rfl, rfl, rfl⟩
  refine a_y (i := 0) (v := .slice none 0 0) (ticked 7 1) rfl (by as_aux_lemma => kernel_rfl) rfl rfl rfl (by exact y_mv rfl) ?_
  refine a_y (i := 1) (v := .slice A l.length c) (ticked 7 3) rfl (by as_aux_lemma => kernel_rfl) rfl rfl rfl (by exact y_mv rfl) ?_
  refine a_held (i := 3) (ticked 7 11) rfl (by as_aux_lemma => kernel_rfl) rfl rfl rfl (held_pt 0 rfl rfl (held_pt 0 rfl rfl (held_pt 0 rfl rfl (held_pt 0 rfl rfl (held_pt 0 rfl rfl (held_pt 0 rfl rfl (held_pt 0 rfl rfl held_nil))))))) (h_ldn (vs := [.int .i64 x.st, .int .i64 x.who, .int .i64 x.op, .int .i64 x.e, .int .i64 x.lab.lv, .int .u64 (x.lab.cs : Int), .int .i64 x.lab.ig]) 0 7 rfl rfl rfl Tryd.underlying28 rfl (by kernel_rfl) (by kernel_rfl)) ?_
  refine a_each (rs := [2, 4]) (by as_aux_lemma => kernel_rfl) (.cons (ticked 7 15) rfl rfl rfl ?_ (.cons (ticked 7 27) rfl rfl rfl ?_ .nil)) (List.cons_ne_nil _ _)
  ·
    refine e_nil recTy 28 ?_
    refine o_app (l := ([] : List Rec)) (us := l) 0 rfl rfl rfl rfl rfl (src_rd 0 rfl) Tryd.underlying22 (elem_of (z := .agg #[.int .i64 0, .int .i64 0, .int .i64 0, .int .i64 0, .int .i64 0, .int .u64 0, .int .i64 0]) (sz := 7) (bytes := 56) (by kernel_rfl) rfl) rfl (by simp only [List.length_nil, List.length_cons, List.length_append]; omega) rfl rfl (fun A2 c2 => ?_)
    refine a_and (held_pt 1 rfl rfl (held_pt 1 rfl rfl (held_pt 1 rfl rfl (held_pt 1 rfl rfl (held_pt 1 rfl rfl (held_pt 1 rfl rfl (held_pt 1 rfl rfl held_nil))))))) ?_
    refine a_each (rs := [4]) (by as_aux_lemma => kernel_rfl) (.cons (ticked 7 31) rfl rfl rfl (o_lit (cs := [.int .i64 x.st, .int .i64 x.who, .int .i64 x.op, .int .i64 x.e, .int .i64 x.lab.lv, .int .u64 (x.lab.cs : Int), .int .i64 x.lab.ig]) (T := 28) (m := 1) rfl rfl rfl rfl (fun _ => by kernel_rfl) (fun b3 => ?_)) .nil) (List.cons_ne_nil _ _)
    refine a_and (held_pt 2 rfl rfl (held_pt 2 rfl rfl (held_pt 2 rfl rfl (held_pt 2 rfl rfl (held_pt 2 rfl rfl (held_pt 2 rfl rfl (held_pt 2 rfl rfl held_nil))))))) ?_
    refine a_each (rs := [5]) (by as_aux_lemma => kernel_rfl) (.cons (ticked 7 63) rfl rfl rfl (o_app (l := l) (us := [x]) 1 rfl rfl rfl rfl rfl (src_pt 0 rfl) Tryd.underlying22 (elem_of (z := .agg #[.int .i64 0, .int .i64 0, .int .i64 0, .int .i64 0, .int .i64 0, .int .u64 0, .int .i64 0]) (sz := 7) (bytes := 56) (by kernel_rfl) rfl) rfl (by simp only [List.length_nil, List.length_cons, List.length_append]; omega) rfl rfl (fun A3 c3 => ?_)) .nil) (List.cons_ne_nil _ _)
    refine a_and (held_pt 2 rfl rfl (held_pt 2 rfl rfl (held_pt 2 rfl rfl (held_pt 2 rfl rfl (held_pt 2 rfl rfl (held_pt 2 rfl rfl (held_pt 2 rfl rfl held_nil))))))) ?_
    refine a_y (i := 6) (v := .slice A3 (l ++ [x]).length c3) (ticked 7 127) rfl (by as_aux_lemma => kernel_rfl) rfl rfl rfl (by exact y_as rfl) ?_
    refine a_done (by as_aux_lemma => kernel_rfl) ?_
    refine e_norm (e' := [(4, .slice none 0 0), (5, .int .i64 0), (6, .slice A3 (l ++ [x]).length c3)]) [0, 0, 0] [0] ((.cons rfl rfl (.cons rfl rfl (.cons rfl rfl .nil)))) rfl rfl ?_
    exact cut1 b3 A3 c3
  ·
    refine o_lit (cs := [.int .i64 x.st, .int .i64 x.who, .int .i64 x.op, .int .i64 x.e, .int .i64 x.lab.lv, .int .u64 (x.lab.cs : Int), .int .i64 x.lab.ig]) (T := 28) (m := 1) rfl rfl rfl rfl (fun _ => by kernel_rfl) (fun b4 => ?_)
    refine a_and (held_pt 1 rfl rfl (held_pt 1 rfl rfl (held_pt 1 rfl rfl (held_pt 1 rfl rfl (held_pt 1 rfl rfl (held_pt 1 rfl rfl (held_pt 1 rfl rfl held_nil))))))) ?_
    refine e_nil recTy 28 ?_
    refine a_each (rs := [2]) (by as_aux_lemma => kernel_rfl) (.cons (ticked 7 31) rfl rfl rfl (o_app (l := ([] : List Rec)) (us := l) 0 rfl rfl rfl rfl rfl (src_rd 0 rfl) Tryd.underlying22 (elem_of (z := .agg #[.int .i64 0, .int .i64 0, .int .i64 0, .int .i64 0, .int .i64 0, .int .u64 0, .int .i64 0]) (sz := 7) (bytes := 56) (by kernel_rfl) rfl) rfl (by simp only [List.length_nil, List.length_cons, List.length_append]; omega) rfl rfl (fun A4 c4 => ?_)) .nil) (List.cons_ne_nil _ _)
    refine a_and (held_pt 2 rfl rfl (held_pt 2 rfl rfl (held_pt 2 rfl rfl (held_pt 2 rfl rfl (held_pt 2 rfl rfl (held_pt 2 rfl rfl (held_pt 2 rfl rfl held_nil))))))) ?_
    refine a_each (rs := [5]) (by as_aux_lemma => kernel_rfl) (.cons (ticked 7 63) rfl rfl rfl (o_app (l := l) (us := [x]) 0 rfl rfl rfl rfl rfl (src_pt 1 rfl) Tryd.underlying22 (elem_of (z := .agg #[.int .i64 0, .int .i64 0, .int .i64 0, .int .i64 0, .int .i64 0, .int .u64 0, .int .i64 0]) (sz := 7) (bytes := 56) (by kernel_rfl) rfl) rfl (by simp only [List.length_nil, List.length_cons, List.length_append]; omega) rfl rfl (fun A5 c5 => ?_)) .nil) (List.cons_ne_nil _ _)
    refine a_and (held_pt 2 rfl rfl (held_pt 2 rfl rfl (held_pt 2 rfl rfl (held_pt 2 rfl rfl (held_pt 2 rfl rfl (held_pt 2 rfl rfl (held_pt 2 rfl rfl held_nil))))))) ?_
    refine a_y (i := 6) (v := .slice A5 (l ++ [x]).length c5) (ticked 7 127) rfl (by as_aux_lemma => kernel_rfl) rfl rfl rfl (by exact y_as rfl) ?_
    refine a_done (by as_aux_lemma => kernel_rfl) ?_
    refine e_norm (e' := [(4, .slice none 0 0), (5, .int .i64 0), (6, .slice A5 (l ++ [x]).length c5)]) [1, 0, 0] [0] ((.cons rfl rfl (.cons rfl rfl (.cons rfl rfl .nil)))) rfl rfl ?_
    exact cut1 b4 A5 c5
theorem rSame_ (A : Option Addr) (c : Nat) (l : List Rec) (B : Option Addr) (d : Nat) (r : List Rec) (hs : l.length ≤ 1000000) : Con Tryd.prog 13 [.slice A l.length c, .slice B r.length d] [] [rd recTy A c l, rd recTy B d r] (fun v L' I' => v = .bool (decide (l = r)) ∧ L' = [] ∧ I' = []) := by
  refine fn_of Tryd.func13 rfl Tryd.ntmps13 (by kernel_rfl) rfl (fun C => ?_)
  refine c_seq ?_
  refine c_region ?_
  refine st rfl (o_y (v := .bool false) (y_as rfl) rfl rfl rfl ?_)
  refine s_nil ?_
  refine q_then ?_
  refine c_seq ?_
  refine c_seq ?_
  refine c_region ?_
  refine st rfl (o_y (v := .slice A l.length c) (y_mv rfl) rfl rfl rfl ?_)
  refine st rfl (o_y (v := .int .i64 (l.length : Int)) (y_k rfl rfl (fun _ => by kernel_rfl)) rfl rfl rfl ?_)
  refine st rfl (o_y (v := .slice B r.length d) (y_mv rfl) rfl rfl rfl ?_)
  refine st rfl (o_y (v := .int .i64 (r.length : Int)) (y_k rfl rfl (fun _ => by kernel_rfl)) rfl rfl rfl ?_)
  refine e_by ((l.length : Int) = (r.length : Int)) (fun h1 => ?_) (fun h1 => ?_)
  ·
    refine st rfl (o_y (v := .bool false) (y_b (y_k (v := .bool ((l.length : Int) != (r.length : Int))) rfl rfl (fun _ => by kernel_rfl)) (bne_eq_false_iff_eq.2 h1)) rfl rfl rfl ?_)
    refine s_nil ?_
    refine q_then ?_
    refine c_false rfl ?_
    refine c_skip ?_
    refine q_then ?_
    refine c_seq ?_
    refine c_seq ?_
    refine c_region ?_
    refine st rfl (o_y (v := .int .i64 0) (y_as rfl) rfl rfl rfl ?_)
    refine s_nil ?_
    refine q_then ?_
    refine c_block ?_
    refine c_loopn (ι := Nat) (fun k => (k ≤ l.length) ∧ (l.take k = r.take k)) (fun k => [(0, .slice A l.length c), (1, .slice B r.length d), (5, .int .i64 (k : Int))]) (fun k => []) (fun k => [rd recTy A c l, rd recTy B d r]) (fun k => l.length - k) (0) [] [0, 1] (show (0 ≤ l.length) ∧ (l.take 0 = r.take 0) from ⟨by first | omega | simp_all | (simp; done), by simp⟩) ((.cons rfl rfl (.cons rfl rfl (.cons rfl rfl .nil)))) rfl rfl ?_
    rintro k ⟨hk, he⟩
    show Ent 26 C [(0, .slice A l.length c), (1, .slice B r.length d), (5, .int .i64 (k : Int))] [] [] [rd recTy A c l, rd recTy B d r] _
    refine c_seq ?_
    refine c_seq ?_
    refine c_region ?_
    refine st rfl (o_y (v := .int .i64 (k : Int)) (y_mv rfl) rfl rfl rfl ?_)
    refine st rfl (o_y (v := .slice A l.length c) (y_mv rfl) rfl rfl rfl ?_)
    refine st rfl (o_y (v := .int .i64 (l.length : Int)) (y_k rfl rfl (fun _ => by kernel_rfl)) rfl rfl rfl ?_)
    refine e_by ((k : Int) < (l.length : Int)) (fun h2 => ?_) (fun h2 => ?_)
    ·
      refine st rfl (o_y (v := .bool true) (y_t (y_k (v := .bool (decide ((k : Int) < (l.length : Int)))) rfl rfl (fun _ => by kernel_rfl)) h2) rfl rfl rfl ?_)
      refine s_nil ?_
      refine q_then ?_
      refine c_true rfl ?_
      refine c_skip ?_
      refine q_then ?_
      refine c_seq ?_
      refine c_block ?_
      refine c_seq ?_
      refine e_at 0 k rfl (by first | omega | (simp only [List.length_append, List.length_map, List.length_take, List.length_drop]; omega)) (fun b1 o1 x1 hA1 hx1 => ?_)
      refine e_at 2 k rfl (by first | omega | (simp only [List.length_append, List.length_map, List.length_take, List.length_drop]; omega)) (fun b2 o2 x2 hA2 hx2 => ?_)
      refine c_draw (l := ticked 9 0) [(⟨b1, o1 + k * 7, none⟩, .int .i64 x1.st), (⟨b1, o1 + k * 7 + 1, none⟩, .int .i64 x1.who), (⟨b1, o1 + k * 7 + 2, none⟩, .int .i64 x1.op), (⟨b1, o1 + k * 7 + 3, none⟩, .int .i64 x1.e), (⟨b1, o1 + k * 7 + 4, none⟩, .int .i64 x1.lab.lv), (⟨b1, o1 + k * 7 + 5, none⟩, .int .u64 (x1.lab.cs : Int)), (⟨b1, o1 + k * 7 + 6, none⟩, .int .i64 x1.lab.ig), (⟨b2, o2 + k * 7, none⟩, .int .i64 x2.st), (⟨b2, o2 + k * 7 + 1, none⟩, .int .i64 x2.who), (⟨b2, o2 + k * 7 + 2, none⟩, .int .i64 x2.op), (⟨b2, o2 + k * 7 + 3, none⟩, .int .i64 x2.e), (⟨b2, o2 + k * 7 + 4, none⟩, .int .i64 x2.lab.lv), (⟨b2, o2 + k * 7 + 5, none⟩, .int .u64 (x2.lab.cs : Int)), (⟨b2, o2 + k * 7 + 6, none⟩, .int .i64 x2.lab.ig)] [] (by kernel_rfl) rfl rfl ?_
      refine a_y (i := 0) (v := .slice A l.length c) (ticked 9 1) rfl (by as_aux_lemma => kernel_rfl) rfl rfl rfl (by exact y_mv rfl) ?_
      refine a_y (i := 1) (v := .int .i64 (k : Int)) (ticked 9 3) rfl (by as_aux_lemma => kernel_rfl) rfl rfl rfl (by exact y_mv rfl) ?_
      refine a_y (i := 2) (v := .pointer (some ⟨b1, o1 + k * 7, none⟩)) (ticked 9 7) rfl (by as_aux_lemma => kernel_rfl) rfl rfl rfl (by exact y_at (d := recTy) (l := l) k hA1 rfl rfl rfl (rfl) (List.getElem?_eq_some_iff.1 hx1).1 Tryd.underlying22 (by kernel_rfl) (by kernel_rfl)) ?_
      refine a_y (i := 4) (v := .slice B r.length d) (ticked 9 23) rfl (by as_aux_lemma => kernel_rfl) rfl rfl rfl (by exact y_mv rfl) ?_
      refine a_y (i := 5) (v := .int .i64 (k : Int)) (ticked 9 55) rfl (by as_aux_lemma => kernel_rfl) rfl rfl rfl (by exact y_mv rfl) ?_
      refine a_y (i := 6) (v := .pointer (some ⟨b2, o2 + k * 7, none⟩)) (ticked 9 119) rfl (by as_aux_lemma => kernel_rfl) rfl rfl rfl (by exact y_at (d := recTy) (l := r) k hA2 rfl rfl rfl (rfl) (List.getElem?_eq_some_iff.1 hx2).1 Tryd.underlying22 (by kernel_rfl) (by kernel_rfl)) ?_
      refine a_held (i := 3) (ticked 9 127) rfl (by as_aux_lemma => kernel_rfl) rfl rfl rfl (held_fact (j := 0) 1 rfl rfl (held_fact (j := 1) 1 rfl rfl (held_fact (j := 2) 1 rfl rfl (held_fact (j := 3) 1 rfl rfl (held_fact (j := 4) 1 rfl rfl (held_fact (j := 5) 1 rfl rfl (held_fact (j := 6) 1 rfl rfl (held_fact (j := 0) 0 rfl rfl (held_fact (j := 1) 0 rfl rfl (held_fact (j := 2) 0 rfl rfl (held_fact (j := 3) 0 rfl rfl (held_fact (j := 4) 0 rfl rfl (held_fact (j := 5) 0 rfl rfl (held_fact (j := 6) 0 rfl rfl held_nil)))))))))))))) (h_ldn (vs := [.int .i64 x1.st, .int .i64 x1.who, .int .i64 x1.op, .int .i64 x1.e, .int .i64 x1.lab.lv, .int .u64 (x1.lab.cs : Int), .int .i64 x1.lab.ig]) 0 7 rfl rfl rfl Tryd.underlying28 rfl (by kernel_rfl) (by kernel_rfl)) ?_
      refine a_held (i := 7) (ticked 9 255) rfl (by as_aux_lemma => kernel_rfl) rfl rfl rfl (held_fact (j := 0) 1 rfl rfl (held_fact (j := 1) 1 rfl rfl (held_fact (j := 2) 1 rfl rfl (held_fact (j := 3) 1 rfl rfl (held_fact (j := 4) 1 rfl rfl (held_fact (j := 5) 1 rfl rfl (held_fact (j := 6) 1 rfl rfl (held_fact (j := 0) 0 rfl rfl (held_fact (j := 1) 0 rfl rfl (held_fact (j := 2) 0 rfl rfl (held_fact (j := 3) 0 rfl rfl (held_fact (j := 4) 0 rfl rfl (held_fact (j := 5) 0 rfl rfl (held_fact (j := 6) 0 rfl rfl held_nil)))))))))))))) (h_ldn (vs := [.int .i64 x2.st, .int .i64 x2.who, .int .i64 x2.op, .int .i64 x2.e, .int .i64 x2.lab.lv, .int .u64 (x2.lab.cs : Int), .int .i64 x2.lab.ig]) 7 7 rfl rfl rfl Tryd.underlying28 rfl (by kernel_rfl) (by kernel_rfl)) ?_
      refine e_by (x1 = x2) (fun h3 => ?_) (fun h3 => ?_)
      ·
        refine a_y (i := 8) (v := .bool false) (ticked 9 511) rfl (by as_aux_lemma => kernel_rfl) rfl rfl rfl (by exact y_nt (y_bin rfl rfl (fun w => eq_Recn x1 x2 w)) h3) ?_
        refine a_done (by as_aux_lemma => kernel_rfl) ?_
        refine q_then ?_
        refine c_false rfl ?_
        refine c_skip ?_
        refine q_block ?_
        refine q_then ?_
        refine c_region ?_
        refine st rfl (o_y (v := .int .i64 (k : Int)) (y_mv rfl) rfl rfl rfl ?_)
        refine st rfl (o_y (v := .int .i64 ((k : Int) + 1)) (y_add (r := (k : Int) + 1) rfl rfl rfl (by omega)) rfl rfl rfl ?_)
        refine st rfl (o_y (v := .int .i64 ((k : Int) + 1)) (y_as rfl) rfl rfl rfl ?_)
        refine s_nil ?_
        refine q_then ?_
        refine c_next [] [2, 3] (k + 1) ?_ ?_ ?_ (by rfl) (by rfl)
        · exact (show ((k + 1) ≤ l.length) ∧ (l.take (k + 1) = r.take (k + 1)) from ⟨by first | omega | simp_all | (simp; done), eq_step he hx1 hx2 (by assumption)⟩)
        · show l.length - (k + 1) < l.length - k; omega
        · exact (.cons rfl rfl (.cons rfl rfl (.cons rfl (show (.int .i64 ((k : Int) + 1) : Value) = .int .i64 ((k + 1) : Int) from by first | rfl | (congr 1; omega) | (congr 1; simp; done) | (congr 1; simp; omega)) .nil)))
      ·
        refine a_y (i := 8) (v := .bool true) (ticked 9 511) rfl (by as_aux_lemma => kernel_rfl) rfl rfl rfl (by exact y_nf (y_bin rfl rfl (fun w => eq_Recn x1 x2 w)) h3) ?_
        refine a_done (by as_aux_lemma => kernel_rfl) ?_
        refine q_then ?_
        refine c_true rfl ?_
        refine c_seq ?_
        refine c_region ?_
        refine st rfl (o_y (v := .bool false) (y_as rfl) rfl rfl rfl ?_)
        refine s_nil ?_
        refine q_then ?_
        refine c_ret ?_
        refine q_block_ret ?_
        refine q_then_ret ?_
        refine q_then_ret ?_
        refine q_block_ret ?_
        refine q_then_ret ?_
        refine c_fin (I' := []) [] [2, 3] rfl (.tmp rfl .nil) rfl rfl rfl ?_
        exact ⟨by show Value.bool _ = Value.bool _; congr 1; symm; first | exact decide_eq_true (by first | exact eq_end he (by omega) (by omega) | exact eq_not hx1 hx2 (by assumption) | exact eq_len (by assumption) | (intro hh; subst hh; first | omega | contradiction)) | exact decide_eq_false (by first | exact eq_end he (by omega) (by omega) | exact eq_not hx1 hx2 (by assumption) | exact eq_len (by assumption) | (intro hh; subst hh; first | omega | contradiction)), rfl, rfl⟩
    ·
      refine st rfl (o_y (v := .bool false) (y_f (y_k (v := .bool (decide ((k : Int) < (l.length : Int)))) rfl rfl (fun _ => by kernel_rfl)) h2) rfl rfl rfl ?_)
      refine s_nil ?_
      refine q_then ?_
      refine c_false rfl ?_
      refine c_exit ?_
      refine q_then_exit ?_
      refine q_then_exit ?_
      refine q_block_here ?_
      refine q_then ?_
      refine c_seq ?_
      refine c_region ?_
      refine st rfl (o_y (v := .bool true) (y_as rfl) rfl rfl rfl ?_)
      refine s_nil ?_
      refine q_then ?_
      refine c_ret ?_
      refine c_fin (I' := []) [] [0, 1] rfl (.tmp rfl .nil) rfl rfl rfl ?_
      exact ⟨by show Value.bool _ = Value.bool _; congr 1; symm; first | exact decide_eq_true (by first | exact eq_end he (by omega) (by omega) | exact eq_not hx1 hx2 (by assumption) | exact eq_len (by assumption) | (intro hh; subst hh; first | omega | contradiction)) | exact decide_eq_false (by first | exact eq_end he (by omega) (by omega) | exact eq_not hx1 hx2 (by assumption) | exact eq_len (by assumption) | (intro hh; subst hh; first | omega | contradiction)), rfl, rfl⟩
  ·
    refine st rfl (o_y (v := .bool true) (y_b (y_k (v := .bool ((l.length : Int) != (r.length : Int))) rfl rfl (fun _ => by kernel_rfl)) (bne_iff_ne.2 h1)) rfl rfl rfl ?_)
    refine s_nil ?_
    refine q_then ?_
    refine c_true rfl ?_
    refine c_seq ?_
    refine c_region ?_
    refine st rfl (o_y (v := .bool false) (y_as rfl) rfl rfl rfl ?_)
    refine s_nil ?_
    refine q_then ?_
    refine c_ret ?_
    refine q_then_ret ?_
    refine c_fin (I' := []) [] [0, 1] rfl (.tmp rfl .nil) rfl rfl rfl ?_
    exact ⟨by show Value.bool _ = Value.bool _; congr 1; symm; first | exact decide_eq_true (by first | exact eq_end he (by omega) (by omega) | exact eq_not hx1 hx2 (by assumption) | exact eq_len (by assumption) | (intro hh; subst hh; first | omega | contradiction)) | exact decide_eq_false (by first | exact eq_end he (by omega) (by omega) | exact eq_not hx1 hx2 (by assumption) | exact eq_len (by assumption) | (intro hh; subst hh; first | omega | contradiction)), rfl, rfl⟩
theorem Equal_ (A : Option Addr) (c : Nat) (l : List Rec) (B : Option Addr) (d : Nat) (r : List Rec) (hs : l.length ≤ 1000000) : Con Tryd.prog 45 [.slice A l.length c, .slice B r.length d] [] [rd recTy A c l, rd recTy B d r] (fun v L' I' => v = .bool (decide (l = r)) ∧ L' = [] ∧ I' = []) := by
  refine fn_of Tryd.func45 rfl Tryd.ntmps45 (by kernel_rfl) rfl (fun C => ?_)
  refine c_seq ?_
  refine c_region ?_
  refine st rfl (o_y (v := .bool false) (y_as rfl) rfl rfl rfl ?_)
  refine s_nil ?_
  refine q_then ?_
  refine c_seq ?_
  refine c_seq ?_
  refine c_region ?_
  refine st rfl (o_y (v := .slice A l.length c) (y_mv rfl) rfl rfl rfl ?_)
  refine st rfl (o_y (v := .int .i64 (l.length : Int)) (y_k rfl rfl (fun _ => by kernel_rfl)) rfl rfl rfl ?_)
  refine st rfl (o_y (v := .slice B r.length d) (y_mv rfl) rfl rfl rfl ?_)
  refine st rfl (o_y (v := .int .i64 (r.length : Int)) (y_k rfl rfl (fun _ => by kernel_rfl)) rfl rfl rfl ?_)
  refine e_by ((l.length : Int) = (r.length : Int)) (fun h1 => ?_) (fun h1 => ?_)
  ·
    refine st rfl (o_y (v := .bool false) (y_b (y_k (v := .bool ((l.length : Int) != (r.length : Int))) rfl rfl (fun _ => by kernel_rfl)) (bne_eq_false_iff_eq.2 h1)) rfl rfl rfl ?_)
    refine s_nil ?_
    refine q_then ?_
    refine c_false rfl ?_
    refine c_skip ?_
    refine q_then ?_
    refine c_seq ?_
    refine c_seq ?_
    refine c_region ?_
    refine st rfl (o_y (v := .slice A l.length c) (y_mv rfl) rfl rfl rfl ?_)
    refine st rfl (o_y (v := .int .i64 (l.length : Int)) (y_k rfl rfl (fun _ => by kernel_rfl)) rfl rfl rfl ?_)
    refine st rfl (o_y (v := .int .i64 0) (y_mv rfl) rfl rfl rfl ?_)
    refine s_nil ?_
    refine q_then ?_
    refine c_block ?_
    refine c_loopn (ι := Nat) (fun k => (k ≤ l.length) ∧ (l.take k = r.take k)) (fun k => [(0, .slice A l.length c), (1, .slice B r.length d), (12, .int .i64 (l.length : Int)), (13, .int .i64 (k : Int))]) (fun k => []) (fun k => [rd recTy A c l, rd recTy B d r]) (fun k => l.length - k) (0) [] [0, 1] (show (0 ≤ l.length) ∧ (l.take 0 = r.take 0) from ⟨by first | omega | simp_all | (simp; done), by simp⟩) ((.cons rfl rfl (.cons rfl rfl (.cons rfl rfl (.cons rfl rfl .nil))))) rfl rfl ?_
    rintro k ⟨hk, he⟩
    show Ent 26 C [(0, .slice A l.length c), (1, .slice B r.length d), (12, .int .i64 (l.length : Int)), (13, .int .i64 (k : Int))] [] [] [rd recTy A c l, rd recTy B d r] _
    refine c_seq ?_
    refine c_region ?_
    refine e_by ((k : Int) < (l.length : Int)) (fun h2 => ?_) (fun h2 => ?_)
    ·
      refine st rfl (o_y (v := .bool true) (y_t (y_k (v := .bool (decide ((k : Int) < (l.length : Int)))) rfl rfl (fun _ => by kernel_rfl)) h2) rfl rfl rfl ?_)
      refine s_nil ?_
      refine q_then ?_
      refine c_seq ?_
      refine c_true rfl ?_
      refine c_skip ?_
      refine q_then ?_
      refine c_seq ?_
      refine c_block ?_
      refine c_seq ?_
      refine c_region ?_
      refine st rfl (o_y (v := .int .i64 (k : Int)) (y_mv rfl) rfl rfl rfl ?_)
      refine st rfl (o_y (v := .int .i64 (k : Int)) (y_as rfl) rfl rfl rfl ?_)
      refine s_nil ?_
      refine q_then ?_
      refine c_seq ?_
      refine e_at 0 k rfl (by first | omega | (simp only [List.length_append, List.length_map, List.length_take, List.length_drop]; omega)) (fun b1 o1 x1 hA1 hx1 => ?_)
      refine e_at 2 k rfl (by first | omega | (simp only [List.length_append, List.length_map, List.length_take, List.length_drop]; omega)) (fun b2 o2 x2 hA2 hx2 => ?_)
      refine c_draw (l := ticked 9 0) [(⟨b1, o1 + k * 7, none⟩, .int .i64 x1.st), (⟨b1, o1 + k * 7 + 1, none⟩, .int .i64 x1.who), (⟨b1, o1 + k * 7 + 2, none⟩, .int .i64 x1.op), (⟨b1, o1 + k * 7 + 3, none⟩, .int .i64 x1.e), (⟨b1, o1 + k * 7 + 4, none⟩, .int .i64 x1.lab.lv), (⟨b1, o1 + k * 7 + 5, none⟩, .int .u64 (x1.lab.cs : Int)), (⟨b1, o1 + k * 7 + 6, none⟩, .int .i64 x1.lab.ig), (⟨b2, o2 + k * 7, none⟩, .int .i64 x2.st), (⟨b2, o2 + k * 7 + 1, none⟩, .int .i64 x2.who), (⟨b2, o2 + k * 7 + 2, none⟩, .int .i64 x2.op), (⟨b2, o2 + k * 7 + 3, none⟩, .int .i64 x2.e), (⟨b2, o2 + k * 7 + 4, none⟩, .int .i64 x2.lab.lv), (⟨b2, o2 + k * 7 + 5, none⟩, .int .u64 (x2.lab.cs : Int)), (⟨b2, o2 + k * 7 + 6, none⟩, .int .i64 x2.lab.ig)] [] (by kernel_rfl) rfl rfl ?_
      refine a_y (i := 0) (v := .slice A l.length c) (ticked 9 1) rfl (by as_aux_lemma => kernel_rfl) rfl rfl rfl (by exact y_mv rfl) ?_
      refine a_y (i := 1) (v := .int .i64 (k : Int)) (ticked 9 3) rfl (by as_aux_lemma => kernel_rfl) rfl rfl rfl (by exact y_mv rfl) ?_
      refine a_y (i := 2) (v := .pointer (some ⟨b1, o1 + k * 7, none⟩)) (ticked 9 7) rfl (by as_aux_lemma => kernel_rfl) rfl rfl rfl (by exact y_at (d := recTy) (l := l) k hA1 rfl rfl rfl (rfl) (List.getElem?_eq_some_iff.1 hx1).1 Tryd.underlying22 (by kernel_rfl) (by kernel_rfl)) ?_
      refine a_y (i := 4) (v := .slice B r.length d) (ticked 9 23) rfl (by as_aux_lemma => kernel_rfl) rfl rfl rfl (by exact y_mv rfl) ?_
      refine a_y (i := 5) (v := .int .i64 (k : Int)) (ticked 9 55) rfl (by as_aux_lemma => kernel_rfl) rfl rfl rfl (by exact y_mv rfl) ?_
      refine a_y (i := 6) (v := .pointer (some ⟨b2, o2 + k * 7, none⟩)) (ticked 9 119) rfl (by as_aux_lemma => kernel_rfl) rfl rfl rfl (by exact y_at (d := recTy) (l := r) k hA2 rfl rfl rfl (rfl) (List.getElem?_eq_some_iff.1 hx2).1 Tryd.underlying22 (by kernel_rfl) (by kernel_rfl)) ?_
      refine a_held (i := 3) (ticked 9 127) rfl (by as_aux_lemma => kernel_rfl) rfl rfl rfl (held_fact (j := 0) 1 rfl rfl (held_fact (j := 1) 1 rfl rfl (held_fact (j := 2) 1 rfl rfl (held_fact (j := 3) 1 rfl rfl (held_fact (j := 4) 1 rfl rfl (held_fact (j := 5) 1 rfl rfl (held_fact (j := 6) 1 rfl rfl (held_fact (j := 0) 0 rfl rfl (held_fact (j := 1) 0 rfl rfl (held_fact (j := 2) 0 rfl rfl (held_fact (j := 3) 0 rfl rfl (held_fact (j := 4) 0 rfl rfl (held_fact (j := 5) 0 rfl rfl (held_fact (j := 6) 0 rfl rfl held_nil)))))))))))))) (h_ldn (vs := [.int .i64 x1.st, .int .i64 x1.who, .int .i64 x1.op, .int .i64 x1.e, .int .i64 x1.lab.lv, .int .u64 (x1.lab.cs : Int), .int .i64 x1.lab.ig]) 0 7 rfl rfl rfl Tryd.underlying28 rfl (by kernel_rfl) (by kernel_rfl)) ?_
      refine a_held (i := 7) (ticked 9 255) rfl (by as_aux_lemma => kernel_rfl) rfl rfl rfl (held_fact (j := 0) 1 rfl rfl (held_fact (j := 1) 1 rfl rfl (held_fact (j := 2) 1 rfl rfl (held_fact (j := 3) 1 rfl rfl (held_fact (j := 4) 1 rfl rfl (held_fact (j := 5) 1 rfl rfl (held_fact (j := 6) 1 rfl rfl (held_fact (j := 0) 0 rfl rfl (held_fact (j := 1) 0 rfl rfl (held_fact (j := 2) 0 rfl rfl (held_fact (j := 3) 0 rfl rfl (held_fact (j := 4) 0 rfl rfl (held_fact (j := 5) 0 rfl rfl (held_fact (j := 6) 0 rfl rfl held_nil)))))))))))))) (h_ldn (vs := [.int .i64 x2.st, .int .i64 x2.who, .int .i64 x2.op, .int .i64 x2.e, .int .i64 x2.lab.lv, .int .u64 (x2.lab.cs : Int), .int .i64 x2.lab.ig]) 7 7 rfl rfl rfl Tryd.underlying28 rfl (by kernel_rfl) (by kernel_rfl)) ?_
      refine e_by (x1 = x2) (fun h3 => ?_) (fun h3 => ?_)
      ·
        refine a_y (i := 8) (v := .bool false) (ticked 9 511) rfl (by as_aux_lemma => kernel_rfl) rfl rfl rfl (by exact y_nt (y_bin rfl rfl (fun w => eq_Recn x1 x2 w)) h3) ?_
        refine a_done (by as_aux_lemma => kernel_rfl) ?_
        refine q_then ?_
        refine c_false rfl ?_
        refine c_skip ?_
        refine q_block ?_
        refine q_then ?_
        refine c_region ?_
        refine st rfl (o_y (v := .int .i64 ((k : Int) + 1)) (y_add (r := (k : Int) + 1) rfl rfl rfl (by omega)) rfl rfl rfl ?_)
        refine st rfl (o_y (v := .int .i64 ((k : Int) + 1)) (y_mv rfl) rfl rfl rfl ?_)
        refine s_nil ?_
        refine q_then ?_
        refine c_next [] [2, 3] (k + 1) ?_ ?_ ?_ (by rfl) (by rfl)
        · exact (show ((k + 1) ≤ l.length) ∧ (l.take (k + 1) = r.take (k + 1)) from ⟨by first | omega | simp_all | (simp; done), eq_step he hx1 hx2 (by assumption)⟩)
        · show l.length - (k + 1) < l.length - k; omega
        · exact (.cons rfl rfl (.cons rfl rfl (.cons rfl rfl (.cons rfl (show (.int .i64 ((k : Int) + 1) : Value) = .int .i64 ((k + 1) : Int) from by first | rfl | (congr 1; omega) | (congr 1; simp; done) | (congr 1; simp; omega)) .nil))))
      ·
        refine a_y (i := 8) (v := .bool true) (ticked 9 511) rfl (by as_aux_lemma => kernel_rfl) rfl rfl rfl (by exact y_nf (y_bin rfl rfl (fun w => eq_Recn x1 x2 w)) h3) ?_
        refine a_done (by as_aux_lemma => kernel_rfl) ?_
        refine q_then ?_
        refine c_true rfl ?_
        refine c_seq ?_
        refine c_region ?_
        refine st rfl (o_y (v := .bool false) (y_as rfl) rfl rfl rfl ?_)
        refine s_nil ?_
        refine q_then ?_
        refine c_ret ?_
        refine q_block_ret ?_
        refine q_then_ret ?_
        refine q_then_ret ?_
        refine q_block_ret ?_
        refine q_then_ret ?_
        refine c_fin (I' := []) [] [2, 3] rfl (.tmp rfl .nil) rfl rfl rfl ?_
        exact ⟨by show Value.bool _ = Value.bool _; congr 1; symm; first | exact decide_eq_true (by first | exact eq_end he (by omega) (by omega) | exact eq_not hx1 hx2 (by assumption) | exact eq_len (by assumption) | (intro hh; subst hh; first | omega | contradiction)) | exact decide_eq_false (by first | exact eq_end he (by omega) (by omega) | exact eq_not hx1 hx2 (by assumption) | exact eq_len (by assumption) | (intro hh; subst hh; first | omega | contradiction)), rfl, rfl⟩
    ·
      refine st rfl (o_y (v := .bool false) (y_f (y_k (v := .bool (decide ((k : Int) < (l.length : Int)))) rfl rfl (fun _ => by kernel_rfl)) h2) rfl rfl rfl ?_)
      refine s_nil ?_
      refine q_then ?_
      refine c_seq ?_
      refine c_false rfl ?_
      refine c_exit ?_
      refine q_then_exit ?_
      refine q_then_exit ?_
      refine q_block_here ?_
      refine q_then ?_
      refine c_seq ?_
      refine c_region ?_
      refine st rfl (o_y (v := .bool true) (y_as rfl) rfl rfl rfl ?_)
      refine s_nil ?_
      refine q_then ?_
      refine c_ret ?_
      refine c_fin (I' := []) [] [0, 1] rfl (.tmp rfl .nil) rfl rfl rfl ?_
      exact ⟨by show Value.bool _ = Value.bool _; congr 1; symm; first | exact decide_eq_true (by first | exact eq_end he (by omega) (by omega) | exact eq_not hx1 hx2 (by assumption) | exact eq_len (by assumption) | (intro hh; subst hh; first | omega | contradiction)) | exact decide_eq_false (by first | exact eq_end he (by omega) (by omega) | exact eq_not hx1 hx2 (by assumption) | exact eq_len (by assumption) | (intro hh; subst hh; first | omega | contradiction)), rfl, rfl⟩
  ·
    refine st rfl (o_y (v := .bool true) (y_b (y_k (v := .bool ((l.length : Int) != (r.length : Int))) rfl rfl (fun _ => by kernel_rfl)) (bne_iff_ne.2 h1)) rfl rfl rfl ?_)
    refine s_nil ?_
    refine q_then ?_
    refine c_true rfl ?_
    refine c_seq ?_
    refine c_region ?_
    refine st rfl (o_y (v := .bool false) (y_as rfl) rfl rfl rfl ?_)
    refine s_nil ?_
    refine q_then ?_
    refine c_ret ?_
    refine q_then_ret ?_
    refine c_fin (I' := []) [] [0, 1] rfl (.tmp rfl .nil) rfl rfl rfl ?_
    exact ⟨by show Value.bool _ = Value.bool _; congr 1; symm; first | exact decide_eq_true (by first | exact eq_end he (by omega) (by omega) | exact eq_not hx1 hx2 (by assumption) | exact eq_len (by assumption) | (intro hh; subst hh; first | omega | contradiction)) | exact decide_eq_false (by first | exact eq_end he (by omega) (by omega) | exact eq_not hx1 hx2 (by assumption) | exact eq_len (by assumption) | (intro hh; subst hh; first | omega | contradiction)), rfl, rfl⟩
theorem Same_ (A : Option Addr) (c : Nat) (l : List Rec) (B : Option Addr) (d : Nat) (r : List Rec) (hs : l.length ≤ 1000000) : Con Tryd.prog 28 [.slice A l.length c, .slice B r.length d] [] [rd recTy A c l, rd recTy B d r] (fun v L' I' => v = .bool (decide (l = r)) ∧ L' = [] ∧ I' = []) := by
  refine fn_of Tryd.func28 rfl Tryd.ntmps28 (by kernel_rfl) rfl (fun C => ?_)
  refine c_seq ?_
  refine c_region ?_
  refine st rfl (o_y (v := .bool false) (y_as rfl) rfl rfl rfl ?_)
  refine s_nil ?_
  refine q_then ?_
  refine c_seq ?_
  refine c_region ?_
  refine st rfl (o_y (v := .slice A l.length c) (y_mv rfl) rfl rfl rfl ?_)
  refine st rfl (o_y (v := .slice B r.length d) (y_mv rfl) rfl rfl rfl ?_)
  refine st rfl (o_call [] [0, 1] (Equal_ A c l B d r (by first | assumption | omega | (simp; done) | (simp; omega))) rfl rfl rfl rfl rfl rfl (fun v L' I' hq1 => ?_))
  obtain ⟨rfl, rfl, rfl⟩ := hq1
  refine st rfl (o_y (v := .bool (decide (l = r))) (y_as rfl) rfl rfl rfl ?_)
  refine s_nil ?_
  refine q_then ?_
  refine c_ret ?_
  refine c_fin (I' := []) [] [0, 1] rfl (.tmp rfl .nil) rfl rfl rfl ?_
  exact ⟨rfl, rfl, rfl⟩
end Go.Proofs.YtdfgedkjilpcgaaDoor
