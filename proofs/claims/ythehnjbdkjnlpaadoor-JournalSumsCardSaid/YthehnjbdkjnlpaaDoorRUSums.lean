/- The laws of chapter 15 (journal), walked over the given program; no condition but what stands in each theorem: part USums. -/
import Derived.Test.YthehnjbdkjnlpaaDoorRLQ
import Derived.Test.YthehnjbdkjnlpaaDoorRLR
set_option linter.unusedVariables false
set_option linter.unusedSimpArgs false
set_option maxRecDepth 100000
set_option maxHeartbeats 8000000
namespace Go.Proofs.YthehnjbdkjnlpaaDoor
open Go Go.Sl Go.RowKit Go.Extern.Stop Go.Stop Go.Extern
theorem JournalSums_ (ef : Addr) (es : Addr) (B : Option Addr) (d : Nat) (rules : List Rul) (A : Option Addr) (c : Nat) (l : List Jen) (n : Int) (hbr : ∀ y ∈ rules, y.wh.fm.size ≤ 9223372036854775807) (hbl : ∀ y ∈ l, y.da.size ≤ 9223372036854775807) : Con Tryd.prog 6 [.slice B rules.length d, .slice A l.length c, .int .i64 n] [] [rd rulTy B d rules, rd entTy A c l, cellsAt 2 0 [.iface 154 (.pointer (some ef))], cellsAt 0 0 [.iface 154 (.pointer (some es))], errAt ef, errAt es, cellsAt 1 0 [.iface 121 (.agg #[.pointer (some ⟨4, 57, none⟩)])]] (fun v L' I' => v = .bool true ∧ L' = [] ∧ I' = []) := by
  have hl1 := fewJ_len l
  have hl2 := fewJ_sm l
  have hr1 := fewL_len rules
  have hr2 := fewL_sm rules
  refine fn_of Tryd.func6 rfl Tryd.ntmps6 (by kernel_rfl) rfl (fun C => ?_)
  refine c_seq ?_
  refine c_region ?_
  refine st rfl (o_y (v := .bool false) (y_as rfl) rfl rfl rfl ?_)
  refine s_nil ?_
  refine q_then ?_
  refine c_seq ?_
  refine c_region ?_
  refine st rfl (o_call [] [2, 3, 4, 5, 6] (shown_ ef es) rfl rfl rfl rfl rfl rfl (fun v L' I' hq1 => ?_))
  obtain ⟨rfl, rfl, rfl⟩ := hq1
  refine st rfl (o_y (v := .bool true) (y_as rfl) rfl rfl rfl ?_)
  refine s_nil ?_
  refine q_then ?_
  refine c_seq ?_
  refine c_region ?_
  refine st rfl (o_y (v := .slice B rules.length d) (y_mv rfl) rfl rfl rfl ?_)
  refine st rfl (o_call [] [0] (fewl_ B d rules (by assumption)) rfl rfl rfl rfl rfl rfl (fun v L' I' hq2 => ?_))
  obtain ⟨A1, c1, rfl, rfl, rfl⟩ := hq2
  refine st rfl (o_y (v := .slice A1 (fewL rules).length c1) (y_as rfl) rfl rfl rfl ?_)
  refine s_nil ?_
  refine q_then ?_
  refine c_seq ?_
  refine c_region ?_
  refine st rfl (o_y (v := .slice A l.length c) (y_mv rfl) rfl rfl rfl ?_)
  refine st rfl (o_call [] [2] (fewj_ A c l (by assumption)) rfl rfl rfl rfl rfl rfl (fun v L' I' hq3 => ?_))
  obtain ⟨A2, c2, rfl, rfl, rfl⟩ := hq3
  refine st rfl (o_y (v := .slice A2 (fewJ l).length c2) (y_as rfl) rfl rfl rfl ?_)
  refine s_nil ?_
  refine q_then ?_
  refine c_seq ?_
  refine c_region ?_
  refine st rfl (o_y (v := .int .i64 0) (y_as rfl) rfl rfl rfl ?_)
  refine s_nil ?_
  refine q_then ?_
  refine c_seq ?_
  refine c_seq ?_
  refine c_region ?_
  refine st rfl (o_y (v := .int .i64 0) (y_as rfl) rfl rfl rfl ?_)
  refine s_nil ?_
  refine q_then ?_
  refine c_block ?_
  refine c_loopn (ι := Nat × Nat) (fun (i, a) => (i ≤ (fewL rules).length) ∧ (a = cntA ((fewL rules).take i) (fewJ l))) (fun (i, a) => [(0, .slice A1 (fewL rules).length c1), (1, .slice A2 (fewJ l).length c2), (2, .int .i64 n), (7, .bool true), (8, .int .i64 (a : Int)), (9, .int .i64 (i : Int))]) (fun (i, a) => []) (fun (i, a) => [rd entTy A2 c2 (fewJ l), rd rulTy A1 c1 (fewL rules), rd rulTy B d rules, rd entTy A c l, cellsAt 2 0 [.iface 154 (.pointer (some ef))], cellsAt 0 0 [.iface 154 (.pointer (some es))], errAt ef, errAt es, cellsAt 1 0 [.iface 121 (.agg #[.pointer (some ⟨4, 57, none⟩)])]]) (fun (i, a) => (fewL rules).length - i) (0, 0) [] [0, 1, 2, 3, 4, 5, 6, 7, 8] (show (0 ≤ (fewL rules).length) ∧ (0 = cntA ((fewL rules).take 0) (fewJ l)) from ⟨by first | omega | simp_all | (simp; done), rfl⟩) ((.cons rfl rfl (.cons rfl rfl (.cons rfl rfl (.cons rfl rfl (.cons rfl rfl (.cons rfl rfl .nil))))))) rfl rfl ?_
  rintro ⟨i, a⟩ ⟨hi, ha⟩
  show Ent 80 C [(0, .slice A1 (fewL rules).length c1), (1, .slice A2 (fewJ l).length c2), (2, .int .i64 n), (7, .bool true), (8, .int .i64 (a : Int)), (9, .int .i64 (i : Int))] [] [] [rd entTy A2 c2 (fewJ l), rd rulTy A1 c1 (fewL rules), rd rulTy B d rules, rd entTy A c l, cellsAt 2 0 [.iface 154 (.pointer (some ef))], cellsAt 0 0 [.iface 154 (.pointer (some es))], errAt ef, errAt es, cellsAt 1 0 [.iface 121 (.agg #[.pointer (some ⟨4, 57, none⟩)])]] _
  refine c_seq ?_
  refine c_seq ?_
  refine c_region ?_
  refine st rfl (o_y (v := .int .i64 (i : Int)) (y_mv rfl) rfl rfl rfl ?_)
  refine st rfl (o_y (v := .slice A1 (fewL rules).length c1) (y_mv rfl) rfl rfl rfl ?_)
  refine st rfl (o_y (v := .int .i64 ((fewL rules).length : Int)) (y_k rfl rfl (fun _ => by kernel_rfl)) rfl rfl rfl ?_)
  refine e_by ((i : Int) < ((fewL rules).length : Int)) (fun h1 => ?_) (fun h1 => ?_)
  ·
    refine st rfl (o_y (v := .bool true) (y_t (y_k (v := .bool (decide ((i : Int) < ((fewL rules).length : Int)))) rfl rfl (fun _ => by kernel_rfl)) h1) rfl rfl rfl ?_)
    refine s_nil ?_
    refine q_then ?_
    refine c_true rfl ?_
    refine c_skip ?_
    refine q_then ?_
    refine c_seq ?_
    refine c_block ?_
    refine c_seq ?_
    refine c_region ?_
    refine st rfl (o_y (v := .slice A2 (fewJ l).length c2) (y_mv rfl) rfl rfl rfl ?_)
    refine st rfl (o_y (v := .slice A1 (fewL rules).length c1) (y_mv rfl) rfl rfl rfl ?_)
    refine st rfl (o_y (v := .int .i64 (i : Int)) (y_mv rfl) rfl rfl rfl ?_)
    refine e_at 1 i rfl (by first | omega | (simp only [List.length_append, List.length_map, List.length_take, List.length_drop]; omega)) (fun b1 o1 x1 hA1 hx1 => ?_)
    refine st rfl (o_y (v := .pointer (some ⟨b1, o1 + i * 11, none⟩)) (y_at (d := rulTy) (l := fewL rules) i hA1 rfl rfl rfl (rfl) (List.getElem?_eq_some_iff.1 hx1).1 Tryd.underlying22 (by kernel_rfl) (by kernel_rfl)) rfl rfl rfl ?_)
    refine st rfl (o_y (v := .pointer (some ⟨b1, o1 + i * 11, none⟩)) (y_k rfl rfl (fun _ => by kernel_rfl)) rfl rfl rfl ?_)
    refine st rfl (o_ldf 0 0 rfl rfl rfl Tryd.underlying3 rfl rfl ?_)
    refine st rfl (o_call [] [1] (jOf_ A2 c2 (fewJ l) x1.id (by first | omega | (simp; done) | (simp; omega) | assumption)) rfl rfl rfl rfl rfl rfl (fun v L' I' hq4 => ?_))
    obtain ⟨A3, c3, rfl, rfl, rfl⟩ := hq4
    refine st rfl (o_y (v := .slice A3 (datF x1.id (fewJ l)).length c3) (y_as rfl) rfl rfl rfl ?_)
    refine s_nil ?_
    refine q_then ?_
    refine c_seq ?_
    refine c_region ?_
    refine st rfl (o_y (v := .int .i64 0) (y_as rfl) rfl rfl rfl ?_)
    refine s_nil ?_
    refine q_then ?_
    refine c_seq ?_
    refine c_seq ?_
    refine c_region ?_
    refine st rfl (o_y (v := .int .i64 0) (y_as rfl) rfl rfl rfl ?_)
    refine s_nil ?_
    refine q_then ?_
    refine c_block ?_
    refine c_loopn (ι := Nat × Nat) (fun (k, q) => (k ≤ (datF x1.id (fewJ l)).length) ∧ (q = sumB ((datF x1.id (fewJ l)).take k))) (fun (k, q) => [(0, .slice A1 (fewL rules).length c1), (1, .slice A2 (fewJ l).length c2), (2, .int .i64 n), (7, .bool true), (8, .int .i64 (a : Int)), (9, .int .i64 (i : Int)), (10, .slice A3 (datF x1.id (fewJ l)).length c3), (11, .int .i64 (q : Int)), (12, .int .i64 (k : Int)), (18, .int .i64 (i : Int)), (19, .slice A1 (fewL rules).length c1), (20, .int .i64 ((fewL rules).length : Int)), (21, .bool true), (24, .slice A2 (fewJ l).length c2), (25, .slice A1 (fewL rules).length c1), (26, .int .i64 (i : Int)), (27, .pointer (some ⟨b1, o1 + i * 11, none⟩)), (28, .pointer (some ⟨b1, o1 + i * 11, none⟩)), (29, .int .i64 x1.id), (30, .slice A3 (datF x1.id (fewJ l)).length c3)]) (fun (k, q) => [win strTy 9 A3 c3 (datF x1.id (fewJ l))]) (fun (k, q) => [cellsAt b1 (o1 + i * 11) [.int .i64 x1.id, .int .i64 x1.fr.lv, .int .u64 (x1.fr.cs : Int), .int .i64 x1.fr.ig, .int .i64 x1.to.lv, .int .u64 (x1.to.cs : Int), .int .i64 x1.to.ig, .int .i64 x1.bu, .int .i64 x1.wh.kd, .int .i64 x1.wh.mx, .string x1.wh.fm], rd entTy A2 c2 (fewJ l), rd rulTy A1 c1 (fewL rules), rd rulTy B d rules, rd entTy A c l, cellsAt 2 0 [.iface 154 (.pointer (some ef))], cellsAt 0 0 [.iface 154 (.pointer (some es))], errAt ef, errAt es, cellsAt 1 0 [.iface 121 (.agg #[.pointer (some ⟨4, 57, none⟩)])]]) (fun (k, q) => (datF x1.id (fewJ l)).length - k) (0, 0) [0] [0, 1, 2, 3, 4, 5, 6, 7, 8, 9] (show (0 ≤ (datF x1.id (fewJ l)).length) ∧ (0 = sumB ((datF x1.id (fewJ l)).take 0)) from ⟨by first | omega | simp_all | (simp; done), rfl⟩) ((.cons rfl rfl (.cons rfl rfl (.cons rfl rfl (.cons rfl rfl (.cons rfl rfl (.cons rfl rfl (.cons rfl rfl (.cons rfl rfl (.cons rfl rfl (.cons rfl rfl (.cons rfl rfl (.cons rfl rfl (.cons rfl rfl (.cons rfl rfl (.cons rfl rfl (.cons rfl rfl (.cons rfl rfl (.cons rfl rfl (.cons rfl rfl (.cons rfl rfl .nil))))))))))))))))))))) rfl rfl ?_
    rintro ⟨k, q⟩ ⟨hk, hq⟩
    show Ent 80 C [(0, .slice A1 (fewL rules).length c1), (1, .slice A2 (fewJ l).length c2), (2, .int .i64 n), (7, .bool true), (8, .int .i64 (a : Int)), (9, .int .i64 (i : Int)), (10, .slice A3 (datF x1.id (fewJ l)).length c3), (11, .int .i64 (q : Int)), (12, .int .i64 (k : Int)), (18, .int .i64 (i : Int)), (19, .slice A1 (fewL rules).length c1), (20, .int .i64 ((fewL rules).length : Int)), (21, .bool true), (24, .slice A2 (fewJ l).length c2), (25, .slice A1 (fewL rules).length c1), (26, .int .i64 (i : Int)), (27, .pointer (some ⟨b1, o1 + i * 11, none⟩)), (28, .pointer (some ⟨b1, o1 + i * 11, none⟩)), (29, .int .i64 x1.id), (30, .slice A3 (datF x1.id (fewJ l)).length c3)] [] [win strTy 9 A3 c3 (datF x1.id (fewJ l))] [cellsAt b1 (o1 + i * 11) [.int .i64 x1.id, .int .i64 x1.fr.lv, .int .u64 (x1.fr.cs : Int), .int .i64 x1.fr.ig, .int .i64 x1.to.lv, .int .u64 (x1.to.cs : Int), .int .i64 x1.to.ig, .int .i64 x1.bu, .int .i64 x1.wh.kd, .int .i64 x1.wh.mx, .string x1.wh.fm], rd entTy A2 c2 (fewJ l), rd rulTy A1 c1 (fewL rules), rd rulTy B d rules, rd entTy A c l, cellsAt 2 0 [.iface 154 (.pointer (some ef))], cellsAt 0 0 [.iface 154 (.pointer (some es))], errAt ef, errAt es, cellsAt 1 0 [.iface 121 (.agg #[.pointer (some ⟨4, 57, none⟩)])]] _
    refine c_seq ?_
    refine c_seq ?_
    refine c_region ?_
    refine st rfl (o_y (v := .int .i64 (k : Int)) (y_mv rfl) rfl rfl rfl ?_)
    refine st rfl (o_y (v := .slice A3 (datF x1.id (fewJ l)).length c3) (y_mv rfl) rfl rfl rfl ?_)
    refine st rfl (o_y (v := .int .i64 ((datF x1.id (fewJ l)).length : Int)) (y_k rfl rfl (fun _ => by kernel_rfl)) rfl rfl rfl ?_)
    refine e_by ((k : Int) < ((datF x1.id (fewJ l)).length : Int)) (fun h2 => ?_) (fun h2 => ?_)
    ·
      refine st rfl (o_y (v := .bool true) (y_t (y_k (v := .bool (decide ((k : Int) < ((datF x1.id (fewJ l)).length : Int)))) rfl rfl (fun _ => by kernel_rfl)) h2) rfl rfl rfl ?_)
      refine s_nil ?_
      refine q_then ?_
      refine c_true rfl ?_
      refine c_skip ?_
      refine q_then ?_
      refine c_seq ?_
      refine c_block ?_
      refine c_region ?_
      refine st rfl (o_y (v := .int .i64 (q : Int)) (y_mv rfl) rfl rfl rfl ?_)
      refine st rfl (o_y (v := .slice A3 (datF x1.id (fewJ l)).length c3) (y_mv rfl) rfl rfl rfl ?_)
      refine st rfl (o_y (v := .int .i64 (k : Int)) (y_mv rfl) rfl rfl rfl ?_)
      obtain ⟨x2, hx2⟩ : ∃ x, (datF x1.id (fewJ l))[k]? = some x := ⟨_, List.getElem?_eq_getElem (by omega)⟩
      refine e_winb 0 rfl (by omega) (fun b2 o2 hA2 => ?_)
      refine st rfl (o_y (v := .pointer (some ⟨b2, o2 + k * 1, none⟩)) (y_at (d := strTy) (l := datF x1.id (fewJ l)) k hA2 rfl rfl rfl (rfl) (by omega) Tryd.underlying47 (by kernel_rfl) (by kernel_rfl)) rfl rfl rfl ?_)
      refine st rfl (o_ldw (d := strTy) (j := 0) 0 k rfl hA2 hx2 rfl rfl Tryd.underlying9 rfl rfl ?_)
      refine st rfl (o_y (v := .int .i64 (x2.size : Int)) (y_k rfl rfl (fun _ => by kernel_rfl)) rfl rfl rfl ?_)
      refine st rfl (o_y (v := .int .i64 ((q : Int) + (x2.size : Int))) (y_add (r := (q : Int) + (x2.size : Int)) rfl rfl rfl (by first | omega | (have h1 := cntA_30 (l := fewJ l) i hr1 hl1; have h2 := dat_len x1.id (fewJ l); omega) | (have h1 := sumB_mono (datF x1.id (fewJ l)) k; rw [sumB_dat] at h1; have h2 := spent_le (fewJ l) x1.id hl2; have h3 := sumB_mono (datF x1.id (fewJ l)) (k + 1); rw [sumB_at (by assumption), sumB_dat] at h3; omega))) rfl rfl rfl ?_)
      refine st rfl (o_y (v := .int .i64 ((q : Int) + (x2.size : Int))) (y_as rfl) rfl rfl rfl ?_)
      refine s_nil ?_
      refine q_block ?_
      refine q_then ?_
      refine c_region ?_
      refine st rfl (o_y (v := .int .i64 (k : Int)) (y_mv rfl) rfl rfl rfl ?_)
      refine st rfl (o_y (v := .int .i64 ((k : Int) + 1)) (y_add (r := (k : Int) + 1) rfl rfl rfl (by first | omega | (have h1 := cntA_30 (l := fewJ l) i hr1 hl1; have h2 := dat_len x1.id (fewJ l); omega) | (have h1 := sumB_mono (datF x1.id (fewJ l)) k; rw [sumB_dat] at h1; have h2 := spent_le (fewJ l) x1.id hl2; have h3 := sumB_mono (datF x1.id (fewJ l)) (k + 1); rw [sumB_at (by assumption), sumB_dat] at h3; omega))) rfl rfl rfl ?_)
      refine st rfl (o_y (v := .int .i64 ((k : Int) + 1)) (y_as rfl) rfl rfl rfl ?_)
      refine s_nil ?_
      refine q_then ?_
      refine c_next [0] [0, 1, 2, 3, 4, 5, 6, 7, 8, 9] (k + 1, q + x2.size) ?_ ?_ ?_ (by rfl) (by rfl)
      · exact (show ((k + 1) ≤ (datF x1.id (fewJ l)).length) ∧ ((q + x2.size) = sumB ((datF x1.id (fewJ l)).take (k + 1))) from ⟨by first | omega | simp_all | (simp; done), by rw [sumB_at (by assumption), hq]⟩)
      · show (datF x1.id (fewJ l)).length - (k + 1) < (datF x1.id (fewJ l)).length - k; omega
      · exact (.cons rfl rfl (.cons rfl rfl (.cons rfl rfl (.cons rfl rfl (.cons rfl rfl (.cons rfl rfl (.cons rfl rfl (.cons rfl (show (.int .i64 ((q : Int) + (x2.size : Int)) : Value) = .int .i64 ((q + x2.size) : Int) from by first | rfl | (congr 1; omega) | (congr 1; simp; done) | (congr 1; simp; omega)) (.cons rfl (show (.int .i64 ((k : Int) + 1) : Value) = .int .i64 ((k + 1) : Int) from by first | rfl | (congr 1; omega) | (congr 1; simp; done) | (congr 1; simp; omega)) (.cons rfl rfl (.cons rfl rfl (.cons rfl rfl (.cons rfl rfl (.cons rfl rfl (.cons rfl rfl (.cons rfl rfl (.cons rfl rfl (.cons rfl rfl (.cons rfl rfl (.cons rfl rfl .nil))))))))))))))))))))
    ·
      refine st rfl (o_y (v := .bool false) (y_f (y_k (v := .bool (decide ((k : Int) < ((datF x1.id (fewJ l)).length : Int)))) rfl rfl (fun _ => by kernel_rfl)) h2) rfl rfl rfl ?_)
      refine s_nil ?_
      refine q_then ?_
      refine c_false rfl ?_
      refine c_exit ?_
      refine q_then_exit ?_
      refine q_then_exit ?_
      refine q_block_here ?_
      refine q_then ?_
      refine c_seq ?_
      refine c_seq ?_
      refine c_region ?_
      refine st rfl (o_y (v := .slice A2 (fewJ l).length c2) (y_mv rfl) rfl rfl rfl ?_)
      refine st rfl (o_y (v := .slice A1 (fewL rules).length c1) (y_mv rfl) rfl rfl rfl ?_)
      refine st rfl (o_y (v := .int .i64 (i : Int)) (y_mv rfl) rfl rfl rfl ?_)
      refine e_at 2 i rfl (by first | omega | (simp only [List.length_append, List.length_map, List.length_take, List.length_drop]; omega)) (fun b3 o3 x3 hA3 hx3 => ?_)
      refine st rfl (o_y (v := .pointer (some ⟨b3, o3 + i * 11, none⟩)) (y_at (d := rulTy) (l := fewL rules) i hA3 rfl rfl rfl (rfl) (List.getElem?_eq_some_iff.1 hx3).1 Tryd.underlying22 (by kernel_rfl) (by kernel_rfl)) rfl rfl rfl ?_)
      refine st rfl (o_y (v := .pointer (some ⟨b3, o3 + i * 11, none⟩)) (y_k rfl rfl (fun _ => by kernel_rfl)) rfl rfl rfl ?_)
      refine st rfl (o_ldf 0 0 rfl rfl rfl Tryd.underlying3 rfl rfl ?_)
      refine st rfl (o_call [] [2] (jSpent_ A2 c2 (fewJ l) x3.id (by first | omega | (simp; done) | (simp; omega) | assumption) (by assumption)) rfl rfl rfl rfl rfl rfl (fun v L' I' hq5 => ?_))
      obtain ⟨rfl, rfl, rfl⟩ := hq5
      refine st rfl (o_y (v := .int .i64 (q : Int)) (y_mv rfl) rfl rfl rfl ?_)
      have h3 : (spentF (fewJ l) x3.id : Int) = (q : Int) := by have e0 : x3 = x1 := Option.some.inj ((by assumption : (fewL rules)[i]? = some x3).symm.trans hx1); rw [e0, hq, List.take_of_length_le (by omega), sumB_dat]
      refine st rfl (o_y (v := .bool false) (y_nt (y_k (v := .bool (!decide ((spentF (fewJ l) x3.id : Int) = (q : Int)))) rfl rfl (fun _ => by kernel_rfl)) h3) rfl rfl rfl ?_)
      refine s_nil ?_
      refine q_then ?_
      refine c_false rfl ?_
      refine c_skip ?_
      refine q_then ?_
      refine c_region ?_
      refine st rfl (o_y (v := .int .i64 (a : Int)) (y_mv rfl) rfl rfl rfl ?_)
      refine st rfl (o_y (v := .slice A3 (datF x1.id (fewJ l)).length c3) (y_mv rfl) rfl rfl rfl ?_)
      refine st rfl (o_y (v := .int .i64 ((datF x1.id (fewJ l)).length : Int)) (y_k rfl rfl (fun _ => by kernel_rfl)) rfl rfl rfl ?_)
      refine st rfl (o_y (v := .int .i64 ((a : Int) + ((datF x1.id (fewJ l)).length : Int))) (y_add (r := (a : Int) + ((datF x1.id (fewJ l)).length : Int)) rfl rfl rfl (by first | omega | (have h1 := cntA_30 (l := fewJ l) i hr1 hl1; have h2 := dat_len x1.id (fewJ l); omega) | (have h1 := sumB_mono (datF x1.id (fewJ l)) k; rw [sumB_dat] at h1; have h2 := spent_le (fewJ l) x1.id hl2; have h3 := sumB_mono (datF x1.id (fewJ l)) (k + 1); rw [sumB_at (by assumption), sumB_dat] at h3; omega))) rfl rfl rfl ?_)
      refine st rfl (o_y (v := .int .i64 ((a : Int) + ((datF x1.id (fewJ l)).length : Int))) (y_as rfl) rfl rfl rfl ?_)
      refine s_nil ?_
      refine q_block ?_
      refine q_then ?_
      refine c_region ?_
      refine st rfl (o_y (v := .int .i64 (i : Int)) (y_mv rfl) rfl rfl rfl ?_)
      refine st rfl (o_y (v := .int .i64 ((i : Int) + 1)) (y_add (r := (i : Int) + 1) rfl rfl rfl (by first | omega | (have h1 := cntA_30 (l := fewJ l) i hr1 hl1; have h2 := dat_len x1.id (fewJ l); omega) | (have h1 := sumB_mono (datF x1.id (fewJ l)) k; rw [sumB_dat] at h1; have h2 := spent_le (fewJ l) x1.id hl2; have h3 := sumB_mono (datF x1.id (fewJ l)) (k + 1); rw [sumB_at (by assumption), sumB_dat] at h3; omega))) rfl rfl rfl ?_)
      refine st rfl (o_y (v := .int .i64 ((i : Int) + 1)) (y_as rfl) rfl rfl rfl ?_)
      refine s_nil ?_
      refine q_then ?_
      refine c_next [] [2, 3, 4, 5, 6, 7, 8, 9, 10] (i + 1, a + (datF x1.id (fewJ l)).length) ?_ ?_ ?_ (by rfl) (by rfl)
      · exact (show ((i + 1) ≤ (fewL rules).length) ∧ ((a + (datF x1.id (fewJ l)).length) = cntA ((fewL rules).take (i + 1)) (fewJ l)) from ⟨by first | omega | simp_all | (simp; done), by rw [cntA_at hx1, ha]⟩)
      · show (fewL rules).length - (i + 1) < (fewL rules).length - i; omega
      · exact (.cons rfl rfl (.cons rfl rfl (.cons rfl rfl (.cons rfl rfl (.cons rfl (show (.int .i64 ((a : Int) + ((datF x1.id (fewJ l)).length : Int)) : Value) = .int .i64 ((a + (datF x1.id (fewJ l)).length) : Int) from by first | rfl | (congr 1; omega) | (congr 1; simp; done) | (congr 1; simp; omega)) (.cons rfl (show (.int .i64 ((i : Int) + 1) : Value) = .int .i64 ((i + 1) : Int) from by first | rfl | (congr 1; omega) | (congr 1; simp; done) | (congr 1; simp; omega)) .nil))))))
  ·
    refine st rfl (o_y (v := .bool false) (y_f (y_k (v := .bool (decide ((i : Int) < ((fewL rules).length : Int)))) rfl rfl (fun _ => by kernel_rfl)) h1) rfl rfl rfl ?_)
    refine s_nil ?_
    refine q_then ?_
    refine c_false rfl ?_
    refine c_exit ?_
    refine q_then_exit ?_
    refine q_then_exit ?_
    refine q_block_here ?_
    refine q_then ?_
    refine c_seq ?_
    refine c_seq ?_
    refine c_region ?_
    refine st rfl (o_y (v := .slice A1 (fewL rules).length c1) (y_mv rfl) rfl rfl rfl ?_)
    refine st rfl (o_y (v := .slice A2 (fewJ l).length c2) (y_mv rfl) rfl rfl rfl ?_)
    refine st rfl (o_call [] [1, 0, 4, 6, 5, 7, 8] (jRight_ A1 c1 (fewL rules) A2 c2 (fewJ l) ef es (by first | omega | (simp; done) | (simp; omega) | assumption) (by first | assumption | exact fun y hy => hl2 y (List.mem_of_mem_take hy)) (by first | omega | (simp; done) | (simp; omega) | assumption) (by assumption)) rfl rfl rfl rfl rfl rfl (fun v L' I' hq6 => ?_))
    obtain ⟨hv1, rfl, rfl⟩ := hq6
    refine e_by (jRight (fewL rules) (fewJ l)) (fun h4 => ?_) (fun h4 => ?_)
    ·
      obtain rfl : v = .bool true := by rw [hv1, decide_eq_true h4]
      refine st rfl (o_y (v := .bool false) (y_k rfl rfl (fun _ => by kernel_rfl)) rfl rfl rfl ?_)
      refine s_nil ?_
      refine q_then ?_
      refine c_false rfl ?_
      refine c_skip ?_
      refine q_then ?_
      refine c_seq ?_
      refine c_region ?_
      refine st rfl (o_y (v := .bool true) (y_mv rfl) rfl rfl rfl ?_)
      refine st rfl (o_y (v := .bool true) (y_mv rfl) rfl rfl rfl ?_)
      refine st_on 63 rfl rfl rfl (o_y (v := .int .i64 (a : Int)) (y_mv rfl) rfl rfl rfl ?_)
      refine st_on 63 rfl rfl rfl (o_y (v := .slice A2 (fewJ l).length c2) (y_mv rfl) rfl rfl rfl ?_)
      refine st_on 63 rfl rfl rfl (o_y (v := .int .i64 ((fewJ l).length : Int)) (y_k rfl rfl (fun _ => by kernel_rfl)) rfl rfl rfl ?_)
      have h5 : (a : Int) = ((fewJ l).length : Int) := by have h0 := jsum_all h4; rw [ha, List.take_of_length_le (by omega)]; omega
      refine st_on 63 rfl rfl rfl (o_y (v := .bool true) (y_t (y_k (v := .bool (decide ((a : Int) = ((fewJ l).length : Int)))) rfl rfl (fun _ => by kernel_rfl)) h5) rfl rfl rfl ?_)
      refine st rfl (o_y (v := .bool true) (y_pick rfl rfl) rfl rfl rfl ?_)
      refine st rfl (o_y (v := .bool true) (y_mv rfl) rfl rfl rfl ?_)
      refine st_on 69 rfl rfl rfl (o_y (v := .slice A1 (fewL rules).length c1) (y_mv rfl) rfl rfl rfl ?_)
      refine st_on 69 rfl rfl rfl (o_y (v := .slice A2 (fewJ l).length c2) (y_mv rfl) rfl rfl rfl ?_)
      refine st_on 69 rfl rfl rfl (o_y (v := .int .i64 n) (y_mv rfl) rfl rfl rfl ?_)
      refine st_on 69 rfl rfl rfl (o_y (v := .int .i64 (max n 0)) (y_maxi (p := n) (q := 0) rfl rfl) rfl rfl rfl ?_)
      refine st_on 69 rfl rfl rfl (o_y (v := .slice A2 (fewJ l).length c2) (y_mv rfl) rfl rfl rfl ?_)
      refine st_on 69 rfl rfl rfl (o_y (v := .int .i64 ((fewJ l).length : Int)) (y_k rfl rfl (fun _ => by kernel_rfl)) rfl rfl rfl ?_)
      refine st_on 69 rfl rfl rfl (o_y (v := .int .i64 (min (max n 0) ((fewJ l).length : Int))) (y_mini (p := max n 0) (q := ((fewJ l).length : Int)) rfl rfl) rfl rfl rfl ?_)
      refine e_len 0 rfl (fun h6 h7 => ?_)
      refine e_cut2 (l2 := (fewJ l).take ((min (max n 0) ((fewJ l).length : Int)).toNat)) 0 0 ((min (max n 0) ((fewJ l).length : Int)).toNat) c2 (by simp) rfl (by omega) (by omega) (by omega) ?_
      refine st_on 69 rfl rfl rfl (o_y (v := .slice (cutA entTy A2 0 c2) ((fewJ l).take ((min (max n 0) ((fewJ l).length : Int)).toNat)).length (c2 - 0)) (y_cut (d := entTy) (l := fewJ l) (l2 := (fewJ l).take ((min (max n 0) ((fewJ l).length : Int)).toNat)) 0 ((min (max n 0) ((fewJ l).length : Int)).toNat) c2 (by simp) rfl rfl .no (.at ((min (max n 0) ((fewJ l).length : Int)).toNat) rfl (by omega)) .no (by simp) Tryd.underlying23 (by kernel_rfl) (by kernel_rfl) (by omega) (by omega) (by omega) (by omega)) rfl rfl rfl ?_)
      refine st_on 69 rfl rfl rfl (o_call [] [2, 0, 5, 7, 6, 8, 9] (jRight_ A1 c1 (fewL rules) (cutA entTy A2 0 c2) (c2 - 0) ((fewJ l).take ((min (max n 0) ((fewJ l).length : Int)).toNat)) ef es (by first | omega | (simp; done) | (simp; omega) | assumption) (by first | assumption | exact fun y hy => hl2 y (List.mem_of_mem_take hy)) (by first | omega | (simp; done) | (simp; omega) | assumption) (by assumption)) rfl rfl rfl rfl rfl rfl (fun v L' I' hq7 => ?_))
      obtain ⟨hv2, rfl, rfl⟩ := hq7
      obtain rfl : v = .bool true := by rw [hv2, decide_eq_true (show jRight (fewL rules) ((fewJ l).take ((min (max n 0) ((fewJ l).length : Int)).toNat)) from jsum_pre h4 _)]
      refine st rfl (o_y (v := .bool true) (y_pick rfl rfl) rfl rfl rfl ?_)
      refine st rfl (o_y (v := .bool true) (y_as rfl) rfl rfl rfl ?_)
      refine s_nil ?_
      refine q_then ?_
      refine c_ret ?_
      refine c_fin (I' := []) [] [3, 4, 5, 6, 7, 8, 9] rfl (.tmp rfl .nil) rfl rfl rfl ?_
      exact ⟨rfl, rfl, rfl⟩
    ·
      obtain rfl : v = .bool false := by rw [hv1, decide_eq_false h4]
      refine st rfl (o_y (v := .bool true) (y_k rfl rfl (fun _ => by kernel_rfl)) rfl rfl rfl ?_)
      refine s_nil ?_
      refine q_then ?_
      refine c_true rfl ?_
      refine c_seq ?_
      refine c_region ?_
      refine st rfl (o_y (v := .bool true) (y_mv rfl) rfl rfl rfl ?_)
      refine st rfl (o_y (v := .bool true) (y_as rfl) rfl rfl rfl ?_)
      refine s_nil ?_
      refine q_then ?_
      refine c_ret ?_
      refine q_then_ret ?_
      refine c_fin (I' := []) [] [2, 3, 4, 5, 6, 7, 8] rfl (.tmp rfl .nil) rfl rfl rfl ?_
      exact ⟨rfl, rfl, rfl⟩
end Go.Proofs.YthehnjbdkjnlpaaDoor
