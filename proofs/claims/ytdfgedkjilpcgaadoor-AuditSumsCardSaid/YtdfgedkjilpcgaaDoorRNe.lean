/- The six laws of chapter 18 (audit), walked over the given program; no condition but what stands in each theorem: part Ne. -/
import Derived.Test.YtdfgedkjilpcgaaDoorRNd
set_option linter.unusedVariables false
set_option linter.unusedSimpArgs false
set_option maxRecDepth 100000
set_option maxHeartbeats 8000000
namespace Go.Proofs.YtdfgedkjilpcgaaDoor
open Go Go.Sl Go.RowKit Go.Extern.Stop Go.Stop Go.Extern Go.Shelf
theorem AuditSums_ (A : Option Addr) (c : Nat) (l : List Rec) (a : Lab) (el : Addr) (hm : ∀ y ∈ l, recSm y) : Con Tryd.prog 6 [.slice A l.length c, .agg #[.int .i64 a.lv, .int .u64 (a.cs : Int), .int .i64 a.ig]] [] [rd recTy A c l, cellsAt 0 0 [.iface 106 (.pointer (some el))], errAt el] (fun v L' I' => v = .bool true ∧ L' = [] ∧ I' = []) := by
  have hf := fewR_len l
  have hm1 := fewR_sm hm
  have hs2 := seenF_len (fewR l) a
  have hs3 := seenF_len (seenF a (fewR l)) a
  refine fn_of Tryd.func6 rfl Tryd.ntmps6 (by kernel_rfl) rfl (fun C => ?_)
  refine c_seq ?_
  refine c_region ?_
  refine st rfl (o_box (cs := [.int .i64 a.lv, .int .u64 (a.cs : Int), .int .i64 a.ig]) (T := 26) rfl rfl rfl rfl (fun _ => by kernel_rfl) (fun b1 => ?_))
  refine st rfl (o_y (v := .bool false) (y_as rfl) rfl rfl rfl ?_)
  refine s_nil ?_
  refine q_then ?_
  refine c_seq ?_
  refine c_region ?_
  refine st rfl (o_call [] [1, 2] (shown_ el) rfl rfl rfl rfl rfl rfl (fun v L' I' hq1 => ?_))
  obtain ⟨rfl, rfl, rfl⟩ := hq1
  refine st rfl (o_y (v := .bool true) (y_as rfl) rfl rfl rfl ?_)
  refine s_nil ?_
  refine q_then ?_
  refine c_seq ?_
  refine c_region ?_
  refine st rfl (o_y (v := .slice A l.length c) (y_mv rfl) rfl rfl rfl ?_)
  refine st rfl (o_call [] [0] (Few_ A c l) rfl rfl rfl rfl rfl rfl (fun v L' I' hq2 => ?_))
  obtain ⟨A1, c1, rfl, rfl, rfl⟩ := hq2
  refine st rfl (o_y (v := .slice A1 (fewR l).length c1) (y_as rfl) rfl rfl rfl ?_)
  refine s_nil ?_
  refine q_then ?_
  refine c_seq ?_
  refine c_seq ?_
  refine c_region ?_
  refine st rfl (o_y (v := .slice A1 (fewR l).length c1) (y_mv rfl) rfl rfl rfl ?_)
  refine st rfl (o_call [] [0] (Right_ A1 c1 (fewR l) (by first | assumption | omega | (simp; done) | (simp; omega))) rfl rfl rfl rfl rfl rfl (fun v L' I' hq3 => ?_))
  obtain ⟨hv1, rfl, rfl⟩ := hq3
  refine e_by (logRight (fewR l)) (fun h1 => ?_) (fun h1 => ?_)
  ·
    obtain rfl : v = .bool true := by rw [hv1, decide_eq_true h1]
    refine st rfl (o_y (v := .bool false) (y_k rfl rfl (fun _ => by kernel_rfl)) rfl rfl rfl ?_)
    refine s_nil ?_
    refine q_then ?_
    refine c_false rfl ?_
    refine c_skip ?_
    refine q_then ?_
    refine c_seq ?_
    refine c_region ?_
    refine st rfl (o_y (v := .int .i64 0) (y_as rfl) rfl rfl rfl ?_)
    refine s_nil ?_
    refine q_then ?_
    refine c_seq ?_
    refine c_seq ?_
    refine c_region ?_
    refine st rfl (o_y (v := .int .i64 0) (y_as rfl) rfl rfl rfl ?_)
    refine s_nil ?_
    refine q_then ?_
    refine c_block ?_
    refine c_loopn (ι := Nat) (fun kw => (kw ≤ 8)) (fun kw => [(0, .slice A1 (fewR l).length c1), (3, .pointer (some ⟨b1, 0, none⟩)), (4, .bool false), (5, .bool true), (6, .int .i64 (sumC (fewR l) kw : Int)), (7, .int .i64 (kw : Int))]) (fun kw => [pt b1 [.int .i64 a.lv, .int .u64 (a.cs : Int), .int .i64 a.ig] 26]) (fun kw => [rd recTy A1 c1 (fewR l), rd recTy A c l, cellsAt 0 0 [.iface 106 (.pointer (some el))], errAt el]) (fun kw => 8 - kw) (0) [0] [0, 1, 2, 3] (show 0 ≤ 8 from by first | omega | simp_all | (simp; done)) ((.cons rfl rfl (.cons rfl rfl (.cons rfl rfl (.cons rfl rfl (.cons rfl (show (.int .i64 0 : Value) = .int .i64 (sumC (fewR l) 0 : Int) from by first | rfl | (congr 1; omega) | (congr 1; simp; done) | (congr 1; simp; omega)) (.cons rfl rfl .nil))))))) rfl rfl ?_
    rintro kw hk
    show Ent 53 C [(0, .slice A1 (fewR l).length c1), (3, .pointer (some ⟨b1, 0, none⟩)), (4, .bool false), (5, .bool true), (6, .int .i64 (sumC (fewR l) kw : Int)), (7, .int .i64 (kw : Int))] [] [pt b1 [.int .i64 a.lv, .int .u64 (a.cs : Int), .int .i64 a.ig] 26] [rd recTy A1 c1 (fewR l), rd recTy A c l, cellsAt 0 0 [.iface 106 (.pointer (some el))], errAt el] _
    refine c_seq ?_
    refine c_seq ?_
    refine c_region ?_
    refine st rfl (o_y (v := .int .i64 (kw : Int)) (y_mv rfl) rfl rfl rfl ?_)
    refine e_by ((kw : Int) < 8) (fun h2 => ?_) (fun h2 => ?_)
    ·
      refine st rfl (o_y (v := .bool true) (y_t (y_k (v := .bool (decide ((kw : Int) < 8))) rfl rfl (fun _ => by kernel_rfl)) h2) rfl rfl rfl ?_)
      refine s_nil ?_
      refine q_then ?_
      refine c_true rfl ?_
      refine c_skip ?_
      refine q_then ?_
      refine c_seq ?_
      refine c_block ?_
      refine c_region ?_
      refine st rfl (o_y (v := .int .i64 (sumC (fewR l) kw : Int)) (y_mv rfl) rfl rfl rfl ?_)
      refine st rfl (o_y (v := .slice A1 (fewR l).length c1) (y_mv rfl) rfl rfl rfl ?_)
      refine st rfl (o_y (v := .int .i64 (kw : Int)) (y_mv rfl) rfl rfl rfl ?_)
      refine st rfl (o_call [] [0] (Count_ A1 c1 (fewR l) (kw : Int) (by first | assumption | omega | (simp; done) | (simp; omega))) rfl rfl rfl rfl rfl rfl (fun v L' I' hq4 => ?_))
      obtain ⟨rfl, rfl, rfl⟩ := hq4
      refine st rfl (o_y (v := .int .i64 ((sumC (fewR l) kw : Int) + (countF (fewR l) (kw : Int) : Int))) (y_add (r := (sumC (fewR l) kw : Int) + (countF (fewR l) (kw : Int) : Int)) rfl rfl rfl (by have h1 := sumC_le (fewR l) kw; have h2 := countF_le (fewR l) (kw : Int); have h3 : kw * (fewR l).length ≤ 8 * 60 := Nat.mul_le_mul (by omega) hf; omega)) rfl rfl rfl ?_)
      refine st rfl (o_y (v := .int .i64 ((sumC (fewR l) kw : Int) + (countF (fewR l) (kw : Int) : Int))) (y_as rfl) rfl rfl rfl ?_)
      refine s_nil ?_
      refine q_block ?_
      refine q_then ?_
      refine c_region ?_
      refine st rfl (o_y (v := .int .i64 (kw : Int)) (y_mv rfl) rfl rfl rfl ?_)
      refine st rfl (o_y (v := .int .i64 ((kw : Int) + 1)) (y_add (r := (kw : Int) + 1) rfl rfl rfl (by have h1 := sumC_le (fewR l) kw; have h2 := countF_le (fewR l) (kw : Int); have h3 : kw * (fewR l).length ≤ 8 * 60 := Nat.mul_le_mul (by omega) hf; omega)) rfl rfl rfl ?_)
      refine st rfl (o_y (v := .int .i64 ((kw : Int) + 1)) (y_as rfl) rfl rfl rfl ?_)
      refine s_nil ?_
      refine q_then ?_
      refine c_next [0] [0, 1, 2, 3] (kw + 1) ?_ ?_ ?_ (by rfl) (by rfl)
      · exact (show (kw + 1) ≤ 8 from by first | omega | simp_all | (simp; done))
      · show 8 - (kw + 1) < 8 - kw; omega
      · exact (.cons rfl rfl (.cons rfl rfl (.cons rfl rfl (.cons rfl rfl (.cons rfl (show (.int .i64 ((sumC (fewR l) kw : Int) + (countF (fewR l) (kw : Int) : Int)) : Value) = .int .i64 (sumC (fewR l) (kw + 1) : Int) from by first | rfl | (congr 1; omega) | (congr 1; simp; done) | (congr 1; simp; omega)) (.cons rfl (show (.int .i64 ((kw : Int) + 1) : Value) = .int .i64 ((kw + 1) : Int) from by first | rfl | (congr 1; omega) | (congr 1; simp; done) | (congr 1; simp; omega)) .nil))))))
    ·
      refine st rfl (o_y (v := .bool false) (y_f (y_k (v := .bool (decide ((kw : Int) < 8))) rfl rfl (fun _ => by kernel_rfl)) h2) rfl rfl rfl ?_)
      refine s_nil ?_
      refine q_then ?_
      refine c_false rfl ?_
      refine c_exit ?_
      refine q_then_exit ?_
      refine q_then_exit ?_
      refine q_block_here ?_
      refine q_then ?_
      refine c_seq ?_
      refine c_region ?_
      refine st rfl (o_y (v := .slice A1 (fewR l).length c1) (y_mv rfl) rfl rfl rfl ?_)
      refine st rfl (o_ldn 0 3 rfl rfl rfl rfl Tryd.underlying26 rfl (by kernel_rfl) (by kernel_rfl) rfl ?_)
      refine st rfl (o_call [] [0] (Seen_ A1 c1 (fewR l) a (by first | assumption | omega | (simp; done) | (simp; omega))) rfl rfl rfl rfl rfl rfl (fun v L' I' hq5 => ?_))
      obtain ⟨A2, c2, rfl, rfl, rfl⟩ := hq5
      refine st rfl (o_y (v := .slice A2 (seenF a (fewR l)).length c2) (y_as rfl) rfl rfl rfl ?_)
      refine s_nil ?_
      refine q_then ?_
      refine c_seq ?_
      refine c_region ?_
      refine st rfl (o_y (v := .bool true) (y_mv rfl) rfl rfl rfl ?_)
      refine st rfl (o_y (v := .bool true) (y_mv rfl) rfl rfl rfl ?_)
      refine st_on 29 rfl rfl rfl (o_y (v := .int .i64 (sumC (fewR l) kw : Int)) (y_mv rfl) rfl rfl rfl ?_)
      refine st_on 29 rfl rfl rfl (o_y (v := .slice A1 (fewR l).length c1) (y_mv rfl) rfl rfl rfl ?_)
      refine st_on 29 rfl rfl rfl (o_y (v := .int .i64 ((fewR l).length : Int)) (y_k rfl rfl (fun _ => by kernel_rfl)) rfl rfl rfl ?_)
      have h3 : (sumC (fewR l) kw : Int) = ((fewR l).length : Int) := by have h0 := sumC_all (log_right (by assumption : logRight (fewR l))); have e0 : kw = 8 := (by omega); subst e0; omega
      refine st_on 29 rfl rfl rfl (o_y (v := .bool true) (y_b (y_k (v := .bool ((sumC (fewR l) kw : Int) == ((fewR l).length : Int))) rfl rfl (fun _ => by kernel_rfl)) (beq_iff_eq.2 h3)) rfl rfl rfl ?_)
      refine st rfl (o_y (v := .bool true) (y_pick rfl rfl) rfl rfl rfl ?_)
      refine st rfl (o_y (v := .bool true) (y_mv rfl) rfl rfl rfl ?_)
      refine st_on 35 rfl rfl rfl (o_y (v := .slice A2 (seenF a (fewR l)).length c2) (y_mv rfl) rfl rfl rfl ?_)
      refine st_on 35 rfl rfl rfl (o_call [] [0] (Right_ A2 c2 (seenF a (fewR l)) (by first | assumption | omega | (simp; done) | (simp; omega))) rfl rfl rfl rfl rfl rfl (fun v L' I' hq6 => ?_))
      obtain ⟨hv2, rfl, rfl⟩ := hq6
      obtain rfl : v = .bool true := by rw [hv2, decide_eq_true (show logRight (seenF a (fewR l)) from seen_log (by assumption))]
      refine st rfl (o_y (v := .bool true) (y_pick rfl rfl) rfl rfl rfl ?_)
      refine st rfl (o_y (v := .bool true) (y_mv rfl) rfl rfl rfl ?_)
      refine st_on 39 rfl rfl rfl (o_y (v := .slice A2 (seenF a (fewR l)).length c2) (y_mv rfl) rfl rfl rfl ?_)
      refine st_on 39 rfl rfl rfl (o_ldn 0 3 rfl rfl rfl rfl Tryd.underlying26 rfl (by kernel_rfl) (by kernel_rfl) rfl ?_)
      refine st_on 39 rfl rfl rfl (o_call [] [0] (Seen_ A2 c2 (seenF a (fewR l)) a (by first | assumption | omega | (simp; done) | (simp; omega))) rfl rfl rfl rfl rfl rfl (fun v L' I' hq7 => ?_))
      obtain ⟨A3, c3, rfl, rfl, rfl⟩ := hq7
      refine st_on 39 rfl rfl rfl (o_y (v := .slice A2 (seenF a (fewR l)).length c2) (y_mv rfl) rfl rfl rfl ?_)
      refine st_on 39 rfl rfl rfl (o_call [] [0, 1] (rSame_ A3 c3 (seenF a (seenF a (fewR l))) A2 c2 (seenF a (fewR l)) (by first | assumption | omega | (simp; done) | (simp; omega))) rfl rfl rfl rfl rfl rfl (fun v L' I' hq8 => ?_))
      obtain ⟨hv3, rfl, rfl⟩ := hq8
      obtain rfl : v = .bool true := by rw [hv3, decide_eq_true (show (seenF a (seenF a (fewR l))) = (seenF a (fewR l)) from seen_seen _ _)]
      refine st rfl (o_y (v := .bool true) (y_pick rfl rfl) rfl rfl rfl ?_)
      refine st rfl (o_y (v := .bool true) (y_mv rfl) rfl rfl rfl ?_)
      refine st_on 46 rfl rfl rfl (o_y (v := .slice A2 (seenF a (fewR l)).length c2) (y_mv rfl) rfl rfl rfl ?_)
      refine st_on 46 rfl rfl rfl (o_y (v := .int .i64 ((seenF a (fewR l)).length : Int)) (y_k rfl rfl (fun _ => by kernel_rfl)) rfl rfl rfl ?_)
      refine st_on 46 rfl rfl rfl (o_y (v := .slice A1 (fewR l).length c1) (y_mv rfl) rfl rfl rfl ?_)
      refine st_on 46 rfl rfl rfl (o_y (v := .int .i64 ((fewR l).length : Int)) (y_k rfl rfl (fun _ => by kernel_rfl)) rfl rfl rfl ?_)
      have h4 : ((seenF a (fewR l)).length : Int) ≤ ((fewR l).length : Int) := by have := seenF_len (fewR l) a; omega
      refine st_on 46 rfl rfl rfl (o_y (v := .bool true) (y_t (y_k (v := .bool (decide (((seenF a (fewR l)).length : Int) ≤ ((fewR l).length : Int)))) rfl rfl (fun _ => by kernel_rfl)) h4) rfl rfl rfl ?_)
      refine st rfl (o_y (v := .bool true) (y_pick rfl rfl) rfl rfl rfl ?_)
      refine st rfl (o_y (v := .bool true) (y_as rfl) rfl rfl rfl ?_)
      refine s_nil ?_
      refine q_then ?_
      refine c_ret ?_
      refine c_fin (I' := []) [] [3, 4, 5] rfl (.tmp rfl .nil) rfl rfl rfl ?_
      exact ⟨rfl, rfl, rfl⟩
  ·
    obtain rfl : v = .bool false := by rw [hv1, decide_eq_false h1]
    refine st rfl (o_y (v := .bool true) (y_k rfl rfl (fun _ => by kernel_rfl)) rfl rfl rfl ?_)
    refine s_nil ?_
    refine q_then ?_
    refine c_true rfl ?_
    refine c_seq ?_
    refine c_region ?_
    refine st rfl (o_y (v := .bool true) (y_mv rfl) rfl rfl rfl ?_)
    refine st rfl (o_y (v := .bool true) (y_as rfl) rfl rfl rfl ?_)
    refine s_nil ?_
    refine q_then ?_
    refine c_ret ?_
    refine q_then_ret ?_
    refine c_fin (I' := []) [] [1, 2, 3] rfl (.tmp rfl .nil) rfl rfl rfl ?_
    exact ⟨rfl, rfl, rfl⟩
end Go.Proofs.YtdfgedkjilpcgaaDoor
