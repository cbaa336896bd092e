/- Contracts of package ring, its reference and its laws, walked over the given program; no condition but what stands in each: part K. -/
import Derived.Test.YtjcjbdhkajiaeaaDoorRJ
set_option linter.unusedVariables false
set_option linter.unusedSimpArgs false
set_option maxRecDepth 100000
namespace Go.Proofs.YtjcjbdhkajiaeaaDoor
open Go Go.Sl Go.RowKit Go.Extern.Stop Go.Stop Go.Extern
theorem Put_ (A : Option Addr) (c : Nat) (l : List ByteArray) (max : Int) (item : ByteArray) (ea : Addr) (ef : Addr) (ee : Addr) (h12 : ea ≠ ef) (h13 : ea ≠ ee) (h23 : ef ≠ ee) (hs : small l) (hi : item.size ≤ 1000000) : Con Tryd.prog 12 [.agg #[.int .i64 max, .slice A l.length c], .string item] [] [rd strTy A c l, cellsAt 1 0 [.iface 80 (.pointer (some ea))], cellsAt 2 0 [.iface 80 (.pointer (some ef))], cellsAt 0 0 [.iface 80 (.pointer (some ee))], errAt ea, errAt ef, errAt ee] (fun v L' I' => ∃ A1 : Option Addr, ∃ c1 : Nat, v = .tuple #[.agg #[.int .i64 ((putF max l item).1), .slice A1 ((putF max l item).2.1).length c1], .int .i64 ((putF max l item).2.2)] ∧ L' = [win strTy 9 A1 c1 ((putF max l item).2.1)] ∧ I' = []) := by
  refine fn_of Tryd.func12 rfl Tryd.ntmps12 (by kernel_rfl) rfl (fun C => ?_)
  refine c_seq ?_
  refine c_region ?_
  refine st rfl (o_box (cs := [.int .i64 max, .slice A l.length c]) (T := 24) rfl rfl rfl rfl (fun _ => by kernel_rfl) (fun b1 => ?_))
  refine st rfl (o_box (cs := [.int .i64 0, .slice none 0 0]) (T := 24) rfl rfl rfl rfl (fun _ => by kernel_rfl) (fun b2 => ?_))
  refine st rfl (o_y (v := .int .i64 0) (y_as rfl) rfl rfl rfl ?_)
  refine s_nil ?_
  refine q_then ?_
  refine c_scope 0 rfl ?_
  refine c_seq ?_
  refine c_region ?_
  refine st rfl (o_ldn 1 2 rfl rfl rfl rfl Tryd.underlying24 rfl (by kernel_rfl) (by kernel_rfl) rfl ?_)
  refine st rfl (o_call [] [0] (own_ A c l max (by first | assumption | exact small_put _ _ _ | exact small_take _ _ | exact small_all _ _ _ | exact small_nil | exact small_right (by assumption) | exact small_one (small_at (by assumption) hx1) | exact small_one (by assumption))) rfl rfl rfl rfl rfl rfl (fun v L' I' hq1 => ?_))
  obtain ⟨b3, A1, rfl, rfl, rfl⟩ := hq1
  refine st rfl (o_y (v := .pointer (some ⟨b3, 0, none⟩)) (y_as rfl) rfl rfl rfl ?_)
  refine s_nil ?_
  refine q_then ?_
  refine c_seq ?_
  refine c_region ?_
  refine st rfl (o_y (v := .pointer (some ⟨b3, 0, none⟩)) (y_mv rfl) rfl rfl rfl ?_)
  refine st rfl (o_lend [1] [0] [1, 2, 3, 4, 5, 6] (checked_ A1 l.length l b3 max ea ef ee (by first | assumption | exact small_put _ _ _ | exact small_take _ _ | exact small_all _ _ _ | exact small_nil | exact small_right (by assumption) | exact small_one (small_at (by assumption) hx1) | exact small_one (by assumption))) (.cons lend_ars .nil) rfl rfl rfl rfl rfl rfl rfl rfl (fun v L' I' hq2 => ?_))
  rcases hq2 with ⟨h24, rfl, rfl, rfl⟩ | ⟨h25, rfl, rfl, rfl⟩
  ·
    refine ⟨rfl, ?_⟩
    refine st rfl (o_y (v := .nilIface) (y_as rfl) rfl rfl rfl ?_)
    refine s_nil ?_
    refine q_then ?_
    refine c_seq ?_
    refine c_seq ?_
    refine c_region ?_
    refine st rfl (o_y (v := .nilIface) (y_mv rfl) rfl rfl rfl ?_)
    refine st rfl (o_y (v := .bool false) (y_k rfl rfl (fun _ => by kernel_rfl)) rfl rfl rfl ?_)
    refine s_nil ?_
    refine q_then ?_
    refine c_false rfl ?_
    refine c_skip ?_
    refine q_then ?_
    refine c_seq ?_
    refine c_seq ?_
    refine c_region ?_
    refine st rfl (o_y (v := .pointer (some ⟨b3, 0, none⟩)) (y_mv rfl) rfl rfl rfl ?_)
    refine st rfl (o_y (v := .string item) (y_mv rfl) rfl rfl rfl ?_)
    refine st rfl (o_lit (cs := [.string item]) (T := 9) (m := 1) rfl rfl rfl rfl (fun _ => by kernel_rfl) (fun b4 => ?_))
    refine e_calm 0 rfl ?_
    refine e_lit strTy [item] 0 rfl rfl (by simp) ?_
    refine st rfl (o_call [0, 0] [0, 3, 4, 5, 6, 7, 8] (put_ b3 max A1 l.length l (some ⟨b4, 0, none⟩) 1 [item] ea ef ee (by assumption) (by first | assumption | exact small_put _ _ _ | exact small_take _ _ | exact small_all _ _ _ | exact small_nil | exact small_right (by assumption) | exact small_one (small_at (by assumption) hx1) | exact small_one (by assumption))) rfl rfl rfl rfl rfl rfl (fun v L' I' hq3 => ?_))
    rcases hq3 with ⟨A2, c1, l1, n1, h26, h27, rfl, rfl, rfl⟩ | ⟨A3, c2, l2, n2, h28, h29, rfl, rfl, rfl⟩ | ⟨A4, c3, l3, n3, h30, h31, rfl, rfl, rfl⟩
    ·
      refine st rfl (o_y (v := .tuple #[.int .i64 (n1 : Int), .nilIface]) (y_mv rfl) rfl rfl rfl ?_)
      refine st rfl (o_y (v := .int .i64 (n1 : Int)) (y_k rfl rfl (fun _ => by kernel_rfl)) rfl rfl rfl ?_)
      refine st rfl (o_y (v := .nilIface) (y_k rfl rfl (fun _ => by kernel_rfl)) rfl rfl rfl ?_)
      refine st rfl (o_y (v := .nilIface) (y_as rfl) rfl rfl rfl ?_)
      refine s_nil ?_
      refine q_then ?_
      refine c_seq ?_
      refine c_region ?_
      refine st rfl (o_y (v := .nilIface) (y_mv rfl) rfl rfl rfl ?_)
      refine st rfl (o_y (v := .bool true) (y_k rfl rfl (fun _ => by kernel_rfl)) rfl rfl rfl ?_)
      refine s_nil ?_
      refine q_then ?_
      refine c_true rfl ?_
      refine c_seq ?_
      refine c_region ?_
      refine st rfl (o_y (v := .pointer (some ⟨b3, 0, none⟩)) (y_mv rfl) rfl rfl rfl ?_)
      refine st rfl (o_y (v := .pointer (some ⟨b3, 0, none⟩)) (y_k rfl rfl (fun _ => by kernel_rfl)) rfl rfl rfl ?_)
      refine st rfl (o_y (v := .pointer (some ⟨b3, 0, none⟩)) (y_k rfl rfl (fun _ => by kernel_rfl)) rfl rfl rfl ?_)
      refine st rfl (o_ldn 0 2 rfl rfl rfl rfl Tryd.underlying24 rfl (by kernel_rfl) (by kernel_rfl) rfl ?_)
      refine st rfl (o_st 2 rfl rfl rfl rfl rfl (by kernel_rfl) (by kernel_rfl) rfl ?_)
      refine st rfl (o_y (v := .int .i64 0) (y_as rfl) rfl rfl rfl ?_)
      refine s_nil ?_
      refine q_then ?_
      refine c_ret ?_
      refine q_then_ret ?_
      refine q_jt_ret ?_
      have hp : putF max l item = (max, l1, 0) := by first | exact putF_no (by assumption) | exact putF_ok (by assumption) (by assumption) (by assumption) | exact putF_long (by assumption) (by assumption) | exact putF_full (by assumption) (by assumption) (by assumption)
      refine e_weak 1 rfl (fun _ h => h.win) ?_
      refine c_fin (I' := []) [1] [2, 3, 4, 5, 6, 7, 8] rfl (.agg 2 2 rfl rfl rfl rfl Tryd.underlying24 rfl (by kernel_rfl) (by kernel_rfl) (.tmp rfl .nil)) rfl rfl rfl ?_
      rw [hp]
      exact ⟨_, _, rfl, rfl, rfl⟩
    ·
      refine st rfl (o_y (v := .tuple #[.int .i64 (n2 : Int), .iface 80 (.pointer (some ea))]) (y_mv rfl) rfl rfl rfl ?_)
      refine st rfl (o_y (v := .int .i64 (n2 : Int)) (y_k rfl rfl (fun _ => by kernel_rfl)) rfl rfl rfl ?_)
      refine st rfl (o_y (v := .iface 80 (.pointer (some ea))) (y_k rfl rfl (fun _ => by kernel_rfl)) rfl rfl rfl ?_)
      refine st rfl (o_y (v := .iface 80 (.pointer (some ea))) (y_as rfl) rfl rfl rfl ?_)
      refine s_nil ?_
      refine q_then ?_
      refine c_seq ?_
      refine c_region ?_
      refine st rfl (o_y (v := .iface 80 (.pointer (some ea))) (y_mv rfl) rfl rfl rfl ?_)
      refine st rfl (o_y (v := .bool false) (y_k rfl rfl (fun _ => by kernel_rfl)) rfl rfl rfl ?_)
      refine s_nil ?_
      refine q_then ?_
      refine c_false rfl ?_
      refine c_skip ?_
      refine q_then ?_
      refine c_seq ?_
      refine c_label ?_
      refine q_then ?_
      refine c_seq ?_
      refine c_region ?_
      refine st rfl (o_y (v := .agg #[.int .i64 0, .slice none 0 0]) (y_k rfl rfl (fun _ => by kernel_rfl)) rfl rfl rfl ?_)
      refine st rfl (o_y (v := .iface 80 (.pointer (some ea))) (y_mv rfl) rfl rfl rfl ?_)
      refine st rfl (o_call [] [3, 4, 5, 6, 7, 8] (told_arg_ ea ef ee (by assumption) (by assumption) (by assumption)) rfl rfl rfl rfl rfl rfl (fun v L' I' hq4 => ?_))
      obtain ⟨rfl, rfl, rfl⟩ := hq4
      refine st rfl (o_st 2 rfl rfl rfl rfl rfl (by kernel_rfl) (by kernel_rfl) rfl ?_)
      refine st rfl (o_y (v := .int .i64 2) (y_as rfl) rfl rfl rfl ?_)
      refine s_nil ?_
      refine q_then ?_
      refine c_ret ?_
      refine q_jt_ret ?_
      have hp : putF max l item = (0, [], 2) := by first | exact putF_no (by assumption) | exact putF_ok (by assumption) (by assumption) (by assumption) | exact putF_long (by assumption) (by assumption) | exact putF_full (by assumption) (by assumption) (by assumption)
      refine e_nil strTy 9 ?_
      refine e_weak 0 rfl (fun _ h => h.win) ?_
      refine c_fin (I' := []) [0] [2, 3, 4, 5, 6, 7, 8] rfl (.agg 3 2 rfl rfl rfl rfl Tryd.underlying24 rfl (by kernel_rfl) (by kernel_rfl) (.tmp rfl .nil)) rfl rfl rfl ?_
      rw [hp]
      exact ⟨_, _, rfl, rfl, rfl⟩
    ·
      refine st rfl (o_y (v := .tuple #[.int .i64 (n3 : Int), .iface 80 (.pointer (some ef))]) (y_mv rfl) rfl rfl rfl ?_)
      refine st rfl (o_y (v := .int .i64 (n3 : Int)) (y_k rfl rfl (fun _ => by kernel_rfl)) rfl rfl rfl ?_)
      refine st rfl (o_y (v := .iface 80 (.pointer (some ef))) (y_k rfl rfl (fun _ => by kernel_rfl)) rfl rfl rfl ?_)
      refine st rfl (o_y (v := .iface 80 (.pointer (some ef))) (y_as rfl) rfl rfl rfl ?_)
      refine s_nil ?_
      refine q_then ?_
      refine c_seq ?_
      refine c_region ?_
      refine st rfl (o_y (v := .iface 80 (.pointer (some ef))) (y_mv rfl) rfl rfl rfl ?_)
      refine st rfl (o_y (v := .bool false) (y_k rfl rfl (fun _ => by kernel_rfl)) rfl rfl rfl ?_)
      refine s_nil ?_
      refine q_then ?_
      refine c_false rfl ?_
      refine c_skip ?_
      refine q_then ?_
      refine c_seq ?_
      refine c_label ?_
      refine q_then ?_
      refine c_seq ?_
      refine c_region ?_
      refine st rfl (o_y (v := .agg #[.int .i64 0, .slice none 0 0]) (y_k rfl rfl (fun _ => by kernel_rfl)) rfl rfl rfl ?_)
      refine st rfl (o_y (v := .iface 80 (.pointer (some ef))) (y_mv rfl) rfl rfl rfl ?_)
      refine st rfl (o_call [] [3, 4, 5, 6, 7, 8] (told_full_ ea ef ee (by assumption) (by assumption) (by assumption)) rfl rfl rfl rfl rfl rfl (fun v L' I' hq5 => ?_))
      obtain ⟨rfl, rfl, rfl⟩ := hq5
      refine st rfl (o_st 2 rfl rfl rfl rfl rfl (by kernel_rfl) (by kernel_rfl) rfl ?_)
      refine st rfl (o_y (v := .int .i64 80) (y_as rfl) rfl rfl rfl ?_)
      refine s_nil ?_
      refine q_then ?_
      refine c_ret ?_
      refine q_jt_ret ?_
      have hp : putF max l item = (0, [], 80) := by first | exact putF_no (by assumption) | exact putF_ok (by assumption) (by assumption) (by assumption) | exact putF_long (by assumption) (by assumption) | exact putF_full (by assumption) (by assumption) (by assumption)
      refine e_nil strTy 9 ?_
      refine e_weak 0 rfl (fun _ h => h.win) ?_
      refine c_fin (I' := []) [0] [2, 3, 4, 5, 6, 7, 8] rfl (.agg 3 2 rfl rfl rfl rfl Tryd.underlying24 rfl (by kernel_rfl) (by kernel_rfl) (.tmp rfl .nil)) rfl rfl rfl ?_
      rw [hp]
      exact ⟨_, _, rfl, rfl, rfl⟩
  ·
    refine ⟨rfl, ?_⟩
    refine st rfl (o_y (v := .iface 80 (.pointer (some ea))) (y_as rfl) rfl rfl rfl ?_)
    refine s_nil ?_
    refine q_then ?_
    refine c_seq ?_
    refine c_seq ?_
    refine c_region ?_
    refine st rfl (o_y (v := .iface 80 (.pointer (some ea))) (y_mv rfl) rfl rfl rfl ?_)
    refine st rfl (o_y (v := .bool true) (y_k rfl rfl (fun _ => by kernel_rfl)) rfl rfl rfl ?_)
    refine s_nil ?_
    refine q_then ?_
    refine c_true rfl ?_
    refine c_goto ?_
    refine q_then_goto ?_
    refine q_jt_goto ?_
    refine c_seq ?_
    refine c_skip ?_
    refine q_then ?_
    refine c_seq ?_
    refine c_region ?_
    refine st rfl (o_y (v := .agg #[.int .i64 0, .slice none 0 0]) (y_k rfl rfl (fun _ => by kernel_rfl)) rfl rfl rfl ?_)
    refine st rfl (o_y (v := .iface 80 (.pointer (some ea))) (y_mv rfl) rfl rfl rfl ?_)
    refine st rfl (o_call [] [1, 2, 3, 4, 5, 6] (told_arg_ ea ef ee (by assumption) (by assumption) (by assumption)) rfl rfl rfl rfl rfl rfl (fun v L' I' hq6 => ?_))
    obtain ⟨rfl, rfl, rfl⟩ := hq6
    refine st rfl (o_st 2 rfl rfl rfl rfl rfl (by kernel_rfl) (by kernel_rfl) rfl ?_)
    refine st rfl (o_y (v := .int .i64 2) (y_as rfl) rfl rfl rfl ?_)
    refine s_nil ?_
    refine q_then ?_
    refine c_ret ?_
    refine q_nj_ret ?_
    have hp : putF max l item = (0, [], 2) := by first | exact putF_no (by assumption) | exact putF_ok (by assumption) (by assumption) (by assumption) | exact putF_long (by assumption) (by assumption) | exact putF_full (by assumption) (by assumption) (by assumption)
    refine e_nil strTy 9 ?_
    refine e_weak 0 rfl (fun _ h => h.win) ?_
    refine c_fin (I' := []) [0] [0, 1, 2, 3, 4, 5, 6] rfl (.agg 3 2 rfl rfl rfl rfl Tryd.underlying24 rfl (by kernel_rfl) (by kernel_rfl) (.tmp rfl .nil)) rfl rfl rfl ?_
    rw [hp]
    exact ⟨_, _, rfl, rfl, rfl⟩
theorem Take_ (A : Option Addr) (c : Nat) (l : List ByteArray) (max : Int) (ea : Addr) (ef : Addr) (ee : Addr) (h12 : ea ≠ ef) (h13 : ea ≠ ee) (h23 : ef ≠ ee) (hs : small l) : Con Tryd.prog 19 [.agg #[.int .i64 max, .slice A l.length c]] [] [rd strTy A c l, cellsAt 1 0 [.iface 80 (.pointer (some ea))], cellsAt 2 0 [.iface 80 (.pointer (some ef))], cellsAt 0 0 [.iface 80 (.pointer (some ee))], errAt ea, errAt ef, errAt ee] (fun v L' I' => ∃ A1 : Option Addr, ∃ c1 : Nat, v = .tuple #[.string ((takeF max l).1), .agg #[.int .i64 ((takeF max l).2.1), .slice A1 ((takeF max l).2.2.1).length c1], .int .i64 ((takeF max l).2.2.2)] ∧ L' = [win strTy 9 A1 c1 ((takeF max l).2.2.1)] ∧ I' = []) := by
  refine fn_of Tryd.func19 rfl Tryd.ntmps19 (by kernel_rfl) rfl (fun C => ?_)
  refine c_seq ?_
  refine c_region ?_
  refine st rfl (o_box (cs := [.int .i64 max, .slice A l.length c]) (T := 24) rfl rfl rfl rfl (fun _ => by kernel_rfl) (fun b1 => ?_))
  refine st rfl (o_y (v := .string (⟨#[]⟩ : ByteArray)) (y_as rfl) rfl rfl rfl ?_)
  refine st rfl (o_box (cs := [.int .i64 0, .slice none 0 0]) (T := 24) rfl rfl rfl rfl (fun _ => by kernel_rfl) (fun b2 => ?_))
  refine st rfl (o_y (v := .int .i64 0) (y_as rfl) rfl rfl rfl ?_)
  refine s_nil ?_
  refine q_then ?_
  refine c_seq ?_
  refine c_region ?_
  refine st rfl (o_ldn 1 2 rfl rfl rfl rfl Tryd.underlying24 rfl (by kernel_rfl) (by kernel_rfl) rfl ?_)
  refine st rfl (o_call [] [0] (own_ A c l max (by first | assumption | exact small_put _ _ _ | exact small_take _ _ | exact small_all _ _ _ | exact small_nil | exact small_right (by assumption) | exact small_one (small_at (by assumption) hx1) | exact small_one (by assumption))) rfl rfl rfl rfl rfl rfl (fun v L' I' hq1 => ?_))
  obtain ⟨b3, A1, rfl, rfl, rfl⟩ := hq1
  refine st rfl (o_y (v := .pointer (some ⟨b3, 0, none⟩)) (y_as rfl) rfl rfl rfl ?_)
  refine s_nil ?_
  refine q_then ?_
  refine c_seq ?_
  refine c_region ?_
  refine st rfl (o_y (v := .pointer (some ⟨b3, 0, none⟩)) (y_mv rfl) rfl rfl rfl ?_)
  refine st rfl (o_lend [1] [0] [1, 2, 3, 4, 5, 6] (checked_ A1 l.length l b3 max ea ef ee (by first | assumption | exact small_put _ _ _ | exact small_take _ _ | exact small_all _ _ _ | exact small_nil | exact small_right (by assumption) | exact small_one (small_at (by assumption) hx1) | exact small_one (by assumption))) (.cons lend_ars .nil) rfl rfl rfl rfl rfl rfl rfl rfl (fun v L' I' hq2 => ?_))
  rcases hq2 with ⟨h24, rfl, rfl, rfl⟩ | ⟨h25, rfl, rfl, rfl⟩
  ·
    refine ⟨rfl, ?_⟩
    refine st rfl (o_y (v := .nilIface) (y_as rfl) rfl rfl rfl ?_)
    refine s_nil ?_
    refine q_then ?_
    refine c_seq ?_
    refine c_seq ?_
    refine c_region ?_
    refine st rfl (o_y (v := .nilIface) (y_mv rfl) rfl rfl rfl ?_)
    refine st rfl (o_y (v := .bool true) (y_k rfl rfl (fun _ => by kernel_rfl)) rfl rfl rfl ?_)
    refine st rfl (o_y (v := .bool true) (y_mv rfl) rfl rfl rfl ?_)
    refine st_on 14 rfl rfl rfl (o_y (v := .pointer (some ⟨b3, 0, none⟩)) (y_mv rfl) rfl rfl rfl ?_)
    refine st_on 14 rfl rfl rfl (o_y (v := .pointer (some ⟨b3, 0, none⟩)) (y_k rfl rfl (fun _ => by kernel_rfl)) rfl rfl rfl ?_)
    refine st_on 14 rfl rfl rfl (o_y (v := .pointer (some ⟨b3, 0, none⟩)) (y_k rfl rfl (fun _ => by kernel_rfl)) rfl rfl rfl ?_)
    refine st_on 14 rfl rfl rfl (o_y (v := .pointer (some ⟨b3, 1, none⟩)) (y_k rfl rfl (fun _ => by kernel_rfl)) rfl rfl rfl ?_)
    refine st_on 14 rfl rfl rfl (o_ld 0 rfl rfl rfl Tryd.underlying22 rfl rfl ?_)
    refine st_on 14 rfl rfl rfl (o_y (v := .int .i64 (l.length : Int)) (y_k rfl rfl (fun _ => by kernel_rfl)) rfl rfl rfl ?_)
    refine e_by ((l.length : Int) = 0) (fun h26 => ?_) (fun h26 => ?_)
    ·
      refine st_on 14 rfl rfl rfl (o_y (v := .bool true) (y_b (y_k (v := .bool ((l.length : Int) == 0)) rfl rfl (fun _ => by kernel_rfl)) (beq_iff_eq.2 h26)) rfl rfl rfl ?_)
      refine st rfl (o_y (v := .bool true) (y_pick rfl rfl) rfl rfl rfl ?_)
      refine s_nil ?_
      refine q_then ?_
      refine c_true rfl ?_
      refine c_region ?_
      refine st rfl (o_ldf 3 0 rfl rfl rfl Tryd.underlying47 rfl rfl ?_)
      refine st rfl (o_y (v := .iface 80 (.pointer (some ee))) (y_as rfl) rfl rfl rfl ?_)
      refine s_nil ?_
      refine q_then ?_
      refine c_seq ?_
      refine c_seq ?_
      refine c_region ?_
      refine st rfl (o_y (v := .iface 80 (.pointer (some ee))) (y_mv rfl) rfl rfl rfl ?_)
      refine st rfl (o_y (v := .bool true) (y_k rfl rfl (fun _ => by kernel_rfl)) rfl rfl rfl ?_)
      refine s_nil ?_
      refine q_then ?_
      refine c_true rfl ?_
      refine c_seq ?_
      refine c_region ?_
      refine st rfl (o_y (v := .agg #[.int .i64 0, .slice none 0 0]) (y_k rfl rfl (fun _ => by kernel_rfl)) rfl rfl rfl ?_)
      refine st rfl (o_y (v := .iface 80 (.pointer (some ee))) (y_mv rfl) rfl rfl rfl ?_)
      refine st rfl (o_call [] [1, 2, 3, 4, 5, 6] (told_empty_ ea ef ee (by assumption) (by assumption) (by assumption)) rfl rfl rfl rfl rfl rfl (fun v L' I' hq3 => ?_))
      obtain ⟨rfl, rfl, rfl⟩ := hq3
      refine st rfl (o_y (v := .string (⟨#[]⟩ : ByteArray)) (y_as rfl) rfl rfl rfl ?_)
      refine st rfl (o_st 2 rfl rfl rfl rfl rfl (by kernel_rfl) (by kernel_rfl) rfl ?_)
      refine st rfl (o_y (v := .int .i64 81) (y_as rfl) rfl rfl rfl ?_)
      refine s_nil ?_
      refine q_then ?_
      refine c_ret ?_
      refine q_then_ret ?_
      have hp : takeF max l = ((⟨#[]⟩ : ByteArray), 0, [], 81) := by first | exact takeF_no (by assumption) | exact takeF_nil (by assumption) (by omega) | exact takeF_ok (by assumption) hx1
      refine e_nil strTy 9 ?_
      refine e_weak 0 rfl (fun _ h => h.win) ?_
      refine c_fin (I' := []) [0] [0, 1, 2, 3, 4, 5, 6] rfl (.tmp rfl (.agg 3 2 rfl rfl rfl rfl Tryd.underlying24 rfl (by kernel_rfl) (by kernel_rfl) (.tmp rfl .nil))) rfl rfl rfl ?_
      rw [hp]
      exact ⟨_, _, rfl, rfl, rfl⟩
    ·
      refine st_on 14 rfl rfl rfl (o_y (v := .bool false) (y_b (y_k (v := .bool ((l.length : Int) == 0)) rfl rfl (fun _ => by kernel_rfl)) (beq_eq_false_iff_ne.2 h26)) rfl rfl rfl ?_)
      refine st rfl (o_y (v := .bool false) (y_pick rfl rfl) rfl rfl rfl ?_)
      refine s_nil ?_
      refine q_then ?_
      refine c_false rfl ?_
      refine c_skip ?_
      refine q_then ?_
      refine c_seq ?_
      refine c_seq ?_
      refine c_region ?_
      refine st rfl (o_y (v := .nilIface) (y_mv rfl) rfl rfl rfl ?_)
      refine st rfl (o_y (v := .bool false) (y_k rfl rfl (fun _ => by kernel_rfl)) rfl rfl rfl ?_)
      refine s_nil ?_
      refine q_then ?_
      refine c_false rfl ?_
      refine c_skip ?_
      refine q_then ?_
      refine c_seq ?_
      refine c_region ?_
      refine st rfl (o_y (v := .pointer (some ⟨b3, 0, none⟩)) (y_mv rfl) rfl rfl rfl ?_)
      refine st rfl (o_y (v := .pointer (some ⟨b3, 0, none⟩)) (y_k rfl rfl (fun _ => by kernel_rfl)) rfl rfl rfl ?_)
      refine st rfl (o_y (v := .pointer (some ⟨b3, 0, none⟩)) (y_k rfl rfl (fun _ => by kernel_rfl)) rfl rfl rfl ?_)
      refine st rfl (o_y (v := .pointer (some ⟨b3, 1, none⟩)) (y_k rfl rfl (fun _ => by kernel_rfl)) rfl rfl rfl ?_)
      refine st rfl (o_ld 0 rfl rfl rfl Tryd.underlying22 rfl rfl ?_)
      refine e_weak 1 rfl (fun _ h => h.win) ?_
      obtain ⟨x1, hx1⟩ : ∃ x, l[0]? = some x := ⟨_, List.getElem?_eq_getElem (by omega)⟩
      refine e_winb 1 rfl (by omega) (fun b4 o1 hA1 => ?_)
      refine st rfl (o_y (v := .pointer (some ⟨b4, o1 + 0 * 1, none⟩)) (y_at (d := strTy) (l := l) 0 hA1 rfl rfl rfl (rfl) (by omega) Tryd.underlying22 (by kernel_rfl) (by kernel_rfl)) rfl rfl rfl ?_)
      refine st rfl (o_ldw (d := strTy) (j := 0) 1 0 rfl hA1 hx1 rfl rfl Tryd.underlying9 rfl rfl ?_)
      refine st rfl (o_y (v := .string x1) (y_as rfl) rfl rfl rfl ?_)
      refine s_nil ?_
      refine q_then ?_
      refine c_seq ?_
      refine c_region ?_
      refine st rfl (o_y (v := .pointer (some ⟨b3, 0, none⟩)) (y_mv rfl) rfl rfl rfl ?_)
      refine st rfl (o_y (v := .pointer (some ⟨b3, 0, none⟩)) (y_mv rfl) rfl rfl rfl ?_)
      refine st rfl (o_y (v := .pointer (some ⟨b3, 0, none⟩)) (y_k rfl rfl (fun _ => by kernel_rfl)) rfl rfl rfl ?_)
      refine st rfl (o_y (v := .pointer (some ⟨b3, 0, none⟩)) (y_k rfl rfl (fun _ => by kernel_rfl)) rfl rfl rfl ?_)
      refine st rfl (o_y (v := .pointer (some ⟨b3, 1, none⟩)) (y_k rfl rfl (fun _ => by kernel_rfl)) rfl rfl rfl ?_)
      refine st rfl (o_ld 0 rfl rfl rfl Tryd.underlying22 rfl rfl ?_)
      refine e_know 1 rfl (fun _ h => win.lens _ h) (fun hl1 => ?_)
      refine e_weak 1 rfl (fun _ h => h.cut2 (lo := 1) (hi := l.length) (mx := l.length) (l2 := l.drop 1) (by simp) (by omega) (by omega) (by omega) (by omega)) ?_
      refine st rfl (o_y (v := .slice (cutA strTy A1 1 l.length) (l.drop 1).length (l.length - 1)) (y_cut (d := strTy) (l := l) (l2 := l.drop 1) 1 l.length l.length (by simp) rfl rfl (.at 1 rfl (rfl)) .no .no (by simp) Tryd.underlying22 (by kernel_rfl) (by kernel_rfl) (by omega) (by omega) (by omega) (by omega)) rfl rfl rfl ?_)
      refine st rfl (o_y (v := .pointer (some ⟨b3, 0, none⟩)) (y_k rfl rfl (fun _ => by kernel_rfl)) rfl rfl rfl ?_)
      refine st rfl (o_y (v := .pointer (some ⟨b3, 0, none⟩)) (y_k rfl rfl (fun _ => by kernel_rfl)) rfl rfl rfl ?_)
      refine st rfl (o_y (v := .pointer (some ⟨b3, 1, none⟩)) (y_k rfl rfl (fun _ => by kernel_rfl)) rfl rfl rfl ?_)
      refine st rfl (o_st 0 rfl rfl rfl rfl rfl (by kernel_rfl) (by kernel_rfl) rfl ?_)
      refine s_nil ?_
      refine q_then ?_
      refine c_seq ?_
      refine c_draw (l := ticked 8 0) [(⟨b3, 0, none⟩, .int .i64 max), (⟨b3, 1, none⟩, .slice (cutA strTy A1 1 l.length) (l.drop 1).length (l.length - 1))] [] (by kernel_rfl) rfl rfl ?_
      refine a_y (i := 0) (v := .string x1) (ticked 8 1) rfl (by kernel_rfl) rfl rfl rfl (by exact y_mv rfl) ?_
      refine a_y (i := 1) (v := .pointer (some ⟨b3, 0, none⟩)) (ticked 8 3) rfl (by kernel_rfl) rfl rfl rfl (by exact y_mv rfl) ?_
      refine a_y (i := 2) (v := .pointer (some ⟨b3, 0, none⟩)) (ticked 8 7) rfl (by kernel_rfl) rfl rfl rfl (by exact y_k rfl rfl (fun _ => by kernel_rfl)) ?_
      refine a_y (i := 3) (v := .pointer (some ⟨b3, 0, none⟩)) (ticked 8 15) rfl (by kernel_rfl) rfl rfl rfl (by exact y_k rfl rfl (fun _ => by kernel_rfl)) ?_
      refine a_y (i := 5) (v := .string x1) (ticked 8 47) rfl (by kernel_rfl) rfl rfl rfl (by exact y_as rfl) ?_
      refine a_held (i := 4) (ticked 8 63) rfl (by kernel_rfl) rfl rfl rfl (held_pt 0 rfl rfl (held_pt 0 rfl rfl held_nil)) (h_ldn (vs := [.int .i64 max, .slice (cutA strTy A1 1 l.length) (l.drop 1).length (l.length - 1)]) 0 2 rfl rfl rfl Tryd.underlying24 rfl (by kernel_rfl) (by kernel_rfl)) ?_
      refine a_each (rs := [6]) (by kernel_rfl) (.cons (ticked 8 127) rfl rfl rfl (o_st 2 rfl rfl rfl rfl rfl (by kernel_rfl) (by kernel_rfl) rfl ?_) .nil) (List.cons_ne_nil _ _)
      refine a_and (held_pt 0 rfl rfl (held_pt 0 rfl rfl held_nil)) ?_
      refine a_y (i := 7) (v := .int .i64 0) (ticked 8 255) rfl (by kernel_rfl) rfl rfl rfl (by exact y_as rfl) ?_
      refine a_done (by kernel_rfl) ?_
      refine q_then ?_
      refine c_ret ?_
      have hp : takeF max l = (x1, max, l.drop 1, 0) := by first | exact takeF_no (by assumption) | exact takeF_nil (by assumption) (by omega) | exact takeF_ok (by assumption) hx1
      refine c_fin (I' := []) [1] [0, 1, 2, 3, 4, 5, 6] rfl (.tmp rfl (.agg 2 2 rfl rfl rfl rfl Tryd.underlying24 rfl (by kernel_rfl) (by kernel_rfl) (.tmp rfl .nil))) rfl rfl rfl ?_
      rw [hp]
      exact ⟨_, _, rfl, rfl, rfl⟩
  ·
    refine ⟨rfl, ?_⟩
    refine st rfl (o_y (v := .iface 80 (.pointer (some ea))) (y_as rfl) rfl rfl rfl ?_)
    refine s_nil ?_
    refine q_then ?_
    refine c_seq ?_
    refine c_seq ?_
    refine c_region ?_
    refine st rfl (o_y (v := .iface 80 (.pointer (some ea))) (y_mv rfl) rfl rfl rfl ?_)
    refine st rfl (o_y (v := .bool false) (y_k rfl rfl (fun _ => by kernel_rfl)) rfl rfl rfl ?_)
    refine st rfl (o_y (v := .bool false) (y_mv rfl) rfl rfl rfl ?_)
    refine st_off 14 rfl rfl rfl rfl rfl rfl ?_
    refine st_off 14 rfl rfl rfl rfl rfl rfl ?_
    refine st_off 14 rfl rfl rfl rfl rfl rfl ?_
    refine st_off 14 rfl rfl rfl rfl rfl rfl ?_
    refine st_off 14 rfl rfl rfl rfl rfl rfl ?_
    refine st_off 14 rfl rfl rfl rfl rfl rfl ?_
    refine st_off 14 rfl rfl rfl rfl rfl rfl ?_
    refine st rfl (o_y (v := .bool false) (y_pick rfl rfl) rfl rfl rfl ?_)
    refine s_nil ?_
    refine q_then ?_
    refine c_false rfl ?_
    refine c_skip ?_
    refine q_then ?_
    refine c_seq ?_
    refine c_seq ?_
    refine c_region ?_
    refine st rfl (o_y (v := .iface 80 (.pointer (some ea))) (y_mv rfl) rfl rfl rfl ?_)
    refine st rfl (o_y (v := .bool true) (y_k rfl rfl (fun _ => by kernel_rfl)) rfl rfl rfl ?_)
    refine s_nil ?_
    refine q_then ?_
    refine c_true rfl ?_
    refine c_seq ?_
    refine c_region ?_
    refine st rfl (o_y (v := .agg #[.int .i64 0, .slice none 0 0]) (y_k rfl rfl (fun _ => by kernel_rfl)) rfl rfl rfl ?_)
    refine st rfl (o_y (v := .iface 80 (.pointer (some ea))) (y_mv rfl) rfl rfl rfl ?_)
    refine st rfl (o_call [] [1, 2, 3, 4, 5, 6] (told_arg_ ea ef ee (by assumption) (by assumption) (by assumption)) rfl rfl rfl rfl rfl rfl (fun v L' I' hq4 => ?_))
    obtain ⟨rfl, rfl, rfl⟩ := hq4
    refine st rfl (o_y (v := .string (⟨#[]⟩ : ByteArray)) (y_as rfl) rfl rfl rfl ?_)
    refine st rfl (o_st 2 rfl rfl rfl rfl rfl (by kernel_rfl) (by kernel_rfl) rfl ?_)
    refine st rfl (o_y (v := .int .i64 2) (y_as rfl) rfl rfl rfl ?_)
    refine s_nil ?_
    refine q_then ?_
    refine c_ret ?_
    refine q_then_ret ?_
    have hp : takeF max l = ((⟨#[]⟩ : ByteArray), 0, [], 2) := by first | exact takeF_no (by assumption) | exact takeF_nil (by assumption) (by omega) | exact takeF_ok (by assumption) hx1
    refine e_nil strTy 9 ?_
    refine e_weak 0 rfl (fun _ h => h.win) ?_
    refine c_fin (I' := []) [0] [0, 1, 2, 3, 4, 5, 6] rfl (.tmp rfl (.agg 3 2 rfl rfl rfl rfl Tryd.underlying24 rfl (by kernel_rfl) (by kernel_rfl) (.tmp rfl .nil))) rfl rfl rfl ?_
    rw [hp]
    exact ⟨_, _, rfl, rfl, rfl⟩
theorem All_ (A : Option Addr) (c : Nat) (l : List ByteArray) (B : Option Addr) (d : Nat) (r : List ByteArray) (max : Int) (ea : Addr) (ef : Addr) (ee : Addr) (h12 : ea ≠ ef) (h13 : ea ≠ ee) (h23 : ef ≠ ee) (hs : small l) (hsr : small r) : Con Tryd.prog 15 [.agg #[.int .i64 max, .slice A l.length c], .slice B r.length d] [] [rd strTy A c l, rd strTy B d r, cellsAt 1 0 [.iface 80 (.pointer (some ea))], cellsAt 2 0 [.iface 80 (.pointer (some ef))], cellsAt 0 0 [.iface 80 (.pointer (some ee))], errAt ea, errAt ef, errAt ee] (fun v L' I' => ∃ A1 : Option Addr, ∃ c1 : Nat, v = .tuple #[.agg #[.int .i64 ((allF max l r).1), .slice A1 ((allF max l r).2.1).length c1], .int .i64 ((allF max l r).2.2.1 : Int), .int .i64 ((allF max l r).2.2.2)] ∧ L' = [win strTy 9 A1 c1 ((allF max l r).2.1)] ∧ I' = []) := by
  refine fn_of Tryd.func15 rfl Tryd.ntmps15 (by kernel_rfl) rfl (fun C => ?_)
  refine c_seq ?_
  refine c_region ?_
  refine st rfl (o_box (cs := [.int .i64 max, .slice A l.length c]) (T := 24) rfl rfl rfl rfl (fun _ => by kernel_rfl) (fun b1 => ?_))
  refine st rfl (o_box (cs := [.int .i64 0, .slice none 0 0]) (T := 24) rfl rfl rfl rfl (fun _ => by kernel_rfl) (fun b2 => ?_))
  refine st rfl (o_y (v := .int .i64 0) (y_as rfl) rfl rfl rfl ?_)
  refine st rfl (o_y (v := .int .i64 0) (y_as rfl) rfl rfl rfl ?_)
  refine s_nil ?_
  refine q_then ?_
  refine c_seq ?_
  refine c_region ?_
  refine st rfl (o_ldn 1 2 rfl rfl rfl rfl Tryd.underlying24 rfl (by kernel_rfl) (by kernel_rfl) rfl ?_)
  refine st rfl (o_call [] [0] (own_ A c l max (by first | assumption | exact small_put _ _ _ | exact small_take _ _ | exact small_all _ _ _ | exact small_nil | exact small_right (by assumption) | exact small_one (small_at (by assumption) hx1) | exact small_one (by assumption))) rfl rfl rfl rfl rfl rfl (fun v L' I' hq1 => ?_))
  obtain ⟨b3, A1, rfl, rfl, rfl⟩ := hq1
  refine st rfl (o_y (v := .pointer (some ⟨b3, 0, none⟩)) (y_as rfl) rfl rfl rfl ?_)
  refine s_nil ?_
  refine q_then ?_
  refine c_seq ?_
  refine c_seq ?_
  refine c_region ?_
  refine st rfl (o_y (v := .pointer (some ⟨b3, 0, none⟩)) (y_mv rfl) rfl rfl rfl ?_)
  refine st rfl (o_lend [1] [0] [2, 3, 4, 5, 6, 7] (checked_ A1 l.length l b3 max ea ef ee (by first | assumption | exact small_put _ _ _ | exact small_take _ _ | exact small_all _ _ _ | exact small_nil | exact small_right (by assumption) | exact small_one (small_at (by assumption) hx1) | exact small_one (by assumption))) (.cons lend_ars .nil) rfl rfl rfl rfl rfl rfl rfl rfl (fun v L' I' hq2 => ?_))
  rcases hq2 with ⟨h24, rfl, rfl, rfl⟩ | ⟨h25, rfl, rfl, rfl⟩
  ·
    refine ⟨rfl, ?_⟩
    refine st rfl (o_y (v := .nilIface) (y_as rfl) rfl rfl rfl ?_)
    refine s_nil ?_
    refine q_then ?_
    refine c_seq ?_
    refine c_region ?_
    refine st rfl (o_y (v := .nilIface) (y_mv rfl) rfl rfl rfl ?_)
    refine st rfl (o_y (v := .bool false) (y_k rfl rfl (fun _ => by kernel_rfl)) rfl rfl rfl ?_)
    refine s_nil ?_
    refine q_then ?_
    refine c_false rfl ?_
    refine c_skip ?_
    refine q_then ?_
    refine c_seq ?_
    refine c_region ?_
    refine st rfl (o_y (v := .pointer (some ⟨b3, 0, none⟩)) (y_mv rfl) rfl rfl rfl ?_)
    refine st rfl (o_y (v := .slice B r.length d) (y_mv rfl) rfl rfl rfl ?_)
    refine st rfl (o_call [0, 0] [1, 2, 3, 4, 5, 6, 7] (put_ b3 max A1 l.length l B d r ea ef ee (by assumption) (by first | assumption | exact small_put _ _ _ | exact small_take _ _ | exact small_all _ _ _ | exact small_nil | exact small_right (by assumption) | exact small_one (small_at (by assumption) hx1) | exact small_one (by assumption))) rfl rfl rfl rfl rfl rfl (fun v L' I' hq3 => ?_))
    rcases hq3 with ⟨A2, c1, l1, n1, h26, h27, rfl, rfl, rfl⟩ | ⟨A3, c2, l2, n2, h28, h29, rfl, rfl, rfl⟩ | ⟨A4, c3, l3, n3, h30, h31, rfl, rfl, rfl⟩
    ·
      refine st rfl (o_y (v := .tuple #[.int .i64 (n1 : Int), .nilIface]) (y_mv rfl) rfl rfl rfl ?_)
      refine st rfl (o_y (v := .int .i64 (n1 : Int)) (y_k rfl rfl (fun _ => by kernel_rfl)) rfl rfl rfl ?_)
      refine st rfl (o_y (v := .nilIface) (y_k rfl rfl (fun _ => by kernel_rfl)) rfl rfl rfl ?_)
      refine st rfl (o_y (v := .int .i64 (n1 : Int)) (y_as rfl) rfl rfl rfl ?_)
      refine st rfl (o_y (v := .nilIface) (y_as rfl) rfl rfl rfl ?_)
      refine s_nil ?_
      refine q_then ?_
      refine c_seq ?_
      refine c_region ?_
      refine st rfl (o_y (v := .pointer (some ⟨b3, 0, none⟩)) (y_mv rfl) rfl rfl rfl ?_)
      refine st rfl (o_y (v := .pointer (some ⟨b3, 0, none⟩)) (y_k rfl rfl (fun _ => by kernel_rfl)) rfl rfl rfl ?_)
      refine st rfl (o_y (v := .pointer (some ⟨b3, 0, none⟩)) (y_k rfl rfl (fun _ => by kernel_rfl)) rfl rfl rfl ?_)
      refine st rfl (o_ldn 0 2 rfl rfl rfl rfl Tryd.underlying24 rfl (by kernel_rfl) (by kernel_rfl) rfl ?_)
      refine st rfl (o_y (v := .int .i64 (n1 : Int)) (y_mv rfl) rfl rfl rfl ?_)
      refine st rfl (o_st 2 rfl rfl rfl rfl rfl (by kernel_rfl) (by kernel_rfl) rfl ?_)
      refine st rfl (o_y (v := .int .i64 (n1 : Int)) (y_as rfl) rfl rfl rfl ?_)
      refine st rfl (o_y (v := .int .i64 0) (y_as rfl) rfl rfl rfl ?_)
      refine s_nil ?_
      refine q_then ?_
      refine c_ret ?_
      have hp : allF max l r = (max, l1, n1, 0) := by first | exact allF_no (by assumption) | exact allF_ok (by assumption) (by assumption)
      refine e_weak 1 rfl (fun _ h => h.win) ?_
      refine c_fin (I' := []) [1] [0, 1, 2, 3, 4, 5, 6, 7] rfl (.agg 2 2 rfl rfl rfl rfl Tryd.underlying24 rfl (by kernel_rfl) (by kernel_rfl) (.tmp rfl (.tmp rfl .nil))) rfl rfl rfl ?_
      rw [hp]
      exact ⟨_, _, rfl, rfl, rfl⟩
    ·
      refine st rfl (o_y (v := .tuple #[.int .i64 (n2 : Int), .iface 80 (.pointer (some ea))]) (y_mv rfl) rfl rfl rfl ?_)
      refine st rfl (o_y (v := .int .i64 (n2 : Int)) (y_k rfl rfl (fun _ => by kernel_rfl)) rfl rfl rfl ?_)
      refine st rfl (o_y (v := .iface 80 (.pointer (some ea))) (y_k rfl rfl (fun _ => by kernel_rfl)) rfl rfl rfl ?_)
      refine st rfl (o_y (v := .int .i64 (n2 : Int)) (y_as rfl) rfl rfl rfl ?_)
      refine st rfl (o_y (v := .iface 80 (.pointer (some ea))) (y_as rfl) rfl rfl rfl ?_)
      refine s_nil ?_
      refine q_then ?_
      refine c_seq ?_
      refine c_region ?_
      refine st rfl (o_y (v := .pointer (some ⟨b3, 0, none⟩)) (y_mv rfl) rfl rfl rfl ?_)
      refine st rfl (o_y (v := .pointer (some ⟨b3, 0, none⟩)) (y_k rfl rfl (fun _ => by kernel_rfl)) rfl rfl rfl ?_)
      refine st rfl (o_y (v := .pointer (some ⟨b3, 0, none⟩)) (y_k rfl rfl (fun _ => by kernel_rfl)) rfl rfl rfl ?_)
      refine st rfl (o_ldn 0 2 rfl rfl rfl rfl Tryd.underlying24 rfl (by kernel_rfl) (by kernel_rfl) rfl ?_)
      refine st rfl (o_y (v := .int .i64 (n2 : Int)) (y_mv rfl) rfl rfl rfl ?_)
      refine st rfl (o_st 2 rfl rfl rfl rfl rfl (by kernel_rfl) (by kernel_rfl) rfl ?_)
      refine st rfl (o_y (v := .int .i64 (n2 : Int)) (y_as rfl) rfl rfl rfl ?_)
      refine st rfl (o_y (v := .int .i64 0) (y_as rfl) rfl rfl rfl ?_)
      refine s_nil ?_
      refine q_then ?_
      refine c_ret ?_
      have hp : allF max l r = (max, l2, n2, 0) := by first | exact allF_no (by assumption) | exact allF_ok (by assumption) (by assumption)
      refine e_weak 1 rfl (fun _ h => h.win) ?_
      refine c_fin (I' := []) [1] [0, 1, 2, 3, 4, 5, 6, 7] rfl (.agg 2 2 rfl rfl rfl rfl Tryd.underlying24 rfl (by kernel_rfl) (by kernel_rfl) (.tmp rfl (.tmp rfl .nil))) rfl rfl rfl ?_
      rw [hp]
      exact ⟨_, _, rfl, rfl, rfl⟩
    ·
      refine st rfl (o_y (v := .tuple #[.int .i64 (n3 : Int), .iface 80 (.pointer (some ef))]) (y_mv rfl) rfl rfl rfl ?_)
      refine st rfl (o_y (v := .int .i64 (n3 : Int)) (y_k rfl rfl (fun _ => by kernel_rfl)) rfl rfl rfl ?_)
      refine st rfl (o_y (v := .iface 80 (.pointer (some ef))) (y_k rfl rfl (fun _ => by kernel_rfl)) rfl rfl rfl ?_)
      refine st rfl (o_y (v := .int .i64 (n3 : Int)) (y_as rfl) rfl rfl rfl ?_)
      refine st rfl (o_y (v := .iface 80 (.pointer (some ef))) (y_as rfl) rfl rfl rfl ?_)
      refine s_nil ?_
      refine q_then ?_
      refine c_seq ?_
      refine c_region ?_
      refine st rfl (o_y (v := .pointer (some ⟨b3, 0, none⟩)) (y_mv rfl) rfl rfl rfl ?_)
      refine st rfl (o_y (v := .pointer (some ⟨b3, 0, none⟩)) (y_k rfl rfl (fun _ => by kernel_rfl)) rfl rfl rfl ?_)
      refine st rfl (o_y (v := .pointer (some ⟨b3, 0, none⟩)) (y_k rfl rfl (fun _ => by kernel_rfl)) rfl rfl rfl ?_)
      refine st rfl (o_ldn 0 2 rfl rfl rfl rfl Tryd.underlying24 rfl (by kernel_rfl) (by kernel_rfl) rfl ?_)
      refine st rfl (o_y (v := .int .i64 (n3 : Int)) (y_mv rfl) rfl rfl rfl ?_)
      refine st rfl (o_st 2 rfl rfl rfl rfl rfl (by kernel_rfl) (by kernel_rfl) rfl ?_)
      refine st rfl (o_y (v := .int .i64 (n3 : Int)) (y_as rfl) rfl rfl rfl ?_)
      refine st rfl (o_y (v := .int .i64 0) (y_as rfl) rfl rfl rfl ?_)
      refine s_nil ?_
      refine q_then ?_
      refine c_ret ?_
      have hp : allF max l r = (max, l3, n3, 0) := by first | exact allF_no (by assumption) | exact allF_ok (by assumption) (by assumption)
      refine e_weak 1 rfl (fun _ h => h.win) ?_
      refine c_fin (I' := []) [1] [0, 1, 2, 3, 4, 5, 6, 7] rfl (.agg 2 2 rfl rfl rfl rfl Tryd.underlying24 rfl (by kernel_rfl) (by kernel_rfl) (.tmp rfl (.tmp rfl .nil))) rfl rfl rfl ?_
      rw [hp]
      exact ⟨_, _, rfl, rfl, rfl⟩
  ·
    refine ⟨rfl, ?_⟩
    refine st rfl (o_y (v := .iface 80 (.pointer (some ea))) (y_as rfl) rfl rfl rfl ?_)
    refine s_nil ?_
    refine q_then ?_
    refine c_seq ?_
    refine c_region ?_
    refine st rfl (o_y (v := .iface 80 (.pointer (some ea))) (y_mv rfl) rfl rfl rfl ?_)
    refine st rfl (o_y (v := .bool true) (y_k rfl rfl (fun _ => by kernel_rfl)) rfl rfl rfl ?_)
    refine s_nil ?_
    refine q_then ?_
    refine c_true rfl ?_
    refine c_seq ?_
    refine c_region ?_
    refine st rfl (o_y (v := .agg #[.int .i64 0, .slice none 0 0]) (y_k rfl rfl (fun _ => by kernel_rfl)) rfl rfl rfl ?_)
    refine st rfl (o_y (v := .iface 80 (.pointer (some ea))) (y_mv rfl) rfl rfl rfl ?_)
    refine st rfl (o_call [] [2, 3, 4, 5, 6, 7] (told_arg_ ea ef ee (by assumption) (by assumption) (by assumption)) rfl rfl rfl rfl rfl rfl (fun v L' I' hq4 => ?_))
    obtain ⟨rfl, rfl, rfl⟩ := hq4
    refine st rfl (o_st 2 rfl rfl rfl rfl rfl (by kernel_rfl) (by kernel_rfl) rfl ?_)
    refine st rfl (o_y (v := .int .i64 0) (y_as rfl) rfl rfl rfl ?_)
    refine st rfl (o_y (v := .int .i64 2) (y_as rfl) rfl rfl rfl ?_)
    refine s_nil ?_
    refine q_then ?_
    refine c_ret ?_
    refine q_then_ret ?_
    have hp : allF max l r = (0, [], 0, 2) := by first | exact allF_no (by assumption) | exact allF_ok (by assumption) (by assumption)
    refine e_nil strTy 9 ?_
    refine e_weak 0 rfl (fun _ h => h.win) ?_
    refine c_fin (I' := []) [0] [0, 1, 2, 3, 4, 5, 6, 7] rfl (.agg 3 2 rfl rfl rfl rfl Tryd.underlying24 rfl (by kernel_rfl) (by kernel_rfl) (.tmp rfl (.tmp rfl .nil))) rfl rfl rfl ?_
    rw [hp]
    exact ⟨_, _, rfl, rfl, rfl⟩
end Go.Proofs.YtjcjbdhkajiaeaaDoor
