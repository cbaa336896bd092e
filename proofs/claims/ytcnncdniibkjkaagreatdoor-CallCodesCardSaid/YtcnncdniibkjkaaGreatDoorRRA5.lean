/- The laws of chapter 17 (call), walked over the given program; no condition but what stands in each theorem: part RA5. -/
import Derived.Test.YtcnncdniibkjkaaGreatDoorRRA4
set_option linter.unusedVariables false
set_option linter.unusedSimpArgs false
set_option maxRecDepth 100000
set_option maxHeartbeats 8000000
namespace Go.Proofs.YtcnncdniibkjkaaGreatDoor
open Go Go.Sl Go.RowKit Go.Extern.Stop Go.Stop Go.Extern
theorem rcallPut_ (c : Cal) (h6 : lab64 c.lb) (hn1 : c.nm.size ≤ 100000) (hn2 : c.da.size ≤ 100000) : Con Tryz.prog 8 [.agg #[.int .i64 c.op, .int .i64 c.lb.lv, .int .u64 (c.lb.cs : Int), .int .i64 c.lb.ig, .string c.nm, .int .i64 c.pl, .int .i64 c.nn, .string c.da, .int .i64 c.id]] [] [] (fun v L' I' => v = .tuple #[.string ((callPut c).1), .int .i64 ((callPut c).2)] ∧ L' = [] ∧ I' = []) := by
 have z0 : (⟨#[]⟩ : ByteArray).size = 0 := rfl
 have s4 := signs_sz c.op
 refine fn_of Tryz.func8 rfl Tryz.ntmps8 (by kernel_rfl) rfl (fun C => ?_)
 refine c_seq (c_region ?_)
 refine st rfl (o_box (cs := [.int .i64 c.op, .int .i64 c.lb.lv, .int .u64 (c.lb.cs : Int), .int .i64 c.lb.ig, .string c.nm, .int .i64 c.pl, .int .i64 c.nn, .string c.da, .int .i64 c.id]) (T := 26) rfl rfl rfl rfl (fun _ => by kernel_rfl) (fun b1 => ?_))
 refine s_y rfl (v := .string (⟨#[]⟩ : ByteArray)) (y_as rfl) rfl ?_
 refine s_y rfl (v := .int .i64 0) (y_as rfl) rfl ?_
 refine s_nil (q_then (c_seq (c_region ?_)))
 refine s_y rfl (v := .pointer (some ⟨b1, 0, none⟩)) (y_k rfl rfl (fun _ => by kernel_rfl)) rfl ?_
 refine st rfl (o_ld 0 rfl rfl rfl Tryz.underlying3 rfl rfl ?_)
 refine st rfl (o_call [] [] (rfields_ c.op) rfl rfl rfl rfl rfl rfl (fun v L' I' hq1 => ?_))
 rcases hq1 with ⟨h7, rfl, rfl, rfl⟩ | ⟨h8, rfl, rfl, rfl⟩
 ·
  refine s_y rfl (v := .tuple #[.string (signsF c.op), .bool true]) (y_mv rfl) rfl ?_
  refine s_y rfl (v := .string (signsF c.op)) (y_k rfl rfl (fun _ => by kernel_rfl)) rfl ?_
  refine s_y rfl (v := .bool true) (y_k rfl rfl (fun _ => by kernel_rfl)) rfl ?_
  refine s_y rfl (v := .string (signsF c.op)) (y_as rfl) rfl ?_
  refine s_y rfl (v := .bool true) (y_as rfl) rfl ?_
  refine s_nil (q_then (c_seq (c_region ?_)))
  refine s_y rfl (v := .pointer (some ⟨b1, 0, none⟩)) (y_k rfl rfl (fun _ => by kernel_rfl)) rfl ?_
  refine st rfl (o_ld 0 rfl rfl rfl Tryz.underlying3 rfl rfl ?_)
  refine st rfl (o_call [] [] (rnum_ (1 : Int) c.op) rfl rfl rfl rfl rfl rfl (fun v L' I' hq2 => ?_))
  obtain ⟨rfl, rfl, rfl⟩ := hq2
  refine s_y rfl (v := .tuple #[.string (numS (1 : Int) c.op), .bool (decide (numE (1 : Int) c.op = 0))]) (y_mv rfl) rfl ?_
  refine s_y rfl (v := .string (numS (1 : Int) c.op)) (y_k rfl rfl (fun _ => by kernel_rfl)) rfl ?_
  refine s_y rfl (v := .bool (decide (numE (1 : Int) c.op = 0))) (y_k rfl rfl (fun _ => by kernel_rfl)) rfl ?_
  refine s_y rfl (v := .string (numS (1 : Int) c.op)) (y_as rfl) rfl ?_
  refine s_y rfl (v := .bool (decide (numE (1 : Int) c.op = 0))) (y_as rfl) rfl ?_
  refine s_nil (q_then (c_seq (c_region ?_)))
  refine st rfl (o_ldn 0 9 rfl rfl rfl rfl Tryz.underlying26 rfl (by kernel_rfl) (by kernel_rfl) rfl ?_)
  refine st rfl (o_box (cs := [.int .i64 0, .int .i64 0, .int .u64 0, .int .i64 0, .string (⟨#[]⟩ : ByteArray), .int .i64 0, .int .i64 0, .string (⟨#[]⟩ : ByteArray), .int .i64 0]) (T := 26) rfl rfl rfl rfl (fun _ => by kernel_rfl) (fun b2 => ?_))
  refine st rfl (o_st 0 rfl rfl rfl rfl rfl (by kernel_rfl) (by kernel_rfl) rfl ?_)
  refine s_nil (q_then (c_seq (c_region ?_)))
  refine s_y rfl (v := .pointer (some ⟨b2, 0, none⟩)) (y_k rfl rfl (fun _ => by kernel_rfl)) rfl ?_
  refine st rfl (o_st 0 rfl rfl rfl rfl rfl (by kernel_rfl) (by kernel_rfl) rfl ?_)
  refine s_nil (q_then (c_seq (c_seq (c_region ?_))))
  refine s_y rfl (v := .int .i64 0) (y_as rfl) rfl ?_
  refine s_nil (q_then (c_block ?_))
  show Ent _ _ _ _ [pt b2 [.int .i64 ((op0 c).op), .int .i64 ((op0 c).lb.lv), .int .u64 ((op0 c).lb.cs : Int), .int .i64 ((op0 c).lb.ig), .string ((op0 c).nm), .int .i64 ((op0 c).pl), .int .i64 ((op0 c).nn), .string ((op0 c).da), .int .i64 ((op0 c).id)] 26, pt b1 [.int .i64 c.op, .int .i64 c.lb.lv, .int .u64 (c.lb.cs : Int), .int .i64 c.lb.ig, .string c.nm, .int .i64 c.pl, .int .i64 c.nn, .string c.da, .int .i64 c.id] 26] _ _
  refine c_loopn (ι := Nat × ByteArray × Cal × Bool) (fun (k, o, c1, ok) => (k ≤ (signsF c.op).size) ∧ (ok = true → RPI (lts (signsF c.op)) k (numS 1 c.op) o (op0 c) c1) ∧ (ok = false → ¬ okN (lts (signsF c.op)) (op0 c)) ∧ (o.size ≤ 8 + 300 * k) ∧ (lab64 c1.lb ∧ c1.nm.size ≤ 100000 ∧ c1.da.size ≤ 100000)) (fun (k, o, c1, ok) => [(2, .string (⟨#[]⟩ : ByteArray)), (3, .int .i64 0), (4, .string (signsF c.op)), (5, .bool ok), (6, .string o), (8, .pointer (some ⟨b2, 0, none⟩)), (9, .int .i64 (k : Int))]) (fun (k, o, c1, ok) => [pt b2 [.int .i64 c1.op, .int .i64 c1.lb.lv, .int .u64 (c1.lb.cs : Int), .int .i64 c1.lb.ig, .string c1.nm, .int .i64 c1.pl, .int .i64 c1.nn, .string c1.da, .int .i64 c1.id] 26, pt b1 [.int .i64 c.op, .int .i64 c.lb.lv, .int .u64 (c.lb.cs : Int), .int .i64 c.lb.ig, .string c.nm, .int .i64 c.pl, .int .i64 c.nn, .string c.da, .int .i64 c.id] 26]) (fun (k, o, c1, ok) => []) (fun (k, o, c1, ok) => (signsF c.op).size - k) (0, (numS 1 c.op), (op0 c), true) [0, 0] [] (show (0 ≤ (signsF c.op).size) ∧ (true = true → RPI (lts (signsF c.op)) 0 (numS 1 c.op) (numS 1 c.op) (op0 c) (op0 c)) ∧ (true = false → ¬ okN (lts (signsF c.op)) (op0 c)) ∧ ((numS 1 c.op).size ≤ 8 + 300 * 0) ∧ (lab64 (op0 c).lb ∧ (op0 c).nm.size ≤ 100000 ∧ (op0 c).da.size ≤ 100000) from ⟨by first | omega | simp_all | (simp; done), fun _ => ⟨trivial, rfl, (ba_nil' _).symm⟩, fun q => absurd q (by decide), numS_size _ _, ⟨h6, hn1, hn2⟩⟩) ((.cons rfl rfl (.cons rfl rfl (.cons rfl rfl (.cons rfl rfl (.cons rfl rfl (.cons rfl rfl (.cons rfl rfl .nil)))))))) rfl rfl ?_
  rintro ⟨k, o, c1, ok⟩ ⟨hk, hp, hn, hz, hq⟩
  show Ent 58 C [(2, .string (⟨#[]⟩ : ByteArray)), (3, .int .i64 0), (4, .string (signsF c.op)), (5, .bool ok), (6, .string o), (8, .pointer (some ⟨b2, 0, none⟩)), (9, .int .i64 (k : Int))] [] [pt b2 [.int .i64 c1.op, .int .i64 c1.lb.lv, .int .u64 (c1.lb.cs : Int), .int .i64 c1.lb.ig, .string c1.nm, .int .i64 c1.pl, .int .i64 c1.nn, .string c1.da, .int .i64 c1.id] 26, pt b1 [.int .i64 c.op, .int .i64 c.lb.lv, .int .u64 (c.lb.cs : Int), .int .i64 c.lb.ig, .string c.nm, .int .i64 c.pl, .int .i64 c.nn, .string c.da, .int .i64 c.id] 26] [] _
  refine c_seq (c_seq (c_region ?_))
  refine s_y rfl (v := .int .i64 (k : Int)) (y_mv rfl) rfl ?_
  refine s_y rfl (v := .string (signsF c.op)) (y_mv rfl) rfl ?_
  refine s_y rfl (v := .int .i64 ((signsF c.op).size : Int)) (y_k rfl rfl (fun _ => by kernel_rfl)) rfl ?_
  refine e_by ((k : Int) < ((signsF c.op).size : Int)) (fun h9 => ?_) (fun h9 => ?_)
  ·
   refine s_y rfl (v := .bool true) (y_t (y_k (v := .bool (decide ((k : Int) < ((signsF c.op).size : Int)))) rfl rfl (fun _ => by kernel_rfl)) h9) rfl ?_
   refine s_y rfl (v := .bool true) (y_mv rfl) rfl ?_
   cases ok
   ·
    refine st_on 31 rfl rfl rfl (o_y (v := .bool false) (y_mv rfl) rfl rfl rfl ?_)
    refine s_y rfl (v := .bool false) (y_pick rfl rfl) rfl ?_
    refine s_nil (q_then (c_false rfl ?_))
    refine c_exit ?_
    refine q_then_exit ?_
    refine q_then_exit ?_
    refine q_block_here ?_
    refine q_then (c_seq (c_seq (c_region ?_)))
    refine s_y rfl (v := .bool false) (y_mv rfl) rfl ?_
    refine s_y rfl (v := .bool true) (y_k rfl rfl (fun _ => by kernel_rfl)) rfl ?_
    refine s_y rfl (v := .bool true) (y_mv rfl) rfl ?_
    refine st_off 52 rfl rfl rfl rfl rfl rfl ?_
    refine st_off 52 rfl rfl rfl rfl rfl rfl ?_
    refine st_off 52 rfl rfl rfl rfl rfl rfl ?_
    refine s_y rfl (v := .bool true) (y_pick rfl rfl) rfl ?_
    refine s_nil (q_then (c_true rfl (c_seq (c_region ?_))))
    refine s_y rfl (v := .string (⟨#[]⟩ : ByteArray)) (y_as rfl) rfl ?_
    refine s_y rfl (v := .int .i64 170) (y_as rfl) rfl ?_
    refine s_nil (q_then (c_ret (q_then_ret ?_)))
    have hp : callPut c = ((⟨#[]⟩ : ByteArray), 170) := by first | exact rpe_no (by assumption) | exact rpe_bad (by assumption) (hn rfl) | exact rpe_g (by assumption) (hp rfl) (by omega) (by assumption) | exact rpe_r (by assumption) (hp rfl) (by omega) (by assumption)
    refine c_fin (I' := []) [] [] rfl (.tmp rfl (.tmp rfl .nil)) rfl rfl rfl ?_
    rw [hp]
    exact ⟨rfl, rfl, rfl⟩
   ·
    refine st_on 31 rfl rfl rfl (o_y (v := .bool true) (y_mv rfl) rfl rfl rfl ?_)
    refine s_y rfl (v := .bool true) (y_pick rfl rfl) rfl ?_
    refine s_nil (q_then (c_true rfl (c_skip (q_then (c_seq (c_block (c_seq ?_)))))))
    refine c_drawx (l := ticked 13 0) [(⟨b2, 0, none⟩, .int .i64 c1.op), (⟨b2, 1, none⟩, .int .i64 c1.lb.lv), (⟨b2, 2, none⟩, .int .u64 (c1.lb.cs : Int)), (⟨b2, 3, none⟩, .int .i64 c1.lb.ig), (⟨b2, 4, none⟩, .string c1.nm), (⟨b2, 5, none⟩, .int .i64 c1.pl), (⟨b2, 6, none⟩, .int .i64 c1.nn), (⟨b2, 7, none⟩, .string c1.da), (⟨b2, 8, none⟩, .int .i64 c1.id)] [] (by kernel_rfl) rfl rfl (fun Y back => ?_)
    have cut1 : ∀ (x1 : UInt8) (b3 : Nat) (h10 : ((signsF c.op))[k]? = some x1), Ent 58 C [(2, .string (⟨#[]⟩ : ByteArray)), (3, .int .i64 0), (4, .string (signsF c.op)), (5, .bool true), (6, .string o), (8, .pointer (some ⟨b2, 0, none⟩)), (9, .int .i64 (k : Int)), (10, .string (encR x1 c1)), (11, .pointer (some ⟨b3, 0, none⟩)), (12, .bool (decide ((encC x1 c1).2 = 0))), (27, .int .i64 (k : Int)), (28, .string (signsF c.op)), (29, .int .i64 ((signsF c.op).size : Int)), (30, .bool true), (31, .bool true), (32, .bool true), (33, .bool true), (36, .tuple #[.string (encR x1 c1), .agg #[.int .i64 ((clrC x1 c1).op), .int .i64 ((clrC x1 c1).lb.lv), .int .u64 ((clrC x1 c1).lb.cs : Int), .int .i64 ((clrC x1 c1).lb.ig), .string ((clrC x1 c1).nm), .int .i64 ((clrC x1 c1).pl), .int .i64 ((clrC x1 c1).nn), .string ((clrC x1 c1).da), .int .i64 ((clrC x1 c1).id)], .bool (decide ((encC x1 c1).2 = 0))]), (37, .agg #[.int .i64 c1.op, .int .i64 c1.lb.lv, .int .u64 (c1.lb.cs : Int), .int .i64 c1.lb.ig, .string c1.nm, .int .i64 c1.pl, .int .i64 c1.nn, .string c1.da, .int .i64 c1.id]), (38, .string (signsF c.op)), (39, .int .i64 (k : Int)), (40, .int .u8 (x1.toNat : Int)), (41, .tuple #[.string (encR x1 c1), .agg #[.int .i64 ((clrC x1 c1).op), .int .i64 ((clrC x1 c1).lb.lv), .int .u64 ((clrC x1 c1).lb.cs : Int), .int .i64 ((clrC x1 c1).lb.ig), .string ((clrC x1 c1).nm), .int .i64 ((clrC x1 c1).pl), .int .i64 ((clrC x1 c1).nn), .string ((clrC x1 c1).da), .int .i64 ((clrC x1 c1).id)], .bool (decide ((encC x1 c1).2 = 0))]), (42, .string (encR x1 c1)), (43, .agg #[.int .i64 ((clrC x1 c1).op), .int .i64 ((clrC x1 c1).lb.lv), .int .u64 ((clrC x1 c1).lb.cs : Int), .int .i64 ((clrC x1 c1).lb.ig), .string ((clrC x1 c1).nm), .int .i64 ((clrC x1 c1).pl), .int .i64 ((clrC x1 c1).nn), .string ((clrC x1 c1).da), .int .i64 ((clrC x1 c1).id)]), (44, .bool (decide ((encC x1 c1).2 = 0)))] [] [pt b3 [.int .i64 ((clrC x1 c1).op), .int .i64 ((clrC x1 c1).lb.lv), .int .u64 ((clrC x1 c1).lb.cs : Int), .int .i64 ((clrC x1 c1).lb.ig), .string ((clrC x1 c1).nm), .int .i64 ((clrC x1 c1).pl), .int .i64 ((clrC x1 c1).nn), .string ((clrC x1 c1).da), .int .i64 ((clrC x1 c1).id)] 26, pt b2 [.int .i64 c1.op, .int .i64 c1.lb.lv, .int .u64 (c1.lb.cs : Int), .int .i64 c1.lb.ig, .string c1.nm, .int .i64 c1.pl, .int .i64 c1.nn, .string c1.da, .int .i64 c1.id] 26, pt b1 [.int .i64 c.op, .int .i64 c.lb.lv, .int .u64 (c.lb.cs : Int), .int .i64 c.lb.ig, .string c.nm, .int .i64 c.pl, .int .i64 c.nn, .string c.da, .int .i64 c.id] 26] [] Y := by
     intro x1 b3 h10
     refine back ?_
     refine q_then (c_seq (c_region ?_))
     refine s_y rfl (v := .string o) (y_mv rfl) rfl ?_
     refine s_y rfl (v := .string (encR x1 c1)) (y_mv rfl) rfl ?_
     refine s_y rfl (v := .string (o ++ (encR x1 c1))) (y_cat (s := o) (u := (encR x1 c1)) rfl rfl (by have := encR_size (y := x1) hq.1; omega)) rfl ?_
     refine s_y rfl (v := .string (o ++ (encR x1 c1))) (y_as rfl) rfl ?_
     refine s_nil (q_then (c_seq (c_region ?_)))
     refine st rfl (o_ldn 0 9 rfl rfl rfl rfl Tryz.underlying26 rfl (by kernel_rfl) (by kernel_rfl) rfl ?_)
     refine st rfl (o_st 1 rfl rfl rfl rfl rfl (by kernel_rfl) (by kernel_rfl) rfl ?_)
     refine s_nil (q_then (c_region ?_))
     refine s_y rfl (v := .bool (decide ((encC x1 c1).2 = 0))) (y_mv rfl) rfl ?_
     refine s_y rfl (v := .bool (decide ((encC x1 c1).2 = 0))) (y_as rfl) rfl ?_
     refine s_nil (q_block (q_then (c_region ?_)))
     refine s_y rfl (v := .int .i64 (k : Int)) (y_mv rfl) rfl ?_
     refine s_y rfl (v := .int .i64 ((k : Int) + 1)) (y_add (r := (k : Int) + 1) rfl rfl rfl (by omega)) rfl ?_
     refine s_y rfl (v := .int .i64 ((k : Int) + 1)) (y_as rfl) rfl ?_
     refine s_nil (q_then ?_)
     refine c_next [1, 1] [] (k + 1, o ++ (encR x1 c1), clrC x1 c1, (decide ((encC x1 c1).2 = 0))) ?_ ?_ ?_ (by rfl) (by rfl)
     · exact (show ((k + 1) ≤ (signsF c.op).size) ∧ ((decide ((encC x1 c1).2 = 0)) = true → RPI (lts (signsF c.op)) (k + 1) (numS 1 c.op) (o ++ (encR x1 c1)) (op0 c) (clrC x1 c1)) ∧ ((decide ((encC x1 c1).2 = 0)) = false → ¬ okN (lts (signsF c.op)) (op0 c)) ∧ ((o ++ (encR x1 c1)).size ≤ 8 + 300 * (k + 1)) ∧ (lab64 (clrC x1 c1).lb ∧ (clrC x1 c1).nm.size ≤ 100000 ∧ (clrC x1 c1).da.size ≤ 100000) from ⟨by first | omega | simp_all | (simp; done), fun q => rp_t (signs_let _) (hp rfl) (lts_at h10) (of_decide_eq_true q), fun q => rp_f (hp rfl) (lts_at h10) (of_decide_eq_false q), by have := encR_size (y := x1) hq.1; rw [ByteArray.size_append]; omega, clrC_sm hq⟩)
     · show (signsF c.op).size - (k + 1) < (signsF c.op).size - k; omega
     · exact (.cons rfl rfl (.cons rfl rfl (.cons rfl rfl (.cons rfl rfl (.cons rfl rfl (.cons rfl rfl (.cons rfl (show (.int .i64 ((k : Int) + 1) : Value) = .int .i64 ((k + 1) : Int) from by first | rfl | (congr 1; omega) | (congr 1; simp; done) | (congr 1; simp; omega)) .nil)))))))
    refine b_y (i := 1) (v := .string (signsF c.op)) (ticked 13 2) rfl rfl (by exact y_mv rfl) ?_
    refine b_y (i := 2) (v := .int .i64 (k : Int)) (ticked 13 6) rfl rfl (by exact y_mv rfl) ?_
    obtain ⟨x2, hb1⟩ : ∃ x, ((signsF c.op))[k]? = some x := ⟨_, getElem?_pos ((signsF c.op)) k (by omega)⟩
    refine b_y (i := 3) (v := .int .u8 (x2.toNat : Int)) (ticked 13 14) rfl rfl (by exact y_sidx k x2 rfl rfl (rfl) hb1 Tryz.underlying9) ?_
    refine a_held (i := 0) (ticked 13 15) rfl (by as_aux_lemma => kernel_rfl) rfl rfl rfl (held_pt 0 rfl rfl (held_pt 0 rfl rfl (held_pt 0 rfl rfl (held_pt 0 rfl rfl (held_pt 0 rfl rfl (held_pt 0 rfl rfl (held_pt 0 rfl rfl (held_pt 0 rfl rfl (held_pt 0 rfl rfl held_nil))))))))) (h_ldn (vs := [.int .i64 c1.op, .int .i64 c1.lb.lv, .int .u64 (c1.lb.cs : Int), .int .i64 c1.lb.ig, .string c1.nm, .int .i64 c1.pl, .int .i64 c1.nn, .string c1.da, .int .i64 c1.id]) 0 9 rfl rfl rfl Tryz.underlying26 rfl (by kernel_rfl) (by kernel_rfl)) ?_
    refine a_each (rs := [4, 9]) (by as_aux_lemma => kernel_rfl) (.cons (ticked 13 31) rfl rfl rfl ?_ (.cons (ticked 13 527) rfl rfl rfl ?_ .nil)) (List.cons_ne_nil _ _)
    ·
     refine o_call [] [] (rput_ c1 x2 (signs_let _ _ (lts_mem hb1)) (hq.1) (hq.2.1) (hq.2.2)) rfl rfl rfl rfl rfl rfl (fun v L' I' hq3 => ?_)
     obtain ⟨rfl, rfl, rfl⟩ := hq3
     refine a_and (held_pt 0 rfl rfl (held_pt 0 rfl rfl (held_pt 0 rfl rfl (held_pt 0 rfl rfl (held_pt 0 rfl rfl (held_pt 0 rfl rfl (held_pt 0 rfl rfl (held_pt 0 rfl rfl (held_pt 0 rfl rfl held_nil))))))))) ?_
     refine b_y (i := 5) (v := .tuple #[.string (encR x2 c1), .agg #[.int .i64 ((clrC x2 c1).op), .int .i64 ((clrC x2 c1).lb.lv), .int .u64 ((clrC x2 c1).lb.cs : Int), .int .i64 ((clrC x2 c1).lb.ig), .string ((clrC x2 c1).nm), .int .i64 ((clrC x2 c1).pl), .int .i64 ((clrC x2 c1).nn), .string ((clrC x2 c1).da), .int .i64 ((clrC x2 c1).id)], .bool (decide ((encC x2 c1).2 = 0))]) (ticked 13 63) rfl rfl (by exact y_mv rfl) ?_
     refine b_y (i := 6) (v := .string (encR x2 c1)) (ticked 13 127) rfl rfl (by exact y_k rfl rfl (fun _ => by kernel_rfl)) ?_
     refine b_y (i := 7) (v := .agg #[.int .i64 ((clrC x2 c1).op), .int .i64 ((clrC x2 c1).lb.lv), .int .u64 ((clrC x2 c1).lb.cs : Int), .int .i64 ((clrC x2 c1).lb.ig), .string ((clrC x2 c1).nm), .int .i64 ((clrC x2 c1).pl), .int .i64 ((clrC x2 c1).nn), .string ((clrC x2 c1).da), .int .i64 ((clrC x2 c1).id)]) (ticked 13 255) rfl rfl (by exact y_k rfl rfl (fun _ => by kernel_rfl)) ?_
     refine b_y (i := 8) (v := .bool (decide ((encC x2 c1).2 = 0))) (ticked 13 511) rfl rfl (by exact y_k rfl rfl (fun _ => by kernel_rfl)) ?_
     refine a_each (rs := [9]) (by as_aux_lemma => kernel_rfl) (.cons (ticked 13 1023) rfl rfl rfl (o_box (cs := [.int .i64 0, .int .i64 0, .int .u64 0, .int .i64 0, .string (⟨#[]⟩ : ByteArray), .int .i64 0, .int .i64 0, .string (⟨#[]⟩ : ByteArray), .int .i64 0]) (T := 26) rfl rfl rfl rfl (fun _ => by kernel_rfl) (fun b4 => ?_)) .nil) (List.cons_ne_nil _ _)
     refine a_and (held_pt 1 rfl rfl (held_pt 1 rfl rfl (held_pt 1 rfl rfl (held_pt 1 rfl rfl (held_pt 1 rfl rfl (held_pt 1 rfl rfl (held_pt 1 rfl rfl (held_pt 1 rfl rfl (held_pt 1 rfl rfl held_nil))))))))) ?_
     refine b_y (i := 10) (v := .string (encR x2 c1)) (ticked 13 2047) rfl rfl (by exact y_as rfl) ?_
     refine a_each (rs := [11]) (by as_aux_lemma => kernel_rfl) (.cons (ticked 13 4095) rfl rfl rfl (o_st 0 rfl rfl rfl rfl rfl (by kernel_rfl) (by kernel_rfl) rfl ?_) .nil) (List.cons_ne_nil _ _)
     refine a_and (held_pt 1 rfl rfl (held_pt 1 rfl rfl (held_pt 1 rfl rfl (held_pt 1 rfl rfl (held_pt 1 rfl rfl (held_pt 1 rfl rfl (held_pt 1 rfl rfl (held_pt 1 rfl rfl (held_pt 1 rfl rfl held_nil))))))))) ?_
     refine b_y (i := 12) (v := .bool (decide ((encC x2 c1).2 = 0))) (ticked 13 8191) rfl rfl (by exact y_as rfl) ?_
     refine a_done (by as_aux_lemma => kernel_rfl) ?_
     refine e_norm (e' := [(2, .string (⟨#[]⟩ : ByteArray)), (3, .int .i64 0), (4, .string (signsF c.op)), (5, .bool true), (6, .string o), (8, .pointer (some ⟨b2, 0, none⟩)), (9, .int .i64 (k : Int)), (10, .string (encR x2 c1)), (11, .pointer (some ⟨b4, 0, none⟩)), (12, .bool (decide ((encC x2 c1).2 = 0))), (27, .int .i64 (k : Int)), (28, .string (signsF c.op)), (29, .int .i64 ((signsF c.op).size : Int)), (30, .bool true), (31, .bool true), (32, .bool true), (33, .bool true), (36, .tuple #[.string (encR x2 c1), .agg #[.int .i64 ((clrC x2 c1).op), .int .i64 ((clrC x2 c1).lb.lv), .int .u64 ((clrC x2 c1).lb.cs : Int), .int .i64 ((clrC x2 c1).lb.ig), .string ((clrC x2 c1).nm), .int .i64 ((clrC x2 c1).pl), .int .i64 ((clrC x2 c1).nn), .string ((clrC x2 c1).da), .int .i64 ((clrC x2 c1).id)], .bool (decide ((encC x2 c1).2 = 0))]), (37, .agg #[.int .i64 c1.op, .int .i64 c1.lb.lv, .int .u64 (c1.lb.cs : Int), .int .i64 c1.lb.ig, .string c1.nm, .int .i64 c1.pl, .int .i64 c1.nn, .string c1.da, .int .i64 c1.id]), (38, .string (signsF c.op)), (39, .int .i64 (k : Int)), (40, .int .u8 (x2.toNat : Int)), (41, .tuple #[.string (encR x2 c1), .agg #[.int .i64 ((clrC x2 c1).op), .int .i64 ((clrC x2 c1).lb.lv), .int .u64 ((clrC x2 c1).lb.cs : Int), .int .i64 ((clrC x2 c1).lb.ig), .string ((clrC x2 c1).nm), .int .i64 ((clrC x2 c1).pl), .int .i64 ((clrC x2 c1).nn), .string ((clrC x2 c1).da), .int .i64 ((clrC x2 c1).id)], .bool (decide ((encC x2 c1).2 = 0))]), (42, .string (encR x2 c1)), (43, .agg #[.int .i64 ((clrC x2 c1).op), .int .i64 ((clrC x2 c1).lb.lv), .int .u64 ((clrC x2 c1).lb.cs : Int), .int .i64 ((clrC x2 c1).lb.ig), .string ((clrC x2 c1).nm), .int .i64 ((clrC x2 c1).pl), .int .i64 ((clrC x2 c1).nn), .string ((clrC x2 c1).da), .int .i64 ((clrC x2 c1).id)]), (44, .bool (decide ((encC x2 c1).2 = 0)))]) [0, 0, 0] [] ((.cons rfl rfl (.cons rfl rfl (.cons rfl rfl (.cons rfl rfl (.cons rfl rfl (.cons rfl rfl (.cons rfl rfl (.cons rfl rfl (.cons rfl rfl (.cons rfl rfl (.cons rfl rfl (.cons rfl rfl (.cons rfl rfl (.cons rfl rfl (.cons rfl rfl (.cons rfl rfl (.cons rfl rfl (.cons rfl rfl (.cons rfl rfl (.cons rfl rfl (.cons rfl rfl (.cons rfl rfl (.cons rfl rfl (.cons rfl rfl (.cons rfl rfl (.cons rfl rfl .nil))))))))))))))))))))))))))) rfl rfl ?_
     exact cut1 x2 b4 (by first | assumption | omega | simp_all)
    ·
     refine o_box (cs := [.int .i64 0, .int .i64 0, .int .u64 0, .int .i64 0, .string (⟨#[]⟩ : ByteArray), .int .i64 0, .int .i64 0, .string (⟨#[]⟩ : ByteArray), .int .i64 0]) (T := 26) rfl rfl rfl rfl (fun _ => by kernel_rfl) (fun b5 => ?_)
     refine a_and (held_pt 1 rfl rfl (held_pt 1 rfl rfl (held_pt 1 rfl rfl (held_pt 1 rfl rfl (held_pt 1 rfl rfl (held_pt 1 rfl rfl (held_pt 1 rfl rfl (held_pt 1 rfl rfl (held_pt 1 rfl rfl held_nil))))))))) ?_
     refine a_each (rs := [4]) (by as_aux_lemma => kernel_rfl) (.cons (ticked 13 543) rfl rfl rfl (o_call [] [] (rput_ c1 x2 (signs_let _ _ (lts_mem hb1)) (hq.1) (hq.2.1) (hq.2.2)) rfl rfl rfl rfl rfl rfl (fun v L' I' hq4 => ?_)) .nil) (List.cons_ne_nil _ _)
     obtain ⟨rfl, rfl, rfl⟩ := hq4
     refine a_and (held_pt 1 rfl rfl (held_pt 1 rfl rfl (held_pt 1 rfl rfl (held_pt 1 rfl rfl (held_pt 1 rfl rfl (held_pt 1 rfl rfl (held_pt 1 rfl rfl (held_pt 1 rfl rfl (held_pt 1 rfl rfl held_nil))))))))) ?_
     refine b_y (i := 5) (v := .tuple #[.string (encR x2 c1), .agg #[.int .i64 ((clrC x2 c1).op), .int .i64 ((clrC x2 c1).lb.lv), .int .u64 ((clrC x2 c1).lb.cs : Int), .int .i64 ((clrC x2 c1).lb.ig), .string ((clrC x2 c1).nm), .int .i64 ((clrC x2 c1).pl), .int .i64 ((clrC x2 c1).nn), .string ((clrC x2 c1).da), .int .i64 ((clrC x2 c1).id)], .bool (decide ((encC x2 c1).2 = 0))]) (ticked 13 575) rfl rfl (by exact y_mv rfl) ?_
     refine b_y (i := 6) (v := .string (encR x2 c1)) (ticked 13 639) rfl rfl (by exact y_k rfl rfl (fun _ => by kernel_rfl)) ?_
     refine b_y (i := 7) (v := .agg #[.int .i64 ((clrC x2 c1).op), .int .i64 ((clrC x2 c1).lb.lv), .int .u64 ((clrC x2 c1).lb.cs : Int), .int .i64 ((clrC x2 c1).lb.ig), .string ((clrC x2 c1).nm), .int .i64 ((clrC x2 c1).pl), .int .i64 ((clrC x2 c1).nn), .string ((clrC x2 c1).da), .int .i64 ((clrC x2 c1).id)]) (ticked 13 767) rfl rfl (by exact y_k rfl rfl (fun _ => by kernel_rfl)) ?_
     refine b_y (i := 8) (v := .bool (decide ((encC x2 c1).2 = 0))) (ticked 13 1023) rfl rfl (by exact y_k rfl rfl (fun _ => by kernel_rfl)) ?_
     refine b_y (i := 10) (v := .string (encR x2 c1)) (ticked 13 2047) rfl rfl (by exact y_as rfl) ?_
     refine a_each (rs := [11]) (by as_aux_lemma => kernel_rfl) (.cons (ticked 13 4095) rfl rfl rfl (o_st 0 rfl rfl rfl rfl rfl (by kernel_rfl) (by kernel_rfl) rfl ?_) .nil) (List.cons_ne_nil _ _)
     refine a_and (held_pt 1 rfl rfl (held_pt 1 rfl rfl (held_pt 1 rfl rfl (held_pt 1 rfl rfl (held_pt 1 rfl rfl (held_pt 1 rfl rfl (held_pt 1 rfl rfl (held_pt 1 rfl rfl (held_pt 1 rfl rfl held_nil))))))))) ?_
     refine b_y (i := 12) (v := .bool (decide ((encC x2 c1).2 = 0))) (ticked 13 8191) rfl rfl (by exact y_as rfl) ?_
     refine a_done (by as_aux_lemma => kernel_rfl) ?_
     refine e_norm (e' := [(2, .string (⟨#[]⟩ : ByteArray)), (3, .int .i64 0), (4, .string (signsF c.op)), (5, .bool true), (6, .string o), (8, .pointer (some ⟨b2, 0, none⟩)), (9, .int .i64 (k : Int)), (10, .string (encR x2 c1)), (11, .pointer (some ⟨b5, 0, none⟩)), (12, .bool (decide ((encC x2 c1).2 = 0))), (27, .int .i64 (k : Int)), (28, .string (signsF c.op)), (29, .int .i64 ((signsF c.op).size : Int)), (30, .bool true), (31, .bool true), (32, .bool true), (33, .bool true), (36, .tuple #[.string (encR x2 c1), .agg #[.int .i64 ((clrC x2 c1).op), .int .i64 ((clrC x2 c1).lb.lv), .int .u64 ((clrC x2 c1).lb.cs : Int), .int .i64 ((clrC x2 c1).lb.ig), .string ((clrC x2 c1).nm), .int .i64 ((clrC x2 c1).pl), .int .i64 ((clrC x2 c1).nn), .string ((clrC x2 c1).da), .int .i64 ((clrC x2 c1).id)], .bool (decide ((encC x2 c1).2 = 0))]), (37, .agg #[.int .i64 c1.op, .int .i64 c1.lb.lv, .int .u64 (c1.lb.cs : Int), .int .i64 c1.lb.ig, .string c1.nm, .int .i64 c1.pl, .int .i64 c1.nn, .string c1.da, .int .i64 c1.id]), (38, .string (signsF c.op)), (39, .int .i64 (k : Int)), (40, .int .u8 (x2.toNat : Int)), (41, .tuple #[.string (encR x2 c1), .agg #[.int .i64 ((clrC x2 c1).op), .int .i64 ((clrC x2 c1).lb.lv), .int .u64 ((clrC x2 c1).lb.cs : Int), .int .i64 ((clrC x2 c1).lb.ig), .string ((clrC x2 c1).nm), .int .i64 ((clrC x2 c1).pl), .int .i64 ((clrC x2 c1).nn), .string ((clrC x2 c1).da), .int .i64 ((clrC x2 c1).id)], .bool (decide ((encC x2 c1).2 = 0))]), (42, .string (encR x2 c1)), (43, .agg #[.int .i64 ((clrC x2 c1).op), .int .i64 ((clrC x2 c1).lb.lv), .int .u64 ((clrC x2 c1).lb.cs : Int), .int .i64 ((clrC x2 c1).lb.ig), .string ((clrC x2 c1).nm), .int .i64 ((clrC x2 c1).pl), .int .i64 ((clrC x2 c1).nn), .string ((clrC x2 c1).da), .int .i64 ((clrC x2 c1).id)]), (44, .bool (decide ((encC x2 c1).2 = 0)))]) [0, 0, 0] [] ((.cons rfl rfl (.cons rfl rfl (.cons rfl rfl (.cons rfl rfl (.cons rfl rfl (.cons rfl rfl (.cons rfl rfl (.cons rfl rfl (.cons rfl rfl (.cons rfl rfl (.cons rfl rfl (.cons rfl rfl (.cons rfl rfl (.cons rfl rfl (.cons rfl rfl (.cons rfl rfl (.cons rfl rfl (.cons rfl rfl (.cons rfl rfl (.cons rfl rfl (.cons rfl rfl (.cons rfl rfl (.cons rfl rfl (.cons rfl rfl (.cons rfl rfl (.cons rfl rfl .nil))))))))))))))))))))))))))) rfl rfl ?_
     exact cut1 x2 b5 (by first | assumption | omega | simp_all)
  ·
   refine s_y rfl (v := .bool false) (y_f (y_k (v := .bool (decide ((k : Int) < ((signsF c.op).size : Int)))) rfl rfl (fun _ => by kernel_rfl)) h9) rfl ?_
   refine s_y rfl (v := .bool false) (y_mv rfl) rfl ?_
   refine st_off 31 rfl rfl rfl rfl rfl rfl ?_
   refine s_y rfl (v := .bool false) (y_pick rfl rfl) rfl ?_
   refine s_nil (q_then (c_false rfl ?_))
   refine c_exit ?_
   refine q_then_exit ?_
   refine q_then_exit ?_
   refine q_block_here ?_
   refine q_then (c_seq (c_seq (c_region ?_)))
   cases ok
   ·
    refine s_y rfl (v := .bool false) (y_mv rfl) rfl ?_
    refine s_y rfl (v := .bool true) (y_k rfl rfl (fun _ => by kernel_rfl)) rfl ?_
    refine s_y rfl (v := .bool true) (y_mv rfl) rfl ?_
    refine st_off 52 rfl rfl rfl rfl rfl rfl ?_
    refine st_off 52 rfl rfl rfl rfl rfl rfl ?_
    refine st_off 52 rfl rfl rfl rfl rfl rfl ?_
    refine s_y rfl (v := .bool true) (y_pick rfl rfl) rfl ?_
    refine s_nil (q_then (c_true rfl (c_seq (c_region ?_))))
    refine s_y rfl (v := .string (⟨#[]⟩ : ByteArray)) (y_as rfl) rfl ?_
    refine s_y rfl (v := .int .i64 170) (y_as rfl) rfl ?_
    refine s_nil (q_then (c_ret (q_then_ret ?_)))
    have hp : callPut c = ((⟨#[]⟩ : ByteArray), 170) := by first | exact rpe_no (by assumption) | exact rpe_bad (by assumption) (hn rfl) | exact rpe_g (by assumption) (hp rfl) (by omega) (by assumption) | exact rpe_r (by assumption) (hp rfl) (by omega) (by assumption)
    refine c_fin (I' := []) [] [] rfl (.tmp rfl (.tmp rfl .nil)) rfl rfl rfl ?_
    rw [hp]
    exact ⟨rfl, rfl, rfl⟩
   ·
    refine s_y rfl (v := .bool true) (y_mv rfl) rfl ?_
    refine s_y rfl (v := .bool false) (y_k rfl rfl (fun _ => by kernel_rfl)) rfl ?_
    refine s_y rfl (v := .bool false) (y_mv rfl) rfl ?_
    refine st_on 52 rfl rfl rfl (o_ldn 0 9 rfl rfl rfl rfl Tryz.underlying26 rfl (by kernel_rfl) (by kernel_rfl) rfl ?_)
    refine st_on 52 rfl rfl rfl (o_y (v := .agg #[.int .i64 0, .int .i64 0, .int .u64 0, .int .i64 0, .string (⟨#[]⟩ : ByteArray), .int .i64 0, .int .i64 0, .string (⟨#[]⟩ : ByteArray), .int .i64 0]) (y_k rfl rfl (fun _ => by kernel_rfl)) rfl rfl rfl ?_)
    refine e_by (c1 = (⟨0, (⟨0, 0, 0⟩ : Lab), (⟨#[]⟩ : ByteArray), 0, 0, (⟨#[]⟩ : ByteArray), 0⟩ : Cal)) (fun h11 => ?_) (fun h11 => ?_)
    ·
     refine st_on 52 rfl rfl rfl (o_y (v := .bool false) (y_nt (y_bin rfl rfl (fun w => eq_Caln c1 (⟨0, (⟨0, 0, 0⟩ : Lab), (⟨#[]⟩ : ByteArray), 0, 0, (⟨#[]⟩ : ByteArray), 0⟩ : Cal) w)) h11) rfl rfl rfl ?_)
     refine s_y rfl (v := .bool false) (y_pick rfl rfl) rfl ?_
     refine s_nil (q_then (c_false rfl (c_skip (q_then (c_seq (c_region ?_))))))
     refine s_y rfl (v := .string o) (y_mv rfl) rfl ?_
     refine s_y rfl (v := .string o) (y_as rfl) rfl ?_
     refine s_y rfl (v := .int .i64 0) (y_as rfl) rfl ?_
     refine s_nil (q_then (c_ret ?_))
     have hp : callPut c = (o, 0) := by first | exact rpe_no (by assumption) | exact rpe_bad (by assumption) (hn rfl) | exact rpe_g (by assumption) (hp rfl) (by omega) (by assumption) | exact rpe_r (by assumption) (hp rfl) (by omega) (by assumption)
     refine c_fin (I' := []) [] [] rfl (.tmp rfl (.tmp rfl .nil)) rfl rfl rfl ?_
     rw [hp]
     exact ⟨rfl, rfl, rfl⟩
    ·
     refine st_on 52 rfl rfl rfl (o_y (v := .bool true) (y_nf (y_bin rfl rfl (fun w => eq_Caln c1 (⟨0, (⟨0, 0, 0⟩ : Lab), (⟨#[]⟩ : ByteArray), 0, 0, (⟨#[]⟩ : ByteArray), 0⟩ : Cal) w)) h11) rfl rfl rfl ?_)
     refine s_y rfl (v := .bool true) (y_pick rfl rfl) rfl ?_
     refine s_nil (q_then (c_true rfl (c_seq (c_region ?_))))
     refine s_y rfl (v := .string (⟨#[]⟩ : ByteArray)) (y_as rfl) rfl ?_
     refine s_y rfl (v := .int .i64 170) (y_as rfl) rfl ?_
     refine s_nil (q_then (c_ret (q_then_ret ?_)))
     have hp : callPut c = ((⟨#[]⟩ : ByteArray), 170) := by first | exact rpe_no (by assumption) | exact rpe_bad (by assumption) (hn rfl) | exact rpe_g (by assumption) (hp rfl) (by omega) (by assumption) | exact rpe_r (by assumption) (hp rfl) (by omega) (by assumption)
     refine c_fin (I' := []) [] [] rfl (.tmp rfl (.tmp rfl .nil)) rfl rfl rfl ?_
     rw [hp]
     exact ⟨rfl, rfl, rfl⟩
 ·
  refine s_y rfl (v := .tuple #[.string (⟨#[]⟩ : ByteArray), .bool false]) (y_mv rfl) rfl ?_
  refine s_y rfl (v := .string (⟨#[]⟩ : ByteArray)) (y_k rfl rfl (fun _ => by kernel_rfl)) rfl ?_
  refine s_y rfl (v := .bool false) (y_k rfl rfl (fun _ => by kernel_rfl)) rfl ?_
  refine s_y rfl (v := .string (⟨#[]⟩ : ByteArray)) (y_as rfl) rfl ?_
  refine s_y rfl (v := .bool false) (y_as rfl) rfl ?_
  refine s_nil (q_then (c_seq (c_region ?_)))
  refine s_y rfl (v := .pointer (some ⟨b1, 0, none⟩)) (y_k rfl rfl (fun _ => by kernel_rfl)) rfl ?_
  refine st rfl (o_ld 0 rfl rfl rfl Tryz.underlying3 rfl rfl ?_)
  refine st rfl (o_call [] [] (rnum_ (1 : Int) c.op) rfl rfl rfl rfl rfl rfl (fun v L' I' hq5 => ?_))
  obtain ⟨rfl, rfl, rfl⟩ := hq5
  refine s_y rfl (v := .tuple #[.string (numS (1 : Int) c.op), .bool (decide (numE (1 : Int) c.op = 0))]) (y_mv rfl) rfl ?_
  refine s_y rfl (v := .string (numS (1 : Int) c.op)) (y_k rfl rfl (fun _ => by kernel_rfl)) rfl ?_
  refine s_y rfl (v := .bool (decide (numE (1 : Int) c.op = 0))) (y_k rfl rfl (fun _ => by kernel_rfl)) rfl ?_
  refine s_y rfl (v := .string (numS (1 : Int) c.op)) (y_as rfl) rfl ?_
  refine s_y rfl (v := .bool (decide (numE (1 : Int) c.op = 0))) (y_as rfl) rfl ?_
  refine s_nil (q_then (c_seq (c_region ?_)))
  refine st rfl (o_ldn 0 9 rfl rfl rfl rfl Tryz.underlying26 rfl (by kernel_rfl) (by kernel_rfl) rfl ?_)
  refine st rfl (o_box (cs := [.int .i64 0, .int .i64 0, .int .u64 0, .int .i64 0, .string (⟨#[]⟩ : ByteArray), .int .i64 0, .int .i64 0, .string (⟨#[]⟩ : ByteArray), .int .i64 0]) (T := 26) rfl rfl rfl rfl (fun _ => by kernel_rfl) (fun b6 => ?_))
  refine st rfl (o_st 0 rfl rfl rfl rfl rfl (by kernel_rfl) (by kernel_rfl) rfl ?_)
  refine s_nil (q_then (c_seq (c_region ?_)))
  refine s_y rfl (v := .pointer (some ⟨b6, 0, none⟩)) (y_k rfl rfl (fun _ => by kernel_rfl)) rfl ?_
  refine st rfl (o_st 0 rfl rfl rfl rfl rfl (by kernel_rfl) (by kernel_rfl) rfl ?_)
  refine s_nil (q_then (c_seq (c_seq (c_region ?_))))
  refine s_y rfl (v := .int .i64 0) (y_as rfl) rfl ?_
  refine s_nil (q_then (c_block ?_))
  refine c_loopn (ι := Nat) (fun k => (k ≤ 0)) (fun k => [(2, .string (⟨#[]⟩ : ByteArray)), (3, .int .i64 0), (4, .string (⟨#[]⟩ : ByteArray)), (5, .bool false), (6, .string (numS (1 : Int) c.op)), (8, .pointer (some ⟨b6, 0, none⟩)), (9, .int .i64 (k : Int))]) (fun k => [pt b6 [.int .i64 0, .int .i64 c.lb.lv, .int .u64 (c.lb.cs : Int), .int .i64 c.lb.ig, .string c.nm, .int .i64 c.pl, .int .i64 c.nn, .string c.da, .int .i64 c.id] 26, pt b1 [.int .i64 c.op, .int .i64 c.lb.lv, .int .u64 (c.lb.cs : Int), .int .i64 c.lb.ig, .string c.nm, .int .i64 c.pl, .int .i64 c.nn, .string c.da, .int .i64 c.id] 26]) (fun k => []) (fun k => 0 - k) (0) [0, 0] [] (show 0 ≤ 0 from by first | omega | simp_all | (simp; done)) ((.cons rfl rfl (.cons rfl rfl (.cons rfl rfl (.cons rfl rfl (.cons rfl rfl (.cons rfl rfl (.cons rfl rfl .nil)))))))) rfl rfl ?_
  rintro k hk
  show Ent 58 C [(2, .string (⟨#[]⟩ : ByteArray)), (3, .int .i64 0), (4, .string (⟨#[]⟩ : ByteArray)), (5, .bool false), (6, .string (numS (1 : Int) c.op)), (8, .pointer (some ⟨b6, 0, none⟩)), (9, .int .i64 (k : Int))] [] [pt b6 [.int .i64 0, .int .i64 c.lb.lv, .int .u64 (c.lb.cs : Int), .int .i64 c.lb.ig, .string c.nm, .int .i64 c.pl, .int .i64 c.nn, .string c.da, .int .i64 c.id] 26, pt b1 [.int .i64 c.op, .int .i64 c.lb.lv, .int .u64 (c.lb.cs : Int), .int .i64 c.lb.ig, .string c.nm, .int .i64 c.pl, .int .i64 c.nn, .string c.da, .int .i64 c.id] 26] [] _
  refine c_seq (c_seq (c_region ?_))
  refine s_y rfl (v := .int .i64 (k : Int)) (y_mv rfl) rfl ?_
  refine s_y rfl (v := .string (⟨#[]⟩ : ByteArray)) (y_mv rfl) rfl ?_
  refine s_y rfl (v := .int .i64 ((⟨#[]⟩ : ByteArray).size : Int)) (y_k rfl rfl (fun _ => by kernel_rfl)) rfl ?_
  have h12 : ¬ ((k : Int) < ((⟨#[]⟩ : ByteArray).size : Int)) := by omega
  refine s_y rfl (v := .bool false) (y_f (y_k (v := .bool (decide ((k : Int) < ((⟨#[]⟩ : ByteArray).size : Int)))) rfl rfl (fun _ => by kernel_rfl)) h12) rfl ?_
  refine s_y rfl (v := .bool false) (y_mv rfl) rfl ?_
  refine st_off 31 rfl rfl rfl rfl rfl rfl ?_
  refine s_y rfl (v := .bool false) (y_pick rfl rfl) rfl ?_
  refine s_nil (q_then (c_false rfl ?_))
  refine c_exit ?_
  refine q_then_exit ?_
  refine q_then_exit ?_
  refine q_block_here ?_
  refine q_then (c_seq (c_seq (c_region ?_)))
  refine s_y rfl (v := .bool false) (y_mv rfl) rfl ?_
  refine s_y rfl (v := .bool true) (y_k rfl rfl (fun _ => by kernel_rfl)) rfl ?_
  refine s_y rfl (v := .bool true) (y_mv rfl) rfl ?_
  refine st_off 52 rfl rfl rfl rfl rfl rfl ?_
  refine st_off 52 rfl rfl rfl rfl rfl rfl ?_
  refine st_off 52 rfl rfl rfl rfl rfl rfl ?_
  refine s_y rfl (v := .bool true) (y_pick rfl rfl) rfl ?_
  refine s_nil (q_then (c_true rfl (c_seq (c_region ?_))))
  refine s_y rfl (v := .string (⟨#[]⟩ : ByteArray)) (y_as rfl) rfl ?_
  refine s_y rfl (v := .int .i64 170) (y_as rfl) rfl ?_
  refine s_nil (q_then (c_ret (q_then_ret ?_)))
  have hp : callPut c = ((⟨#[]⟩ : ByteArray), 170) := by first | exact rpe_no (by assumption) | exact rpe_bad (by assumption) (hn rfl) | exact rpe_g (by assumption) (hp rfl) (by omega) (by assumption) | exact rpe_r (by assumption) (hp rfl) (by omega) (by assumption)
  refine c_fin (I' := []) [] [] rfl (.tmp rfl (.tmp rfl .nil)) rfl rfl rfl ?_
  rw [hp]
  exact ⟨rfl, rfl, rfl⟩
end Go.Proofs.YtcnncdniibkjkaaGreatDoor
