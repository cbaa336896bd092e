/- The laws of chapter 17 (call), walked over the given program; no condition but what stands in each theorem: part RA6. -/
import Derived.Test.YtcnncdniibkjkaaGreatDoorRRA4
set_option linter.unusedVariables false
set_option linter.unusedSimpArgs false
set_option maxRecDepth 100000
set_option maxHeartbeats 8000000
namespace Go.Proofs.YtcnncdniibkjkaaGreatDoor
open Go Go.Sl Go.RowKit Go.Extern.Stop Go.Stop Go.Extern
theorem rcallGet_ (s : ByteArray) (hs : s.size ≤ 100000) : Con Tryz.prog 11 [.string s] [] [] (fun v L' I' => v = .tuple #[.agg #[.int .i64 (((callGet s).1).op), .int .i64 (((callGet s).1).lb.lv), .int .u64 (((callGet s).1).lb.cs : Int), .int .i64 (((callGet s).1).lb.ig), .string (((callGet s).1).nm), .int .i64 (((callGet s).1).pl), .int .i64 (((callGet s).1).nn), .string (((callGet s).1).da), .int .i64 (((callGet s).1).id)], .int .i64 ((callGet s).2)] ∧ L' = [] ∧ I' = []) := by
 have z0 : (⟨#[]⟩ : ByteArray).size = 0 := rfl
 have s4 := signs_sz ((getF 1 s).1 : Int)
 refine fn_of Tryz.func11 rfl Tryz.ntmps11 (by kernel_rfl) rfl (fun C => ?_)
 refine c_seq (c_region ?_)
 refine st rfl (o_box (cs := [.int .i64 0, .int .i64 0, .int .u64 0, .int .i64 0, .string (⟨#[]⟩ : ByteArray), .int .i64 0, .int .i64 0, .string (⟨#[]⟩ : ByteArray), .int .i64 0]) (T := 26) rfl rfl rfl rfl (fun _ => by kernel_rfl) (fun b1 => ?_))
 refine s_y rfl (v := .int .i64 0) (y_as rfl) rfl ?_
 refine s_nil (q_then (c_seq (c_region ?_)))
 refine s_y rfl (v := .string s) (y_mv rfl) rfl ?_
 refine st rfl (o_call [] [] (rGet_ (1 : Int) s (by omega)) rfl rfl rfl rfl rfl rfl (fun v L' I' hq1 => ?_))
 obtain ⟨rfl, rfl, rfl⟩ := hq1
 refine s_y rfl (v := .tuple #[.int .u64 ((getF (1 : Int) s).1 : Int), .string ((getF (1 : Int) s).2.1), .int .i64 ((getF (1 : Int) s).2.2)]) (y_mv rfl) rfl ?_
 refine s_y rfl (v := .int .u64 ((getF (1 : Int) s).1 : Int)) (y_k rfl rfl (fun _ => by kernel_rfl)) rfl ?_
 refine s_y rfl (v := .string ((getF (1 : Int) s).2.1)) (y_k rfl rfl (fun _ => by kernel_rfl)) rfl ?_
 refine s_y rfl (v := .int .i64 ((getF (1 : Int) s).2.2)) (y_k rfl rfl (fun _ => by kernel_rfl)) rfl ?_
 refine s_y rfl (v := .int .u64 ((getF (1 : Int) s).1 : Int)) (y_as rfl) rfl ?_
 refine s_y rfl (v := .string ((getF (1 : Int) s).2.1)) (y_as rfl) rfl ?_
 refine s_y rfl (v := .int .i64 ((getF (1 : Int) s).2.2)) (y_as rfl) rfl ?_
 refine s_nil (q_then (c_seq (c_region ?_)))
 refine s_y rfl (v := .int .u64 ((getF (1 : Int) s).1 : Int)) (y_mv rfl) rfl ?_
 refine s_y rfl (v := .int .i64 ((getF (1 : Int) s).1 : Int)) (y_cvi (r := ((getF (1 : Int) s).1 : Int)) rfl Tryz.underlying22 Tryz.underlying3 (wrap_in (by omega) (by have h1_ := getF_small (s := s) (w := 2) (by decide); have h2_ := getF_small (s := s) (w := 1) (by decide); omega))) rfl ?_
 refine st rfl (o_call [] [] (rfields_ ((getF (1 : Int) s).1 : Int)) rfl rfl rfl rfl rfl rfl (fun v L' I' hq2 => ?_))
 rcases hq2 with ⟨h1, rfl, rfl, rfl⟩ | ⟨h2, rfl, rfl, rfl⟩
 ·
  refine s_y rfl (v := .tuple #[.string (signsF ((getF (1 : Int) s).1 : Int)), .bool true]) (y_mv rfl) rfl ?_
  refine s_y rfl (v := .string (signsF ((getF (1 : Int) s).1 : Int))) (y_k rfl rfl (fun _ => by kernel_rfl)) rfl ?_
  refine s_y rfl (v := .bool true) (y_k rfl rfl (fun _ => by kernel_rfl)) rfl ?_
  refine s_y rfl (v := .string (signsF ((getF (1 : Int) s).1 : Int))) (y_as rfl) rfl ?_
  refine s_y rfl (v := .bool true) (y_as rfl) rfl ?_
  refine s_nil (q_then (c_seq (c_region ?_)))
  refine s_y rfl (v := .int .u64 ((getF (1 : Int) s).1 : Int)) (y_mv rfl) rfl ?_
  refine s_y rfl (v := .int .i64 ((getF (1 : Int) s).1 : Int)) (y_cvi (r := ((getF (1 : Int) s).1 : Int)) rfl Tryz.underlying22 Tryz.underlying3 (wrap_in (by omega) (by have h1_ := getF_small (s := s) (w := 2) (by decide); have h2_ := getF_small (s := s) (w := 1) (by decide); omega))) rfl ?_
  refine s_y rfl (v := .agg #[.int .i64 ((getF (1 : Int) s).1 : Int), .int .i64 0, .int .u64 0, .int .i64 0, .string (⟨#[]⟩ : ByteArray), .int .i64 0, .int .i64 0, .string (⟨#[]⟩ : ByteArray), .int .i64 0]) (y_k rfl rfl (fun _ => by kernel_rfl)) rfl ?_
  refine st rfl (o_box (cs := [.int .i64 0, .int .i64 0, .int .u64 0, .int .i64 0, .string (⟨#[]⟩ : ByteArray), .int .i64 0, .int .i64 0, .string (⟨#[]⟩ : ByteArray), .int .i64 0]) (T := 26) rfl rfl rfl rfl (fun _ => by kernel_rfl) (fun b2 => ?_))
  refine st rfl (o_st 0 rfl rfl rfl rfl rfl (by kernel_rfl) (by kernel_rfl) rfl ?_)
  refine s_nil (q_then (c_seq (c_seq (c_region ?_))))
  refine s_y rfl (v := .int .i64 0) (y_as rfl) rfl ?_
  refine s_nil (q_then (c_block ?_))
  show Ent _ _ _ _ [pt b2 [.int .i64 (((getI s).2.2).op), .int .i64 (((getI s).2.2).lb.lv), .int .u64 (((getI s).2.2).lb.cs : Int), .int .i64 (((getI s).2.2).lb.ig), .string (((getI s).2.2).nm), .int .i64 (((getI s).2.2).pl), .int .i64 (((getI s).2.2).nn), .string (((getI s).2.2).da), .int .i64 (((getI s).2.2).id)] 26, pt b1 [.int .i64 0, .int .i64 0, .int .u64 0, .int .i64 0, .string (⟨#[]⟩ : ByteArray), .int .i64 0, .int .i64 0, .string (⟨#[]⟩ : ByteArray), .int .i64 0] 26] _ _
  refine c_loopn (ι := Nat × ByteArray × Cal × Bool) (fun (k, o, c1, ok) => (k ≤ (signsF ((getF 1 s).1 : Int)).size) ∧ (ok = true → (getF 1 s).2.2 = 0 → getN ((lts (signsF ((getF 1 s).1 : Int))).take k) (getI s) = (o, none, c1)) ∧ (ok = false → ¬ (getN (lts (signsF ((getF 1 s).1 : Int))) (getI s)).2.1 = none) ∧ (o.size ≤ 100000)) (fun (k, o, c1, ok) => [(2, .pointer (some ⟨b1, 0, none⟩)), (3, .int .i64 0), (5, .string o), (6, .int .i64 ((getF (1 : Int) s).2.2)), (7, .string (signsF ((getF (1 : Int) s).1 : Int))), (8, .bool ok), (9, .pointer (some ⟨b2, 0, none⟩)), (10, .int .i64 (k : Int))]) (fun (k, o, c1, ok) => [pt b2 [.int .i64 c1.op, .int .i64 c1.lb.lv, .int .u64 (c1.lb.cs : Int), .int .i64 c1.lb.ig, .string c1.nm, .int .i64 c1.pl, .int .i64 c1.nn, .string c1.da, .int .i64 c1.id] 26, pt b1 [.int .i64 0, .int .i64 0, .int .u64 0, .int .i64 0, .string (⟨#[]⟩ : ByteArray), .int .i64 0, .int .i64 0, .string (⟨#[]⟩ : ByteArray), .int .i64 0] 26]) (fun (k, o, c1, ok) => []) (fun (k, o, c1, ok) => (signsF ((getF 1 s).1 : Int)).size - k) (0, (getF 1 s).2.1, (getI s).2.2, true) [0, 0] [] (show (0 ≤ (signsF ((getF 1 s).1 : Int)).size) ∧ (true = true → (getF 1 s).2.2 = 0 → getN ((lts (signsF ((getF 1 s).1 : Int))).take 0) (getI s) = (((getF 1 s).2.1), none, ((getI s).2.2))) ∧ (true = false → ¬ (getN (lts (signsF ((getF 1 s).1 : Int))) (getI s)).2.1 = none) ∧ (((getF 1 s).2.1).size ≤ 100000) from ⟨by first | omega | simp_all | (simp; done), fun _ he => gi_0 he, fun q => absurd q (by decide), by have := getF_rest 1 s; omega⟩) ((.cons rfl rfl (.cons rfl rfl (.cons rfl rfl (.cons rfl rfl (.cons rfl rfl (.cons rfl rfl (.cons rfl rfl (.cons rfl rfl .nil))))))))) rfl rfl ?_
  rintro ⟨k, o, c1, ok⟩ ⟨hk, hp, hn, hz⟩
  show Ent 61 C [(2, .pointer (some ⟨b1, 0, none⟩)), (3, .int .i64 0), (5, .string o), (6, .int .i64 ((getF (1 : Int) s).2.2)), (7, .string (signsF ((getF (1 : Int) s).1 : Int))), (8, .bool ok), (9, .pointer (some ⟨b2, 0, none⟩)), (10, .int .i64 (k : Int))] [] [pt b2 [.int .i64 c1.op, .int .i64 c1.lb.lv, .int .u64 (c1.lb.cs : Int), .int .i64 c1.lb.ig, .string c1.nm, .int .i64 c1.pl, .int .i64 c1.nn, .string c1.da, .int .i64 c1.id] 26, pt b1 [.int .i64 0, .int .i64 0, .int .u64 0, .int .i64 0, .string (⟨#[]⟩ : ByteArray), .int .i64 0, .int .i64 0, .string (⟨#[]⟩ : ByteArray), .int .i64 0] 26] [] _
  refine c_seq (c_seq (c_region ?_))
  refine s_y rfl (v := .int .i64 (k : Int)) (y_mv rfl) rfl ?_
  refine s_y rfl (v := .string (signsF ((getF (1 : Int) s).1 : Int))) (y_mv rfl) rfl ?_
  refine s_y rfl (v := .int .i64 ((signsF ((getF (1 : Int) s).1 : Int)).size : Int)) (y_k rfl rfl (fun _ => by kernel_rfl)) rfl ?_
  refine e_by ((k : Int) < ((signsF ((getF (1 : Int) s).1 : Int)).size : Int)) (fun h3 => ?_) (fun h3 => ?_)
  ·
   refine s_y rfl (v := .bool true) (y_t (y_k (v := .bool (decide ((k : Int) < ((signsF ((getF (1 : Int) s).1 : Int)).size : Int)))) rfl rfl (fun _ => by kernel_rfl)) h3) rfl ?_
   refine s_y rfl (v := .bool true) (y_mv rfl) rfl ?_
   cases ok
   ·
    refine st_on 30 rfl rfl rfl (o_y (v := .bool false) (y_mv rfl) rfl rfl rfl ?_)
    refine s_y rfl (v := .bool false) (y_pick rfl rfl) rfl ?_
    refine s_y rfl (v := .bool false) (y_mv rfl) rfl ?_
    refine st_off 33 rfl rfl rfl rfl rfl rfl ?_
    refine st_off 33 rfl rfl rfl rfl rfl rfl ?_
    refine s_y rfl (v := .bool false) (y_pick rfl rfl) rfl ?_
    refine s_nil (q_then (c_false rfl ?_))
    refine c_exit ?_
    refine q_then_exit ?_
    refine q_then_exit ?_
    refine q_block_here ?_
    refine q_then (c_seq (c_seq (c_region ?_)))
    refine s_y rfl (v := .int .i64 ((getF (1 : Int) s).2.2)) (y_mv rfl) rfl ?_
    refine e_by ((getF (1 : Int) s).2.2 = 0) (fun h4 => ?_) (fun h4 => ?_)
    ·
     refine s_y rfl (v := .bool false) (y_nt (y_k (v := .bool (!decide ((getF (1 : Int) s).2.2 = 0))) rfl rfl (fun _ => by kernel_rfl)) h4) rfl ?_
     refine s_y rfl (v := .bool false) (y_mv rfl) rfl ?_
     refine st_on 51 rfl rfl rfl (o_y (v := .bool false) (y_mv rfl) rfl rfl rfl ?_)
     refine st_on 51 rfl rfl rfl (o_y (v := .bool true) (y_k rfl rfl (fun _ => by kernel_rfl)) rfl rfl rfl ?_)
     refine s_y rfl (v := .bool true) (y_pick rfl rfl) rfl ?_
     refine s_y rfl (v := .bool true) (y_mv rfl) rfl ?_
     refine st_off 55 rfl rfl rfl rfl rfl rfl ?_
     refine st_off 55 rfl rfl rfl rfl rfl rfl ?_
     refine s_y rfl (v := .bool true) (y_pick rfl rfl) rfl ?_
     refine s_nil (q_then (c_true rfl (c_seq (c_region ?_))))
     refine s_y rfl (v := .agg #[.int .i64 0, .int .i64 0, .int .u64 0, .int .i64 0, .string (⟨#[]⟩ : ByteArray), .int .i64 0, .int .i64 0, .string (⟨#[]⟩ : ByteArray), .int .i64 0]) (y_k rfl rfl (fun _ => by kernel_rfl)) rfl ?_
     refine st rfl (o_st 1 rfl rfl rfl rfl rfl (by kernel_rfl) (by kernel_rfl) rfl ?_)
     refine s_y rfl (v := .int .i64 170) (y_as rfl) rfl ?_
     refine s_nil (q_then (c_ret (q_then_ret ?_)))
     have hp : callGet s = ((⟨0, (⟨0, 0, 0⟩ : Lab), (⟨#[]⟩ : ByteArray), 0, 0, (⟨#[]⟩ : ByteArray), 0⟩ : Cal), 170) := by first | exact rge_e (by assumption) | exact rge_no (by assumption) | exact rge_bad (hn rfl) | exact rge_g (by assumption) (hp rfl (by assumption)) (by show (signsF ((getF 1 s).1 : Int)).size ≤ _; omega) (by assumption) | exact rge_r (hp rfl (by assumption)) (by show (signsF ((getF 1 s).1 : Int)).size ≤ _; omega) (by assumption)
     refine c_fin (I' := []) [] [] rfl (.agg 1 9 rfl rfl rfl rfl Tryz.underlying26 rfl (by kernel_rfl) (by kernel_rfl) (.tmp rfl .nil)) rfl rfl rfl ?_
     rw [hp]
     exact ⟨rfl, rfl, rfl⟩
    ·
     refine s_y rfl (v := .bool true) (y_nf (y_k (v := .bool (!decide ((getF (1 : Int) s).2.2 = 0))) rfl rfl (fun _ => by kernel_rfl)) h4) rfl ?_
     refine s_y rfl (v := .bool true) (y_mv rfl) rfl ?_
     refine st_off 51 rfl rfl rfl rfl rfl rfl ?_
     refine st_off 51 rfl rfl rfl rfl rfl rfl ?_
     refine s_y rfl (v := .bool true) (y_pick rfl rfl) rfl ?_
     refine s_y rfl (v := .bool true) (y_mv rfl) rfl ?_
     refine st_off 55 rfl rfl rfl rfl rfl rfl ?_
     refine st_off 55 rfl rfl rfl rfl rfl rfl ?_
     refine s_y rfl (v := .bool true) (y_pick rfl rfl) rfl ?_
     refine s_nil (q_then (c_true rfl (c_seq (c_region ?_))))
     refine s_y rfl (v := .agg #[.int .i64 0, .int .i64 0, .int .u64 0, .int .i64 0, .string (⟨#[]⟩ : ByteArray), .int .i64 0, .int .i64 0, .string (⟨#[]⟩ : ByteArray), .int .i64 0]) (y_k rfl rfl (fun _ => by kernel_rfl)) rfl ?_
     refine st rfl (o_st 1 rfl rfl rfl rfl rfl (by kernel_rfl) (by kernel_rfl) rfl ?_)
     refine s_y rfl (v := .int .i64 170) (y_as rfl) rfl ?_
     refine s_nil (q_then (c_ret (q_then_ret ?_)))
     have hp : callGet s = ((⟨0, (⟨0, 0, 0⟩ : Lab), (⟨#[]⟩ : ByteArray), 0, 0, (⟨#[]⟩ : ByteArray), 0⟩ : Cal), 170) := by first | exact rge_e (by assumption) | exact rge_no (by assumption) | exact rge_bad (hn rfl) | exact rge_g (by assumption) (hp rfl (by assumption)) (by show (signsF ((getF 1 s).1 : Int)).size ≤ _; omega) (by assumption) | exact rge_r (hp rfl (by assumption)) (by show (signsF ((getF 1 s).1 : Int)).size ≤ _; omega) (by assumption)
     refine c_fin (I' := []) [] [] rfl (.agg 1 9 rfl rfl rfl rfl Tryz.underlying26 rfl (by kernel_rfl) (by kernel_rfl) (.tmp rfl .nil)) rfl rfl rfl ?_
     rw [hp]
     exact ⟨rfl, rfl, rfl⟩
   ·
    refine st_on 30 rfl rfl rfl (o_y (v := .bool true) (y_mv rfl) rfl rfl rfl ?_)
    refine s_y rfl (v := .bool true) (y_pick rfl rfl) rfl ?_
    refine s_y rfl (v := .bool true) (y_mv rfl) rfl ?_
    refine st_on 33 rfl rfl rfl (o_y (v := .int .i64 ((getF (1 : Int) s).2.2)) (y_mv rfl) rfl rfl rfl ?_)
    refine e_by ((getF (1 : Int) s).2.2 = 0) (fun h5 => ?_) (fun h5 => ?_)
    ·
     refine st_on 33 rfl rfl rfl (o_y (v := .bool true) (y_t (y_k (v := .bool (decide ((getF (1 : Int) s).2.2 = 0))) rfl rfl (fun _ => by kernel_rfl)) h5) rfl rfl rfl ?_)
     refine s_y rfl (v := .bool true) (y_pick rfl rfl) rfl ?_
     refine s_nil (q_then (c_true rfl (c_skip (q_then (c_seq (c_block ?_))))))
     refine c_draw (l := ticked 13 0) [(⟨b2, 0, none⟩, .int .i64 c1.op), (⟨b2, 1, none⟩, .int .i64 c1.lb.lv), (⟨b2, 2, none⟩, .int .u64 (c1.lb.cs : Int)), (⟨b2, 3, none⟩, .int .i64 c1.lb.ig), (⟨b2, 4, none⟩, .string c1.nm), (⟨b2, 5, none⟩, .int .i64 c1.pl), (⟨b2, 6, none⟩, .int .i64 c1.nn), (⟨b2, 7, none⟩, .string c1.da), (⟨b2, 8, none⟩, .int .i64 c1.id)] [10] (by kernel_rfl) rfl rfl ?_
     refine b_y (i := 1) (v := .string (signsF ((getF (1 : Int) s).1 : Int))) (ticked 13 2) rfl rfl (by exact y_mv rfl) ?_
     refine b_y (i := 2) (v := .int .i64 (k : Int)) (ticked 13 6) rfl rfl (by exact y_mv rfl) ?_
     obtain ⟨x1, hb1⟩ : ∃ x, ((signsF ((getF (1 : Int) s).1 : Int)))[k]? = some x := ⟨_, getElem?_pos ((signsF ((getF (1 : Int) s).1 : Int))) k (by omega)⟩
     refine b_y (i := 3) (v := .int .u8 (x1.toNat : Int)) (ticked 13 14) rfl rfl (by exact y_sidx k x1 rfl rfl (rfl) hb1 Tryz.underlying9) ?_
     refine b_y (i := 4) (v := .string o) (ticked 13 30) rfl rfl (by exact y_mv rfl) ?_
     refine a_held (i := 0) (ticked 13 31) rfl (by as_aux_lemma => kernel_rfl) rfl rfl rfl (held_pt 0 rfl rfl (held_pt 0 rfl rfl (held_pt 0 rfl rfl (held_pt 0 rfl rfl (held_pt 0 rfl rfl (held_pt 0 rfl rfl (held_pt 0 rfl rfl (held_pt 0 rfl rfl (held_pt 0 rfl rfl held_nil))))))))) (h_ldn (vs := [.int .i64 c1.op, .int .i64 c1.lb.lv, .int .u64 (c1.lb.cs : Int), .int .i64 c1.lb.ig, .string c1.nm, .int .i64 c1.pl, .int .i64 c1.nn, .string c1.da, .int .i64 c1.id]) 0 9 rfl rfl rfl Tryz.underlying26 rfl (by kernel_rfl) (by kernel_rfl)) ?_
     refine a_each (rs := [5]) (by as_aux_lemma => kernel_rfl) (.cons (ticked 13 63) rfl rfl rfl (o_call [] [] (rget_ c1 x1 o (signs_let _ _ (lts_mem hb1)) (by omega)) rfl rfl rfl rfl rfl rfl (fun v L' I' hq3 => ?_)) .nil) (List.cons_ne_nil _ _)
     obtain ⟨rfl, rfl, rfl⟩ := hq3
     refine a_and (held_pt 0 rfl rfl (held_pt 0 rfl rfl (held_pt 0 rfl rfl (held_pt 0 rfl rfl (held_pt 0 rfl rfl (held_pt 0 rfl rfl (held_pt 0 rfl rfl (held_pt 0 rfl rfl (held_pt 0 rfl rfl held_nil))))))))) ?_
     refine b_y (i := 6) (v := .tuple #[.agg #[.int .i64 (((getC (o, none, c1) x1).2.2).op), .int .i64 (((getC (o, none, c1) x1).2.2).lb.lv), .int .u64 (((getC (o, none, c1) x1).2.2).lb.cs : Int), .int .i64 (((getC (o, none, c1) x1).2.2).lb.ig), .string (((getC (o, none, c1) x1).2.2).nm), .int .i64 (((getC (o, none, c1) x1).2.2).pl), .int .i64 (((getC (o, none, c1) x1).2.2).nn), .string (((getC (o, none, c1) x1).2.2).da), .int .i64 (((getC (o, none, c1) x1).2.2).id)], .string ((getC (o, none, c1) x1).1), .bool (decide ((getC (o, none, c1) x1).2.1 = none))]) (ticked 13 127) rfl rfl (by exact y_mv rfl) ?_
     refine b_y (i := 7) (v := .agg #[.int .i64 (((getC (o, none, c1) x1).2.2).op), .int .i64 (((getC (o, none, c1) x1).2.2).lb.lv), .int .u64 (((getC (o, none, c1) x1).2.2).lb.cs : Int), .int .i64 (((getC (o, none, c1) x1).2.2).lb.ig), .string (((getC (o, none, c1) x1).2.2).nm), .int .i64 (((getC (o, none, c1) x1).2.2).pl), .int .i64 (((getC (o, none, c1) x1).2.2).nn), .string (((getC (o, none, c1) x1).2.2).da), .int .i64 (((getC (o, none, c1) x1).2.2).id)]) (ticked 13 255) rfl rfl (by exact y_k rfl rfl (fun _ => by kernel_rfl)) ?_
     refine b_y (i := 8) (v := .string ((getC (o, none, c1) x1).1)) (ticked 13 511) rfl rfl (by exact y_k rfl rfl (fun _ => by kernel_rfl)) ?_
     refine b_y (i := 9) (v := .bool (decide ((getC (o, none, c1) x1).2.1 = none))) (ticked 13 1023) rfl rfl (by exact y_k rfl rfl (fun _ => by kernel_rfl)) ?_
     refine a_each (rs := [10]) (by as_aux_lemma => kernel_rfl) (.last (ticked 13 2047) rfl rfl rfl rfl (o_st 0 rfl rfl rfl rfl rfl (by kernel_rfl) (by kernel_rfl) rfl ?_) .nil) (List.cons_ne_nil _ _)
     refine b_y (i := 11) (v := .string ((getC (o, none, c1) x1).1)) (ticked 13 4095) rfl rfl (by exact y_as rfl) ?_
     refine b_y (i := 12) (v := .bool (decide ((getC (o, none, c1) x1).2.1 = none))) (ticked 13 8191) rfl rfl (by exact y_as rfl) ?_
     refine a_done (by as_aux_lemma => kernel_rfl) ?_
     refine q_block (q_then (c_region ?_))
     refine s_y rfl (v := .int .i64 (k : Int)) (y_mv rfl) rfl ?_
     refine s_y rfl (v := .int .i64 ((k : Int) + 1)) (y_add (r := (k : Int) + 1) rfl rfl rfl (by omega)) rfl ?_
     refine s_y rfl (v := .int .i64 ((k : Int) + 1)) (y_as rfl) rfl ?_
     refine s_nil (q_then ?_)
     refine c_next [0, 0] [] (k + 1, (getC (o, none, c1) x1).1, (getC (o, none, c1) x1).2.2, (decide ((getC (o, none, c1) x1).2.1 = none))) ?_ ?_ ?_ (by rfl) (by rfl)
     · exact (show ((k + 1) ≤ (signsF ((getF 1 s).1 : Int)).size) ∧ ((decide ((getC (o, none, c1) x1).2.1 = none)) = true → (getF 1 s).2.2 = 0 → getN ((lts (signsF ((getF 1 s).1 : Int))).take (k + 1)) (getI s) = (((getC (o, none, c1) x1).1), none, ((getC (o, none, c1) x1).2.2))) ∧ ((decide ((getC (o, none, c1) x1).2.1 = none)) = false → ¬ (getN (lts (signsF ((getF 1 s).1 : Int))) (getI s)).2.1 = none) ∧ (((getC (o, none, c1) x1).1).size ≤ 100000) from ⟨by first | omega | simp_all | (simp; done), fun q he => rg_t (hp rfl he) (lts_at hb1) (of_decide_eq_true q), fun q => rg_f (signs_let _) (hp rfl (by assumption)) (lts_at hb1) (of_decide_eq_false q), Nat.le_trans (getC_size _ _) hz⟩)
     · show (signsF ((getF 1 s).1 : Int)).size - (k + 1) < (signsF ((getF 1 s).1 : Int)).size - k; omega
     · exact (.cons rfl rfl (.cons rfl rfl (.cons rfl rfl (.cons rfl rfl (.cons rfl rfl (.cons rfl rfl (.cons rfl rfl (.cons rfl (show (.int .i64 ((k : Int) + 1) : Value) = .int .i64 ((k + 1) : Int) from by first | rfl | (congr 1; omega) | (congr 1; simp; done) | (congr 1; simp; omega)) .nil))))))))
    ·
     refine st_on 33 rfl rfl rfl (o_y (v := .bool false) (y_f (y_k (v := .bool (decide ((getF (1 : Int) s).2.2 = 0))) rfl rfl (fun _ => by kernel_rfl)) h5) rfl rfl rfl ?_)
     refine s_y rfl (v := .bool false) (y_pick rfl rfl) rfl ?_
     refine s_nil (q_then (c_false rfl ?_))
     refine c_exit ?_
     refine q_then_exit ?_
     refine q_then_exit ?_
     refine q_block_here ?_
     refine q_then (c_seq (c_seq (c_region ?_)))
     refine s_y rfl (v := .int .i64 ((getF (1 : Int) s).2.2)) (y_mv rfl) rfl ?_
     have h6 : ¬ ((getF (1 : Int) s).2.2 = 0) := h5
     refine s_y rfl (v := .bool true) (y_nf (y_k (v := .bool (!decide ((getF (1 : Int) s).2.2 = 0))) rfl rfl (fun _ => by kernel_rfl)) h6) rfl ?_
     refine s_y rfl (v := .bool true) (y_mv rfl) rfl ?_
     refine st_off 51 rfl rfl rfl rfl rfl rfl ?_
     refine st_off 51 rfl rfl rfl rfl rfl rfl ?_
     refine s_y rfl (v := .bool true) (y_pick rfl rfl) rfl ?_
     refine s_y rfl (v := .bool true) (y_mv rfl) rfl ?_
     refine st_off 55 rfl rfl rfl rfl rfl rfl ?_
     refine st_off 55 rfl rfl rfl rfl rfl rfl ?_
     refine s_y rfl (v := .bool true) (y_pick rfl rfl) rfl ?_
     refine s_nil (q_then (c_true rfl (c_seq (c_region ?_))))
     refine s_y rfl (v := .agg #[.int .i64 0, .int .i64 0, .int .u64 0, .int .i64 0, .string (⟨#[]⟩ : ByteArray), .int .i64 0, .int .i64 0, .string (⟨#[]⟩ : ByteArray), .int .i64 0]) (y_k rfl rfl (fun _ => by kernel_rfl)) rfl ?_
     refine st rfl (o_st 1 rfl rfl rfl rfl rfl (by kernel_rfl) (by kernel_rfl) rfl ?_)
     refine s_y rfl (v := .int .i64 170) (y_as rfl) rfl ?_
     refine s_nil (q_then (c_ret (q_then_ret ?_)))
     have hp : callGet s = ((⟨0, (⟨0, 0, 0⟩ : Lab), (⟨#[]⟩ : ByteArray), 0, 0, (⟨#[]⟩ : ByteArray), 0⟩ : Cal), 170) := by first | exact rge_e (by assumption) | exact rge_no (by assumption) | exact rge_bad (hn rfl) | exact rge_g (by assumption) (hp rfl (by assumption)) (by show (signsF ((getF 1 s).1 : Int)).size ≤ _; omega) (by assumption) | exact rge_r (hp rfl (by assumption)) (by show (signsF ((getF 1 s).1 : Int)).size ≤ _; omega) (by assumption)
     refine c_fin (I' := []) [] [] rfl (.agg 1 9 rfl rfl rfl rfl Tryz.underlying26 rfl (by kernel_rfl) (by kernel_rfl) (.tmp rfl .nil)) rfl rfl rfl ?_
     rw [hp]
     exact ⟨rfl, rfl, rfl⟩
  ·
   refine s_y rfl (v := .bool false) (y_f (y_k (v := .bool (decide ((k : Int) < ((signsF ((getF (1 : Int) s).1 : Int)).size : Int)))) rfl rfl (fun _ => by kernel_rfl)) h3) rfl ?_
   refine s_y rfl (v := .bool false) (y_mv rfl) rfl ?_
   refine st_off 30 rfl rfl rfl rfl rfl rfl ?_
   refine s_y rfl (v := .bool false) (y_pick rfl rfl) rfl ?_
   refine s_y rfl (v := .bool false) (y_mv rfl) rfl ?_
   refine st_off 33 rfl rfl rfl rfl rfl rfl ?_
   refine st_off 33 rfl rfl rfl rfl rfl rfl ?_
   refine s_y rfl (v := .bool false) (y_pick rfl rfl) rfl ?_
   refine s_nil (q_then (c_false rfl ?_))
   refine c_exit ?_
   refine q_then_exit ?_
   refine q_then_exit ?_
   refine q_block_here ?_
   refine q_then (c_seq (c_seq (c_region ?_)))
   refine s_y rfl (v := .int .i64 ((getF (1 : Int) s).2.2)) (y_mv rfl) rfl ?_
   refine e_by ((getF (1 : Int) s).2.2 = 0) (fun h7 => ?_) (fun h7 => ?_)
   ·
    refine s_y rfl (v := .bool false) (y_nt (y_k (v := .bool (!decide ((getF (1 : Int) s).2.2 = 0))) rfl rfl (fun _ => by kernel_rfl)) h7) rfl ?_
    refine s_y rfl (v := .bool false) (y_mv rfl) rfl ?_
    cases ok
    ·
     refine st_on 51 rfl rfl rfl (o_y (v := .bool false) (y_mv rfl) rfl rfl rfl ?_)
     refine st_on 51 rfl rfl rfl (o_y (v := .bool true) (y_k rfl rfl (fun _ => by kernel_rfl)) rfl rfl rfl ?_)
     refine s_y rfl (v := .bool true) (y_pick rfl rfl) rfl ?_
     refine s_y rfl (v := .bool true) (y_mv rfl) rfl ?_
     refine st_off 55 rfl rfl rfl rfl rfl rfl ?_
     refine st_off 55 rfl rfl rfl rfl rfl rfl ?_
     refine s_y rfl (v := .bool true) (y_pick rfl rfl) rfl ?_
     refine s_nil (q_then (c_true rfl (c_seq (c_region ?_))))
     refine s_y rfl (v := .agg #[.int .i64 0, .int .i64 0, .int .u64 0, .int .i64 0, .string (⟨#[]⟩ : ByteArray), .int .i64 0, .int .i64 0, .string (⟨#[]⟩ : ByteArray), .int .i64 0]) (y_k rfl rfl (fun _ => by kernel_rfl)) rfl ?_
     refine st rfl (o_st 1 rfl rfl rfl rfl rfl (by kernel_rfl) (by kernel_rfl) rfl ?_)
     refine s_y rfl (v := .int .i64 170) (y_as rfl) rfl ?_
     refine s_nil (q_then (c_ret (q_then_ret ?_)))
     have hp : callGet s = ((⟨0, (⟨0, 0, 0⟩ : Lab), (⟨#[]⟩ : ByteArray), 0, 0, (⟨#[]⟩ : ByteArray), 0⟩ : Cal), 170) := by first | exact rge_e (by assumption) | exact rge_no (by assumption) | exact rge_bad (hn rfl) | exact rge_g (by assumption) (hp rfl (by assumption)) (by show (signsF ((getF 1 s).1 : Int)).size ≤ _; omega) (by assumption) | exact rge_r (hp rfl (by assumption)) (by show (signsF ((getF 1 s).1 : Int)).size ≤ _; omega) (by assumption)
     refine c_fin (I' := []) [] [] rfl (.agg 1 9 rfl rfl rfl rfl Tryz.underlying26 rfl (by kernel_rfl) (by kernel_rfl) (.tmp rfl .nil)) rfl rfl rfl ?_
     rw [hp]
     exact ⟨rfl, rfl, rfl⟩
    ·
     refine st_on 51 rfl rfl rfl (o_y (v := .bool true) (y_mv rfl) rfl rfl rfl ?_)
     refine st_on 51 rfl rfl rfl (o_y (v := .bool false) (y_k rfl rfl (fun _ => by kernel_rfl)) rfl rfl rfl ?_)
     refine s_y rfl (v := .bool false) (y_pick rfl rfl) rfl ?_
     refine s_y rfl (v := .bool false) (y_mv rfl) rfl ?_
     refine st_on 55 rfl rfl rfl (o_y (v := .string o) (y_mv rfl) rfl rfl rfl ?_)
     refine e_by (o = (⟨#[]⟩ : ByteArray)) (fun h8 => ?_) (fun h8 => ?_)
     ·
      refine st_on 55 rfl rfl rfl (o_y (v := .bool false) (y_b (y_k (v := .bool (!(o.toList == (⟨#[]⟩ : ByteArray).toList))) rfl rfl (fun _ => by kernel_rfl)) (str_nt h8)) rfl rfl rfl ?_)
      refine s_y rfl (v := .bool false) (y_pick rfl rfl) rfl ?_
      refine s_nil (q_then (c_false rfl (c_skip (q_then (c_seq (c_region ?_))))))
      refine st rfl (o_ldn 0 9 rfl rfl rfl rfl Tryz.underlying26 rfl (by kernel_rfl) (by kernel_rfl) rfl ?_)
      refine st rfl (o_st 1 rfl rfl rfl rfl rfl (by kernel_rfl) (by kernel_rfl) rfl ?_)
      refine s_y rfl (v := .int .i64 0) (y_as rfl) rfl ?_
      refine s_nil (q_then (c_ret ?_))
      have hp : callGet s = (c1, 0) := by first | exact rge_e (by assumption) | exact rge_no (by assumption) | exact rge_bad (hn rfl) | exact rge_g (by assumption) (hp rfl (by assumption)) (by show (signsF ((getF 1 s).1 : Int)).size ≤ _; omega) (by assumption) | exact rge_r (hp rfl (by assumption)) (by show (signsF ((getF 1 s).1 : Int)).size ≤ _; omega) (by assumption)
      refine c_fin (I' := []) [] [] rfl (.agg 1 9 rfl rfl rfl rfl Tryz.underlying26 rfl (by kernel_rfl) (by kernel_rfl) (.tmp rfl .nil)) rfl rfl rfl ?_
      rw [hp]
      exact ⟨rfl, rfl, rfl⟩
     ·
      refine st_on 55 rfl rfl rfl (o_y (v := .bool true) (y_b (y_k (v := .bool (!(o.toList == (⟨#[]⟩ : ByteArray).toList))) rfl rfl (fun _ => by kernel_rfl)) (str_nf h8)) rfl rfl rfl ?_)
      refine s_y rfl (v := .bool true) (y_pick rfl rfl) rfl ?_
      refine s_nil (q_then (c_true rfl (c_seq (c_region ?_))))
      refine s_y rfl (v := .agg #[.int .i64 0, .int .i64 0, .int .u64 0, .int .i64 0, .string (⟨#[]⟩ : ByteArray), .int .i64 0, .int .i64 0, .string (⟨#[]⟩ : ByteArray), .int .i64 0]) (y_k rfl rfl (fun _ => by kernel_rfl)) rfl ?_
      refine st rfl (o_st 1 rfl rfl rfl rfl rfl (by kernel_rfl) (by kernel_rfl) rfl ?_)
      refine s_y rfl (v := .int .i64 170) (y_as rfl) rfl ?_
      refine s_nil (q_then (c_ret (q_then_ret ?_)))
      have hp : callGet s = ((⟨0, (⟨0, 0, 0⟩ : Lab), (⟨#[]⟩ : ByteArray), 0, 0, (⟨#[]⟩ : ByteArray), 0⟩ : Cal), 170) := by first | exact rge_e (by assumption) | exact rge_no (by assumption) | exact rge_bad (hn rfl) | exact rge_g (by assumption) (hp rfl (by assumption)) (by show (signsF ((getF 1 s).1 : Int)).size ≤ _; omega) (by assumption) | exact rge_r (hp rfl (by assumption)) (by show (signsF ((getF 1 s).1 : Int)).size ≤ _; omega) (by assumption)
      refine c_fin (I' := []) [] [] rfl (.agg 1 9 rfl rfl rfl rfl Tryz.underlying26 rfl (by kernel_rfl) (by kernel_rfl) (.tmp rfl .nil)) rfl rfl rfl ?_
      rw [hp]
      exact ⟨rfl, rfl, rfl⟩
   ·
    refine s_y rfl (v := .bool true) (y_nf (y_k (v := .bool (!decide ((getF (1 : Int) s).2.2 = 0))) rfl rfl (fun _ => by kernel_rfl)) h7) rfl ?_
    refine s_y rfl (v := .bool true) (y_mv rfl) rfl ?_
    refine st_off 51 rfl rfl rfl rfl rfl rfl ?_
    refine st_off 51 rfl rfl rfl rfl rfl rfl ?_
    refine s_y rfl (v := .bool true) (y_pick rfl rfl) rfl ?_
    refine s_y rfl (v := .bool true) (y_mv rfl) rfl ?_
    refine st_off 55 rfl rfl rfl rfl rfl rfl ?_
    refine st_off 55 rfl rfl rfl rfl rfl rfl ?_
    refine s_y rfl (v := .bool true) (y_pick rfl rfl) rfl ?_
    refine s_nil (q_then (c_true rfl (c_seq (c_region ?_))))
    refine s_y rfl (v := .agg #[.int .i64 0, .int .i64 0, .int .u64 0, .int .i64 0, .string (⟨#[]⟩ : ByteArray), .int .i64 0, .int .i64 0, .string (⟨#[]⟩ : ByteArray), .int .i64 0]) (y_k rfl rfl (fun _ => by kernel_rfl)) rfl ?_
    refine st rfl (o_st 1 rfl rfl rfl rfl rfl (by kernel_rfl) (by kernel_rfl) rfl ?_)
    refine s_y rfl (v := .int .i64 170) (y_as rfl) rfl ?_
    refine s_nil (q_then (c_ret (q_then_ret ?_)))
    have hp : callGet s = ((⟨0, (⟨0, 0, 0⟩ : Lab), (⟨#[]⟩ : ByteArray), 0, 0, (⟨#[]⟩ : ByteArray), 0⟩ : Cal), 170) := by first | exact rge_e (by assumption) | exact rge_no (by assumption) | exact rge_bad (hn rfl) | exact rge_g (by assumption) (hp rfl (by assumption)) (by show (signsF ((getF 1 s).1 : Int)).size ≤ _; omega) (by assumption) | exact rge_r (hp rfl (by assumption)) (by show (signsF ((getF 1 s).1 : Int)).size ≤ _; omega) (by assumption)
    refine c_fin (I' := []) [] [] rfl (.agg 1 9 rfl rfl rfl rfl Tryz.underlying26 rfl (by kernel_rfl) (by kernel_rfl) (.tmp rfl .nil)) rfl rfl rfl ?_
    rw [hp]
    exact ⟨rfl, rfl, rfl⟩
 ·
  refine s_y rfl (v := .tuple #[.string (⟨#[]⟩ : ByteArray), .bool false]) (y_mv rfl) rfl ?_
  refine s_y rfl (v := .string (⟨#[]⟩ : ByteArray)) (y_k rfl rfl (fun _ => by kernel_rfl)) rfl ?_
  refine s_y rfl (v := .bool false) (y_k rfl rfl (fun _ => by kernel_rfl)) rfl ?_
  refine s_y rfl (v := .string (⟨#[]⟩ : ByteArray)) (y_as rfl) rfl ?_
  refine s_y rfl (v := .bool false) (y_as rfl) rfl ?_
  refine s_nil (q_then (c_seq (c_region ?_)))
  refine s_y rfl (v := .int .u64 ((getF (1 : Int) s).1 : Int)) (y_mv rfl) rfl ?_
  refine s_y rfl (v := .int .i64 ((getF (1 : Int) s).1 : Int)) (y_cvi (r := ((getF (1 : Int) s).1 : Int)) rfl Tryz.underlying22 Tryz.underlying3 (wrap_in (by omega) (by have h1_ := getF_small (s := s) (w := 2) (by decide); have h2_ := getF_small (s := s) (w := 1) (by decide); omega))) rfl ?_
  refine s_y rfl (v := .agg #[.int .i64 ((getF (1 : Int) s).1 : Int), .int .i64 0, .int .u64 0, .int .i64 0, .string (⟨#[]⟩ : ByteArray), .int .i64 0, .int .i64 0, .string (⟨#[]⟩ : ByteArray), .int .i64 0]) (y_k rfl rfl (fun _ => by kernel_rfl)) rfl ?_
  refine st rfl (o_box (cs := [.int .i64 0, .int .i64 0, .int .u64 0, .int .i64 0, .string (⟨#[]⟩ : ByteArray), .int .i64 0, .int .i64 0, .string (⟨#[]⟩ : ByteArray), .int .i64 0]) (T := 26) rfl rfl rfl rfl (fun _ => by kernel_rfl) (fun b3 => ?_))
  refine st rfl (o_st 0 rfl rfl rfl rfl rfl (by kernel_rfl) (by kernel_rfl) rfl ?_)
  refine s_nil (q_then (c_seq (c_seq (c_region ?_))))
  refine s_y rfl (v := .int .i64 0) (y_as rfl) rfl ?_
  refine s_nil (q_then (c_block ?_))
  refine c_loopn (ι := Nat) (fun k => (k ≤ 0)) (fun k => [(2, .pointer (some ⟨b1, 0, none⟩)), (3, .int .i64 0), (5, .string ((getF (1 : Int) s).2.1)), (6, .int .i64 ((getF (1 : Int) s).2.2)), (7, .string (⟨#[]⟩ : ByteArray)), (8, .bool false), (9, .pointer (some ⟨b3, 0, none⟩)), (10, .int .i64 (k : Int))]) (fun k => [pt b3 [.int .i64 ((getF (1 : Int) s).1 : Int), .int .i64 0, .int .u64 0, .int .i64 0, .string (⟨#[]⟩ : ByteArray), .int .i64 0, .int .i64 0, .string (⟨#[]⟩ : ByteArray), .int .i64 0] 26, pt b1 [.int .i64 0, .int .i64 0, .int .u64 0, .int .i64 0, .string (⟨#[]⟩ : ByteArray), .int .i64 0, .int .i64 0, .string (⟨#[]⟩ : ByteArray), .int .i64 0] 26]) (fun k => []) (fun k => 0 - k) (0) [0, 0] [] (show 0 ≤ 0 from by first | omega | simp_all | (simp; done)) ((.cons rfl rfl (.cons rfl rfl (.cons rfl rfl (.cons rfl rfl (.cons rfl rfl (.cons rfl rfl (.cons rfl rfl (.cons rfl rfl .nil))))))))) rfl rfl ?_
  rintro k hk
  show Ent 61 C [(2, .pointer (some ⟨b1, 0, none⟩)), (3, .int .i64 0), (5, .string ((getF (1 : Int) s).2.1)), (6, .int .i64 ((getF (1 : Int) s).2.2)), (7, .string (⟨#[]⟩ : ByteArray)), (8, .bool false), (9, .pointer (some ⟨b3, 0, none⟩)), (10, .int .i64 (k : Int))] [] [pt b3 [.int .i64 ((getF (1 : Int) s).1 : Int), .int .i64 0, .int .u64 0, .int .i64 0, .string (⟨#[]⟩ : ByteArray), .int .i64 0, .int .i64 0, .string (⟨#[]⟩ : ByteArray), .int .i64 0] 26, pt b1 [.int .i64 0, .int .i64 0, .int .u64 0, .int .i64 0, .string (⟨#[]⟩ : ByteArray), .int .i64 0, .int .i64 0, .string (⟨#[]⟩ : ByteArray), .int .i64 0] 26] [] _
  refine c_seq (c_seq (c_region ?_))
  refine s_y rfl (v := .int .i64 (k : Int)) (y_mv rfl) rfl ?_
  refine s_y rfl (v := .string (⟨#[]⟩ : ByteArray)) (y_mv rfl) rfl ?_
  refine s_y rfl (v := .int .i64 ((⟨#[]⟩ : ByteArray).size : Int)) (y_k rfl rfl (fun _ => by kernel_rfl)) rfl ?_
  have h9 : ¬ ((k : Int) < ((⟨#[]⟩ : ByteArray).size : Int)) := by omega
  refine s_y rfl (v := .bool false) (y_f (y_k (v := .bool (decide ((k : Int) < ((⟨#[]⟩ : ByteArray).size : Int)))) rfl rfl (fun _ => by kernel_rfl)) h9) rfl ?_
  refine s_y rfl (v := .bool false) (y_mv rfl) rfl ?_
  refine st_off 30 rfl rfl rfl rfl rfl rfl ?_
  refine s_y rfl (v := .bool false) (y_pick rfl rfl) rfl ?_
  refine s_y rfl (v := .bool false) (y_mv rfl) rfl ?_
  refine st_off 33 rfl rfl rfl rfl rfl rfl ?_
  refine st_off 33 rfl rfl rfl rfl rfl rfl ?_
  refine s_y rfl (v := .bool false) (y_pick rfl rfl) rfl ?_
  refine s_nil (q_then (c_false rfl ?_))
  refine c_exit ?_
  refine q_then_exit ?_
  refine q_then_exit ?_
  refine q_block_here ?_
  refine q_then (c_seq (c_seq (c_region ?_)))
  refine s_y rfl (v := .int .i64 ((getF (1 : Int) s).2.2)) (y_mv rfl) rfl ?_
  refine e_by ((getF (1 : Int) s).2.2 = 0) (fun h10 => ?_) (fun h10 => ?_)
  ·
   refine s_y rfl (v := .bool false) (y_nt (y_k (v := .bool (!decide ((getF (1 : Int) s).2.2 = 0))) rfl rfl (fun _ => by kernel_rfl)) h10) rfl ?_
   refine s_y rfl (v := .bool false) (y_mv rfl) rfl ?_
   refine st_on 51 rfl rfl rfl (o_y (v := .bool false) (y_mv rfl) rfl rfl rfl ?_)
   refine st_on 51 rfl rfl rfl (o_y (v := .bool true) (y_k rfl rfl (fun _ => by kernel_rfl)) rfl rfl rfl ?_)
   refine s_y rfl (v := .bool true) (y_pick rfl rfl) rfl ?_
   refine s_y rfl (v := .bool true) (y_mv rfl) rfl ?_
   refine st_off 55 rfl rfl rfl rfl rfl rfl ?_
   refine st_off 55 rfl rfl rfl rfl rfl rfl ?_
   refine s_y rfl (v := .bool true) (y_pick rfl rfl) rfl ?_
   refine s_nil (q_then (c_true rfl (c_seq (c_region ?_))))
   refine s_y rfl (v := .agg #[.int .i64 0, .int .i64 0, .int .u64 0, .int .i64 0, .string (⟨#[]⟩ : ByteArray), .int .i64 0, .int .i64 0, .string (⟨#[]⟩ : ByteArray), .int .i64 0]) (y_k rfl rfl (fun _ => by kernel_rfl)) rfl ?_
   refine st rfl (o_st 1 rfl rfl rfl rfl rfl (by kernel_rfl) (by kernel_rfl) rfl ?_)
   refine s_y rfl (v := .int .i64 170) (y_as rfl) rfl ?_
   refine s_nil (q_then (c_ret (q_then_ret ?_)))
   have hp : callGet s = ((⟨0, (⟨0, 0, 0⟩ : Lab), (⟨#[]⟩ : ByteArray), 0, 0, (⟨#[]⟩ : ByteArray), 0⟩ : Cal), 170) := by first | exact rge_e (by assumption) | exact rge_no (by assumption) | exact rge_bad (hn rfl) | exact rge_g (by assumption) (hp rfl (by assumption)) (by show (signsF ((getF 1 s).1 : Int)).size ≤ _; omega) (by assumption) | exact rge_r (hp rfl (by assumption)) (by show (signsF ((getF 1 s).1 : Int)).size ≤ _; omega) (by assumption)
   refine c_fin (I' := []) [] [] rfl (.agg 1 9 rfl rfl rfl rfl Tryz.underlying26 rfl (by kernel_rfl) (by kernel_rfl) (.tmp rfl .nil)) rfl rfl rfl ?_
   rw [hp]
   exact ⟨rfl, rfl, rfl⟩
  ·
   refine s_y rfl (v := .bool true) (y_nf (y_k (v := .bool (!decide ((getF (1 : Int) s).2.2 = 0))) rfl rfl (fun _ => by kernel_rfl)) h10) rfl ?_
   refine s_y rfl (v := .bool true) (y_mv rfl) rfl ?_
   refine st_off 51 rfl rfl rfl rfl rfl rfl ?_
   refine st_off 51 rfl rfl rfl rfl rfl rfl ?_
   refine s_y rfl (v := .bool true) (y_pick rfl rfl) rfl ?_
   refine s_y rfl (v := .bool true) (y_mv rfl) rfl ?_
   refine st_off 55 rfl rfl rfl rfl rfl rfl ?_
   refine st_off 55 rfl rfl rfl rfl rfl rfl ?_
   refine s_y rfl (v := .bool true) (y_pick rfl rfl) rfl ?_
   refine s_nil (q_then (c_true rfl (c_seq (c_region ?_))))
   refine s_y rfl (v := .agg #[.int .i64 0, .int .i64 0, .int .u64 0, .int .i64 0, .string (⟨#[]⟩ : ByteArray), .int .i64 0, .int .i64 0, .string (⟨#[]⟩ : ByteArray), .int .i64 0]) (y_k rfl rfl (fun _ => by kernel_rfl)) rfl ?_
   refine st rfl (o_st 1 rfl rfl rfl rfl rfl (by kernel_rfl) (by kernel_rfl) rfl ?_)
   refine s_y rfl (v := .int .i64 170) (y_as rfl) rfl ?_
   refine s_nil (q_then (c_ret (q_then_ret ?_)))
   have hp : callGet s = ((⟨0, (⟨0, 0, 0⟩ : Lab), (⟨#[]⟩ : ByteArray), 0, 0, (⟨#[]⟩ : ByteArray), 0⟩ : Cal), 170) := by first | exact rge_e (by assumption) | exact rge_no (by assumption) | exact rge_bad (hn rfl) | exact rge_g (by assumption) (hp rfl (by assumption)) (by show (signsF ((getF 1 s).1 : Int)).size ≤ _; omega) (by assumption) | exact rge_r (hp rfl (by assumption)) (by show (signsF ((getF 1 s).1 : Int)).size ≤ _; omega) (by assumption)
   refine c_fin (I' := []) [] [] rfl (.agg 1 9 rfl rfl rfl rfl Tryz.underlying26 rfl (by kernel_rfl) (by kernel_rfl) (.tmp rfl .nil)) rfl rfl rfl ?_
   rw [hp]
   exact ⟨rfl, rfl, rfl⟩
theorem rfloats_ (op : Int) : Con Tryz.prog 13 [.int .i64 op] [] [] (fun v L' I' => v = .bool (decide (op = 5 ∨ op = 8 ∨ op = 15 ∨ op = 16)) ∧ L' = [] ∧ I' = []) := by
 refine fn_of Tryz.func13 rfl Tryz.ntmps13 (by kernel_rfl) rfl (fun C => ?_)
 refine c_seq (c_region ?_)
 refine s_y rfl (v := .bool false) (y_as rfl) rfl ?_
 refine s_nil (q_then (c_seq (c_region ?_)))
 refine s_y rfl (v := .int .i64 op) (y_mv rfl) rfl ?_
 refine e_by (op = 5) (fun h1 => ?_) (fun h1 => ?_)
 ·
  refine s_y rfl (v := .bool true) (y_t (y_k (v := .bool (decide (op = 5))) rfl rfl (fun _ => by kernel_rfl)) h1) rfl ?_
  refine s_y rfl (v := .bool true) (y_mv rfl) rfl ?_
  refine st_off 5 rfl rfl rfl rfl rfl rfl ?_
  refine st_off 5 rfl rfl rfl rfl rfl rfl ?_
  refine s_y rfl (v := .bool true) (y_pick rfl rfl) rfl ?_
  refine s_y rfl (v := .bool true) (y_mv rfl) rfl ?_
  refine st_off 9 rfl rfl rfl rfl rfl rfl ?_
  refine st_off 9 rfl rfl rfl rfl rfl rfl ?_
  refine s_y rfl (v := .bool true) (y_pick rfl rfl) rfl ?_
  refine s_y rfl (v := .bool true) (y_mv rfl) rfl ?_
  refine st_off 13 rfl rfl rfl rfl rfl rfl ?_
  refine st_off 13 rfl rfl rfl rfl rfl rfl ?_
  refine s_y rfl (v := .bool true) (y_pick rfl rfl) rfl ?_
  refine s_y rfl (v := .bool true) (y_as rfl) rfl ?_
  refine s_nil (q_then (c_ret ?_))
  refine c_fin (I' := []) [] [] rfl (.tmp rfl .nil) rfl rfl rfl ?_
  exact ⟨dec_t (by omega), rfl, rfl⟩
 ·
  refine s_y rfl (v := .bool false) (y_f (y_k (v := .bool (decide (op = 5))) rfl rfl (fun _ => by kernel_rfl)) h1) rfl ?_
  refine s_y rfl (v := .bool false) (y_mv rfl) rfl ?_
  refine st_on 5 rfl rfl rfl (o_y (v := .int .i64 op) (y_mv rfl) rfl rfl rfl ?_)
  refine e_by (op = 8) (fun h2 => ?_) (fun h2 => ?_)
  ·
   refine st_on 5 rfl rfl rfl (o_y (v := .bool true) (y_t (y_k (v := .bool (decide (op = 8))) rfl rfl (fun _ => by kernel_rfl)) h2) rfl rfl rfl ?_)
   refine s_y rfl (v := .bool true) (y_pick rfl rfl) rfl ?_
   refine s_y rfl (v := .bool true) (y_mv rfl) rfl ?_
   refine st_off 9 rfl rfl rfl rfl rfl rfl ?_
   refine st_off 9 rfl rfl rfl rfl rfl rfl ?_
   refine s_y rfl (v := .bool true) (y_pick rfl rfl) rfl ?_
   refine s_y rfl (v := .bool true) (y_mv rfl) rfl ?_
   refine st_off 13 rfl rfl rfl rfl rfl rfl ?_
   refine st_off 13 rfl rfl rfl rfl rfl rfl ?_
   refine s_y rfl (v := .bool true) (y_pick rfl rfl) rfl ?_
   refine s_y rfl (v := .bool true) (y_as rfl) rfl ?_
   refine s_nil (q_then (c_ret ?_))
   refine c_fin (I' := []) [] [] rfl (.tmp rfl .nil) rfl rfl rfl ?_
   exact ⟨dec_t (by omega), rfl, rfl⟩
  ·
   refine st_on 5 rfl rfl rfl (o_y (v := .bool false) (y_f (y_k (v := .bool (decide (op = 8))) rfl rfl (fun _ => by kernel_rfl)) h2) rfl rfl rfl ?_)
   refine s_y rfl (v := .bool false) (y_pick rfl rfl) rfl ?_
   refine s_y rfl (v := .bool false) (y_mv rfl) rfl ?_
   refine st_on 9 rfl rfl rfl (o_y (v := .int .i64 op) (y_mv rfl) rfl rfl rfl ?_)
   refine e_by (op = 15) (fun h3 => ?_) (fun h3 => ?_)
   ·
    refine st_on 9 rfl rfl rfl (o_y (v := .bool true) (y_t (y_k (v := .bool (decide (op = 15))) rfl rfl (fun _ => by kernel_rfl)) h3) rfl rfl rfl ?_)
    refine s_y rfl (v := .bool true) (y_pick rfl rfl) rfl ?_
    refine s_y rfl (v := .bool true) (y_mv rfl) rfl ?_
    refine st_off 13 rfl rfl rfl rfl rfl rfl ?_
    refine st_off 13 rfl rfl rfl rfl rfl rfl ?_
    refine s_y rfl (v := .bool true) (y_pick rfl rfl) rfl ?_
    refine s_y rfl (v := .bool true) (y_as rfl) rfl ?_
    refine s_nil (q_then (c_ret ?_))
    refine c_fin (I' := []) [] [] rfl (.tmp rfl .nil) rfl rfl rfl ?_
    exact ⟨dec_t (by omega), rfl, rfl⟩
   ·
    refine st_on 9 rfl rfl rfl (o_y (v := .bool false) (y_f (y_k (v := .bool (decide (op = 15))) rfl rfl (fun _ => by kernel_rfl)) h3) rfl rfl rfl ?_)
    refine s_y rfl (v := .bool false) (y_pick rfl rfl) rfl ?_
    refine s_y rfl (v := .bool false) (y_mv rfl) rfl ?_
    refine st_on 13 rfl rfl rfl (o_y (v := .int .i64 op) (y_mv rfl) rfl rfl rfl ?_)
    refine e_by (op = 16) (fun h4 => ?_) (fun h4 => ?_)
    ·
     refine st_on 13 rfl rfl rfl (o_y (v := .bool true) (y_t (y_k (v := .bool (decide (op = 16))) rfl rfl (fun _ => by kernel_rfl)) h4) rfl rfl rfl ?_)
     refine s_y rfl (v := .bool true) (y_pick rfl rfl) rfl ?_
     refine s_y rfl (v := .bool true) (y_as rfl) rfl ?_
     refine s_nil (q_then (c_ret ?_))
     refine c_fin (I' := []) [] [] rfl (.tmp rfl .nil) rfl rfl rfl ?_
     exact ⟨dec_t (by omega), rfl, rfl⟩
    ·
     refine st_on 13 rfl rfl rfl (o_y (v := .bool false) (y_f (y_k (v := .bool (decide (op = 16))) rfl rfl (fun _ => by kernel_rfl)) h4) rfl rfl rfl ?_)
     refine s_y rfl (v := .bool false) (y_pick rfl rfl) rfl ?_
     refine s_y rfl (v := .bool false) (y_as rfl) rfl ?_
     refine s_nil (q_then (c_ret ?_))
     refine c_fin (I' := []) [] [] rfl (.tmp rfl .nil) rfl rfl rfl ?_
     exact ⟨dec_f (by omega), rfl, rfl⟩
end Go.Proofs.YtcnncdniibkjkaaGreatDoor
