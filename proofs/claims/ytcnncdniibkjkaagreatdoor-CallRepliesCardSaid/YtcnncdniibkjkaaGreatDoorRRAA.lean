/- The laws of chapter 17 (call), walked over the given program; no condition but what stands in each theorem: part RAA. -/
import Derived.Test.YtcnncdniibkjkaaGreatDoorRRA9
set_option linter.unusedVariables false
set_option linter.unusedSimpArgs false
set_option maxRecDepth 100000
set_option maxHeartbeats 8000000
namespace Go.Proofs.YtcnncdniibkjkaaGreatDoor
open Go Go.Sl Go.RowKit Go.Extern.Stop Go.Stop Go.Extern
theorem rrepGet_ (s : ByteArray) (hs : s.size ≤ 100000) : Con Tryz.prog 18 [.string s] [] [] (fun v L' I' => ∃ A1 : Option Addr, ∃ c1 : Nat, v = .tuple #[.agg #[.int .i64 ((repGet s).1), .int .i64 ((repGet s).2.1), .string ((repGet s).2.2.1), .slice A1 ((repGet s).2.2.2.1).length c1, .int .i64 (((repGet s).2.2.2.2.1).lv), .int .u64 (((repGet s).2.2.2.2.1).cs : Int), .int .i64 (((repGet s).2.2.2.2.1).ig)], .int .i64 ((repGet s).2.2.2.2.2)] ∧ L' = [win strTy 9 A1 c1 ((repGet s).2.2.2.1)] ∧ I' = []) := by
 have z0 : (⟨#[]⟩ : ByteArray).size = 0 := rfl
 have gU := up3_rest s
 refine fn_of Tryz.func18 rfl Tryz.ntmps18 (by kernel_rfl) rfl (fun C => ?_)
 refine c_seq (c_region ?_)
 refine st rfl (o_box (cs := [.int .i64 0, .int .i64 0, .string (⟨#[]⟩ : ByteArray), .slice none 0 0, .int .i64 0, .int .u64 0, .int .i64 0]) (T := 39) rfl rfl rfl rfl (fun _ => by kernel_rfl) (fun b1 => ?_))
 refine s_y rfl (v := .int .i64 0) (y_as rfl) rfl ?_
 refine s_nil (q_then (c_seq (c_region ?_)))
 refine st rfl (o_lit (cs := [.int .i64 2, .int .i64 4, .int .i64 2]) (T := 3) (m := 3) rfl rfl rfl rfl (fun _ => by kernel_rfl) (fun b2 => ?_))
 refine s_y rfl (v := .string s) (y_mv rfl) rfl ?_
 refine e_calm 0 rfl ?_
 refine e_lit intTy [2, 4, 2] 0 rfl rfl (by simp) ?_
 refine st rfl (o_call [] [0] (rUnpack_ (some ⟨b2, 0, none⟩) 3 [2, 4, 2] s (by omega) (by first | assumption | omega | (simp; done))) rfl rfl rfl rfl rfl rfl (fun v L' I' hq1 => ?_))
 obtain ⟨A1, c1, rfl, rfl, rfl⟩ := hq1
 refine s_y rfl (v := .tuple #[.slice A1 ((unpackF [2, 4, 2] s).1).length c1, .string ((unpackF [2, 4, 2] s).2.1), .int .i64 ((unpackF [2, 4, 2] s).2.2)]) (y_mv rfl) rfl ?_
 refine s_y rfl (v := .slice A1 ((unpackF [2, 4, 2] s).1).length c1) (y_k rfl rfl (fun _ => by kernel_rfl)) rfl ?_
 refine s_y rfl (v := .string ((unpackF [2, 4, 2] s).2.1)) (y_k rfl rfl (fun _ => by kernel_rfl)) rfl ?_
 refine s_y rfl (v := .int .i64 ((unpackF [2, 4, 2] s).2.2)) (y_k rfl rfl (fun _ => by kernel_rfl)) rfl ?_
 refine s_y rfl (v := .slice A1 ((unpackF [2, 4, 2] s).1).length c1) (y_as rfl) rfl ?_
 refine s_y rfl (v := .string ((unpackF [2, 4, 2] s).2.1)) (y_as rfl) rfl ?_
 refine s_y rfl (v := .int .i64 ((unpackF [2, 4, 2] s).2.2)) (y_as rfl) rfl ?_
 refine s_nil (q_then (c_seq (c_seq (c_region ?_))))
 refine s_y rfl (v := .int .i64 ((unpackF [2, 4, 2] s).2.2)) (y_mv rfl) rfl ?_
 refine e_by ((unpackF [2, 4, 2] s).2.2 = 0) (fun h1 => ?_) (fun h1 => ?_)
 ·
  refine s_y rfl (v := .bool false) (y_nt (y_k (v := .bool (!decide ((unpackF [2, 4, 2] s).2.2 = 0))) rfl rfl (fun _ => by kernel_rfl)) h1) rfl ?_
  refine s_y rfl (v := .bool false) (y_mv rfl) rfl ?_
  refine st_on 27 rfl rfl rfl (o_y (v := .string ((unpackF [2, 4, 2] s).2.1)) (y_mv rfl) rfl rfl rfl ?_)
  refine st_on 27 rfl rfl rfl (o_y (v := .int .i64 (((unpackF [2, 4, 2] s).2.1).size : Int)) (y_k rfl rfl (fun _ => by kernel_rfl)) rfl rfl rfl ?_)
  refine st_on 27 rfl rfl rfl (o_y (v := .int .u64 (((unpackF [2, 4, 2] s).2.1).size : Int)) (y_cvi (r := (((unpackF [2, 4, 2] s).2.1).size : Int)) rfl Tryz.underlying3 Tryz.underlying22 (u64_in (by omega) (by omega))) rfl rfl rfl ?_)
  refine st_on 27 rfl rfl rfl (o_y (v := .slice A1 ((unpackF [2, 4, 2] s).1).length c1) (y_mv rfl) rfl rfl rfl ?_)
  obtain ⟨x1, hx1⟩ : ∃ x, ((unpackF [2, 4, 2] s).1)[2]? = some x := ⟨_, List.getElem?_eq_getElem (by have h3_ : (unpackF [2, 4, 2] s).1.length = 3 := up3_len (by assumption); omega)⟩
  refine e_winb 0 rfl (by have h3_ : (unpackF [2, 4, 2] s).1.length = 3 := up3_len (by assumption); omega) (fun b3 o1 hA1 => ?_)
  refine st_on 27 rfl rfl rfl (o_y (v := .pointer (some ⟨b3, o1 + 2 * 1, none⟩)) (y_at (d := u64Ty) (l := (unpackF [2, 4, 2] s).1) 2 hA1 rfl rfl rfl (rfl) (by have h3_ : (unpackF [2, 4, 2] s).1.length = 3 := up3_len (by assumption); omega) Tryz.underlying82 (by kernel_rfl) (by kernel_rfl)) rfl rfl rfl ?_)
  refine st_on 27 rfl rfl rfl (o_ldw (d := u64Ty) (j := 0) 0 2 rfl hA1 hx1 rfl rfl Tryz.underlying22 rfl rfl ?_)
  refine e_by ((((unpackF [2, 4, 2] s).2.1).size : Int) < (x1 : Int)) (fun h2 => ?_) (fun h2 => ?_)
  ·
   refine st_on 27 rfl rfl rfl (o_y (v := .bool true) (y_t (y_k (v := .bool (decide ((((unpackF [2, 4, 2] s).2.1).size : Int) < (x1 : Int)))) rfl rfl (fun _ => by kernel_rfl)) h2) rfl rfl rfl ?_)
   refine s_y rfl (v := .bool true) (y_pick rfl rfl) rfl ?_
   refine s_y rfl (v := .bool true) (y_mv rfl) rfl ?_
   refine st_off 36 rfl rfl rfl rfl rfl rfl ?_
   refine st_off 36 rfl rfl rfl rfl rfl rfl ?_
   refine st_off 36 rfl rfl rfl rfl rfl rfl ?_
   refine s_y rfl (v := .bool true) (y_pick rfl rfl) rfl ?_
   refine s_nil (q_then (c_true rfl (c_seq (c_region ?_))))
   refine s_y rfl (v := .agg #[.int .i64 0, .int .i64 0, .string (⟨#[]⟩ : ByteArray), .slice none 0 0, .int .i64 0, .int .u64 0, .int .i64 0]) (y_k rfl rfl (fun _ => by kernel_rfl)) rfl ?_
   refine st rfl (o_st 1 rfl rfl rfl rfl rfl (by kernel_rfl) (by kernel_rfl) rfl ?_)
   refine s_y rfl (v := .int .i64 171) (y_as rfl) rfl ?_
   refine s_nil (q_then (c_ret (q_then_ret ?_)))
   refine e_nil strTy 9 ?_
   refine e_weak 0 rfl (fun _ h => h.win) ?_
   have hp : repGet s = (0, 0, (⟨#[]⟩ : ByteArray), [], (⟨0, 0, 0⟩ : Lab), 171) := by first | exact rv_n h1 hx1 (by omega) | exact rv_s (by omega)
   refine c_fin (I' := []) [0] [] rfl (.agg 2 7 rfl rfl rfl rfl Tryz.underlying39 rfl (by kernel_rfl) (by kernel_rfl) (.tmp rfl .nil)) rfl rfl rfl ?_
   rw [hp]
   exact ⟨_, _, rfl, rfl, rfl⟩
  ·
   refine st_on 27 rfl rfl rfl (o_y (v := .bool false) (y_f (y_k (v := .bool (decide ((((unpackF [2, 4, 2] s).2.1).size : Int) < (x1 : Int)))) rfl rfl (fun _ => by kernel_rfl)) h2) rfl rfl rfl ?_)
   refine s_y rfl (v := .bool false) (y_pick rfl rfl) rfl ?_
   refine s_y rfl (v := .bool false) (y_mv rfl) rfl ?_
   refine st_on 36 rfl rfl rfl (o_y (v := .string s) (y_mv rfl) rfl rfl rfl ?_)
   refine st_on 36 rfl rfl rfl (o_y (v := .int .i64 (s.size : Int)) (y_k rfl rfl (fun _ => by kernel_rfl)) rfl rfl rfl ?_)
   refine e_by ((s.size : Int) > 2000) (fun h3 => ?_) (fun h3 => ?_)
   ·
    refine st_on 36 rfl rfl rfl (o_y (v := .bool true) (y_t (y_k (v := .bool (decide ((s.size : Int) > 2000))) rfl rfl (fun _ => by kernel_rfl)) h3) rfl rfl rfl ?_)
    refine s_y rfl (v := .bool true) (y_pick rfl rfl) rfl ?_
    refine s_nil (q_then (c_true rfl (c_seq (c_region ?_))))
    refine s_y rfl (v := .agg #[.int .i64 0, .int .i64 0, .string (⟨#[]⟩ : ByteArray), .slice none 0 0, .int .i64 0, .int .u64 0, .int .i64 0]) (y_k rfl rfl (fun _ => by kernel_rfl)) rfl ?_
    refine st rfl (o_st 1 rfl rfl rfl rfl rfl (by kernel_rfl) (by kernel_rfl) rfl ?_)
    refine s_y rfl (v := .int .i64 171) (y_as rfl) rfl ?_
    refine s_nil (q_then (c_ret (q_then_ret ?_)))
    refine e_nil strTy 9 ?_
    refine e_weak 0 rfl (fun _ h => h.win) ?_
    have hp : repGet s = (0, 0, (⟨#[]⟩ : ByteArray), [], (⟨0, 0, 0⟩ : Lab), 171) := by first | exact rv_n h1 hx1 (by omega) | exact rv_s (by omega)
    refine c_fin (I' := []) [0] [] rfl (.agg 2 7 rfl rfl rfl rfl Tryz.underlying39 rfl (by kernel_rfl) (by kernel_rfl) (.tmp rfl .nil)) rfl rfl rfl ?_
    rw [hp]
    exact ⟨_, _, rfl, rfl, rfl⟩
   ·
    refine st_on 36 rfl rfl rfl (o_y (v := .bool false) (y_f (y_k (v := .bool (decide ((s.size : Int) > 2000))) rfl rfl (fun _ => by kernel_rfl)) h3) rfl rfl rfl ?_)
    refine s_y rfl (v := .bool false) (y_pick rfl rfl) rfl ?_
    refine s_nil (q_then (c_false rfl (c_skip (q_then (c_seq ?_)))))
    refine e_stillw 0 rfl ?_
    refine e_at 0 0 rfl (by have h3_ : (unpackF [2, 4, 2] s).1.length = 3 := up3_len (by assumption); omega) (fun b4 o2 x2 hA2 hx2 => ?_)
    refine e_at 1 1 rfl (by have h3_ : (unpackF [2, 4, 2] s).1.length = 3 := up3_len (by assumption); omega) (fun b5 o3 x3 hA3 hx3 => ?_)
    refine e_at 2 2 rfl (by have h3_ : (unpackF [2, 4, 2] s).1.length = 3 := up3_len (by assumption); omega) (fun b6 o4 x4 hA4 hx4 => ?_)
    refine c_draw (l := ticked 16 0) [(⟨b4, o2 + 0 * 1, none⟩, .int .u64 (x2 : Int)), (⟨b5, o3 + 1 * 1, none⟩, .int .u64 (x3 : Int)), (⟨b6, o4 + 2 * 1, none⟩, .int .u64 (x4 : Int))] [] (by kernel_rfl) rfl rfl ?_
    refine b_y (i := 0) (v := .slice A1 ((unpackF [2, 4, 2] s).1).length c1) (ticked 16 1) rfl rfl (by exact y_mv rfl) ?_
    refine b_y (i := 1) (v := .pointer (some ⟨b4, o2 + 0 * 1, none⟩)) (ticked 16 3) rfl rfl (by exact y_at (d := u64Ty) (l := (unpackF [2, 4, 2] s).1) 0 hA2 rfl rfl rfl (rfl) (List.getElem?_eq_some_iff.1 hx2).1 Tryz.underlying82 (by kernel_rfl) (by kernel_rfl)) ?_
    refine b_y (i := 4) (v := .slice A1 ((unpackF [2, 4, 2] s).1).length c1) (ticked 16 19) rfl rfl (by exact y_mv rfl) ?_
    refine b_y (i := 5) (v := .pointer (some ⟨b5, o3 + 1 * 1, none⟩)) (ticked 16 51) rfl rfl (by exact y_at (d := u64Ty) (l := (unpackF [2, 4, 2] s).1) 1 hA3 rfl rfl rfl (rfl) (List.getElem?_eq_some_iff.1 hx3).1 Tryz.underlying82 (by kernel_rfl) (by kernel_rfl)) ?_
    refine b_y (i := 8) (v := .string ((unpackF [2, 4, 2] s).2.1)) (ticked 16 307) rfl rfl (by exact y_mv rfl) ?_
    refine b_y (i := 9) (v := .slice A1 ((unpackF [2, 4, 2] s).1).length c1) (ticked 16 819) rfl rfl (by exact y_mv rfl) ?_
    refine b_y (i := 10) (v := .pointer (some ⟨b6, o4 + 2 * 1, none⟩)) (ticked 16 1843) rfl rfl (by exact y_at (d := u64Ty) (l := (unpackF [2, 4, 2] s).1) 2 hA4 rfl rfl rfl (rfl) (List.getElem?_eq_some_iff.1 hx4).1 Tryz.underlying82 (by kernel_rfl) (by kernel_rfl)) ?_
    refine a_held (i := 2) (ticked 16 1847) rfl (by as_aux_lemma => kernel_rfl) rfl rfl rfl (held_fact (j := 0) 2 rfl rfl (held_fact (j := 0) 1 rfl rfl (held_fact (j := 0) 0 rfl rfl held_nil))) (h_ld 0 rfl rfl Tryz.underlying22 rfl) ?_
    refine b_y (i := 3) (v := .int .i64 (x2 : Int)) (ticked 16 1855) rfl rfl (by exact y_cvi (r := (x2 : Int)) rfl Tryz.underlying22 Tryz.underlying29 (wrap_in (by omega) (by have q_ := up3_sm h1 hx2; omega))) ?_
    refine a_held (i := 6) (ticked 16 1919) rfl (by as_aux_lemma => kernel_rfl) rfl rfl rfl (held_fact (j := 0) 2 rfl rfl (held_fact (j := 0) 1 rfl rfl (held_fact (j := 0) 0 rfl rfl held_nil))) (h_ld 1 rfl rfl Tryz.underlying22 rfl) ?_
    refine b_y (i := 7) (v := .int .i64 (x3 : Int)) (ticked 16 2047) rfl rfl (by exact y_cvi (r := (x3 : Int)) rfl Tryz.underlying22 Tryz.underlying3 (wrap_in (by omega) (by have q_ := up3_sm h1 hx3; omega))) ?_
    refine a_held (i := 11) (ticked 16 4095) rfl (by as_aux_lemma => kernel_rfl) rfl rfl rfl (held_fact (j := 0) 2 rfl rfl (held_fact (j := 0) 1 rfl rfl (held_fact (j := 0) 0 rfl rfl held_nil))) (h_ld 2 rfl rfl Tryz.underlying22 rfl) ?_
    refine b_y (i := 12) (v := .string (((unpackF [2, 4, 2] s).2.1).extract 0 x4)) (ticked 16 8191) rfl rfl (by exact y_cuts 0 x4 rfl .no (.at x4 rfl (rfl)) Tryz.underlying9 (by have ex4_ : x4 = x1 := Option.some.inj (hx4.symm.trans hx1); omega) (by have ex4_ : x4 = x1 := Option.some.inj (hx4.symm.trans hx1); omega)) ?_
    refine b_y (i := 13) (v := .agg #[.int .i64 (x2 : Int), .int .i64 (x3 : Int), .string (((unpackF [2, 4, 2] s).2.1).extract 0 x4), .slice none 0 0, .int .i64 0, .int .u64 0, .int .i64 0]) (ticked 16 16383) rfl rfl (by exact y_k rfl rfl (fun _ => by kernel_rfl)) ?_
    refine a_each (rs := [14]) (by as_aux_lemma => kernel_rfl) (.cons (ticked 16 32767) rfl rfl rfl (o_box (cs := [.int .i64 0, .int .i64 0, .string (⟨#[]⟩ : ByteArray), .slice none 0 0, .int .i64 0, .int .u64 0, .int .i64 0]) (T := 39) rfl rfl rfl rfl (fun _ => by kernel_rfl) (fun b7 => ?_)) .nil) (List.cons_ne_nil _ _)
    refine a_and (held_fact (j := 0) 2 rfl rfl (held_fact (j := 0) 1 rfl rfl (held_fact (j := 0) 0 rfl rfl held_nil))) ?_
    refine a_each (rs := [15]) (by as_aux_lemma => kernel_rfl) (.cons (ticked 16 65535) rfl rfl rfl (o_st 0 rfl rfl rfl rfl rfl (by kernel_rfl) (by kernel_rfl) rfl ?_) .nil) (List.cons_ne_nil _ _)
    refine a_and (held_fact (j := 0) 2 rfl rfl (held_fact (j := 0) 1 rfl rfl (held_fact (j := 0) 0 rfl rfl held_nil))) ?_
    refine a_done (by as_aux_lemma => kernel_rfl) ?_
    refine q_then (c_seq (c_region ?_))
    refine s_y rfl (v := .string ((unpackF [2, 4, 2] s).2.1)) (y_mv rfl) rfl ?_
    refine s_y rfl (v := .slice A1 ((unpackF [2, 4, 2] s).1).length c1) (y_mv rfl) rfl ?_
    refine s_y rfl (v := .pointer (some ⟨b6, o4 + 2 * 1, none⟩)) (y_at (d := u64Ty) (l := (unpackF [2, 4, 2] s).1) 2 hA4 rfl rfl rfl (rfl) (List.getElem?_eq_some_iff.1 hx4).1 Tryz.underlying82 (by kernel_rfl) (by kernel_rfl)) rfl ?_
    refine st rfl (o_ldf 0 0 rfl rfl rfl Tryz.underlying22 rfl rfl ?_)
    refine s_y rfl (v := .string (((unpackF [2, 4, 2] s).2.1).extract x4 (((unpackF [2, 4, 2] s).2.1).size))) (y_cuts x4 (((unpackF [2, 4, 2] s).2.1).size) rfl (.at x4 rfl (rfl)) .no Tryz.underlying9 (by have ex4_ : x4 = x1 := Option.some.inj (hx4.symm.trans hx1); omega) (by have ex4_ : x4 = x1 := Option.some.inj (hx4.symm.trans hx1); omega)) rfl ?_
    refine st rfl (o_call [] [] (rGet_ (1 : Int) (((unpackF [2, 4, 2] s).2.1).extract x4 (((unpackF [2, 4, 2] s).2.1).size)) (by simp only [ByteArray.size_extract]; omega)) rfl rfl rfl rfl rfl rfl (fun v L' I' hq2 => ?_))
    obtain ⟨rfl, rfl, rfl⟩ := hq2
    refine s_y rfl (v := .tuple #[.int .u64 ((getF (1 : Int) (((unpackF [2, 4, 2] s).2.1).extract x4 (((unpackF [2, 4, 2] s).2.1).size))).1 : Int), .string ((getF (1 : Int) (((unpackF [2, 4, 2] s).2.1).extract x4 (((unpackF [2, 4, 2] s).2.1).size))).2.1), .int .i64 ((getF (1 : Int) (((unpackF [2, 4, 2] s).2.1).extract x4 (((unpackF [2, 4, 2] s).2.1).size))).2.2)]) (y_mv rfl) rfl ?_
    refine s_y rfl (v := .int .u64 ((getF (1 : Int) (((unpackF [2, 4, 2] s).2.1).extract x4 (((unpackF [2, 4, 2] s).2.1).size))).1 : Int)) (y_k rfl rfl (fun _ => by kernel_rfl)) rfl ?_
    refine s_y rfl (v := .string ((getF (1 : Int) (((unpackF [2, 4, 2] s).2.1).extract x4 (((unpackF [2, 4, 2] s).2.1).size))).2.1)) (y_k rfl rfl (fun _ => by kernel_rfl)) rfl ?_
    refine s_y rfl (v := .int .i64 ((getF (1 : Int) (((unpackF [2, 4, 2] s).2.1).extract x4 (((unpackF [2, 4, 2] s).2.1).size))).2.2)) (y_k rfl rfl (fun _ => by kernel_rfl)) rfl ?_
    refine s_y rfl (v := .int .u64 ((getF (1 : Int) (((unpackF [2, 4, 2] s).2.1).extract x4 (((unpackF [2, 4, 2] s).2.1).size))).1 : Int)) (y_as rfl) rfl ?_
    refine s_y rfl (v := .string ((getF (1 : Int) (((unpackF [2, 4, 2] s).2.1).extract x4 (((unpackF [2, 4, 2] s).2.1).size))).2.1)) (y_as rfl) rfl ?_
    refine s_y rfl (v := .int .i64 ((getF (1 : Int) (((unpackF [2, 4, 2] s).2.1).extract x4 (((unpackF [2, 4, 2] s).2.1).size))).2.2)) (y_as rfl) rfl ?_
    refine s_nil (q_then (c_seq (c_seq (c_region ?_))))
    refine s_y rfl (v := .int .u64 0) (y_as rfl) rfl ?_
    refine s_nil (q_then (c_block ?_))
    refine e_nil strTy 9 ?_
    refine c_loopn (ι := Nat × ByteArray × Int × (Option Addr) × Nat × (List ByteArray)) (fun (k, o, f, A2, c2, l2) => (k ≤ (getF 1 ((unpackF [2, 4, 2] s).2.1.extract x4 (unpackF [2, 4, 2] s).2.1.size)).1) ∧ ((getF 1 ((unpackF [2, 4, 2] s).2.1.extract x4 (unpackF [2, 4, 2] s).2.1.size)).1 < 4294967296) ∧ (TKI s x4 k l2 o f) ∧ (l2.length = k) ∧ (o.size ≤ 100000)) (fun (k, o, f, A2, c2, l2) => [(2, .pointer (some ⟨b1, 0, none⟩)), (3, .int .i64 0), (7, .pointer (some ⟨b7, 0, none⟩)), (8, .int .u64 ((getF (1 : Int) (((unpackF [2, 4, 2] s).2.1).extract x4 (((unpackF [2, 4, 2] s).2.1).size))).1 : Int)), (9, .string o), (10, .int .i64 f), (11, .int .u64 (k : Int))]) (fun (k, o, f, A2, c2, l2) => [pt b7 [.int .i64 (x2 : Int), .int .i64 (x3 : Int), .string (((unpackF [2, 4, 2] s).2.1).extract 0 x4), .slice A2 l2.length c2, .int .i64 0, .int .u64 0, .int .i64 0] 39, pt b1 [.int .i64 0, .int .i64 0, .string (⟨#[]⟩ : ByteArray), .slice none 0 0, .int .i64 0, .int .u64 0, .int .i64 0] 39, ars strTy 9 A2 c2 l2]) (fun (k, o, f, A2, c2, l2) => [cellsAt b6 (o4 + 2 * 1) [.int .u64 (x4 : Int)], cellsAt b5 (o3 + 1 * 1) [.int .u64 (x3 : Int)], cellsAt b4 (o2 + 0 * 1) [.int .u64 (x2 : Int)], rd u64Ty A1 c1 ((unpackF [2, 4, 2] s).1), rd intTy (some ⟨b2, 0, none⟩) 3 [2, 4, 2], cellsAt b2 0 [.int .i64 2, .int .i64 4, .int .i64 2]]) (fun (k, o, f, A2, c2, l2) => (getF 1 ((unpackF [2, 4, 2] s).2.1.extract x4 (unpackF [2, 4, 2] s).2.1.size)).1 - k) (0, (getF (1 : Int) (((unpackF [2, 4, 2] s).2.1).extract x4 (((unpackF [2, 4, 2] s).2.1).size))).2.1, (getF (1 : Int) (((unpackF [2, 4, 2] s).2.1).extract x4 (((unpackF [2, 4, 2] s).2.1).size))).2.2, none, 0, []) [1, 1, 0] [0, 1, 2, 3, 4, 5] (show (0 ≤ (getF 1 ((unpackF [2, 4, 2] s).2.1.extract x4 (unpackF [2, 4, 2] s).2.1.size)).1) ∧ ((getF 1 ((unpackF [2, 4, 2] s).2.1.extract x4 (unpackF [2, 4, 2] s).2.1.size)).1 < 4294967296) ∧ (TKI s x4 0 [] ((getF (1 : Int) (((unpackF [2, 4, 2] s).2.1).extract x4 (((unpackF [2, 4, 2] s).2.1).size))).2.1) ((getF (1 : Int) (((unpackF [2, 4, 2] s).2.1).extract x4 (((unpackF [2, 4, 2] s).2.1).size))).2.2)) ∧ ([].length = 0) ∧ (((getF (1 : Int) (((unpackF [2, 4, 2] s).2.1).extract x4 (((unpackF [2, 4, 2] s).2.1).size))).2.1).size ≤ 100000) from ⟨by first | omega | simp_all | (simp; done), getF_small (by decide), rfl, rfl, by have q_ := getF_rest 1 ((unpackF [2, 4, 2] s).2.1.extract x4 (unpackF [2, 4, 2] s).2.1.size); have gU := up3_rest s; simp only [ByteArray.size_extract] at q_; omega⟩) ((.cons rfl rfl (.cons rfl rfl (.cons rfl rfl (.cons rfl rfl (.cons rfl rfl (.cons rfl rfl (.cons rfl rfl .nil)))))))) rfl rfl ?_
    rintro ⟨k, o, f, A2, c2, l2⟩ ⟨hk, hM, hT, hal, hz⟩
    show Ent 108 C [(2, .pointer (some ⟨b1, 0, none⟩)), (3, .int .i64 0), (7, .pointer (some ⟨b7, 0, none⟩)), (8, .int .u64 ((getF (1 : Int) (((unpackF [2, 4, 2] s).2.1).extract x4 (((unpackF [2, 4, 2] s).2.1).size))).1 : Int)), (9, .string o), (10, .int .i64 f), (11, .int .u64 (k : Int))] [] [pt b7 [.int .i64 (x2 : Int), .int .i64 (x3 : Int), .string (((unpackF [2, 4, 2] s).2.1).extract 0 x4), .slice A2 l2.length c2, .int .i64 0, .int .u64 0, .int .i64 0] 39, pt b1 [.int .i64 0, .int .i64 0, .string (⟨#[]⟩ : ByteArray), .slice none 0 0, .int .i64 0, .int .u64 0, .int .i64 0] 39, ars strTy 9 A2 c2 l2] [cellsAt b6 (o4 + 2 * 1) [.int .u64 (x4 : Int)], cellsAt b5 (o3 + 1 * 1) [.int .u64 (x3 : Int)], cellsAt b4 (o2 + 0 * 1) [.int .u64 (x2 : Int)], rd u64Ty A1 c1 ((unpackF [2, 4, 2] s).1), rd intTy (some ⟨b2, 0, none⟩) 3 [2, 4, 2], cellsAt b2 0 [.int .i64 2, .int .i64 4, .int .i64 2]] _
    refine c_seq (c_seq (c_region ?_))
    refine s_y rfl (v := .int .u64 (k : Int)) (y_mv rfl) rfl ?_
    refine s_y rfl (v := .int .u64 ((getF (1 : Int) (((unpackF [2, 4, 2] s).2.1).extract x4 (((unpackF [2, 4, 2] s).2.1).size))).1 : Int)) (y_mv rfl) rfl ?_
    refine e_by ((k : Int) < ((getF (1 : Int) (((unpackF [2, 4, 2] s).2.1).extract x4 (((unpackF [2, 4, 2] s).2.1).size))).1 : Int)) (fun h4 => ?_) (fun h4 => ?_)
    ·
     refine s_y rfl (v := .bool true) (y_t (y_k (v := .bool (decide ((k : Int) < ((getF (1 : Int) (((unpackF [2, 4, 2] s).2.1).extract x4 (((unpackF [2, 4, 2] s).2.1).size))).1 : Int)))) rfl rfl (fun _ => by kernel_rfl)) h4) rfl ?_
     refine s_y rfl (v := .bool true) (y_mv rfl) rfl ?_
     refine st_on 69 rfl rfl rfl (o_y (v := .int .i64 f) (y_mv rfl) rfl rfl rfl ?_)
     refine e_by (f = 0) (fun h5 => ?_) (fun h5 => ?_)
     ·
      refine st_on 69 rfl rfl rfl (o_y (v := .bool true) (y_t (y_k (v := .bool (decide (f = 0))) rfl rfl (fun _ => by kernel_rfl)) h5) rfl rfl rfl ?_)
      refine s_y rfl (v := .bool true) (y_pick rfl rfl) rfl ?_
      refine s_nil (q_then (c_true rfl (c_skip (q_then (c_seq (c_block (c_seq (c_region ?_))))))))
      refine s_y rfl (v := .string o) (y_mv rfl) rfl ?_
      refine st rfl (o_call [] [] (rGetText_ o (by omega)) rfl rfl rfl rfl rfl rfl (fun v L' I' hq3 => ?_))
      obtain ⟨rfl, rfl, rfl⟩ := hq3
      refine s_y rfl (v := .tuple #[.string ((textF o).1), .string ((textF o).2.1), .int .i64 ((textF o).2.2)]) (y_mv rfl) rfl ?_
      refine s_y rfl (v := .string ((textF o).1)) (y_k rfl rfl (fun _ => by kernel_rfl)) rfl ?_
      refine s_y rfl (v := .string ((textF o).2.1)) (y_k rfl rfl (fun _ => by kernel_rfl)) rfl ?_
      refine s_y rfl (v := .int .i64 ((textF o).2.2)) (y_k rfl rfl (fun _ => by kernel_rfl)) rfl ?_
      refine s_y rfl (v := .string ((textF o).1)) (y_as rfl) rfl ?_
      refine s_y rfl (v := .string ((textF o).2.1)) (y_as rfl) rfl ?_
      refine s_y rfl (v := .int .i64 ((textF o).2.2)) (y_as rfl) rfl ?_
      refine s_nil (q_then (c_seq (c_region ?_)))
      refine s_y rfl (v := .pointer (some ⟨b7, 3, none⟩)) (y_k rfl rfl (fun _ => by kernel_rfl)) rfl ?_
      refine st rfl (o_ld 0 rfl rfl rfl Tryz.underlying37 rfl rfl ?_)
      refine s_y rfl (v := .string ((textF o).1)) (y_mv rfl) rfl ?_
      refine st rfl (o_lit (cs := [.string ((textF o).1)]) (T := 9) (m := 1) rfl rfl rfl rfl (fun _ => by kernel_rfl) (fun b8 => ?_))
      refine st rfl (o_app (l := l2) (us := [(textF o).1]) 3 rfl rfl rfl rfl rfl (src_pt 0 rfl) Tryz.underlying37 (elem_of (z := .string (⟨#[]⟩ : ByteArray)) (sz := 1) (bytes := 16) (by kernel_rfl) rfl) rfl (by simp only [List.length_cons, List.length_nil]; omega) rfl rfl (fun A2 c2 => ?_))
      refine s_y rfl (v := .pointer (some ⟨b7, 3, none⟩)) (y_k rfl rfl (fun _ => by kernel_rfl)) rfl ?_
      refine st rfl (o_st 1 rfl rfl rfl rfl rfl (by kernel_rfl) (by kernel_rfl) rfl ?_)
      refine s_nil (q_then (c_seq (c_region ?_)))
      refine s_y rfl (v := .string ((textF o).2.1)) (y_mv rfl) rfl ?_
      refine s_y rfl (v := .string ((textF o).2.1)) (y_as rfl) rfl ?_
      refine s_nil (q_then (c_region ?_))
      refine s_y rfl (v := .int .i64 ((textF o).2.2)) (y_mv rfl) rfl ?_
      refine s_y rfl (v := .int .i64 ((textF o).2.2)) (y_as rfl) rfl ?_
      refine s_nil (q_block (q_then (c_region ?_)))
      refine s_y rfl (v := .int .u64 (k : Int)) (y_mv rfl) rfl ?_
      refine s_y rfl (v := .int .u64 ((k + 1 : Nat) : Int)) (y_addu (a := k) (b := 1) rfl rfl (by omega)) rfl ?_
      refine s_y rfl (v := .int .u64 ((k + 1 : Nat) : Int)) (y_as rfl) rfl ?_
      refine s_nil (q_then ?_)
      refine c_next [1, 1, 1] [0, 1, 2, 3, 4, 5] (k + 1, (textF o).2.1, (textF o).2.2, A2, c2, l2 ++ [(textF o).1]) ?_ ?_ ?_ (by rfl) (by rfl)
      · exact (show ((k + 1) ≤ (getF 1 ((unpackF [2, 4, 2] s).2.1.extract x4 (unpackF [2, 4, 2] s).2.1.size)).1) ∧ ((getF 1 ((unpackF [2, 4, 2] s).2.1.extract x4 (unpackF [2, 4, 2] s).2.1.size)).1 < 4294967296) ∧ (TKI s x4 (k + 1) (l2 ++ [(textF o).1]) ((textF o).2.1) ((textF o).2.2)) ∧ ((l2 ++ [(textF o).1]).length = (k + 1)) ∧ (((textF o).2.1).size ≤ 100000) from ⟨by first | omega | simp_all | (simp; done), by first | omega | simp_all | (simp; done), rv_step hT (by assumption), by rw [List.length_append, List.length_singleton, hal], Nat.le_trans (textF_rst _) hz⟩)
      · show (getF 1 ((unpackF [2, 4, 2] s).2.1.extract x4 (unpackF [2, 4, 2] s).2.1.size)).1 - (k + 1) < (getF 1 ((unpackF [2, 4, 2] s).2.1.extract x4 (unpackF [2, 4, 2] s).2.1.size)).1 - k; omega
      · exact (.cons rfl rfl (.cons rfl rfl (.cons rfl rfl (.cons rfl rfl (.cons rfl rfl (.cons rfl rfl (.cons rfl (show (.int .u64 ((k + 1 : Nat) : Int) : Value) = .int .u64 ((k + 1) : Int) from by first | rfl | (congr 1; omega) | (congr 1; simp; done) | (congr 1; simp; omega)) .nil)))))))
     ·
      refine st_on 69 rfl rfl rfl (o_y (v := .bool false) (y_f (y_k (v := .bool (decide (f = 0))) rfl rfl (fun _ => by kernel_rfl)) h5) rfl rfl rfl ?_)
      refine s_y rfl (v := .bool false) (y_pick rfl rfl) rfl ?_
      refine s_nil (q_then (c_false rfl ?_))
      refine c_exit ?_
      refine q_then_exit ?_
      refine q_then_exit ?_
      refine q_block_here ?_
      refine q_then (c_seq (c_seq (c_region ?_)))
      refine s_y rfl (v := .int .i64 f) (y_mv rfl) rfl ?_
      have h6 : ¬ (f = 0) := h5
      refine s_y rfl (v := .bool true) (y_nf (y_k (v := .bool (!decide (f = 0))) rfl rfl (fun _ => by kernel_rfl)) h6) rfl ?_
      refine s_nil (q_then (c_true rfl (c_seq (c_region ?_))))
      refine s_y rfl (v := .agg #[.int .i64 0, .int .i64 0, .string (⟨#[]⟩ : ByteArray), .slice none 0 0, .int .i64 0, .int .u64 0, .int .i64 0]) (y_k rfl rfl (fun _ => by kernel_rfl)) rfl ?_
      refine st rfl (o_st 1 rfl rfl rfl rfl rfl (by kernel_rfl) (by kernel_rfl) rfl ?_)
      refine s_y rfl (v := .int .i64 171) (y_as rfl) rfl ?_
      refine s_nil (q_then (c_ret (q_then_ret ?_)))
      refine e_nil strTy 9 ?_
      refine e_weak 0 rfl (fun _ h => h.win) ?_
      have hp : repGet s = (0, 0, (⟨#[]⟩ : ByteArray), [], (⟨0, 0, 0⟩ : Lab), 171) := by (obtain rfl : x4 = x1 := Option.some.inj (hx4.symm.trans hx1); first | exact rv_g h1 hx1 hx2 hx3 (by omega) (by omega) hT (by omega) (by omega) (by assumption) (by assumption) (by assumption) | exact rv_f h1 hx1 hT (by omega) (by assumption) | exact rv_l h1 hx1 hT (by omega) (by omega) (by assumption) (by first | exact .inl (by assumption) | exact .inr (by assumption)))
      refine c_fin (I' := []) [0] [] rfl (.agg 2 7 rfl rfl rfl rfl Tryz.underlying39 rfl (by kernel_rfl) (by kernel_rfl) (.tmp rfl .nil)) rfl rfl rfl ?_
      rw [hp]
      exact ⟨_, _, rfl, rfl, rfl⟩
    ·
     refine s_y rfl (v := .bool false) (y_f (y_k (v := .bool (decide ((k : Int) < ((getF (1 : Int) (((unpackF [2, 4, 2] s).2.1).extract x4 (((unpackF [2, 4, 2] s).2.1).size))).1 : Int)))) rfl rfl (fun _ => by kernel_rfl)) h4) rfl ?_
     refine s_y rfl (v := .bool false) (y_mv rfl) rfl ?_
     refine st_off 69 rfl rfl rfl rfl rfl rfl ?_
     refine st_off 69 rfl rfl rfl rfl rfl rfl ?_
     refine s_y rfl (v := .bool false) (y_pick rfl rfl) rfl ?_
     refine s_nil (q_then (c_false rfl ?_))
     refine c_exit ?_
     refine q_then_exit ?_
     refine q_then_exit ?_
     refine q_block_here ?_
     refine q_then (c_seq (c_seq (c_region ?_)))
     refine s_y rfl (v := .int .i64 f) (y_mv rfl) rfl ?_
     refine e_by (f = 0) (fun h7 => ?_) (fun h7 => ?_)
     ·
      refine s_y rfl (v := .bool false) (y_nt (y_k (v := .bool (!decide (f = 0))) rfl rfl (fun _ => by kernel_rfl)) h7) rfl ?_
      refine s_nil (q_then (c_false rfl (c_skip (q_then (c_seq (c_region ?_))))))
      refine s_y rfl (v := .string o) (y_mv rfl) rfl ?_
      refine st rfl (o_call [] [] (rlGet_ o (by omega)) rfl rfl rfl rfl rfl rfl (fun v L' I' hq4 => ?_))
      obtain ⟨rfl, rfl, rfl⟩ := hq4
      refine s_y rfl (v := .tuple #[.agg #[.int .i64 (((labGet o).1).lv), .int .u64 (((labGet o).1).cs : Int), .int .i64 (((labGet o).1).ig)], .string ((labGet o).2.1), .int .i64 ((labGet o).2.2)]) (y_mv rfl) rfl ?_
      refine s_y rfl (v := .agg #[.int .i64 (((labGet o).1).lv), .int .u64 (((labGet o).1).cs : Int), .int .i64 (((labGet o).1).ig)]) (y_k rfl rfl (fun _ => by kernel_rfl)) rfl ?_
      refine s_y rfl (v := .string ((labGet o).2.1)) (y_k rfl rfl (fun _ => by kernel_rfl)) rfl ?_
      refine s_y rfl (v := .int .i64 ((labGet o).2.2)) (y_k rfl rfl (fun _ => by kernel_rfl)) rfl ?_
      refine st rfl (o_box (cs := [.int .i64 0, .int .u64 0, .int .i64 0]) (T := 24) rfl rfl rfl rfl (fun _ => by kernel_rfl) (fun b9 => ?_))
      refine st rfl (o_st 0 rfl rfl rfl rfl rfl (by kernel_rfl) (by kernel_rfl) rfl ?_)
      refine s_y rfl (v := .string ((labGet o).2.1)) (y_as rfl) rfl ?_
      refine s_y rfl (v := .int .i64 ((labGet o).2.2)) (y_as rfl) rfl ?_
      refine s_nil (q_then (c_seq (c_seq (c_region ?_))))
      refine s_y rfl (v := .int .i64 ((labGet o).2.2)) (y_mv rfl) rfl ?_
      refine e_by ((labGet o).2.2 = 0) (fun h8 => ?_) (fun h8 => ?_)
      ·
       refine s_y rfl (v := .bool false) (y_nt (y_k (v := .bool (!decide ((labGet o).2.2 = 0))) rfl rfl (fun _ => by kernel_rfl)) h8) rfl ?_
       refine s_y rfl (v := .bool false) (y_mv rfl) rfl ?_
       refine st_on 100 rfl rfl rfl (o_y (v := .string ((labGet o).2.1)) (y_mv rfl) rfl rfl rfl ?_)
       refine e_by ((labGet o).2.1 = (⟨#[]⟩ : ByteArray)) (fun h9 => ?_) (fun h9 => ?_)
       ·
        refine st_on 100 rfl rfl rfl (o_y (v := .bool false) (y_b (y_k (v := .bool (!(((labGet o).2.1).toList == (⟨#[]⟩ : ByteArray).toList))) rfl rfl (fun _ => by kernel_rfl)) (str_nt h9)) rfl rfl rfl ?_)
        refine s_y rfl (v := .bool false) (y_pick rfl rfl) rfl ?_
        refine s_nil (q_then (c_false rfl (c_skip (q_then (c_seq (c_region ?_))))))
        refine st rfl (o_ldn 0 3 rfl rfl rfl rfl Tryz.underlying24 rfl (by kernel_rfl) (by kernel_rfl) rfl ?_)
        refine s_y rfl (v := .pointer (some ⟨b7, 4, none⟩)) (y_k rfl rfl (fun _ => by kernel_rfl)) rfl ?_
        refine st rfl (o_st 1 rfl rfl rfl rfl rfl (by kernel_rfl) (by kernel_rfl) rfl ?_)
        refine s_nil (q_then (c_seq (c_region ?_)))
        refine st rfl (o_ldn 1 7 rfl rfl rfl rfl Tryz.underlying39 rfl (by kernel_rfl) (by kernel_rfl) rfl ?_)
        refine st rfl (o_st 2 rfl rfl rfl rfl rfl (by kernel_rfl) (by kernel_rfl) rfl ?_)
        refine s_y rfl (v := .int .i64 0) (y_as rfl) rfl ?_
        refine s_nil (q_then (c_ret ?_))
        refine e_weak 3 rfl (fun _ h => h.win) ?_
        have hp : repGet s = ((x2 : Int), (x3 : Int), ((unpackF [2, 4, 2] s).2.1).extract 0 x4, l2, (labGet o).1, 0) := by (obtain rfl : x4 = x1 := Option.some.inj (hx4.symm.trans hx1); first | exact rv_g h1 hx1 hx2 hx3 (by omega) (by omega) hT (by omega) (by omega) (by assumption) (by assumption) (by assumption) | exact rv_f h1 hx1 hT (by omega) (by assumption) | exact rv_l h1 hx1 hT (by omega) (by omega) (by assumption) (by first | exact .inl (by assumption) | exact .inr (by assumption)))
        refine c_fin (I' := []) [3] [] rfl (.agg 2 7 rfl rfl rfl rfl Tryz.underlying39 rfl (by kernel_rfl) (by kernel_rfl) (.tmp rfl .nil)) rfl rfl rfl ?_
        rw [hp]
        exact ⟨_, _, rfl, rfl, rfl⟩
       ·
        refine st_on 100 rfl rfl rfl (o_y (v := .bool true) (y_b (y_k (v := .bool (!(((labGet o).2.1).toList == (⟨#[]⟩ : ByteArray).toList))) rfl rfl (fun _ => by kernel_rfl)) (str_nf h9)) rfl rfl rfl ?_)
        refine s_y rfl (v := .bool true) (y_pick rfl rfl) rfl ?_
        refine s_nil (q_then (c_true rfl (c_seq (c_region ?_))))
        refine s_y rfl (v := .agg #[.int .i64 0, .int .i64 0, .string (⟨#[]⟩ : ByteArray), .slice none 0 0, .int .i64 0, .int .u64 0, .int .i64 0]) (y_k rfl rfl (fun _ => by kernel_rfl)) rfl ?_
        refine st rfl (o_st 2 rfl rfl rfl rfl rfl (by kernel_rfl) (by kernel_rfl) rfl ?_)
        refine s_y rfl (v := .int .i64 171) (y_as rfl) rfl ?_
        refine s_nil (q_then (c_ret (q_then_ret ?_)))
        refine e_nil strTy 9 ?_
        refine e_weak 0 rfl (fun _ h => h.win) ?_
        have hp : repGet s = (0, 0, (⟨#[]⟩ : ByteArray), [], (⟨0, 0, 0⟩ : Lab), 171) := by (obtain rfl : x4 = x1 := Option.some.inj (hx4.symm.trans hx1); first | exact rv_g h1 hx1 hx2 hx3 (by omega) (by omega) hT (by omega) (by omega) (by assumption) (by assumption) (by assumption) | exact rv_f h1 hx1 hT (by omega) (by assumption) | exact rv_l h1 hx1 hT (by omega) (by omega) (by assumption) (by first | exact .inl (by assumption) | exact .inr (by assumption)))
        refine c_fin (I' := []) [0] [] rfl (.agg 3 7 rfl rfl rfl rfl Tryz.underlying39 rfl (by kernel_rfl) (by kernel_rfl) (.tmp rfl .nil)) rfl rfl rfl ?_
        rw [hp]
        exact ⟨_, _, rfl, rfl, rfl⟩
      ·
       refine s_y rfl (v := .bool true) (y_nf (y_k (v := .bool (!decide ((labGet o).2.2 = 0))) rfl rfl (fun _ => by kernel_rfl)) h8) rfl ?_
       refine s_y rfl (v := .bool true) (y_mv rfl) rfl ?_
       refine st_off 100 rfl rfl rfl rfl rfl rfl ?_
       refine st_off 100 rfl rfl rfl rfl rfl rfl ?_
       refine s_y rfl (v := .bool true) (y_pick rfl rfl) rfl ?_
       refine s_nil (q_then (c_true rfl (c_seq (c_region ?_))))
       refine s_y rfl (v := .agg #[.int .i64 0, .int .i64 0, .string (⟨#[]⟩ : ByteArray), .slice none 0 0, .int .i64 0, .int .u64 0, .int .i64 0]) (y_k rfl rfl (fun _ => by kernel_rfl)) rfl ?_
       refine st rfl (o_st 2 rfl rfl rfl rfl rfl (by kernel_rfl) (by kernel_rfl) rfl ?_)
       refine s_y rfl (v := .int .i64 171) (y_as rfl) rfl ?_
       refine s_nil (q_then (c_ret (q_then_ret ?_)))
       refine e_nil strTy 9 ?_
       refine e_weak 0 rfl (fun _ h => h.win) ?_
       have hp : repGet s = (0, 0, (⟨#[]⟩ : ByteArray), [], (⟨0, 0, 0⟩ : Lab), 171) := by (obtain rfl : x4 = x1 := Option.some.inj (hx4.symm.trans hx1); first | exact rv_g h1 hx1 hx2 hx3 (by omega) (by omega) hT (by omega) (by omega) (by assumption) (by assumption) (by assumption) | exact rv_f h1 hx1 hT (by omega) (by assumption) | exact rv_l h1 hx1 hT (by omega) (by omega) (by assumption) (by first | exact .inl (by assumption) | exact .inr (by assumption)))
       refine c_fin (I' := []) [0] [] rfl (.agg 3 7 rfl rfl rfl rfl Tryz.underlying39 rfl (by kernel_rfl) (by kernel_rfl) (.tmp rfl .nil)) rfl rfl rfl ?_
       rw [hp]
       exact ⟨_, _, rfl, rfl, rfl⟩
     ·
      refine s_y rfl (v := .bool true) (y_nf (y_k (v := .bool (!decide (f = 0))) rfl rfl (fun _ => by kernel_rfl)) h7) rfl ?_
      refine s_nil (q_then (c_true rfl (c_seq (c_region ?_))))
      refine s_y rfl (v := .agg #[.int .i64 0, .int .i64 0, .string (⟨#[]⟩ : ByteArray), .slice none 0 0, .int .i64 0, .int .u64 0, .int .i64 0]) (y_k rfl rfl (fun _ => by kernel_rfl)) rfl ?_
      refine st rfl (o_st 1 rfl rfl rfl rfl rfl (by kernel_rfl) (by kernel_rfl) rfl ?_)
      refine s_y rfl (v := .int .i64 171) (y_as rfl) rfl ?_
      refine s_nil (q_then (c_ret (q_then_ret ?_)))
      refine e_nil strTy 9 ?_
      refine e_weak 0 rfl (fun _ h => h.win) ?_
      have hp : repGet s = (0, 0, (⟨#[]⟩ : ByteArray), [], (⟨0, 0, 0⟩ : Lab), 171) := by (obtain rfl : x4 = x1 := Option.some.inj (hx4.symm.trans hx1); first | exact rv_g h1 hx1 hx2 hx3 (by omega) (by omega) hT (by omega) (by omega) (by assumption) (by assumption) (by assumption) | exact rv_f h1 hx1 hT (by omega) (by assumption) | exact rv_l h1 hx1 hT (by omega) (by omega) (by assumption) (by first | exact .inl (by assumption) | exact .inr (by assumption)))
      refine c_fin (I' := []) [0] [] rfl (.agg 2 7 rfl rfl rfl rfl Tryz.underlying39 rfl (by kernel_rfl) (by kernel_rfl) (.tmp rfl .nil)) rfl rfl rfl ?_
      rw [hp]
      exact ⟨_, _, rfl, rfl, rfl⟩
 ·
  refine s_y rfl (v := .bool true) (y_nf (y_k (v := .bool (!decide ((unpackF [2, 4, 2] s).2.2 = 0))) rfl rfl (fun _ => by kernel_rfl)) h1) rfl ?_
  refine s_y rfl (v := .bool true) (y_mv rfl) rfl ?_
  refine st_off 27 rfl rfl rfl rfl rfl rfl ?_
  refine st_off 27 rfl rfl rfl rfl rfl rfl ?_
  refine st_off 27 rfl rfl rfl rfl rfl rfl ?_
  refine st_off 27 rfl rfl rfl rfl rfl rfl ?_
  refine st_off 27 rfl rfl rfl rfl rfl rfl ?_
  refine st_off 27 rfl rfl rfl rfl rfl rfl ?_
  refine st_off 27 rfl rfl rfl rfl rfl rfl ?_
  refine s_y rfl (v := .bool true) (y_pick rfl rfl) rfl ?_
  refine s_y rfl (v := .bool true) (y_mv rfl) rfl ?_
  refine st_off 36 rfl rfl rfl rfl rfl rfl ?_
  refine st_off 36 rfl rfl rfl rfl rfl rfl ?_
  refine st_off 36 rfl rfl rfl rfl rfl rfl ?_
  refine s_y rfl (v := .bool true) (y_pick rfl rfl) rfl ?_
  refine s_nil (q_then (c_true rfl (c_seq (c_region ?_))))
  refine s_y rfl (v := .agg #[.int .i64 0, .int .i64 0, .string (⟨#[]⟩ : ByteArray), .slice none 0 0, .int .i64 0, .int .u64 0, .int .i64 0]) (y_k rfl rfl (fun _ => by kernel_rfl)) rfl ?_
  refine st rfl (o_st 1 rfl rfl rfl rfl rfl (by kernel_rfl) (by kernel_rfl) rfl ?_)
  refine s_y rfl (v := .int .i64 171) (y_as rfl) rfl ?_
  refine s_nil (q_then (c_ret (q_then_ret ?_)))
  refine e_nil strTy 9 ?_
  refine e_weak 0 rfl (fun _ h => h.win) ?_
  have hp : repGet s = (0, 0, (⟨#[]⟩ : ByteArray), [], (⟨0, 0, 0⟩ : Lab), 171) := by first | exact rv_e (by assumption) | exact rv_s (by omega)
  refine c_fin (I' := []) [0] [] rfl (.agg 2 7 rfl rfl rfl rfl Tryz.underlying39 rfl (by kernel_rfl) (by kernel_rfl) (.tmp rfl .nil)) rfl rfl rfl ?_
  rw [hp]
  exact ⟨_, _, rfl, rfl, rfl⟩
end Go.Proofs.YtcnncdniibkjkaaGreatDoor
