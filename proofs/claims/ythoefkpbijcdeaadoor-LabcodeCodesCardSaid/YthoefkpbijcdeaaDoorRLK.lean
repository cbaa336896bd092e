/- The laws of chapter 4 (labcode), walked over the given program; no condition but what stands in each theorem: part LK. -/
import Derived.Test.YthoefkpbijcdeaaDoorRLJ
set_option linter.unusedVariables false
set_option linter.unusedSimpArgs false
set_option maxRecDepth 100000
set_option maxHeartbeats 8000000
namespace Go.Proofs.YthoefkpbijcdeaaDoor
open Go Go.Sl Go.RowKit Go.Extern.Stop Go.Stop Go.Extern
theorem rlPutRange_ (a : Lab) (b : Lab) (h6a : lab64 a) (h6b : lab64 b) : Con Tryd.prog 22 [.agg #[.int .i64 a.lv, .int .u64 (a.cs : Int), .int .i64 a.ig], .agg #[.int .i64 b.lv, .int .u64 (b.cs : Int), .int .i64 b.ig]] [] [] (fun v L' I' => v = .tuple #[.string ((rangeF a b).1), .int .i64 ((rangeF a b).2)] ∧ L' = [] ∧ I' = []) := by
  refine fn_of Tryd.func22 rfl Tryd.ntmps22 (by kernel_rfl) rfl (fun C => ?_)
  refine c_seq ?_
  refine c_region ?_
  refine st rfl (o_box (cs := [.int .i64 a.lv, .int .u64 (a.cs : Int), .int .i64 a.ig]) (T := 24) rfl rfl rfl rfl (fun _ => by kernel_rfl) (fun b1 => ?_))
  refine st rfl (o_box (cs := [.int .i64 b.lv, .int .u64 (b.cs : Int), .int .i64 b.ig]) (T := 24) rfl rfl rfl rfl (fun _ => by kernel_rfl) (fun b2 => ?_))
  refine st rfl (o_y (v := .string (⟨#[]⟩ : ByteArray)) (y_as rfl) rfl rfl rfl ?_)
  refine st rfl (o_y (v := .int .i64 0) (y_as rfl) rfl rfl rfl ?_)
  refine s_nil ?_
  refine q_then ?_
  refine c_seq ?_
  refine c_region ?_
  refine st rfl (o_ldn 1 3 rfl rfl rfl rfl Tryd.underlying24 rfl (by kernel_rfl) (by kernel_rfl) rfl ?_)
  refine st rfl (o_call [] [] (rlPut_ a (by first | assumption | exact (by assumption : ∀ x ∈ _, lab64 x) _ (List.mem_of_getElem? (by assumption)) | decide)) rfl rfl rfl rfl rfl rfl (fun v L' I' hq1 => ?_))
  obtain ⟨rfl, rfl, rfl⟩ := hq1
  refine st rfl (o_y (v := .tuple #[.string ((putL a).1), .int .i64 ((putL a).2)]) (y_mv rfl) rfl rfl rfl ?_)
  refine st rfl (o_y (v := .string ((putL a).1)) (y_k rfl rfl (fun _ => by kernel_rfl)) rfl rfl rfl ?_)
  refine st rfl (o_y (v := .int .i64 ((putL a).2)) (y_k rfl rfl (fun _ => by kernel_rfl)) rfl rfl rfl ?_)
  refine st rfl (o_y (v := .string ((putL a).1)) (y_as rfl) rfl rfl rfl ?_)
  refine st rfl (o_y (v := .int .i64 ((putL a).2)) (y_as rfl) rfl rfl rfl ?_)
  refine s_nil ?_
  refine q_then ?_
  refine c_seq ?_
  refine c_region ?_
  refine st rfl (o_ldn 0 3 rfl rfl rfl rfl Tryd.underlying24 rfl (by kernel_rfl) (by kernel_rfl) rfl ?_)
  refine st rfl (o_call [] [] (rlPut_ b (by first | assumption | exact (by assumption : ∀ x ∈ _, lab64 x) _ (List.mem_of_getElem? (by assumption)) | decide)) rfl rfl rfl rfl rfl rfl (fun v L' I' hq2 => ?_))
  obtain ⟨rfl, rfl, rfl⟩ := hq2
  refine st rfl (o_y (v := .tuple #[.string ((putL b).1), .int .i64 ((putL b).2)]) (y_mv rfl) rfl rfl rfl ?_)
  refine st rfl (o_y (v := .string ((putL b).1)) (y_k rfl rfl (fun _ => by kernel_rfl)) rfl rfl rfl ?_)
  refine st rfl (o_y (v := .int .i64 ((putL b).2)) (y_k rfl rfl (fun _ => by kernel_rfl)) rfl rfl rfl ?_)
  refine st rfl (o_y (v := .string ((putL b).1)) (y_as rfl) rfl rfl rfl ?_)
  refine st rfl (o_y (v := .int .i64 ((putL b).2)) (y_as rfl) rfl rfl rfl ?_)
  refine s_nil ?_
  refine q_then ?_
  refine c_seq ?_
  refine c_seq ?_
  refine c_region ?_
  refine st rfl (o_y (v := .int .i64 ((putL a).2)) (y_mv rfl) rfl rfl rfl ?_)
  refine e_by ((putL a).2 = 0) (fun h1 => ?_) (fun h1 => ?_)
  ·
    refine st rfl (o_y (v := .bool false) (y_nt (y_k (v := .bool (!decide ((putL a).2 = 0))) rfl rfl (fun _ => by kernel_rfl)) h1) rfl rfl rfl ?_)
    refine st rfl (o_y (v := .bool false) (y_mv rfl) rfl rfl rfl ?_)
    refine st_on 22 rfl rfl rfl (o_y (v := .int .i64 ((putL b).2)) (y_mv rfl) rfl rfl rfl ?_)
    refine e_by ((putL b).2 = 0) (fun h2 => ?_) (fun h2 => ?_)
    ·
      refine st_on 22 rfl rfl rfl (o_y (v := .bool false) (y_nt (y_k (v := .bool (!decide ((putL b).2 = 0))) rfl rfl (fun _ => by kernel_rfl)) h2) rfl rfl rfl ?_)
      refine st rfl (o_y (v := .bool false) (y_pick rfl rfl) rfl rfl rfl ?_)
      refine s_nil ?_
      refine q_then ?_
      refine c_false rfl ?_
      refine c_skip ?_
      refine q_then ?_
      refine c_seq ?_
      refine c_seq ?_
      refine c_region ?_
      refine st rfl (o_ldn 1 3 rfl rfl rfl rfl Tryd.underlying24 rfl (by kernel_rfl) (by kernel_rfl) rfl ?_)
      refine st rfl (o_ldn 0 3 rfl rfl rfl rfl Tryd.underlying24 rfl (by kernel_rfl) (by kernel_rfl) rfl ?_)
      refine st rfl (o_call [] [] (rUnder_ a b (by first | assumption | decide | omega | omega) (by first | assumption | decide | omega | omega)) rfl rfl rfl rfl rfl rfl (fun v L' I' hq3 => ?_))
      obtain ⟨hv1, rfl, rfl⟩ := hq3
      refine e_by (labUnder a b) (fun h3 => ?_) (fun h3 => ?_)
      ·
        obtain rfl : v = .bool true := by rw [hv1, decide_eq_true h3]
        refine st rfl (o_y (v := .bool false) (y_k rfl rfl (fun _ => by kernel_rfl)) rfl rfl rfl ?_)
        refine s_nil ?_
        refine q_then ?_
        refine c_false rfl ?_
        refine c_skip ?_
        refine q_then ?_
        refine c_seq ?_
        refine c_region ?_
        refine st rfl (o_y (v := .string ((putL a).1)) (y_mv rfl) rfl rfl rfl ?_)
        refine st rfl (o_y (v := .string ((putL b).1)) (y_mv rfl) rfl rfl rfl ?_)
        refine st rfl (o_y (v := .string (((putL a).1) ++ ((putL b).1))) (y_cat (s := (putL a).1) (u := (putL b).1) rfl rfl (by have q1 := putL_size (a := a) (by assumption); have q2 := putL_size (a := b) (by assumption); omega)) rfl rfl rfl ?_)
        refine st rfl (o_y (v := .string (((putL a).1) ++ ((putL b).1))) (y_as rfl) rfl rfl rfl ?_)
        refine st rfl (o_y (v := .int .i64 0) (y_as rfl) rfl rfl rfl ?_)
        refine s_nil ?_
        refine q_then ?_
        refine c_ret ?_
        have hp : rangeF a b = (((putL a).1) ++ ((putL b).1), 0) := by first | exact rrange_no (.inl (by assumption)) | exact rrange_no (.inr (by assumption)) | exact rrange_code (by assumption) (by assumption) (by assumption) | exact rrange_ok (by assumption) (by assumption) (by assumption)
        refine c_fin (I' := []) [] [] rfl (.tmp rfl (.tmp rfl .nil)) rfl rfl rfl ?_
        rw [hp]
        exact ⟨rfl, rfl, rfl⟩
      ·
        obtain rfl : v = .bool false := by rw [hv1, decide_eq_false h3]
        refine st rfl (o_y (v := .bool true) (y_k rfl rfl (fun _ => by kernel_rfl)) rfl rfl rfl ?_)
        refine s_nil ?_
        refine q_then ?_
        refine c_true rfl ?_
        refine c_seq ?_
        refine c_region ?_
        refine st rfl (o_y (v := .string (⟨#[]⟩ : ByteArray)) (y_as rfl) rfl rfl rfl ?_)
        refine st rfl (o_y (v := .int .i64 40) (y_as rfl) rfl rfl rfl ?_)
        refine s_nil ?_
        refine q_then ?_
        refine c_ret ?_
        refine q_then_ret ?_
        have hp : rangeF a b = ((⟨#[]⟩ : ByteArray), 40) := by first | exact rrange_no (.inl (by assumption)) | exact rrange_no (.inr (by assumption)) | exact rrange_code (by assumption) (by assumption) (by assumption) | exact rrange_ok (by assumption) (by assumption) (by assumption)
        refine c_fin (I' := []) [] [] rfl (.tmp rfl (.tmp rfl .nil)) rfl rfl rfl ?_
        rw [hp]
        exact ⟨rfl, rfl, rfl⟩
    ·
      refine st_on 22 rfl rfl rfl (o_y (v := .bool true) (y_nf (y_k (v := .bool (!decide ((putL b).2 = 0))) rfl rfl (fun _ => by kernel_rfl)) h2) rfl rfl rfl ?_)
      refine st rfl (o_y (v := .bool true) (y_pick rfl rfl) rfl rfl rfl ?_)
      refine s_nil ?_
      refine q_then ?_
      refine c_true rfl ?_
      refine c_seq ?_
      refine c_region ?_
      refine st rfl (o_y (v := .string (⟨#[]⟩ : ByteArray)) (y_as rfl) rfl rfl rfl ?_)
      refine st rfl (o_y (v := .int .i64 20) (y_as rfl) rfl rfl rfl ?_)
      refine s_nil ?_
      refine q_then ?_
      refine c_ret ?_
      refine q_then_ret ?_
      have hp : rangeF a b = ((⟨#[]⟩ : ByteArray), 20) := by first | exact rrange_no (.inl (by assumption)) | exact rrange_no (.inr (by assumption)) | exact rrange_code (by assumption) (by assumption) (by assumption) | exact rrange_ok (by assumption) (by assumption) (by assumption)
      refine c_fin (I' := []) [] [] rfl (.tmp rfl (.tmp rfl .nil)) rfl rfl rfl ?_
      rw [hp]
      exact ⟨rfl, rfl, rfl⟩
  ·
    refine st rfl (o_y (v := .bool true) (y_nf (y_k (v := .bool (!decide ((putL a).2 = 0))) rfl rfl (fun _ => by kernel_rfl)) h1) rfl rfl rfl ?_)
    refine st rfl (o_y (v := .bool true) (y_mv rfl) rfl rfl rfl ?_)
    refine st_off 22 rfl rfl rfl rfl rfl rfl ?_
    refine st_off 22 rfl rfl rfl rfl rfl rfl ?_
    refine st rfl (o_y (v := .bool true) (y_pick rfl rfl) rfl rfl rfl ?_)
    refine s_nil ?_
    refine q_then ?_
    refine c_true rfl ?_
    refine c_seq ?_
    refine c_region ?_
    refine st rfl (o_y (v := .string (⟨#[]⟩ : ByteArray)) (y_as rfl) rfl rfl rfl ?_)
    refine st rfl (o_y (v := .int .i64 20) (y_as rfl) rfl rfl rfl ?_)
    refine s_nil ?_
    refine q_then ?_
    refine c_ret ?_
    refine q_then_ret ?_
    have hp : rangeF a b = ((⟨#[]⟩ : ByteArray), 20) := by first | exact rrange_no (.inl (by assumption)) | exact rrange_no (.inr (by assumption)) | exact rrange_code (by assumption) (by assumption) (by assumption) | exact rrange_ok (by assumption) (by assumption) (by assumption)
    refine c_fin (I' := []) [] [] rfl (.tmp rfl (.tmp rfl .nil)) rfl rfl rfl ?_
    rw [hp]
    exact ⟨rfl, rfl, rfl⟩
theorem rlGetRange_ (s : ByteArray) (hs : s.size ≤ 100000) : Con Tryd.prog 24 [.string s] [] [] (fun v L' I' => v = .tuple #[.agg #[.int .i64 (((rgetF s).1).lv), .int .u64 (((rgetF s).1).cs : Int), .int .i64 (((rgetF s).1).ig)], .agg #[.int .i64 (((rgetF s).2.1).lv), .int .u64 (((rgetF s).2.1).cs : Int), .int .i64 (((rgetF s).2.1).ig)], .string ((rgetF s).2.2.1), .int .i64 ((rgetF s).2.2.2)] ∧ L' = [] ∧ I' = []) := by
  have z1 := labGet_size s
  refine fn_of Tryd.func24 rfl Tryd.ntmps24 (by kernel_rfl) rfl (fun C => ?_)
  refine c_seq ?_
  refine c_region ?_
  refine st rfl (o_box (cs := [.int .i64 0, .int .u64 0, .int .i64 0]) (T := 24) rfl rfl rfl rfl (fun _ => by kernel_rfl) (fun b1 => ?_))
  refine st rfl (o_box (cs := [.int .i64 0, .int .u64 0, .int .i64 0]) (T := 24) rfl rfl rfl rfl (fun _ => by kernel_rfl) (fun b2 => ?_))
  refine st rfl (o_y (v := .string (⟨#[]⟩ : ByteArray)) (y_as rfl) rfl rfl rfl ?_)
  refine st rfl (o_y (v := .int .i64 0) (y_as rfl) rfl rfl rfl ?_)
  refine s_nil ?_
  refine q_then ?_
  refine c_seq ?_
  refine c_region ?_
  refine st rfl (o_y (v := .string s) (y_mv rfl) rfl rfl rfl ?_)
  refine st rfl (o_call [] [] (rlGet_ s (by first | omega | (rw [ByteArray.size_append]; omega) | decide | assumption)) rfl rfl rfl rfl rfl rfl (fun v L' I' hq1 => ?_))
  obtain ⟨rfl, rfl, rfl⟩ := hq1
  refine st rfl (o_y (v := .tuple #[.agg #[.int .i64 (((labGet s).1).lv), .int .u64 (((labGet s).1).cs : Int), .int .i64 (((labGet s).1).ig)], .string ((labGet s).2.1), .int .i64 ((labGet s).2.2)]) (y_mv rfl) rfl rfl rfl ?_)
  refine st rfl (o_y (v := .agg #[.int .i64 (((labGet s).1).lv), .int .u64 (((labGet s).1).cs : Int), .int .i64 (((labGet s).1).ig)]) (y_k rfl rfl (fun _ => by kernel_rfl)) rfl rfl rfl ?_)
  refine st rfl (o_y (v := .string ((labGet s).2.1)) (y_k rfl rfl (fun _ => by kernel_rfl)) rfl rfl rfl ?_)
  refine st rfl (o_y (v := .int .i64 ((labGet s).2.2)) (y_k rfl rfl (fun _ => by kernel_rfl)) rfl rfl rfl ?_)
  refine st rfl (o_box (cs := [.int .i64 0, .int .u64 0, .int .i64 0]) (T := 24) rfl rfl rfl rfl (fun _ => by kernel_rfl) (fun b3 => ?_))
  refine st rfl (o_st 0 rfl rfl rfl rfl rfl (by kernel_rfl) (by kernel_rfl) rfl ?_)
  refine st rfl (o_y (v := .string ((labGet s).2.1)) (y_as rfl) rfl rfl rfl ?_)
  refine st rfl (o_y (v := .int .i64 ((labGet s).2.2)) (y_as rfl) rfl rfl rfl ?_)
  refine s_nil ?_
  refine q_then ?_
  refine c_seq ?_
  refine c_seq ?_
  refine c_region ?_
  refine st rfl (o_y (v := .int .i64 ((labGet s).2.2)) (y_mv rfl) rfl rfl rfl ?_)
  refine e_by ((labGet s).2.2 = 0) (fun h1 => ?_) (fun h1 => ?_)
  ·
    refine st rfl (o_y (v := .bool false) (y_nt (y_k (v := .bool (!decide ((labGet s).2.2 = 0))) rfl rfl (fun _ => by kernel_rfl)) h1) rfl rfl rfl ?_)
    refine s_nil ?_
    refine q_then ?_
    refine c_false rfl ?_
    refine c_skip ?_
    refine q_then ?_
    refine c_seq ?_
    refine c_region ?_
    refine st rfl (o_y (v := .string ((labGet s).2.1)) (y_mv rfl) rfl rfl rfl ?_)
    refine st rfl (o_call [] [] (rlGet_ ((labGet s).2.1) (by first | omega | (rw [ByteArray.size_append]; omega) | decide | assumption)) rfl rfl rfl rfl rfl rfl (fun v L' I' hq2 => ?_))
    obtain ⟨rfl, rfl, rfl⟩ := hq2
    refine st rfl (o_y (v := .tuple #[.agg #[.int .i64 (((labGet ((labGet s).2.1)).1).lv), .int .u64 (((labGet ((labGet s).2.1)).1).cs : Int), .int .i64 (((labGet ((labGet s).2.1)).1).ig)], .string ((labGet ((labGet s).2.1)).2.1), .int .i64 ((labGet ((labGet s).2.1)).2.2)]) (y_mv rfl) rfl rfl rfl ?_)
    refine st rfl (o_y (v := .agg #[.int .i64 (((labGet ((labGet s).2.1)).1).lv), .int .u64 (((labGet ((labGet s).2.1)).1).cs : Int), .int .i64 (((labGet ((labGet s).2.1)).1).ig)]) (y_k rfl rfl (fun _ => by kernel_rfl)) rfl rfl rfl ?_)
    refine st rfl (o_y (v := .string ((labGet ((labGet s).2.1)).2.1)) (y_k rfl rfl (fun _ => by kernel_rfl)) rfl rfl rfl ?_)
    refine st rfl (o_y (v := .int .i64 ((labGet ((labGet s).2.1)).2.2)) (y_k rfl rfl (fun _ => by kernel_rfl)) rfl rfl rfl ?_)
    refine st rfl (o_box (cs := [.int .i64 0, .int .u64 0, .int .i64 0]) (T := 24) rfl rfl rfl rfl (fun _ => by kernel_rfl) (fun b4 => ?_))
    refine st rfl (o_st 0 rfl rfl rfl rfl rfl (by kernel_rfl) (by kernel_rfl) rfl ?_)
    refine st rfl (o_y (v := .string ((labGet ((labGet s).2.1)).2.1)) (y_as rfl) rfl rfl rfl ?_)
    refine st rfl (o_y (v := .int .i64 ((labGet ((labGet s).2.1)).2.2)) (y_as rfl) rfl rfl rfl ?_)
    refine s_nil ?_
    refine q_then ?_
    refine c_seq ?_
    refine c_seq ?_
    refine c_region ?_
    refine st rfl (o_y (v := .int .i64 ((labGet ((labGet s).2.1)).2.2)) (y_mv rfl) rfl rfl rfl ?_)
    refine e_by ((labGet ((labGet s).2.1)).2.2 = 0) (fun h2 => ?_) (fun h2 => ?_)
    ·
      refine st rfl (o_y (v := .bool false) (y_nt (y_k (v := .bool (!decide ((labGet ((labGet s).2.1)).2.2 = 0))) rfl rfl (fun _ => by kernel_rfl)) h2) rfl rfl rfl ?_)
      refine s_nil ?_
      refine q_then ?_
      refine c_false rfl ?_
      refine c_skip ?_
      refine q_then ?_
      refine c_seq ?_
      refine c_seq ?_
      refine c_region ?_
      refine st rfl (o_ldn 1 3 rfl rfl rfl rfl Tryd.underlying24 rfl (by kernel_rfl) (by kernel_rfl) rfl ?_)
      refine st rfl (o_ldn 0 3 rfl rfl rfl rfl Tryd.underlying24 rfl (by kernel_rfl) (by kernel_rfl) rfl ?_)
      refine st rfl (o_call [] [] (rUnder_ ((labGet s).1) ((labGet (labGet s).2.1).1) (labGet_64 _) (labGet_64 _)) rfl rfl rfl rfl rfl rfl (fun v L' I' hq3 => ?_))
      obtain ⟨hv1, rfl, rfl⟩ := hq3
      refine e_by (labUnder ((labGet s).1) ((labGet (labGet s).2.1).1)) (fun h3 => ?_) (fun h3 => ?_)
      ·
        obtain rfl : v = .bool true := by rw [hv1, decide_eq_true h3]
        refine st rfl (o_y (v := .bool false) (y_k rfl rfl (fun _ => by kernel_rfl)) rfl rfl rfl ?_)
        refine s_nil ?_
        refine q_then ?_
        refine c_false rfl ?_
        refine c_skip ?_
        refine q_then ?_
        refine c_seq ?_
        refine c_draw (l := ticked 7 0) [(⟨b3, 0, none⟩, .int .i64 (((labGet s).1).lv)), (⟨b3, 1, none⟩, .int .u64 (((labGet s).1).cs : Int)), (⟨b3, 2, none⟩, .int .i64 (((labGet s).1).ig)), (⟨b4, 0, none⟩, .int .i64 (((labGet ((labGet s).2.1)).1).lv)), (⟨b4, 1, none⟩, .int .u64 (((labGet ((labGet s).2.1)).1).cs : Int)), (⟨b4, 2, none⟩, .int .i64 (((labGet ((labGet s).2.1)).1).ig))] [] (by kernel_rfl) rfl rfl ?_
        refine a_y (i := 2) (v := .string ((labGet ((labGet s).2.1)).2.1)) (ticked 7 4) rfl (by as_aux_lemma => kernel_rfl) rfl rfl rfl (by exact y_mv rfl) ?_
        refine a_held (i := 0) (ticked 7 5) rfl (by as_aux_lemma => kernel_rfl) rfl rfl rfl (held_pt 1 rfl rfl (held_pt 1 rfl rfl (held_pt 1 rfl rfl (held_pt 0 rfl rfl (held_pt 0 rfl rfl (held_pt 0 rfl rfl held_nil)))))) (h_ldn (vs := [.int .i64 (((labGet s).1).lv), .int .u64 (((labGet s).1).cs : Int), .int .i64 (((labGet s).1).ig)]) 0 3 rfl rfl rfl Tryd.underlying24 rfl (by kernel_rfl) (by kernel_rfl)) ?_
        refine a_held (i := 1) (ticked 7 7) rfl (by as_aux_lemma => kernel_rfl) rfl rfl rfl (held_pt 1 rfl rfl (held_pt 1 rfl rfl (held_pt 1 rfl rfl (held_pt 0 rfl rfl (held_pt 0 rfl rfl (held_pt 0 rfl rfl held_nil)))))) (h_ldn (vs := [.int .i64 (((labGet ((labGet s).2.1)).1).lv), .int .u64 (((labGet ((labGet s).2.1)).1).cs : Int), .int .i64 (((labGet ((labGet s).2.1)).1).ig)]) 3 3 rfl rfl rfl Tryd.underlying24 rfl (by kernel_rfl) (by kernel_rfl)) ?_
        refine a_each (rs := [3]) (by as_aux_lemma => kernel_rfl) (.cons (ticked 7 15) rfl rfl rfl (o_st 3 rfl rfl rfl rfl rfl (by kernel_rfl) (by kernel_rfl) rfl ?_) .nil) (List.cons_ne_nil _ _)
        refine a_and (held_pt 1 rfl rfl (held_pt 1 rfl rfl (held_pt 1 rfl rfl (held_pt 0 rfl rfl (held_pt 0 rfl rfl (held_pt 0 rfl rfl held_nil)))))) ?_
        refine a_each (rs := [4]) (by as_aux_lemma => kernel_rfl) (.cons (ticked 7 31) rfl rfl rfl (o_st 2 rfl rfl rfl rfl rfl (by kernel_rfl) (by kernel_rfl) rfl ?_) .nil) (List.cons_ne_nil _ _)
        refine a_and (held_pt 1 rfl rfl (held_pt 1 rfl rfl (held_pt 1 rfl rfl (held_pt 0 rfl rfl (held_pt 0 rfl rfl (held_pt 0 rfl rfl held_nil)))))) ?_
        refine a_y (i := 5) (v := .string ((labGet ((labGet s).2.1)).2.1)) (ticked 7 63) rfl (by as_aux_lemma => kernel_rfl) rfl rfl rfl (by exact y_as rfl) ?_
        refine a_y (i := 6) (v := .int .i64 0) (ticked 7 127) rfl (by as_aux_lemma => kernel_rfl) rfl rfl rfl (by exact y_as rfl) ?_
        refine a_done (by as_aux_lemma => kernel_rfl) ?_
        refine q_then ?_
        refine c_ret ?_
        have hp : rgetF s = ((labGet s).1, (labGet (labGet s).2.1).1, (labGet ((labGet s).2.1)).2.1, 0) := by first | exact rrget_1 (by assumption) | exact rrget_2 (by assumption) (by assumption) | exact rrget_3 (by assumption) (by assumption) (by assumption) | exact rrget_4 (by assumption) (by assumption) (by assumption)
        refine c_fin (I' := []) [] [] rfl (.agg 3 3 rfl rfl rfl rfl Tryd.underlying24 rfl (by kernel_rfl) (by kernel_rfl) (.agg 2 3 rfl rfl rfl rfl Tryd.underlying24 rfl (by kernel_rfl) (by kernel_rfl) (.tmp rfl (.tmp rfl .nil)))) rfl rfl rfl ?_
        rw [hp]
        exact ⟨rfl, rfl, rfl⟩
      ·
        obtain rfl : v = .bool false := by rw [hv1, decide_eq_false h3]
        refine st rfl (o_y (v := .bool true) (y_k rfl rfl (fun _ => by kernel_rfl)) rfl rfl rfl ?_)
        refine s_nil ?_
        refine q_then ?_
        refine c_true rfl ?_
        refine c_seq ?_
        refine c_region ?_
        refine st rfl (o_y (v := .agg #[.int .i64 0, .int .u64 0, .int .i64 0]) (y_k rfl rfl (fun _ => by kernel_rfl)) rfl rfl rfl ?_)
        refine st rfl (o_y (v := .agg #[.int .i64 0, .int .u64 0, .int .i64 0]) (y_k rfl rfl (fun _ => by kernel_rfl)) rfl rfl rfl ?_)
        refine st rfl (o_st 3 rfl rfl rfl rfl rfl (by kernel_rfl) (by kernel_rfl) rfl ?_)
        refine st rfl (o_st 2 rfl rfl rfl rfl rfl (by kernel_rfl) (by kernel_rfl) rfl ?_)
        refine st rfl (o_y (v := .string (⟨#[]⟩ : ByteArray)) (y_as rfl) rfl rfl rfl ?_)
        refine st rfl (o_y (v := .int .i64 40) (y_as rfl) rfl rfl rfl ?_)
        refine s_nil ?_
        refine q_then ?_
        refine c_ret ?_
        refine q_then_ret ?_
        have hp : rgetF s = ((⟨0, 0, 0⟩ : Lab), (⟨0, 0, 0⟩ : Lab), (⟨#[]⟩ : ByteArray), 40) := by first | exact rrget_1 (by assumption) | exact rrget_2 (by assumption) (by assumption) | exact rrget_3 (by assumption) (by assumption) (by assumption) | exact rrget_4 (by assumption) (by assumption) (by assumption)
        refine c_fin (I' := []) [] [] rfl (.agg 3 3 rfl rfl rfl rfl Tryd.underlying24 rfl (by kernel_rfl) (by kernel_rfl) (.agg 2 3 rfl rfl rfl rfl Tryd.underlying24 rfl (by kernel_rfl) (by kernel_rfl) (.tmp rfl (.tmp rfl .nil)))) rfl rfl rfl ?_
        rw [hp]
        exact ⟨rfl, rfl, rfl⟩
    ·
      refine st rfl (o_y (v := .bool true) (y_nf (y_k (v := .bool (!decide ((labGet ((labGet s).2.1)).2.2 = 0))) rfl rfl (fun _ => by kernel_rfl)) h2) rfl rfl rfl ?_)
      refine s_nil ?_
      refine q_then ?_
      refine c_true rfl ?_
      refine c_seq ?_
      refine c_region ?_
      refine st rfl (o_y (v := .agg #[.int .i64 0, .int .u64 0, .int .i64 0]) (y_k rfl rfl (fun _ => by kernel_rfl)) rfl rfl rfl ?_)
      refine st rfl (o_y (v := .agg #[.int .i64 0, .int .u64 0, .int .i64 0]) (y_k rfl rfl (fun _ => by kernel_rfl)) rfl rfl rfl ?_)
      refine st rfl (o_y (v := .int .i64 ((labGet ((labGet s).2.1)).2.2)) (y_mv rfl) rfl rfl rfl ?_)
      refine st rfl (o_st 3 rfl rfl rfl rfl rfl (by kernel_rfl) (by kernel_rfl) rfl ?_)
      refine st rfl (o_st 2 rfl rfl rfl rfl rfl (by kernel_rfl) (by kernel_rfl) rfl ?_)
      refine st rfl (o_y (v := .string (⟨#[]⟩ : ByteArray)) (y_as rfl) rfl rfl rfl ?_)
      refine st rfl (o_y (v := .int .i64 ((labGet ((labGet s).2.1)).2.2)) (y_as rfl) rfl rfl rfl ?_)
      refine s_nil ?_
      refine q_then ?_
      refine c_ret ?_
      refine q_then_ret ?_
      have hp : rgetF s = ((⟨0, 0, 0⟩ : Lab), (⟨0, 0, 0⟩ : Lab), (⟨#[]⟩ : ByteArray), (labGet ((labGet s).2.1)).2.2) := by first | exact rrget_1 (by assumption) | exact rrget_2 (by assumption) (by assumption) | exact rrget_3 (by assumption) (by assumption) (by assumption) | exact rrget_4 (by assumption) (by assumption) (by assumption)
      refine c_fin (I' := []) [] [] rfl (.agg 3 3 rfl rfl rfl rfl Tryd.underlying24 rfl (by kernel_rfl) (by kernel_rfl) (.agg 2 3 rfl rfl rfl rfl Tryd.underlying24 rfl (by kernel_rfl) (by kernel_rfl) (.tmp rfl (.tmp rfl .nil)))) rfl rfl rfl ?_
      rw [hp]
      exact ⟨rfl, rfl, rfl⟩
  ·
    refine st rfl (o_y (v := .bool true) (y_nf (y_k (v := .bool (!decide ((labGet s).2.2 = 0))) rfl rfl (fun _ => by kernel_rfl)) h1) rfl rfl rfl ?_)
    refine s_nil ?_
    refine q_then ?_
    refine c_true rfl ?_
    refine c_seq ?_
    refine c_region ?_
    refine st rfl (o_y (v := .agg #[.int .i64 0, .int .u64 0, .int .i64 0]) (y_k rfl rfl (fun _ => by kernel_rfl)) rfl rfl rfl ?_)
    refine st rfl (o_y (v := .agg #[.int .i64 0, .int .u64 0, .int .i64 0]) (y_k rfl rfl (fun _ => by kernel_rfl)) rfl rfl rfl ?_)
    refine st rfl (o_y (v := .int .i64 ((labGet s).2.2)) (y_mv rfl) rfl rfl rfl ?_)
    refine st rfl (o_st 2 rfl rfl rfl rfl rfl (by kernel_rfl) (by kernel_rfl) rfl ?_)
    refine st rfl (o_st 1 rfl rfl rfl rfl rfl (by kernel_rfl) (by kernel_rfl) rfl ?_)
    refine st rfl (o_y (v := .string (⟨#[]⟩ : ByteArray)) (y_as rfl) rfl rfl rfl ?_)
    refine st rfl (o_y (v := .int .i64 ((labGet s).2.2)) (y_as rfl) rfl rfl rfl ?_)
    refine s_nil ?_
    refine q_then ?_
    refine c_ret ?_
    refine q_then_ret ?_
    have hp : rgetF s = ((⟨0, 0, 0⟩ : Lab), (⟨0, 0, 0⟩ : Lab), (⟨#[]⟩ : ByteArray), (labGet s).2.2) := by first | exact rrget_1 (by assumption) | exact rrget_2 (by assumption) (by assumption) | exact rrget_3 (by assumption) (by assumption) (by assumption) | exact rrget_4 (by assumption) (by assumption) (by assumption)
    refine c_fin (I' := []) [] [] rfl (.agg 2 3 rfl rfl rfl rfl Tryd.underlying24 rfl (by kernel_rfl) (by kernel_rfl) (.agg 1 3 rfl rfl rfl rfl Tryd.underlying24 rfl (by kernel_rfl) (by kernel_rfl) (.tmp rfl (.tmp rfl .nil)))) rfl rfl rfl ?_
    rw [hp]
    exact ⟨rfl, rfl, rfl⟩
theorem rlPutList_ (A : Option Addr) (c : Nat) (l : List Lab) (h64 : ∀ x ∈ l, lab64 x) (hn : l.length ≤ 1000) : Con Tryd.prog 15 [.slice A l.length c] [] [rd labTy A c l] (fun v L' I' => v = .tuple #[.string ((putS l).1), .int .i64 ((putS l).2)] ∧ L' = [] ∧ I' = []) := by
  refine fn_of Tryd.func15 rfl Tryd.ntmps15 (by kernel_rfl) rfl (fun C => ?_)
  refine c_seq ?_
  refine c_region ?_
  refine st rfl (o_y (v := .string (⟨#[]⟩ : ByteArray)) (y_as rfl) rfl rfl rfl ?_)
  refine st rfl (o_y (v := .int .i64 0) (y_as rfl) rfl rfl rfl ?_)
  refine s_nil ?_
  refine q_then ?_
  refine c_seq ?_
  refine c_region ?_
  refine st rfl (o_y (v := .string (⟨#[]⟩ : ByteArray)) (y_as rfl) rfl rfl rfl ?_)
  refine s_nil ?_
  refine q_then ?_
  refine c_seq ?_
  refine c_seq ?_
  refine c_region ?_
  refine st rfl (o_y (v := .int .i64 0) (y_as rfl) rfl rfl rfl ?_)
  refine s_nil ?_
  refine q_then ?_
  refine c_block ?_
  refine c_loopn (ι := Nat × ByteArray) (fun (k, o) => (k ≤ l.length) ∧ (allR (l.take k)) ∧ (o = encS (l.take k)) ∧ (o.size ≤ 10 * k)) (fun (k, o) => [(0, .slice A l.length c), (4, .string o), (5, .int .i64 (k : Int))]) (fun (k, o) => []) (fun (k, o) => [rd labTy A c l]) (fun (k, o) => l.length - k) (0, (⟨#[]⟩ : ByteArray)) [] [0] (show (0 ≤ l.length) ∧ (allR (l.take 0)) ∧ ((⟨#[]⟩ : ByteArray) = encS (l.take 0)) ∧ ((⟨#[]⟩ : ByteArray).size ≤ 10 * 0) from ⟨by first | omega | simp_all | (simp; done), by unfold allR; simp, rfl, Nat.zero_le _⟩) ((.cons rfl rfl (.cons rfl rfl (.cons rfl rfl .nil)))) rfl rfl ?_
  rintro ⟨k, o⟩ ⟨hk, hr, ho, hol⟩
  show Ent 29 C [(0, .slice A l.length c), (4, .string o), (5, .int .i64 (k : Int))] [] [] [rd labTy A c l] _
  refine c_seq ?_
  refine c_seq ?_
  refine c_region ?_
  refine st rfl (o_y (v := .int .i64 (k : Int)) (y_mv rfl) rfl rfl rfl ?_)
  refine st rfl (o_y (v := .slice A l.length c) (y_mv rfl) rfl rfl rfl ?_)
  refine st rfl (o_y (v := .int .i64 (l.length : Int)) (y_k rfl rfl (fun _ => by kernel_rfl)) rfl rfl rfl ?_)
  refine e_by ((k : Int) < (l.length : Int)) (fun h65 => ?_) (fun h65 => ?_)
  ·
    refine st rfl (o_y (v := .bool true) (y_t (y_k (v := .bool (decide ((k : Int) < (l.length : Int)))) rfl rfl (fun _ => by kernel_rfl)) h65) rfl rfl rfl ?_)
    refine s_nil ?_
    refine q_then ?_
    refine c_true rfl ?_
    refine c_skip ?_
    refine q_then ?_
    refine c_seq ?_
    refine c_block ?_
    refine c_seq ?_
    refine c_region ?_
    refine st rfl (o_y (v := .slice A l.length c) (y_mv rfl) rfl rfl rfl ?_)
    refine st rfl (o_y (v := .int .i64 (k : Int)) (y_mv rfl) rfl rfl rfl ?_)
    refine e_at 0 k rfl (by first | omega | (simp only [List.length_append, List.length_map, List.length_take, List.length_drop]; omega)) (fun b1 o1 x1 hA1 hx1 => ?_)
    refine st rfl (o_y (v := .pointer (some ⟨b1, o1 + k * 3, none⟩)) (y_at (d := labTy) (l := l) k hA1 rfl rfl rfl (rfl) (List.getElem?_eq_some_iff.1 hx1).1 Tryd.underlying34 (by kernel_rfl) (by kernel_rfl)) rfl rfl rfl ?_)
    refine st rfl (o_ldnf 0 0 3 rfl rfl rfl rfl Tryd.underlying24 rfl (by kernel_rfl) (by kernel_rfl) rfl ?_)
    refine st rfl (o_call [] [] (rlPut_ x1 (by first | assumption | exact (by assumption : ∀ x ∈ _, lab64 x) _ (List.mem_of_getElem? (by assumption)) | decide)) rfl rfl rfl rfl rfl rfl (fun v L' I' hq1 => ?_))
    obtain ⟨rfl, rfl, rfl⟩ := hq1
    refine st rfl (o_y (v := .tuple #[.string ((putL x1).1), .int .i64 ((putL x1).2)]) (y_mv rfl) rfl rfl rfl ?_)
    refine st rfl (o_y (v := .string ((putL x1).1)) (y_k rfl rfl (fun _ => by kernel_rfl)) rfl rfl rfl ?_)
    refine st rfl (o_y (v := .int .i64 ((putL x1).2)) (y_k rfl rfl (fun _ => by kernel_rfl)) rfl rfl rfl ?_)
    refine st rfl (o_y (v := .string ((putL x1).1)) (y_as rfl) rfl rfl rfl ?_)
    refine st rfl (o_y (v := .int .i64 ((putL x1).2)) (y_as rfl) rfl rfl rfl ?_)
    refine s_nil ?_
    refine q_then ?_
    refine c_seq ?_
    refine c_seq ?_
    refine c_region ?_
    refine st rfl (o_y (v := .int .i64 ((putL x1).2)) (y_mv rfl) rfl rfl rfl ?_)
    refine e_by ((putL x1).2 = 0) (fun h66 => ?_) (fun h66 => ?_)
    ·
      refine st rfl (o_y (v := .bool false) (y_nt (y_k (v := .bool (!decide ((putL x1).2 = 0))) rfl rfl (fun _ => by kernel_rfl)) h66) rfl rfl rfl ?_)
      refine s_nil ?_
      refine q_then ?_
      refine c_false rfl ?_
      refine c_skip ?_
      refine q_then ?_
      refine c_region ?_
      refine st rfl (o_y (v := .string o) (y_mv rfl) rfl rfl rfl ?_)
      refine st rfl (o_y (v := .string ((putL x1).1)) (y_mv rfl) rfl rfl rfl ?_)
      refine st rfl (o_y (v := .string (o ++ ((putL x1).1))) (y_cat (s := o) (u := (putL x1).1) rfl rfl (by have q := putL_size (a := x1) (h64 _ (List.mem_of_getElem? hx1)); omega)) rfl rfl rfl ?_)
      refine st rfl (o_y (v := .string (o ++ ((putL x1).1))) (y_as rfl) rfl rfl rfl ?_)
      refine s_nil ?_
      refine q_block ?_
      refine q_then ?_
      refine c_region ?_
      refine st rfl (o_y (v := .int .i64 (k : Int)) (y_mv rfl) rfl rfl rfl ?_)
      refine st rfl (o_y (v := .int .i64 ((k : Int) + 1)) (y_add (r := (k : Int) + 1) rfl rfl rfl (by omega)) rfl rfl rfl ?_)
      refine st rfl (o_y (v := .int .i64 ((k : Int) + 1)) (y_as rfl) rfl rfl rfl ?_)
      refine s_nil ?_
      refine q_then ?_
      refine c_next [] [1] (k + 1, o ++ ((putL x1).1)) ?_ ?_ ?_ (by rfl) (by rfl)
      · exact (show ((k + 1) ≤ l.length) ∧ (allR (l.take (k + 1))) ∧ ((o ++ ((putL x1).1)) = encS (l.take (k + 1))) ∧ ((o ++ ((putL x1).1)).size ≤ 10 * (k + 1)) from ⟨by first | omega | simp_all | (simp; done), allR_step hr hx1 (putL_c.1 (by assumption)), rputs_step ho hx1 (by assumption), by have q := putL_size (a := x1) (h64 _ (List.mem_of_getElem? hx1)); rw [ByteArray.size_append]; omega⟩)
      · show l.length - (k + 1) < l.length - k; omega
      · exact (.cons rfl rfl (.cons rfl rfl (.cons rfl (show (.int .i64 ((k : Int) + 1) : Value) = .int .i64 ((k + 1) : Int) from by first | rfl | (congr 1; omega) | (congr 1; simp; done) | (congr 1; simp; omega)) .nil)))
    ·
      refine st rfl (o_y (v := .bool true) (y_nf (y_k (v := .bool (!decide ((putL x1).2 = 0))) rfl rfl (fun _ => by kernel_rfl)) h66) rfl rfl rfl ?_)
      refine s_nil ?_
      refine q_then ?_
      refine c_true rfl ?_
      refine c_seq ?_
      refine c_region ?_
      refine st rfl (o_y (v := .int .i64 ((putL x1).2)) (y_mv rfl) rfl rfl rfl ?_)
      refine st rfl (o_y (v := .string (⟨#[]⟩ : ByteArray)) (y_as rfl) rfl rfl rfl ?_)
      refine st rfl (o_y (v := .int .i64 ((putL x1).2)) (y_as rfl) rfl rfl rfl ?_)
      refine s_nil ?_
      refine q_then ?_
      refine c_ret ?_
      refine q_then_ret ?_
      refine q_block_ret ?_
      refine q_then_ret ?_
      refine q_then_ret ?_
      refine q_block_ret ?_
      refine q_then_ret ?_
      have hp : putS l = ((⟨#[]⟩ : ByteArray), (putL x1).2) := by rw [putL_e (by assumption)]; exact if_neg (allR_not hx1 (fun q => absurd (putL_c.2 q) (by assumption)))
      refine c_fin (I' := []) [] [1] rfl (.tmp rfl (.tmp rfl .nil)) rfl rfl rfl ?_
      rw [hp]
      exact ⟨rfl, rfl, rfl⟩
  ·
    refine st rfl (o_y (v := .bool false) (y_f (y_k (v := .bool (decide ((k : Int) < (l.length : Int)))) rfl rfl (fun _ => by kernel_rfl)) h65) rfl rfl rfl ?_)
    refine s_nil ?_
    refine q_then ?_
    refine c_false rfl ?_
    refine c_exit ?_
    refine q_then_exit ?_
    refine q_then_exit ?_
    refine q_block_here ?_
    refine q_then ?_
    refine c_seq ?_
    refine c_region ?_
    refine st rfl (o_y (v := .string o) (y_mv rfl) rfl rfl rfl ?_)
    refine st rfl (o_y (v := .string o) (y_as rfl) rfl rfl rfl ?_)
    refine st rfl (o_y (v := .int .i64 0) (y_as rfl) rfl rfl rfl ?_)
    refine s_nil ?_
    refine q_then ?_
    refine c_ret ?_
    have hp : putS l = (o, 0) := by (have e0 : k = l.length := by omega); subst e0; rw [List.take_length] at ho; unfold putS; rw [if_pos (by rw [List.take_length] at hr; exact hr), ho]
    refine c_fin (I' := []) [] [0] rfl (.tmp rfl (.tmp rfl .nil)) rfl rfl rfl ?_
    rw [hp]
    exact ⟨rfl, rfl, rfl⟩
end Go.Proofs.YthoefkpbijcdeaaDoor
