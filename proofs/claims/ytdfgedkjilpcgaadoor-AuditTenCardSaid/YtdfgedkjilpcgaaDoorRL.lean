/- The six laws of chapter 18 (audit), walked over the given program; no condition but what stands in each theorem: part L. -/
import Derived.Test.YtdfgedkjilpcgaaDoorRJ
import Derived.Test.YtdfgedkjilpcgaaDoorRK
set_option linter.unusedVariables false
set_option linter.unusedSimpArgs false
set_option maxRecDepth 100000
set_option maxHeartbeats 8000000
namespace Go.Proofs.YtdfgedkjilpcgaaDoor
open Go Go.Sl Go.RowKit Go.Extern.Stop Go.Stop Go.Extern Go.Shelf
theorem Shown_ (A : Option Addr) (c : Nat) (l : List Rec) (a : Lab) (hs : l.length ≤ 1000000) (hm : ∀ y ∈ l, recSm y) : Con Tryd.prog 14 [.slice A l.length c, .agg #[.int .i64 a.lv, .int .u64 (a.cs : Int), .int .i64 a.ig]] [] [rd recTy A c l] (fun v L' I' => ∃ A1 : Option Addr, ∃ c1 : Nat, v = .slice A1 (shownF l a).length c1 ∧ L' = [] ∧ I' = [rd strTy A1 c1 (shownF l a)]) := by
  have hm2 := atL_sub (a := a) hm
  have hla := atL_len a l
  refine fn_of Tryd.func14 rfl Tryd.ntmps14 (by kernel_rfl) rfl (fun C => ?_)
  refine c_seq ?_
  refine c_region ?_
  refine st rfl (o_box (cs := [.int .i64 a.lv, .int .u64 (a.cs : Int), .int .i64 a.ig]) (T := 26) rfl rfl rfl rfl (fun _ => by kernel_rfl) (fun b1 => ?_))
  refine st rfl (o_y (v := .slice none 0 0) (y_as rfl) rfl rfl rfl ?_)
  refine s_nil ?_
  refine q_then ?_
  refine c_seq ?_
  refine c_region ?_
  refine st rfl (o_box (cs := [.slice none 0 0]) (T := 35) rfl rfl rfl rfl (fun _ => by kernel_rfl) (fun b2 => ?_))
  refine s_nil ?_
  refine q_then ?_
  refine c_seq ?_
  refine c_seq ?_
  refine c_region ?_
  refine st rfl (o_y (v := .slice A l.length c) (y_mv rfl) rfl rfl rfl ?_)
  refine st rfl (o_y (v := .agg #[.slice A l.length c]) (y_k rfl rfl (fun _ => by kernel_rfl)) rfl rfl rfl ?_)
  refine st rfl (o_box (cs := [.slice A l.length c]) (T := 51) rfl rfl rfl rfl (fun _ => by kernel_rfl) (fun b3 => ?_))
  refine st rfl (o_ldn 2 3 rfl rfl rfl rfl Tryd.underlying26 rfl (by kernel_rfl) (by kernel_rfl) rfl ?_)
  refine st rfl (o_call [] [] (at_ b3 a) rfl rfl rfl rfl rfl rfl (fun v L' I' hq1 => ?_))
  obtain ⟨k1, j1, rfl, rfl, rfl⟩ := hq1
  refine s_nil ?_
  refine q_then ?_
  refine c_block ?_
  refine e_nil strTy 9 ?_
  refine c_range (xs := (atL a l).map fun y => [.agg #[.int .i64 y.st, .int .i64 y.who, .int .i64 y.op, .int .i64 y.e, .int .i64 y.lab.lv, .int .u64 (y.lab.cs : Int), .int .i64 y.lab.ig]]) (fun k L I => ∃ o : List ByteArray, ∃ Ao : Option Addr, ∃ co : Nat, (o = ((atL a l).take k).map lineF) ∧ L = [pt b2 [.slice Ao o.length co] 35, ars strTy 9 Ao co o] ∧ I = []) (fun _ _ _ _ => False) [1, 1, 1, 1, 0] [0] (at1_ k1 j1 b3 a A c l hs) rfl rfl rfl ⟨([] : List ByteArray), none, 0, by simp, rfl, rfl⟩ (by intro x hx; simp only [List.mem_map] at hx; obtain ⟨_, _, rfl⟩ := hx; rfl) rfl (fun C1 lp1 r1 k2 x1 Lx1 Ix1 hx1 hS1 => ?_) (fun bD1 La1 Lb1 Ib1 hf1 hS1 => ?_) (fun bD1 k2 cc La1 Lb1 Ib1 hk hf1 hX => ?_)
  ·
    obtain ⟨y1, hy1, rfl⟩ : ∃ y, (atL a l)[k2]? = some y ∧ [.agg #[.int .i64 y.st, .int .i64 y.who, .int .i64 y.op, .int .i64 y.e, .int .i64 y.lab.lv, .int .u64 (y.lab.cs : Int), .int .i64 y.lab.ig]] = x1 := by simpa using hx1
    obtain ⟨o1, Ao1, co1, h1, rfl, rfl⟩ := hS1
    refine Ent.env (e' := [(0, .slice A l.length c), (1, .agg #[.int .i64 a.lv, .int .u64 (a.cs : Int), .int .i64 a.ig]), (3, .pointer (some ⟨b1, 0, none⟩)), (4, .slice none 0 0), (5, .pointer (some ⟨b2, 0, none⟩)), (7, .slice A l.length c), (8, .agg #[.slice A l.length c]), (9, .pointer (some ⟨b3, 0, none⟩)), (10, .agg #[.int .i64 a.lv, .int .u64 (a.cs : Int), .int .i64 a.ig]), (11, .func (.func 47) #[] #[.pointer (some ⟨k1, 0, none⟩), .pointer (some ⟨j1, 0, none⟩)]), (12, .agg #[.int .i64 y1.st, .int .i64 y1.who, .int .i64 y1.op, .int .i64 y1.e, .int .i64 y1.lab.lv, .int .u64 (y1.lab.cs : Int), .int .i64 y1.lab.ig])]) (.cons rfl rfl (.cons rfl rfl (.cons rfl rfl (.cons rfl rfl (.cons rfl rfl (.cons rfl rfl (.cons rfl rfl (.cons rfl rfl (.cons rfl rfl (.cons rfl rfl (.cons rfl rfl .nil))))))))))) ?_
    refine c_region ?_
    refine st rfl (o_box (cs := [.int .i64 0, .int .i64 0, .int .i64 0, .int .i64 0, .int .i64 0, .int .u64 0, .int .i64 0]) (T := 28) rfl rfl rfl rfl (fun _ => by kernel_rfl) (fun b4 => ?_))
    refine st rfl (o_st 0 rfl rfl rfl rfl rfl (by kernel_rfl) (by kernel_rfl) rfl ?_)
    refine s_nil ?_
    refine q_then ?_
    refine r_begin 1 rfl ?_
    refine c_block ?_
    refine c_draw (l := ticked 6 0) [(⟨b2, 0, none⟩, .slice Ao1 o1.length co1), (⟨b4, 0, none⟩, .int .i64 y1.st), (⟨b4, 1, none⟩, .int .i64 y1.who), (⟨b4, 2, none⟩, .int .i64 y1.op), (⟨b4, 3, none⟩, .int .i64 y1.e), (⟨b4, 4, none⟩, .int .i64 y1.lab.lv), (⟨b4, 5, none⟩, .int .u64 (y1.lab.cs : Int)), (⟨b4, 6, none⟩, .int .i64 y1.lab.ig)] [5] (by kernel_rfl) rfl rfl ?_
    refine a_held (i := 0) (ticked 6 1) rfl (by as_aux_lemma => kernel_rfl) rfl rfl rfl (held_pt 2 rfl rfl (held_pt 0 rfl rfl (held_pt 0 rfl rfl (held_pt 0 rfl rfl (held_pt 0 rfl rfl (held_pt 0 rfl rfl (held_pt 0 rfl rfl (held_pt 0 rfl rfl held_nil)))))))) (h_ld 0 rfl rfl Tryd.underlying35 rfl) ?_
    refine a_held (i := 1) (ticked 6 3) rfl (by as_aux_lemma => kernel_rfl) rfl rfl rfl (held_pt 2 rfl rfl (held_pt 0 rfl rfl (held_pt 0 rfl rfl (held_pt 0 rfl rfl (held_pt 0 rfl rfl (held_pt 0 rfl rfl (held_pt 0 rfl rfl (held_pt 0 rfl rfl held_nil)))))))) (h_ldn (vs := [.int .i64 y1.st, .int .i64 y1.who, .int .i64 y1.op, .int .i64 y1.e, .int .i64 y1.lab.lv, .int .u64 (y1.lab.cs : Int), .int .i64 y1.lab.ig]) 1 7 rfl rfl rfl Tryd.underlying28 rfl (by kernel_rfl) (by kernel_rfl)) ?_
    refine a_each (rs := [2]) (by as_aux_lemma => kernel_rfl) (.cons (ticked 6 7) rfl rfl rfl (o_call [] [] (Line_ y1 (by first | assumption | exact (by assumption : ∀ y ∈ _, recSm y) _ (List.mem_of_getElem? (by assumption)))) rfl rfl rfl rfl rfl rfl (fun v L' I' hq2 => ?_)) .nil) (List.cons_ne_nil _ _)
    obtain ⟨rfl, rfl, rfl⟩ := hq2
    refine a_and (held_pt 2 rfl rfl (held_pt 0 rfl rfl (held_pt 0 rfl rfl (held_pt 0 rfl rfl (held_pt 0 rfl rfl (held_pt 0 rfl rfl (held_pt 0 rfl rfl (held_pt 0 rfl rfl held_nil)))))))) ?_
    refine a_each (rs := [3]) (by as_aux_lemma => kernel_rfl) (.cons (ticked 6 15) rfl rfl rfl (o_lit (cs := [.string (lineF y1)]) (T := 9) (m := 1) rfl rfl rfl rfl (fun _ => by kernel_rfl) (fun b5 => ?_)) .nil) (List.cons_ne_nil _ _)
    refine a_and (held_pt 3 rfl rfl (held_pt 1 rfl rfl (held_pt 1 rfl rfl (held_pt 1 rfl rfl (held_pt 1 rfl rfl (held_pt 1 rfl rfl (held_pt 1 rfl rfl (held_pt 1 rfl rfl held_nil)))))))) ?_
    refine a_each (rs := [4]) (by as_aux_lemma => kernel_rfl) (.cons (ticked 6 31) rfl rfl rfl (o_app (l := o1) (us := [lineF y1]) 4 rfl rfl rfl rfl rfl (src_pt 0 rfl) Tryd.underlying35 (elem_of (z := .string (⟨#[]⟩ : ByteArray)) (sz := 1) (bytes := 16) (by kernel_rfl) rfl) rfl (by have h := shown_len2 (a := a) (l := l) (by assumption); simp only [List.length_cons, List.length_nil]; omega) rfl rfl (fun A1 c1 => ?_)) .nil) (List.cons_ne_nil _ _)
    refine a_and (held_pt 3 rfl rfl (held_pt 1 rfl rfl (held_pt 1 rfl rfl (held_pt 1 rfl rfl (held_pt 1 rfl rfl (held_pt 1 rfl rfl (held_pt 1 rfl rfl (held_pt 1 rfl rfl held_nil)))))))) ?_
    refine a_each (rs := [5]) (by as_aux_lemma => kernel_rfl) (.last (ticked 6 63) rfl rfl rfl rfl (o_st 3 rfl rfl rfl rfl rfl (by kernel_rfl) (by kernel_rfl) rfl ?_) .nil) (List.cons_ne_nil _ _)
    refine a_done (by as_aux_lemma => kernel_rfl) ?_
    refine q_block ?_
    refine r_end 2 [2, 2] [] rfl rfl rfl ⟨(o1 ++ [lineF y1]), A1, c1, shown_step (by assumption) hy1, rfl, rfl⟩
  ·
    obtain rfl := hf1
    rw [List.length_map] at hS1
    obtain ⟨o2, Ao2, co2, h2, rfl, rfl⟩ := hS1
    refine Ent.env (e' := [(0, .slice A l.length c), (1, .agg #[.int .i64 a.lv, .int .u64 (a.cs : Int), .int .i64 a.ig]), (3, .pointer (some ⟨b1, 0, none⟩)), (4, .slice none 0 0), (5, .pointer (some ⟨b2, 0, none⟩)), (7, .slice A l.length c), (8, .agg #[.slice A l.length c]), (9, .pointer (some ⟨b3, 0, none⟩)), (10, .agg #[.int .i64 a.lv, .int .u64 (a.cs : Int), .int .i64 a.ig]), (11, .func (.func 47) #[] #[.pointer (some ⟨k1, 0, none⟩), .pointer (some ⟨j1, 0, none⟩)])]) (.cons rfl rfl (.cons rfl rfl (.cons rfl rfl (.cons rfl rfl (.cons rfl rfl (.cons rfl rfl (.cons rfl rfl (.cons rfl rfl (.cons rfl rfl (.cons rfl rfl .nil)))))))))) ?_
    refine q_block ?_
    refine q_then ?_
    refine c_seq ?_
    refine c_region ?_
    refine st rfl (o_ld 4 rfl rfl rfl Tryd.underlying35 rfl rfl ?_)
    refine st rfl (o_ld 4 rfl rfl rfl Tryd.underlying35 rfl rfl ?_)
    refine st rfl (o_y (v := .int .i64 (o2.length : Int)) (y_k rfl rfl (fun _ => by kernel_rfl)) rfl rfl rfl ?_)
    refine st rfl (o_y (v := .int .i64 ((o2.length : Int) - 10)) (y_sub (r := (o2.length : Int) - 10) rfl rfl rfl (by have h := shown_len2 (a := a) (l := l) (by assumption); omega)) rfl rfl rfl ?_)
    refine st rfl (o_y (v := .int .i64 (max 0 ((o2.length : Int) - 10))) (y_maxi (p := 0) (q := (o2.length : Int) - 10) rfl rfl) rfl rfl rfl ?_)
    refine e_weak 5 rfl (fun _ h => h.win) ?_
    refine e_know 5 rfl (fun _ h => win.lens _ h) (fun hl1 => ?_)
    refine e_weak 5 rfl (fun _ h => h.cut2 (lo := (max 0 ((o2.length : Int) - 10)).toNat) (hi := o2.length) (mx := co2) (l2 := shownF l a) (by have e := (by assumption : o2 = ((atL a l).take (atL a l).length).map lineF); rw [List.take_length] at e; unfold shownF; rw [List.take_length, ← e]; exact lastTen_cut rfl) (by omega) (by omega) (by omega) (by omega)) ?_
    refine st rfl (o_y (v := .slice (cutA strTy Ao2 ((max 0 ((o2.length : Int) - 10)).toNat) co2) (shownF l a).length (co2 - ((max 0 ((o2.length : Int) - 10)).toNat))) (y_cut (d := strTy) (l := o2) (l2 := shownF l a) ((max 0 ((o2.length : Int) - 10)).toNat) o2.length co2 (by have e := (by assumption : o2 = ((atL a l).take (atL a l).length).map lineF); rw [List.take_length] at e; unfold shownF; rw [List.take_length, ← e]; exact lastTen_cut rfl) rfl rfl (.at ((max 0 ((o2.length : Int) - 10)).toNat) rfl (by omega)) .no .no (by simp) Tryd.underlying35 (by kernel_rfl) (by kernel_rfl) (by omega) (by omega) (by omega) (by omega)) rfl rfl rfl ?_)
    refine st rfl (o_y (v := .slice (cutA strTy Ao2 ((max 0 ((o2.length : Int) - 10)).toNat) co2) (shownF l a).length (co2 - ((max 0 ((o2.length : Int) - 10)).toNat))) (y_as rfl) rfl rfl rfl ?_)
    refine s_nil ?_
    refine q_then ?_
    refine c_ret ?_
    refine e_stillw 5 rfl ?_
    refine e_mark 0 rfl ?_
    refine c_fin (I' := [rd strTy (cutA strTy Ao2 ((max 0 ((o2.length : Int) - 10)).toNat) co2) (co2 - ((max 0 ((o2.length : Int) - 10)).toNat)) (shownF l a)]) [] [0, 1] rfl (.tmp rfl .nil) rfl rfl rfl ?_
    exact ⟨_, _, rfl, rfl, rfl⟩
  ·
    exact hX.elim
theorem rShown_ (A : Option Addr) (c : Nat) (l : List Rec) (a : Lab) (hs : l.length ≤ 1000000) (hm : ∀ y ∈ l, recSm y) : Con Tryd.prog 24 [.slice A l.length c, .agg #[.int .i64 a.lv, .int .u64 (a.cs : Int), .int .i64 a.ig]] [] [rd recTy A c l] (fun v L' I' => ∃ A1 : Option Addr, ∃ c1 : Nat, v = .slice A1 (shownF l a).length c1 ∧ L' = [] ∧ I' = [rd strTy A1 c1 (shownF l a)]) := by
  refine fn_of Tryd.func24 rfl Tryd.ntmps24 (by kernel_rfl) rfl (fun C => ?_)
  refine c_seq ?_
  refine c_region ?_
  refine st rfl (o_box (cs := [.int .i64 a.lv, .int .u64 (a.cs : Int), .int .i64 a.ig]) (T := 26) rfl rfl rfl rfl (fun _ => by kernel_rfl) (fun b1 => ?_))
  refine st rfl (o_y (v := .slice none 0 0) (y_as rfl) rfl rfl rfl ?_)
  refine s_nil ?_
  refine q_then ?_
  refine c_seq ?_
  refine c_region ?_
  refine st rfl (o_y (v := .slice none 0 0) (y_as rfl) rfl rfl rfl ?_)
  refine s_nil ?_
  refine q_then ?_
  refine c_seq ?_
  refine c_seq ?_
  refine c_region ?_
  refine st rfl (o_y (v := .int .i64 0) (y_as rfl) rfl rfl rfl ?_)
  refine s_nil ?_
  refine q_then ?_
  refine c_block ?_
  refine e_nil strTy 9 ?_
  refine c_loopn (ι := Nat × (List ByteArray) × (Option Addr) × Nat) (fun (k, o, Ao, co) => (k ≤ l.length) ∧ (o = (atL a (l.take k)).map lineF)) (fun (k, o, Ao, co) => [(0, .slice A l.length c), (3, .pointer (some ⟨b1, 0, none⟩)), (4, .slice none 0 0), (5, .slice Ao o.length co), (6, .int .i64 (k : Int))]) (fun (k, o, Ao, co) => [pt b1 [.int .i64 a.lv, .int .u64 (a.cs : Int), .int .i64 a.ig] 26, ars strTy 9 Ao co o]) (fun (k, o, Ao, co) => [rd recTy A c l]) (fun (k, o, Ao, co) => l.length - k) (0, ([] : List ByteArray), none, 0) [1, 0] [0] (show (0 ≤ l.length) ∧ (([] : List ByteArray) = (atL a (l.take 0)).map lineF) from ⟨by first | omega | simp_all | (simp; done), by simp [atL]⟩) ((.cons rfl rfl (.cons rfl rfl (.cons rfl rfl (.cons rfl (show (.slice none 0 0 : Value) = .slice none ([] : List ByteArray).length 0 from by first | rfl | (congr 1; omega) | (congr 1; simp; done) | (congr 1; simp; omega)) (.cons rfl rfl .nil)))))) rfl rfl ?_
  rintro ⟨k, o, Ao, co⟩ ⟨hk, ho⟩
  show Ent 34 C [(0, .slice A l.length c), (3, .pointer (some ⟨b1, 0, none⟩)), (4, .slice none 0 0), (5, .slice Ao o.length co), (6, .int .i64 (k : Int))] [] [pt b1 [.int .i64 a.lv, .int .u64 (a.cs : Int), .int .i64 a.ig] 26, ars strTy 9 Ao co o] [rd recTy A c l] _
  refine c_seq ?_
  refine c_seq ?_
  refine c_region ?_
  refine st rfl (o_y (v := .int .i64 (k : Int)) (y_mv rfl) rfl rfl rfl ?_)
  refine st rfl (o_y (v := .slice A l.length c) (y_mv rfl) rfl rfl rfl ?_)
  refine st rfl (o_y (v := .int .i64 (l.length : Int)) (y_k rfl rfl (fun _ => by kernel_rfl)) rfl rfl rfl ?_)
  refine e_by ((k : Int) < (l.length : Int)) (fun h1 => ?_) (fun h1 => ?_)
  ·
    refine st rfl (o_y (v := .bool true) (y_t (y_k (v := .bool (decide ((k : Int) < (l.length : Int)))) rfl rfl (fun _ => by kernel_rfl)) h1) rfl rfl rfl ?_)
    refine s_nil ?_
    refine q_then ?_
    refine c_true rfl ?_
    refine c_skip ?_
    refine q_then ?_
    refine c_seq ?_
    refine c_block ?_
    refine c_seq ?_
    refine e_at 0 k rfl (by first | omega | (simp only [List.length_append, List.length_map, List.length_take, List.length_drop]; omega)) (fun b2 o1 x1 hA1 hx1 => ?_)
    refine c_draw (l := ticked 7 0) [(⟨b1, 0, none⟩, .int .i64 a.lv), (⟨b1, 1, none⟩, .int .u64 (a.cs : Int)), (⟨b1, 2, none⟩, .int .i64 a.ig)] [] (by kernel_rfl) rfl rfl ?_
    refine a_y (i := 0) (v := .slice A l.length c) (ticked 7 1) rfl (by as_aux_lemma => kernel_rfl) rfl rfl rfl (by exact y_mv rfl) ?_
    refine a_y (i := 1) (v := .int .i64 (k : Int)) (ticked 7 3) rfl (by as_aux_lemma => kernel_rfl) rfl rfl rfl (by exact y_mv rfl) ?_
    refine a_y (i := 2) (v := .pointer (some ⟨b2, o1 + k * 7, none⟩)) (ticked 7 7) rfl (by as_aux_lemma => kernel_rfl) rfl rfl rfl (by exact y_at (d := recTy) (l := l) k hA1 rfl rfl rfl (rfl) (List.getElem?_eq_some_iff.1 hx1).1 Tryd.underlying22 (by kernel_rfl) (by kernel_rfl)) ?_
    refine a_y (i := 3) (v := .pointer (some ⟨b2, o1 + k * 7 + 4, none⟩)) (ticked 7 15) rfl (by as_aux_lemma => kernel_rfl) rfl rfl rfl (by exact y_k rfl rfl (fun _ => by kernel_rfl)) ?_
    refine a_held (i := 5) (ticked 7 47) rfl (by as_aux_lemma => kernel_rfl) rfl rfl rfl (held_pt 0 rfl rfl (held_pt 0 rfl rfl (held_pt 0 rfl rfl held_nil))) (h_ldn (vs := [.int .i64 a.lv, .int .u64 (a.cs : Int), .int .i64 a.ig]) 0 3 rfl rfl rfl Tryd.underlying26 rfl (by kernel_rfl) (by kernel_rfl)) ?_
    refine a_each (rs := [4]) (by as_aux_lemma => kernel_rfl) (.cons (ticked 7 63) rfl rfl rfl (o_ldnf 0 4 3 rfl rfl rfl rfl Tryd.underlying26 rfl (by kernel_rfl) (by kernel_rfl) rfl ?_) .nil) (List.cons_ne_nil _ _)
    refine a_and (held_pt 0 rfl rfl (held_pt 0 rfl rfl (held_pt 0 rfl rfl held_nil))) ?_
    refine e_by (x1.lab = a) (fun h2 => ?_) (fun h2 => ?_)
    ·
      refine a_y (i := 6) (v := .bool true) (ticked 7 127) rfl (by as_aux_lemma => kernel_rfl) rfl rfl rfl (by exact y_t (y_bin rfl rfl (fun w => eq_Lab x1.lab a w)) h2) ?_
      refine a_done (by as_aux_lemma => kernel_rfl) ?_
      refine q_then ?_
      refine c_true rfl ?_
      refine c_region ?_
      refine st rfl (o_y (v := .slice Ao o.length co) (y_mv rfl) rfl rfl rfl ?_)
      refine st rfl (o_y (v := .slice A l.length c) (y_mv rfl) rfl rfl rfl ?_)
      refine st rfl (o_y (v := .int .i64 (k : Int)) (y_mv rfl) rfl rfl rfl ?_)
      refine st rfl (o_y (v := .pointer (some ⟨b2, o1 + k * 7, none⟩)) (y_at (d := recTy) (l := l) k hA1 rfl rfl rfl (rfl) (List.getElem?_eq_some_iff.1 hx1).1 Tryd.underlying22 (by kernel_rfl) (by kernel_rfl)) rfl rfl rfl ?_)
      refine st rfl (o_ldnf 0 0 7 rfl rfl rfl rfl Tryd.underlying28 rfl (by kernel_rfl) (by kernel_rfl) rfl ?_)
      refine st rfl (o_call [] [] (rLine_ x1 (by first | assumption | exact (by assumption : ∀ y ∈ _, recSm y) _ (List.mem_of_getElem? (by assumption)))) rfl rfl rfl rfl rfl rfl (fun v L' I' hq1 => ?_))
      obtain ⟨rfl, rfl, rfl⟩ := hq1
      refine st rfl (o_lit (cs := [.string (lineF x1)]) (T := 9) (m := 1) rfl rfl rfl rfl (fun _ => by kernel_rfl) (fun b3 => ?_))
      refine st rfl (o_app (l := o) (us := [lineF x1]) 2 rfl rfl rfl rfl rfl (src_pt 0 rfl) Tryd.underlying35 (elem_of (z := .string (⟨#[]⟩ : ByteArray)) (sz := 1) (bytes := 16) (by kernel_rfl) rfl) rfl (by have h1 := shown_len ho; simp only [List.length_cons, List.length_nil]; omega) rfl rfl (fun A1 c1 => ?_))
      refine st rfl (o_y (v := .slice A1 (o ++ [lineF x1]).length c1) (y_as rfl) rfl rfl rfl ?_)
      refine s_nil ?_
      refine q_block ?_
      refine q_then ?_
      refine c_region ?_
      refine st rfl (o_y (v := .int .i64 (k : Int)) (y_mv rfl) rfl rfl rfl ?_)
      refine st rfl (o_y (v := .int .i64 ((k : Int) + 1)) (y_add (r := (k : Int) + 1) rfl rfl rfl (by have h1 := shown_len ho; omega)) rfl rfl rfl ?_)
      refine st rfl (o_y (v := .int .i64 ((k : Int) + 1)) (y_as rfl) rfl rfl rfl ?_)
      refine s_nil ?_
      refine q_then ?_
      refine c_next [1, 1] [1] (k + 1, o ++ [lineF x1], A1, c1) ?_ ?_ ?_ (by rfl) (by rfl)
      · exact (show ((k + 1) ≤ l.length) ∧ ((o ++ [lineF x1]) = (atL a (l.take (k + 1))).map lineF) from ⟨by first | omega | simp_all | (simp; done), by first | exact rshown_t ho hx1 (by assumption) | exact rshown_f ho hx1 (by assumption)⟩)
      · show l.length - (k + 1) < l.length - k; omega
      · exact (.cons rfl rfl (.cons rfl rfl (.cons rfl rfl (.cons rfl rfl (.cons rfl (show (.int .i64 ((k : Int) + 1) : Value) = .int .i64 ((k + 1) : Int) from by first | rfl | (congr 1; omega) | (congr 1; simp; done) | (congr 1; simp; omega)) .nil)))))
    ·
      refine a_y (i := 6) (v := .bool false) (ticked 7 127) rfl (by as_aux_lemma => kernel_rfl) rfl rfl rfl (by exact y_f (y_bin rfl rfl (fun w => eq_Lab x1.lab a w)) h2) ?_
      refine a_done (by as_aux_lemma => kernel_rfl) ?_
      refine q_then ?_
      refine c_false rfl ?_
      refine c_skip ?_
      refine q_block ?_
      refine q_then ?_
      refine c_region ?_
      refine st rfl (o_y (v := .int .i64 (k : Int)) (y_mv rfl) rfl rfl rfl ?_)
      refine st rfl (o_y (v := .int .i64 ((k : Int) + 1)) (y_add (r := (k : Int) + 1) rfl rfl rfl (by have h1 := shown_len ho; omega)) rfl rfl rfl ?_)
      refine st rfl (o_y (v := .int .i64 ((k : Int) + 1)) (y_as rfl) rfl rfl rfl ?_)
      refine s_nil ?_
      refine q_then ?_
      refine c_next [0, 0] [1] (k + 1, o, Ao, co) ?_ ?_ ?_ (by rfl) (by rfl)
      · exact (show ((k + 1) ≤ l.length) ∧ (o = (atL a (l.take (k + 1))).map lineF) from ⟨by first | omega | simp_all | (simp; done), by first | exact rshown_t ho hx1 (by assumption) | exact rshown_f ho hx1 (by assumption)⟩)
      · show l.length - (k + 1) < l.length - k; omega
      · exact (.cons rfl rfl (.cons rfl rfl (.cons rfl rfl (.cons rfl rfl (.cons rfl (show (.int .i64 ((k : Int) + 1) : Value) = .int .i64 ((k + 1) : Int) from by first | rfl | (congr 1; omega) | (congr 1; simp; done) | (congr 1; simp; omega)) .nil)))))
  ·
    refine st rfl (o_y (v := .bool false) (y_f (y_k (v := .bool (decide ((k : Int) < (l.length : Int)))) rfl rfl (fun _ => by kernel_rfl)) h1) rfl rfl rfl ?_)
    refine s_nil ?_
    refine q_then ?_
    refine c_false rfl ?_
    refine c_exit ?_
    refine q_then_exit ?_
    refine q_then_exit ?_
    refine q_block_here ?_
    refine q_then ?_
    refine c_seq ?_
    refine c_region ?_
    refine st rfl (o_y (v := .slice Ao o.length co) (y_mv rfl) rfl rfl rfl ?_)
    refine st rfl (o_y (v := .slice Ao o.length co) (y_mv rfl) rfl rfl rfl ?_)
    refine st rfl (o_y (v := .int .i64 (o.length : Int)) (y_k rfl rfl (fun _ => by kernel_rfl)) rfl rfl rfl ?_)
    refine st rfl (o_y (v := .int .i64 ((o.length : Int) - 10)) (y_sub (r := (o.length : Int) - 10) rfl rfl rfl (by have h1 := shown_len ho; omega)) rfl rfl rfl ?_)
    refine st rfl (o_y (v := .int .i64 (max 0 ((o.length : Int) - 10))) (y_maxi (p := 0) (q := (o.length : Int) - 10) rfl rfl) rfl rfl rfl ?_)
    refine e_weak 1 rfl (fun _ h => h.win) ?_
    refine e_know 1 rfl (fun _ h => win.lens _ h) (fun hl1 => ?_)
    refine e_weak 1 rfl (fun _ h => h.cut2 (lo := (max 0 ((o.length : Int) - 10)).toNat) (hi := o.length) (mx := co) (l2 := shownF l a) (by have e0 : k = l.length := (by omega); rw [e0, List.take_length] at ho; unfold shownF; rw [List.take_length, ← ho]; exact lastTen_cut rfl) (by omega) (by omega) (by omega) (by omega)) ?_
    refine st rfl (o_y (v := .slice (cutA strTy Ao ((max 0 ((o.length : Int) - 10)).toNat) co) (shownF l a).length (co - ((max 0 ((o.length : Int) - 10)).toNat))) (y_cut (d := strTy) (l := o) (l2 := shownF l a) ((max 0 ((o.length : Int) - 10)).toNat) o.length co (by have e0 : k = l.length := (by omega); rw [e0, List.take_length] at ho; unfold shownF; rw [List.take_length, ← ho]; exact lastTen_cut rfl) rfl rfl (.at ((max 0 ((o.length : Int) - 10)).toNat) rfl (by omega)) .no .no (by simp) Tryd.underlying35 (by kernel_rfl) (by kernel_rfl) (by omega) (by omega) (by omega) (by omega)) rfl rfl rfl ?_)
    refine st rfl (o_y (v := .slice (cutA strTy Ao ((max 0 ((o.length : Int) - 10)).toNat) co) (shownF l a).length (co - ((max 0 ((o.length : Int) - 10)).toNat))) (y_as rfl) rfl rfl rfl ?_)
    refine s_nil ?_
    refine q_then ?_
    refine c_ret ?_
    refine e_stillw 1 rfl ?_
    refine c_fin (I' := [rd strTy (cutA strTy Ao ((max 0 ((o.length : Int) - 10)).toNat) co) (co - ((max 0 ((o.length : Int) - 10)).toNat)) (shownF l a)]) [] [0, 1] rfl (.tmp rfl .nil) rfl rfl rfl ?_
    exact ⟨_, _, rfl, rfl, rfl⟩
end Go.Proofs.YtdfgedkjilpcgaaDoor
