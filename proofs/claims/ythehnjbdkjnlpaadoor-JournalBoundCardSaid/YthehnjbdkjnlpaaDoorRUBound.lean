/- The laws of chapter 15 (journal), walked over the given program; no condition but what stands in each theorem: part UBound. -/
import Derived.Test.YthehnjbdkjnlpaaDoorRJH
import Derived.Test.YthehnjbdkjnlpaaDoorRLQ
import Derived.Test.YthehnjbdkjnlpaaDoorRLR
set_option linter.unusedVariables false
set_option linter.unusedSimpArgs false
set_option maxRecDepth 100000
set_option maxHeartbeats 8000000
namespace Go.Proofs.YthehnjbdkjnlpaaDoor
open Go Go.Sl Go.RowKit Go.Extern.Stop Go.Stop Go.Extern
theorem JournalBound_ (ef : Addr) (es : Addr) (B : Option Addr) (d : Nat) (rules : List Rul) (A : Option Addr) (c : Nat) (l : List Jen) (stp : Int) (cur : Lab) (id : Int) (da : ByteArray) (hbr : ∀ y ∈ rules, y.wh.fm.size ≤ 9223372036854775807) (hbl : ∀ y ∈ l, y.da.size ≤ 9223372036854775807) (hzda : da.size ≤ 9223372036854775807) : Con Tryd.prog 5 [.slice B rules.length d, .slice A l.length c, .int .i64 stp, .agg #[.int .i64 cur.lv, .int .u64 (cur.cs : Int), .int .i64 cur.ig], .int .i64 id, .string da] [] [rd rulTy B d rules, rd entTy A c l, cellsAt 2 0 [.iface 154 (.pointer (some ef))], cellsAt 0 0 [.iface 154 (.pointer (some es))], errAt ef, errAt es, cellsAt 1 0 [.iface 121 (.agg #[.pointer (some ⟨4, 57, none⟩)])]] (fun v L' I' => v = .bool true ∧ L' = [] ∧ I' = []) := by
  have hl1 := fewJ_len l
  have hl2 := fewJ_sm l
  have hr1 := fewL_len rules
  have hr2 := fewL_sm rules
  have hd1 := cutD_size da
  have ha1 := rel_len (fewL rules) (fewJ l) stp cur id (cutD da)
  have ha2 : ∀ y ∈ (relF (fewL rules) (fewJ l) stp cur id (cutD da)).1, jenSm y := rel_sm hl2 (by omega)
  refine fn_of Tryd.func5 rfl Tryd.ntmps5 (by kernel_rfl) rfl (fun C => ?_)
  refine c_seq ?_
  refine c_region ?_
  refine st rfl (o_box (cs := [.int .i64 cur.lv, .int .u64 (cur.cs : Int), .int .i64 cur.ig]) (T := 26) rfl rfl rfl rfl (fun _ => by kernel_rfl) (fun b1 => ?_))
  refine st rfl (o_y (v := .bool false) (y_as rfl) rfl rfl rfl ?_)
  refine s_nil ?_
  refine q_then ?_
  refine c_seq ?_
  refine c_region ?_
  refine st rfl (o_call [] [2, 3, 4, 5, 6] (shown_ ef es) rfl rfl rfl rfl rfl rfl (fun v L' I' hq1 => ?_))
  obtain ⟨rfl, rfl, rfl⟩ := hq1
  refine st rfl (o_y (v := .bool true) (y_as rfl) rfl rfl rfl ?_)
  refine s_nil ?_
  refine q_then ?_
  refine c_seq ?_
  refine c_region ?_
  refine st rfl (o_y (v := .slice B rules.length d) (y_mv rfl) rfl rfl rfl ?_)
  refine st rfl (o_call [] [0] (fewl_ B d rules (by assumption)) rfl rfl rfl rfl rfl rfl (fun v L' I' hq2 => ?_))
  obtain ⟨A1, c1, rfl, rfl, rfl⟩ := hq2
  refine st rfl (o_y (v := .slice A1 (fewL rules).length c1) (y_as rfl) rfl rfl rfl ?_)
  refine s_nil ?_
  refine q_then ?_
  refine c_seq ?_
  refine c_region ?_
  refine st rfl (o_y (v := .slice A l.length c) (y_mv rfl) rfl rfl rfl ?_)
  refine st rfl (o_call [] [2] (fewj_ A c l (by assumption)) rfl rfl rfl rfl rfl rfl (fun v L' I' hq3 => ?_))
  obtain ⟨A2, c2, rfl, rfl, rfl⟩ := hq3
  refine st rfl (o_y (v := .slice A2 (fewJ l).length c2) (y_as rfl) rfl rfl rfl ?_)
  refine s_nil ?_
  refine q_then ?_
  refine c_seq ?_
  refine c_draw (l := ticked 13 0) [(⟨b1, 0, none⟩, .int .i64 cur.lv), (⟨b1, 1, none⟩, .int .u64 (cur.cs : Int)), (⟨b1, 2, none⟩, .int .i64 cur.ig)] [] (by kernel_rfl) rfl rfl ?_
  refine a_y (i := 0) (v := .slice A1 (fewL rules).length c1) (ticked 13 1) rfl (by as_aux_lemma => kernel_rfl) rfl rfl rfl (by exact y_mv rfl) ?_
  refine a_y (i := 1) (v := .slice A2 (fewJ l).length c2) (ticked 13 3) rfl (by as_aux_lemma => kernel_rfl) rfl rfl rfl (by exact y_mv rfl) ?_
  refine a_y (i := 2) (v := .int .i64 stp) (ticked 13 7) rfl (by as_aux_lemma => kernel_rfl) rfl rfl rfl (by exact y_mv rfl) ?_
  refine a_y (i := 4) (v := .int .i64 id) (ticked 13 23) rfl (by as_aux_lemma => kernel_rfl) rfl rfl rfl (by exact y_mv rfl) ?_
  refine a_y (i := 5) (v := .string da) (ticked 13 55) rfl (by as_aux_lemma => kernel_rfl) rfl rfl rfl (by exact y_mv rfl) ?_
  refine a_held (i := 3) (ticked 13 63) rfl (by as_aux_lemma => kernel_rfl) rfl rfl rfl (held_pt 0 rfl rfl (held_pt 0 rfl rfl (held_pt 0 rfl rfl held_nil))) (h_ldn (vs := [.int .i64 cur.lv, .int .u64 (cur.cs : Int), .int .i64 cur.ig]) 0 3 rfl rfl rfl Tryd.underlying26 rfl (by kernel_rfl) (by kernel_rfl)) ?_
  refine a_each (rs := [6]) (by as_aux_lemma => kernel_rfl) (.cons (ticked 13 127) rfl rfl rfl (o_call [] [] (cutd_ da (by omega)) rfl rfl rfl rfl rfl rfl (fun v L' I' hq4 => ?_)) .nil) (List.cons_ne_nil _ _)
  obtain ⟨rfl, rfl, rfl⟩ := hq4
  refine a_and (held_pt 0 rfl rfl (held_pt 0 rfl rfl (held_pt 0 rfl rfl held_nil))) ?_
  refine a_each (rs := [7]) (by as_aux_lemma => kernel_rfl) (.cons (ticked 13 255) rfl rfl rfl (o_call [] [1, 0, 4, 6, 5, 7, 8] (jRelease_ A1 c1 (fewL rules) A2 c2 (fewJ l) stp cur id (cutD da) ef es (by first | omega | (simp; done) | (simp; omega) | assumption) (by assumption) (by first | omega | (simp; done) | (simp; omega) | assumption) (by assumption) (by first | omega | assumption)) rfl rfl rfl rfl rfl rfl (fun v L' I' hq5 => ?_)) .nil) (List.cons_ne_nil _ _)
  obtain ⟨A3, c3, rfl, rfl, rfl⟩ := hq5
  refine a_and (held_pt 1 rfl rfl (held_pt 1 rfl rfl (held_pt 1 rfl rfl held_nil))) ?_
  refine a_y (i := 8) (v := .tuple #[.slice A3 ((relF (fewL rules) (fewJ l) stp cur id (cutD da)).1).length c3, .int .i64 ((relF (fewL rules) (fewJ l) stp cur id (cutD da)).2)]) (ticked 13 511) rfl (by as_aux_lemma => kernel_rfl) rfl rfl rfl (by exact y_mv rfl) ?_
  refine a_y (i := 9) (v := .slice A3 ((relF (fewL rules) (fewJ l) stp cur id (cutD da)).1).length c3) (ticked 13 1023) rfl (by as_aux_lemma => kernel_rfl) rfl rfl rfl (by exact y_k rfl rfl (fun _ => by kernel_rfl)) ?_
  refine a_y (i := 10) (v := .int .i64 ((relF (fewL rules) (fewJ l) stp cur id (cutD da)).2)) (ticked 13 2047) rfl (by as_aux_lemma => kernel_rfl) rfl rfl rfl (by exact y_k rfl rfl (fun _ => by kernel_rfl)) ?_
  refine a_y (i := 11) (v := .slice A3 ((relF (fewL rules) (fewJ l) stp cur id (cutD da)).1).length c3) (ticked 13 4095) rfl (by as_aux_lemma => kernel_rfl) rfl rfl rfl (by exact y_as rfl) ?_
  refine a_y (i := 12) (v := .int .i64 ((relF (fewL rules) (fewJ l) stp cur id (cutD da)).2)) (ticked 13 8191) rfl (by as_aux_lemma => kernel_rfl) rfl rfl rfl (by exact y_as rfl) ?_
  refine a_done (by as_aux_lemma => kernel_rfl) ?_
  refine q_then ?_
  refine c_seq ?_
  refine c_seq ?_
  refine c_region ?_
  refine st rfl (o_y (v := .int .i64 ((relF (fewL rules) (fewJ l) stp cur id (cutD da)).2)) (y_mv rfl) rfl rfl rfl ?_)
  refine e_by ((relF (fewL rules) (fewJ l) stp cur id (cutD da)).2 = 0) (fun h1 => ?_) (fun h1 => ?_)
  ·
    refine st rfl (o_y (v := .bool false) (y_nt (y_k (v := .bool (!decide ((relF (fewL rules) (fewJ l) stp cur id (cutD da)).2 = 0))) rfl rfl (fun _ => by kernel_rfl)) h1) rfl rfl rfl ?_)
    refine s_nil ?_
    refine q_then ?_
    refine c_false rfl ?_
    refine c_skip ?_
    refine q_then ?_
    refine c_seq ?_
    refine c_region ?_
    refine st rfl (o_y (v := .slice A1 (fewL rules).length c1) (y_mv rfl) rfl rfl rfl ?_)
    refine st rfl (o_y (v := .int .i64 id) (y_mv rfl) rfl rfl rfl ?_)
    refine st rfl (o_call [] [1] (rFind_ A1 c1 (fewL rules) id (by first | omega | (simp; done) | (simp; omega) | assumption)) rfl rfl rfl rfl rfl rfl (fun v L' I' hq6 => ?_))
    rcases hq6 with ⟨r1, h2, rfl, rfl, rfl⟩ | ⟨h3, rfl, rfl, rfl⟩
    ·
      refine st rfl (o_y (v := .tuple #[.agg #[.int .i64 r1.id, .int .i64 r1.fr.lv, .int .u64 (r1.fr.cs : Int), .int .i64 r1.fr.ig, .int .i64 r1.to.lv, .int .u64 (r1.to.cs : Int), .int .i64 r1.to.ig, .int .i64 r1.bu, .int .i64 r1.wh.kd, .int .i64 r1.wh.mx, .string r1.wh.fm], .bool true]) (y_mv rfl) rfl rfl rfl ?_)
      refine st rfl (o_y (v := .agg #[.int .i64 r1.id, .int .i64 r1.fr.lv, .int .u64 (r1.fr.cs : Int), .int .i64 r1.fr.ig, .int .i64 r1.to.lv, .int .u64 (r1.to.cs : Int), .int .i64 r1.to.ig, .int .i64 r1.bu, .int .i64 r1.wh.kd, .int .i64 r1.wh.mx, .string r1.wh.fm]) (y_k rfl rfl (fun _ => by kernel_rfl)) rfl rfl rfl ?_)
      refine st rfl (o_y (v := .bool true) (y_k rfl rfl (fun _ => by kernel_rfl)) rfl rfl rfl ?_)
      refine st rfl (o_box (cs := [.int .i64 0, .int .i64 0, .int .u64 0, .int .i64 0, .int .i64 0, .int .u64 0, .int .i64 0, .int .i64 0, .int .i64 0, .int .i64 0, .string (⟨#[]⟩ : ByteArray)]) (T := 41) rfl rfl rfl rfl (fun _ => by kernel_rfl) (fun b2 => ?_))
      refine st rfl (o_st 0 rfl rfl rfl rfl rfl (by kernel_rfl) (by kernel_rfl) rfl ?_)
      refine st rfl (o_y (v := .bool true) (y_as rfl) rfl rfl rfl ?_)
      refine s_nil ?_
      refine q_then ?_
      refine c_seq ?_
      refine c_seq ?_
      refine c_region ?_
      refine st rfl (o_y (v := .slice A3 ((relF (fewL rules) (fewJ l) stp cur id (cutD da)).1).length c3) (y_mv rfl) rfl rfl rfl ?_)
      refine st rfl (o_y (v := .int .i64 (((relF (fewL rules) (fewJ l) stp cur id (cutD da)).1).length : Int)) (y_k rfl rfl (fun _ => by kernel_rfl)) rfl rfl rfl ?_)
      refine st rfl (o_y (v := .slice A2 (fewJ l).length c2) (y_mv rfl) rfl rfl rfl ?_)
      refine st rfl (o_y (v := .int .i64 ((fewJ l).length : Int)) (y_k rfl rfl (fun _ => by kernel_rfl)) rfl rfl rfl ?_)
      refine st rfl (o_y (v := .int .i64 (((fewJ l).length : Int) + 1)) (y_add (r := ((fewJ l).length : Int) + 1) rfl rfl rfl (by first | omega | (have q9 := spent_le (fewJ l) id hl2; omega))) rfl rfl rfl ?_)
      have h4 : (((relF (fewL rules) (fewJ l) stp cur id (cutD da)).1).length : Int) = ((fewJ l).length : Int) + 1 := jb_len h1
      refine st rfl (o_y (v := .bool false) (y_nt (y_k (v := .bool (!decide ((((relF (fewL rules) (fewJ l) stp cur id (cutD da)).1).length : Int) = ((fewJ l).length : Int) + 1))) rfl rfl (fun _ => by kernel_rfl)) h4) rfl rfl rfl ?_)
      refine st rfl (o_y (v := .bool false) (y_mv rfl) rfl rfl rfl ?_)
      refine st_on 55 rfl rfl rfl (o_y (v := .slice A1 (fewL rules).length c1) (y_mv rfl) rfl rfl rfl ?_)
      refine st_on 55 rfl rfl rfl (o_y (v := .slice A3 ((relF (fewL rules) (fewJ l) stp cur id (cutD da)).1).length c3) (y_mv rfl) rfl rfl rfl ?_)
      refine st_on 55 rfl rfl rfl (o_lend [1] [] [1, 4, 6, 5, 7, 8] (Con.wide (I2 := [rd entTy A3 c3 ((relF (fewL rules) (fewJ l) stp cur id (cutD da)).1), rd rulTy A1 c1 (fewL rules), cellsAt 2 0 [.iface 154 (.pointer (some ef))], errAt ef, cellsAt 0 0 [.iface 154 (.pointer (some es))], errAt es, cellsAt 1 0 [.iface 121 (.agg #[.pointer (some ⟨4, 57, none⟩)])]]) (jRight_ A1 c1 (fewL rules) A3 c3 ((relF (fewL rules) (fewJ l) stp cur id (cutD da)).1) ef es (by first | omega | (simp; done) | (simp; omega) | assumption) (by assumption) (by first | omega | (simp; done) | (simp; omega) | assumption) (by assumption)) (by intro φ h; simp only [List.mem_cons, List.not_mem_nil, or_false] at h ⊢; grind)) (.cons lend_win .nil) rfl rfl rfl rfl rfl rfl rfl rfl (fun v L' I' hq7 => ?_))
      obtain ⟨hv1, rfl, rfl⟩ := hq7
      refine ⟨rfl, ?_⟩
      obtain rfl : v = .bool true := by rw [hv1, decide_eq_true (show jRight (fewL rules) ((relF (fewL rules) (fewJ l) stp cur id (cutD da)).1) from jb_right h1)]
      refine st_on 55 rfl rfl rfl (o_y (v := .bool false) (y_k rfl rfl (fun _ => by kernel_rfl)) rfl rfl rfl ?_)
      refine st rfl (o_y (v := .bool false) (y_pick rfl rfl) rfl rfl rfl ?_)
      refine s_nil ?_
      refine q_then ?_
      refine c_false rfl ?_
      refine c_skip ?_
      refine q_then ?_
      refine c_seq ?_
      refine c_region ?_
      refine st rfl (o_y (v := .slice A3 ((relF (fewL rules) (fewJ l) stp cur id (cutD da)).1).length c3) (y_mv rfl) rfl rfl rfl ?_)
      refine st rfl (o_y (v := .slice A3 ((relF (fewL rules) (fewJ l) stp cur id (cutD da)).1).length c3) (y_mv rfl) rfl rfl rfl ?_)
      refine st rfl (o_y (v := .int .i64 (((relF (fewL rules) (fewJ l) stp cur id (cutD da)).1).length : Int)) (y_k rfl rfl (fun _ => by kernel_rfl)) rfl rfl rfl ?_)
      refine st rfl (o_y (v := .int .i64 ((((relF (fewL rules) (fewJ l) stp cur id (cutD da)).1).length : Int) - 1)) (y_sub (r := (((relF (fewL rules) (fewJ l) stp cur id (cutD da)).1).length : Int) - 1) rfl rfl rfl (by first | omega | (have q9 := spent_le (fewJ l) id hl2; omega))) rfl rfl rfl ?_)
      obtain ⟨x1, hx1⟩ : ∃ x, ((relF (fewL rules) (fewJ l) stp cur id (cutD da)).1)[(((relF (fewL rules) (fewJ l) stp cur id (cutD da)).1.length : Int) - 1).toNat]? = some x := ⟨_, List.getElem?_eq_getElem (by omega)⟩
      refine e_winb 0 rfl (by omega) (fun b3 o1 hA1 => ?_)
      refine st rfl (o_y (v := .pointer (some ⟨b3, o1 + ((((relF (fewL rules) (fewJ l) stp cur id (cutD da)).1.length : Int) - 1).toNat) * 6, none⟩)) (y_at (d := entTy) (l := (relF (fewL rules) (fewJ l) stp cur id (cutD da)).1) ((((relF (fewL rules) (fewJ l) stp cur id (cutD da)).1.length : Int) - 1).toNat) hA1 rfl rfl rfl (by omega) (by omega) Tryd.underlying23 (by kernel_rfl) (by kernel_rfl)) rfl rfl rfl ?_)
      refine st rfl (o_ldwn (d := entTy) 0 ((((relF (fewL rules) (fewJ l) stp cur id (cutD da)).1.length : Int) - 1).toNat) rfl hA1 hx1 rfl rfl Tryd.underlying46 rfl (by kernel_rfl) (by kernel_rfl) rfl ?_)
      refine st rfl (o_box (cs := [.int .i64 0, .int .i64 0, .int .i64 0, .int .u64 0, .int .i64 0, .string (⟨#[]⟩ : ByteArray)]) (T := 46) rfl rfl rfl rfl (fun _ => by kernel_rfl) (fun b4 => ?_))
      refine st rfl (o_st 0 rfl rfl rfl rfl rfl (by kernel_rfl) (by kernel_rfl) rfl ?_)
      refine s_nil ?_
      refine q_then ?_
      refine c_seq ?_
      refine e_stillw 1 rfl ?_
      refine c_draw (l := ticked 51 0) [(⟨b2, 1, none⟩, .int .i64 r1.fr.lv), (⟨b2, 2, none⟩, .int .u64 (r1.fr.cs : Int)), (⟨b2, 3, none⟩, .int .i64 r1.fr.ig), (⟨b1, 0, none⟩, .int .i64 cur.lv), (⟨b1, 1, none⟩, .int .u64 (cur.cs : Int)), (⟨b1, 2, none⟩, .int .i64 cur.ig), (⟨b4, 0, none⟩, .int .i64 x1.st), (⟨b4, 1, none⟩, .int .i64 x1.ru), (⟨b4, 2, none⟩, .int .i64 x1.to.lv), (⟨b4, 3, none⟩, .int .u64 (x1.to.cs : Int)), (⟨b4, 4, none⟩, .int .i64 x1.to.ig), (⟨b4, 5, none⟩, .string x1.da), (⟨b2, 4, none⟩, .int .i64 r1.to.lv), (⟨b2, 5, none⟩, .int .u64 (r1.to.cs : Int)), (⟨b2, 6, none⟩, .int .i64 r1.to.ig), (⟨b2, 7, none⟩, .int .i64 r1.bu)] [] (by kernel_rfl) rfl rfl ?_
      refine a_y (i := 0) (v := .bool true) (ticked 51 1) rfl (by as_aux_lemma => kernel_rfl) rfl rfl rfl (by exact y_mv rfl) ?_
      refine a_y (i := 1) (v := .bool true) (ticked 51 3) rfl (by as_aux_lemma => kernel_rfl) rfl rfl rfl (by exact y_mv rfl) ?_
      refine a_y_on (i := 2) (v := .bool true) 68 (ticked 51 7) rfl (by as_aux_lemma => kernel_rfl) rfl rfl rfl rfl rfl (by exact y_mv rfl) ?_
      refine a_y (i := 3) (v := .bool true) (ticked 51 15) rfl (by as_aux_lemma => kernel_rfl) rfl rfl rfl (by exact y_pick rfl rfl) ?_
      refine a_y (i := 4) (v := .bool true) (ticked 51 31) rfl (by as_aux_lemma => kernel_rfl) rfl rfl rfl (by exact y_mv rfl) ?_
      refine a_y_on (i := 5) (v := .pointer (some ⟨b2, 1, none⟩)) 71 (ticked 51 63) rfl (by as_aux_lemma => kernel_rfl) rfl rfl rfl rfl rfl (by exact y_k rfl rfl (fun _ => by kernel_rfl)) ?_
      refine a_held_on (i := 6) 71 (ticked 51 127) rfl (by as_aux_lemma => kernel_rfl) rfl rfl rfl rfl rfl (held_pt 1 rfl rfl (held_pt 1 rfl rfl (held_pt 1 rfl rfl (held_pt 2 rfl rfl (held_pt 2 rfl rfl (held_pt 2 rfl rfl (held_pt 0 rfl rfl (held_pt 0 rfl rfl (held_pt 0 rfl rfl (held_pt 0 rfl rfl (held_pt 0 rfl rfl (held_pt 0 rfl rfl (held_pt 1 rfl rfl (held_pt 1 rfl rfl (held_pt 1 rfl rfl (held_pt 1 rfl rfl held_nil)))))))))))))))) (h_ldn (vs := [.int .i64 r1.fr.lv, .int .u64 (r1.fr.cs : Int), .int .i64 r1.fr.ig]) 0 3 rfl rfl rfl Tryd.underlying26 rfl (by kernel_rfl) (by kernel_rfl)) ?_
      refine a_held_on (i := 7) 71 (ticked 51 255) rfl (by as_aux_lemma => kernel_rfl) rfl rfl rfl rfl rfl (held_pt 1 rfl rfl (held_pt 1 rfl rfl (held_pt 1 rfl rfl (held_pt 2 rfl rfl (held_pt 2 rfl rfl (held_pt 2 rfl rfl (held_pt 0 rfl rfl (held_pt 0 rfl rfl (held_pt 0 rfl rfl (held_pt 0 rfl rfl (held_pt 0 rfl rfl (held_pt 0 rfl rfl (held_pt 1 rfl rfl (held_pt 1 rfl rfl (held_pt 1 rfl rfl (held_pt 1 rfl rfl held_nil)))))))))))))))) (h_ldn (vs := [.int .i64 cur.lv, .int .u64 (cur.cs : Int), .int .i64 cur.ig]) 3 3 rfl rfl rfl Tryd.underlying26 rfl (by kernel_rfl) (by kernel_rfl)) ?_
      have h5 : r1.fr = cur := jb_fr h1 h2
      refine a_y_on (i := 8) (v := .bool true) 71 (ticked 51 511) rfl (by as_aux_lemma => kernel_rfl) rfl rfl rfl rfl rfl (by exact y_t (y_bin rfl rfl (fun w => eq_Lab r1.fr cur w)) h5) ?_
      refine a_y (i := 9) (v := .bool true) (ticked 51 1023) rfl (by as_aux_lemma => kernel_rfl) rfl rfl rfl (by exact y_pick rfl rfl) ?_
      refine a_y (i := 10) (v := .bool true) (ticked 51 2047) rfl (by as_aux_lemma => kernel_rfl) rfl rfl rfl (by exact y_mv rfl) ?_
      refine a_y_on (i := 12) (v := .int .i64 stp) 77 (ticked 51 6143) rfl (by as_aux_lemma => kernel_rfl) rfl rfl rfl rfl rfl (by exact y_mv rfl) ?_
      refine a_y_on (i := 13) (v := .int .i64 id) 77 (ticked 51 14335) rfl (by as_aux_lemma => kernel_rfl) rfl rfl rfl rfl rfl (by exact y_mv rfl) ?_
      refine a_y_on (i := 14) (v := .pointer (some ⟨b2, 4, none⟩)) 77 (ticked 51 30719) rfl (by as_aux_lemma => kernel_rfl) rfl rfl rfl rfl rfl (by exact y_k rfl rfl (fun _ => by kernel_rfl)) ?_
      refine a_y_on (i := 16) (v := .string da) 77 (ticked 51 96255) rfl (by as_aux_lemma => kernel_rfl) rfl rfl rfl rfl rfl (by exact y_mv rfl) ?_
      refine a_held_on (i := 11) 77 (ticked 51 98303) rfl (by as_aux_lemma => kernel_rfl) rfl rfl rfl rfl rfl (held_pt 1 rfl rfl (held_pt 1 rfl rfl (held_pt 1 rfl rfl (held_pt 2 rfl rfl (held_pt 2 rfl rfl (held_pt 2 rfl rfl (held_pt 0 rfl rfl (held_pt 0 rfl rfl (held_pt 0 rfl rfl (held_pt 0 rfl rfl (held_pt 0 rfl rfl (held_pt 0 rfl rfl (held_pt 1 rfl rfl (held_pt 1 rfl rfl (held_pt 1 rfl rfl (held_pt 1 rfl rfl held_nil)))))))))))))))) (h_ldn (vs := [.int .i64 x1.st, .int .i64 x1.ru, .int .i64 x1.to.lv, .int .u64 (x1.to.cs : Int), .int .i64 x1.to.ig, .string x1.da]) 6 6 rfl rfl rfl Tryd.underlying46 rfl (by kernel_rfl) (by kernel_rfl)) ?_
      refine a_held_on (i := 15) 77 (ticked 51 131071) rfl (by as_aux_lemma => kernel_rfl) rfl rfl rfl rfl rfl (held_pt 1 rfl rfl (held_pt 1 rfl rfl (held_pt 1 rfl rfl (held_pt 2 rfl rfl (held_pt 2 rfl rfl (held_pt 2 rfl rfl (held_pt 0 rfl rfl (held_pt 0 rfl rfl (held_pt 0 rfl rfl (held_pt 0 rfl rfl (held_pt 0 rfl rfl (held_pt 0 rfl rfl (held_pt 1 rfl rfl (held_pt 1 rfl rfl (held_pt 1 rfl rfl (held_pt 1 rfl rfl held_nil)))))))))))))))) (h_ldn (vs := [.int .i64 r1.to.lv, .int .u64 (r1.to.cs : Int), .int .i64 r1.to.ig]) 12 3 rfl rfl rfl Tryd.underlying26 rfl (by kernel_rfl) (by kernel_rfl)) ?_
      refine a_each (rs := [17]) (by as_aux_lemma => kernel_rfl) (.on 77 (ticked 51 262143) rfl rfl rfl rfl rfl (o_call [] [] (cutd_ da (by omega)) rfl rfl rfl rfl rfl rfl (fun v L' I' hq8 => ?_)) .nil) (List.cons_ne_nil _ _)
      obtain ⟨rfl, rfl, rfl⟩ := hq8
      refine a_and (held_pt 1 rfl rfl (held_pt 1 rfl rfl (held_pt 1 rfl rfl (held_pt 2 rfl rfl (held_pt 2 rfl rfl (held_pt 2 rfl rfl (held_pt 0 rfl rfl (held_pt 0 rfl rfl (held_pt 0 rfl rfl (held_pt 0 rfl rfl (held_pt 0 rfl rfl (held_pt 0 rfl rfl (held_pt 1 rfl rfl (held_pt 1 rfl rfl (held_pt 1 rfl rfl (held_pt 1 rfl rfl held_nil)))))))))))))))) ?_
      refine a_y_on (i := 18) (v := .agg #[.int .i64 stp, .int .i64 id, .int .i64 r1.to.lv, .int .u64 (r1.to.cs : Int), .int .i64 r1.to.ig, .string (cutD da)]) 77 (ticked 51 524287) rfl (by as_aux_lemma => kernel_rfl) rfl rfl rfl rfl rfl (by exact y_k rfl rfl (fun _ => by kernel_rfl)) ?_
      have h6 : x1 = (⟨stp, id, r1.to, cutD da⟩ : Jen) := jb_x h1 h2 (by assumption)
      refine a_y_on (i := 19) (v := .bool true) 77 (ticked 51 1048575) rfl (by as_aux_lemma => kernel_rfl) rfl rfl rfl rfl rfl (by exact y_t (y_bin rfl rfl (fun w => eq_Jen x1 (⟨stp, id, r1.to, cutD da⟩ : Jen) w)) h6) ?_
      refine a_y (i := 20) (v := .bool true) (ticked 51 2097151) rfl (by as_aux_lemma => kernel_rfl) rfl rfl rfl (by exact y_pick rfl rfl) ?_
      refine a_y (i := 21) (v := .bool true) (ticked 51 4194303) rfl (by as_aux_lemma => kernel_rfl) rfl rfl rfl (by exact y_mv rfl) ?_
      refine a_y_on (i := 22) (v := .slice A3 ((relF (fewL rules) (fewJ l) stp cur id (cutD da)).1).length c3) 88 (ticked 51 8388607) rfl (by as_aux_lemma => kernel_rfl) rfl rfl rfl rfl rfl (by exact y_mv rfl) ?_
      refine a_y_on (i := 23) (v := .int .i64 id) 88 (ticked 51 16777215) rfl (by as_aux_lemma => kernel_rfl) rfl rfl rfl rfl rfl (by exact y_mv rfl) ?_
      refine a_y_on (i := 25) (v := .pointer (some ⟨b2, 7, none⟩)) 88 (ticked 51 50331647) rfl (by as_aux_lemma => kernel_rfl) rfl rfl rfl rfl rfl (by exact y_k rfl rfl (fun _ => by kernel_rfl)) ?_
      refine a_held_on (i := 26) 88 (ticked 51 117440511) rfl (by as_aux_lemma => kernel_rfl) rfl rfl rfl rfl rfl (held_pt 1 rfl rfl (held_pt 1 rfl rfl (held_pt 1 rfl rfl (held_pt 2 rfl rfl (held_pt 2 rfl rfl (held_pt 2 rfl rfl (held_pt 0 rfl rfl (held_pt 0 rfl rfl (held_pt 0 rfl rfl (held_pt 0 rfl rfl (held_pt 0 rfl rfl (held_pt 0 rfl rfl (held_pt 1 rfl rfl (held_pt 1 rfl rfl (held_pt 1 rfl rfl (held_pt 1 rfl rfl held_nil)))))))))))))))) (h_ld 15 rfl rfl Tryd.underlying3 rfl) ?_
      refine a_each (rs := [24]) (by as_aux_lemma => kernel_rfl) (.on 88 (ticked 51 134217727) rfl rfl rfl rfl rfl (o_call [] [0] (jSpent_ A3 c3 ((relF (fewL rules) (fewJ l) stp cur id (cutD da)).1) id (by first | omega | (simp; done) | (simp; omega) | assumption) (by assumption)) rfl rfl rfl rfl rfl rfl (fun v L' I' hq9 => ?_)) .nil) (List.cons_ne_nil _ _)
      obtain ⟨rfl, rfl, rfl⟩ := hq9
      refine a_and (held_pt 1 rfl rfl (held_pt 1 rfl rfl (held_pt 1 rfl rfl (held_pt 2 rfl rfl (held_pt 2 rfl rfl (held_pt 2 rfl rfl (held_pt 0 rfl rfl (held_pt 0 rfl rfl (held_pt 0 rfl rfl (held_pt 0 rfl rfl (held_pt 0 rfl rfl (held_pt 0 rfl rfl (held_pt 1 rfl rfl (held_pt 1 rfl rfl (held_pt 1 rfl rfl (held_pt 1 rfl rfl held_nil)))))))))))))))) ?_
      have h7 : (spentF ((relF (fewL rules) (fewJ l) stp cur id (cutD da)).1) id : Int) ≤ r1.bu := jb_sp h1 h2
      refine a_y_on (i := 27) (v := .bool true) 88 (ticked 51 268435455) rfl (by as_aux_lemma => kernel_rfl) rfl rfl rfl rfl rfl (by exact y_t (y_k (v := .bool (decide ((spentF ((relF (fewL rules) (fewJ l) stp cur id (cutD da)).1) id : Int) ≤ r1.bu))) rfl rfl (fun _ => by kernel_rfl)) h7) ?_
      refine a_y (i := 28) (v := .bool true) (ticked 51 536870911) rfl (by as_aux_lemma => kernel_rfl) rfl rfl rfl (by exact y_pick rfl rfl) ?_
      refine a_y (i := 29) (v := .bool true) (ticked 51 1073741823) rfl (by as_aux_lemma => kernel_rfl) rfl rfl rfl (by exact y_mv rfl) ?_
      refine a_y_on (i := 30) (v := .slice A3 ((relF (fewL rules) (fewJ l) stp cur id (cutD da)).1).length c3) 96 (ticked 51 2147483647) rfl (by as_aux_lemma => kernel_rfl) rfl rfl rfl rfl rfl (by exact y_mv rfl) ?_
      refine a_y_on (i := 31) (v := .int .i64 id) 96 (ticked 51 4294967295) rfl (by as_aux_lemma => kernel_rfl) rfl rfl rfl rfl rfl (by exact y_mv rfl) ?_
      refine a_y_on (i := 33) (v := .slice A2 (fewJ l).length c2) 96 (ticked 51 12884901887) rfl (by as_aux_lemma => kernel_rfl) rfl rfl rfl rfl rfl (by exact y_mv rfl) ?_
      refine a_y_on (i := 34) (v := .int .i64 id) 96 (ticked 51 30064771071) rfl (by as_aux_lemma => kernel_rfl) rfl rfl rfl rfl rfl (by exact y_mv rfl) ?_
      refine a_y_on (i := 36) (v := .string da) 96 (ticked 51 98784247807) rfl (by as_aux_lemma => kernel_rfl) rfl rfl rfl rfl rfl (by exact y_mv rfl) ?_
      refine a_each (rs := [32]) (by as_aux_lemma => kernel_rfl) (.on 96 (ticked 51 103079215103) rfl rfl rfl rfl rfl (o_call [] [0] (jSpent_ A3 c3 ((relF (fewL rules) (fewJ l) stp cur id (cutD da)).1) id (by first | omega | (simp; done) | (simp; omega) | assumption) (by assumption)) rfl rfl rfl rfl rfl rfl (fun v L' I' hq10 => ?_)) .nil) (List.cons_ne_nil _ _)
      obtain ⟨rfl, rfl, rfl⟩ := hq10
      refine a_and (held_pt 1 rfl rfl (held_pt 1 rfl rfl (held_pt 1 rfl rfl (held_pt 2 rfl rfl (held_pt 2 rfl rfl (held_pt 2 rfl rfl (held_pt 0 rfl rfl (held_pt 0 rfl rfl (held_pt 0 rfl rfl (held_pt 0 rfl rfl (held_pt 0 rfl rfl (held_pt 0 rfl rfl (held_pt 1 rfl rfl (held_pt 1 rfl rfl (held_pt 1 rfl rfl (held_pt 1 rfl rfl held_nil)))))))))))))))) ?_
      refine a_each (rs := [35]) (by as_aux_lemma => kernel_rfl) (.on 96 (ticked 51 137438953471) rfl rfl rfl rfl rfl (o_call [] [1] (jSpent_ A2 c2 (fewJ l) id (by first | omega | (simp; done) | (simp; omega) | assumption) (by assumption)) rfl rfl rfl rfl rfl rfl (fun v L' I' hq11 => ?_)) .nil) (List.cons_ne_nil _ _)
      obtain ⟨rfl, rfl, rfl⟩ := hq11
      refine a_and (held_pt 1 rfl rfl (held_pt 1 rfl rfl (held_pt 1 rfl rfl (held_pt 2 rfl rfl (held_pt 2 rfl rfl (held_pt 2 rfl rfl (held_pt 0 rfl rfl (held_pt 0 rfl rfl (held_pt 0 rfl rfl (held_pt 0 rfl rfl (held_pt 0 rfl rfl (held_pt 0 rfl rfl (held_pt 1 rfl rfl (held_pt 1 rfl rfl (held_pt 1 rfl rfl (held_pt 1 rfl rfl held_nil)))))))))))))))) ?_
      refine a_each (rs := [37]) (by as_aux_lemma => kernel_rfl) (.on 96 (ticked 51 274877906943) rfl rfl rfl rfl rfl (o_call [] [] (cutd_ da (by omega)) rfl rfl rfl rfl rfl rfl (fun v L' I' hq12 => ?_)) .nil) (List.cons_ne_nil _ _)
      obtain ⟨rfl, rfl, rfl⟩ := hq12
      refine a_and (held_pt 1 rfl rfl (held_pt 1 rfl rfl (held_pt 1 rfl rfl (held_pt 2 rfl rfl (held_pt 2 rfl rfl (held_pt 2 rfl rfl (held_pt 0 rfl rfl (held_pt 0 rfl rfl (held_pt 0 rfl rfl (held_pt 0 rfl rfl (held_pt 0 rfl rfl (held_pt 0 rfl rfl (held_pt 1 rfl rfl (held_pt 1 rfl rfl (held_pt 1 rfl rfl (held_pt 1 rfl rfl held_nil)))))))))))))))) ?_
      refine a_y_on (i := 38) (v := .int .i64 ((cutD da).size : Int)) 96 (ticked 51 549755813887) rfl (by as_aux_lemma => kernel_rfl) rfl rfl rfl rfl rfl (by exact y_k rfl rfl (fun _ => by kernel_rfl)) ?_
      refine a_y_on (i := 39) (v := .int .i64 ((spentF (fewJ l) id : Int) + ((cutD da).size : Int))) 96 (ticked 51 1099511627775) rfl (by as_aux_lemma => kernel_rfl) rfl rfl rfl rfl rfl (by exact y_add (r := (spentF (fewJ l) id : Int) + ((cutD da).size : Int)) rfl rfl rfl (by first | omega | (have q9 := spent_le (fewJ l) id hl2; omega))) ?_
      have h8 : (spentF ((relF (fewL rules) (fewJ l) stp cur id (cutD da)).1) id : Int) = (spentF (fewJ l) id : Int) + ((cutD da).size : Int) := jb_eq h1
      refine a_y_on (i := 40) (v := .bool true) 96 (ticked 51 2199023255551) rfl (by as_aux_lemma => kernel_rfl) rfl rfl rfl rfl rfl (by exact y_t (y_k (v := .bool (decide ((spentF ((relF (fewL rules) (fewJ l) stp cur id (cutD da)).1) id : Int) = (spentF (fewJ l) id : Int) + ((cutD da).size : Int)))) rfl rfl (fun _ => by kernel_rfl)) h8) ?_
      refine a_y (i := 41) (v := .bool true) (ticked 51 4398046511103) rfl (by as_aux_lemma => kernel_rfl) rfl rfl rfl (by exact y_pick rfl rfl) ?_
      refine a_y (i := 42) (v := .bool true) (ticked 51 8796093022207) rfl (by as_aux_lemma => kernel_rfl) rfl rfl rfl (by exact y_mv rfl) ?_
      refine a_y_on (i := 43) (v := .slice A3 ((relF (fewL rules) (fewJ l) stp cur id (cutD da)).1).length c3) 109 (ticked 51 17592186044415) rfl (by as_aux_lemma => kernel_rfl) rfl rfl rfl rfl rfl (by exact y_mv rfl) ?_
      refine a_y_on (i := 44) (v := .slice A2 (fewJ l).length c2) 109 (ticked 51 35184372088831) rfl (by as_aux_lemma => kernel_rfl) rfl rfl rfl rfl rfl (by exact y_mv rfl) ?_
      refine a_y_on (i := 45) (v := .int .i64 ((fewJ l).length : Int)) 109 (ticked 51 70368744177663) rfl (by as_aux_lemma => kernel_rfl) rfl rfl rfl rfl rfl (by exact y_k rfl rfl (fun _ => by kernel_rfl)) ?_
      refine e_len 0 rfl (fun h9 h10 => ?_)
      refine e_cut2 (l2 := ((relF (fewL rules) (fewJ l) stp cur id (cutD da)).1).take ((fewJ l).length)) 0 0 ((fewJ l).length) c3 (by simp) rfl (by omega) (by omega) (by omega) ?_
      refine a_y_on (i := 46) (v := .slice (cutA entTy A3 0 c3) (((relF (fewL rules) (fewJ l) stp cur id (cutD da)).1).take ((fewJ l).length)).length (c3 - 0)) 109 (ticked 51 140737488355327) rfl (by as_aux_lemma => kernel_rfl) rfl rfl rfl rfl rfl (by exact y_cut (d := entTy) (l := (relF (fewL rules) (fewJ l) stp cur id (cutD da)).1) (l2 := ((relF (fewL rules) (fewJ l) stp cur id (cutD da)).1).take ((fewJ l).length)) 0 ((fewJ l).length) c3 (by simp) rfl rfl .no (.at ((fewJ l).length) rfl (rfl)) .no (by simp) Tryd.underlying23 (by kernel_rfl) (by kernel_rfl) (by omega) (by omega) (by omega) (by omega)) ?_
      refine a_y_on (i := 47) (v := .slice A2 (fewJ l).length c2) 109 (ticked 51 281474976710655) rfl (by as_aux_lemma => kernel_rfl) rfl rfl rfl rfl rfl (by exact y_mv rfl) ?_
      refine a_each (rs := [48]) (by as_aux_lemma => kernel_rfl) (.on 109 (ticked 51 562949953421311) rfl rfl rfl rfl rfl (o_call [] [0, 2] (jrSame_ (cutA entTy A3 0 c3) (c3 - 0) (((relF (fewL rules) (fewJ l) stp cur id (cutD da)).1).take ((fewJ l).length)) A2 c2 (fewJ l) (by first | omega | (simp; done) | (simp; omega) | assumption)) rfl rfl rfl rfl rfl rfl (fun v L' I' hq13 => ?_)) .nil) (List.cons_ne_nil _ _)
      obtain ⟨hv2, rfl, rfl⟩ := hq13
      obtain rfl : v = .bool true := by rw [hv2, decide_eq_true (show (((relF (fewL rules) (fewJ l) stp cur id (cutD da)).1).take ((fewJ l).length)) = (fewJ l) from jb_take h1)]
      refine a_and (held_pt 1 rfl rfl (held_pt 1 rfl rfl (held_pt 1 rfl rfl (held_pt 2 rfl rfl (held_pt 2 rfl rfl (held_pt 2 rfl rfl (held_pt 0 rfl rfl (held_pt 0 rfl rfl (held_pt 0 rfl rfl (held_pt 0 rfl rfl (held_pt 0 rfl rfl (held_pt 0 rfl rfl (held_pt 1 rfl rfl (held_pt 1 rfl rfl (held_pt 1 rfl rfl (held_pt 1 rfl rfl held_nil)))))))))))))))) ?_
      refine a_y (i := 49) (v := .bool true) (ticked 51 1125899906842623) rfl (by as_aux_lemma => kernel_rfl) rfl rfl rfl (by exact y_pick rfl rfl) ?_
      refine a_y (i := 50) (v := .bool true) (ticked 51 2251799813685247) rfl (by as_aux_lemma => kernel_rfl) rfl rfl rfl (by exact y_as rfl) ?_
      refine a_done (by as_aux_lemma => kernel_rfl) ?_
      refine q_then ?_
      refine c_ret ?_
      refine c_fin (I' := []) [] [4, 5, 6, 7, 8, 9, 10] rfl (.tmp rfl .nil) rfl rfl rfl ?_
      exact ⟨rfl, rfl, rfl⟩
    ·
      exact absurd h3 (jb_find h1)
  ·
    refine st rfl (o_y (v := .bool true) (y_nf (y_k (v := .bool (!decide ((relF (fewL rules) (fewJ l) stp cur id (cutD da)).2 = 0))) rfl rfl (fun _ => by kernel_rfl)) h1) rfl rfl rfl ?_)
    refine s_nil ?_
    refine q_then ?_
    refine c_true rfl ?_
    refine c_seq ?_
    refine c_region ?_
    refine st rfl (o_y (v := .bool true) (y_mv rfl) rfl rfl rfl ?_)
    refine st rfl (o_y (v := .bool true) (y_mv rfl) rfl rfl rfl ?_)
    refine st_on 38 rfl rfl rfl (o_y (v := .slice A3 ((relF (fewL rules) (fewJ l) stp cur id (cutD da)).1).length c3) (y_mv rfl) rfl rfl rfl ?_)
    refine st_on 38 rfl rfl rfl (o_y (v := .int .i64 (((relF (fewL rules) (fewJ l) stp cur id (cutD da)).1).length : Int)) (y_k rfl rfl (fun _ => by kernel_rfl)) rfl rfl rfl ?_)
    have h11 : (((relF (fewL rules) (fewJ l) stp cur id (cutD da)).1).length : Int) = 0 := by rw [rel_no h1]; rfl
    refine st_on 38 rfl rfl rfl (o_y (v := .bool true) (y_t (y_k (v := .bool (decide ((((relF (fewL rules) (fewJ l) stp cur id (cutD da)).1).length : Int) = 0))) rfl rfl (fun _ => by kernel_rfl)) h11) rfl rfl rfl ?_)
    refine st rfl (o_y (v := .bool true) (y_pick rfl rfl) rfl rfl rfl ?_)
    refine st rfl (o_y (v := .bool true) (y_as rfl) rfl rfl rfl ?_)
    refine s_nil ?_
    refine q_then ?_
    refine c_ret ?_
    refine q_then_ret ?_
    refine c_fin (I' := []) [] [2, 3, 4, 5, 6, 7, 8] rfl (.tmp rfl .nil) rfl rfl rfl ?_
    exact ⟨rfl, rfl, rfl⟩
end Go.Proofs.YthehnjbdkjnlpaaDoor
