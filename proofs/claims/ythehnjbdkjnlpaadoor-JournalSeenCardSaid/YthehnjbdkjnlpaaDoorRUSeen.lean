/- The laws of chapter 15 (journal), walked over the given program; no condition but what stands in each theorem: part USeen. -/
import Derived.Test.YthehnjbdkjnlpaaDoorRJH
import Derived.Test.YthehnjbdkjnlpaaDoorRLQ
import Derived.Test.YthehnjbdkjnlpaaDoorRLR
set_option linter.unusedVariables false
set_option linter.unusedSimpArgs false
set_option maxRecDepth 100000
set_option maxHeartbeats 8000000
namespace Go.Proofs.YthehnjbdkjnlpaaDoor
open Go Go.Sl Go.RowKit Go.Extern.Stop Go.Stop Go.Extern
theorem JournalSeen_ (ef : Addr) (es : Addr) (B : Option Addr) (d : Nat) (rules : List Rul) (A : Option Addr) (c : Nat) (l : List Jen) (stp : Int) (cur : Lab) (id : Int) (da : ByteArray) (b : Lab) (hbr : ∀ y ∈ rules, y.wh.fm.size ≤ 9223372036854775807) (hbl : ∀ y ∈ l, y.da.size ≤ 9223372036854775807) (hzda : da.size ≤ 9223372036854775807) : Con Tryd.prog 7 [.slice B rules.length d, .slice A l.length c, .int .i64 stp, .agg #[.int .i64 cur.lv, .int .u64 (cur.cs : Int), .int .i64 cur.ig], .int .i64 id, .string da, .agg #[.int .i64 b.lv, .int .u64 (b.cs : Int), .int .i64 b.ig]] [] [rd rulTy B d rules, rd entTy A c l, cellsAt 2 0 [.iface 154 (.pointer (some ef))], cellsAt 0 0 [.iface 154 (.pointer (some es))], errAt ef, errAt es, cellsAt 1 0 [.iface 121 (.agg #[.pointer (some ⟨4, 57, none⟩)])]] (fun v L' I' => v = .bool true ∧ L' = [] ∧ I' = []) := by
  have hl1 := fewJ_len l
  have hl2 := fewJ_sm l
  have hr1 := fewL_len rules
  have hr2 := fewL_sm rules
  have hd1 := cutD_size da
  have ha1 := rel_len (fewL rules) (fewJ l) stp cur id (cutD da)
  have ha2 : ∀ y ∈ (relF (fewL rules) (fewJ l) stp cur id (cutD da)).1, jenSm y := rel_sm hl2 (by omega)
  have hs1 : (seenJ b (fewJ l)).length ≤ _ := jseen_len
  have hs2 : (seenJ b (relF (fewL rules) (fewJ l) stp cur id (cutD da)).1).length ≤ _ := jseen_len
  have js0 := fun r h hf hu => js_len (b := b) (r := r) (rules := fewL rules) (l := fewJ l) (step := stp) (cur := cur) (id := id) (data := cutD da) h hf hu
  refine fn_of Tryd.func7 rfl Tryd.ntmps7 (by kernel_rfl) rfl (fun C => ?_)
  refine c_seq ?_
  refine c_region ?_
  refine st rfl (o_box (cs := [.int .i64 cur.lv, .int .u64 (cur.cs : Int), .int .i64 cur.ig]) (T := 26) rfl rfl rfl rfl (fun _ => by kernel_rfl) (fun b1 => ?_))
  refine st rfl (o_box (cs := [.int .i64 b.lv, .int .u64 (b.cs : Int), .int .i64 b.ig]) (T := 26) rfl rfl rfl rfl (fun _ => by kernel_rfl) (fun b2 => ?_))
  refine st rfl (o_y (v := .bool false) (y_as rfl) rfl rfl rfl ?_)
  refine s_nil ?_
  refine q_then ?_
  refine c_seq ?_
  refine c_region ?_
  refine st rfl (o_call [] [2, 3, 4, 5, 6] (shown_ ef es) rfl rfl rfl rfl rfl rfl (fun v L' I' hq1 => ?_))
  obtain ⟨rfl, rfl, rfl⟩ := hq1
  refine st rfl (o_y (v := .bool true) (y_as rfl) rfl rfl rfl ?_)
  refine s_nil ?_
  refine q_then ?_
  refine c_seq ?_
  refine c_region ?_
  refine st rfl (o_y (v := .slice B rules.length d) (y_mv rfl) rfl rfl rfl ?_)
  refine st rfl (o_call [] [0] (fewl_ B d rules (by assumption)) rfl rfl rfl rfl rfl rfl (fun v L' I' hq2 => ?_))
  obtain ⟨A1, c1, rfl, rfl, rfl⟩ := hq2
  refine st rfl (o_y (v := .slice A1 (fewL rules).length c1) (y_as rfl) rfl rfl rfl ?_)
  refine s_nil ?_
  refine q_then ?_
  refine c_seq ?_
  refine c_region ?_
  refine st rfl (o_y (v := .slice A l.length c) (y_mv rfl) rfl rfl rfl ?_)
  refine st rfl (o_call [] [2] (fewj_ A c l (by assumption)) rfl rfl rfl rfl rfl rfl (fun v L' I' hq3 => ?_))
  obtain ⟨A2, c2, rfl, rfl, rfl⟩ := hq3
  refine st rfl (o_y (v := .slice A2 (fewJ l).length c2) (y_as rfl) rfl rfl rfl ?_)
  refine s_nil ?_
  refine q_then ?_
  refine c_seq ?_
  refine c_draw (l := ticked 13 0) [(⟨b1, 0, none⟩, .int .i64 cur.lv), (⟨b1, 1, none⟩, .int .u64 (cur.cs : Int)), (⟨b1, 2, none⟩, .int .i64 cur.ig)] [] (by kernel_rfl) rfl rfl ?_
  refine a_y (i := 0) (v := .slice A1 (fewL rules).length c1) (ticked 13 1) rfl (by as_aux_lemma => kernel_rfl) rfl rfl rfl (by exact y_mv rfl) ?_
  refine a_y (i := 1) (v := .slice A2 (fewJ l).length c2) (ticked 13 3) rfl (by as_aux_lemma => kernel_rfl) rfl rfl rfl (by exact y_mv rfl) ?_
  refine a_y (i := 2) (v := .int .i64 stp) (ticked 13 7) rfl (by as_aux_lemma => kernel_rfl) rfl rfl rfl (by exact y_mv rfl) ?_
  refine a_y (i := 4) (v := .int .i64 id) (ticked 13 23) rfl (by as_aux_lemma => kernel_rfl) rfl rfl rfl (by exact y_mv rfl) ?_
  refine a_y (i := 5) (v := .string da) (ticked 13 55) rfl (by as_aux_lemma => kernel_rfl) rfl rfl rfl (by exact y_mv rfl) ?_
  refine a_held (i := 3) (ticked 13 63) rfl (by as_aux_lemma => kernel_rfl) rfl rfl rfl (held_pt 1 rfl rfl (held_pt 1 rfl rfl (held_pt 1 rfl rfl held_nil))) (h_ldn (vs := [.int .i64 cur.lv, .int .u64 (cur.cs : Int), .int .i64 cur.ig]) 0 3 rfl rfl rfl Tryd.underlying26 rfl (by kernel_rfl) (by kernel_rfl)) ?_
  refine a_each (rs := [6]) (by as_aux_lemma => kernel_rfl) (.cons (ticked 13 127) rfl rfl rfl (o_call [] [] (cutd_ da (by omega)) rfl rfl rfl rfl rfl rfl (fun v L' I' hq4 => ?_)) .nil) (List.cons_ne_nil _ _)
  obtain ⟨rfl, rfl, rfl⟩ := hq4
  refine a_and (held_pt 1 rfl rfl (held_pt 1 rfl rfl (held_pt 1 rfl rfl held_nil))) ?_
  refine a_each (rs := [7]) (by as_aux_lemma => kernel_rfl) (.cons (ticked 13 255) rfl rfl rfl (o_call [] [1, 0, 4, 6, 5, 7, 8] (jRelease_ A1 c1 (fewL rules) A2 c2 (fewJ l) stp cur id (cutD da) ef es (by first | omega | (simp; done) | (simp; omega) | assumption) (by assumption) (by first | omega | (simp; done) | (simp; omega) | assumption) (by assumption) (by first | omega | assumption)) rfl rfl rfl rfl rfl rfl (fun v L' I' hq5 => ?_)) .nil) (List.cons_ne_nil _ _)
  obtain ⟨A3, c3, rfl, rfl, rfl⟩ := hq5
  refine a_and (held_pt 2 rfl rfl (held_pt 2 rfl rfl (held_pt 2 rfl rfl held_nil))) ?_
  refine a_y (i := 8) (v := .tuple #[.slice A3 ((relF (fewL rules) (fewJ l) stp cur id (cutD da)).1).length c3, .int .i64 ((relF (fewL rules) (fewJ l) stp cur id (cutD da)).2)]) (ticked 13 511) rfl (by as_aux_lemma => kernel_rfl) rfl rfl rfl (by exact y_mv rfl) ?_
  refine a_y (i := 9) (v := .slice A3 ((relF (fewL rules) (fewJ l) stp cur id (cutD da)).1).length c3) (ticked 13 1023) rfl (by as_aux_lemma => kernel_rfl) rfl rfl rfl (by exact y_k rfl rfl (fun _ => by kernel_rfl)) ?_
  refine a_y (i := 10) (v := .int .i64 ((relF (fewL rules) (fewJ l) stp cur id (cutD da)).2)) (ticked 13 2047) rfl (by as_aux_lemma => kernel_rfl) rfl rfl rfl (by exact y_k rfl rfl (fun _ => by kernel_rfl)) ?_
  refine a_y (i := 11) (v := .slice A3 ((relF (fewL rules) (fewJ l) stp cur id (cutD da)).1).length c3) (ticked 13 4095) rfl (by as_aux_lemma => kernel_rfl) rfl rfl rfl (by exact y_as rfl) ?_
  refine a_y (i := 12) (v := .int .i64 ((relF (fewL rules) (fewJ l) stp cur id (cutD da)).2)) (ticked 13 8191) rfl (by as_aux_lemma => kernel_rfl) rfl rfl rfl (by exact y_as rfl) ?_
  refine a_done (by as_aux_lemma => kernel_rfl) ?_
  refine q_then ?_
  refine c_seq ?_
  refine c_region ?_
  refine st rfl (o_y (v := .slice A1 (fewL rules).length c1) (y_mv rfl) rfl rfl rfl ?_)
  refine st rfl (o_y (v := .int .i64 id) (y_mv rfl) rfl rfl rfl ?_)
  refine st rfl (o_call [] [1] (rFind_ A1 c1 (fewL rules) id (by first | omega | (simp; done) | (simp; omega) | assumption)) rfl rfl rfl rfl rfl rfl (fun v L' I' hq6 => ?_))
  rcases hq6 with ⟨r1, h1, rfl, rfl, rfl⟩ | ⟨h2, rfl, rfl, rfl⟩
  ·
    refine st rfl (o_y (v := .tuple #[.agg #[.int .i64 r1.id, .int .i64 r1.fr.lv, .int .u64 (r1.fr.cs : Int), .int .i64 r1.fr.ig, .int .i64 r1.to.lv, .int .u64 (r1.to.cs : Int), .int .i64 r1.to.ig, .int .i64 r1.bu, .int .i64 r1.wh.kd, .int .i64 r1.wh.mx, .string r1.wh.fm], .bool true]) (y_mv rfl) rfl rfl rfl ?_)
    refine st rfl (o_y (v := .agg #[.int .i64 r1.id, .int .i64 r1.fr.lv, .int .u64 (r1.fr.cs : Int), .int .i64 r1.fr.ig, .int .i64 r1.to.lv, .int .u64 (r1.to.cs : Int), .int .i64 r1.to.ig, .int .i64 r1.bu, .int .i64 r1.wh.kd, .int .i64 r1.wh.mx, .string r1.wh.fm]) (y_k rfl rfl (fun _ => by kernel_rfl)) rfl rfl rfl ?_)
    refine st rfl (o_y (v := .bool true) (y_k rfl rfl (fun _ => by kernel_rfl)) rfl rfl rfl ?_)
    refine st rfl (o_box (cs := [.int .i64 0, .int .i64 0, .int .u64 0, .int .i64 0, .int .i64 0, .int .u64 0, .int .i64 0, .int .i64 0, .int .i64 0, .int .i64 0, .string (⟨#[]⟩ : ByteArray)]) (T := 41) rfl rfl rfl rfl (fun _ => by kernel_rfl) (fun b3 => ?_))
    refine st rfl (o_st 0 rfl rfl rfl rfl rfl (by kernel_rfl) (by kernel_rfl) rfl ?_)
    refine st rfl (o_y (v := .bool true) (y_as rfl) rfl rfl rfl ?_)
    refine s_nil ?_
    refine q_then ?_
    refine c_seq ?_
    refine c_seq ?_
    refine c_region ?_
    refine st rfl (o_y (v := .int .i64 ((relF (fewL rules) (fewJ l) stp cur id (cutD da)).2)) (y_mv rfl) rfl rfl rfl ?_)
    refine e_by ((relF (fewL rules) (fewJ l) stp cur id (cutD da)).2 = 0) (fun h3 => ?_) (fun h3 => ?_)
    ·
      refine st rfl (o_y (v := .bool false) (y_nt (y_k (v := .bool (!decide ((relF (fewL rules) (fewJ l) stp cur id (cutD da)).2 = 0))) rfl rfl (fun _ => by kernel_rfl)) h3) rfl rfl rfl ?_)
      refine s_nil ?_
      refine q_then ?_
      refine c_false rfl ?_
      refine c_skip ?_
      refine q_then ?_
      refine c_seq ?_
      refine c_region ?_
      refine st rfl (o_y (v := .slice A2 (fewJ l).length c2) (y_mv rfl) rfl rfl rfl ?_)
      refine st rfl (o_ldn 2 3 rfl rfl rfl rfl Tryd.underlying26 rfl (by kernel_rfl) (by kernel_rfl) rfl ?_)
      refine st rfl (o_call [] [0] (jSeen_ A2 c2 (fewJ l) b (by first | omega | (simp; done) | (simp; omega) | assumption)) rfl rfl rfl rfl rfl rfl (fun v L' I' hq7 => ?_))
      obtain ⟨A4, c4, rfl, rfl, rfl⟩ := hq7
      refine st rfl (o_y (v := .slice A4 (seenJ b (fewJ l)).length c4) (y_as rfl) rfl rfl rfl ?_)
      refine s_nil ?_
      refine q_then ?_
      refine c_seq ?_
      refine c_region ?_
      refine st rfl (o_y (v := .slice A3 ((relF (fewL rules) (fewJ l) stp cur id (cutD da)).1).length c3) (y_mv rfl) rfl rfl rfl ?_)
      refine st rfl (o_ldn 2 3 rfl rfl rfl rfl Tryd.underlying26 rfl (by kernel_rfl) (by kernel_rfl) rfl ?_)
      refine e_stillw 1 rfl ?_
      refine st rfl (o_call [] [0] (jSeen_ A3 c3 ((relF (fewL rules) (fewJ l) stp cur id (cutD da)).1) b (by first | omega | (simp; done) | (simp; omega) | assumption)) rfl rfl rfl rfl rfl rfl (fun v L' I' hq8 => ?_))
      obtain ⟨A5, c5, rfl, rfl, rfl⟩ := hq8
      refine st rfl (o_y (v := .slice A5 (seenJ b ((relF (fewL rules) (fewJ l) stp cur id (cutD da)).1)).length c5) (y_as rfl) rfl rfl rfl ?_)
      refine s_nil ?_
      refine q_then ?_
      refine c_seq ?_
      refine c_seq ?_
      refine c_region ?_
      refine st rfl (o_y (v := .pointer (some ⟨b3, 4, none⟩)) (y_k rfl rfl (fun _ => by kernel_rfl)) rfl rfl rfl ?_)
      refine st rfl (o_ldn 0 3 rfl rfl rfl rfl Tryd.underlying26 rfl (by kernel_rfl) (by kernel_rfl) rfl ?_)
      refine st rfl (o_ldn 1 3 rfl rfl rfl rfl Tryd.underlying26 rfl (by kernel_rfl) (by kernel_rfl) rfl ?_)
      refine st rfl (o_call [] [] (under_ r1.to b) rfl rfl rfl rfl rfl rfl (fun v L' I' hq9 => ?_))
      obtain ⟨hv1, rfl, rfl⟩ := hq9
      refine e_by (labUnder r1.to b) (fun h4 => ?_) (fun h4 => ?_)
      ·
        obtain rfl : v = .bool true := by rw [hv1, decide_eq_true h4]
        refine st rfl (o_y (v := .bool false) (y_k rfl rfl (fun _ => by kernel_rfl)) rfl rfl rfl ?_)
        refine s_nil ?_
        refine q_then ?_
        refine c_false rfl ?_
        refine c_skip ?_
        refine q_then ?_
        refine c_seq ?_
        refine e_at 0 ((((seenJ b (relF (fewL rules) (fewJ l) stp cur id (cutD da)).1).length : Int) - 1).toNat) rfl (by have h9 := js0 _ (by assumption) (by assumption) (by assumption); omega) (fun b4 o1 x1 hA1 hx1 => ?_)
        refine c_draw (l := ticked 22 0) [(⟨b4, o1 + ((((seenJ b (relF (fewL rules) (fewJ l) stp cur id (cutD da)).1).length : Int) - 1).toNat) * 6 + 5, none⟩, .string x1.da)] [] (by kernel_rfl) rfl rfl ?_
        refine a_y (i := 0) (v := .bool true) (ticked 22 1) rfl (by as_aux_lemma => kernel_rfl) rfl rfl rfl (by exact y_mv rfl) ?_
        refine a_y (i := 1) (v := .bool true) (ticked 22 3) rfl (by as_aux_lemma => kernel_rfl) rfl rfl rfl (by exact y_mv rfl) ?_
        refine a_y_on (i := 2) (v := .slice A5 (seenJ b ((relF (fewL rules) (fewJ l) stp cur id (cutD da)).1)).length c5) 65 (ticked 22 7) rfl (by as_aux_lemma => kernel_rfl) rfl rfl rfl rfl rfl (by exact y_mv rfl) ?_
        refine a_y_on (i := 3) (v := .int .i64 ((seenJ b ((relF (fewL rules) (fewJ l) stp cur id (cutD da)).1)).length : Int)) 65 (ticked 22 15) rfl (by as_aux_lemma => kernel_rfl) rfl rfl rfl rfl rfl (by exact y_k rfl rfl (fun _ => by kernel_rfl)) ?_
        refine a_y_on (i := 4) (v := .slice A4 (seenJ b (fewJ l)).length c4) 65 (ticked 22 31) rfl (by as_aux_lemma => kernel_rfl) rfl rfl rfl rfl rfl (by exact y_mv rfl) ?_
        refine a_y_on (i := 5) (v := .int .i64 ((seenJ b (fewJ l)).length : Int)) 65 (ticked 22 63) rfl (by as_aux_lemma => kernel_rfl) rfl rfl rfl rfl rfl (by exact y_k rfl rfl (fun _ => by kernel_rfl)) ?_
        refine a_y_on (i := 6) (v := .int .i64 (((seenJ b (fewJ l)).length : Int) + 1)) 65 (ticked 22 127) rfl (by as_aux_lemma => kernel_rfl) rfl rfl rfl rfl rfl (by exact y_add (r := ((seenJ b (fewJ l)).length : Int) + 1) rfl rfl rfl (by omega)) ?_
        have h5 : ((seenJ b ((relF (fewL rules) (fewJ l) stp cur id (cutD da)).1)).length : Int) = ((seenJ b (fewJ l)).length : Int) + 1 := js_len h3 h1 h4
        refine a_y_on (i := 7) (v := .bool true) 65 (ticked 22 255) rfl (by as_aux_lemma => kernel_rfl) rfl rfl rfl rfl rfl (by exact y_t (y_k (v := .bool (decide (((seenJ b ((relF (fewL rules) (fewJ l) stp cur id (cutD da)).1)).length : Int) = ((seenJ b (fewJ l)).length : Int) + 1))) rfl rfl (fun _ => by kernel_rfl)) h5) ?_
        refine a_y (i := 8) (v := .bool true) (ticked 22 511) rfl (by as_aux_lemma => kernel_rfl) rfl rfl rfl (by exact y_pick rfl rfl) ?_
        refine a_y (i := 9) (v := .bool true) (ticked 22 1023) rfl (by as_aux_lemma => kernel_rfl) rfl rfl rfl (by exact y_mv rfl) ?_
        refine a_y_on (i := 10) (v := .slice A5 (seenJ b ((relF (fewL rules) (fewJ l) stp cur id (cutD da)).1)).length c5) 73 (ticked 22 2047) rfl (by as_aux_lemma => kernel_rfl) rfl rfl rfl rfl rfl (by exact y_mv rfl) ?_
        refine a_y_on (i := 11) (v := .slice A5 (seenJ b ((relF (fewL rules) (fewJ l) stp cur id (cutD da)).1)).length c5) 73 (ticked 22 4095) rfl (by as_aux_lemma => kernel_rfl) rfl rfl rfl rfl rfl (by exact y_mv rfl) ?_
        refine a_y_on (i := 12) (v := .int .i64 ((seenJ b ((relF (fewL rules) (fewJ l) stp cur id (cutD da)).1)).length : Int)) 73 (ticked 22 8191) rfl (by as_aux_lemma => kernel_rfl) rfl rfl rfl rfl rfl (by exact y_k rfl rfl (fun _ => by kernel_rfl)) ?_
        refine a_y_on (i := 13) (v := .int .i64 (((seenJ b ((relF (fewL rules) (fewJ l) stp cur id (cutD da)).1)).length : Int) - 1)) 73 (ticked 22 16383) rfl (by as_aux_lemma => kernel_rfl) rfl rfl rfl rfl rfl (by exact y_sub (r := ((seenJ b ((relF (fewL rules) (fewJ l) stp cur id (cutD da)).1)).length : Int) - 1) rfl rfl rfl (by omega)) ?_
        refine a_y_on (i := 14) (v := .pointer (some ⟨b4, o1 + ((((seenJ b (relF (fewL rules) (fewJ l) stp cur id (cutD da)).1).length : Int) - 1).toNat) * 6, none⟩)) 73 (ticked 22 32767) rfl (by as_aux_lemma => kernel_rfl) rfl rfl rfl rfl rfl (by exact y_at (d := entTy) (l := seenJ b ((relF (fewL rules) (fewJ l) stp cur id (cutD da)).1)) ((((seenJ b (relF (fewL rules) (fewJ l) stp cur id (cutD da)).1).length : Int) - 1).toNat) hA1 rfl rfl rfl (by omega) (List.getElem?_eq_some_iff.1 hx1).1 Tryd.underlying23 (by kernel_rfl) (by kernel_rfl)) ?_
        refine a_y_on (i := 15) (v := .pointer (some ⟨b4, o1 + ((((seenJ b (relF (fewL rules) (fewJ l) stp cur id (cutD da)).1).length : Int) - 1).toNat) * 6 + 5, none⟩)) 73 (ticked 22 65535) rfl (by as_aux_lemma => kernel_rfl) rfl rfl rfl rfl rfl (by exact y_k rfl rfl (fun _ => by kernel_rfl)) ?_
        refine a_y_on (i := 17) (v := .string da) 73 (ticked 22 196607) rfl (by as_aux_lemma => kernel_rfl) rfl rfl rfl rfl rfl (by exact y_mv rfl) ?_
        refine a_held_on (i := 16) 73 (ticked 22 262143) rfl (by as_aux_lemma => kernel_rfl) rfl rfl rfl rfl rfl (held_fact (j := 5) 0 rfl rfl held_nil) (h_ld 0 rfl rfl Tryd.underlying9 rfl) ?_
        refine a_each (rs := [18]) (by as_aux_lemma => kernel_rfl) (.on 73 (ticked 22 524287) rfl rfl rfl rfl rfl (o_call [] [] (cutd_ da (by omega)) rfl rfl rfl rfl rfl rfl (fun v L' I' hq10 => ?_)) .nil) (List.cons_ne_nil _ _)
        obtain ⟨rfl, rfl, rfl⟩ := hq10
        refine a_and (held_fact (j := 5) 0 rfl rfl held_nil) ?_
        have h6 : x1.da = cutD da := js_x h3 h1 h4 (by assumption)
        refine a_y_on (i := 19) (v := .bool true) 73 (ticked 22 1048575) rfl (by as_aux_lemma => kernel_rfl) rfl rfl rfl rfl rfl (by exact y_b (y_k (v := .bool (x1.da.toList == (cutD da).toList)) rfl rfl (fun _ => by kernel_rfl)) (str_t h6)) ?_
        refine a_y (i := 20) (v := .bool true) (ticked 22 2097151) rfl (by as_aux_lemma => kernel_rfl) rfl rfl rfl (by exact y_pick rfl rfl) ?_
        refine a_y (i := 21) (v := .bool true) (ticked 22 4194303) rfl (by as_aux_lemma => kernel_rfl) rfl rfl rfl (by exact y_as rfl) ?_
        refine a_done (by as_aux_lemma => kernel_rfl) ?_
        refine q_then ?_
        refine c_ret ?_
        refine c_fin (I' := []) [] [6, 7, 8, 9, 10, 11, 12] rfl (.tmp rfl .nil) rfl rfl rfl ?_
        exact ⟨rfl, rfl, rfl⟩
      ·
        obtain rfl : v = .bool false := by rw [hv1, decide_eq_false h4]
        refine st rfl (o_y (v := .bool true) (y_k rfl rfl (fun _ => by kernel_rfl)) rfl rfl rfl ?_)
        refine s_nil ?_
        refine q_then ?_
        refine c_true rfl ?_
        refine c_seq ?_
        refine c_region ?_
        refine st rfl (o_y (v := .bool true) (y_mv rfl) rfl rfl rfl ?_)
        refine st rfl (o_y (v := .bool true) (y_mv rfl) rfl rfl rfl ?_)
        refine st_on 59 rfl rfl rfl (o_y (v := .slice A4 (seenJ b (fewJ l)).length c4) (y_mv rfl) rfl rfl rfl ?_)
        refine st_on 59 rfl rfl rfl (o_y (v := .slice A5 (seenJ b ((relF (fewL rules) (fewJ l) stp cur id (cutD da)).1)).length c5) (y_mv rfl) rfl rfl rfl ?_)
        refine st_on 59 rfl rfl rfl (o_call [] [2, 0] (jSame_ A4 c4 (seenJ b (fewJ l)) A5 c5 (seenJ b ((relF (fewL rules) (fewJ l) stp cur id (cutD da)).1)) (by first | omega | (simp; done) | (simp; omega) | assumption)) rfl rfl rfl rfl rfl rfl (fun v L' I' hq11 => ?_))
        obtain ⟨hv2, rfl, rfl⟩ := hq11
        obtain rfl : v = .bool true := by rw [hv2, decide_eq_true (show (seenJ b (fewJ l)) = (seenJ b ((relF (fewL rules) (fewJ l) stp cur id (cutD da)).1)) from js_no h3 h1 h4)]
        refine st rfl (o_y (v := .bool true) (y_pick rfl rfl) rfl rfl rfl ?_)
        refine st rfl (o_y (v := .bool true) (y_as rfl) rfl rfl rfl ?_)
        refine s_nil ?_
        refine q_then ?_
        refine c_ret ?_
        refine q_then_ret ?_
        refine c_fin (I' := []) [] [5, 6, 7, 8, 9, 10, 11] rfl (.tmp rfl .nil) rfl rfl rfl ?_
        exact ⟨rfl, rfl, rfl⟩
    ·
      refine st rfl (o_y (v := .bool true) (y_nf (y_k (v := .bool (!decide ((relF (fewL rules) (fewJ l) stp cur id (cutD da)).2 = 0))) rfl rfl (fun _ => by kernel_rfl)) h3) rfl rfl rfl ?_)
      refine s_nil ?_
      refine q_then ?_
      refine c_true rfl ?_
      refine c_seq ?_
      refine c_region ?_
      refine st rfl (o_y (v := .bool true) (y_mv rfl) rfl rfl rfl ?_)
      refine st rfl (o_y (v := .bool true) (y_as rfl) rfl rfl rfl ?_)
      refine s_nil ?_
      refine q_then ?_
      refine c_ret ?_
      refine q_then_ret ?_
      refine c_fin (I' := []) [] [2, 3, 4, 5, 6, 7, 8] rfl (.tmp rfl .nil) rfl rfl rfl ?_
      exact ⟨rfl, rfl, rfl⟩
  ·
    refine st rfl (o_y (v := .tuple #[.agg #[.int .i64 0, .int .i64 0, .int .u64 0, .int .i64 0, .int .i64 0, .int .u64 0, .int .i64 0, .int .i64 0, .int .i64 0, .int .i64 0, .string (⟨#[]⟩ : ByteArray)], .bool false]) (y_mv rfl) rfl rfl rfl ?_)
    refine st rfl (o_y (v := .agg #[.int .i64 0, .int .i64 0, .int .u64 0, .int .i64 0, .int .i64 0, .int .u64 0, .int .i64 0, .int .i64 0, .int .i64 0, .int .i64 0, .string (⟨#[]⟩ : ByteArray)]) (y_k rfl rfl (fun _ => by kernel_rfl)) rfl rfl rfl ?_)
    refine st rfl (o_y (v := .bool false) (y_k rfl rfl (fun _ => by kernel_rfl)) rfl rfl rfl ?_)
    refine st rfl (o_box (cs := [.int .i64 0, .int .i64 0, .int .u64 0, .int .i64 0, .int .i64 0, .int .u64 0, .int .i64 0, .int .i64 0, .int .i64 0, .int .i64 0, .string (⟨#[]⟩ : ByteArray)]) (T := 41) rfl rfl rfl rfl (fun _ => by kernel_rfl) (fun b5 => ?_))
    refine st rfl (o_st 0 rfl rfl rfl rfl rfl (by kernel_rfl) (by kernel_rfl) rfl ?_)
    refine st rfl (o_y (v := .bool false) (y_as rfl) rfl rfl rfl ?_)
    refine s_nil ?_
    refine q_then ?_
    refine c_seq ?_
    refine c_seq ?_
    refine c_region ?_
    refine st rfl (o_y (v := .int .i64 ((relF (fewL rules) (fewJ l) stp cur id (cutD da)).2)) (y_mv rfl) rfl rfl rfl ?_)
    have h7 : ¬ ((relF (fewL rules) (fewJ l) stp cur id (cutD da)).2 = 0) := fun q => jb_find q h2
    refine st rfl (o_y (v := .bool true) (y_nf (y_k (v := .bool (!decide ((relF (fewL rules) (fewJ l) stp cur id (cutD da)).2 = 0))) rfl rfl (fun _ => by kernel_rfl)) h7) rfl rfl rfl ?_)
    refine s_nil ?_
    refine q_then ?_
    refine c_true rfl ?_
    refine c_seq ?_
    refine c_region ?_
    refine st rfl (o_y (v := .bool true) (y_mv rfl) rfl rfl rfl ?_)
    refine st rfl (o_y (v := .bool true) (y_as rfl) rfl rfl rfl ?_)
    refine s_nil ?_
    refine q_then ?_
    refine c_ret ?_
    refine q_then_ret ?_
    refine c_fin (I' := []) [] [2, 3, 4, 5, 6, 7, 8] rfl (.tmp rfl .nil) rfl rfl rfl ?_
    exact ⟨rfl, rfl, rfl⟩
end Go.Proofs.YthehnjbdkjnlpaaDoor
