/- The laws of chapter 17 (call), walked over the given program; no condition but what stands in each theorem: part CH. -/
import Derived.Test.YtcnncdniibkjkaaGreatDoorRCE
set_option linter.unusedVariables false
set_option linter.unusedSimpArgs false
set_option maxRecDepth 100000
set_option maxHeartbeats 8000000
namespace Go.Proofs.YtcnncdniibkjkaaGreatDoor
open Go Go.Sl Go.RowKit Go.Extern.Stop Go.Stop Go.Extern
theorem cput76_ (b : Nat) (r : ByteArray) (q : Ec) (c : Cal) (ea : Addr) (em : Addr) (ef : Addr) (el : Addr) (h12 : ea ≠ em) (h13 : ea ≠ ef) (h23 : em ≠ ef) (hr : r.size ≤ 100000) (h6 : lab64 c.lb) (hn1 : c.nm.size ≤ 100000) (hn2 : c.da.size ≤ 100000) : Con Tryz.prog 63 [.pointer (some ⟨b, 0, none⟩)] [pt b [.string r, cwV q, .int .i64 c.op, .int .i64 c.lb.lv, .int .u64 (c.lb.cs : Int), .int .i64 c.lb.ig, .string c.nm, .int .i64 c.pl, .int .i64 c.nn, .string c.da, .int .i64 c.id] 52] [cellsAt 2 0 [.iface 180 (.pointer (some ea))], cellsAt 3 0 [.iface 180 (.pointer (some em))], cellsAt 1 0 [.iface 180 (.pointer (some ef))], errAt ea, errAt em, errAt ef, cellsAt 4 0 [.iface 180 (.pointer (some el))], errAt el, cellsAt 0 0 [.iface 147 (.agg #[.pointer (some ⟨5, 48, none⟩)])]] (fun v L' I' => v = .tuple #[] ∧ L' = [pt b [.string (r ++ (putL c.lb).1), cwV (addQ q (putL c.lb).2), .int .i64 c.op, .int .i64 0, .int .u64 0, .int .i64 0, .string c.nm, .int .i64 c.pl, .int .i64 c.nn, .string c.da, .int .i64 c.id] 52] ∧ I' = []) := by
 refine fn_of Tryz.func63 rfl Tryz.ntmps63 (by kernel_rfl) rfl (fun C => ?_)
 refine c_seq ?_
 refine c_draw (l := ticked 9 0) [(⟨b, 3, none⟩, .int .i64 c.lb.lv), (⟨b, 4, none⟩, .int .u64 (c.lb.cs : Int)), (⟨b, 5, none⟩, .int .i64 c.lb.ig)] [] (by kernel_rfl) rfl rfl ?_
 refine b_y (i := 0) (v := .pointer (some ⟨b, 0, none⟩)) (ticked 9 1) rfl rfl (by exact y_mv rfl) ?_
 refine b_y (i := 1) (v := .pointer (some ⟨b, 0, none⟩)) (ticked 9 3) rfl rfl (by exact y_k rfl rfl (fun _ => by kernel_rfl)) ?_
 refine b_y (i := 2) (v := .pointer (some ⟨b, 0, none⟩)) (ticked 9 7) rfl rfl (by exact y_k rfl rfl (fun _ => by kernel_rfl)) ?_
 refine b_y (i := 3) (v := .pointer (some ⟨b, 0, none⟩)) (ticked 9 15) rfl rfl (by exact y_mv rfl) ?_
 refine b_y (i := 4) (v := .pointer (some ⟨b, 0, none⟩)) (ticked 9 31) rfl rfl (by exact y_k rfl rfl (fun _ => by kernel_rfl)) ?_
 refine b_y (i := 5) (v := .pointer (some ⟨b, 2, none⟩)) (ticked 9 63) rfl rfl (by exact y_k rfl rfl (fun _ => by kernel_rfl)) ?_
 refine b_y (i := 6) (v := .pointer (some ⟨b, 3, none⟩)) (ticked 9 127) rfl rfl (by exact y_k rfl rfl (fun _ => by kernel_rfl)) ?_
 refine a_held (i := 7) (ticked 9 255) rfl (by as_aux_lemma => kernel_rfl) rfl rfl rfl (held_pt 0 rfl rfl (held_pt 0 rfl rfl (held_pt 0 rfl rfl held_nil))) (h_ldn (vs := [.int .i64 c.lb.lv, .int .u64 (c.lb.cs : Int), .int .i64 c.lb.ig]) 0 3 rfl rfl rfl Tryz.underlying24 rfl (by kernel_rfl) (by kernel_rfl)) ?_
 refine a_each (rs := [8]) (by as_aux_lemma => kernel_rfl) (.cons (ticked 9 511) rfl rfl rfl (o_call [0] [0, 1, 2, 3, 4, 5, 6, 7, 8] (wlabel_ b r q c c.lb ea em ef el (by assumption) (by assumption) (by assumption) (by first | omega | assumption | decide) (by first | assumption | decide)) rfl rfl rfl rfl rfl rfl (fun v L' I' hq1 => ?_)) .nil) (List.cons_ne_nil _ _)
 obtain ⟨rfl, rfl, rfl⟩ := hq1
 refine a_and (held_pt 0 rfl rfl (held_pt 0 rfl rfl (held_pt 0 rfl rfl held_nil))) ?_
 refine a_done (by as_aux_lemma => kernel_rfl) ?_
 refine q_then (c_region ?_)
 refine s_y rfl (v := .pointer (some ⟨b, 0, none⟩)) (y_mv rfl) rfl ?_
 refine s_y rfl (v := .agg #[.int .i64 0, .int .u64 0, .int .i64 0]) (y_k rfl rfl (fun _ => by kernel_rfl)) rfl ?_
 refine s_y rfl (v := .pointer (some ⟨b, 0, none⟩)) (y_k rfl rfl (fun _ => by kernel_rfl)) rfl ?_
 refine s_y rfl (v := .pointer (some ⟨b, 2, none⟩)) (y_k rfl rfl (fun _ => by kernel_rfl)) rfl ?_
 refine s_y rfl (v := .pointer (some ⟨b, 3, none⟩)) (y_k rfl rfl (fun _ => by kernel_rfl)) rfl ?_
 refine st rfl (o_st 0 rfl rfl rfl rfl rfl (by kernel_rfl) (by kernel_rfl) rfl ?_)
 refine s_nil ?_
 refine c_fin_end (I' := []) [0] [0, 1, 2, 3, 4, 5, 6, 7, 8] rfl .nil rfl rfl rfl ?_
 exact ⟨rfl, rfl, rfl⟩
theorem cget76_ (b : Nat) (r : ByteArray) (q : Ec) (c : Cal) (ea : Addr) (em : Addr) (ef : Addr) (el : Addr) (h12 : ea ≠ em) (h13 : ea ≠ ef) (h23 : em ≠ ef) (hr : r.size ≤ 100000) : Con Tryz.prog 64 [.pointer (some ⟨b, 0, none⟩)] [pt b [.string r, cwV q, .int .i64 c.op, .int .i64 c.lb.lv, .int .u64 (c.lb.cs : Int), .int .i64 c.lb.ig, .string c.nm, .int .i64 c.pl, .int .i64 c.nn, .string c.da, .int .i64 c.id] 52] [cellsAt 2 0 [.iface 180 (.pointer (some ea))], cellsAt 3 0 [.iface 180 (.pointer (some em))], cellsAt 1 0 [.iface 180 (.pointer (some ef))], errAt ea, errAt em, errAt ef, cellsAt 4 0 [.iface 180 (.pointer (some el))], errAt el, cellsAt 0 0 [.iface 147 (.agg #[.pointer (some ⟨5, 48, none⟩)])]] (fun v L' I' => v = .tuple #[] ∧ L' = [pt b [.string ((labGet r).2.1), cwV (addQ q (labGet r).2.2), .int .i64 c.op, .int .i64 (((labGet r).1).lv), .int .u64 (((labGet r).1).cs : Int), .int .i64 (((labGet r).1).ig), .string c.nm, .int .i64 c.pl, .int .i64 c.nn, .string c.da, .int .i64 c.id] 52] ∧ I' = []) := by
 refine fn_of Tryz.func64 rfl Tryz.ntmps64 (by kernel_rfl) rfl (fun C => ?_)
 refine c_region ?_
 refine s_y rfl (v := .pointer (some ⟨b, 0, none⟩)) (y_mv rfl) rfl ?_
 refine s_y rfl (v := .pointer (some ⟨b, 0, none⟩)) (y_mv rfl) rfl ?_
 refine s_y rfl (v := .pointer (some ⟨b, 0, none⟩)) (y_k rfl rfl (fun _ => by kernel_rfl)) rfl ?_
 refine s_y rfl (v := .pointer (some ⟨b, 0, none⟩)) (y_k rfl rfl (fun _ => by kernel_rfl)) rfl ?_
 refine st rfl (o_call [0] [0, 1, 2, 3, 4, 5, 6, 7, 8] (wtakeLabel_ b r q c ea em ef el (by assumption) (by assumption) (by assumption) (by first | omega | assumption | decide)) rfl rfl rfl rfl rfl rfl (fun v L' I' hq1 => ?_))
 obtain ⟨rfl, rfl, rfl⟩ := hq1
 refine s_y rfl (v := .pointer (some ⟨b, 0, none⟩)) (y_k rfl rfl (fun _ => by kernel_rfl)) rfl ?_
 refine s_y rfl (v := .pointer (some ⟨b, 2, none⟩)) (y_k rfl rfl (fun _ => by kernel_rfl)) rfl ?_
 refine s_y rfl (v := .pointer (some ⟨b, 3, none⟩)) (y_k rfl rfl (fun _ => by kernel_rfl)) rfl ?_
 refine st rfl (o_st 0 rfl rfl rfl rfl rfl (by kernel_rfl) (by kernel_rfl) rfl ?_)
 refine s_nil ?_
 refine c_fin_end (I' := []) [0] [0, 1, 2, 3, 4, 5, 6, 7, 8] rfl .nil rfl rfl rfl ?_
 exact ⟨rfl, rfl, rfl⟩
theorem cput84_ (b : Nat) (r : ByteArray) (q : Ec) (c : Cal) (ea : Addr) (em : Addr) (ef : Addr) (el : Addr) (h12 : ea ≠ em) (h13 : ea ≠ ef) (h23 : em ≠ ef) (hr : r.size ≤ 100000) (h6 : lab64 c.lb) (hn1 : c.nm.size ≤ 100000) (hn2 : c.da.size ≤ 100000) : Con Tryz.prog 65 [.pointer (some ⟨b, 0, none⟩)] [pt b [.string r, cwV q, .int .i64 c.op, .int .i64 c.lb.lv, .int .u64 (c.lb.cs : Int), .int .i64 c.lb.ig, .string c.nm, .int .i64 c.pl, .int .i64 c.nn, .string c.da, .int .i64 c.id] 52] [cellsAt 2 0 [.iface 180 (.pointer (some ea))], cellsAt 3 0 [.iface 180 (.pointer (some em))], cellsAt 1 0 [.iface 180 (.pointer (some ef))], errAt ea, errAt em, errAt ef, cellsAt 4 0 [.iface 180 (.pointer (some el))], errAt el, cellsAt 0 0 [.iface 147 (.agg #[.pointer (some ⟨5, 48, none⟩)])]] (fun v L' I' => v = .tuple #[] ∧ L' = [pt b [.string (r ++ (ptextF c.nm).1), cwV (addQ q (ptextF c.nm).2), .int .i64 c.op, .int .i64 c.lb.lv, .int .u64 (c.lb.cs : Int), .int .i64 c.lb.ig, .string (⟨#[]⟩ : ByteArray), .int .i64 c.pl, .int .i64 c.nn, .string c.da, .int .i64 c.id] 52] ∧ I' = []) := by
 refine fn_of Tryz.func65 rfl Tryz.ntmps65 (by kernel_rfl) rfl (fun C => ?_)
 refine c_seq ?_
 refine c_draw (l := ticked 9 0) [(⟨b, 6, none⟩, .string c.nm)] [] (by kernel_rfl) rfl rfl ?_
 refine b_y (i := 0) (v := .pointer (some ⟨b, 0, none⟩)) (ticked 9 1) rfl rfl (by exact y_mv rfl) ?_
 refine b_y (i := 1) (v := .pointer (some ⟨b, 0, none⟩)) (ticked 9 3) rfl rfl (by exact y_k rfl rfl (fun _ => by kernel_rfl)) ?_
 refine b_y (i := 2) (v := .pointer (some ⟨b, 0, none⟩)) (ticked 9 7) rfl rfl (by exact y_k rfl rfl (fun _ => by kernel_rfl)) ?_
 refine b_y (i := 3) (v := .pointer (some ⟨b, 0, none⟩)) (ticked 9 15) rfl rfl (by exact y_mv rfl) ?_
 refine b_y (i := 4) (v := .pointer (some ⟨b, 0, none⟩)) (ticked 9 31) rfl rfl (by exact y_k rfl rfl (fun _ => by kernel_rfl)) ?_
 refine b_y (i := 5) (v := .pointer (some ⟨b, 2, none⟩)) (ticked 9 63) rfl rfl (by exact y_k rfl rfl (fun _ => by kernel_rfl)) ?_
 refine b_y (i := 6) (v := .pointer (some ⟨b, 6, none⟩)) (ticked 9 127) rfl rfl (by exact y_k rfl rfl (fun _ => by kernel_rfl)) ?_
 refine a_held (i := 7) (ticked 9 255) rfl (by as_aux_lemma => kernel_rfl) rfl rfl rfl (held_pt 0 rfl rfl held_nil) (h_ld 0 rfl rfl Tryz.underlying9 rfl) ?_
 refine a_each (rs := [8]) (by as_aux_lemma => kernel_rfl) (.cons (ticked 9 511) rfl rfl rfl (o_call [0] [0, 1, 2, 3, 4, 5, 6, 7, 8] (wtext_ b r q c c.nm ea em ef el (by assumption) (by assumption) (by assumption) (by first | omega | assumption | decide) (by first | omega | assumption)) rfl rfl rfl rfl rfl rfl (fun v L' I' hq1 => ?_)) .nil) (List.cons_ne_nil _ _)
 obtain ⟨rfl, rfl, rfl⟩ := hq1
 refine a_and (held_pt 0 rfl rfl held_nil) ?_
 refine a_done (by as_aux_lemma => kernel_rfl) ?_
 refine q_then (c_region ?_)
 refine s_y rfl (v := .pointer (some ⟨b, 0, none⟩)) (y_mv rfl) rfl ?_
 refine s_y rfl (v := .pointer (some ⟨b, 0, none⟩)) (y_k rfl rfl (fun _ => by kernel_rfl)) rfl ?_
 refine s_y rfl (v := .pointer (some ⟨b, 2, none⟩)) (y_k rfl rfl (fun _ => by kernel_rfl)) rfl ?_
 refine s_y rfl (v := .pointer (some ⟨b, 6, none⟩)) (y_k rfl rfl (fun _ => by kernel_rfl)) rfl ?_
 refine st rfl (o_st 0 rfl rfl rfl rfl rfl (by kernel_rfl) (by kernel_rfl) rfl ?_)
 refine s_nil ?_
 refine c_fin_end (I' := []) [0] [0, 1, 2, 3, 4, 5, 6, 7, 8] rfl .nil rfl rfl rfl ?_
 exact ⟨rfl, rfl, rfl⟩
theorem cget84_ (b : Nat) (r : ByteArray) (q : Ec) (c : Cal) (ea : Addr) (em : Addr) (ef : Addr) (el : Addr) (h12 : ea ≠ em) (h13 : ea ≠ ef) (h23 : em ≠ ef) (hr : r.size ≤ 100000) : Con Tryz.prog 66 [.pointer (some ⟨b, 0, none⟩)] [pt b [.string r, cwV q, .int .i64 c.op, .int .i64 c.lb.lv, .int .u64 (c.lb.cs : Int), .int .i64 c.lb.ig, .string c.nm, .int .i64 c.pl, .int .i64 c.nn, .string c.da, .int .i64 c.id] 52] [cellsAt 2 0 [.iface 180 (.pointer (some ea))], cellsAt 3 0 [.iface 180 (.pointer (some em))], cellsAt 1 0 [.iface 180 (.pointer (some ef))], errAt ea, errAt em, errAt ef, cellsAt 4 0 [.iface 180 (.pointer (some el))], errAt el, cellsAt 0 0 [.iface 147 (.agg #[.pointer (some ⟨5, 48, none⟩)])]] (fun v L' I' => v = .tuple #[] ∧ L' = [pt b [.string ((textF r).2.1), cwV (addQ q (textF r).2.2), .int .i64 c.op, .int .i64 c.lb.lv, .int .u64 (c.lb.cs : Int), .int .i64 c.lb.ig, .string ((textF r).1), .int .i64 c.pl, .int .i64 c.nn, .string c.da, .int .i64 c.id] 52] ∧ I' = []) := by
 refine fn_of Tryz.func66 rfl Tryz.ntmps66 (by kernel_rfl) rfl (fun C => ?_)
 refine c_region ?_
 refine s_y rfl (v := .pointer (some ⟨b, 0, none⟩)) (y_mv rfl) rfl ?_
 refine s_y rfl (v := .pointer (some ⟨b, 0, none⟩)) (y_mv rfl) rfl ?_
 refine s_y rfl (v := .pointer (some ⟨b, 0, none⟩)) (y_k rfl rfl (fun _ => by kernel_rfl)) rfl ?_
 refine s_y rfl (v := .pointer (some ⟨b, 0, none⟩)) (y_k rfl rfl (fun _ => by kernel_rfl)) rfl ?_
 refine st rfl (o_call [0] [0, 1, 2, 3, 4, 5, 6, 7, 8] (wtakeText_ b r q c ea em ef el (by assumption) (by assumption) (by assumption) (by first | omega | assumption | decide)) rfl rfl rfl rfl rfl rfl (fun v L' I' hq1 => ?_))
 obtain ⟨rfl, rfl, rfl⟩ := hq1
 refine s_y rfl (v := .pointer (some ⟨b, 0, none⟩)) (y_k rfl rfl (fun _ => by kernel_rfl)) rfl ?_
 refine s_y rfl (v := .pointer (some ⟨b, 2, none⟩)) (y_k rfl rfl (fun _ => by kernel_rfl)) rfl ?_
 refine s_y rfl (v := .pointer (some ⟨b, 6, none⟩)) (y_k rfl rfl (fun _ => by kernel_rfl)) rfl ?_
 refine st rfl (o_st 0 rfl rfl rfl rfl rfl (by kernel_rfl) (by kernel_rfl) rfl ?_)
 refine s_nil ?_
 refine c_fin_end (I' := []) [0] [0, 1, 2, 3, 4, 5, 6, 7, 8] rfl .nil rfl rfl rfl ?_
 exact ⟨rfl, rfl, rfl⟩
theorem cput68_ (b : Nat) (r : ByteArray) (q : Ec) (c : Cal) (ea : Addr) (em : Addr) (ef : Addr) (el : Addr) (h12 : ea ≠ em) (h13 : ea ≠ ef) (h23 : em ≠ ef) (hr : r.size ≤ 100000) (h6 : lab64 c.lb) (hn1 : c.nm.size ≤ 100000) (hn2 : c.da.size ≤ 100000) : Con Tryz.prog 67 [.pointer (some ⟨b, 0, none⟩)] [pt b [.string r, cwV q, .int .i64 c.op, .int .i64 c.lb.lv, .int .u64 (c.lb.cs : Int), .int .i64 c.lb.ig, .string c.nm, .int .i64 c.pl, .int .i64 c.nn, .string c.da, .int .i64 c.id] 52] [cellsAt 2 0 [.iface 180 (.pointer (some ea))], cellsAt 3 0 [.iface 180 (.pointer (some em))], cellsAt 1 0 [.iface 180 (.pointer (some ef))], errAt ea, errAt em, errAt ef, cellsAt 4 0 [.iface 180 (.pointer (some el))], errAt el, cellsAt 0 0 [.iface 147 (.agg #[.pointer (some ⟨5, 48, none⟩)])]] (fun v L' I' => v = .tuple #[] ∧ L' = [pt b [.string (r ++ (ptextF c.da).1), cwV (addQ q (ptextF c.da).2), .int .i64 c.op, .int .i64 c.lb.lv, .int .u64 (c.lb.cs : Int), .int .i64 c.lb.ig, .string c.nm, .int .i64 c.pl, .int .i64 c.nn, .string (⟨#[]⟩ : ByteArray), .int .i64 c.id] 52] ∧ I' = []) := by
 refine fn_of Tryz.func67 rfl Tryz.ntmps67 (by kernel_rfl) rfl (fun C => ?_)
 refine c_seq ?_
 refine c_draw (l := ticked 9 0) [(⟨b, 9, none⟩, .string c.da)] [] (by kernel_rfl) rfl rfl ?_
 refine b_y (i := 0) (v := .pointer (some ⟨b, 0, none⟩)) (ticked 9 1) rfl rfl (by exact y_mv rfl) ?_
 refine b_y (i := 1) (v := .pointer (some ⟨b, 0, none⟩)) (ticked 9 3) rfl rfl (by exact y_k rfl rfl (fun _ => by kernel_rfl)) ?_
 refine b_y (i := 2) (v := .pointer (some ⟨b, 0, none⟩)) (ticked 9 7) rfl rfl (by exact y_k rfl rfl (fun _ => by kernel_rfl)) ?_
 refine b_y (i := 3) (v := .pointer (some ⟨b, 0, none⟩)) (ticked 9 15) rfl rfl (by exact y_mv rfl) ?_
 refine b_y (i := 4) (v := .pointer (some ⟨b, 0, none⟩)) (ticked 9 31) rfl rfl (by exact y_k rfl rfl (fun _ => by kernel_rfl)) ?_
 refine b_y (i := 5) (v := .pointer (some ⟨b, 2, none⟩)) (ticked 9 63) rfl rfl (by exact y_k rfl rfl (fun _ => by kernel_rfl)) ?_
 refine b_y (i := 6) (v := .pointer (some ⟨b, 9, none⟩)) (ticked 9 127) rfl rfl (by exact y_k rfl rfl (fun _ => by kernel_rfl)) ?_
 refine a_held (i := 7) (ticked 9 255) rfl (by as_aux_lemma => kernel_rfl) rfl rfl rfl (held_pt 0 rfl rfl held_nil) (h_ld 0 rfl rfl Tryz.underlying9 rfl) ?_
 refine a_each (rs := [8]) (by as_aux_lemma => kernel_rfl) (.cons (ticked 9 511) rfl rfl rfl (o_call [0] [0, 1, 2, 3, 4, 5, 6, 7, 8] (wtext_ b r q c c.da ea em ef el (by assumption) (by assumption) (by assumption) (by first | omega | assumption | decide) (by first | omega | assumption)) rfl rfl rfl rfl rfl rfl (fun v L' I' hq1 => ?_)) .nil) (List.cons_ne_nil _ _)
 obtain ⟨rfl, rfl, rfl⟩ := hq1
 refine a_and (held_pt 0 rfl rfl held_nil) ?_
 refine a_done (by as_aux_lemma => kernel_rfl) ?_
 refine q_then (c_region ?_)
 refine s_y rfl (v := .pointer (some ⟨b, 0, none⟩)) (y_mv rfl) rfl ?_
 refine s_y rfl (v := .pointer (some ⟨b, 0, none⟩)) (y_k rfl rfl (fun _ => by kernel_rfl)) rfl ?_
 refine s_y rfl (v := .pointer (some ⟨b, 2, none⟩)) (y_k rfl rfl (fun _ => by kernel_rfl)) rfl ?_
 refine s_y rfl (v := .pointer (some ⟨b, 9, none⟩)) (y_k rfl rfl (fun _ => by kernel_rfl)) rfl ?_
 refine st rfl (o_st 0 rfl rfl rfl rfl rfl (by kernel_rfl) (by kernel_rfl) rfl ?_)
 refine s_nil ?_
 refine c_fin_end (I' := []) [0] [0, 1, 2, 3, 4, 5, 6, 7, 8] rfl .nil rfl rfl rfl ?_
 exact ⟨rfl, rfl, rfl⟩
theorem cget68_ (b : Nat) (r : ByteArray) (q : Ec) (c : Cal) (ea : Addr) (em : Addr) (ef : Addr) (el : Addr) (h12 : ea ≠ em) (h13 : ea ≠ ef) (h23 : em ≠ ef) (hr : r.size ≤ 100000) : Con Tryz.prog 68 [.pointer (some ⟨b, 0, none⟩)] [pt b [.string r, cwV q, .int .i64 c.op, .int .i64 c.lb.lv, .int .u64 (c.lb.cs : Int), .int .i64 c.lb.ig, .string c.nm, .int .i64 c.pl, .int .i64 c.nn, .string c.da, .int .i64 c.id] 52] [cellsAt 2 0 [.iface 180 (.pointer (some ea))], cellsAt 3 0 [.iface 180 (.pointer (some em))], cellsAt 1 0 [.iface 180 (.pointer (some ef))], errAt ea, errAt em, errAt ef, cellsAt 4 0 [.iface 180 (.pointer (some el))], errAt el, cellsAt 0 0 [.iface 147 (.agg #[.pointer (some ⟨5, 48, none⟩)])]] (fun v L' I' => v = .tuple #[] ∧ L' = [pt b [.string ((textF r).2.1), cwV (addQ q (textF r).2.2), .int .i64 c.op, .int .i64 c.lb.lv, .int .u64 (c.lb.cs : Int), .int .i64 c.lb.ig, .string c.nm, .int .i64 c.pl, .int .i64 c.nn, .string ((textF r).1), .int .i64 c.id] 52] ∧ I' = []) := by
 refine fn_of Tryz.func68 rfl Tryz.ntmps68 (by kernel_rfl) rfl (fun C => ?_)
 refine c_region ?_
 refine s_y rfl (v := .pointer (some ⟨b, 0, none⟩)) (y_mv rfl) rfl ?_
 refine s_y rfl (v := .pointer (some ⟨b, 0, none⟩)) (y_mv rfl) rfl ?_
 refine s_y rfl (v := .pointer (some ⟨b, 0, none⟩)) (y_k rfl rfl (fun _ => by kernel_rfl)) rfl ?_
 refine s_y rfl (v := .pointer (some ⟨b, 0, none⟩)) (y_k rfl rfl (fun _ => by kernel_rfl)) rfl ?_
 refine st rfl (o_call [0] [0, 1, 2, 3, 4, 5, 6, 7, 8] (wtakeText_ b r q c ea em ef el (by assumption) (by assumption) (by assumption) (by first | omega | assumption | decide)) rfl rfl rfl rfl rfl rfl (fun v L' I' hq1 => ?_))
 obtain ⟨rfl, rfl, rfl⟩ := hq1
 refine s_y rfl (v := .pointer (some ⟨b, 0, none⟩)) (y_k rfl rfl (fun _ => by kernel_rfl)) rfl ?_
 refine s_y rfl (v := .pointer (some ⟨b, 2, none⟩)) (y_k rfl rfl (fun _ => by kernel_rfl)) rfl ?_
 refine s_y rfl (v := .pointer (some ⟨b, 9, none⟩)) (y_k rfl rfl (fun _ => by kernel_rfl)) rfl ?_
 refine st rfl (o_st 0 rfl rfl rfl rfl rfl (by kernel_rfl) (by kernel_rfl) rfl ?_)
 refine s_nil ?_
 refine c_fin_end (I' := []) [0] [0, 1, 2, 3, 4, 5, 6, 7, 8] rfl .nil rfl rfl rfl ?_
 exact ⟨rfl, rfl, rfl⟩
theorem cput65_ (b : Nat) (r : ByteArray) (q : Ec) (c : Cal) (ea : Addr) (em : Addr) (ef : Addr) (el : Addr) (h12 : ea ≠ em) (h13 : ea ≠ ef) (h23 : em ≠ ef) (hr : r.size ≤ 100000) (h6 : lab64 c.lb) (hn1 : c.nm.size ≤ 100000) (hn2 : c.da.size ≤ 100000) : Con Tryz.prog 69 [.pointer (some ⟨b, 0, none⟩)] [pt b [.string r, cwV q, .int .i64 c.op, .int .i64 c.lb.lv, .int .u64 (c.lb.cs : Int), .int .i64 c.lb.ig, .string c.nm, .int .i64 c.pl, .int .i64 c.nn, .string c.da, .int .i64 c.id] 52] [cellsAt 2 0 [.iface 180 (.pointer (some ea))], cellsAt 3 0 [.iface 180 (.pointer (some em))], cellsAt 1 0 [.iface 180 (.pointer (some ef))], errAt ea, errAt em, errAt ef, cellsAt 4 0 [.iface 180 (.pointer (some el))], errAt el, cellsAt 0 0 [.iface 147 (.agg #[.pointer (some ⟨5, 48, none⟩)])]] (fun v L' I' => v = .tuple #[] ∧ L' = [pt b [.string (r ++ (putF 2 (u64 c.pl)).1), cwV (addQ q (numE 2 c.pl)), .int .i64 c.op, .int .i64 c.lb.lv, .int .u64 (c.lb.cs : Int), .int .i64 c.lb.ig, .string c.nm, .int .i64 0, .int .i64 c.nn, .string c.da, .int .i64 c.id] 52] ∧ I' = []) := by
 refine fn_of Tryz.func69 rfl Tryz.ntmps69 (by kernel_rfl) rfl (fun C => ?_)
 refine c_seq ?_
 refine c_draw (l := ticked 9 0) [(⟨b, 7, none⟩, .int .i64 c.pl)] [] (by kernel_rfl) rfl rfl ?_
 refine b_y (i := 0) (v := .pointer (some ⟨b, 0, none⟩)) (ticked 9 1) rfl rfl (by exact y_mv rfl) ?_
 refine b_y (i := 1) (v := .pointer (some ⟨b, 0, none⟩)) (ticked 9 3) rfl rfl (by exact y_k rfl rfl (fun _ => by kernel_rfl)) ?_
 refine b_y (i := 2) (v := .pointer (some ⟨b, 0, none⟩)) (ticked 9 7) rfl rfl (by exact y_k rfl rfl (fun _ => by kernel_rfl)) ?_
 refine b_y (i := 3) (v := .pointer (some ⟨b, 0, none⟩)) (ticked 9 15) rfl rfl (by exact y_mv rfl) ?_
 refine b_y (i := 4) (v := .pointer (some ⟨b, 0, none⟩)) (ticked 9 31) rfl rfl (by exact y_k rfl rfl (fun _ => by kernel_rfl)) ?_
 refine b_y (i := 5) (v := .pointer (some ⟨b, 2, none⟩)) (ticked 9 63) rfl rfl (by exact y_k rfl rfl (fun _ => by kernel_rfl)) ?_
 refine b_y (i := 6) (v := .pointer (some ⟨b, 7, none⟩)) (ticked 9 127) rfl rfl (by exact y_k rfl rfl (fun _ => by kernel_rfl)) ?_
 refine a_held (i := 7) (ticked 9 255) rfl (by as_aux_lemma => kernel_rfl) rfl rfl rfl (held_pt 0 rfl rfl held_nil) (h_ld 0 rfl rfl Tryz.underlying3 rfl) ?_
 refine a_each (rs := [8]) (by as_aux_lemma => kernel_rfl) (.cons (ticked 9 511) rfl rfl rfl (o_call [0] [0, 1, 2, 3, 4, 5, 6, 7, 8] (wnumber_ b r q c (2 : Int) c.pl ea em ef el (by assumption) (by assumption) (by assumption) (by first | omega | assumption | decide)) rfl rfl rfl rfl rfl rfl (fun v L' I' hq1 => ?_)) .nil) (List.cons_ne_nil _ _)
 obtain ⟨rfl, rfl, rfl⟩ := hq1
 refine a_and (held_pt 0 rfl rfl held_nil) ?_
 refine a_done (by as_aux_lemma => kernel_rfl) ?_
 refine q_then (c_region ?_)
 refine s_y rfl (v := .pointer (some ⟨b, 0, none⟩)) (y_mv rfl) rfl ?_
 refine s_y rfl (v := .pointer (some ⟨b, 0, none⟩)) (y_k rfl rfl (fun _ => by kernel_rfl)) rfl ?_
 refine s_y rfl (v := .pointer (some ⟨b, 2, none⟩)) (y_k rfl rfl (fun _ => by kernel_rfl)) rfl ?_
 refine s_y rfl (v := .pointer (some ⟨b, 7, none⟩)) (y_k rfl rfl (fun _ => by kernel_rfl)) rfl ?_
 refine st rfl (o_st 0 rfl rfl rfl rfl rfl (by kernel_rfl) (by kernel_rfl) rfl ?_)
 refine s_nil ?_
 refine c_fin_end (I' := []) [0] [0, 1, 2, 3, 4, 5, 6, 7, 8] rfl .nil rfl rfl rfl ?_
 exact ⟨rfl, rfl, rfl⟩
theorem cget65_ (b : Nat) (r : ByteArray) (q : Ec) (c : Cal) (ea : Addr) (em : Addr) (ef : Addr) (el : Addr) (h12 : ea ≠ em) (h13 : ea ≠ ef) (h23 : em ≠ ef) (hr : r.size ≤ 100000) : Con Tryz.prog 70 [.pointer (some ⟨b, 0, none⟩)] [pt b [.string r, cwV q, .int .i64 c.op, .int .i64 c.lb.lv, .int .u64 (c.lb.cs : Int), .int .i64 c.lb.ig, .string c.nm, .int .i64 c.pl, .int .i64 c.nn, .string c.da, .int .i64 c.id] 52] [cellsAt 2 0 [.iface 180 (.pointer (some ea))], cellsAt 3 0 [.iface 180 (.pointer (some em))], cellsAt 1 0 [.iface 180 (.pointer (some ef))], errAt ea, errAt em, errAt ef, cellsAt 4 0 [.iface 180 (.pointer (some el))], errAt el, cellsAt 0 0 [.iface 147 (.agg #[.pointer (some ⟨5, 48, none⟩)])]] (fun v L' I' => v = .tuple #[] ∧ L' = [pt b [.string ((getF 2 r).2.1), cwV (addQ q (getF 2 r).2.2), .int .i64 c.op, .int .i64 c.lb.lv, .int .u64 (c.lb.cs : Int), .int .i64 c.lb.ig, .string c.nm, .int .i64 ((getF 2 r).1 : Int), .int .i64 c.nn, .string c.da, .int .i64 c.id] 52] ∧ I' = []) := by
 refine fn_of Tryz.func70 rfl Tryz.ntmps70 (by kernel_rfl) rfl (fun C => ?_)
 refine c_region ?_
 refine s_y rfl (v := .pointer (some ⟨b, 0, none⟩)) (y_mv rfl) rfl ?_
 refine s_y rfl (v := .pointer (some ⟨b, 0, none⟩)) (y_mv rfl) rfl ?_
 refine s_y rfl (v := .pointer (some ⟨b, 0, none⟩)) (y_k rfl rfl (fun _ => by kernel_rfl)) rfl ?_
 refine s_y rfl (v := .pointer (some ⟨b, 0, none⟩)) (y_k rfl rfl (fun _ => by kernel_rfl)) rfl ?_
 refine st rfl (o_call [0] [0, 1, 2, 3, 4, 5, 6, 7, 8] (wtakeNumber_ b r q c (2 : Int) ea em ef el (by assumption) (by assumption) (by assumption) (by first | omega | assumption | decide) (by omega)) rfl rfl rfl rfl rfl rfl (fun v L' I' hq1 => ?_))
 obtain ⟨rfl, rfl, rfl⟩ := hq1
 refine s_y rfl (v := .pointer (some ⟨b, 0, none⟩)) (y_k rfl rfl (fun _ => by kernel_rfl)) rfl ?_
 refine s_y rfl (v := .pointer (some ⟨b, 2, none⟩)) (y_k rfl rfl (fun _ => by kernel_rfl)) rfl ?_
 refine s_y rfl (v := .pointer (some ⟨b, 7, none⟩)) (y_k rfl rfl (fun _ => by kernel_rfl)) rfl ?_
 refine st rfl (o_st 0 rfl rfl rfl rfl rfl (by kernel_rfl) (by kernel_rfl) rfl ?_)
 refine s_nil ?_
 refine c_fin_end (I' := []) [0] [0, 1, 2, 3, 4, 5, 6, 7, 8] rfl .nil rfl rfl rfl ?_
 exact ⟨rfl, rfl, rfl⟩
theorem cput78_ (b : Nat) (r : ByteArray) (q : Ec) (c : Cal) (ea : Addr) (em : Addr) (ef : Addr) (el : Addr) (h12 : ea ≠ em) (h13 : ea ≠ ef) (h23 : em ≠ ef) (hr : r.size ≤ 100000) (h6 : lab64 c.lb) (hn1 : c.nm.size ≤ 100000) (hn2 : c.da.size ≤ 100000) : Con Tryz.prog 71 [.pointer (some ⟨b, 0, none⟩)] [pt b [.string r, cwV q, .int .i64 c.op, .int .i64 c.lb.lv, .int .u64 (c.lb.cs : Int), .int .i64 c.lb.ig, .string c.nm, .int .i64 c.pl, .int .i64 c.nn, .string c.da, .int .i64 c.id] 52] [cellsAt 2 0 [.iface 180 (.pointer (some ea))], cellsAt 3 0 [.iface 180 (.pointer (some em))], cellsAt 1 0 [.iface 180 (.pointer (some ef))], errAt ea, errAt em, errAt ef, cellsAt 4 0 [.iface 180 (.pointer (some el))], errAt el, cellsAt 0 0 [.iface 147 (.agg #[.pointer (some ⟨5, 48, none⟩)])]] (fun v L' I' => v = .tuple #[] ∧ L' = [pt b [.string (r ++ (putF 2 (u64 c.nn)).1), cwV (addQ q (numE 2 c.nn)), .int .i64 c.op, .int .i64 c.lb.lv, .int .u64 (c.lb.cs : Int), .int .i64 c.lb.ig, .string c.nm, .int .i64 c.pl, .int .i64 0, .string c.da, .int .i64 c.id] 52] ∧ I' = []) := by
 refine fn_of Tryz.func71 rfl Tryz.ntmps71 (by kernel_rfl) rfl (fun C => ?_)
 refine c_seq ?_
 refine c_draw (l := ticked 9 0) [(⟨b, 8, none⟩, .int .i64 c.nn)] [] (by kernel_rfl) rfl rfl ?_
 refine b_y (i := 0) (v := .pointer (some ⟨b, 0, none⟩)) (ticked 9 1) rfl rfl (by exact y_mv rfl) ?_
 refine b_y (i := 1) (v := .pointer (some ⟨b, 0, none⟩)) (ticked 9 3) rfl rfl (by exact y_k rfl rfl (fun _ => by kernel_rfl)) ?_
 refine b_y (i := 2) (v := .pointer (some ⟨b, 0, none⟩)) (ticked 9 7) rfl rfl (by exact y_k rfl rfl (fun _ => by kernel_rfl)) ?_
 refine b_y (i := 3) (v := .pointer (some ⟨b, 0, none⟩)) (ticked 9 15) rfl rfl (by exact y_mv rfl) ?_
 refine b_y (i := 4) (v := .pointer (some ⟨b, 0, none⟩)) (ticked 9 31) rfl rfl (by exact y_k rfl rfl (fun _ => by kernel_rfl)) ?_
 refine b_y (i := 5) (v := .pointer (some ⟨b, 2, none⟩)) (ticked 9 63) rfl rfl (by exact y_k rfl rfl (fun _ => by kernel_rfl)) ?_
 refine b_y (i := 6) (v := .pointer (some ⟨b, 8, none⟩)) (ticked 9 127) rfl rfl (by exact y_k rfl rfl (fun _ => by kernel_rfl)) ?_
 refine a_held (i := 7) (ticked 9 255) rfl (by as_aux_lemma => kernel_rfl) rfl rfl rfl (held_pt 0 rfl rfl held_nil) (h_ld 0 rfl rfl Tryz.underlying3 rfl) ?_
 refine a_each (rs := [8]) (by as_aux_lemma => kernel_rfl) (.cons (ticked 9 511) rfl rfl rfl (o_call [0] [0, 1, 2, 3, 4, 5, 6, 7, 8] (wnumber_ b r q c (2 : Int) c.nn ea em ef el (by assumption) (by assumption) (by assumption) (by first | omega | assumption | decide)) rfl rfl rfl rfl rfl rfl (fun v L' I' hq1 => ?_)) .nil) (List.cons_ne_nil _ _)
 obtain ⟨rfl, rfl, rfl⟩ := hq1
 refine a_and (held_pt 0 rfl rfl held_nil) ?_
 refine a_done (by as_aux_lemma => kernel_rfl) ?_
 refine q_then (c_region ?_)
 refine s_y rfl (v := .pointer (some ⟨b, 0, none⟩)) (y_mv rfl) rfl ?_
 refine s_y rfl (v := .pointer (some ⟨b, 0, none⟩)) (y_k rfl rfl (fun _ => by kernel_rfl)) rfl ?_
 refine s_y rfl (v := .pointer (some ⟨b, 2, none⟩)) (y_k rfl rfl (fun _ => by kernel_rfl)) rfl ?_
 refine s_y rfl (v := .pointer (some ⟨b, 8, none⟩)) (y_k rfl rfl (fun _ => by kernel_rfl)) rfl ?_
 refine st rfl (o_st 0 rfl rfl rfl rfl rfl (by kernel_rfl) (by kernel_rfl) rfl ?_)
 refine s_nil ?_
 refine c_fin_end (I' := []) [0] [0, 1, 2, 3, 4, 5, 6, 7, 8] rfl .nil rfl rfl rfl ?_
 exact ⟨rfl, rfl, rfl⟩
theorem cget78_ (b : Nat) (r : ByteArray) (q : Ec) (c : Cal) (ea : Addr) (em : Addr) (ef : Addr) (el : Addr) (h12 : ea ≠ em) (h13 : ea ≠ ef) (h23 : em ≠ ef) (hr : r.size ≤ 100000) : Con Tryz.prog 72 [.pointer (some ⟨b, 0, none⟩)] [pt b [.string r, cwV q, .int .i64 c.op, .int .i64 c.lb.lv, .int .u64 (c.lb.cs : Int), .int .i64 c.lb.ig, .string c.nm, .int .i64 c.pl, .int .i64 c.nn, .string c.da, .int .i64 c.id] 52] [cellsAt 2 0 [.iface 180 (.pointer (some ea))], cellsAt 3 0 [.iface 180 (.pointer (some em))], cellsAt 1 0 [.iface 180 (.pointer (some ef))], errAt ea, errAt em, errAt ef, cellsAt 4 0 [.iface 180 (.pointer (some el))], errAt el, cellsAt 0 0 [.iface 147 (.agg #[.pointer (some ⟨5, 48, none⟩)])]] (fun v L' I' => v = .tuple #[] ∧ L' = [pt b [.string ((getF 2 r).2.1), cwV (addQ q (getF 2 r).2.2), .int .i64 c.op, .int .i64 c.lb.lv, .int .u64 (c.lb.cs : Int), .int .i64 c.lb.ig, .string c.nm, .int .i64 c.pl, .int .i64 ((getF 2 r).1 : Int), .string c.da, .int .i64 c.id] 52] ∧ I' = []) := by
 refine fn_of Tryz.func72 rfl Tryz.ntmps72 (by kernel_rfl) rfl (fun C => ?_)
 refine c_region ?_
 refine s_y rfl (v := .pointer (some ⟨b, 0, none⟩)) (y_mv rfl) rfl ?_
 refine s_y rfl (v := .pointer (some ⟨b, 0, none⟩)) (y_mv rfl) rfl ?_
 refine s_y rfl (v := .pointer (some ⟨b, 0, none⟩)) (y_k rfl rfl (fun _ => by kernel_rfl)) rfl ?_
 refine s_y rfl (v := .pointer (some ⟨b, 0, none⟩)) (y_k rfl rfl (fun _ => by kernel_rfl)) rfl ?_
 refine st rfl (o_call [0] [0, 1, 2, 3, 4, 5, 6, 7, 8] (wtakeNumber_ b r q c (2 : Int) ea em ef el (by assumption) (by assumption) (by assumption) (by first | omega | assumption | decide) (by omega)) rfl rfl rfl rfl rfl rfl (fun v L' I' hq1 => ?_))
 obtain ⟨rfl, rfl, rfl⟩ := hq1
 refine s_y rfl (v := .pointer (some ⟨b, 0, none⟩)) (y_k rfl rfl (fun _ => by kernel_rfl)) rfl ?_
 refine s_y rfl (v := .pointer (some ⟨b, 2, none⟩)) (y_k rfl rfl (fun _ => by kernel_rfl)) rfl ?_
 refine s_y rfl (v := .pointer (some ⟨b, 8, none⟩)) (y_k rfl rfl (fun _ => by kernel_rfl)) rfl ?_
 refine st rfl (o_st 0 rfl rfl rfl rfl rfl (by kernel_rfl) (by kernel_rfl) rfl ?_)
 refine s_nil ?_
 refine c_fin_end (I' := []) [0] [0, 1, 2, 3, 4, 5, 6, 7, 8] rfl .nil rfl rfl rfl ?_
 exact ⟨rfl, rfl, rfl⟩
theorem cput73_ (b : Nat) (r : ByteArray) (q : Ec) (c : Cal) (ea : Addr) (em : Addr) (ef : Addr) (el : Addr) (h12 : ea ≠ em) (h13 : ea ≠ ef) (h23 : em ≠ ef) (hr : r.size ≤ 100000) (h6 : lab64 c.lb) (hn1 : c.nm.size ≤ 100000) (hn2 : c.da.size ≤ 100000) : Con Tryz.prog 73 [.pointer (some ⟨b, 0, none⟩)] [pt b [.string r, cwV q, .int .i64 c.op, .int .i64 c.lb.lv, .int .u64 (c.lb.cs : Int), .int .i64 c.lb.ig, .string c.nm, .int .i64 c.pl, .int .i64 c.nn, .string c.da, .int .i64 c.id] 52] [cellsAt 2 0 [.iface 180 (.pointer (some ea))], cellsAt 3 0 [.iface 180 (.pointer (some em))], cellsAt 1 0 [.iface 180 (.pointer (some ef))], errAt ea, errAt em, errAt ef, cellsAt 4 0 [.iface 180 (.pointer (some el))], errAt el, cellsAt 0 0 [.iface 147 (.agg #[.pointer (some ⟨5, 48, none⟩)])]] (fun v L' I' => v = .tuple #[] ∧ L' = [pt b [.string (r ++ (putF 1 (u64 c.id)).1), cwV (addQ q (numE 1 c.id)), .int .i64 c.op, .int .i64 c.lb.lv, .int .u64 (c.lb.cs : Int), .int .i64 c.lb.ig, .string c.nm, .int .i64 c.pl, .int .i64 c.nn, .string c.da, .int .i64 0] 52] ∧ I' = []) := by
 refine fn_of Tryz.func73 rfl Tryz.ntmps73 (by kernel_rfl) rfl (fun C => ?_)
 refine c_seq ?_
 refine c_draw (l := ticked 9 0) [(⟨b, 10, none⟩, .int .i64 c.id)] [] (by kernel_rfl) rfl rfl ?_
 refine b_y (i := 0) (v := .pointer (some ⟨b, 0, none⟩)) (ticked 9 1) rfl rfl (by exact y_mv rfl) ?_
 refine b_y (i := 1) (v := .pointer (some ⟨b, 0, none⟩)) (ticked 9 3) rfl rfl (by exact y_k rfl rfl (fun _ => by kernel_rfl)) ?_
 refine b_y (i := 2) (v := .pointer (some ⟨b, 0, none⟩)) (ticked 9 7) rfl rfl (by exact y_k rfl rfl (fun _ => by kernel_rfl)) ?_
 refine b_y (i := 3) (v := .pointer (some ⟨b, 0, none⟩)) (ticked 9 15) rfl rfl (by exact y_mv rfl) ?_
 refine b_y (i := 4) (v := .pointer (some ⟨b, 0, none⟩)) (ticked 9 31) rfl rfl (by exact y_k rfl rfl (fun _ => by kernel_rfl)) ?_
 refine b_y (i := 5) (v := .pointer (some ⟨b, 2, none⟩)) (ticked 9 63) rfl rfl (by exact y_k rfl rfl (fun _ => by kernel_rfl)) ?_
 refine b_y (i := 6) (v := .pointer (some ⟨b, 10, none⟩)) (ticked 9 127) rfl rfl (by exact y_k rfl rfl (fun _ => by kernel_rfl)) ?_
 refine a_held (i := 7) (ticked 9 255) rfl (by as_aux_lemma => kernel_rfl) rfl rfl rfl (held_pt 0 rfl rfl held_nil) (h_ld 0 rfl rfl Tryz.underlying3 rfl) ?_
 refine a_each (rs := [8]) (by as_aux_lemma => kernel_rfl) (.cons (ticked 9 511) rfl rfl rfl (o_call [0] [0, 1, 2, 3, 4, 5, 6, 7, 8] (wnumber_ b r q c (1 : Int) c.id ea em ef el (by assumption) (by assumption) (by assumption) (by first | omega | assumption | decide)) rfl rfl rfl rfl rfl rfl (fun v L' I' hq1 => ?_)) .nil) (List.cons_ne_nil _ _)
 obtain ⟨rfl, rfl, rfl⟩ := hq1
 refine a_and (held_pt 0 rfl rfl held_nil) ?_
 refine a_done (by as_aux_lemma => kernel_rfl) ?_
 refine q_then (c_region ?_)
 refine s_y rfl (v := .pointer (some ⟨b, 0, none⟩)) (y_mv rfl) rfl ?_
 refine s_y rfl (v := .pointer (some ⟨b, 0, none⟩)) (y_k rfl rfl (fun _ => by kernel_rfl)) rfl ?_
 refine s_y rfl (v := .pointer (some ⟨b, 2, none⟩)) (y_k rfl rfl (fun _ => by kernel_rfl)) rfl ?_
 refine s_y rfl (v := .pointer (some ⟨b, 10, none⟩)) (y_k rfl rfl (fun _ => by kernel_rfl)) rfl ?_
 refine st rfl (o_st 0 rfl rfl rfl rfl rfl (by kernel_rfl) (by kernel_rfl) rfl ?_)
 refine s_nil ?_
 refine c_fin_end (I' := []) [0] [0, 1, 2, 3, 4, 5, 6, 7, 8] rfl .nil rfl rfl rfl ?_
 exact ⟨rfl, rfl, rfl⟩
theorem cget73_ (b : Nat) (r : ByteArray) (q : Ec) (c : Cal) (ea : Addr) (em : Addr) (ef : Addr) (el : Addr) (h12 : ea ≠ em) (h13 : ea ≠ ef) (h23 : em ≠ ef) (hr : r.size ≤ 100000) : Con Tryz.prog 74 [.pointer (some ⟨b, 0, none⟩)] [pt b [.string r, cwV q, .int .i64 c.op, .int .i64 c.lb.lv, .int .u64 (c.lb.cs : Int), .int .i64 c.lb.ig, .string c.nm, .int .i64 c.pl, .int .i64 c.nn, .string c.da, .int .i64 c.id] 52] [cellsAt 2 0 [.iface 180 (.pointer (some ea))], cellsAt 3 0 [.iface 180 (.pointer (some em))], cellsAt 1 0 [.iface 180 (.pointer (some ef))], errAt ea, errAt em, errAt ef, cellsAt 4 0 [.iface 180 (.pointer (some el))], errAt el, cellsAt 0 0 [.iface 147 (.agg #[.pointer (some ⟨5, 48, none⟩)])]] (fun v L' I' => v = .tuple #[] ∧ L' = [pt b [.string ((getF 1 r).2.1), cwV (addQ q (getF 1 r).2.2), .int .i64 c.op, .int .i64 c.lb.lv, .int .u64 (c.lb.cs : Int), .int .i64 c.lb.ig, .string c.nm, .int .i64 c.pl, .int .i64 c.nn, .string c.da, .int .i64 ((getF 1 r).1 : Int)] 52] ∧ I' = []) := by
 refine fn_of Tryz.func74 rfl Tryz.ntmps74 (by kernel_rfl) rfl (fun C => ?_)
 refine c_region ?_
 refine s_y rfl (v := .pointer (some ⟨b, 0, none⟩)) (y_mv rfl) rfl ?_
 refine s_y rfl (v := .pointer (some ⟨b, 0, none⟩)) (y_mv rfl) rfl ?_
 refine s_y rfl (v := .pointer (some ⟨b, 0, none⟩)) (y_k rfl rfl (fun _ => by kernel_rfl)) rfl ?_
 refine s_y rfl (v := .pointer (some ⟨b, 0, none⟩)) (y_k rfl rfl (fun _ => by kernel_rfl)) rfl ?_
 refine st rfl (o_call [0] [0, 1, 2, 3, 4, 5, 6, 7, 8] (wtakeNumber_ b r q c (1 : Int) ea em ef el (by assumption) (by assumption) (by assumption) (by first | omega | assumption | decide) (by omega)) rfl rfl rfl rfl rfl rfl (fun v L' I' hq1 => ?_))
 obtain ⟨rfl, rfl, rfl⟩ := hq1
 refine s_y rfl (v := .pointer (some ⟨b, 0, none⟩)) (y_k rfl rfl (fun _ => by kernel_rfl)) rfl ?_
 refine s_y rfl (v := .pointer (some ⟨b, 2, none⟩)) (y_k rfl rfl (fun _ => by kernel_rfl)) rfl ?_
 refine s_y rfl (v := .pointer (some ⟨b, 10, none⟩)) (y_k rfl rfl (fun _ => by kernel_rfl)) rfl ?_
 refine st rfl (o_st 0 rfl rfl rfl rfl rfl (by kernel_rfl) (by kernel_rfl) rfl ?_)
 refine s_nil ?_
 refine c_fin_end (I' := []) [0] [0, 1, 2, 3, 4, 5, 6, 7, 8] rfl .nil rfl rfl rfl ?_
 exact ⟨rfl, rfl, rfl⟩
end Go.Proofs.YtcnncdniibkjkaaGreatDoor
