/- The laws of chapter 17 (call), walked over the given program; no condition but what stands in each theorem: part UFirst. -/
import Derived.Test.YtcnncdniibkjkaaDoorRLNB
import Derived.Test.YtcnncdniibkjkaaDoorRLPB
set_option linter.unusedVariables false
set_option linter.unusedSimpArgs false
set_option maxRecDepth 100000
set_option maxHeartbeats 8000000
namespace Go.Proofs.YtcnncdniibkjkaaDoor
open Go Go.Sl Go.RowKit Go.Extern.Stop Go.Stop Go.Extern
theorem CallFirst_ (ea : Addr) (em : Addr) (ef : Addr) (el : Addr) (h12 : ea ≠ em) (h13 : ea ≠ ef) (h23 : em ≠ ef) (c : Cal) (d : Cal) (h6c : lab64 c.lb) (hzac : c.nm.size ≤ 9223372036854775807) (hzbc : c.da.size ≤ 9223372036854775807) (h6d : lab64 d.lb) (hzad : d.nm.size ≤ 9223372036854775807) (hzbd : d.da.size ≤ 9223372036854775807) : Con Tryd.prog 5 [.agg #[.int .i64 c.op, .int .i64 c.lb.lv, .int .u64 (c.lb.cs : Int), .int .i64 c.lb.ig, .string c.nm, .int .i64 c.pl, .int .i64 c.nn, .string c.da, .int .i64 c.id], .agg #[.int .i64 d.op, .int .i64 d.lb.lv, .int .u64 (d.lb.cs : Int), .int .i64 d.lb.ig, .string d.nm, .int .i64 d.pl, .int .i64 d.nn, .string d.da, .int .i64 d.id]] [] [cellsAt 2 0 [.iface 177 (.pointer (some ea))], cellsAt 3 0 [.iface 177 (.pointer (some em))], cellsAt 1 0 [.iface 177 (.pointer (some ef))], cellsAt 4 0 [.iface 177 (.pointer (some el))], errAt ea, errAt em, errAt ef, errAt el, cellsAt 0 0 [.iface 139 (.agg #[.pointer (some ⟨5, 51, none⟩)])]] (fun v L' I' => v = .bool true ∧ L' = [] ∧ I' = []) := by
 have f1c := shortW_size c.nm
 have f2c := shortW_size c.da
 have f6c : lab64 (fewC c).lb := h6c
 have f3c : (fewC c).nm.size ≤ 100000 := Nat.le_trans f1c (by decide)
 have f4c : (fewC c).da.size ≤ 100000 := Nat.le_trans f2c (by decide)
 have f5c := callPut_size f6c f3c f4c
 have f1d := shortW_size d.nm
 have f2d := shortW_size d.da
 have f6d : lab64 (fewC d).lb := h6d
 have f3d : (fewC d).nm.size ≤ 100000 := Nat.le_trans f1d (by decide)
 have f4d : (fewC d).da.size ≤ 100000 := Nat.le_trans f2d (by decide)
 have f5d := callPut_size f6d f3d f4d
 refine fn_of Tryd.func5 rfl Tryd.ntmps5 (by kernel_rfl) rfl (fun C => ?_)
 refine c_seq (c_region ?_)
 refine st rfl (o_box (cs := [.int .i64 c.op, .int .i64 c.lb.lv, .int .u64 (c.lb.cs : Int), .int .i64 c.lb.ig, .string c.nm, .int .i64 c.pl, .int .i64 c.nn, .string c.da, .int .i64 c.id]) (T := 26) rfl rfl rfl rfl (fun _ => by kernel_rfl) (fun b1 => ?_))
 refine st rfl (o_box (cs := [.int .i64 d.op, .int .i64 d.lb.lv, .int .u64 (d.lb.cs : Int), .int .i64 d.lb.ig, .string d.nm, .int .i64 d.pl, .int .i64 d.nn, .string d.da, .int .i64 d.id]) (T := 26) rfl rfl rfl rfl (fun _ => by kernel_rfl) (fun b2 => ?_))
 refine s_y rfl (v := .bool false) (y_as rfl) rfl ?_
 refine s_nil (q_then (c_seq (c_region ?_)))
 refine st rfl (o_call [] [0, 1, 2, 3, 4, 5, 6, 7, 8] (shown_ ea em ef el (by assumption) (by assumption) (by assumption)) rfl rfl rfl rfl rfl rfl (fun v L' I' hq1 => ?_))
 obtain ⟨rfl, rfl, rfl⟩ := hq1
 refine s_y rfl (v := .bool true) (y_as rfl) rfl ?_
 refine s_nil (q_then (c_seq (c_region ?_)))
 refine st rfl (o_ldn 1 9 rfl rfl rfl rfl Tryd.underlying26 rfl (by kernel_rfl) (by kernel_rfl) rfl ?_)
 refine st rfl (o_call [] [] (fewc_ c (hzac) (hzbc)) rfl rfl rfl rfl rfl rfl (fun v L' I' hq2 => ?_))
 obtain ⟨rfl, rfl, rfl⟩ := hq2
 refine st rfl (o_call [] [0, 1, 2, 4, 5, 6, 3, 7, 8] (callPut_ (fewC c) ea em ef el (by assumption) (by assumption) (by assumption) (f6c) (f3c) (f4c)) rfl rfl rfl rfl rfl rfl (fun v L' I' hq3 => ?_))
 obtain ⟨rfl, rfl, rfl⟩ := hq3
 refine s_y rfl (v := .tuple #[.string ((callPut (fewC c)).1), .int .i64 ((callPut (fewC c)).2)]) (y_mv rfl) rfl ?_
 refine s_y rfl (v := .string ((callPut (fewC c)).1)) (y_k rfl rfl (fun _ => by kernel_rfl)) rfl ?_
 refine s_y rfl (v := .int .i64 ((callPut (fewC c)).2)) (y_k rfl rfl (fun _ => by kernel_rfl)) rfl ?_
 refine s_y rfl (v := .string ((callPut (fewC c)).1)) (y_as rfl) rfl ?_
 refine s_y rfl (v := .int .i64 ((callPut (fewC c)).2)) (y_as rfl) rfl ?_
 refine s_nil (q_then (c_seq (c_region ?_)))
 refine st rfl (o_ldn 0 9 rfl rfl rfl rfl Tryd.underlying26 rfl (by kernel_rfl) (by kernel_rfl) rfl ?_)
 refine st rfl (o_call [] [] (fewc_ d (hzad) (hzbd)) rfl rfl rfl rfl rfl rfl (fun v L' I' hq4 => ?_))
 obtain ⟨rfl, rfl, rfl⟩ := hq4
 refine st rfl (o_call [] [0, 1, 2, 4, 5, 6, 3, 7, 8] (callPut_ (fewC d) ea em ef el (by assumption) (by assumption) (by assumption) (f6d) (f3d) (f4d)) rfl rfl rfl rfl rfl rfl (fun v L' I' hq5 => ?_))
 obtain ⟨rfl, rfl, rfl⟩ := hq5
 refine s_y rfl (v := .tuple #[.string ((callPut (fewC d)).1), .int .i64 ((callPut (fewC d)).2)]) (y_mv rfl) rfl ?_
 refine s_y rfl (v := .string ((callPut (fewC d)).1)) (y_k rfl rfl (fun _ => by kernel_rfl)) rfl ?_
 refine s_y rfl (v := .int .i64 ((callPut (fewC d)).2)) (y_k rfl rfl (fun _ => by kernel_rfl)) rfl ?_
 refine s_y rfl (v := .string ((callPut (fewC d)).1)) (y_as rfl) rfl ?_
 refine s_y rfl (v := .int .i64 ((callPut (fewC d)).2)) (y_as rfl) rfl ?_
 refine s_nil (q_then (c_seq (c_seq (c_region ?_))))
 refine s_y rfl (v := .int .i64 ((callPut (fewC c)).2)) (y_mv rfl) rfl ?_
 refine e_by ((callPut (fewC c)).2 = 0) (fun h24 => ?_) (fun h24 => ?_)
 ·
  refine s_y rfl (v := .bool false) (y_nt (y_k (v := .bool (!decide ((callPut (fewC c)).2 = 0))) rfl rfl (fun _ => by kernel_rfl)) h24) rfl ?_
  refine s_y rfl (v := .bool false) (y_mv rfl) rfl ?_
  refine st_on 25 rfl rfl rfl (o_y (v := .int .i64 ((callPut (fewC d)).2)) (y_mv rfl) rfl rfl rfl ?_)
  refine e_by ((callPut (fewC d)).2 = 0) (fun h25 => ?_) (fun h25 => ?_)
  ·
   refine st_on 25 rfl rfl rfl (o_y (v := .bool false) (y_nt (y_k (v := .bool (!decide ((callPut (fewC d)).2 = 0))) rfl rfl (fun _ => by kernel_rfl)) h25) rfl rfl rfl ?_)
   refine s_y rfl (v := .bool false) (y_pick rfl rfl) rfl ?_
   refine s_y rfl (v := .bool false) (y_mv rfl) rfl ?_
   refine st_on 29 rfl rfl rfl (o_y (v := .string ((callPut (fewC c)).1)) (y_mv rfl) rfl rfl rfl ?_)
   have h26 : ¬ ((callPut (fewC c)).1 = (⟨#[]⟩ : ByteArray)) := first_ne h24
   refine st_on 29 rfl rfl rfl (o_y (v := .bool false) (y_b (y_k (v := .bool (((callPut (fewC c)).1).toList == (⟨#[]⟩ : ByteArray).toList)) rfl rfl (fun _ => by kernel_rfl)) (str_f h26)) rfl rfl rfl ?_)
   refine s_y rfl (v := .bool false) (y_pick rfl rfl) rfl ?_
   refine s_y rfl (v := .bool false) (y_mv rfl) rfl ?_
   refine st_on 33 rfl rfl rfl (o_y (v := .string ((callPut (fewC d)).1)) (y_mv rfl) rfl rfl rfl ?_)
   have h27 : ¬ ((callPut (fewC d)).1 = (⟨#[]⟩ : ByteArray)) := first_ne h25
   refine st_on 33 rfl rfl rfl (o_y (v := .bool false) (y_b (y_k (v := .bool (((callPut (fewC d)).1).toList == (⟨#[]⟩ : ByteArray).toList)) rfl rfl (fun _ => by kernel_rfl)) (str_f h27)) rfl rfl rfl ?_)
   refine s_y rfl (v := .bool false) (y_pick rfl rfl) rfl ?_
   refine s_nil (q_then (c_false rfl (c_skip (q_then (c_seq ?_)))))
   refine c_draw (l := ticked 30 0) [(⟨b1, 0, none⟩, .int .i64 c.op), (⟨b2, 0, none⟩, .int .i64 d.op)] [] (by kernel_rfl) rfl rfl ?_
   refine b_y (i := 0) (v := .bool true) (ticked 30 1) rfl rfl (by exact y_mv rfl) ?_
   refine b_y (i := 1) (v := .bool true) (ticked 30 3) rfl rfl (by exact y_mv rfl) ?_
   refine b_yo (i := 2) (v := .string ((callPut (fewC c)).1)) 47 (ticked 30 7) rfl rfl rfl (by exact y_mv rfl) ?_
   obtain ⟨x1, hb1⟩ : ∃ x, ((callPut (fewC c)).1)[0]? = some x := ⟨_, getElem?_pos ((callPut (fewC c)).1) 0 (by first | exact first_pos (c := fewC c) (by assumption) | exact first_pos (c := fewC d) (by assumption))⟩
   refine b_yo (i := 3) (v := .int .u8 (x1.toNat : Int)) 47 (ticked 30 15) rfl rfl rfl (by exact y_sidx 0 x1 rfl rfl (rfl) hb1 Tryd.underlying9) ?_
   refine b_yo (i := 4) (v := .int .i64 (x1.toNat : Int)) 47 (ticked 30 31) rfl rfl rfl (by exact y_cvi (r := (x1.toNat : Int)) rfl Tryd.underlying5 Tryd.underlying3 (u8_i64 (UInt8.toNat_lt _))) ?_
   refine b_yo (i := 5) (v := .pointer (some ⟨b1, 0, none⟩)) 47 (ticked 30 63) rfl rfl rfl (by exact y_k rfl rfl (fun _ => by kernel_rfl)) ?_
   refine a_held_on (i := 6) 47 (ticked 30 127) rfl (by as_aux_lemma => kernel_rfl) rfl rfl rfl rfl rfl (held_pt 1 rfl rfl (held_pt 0 rfl rfl held_nil)) (h_ld 0 rfl rfl Tryd.underlying3 rfl) ?_
   have h28 : (x1.toNat : Int) = c.op := first_ok (c := fewC c) h24 hb1
   refine b_yo (i := 7) (v := .bool true) 47 (ticked 30 255) rfl rfl rfl (by exact y_t (y_k (v := .bool (decide ((x1.toNat : Int) = c.op))) rfl rfl (fun _ => by kernel_rfl)) h28) ?_
   refine b_y (i := 8) (v := .bool true) (ticked 30 511) rfl rfl (by exact y_pick rfl rfl) ?_
   refine b_y (i := 9) (v := .bool true) (ticked 30 1023) rfl rfl (by exact y_mv rfl) ?_
   refine b_yo (i := 10) (v := .string ((callPut (fewC d)).1)) 55 (ticked 30 2047) rfl rfl rfl (by exact y_mv rfl) ?_
   obtain ⟨x2, hb2⟩ : ∃ x, ((callPut (fewC d)).1)[0]? = some x := ⟨_, getElem?_pos ((callPut (fewC d)).1) 0 (by first | exact first_pos (c := fewC c) (by assumption) | exact first_pos (c := fewC d) (by assumption))⟩
   refine b_yo (i := 11) (v := .int .u8 (x2.toNat : Int)) 55 (ticked 30 4095) rfl rfl rfl (by exact y_sidx 0 x2 rfl rfl (rfl) hb2 Tryd.underlying9) ?_
   refine b_yo (i := 12) (v := .int .i64 (x2.toNat : Int)) 55 (ticked 30 8191) rfl rfl rfl (by exact y_cvi (r := (x2.toNat : Int)) rfl Tryd.underlying5 Tryd.underlying3 (u8_i64 (UInt8.toNat_lt _))) ?_
   refine b_yo (i := 13) (v := .pointer (some ⟨b2, 0, none⟩)) 55 (ticked 30 16383) rfl rfl rfl (by exact y_k rfl rfl (fun _ => by kernel_rfl)) ?_
   refine a_held_on (i := 14) 55 (ticked 30 32767) rfl (by as_aux_lemma => kernel_rfl) rfl rfl rfl rfl rfl (held_pt 1 rfl rfl (held_pt 0 rfl rfl held_nil)) (h_ld 1 rfl rfl Tryd.underlying3 rfl) ?_
   have h29 : (x2.toNat : Int) = d.op := first_ok (c := fewC d) h25 hb2
   refine b_yo (i := 15) (v := .bool true) 55 (ticked 30 65535) rfl rfl rfl (by exact y_t (y_k (v := .bool (decide ((x2.toNat : Int) = d.op))) rfl rfl (fun _ => by kernel_rfl)) h29) ?_
   refine b_y (i := 16) (v := .bool true) (ticked 30 131071) rfl rfl (by exact y_pick rfl rfl) ?_
   refine b_y (i := 17) (v := .bool true) (ticked 30 262143) rfl rfl (by exact y_mv rfl) ?_
   refine b_yo (i := 18) (v := .pointer (some ⟨b1, 0, none⟩)) 63 (ticked 30 524287) rfl rfl rfl (by exact y_k rfl rfl (fun _ => by kernel_rfl)) ?_
   refine b_yo (i := 20) (v := .pointer (some ⟨b2, 0, none⟩)) 63 (ticked 30 1572863) rfl rfl rfl (by exact y_k rfl rfl (fun _ => by kernel_rfl)) ?_
   refine a_held_on (i := 19) 63 (ticked 30 2097151) rfl (by as_aux_lemma => kernel_rfl) rfl rfl rfl rfl rfl (held_pt 1 rfl rfl (held_pt 0 rfl rfl held_nil)) (h_ld 0 rfl rfl Tryd.underlying3 rfl) ?_
   refine a_held_on (i := 21) 63 (ticked 30 4194303) rfl (by as_aux_lemma => kernel_rfl) rfl rfl rfl rfl rfl (held_pt 1 rfl rfl (held_pt 0 rfl rfl held_nil)) (h_ld 1 rfl rfl Tryd.underlying3 rfl) ?_
   refine e_by (c.op = d.op) (fun h30 => ?_) (fun h30 => ?_)
   ·
    refine b_yo (i := 22) (v := .bool true) 63 (ticked 30 8388607) rfl rfl rfl (by exact y_t (y_k (v := .bool (decide (c.op = d.op))) rfl rfl (fun _ => by kernel_rfl)) h30) ?_
    refine b_yo (i := 23) (v := .bool true) 63 (ticked 30 16777215) rfl rfl rfl (by exact y_mv rfl) ?_
    refine b_f (i := 24) 69 (ticked 30 33554431) rfl rfl rfl rfl ?_
    refine b_f (i := 25) 69 (ticked 30 67108863) rfl rfl rfl rfl ?_
    refine b_f (i := 26) 69 (ticked 30 134217727) rfl rfl rfl rfl ?_
    refine b_yo (i := 27) (v := .bool true) 63 (ticked 30 268435455) rfl rfl rfl (by exact y_pick rfl rfl) ?_
    refine b_y (i := 28) (v := .bool true) (ticked 30 536870911) rfl rfl (by exact y_pick rfl rfl) ?_
    refine b_y (i := 29) (v := .bool true) (ticked 30 1073741823) rfl rfl (by exact y_as rfl) ?_
    refine a_done (by as_aux_lemma => kernel_rfl) ?_
    refine q_then (c_ret ?_)
    refine c_fin (I' := []) [] [0, 1, 2, 3, 4, 5, 6, 7, 8] rfl (.tmp rfl .nil) rfl rfl rfl ?_
    exact ⟨rfl, rfl, rfl⟩
   ·
    refine b_yo (i := 22) (v := .bool false) 63 (ticked 30 8388607) rfl rfl rfl (by exact y_f (y_k (v := .bool (decide (c.op = d.op))) rfl rfl (fun _ => by kernel_rfl)) h30) ?_
    refine b_yo (i := 23) (v := .bool false) 63 (ticked 30 16777215) rfl rfl rfl (by exact y_mv rfl) ?_
    refine b_yo (i := 24) (v := .string ((callPut (fewC c)).1)) 69 (ticked 30 33554431) rfl rfl rfl (by exact y_mv rfl) ?_
    refine b_yo (i := 25) (v := .string ((callPut (fewC d)).1)) 69 (ticked 30 67108863) rfl rfl rfl (by exact y_mv rfl) ?_
    have h31 : ¬ ((callPut (fewC c)).1 = (callPut (fewC d)).1) := first_two (c := fewC c) (d := fewC d) h24 h25 hb1 hb2 h30
    refine b_yo (i := 26) (v := .bool true) 69 (ticked 30 134217727) rfl rfl rfl (by exact y_b (y_k (v := .bool (!(((callPut (fewC c)).1).toList == ((callPut (fewC d)).1).toList))) rfl rfl (fun _ => by kernel_rfl)) (str_nf h31)) ?_
    refine b_yo (i := 27) (v := .bool true) 63 (ticked 30 268435455) rfl rfl rfl (by exact y_pick rfl rfl) ?_
    refine b_y (i := 28) (v := .bool true) (ticked 30 536870911) rfl rfl (by exact y_pick rfl rfl) ?_
    refine b_y (i := 29) (v := .bool true) (ticked 30 1073741823) rfl rfl (by exact y_as rfl) ?_
    refine a_done (by as_aux_lemma => kernel_rfl) ?_
    refine q_then (c_ret ?_)
    refine c_fin (I' := []) [] [0, 1, 2, 3, 4, 5, 6, 7, 8] rfl (.tmp rfl .nil) rfl rfl rfl ?_
    exact ⟨rfl, rfl, rfl⟩
  ·
   refine st_on 25 rfl rfl rfl (o_y (v := .bool true) (y_nf (y_k (v := .bool (!decide ((callPut (fewC d)).2 = 0))) rfl rfl (fun _ => by kernel_rfl)) h25) rfl rfl rfl ?_)
   refine s_y rfl (v := .bool true) (y_pick rfl rfl) rfl ?_
   refine s_y rfl (v := .bool true) (y_mv rfl) rfl ?_
   refine st_off 29 rfl rfl rfl rfl rfl rfl ?_
   refine st_off 29 rfl rfl rfl rfl rfl rfl ?_
   refine s_y rfl (v := .bool true) (y_pick rfl rfl) rfl ?_
   refine s_y rfl (v := .bool true) (y_mv rfl) rfl ?_
   refine st_off 33 rfl rfl rfl rfl rfl rfl ?_
   refine st_off 33 rfl rfl rfl rfl rfl rfl ?_
   refine s_y rfl (v := .bool true) (y_pick rfl rfl) rfl ?_
   refine s_nil (q_then (c_true rfl (c_seq (c_region ?_))))
   refine s_y rfl (v := .bool true) (y_mv rfl) rfl ?_
   refine s_y rfl (v := .bool true) (y_mv rfl) rfl ?_
   refine st_on 38 rfl rfl rfl (o_y (v := .int .i64 ((callPut (fewC c)).2)) (y_mv rfl) rfl rfl rfl ?_)
   have h32 : (callPut (fewC c)).2 = 0 := h24
   refine st_on 38 rfl rfl rfl (o_y (v := .bool false) (y_nt (y_k (v := .bool (!decide ((callPut (fewC c)).2 = 0))) rfl rfl (fun _ => by kernel_rfl)) h32) rfl rfl rfl ?_)
   refine st_on 38 rfl rfl rfl (o_y (v := .bool false) (y_mv rfl) rfl rfl rfl ?_)
   refine st_on 41 rfl rfl rfl (o_y (v := .int .i64 ((callPut (fewC d)).2)) (y_mv rfl) rfl rfl rfl ?_)
   have h33 : ¬ ((callPut (fewC d)).2 = 0) := h25
   refine st_on 41 rfl rfl rfl (o_y (v := .bool true) (y_nf (y_k (v := .bool (!decide ((callPut (fewC d)).2 = 0))) rfl rfl (fun _ => by kernel_rfl)) h33) rfl rfl rfl ?_)
   refine st_on 38 rfl rfl rfl (o_y (v := .bool true) (y_pick rfl rfl) rfl rfl rfl ?_)
   refine s_y rfl (v := .bool true) (y_pick rfl rfl) rfl ?_
   refine s_y rfl (v := .bool true) (y_as rfl) rfl ?_
   refine s_nil (q_then (c_ret (q_then_ret ?_)))
   refine c_fin (I' := []) [] [0, 1, 2, 3, 4, 5, 6, 7, 8] rfl (.tmp rfl .nil) rfl rfl rfl ?_
   exact ⟨rfl, rfl, rfl⟩
 ·
  refine s_y rfl (v := .bool true) (y_nf (y_k (v := .bool (!decide ((callPut (fewC c)).2 = 0))) rfl rfl (fun _ => by kernel_rfl)) h24) rfl ?_
  refine s_y rfl (v := .bool true) (y_mv rfl) rfl ?_
  refine st_off 25 rfl rfl rfl rfl rfl rfl ?_
  refine st_off 25 rfl rfl rfl rfl rfl rfl ?_
  refine s_y rfl (v := .bool true) (y_pick rfl rfl) rfl ?_
  refine s_y rfl (v := .bool true) (y_mv rfl) rfl ?_
  refine st_off 29 rfl rfl rfl rfl rfl rfl ?_
  refine st_off 29 rfl rfl rfl rfl rfl rfl ?_
  refine s_y rfl (v := .bool true) (y_pick rfl rfl) rfl ?_
  refine s_y rfl (v := .bool true) (y_mv rfl) rfl ?_
  refine st_off 33 rfl rfl rfl rfl rfl rfl ?_
  refine st_off 33 rfl rfl rfl rfl rfl rfl ?_
  refine s_y rfl (v := .bool true) (y_pick rfl rfl) rfl ?_
  refine s_nil (q_then (c_true rfl (c_seq (c_region ?_))))
  refine s_y rfl (v := .bool true) (y_mv rfl) rfl ?_
  refine s_y rfl (v := .bool true) (y_mv rfl) rfl ?_
  refine st_on 38 rfl rfl rfl (o_y (v := .int .i64 ((callPut (fewC c)).2)) (y_mv rfl) rfl rfl rfl ?_)
  have h34 : ¬ ((callPut (fewC c)).2 = 0) := h24
  refine st_on 38 rfl rfl rfl (o_y (v := .bool true) (y_nf (y_k (v := .bool (!decide ((callPut (fewC c)).2 = 0))) rfl rfl (fun _ => by kernel_rfl)) h34) rfl rfl rfl ?_)
  refine st_on 38 rfl rfl rfl (o_y (v := .bool true) (y_mv rfl) rfl rfl rfl ?_)
  refine st_off 41 rfl rfl rfl rfl rfl rfl ?_
  refine st_off 41 rfl rfl rfl rfl rfl rfl ?_
  refine st_on 38 rfl rfl rfl (o_y (v := .bool true) (y_pick rfl rfl) rfl rfl rfl ?_)
  refine s_y rfl (v := .bool true) (y_pick rfl rfl) rfl ?_
  refine s_y rfl (v := .bool true) (y_as rfl) rfl ?_
  refine s_nil (q_then (c_ret (q_then_ret ?_)))
  refine c_fin (I' := []) [] [0, 1, 2, 3, 4, 5, 6, 7, 8] rfl (.tmp rfl .nil) rfl rfl rfl ?_
  exact ⟨rfl, rfl, rfl⟩
end Go.Proofs.YtcnncdniibkjkaaDoor
