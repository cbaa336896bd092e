/- The laws of chapter 15 (journal), walked over the given program; no condition but what stands in each theorem: part UTells. -/
import Derived.Test.YthehnjbdkjnlpaaGreatDoorRKB
import Derived.Test.YthehnjbdkjnlpaaGreatDoorRKC
import Derived.Test.YthehnjbdkjnlpaaGreatDoorRLQ
import Derived.Test.YthehnjbdkjnlpaaGreatDoorRLR
set_option linter.unusedVariables false
set_option linter.unusedSimpArgs false
set_option maxRecDepth 100000
set_option maxHeartbeats 8000000
namespace Go.Proofs.YthehnjbdkjnlpaaGreatDoor
open Go Go.Sl Go.RowKit Go.Extern.Stop Go.Stop Go.Extern
theorem JournalTells_ (ef : Addr) (es : Addr) (B : Option Addr) (d : Nat) (rules : List Rul) (A : Option Addr) (c : Nat) (l : List Jen) (id : Int) (a : Lab) (Am : Option Addr) (cm : Nat) (m : List Jen) (hbr : ∀ y ∈ rules, y.wh.fm.size ≤ 9223372036854775807) (hbl : ∀ y ∈ l, y.da.size ≤ 9223372036854775807) (hbm : ∀ y ∈ m, y.da.size ≤ 9223372036854775807) (h64 : ∀ y ∈ l, jen64 y) (ha : lab64 a) : Con Tryz.prog 3 [.slice B rules.length d, .slice A l.length c, .int .i64 id, .agg #[.int .i64 a.lv, .int .u64 (a.cs : Int), .int .i64 a.ig], .slice Am m.length cm] [] [rd rulTy B d rules, rd entTy A c l, rd entTy Am cm m, cellsAt 2 0 [.iface 153 (.pointer (some ef))], cellsAt 0 0 [.iface 153 (.pointer (some es))], errAt ef, errAt es, cellsAt 1 0 [.iface 121 (.agg #[.pointer (some ⟨4, 50, none⟩)])]] (fun v L' I' => v = .bool true ∧ L' = [] ∧ I' = []) := by
 have hl1 := fewJ_len l
 have hl2 := fewJ_sm l
 have hr1 := fewL_len rules
 have hr2 := fewL_sm rules
 have hm1 := fewJ_len m
 have h641 := fewJ_64 h64
 have hdl := dat_len id (fewJ l)
 have hsl : (seenJ a (fewJ l)).length ≤ _ := jseen_len
 refine fn_of Tryz.func3 rfl Tryz.ntmps3 (by kernel_rfl) rfl (fun C => ?_)
 refine c_seq (c_region ?_)
 refine st rfl (o_box (cs := [.int .i64 a.lv, .int .u64 (a.cs : Int), .int .i64 a.ig]) (T := 26) rfl rfl rfl rfl (fun _ => by kernel_rfl) (fun b1 => ?_))
 refine s_y rfl (v := .bool false) (y_as rfl) rfl ?_
 refine s_nil (q_then (c_seq (c_region ?_)))
 refine st rfl (o_call [] [3, 4, 5, 6, 7] (shown_ ef es) rfl rfl rfl rfl rfl rfl (fun v L' I' hq1 => ?_))
 obtain ⟨rfl, rfl, rfl⟩ := hq1
 refine s_y rfl (v := .bool true) (y_as rfl) rfl ?_
 refine s_nil (q_then (c_seq (c_region ?_)))
 refine s_y rfl (v := .slice B rules.length d) (y_mv rfl) rfl ?_
 refine st rfl (o_call [] [0] (fewl_ B d rules (by assumption)) rfl rfl rfl rfl rfl rfl (fun v L' I' hq2 => ?_))
 obtain ⟨A1, c1, rfl, rfl, rfl⟩ := hq2
 refine s_y rfl (v := .slice A1 (fewL rules).length c1) (y_as rfl) rfl ?_
 refine s_nil (q_then (c_seq (c_region ?_)))
 refine s_y rfl (v := .slice A l.length c) (y_mv rfl) rfl ?_
 refine st rfl (o_call [] [2] (fewj_ A c l (by assumption)) rfl rfl rfl rfl rfl rfl (fun v L' I' hq3 => ?_))
 obtain ⟨A2, c2, rfl, rfl, rfl⟩ := hq3
 refine s_y rfl (v := .slice A2 (fewJ l).length c2) (y_as rfl) rfl ?_
 refine s_nil (q_then (c_seq (c_region ?_)))
 refine s_y rfl (v := .slice Am m.length cm) (y_mv rfl) rfl ?_
 refine st rfl (o_call [] [4] (fewj_ Am cm m (by assumption)) rfl rfl rfl rfl rfl rfl (fun v L' I' hq4 => ?_))
 obtain ⟨A3, c3, rfl, rfl, rfl⟩ := hq4
 refine s_y rfl (v := .slice A3 (fewJ m).length c3) (y_as rfl) rfl ?_
 refine s_nil (q_then (c_seq ?_))
 refine c_draw (l := ticked 52 0) [(⟨b1, 0, none⟩, .int .i64 a.lv), (⟨b1, 1, none⟩, .int .u64 (a.cs : Int)), (⟨b1, 2, none⟩, .int .i64 a.ig)] [] (by kernel_rfl) rfl rfl ?_
 refine b_y (i := 0) (v := .bool true) (ticked 52 1) rfl rfl (by exact y_mv rfl) ?_
 refine b_y (i := 1) (v := .bool true) (ticked 52 3) rfl rfl (by exact y_mv rfl) ?_
 refine b_yo (i := 2) (v := .slice A1 (fewL rules).length c1) 20 (ticked 52 7) rfl rfl rfl (by exact y_mv rfl) ?_
 refine b_yo (i := 3) (v := .slice A2 (fewJ l).length c2) 20 (ticked 52 15) rfl rfl rfl (by exact y_mv rfl) ?_
 refine b_yo (i := 5) (v := .slice A1 (fewL rules).length c1) 20 (ticked 52 47) rfl rfl rfl (by exact y_mv rfl) ?_
 refine b_yo (i := 6) (v := .slice A2 (fewJ l).length c2) 20 (ticked 52 111) rfl rfl rfl (by exact y_mv rfl) ?_
 refine a_each (rs := [4]) (by as_aux_lemma => kernel_rfl) (.on 20 (ticked 52 127) rfl rfl rfl rfl rfl (o_call [] [2, 1, 6, 8, 7, 9, 10] (jRight_ A1 c1 (fewL rules) A2 c2 (fewJ l) ef es (by first | omega | (simp; done) | (simp; omega) | assumption) (by assumption) (by first | omega | (simp; done) | (simp; omega) | assumption) (by assumption)) rfl rfl rfl rfl rfl rfl (fun v L' I' hq5 => ?_)) .nil) (List.cons_ne_nil _ _)
 obtain ⟨hv1, rfl, rfl⟩ := hq5
 refine e_by (jRight (fewL rules) (fewJ l)) (fun h65 => ?_) (fun h65 => ?_)
 ·
  obtain rfl : v = .bool true := by rw [hv1, decide_eq_true h65]
  refine a_and (held_pt 0 rfl rfl (held_pt 0 rfl rfl (held_pt 0 rfl rfl held_nil))) ?_
  refine a_each (rs := [7]) (by as_aux_lemma => kernel_rfl) (.on 20 (ticked 52 255) rfl rfl rfl rfl rfl (o_call [] [2, 1] (rjRight_ A1 c1 (fewL rules) A2 c2 (fewJ l) (by first | omega | (simp; done) | (simp; omega) | assumption) (by assumption) (by first | omega | (simp; done) | (simp; omega) | assumption) (by assumption)) rfl rfl rfl rfl rfl rfl (fun v L' I' hq6 => ?_)) .nil) (List.cons_ne_nil _ _)
  obtain ⟨hv2, rfl, rfl⟩ := hq6
  obtain rfl : v = .bool true := by rw [hv2, decide_eq_true (show jRight (fewL rules) (fewJ l) from h65)]
  refine a_and (held_pt 0 rfl rfl (held_pt 0 rfl rfl (held_pt 0 rfl rfl held_nil))) ?_
  refine b_yo (i := 8) (v := .bool true) 20 (ticked 52 511) rfl rfl rfl (by exact y_k rfl rfl (fun _ => by kernel_rfl)) ?_
  refine b_y (i := 9) (v := .bool true) (ticked 52 1023) rfl rfl (by exact y_pick rfl rfl) ?_
  refine b_y (i := 10) (v := .bool true) (ticked 52 2047) rfl rfl (by exact y_mv rfl) ?_
  refine b_yo (i := 11) (v := .slice A2 (fewJ l).length c2) 29 (ticked 52 4095) rfl rfl rfl (by exact y_mv rfl) ?_
  refine b_yo (i := 12) (v := .int .i64 id) 29 (ticked 52 8191) rfl rfl rfl (by exact y_mv rfl) ?_
  refine b_yo (i := 14) (v := .slice A2 (fewJ l).length c2) 29 (ticked 52 24575) rfl rfl rfl (by exact y_mv rfl) ?_
  refine b_yo (i := 15) (v := .int .i64 id) 29 (ticked 52 57343) rfl rfl rfl (by exact y_mv rfl) ?_
  refine a_each (rs := [13]) (by as_aux_lemma => kernel_rfl) (.on 29 (ticked 52 65535) rfl rfl rfl rfl rfl (o_call [] [1] (jSpent_ A2 c2 (fewJ l) id (by first | omega | (simp; done) | (simp; omega) | assumption) (by assumption)) rfl rfl rfl rfl rfl rfl (fun v L' I' hq7 => ?_)) .nil) (List.cons_ne_nil _ _)
  obtain ⟨rfl, rfl, rfl⟩ := hq7
  refine a_and (held_pt 0 rfl rfl (held_pt 0 rfl rfl (held_pt 0 rfl rfl held_nil))) ?_
  refine a_each (rs := [16]) (by as_aux_lemma => kernel_rfl) (.on 29 (ticked 52 131071) rfl rfl rfl rfl rfl (o_call [] [1] (rSpent_ A2 c2 (fewJ l) id (by first | omega | (simp; done) | (simp; omega) | assumption) (by assumption)) rfl rfl rfl rfl rfl rfl (fun v L' I' hq8 => ?_)) .nil) (List.cons_ne_nil _ _)
  obtain ⟨rfl, rfl, rfl⟩ := hq8
  refine a_and (held_pt 0 rfl rfl (held_pt 0 rfl rfl (held_pt 0 rfl rfl held_nil))) ?_
  have h66 : (spentF (fewJ l) id : Int) = (spentF (fewJ l) id : Int) := rfl
  refine b_yo (i := 17) (v := .bool true) 29 (ticked 52 262143) rfl rfl rfl (by exact y_t (y_k (v := .bool (decide ((spentF (fewJ l) id : Int) = (spentF (fewJ l) id : Int)))) rfl rfl (fun _ => by kernel_rfl)) h66) ?_
  refine b_y (i := 18) (v := .bool true) (ticked 52 524287) rfl rfl (by exact y_pick rfl rfl) ?_
  refine b_y (i := 19) (v := .bool true) (ticked 52 1048575) rfl rfl (by exact y_mv rfl) ?_
  refine b_yo (i := 20) (v := .slice A2 (fewJ l).length c2) 38 (ticked 52 2097151) rfl rfl rfl (by exact y_mv rfl) ?_
  refine b_yo (i := 21) (v := .int .i64 id) 38 (ticked 52 4194303) rfl rfl rfl (by exact y_mv rfl) ?_
  refine b_yo (i := 23) (v := .slice A2 (fewJ l).length c2) 38 (ticked 52 12582911) rfl rfl rfl (by exact y_mv rfl) ?_
  refine b_yo (i := 24) (v := .int .i64 id) 38 (ticked 52 29360127) rfl rfl rfl (by exact y_mv rfl) ?_
  refine a_each (rs := [22]) (by as_aux_lemma => kernel_rfl) (.on 38 (ticked 52 33554431) rfl rfl rfl rfl rfl (o_call [] [1] (jOf_ A2 c2 (fewJ l) id (by first | omega | (simp; done) | (simp; omega) | assumption)) rfl rfl rfl rfl rfl rfl (fun v L' I' hq9 => ?_)) .nil) (List.cons_ne_nil _ _)
  obtain ⟨A4, c4, rfl, rfl, rfl⟩ := hq9
  refine a_and (held_pt 1 rfl rfl (held_pt 1 rfl rfl (held_pt 1 rfl rfl held_nil))) ?_
  refine a_each (rs := [25]) (by as_aux_lemma => kernel_rfl) (.on 38 (ticked 52 67108863) rfl rfl rfl rfl rfl (o_call [] [1] (rjOf_ A2 c2 (fewJ l) id (by first | omega | (simp; done) | (simp; omega) | assumption)) rfl rfl rfl rfl rfl rfl (fun v L' I' hq10 => ?_)) .nil) (List.cons_ne_nil _ _)
  obtain ⟨A5, c5, rfl, rfl, rfl⟩ := hq10
  refine a_and (held_pt 1 rfl rfl (held_pt 1 rfl rfl (held_pt 1 rfl rfl held_nil))) ?_
  refine a_each (rs := [26]) (by as_aux_lemma => kernel_rfl) (.on 38 (ticked 52 134217727) rfl rfl rfl rfl rfl (o_lend [0] [] [0] (rTexts_ A4 c4 (datF id (fewJ l)) A5 c5 (datF id (fewJ l)) (by first | assumption | omega | (simp; done) | (simp; omega))) (.cons lend_win .nil) rfl rfl rfl rfl rfl rfl rfl rfl (fun v L' I' hq11 => ?_)) .nil) (List.cons_ne_nil _ _)
  obtain ⟨hv3, rfl, rfl⟩ := hq11
  refine ⟨rfl, ?_⟩
  obtain rfl : v = .bool true := by rw [hv3, decide_eq_true (show (datF id (fewJ l)) = (datF id (fewJ l)) from rfl)]
  refine a_and (held_pt 1 rfl rfl (held_pt 1 rfl rfl (held_pt 1 rfl rfl held_nil))) ?_
  refine b_y (i := 27) (v := .bool true) (ticked 52 268435455) rfl rfl (by exact y_pick rfl rfl) ?_
  refine b_y (i := 28) (v := .bool true) (ticked 52 536870911) rfl rfl (by exact y_mv rfl) ?_
  refine b_yo (i := 29) (v := .slice A2 (fewJ l).length c2) 47 (ticked 52 1073741823) rfl rfl rfl (by exact y_mv rfl) ?_
  refine b_yo (i := 32) (v := .slice A2 (fewJ l).length c2) 47 (ticked 52 5368709119) rfl rfl rfl (by exact y_mv rfl) ?_
  refine a_held_on (i := 30) 47 (ticked 52 6442450943) rfl (by as_aux_lemma => kernel_rfl) rfl rfl rfl rfl rfl (held_pt 1 rfl rfl (held_pt 1 rfl rfl (held_pt 1 rfl rfl held_nil))) (h_ldn (vs := [.int .i64 a.lv, .int .u64 (a.cs : Int), .int .i64 a.ig]) 0 3 rfl rfl rfl Tryz.underlying26 rfl (by kernel_rfl) (by kernel_rfl)) ?_
  refine a_held_on (i := 33) 47 (ticked 52 15032385535) rfl (by as_aux_lemma => kernel_rfl) rfl rfl rfl rfl rfl (held_pt 1 rfl rfl (held_pt 1 rfl rfl (held_pt 1 rfl rfl held_nil))) (h_ldn (vs := [.int .i64 a.lv, .int .u64 (a.cs : Int), .int .i64 a.ig]) 0 3 rfl rfl rfl Tryz.underlying26 rfl (by kernel_rfl) (by kernel_rfl)) ?_
  refine a_each (rs := [31]) (by as_aux_lemma => kernel_rfl) (.on 47 (ticked 52 17179869183) rfl rfl rfl rfl rfl (o_call [] [2] (jSeen_ A2 c2 (fewJ l) a (by first | omega | (simp; done) | (simp; omega) | assumption)) rfl rfl rfl rfl rfl rfl (fun v L' I' hq12 => ?_)) .nil) (List.cons_ne_nil _ _)
  obtain ⟨A6, c6, rfl, rfl, rfl⟩ := hq12
  refine a_and (held_pt 1 rfl rfl (held_pt 1 rfl rfl (held_pt 1 rfl rfl held_nil))) ?_
  refine a_each (rs := [34]) (by as_aux_lemma => kernel_rfl) (.on 47 (ticked 52 34359738367) rfl rfl rfl rfl rfl (o_call [] [3] (rjSeen_ A2 c2 (fewJ l) a (by first | omega | (simp; done) | (simp; omega) | assumption) (by assumption) (by first | assumption | decide)) rfl rfl rfl rfl rfl rfl (fun v L' I' hq13 => ?_)) .nil) (List.cons_ne_nil _ _)
  obtain ⟨A7, c7, rfl, rfl, rfl⟩ := hq13
  refine a_and (held_pt 1 rfl rfl (held_pt 1 rfl rfl (held_pt 1 rfl rfl held_nil))) ?_
  refine a_each (rs := [35]) (by as_aux_lemma => kernel_rfl) (.on 47 (ticked 52 68719476735) rfl rfl rfl rfl rfl (o_call [] [1, 0] (jrSame_ A6 c6 (seenJ a (fewJ l)) A7 c7 (seenJ a (fewJ l)) (by first | omega | (simp; done) | (simp; omega) | assumption)) rfl rfl rfl rfl rfl rfl (fun v L' I' hq14 => ?_)) .nil) (List.cons_ne_nil _ _)
  obtain ⟨hv4, rfl, rfl⟩ := hq14
  obtain rfl : v = .bool true := by rw [hv4, decide_eq_true (show (seenJ a (fewJ l)) = (seenJ a (fewJ l)) from rfl)]
  refine a_and (held_pt 1 rfl rfl (held_pt 1 rfl rfl (held_pt 1 rfl rfl held_nil))) ?_
  refine b_y (i := 36) (v := .bool true) (ticked 52 137438953471) rfl rfl (by exact y_pick rfl rfl) ?_
  refine b_y (i := 37) (v := .bool true) (ticked 52 274877906943) rfl rfl (by exact y_mv rfl) ?_
  refine b_yo (i := 38) (v := .slice A2 (fewJ l).length c2) 56 (ticked 52 549755813887) rfl rfl rfl (by exact y_mv rfl) ?_
  refine b_yo (i := 39) (v := .slice A3 (fewJ m).length c3) 56 (ticked 52 1099511627775) rfl rfl rfl (by exact y_mv rfl) ?_
  refine b_yo (i := 41) (v := .slice A2 (fewJ l).length c2) 56 (ticked 52 3298534883327) rfl rfl rfl (by exact y_mv rfl) ?_
  refine b_yo (i := 42) (v := .slice A3 (fewJ m).length c3) 56 (ticked 52 7696581394431) rfl rfl rfl (by exact y_mv rfl) ?_
  refine a_each (rs := [40]) (by as_aux_lemma => kernel_rfl) (.on 56 (ticked 52 8796093022207) rfl rfl rfl rfl rfl (o_call [] [4, 3] (jSame_ A2 c2 (fewJ l) A3 c3 (fewJ m) (by first | omega | (simp; done) | (simp; omega) | assumption)) rfl rfl rfl rfl rfl rfl (fun v L' I' hq15 => ?_)) .nil) (List.cons_ne_nil _ _)
  obtain ⟨hv5, rfl, rfl⟩ := hq15
  refine e_by ((fewJ l) = (fewJ m)) (fun h67 => ?_) (fun h67 => ?_)
  ·
   obtain rfl : v = .bool true := by rw [hv5, decide_eq_true h67]
   refine a_and (held_pt 1 rfl rfl (held_pt 1 rfl rfl (held_pt 1 rfl rfl held_nil))) ?_
   refine a_each (rs := [43]) (by as_aux_lemma => kernel_rfl) (.on 56 (ticked 52 17592186044415) rfl rfl rfl rfl rfl (o_call [] [4, 3] (jrSame_ A2 c2 (fewJ l) A3 c3 (fewJ m) (by first | omega | (simp; done) | (simp; omega) | assumption)) rfl rfl rfl rfl rfl rfl (fun v L' I' hq16 => ?_)) .nil) (List.cons_ne_nil _ _)
   obtain ⟨hv6, rfl, rfl⟩ := hq16
   obtain rfl : v = .bool true := by rw [hv6, decide_eq_true (show (fewJ l) = (fewJ m) from h67)]
   refine a_and (held_pt 1 rfl rfl (held_pt 1 rfl rfl (held_pt 1 rfl rfl held_nil))) ?_
   refine b_yo (i := 44) (v := .bool true) 56 (ticked 52 35184372088831) rfl rfl rfl (by exact y_k rfl rfl (fun _ => by kernel_rfl)) ?_
   refine b_y (i := 45) (v := .bool true) (ticked 52 70368744177663) rfl rfl (by exact y_pick rfl rfl) ?_
   refine b_y (i := 46) (v := .bool true) (ticked 52 140737488355327) rfl rfl (by exact y_mv rfl) ?_
   refine b_yo (i := 47) (v := .slice A2 (fewJ l).length c2) 65 (ticked 52 281474976710655) rfl rfl rfl (by exact y_mv rfl) ?_
   refine b_yo (i := 48) (v := .slice A2 (fewJ l).length c2) 65 (ticked 52 562949953421311) rfl rfl rfl (by exact y_mv rfl) ?_
   refine a_each (rs := [49]) (by as_aux_lemma => kernel_rfl) (.on 65 (ticked 52 1125899906842623) rfl rfl rfl rfl rfl (o_call [] [4, 4] (jSame_ A2 c2 (fewJ l) A2 c2 (fewJ l) (by first | omega | (simp; done) | (simp; omega) | assumption)) rfl rfl rfl rfl rfl rfl (fun v L' I' hq17 => ?_)) .nil) (List.cons_ne_nil _ _)
   obtain ⟨hv7, rfl, rfl⟩ := hq17
   obtain rfl : v = .bool true := by rw [hv7, decide_eq_true (show (fewJ l) = (fewJ l) from rfl)]
   refine a_and (held_pt 1 rfl rfl (held_pt 1 rfl rfl (held_pt 1 rfl rfl held_nil))) ?_
   refine b_y (i := 50) (v := .bool true) (ticked 52 2251799813685247) rfl rfl (by exact y_pick rfl rfl) ?_
   refine b_y (i := 51) (v := .bool true) (ticked 52 4503599627370495) rfl rfl (by exact y_as rfl) ?_
   refine a_done (by as_aux_lemma => kernel_rfl) ?_
   refine q_then (c_ret ?_)
   refine c_fin (I' := []) [] [6, 7, 8, 9, 10, 11, 12, 13] rfl (.tmp rfl .nil) rfl rfl rfl ?_
   exact ⟨rfl, rfl, rfl⟩
  ·
   obtain rfl : v = .bool false := by rw [hv5, decide_eq_false h67]
   refine a_and (held_pt 1 rfl rfl (held_pt 1 rfl rfl (held_pt 1 rfl rfl held_nil))) ?_
   refine a_each (rs := [43]) (by as_aux_lemma => kernel_rfl) (.on 56 (ticked 52 17592186044415) rfl rfl rfl rfl rfl (o_call [] [4, 3] (jrSame_ A2 c2 (fewJ l) A3 c3 (fewJ m) (by first | omega | (simp; done) | (simp; omega) | assumption)) rfl rfl rfl rfl rfl rfl (fun v L' I' hq18 => ?_)) .nil) (List.cons_ne_nil _ _)
   obtain ⟨hv8, rfl, rfl⟩ := hq18
   obtain rfl : v = .bool false := by rw [hv8, decide_eq_false (show ¬ ((fewJ l) = (fewJ m)) from h67)]
   refine a_and (held_pt 1 rfl rfl (held_pt 1 rfl rfl (held_pt 1 rfl rfl held_nil))) ?_
   refine b_yo (i := 44) (v := .bool true) 56 (ticked 52 35184372088831) rfl rfl rfl (by exact y_k rfl rfl (fun _ => by kernel_rfl)) ?_
   refine b_y (i := 45) (v := .bool true) (ticked 52 70368744177663) rfl rfl (by exact y_pick rfl rfl) ?_
   refine b_y (i := 46) (v := .bool true) (ticked 52 140737488355327) rfl rfl (by exact y_mv rfl) ?_
   refine b_yo (i := 47) (v := .slice A2 (fewJ l).length c2) 65 (ticked 52 281474976710655) rfl rfl rfl (by exact y_mv rfl) ?_
   refine b_yo (i := 48) (v := .slice A2 (fewJ l).length c2) 65 (ticked 52 562949953421311) rfl rfl rfl (by exact y_mv rfl) ?_
   refine a_each (rs := [49]) (by as_aux_lemma => kernel_rfl) (.on 65 (ticked 52 1125899906842623) rfl rfl rfl rfl rfl (o_call [] [4, 4] (jSame_ A2 c2 (fewJ l) A2 c2 (fewJ l) (by first | omega | (simp; done) | (simp; omega) | assumption)) rfl rfl rfl rfl rfl rfl (fun v L' I' hq19 => ?_)) .nil) (List.cons_ne_nil _ _)
   obtain ⟨hv9, rfl, rfl⟩ := hq19
   obtain rfl : v = .bool true := by rw [hv9, decide_eq_true (show (fewJ l) = (fewJ l) from rfl)]
   refine a_and (held_pt 1 rfl rfl (held_pt 1 rfl rfl (held_pt 1 rfl rfl held_nil))) ?_
   refine b_y (i := 50) (v := .bool true) (ticked 52 2251799813685247) rfl rfl (by exact y_pick rfl rfl) ?_
   refine b_y (i := 51) (v := .bool true) (ticked 52 4503599627370495) rfl rfl (by exact y_as rfl) ?_
   refine a_done (by as_aux_lemma => kernel_rfl) ?_
   refine q_then (c_ret ?_)
   refine c_fin (I' := []) [] [6, 7, 8, 9, 10, 11, 12, 13] rfl (.tmp rfl .nil) rfl rfl rfl ?_
   exact ⟨rfl, rfl, rfl⟩
 ·
  obtain rfl : v = .bool false := by rw [hv1, decide_eq_false h65]
  refine a_and (held_pt 0 rfl rfl (held_pt 0 rfl rfl (held_pt 0 rfl rfl held_nil))) ?_
  refine a_each (rs := [7]) (by as_aux_lemma => kernel_rfl) (.on 20 (ticked 52 255) rfl rfl rfl rfl rfl (o_call [] [2, 1] (rjRight_ A1 c1 (fewL rules) A2 c2 (fewJ l) (by first | omega | (simp; done) | (simp; omega) | assumption) (by assumption) (by first | omega | (simp; done) | (simp; omega) | assumption) (by assumption)) rfl rfl rfl rfl rfl rfl (fun v L' I' hq20 => ?_)) .nil) (List.cons_ne_nil _ _)
  obtain ⟨hv10, rfl, rfl⟩ := hq20
  obtain rfl : v = .bool false := by rw [hv10, decide_eq_false (show ¬ (jRight (fewL rules) (fewJ l)) from h65)]
  refine a_and (held_pt 0 rfl rfl (held_pt 0 rfl rfl (held_pt 0 rfl rfl held_nil))) ?_
  refine b_yo (i := 8) (v := .bool true) 20 (ticked 52 511) rfl rfl rfl (by exact y_k rfl rfl (fun _ => by kernel_rfl)) ?_
  refine b_y (i := 9) (v := .bool true) (ticked 52 1023) rfl rfl (by exact y_pick rfl rfl) ?_
  refine b_y (i := 10) (v := .bool true) (ticked 52 2047) rfl rfl (by exact y_mv rfl) ?_
  refine b_yo (i := 11) (v := .slice A2 (fewJ l).length c2) 29 (ticked 52 4095) rfl rfl rfl (by exact y_mv rfl) ?_
  refine b_yo (i := 12) (v := .int .i64 id) 29 (ticked 52 8191) rfl rfl rfl (by exact y_mv rfl) ?_
  refine b_yo (i := 14) (v := .slice A2 (fewJ l).length c2) 29 (ticked 52 24575) rfl rfl rfl (by exact y_mv rfl) ?_
  refine b_yo (i := 15) (v := .int .i64 id) 29 (ticked 52 57343) rfl rfl rfl (by exact y_mv rfl) ?_
  refine a_each (rs := [13]) (by as_aux_lemma => kernel_rfl) (.on 29 (ticked 52 65535) rfl rfl rfl rfl rfl (o_call [] [1] (jSpent_ A2 c2 (fewJ l) id (by first | omega | (simp; done) | (simp; omega) | assumption) (by assumption)) rfl rfl rfl rfl rfl rfl (fun v L' I' hq21 => ?_)) .nil) (List.cons_ne_nil _ _)
  obtain ⟨rfl, rfl, rfl⟩ := hq21
  refine a_and (held_pt 0 rfl rfl (held_pt 0 rfl rfl (held_pt 0 rfl rfl held_nil))) ?_
  refine a_each (rs := [16]) (by as_aux_lemma => kernel_rfl) (.on 29 (ticked 52 131071) rfl rfl rfl rfl rfl (o_call [] [1] (rSpent_ A2 c2 (fewJ l) id (by first | omega | (simp; done) | (simp; omega) | assumption) (by assumption)) rfl rfl rfl rfl rfl rfl (fun v L' I' hq22 => ?_)) .nil) (List.cons_ne_nil _ _)
  obtain ⟨rfl, rfl, rfl⟩ := hq22
  refine a_and (held_pt 0 rfl rfl (held_pt 0 rfl rfl (held_pt 0 rfl rfl held_nil))) ?_
  have h68 : (spentF (fewJ l) id : Int) = (spentF (fewJ l) id : Int) := rfl
  refine b_yo (i := 17) (v := .bool true) 29 (ticked 52 262143) rfl rfl rfl (by exact y_t (y_k (v := .bool (decide ((spentF (fewJ l) id : Int) = (spentF (fewJ l) id : Int)))) rfl rfl (fun _ => by kernel_rfl)) h68) ?_
  refine b_y (i := 18) (v := .bool true) (ticked 52 524287) rfl rfl (by exact y_pick rfl rfl) ?_
  refine b_y (i := 19) (v := .bool true) (ticked 52 1048575) rfl rfl (by exact y_mv rfl) ?_
  refine b_yo (i := 20) (v := .slice A2 (fewJ l).length c2) 38 (ticked 52 2097151) rfl rfl rfl (by exact y_mv rfl) ?_
  refine b_yo (i := 21) (v := .int .i64 id) 38 (ticked 52 4194303) rfl rfl rfl (by exact y_mv rfl) ?_
  refine b_yo (i := 23) (v := .slice A2 (fewJ l).length c2) 38 (ticked 52 12582911) rfl rfl rfl (by exact y_mv rfl) ?_
  refine b_yo (i := 24) (v := .int .i64 id) 38 (ticked 52 29360127) rfl rfl rfl (by exact y_mv rfl) ?_
  refine a_each (rs := [22]) (by as_aux_lemma => kernel_rfl) (.on 38 (ticked 52 33554431) rfl rfl rfl rfl rfl (o_call [] [1] (jOf_ A2 c2 (fewJ l) id (by first | omega | (simp; done) | (simp; omega) | assumption)) rfl rfl rfl rfl rfl rfl (fun v L' I' hq23 => ?_)) .nil) (List.cons_ne_nil _ _)
  obtain ⟨A8, c8, rfl, rfl, rfl⟩ := hq23
  refine a_and (held_pt 1 rfl rfl (held_pt 1 rfl rfl (held_pt 1 rfl rfl held_nil))) ?_
  refine a_each (rs := [25]) (by as_aux_lemma => kernel_rfl) (.on 38 (ticked 52 67108863) rfl rfl rfl rfl rfl (o_call [] [1] (rjOf_ A2 c2 (fewJ l) id (by first | omega | (simp; done) | (simp; omega) | assumption)) rfl rfl rfl rfl rfl rfl (fun v L' I' hq24 => ?_)) .nil) (List.cons_ne_nil _ _)
  obtain ⟨A9, c9, rfl, rfl, rfl⟩ := hq24
  refine a_and (held_pt 1 rfl rfl (held_pt 1 rfl rfl (held_pt 1 rfl rfl held_nil))) ?_
  refine a_each (rs := [26]) (by as_aux_lemma => kernel_rfl) (.on 38 (ticked 52 134217727) rfl rfl rfl rfl rfl (o_lend [0] [] [0] (rTexts_ A8 c8 (datF id (fewJ l)) A9 c9 (datF id (fewJ l)) (by first | assumption | omega | (simp; done) | (simp; omega))) (.cons lend_win .nil) rfl rfl rfl rfl rfl rfl rfl rfl (fun v L' I' hq25 => ?_)) .nil) (List.cons_ne_nil _ _)
  obtain ⟨hv11, rfl, rfl⟩ := hq25
  refine ⟨rfl, ?_⟩
  obtain rfl : v = .bool true := by rw [hv11, decide_eq_true (show (datF id (fewJ l)) = (datF id (fewJ l)) from rfl)]
  refine a_and (held_pt 1 rfl rfl (held_pt 1 rfl rfl (held_pt 1 rfl rfl held_nil))) ?_
  refine b_y (i := 27) (v := .bool true) (ticked 52 268435455) rfl rfl (by exact y_pick rfl rfl) ?_
  refine b_y (i := 28) (v := .bool true) (ticked 52 536870911) rfl rfl (by exact y_mv rfl) ?_
  refine b_yo (i := 29) (v := .slice A2 (fewJ l).length c2) 47 (ticked 52 1073741823) rfl rfl rfl (by exact y_mv rfl) ?_
  refine b_yo (i := 32) (v := .slice A2 (fewJ l).length c2) 47 (ticked 52 5368709119) rfl rfl rfl (by exact y_mv rfl) ?_
  refine a_held_on (i := 30) 47 (ticked 52 6442450943) rfl (by as_aux_lemma => kernel_rfl) rfl rfl rfl rfl rfl (held_pt 1 rfl rfl (held_pt 1 rfl rfl (held_pt 1 rfl rfl held_nil))) (h_ldn (vs := [.int .i64 a.lv, .int .u64 (a.cs : Int), .int .i64 a.ig]) 0 3 rfl rfl rfl Tryz.underlying26 rfl (by kernel_rfl) (by kernel_rfl)) ?_
  refine a_held_on (i := 33) 47 (ticked 52 15032385535) rfl (by as_aux_lemma => kernel_rfl) rfl rfl rfl rfl rfl (held_pt 1 rfl rfl (held_pt 1 rfl rfl (held_pt 1 rfl rfl held_nil))) (h_ldn (vs := [.int .i64 a.lv, .int .u64 (a.cs : Int), .int .i64 a.ig]) 0 3 rfl rfl rfl Tryz.underlying26 rfl (by kernel_rfl) (by kernel_rfl)) ?_
  refine a_each (rs := [31]) (by as_aux_lemma => kernel_rfl) (.on 47 (ticked 52 17179869183) rfl rfl rfl rfl rfl (o_call [] [2] (jSeen_ A2 c2 (fewJ l) a (by first | omega | (simp; done) | (simp; omega) | assumption)) rfl rfl rfl rfl rfl rfl (fun v L' I' hq26 => ?_)) .nil) (List.cons_ne_nil _ _)
  obtain ⟨A10, c10, rfl, rfl, rfl⟩ := hq26
  refine a_and (held_pt 1 rfl rfl (held_pt 1 rfl rfl (held_pt 1 rfl rfl held_nil))) ?_
  refine a_each (rs := [34]) (by as_aux_lemma => kernel_rfl) (.on 47 (ticked 52 34359738367) rfl rfl rfl rfl rfl (o_call [] [3] (rjSeen_ A2 c2 (fewJ l) a (by first | omega | (simp; done) | (simp; omega) | assumption) (by assumption) (by first | assumption | decide)) rfl rfl rfl rfl rfl rfl (fun v L' I' hq27 => ?_)) .nil) (List.cons_ne_nil _ _)
  obtain ⟨A11, c11, rfl, rfl, rfl⟩ := hq27
  refine a_and (held_pt 1 rfl rfl (held_pt 1 rfl rfl (held_pt 1 rfl rfl held_nil))) ?_
  refine a_each (rs := [35]) (by as_aux_lemma => kernel_rfl) (.on 47 (ticked 52 68719476735) rfl rfl rfl rfl rfl (o_call [] [1, 0] (jrSame_ A10 c10 (seenJ a (fewJ l)) A11 c11 (seenJ a (fewJ l)) (by first | omega | (simp; done) | (simp; omega) | assumption)) rfl rfl rfl rfl rfl rfl (fun v L' I' hq28 => ?_)) .nil) (List.cons_ne_nil _ _)
  obtain ⟨hv12, rfl, rfl⟩ := hq28
  obtain rfl : v = .bool true := by rw [hv12, decide_eq_true (show (seenJ a (fewJ l)) = (seenJ a (fewJ l)) from rfl)]
  refine a_and (held_pt 1 rfl rfl (held_pt 1 rfl rfl (held_pt 1 rfl rfl held_nil))) ?_
  refine b_y (i := 36) (v := .bool true) (ticked 52 137438953471) rfl rfl (by exact y_pick rfl rfl) ?_
  refine b_y (i := 37) (v := .bool true) (ticked 52 274877906943) rfl rfl (by exact y_mv rfl) ?_
  refine b_yo (i := 38) (v := .slice A2 (fewJ l).length c2) 56 (ticked 52 549755813887) rfl rfl rfl (by exact y_mv rfl) ?_
  refine b_yo (i := 39) (v := .slice A3 (fewJ m).length c3) 56 (ticked 52 1099511627775) rfl rfl rfl (by exact y_mv rfl) ?_
  refine b_yo (i := 41) (v := .slice A2 (fewJ l).length c2) 56 (ticked 52 3298534883327) rfl rfl rfl (by exact y_mv rfl) ?_
  refine b_yo (i := 42) (v := .slice A3 (fewJ m).length c3) 56 (ticked 52 7696581394431) rfl rfl rfl (by exact y_mv rfl) ?_
  refine a_each (rs := [40]) (by as_aux_lemma => kernel_rfl) (.on 56 (ticked 52 8796093022207) rfl rfl rfl rfl rfl (o_call [] [4, 3] (jSame_ A2 c2 (fewJ l) A3 c3 (fewJ m) (by first | omega | (simp; done) | (simp; omega) | assumption)) rfl rfl rfl rfl rfl rfl (fun v L' I' hq29 => ?_)) .nil) (List.cons_ne_nil _ _)
  obtain ⟨hv13, rfl, rfl⟩ := hq29
  refine e_by ((fewJ l) = (fewJ m)) (fun h69 => ?_) (fun h69 => ?_)
  ·
   obtain rfl : v = .bool true := by rw [hv13, decide_eq_true h69]
   refine a_and (held_pt 1 rfl rfl (held_pt 1 rfl rfl (held_pt 1 rfl rfl held_nil))) ?_
   refine a_each (rs := [43]) (by as_aux_lemma => kernel_rfl) (.on 56 (ticked 52 17592186044415) rfl rfl rfl rfl rfl (o_call [] [4, 3] (jrSame_ A2 c2 (fewJ l) A3 c3 (fewJ m) (by first | omega | (simp; done) | (simp; omega) | assumption)) rfl rfl rfl rfl rfl rfl (fun v L' I' hq30 => ?_)) .nil) (List.cons_ne_nil _ _)
   obtain ⟨hv14, rfl, rfl⟩ := hq30
   obtain rfl : v = .bool true := by rw [hv14, decide_eq_true (show (fewJ l) = (fewJ m) from h69)]
   refine a_and (held_pt 1 rfl rfl (held_pt 1 rfl rfl (held_pt 1 rfl rfl held_nil))) ?_
   refine b_yo (i := 44) (v := .bool true) 56 (ticked 52 35184372088831) rfl rfl rfl (by exact y_k rfl rfl (fun _ => by kernel_rfl)) ?_
   refine b_y (i := 45) (v := .bool true) (ticked 52 70368744177663) rfl rfl (by exact y_pick rfl rfl) ?_
   refine b_y (i := 46) (v := .bool true) (ticked 52 140737488355327) rfl rfl (by exact y_mv rfl) ?_
   refine b_yo (i := 47) (v := .slice A2 (fewJ l).length c2) 65 (ticked 52 281474976710655) rfl rfl rfl (by exact y_mv rfl) ?_
   refine b_yo (i := 48) (v := .slice A2 (fewJ l).length c2) 65 (ticked 52 562949953421311) rfl rfl rfl (by exact y_mv rfl) ?_
   refine a_each (rs := [49]) (by as_aux_lemma => kernel_rfl) (.on 65 (ticked 52 1125899906842623) rfl rfl rfl rfl rfl (o_call [] [4, 4] (jSame_ A2 c2 (fewJ l) A2 c2 (fewJ l) (by first | omega | (simp; done) | (simp; omega) | assumption)) rfl rfl rfl rfl rfl rfl (fun v L' I' hq31 => ?_)) .nil) (List.cons_ne_nil _ _)
   obtain ⟨hv15, rfl, rfl⟩ := hq31
   obtain rfl : v = .bool true := by rw [hv15, decide_eq_true (show (fewJ l) = (fewJ l) from rfl)]
   refine a_and (held_pt 1 rfl rfl (held_pt 1 rfl rfl (held_pt 1 rfl rfl held_nil))) ?_
   refine b_y (i := 50) (v := .bool true) (ticked 52 2251799813685247) rfl rfl (by exact y_pick rfl rfl) ?_
   refine b_y (i := 51) (v := .bool true) (ticked 52 4503599627370495) rfl rfl (by exact y_as rfl) ?_
   refine a_done (by as_aux_lemma => kernel_rfl) ?_
   refine q_then (c_ret ?_)
   refine c_fin (I' := []) [] [6, 7, 8, 9, 10, 11, 12, 13] rfl (.tmp rfl .nil) rfl rfl rfl ?_
   exact ⟨rfl, rfl, rfl⟩
  ·
   obtain rfl : v = .bool false := by rw [hv13, decide_eq_false h69]
   refine a_and (held_pt 1 rfl rfl (held_pt 1 rfl rfl (held_pt 1 rfl rfl held_nil))) ?_
   refine a_each (rs := [43]) (by as_aux_lemma => kernel_rfl) (.on 56 (ticked 52 17592186044415) rfl rfl rfl rfl rfl (o_call [] [4, 3] (jrSame_ A2 c2 (fewJ l) A3 c3 (fewJ m) (by first | omega | (simp; done) | (simp; omega) | assumption)) rfl rfl rfl rfl rfl rfl (fun v L' I' hq32 => ?_)) .nil) (List.cons_ne_nil _ _)
   obtain ⟨hv16, rfl, rfl⟩ := hq32
   obtain rfl : v = .bool false := by rw [hv16, decide_eq_false (show ¬ ((fewJ l) = (fewJ m)) from h69)]
   refine a_and (held_pt 1 rfl rfl (held_pt 1 rfl rfl (held_pt 1 rfl rfl held_nil))) ?_
   refine b_yo (i := 44) (v := .bool true) 56 (ticked 52 35184372088831) rfl rfl rfl (by exact y_k rfl rfl (fun _ => by kernel_rfl)) ?_
   refine b_y (i := 45) (v := .bool true) (ticked 52 70368744177663) rfl rfl (by exact y_pick rfl rfl) ?_
   refine b_y (i := 46) (v := .bool true) (ticked 52 140737488355327) rfl rfl (by exact y_mv rfl) ?_
   refine b_yo (i := 47) (v := .slice A2 (fewJ l).length c2) 65 (ticked 52 281474976710655) rfl rfl rfl (by exact y_mv rfl) ?_
   refine b_yo (i := 48) (v := .slice A2 (fewJ l).length c2) 65 (ticked 52 562949953421311) rfl rfl rfl (by exact y_mv rfl) ?_
   refine a_each (rs := [49]) (by as_aux_lemma => kernel_rfl) (.on 65 (ticked 52 1125899906842623) rfl rfl rfl rfl rfl (o_call [] [4, 4] (jSame_ A2 c2 (fewJ l) A2 c2 (fewJ l) (by first | omega | (simp; done) | (simp; omega) | assumption)) rfl rfl rfl rfl rfl rfl (fun v L' I' hq33 => ?_)) .nil) (List.cons_ne_nil _ _)
   obtain ⟨hv17, rfl, rfl⟩ := hq33
   obtain rfl : v = .bool true := by rw [hv17, decide_eq_true (show (fewJ l) = (fewJ l) from rfl)]
   refine a_and (held_pt 1 rfl rfl (held_pt 1 rfl rfl (held_pt 1 rfl rfl held_nil))) ?_
   refine b_y (i := 50) (v := .bool true) (ticked 52 2251799813685247) rfl rfl (by exact y_pick rfl rfl) ?_
   refine b_y (i := 51) (v := .bool true) (ticked 52 4503599627370495) rfl rfl (by exact y_as rfl) ?_
   refine a_done (by as_aux_lemma => kernel_rfl) ?_
   refine q_then (c_ret ?_)
   refine c_fin (I' := []) [] [6, 7, 8, 9, 10, 11, 12, 13] rfl (.tmp rfl .nil) rfl rfl rfl ?_
   exact ⟨rfl, rfl, rfl⟩
end Go.Proofs.YthehnjbdkjnlpaaGreatDoor
