/- Contracts of package ring, its reference and its laws, walked over the given program; no condition but what stands in each: part J. -/
import Derived.Test.YtjcjbdhkajiaeaaDoorRH
set_option linter.unusedVariables false
set_option linter.unusedSimpArgs false
set_option maxRecDepth 100000
namespace Go.Proofs.YtjcjbdhkajiaeaaDoor
open Go Go.Sl Go.RowKit Go.Extern.Stop Go.Stop Go.Extern
theorem put_ (b : Nat) (max : Int) (A : Option Addr) (c : Nat) (l0 : List ByteArray) (B : Option Addr) (d : Nat) (r : List ByteArray) (ea : Addr) (ef : Addr) (ee : Addr) (hr : right max l0) (hs : small r) : Con Tryd.prog 29 [.pointer (some ⟨b, 0, none⟩), .slice B r.length d] [pt b [.int .i64 max, .slice A l0.length c] 52, ars strTy 9 A c l0] [rd strTy B d r, cellsAt 1 0 [.iface 80 (.pointer (some ea))], cellsAt 2 0 [.iface 80 (.pointer (some ef))], cellsAt 0 0 [.iface 80 (.pointer (some ee))], errAt ea, errAt ef, errAt ee] (fun v L' I' => (∃ A1 : Option Addr, ∃ c1 : Nat, ∃ l1 : List ByteArray, ∃ n : Nat, (addF max l0 r = (l1, n)) ∧ (n = r.length) ∧ v = .tuple #[.int .i64 (n : Int), .nilIface] ∧ L' = [pt b [.int .i64 max, .slice A1 l1.length c1] 52, ars strTy 9 A1 c1 l1] ∧ I' = []) ∨ (∃ A1 : Option Addr, ∃ c1 : Nat, ∃ l1 : List ByteArray, ∃ n : Nat, (addF max l0 r = (l1, n)) ∧ (∃ s, r[n]? = some s ∧ 200 < s.size) ∧ v = .tuple #[.int .i64 (n : Int), .iface 80 (.pointer (some ea))] ∧ L' = [pt b [.int .i64 max, .slice A1 l1.length c1] 52, ars strTy 9 A1 c1 l1] ∧ I' = []) ∨ (∃ A1 : Option Addr, ∃ c1 : Nat, ∃ l1 : List ByteArray, ∃ n : Nat, (addF max l0 r = (l1, n)) ∧ (∃ s, r[n]? = some s ∧ s.size ≤ 200 ∧ max < (takesN l1 : Int) + s.size + 1) ∧ v = .tuple #[.int .i64 (n : Int), .iface 80 (.pointer (some ef))] ∧ L' = [pt b [.int .i64 max, .slice A1 l1.length c1] 52, ars strTy 9 A1 c1 l1] ∧ I' = [])) := by
  refine fn_of Tryd.func29 rfl Tryd.ntmps29 (by kernel_rfl) rfl (fun C => ?_)
  refine c_seq ?_
  refine c_region ?_
  refine st rfl (o_y (v := .int .i64 0) (y_as rfl) rfl rfl rfl ?_)
  refine st rfl (o_y (v := .nilIface) (y_as rfl) rfl rfl rfl ?_)
  refine s_nil ?_
  refine q_then ?_
  refine c_seq ?_
  refine c_region ?_
  refine st rfl (o_y (v := .pointer (some ⟨b, 0, none⟩)) (y_mv rfl) rfl rfl rfl ?_)
  refine st rfl (o_lend [1] [0] [] (used_ A c l0 b max (by first | assumption | exact small_put _ _ _ | exact small_take _ _ | exact small_all _ _ _ | exact small_nil | exact small_right (by assumption) | exact small_one (small_at (by assumption) hx1) | exact small_one (by assumption))) (.cons lend_ars .nil) rfl rfl rfl rfl rfl rfl rfl rfl (fun v L' I' hq1 => ?_))
  obtain ⟨rfl, rfl, rfl⟩ := hq1
  refine ⟨rfl, ?_⟩
  refine st rfl (o_y (v := .int .i64 (takesN l0 : Int)) (y_as rfl) rfl rfl rfl ?_)
  refine s_nil ?_
  refine q_then ?_
  refine c_seq ?_
  refine c_seq ?_
  refine c_region ?_
  refine st rfl (o_y (v := .slice B r.length d) (y_mv rfl) rfl rfl rfl ?_)
  refine st rfl (o_y (v := .int .i64 (r.length : Int)) (y_k rfl rfl (fun _ => by kernel_rfl)) rfl rfl rfl ?_)
  refine st rfl (o_y (v := .int .i64 0) (y_mv rfl) rfl rfl rfl ?_)
  refine s_nil ?_
  refine q_then ?_
  refine c_block ?_
  refine c_loopn (ι := Nat × (Option Addr) × Nat × (List ByteArray)) (fun (k, Aq, cq, l1) => (k ≤ r.length) ∧ (addF max l0 r = ((addF max l1 (r.drop k)).1, k + (addF max l1 (r.drop k)).2)) ∧ (right max l1)) (fun (k, Aq, cq, l1) => [(0, .pointer (some ⟨b, 0, none⟩)), (1, .slice B r.length d), (6, .int .i64 (takesN l1 : Int)), (11, .slice B r.length d), (12, .int .i64 (r.length : Int)), (13, .int .i64 (k : Int))]) (fun (k, Aq, cq, l1) => [pt b [.int .i64 max, .slice Aq l1.length cq] 52, ars strTy 9 Aq cq l1]) (fun (k, Aq, cq, l1) => [rd strTy B d r, cellsAt 1 0 [.iface 80 (.pointer (some ea))], cellsAt 2 0 [.iface 80 (.pointer (some ef))], cellsAt 0 0 [.iface 80 (.pointer (some ee))], errAt ea, errAt ef, errAt ee]) (fun (k, Aq, cq, l1) => r.length - k) (0, A, c, l0) [0, 0] [0, 1, 2, 3, 4, 5, 6] (show (0 ≤ r.length) ∧ (addF max l0 r = ((addF max l0 (r.drop 0)).1, 0 + (addF max l0 (r.drop 0)).2)) ∧ (right max l0) from ⟨by first | omega | simp_all | (simp; done), by simp, hr⟩) ((.cons rfl rfl (.cons rfl rfl (.cons rfl rfl (.cons rfl rfl (.cons rfl rfl (.cons rfl rfl .nil))))))) rfl rfl ?_
  rintro ⟨k, Aq, cq, l1⟩ ⟨hk, hF, hR⟩
  show Ent 66 C [(0, .pointer (some ⟨b, 0, none⟩)), (1, .slice B r.length d), (6, .int .i64 (takesN l1 : Int)), (11, .slice B r.length d), (12, .int .i64 (r.length : Int)), (13, .int .i64 (k : Int))] [] [pt b [.int .i64 max, .slice Aq l1.length cq] 52, ars strTy 9 Aq cq l1] [rd strTy B d r, cellsAt 1 0 [.iface 80 (.pointer (some ea))], cellsAt 2 0 [.iface 80 (.pointer (some ef))], cellsAt 0 0 [.iface 80 (.pointer (some ee))], errAt ea, errAt ef, errAt ee] _
  refine c_seq ?_
  refine c_region ?_
  refine e_by ((k : Int) < (r.length : Int)) (fun h1 => ?_) (fun h1 => ?_)
  ·
    refine st rfl (o_y (v := .bool true) (y_t (y_k (v := .bool (decide ((k : Int) < (r.length : Int)))) rfl rfl (fun _ => by kernel_rfl)) h1) rfl rfl rfl ?_)
    refine s_nil ?_
    refine q_then ?_
    refine c_seq ?_
    refine c_true rfl ?_
    refine c_skip ?_
    refine q_then ?_
    refine c_seq ?_
    refine c_block ?_
    refine c_seq ?_
    refine c_region ?_
    refine st rfl (o_y (v := .int .i64 (k : Int)) (y_mv rfl) rfl rfl rfl ?_)
    refine e_at 0 k rfl (by first | omega | (simp only [List.length_append, List.length_map, List.length_take, List.length_drop]; omega)) (fun b1 o1 x1 hA1 hx1 => ?_)
    refine st rfl (o_y (v := .pointer (some ⟨b1, o1 + k * 1, none⟩)) (y_at (d := strTy) (l := r) k hA1 rfl rfl rfl (rfl) (List.getElem?_eq_some_iff.1 hx1).1 Tryd.underlying22 (by kernel_rfl) (by kernel_rfl)) rfl rfl rfl ?_)
    refine st rfl (o_ldf 0 0 rfl rfl rfl Tryd.underlying9 rfl rfl ?_)
    refine st rfl (o_y (v := .int .i64 (k : Int)) (y_as rfl) rfl rfl rfl ?_)
    refine st rfl (o_y (v := .string x1) (y_as rfl) rfl rfl rfl ?_)
    refine s_nil ?_
    refine q_then ?_
    refine c_seq ?_
    refine c_seq ?_
    refine c_region ?_
    refine st rfl (o_y (v := .string x1) (y_mv rfl) rfl rfl rfl ?_)
    refine st rfl (o_lit (cs := [.string x1]) (T := 9) (m := 1) rfl rfl rfl rfl (fun _ => by kernel_rfl) (fun b2 => ?_))
    refine e_calm 0 rfl ?_
    refine e_lit strTy [x1] 0 rfl rfl (by simp) ?_
    refine st rfl (o_call [] [0] (isItem_ (some ⟨b2, 0, none⟩) 1 [x1] (by first | assumption | exact small_put _ _ _ | exact small_take _ _ | exact small_all _ _ _ | exact small_nil | exact small_right (by assumption) | exact small_one (small_at (by assumption) hx1) | exact small_one (by assumption))) rfl rfl rfl rfl rfl rfl (fun v L' I' hq2 => ?_))
    obtain ⟨hv1, rfl, rfl⟩ := hq2
    refine e_by (items [x1]) (fun h2 => ?_) (fun h2 => ?_)
    ·
      obtain rfl : v = .bool true := by rw [hv1, decide_eq_true h2]
      refine st rfl (o_y (v := .bool false) (y_k rfl rfl (fun _ => by kernel_rfl)) rfl rfl rfl ?_)
      refine s_nil ?_
      refine q_then ?_
      refine c_false rfl ?_
      refine c_skip ?_
      refine q_then ?_
      refine c_seq ?_
      refine c_seq ?_
      refine c_region ?_
      refine st rfl (o_y (v := .int .i64 (takesN l1 : Int)) (y_mv rfl) rfl rfl rfl ?_)
      refine st rfl (o_y (v := .string x1) (y_mv rfl) rfl rfl rfl ?_)
      refine st rfl (o_y (v := .int .i64 (x1.size : Int)) (y_k rfl rfl (fun _ => by kernel_rfl)) rfl rfl rfl ?_)
      refine st rfl (o_y (v := .int .i64 ((x1.size : Int) + 1)) (y_add (r := (x1.size : Int) + 1) rfl rfl rfl (by have := right_len hR; have := small_at hs hx1; have := hs.1; omega)) rfl rfl rfl ?_)
      refine st rfl (o_y (v := .int .i64 ((takesN l1 : Int) + ((x1.size : Int) + 1))) (y_add (r := (takesN l1 : Int) + ((x1.size : Int) + 1)) rfl rfl rfl (by have := right_len hR; have := small_at hs hx1; have := hs.1; omega)) rfl rfl rfl ?_)
      refine st rfl (o_y (v := .int .i64 ((takesN l1 : Int) + ((x1.size : Int) + 1))) (y_as rfl) rfl rfl rfl ?_)
      refine s_nil ?_
      refine q_then ?_
      refine c_seq ?_
      refine c_region ?_
      refine st rfl (o_y (v := .int .i64 ((takesN l1 : Int) + ((x1.size : Int) + 1))) (y_mv rfl) rfl rfl rfl ?_)
      refine st rfl (o_y (v := .pointer (some ⟨b, 0, none⟩)) (y_mv rfl) rfl rfl rfl ?_)
      refine st rfl (o_y (v := .pointer (some ⟨b, 0, none⟩)) (y_k rfl rfl (fun _ => by kernel_rfl)) rfl rfl rfl ?_)
      refine st rfl (o_y (v := .pointer (some ⟨b, 0, none⟩)) (y_k rfl rfl (fun _ => by kernel_rfl)) rfl rfl rfl ?_)
      refine st rfl (o_y (v := .pointer (some ⟨b, 0, none⟩)) (y_k rfl rfl (fun _ => by kernel_rfl)) rfl rfl rfl ?_)
      refine st rfl (o_ld 0 rfl rfl rfl Tryd.underlying3 rfl rfl ?_)
      refine e_by ((takesN l1 : Int) + ((x1.size : Int) + 1) > max) (fun h3 => ?_) (fun h3 => ?_)
      ·
        refine st rfl (o_y (v := .bool true) (y_t (y_k (v := .bool (decide ((takesN l1 : Int) + ((x1.size : Int) + 1) > max))) rfl rfl (fun _ => by kernel_rfl)) h3) rfl rfl rfl ?_)
        refine s_nil ?_
        refine q_then ?_
        refine c_true rfl ?_
        refine c_seq ?_
        refine c_draw (l := ticked 4 0) [(⟨2, 0, none⟩, .iface 80 (.pointer (some ef)))] [] (by kernel_rfl) rfl rfl ?_
        refine a_y (i := 0) (v := .int .i64 (k : Int)) (ticked 4 1) rfl (by kernel_rfl) rfl rfl rfl (by exact y_mv rfl) ?_
        refine a_y (i := 2) (v := .int .i64 (k : Int)) (ticked 4 5) rfl (by kernel_rfl) rfl rfl rfl (by exact y_as rfl) ?_
        refine a_held (i := 1) (ticked 4 7) rfl (by kernel_rfl) rfl rfl rfl (held_fact (j := 0) 5 rfl rfl held_nil) (h_ld 0 rfl rfl Tryd.underlying47 rfl) ?_
        refine a_y (i := 3) (v := .iface 80 (.pointer (some ef))) (ticked 4 15) rfl (by kernel_rfl) rfl rfl rfl (by exact y_as rfl) ?_
        refine a_done (by kernel_rfl) ?_
        refine q_then ?_
        refine c_ret ?_
        refine q_then_ret ?_
        refine q_block_ret ?_
        refine q_then_ret ?_
        refine q_then_ret ?_
        refine q_block_ret ?_
        refine q_then_ret ?_
        refine c_fin (I' := []) [0, 0] [3, 4, 5, 6, 7, 8, 9] rfl (.tmp rfl (.tmp rfl .nil)) rfl rfl rfl ?_
        exact .inr (.inr ⟨Aq, cq, l1, k, by first | exact addF_end hF (by omega) | (have e0 : k = r.length := (by omega); rw [← e0]; exact addF_end hF (by omega)) | exact addF_stop hF hx1 (fun hh => by first | (have := hh.2; omega) | exact absurd (fun s hs => by have : s = x1 := (by simpa using hs); rw [this]; exact hh.1) (by assumption : ¬ items [x1])), by first | omega | exact ⟨x1, hx1, by rcases Nat.lt_or_ge 200 x1.size with q | q; exact q; exact absurd (fun s hs => by have : s = x1 := (by simpa using hs); rw [this]; exact q) (by assumption : ¬ items [x1])⟩ | exact ⟨x1, hx1, (by assumption : items [x1]) x1 (by simp), by omega⟩, rfl, rfl, rfl⟩)
      ·
        refine st rfl (o_y (v := .bool false) (y_f (y_k (v := .bool (decide ((takesN l1 : Int) + ((x1.size : Int) + 1) > max))) rfl rfl (fun _ => by kernel_rfl)) h3) rfl rfl rfl ?_)
        refine s_nil ?_
        refine q_then ?_
        refine c_false rfl ?_
        refine c_skip ?_
        refine q_then ?_
        refine c_draw (l := ticked 26 0) [(⟨b, 1, none⟩, .slice Aq l1.length cq)] [25] (by kernel_rfl) rfl rfl ?_
        refine a_y (i := 0) (v := .pointer (some ⟨b, 0, none⟩)) (ticked 26 1) rfl (by kernel_rfl) rfl rfl rfl (by exact y_mv rfl) ?_
        refine a_y (i := 1) (v := .pointer (some ⟨b, 0, none⟩)) (ticked 26 3) rfl (by kernel_rfl) rfl rfl rfl (by exact y_mv rfl) ?_
        refine a_y (i := 2) (v := .pointer (some ⟨b, 0, none⟩)) (ticked 26 7) rfl (by kernel_rfl) rfl rfl rfl (by exact y_k rfl rfl (fun _ => by kernel_rfl)) ?_
        refine a_y (i := 3) (v := .pointer (some ⟨b, 0, none⟩)) (ticked 26 15) rfl (by kernel_rfl) rfl rfl rfl (by exact y_k rfl rfl (fun _ => by kernel_rfl)) ?_
        refine a_y (i := 4) (v := .pointer (some ⟨b, 1, none⟩)) (ticked 26 31) rfl (by kernel_rfl) rfl rfl rfl (by exact y_k rfl rfl (fun _ => by kernel_rfl)) ?_
        refine a_y (i := 6) (v := .pointer (some ⟨b, 0, none⟩)) (ticked 26 95) rfl (by kernel_rfl) rfl rfl rfl (by exact y_mv rfl) ?_
        refine a_y (i := 7) (v := .pointer (some ⟨b, 0, none⟩)) (ticked 26 223) rfl (by kernel_rfl) rfl rfl rfl (by exact y_k rfl rfl (fun _ => by kernel_rfl)) ?_
        refine a_y (i := 8) (v := .pointer (some ⟨b, 0, none⟩)) (ticked 26 479) rfl (by kernel_rfl) rfl rfl rfl (by exact y_k rfl rfl (fun _ => by kernel_rfl)) ?_
        refine a_y (i := 9) (v := .pointer (some ⟨b, 1, none⟩)) (ticked 26 991) rfl (by kernel_rfl) rfl rfl rfl (by exact y_k rfl rfl (fun _ => by kernel_rfl)) ?_
        refine a_y (i := 12) (v := .pointer (some ⟨b, 0, none⟩)) (ticked 26 5087) rfl (by kernel_rfl) rfl rfl rfl (by exact y_mv rfl) ?_
        refine a_y (i := 13) (v := .pointer (some ⟨b, 0, none⟩)) (ticked 26 13279) rfl (by kernel_rfl) rfl rfl rfl (by exact y_k rfl rfl (fun _ => by kernel_rfl)) ?_
        refine a_y (i := 14) (v := .pointer (some ⟨b, 0, none⟩)) (ticked 26 29663) rfl (by kernel_rfl) rfl rfl rfl (by exact y_k rfl rfl (fun _ => by kernel_rfl)) ?_
        refine a_y (i := 15) (v := .pointer (some ⟨b, 1, none⟩)) (ticked 26 62431) rfl (by kernel_rfl) rfl rfl rfl (by exact y_k rfl rfl (fun _ => by kernel_rfl)) ?_
        refine a_y (i := 19) (v := .string x1) (ticked 26 586719) rfl (by kernel_rfl) rfl rfl rfl (by exact y_mv rfl) ?_
        refine a_held (i := 5) (ticked 26 586751) rfl (by kernel_rfl) rfl rfl rfl (held_pt 0 rfl rfl held_nil) (h_ld 0 rfl rfl Tryd.underlying22 rfl) ?_
        refine a_held (i := 10) (ticked 26 587775) rfl (by kernel_rfl) rfl rfl rfl (held_pt 0 rfl rfl held_nil) (h_ld 0 rfl rfl Tryd.underlying22 rfl) ?_
        refine a_y (i := 11) (v := .int .i64 (l1.length : Int)) (ticked 26 589823) rfl (by kernel_rfl) rfl rfl rfl (by exact y_k rfl rfl (fun _ => by kernel_rfl)) ?_
        refine a_held (i := 16) (ticked 26 655359) rfl (by kernel_rfl) rfl rfl rfl (held_pt 0 rfl rfl held_nil) (h_ld 0 rfl rfl Tryd.underlying22 rfl) ?_
        refine a_y (i := 17) (v := .int .i64 (l1.length : Int)) (ticked 26 786431) rfl (by kernel_rfl) rfl rfl rfl (by exact y_k rfl rfl (fun _ => by kernel_rfl)) ?_
        refine e_weak 1 rfl (fun _ h => h.win) ?_
        refine e_know 1 rfl (fun _ h => win.lens _ h) (fun hl1 => ?_)
        refine a_y (i := 18) (v := .slice (cutA strTy Aq 0 l1.length) l1.length (l1.length - 0)) (ticked 26 1048575) rfl (by kernel_rfl) rfl rfl rfl (by exact y_cut (d := strTy) (l := l1) (l2 := l1) 0 l1.length l1.length (by simp) rfl rfl .no (.at l1.length rfl (rfl)) (.at l1.length rfl (rfl)) (by simp) Tryd.underlying22 (by kernel_rfl) (by kernel_rfl) (by omega) (by omega) (by omega) (by omega)) ?_
        refine a_each (rs := [20]) (by kernel_rfl) (.cons (ticked 26 2097151) rfl rfl rfl (o_lit (cs := [.string x1]) (T := 9) (m := 1) rfl rfl rfl rfl (fun _ => by kernel_rfl) (fun b3 => ?_)) .nil) (List.cons_ne_nil _ _)
        refine a_and (held_pt 1 rfl rfl held_nil) ?_
        refine a_each (rs := [21]) (by kernel_rfl) (.cons (ticked 26 4194303) rfl rfl rfl (o_appfull (d := strTy) (l := l1) (us := [x1]) rfl rfl rfl (by first | rfl | omega) rfl (src_cut (d := strTy) (l := l1) (lo := 0) (hi := l1.length) (mx := l1.length) 2 rfl (by simp) (by omega) (by omega) (by omega) (by omega)) (src_pt 0 rfl) (by first | (simp; done) | omega) Tryd.underlying22 (elem_of (z := .string (⟨#[]⟩ : ByteArray)) (sz := 1) (bytes := 16) (by kernel_rfl) rfl) (by have := (right_len hR).1; simp only [List.length_cons, List.length_nil, List.take_length, List.drop_zero]; omega) rfl rfl (fun A1 c1 => ?_)) .nil) (List.cons_ne_nil _ _)
        refine a_and (held_pt 2 rfl rfl held_nil) ?_
        refine a_y (i := 22) (v := .pointer (some ⟨b, 0, none⟩)) (ticked 26 8388607) rfl (by kernel_rfl) rfl rfl rfl (by exact y_k rfl rfl (fun _ => by kernel_rfl)) ?_
        refine a_y (i := 23) (v := .pointer (some ⟨b, 0, none⟩)) (ticked 26 16777215) rfl (by kernel_rfl) rfl rfl rfl (by exact y_k rfl rfl (fun _ => by kernel_rfl)) ?_
        refine a_y (i := 24) (v := .pointer (some ⟨b, 1, none⟩)) (ticked 26 33554431) rfl (by kernel_rfl) rfl rfl rfl (by exact y_k rfl rfl (fun _ => by kernel_rfl)) ?_
        refine a_each (rs := [25]) (by kernel_rfl) (.last (ticked 26 67108863) rfl rfl rfl rfl (o_st 2 rfl rfl rfl rfl rfl (by kernel_rfl) (by kernel_rfl) rfl ?_) .nil) (List.cons_ne_nil _ _)
        refine a_done (by kernel_rfl) ?_
        refine q_block ?_
        refine q_then ?_
        refine c_region ?_
        refine st rfl (o_y (v := .int .i64 ((k : Int) + 1)) (y_add (r := (k : Int) + 1) rfl rfl rfl (by have := right_len hR; have := small_at hs hx1; have := hs.1; omega)) rfl rfl rfl ?_)
        refine st rfl (o_y (v := .int .i64 ((k : Int) + 1)) (y_mv rfl) rfl rfl rfl ?_)
        refine s_nil ?_
        refine q_then ?_
        have hT2 : takesN (l1 ++ [x1]) = takesN l1 + x1.size + 1 := by rw [takesN_append]; simp only [takesN]; omega
        refine c_next [2, 0] [3, 4, 5, 6, 7, 8, 9] (k + 1, A1, c1, l1 ++ [x1]) ?_ ?_ ?_ (by rfl) (by rfl)
        · exact (show ((k + 1) ≤ r.length) ∧ (addF max l0 r = ((addF max (l1 ++ [x1]) (r.drop (k + 1))).1, (k + 1) + (addF max (l1 ++ [x1]) (r.drop (k + 1))).2)) ∧ (right max (l1 ++ [x1])) from ⟨by first | omega | simp_all | (simp; done), addF_step hF hx1 (by have := (by assumption : items [x1]); exact this x1 (by simp)) (by omega), right_add hR (by have := (by assumption : items [x1]); exact this x1 (by simp)) (by omega)⟩)
        · show r.length - (k + 1) < r.length - k; omega
        · exact (.cons rfl rfl (.cons rfl rfl (.cons rfl (show (.int .i64 ((takesN l1 : Int) + ((x1.size : Int) + 1)) : Value) = .int .i64 (takesN (l1 ++ [x1]) : Int) from by first | rfl | (congr 1; omega) | (congr 1; simp; done) | (congr 1; simp; omega)) (.cons rfl rfl (.cons rfl rfl (.cons rfl (show (.int .i64 ((k : Int) + 1) : Value) = .int .i64 ((k + 1) : Int) from by first | rfl | (congr 1; omega) | (congr 1; simp; done) | (congr 1; simp; omega)) .nil))))))
    ·
      obtain rfl : v = .bool false := by rw [hv1, decide_eq_false h2]
      refine st rfl (o_y (v := .bool true) (y_k rfl rfl (fun _ => by kernel_rfl)) rfl rfl rfl ?_)
      refine s_nil ?_
      refine q_then ?_
      refine c_true rfl ?_
      refine c_seq ?_
      refine c_draw (l := ticked 4 0) [(⟨1, 0, none⟩, .iface 80 (.pointer (some ea)))] [] (by kernel_rfl) rfl rfl ?_
      refine a_y (i := 0) (v := .int .i64 (k : Int)) (ticked 4 1) rfl (by kernel_rfl) rfl rfl rfl (by exact y_mv rfl) ?_
      refine a_y (i := 2) (v := .int .i64 (k : Int)) (ticked 4 5) rfl (by kernel_rfl) rfl rfl rfl (by exact y_as rfl) ?_
      refine a_held (i := 1) (ticked 4 7) rfl (by kernel_rfl) rfl rfl rfl (held_fact (j := 0) 4 rfl rfl held_nil) (h_ld 0 rfl rfl Tryd.underlying47 rfl) ?_
      refine a_y (i := 3) (v := .iface 80 (.pointer (some ea))) (ticked 4 15) rfl (by kernel_rfl) rfl rfl rfl (by exact y_as rfl) ?_
      refine a_done (by kernel_rfl) ?_
      refine q_then ?_
      refine c_ret ?_
      refine q_then_ret ?_
      refine q_block_ret ?_
      refine q_then_ret ?_
      refine q_then_ret ?_
      refine q_block_ret ?_
      refine q_then_ret ?_
      refine c_fin (I' := []) [0, 0] [3, 4, 5, 6, 7, 8, 9] rfl (.tmp rfl (.tmp rfl .nil)) rfl rfl rfl ?_
      exact .inr (.inl ⟨Aq, cq, l1, k, by first | exact addF_end hF (by omega) | (have e0 : k = r.length := (by omega); rw [← e0]; exact addF_end hF (by omega)) | exact addF_stop hF hx1 (fun hh => by first | (have := hh.2; omega) | exact absurd (fun s hs => by have : s = x1 := (by simpa using hs); rw [this]; exact hh.1) (by assumption : ¬ items [x1])), by first | omega | exact ⟨x1, hx1, by rcases Nat.lt_or_ge 200 x1.size with q | q; exact q; exact absurd (fun s hs => by have : s = x1 := (by simpa using hs); rw [this]; exact q) (by assumption : ¬ items [x1])⟩ | exact ⟨x1, hx1, (by assumption : items [x1]) x1 (by simp), by omega⟩, rfl, rfl, rfl⟩)
  ·
    refine st rfl (o_y (v := .bool false) (y_f (y_k (v := .bool (decide ((k : Int) < (r.length : Int)))) rfl rfl (fun _ => by kernel_rfl)) h1) rfl rfl rfl ?_)
    refine s_nil ?_
    refine q_then ?_
    refine c_seq ?_
    refine c_false rfl ?_
    refine c_exit ?_
    refine q_then_exit ?_
    refine q_then_exit ?_
    refine q_block_here ?_
    refine q_then ?_
    refine c_seq ?_
    refine c_region ?_
    refine st rfl (o_y (v := .slice B r.length d) (y_mv rfl) rfl rfl rfl ?_)
    refine st rfl (o_y (v := .int .i64 (r.length : Int)) (y_k rfl rfl (fun _ => by kernel_rfl)) rfl rfl rfl ?_)
    refine st rfl (o_y (v := .int .i64 (r.length : Int)) (y_as rfl) rfl rfl rfl ?_)
    refine st rfl (o_y (v := .nilIface) (y_as rfl) rfl rfl rfl ?_)
    refine s_nil ?_
    refine q_then ?_
    refine c_ret ?_
    refine c_fin (I' := []) [0, 0] [0, 1, 2, 3, 4, 5, 6] rfl (.tmp rfl (.tmp rfl .nil)) rfl rfl rfl ?_
    exact .inl ⟨Aq, cq, l1, r.length, by first | exact addF_end hF (by omega) | (have e0 : k = r.length := (by omega); rw [← e0]; exact addF_end hF (by omega)) | exact addF_stop hF hx1 (fun hh => by first | (have := hh.2; omega) | exact absurd (fun s hs => by have : s = x1 := (by simpa using hs); rw [this]; exact hh.1) (by assumption : ¬ items [x1])), by first | omega | exact ⟨x1, hx1, by rcases Nat.lt_or_ge 200 x1.size with q | q; exact q; exact absurd (fun s hs => by have : s = x1 := (by simpa using hs); rw [this]; exact q) (by assumption : ¬ items [x1])⟩ | exact ⟨x1, hx1, (by assumption : items [x1]) x1 (by simp), by omega⟩, rfl, rfl, rfl⟩
end Go.Proofs.YtjcjbdhkajiaeaaDoor
