/- The laws of chapter 9 (file), walked over the given program; no condition but what stands in each theorem: part E. -/
import Derived.Test.YthjcekfehicjhabDoorRD
set_option linter.unusedVariables false
set_option linter.unusedSimpArgs false
set_option maxRecDepth 100000
set_option maxHeartbeats 8000000
namespace Go.Proofs.YthjcekfehicjhabDoor
open Go Go.Sl Go.RowKit Go.Extern.Stop Go.Stop Go.Extern
theorem splice_ (b : Nat) (A : Option Addr) (c : Nat) (l : List UInt8) (at_ : Int) (n : Int) (t : ByteArray) (hl : l.length ≤ 100000) (ht : t.size ≤ 100000) : Con Tryd.prog 15 [.pointer (some ⟨b, 0, none⟩), .int .i64 at_, .int .i64 n, .string t] [pt b [.slice A l.length c, .nilIface] 44] [rd u8Ty A c l] (fun v L' I' => (∃ A1 : Option Addr, ∃ c1 : Nat, ((0 ≤ at_ ∧ at_ ≤ (l.length : Int)) ∧ 0 ≤ n ∧ n ≤ (l.length : Int) - at_ ∧ at_ + (t.size : Int) + ((l.length : Int) - at_ - n) ≤ 1000) ∧ v = .tuple #[] ∧ L' = [pt b [.slice A1 (l.take at_.toNat ++ t.data.toList ++ l.drop (at_ + n).toNat).length c1, .nilIface] 44, ars u8Ty 5 A1 c1 (l.take at_.toNat ++ t.data.toList ++ l.drop (at_ + n).toNat)] ∧ I' = []) ∨ (∃ A1 : Option Addr, ∃ c1 : Nat, ∃ l1 : List UInt8, (¬ ((0 ≤ at_ ∧ at_ ≤ (l.length : Int)) ∧ 0 ≤ n ∧ n ≤ (l.length : Int) - at_ ∧ at_ + (t.size : Int) + ((l.length : Int) - at_ - n) ≤ 1000)) ∧ v = .tuple #[] ∧ L' = [pt b [.slice A1 l1.length c1, .iface 49 (.agg #[])] 44] ∧ I' = [])) := by
  refine fn_of Tryd.func15 rfl Tryd.ntmps15 (by kernel_rfl) rfl (fun C => ?_)
  refine c_seq ?_
  refine c_seq ?_
  refine c_region ?_
  refine st rfl (o_y (v := .pointer (some ⟨b, 0, none⟩)) (y_mv rfl) rfl rfl rfl ?_)
  refine st rfl (o_y (v := .pointer (some ⟨b, 0, none⟩)) (y_mv rfl) rfl rfl rfl ?_)
  refine st rfl (o_y (v := .int .i64 at_) (y_mv rfl) rfl rfl rfl ?_)
  refine st rfl (o_call [0] [] (isOffset_ b A c l (.nilIface : Value) at_) rfl rfl rfl rfl rfl rfl (fun v L' I' hq1 => ?_))
  obtain ⟨rfl, rfl, rfl⟩ := hq1
  refine st rfl (o_y (v := .int .i64 n) (y_mv rfl) rfl rfl rfl ?_)
  refine st rfl (o_y (v := .bool (decide (n ≥ 0))) (y_k rfl rfl (fun _ => by kernel_rfl)) rfl rfl rfl ?_)
  refine st rfl (o_lit (cs := [.bool (decide (0 ≤ at_ ∧ at_ ≤ (l.length : Int))), .bool (decide (n ≥ 0))]) (T := 4) (m := 2) rfl rfl rfl rfl (fun _ => by kernel_rfl) (fun b1 => ?_))
  refine e_calm 0 rfl ?_
  refine e_lit boolTy [decide (0 ≤ at_ ∧ at_ ≤ (l.length : Int)), decide (n ≥ 0)] 0 rfl rfl (by simp) ?_
  refine st rfl (o_call [0] [0] (must2_ b A c l (.nilIface : Value) (some ⟨b1, 0, none⟩) 2 (0 ≤ at_ ∧ at_ ≤ (l.length : Int)) (n ≥ 0)) rfl rfl rfl rfl rfl rfl (fun v L' I' hq2 => ?_))
  rcases hq2 with ⟨h1, rfl, rfl, rfl⟩ | ⟨h2, rfl, rfl, rfl⟩
  ·
    refine s_nil ?_
    refine q_then ?_
    refine c_seq ?_
    refine c_region ?_
    refine st rfl (o_y (v := .pointer (some ⟨b, 0, none⟩)) (y_mv rfl) rfl rfl rfl ?_)
    refine st rfl (o_y (v := .pointer (some ⟨b, 0, none⟩)) (y_k rfl rfl (fun _ => by kernel_rfl)) rfl rfl rfl ?_)
    refine st rfl (o_y (v := .pointer (some ⟨b, 1, none⟩)) (y_k rfl rfl (fun _ => by kernel_rfl)) rfl rfl rfl ?_)
    refine st rfl (o_ld 0 rfl rfl rfl Tryd.underlying42 rfl rfl ?_)
    refine st rfl (o_y (v := .bool false) (y_k rfl rfl (fun _ => by kernel_rfl)) rfl rfl rfl ?_)
    refine s_nil ?_
    refine q_then ?_
    refine c_false rfl ?_
    refine c_skip ?_
    refine q_then ?_
    refine c_seq ?_
    refine c_seq ?_
    refine c_region ?_
    refine st rfl (o_y (v := .pointer (some ⟨b, 0, none⟩)) (y_mv rfl) rfl rfl rfl ?_)
    refine st rfl (o_y (v := .int .i64 n) (y_mv rfl) rfl rfl rfl ?_)
    refine st rfl (o_y (v := .pointer (some ⟨b, 0, none⟩)) (y_mv rfl) rfl rfl rfl ?_)
    refine st rfl (o_y (v := .pointer (some ⟨b, 0, none⟩)) (y_k rfl rfl (fun _ => by kernel_rfl)) rfl rfl rfl ?_)
    refine st rfl (o_y (v := .pointer (some ⟨b, 0, none⟩)) (y_k rfl rfl (fun _ => by kernel_rfl)) rfl rfl rfl ?_)
    refine st rfl (o_y (v := .pointer (some ⟨b, 0, none⟩)) (y_k rfl rfl (fun _ => by kernel_rfl)) rfl rfl rfl ?_)
    refine st rfl (o_ld 0 rfl rfl rfl Tryd.underlying38 rfl rfl ?_)
    refine st rfl (o_y (v := .int .i64 (l.length : Int)) (y_k rfl rfl (fun _ => by kernel_rfl)) rfl rfl rfl ?_)
    refine st rfl (o_y (v := .int .i64 at_) (y_mv rfl) rfl rfl rfl ?_)
    refine st rfl (o_y (v := .int .i64 ((l.length : Int) - at_)) (y_sub (r := (l.length : Int) - at_) rfl rfl rfl (by omega)) rfl rfl rfl ?_)
    refine st rfl (o_y (v := .bool (decide (n ≤ (l.length : Int) - at_))) (y_k rfl rfl (fun _ => by kernel_rfl)) rfl rfl rfl ?_)
    refine st rfl (o_lit (cs := [.bool (decide (n ≤ (l.length : Int) - at_))]) (T := 4) (m := 1) rfl rfl rfl rfl (fun _ => by kernel_rfl) (fun b2 => ?_))
    refine e_calm 0 rfl ?_
    refine e_lit boolTy [decide (n ≤ (l.length : Int) - at_)] 0 rfl rfl (by simp) ?_
    refine st rfl (o_call [0] [0] (must1_ b A c l (.nilIface : Value) (some ⟨b2, 0, none⟩) 1 (n ≤ (l.length : Int) - at_)) rfl rfl rfl rfl rfl rfl (fun v L' I' hq3 => ?_))
    rcases hq3 with ⟨h3, rfl, rfl, rfl⟩ | ⟨h4, rfl, rfl, rfl⟩
    ·
      refine s_nil ?_
      refine q_then ?_
      refine c_seq ?_
      refine c_region ?_
      refine st rfl (o_y (v := .pointer (some ⟨b, 0, none⟩)) (y_mv rfl) rfl rfl rfl ?_)
      refine st rfl (o_y (v := .pointer (some ⟨b, 0, none⟩)) (y_k rfl rfl (fun _ => by kernel_rfl)) rfl rfl rfl ?_)
      refine st rfl (o_y (v := .pointer (some ⟨b, 1, none⟩)) (y_k rfl rfl (fun _ => by kernel_rfl)) rfl rfl rfl ?_)
      refine st rfl (o_ld 0 rfl rfl rfl Tryd.underlying42 rfl rfl ?_)
      refine st rfl (o_y (v := .bool false) (y_k rfl rfl (fun _ => by kernel_rfl)) rfl rfl rfl ?_)
      refine s_nil ?_
      refine q_then ?_
      refine c_false rfl ?_
      refine c_skip ?_
      refine q_then ?_
      refine c_draw (l := ticked 22 0) [(⟨b, 0, none⟩, .slice A l.length c)] [21] (by kernel_rfl) rfl rfl ?_
      refine a_y (i := 0) (v := .pointer (some ⟨b, 0, none⟩)) (ticked 22 1) rfl (by as_aux_lemma => kernel_rfl) rfl rfl rfl (by exact y_mv rfl) ?_
      refine a_y (i := 1) (v := .pointer (some ⟨b, 0, none⟩)) (ticked 22 3) rfl (by as_aux_lemma => kernel_rfl) rfl rfl rfl (by exact y_mv rfl) ?_
      refine a_y (i := 2) (v := .pointer (some ⟨b, 0, none⟩)) (ticked 22 7) rfl (by as_aux_lemma => kernel_rfl) rfl rfl rfl (by exact y_k rfl rfl (fun _ => by kernel_rfl)) ?_
      refine a_y (i := 3) (v := .pointer (some ⟨b, 0, none⟩)) (ticked 22 15) rfl (by as_aux_lemma => kernel_rfl) rfl rfl rfl (by exact y_k rfl rfl (fun _ => by kernel_rfl)) ?_
      refine a_y (i := 4) (v := .pointer (some ⟨b, 0, none⟩)) (ticked 22 31) rfl (by as_aux_lemma => kernel_rfl) rfl rfl rfl (by exact y_k rfl rfl (fun _ => by kernel_rfl)) ?_
      refine a_y (i := 6) (v := .int .i64 at_) (ticked 22 95) rfl (by as_aux_lemma => kernel_rfl) rfl rfl rfl (by exact y_mv rfl) ?_
      refine a_y (i := 7) (v := .int .i64 at_) (ticked 22 223) rfl (by as_aux_lemma => kernel_rfl) rfl rfl rfl (by exact y_mv rfl) ?_
      refine a_y (i := 9) (v := .string t) (ticked 22 735) rfl (by as_aux_lemma => kernel_rfl) rfl rfl rfl (by exact y_mv rfl) ?_
      refine a_y (i := 11) (v := .pointer (some ⟨b, 0, none⟩)) (ticked 22 2783) rfl (by as_aux_lemma => kernel_rfl) rfl rfl rfl (by exact y_mv rfl) ?_
      refine a_y (i := 12) (v := .pointer (some ⟨b, 0, none⟩)) (ticked 22 6879) rfl (by as_aux_lemma => kernel_rfl) rfl rfl rfl (by exact y_k rfl rfl (fun _ => by kernel_rfl)) ?_
      refine a_y (i := 13) (v := .pointer (some ⟨b, 0, none⟩)) (ticked 22 15071) rfl (by as_aux_lemma => kernel_rfl) rfl rfl rfl (by exact y_k rfl rfl (fun _ => by kernel_rfl)) ?_
      refine a_y (i := 14) (v := .pointer (some ⟨b, 0, none⟩)) (ticked 22 31455) rfl (by as_aux_lemma => kernel_rfl) rfl rfl rfl (by exact y_k rfl rfl (fun _ => by kernel_rfl)) ?_
      refine a_y (i := 16) (v := .int .i64 at_) (ticked 22 96991) rfl (by as_aux_lemma => kernel_rfl) rfl rfl rfl (by exact y_mv rfl) ?_
      refine a_y (i := 17) (v := .int .i64 n) (ticked 22 228063) rfl (by as_aux_lemma => kernel_rfl) rfl rfl rfl (by exact y_mv rfl) ?_
      refine a_y (i := 18) (v := .int .i64 (at_ + n)) (ticked 22 490207) rfl (by as_aux_lemma => kernel_rfl) rfl rfl rfl (by exact y_add (r := at_ + n) rfl rfl rfl (by omega)) ?_
      refine a_held (i := 5) (ticked 22 490239) rfl (by as_aux_lemma => kernel_rfl) rfl rfl rfl (held_pt 0 rfl rfl held_nil) (h_ld 0 rfl rfl Tryd.underlying38 rfl) ?_
      refine e_len 4 rfl (fun h5 h6 => ?_)
      refine e_cut2 (l2 := l.take ((at_).toNat)) 4 0 ((at_).toNat) ((at_).toNat) (by simp) rfl (by omega) (by omega) (by omega) ?_
      refine a_y (i := 8) (v := .slice (cutA u8Ty A 0 ((at_).toNat)) (l.take ((at_).toNat)).length ((at_).toNat - 0)) (ticked 22 490495) rfl (by as_aux_lemma => kernel_rfl) rfl rfl rfl (by exact y_cut (d := u8Ty) (l := l) (l2 := l.take ((at_).toNat)) 0 ((at_).toNat) ((at_).toNat) (by simp) rfl rfl .no (.at ((at_).toNat) rfl (by omega)) (.at ((at_).toNat) rfl (by omega)) (by simp) Tryd.underlying38 (by kernel_rfl) (by kernel_rfl) (by omega) (by omega) (by omega) (by omega)) ?_
      refine a_held (i := 15) (ticked 22 523263) rfl (by as_aux_lemma => kernel_rfl) rfl rfl rfl (held_pt 0 rfl rfl held_nil) (h_ld 0 rfl rfl Tryd.underlying38 rfl) ?_
      refine e_len 5 rfl (fun h7 h8 => ?_)
      refine e_cut2 (l2 := l.drop ((at_ + n).toNat)) 5 ((at_ + n).toNat) l.length c (by simp) rfl (by omega) (by omega) (by omega) ?_
      refine a_y (i := 19) (v := .slice (cutA u8Ty A ((at_ + n).toNat) c) (l.drop ((at_ + n).toNat)).length (c - ((at_ + n).toNat))) (ticked 22 1047551) rfl (by as_aux_lemma => kernel_rfl) rfl rfl rfl (by exact y_cut (d := u8Ty) (l := l) (l2 := l.drop ((at_ + n).toNat)) ((at_ + n).toNat) l.length c (by simp) rfl rfl (.at ((at_ + n).toNat) rfl (by omega)) .no .no (by simp) Tryd.underlying38 (by kernel_rfl) (by kernel_rfl) (by omega) (by omega) (by omega) (by omega)) ?_
      refine a_each (rs := [10]) (by as_aux_lemma => kernel_rfl) (.cons (ticked 22 1048575) rfl rfl rfl (o_s2b rfl Tryd.underlying9 Tryd.underlying38 Tryd.underlying5 rfl (by rw [len_bytes]; omega) (fun A1 c1 => ?_)) .nil) (List.cons_ne_nil _ _)
      refine a_and (held_pt 0 rfl rfl held_nil) ?_
      refine a_each (rs := [20]) (by as_aux_lemma => kernel_rfl) (.cons (ticked 22 2097151) rfl rfl rfl (o_lit (cs := [.slice (cutA u8Ty A 0 ((at_).toNat)) (l.take ((at_).toNat)).length ((at_).toNat - 0), .slice A1 t.data.toList.length c1, .slice (cutA u8Ty A ((at_ + n).toNat) c) (l.drop ((at_ + n).toNat)).length (c - ((at_ + n).toNat))]) (T := 38) (m := 3) rfl rfl rfl rfl (fun _ => by kernel_rfl) (fun b3 => ?_)) .nil) (List.cons_ne_nil _ _)
      refine a_and (held_pt 1 rfl rfl held_nil) ?_
      refine e_mk0 ?_
      refine e_mk1 2 0 rfl rfl ?_
      refine e_mk1 2 0 rfl rfl ?_
      refine e_mk1 5 0 rfl rfl ?_
      refine e_calm 0 rfl ?_
      refine e_lit partTy [(⟨cutA u8Ty A 0 ((at_).toNat), (at_).toNat - 0, l.take ((at_).toNat)⟩ : Part), (⟨A1, c1, t.data.toList⟩ : Part), (⟨cutA u8Ty A ((at_ + n).toNat) c, c - ((at_ + n).toNat), l.drop ((at_ + n).toNat)⟩ : Part)] 0 rfl rfl (by simp) ?_
      refine a_each (rs := [21]) (by as_aux_lemma => kernel_rfl) (.last (ticked 22 4194303) rfl rfl rfl rfl (o_call [0] [0, 2] (set_ b A c l (some ⟨b3, 0, none⟩) 3 [(⟨cutA u8Ty A 0 ((at_).toNat), (at_).toNat - 0, l.take ((at_).toNat)⟩ : Part), (⟨A1, c1, t.data.toList⟩ : Part), (⟨cutA u8Ty A ((at_ + n).toNat) c, c - ((at_ + n).toNat), l.drop ((at_ + n).toNat)⟩ : Part)] (by first | assumption | omega | (rw [spl_sum (by omega) (by omega), len_bytes]; omega) | (simp [sumL]; omega)) (by first | assumption | omega | (simp; done))) rfl rfl rfl rfl rfl rfl (fun v L' I' hq4 => ?_)) .nil) (List.cons_ne_nil _ _)
      rcases hq4 with ⟨A2, c2, h9, rfl, rfl, rfl⟩ | ⟨A3, c3, l1, h10, rfl, rfl, rfl⟩
      ·
        refine a_done (by as_aux_lemma => kernel_rfl) ?_
        rw [spl_cat]
        refine c_fin_end (I' := []) [0, 0] [13] rfl .nil rfl rfl rfl ?_
        exact .inl ⟨A2, c2, by have q := (by assumption : sumL [_, _, _] ≤ 1000); rw [spl_sum (by omega) (by omega), len_bytes] at q; omega, rfl, rfl, rfl⟩
      ·
        refine a_done (by as_aux_lemma => kernel_rfl) ?_
        refine c_fin_end (I' := []) [0] [13] rfl .nil rfl rfl rfl ?_
        exact .inr ⟨A3, c3, l1, by first | omega | (have q := (by assumption : ¬ sumL [_, _, _] ≤ 1000); rw [spl_sum (by omega) (by omega), len_bytes] at q; omega), rfl, rfl, rfl⟩
    ·
      refine s_nil ?_
      refine q_then ?_
      refine c_seq ?_
      refine c_region ?_
      refine st rfl (o_y (v := .pointer (some ⟨b, 0, none⟩)) (y_mv rfl) rfl rfl rfl ?_)
      refine st rfl (o_y (v := .pointer (some ⟨b, 0, none⟩)) (y_k rfl rfl (fun _ => by kernel_rfl)) rfl rfl rfl ?_)
      refine st rfl (o_y (v := .pointer (some ⟨b, 1, none⟩)) (y_k rfl rfl (fun _ => by kernel_rfl)) rfl rfl rfl ?_)
      refine st rfl (o_ld 0 rfl rfl rfl Tryd.underlying42 rfl rfl ?_)
      refine st rfl (o_y (v := .bool true) (y_k rfl rfl (fun _ => by kernel_rfl)) rfl rfl rfl ?_)
      refine s_nil ?_
      refine q_then ?_
      refine c_true rfl ?_
      refine c_ret ?_
      refine q_then_ret ?_
      refine c_fin (I' := []) [0] [4] rfl .nil rfl rfl rfl ?_
      exact .inr ⟨A, c, l, by first | omega | (have q := (by assumption : ¬ sumL [_, _, _] ≤ 1000); rw [spl_sum (by omega) (by omega), len_bytes] at q; omega), rfl, rfl, rfl⟩
  ·
    refine s_nil ?_
    refine q_then ?_
    refine c_seq ?_
    refine c_region ?_
    refine st rfl (o_y (v := .pointer (some ⟨b, 0, none⟩)) (y_mv rfl) rfl rfl rfl ?_)
    refine st rfl (o_y (v := .pointer (some ⟨b, 0, none⟩)) (y_k rfl rfl (fun _ => by kernel_rfl)) rfl rfl rfl ?_)
    refine st rfl (o_y (v := .pointer (some ⟨b, 1, none⟩)) (y_k rfl rfl (fun _ => by kernel_rfl)) rfl rfl rfl ?_)
    refine st rfl (o_ld 0 rfl rfl rfl Tryd.underlying42 rfl rfl ?_)
    refine st rfl (o_y (v := .bool true) (y_k rfl rfl (fun _ => by kernel_rfl)) rfl rfl rfl ?_)
    refine s_nil ?_
    refine q_then ?_
    refine c_true rfl ?_
    refine c_ret ?_
    refine q_then_ret ?_
    refine c_fin (I' := []) [0] [2] rfl .nil rfl rfl rfl ?_
    exact .inr ⟨A, c, l, by first | omega | (have q := (by assumption : ¬ sumL [_, _, _] ≤ 1000); rw [spl_sum (by omega) (by omega), len_bytes] at q; omega), rfl, rfl, rfl⟩
end Go.Proofs.YthjcekfehicjhabDoor
