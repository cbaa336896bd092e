/- Contracts of package ring, its reference and its laws, walked over the given program; no condition but what stands in each: part X. -/
import Derived.Test.YtjcjbdhkajiaeaaDoorRP
import Derived.Test.YtjcjbdhkajiaeaaDoorSlW
import Derived.Test.YtjcjbdhkajiaeaaDoorCards
import Derived.Test.YtjcjbdhkajiaeaaDoorTie
import Derived.SevenTiedAt
set_option linter.unusedVariables false
set_option linter.unusedSimpArgs false
set_option maxRecDepth 100000
namespace Go.Proofs.YtjcjbdhkajiaeaaDoor
open Go Go.Sl Go.RowKit Go.Extern.Stop Go.Stop Go.Extern

theorem right_nil {max : Int} (h : 0 ≤ max ∧ max ≤ 2000) : right max [] := ⟨h, (fun s hs => by cases hs), (by simp only [takesN]; omega)⟩
theorem right_00 : right 0 [] := right_nil ⟨by decide, by decide⟩
theorem right_dropk {max : Int} : ∀ {l : List ByteArray} {k : Nat}, right max l → right max (l.drop k)
  | l, 0, h => by simpa using h
  | [], k + 1, h => by simpa using h
  | s :: r, k + 1, h => by simpa using right_dropk (k := k) (right_drop h)
theorem putF_e {max : Int} {l : List ByteArray} {s : ByteArray} (h : ¬ (putF max l s).2.2 = 0) : (putF max l s).1 = 0 ∧ (putF max l s).2.1 = [] := by
  rcases putF_cases max l s with ⟨q1, q2⟩ | ⟨q1, q2, q3⟩ | ⟨q1, q2, q3, q4, q5, q6⟩ | ⟨q1, q2, q3, q4⟩
  · rw [q2]; exact ⟨rfl, rfl⟩
  · rw [q3]; exact ⟨rfl, rfl⟩
  · rw [q4] at h; exact absurd rfl h
  · rw [q4]; exact ⟨rfl, rfl⟩
theorem takeF_e {max : Int} {l : List ByteArray} (h : ¬ (takeF max l).2.2.2 = 0) : (takeF max l).2.1 = 0 ∧ (takeF max l).2.2.1 = [] := by
  unfold takeF at *
  split
  · rename_i hr
    rw [if_pos hr] at h
    cases l with
    | nil => exact ⟨rfl, rfl⟩
    | cons s r => exact absurd rfl h
  · exact ⟨rfl, rfl⟩
theorem takeF_0 {max : Int} {l : List ByteArray} (h : (takeF max l).2.2.2 = 0) : ∃ s r, l = s :: r ∧ right max l ∧ takeF max l = (s, max, r, 0) := by
  by_cases hr : right max l
  · cases l with
    | nil => rw [takeF_nil hr rfl] at h; cases h
    | cons s r => exact ⟨s, r, rfl, hr, takeF_ok hr rfl⟩
  · rw [takeF_no hr] at h; cases h
theorem putF_empty (s : ByteArray) : ¬ (putF 0 [] s).2.2 = 0 := by
  rcases putF_cases 0 [] s with ⟨q1, q2⟩ | ⟨q1, q2, q3⟩ | ⟨q1, q2, q3, q4, q5, q6⟩ | ⟨q1, q2, q3, q4⟩
  · rw [q2]; decide
  · rw [q3]; decide
  · omega
  · rw [q4]; decide
theorem turns (max : Int) (l : List ByteArray) (s : ByteArray) :
    (¬ (putF max l s).2.2 = 0 → ¬ (takeF (putF max l s).1 (putF max l s).2.1).2.2.2 = 0) ∧ (¬ (takeF max l).2.2.2 = 0 → ¬ (putF (takeF max l).2.1 (takeF max l).2.2.1 s).2.2 = 0) ∧
    ((putF max l s).2.2 = 0 → (takeF max l).2.2.2 = 0 → (takeF (putF max l s).1 (putF max l s).2.1).2.2.2 = 0 ∧ (putF (takeF max l).2.1 (takeF max l).2.2.1 s).2.2 = 0 ∧
      (takeF (putF max l s).1 (putF max l s).2.1).1 = (takeF max l).1 ∧ ((takeF (putF max l s).1 (putF max l s).2.1).2.1 = (putF (takeF max l).2.1 (takeF max l).2.2.1 s).1 ∧ (takeF (putF max l s).1 (putF max l s).2.1).2.2.1 = (putF (takeF max l).2.1 (takeF max l).2.2.1 s).2.1)) := by
  refine ⟨fun h => ?_, fun h => ?_, fun h1 h2 => ?_⟩
  · obtain ⟨e1, e2⟩ := putF_e h
    rw [e1, e2, takeF_nil right_00 rfl]; decide
  · obtain ⟨e1, e2⟩ := takeF_e h
    rw [e1, e2]; exact putF_empty s
  · obtain ⟨t, r, rfl, hr, e⟩ := takeF_0 h2
    obtain ⟨⟨hs, hf⟩, ep⟩ := putF_0 hr h1
    have hr2 : right max (t :: r ++ [s]) := right_add hr hs hf
    have e3 : takeF max (t :: r ++ [s]) = (t, max, r ++ [s], 0) := takeF_ok hr2 rfl
    have hrr := right_drop hr
    have hf2 : (takesN r : Int) + s.size + 1 ≤ max := by simp only [takesN] at hf; omega
    have e4 : putF max r s = (max, r ++ [s], 0) := putF_fit hrr (by omega) (by omega)
    rw [ep, e]
    simp only [e3, e4, and_self]
set_option maxHeartbeats 1000000 in
theorem RingTurns_ (A : Option Addr) (c : Nat) (l : List ByteArray) (max : Int) (item : ByteArray) (ea : Addr) (ef : Addr) (ee : Addr) (h12 : ea ≠ ef) (h13 : ea ≠ ee) (h23 : ef ≠ ee) : Con Tryd.prog 7 [.agg #[.int .i64 max, .slice A l.length c], .string item] [] [rd strTy A c l, cellsAt 1 0 [.iface 80 (.pointer (some ea))], cellsAt 2 0 [.iface 80 (.pointer (some ef))], cellsAt 0 0 [.iface 80 (.pointer (some ee))], errAt ea, errAt ef, errAt ee] (fun v L' I' => v = .bool true ∧ L' = [] ∧ I' = []) := by
  refine fn_of Tryd.func7 rfl Tryd.ntmps7 (by kernel_rfl) rfl (fun C => ?_)
  refine c_seq ?_
  refine c_region ?_
  refine st rfl (o_box (cs := [.int .i64 max, .slice A l.length c]) (T := 24) rfl rfl rfl rfl (fun _ => by kernel_rfl) (fun b1 => ?_))
  refine st rfl (o_y (v := .bool false) (y_as rfl) rfl rfl rfl ?_)
  refine s_nil ?_
  refine q_then ?_
  refine c_seq ?_
  refine c_region ?_
  refine st rfl (o_call [] [1, 2, 3, 4, 5, 6] (shown_ ea ef ee (by assumption) (by assumption) (by assumption)) rfl rfl rfl rfl rfl rfl (fun v L' I' hq1 => ?_))
  obtain ⟨rfl, rfl, rfl⟩ := hq1
  refine st rfl (o_y (v := .bool true) (y_as rfl) rfl rfl rfl ?_)
  refine s_nil ?_
  refine q_then ?_
  refine c_seq ?_
  refine c_region ?_
  refine st rfl (o_ldn 0 2 rfl rfl rfl rfl Tryd.underlying24 rfl (by kernel_rfl) (by kernel_rfl) rfl ?_)
  refine st rfl (o_call [] [0] (Few_ A c l max) rfl rfl rfl rfl rfl rfl (fun v L' I' hq2 => ?_))
  obtain ⟨A1, c1, h24, h25, rfl, rfl, rfl⟩ := hq2
  refine st rfl (o_st 1 rfl rfl rfl rfl rfl (by kernel_rfl) (by kernel_rfl) rfl ?_)
  refine s_nil ?_
  refine q_then ?_
  refine c_seq ?_
  refine c_region ?_
  refine st rfl (o_y (v := .string item) (y_mv rfl) rfl rfl rfl ?_)
  refine st rfl (o_call [] [] (cut_ item) rfl rfl rfl rfl rfl rfl (fun v L' I' hq3 => ?_))
  obtain ⟨h26, rfl, rfl, rfl⟩ := hq3
  refine st rfl (o_y (v := .string (cutS item)) (y_as rfl) rfl rfl rfl ?_)
  refine s_nil ?_
  refine q_then ?_
  refine c_seq ?_
  refine c_region ?_
  refine st rfl (o_ldn 1 2 rfl rfl rfl rfl Tryd.underlying24 rfl (by kernel_rfl) (by kernel_rfl) rfl ?_)
  refine st rfl (o_y (v := .string (cutS item)) (y_mv rfl) rfl rfl rfl ?_)
  refine st rfl (o_lend [0] [] [1, 2, 3, 4, 5, 6] (Put_ A1 c1 (fewL l) max (cutS item) ea ef ee (by assumption) (by assumption) (by assumption) (by first | assumption | exact small_put _ _ _ | exact small_take _ _ | exact small_all _ _ _ | exact small_nil | exact small_right (by assumption) | exact small_one (small_at (by assumption) hx1) | exact small_one (by assumption)) (by first | assumption | omega | decide | exact small_at (by assumption) hx1)) (.cons lend_ars .nil) rfl rfl rfl rfl rfl rfl rfl rfl (fun v L' I' hq4 => ?_))
  obtain ⟨A2, c2, rfl, rfl, rfl⟩ := hq4
  refine ⟨rfl, ?_⟩
  refine st rfl (o_y (v := .tuple #[.agg #[.int .i64 ((putF max (fewL l) (cutS item)).1), .slice A2 ((putF max (fewL l) (cutS item)).2.1).length c2], .int .i64 ((putF max (fewL l) (cutS item)).2.2)]) (y_mv rfl) rfl rfl rfl ?_)
  refine st rfl (o_y (v := .agg #[.int .i64 ((putF max (fewL l) (cutS item)).1), .slice A2 ((putF max (fewL l) (cutS item)).2.1).length c2]) (y_k rfl rfl (fun _ => by kernel_rfl)) rfl rfl rfl ?_)
  refine st rfl (o_y (v := .int .i64 ((putF max (fewL l) (cutS item)).2.2)) (y_k rfl rfl (fun _ => by kernel_rfl)) rfl rfl rfl ?_)
  refine st rfl (o_box (cs := [.int .i64 0, .slice none 0 0]) (T := 24) rfl rfl rfl rfl (fun _ => by kernel_rfl) (fun b2 => ?_))
  refine st rfl (o_st 0 rfl rfl rfl rfl rfl (by kernel_rfl) (by kernel_rfl) rfl ?_)
  refine st rfl (o_y (v := .int .i64 ((putF max (fewL l) (cutS item)).2.2)) (y_as rfl) rfl rfl rfl ?_)
  refine s_nil ?_
  refine q_then ?_
  refine c_seq ?_
  refine c_region ?_
  refine st rfl (o_ldn 0 2 rfl rfl rfl rfl Tryd.underlying24 rfl (by kernel_rfl) (by kernel_rfl) rfl ?_)
  refine st rfl (o_lend [1] [] [1, 2, 3, 4, 5, 6] (Take_ A2 c2 ((putF max (fewL l) (cutS item)).2.1) ((putF max (fewL l) (cutS item)).1) ea ef ee (by assumption) (by assumption) (by assumption) (by first | assumption | exact small_put _ _ _ | exact small_take _ _ | exact small_all _ _ _ | exact small_nil | exact small_right (by assumption) | exact small_one (small_at (by assumption) hx1) | exact small_one (by assumption))) (.cons lend_win .nil) rfl rfl rfl rfl rfl rfl rfl rfl (fun v L' I' hq5 => ?_))
  obtain ⟨A3, c3, rfl, rfl, rfl⟩ := hq5
  refine ⟨rfl, ?_⟩
  refine st rfl (o_y (v := .tuple #[.string ((takeF ((putF max (fewL l) (cutS item)).1) ((putF max (fewL l) (cutS item)).2.1)).1), .agg #[.int .i64 ((takeF ((putF max (fewL l) (cutS item)).1) ((putF max (fewL l) (cutS item)).2.1)).2.1), .slice A3 ((takeF ((putF max (fewL l) (cutS item)).1) ((putF max (fewL l) (cutS item)).2.1)).2.2.1).length c3], .int .i64 ((takeF ((putF max (fewL l) (cutS item)).1) ((putF max (fewL l) (cutS item)).2.1)).2.2.2)]) (y_mv rfl) rfl rfl rfl ?_)
  refine st rfl (o_y (v := .string ((takeF ((putF max (fewL l) (cutS item)).1) ((putF max (fewL l) (cutS item)).2.1)).1)) (y_k rfl rfl (fun _ => by kernel_rfl)) rfl rfl rfl ?_)
  refine st rfl (o_y (v := .agg #[.int .i64 ((takeF ((putF max (fewL l) (cutS item)).1) ((putF max (fewL l) (cutS item)).2.1)).2.1), .slice A3 ((takeF ((putF max (fewL l) (cutS item)).1) ((putF max (fewL l) (cutS item)).2.1)).2.2.1).length c3]) (y_k rfl rfl (fun _ => by kernel_rfl)) rfl rfl rfl ?_)
  refine st rfl (o_y (v := .int .i64 ((takeF ((putF max (fewL l) (cutS item)).1) ((putF max (fewL l) (cutS item)).2.1)).2.2.2)) (y_k rfl rfl (fun _ => by kernel_rfl)) rfl rfl rfl ?_)
  refine st rfl (o_box (cs := [.int .i64 0, .slice none 0 0]) (T := 24) rfl rfl rfl rfl (fun _ => by kernel_rfl) (fun b3 => ?_))
  refine st rfl (o_y (v := .string ((takeF ((putF max (fewL l) (cutS item)).1) ((putF max (fewL l) (cutS item)).2.1)).1)) (y_as rfl) rfl rfl rfl ?_)
  refine st rfl (o_st 0 rfl rfl rfl rfl rfl (by kernel_rfl) (by kernel_rfl) rfl ?_)
  refine st rfl (o_y (v := .int .i64 ((takeF ((putF max (fewL l) (cutS item)).1) ((putF max (fewL l) (cutS item)).2.1)).2.2.2)) (y_as rfl) rfl rfl rfl ?_)
  refine s_nil ?_
  refine q_then ?_
  refine c_seq ?_
  refine c_region ?_
  refine st rfl (o_ldn 5 2 rfl rfl rfl rfl Tryd.underlying24 rfl (by kernel_rfl) (by kernel_rfl) rfl ?_)
  refine st rfl (o_lend [4] [] [1, 2, 3, 4, 5, 6] (Take_ A1 c1 (fewL l) max ea ef ee (by assumption) (by assumption) (by assumption) (by first | assumption | exact small_put _ _ _ | exact small_take _ _ | exact small_all _ _ _ | exact small_nil | exact small_right (by assumption) | exact small_one (small_at (by assumption) hx1) | exact small_one (by assumption))) (.cons lend_ars .nil) rfl rfl rfl rfl rfl rfl rfl rfl (fun v L' I' hq6 => ?_))
  obtain ⟨A4, c4, rfl, rfl, rfl⟩ := hq6
  refine ⟨rfl, ?_⟩
  refine st rfl (o_y (v := .tuple #[.string ((takeF max (fewL l)).1), .agg #[.int .i64 ((takeF max (fewL l)).2.1), .slice A4 ((takeF max (fewL l)).2.2.1).length c4], .int .i64 ((takeF max (fewL l)).2.2.2)]) (y_mv rfl) rfl rfl rfl ?_)
  refine st rfl (o_y (v := .string ((takeF max (fewL l)).1)) (y_k rfl rfl (fun _ => by kernel_rfl)) rfl rfl rfl ?_)
  refine st rfl (o_y (v := .agg #[.int .i64 ((takeF max (fewL l)).2.1), .slice A4 ((takeF max (fewL l)).2.2.1).length c4]) (y_k rfl rfl (fun _ => by kernel_rfl)) rfl rfl rfl ?_)
  refine st rfl (o_y (v := .int .i64 ((takeF max (fewL l)).2.2.2)) (y_k rfl rfl (fun _ => by kernel_rfl)) rfl rfl rfl ?_)
  refine st rfl (o_box (cs := [.int .i64 0, .slice none 0 0]) (T := 24) rfl rfl rfl rfl (fun _ => by kernel_rfl) (fun b4 => ?_))
  refine st rfl (o_y (v := .string ((takeF max (fewL l)).1)) (y_as rfl) rfl rfl rfl ?_)
  refine st rfl (o_st 0 rfl rfl rfl rfl rfl (by kernel_rfl) (by kernel_rfl) rfl ?_)
  refine st rfl (o_y (v := .int .i64 ((takeF max (fewL l)).2.2.2)) (y_as rfl) rfl rfl rfl ?_)
  refine s_nil ?_
  refine q_then ?_
  refine c_seq ?_
  refine c_region ?_
  refine st rfl (o_ldn 0 2 rfl rfl rfl rfl Tryd.underlying24 rfl (by kernel_rfl) (by kernel_rfl) rfl ?_)
  refine st rfl (o_y (v := .string (cutS item)) (y_mv rfl) rfl rfl rfl ?_)
  refine st rfl (o_lend [1] [] [1, 2, 3, 4, 5, 6] (Put_ A4 c4 ((takeF max (fewL l)).2.2.1) ((takeF max (fewL l)).2.1) (cutS item) ea ef ee (by assumption) (by assumption) (by assumption) (by first | assumption | exact small_put _ _ _ | exact small_take _ _ | exact small_all _ _ _ | exact small_nil | exact small_right (by assumption) | exact small_one (small_at (by assumption) hx1) | exact small_one (by assumption)) (by first | assumption | omega | decide | exact small_at (by assumption) hx1)) (.cons lend_win .nil) rfl rfl rfl rfl rfl rfl rfl rfl (fun v L' I' hq7 => ?_))
  obtain ⟨A5, c5, rfl, rfl, rfl⟩ := hq7
  refine ⟨rfl, ?_⟩
  refine st rfl (o_y (v := .tuple #[.agg #[.int .i64 ((putF ((takeF max (fewL l)).2.1) ((takeF max (fewL l)).2.2.1) (cutS item)).1), .slice A5 ((putF ((takeF max (fewL l)).2.1) ((takeF max (fewL l)).2.2.1) (cutS item)).2.1).length c5], .int .i64 ((putF ((takeF max (fewL l)).2.1) ((takeF max (fewL l)).2.2.1) (cutS item)).2.2)]) (y_mv rfl) rfl rfl rfl ?_)
  refine st rfl (o_y (v := .agg #[.int .i64 ((putF ((takeF max (fewL l)).2.1) ((takeF max (fewL l)).2.2.1) (cutS item)).1), .slice A5 ((putF ((takeF max (fewL l)).2.1) ((takeF max (fewL l)).2.2.1) (cutS item)).2.1).length c5]) (y_k rfl rfl (fun _ => by kernel_rfl)) rfl rfl rfl ?_)
  refine st rfl (o_y (v := .int .i64 ((putF ((takeF max (fewL l)).2.1) ((takeF max (fewL l)).2.2.1) (cutS item)).2.2)) (y_k rfl rfl (fun _ => by kernel_rfl)) rfl rfl rfl ?_)
  refine st rfl (o_box (cs := [.int .i64 0, .slice none 0 0]) (T := 24) rfl rfl rfl rfl (fun _ => by kernel_rfl) (fun b5 => ?_))
  refine st rfl (o_st 0 rfl rfl rfl rfl rfl (by kernel_rfl) (by kernel_rfl) rfl ?_)
  refine st rfl (o_y (v := .int .i64 ((putF ((takeF max (fewL l)).2.1) ((takeF max (fewL l)).2.2.1) (cutS item)).2.2)) (y_as rfl) rfl rfl rfl ?_)
  refine s_nil ?_
  refine q_then ?_
  refine c_seq ?_
  refine c_seq ?_
  refine c_region ?_
  refine st rfl (o_y (v := .int .i64 ((putF max (fewL l) (cutS item)).2.2)) (y_mv rfl) rfl rfl rfl ?_)
  refine e_by ((putF max (fewL l) (cutS item)).2.2 = 0) (fun h27 => ?_) (fun h27 => ?_)
  ·
    refine st rfl (o_y (v := .bool false) (y_b (y_k (v := .bool (((putF max (fewL l) (cutS item)).2.2) != 0)) rfl rfl (fun _ => by kernel_rfl)) (bne_eq_false_iff_eq.2 h27)) rfl rfl rfl ?_)
    refine st rfl (o_y (v := .bool false) (y_mv rfl) rfl rfl rfl ?_)
    refine st_on 47 rfl rfl rfl (o_y (v := .int .i64 ((takeF max (fewL l)).2.2.2)) (y_mv rfl) rfl rfl rfl ?_)
    refine e_by ((takeF max (fewL l)).2.2.2 = 0) (fun h28 => ?_) (fun h28 => ?_)
    ·
      refine st_on 47 rfl rfl rfl (o_y (v := .bool false) (y_b (y_k (v := .bool (((takeF max (fewL l)).2.2.2) != 0)) rfl rfl (fun _ => by kernel_rfl)) (bne_eq_false_iff_eq.2 h28)) rfl rfl rfl ?_)
      refine st rfl (o_y (v := .bool false) (y_pick rfl rfl) rfl rfl rfl ?_)
      refine s_nil ?_
      refine q_then ?_
      refine c_false rfl ?_
      refine c_skip ?_
      refine q_then ?_
      refine c_seq ?_
      refine c_region ?_
      refine st rfl (o_y (v := .bool true) (y_mv rfl) rfl rfl rfl ?_)
      refine st rfl (o_y (v := .bool true) (y_mv rfl) rfl rfl rfl ?_)
      refine st_on 75 rfl rfl rfl (o_y (v := .int .i64 ((takeF ((putF max (fewL l) (cutS item)).1) ((putF max (fewL l) (cutS item)).2.1)).2.2.2)) (y_mv rfl) rfl rfl rfl ?_)
      refine e_by ((takeF ((putF max (fewL l) (cutS item)).1) ((putF max (fewL l) (cutS item)).2.1)).2.2.2 = 0) (fun h29 => ?_) (fun h29 => ?_)
      ·
        refine st_on 75 rfl rfl rfl (o_y (v := .bool true) (y_b (y_k (v := .bool (((takeF ((putF max (fewL l) (cutS item)).1) ((putF max (fewL l) (cutS item)).2.1)).2.2.2) == 0)) rfl rfl (fun _ => by kernel_rfl)) (beq_iff_eq.2 h29)) rfl rfl rfl ?_)
        refine st rfl (o_y (v := .bool true) (y_pick rfl rfl) rfl rfl rfl ?_)
        refine st rfl (o_y (v := .bool true) (y_mv rfl) rfl rfl rfl ?_)
        refine st_on 79 rfl rfl rfl (o_y (v := .int .i64 ((putF ((takeF max (fewL l)).2.1) ((takeF max (fewL l)).2.2.1) (cutS item)).2.2)) (y_mv rfl) rfl rfl rfl ?_)
        refine e_by ((putF ((takeF max (fewL l)).2.1) ((takeF max (fewL l)).2.2.1) (cutS item)).2.2 = 0) (fun h30 => ?_) (fun h30 => ?_)
        ·
          refine st_on 79 rfl rfl rfl (o_y (v := .bool true) (y_b (y_k (v := .bool (((putF ((takeF max (fewL l)).2.1) ((takeF max (fewL l)).2.2.1) (cutS item)).2.2) == 0)) rfl rfl (fun _ => by kernel_rfl)) (beq_iff_eq.2 h30)) rfl rfl rfl ?_)
          refine st rfl (o_y (v := .bool true) (y_pick rfl rfl) rfl rfl rfl ?_)
          refine st rfl (o_y (v := .bool true) (y_mv rfl) rfl rfl rfl ?_)
          refine st_on 83 rfl rfl rfl (o_y (v := .string ((takeF ((putF max (fewL l) (cutS item)).1) ((putF max (fewL l) (cutS item)).2.1)).1)) (y_mv rfl) rfl rfl rfl ?_)
          refine st_on 83 rfl rfl rfl (o_y (v := .string ((takeF max (fewL l)).1)) (y_mv rfl) rfl rfl rfl ?_)
          refine e_by ((takeF ((putF max (fewL l) (cutS item)).1) ((putF max (fewL l) (cutS item)).2.1)).1 = (takeF max (fewL l)).1) (fun h31 => ?_) (fun h31 => ?_)
          ·
            refine st_on 83 rfl rfl rfl (o_y (v := .bool true) (y_b (y_k (v := .bool (((takeF ((putF max (fewL l) (cutS item)).1) ((putF max (fewL l) (cutS item)).2.1)).1).toList == ((takeF max (fewL l)).1).toList)) rfl rfl (fun _ => by kernel_rfl)) (str_t h31)) rfl rfl rfl ?_)
            refine st rfl (o_y (v := .bool true) (y_pick rfl rfl) rfl rfl rfl ?_)
            refine st rfl (o_y (v := .bool true) (y_mv rfl) rfl rfl rfl ?_)
            refine st_on 88 rfl rfl rfl (o_ldn 5 2 rfl rfl rfl rfl Tryd.underlying24 rfl (by kernel_rfl) (by kernel_rfl) rfl ?_)
            refine st_on 88 rfl rfl rfl (o_ldn 0 2 rfl rfl rfl rfl Tryd.underlying24 rfl (by kernel_rfl) (by kernel_rfl) rfl ?_)
            refine st_on 88 rfl rfl rfl (o_lend [6, 1] [] [] (Same_ A3 c3 ((takeF ((putF max (fewL l) (cutS item)).1) ((putF max (fewL l) (cutS item)).2.1)).2.2.1) A5 c5 ((putF ((takeF max (fewL l)).2.1) ((takeF max (fewL l)).2.2.1) (cutS item)).2.1) ((takeF ((putF max (fewL l) (cutS item)).1) ((putF max (fewL l) (cutS item)).2.1)).2.1) ((putF ((takeF max (fewL l)).2.1) ((takeF max (fewL l)).2.2.1) (cutS item)).1) (by first | assumption | exact small_put _ _ _ | exact small_take _ _ | exact small_all _ _ _ | exact small_nil | exact small_right (by assumption) | exact small_one (small_at (by assumption) hx1) | exact small_one (by assumption))) (.cons lend_win (.cons lend_win .nil)) rfl rfl rfl rfl rfl rfl rfl rfl (fun v L' I' hq8 => ?_))
            obtain ⟨hv1, rfl, rfl⟩ := hq8
            refine ⟨rfl, ?_⟩
            refine e_by (((takeF ((putF max (fewL l) (cutS item)).1) ((putF max (fewL l) (cutS item)).2.1)).2.1) = ((putF ((takeF max (fewL l)).2.1) ((takeF max (fewL l)).2.2.1) (cutS item)).1) ∧ ((takeF ((putF max (fewL l) (cutS item)).1) ((putF max (fewL l) (cutS item)).2.1)).2.2.1) = ((putF ((takeF max (fewL l)).2.1) ((takeF max (fewL l)).2.2.1) (cutS item)).2.1)) (fun h32 => ?_) (fun h32 => ?_)
            ·
              obtain rfl : v = .bool true := by rw [hv1, decide_eq_true h32]
              refine st rfl (o_y (v := .bool true) (y_pick rfl rfl) rfl rfl rfl ?_)
              refine st rfl (o_y (v := .bool true) (y_as rfl) rfl rfl rfl ?_)
              refine s_nil ?_
              refine q_then ?_
              refine c_ret ?_
              refine c_fin (I' := []) [] [0, 1, 2, 3, 4, 5, 6] rfl (.tmp rfl .nil) rfl rfl rfl ?_
              exact ⟨rfl, rfl, rfl⟩
            ·
              obtain rfl : v = .bool false := by rw [hv1, decide_eq_false h32]
              refine st rfl (o_y (v := .bool false) (y_pick rfl rfl) rfl rfl rfl ?_)
              refine st rfl (o_y (v := .bool false) (y_as rfl) rfl rfl rfl ?_)
              refine s_nil ?_
              refine q_then ?_
              refine c_ret ?_
              refine c_fin (I' := []) [] [0, 1, 2, 3, 4, 5, 6] rfl (.tmp rfl .nil) rfl rfl rfl ?_
              exact ⟨by exfalso; obtain ⟨t1, t2, t3⟩ := turns max (fewL l) (cutS item); simp_all, rfl, rfl⟩
          ·
            refine st_on 83 rfl rfl rfl (o_y (v := .bool false) (y_b (y_k (v := .bool (((takeF ((putF max (fewL l) (cutS item)).1) ((putF max (fewL l) (cutS item)).2.1)).1).toList == ((takeF max (fewL l)).1).toList)) rfl rfl (fun _ => by kernel_rfl)) (str_f h31)) rfl rfl rfl ?_)
            refine st rfl (o_y (v := .bool false) (y_pick rfl rfl) rfl rfl rfl ?_)
            refine st rfl (o_y (v := .bool false) (y_mv rfl) rfl rfl rfl ?_)
            refine st_off 88 rfl rfl rfl rfl rfl rfl ?_
            refine st_off 88 rfl rfl rfl rfl rfl rfl ?_
            refine st_off 88 rfl rfl rfl rfl rfl rfl ?_
            refine st rfl (o_y (v := .bool false) (y_pick rfl rfl) rfl rfl rfl ?_)
            refine st rfl (o_y (v := .bool false) (y_as rfl) rfl rfl rfl ?_)
            refine s_nil ?_
            refine q_then ?_
            refine c_ret ?_
            refine c_fin (I' := []) [] [0, 1, 2, 3, 4, 5, 6] rfl (.tmp rfl .nil) rfl rfl rfl ?_
            exact ⟨by exfalso; obtain ⟨t1, t2, t3⟩ := turns max (fewL l) (cutS item); simp_all, rfl, rfl⟩
        ·
          refine st_on 79 rfl rfl rfl (o_y (v := .bool false) (y_b (y_k (v := .bool (((putF ((takeF max (fewL l)).2.1) ((takeF max (fewL l)).2.2.1) (cutS item)).2.2) == 0)) rfl rfl (fun _ => by kernel_rfl)) (beq_eq_false_iff_ne.2 h30)) rfl rfl rfl ?_)
          refine st rfl (o_y (v := .bool false) (y_pick rfl rfl) rfl rfl rfl ?_)
          refine st rfl (o_y (v := .bool false) (y_mv rfl) rfl rfl rfl ?_)
          refine st_off 83 rfl rfl rfl rfl rfl rfl ?_
          refine st_off 83 rfl rfl rfl rfl rfl rfl ?_
          refine st_off 83 rfl rfl rfl rfl rfl rfl ?_
          refine st rfl (o_y (v := .bool false) (y_pick rfl rfl) rfl rfl rfl ?_)
          refine st rfl (o_y (v := .bool false) (y_mv rfl) rfl rfl rfl ?_)
          refine st_off 88 rfl rfl rfl rfl rfl rfl ?_
          refine st_off 88 rfl rfl rfl rfl rfl rfl ?_
          refine st_off 88 rfl rfl rfl rfl rfl rfl ?_
          refine st rfl (o_y (v := .bool false) (y_pick rfl rfl) rfl rfl rfl ?_)
          refine st rfl (o_y (v := .bool false) (y_as rfl) rfl rfl rfl ?_)
          refine s_nil ?_
          refine q_then ?_
          refine c_ret ?_
          refine c_fin (I' := []) [] [0, 1, 2, 3, 4, 5, 6] rfl (.tmp rfl .nil) rfl rfl rfl ?_
          exact ⟨by exfalso; obtain ⟨t1, t2, t3⟩ := turns max (fewL l) (cutS item); simp_all, rfl, rfl⟩
      ·
        refine st_on 75 rfl rfl rfl (o_y (v := .bool false) (y_b (y_k (v := .bool (((takeF ((putF max (fewL l) (cutS item)).1) ((putF max (fewL l) (cutS item)).2.1)).2.2.2) == 0)) rfl rfl (fun _ => by kernel_rfl)) (beq_eq_false_iff_ne.2 h29)) rfl rfl rfl ?_)
        refine st rfl (o_y (v := .bool false) (y_pick rfl rfl) rfl rfl rfl ?_)
        refine st rfl (o_y (v := .bool false) (y_mv rfl) rfl rfl rfl ?_)
        refine st_off 79 rfl rfl rfl rfl rfl rfl ?_
        refine st_off 79 rfl rfl rfl rfl rfl rfl ?_
        refine st rfl (o_y (v := .bool false) (y_pick rfl rfl) rfl rfl rfl ?_)
        refine st rfl (o_y (v := .bool false) (y_mv rfl) rfl rfl rfl ?_)
        refine st_off 83 rfl rfl rfl rfl rfl rfl ?_
        refine st_off 83 rfl rfl rfl rfl rfl rfl ?_
        refine st_off 83 rfl rfl rfl rfl rfl rfl ?_
        refine st rfl (o_y (v := .bool false) (y_pick rfl rfl) rfl rfl rfl ?_)
        refine st rfl (o_y (v := .bool false) (y_mv rfl) rfl rfl rfl ?_)
        refine st_off 88 rfl rfl rfl rfl rfl rfl ?_
        refine st_off 88 rfl rfl rfl rfl rfl rfl ?_
        refine st_off 88 rfl rfl rfl rfl rfl rfl ?_
        refine st rfl (o_y (v := .bool false) (y_pick rfl rfl) rfl rfl rfl ?_)
        refine st rfl (o_y (v := .bool false) (y_as rfl) rfl rfl rfl ?_)
        refine s_nil ?_
        refine q_then ?_
        refine c_ret ?_
        refine c_fin (I' := []) [] [0, 1, 2, 3, 4, 5, 6] rfl (.tmp rfl .nil) rfl rfl rfl ?_
        exact ⟨by exfalso; obtain ⟨t1, t2, t3⟩ := turns max (fewL l) (cutS item); simp_all, rfl, rfl⟩
    ·
      refine st_on 47 rfl rfl rfl (o_y (v := .bool true) (y_b (y_k (v := .bool (((takeF max (fewL l)).2.2.2) != 0)) rfl rfl (fun _ => by kernel_rfl)) (bne_iff_ne.2 h28)) rfl rfl rfl ?_)
      refine st rfl (o_y (v := .bool true) (y_pick rfl rfl) rfl rfl rfl ?_)
      refine s_nil ?_
      refine q_then ?_
      refine c_true rfl ?_
      refine c_seq ?_
      refine c_region ?_
      refine st rfl (o_y (v := .bool true) (y_mv rfl) rfl rfl rfl ?_)
      refine st rfl (o_y (v := .bool true) (y_mv rfl) rfl rfl rfl ?_)
      refine st_on 52 rfl rfl rfl (o_y (v := .int .i64 ((putF max (fewL l) (cutS item)).2.2)) (y_mv rfl) rfl rfl rfl ?_)
      have h33 : (putF max (fewL l) (cutS item)).2.2 = 0 := h27
      refine st_on 52 rfl rfl rfl (o_y (v := .bool true) (y_b (y_k (v := .bool (((putF max (fewL l) (cutS item)).2.2) == 0)) rfl rfl (fun _ => by kernel_rfl)) (beq_iff_eq.2 h33)) rfl rfl rfl ?_)
      refine st_on 52 rfl rfl rfl (o_y (v := .bool true) (y_mv rfl) rfl rfl rfl ?_)
      refine st_off 55 rfl rfl rfl rfl rfl rfl ?_
      refine st_off 55 rfl rfl rfl rfl rfl rfl ?_
      refine st_on 52 rfl rfl rfl (o_y (v := .bool true) (y_pick rfl rfl) rfl rfl rfl ?_)
      refine st rfl (o_y (v := .bool true) (y_pick rfl rfl) rfl rfl rfl ?_)
      refine st rfl (o_y (v := .bool true) (y_mv rfl) rfl rfl rfl ?_)
      refine st_on 60 rfl rfl rfl (o_y (v := .int .i64 ((takeF max (fewL l)).2.2.2)) (y_mv rfl) rfl rfl rfl ?_)
      have h34 : ¬ ((takeF max (fewL l)).2.2.2 = 0) := h28
      refine st_on 60 rfl rfl rfl (o_y (v := .bool false) (y_b (y_k (v := .bool (((takeF max (fewL l)).2.2.2) == 0)) rfl rfl (fun _ => by kernel_rfl)) (beq_eq_false_iff_ne.2 h34)) rfl rfl rfl ?_)
      refine st_on 60 rfl rfl rfl (o_y (v := .bool false) (y_mv rfl) rfl rfl rfl ?_)
      refine st_on 63 rfl rfl rfl (o_y (v := .int .i64 ((putF ((takeF max (fewL l)).2.1) ((takeF max (fewL l)).2.2.1) (cutS item)).2.2)) (y_mv rfl) rfl rfl rfl ?_)
      refine e_by ((putF ((takeF max (fewL l)).2.1) ((takeF max (fewL l)).2.2.1) (cutS item)).2.2 = 0) (fun h35 => ?_) (fun h35 => ?_)
      ·
        refine st_on 63 rfl rfl rfl (o_y (v := .bool false) (y_b (y_k (v := .bool (((putF ((takeF max (fewL l)).2.1) ((takeF max (fewL l)).2.2.1) (cutS item)).2.2) != 0)) rfl rfl (fun _ => by kernel_rfl)) (bne_eq_false_iff_eq.2 h35)) rfl rfl rfl ?_)
        refine st_on 60 rfl rfl rfl (o_y (v := .bool false) (y_pick rfl rfl) rfl rfl rfl ?_)
        refine st_on 60 rfl rfl rfl (o_y (v := .bool false) (y_mv rfl) rfl rfl rfl ?_)
        refine st_on 67 rfl rfl rfl (o_y (v := .pointer (some ⟨b1, 1, none⟩)) (y_k rfl rfl (fun _ => by kernel_rfl)) rfl rfl rfl ?_)
        refine st_on 67 rfl rfl rfl (o_ld 9 rfl rfl rfl Tryd.underlying22 rfl rfl ?_)
        refine st_on 67 rfl rfl rfl (o_y (v := .int .i64 ((fewL l).length : Int)) (y_k rfl rfl (fun _ => by kernel_rfl)) rfl rfl rfl ?_)
        refine e_by (((fewL l).length : Int) = 0) (fun h36 => ?_) (fun h36 => ?_)
        ·
          refine st_on 67 rfl rfl rfl (o_y (v := .bool true) (y_b (y_k (v := .bool (((fewL l).length : Int) == 0)) rfl rfl (fun _ => by kernel_rfl)) (beq_iff_eq.2 h36)) rfl rfl rfl ?_)
          refine st_on 60 rfl rfl rfl (o_y (v := .bool true) (y_pick rfl rfl) rfl rfl rfl ?_)
          refine st rfl (o_y (v := .bool true) (y_pick rfl rfl) rfl rfl rfl ?_)
          refine st rfl (o_y (v := .bool true) (y_as rfl) rfl rfl rfl ?_)
          refine s_nil ?_
          refine q_then ?_
          refine c_ret ?_
          refine q_then_ret ?_
          refine c_fin (I' := []) [] [0, 1, 2, 3, 4, 5, 6] rfl (.tmp rfl .nil) rfl rfl rfl ?_
          exact ⟨rfl, rfl, rfl⟩
        ·
          refine st_on 67 rfl rfl rfl (o_y (v := .bool false) (y_b (y_k (v := .bool (((fewL l).length : Int) == 0)) rfl rfl (fun _ => by kernel_rfl)) (beq_eq_false_iff_ne.2 h36)) rfl rfl rfl ?_)
          refine st_on 60 rfl rfl rfl (o_y (v := .bool false) (y_pick rfl rfl) rfl rfl rfl ?_)
          refine st rfl (o_y (v := .bool false) (y_pick rfl rfl) rfl rfl rfl ?_)
          refine st rfl (o_y (v := .bool false) (y_as rfl) rfl rfl rfl ?_)
          refine s_nil ?_
          refine q_then ?_
          refine c_ret ?_
          refine q_then_ret ?_
          refine c_fin (I' := []) [] [0, 1, 2, 3, 4, 5, 6] rfl (.tmp rfl .nil) rfl rfl rfl ?_
          exact ⟨by exfalso; obtain ⟨t1, t2, t3⟩ := turns max (fewL l) (cutS item); simp_all, rfl, rfl⟩
      ·
        refine st_on 63 rfl rfl rfl (o_y (v := .bool true) (y_b (y_k (v := .bool (((putF ((takeF max (fewL l)).2.1) ((takeF max (fewL l)).2.2.1) (cutS item)).2.2) != 0)) rfl rfl (fun _ => by kernel_rfl)) (bne_iff_ne.2 h35)) rfl rfl rfl ?_)
        refine st_on 60 rfl rfl rfl (o_y (v := .bool true) (y_pick rfl rfl) rfl rfl rfl ?_)
        refine st_on 60 rfl rfl rfl (o_y (v := .bool true) (y_mv rfl) rfl rfl rfl ?_)
        refine st_off 67 rfl rfl rfl rfl rfl rfl ?_
        refine st_off 67 rfl rfl rfl rfl rfl rfl ?_
        refine st_off 67 rfl rfl rfl rfl rfl rfl ?_
        refine st_off 67 rfl rfl rfl rfl rfl rfl ?_
        refine st_on 60 rfl rfl rfl (o_y (v := .bool true) (y_pick rfl rfl) rfl rfl rfl ?_)
        refine st rfl (o_y (v := .bool true) (y_pick rfl rfl) rfl rfl rfl ?_)
        refine st rfl (o_y (v := .bool true) (y_as rfl) rfl rfl rfl ?_)
        refine s_nil ?_
        refine q_then ?_
        refine c_ret ?_
        refine q_then_ret ?_
        refine c_fin (I' := []) [] [0, 1, 2, 3, 4, 5, 6] rfl (.tmp rfl .nil) rfl rfl rfl ?_
        exact ⟨rfl, rfl, rfl⟩
  ·
    refine st rfl (o_y (v := .bool true) (y_b (y_k (v := .bool (((putF max (fewL l) (cutS item)).2.2) != 0)) rfl rfl (fun _ => by kernel_rfl)) (bne_iff_ne.2 h27)) rfl rfl rfl ?_)
    refine st rfl (o_y (v := .bool true) (y_mv rfl) rfl rfl rfl ?_)
    refine st_off 47 rfl rfl rfl rfl rfl rfl ?_
    refine st_off 47 rfl rfl rfl rfl rfl rfl ?_
    refine st rfl (o_y (v := .bool true) (y_pick rfl rfl) rfl rfl rfl ?_)
    refine s_nil ?_
    refine q_then ?_
    refine c_true rfl ?_
    refine c_seq ?_
    refine c_region ?_
    refine st rfl (o_y (v := .bool true) (y_mv rfl) rfl rfl rfl ?_)
    refine st rfl (o_y (v := .bool true) (y_mv rfl) rfl rfl rfl ?_)
    refine st_on 52 rfl rfl rfl (o_y (v := .int .i64 ((putF max (fewL l) (cutS item)).2.2)) (y_mv rfl) rfl rfl rfl ?_)
    have h37 : ¬ ((putF max (fewL l) (cutS item)).2.2 = 0) := h27
    refine st_on 52 rfl rfl rfl (o_y (v := .bool false) (y_b (y_k (v := .bool (((putF max (fewL l) (cutS item)).2.2) == 0)) rfl rfl (fun _ => by kernel_rfl)) (beq_eq_false_iff_ne.2 h37)) rfl rfl rfl ?_)
    refine st_on 52 rfl rfl rfl (o_y (v := .bool false) (y_mv rfl) rfl rfl rfl ?_)
    refine st_on 55 rfl rfl rfl (o_y (v := .int .i64 ((takeF ((putF max (fewL l) (cutS item)).1) ((putF max (fewL l) (cutS item)).2.1)).2.2.2)) (y_mv rfl) rfl rfl rfl ?_)
    refine e_by ((takeF ((putF max (fewL l) (cutS item)).1) ((putF max (fewL l) (cutS item)).2.1)).2.2.2 = 0) (fun h38 => ?_) (fun h38 => ?_)
    ·
      refine st_on 55 rfl rfl rfl (o_y (v := .bool false) (y_b (y_k (v := .bool (((takeF ((putF max (fewL l) (cutS item)).1) ((putF max (fewL l) (cutS item)).2.1)).2.2.2) != 0)) rfl rfl (fun _ => by kernel_rfl)) (bne_eq_false_iff_eq.2 h38)) rfl rfl rfl ?_)
      refine st_on 52 rfl rfl rfl (o_y (v := .bool false) (y_pick rfl rfl) rfl rfl rfl ?_)
      refine st rfl (o_y (v := .bool false) (y_pick rfl rfl) rfl rfl rfl ?_)
      refine st rfl (o_y (v := .bool false) (y_mv rfl) rfl rfl rfl ?_)
      refine st_off 60 rfl rfl rfl rfl rfl rfl ?_
      refine st_off 60 rfl rfl rfl rfl rfl rfl ?_
      refine st_off 60 rfl rfl rfl rfl rfl rfl ?_
      refine st_offu 63 rfl rfl rfl rfl rfl ?_
      refine st_offu 63 rfl rfl rfl rfl rfl ?_
      refine st_off 60 rfl rfl rfl rfl rfl rfl ?_
      refine st_off 60 rfl rfl rfl rfl rfl rfl ?_
      refine st_offu 67 rfl rfl rfl rfl rfl ?_
      refine st_offu 67 rfl rfl rfl rfl rfl ?_
      refine st_offu 67 rfl rfl rfl rfl rfl ?_
      refine st_offu 67 rfl rfl rfl rfl rfl ?_
      refine st_off 60 rfl rfl rfl rfl rfl rfl ?_
      refine st rfl (o_y (v := .bool false) (y_pick rfl rfl) rfl rfl rfl ?_)
      refine st rfl (o_y (v := .bool false) (y_as rfl) rfl rfl rfl ?_)
      refine s_nil ?_
      refine q_then ?_
      refine c_ret ?_
      refine q_then_ret ?_
      refine c_fin (I' := []) [] [0, 1, 2, 3, 4, 5, 6] rfl (.tmp rfl .nil) rfl rfl rfl ?_
      exact ⟨by exfalso; obtain ⟨t1, t2, t3⟩ := turns max (fewL l) (cutS item); simp_all, rfl, rfl⟩
    ·
      refine st_on 55 rfl rfl rfl (o_y (v := .bool true) (y_b (y_k (v := .bool (((takeF ((putF max (fewL l) (cutS item)).1) ((putF max (fewL l) (cutS item)).2.1)).2.2.2) != 0)) rfl rfl (fun _ => by kernel_rfl)) (bne_iff_ne.2 h38)) rfl rfl rfl ?_)
      refine st_on 52 rfl rfl rfl (o_y (v := .bool true) (y_pick rfl rfl) rfl rfl rfl ?_)
      refine st rfl (o_y (v := .bool true) (y_pick rfl rfl) rfl rfl rfl ?_)
      refine st rfl (o_y (v := .bool true) (y_mv rfl) rfl rfl rfl ?_)
      refine st_on 60 rfl rfl rfl (o_y (v := .int .i64 ((takeF max (fewL l)).2.2.2)) (y_mv rfl) rfl rfl rfl ?_)
      refine e_by ((takeF max (fewL l)).2.2.2 = 0) (fun h39 => ?_) (fun h39 => ?_)
      ·
        refine st_on 60 rfl rfl rfl (o_y (v := .bool true) (y_b (y_k (v := .bool (((takeF max (fewL l)).2.2.2) == 0)) rfl rfl (fun _ => by kernel_rfl)) (beq_iff_eq.2 h39)) rfl rfl rfl ?_)
        refine st_on 60 rfl rfl rfl (o_y (v := .bool true) (y_mv rfl) rfl rfl rfl ?_)
        refine st_off 63 rfl rfl rfl rfl rfl rfl ?_
        refine st_off 63 rfl rfl rfl rfl rfl rfl ?_
        refine st_on 60 rfl rfl rfl (o_y (v := .bool true) (y_pick rfl rfl) rfl rfl rfl ?_)
        refine st_on 60 rfl rfl rfl (o_y (v := .bool true) (y_mv rfl) rfl rfl rfl ?_)
        refine st_off 67 rfl rfl rfl rfl rfl rfl ?_
        refine st_off 67 rfl rfl rfl rfl rfl rfl ?_
        refine st_off 67 rfl rfl rfl rfl rfl rfl ?_
        refine st_off 67 rfl rfl rfl rfl rfl rfl ?_
        refine st_on 60 rfl rfl rfl (o_y (v := .bool true) (y_pick rfl rfl) rfl rfl rfl ?_)
        refine st rfl (o_y (v := .bool true) (y_pick rfl rfl) rfl rfl rfl ?_)
        refine st rfl (o_y (v := .bool true) (y_as rfl) rfl rfl rfl ?_)
        refine s_nil ?_
        refine q_then ?_
        refine c_ret ?_
        refine q_then_ret ?_
        refine c_fin (I' := []) [] [0, 1, 2, 3, 4, 5, 6] rfl (.tmp rfl .nil) rfl rfl rfl ?_
        exact ⟨rfl, rfl, rfl⟩
      ·
        refine st_on 60 rfl rfl rfl (o_y (v := .bool false) (y_b (y_k (v := .bool (((takeF max (fewL l)).2.2.2) == 0)) rfl rfl (fun _ => by kernel_rfl)) (beq_eq_false_iff_ne.2 h39)) rfl rfl rfl ?_)
        refine st_on 60 rfl rfl rfl (o_y (v := .bool false) (y_mv rfl) rfl rfl rfl ?_)
        refine st_on 63 rfl rfl rfl (o_y (v := .int .i64 ((putF ((takeF max (fewL l)).2.1) ((takeF max (fewL l)).2.2.1) (cutS item)).2.2)) (y_mv rfl) rfl rfl rfl ?_)
        refine e_by ((putF ((takeF max (fewL l)).2.1) ((takeF max (fewL l)).2.2.1) (cutS item)).2.2 = 0) (fun h40 => ?_) (fun h40 => ?_)
        ·
          refine st_on 63 rfl rfl rfl (o_y (v := .bool false) (y_b (y_k (v := .bool (((putF ((takeF max (fewL l)).2.1) ((takeF max (fewL l)).2.2.1) (cutS item)).2.2) != 0)) rfl rfl (fun _ => by kernel_rfl)) (bne_eq_false_iff_eq.2 h40)) rfl rfl rfl ?_)
          refine st_on 60 rfl rfl rfl (o_y (v := .bool false) (y_pick rfl rfl) rfl rfl rfl ?_)
          refine st_on 60 rfl rfl rfl (o_y (v := .bool false) (y_mv rfl) rfl rfl rfl ?_)
          refine st_on 67 rfl rfl rfl (o_y (v := .pointer (some ⟨b1, 1, none⟩)) (y_k rfl rfl (fun _ => by kernel_rfl)) rfl rfl rfl ?_)
          refine st_on 67 rfl rfl rfl (o_ld 9 rfl rfl rfl Tryd.underlying22 rfl rfl ?_)
          refine st_on 67 rfl rfl rfl (o_y (v := .int .i64 ((fewL l).length : Int)) (y_k rfl rfl (fun _ => by kernel_rfl)) rfl rfl rfl ?_)
          refine e_by (((fewL l).length : Int) = 0) (fun h41 => ?_) (fun h41 => ?_)
          ·
            refine st_on 67 rfl rfl rfl (o_y (v := .bool true) (y_b (y_k (v := .bool (((fewL l).length : Int) == 0)) rfl rfl (fun _ => by kernel_rfl)) (beq_iff_eq.2 h41)) rfl rfl rfl ?_)
            refine st_on 60 rfl rfl rfl (o_y (v := .bool true) (y_pick rfl rfl) rfl rfl rfl ?_)
            refine st rfl (o_y (v := .bool true) (y_pick rfl rfl) rfl rfl rfl ?_)
            refine st rfl (o_y (v := .bool true) (y_as rfl) rfl rfl rfl ?_)
            refine s_nil ?_
            refine q_then ?_
            refine c_ret ?_
            refine q_then_ret ?_
            refine c_fin (I' := []) [] [0, 1, 2, 3, 4, 5, 6] rfl (.tmp rfl .nil) rfl rfl rfl ?_
            exact ⟨rfl, rfl, rfl⟩
          ·
            refine st_on 67 rfl rfl rfl (o_y (v := .bool false) (y_b (y_k (v := .bool (((fewL l).length : Int) == 0)) rfl rfl (fun _ => by kernel_rfl)) (beq_eq_false_iff_ne.2 h41)) rfl rfl rfl ?_)
            refine st_on 60 rfl rfl rfl (o_y (v := .bool false) (y_pick rfl rfl) rfl rfl rfl ?_)
            refine st rfl (o_y (v := .bool false) (y_pick rfl rfl) rfl rfl rfl ?_)
            refine st rfl (o_y (v := .bool false) (y_as rfl) rfl rfl rfl ?_)
            refine s_nil ?_
            refine q_then ?_
            refine c_ret ?_
            refine q_then_ret ?_
            refine c_fin (I' := []) [] [0, 1, 2, 3, 4, 5, 6] rfl (.tmp rfl .nil) rfl rfl rfl ?_
            exact ⟨by exfalso; obtain ⟨t1, t2, t3⟩ := turns max (fewL l) (cutS item); simp_all, rfl, rfl⟩
        ·
          refine st_on 63 rfl rfl rfl (o_y (v := .bool true) (y_b (y_k (v := .bool (((putF ((takeF max (fewL l)).2.1) ((takeF max (fewL l)).2.2.1) (cutS item)).2.2) != 0)) rfl rfl (fun _ => by kernel_rfl)) (bne_iff_ne.2 h40)) rfl rfl rfl ?_)
          refine st_on 60 rfl rfl rfl (o_y (v := .bool true) (y_pick rfl rfl) rfl rfl rfl ?_)
          refine st_on 60 rfl rfl rfl (o_y (v := .bool true) (y_mv rfl) rfl rfl rfl ?_)
          refine st_off 67 rfl rfl rfl rfl rfl rfl ?_
          refine st_off 67 rfl rfl rfl rfl rfl rfl ?_
          refine st_off 67 rfl rfl rfl rfl rfl rfl ?_
          refine st_off 67 rfl rfl rfl rfl rfl rfl ?_
          refine st_on 60 rfl rfl rfl (o_y (v := .bool true) (y_pick rfl rfl) rfl rfl rfl ?_)
          refine st rfl (o_y (v := .bool true) (y_pick rfl rfl) rfl rfl rfl ?_)
          refine st rfl (o_y (v := .bool true) (y_as rfl) rfl rfl rfl ?_)
          refine s_nil ?_
          refine q_then ?_
          refine c_ret ?_
          refine q_then_ret ?_
          refine c_fin (I' := []) [] [0, 1, 2, 3, 4, 5, 6] rfl (.tmp rfl .nil) rfl rfl rfl ?_
          exact ⟨rfl, rfl, rfl⟩
open Go.ChangeShapes Go.WideShapes Go.ChangeAt Go.Joins
theorem own : ownKnob Tryd.prog.godebug = none := by kernel_rfl
theorem laidOut : laidOutB Tryd.prog = true := by kernel_rfl
theorem gn0 : Tryd.prog.globalNamed "plimsoll/ring.errArg" = some 1 := by kernel_rfl
theorem gt0 : (Tryd.prog.globals[1]?).map (·.type) = some 47 := by kernel_rfl
theorem gn1 : Tryd.prog.globalNamed "plimsoll/ring.errFull" = some 2 := by kernel_rfl
theorem gt1 : (Tryd.prog.globals[2]?).map (·.type) = some 47 := by kernel_rfl
theorem gn2 : Tryd.prog.globalNamed "plimsoll/ring.errEmpty" = some 0 := by kernel_rfl
theorem gt2 : (Tryd.prog.globals[0]?).map (·.type) = some 47 := by kernel_rfl
theorem cellsE : Tryd.prog.cellsOf 105 = 1 := by kernel_rfl
theorem cellsS : Tryd.prog.cellsOf 9 = 1 := by kernel_rfl
theorem star : "*" ++ "errors.errorString" = "*errors.errorString" := by decide
theorem rowP (u : TypeId) (h : Tryd.prog.typeName? 3 u = some "*errors.errorString") : u = 80 :=
  typeName_ptr_named (nm := "errors.errorString") (by rw [star]; kernel_rfl) (by kernel_rfl) (by decide) u (by rw [star]; exact h)
noncomputable def laidL : List (String × DataW Unit) := Rows.ringTurnsRow.laid
theorem door_met (os : Os) (args : Array Value) : laidMetH Tryd.prog laidL ((World.doorLaid Tryd.prog 400 os).forCall (fun _ _ => 0) ⟨#[], args, []⟩).memory :=
  laidMetH_of_parts3 (fuel := 8) (laidMet_of_run' 8 (by kernel_rfl) (by kernel_rfl)) (by kernel_rfl) (by kernel_rfl)
theorem of_laid {W : World} (h : laidMetH Tryd.prog laidL W) : ∃ a0 a1 a2 : Addr, Sent Tryd.prog W "plimsoll/ring.errArg" 1 80 a0 ∧ Sent Tryd.prog W "plimsoll/ring.errFull" 2 80 a1 ∧ Sent Tryd.prog W "plimsoll/ring.errEmpty" 0 80 a2 ∧ a0 ≠ a1 ∧ a0 ≠ a2 ∧ a1 ≠ a2 := by
  rw [MakeChecks.laidMetH_plain _ _ _ (by kernel_rfl)] at h
  exact laid3 h gn0 gt0 gn1 gt1 gn2 gt2 Tryd.underlying47 rowP Tryd.underlying80 Tryd.underlying105 rfl rfl Tryd.underlying9 cellsE cellsS
theorem errFact {P : Program} {W : World} {n : String} {g : Nat} {tp : TypeId} {a : Addr} (h : Sent P W n g tp a) : ∀ k, le (hpOf W) k → errAt a k := fun k hk => by
  obtain ⟨c, t, hb⟩ := h.blk
  exact ⟨c, t, hk _ _ hb⟩
set_option maxRecDepth 100000 in
theorem ringTurns_lifted (os : Os) (started : os.Started) (H : Type) (enc : TypeId × Value → H) :
    ReturnsInHanded {} Tryd.checked os 7 .any (fun w args => (Rows.ringTurnsSpec.pre enc Tryd.prog Tryd.f7 [] false w args ∧ laidMetH Tryd.prog laidL w) ∧ sizedMet enc Tryd.prog Tryd.f7 (OpenSpec.ofChange Rows.ringTurnsSpec) false w args)
      (Rows.ringTurnsSpec.post enc Tryd.prog Tryd.f7 false true false false) := by
  refine returnsInHanded_of_change_and (C := Tryd.checked) (X := fun w _ => laidMetH Tryd.prog laidL w) (fun _ _ _ hh h => h.of_heap hh) own started (by kernel_rfl) Tryd.func7
    (ChangeSpec.witness_shaped (enc := enc) (C := Tryd.checked) (os := os) (X := fun w _ => laidMetH Tryd.prog laidL w) false (World.doorLaid Tryd.prog 400 os) #[.agg #[.int .i64 0, .slice none 0 0], .string ⟨#[]⟩] 8 rfl (World.shaped_of_RefB (by kernel_rfl) (by kernel_rfl)) (by kernel_rfl) (by kernel_rfl) (by kernel_rfl) (door_met os _)) ?_
  intro W base args ds gs before hval0 hW _ _ hL _
  have hval : ∀ (j : Nat) t v, Tryd.f7.params[j]? = some t → args[j]? = some v → Value.okWide Tryd.prog W .any base t v := hval0
  have hW' := hW
  obtain ⟨p, q, hA0, hV, rfl, hfz, hnd⟩ := hW
  have hA : DataW.TrodAll enc Tryd.prog W 0 (fun _ => true) true Tryd.f7.params.toList args.toList ds p := hA0
  rw [Tryd.params7] at hA hval
  obtain ⟨v0, v1, d0, d1, p0, p1, rfl, rfl, rfl, h0, h1⟩ := trodAll_two hA
  obtain ⟨rfl, rfl⟩ := trodVars_none hV
  obtain ⟨a0, a1, a2, s0, s1, s2, n01, n02, n12⟩ := of_laid hL
  clear hA0 hval0 hL
  simp only [List.append_nil] at hW'
  have t0 := h0
  obtain ⟨x0, z0, y0, w0, m0, rfl, _, _, g0, hf0⟩ := open_agg2 Tryd.underlying24 (by kernel_rfl) (by kernel_rfl) (hval 0 24 _ rfl rfl) h0
  obtain ⟨n0, e0, _, _⟩ := DataW.trod_int Tryd.underlying3 g0
  simp only [List.cons.injEq, and_true] at e0
  subst e0
  obtain ⟨A0, c0, l0, rfl, hr0⟩ := open_texts Tryd.underlying22 Tryd.underlying9 (by kernel_rfl) hf0
  have t1 := h1
  obtain ⟨s1', rfl⟩ := okWide_string Tryd.underlying9 (hval 1 9 _ rfl rfl)
  refine (con_calls (RingTurns_ A0 c0 l0 n0 s1' a0 a1 a2 n01 n02 n12) (Facts.cons (hr0) (Facts.cons (sent_facts s0) (Facts.cons (sent_facts s1) (Facts.cons (sent_facts s2) (Facts.cons (errFact s0) (Facts.cons (errFact s1) (Facts.cons (errFact s2) (Facts.nil _))))))))).mono fun e W' ⟨he, hb⟩ => ?_
  subst he
  have hlt : ∀ x ∈ p0 ++ p1, x.block < W.heap.size := fun x hx => by simpa using hW'.lt x (by simpa using hx)
  exact ⟨_, rfl, [d0, d1], [], _, [], p0 ++ p1, [], hW', trodAll_mk1 (shut_bool Tryd.underlying4 true), trodAll_mk2 (Below.trod laidOut (by kernel_rfl) (of_decide_eq_true (by kernel_rfl)) t0 hb (fun x hx => hlt x (by simp [hx]))) (Below.trod laidOut (by kernel_rfl) (of_decide_eq_true (by kernel_rfl)) t1 hb (fun x hx => hlt x (by simp [hx]))), rfl, hb.frame _, fun h => by cases h⟩
theorem ringTurns_holds : Rows.RingTurnsSaid :=
  OpenClaim.holds_of_wide 7 Tryd.f7 rfl rfl rfl rfl rfl rfl rfl ⟨rfl, rfl, rfl, rfl, rfl⟩ rfl rfl rfl rfl rfl (by kernel_rfl) Tryd.func7 (by kernel_rfl)
    (of_decide_eq_true (by kernel_rfl)) (by unfold Func.isWrapper; first | (rw [if_pos (by decide +kernel)]; kernel_rfl) | (rw [if_neg (by decide +kernel)]; exact ⟨rfl, rfl⟩))
    (fun os started H enc _ => ringTurns_lifted os started H enc)
/-- The tied card. -/
theorem ringTurns_card : Rows.RingTurnsCardSaid :=
  Claim7.holds_tied_plain_at .later [] [.sentinel, .sentinel, .sentinel] true (true, "b786713441a752de7acee6366f0947f351ff51927903928e5be71e03e352de47") true
    ringTurns_holds (fun _ h => by cases h) (by kernel_rfl) (fun _ h => by cases h) ringTurns_row_tie rfl ⟨rfl, rfl⟩ (by kernel_rfl) rfl
    (fun f fn hf hfn => by
      obtain rfl : f = 7 := Option.some.inj ((show Tryd.prog.funcNamed "plimsoll/plimsolllaw08.RingTurns" = some 7 by kernel_rfl).symm.trans hf) |>.symm
      obtain rfl : fn = Tryd.f7 := (Option.some.inj (Tryd.func7.symm.trans hfn)).symm
      exact ⟨by kernel_rfl, fun j t ht => by
        rw [Tryd.params7] at ht
        have hm : t ∈ [24, 9] := by simpa using Array.mem_of_getElem? ht
        have hall : ([24, 9].all fun u => !Tryd.prog.wantsStandIn u) = true := by kernel_rfl
        exact (show Tryd.prog.wantsStandIn t = false by simpa using List.all_eq_true.1 hall t hm)⟩)
    (by kernel_rfl)
#print axioms ringTurns_card
end Go.Proofs.YtjcjbdhkajiaeaaDoor
