/- Contracts of package ring, its reference and its laws, walked over the given program; no condition but what stands in each: part U. -/
import Derived.Test.YtjcjbdhkajiaeaaDoorRP
import Derived.Test.YtjcjbdhkajiaeaaDoorSlW
import Derived.Test.YtjcjbdhkajiaeaaDoorCards
import Derived.Test.YtjcjbdhkajiaeaaDoorTie
import Derived.SevenTiedAt
set_option linter.unusedVariables false
set_option linter.unusedSimpArgs false
set_option maxRecDepth 100000
namespace Go.Proofs.YtjcjbdhkajiaeaaDoor
open Go Go.Sl Go.RowKit Go.Extern.Stop Go.Stop Go.Extern

theorem cut_cut (s : ByteArray) : cutS (cutS s) = cutS s := by
  have h := cutS_size s
  have e : ∀ t : ByteArray, t.size ≤ 210 → cutS t = t := fun t ht => by
    unfold cutS
    rw [Nat.min_eq_left ht]
    apply ByteArray.ext
    rw [ByteArray.data_extract]
    exact Array.extract_size
  exact e _ h
theorem few_few (l : List ByteArray) : fewL (fewL l) = fewL l := by
  unfold fewL
  rw [List.take_of_length_le (by simp; omega), List.map_map]
  apply List.map_congr_left
  intro s _; exact cut_cut s
theorem putF_len {max : Int} {l : List ByteArray} {s : ByteArray} (h : ¬ (putF max l s).2.2 = 0) : (putF max l s).2.1.length = 0 := by
  rcases putF_cases max l s with ⟨q1, q2⟩ | ⟨q1, q2, q3⟩ | ⟨q1, q2, q3, q4, q5, q6⟩ | ⟨q1, q2, q3, q4⟩
  · rw [q2]; rfl
  · rw [q3]; rfl
  · rw [q4] at h; exact absurd rfl h
  · rw [q4]; rfl
theorem takeF_len {max : Int} {l : List ByteArray} (h : ¬ (takeF max l).2.2.2 = 0) : (takeF max l).2.2.1.length = 0 := by
  unfold takeF at *
  split
  · rename_i hr
    rw [if_pos hr] at h
    cases l with
    | nil => rfl
    | cons s r => exact absurd rfl h
  · rfl
theorem allF_len {max : Int} {l r : List ByteArray} (h : ¬ (allF max l r).2.2.2 = 0) : (allF max l r).2.1.length = 0 := by
  unfold allF at *
  split
  · rename_i hr
    rw [if_pos hr] at h; exact absurd rfl h
  · rfl
set_option maxHeartbeats 2000000 in
theorem RingOwn_ (A : Option Addr) (c : Nat) (l : List ByteArray) (max : Int) (item : ByteArray) (ea : Addr) (ef : Addr) (ee : Addr) (h12 : ea ≠ ef) (h13 : ea ≠ ee) (h23 : ef ≠ ee) : Con Tryd.prog 5 [.agg #[.int .i64 max, .slice A l.length c], .string item] [] [rd strTy A c l, cellsAt 1 0 [.iface 80 (.pointer (some ea))], cellsAt 2 0 [.iface 80 (.pointer (some ef))], cellsAt 0 0 [.iface 80 (.pointer (some ee))], errAt ea, errAt ef, errAt ee] (fun v L' I' => v = .bool true ∧ L' = [] ∧ I' = []) := by
  refine fn_of Tryd.func5 rfl Tryd.ntmps5 (by kernel_rfl) rfl (fun C => ?_)
  refine c_seq ?_
  refine c_region ?_
  refine st rfl (o_box (cs := [.int .i64 max, .slice A l.length c]) (T := 24) rfl rfl rfl rfl (fun _ => by kernel_rfl) (fun b1 => ?_))
  refine st rfl (o_y (v := .bool false) (y_as rfl) rfl rfl rfl ?_)
  refine s_nil ?_
  refine q_then ?_
  refine c_seq ?_
  refine c_region ?_
  refine st rfl (o_call [] [1, 2, 3, 4, 5, 6] (shown_ ea ef ee (by assumption) (by assumption) (by assumption)) rfl rfl rfl rfl rfl rfl (fun v L' I' hq1 => ?_))
  obtain ⟨rfl, rfl, rfl⟩ := hq1
  refine st rfl (o_y (v := .bool true) (y_as rfl) rfl rfl rfl ?_)
  refine s_nil ?_
  refine q_then ?_
  refine c_seq ?_
  refine c_region ?_
  refine st rfl (o_ldn 0 2 rfl rfl rfl rfl Tryd.underlying24 rfl (by kernel_rfl) (by kernel_rfl) rfl ?_)
  refine st rfl (o_call [] [0] (Few_ A c l max) rfl rfl rfl rfl rfl rfl (fun v L' I' hq2 => ?_))
  obtain ⟨A1, c1, h24, h25, rfl, rfl, rfl⟩ := hq2
  refine st rfl (o_st 1 rfl rfl rfl rfl rfl (by kernel_rfl) (by kernel_rfl) rfl ?_)
  refine s_nil ?_
  refine q_then ?_
  refine c_seq ?_
  refine c_region ?_
  refine st rfl (o_ldn 1 2 rfl rfl rfl rfl Tryd.underlying24 rfl (by kernel_rfl) (by kernel_rfl) rfl ?_)
  refine st rfl (o_lend [0] [] [] (Few_ A1 c1 (fewL l) max) (.cons lend_ars .nil) rfl rfl rfl rfl rfl rfl rfl rfl (fun v L' I' hq3 => ?_))
  obtain ⟨A2, c2, h26, h27, rfl, rfl, rfl⟩ := hq3
  refine ⟨rfl, ?_⟩
  refine st rfl (o_box (cs := [.int .i64 0, .slice none 0 0]) (T := 24) rfl rfl rfl rfl (fun _ => by kernel_rfl) (fun b2 => ?_))
  refine st rfl (o_st 0 rfl rfl rfl rfl rfl (by kernel_rfl) (by kernel_rfl) rfl ?_)
  refine s_nil ?_
  refine q_then ?_
  refine c_seq ?_
  refine c_drawx (l := ticked 10 0) [(⟨b1, 0, none⟩, .int .i64 max), (⟨b1, 1, none⟩, .slice A1 (fewL l).length c1)] [] (by kernel_rfl) rfl rfl (fun Y back => ?_)
  have cut1 : ∀ (A3 : Option Addr) (c3 : Nat) (b3 : Nat) (h28 : (cutS item).size ≤ 210), Ent 111 C [(2, .pointer (some ⟨b1, 0, none⟩)), (4, .bool false), (5, .bool true), (6, .pointer (some ⟨b2, 0, none⟩)), (7, .pointer (some ⟨b3, 0, none⟩)), (8, .int .i64 ((putF max (fewL l) (cutS item)).2.2))] [] [pt b3 [.int .i64 ((putF max (fewL l) (cutS item)).1), .slice A3 ((putF max (fewL l) (cutS item)).2.1).length c3] 24, win strTy 9 A3 c3 ((putF max (fewL l) (cutS item)).2.1), ars strTy 9 A1 c1 (fewL l), pt b2 [.int .i64 max, .slice A2 (fewL (fewL l)).length c2] 24, ars strTy 9 A2 c2 (fewL (fewL l)), pt b1 [.int .i64 max, .slice A1 (fewL l).length c1] 24] [rd strTy A c l, cellsAt 1 0 [.iface 80 (.pointer (some ea))], cellsAt 2 0 [.iface 80 (.pointer (some ef))], cellsAt 0 0 [.iface 80 (.pointer (some ee))], errAt ea, errAt ef, errAt ee] Y := by
    intro A3 c3 b3 h28
    refine back ?_
    refine q_then ?_
    refine c_seq ?_
    refine c_region ?_
    refine st rfl (o_ldn 5 2 rfl rfl rfl rfl Tryd.underlying24 rfl (by kernel_rfl) (by kernel_rfl) rfl ?_)
    refine st rfl (o_lend [2] [] [1, 2, 3, 4, 5, 6] (Take_ A1 c1 (fewL l) max ea ef ee (by assumption) (by assumption) (by assumption) (by first | assumption | exact small_put _ _ _ | exact small_take _ _ | exact small_all _ _ _ | exact small_nil | exact small_right (by assumption) | exact small_one (small_at (by assumption) hx1) | exact small_one (by assumption))) (.cons lend_ars .nil) rfl rfl rfl rfl rfl rfl rfl rfl (fun v L' I' hq4 => ?_))
    obtain ⟨A4, c4, rfl, rfl, rfl⟩ := hq4
    refine ⟨rfl, ?_⟩
    refine st rfl (o_y (v := .tuple #[.string ((takeF max (fewL l)).1), .agg #[.int .i64 ((takeF max (fewL l)).2.1), .slice A4 ((takeF max (fewL l)).2.2.1).length c4], .int .i64 ((takeF max (fewL l)).2.2.2)]) (y_mv rfl) rfl rfl rfl ?_)
    refine st rfl (o_y (v := .string ((takeF max (fewL l)).1)) (y_k rfl rfl (fun _ => by kernel_rfl)) rfl rfl rfl ?_)
    refine st rfl (o_y (v := .agg #[.int .i64 ((takeF max (fewL l)).2.1), .slice A4 ((takeF max (fewL l)).2.2.1).length c4]) (y_k rfl rfl (fun _ => by kernel_rfl)) rfl rfl rfl ?_)
    refine st rfl (o_y (v := .int .i64 ((takeF max (fewL l)).2.2.2)) (y_k rfl rfl (fun _ => by kernel_rfl)) rfl rfl rfl ?_)
    refine st rfl (o_box (cs := [.int .i64 0, .slice none 0 0]) (T := 24) rfl rfl rfl rfl (fun _ => by kernel_rfl) (fun b4 => ?_))
    refine st rfl (o_y (v := .string ((takeF max (fewL l)).1)) (y_as rfl) rfl rfl rfl ?_)
    refine st rfl (o_st 0 rfl rfl rfl rfl rfl (by kernel_rfl) (by kernel_rfl) rfl ?_)
    refine st rfl (o_y (v := .int .i64 ((takeF max (fewL l)).2.2.2)) (y_as rfl) rfl rfl rfl ?_)
    refine s_nil ?_
    refine q_then ?_
    refine c_seq ?_
    refine c_region ?_
    refine st rfl (o_ldn 7 2 rfl rfl rfl rfl Tryd.underlying24 rfl (by kernel_rfl) (by kernel_rfl) rfl ?_)
    refine e_rdnil strTy none 0 ?_
    refine st rfl (o_lend [2] [] [0, 2, 3, 4, 5, 6, 7] (All_ A1 c1 (fewL l) none 0 ([] : List ByteArray) max ea ef ee (by assumption) (by assumption) (by assumption) (by first | assumption | exact small_put _ _ _ | exact small_take _ _ | exact small_all _ _ _ | exact small_nil | exact small_right (by assumption) | exact small_one (small_at (by assumption) hx1) | exact small_one (by assumption)) (by first | assumption | exact small_put _ _ _ | exact small_take _ _ | exact small_all _ _ _ | exact small_nil | exact small_right (by assumption) | exact small_one (small_at (by assumption) hx1) | exact small_one (by assumption))) (.cons lend_ars .nil) rfl rfl rfl rfl rfl rfl rfl rfl (fun v L' I' hq5 => ?_))
    obtain ⟨A5, c5, rfl, rfl, rfl⟩ := hq5
    refine ⟨rfl, ?_⟩
    refine st rfl (o_y (v := .tuple #[.agg #[.int .i64 ((allF max (fewL l) ([] : List ByteArray)).1), .slice A5 ((allF max (fewL l) ([] : List ByteArray)).2.1).length c5], .int .i64 ((allF max (fewL l) ([] : List ByteArray)).2.2.1 : Int), .int .i64 ((allF max (fewL l) ([] : List ByteArray)).2.2.2)]) (y_mv rfl) rfl rfl rfl ?_)
    refine st rfl (o_y (v := .agg #[.int .i64 ((allF max (fewL l) ([] : List ByteArray)).1), .slice A5 ((allF max (fewL l) ([] : List ByteArray)).2.1).length c5]) (y_k rfl rfl (fun _ => by kernel_rfl)) rfl rfl rfl ?_)
    refine st rfl (o_y (v := .int .i64 ((allF max (fewL l) ([] : List ByteArray)).2.2.1 : Int)) (y_k rfl rfl (fun _ => by kernel_rfl)) rfl rfl rfl ?_)
    refine st rfl (o_y (v := .int .i64 ((allF max (fewL l) ([] : List ByteArray)).2.2.2)) (y_k rfl rfl (fun _ => by kernel_rfl)) rfl rfl rfl ?_)
    refine st rfl (o_box (cs := [.int .i64 0, .slice none 0 0]) (T := 24) rfl rfl rfl rfl (fun _ => by kernel_rfl) (fun b5 => ?_))
    refine st rfl (o_st 0 rfl rfl rfl rfl rfl (by kernel_rfl) (by kernel_rfl) rfl ?_)
    refine st rfl (o_y (v := .int .i64 ((allF max (fewL l) ([] : List ByteArray)).2.2.1 : Int)) (y_as rfl) rfl rfl rfl ?_)
    refine st rfl (o_y (v := .int .i64 ((allF max (fewL l) ([] : List ByteArray)).2.2.2)) (y_as rfl) rfl rfl rfl ?_)
    refine s_nil ?_
    refine q_then ?_
    refine c_seq ?_
    refine c_seq ?_
    refine c_region ?_
    refine st rfl (o_y (v := .int .i64 0) (y_as rfl) rfl rfl rfl ?_)
    refine s_nil ?_
    refine q_then ?_
    refine c_block ?_
    refine c_loopn (ι := Nat × (List ByteArray)) (fun (ka15, lq15) => (ka15 ≤ lq15.length) ∧ (lq15.length = ((putF max (fewL l) (cutS item)).2.1).length)) (fun (ka15, lq15) => [(2, .pointer (some ⟨b1, 0, none⟩)), (4, .bool false), (5, .bool true), (6, .pointer (some ⟨b2, 0, none⟩)), (7, .pointer (some ⟨b3, 0, none⟩)), (8, .int .i64 ((putF max (fewL l) (cutS item)).2.2)), (10, .pointer (some ⟨b4, 0, none⟩)), (11, .int .i64 ((takeF max (fewL l)).2.2.2)), (12, .pointer (some ⟨b5, 0, none⟩)), (14, .int .i64 ((allF max (fewL l) ([] : List ByteArray)).2.2.2)), (15, .int .i64 (ka15 : Int))]) (fun (ka15, lq15) => [pt b5 [.int .i64 ((allF max (fewL l) ([] : List ByteArray)).1), .slice A5 ((allF max (fewL l) ([] : List ByteArray)).2.1).length c5] 24, win strTy 9 A5 c5 ((allF max (fewL l) ([] : List ByteArray)).2.1), ars strTy 9 A1 c1 (fewL l), pt b4 [.int .i64 ((takeF max (fewL l)).2.1), .slice A4 ((takeF max (fewL l)).2.2.1).length c4] 24, win strTy 9 A4 c4 ((takeF max (fewL l)).2.2.1), pt b3 [.int .i64 ((putF max (fewL l) (cutS item)).1), .slice A3 lq15.length c3] 24, win strTy 9 A3 c3 lq15, pt b2 [.int .i64 max, .slice A2 (fewL (fewL l)).length c2] 24, ars strTy 9 A2 c2 (fewL (fewL l)), pt b1 [.int .i64 max, .slice A1 (fewL l).length c1] 24]) (fun (ka15, lq15) => [rd strTy none 0 [], rd strTy A c l, cellsAt 1 0 [.iface 80 (.pointer (some ea))], cellsAt 2 0 [.iface 80 (.pointer (some ef))], cellsAt 0 0 [.iface 80 (.pointer (some ee))], errAt ea, errAt ef, errAt ee]) (fun (ka15, lq15) => lq15.length - ka15) (0, (putF max (fewL l) (cutS item)).2.1) [0, 0, 0, 0, 0, 0, 0, 0, 0, 0] [0, 1, 2, 3, 4, 5, 6, 7] (show (0 ≤ ((putF max (fewL l) (cutS item)).2.1).length) ∧ (((putF max (fewL l) (cutS item)).2.1).length = ((putF max (fewL l) (cutS item)).2.1).length) from ⟨by first | omega | (simp; omega), rfl⟩) ((.cons rfl rfl (.cons rfl rfl (.cons rfl rfl (.cons rfl rfl (.cons rfl rfl (.cons rfl rfl (.cons rfl rfl (.cons rfl rfl (.cons rfl rfl (.cons rfl rfl (.cons rfl rfl .nil)))))))))))) rfl rfl ?_
    rintro ⟨ka15, lq15⟩ ⟨hk15, hn15⟩
    show Ent 111 C [(2, .pointer (some ⟨b1, 0, none⟩)), (4, .bool false), (5, .bool true), (6, .pointer (some ⟨b2, 0, none⟩)), (7, .pointer (some ⟨b3, 0, none⟩)), (8, .int .i64 ((putF max (fewL l) (cutS item)).2.2)), (10, .pointer (some ⟨b4, 0, none⟩)), (11, .int .i64 ((takeF max (fewL l)).2.2.2)), (12, .pointer (some ⟨b5, 0, none⟩)), (14, .int .i64 ((allF max (fewL l) ([] : List ByteArray)).2.2.2)), (15, .int .i64 (ka15 : Int))] [] [pt b5 [.int .i64 ((allF max (fewL l) ([] : List ByteArray)).1), .slice A5 ((allF max (fewL l) ([] : List ByteArray)).2.1).length c5] 24, win strTy 9 A5 c5 ((allF max (fewL l) ([] : List ByteArray)).2.1), ars strTy 9 A1 c1 (fewL l), pt b4 [.int .i64 ((takeF max (fewL l)).2.1), .slice A4 ((takeF max (fewL l)).2.2.1).length c4] 24, win strTy 9 A4 c4 ((takeF max (fewL l)).2.2.1), pt b3 [.int .i64 ((putF max (fewL l) (cutS item)).1), .slice A3 lq15.length c3] 24, win strTy 9 A3 c3 lq15, pt b2 [.int .i64 max, .slice A2 (fewL (fewL l)).length c2] 24, ars strTy 9 A2 c2 (fewL (fewL l)), pt b1 [.int .i64 max, .slice A1 (fewL l).length c1] 24] [rd strTy none 0 [], rd strTy A c l, cellsAt 1 0 [.iface 80 (.pointer (some ea))], cellsAt 2 0 [.iface 80 (.pointer (some ef))], cellsAt 0 0 [.iface 80 (.pointer (some ee))], errAt ea, errAt ef, errAt ee] _
    refine c_seq ?_
    refine c_seq ?_
    refine c_region ?_
    refine st rfl (o_y (v := .int .i64 (ka15 : Int)) (y_mv rfl) rfl rfl rfl ?_)
    refine st rfl (o_y (v := .pointer (some ⟨b3, 1, none⟩)) (y_k rfl rfl (fun _ => by kernel_rfl)) rfl rfl rfl ?_)
    refine st rfl (o_ld 5 rfl rfl rfl Tryd.underlying22 rfl rfl ?_)
    refine st rfl (o_y (v := .int .i64 (lq15.length : Int)) (y_k rfl rfl (fun _ => by kernel_rfl)) rfl rfl rfl ?_)
    refine e_by ((ka15 : Int) < (lq15.length : Int)) (fun h29 => ?_) (fun h29 => ?_)
    ·
      refine st rfl (o_y (v := .bool true) (y_t (y_k (v := .bool (decide ((ka15 : Int) < (lq15.length : Int)))) rfl rfl (fun _ => by kernel_rfl)) h29) rfl rfl rfl ?_)
      refine s_nil ?_
      refine q_then ?_
      refine c_true rfl ?_
      refine c_skip ?_
      refine q_then ?_
      refine c_seq ?_
      refine c_block ?_
      refine c_region ?_
      refine st rfl (o_y (v := .pointer (some ⟨b3, 1, none⟩)) (y_k rfl rfl (fun _ => by kernel_rfl)) rfl rfl rfl ?_)
      refine st rfl (o_ld 5 rfl rfl rfl Tryd.underlying22 rfl rfl ?_)
      refine st rfl (o_y (v := .int .i64 (ka15 : Int)) (y_mv rfl) rfl rfl rfl ?_)
      obtain ⟨x1, hx1⟩ : ∃ x, lq15[ka15]? = some x := ⟨_, List.getElem?_eq_getElem (by omega)⟩
      refine e_winb 6 rfl (by omega) (fun b6 o1 hA1 => ?_)
      refine st rfl (o_y (v := .pointer (some ⟨b6, o1 + ka15 * 1, none⟩)) (y_at (d := strTy) (l := lq15) ka15 hA1 rfl rfl rfl (rfl) (by omega) Tryd.underlying22 (by kernel_rfl) (by kernel_rfl)) rfl rfl rfl ?_)
      refine st rfl (o_stw (d := strTy) 6 ka15 (⟨#[111, 116, 104, 101, 114]⟩ : ByteArray) rfl hA1 (by omega) rfl rfl rfl (by kernel_rfl) (by kernel_rfl) rfl ?_)
      have hN1 : lq15.length = (lq15.set ka15 (⟨#[111, 116, 104, 101, 114]⟩ : ByteArray)).length := by simp
      rw [hN1]
      refine s_nil ?_
      refine q_block ?_
      refine q_then ?_
      refine c_region ?_
      refine st rfl (o_y (v := .int .i64 (ka15 : Int)) (y_mv rfl) rfl rfl rfl ?_)
      refine st rfl (o_y (v := .int .i64 ((ka15 : Int) + 1)) (y_add (r := (ka15 : Int) + 1) rfl rfl rfl (by have := small_put max (fewL l) (cutS item); have := small_take max (fewL l); have := small_all max (fewL l) []; simp only [small] at *; omega)) rfl rfl rfl ?_)
      refine st rfl (o_y (v := .int .i64 ((ka15 : Int) + 1)) (y_as rfl) rfl rfl rfl ?_)
      refine s_nil ?_
      refine q_then ?_
      refine c_next [0, 0, 0, 0, 0, 0, 0, 0, 0, 0] [0, 1, 2, 3, 4, 5, 6, 7] (ka15 + 1, lq15.set ka15 (⟨#[111, 116, 104, 101, 114]⟩ : ByteArray)) ?_ ?_ ?_ (by rfl) (by rfl)
      · exact (show ((ka15 + 1) ≤ (lq15.set ka15 (⟨#[111, 116, 104, 101, 114]⟩ : ByteArray)).length) ∧ ((lq15.set ka15 (⟨#[111, 116, 104, 101, 114]⟩ : ByteArray)).length = ((putF max (fewL l) (cutS item)).2.1).length) from ⟨by simp only [List.length_set]; omega, by simp only [List.length_set]; assumption⟩)
      · show (lq15.set ka15 (⟨#[111, 116, 104, 101, 114]⟩ : ByteArray)).length - (ka15 + 1) < lq15.length - ka15; simp only [List.length_set]; omega
      · exact (.cons rfl rfl (.cons rfl rfl (.cons rfl rfl (.cons rfl rfl (.cons rfl rfl (.cons rfl rfl (.cons rfl rfl (.cons rfl rfl (.cons rfl rfl (.cons rfl rfl (.cons rfl (show (.int .i64 ((ka15 : Int) + 1) : Value) = .int .i64 ((ka15 + 1) : Int) from by first | rfl | (congr 1; omega) | (congr 1; simp; done) | (congr 1; simp; omega)) .nil)))))))))))
    ·
      refine st rfl (o_y (v := .bool false) (y_f (y_k (v := .bool (decide ((ka15 : Int) < (lq15.length : Int)))) rfl rfl (fun _ => by kernel_rfl)) h29) rfl rfl rfl ?_)
      refine s_nil ?_
      refine q_then ?_
      refine c_false rfl ?_
      refine c_exit ?_
      refine q_then_exit ?_
      refine q_then_exit ?_
      refine q_block_here ?_
      refine q_then ?_
      refine c_seq ?_
      refine c_seq ?_
      refine c_region ?_
      refine st rfl (o_y (v := .int .i64 0) (y_as rfl) rfl rfl rfl ?_)
      refine s_nil ?_
      refine q_then ?_
      refine c_block ?_
      refine c_loopn (ι := Nat × (List ByteArray)) (fun (ka16, lq16) => (ka16 ≤ lq16.length) ∧ (lq16.length = ((takeF max (fewL l)).2.2.1).length)) (fun (ka16, lq16) => [(2, .pointer (some ⟨b1, 0, none⟩)), (4, .bool false), (5, .bool true), (6, .pointer (some ⟨b2, 0, none⟩)), (7, .pointer (some ⟨b3, 0, none⟩)), (8, .int .i64 ((putF max (fewL l) (cutS item)).2.2)), (10, .pointer (some ⟨b4, 0, none⟩)), (11, .int .i64 ((takeF max (fewL l)).2.2.2)), (12, .pointer (some ⟨b5, 0, none⟩)), (14, .int .i64 ((allF max (fewL l) ([] : List ByteArray)).2.2.2)), (16, .int .i64 (ka16 : Int))]) (fun (ka16, lq16) => [pt b5 [.int .i64 ((allF max (fewL l) ([] : List ByteArray)).1), .slice A5 ((allF max (fewL l) ([] : List ByteArray)).2.1).length c5] 24, win strTy 9 A5 c5 ((allF max (fewL l) ([] : List ByteArray)).2.1), ars strTy 9 A1 c1 (fewL l), pt b4 [.int .i64 ((takeF max (fewL l)).2.1), .slice A4 lq16.length c4] 24, win strTy 9 A4 c4 lq16, pt b3 [.int .i64 ((putF max (fewL l) (cutS item)).1), .slice A3 lq15.length c3] 24, win strTy 9 A3 c3 lq15, pt b2 [.int .i64 max, .slice A2 (fewL (fewL l)).length c2] 24, ars strTy 9 A2 c2 (fewL (fewL l)), pt b1 [.int .i64 max, .slice A1 (fewL l).length c1] 24]) (fun (ka16, lq16) => [rd strTy none 0 [], rd strTy A c l, cellsAt 1 0 [.iface 80 (.pointer (some ea))], cellsAt 2 0 [.iface 80 (.pointer (some ef))], cellsAt 0 0 [.iface 80 (.pointer (some ee))], errAt ea, errAt ef, errAt ee]) (fun (ka16, lq16) => lq16.length - ka16) (0, (takeF max (fewL l)).2.2.1) [0, 0, 0, 0, 0, 0, 0, 0, 0, 0] [0, 1, 2, 3, 4, 5, 6, 7] (show (0 ≤ ((takeF max (fewL l)).2.2.1).length) ∧ (((takeF max (fewL l)).2.2.1).length = ((takeF max (fewL l)).2.2.1).length) from ⟨by first | omega | (simp; omega), rfl⟩) ((.cons rfl rfl (.cons rfl rfl (.cons rfl rfl (.cons rfl rfl (.cons rfl rfl (.cons rfl rfl (.cons rfl rfl (.cons rfl rfl (.cons rfl rfl (.cons rfl rfl (.cons rfl rfl .nil)))))))))))) rfl rfl ?_
      rintro ⟨ka16, lq16⟩ ⟨hk16, hn16⟩
      show Ent 111 C [(2, .pointer (some ⟨b1, 0, none⟩)), (4, .bool false), (5, .bool true), (6, .pointer (some ⟨b2, 0, none⟩)), (7, .pointer (some ⟨b3, 0, none⟩)), (8, .int .i64 ((putF max (fewL l) (cutS item)).2.2)), (10, .pointer (some ⟨b4, 0, none⟩)), (11, .int .i64 ((takeF max (fewL l)).2.2.2)), (12, .pointer (some ⟨b5, 0, none⟩)), (14, .int .i64 ((allF max (fewL l) ([] : List ByteArray)).2.2.2)), (16, .int .i64 (ka16 : Int))] [] [pt b5 [.int .i64 ((allF max (fewL l) ([] : List ByteArray)).1), .slice A5 ((allF max (fewL l) ([] : List ByteArray)).2.1).length c5] 24, win strTy 9 A5 c5 ((allF max (fewL l) ([] : List ByteArray)).2.1), ars strTy 9 A1 c1 (fewL l), pt b4 [.int .i64 ((takeF max (fewL l)).2.1), .slice A4 lq16.length c4] 24, win strTy 9 A4 c4 lq16, pt b3 [.int .i64 ((putF max (fewL l) (cutS item)).1), .slice A3 lq15.length c3] 24, win strTy 9 A3 c3 lq15, pt b2 [.int .i64 max, .slice A2 (fewL (fewL l)).length c2] 24, ars strTy 9 A2 c2 (fewL (fewL l)), pt b1 [.int .i64 max, .slice A1 (fewL l).length c1] 24] [rd strTy none 0 [], rd strTy A c l, cellsAt 1 0 [.iface 80 (.pointer (some ea))], cellsAt 2 0 [.iface 80 (.pointer (some ef))], cellsAt 0 0 [.iface 80 (.pointer (some ee))], errAt ea, errAt ef, errAt ee] _
      refine c_seq ?_
      refine c_seq ?_
      refine c_region ?_
      refine st rfl (o_y (v := .int .i64 (ka16 : Int)) (y_mv rfl) rfl rfl rfl ?_)
      refine st rfl (o_y (v := .pointer (some ⟨b4, 1, none⟩)) (y_k rfl rfl (fun _ => by kernel_rfl)) rfl rfl rfl ?_)
      refine st rfl (o_ld 3 rfl rfl rfl Tryd.underlying22 rfl rfl ?_)
      refine st rfl (o_y (v := .int .i64 (lq16.length : Int)) (y_k rfl rfl (fun _ => by kernel_rfl)) rfl rfl rfl ?_)
      refine e_by ((ka16 : Int) < (lq16.length : Int)) (fun h30 => ?_) (fun h30 => ?_)
      ·
        refine st rfl (o_y (v := .bool true) (y_t (y_k (v := .bool (decide ((ka16 : Int) < (lq16.length : Int)))) rfl rfl (fun _ => by kernel_rfl)) h30) rfl rfl rfl ?_)
        refine s_nil ?_
        refine q_then ?_
        refine c_true rfl ?_
        refine c_skip ?_
        refine q_then ?_
        refine c_seq ?_
        refine c_block ?_
        refine c_region ?_
        refine st rfl (o_y (v := .pointer (some ⟨b4, 1, none⟩)) (y_k rfl rfl (fun _ => by kernel_rfl)) rfl rfl rfl ?_)
        refine st rfl (o_ld 3 rfl rfl rfl Tryd.underlying22 rfl rfl ?_)
        refine st rfl (o_y (v := .int .i64 (ka16 : Int)) (y_mv rfl) rfl rfl rfl ?_)
        obtain ⟨x2, hx2⟩ : ∃ x, lq16[ka16]? = some x := ⟨_, List.getElem?_eq_getElem (by omega)⟩
        refine e_winb 4 rfl (by omega) (fun b7 o2 hA2 => ?_)
        refine st rfl (o_y (v := .pointer (some ⟨b7, o2 + ka16 * 1, none⟩)) (y_at (d := strTy) (l := lq16) ka16 hA2 rfl rfl rfl (rfl) (by omega) Tryd.underlying22 (by kernel_rfl) (by kernel_rfl)) rfl rfl rfl ?_)
        refine st rfl (o_stw (d := strTy) 4 ka16 (⟨#[111, 116, 104, 101, 114]⟩ : ByteArray) rfl hA2 (by omega) rfl rfl rfl (by kernel_rfl) (by kernel_rfl) rfl ?_)
        have hN2 : lq16.length = (lq16.set ka16 (⟨#[111, 116, 104, 101, 114]⟩ : ByteArray)).length := by simp
        rw [hN2]
        refine s_nil ?_
        refine q_block ?_
        refine q_then ?_
        refine c_region ?_
        refine st rfl (o_y (v := .int .i64 (ka16 : Int)) (y_mv rfl) rfl rfl rfl ?_)
        refine st rfl (o_y (v := .int .i64 ((ka16 : Int) + 1)) (y_add (r := (ka16 : Int) + 1) rfl rfl rfl (by have := small_put max (fewL l) (cutS item); have := small_take max (fewL l); have := small_all max (fewL l) []; simp only [small] at *; omega)) rfl rfl rfl ?_)
        refine st rfl (o_y (v := .int .i64 ((ka16 : Int) + 1)) (y_as rfl) rfl rfl rfl ?_)
        refine s_nil ?_
        refine q_then ?_
        refine c_next [0, 0, 0, 0, 0, 0, 0, 0, 0, 0] [0, 1, 2, 3, 4, 5, 6, 7] (ka16 + 1, lq16.set ka16 (⟨#[111, 116, 104, 101, 114]⟩ : ByteArray)) ?_ ?_ ?_ (by rfl) (by rfl)
        · exact (show ((ka16 + 1) ≤ (lq16.set ka16 (⟨#[111, 116, 104, 101, 114]⟩ : ByteArray)).length) ∧ ((lq16.set ka16 (⟨#[111, 116, 104, 101, 114]⟩ : ByteArray)).length = ((takeF max (fewL l)).2.2.1).length) from ⟨by simp only [List.length_set]; omega, by simp only [List.length_set]; assumption⟩)
        · show (lq16.set ka16 (⟨#[111, 116, 104, 101, 114]⟩ : ByteArray)).length - (ka16 + 1) < lq16.length - ka16; simp only [List.length_set]; omega
        · exact (.cons rfl rfl (.cons rfl rfl (.cons rfl rfl (.cons rfl rfl (.cons rfl rfl (.cons rfl rfl (.cons rfl rfl (.cons rfl rfl (.cons rfl rfl (.cons rfl rfl (.cons rfl (show (.int .i64 ((ka16 : Int) + 1) : Value) = .int .i64 ((ka16 + 1) : Int) from by first | rfl | (congr 1; omega) | (congr 1; simp; done) | (congr 1; simp; omega)) .nil)))))))))))
      ·
        refine st rfl (o_y (v := .bool false) (y_f (y_k (v := .bool (decide ((ka16 : Int) < (lq16.length : Int)))) rfl rfl (fun _ => by kernel_rfl)) h30) rfl rfl rfl ?_)
        refine s_nil ?_
        refine q_then ?_
        refine c_false rfl ?_
        refine c_exit ?_
        refine q_then_exit ?_
        refine q_then_exit ?_
        refine q_block_here ?_
        refine q_then ?_
        refine c_seq ?_
        refine c_seq ?_
        refine c_region ?_
        refine st rfl (o_y (v := .int .i64 0) (y_as rfl) rfl rfl rfl ?_)
        refine s_nil ?_
        refine q_then ?_
        refine c_block ?_
        refine c_loopn (ι := Nat × (List ByteArray)) (fun (ka17, lq17) => (ka17 ≤ lq17.length) ∧ (lq17.length = ((allF max (fewL l) ([] : List ByteArray)).2.1).length)) (fun (ka17, lq17) => [(2, .pointer (some ⟨b1, 0, none⟩)), (4, .bool false), (5, .bool true), (6, .pointer (some ⟨b2, 0, none⟩)), (7, .pointer (some ⟨b3, 0, none⟩)), (8, .int .i64 ((putF max (fewL l) (cutS item)).2.2)), (10, .pointer (some ⟨b4, 0, none⟩)), (11, .int .i64 ((takeF max (fewL l)).2.2.2)), (12, .pointer (some ⟨b5, 0, none⟩)), (14, .int .i64 ((allF max (fewL l) ([] : List ByteArray)).2.2.2)), (17, .int .i64 (ka17 : Int))]) (fun (ka17, lq17) => [pt b5 [.int .i64 ((allF max (fewL l) ([] : List ByteArray)).1), .slice A5 lq17.length c5] 24, win strTy 9 A5 c5 lq17, ars strTy 9 A1 c1 (fewL l), pt b4 [.int .i64 ((takeF max (fewL l)).2.1), .slice A4 lq16.length c4] 24, win strTy 9 A4 c4 lq16, pt b3 [.int .i64 ((putF max (fewL l) (cutS item)).1), .slice A3 lq15.length c3] 24, win strTy 9 A3 c3 lq15, pt b2 [.int .i64 max, .slice A2 (fewL (fewL l)).length c2] 24, ars strTy 9 A2 c2 (fewL (fewL l)), pt b1 [.int .i64 max, .slice A1 (fewL l).length c1] 24]) (fun (ka17, lq17) => [rd strTy none 0 [], rd strTy A c l, cellsAt 1 0 [.iface 80 (.pointer (some ea))], cellsAt 2 0 [.iface 80 (.pointer (some ef))], cellsAt 0 0 [.iface 80 (.pointer (some ee))], errAt ea, errAt ef, errAt ee]) (fun (ka17, lq17) => lq17.length - ka17) (0, (allF max (fewL l) ([] : List ByteArray)).2.1) [0, 0, 0, 0, 0, 0, 0, 0, 0, 0] [0, 1, 2, 3, 4, 5, 6, 7] (show (0 ≤ ((allF max (fewL l) ([] : List ByteArray)).2.1).length) ∧ (((allF max (fewL l) ([] : List ByteArray)).2.1).length = ((allF max (fewL l) ([] : List ByteArray)).2.1).length) from ⟨by first | omega | (simp; omega), rfl⟩) ((.cons rfl rfl (.cons rfl rfl (.cons rfl rfl (.cons rfl rfl (.cons rfl rfl (.cons rfl rfl (.cons rfl rfl (.cons rfl rfl (.cons rfl rfl (.cons rfl rfl (.cons rfl rfl .nil)))))))))))) rfl rfl ?_
        rintro ⟨ka17, lq17⟩ ⟨hk17, hn17⟩
        show Ent 111 C [(2, .pointer (some ⟨b1, 0, none⟩)), (4, .bool false), (5, .bool true), (6, .pointer (some ⟨b2, 0, none⟩)), (7, .pointer (some ⟨b3, 0, none⟩)), (8, .int .i64 ((putF max (fewL l) (cutS item)).2.2)), (10, .pointer (some ⟨b4, 0, none⟩)), (11, .int .i64 ((takeF max (fewL l)).2.2.2)), (12, .pointer (some ⟨b5, 0, none⟩)), (14, .int .i64 ((allF max (fewL l) ([] : List ByteArray)).2.2.2)), (17, .int .i64 (ka17 : Int))] [] [pt b5 [.int .i64 ((allF max (fewL l) ([] : List ByteArray)).1), .slice A5 lq17.length c5] 24, win strTy 9 A5 c5 lq17, ars strTy 9 A1 c1 (fewL l), pt b4 [.int .i64 ((takeF max (fewL l)).2.1), .slice A4 lq16.length c4] 24, win strTy 9 A4 c4 lq16, pt b3 [.int .i64 ((putF max (fewL l) (cutS item)).1), .slice A3 lq15.length c3] 24, win strTy 9 A3 c3 lq15, pt b2 [.int .i64 max, .slice A2 (fewL (fewL l)).length c2] 24, ars strTy 9 A2 c2 (fewL (fewL l)), pt b1 [.int .i64 max, .slice A1 (fewL l).length c1] 24] [rd strTy none 0 [], rd strTy A c l, cellsAt 1 0 [.iface 80 (.pointer (some ea))], cellsAt 2 0 [.iface 80 (.pointer (some ef))], cellsAt 0 0 [.iface 80 (.pointer (some ee))], errAt ea, errAt ef, errAt ee] _
        refine c_seq ?_
        refine c_seq ?_
        refine c_region ?_
        refine st rfl (o_y (v := .int .i64 (ka17 : Int)) (y_mv rfl) rfl rfl rfl ?_)
        refine st rfl (o_y (v := .pointer (some ⟨b5, 1, none⟩)) (y_k rfl rfl (fun _ => by kernel_rfl)) rfl rfl rfl ?_)
        refine st rfl (o_ld 0 rfl rfl rfl Tryd.underlying22 rfl rfl ?_)
        refine st rfl (o_y (v := .int .i64 (lq17.length : Int)) (y_k rfl rfl (fun _ => by kernel_rfl)) rfl rfl rfl ?_)
        refine e_by ((ka17 : Int) < (lq17.length : Int)) (fun h31 => ?_) (fun h31 => ?_)
        ·
          refine st rfl (o_y (v := .bool true) (y_t (y_k (v := .bool (decide ((ka17 : Int) < (lq17.length : Int)))) rfl rfl (fun _ => by kernel_rfl)) h31) rfl rfl rfl ?_)
          refine s_nil ?_
          refine q_then ?_
          refine c_true rfl ?_
          refine c_skip ?_
          refine q_then ?_
          refine c_seq ?_
          refine c_block ?_
          refine c_region ?_
          refine st rfl (o_y (v := .pointer (some ⟨b5, 1, none⟩)) (y_k rfl rfl (fun _ => by kernel_rfl)) rfl rfl rfl ?_)
          refine st rfl (o_ld 0 rfl rfl rfl Tryd.underlying22 rfl rfl ?_)
          refine st rfl (o_y (v := .int .i64 (ka17 : Int)) (y_mv rfl) rfl rfl rfl ?_)
          obtain ⟨x3, hx3⟩ : ∃ x, lq17[ka17]? = some x := ⟨_, List.getElem?_eq_getElem (by omega)⟩
          refine e_winb 1 rfl (by omega) (fun b8 o3 hA3 => ?_)
          refine st rfl (o_y (v := .pointer (some ⟨b8, o3 + ka17 * 1, none⟩)) (y_at (d := strTy) (l := lq17) ka17 hA3 rfl rfl rfl (rfl) (by omega) Tryd.underlying22 (by kernel_rfl) (by kernel_rfl)) rfl rfl rfl ?_)
          refine st rfl (o_stw (d := strTy) 1 ka17 (⟨#[111, 116, 104, 101, 114]⟩ : ByteArray) rfl hA3 (by omega) rfl rfl rfl (by kernel_rfl) (by kernel_rfl) rfl ?_)
          have hN3 : lq17.length = (lq17.set ka17 (⟨#[111, 116, 104, 101, 114]⟩ : ByteArray)).length := by simp
          rw [hN3]
          refine s_nil ?_
          refine q_block ?_
          refine q_then ?_
          refine c_region ?_
          refine st rfl (o_y (v := .int .i64 (ka17 : Int)) (y_mv rfl) rfl rfl rfl ?_)
          refine st rfl (o_y (v := .int .i64 ((ka17 : Int) + 1)) (y_add (r := (ka17 : Int) + 1) rfl rfl rfl (by have := small_put max (fewL l) (cutS item); have := small_take max (fewL l); have := small_all max (fewL l) []; simp only [small] at *; omega)) rfl rfl rfl ?_)
          refine st rfl (o_y (v := .int .i64 ((ka17 : Int) + 1)) (y_as rfl) rfl rfl rfl ?_)
          refine s_nil ?_
          refine q_then ?_
          refine c_next [0, 0, 0, 0, 0, 0, 0, 0, 0, 0] [0, 1, 2, 3, 4, 5, 6, 7] (ka17 + 1, lq17.set ka17 (⟨#[111, 116, 104, 101, 114]⟩ : ByteArray)) ?_ ?_ ?_ (by rfl) (by rfl)
          · exact (show ((ka17 + 1) ≤ (lq17.set ka17 (⟨#[111, 116, 104, 101, 114]⟩ : ByteArray)).length) ∧ ((lq17.set ka17 (⟨#[111, 116, 104, 101, 114]⟩ : ByteArray)).length = ((allF max (fewL l) ([] : List ByteArray)).2.1).length) from ⟨by simp only [List.length_set]; omega, by simp only [List.length_set]; assumption⟩)
          · show (lq17.set ka17 (⟨#[111, 116, 104, 101, 114]⟩ : ByteArray)).length - (ka17 + 1) < lq17.length - ka17; simp only [List.length_set]; omega
          · exact (.cons rfl rfl (.cons rfl rfl (.cons rfl rfl (.cons rfl rfl (.cons rfl rfl (.cons rfl rfl (.cons rfl rfl (.cons rfl rfl (.cons rfl rfl (.cons rfl rfl (.cons rfl (show (.int .i64 ((ka17 : Int) + 1) : Value) = .int .i64 ((ka17 + 1) : Int) from by first | rfl | (congr 1; omega) | (congr 1; simp; done) | (congr 1; simp; omega)) .nil)))))))))))
        ·
          refine st rfl (o_y (v := .bool false) (y_f (y_k (v := .bool (decide ((ka17 : Int) < (lq17.length : Int)))) rfl rfl (fun _ => by kernel_rfl)) h31) rfl rfl rfl ?_)
          refine s_nil ?_
          refine q_then ?_
          refine c_false rfl ?_
          refine c_exit ?_
          refine q_then_exit ?_
          refine q_then_exit ?_
          refine q_block_here ?_
          refine q_then ?_
          refine c_seq ?_
          refine c_region ?_
          refine st rfl (o_y (v := .bool true) (y_mv rfl) rfl rfl rfl ?_)
          refine st rfl (o_y (v := .bool true) (y_mv rfl) rfl rfl rfl ?_)
          refine st_on 76 rfl rfl rfl (o_ldn 9 2 rfl rfl rfl rfl Tryd.underlying24 rfl (by kernel_rfl) (by kernel_rfl) rfl ?_)
          refine st_on 76 rfl rfl rfl (o_ldn 7 2 rfl rfl rfl rfl Tryd.underlying24 rfl (by kernel_rfl) (by kernel_rfl) rfl ?_)
          refine st_on 76 rfl rfl rfl (o_lend [2, 7] [] [] (rSame_ A1 c1 (fewL l) A2 c2 (fewL (fewL l)) max max (by first | assumption | exact small_put _ _ _ | exact small_take _ _ | exact small_all _ _ _ | exact small_nil | exact small_right (by assumption) | exact small_one (small_at (by assumption) hx1) | exact small_one (by assumption))) (.cons lend_ars (.cons lend_ars .nil)) rfl rfl rfl rfl rfl rfl rfl rfl (fun v L' I' hq6 => ?_))
          obtain ⟨hv1, rfl, rfl⟩ := hq6
          refine ⟨rfl, ?_⟩
          obtain rfl : v = .bool true := by rw [hv1, decide_eq_true (show max = max ∧ (fewL l) = (fewL (fewL l)) from ⟨rfl, (few_few l).symm⟩)]
          refine st rfl (o_y (v := .bool true) (y_pick rfl rfl) rfl rfl rfl ?_)
          refine st rfl (o_y (v := .bool true) (y_mv rfl) rfl rfl rfl ?_)
          refine st_on 81 rfl rfl rfl (o_y (v := .int .i64 ((putF max (fewL l) (cutS item)).2.2)) (y_mv rfl) rfl rfl rfl ?_)
          refine e_by ((putF max (fewL l) (cutS item)).2.2 = 0) (fun h32 => ?_) (fun h32 => ?_)
          ·
            refine st_on 81 rfl rfl rfl (o_y (v := .bool true) (y_b (y_k (v := .bool (((putF max (fewL l) (cutS item)).2.2) == 0)) rfl rfl (fun _ => by kernel_rfl)) (beq_iff_eq.2 h32)) rfl rfl rfl ?_)
            refine st_on 81 rfl rfl rfl (o_y (v := .bool true) (y_mv rfl) rfl rfl rfl ?_)
            refine st_off 84 rfl rfl rfl rfl rfl rfl ?_
            refine st_off 84 rfl rfl rfl rfl rfl rfl ?_
            refine st_off 84 rfl rfl rfl rfl rfl rfl ?_
            refine st_off 84 rfl rfl rfl rfl rfl rfl ?_
            refine st_on 81 rfl rfl rfl (o_y (v := .bool true) (y_pick rfl rfl) rfl rfl rfl ?_)
            refine st rfl (o_y (v := .bool true) (y_pick rfl rfl) rfl rfl rfl ?_)
            refine st rfl (o_y (v := .bool true) (y_mv rfl) rfl rfl rfl ?_)
            refine st_on 91 rfl rfl rfl (o_y (v := .int .i64 ((takeF max (fewL l)).2.2.2)) (y_mv rfl) rfl rfl rfl ?_)
            refine e_by ((takeF max (fewL l)).2.2.2 = 0) (fun h33 => ?_) (fun h33 => ?_)
            ·
              refine st_on 91 rfl rfl rfl (o_y (v := .bool true) (y_b (y_k (v := .bool (((takeF max (fewL l)).2.2.2) == 0)) rfl rfl (fun _ => by kernel_rfl)) (beq_iff_eq.2 h33)) rfl rfl rfl ?_)
              refine st_on 91 rfl rfl rfl (o_y (v := .bool true) (y_mv rfl) rfl rfl rfl ?_)
              refine st_off 94 rfl rfl rfl rfl rfl rfl ?_
              refine st_off 94 rfl rfl rfl rfl rfl rfl ?_
              refine st_off 94 rfl rfl rfl rfl rfl rfl ?_
              refine st_off 94 rfl rfl rfl rfl rfl rfl ?_
              refine st_on 91 rfl rfl rfl (o_y (v := .bool true) (y_pick rfl rfl) rfl rfl rfl ?_)
              refine st rfl (o_y (v := .bool true) (y_pick rfl rfl) rfl rfl rfl ?_)
              refine st rfl (o_y (v := .bool true) (y_mv rfl) rfl rfl rfl ?_)
              refine st_on 101 rfl rfl rfl (o_y (v := .int .i64 ((allF max (fewL l) ([] : List ByteArray)).2.2.2)) (y_mv rfl) rfl rfl rfl ?_)
              refine e_by ((allF max (fewL l) ([] : List ByteArray)).2.2.2 = 0) (fun h34 => ?_) (fun h34 => ?_)
              ·
                refine st_on 101 rfl rfl rfl (o_y (v := .bool true) (y_b (y_k (v := .bool (((allF max (fewL l) ([] : List ByteArray)).2.2.2) == 0)) rfl rfl (fun _ => by kernel_rfl)) (beq_iff_eq.2 h34)) rfl rfl rfl ?_)
                refine st_on 101 rfl rfl rfl (o_y (v := .bool true) (y_mv rfl) rfl rfl rfl ?_)
                refine st_off 104 rfl rfl rfl rfl rfl rfl ?_
                refine st_off 104 rfl rfl rfl rfl rfl rfl ?_
                refine st_off 104 rfl rfl rfl rfl rfl rfl ?_
                refine st_off 104 rfl rfl rfl rfl rfl rfl ?_
                refine st_on 101 rfl rfl rfl (o_y (v := .bool true) (y_pick rfl rfl) rfl rfl rfl ?_)
                refine st rfl (o_y (v := .bool true) (y_pick rfl rfl) rfl rfl rfl ?_)
                refine st rfl (o_y (v := .bool true) (y_as rfl) rfl rfl rfl ?_)
                refine s_nil ?_
                refine q_then ?_
                refine c_ret ?_
                refine c_fin (I' := []) [] [1, 2, 3, 4, 5, 6, 7] rfl (.tmp rfl .nil) rfl rfl rfl ?_
                exact ⟨rfl, rfl, rfl⟩
              ·
                refine st_on 101 rfl rfl rfl (o_y (v := .bool false) (y_b (y_k (v := .bool (((allF max (fewL l) ([] : List ByteArray)).2.2.2) == 0)) rfl rfl (fun _ => by kernel_rfl)) (beq_eq_false_iff_ne.2 h34)) rfl rfl rfl ?_)
                refine st_on 101 rfl rfl rfl (o_y (v := .bool false) (y_mv rfl) rfl rfl rfl ?_)
                refine st_on 104 rfl rfl rfl (o_y (v := .pointer (some ⟨b5, 1, none⟩)) (y_k rfl rfl (fun _ => by kernel_rfl)) rfl rfl rfl ?_)
                refine st_on 104 rfl rfl rfl (o_ld 2 rfl rfl rfl Tryd.underlying22 rfl rfl ?_)
                refine st_on 104 rfl rfl rfl (o_y (v := .int .i64 (lq17.length : Int)) (y_k rfl rfl (fun _ => by kernel_rfl)) rfl rfl rfl ?_)
                refine e_by ((lq17.length : Int) = 0) (fun h35 => ?_) (fun h35 => ?_)
                ·
                  refine st_on 104 rfl rfl rfl (o_y (v := .bool true) (y_b (y_k (v := .bool ((lq17.length : Int) == 0)) rfl rfl (fun _ => by kernel_rfl)) (beq_iff_eq.2 h35)) rfl rfl rfl ?_)
                  refine st_on 101 rfl rfl rfl (o_y (v := .bool true) (y_pick rfl rfl) rfl rfl rfl ?_)
                  refine st rfl (o_y (v := .bool true) (y_pick rfl rfl) rfl rfl rfl ?_)
                  refine st rfl (o_y (v := .bool true) (y_as rfl) rfl rfl rfl ?_)
                  refine s_nil ?_
                  refine q_then ?_
                  refine c_ret ?_
                  refine c_fin (I' := []) [] [1, 2, 3, 4, 5, 6, 7] rfl (.tmp rfl .nil) rfl rfl rfl ?_
                  exact ⟨rfl, rfl, rfl⟩
                ·
                  refine st_on 104 rfl rfl rfl (o_y (v := .bool false) (y_b (y_k (v := .bool ((lq17.length : Int) == 0)) rfl rfl (fun _ => by kernel_rfl)) (beq_eq_false_iff_ne.2 h35)) rfl rfl rfl ?_)
                  refine st_on 101 rfl rfl rfl (o_y (v := .bool false) (y_pick rfl rfl) rfl rfl rfl ?_)
                  refine st rfl (o_y (v := .bool false) (y_pick rfl rfl) rfl rfl rfl ?_)
                  refine st rfl (o_y (v := .bool false) (y_as rfl) rfl rfl rfl ?_)
                  refine s_nil ?_
                  refine q_then ?_
                  refine c_ret ?_
                  refine c_fin (I' := []) [] [1, 2, 3, 4, 5, 6, 7] rfl (.tmp rfl .nil) rfl rfl rfl ?_
                  exact ⟨by exfalso; first | (have := putF_len (max := max) (l := fewL l) (s := cutS item) (by assumption); omega) | (have := takeF_len (max := max) (l := fewL l) (by assumption); omega) | (have := allF_len (max := max) (l := fewL l) (r := []) (by assumption); omega), rfl, rfl⟩
            ·
              refine st_on 91 rfl rfl rfl (o_y (v := .bool false) (y_b (y_k (v := .bool (((takeF max (fewL l)).2.2.2) == 0)) rfl rfl (fun _ => by kernel_rfl)) (beq_eq_false_iff_ne.2 h33)) rfl rfl rfl ?_)
              refine st_on 91 rfl rfl rfl (o_y (v := .bool false) (y_mv rfl) rfl rfl rfl ?_)
              refine st_on 94 rfl rfl rfl (o_y (v := .pointer (some ⟨b4, 1, none⟩)) (y_k rfl rfl (fun _ => by kernel_rfl)) rfl rfl rfl ?_)
              refine st_on 94 rfl rfl rfl (o_ld 4 rfl rfl rfl Tryd.underlying22 rfl rfl ?_)
              refine st_on 94 rfl rfl rfl (o_y (v := .int .i64 (lq16.length : Int)) (y_k rfl rfl (fun _ => by kernel_rfl)) rfl rfl rfl ?_)
              refine e_by ((lq16.length : Int) = 0) (fun h36 => ?_) (fun h36 => ?_)
              ·
                refine st_on 94 rfl rfl rfl (o_y (v := .bool true) (y_b (y_k (v := .bool ((lq16.length : Int) == 0)) rfl rfl (fun _ => by kernel_rfl)) (beq_iff_eq.2 h36)) rfl rfl rfl ?_)
                refine st_on 91 rfl rfl rfl (o_y (v := .bool true) (y_pick rfl rfl) rfl rfl rfl ?_)
                refine st rfl (o_y (v := .bool true) (y_pick rfl rfl) rfl rfl rfl ?_)
                refine st rfl (o_y (v := .bool true) (y_mv rfl) rfl rfl rfl ?_)
                refine st_on 101 rfl rfl rfl (o_y (v := .int .i64 ((allF max (fewL l) ([] : List ByteArray)).2.2.2)) (y_mv rfl) rfl rfl rfl ?_)
                refine e_by ((allF max (fewL l) ([] : List ByteArray)).2.2.2 = 0) (fun h37 => ?_) (fun h37 => ?_)
                ·
                  refine st_on 101 rfl rfl rfl (o_y (v := .bool true) (y_b (y_k (v := .bool (((allF max (fewL l) ([] : List ByteArray)).2.2.2) == 0)) rfl rfl (fun _ => by kernel_rfl)) (beq_iff_eq.2 h37)) rfl rfl rfl ?_)
                  refine st_on 101 rfl rfl rfl (o_y (v := .bool true) (y_mv rfl) rfl rfl rfl ?_)
                  refine st_off 104 rfl rfl rfl rfl rfl rfl ?_
                  refine st_off 104 rfl rfl rfl rfl rfl rfl ?_
                  refine st_off 104 rfl rfl rfl rfl rfl rfl ?_
                  refine st_off 104 rfl rfl rfl rfl rfl rfl ?_
                  refine st_on 101 rfl rfl rfl (o_y (v := .bool true) (y_pick rfl rfl) rfl rfl rfl ?_)
                  refine st rfl (o_y (v := .bool true) (y_pick rfl rfl) rfl rfl rfl ?_)
                  refine st rfl (o_y (v := .bool true) (y_as rfl) rfl rfl rfl ?_)
                  refine s_nil ?_
                  refine q_then ?_
                  refine c_ret ?_
                  refine c_fin (I' := []) [] [1, 2, 3, 4, 5, 6, 7] rfl (.tmp rfl .nil) rfl rfl rfl ?_
                  exact ⟨rfl, rfl, rfl⟩
                ·
                  refine st_on 101 rfl rfl rfl (o_y (v := .bool false) (y_b (y_k (v := .bool (((allF max (fewL l) ([] : List ByteArray)).2.2.2) == 0)) rfl rfl (fun _ => by kernel_rfl)) (beq_eq_false_iff_ne.2 h37)) rfl rfl rfl ?_)
                  refine st_on 101 rfl rfl rfl (o_y (v := .bool false) (y_mv rfl) rfl rfl rfl ?_)
                  refine st_on 104 rfl rfl rfl (o_y (v := .pointer (some ⟨b5, 1, none⟩)) (y_k rfl rfl (fun _ => by kernel_rfl)) rfl rfl rfl ?_)
                  refine st_on 104 rfl rfl rfl (o_ld 2 rfl rfl rfl Tryd.underlying22 rfl rfl ?_)
                  refine st_on 104 rfl rfl rfl (o_y (v := .int .i64 (lq17.length : Int)) (y_k rfl rfl (fun _ => by kernel_rfl)) rfl rfl rfl ?_)
                  refine e_by ((lq17.length : Int) = 0) (fun h38 => ?_) (fun h38 => ?_)
                  ·
                    refine st_on 104 rfl rfl rfl (o_y (v := .bool true) (y_b (y_k (v := .bool ((lq17.length : Int) == 0)) rfl rfl (fun _ => by kernel_rfl)) (beq_iff_eq.2 h38)) rfl rfl rfl ?_)
                    refine st_on 101 rfl rfl rfl (o_y (v := .bool true) (y_pick rfl rfl) rfl rfl rfl ?_)
                    refine st rfl (o_y (v := .bool true) (y_pick rfl rfl) rfl rfl rfl ?_)
                    refine st rfl (o_y (v := .bool true) (y_as rfl) rfl rfl rfl ?_)
                    refine s_nil ?_
                    refine q_then ?_
                    refine c_ret ?_
                    refine c_fin (I' := []) [] [1, 2, 3, 4, 5, 6, 7] rfl (.tmp rfl .nil) rfl rfl rfl ?_
                    exact ⟨rfl, rfl, rfl⟩
                  ·
                    refine st_on 104 rfl rfl rfl (o_y (v := .bool false) (y_b (y_k (v := .bool ((lq17.length : Int) == 0)) rfl rfl (fun _ => by kernel_rfl)) (beq_eq_false_iff_ne.2 h38)) rfl rfl rfl ?_)
                    refine st_on 101 rfl rfl rfl (o_y (v := .bool false) (y_pick rfl rfl) rfl rfl rfl ?_)
                    refine st rfl (o_y (v := .bool false) (y_pick rfl rfl) rfl rfl rfl ?_)
                    refine st rfl (o_y (v := .bool false) (y_as rfl) rfl rfl rfl ?_)
                    refine s_nil ?_
                    refine q_then ?_
                    refine c_ret ?_
                    refine c_fin (I' := []) [] [1, 2, 3, 4, 5, 6, 7] rfl (.tmp rfl .nil) rfl rfl rfl ?_
                    exact ⟨by exfalso; first | (have := putF_len (max := max) (l := fewL l) (s := cutS item) (by assumption); omega) | (have := takeF_len (max := max) (l := fewL l) (by assumption); omega) | (have := allF_len (max := max) (l := fewL l) (r := []) (by assumption); omega), rfl, rfl⟩
              ·
                refine st_on 94 rfl rfl rfl (o_y (v := .bool false) (y_b (y_k (v := .bool ((lq16.length : Int) == 0)) rfl rfl (fun _ => by kernel_rfl)) (beq_eq_false_iff_ne.2 h36)) rfl rfl rfl ?_)
                refine st_on 91 rfl rfl rfl (o_y (v := .bool false) (y_pick rfl rfl) rfl rfl rfl ?_)
                refine st rfl (o_y (v := .bool false) (y_pick rfl rfl) rfl rfl rfl ?_)
                refine st rfl (o_y (v := .bool false) (y_mv rfl) rfl rfl rfl ?_)
                refine st_off 101 rfl rfl rfl rfl rfl rfl ?_
                refine st_off 101 rfl rfl rfl rfl rfl rfl ?_
                refine st_off 101 rfl rfl rfl rfl rfl rfl ?_
                refine st_offu 104 rfl rfl rfl rfl rfl ?_
                refine st_offu 104 rfl rfl rfl rfl rfl ?_
                refine st_offu 104 rfl rfl rfl rfl rfl ?_
                refine st_offu 104 rfl rfl rfl rfl rfl ?_
                refine st_off 101 rfl rfl rfl rfl rfl rfl ?_
                refine st rfl (o_y (v := .bool false) (y_pick rfl rfl) rfl rfl rfl ?_)
                refine st rfl (o_y (v := .bool false) (y_as rfl) rfl rfl rfl ?_)
                refine s_nil ?_
                refine q_then ?_
                refine c_ret ?_
                refine c_fin (I' := []) [] [1, 2, 3, 4, 5, 6, 7] rfl (.tmp rfl .nil) rfl rfl rfl ?_
                exact ⟨by exfalso; first | (have := putF_len (max := max) (l := fewL l) (s := cutS item) (by assumption); omega) | (have := takeF_len (max := max) (l := fewL l) (by assumption); omega) | (have := allF_len (max := max) (l := fewL l) (r := []) (by assumption); omega), rfl, rfl⟩
          ·
            refine st_on 81 rfl rfl rfl (o_y (v := .bool false) (y_b (y_k (v := .bool (((putF max (fewL l) (cutS item)).2.2) == 0)) rfl rfl (fun _ => by kernel_rfl)) (beq_eq_false_iff_ne.2 h32)) rfl rfl rfl ?_)
            refine st_on 81 rfl rfl rfl (o_y (v := .bool false) (y_mv rfl) rfl rfl rfl ?_)
            refine st_on 84 rfl rfl rfl (o_y (v := .pointer (some ⟨b3, 1, none⟩)) (y_k rfl rfl (fun _ => by kernel_rfl)) rfl rfl rfl ?_)
            refine st_on 84 rfl rfl rfl (o_ld 6 rfl rfl rfl Tryd.underlying22 rfl rfl ?_)
            refine st_on 84 rfl rfl rfl (o_y (v := .int .i64 (lq15.length : Int)) (y_k rfl rfl (fun _ => by kernel_rfl)) rfl rfl rfl ?_)
            refine e_by ((lq15.length : Int) = 0) (fun h39 => ?_) (fun h39 => ?_)
            ·
              refine st_on 84 rfl rfl rfl (o_y (v := .bool true) (y_b (y_k (v := .bool ((lq15.length : Int) == 0)) rfl rfl (fun _ => by kernel_rfl)) (beq_iff_eq.2 h39)) rfl rfl rfl ?_)
              refine st_on 81 rfl rfl rfl (o_y (v := .bool true) (y_pick rfl rfl) rfl rfl rfl ?_)
              refine st rfl (o_y (v := .bool true) (y_pick rfl rfl) rfl rfl rfl ?_)
              refine st rfl (o_y (v := .bool true) (y_mv rfl) rfl rfl rfl ?_)
              refine st_on 91 rfl rfl rfl (o_y (v := .int .i64 ((takeF max (fewL l)).2.2.2)) (y_mv rfl) rfl rfl rfl ?_)
              refine e_by ((takeF max (fewL l)).2.2.2 = 0) (fun h40 => ?_) (fun h40 => ?_)
              ·
                refine st_on 91 rfl rfl rfl (o_y (v := .bool true) (y_b (y_k (v := .bool (((takeF max (fewL l)).2.2.2) == 0)) rfl rfl (fun _ => by kernel_rfl)) (beq_iff_eq.2 h40)) rfl rfl rfl ?_)
                refine st_on 91 rfl rfl rfl (o_y (v := .bool true) (y_mv rfl) rfl rfl rfl ?_)
                refine st_off 94 rfl rfl rfl rfl rfl rfl ?_
                refine st_off 94 rfl rfl rfl rfl rfl rfl ?_
                refine st_off 94 rfl rfl rfl rfl rfl rfl ?_
                refine st_off 94 rfl rfl rfl rfl rfl rfl ?_
                refine st_on 91 rfl rfl rfl (o_y (v := .bool true) (y_pick rfl rfl) rfl rfl rfl ?_)
                refine st rfl (o_y (v := .bool true) (y_pick rfl rfl) rfl rfl rfl ?_)
                refine st rfl (o_y (v := .bool true) (y_mv rfl) rfl rfl rfl ?_)
                refine st_on 101 rfl rfl rfl (o_y (v := .int .i64 ((allF max (fewL l) ([] : List ByteArray)).2.2.2)) (y_mv rfl) rfl rfl rfl ?_)
                refine e_by ((allF max (fewL l) ([] : List ByteArray)).2.2.2 = 0) (fun h41 => ?_) (fun h41 => ?_)
                ·
                  refine st_on 101 rfl rfl rfl (o_y (v := .bool true) (y_b (y_k (v := .bool (((allF max (fewL l) ([] : List ByteArray)).2.2.2) == 0)) rfl rfl (fun _ => by kernel_rfl)) (beq_iff_eq.2 h41)) rfl rfl rfl ?_)
                  refine st_on 101 rfl rfl rfl (o_y (v := .bool true) (y_mv rfl) rfl rfl rfl ?_)
                  refine st_off 104 rfl rfl rfl rfl rfl rfl ?_
                  refine st_off 104 rfl rfl rfl rfl rfl rfl ?_
                  refine st_off 104 rfl rfl rfl rfl rfl rfl ?_
                  refine st_off 104 rfl rfl rfl rfl rfl rfl ?_
                  refine st_on 101 rfl rfl rfl (o_y (v := .bool true) (y_pick rfl rfl) rfl rfl rfl ?_)
                  refine st rfl (o_y (v := .bool true) (y_pick rfl rfl) rfl rfl rfl ?_)
                  refine st rfl (o_y (v := .bool true) (y_as rfl) rfl rfl rfl ?_)
                  refine s_nil ?_
                  refine q_then ?_
                  refine c_ret ?_
                  refine c_fin (I' := []) [] [1, 2, 3, 4, 5, 6, 7] rfl (.tmp rfl .nil) rfl rfl rfl ?_
                  exact ⟨rfl, rfl, rfl⟩
                ·
                  refine st_on 101 rfl rfl rfl (o_y (v := .bool false) (y_b (y_k (v := .bool (((allF max (fewL l) ([] : List ByteArray)).2.2.2) == 0)) rfl rfl (fun _ => by kernel_rfl)) (beq_eq_false_iff_ne.2 h41)) rfl rfl rfl ?_)
                  refine st_on 101 rfl rfl rfl (o_y (v := .bool false) (y_mv rfl) rfl rfl rfl ?_)
                  refine st_on 104 rfl rfl rfl (o_y (v := .pointer (some ⟨b5, 1, none⟩)) (y_k rfl rfl (fun _ => by kernel_rfl)) rfl rfl rfl ?_)
                  refine st_on 104 rfl rfl rfl (o_ld 2 rfl rfl rfl Tryd.underlying22 rfl rfl ?_)
                  refine st_on 104 rfl rfl rfl (o_y (v := .int .i64 (lq17.length : Int)) (y_k rfl rfl (fun _ => by kernel_rfl)) rfl rfl rfl ?_)
                  refine e_by ((lq17.length : Int) = 0) (fun h42 => ?_) (fun h42 => ?_)
                  ·
                    refine st_on 104 rfl rfl rfl (o_y (v := .bool true) (y_b (y_k (v := .bool ((lq17.length : Int) == 0)) rfl rfl (fun _ => by kernel_rfl)) (beq_iff_eq.2 h42)) rfl rfl rfl ?_)
                    refine st_on 101 rfl rfl rfl (o_y (v := .bool true) (y_pick rfl rfl) rfl rfl rfl ?_)
                    refine st rfl (o_y (v := .bool true) (y_pick rfl rfl) rfl rfl rfl ?_)
                    refine st rfl (o_y (v := .bool true) (y_as rfl) rfl rfl rfl ?_)
                    refine s_nil ?_
                    refine q_then ?_
                    refine c_ret ?_
                    refine c_fin (I' := []) [] [1, 2, 3, 4, 5, 6, 7] rfl (.tmp rfl .nil) rfl rfl rfl ?_
                    exact ⟨rfl, rfl, rfl⟩
                  ·
                    refine st_on 104 rfl rfl rfl (o_y (v := .bool false) (y_b (y_k (v := .bool ((lq17.length : Int) == 0)) rfl rfl (fun _ => by kernel_rfl)) (beq_eq_false_iff_ne.2 h42)) rfl rfl rfl ?_)
                    refine st_on 101 rfl rfl rfl (o_y (v := .bool false) (y_pick rfl rfl) rfl rfl rfl ?_)
                    refine st rfl (o_y (v := .bool false) (y_pick rfl rfl) rfl rfl rfl ?_)
                    refine st rfl (o_y (v := .bool false) (y_as rfl) rfl rfl rfl ?_)
                    refine s_nil ?_
                    refine q_then ?_
                    refine c_ret ?_
                    refine c_fin (I' := []) [] [1, 2, 3, 4, 5, 6, 7] rfl (.tmp rfl .nil) rfl rfl rfl ?_
                    exact ⟨by exfalso; first | (have := putF_len (max := max) (l := fewL l) (s := cutS item) (by assumption); omega) | (have := takeF_len (max := max) (l := fewL l) (by assumption); omega) | (have := allF_len (max := max) (l := fewL l) (r := []) (by assumption); omega), rfl, rfl⟩
              ·
                refine st_on 91 rfl rfl rfl (o_y (v := .bool false) (y_b (y_k (v := .bool (((takeF max (fewL l)).2.2.2) == 0)) rfl rfl (fun _ => by kernel_rfl)) (beq_eq_false_iff_ne.2 h40)) rfl rfl rfl ?_)
                refine st_on 91 rfl rfl rfl (o_y (v := .bool false) (y_mv rfl) rfl rfl rfl ?_)
                refine st_on 94 rfl rfl rfl (o_y (v := .pointer (some ⟨b4, 1, none⟩)) (y_k rfl rfl (fun _ => by kernel_rfl)) rfl rfl rfl ?_)
                refine st_on 94 rfl rfl rfl (o_ld 4 rfl rfl rfl Tryd.underlying22 rfl rfl ?_)
                refine st_on 94 rfl rfl rfl (o_y (v := .int .i64 (lq16.length : Int)) (y_k rfl rfl (fun _ => by kernel_rfl)) rfl rfl rfl ?_)
                refine e_by ((lq16.length : Int) = 0) (fun h43 => ?_) (fun h43 => ?_)
                ·
                  refine st_on 94 rfl rfl rfl (o_y (v := .bool true) (y_b (y_k (v := .bool ((lq16.length : Int) == 0)) rfl rfl (fun _ => by kernel_rfl)) (beq_iff_eq.2 h43)) rfl rfl rfl ?_)
                  refine st_on 91 rfl rfl rfl (o_y (v := .bool true) (y_pick rfl rfl) rfl rfl rfl ?_)
                  refine st rfl (o_y (v := .bool true) (y_pick rfl rfl) rfl rfl rfl ?_)
                  refine st rfl (o_y (v := .bool true) (y_mv rfl) rfl rfl rfl ?_)
                  refine st_on 101 rfl rfl rfl (o_y (v := .int .i64 ((allF max (fewL l) ([] : List ByteArray)).2.2.2)) (y_mv rfl) rfl rfl rfl ?_)
                  refine e_by ((allF max (fewL l) ([] : List ByteArray)).2.2.2 = 0) (fun h44 => ?_) (fun h44 => ?_)
                  ·
                    refine st_on 101 rfl rfl rfl (o_y (v := .bool true) (y_b (y_k (v := .bool (((allF max (fewL l) ([] : List ByteArray)).2.2.2) == 0)) rfl rfl (fun _ => by kernel_rfl)) (beq_iff_eq.2 h44)) rfl rfl rfl ?_)
                    refine st_on 101 rfl rfl rfl (o_y (v := .bool true) (y_mv rfl) rfl rfl rfl ?_)
                    refine st_off 104 rfl rfl rfl rfl rfl rfl ?_
                    refine st_off 104 rfl rfl rfl rfl rfl rfl ?_
                    refine st_off 104 rfl rfl rfl rfl rfl rfl ?_
                    refine st_off 104 rfl rfl rfl rfl rfl rfl ?_
                    refine st_on 101 rfl rfl rfl (o_y (v := .bool true) (y_pick rfl rfl) rfl rfl rfl ?_)
                    refine st rfl (o_y (v := .bool true) (y_pick rfl rfl) rfl rfl rfl ?_)
                    refine st rfl (o_y (v := .bool true) (y_as rfl) rfl rfl rfl ?_)
                    refine s_nil ?_
                    refine q_then ?_
                    refine c_ret ?_
                    refine c_fin (I' := []) [] [1, 2, 3, 4, 5, 6, 7] rfl (.tmp rfl .nil) rfl rfl rfl ?_
                    exact ⟨rfl, rfl, rfl⟩
                  ·
                    refine st_on 101 rfl rfl rfl (o_y (v := .bool false) (y_b (y_k (v := .bool (((allF max (fewL l) ([] : List ByteArray)).2.2.2) == 0)) rfl rfl (fun _ => by kernel_rfl)) (beq_eq_false_iff_ne.2 h44)) rfl rfl rfl ?_)
                    refine st_on 101 rfl rfl rfl (o_y (v := .bool false) (y_mv rfl) rfl rfl rfl ?_)
                    refine st_on 104 rfl rfl rfl (o_y (v := .pointer (some ⟨b5, 1, none⟩)) (y_k rfl rfl (fun _ => by kernel_rfl)) rfl rfl rfl ?_)
                    refine st_on 104 rfl rfl rfl (o_ld 2 rfl rfl rfl Tryd.underlying22 rfl rfl ?_)
                    refine st_on 104 rfl rfl rfl (o_y (v := .int .i64 (lq17.length : Int)) (y_k rfl rfl (fun _ => by kernel_rfl)) rfl rfl rfl ?_)
                    refine e_by ((lq17.length : Int) = 0) (fun h45 => ?_) (fun h45 => ?_)
                    ·
                      refine st_on 104 rfl rfl rfl (o_y (v := .bool true) (y_b (y_k (v := .bool ((lq17.length : Int) == 0)) rfl rfl (fun _ => by kernel_rfl)) (beq_iff_eq.2 h45)) rfl rfl rfl ?_)
                      refine st_on 101 rfl rfl rfl (o_y (v := .bool true) (y_pick rfl rfl) rfl rfl rfl ?_)
                      refine st rfl (o_y (v := .bool true) (y_pick rfl rfl) rfl rfl rfl ?_)
                      refine st rfl (o_y (v := .bool true) (y_as rfl) rfl rfl rfl ?_)
                      refine s_nil ?_
                      refine q_then ?_
                      refine c_ret ?_
                      refine c_fin (I' := []) [] [1, 2, 3, 4, 5, 6, 7] rfl (.tmp rfl .nil) rfl rfl rfl ?_
                      exact ⟨rfl, rfl, rfl⟩
                    ·
                      refine st_on 104 rfl rfl rfl (o_y (v := .bool false) (y_b (y_k (v := .bool ((lq17.length : Int) == 0)) rfl rfl (fun _ => by kernel_rfl)) (beq_eq_false_iff_ne.2 h45)) rfl rfl rfl ?_)
                      refine st_on 101 rfl rfl rfl (o_y (v := .bool false) (y_pick rfl rfl) rfl rfl rfl ?_)
                      refine st rfl (o_y (v := .bool false) (y_pick rfl rfl) rfl rfl rfl ?_)
                      refine st rfl (o_y (v := .bool false) (y_as rfl) rfl rfl rfl ?_)
                      refine s_nil ?_
                      refine q_then ?_
                      refine c_ret ?_
                      refine c_fin (I' := []) [] [1, 2, 3, 4, 5, 6, 7] rfl (.tmp rfl .nil) rfl rfl rfl ?_
                      exact ⟨by exfalso; first | (have := putF_len (max := max) (l := fewL l) (s := cutS item) (by assumption); omega) | (have := takeF_len (max := max) (l := fewL l) (by assumption); omega) | (have := allF_len (max := max) (l := fewL l) (r := []) (by assumption); omega), rfl, rfl⟩
                ·
                  refine st_on 94 rfl rfl rfl (o_y (v := .bool false) (y_b (y_k (v := .bool ((lq16.length : Int) == 0)) rfl rfl (fun _ => by kernel_rfl)) (beq_eq_false_iff_ne.2 h43)) rfl rfl rfl ?_)
                  refine st_on 91 rfl rfl rfl (o_y (v := .bool false) (y_pick rfl rfl) rfl rfl rfl ?_)
                  refine st rfl (o_y (v := .bool false) (y_pick rfl rfl) rfl rfl rfl ?_)
                  refine st rfl (o_y (v := .bool false) (y_mv rfl) rfl rfl rfl ?_)
                  refine st_off 101 rfl rfl rfl rfl rfl rfl ?_
                  refine st_off 101 rfl rfl rfl rfl rfl rfl ?_
                  refine st_off 101 rfl rfl rfl rfl rfl rfl ?_
                  refine st_offu 104 rfl rfl rfl rfl rfl ?_
                  refine st_offu 104 rfl rfl rfl rfl rfl ?_
                  refine st_offu 104 rfl rfl rfl rfl rfl ?_
                  refine st_offu 104 rfl rfl rfl rfl rfl ?_
                  refine st_off 101 rfl rfl rfl rfl rfl rfl ?_
                  refine st rfl (o_y (v := .bool false) (y_pick rfl rfl) rfl rfl rfl ?_)
                  refine st rfl (o_y (v := .bool false) (y_as rfl) rfl rfl rfl ?_)
                  refine s_nil ?_
                  refine q_then ?_
                  refine c_ret ?_
                  refine c_fin (I' := []) [] [1, 2, 3, 4, 5, 6, 7] rfl (.tmp rfl .nil) rfl rfl rfl ?_
                  exact ⟨by exfalso; first | (have := putF_len (max := max) (l := fewL l) (s := cutS item) (by assumption); omega) | (have := takeF_len (max := max) (l := fewL l) (by assumption); omega) | (have := allF_len (max := max) (l := fewL l) (r := []) (by assumption); omega), rfl, rfl⟩
            ·
              refine st_on 84 rfl rfl rfl (o_y (v := .bool false) (y_b (y_k (v := .bool ((lq15.length : Int) == 0)) rfl rfl (fun _ => by kernel_rfl)) (beq_eq_false_iff_ne.2 h39)) rfl rfl rfl ?_)
              refine st_on 81 rfl rfl rfl (o_y (v := .bool false) (y_pick rfl rfl) rfl rfl rfl ?_)
              refine st rfl (o_y (v := .bool false) (y_pick rfl rfl) rfl rfl rfl ?_)
              refine st rfl (o_y (v := .bool false) (y_mv rfl) rfl rfl rfl ?_)
              refine st_off 91 rfl rfl rfl rfl rfl rfl ?_
              refine st_off 91 rfl rfl rfl rfl rfl rfl ?_
              refine st_off 91 rfl rfl rfl rfl rfl rfl ?_
              refine st_offu 94 rfl rfl rfl rfl rfl ?_
              refine st_offu 94 rfl rfl rfl rfl rfl ?_
              refine st_offu 94 rfl rfl rfl rfl rfl ?_
              refine st_offu 94 rfl rfl rfl rfl rfl ?_
              refine st_off 91 rfl rfl rfl rfl rfl rfl ?_
              refine st rfl (o_y (v := .bool false) (y_pick rfl rfl) rfl rfl rfl ?_)
              refine st rfl (o_y (v := .bool false) (y_mv rfl) rfl rfl rfl ?_)
              refine st_off 101 rfl rfl rfl rfl rfl rfl ?_
              refine st_off 101 rfl rfl rfl rfl rfl rfl ?_
              refine st_off 101 rfl rfl rfl rfl rfl rfl ?_
              refine st_offu 104 rfl rfl rfl rfl rfl ?_
              refine st_offu 104 rfl rfl rfl rfl rfl ?_
              refine st_offu 104 rfl rfl rfl rfl rfl ?_
              refine st_offu 104 rfl rfl rfl rfl rfl ?_
              refine st_off 101 rfl rfl rfl rfl rfl rfl ?_
              refine st rfl (o_y (v := .bool false) (y_pick rfl rfl) rfl rfl rfl ?_)
              refine st rfl (o_y (v := .bool false) (y_as rfl) rfl rfl rfl ?_)
              refine s_nil ?_
              refine q_then ?_
              refine c_ret ?_
              refine c_fin (I' := []) [] [1, 2, 3, 4, 5, 6, 7] rfl (.tmp rfl .nil) rfl rfl rfl ?_
              exact ⟨by exfalso; first | (have := putF_len (max := max) (l := fewL l) (s := cutS item) (by assumption); omega) | (have := takeF_len (max := max) (l := fewL l) (by assumption); omega) | (have := allF_len (max := max) (l := fewL l) (r := []) (by assumption); omega), rfl, rfl⟩
  refine a_y (i := 1) (v := .string item) (ticked 10 2) rfl (by as_aux_lemma => kernel_rfl) rfl rfl rfl (by exact y_mv rfl) ?_
  refine a_held (i := 0) (ticked 10 3) rfl (by as_aux_lemma => kernel_rfl) rfl rfl rfl (held_pt 3 rfl rfl (held_pt 3 rfl rfl held_nil)) (h_ldn (vs := [.int .i64 max, .slice A1 (fewL l).length c1]) 0 2 rfl rfl rfl Tryd.underlying24 rfl (by kernel_rfl) (by kernel_rfl)) ?_
  refine a_each (rs := [2, 7]) (by as_aux_lemma => kernel_rfl) (.cons (ticked 10 7) rfl rfl rfl ?_ (.cons (ticked 10 131) rfl rfl rfl ?_ .nil)) (List.cons_ne_nil _ _)
  ·
    refine o_call [] [] (cut_ item) rfl rfl rfl rfl rfl rfl (fun v L' I' hq7 => ?_)
    obtain ⟨h46, rfl, rfl, rfl⟩ := hq7
    refine a_and (held_pt 3 rfl rfl (held_pt 3 rfl rfl held_nil)) ?_
    refine a_each (rs := [3, 7]) (by as_aux_lemma => kernel_rfl) (.cons (ticked 10 15) rfl rfl rfl ?_ (.cons (ticked 10 135) rfl rfl rfl ?_ .nil)) (List.cons_ne_nil _ _)
    ·
      refine o_lend [2] [] [1, 2, 3, 4, 5, 6] (Put_ A1 c1 (fewL l) max (cutS item) ea ef ee (by assumption) (by assumption) (by assumption) (by first | assumption | exact small_put _ _ _ | exact small_take _ _ | exact small_all _ _ _ | exact small_nil | exact small_right (by assumption) | exact small_one (small_at (by assumption) hx1) | exact small_one (by assumption)) (by first | assumption | omega | decide | exact small_at (by assumption) hx1)) (.cons lend_ars .nil) rfl rfl rfl rfl rfl rfl rfl rfl (fun v L' I' hq8 => ?_)
      obtain ⟨A6, c6, rfl, rfl, rfl⟩ := hq8
      refine ⟨rfl, ?_⟩
      refine a_and (held_pt 4 rfl rfl (held_pt 4 rfl rfl held_nil)) ?_
      refine a_y (i := 4) (v := .tuple #[.agg #[.int .i64 ((putF max (fewL l) (cutS item)).1), .slice A6 ((putF max (fewL l) (cutS item)).2.1).length c6], .int .i64 ((putF max (fewL l) (cutS item)).2.2)]) (ticked 10 31) rfl (by as_aux_lemma => kernel_rfl) rfl rfl rfl (by exact y_mv rfl) ?_
      refine a_y (i := 5) (v := .agg #[.int .i64 ((putF max (fewL l) (cutS item)).1), .slice A6 ((putF max (fewL l) (cutS item)).2.1).length c6]) (ticked 10 63) rfl (by as_aux_lemma => kernel_rfl) rfl rfl rfl (by exact y_k rfl rfl (fun _ => by kernel_rfl)) ?_
      refine a_y (i := 6) (v := .int .i64 ((putF max (fewL l) (cutS item)).2.2)) (ticked 10 127) rfl (by as_aux_lemma => kernel_rfl) rfl rfl rfl (by exact y_k rfl rfl (fun _ => by kernel_rfl)) ?_
      refine a_each (rs := [7]) (by as_aux_lemma => kernel_rfl) (.cons (ticked 10 255) rfl rfl rfl (o_box (cs := [.int .i64 0, .slice none 0 0]) (T := 24) rfl rfl rfl rfl (fun _ => by kernel_rfl) (fun b9 => ?_)) .nil) (List.cons_ne_nil _ _)
      refine a_and (held_pt 5 rfl rfl (held_pt 5 rfl rfl held_nil)) ?_
      refine a_each (rs := [8]) (by as_aux_lemma => kernel_rfl) (.cons (ticked 10 511) rfl rfl rfl (o_st 0 rfl rfl rfl rfl rfl (by kernel_rfl) (by kernel_rfl) rfl ?_) .nil) (List.cons_ne_nil _ _)
      refine a_and (held_pt 5 rfl rfl (held_pt 5 rfl rfl held_nil)) ?_
      refine a_y (i := 9) (v := .int .i64 ((putF max (fewL l) (cutS item)).2.2)) (ticked 10 1023) rfl (by as_aux_lemma => kernel_rfl) rfl rfl rfl (by exact y_as rfl) ?_
      refine a_done (by as_aux_lemma => kernel_rfl) ?_
      refine e_norm (e' := [(2, .pointer (some ⟨b1, 0, none⟩)), (4, .bool false), (5, .bool true), (6, .pointer (some ⟨b2, 0, none⟩)), (7, .pointer (some ⟨b9, 0, none⟩)), (8, .int .i64 ((putF max (fewL l) (cutS item)).2.2))]) [0, 0, 0, 0, 0, 0] [0, 1, 2, 3, 4, 5, 6] ((.cons rfl rfl (.cons rfl rfl (.cons rfl rfl (.cons rfl rfl (.cons rfl rfl (.cons rfl rfl .nil))))))) rfl rfl ?_
      exact cut1 A6 c6 b9 h46
    ·
      refine o_box (cs := [.int .i64 0, .slice none 0 0]) (T := 24) rfl rfl rfl rfl (fun _ => by kernel_rfl) (fun b10 => ?_)
      refine a_and (held_pt 4 rfl rfl (held_pt 4 rfl rfl held_nil)) ?_
      refine a_each (rs := [3]) (by as_aux_lemma => kernel_rfl) (.cons (ticked 10 143) rfl rfl rfl (o_lend [3] [] [1, 2, 3, 4, 5, 6] (Put_ A1 c1 (fewL l) max (cutS item) ea ef ee (by assumption) (by assumption) (by assumption) (by first | assumption | exact small_put _ _ _ | exact small_take _ _ | exact small_all _ _ _ | exact small_nil | exact small_right (by assumption) | exact small_one (small_at (by assumption) hx1) | exact small_one (by assumption)) (by first | assumption | omega | decide | exact small_at (by assumption) hx1)) (.cons lend_ars .nil) rfl rfl rfl rfl rfl rfl rfl rfl (fun v L' I' hq9 => ?_)) .nil) (List.cons_ne_nil _ _)
      obtain ⟨A7, c7, rfl, rfl, rfl⟩ := hq9
      refine ⟨rfl, ?_⟩
      refine a_and (held_pt 5 rfl rfl (held_pt 5 rfl rfl held_nil)) ?_
      refine a_y (i := 4) (v := .tuple #[.agg #[.int .i64 ((putF max (fewL l) (cutS item)).1), .slice A7 ((putF max (fewL l) (cutS item)).2.1).length c7], .int .i64 ((putF max (fewL l) (cutS item)).2.2)]) (ticked 10 159) rfl (by as_aux_lemma => kernel_rfl) rfl rfl rfl (by exact y_mv rfl) ?_
      refine a_y (i := 5) (v := .agg #[.int .i64 ((putF max (fewL l) (cutS item)).1), .slice A7 ((putF max (fewL l) (cutS item)).2.1).length c7]) (ticked 10 191) rfl (by as_aux_lemma => kernel_rfl) rfl rfl rfl (by exact y_k rfl rfl (fun _ => by kernel_rfl)) ?_
      refine a_y (i := 6) (v := .int .i64 ((putF max (fewL l) (cutS item)).2.2)) (ticked 10 255) rfl (by as_aux_lemma => kernel_rfl) rfl rfl rfl (by exact y_k rfl rfl (fun _ => by kernel_rfl)) ?_
      refine a_each (rs := [8]) (by as_aux_lemma => kernel_rfl) (.cons (ticked 10 511) rfl rfl rfl (o_st 2 rfl rfl rfl rfl rfl (by kernel_rfl) (by kernel_rfl) rfl ?_) .nil) (List.cons_ne_nil _ _)
      refine a_and (held_pt 5 rfl rfl (held_pt 5 rfl rfl held_nil)) ?_
      refine a_y (i := 9) (v := .int .i64 ((putF max (fewL l) (cutS item)).2.2)) (ticked 10 1023) rfl (by as_aux_lemma => kernel_rfl) rfl rfl rfl (by exact y_as rfl) ?_
      refine a_done (by as_aux_lemma => kernel_rfl) ?_
      refine e_norm (e' := [(2, .pointer (some ⟨b1, 0, none⟩)), (4, .bool false), (5, .bool true), (6, .pointer (some ⟨b2, 0, none⟩)), (7, .pointer (some ⟨b10, 0, none⟩)), (8, .int .i64 ((putF max (fewL l) (cutS item)).2.2))]) [2, 0, 0, 0, 0, 0] [0, 1, 2, 3, 4, 5, 6] ((.cons rfl rfl (.cons rfl rfl (.cons rfl rfl (.cons rfl rfl (.cons rfl rfl (.cons rfl rfl .nil))))))) rfl rfl ?_
      exact cut1 A7 c7 b10 h46
  ·
    refine o_box (cs := [.int .i64 0, .slice none 0 0]) (T := 24) rfl rfl rfl rfl (fun _ => by kernel_rfl) (fun b11 => ?_)
    refine a_and (held_pt 4 rfl rfl (held_pt 4 rfl rfl held_nil)) ?_
    refine a_each (rs := [2]) (by as_aux_lemma => kernel_rfl) (.cons (ticked 10 135) rfl rfl rfl (o_call [] [] (cut_ item) rfl rfl rfl rfl rfl rfl (fun v L' I' hq10 => ?_)) .nil) (List.cons_ne_nil _ _)
    obtain ⟨h47, rfl, rfl, rfl⟩ := hq10
    refine a_and (held_pt 4 rfl rfl (held_pt 4 rfl rfl held_nil)) ?_
    refine a_each (rs := [3]) (by as_aux_lemma => kernel_rfl) (.cons (ticked 10 143) rfl rfl rfl (o_lend [3] [] [1, 2, 3, 4, 5, 6] (Put_ A1 c1 (fewL l) max (cutS item) ea ef ee (by assumption) (by assumption) (by assumption) (by first | assumption | exact small_put _ _ _ | exact small_take _ _ | exact small_all _ _ _ | exact small_nil | exact small_right (by assumption) | exact small_one (small_at (by assumption) hx1) | exact small_one (by assumption)) (by first | assumption | omega | decide | exact small_at (by assumption) hx1)) (.cons lend_ars .nil) rfl rfl rfl rfl rfl rfl rfl rfl (fun v L' I' hq11 => ?_)) .nil) (List.cons_ne_nil _ _)
    obtain ⟨A8, c8, rfl, rfl, rfl⟩ := hq11
    refine ⟨rfl, ?_⟩
    refine a_and (held_pt 5 rfl rfl (held_pt 5 rfl rfl held_nil)) ?_
    refine a_y (i := 4) (v := .tuple #[.agg #[.int .i64 ((putF max (fewL l) (cutS item)).1), .slice A8 ((putF max (fewL l) (cutS item)).2.1).length c8], .int .i64 ((putF max (fewL l) (cutS item)).2.2)]) (ticked 10 159) rfl (by as_aux_lemma => kernel_rfl) rfl rfl rfl (by exact y_mv rfl) ?_
    refine a_y (i := 5) (v := .agg #[.int .i64 ((putF max (fewL l) (cutS item)).1), .slice A8 ((putF max (fewL l) (cutS item)).2.1).length c8]) (ticked 10 191) rfl (by as_aux_lemma => kernel_rfl) rfl rfl rfl (by exact y_k rfl rfl (fun _ => by kernel_rfl)) ?_
    refine a_y (i := 6) (v := .int .i64 ((putF max (fewL l) (cutS item)).2.2)) (ticked 10 255) rfl (by as_aux_lemma => kernel_rfl) rfl rfl rfl (by exact y_k rfl rfl (fun _ => by kernel_rfl)) ?_
    refine a_each (rs := [8]) (by as_aux_lemma => kernel_rfl) (.cons (ticked 10 511) rfl rfl rfl (o_st 2 rfl rfl rfl rfl rfl (by kernel_rfl) (by kernel_rfl) rfl ?_) .nil) (List.cons_ne_nil _ _)
    refine a_and (held_pt 5 rfl rfl (held_pt 5 rfl rfl held_nil)) ?_
    refine a_y (i := 9) (v := .int .i64 ((putF max (fewL l) (cutS item)).2.2)) (ticked 10 1023) rfl (by as_aux_lemma => kernel_rfl) rfl rfl rfl (by exact y_as rfl) ?_
    refine a_done (by as_aux_lemma => kernel_rfl) ?_
    refine e_norm (e' := [(2, .pointer (some ⟨b1, 0, none⟩)), (4, .bool false), (5, .bool true), (6, .pointer (some ⟨b2, 0, none⟩)), (7, .pointer (some ⟨b11, 0, none⟩)), (8, .int .i64 ((putF max (fewL l) (cutS item)).2.2))]) [2, 0, 0, 0, 0, 0] [0, 1, 2, 3, 4, 5, 6] ((.cons rfl rfl (.cons rfl rfl (.cons rfl rfl (.cons rfl rfl (.cons rfl rfl (.cons rfl rfl .nil))))))) rfl rfl ?_
    exact cut1 A8 c8 b11 h47
open Go.ChangeShapes Go.WideShapes Go.ChangeAt Go.Joins
theorem own : ownKnob Tryd.prog.godebug = none := by kernel_rfl
theorem laidOut : laidOutB Tryd.prog = true := by kernel_rfl
theorem gn0 : Tryd.prog.globalNamed "plimsoll/ring.errArg" = some 1 := by kernel_rfl
theorem gt0 : (Tryd.prog.globals[1]?).map (·.type) = some 47 := by kernel_rfl
theorem gn1 : Tryd.prog.globalNamed "plimsoll/ring.errFull" = some 2 := by kernel_rfl
theorem gt1 : (Tryd.prog.globals[2]?).map (·.type) = some 47 := by kernel_rfl
theorem gn2 : Tryd.prog.globalNamed "plimsoll/ring.errEmpty" = some 0 := by kernel_rfl
theorem gt2 : (Tryd.prog.globals[0]?).map (·.type) = some 47 := by kernel_rfl
theorem cellsE : Tryd.prog.cellsOf 105 = 1 := by kernel_rfl
theorem cellsS : Tryd.prog.cellsOf 9 = 1 := by kernel_rfl
theorem star : "*" ++ "errors.errorString" = "*errors.errorString" := by decide
theorem rowP (u : TypeId) (h : Tryd.prog.typeName? 3 u = some "*errors.errorString") : u = 80 :=
  typeName_ptr_named (nm := "errors.errorString") (by rw [star]; kernel_rfl) (by kernel_rfl) (by decide) u (by rw [star]; exact h)
noncomputable def laidL : List (String × DataW Unit) := Rows.ringOwnRow.laid
theorem door_met (os : Os) (args : Array Value) : laidMetH Tryd.prog laidL ((World.doorLaid Tryd.prog 400 os).forCall (fun _ _ => 0) ⟨#[], args, []⟩).memory :=
  laidMetH_of_parts3 (fuel := 8) (laidMet_of_run' 8 (by kernel_rfl) (by kernel_rfl)) (by kernel_rfl) (by kernel_rfl)
theorem of_laid {W : World} (h : laidMetH Tryd.prog laidL W) : ∃ a0 a1 a2 : Addr, Sent Tryd.prog W "plimsoll/ring.errArg" 1 80 a0 ∧ Sent Tryd.prog W "plimsoll/ring.errFull" 2 80 a1 ∧ Sent Tryd.prog W "plimsoll/ring.errEmpty" 0 80 a2 ∧ a0 ≠ a1 ∧ a0 ≠ a2 ∧ a1 ≠ a2 := by
  rw [MakeChecks.laidMetH_plain _ _ _ (by kernel_rfl)] at h
  exact laid3 h gn0 gt0 gn1 gt1 gn2 gt2 Tryd.underlying47 rowP Tryd.underlying80 Tryd.underlying105 rfl rfl Tryd.underlying9 cellsE cellsS
theorem errFact {P : Program} {W : World} {n : String} {g : Nat} {tp : TypeId} {a : Addr} (h : Sent P W n g tp a) : ∀ k, le (hpOf W) k → errAt a k := fun k hk => by
  obtain ⟨c, t, hb⟩ := h.blk
  exact ⟨c, t, hk _ _ hb⟩
set_option maxRecDepth 100000 in
theorem ringOwn_lifted (os : Os) (started : os.Started) (H : Type) (enc : TypeId × Value → H) :
    ReturnsInHanded {} Tryd.checked os 5 .any (fun w args => (Rows.ringOwnSpec.pre enc Tryd.prog Tryd.f5 [] false w args ∧ laidMetH Tryd.prog laidL w) ∧ sizedMet enc Tryd.prog Tryd.f5 (OpenSpec.ofChange Rows.ringOwnSpec) false w args)
      (Rows.ringOwnSpec.post enc Tryd.prog Tryd.f5 false true false false) := by
  refine returnsInHanded_of_change_and (C := Tryd.checked) (X := fun w _ => laidMetH Tryd.prog laidL w) (fun _ _ _ hh h => h.of_heap hh) own started (by kernel_rfl) Tryd.func5
    (ChangeSpec.witness_shaped (enc := enc) (C := Tryd.checked) (os := os) (X := fun w _ => laidMetH Tryd.prog laidL w) false (World.doorLaid Tryd.prog 400 os) #[.agg #[.int .i64 0, .slice none 0 0], .string ⟨#[]⟩] 8 rfl (World.shaped_of_RefB (by kernel_rfl) (by kernel_rfl)) (by kernel_rfl) (by kernel_rfl) (by kernel_rfl) (door_met os _)) ?_
  intro W base args ds gs before hval0 hW _ _ hL _
  have hval : ∀ (j : Nat) t v, Tryd.f5.params[j]? = some t → args[j]? = some v → Value.okWide Tryd.prog W .any base t v := hval0
  have hW' := hW
  obtain ⟨p, q, hA0, hV, rfl, hfz, hnd⟩ := hW
  have hA : DataW.TrodAll enc Tryd.prog W 0 (fun _ => true) true Tryd.f5.params.toList args.toList ds p := hA0
  rw [Tryd.params5] at hA hval
  obtain ⟨v0, v1, d0, d1, p0, p1, rfl, rfl, rfl, h0, h1⟩ := trodAll_two hA
  obtain ⟨rfl, rfl⟩ := trodVars_none hV
  obtain ⟨a0, a1, a2, s0, s1, s2, n01, n02, n12⟩ := of_laid hL
  clear hA0 hval0 hL
  simp only [List.append_nil] at hW'
  have t0 := h0
  obtain ⟨x0, z0, y0, w0, m0, rfl, _, _, g0, hf0⟩ := open_agg2 Tryd.underlying24 (by kernel_rfl) (by kernel_rfl) (hval 0 24 _ rfl rfl) h0
  obtain ⟨n0, e0, _, _⟩ := DataW.trod_int Tryd.underlying3 g0
  simp only [List.cons.injEq, and_true] at e0
  subst e0
  obtain ⟨A0, c0, l0, rfl, hr0⟩ := open_texts Tryd.underlying22 Tryd.underlying9 (by kernel_rfl) hf0
  have t1 := h1
  obtain ⟨s1', rfl⟩ := okWide_string Tryd.underlying9 (hval 1 9 _ rfl rfl)
  refine (con_calls (RingOwn_ A0 c0 l0 n0 s1' a0 a1 a2 n01 n02 n12) (Facts.cons (hr0) (Facts.cons (sent_facts s0) (Facts.cons (sent_facts s1) (Facts.cons (sent_facts s2) (Facts.cons (errFact s0) (Facts.cons (errFact s1) (Facts.cons (errFact s2) (Facts.nil _))))))))).mono fun e W' ⟨he, hb⟩ => ?_
  subst he
  have hlt : ∀ x ∈ p0 ++ p1, x.block < W.heap.size := fun x hx => by simpa using hW'.lt x (by simpa using hx)
  exact ⟨_, rfl, [d0, d1], [], _, [], p0 ++ p1, [], hW', trodAll_mk1 (shut_bool Tryd.underlying4 true), trodAll_mk2 (Below.trod laidOut (by kernel_rfl) (of_decide_eq_true (by kernel_rfl)) t0 hb (fun x hx => hlt x (by simp [hx]))) (Below.trod laidOut (by kernel_rfl) (of_decide_eq_true (by kernel_rfl)) t1 hb (fun x hx => hlt x (by simp [hx]))), rfl, hb.frame _, fun h => by cases h⟩
theorem ringOwn_holds : Rows.RingOwnSaid :=
  OpenClaim.holds_of_wide 5 Tryd.f5 rfl rfl rfl rfl rfl rfl rfl ⟨rfl, rfl, rfl, rfl, rfl⟩ rfl rfl rfl rfl rfl (by kernel_rfl) Tryd.func5 (by kernel_rfl)
    (of_decide_eq_true (by kernel_rfl)) (by unfold Func.isWrapper; first | (rw [if_pos (by decide +kernel)]; kernel_rfl) | (rw [if_neg (by decide +kernel)]; exact ⟨rfl, rfl⟩))
    (fun os started H enc _ => ringOwn_lifted os started H enc)
/-- The tied card. -/
theorem ringOwn_card : Rows.RingOwnCardSaid :=
  Claim7.holds_tied_plain_at .later [] [.sentinel, .sentinel, .sentinel] true (true, "b786713441a752de7acee6366f0947f351ff51927903928e5be71e03e352de47") true
    ringOwn_holds (fun _ h => by cases h) (by kernel_rfl) (fun _ h => by cases h) ringOwn_row_tie rfl ⟨rfl, rfl⟩ (by kernel_rfl) rfl
    (fun f fn hf hfn => by
      obtain rfl : f = 5 := Option.some.inj ((show Tryd.prog.funcNamed "plimsoll/plimsolllaw08.RingOwn" = some 5 by kernel_rfl).symm.trans hf) |>.symm
      obtain rfl : fn = Tryd.f5 := (Option.some.inj (Tryd.func5.symm.trans hfn)).symm
      exact ⟨by kernel_rfl, fun j t ht => by
        rw [Tryd.params5] at ht
        have hm : t ∈ [24, 9] := by simpa using Array.mem_of_getElem? ht
        have hall : ([24, 9].all fun u => !Tryd.prog.wantsStandIn u) = true := by kernel_rfl
        exact (show Tryd.prog.wantsStandIn t = false by simpa using List.all_eq_true.1 hall t hm)⟩)
    (by kernel_rfl)
#print axioms ringOwn_card
end Go.Proofs.YtjcjbdhkajiaeaaDoor
