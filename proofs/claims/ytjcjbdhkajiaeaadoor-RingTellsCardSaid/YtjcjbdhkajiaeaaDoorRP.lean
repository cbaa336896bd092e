/- Contracts of package ring, its reference and its laws, walked over the given program; no condition but what stands in each: part P. -/
import Derived.Test.YtjcjbdhkajiaeaaDoorRO
set_option linter.unusedVariables false
set_option linter.unusedSimpArgs false
set_option maxRecDepth 100000
namespace Go.Proofs.YtjcjbdhkajiaeaaDoor
open Go Go.Sl Go.RowKit Go.Extern.Stop Go.Stop Go.Extern
theorem shown_ (ea : Addr) (ef : Addr) (ee : Addr) (h12 : ea ≠ ef) (h13 : ea ≠ ee) (h23 : ef ≠ ee) : Con Tryd.prog 9 [] [] [cellsAt 1 0 [.iface 80 (.pointer (some ea))], cellsAt 2 0 [.iface 80 (.pointer (some ef))], cellsAt 0 0 [.iface 80 (.pointer (some ee))], errAt ea, errAt ef, errAt ee] (fun v L' I' => v = .bool true ∧ L' = [] ∧ I' = []) := by
  refine fn_of Tryd.func9 rfl Tryd.ntmps9 (by kernel_rfl) rfl (fun C => ?_)
  refine c_seq ?_
  refine c_region ?_
  refine st rfl (o_y (v := .bool false) (y_as rfl) rfl rfl rfl ?_)
  refine s_nil ?_
  refine q_then ?_
  refine c_seq ?_
  refine c_region ?_
  refine st rfl (o_call [] [0, 1, 2, 3, 4, 5] (New_ (5 : Int) ea ef ee (by assumption) (by assumption) (by assumption)) rfl rfl rfl rfl rfl rfl (fun v L' I' hq1 => ?_))
  rcases hq1 with ⟨h24, rfl, rfl, rfl⟩ | ⟨h25, rfl, rfl, rfl⟩
  ·
    refine st rfl (o_y (v := .tuple #[.agg #[.int .i64 (5 : Int), .slice none 0 0], .int .i64 0]) (y_mv rfl) rfl rfl rfl ?_)
    refine st rfl (o_y (v := .agg #[.int .i64 (5 : Int), .slice none 0 0]) (y_k rfl rfl (fun _ => by kernel_rfl)) rfl rfl rfl ?_)
    refine st rfl (o_y (v := .int .i64 0) (y_k rfl rfl (fun _ => by kernel_rfl)) rfl rfl rfl ?_)
    refine st rfl (o_box (cs := [.int .i64 0, .slice none 0 0]) (T := 24) rfl rfl rfl rfl (fun _ => by kernel_rfl) (fun b1 => ?_))
    refine st rfl (o_st 0 rfl rfl rfl rfl rfl (by kernel_rfl) (by kernel_rfl) rfl ?_)
    refine st rfl (o_y (v := .int .i64 0) (y_as rfl) rfl rfl rfl ?_)
    refine s_nil ?_
    refine q_then ?_
    refine c_seq ?_
    refine c_region ?_
    refine st rfl (o_ldn 0 2 rfl rfl rfl rfl Tryd.underlying24 rfl (by kernel_rfl) (by kernel_rfl) rfl ?_)
    refine e_rdnil strTy none 0 ?_
    refine st rfl (o_call [] [0, 1, 2, 3, 4, 5, 6] (Put_ none 0 ([] : List ByteArray) (5 : Int) (⟨#[97, 98]⟩ : ByteArray) ea ef ee (by assumption) (by assumption) (by assumption) (by first | assumption | exact small_put _ _ _ | exact small_take _ _ | exact small_all _ _ _ | exact small_nil | exact small_right (by assumption) | exact small_one (small_at (by assumption) hx1) | exact small_one (by assumption)) (by first | assumption | omega | decide | exact small_at (by assumption) hx1)) rfl rfl rfl rfl rfl rfl (fun v L' I' hq2 => ?_))
    obtain ⟨A1, c1, rfl, rfl, rfl⟩ := hq2
    refine st rfl (o_y (v := .tuple #[.agg #[.int .i64 ((putF (5 : Int) ([] : List ByteArray) (⟨#[97, 98]⟩ : ByteArray)).1), .slice A1 ((putF (5 : Int) ([] : List ByteArray) (⟨#[97, 98]⟩ : ByteArray)).2.1).length c1], .int .i64 ((putF (5 : Int) ([] : List ByteArray) (⟨#[97, 98]⟩ : ByteArray)).2.2)]) (y_mv rfl) rfl rfl rfl ?_)
    refine st rfl (o_y (v := .agg #[.int .i64 ((putF (5 : Int) ([] : List ByteArray) (⟨#[97, 98]⟩ : ByteArray)).1), .slice A1 ((putF (5 : Int) ([] : List ByteArray) (⟨#[97, 98]⟩ : ByteArray)).2.1).length c1]) (y_k rfl rfl (fun _ => by kernel_rfl)) rfl rfl rfl ?_)
    refine st rfl (o_y (v := .int .i64 ((putF (5 : Int) ([] : List ByteArray) (⟨#[97, 98]⟩ : ByteArray)).2.2)) (y_k rfl rfl (fun _ => by kernel_rfl)) rfl rfl rfl ?_)
    refine st rfl (o_box (cs := [.int .i64 0, .slice none 0 0]) (T := 24) rfl rfl rfl rfl (fun _ => by kernel_rfl) (fun b2 => ?_))
    refine st rfl (o_st 0 rfl rfl rfl rfl rfl (by kernel_rfl) (by kernel_rfl) rfl ?_)
    refine st rfl (o_y (v := .int .i64 ((putF (5 : Int) ([] : List ByteArray) (⟨#[97, 98]⟩ : ByteArray)).2.2)) (y_as rfl) rfl rfl rfl ?_)
    refine s_nil ?_
    refine q_then ?_
    refine c_seq ?_
    refine c_region ?_
    refine st rfl (o_ldn 0 2 rfl rfl rfl rfl Tryd.underlying24 rfl (by kernel_rfl) (by kernel_rfl) rfl ?_)
    refine st rfl (o_lend [1] [] [1, 2, 3, 4, 5, 6] (Put_ A1 c1 ((putF (5 : Int) ([] : List ByteArray) (⟨#[97, 98]⟩ : ByteArray)).2.1) ((putF (5 : Int) ([] : List ByteArray) (⟨#[97, 98]⟩ : ByteArray)).1) (⟨#[99]⟩ : ByteArray) ea ef ee (by assumption) (by assumption) (by assumption) (by first | assumption | exact small_put _ _ _ | exact small_take _ _ | exact small_all _ _ _ | exact small_nil | exact small_right (by assumption) | exact small_one (small_at (by assumption) hx1) | exact small_one (by assumption)) (by first | assumption | omega | decide | exact small_at (by assumption) hx1)) (.cons lend_win .nil) rfl rfl rfl rfl rfl rfl rfl rfl (fun v L' I' hq3 => ?_))
    obtain ⟨A2, c2, rfl, rfl, rfl⟩ := hq3
    refine ⟨rfl, ?_⟩
    refine st rfl (o_y (v := .tuple #[.agg #[.int .i64 ((putF ((putF (5 : Int) ([] : List ByteArray) (⟨#[97, 98]⟩ : ByteArray)).1) ((putF (5 : Int) ([] : List ByteArray) (⟨#[97, 98]⟩ : ByteArray)).2.1) (⟨#[99]⟩ : ByteArray)).1), .slice A2 ((putF ((putF (5 : Int) ([] : List ByteArray) (⟨#[97, 98]⟩ : ByteArray)).1) ((putF (5 : Int) ([] : List ByteArray) (⟨#[97, 98]⟩ : ByteArray)).2.1) (⟨#[99]⟩ : ByteArray)).2.1).length c2], .int .i64 ((putF ((putF (5 : Int) ([] : List ByteArray) (⟨#[97, 98]⟩ : ByteArray)).1) ((putF (5 : Int) ([] : List ByteArray) (⟨#[97, 98]⟩ : ByteArray)).2.1) (⟨#[99]⟩ : ByteArray)).2.2)]) (y_mv rfl) rfl rfl rfl ?_)
    refine st rfl (o_y (v := .agg #[.int .i64 ((putF ((putF (5 : Int) ([] : List ByteArray) (⟨#[97, 98]⟩ : ByteArray)).1) ((putF (5 : Int) ([] : List ByteArray) (⟨#[97, 98]⟩ : ByteArray)).2.1) (⟨#[99]⟩ : ByteArray)).1), .slice A2 ((putF ((putF (5 : Int) ([] : List ByteArray) (⟨#[97, 98]⟩ : ByteArray)).1) ((putF (5 : Int) ([] : List ByteArray) (⟨#[97, 98]⟩ : ByteArray)).2.1) (⟨#[99]⟩ : ByteArray)).2.1).length c2]) (y_k rfl rfl (fun _ => by kernel_rfl)) rfl rfl rfl ?_)
    refine st rfl (o_y (v := .int .i64 ((putF ((putF (5 : Int) ([] : List ByteArray) (⟨#[97, 98]⟩ : ByteArray)).1) ((putF (5 : Int) ([] : List ByteArray) (⟨#[97, 98]⟩ : ByteArray)).2.1) (⟨#[99]⟩ : ByteArray)).2.2)) (y_k rfl rfl (fun _ => by kernel_rfl)) rfl rfl rfl ?_)
    refine st rfl (o_box (cs := [.int .i64 0, .slice none 0 0]) (T := 24) rfl rfl rfl rfl (fun _ => by kernel_rfl) (fun b3 => ?_))
    refine st rfl (o_st 0 rfl rfl rfl rfl rfl (by kernel_rfl) (by kernel_rfl) rfl ?_)
    refine st rfl (o_y (v := .int .i64 ((putF ((putF (5 : Int) ([] : List ByteArray) (⟨#[97, 98]⟩ : ByteArray)).1) ((putF (5 : Int) ([] : List ByteArray) (⟨#[97, 98]⟩ : ByteArray)).2.1) (⟨#[99]⟩ : ByteArray)).2.2)) (y_as rfl) rfl rfl rfl ?_)
    refine s_nil ?_
    refine q_then ?_
    refine c_seq ?_
    refine c_region ?_
    refine st rfl (o_ldn 0 2 rfl rfl rfl rfl Tryd.underlying24 rfl (by kernel_rfl) (by kernel_rfl) rfl ?_)
    refine st rfl (o_lend [1] [] [1, 2, 3, 4, 5, 6] (Put_ A2 c2 ((putF ((putF (5 : Int) ([] : List ByteArray) (⟨#[97, 98]⟩ : ByteArray)).1) ((putF (5 : Int) ([] : List ByteArray) (⟨#[97, 98]⟩ : ByteArray)).2.1) (⟨#[99]⟩ : ByteArray)).2.1) ((putF ((putF (5 : Int) ([] : List ByteArray) (⟨#[97, 98]⟩ : ByteArray)).1) ((putF (5 : Int) ([] : List ByteArray) (⟨#[97, 98]⟩ : ByteArray)).2.1) (⟨#[99]⟩ : ByteArray)).1) (⟨#[100]⟩ : ByteArray) ea ef ee (by assumption) (by assumption) (by assumption) (by first | assumption | exact small_put _ _ _ | exact small_take _ _ | exact small_all _ _ _ | exact small_nil | exact small_right (by assumption) | exact small_one (small_at (by assumption) hx1) | exact small_one (by assumption)) (by first | assumption | omega | decide | exact small_at (by assumption) hx1)) (.cons lend_win .nil) rfl rfl rfl rfl rfl rfl rfl rfl (fun v L' I' hq4 => ?_))
    obtain ⟨A3, c3, rfl, rfl, rfl⟩ := hq4
    refine ⟨rfl, ?_⟩
    refine st rfl (o_y (v := .tuple #[.agg #[.int .i64 ((putF ((putF ((putF (5 : Int) ([] : List ByteArray) (⟨#[97, 98]⟩ : ByteArray)).1) ((putF (5 : Int) ([] : List ByteArray) (⟨#[97, 98]⟩ : ByteArray)).2.1) (⟨#[99]⟩ : ByteArray)).1) ((putF ((putF (5 : Int) ([] : List ByteArray) (⟨#[97, 98]⟩ : ByteArray)).1) ((putF (5 : Int) ([] : List ByteArray) (⟨#[97, 98]⟩ : ByteArray)).2.1) (⟨#[99]⟩ : ByteArray)).2.1) (⟨#[100]⟩ : ByteArray)).1), .slice A3 ((putF ((putF ((putF (5 : Int) ([] : List ByteArray) (⟨#[97, 98]⟩ : ByteArray)).1) ((putF (5 : Int) ([] : List ByteArray) (⟨#[97, 98]⟩ : ByteArray)).2.1) (⟨#[99]⟩ : ByteArray)).1) ((putF ((putF (5 : Int) ([] : List ByteArray) (⟨#[97, 98]⟩ : ByteArray)).1) ((putF (5 : Int) ([] : List ByteArray) (⟨#[97, 98]⟩ : ByteArray)).2.1) (⟨#[99]⟩ : ByteArray)).2.1) (⟨#[100]⟩ : ByteArray)).2.1).length c3], .int .i64 ((putF ((putF ((putF (5 : Int) ([] : List ByteArray) (⟨#[97, 98]⟩ : ByteArray)).1) ((putF (5 : Int) ([] : List ByteArray) (⟨#[97, 98]⟩ : ByteArray)).2.1) (⟨#[99]⟩ : ByteArray)).1) ((putF ((putF (5 : Int) ([] : List ByteArray) (⟨#[97, 98]⟩ : ByteArray)).1) ((putF (5 : Int) ([] : List ByteArray) (⟨#[97, 98]⟩ : ByteArray)).2.1) (⟨#[99]⟩ : ByteArray)).2.1) (⟨#[100]⟩ : ByteArray)).2.2)]) (y_mv rfl) rfl rfl rfl ?_)
    refine st rfl (o_y (v := .agg #[.int .i64 ((putF ((putF ((putF (5 : Int) ([] : List ByteArray) (⟨#[97, 98]⟩ : ByteArray)).1) ((putF (5 : Int) ([] : List ByteArray) (⟨#[97, 98]⟩ : ByteArray)).2.1) (⟨#[99]⟩ : ByteArray)).1) ((putF ((putF (5 : Int) ([] : List ByteArray) (⟨#[97, 98]⟩ : ByteArray)).1) ((putF (5 : Int) ([] : List ByteArray) (⟨#[97, 98]⟩ : ByteArray)).2.1) (⟨#[99]⟩ : ByteArray)).2.1) (⟨#[100]⟩ : ByteArray)).1), .slice A3 ((putF ((putF ((putF (5 : Int) ([] : List ByteArray) (⟨#[97, 98]⟩ : ByteArray)).1) ((putF (5 : Int) ([] : List ByteArray) (⟨#[97, 98]⟩ : ByteArray)).2.1) (⟨#[99]⟩ : ByteArray)).1) ((putF ((putF (5 : Int) ([] : List ByteArray) (⟨#[97, 98]⟩ : ByteArray)).1) ((putF (5 : Int) ([] : List ByteArray) (⟨#[97, 98]⟩ : ByteArray)).2.1) (⟨#[99]⟩ : ByteArray)).2.1) (⟨#[100]⟩ : ByteArray)).2.1).length c3]) (y_k rfl rfl (fun _ => by kernel_rfl)) rfl rfl rfl ?_)
    refine st rfl (o_y (v := .int .i64 ((putF ((putF ((putF (5 : Int) ([] : List ByteArray) (⟨#[97, 98]⟩ : ByteArray)).1) ((putF (5 : Int) ([] : List ByteArray) (⟨#[97, 98]⟩ : ByteArray)).2.1) (⟨#[99]⟩ : ByteArray)).1) ((putF ((putF (5 : Int) ([] : List ByteArray) (⟨#[97, 98]⟩ : ByteArray)).1) ((putF (5 : Int) ([] : List ByteArray) (⟨#[97, 98]⟩ : ByteArray)).2.1) (⟨#[99]⟩ : ByteArray)).2.1) (⟨#[100]⟩ : ByteArray)).2.2)) (y_k rfl rfl (fun _ => by kernel_rfl)) rfl rfl rfl ?_)
    refine st rfl (o_box (cs := [.int .i64 0, .slice none 0 0]) (T := 24) rfl rfl rfl rfl (fun _ => by kernel_rfl) (fun b4 => ?_))
    refine st rfl (o_st 0 rfl rfl rfl rfl rfl (by kernel_rfl) (by kernel_rfl) rfl ?_)
    refine st rfl (o_y (v := .int .i64 ((putF ((putF ((putF (5 : Int) ([] : List ByteArray) (⟨#[97, 98]⟩ : ByteArray)).1) ((putF (5 : Int) ([] : List ByteArray) (⟨#[97, 98]⟩ : ByteArray)).2.1) (⟨#[99]⟩ : ByteArray)).1) ((putF ((putF (5 : Int) ([] : List ByteArray) (⟨#[97, 98]⟩ : ByteArray)).1) ((putF (5 : Int) ([] : List ByteArray) (⟨#[97, 98]⟩ : ByteArray)).2.1) (⟨#[99]⟩ : ByteArray)).2.1) (⟨#[100]⟩ : ByteArray)).2.2)) (y_as rfl) rfl rfl rfl ?_)
    refine s_nil ?_
    refine q_then ?_
    refine c_seq ?_
    refine c_region ?_
    refine st rfl (o_ldn 3 2 rfl rfl rfl rfl Tryd.underlying24 rfl (by kernel_rfl) (by kernel_rfl) rfl ?_)
    refine st rfl (o_lend [2] [] [1, 2, 3, 4, 5, 6] (Take_ A2 c2 ((putF ((putF (5 : Int) ([] : List ByteArray) (⟨#[97, 98]⟩ : ByteArray)).1) ((putF (5 : Int) ([] : List ByteArray) (⟨#[97, 98]⟩ : ByteArray)).2.1) (⟨#[99]⟩ : ByteArray)).2.1) ((putF ((putF (5 : Int) ([] : List ByteArray) (⟨#[97, 98]⟩ : ByteArray)).1) ((putF (5 : Int) ([] : List ByteArray) (⟨#[97, 98]⟩ : ByteArray)).2.1) (⟨#[99]⟩ : ByteArray)).1) ea ef ee (by assumption) (by assumption) (by assumption) (by first | assumption | exact small_put _ _ _ | exact small_take _ _ | exact small_all _ _ _ | exact small_nil | exact small_right (by assumption) | exact small_one (small_at (by assumption) hx1) | exact small_one (by assumption))) (.cons lend_win .nil) rfl rfl rfl rfl rfl rfl rfl rfl (fun v L' I' hq5 => ?_))
    obtain ⟨A4, c4, rfl, rfl, rfl⟩ := hq5
    refine ⟨rfl, ?_⟩
    refine st rfl (o_y (v := .tuple #[.string ((takeF ((putF ((putF (5 : Int) ([] : List ByteArray) (⟨#[97, 98]⟩ : ByteArray)).1) ((putF (5 : Int) ([] : List ByteArray) (⟨#[97, 98]⟩ : ByteArray)).2.1) (⟨#[99]⟩ : ByteArray)).1) ((putF ((putF (5 : Int) ([] : List ByteArray) (⟨#[97, 98]⟩ : ByteArray)).1) ((putF (5 : Int) ([] : List ByteArray) (⟨#[97, 98]⟩ : ByteArray)).2.1) (⟨#[99]⟩ : ByteArray)).2.1)).1), .agg #[.int .i64 ((takeF ((putF ((putF (5 : Int) ([] : List ByteArray) (⟨#[97, 98]⟩ : ByteArray)).1) ((putF (5 : Int) ([] : List ByteArray) (⟨#[97, 98]⟩ : ByteArray)).2.1) (⟨#[99]⟩ : ByteArray)).1) ((putF ((putF (5 : Int) ([] : List ByteArray) (⟨#[97, 98]⟩ : ByteArray)).1) ((putF (5 : Int) ([] : List ByteArray) (⟨#[97, 98]⟩ : ByteArray)).2.1) (⟨#[99]⟩ : ByteArray)).2.1)).2.1), .slice A4 ((takeF ((putF ((putF (5 : Int) ([] : List ByteArray) (⟨#[97, 98]⟩ : ByteArray)).1) ((putF (5 : Int) ([] : List ByteArray) (⟨#[97, 98]⟩ : ByteArray)).2.1) (⟨#[99]⟩ : ByteArray)).1) ((putF ((putF (5 : Int) ([] : List ByteArray) (⟨#[97, 98]⟩ : ByteArray)).1) ((putF (5 : Int) ([] : List ByteArray) (⟨#[97, 98]⟩ : ByteArray)).2.1) (⟨#[99]⟩ : ByteArray)).2.1)).2.2.1).length c4], .int .i64 ((takeF ((putF ((putF (5 : Int) ([] : List ByteArray) (⟨#[97, 98]⟩ : ByteArray)).1) ((putF (5 : Int) ([] : List ByteArray) (⟨#[97, 98]⟩ : ByteArray)).2.1) (⟨#[99]⟩ : ByteArray)).1) ((putF ((putF (5 : Int) ([] : List ByteArray) (⟨#[97, 98]⟩ : ByteArray)).1) ((putF (5 : Int) ([] : List ByteArray) (⟨#[97, 98]⟩ : ByteArray)).2.1) (⟨#[99]⟩ : ByteArray)).2.1)).2.2.2)]) (y_mv rfl) rfl rfl rfl ?_)
    refine st rfl (o_y (v := .string ((takeF ((putF ((putF (5 : Int) ([] : List ByteArray) (⟨#[97, 98]⟩ : ByteArray)).1) ((putF (5 : Int) ([] : List ByteArray) (⟨#[97, 98]⟩ : ByteArray)).2.1) (⟨#[99]⟩ : ByteArray)).1) ((putF ((putF (5 : Int) ([] : List ByteArray) (⟨#[97, 98]⟩ : ByteArray)).1) ((putF (5 : Int) ([] : List ByteArray) (⟨#[97, 98]⟩ : ByteArray)).2.1) (⟨#[99]⟩ : ByteArray)).2.1)).1)) (y_k rfl rfl (fun _ => by kernel_rfl)) rfl rfl rfl ?_)
    refine st rfl (o_y (v := .agg #[.int .i64 ((takeF ((putF ((putF (5 : Int) ([] : List ByteArray) (⟨#[97, 98]⟩ : ByteArray)).1) ((putF (5 : Int) ([] : List ByteArray) (⟨#[97, 98]⟩ : ByteArray)).2.1) (⟨#[99]⟩ : ByteArray)).1) ((putF ((putF (5 : Int) ([] : List ByteArray) (⟨#[97, 98]⟩ : ByteArray)).1) ((putF (5 : Int) ([] : List ByteArray) (⟨#[97, 98]⟩ : ByteArray)).2.1) (⟨#[99]⟩ : ByteArray)).2.1)).2.1), .slice A4 ((takeF ((putF ((putF (5 : Int) ([] : List ByteArray) (⟨#[97, 98]⟩ : ByteArray)).1) ((putF (5 : Int) ([] : List ByteArray) (⟨#[97, 98]⟩ : ByteArray)).2.1) (⟨#[99]⟩ : ByteArray)).1) ((putF ((putF (5 : Int) ([] : List ByteArray) (⟨#[97, 98]⟩ : ByteArray)).1) ((putF (5 : Int) ([] : List ByteArray) (⟨#[97, 98]⟩ : ByteArray)).2.1) (⟨#[99]⟩ : ByteArray)).2.1)).2.2.1).length c4]) (y_k rfl rfl (fun _ => by kernel_rfl)) rfl rfl rfl ?_)
    refine st rfl (o_y (v := .int .i64 ((takeF ((putF ((putF (5 : Int) ([] : List ByteArray) (⟨#[97, 98]⟩ : ByteArray)).1) ((putF (5 : Int) ([] : List ByteArray) (⟨#[97, 98]⟩ : ByteArray)).2.1) (⟨#[99]⟩ : ByteArray)).1) ((putF ((putF (5 : Int) ([] : List ByteArray) (⟨#[97, 98]⟩ : ByteArray)).1) ((putF (5 : Int) ([] : List ByteArray) (⟨#[97, 98]⟩ : ByteArray)).2.1) (⟨#[99]⟩ : ByteArray)).2.1)).2.2.2)) (y_k rfl rfl (fun _ => by kernel_rfl)) rfl rfl rfl ?_)
    refine st rfl (o_box (cs := [.int .i64 0, .slice none 0 0]) (T := 24) rfl rfl rfl rfl (fun _ => by kernel_rfl) (fun b5 => ?_))
    refine st rfl (o_y (v := .string ((takeF ((putF ((putF (5 : Int) ([] : List ByteArray) (⟨#[97, 98]⟩ : ByteArray)).1) ((putF (5 : Int) ([] : List ByteArray) (⟨#[97, 98]⟩ : ByteArray)).2.1) (⟨#[99]⟩ : ByteArray)).1) ((putF ((putF (5 : Int) ([] : List ByteArray) (⟨#[97, 98]⟩ : ByteArray)).1) ((putF (5 : Int) ([] : List ByteArray) (⟨#[97, 98]⟩ : ByteArray)).2.1) (⟨#[99]⟩ : ByteArray)).2.1)).1)) (y_as rfl) rfl rfl rfl ?_)
    refine st rfl (o_st 0 rfl rfl rfl rfl rfl (by kernel_rfl) (by kernel_rfl) rfl ?_)
    refine st rfl (o_y (v := .int .i64 ((takeF ((putF ((putF (5 : Int) ([] : List ByteArray) (⟨#[97, 98]⟩ : ByteArray)).1) ((putF (5 : Int) ([] : List ByteArray) (⟨#[97, 98]⟩ : ByteArray)).2.1) (⟨#[99]⟩ : ByteArray)).1) ((putF ((putF (5 : Int) ([] : List ByteArray) (⟨#[97, 98]⟩ : ByteArray)).1) ((putF (5 : Int) ([] : List ByteArray) (⟨#[97, 98]⟩ : ByteArray)).2.1) (⟨#[99]⟩ : ByteArray)).2.1)).2.2.2)) (y_as rfl) rfl rfl rfl ?_)
    refine s_nil ?_
    refine q_then ?_
    refine c_seq ?_
    refine c_region ?_
    refine st rfl (o_y (v := .int .i64 0) (y_mv rfl) rfl rfl rfl ?_)
    refine st rfl (o_y (v := .bool true) (y_k rfl rfl (fun _ => by kernel_rfl)) rfl rfl rfl ?_)
    refine st rfl (o_y (v := .bool true) (y_mv rfl) rfl rfl rfl ?_)
    refine st_on 39 rfl rfl rfl (o_y (v := .int .i64 ((putF (5 : Int) ([] : List ByteArray) (⟨#[97, 98]⟩ : ByteArray)).2.2)) (y_mv rfl) rfl rfl rfl ?_)
    have h26 : (putF (5 : Int) ([] : List ByteArray) (⟨#[97, 98]⟩ : ByteArray)).2.2 = 0 := by first | rfl | decide
    refine st_on 39 rfl rfl rfl (o_y (v := .bool true) (y_b (y_k (v := .bool (((putF (5 : Int) ([] : List ByteArray) (⟨#[97, 98]⟩ : ByteArray)).2.2) == 0)) rfl rfl (fun _ => by kernel_rfl)) (beq_iff_eq.2 h26)) rfl rfl rfl ?_)
    refine st rfl (o_y (v := .bool true) (y_pick rfl rfl) rfl rfl rfl ?_)
    refine st rfl (o_y (v := .bool true) (y_mv rfl) rfl rfl rfl ?_)
    refine st_on 43 rfl rfl rfl (o_y (v := .int .i64 ((putF ((putF (5 : Int) ([] : List ByteArray) (⟨#[97, 98]⟩ : ByteArray)).1) ((putF (5 : Int) ([] : List ByteArray) (⟨#[97, 98]⟩ : ByteArray)).2.1) (⟨#[99]⟩ : ByteArray)).2.2)) (y_mv rfl) rfl rfl rfl ?_)
    have h27 : (putF ((putF (5 : Int) ([] : List ByteArray) (⟨#[97, 98]⟩ : ByteArray)).1) ((putF (5 : Int) ([] : List ByteArray) (⟨#[97, 98]⟩ : ByteArray)).2.1) (⟨#[99]⟩ : ByteArray)).2.2 = 0 := by first | rfl | decide
    refine st_on 43 rfl rfl rfl (o_y (v := .bool true) (y_b (y_k (v := .bool (((putF ((putF (5 : Int) ([] : List ByteArray) (⟨#[97, 98]⟩ : ByteArray)).1) ((putF (5 : Int) ([] : List ByteArray) (⟨#[97, 98]⟩ : ByteArray)).2.1) (⟨#[99]⟩ : ByteArray)).2.2) == 0)) rfl rfl (fun _ => by kernel_rfl)) (beq_iff_eq.2 h27)) rfl rfl rfl ?_)
    refine st rfl (o_y (v := .bool true) (y_pick rfl rfl) rfl rfl rfl ?_)
    refine st rfl (o_y (v := .bool true) (y_mv rfl) rfl rfl rfl ?_)
    refine st_on 47 rfl rfl rfl (o_y (v := .int .i64 ((putF ((putF ((putF (5 : Int) ([] : List ByteArray) (⟨#[97, 98]⟩ : ByteArray)).1) ((putF (5 : Int) ([] : List ByteArray) (⟨#[97, 98]⟩ : ByteArray)).2.1) (⟨#[99]⟩ : ByteArray)).1) ((putF ((putF (5 : Int) ([] : List ByteArray) (⟨#[97, 98]⟩ : ByteArray)).1) ((putF (5 : Int) ([] : List ByteArray) (⟨#[97, 98]⟩ : ByteArray)).2.1) (⟨#[99]⟩ : ByteArray)).2.1) (⟨#[100]⟩ : ByteArray)).2.2)) (y_mv rfl) rfl rfl rfl ?_)
    have h28 : (putF ((putF ((putF (5 : Int) ([] : List ByteArray) (⟨#[97, 98]⟩ : ByteArray)).1) ((putF (5 : Int) ([] : List ByteArray) (⟨#[97, 98]⟩ : ByteArray)).2.1) (⟨#[99]⟩ : ByteArray)).1) ((putF ((putF (5 : Int) ([] : List ByteArray) (⟨#[97, 98]⟩ : ByteArray)).1) ((putF (5 : Int) ([] : List ByteArray) (⟨#[97, 98]⟩ : ByteArray)).2.1) (⟨#[99]⟩ : ByteArray)).2.1) (⟨#[100]⟩ : ByteArray)).2.2 = 80 := by first | rfl | decide
    refine st_on 47 rfl rfl rfl (o_y (v := .bool true) (y_b (y_k (v := .bool (((putF ((putF ((putF (5 : Int) ([] : List ByteArray) (⟨#[97, 98]⟩ : ByteArray)).1) ((putF (5 : Int) ([] : List ByteArray) (⟨#[97, 98]⟩ : ByteArray)).2.1) (⟨#[99]⟩ : ByteArray)).1) ((putF ((putF (5 : Int) ([] : List ByteArray) (⟨#[97, 98]⟩ : ByteArray)).1) ((putF (5 : Int) ([] : List ByteArray) (⟨#[97, 98]⟩ : ByteArray)).2.1) (⟨#[99]⟩ : ByteArray)).2.1) (⟨#[100]⟩ : ByteArray)).2.2) == 80)) rfl rfl (fun _ => by kernel_rfl)) (beq_iff_eq.2 h28)) rfl rfl rfl ?_)
    refine st rfl (o_y (v := .bool true) (y_pick rfl rfl) rfl rfl rfl ?_)
    refine st rfl (o_y (v := .bool true) (y_mv rfl) rfl rfl rfl ?_)
    refine st_on 51 rfl rfl rfl (o_ldn 7 2 rfl rfl rfl rfl Tryd.underlying24 rfl (by kernel_rfl) (by kernel_rfl) rfl ?_)
    refine st_on 51 rfl rfl rfl (o_lend [6] [] [1, 2, 3, 4, 5, 6] (Used_ A1 c1 ((putF (5 : Int) ([] : List ByteArray) (⟨#[97, 98]⟩ : ByteArray)).2.1) ((putF (5 : Int) ([] : List ByteArray) (⟨#[97, 98]⟩ : ByteArray)).1) ea ef ee (by first | assumption | exact small_put _ _ _ | exact small_take _ _ | exact small_all _ _ _ | exact small_nil | exact small_right (by assumption) | exact small_one (small_at (by assumption) hx1) | exact small_one (by assumption))) (.cons lend_win .nil) rfl rfl rfl rfl rfl rfl rfl rfl (fun v L' I' hq6 => ?_))
    obtain ⟨rfl, rfl, rfl⟩ := hq6
    refine ⟨rfl, ?_⟩
    have h29 : (usedF ((putF (5 : Int) ([] : List ByteArray) (⟨#[97, 98]⟩ : ByteArray)).1) ((putF (5 : Int) ([] : List ByteArray) (⟨#[97, 98]⟩ : ByteArray)).2.1) : Int) = 3 := by first | rfl | decide
    refine st_on 51 rfl rfl rfl (o_y (v := .bool true) (y_b (y_k (v := .bool ((usedF ((putF (5 : Int) ([] : List ByteArray) (⟨#[97, 98]⟩ : ByteArray)).1) ((putF (5 : Int) ([] : List ByteArray) (⟨#[97, 98]⟩ : ByteArray)).2.1) : Int) == 3)) rfl rfl (fun _ => by kernel_rfl)) (beq_iff_eq.2 h29)) rfl rfl rfl ?_)
    refine st rfl (o_y (v := .bool true) (y_pick rfl rfl) rfl rfl rfl ?_)
    refine st rfl (o_y (v := .bool true) (y_mv rfl) rfl rfl rfl ?_)
    refine st_on 56 rfl rfl rfl (o_ldn 6 2 rfl rfl rfl rfl Tryd.underlying24 rfl (by kernel_rfl) (by kernel_rfl) rfl ?_)
    refine st_on 56 rfl rfl rfl (o_lend [3] [] [1, 2, 3, 4, 5, 6] (Used_ A2 c2 ((putF ((putF (5 : Int) ([] : List ByteArray) (⟨#[97, 98]⟩ : ByteArray)).1) ((putF (5 : Int) ([] : List ByteArray) (⟨#[97, 98]⟩ : ByteArray)).2.1) (⟨#[99]⟩ : ByteArray)).2.1) ((putF ((putF (5 : Int) ([] : List ByteArray) (⟨#[97, 98]⟩ : ByteArray)).1) ((putF (5 : Int) ([] : List ByteArray) (⟨#[97, 98]⟩ : ByteArray)).2.1) (⟨#[99]⟩ : ByteArray)).1) ea ef ee (by first | assumption | exact small_put _ _ _ | exact small_take _ _ | exact small_all _ _ _ | exact small_nil | exact small_right (by assumption) | exact small_one (small_at (by assumption) hx1) | exact small_one (by assumption))) (.cons lend_win .nil) rfl rfl rfl rfl rfl rfl rfl rfl (fun v L' I' hq7 => ?_))
    obtain ⟨rfl, rfl, rfl⟩ := hq7
    refine ⟨rfl, ?_⟩
    have h30 : (usedF ((putF ((putF (5 : Int) ([] : List ByteArray) (⟨#[97, 98]⟩ : ByteArray)).1) ((putF (5 : Int) ([] : List ByteArray) (⟨#[97, 98]⟩ : ByteArray)).2.1) (⟨#[99]⟩ : ByteArray)).1) ((putF ((putF (5 : Int) ([] : List ByteArray) (⟨#[97, 98]⟩ : ByteArray)).1) ((putF (5 : Int) ([] : List ByteArray) (⟨#[97, 98]⟩ : ByteArray)).2.1) (⟨#[99]⟩ : ByteArray)).2.1) : Int) = 5 := by first | rfl | decide
    refine st_on 56 rfl rfl rfl (o_y (v := .bool true) (y_b (y_k (v := .bool ((usedF ((putF ((putF (5 : Int) ([] : List ByteArray) (⟨#[97, 98]⟩ : ByteArray)).1) ((putF (5 : Int) ([] : List ByteArray) (⟨#[97, 98]⟩ : ByteArray)).2.1) (⟨#[99]⟩ : ByteArray)).1) ((putF ((putF (5 : Int) ([] : List ByteArray) (⟨#[97, 98]⟩ : ByteArray)).1) ((putF (5 : Int) ([] : List ByteArray) (⟨#[97, 98]⟩ : ByteArray)).2.1) (⟨#[99]⟩ : ByteArray)).2.1) : Int) == 5)) rfl rfl (fun _ => by kernel_rfl)) (beq_iff_eq.2 h30)) rfl rfl rfl ?_)
    refine st rfl (o_y (v := .bool true) (y_pick rfl rfl) rfl rfl rfl ?_)
    refine st rfl (o_y (v := .bool true) (y_mv rfl) rfl rfl rfl ?_)
    refine st_on 61 rfl rfl rfl (o_y (v := .string ((takeF ((putF ((putF (5 : Int) ([] : List ByteArray) (⟨#[97, 98]⟩ : ByteArray)).1) ((putF (5 : Int) ([] : List ByteArray) (⟨#[97, 98]⟩ : ByteArray)).2.1) (⟨#[99]⟩ : ByteArray)).1) ((putF ((putF (5 : Int) ([] : List ByteArray) (⟨#[97, 98]⟩ : ByteArray)).1) ((putF (5 : Int) ([] : List ByteArray) (⟨#[97, 98]⟩ : ByteArray)).2.1) (⟨#[99]⟩ : ByteArray)).2.1)).1)) (y_mv rfl) rfl rfl rfl ?_)
    have h31 : (takeF ((putF ((putF (5 : Int) ([] : List ByteArray) (⟨#[97, 98]⟩ : ByteArray)).1) ((putF (5 : Int) ([] : List ByteArray) (⟨#[97, 98]⟩ : ByteArray)).2.1) (⟨#[99]⟩ : ByteArray)).1) ((putF ((putF (5 : Int) ([] : List ByteArray) (⟨#[97, 98]⟩ : ByteArray)).1) ((putF (5 : Int) ([] : List ByteArray) (⟨#[97, 98]⟩ : ByteArray)).2.1) (⟨#[99]⟩ : ByteArray)).2.1)).1 = (⟨#[97, 98]⟩ : ByteArray) := by first | rfl | decide
    refine st_on 61 rfl rfl rfl (o_y (v := .bool true) (y_b (y_k (v := .bool (((takeF ((putF ((putF (5 : Int) ([] : List ByteArray) (⟨#[97, 98]⟩ : ByteArray)).1) ((putF (5 : Int) ([] : List ByteArray) (⟨#[97, 98]⟩ : ByteArray)).2.1) (⟨#[99]⟩ : ByteArray)).1) ((putF ((putF (5 : Int) ([] : List ByteArray) (⟨#[97, 98]⟩ : ByteArray)).1) ((putF (5 : Int) ([] : List ByteArray) (⟨#[97, 98]⟩ : ByteArray)).2.1) (⟨#[99]⟩ : ByteArray)).2.1)).1).toList == (⟨#[97, 98]⟩ : ByteArray).toList)) rfl rfl (fun _ => by kernel_rfl)) (str_t h31)) rfl rfl rfl ?_)
    refine st rfl (o_y (v := .bool true) (y_pick rfl rfl) rfl rfl rfl ?_)
    refine st rfl (o_y (v := .bool true) (y_mv rfl) rfl rfl rfl ?_)
    refine st_on 65 rfl rfl rfl (o_y (v := .int .i64 ((takeF ((putF ((putF (5 : Int) ([] : List ByteArray) (⟨#[97, 98]⟩ : ByteArray)).1) ((putF (5 : Int) ([] : List ByteArray) (⟨#[97, 98]⟩ : ByteArray)).2.1) (⟨#[99]⟩ : ByteArray)).1) ((putF ((putF (5 : Int) ([] : List ByteArray) (⟨#[97, 98]⟩ : ByteArray)).1) ((putF (5 : Int) ([] : List ByteArray) (⟨#[97, 98]⟩ : ByteArray)).2.1) (⟨#[99]⟩ : ByteArray)).2.1)).2.2.2)) (y_mv rfl) rfl rfl rfl ?_)
    have h32 : (takeF ((putF ((putF (5 : Int) ([] : List ByteArray) (⟨#[97, 98]⟩ : ByteArray)).1) ((putF (5 : Int) ([] : List ByteArray) (⟨#[97, 98]⟩ : ByteArray)).2.1) (⟨#[99]⟩ : ByteArray)).1) ((putF ((putF (5 : Int) ([] : List ByteArray) (⟨#[97, 98]⟩ : ByteArray)).1) ((putF (5 : Int) ([] : List ByteArray) (⟨#[97, 98]⟩ : ByteArray)).2.1) (⟨#[99]⟩ : ByteArray)).2.1)).2.2.2 = 0 := by first | rfl | decide
    refine st_on 65 rfl rfl rfl (o_y (v := .bool true) (y_b (y_k (v := .bool (((takeF ((putF ((putF (5 : Int) ([] : List ByteArray) (⟨#[97, 98]⟩ : ByteArray)).1) ((putF (5 : Int) ([] : List ByteArray) (⟨#[97, 98]⟩ : ByteArray)).2.1) (⟨#[99]⟩ : ByteArray)).1) ((putF ((putF (5 : Int) ([] : List ByteArray) (⟨#[97, 98]⟩ : ByteArray)).1) ((putF (5 : Int) ([] : List ByteArray) (⟨#[97, 98]⟩ : ByteArray)).2.1) (⟨#[99]⟩ : ByteArray)).2.1)).2.2.2) == 0)) rfl rfl (fun _ => by kernel_rfl)) (beq_iff_eq.2 h32)) rfl rfl rfl ?_)
    refine st rfl (o_y (v := .bool true) (y_pick rfl rfl) rfl rfl rfl ?_)
    refine st rfl (o_y (v := .bool true) (y_mv rfl) rfl rfl rfl ?_)
    refine st_on 69 rfl rfl rfl (o_y (v := .pointer (some ⟨b5, 1, none⟩)) (y_k rfl rfl (fun _ => by kernel_rfl)) rfl rfl rfl ?_)
    refine st_on 69 rfl rfl rfl (o_ld 2 rfl rfl rfl Tryd.underlying22 rfl rfl ?_)
    refine st_on 69 rfl rfl rfl (o_y (v := .int .i64 (((takeF ((putF ((putF (5 : Int) ([] : List ByteArray) (⟨#[97, 98]⟩ : ByteArray)).1) ((putF (5 : Int) ([] : List ByteArray) (⟨#[97, 98]⟩ : ByteArray)).2.1) (⟨#[99]⟩ : ByteArray)).1) ((putF ((putF (5 : Int) ([] : List ByteArray) (⟨#[97, 98]⟩ : ByteArray)).1) ((putF (5 : Int) ([] : List ByteArray) (⟨#[97, 98]⟩ : ByteArray)).2.1) (⟨#[99]⟩ : ByteArray)).2.1)).2.2.1).length : Int)) (y_k rfl rfl (fun _ => by kernel_rfl)) rfl rfl rfl ?_)
    have h33 : (((takeF ((putF ((putF (5 : Int) ([] : List ByteArray) (⟨#[97, 98]⟩ : ByteArray)).1) ((putF (5 : Int) ([] : List ByteArray) (⟨#[97, 98]⟩ : ByteArray)).2.1) (⟨#[99]⟩ : ByteArray)).1) ((putF ((putF (5 : Int) ([] : List ByteArray) (⟨#[97, 98]⟩ : ByteArray)).1) ((putF (5 : Int) ([] : List ByteArray) (⟨#[97, 98]⟩ : ByteArray)).2.1) (⟨#[99]⟩ : ByteArray)).2.1)).2.2.1).length : Int) = 1 := by first | rfl | decide
    refine st_on 69 rfl rfl rfl (o_y (v := .bool true) (y_b (y_k (v := .bool ((((takeF ((putF ((putF (5 : Int) ([] : List ByteArray) (⟨#[97, 98]⟩ : ByteArray)).1) ((putF (5 : Int) ([] : List ByteArray) (⟨#[97, 98]⟩ : ByteArray)).2.1) (⟨#[99]⟩ : ByteArray)).1) ((putF ((putF (5 : Int) ([] : List ByteArray) (⟨#[97, 98]⟩ : ByteArray)).1) ((putF (5 : Int) ([] : List ByteArray) (⟨#[97, 98]⟩ : ByteArray)).2.1) (⟨#[99]⟩ : ByteArray)).2.1)).2.2.1).length : Int) == 1)) rfl rfl (fun _ => by kernel_rfl)) (beq_iff_eq.2 h33)) rfl rfl rfl ?_)
    refine st rfl (o_y (v := .bool true) (y_pick rfl rfl) rfl rfl rfl ?_)
    refine st rfl (o_y (v := .bool true) (y_as rfl) rfl rfl rfl ?_)
    refine s_nil ?_
    refine q_then ?_
    refine c_ret ?_
    refine c_fin (I' := []) [] [1, 2, 3, 4, 5, 6] rfl (.tmp rfl .nil) rfl rfl rfl ?_
    exact ⟨rfl, rfl, rfl⟩
  ·
    exact absurd (by decide) h25
end Go.Proofs.YtjcjbdhkajiaeaaDoor
