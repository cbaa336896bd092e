/- The laws of chapter 3 (field), walked over the given program; no condition but what stands in each theorem: part UWidths. -/
import Derived.Test.YtpfadknajnedoaaDoorRT
set_option linter.unusedVariables false
set_option linter.unusedSimpArgs false
set_option maxRecDepth 100000
set_option maxHeartbeats 8000000
namespace Go.Proofs.YtpfadknajnedoaaDoor
open Go Go.Sl Go.RowKit Go.Extern.Stop Go.Stop Go.Extern
theorem FieldWidths_ (ea : Addr) (em : Addr) (ef : Addr) (h12 : ea ≠ em) (h13 : ea ≠ ef) (h23 : em ≠ ef) (w : Int) (n : Nat) (hn : n < 18446744073709551616) : Con Tryd.prog 6 [.int .i64 w, .int .u64 (n : Int)] [] [cellsAt 1 0 [.iface 107 (.pointer (some ea))], cellsAt 2 0 [.iface 107 (.pointer (some em))], cellsAt 0 0 [.iface 107 (.pointer (some ef))], errAt ea, errAt em, errAt ef, cellsAt 3 0 [.iface 92 (.agg #[.pointer (some ⟨4, 47, none⟩)])]] (fun v L' I' => v = .bool true ∧ L' = [] ∧ I' = []) := by
  refine fn_of Tryd.func6 rfl Tryd.ntmps6 (by kernel_rfl) rfl (fun C => ?_)
  refine c_seq ?_
  refine c_region ?_
  refine st rfl (o_y (v := .bool false) (y_as rfl) rfl rfl rfl ?_)
  refine s_nil ?_
  refine q_then ?_
  refine c_seq ?_
  refine c_region ?_
  refine st rfl (o_call [] [0, 1, 2, 3, 4, 5, 6] (shown_ ea em ef (by assumption) (by assumption) (by assumption)) rfl rfl rfl rfl rfl rfl (fun v L' I' hq1 => ?_))
  obtain ⟨rfl, rfl, rfl⟩ := hq1
  refine st rfl (o_y (v := .bool true) (y_as rfl) rfl rfl rfl ?_)
  refine s_nil ?_
  refine q_then ?_
  refine c_seq ?_
  refine c_region ?_
  refine st rfl (o_y (v := .int .i64 w) (y_mv rfl) rfl rfl rfl ?_)
  refine st rfl (o_y (v := .int .u64 (n : Int)) (y_mv rfl) rfl rfl rfl ?_)
  refine st rfl (o_call [] [0, 1, 2, 3, 4, 5, 6] (Put_ w n ea em ef (by assumption) (by assumption) (by assumption) (by first | omega | assumption | exact h64 _ (List.mem_of_getElem? (by assumption)))) rfl rfl rfl rfl rfl rfl (fun v L' I' hq2 => ?_))
  obtain ⟨rfl, rfl, rfl⟩ := hq2
  refine st rfl (o_y (v := .tuple #[.string ((putF w n).1), .int .i64 ((putF w n).2)]) (y_mv rfl) rfl rfl rfl ?_)
  refine st rfl (o_y (v := .string ((putF w n).1)) (y_k rfl rfl (fun _ => by kernel_rfl)) rfl rfl rfl ?_)
  refine st rfl (o_y (v := .int .i64 ((putF w n).2)) (y_k rfl rfl (fun _ => by kernel_rfl)) rfl rfl rfl ?_)
  refine st rfl (o_y (v := .string ((putF w n).1)) (y_as rfl) rfl rfl rfl ?_)
  refine st rfl (o_y (v := .int .i64 ((putF w n).2)) (y_as rfl) rfl rfl rfl ?_)
  refine s_nil ?_
  refine q_then ?_
  refine c_seq ?_
  refine c_seq ?_
  refine c_region ?_
  refine st rfl (o_y (v := .int .i64 w) (y_mv rfl) rfl rfl rfl ?_)
  refine e_by (w = 1) (fun h24 => ?_) (fun h24 => ?_)
  ·
    refine st rfl (o_y (v := .bool false) (y_nt (y_k (v := .bool (!decide (w = 1))) rfl rfl (fun _ => by kernel_rfl)) h24) rfl rfl rfl ?_)
    refine st rfl (o_y (v := .bool false) (y_mv rfl) rfl rfl rfl ?_)
    refine st_off 18 rfl rfl rfl rfl rfl rfl ?_
    refine st_off 18 rfl rfl rfl rfl rfl rfl ?_
    refine st rfl (o_y (v := .bool false) (y_pick rfl rfl) rfl rfl rfl ?_)
    refine st rfl (o_y (v := .bool false) (y_mv rfl) rfl rfl rfl ?_)
    refine st_off 22 rfl rfl rfl rfl rfl rfl ?_
    refine st_off 22 rfl rfl rfl rfl rfl rfl ?_
    refine st rfl (o_y (v := .bool false) (y_pick rfl rfl) rfl rfl rfl ?_)
    refine st rfl (o_y (v := .bool false) (y_mv rfl) rfl rfl rfl ?_)
    refine st_off 26 rfl rfl rfl rfl rfl rfl ?_
    refine st_off 26 rfl rfl rfl rfl rfl rfl ?_
    refine st rfl (o_y (v := .bool false) (y_pick rfl rfl) rfl rfl rfl ?_)
    refine s_nil ?_
    refine q_then ?_
    refine c_false rfl ?_
    refine c_skip ?_
    refine q_then ?_
    refine c_seq ?_
    refine c_region ?_
    refine st rfl (o_y (v := .int .i64 w) (y_mv rfl) rfl rfl rfl ?_)
    refine e_by (w = 8) (fun h25 => ?_) (fun h25 => ?_)
    ·
      refine st rfl (o_y (v := .bool true) (y_t (y_k (v := .bool (decide (w = 8))) rfl rfl (fun _ => by kernel_rfl)) h25) rfl rfl rfl ?_)
      refine st rfl (o_y (v := .bool true) (y_mv rfl) rfl rfl rfl ?_)
      refine st_off 41 rfl rfl rfl rfl rfl rfl ?_
      refine st_off 41 rfl rfl rfl rfl rfl rfl ?_
      refine st_off 41 rfl rfl rfl rfl rfl rfl ?_
      refine st_off 41 rfl rfl rfl rfl rfl rfl ?_
      refine st_off 41 rfl rfl rfl rfl rfl rfl ?_
      refine st_off 41 rfl rfl rfl rfl rfl rfl ?_
      refine st rfl (o_y (v := .bool true) (y_pick rfl rfl) rfl rfl rfl ?_)
      refine st rfl (o_y (v := .bool true) (y_as rfl) rfl rfl rfl ?_)
      refine s_nil ?_
      refine q_then ?_
      refine c_seq ?_
      refine c_region ?_
      refine st rfl (o_y (v := .bool true) (y_mv rfl) rfl rfl rfl ?_)
      refine st rfl (o_y (v := .bool true) (y_mv rfl) rfl rfl rfl ?_)
      refine st_on 50 rfl rfl rfl (o_y (v := .int .i64 ((putF w n).2)) (y_mv rfl) rfl rfl rfl ?_)
      have h26 : (putF w n).2 = 0 := by obtain rfl := h25; exact w_fits8 hn
      refine st_on 50 rfl rfl rfl (o_y (v := .bool true) (y_t (y_k (v := .bool (decide ((putF w n).2 = 0))) rfl rfl (fun _ => by kernel_rfl)) h26) rfl rfl rfl ?_)
      refine st_on 50 rfl rfl rfl (o_y (v := .bool true) (y_mv rfl) rfl rfl rfl ?_)
      refine st_on 50 rfl rfl rfl (o_y (v := .bool true) (y_k rfl rfl (fun _ => by kernel_rfl)) rfl rfl rfl ?_)
      refine st rfl (o_y (v := .bool true) (y_pick rfl rfl) rfl rfl rfl ?_)
      refine st rfl (o_y (v := .bool true) (y_mv rfl) rfl rfl rfl ?_)
      refine st_on 56 rfl rfl rfl (o_y (v := .int .i64 ((putF w n).2)) (y_mv rfl) rfl rfl rfl ?_)
      have h27 : (putF w n).2 = 0 := by obtain rfl := h25; exact w_fits8 hn
      refine st_on 56 rfl rfl rfl (o_y (v := .bool true) (y_t (y_k (v := .bool (decide ((putF w n).2 = 0))) rfl rfl (fun _ => by kernel_rfl)) h27) rfl rfl rfl ?_)
      refine st_on 56 rfl rfl rfl (o_y (v := .bool true) (y_mv rfl) rfl rfl rfl ?_)
      refine st_off 59 rfl rfl rfl rfl rfl rfl ?_
      refine st_off 59 rfl rfl rfl rfl rfl rfl ?_
      refine st_on 56 rfl rfl rfl (o_y (v := .bool true) (y_pick rfl rfl) rfl rfl rfl ?_)
      refine st rfl (o_y (v := .bool true) (y_pick rfl rfl) rfl rfl rfl ?_)
      refine st rfl (o_y (v := .bool true) (y_mv rfl) rfl rfl rfl ?_)
      refine st_on 64 rfl rfl rfl (o_y (v := .int .i64 ((putF w n).2)) (y_mv rfl) rfl rfl rfl ?_)
      have h28 : (putF w n).2 = 0 := by obtain rfl := h25; exact w_fits8 hn
      refine st_on 64 rfl rfl rfl (o_y (v := .bool false) (y_nt (y_k (v := .bool (!decide ((putF w n).2 = 0))) rfl rfl (fun _ => by kernel_rfl)) h28) rfl rfl rfl ?_)
      refine st_on 64 rfl rfl rfl (o_y (v := .bool false) (y_mv rfl) rfl rfl rfl ?_)
      refine st_on 67 rfl rfl rfl (o_y (v := .string ((putF w n).1)) (y_mv rfl) rfl rfl rfl ?_)
      refine st_on 67 rfl rfl rfl (o_y (v := .int .i64 (((putF w n).1).size : Int)) (y_k rfl rfl (fun _ => by kernel_rfl)) rfl rfl rfl ?_)
      refine st_on 67 rfl rfl rfl (o_y (v := .int .i64 w) (y_mv rfl) rfl rfl rfl ?_)
      have h29 : (((putF w n).1).size : Int) = w := back_len h28
      refine st_on 67 rfl rfl rfl (o_y (v := .bool true) (y_t (y_k (v := .bool (decide ((((putF w n).1).size : Int) = w))) rfl rfl (fun _ => by kernel_rfl)) h29) rfl rfl rfl ?_)
      refine st_on 64 rfl rfl rfl (o_y (v := .bool true) (y_pick rfl rfl) rfl rfl rfl ?_)
      refine st rfl (o_y (v := .bool true) (y_pick rfl rfl) rfl rfl rfl ?_)
      refine st rfl (o_y (v := .bool true) (y_as rfl) rfl rfl rfl ?_)
      refine s_nil ?_
      refine q_then ?_
      refine c_ret ?_
      refine c_fin (I' := []) [] [0, 1, 2, 3, 4, 5, 6] rfl (.tmp rfl .nil) rfl rfl rfl ?_
      exact ⟨rfl, rfl, rfl⟩
    ·
      refine st rfl (o_y (v := .bool false) (y_f (y_k (v := .bool (decide (w = 8))) rfl rfl (fun _ => by kernel_rfl)) h25) rfl rfl rfl ?_)
      refine st rfl (o_y (v := .bool false) (y_mv rfl) rfl rfl rfl ?_)
      refine st_on 41 rfl rfl rfl (o_y (v := .int .u64 (n : Int)) (y_mv rfl) rfl rfl rfl ?_)
      refine st_on 41 rfl rfl rfl (o_y (v := .int .i64 w) (y_mv rfl) rfl rfl rfl ?_)
      refine st_on 41 rfl rfl rfl (o_y (v := .int .i64 (min w 7)) (y_mini (p := w) (q := 7) rfl rfl) rfl rfl rfl ?_)
      refine st_on 41 rfl rfl rfl (o_y (v := .int .i64 (8 * (min w 7))) (y_mul (r := 8 * (min w 7)) rfl rfl rfl (by omega)) rfl rfl rfl ?_)
      refine st_on 41 rfl rfl rfl (o_y (v := .int .u64 ((n / 2 ^ ((8 * (min w 7)).toNat) : Nat) : Int)) (y_shr (a := n) (k := (8 * (min w 7)).toNat) rfl rfl (by have := Int.min_le_left w 7; omega) (by omega)) rfl rfl rfl ?_)
      refine e_by (((n / 2 ^ ((8 * (min w 7)).toNat) : Nat) : Int) = 0) (fun h30 => ?_) (fun h30 => ?_)
      ·
        refine st_on 41 rfl rfl rfl (o_y (v := .bool true) (y_t (y_k (v := .bool (decide (((n / 2 ^ ((8 * (min w 7)).toNat) : Nat) : Int) = 0))) rfl rfl (fun _ => by kernel_rfl)) h30) rfl rfl rfl ?_)
        refine st rfl (o_y (v := .bool true) (y_pick rfl rfl) rfl rfl rfl ?_)
        refine st rfl (o_y (v := .bool true) (y_as rfl) rfl rfl rfl ?_)
        refine s_nil ?_
        refine q_then ?_
        refine c_seq ?_
        refine c_region ?_
        refine st rfl (o_y (v := .bool true) (y_mv rfl) rfl rfl rfl ?_)
        refine st rfl (o_y (v := .bool true) (y_mv rfl) rfl rfl rfl ?_)
        refine st_on 50 rfl rfl rfl (o_y (v := .int .i64 ((putF w n).2)) (y_mv rfl) rfl rfl rfl ?_)
        have h31 : (putF w n).2 = 0 := w_fits (by unfold isW; omega) (by omega) h30
        refine st_on 50 rfl rfl rfl (o_y (v := .bool true) (y_t (y_k (v := .bool (decide ((putF w n).2 = 0))) rfl rfl (fun _ => by kernel_rfl)) h31) rfl rfl rfl ?_)
        refine st_on 50 rfl rfl rfl (o_y (v := .bool true) (y_mv rfl) rfl rfl rfl ?_)
        refine st_on 50 rfl rfl rfl (o_y (v := .bool true) (y_k rfl rfl (fun _ => by kernel_rfl)) rfl rfl rfl ?_)
        refine st rfl (o_y (v := .bool true) (y_pick rfl rfl) rfl rfl rfl ?_)
        refine st rfl (o_y (v := .bool true) (y_mv rfl) rfl rfl rfl ?_)
        refine st_on 56 rfl rfl rfl (o_y (v := .int .i64 ((putF w n).2)) (y_mv rfl) rfl rfl rfl ?_)
        have h32 : (putF w n).2 = 0 := w_fits (by unfold isW; omega) (by omega) h30
        refine st_on 56 rfl rfl rfl (o_y (v := .bool true) (y_t (y_k (v := .bool (decide ((putF w n).2 = 0))) rfl rfl (fun _ => by kernel_rfl)) h32) rfl rfl rfl ?_)
        refine st_on 56 rfl rfl rfl (o_y (v := .bool true) (y_mv rfl) rfl rfl rfl ?_)
        refine st_off 59 rfl rfl rfl rfl rfl rfl ?_
        refine st_off 59 rfl rfl rfl rfl rfl rfl ?_
        refine st_on 56 rfl rfl rfl (o_y (v := .bool true) (y_pick rfl rfl) rfl rfl rfl ?_)
        refine st rfl (o_y (v := .bool true) (y_pick rfl rfl) rfl rfl rfl ?_)
        refine st rfl (o_y (v := .bool true) (y_mv rfl) rfl rfl rfl ?_)
        refine st_on 64 rfl rfl rfl (o_y (v := .int .i64 ((putF w n).2)) (y_mv rfl) rfl rfl rfl ?_)
        have h33 : (putF w n).2 = 0 := w_fits (by unfold isW; omega) (by omega) h30
        refine st_on 64 rfl rfl rfl (o_y (v := .bool false) (y_nt (y_k (v := .bool (!decide ((putF w n).2 = 0))) rfl rfl (fun _ => by kernel_rfl)) h33) rfl rfl rfl ?_)
        refine st_on 64 rfl rfl rfl (o_y (v := .bool false) (y_mv rfl) rfl rfl rfl ?_)
        refine st_on 67 rfl rfl rfl (o_y (v := .string ((putF w n).1)) (y_mv rfl) rfl rfl rfl ?_)
        refine st_on 67 rfl rfl rfl (o_y (v := .int .i64 (((putF w n).1).size : Int)) (y_k rfl rfl (fun _ => by kernel_rfl)) rfl rfl rfl ?_)
        refine st_on 67 rfl rfl rfl (o_y (v := .int .i64 w) (y_mv rfl) rfl rfl rfl ?_)
        have h34 : (((putF w n).1).size : Int) = w := back_len h33
        refine st_on 67 rfl rfl rfl (o_y (v := .bool true) (y_t (y_k (v := .bool (decide ((((putF w n).1).size : Int) = w))) rfl rfl (fun _ => by kernel_rfl)) h34) rfl rfl rfl ?_)
        refine st_on 64 rfl rfl rfl (o_y (v := .bool true) (y_pick rfl rfl) rfl rfl rfl ?_)
        refine st rfl (o_y (v := .bool true) (y_pick rfl rfl) rfl rfl rfl ?_)
        refine st rfl (o_y (v := .bool true) (y_as rfl) rfl rfl rfl ?_)
        refine s_nil ?_
        refine q_then ?_
        refine c_ret ?_
        refine c_fin (I' := []) [] [0, 1, 2, 3, 4, 5, 6] rfl (.tmp rfl .nil) rfl rfl rfl ?_
        exact ⟨rfl, rfl, rfl⟩
      ·
        refine st_on 41 rfl rfl rfl (o_y (v := .bool false) (y_f (y_k (v := .bool (decide (((n / 2 ^ ((8 * (min w 7)).toNat) : Nat) : Int) = 0))) rfl rfl (fun _ => by kernel_rfl)) h30) rfl rfl rfl ?_)
        refine st rfl (o_y (v := .bool false) (y_pick rfl rfl) rfl rfl rfl ?_)
        refine st rfl (o_y (v := .bool false) (y_as rfl) rfl rfl rfl ?_)
        refine s_nil ?_
        refine q_then ?_
        refine c_seq ?_
        refine c_region ?_
        refine st rfl (o_y (v := .bool true) (y_mv rfl) rfl rfl rfl ?_)
        refine st rfl (o_y (v := .bool true) (y_mv rfl) rfl rfl rfl ?_)
        refine st_on 50 rfl rfl rfl (o_y (v := .int .i64 ((putF w n).2)) (y_mv rfl) rfl rfl rfl ?_)
        have h35 : ¬ ((putF w n).2 = 0) := by rw [w_not (by unfold isW; omega) (by omega) h30]; decide
        refine st_on 50 rfl rfl rfl (o_y (v := .bool false) (y_f (y_k (v := .bool (decide ((putF w n).2 = 0))) rfl rfl (fun _ => by kernel_rfl)) h35) rfl rfl rfl ?_)
        refine st_on 50 rfl rfl rfl (o_y (v := .bool false) (y_mv rfl) rfl rfl rfl ?_)
        refine st_on 50 rfl rfl rfl (o_y (v := .bool true) (y_k rfl rfl (fun _ => by kernel_rfl)) rfl rfl rfl ?_)
        refine st rfl (o_y (v := .bool true) (y_pick rfl rfl) rfl rfl rfl ?_)
        refine st rfl (o_y (v := .bool true) (y_mv rfl) rfl rfl rfl ?_)
        refine st_on 56 rfl rfl rfl (o_y (v := .int .i64 ((putF w n).2)) (y_mv rfl) rfl rfl rfl ?_)
        have h36 : ¬ ((putF w n).2 = 0) := by rw [w_not (by unfold isW; omega) (by omega) h30]; decide
        refine st_on 56 rfl rfl rfl (o_y (v := .bool false) (y_f (y_k (v := .bool (decide ((putF w n).2 = 0))) rfl rfl (fun _ => by kernel_rfl)) h36) rfl rfl rfl ?_)
        refine st_on 56 rfl rfl rfl (o_y (v := .bool false) (y_mv rfl) rfl rfl rfl ?_)
        refine st_on 59 rfl rfl rfl (o_y (v := .int .i64 ((putF w n).2)) (y_mv rfl) rfl rfl rfl ?_)
        have h37 : (putF w n).2 = 31 := w_not (by unfold isW; omega) (by omega) h30
        refine st_on 59 rfl rfl rfl (o_y (v := .bool true) (y_t (y_k (v := .bool (decide ((putF w n).2 = 31))) rfl rfl (fun _ => by kernel_rfl)) h37) rfl rfl rfl ?_)
        refine st_on 56 rfl rfl rfl (o_y (v := .bool true) (y_pick rfl rfl) rfl rfl rfl ?_)
        refine st rfl (o_y (v := .bool true) (y_pick rfl rfl) rfl rfl rfl ?_)
        refine st rfl (o_y (v := .bool true) (y_mv rfl) rfl rfl rfl ?_)
        refine st_on 64 rfl rfl rfl (o_y (v := .int .i64 ((putF w n).2)) (y_mv rfl) rfl rfl rfl ?_)
        have h38 : ¬ ((putF w n).2 = 0) := by rw [w_not (by unfold isW; omega) (by omega) h30]; decide
        refine st_on 64 rfl rfl rfl (o_y (v := .bool true) (y_nf (y_k (v := .bool (!decide ((putF w n).2 = 0))) rfl rfl (fun _ => by kernel_rfl)) h38) rfl rfl rfl ?_)
        refine st_on 64 rfl rfl rfl (o_y (v := .bool true) (y_mv rfl) rfl rfl rfl ?_)
        refine st_off 67 rfl rfl rfl rfl rfl rfl ?_
        refine st_off 67 rfl rfl rfl rfl rfl rfl ?_
        refine st_off 67 rfl rfl rfl rfl rfl rfl ?_
        refine st_off 67 rfl rfl rfl rfl rfl rfl ?_
        refine st_on 64 rfl rfl rfl (o_y (v := .bool true) (y_pick rfl rfl) rfl rfl rfl ?_)
        refine st rfl (o_y (v := .bool true) (y_pick rfl rfl) rfl rfl rfl ?_)
        refine st rfl (o_y (v := .bool true) (y_as rfl) rfl rfl rfl ?_)
        refine s_nil ?_
        refine q_then ?_
        refine c_ret ?_
        refine c_fin (I' := []) [] [0, 1, 2, 3, 4, 5, 6] rfl (.tmp rfl .nil) rfl rfl rfl ?_
        exact ⟨rfl, rfl, rfl⟩
  ·
    refine st rfl (o_y (v := .bool true) (y_nf (y_k (v := .bool (!decide (w = 1))) rfl rfl (fun _ => by kernel_rfl)) h24) rfl rfl rfl ?_)
    refine st rfl (o_y (v := .bool true) (y_mv rfl) rfl rfl rfl ?_)
    refine st_on 18 rfl rfl rfl (o_y (v := .int .i64 w) (y_mv rfl) rfl rfl rfl ?_)
    refine e_by (w = 2) (fun h39 => ?_) (fun h39 => ?_)
    ·
      refine st_on 18 rfl rfl rfl (o_y (v := .bool false) (y_nt (y_k (v := .bool (!decide (w = 2))) rfl rfl (fun _ => by kernel_rfl)) h39) rfl rfl rfl ?_)
      refine st rfl (o_y (v := .bool false) (y_pick rfl rfl) rfl rfl rfl ?_)
      refine st rfl (o_y (v := .bool false) (y_mv rfl) rfl rfl rfl ?_)
      refine st_off 22 rfl rfl rfl rfl rfl rfl ?_
      refine st_off 22 rfl rfl rfl rfl rfl rfl ?_
      refine st rfl (o_y (v := .bool false) (y_pick rfl rfl) rfl rfl rfl ?_)
      refine st rfl (o_y (v := .bool false) (y_mv rfl) rfl rfl rfl ?_)
      refine st_off 26 rfl rfl rfl rfl rfl rfl ?_
      refine st_off 26 rfl rfl rfl rfl rfl rfl ?_
      refine st rfl (o_y (v := .bool false) (y_pick rfl rfl) rfl rfl rfl ?_)
      refine s_nil ?_
      refine q_then ?_
      refine c_false rfl ?_
      refine c_skip ?_
      refine q_then ?_
      refine c_seq ?_
      refine c_region ?_
      refine st rfl (o_y (v := .int .i64 w) (y_mv rfl) rfl rfl rfl ?_)
      refine e_by (w = 8) (fun h40 => ?_) (fun h40 => ?_)
      ·
        refine st rfl (o_y (v := .bool true) (y_t (y_k (v := .bool (decide (w = 8))) rfl rfl (fun _ => by kernel_rfl)) h40) rfl rfl rfl ?_)
        refine st rfl (o_y (v := .bool true) (y_mv rfl) rfl rfl rfl ?_)
        refine st_off 41 rfl rfl rfl rfl rfl rfl ?_
        refine st_off 41 rfl rfl rfl rfl rfl rfl ?_
        refine st_off 41 rfl rfl rfl rfl rfl rfl ?_
        refine st_off 41 rfl rfl rfl rfl rfl rfl ?_
        refine st_off 41 rfl rfl rfl rfl rfl rfl ?_
        refine st_off 41 rfl rfl rfl rfl rfl rfl ?_
        refine st rfl (o_y (v := .bool true) (y_pick rfl rfl) rfl rfl rfl ?_)
        refine st rfl (o_y (v := .bool true) (y_as rfl) rfl rfl rfl ?_)
        refine s_nil ?_
        refine q_then ?_
        refine c_seq ?_
        refine c_region ?_
        refine st rfl (o_y (v := .bool true) (y_mv rfl) rfl rfl rfl ?_)
        refine st rfl (o_y (v := .bool true) (y_mv rfl) rfl rfl rfl ?_)
        refine st_on 50 rfl rfl rfl (o_y (v := .int .i64 ((putF w n).2)) (y_mv rfl) rfl rfl rfl ?_)
        have h41 : (putF w n).2 = 0 := by obtain rfl := h40; exact w_fits8 hn
        refine st_on 50 rfl rfl rfl (o_y (v := .bool true) (y_t (y_k (v := .bool (decide ((putF w n).2 = 0))) rfl rfl (fun _ => by kernel_rfl)) h41) rfl rfl rfl ?_)
        refine st_on 50 rfl rfl rfl (o_y (v := .bool true) (y_mv rfl) rfl rfl rfl ?_)
        refine st_on 50 rfl rfl rfl (o_y (v := .bool true) (y_k rfl rfl (fun _ => by kernel_rfl)) rfl rfl rfl ?_)
        refine st rfl (o_y (v := .bool true) (y_pick rfl rfl) rfl rfl rfl ?_)
        refine st rfl (o_y (v := .bool true) (y_mv rfl) rfl rfl rfl ?_)
        refine st_on 56 rfl rfl rfl (o_y (v := .int .i64 ((putF w n).2)) (y_mv rfl) rfl rfl rfl ?_)
        have h42 : (putF w n).2 = 0 := by obtain rfl := h40; exact w_fits8 hn
        refine st_on 56 rfl rfl rfl (o_y (v := .bool true) (y_t (y_k (v := .bool (decide ((putF w n).2 = 0))) rfl rfl (fun _ => by kernel_rfl)) h42) rfl rfl rfl ?_)
        refine st_on 56 rfl rfl rfl (o_y (v := .bool true) (y_mv rfl) rfl rfl rfl ?_)
        refine st_off 59 rfl rfl rfl rfl rfl rfl ?_
        refine st_off 59 rfl rfl rfl rfl rfl rfl ?_
        refine st_on 56 rfl rfl rfl (o_y (v := .bool true) (y_pick rfl rfl) rfl rfl rfl ?_)
        refine st rfl (o_y (v := .bool true) (y_pick rfl rfl) rfl rfl rfl ?_)
        refine st rfl (o_y (v := .bool true) (y_mv rfl) rfl rfl rfl ?_)
        refine st_on 64 rfl rfl rfl (o_y (v := .int .i64 ((putF w n).2)) (y_mv rfl) rfl rfl rfl ?_)
        have h43 : (putF w n).2 = 0 := by obtain rfl := h40; exact w_fits8 hn
        refine st_on 64 rfl rfl rfl (o_y (v := .bool false) (y_nt (y_k (v := .bool (!decide ((putF w n).2 = 0))) rfl rfl (fun _ => by kernel_rfl)) h43) rfl rfl rfl ?_)
        refine st_on 64 rfl rfl rfl (o_y (v := .bool false) (y_mv rfl) rfl rfl rfl ?_)
        refine st_on 67 rfl rfl rfl (o_y (v := .string ((putF w n).1)) (y_mv rfl) rfl rfl rfl ?_)
        refine st_on 67 rfl rfl rfl (o_y (v := .int .i64 (((putF w n).1).size : Int)) (y_k rfl rfl (fun _ => by kernel_rfl)) rfl rfl rfl ?_)
        refine st_on 67 rfl rfl rfl (o_y (v := .int .i64 w) (y_mv rfl) rfl rfl rfl ?_)
        have h44 : (((putF w n).1).size : Int) = w := back_len h43
        refine st_on 67 rfl rfl rfl (o_y (v := .bool true) (y_t (y_k (v := .bool (decide ((((putF w n).1).size : Int) = w))) rfl rfl (fun _ => by kernel_rfl)) h44) rfl rfl rfl ?_)
        refine st_on 64 rfl rfl rfl (o_y (v := .bool true) (y_pick rfl rfl) rfl rfl rfl ?_)
        refine st rfl (o_y (v := .bool true) (y_pick rfl rfl) rfl rfl rfl ?_)
        refine st rfl (o_y (v := .bool true) (y_as rfl) rfl rfl rfl ?_)
        refine s_nil ?_
        refine q_then ?_
        refine c_ret ?_
        refine c_fin (I' := []) [] [0, 1, 2, 3, 4, 5, 6] rfl (.tmp rfl .nil) rfl rfl rfl ?_
        exact ⟨rfl, rfl, rfl⟩
      ·
        refine st rfl (o_y (v := .bool false) (y_f (y_k (v := .bool (decide (w = 8))) rfl rfl (fun _ => by kernel_rfl)) h40) rfl rfl rfl ?_)
        refine st rfl (o_y (v := .bool false) (y_mv rfl) rfl rfl rfl ?_)
        refine st_on 41 rfl rfl rfl (o_y (v := .int .u64 (n : Int)) (y_mv rfl) rfl rfl rfl ?_)
        refine st_on 41 rfl rfl rfl (o_y (v := .int .i64 w) (y_mv rfl) rfl rfl rfl ?_)
        refine st_on 41 rfl rfl rfl (o_y (v := .int .i64 (min w 7)) (y_mini (p := w) (q := 7) rfl rfl) rfl rfl rfl ?_)
        refine st_on 41 rfl rfl rfl (o_y (v := .int .i64 (8 * (min w 7))) (y_mul (r := 8 * (min w 7)) rfl rfl rfl (by omega)) rfl rfl rfl ?_)
        refine st_on 41 rfl rfl rfl (o_y (v := .int .u64 ((n / 2 ^ ((8 * (min w 7)).toNat) : Nat) : Int)) (y_shr (a := n) (k := (8 * (min w 7)).toNat) rfl rfl (by have := Int.min_le_left w 7; omega) (by omega)) rfl rfl rfl ?_)
        refine e_by (((n / 2 ^ ((8 * (min w 7)).toNat) : Nat) : Int) = 0) (fun h45 => ?_) (fun h45 => ?_)
        ·
          refine st_on 41 rfl rfl rfl (o_y (v := .bool true) (y_t (y_k (v := .bool (decide (((n / 2 ^ ((8 * (min w 7)).toNat) : Nat) : Int) = 0))) rfl rfl (fun _ => by kernel_rfl)) h45) rfl rfl rfl ?_)
          refine st rfl (o_y (v := .bool true) (y_pick rfl rfl) rfl rfl rfl ?_)
          refine st rfl (o_y (v := .bool true) (y_as rfl) rfl rfl rfl ?_)
          refine s_nil ?_
          refine q_then ?_
          refine c_seq ?_
          refine c_region ?_
          refine st rfl (o_y (v := .bool true) (y_mv rfl) rfl rfl rfl ?_)
          refine st rfl (o_y (v := .bool true) (y_mv rfl) rfl rfl rfl ?_)
          refine st_on 50 rfl rfl rfl (o_y (v := .int .i64 ((putF w n).2)) (y_mv rfl) rfl rfl rfl ?_)
          have h46 : (putF w n).2 = 0 := w_fits (by unfold isW; omega) (by omega) h45
          refine st_on 50 rfl rfl rfl (o_y (v := .bool true) (y_t (y_k (v := .bool (decide ((putF w n).2 = 0))) rfl rfl (fun _ => by kernel_rfl)) h46) rfl rfl rfl ?_)
          refine st_on 50 rfl rfl rfl (o_y (v := .bool true) (y_mv rfl) rfl rfl rfl ?_)
          refine st_on 50 rfl rfl rfl (o_y (v := .bool true) (y_k rfl rfl (fun _ => by kernel_rfl)) rfl rfl rfl ?_)
          refine st rfl (o_y (v := .bool true) (y_pick rfl rfl) rfl rfl rfl ?_)
          refine st rfl (o_y (v := .bool true) (y_mv rfl) rfl rfl rfl ?_)
          refine st_on 56 rfl rfl rfl (o_y (v := .int .i64 ((putF w n).2)) (y_mv rfl) rfl rfl rfl ?_)
          have h47 : (putF w n).2 = 0 := w_fits (by unfold isW; omega) (by omega) h45
          refine st_on 56 rfl rfl rfl (o_y (v := .bool true) (y_t (y_k (v := .bool (decide ((putF w n).2 = 0))) rfl rfl (fun _ => by kernel_rfl)) h47) rfl rfl rfl ?_)
          refine st_on 56 rfl rfl rfl (o_y (v := .bool true) (y_mv rfl) rfl rfl rfl ?_)
          refine st_off 59 rfl rfl rfl rfl rfl rfl ?_
          refine st_off 59 rfl rfl rfl rfl rfl rfl ?_
          refine st_on 56 rfl rfl rfl (o_y (v := .bool true) (y_pick rfl rfl) rfl rfl rfl ?_)
          refine st rfl (o_y (v := .bool true) (y_pick rfl rfl) rfl rfl rfl ?_)
          refine st rfl (o_y (v := .bool true) (y_mv rfl) rfl rfl rfl ?_)
          refine st_on 64 rfl rfl rfl (o_y (v := .int .i64 ((putF w n).2)) (y_mv rfl) rfl rfl rfl ?_)
          have h48 : (putF w n).2 = 0 := w_fits (by unfold isW; omega) (by omega) h45
          refine st_on 64 rfl rfl rfl (o_y (v := .bool false) (y_nt (y_k (v := .bool (!decide ((putF w n).2 = 0))) rfl rfl (fun _ => by kernel_rfl)) h48) rfl rfl rfl ?_)
          refine st_on 64 rfl rfl rfl (o_y (v := .bool false) (y_mv rfl) rfl rfl rfl ?_)
          refine st_on 67 rfl rfl rfl (o_y (v := .string ((putF w n).1)) (y_mv rfl) rfl rfl rfl ?_)
          refine st_on 67 rfl rfl rfl (o_y (v := .int .i64 (((putF w n).1).size : Int)) (y_k rfl rfl (fun _ => by kernel_rfl)) rfl rfl rfl ?_)
          refine st_on 67 rfl rfl rfl (o_y (v := .int .i64 w) (y_mv rfl) rfl rfl rfl ?_)
          have h49 : (((putF w n).1).size : Int) = w := back_len h48
          refine st_on 67 rfl rfl rfl (o_y (v := .bool true) (y_t (y_k (v := .bool (decide ((((putF w n).1).size : Int) = w))) rfl rfl (fun _ => by kernel_rfl)) h49) rfl rfl rfl ?_)
          refine st_on 64 rfl rfl rfl (o_y (v := .bool true) (y_pick rfl rfl) rfl rfl rfl ?_)
          refine st rfl (o_y (v := .bool true) (y_pick rfl rfl) rfl rfl rfl ?_)
          refine st rfl (o_y (v := .bool true) (y_as rfl) rfl rfl rfl ?_)
          refine s_nil ?_
          refine q_then ?_
          refine c_ret ?_
          refine c_fin (I' := []) [] [0, 1, 2, 3, 4, 5, 6] rfl (.tmp rfl .nil) rfl rfl rfl ?_
          exact ⟨rfl, rfl, rfl⟩
        ·
          refine st_on 41 rfl rfl rfl (o_y (v := .bool false) (y_f (y_k (v := .bool (decide (((n / 2 ^ ((8 * (min w 7)).toNat) : Nat) : Int) = 0))) rfl rfl (fun _ => by kernel_rfl)) h45) rfl rfl rfl ?_)
          refine st rfl (o_y (v := .bool false) (y_pick rfl rfl) rfl rfl rfl ?_)
          refine st rfl (o_y (v := .bool false) (y_as rfl) rfl rfl rfl ?_)
          refine s_nil ?_
          refine q_then ?_
          refine c_seq ?_
          refine c_region ?_
          refine st rfl (o_y (v := .bool true) (y_mv rfl) rfl rfl rfl ?_)
          refine st rfl (o_y (v := .bool true) (y_mv rfl) rfl rfl rfl ?_)
          refine st_on 50 rfl rfl rfl (o_y (v := .int .i64 ((putF w n).2)) (y_mv rfl) rfl rfl rfl ?_)
          have h50 : ¬ ((putF w n).2 = 0) := by rw [w_not (by unfold isW; omega) (by omega) h45]; decide
          refine st_on 50 rfl rfl rfl (o_y (v := .bool false) (y_f (y_k (v := .bool (decide ((putF w n).2 = 0))) rfl rfl (fun _ => by kernel_rfl)) h50) rfl rfl rfl ?_)
          refine st_on 50 rfl rfl rfl (o_y (v := .bool false) (y_mv rfl) rfl rfl rfl ?_)
          refine st_on 50 rfl rfl rfl (o_y (v := .bool true) (y_k rfl rfl (fun _ => by kernel_rfl)) rfl rfl rfl ?_)
          refine st rfl (o_y (v := .bool true) (y_pick rfl rfl) rfl rfl rfl ?_)
          refine st rfl (o_y (v := .bool true) (y_mv rfl) rfl rfl rfl ?_)
          refine st_on 56 rfl rfl rfl (o_y (v := .int .i64 ((putF w n).2)) (y_mv rfl) rfl rfl rfl ?_)
          have h51 : ¬ ((putF w n).2 = 0) := by rw [w_not (by unfold isW; omega) (by omega) h45]; decide
          refine st_on 56 rfl rfl rfl (o_y (v := .bool false) (y_f (y_k (v := .bool (decide ((putF w n).2 = 0))) rfl rfl (fun _ => by kernel_rfl)) h51) rfl rfl rfl ?_)
          refine st_on 56 rfl rfl rfl (o_y (v := .bool false) (y_mv rfl) rfl rfl rfl ?_)
          refine st_on 59 rfl rfl rfl (o_y (v := .int .i64 ((putF w n).2)) (y_mv rfl) rfl rfl rfl ?_)
          have h52 : (putF w n).2 = 31 := w_not (by unfold isW; omega) (by omega) h45
          refine st_on 59 rfl rfl rfl (o_y (v := .bool true) (y_t (y_k (v := .bool (decide ((putF w n).2 = 31))) rfl rfl (fun _ => by kernel_rfl)) h52) rfl rfl rfl ?_)
          refine st_on 56 rfl rfl rfl (o_y (v := .bool true) (y_pick rfl rfl) rfl rfl rfl ?_)
          refine st rfl (o_y (v := .bool true) (y_pick rfl rfl) rfl rfl rfl ?_)
          refine st rfl (o_y (v := .bool true) (y_mv rfl) rfl rfl rfl ?_)
          refine st_on 64 rfl rfl rfl (o_y (v := .int .i64 ((putF w n).2)) (y_mv rfl) rfl rfl rfl ?_)
          have h53 : ¬ ((putF w n).2 = 0) := by rw [w_not (by unfold isW; omega) (by omega) h45]; decide
          refine st_on 64 rfl rfl rfl (o_y (v := .bool true) (y_nf (y_k (v := .bool (!decide ((putF w n).2 = 0))) rfl rfl (fun _ => by kernel_rfl)) h53) rfl rfl rfl ?_)
          refine st_on 64 rfl rfl rfl (o_y (v := .bool true) (y_mv rfl) rfl rfl rfl ?_)
          refine st_off 67 rfl rfl rfl rfl rfl rfl ?_
          refine st_off 67 rfl rfl rfl rfl rfl rfl ?_
          refine st_off 67 rfl rfl rfl rfl rfl rfl ?_
          refine st_off 67 rfl rfl rfl rfl rfl rfl ?_
          refine st_on 64 rfl rfl rfl (o_y (v := .bool true) (y_pick rfl rfl) rfl rfl rfl ?_)
          refine st rfl (o_y (v := .bool true) (y_pick rfl rfl) rfl rfl rfl ?_)
          refine st rfl (o_y (v := .bool true) (y_as rfl) rfl rfl rfl ?_)
          refine s_nil ?_
          refine q_then ?_
          refine c_ret ?_
          refine c_fin (I' := []) [] [0, 1, 2, 3, 4, 5, 6] rfl (.tmp rfl .nil) rfl rfl rfl ?_
          exact ⟨rfl, rfl, rfl⟩
    ·
      refine st_on 18 rfl rfl rfl (o_y (v := .bool true) (y_nf (y_k (v := .bool (!decide (w = 2))) rfl rfl (fun _ => by kernel_rfl)) h39) rfl rfl rfl ?_)
      refine st rfl (o_y (v := .bool true) (y_pick rfl rfl) rfl rfl rfl ?_)
      refine st rfl (o_y (v := .bool true) (y_mv rfl) rfl rfl rfl ?_)
      refine st_on 22 rfl rfl rfl (o_y (v := .int .i64 w) (y_mv rfl) rfl rfl rfl ?_)
      refine e_by (w = 4) (fun h54 => ?_) (fun h54 => ?_)
      ·
        refine st_on 22 rfl rfl rfl (o_y (v := .bool false) (y_nt (y_k (v := .bool (!decide (w = 4))) rfl rfl (fun _ => by kernel_rfl)) h54) rfl rfl rfl ?_)
        refine st rfl (o_y (v := .bool false) (y_pick rfl rfl) rfl rfl rfl ?_)
        refine st rfl (o_y (v := .bool false) (y_mv rfl) rfl rfl rfl ?_)
        refine st_off 26 rfl rfl rfl rfl rfl rfl ?_
        refine st_off 26 rfl rfl rfl rfl rfl rfl ?_
        refine st rfl (o_y (v := .bool false) (y_pick rfl rfl) rfl rfl rfl ?_)
        refine s_nil ?_
        refine q_then ?_
        refine c_false rfl ?_
        refine c_skip ?_
        refine q_then ?_
        refine c_seq ?_
        refine c_region ?_
        refine st rfl (o_y (v := .int .i64 w) (y_mv rfl) rfl rfl rfl ?_)
        refine e_by (w = 8) (fun h55 => ?_) (fun h55 => ?_)
        ·
          refine st rfl (o_y (v := .bool true) (y_t (y_k (v := .bool (decide (w = 8))) rfl rfl (fun _ => by kernel_rfl)) h55) rfl rfl rfl ?_)
          refine st rfl (o_y (v := .bool true) (y_mv rfl) rfl rfl rfl ?_)
          refine st_off 41 rfl rfl rfl rfl rfl rfl ?_
          refine st_off 41 rfl rfl rfl rfl rfl rfl ?_
          refine st_off 41 rfl rfl rfl rfl rfl rfl ?_
          refine st_off 41 rfl rfl rfl rfl rfl rfl ?_
          refine st_off 41 rfl rfl rfl rfl rfl rfl ?_
          refine st_off 41 rfl rfl rfl rfl rfl rfl ?_
          refine st rfl (o_y (v := .bool true) (y_pick rfl rfl) rfl rfl rfl ?_)
          refine st rfl (o_y (v := .bool true) (y_as rfl) rfl rfl rfl ?_)
          refine s_nil ?_
          refine q_then ?_
          refine c_seq ?_
          refine c_region ?_
          refine st rfl (o_y (v := .bool true) (y_mv rfl) rfl rfl rfl ?_)
          refine st rfl (o_y (v := .bool true) (y_mv rfl) rfl rfl rfl ?_)
          refine st_on 50 rfl rfl rfl (o_y (v := .int .i64 ((putF w n).2)) (y_mv rfl) rfl rfl rfl ?_)
          have h56 : (putF w n).2 = 0 := by obtain rfl := h55; exact w_fits8 hn
          refine st_on 50 rfl rfl rfl (o_y (v := .bool true) (y_t (y_k (v := .bool (decide ((putF w n).2 = 0))) rfl rfl (fun _ => by kernel_rfl)) h56) rfl rfl rfl ?_)
          refine st_on 50 rfl rfl rfl (o_y (v := .bool true) (y_mv rfl) rfl rfl rfl ?_)
          refine st_on 50 rfl rfl rfl (o_y (v := .bool true) (y_k rfl rfl (fun _ => by kernel_rfl)) rfl rfl rfl ?_)
          refine st rfl (o_y (v := .bool true) (y_pick rfl rfl) rfl rfl rfl ?_)
          refine st rfl (o_y (v := .bool true) (y_mv rfl) rfl rfl rfl ?_)
          refine st_on 56 rfl rfl rfl (o_y (v := .int .i64 ((putF w n).2)) (y_mv rfl) rfl rfl rfl ?_)
          have h57 : (putF w n).2 = 0 := by obtain rfl := h55; exact w_fits8 hn
          refine st_on 56 rfl rfl rfl (o_y (v := .bool true) (y_t (y_k (v := .bool (decide ((putF w n).2 = 0))) rfl rfl (fun _ => by kernel_rfl)) h57) rfl rfl rfl ?_)
          refine st_on 56 rfl rfl rfl (o_y (v := .bool true) (y_mv rfl) rfl rfl rfl ?_)
          refine st_off 59 rfl rfl rfl rfl rfl rfl ?_
          refine st_off 59 rfl rfl rfl rfl rfl rfl ?_
          refine st_on 56 rfl rfl rfl (o_y (v := .bool true) (y_pick rfl rfl) rfl rfl rfl ?_)
          refine st rfl (o_y (v := .bool true) (y_pick rfl rfl) rfl rfl rfl ?_)
          refine st rfl (o_y (v := .bool true) (y_mv rfl) rfl rfl rfl ?_)
          refine st_on 64 rfl rfl rfl (o_y (v := .int .i64 ((putF w n).2)) (y_mv rfl) rfl rfl rfl ?_)
          have h58 : (putF w n).2 = 0 := by obtain rfl := h55; exact w_fits8 hn
          refine st_on 64 rfl rfl rfl (o_y (v := .bool false) (y_nt (y_k (v := .bool (!decide ((putF w n).2 = 0))) rfl rfl (fun _ => by kernel_rfl)) h58) rfl rfl rfl ?_)
          refine st_on 64 rfl rfl rfl (o_y (v := .bool false) (y_mv rfl) rfl rfl rfl ?_)
          refine st_on 67 rfl rfl rfl (o_y (v := .string ((putF w n).1)) (y_mv rfl) rfl rfl rfl ?_)
          refine st_on 67 rfl rfl rfl (o_y (v := .int .i64 (((putF w n).1).size : Int)) (y_k rfl rfl (fun _ => by kernel_rfl)) rfl rfl rfl ?_)
          refine st_on 67 rfl rfl rfl (o_y (v := .int .i64 w) (y_mv rfl) rfl rfl rfl ?_)
          have h59 : (((putF w n).1).size : Int) = w := back_len h58
          refine st_on 67 rfl rfl rfl (o_y (v := .bool true) (y_t (y_k (v := .bool (decide ((((putF w n).1).size : Int) = w))) rfl rfl (fun _ => by kernel_rfl)) h59) rfl rfl rfl ?_)
          refine st_on 64 rfl rfl rfl (o_y (v := .bool true) (y_pick rfl rfl) rfl rfl rfl ?_)
          refine st rfl (o_y (v := .bool true) (y_pick rfl rfl) rfl rfl rfl ?_)
          refine st rfl (o_y (v := .bool true) (y_as rfl) rfl rfl rfl ?_)
          refine s_nil ?_
          refine q_then ?_
          refine c_ret ?_
          refine c_fin (I' := []) [] [0, 1, 2, 3, 4, 5, 6] rfl (.tmp rfl .nil) rfl rfl rfl ?_
          exact ⟨rfl, rfl, rfl⟩
        ·
          refine st rfl (o_y (v := .bool false) (y_f (y_k (v := .bool (decide (w = 8))) rfl rfl (fun _ => by kernel_rfl)) h55) rfl rfl rfl ?_)
          refine st rfl (o_y (v := .bool false) (y_mv rfl) rfl rfl rfl ?_)
          refine st_on 41 rfl rfl rfl (o_y (v := .int .u64 (n : Int)) (y_mv rfl) rfl rfl rfl ?_)
          refine st_on 41 rfl rfl rfl (o_y (v := .int .i64 w) (y_mv rfl) rfl rfl rfl ?_)
          refine st_on 41 rfl rfl rfl (o_y (v := .int .i64 (min w 7)) (y_mini (p := w) (q := 7) rfl rfl) rfl rfl rfl ?_)
          refine st_on 41 rfl rfl rfl (o_y (v := .int .i64 (8 * (min w 7))) (y_mul (r := 8 * (min w 7)) rfl rfl rfl (by omega)) rfl rfl rfl ?_)
          refine st_on 41 rfl rfl rfl (o_y (v := .int .u64 ((n / 2 ^ ((8 * (min w 7)).toNat) : Nat) : Int)) (y_shr (a := n) (k := (8 * (min w 7)).toNat) rfl rfl (by have := Int.min_le_left w 7; omega) (by omega)) rfl rfl rfl ?_)
          refine e_by (((n / 2 ^ ((8 * (min w 7)).toNat) : Nat) : Int) = 0) (fun h60 => ?_) (fun h60 => ?_)
          ·
            refine st_on 41 rfl rfl rfl (o_y (v := .bool true) (y_t (y_k (v := .bool (decide (((n / 2 ^ ((8 * (min w 7)).toNat) : Nat) : Int) = 0))) rfl rfl (fun _ => by kernel_rfl)) h60) rfl rfl rfl ?_)
            refine st rfl (o_y (v := .bool true) (y_pick rfl rfl) rfl rfl rfl ?_)
            refine st rfl (o_y (v := .bool true) (y_as rfl) rfl rfl rfl ?_)
            refine s_nil ?_
            refine q_then ?_
            refine c_seq ?_
            refine c_region ?_
            refine st rfl (o_y (v := .bool true) (y_mv rfl) rfl rfl rfl ?_)
            refine st rfl (o_y (v := .bool true) (y_mv rfl) rfl rfl rfl ?_)
            refine st_on 50 rfl rfl rfl (o_y (v := .int .i64 ((putF w n).2)) (y_mv rfl) rfl rfl rfl ?_)
            have h61 : (putF w n).2 = 0 := w_fits (by unfold isW; omega) (by omega) h60
            refine st_on 50 rfl rfl rfl (o_y (v := .bool true) (y_t (y_k (v := .bool (decide ((putF w n).2 = 0))) rfl rfl (fun _ => by kernel_rfl)) h61) rfl rfl rfl ?_)
            refine st_on 50 rfl rfl rfl (o_y (v := .bool true) (y_mv rfl) rfl rfl rfl ?_)
            refine st_on 50 rfl rfl rfl (o_y (v := .bool true) (y_k rfl rfl (fun _ => by kernel_rfl)) rfl rfl rfl ?_)
            refine st rfl (o_y (v := .bool true) (y_pick rfl rfl) rfl rfl rfl ?_)
            refine st rfl (o_y (v := .bool true) (y_mv rfl) rfl rfl rfl ?_)
            refine st_on 56 rfl rfl rfl (o_y (v := .int .i64 ((putF w n).2)) (y_mv rfl) rfl rfl rfl ?_)
            have h62 : (putF w n).2 = 0 := w_fits (by unfold isW; omega) (by omega) h60
            refine st_on 56 rfl rfl rfl (o_y (v := .bool true) (y_t (y_k (v := .bool (decide ((putF w n).2 = 0))) rfl rfl (fun _ => by kernel_rfl)) h62) rfl rfl rfl ?_)
            refine st_on 56 rfl rfl rfl (o_y (v := .bool true) (y_mv rfl) rfl rfl rfl ?_)
            refine st_off 59 rfl rfl rfl rfl rfl rfl ?_
            refine st_off 59 rfl rfl rfl rfl rfl rfl ?_
            refine st_on 56 rfl rfl rfl (o_y (v := .bool true) (y_pick rfl rfl) rfl rfl rfl ?_)
            refine st rfl (o_y (v := .bool true) (y_pick rfl rfl) rfl rfl rfl ?_)
            refine st rfl (o_y (v := .bool true) (y_mv rfl) rfl rfl rfl ?_)
            refine st_on 64 rfl rfl rfl (o_y (v := .int .i64 ((putF w n).2)) (y_mv rfl) rfl rfl rfl ?_)
            have h63 : (putF w n).2 = 0 := w_fits (by unfold isW; omega) (by omega) h60
            refine st_on 64 rfl rfl rfl (o_y (v := .bool false) (y_nt (y_k (v := .bool (!decide ((putF w n).2 = 0))) rfl rfl (fun _ => by kernel_rfl)) h63) rfl rfl rfl ?_)
            refine st_on 64 rfl rfl rfl (o_y (v := .bool false) (y_mv rfl) rfl rfl rfl ?_)
            refine st_on 67 rfl rfl rfl (o_y (v := .string ((putF w n).1)) (y_mv rfl) rfl rfl rfl ?_)
            refine st_on 67 rfl rfl rfl (o_y (v := .int .i64 (((putF w n).1).size : Int)) (y_k rfl rfl (fun _ => by kernel_rfl)) rfl rfl rfl ?_)
            refine st_on 67 rfl rfl rfl (o_y (v := .int .i64 w) (y_mv rfl) rfl rfl rfl ?_)
            have h64 : (((putF w n).1).size : Int) = w := back_len h63
            refine st_on 67 rfl rfl rfl (o_y (v := .bool true) (y_t (y_k (v := .bool (decide ((((putF w n).1).size : Int) = w))) rfl rfl (fun _ => by kernel_rfl)) h64) rfl rfl rfl ?_)
            refine st_on 64 rfl rfl rfl (o_y (v := .bool true) (y_pick rfl rfl) rfl rfl rfl ?_)
            refine st rfl (o_y (v := .bool true) (y_pick rfl rfl) rfl rfl rfl ?_)
            refine st rfl (o_y (v := .bool true) (y_as rfl) rfl rfl rfl ?_)
            refine s_nil ?_
            refine q_then ?_
            refine c_ret ?_
            refine c_fin (I' := []) [] [0, 1, 2, 3, 4, 5, 6] rfl (.tmp rfl .nil) rfl rfl rfl ?_
            exact ⟨rfl, rfl, rfl⟩
          ·
            refine st_on 41 rfl rfl rfl (o_y (v := .bool false) (y_f (y_k (v := .bool (decide (((n / 2 ^ ((8 * (min w 7)).toNat) : Nat) : Int) = 0))) rfl rfl (fun _ => by kernel_rfl)) h60) rfl rfl rfl ?_)
            refine st rfl (o_y (v := .bool false) (y_pick rfl rfl) rfl rfl rfl ?_)
            refine st rfl (o_y (v := .bool false) (y_as rfl) rfl rfl rfl ?_)
            refine s_nil ?_
            refine q_then ?_
            refine c_seq ?_
            refine c_region ?_
            refine st rfl (o_y (v := .bool true) (y_mv rfl) rfl rfl rfl ?_)
            refine st rfl (o_y (v := .bool true) (y_mv rfl) rfl rfl rfl ?_)
            refine st_on 50 rfl rfl rfl (o_y (v := .int .i64 ((putF w n).2)) (y_mv rfl) rfl rfl rfl ?_)
            have h65 : ¬ ((putF w n).2 = 0) := by rw [w_not (by unfold isW; omega) (by omega) h60]; decide
            refine st_on 50 rfl rfl rfl (o_y (v := .bool false) (y_f (y_k (v := .bool (decide ((putF w n).2 = 0))) rfl rfl (fun _ => by kernel_rfl)) h65) rfl rfl rfl ?_)
            refine st_on 50 rfl rfl rfl (o_y (v := .bool false) (y_mv rfl) rfl rfl rfl ?_)
            refine st_on 50 rfl rfl rfl (o_y (v := .bool true) (y_k rfl rfl (fun _ => by kernel_rfl)) rfl rfl rfl ?_)
            refine st rfl (o_y (v := .bool true) (y_pick rfl rfl) rfl rfl rfl ?_)
            refine st rfl (o_y (v := .bool true) (y_mv rfl) rfl rfl rfl ?_)
            refine st_on 56 rfl rfl rfl (o_y (v := .int .i64 ((putF w n).2)) (y_mv rfl) rfl rfl rfl ?_)
            have h66 : ¬ ((putF w n).2 = 0) := by rw [w_not (by unfold isW; omega) (by omega) h60]; decide
            refine st_on 56 rfl rfl rfl (o_y (v := .bool false) (y_f (y_k (v := .bool (decide ((putF w n).2 = 0))) rfl rfl (fun _ => by kernel_rfl)) h66) rfl rfl rfl ?_)
            refine st_on 56 rfl rfl rfl (o_y (v := .bool false) (y_mv rfl) rfl rfl rfl ?_)
            refine st_on 59 rfl rfl rfl (o_y (v := .int .i64 ((putF w n).2)) (y_mv rfl) rfl rfl rfl ?_)
            have h67 : (putF w n).2 = 31 := w_not (by unfold isW; omega) (by omega) h60
            refine st_on 59 rfl rfl rfl (o_y (v := .bool true) (y_t (y_k (v := .bool (decide ((putF w n).2 = 31))) rfl rfl (fun _ => by kernel_rfl)) h67) rfl rfl rfl ?_)
            refine st_on 56 rfl rfl rfl (o_y (v := .bool true) (y_pick rfl rfl) rfl rfl rfl ?_)
            refine st rfl (o_y (v := .bool true) (y_pick rfl rfl) rfl rfl rfl ?_)
            refine st rfl (o_y (v := .bool true) (y_mv rfl) rfl rfl rfl ?_)
            refine st_on 64 rfl rfl rfl (o_y (v := .int .i64 ((putF w n).2)) (y_mv rfl) rfl rfl rfl ?_)
            have h68 : ¬ ((putF w n).2 = 0) := by rw [w_not (by unfold isW; omega) (by omega) h60]; decide
            refine st_on 64 rfl rfl rfl (o_y (v := .bool true) (y_nf (y_k (v := .bool (!decide ((putF w n).2 = 0))) rfl rfl (fun _ => by kernel_rfl)) h68) rfl rfl rfl ?_)
            refine st_on 64 rfl rfl rfl (o_y (v := .bool true) (y_mv rfl) rfl rfl rfl ?_)
            refine st_off 67 rfl rfl rfl rfl rfl rfl ?_
            refine st_off 67 rfl rfl rfl rfl rfl rfl ?_
            refine st_off 67 rfl rfl rfl rfl rfl rfl ?_
            refine st_off 67 rfl rfl rfl rfl rfl rfl ?_
            refine st_on 64 rfl rfl rfl (o_y (v := .bool true) (y_pick rfl rfl) rfl rfl rfl ?_)
            refine st rfl (o_y (v := .bool true) (y_pick rfl rfl) rfl rfl rfl ?_)
            refine st rfl (o_y (v := .bool true) (y_as rfl) rfl rfl rfl ?_)
            refine s_nil ?_
            refine q_then ?_
            refine c_ret ?_
            refine c_fin (I' := []) [] [0, 1, 2, 3, 4, 5, 6] rfl (.tmp rfl .nil) rfl rfl rfl ?_
            exact ⟨rfl, rfl, rfl⟩
      ·
        refine st_on 22 rfl rfl rfl (o_y (v := .bool true) (y_nf (y_k (v := .bool (!decide (w = 4))) rfl rfl (fun _ => by kernel_rfl)) h54) rfl rfl rfl ?_)
        refine st rfl (o_y (v := .bool true) (y_pick rfl rfl) rfl rfl rfl ?_)
        refine st rfl (o_y (v := .bool true) (y_mv rfl) rfl rfl rfl ?_)
        refine st_on 26 rfl rfl rfl (o_y (v := .int .i64 w) (y_mv rfl) rfl rfl rfl ?_)
        refine e_by (w = 8) (fun h69 => ?_) (fun h69 => ?_)
        ·
          refine st_on 26 rfl rfl rfl (o_y (v := .bool false) (y_nt (y_k (v := .bool (!decide (w = 8))) rfl rfl (fun _ => by kernel_rfl)) h69) rfl rfl rfl ?_)
          refine st rfl (o_y (v := .bool false) (y_pick rfl rfl) rfl rfl rfl ?_)
          refine s_nil ?_
          refine q_then ?_
          refine c_false rfl ?_
          refine c_skip ?_
          refine q_then ?_
          refine c_seq ?_
          refine c_region ?_
          refine st rfl (o_y (v := .int .i64 w) (y_mv rfl) rfl rfl rfl ?_)
          have h70 : w = 8 := h69
          refine st rfl (o_y (v := .bool true) (y_t (y_k (v := .bool (decide (w = 8))) rfl rfl (fun _ => by kernel_rfl)) h70) rfl rfl rfl ?_)
          refine st rfl (o_y (v := .bool true) (y_mv rfl) rfl rfl rfl ?_)
          refine st_off 41 rfl rfl rfl rfl rfl rfl ?_
          refine st_off 41 rfl rfl rfl rfl rfl rfl ?_
          refine st_off 41 rfl rfl rfl rfl rfl rfl ?_
          refine st_off 41 rfl rfl rfl rfl rfl rfl ?_
          refine st_off 41 rfl rfl rfl rfl rfl rfl ?_
          refine st_off 41 rfl rfl rfl rfl rfl rfl ?_
          refine st rfl (o_y (v := .bool true) (y_pick rfl rfl) rfl rfl rfl ?_)
          refine st rfl (o_y (v := .bool true) (y_as rfl) rfl rfl rfl ?_)
          refine s_nil ?_
          refine q_then ?_
          refine c_seq ?_
          refine c_region ?_
          refine st rfl (o_y (v := .bool true) (y_mv rfl) rfl rfl rfl ?_)
          refine st rfl (o_y (v := .bool true) (y_mv rfl) rfl rfl rfl ?_)
          refine st_on 50 rfl rfl rfl (o_y (v := .int .i64 ((putF w n).2)) (y_mv rfl) rfl rfl rfl ?_)
          have h71 : (putF w n).2 = 0 := by obtain rfl := h70; exact w_fits8 hn
          refine st_on 50 rfl rfl rfl (o_y (v := .bool true) (y_t (y_k (v := .bool (decide ((putF w n).2 = 0))) rfl rfl (fun _ => by kernel_rfl)) h71) rfl rfl rfl ?_)
          refine st_on 50 rfl rfl rfl (o_y (v := .bool true) (y_mv rfl) rfl rfl rfl ?_)
          refine st_on 50 rfl rfl rfl (o_y (v := .bool true) (y_k rfl rfl (fun _ => by kernel_rfl)) rfl rfl rfl ?_)
          refine st rfl (o_y (v := .bool true) (y_pick rfl rfl) rfl rfl rfl ?_)
          refine st rfl (o_y (v := .bool true) (y_mv rfl) rfl rfl rfl ?_)
          refine st_on 56 rfl rfl rfl (o_y (v := .int .i64 ((putF w n).2)) (y_mv rfl) rfl rfl rfl ?_)
          have h72 : (putF w n).2 = 0 := by obtain rfl := h70; exact w_fits8 hn
          refine st_on 56 rfl rfl rfl (o_y (v := .bool true) (y_t (y_k (v := .bool (decide ((putF w n).2 = 0))) rfl rfl (fun _ => by kernel_rfl)) h72) rfl rfl rfl ?_)
          refine st_on 56 rfl rfl rfl (o_y (v := .bool true) (y_mv rfl) rfl rfl rfl ?_)
          refine st_off 59 rfl rfl rfl rfl rfl rfl ?_
          refine st_off 59 rfl rfl rfl rfl rfl rfl ?_
          refine st_on 56 rfl rfl rfl (o_y (v := .bool true) (y_pick rfl rfl) rfl rfl rfl ?_)
          refine st rfl (o_y (v := .bool true) (y_pick rfl rfl) rfl rfl rfl ?_)
          refine st rfl (o_y (v := .bool true) (y_mv rfl) rfl rfl rfl ?_)
          refine st_on 64 rfl rfl rfl (o_y (v := .int .i64 ((putF w n).2)) (y_mv rfl) rfl rfl rfl ?_)
          have h73 : (putF w n).2 = 0 := by obtain rfl := h70; exact w_fits8 hn
          refine st_on 64 rfl rfl rfl (o_y (v := .bool false) (y_nt (y_k (v := .bool (!decide ((putF w n).2 = 0))) rfl rfl (fun _ => by kernel_rfl)) h73) rfl rfl rfl ?_)
          refine st_on 64 rfl rfl rfl (o_y (v := .bool false) (y_mv rfl) rfl rfl rfl ?_)
          refine st_on 67 rfl rfl rfl (o_y (v := .string ((putF w n).1)) (y_mv rfl) rfl rfl rfl ?_)
          refine st_on 67 rfl rfl rfl (o_y (v := .int .i64 (((putF w n).1).size : Int)) (y_k rfl rfl (fun _ => by kernel_rfl)) rfl rfl rfl ?_)
          refine st_on 67 rfl rfl rfl (o_y (v := .int .i64 w) (y_mv rfl) rfl rfl rfl ?_)
          have h74 : (((putF w n).1).size : Int) = w := back_len h73
          refine st_on 67 rfl rfl rfl (o_y (v := .bool true) (y_t (y_k (v := .bool (decide ((((putF w n).1).size : Int) = w))) rfl rfl (fun _ => by kernel_rfl)) h74) rfl rfl rfl ?_)
          refine st_on 64 rfl rfl rfl (o_y (v := .bool true) (y_pick rfl rfl) rfl rfl rfl ?_)
          refine st rfl (o_y (v := .bool true) (y_pick rfl rfl) rfl rfl rfl ?_)
          refine st rfl (o_y (v := .bool true) (y_as rfl) rfl rfl rfl ?_)
          refine s_nil ?_
          refine q_then ?_
          refine c_ret ?_
          refine c_fin (I' := []) [] [0, 1, 2, 3, 4, 5, 6] rfl (.tmp rfl .nil) rfl rfl rfl ?_
          exact ⟨rfl, rfl, rfl⟩
        ·
          refine st_on 26 rfl rfl rfl (o_y (v := .bool true) (y_nf (y_k (v := .bool (!decide (w = 8))) rfl rfl (fun _ => by kernel_rfl)) h69) rfl rfl rfl ?_)
          refine st rfl (o_y (v := .bool true) (y_pick rfl rfl) rfl rfl rfl ?_)
          refine s_nil ?_
          refine q_then ?_
          refine c_true rfl ?_
          refine c_seq ?_
          refine c_region ?_
          refine st rfl (o_y (v := .bool true) (y_mv rfl) rfl rfl rfl ?_)
          refine st rfl (o_y (v := .bool true) (y_mv rfl) rfl rfl rfl ?_)
          refine st_on 31 rfl rfl rfl (o_y (v := .int .i64 ((putF w n).2)) (y_mv rfl) rfl rfl rfl ?_)
          have h75 : (putF w n).2 = 2 := by rw [w_bad h24 h39 h54 h69]
          refine st_on 31 rfl rfl rfl (o_y (v := .bool true) (y_t (y_k (v := .bool (decide ((putF w n).2 = 2))) rfl rfl (fun _ => by kernel_rfl)) h75) rfl rfl rfl ?_)
          refine st rfl (o_y (v := .bool true) (y_pick rfl rfl) rfl rfl rfl ?_)
          refine st rfl (o_y (v := .bool true) (y_mv rfl) rfl rfl rfl ?_)
          refine st_on 35 rfl rfl rfl (o_y (v := .string ((putF w n).1)) (y_mv rfl) rfl rfl rfl ?_)
          have h76 : (putF w n).1 = (⟨#[]⟩ : ByteArray) := by rw [w_bad h24 h39 h54 h69]
          refine st_on 35 rfl rfl rfl (o_y (v := .bool true) (y_b (y_k (v := .bool (((putF w n).1).toList == (⟨#[]⟩ : ByteArray).toList)) rfl rfl (fun _ => by kernel_rfl)) (str_t h76)) rfl rfl rfl ?_)
          refine st rfl (o_y (v := .bool true) (y_pick rfl rfl) rfl rfl rfl ?_)
          refine st rfl (o_y (v := .bool true) (y_as rfl) rfl rfl rfl ?_)
          refine s_nil ?_
          refine q_then ?_
          refine c_ret ?_
          refine q_then_ret ?_
          refine c_fin (I' := []) [] [0, 1, 2, 3, 4, 5, 6] rfl (.tmp rfl .nil) rfl rfl rfl ?_
          exact ⟨rfl, rfl, rfl⟩
end Go.Proofs.YtpfadknajnedoaaDoor
