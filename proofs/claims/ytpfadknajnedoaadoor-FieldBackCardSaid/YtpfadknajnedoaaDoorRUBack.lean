/- The laws of chapter 3 (field), walked over the given program; no condition but what stands in each theorem: part UBack. -/
import Derived.Test.YtpfadknajnedoaaDoorRT
set_option linter.unusedVariables false
set_option linter.unusedSimpArgs false
set_option maxRecDepth 100000
set_option maxHeartbeats 8000000
namespace Go.Proofs.YtpfadknajnedoaaDoor
open Go Go.Sl Go.RowKit Go.Extern.Stop Go.Stop Go.Extern
theorem FieldBack_ (ea : Addr) (em : Addr) (ef : Addr) (h12 : ea ≠ em) (h13 : ea ≠ ef) (h23 : em ≠ ef) (w : Int) (n : Nat) (s : ByteArray) (hn : n < 18446744073709551616) (zs : s.size ≤ 9223372036854775807) : Con Tryd.prog 4 [.int .i64 w, .int .u64 (n : Int), .string s] [] [cellsAt 1 0 [.iface 107 (.pointer (some ea))], cellsAt 2 0 [.iface 107 (.pointer (some em))], cellsAt 0 0 [.iface 107 (.pointer (some ef))], errAt ea, errAt em, errAt ef, cellsAt 3 0 [.iface 92 (.agg #[.pointer (some ⟨4, 47, none⟩)])]] (fun v L' I' => v = .bool true ∧ L' = [] ∧ I' = []) := by
  have cs := cutS_size s
  have p1 := putF_size w n
  have g1 := getF_lt w (cutS s)
  have p2 := putF_size w (getF w (cutS s)).1
  have g2 := getF_rest w (cutS s)
  refine fn_of Tryd.func4 rfl Tryd.ntmps4 (by kernel_rfl) rfl (fun C => ?_)
  refine c_seq ?_
  refine c_region ?_
  refine st rfl (o_y (v := .bool false) (y_as rfl) rfl rfl rfl ?_)
  refine s_nil ?_
  refine q_then ?_
  refine c_seq ?_
  refine c_region ?_
  refine st rfl (o_call [] [0, 1, 2, 3, 4, 5, 6] (shown_ ea em ef (by assumption) (by assumption) (by assumption)) rfl rfl rfl rfl rfl rfl (fun v L' I' hq1 => ?_))
  obtain ⟨rfl, rfl, rfl⟩ := hq1
  refine st rfl (o_y (v := .bool true) (y_as rfl) rfl rfl rfl ?_)
  refine s_nil ?_
  refine q_then ?_
  refine c_seq ?_
  refine c_region ?_
  refine st rfl (o_y (v := .int .i64 w) (y_mv rfl) rfl rfl rfl ?_)
  refine st rfl (o_y (v := .int .u64 (n : Int)) (y_mv rfl) rfl rfl rfl ?_)
  refine st rfl (o_call [] [0, 1, 2, 3, 4, 5, 6] (Put_ w n ea em ef (by assumption) (by assumption) (by assumption) (by first | omega | assumption | exact h64 _ (List.mem_of_getElem? (by assumption)))) rfl rfl rfl rfl rfl rfl (fun v L' I' hq2 => ?_))
  obtain ⟨rfl, rfl, rfl⟩ := hq2
  refine st rfl (o_y (v := .tuple #[.string ((putF w n).1), .int .i64 ((putF w n).2)]) (y_mv rfl) rfl rfl rfl ?_)
  refine st rfl (o_y (v := .string ((putF w n).1)) (y_k rfl rfl (fun _ => by kernel_rfl)) rfl rfl rfl ?_)
  refine st rfl (o_y (v := .int .i64 ((putF w n).2)) (y_k rfl rfl (fun _ => by kernel_rfl)) rfl rfl rfl ?_)
  refine st rfl (o_y (v := .string ((putF w n).1)) (y_as rfl) rfl rfl rfl ?_)
  refine st rfl (o_y (v := .int .i64 ((putF w n).2)) (y_as rfl) rfl rfl rfl ?_)
  refine s_nil ?_
  refine q_then ?_
  refine c_seq ?_
  refine c_region ?_
  refine st rfl (o_y (v := .int .i64 w) (y_mv rfl) rfl rfl rfl ?_)
  refine st rfl (o_y (v := .string ((putF w n).1)) (y_mv rfl) rfl rfl rfl ?_)
  refine st rfl (o_y (v := .string s) (y_mv rfl) rfl rfl rfl ?_)
  refine st rfl (o_call [] [] (cut_ s (by omega)) rfl rfl rfl rfl rfl rfl (fun v L' I' hq3 => ?_))
  obtain ⟨rfl, rfl, rfl⟩ := hq3
  refine st rfl (o_y (v := .string (((putF w n).1) ++ (cutS s))) (y_cat (s := (putF w n).1) (u := cutS s) rfl rfl (by omega)) rfl rfl rfl ?_)
  refine st rfl (o_call [] [0, 1, 2, 3, 4, 5, 6] (GetF_ w (((putF w n).1) ++ (cutS s)) ea em ef (by assumption) (by assumption) (by assumption) (by first | omega | (rw [ByteArray.size_append]; omega) | decide | assumption)) rfl rfl rfl rfl rfl rfl (fun v L' I' hq4 => ?_))
  obtain ⟨rfl, rfl, rfl⟩ := hq4
  refine st rfl (o_y (v := .tuple #[.int .u64 ((getF w (((putF w n).1) ++ (cutS s))).1 : Int), .string ((getF w (((putF w n).1) ++ (cutS s))).2.1), .int .i64 ((getF w (((putF w n).1) ++ (cutS s))).2.2)]) (y_mv rfl) rfl rfl rfl ?_)
  refine st rfl (o_y (v := .int .u64 ((getF w (((putF w n).1) ++ (cutS s))).1 : Int)) (y_k rfl rfl (fun _ => by kernel_rfl)) rfl rfl rfl ?_)
  refine st rfl (o_y (v := .string ((getF w (((putF w n).1) ++ (cutS s))).2.1)) (y_k rfl rfl (fun _ => by kernel_rfl)) rfl rfl rfl ?_)
  refine st rfl (o_y (v := .int .i64 ((getF w (((putF w n).1) ++ (cutS s))).2.2)) (y_k rfl rfl (fun _ => by kernel_rfl)) rfl rfl rfl ?_)
  refine st rfl (o_y (v := .int .u64 ((getF w (((putF w n).1) ++ (cutS s))).1 : Int)) (y_as rfl) rfl rfl rfl ?_)
  refine st rfl (o_y (v := .string ((getF w (((putF w n).1) ++ (cutS s))).2.1)) (y_as rfl) rfl rfl rfl ?_)
  refine st rfl (o_y (v := .int .i64 ((getF w (((putF w n).1) ++ (cutS s))).2.2)) (y_as rfl) rfl rfl rfl ?_)
  refine s_nil ?_
  refine q_then ?_
  refine c_seq ?_
  refine c_seq ?_
  refine c_region ?_
  refine st rfl (o_y (v := .int .i64 ((putF w n).2)) (y_mv rfl) rfl rfl rfl ?_)
  refine e_by ((putF w n).2 = 0) (fun h24 => ?_) (fun h24 => ?_)
  ·
    refine st rfl (o_y (v := .bool true) (y_t (y_k (v := .bool (decide ((putF w n).2 = 0))) rfl rfl (fun _ => by kernel_rfl)) h24) rfl rfl rfl ?_)
    refine st rfl (o_y (v := .bool true) (y_mv rfl) rfl rfl rfl ?_)
    refine st_on 37 rfl rfl rfl (o_y (v := .int .i64 ((getF w (((putF w n).1) ++ (cutS s))).2.2)) (y_mv rfl) rfl rfl rfl ?_)
    have h25 : (getF w (((putF w n).1) ++ (cutS s))).2.2 = 0 := by rw [back_1 h24]
    refine st_on 37 rfl rfl rfl (o_y (v := .bool false) (y_nt (y_k (v := .bool (!decide ((getF w (((putF w n).1) ++ (cutS s))).2.2 = 0))) rfl rfl (fun _ => by kernel_rfl)) h25) rfl rfl rfl ?_)
    refine st_on 37 rfl rfl rfl (o_y (v := .bool false) (y_mv rfl) rfl rfl rfl ?_)
    refine st_on 40 rfl rfl rfl (o_y (v := .int .u64 ((getF w (((putF w n).1) ++ (cutS s))).1 : Int)) (y_mv rfl) rfl rfl rfl ?_)
    refine st_on 40 rfl rfl rfl (o_y (v := .int .u64 (n : Int)) (y_mv rfl) rfl rfl rfl ?_)
    have h26 : ((getF w (((putF w n).1) ++ (cutS s))).1 : Int) = (n : Int) := by rw [back_1 h24]
    refine st_on 40 rfl rfl rfl (o_y (v := .bool false) (y_nt (y_k (v := .bool (!decide (((getF w (((putF w n).1) ++ (cutS s))).1 : Int) = (n : Int)))) rfl rfl (fun _ => by kernel_rfl)) h26) rfl rfl rfl ?_)
    refine st_on 37 rfl rfl rfl (o_y (v := .bool false) (y_pick rfl rfl) rfl rfl rfl ?_)
    refine st_on 37 rfl rfl rfl (o_y (v := .bool false) (y_mv rfl) rfl rfl rfl ?_)
    refine st_on 45 rfl rfl rfl (o_y (v := .string ((getF w (((putF w n).1) ++ (cutS s))).2.1)) (y_mv rfl) rfl rfl rfl ?_)
    refine st_on 45 rfl rfl rfl (o_y (v := .string s) (y_mv rfl) rfl rfl rfl ?_)
    refine st_on 45 rfl rfl rfl (o_call [] [] (cut_ s (by omega)) rfl rfl rfl rfl rfl rfl (fun v L' I' hq5 => ?_))
    obtain ⟨rfl, rfl, rfl⟩ := hq5
    have h27 : (getF w (((putF w n).1) ++ (cutS s))).2.1 = cutS s := by rw [back_1 h24]
    refine st_on 45 rfl rfl rfl (o_y (v := .bool false) (y_b (y_k (v := .bool (!(((getF w (((putF w n).1) ++ (cutS s))).2.1).toList == (cutS s).toList))) rfl rfl (fun _ => by kernel_rfl)) (str_nt h27)) rfl rfl rfl ?_)
    refine st_on 37 rfl rfl rfl (o_y (v := .bool false) (y_pick rfl rfl) rfl rfl rfl ?_)
    refine st_on 37 rfl rfl rfl (o_y (v := .bool false) (y_mv rfl) rfl rfl rfl ?_)
    refine st_on 51 rfl rfl rfl (o_y (v := .string ((putF w n).1)) (y_mv rfl) rfl rfl rfl ?_)
    refine st_on 51 rfl rfl rfl (o_y (v := .int .i64 (((putF w n).1).size : Int)) (y_k rfl rfl (fun _ => by kernel_rfl)) rfl rfl rfl ?_)
    refine st_on 51 rfl rfl rfl (o_y (v := .int .i64 w) (y_mv rfl) rfl rfl rfl ?_)
    have h28 : (((putF w n).1).size : Int) = w := back_len h24
    refine st_on 51 rfl rfl rfl (o_y (v := .bool false) (y_nt (y_k (v := .bool (!decide ((((putF w n).1).size : Int) = w))) rfl rfl (fun _ => by kernel_rfl)) h28) rfl rfl rfl ?_)
    refine st_on 37 rfl rfl rfl (o_y (v := .bool false) (y_pick rfl rfl) rfl rfl rfl ?_)
    refine st rfl (o_y (v := .bool false) (y_pick rfl rfl) rfl rfl rfl ?_)
    refine s_nil ?_
    refine q_then ?_
    refine c_false rfl ?_
    refine c_skip ?_
    refine q_then ?_
    refine c_seq ?_
    refine c_region ?_
    refine st rfl (o_y (v := .int .i64 w) (y_mv rfl) rfl rfl rfl ?_)
    refine st rfl (o_y (v := .string s) (y_mv rfl) rfl rfl rfl ?_)
    refine st rfl (o_call [] [] (cut_ s (by omega)) rfl rfl rfl rfl rfl rfl (fun v L' I' hq6 => ?_))
    obtain ⟨rfl, rfl, rfl⟩ := hq6
    refine st rfl (o_call [] [0, 1, 2, 3, 4, 5, 6] (GetF_ w (cutS s) ea em ef (by assumption) (by assumption) (by assumption) (by first | omega | (rw [ByteArray.size_append]; omega) | decide | assumption)) rfl rfl rfl rfl rfl rfl (fun v L' I' hq7 => ?_))
    obtain ⟨rfl, rfl, rfl⟩ := hq7
    refine st rfl (o_y (v := .tuple #[.int .u64 ((getF w (cutS s)).1 : Int), .string ((getF w (cutS s)).2.1), .int .i64 ((getF w (cutS s)).2.2)]) (y_mv rfl) rfl rfl rfl ?_)
    refine st rfl (o_y (v := .int .u64 ((getF w (cutS s)).1 : Int)) (y_k rfl rfl (fun _ => by kernel_rfl)) rfl rfl rfl ?_)
    refine st rfl (o_y (v := .string ((getF w (cutS s)).2.1)) (y_k rfl rfl (fun _ => by kernel_rfl)) rfl rfl rfl ?_)
    refine st rfl (o_y (v := .int .i64 ((getF w (cutS s)).2.2)) (y_k rfl rfl (fun _ => by kernel_rfl)) rfl rfl rfl ?_)
    refine st rfl (o_y (v := .int .u64 ((getF w (cutS s)).1 : Int)) (y_as rfl) rfl rfl rfl ?_)
    refine st rfl (o_y (v := .string ((getF w (cutS s)).2.1)) (y_as rfl) rfl rfl rfl ?_)
    refine st rfl (o_y (v := .int .i64 ((getF w (cutS s)).2.2)) (y_as rfl) rfl rfl rfl ?_)
    refine s_nil ?_
    refine q_then ?_
    refine c_seq ?_
    refine c_region ?_
    refine st rfl (o_y (v := .int .i64 w) (y_mv rfl) rfl rfl rfl ?_)
    refine st rfl (o_y (v := .int .u64 ((getF w (cutS s)).1 : Int)) (y_mv rfl) rfl rfl rfl ?_)
    refine st rfl (o_call [] [0, 1, 2, 3, 4, 5, 6] (Put_ w ((getF w (cutS s)).1) ea em ef (by assumption) (by assumption) (by assumption) (by first | omega | assumption | exact h64 _ (List.mem_of_getElem? (by assumption)))) rfl rfl rfl rfl rfl rfl (fun v L' I' hq8 => ?_))
    obtain ⟨rfl, rfl, rfl⟩ := hq8
    refine st rfl (o_y (v := .tuple #[.string ((putF w ((getF w (cutS s)).1)).1), .int .i64 ((putF w ((getF w (cutS s)).1)).2)]) (y_mv rfl) rfl rfl rfl ?_)
    refine st rfl (o_y (v := .string ((putF w ((getF w (cutS s)).1)).1)) (y_k rfl rfl (fun _ => by kernel_rfl)) rfl rfl rfl ?_)
    refine st rfl (o_y (v := .int .i64 ((putF w ((getF w (cutS s)).1)).2)) (y_k rfl rfl (fun _ => by kernel_rfl)) rfl rfl rfl ?_)
    refine st rfl (o_y (v := .string ((putF w ((getF w (cutS s)).1)).1)) (y_as rfl) rfl rfl rfl ?_)
    refine st rfl (o_y (v := .int .i64 ((putF w ((getF w (cutS s)).1)).2)) (y_as rfl) rfl rfl rfl ?_)
    refine s_nil ?_
    refine q_then ?_
    refine c_seq ?_
    refine c_region ?_
    refine st rfl (o_y (v := .bool true) (y_mv rfl) rfl rfl rfl ?_)
    refine st rfl (o_y (v := .bool true) (y_mv rfl) rfl rfl rfl ?_)
    refine st_on 73 rfl rfl rfl (o_y (v := .int .i64 ((putF w n).2)) (y_mv rfl) rfl rfl rfl ?_)
    have h29 : (putF w n).2 = 0 := h24
    refine st_on 73 rfl rfl rfl (o_y (v := .bool true) (y_t (y_k (v := .bool (decide ((putF w n).2 = 0))) rfl rfl (fun _ => by kernel_rfl)) h29) rfl rfl rfl ?_)
    refine st_on 73 rfl rfl rfl (o_y (v := .bool true) (y_mv rfl) rfl rfl rfl ?_)
    refine st_off 76 rfl rfl rfl rfl rfl rfl ?_
    refine st_off 76 rfl rfl rfl rfl rfl rfl ?_
    refine st_on 73 rfl rfl rfl (o_y (v := .bool true) (y_pick rfl rfl) rfl rfl rfl ?_)
    refine st rfl (o_y (v := .bool true) (y_pick rfl rfl) rfl rfl rfl ?_)
    refine st rfl (o_y (v := .bool true) (y_mv rfl) rfl rfl rfl ?_)
    refine st_on 81 rfl rfl rfl (o_y (v := .int .i64 ((getF w (cutS s)).2.2)) (y_mv rfl) rfl rfl rfl ?_)
    refine e_by ((getF w (cutS s)).2.2 = 0) (fun h30 => ?_) (fun h30 => ?_)
    ·
      refine st_on 81 rfl rfl rfl (o_y (v := .bool false) (y_nt (y_k (v := .bool (!decide ((getF w (cutS s)).2.2 = 0))) rfl rfl (fun _ => by kernel_rfl)) h30) rfl rfl rfl ?_)
      refine st_on 81 rfl rfl rfl (o_y (v := .bool false) (y_mv rfl) rfl rfl rfl ?_)
      refine st_on 84 rfl rfl rfl (o_y (v := .int .i64 ((putF w ((getF w (cutS s)).1)).2)) (y_mv rfl) rfl rfl rfl ?_)
      have h31 : (putF w ((getF w (cutS s)).1)).2 = 0 := (back_2 h30).1
      refine st_on 84 rfl rfl rfl (o_y (v := .bool true) (y_t (y_k (v := .bool (decide ((putF w ((getF w (cutS s)).1)).2 = 0))) rfl rfl (fun _ => by kernel_rfl)) h31) rfl rfl rfl ?_)
      refine st_on 84 rfl rfl rfl (o_y (v := .bool true) (y_mv rfl) rfl rfl rfl ?_)
      refine st_on 87 rfl rfl rfl (o_y (v := .string ((putF w ((getF w (cutS s)).1)).1)) (y_mv rfl) rfl rfl rfl ?_)
      refine st_on 87 rfl rfl rfl (o_y (v := .string ((getF w (cutS s)).2.1)) (y_mv rfl) rfl rfl rfl ?_)
      refine st_on 87 rfl rfl rfl (o_y (v := .string (((putF w ((getF w (cutS s)).1)).1) ++ ((getF w (cutS s)).2.1))) (y_cat (s := (putF w ((getF w (cutS s)).1)).1) (u := (getF w (cutS s)).2.1) rfl rfl (by omega)) rfl rfl rfl ?_)
      refine st_on 87 rfl rfl rfl (o_y (v := .string s) (y_mv rfl) rfl rfl rfl ?_)
      refine st_on 87 rfl rfl rfl (o_call [] [] (cut_ s (by omega)) rfl rfl rfl rfl rfl rfl (fun v L' I' hq9 => ?_))
      obtain ⟨rfl, rfl, rfl⟩ := hq9
      have h32 : ((putF w ((getF w (cutS s)).1)).1) ++ ((getF w (cutS s)).2.1) = cutS s := (back_2 h30).2
      refine st_on 87 rfl rfl rfl (o_y (v := .bool true) (y_b (y_k (v := .bool ((((putF w ((getF w (cutS s)).1)).1) ++ ((getF w (cutS s)).2.1)).toList == (cutS s).toList)) rfl rfl (fun _ => by kernel_rfl)) (str_t h32)) rfl rfl rfl ?_)
      refine st_on 84 rfl rfl rfl (o_y (v := .bool true) (y_pick rfl rfl) rfl rfl rfl ?_)
      refine st_on 81 rfl rfl rfl (o_y (v := .bool true) (y_pick rfl rfl) rfl rfl rfl ?_)
      refine st rfl (o_y (v := .bool true) (y_pick rfl rfl) rfl rfl rfl ?_)
      refine st rfl (o_y (v := .bool true) (y_as rfl) rfl rfl rfl ?_)
      refine s_nil ?_
      refine q_then ?_
      refine c_ret ?_
      refine c_fin (I' := []) [] [0, 1, 2, 3, 4, 5, 6] rfl (.tmp rfl .nil) rfl rfl rfl ?_
      exact ⟨rfl, rfl, rfl⟩
    ·
      refine st_on 81 rfl rfl rfl (o_y (v := .bool true) (y_nf (y_k (v := .bool (!decide ((getF w (cutS s)).2.2 = 0))) rfl rfl (fun _ => by kernel_rfl)) h30) rfl rfl rfl ?_)
      refine st_on 81 rfl rfl rfl (o_y (v := .bool true) (y_mv rfl) rfl rfl rfl ?_)
      refine st_off 84 rfl rfl rfl rfl rfl rfl ?_
      refine st_off 84 rfl rfl rfl rfl rfl rfl ?_
      refine st_off 84 rfl rfl rfl rfl rfl rfl ?_
      refine st_offu 87 rfl rfl rfl rfl rfl ?_
      refine st_offu 87 rfl rfl rfl rfl rfl ?_
      refine st_offu 87 rfl rfl rfl rfl rfl ?_
      refine st_offu 87 rfl rfl rfl rfl rfl ?_
      refine st_offu 87 rfl rfl rfl rfl rfl ?_
      refine st_offu 87 rfl rfl rfl rfl rfl ?_
      refine st_off 84 rfl rfl rfl rfl rfl rfl ?_
      refine st_on 81 rfl rfl rfl (o_y (v := .bool true) (y_pick rfl rfl) rfl rfl rfl ?_)
      refine st rfl (o_y (v := .bool true) (y_pick rfl rfl) rfl rfl rfl ?_)
      refine st rfl (o_y (v := .bool true) (y_as rfl) rfl rfl rfl ?_)
      refine s_nil ?_
      refine q_then ?_
      refine c_ret ?_
      refine c_fin (I' := []) [] [0, 1, 2, 3, 4, 5, 6] rfl (.tmp rfl .nil) rfl rfl rfl ?_
      exact ⟨rfl, rfl, rfl⟩
  ·
    refine st rfl (o_y (v := .bool false) (y_f (y_k (v := .bool (decide ((putF w n).2 = 0))) rfl rfl (fun _ => by kernel_rfl)) h24) rfl rfl rfl ?_)
    refine st rfl (o_y (v := .bool false) (y_mv rfl) rfl rfl rfl ?_)
    refine st_off 37 rfl rfl rfl rfl rfl rfl ?_
    refine st_off 37 rfl rfl rfl rfl rfl rfl ?_
    refine st_off 37 rfl rfl rfl rfl rfl rfl ?_
    refine st_offu 40 rfl rfl rfl rfl rfl ?_
    refine st_offu 40 rfl rfl rfl rfl rfl ?_
    refine st_offu 40 rfl rfl rfl rfl rfl ?_
    refine st_off 37 rfl rfl rfl rfl rfl rfl ?_
    refine st_off 37 rfl rfl rfl rfl rfl rfl ?_
    refine st_offu 45 rfl rfl rfl rfl rfl ?_
    refine st_offu 45 rfl rfl rfl rfl rfl ?_
    refine st_offu 45 rfl rfl rfl rfl rfl ?_
    refine st_offu 45 rfl rfl rfl rfl rfl ?_
    refine st_off 37 rfl rfl rfl rfl rfl rfl ?_
    refine st_off 37 rfl rfl rfl rfl rfl rfl ?_
    refine st_offu 51 rfl rfl rfl rfl rfl ?_
    refine st_offu 51 rfl rfl rfl rfl rfl ?_
    refine st_offu 51 rfl rfl rfl rfl rfl ?_
    refine st_offu 51 rfl rfl rfl rfl rfl ?_
    refine st_off 37 rfl rfl rfl rfl rfl rfl ?_
    refine st rfl (o_y (v := .bool false) (y_pick rfl rfl) rfl rfl rfl ?_)
    refine s_nil ?_
    refine q_then ?_
    refine c_false rfl ?_
    refine c_skip ?_
    refine q_then ?_
    refine c_seq ?_
    refine c_region ?_
    refine st rfl (o_y (v := .int .i64 w) (y_mv rfl) rfl rfl rfl ?_)
    refine st rfl (o_y (v := .string s) (y_mv rfl) rfl rfl rfl ?_)
    refine st rfl (o_call [] [] (cut_ s (by omega)) rfl rfl rfl rfl rfl rfl (fun v L' I' hq10 => ?_))
    obtain ⟨rfl, rfl, rfl⟩ := hq10
    refine st rfl (o_call [] [0, 1, 2, 3, 4, 5, 6] (GetF_ w (cutS s) ea em ef (by assumption) (by assumption) (by assumption) (by first | omega | (rw [ByteArray.size_append]; omega) | decide | assumption)) rfl rfl rfl rfl rfl rfl (fun v L' I' hq11 => ?_))
    obtain ⟨rfl, rfl, rfl⟩ := hq11
    refine st rfl (o_y (v := .tuple #[.int .u64 ((getF w (cutS s)).1 : Int), .string ((getF w (cutS s)).2.1), .int .i64 ((getF w (cutS s)).2.2)]) (y_mv rfl) rfl rfl rfl ?_)
    refine st rfl (o_y (v := .int .u64 ((getF w (cutS s)).1 : Int)) (y_k rfl rfl (fun _ => by kernel_rfl)) rfl rfl rfl ?_)
    refine st rfl (o_y (v := .string ((getF w (cutS s)).2.1)) (y_k rfl rfl (fun _ => by kernel_rfl)) rfl rfl rfl ?_)
    refine st rfl (o_y (v := .int .i64 ((getF w (cutS s)).2.2)) (y_k rfl rfl (fun _ => by kernel_rfl)) rfl rfl rfl ?_)
    refine st rfl (o_y (v := .int .u64 ((getF w (cutS s)).1 : Int)) (y_as rfl) rfl rfl rfl ?_)
    refine st rfl (o_y (v := .string ((getF w (cutS s)).2.1)) (y_as rfl) rfl rfl rfl ?_)
    refine st rfl (o_y (v := .int .i64 ((getF w (cutS s)).2.2)) (y_as rfl) rfl rfl rfl ?_)
    refine s_nil ?_
    refine q_then ?_
    refine c_seq ?_
    refine c_region ?_
    refine st rfl (o_y (v := .int .i64 w) (y_mv rfl) rfl rfl rfl ?_)
    refine st rfl (o_y (v := .int .u64 ((getF w (cutS s)).1 : Int)) (y_mv rfl) rfl rfl rfl ?_)
    refine st rfl (o_call [] [0, 1, 2, 3, 4, 5, 6] (Put_ w ((getF w (cutS s)).1) ea em ef (by assumption) (by assumption) (by assumption) (by first | omega | assumption | exact h64 _ (List.mem_of_getElem? (by assumption)))) rfl rfl rfl rfl rfl rfl (fun v L' I' hq12 => ?_))
    obtain ⟨rfl, rfl, rfl⟩ := hq12
    refine st rfl (o_y (v := .tuple #[.string ((putF w ((getF w (cutS s)).1)).1), .int .i64 ((putF w ((getF w (cutS s)).1)).2)]) (y_mv rfl) rfl rfl rfl ?_)
    refine st rfl (o_y (v := .string ((putF w ((getF w (cutS s)).1)).1)) (y_k rfl rfl (fun _ => by kernel_rfl)) rfl rfl rfl ?_)
    refine st rfl (o_y (v := .int .i64 ((putF w ((getF w (cutS s)).1)).2)) (y_k rfl rfl (fun _ => by kernel_rfl)) rfl rfl rfl ?_)
    refine st rfl (o_y (v := .string ((putF w ((getF w (cutS s)).1)).1)) (y_as rfl) rfl rfl rfl ?_)
    refine st rfl (o_y (v := .int .i64 ((putF w ((getF w (cutS s)).1)).2)) (y_as rfl) rfl rfl rfl ?_)
    refine s_nil ?_
    refine q_then ?_
    refine c_seq ?_
    refine c_region ?_
    refine st rfl (o_y (v := .bool true) (y_mv rfl) rfl rfl rfl ?_)
    refine st rfl (o_y (v := .bool true) (y_mv rfl) rfl rfl rfl ?_)
    refine st_on 73 rfl rfl rfl (o_y (v := .int .i64 ((putF w n).2)) (y_mv rfl) rfl rfl rfl ?_)
    have h33 : ¬ ((putF w n).2 = 0) := h24
    refine st_on 73 rfl rfl rfl (o_y (v := .bool false) (y_f (y_k (v := .bool (decide ((putF w n).2 = 0))) rfl rfl (fun _ => by kernel_rfl)) h33) rfl rfl rfl ?_)
    refine st_on 73 rfl rfl rfl (o_y (v := .bool false) (y_mv rfl) rfl rfl rfl ?_)
    refine st_on 76 rfl rfl rfl (o_y (v := .string ((putF w n).1)) (y_mv rfl) rfl rfl rfl ?_)
    have h34 : (putF w n).1 = (⟨#[]⟩ : ByteArray) := back_no h33
    refine st_on 76 rfl rfl rfl (o_y (v := .bool true) (y_b (y_k (v := .bool (((putF w n).1).toList == (⟨#[]⟩ : ByteArray).toList)) rfl rfl (fun _ => by kernel_rfl)) (str_t h34)) rfl rfl rfl ?_)
    refine st_on 73 rfl rfl rfl (o_y (v := .bool true) (y_pick rfl rfl) rfl rfl rfl ?_)
    refine st rfl (o_y (v := .bool true) (y_pick rfl rfl) rfl rfl rfl ?_)
    refine st rfl (o_y (v := .bool true) (y_mv rfl) rfl rfl rfl ?_)
    refine st_on 81 rfl rfl rfl (o_y (v := .int .i64 ((getF w (cutS s)).2.2)) (y_mv rfl) rfl rfl rfl ?_)
    refine e_by ((getF w (cutS s)).2.2 = 0) (fun h35 => ?_) (fun h35 => ?_)
    ·
      refine st_on 81 rfl rfl rfl (o_y (v := .bool false) (y_nt (y_k (v := .bool (!decide ((getF w (cutS s)).2.2 = 0))) rfl rfl (fun _ => by kernel_rfl)) h35) rfl rfl rfl ?_)
      refine st_on 81 rfl rfl rfl (o_y (v := .bool false) (y_mv rfl) rfl rfl rfl ?_)
      refine st_on 84 rfl rfl rfl (o_y (v := .int .i64 ((putF w ((getF w (cutS s)).1)).2)) (y_mv rfl) rfl rfl rfl ?_)
      have h36 : (putF w ((getF w (cutS s)).1)).2 = 0 := (back_2 h35).1
      refine st_on 84 rfl rfl rfl (o_y (v := .bool true) (y_t (y_k (v := .bool (decide ((putF w ((getF w (cutS s)).1)).2 = 0))) rfl rfl (fun _ => by kernel_rfl)) h36) rfl rfl rfl ?_)
      refine st_on 84 rfl rfl rfl (o_y (v := .bool true) (y_mv rfl) rfl rfl rfl ?_)
      refine st_on 87 rfl rfl rfl (o_y (v := .string ((putF w ((getF w (cutS s)).1)).1)) (y_mv rfl) rfl rfl rfl ?_)
      refine st_on 87 rfl rfl rfl (o_y (v := .string ((getF w (cutS s)).2.1)) (y_mv rfl) rfl rfl rfl ?_)
      refine st_on 87 rfl rfl rfl (o_y (v := .string (((putF w ((getF w (cutS s)).1)).1) ++ ((getF w (cutS s)).2.1))) (y_cat (s := (putF w ((getF w (cutS s)).1)).1) (u := (getF w (cutS s)).2.1) rfl rfl (by omega)) rfl rfl rfl ?_)
      refine st_on 87 rfl rfl rfl (o_y (v := .string s) (y_mv rfl) rfl rfl rfl ?_)
      refine st_on 87 rfl rfl rfl (o_call [] [] (cut_ s (by omega)) rfl rfl rfl rfl rfl rfl (fun v L' I' hq13 => ?_))
      obtain ⟨rfl, rfl, rfl⟩ := hq13
      have h37 : ((putF w ((getF w (cutS s)).1)).1) ++ ((getF w (cutS s)).2.1) = cutS s := (back_2 h35).2
      refine st_on 87 rfl rfl rfl (o_y (v := .bool true) (y_b (y_k (v := .bool ((((putF w ((getF w (cutS s)).1)).1) ++ ((getF w (cutS s)).2.1)).toList == (cutS s).toList)) rfl rfl (fun _ => by kernel_rfl)) (str_t h37)) rfl rfl rfl ?_)
      refine st_on 84 rfl rfl rfl (o_y (v := .bool true) (y_pick rfl rfl) rfl rfl rfl ?_)
      refine st_on 81 rfl rfl rfl (o_y (v := .bool true) (y_pick rfl rfl) rfl rfl rfl ?_)
      refine st rfl (o_y (v := .bool true) (y_pick rfl rfl) rfl rfl rfl ?_)
      refine st rfl (o_y (v := .bool true) (y_as rfl) rfl rfl rfl ?_)
      refine s_nil ?_
      refine q_then ?_
      refine c_ret ?_
      refine c_fin (I' := []) [] [0, 1, 2, 3, 4, 5, 6] rfl (.tmp rfl .nil) rfl rfl rfl ?_
      exact ⟨rfl, rfl, rfl⟩
    ·
      refine st_on 81 rfl rfl rfl (o_y (v := .bool true) (y_nf (y_k (v := .bool (!decide ((getF w (cutS s)).2.2 = 0))) rfl rfl (fun _ => by kernel_rfl)) h35) rfl rfl rfl ?_)
      refine st_on 81 rfl rfl rfl (o_y (v := .bool true) (y_mv rfl) rfl rfl rfl ?_)
      refine st_off 84 rfl rfl rfl rfl rfl rfl ?_
      refine st_off 84 rfl rfl rfl rfl rfl rfl ?_
      refine st_off 84 rfl rfl rfl rfl rfl rfl ?_
      refine st_offu 87 rfl rfl rfl rfl rfl ?_
      refine st_offu 87 rfl rfl rfl rfl rfl ?_
      refine st_offu 87 rfl rfl rfl rfl rfl ?_
      refine st_offu 87 rfl rfl rfl rfl rfl ?_
      refine st_offu 87 rfl rfl rfl rfl rfl ?_
      refine st_offu 87 rfl rfl rfl rfl rfl ?_
      refine st_off 84 rfl rfl rfl rfl rfl rfl ?_
      refine st_on 81 rfl rfl rfl (o_y (v := .bool true) (y_pick rfl rfl) rfl rfl rfl ?_)
      refine st rfl (o_y (v := .bool true) (y_pick rfl rfl) rfl rfl rfl ?_)
      refine st rfl (o_y (v := .bool true) (y_as rfl) rfl rfl rfl ?_)
      refine s_nil ?_
      refine q_then ?_
      refine c_ret ?_
      refine c_fin (I' := []) [] [0, 1, 2, 3, 4, 5, 6] rfl (.tmp rfl .nil) rfl rfl rfl ?_
      exact ⟨rfl, rfl, rfl⟩
end Go.Proofs.YtpfadknajnedoaaDoor
