/- The laws of chapter 3 (field), walked over the given program; no condition but what stands in each theorem: part UCodes. -/
import Derived.Test.YtpfadknajnedoaaDoorRN
import Derived.Test.YtpfadknajnedoaaDoorRT
set_option linter.unusedVariables false
set_option linter.unusedSimpArgs false
set_option maxRecDepth 100000
set_option maxHeartbeats 8000000
namespace Go.Proofs.YtpfadknajnedoaaDoor
open Go Go.Sl Go.RowKit Go.Extern.Stop Go.Stop Go.Extern
theorem few_ (A : Option Addr) (c : Nat) (ws : List Int) : Con Tryd.prog 20 [.slice A ws.length c] [] [rd intTy A c ws] (fun v L' I' => ∃ A1 : Option Addr, ∃ c1 : Nat, v = .slice A1 (ws.take (min ws.length 20)).length c1 ∧ L' = [] ∧ I' = [rd intTy A1 c1 (ws.take (min ws.length 20))]) := by
  refine fn_of Tryd.func20 rfl Tryd.ntmps20 (by kernel_rfl) rfl (fun C => ?_)
  refine c_seq ?_
  refine c_region ?_
  refine st rfl (o_y (v := .slice none 0 0) (y_as rfl) rfl rfl rfl ?_)
  refine s_nil ?_
  refine q_then ?_
  refine c_seq ?_
  refine c_region ?_
  refine st rfl (o_y (v := .slice A ws.length c) (y_mv rfl) rfl rfl rfl ?_)
  refine st rfl (o_y (v := .slice A ws.length c) (y_mv rfl) rfl rfl rfl ?_)
  refine st rfl (o_y (v := .int .i64 (ws.length : Int)) (y_k rfl rfl (fun _ => by kernel_rfl)) rfl rfl rfl ?_)
  refine st rfl (o_y (v := .int .i64 ((min ws.length 20 : Nat) : Int)) (y_min2 ws.length 20 rfl rfl) rfl rfl rfl ?_)
  refine e_len 0 rfl (fun h1 h2 => ?_)
  refine e_cut2 (l2 := ws.take (min ws.length 20)) 0 0 (min ws.length 20) c (by simp) rfl (by omega) (by omega) (by omega) ?_
  refine st rfl (o_y (v := .slice (cutA intTy A 0 c) (ws.take (min ws.length 20)).length (c - 0)) (y_cut (d := intTy) (l := ws) (l2 := ws.take (min ws.length 20)) 0 (min ws.length 20) c (by simp) rfl rfl .no (.at (min ws.length 20) rfl (rfl)) .no (by simp) Tryd.underlying38 (by kernel_rfl) (by kernel_rfl) (by omega) (by omega) (by omega) (by omega)) rfl rfl rfl ?_)
  refine st rfl (o_y (v := .slice (cutA intTy A 0 c) (ws.take (min ws.length 20)).length (c - 0)) (y_as rfl) rfl rfl rfl ?_)
  refine s_nil ?_
  refine q_then ?_
  refine c_ret ?_
  refine c_fin (I' := [rd intTy (cutA intTy A 0 c) (c - 0) (ws.take (min ws.length 20))]) [] [0, 1] rfl (.tmp rfl .nil) rfl rfl rfl ?_
  exact ⟨(cutA intTy A 0 c), (c - 0), rfl, rfl, rfl⟩
theorem FieldCodes_ (ea : Addr) (em : Addr) (ef : Addr) (h12 : ea ≠ em) (h13 : ea ≠ ef) (h23 : em ≠ ef) (w : Int) (n : Nat) (s : ByteArray) (t : ByteArray) (hn : n < 18446744073709551616) (zs : s.size ≤ 9223372036854775807) (zt : t.size ≤ 9223372036854775807) : Con Tryd.prog 3 [.int .i64 w, .int .u64 (n : Int), .string s, .string t] [] [cellsAt 1 0 [.iface 107 (.pointer (some ea))], cellsAt 2 0 [.iface 107 (.pointer (some em))], cellsAt 0 0 [.iface 107 (.pointer (some ef))], errAt ea, errAt em, errAt ef, cellsAt 3 0 [.iface 92 (.agg #[.pointer (some ⟨4, 47, none⟩)])]] (fun v L' I' => v = .bool true ∧ L' = [] ∧ I' = []) := by
  have cs := cutS_size s
  have ct := cutS_size t
  refine fn_of Tryd.func3 rfl Tryd.ntmps3 (by kernel_rfl) rfl (fun C => ?_)
  refine c_seq ?_
  refine c_region ?_
  refine st rfl (o_y (v := .bool false) (y_as rfl) rfl rfl rfl ?_)
  refine s_nil ?_
  refine q_then ?_
  refine c_seq ?_
  refine c_region ?_
  refine st rfl (o_call [] [0, 1, 2, 3, 4, 5, 6] (shown_ ea em ef (by assumption) (by assumption) (by assumption)) rfl rfl rfl rfl rfl rfl (fun v L' I' hq1 => ?_))
  obtain ⟨rfl, rfl, rfl⟩ := hq1
  refine st rfl (o_y (v := .bool true) (y_as rfl) rfl rfl rfl ?_)
  refine s_nil ?_
  refine q_then ?_
  refine c_seq ?_
  refine c_region ?_
  refine st rfl (o_y (v := .int .i64 w) (y_mv rfl) rfl rfl rfl ?_)
  refine st rfl (o_y (v := .int .u64 (n : Int)) (y_mv rfl) rfl rfl rfl ?_)
  refine st rfl (o_call [] [0, 1, 2, 3, 4, 5, 6] (Put_ w n ea em ef (by assumption) (by assumption) (by assumption) (by first | omega | assumption | exact h64 _ (List.mem_of_getElem? (by assumption)))) rfl rfl rfl rfl rfl rfl (fun v L' I' hq2 => ?_))
  obtain ⟨rfl, rfl, rfl⟩ := hq2
  refine st rfl (o_y (v := .tuple #[.string ((putF w n).1), .int .i64 ((putF w n).2)]) (y_mv rfl) rfl rfl rfl ?_)
  refine st rfl (o_y (v := .string ((putF w n).1)) (y_k rfl rfl (fun _ => by kernel_rfl)) rfl rfl rfl ?_)
  refine st rfl (o_y (v := .int .i64 ((putF w n).2)) (y_k rfl rfl (fun _ => by kernel_rfl)) rfl rfl rfl ?_)
  refine st rfl (o_y (v := .string ((putF w n).1)) (y_as rfl) rfl rfl rfl ?_)
  refine st rfl (o_y (v := .int .i64 ((putF w n).2)) (y_as rfl) rfl rfl rfl ?_)
  refine s_nil ?_
  refine q_then ?_
  refine c_seq ?_
  refine c_region ?_
  refine st rfl (o_y (v := .int .i64 w) (y_mv rfl) rfl rfl rfl ?_)
  refine st rfl (o_y (v := .int .u64 (n : Int)) (y_mv rfl) rfl rfl rfl ?_)
  refine st rfl (o_call [] [] (rPut_ w n (by first | omega | assumption | exact h64 _ (List.mem_of_getElem? (by assumption)))) rfl rfl rfl rfl rfl rfl (fun v L' I' hq3 => ?_))
  obtain ⟨rfl, rfl, rfl⟩ := hq3
  refine st rfl (o_y (v := .tuple #[.string ((putF w n).1), .int .i64 ((putF w n).2)]) (y_mv rfl) rfl rfl rfl ?_)
  refine st rfl (o_y (v := .string ((putF w n).1)) (y_k rfl rfl (fun _ => by kernel_rfl)) rfl rfl rfl ?_)
  refine st rfl (o_y (v := .int .i64 ((putF w n).2)) (y_k rfl rfl (fun _ => by kernel_rfl)) rfl rfl rfl ?_)
  refine st rfl (o_y (v := .string ((putF w n).1)) (y_as rfl) rfl rfl rfl ?_)
  refine st rfl (o_y (v := .int .i64 ((putF w n).2)) (y_as rfl) rfl rfl rfl ?_)
  refine s_nil ?_
  refine q_then ?_
  refine c_seq ?_
  refine c_region ?_
  refine st rfl (o_y (v := .int .i64 w) (y_mv rfl) rfl rfl rfl ?_)
  refine st rfl (o_y (v := .string s) (y_mv rfl) rfl rfl rfl ?_)
  refine st rfl (o_call [] [] (cut_ s (by omega)) rfl rfl rfl rfl rfl rfl (fun v L' I' hq4 => ?_))
  obtain ⟨rfl, rfl, rfl⟩ := hq4
  refine st rfl (o_call [] [0, 1, 2, 3, 4, 5, 6] (GetF_ w (cutS s) ea em ef (by assumption) (by assumption) (by assumption) (by first | omega | (rw [ByteArray.size_append]; omega) | decide | assumption)) rfl rfl rfl rfl rfl rfl (fun v L' I' hq5 => ?_))
  obtain ⟨rfl, rfl, rfl⟩ := hq5
  refine st rfl (o_y (v := .tuple #[.int .u64 ((getF w (cutS s)).1 : Int), .string ((getF w (cutS s)).2.1), .int .i64 ((getF w (cutS s)).2.2)]) (y_mv rfl) rfl rfl rfl ?_)
  refine st rfl (o_y (v := .int .u64 ((getF w (cutS s)).1 : Int)) (y_k rfl rfl (fun _ => by kernel_rfl)) rfl rfl rfl ?_)
  refine st rfl (o_y (v := .string ((getF w (cutS s)).2.1)) (y_k rfl rfl (fun _ => by kernel_rfl)) rfl rfl rfl ?_)
  refine st rfl (o_y (v := .int .i64 ((getF w (cutS s)).2.2)) (y_k rfl rfl (fun _ => by kernel_rfl)) rfl rfl rfl ?_)
  refine st rfl (o_y (v := .int .u64 ((getF w (cutS s)).1 : Int)) (y_as rfl) rfl rfl rfl ?_)
  refine st rfl (o_y (v := .string ((getF w (cutS s)).2.1)) (y_as rfl) rfl rfl rfl ?_)
  refine st rfl (o_y (v := .int .i64 ((getF w (cutS s)).2.2)) (y_as rfl) rfl rfl rfl ?_)
  refine s_nil ?_
  refine q_then ?_
  refine c_seq ?_
  refine c_region ?_
  refine st rfl (o_y (v := .int .i64 w) (y_mv rfl) rfl rfl rfl ?_)
  refine st rfl (o_y (v := .string s) (y_mv rfl) rfl rfl rfl ?_)
  refine st rfl (o_call [] [] (cut_ s (by omega)) rfl rfl rfl rfl rfl rfl (fun v L' I' hq6 => ?_))
  obtain ⟨rfl, rfl, rfl⟩ := hq6
  refine st rfl (o_call [] [] (rGet_ w (cutS s) (by first | omega | (rw [ByteArray.size_append]; omega) | decide | assumption)) rfl rfl rfl rfl rfl rfl (fun v L' I' hq7 => ?_))
  obtain ⟨rfl, rfl, rfl⟩ := hq7
  refine st rfl (o_y (v := .tuple #[.int .u64 ((getF w (cutS s)).1 : Int), .string ((getF w (cutS s)).2.1), .int .i64 ((getF w (cutS s)).2.2)]) (y_mv rfl) rfl rfl rfl ?_)
  refine st rfl (o_y (v := .int .u64 ((getF w (cutS s)).1 : Int)) (y_k rfl rfl (fun _ => by kernel_rfl)) rfl rfl rfl ?_)
  refine st rfl (o_y (v := .string ((getF w (cutS s)).2.1)) (y_k rfl rfl (fun _ => by kernel_rfl)) rfl rfl rfl ?_)
  refine st rfl (o_y (v := .int .i64 ((getF w (cutS s)).2.2)) (y_k rfl rfl (fun _ => by kernel_rfl)) rfl rfl rfl ?_)
  refine st rfl (o_y (v := .int .u64 ((getF w (cutS s)).1 : Int)) (y_as rfl) rfl rfl rfl ?_)
  refine st rfl (o_y (v := .string ((getF w (cutS s)).2.1)) (y_as rfl) rfl rfl rfl ?_)
  refine st rfl (o_y (v := .int .i64 ((getF w (cutS s)).2.2)) (y_as rfl) rfl rfl rfl ?_)
  refine s_nil ?_
  refine q_then ?_
  refine c_seq ?_
  refine c_region ?_
  refine st rfl (o_y (v := .string t) (y_mv rfl) rfl rfl rfl ?_)
  refine st rfl (o_call [] [] (cut_ t (by omega)) rfl rfl rfl rfl rfl rfl (fun v L' I' hq8 => ?_))
  obtain ⟨rfl, rfl, rfl⟩ := hq8
  refine st rfl (o_call [] [0, 1, 2, 3, 4, 5, 6] (PutText_ (cutS t) ea em ef (by assumption) (by assumption) (by assumption) (by first | omega | (rw [ByteArray.size_append]; omega) | decide | assumption)) rfl rfl rfl rfl rfl rfl (fun v L' I' hq9 => ?_))
  obtain ⟨rfl, rfl, rfl⟩ := hq9
  refine st rfl (o_y (v := .tuple #[.string ((ptextF (cutS t)).1), .int .i64 ((ptextF (cutS t)).2)]) (y_mv rfl) rfl rfl rfl ?_)
  refine st rfl (o_y (v := .string ((ptextF (cutS t)).1)) (y_k rfl rfl (fun _ => by kernel_rfl)) rfl rfl rfl ?_)
  refine st rfl (o_y (v := .int .i64 ((ptextF (cutS t)).2)) (y_k rfl rfl (fun _ => by kernel_rfl)) rfl rfl rfl ?_)
  refine st rfl (o_y (v := .string ((ptextF (cutS t)).1)) (y_as rfl) rfl rfl rfl ?_)
  refine st rfl (o_y (v := .int .i64 ((ptextF (cutS t)).2)) (y_as rfl) rfl rfl rfl ?_)
  refine s_nil ?_
  refine q_then ?_
  refine c_seq ?_
  refine c_region ?_
  refine st rfl (o_y (v := .string t) (y_mv rfl) rfl rfl rfl ?_)
  refine st rfl (o_call [] [] (cut_ t (by omega)) rfl rfl rfl rfl rfl rfl (fun v L' I' hq10 => ?_))
  obtain ⟨rfl, rfl, rfl⟩ := hq10
  refine st rfl (o_call [] [] (rPutText_ (cutS t) (by first | omega | (rw [ByteArray.size_append]; omega) | decide | assumption)) rfl rfl rfl rfl rfl rfl (fun v L' I' hq11 => ?_))
  obtain ⟨rfl, rfl, rfl⟩ := hq11
  refine st rfl (o_y (v := .tuple #[.string ((ptextF (cutS t)).1), .int .i64 ((ptextF (cutS t)).2)]) (y_mv rfl) rfl rfl rfl ?_)
  refine st rfl (o_y (v := .string ((ptextF (cutS t)).1)) (y_k rfl rfl (fun _ => by kernel_rfl)) rfl rfl rfl ?_)
  refine st rfl (o_y (v := .int .i64 ((ptextF (cutS t)).2)) (y_k rfl rfl (fun _ => by kernel_rfl)) rfl rfl rfl ?_)
  refine st rfl (o_y (v := .string ((ptextF (cutS t)).1)) (y_as rfl) rfl rfl rfl ?_)
  refine st rfl (o_y (v := .int .i64 ((ptextF (cutS t)).2)) (y_as rfl) rfl rfl rfl ?_)
  refine s_nil ?_
  refine q_then ?_
  refine c_seq ?_
  refine c_region ?_
  refine st rfl (o_y (v := .string s) (y_mv rfl) rfl rfl rfl ?_)
  refine st rfl (o_call [] [] (cut_ s (by omega)) rfl rfl rfl rfl rfl rfl (fun v L' I' hq12 => ?_))
  obtain ⟨rfl, rfl, rfl⟩ := hq12
  refine st rfl (o_call [] [0, 1, 2, 3, 4, 5, 6] (GetTextF_ (cutS s) ea em ef (by assumption) (by assumption) (by assumption) (by first | omega | (rw [ByteArray.size_append]; omega) | decide | assumption)) rfl rfl rfl rfl rfl rfl (fun v L' I' hq13 => ?_))
  obtain ⟨rfl, rfl, rfl⟩ := hq13
  refine st rfl (o_y (v := .tuple #[.string ((textF (cutS s)).1), .string ((textF (cutS s)).2.1), .int .i64 ((textF (cutS s)).2.2)]) (y_mv rfl) rfl rfl rfl ?_)
  refine st rfl (o_y (v := .string ((textF (cutS s)).1)) (y_k rfl rfl (fun _ => by kernel_rfl)) rfl rfl rfl ?_)
  refine st rfl (o_y (v := .string ((textF (cutS s)).2.1)) (y_k rfl rfl (fun _ => by kernel_rfl)) rfl rfl rfl ?_)
  refine st rfl (o_y (v := .int .i64 ((textF (cutS s)).2.2)) (y_k rfl rfl (fun _ => by kernel_rfl)) rfl rfl rfl ?_)
  refine st rfl (o_y (v := .string ((textF (cutS s)).1)) (y_as rfl) rfl rfl rfl ?_)
  refine st rfl (o_y (v := .string ((textF (cutS s)).2.1)) (y_as rfl) rfl rfl rfl ?_)
  refine st rfl (o_y (v := .int .i64 ((textF (cutS s)).2.2)) (y_as rfl) rfl rfl rfl ?_)
  refine s_nil ?_
  refine q_then ?_
  refine c_seq ?_
  refine c_region ?_
  refine st rfl (o_y (v := .string s) (y_mv rfl) rfl rfl rfl ?_)
  refine st rfl (o_call [] [] (cut_ s (by omega)) rfl rfl rfl rfl rfl rfl (fun v L' I' hq14 => ?_))
  obtain ⟨rfl, rfl, rfl⟩ := hq14
  refine st rfl (o_call [] [] (rGetText_ (cutS s) (by first | omega | (rw [ByteArray.size_append]; omega) | decide | assumption)) rfl rfl rfl rfl rfl rfl (fun v L' I' hq15 => ?_))
  obtain ⟨rfl, rfl, rfl⟩ := hq15
  refine st rfl (o_y (v := .tuple #[.string ((textF (cutS s)).1), .string ((textF (cutS s)).2.1), .int .i64 ((textF (cutS s)).2.2)]) (y_mv rfl) rfl rfl rfl ?_)
  refine st rfl (o_y (v := .string ((textF (cutS s)).1)) (y_k rfl rfl (fun _ => by kernel_rfl)) rfl rfl rfl ?_)
  refine st rfl (o_y (v := .string ((textF (cutS s)).2.1)) (y_k rfl rfl (fun _ => by kernel_rfl)) rfl rfl rfl ?_)
  refine st rfl (o_y (v := .int .i64 ((textF (cutS s)).2.2)) (y_k rfl rfl (fun _ => by kernel_rfl)) rfl rfl rfl ?_)
  refine st rfl (o_y (v := .string ((textF (cutS s)).1)) (y_as rfl) rfl rfl rfl ?_)
  refine st rfl (o_y (v := .string ((textF (cutS s)).2.1)) (y_as rfl) rfl rfl rfl ?_)
  refine st rfl (o_y (v := .int .i64 ((textF (cutS s)).2.2)) (y_as rfl) rfl rfl rfl ?_)
  refine s_nil ?_
  refine q_then ?_
  refine c_seq ?_
  refine c_region ?_
  refine st rfl (o_y (v := .bool true) (y_mv rfl) rfl rfl rfl ?_)
  refine st rfl (o_y (v := .bool true) (y_mv rfl) rfl rfl rfl ?_)
  refine st_on 86 rfl rfl rfl (o_y (v := .string ((putF w n).1)) (y_mv rfl) rfl rfl rfl ?_)
  refine st_on 86 rfl rfl rfl (o_y (v := .string ((putF w n).1)) (y_mv rfl) rfl rfl rfl ?_)
  have h24 : (putF w n).1 = (putF w n).1 := rfl
  refine st_on 86 rfl rfl rfl (o_y (v := .bool true) (y_b (y_k (v := .bool (((putF w n).1).toList == ((putF w n).1).toList)) rfl rfl (fun _ => by kernel_rfl)) (str_t h24)) rfl rfl rfl ?_)
  refine st rfl (o_y (v := .bool true) (y_pick rfl rfl) rfl rfl rfl ?_)
  refine st rfl (o_y (v := .bool true) (y_mv rfl) rfl rfl rfl ?_)
  refine st_on 91 rfl rfl rfl (o_y (v := .int .i64 ((putF w n).2)) (y_mv rfl) rfl rfl rfl ?_)
  refine st_on 91 rfl rfl rfl (o_y (v := .int .i64 ((putF w n).2)) (y_mv rfl) rfl rfl rfl ?_)
  have h25 : (putF w n).2 = (putF w n).2 := rfl
  refine st_on 91 rfl rfl rfl (o_y (v := .bool true) (y_t (y_k (v := .bool (decide ((putF w n).2 = (putF w n).2))) rfl rfl (fun _ => by kernel_rfl)) h25) rfl rfl rfl ?_)
  refine st rfl (o_y (v := .bool true) (y_pick rfl rfl) rfl rfl rfl ?_)
  refine st rfl (o_y (v := .bool true) (y_mv rfl) rfl rfl rfl ?_)
  refine st_on 96 rfl rfl rfl (o_y (v := .int .u64 ((getF w (cutS s)).1 : Int)) (y_mv rfl) rfl rfl rfl ?_)
  refine st_on 96 rfl rfl rfl (o_y (v := .int .u64 ((getF w (cutS s)).1 : Int)) (y_mv rfl) rfl rfl rfl ?_)
  have h26 : ((getF w (cutS s)).1 : Int) = ((getF w (cutS s)).1 : Int) := rfl
  refine st_on 96 rfl rfl rfl (o_y (v := .bool true) (y_t (y_k (v := .bool (decide (((getF w (cutS s)).1 : Int) = ((getF w (cutS s)).1 : Int)))) rfl rfl (fun _ => by kernel_rfl)) h26) rfl rfl rfl ?_)
  refine st rfl (o_y (v := .bool true) (y_pick rfl rfl) rfl rfl rfl ?_)
  refine st rfl (o_y (v := .bool true) (y_mv rfl) rfl rfl rfl ?_)
  refine st_on 101 rfl rfl rfl (o_y (v := .string ((getF w (cutS s)).2.1)) (y_mv rfl) rfl rfl rfl ?_)
  refine st_on 101 rfl rfl rfl (o_y (v := .string ((getF w (cutS s)).2.1)) (y_mv rfl) rfl rfl rfl ?_)
  have h27 : (getF w (cutS s)).2.1 = (getF w (cutS s)).2.1 := rfl
  refine st_on 101 rfl rfl rfl (o_y (v := .bool true) (y_b (y_k (v := .bool (((getF w (cutS s)).2.1).toList == ((getF w (cutS s)).2.1).toList)) rfl rfl (fun _ => by kernel_rfl)) (str_t h27)) rfl rfl rfl ?_)
  refine st rfl (o_y (v := .bool true) (y_pick rfl rfl) rfl rfl rfl ?_)
  refine st rfl (o_y (v := .bool true) (y_mv rfl) rfl rfl rfl ?_)
  refine st_on 106 rfl rfl rfl (o_y (v := .int .i64 ((getF w (cutS s)).2.2)) (y_mv rfl) rfl rfl rfl ?_)
  refine st_on 106 rfl rfl rfl (o_y (v := .int .i64 ((getF w (cutS s)).2.2)) (y_mv rfl) rfl rfl rfl ?_)
  have h28 : (getF w (cutS s)).2.2 = (getF w (cutS s)).2.2 := rfl
  refine st_on 106 rfl rfl rfl (o_y (v := .bool true) (y_t (y_k (v := .bool (decide ((getF w (cutS s)).2.2 = (getF w (cutS s)).2.2))) rfl rfl (fun _ => by kernel_rfl)) h28) rfl rfl rfl ?_)
  refine st rfl (o_y (v := .bool true) (y_pick rfl rfl) rfl rfl rfl ?_)
  refine st rfl (o_y (v := .bool true) (y_mv rfl) rfl rfl rfl ?_)
  refine st_on 111 rfl rfl rfl (o_y (v := .string ((ptextF (cutS t)).1)) (y_mv rfl) rfl rfl rfl ?_)
  refine st_on 111 rfl rfl rfl (o_y (v := .string ((ptextF (cutS t)).1)) (y_mv rfl) rfl rfl rfl ?_)
  have h29 : (ptextF (cutS t)).1 = (ptextF (cutS t)).1 := rfl
  refine st_on 111 rfl rfl rfl (o_y (v := .bool true) (y_b (y_k (v := .bool (((ptextF (cutS t)).1).toList == ((ptextF (cutS t)).1).toList)) rfl rfl (fun _ => by kernel_rfl)) (str_t h29)) rfl rfl rfl ?_)
  refine st rfl (o_y (v := .bool true) (y_pick rfl rfl) rfl rfl rfl ?_)
  refine st rfl (o_y (v := .bool true) (y_mv rfl) rfl rfl rfl ?_)
  refine st_on 116 rfl rfl rfl (o_y (v := .int .i64 ((ptextF (cutS t)).2)) (y_mv rfl) rfl rfl rfl ?_)
  refine st_on 116 rfl rfl rfl (o_y (v := .int .i64 ((ptextF (cutS t)).2)) (y_mv rfl) rfl rfl rfl ?_)
  have h30 : (ptextF (cutS t)).2 = (ptextF (cutS t)).2 := rfl
  refine st_on 116 rfl rfl rfl (o_y (v := .bool true) (y_t (y_k (v := .bool (decide ((ptextF (cutS t)).2 = (ptextF (cutS t)).2))) rfl rfl (fun _ => by kernel_rfl)) h30) rfl rfl rfl ?_)
  refine st rfl (o_y (v := .bool true) (y_pick rfl rfl) rfl rfl rfl ?_)
  refine st rfl (o_y (v := .bool true) (y_mv rfl) rfl rfl rfl ?_)
  refine st_on 121 rfl rfl rfl (o_y (v := .string ((textF (cutS s)).1)) (y_mv rfl) rfl rfl rfl ?_)
  refine st_on 121 rfl rfl rfl (o_y (v := .string ((textF (cutS s)).1)) (y_mv rfl) rfl rfl rfl ?_)
  have h31 : (textF (cutS s)).1 = (textF (cutS s)).1 := rfl
  refine st_on 121 rfl rfl rfl (o_y (v := .bool true) (y_b (y_k (v := .bool (((textF (cutS s)).1).toList == ((textF (cutS s)).1).toList)) rfl rfl (fun _ => by kernel_rfl)) (str_t h31)) rfl rfl rfl ?_)
  refine st rfl (o_y (v := .bool true) (y_pick rfl rfl) rfl rfl rfl ?_)
  refine st rfl (o_y (v := .bool true) (y_mv rfl) rfl rfl rfl ?_)
  refine st_on 126 rfl rfl rfl (o_y (v := .string ((textF (cutS s)).2.1)) (y_mv rfl) rfl rfl rfl ?_)
  refine st_on 126 rfl rfl rfl (o_y (v := .string ((textF (cutS s)).2.1)) (y_mv rfl) rfl rfl rfl ?_)
  have h32 : (textF (cutS s)).2.1 = (textF (cutS s)).2.1 := rfl
  refine st_on 126 rfl rfl rfl (o_y (v := .bool true) (y_b (y_k (v := .bool (((textF (cutS s)).2.1).toList == ((textF (cutS s)).2.1).toList)) rfl rfl (fun _ => by kernel_rfl)) (str_t h32)) rfl rfl rfl ?_)
  refine st rfl (o_y (v := .bool true) (y_pick rfl rfl) rfl rfl rfl ?_)
  refine st rfl (o_y (v := .bool true) (y_mv rfl) rfl rfl rfl ?_)
  refine st_on 131 rfl rfl rfl (o_y (v := .int .i64 ((textF (cutS s)).2.2)) (y_mv rfl) rfl rfl rfl ?_)
  refine st_on 131 rfl rfl rfl (o_y (v := .int .i64 ((textF (cutS s)).2.2)) (y_mv rfl) rfl rfl rfl ?_)
  have h33 : (textF (cutS s)).2.2 = (textF (cutS s)).2.2 := rfl
  refine st_on 131 rfl rfl rfl (o_y (v := .bool true) (y_t (y_k (v := .bool (decide ((textF (cutS s)).2.2 = (textF (cutS s)).2.2))) rfl rfl (fun _ => by kernel_rfl)) h33) rfl rfl rfl ?_)
  refine st rfl (o_y (v := .bool true) (y_pick rfl rfl) rfl rfl rfl ?_)
  refine st rfl (o_y (v := .bool true) (y_as rfl) rfl rfl rfl ?_)
  refine s_nil ?_
  refine q_then ?_
  refine c_ret ?_
  refine c_fin (I' := []) [] [0, 1, 2, 3, 4, 5, 6] rfl (.tmp rfl .nil) rfl rfl rfl ?_
  exact ⟨rfl, rfl, rfl⟩
end Go.Proofs.YtpfadknajnedoaaDoor
