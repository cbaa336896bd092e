/- The laws of chapter 3 (field), walked over the given program; no condition but what stands in each theorem: part UTexts. -/
import Derived.Test.YtpfadknajnedoaaDoorRT
set_option linter.unusedVariables false
set_option linter.unusedSimpArgs false
set_option maxRecDepth 100000
set_option maxHeartbeats 8000000
namespace Go.Proofs.YtpfadknajnedoaaDoor
open Go Go.Sl Go.RowKit Go.Extern.Stop Go.Stop Go.Extern
theorem FieldTexts_ (ea : Addr) (em : Addr) (ef : Addr) (h12 : ea ≠ em) (h13 : ea ≠ ef) (h23 : em ≠ ef) (t : ByteArray) (s : ByteArray) (zt : t.size ≤ 9223372036854775807) (zs : s.size ≤ 9223372036854775807) : Con Tryd.prog 5 [.string t, .string s] [] [cellsAt 1 0 [.iface 107 (.pointer (some ea))], cellsAt 2 0 [.iface 107 (.pointer (some em))], cellsAt 0 0 [.iface 107 (.pointer (some ef))], errAt ea, errAt em, errAt ef, cellsAt 3 0 [.iface 92 (.agg #[.pointer (some ⟨4, 47, none⟩)])]] (fun v L' I' => v = .bool true ∧ L' = [] ∧ I' = []) := by
  have ct := cutS_size t
  have cs := cutS_size s
  have p1 := ptext_size (cutS t)
  have p2 := textF_size (cutS s)
  have p3 := ptext_size (textF (cutS s)).1
  have p4 := textF_size ((ptextF (cutS t)).1 ++ cutS s)
  have p5 := textF_rest (cutS s)
  have p6 := ByteArray.size_append (a := (ptextF (cutS t)).1) (b := cutS s)
  refine fn_of Tryd.func5 rfl Tryd.ntmps5 (by kernel_rfl) rfl (fun C => ?_)
  refine c_seq ?_
  refine c_region ?_
  refine st rfl (o_y (v := .bool false) (y_as rfl) rfl rfl rfl ?_)
  refine s_nil ?_
  refine q_then ?_
  refine c_seq ?_
  refine c_region ?_
  refine st rfl (o_call [] [0, 1, 2, 3, 4, 5, 6] (shown_ ea em ef (by assumption) (by assumption) (by assumption)) rfl rfl rfl rfl rfl rfl (fun v L' I' hq1 => ?_))
  obtain ⟨rfl, rfl, rfl⟩ := hq1
  refine st rfl (o_y (v := .bool true) (y_as rfl) rfl rfl rfl ?_)
  refine s_nil ?_
  refine q_then ?_
  refine c_seq ?_
  refine c_region ?_
  refine st rfl (o_y (v := .string t) (y_mv rfl) rfl rfl rfl ?_)
  refine st rfl (o_call [] [] (cut_ t (by omega)) rfl rfl rfl rfl rfl rfl (fun v L' I' hq2 => ?_))
  obtain ⟨rfl, rfl, rfl⟩ := hq2
  refine st rfl (o_call [] [0, 1, 2, 3, 4, 5, 6] (PutText_ (cutS t) ea em ef (by assumption) (by assumption) (by assumption) (by first | omega | (rw [ByteArray.size_append]; omega) | decide | assumption)) rfl rfl rfl rfl rfl rfl (fun v L' I' hq3 => ?_))
  obtain ⟨rfl, rfl, rfl⟩ := hq3
  refine st rfl (o_y (v := .tuple #[.string ((ptextF (cutS t)).1), .int .i64 ((ptextF (cutS t)).2)]) (y_mv rfl) rfl rfl rfl ?_)
  refine st rfl (o_y (v := .string ((ptextF (cutS t)).1)) (y_k rfl rfl (fun _ => by kernel_rfl)) rfl rfl rfl ?_)
  refine st rfl (o_y (v := .int .i64 ((ptextF (cutS t)).2)) (y_k rfl rfl (fun _ => by kernel_rfl)) rfl rfl rfl ?_)
  refine st rfl (o_y (v := .string ((ptextF (cutS t)).1)) (y_as rfl) rfl rfl rfl ?_)
  refine st rfl (o_y (v := .int .i64 ((ptextF (cutS t)).2)) (y_as rfl) rfl rfl rfl ?_)
  refine s_nil ?_
  refine q_then ?_
  refine c_seq ?_
  refine c_region ?_
  refine st rfl (o_y (v := .string ((ptextF (cutS t)).1)) (y_mv rfl) rfl rfl rfl ?_)
  refine st rfl (o_y (v := .string s) (y_mv rfl) rfl rfl rfl ?_)
  refine st rfl (o_call [] [] (cut_ s (by omega)) rfl rfl rfl rfl rfl rfl (fun v L' I' hq4 => ?_))
  obtain ⟨rfl, rfl, rfl⟩ := hq4
  refine st rfl (o_y (v := .string (((ptextF (cutS t)).1) ++ (cutS s))) (y_cat (s := (ptextF (cutS t)).1) (u := cutS s) rfl rfl (by omega)) rfl rfl rfl ?_)
  refine st rfl (o_call [] [0, 1, 2, 3, 4, 5, 6] (GetTextF_ (((ptextF (cutS t)).1) ++ (cutS s)) ea em ef (by assumption) (by assumption) (by assumption) (by first | omega | (rw [ByteArray.size_append]; omega) | decide | assumption)) rfl rfl rfl rfl rfl rfl (fun v L' I' hq5 => ?_))
  obtain ⟨rfl, rfl, rfl⟩ := hq5
  refine st rfl (o_y (v := .tuple #[.string ((textF (((ptextF (cutS t)).1) ++ (cutS s))).1), .string ((textF (((ptextF (cutS t)).1) ++ (cutS s))).2.1), .int .i64 ((textF (((ptextF (cutS t)).1) ++ (cutS s))).2.2)]) (y_mv rfl) rfl rfl rfl ?_)
  refine st rfl (o_y (v := .string ((textF (((ptextF (cutS t)).1) ++ (cutS s))).1)) (y_k rfl rfl (fun _ => by kernel_rfl)) rfl rfl rfl ?_)
  refine st rfl (o_y (v := .string ((textF (((ptextF (cutS t)).1) ++ (cutS s))).2.1)) (y_k rfl rfl (fun _ => by kernel_rfl)) rfl rfl rfl ?_)
  refine st rfl (o_y (v := .int .i64 ((textF (((ptextF (cutS t)).1) ++ (cutS s))).2.2)) (y_k rfl rfl (fun _ => by kernel_rfl)) rfl rfl rfl ?_)
  refine st rfl (o_y (v := .string ((textF (((ptextF (cutS t)).1) ++ (cutS s))).1)) (y_as rfl) rfl rfl rfl ?_)
  refine st rfl (o_y (v := .string ((textF (((ptextF (cutS t)).1) ++ (cutS s))).2.1)) (y_as rfl) rfl rfl rfl ?_)
  refine st rfl (o_y (v := .int .i64 ((textF (((ptextF (cutS t)).1) ++ (cutS s))).2.2)) (y_as rfl) rfl rfl rfl ?_)
  refine s_nil ?_
  refine q_then ?_
  refine c_seq ?_
  refine c_seq ?_
  refine c_region ?_
  refine st rfl (o_y (v := .int .i64 ((ptextF (cutS t)).2)) (y_mv rfl) rfl rfl rfl ?_)
  refine e_by ((ptextF (cutS t)).2 = 0) (fun h24 => ?_) (fun h24 => ?_)
  ·
    refine st rfl (o_y (v := .bool false) (y_nt (y_k (v := .bool (!decide ((ptextF (cutS t)).2 = 0))) rfl rfl (fun _ => by kernel_rfl)) h24) rfl rfl rfl ?_)
    refine s_nil ?_
    refine q_then ?_
    refine c_false rfl ?_
    refine c_skip ?_
    refine q_then ?_
    refine c_seq ?_
    refine c_region ?_
    refine st rfl (o_y (v := .string s) (y_mv rfl) rfl rfl rfl ?_)
    refine st rfl (o_call [] [] (cut_ s (by omega)) rfl rfl rfl rfl rfl rfl (fun v L' I' hq6 => ?_))
    obtain ⟨rfl, rfl, rfl⟩ := hq6
    refine st rfl (o_call [] [0, 1, 2, 3, 4, 5, 6] (GetTextF_ (cutS s) ea em ef (by assumption) (by assumption) (by assumption) (by first | omega | (rw [ByteArray.size_append]; omega) | decide | assumption)) rfl rfl rfl rfl rfl rfl (fun v L' I' hq7 => ?_))
    obtain ⟨rfl, rfl, rfl⟩ := hq7
    refine st rfl (o_y (v := .tuple #[.string ((textF (cutS s)).1), .string ((textF (cutS s)).2.1), .int .i64 ((textF (cutS s)).2.2)]) (y_mv rfl) rfl rfl rfl ?_)
    refine st rfl (o_y (v := .string ((textF (cutS s)).1)) (y_k rfl rfl (fun _ => by kernel_rfl)) rfl rfl rfl ?_)
    refine st rfl (o_y (v := .string ((textF (cutS s)).2.1)) (y_k rfl rfl (fun _ => by kernel_rfl)) rfl rfl rfl ?_)
    refine st rfl (o_y (v := .int .i64 ((textF (cutS s)).2.2)) (y_k rfl rfl (fun _ => by kernel_rfl)) rfl rfl rfl ?_)
    refine st rfl (o_y (v := .string ((textF (cutS s)).1)) (y_as rfl) rfl rfl rfl ?_)
    refine st rfl (o_y (v := .string ((textF (cutS s)).2.1)) (y_as rfl) rfl rfl rfl ?_)
    refine st rfl (o_y (v := .int .i64 ((textF (cutS s)).2.2)) (y_as rfl) rfl rfl rfl ?_)
    refine s_nil ?_
    refine q_then ?_
    refine c_seq ?_
    refine c_region ?_
    refine st rfl (o_y (v := .string ((textF (cutS s)).1)) (y_mv rfl) rfl rfl rfl ?_)
    refine st rfl (o_call [] [0, 1, 2, 3, 4, 5, 6] (PutText_ ((textF (cutS s)).1) ea em ef (by assumption) (by assumption) (by assumption) (by first | omega | (rw [ByteArray.size_append]; omega) | decide | assumption)) rfl rfl rfl rfl rfl rfl (fun v L' I' hq8 => ?_))
    obtain ⟨rfl, rfl, rfl⟩ := hq8
    refine st rfl (o_y (v := .tuple #[.string ((ptextF ((textF (cutS s)).1)).1), .int .i64 ((ptextF ((textF (cutS s)).1)).2)]) (y_mv rfl) rfl rfl rfl ?_)
    refine st rfl (o_y (v := .string ((ptextF ((textF (cutS s)).1)).1)) (y_k rfl rfl (fun _ => by kernel_rfl)) rfl rfl rfl ?_)
    refine st rfl (o_y (v := .int .i64 ((ptextF ((textF (cutS s)).1)).2)) (y_k rfl rfl (fun _ => by kernel_rfl)) rfl rfl rfl ?_)
    refine st rfl (o_y (v := .string ((ptextF ((textF (cutS s)).1)).1)) (y_as rfl) rfl rfl rfl ?_)
    refine st rfl (o_y (v := .int .i64 ((ptextF ((textF (cutS s)).1)).2)) (y_as rfl) rfl rfl rfl ?_)
    refine s_nil ?_
    refine q_then ?_
    refine c_seq ?_
    refine c_region ?_
    refine st rfl (o_y (v := .bool true) (y_mv rfl) rfl rfl rfl ?_)
    refine st rfl (o_y (v := .bool true) (y_mv rfl) rfl rfl rfl ?_)
    refine st_on 62 rfl rfl rfl (o_y (v := .int .i64 ((textF (((ptextF (cutS t)).1) ++ (cutS s))).2.2)) (y_mv rfl) rfl rfl rfl ?_)
    have h25 : (textF (((ptextF (cutS t)).1) ++ (cutS s))).2.2 = 0 := by rw [text_1 h24]
    refine st_on 62 rfl rfl rfl (o_y (v := .bool true) (y_t (y_k (v := .bool (decide ((textF (((ptextF (cutS t)).1) ++ (cutS s))).2.2 = 0))) rfl rfl (fun _ => by kernel_rfl)) h25) rfl rfl rfl ?_)
    refine st rfl (o_y (v := .bool true) (y_pick rfl rfl) rfl rfl rfl ?_)
    refine st rfl (o_y (v := .bool true) (y_mv rfl) rfl rfl rfl ?_)
    refine st_on 66 rfl rfl rfl (o_y (v := .string ((textF (((ptextF (cutS t)).1) ++ (cutS s))).1)) (y_mv rfl) rfl rfl rfl ?_)
    refine st_on 66 rfl rfl rfl (o_y (v := .string t) (y_mv rfl) rfl rfl rfl ?_)
    refine st_on 66 rfl rfl rfl (o_call [] [] (cut_ t (by omega)) rfl rfl rfl rfl rfl rfl (fun v L' I' hq9 => ?_))
    obtain ⟨rfl, rfl, rfl⟩ := hq9
    have h26 : (textF (((ptextF (cutS t)).1) ++ (cutS s))).1 = cutS t := by rw [text_1 h24]
    refine st_on 66 rfl rfl rfl (o_y (v := .bool true) (y_b (y_k (v := .bool (((textF (((ptextF (cutS t)).1) ++ (cutS s))).1).toList == (cutS t).toList)) rfl rfl (fun _ => by kernel_rfl)) (str_t h26)) rfl rfl rfl ?_)
    refine st rfl (o_y (v := .bool true) (y_pick rfl rfl) rfl rfl rfl ?_)
    refine st rfl (o_y (v := .bool true) (y_mv rfl) rfl rfl rfl ?_)
    refine st_on 72 rfl rfl rfl (o_y (v := .string ((textF (((ptextF (cutS t)).1) ++ (cutS s))).2.1)) (y_mv rfl) rfl rfl rfl ?_)
    refine st_on 72 rfl rfl rfl (o_y (v := .string s) (y_mv rfl) rfl rfl rfl ?_)
    refine st_on 72 rfl rfl rfl (o_call [] [] (cut_ s (by omega)) rfl rfl rfl rfl rfl rfl (fun v L' I' hq10 => ?_))
    obtain ⟨rfl, rfl, rfl⟩ := hq10
    have h27 : (textF (((ptextF (cutS t)).1) ++ (cutS s))).2.1 = cutS s := by rw [text_1 h24]
    refine st_on 72 rfl rfl rfl (o_y (v := .bool true) (y_b (y_k (v := .bool (((textF (((ptextF (cutS t)).1) ++ (cutS s))).2.1).toList == (cutS s).toList)) rfl rfl (fun _ => by kernel_rfl)) (str_t h27)) rfl rfl rfl ?_)
    refine st rfl (o_y (v := .bool true) (y_pick rfl rfl) rfl rfl rfl ?_)
    refine st rfl (o_y (v := .bool true) (y_mv rfl) rfl rfl rfl ?_)
    refine st_on 78 rfl rfl rfl (o_y (v := .string ((ptextF (cutS t)).1)) (y_mv rfl) rfl rfl rfl ?_)
    refine st_on 78 rfl rfl rfl (o_y (v := .int .i64 (((ptextF (cutS t)).1).size : Int)) (y_k rfl rfl (fun _ => by kernel_rfl)) rfl rfl rfl ?_)
    refine st_on 78 rfl rfl rfl (o_y (v := .string ((textF (((ptextF (cutS t)).1) ++ (cutS s))).1)) (y_mv rfl) rfl rfl rfl ?_)
    refine st_on 78 rfl rfl rfl (o_y (v := .int .i64 (((textF (((ptextF (cutS t)).1) ++ (cutS s))).1).size : Int)) (y_k rfl rfl (fun _ => by kernel_rfl)) rfl rfl rfl ?_)
    refine st_on 78 rfl rfl rfl (o_y (v := .int .i64 ((((textF (((ptextF (cutS t)).1) ++ (cutS s))).1).size : Int) + 1)) (y_add (r := (((textF (((ptextF (cutS t)).1) ++ (cutS s))).1).size : Int) + 1) rfl rfl rfl (by omega)) rfl rfl rfl ?_)
    have h28 : (((ptextF (cutS t)).1).size : Int) = (((textF (((ptextF (cutS t)).1) ++ (cutS s))).1).size : Int) + 1 := by rw [text_1 h24]; exact text_len h24
    refine st_on 78 rfl rfl rfl (o_y (v := .bool true) (y_t (y_k (v := .bool (decide ((((ptextF (cutS t)).1).size : Int) = (((textF (((ptextF (cutS t)).1) ++ (cutS s))).1).size : Int) + 1))) rfl rfl (fun _ => by kernel_rfl)) h28) rfl rfl rfl ?_)
    refine st rfl (o_y (v := .bool true) (y_pick rfl rfl) rfl rfl rfl ?_)
    refine st rfl (o_y (v := .bool true) (y_mv rfl) rfl rfl rfl ?_)
    refine st_on 86 rfl rfl rfl (o_y (v := .int .i64 ((textF (cutS s)).2.2)) (y_mv rfl) rfl rfl rfl ?_)
    refine e_by ((textF (cutS s)).2.2 = 0) (fun h29 => ?_) (fun h29 => ?_)
    ·
      refine st_on 86 rfl rfl rfl (o_y (v := .bool false) (y_nt (y_k (v := .bool (!decide ((textF (cutS s)).2.2 = 0))) rfl rfl (fun _ => by kernel_rfl)) h29) rfl rfl rfl ?_)
      refine st_on 86 rfl rfl rfl (o_y (v := .bool false) (y_mv rfl) rfl rfl rfl ?_)
      refine st_on 89 rfl rfl rfl (o_y (v := .int .i64 ((ptextF ((textF (cutS s)).1)).2)) (y_mv rfl) rfl rfl rfl ?_)
      have h30 : (ptextF ((textF (cutS s)).1)).2 = 0 := (text_2 h29).1
      refine st_on 89 rfl rfl rfl (o_y (v := .bool true) (y_t (y_k (v := .bool (decide ((ptextF ((textF (cutS s)).1)).2 = 0))) rfl rfl (fun _ => by kernel_rfl)) h30) rfl rfl rfl ?_)
      refine st_on 89 rfl rfl rfl (o_y (v := .bool true) (y_mv rfl) rfl rfl rfl ?_)
      refine st_on 92 rfl rfl rfl (o_y (v := .string ((ptextF ((textF (cutS s)).1)).1)) (y_mv rfl) rfl rfl rfl ?_)
      refine st_on 92 rfl rfl rfl (o_y (v := .string ((textF (cutS s)).2.1)) (y_mv rfl) rfl rfl rfl ?_)
      refine st_on 92 rfl rfl rfl (o_y (v := .string (((ptextF ((textF (cutS s)).1)).1) ++ ((textF (cutS s)).2.1))) (y_cat (s := (ptextF ((textF (cutS s)).1)).1) (u := (textF (cutS s)).2.1) rfl rfl (by omega)) rfl rfl rfl ?_)
      refine st_on 92 rfl rfl rfl (o_y (v := .string s) (y_mv rfl) rfl rfl rfl ?_)
      refine st_on 92 rfl rfl rfl (o_call [] [] (cut_ s (by omega)) rfl rfl rfl rfl rfl rfl (fun v L' I' hq11 => ?_))
      obtain ⟨rfl, rfl, rfl⟩ := hq11
      have h31 : ((ptextF ((textF (cutS s)).1)).1) ++ ((textF (cutS s)).2.1) = cutS s := (text_2 h29).2
      refine st_on 92 rfl rfl rfl (o_y (v := .bool true) (y_b (y_k (v := .bool ((((ptextF ((textF (cutS s)).1)).1) ++ ((textF (cutS s)).2.1)).toList == (cutS s).toList)) rfl rfl (fun _ => by kernel_rfl)) (str_t h31)) rfl rfl rfl ?_)
      refine st_on 89 rfl rfl rfl (o_y (v := .bool true) (y_pick rfl rfl) rfl rfl rfl ?_)
      refine st_on 86 rfl rfl rfl (o_y (v := .bool true) (y_pick rfl rfl) rfl rfl rfl ?_)
      refine st rfl (o_y (v := .bool true) (y_pick rfl rfl) rfl rfl rfl ?_)
      refine st rfl (o_y (v := .bool true) (y_as rfl) rfl rfl rfl ?_)
      refine s_nil ?_
      refine q_then ?_
      refine c_ret ?_
      refine c_fin (I' := []) [] [0, 1, 2, 3, 4, 5, 6] rfl (.tmp rfl .nil) rfl rfl rfl ?_
      exact ⟨rfl, rfl, rfl⟩
    ·
      refine st_on 86 rfl rfl rfl (o_y (v := .bool true) (y_nf (y_k (v := .bool (!decide ((textF (cutS s)).2.2 = 0))) rfl rfl (fun _ => by kernel_rfl)) h29) rfl rfl rfl ?_)
      refine st_on 86 rfl rfl rfl (o_y (v := .bool true) (y_mv rfl) rfl rfl rfl ?_)
      refine st_off 89 rfl rfl rfl rfl rfl rfl ?_
      refine st_off 89 rfl rfl rfl rfl rfl rfl ?_
      refine st_off 89 rfl rfl rfl rfl rfl rfl ?_
      refine st_offu 92 rfl rfl rfl rfl rfl ?_
      refine st_offu 92 rfl rfl rfl rfl rfl ?_
      refine st_offu 92 rfl rfl rfl rfl rfl ?_
      refine st_offu 92 rfl rfl rfl rfl rfl ?_
      refine st_offu 92 rfl rfl rfl rfl rfl ?_
      refine st_offu 92 rfl rfl rfl rfl rfl ?_
      refine st_off 89 rfl rfl rfl rfl rfl rfl ?_
      refine st_on 86 rfl rfl rfl (o_y (v := .bool true) (y_pick rfl rfl) rfl rfl rfl ?_)
      refine st rfl (o_y (v := .bool true) (y_pick rfl rfl) rfl rfl rfl ?_)
      refine st rfl (o_y (v := .bool true) (y_as rfl) rfl rfl rfl ?_)
      refine s_nil ?_
      refine q_then ?_
      refine c_ret ?_
      refine c_fin (I' := []) [] [0, 1, 2, 3, 4, 5, 6] rfl (.tmp rfl .nil) rfl rfl rfl ?_
      exact ⟨rfl, rfl, rfl⟩
  ·
    refine st rfl (o_y (v := .bool true) (y_nf (y_k (v := .bool (!decide ((ptextF (cutS t)).2 = 0))) rfl rfl (fun _ => by kernel_rfl)) h24) rfl rfl rfl ?_)
    refine s_nil ?_
    refine q_then ?_
    refine c_true rfl ?_
    refine c_seq ?_
    refine c_region ?_
    refine st rfl (o_y (v := .bool true) (y_mv rfl) rfl rfl rfl ?_)
    refine st rfl (o_y (v := .bool true) (y_mv rfl) rfl rfl rfl ?_)
    refine st_on 35 rfl rfl rfl (o_y (v := .int .i64 ((ptextF (cutS t)).2)) (y_mv rfl) rfl rfl rfl ?_)
    have h32 : (ptextF (cutS t)).2 = 31 := (ptext_no h24).1
    refine st_on 35 rfl rfl rfl (o_y (v := .bool true) (y_t (y_k (v := .bool (decide ((ptextF (cutS t)).2 = 31))) rfl rfl (fun _ => by kernel_rfl)) h32) rfl rfl rfl ?_)
    refine st rfl (o_y (v := .bool true) (y_pick rfl rfl) rfl rfl rfl ?_)
    refine st rfl (o_y (v := .bool true) (y_mv rfl) rfl rfl rfl ?_)
    refine st_on 39 rfl rfl rfl (o_y (v := .string t) (y_mv rfl) rfl rfl rfl ?_)
    refine st_on 39 rfl rfl rfl (o_call [] [] (cut_ t (by omega)) rfl rfl rfl rfl rfl rfl (fun v L' I' hq12 => ?_))
    obtain ⟨rfl, rfl, rfl⟩ := hq12
    refine st_on 39 rfl rfl rfl (o_y (v := .int .i64 ((cutS t).size : Int)) (y_k rfl rfl (fun _ => by kernel_rfl)) rfl rfl rfl ?_)
    have h33 : ((cutS t).size : Int) > 200 := (ptext_no h24).2.1
    refine st_on 39 rfl rfl rfl (o_y (v := .bool true) (y_t (y_k (v := .bool (decide (((cutS t).size : Int) > 200))) rfl rfl (fun _ => by kernel_rfl)) h33) rfl rfl rfl ?_)
    refine st rfl (o_y (v := .bool true) (y_pick rfl rfl) rfl rfl rfl ?_)
    refine st rfl (o_y (v := .bool true) (y_mv rfl) rfl rfl rfl ?_)
    refine st_on 45 rfl rfl rfl (o_y (v := .string ((ptextF (cutS t)).1)) (y_mv rfl) rfl rfl rfl ?_)
    have h34 : (ptextF (cutS t)).1 = (⟨#[]⟩ : ByteArray) := (ptext_no h24).2.2
    refine st_on 45 rfl rfl rfl (o_y (v := .bool true) (y_b (y_k (v := .bool (((ptextF (cutS t)).1).toList == (⟨#[]⟩ : ByteArray).toList)) rfl rfl (fun _ => by kernel_rfl)) (str_t h34)) rfl rfl rfl ?_)
    refine st rfl (o_y (v := .bool true) (y_pick rfl rfl) rfl rfl rfl ?_)
    refine st rfl (o_y (v := .bool true) (y_as rfl) rfl rfl rfl ?_)
    refine s_nil ?_
    refine q_then ?_
    refine c_ret ?_
    refine q_then_ret ?_
    refine c_fin (I' := []) [] [0, 1, 2, 3, 4, 5, 6] rfl (.tmp rfl .nil) rfl rfl rfl ?_
    exact ⟨rfl, rfl, rfl⟩
end Go.Proofs.YtpfadknajnedoaaDoor
