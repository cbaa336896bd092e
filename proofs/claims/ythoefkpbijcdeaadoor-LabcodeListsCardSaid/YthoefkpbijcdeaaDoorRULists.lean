/- The laws of chapter 4 (labcode), walked over the given program; no condition but what stands in each theorem: part ULists. -/
import Derived.Test.YthoefkpbijcdeaaDoorRLI
import Derived.Test.YthoefkpbijcdeaaDoorRLK
import Derived.Test.YthoefkpbijcdeaaDoorRLL
import Derived.Test.YthoefkpbijcdeaaDoorRLM
import Derived.Test.YthoefkpbijcdeaaDoorRLNa
set_option linter.unusedVariables false
set_option linter.unusedSimpArgs false
set_option maxRecDepth 100000
set_option maxHeartbeats 8000000
namespace Go.Proofs.YthoefkpbijcdeaaDoor
open Go Go.Sl Go.RowKit Go.Extern.Stop Go.Stop Go.Extern
theorem LabcodeLists_ (ea : Addr) (em : Addr) (ef : Addr) (el : Addr) (h12 : ea ≠ em) (h13 : ea ≠ ef) (h23 : em ≠ ef) (A : Option Addr) (c : Nat) (l : List Lab) (s : ByteArray) (h64 : ∀ x ∈ l, lab64 x) (zs : s.size ≤ 9223372036854775807) : Con Tryd.prog 4 [.slice A l.length c, .string s] [] [rd labTy A c l, cellsAt 1 0 [.iface 141 (.pointer (some ea))], cellsAt 3 0 [.iface 141 (.pointer (some em))], cellsAt 4 0 [.iface 141 (.pointer (some ef))], cellsAt 0 0 [.iface 141 (.pointer (some el))], errAt ea, errAt em, errAt ef, errAt el, cellsAt 2 0 [.iface 122 (.agg #[.pointer (some ⟨5, 46, none⟩)])]] (fun v L' I' => v = .bool true ∧ L' = [] ∧ I' = []) := by
  have cs := cutS_size s
  have k1 : (l.take (min l.length 30)).length ≤ 30 := by rw [List.length_take]; omega
  have k2 : ∀ x ∈ (l.take (min l.length 30)), lab64 x := take_64 h64
  have k3 := putS_size k2
  have q1 := glR_len (cutS s)
  have q2 := glR_64 (cutS s)
  have q3 := putS_size q2
  refine fn_of Tryd.func4 rfl Tryd.ntmps4 (by kernel_rfl) rfl (fun C => ?_)
  refine c_seq ?_
  refine c_region ?_
  refine st rfl (o_y (v := .bool false) (y_as rfl) rfl rfl rfl ?_)
  refine s_nil ?_
  refine q_then ?_
  refine c_seq ?_
  refine c_region ?_
  refine st rfl (o_call [] [1, 2, 3, 4, 5, 6, 7, 8, 9] (shown_ ea em ef el (by assumption) (by assumption) (by assumption)) rfl rfl rfl rfl rfl rfl (fun v L' I' hq1 => ?_))
  obtain ⟨rfl, rfl, rfl⟩ := hq1
  refine st rfl (o_y (v := .bool true) (y_as rfl) rfl rfl rfl ?_)
  refine s_nil ?_
  refine q_then ?_
  refine c_seq ?_
  refine c_region ?_
  refine st rfl (o_y (v := .slice A l.length c) (y_mv rfl) rfl rfl rfl ?_)
  refine st rfl (o_y (v := .slice A l.length c) (y_mv rfl) rfl rfl rfl ?_)
  refine st rfl (o_y (v := .int .i64 (l.length : Int)) (y_k rfl rfl (fun _ => by kernel_rfl)) rfl rfl rfl ?_)
  refine st rfl (o_y (v := .int .i64 ((min l.length 30 : Nat) : Int)) (y_min2 l.length 30 rfl rfl) rfl rfl rfl ?_)
  refine e_len 0 rfl (fun h65 h66 => ?_)
  refine e_cut2 (l2 := l.take (min l.length 30)) 0 0 (min l.length 30) c (by simp) rfl (by omega) (by omega) (by omega) ?_
  refine st rfl (o_y (v := .slice (cutA labTy A 0 c) (l.take (min l.length 30)).length (c - 0)) (y_cut (d := labTy) (l := l) (l2 := l.take (min l.length 30)) 0 (min l.length 30) c (by simp) rfl rfl .no (.at (min l.length 30) rfl (rfl)) .no (by simp) Tryd.underlying34 (by kernel_rfl) (by kernel_rfl) (by omega) (by omega) (by omega) (by omega)) rfl rfl rfl ?_)
  refine st rfl (o_y (v := .slice (cutA labTy A 0 c) (l.take (min l.length 30)).length (c - 0)) (y_as rfl) rfl rfl rfl ?_)
  refine s_nil ?_
  refine q_then ?_
  refine c_seq ?_
  refine c_region ?_
  refine st rfl (o_y (v := .slice (cutA labTy A 0 c) (l.take (min l.length 30)).length (c - 0)) (y_mv rfl) rfl rfl rfl ?_)
  refine st rfl (o_call [] [0, 2, 3, 4, 6, 7, 8, 5, 9, 10] (lPutList_ (cutA labTy A 0 c) (c - 0) (l.take (min l.length 30)) ea em ef el (by assumption) (by assumption) (by assumption) (by first | assumption | (intro x hx; simp only [List.mem_cons, List.not_mem_nil, or_false] at hx; subst hx; assumption) | (intro x hx; simp only [List.mem_cons, List.not_mem_nil, or_false] at hx; rcases hx with rfl | rfl <;> assumption)) (by first | omega | (simp; done) | (simp; omega) | assumption)) rfl rfl rfl rfl rfl rfl (fun v L' I' hq2 => ?_))
  obtain ⟨rfl, rfl, rfl⟩ := hq2
  refine st rfl (o_y (v := .tuple #[.string ((putS (l.take (min l.length 30))).1), .int .i64 ((putS (l.take (min l.length 30))).2)]) (y_mv rfl) rfl rfl rfl ?_)
  refine st rfl (o_y (v := .string ((putS (l.take (min l.length 30))).1)) (y_k rfl rfl (fun _ => by kernel_rfl)) rfl rfl rfl ?_)
  refine st rfl (o_y (v := .int .i64 ((putS (l.take (min l.length 30))).2)) (y_k rfl rfl (fun _ => by kernel_rfl)) rfl rfl rfl ?_)
  refine st rfl (o_y (v := .string ((putS (l.take (min l.length 30))).1)) (y_as rfl) rfl rfl rfl ?_)
  refine st rfl (o_y (v := .int .i64 ((putS (l.take (min l.length 30))).2)) (y_as rfl) rfl rfl rfl ?_)
  refine s_nil ?_
  refine q_then ?_
  refine c_seq ?_
  refine c_region ?_
  refine st rfl (o_y (v := .slice (cutA labTy A 0 c) (l.take (min l.length 30)).length (c - 0)) (y_mv rfl) rfl rfl rfl ?_)
  refine st rfl (o_call [] [0] (rlPutList_ (cutA labTy A 0 c) (c - 0) (l.take (min l.length 30)) (by first | assumption | (intro x hx; simp only [List.mem_cons, List.not_mem_nil, or_false] at hx; subst hx; assumption) | (intro x hx; simp only [List.mem_cons, List.not_mem_nil, or_false] at hx; rcases hx with rfl | rfl <;> assumption)) (by first | omega | (simp; done) | (simp; omega) | assumption)) rfl rfl rfl rfl rfl rfl (fun v L' I' hq3 => ?_))
  obtain ⟨rfl, rfl, rfl⟩ := hq3
  refine st rfl (o_y (v := .tuple #[.string ((putS (l.take (min l.length 30))).1), .int .i64 ((putS (l.take (min l.length 30))).2)]) (y_mv rfl) rfl rfl rfl ?_)
  refine st rfl (o_y (v := .string ((putS (l.take (min l.length 30))).1)) (y_k rfl rfl (fun _ => by kernel_rfl)) rfl rfl rfl ?_)
  refine st rfl (o_y (v := .int .i64 ((putS (l.take (min l.length 30))).2)) (y_k rfl rfl (fun _ => by kernel_rfl)) rfl rfl rfl ?_)
  refine st rfl (o_y (v := .string ((putS (l.take (min l.length 30))).1)) (y_as rfl) rfl rfl rfl ?_)
  refine st rfl (o_y (v := .int .i64 ((putS (l.take (min l.length 30))).2)) (y_as rfl) rfl rfl rfl ?_)
  refine s_nil ?_
  refine q_then ?_
  refine c_seq ?_
  refine c_region ?_
  refine st rfl (o_y (v := .string s) (y_mv rfl) rfl rfl rfl ?_)
  refine st rfl (o_call [] [] (cut_ s (by omega)) rfl rfl rfl rfl rfl rfl (fun v L' I' hq4 => ?_))
  obtain ⟨rfl, rfl, rfl⟩ := hq4
  refine st rfl (o_call [] [2, 3, 4, 6, 7, 8, 5, 9, 10] (lGetList_ (cutS s) ea em ef el (by assumption) (by assumption) (by assumption) (by first | omega | (rw [ByteArray.size_append]; omega) | decide | assumption)) rfl rfl rfl rfl rfl rfl (fun v L' I' hq5 => ?_))
  obtain ⟨A1, c1, rfl, rfl, rfl⟩ := hq5
  refine st rfl (o_y (v := .tuple #[.slice A1 ((glR (cutS s)).1).length c1, .int .i64 ((glR (cutS s)).2)]) (y_mv rfl) rfl rfl rfl ?_)
  refine st rfl (o_y (v := .slice A1 ((glR (cutS s)).1).length c1) (y_k rfl rfl (fun _ => by kernel_rfl)) rfl rfl rfl ?_)
  refine st rfl (o_y (v := .int .i64 ((glR (cutS s)).2)) (y_k rfl rfl (fun _ => by kernel_rfl)) rfl rfl rfl ?_)
  refine st rfl (o_y (v := .slice A1 ((glR (cutS s)).1).length c1) (y_as rfl) rfl rfl rfl ?_)
  refine st rfl (o_y (v := .int .i64 ((glR (cutS s)).2)) (y_as rfl) rfl rfl rfl ?_)
  refine s_nil ?_
  refine q_then ?_
  refine c_seq ?_
  refine c_region ?_
  refine st rfl (o_y (v := .string s) (y_mv rfl) rfl rfl rfl ?_)
  refine st rfl (o_call [] [] (cut_ s (by omega)) rfl rfl rfl rfl rfl rfl (fun v L' I' hq6 => ?_))
  obtain ⟨rfl, rfl, rfl⟩ := hq6
  refine st rfl (o_call [] [] (rlGetList_ (cutS s) (by first | omega | (rw [ByteArray.size_append]; omega) | decide | assumption)) rfl rfl rfl rfl rfl rfl (fun v L' I' hq7 => ?_))
  obtain ⟨A2, c2, rfl, rfl, rfl⟩ := hq7
  refine st rfl (o_y (v := .tuple #[.slice A2 ((glR (cutS s)).1).length c2, .int .i64 ((glR (cutS s)).2)]) (y_mv rfl) rfl rfl rfl ?_)
  refine st rfl (o_y (v := .slice A2 ((glR (cutS s)).1).length c2) (y_k rfl rfl (fun _ => by kernel_rfl)) rfl rfl rfl ?_)
  refine st rfl (o_y (v := .int .i64 ((glR (cutS s)).2)) (y_k rfl rfl (fun _ => by kernel_rfl)) rfl rfl rfl ?_)
  refine st rfl (o_y (v := .slice A2 ((glR (cutS s)).1).length c2) (y_as rfl) rfl rfl rfl ?_)
  refine st rfl (o_y (v := .int .i64 ((glR (cutS s)).2)) (y_as rfl) rfl rfl rfl ?_)
  refine s_nil ?_
  refine q_then ?_
  refine c_seq ?_
  refine c_region ?_
  refine st rfl (o_y (v := .bool true) (y_mv rfl) rfl rfl rfl ?_)
  refine st rfl (o_y (v := .bool true) (y_mv rfl) rfl rfl rfl ?_)
  refine st_on 43 rfl rfl rfl (o_y (v := .string ((putS (l.take (min l.length 30))).1)) (y_mv rfl) rfl rfl rfl ?_)
  refine st_on 43 rfl rfl rfl (o_y (v := .string ((putS (l.take (min l.length 30))).1)) (y_mv rfl) rfl rfl rfl ?_)
  have h67 : (putS (l.take (min l.length 30))).1 = (putS (l.take (min l.length 30))).1 := rfl
  refine st_on 43 rfl rfl rfl (o_y (v := .bool true) (y_b (y_k (v := .bool (((putS (l.take (min l.length 30))).1).toList == ((putS (l.take (min l.length 30))).1).toList)) rfl rfl (fun _ => by kernel_rfl)) (str_t h67)) rfl rfl rfl ?_)
  refine st rfl (o_y (v := .bool true) (y_pick rfl rfl) rfl rfl rfl ?_)
  refine st rfl (o_y (v := .bool true) (y_mv rfl) rfl rfl rfl ?_)
  refine st_on 48 rfl rfl rfl (o_y (v := .int .i64 ((putS (l.take (min l.length 30))).2)) (y_mv rfl) rfl rfl rfl ?_)
  refine st_on 48 rfl rfl rfl (o_y (v := .int .i64 ((putS (l.take (min l.length 30))).2)) (y_mv rfl) rfl rfl rfl ?_)
  have h68 : (putS (l.take (min l.length 30))).2 = (putS (l.take (min l.length 30))).2 := rfl
  refine st_on 48 rfl rfl rfl (o_y (v := .bool true) (y_t (y_k (v := .bool (decide ((putS (l.take (min l.length 30))).2 = (putS (l.take (min l.length 30))).2))) rfl rfl (fun _ => by kernel_rfl)) h68) rfl rfl rfl ?_)
  refine st rfl (o_y (v := .bool true) (y_pick rfl rfl) rfl rfl rfl ?_)
  refine st rfl (o_y (v := .bool true) (y_mv rfl) rfl rfl rfl ?_)
  refine st_on 53 rfl rfl rfl (o_y (v := .slice A1 ((glR (cutS s)).1).length c1) (y_mv rfl) rfl rfl rfl ?_)
  refine st_on 53 rfl rfl rfl (o_y (v := .slice A2 ((glR (cutS s)).1).length c2) (y_mv rfl) rfl rfl rfl ?_)
  refine st_on 53 rfl rfl rfl (o_lend [1, 0] [] [] (rLabels_ A1 c1 ((glR (cutS s)).1) A2 c2 ((glR (cutS s)).1) (by first | omega | assumption)) (.cons lend_win (.cons lend_win .nil)) rfl rfl rfl rfl rfl rfl rfl rfl (fun v L' I' hq8 => ?_))
  obtain ⟨hv1, rfl, rfl⟩ := hq8
  refine ⟨rfl, ?_⟩
  obtain rfl : v = .bool true := by rw [hv1, decide_eq_true (show ((glR (cutS s)).1) = ((glR (cutS s)).1) from rfl)]
  refine st rfl (o_y (v := .bool true) (y_pick rfl rfl) rfl rfl rfl ?_)
  refine st rfl (o_y (v := .bool true) (y_mv rfl) rfl rfl rfl ?_)
  refine st_on 58 rfl rfl rfl (o_y (v := .int .i64 ((glR (cutS s)).2)) (y_mv rfl) rfl rfl rfl ?_)
  refine st_on 58 rfl rfl rfl (o_y (v := .int .i64 ((glR (cutS s)).2)) (y_mv rfl) rfl rfl rfl ?_)
  have h69 : (glR (cutS s)).2 = (glR (cutS s)).2 := rfl
  refine st_on 58 rfl rfl rfl (o_y (v := .bool true) (y_t (y_k (v := .bool (decide ((glR (cutS s)).2 = (glR (cutS s)).2))) rfl rfl (fun _ => by kernel_rfl)) h69) rfl rfl rfl ?_)
  refine st rfl (o_y (v := .bool true) (y_pick rfl rfl) rfl rfl rfl ?_)
  refine st rfl (o_y (v := .bool true) (y_as rfl) rfl rfl rfl ?_)
  refine s_nil ?_
  refine q_then ?_
  refine c_ret ?_
  refine c_fin (I' := []) [] [1, 2, 3, 4, 5, 6, 7, 8, 9, 10] rfl (.tmp rfl .nil) rfl rfl rfl ?_
  exact ⟨rfl, rfl, rfl⟩
end Go.Proofs.YthoefkpbijcdeaaDoor
