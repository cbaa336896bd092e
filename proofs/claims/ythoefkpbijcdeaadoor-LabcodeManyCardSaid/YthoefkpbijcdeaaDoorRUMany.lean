/- The laws of chapter 4 (labcode), walked over the given program; no condition but what stands in each theorem: part UMany. -/
import Derived.Test.YthoefkpbijcdeaaDoorRLI
import Derived.Test.YthoefkpbijcdeaaDoorRLM
import Derived.Test.YthoefkpbijcdeaaDoorRLNa
set_option linter.unusedVariables false
set_option linter.unusedSimpArgs false
set_option maxRecDepth 100000
set_option maxHeartbeats 8000000
namespace Go.Proofs.YthoefkpbijcdeaaDoor
open Go Go.Sl Go.RowKit Go.Extern.Stop Go.Stop Go.Extern
theorem LabcodeMany_ (ea : Addr) (em : Addr) (ef : Addr) (el : Addr) (h12 : ea ≠ em) (h13 : ea ≠ ef) (h23 : em ≠ ef) (A : Option Addr) (c : Nat) (l : List Lab) (s : ByteArray) (h64 : ∀ x ∈ l, lab64 x) (zs : s.size ≤ 9223372036854775807) : Con Tryd.prog 5 [.slice A l.length c, .string s] [] [rd labTy A c l, cellsAt 1 0 [.iface 141 (.pointer (some ea))], cellsAt 3 0 [.iface 141 (.pointer (some em))], cellsAt 4 0 [.iface 141 (.pointer (some ef))], cellsAt 0 0 [.iface 141 (.pointer (some el))], errAt ea, errAt em, errAt ef, errAt el, cellsAt 2 0 [.iface 122 (.agg #[.pointer (some ⟨5, 46, none⟩)])]] (fun v L' I' => v = .bool true ∧ L' = [] ∧ I' = []) := by
  have cs := cutS_size s
  have k1 : (l.take (min l.length 30)).length ≤ 30 := by rw [List.length_take]; omega
  have k2 : ∀ x ∈ (l.take (min l.length 30)), lab64 x := take_64 h64
  have k3 := putS_size k2
  have q1 := glR_len (cutS s)
  have q2 := glR_64 (cutS s)
  have q3 := putS_size q2
  have q4 := glR_len (putS (l.take (min l.length 30))).1
  refine fn_of Tryd.func5 rfl Tryd.ntmps5 (by kernel_rfl) rfl (fun C => ?_)
  refine c_seq ?_
  refine c_region ?_
  refine st rfl (o_y (v := .bool false) (y_as rfl) rfl rfl rfl ?_)
  refine s_nil ?_
  refine q_then ?_
  refine c_seq ?_
  refine c_region ?_
  refine st rfl (o_call [] [1, 2, 3, 4, 5, 6, 7, 8, 9] (shown_ ea em ef el (by assumption) (by assumption) (by assumption)) rfl rfl rfl rfl rfl rfl (fun v L' I' hq1 => ?_))
  obtain ⟨rfl, rfl, rfl⟩ := hq1
  refine st rfl (o_y (v := .bool true) (y_as rfl) rfl rfl rfl ?_)
  refine s_nil ?_
  refine q_then ?_
  refine c_seq ?_
  refine c_region ?_
  refine st rfl (o_y (v := .slice A l.length c) (y_mv rfl) rfl rfl rfl ?_)
  refine st rfl (o_y (v := .slice A l.length c) (y_mv rfl) rfl rfl rfl ?_)
  refine st rfl (o_y (v := .int .i64 (l.length : Int)) (y_k rfl rfl (fun _ => by kernel_rfl)) rfl rfl rfl ?_)
  refine st rfl (o_y (v := .int .i64 ((min l.length 30 : Nat) : Int)) (y_min2 l.length 30 rfl rfl) rfl rfl rfl ?_)
  refine e_len 0 rfl (fun h65 h66 => ?_)
  refine e_cut2 (l2 := l.take (min l.length 30)) 0 0 (min l.length 30) c (by simp) rfl (by omega) (by omega) (by omega) ?_
  refine st rfl (o_y (v := .slice (cutA labTy A 0 c) (l.take (min l.length 30)).length (c - 0)) (y_cut (d := labTy) (l := l) (l2 := l.take (min l.length 30)) 0 (min l.length 30) c (by simp) rfl rfl .no (.at (min l.length 30) rfl (rfl)) .no (by simp) Tryd.underlying34 (by kernel_rfl) (by kernel_rfl) (by omega) (by omega) (by omega) (by omega)) rfl rfl rfl ?_)
  refine st rfl (o_y (v := .slice (cutA labTy A 0 c) (l.take (min l.length 30)).length (c - 0)) (y_as rfl) rfl rfl rfl ?_)
  refine s_nil ?_
  refine q_then ?_
  refine c_seq ?_
  refine c_region ?_
  refine st rfl (o_y (v := .slice (cutA labTy A 0 c) (l.take (min l.length 30)).length (c - 0)) (y_mv rfl) rfl rfl rfl ?_)
  refine st rfl (o_call [] [0, 2, 3, 4, 6, 7, 8, 5, 9, 10] (lPutList_ (cutA labTy A 0 c) (c - 0) (l.take (min l.length 30)) ea em ef el (by assumption) (by assumption) (by assumption) (by first | assumption | (intro x hx; simp only [List.mem_cons, List.not_mem_nil, or_false] at hx; subst hx; assumption) | (intro x hx; simp only [List.mem_cons, List.not_mem_nil, or_false] at hx; rcases hx with rfl | rfl <;> assumption)) (by first | omega | (simp; done) | (simp; omega) | assumption)) rfl rfl rfl rfl rfl rfl (fun v L' I' hq2 => ?_))
  obtain ⟨rfl, rfl, rfl⟩ := hq2
  refine st rfl (o_y (v := .tuple #[.string ((putS (l.take (min l.length 30))).1), .int .i64 ((putS (l.take (min l.length 30))).2)]) (y_mv rfl) rfl rfl rfl ?_)
  refine st rfl (o_y (v := .string ((putS (l.take (min l.length 30))).1)) (y_k rfl rfl (fun _ => by kernel_rfl)) rfl rfl rfl ?_)
  refine st rfl (o_y (v := .int .i64 ((putS (l.take (min l.length 30))).2)) (y_k rfl rfl (fun _ => by kernel_rfl)) rfl rfl rfl ?_)
  refine st rfl (o_y (v := .string ((putS (l.take (min l.length 30))).1)) (y_as rfl) rfl rfl rfl ?_)
  refine st rfl (o_y (v := .int .i64 ((putS (l.take (min l.length 30))).2)) (y_as rfl) rfl rfl rfl ?_)
  refine s_nil ?_
  refine q_then ?_
  refine c_seq ?_
  refine c_region ?_
  refine st rfl (o_y (v := .string ((putS (l.take (min l.length 30))).1)) (y_mv rfl) rfl rfl rfl ?_)
  refine st rfl (o_call [] [2, 3, 4, 6, 7, 8, 5, 9, 10] (lGetList_ ((putS (l.take (min l.length 30))).1) ea em ef el (by assumption) (by assumption) (by assumption) (by first | omega | (rw [ByteArray.size_append]; omega) | decide | assumption)) rfl rfl rfl rfl rfl rfl (fun v L' I' hq3 => ?_))
  obtain ⟨A1, c1, rfl, rfl, rfl⟩ := hq3
  refine st rfl (o_y (v := .tuple #[.slice A1 ((glR ((putS (l.take (min l.length 30))).1)).1).length c1, .int .i64 ((glR ((putS (l.take (min l.length 30))).1)).2)]) (y_mv rfl) rfl rfl rfl ?_)
  refine st rfl (o_y (v := .slice A1 ((glR ((putS (l.take (min l.length 30))).1)).1).length c1) (y_k rfl rfl (fun _ => by kernel_rfl)) rfl rfl rfl ?_)
  refine st rfl (o_y (v := .int .i64 ((glR ((putS (l.take (min l.length 30))).1)).2)) (y_k rfl rfl (fun _ => by kernel_rfl)) rfl rfl rfl ?_)
  refine st rfl (o_y (v := .slice A1 ((glR ((putS (l.take (min l.length 30))).1)).1).length c1) (y_as rfl) rfl rfl rfl ?_)
  refine st rfl (o_y (v := .int .i64 ((glR ((putS (l.take (min l.length 30))).1)).2)) (y_as rfl) rfl rfl rfl ?_)
  refine s_nil ?_
  refine q_then ?_
  refine c_seq ?_
  refine c_seq ?_
  refine c_region ?_
  refine st rfl (o_y (v := .int .i64 ((putS (l.take (min l.length 30))).2)) (y_mv rfl) rfl rfl rfl ?_)
  refine e_by ((putS (l.take (min l.length 30))).2 = 0) (fun h67 => ?_) (fun h67 => ?_)
  ·
    refine st rfl (o_y (v := .bool true) (y_t (y_k (v := .bool (decide ((putS (l.take (min l.length 30))).2 = 0))) rfl rfl (fun _ => by kernel_rfl)) h67) rfl rfl rfl ?_)
    refine st rfl (o_y (v := .bool true) (y_mv rfl) rfl rfl rfl ?_)
    refine st_on 32 rfl rfl rfl (o_y (v := .int .i64 ((glR ((putS (l.take (min l.length 30))).1)).2)) (y_mv rfl) rfl rfl rfl ?_)
    have h68 : (glR ((putS (l.take (min l.length 30))).1)).2 = 0 := by rw [many_1 h67 k2]
    refine st_on 32 rfl rfl rfl (o_y (v := .bool false) (y_nt (y_k (v := .bool (!decide ((glR ((putS (l.take (min l.length 30))).1)).2 = 0))) rfl rfl (fun _ => by kernel_rfl)) h68) rfl rfl rfl ?_)
    refine st_on 32 rfl rfl rfl (o_y (v := .bool false) (y_mv rfl) rfl rfl rfl ?_)
    refine st_on 35 rfl rfl rfl (o_y (v := .slice (cutA labTy A 0 c) (l.take (min l.length 30)).length (c - 0)) (y_mv rfl) rfl rfl rfl ?_)
    refine st_on 35 rfl rfl rfl (o_y (v := .slice A1 ((glR ((putS (l.take (min l.length 30))).1)).1).length c1) (y_mv rfl) rfl rfl rfl ?_)
    refine st_on 35 rfl rfl rfl (o_lend [0] [] [0] (Con.wide (I2 := [rd labTy A1 c1 ((glR ((putS (l.take (min l.length 30))).1)).1), rd labTy (cutA labTy A 0 c) (c - 0) (l.take (min l.length 30))]) (rLabels_ (cutA labTy A 0 c) (c - 0) (l.take (min l.length 30)) A1 c1 ((glR ((putS (l.take (min l.length 30))).1)).1) (by first | omega | assumption)) (by intro φ h; simp only [List.mem_cons, List.not_mem_nil, or_false] at h ⊢; grind)) (.cons lend_win .nil) rfl rfl rfl rfl rfl rfl rfl rfl (fun v L' I' hq4 => ?_))
    obtain ⟨hv1, rfl, rfl⟩ := hq4
    refine ⟨rfl, ?_⟩
    obtain rfl : v = .bool true := by rw [hv1, decide_eq_true (show (l.take (min l.length 30)) = ((glR ((putS (l.take (min l.length 30))).1)).1) from by rw [many_1 h67 k2])]
    refine st_on 35 rfl rfl rfl (o_y (v := .bool false) (y_k rfl rfl (fun _ => by kernel_rfl)) rfl rfl rfl ?_)
    refine st_on 32 rfl rfl rfl (o_y (v := .bool false) (y_pick rfl rfl) rfl rfl rfl ?_)
    refine st_on 32 rfl rfl rfl (o_y (v := .bool false) (y_mv rfl) rfl rfl rfl ?_)
    refine st_on 41 rfl rfl rfl (o_y (v := .string ((putS (l.take (min l.length 30))).1)) (y_mv rfl) rfl rfl rfl ?_)
    refine st_on 41 rfl rfl rfl (o_y (v := .int .i64 (((putS (l.take (min l.length 30))).1).size : Int)) (y_k rfl rfl (fun _ => by kernel_rfl)) rfl rfl rfl ?_)
    refine st_on 41 rfl rfl rfl (o_y (v := .slice (cutA labTy A 0 c) (l.take (min l.length 30)).length (c - 0)) (y_mv rfl) rfl rfl rfl ?_)
    refine st_on 41 rfl rfl rfl (o_y (v := .int .i64 ((l.take (min l.length 30)).length : Int)) (y_k rfl rfl (fun _ => by kernel_rfl)) rfl rfl rfl ?_)
    refine st_on 41 rfl rfl rfl (o_y (v := .int .i64 (10 * ((l.take (min l.length 30)).length : Int))) (y_mul (r := 10 * ((l.take (min l.length 30)).length : Int)) rfl rfl rfl (by omega)) rfl rfl rfl ?_)
    have h69 : (((putS (l.take (min l.length 30))).1).size : Int) = 10 * ((l.take (min l.length 30)).length : Int) := putS_len h67 k2
    refine st_on 41 rfl rfl rfl (o_y (v := .bool false) (y_nt (y_k (v := .bool (!decide ((((putS (l.take (min l.length 30))).1).size : Int) = 10 * ((l.take (min l.length 30)).length : Int)))) rfl rfl (fun _ => by kernel_rfl)) h69) rfl rfl rfl ?_)
    refine st_on 32 rfl rfl rfl (o_y (v := .bool false) (y_pick rfl rfl) rfl rfl rfl ?_)
    refine st rfl (o_y (v := .bool false) (y_pick rfl rfl) rfl rfl rfl ?_)
    refine s_nil ?_
    refine q_then ?_
    refine c_false rfl ?_
    refine c_skip ?_
    refine q_then ?_
    refine c_seq ?_
    refine c_region ?_
    refine st rfl (o_y (v := .string s) (y_mv rfl) rfl rfl rfl ?_)
    refine st rfl (o_call [] [] (cut_ s (by omega)) rfl rfl rfl rfl rfl rfl (fun v L' I' hq5 => ?_))
    obtain ⟨rfl, rfl, rfl⟩ := hq5
    refine st rfl (o_call [] [2, 3, 4, 6, 7, 8, 5, 9, 10] (lGetList_ (cutS s) ea em ef el (by assumption) (by assumption) (by assumption) (by first | omega | (rw [ByteArray.size_append]; omega) | decide | assumption)) rfl rfl rfl rfl rfl rfl (fun v L' I' hq6 => ?_))
    obtain ⟨A2, c2, rfl, rfl, rfl⟩ := hq6
    refine st rfl (o_y (v := .tuple #[.slice A2 ((glR (cutS s)).1).length c2, .int .i64 ((glR (cutS s)).2)]) (y_mv rfl) rfl rfl rfl ?_)
    refine st rfl (o_y (v := .slice A2 ((glR (cutS s)).1).length c2) (y_k rfl rfl (fun _ => by kernel_rfl)) rfl rfl rfl ?_)
    refine st rfl (o_y (v := .int .i64 ((glR (cutS s)).2)) (y_k rfl rfl (fun _ => by kernel_rfl)) rfl rfl rfl ?_)
    refine st rfl (o_y (v := .slice A2 ((glR (cutS s)).1).length c2) (y_as rfl) rfl rfl rfl ?_)
    refine st rfl (o_y (v := .int .i64 ((glR (cutS s)).2)) (y_as rfl) rfl rfl rfl ?_)
    refine s_nil ?_
    refine q_then ?_
    refine c_seq ?_
    refine c_region ?_
    refine st rfl (o_y (v := .slice A2 ((glR (cutS s)).1).length c2) (y_mv rfl) rfl rfl rfl ?_)
    refine st rfl (o_lend [0] [] [2, 3, 4, 6, 7, 8, 5, 9, 10] (lPutList_ A2 c2 ((glR (cutS s)).1) ea em ef el (by assumption) (by assumption) (by assumption) (by first | assumption | (intro x hx; simp only [List.mem_cons, List.not_mem_nil, or_false] at hx; subst hx; assumption) | (intro x hx; simp only [List.mem_cons, List.not_mem_nil, or_false] at hx; rcases hx with rfl | rfl <;> assumption)) (by first | omega | (simp; done) | (simp; omega) | assumption)) (.cons lend_win .nil) rfl rfl rfl rfl rfl rfl rfl rfl (fun v L' I' hq7 => ?_))
    obtain ⟨rfl, rfl, rfl⟩ := hq7
    refine ⟨rfl, ?_⟩
    refine st rfl (o_y (v := .tuple #[.string ((putS ((glR (cutS s)).1)).1), .int .i64 ((putS ((glR (cutS s)).1)).2)]) (y_mv rfl) rfl rfl rfl ?_)
    refine st rfl (o_y (v := .string ((putS ((glR (cutS s)).1)).1)) (y_k rfl rfl (fun _ => by kernel_rfl)) rfl rfl rfl ?_)
    refine st rfl (o_y (v := .int .i64 ((putS ((glR (cutS s)).1)).2)) (y_k rfl rfl (fun _ => by kernel_rfl)) rfl rfl rfl ?_)
    refine st rfl (o_y (v := .string ((putS ((glR (cutS s)).1)).1)) (y_as rfl) rfl rfl rfl ?_)
    refine st rfl (o_y (v := .int .i64 ((putS ((glR (cutS s)).1)).2)) (y_as rfl) rfl rfl rfl ?_)
    refine s_nil ?_
    refine q_then ?_
    refine c_seq ?_
    refine c_region ?_
    refine st rfl (o_y (v := .bool true) (y_mv rfl) rfl rfl rfl ?_)
    refine st rfl (o_y (v := .bool true) (y_mv rfl) rfl rfl rfl ?_)
    refine st_on 62 rfl rfl rfl (o_y (v := .int .i64 ((putS (l.take (min l.length 30))).2)) (y_mv rfl) rfl rfl rfl ?_)
    have h70 : (putS (l.take (min l.length 30))).2 = 0 := h67
    refine st_on 62 rfl rfl rfl (o_y (v := .bool true) (y_t (y_k (v := .bool (decide ((putS (l.take (min l.length 30))).2 = 0))) rfl rfl (fun _ => by kernel_rfl)) h70) rfl rfl rfl ?_)
    refine st_on 62 rfl rfl rfl (o_y (v := .bool true) (y_mv rfl) rfl rfl rfl ?_)
    refine st_off 65 rfl rfl rfl rfl rfl rfl ?_
    refine st_off 65 rfl rfl rfl rfl rfl rfl ?_
    refine st_on 62 rfl rfl rfl (o_y (v := .bool true) (y_pick rfl rfl) rfl rfl rfl ?_)
    refine st rfl (o_y (v := .bool true) (y_pick rfl rfl) rfl rfl rfl ?_)
    refine st rfl (o_y (v := .bool true) (y_mv rfl) rfl rfl rfl ?_)
    refine st_on 70 rfl rfl rfl (o_y (v := .int .i64 ((glR (cutS s)).2)) (y_mv rfl) rfl rfl rfl ?_)
    refine e_by ((glR (cutS s)).2 = 0) (fun h71 => ?_) (fun h71 => ?_)
    ·
      refine st_on 70 rfl rfl rfl (o_y (v := .bool false) (y_nt (y_k (v := .bool (!decide ((glR (cutS s)).2 = 0))) rfl rfl (fun _ => by kernel_rfl)) h71) rfl rfl rfl ?_)
      refine st_on 70 rfl rfl rfl (o_y (v := .bool false) (y_mv rfl) rfl rfl rfl ?_)
      refine st_on 73 rfl rfl rfl (o_y (v := .int .i64 ((putS ((glR (cutS s)).1)).2)) (y_mv rfl) rfl rfl rfl ?_)
      have h72 : (putS ((glR (cutS s)).1)).2 = 0 := by rw [glR_back h71]
      refine st_on 73 rfl rfl rfl (o_y (v := .bool true) (y_t (y_k (v := .bool (decide ((putS ((glR (cutS s)).1)).2 = 0))) rfl rfl (fun _ => by kernel_rfl)) h72) rfl rfl rfl ?_)
      refine st_on 73 rfl rfl rfl (o_y (v := .bool true) (y_mv rfl) rfl rfl rfl ?_)
      refine st_on 76 rfl rfl rfl (o_y (v := .string ((putS ((glR (cutS s)).1)).1)) (y_mv rfl) rfl rfl rfl ?_)
      refine st_on 76 rfl rfl rfl (o_y (v := .string s) (y_mv rfl) rfl rfl rfl ?_)
      refine st_on 76 rfl rfl rfl (o_call [] [] (cut_ s (by omega)) rfl rfl rfl rfl rfl rfl (fun v L' I' hq8 => ?_))
      obtain ⟨rfl, rfl, rfl⟩ := hq8
      have h73 : (putS ((glR (cutS s)).1)).1 = cutS s := by rw [glR_back h71]
      refine st_on 76 rfl rfl rfl (o_y (v := .bool true) (y_b (y_k (v := .bool (((putS ((glR (cutS s)).1)).1).toList == (cutS s).toList)) rfl rfl (fun _ => by kernel_rfl)) (str_t h73)) rfl rfl rfl ?_)
      refine st_on 73 rfl rfl rfl (o_y (v := .bool true) (y_pick rfl rfl) rfl rfl rfl ?_)
      refine st_on 70 rfl rfl rfl (o_y (v := .bool true) (y_pick rfl rfl) rfl rfl rfl ?_)
      refine st rfl (o_y (v := .bool true) (y_pick rfl rfl) rfl rfl rfl ?_)
      refine st rfl (o_y (v := .bool true) (y_as rfl) rfl rfl rfl ?_)
      refine s_nil ?_
      refine q_then ?_
      refine c_ret ?_
      refine c_fin (I' := []) [] [1, 2, 3, 4, 5, 6, 7, 8, 9, 10] rfl (.tmp rfl .nil) rfl rfl rfl ?_
      exact ⟨rfl, rfl, rfl⟩
    ·
      refine st_on 70 rfl rfl rfl (o_y (v := .bool true) (y_nf (y_k (v := .bool (!decide ((glR (cutS s)).2 = 0))) rfl rfl (fun _ => by kernel_rfl)) h71) rfl rfl rfl ?_)
      refine st_on 70 rfl rfl rfl (o_y (v := .bool true) (y_mv rfl) rfl rfl rfl ?_)
      refine st_off 73 rfl rfl rfl rfl rfl rfl ?_
      refine st_off 73 rfl rfl rfl rfl rfl rfl ?_
      refine st_off 73 rfl rfl rfl rfl rfl rfl ?_
      refine st_offu 76 rfl rfl rfl rfl rfl ?_
      refine st_offu 76 rfl rfl rfl rfl rfl ?_
      refine st_offu 76 rfl rfl rfl rfl rfl ?_
      refine st_offu 76 rfl rfl rfl rfl rfl ?_
      refine st_off 73 rfl rfl rfl rfl rfl rfl ?_
      refine st_on 70 rfl rfl rfl (o_y (v := .bool true) (y_pick rfl rfl) rfl rfl rfl ?_)
      refine st rfl (o_y (v := .bool true) (y_pick rfl rfl) rfl rfl rfl ?_)
      refine st rfl (o_y (v := .bool true) (y_as rfl) rfl rfl rfl ?_)
      refine s_nil ?_
      refine q_then ?_
      refine c_ret ?_
      refine c_fin (I' := []) [] [1, 2, 3, 4, 5, 6, 7, 8, 9, 10] rfl (.tmp rfl .nil) rfl rfl rfl ?_
      exact ⟨rfl, rfl, rfl⟩
  ·
    refine st rfl (o_y (v := .bool false) (y_f (y_k (v := .bool (decide ((putS (l.take (min l.length 30))).2 = 0))) rfl rfl (fun _ => by kernel_rfl)) h67) rfl rfl rfl ?_)
    refine st rfl (o_y (v := .bool false) (y_mv rfl) rfl rfl rfl ?_)
    refine st_off 32 rfl rfl rfl rfl rfl rfl ?_
    refine st_off 32 rfl rfl rfl rfl rfl rfl ?_
    refine st_off 32 rfl rfl rfl rfl rfl rfl ?_
    refine st_offu 35 rfl rfl rfl rfl rfl ?_
    refine st_offu 35 rfl rfl rfl rfl rfl ?_
    refine st_offu 35 rfl rfl rfl rfl rfl ?_
    refine st_offu 35 rfl rfl rfl rfl rfl ?_
    refine st_off 32 rfl rfl rfl rfl rfl rfl ?_
    refine st_off 32 rfl rfl rfl rfl rfl rfl ?_
    refine st_offu 41 rfl rfl rfl rfl rfl ?_
    refine st_offu 41 rfl rfl rfl rfl rfl ?_
    refine st_offu 41 rfl rfl rfl rfl rfl ?_
    refine st_offu 41 rfl rfl rfl rfl rfl ?_
    refine st_offu 41 rfl rfl rfl rfl rfl ?_
    refine st_offu 41 rfl rfl rfl rfl rfl ?_
    refine st_off 32 rfl rfl rfl rfl rfl rfl ?_
    refine st rfl (o_y (v := .bool false) (y_pick rfl rfl) rfl rfl rfl ?_)
    refine s_nil ?_
    refine q_then ?_
    refine c_false rfl ?_
    refine c_skip ?_
    refine q_then ?_
    refine c_seq ?_
    refine c_region ?_
    refine st rfl (o_y (v := .string s) (y_mv rfl) rfl rfl rfl ?_)
    refine st rfl (o_call [] [] (cut_ s (by omega)) rfl rfl rfl rfl rfl rfl (fun v L' I' hq9 => ?_))
    obtain ⟨rfl, rfl, rfl⟩ := hq9
    refine st rfl (o_call [] [2, 3, 4, 6, 7, 8, 5, 9, 10] (lGetList_ (cutS s) ea em ef el (by assumption) (by assumption) (by assumption) (by first | omega | (rw [ByteArray.size_append]; omega) | decide | assumption)) rfl rfl rfl rfl rfl rfl (fun v L' I' hq10 => ?_))
    obtain ⟨A3, c3, rfl, rfl, rfl⟩ := hq10
    refine st rfl (o_y (v := .tuple #[.slice A3 ((glR (cutS s)).1).length c3, .int .i64 ((glR (cutS s)).2)]) (y_mv rfl) rfl rfl rfl ?_)
    refine st rfl (o_y (v := .slice A3 ((glR (cutS s)).1).length c3) (y_k rfl rfl (fun _ => by kernel_rfl)) rfl rfl rfl ?_)
    refine st rfl (o_y (v := .int .i64 ((glR (cutS s)).2)) (y_k rfl rfl (fun _ => by kernel_rfl)) rfl rfl rfl ?_)
    refine st rfl (o_y (v := .slice A3 ((glR (cutS s)).1).length c3) (y_as rfl) rfl rfl rfl ?_)
    refine st rfl (o_y (v := .int .i64 ((glR (cutS s)).2)) (y_as rfl) rfl rfl rfl ?_)
    refine s_nil ?_
    refine q_then ?_
    refine c_seq ?_
    refine c_region ?_
    refine st rfl (o_y (v := .slice A3 ((glR (cutS s)).1).length c3) (y_mv rfl) rfl rfl rfl ?_)
    refine st rfl (o_lend [0] [] [2, 3, 4, 6, 7, 8, 5, 9, 10] (lPutList_ A3 c3 ((glR (cutS s)).1) ea em ef el (by assumption) (by assumption) (by assumption) (by first | assumption | (intro x hx; simp only [List.mem_cons, List.not_mem_nil, or_false] at hx; subst hx; assumption) | (intro x hx; simp only [List.mem_cons, List.not_mem_nil, or_false] at hx; rcases hx with rfl | rfl <;> assumption)) (by first | omega | (simp; done) | (simp; omega) | assumption)) (.cons lend_win .nil) rfl rfl rfl rfl rfl rfl rfl rfl (fun v L' I' hq11 => ?_))
    obtain ⟨rfl, rfl, rfl⟩ := hq11
    refine ⟨rfl, ?_⟩
    refine st rfl (o_y (v := .tuple #[.string ((putS ((glR (cutS s)).1)).1), .int .i64 ((putS ((glR (cutS s)).1)).2)]) (y_mv rfl) rfl rfl rfl ?_)
    refine st rfl (o_y (v := .string ((putS ((glR (cutS s)).1)).1)) (y_k rfl rfl (fun _ => by kernel_rfl)) rfl rfl rfl ?_)
    refine st rfl (o_y (v := .int .i64 ((putS ((glR (cutS s)).1)).2)) (y_k rfl rfl (fun _ => by kernel_rfl)) rfl rfl rfl ?_)
    refine st rfl (o_y (v := .string ((putS ((glR (cutS s)).1)).1)) (y_as rfl) rfl rfl rfl ?_)
    refine st rfl (o_y (v := .int .i64 ((putS ((glR (cutS s)).1)).2)) (y_as rfl) rfl rfl rfl ?_)
    refine s_nil ?_
    refine q_then ?_
    refine c_seq ?_
    refine c_region ?_
    refine st rfl (o_y (v := .bool true) (y_mv rfl) rfl rfl rfl ?_)
    refine st rfl (o_y (v := .bool true) (y_mv rfl) rfl rfl rfl ?_)
    refine st_on 62 rfl rfl rfl (o_y (v := .int .i64 ((putS (l.take (min l.length 30))).2)) (y_mv rfl) rfl rfl rfl ?_)
    have h74 : ¬ ((putS (l.take (min l.length 30))).2 = 0) := h67
    refine st_on 62 rfl rfl rfl (o_y (v := .bool false) (y_f (y_k (v := .bool (decide ((putS (l.take (min l.length 30))).2 = 0))) rfl rfl (fun _ => by kernel_rfl)) h74) rfl rfl rfl ?_)
    refine st_on 62 rfl rfl rfl (o_y (v := .bool false) (y_mv rfl) rfl rfl rfl ?_)
    refine st_on 65 rfl rfl rfl (o_y (v := .string ((putS (l.take (min l.length 30))).1)) (y_mv rfl) rfl rfl rfl ?_)
    have h75 : (putS (l.take (min l.length 30))).1 = (⟨#[]⟩ : ByteArray) := by rw [putS_no h74]
    refine st_on 65 rfl rfl rfl (o_y (v := .bool true) (y_b (y_k (v := .bool (((putS (l.take (min l.length 30))).1).toList == (⟨#[]⟩ : ByteArray).toList)) rfl rfl (fun _ => by kernel_rfl)) (str_t h75)) rfl rfl rfl ?_)
    refine st_on 62 rfl rfl rfl (o_y (v := .bool true) (y_pick rfl rfl) rfl rfl rfl ?_)
    refine st rfl (o_y (v := .bool true) (y_pick rfl rfl) rfl rfl rfl ?_)
    refine st rfl (o_y (v := .bool true) (y_mv rfl) rfl rfl rfl ?_)
    refine st_on 70 rfl rfl rfl (o_y (v := .int .i64 ((glR (cutS s)).2)) (y_mv rfl) rfl rfl rfl ?_)
    refine e_by ((glR (cutS s)).2 = 0) (fun h76 => ?_) (fun h76 => ?_)
    ·
      refine st_on 70 rfl rfl rfl (o_y (v := .bool false) (y_nt (y_k (v := .bool (!decide ((glR (cutS s)).2 = 0))) rfl rfl (fun _ => by kernel_rfl)) h76) rfl rfl rfl ?_)
      refine st_on 70 rfl rfl rfl (o_y (v := .bool false) (y_mv rfl) rfl rfl rfl ?_)
      refine st_on 73 rfl rfl rfl (o_y (v := .int .i64 ((putS ((glR (cutS s)).1)).2)) (y_mv rfl) rfl rfl rfl ?_)
      have h77 : (putS ((glR (cutS s)).1)).2 = 0 := by rw [glR_back h76]
      refine st_on 73 rfl rfl rfl (o_y (v := .bool true) (y_t (y_k (v := .bool (decide ((putS ((glR (cutS s)).1)).2 = 0))) rfl rfl (fun _ => by kernel_rfl)) h77) rfl rfl rfl ?_)
      refine st_on 73 rfl rfl rfl (o_y (v := .bool true) (y_mv rfl) rfl rfl rfl ?_)
      refine st_on 76 rfl rfl rfl (o_y (v := .string ((putS ((glR (cutS s)).1)).1)) (y_mv rfl) rfl rfl rfl ?_)
      refine st_on 76 rfl rfl rfl (o_y (v := .string s) (y_mv rfl) rfl rfl rfl ?_)
      refine st_on 76 rfl rfl rfl (o_call [] [] (cut_ s (by omega)) rfl rfl rfl rfl rfl rfl (fun v L' I' hq12 => ?_))
      obtain ⟨rfl, rfl, rfl⟩ := hq12
      have h78 : (putS ((glR (cutS s)).1)).1 = cutS s := by rw [glR_back h76]
      refine st_on 76 rfl rfl rfl (o_y (v := .bool true) (y_b (y_k (v := .bool (((putS ((glR (cutS s)).1)).1).toList == (cutS s).toList)) rfl rfl (fun _ => by kernel_rfl)) (str_t h78)) rfl rfl rfl ?_)
      refine st_on 73 rfl rfl rfl (o_y (v := .bool true) (y_pick rfl rfl) rfl rfl rfl ?_)
      refine st_on 70 rfl rfl rfl (o_y (v := .bool true) (y_pick rfl rfl) rfl rfl rfl ?_)
      refine st rfl (o_y (v := .bool true) (y_pick rfl rfl) rfl rfl rfl ?_)
      refine st rfl (o_y (v := .bool true) (y_as rfl) rfl rfl rfl ?_)
      refine s_nil ?_
      refine q_then ?_
      refine c_ret ?_
      refine c_fin (I' := []) [] [1, 2, 3, 4, 5, 6, 7, 8, 9, 10] rfl (.tmp rfl .nil) rfl rfl rfl ?_
      exact ⟨rfl, rfl, rfl⟩
    ·
      refine st_on 70 rfl rfl rfl (o_y (v := .bool true) (y_nf (y_k (v := .bool (!decide ((glR (cutS s)).2 = 0))) rfl rfl (fun _ => by kernel_rfl)) h76) rfl rfl rfl ?_)
      refine st_on 70 rfl rfl rfl (o_y (v := .bool true) (y_mv rfl) rfl rfl rfl ?_)
      refine st_off 73 rfl rfl rfl rfl rfl rfl ?_
      refine st_off 73 rfl rfl rfl rfl rfl rfl ?_
      refine st_off 73 rfl rfl rfl rfl rfl rfl ?_
      refine st_offu 76 rfl rfl rfl rfl rfl ?_
      refine st_offu 76 rfl rfl rfl rfl rfl ?_
      refine st_offu 76 rfl rfl rfl rfl rfl ?_
      refine st_offu 76 rfl rfl rfl rfl rfl ?_
      refine st_off 73 rfl rfl rfl rfl rfl rfl ?_
      refine st_on 70 rfl rfl rfl (o_y (v := .bool true) (y_pick rfl rfl) rfl rfl rfl ?_)
      refine st rfl (o_y (v := .bool true) (y_pick rfl rfl) rfl rfl rfl ?_)
      refine st rfl (o_y (v := .bool true) (y_as rfl) rfl rfl rfl ?_)
      refine s_nil ?_
      refine q_then ?_
      refine c_ret ?_
      refine c_fin (I' := []) [] [1, 2, 3, 4, 5, 6, 7, 8, 9, 10] rfl (.tmp rfl .nil) rfl rfl rfl ?_
      exact ⟨rfl, rfl, rfl⟩
end Go.Proofs.YthoefkpbijcdeaaDoor
