/- The laws of chapter 4 (labcode), walked over the given program; no condition but what stands in each theorem: part UJoins. -/
import Derived.Test.YthoefkpbijcdeaaDoorRLI
import Derived.Test.YthoefkpbijcdeaaDoorRLM
import Derived.Test.YthoefkpbijcdeaaDoorRLNa
set_option linter.unusedVariables false
set_option linter.unusedSimpArgs false
set_option maxRecDepth 100000
set_option maxHeartbeats 8000000
namespace Go.Proofs.YthoefkpbijcdeaaDoor
open Go Go.Sl Go.RowKit Go.Extern.Stop Go.Stop Go.Extern
theorem LabcodeJoins_ (ea : Addr) (em : Addr) (ef : Addr) (el : Addr) (h12 : ea ≠ em) (h13 : ea ≠ ef) (h23 : em ≠ ef) (A : Option Addr) (c : Nat) (l : List Lab) (B : Option Addr) (d : Nat) (m : List Lab) (h64 : ∀ x ∈ l, lab64 x) (m64 : ∀ x ∈ m, lab64 x) : Con Tryd.prog 6 [.slice A l.length c, .slice B m.length d] [] [rd labTy A c l, rd labTy B d m, cellsAt 1 0 [.iface 141 (.pointer (some ea))], cellsAt 3 0 [.iface 141 (.pointer (some em))], cellsAt 4 0 [.iface 141 (.pointer (some ef))], cellsAt 0 0 [.iface 141 (.pointer (some el))], errAt ea, errAt em, errAt ef, errAt el, cellsAt 2 0 [.iface 122 (.agg #[.pointer (some ⟨5, 46, none⟩)])]] (fun v L' I' => v = .bool true ∧ L' = [] ∧ I' = []) := by
  have k1 : (l.take (min l.length 30)).length ≤ 30 := by rw [List.length_take]; omega
  have k2 : ∀ x ∈ (l.take (min l.length 30)), lab64 x := take_64 h64
  have k3 := putS_size k2
  have j1 : (m.take (min m.length 30)).length ≤ 30 := by rw [List.length_take]; omega
  have j2 : ∀ x ∈ (m.take (min m.length 30)), lab64 x := take_64 m64
  have j3 := putS_size j2
  have j4 := app_64 k2 j2
  have j5 : ((l.take (min l.length 30)) ++ (m.take (min m.length 30))).length ≤ 60 := by rw [List.length_append]; omega
  have j6 : ((putS (l.take (min l.length 30))).1 ++ (putS (m.take (min m.length 30))).1).size ≤ 600 := by rw [ByteArray.size_append]; omega
  have j7 := glR_len ((putS (l.take (min l.length 30))).1 ++ (putS (m.take (min m.length 30))).1)
  refine fn_of Tryd.func6 rfl Tryd.ntmps6 (by kernel_rfl) rfl (fun C => ?_)
  refine c_seq ?_
  refine c_region ?_
  refine st rfl (o_y (v := .bool false) (y_as rfl) rfl rfl rfl ?_)
  refine s_nil ?_
  refine q_then ?_
  refine c_seq ?_
  refine c_region ?_
  refine st rfl (o_call [] [2, 3, 4, 5, 6, 7, 8, 9, 10] (shown_ ea em ef el (by assumption) (by assumption) (by assumption)) rfl rfl rfl rfl rfl rfl (fun v L' I' hq1 => ?_))
  obtain ⟨rfl, rfl, rfl⟩ := hq1
  refine st rfl (o_y (v := .bool true) (y_as rfl) rfl rfl rfl ?_)
  refine s_nil ?_
  refine q_then ?_
  refine c_seq ?_
  refine c_region ?_
  refine st rfl (o_y (v := .slice A l.length c) (y_mv rfl) rfl rfl rfl ?_)
  refine st rfl (o_y (v := .slice A l.length c) (y_mv rfl) rfl rfl rfl ?_)
  refine st rfl (o_y (v := .int .i64 (l.length : Int)) (y_k rfl rfl (fun _ => by kernel_rfl)) rfl rfl rfl ?_)
  refine st rfl (o_y (v := .int .i64 ((min l.length 30 : Nat) : Int)) (y_min2 l.length 30 rfl rfl) rfl rfl rfl ?_)
  refine e_len 0 rfl (fun h65 h66 => ?_)
  refine e_cut2 (l2 := l.take (min l.length 30)) 0 0 (min l.length 30) c (by simp) rfl (by omega) (by omega) (by omega) ?_
  refine st rfl (o_y (v := .slice (cutA labTy A 0 c) (l.take (min l.length 30)).length (c - 0)) (y_cut (d := labTy) (l := l) (l2 := l.take (min l.length 30)) 0 (min l.length 30) c (by simp) rfl rfl .no (.at (min l.length 30) rfl (rfl)) .no (by simp) Tryd.underlying34 (by kernel_rfl) (by kernel_rfl) (by omega) (by omega) (by omega) (by omega)) rfl rfl rfl ?_)
  refine st rfl (o_y (v := .slice (cutA labTy A 0 c) (l.take (min l.length 30)).length (c - 0)) (y_as rfl) rfl rfl rfl ?_)
  refine s_nil ?_
  refine q_then ?_
  refine c_seq ?_
  refine c_region ?_
  refine st rfl (o_y (v := .slice B m.length d) (y_mv rfl) rfl rfl rfl ?_)
  refine st rfl (o_y (v := .slice B m.length d) (y_mv rfl) rfl rfl rfl ?_)
  refine st rfl (o_y (v := .int .i64 (m.length : Int)) (y_k rfl rfl (fun _ => by kernel_rfl)) rfl rfl rfl ?_)
  refine st rfl (o_y (v := .int .i64 ((min m.length 30 : Nat) : Int)) (y_min2 m.length 30 rfl rfl) rfl rfl rfl ?_)
  refine e_len 2 rfl (fun h67 h68 => ?_)
  refine e_cut2 (l2 := m.take (min m.length 30)) 2 0 (min m.length 30) d (by simp) rfl (by omega) (by omega) (by omega) ?_
  refine st rfl (o_y (v := .slice (cutA labTy B 0 d) (m.take (min m.length 30)).length (d - 0)) (y_cut (d := labTy) (l := m) (l2 := m.take (min m.length 30)) 0 (min m.length 30) d (by simp) rfl rfl .no (.at (min m.length 30) rfl (rfl)) .no (by simp) Tryd.underlying34 (by kernel_rfl) (by kernel_rfl) (by omega) (by omega) (by omega) (by omega)) rfl rfl rfl ?_)
  refine st rfl (o_y (v := .slice (cutA labTy B 0 d) (m.take (min m.length 30)).length (d - 0)) (y_as rfl) rfl rfl rfl ?_)
  refine s_nil ?_
  refine q_then ?_
  refine c_seq ?_
  refine c_region ?_
  refine st rfl (o_y (v := .slice (cutA labTy A 0 c) (l.take (min l.length 30)).length (c - 0)) (y_mv rfl) rfl rfl rfl ?_)
  refine st rfl (o_call [] [1, 4, 5, 6, 8, 9, 10, 7, 11, 12] (lPutList_ (cutA labTy A 0 c) (c - 0) (l.take (min l.length 30)) ea em ef el (by assumption) (by assumption) (by assumption) (by first | assumption | (intro x hx; simp only [List.mem_cons, List.not_mem_nil, or_false] at hx; subst hx; assumption) | (intro x hx; simp only [List.mem_cons, List.not_mem_nil, or_false] at hx; rcases hx with rfl | rfl <;> assumption)) (by first | omega | (simp; done) | (simp; omega) | assumption)) rfl rfl rfl rfl rfl rfl (fun v L' I' hq2 => ?_))
  obtain ⟨rfl, rfl, rfl⟩ := hq2
  refine st rfl (o_y (v := .tuple #[.string ((putS (l.take (min l.length 30))).1), .int .i64 ((putS (l.take (min l.length 30))).2)]) (y_mv rfl) rfl rfl rfl ?_)
  refine st rfl (o_y (v := .string ((putS (l.take (min l.length 30))).1)) (y_k rfl rfl (fun _ => by kernel_rfl)) rfl rfl rfl ?_)
  refine st rfl (o_y (v := .int .i64 ((putS (l.take (min l.length 30))).2)) (y_k rfl rfl (fun _ => by kernel_rfl)) rfl rfl rfl ?_)
  refine st rfl (o_y (v := .string ((putS (l.take (min l.length 30))).1)) (y_as rfl) rfl rfl rfl ?_)
  refine st rfl (o_y (v := .int .i64 ((putS (l.take (min l.length 30))).2)) (y_as rfl) rfl rfl rfl ?_)
  refine s_nil ?_
  refine q_then ?_
  refine c_seq ?_
  refine c_region ?_
  refine st rfl (o_y (v := .slice (cutA labTy B 0 d) (m.take (min m.length 30)).length (d - 0)) (y_mv rfl) rfl rfl rfl ?_)
  refine st rfl (o_call [] [0, 4, 5, 6, 8, 9, 10, 7, 11, 12] (lPutList_ (cutA labTy B 0 d) (d - 0) (m.take (min m.length 30)) ea em ef el (by assumption) (by assumption) (by assumption) (by first | assumption | (intro x hx; simp only [List.mem_cons, List.not_mem_nil, or_false] at hx; subst hx; assumption) | (intro x hx; simp only [List.mem_cons, List.not_mem_nil, or_false] at hx; rcases hx with rfl | rfl <;> assumption)) (by first | omega | (simp; done) | (simp; omega) | assumption)) rfl rfl rfl rfl rfl rfl (fun v L' I' hq3 => ?_))
  obtain ⟨rfl, rfl, rfl⟩ := hq3
  refine st rfl (o_y (v := .tuple #[.string ((putS (m.take (min m.length 30))).1), .int .i64 ((putS (m.take (min m.length 30))).2)]) (y_mv rfl) rfl rfl rfl ?_)
  refine st rfl (o_y (v := .string ((putS (m.take (min m.length 30))).1)) (y_k rfl rfl (fun _ => by kernel_rfl)) rfl rfl rfl ?_)
  refine st rfl (o_y (v := .int .i64 ((putS (m.take (min m.length 30))).2)) (y_k rfl rfl (fun _ => by kernel_rfl)) rfl rfl rfl ?_)
  refine st rfl (o_y (v := .string ((putS (m.take (min m.length 30))).1)) (y_as rfl) rfl rfl rfl ?_)
  refine st rfl (o_y (v := .int .i64 ((putS (m.take (min m.length 30))).2)) (y_as rfl) rfl rfl rfl ?_)
  refine s_nil ?_
  refine q_then ?_
  refine c_seq ?_
  refine c_region ?_
  refine st rfl (o_y (v := .slice none 0 0) (y_as rfl) rfl rfl rfl ?_)
  refine s_nil ?_
  refine q_then ?_
  refine c_seq ?_
  refine c_region ?_
  refine st rfl (o_y (v := .slice none 0 0) (y_mv rfl) rfl rfl rfl ?_)
  refine st rfl (o_y (v := .slice (cutA labTy A 0 c) (l.take (min l.length 30)).length (c - 0)) (y_mv rfl) rfl rfl rfl ?_)
  refine e_nil labTy 24 ?_
  refine st rfl (o_app (l := ([] : List Lab)) (us := l.take (min l.length 30)) 0 rfl rfl rfl rfl rfl (src_rd 1 rfl) Tryd.underlying34 (elem_of (z := .agg #[.int .i64 0, .int .u64 0, .int .i64 0]) (sz := 3) (bytes := 24) (by kernel_rfl) rfl) rfl (by first | omega | (simp only [List.length_nil]; omega)) rfl rfl (fun A1 c1 => ?_))
  refine st rfl (o_y (v := .slice (cutA labTy B 0 d) (m.take (min m.length 30)).length (d - 0)) (y_mv rfl) rfl rfl rfl ?_)
  refine st rfl (o_app (l := l.take (min l.length 30)) (us := m.take (min m.length 30)) 0 rfl rfl rfl rfl rfl (src_rd 0 rfl) Tryd.underlying34 (elem_of (z := .agg #[.int .i64 0, .int .u64 0, .int .i64 0]) (sz := 3) (bytes := 24) (by kernel_rfl) rfl) rfl (by first | omega | (simp only [List.length_nil]; omega)) rfl rfl (fun A2 c2 => ?_))
  refine st rfl (o_y (v := .slice A2 ((l.take (min l.length 30)) ++ (m.take (min m.length 30))).length c2) (y_as rfl) rfl rfl rfl ?_)
  refine s_nil ?_
  refine q_then ?_
  refine c_seq ?_
  refine c_region ?_
  refine st rfl (o_y (v := .slice A2 ((l.take (min l.length 30)) ++ (m.take (min m.length 30))).length c2) (y_mv rfl) rfl rfl rfl ?_)
  refine st rfl (o_lend [0] [] [4, 5, 6, 8, 9, 10, 7, 11, 12] (lPutList_ A2 c2 ((l.take (min l.length 30)) ++ (m.take (min m.length 30))) ea em ef el (by assumption) (by assumption) (by assumption) (by first | assumption | (intro x hx; simp only [List.mem_cons, List.not_mem_nil, or_false] at hx; subst hx; assumption) | (intro x hx; simp only [List.mem_cons, List.not_mem_nil, or_false] at hx; rcases hx with rfl | rfl <;> assumption)) (by first | omega | (simp; done) | (simp; omega) | assumption)) (.cons lend_ars .nil) rfl rfl rfl rfl rfl rfl rfl rfl (fun v L' I' hq4 => ?_))
  obtain ⟨rfl, rfl, rfl⟩ := hq4
  refine ⟨rfl, ?_⟩
  refine st rfl (o_y (v := .tuple #[.string ((putS ((l.take (min l.length 30)) ++ (m.take (min m.length 30)))).1), .int .i64 ((putS ((l.take (min l.length 30)) ++ (m.take (min m.length 30)))).2)]) (y_mv rfl) rfl rfl rfl ?_)
  refine st rfl (o_y (v := .string ((putS ((l.take (min l.length 30)) ++ (m.take (min m.length 30)))).1)) (y_k rfl rfl (fun _ => by kernel_rfl)) rfl rfl rfl ?_)
  refine st rfl (o_y (v := .int .i64 ((putS ((l.take (min l.length 30)) ++ (m.take (min m.length 30)))).2)) (y_k rfl rfl (fun _ => by kernel_rfl)) rfl rfl rfl ?_)
  refine st rfl (o_y (v := .string ((putS ((l.take (min l.length 30)) ++ (m.take (min m.length 30)))).1)) (y_as rfl) rfl rfl rfl ?_)
  refine st rfl (o_y (v := .int .i64 ((putS ((l.take (min l.length 30)) ++ (m.take (min m.length 30)))).2)) (y_as rfl) rfl rfl rfl ?_)
  refine s_nil ?_
  refine q_then ?_
  refine c_seq ?_
  refine c_region ?_
  refine st rfl (o_y (v := .string ((putS (l.take (min l.length 30))).1)) (y_mv rfl) rfl rfl rfl ?_)
  refine st rfl (o_y (v := .string ((putS (m.take (min m.length 30))).1)) (y_mv rfl) rfl rfl rfl ?_)
  refine st rfl (o_y (v := .string (((putS (l.take (min l.length 30))).1) ++ ((putS (m.take (min m.length 30))).1))) (y_cat (s := (putS (l.take (min l.length 30))).1) (u := (putS (m.take (min m.length 30))).1) rfl rfl (by omega)) rfl rfl rfl ?_)
  refine st rfl (o_call [] [4, 5, 6, 8, 9, 10, 7, 11, 12] (lGetList_ (((putS (l.take (min l.length 30))).1) ++ ((putS (m.take (min m.length 30))).1)) ea em ef el (by assumption) (by assumption) (by assumption) (by first | omega | (rw [ByteArray.size_append]; omega) | decide | assumption)) rfl rfl rfl rfl rfl rfl (fun v L' I' hq5 => ?_))
  obtain ⟨A3, c3, rfl, rfl, rfl⟩ := hq5
  refine st rfl (o_y (v := .tuple #[.slice A3 ((glR (((putS (l.take (min l.length 30))).1) ++ ((putS (m.take (min m.length 30))).1))).1).length c3, .int .i64 ((glR (((putS (l.take (min l.length 30))).1) ++ ((putS (m.take (min m.length 30))).1))).2)]) (y_mv rfl) rfl rfl rfl ?_)
  refine st rfl (o_y (v := .slice A3 ((glR (((putS (l.take (min l.length 30))).1) ++ ((putS (m.take (min m.length 30))).1))).1).length c3) (y_k rfl rfl (fun _ => by kernel_rfl)) rfl rfl rfl ?_)
  refine st rfl (o_y (v := .int .i64 ((glR (((putS (l.take (min l.length 30))).1) ++ ((putS (m.take (min m.length 30))).1))).2)) (y_k rfl rfl (fun _ => by kernel_rfl)) rfl rfl rfl ?_)
  refine st rfl (o_y (v := .slice A3 ((glR (((putS (l.take (min l.length 30))).1) ++ ((putS (m.take (min m.length 30))).1))).1).length c3) (y_as rfl) rfl rfl rfl ?_)
  refine st rfl (o_y (v := .int .i64 ((glR (((putS (l.take (min l.length 30))).1) ++ ((putS (m.take (min m.length 30))).1))).2)) (y_as rfl) rfl rfl rfl ?_)
  refine s_nil ?_
  refine q_then ?_
  refine c_seq ?_
  refine c_seq ?_
  refine c_region ?_
  refine st rfl (o_y (v := .int .i64 ((putS (l.take (min l.length 30))).2)) (y_mv rfl) rfl rfl rfl ?_)
  refine e_by ((putS (l.take (min l.length 30))).2 = 0) (fun h69 => ?_) (fun h69 => ?_)
  ·
    refine st rfl (o_y (v := .bool false) (y_nt (y_k (v := .bool (!decide ((putS (l.take (min l.length 30))).2 = 0))) rfl rfl (fun _ => by kernel_rfl)) h69) rfl rfl rfl ?_)
    refine st rfl (o_y (v := .bool false) (y_mv rfl) rfl rfl rfl ?_)
    refine st_on 55 rfl rfl rfl (o_y (v := .int .i64 ((putS (m.take (min m.length 30))).2)) (y_mv rfl) rfl rfl rfl ?_)
    refine e_by ((putS (m.take (min m.length 30))).2 = 0) (fun h70 => ?_) (fun h70 => ?_)
    ·
      refine st_on 55 rfl rfl rfl (o_y (v := .bool false) (y_nt (y_k (v := .bool (!decide ((putS (m.take (min m.length 30))).2 = 0))) rfl rfl (fun _ => by kernel_rfl)) h70) rfl rfl rfl ?_)
      refine st rfl (o_y (v := .bool false) (y_pick rfl rfl) rfl rfl rfl ?_)
      refine s_nil ?_
      refine q_then ?_
      refine c_false rfl ?_
      refine c_skip ?_
      refine q_then ?_
      refine c_seq ?_
      refine c_region ?_
      refine st rfl (o_y (v := .bool true) (y_mv rfl) rfl rfl rfl ?_)
      refine st rfl (o_y (v := .bool true) (y_mv rfl) rfl rfl rfl ?_)
      refine st_on 69 rfl rfl rfl (o_y (v := .int .i64 ((putS ((l.take (min l.length 30)) ++ (m.take (min m.length 30)))).2)) (y_mv rfl) rfl rfl rfl ?_)
      have h71 : (putS ((l.take (min l.length 30)) ++ (m.take (min m.length 30)))).2 = 0 := by rw [join_ok h69 h70]
      refine st_on 69 rfl rfl rfl (o_y (v := .bool true) (y_t (y_k (v := .bool (decide ((putS ((l.take (min l.length 30)) ++ (m.take (min m.length 30)))).2 = 0))) rfl rfl (fun _ => by kernel_rfl)) h71) rfl rfl rfl ?_)
      refine st rfl (o_y (v := .bool true) (y_pick rfl rfl) rfl rfl rfl ?_)
      refine st rfl (o_y (v := .bool true) (y_mv rfl) rfl rfl rfl ?_)
      refine st_on 73 rfl rfl rfl (o_y (v := .string ((putS ((l.take (min l.length 30)) ++ (m.take (min m.length 30)))).1)) (y_mv rfl) rfl rfl rfl ?_)
      refine st_on 73 rfl rfl rfl (o_y (v := .string ((putS (l.take (min l.length 30))).1)) (y_mv rfl) rfl rfl rfl ?_)
      refine st_on 73 rfl rfl rfl (o_y (v := .string ((putS (m.take (min m.length 30))).1)) (y_mv rfl) rfl rfl rfl ?_)
      refine st_on 73 rfl rfl rfl (o_y (v := .string (((putS (l.take (min l.length 30))).1) ++ ((putS (m.take (min m.length 30))).1))) (y_cat (s := (putS (l.take (min l.length 30))).1) (u := (putS (m.take (min m.length 30))).1) rfl rfl (by omega)) rfl rfl rfl ?_)
      have h72 : (putS ((l.take (min l.length 30)) ++ (m.take (min m.length 30)))).1 = ((putS (l.take (min l.length 30))).1) ++ ((putS (m.take (min m.length 30))).1) := by rw [join_ok h69 h70]
      refine st_on 73 rfl rfl rfl (o_y (v := .bool true) (y_b (y_k (v := .bool (((putS ((l.take (min l.length 30)) ++ (m.take (min m.length 30)))).1).toList == (((putS (l.take (min l.length 30))).1) ++ ((putS (m.take (min m.length 30))).1)).toList)) rfl rfl (fun _ => by kernel_rfl)) (str_t h72)) rfl rfl rfl ?_)
      refine st rfl (o_y (v := .bool true) (y_pick rfl rfl) rfl rfl rfl ?_)
      refine st rfl (o_y (v := .bool true) (y_mv rfl) rfl rfl rfl ?_)
      refine st_on 80 rfl rfl rfl (o_y (v := .int .i64 ((glR (((putS (l.take (min l.length 30))).1) ++ ((putS (m.take (min m.length 30))).1))).2)) (y_mv rfl) rfl rfl rfl ?_)
      have h73 : (glR (((putS (l.take (min l.length 30))).1) ++ ((putS (m.take (min m.length 30))).1))).2 = 0 := by rw [join_get h69 h70 k2 j2]
      refine st_on 80 rfl rfl rfl (o_y (v := .bool true) (y_t (y_k (v := .bool (decide ((glR (((putS (l.take (min l.length 30))).1) ++ ((putS (m.take (min m.length 30))).1))).2 = 0))) rfl rfl (fun _ => by kernel_rfl)) h73) rfl rfl rfl ?_)
      refine st rfl (o_y (v := .bool true) (y_pick rfl rfl) rfl rfl rfl ?_)
      refine st rfl (o_y (v := .bool true) (y_mv rfl) rfl rfl rfl ?_)
      refine st_on 84 rfl rfl rfl (o_y (v := .slice A2 ((l.take (min l.length 30)) ++ (m.take (min m.length 30))).length c2) (y_mv rfl) rfl rfl rfl ?_)
      refine st_on 84 rfl rfl rfl (o_y (v := .slice A3 ((glR (((putS (l.take (min l.length 30))).1) ++ ((putS (m.take (min m.length 30))).1))).1).length c3) (y_mv rfl) rfl rfl rfl ?_)
      refine st_on 84 rfl rfl rfl (o_lend [1, 0] [] [] (rLabels_ A2 c2 ((l.take (min l.length 30)) ++ (m.take (min m.length 30))) A3 c3 ((glR (((putS (l.take (min l.length 30))).1) ++ ((putS (m.take (min m.length 30))).1))).1) (by first | omega | assumption)) (.cons lend_ars (.cons lend_win .nil)) rfl rfl rfl rfl rfl rfl rfl rfl (fun v L' I' hq6 => ?_))
      obtain ⟨hv1, rfl, rfl⟩ := hq6
      refine ⟨rfl, ?_⟩
      obtain rfl : v = .bool true := by rw [hv1, decide_eq_true (show ((l.take (min l.length 30)) ++ (m.take (min m.length 30))) = ((glR (((putS (l.take (min l.length 30))).1) ++ ((putS (m.take (min m.length 30))).1))).1) from by rw [join_get h69 h70 k2 j2])]
      refine st rfl (o_y (v := .bool true) (y_pick rfl rfl) rfl rfl rfl ?_)
      refine st rfl (o_y (v := .bool true) (y_as rfl) rfl rfl rfl ?_)
      refine s_nil ?_
      refine q_then ?_
      refine c_ret ?_
      refine c_fin (I' := []) [] [2, 3, 4, 5, 6, 7, 8, 9, 10, 11, 12] rfl (.tmp rfl .nil) rfl rfl rfl ?_
      exact ⟨rfl, rfl, rfl⟩
    ·
      refine st_on 55 rfl rfl rfl (o_y (v := .bool true) (y_nf (y_k (v := .bool (!decide ((putS (m.take (min m.length 30))).2 = 0))) rfl rfl (fun _ => by kernel_rfl)) h70) rfl rfl rfl ?_)
      refine st rfl (o_y (v := .bool true) (y_pick rfl rfl) rfl rfl rfl ?_)
      refine s_nil ?_
      refine q_then ?_
      refine c_true rfl ?_
      refine c_seq ?_
      refine c_region ?_
      refine st rfl (o_y (v := .bool true) (y_mv rfl) rfl rfl rfl ?_)
      refine st rfl (o_y (v := .bool true) (y_mv rfl) rfl rfl rfl ?_)
      refine st_on 60 rfl rfl rfl (o_y (v := .int .i64 ((putS ((l.take (min l.length 30)) ++ (m.take (min m.length 30)))).2)) (y_mv rfl) rfl rfl rfl ?_)
      have h74 : (putS ((l.take (min l.length 30)) ++ (m.take (min m.length 30)))).2 = 20 := by rw [join_no (.inr h70)]
      refine st_on 60 rfl rfl rfl (o_y (v := .bool true) (y_t (y_k (v := .bool (decide ((putS ((l.take (min l.length 30)) ++ (m.take (min m.length 30)))).2 = 20))) rfl rfl (fun _ => by kernel_rfl)) h74) rfl rfl rfl ?_)
      refine st rfl (o_y (v := .bool true) (y_pick rfl rfl) rfl rfl rfl ?_)
      refine st rfl (o_y (v := .bool true) (y_mv rfl) rfl rfl rfl ?_)
      refine st_on 64 rfl rfl rfl (o_y (v := .string ((putS ((l.take (min l.length 30)) ++ (m.take (min m.length 30)))).1)) (y_mv rfl) rfl rfl rfl ?_)
      have h75 : (putS ((l.take (min l.length 30)) ++ (m.take (min m.length 30)))).1 = (⟨#[]⟩ : ByteArray) := by rw [join_no (.inr h70)]
      refine st_on 64 rfl rfl rfl (o_y (v := .bool true) (y_b (y_k (v := .bool (((putS ((l.take (min l.length 30)) ++ (m.take (min m.length 30)))).1).toList == (⟨#[]⟩ : ByteArray).toList)) rfl rfl (fun _ => by kernel_rfl)) (str_t h75)) rfl rfl rfl ?_)
      refine st rfl (o_y (v := .bool true) (y_pick rfl rfl) rfl rfl rfl ?_)
      refine st rfl (o_y (v := .bool true) (y_as rfl) rfl rfl rfl ?_)
      refine s_nil ?_
      refine q_then ?_
      refine c_ret ?_
      refine q_then_ret ?_
      refine c_fin (I' := []) [] [2, 3, 4, 5, 6, 7, 8, 9, 10, 11, 12] rfl (.tmp rfl .nil) rfl rfl rfl ?_
      exact ⟨rfl, rfl, rfl⟩
  ·
    refine st rfl (o_y (v := .bool true) (y_nf (y_k (v := .bool (!decide ((putS (l.take (min l.length 30))).2 = 0))) rfl rfl (fun _ => by kernel_rfl)) h69) rfl rfl rfl ?_)
    refine st rfl (o_y (v := .bool true) (y_mv rfl) rfl rfl rfl ?_)
    refine st_off 55 rfl rfl rfl rfl rfl rfl ?_
    refine st_off 55 rfl rfl rfl rfl rfl rfl ?_
    refine st rfl (o_y (v := .bool true) (y_pick rfl rfl) rfl rfl rfl ?_)
    refine s_nil ?_
    refine q_then ?_
    refine c_true rfl ?_
    refine c_seq ?_
    refine c_region ?_
    refine st rfl (o_y (v := .bool true) (y_mv rfl) rfl rfl rfl ?_)
    refine st rfl (o_y (v := .bool true) (y_mv rfl) rfl rfl rfl ?_)
    refine st_on 60 rfl rfl rfl (o_y (v := .int .i64 ((putS ((l.take (min l.length 30)) ++ (m.take (min m.length 30)))).2)) (y_mv rfl) rfl rfl rfl ?_)
    have h76 : (putS ((l.take (min l.length 30)) ++ (m.take (min m.length 30)))).2 = 20 := by rw [join_no (.inl h69)]
    refine st_on 60 rfl rfl rfl (o_y (v := .bool true) (y_t (y_k (v := .bool (decide ((putS ((l.take (min l.length 30)) ++ (m.take (min m.length 30)))).2 = 20))) rfl rfl (fun _ => by kernel_rfl)) h76) rfl rfl rfl ?_)
    refine st rfl (o_y (v := .bool true) (y_pick rfl rfl) rfl rfl rfl ?_)
    refine st rfl (o_y (v := .bool true) (y_mv rfl) rfl rfl rfl ?_)
    refine st_on 64 rfl rfl rfl (o_y (v := .string ((putS ((l.take (min l.length 30)) ++ (m.take (min m.length 30)))).1)) (y_mv rfl) rfl rfl rfl ?_)
    have h77 : (putS ((l.take (min l.length 30)) ++ (m.take (min m.length 30)))).1 = (⟨#[]⟩ : ByteArray) := by rw [join_no (.inl h69)]
    refine st_on 64 rfl rfl rfl (o_y (v := .bool true) (y_b (y_k (v := .bool (((putS ((l.take (min l.length 30)) ++ (m.take (min m.length 30)))).1).toList == (⟨#[]⟩ : ByteArray).toList)) rfl rfl (fun _ => by kernel_rfl)) (str_t h77)) rfl rfl rfl ?_)
    refine st rfl (o_y (v := .bool true) (y_pick rfl rfl) rfl rfl rfl ?_)
    refine st rfl (o_y (v := .bool true) (y_as rfl) rfl rfl rfl ?_)
    refine s_nil ?_
    refine q_then ?_
    refine c_ret ?_
    refine q_then_ret ?_
    refine c_fin (I' := []) [] [2, 3, 4, 5, 6, 7, 8, 9, 10, 11, 12] rfl (.tmp rfl .nil) rfl rfl rfl ?_
    exact ⟨rfl, rfl, rfl⟩
end Go.Proofs.YthoefkpbijcdeaaDoor
