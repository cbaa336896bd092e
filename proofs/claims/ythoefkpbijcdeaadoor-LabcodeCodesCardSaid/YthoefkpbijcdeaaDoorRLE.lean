/- The laws of chapter 4 (labcode), walked over the given program; no condition but what stands in each theorem: part LE. -/
import Derived.Test.YthoefkpbijcdeaaDoorRLD
set_option linter.unusedVariables false
set_option linter.unusedSimpArgs false
set_option maxRecDepth 100000
set_option maxHeartbeats 8000000
namespace Go.Proofs.YthoefkpbijcdeaaDoor
open Go Go.Sl Go.RowKit Go.Extern.Stop Go.Stop Go.Extern
theorem lPut_ (a : Lab) (ea : Addr) (em : Addr) (ef : Addr) (el : Addr) (h12 : ea ≠ em) (h13 : ea ≠ ef) (h23 : em ≠ ef) (h6a : lab64 a) : Con Tryd.prog 10 [.agg #[.int .i64 a.lv, .int .u64 (a.cs : Int), .int .i64 a.ig]] [] [cellsAt 1 0 [.iface 141 (.pointer (some ea))], cellsAt 3 0 [.iface 141 (.pointer (some em))], cellsAt 4 0 [.iface 141 (.pointer (some ef))], errAt ea, errAt em, errAt ef, cellsAt 0 0 [.iface 141 (.pointer (some el))], errAt el, cellsAt 2 0 [.iface 122 (.agg #[.pointer (some ⟨5, 46, none⟩)])]] (fun v L' I' => v = .tuple #[.string ((putL a).1), .int .i64 ((putL a).2)] ∧ L' = [] ∧ I' = []) := by
  refine fn_of Tryd.func10 rfl Tryd.ntmps10 (by kernel_rfl) rfl (fun C => ?_)
  refine c_seq ?_
  refine c_region ?_
  refine st rfl (o_box (cs := [.int .i64 a.lv, .int .u64 (a.cs : Int), .int .i64 a.ig]) (T := 24) rfl rfl rfl rfl (fun _ => by kernel_rfl) (fun b1 => ?_))
  refine st rfl (o_y (v := .string (⟨#[]⟩ : ByteArray)) (y_as rfl) rfl rfl rfl ?_)
  refine st rfl (o_y (v := .int .i64 0) (y_as rfl) rfl rfl rfl ?_)
  refine s_nil ?_
  refine q_then ?_
  refine c_seq ?_
  refine c_region ?_
  refine st rfl (o_ldn 0 3 rfl rfl rfl rfl Tryd.underlying24 rfl (by kernel_rfl) (by kernel_rfl) rfl ?_)
  refine st rfl (o_lit (cs := [.int .i64 a.lv, .int .u64 (a.cs : Int), .int .i64 a.ig]) (T := 24) (m := 1) rfl rfl rfl rfl (fun _ => by kernel_rfl) (fun b2 => ?_))
  refine e_calm 0 rfl ?_
  refine e_lit labTy [a] 0 rfl rfl (by simp) ?_
  refine st rfl (o_call [] [0, 2, 3, 4, 5, 6, 7, 8, 9, 10] (lput_ (some ⟨b2, 0, none⟩) 1 [a] ea em ef el (by assumption) (by assumption) (by assumption) (by first | assumption | (intro x hx; simp only [List.mem_cons, List.not_mem_nil, or_false] at hx; subst hx; assumption) | (intro x hx; simp only [List.mem_cons, List.not_mem_nil, or_false] at hx; rcases hx with rfl | rfl <;> assumption)) (by first | omega | (simp; done) | (simp; omega) | assumption)) rfl rfl rfl rfl rfl rfl (fun v L' I' hq1 => ?_))
  rcases hq1 with ⟨h24, rfl, rfl, rfl⟩ | ⟨h25, rfl, rfl, rfl⟩
  ·
    refine st rfl (o_y (v := .tuple #[.string (encS [a]), .nilIface]) (y_mv rfl) rfl rfl rfl ?_)
    refine st rfl (o_y (v := .string (encS [a])) (y_k rfl rfl (fun _ => by kernel_rfl)) rfl rfl rfl ?_)
    refine st rfl (o_y (v := .nilIface) (y_k rfl rfl (fun _ => by kernel_rfl)) rfl rfl rfl ?_)
    refine st rfl (o_y (v := .string (encS [a])) (y_as rfl) rfl rfl rfl ?_)
    refine st rfl (o_y (v := .nilIface) (y_as rfl) rfl rfl rfl ?_)
    refine s_nil ?_
    refine q_then ?_
    refine c_seq ?_
    refine c_region ?_
    refine st rfl (o_y (v := .string (encS [a])) (y_mv rfl) rfl rfl rfl ?_)
    refine st rfl (o_y (v := .nilIface) (y_mv rfl) rfl rfl rfl ?_)
    refine st rfl (o_call [] [8, 9, 10] (ltold_nil_ el) rfl rfl rfl rfl rfl rfl (fun v L' I' hq2 => ?_))
    obtain ⟨rfl, rfl, rfl⟩ := hq2
    refine st rfl (o_y (v := .string (encS [a])) (y_as rfl) rfl rfl rfl ?_)
    refine st rfl (o_y (v := .int .i64 0) (y_as rfl) rfl rfl rfl ?_)
    refine s_nil ?_
    refine q_then ?_
    refine c_ret ?_
    have hp : putL a = (encS [a], 0) := by first | exact putL_1 (by assumption) | exact putL_0 (by assumption)
    refine c_fin (I' := []) [] [2, 3, 4, 5, 6, 7, 8, 9, 10] rfl (.tmp rfl (.tmp rfl .nil)) rfl rfl rfl ?_
    rw [hp]
    exact ⟨rfl, rfl, rfl⟩
  ·
    refine st rfl (o_y (v := .tuple #[.string (⟨#[]⟩ : ByteArray), .iface 65 (.agg #[.int .i64 20, .iface 141 (.pointer (some el))])]) (y_mv rfl) rfl rfl rfl ?_)
    refine st rfl (o_y (v := .string (⟨#[]⟩ : ByteArray)) (y_k rfl rfl (fun _ => by kernel_rfl)) rfl rfl rfl ?_)
    refine st rfl (o_y (v := .iface 65 (.agg #[.int .i64 20, .iface 141 (.pointer (some el))])) (y_k rfl rfl (fun _ => by kernel_rfl)) rfl rfl rfl ?_)
    refine st rfl (o_y (v := .string (⟨#[]⟩ : ByteArray)) (y_as rfl) rfl rfl rfl ?_)
    refine st rfl (o_y (v := .iface 65 (.agg #[.int .i64 20, .iface 141 (.pointer (some el))])) (y_as rfl) rfl rfl rfl ?_)
    refine s_nil ?_
    refine q_then ?_
    refine c_seq ?_
    refine c_region ?_
    refine st rfl (o_y (v := .string (⟨#[]⟩ : ByteArray)) (y_mv rfl) rfl rfl rfl ?_)
    refine st rfl (o_y (v := .iface 65 (.agg #[.int .i64 20, .iface 141 (.pointer (some el))])) (y_mv rfl) rfl rfl rfl ?_)
    refine st rfl (o_call [] [8, 9, 10] (ltold_lab_ el) rfl rfl rfl rfl rfl rfl (fun v L' I' hq3 => ?_))
    obtain ⟨rfl, rfl, rfl⟩ := hq3
    refine st rfl (o_y (v := .string (⟨#[]⟩ : ByteArray)) (y_as rfl) rfl rfl rfl ?_)
    refine st rfl (o_y (v := .int .i64 20) (y_as rfl) rfl rfl rfl ?_)
    refine s_nil ?_
    refine q_then ?_
    refine c_ret ?_
    have hp : putL a = ((⟨#[]⟩ : ByteArray), 20) := by first | exact putL_1 (by assumption) | exact putL_0 (by assumption)
    refine c_fin (I' := []) [] [2, 3, 4, 5, 6, 7, 8, 9, 10] rfl (.tmp rfl (.tmp rfl .nil)) rfl rfl rfl ?_
    rw [hp]
    exact ⟨rfl, rfl, rfl⟩
theorem lPutList_ (A : Option Addr) (c : Nat) (l : List Lab) (ea : Addr) (em : Addr) (ef : Addr) (el : Addr) (h12 : ea ≠ em) (h13 : ea ≠ ef) (h23 : em ≠ ef) (h64 : ∀ x ∈ l, lab64 x) (hn : l.length ≤ 1000) : Con Tryd.prog 14 [.slice A l.length c] [] [rd labTy A c l, cellsAt 1 0 [.iface 141 (.pointer (some ea))], cellsAt 3 0 [.iface 141 (.pointer (some em))], cellsAt 4 0 [.iface 141 (.pointer (some ef))], errAt ea, errAt em, errAt ef, cellsAt 0 0 [.iface 141 (.pointer (some el))], errAt el, cellsAt 2 0 [.iface 122 (.agg #[.pointer (some ⟨5, 46, none⟩)])]] (fun v L' I' => v = .tuple #[.string ((putS l).1), .int .i64 ((putS l).2)] ∧ L' = [] ∧ I' = []) := by
  refine fn_of Tryd.func14 rfl Tryd.ntmps14 (by kernel_rfl) rfl (fun C => ?_)
  refine c_seq ?_
  refine c_region ?_
  refine st rfl (o_y (v := .string (⟨#[]⟩ : ByteArray)) (y_as rfl) rfl rfl rfl ?_)
  refine st rfl (o_y (v := .int .i64 0) (y_as rfl) rfl rfl rfl ?_)
  refine s_nil ?_
  refine q_then ?_
  refine c_seq ?_
  refine c_region ?_
  refine st rfl (o_y (v := .slice A l.length c) (y_mv rfl) rfl rfl rfl ?_)
  refine st rfl (o_call [] [0, 1, 2, 3, 4, 5, 6, 7, 8, 9] (lput_ A c l ea em ef el (by assumption) (by assumption) (by assumption) (by first | assumption | (intro x hx; simp only [List.mem_cons, List.not_mem_nil, or_false] at hx; subst hx; assumption) | (intro x hx; simp only [List.mem_cons, List.not_mem_nil, or_false] at hx; rcases hx with rfl | rfl <;> assumption)) (by first | omega | (simp; done) | (simp; omega) | assumption)) rfl rfl rfl rfl rfl rfl (fun v L' I' hq1 => ?_))
  rcases hq1 with ⟨h65, rfl, rfl, rfl⟩ | ⟨h66, rfl, rfl, rfl⟩
  ·
    refine st rfl (o_y (v := .tuple #[.string (encS l), .nilIface]) (y_mv rfl) rfl rfl rfl ?_)
    refine st rfl (o_y (v := .string (encS l)) (y_k rfl rfl (fun _ => by kernel_rfl)) rfl rfl rfl ?_)
    refine st rfl (o_y (v := .nilIface) (y_k rfl rfl (fun _ => by kernel_rfl)) rfl rfl rfl ?_)
    refine st rfl (o_y (v := .string (encS l)) (y_as rfl) rfl rfl rfl ?_)
    refine st rfl (o_y (v := .nilIface) (y_as rfl) rfl rfl rfl ?_)
    refine s_nil ?_
    refine q_then ?_
    refine c_seq ?_
    refine c_region ?_
    refine st rfl (o_y (v := .string (encS l)) (y_mv rfl) rfl rfl rfl ?_)
    refine st rfl (o_y (v := .nilIface) (y_mv rfl) rfl rfl rfl ?_)
    refine st rfl (o_call [] [7, 8, 9] (ltold_nil_ el) rfl rfl rfl rfl rfl rfl (fun v L' I' hq2 => ?_))
    obtain ⟨rfl, rfl, rfl⟩ := hq2
    refine st rfl (o_y (v := .string (encS l)) (y_as rfl) rfl rfl rfl ?_)
    refine st rfl (o_y (v := .int .i64 0) (y_as rfl) rfl rfl rfl ?_)
    refine s_nil ?_
    refine q_then ?_
    refine c_ret ?_
    have hp : putS l = (encS l, 0) := by first | exact if_pos (by assumption) | exact if_neg (by assumption)
    refine c_fin (I' := []) [] [0, 1, 2, 3, 4, 5, 6, 7, 8, 9] rfl (.tmp rfl (.tmp rfl .nil)) rfl rfl rfl ?_
    rw [hp]
    exact ⟨rfl, rfl, rfl⟩
  ·
    refine st rfl (o_y (v := .tuple #[.string (⟨#[]⟩ : ByteArray), .iface 65 (.agg #[.int .i64 20, .iface 141 (.pointer (some el))])]) (y_mv rfl) rfl rfl rfl ?_)
    refine st rfl (o_y (v := .string (⟨#[]⟩ : ByteArray)) (y_k rfl rfl (fun _ => by kernel_rfl)) rfl rfl rfl ?_)
    refine st rfl (o_y (v := .iface 65 (.agg #[.int .i64 20, .iface 141 (.pointer (some el))])) (y_k rfl rfl (fun _ => by kernel_rfl)) rfl rfl rfl ?_)
    refine st rfl (o_y (v := .string (⟨#[]⟩ : ByteArray)) (y_as rfl) rfl rfl rfl ?_)
    refine st rfl (o_y (v := .iface 65 (.agg #[.int .i64 20, .iface 141 (.pointer (some el))])) (y_as rfl) rfl rfl rfl ?_)
    refine s_nil ?_
    refine q_then ?_
    refine c_seq ?_
    refine c_region ?_
    refine st rfl (o_y (v := .string (⟨#[]⟩ : ByteArray)) (y_mv rfl) rfl rfl rfl ?_)
    refine st rfl (o_y (v := .iface 65 (.agg #[.int .i64 20, .iface 141 (.pointer (some el))])) (y_mv rfl) rfl rfl rfl ?_)
    refine st rfl (o_call [] [7, 8, 9] (ltold_lab_ el) rfl rfl rfl rfl rfl rfl (fun v L' I' hq3 => ?_))
    obtain ⟨rfl, rfl, rfl⟩ := hq3
    refine st rfl (o_y (v := .string (⟨#[]⟩ : ByteArray)) (y_as rfl) rfl rfl rfl ?_)
    refine st rfl (o_y (v := .int .i64 20) (y_as rfl) rfl rfl rfl ?_)
    refine s_nil ?_
    refine q_then ?_
    refine c_ret ?_
    have hp : putS l = ((⟨#[]⟩ : ByteArray), 20) := by first | exact if_pos (by assumption) | exact if_neg (by assumption)
    refine c_fin (I' := []) [] [0, 1, 2, 3, 4, 5, 6, 7, 8, 9] rfl (.tmp rfl (.tmp rfl .nil)) rfl rfl rfl ?_
    rw [hp]
    exact ⟨rfl, rfl, rfl⟩
theorem isRange_ (a : Lab) (b : Lab) : Con Tryd.prog 33 [.agg #[.int .i64 a.lv, .int .u64 (a.cs : Int), .int .i64 a.ig], .agg #[.int .i64 b.lv, .int .u64 (b.cs : Int), .int .i64 b.ig]] [] [] (fun v L' I' => v = .bool (decide (a = b ∨ labUnder a b)) ∧ L' = [] ∧ I' = []) := by
  refine fn_of Tryd.func33 rfl Tryd.ntmps33 (by kernel_rfl) rfl (fun C => ?_)
  refine c_seq ?_
  refine c_region ?_
  refine st rfl (o_box (cs := [.int .i64 a.lv, .int .u64 (a.cs : Int), .int .i64 a.ig]) (T := 24) rfl rfl rfl rfl (fun _ => by kernel_rfl) (fun b1 => ?_))
  refine st rfl (o_box (cs := [.int .i64 b.lv, .int .u64 (b.cs : Int), .int .i64 b.ig]) (T := 24) rfl rfl rfl rfl (fun _ => by kernel_rfl) (fun b2 => ?_))
  refine st rfl (o_y (v := .bool false) (y_as rfl) rfl rfl rfl ?_)
  refine s_nil ?_
  refine q_then ?_
  refine c_seq ?_
  refine c_region ?_
  refine st rfl (o_ldn 1 3 rfl rfl rfl rfl Tryd.underlying24 rfl (by kernel_rfl) (by kernel_rfl) rfl ?_)
  refine st rfl (o_ldn 0 3 rfl rfl rfl rfl Tryd.underlying24 rfl (by kernel_rfl) (by kernel_rfl) rfl ?_)
  refine e_by (a = b) (fun h1 => ?_) (fun h1 => ?_)
  ·
    refine st rfl (o_y (v := .bool true) (y_t (y_bin rfl rfl (fun w => eq_Lab a b w)) h1) rfl rfl rfl ?_)
    refine st rfl (o_y (v := .bool true) (y_mv rfl) rfl rfl rfl ?_)
    refine st_off 8 rfl rfl rfl rfl rfl rfl ?_
    refine st_off 8 rfl rfl rfl rfl rfl rfl ?_
    refine st_off 8 rfl rfl rfl rfl rfl rfl ?_
    refine st rfl (o_y (v := .bool true) (y_pick rfl rfl) rfl rfl rfl ?_)
    refine st rfl (o_y (v := .bool true) (y_as rfl) rfl rfl rfl ?_)
    refine s_nil ?_
    refine q_then ?_
    refine c_ret ?_
    refine c_fin (I' := []) [] [] rfl (.tmp rfl .nil) rfl rfl rfl ?_
    exact ⟨by show Value.bool _ = Value.bool _; congr 1; symm; first | exact decide_eq_true (by first | exact .inl (by assumption) | exact .inr (by assumption) | (rintro (hh | hh) <;> contradiction)) | exact decide_eq_false (by first | exact .inl (by assumption) | exact .inr (by assumption) | (rintro (hh | hh) <;> contradiction)), rfl, rfl⟩
  ·
    refine st rfl (o_y (v := .bool false) (y_f (y_bin rfl rfl (fun w => eq_Lab a b w)) h1) rfl rfl rfl ?_)
    refine st rfl (o_y (v := .bool false) (y_mv rfl) rfl rfl rfl ?_)
    refine st_on 8 rfl rfl rfl (o_ldn 1 3 rfl rfl rfl rfl Tryd.underlying24 rfl (by kernel_rfl) (by kernel_rfl) rfl ?_)
    refine st_on 8 rfl rfl rfl (o_ldn 0 3 rfl rfl rfl rfl Tryd.underlying24 rfl (by kernel_rfl) (by kernel_rfl) rfl ?_)
    refine st_on 8 rfl rfl rfl (o_call [] [] (under_ a b) rfl rfl rfl rfl rfl rfl (fun v L' I' hq1 => ?_))
    obtain ⟨hv1, rfl, rfl⟩ := hq1
    refine e_by (labUnder a b) (fun h2 => ?_) (fun h2 => ?_)
    ·
      obtain rfl : v = .bool true := by rw [hv1, decide_eq_true h2]
      refine st rfl (o_y (v := .bool true) (y_pick rfl rfl) rfl rfl rfl ?_)
      refine st rfl (o_y (v := .bool true) (y_as rfl) rfl rfl rfl ?_)
      refine s_nil ?_
      refine q_then ?_
      refine c_ret ?_
      refine c_fin (I' := []) [] [] rfl (.tmp rfl .nil) rfl rfl rfl ?_
      exact ⟨by show Value.bool _ = Value.bool _; congr 1; symm; first | exact decide_eq_true (by first | exact .inl (by assumption) | exact .inr (by assumption) | (rintro (hh | hh) <;> contradiction)) | exact decide_eq_false (by first | exact .inl (by assumption) | exact .inr (by assumption) | (rintro (hh | hh) <;> contradiction)), rfl, rfl⟩
    ·
      obtain rfl : v = .bool false := by rw [hv1, decide_eq_false h2]
      refine st rfl (o_y (v := .bool false) (y_pick rfl rfl) rfl rfl rfl ?_)
      refine st rfl (o_y (v := .bool false) (y_as rfl) rfl rfl rfl ?_)
      refine s_nil ?_
      refine q_then ?_
      refine c_ret ?_
      refine c_fin (I' := []) [] [] rfl (.tmp rfl .nil) rfl rfl rfl ?_
      exact ⟨by show Value.bool _ = Value.bool _; congr 1; symm; first | exact decide_eq_true (by first | exact .inl (by assumption) | exact .inr (by assumption) | (rintro (hh | hh) <;> contradiction)) | exact decide_eq_false (by first | exact .inl (by assumption) | exact .inr (by assumption) | (rintro (hh | hh) <;> contradiction)), rfl, rfl⟩
theorem lPutRange_ (a : Lab) (b : Lab) (ea : Addr) (em : Addr) (ef : Addr) (el : Addr) (h12 : ea ≠ em) (h13 : ea ≠ ef) (h23 : em ≠ ef) (h6a : lab64 a) (h6b : lab64 b) : Con Tryd.prog 21 [.agg #[.int .i64 a.lv, .int .u64 (a.cs : Int), .int .i64 a.ig], .agg #[.int .i64 b.lv, .int .u64 (b.cs : Int), .int .i64 b.ig]] [] [cellsAt 1 0 [.iface 141 (.pointer (some ea))], cellsAt 3 0 [.iface 141 (.pointer (some em))], cellsAt 4 0 [.iface 141 (.pointer (some ef))], errAt ea, errAt em, errAt ef, cellsAt 0 0 [.iface 141 (.pointer (some el))], errAt el, cellsAt 2 0 [.iface 122 (.agg #[.pointer (some ⟨5, 46, none⟩)])]] (fun v L' I' => v = .tuple #[.string ((rangeF a b).1), .int .i64 ((rangeF a b).2)] ∧ L' = [] ∧ I' = []) := by
  refine fn_of Tryd.func21 rfl Tryd.ntmps21 (by kernel_rfl) rfl (fun C => ?_)
  refine c_seq ?_
  refine c_region ?_
  refine st rfl (o_box (cs := [.int .i64 a.lv, .int .u64 (a.cs : Int), .int .i64 a.ig]) (T := 24) rfl rfl rfl rfl (fun _ => by kernel_rfl) (fun b1 => ?_))
  refine st rfl (o_box (cs := [.int .i64 b.lv, .int .u64 (b.cs : Int), .int .i64 b.ig]) (T := 24) rfl rfl rfl rfl (fun _ => by kernel_rfl) (fun b2 => ?_))
  refine st rfl (o_y (v := .string (⟨#[]⟩ : ByteArray)) (y_as rfl) rfl rfl rfl ?_)
  refine st rfl (o_y (v := .int .i64 0) (y_as rfl) rfl rfl rfl ?_)
  refine s_nil ?_
  refine q_then ?_
  refine c_seq ?_
  refine c_region ?_
  refine st rfl (o_ldn 1 3 rfl rfl rfl rfl Tryd.underlying24 rfl (by kernel_rfl) (by kernel_rfl) rfl ?_)
  refine st rfl (o_ldn 0 3 rfl rfl rfl rfl Tryd.underlying24 rfl (by kernel_rfl) (by kernel_rfl) rfl ?_)
  refine st rfl (o_lit (cs := [.int .i64 a.lv, .int .u64 (a.cs : Int), .int .i64 a.ig, .int .i64 b.lv, .int .u64 (b.cs : Int), .int .i64 b.ig]) (T := 24) (m := 2) rfl rfl rfl rfl (fun _ => by kernel_rfl) (fun b3 => ?_))
  refine e_calm 0 rfl ?_
  refine e_lit labTy [a, b] 0 rfl rfl (by simp) ?_
  refine st rfl (o_call [] [0, 2, 3, 4, 5, 6, 7, 8, 9, 10] (lput_ (some ⟨b3, 0, none⟩) 2 [a, b] ea em ef el (by assumption) (by assumption) (by assumption) (by first | assumption | (intro x hx; simp only [List.mem_cons, List.not_mem_nil, or_false] at hx; subst hx; assumption) | (intro x hx; simp only [List.mem_cons, List.not_mem_nil, or_false] at hx; rcases hx with rfl | rfl <;> assumption)) (by first | omega | (simp; done) | (simp; omega) | assumption)) rfl rfl rfl rfl rfl rfl (fun v L' I' hq1 => ?_))
  rcases hq1 with ⟨h24, rfl, rfl, rfl⟩ | ⟨h25, rfl, rfl, rfl⟩
  ·
    refine st rfl (o_y (v := .tuple #[.string (encS [a, b]), .nilIface]) (y_mv rfl) rfl rfl rfl ?_)
    refine st rfl (o_y (v := .string (encS [a, b])) (y_k rfl rfl (fun _ => by kernel_rfl)) rfl rfl rfl ?_)
    refine st rfl (o_y (v := .nilIface) (y_k rfl rfl (fun _ => by kernel_rfl)) rfl rfl rfl ?_)
    refine st rfl (o_y (v := .string (encS [a, b])) (y_as rfl) rfl rfl rfl ?_)
    refine st rfl (o_y (v := .nilIface) (y_as rfl) rfl rfl rfl ?_)
    refine s_nil ?_
    refine q_then ?_
    refine c_seq ?_
    refine c_seq ?_
    refine c_region ?_
    refine st rfl (o_y (v := .nilIface) (y_mv rfl) rfl rfl rfl ?_)
    refine st rfl (o_y (v := .bool true) (y_k rfl rfl (fun _ => by kernel_rfl)) rfl rfl rfl ?_)
    refine st rfl (o_y (v := .bool true) (y_mv rfl) rfl rfl rfl ?_)
    refine st_on 17 rfl rfl rfl (o_ldn 1 3 rfl rfl rfl rfl Tryd.underlying24 rfl (by kernel_rfl) (by kernel_rfl) rfl ?_)
    refine st_on 17 rfl rfl rfl (o_ldn 0 3 rfl rfl rfl rfl Tryd.underlying24 rfl (by kernel_rfl) (by kernel_rfl) rfl ?_)
    refine st_on 17 rfl rfl rfl (o_call [] [] (isRange_ a b) rfl rfl rfl rfl rfl rfl (fun v L' I' hq2 => ?_))
    obtain ⟨hv1, rfl, rfl⟩ := hq2
    refine e_by (a = b ∨ labUnder a b) (fun h26 => ?_) (fun h26 => ?_)
    ·
      obtain rfl : v = .bool true := by rw [hv1, decide_eq_true h26]
      refine st_on 17 rfl rfl rfl (o_y (v := .bool false) (y_k rfl rfl (fun _ => by kernel_rfl)) rfl rfl rfl ?_)
      refine st rfl (o_y (v := .bool false) (y_pick rfl rfl) rfl rfl rfl ?_)
      refine s_nil ?_
      refine q_then ?_
      refine c_false rfl ?_
      refine c_skip ?_
      refine q_then ?_
      refine c_seq ?_
      refine c_seq ?_
      refine c_region ?_
      refine st rfl (o_y (v := .nilIface) (y_mv rfl) rfl rfl rfl ?_)
      refine st rfl (o_y (v := .bool false) (y_k rfl rfl (fun _ => by kernel_rfl)) rfl rfl rfl ?_)
      refine s_nil ?_
      refine q_then ?_
      refine c_false rfl ?_
      refine c_skip ?_
      refine q_then ?_
      refine c_seq ?_
      refine c_region ?_
      refine st rfl (o_y (v := .string (encS [a, b])) (y_mv rfl) rfl rfl rfl ?_)
      refine st rfl (o_y (v := .string (encS [a, b])) (y_as rfl) rfl rfl rfl ?_)
      refine st rfl (o_y (v := .int .i64 0) (y_as rfl) rfl rfl rfl ?_)
      refine s_nil ?_
      refine q_then ?_
      refine c_ret ?_
      have hp : rangeF a b = (encS [a, b], 0) := by first | exact range_1 (by assumption) (by assumption) | exact range_2 (by assumption) (by assumption) | exact range_0 (by assumption)
      refine c_fin (I' := []) [] [2, 3, 4, 5, 6, 7, 8, 9, 10] rfl (.tmp rfl (.tmp rfl .nil)) rfl rfl rfl ?_
      rw [hp]
      exact ⟨rfl, rfl, rfl⟩
    ·
      obtain rfl : v = .bool false := by rw [hv1, decide_eq_false h26]
      refine st_on 17 rfl rfl rfl (o_y (v := .bool true) (y_k rfl rfl (fun _ => by kernel_rfl)) rfl rfl rfl ?_)
      refine st rfl (o_y (v := .bool true) (y_pick rfl rfl) rfl rfl rfl ?_)
      refine s_nil ?_
      refine q_then ?_
      refine c_true rfl ?_
      refine c_region ?_
      refine st rfl (o_y (v := .agg #[.int .i64 40, .nilIface]) (y_k rfl rfl (fun _ => by kernel_rfl)) rfl rfl rfl ?_)
      refine st rfl (o_y (v := .iface 65 (.agg #[.int .i64 40, .nilIface])) (y_k rfl rfl (fun _ => by kernel_rfl)) rfl rfl rfl ?_)
      refine st rfl (o_y (v := .iface 65 (.agg #[.int .i64 40, .nilIface])) (y_as rfl) rfl rfl rfl ?_)
      refine s_nil ?_
      refine q_then ?_
      refine c_seq ?_
      refine c_seq ?_
      refine c_region ?_
      refine st rfl (o_y (v := .iface 65 (.agg #[.int .i64 40, .nilIface])) (y_mv rfl) rfl rfl rfl ?_)
      refine st rfl (o_y (v := .bool true) (y_k rfl rfl (fun _ => by kernel_rfl)) rfl rfl rfl ?_)
      refine s_nil ?_
      refine q_then ?_
      refine c_true rfl ?_
      refine c_seq ?_
      refine c_region ?_
      refine st rfl (o_y (v := .iface 65 (.agg #[.int .i64 40, .nilIface])) (y_mv rfl) rfl rfl rfl ?_)
      refine st rfl (o_call [] [8, 9, 10] (ltold_k_ el (40 : Int)) rfl rfl rfl rfl rfl rfl (fun v L' I' hq3 => ?_))
      obtain ⟨rfl, rfl, rfl⟩ := hq3
      refine st rfl (o_y (v := .string (⟨#[]⟩ : ByteArray)) (y_as rfl) rfl rfl rfl ?_)
      refine st rfl (o_y (v := .int .i64 (40 : Int)) (y_as rfl) rfl rfl rfl ?_)
      refine s_nil ?_
      refine q_then ?_
      refine c_ret ?_
      refine q_then_ret ?_
      have hp : rangeF a b = ((⟨#[]⟩ : ByteArray), (40 : Int)) := by first | exact range_1 (by assumption) (by assumption) | exact range_2 (by assumption) (by assumption) | exact range_0 (by assumption)
      refine c_fin (I' := []) [] [2, 3, 4, 5, 6, 7, 8, 9, 10] rfl (.tmp rfl (.tmp rfl .nil)) rfl rfl rfl ?_
      rw [hp]
      exact ⟨rfl, rfl, rfl⟩
  ·
    refine st rfl (o_y (v := .tuple #[.string (⟨#[]⟩ : ByteArray), .iface 65 (.agg #[.int .i64 20, .iface 141 (.pointer (some el))])]) (y_mv rfl) rfl rfl rfl ?_)
    refine st rfl (o_y (v := .string (⟨#[]⟩ : ByteArray)) (y_k rfl rfl (fun _ => by kernel_rfl)) rfl rfl rfl ?_)
    refine st rfl (o_y (v := .iface 65 (.agg #[.int .i64 20, .iface 141 (.pointer (some el))])) (y_k rfl rfl (fun _ => by kernel_rfl)) rfl rfl rfl ?_)
    refine st rfl (o_y (v := .string (⟨#[]⟩ : ByteArray)) (y_as rfl) rfl rfl rfl ?_)
    refine st rfl (o_y (v := .iface 65 (.agg #[.int .i64 20, .iface 141 (.pointer (some el))])) (y_as rfl) rfl rfl rfl ?_)
    refine s_nil ?_
    refine q_then ?_
    refine c_seq ?_
    refine c_seq ?_
    refine c_region ?_
    refine st rfl (o_y (v := .iface 65 (.agg #[.int .i64 20, .iface 141 (.pointer (some el))])) (y_mv rfl) rfl rfl rfl ?_)
    refine st rfl (o_y (v := .bool false) (y_k rfl rfl (fun _ => by kernel_rfl)) rfl rfl rfl ?_)
    refine st rfl (o_y (v := .bool false) (y_mv rfl) rfl rfl rfl ?_)
    refine st_off 17 rfl rfl rfl rfl rfl rfl ?_
    refine st_off 17 rfl rfl rfl rfl rfl rfl ?_
    refine st_off 17 rfl rfl rfl rfl rfl rfl ?_
    refine st_off 17 rfl rfl rfl rfl rfl rfl ?_
    refine st rfl (o_y (v := .bool false) (y_pick rfl rfl) rfl rfl rfl ?_)
    refine s_nil ?_
    refine q_then ?_
    refine c_false rfl ?_
    refine c_skip ?_
    refine q_then ?_
    refine c_seq ?_
    refine c_seq ?_
    refine c_region ?_
    refine st rfl (o_y (v := .iface 65 (.agg #[.int .i64 20, .iface 141 (.pointer (some el))])) (y_mv rfl) rfl rfl rfl ?_)
    refine st rfl (o_y (v := .bool true) (y_k rfl rfl (fun _ => by kernel_rfl)) rfl rfl rfl ?_)
    refine s_nil ?_
    refine q_then ?_
    refine c_true rfl ?_
    refine c_seq ?_
    refine c_region ?_
    refine st rfl (o_y (v := .iface 65 (.agg #[.int .i64 20, .iface 141 (.pointer (some el))])) (y_mv rfl) rfl rfl rfl ?_)
    refine st rfl (o_call [] [8, 9, 10] (ltold_lab_ el) rfl rfl rfl rfl rfl rfl (fun v L' I' hq4 => ?_))
    obtain ⟨rfl, rfl, rfl⟩ := hq4
    refine st rfl (o_y (v := .string (⟨#[]⟩ : ByteArray)) (y_as rfl) rfl rfl rfl ?_)
    refine st rfl (o_y (v := .int .i64 20) (y_as rfl) rfl rfl rfl ?_)
    refine s_nil ?_
    refine q_then ?_
    refine c_ret ?_
    refine q_then_ret ?_
    have hp : rangeF a b = ((⟨#[]⟩ : ByteArray), 20) := by first | exact range_1 (by assumption) (by assumption) | exact range_2 (by assumption) (by assumption) | exact range_0 (by assumption)
    refine c_fin (I' := []) [] [2, 3, 4, 5, 6, 7, 8, 9, 10] rfl (.tmp rfl (.tmp rfl .nil)) rfl rfl rfl ?_
    rw [hp]
    exact ⟨rfl, rfl, rfl⟩
end Go.Proofs.YthoefkpbijcdeaaDoor
