/- The laws of chapter 17 (call), walked over the given program; no condition but what stands in each theorem: part LE. -/
import Derived.Test.YtcnncdniibkjkaaGreatDoorRLD
set_option linter.unusedVariables false
set_option linter.unusedSimpArgs false
set_option maxRecDepth 100000
set_option maxHeartbeats 8000000
namespace Go.Proofs.YtcnncdniibkjkaaGreatDoor
open Go Go.Sl Go.RowKit Go.Extern.Stop Go.Stop Go.Extern
theorem lPut_ (a : Lab) (ea : Addr) (em : Addr) (ef : Addr) (el : Addr) (h12 : ea ≠ em) (h13 : ea ≠ ef) (h23 : em ≠ ef) (h6a : lab64 a) : Con Tryz.prog 55 [.agg #[.int .i64 a.lv, .int .u64 (a.cs : Int), .int .i64 a.ig]] [] [cellsAt 2 0 [.iface 180 (.pointer (some ea))], cellsAt 3 0 [.iface 180 (.pointer (some em))], cellsAt 1 0 [.iface 180 (.pointer (some ef))], errAt ea, errAt em, errAt ef, cellsAt 4 0 [.iface 180 (.pointer (some el))], errAt el, cellsAt 0 0 [.iface 147 (.agg #[.pointer (some ⟨5, 48, none⟩)])]] (fun v L' I' => v = .tuple #[.string ((putL a).1), .int .i64 ((putL a).2)] ∧ L' = [] ∧ I' = []) := by
 refine fn_of Tryz.func55 rfl Tryz.ntmps55 (by kernel_rfl) rfl (fun C => ?_)
 refine c_seq (c_region ?_)
 refine st rfl (o_box (cs := [.int .i64 a.lv, .int .u64 (a.cs : Int), .int .i64 a.ig]) (T := 24) rfl rfl rfl rfl (fun _ => by kernel_rfl) (fun b1 => ?_))
 refine s_y rfl (v := .string (⟨#[]⟩ : ByteArray)) (y_as rfl) rfl ?_
 refine s_y rfl (v := .int .i64 0) (y_as rfl) rfl ?_
 refine s_nil (q_then (c_seq (c_region ?_)))
 refine st rfl (o_ldn 0 3 rfl rfl rfl rfl Tryz.underlying24 rfl (by kernel_rfl) (by kernel_rfl) rfl ?_)
 refine st rfl (o_lit (cs := [.int .i64 a.lv, .int .u64 (a.cs : Int), .int .i64 a.ig]) (T := 24) (m := 1) rfl rfl rfl rfl (fun _ => by kernel_rfl) (fun b2 => ?_))
 refine e_calm 0 rfl ?_
 refine e_lit labTy [a] 0 rfl rfl (by simp) ?_
 refine st rfl (o_call [] [0, 2, 3, 4, 5, 6, 7, 8, 9, 10] (lput_ (some ⟨b2, 0, none⟩) 1 [a] ea em ef el (by assumption) (by assumption) (by assumption) (by first | assumption | (intro x hx; simp only [List.mem_cons, List.not_mem_nil, or_false] at hx; subst hx; assumption) | (intro x hx; simp only [List.mem_cons, List.not_mem_nil, or_false] at hx; rcases hx with rfl | rfl <;> assumption)) (by first | omega | (simp; done) | (simp; omega) | assumption)) rfl rfl rfl rfl rfl rfl (fun v L' I' hq1 => ?_))
 rcases hq1 with ⟨h24, rfl, rfl, rfl⟩ | ⟨h25, rfl, rfl, rfl⟩
 ·
  refine s_y rfl (v := .tuple #[.string (encS [a]), .nilIface]) (y_mv rfl) rfl ?_
  refine s_y rfl (v := .string (encS [a])) (y_k rfl rfl (fun _ => by kernel_rfl)) rfl ?_
  refine s_y rfl (v := .nilIface) (y_k rfl rfl (fun _ => by kernel_rfl)) rfl ?_
  refine s_y rfl (v := .string (encS [a])) (y_as rfl) rfl ?_
  refine s_y rfl (v := .nilIface) (y_as rfl) rfl ?_
  refine s_nil (q_then (c_seq (c_region ?_)))
  refine s_y rfl (v := .string (encS [a])) (y_mv rfl) rfl ?_
  refine s_y rfl (v := .nilIface) (y_mv rfl) rfl ?_
  refine st rfl (o_call [] [8, 9, 10] (ltold_nil_ el) rfl rfl rfl rfl rfl rfl (fun v L' I' hq2 => ?_))
  obtain ⟨rfl, rfl, rfl⟩ := hq2
  refine s_y rfl (v := .string (encS [a])) (y_as rfl) rfl ?_
  refine s_y rfl (v := .int .i64 0) (y_as rfl) rfl ?_
  refine s_nil (q_then (c_ret ?_))
  have hp : putL a = (encS [a], 0) := by first | exact putL_1 (by assumption) | exact putL_0 (by assumption)
  refine c_fin (I' := []) [] [2, 3, 4, 5, 6, 7, 8, 9, 10] rfl (.tmp rfl (.tmp rfl .nil)) rfl rfl rfl ?_
  rw [hp]
  exact ⟨rfl, rfl, rfl⟩
 ·
  refine s_y rfl (v := .tuple #[.string (⟨#[]⟩ : ByteArray), .iface 165 (.agg #[.int .i64 20, .iface 180 (.pointer (some el))])]) (y_mv rfl) rfl ?_
  refine s_y rfl (v := .string (⟨#[]⟩ : ByteArray)) (y_k rfl rfl (fun _ => by kernel_rfl)) rfl ?_
  refine s_y rfl (v := .iface 165 (.agg #[.int .i64 20, .iface 180 (.pointer (some el))])) (y_k rfl rfl (fun _ => by kernel_rfl)) rfl ?_
  refine s_y rfl (v := .string (⟨#[]⟩ : ByteArray)) (y_as rfl) rfl ?_
  refine s_y rfl (v := .iface 165 (.agg #[.int .i64 20, .iface 180 (.pointer (some el))])) (y_as rfl) rfl ?_
  refine s_nil (q_then (c_seq (c_region ?_)))
  refine s_y rfl (v := .string (⟨#[]⟩ : ByteArray)) (y_mv rfl) rfl ?_
  refine s_y rfl (v := .iface 165 (.agg #[.int .i64 20, .iface 180 (.pointer (some el))])) (y_mv rfl) rfl ?_
  refine st rfl (o_call [] [8, 9, 10] (ltold_lab_ el) rfl rfl rfl rfl rfl rfl (fun v L' I' hq3 => ?_))
  obtain ⟨rfl, rfl, rfl⟩ := hq3
  refine s_y rfl (v := .string (⟨#[]⟩ : ByteArray)) (y_as rfl) rfl ?_
  refine s_y rfl (v := .int .i64 20) (y_as rfl) rfl ?_
  refine s_nil (q_then (c_ret ?_))
  have hp : putL a = ((⟨#[]⟩ : ByteArray), 20) := by first | exact putL_1 (by assumption) | exact putL_0 (by assumption)
  refine c_fin (I' := []) [] [2, 3, 4, 5, 6, 7, 8, 9, 10] rfl (.tmp rfl (.tmp rfl .nil)) rfl rfl rfl ?_
  rw [hp]
  exact ⟨rfl, rfl, rfl⟩
end Go.Proofs.YtcnncdniibkjkaaGreatDoor
