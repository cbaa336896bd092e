/- The laws of chapter 17 (call), walked over the given program; no condition but what stands in each theorem: part LNB. -/
import Derived.Test.YtcnncdniibkjkaaGreatDoorRCL
import Derived.Test.YtcnncdniibkjkaaGreatDoorRLNA
set_option linter.unusedVariables false
set_option linter.unusedSimpArgs false
set_option maxRecDepth 100000
set_option maxHeartbeats 8000000
namespace Go.Proofs.YtcnncdniibkjkaaGreatDoor
open Go Go.Sl Go.RowKit Go.Extern.Stop Go.Stop Go.Extern

def cutW (s : ByteArray) : ByteArray := s.extract 0 (min s.size 2010)
theorem cutW_size (s : ByteArray) : (cutW s).size ≤ 2010 := by unfold cutW; rw [ByteArray.size_extract]; omega
def shortW (s : ByteArray) : ByteArray := s.extract 0 (min s.size 210)
theorem shortW_size (s : ByteArray) : (shortW s).size ≤ 210 := by unfold shortW; rw [ByteArray.size_extract]; omega
def fewC (c : Cal) : Cal := ⟨c.op, c.lb, shortW c.nm, c.pl, c.nn, shortW c.da, c.id⟩
theorem putN_sm : ∀ (l : List UInt8) {m : Nat} {x : Wst}, wsm m x → wsm (m + 300 * l.length) (putN l x)
  | [], m, x, h => h
  | y :: l, m, x, h => by
    have ih := putN_sm l (wsm_put (y := y) h)
    unfold putN at *
    rw [List.foldl_cons]
    have e : m + 300 * (y :: l).length = m + 300 + 300 * l.length := by rw [List.length_cons]; omega
    rw [e]; exact ih
theorem callPut_size {c : Cal} (h6 : lab64 c.lb) (h1 : c.nm.size ≤ 100000) (h2 : c.da.size ≤ 100000) : (callPut c).1.size ≤ 1208 := by
  have h3 : wsm _ (putX c) := putN_sm (lts (signsF c.op)) (wsm_i h6 h1 h2)
  have h4 := signs_len c.op
  unfold callPut
  split
  · have := h3.1
    show (putX c).1.size ≤ 1208
    omega
  · exact Nat.zero_le _
theorem cutw_ (s : ByteArray) (hzs : s.size ≤ 9223372036854775807) : Con Tryz.prog 10 [.string s] [] [] (fun v L' I' => v = .string (cutW s) ∧ L' = [] ∧ I' = []) := by
 refine fn_of Tryz.func10 rfl Tryz.ntmps10 (by kernel_rfl) rfl (fun C => ?_)
 refine c_seq (c_region ?_)
 refine s_y rfl (v := .string (⟨#[]⟩ : ByteArray)) (y_as rfl) rfl ?_
 refine s_nil (q_then (c_seq (c_region ?_)))
 refine s_y rfl (v := .string s) (y_mv rfl) rfl ?_
 refine s_y rfl (v := .string s) (y_mv rfl) rfl ?_
 refine s_y rfl (v := .int .i64 (s.size : Int)) (y_k rfl rfl (fun _ => by kernel_rfl)) rfl ?_
 refine s_y rfl (v := .int .i64 ((min s.size 2010 : Nat) : Int)) (y_min2 s.size 2010 rfl rfl) rfl ?_
 refine s_y rfl (v := .string (s.extract 0 (min s.size 2010))) (y_cuts 0 (min s.size 2010) rfl .no (.at (min s.size 2010) rfl (rfl)) Tryz.underlying9 (by omega) (by omega)) rfl ?_
 refine s_y rfl (v := .string (s.extract 0 (min s.size 2010))) (y_as rfl) rfl ?_
 refine s_nil (q_then (c_ret ?_))
 have hp : cutW s = s.extract 0 (min s.size 2010) := by rfl
 refine c_fin (I' := []) [] [] rfl (.tmp rfl .nil) rfl rfl rfl ?_
 rw [hp]
 exact ⟨rfl, rfl, rfl⟩
theorem shortw_ (s : ByteArray) (hzs : s.size ≤ 9223372036854775807) : Con Tryz.prog 21 [.string s] [] [] (fun v L' I' => v = .string (shortW s) ∧ L' = [] ∧ I' = []) := by
 refine fn_of Tryz.func21 rfl Tryz.ntmps21 (by kernel_rfl) rfl (fun C => ?_)
 refine c_seq (c_region ?_)
 refine s_y rfl (v := .string (⟨#[]⟩ : ByteArray)) (y_as rfl) rfl ?_
 refine s_nil (q_then (c_seq (c_region ?_)))
 refine s_y rfl (v := .string s) (y_mv rfl) rfl ?_
 refine s_y rfl (v := .string s) (y_mv rfl) rfl ?_
 refine s_y rfl (v := .int .i64 (s.size : Int)) (y_k rfl rfl (fun _ => by kernel_rfl)) rfl ?_
 refine s_y rfl (v := .int .i64 ((min s.size 210 : Nat) : Int)) (y_min2 s.size 210 rfl rfl) rfl ?_
 refine s_y rfl (v := .string (s.extract 0 (min s.size 210))) (y_cuts 0 (min s.size 210) rfl .no (.at (min s.size 210) rfl (rfl)) Tryz.underlying9 (by omega) (by omega)) rfl ?_
 refine s_y rfl (v := .string (s.extract 0 (min s.size 210))) (y_as rfl) rfl ?_
 refine s_nil (q_then (c_ret ?_))
 have hp : shortW s = s.extract 0 (min s.size 210) := by rfl
 refine c_fin (I' := []) [] [] rfl (.tmp rfl .nil) rfl rfl rfl ?_
 rw [hp]
 exact ⟨rfl, rfl, rfl⟩
theorem fewc_ (c : Cal) (hz1 : c.nm.size ≤ 9223372036854775807) (hz2 : c.da.size ≤ 9223372036854775807) : Con Tryz.prog 6 [.agg #[.int .i64 c.op, .int .i64 c.lb.lv, .int .u64 (c.lb.cs : Int), .int .i64 c.lb.ig, .string c.nm, .int .i64 c.pl, .int .i64 c.nn, .string c.da, .int .i64 c.id]] [] [] (fun v L' I' => v = .agg #[.int .i64 ((fewC c).op), .int .i64 ((fewC c).lb.lv), .int .u64 ((fewC c).lb.cs : Int), .int .i64 ((fewC c).lb.ig), .string ((fewC c).nm), .int .i64 ((fewC c).pl), .int .i64 ((fewC c).nn), .string ((fewC c).da), .int .i64 ((fewC c).id)] ∧ L' = [] ∧ I' = []) := by
 refine fn_of Tryz.func6 rfl Tryz.ntmps6 (by kernel_rfl) rfl (fun C => ?_)
 refine c_seq (c_region ?_)
 refine st rfl (o_box (cs := [.int .i64 c.op, .int .i64 c.lb.lv, .int .u64 (c.lb.cs : Int), .int .i64 c.lb.ig, .string c.nm, .int .i64 c.pl, .int .i64 c.nn, .string c.da, .int .i64 c.id]) (T := 26) rfl rfl rfl rfl (fun _ => by kernel_rfl) (fun b1 => ?_))
 refine st rfl (o_box (cs := [.int .i64 0, .int .i64 0, .int .u64 0, .int .i64 0, .string (⟨#[]⟩ : ByteArray), .int .i64 0, .int .i64 0, .string (⟨#[]⟩ : ByteArray), .int .i64 0]) (T := 26) rfl rfl rfl rfl (fun _ => by kernel_rfl) (fun b2 => ?_))
 refine s_nil (q_then (c_seq (c_region ?_)))
 refine s_y rfl (v := .pointer (some ⟨b1, 4, none⟩)) (y_k rfl rfl (fun _ => by kernel_rfl)) rfl ?_
 refine st rfl (o_ld 1 rfl rfl rfl Tryz.underlying9 rfl rfl ?_)
 refine st rfl (o_call [] [] (shortw_ c.nm (by have := hz1; have := hz2; first | exact hz1 | exact hz2)) rfl rfl rfl rfl rfl rfl (fun v L' I' hq1 => ?_))
 obtain ⟨rfl, rfl, rfl⟩ := hq1
 refine s_y rfl (v := .pointer (some ⟨b1, 4, none⟩)) (y_k rfl rfl (fun _ => by kernel_rfl)) rfl ?_
 refine st rfl (o_st 1 rfl rfl rfl rfl rfl (by kernel_rfl) (by kernel_rfl) rfl ?_)
 refine s_nil (q_then (c_seq (c_region ?_)))
 refine s_y rfl (v := .pointer (some ⟨b1, 7, none⟩)) (y_k rfl rfl (fun _ => by kernel_rfl)) rfl ?_
 refine st rfl (o_ld 1 rfl rfl rfl Tryz.underlying9 rfl rfl ?_)
 refine st rfl (o_call [] [] (shortw_ c.da (by have := hz1; have := hz2; first | exact hz1 | exact hz2)) rfl rfl rfl rfl rfl rfl (fun v L' I' hq2 => ?_))
 obtain ⟨rfl, rfl, rfl⟩ := hq2
 refine s_y rfl (v := .pointer (some ⟨b1, 7, none⟩)) (y_k rfl rfl (fun _ => by kernel_rfl)) rfl ?_
 refine st rfl (o_st 1 rfl rfl rfl rfl rfl (by kernel_rfl) (by kernel_rfl) rfl ?_)
 refine s_nil (q_then (c_seq (c_region ?_)))
 refine st rfl (o_ldn 1 9 rfl rfl rfl rfl Tryz.underlying26 rfl (by kernel_rfl) (by kernel_rfl) rfl ?_)
 refine st rfl (o_st 0 rfl rfl rfl rfl rfl (by kernel_rfl) (by kernel_rfl) rfl ?_)
 refine s_nil (q_then (c_ret ?_))
 refine c_fin (I' := []) [] [] rfl (.agg 0 9 rfl rfl rfl rfl Tryz.underlying26 rfl (by kernel_rfl) (by kernel_rfl) .nil) rfl rfl rfl ?_
 exact ⟨rfl, rfl, rfl⟩
theorem shown_ (ea : Addr) (em : Addr) (ef : Addr) (el : Addr) (h12 : ea ≠ em) (h13 : ea ≠ ef) (h23 : em ≠ ef) : Con Tryz.prog 5 [] [] [cellsAt 2 0 [.iface 180 (.pointer (some ea))], cellsAt 3 0 [.iface 180 (.pointer (some em))], cellsAt 1 0 [.iface 180 (.pointer (some ef))], cellsAt 4 0 [.iface 180 (.pointer (some el))], errAt ea, errAt em, errAt ef, errAt el, cellsAt 0 0 [.iface 147 (.agg #[.pointer (some ⟨5, 48, none⟩)])]] (fun v L' I' => v = .bool true ∧ L' = [] ∧ I' = []) := by
 refine fn_of Tryz.func5 rfl Tryz.ntmps5 (by kernel_rfl) rfl (fun C => ?_)
 refine c_seq (c_region ?_)
 refine s_y rfl (v := .bool false) (y_as rfl) rfl ?_
 refine s_nil (q_then (c_seq (c_region ?_)))
 refine s_y rfl (v := .agg #[.int .i64 3, .int .i64 0, .int .u64 0, .int .i64 0, .string (⟨#[97]⟩ : ByteArray), .int .i64 0, .int .i64 20, .string (⟨#[]⟩ : ByteArray), .int .i64 2]) (y_k rfl rfl (fun _ => by kernel_rfl)) rfl ?_
 refine st rfl (o_box (cs := [.int .i64 0, .int .i64 0, .int .u64 0, .int .i64 0, .string (⟨#[]⟩ : ByteArray), .int .i64 0, .int .i64 0, .string (⟨#[]⟩ : ByteArray), .int .i64 0]) (T := 26) rfl rfl rfl rfl (fun _ => by kernel_rfl) (fun b1 => ?_))
 refine st rfl (o_st 0 rfl rfl rfl rfl rfl (by kernel_rfl) (by kernel_rfl) rfl ?_)
 refine s_nil (q_then (c_seq (c_region ?_)))
 refine st rfl (o_ldn 0 9 rfl rfl rfl rfl Tryz.underlying26 rfl (by kernel_rfl) (by kernel_rfl) rfl ?_)
 refine st rfl (o_call [] [0, 1, 2, 4, 5, 6, 3, 7, 8] (callPut_ (⟨3, (⟨0, 0, 0⟩ : Lab), (⟨#[97]⟩ : ByteArray), 0, 20, (⟨#[]⟩ : ByteArray), 2⟩ : Cal) ea em ef el (by assumption) (by assumption) (by assumption) (by show (0 : Nat) < 18446744073709551616; decide) (by decide +kernel) (by decide +kernel)) rfl rfl rfl rfl rfl rfl (fun v L' I' hq1 => ?_))
 obtain ⟨rfl, rfl, rfl⟩ := hq1
 refine s_y rfl (v := .tuple #[.string ((callPut (⟨3, (⟨0, 0, 0⟩ : Lab), (⟨#[97]⟩ : ByteArray), 0, 20, (⟨#[]⟩ : ByteArray), 2⟩ : Cal)).1), .int .i64 ((callPut (⟨3, (⟨0, 0, 0⟩ : Lab), (⟨#[97]⟩ : ByteArray), 0, 20, (⟨#[]⟩ : ByteArray), 2⟩ : Cal)).2)]) (y_mv rfl) rfl ?_
 refine s_y rfl (v := .string ((callPut (⟨3, (⟨0, 0, 0⟩ : Lab), (⟨#[97]⟩ : ByteArray), 0, 20, (⟨#[]⟩ : ByteArray), 2⟩ : Cal)).1)) (y_k rfl rfl (fun _ => by kernel_rfl)) rfl ?_
 refine s_y rfl (v := .int .i64 ((callPut (⟨3, (⟨0, 0, 0⟩ : Lab), (⟨#[97]⟩ : ByteArray), 0, 20, (⟨#[]⟩ : ByteArray), 2⟩ : Cal)).2)) (y_k rfl rfl (fun _ => by kernel_rfl)) rfl ?_
 refine s_y rfl (v := .string ((callPut (⟨3, (⟨0, 0, 0⟩ : Lab), (⟨#[97]⟩ : ByteArray), 0, 20, (⟨#[]⟩ : ByteArray), 2⟩ : Cal)).1)) (y_as rfl) rfl ?_
 refine s_y rfl (v := .int .i64 ((callPut (⟨3, (⟨0, 0, 0⟩ : Lab), (⟨#[97]⟩ : ByteArray), 0, 20, (⟨#[]⟩ : ByteArray), 2⟩ : Cal)).2)) (y_as rfl) rfl ?_
 refine s_nil (q_then (c_seq (c_region ?_)))
 refine s_y rfl (v := .string ((callPut (⟨3, (⟨0, 0, 0⟩ : Lab), (⟨#[97]⟩ : ByteArray), 0, 20, (⟨#[]⟩ : ByteArray), 2⟩ : Cal)).1)) (y_mv rfl) rfl ?_
 refine st rfl (o_call [] [0, 1, 2, 4, 5, 6, 3, 7, 8] (callGet_ ((callPut (⟨3, (⟨0, 0, 0⟩ : Lab), (⟨#[97]⟩ : ByteArray), 0, 20, (⟨#[]⟩ : ByteArray), 2⟩ : Cal)).1) ea em ef el (by assumption) (by assumption) (by assumption) (by decide +kernel)) rfl rfl rfl rfl rfl rfl (fun v L' I' hq2 => ?_))
 obtain ⟨rfl, rfl, rfl⟩ := hq2
 refine s_y rfl (v := .tuple #[.agg #[.int .i64 (((callGet ((callPut (⟨3, (⟨0, 0, 0⟩ : Lab), (⟨#[97]⟩ : ByteArray), 0, 20, (⟨#[]⟩ : ByteArray), 2⟩ : Cal)).1)).1).op), .int .i64 (((callGet ((callPut (⟨3, (⟨0, 0, 0⟩ : Lab), (⟨#[97]⟩ : ByteArray), 0, 20, (⟨#[]⟩ : ByteArray), 2⟩ : Cal)).1)).1).lb.lv), .int .u64 (((callGet ((callPut (⟨3, (⟨0, 0, 0⟩ : Lab), (⟨#[97]⟩ : ByteArray), 0, 20, (⟨#[]⟩ : ByteArray), 2⟩ : Cal)).1)).1).lb.cs : Int), .int .i64 (((callGet ((callPut (⟨3, (⟨0, 0, 0⟩ : Lab), (⟨#[97]⟩ : ByteArray), 0, 20, (⟨#[]⟩ : ByteArray), 2⟩ : Cal)).1)).1).lb.ig), .string (((callGet ((callPut (⟨3, (⟨0, 0, 0⟩ : Lab), (⟨#[97]⟩ : ByteArray), 0, 20, (⟨#[]⟩ : ByteArray), 2⟩ : Cal)).1)).1).nm), .int .i64 (((callGet ((callPut (⟨3, (⟨0, 0, 0⟩ : Lab), (⟨#[97]⟩ : ByteArray), 0, 20, (⟨#[]⟩ : ByteArray), 2⟩ : Cal)).1)).1).pl), .int .i64 (((callGet ((callPut (⟨3, (⟨0, 0, 0⟩ : Lab), (⟨#[97]⟩ : ByteArray), 0, 20, (⟨#[]⟩ : ByteArray), 2⟩ : Cal)).1)).1).nn), .string (((callGet ((callPut (⟨3, (⟨0, 0, 0⟩ : Lab), (⟨#[97]⟩ : ByteArray), 0, 20, (⟨#[]⟩ : ByteArray), 2⟩ : Cal)).1)).1).da), .int .i64 (((callGet ((callPut (⟨3, (⟨0, 0, 0⟩ : Lab), (⟨#[97]⟩ : ByteArray), 0, 20, (⟨#[]⟩ : ByteArray), 2⟩ : Cal)).1)).1).id)], .int .i64 ((callGet ((callPut (⟨3, (⟨0, 0, 0⟩ : Lab), (⟨#[97]⟩ : ByteArray), 0, 20, (⟨#[]⟩ : ByteArray), 2⟩ : Cal)).1)).2)]) (y_mv rfl) rfl ?_
 refine s_y rfl (v := .agg #[.int .i64 (((callGet ((callPut (⟨3, (⟨0, 0, 0⟩ : Lab), (⟨#[97]⟩ : ByteArray), 0, 20, (⟨#[]⟩ : ByteArray), 2⟩ : Cal)).1)).1).op), .int .i64 (((callGet ((callPut (⟨3, (⟨0, 0, 0⟩ : Lab), (⟨#[97]⟩ : ByteArray), 0, 20, (⟨#[]⟩ : ByteArray), 2⟩ : Cal)).1)).1).lb.lv), .int .u64 (((callGet ((callPut (⟨3, (⟨0, 0, 0⟩ : Lab), (⟨#[97]⟩ : ByteArray), 0, 20, (⟨#[]⟩ : ByteArray), 2⟩ : Cal)).1)).1).lb.cs : Int), .int .i64 (((callGet ((callPut (⟨3, (⟨0, 0, 0⟩ : Lab), (⟨#[97]⟩ : ByteArray), 0, 20, (⟨#[]⟩ : ByteArray), 2⟩ : Cal)).1)).1).lb.ig), .string (((callGet ((callPut (⟨3, (⟨0, 0, 0⟩ : Lab), (⟨#[97]⟩ : ByteArray), 0, 20, (⟨#[]⟩ : ByteArray), 2⟩ : Cal)).1)).1).nm), .int .i64 (((callGet ((callPut (⟨3, (⟨0, 0, 0⟩ : Lab), (⟨#[97]⟩ : ByteArray), 0, 20, (⟨#[]⟩ : ByteArray), 2⟩ : Cal)).1)).1).pl), .int .i64 (((callGet ((callPut (⟨3, (⟨0, 0, 0⟩ : Lab), (⟨#[97]⟩ : ByteArray), 0, 20, (⟨#[]⟩ : ByteArray), 2⟩ : Cal)).1)).1).nn), .string (((callGet ((callPut (⟨3, (⟨0, 0, 0⟩ : Lab), (⟨#[97]⟩ : ByteArray), 0, 20, (⟨#[]⟩ : ByteArray), 2⟩ : Cal)).1)).1).da), .int .i64 (((callGet ((callPut (⟨3, (⟨0, 0, 0⟩ : Lab), (⟨#[97]⟩ : ByteArray), 0, 20, (⟨#[]⟩ : ByteArray), 2⟩ : Cal)).1)).1).id)]) (y_k rfl rfl (fun _ => by kernel_rfl)) rfl ?_
 refine s_y rfl (v := .int .i64 ((callGet ((callPut (⟨3, (⟨0, 0, 0⟩ : Lab), (⟨#[97]⟩ : ByteArray), 0, 20, (⟨#[]⟩ : ByteArray), 2⟩ : Cal)).1)).2)) (y_k rfl rfl (fun _ => by kernel_rfl)) rfl ?_
 refine st rfl (o_box (cs := [.int .i64 0, .int .i64 0, .int .u64 0, .int .i64 0, .string (⟨#[]⟩ : ByteArray), .int .i64 0, .int .i64 0, .string (⟨#[]⟩ : ByteArray), .int .i64 0]) (T := 26) rfl rfl rfl rfl (fun _ => by kernel_rfl) (fun b2 => ?_))
 refine st rfl (o_st 0 rfl rfl rfl rfl rfl (by kernel_rfl) (by kernel_rfl) rfl ?_)
 refine s_y rfl (v := .int .i64 ((callGet ((callPut (⟨3, (⟨0, 0, 0⟩ : Lab), (⟨#[97]⟩ : ByteArray), 0, 20, (⟨#[]⟩ : ByteArray), 2⟩ : Cal)).1)).2)) (y_as rfl) rfl ?_
 refine s_nil (q_then (c_seq (c_region ?_)))
 refine s_y rfl (v := .string ((callPut (⟨3, (⟨0, 0, 0⟩ : Lab), (⟨#[97]⟩ : ByteArray), 0, 20, (⟨#[]⟩ : ByteArray), 2⟩ : Cal)).1)) (y_mv rfl) rfl ?_
 refine s_y rfl (v := .string (((callPut (⟨3, (⟨0, 0, 0⟩ : Lab), (⟨#[97]⟩ : ByteArray), 0, 20, (⟨#[]⟩ : ByteArray), 2⟩ : Cal)).1) ++ (⟨#[120]⟩ : ByteArray))) (y_cat (s := (callPut (⟨3, (⟨0, 0, 0⟩ : Lab), (⟨#[97]⟩ : ByteArray), 0, 20, (⟨#[]⟩ : ByteArray), 2⟩ : Cal)).1) (u := (⟨#[120]⟩ : ByteArray)) rfl rfl (by have := callPut_size (c := ⟨3, ⟨0, 0, 0⟩, ⟨#[97]⟩, 0, 20, ⟨#[]⟩, 2⟩) (by show (0 : Nat) < 18446744073709551616; decide) (by decide +kernel) (by decide +kernel); have h2 : (⟨#[120]⟩ : ByteArray).size = 1 := rfl; omega)) rfl ?_
 refine st rfl (o_call [] [0, 1, 2, 4, 5, 6, 3, 7, 8] (callGet_ (((callPut (⟨3, (⟨0, 0, 0⟩ : Lab), (⟨#[97]⟩ : ByteArray), 0, 20, (⟨#[]⟩ : ByteArray), 2⟩ : Cal)).1) ++ (⟨#[120]⟩ : ByteArray)) ea em ef el (by assumption) (by assumption) (by assumption) (by decide +kernel)) rfl rfl rfl rfl rfl rfl (fun v L' I' hq3 => ?_))
 obtain ⟨rfl, rfl, rfl⟩ := hq3
 refine s_y rfl (v := .tuple #[.agg #[.int .i64 (((callGet (((callPut (⟨3, (⟨0, 0, 0⟩ : Lab), (⟨#[97]⟩ : ByteArray), 0, 20, (⟨#[]⟩ : ByteArray), 2⟩ : Cal)).1) ++ (⟨#[120]⟩ : ByteArray))).1).op), .int .i64 (((callGet (((callPut (⟨3, (⟨0, 0, 0⟩ : Lab), (⟨#[97]⟩ : ByteArray), 0, 20, (⟨#[]⟩ : ByteArray), 2⟩ : Cal)).1) ++ (⟨#[120]⟩ : ByteArray))).1).lb.lv), .int .u64 (((callGet (((callPut (⟨3, (⟨0, 0, 0⟩ : Lab), (⟨#[97]⟩ : ByteArray), 0, 20, (⟨#[]⟩ : ByteArray), 2⟩ : Cal)).1) ++ (⟨#[120]⟩ : ByteArray))).1).lb.cs : Int), .int .i64 (((callGet (((callPut (⟨3, (⟨0, 0, 0⟩ : Lab), (⟨#[97]⟩ : ByteArray), 0, 20, (⟨#[]⟩ : ByteArray), 2⟩ : Cal)).1) ++ (⟨#[120]⟩ : ByteArray))).1).lb.ig), .string (((callGet (((callPut (⟨3, (⟨0, 0, 0⟩ : Lab), (⟨#[97]⟩ : ByteArray), 0, 20, (⟨#[]⟩ : ByteArray), 2⟩ : Cal)).1) ++ (⟨#[120]⟩ : ByteArray))).1).nm), .int .i64 (((callGet (((callPut (⟨3, (⟨0, 0, 0⟩ : Lab), (⟨#[97]⟩ : ByteArray), 0, 20, (⟨#[]⟩ : ByteArray), 2⟩ : Cal)).1) ++ (⟨#[120]⟩ : ByteArray))).1).pl), .int .i64 (((callGet (((callPut (⟨3, (⟨0, 0, 0⟩ : Lab), (⟨#[97]⟩ : ByteArray), 0, 20, (⟨#[]⟩ : ByteArray), 2⟩ : Cal)).1) ++ (⟨#[120]⟩ : ByteArray))).1).nn), .string (((callGet (((callPut (⟨3, (⟨0, 0, 0⟩ : Lab), (⟨#[97]⟩ : ByteArray), 0, 20, (⟨#[]⟩ : ByteArray), 2⟩ : Cal)).1) ++ (⟨#[120]⟩ : ByteArray))).1).da), .int .i64 (((callGet (((callPut (⟨3, (⟨0, 0, 0⟩ : Lab), (⟨#[97]⟩ : ByteArray), 0, 20, (⟨#[]⟩ : ByteArray), 2⟩ : Cal)).1) ++ (⟨#[120]⟩ : ByteArray))).1).id)], .int .i64 ((callGet (((callPut (⟨3, (⟨0, 0, 0⟩ : Lab), (⟨#[97]⟩ : ByteArray), 0, 20, (⟨#[]⟩ : ByteArray), 2⟩ : Cal)).1) ++ (⟨#[120]⟩ : ByteArray))).2)]) (y_mv rfl) rfl ?_
 refine s_y rfl (v := .agg #[.int .i64 (((callGet (((callPut (⟨3, (⟨0, 0, 0⟩ : Lab), (⟨#[97]⟩ : ByteArray), 0, 20, (⟨#[]⟩ : ByteArray), 2⟩ : Cal)).1) ++ (⟨#[120]⟩ : ByteArray))).1).op), .int .i64 (((callGet (((callPut (⟨3, (⟨0, 0, 0⟩ : Lab), (⟨#[97]⟩ : ByteArray), 0, 20, (⟨#[]⟩ : ByteArray), 2⟩ : Cal)).1) ++ (⟨#[120]⟩ : ByteArray))).1).lb.lv), .int .u64 (((callGet (((callPut (⟨3, (⟨0, 0, 0⟩ : Lab), (⟨#[97]⟩ : ByteArray), 0, 20, (⟨#[]⟩ : ByteArray), 2⟩ : Cal)).1) ++ (⟨#[120]⟩ : ByteArray))).1).lb.cs : Int), .int .i64 (((callGet (((callPut (⟨3, (⟨0, 0, 0⟩ : Lab), (⟨#[97]⟩ : ByteArray), 0, 20, (⟨#[]⟩ : ByteArray), 2⟩ : Cal)).1) ++ (⟨#[120]⟩ : ByteArray))).1).lb.ig), .string (((callGet (((callPut (⟨3, (⟨0, 0, 0⟩ : Lab), (⟨#[97]⟩ : ByteArray), 0, 20, (⟨#[]⟩ : ByteArray), 2⟩ : Cal)).1) ++ (⟨#[120]⟩ : ByteArray))).1).nm), .int .i64 (((callGet (((callPut (⟨3, (⟨0, 0, 0⟩ : Lab), (⟨#[97]⟩ : ByteArray), 0, 20, (⟨#[]⟩ : ByteArray), 2⟩ : Cal)).1) ++ (⟨#[120]⟩ : ByteArray))).1).pl), .int .i64 (((callGet (((callPut (⟨3, (⟨0, 0, 0⟩ : Lab), (⟨#[97]⟩ : ByteArray), 0, 20, (⟨#[]⟩ : ByteArray), 2⟩ : Cal)).1) ++ (⟨#[120]⟩ : ByteArray))).1).nn), .string (((callGet (((callPut (⟨3, (⟨0, 0, 0⟩ : Lab), (⟨#[97]⟩ : ByteArray), 0, 20, (⟨#[]⟩ : ByteArray), 2⟩ : Cal)).1) ++ (⟨#[120]⟩ : ByteArray))).1).da), .int .i64 (((callGet (((callPut (⟨3, (⟨0, 0, 0⟩ : Lab), (⟨#[97]⟩ : ByteArray), 0, 20, (⟨#[]⟩ : ByteArray), 2⟩ : Cal)).1) ++ (⟨#[120]⟩ : ByteArray))).1).id)]) (y_k rfl rfl (fun _ => by kernel_rfl)) rfl ?_
 refine s_y rfl (v := .int .i64 ((callGet (((callPut (⟨3, (⟨0, 0, 0⟩ : Lab), (⟨#[97]⟩ : ByteArray), 0, 20, (⟨#[]⟩ : ByteArray), 2⟩ : Cal)).1) ++ (⟨#[120]⟩ : ByteArray))).2)) (y_k rfl rfl (fun _ => by kernel_rfl)) rfl ?_
 refine st rfl (o_box (cs := [.int .i64 0, .int .i64 0, .int .u64 0, .int .i64 0, .string (⟨#[]⟩ : ByteArray), .int .i64 0, .int .i64 0, .string (⟨#[]⟩ : ByteArray), .int .i64 0]) (T := 26) rfl rfl rfl rfl (fun _ => by kernel_rfl) (fun b3 => ?_))
 refine st rfl (o_st 0 rfl rfl rfl rfl rfl (by kernel_rfl) (by kernel_rfl) rfl ?_)
 refine s_y rfl (v := .int .i64 ((callGet (((callPut (⟨3, (⟨0, 0, 0⟩ : Lab), (⟨#[97]⟩ : ByteArray), 0, 20, (⟨#[]⟩ : ByteArray), 2⟩ : Cal)).1) ++ (⟨#[120]⟩ : ByteArray))).2)) (y_as rfl) rfl ?_
 refine s_nil (q_then (c_seq (c_region ?_)))
 refine s_y rfl (v := .agg #[.int .i64 1, .int .i64 0, .int .u64 0, .int .i64 0, .string (⟨#[]⟩ : ByteArray), .int .i64 0, .int .i64 1, .string (⟨#[]⟩ : ByteArray), .int .i64 0]) (y_k rfl rfl (fun _ => by kernel_rfl)) rfl ?_
 refine st rfl (o_call [] [0, 1, 2, 4, 5, 6, 3, 7, 8] (callPut_ (⟨1, (⟨0, 0, 0⟩ : Lab), (⟨#[]⟩ : ByteArray), 0, 1, (⟨#[]⟩ : ByteArray), 0⟩ : Cal) ea em ef el (by assumption) (by assumption) (by assumption) (by show (0 : Nat) < 18446744073709551616; decide) (by decide +kernel) (by decide +kernel)) rfl rfl rfl rfl rfl rfl (fun v L' I' hq4 => ?_))
 obtain ⟨rfl, rfl, rfl⟩ := hq4
 refine s_y rfl (v := .tuple #[.string ((callPut (⟨1, (⟨0, 0, 0⟩ : Lab), (⟨#[]⟩ : ByteArray), 0, 1, (⟨#[]⟩ : ByteArray), 0⟩ : Cal)).1), .int .i64 ((callPut (⟨1, (⟨0, 0, 0⟩ : Lab), (⟨#[]⟩ : ByteArray), 0, 1, (⟨#[]⟩ : ByteArray), 0⟩ : Cal)).2)]) (y_mv rfl) rfl ?_
 refine s_y rfl (v := .string ((callPut (⟨1, (⟨0, 0, 0⟩ : Lab), (⟨#[]⟩ : ByteArray), 0, 1, (⟨#[]⟩ : ByteArray), 0⟩ : Cal)).1)) (y_k rfl rfl (fun _ => by kernel_rfl)) rfl ?_
 refine s_y rfl (v := .int .i64 ((callPut (⟨1, (⟨0, 0, 0⟩ : Lab), (⟨#[]⟩ : ByteArray), 0, 1, (⟨#[]⟩ : ByteArray), 0⟩ : Cal)).2)) (y_k rfl rfl (fun _ => by kernel_rfl)) rfl ?_
 refine s_y rfl (v := .string ((callPut (⟨1, (⟨0, 0, 0⟩ : Lab), (⟨#[]⟩ : ByteArray), 0, 1, (⟨#[]⟩ : ByteArray), 0⟩ : Cal)).1)) (y_as rfl) rfl ?_
 refine s_y rfl (v := .int .i64 ((callPut (⟨1, (⟨0, 0, 0⟩ : Lab), (⟨#[]⟩ : ByteArray), 0, 1, (⟨#[]⟩ : ByteArray), 0⟩ : Cal)).2)) (y_as rfl) rfl ?_
 refine s_nil (q_then (c_seq (c_region ?_)))
 refine s_y rfl (v := .string ((callPut (⟨3, (⟨0, 0, 0⟩ : Lab), (⟨#[97]⟩ : ByteArray), 0, 20, (⟨#[]⟩ : ByteArray), 2⟩ : Cal)).1)) (y_mv rfl) rfl ?_
 have h24 : (callPut (⟨3, (⟨0, 0, 0⟩ : Lab), (⟨#[97]⟩ : ByteArray), 0, 20, (⟨#[]⟩ : ByteArray), 2⟩ : Cal)).1 = (⟨#[3, 1, 97, 2, 0, 20]⟩ : ByteArray) := by decide +kernel
 refine s_y rfl (v := .bool true) (y_b (y_k (v := .bool (((callPut (⟨3, (⟨0, 0, 0⟩ : Lab), (⟨#[97]⟩ : ByteArray), 0, 20, (⟨#[]⟩ : ByteArray), 2⟩ : Cal)).1).toList == (⟨#[3, 1, 97, 2, 0, 20]⟩ : ByteArray).toList)) rfl rfl (fun _ => by kernel_rfl)) (str_t h24)) rfl ?_
 refine s_y rfl (v := .bool true) (y_mv rfl) rfl ?_
 refine st_on 34 rfl rfl rfl (o_y (v := .int .i64 ((callPut (⟨3, (⟨0, 0, 0⟩ : Lab), (⟨#[97]⟩ : ByteArray), 0, 20, (⟨#[]⟩ : ByteArray), 2⟩ : Cal)).2)) (y_mv rfl) rfl rfl rfl ?_)
 have h25 : (callPut (⟨3, (⟨0, 0, 0⟩ : Lab), (⟨#[97]⟩ : ByteArray), 0, 20, (⟨#[]⟩ : ByteArray), 2⟩ : Cal)).2 = 0 := by decide +kernel
 refine st_on 34 rfl rfl rfl (o_y (v := .bool true) (y_t (y_k (v := .bool (decide ((callPut (⟨3, (⟨0, 0, 0⟩ : Lab), (⟨#[97]⟩ : ByteArray), 0, 20, (⟨#[]⟩ : ByteArray), 2⟩ : Cal)).2 = 0))) rfl rfl (fun _ => by kernel_rfl)) h25) rfl rfl rfl ?_)
 refine s_y rfl (v := .bool true) (y_pick rfl rfl) rfl ?_
 refine s_y rfl (v := .bool true) (y_mv rfl) rfl ?_
 refine st_on 38 rfl rfl rfl (o_ldn 1 9 rfl rfl rfl rfl Tryz.underlying26 rfl (by kernel_rfl) (by kernel_rfl) rfl ?_)
 refine st_on 38 rfl rfl rfl (o_ldn 2 9 rfl rfl rfl rfl Tryz.underlying26 rfl (by kernel_rfl) (by kernel_rfl) rfl ?_)
 have h26 : (callGet (callPut (⟨3, (⟨0, 0, 0⟩ : Lab), (⟨#[97]⟩ : ByteArray), 0, 20, (⟨#[]⟩ : ByteArray), 2⟩ : Cal)).1).1 = (⟨3, (⟨0, 0, 0⟩ : Lab), (⟨#[97]⟩ : ByteArray), 0, 20, (⟨#[]⟩ : ByteArray), 2⟩ : Cal) := by decide +kernel
 refine st_on 38 rfl rfl rfl (o_y (v := .bool true) (y_t (y_bin rfl rfl (fun w => eq_Cal ((callGet (callPut (⟨3, (⟨0, 0, 0⟩ : Lab), (⟨#[97]⟩ : ByteArray), 0, 20, (⟨#[]⟩ : ByteArray), 2⟩ : Cal)).1).1) (⟨3, (⟨0, 0, 0⟩ : Lab), (⟨#[97]⟩ : ByteArray), 0, 20, (⟨#[]⟩ : ByteArray), 2⟩ : Cal) w)) h26) rfl rfl rfl ?_)
 refine s_y rfl (v := .bool true) (y_pick rfl rfl) rfl ?_
 refine s_y rfl (v := .bool true) (y_mv rfl) rfl ?_
 refine st_on 43 rfl rfl rfl (o_y (v := .int .i64 ((callGet ((callPut (⟨3, (⟨0, 0, 0⟩ : Lab), (⟨#[97]⟩ : ByteArray), 0, 20, (⟨#[]⟩ : ByteArray), 2⟩ : Cal)).1)).2)) (y_mv rfl) rfl rfl rfl ?_)
 have h27 : (callGet ((callPut (⟨3, (⟨0, 0, 0⟩ : Lab), (⟨#[97]⟩ : ByteArray), 0, 20, (⟨#[]⟩ : ByteArray), 2⟩ : Cal)).1)).2 = 0 := by decide +kernel
 refine st_on 43 rfl rfl rfl (o_y (v := .bool true) (y_t (y_k (v := .bool (decide ((callGet ((callPut (⟨3, (⟨0, 0, 0⟩ : Lab), (⟨#[97]⟩ : ByteArray), 0, 20, (⟨#[]⟩ : ByteArray), 2⟩ : Cal)).1)).2 = 0))) rfl rfl (fun _ => by kernel_rfl)) h27) rfl rfl rfl ?_)
 refine s_y rfl (v := .bool true) (y_pick rfl rfl) rfl ?_
 refine s_y rfl (v := .bool true) (y_mv rfl) rfl ?_
 refine st_on 47 rfl rfl rfl (o_y (v := .int .i64 ((callGet (((callPut (⟨3, (⟨0, 0, 0⟩ : Lab), (⟨#[97]⟩ : ByteArray), 0, 20, (⟨#[]⟩ : ByteArray), 2⟩ : Cal)).1) ++ (⟨#[120]⟩ : ByteArray))).2)) (y_mv rfl) rfl rfl rfl ?_)
 have h28 : (callGet (((callPut (⟨3, (⟨0, 0, 0⟩ : Lab), (⟨#[97]⟩ : ByteArray), 0, 20, (⟨#[]⟩ : ByteArray), 2⟩ : Cal)).1) ++ (⟨#[120]⟩ : ByteArray))).2 = 170 := by decide +kernel
 refine st_on 47 rfl rfl rfl (o_y (v := .bool true) (y_t (y_k (v := .bool (decide ((callGet (((callPut (⟨3, (⟨0, 0, 0⟩ : Lab), (⟨#[97]⟩ : ByteArray), 0, 20, (⟨#[]⟩ : ByteArray), 2⟩ : Cal)).1) ++ (⟨#[120]⟩ : ByteArray))).2 = 170))) rfl rfl (fun _ => by kernel_rfl)) h28) rfl rfl rfl ?_)
 refine s_y rfl (v := .bool true) (y_pick rfl rfl) rfl ?_
 refine s_y rfl (v := .bool true) (y_mv rfl) rfl ?_
 refine st_on 51 rfl rfl rfl (o_y (v := .int .i64 ((callPut (⟨1, (⟨0, 0, 0⟩ : Lab), (⟨#[]⟩ : ByteArray), 0, 1, (⟨#[]⟩ : ByteArray), 0⟩ : Cal)).2)) (y_mv rfl) rfl rfl rfl ?_)
 have h29 : (callPut (⟨1, (⟨0, 0, 0⟩ : Lab), (⟨#[]⟩ : ByteArray), 0, 1, (⟨#[]⟩ : ByteArray), 0⟩ : Cal)).2 = 170 := by decide +kernel
 refine st_on 51 rfl rfl rfl (o_y (v := .bool true) (y_t (y_k (v := .bool (decide ((callPut (⟨1, (⟨0, 0, 0⟩ : Lab), (⟨#[]⟩ : ByteArray), 0, 1, (⟨#[]⟩ : ByteArray), 0⟩ : Cal)).2 = 170))) rfl rfl (fun _ => by kernel_rfl)) h29) rfl rfl rfl ?_)
 refine s_y rfl (v := .bool true) (y_pick rfl rfl) rfl ?_
 refine s_y rfl (v := .bool true) (y_mv rfl) rfl ?_
 refine st_on 55 rfl rfl rfl (o_call [] [] (floats_ (5 : Int)) rfl rfl rfl rfl rfl rfl (fun v L' I' hq5 => ?_))
 obtain ⟨hv1, rfl, rfl⟩ := hq5
 obtain rfl : v = .bool true := by rw [hv1, decide_eq_true (show (5 : Int) = 5 ∨ (5 : Int) = 8 ∨ (5 : Int) = 15 ∨ (5 : Int) = 16 from by decide +kernel)]
 refine s_y rfl (v := .bool true) (y_pick rfl rfl) rfl ?_
 refine s_y rfl (v := .bool true) (y_as rfl) rfl ?_
 refine s_nil (q_then (c_ret ?_))
 refine c_fin (I' := []) [] [0, 1, 2, 3, 4, 5, 6, 7, 8] rfl (.tmp rfl .nil) rfl rfl rfl ?_
 exact ⟨rfl, rfl, rfl⟩
end Go.Proofs.YtcnncdniibkjkaaGreatDoor
