/- The laws of chapter 3 (field), walked over the given program; no condition but what stands in each theorem: part UPacks. -/
import Derived.Test.YtpfadknajnedoaaDoorRR
import Derived.Test.YtpfadknajnedoaaDoorRS
import Derived.Test.YtpfadknajnedoaaDoorRUCodes
set_option linter.unusedVariables false
set_option linter.unusedSimpArgs false
set_option maxRecDepth 100000
set_option maxHeartbeats 8000000
namespace Go.Proofs.YtpfadknajnedoaaDoor
open Go Go.Sl Go.RowKit Go.Extern.Stop Go.Stop Go.Extern
theorem FieldPacks_ (ea : Addr) (em : Addr) (ef : Addr) (h12 : ea ≠ em) (h13 : ea ≠ ef) (h23 : em ≠ ef) (A : Option Addr) (c : Nat) (ws : List Int) (B : Option Addr) (d : Nat) (l : List Nat) (s : ByteArray) (h64 : ∀ x ∈ l, x < 18446744073709551616) (zs : s.size ≤ 9223372036854775807) : Con Tryd.prog 8 [.slice A ws.length c, .slice B l.length d, .string s] [] [rd intTy A c ws, rd u64Ty B d l, cellsAt 1 0 [.iface 107 (.pointer (some ea))], cellsAt 2 0 [.iface 107 (.pointer (some em))], cellsAt 0 0 [.iface 107 (.pointer (some ef))], errAt ea, errAt em, errAt ef, cellsAt 3 0 [.iface 92 (.agg #[.pointer (some ⟨4, 47, none⟩)])]] (fun v L' I' => v = .bool true ∧ L' = [] ∧ I' = []) := by
  have cs := cutS_size s
  have k1 : (ws.take (min ws.length 20)).length ≤ 20 := by rw [List.length_take]; omega
  have k2 : (l.take (min l.length 20)).length ≤ 20 := by rw [List.length_take]; omega
  have p1 := packF_size (ws.take (min ws.length 20)) (l.take (min l.length 20))
  have k3 := unpack_len (ws.take (min ws.length 20)) (cutS s)
  refine fn_of Tryd.func8 rfl Tryd.ntmps8 (by kernel_rfl) rfl (fun C => ?_)
  refine c_seq ?_
  refine c_region ?_
  refine st rfl (o_y (v := .bool false) (y_as rfl) rfl rfl rfl ?_)
  refine s_nil ?_
  refine q_then ?_
  refine c_seq ?_
  refine c_region ?_
  refine st rfl (o_call [] [2, 3, 4, 5, 6, 7, 8] (shown_ ea em ef (by assumption) (by assumption) (by assumption)) rfl rfl rfl rfl rfl rfl (fun v L' I' hq1 => ?_))
  obtain ⟨rfl, rfl, rfl⟩ := hq1
  refine st rfl (o_y (v := .bool true) (y_as rfl) rfl rfl rfl ?_)
  refine s_nil ?_
  refine q_then ?_
  refine c_seq ?_
  refine c_region ?_
  refine st rfl (o_y (v := .slice B l.length d) (y_mv rfl) rfl rfl rfl ?_)
  refine st rfl (o_y (v := .slice B l.length d) (y_mv rfl) rfl rfl rfl ?_)
  refine st rfl (o_y (v := .int .i64 (l.length : Int)) (y_k rfl rfl (fun _ => by kernel_rfl)) rfl rfl rfl ?_)
  refine st rfl (o_y (v := .int .i64 ((min l.length 20 : Nat) : Int)) (y_min2 l.length 20 rfl rfl) rfl rfl rfl ?_)
  refine e_len 1 rfl (fun h65 h66 => ?_)
  refine e_cut2 (l2 := l.take (min l.length 20)) 1 0 (min l.length 20) d (by simp) rfl (by omega) (by omega) (by omega) ?_
  refine st rfl (o_y (v := .slice (cutA u64Ty B 0 d) (l.take (min l.length 20)).length (d - 0)) (y_cut (d := u64Ty) (l := l) (l2 := l.take (min l.length 20)) 0 (min l.length 20) d (by simp) rfl rfl .no (.at (min l.length 20) rfl (rfl)) .no (by simp) Tryd.underlying39 (by kernel_rfl) (by kernel_rfl) (by omega) (by omega) (by omega) (by omega)) rfl rfl rfl ?_)
  refine st rfl (o_y (v := .slice (cutA u64Ty B 0 d) (l.take (min l.length 20)).length (d - 0)) (y_as rfl) rfl rfl rfl ?_)
  refine s_nil ?_
  refine q_then ?_
  refine c_seq ?_
  refine c_region ?_
  refine st rfl (o_y (v := .slice A ws.length c) (y_mv rfl) rfl rfl rfl ?_)
  refine st rfl (o_call [] [1] (few_ A c ws) rfl rfl rfl rfl rfl rfl (fun v L' I' hq2 => ?_))
  obtain ⟨A1, c1, rfl, rfl, rfl⟩ := hq2
  refine st rfl (o_y (v := .slice (cutA u64Ty B 0 d) (l.take (min l.length 20)).length (d - 0)) (y_mv rfl) rfl rfl rfl ?_)
  refine st rfl (o_call [] [0, 1, 4, 5, 6, 7, 8, 9, 10] (Pack_ A1 c1 (ws.take (min ws.length 20)) (cutA u64Ty B 0 d) (d - 0) (l.take (min l.length 20)) ea em ef (by assumption) (by assumption) (by assumption) (by first | assumption | omega) (by first | assumption | omega) (by first | assumption | exact fun x hx => h64 x (List.mem_of_mem_take hx))) rfl rfl rfl rfl rfl rfl (fun v L' I' hq3 => ?_))
  obtain ⟨rfl, rfl, rfl⟩ := hq3
  refine st rfl (o_y (v := .tuple #[.string ((packF (ws.take (min ws.length 20)) (l.take (min l.length 20))).1), .int .i64 ((packF (ws.take (min ws.length 20)) (l.take (min l.length 20))).2)]) (y_mv rfl) rfl rfl rfl ?_)
  refine st rfl (o_y (v := .string ((packF (ws.take (min ws.length 20)) (l.take (min l.length 20))).1)) (y_k rfl rfl (fun _ => by kernel_rfl)) rfl rfl rfl ?_)
  refine st rfl (o_y (v := .int .i64 ((packF (ws.take (min ws.length 20)) (l.take (min l.length 20))).2)) (y_k rfl rfl (fun _ => by kernel_rfl)) rfl rfl rfl ?_)
  refine st rfl (o_y (v := .string ((packF (ws.take (min ws.length 20)) (l.take (min l.length 20))).1)) (y_as rfl) rfl rfl rfl ?_)
  refine st rfl (o_y (v := .int .i64 ((packF (ws.take (min ws.length 20)) (l.take (min l.length 20))).2)) (y_as rfl) rfl rfl rfl ?_)
  refine s_nil ?_
  refine q_then ?_
  refine c_seq ?_
  refine c_region ?_
  refine st rfl (o_y (v := .slice A ws.length c) (y_mv rfl) rfl rfl rfl ?_)
  refine st rfl (o_call [] [2] (few_ A c ws) rfl rfl rfl rfl rfl rfl (fun v L' I' hq4 => ?_))
  obtain ⟨A2, c2, rfl, rfl, rfl⟩ := hq4
  refine st rfl (o_y (v := .slice (cutA u64Ty B 0 d) (l.take (min l.length 20)).length (d - 0)) (y_mv rfl) rfl rfl rfl ?_)
  refine st rfl (o_call [] [0, 2] (rPack_ A2 c2 (ws.take (min ws.length 20)) (cutA u64Ty B 0 d) (d - 0) (l.take (min l.length 20)) (by first | assumption | omega) (by first | assumption | omega) (by first | assumption | exact fun x hx => h64 x (List.mem_of_mem_take hx))) rfl rfl rfl rfl rfl rfl (fun v L' I' hq5 => ?_))
  obtain ⟨rfl, rfl, rfl⟩ := hq5
  refine st rfl (o_y (v := .tuple #[.string ((packF (ws.take (min ws.length 20)) (l.take (min l.length 20))).1), .int .i64 ((packF (ws.take (min ws.length 20)) (l.take (min l.length 20))).2)]) (y_mv rfl) rfl rfl rfl ?_)
  refine st rfl (o_y (v := .string ((packF (ws.take (min ws.length 20)) (l.take (min l.length 20))).1)) (y_k rfl rfl (fun _ => by kernel_rfl)) rfl rfl rfl ?_)
  refine st rfl (o_y (v := .int .i64 ((packF (ws.take (min ws.length 20)) (l.take (min l.length 20))).2)) (y_k rfl rfl (fun _ => by kernel_rfl)) rfl rfl rfl ?_)
  refine st rfl (o_y (v := .string ((packF (ws.take (min ws.length 20)) (l.take (min l.length 20))).1)) (y_as rfl) rfl rfl rfl ?_)
  refine st rfl (o_y (v := .int .i64 ((packF (ws.take (min ws.length 20)) (l.take (min l.length 20))).2)) (y_as rfl) rfl rfl rfl ?_)
  refine s_nil ?_
  refine q_then ?_
  refine c_seq ?_
  refine c_region ?_
  refine st rfl (o_y (v := .slice A ws.length c) (y_mv rfl) rfl rfl rfl ?_)
  refine st rfl (o_call [] [3] (few_ A c ws) rfl rfl rfl rfl rfl rfl (fun v L' I' hq6 => ?_))
  obtain ⟨A3, c3, rfl, rfl, rfl⟩ := hq6
  refine st rfl (o_y (v := .string s) (y_mv rfl) rfl rfl rfl ?_)
  refine st rfl (o_call [] [] (cut_ s (by omega)) rfl rfl rfl rfl rfl rfl (fun v L' I' hq7 => ?_))
  obtain ⟨rfl, rfl, rfl⟩ := hq7
  refine st rfl (o_call [] [0, 6, 7, 8, 9, 10, 11, 12] (Unpack_ A3 c3 (ws.take (min ws.length 20)) (cutS s) ea em ef (by assumption) (by assumption) (by assumption) (by first | omega | (rw [ByteArray.size_append]; omega) | decide | assumption) (by first | assumption | omega)) rfl rfl rfl rfl rfl rfl (fun v L' I' hq8 => ?_))
  obtain ⟨A4, c4, rfl, rfl, rfl⟩ := hq8
  refine st rfl (o_y (v := .tuple #[.slice A4 ((unpackF (ws.take (min ws.length 20)) (cutS s)).1).length c4, .string ((unpackF (ws.take (min ws.length 20)) (cutS s)).2.1), .int .i64 ((unpackF (ws.take (min ws.length 20)) (cutS s)).2.2)]) (y_mv rfl) rfl rfl rfl ?_)
  refine st rfl (o_y (v := .slice A4 ((unpackF (ws.take (min ws.length 20)) (cutS s)).1).length c4) (y_k rfl rfl (fun _ => by kernel_rfl)) rfl rfl rfl ?_)
  refine st rfl (o_y (v := .string ((unpackF (ws.take (min ws.length 20)) (cutS s)).2.1)) (y_k rfl rfl (fun _ => by kernel_rfl)) rfl rfl rfl ?_)
  refine st rfl (o_y (v := .int .i64 ((unpackF (ws.take (min ws.length 20)) (cutS s)).2.2)) (y_k rfl rfl (fun _ => by kernel_rfl)) rfl rfl rfl ?_)
  refine st rfl (o_y (v := .slice A4 ((unpackF (ws.take (min ws.length 20)) (cutS s)).1).length c4) (y_as rfl) rfl rfl rfl ?_)
  refine st rfl (o_y (v := .string ((unpackF (ws.take (min ws.length 20)) (cutS s)).2.1)) (y_as rfl) rfl rfl rfl ?_)
  refine st rfl (o_y (v := .int .i64 ((unpackF (ws.take (min ws.length 20)) (cutS s)).2.2)) (y_as rfl) rfl rfl rfl ?_)
  refine s_nil ?_
  refine q_then ?_
  refine c_seq ?_
  refine c_region ?_
  refine st rfl (o_y (v := .slice A ws.length c) (y_mv rfl) rfl rfl rfl ?_)
  refine st rfl (o_call [] [4] (few_ A c ws) rfl rfl rfl rfl rfl rfl (fun v L' I' hq9 => ?_))
  obtain ⟨A5, c5, rfl, rfl, rfl⟩ := hq9
  refine st rfl (o_y (v := .string s) (y_mv rfl) rfl rfl rfl ?_)
  refine st rfl (o_call [] [] (cut_ s (by omega)) rfl rfl rfl rfl rfl rfl (fun v L' I' hq10 => ?_))
  obtain ⟨rfl, rfl, rfl⟩ := hq10
  refine st rfl (o_call [] [0] (rUnpack_ A5 c5 (ws.take (min ws.length 20)) (cutS s) (by first | omega | (rw [ByteArray.size_append]; omega) | decide | assumption) (by first | assumption | omega)) rfl rfl rfl rfl rfl rfl (fun v L' I' hq11 => ?_))
  obtain ⟨A6, c6, rfl, rfl, rfl⟩ := hq11
  refine st rfl (o_y (v := .tuple #[.slice A6 ((unpackF (ws.take (min ws.length 20)) (cutS s)).1).length c6, .string ((unpackF (ws.take (min ws.length 20)) (cutS s)).2.1), .int .i64 ((unpackF (ws.take (min ws.length 20)) (cutS s)).2.2)]) (y_mv rfl) rfl rfl rfl ?_)
  refine st rfl (o_y (v := .slice A6 ((unpackF (ws.take (min ws.length 20)) (cutS s)).1).length c6) (y_k rfl rfl (fun _ => by kernel_rfl)) rfl rfl rfl ?_)
  refine st rfl (o_y (v := .string ((unpackF (ws.take (min ws.length 20)) (cutS s)).2.1)) (y_k rfl rfl (fun _ => by kernel_rfl)) rfl rfl rfl ?_)
  refine st rfl (o_y (v := .int .i64 ((unpackF (ws.take (min ws.length 20)) (cutS s)).2.2)) (y_k rfl rfl (fun _ => by kernel_rfl)) rfl rfl rfl ?_)
  refine st rfl (o_y (v := .slice A6 ((unpackF (ws.take (min ws.length 20)) (cutS s)).1).length c6) (y_as rfl) rfl rfl rfl ?_)
  refine st rfl (o_y (v := .string ((unpackF (ws.take (min ws.length 20)) (cutS s)).2.1)) (y_as rfl) rfl rfl rfl ?_)
  refine st rfl (o_y (v := .int .i64 ((unpackF (ws.take (min ws.length 20)) (cutS s)).2.2)) (y_as rfl) rfl rfl rfl ?_)
  refine s_nil ?_
  refine q_then ?_
  refine c_seq ?_
  refine c_region ?_
  refine st rfl (o_y (v := .bool true) (y_mv rfl) rfl rfl rfl ?_)
  refine st rfl (o_y (v := .bool true) (y_mv rfl) rfl rfl rfl ?_)
  refine st_on 57 rfl rfl rfl (o_y (v := .string ((packF (ws.take (min ws.length 20)) (l.take (min l.length 20))).1)) (y_mv rfl) rfl rfl rfl ?_)
  refine st_on 57 rfl rfl rfl (o_y (v := .string ((packF (ws.take (min ws.length 20)) (l.take (min l.length 20))).1)) (y_mv rfl) rfl rfl rfl ?_)
  have h67 : (packF (ws.take (min ws.length 20)) (l.take (min l.length 20))).1 = (packF (ws.take (min ws.length 20)) (l.take (min l.length 20))).1 := rfl
  refine st_on 57 rfl rfl rfl (o_y (v := .bool true) (y_b (y_k (v := .bool (((packF (ws.take (min ws.length 20)) (l.take (min l.length 20))).1).toList == ((packF (ws.take (min ws.length 20)) (l.take (min l.length 20))).1).toList)) rfl rfl (fun _ => by kernel_rfl)) (str_t h67)) rfl rfl rfl ?_)
  refine st rfl (o_y (v := .bool true) (y_pick rfl rfl) rfl rfl rfl ?_)
  refine st rfl (o_y (v := .bool true) (y_mv rfl) rfl rfl rfl ?_)
  refine st_on 62 rfl rfl rfl (o_y (v := .int .i64 ((packF (ws.take (min ws.length 20)) (l.take (min l.length 20))).2)) (y_mv rfl) rfl rfl rfl ?_)
  refine st_on 62 rfl rfl rfl (o_y (v := .int .i64 ((packF (ws.take (min ws.length 20)) (l.take (min l.length 20))).2)) (y_mv rfl) rfl rfl rfl ?_)
  have h68 : (packF (ws.take (min ws.length 20)) (l.take (min l.length 20))).2 = (packF (ws.take (min ws.length 20)) (l.take (min l.length 20))).2 := rfl
  refine st_on 62 rfl rfl rfl (o_y (v := .bool true) (y_t (y_k (v := .bool (decide ((packF (ws.take (min ws.length 20)) (l.take (min l.length 20))).2 = (packF (ws.take (min ws.length 20)) (l.take (min l.length 20))).2))) rfl rfl (fun _ => by kernel_rfl)) h68) rfl rfl rfl ?_)
  refine st rfl (o_y (v := .bool true) (y_pick rfl rfl) rfl rfl rfl ?_)
  refine st rfl (o_y (v := .bool true) (y_mv rfl) rfl rfl rfl ?_)
  refine st_on 67 rfl rfl rfl (o_y (v := .slice A4 ((unpackF (ws.take (min ws.length 20)) (cutS s)).1).length c4) (y_mv rfl) rfl rfl rfl ?_)
  refine st_on 67 rfl rfl rfl (o_y (v := .slice A6 ((unpackF (ws.take (min ws.length 20)) (cutS s)).1).length c6) (y_mv rfl) rfl rfl rfl ?_)
  refine st_on 67 rfl rfl rfl (o_lend [1, 0] [] [] (Nums_ A4 c4 ((unpackF (ws.take (min ws.length 20)) (cutS s)).1) A6 c6 ((unpackF (ws.take (min ws.length 20)) (cutS s)).1) (by first | assumption | omega)) (.cons lend_win (.cons lend_win .nil)) rfl rfl rfl rfl rfl rfl rfl rfl (fun v L' I' hq12 => ?_))
  obtain ⟨hv1, rfl, rfl⟩ := hq12
  refine ⟨rfl, ?_⟩
  obtain rfl : v = .bool true := by rw [hv1, decide_eq_true (show ((unpackF (ws.take (min ws.length 20)) (cutS s)).1) = ((unpackF (ws.take (min ws.length 20)) (cutS s)).1) from rfl)]
  refine st rfl (o_y (v := .bool true) (y_pick rfl rfl) rfl rfl rfl ?_)
  refine st rfl (o_y (v := .bool true) (y_mv rfl) rfl rfl rfl ?_)
  refine st_on 72 rfl rfl rfl (o_y (v := .string ((unpackF (ws.take (min ws.length 20)) (cutS s)).2.1)) (y_mv rfl) rfl rfl rfl ?_)
  refine st_on 72 rfl rfl rfl (o_y (v := .string ((unpackF (ws.take (min ws.length 20)) (cutS s)).2.1)) (y_mv rfl) rfl rfl rfl ?_)
  have h69 : (unpackF (ws.take (min ws.length 20)) (cutS s)).2.1 = (unpackF (ws.take (min ws.length 20)) (cutS s)).2.1 := rfl
  refine st_on 72 rfl rfl rfl (o_y (v := .bool true) (y_b (y_k (v := .bool (((unpackF (ws.take (min ws.length 20)) (cutS s)).2.1).toList == ((unpackF (ws.take (min ws.length 20)) (cutS s)).2.1).toList)) rfl rfl (fun _ => by kernel_rfl)) (str_t h69)) rfl rfl rfl ?_)
  refine st rfl (o_y (v := .bool true) (y_pick rfl rfl) rfl rfl rfl ?_)
  refine st rfl (o_y (v := .bool true) (y_mv rfl) rfl rfl rfl ?_)
  refine st_on 77 rfl rfl rfl (o_y (v := .int .i64 ((unpackF (ws.take (min ws.length 20)) (cutS s)).2.2)) (y_mv rfl) rfl rfl rfl ?_)
  refine st_on 77 rfl rfl rfl (o_y (v := .int .i64 ((unpackF (ws.take (min ws.length 20)) (cutS s)).2.2)) (y_mv rfl) rfl rfl rfl ?_)
  have h70 : (unpackF (ws.take (min ws.length 20)) (cutS s)).2.2 = (unpackF (ws.take (min ws.length 20)) (cutS s)).2.2 := rfl
  refine st_on 77 rfl rfl rfl (o_y (v := .bool true) (y_t (y_k (v := .bool (decide ((unpackF (ws.take (min ws.length 20)) (cutS s)).2.2 = (unpackF (ws.take (min ws.length 20)) (cutS s)).2.2))) rfl rfl (fun _ => by kernel_rfl)) h70) rfl rfl rfl ?_)
  refine st rfl (o_y (v := .bool true) (y_pick rfl rfl) rfl rfl rfl ?_)
  refine st rfl (o_y (v := .bool true) (y_as rfl) rfl rfl rfl ?_)
  refine s_nil ?_
  refine q_then ?_
  refine c_ret ?_
  refine c_fin (I' := []) [] [5, 6, 7, 8, 9, 10, 11, 12, 13] rfl (.tmp rfl .nil) rfl rfl rfl ?_
  exact ⟨rfl, rfl, rfl⟩
end Go.Proofs.YtpfadknajnedoaaDoor
