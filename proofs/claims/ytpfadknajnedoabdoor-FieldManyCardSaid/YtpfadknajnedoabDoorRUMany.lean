/- The laws of chapter 3 (field), walked over the given program; no condition but what stands in each theorem: part UMany. -/
import Derived.Test.YtpfadknajnedoabDoorRR
import Derived.Test.YtpfadknajnedoabDoorRS
import Derived.Test.YtpfadknajnedoabDoorRT
import Derived.Test.YtpfadknajnedoabDoorRUCodes
set_option linter.unusedVariables false
set_option linter.unusedSimpArgs false
set_option maxRecDepth 100000
set_option maxHeartbeats 8000000
namespace Go.Proofs.YtpfadknajnedoabDoor
open Go Go.Sl Go.RowKit Go.Extern.Stop Go.Stop Go.Extern
theorem FieldMany_ (ea : Addr) (em : Addr) (ef : Addr) (h12 : ea ≠ em) (h13 : ea ≠ ef) (h23 : em ≠ ef) (A : Option Addr) (c : Nat) (ws : List Int) (B : Option Addr) (d : Nat) (l : List Nat) (s : ByteArray) (h64 : ∀ x ∈ l, x < 18446744073709551616) (zs : s.size ≤ 9223372036854775807) : Con Tryd.prog 3 [.slice A ws.length c, .slice B l.length d, .string s] [] [rd intTy A c ws, rd u64Ty B d l, cellsAt 0 0 [.iface 101 (.pointer (some ea))], cellsAt 2 0 [.iface 101 (.pointer (some em))], cellsAt 1 0 [.iface 101 (.pointer (some ef))], errAt ea, errAt em, errAt ef, cellsAt 3 0 [.iface 86 (.agg #[.pointer (some ⟨4, 43, none⟩)])]] (fun v L' I' => v = .bool true ∧ L' = [] ∧ I' = []) := by
  have cs := cutS_size s
  have k1 : (ws.take (min ws.length 20)).length ≤ 20 := by rw [List.length_take]; omega
  have k2 : (l.take (min l.length 20)).length ≤ 20 := by rw [List.length_take]; omega
  have p1 := packF_size (ws.take (min ws.length 20)) (l.take (min l.length 20))
  refine fn_of Tryd.func3 rfl Tryd.ntmps3 (by kernel_rfl) rfl (fun C => ?_)
  refine c_seq ?_
  refine c_region ?_
  refine st rfl (o_y (v := .bool false) (y_as rfl) rfl rfl rfl ?_)
  refine s_nil ?_
  refine q_then ?_
  refine c_seq ?_
  refine c_region ?_
  refine st rfl (o_call [] [2, 3, 4, 5, 6, 7, 8] (shown_ ea em ef (by assumption) (by assumption) (by assumption)) rfl rfl rfl rfl rfl rfl (fun v L' I' hq1 => ?_))
  obtain ⟨rfl, rfl, rfl⟩ := hq1
  refine st rfl (o_y (v := .bool true) (y_as rfl) rfl rfl rfl ?_)
  refine s_nil ?_
  refine q_then ?_
  refine c_seq ?_
  refine c_region ?_
  refine st rfl (o_y (v := .slice B l.length d) (y_mv rfl) rfl rfl rfl ?_)
  refine st rfl (o_y (v := .slice B l.length d) (y_mv rfl) rfl rfl rfl ?_)
  refine st rfl (o_y (v := .int .i64 (l.length : Int)) (y_k rfl rfl (fun _ => by kernel_rfl)) rfl rfl rfl ?_)
  refine st rfl (o_y (v := .int .i64 ((min l.length 20 : Nat) : Int)) (y_min2 l.length 20 rfl rfl) rfl rfl rfl ?_)
  refine e_len 1 rfl (fun h65 h66 => ?_)
  refine e_cut2 (l2 := l.take (min l.length 20)) 1 0 (min l.length 20) d (by simp) rfl (by omega) (by omega) (by omega) ?_
  refine st rfl (o_y (v := .slice (cutA u64Ty B 0 d) (l.take (min l.length 20)).length (d - 0)) (y_cut (d := u64Ty) (l := l) (l2 := l.take (min l.length 20)) 0 (min l.length 20) d (by simp) rfl rfl .no (.at (min l.length 20) rfl (rfl)) .no (by simp) Tryd.underlying23 (by kernel_rfl) (by kernel_rfl) (by omega) (by omega) (by omega) (by omega)) rfl rfl rfl ?_)
  refine st rfl (o_y (v := .slice (cutA u64Ty B 0 d) (l.take (min l.length 20)).length (d - 0)) (y_as rfl) rfl rfl rfl ?_)
  refine s_nil ?_
  refine q_then ?_
  refine c_seq ?_
  refine c_region ?_
  refine st rfl (o_y (v := .slice A ws.length c) (y_mv rfl) rfl rfl rfl ?_)
  refine st rfl (o_call [] [1] (few_ A c ws) rfl rfl rfl rfl rfl rfl (fun v L' I' hq2 => ?_))
  obtain ⟨A1, c1, rfl, rfl, rfl⟩ := hq2
  refine st rfl (o_y (v := .slice (cutA u64Ty B 0 d) (l.take (min l.length 20)).length (d - 0)) (y_mv rfl) rfl rfl rfl ?_)
  refine st rfl (o_call [] [0, 1, 4, 5, 6, 7, 8, 9, 10] (Pack_ A1 c1 (ws.take (min ws.length 20)) (cutA u64Ty B 0 d) (d - 0) (l.take (min l.length 20)) ea em ef (by assumption) (by assumption) (by assumption) (by first | assumption | omega) (by first | assumption | omega) (by first | assumption | exact fun x hx => h64 x (List.mem_of_mem_take hx))) rfl rfl rfl rfl rfl rfl (fun v L' I' hq3 => ?_))
  obtain ⟨rfl, rfl, rfl⟩ := hq3
  refine st rfl (o_y (v := .tuple #[.string ((packF (ws.take (min ws.length 20)) (l.take (min l.length 20))).1), .int .i64 ((packF (ws.take (min ws.length 20)) (l.take (min l.length 20))).2)]) (y_mv rfl) rfl rfl rfl ?_)
  refine st rfl (o_y (v := .string ((packF (ws.take (min ws.length 20)) (l.take (min l.length 20))).1)) (y_k rfl rfl (fun _ => by kernel_rfl)) rfl rfl rfl ?_)
  refine st rfl (o_y (v := .int .i64 ((packF (ws.take (min ws.length 20)) (l.take (min l.length 20))).2)) (y_k rfl rfl (fun _ => by kernel_rfl)) rfl rfl rfl ?_)
  refine st rfl (o_y (v := .string ((packF (ws.take (min ws.length 20)) (l.take (min l.length 20))).1)) (y_as rfl) rfl rfl rfl ?_)
  refine st rfl (o_y (v := .int .i64 ((packF (ws.take (min ws.length 20)) (l.take (min l.length 20))).2)) (y_as rfl) rfl rfl rfl ?_)
  refine s_nil ?_
  refine q_then ?_
  refine c_seq ?_
  refine c_region ?_
  refine st rfl (o_y (v := .slice A ws.length c) (y_mv rfl) rfl rfl rfl ?_)
  refine st rfl (o_call [] [2] (few_ A c ws) rfl rfl rfl rfl rfl rfl (fun v L' I' hq4 => ?_))
  obtain ⟨A2, c2, rfl, rfl, rfl⟩ := hq4
  refine st rfl (o_y (v := .string ((packF (ws.take (min ws.length 20)) (l.take (min l.length 20))).1)) (y_mv rfl) rfl rfl rfl ?_)
  refine st rfl (o_y (v := .string s) (y_mv rfl) rfl rfl rfl ?_)
  refine st rfl (o_call [] [] (cut_ s (by omega)) rfl rfl rfl rfl rfl rfl (fun v L' I' hq5 => ?_))
  obtain ⟨rfl, rfl, rfl⟩ := hq5
  refine st rfl (o_y (v := .string (((packF (ws.take (min ws.length 20)) (l.take (min l.length 20))).1) ++ (cutS s))) (y_cat (s := (packF (ws.take (min ws.length 20)) (l.take (min l.length 20))).1) (u := cutS s) rfl rfl (by omega)) rfl rfl rfl ?_)
  refine st rfl (o_call [] [0, 5, 6, 7, 8, 9, 10, 11] (Unpack_ A2 c2 (ws.take (min ws.length 20)) (((packF (ws.take (min ws.length 20)) (l.take (min l.length 20))).1) ++ (cutS s)) ea em ef (by assumption) (by assumption) (by assumption) (by first | omega | (rw [ByteArray.size_append]; omega) | decide | assumption) (by first | assumption | omega)) rfl rfl rfl rfl rfl rfl (fun v L' I' hq6 => ?_))
  obtain ⟨A3, c3, rfl, rfl, rfl⟩ := hq6
  refine st rfl (o_y (v := .tuple #[.slice A3 ((unpackF (ws.take (min ws.length 20)) (((packF (ws.take (min ws.length 20)) (l.take (min l.length 20))).1) ++ (cutS s))).1).length c3, .string ((unpackF (ws.take (min ws.length 20)) (((packF (ws.take (min ws.length 20)) (l.take (min l.length 20))).1) ++ (cutS s))).2.1), .int .i64 ((unpackF (ws.take (min ws.length 20)) (((packF (ws.take (min ws.length 20)) (l.take (min l.length 20))).1) ++ (cutS s))).2.2)]) (y_mv rfl) rfl rfl rfl ?_)
  refine st rfl (o_y (v := .slice A3 ((unpackF (ws.take (min ws.length 20)) (((packF (ws.take (min ws.length 20)) (l.take (min l.length 20))).1) ++ (cutS s))).1).length c3) (y_k rfl rfl (fun _ => by kernel_rfl)) rfl rfl rfl ?_)
  refine st rfl (o_y (v := .string ((unpackF (ws.take (min ws.length 20)) (((packF (ws.take (min ws.length 20)) (l.take (min l.length 20))).1) ++ (cutS s))).2.1)) (y_k rfl rfl (fun _ => by kernel_rfl)) rfl rfl rfl ?_)
  refine st rfl (o_y (v := .int .i64 ((unpackF (ws.take (min ws.length 20)) (((packF (ws.take (min ws.length 20)) (l.take (min l.length 20))).1) ++ (cutS s))).2.2)) (y_k rfl rfl (fun _ => by kernel_rfl)) rfl rfl rfl ?_)
  refine st rfl (o_y (v := .slice A3 ((unpackF (ws.take (min ws.length 20)) (((packF (ws.take (min ws.length 20)) (l.take (min l.length 20))).1) ++ (cutS s))).1).length c3) (y_as rfl) rfl rfl rfl ?_)
  refine st rfl (o_y (v := .string ((unpackF (ws.take (min ws.length 20)) (((packF (ws.take (min ws.length 20)) (l.take (min l.length 20))).1) ++ (cutS s))).2.1)) (y_as rfl) rfl rfl rfl ?_)
  refine st rfl (o_y (v := .int .i64 ((unpackF (ws.take (min ws.length 20)) (((packF (ws.take (min ws.length 20)) (l.take (min l.length 20))).1) ++ (cutS s))).2.2)) (y_as rfl) rfl rfl rfl ?_)
  refine s_nil ?_
  refine q_then ?_
  refine c_seq ?_
  refine c_seq ?_
  refine c_region ?_
  refine st rfl (o_y (v := .int .i64 ((packF (ws.take (min ws.length 20)) (l.take (min l.length 20))).2)) (y_mv rfl) rfl rfl rfl ?_)
  refine e_by ((packF (ws.take (min ws.length 20)) (l.take (min l.length 20))).2 = 0) (fun h67 => ?_) (fun h67 => ?_)
  ·
    refine st rfl (o_y (v := .bool false) (y_nt (y_k (v := .bool (!decide ((packF (ws.take (min ws.length 20)) (l.take (min l.length 20))).2 = 0))) rfl rfl (fun _ => by kernel_rfl)) h67) rfl rfl rfl ?_)
    refine s_nil ?_
    refine q_then ?_
    refine c_false rfl ?_
    refine c_skip ?_
    refine q_then ?_
    refine c_seq ?_
    refine c_region ?_
    refine st rfl (o_y (v := .bool true) (y_mv rfl) rfl rfl rfl ?_)
    refine st rfl (o_y (v := .bool true) (y_mv rfl) rfl rfl rfl ?_)
    refine st_on 45 rfl rfl rfl (o_y (v := .int .i64 ((unpackF (ws.take (min ws.length 20)) (((packF (ws.take (min ws.length 20)) (l.take (min l.length 20))).1) ++ (cutS s))).2.2)) (y_mv rfl) rfl rfl rfl ?_)
    have h68 : (unpackF (ws.take (min ws.length 20)) (((packF (ws.take (min ws.length 20)) (l.take (min l.length 20))).1) ++ (cutS s))).2.2 = 0 := by rw [pack_unpack h67]
    refine st_on 45 rfl rfl rfl (o_y (v := .bool true) (y_t (y_k (v := .bool (decide ((unpackF (ws.take (min ws.length 20)) (((packF (ws.take (min ws.length 20)) (l.take (min l.length 20))).1) ++ (cutS s))).2.2 = 0))) rfl rfl (fun _ => by kernel_rfl)) h68) rfl rfl rfl ?_)
    refine st rfl (o_y (v := .bool true) (y_pick rfl rfl) rfl rfl rfl ?_)
    refine st rfl (o_y (v := .bool true) (y_mv rfl) rfl rfl rfl ?_)
    refine st_on 49 rfl rfl rfl (o_y (v := .slice (cutA u64Ty B 0 d) (l.take (min l.length 20)).length (d - 0)) (y_mv rfl) rfl rfl rfl ?_)
    refine st_on 49 rfl rfl rfl (o_y (v := .slice A3 ((unpackF (ws.take (min ws.length 20)) (((packF (ws.take (min ws.length 20)) (l.take (min l.length 20))).1) ++ (cutS s))).1).length c3) (y_mv rfl) rfl rfl rfl ?_)
    refine st_on 49 rfl rfl rfl (o_lend [0] [] [2] (Con.wide (I2 := [rd u64Ty A3 c3 ((unpackF (ws.take (min ws.length 20)) (((packF (ws.take (min ws.length 20)) (l.take (min l.length 20))).1) ++ (cutS s))).1), rd u64Ty (cutA u64Ty B 0 d) (d - 0) (l.take (min l.length 20))]) (Nums_ (cutA u64Ty B 0 d) (d - 0) (l.take (min l.length 20)) A3 c3 ((unpackF (ws.take (min ws.length 20)) (((packF (ws.take (min ws.length 20)) (l.take (min l.length 20))).1) ++ (cutS s))).1) (by first | assumption | omega)) (by intro φ h; simp only [List.mem_cons, List.not_mem_nil, or_false] at h ⊢; grind)) (.cons lend_win .nil) rfl rfl rfl rfl rfl rfl rfl rfl (fun v L' I' hq7 => ?_))
    obtain ⟨hv1, rfl, rfl⟩ := hq7
    refine ⟨rfl, ?_⟩
    obtain rfl : v = .bool true := by rw [hv1, decide_eq_true (show (l.take (min l.length 20)) = ((unpackF (ws.take (min ws.length 20)) (((packF (ws.take (min ws.length 20)) (l.take (min l.length 20))).1) ++ (cutS s))).1) from by rw [pack_unpack h67])]
    refine st rfl (o_y (v := .bool true) (y_pick rfl rfl) rfl rfl rfl ?_)
    refine st rfl (o_y (v := .bool true) (y_mv rfl) rfl rfl rfl ?_)
    refine st_on 54 rfl rfl rfl (o_y (v := .string ((unpackF (ws.take (min ws.length 20)) (((packF (ws.take (min ws.length 20)) (l.take (min l.length 20))).1) ++ (cutS s))).2.1)) (y_mv rfl) rfl rfl rfl ?_)
    refine st_on 54 rfl rfl rfl (o_y (v := .string s) (y_mv rfl) rfl rfl rfl ?_)
    refine st_on 54 rfl rfl rfl (o_call [] [] (cut_ s (by omega)) rfl rfl rfl rfl rfl rfl (fun v L' I' hq8 => ?_))
    obtain ⟨rfl, rfl, rfl⟩ := hq8
    have h69 : (unpackF (ws.take (min ws.length 20)) (((packF (ws.take (min ws.length 20)) (l.take (min l.length 20))).1) ++ (cutS s))).2.1 = cutS s := by rw [pack_unpack h67]
    refine st_on 54 rfl rfl rfl (o_y (v := .bool true) (y_b (y_k (v := .bool (((unpackF (ws.take (min ws.length 20)) (((packF (ws.take (min ws.length 20)) (l.take (min l.length 20))).1) ++ (cutS s))).2.1).toList == (cutS s).toList)) rfl rfl (fun _ => by kernel_rfl)) (str_t h69)) rfl rfl rfl ?_)
    refine st rfl (o_y (v := .bool true) (y_pick rfl rfl) rfl rfl rfl ?_)
    refine st rfl (o_y (v := .bool true) (y_as rfl) rfl rfl rfl ?_)
    refine s_nil ?_
    refine q_then ?_
    refine c_ret ?_
    refine c_fin (I' := []) [] [3, 4, 5, 6, 7, 8, 9, 10, 11] rfl (.tmp rfl .nil) rfl rfl rfl ?_
    exact ⟨rfl, rfl, rfl⟩
  ·
    refine st rfl (o_y (v := .bool true) (y_nf (y_k (v := .bool (!decide ((packF (ws.take (min ws.length 20)) (l.take (min l.length 20))).2 = 0))) rfl rfl (fun _ => by kernel_rfl)) h67) rfl rfl rfl ?_)
    refine s_nil ?_
    refine q_then ?_
    refine c_true rfl ?_
    refine c_seq ?_
    refine c_region ?_
    refine st rfl (o_y (v := .bool true) (y_mv rfl) rfl rfl rfl ?_)
    refine st rfl (o_y (v := .bool true) (y_mv rfl) rfl rfl rfl ?_)
    refine st_on 40 rfl rfl rfl (o_y (v := .string ((packF (ws.take (min ws.length 20)) (l.take (min l.length 20))).1)) (y_mv rfl) rfl rfl rfl ?_)
    have h70 : (packF (ws.take (min ws.length 20)) (l.take (min l.length 20))).1 = (⟨#[]⟩ : ByteArray) := pack_empty h67
    refine st_on 40 rfl rfl rfl (o_y (v := .bool true) (y_b (y_k (v := .bool (((packF (ws.take (min ws.length 20)) (l.take (min l.length 20))).1).toList == (⟨#[]⟩ : ByteArray).toList)) rfl rfl (fun _ => by kernel_rfl)) (str_t h70)) rfl rfl rfl ?_)
    refine st rfl (o_y (v := .bool true) (y_pick rfl rfl) rfl rfl rfl ?_)
    refine st rfl (o_y (v := .bool true) (y_as rfl) rfl rfl rfl ?_)
    refine s_nil ?_
    refine q_then ?_
    refine c_ret ?_
    refine q_then_ret ?_
    refine c_fin (I' := []) [] [3, 4, 5, 6, 7, 8, 9, 10, 11] rfl (.tmp rfl .nil) rfl rfl rfl ?_
    exact ⟨rfl, rfl, rfl⟩
end Go.Proofs.YtpfadknajnedoabDoor
