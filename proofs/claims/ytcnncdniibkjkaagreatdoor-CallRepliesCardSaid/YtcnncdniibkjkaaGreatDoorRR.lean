/- The laws of chapter 17 (call), walked over the given program; no condition but what stands in each theorem: part R. -/
import Derived.Test.YtcnncdniibkjkaaGreatDoorRQ
set_option linter.unusedVariables false
set_option linter.unusedSimpArgs false
set_option maxRecDepth 100000
set_option maxHeartbeats 8000000
namespace Go.Proofs.YtcnncdniibkjkaaGreatDoor
open Go Go.Sl Go.RowKit Go.Extern.Stop Go.Stop Go.Extern
theorem UnpackG_ (A : Option Addr) (c : Nat) (ws : List Int) (s : ByteArray) (ea : Addr) (em : Addr) (ef : Addr) (h12 : ea ≠ em) (h13 : ea ≠ ef) (h23 : em ≠ ef) (hs : s.size ≤ 9223372036854775807) (hw : ws.length ≤ 1000) : Con Tryz.prog 97 [.slice A ws.length c, .string s] [] [rd intTy A c ws, cellsAt 2 0 [.iface 180 (.pointer (some ea))], cellsAt 3 0 [.iface 180 (.pointer (some em))], cellsAt 1 0 [.iface 180 (.pointer (some ef))], errAt ea, errAt em, errAt ef, cellsAt 0 0 [.iface 147 (.agg #[.pointer (some ⟨5, 48, none⟩)])]] (fun v L' I' => ∃ A1 : Option Addr, ∃ c1 : Nat, v = .tuple #[.slice A1 ((unpackG ws s).1).length c1, .string ((unpackG ws s).2.1), .int .i64 ((unpackG ws s).2.2)] ∧ L' = [win u64Ty 22 A1 c1 ((unpackG ws s).1)] ∧ I' = []) := by
 refine fn_of Tryz.func97 rfl Tryz.ntmps97 (by kernel_rfl) rfl (fun C => ?_)
 refine c_seq (c_region ?_)
 refine s_y rfl (v := .slice none 0 0) (y_as rfl) rfl ?_
 refine s_y rfl (v := .string (⟨#[]⟩ : ByteArray)) (y_as rfl) rfl ?_
 refine s_y rfl (v := .int .i64 0) (y_as rfl) rfl ?_
 refine s_nil (q_then (c_seq (c_region ?_)))
 refine s_y rfl (v := .string s) (y_mv rfl) rfl ?_
 refine s_y rfl (v := .agg #[.string s]) (y_k rfl rfl (fun _ => by kernel_rfl)) rfl ?_
 refine s_y rfl (v := .agg #[.string s, .nilIface]) (y_k rfl rfl (fun _ => by kernel_rfl)) rfl ?_
 refine st rfl (o_box (cs := [.string s, .nilIface]) (T := 126) rfl rfl rfl rfl (fun _ => by kernel_rfl) (fun b1 => ?_))
 refine s_y rfl (v := .pointer (some ⟨b1, 0, none⟩)) (y_as rfl) rfl ?_
 refine s_nil (q_then (c_seq (c_region ?_)))
 refine s_y rfl (v := .pointer (some ⟨b1, 0, none⟩)) (y_mv rfl) rfl ?_
 refine s_y rfl (v := .slice A ws.length c) (y_mv rfl) rfl ?_
 show Ent _ _ _ _ [pt b1 [.string s, erV ea em ef none] 126] _ _
 refine st rfl (o_call [0] [0, 1, 2, 3, 4, 5, 6, 7] (numbers_ b1 s none A c ws ea em ef (by first | omega | (rw [ByteArray.size_append]; omega) | decide | assumption) (by first | assumption | omega | (simp; done))) rfl rfl rfl rfl rfl rfl (fun v L' I' hq1 => ?_))
 obtain ⟨A1, c1, rfl, rfl, rfl⟩ := hq1
 refine s_y rfl (v := .slice A1 ((numsF ws s none).1).length c1) (y_as rfl) rfl ?_
 refine s_nil (q_then (c_seq (c_region ?_)))
 refine s_y rfl (v := .pointer (some ⟨b1, 0, none⟩)) (y_mv rfl) rfl ?_
 refine st rfl (o_call [0] [1, 2, 3, 4, 5, 6, 7] (end_ b1 ((numsF ws s none).2.1) ((numsF ws s none).2.2) ea em ef (by assumption) (by assumption) (by assumption)) rfl rfl rfl rfl rfl rfl (fun v L' I' hq2 => ?_))
 obtain ⟨rfl, rfl, rfl⟩ := hq2
 refine s_y rfl (v := .tuple #[.string ((endF ((numsF ws s none).2.1) ((numsF ws s none).2.2)).1), .int .i64 ((endF ((numsF ws s none).2.1) ((numsF ws s none).2.2)).2)]) (y_mv rfl) rfl ?_
 refine s_y rfl (v := .string ((endF ((numsF ws s none).2.1) ((numsF ws s none).2.2)).1)) (y_k rfl rfl (fun _ => by kernel_rfl)) rfl ?_
 refine s_y rfl (v := .int .i64 ((endF ((numsF ws s none).2.1) ((numsF ws s none).2.2)).2)) (y_k rfl rfl (fun _ => by kernel_rfl)) rfl ?_
 refine s_y rfl (v := .string ((endF ((numsF ws s none).2.1) ((numsF ws s none).2.2)).1)) (y_as rfl) rfl ?_
 refine s_y rfl (v := .int .i64 ((endF ((numsF ws s none).2.1) ((numsF ws s none).2.2)).2)) (y_as rfl) rfl ?_
 refine s_nil (q_then (c_seq (c_seq (c_region ?_))))
 refine s_y rfl (v := .int .i64 ((endF ((numsF ws s none).2.1) ((numsF ws s none).2.2)).2)) (y_mv rfl) rfl ?_
 refine e_by ((endF ((numsF ws s none).2.1) ((numsF ws s none).2.2)).2 = 0) (fun h24 => ?_) (fun h24 => ?_)
 ·
  refine s_y rfl (v := .bool false) (y_nt (y_k (v := .bool (!decide ((endF ((numsF ws s none).2.1) ((numsF ws s none).2.2)).2 = 0))) rfl rfl (fun _ => by kernel_rfl)) h24) rfl ?_
  refine s_nil (q_then (c_false rfl (c_skip (q_then (c_seq (c_region ?_))))))
  refine s_y rfl (v := .slice A1 ((numsF ws s none).1).length c1) (y_mv rfl) rfl ?_
  refine st rfl (o_call [1] [] (Clip_ A1 c1 ((numsF ws s none).1)) rfl rfl rfl rfl rfl rfl (fun v L' I' hq3 => ?_))
  obtain ⟨A2, c2, rfl, rfl, rfl⟩ := hq3
  refine s_y rfl (v := .string ((endF ((numsF ws s none).2.1) ((numsF ws s none).2.2)).1)) (y_mv rfl) rfl ?_
  refine s_y rfl (v := .slice A2 ((numsF ws s none).1).length c2) (y_as rfl) rfl ?_
  refine s_y rfl (v := .string ((endF ((numsF ws s none).2.1) ((numsF ws s none).2.2)).1)) (y_as rfl) rfl ?_
  refine s_y rfl (v := .int .i64 0) (y_as rfl) rfl ?_
  refine s_nil (q_then (c_ret ?_))
  have hp : unpackG ws s = (((numsF ws s none).1), (endF ((numsF ws s none).2.1) ((numsF ws s none).2.2)).1, 0) := by unfold unpackG; first | (rw [if_pos (by assumption)]; done) | (rw [if_neg (by assumption)]; done)
  refine c_fin (I' := []) [0] [0, 1, 2, 3, 4, 5, 6, 7] rfl (.tmp rfl (.tmp rfl (.tmp rfl .nil))) rfl rfl rfl ?_
  rw [hp]
  exact ⟨_, _, rfl, rfl, rfl⟩
 ·
  refine s_y rfl (v := .bool true) (y_nf (y_k (v := .bool (!decide ((endF ((numsF ws s none).2.1) ((numsF ws s none).2.2)).2 = 0))) rfl rfl (fun _ => by kernel_rfl)) h24) rfl ?_
  refine s_nil (q_then (c_true rfl (c_seq (c_region ?_))))
  refine s_y rfl (v := .int .i64 ((endF ((numsF ws s none).2.1) ((numsF ws s none).2.2)).2)) (y_mv rfl) rfl ?_
  refine s_y rfl (v := .slice none 0 0) (y_as rfl) rfl ?_
  refine s_y rfl (v := .string (⟨#[]⟩ : ByteArray)) (y_as rfl) rfl ?_
  refine s_y rfl (v := .int .i64 ((endF ((numsF ws s none).2.1) ((numsF ws s none).2.2)).2)) (y_as rfl) rfl ?_
  refine s_nil (q_then (c_ret (q_then_ret ?_)))
  refine e_nil u64Ty 22 ?_
  refine e_weak 0 rfl (fun _ h => h.win) ?_
  have hp : unpackG ws s = ([], (⟨#[]⟩ : ByteArray), (endF ((numsF ws s none).2.1) ((numsF ws s none).2.2)).2) := by unfold unpackG; first | (rw [if_pos (by assumption)]; done) | (rw [if_neg (by assumption)]; done)
  refine c_fin (I' := []) [0] [0, 1, 2, 3, 4, 5, 6, 7] rfl (.tmp rfl (.tmp rfl (.tmp rfl .nil))) rfl rfl rfl ?_
  rw [hp]
  exact ⟨_, _, rfl, rfl, rfl⟩
theorem Unpack_ (A : Option Addr) (c : Nat) (ws : List Int) (s : ByteArray) (ea : Addr) (em : Addr) (ef : Addr) (h12 : ea ≠ em) (h13 : ea ≠ ef) (h23 : em ≠ ef) (hs : s.size ≤ 9223372036854775807) (hw : ws.length ≤ 1000) : Con Tryz.prog 97 [.slice A ws.length c, .string s] [] [rd intTy A c ws, cellsAt 2 0 [.iface 180 (.pointer (some ea))], cellsAt 3 0 [.iface 180 (.pointer (some em))], cellsAt 1 0 [.iface 180 (.pointer (some ef))], errAt ea, errAt em, errAt ef, cellsAt 0 0 [.iface 147 (.agg #[.pointer (some ⟨5, 48, none⟩)])]] (fun v L' I' => ∃ A1 : Option Addr, ∃ c1 : Nat, v = .tuple #[.slice A1 ((unpackF ws s).1).length c1, .string ((unpackF ws s).2.1), .int .i64 ((unpackF ws s).2.2)] ∧ L' = [win u64Ty 22 A1 c1 ((unpackF ws s).1)] ∧ I' = []) := by
  have h := UnpackG_ A c ws s ea em ef h12 h13 h23 hs hw
  rw [unpackG_eq] at h
  exact h
theorem Pack_ (A : Option Addr) (c : Nat) (ws : List Int) (B : Option Addr) (d : Nat) (l : List Nat) (ea : Addr) (em : Addr) (ef : Addr) (h12 : ea ≠ em) (h13 : ea ≠ ef) (h23 : em ≠ ef) (hw : ws.length ≤ 1000) (hl : l.length ≤ 1000) (h64 : ∀ x ∈ l, x < 18446744073709551616) : Con Tryz.prog 93 [.slice A ws.length c, .slice B l.length d] [] [rd intTy A c ws, rd u64Ty B d l, cellsAt 2 0 [.iface 180 (.pointer (some ea))], cellsAt 3 0 [.iface 180 (.pointer (some em))], cellsAt 1 0 [.iface 180 (.pointer (some ef))], errAt ea, errAt em, errAt ef, cellsAt 0 0 [.iface 147 (.agg #[.pointer (some ⟨5, 48, none⟩)])]] (fun v L' I' => v = .tuple #[.string ((packF ws l).1), .int .i64 ((packF ws l).2)] ∧ L' = [] ∧ I' = []) := by
 refine fn_of Tryz.func93 rfl Tryz.ntmps93 (by kernel_rfl) rfl (fun C => ?_)
 refine c_seq (c_region ?_)
 refine s_y rfl (v := .string (⟨#[]⟩ : ByteArray)) (y_as rfl) rfl ?_
 refine s_y rfl (v := .int .i64 0) (y_as rfl) rfl ?_
 refine s_nil (q_then (c_seq (c_seq (c_region ?_))))
 refine s_y rfl (v := .slice A ws.length c) (y_mv rfl) rfl ?_
 refine s_y rfl (v := .int .i64 (ws.length : Int)) (y_k rfl rfl (fun _ => by kernel_rfl)) rfl ?_
 refine s_y rfl (v := .slice B l.length d) (y_mv rfl) rfl ?_
 refine s_y rfl (v := .int .i64 (l.length : Int)) (y_k rfl rfl (fun _ => by kernel_rfl)) rfl ?_
 refine e_by ((ws.length : Int) = (l.length : Int)) (fun h65 => ?_) (fun h65 => ?_)
 ·
  refine s_y rfl (v := .bool false) (y_nt (y_k (v := .bool (!decide ((ws.length : Int) = (l.length : Int)))) rfl rfl (fun _ => by kernel_rfl)) h65) rfl ?_
  refine s_nil (q_then (c_false rfl (c_skip (q_then (c_seq (c_region ?_))))))
  refine s_y rfl (v := .string (⟨#[]⟩ : ByteArray)) (y_as rfl) rfl ?_
  refine s_nil (q_then (c_seq (c_seq (c_region ?_))))
  refine s_y rfl (v := .slice B l.length d) (y_mv rfl) rfl ?_
  refine s_y rfl (v := .int .i64 (l.length : Int)) (y_k rfl rfl (fun _ => by kernel_rfl)) rfl ?_
  refine s_y rfl (v := .int .i64 0) (y_mv rfl) rfl ?_
  refine s_nil (q_then (c_block ?_))
  refine c_loopn (ι := Nat × ByteArray) (fun (k, o) => (k ≤ l.length) ∧ (((ws.zip l).take k).foldl packStep (⟨#[]⟩, 0) = (o, 0)) ∧ (o.size ≤ 8 * k)) (fun (k, o) => [(0, .slice A ws.length c), (6, .string o), (18, .slice B l.length d), (19, .int .i64 (l.length : Int)), (20, .int .i64 (k : Int))]) (fun (k, o) => []) (fun (k, o) => [rd intTy A c ws, rd u64Ty B d l, cellsAt 2 0 [.iface 180 (.pointer (some ea))], cellsAt 3 0 [.iface 180 (.pointer (some em))], cellsAt 1 0 [.iface 180 (.pointer (some ef))], errAt ea, errAt em, errAt ef, cellsAt 0 0 [.iface 147 (.agg #[.pointer (some ⟨5, 48, none⟩)])]]) (fun (k, o) => l.length - k) (0, (⟨#[]⟩ : ByteArray)) [] [0, 1, 2, 3, 4, 5, 6, 7, 8] (show (0 ≤ l.length) ∧ (((ws.zip l).take 0).foldl packStep (⟨#[]⟩, 0) = ((⟨#[]⟩ : ByteArray), 0)) ∧ ((⟨#[]⟩ : ByteArray).size ≤ 8 * 0) from ⟨by first | omega | simp_all | (simp; done), rfl, Nat.zero_le _⟩) ((.cons rfl rfl (.cons rfl rfl (.cons rfl rfl (.cons rfl rfl (.cons rfl rfl .nil)))))) rfl rfl ?_
  rintro ⟨k, o⟩ ⟨hk, ho, hos⟩
  show Ent 43 C [(0, .slice A ws.length c), (6, .string o), (18, .slice B l.length d), (19, .int .i64 (l.length : Int)), (20, .int .i64 (k : Int))] [] [] [rd intTy A c ws, rd u64Ty B d l, cellsAt 2 0 [.iface 180 (.pointer (some ea))], cellsAt 3 0 [.iface 180 (.pointer (some em))], cellsAt 1 0 [.iface 180 (.pointer (some ef))], errAt ea, errAt em, errAt ef, cellsAt 0 0 [.iface 147 (.agg #[.pointer (some ⟨5, 48, none⟩)])]] _
  refine c_seq (c_region ?_)
  refine e_by ((k : Int) < (l.length : Int)) (fun h66 => ?_) (fun h66 => ?_)
  ·
   refine s_y rfl (v := .bool true) (y_t (y_k (v := .bool (decide ((k : Int) < (l.length : Int)))) rfl rfl (fun _ => by kernel_rfl)) h66) rfl ?_
   refine s_nil (q_then (c_seq (c_true rfl (c_skip (q_then (c_seq (c_block (c_seq (c_region ?_)))))))))
   refine s_y rfl (v := .int .i64 (k : Int)) (y_mv rfl) rfl ?_
   refine e_at 1 k rfl (by first | omega | (simp only [List.length_append, List.length_map, List.length_take, List.length_drop]; omega)) (fun b1 o1 x1 hA1 hx1 => ?_)
   refine s_y rfl (v := .pointer (some ⟨b1, o1 + k * 1, none⟩)) (y_at (d := u64Ty) (l := l) k hA1 rfl rfl rfl (rfl) (List.getElem?_eq_some_iff.1 hx1).1 Tryz.underlying82 (by kernel_rfl) (by kernel_rfl)) rfl ?_
   refine st rfl (o_ldf 0 0 rfl rfl rfl Tryz.underlying22 rfl rfl ?_)
   refine s_y rfl (v := .int .i64 (k : Int)) (y_as rfl) rfl ?_
   refine s_y rfl (v := .int .u64 (x1 : Int)) (y_as rfl) rfl ?_
   refine s_nil (q_then (c_seq (c_region ?_)))
   refine s_y rfl (v := .slice A ws.length c) (y_mv rfl) rfl ?_
   refine s_y rfl (v := .int .i64 (k : Int)) (y_mv rfl) rfl ?_
   refine e_at 1 k rfl (by first | omega | (simp only [List.length_append, List.length_map, List.length_take, List.length_drop]; omega)) (fun b2 o2 x2 hA2 hx2 => ?_)
   refine s_y rfl (v := .pointer (some ⟨b2, o2 + k * 1, none⟩)) (y_at (d := intTy) (l := ws) k hA2 rfl rfl rfl (rfl) (List.getElem?_eq_some_iff.1 hx2).1 Tryz.underlying74 (by kernel_rfl) (by kernel_rfl)) rfl ?_
   refine st rfl (o_ldf 0 0 rfl rfl rfl Tryz.underlying3 rfl rfl ?_)
   refine s_y rfl (v := .int .u64 (x1 : Int)) (y_mv rfl) rfl ?_
   refine st rfl (o_call [] [4, 5, 6, 7, 8, 9, 10] (put_ x2 x1 ea em ef (by first | omega | assumption | exact h64 _ (List.mem_of_getElem? (by assumption)))) rfl rfl rfl rfl rfl rfl (fun v L' I' hq1 => ?_))
   rcases hq1 with ⟨h67, h68, rfl, rfl, rfl⟩ | ⟨h69, h70, rfl, rfl, rfl⟩ | ⟨h71, rfl, rfl, rfl⟩
   ·
    refine s_y rfl (v := .tuple #[.string (beB x2 x1), .nilIface]) (y_mv rfl) rfl ?_
    refine s_y rfl (v := .string (beB x2 x1)) (y_k rfl rfl (fun _ => by kernel_rfl)) rfl ?_
    refine s_y rfl (v := .nilIface) (y_k rfl rfl (fun _ => by kernel_rfl)) rfl ?_
    refine s_y rfl (v := .string (beB x2 x1)) (y_as rfl) rfl ?_
    refine s_y rfl (v := .nilIface) (y_as rfl) rfl ?_
    refine s_nil (q_then (c_seq (c_seq (c_region ?_))))
    refine s_y rfl (v := .nilIface) (y_mv rfl) rfl ?_
    refine s_y rfl (v := .bool false) (y_k rfl rfl (fun _ => by kernel_rfl)) rfl ?_
    refine s_nil (q_then (c_false rfl (c_skip (q_then (c_region ?_)))))
    refine s_y rfl (v := .string o) (y_mv rfl) rfl ?_
    refine s_y rfl (v := .string (beB x2 x1)) (y_mv rfl) rfl ?_
    refine s_y rfl (v := .string (o ++ (beB x2 x1))) (y_cat (s := o) (u := beB x2 x1) rfl rfl (by rw [beB_size]; have := isW_rng (by assumption); omega)) rfl ?_
    refine s_y rfl (v := .string (o ++ (beB x2 x1))) (y_as rfl) rfl ?_
    refine s_nil (q_block (q_then (c_region ?_)))
    refine s_y rfl (v := .int .i64 ((k : Int) + 1)) (y_add (r := (k : Int) + 1) rfl rfl rfl (by omega)) rfl ?_
    refine s_y rfl (v := .int .i64 ((k : Int) + 1)) (y_mv rfl) rfl ?_
    refine s_nil (q_then ?_)
    refine c_next [] [2, 3, 4, 5, 6, 7, 8, 9, 10] (k + 1, o ++ (beB x2 x1)) ?_ ?_ ?_ (by rfl) (by rfl)
    · exact (show ((k + 1) ≤ l.length) ∧ (((ws.zip l).take (k + 1)).foldl packStep (⟨#[]⟩, 0) = ((o ++ (beB x2 x1)), 0)) ∧ ((o ++ (beB x2 x1)).size ≤ 8 * (k + 1)) from ⟨by first | omega | simp_all | (simp; done), by have hq := pack_step (by assumption) (by assumption) ho (by rw [putF_ok (by assumption) (by assumption)]); rw [putF_ok (by assumption) (by assumption)] at hq; exact hq, by rw [ByteArray.size_append, beB_size]; have := isW_rng (by assumption); omega⟩)
    · show l.length - (k + 1) < l.length - k; omega
    · exact (.cons rfl rfl (.cons rfl rfl (.cons rfl rfl (.cons rfl rfl (.cons rfl (show (.int .i64 ((k : Int) + 1) : Value) = .int .i64 ((k + 1) : Int) from by first | rfl | (congr 1; omega) | (congr 1; simp; done) | (congr 1; simp; omega)) .nil)))))
   ·
    refine s_y rfl (v := .tuple #[.string (⟨#[]⟩ : ByteArray), .iface 180 (.pointer (some ef))]) (y_mv rfl) rfl ?_
    refine s_y rfl (v := .string (⟨#[]⟩ : ByteArray)) (y_k rfl rfl (fun _ => by kernel_rfl)) rfl ?_
    refine s_y rfl (v := .iface 180 (.pointer (some ef))) (y_k rfl rfl (fun _ => by kernel_rfl)) rfl ?_
    refine s_y rfl (v := .string (⟨#[]⟩ : ByteArray)) (y_as rfl) rfl ?_
    refine s_y rfl (v := .iface 180 (.pointer (some ef))) (y_as rfl) rfl ?_
    refine s_nil (q_then (c_seq (c_seq (c_region ?_))))
    refine s_y rfl (v := .iface 180 (.pointer (some ef))) (y_mv rfl) rfl ?_
    refine s_y rfl (v := .bool true) (y_k rfl rfl (fun _ => by kernel_rfl)) rfl ?_
    refine s_nil (q_then (c_true rfl (c_seq (c_region ?_))))
    refine s_y rfl (v := .iface 180 (.pointer (some ef))) (y_mv rfl) rfl ?_
    refine st rfl (o_call [] [4, 5, 6, 7, 8, 9, 10] (told_ef_ ea em ef (by assumption) (by assumption) (by assumption)) rfl rfl rfl rfl rfl rfl (fun v L' I' hq2 => ?_))
    obtain ⟨rfl, rfl, rfl⟩ := hq2
    refine s_y rfl (v := .string (⟨#[]⟩ : ByteArray)) (y_as rfl) rfl ?_
    refine s_y rfl (v := .int .i64 31) (y_as rfl) rfl ?_
    refine s_nil (q_then (c_ret (q_then_ret (q_block_ret (q_then_ret (q_then_ret (q_block_ret (q_then_ret ?_))))))))
    have hp : packF ws l = ((⟨#[]⟩ : ByteArray), 31) := by first | exact pack_no (by assumption) | exact pack_end (by assumption) (by assumption) (by assumption) | (have hq := pack_bad (by assumption) (by assumption) (by assumption) (by assumption) (by rw [putF_big (by assumption) (by assumption)]; decide); rw [putF_big (by assumption) (by assumption)] at hq; exact hq) | (have hq := pack_bad (by assumption) (by assumption) (by assumption) (by assumption) (by rw [putF_bad (by assumption)]; decide); rw [putF_bad (by assumption)] at hq; exact hq)
    refine c_fin (I' := []) [] [2, 3, 4, 5, 6, 7, 8, 9, 10] rfl (.tmp rfl (.tmp rfl .nil)) rfl rfl rfl ?_
    rw [hp]
    exact ⟨rfl, rfl, rfl⟩
   ·
    refine s_y rfl (v := .tuple #[.string (⟨#[]⟩ : ByteArray), .iface 180 (.pointer (some ea))]) (y_mv rfl) rfl ?_
    refine s_y rfl (v := .string (⟨#[]⟩ : ByteArray)) (y_k rfl rfl (fun _ => by kernel_rfl)) rfl ?_
    refine s_y rfl (v := .iface 180 (.pointer (some ea))) (y_k rfl rfl (fun _ => by kernel_rfl)) rfl ?_
    refine s_y rfl (v := .string (⟨#[]⟩ : ByteArray)) (y_as rfl) rfl ?_
    refine s_y rfl (v := .iface 180 (.pointer (some ea))) (y_as rfl) rfl ?_
    refine s_nil (q_then (c_seq (c_seq (c_region ?_))))
    refine s_y rfl (v := .iface 180 (.pointer (some ea))) (y_mv rfl) rfl ?_
    refine s_y rfl (v := .bool true) (y_k rfl rfl (fun _ => by kernel_rfl)) rfl ?_
    refine s_nil (q_then (c_true rfl (c_seq (c_region ?_))))
    refine s_y rfl (v := .iface 180 (.pointer (some ea))) (y_mv rfl) rfl ?_
    refine st rfl (o_call [] [4, 5, 6, 7, 8, 9, 10] (told_ea_ ea em ef (by assumption) (by assumption) (by assumption)) rfl rfl rfl rfl rfl rfl (fun v L' I' hq3 => ?_))
    obtain ⟨rfl, rfl, rfl⟩ := hq3
    refine s_y rfl (v := .string (⟨#[]⟩ : ByteArray)) (y_as rfl) rfl ?_
    refine s_y rfl (v := .int .i64 2) (y_as rfl) rfl ?_
    refine s_nil (q_then (c_ret (q_then_ret (q_block_ret (q_then_ret (q_then_ret (q_block_ret (q_then_ret ?_))))))))
    have hp : packF ws l = ((⟨#[]⟩ : ByteArray), 2) := by first | exact pack_no (by assumption) | exact pack_end (by assumption) (by assumption) (by assumption) | (have hq := pack_bad (by assumption) (by assumption) (by assumption) (by assumption) (by rw [putF_big (by assumption) (by assumption)]; decide); rw [putF_big (by assumption) (by assumption)] at hq; exact hq) | (have hq := pack_bad (by assumption) (by assumption) (by assumption) (by assumption) (by rw [putF_bad (by assumption)]; decide); rw [putF_bad (by assumption)] at hq; exact hq)
    refine c_fin (I' := []) [] [2, 3, 4, 5, 6, 7, 8, 9, 10] rfl (.tmp rfl (.tmp rfl .nil)) rfl rfl rfl ?_
    rw [hp]
    exact ⟨rfl, rfl, rfl⟩
  ·
   refine s_y rfl (v := .bool false) (y_f (y_k (v := .bool (decide ((k : Int) < (l.length : Int)))) rfl rfl (fun _ => by kernel_rfl)) h66) rfl ?_
   refine s_nil (q_then (c_seq (c_false rfl ?_)))
   refine c_exit ?_
   refine q_then_exit ?_
   refine q_then_exit ?_
   refine q_block_here ?_
   refine q_then (c_seq (c_region ?_))
   refine s_y rfl (v := .string o) (y_mv rfl) rfl ?_
   refine s_y rfl (v := .string o) (y_as rfl) rfl ?_
   refine s_y rfl (v := .int .i64 0) (y_as rfl) rfl ?_
   refine s_nil (q_then (c_ret ?_))
   have hp : packF ws l = (o, 0) := by first | exact pack_no (by assumption) | exact pack_end (by assumption) (by assumption) (by assumption) | (have hq := pack_bad (by assumption) (by assumption) (by assumption) (by assumption) (by rw [putF_big (by assumption) (by assumption)]; decide); rw [putF_big (by assumption) (by assumption)] at hq; exact hq) | (have hq := pack_bad (by assumption) (by assumption) (by assumption) (by assumption) (by rw [putF_bad (by assumption)]; decide); rw [putF_bad (by assumption)] at hq; exact hq)
   refine c_fin (I' := []) [] [0, 1, 2, 3, 4, 5, 6, 7, 8] rfl (.tmp rfl (.tmp rfl .nil)) rfl rfl rfl ?_
   rw [hp]
   exact ⟨rfl, rfl, rfl⟩
 ·
  refine s_y rfl (v := .bool true) (y_nf (y_k (v := .bool (!decide ((ws.length : Int) = (l.length : Int)))) rfl rfl (fun _ => by kernel_rfl)) h65) rfl ?_
  refine s_nil (q_then (c_true rfl (c_seq (c_region ?_))))
  refine st rfl (o_ldf 2 0 rfl rfl rfl Tryz.underlying48 rfl rfl ?_)
  refine st rfl (o_call [] [2, 3, 4, 5, 6, 7, 8] (told_ea_ ea em ef (by assumption) (by assumption) (by assumption)) rfl rfl rfl rfl rfl rfl (fun v L' I' hq4 => ?_))
  obtain ⟨rfl, rfl, rfl⟩ := hq4
  refine s_y rfl (v := .string (⟨#[]⟩ : ByteArray)) (y_as rfl) rfl ?_
  refine s_y rfl (v := .int .i64 2) (y_as rfl) rfl ?_
  refine s_nil (q_then (c_ret (q_then_ret ?_)))
  have hp : packF ws l = ((⟨#[]⟩ : ByteArray), 2) := by first | exact pack_no (by assumption) | exact pack_end (by assumption) (by assumption) (by assumption) | (have hq := pack_bad (by assumption) (by assumption) (by assumption) (by assumption) (by rw [putF_big (by assumption) (by assumption)]; decide); rw [putF_big (by assumption) (by assumption)] at hq; exact hq) | (have hq := pack_bad (by assumption) (by assumption) (by assumption) (by assumption) (by rw [putF_bad (by assumption)]; decide); rw [putF_bad (by assumption)] at hq; exact hq)
  refine c_fin (I' := []) [] [0, 1, 2, 3, 4, 5, 6, 7, 8] rfl (.tmp rfl (.tmp rfl .nil)) rfl rfl rfl ?_
  rw [hp]
  exact ⟨rfl, rfl, rfl⟩
end Go.Proofs.YtcnncdniibkjkaaGreatDoor
