/- The laws of chapter 17 (call), walked over the given program; no condition but what stands in each theorem: part J. -/
import Derived.Test.YtcnncdniibkjkaaGreatDoorRI
set_option linter.unusedVariables false
set_option linter.unusedSimpArgs false
set_option maxRecDepth 100000
set_option maxHeartbeats 8000000
namespace Go.Proofs.YtcnncdniibkjkaaGreatDoor
open Go Go.Sl Go.RowKit Go.Extern.Stop Go.Stop Go.Extern
theorem number_ (b : Nat) (w : Int) (r : ByteArray) (q : Er) (ea : Addr) (em : Addr) (ef : Addr) (hr : r.size ≤ 9223372036854775807) : Con Tryz.prog 79 [.pointer (some ⟨b, 0, none⟩), .int .i64 w] [pt b [.string r, erV ea em ef q] 126] [cellsAt 2 0 [.iface 180 (.pointer (some ea))], cellsAt 3 0 [.iface 180 (.pointer (some em))], cellsAt 1 0 [.iface 180 (.pointer (some ef))], errAt ea, errAt em, errAt ef, cellsAt 0 0 [.iface 147 (.agg #[.pointer (some ⟨5, 48, none⟩)])]] (fun v L' I' => v = .int .u64 ((numberF w r q).1 : Int) ∧ L' = [pt b [.string ((numberF w r q).2.1), erV ea em ef ((numberF w r q).2.2)] 126] ∧ I' = []) := by
 refine fn_of Tryz.func79 rfl Tryz.ntmps79 (by kernel_rfl) rfl (fun C => ?_)
 refine c_seq (c_region ?_)
 refine s_y rfl (v := .int .u64 0) (y_as rfl) rfl ?_
 refine s_nil (q_then (c_seq (c_seq (c_region ?_))))
 refine s_y rfl (v := .int .i64 w) (y_mv rfl) rfl ?_
 refine st rfl (o_call [] [0, 1, 2, 3, 4, 5, 6] (bitsOf_ w ea em ef) rfl rfl rfl rfl rfl rfl (fun v L' I' hq1 => ?_))
 rcases hq1 with ⟨h1, rfl, rfl, rfl⟩ | ⟨h2, rfl, rfl, rfl⟩
 ·
  refine s_y rfl (v := .tuple #[.int .i64 (8 * w), .nilIface]) (y_mv rfl) rfl ?_
  refine s_y rfl (v := .int .i64 (8 * w)) (y_k rfl rfl (fun _ => by kernel_rfl)) rfl ?_
  refine s_y rfl (v := .nilIface) (y_k rfl rfl (fun _ => by kernel_rfl)) rfl ?_
  refine s_y rfl (v := .int .i64 (8 * w)) (y_as rfl) rfl ?_
  refine s_y rfl (v := .nilIface) (y_as rfl) rfl ?_
  refine s_nil (q_then (c_seq (c_region ?_)))
  refine s_y rfl (v := .nilIface) (y_mv rfl) rfl ?_
  refine s_y rfl (v := .bool false) (y_k rfl rfl (fun _ => by kernel_rfl)) rfl ?_
  refine s_y rfl (v := .bool false) (y_mv rfl) rfl ?_
  refine st_off 17 rfl rfl rfl rfl rfl rfl ?_
  refine st_off 17 rfl rfl rfl rfl rfl rfl ?_
  refine st_off 17 rfl rfl rfl rfl rfl rfl ?_
  refine st_off 17 rfl rfl rfl rfl rfl rfl ?_
  refine st_off 17 rfl rfl rfl rfl rfl rfl ?_
  refine s_y rfl (v := .bool false) (y_pick rfl rfl) rfl ?_
  refine s_nil (q_then (c_false rfl (c_skip (q_then (c_seq (c_region ?_))))))
  refine s_y rfl (v := .int .u64 0) (y_as rfl) rfl ?_
  refine s_nil (q_then (c_seq (c_seq (c_region ?_))))
  refine s_y rfl (v := .pointer (some ⟨b, 0, none⟩)) (y_mv rfl) rfl ?_
  refine s_y rfl (v := .int .i64 w) (y_mv rfl) rfl ?_
  refine st rfl (o_call [0] [0, 1, 2, 3, 4, 5, 6] (take_ b r q w ea em ef (by first | assumption | (intro hh; first | omega | contradiction | exact absurd hh (by simp) | (have := isW_rng (by assumption); omega))) (by first | omega | (rw [ByteArray.size_append]; omega) | decide | assumption)) rfl rfl rfl rfl rfl rfl (fun v L' I' hq2 => ?_))
  obtain ⟨rfl, rfl, rfl⟩ := hq2
  refine st rfl (o_s2b rfl Tryz.underlying9 Tryz.underlying105 Tryz.underlying5 rfl (by exact Nat.le_trans (take_le8l (by first | (intro _; assumption) | (intro hh; first | contradiction | exact absurd hh (by simp)))) (by decide)) (fun A1 c1 => ?_))
  refine s_y rfl (v := .int .i64 ((((takeS w r q).1).data.toList).length : Int)) (y_k rfl rfl (fun _ => by kernel_rfl)) rfl ?_
  refine s_y rfl (v := .int .i64 0) (y_mv rfl) rfl ?_
  refine s_nil (q_then (c_block ?_))
  refine c_loopn (ι := Nat) (fun k => (k ≤ (((takeS w r q).1).data.toList).length) ∧ ((((takeS w r q).1).data.toList).length ≤ 8)) (fun k => [(4, .int .u64 0), (7, .int .u64 ((numL ((((takeS w r q).1).data.toList).take k) : Nat) : Int)), (39, .slice A1 (((takeS w r q).1).data.toList).length c1), (40, .int .i64 ((((takeS w r q).1).data.toList).length : Int)), (41, .int .i64 (k : Int))]) (fun k => [pt b [.string ((takeS w r q).2.1), erV ea em ef ((takeS w r q).2.2)] 126]) (fun k => [rd u8Ty A1 c1 (((takeS w r q).1).data.toList), cellsAt 2 0 [.iface 180 (.pointer (some ea))], cellsAt 3 0 [.iface 180 (.pointer (some em))], cellsAt 1 0 [.iface 180 (.pointer (some ef))], errAt ea, errAt em, errAt ef, cellsAt 0 0 [.iface 147 (.agg #[.pointer (some ⟨5, 48, none⟩)])]]) (fun k => (((takeS w r q).1).data.toList).length - k) (0) [0] [0, 1, 2, 3, 4, 5, 6, 7] (show (0 ≤ (((takeS w r q).1).data.toList).length) ∧ ((((takeS w r q).1).data.toList).length ≤ 8) from ⟨by first | omega | simp_all | (simp; done), take_le8l (by first | (intro _; assumption) | (intro hh; first | contradiction | exact absurd hh (by simp)))⟩) ((.cons rfl rfl (.cons rfl (show (.int .u64 0 : Value) = .int .u64 ((numL ((((takeS w r q).1).data.toList).take 0) : Nat) : Int) from by first | rfl | (congr 1; omega) | (congr 1; simp; done) | (congr 1; simp; omega)) (.cons rfl rfl (.cons rfl rfl (.cons rfl rfl .nil)))))) rfl rfl ?_
  rintro k ⟨hk, h8⟩
  show Ent 52 C [(4, .int .u64 0), (7, .int .u64 ((numL ((((takeS w r q).1).data.toList).take k) : Nat) : Int)), (39, .slice A1 (((takeS w r q).1).data.toList).length c1), (40, .int .i64 ((((takeS w r q).1).data.toList).length : Int)), (41, .int .i64 (k : Int))] [] [pt b [.string ((takeS w r q).2.1), erV ea em ef ((takeS w r q).2.2)] 126] [rd u8Ty A1 c1 (((takeS w r q).1).data.toList), cellsAt 2 0 [.iface 180 (.pointer (some ea))], cellsAt 3 0 [.iface 180 (.pointer (some em))], cellsAt 1 0 [.iface 180 (.pointer (some ef))], errAt ea, errAt em, errAt ef, cellsAt 0 0 [.iface 147 (.agg #[.pointer (some ⟨5, 48, none⟩)])]] _
  refine c_seq (c_region ?_)
  refine e_by ((k : Int) < ((((takeS w r q).1).data.toList).length : Int)) (fun h3 => ?_) (fun h3 => ?_)
  ·
   refine s_y rfl (v := .bool true) (y_t (y_k (v := .bool (decide ((k : Int) < ((((takeS w r q).1).data.toList).length : Int)))) rfl rfl (fun _ => by kernel_rfl)) h3) rfl ?_
   refine s_nil (q_then (c_seq (c_true rfl (c_skip (q_then (c_seq (c_block (c_seq (c_region ?_)))))))))
   refine e_at 0 k rfl (by first | omega | (simp only [List.length_append, List.length_map, List.length_take, List.length_drop]; omega)) (fun b1 o1 x1 hA1 hx1 => ?_)
   refine s_y rfl (v := .pointer (some ⟨b1, o1 + k * 1, none⟩)) (y_at (d := u8Ty) (l := ((takeS w r q).1).data.toList) k hA1 rfl rfl rfl (rfl) (List.getElem?_eq_some_iff.1 hx1).1 Tryz.underlying105 (by kernel_rfl) (by kernel_rfl)) rfl ?_
   refine st rfl (o_ldf 0 0 rfl rfl rfl Tryz.underlying5 rfl rfl ?_)
   refine s_y rfl (v := .int .u8 (x1.toNat : Int)) (y_as rfl) rfl ?_
   refine s_nil (q_then (c_region ?_))
   refine s_y rfl (v := .int .u64 ((numL ((((takeS w r q).1).data.toList).take k) : Nat) : Int)) (y_mv rfl) rfl ?_
   refine s_y rfl (v := .int .u64 (((numL ((takeS w r q).1.data.toList.take k)) * 2 ^ 8 % 18446744073709551616 : Nat) : Int)) (y_shl (a := numL ((takeS w r q).1.data.toList.take k)) (k := 8) rfl rfl rfl (by first | omega | exact u8_lt64 _)) rfl ?_
   refine s_y rfl (v := .int .u8 (x1.toNat : Int)) (y_mv rfl) rfl ?_
   refine s_y rfl (v := .int .u64 (x1.toNat : Int)) (y_cvi (r := (x1.toNat : Int)) rfl Tryz.underlying5 Tryz.underlying22 (u8_in64 _)) rfl ?_
   refine s_y rfl (v := .int .u64 ((((numL ((takeS w r q).1.data.toList.take k)) * 2 ^ 8 % 18446744073709551616) ||| x1.toNat : Nat) : Int)) (y_or (a := (numL ((takeS w r q).1.data.toList.take k)) * 2 ^ 8 % 18446744073709551616) (b := x1.toNat) rfl rfl (by first | omega | exact u8_lt64 _) (by first | omega | exact u8_lt64 _)) rfl ?_
   refine s_y rfl (v := .int .u64 ((((numL ((takeS w r q).1.data.toList.take k)) * 2 ^ 8 % 18446744073709551616) ||| x1.toNat : Nat) : Int)) (y_as rfl) rfl ?_
   refine s_nil (q_block (q_then (c_region ?_)))
   refine s_y rfl (v := .int .i64 ((k : Int) + 1)) (y_add (r := (k : Int) + 1) rfl rfl rfl (by omega)) rfl ?_
   refine s_y rfl (v := .int .i64 ((k : Int) + 1)) (y_mv rfl) rfl ?_
   refine s_nil (q_then ?_)
   have hstep := num_or hx1 (by omega)
   rw [hstep]
   refine c_next [0] [1, 2, 3, 4, 5, 6, 7, 8] (k + 1) ?_ ?_ ?_ (by rfl) (by rfl)
   · exact (show ((k + 1) ≤ (((takeS w r q).1).data.toList).length) ∧ ((((takeS w r q).1).data.toList).length ≤ 8) from ⟨by first | omega | simp_all | (simp; done), by first | omega | simp_all | (simp; done)⟩)
   · show (((takeS w r q).1).data.toList).length - (k + 1) < (((takeS w r q).1).data.toList).length - k; omega
   · exact (.cons rfl rfl (.cons rfl rfl (.cons rfl rfl (.cons rfl rfl (.cons rfl (show (.int .i64 ((k : Int) + 1) : Value) = .int .i64 ((k + 1) : Int) from by first | rfl | (congr 1; omega) | (congr 1; simp; done) | (congr 1; simp; omega)) .nil)))))
  ·
   refine s_y rfl (v := .bool false) (y_f (y_k (v := .bool (decide ((k : Int) < ((((takeS w r q).1).data.toList).length : Int)))) rfl rfl (fun _ => by kernel_rfl)) h3) rfl ?_
   refine s_nil (q_then (c_seq (c_false rfl ?_)))
   refine c_exit ?_
   refine q_then_exit ?_
   refine q_then_exit ?_
   refine q_block_here ?_
   refine q_then (c_seq (c_region ?_))
   refine s_y rfl (v := .int .u64 ((numL ((((takeS w r q).1).data.toList).take k) : Nat) : Int)) (y_mv rfl) rfl ?_
   refine s_y rfl (v := .int .u64 ((numL ((((takeS w r q).1).data.toList).take k) : Nat) : Int)) (y_as rfl) rfl ?_
   refine s_nil (q_then (c_ret ?_))
   have hb : badW w r q = q := by unfold badW; first | rw [if_pos (by assumption)] | rw [if_neg (by assumption), if_pos (by assumption)] | rw [if_neg (by assumption), if_neg (by assumption)]
   have hl : (((takeS w r q).1).data.toList).take k = (((takeS w r q).1).data.toList) := List.take_of_length_le (by omega)
   have hp : numberF w r q = (numL ((((takeS w r q).1).data.toList).take k), (takeS w r q).2.1, (takeS w r q).2.2) := by unfold numberF; rw [hb, hl]
   refine c_fin (I' := []) [0] [1, 2, 3, 4, 5, 6, 7] rfl (.tmp rfl .nil) rfl rfl rfl ?_
   rw [hp]
   exact ⟨rfl, rfl, rfl⟩
 ·
  refine s_y rfl (v := .tuple #[.int .i64 0, .iface 180 (.pointer (some ea))]) (y_mv rfl) rfl ?_
  refine s_y rfl (v := .int .i64 0) (y_k rfl rfl (fun _ => by kernel_rfl)) rfl ?_
  refine s_y rfl (v := .iface 180 (.pointer (some ea))) (y_k rfl rfl (fun _ => by kernel_rfl)) rfl ?_
  refine s_y rfl (v := .int .i64 0) (y_as rfl) rfl ?_
  refine s_y rfl (v := .iface 180 (.pointer (some ea))) (y_as rfl) rfl ?_
  refine s_nil (q_then (c_seq (c_region ?_)))
  refine s_y rfl (v := .iface 180 (.pointer (some ea))) (y_mv rfl) rfl ?_
  refine s_y rfl (v := .bool true) (y_k rfl rfl (fun _ => by kernel_rfl)) rfl ?_
  refine s_y rfl (v := .bool true) (y_mv rfl) rfl ?_
  refine st_on 17 rfl rfl rfl (o_y (v := .pointer (some ⟨b, 0, none⟩)) (y_mv rfl) rfl rfl rfl ?_)
  refine st_on 17 rfl rfl rfl (o_y (v := .pointer (some ⟨b, 0, none⟩)) (y_k rfl rfl (fun _ => by kernel_rfl)) rfl rfl rfl ?_)
  refine st_on 17 rfl rfl rfl (o_y (v := .pointer (some ⟨b, 1, none⟩)) (y_k rfl rfl (fun _ => by kernel_rfl)) rfl rfl rfl ?_)
  refine st_on 17 rfl rfl rfl (o_ld 0 rfl rfl rfl Tryz.underlying48 rfl rfl ?_)
  refine e_by (q = none) (fun h4 => ?_) (fun h4 => ?_)
  ·
   refine st_on 17 rfl rfl rfl (o_y (v := .bool true) (y_t (y_bin rfl rfl (fun w => er_eq ea em ef q _ w)) h4) rfl rfl rfl ?_)
   refine s_y rfl (v := .bool true) (y_pick rfl rfl) rfl ?_
   refine s_nil (q_then (c_true rfl (c_region ?_)))
   refine s_y rfl (v := .pointer (some ⟨b, 0, none⟩)) (y_mv rfl) rfl ?_
   refine s_y rfl (v := .iface 180 (.pointer (some ea))) (y_mv rfl) rfl ?_
   refine s_y rfl (v := .pointer (some ⟨b, 0, none⟩)) (y_mv rfl) rfl ?_
   refine s_y rfl (v := .pointer (some ⟨b, 0, none⟩)) (y_k rfl rfl (fun _ => by kernel_rfl)) rfl ?_
   refine s_y rfl (v := .pointer (some ⟨b, 0, none⟩)) (y_k rfl rfl (fun _ => by kernel_rfl)) rfl ?_
   refine s_y rfl (v := .pointer (some ⟨b, 0, none⟩)) (y_k rfl rfl (fun _ => by kernel_rfl)) rfl ?_
   refine st rfl (o_ld 0 rfl rfl rfl Tryz.underlying9 rfl rfl ?_)
   refine s_y rfl (v := .int .i64 (r.size : Int)) (y_k rfl rfl (fun _ => by kernel_rfl)) rfl ?_
   refine s_y rfl (v := .agg #[.iface 180 (.pointer (some ea)), .int .i64 (r.size : Int)]) (y_k rfl rfl (fun _ => by kernel_rfl)) rfl ?_
   refine s_y rfl (v := .iface 131 (.agg #[.iface 180 (.pointer (some ea)), .int .i64 (r.size : Int)])) (y_k rfl rfl (fun _ => by kernel_rfl)) rfl ?_
   refine s_y rfl (v := .pointer (some ⟨b, 0, none⟩)) (y_k rfl rfl (fun _ => by kernel_rfl)) rfl ?_
   refine s_y rfl (v := .pointer (some ⟨b, 1, none⟩)) (y_k rfl rfl (fun _ => by kernel_rfl)) rfl ?_
   refine st rfl (o_st 0 rfl rfl rfl rfl rfl (by kernel_rfl) (by kernel_rfl) rfl ?_)
   refine s_nil (q_then (c_seq (c_region ?_)))
   refine s_y rfl (v := .int .u64 0) (y_as rfl) rfl ?_
   refine s_nil (q_then (c_seq (c_seq (c_region ?_))))
   refine s_y rfl (v := .pointer (some ⟨b, 0, none⟩)) (y_mv rfl) rfl ?_
   refine s_y rfl (v := .int .i64 w) (y_mv rfl) rfl ?_
   show Ent _ _ _ _ [pt b [.string r, erV ea em ef (some (0, r.size))] 126] _ _
   refine st rfl (o_call [0] [0, 1, 2, 3, 4, 5, 6] (take_ b r (some (0, r.size)) w ea em ef (by first | assumption | (intro hh; first | omega | contradiction | exact absurd hh (by simp) | (have := isW_rng (by assumption); omega))) (by first | omega | (rw [ByteArray.size_append]; omega) | decide | assumption)) rfl rfl rfl rfl rfl rfl (fun v L' I' hq3 => ?_))
   obtain ⟨rfl, rfl, rfl⟩ := hq3
   refine st rfl (o_s2b rfl Tryz.underlying9 Tryz.underlying105 Tryz.underlying5 rfl (by exact Nat.le_trans (take_le8l (by first | (intro _; assumption) | (intro hh; first | contradiction | exact absurd hh (by simp)))) (by decide)) (fun A2 c2 => ?_))
   refine s_y rfl (v := .int .i64 ((((takeS w r (some (0, r.size))).1).data.toList).length : Int)) (y_k rfl rfl (fun _ => by kernel_rfl)) rfl ?_
   refine s_y rfl (v := .int .i64 0) (y_mv rfl) rfl ?_
   refine s_nil (q_then (c_block ?_))
   refine c_loopn (ι := Nat) (fun k => (k ≤ (((takeS w r (some (0, r.size))).1).data.toList).length) ∧ ((((takeS w r (some (0, r.size))).1).data.toList).length ≤ 8)) (fun k => [(4, .int .u64 0), (7, .int .u64 ((numL ((((takeS w r (some (0, r.size))).1).data.toList).take k) : Nat) : Int)), (39, .slice A2 (((takeS w r (some (0, r.size))).1).data.toList).length c2), (40, .int .i64 ((((takeS w r (some (0, r.size))).1).data.toList).length : Int)), (41, .int .i64 (k : Int))]) (fun k => [pt b [.string ((takeS w r (some (0, r.size))).2.1), erV ea em ef ((takeS w r (some (0, r.size))).2.2)] 126]) (fun k => [rd u8Ty A2 c2 (((takeS w r (some (0, r.size))).1).data.toList), cellsAt 2 0 [.iface 180 (.pointer (some ea))], cellsAt 3 0 [.iface 180 (.pointer (some em))], cellsAt 1 0 [.iface 180 (.pointer (some ef))], errAt ea, errAt em, errAt ef, cellsAt 0 0 [.iface 147 (.agg #[.pointer (some ⟨5, 48, none⟩)])]]) (fun k => (((takeS w r (some (0, r.size))).1).data.toList).length - k) (0) [0] [0, 1, 2, 3, 4, 5, 6, 7] (show (0 ≤ (((takeS w r (some (0, r.size))).1).data.toList).length) ∧ ((((takeS w r (some (0, r.size))).1).data.toList).length ≤ 8) from ⟨by first | omega | simp_all | (simp; done), take_le8l (by first | (intro _; assumption) | (intro hh; first | contradiction | exact absurd hh (by simp)))⟩) ((.cons rfl rfl (.cons rfl (show (.int .u64 0 : Value) = .int .u64 ((numL ((((takeS w r (some (0, r.size))).1).data.toList).take 0) : Nat) : Int) from by first | rfl | (congr 1; omega) | (congr 1; simp; done) | (congr 1; simp; omega)) (.cons rfl rfl (.cons rfl rfl (.cons rfl rfl .nil)))))) rfl rfl ?_
   rintro k ⟨hk, h8⟩
   show Ent 52 C [(4, .int .u64 0), (7, .int .u64 ((numL ((((takeS w r (some (0, r.size))).1).data.toList).take k) : Nat) : Int)), (39, .slice A2 (((takeS w r (some (0, r.size))).1).data.toList).length c2), (40, .int .i64 ((((takeS w r (some (0, r.size))).1).data.toList).length : Int)), (41, .int .i64 (k : Int))] [] [pt b [.string ((takeS w r (some (0, r.size))).2.1), erV ea em ef ((takeS w r (some (0, r.size))).2.2)] 126] [rd u8Ty A2 c2 (((takeS w r (some (0, r.size))).1).data.toList), cellsAt 2 0 [.iface 180 (.pointer (some ea))], cellsAt 3 0 [.iface 180 (.pointer (some em))], cellsAt 1 0 [.iface 180 (.pointer (some ef))], errAt ea, errAt em, errAt ef, cellsAt 0 0 [.iface 147 (.agg #[.pointer (some ⟨5, 48, none⟩)])]] _
   refine c_seq (c_region ?_)
   refine e_by ((k : Int) < ((((takeS w r (some (0, r.size))).1).data.toList).length : Int)) (fun h5 => ?_) (fun h5 => ?_)
   ·
    refine s_y rfl (v := .bool true) (y_t (y_k (v := .bool (decide ((k : Int) < ((((takeS w r (some (0, r.size))).1).data.toList).length : Int)))) rfl rfl (fun _ => by kernel_rfl)) h5) rfl ?_
    refine s_nil (q_then (c_seq (c_true rfl (c_skip (q_then (c_seq (c_block (c_seq (c_region ?_)))))))))
    refine e_at 0 k rfl (by first | omega | (simp only [List.length_append, List.length_map, List.length_take, List.length_drop]; omega)) (fun b2 o2 x2 hA2 hx2 => ?_)
    refine s_y rfl (v := .pointer (some ⟨b2, o2 + k * 1, none⟩)) (y_at (d := u8Ty) (l := ((takeS w r (some (0, r.size))).1).data.toList) k hA2 rfl rfl rfl (rfl) (List.getElem?_eq_some_iff.1 hx2).1 Tryz.underlying105 (by kernel_rfl) (by kernel_rfl)) rfl ?_
    refine st rfl (o_ldf 0 0 rfl rfl rfl Tryz.underlying5 rfl rfl ?_)
    refine s_y rfl (v := .int .u8 (x2.toNat : Int)) (y_as rfl) rfl ?_
    refine s_nil (q_then (c_region ?_))
    refine s_y rfl (v := .int .u64 ((numL ((((takeS w r (some (0, r.size))).1).data.toList).take k) : Nat) : Int)) (y_mv rfl) rfl ?_
    refine s_y rfl (v := .int .u64 (((numL ((takeS w r (some (0, r.size))).1.data.toList.take k)) * 2 ^ 8 % 18446744073709551616 : Nat) : Int)) (y_shl (a := numL ((takeS w r (some (0, r.size))).1.data.toList.take k)) (k := 8) rfl rfl rfl (by first | omega | exact u8_lt64 _)) rfl ?_
    refine s_y rfl (v := .int .u8 (x2.toNat : Int)) (y_mv rfl) rfl ?_
    refine s_y rfl (v := .int .u64 (x2.toNat : Int)) (y_cvi (r := (x2.toNat : Int)) rfl Tryz.underlying5 Tryz.underlying22 (u8_in64 _)) rfl ?_
    refine s_y rfl (v := .int .u64 ((((numL ((takeS w r (some (0, r.size))).1.data.toList.take k)) * 2 ^ 8 % 18446744073709551616) ||| x2.toNat : Nat) : Int)) (y_or (a := (numL ((takeS w r (some (0, r.size))).1.data.toList.take k)) * 2 ^ 8 % 18446744073709551616) (b := x2.toNat) rfl rfl (by first | omega | exact u8_lt64 _) (by first | omega | exact u8_lt64 _)) rfl ?_
    refine s_y rfl (v := .int .u64 ((((numL ((takeS w r (some (0, r.size))).1.data.toList.take k)) * 2 ^ 8 % 18446744073709551616) ||| x2.toNat : Nat) : Int)) (y_as rfl) rfl ?_
    refine s_nil (q_block (q_then (c_region ?_)))
    refine s_y rfl (v := .int .i64 ((k : Int) + 1)) (y_add (r := (k : Int) + 1) rfl rfl rfl (by omega)) rfl ?_
    refine s_y rfl (v := .int .i64 ((k : Int) + 1)) (y_mv rfl) rfl ?_
    refine s_nil (q_then ?_)
    have hstep := num_or hx2 (by omega)
    rw [hstep]
    refine c_next [0] [1, 2, 3, 4, 5, 6, 7, 8] (k + 1) ?_ ?_ ?_ (by rfl) (by rfl)
    · exact (show ((k + 1) ≤ (((takeS w r (some (0, r.size))).1).data.toList).length) ∧ ((((takeS w r (some (0, r.size))).1).data.toList).length ≤ 8) from ⟨by first | omega | simp_all | (simp; done), by first | omega | simp_all | (simp; done)⟩)
    · show (((takeS w r (some (0, r.size))).1).data.toList).length - (k + 1) < (((takeS w r (some (0, r.size))).1).data.toList).length - k; omega
    · exact (.cons rfl rfl (.cons rfl rfl (.cons rfl rfl (.cons rfl rfl (.cons rfl (show (.int .i64 ((k : Int) + 1) : Value) = .int .i64 ((k + 1) : Int) from by first | rfl | (congr 1; omega) | (congr 1; simp; done) | (congr 1; simp; omega)) .nil)))))
   ·
    refine s_y rfl (v := .bool false) (y_f (y_k (v := .bool (decide ((k : Int) < ((((takeS w r (some (0, r.size))).1).data.toList).length : Int)))) rfl rfl (fun _ => by kernel_rfl)) h5) rfl ?_
    refine s_nil (q_then (c_seq (c_false rfl ?_)))
    refine c_exit ?_
    refine q_then_exit ?_
    refine q_then_exit ?_
    refine q_block_here ?_
    refine q_then (c_seq (c_region ?_))
    refine s_y rfl (v := .int .u64 ((numL ((((takeS w r (some (0, r.size))).1).data.toList).take k) : Nat) : Int)) (y_mv rfl) rfl ?_
    refine s_y rfl (v := .int .u64 ((numL ((((takeS w r (some (0, r.size))).1).data.toList).take k) : Nat) : Int)) (y_as rfl) rfl ?_
    refine s_nil (q_then (c_ret ?_))
    have hb : badW w r q = (some (0, r.size)) := by unfold badW; first | rw [if_pos (by assumption)] | rw [if_neg (by assumption), if_pos (by assumption)] | rw [if_neg (by assumption), if_neg (by assumption)]
    have hl : (((takeS w r (some (0, r.size))).1).data.toList).take k = (((takeS w r (some (0, r.size))).1).data.toList) := List.take_of_length_le (by omega)
    have hp : numberF w r q = (numL ((((takeS w r (some (0, r.size))).1).data.toList).take k), (takeS w r (some (0, r.size))).2.1, (takeS w r (some (0, r.size))).2.2) := by unfold numberF; rw [hb, hl]
    refine c_fin (I' := []) [0] [1, 2, 3, 4, 5, 6, 7] rfl (.tmp rfl .nil) rfl rfl rfl ?_
    rw [hp]
    exact ⟨rfl, rfl, rfl⟩
  ·
   refine st_on 17 rfl rfl rfl (o_y (v := .bool false) (y_f (y_bin rfl rfl (fun w => er_eq ea em ef q _ w)) h4) rfl rfl rfl ?_)
   refine s_y rfl (v := .bool false) (y_pick rfl rfl) rfl ?_
   refine s_nil (q_then (c_false rfl (c_skip (q_then (c_seq (c_region ?_))))))
   refine s_y rfl (v := .int .u64 0) (y_as rfl) rfl ?_
   refine s_nil (q_then (c_seq (c_seq (c_region ?_))))
   refine s_y rfl (v := .pointer (some ⟨b, 0, none⟩)) (y_mv rfl) rfl ?_
   refine s_y rfl (v := .int .i64 w) (y_mv rfl) rfl ?_
   refine st rfl (o_call [0] [0, 1, 2, 3, 4, 5, 6] (take_ b r q w ea em ef (by first | assumption | (intro hh; first | omega | contradiction | exact absurd hh (by simp) | (have := isW_rng (by assumption); omega))) (by first | omega | (rw [ByteArray.size_append]; omega) | decide | assumption)) rfl rfl rfl rfl rfl rfl (fun v L' I' hq4 => ?_))
   obtain ⟨rfl, rfl, rfl⟩ := hq4
   refine st rfl (o_s2b rfl Tryz.underlying9 Tryz.underlying105 Tryz.underlying5 rfl (by exact Nat.le_trans (take_le8l (by first | (intro _; assumption) | (intro hh; first | contradiction | exact absurd hh (by simp)))) (by decide)) (fun A3 c3 => ?_))
   refine s_y rfl (v := .int .i64 ((((takeS w r q).1).data.toList).length : Int)) (y_k rfl rfl (fun _ => by kernel_rfl)) rfl ?_
   refine s_y rfl (v := .int .i64 0) (y_mv rfl) rfl ?_
   refine s_nil (q_then (c_block ?_))
   refine c_loopn (ι := Nat) (fun k => (k ≤ (((takeS w r q).1).data.toList).length) ∧ ((((takeS w r q).1).data.toList).length ≤ 8)) (fun k => [(4, .int .u64 0), (7, .int .u64 ((numL ((((takeS w r q).1).data.toList).take k) : Nat) : Int)), (39, .slice A3 (((takeS w r q).1).data.toList).length c3), (40, .int .i64 ((((takeS w r q).1).data.toList).length : Int)), (41, .int .i64 (k : Int))]) (fun k => [pt b [.string ((takeS w r q).2.1), erV ea em ef ((takeS w r q).2.2)] 126]) (fun k => [rd u8Ty A3 c3 (((takeS w r q).1).data.toList), cellsAt 2 0 [.iface 180 (.pointer (some ea))], cellsAt 3 0 [.iface 180 (.pointer (some em))], cellsAt 1 0 [.iface 180 (.pointer (some ef))], errAt ea, errAt em, errAt ef, cellsAt 0 0 [.iface 147 (.agg #[.pointer (some ⟨5, 48, none⟩)])]]) (fun k => (((takeS w r q).1).data.toList).length - k) (0) [0] [0, 1, 2, 3, 4, 5, 6, 7] (show (0 ≤ (((takeS w r q).1).data.toList).length) ∧ ((((takeS w r q).1).data.toList).length ≤ 8) from ⟨by first | omega | simp_all | (simp; done), take_le8l (by first | (intro _; assumption) | (intro hh; first | contradiction | exact absurd hh (by simp)))⟩) ((.cons rfl rfl (.cons rfl (show (.int .u64 0 : Value) = .int .u64 ((numL ((((takeS w r q).1).data.toList).take 0) : Nat) : Int) from by first | rfl | (congr 1; omega) | (congr 1; simp; done) | (congr 1; simp; omega)) (.cons rfl rfl (.cons rfl rfl (.cons rfl rfl .nil)))))) rfl rfl ?_
   rintro k ⟨hk, h8⟩
   show Ent 52 C [(4, .int .u64 0), (7, .int .u64 ((numL ((((takeS w r q).1).data.toList).take k) : Nat) : Int)), (39, .slice A3 (((takeS w r q).1).data.toList).length c3), (40, .int .i64 ((((takeS w r q).1).data.toList).length : Int)), (41, .int .i64 (k : Int))] [] [pt b [.string ((takeS w r q).2.1), erV ea em ef ((takeS w r q).2.2)] 126] [rd u8Ty A3 c3 (((takeS w r q).1).data.toList), cellsAt 2 0 [.iface 180 (.pointer (some ea))], cellsAt 3 0 [.iface 180 (.pointer (some em))], cellsAt 1 0 [.iface 180 (.pointer (some ef))], errAt ea, errAt em, errAt ef, cellsAt 0 0 [.iface 147 (.agg #[.pointer (some ⟨5, 48, none⟩)])]] _
   refine c_seq (c_region ?_)
   refine e_by ((k : Int) < ((((takeS w r q).1).data.toList).length : Int)) (fun h6 => ?_) (fun h6 => ?_)
   ·
    refine s_y rfl (v := .bool true) (y_t (y_k (v := .bool (decide ((k : Int) < ((((takeS w r q).1).data.toList).length : Int)))) rfl rfl (fun _ => by kernel_rfl)) h6) rfl ?_
    refine s_nil (q_then (c_seq (c_true rfl (c_skip (q_then (c_seq (c_block (c_seq (c_region ?_)))))))))
    refine e_at 0 k rfl (by first | omega | (simp only [List.length_append, List.length_map, List.length_take, List.length_drop]; omega)) (fun b3 o3 x3 hA3 hx3 => ?_)
    refine s_y rfl (v := .pointer (some ⟨b3, o3 + k * 1, none⟩)) (y_at (d := u8Ty) (l := ((takeS w r q).1).data.toList) k hA3 rfl rfl rfl (rfl) (List.getElem?_eq_some_iff.1 hx3).1 Tryz.underlying105 (by kernel_rfl) (by kernel_rfl)) rfl ?_
    refine st rfl (o_ldf 0 0 rfl rfl rfl Tryz.underlying5 rfl rfl ?_)
    refine s_y rfl (v := .int .u8 (x3.toNat : Int)) (y_as rfl) rfl ?_
    refine s_nil (q_then (c_region ?_))
    refine s_y rfl (v := .int .u64 ((numL ((((takeS w r q).1).data.toList).take k) : Nat) : Int)) (y_mv rfl) rfl ?_
    refine s_y rfl (v := .int .u64 (((numL ((takeS w r q).1.data.toList.take k)) * 2 ^ 8 % 18446744073709551616 : Nat) : Int)) (y_shl (a := numL ((takeS w r q).1.data.toList.take k)) (k := 8) rfl rfl rfl (by first | omega | exact u8_lt64 _)) rfl ?_
    refine s_y rfl (v := .int .u8 (x3.toNat : Int)) (y_mv rfl) rfl ?_
    refine s_y rfl (v := .int .u64 (x3.toNat : Int)) (y_cvi (r := (x3.toNat : Int)) rfl Tryz.underlying5 Tryz.underlying22 (u8_in64 _)) rfl ?_
    refine s_y rfl (v := .int .u64 ((((numL ((takeS w r q).1.data.toList.take k)) * 2 ^ 8 % 18446744073709551616) ||| x3.toNat : Nat) : Int)) (y_or (a := (numL ((takeS w r q).1.data.toList.take k)) * 2 ^ 8 % 18446744073709551616) (b := x3.toNat) rfl rfl (by first | omega | exact u8_lt64 _) (by first | omega | exact u8_lt64 _)) rfl ?_
    refine s_y rfl (v := .int .u64 ((((numL ((takeS w r q).1.data.toList.take k)) * 2 ^ 8 % 18446744073709551616) ||| x3.toNat : Nat) : Int)) (y_as rfl) rfl ?_
    refine s_nil (q_block (q_then (c_region ?_)))
    refine s_y rfl (v := .int .i64 ((k : Int) + 1)) (y_add (r := (k : Int) + 1) rfl rfl rfl (by omega)) rfl ?_
    refine s_y rfl (v := .int .i64 ((k : Int) + 1)) (y_mv rfl) rfl ?_
    refine s_nil (q_then ?_)
    have hstep := num_or hx3 (by omega)
    rw [hstep]
    refine c_next [0] [1, 2, 3, 4, 5, 6, 7, 8] (k + 1) ?_ ?_ ?_ (by rfl) (by rfl)
    · exact (show ((k + 1) ≤ (((takeS w r q).1).data.toList).length) ∧ ((((takeS w r q).1).data.toList).length ≤ 8) from ⟨by first | omega | simp_all | (simp; done), by first | omega | simp_all | (simp; done)⟩)
    · show (((takeS w r q).1).data.toList).length - (k + 1) < (((takeS w r q).1).data.toList).length - k; omega
    · exact (.cons rfl rfl (.cons rfl rfl (.cons rfl rfl (.cons rfl rfl (.cons rfl (show (.int .i64 ((k : Int) + 1) : Value) = .int .i64 ((k + 1) : Int) from by first | rfl | (congr 1; omega) | (congr 1; simp; done) | (congr 1; simp; omega)) .nil)))))
   ·
    refine s_y rfl (v := .bool false) (y_f (y_k (v := .bool (decide ((k : Int) < ((((takeS w r q).1).data.toList).length : Int)))) rfl rfl (fun _ => by kernel_rfl)) h6) rfl ?_
    refine s_nil (q_then (c_seq (c_false rfl ?_)))
    refine c_exit ?_
    refine q_then_exit ?_
    refine q_then_exit ?_
    refine q_block_here ?_
    refine q_then (c_seq (c_region ?_))
    refine s_y rfl (v := .int .u64 ((numL ((((takeS w r q).1).data.toList).take k) : Nat) : Int)) (y_mv rfl) rfl ?_
    refine s_y rfl (v := .int .u64 ((numL ((((takeS w r q).1).data.toList).take k) : Nat) : Int)) (y_as rfl) rfl ?_
    refine s_nil (q_then (c_ret ?_))
    have hb : badW w r q = q := by unfold badW; first | rw [if_pos (by assumption)] | rw [if_neg (by assumption), if_pos (by assumption)] | rw [if_neg (by assumption), if_neg (by assumption)]
    have hl : (((takeS w r q).1).data.toList).take k = (((takeS w r q).1).data.toList) := List.take_of_length_le (by omega)
    have hp : numberF w r q = (numL ((((takeS w r q).1).data.toList).take k), (takeS w r q).2.1, (takeS w r q).2.2) := by unfold numberF; rw [hb, hl]
    refine c_fin (I' := []) [0] [1, 2, 3, 4, 5, 6, 7] rfl (.tmp rfl .nil) rfl rfl rfl ?_
    rw [hp]
    exact ⟨rfl, rfl, rfl⟩
end Go.Proofs.YtcnncdniibkjkaaGreatDoor
