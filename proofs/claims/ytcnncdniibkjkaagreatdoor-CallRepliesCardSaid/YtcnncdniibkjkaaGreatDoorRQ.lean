/- The laws of chapter 17 (call), walked over the given program; no condition but what stands in each theorem: part Q. -/
import Derived.Test.YtcnncdniibkjkaaGreatDoorRP
set_option linter.unusedVariables false
set_option linter.unusedSimpArgs false
set_option maxRecDepth 100000
set_option maxHeartbeats 8000000
namespace Go.Proofs.YtcnncdniibkjkaaGreatDoor
open Go Go.Sl Go.RowKit Go.Extern.Stop Go.Stop Go.Extern
theorem numbers_ (b : Nat) (r : ByteArray) (q : Er) (A : Option Addr) (c : Nat) (ws : List Int) (ea : Addr) (em : Addr) (ef : Addr) (hr : r.size ≤ 9223372036854775807) (hw : ws.length ≤ 1000) : Con Tryz.prog 101 [.pointer (some ⟨b, 0, none⟩), .slice A ws.length c] [pt b [.string r, erV ea em ef q] 126] [rd intTy A c ws, cellsAt 2 0 [.iface 180 (.pointer (some ea))], cellsAt 3 0 [.iface 180 (.pointer (some em))], cellsAt 1 0 [.iface 180 (.pointer (some ef))], errAt ea, errAt em, errAt ef, cellsAt 0 0 [.iface 147 (.agg #[.pointer (some ⟨5, 48, none⟩)])]] (fun v L' I' => ∃ A1 : Option Addr, ∃ c1 : Nat, v = .slice A1 ((numsF ws r q).1).length c1 ∧ L' = [pt b [.string ((numsF ws r q).2.1), erV ea em ef ((numsF ws r q).2.2)] 126, ars u64Ty 22 A1 c1 ((numsF ws r q).1)] ∧ I' = []) := by
 refine fn_of Tryz.func101 rfl Tryz.ntmps101 (by kernel_rfl) rfl (fun C => ?_)
 refine c_seq (c_region ?_)
 refine s_y rfl (v := .slice none 0 0) (y_as rfl) rfl ?_
 refine s_nil (q_then (c_seq (c_region ?_)))
 refine s_y rfl (v := .slice none 0 0) (y_as rfl) rfl ?_
 refine s_nil (q_then (c_seq (c_seq (c_region ?_))))
 refine s_y rfl (v := .slice A ws.length c) (y_mv rfl) rfl ?_
 refine s_y rfl (v := .int .i64 (ws.length : Int)) (y_k rfl rfl (fun _ => by kernel_rfl)) rfl ?_
 refine s_y rfl (v := .int .i64 0) (y_mv rfl) rfl ?_
 refine s_nil (q_then (c_block ?_))
 refine e_nil u64Ty 22 ?_
 refine c_loopn (ι := Nat × (List Nat) × (Option Addr) × Nat × ByteArray × Er) (fun (k, a, A2, c2, r1, q1) => (k ≤ ws.length) ∧ (numsF (ws.take k) r q = (a, r1, q1)) ∧ (a.length = k) ∧ (r1.size ≤ 9223372036854775807)) (fun (k, a, A2, c2, r1, q1) => [(0, .pointer (some ⟨b, 0, none⟩)), (4, .slice none 0 0), (5, .slice A2 a.length c2), (8, .slice A ws.length c), (9, .int .i64 (ws.length : Int)), (10, .int .i64 (k : Int))]) (fun (k, a, A2, c2, r1, q1) => [pt b [.string r1, erV ea em ef q1] 126, ars u64Ty 22 A2 c2 a]) (fun (k, a, A2, c2, r1, q1) => [rd intTy A c ws, cellsAt 2 0 [.iface 180 (.pointer (some ea))], cellsAt 3 0 [.iface 180 (.pointer (some em))], cellsAt 1 0 [.iface 180 (.pointer (some ef))], errAt ea, errAt em, errAt ef, cellsAt 0 0 [.iface 147 (.agg #[.pointer (some ⟨5, 48, none⟩)])]]) (fun (k, a, A2, c2, r1, q1) => ws.length - k) (0, [], none, 0, r, q) [1, 0] [0, 1, 2, 3, 4, 5, 6, 7] (show (0 ≤ ws.length) ∧ (numsF (ws.take 0) r q = ([], r, q)) ∧ ([].length = 0) ∧ (r.size ≤ 9223372036854775807) from ⟨by first | omega | simp_all | (simp; done), rfl, rfl, by first | omega | simp_all | (simp; done)⟩) ((.cons rfl rfl (.cons rfl rfl (.cons rfl (show (.slice none 0 0 : Value) = .slice none [].length 0 from by first | rfl | (congr 1; omega) | (congr 1; simp; done) | (congr 1; simp; omega)) (.cons rfl rfl (.cons rfl rfl (.cons rfl rfl .nil))))))) rfl rfl ?_
 rintro ⟨k, a, A2, c2, r1, q1⟩ ⟨hk, ha, hal, hr1⟩
 show Ent 22 C [(0, .pointer (some ⟨b, 0, none⟩)), (4, .slice none 0 0), (5, .slice A2 a.length c2), (8, .slice A ws.length c), (9, .int .i64 (ws.length : Int)), (10, .int .i64 (k : Int))] [] [pt b [.string r1, erV ea em ef q1] 126, ars u64Ty 22 A2 c2 a] [rd intTy A c ws, cellsAt 2 0 [.iface 180 (.pointer (some ea))], cellsAt 3 0 [.iface 180 (.pointer (some em))], cellsAt 1 0 [.iface 180 (.pointer (some ef))], errAt ea, errAt em, errAt ef, cellsAt 0 0 [.iface 147 (.agg #[.pointer (some ⟨5, 48, none⟩)])]] _
 refine c_seq (c_region ?_)
 refine e_by ((k : Int) < (ws.length : Int)) (fun h1 => ?_) (fun h1 => ?_)
 ·
  refine s_y rfl (v := .bool true) (y_t (y_k (v := .bool (decide ((k : Int) < (ws.length : Int)))) rfl rfl (fun _ => by kernel_rfl)) h1) rfl ?_
  refine s_nil (q_then (c_seq (c_true rfl (c_skip (q_then (c_seq (c_block (c_seq (c_region ?_)))))))))
  refine e_at 0 k rfl (by first | omega | (simp only [List.length_append, List.length_map, List.length_take, List.length_drop]; omega)) (fun b1 o1 x1 hA1 hx1 => ?_)
  refine s_y rfl (v := .pointer (some ⟨b1, o1 + k * 1, none⟩)) (y_at (d := intTy) (l := ws) k hA1 rfl rfl rfl (rfl) (List.getElem?_eq_some_iff.1 hx1).1 Tryz.underlying74 (by kernel_rfl) (by kernel_rfl)) rfl ?_
  refine st rfl (o_ldf 0 0 rfl rfl rfl Tryz.underlying3 rfl rfl ?_)
  refine s_y rfl (v := .int .i64 x1) (y_as rfl) rfl ?_
  refine s_nil (q_then (c_region ?_))
  refine s_y rfl (v := .slice A2 a.length c2) (y_mv rfl) rfl ?_
  refine s_y rfl (v := .pointer (some ⟨b, 0, none⟩)) (y_mv rfl) rfl ?_
  refine s_y rfl (v := .int .i64 x1) (y_mv rfl) rfl ?_
  refine st rfl (o_call [0] [2, 3, 4, 5, 6, 7, 8] (number_ b x1 r1 q1 ea em ef (by first | omega | (rw [ByteArray.size_append]; omega) | decide | assumption)) rfl rfl rfl rfl rfl rfl (fun v L' I' hq1 => ?_))
  obtain ⟨rfl, rfl, rfl⟩ := hq1
  refine st rfl (o_lit (cs := [.int .u64 ((numberF x1 r1 q1).1 : Int)]) (T := 22) (m := 1) rfl rfl rfl rfl (fun _ => by kernel_rfl) (fun b2 => ?_))
  refine st rfl (o_app (l := a) (us := [(numberF x1 r1 q1).1]) 2 rfl rfl rfl rfl rfl (src_pt 0 rfl) Tryz.underlying82 (elem_of (z := .int .u64 0) (sz := 1) (bytes := 8) (by kernel_rfl) rfl) rfl (by simp only [List.length_cons, List.length_nil]; omega) rfl rfl (fun A1 c1 => ?_))
  refine s_y rfl (v := .slice A1 (a ++ [(numberF x1 r1 q1).1]).length c1) (y_as rfl) rfl ?_
  refine s_nil (q_block (q_then (c_region ?_)))
  refine s_y rfl (v := .int .i64 ((k : Int) + 1)) (y_add (r := (k : Int) + 1) rfl rfl rfl (by omega)) rfl ?_
  refine s_y rfl (v := .int .i64 ((k : Int) + 1)) (y_mv rfl) rfl ?_
  refine s_nil (q_then ?_)
  refine c_next [1, 1] [1, 2, 3, 4, 5, 6, 7, 8] (k + 1, a ++ [(numberF x1 r1 q1).1], A1, c1, (numberF x1 r1 q1).2.1, ((numberF x1 r1 q1).2.2)) ?_ ?_ ?_ (by rfl) (by rfl)
  · exact (show ((k + 1) ≤ ws.length) ∧ (numsF (ws.take (k + 1)) r q = ((a ++ [(numberF x1 r1 q1).1]), ((numberF x1 r1 q1).2.1), ((numberF x1 r1 q1).2.2))) ∧ ((a ++ [(numberF x1 r1 q1).1]).length = (k + 1)) ∧ (((numberF x1 r1 q1).2.1).size ≤ 9223372036854775807) from ⟨by first | omega | simp_all | (simp; done), nums_step hx1 ha, by rw [List.length_append, List.length_singleton, hal], Nat.le_trans (number_rest _ _ _) hr1⟩)
  · show ws.length - (k + 1) < ws.length - k; omega
  · exact (.cons rfl rfl (.cons rfl rfl (.cons rfl rfl (.cons rfl rfl (.cons rfl rfl (.cons rfl (show (.int .i64 ((k : Int) + 1) : Value) = .int .i64 ((k + 1) : Int) from by first | rfl | (congr 1; omega) | (congr 1; simp; done) | (congr 1; simp; omega)) .nil))))))
 ·
  refine s_y rfl (v := .bool false) (y_f (y_k (v := .bool (decide ((k : Int) < (ws.length : Int)))) rfl rfl (fun _ => by kernel_rfl)) h1) rfl ?_
  refine s_nil (q_then (c_seq (c_false rfl ?_)))
  refine c_exit ?_
  refine q_then_exit ?_
  refine q_then_exit ?_
  refine q_block_here ?_
  refine q_then (c_seq (c_region ?_))
  refine s_y rfl (v := .slice A2 a.length c2) (y_mv rfl) rfl ?_
  refine s_y rfl (v := .slice A2 a.length c2) (y_as rfl) rfl ?_
  refine s_nil (q_then (c_ret ?_))
  have hp := nums_end (by assumption) (by assumption)
  refine c_fin (I' := []) [0, 0] [0, 1, 2, 3, 4, 5, 6, 7] rfl (.tmp rfl .nil) rfl rfl rfl ?_
  rw [hp]
  exact ⟨_, _, rfl, rfl, rfl⟩
theorem Clip_ (B : Option Addr) (d : Nat) (l : List Nat) : Con Tryz.prog 102 [.slice B l.length d] [ars u64Ty 22 B d l] [] (fun v L' I' => ∃ A1 : Option Addr, ∃ c1 : Nat, v = .slice A1 l.length c1 ∧ L' = [win u64Ty 22 A1 c1 l] ∧ I' = []) := by
 refine fn_of Tryz.func102 rfl Tryz.ntmps102 (by kernel_rfl) rfl (fun C => ?_)
 refine c_seq (c_region ?_)
 refine s_y rfl (v := .slice none 0 0) (y_as rfl) rfl ?_
 refine s_nil (q_then (c_seq (c_region ?_)))
 refine s_y rfl (v := .slice B l.length d) (y_mv rfl) rfl ?_
 refine s_y rfl (v := .slice B l.length d) (y_mv rfl) rfl ?_
 refine s_y rfl (v := .int .i64 (l.length : Int)) (y_k rfl rfl (fun _ => by kernel_rfl)) rfl ?_
 refine s_y rfl (v := .slice B l.length d) (y_mv rfl) rfl ?_
 refine s_y rfl (v := .int .i64 (l.length : Int)) (y_k rfl rfl (fun _ => by kernel_rfl)) rfl ?_
 refine e_weak 0 rfl (fun _ h => h.win) ?_
 refine e_know 0 rfl (fun _ h => win.lens _ h) (fun hl1 => ?_)
 refine e_weak 0 rfl (fun _ h => h.cut2 (lo := 0) (hi := l.length) (mx := l.length) (l2 := l) (by simp) (by first | omega | simp) (by first | omega | simp) (by first | omega | simp) (by first | omega | simp)) ?_
 refine s_y rfl (v := .slice (cutA u64Ty B 0 l.length) l.length (l.length - 0)) (y_cut (d := u64Ty) (l := l) (l2 := l) 0 l.length l.length (by simp) rfl rfl .no (.at l.length rfl (rfl)) (.at l.length rfl (rfl)) (by simp) Tryz.underlying82 (by kernel_rfl) (by kernel_rfl) (by first | omega | simp) (by first | omega | simp) (by first | omega | simp) (by first | omega | simp)) rfl ?_
 refine s_y rfl (v := .slice (cutA u64Ty B 0 l.length) l.length (l.length - 0)) (y_as rfl) rfl ?_
 refine s_nil (q_then (c_ret ?_))
 refine c_fin (I' := []) [0] [] rfl (.tmp rfl .nil) rfl rfl rfl ?_
 exact ⟨(cutA u64Ty B 0 l.length), (l.length - 0), rfl, rfl, rfl⟩
end Go.Proofs.YtcnncdniibkjkaaGreatDoor
