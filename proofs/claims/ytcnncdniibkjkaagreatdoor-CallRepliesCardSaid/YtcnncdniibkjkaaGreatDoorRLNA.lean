/- The laws of chapter 17 (call), walked over the given program; no condition but what stands in each theorem: part LNA. -/
import Derived.WalkKit
import Derived.LaidEql
import Derived.Stop.Asserts
import Derived.RowKitTokens
import Derived.Test.YtcnncdniibkjkaaGreatDoorProg
import Derived.Test.YtcnncdniibkjkaaGreatDoorChecked
import Derived.Test.YtcnncdniibkjkaaGreatDoorSlO
set_option linter.unusedVariables false
set_option linter.unusedSimpArgs false
set_option maxRecDepth 100000
set_option maxHeartbeats 8000000
namespace Go.Proofs.YtcnncdniibkjkaaGreatDoor
open Go Go.Sl Go.RowKit Go.Extern.Stop Go.Stop Go.Extern
theorem nin_step {l : List Int} {k : Nat} {x v : Int} (h : ¬ v ∈ l.take k) (hx : l[k]? = some x) (hne : ¬ v = x) : ¬ v ∈ l.take (k + 1) := by
  rw [List.take_add_one, hx]
  intro q
  rcases List.mem_append.1 q with q | q
  · exact h q
  · exact hne (by simpa using q)
theorem index_ (A : Option Addr) (c : Nat) (l : List Int) (z : Int) (hn : l.length ≤ 1000000) : Con Tryz.prog 53 [.slice A l.length c, .int .i64 z] [] [rd intTy A c l] (fun v L' I' => (∃ i : Nat, (z ∈ l) ∧ v = .int .i64 (i : Int) ∧ L' = [] ∧ I' = []) ∨ ((¬ (z ∈ l)) ∧ v = .int .i64 (-1) ∧ L' = [] ∧ I' = [])) := by
 refine fn_of Tryz.func53 rfl Tryz.ntmps53 (by kernel_rfl) rfl (fun C => ?_)
 refine c_seq (c_region ?_)
 refine s_y rfl (v := .int .i64 0) (y_as rfl) rfl ?_
 refine s_nil (q_then (c_seq (c_seq (c_region ?_))))
 refine s_y rfl (v := .slice A l.length c) (y_mv rfl) rfl ?_
 refine s_y rfl (v := .int .i64 (l.length : Int)) (y_k rfl rfl (fun _ => by kernel_rfl)) rfl ?_
 refine s_y rfl (v := .int .i64 0) (y_mv rfl) rfl ?_
 refine s_nil (q_then (c_block ?_))
 refine c_loopn (ι := Nat) (fun k => (k ≤ l.length) ∧ (¬ (z ∈ l.take k))) (fun k => [(0, .slice A l.length c), (1, .int .i64 z), (7, .int .i64 (l.length : Int)), (8, .int .i64 (k : Int))]) (fun k => []) (fun k => [rd intTy A c l]) (fun k => l.length - k) (0) [] [0] (show (0 ≤ l.length) ∧ (¬ (z ∈ l.take 0)) from ⟨by first | omega | simp_all | (simp; done), by simp⟩) ((.cons rfl rfl (.cons rfl rfl (.cons rfl rfl (.cons rfl rfl .nil))))) rfl rfl ?_
 rintro k ⟨hk, hi⟩
 show Ent 19 C [(0, .slice A l.length c), (1, .int .i64 z), (7, .int .i64 (l.length : Int)), (8, .int .i64 (k : Int))] [] [] [rd intTy A c l] _
 refine c_seq (c_region ?_)
 refine e_by ((k : Int) < (l.length : Int)) (fun h1 => ?_) (fun h1 => ?_)
 ·
  refine s_y rfl (v := .bool true) (y_t (y_k (v := .bool (decide ((k : Int) < (l.length : Int)))) rfl rfl (fun _ => by kernel_rfl)) h1) rfl ?_
  refine s_nil (q_then (c_seq (c_true rfl (c_skip (q_then (c_seq (c_block (c_seq (c_region ?_)))))))))
  refine s_y rfl (v := .int .i64 (k : Int)) (y_mv rfl) rfl ?_
  refine s_y rfl (v := .int .i64 (k : Int)) (y_as rfl) rfl ?_
  refine s_nil (q_then (c_seq (c_region ?_)))
  refine s_y rfl (v := .int .i64 z) (y_mv rfl) rfl ?_
  refine s_y rfl (v := .slice A l.length c) (y_mv rfl) rfl ?_
  refine s_y rfl (v := .int .i64 (k : Int)) (y_mv rfl) rfl ?_
  refine e_at 0 k rfl (by first | omega | (simp only [List.length_append, List.length_map, List.length_take, List.length_drop]; omega)) (fun b1 o1 x1 hA1 hx1 => ?_)
  refine s_y rfl (v := .pointer (some ⟨b1, o1 + k * 1, none⟩)) (y_at (d := intTy) (l := l) k hA1 rfl rfl rfl (rfl) (List.getElem?_eq_some_iff.1 hx1).1 Tryz.underlying74 (by kernel_rfl) (by kernel_rfl)) rfl ?_
  refine st rfl (o_ldf 0 0 rfl rfl rfl Tryz.underlying3 rfl rfl ?_)
  refine e_by (z = x1) (fun h2 => ?_) (fun h2 => ?_)
  ·
   refine s_y rfl (v := .bool true) (y_t (y_k (v := .bool (decide (z = x1))) rfl rfl (fun _ => by kernel_rfl)) h2) rfl ?_
   refine s_nil (q_then (c_true rfl (c_seq (c_region ?_))))
   refine s_y rfl (v := .int .i64 (k : Int)) (y_mv rfl) rfl ?_
   refine s_y rfl (v := .int .i64 (k : Int)) (y_as rfl) rfl ?_
   refine s_nil (q_then (c_ret (q_block_ret (q_then_ret (q_then_ret (q_block_ret (q_then_ret ?_)))))))
   refine c_fin (I' := []) [] [1] rfl (.tmp rfl .nil) rfl rfl rfl ?_
   exact .inl ⟨k, by first | (have e : z = x1 := (by assumption); rw [e]; exact List.mem_of_getElem? hx1) | (rw [List.take_of_length_le (by omega)] at hi; exact hi), rfl, rfl, rfl⟩
  ·
   refine s_y rfl (v := .bool false) (y_f (y_k (v := .bool (decide (z = x1))) rfl rfl (fun _ => by kernel_rfl)) h2) rfl ?_
   refine s_nil (q_then (c_false rfl (c_skip (q_block (q_then (c_region ?_))))))
   refine s_y rfl (v := .int .i64 ((k : Int) + 1)) (y_add (r := (k : Int) + 1) rfl rfl rfl (by omega)) rfl ?_
   refine s_y rfl (v := .int .i64 ((k : Int) + 1)) (y_mv rfl) rfl ?_
   refine s_nil (q_then ?_)
   refine c_next [] [1] (k + 1) ?_ ?_ ?_ (by rfl) (by rfl)
   · exact (show ((k + 1) ≤ l.length) ∧ (¬ (z ∈ l.take (k + 1))) from ⟨by first | omega | simp_all | (simp; done), nin_step hi hx1 (by assumption)⟩)
   · show l.length - (k + 1) < l.length - k; omega
   · exact (.cons rfl rfl (.cons rfl rfl (.cons rfl rfl (.cons rfl (show (.int .i64 ((k : Int) + 1) : Value) = .int .i64 ((k + 1) : Int) from by first | rfl | (congr 1; omega) | (congr 1; simp; done) | (congr 1; simp; omega)) .nil))))
 ·
  refine s_y rfl (v := .bool false) (y_f (y_k (v := .bool (decide ((k : Int) < (l.length : Int)))) rfl rfl (fun _ => by kernel_rfl)) h1) rfl ?_
  refine s_nil (q_then (c_seq (c_false rfl ?_)))
  refine c_exit ?_
  refine q_then_exit ?_
  refine q_then_exit ?_
  refine q_block_here ?_
  refine q_then (c_seq (c_region ?_))
  refine s_y rfl (v := .int .i64 (-1)) (y_as rfl) rfl ?_
  refine s_nil (q_then (c_ret ?_))
  refine c_fin (I' := []) [] [0] rfl (.tmp rfl .nil) rfl rfl rfl ?_
  exact .inr ⟨by first | (have e : z = x1 := (by assumption); rw [e]; exact List.mem_of_getElem? hx1) | (rw [List.take_of_length_le (by omega)] at hi; exact hi), rfl, rfl, rfl⟩
theorem contains_ (A : Option Addr) (c : Nat) (l : List Int) (z : Int) (hn : l.length ≤ 1000000) : Con Tryz.prog 32 [.slice A l.length c, .int .i64 z] [] [rd intTy A c l] (fun v L' I' => v = .bool (decide (z ∈ l)) ∧ L' = [] ∧ I' = []) := by
 refine fn_of Tryz.func32 rfl Tryz.ntmps32 (by kernel_rfl) rfl (fun C => ?_)
 refine c_seq (c_region ?_)
 refine s_y rfl (v := .bool false) (y_as rfl) rfl ?_
 refine s_nil (q_then (c_seq (c_region ?_)))
 refine s_y rfl (v := .slice A l.length c) (y_mv rfl) rfl ?_
 refine s_y rfl (v := .int .i64 z) (y_mv rfl) rfl ?_
 refine st rfl (o_call [] [0] (index_ A c l z (by first | omega | (simp; done) | (simp; omega) | assumption)) rfl rfl rfl rfl rfl rfl (fun v L' I' hq1 => ?_))
 rcases hq1 with ⟨i1, h1, rfl, rfl, rfl⟩ | ⟨h2, rfl, rfl, rfl⟩
 ·
  have h3 : (i1 : Int) ≥ 0 := by omega
  refine s_y rfl (v := .bool true) (y_t (y_k (v := .bool (decide ((i1 : Int) ≥ 0))) rfl rfl (fun _ => by kernel_rfl)) h3) rfl ?_
  refine s_y rfl (v := .bool true) (y_as rfl) rfl ?_
  refine s_nil (q_then (c_ret ?_))
  refine c_fin (I' := []) [] [0] rfl (.tmp rfl .nil) rfl rfl rfl ?_
  exact ⟨dec_t (by assumption), rfl, rfl⟩
 ·
  refine s_y rfl (v := .bool false) (y_k rfl rfl (fun _ => by kernel_rfl)) rfl ?_
  refine s_y rfl (v := .bool false) (y_as rfl) rfl ?_
  refine s_nil (q_then (c_ret ?_))
  refine c_fin (I' := []) [] [0] rfl (.tmp rfl .nil) rfl rfl rfl ?_
  exact ⟨dec_f (by assumption), rfl, rfl⟩
theorem floats_ (op : Int) : Con Tryz.prog 12 [.int .i64 op] [] [] (fun v L' I' => v = .bool (decide (op = 5 ∨ op = 8 ∨ op = 15 ∨ op = 16)) ∧ L' = [] ∧ I' = []) := by
 refine fn_of Tryz.func12 rfl Tryz.ntmps12 (by kernel_rfl) rfl (fun C => ?_)
 refine c_seq (c_region ?_)
 refine s_y rfl (v := .bool false) (y_as rfl) rfl ?_
 refine s_nil (q_then (c_seq (c_region ?_)))
 refine st rfl (o_lit (cs := [.int .i64 5, .int .i64 8, .int .i64 15, .int .i64 16]) (T := 3) (m := 4) rfl rfl rfl rfl (fun _ => by kernel_rfl) (fun b1 => ?_))
 refine s_y rfl (v := .int .i64 op) (y_mv rfl) rfl ?_
 refine e_calm 0 rfl ?_
 refine e_lit intTy [5, 8, 15, 16] 0 rfl rfl (by simp) ?_
 refine st rfl (o_call [] [0] (contains_ (some ⟨b1, 0, none⟩) 4 [5, 8, 15, 16] op (by first | omega | (simp; done) | (simp; omega) | assumption)) rfl rfl rfl rfl rfl rfl (fun v L' I' hq1 => ?_))
 obtain ⟨hv1, rfl, rfl⟩ := hq1
 refine e_by (op ∈ [5, 8, 15, 16]) (fun h1 => ?_) (fun h1 => ?_)
 ·
  obtain rfl : v = .bool true := by rw [hv1, decide_eq_true h1]
  refine s_y rfl (v := .bool true) (y_as rfl) rfl ?_
  refine s_nil (q_then (c_ret ?_))
  refine c_fin (I' := []) [] [] rfl (.tmp rfl .nil) rfl rfl rfl ?_
  exact ⟨dec_t (by first | (have q := (by assumption : op ∈ ([5, 8, 15, 16] : List Int)); simpa using q) | (have q := (by assumption : ¬ op ∈ ([5, 8, 15, 16] : List Int)); simpa using q)), rfl, rfl⟩
 ·
  obtain rfl : v = .bool false := by rw [hv1, decide_eq_false h1]
  refine s_y rfl (v := .bool false) (y_as rfl) rfl ?_
  refine s_nil (q_then (c_ret ?_))
  refine c_fin (I' := []) [] [] rfl (.tmp rfl .nil) rfl rfl rfl ?_
  exact ⟨dec_f (by first | (have q := (by assumption : op ∈ ([5, 8, 15, 16] : List Int)); simpa using q) | (have q := (by assumption : ¬ op ∈ ([5, 8, 15, 16] : List Int)); simpa using q)), rfl, rfl⟩
end Go.Proofs.YtcnncdniibkjkaaGreatDoor
