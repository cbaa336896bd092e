/- The laws of chapter 9 (file), walked over the given program; no condition but what stands in each theorem: part J. -/
import Derived.Test.YthjcekfehicjhabDoorRH
set_option linter.unusedVariables false
set_option linter.unusedSimpArgs false
set_option maxRecDepth 100000
set_option maxHeartbeats 8000000
namespace Go.Proofs.YthjcekfehicjhabDoor
open Go Go.Sl Go.RowKit Go.Extern.Stop Go.Stop Go.Extern
theorem cut_ (s : ByteArray) (hz : s.size ≤ 9223372036854775807) : Con Tryd.prog 5 [.string s] [] [] (fun v L' I' => v = .string (cutS s) ∧ L' = [] ∧ I' = []) := by
  refine fn_of Tryd.func5 rfl Tryd.ntmps5 (by kernel_rfl) rfl (fun C => ?_)
  refine c_seq ?_
  refine c_region ?_
  refine st rfl (o_y (v := .string (⟨#[]⟩ : ByteArray)) (y_as rfl) rfl rfl rfl ?_)
  refine s_nil ?_
  refine q_then ?_
  refine c_seq ?_
  refine c_region ?_
  refine st rfl (o_y (v := .string s) (y_mv rfl) rfl rfl rfl ?_)
  refine st rfl (o_y (v := .string s) (y_mv rfl) rfl rfl rfl ?_)
  refine st rfl (o_y (v := .int .i64 (s.size : Int)) (y_k rfl rfl (fun _ => by kernel_rfl)) rfl rfl rfl ?_)
  refine st rfl (o_y (v := .int .i64 ((min s.size 1010 : Nat) : Int)) (y_min2 s.size 1010 rfl rfl) rfl rfl rfl ?_)
  refine st rfl (o_y (v := .string (s.extract 0 (min s.size 1010))) (y_cuts 0 (min s.size 1010) rfl .no (.at (min s.size 1010) rfl (rfl)) Tryd.underlying9 (by omega) (by omega)) rfl rfl rfl ?_)
  refine st rfl (o_y (v := .string (s.extract 0 (min s.size 1010))) (y_as rfl) rfl rfl rfl ?_)
  refine s_nil ?_
  refine q_then ?_
  refine c_ret ?_
  have hp : cutS s = s.extract 0 (min s.size 1010) := by rfl
  refine c_fin (I' := []) [] [] rfl (.tmp rfl .nil) rfl rfl rfl ?_
  rw [hp]
  exact ⟨rfl, rfl, rfl⟩
theorem shown_ : Con Tryd.prog 4 [] [] [cellsAt 0 0 [.iface 70 (.agg #[.pointer (some ⟨1, 42, none⟩)])]] (fun v L' I' => v = .bool true ∧ L' = [] ∧ I' = []) := by
  refine fn_of Tryd.func4 rfl Tryd.ntmps4 (by kernel_rfl) rfl (fun C => ?_)
  refine c_seq ?_
  refine c_region ?_
  refine st rfl (o_y (v := .bool false) (y_as rfl) rfl rfl rfl ?_)
  refine s_nil ?_
  refine q_then ?_
  refine c_seq ?_
  refine c_region ?_
  refine st rfl (o_call [] [0] (Write_ (⟨#[97, 98, 99, 100]⟩ : ByteArray) (by first | omega | decide | assumption) (3 : Int) (⟨#[120, 121]⟩ : ByteArray) (by first | omega | decide | assumption | (rw [ByteArray.size_append]; omega))) rfl rfl rfl rfl rfl rfl (fun v L' I' hq1 => ?_))
  obtain ⟨rfl, rfl, rfl⟩ := hq1
  refine st rfl (o_y (v := .tuple #[.string ((writeF (⟨#[97, 98, 99, 100]⟩ : ByteArray) (3 : Int) (⟨#[120, 121]⟩ : ByteArray)).1), .int .i64 ((writeF (⟨#[97, 98, 99, 100]⟩ : ByteArray) (3 : Int) (⟨#[120, 121]⟩ : ByteArray)).2)]) (y_mv rfl) rfl rfl rfl ?_)
  refine st rfl (o_y (v := .string ((writeF (⟨#[97, 98, 99, 100]⟩ : ByteArray) (3 : Int) (⟨#[120, 121]⟩ : ByteArray)).1)) (y_k rfl rfl (fun _ => by kernel_rfl)) rfl rfl rfl ?_)
  refine st rfl (o_y (v := .int .i64 ((writeF (⟨#[97, 98, 99, 100]⟩ : ByteArray) (3 : Int) (⟨#[120, 121]⟩ : ByteArray)).2)) (y_k rfl rfl (fun _ => by kernel_rfl)) rfl rfl rfl ?_)
  refine st rfl (o_y (v := .string ((writeF (⟨#[97, 98, 99, 100]⟩ : ByteArray) (3 : Int) (⟨#[120, 121]⟩ : ByteArray)).1)) (y_as rfl) rfl rfl rfl ?_)
  refine st rfl (o_y (v := .int .i64 ((writeF (⟨#[97, 98, 99, 100]⟩ : ByteArray) (3 : Int) (⟨#[120, 121]⟩ : ByteArray)).2)) (y_as rfl) rfl rfl rfl ?_)
  refine s_nil ?_
  refine q_then ?_
  refine c_seq ?_
  refine c_region ?_
  refine st rfl (o_call [] [0] (Read_ (⟨#[97, 98, 99, 100]⟩ : ByteArray) (by first | omega | decide | assumption) (1 : Int) (9 : Int)) rfl rfl rfl rfl rfl rfl (fun v L' I' hq2 => ?_))
  obtain ⟨rfl, rfl, rfl⟩ := hq2
  refine st rfl (o_y (v := .tuple #[.string ((readF (⟨#[97, 98, 99, 100]⟩ : ByteArray) (1 : Int) (9 : Int)).1), .int .i64 ((readF (⟨#[97, 98, 99, 100]⟩ : ByteArray) (1 : Int) (9 : Int)).2)]) (y_mv rfl) rfl rfl rfl ?_)
  refine st rfl (o_y (v := .string ((readF (⟨#[97, 98, 99, 100]⟩ : ByteArray) (1 : Int) (9 : Int)).1)) (y_k rfl rfl (fun _ => by kernel_rfl)) rfl rfl rfl ?_)
  refine st rfl (o_y (v := .int .i64 ((readF (⟨#[97, 98, 99, 100]⟩ : ByteArray) (1 : Int) (9 : Int)).2)) (y_k rfl rfl (fun _ => by kernel_rfl)) rfl rfl rfl ?_)
  refine st rfl (o_y (v := .string ((readF (⟨#[97, 98, 99, 100]⟩ : ByteArray) (1 : Int) (9 : Int)).1)) (y_as rfl) rfl rfl rfl ?_)
  refine st rfl (o_y (v := .int .i64 ((readF (⟨#[97, 98, 99, 100]⟩ : ByteArray) (1 : Int) (9 : Int)).2)) (y_as rfl) rfl rfl rfl ?_)
  refine s_nil ?_
  refine q_then ?_
  refine c_seq ?_
  refine c_region ?_
  refine st rfl (o_call [] [0] (Cut_ (⟨#[97, 98, 99, 100]⟩ : ByteArray) (by first | omega | decide | assumption) (2 : Int)) rfl rfl rfl rfl rfl rfl (fun v L' I' hq3 => ?_))
  obtain ⟨rfl, rfl, rfl⟩ := hq3
  refine st rfl (o_y (v := .tuple #[.string ((cutF (⟨#[97, 98, 99, 100]⟩ : ByteArray) (2 : Int)).1), .int .i64 ((cutF (⟨#[97, 98, 99, 100]⟩ : ByteArray) (2 : Int)).2)]) (y_mv rfl) rfl rfl rfl ?_)
  refine st rfl (o_y (v := .string ((cutF (⟨#[97, 98, 99, 100]⟩ : ByteArray) (2 : Int)).1)) (y_k rfl rfl (fun _ => by kernel_rfl)) rfl rfl rfl ?_)
  refine st rfl (o_y (v := .int .i64 ((cutF (⟨#[97, 98, 99, 100]⟩ : ByteArray) (2 : Int)).2)) (y_k rfl rfl (fun _ => by kernel_rfl)) rfl rfl rfl ?_)
  refine st rfl (o_y (v := .string ((cutF (⟨#[97, 98, 99, 100]⟩ : ByteArray) (2 : Int)).1)) (y_as rfl) rfl rfl rfl ?_)
  refine st rfl (o_y (v := .int .i64 ((cutF (⟨#[97, 98, 99, 100]⟩ : ByteArray) (2 : Int)).2)) (y_as rfl) rfl rfl rfl ?_)
  refine s_nil ?_
  refine q_then ?_
  refine c_seq ?_
  refine c_region ?_
  refine st rfl (o_call [] [0] (Splice_ (⟨#[97, 98, 99, 100]⟩ : ByteArray) (by first | omega | decide | assumption) (1 : Int) (2 : Int) (⟨#[120]⟩ : ByteArray) (by first | omega | decide | assumption | (rw [ByteArray.size_append]; omega))) rfl rfl rfl rfl rfl rfl (fun v L' I' hq4 => ?_))
  obtain ⟨rfl, rfl, rfl⟩ := hq4
  refine st rfl (o_y (v := .tuple #[.string ((spliceF (⟨#[97, 98, 99, 100]⟩ : ByteArray) (1 : Int) (2 : Int) (⟨#[120]⟩ : ByteArray)).1), .int .i64 ((spliceF (⟨#[97, 98, 99, 100]⟩ : ByteArray) (1 : Int) (2 : Int) (⟨#[120]⟩ : ByteArray)).2)]) (y_mv rfl) rfl rfl rfl ?_)
  refine st rfl (o_y (v := .string ((spliceF (⟨#[97, 98, 99, 100]⟩ : ByteArray) (1 : Int) (2 : Int) (⟨#[120]⟩ : ByteArray)).1)) (y_k rfl rfl (fun _ => by kernel_rfl)) rfl rfl rfl ?_)
  refine st rfl (o_y (v := .int .i64 ((spliceF (⟨#[97, 98, 99, 100]⟩ : ByteArray) (1 : Int) (2 : Int) (⟨#[120]⟩ : ByteArray)).2)) (y_k rfl rfl (fun _ => by kernel_rfl)) rfl rfl rfl ?_)
  refine st rfl (o_y (v := .string ((spliceF (⟨#[97, 98, 99, 100]⟩ : ByteArray) (1 : Int) (2 : Int) (⟨#[120]⟩ : ByteArray)).1)) (y_as rfl) rfl rfl rfl ?_)
  refine st rfl (o_y (v := .int .i64 ((spliceF (⟨#[97, 98, 99, 100]⟩ : ByteArray) (1 : Int) (2 : Int) (⟨#[120]⟩ : ByteArray)).2)) (y_as rfl) rfl rfl rfl ?_)
  refine s_nil ?_
  refine q_then ?_
  refine c_seq ?_
  refine c_region ?_
  refine st rfl (o_call [] [0] (Write_ (⟨#[97, 98, 99, 100]⟩ : ByteArray) (by first | omega | decide | assumption) (5 : Int) (⟨#[120]⟩ : ByteArray) (by first | omega | decide | assumption | (rw [ByteArray.size_append]; omega))) rfl rfl rfl rfl rfl rfl (fun v L' I' hq5 => ?_))
  obtain ⟨rfl, rfl, rfl⟩ := hq5
  refine st rfl (o_y (v := .tuple #[.string ((writeF (⟨#[97, 98, 99, 100]⟩ : ByteArray) (5 : Int) (⟨#[120]⟩ : ByteArray)).1), .int .i64 ((writeF (⟨#[97, 98, 99, 100]⟩ : ByteArray) (5 : Int) (⟨#[120]⟩ : ByteArray)).2)]) (y_mv rfl) rfl rfl rfl ?_)
  refine st rfl (o_y (v := .string ((writeF (⟨#[97, 98, 99, 100]⟩ : ByteArray) (5 : Int) (⟨#[120]⟩ : ByteArray)).1)) (y_k rfl rfl (fun _ => by kernel_rfl)) rfl rfl rfl ?_)
  refine st rfl (o_y (v := .int .i64 ((writeF (⟨#[97, 98, 99, 100]⟩ : ByteArray) (5 : Int) (⟨#[120]⟩ : ByteArray)).2)) (y_k rfl rfl (fun _ => by kernel_rfl)) rfl rfl rfl ?_)
  refine st rfl (o_y (v := .string ((writeF (⟨#[97, 98, 99, 100]⟩ : ByteArray) (5 : Int) (⟨#[120]⟩ : ByteArray)).1)) (y_as rfl) rfl rfl rfl ?_)
  refine st rfl (o_y (v := .int .i64 ((writeF (⟨#[97, 98, 99, 100]⟩ : ByteArray) (5 : Int) (⟨#[120]⟩ : ByteArray)).2)) (y_as rfl) rfl rfl rfl ?_)
  refine s_nil ?_
  refine q_then ?_
  refine c_seq ?_
  refine c_region ?_
  refine st rfl (o_y (v := .string ((writeF (⟨#[97, 98, 99, 100]⟩ : ByteArray) (3 : Int) (⟨#[120, 121]⟩ : ByteArray)).1)) (y_mv rfl) rfl rfl rfl ?_)
  have h1 : (writeF (⟨#[97, 98, 99, 100]⟩ : ByteArray) (3 : Int) (⟨#[120, 121]⟩ : ByteArray)).1 = (⟨#[97, 98, 99, 120, 121]⟩ : ByteArray) := by decide +kernel
  refine st rfl (o_y (v := .bool true) (y_b (y_k (v := .bool (((writeF (⟨#[97, 98, 99, 100]⟩ : ByteArray) (3 : Int) (⟨#[120, 121]⟩ : ByteArray)).1).toList == (⟨#[97, 98, 99, 120, 121]⟩ : ByteArray).toList)) rfl rfl (fun _ => by kernel_rfl)) (str_t h1)) rfl rfl rfl ?_)
  refine st rfl (o_y (v := .bool true) (y_mv rfl) rfl rfl rfl ?_)
  refine st_on 33 rfl rfl rfl (o_y (v := .int .i64 ((writeF (⟨#[97, 98, 99, 100]⟩ : ByteArray) (3 : Int) (⟨#[120, 121]⟩ : ByteArray)).2)) (y_mv rfl) rfl rfl rfl ?_)
  have h2 : (writeF (⟨#[97, 98, 99, 100]⟩ : ByteArray) (3 : Int) (⟨#[120, 121]⟩ : ByteArray)).2 = 0 := by decide +kernel
  refine st_on 33 rfl rfl rfl (o_y (v := .bool true) (y_t (y_k (v := .bool (decide ((writeF (⟨#[97, 98, 99, 100]⟩ : ByteArray) (3 : Int) (⟨#[120, 121]⟩ : ByteArray)).2 = 0))) rfl rfl (fun _ => by kernel_rfl)) h2) rfl rfl rfl ?_)
  refine st rfl (o_y (v := .bool true) (y_pick rfl rfl) rfl rfl rfl ?_)
  refine st rfl (o_y (v := .bool true) (y_mv rfl) rfl rfl rfl ?_)
  refine st_on 37 rfl rfl rfl (o_y (v := .string ((readF (⟨#[97, 98, 99, 100]⟩ : ByteArray) (1 : Int) (9 : Int)).1)) (y_mv rfl) rfl rfl rfl ?_)
  have h3 : (readF (⟨#[97, 98, 99, 100]⟩ : ByteArray) (1 : Int) (9 : Int)).1 = (⟨#[98, 99, 100]⟩ : ByteArray) := by decide +kernel
  refine st_on 37 rfl rfl rfl (o_y (v := .bool true) (y_b (y_k (v := .bool (((readF (⟨#[97, 98, 99, 100]⟩ : ByteArray) (1 : Int) (9 : Int)).1).toList == (⟨#[98, 99, 100]⟩ : ByteArray).toList)) rfl rfl (fun _ => by kernel_rfl)) (str_t h3)) rfl rfl rfl ?_)
  refine st rfl (o_y (v := .bool true) (y_pick rfl rfl) rfl rfl rfl ?_)
  refine st rfl (o_y (v := .bool true) (y_mv rfl) rfl rfl rfl ?_)
  refine st_on 41 rfl rfl rfl (o_y (v := .int .i64 ((readF (⟨#[97, 98, 99, 100]⟩ : ByteArray) (1 : Int) (9 : Int)).2)) (y_mv rfl) rfl rfl rfl ?_)
  have h4 : (readF (⟨#[97, 98, 99, 100]⟩ : ByteArray) (1 : Int) (9 : Int)).2 = 0 := by decide +kernel
  refine st_on 41 rfl rfl rfl (o_y (v := .bool true) (y_t (y_k (v := .bool (decide ((readF (⟨#[97, 98, 99, 100]⟩ : ByteArray) (1 : Int) (9 : Int)).2 = 0))) rfl rfl (fun _ => by kernel_rfl)) h4) rfl rfl rfl ?_)
  refine st rfl (o_y (v := .bool true) (y_pick rfl rfl) rfl rfl rfl ?_)
  refine st rfl (o_y (v := .bool true) (y_mv rfl) rfl rfl rfl ?_)
  refine st_on 45 rfl rfl rfl (o_y (v := .string ((cutF (⟨#[97, 98, 99, 100]⟩ : ByteArray) (2 : Int)).1)) (y_mv rfl) rfl rfl rfl ?_)
  have h5 : (cutF (⟨#[97, 98, 99, 100]⟩ : ByteArray) (2 : Int)).1 = (⟨#[97, 98]⟩ : ByteArray) := by decide +kernel
  refine st_on 45 rfl rfl rfl (o_y (v := .bool true) (y_b (y_k (v := .bool (((cutF (⟨#[97, 98, 99, 100]⟩ : ByteArray) (2 : Int)).1).toList == (⟨#[97, 98]⟩ : ByteArray).toList)) rfl rfl (fun _ => by kernel_rfl)) (str_t h5)) rfl rfl rfl ?_)
  refine st rfl (o_y (v := .bool true) (y_pick rfl rfl) rfl rfl rfl ?_)
  refine st rfl (o_y (v := .bool true) (y_mv rfl) rfl rfl rfl ?_)
  refine st_on 49 rfl rfl rfl (o_y (v := .int .i64 ((cutF (⟨#[97, 98, 99, 100]⟩ : ByteArray) (2 : Int)).2)) (y_mv rfl) rfl rfl rfl ?_)
  have h6 : (cutF (⟨#[97, 98, 99, 100]⟩ : ByteArray) (2 : Int)).2 = 0 := by decide +kernel
  refine st_on 49 rfl rfl rfl (o_y (v := .bool true) (y_t (y_k (v := .bool (decide ((cutF (⟨#[97, 98, 99, 100]⟩ : ByteArray) (2 : Int)).2 = 0))) rfl rfl (fun _ => by kernel_rfl)) h6) rfl rfl rfl ?_)
  refine st rfl (o_y (v := .bool true) (y_pick rfl rfl) rfl rfl rfl ?_)
  refine st rfl (o_y (v := .bool true) (y_mv rfl) rfl rfl rfl ?_)
  refine st_on 53 rfl rfl rfl (o_y (v := .string ((spliceF (⟨#[97, 98, 99, 100]⟩ : ByteArray) (1 : Int) (2 : Int) (⟨#[120]⟩ : ByteArray)).1)) (y_mv rfl) rfl rfl rfl ?_)
  have h7 : (spliceF (⟨#[97, 98, 99, 100]⟩ : ByteArray) (1 : Int) (2 : Int) (⟨#[120]⟩ : ByteArray)).1 = (⟨#[97, 120, 100]⟩ : ByteArray) := by decide +kernel
  refine st_on 53 rfl rfl rfl (o_y (v := .bool true) (y_b (y_k (v := .bool (((spliceF (⟨#[97, 98, 99, 100]⟩ : ByteArray) (1 : Int) (2 : Int) (⟨#[120]⟩ : ByteArray)).1).toList == (⟨#[97, 120, 100]⟩ : ByteArray).toList)) rfl rfl (fun _ => by kernel_rfl)) (str_t h7)) rfl rfl rfl ?_)
  refine st rfl (o_y (v := .bool true) (y_pick rfl rfl) rfl rfl rfl ?_)
  refine st rfl (o_y (v := .bool true) (y_mv rfl) rfl rfl rfl ?_)
  refine st_on 57 rfl rfl rfl (o_y (v := .int .i64 ((spliceF (⟨#[97, 98, 99, 100]⟩ : ByteArray) (1 : Int) (2 : Int) (⟨#[120]⟩ : ByteArray)).2)) (y_mv rfl) rfl rfl rfl ?_)
  have h8 : (spliceF (⟨#[97, 98, 99, 100]⟩ : ByteArray) (1 : Int) (2 : Int) (⟨#[120]⟩ : ByteArray)).2 = 0 := by decide +kernel
  refine st_on 57 rfl rfl rfl (o_y (v := .bool true) (y_t (y_k (v := .bool (decide ((spliceF (⟨#[97, 98, 99, 100]⟩ : ByteArray) (1 : Int) (2 : Int) (⟨#[120]⟩ : ByteArray)).2 = 0))) rfl rfl (fun _ => by kernel_rfl)) h8) rfl rfl rfl ?_)
  refine st rfl (o_y (v := .bool true) (y_pick rfl rfl) rfl rfl rfl ?_)
  refine st rfl (o_y (v := .bool true) (y_mv rfl) rfl rfl rfl ?_)
  refine st_on 61 rfl rfl rfl (o_y (v := .int .i64 ((writeF (⟨#[97, 98, 99, 100]⟩ : ByteArray) (5 : Int) (⟨#[120]⟩ : ByteArray)).2)) (y_mv rfl) rfl rfl rfl ?_)
  have h9 : (writeF (⟨#[97, 98, 99, 100]⟩ : ByteArray) (5 : Int) (⟨#[120]⟩ : ByteArray)).2 = 90 := by decide +kernel
  refine st_on 61 rfl rfl rfl (o_y (v := .bool true) (y_t (y_k (v := .bool (decide ((writeF (⟨#[97, 98, 99, 100]⟩ : ByteArray) (5 : Int) (⟨#[120]⟩ : ByteArray)).2 = 90))) rfl rfl (fun _ => by kernel_rfl)) h9) rfl rfl rfl ?_)
  refine st rfl (o_y (v := .bool true) (y_pick rfl rfl) rfl rfl rfl ?_)
  refine st rfl (o_y (v := .bool true) (y_as rfl) rfl rfl rfl ?_)
  refine s_nil ?_
  refine q_then ?_
  refine c_ret ?_
  refine c_fin (I' := []) [] [0] rfl (.tmp rfl .nil) rfl rfl rfl ?_
  exact ⟨rfl, rfl, rfl⟩
end Go.Proofs.YthjcekfehicjhabDoor
