/- The laws of chapter 9 (file), walked over the given program; no condition but what stands in each theorem: part KWrites. -/
import Derived.Test.YthjcekfehicjhabDoorRJ
set_option linter.unusedVariables false
set_option linter.unusedSimpArgs false
set_option maxRecDepth 100000
set_option maxHeartbeats 8000000
namespace Go.Proofs.YthjcekfehicjhabDoor
open Go Go.Sl Go.RowKit Go.Extern.Stop Go.Stop Go.Extern
theorem FileWrites_ (s : ByteArray) (t : ByteArray) (at_ : Int) (n : Int) (zs : s.size ≤ 9223372036854775807) (zt : t.size ≤ 9223372036854775807) : Con Tryd.prog 3 [.string s, .string t, .int .i64 at_, .int .i64 n] [] [cellsAt 0 0 [.iface 70 (.agg #[.pointer (some ⟨1, 42, none⟩)])]] (fun v L' I' => v = .bool true ∧ L' = [] ∧ I' = []) := by
  have cs := cutS_size s
  have ct := cutS_size t
  refine fn_of Tryd.func3 rfl Tryd.ntmps3 (by kernel_rfl) rfl (fun C => ?_)
  refine c_seq ?_
  refine c_region ?_
  refine st rfl (o_y (v := .bool false) (y_as rfl) rfl rfl rfl ?_)
  refine s_nil ?_
  refine q_then ?_
  refine c_seq ?_
  refine c_region ?_
  refine st rfl (o_call [] [0] shown_ rfl rfl rfl rfl rfl rfl (fun v L' I' hq1 => ?_))
  obtain ⟨rfl, rfl, rfl⟩ := hq1
  refine st rfl (o_y (v := .bool true) (y_as rfl) rfl rfl rfl ?_)
  refine s_nil ?_
  refine q_then ?_
  refine c_seq ?_
  refine c_region ?_
  refine st rfl (o_y (v := .string s) (y_mv rfl) rfl rfl rfl ?_)
  refine st rfl (o_call [] [] (cut_ s (by assumption)) rfl rfl rfl rfl rfl rfl (fun v L' I' hq2 => ?_))
  obtain ⟨rfl, rfl, rfl⟩ := hq2
  refine st rfl (o_y (v := .string (cutS s)) (y_as rfl) rfl rfl rfl ?_)
  refine s_nil ?_
  refine q_then ?_
  refine c_seq ?_
  refine c_region ?_
  refine st rfl (o_y (v := .string t) (y_mv rfl) rfl rfl rfl ?_)
  refine st rfl (o_call [] [] (cut_ t (by assumption)) rfl rfl rfl rfl rfl rfl (fun v L' I' hq3 => ?_))
  obtain ⟨rfl, rfl, rfl⟩ := hq3
  refine st rfl (o_y (v := .string (cutS t)) (y_as rfl) rfl rfl rfl ?_)
  refine s_nil ?_
  refine q_then ?_
  refine c_seq ?_
  refine c_region ?_
  refine st rfl (o_y (v := .string (cutS s)) (y_mv rfl) rfl rfl rfl ?_)
  refine st rfl (o_y (v := .int .i64 at_) (y_mv rfl) rfl rfl rfl ?_)
  refine st rfl (o_y (v := .string (cutS t)) (y_mv rfl) rfl rfl rfl ?_)
  refine st rfl (o_call [] [0] (Write_ (cutS s) (by first | omega | decide | assumption) at_ (cutS t) (by first | omega | decide | assumption | (rw [ByteArray.size_append]; omega))) rfl rfl rfl rfl rfl rfl (fun v L' I' hq4 => ?_))
  obtain ⟨rfl, rfl, rfl⟩ := hq4
  refine st rfl (o_y (v := .tuple #[.string ((writeF (cutS s) at_ (cutS t)).1), .int .i64 ((writeF (cutS s) at_ (cutS t)).2)]) (y_mv rfl) rfl rfl rfl ?_)
  refine st rfl (o_y (v := .string ((writeF (cutS s) at_ (cutS t)).1)) (y_k rfl rfl (fun _ => by kernel_rfl)) rfl rfl rfl ?_)
  refine st rfl (o_y (v := .int .i64 ((writeF (cutS s) at_ (cutS t)).2)) (y_k rfl rfl (fun _ => by kernel_rfl)) rfl rfl rfl ?_)
  refine st rfl (o_y (v := .string ((writeF (cutS s) at_ (cutS t)).1)) (y_as rfl) rfl rfl rfl ?_)
  refine st rfl (o_y (v := .int .i64 ((writeF (cutS s) at_ (cutS t)).2)) (y_as rfl) rfl rfl rfl ?_)
  refine s_nil ?_
  refine q_then ?_
  refine c_seq ?_
  refine c_region ?_
  refine st rfl (o_y (v := .string (cutS s)) (y_mv rfl) rfl rfl rfl ?_)
  refine st rfl (o_y (v := .int .i64 at_) (y_mv rfl) rfl rfl rfl ?_)
  refine st rfl (o_y (v := .string (cutS t)) (y_mv rfl) rfl rfl rfl ?_)
  refine st rfl (o_call [] [] (rWrite_ (cutS s) (by first | omega | decide | assumption) at_ (cutS t) (by first | omega | decide | assumption | (rw [ByteArray.size_append]; omega))) rfl rfl rfl rfl rfl rfl (fun v L' I' hq5 => ?_))
  obtain ⟨rfl, rfl, rfl⟩ := hq5
  refine st rfl (o_y (v := .tuple #[.string ((writeF (cutS s) at_ (cutS t)).1), .int .i64 ((writeF (cutS s) at_ (cutS t)).2)]) (y_mv rfl) rfl rfl rfl ?_)
  refine st rfl (o_y (v := .string ((writeF (cutS s) at_ (cutS t)).1)) (y_k rfl rfl (fun _ => by kernel_rfl)) rfl rfl rfl ?_)
  refine st rfl (o_y (v := .int .i64 ((writeF (cutS s) at_ (cutS t)).2)) (y_k rfl rfl (fun _ => by kernel_rfl)) rfl rfl rfl ?_)
  refine st rfl (o_y (v := .string ((writeF (cutS s) at_ (cutS t)).1)) (y_as rfl) rfl rfl rfl ?_)
  refine st rfl (o_y (v := .int .i64 ((writeF (cutS s) at_ (cutS t)).2)) (y_as rfl) rfl rfl rfl ?_)
  refine s_nil ?_
  refine q_then ?_
  refine c_seq ?_
  refine c_region ?_
  refine st rfl (o_y (v := .string (cutS s)) (y_mv rfl) rfl rfl rfl ?_)
  refine st rfl (o_y (v := .int .i64 at_) (y_mv rfl) rfl rfl rfl ?_)
  refine st rfl (o_y (v := .int .i64 n) (y_mv rfl) rfl rfl rfl ?_)
  refine st rfl (o_call [] [0] (Read_ (cutS s) (by first | omega | decide | assumption) at_ n) rfl rfl rfl rfl rfl rfl (fun v L' I' hq6 => ?_))
  obtain ⟨rfl, rfl, rfl⟩ := hq6
  refine st rfl (o_y (v := .tuple #[.string ((readF (cutS s) at_ n).1), .int .i64 ((readF (cutS s) at_ n).2)]) (y_mv rfl) rfl rfl rfl ?_)
  refine st rfl (o_y (v := .string ((readF (cutS s) at_ n).1)) (y_k rfl rfl (fun _ => by kernel_rfl)) rfl rfl rfl ?_)
  refine st rfl (o_y (v := .int .i64 ((readF (cutS s) at_ n).2)) (y_k rfl rfl (fun _ => by kernel_rfl)) rfl rfl rfl ?_)
  refine st rfl (o_y (v := .string ((readF (cutS s) at_ n).1)) (y_as rfl) rfl rfl rfl ?_)
  refine st rfl (o_y (v := .int .i64 ((readF (cutS s) at_ n).2)) (y_as rfl) rfl rfl rfl ?_)
  refine s_nil ?_
  refine q_then ?_
  refine c_seq ?_
  refine c_region ?_
  refine st rfl (o_y (v := .string (cutS s)) (y_mv rfl) rfl rfl rfl ?_)
  refine st rfl (o_y (v := .int .i64 at_) (y_mv rfl) rfl rfl rfl ?_)
  refine st rfl (o_y (v := .int .i64 n) (y_mv rfl) rfl rfl rfl ?_)
  refine st rfl (o_call [] [] (rRead_ (cutS s) (by first | omega | decide | assumption) at_ n) rfl rfl rfl rfl rfl rfl (fun v L' I' hq7 => ?_))
  obtain ⟨rfl, rfl, rfl⟩ := hq7
  refine st rfl (o_y (v := .tuple #[.string ((readF (cutS s) at_ n).1), .int .i64 ((readF (cutS s) at_ n).2)]) (y_mv rfl) rfl rfl rfl ?_)
  refine st rfl (o_y (v := .string ((readF (cutS s) at_ n).1)) (y_k rfl rfl (fun _ => by kernel_rfl)) rfl rfl rfl ?_)
  refine st rfl (o_y (v := .int .i64 ((readF (cutS s) at_ n).2)) (y_k rfl rfl (fun _ => by kernel_rfl)) rfl rfl rfl ?_)
  refine st rfl (o_y (v := .string ((readF (cutS s) at_ n).1)) (y_as rfl) rfl rfl rfl ?_)
  refine st rfl (o_y (v := .int .i64 ((readF (cutS s) at_ n).2)) (y_as rfl) rfl rfl rfl ?_)
  refine s_nil ?_
  refine q_then ?_
  refine c_seq ?_
  refine c_region ?_
  refine st rfl (o_y (v := .string (cutS s)) (y_mv rfl) rfl rfl rfl ?_)
  refine st rfl (o_y (v := .string (cutS t)) (y_mv rfl) rfl rfl rfl ?_)
  refine st rfl (o_call [] [0] (Append_ (cutS s) (by first | omega | decide | assumption) (cutS t) (by first | omega | decide | assumption | (rw [ByteArray.size_append]; omega))) rfl rfl rfl rfl rfl rfl (fun v L' I' hq8 => ?_))
  obtain ⟨rfl, rfl, rfl⟩ := hq8
  refine st rfl (o_y (v := .tuple #[.string ((writeF (cutS s) ((cutS s).size : Int) (cutS t)).1), .int .i64 ((writeF (cutS s) ((cutS s).size : Int) (cutS t)).2)]) (y_mv rfl) rfl rfl rfl ?_)
  refine st rfl (o_y (v := .string ((writeF (cutS s) ((cutS s).size : Int) (cutS t)).1)) (y_k rfl rfl (fun _ => by kernel_rfl)) rfl rfl rfl ?_)
  refine st rfl (o_y (v := .int .i64 ((writeF (cutS s) ((cutS s).size : Int) (cutS t)).2)) (y_k rfl rfl (fun _ => by kernel_rfl)) rfl rfl rfl ?_)
  refine st rfl (o_y (v := .string ((writeF (cutS s) ((cutS s).size : Int) (cutS t)).1)) (y_as rfl) rfl rfl rfl ?_)
  refine st rfl (o_y (v := .int .i64 ((writeF (cutS s) ((cutS s).size : Int) (cutS t)).2)) (y_as rfl) rfl rfl rfl ?_)
  refine s_nil ?_
  refine q_then ?_
  refine c_seq ?_
  refine c_region ?_
  refine st rfl (o_y (v := .string (cutS s)) (y_mv rfl) rfl rfl rfl ?_)
  refine st rfl (o_y (v := .string (cutS t)) (y_mv rfl) rfl rfl rfl ?_)
  refine st rfl (o_call [] [] (rAppend_ (cutS s) (by first | omega | decide | assumption) (cutS t) (by first | omega | decide | assumption | (rw [ByteArray.size_append]; omega))) rfl rfl rfl rfl rfl rfl (fun v L' I' hq9 => ?_))
  obtain ⟨rfl, rfl, rfl⟩ := hq9
  refine st rfl (o_y (v := .tuple #[.string ((writeF (cutS s) ((cutS s).size : Int) (cutS t)).1), .int .i64 ((writeF (cutS s) ((cutS s).size : Int) (cutS t)).2)]) (y_mv rfl) rfl rfl rfl ?_)
  refine st rfl (o_y (v := .string ((writeF (cutS s) ((cutS s).size : Int) (cutS t)).1)) (y_k rfl rfl (fun _ => by kernel_rfl)) rfl rfl rfl ?_)
  refine st rfl (o_y (v := .int .i64 ((writeF (cutS s) ((cutS s).size : Int) (cutS t)).2)) (y_k rfl rfl (fun _ => by kernel_rfl)) rfl rfl rfl ?_)
  refine st rfl (o_y (v := .string ((writeF (cutS s) ((cutS s).size : Int) (cutS t)).1)) (y_as rfl) rfl rfl rfl ?_)
  refine st rfl (o_y (v := .int .i64 ((writeF (cutS s) ((cutS s).size : Int) (cutS t)).2)) (y_as rfl) rfl rfl rfl ?_)
  refine s_nil ?_
  refine q_then ?_
  refine c_seq ?_
  refine c_region ?_
  refine st rfl (o_y (v := .bool true) (y_mv rfl) rfl rfl rfl ?_)
  refine st rfl (o_y (v := .bool true) (y_mv rfl) rfl rfl rfl ?_)
  refine st_on 68 rfl rfl rfl (o_y (v := .string ((writeF (cutS s) at_ (cutS t)).1)) (y_mv rfl) rfl rfl rfl ?_)
  refine st_on 68 rfl rfl rfl (o_y (v := .string ((writeF (cutS s) at_ (cutS t)).1)) (y_mv rfl) rfl rfl rfl ?_)
  have h1 : (writeF (cutS s) at_ (cutS t)).1 = (writeF (cutS s) at_ (cutS t)).1 := rfl
  refine st_on 68 rfl rfl rfl (o_y (v := .bool true) (y_b (y_k (v := .bool (((writeF (cutS s) at_ (cutS t)).1).toList == ((writeF (cutS s) at_ (cutS t)).1).toList)) rfl rfl (fun _ => by kernel_rfl)) (str_t h1)) rfl rfl rfl ?_)
  refine st rfl (o_y (v := .bool true) (y_pick rfl rfl) rfl rfl rfl ?_)
  refine st rfl (o_y (v := .bool true) (y_mv rfl) rfl rfl rfl ?_)
  refine st_on 73 rfl rfl rfl (o_y (v := .int .i64 ((writeF (cutS s) at_ (cutS t)).2)) (y_mv rfl) rfl rfl rfl ?_)
  refine st_on 73 rfl rfl rfl (o_y (v := .int .i64 ((writeF (cutS s) at_ (cutS t)).2)) (y_mv rfl) rfl rfl rfl ?_)
  have h2 : (writeF (cutS s) at_ (cutS t)).2 = (writeF (cutS s) at_ (cutS t)).2 := rfl
  refine st_on 73 rfl rfl rfl (o_y (v := .bool true) (y_t (y_k (v := .bool (decide ((writeF (cutS s) at_ (cutS t)).2 = (writeF (cutS s) at_ (cutS t)).2))) rfl rfl (fun _ => by kernel_rfl)) h2) rfl rfl rfl ?_)
  refine st rfl (o_y (v := .bool true) (y_pick rfl rfl) rfl rfl rfl ?_)
  refine st rfl (o_y (v := .bool true) (y_mv rfl) rfl rfl rfl ?_)
  refine st_on 78 rfl rfl rfl (o_y (v := .string ((readF (cutS s) at_ n).1)) (y_mv rfl) rfl rfl rfl ?_)
  refine st_on 78 rfl rfl rfl (o_y (v := .string ((readF (cutS s) at_ n).1)) (y_mv rfl) rfl rfl rfl ?_)
  have h3 : (readF (cutS s) at_ n).1 = (readF (cutS s) at_ n).1 := rfl
  refine st_on 78 rfl rfl rfl (o_y (v := .bool true) (y_b (y_k (v := .bool (((readF (cutS s) at_ n).1).toList == ((readF (cutS s) at_ n).1).toList)) rfl rfl (fun _ => by kernel_rfl)) (str_t h3)) rfl rfl rfl ?_)
  refine st rfl (o_y (v := .bool true) (y_pick rfl rfl) rfl rfl rfl ?_)
  refine st rfl (o_y (v := .bool true) (y_mv rfl) rfl rfl rfl ?_)
  refine st_on 83 rfl rfl rfl (o_y (v := .int .i64 ((readF (cutS s) at_ n).2)) (y_mv rfl) rfl rfl rfl ?_)
  refine st_on 83 rfl rfl rfl (o_y (v := .int .i64 ((readF (cutS s) at_ n).2)) (y_mv rfl) rfl rfl rfl ?_)
  have h4 : (readF (cutS s) at_ n).2 = (readF (cutS s) at_ n).2 := rfl
  refine st_on 83 rfl rfl rfl (o_y (v := .bool true) (y_t (y_k (v := .bool (decide ((readF (cutS s) at_ n).2 = (readF (cutS s) at_ n).2))) rfl rfl (fun _ => by kernel_rfl)) h4) rfl rfl rfl ?_)
  refine st rfl (o_y (v := .bool true) (y_pick rfl rfl) rfl rfl rfl ?_)
  refine st rfl (o_y (v := .bool true) (y_mv rfl) rfl rfl rfl ?_)
  refine st_on 88 rfl rfl rfl (o_y (v := .string ((writeF (cutS s) ((cutS s).size : Int) (cutS t)).1)) (y_mv rfl) rfl rfl rfl ?_)
  refine st_on 88 rfl rfl rfl (o_y (v := .string ((writeF (cutS s) ((cutS s).size : Int) (cutS t)).1)) (y_mv rfl) rfl rfl rfl ?_)
  have h5 : (writeF (cutS s) ((cutS s).size : Int) (cutS t)).1 = (writeF (cutS s) ((cutS s).size : Int) (cutS t)).1 := rfl
  refine st_on 88 rfl rfl rfl (o_y (v := .bool true) (y_b (y_k (v := .bool (((writeF (cutS s) ((cutS s).size : Int) (cutS t)).1).toList == ((writeF (cutS s) ((cutS s).size : Int) (cutS t)).1).toList)) rfl rfl (fun _ => by kernel_rfl)) (str_t h5)) rfl rfl rfl ?_)
  refine st rfl (o_y (v := .bool true) (y_pick rfl rfl) rfl rfl rfl ?_)
  refine st rfl (o_y (v := .bool true) (y_mv rfl) rfl rfl rfl ?_)
  refine st_on 93 rfl rfl rfl (o_y (v := .int .i64 ((writeF (cutS s) ((cutS s).size : Int) (cutS t)).2)) (y_mv rfl) rfl rfl rfl ?_)
  refine st_on 93 rfl rfl rfl (o_y (v := .int .i64 ((writeF (cutS s) ((cutS s).size : Int) (cutS t)).2)) (y_mv rfl) rfl rfl rfl ?_)
  have h6 : (writeF (cutS s) ((cutS s).size : Int) (cutS t)).2 = (writeF (cutS s) ((cutS s).size : Int) (cutS t)).2 := rfl
  refine st_on 93 rfl rfl rfl (o_y (v := .bool true) (y_t (y_k (v := .bool (decide ((writeF (cutS s) ((cutS s).size : Int) (cutS t)).2 = (writeF (cutS s) ((cutS s).size : Int) (cutS t)).2))) rfl rfl (fun _ => by kernel_rfl)) h6) rfl rfl rfl ?_)
  refine st rfl (o_y (v := .bool true) (y_pick rfl rfl) rfl rfl rfl ?_)
  refine st rfl (o_y (v := .bool true) (y_as rfl) rfl rfl rfl ?_)
  refine s_nil ?_
  refine q_then ?_
  refine c_ret ?_
  refine c_fin (I' := []) [] [0] rfl (.tmp rfl .nil) rfl rfl rfl ?_
  exact ⟨rfl, rfl, rfl⟩
end Go.Proofs.YthjcekfehicjhabDoor
