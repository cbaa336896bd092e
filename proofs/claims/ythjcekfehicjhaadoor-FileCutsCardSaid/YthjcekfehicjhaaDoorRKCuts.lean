/- The laws of chapter 9 (file), walked over the given program; no condition but what stands in each theorem: part KCuts. -/
import Derived.Test.YthjcekfehicjhaaDoorRJ
set_option linter.unusedVariables false
set_option linter.unusedSimpArgs false
set_option maxRecDepth 100000
set_option maxHeartbeats 8000000
namespace Go.Proofs.YthjcekfehicjhaaDoor
open Go Go.Sl Go.RowKit Go.Extern.Stop Go.Stop Go.Extern
theorem FileCuts_ (s : ByteArray) (t : ByteArray) (at_ : Int) (n : Int) (zs : s.size ≤ 9223372036854775807) (zt : t.size ≤ 9223372036854775807) : Con Tryd.prog 3 [.string s, .string t, .int .i64 at_, .int .i64 n] [] [cellsAt 0 0 [.iface 73 (.agg #[.pointer (some ⟨1, 42, none⟩)])]] (fun v L' I' => v = .bool true ∧ L' = [] ∧ I' = []) := by
  have cs := cutS_size s
  have ct := cutS_size t
  refine fn_of Tryd.func3 rfl Tryd.ntmps3 (by kernel_rfl) rfl (fun C => ?_)
  refine c_seq ?_
  refine c_region ?_
  refine st rfl (o_y (v := .bool false) (y_as rfl) rfl rfl rfl ?_)
  refine s_nil ?_
  refine q_then ?_
  refine c_seq ?_
  refine c_region ?_
  refine st rfl (o_call [] [0] shown_ rfl rfl rfl rfl rfl rfl (fun v L' I' hq1 => ?_))
  obtain ⟨rfl, rfl, rfl⟩ := hq1
  refine st rfl (o_y (v := .bool true) (y_as rfl) rfl rfl rfl ?_)
  refine s_nil ?_
  refine q_then ?_
  refine c_seq ?_
  refine c_region ?_
  refine st rfl (o_y (v := .string s) (y_mv rfl) rfl rfl rfl ?_)
  refine st rfl (o_call [] [] (cut_ s (by assumption)) rfl rfl rfl rfl rfl rfl (fun v L' I' hq2 => ?_))
  obtain ⟨rfl, rfl, rfl⟩ := hq2
  refine st rfl (o_y (v := .string (cutS s)) (y_as rfl) rfl rfl rfl ?_)
  refine s_nil ?_
  refine q_then ?_
  refine c_seq ?_
  refine c_region ?_
  refine st rfl (o_y (v := .string t) (y_mv rfl) rfl rfl rfl ?_)
  refine st rfl (o_call [] [] (cut_ t (by assumption)) rfl rfl rfl rfl rfl rfl (fun v L' I' hq3 => ?_))
  obtain ⟨rfl, rfl, rfl⟩ := hq3
  refine st rfl (o_y (v := .string (cutS t)) (y_as rfl) rfl rfl rfl ?_)
  refine s_nil ?_
  refine q_then ?_
  refine c_seq ?_
  refine c_region ?_
  refine st rfl (o_y (v := .string (cutS s)) (y_mv rfl) rfl rfl rfl ?_)
  refine st rfl (o_y (v := .int .i64 n) (y_mv rfl) rfl rfl rfl ?_)
  refine st rfl (o_call [] [0] (Cut_ (cutS s) (by first | omega | decide | assumption) n) rfl rfl rfl rfl rfl rfl (fun v L' I' hq4 => ?_))
  obtain ⟨rfl, rfl, rfl⟩ := hq4
  refine st rfl (o_y (v := .tuple #[.string ((cutF (cutS s) n).1), .int .i64 ((cutF (cutS s) n).2)]) (y_mv rfl) rfl rfl rfl ?_)
  refine st rfl (o_y (v := .string ((cutF (cutS s) n).1)) (y_k rfl rfl (fun _ => by kernel_rfl)) rfl rfl rfl ?_)
  refine st rfl (o_y (v := .int .i64 ((cutF (cutS s) n).2)) (y_k rfl rfl (fun _ => by kernel_rfl)) rfl rfl rfl ?_)
  refine st rfl (o_y (v := .string ((cutF (cutS s) n).1)) (y_as rfl) rfl rfl rfl ?_)
  refine st rfl (o_y (v := .int .i64 ((cutF (cutS s) n).2)) (y_as rfl) rfl rfl rfl ?_)
  refine s_nil ?_
  refine q_then ?_
  refine c_seq ?_
  refine c_region ?_
  refine st rfl (o_y (v := .string (cutS s)) (y_mv rfl) rfl rfl rfl ?_)
  refine st rfl (o_y (v := .int .i64 n) (y_mv rfl) rfl rfl rfl ?_)
  refine st rfl (o_call [] [] (rCut_ (cutS s) (by first | omega | decide | assumption) n) rfl rfl rfl rfl rfl rfl (fun v L' I' hq5 => ?_))
  obtain ⟨rfl, rfl, rfl⟩ := hq5
  refine st rfl (o_y (v := .tuple #[.string ((cutF (cutS s) n).1), .int .i64 ((cutF (cutS s) n).2)]) (y_mv rfl) rfl rfl rfl ?_)
  refine st rfl (o_y (v := .string ((cutF (cutS s) n).1)) (y_k rfl rfl (fun _ => by kernel_rfl)) rfl rfl rfl ?_)
  refine st rfl (o_y (v := .int .i64 ((cutF (cutS s) n).2)) (y_k rfl rfl (fun _ => by kernel_rfl)) rfl rfl rfl ?_)
  refine st rfl (o_y (v := .string ((cutF (cutS s) n).1)) (y_as rfl) rfl rfl rfl ?_)
  refine st rfl (o_y (v := .int .i64 ((cutF (cutS s) n).2)) (y_as rfl) rfl rfl rfl ?_)
  refine s_nil ?_
  refine q_then ?_
  refine c_seq ?_
  refine c_region ?_
  refine st rfl (o_y (v := .string (cutS s)) (y_mv rfl) rfl rfl rfl ?_)
  refine st rfl (o_y (v := .int .i64 at_) (y_mv rfl) rfl rfl rfl ?_)
  refine st rfl (o_y (v := .int .i64 n) (y_mv rfl) rfl rfl rfl ?_)
  refine st rfl (o_y (v := .string (cutS t)) (y_mv rfl) rfl rfl rfl ?_)
  refine st rfl (o_call [] [0] (Splice_ (cutS s) (by first | omega | decide | assumption) at_ n (cutS t) (by first | omega | decide | assumption | (rw [ByteArray.size_append]; omega))) rfl rfl rfl rfl rfl rfl (fun v L' I' hq6 => ?_))
  obtain ⟨rfl, rfl, rfl⟩ := hq6
  refine st rfl (o_y (v := .tuple #[.string ((spliceF (cutS s) at_ n (cutS t)).1), .int .i64 ((spliceF (cutS s) at_ n (cutS t)).2)]) (y_mv rfl) rfl rfl rfl ?_)
  refine st rfl (o_y (v := .string ((spliceF (cutS s) at_ n (cutS t)).1)) (y_k rfl rfl (fun _ => by kernel_rfl)) rfl rfl rfl ?_)
  refine st rfl (o_y (v := .int .i64 ((spliceF (cutS s) at_ n (cutS t)).2)) (y_k rfl rfl (fun _ => by kernel_rfl)) rfl rfl rfl ?_)
  refine st rfl (o_y (v := .string ((spliceF (cutS s) at_ n (cutS t)).1)) (y_as rfl) rfl rfl rfl ?_)
  refine st rfl (o_y (v := .int .i64 ((spliceF (cutS s) at_ n (cutS t)).2)) (y_as rfl) rfl rfl rfl ?_)
  refine s_nil ?_
  refine q_then ?_
  refine c_seq ?_
  refine c_region ?_
  refine st rfl (o_y (v := .string (cutS s)) (y_mv rfl) rfl rfl rfl ?_)
  refine st rfl (o_y (v := .int .i64 at_) (y_mv rfl) rfl rfl rfl ?_)
  refine st rfl (o_y (v := .int .i64 n) (y_mv rfl) rfl rfl rfl ?_)
  refine st rfl (o_y (v := .string (cutS t)) (y_mv rfl) rfl rfl rfl ?_)
  refine st rfl (o_call [] [] (rSplice_ (cutS s) (by first | omega | decide | assumption) at_ n (cutS t) (by first | omega | decide | assumption | (rw [ByteArray.size_append]; omega))) rfl rfl rfl rfl rfl rfl (fun v L' I' hq7 => ?_))
  obtain ⟨rfl, rfl, rfl⟩ := hq7
  refine st rfl (o_y (v := .tuple #[.string ((spliceF (cutS s) at_ n (cutS t)).1), .int .i64 ((spliceF (cutS s) at_ n (cutS t)).2)]) (y_mv rfl) rfl rfl rfl ?_)
  refine st rfl (o_y (v := .string ((spliceF (cutS s) at_ n (cutS t)).1)) (y_k rfl rfl (fun _ => by kernel_rfl)) rfl rfl rfl ?_)
  refine st rfl (o_y (v := .int .i64 ((spliceF (cutS s) at_ n (cutS t)).2)) (y_k rfl rfl (fun _ => by kernel_rfl)) rfl rfl rfl ?_)
  refine st rfl (o_y (v := .string ((spliceF (cutS s) at_ n (cutS t)).1)) (y_as rfl) rfl rfl rfl ?_)
  refine st rfl (o_y (v := .int .i64 ((spliceF (cutS s) at_ n (cutS t)).2)) (y_as rfl) rfl rfl rfl ?_)
  refine s_nil ?_
  refine q_then ?_
  refine c_seq ?_
  refine c_region ?_
  refine st rfl (o_y (v := .bool true) (y_mv rfl) rfl rfl rfl ?_)
  refine st rfl (o_y (v := .bool true) (y_mv rfl) rfl rfl rfl ?_)
  refine st_on 52 rfl rfl rfl (o_y (v := .string ((cutF (cutS s) n).1)) (y_mv rfl) rfl rfl rfl ?_)
  refine st_on 52 rfl rfl rfl (o_y (v := .string ((cutF (cutS s) n).1)) (y_mv rfl) rfl rfl rfl ?_)
  have h1 : (cutF (cutS s) n).1 = (cutF (cutS s) n).1 := rfl
  refine st_on 52 rfl rfl rfl (o_y (v := .bool true) (y_b (y_k (v := .bool (((cutF (cutS s) n).1).toList == ((cutF (cutS s) n).1).toList)) rfl rfl (fun _ => by kernel_rfl)) (str_t h1)) rfl rfl rfl ?_)
  refine st rfl (o_y (v := .bool true) (y_pick rfl rfl) rfl rfl rfl ?_)
  refine st rfl (o_y (v := .bool true) (y_mv rfl) rfl rfl rfl ?_)
  refine st_on 57 rfl rfl rfl (o_y (v := .int .i64 ((cutF (cutS s) n).2)) (y_mv rfl) rfl rfl rfl ?_)
  refine st_on 57 rfl rfl rfl (o_y (v := .int .i64 ((cutF (cutS s) n).2)) (y_mv rfl) rfl rfl rfl ?_)
  have h2 : (cutF (cutS s) n).2 = (cutF (cutS s) n).2 := rfl
  refine st_on 57 rfl rfl rfl (o_y (v := .bool true) (y_t (y_k (v := .bool (decide ((cutF (cutS s) n).2 = (cutF (cutS s) n).2))) rfl rfl (fun _ => by kernel_rfl)) h2) rfl rfl rfl ?_)
  refine st rfl (o_y (v := .bool true) (y_pick rfl rfl) rfl rfl rfl ?_)
  refine st rfl (o_y (v := .bool true) (y_mv rfl) rfl rfl rfl ?_)
  refine st_on 62 rfl rfl rfl (o_y (v := .string ((spliceF (cutS s) at_ n (cutS t)).1)) (y_mv rfl) rfl rfl rfl ?_)
  refine st_on 62 rfl rfl rfl (o_y (v := .string ((spliceF (cutS s) at_ n (cutS t)).1)) (y_mv rfl) rfl rfl rfl ?_)
  have h3 : (spliceF (cutS s) at_ n (cutS t)).1 = (spliceF (cutS s) at_ n (cutS t)).1 := rfl
  refine st_on 62 rfl rfl rfl (o_y (v := .bool true) (y_b (y_k (v := .bool (((spliceF (cutS s) at_ n (cutS t)).1).toList == ((spliceF (cutS s) at_ n (cutS t)).1).toList)) rfl rfl (fun _ => by kernel_rfl)) (str_t h3)) rfl rfl rfl ?_)
  refine st rfl (o_y (v := .bool true) (y_pick rfl rfl) rfl rfl rfl ?_)
  refine st rfl (o_y (v := .bool true) (y_mv rfl) rfl rfl rfl ?_)
  refine st_on 67 rfl rfl rfl (o_y (v := .int .i64 ((spliceF (cutS s) at_ n (cutS t)).2)) (y_mv rfl) rfl rfl rfl ?_)
  refine st_on 67 rfl rfl rfl (o_y (v := .int .i64 ((spliceF (cutS s) at_ n (cutS t)).2)) (y_mv rfl) rfl rfl rfl ?_)
  have h4 : (spliceF (cutS s) at_ n (cutS t)).2 = (spliceF (cutS s) at_ n (cutS t)).2 := rfl
  refine st_on 67 rfl rfl rfl (o_y (v := .bool true) (y_t (y_k (v := .bool (decide ((spliceF (cutS s) at_ n (cutS t)).2 = (spliceF (cutS s) at_ n (cutS t)).2))) rfl rfl (fun _ => by kernel_rfl)) h4) rfl rfl rfl ?_)
  refine st rfl (o_y (v := .bool true) (y_pick rfl rfl) rfl rfl rfl ?_)
  refine st rfl (o_y (v := .bool true) (y_as rfl) rfl rfl rfl ?_)
  refine s_nil ?_
  refine q_then ?_
  refine c_ret ?_
  refine c_fin (I' := []) [] [0] rfl (.tmp rfl .nil) rfl rfl rfl ?_
  exact ⟨rfl, rfl, rfl⟩
end Go.Proofs.YthjcekfehicjhaaDoor
