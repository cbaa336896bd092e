/- The laws of chapter 9 (file), walked over the given program; no condition but what stands in each theorem: part KSplices. -/
import Derived.Test.YthjcekfehicjhaaDoorRJ
set_option linter.unusedVariables false
set_option linter.unusedSimpArgs false
set_option maxRecDepth 100000
set_option maxHeartbeats 8000000
namespace Go.Proofs.YthjcekfehicjhaaDoor
open Go Go.Sl Go.RowKit Go.Extern.Stop Go.Stop Go.Extern
theorem FileSplices_ (s : ByteArray) (t : ByteArray) (at_ : Int) (n : Int) (zs : s.size ≤ 9223372036854775807) (zt : t.size ≤ 9223372036854775807) (rn : -9223372036854775808 ≤ n ∧ n ≤ 9223372036854775807) : Con Tryd.prog 7 [.string s, .string t, .int .i64 at_, .int .i64 n] [] [cellsAt 0 0 [.iface 73 (.agg #[.pointer (some ⟨1, 42, none⟩)])]] (fun v L' I' => v = .bool true ∧ L' = [] ∧ I' = []) := by
  have cs := cutS_size s
  have ct := cutS_size t
  have w1 := spliceF_size (cutS s) (cutS t) at_ n
  have w2 := readF_size (cutS s) at_ n
  have w3 := splice_back (s := cutS s) (t := cutS t) (at_ := at_) (n := n)
  have w4 := splice_size (s := cutS s) (t := cutS t) (at_ := at_) (n := n)
  have w5 := spliceF_no (s := cutS s) (t := cutS t) (at_ := at_) (n := n)
  have w6 := spliceF_ok (s := cutS s) (t := cutS t) (at_ := at_) (n := n)
  refine fn_of Tryd.func7 rfl Tryd.ntmps7 (by kernel_rfl) rfl (fun C => ?_)
  refine c_seq ?_
  refine c_region ?_
  refine st rfl (o_y (v := .bool false) (y_as rfl) rfl rfl rfl ?_)
  refine s_nil ?_
  refine q_then ?_
  refine c_seq ?_
  refine c_region ?_
  refine st rfl (o_call [] [0] shown_ rfl rfl rfl rfl rfl rfl (fun v L' I' hq1 => ?_))
  obtain ⟨rfl, rfl, rfl⟩ := hq1
  refine st rfl (o_y (v := .bool true) (y_as rfl) rfl rfl rfl ?_)
  refine s_nil ?_
  refine q_then ?_
  refine c_seq ?_
  refine c_region ?_
  refine st rfl (o_y (v := .string s) (y_mv rfl) rfl rfl rfl ?_)
  refine st rfl (o_call [] [] (cut_ s (by assumption)) rfl rfl rfl rfl rfl rfl (fun v L' I' hq2 => ?_))
  obtain ⟨rfl, rfl, rfl⟩ := hq2
  refine st rfl (o_y (v := .string (cutS s)) (y_as rfl) rfl rfl rfl ?_)
  refine s_nil ?_
  refine q_then ?_
  refine c_seq ?_
  refine c_region ?_
  refine st rfl (o_y (v := .string t) (y_mv rfl) rfl rfl rfl ?_)
  refine st rfl (o_call [] [] (cut_ t (by assumption)) rfl rfl rfl rfl rfl rfl (fun v L' I' hq3 => ?_))
  obtain ⟨rfl, rfl, rfl⟩ := hq3
  refine st rfl (o_y (v := .string (cutS t)) (y_as rfl) rfl rfl rfl ?_)
  refine s_nil ?_
  refine q_then ?_
  refine c_seq ?_
  refine c_region ?_
  refine st rfl (o_y (v := .string (cutS s)) (y_mv rfl) rfl rfl rfl ?_)
  refine st rfl (o_y (v := .int .i64 at_) (y_mv rfl) rfl rfl rfl ?_)
  refine st rfl (o_y (v := .int .i64 n) (y_mv rfl) rfl rfl rfl ?_)
  refine st rfl (o_y (v := .string (cutS t)) (y_mv rfl) rfl rfl rfl ?_)
  refine st rfl (o_call [] [0] (Splice_ (cutS s) (by first | omega | decide | assumption) at_ n (cutS t) (by first | omega | decide | assumption | (rw [ByteArray.size_append]; omega))) rfl rfl rfl rfl rfl rfl (fun v L' I' hq4 => ?_))
  obtain ⟨rfl, rfl, rfl⟩ := hq4
  refine st rfl (o_y (v := .tuple #[.string ((spliceF (cutS s) at_ n (cutS t)).1), .int .i64 ((spliceF (cutS s) at_ n (cutS t)).2)]) (y_mv rfl) rfl rfl rfl ?_)
  refine st rfl (o_y (v := .string ((spliceF (cutS s) at_ n (cutS t)).1)) (y_k rfl rfl (fun _ => by kernel_rfl)) rfl rfl rfl ?_)
  refine st rfl (o_y (v := .int .i64 ((spliceF (cutS s) at_ n (cutS t)).2)) (y_k rfl rfl (fun _ => by kernel_rfl)) rfl rfl rfl ?_)
  refine st rfl (o_y (v := .string ((spliceF (cutS s) at_ n (cutS t)).1)) (y_as rfl) rfl rfl rfl ?_)
  refine st rfl (o_y (v := .int .i64 ((spliceF (cutS s) at_ n (cutS t)).2)) (y_as rfl) rfl rfl rfl ?_)
  refine s_nil ?_
  refine q_then ?_
  refine c_seq ?_
  refine c_seq ?_
  refine c_region ?_
  refine st rfl (o_y (v := .int .i64 ((spliceF (cutS s) at_ n (cutS t)).2)) (y_mv rfl) rfl rfl rfl ?_)
  refine e_by ((spliceF (cutS s) at_ n (cutS t)).2 = 0) (fun h1 => ?_) (fun h1 => ?_)
  ·
    refine st rfl (o_y (v := .bool false) (y_nt (y_k (v := .bool (!decide ((spliceF (cutS s) at_ n (cutS t)).2 = 0))) rfl rfl (fun _ => by kernel_rfl)) h1) rfl rfl rfl ?_)
    refine s_nil ?_
    refine q_then ?_
    refine c_false rfl ?_
    refine c_skip ?_
    refine q_then ?_
    refine c_seq ?_
    refine c_region ?_
    refine st rfl (o_y (v := .string (cutS s)) (y_mv rfl) rfl rfl rfl ?_)
    refine st rfl (o_y (v := .int .i64 at_) (y_mv rfl) rfl rfl rfl ?_)
    refine st rfl (o_y (v := .int .i64 n) (y_mv rfl) rfl rfl rfl ?_)
    refine st rfl (o_call [] [0] (Read_ (cutS s) (by first | omega | decide | assumption) at_ n) rfl rfl rfl rfl rfl rfl (fun v L' I' hq5 => ?_))
    obtain ⟨rfl, rfl, rfl⟩ := hq5
    refine st rfl (o_y (v := .tuple #[.string ((readF (cutS s) at_ n).1), .int .i64 ((readF (cutS s) at_ n).2)]) (y_mv rfl) rfl rfl rfl ?_)
    refine st rfl (o_y (v := .string ((readF (cutS s) at_ n).1)) (y_k rfl rfl (fun _ => by kernel_rfl)) rfl rfl rfl ?_)
    refine st rfl (o_y (v := .int .i64 ((readF (cutS s) at_ n).2)) (y_k rfl rfl (fun _ => by kernel_rfl)) rfl rfl rfl ?_)
    refine st rfl (o_y (v := .string ((readF (cutS s) at_ n).1)) (y_as rfl) rfl rfl rfl ?_)
    refine st rfl (o_y (v := .int .i64 ((readF (cutS s) at_ n).2)) (y_as rfl) rfl rfl rfl ?_)
    refine s_nil ?_
    refine q_then ?_
    refine c_seq ?_
    refine c_region ?_
    refine st rfl (o_y (v := .string ((spliceF (cutS s) at_ n (cutS t)).1)) (y_mv rfl) rfl rfl rfl ?_)
    refine st rfl (o_y (v := .int .i64 at_) (y_mv rfl) rfl rfl rfl ?_)
    refine st rfl (o_y (v := .string (cutS t)) (y_mv rfl) rfl rfl rfl ?_)
    refine st rfl (o_y (v := .int .i64 ((cutS t).size : Int)) (y_k rfl rfl (fun _ => by kernel_rfl)) rfl rfl rfl ?_)
    refine st rfl (o_y (v := .string ((readF (cutS s) at_ n).1)) (y_mv rfl) rfl rfl rfl ?_)
    refine st rfl (o_call [] [0] (Splice_ ((spliceF (cutS s) at_ n (cutS t)).1) (by first | omega | decide | assumption) at_ ((cutS t).size : Int) ((readF (cutS s) at_ n).1) (by first | omega | decide | assumption | (rw [ByteArray.size_append]; omega))) rfl rfl rfl rfl rfl rfl (fun v L' I' hq6 => ?_))
    obtain ⟨rfl, rfl, rfl⟩ := hq6
    refine st rfl (o_y (v := .tuple #[.string ((spliceF ((spliceF (cutS s) at_ n (cutS t)).1) at_ ((cutS t).size : Int) ((readF (cutS s) at_ n).1)).1), .int .i64 ((spliceF ((spliceF (cutS s) at_ n (cutS t)).1) at_ ((cutS t).size : Int) ((readF (cutS s) at_ n).1)).2)]) (y_mv rfl) rfl rfl rfl ?_)
    refine st rfl (o_y (v := .string ((spliceF ((spliceF (cutS s) at_ n (cutS t)).1) at_ ((cutS t).size : Int) ((readF (cutS s) at_ n).1)).1)) (y_k rfl rfl (fun _ => by kernel_rfl)) rfl rfl rfl ?_)
    refine st rfl (o_y (v := .int .i64 ((spliceF ((spliceF (cutS s) at_ n (cutS t)).1) at_ ((cutS t).size : Int) ((readF (cutS s) at_ n).1)).2)) (y_k rfl rfl (fun _ => by kernel_rfl)) rfl rfl rfl ?_)
    refine st rfl (o_y (v := .string ((spliceF ((spliceF (cutS s) at_ n (cutS t)).1) at_ ((cutS t).size : Int) ((readF (cutS s) at_ n).1)).1)) (y_as rfl) rfl rfl rfl ?_)
    refine st rfl (o_y (v := .int .i64 ((spliceF ((spliceF (cutS s) at_ n (cutS t)).1) at_ ((cutS t).size : Int) ((readF (cutS s) at_ n).1)).2)) (y_as rfl) rfl rfl rfl ?_)
    refine s_nil ?_
    refine q_then ?_
    refine c_seq ?_
    refine c_region ?_
    refine st rfl (o_y (v := .bool true) (y_mv rfl) rfl rfl rfl ?_)
    refine st rfl (o_y (v := .bool true) (y_mv rfl) rfl rfl rfl ?_)
    refine st_on 57 rfl rfl rfl (o_y (v := .int .i64 ((readF (cutS s) at_ n).2)) (y_mv rfl) rfl rfl rfl ?_)
    have h2 : (readF (cutS s) at_ n).2 = 0 := (w3 h1).1
    refine st_on 57 rfl rfl rfl (o_y (v := .bool true) (y_t (y_k (v := .bool (decide ((readF (cutS s) at_ n).2 = 0))) rfl rfl (fun _ => by kernel_rfl)) h2) rfl rfl rfl ?_)
    refine st rfl (o_y (v := .bool true) (y_pick rfl rfl) rfl rfl rfl ?_)
    refine st rfl (o_y (v := .bool true) (y_mv rfl) rfl rfl rfl ?_)
    refine st_on 61 rfl rfl rfl (o_y (v := .int .i64 ((spliceF ((spliceF (cutS s) at_ n (cutS t)).1) at_ ((cutS t).size : Int) ((readF (cutS s) at_ n).1)).2)) (y_mv rfl) rfl rfl rfl ?_)
    have h3 : (spliceF ((spliceF (cutS s) at_ n (cutS t)).1) at_ ((cutS t).size : Int) ((readF (cutS s) at_ n).1)).2 = 0 := congrArg Prod.snd (w3 h1).2
    refine st_on 61 rfl rfl rfl (o_y (v := .bool true) (y_t (y_k (v := .bool (decide ((spliceF ((spliceF (cutS s) at_ n (cutS t)).1) at_ ((cutS t).size : Int) ((readF (cutS s) at_ n).1)).2 = 0))) rfl rfl (fun _ => by kernel_rfl)) h3) rfl rfl rfl ?_)
    refine st rfl (o_y (v := .bool true) (y_pick rfl rfl) rfl rfl rfl ?_)
    refine st rfl (o_y (v := .bool true) (y_mv rfl) rfl rfl rfl ?_)
    refine st_on 65 rfl rfl rfl (o_y (v := .string ((spliceF ((spliceF (cutS s) at_ n (cutS t)).1) at_ ((cutS t).size : Int) ((readF (cutS s) at_ n).1)).1)) (y_mv rfl) rfl rfl rfl ?_)
    refine st_on 65 rfl rfl rfl (o_y (v := .string (cutS s)) (y_mv rfl) rfl rfl rfl ?_)
    have h4 : (spliceF ((spliceF (cutS s) at_ n (cutS t)).1) at_ ((cutS t).size : Int) ((readF (cutS s) at_ n).1)).1 = cutS s := congrArg Prod.fst (w3 h1).2
    refine st_on 65 rfl rfl rfl (o_y (v := .bool true) (y_b (y_k (v := .bool (((spliceF ((spliceF (cutS s) at_ n (cutS t)).1) at_ ((cutS t).size : Int) ((readF (cutS s) at_ n).1)).1).toList == (cutS s).toList)) rfl rfl (fun _ => by kernel_rfl)) (str_t h4)) rfl rfl rfl ?_)
    refine st rfl (o_y (v := .bool true) (y_pick rfl rfl) rfl rfl rfl ?_)
    refine st rfl (o_y (v := .bool true) (y_mv rfl) rfl rfl rfl ?_)
    refine st_on 70 rfl rfl rfl (o_y (v := .string ((spliceF (cutS s) at_ n (cutS t)).1)) (y_mv rfl) rfl rfl rfl ?_)
    refine st_on 70 rfl rfl rfl (o_y (v := .int .i64 (((spliceF (cutS s) at_ n (cutS t)).1).size : Int)) (y_k rfl rfl (fun _ => by kernel_rfl)) rfl rfl rfl ?_)
    refine st_on 70 rfl rfl rfl (o_y (v := .string (cutS s)) (y_mv rfl) rfl rfl rfl ?_)
    refine st_on 70 rfl rfl rfl (o_y (v := .int .i64 ((cutS s).size : Int)) (y_k rfl rfl (fun _ => by kernel_rfl)) rfl rfl rfl ?_)
    refine st_on 70 rfl rfl rfl (o_y (v := .int .i64 n) (y_mv rfl) rfl rfl rfl ?_)
    refine st_on 70 rfl rfl rfl (o_y (v := .int .i64 (((cutS s).size : Int) - n)) (y_sub (r := ((cutS s).size : Int) - n) rfl rfl rfl (by have := (w6 h1).1; omega)) rfl rfl rfl ?_)
    refine st_on 70 rfl rfl rfl (o_y (v := .string (cutS t)) (y_mv rfl) rfl rfl rfl ?_)
    refine st_on 70 rfl rfl rfl (o_y (v := .int .i64 ((cutS t).size : Int)) (y_k rfl rfl (fun _ => by kernel_rfl)) rfl rfl rfl ?_)
    refine st_on 70 rfl rfl rfl (o_y (v := .int .i64 ((((cutS s).size : Int) - n) + ((cutS t).size : Int))) (y_add (r := (((cutS s).size : Int) - n) + ((cutS t).size : Int)) rfl rfl rfl (by have := (w6 h1).1; omega)) rfl rfl rfl ?_)
    have h5 : (((spliceF (cutS s) at_ n (cutS t)).1).size : Int) = (((cutS s).size : Int) - n) + ((cutS t).size : Int) := w4 h1
    refine st_on 70 rfl rfl rfl (o_y (v := .bool true) (y_t (y_k (v := .bool (decide ((((spliceF (cutS s) at_ n (cutS t)).1).size : Int) = (((cutS s).size : Int) - n) + ((cutS t).size : Int)))) rfl rfl (fun _ => by kernel_rfl)) h5) rfl rfl rfl ?_)
    refine st rfl (o_y (v := .bool true) (y_pick rfl rfl) rfl rfl rfl ?_)
    refine st rfl (o_y (v := .bool true) (y_as rfl) rfl rfl rfl ?_)
    refine s_nil ?_
    refine q_then ?_
    refine c_ret ?_
    refine c_fin (I' := []) [] [0] rfl (.tmp rfl .nil) rfl rfl rfl ?_
    exact ⟨rfl, rfl, rfl⟩
  ·
    refine st rfl (o_y (v := .bool true) (y_nf (y_k (v := .bool (!decide ((spliceF (cutS s) at_ n (cutS t)).2 = 0))) rfl rfl (fun _ => by kernel_rfl)) h1) rfl rfl rfl ?_)
    refine s_nil ?_
    refine q_then ?_
    refine c_true rfl ?_
    refine c_seq ?_
    refine c_region ?_
    refine st rfl (o_y (v := .bool true) (y_mv rfl) rfl rfl rfl ?_)
    refine st rfl (o_y (v := .bool true) (y_mv rfl) rfl rfl rfl ?_)
    refine st_on 32 rfl rfl rfl (o_y (v := .int .i64 ((spliceF (cutS s) at_ n (cutS t)).2)) (y_mv rfl) rfl rfl rfl ?_)
    have h6 : (spliceF (cutS s) at_ n (cutS t)).2 = 90 := congrArg Prod.snd (w5 h1)
    refine st_on 32 rfl rfl rfl (o_y (v := .bool true) (y_t (y_k (v := .bool (decide ((spliceF (cutS s) at_ n (cutS t)).2 = 90))) rfl rfl (fun _ => by kernel_rfl)) h6) rfl rfl rfl ?_)
    refine st rfl (o_y (v := .bool true) (y_pick rfl rfl) rfl rfl rfl ?_)
    refine st rfl (o_y (v := .bool true) (y_mv rfl) rfl rfl rfl ?_)
    refine st_on 36 rfl rfl rfl (o_y (v := .string ((spliceF (cutS s) at_ n (cutS t)).1)) (y_mv rfl) rfl rfl rfl ?_)
    have h7 : (spliceF (cutS s) at_ n (cutS t)).1 = (⟨#[]⟩ : ByteArray) := congrArg Prod.fst (w5 h1)
    refine st_on 36 rfl rfl rfl (o_y (v := .bool true) (y_b (y_k (v := .bool (((spliceF (cutS s) at_ n (cutS t)).1).toList == (⟨#[]⟩ : ByteArray).toList)) rfl rfl (fun _ => by kernel_rfl)) (str_t h7)) rfl rfl rfl ?_)
    refine st rfl (o_y (v := .bool true) (y_pick rfl rfl) rfl rfl rfl ?_)
    refine st rfl (o_y (v := .bool true) (y_as rfl) rfl rfl rfl ?_)
    refine s_nil ?_
    refine q_then ?_
    refine c_ret ?_
    refine q_then_ret ?_
    refine c_fin (I' := []) [] [0] rfl (.tmp rfl .nil) rfl rfl rfl ?_
    exact ⟨rfl, rfl, rfl⟩
end Go.Proofs.YthjcekfehicjhaaDoor
