/- The laws of chapter 9 (file), walked over the given program; no condition but what stands in each theorem: part KReads. -/
import Derived.Test.YthjcekfehicjhaaDoorRJ
set_option linter.unusedVariables false
set_option linter.unusedSimpArgs false
set_option maxRecDepth 100000
set_option maxHeartbeats 8000000
namespace Go.Proofs.YthjcekfehicjhaaDoor
open Go Go.Sl Go.RowKit Go.Extern.Stop Go.Stop Go.Extern
theorem FileReads_ (s : ByteArray) (at_ : Int) (n : Int) (m : Int) (zs : s.size ≤ 9223372036854775807) (rat_ : -9223372036854775808 ≤ at_ ∧ at_ ≤ 9223372036854775807) (rn : -9223372036854775808 ≤ n ∧ n ≤ 9223372036854775807) (rm : -9223372036854775808 ≤ m ∧ m ≤ 9223372036854775807) : Con Tryd.prog 8 [.string s, .int .i64 at_, .int .i64 n, .int .i64 m] [] [cellsAt 0 0 [.iface 73 (.agg #[.pointer (some ⟨1, 42, none⟩)])]] (fun v L' I' => v = .bool true ∧ L' = [] ∧ I' = []) := by
  have cs := cutS_size s
  have w1 := readF_size (cutS s) at_ n
  have w0 := readF_no (s := cutS s) (at_ := at_) (n := n)
  have w2 := fun (h1 : 0 ≤ n) (h2 : 0 ≤ m) => reads_all (s := cutS s) (at_ := at_) h1 h2
  have w4 := readF_size (cutS s) (at_ + ((readF (cutS s) at_ n).1.size : Int)) m
  refine fn_of Tryd.func8 rfl Tryd.ntmps8 (by kernel_rfl) rfl (fun C => ?_)
  refine c_seq ?_
  refine c_region ?_
  refine st rfl (o_y (v := .bool false) (y_as rfl) rfl rfl rfl ?_)
  refine s_nil ?_
  refine q_then ?_
  refine c_seq ?_
  refine c_region ?_
  refine st rfl (o_call [] [0] shown_ rfl rfl rfl rfl rfl rfl (fun v L' I' hq1 => ?_))
  obtain ⟨rfl, rfl, rfl⟩ := hq1
  refine st rfl (o_y (v := .bool true) (y_as rfl) rfl rfl rfl ?_)
  refine s_nil ?_
  refine q_then ?_
  refine c_seq ?_
  refine c_region ?_
  refine st rfl (o_y (v := .string s) (y_mv rfl) rfl rfl rfl ?_)
  refine st rfl (o_call [] [] (cut_ s (by assumption)) rfl rfl rfl rfl rfl rfl (fun v L' I' hq2 => ?_))
  obtain ⟨rfl, rfl, rfl⟩ := hq2
  refine st rfl (o_y (v := .string (cutS s)) (y_as rfl) rfl rfl rfl ?_)
  refine s_nil ?_
  refine q_then ?_
  refine c_seq ?_
  refine c_seq ?_
  refine c_region ?_
  refine st rfl (o_y (v := .int .i64 n) (y_mv rfl) rfl rfl rfl ?_)
  refine e_by (n < 0) (fun h1 => ?_) (fun h1 => ?_)
  ·
    refine st rfl (o_y (v := .bool true) (y_t (y_k (v := .bool (decide (n < 0))) rfl rfl (fun _ => by kernel_rfl)) h1) rfl rfl rfl ?_)
    refine st rfl (o_y (v := .bool true) (y_mv rfl) rfl rfl rfl ?_)
    refine st_off 21 rfl rfl rfl rfl rfl rfl ?_
    refine st_off 21 rfl rfl rfl rfl rfl rfl ?_
    refine st rfl (o_y (v := .bool true) (y_pick rfl rfl) rfl rfl rfl ?_)
    refine st rfl (o_y (v := .bool true) (y_mv rfl) rfl rfl rfl ?_)
    refine st_off 25 rfl rfl rfl rfl rfl rfl ?_
    refine st_off 25 rfl rfl rfl rfl rfl rfl ?_
    refine st rfl (o_y (v := .bool true) (y_pick rfl rfl) rfl rfl rfl ?_)
    refine st rfl (o_y (v := .bool true) (y_mv rfl) rfl rfl rfl ?_)
    refine st_off 29 rfl rfl rfl rfl rfl rfl ?_
    refine st_off 29 rfl rfl rfl rfl rfl rfl ?_
    refine st rfl (o_y (v := .bool true) (y_pick rfl rfl) rfl rfl rfl ?_)
    refine s_nil ?_
    refine q_then ?_
    refine c_true rfl ?_
    refine c_seq ?_
    refine c_region ?_
    refine st rfl (o_y (v := .bool true) (y_mv rfl) rfl rfl rfl ?_)
    refine st rfl (o_y (v := .bool true) (y_as rfl) rfl rfl rfl ?_)
    refine s_nil ?_
    refine q_then ?_
    refine c_ret ?_
    refine q_then_ret ?_
    refine c_fin (I' := []) [] [0] rfl (.tmp rfl .nil) rfl rfl rfl ?_
    exact ⟨rfl, rfl, rfl⟩
  ·
    refine st rfl (o_y (v := .bool false) (y_f (y_k (v := .bool (decide (n < 0))) rfl rfl (fun _ => by kernel_rfl)) h1) rfl rfl rfl ?_)
    refine st rfl (o_y (v := .bool false) (y_mv rfl) rfl rfl rfl ?_)
    refine st_on 21 rfl rfl rfl (o_y (v := .int .i64 m) (y_mv rfl) rfl rfl rfl ?_)
    refine e_by (m < 0) (fun h2 => ?_) (fun h2 => ?_)
    ·
      refine st_on 21 rfl rfl rfl (o_y (v := .bool true) (y_t (y_k (v := .bool (decide (m < 0))) rfl rfl (fun _ => by kernel_rfl)) h2) rfl rfl rfl ?_)
      refine st rfl (o_y (v := .bool true) (y_pick rfl rfl) rfl rfl rfl ?_)
      refine st rfl (o_y (v := .bool true) (y_mv rfl) rfl rfl rfl ?_)
      refine st_off 25 rfl rfl rfl rfl rfl rfl ?_
      refine st_off 25 rfl rfl rfl rfl rfl rfl ?_
      refine st rfl (o_y (v := .bool true) (y_pick rfl rfl) rfl rfl rfl ?_)
      refine st rfl (o_y (v := .bool true) (y_mv rfl) rfl rfl rfl ?_)
      refine st_off 29 rfl rfl rfl rfl rfl rfl ?_
      refine st_off 29 rfl rfl rfl rfl rfl rfl ?_
      refine st rfl (o_y (v := .bool true) (y_pick rfl rfl) rfl rfl rfl ?_)
      refine s_nil ?_
      refine q_then ?_
      refine c_true rfl ?_
      refine c_seq ?_
      refine c_region ?_
      refine st rfl (o_y (v := .bool true) (y_mv rfl) rfl rfl rfl ?_)
      refine st rfl (o_y (v := .bool true) (y_as rfl) rfl rfl rfl ?_)
      refine s_nil ?_
      refine q_then ?_
      refine c_ret ?_
      refine q_then_ret ?_
      refine c_fin (I' := []) [] [0] rfl (.tmp rfl .nil) rfl rfl rfl ?_
      exact ⟨rfl, rfl, rfl⟩
    ·
      refine st_on 21 rfl rfl rfl (o_y (v := .bool false) (y_f (y_k (v := .bool (decide (m < 0))) rfl rfl (fun _ => by kernel_rfl)) h2) rfl rfl rfl ?_)
      refine st rfl (o_y (v := .bool false) (y_pick rfl rfl) rfl rfl rfl ?_)
      refine st rfl (o_y (v := .bool false) (y_mv rfl) rfl rfl rfl ?_)
      refine st_on 25 rfl rfl rfl (o_y (v := .int .i64 n) (y_mv rfl) rfl rfl rfl ?_)
      refine e_by (n > 2000) (fun h3 => ?_) (fun h3 => ?_)
      ·
        refine st_on 25 rfl rfl rfl (o_y (v := .bool true) (y_t (y_k (v := .bool (decide (n > 2000))) rfl rfl (fun _ => by kernel_rfl)) h3) rfl rfl rfl ?_)
        refine st rfl (o_y (v := .bool true) (y_pick rfl rfl) rfl rfl rfl ?_)
        refine st rfl (o_y (v := .bool true) (y_mv rfl) rfl rfl rfl ?_)
        refine st_off 29 rfl rfl rfl rfl rfl rfl ?_
        refine st_off 29 rfl rfl rfl rfl rfl rfl ?_
        refine st rfl (o_y (v := .bool true) (y_pick rfl rfl) rfl rfl rfl ?_)
        refine s_nil ?_
        refine q_then ?_
        refine c_true rfl ?_
        refine c_seq ?_
        refine c_region ?_
        refine st rfl (o_y (v := .bool true) (y_mv rfl) rfl rfl rfl ?_)
        refine st rfl (o_y (v := .bool true) (y_as rfl) rfl rfl rfl ?_)
        refine s_nil ?_
        refine q_then ?_
        refine c_ret ?_
        refine q_then_ret ?_
        refine c_fin (I' := []) [] [0] rfl (.tmp rfl .nil) rfl rfl rfl ?_
        exact ⟨rfl, rfl, rfl⟩
      ·
        refine st_on 25 rfl rfl rfl (o_y (v := .bool false) (y_f (y_k (v := .bool (decide (n > 2000))) rfl rfl (fun _ => by kernel_rfl)) h3) rfl rfl rfl ?_)
        refine st rfl (o_y (v := .bool false) (y_pick rfl rfl) rfl rfl rfl ?_)
        refine st rfl (o_y (v := .bool false) (y_mv rfl) rfl rfl rfl ?_)
        refine st_on 29 rfl rfl rfl (o_y (v := .int .i64 m) (y_mv rfl) rfl rfl rfl ?_)
        refine e_by (m > 2000) (fun h4 => ?_) (fun h4 => ?_)
        ·
          refine st_on 29 rfl rfl rfl (o_y (v := .bool true) (y_t (y_k (v := .bool (decide (m > 2000))) rfl rfl (fun _ => by kernel_rfl)) h4) rfl rfl rfl ?_)
          refine st rfl (o_y (v := .bool true) (y_pick rfl rfl) rfl rfl rfl ?_)
          refine s_nil ?_
          refine q_then ?_
          refine c_true rfl ?_
          refine c_seq ?_
          refine c_region ?_
          refine st rfl (o_y (v := .bool true) (y_mv rfl) rfl rfl rfl ?_)
          refine st rfl (o_y (v := .bool true) (y_as rfl) rfl rfl rfl ?_)
          refine s_nil ?_
          refine q_then ?_
          refine c_ret ?_
          refine q_then_ret ?_
          refine c_fin (I' := []) [] [0] rfl (.tmp rfl .nil) rfl rfl rfl ?_
          exact ⟨rfl, rfl, rfl⟩
        ·
          refine st_on 29 rfl rfl rfl (o_y (v := .bool false) (y_f (y_k (v := .bool (decide (m > 2000))) rfl rfl (fun _ => by kernel_rfl)) h4) rfl rfl rfl ?_)
          refine st rfl (o_y (v := .bool false) (y_pick rfl rfl) rfl rfl rfl ?_)
          refine s_nil ?_
          refine q_then ?_
          refine c_false rfl ?_
          refine c_skip ?_
          refine q_then ?_
          refine c_seq ?_
          refine c_region ?_
          refine st rfl (o_y (v := .string (cutS s)) (y_mv rfl) rfl rfl rfl ?_)
          refine st rfl (o_y (v := .int .i64 at_) (y_mv rfl) rfl rfl rfl ?_)
          refine st rfl (o_y (v := .int .i64 n) (y_mv rfl) rfl rfl rfl ?_)
          refine st rfl (o_y (v := .int .i64 m) (y_mv rfl) rfl rfl rfl ?_)
          refine st rfl (o_y (v := .int .i64 (n + m)) (y_add (r := n + m) rfl rfl rfl (by by_cases hz : (readF (cutS s) at_ n).2 = 0 <;> first | omega | (have := (w0 hz).1; rw [this] at *; simp only [] at *; omega) | (have hq : 0 ≤ at_ ∧ at_ ≤ 1000 := read_rng hz; omega) | (have hq := read_z hz; omega))) rfl rfl rfl ?_)
          refine st rfl (o_call [] [0] (Read_ (cutS s) (by first | omega | decide | assumption) at_ (n + m)) rfl rfl rfl rfl rfl rfl (fun v L' I' hq3 => ?_))
          obtain ⟨rfl, rfl, rfl⟩ := hq3
          refine st rfl (o_y (v := .tuple #[.string ((readF (cutS s) at_ (n + m)).1), .int .i64 ((readF (cutS s) at_ (n + m)).2)]) (y_mv rfl) rfl rfl rfl ?_)
          refine st rfl (o_y (v := .string ((readF (cutS s) at_ (n + m)).1)) (y_k rfl rfl (fun _ => by kernel_rfl)) rfl rfl rfl ?_)
          refine st rfl (o_y (v := .int .i64 ((readF (cutS s) at_ (n + m)).2)) (y_k rfl rfl (fun _ => by kernel_rfl)) rfl rfl rfl ?_)
          refine st rfl (o_y (v := .string ((readF (cutS s) at_ (n + m)).1)) (y_as rfl) rfl rfl rfl ?_)
          refine st rfl (o_y (v := .int .i64 ((readF (cutS s) at_ (n + m)).2)) (y_as rfl) rfl rfl rfl ?_)
          refine s_nil ?_
          refine q_then ?_
          refine c_seq ?_
          refine c_region ?_
          refine st rfl (o_y (v := .string (cutS s)) (y_mv rfl) rfl rfl rfl ?_)
          refine st rfl (o_y (v := .int .i64 at_) (y_mv rfl) rfl rfl rfl ?_)
          refine st rfl (o_y (v := .int .i64 n) (y_mv rfl) rfl rfl rfl ?_)
          refine st rfl (o_call [] [0] (Read_ (cutS s) (by first | omega | decide | assumption) at_ n) rfl rfl rfl rfl rfl rfl (fun v L' I' hq4 => ?_))
          obtain ⟨rfl, rfl, rfl⟩ := hq4
          refine st rfl (o_y (v := .tuple #[.string ((readF (cutS s) at_ n).1), .int .i64 ((readF (cutS s) at_ n).2)]) (y_mv rfl) rfl rfl rfl ?_)
          refine st rfl (o_y (v := .string ((readF (cutS s) at_ n).1)) (y_k rfl rfl (fun _ => by kernel_rfl)) rfl rfl rfl ?_)
          refine st rfl (o_y (v := .int .i64 ((readF (cutS s) at_ n).2)) (y_k rfl rfl (fun _ => by kernel_rfl)) rfl rfl rfl ?_)
          refine st rfl (o_y (v := .string ((readF (cutS s) at_ n).1)) (y_as rfl) rfl rfl rfl ?_)
          refine st rfl (o_y (v := .int .i64 ((readF (cutS s) at_ n).2)) (y_as rfl) rfl rfl rfl ?_)
          refine s_nil ?_
          refine q_then ?_
          refine c_seq ?_
          refine c_region ?_
          refine st rfl (o_y (v := .string (cutS s)) (y_mv rfl) rfl rfl rfl ?_)
          refine st rfl (o_y (v := .int .i64 at_) (y_mv rfl) rfl rfl rfl ?_)
          refine st rfl (o_y (v := .string ((readF (cutS s) at_ n).1)) (y_mv rfl) rfl rfl rfl ?_)
          refine st rfl (o_y (v := .int .i64 (((readF (cutS s) at_ n).1).size : Int)) (y_k rfl rfl (fun _ => by kernel_rfl)) rfl rfl rfl ?_)
          refine st rfl (o_y (v := .int .i64 (at_ + (((readF (cutS s) at_ n).1).size : Int))) (y_add (r := at_ + (((readF (cutS s) at_ n).1).size : Int)) rfl rfl rfl (by by_cases hz : (readF (cutS s) at_ n).2 = 0 <;> first | omega | (have := (w0 hz).1; rw [this] at *; simp only [] at *; omega) | (have hq : 0 ≤ at_ ∧ at_ ≤ 1000 := read_rng hz; omega) | (have hq := read_z hz; omega))) rfl rfl rfl ?_)
          refine st rfl (o_y (v := .int .i64 m) (y_mv rfl) rfl rfl rfl ?_)
          refine st rfl (o_call [] [0] (Read_ (cutS s) (by first | omega | decide | assumption) (at_ + (((readF (cutS s) at_ n).1).size : Int)) m) rfl rfl rfl rfl rfl rfl (fun v L' I' hq5 => ?_))
          obtain ⟨rfl, rfl, rfl⟩ := hq5
          refine st rfl (o_y (v := .tuple #[.string ((readF (cutS s) (at_ + (((readF (cutS s) at_ n).1).size : Int)) m).1), .int .i64 ((readF (cutS s) (at_ + (((readF (cutS s) at_ n).1).size : Int)) m).2)]) (y_mv rfl) rfl rfl rfl ?_)
          refine st rfl (o_y (v := .string ((readF (cutS s) (at_ + (((readF (cutS s) at_ n).1).size : Int)) m).1)) (y_k rfl rfl (fun _ => by kernel_rfl)) rfl rfl rfl ?_)
          refine st rfl (o_y (v := .int .i64 ((readF (cutS s) (at_ + (((readF (cutS s) at_ n).1).size : Int)) m).2)) (y_k rfl rfl (fun _ => by kernel_rfl)) rfl rfl rfl ?_)
          refine st rfl (o_y (v := .string ((readF (cutS s) (at_ + (((readF (cutS s) at_ n).1).size : Int)) m).1)) (y_as rfl) rfl rfl rfl ?_)
          refine st rfl (o_y (v := .int .i64 ((readF (cutS s) (at_ + (((readF (cutS s) at_ n).1).size : Int)) m).2)) (y_as rfl) rfl rfl rfl ?_)
          refine s_nil ?_
          refine q_then ?_
          refine c_seq ?_
          refine c_seq ?_
          refine c_region ?_
          refine st rfl (o_y (v := .int .i64 ((readF (cutS s) at_ (n + m)).2)) (y_mv rfl) rfl rfl rfl ?_)
          refine e_by ((readF (cutS s) at_ (n + m)).2 = 0) (fun h5 => ?_) (fun h5 => ?_)
          ·
            refine st rfl (o_y (v := .bool false) (y_nt (y_k (v := .bool (!decide ((readF (cutS s) at_ (n + m)).2 = 0))) rfl rfl (fun _ => by kernel_rfl)) h5) rfl rfl rfl ?_)
            refine s_nil ?_
            refine q_then ?_
            refine c_false rfl ?_
            refine c_skip ?_
            refine q_then ?_
            refine c_seq ?_
            refine c_region ?_
            refine st rfl (o_y (v := .bool true) (y_mv rfl) rfl rfl rfl ?_)
            refine st rfl (o_y (v := .bool true) (y_mv rfl) rfl rfl rfl ?_)
            refine st_on 77 rfl rfl rfl (o_y (v := .int .i64 ((readF (cutS s) at_ n).2)) (y_mv rfl) rfl rfl rfl ?_)
            have h6 : (readF (cutS s) at_ n).2 = 0 := ((w2 (by omega) (by omega)).2 (by assumption)).1
            refine st_on 77 rfl rfl rfl (o_y (v := .bool true) (y_t (y_k (v := .bool (decide ((readF (cutS s) at_ n).2 = 0))) rfl rfl (fun _ => by kernel_rfl)) h6) rfl rfl rfl ?_)
            refine st rfl (o_y (v := .bool true) (y_pick rfl rfl) rfl rfl rfl ?_)
            refine st rfl (o_y (v := .bool true) (y_mv rfl) rfl rfl rfl ?_)
            refine st_on 81 rfl rfl rfl (o_y (v := .int .i64 ((readF (cutS s) (at_ + (((readF (cutS s) at_ n).1).size : Int)) m).2)) (y_mv rfl) rfl rfl rfl ?_)
            have h7 : (readF (cutS s) (at_ + (((readF (cutS s) at_ n).1).size : Int)) m).2 = 0 := ((w2 (by omega) (by omega)).2 (by assumption)).2.1
            refine st_on 81 rfl rfl rfl (o_y (v := .bool true) (y_t (y_k (v := .bool (decide ((readF (cutS s) (at_ + (((readF (cutS s) at_ n).1).size : Int)) m).2 = 0))) rfl rfl (fun _ => by kernel_rfl)) h7) rfl rfl rfl ?_)
            refine st rfl (o_y (v := .bool true) (y_pick rfl rfl) rfl rfl rfl ?_)
            refine st rfl (o_y (v := .bool true) (y_mv rfl) rfl rfl rfl ?_)
            refine st_on 85 rfl rfl rfl (o_y (v := .string ((readF (cutS s) at_ (n + m)).1)) (y_mv rfl) rfl rfl rfl ?_)
            refine st_on 85 rfl rfl rfl (o_y (v := .string ((readF (cutS s) at_ n).1)) (y_mv rfl) rfl rfl rfl ?_)
            refine st_on 85 rfl rfl rfl (o_y (v := .string ((readF (cutS s) (at_ + (((readF (cutS s) at_ n).1).size : Int)) m).1)) (y_mv rfl) rfl rfl rfl ?_)
            refine st_on 85 rfl rfl rfl (o_y (v := .string (((readF (cutS s) at_ n).1) ++ ((readF (cutS s) (at_ + (((readF (cutS s) at_ n).1).size : Int)) m).1))) (y_cat (s := (readF (cutS s) at_ n).1) (u := (readF (cutS s) (at_ + (((readF (cutS s) at_ n).1).size : Int)) m).1) rfl rfl (by omega)) rfl rfl rfl ?_)
            have h8 : (readF (cutS s) at_ (n + m)).1 = ((readF (cutS s) at_ n).1) ++ ((readF (cutS s) (at_ + (((readF (cutS s) at_ n).1).size : Int)) m).1) := ((w2 (by omega) (by omega)).2 (by assumption)).2.2.1
            refine st_on 85 rfl rfl rfl (o_y (v := .bool true) (y_b (y_k (v := .bool (((readF (cutS s) at_ (n + m)).1).toList == (((readF (cutS s) at_ n).1) ++ ((readF (cutS s) (at_ + (((readF (cutS s) at_ n).1).size : Int)) m).1)).toList)) rfl rfl (fun _ => by kernel_rfl)) (str_t h8)) rfl rfl rfl ?_)
            refine st rfl (o_y (v := .bool true) (y_pick rfl rfl) rfl rfl rfl ?_)
            refine st rfl (o_y (v := .bool true) (y_mv rfl) rfl rfl rfl ?_)
            refine st_on 92 rfl rfl rfl (o_y (v := .string ((readF (cutS s) at_ (n + m)).1)) (y_mv rfl) rfl rfl rfl ?_)
            refine st_on 92 rfl rfl rfl (o_y (v := .int .i64 (((readF (cutS s) at_ (n + m)).1).size : Int)) (y_k rfl rfl (fun _ => by kernel_rfl)) rfl rfl rfl ?_)
            refine st_on 92 rfl rfl rfl (o_y (v := .int .i64 n) (y_mv rfl) rfl rfl rfl ?_)
            refine st_on 92 rfl rfl rfl (o_y (v := .int .i64 m) (y_mv rfl) rfl rfl rfl ?_)
            refine st_on 92 rfl rfl rfl (o_y (v := .int .i64 (n + m)) (y_add (r := n + m) rfl rfl rfl (by by_cases hz : (readF (cutS s) at_ n).2 = 0 <;> first | omega | (have := (w0 hz).1; rw [this] at *; simp only [] at *; omega) | (have hq : 0 ≤ at_ ∧ at_ ≤ 1000 := read_rng hz; omega) | (have hq := read_z hz; omega))) rfl rfl rfl ?_)
            have h9 : (((readF (cutS s) at_ (n + m)).1).size : Int) ≤ n + m := ((w2 (by omega) (by omega)).2 (by assumption)).2.2.2
            refine st_on 92 rfl rfl rfl (o_y (v := .bool true) (y_t (y_k (v := .bool (decide ((((readF (cutS s) at_ (n + m)).1).size : Int) ≤ n + m))) rfl rfl (fun _ => by kernel_rfl)) h9) rfl rfl rfl ?_)
            refine st rfl (o_y (v := .bool true) (y_pick rfl rfl) rfl rfl rfl ?_)
            refine st rfl (o_y (v := .bool true) (y_as rfl) rfl rfl rfl ?_)
            refine s_nil ?_
            refine q_then ?_
            refine c_ret ?_
            refine c_fin (I' := []) [] [0] rfl (.tmp rfl .nil) rfl rfl rfl ?_
            exact ⟨rfl, rfl, rfl⟩
          ·
            refine st rfl (o_y (v := .bool true) (y_nf (y_k (v := .bool (!decide ((readF (cutS s) at_ (n + m)).2 = 0))) rfl rfl (fun _ => by kernel_rfl)) h5) rfl rfl rfl ?_)
            refine s_nil ?_
            refine q_then ?_
            refine c_true rfl ?_
            refine c_seq ?_
            refine c_region ?_
            refine st rfl (o_y (v := .bool true) (y_mv rfl) rfl rfl rfl ?_)
            refine st rfl (o_y (v := .bool true) (y_mv rfl) rfl rfl rfl ?_)
            refine st_on 63 rfl rfl rfl (o_y (v := .int .i64 ((readF (cutS s) at_ n).2)) (y_mv rfl) rfl rfl rfl ?_)
            refine st_on 63 rfl rfl rfl (o_y (v := .int .i64 ((readF (cutS s) at_ (n + m)).2)) (y_mv rfl) rfl rfl rfl ?_)
            have h10 : (readF (cutS s) at_ n).2 = (readF (cutS s) at_ (n + m)).2 := ((w2 (by omega) (by omega)).1 (by assumption)).1
            refine st_on 63 rfl rfl rfl (o_y (v := .bool true) (y_t (y_k (v := .bool (decide ((readF (cutS s) at_ n).2 = (readF (cutS s) at_ (n + m)).2))) rfl rfl (fun _ => by kernel_rfl)) h10) rfl rfl rfl ?_)
            refine st rfl (o_y (v := .bool true) (y_pick rfl rfl) rfl rfl rfl ?_)
            refine st rfl (o_y (v := .bool true) (y_mv rfl) rfl rfl rfl ?_)
            refine st_on 68 rfl rfl rfl (o_y (v := .string ((readF (cutS s) at_ (n + m)).1)) (y_mv rfl) rfl rfl rfl ?_)
            have h11 : (readF (cutS s) at_ (n + m)).1 = (⟨#[]⟩ : ByteArray) := ((w2 (by omega) (by omega)).1 (by assumption)).2.1
            refine st_on 68 rfl rfl rfl (o_y (v := .bool true) (y_b (y_k (v := .bool (((readF (cutS s) at_ (n + m)).1).toList == (⟨#[]⟩ : ByteArray).toList)) rfl rfl (fun _ => by kernel_rfl)) (str_t h11)) rfl rfl rfl ?_)
            refine st rfl (o_y (v := .bool true) (y_pick rfl rfl) rfl rfl rfl ?_)
            refine st rfl (o_y (v := .bool true) (y_mv rfl) rfl rfl rfl ?_)
            refine st_on 72 rfl rfl rfl (o_y (v := .string ((readF (cutS s) at_ n).1)) (y_mv rfl) rfl rfl rfl ?_)
            have h12 : (readF (cutS s) at_ n).1 = (⟨#[]⟩ : ByteArray) := ((w2 (by omega) (by omega)).1 (by assumption)).2.2
            refine st_on 72 rfl rfl rfl (o_y (v := .bool true) (y_b (y_k (v := .bool (((readF (cutS s) at_ n).1).toList == (⟨#[]⟩ : ByteArray).toList)) rfl rfl (fun _ => by kernel_rfl)) (str_t h12)) rfl rfl rfl ?_)
            refine st rfl (o_y (v := .bool true) (y_pick rfl rfl) rfl rfl rfl ?_)
            refine st rfl (o_y (v := .bool true) (y_as rfl) rfl rfl rfl ?_)
            refine s_nil ?_
            refine q_then ?_
            refine c_ret ?_
            refine q_then_ret ?_
            refine c_fin (I' := []) [] [0] rfl (.tmp rfl .nil) rfl rfl rfl ?_
            exact ⟨rfl, rfl, rfl⟩
end Go.Proofs.YthjcekfehicjhaaDoor
