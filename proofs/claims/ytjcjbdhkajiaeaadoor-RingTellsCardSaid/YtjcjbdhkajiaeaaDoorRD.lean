/- Contracts of package ring, its reference and its laws, walked over the given program; no condition but what stands in each: part D. -/
import Derived.Test.YtjcjbdhkajiaeaaDoorRC
set_option linter.unusedVariables false
set_option linter.unusedSimpArgs false
set_option maxRecDepth 100000
namespace Go.Proofs.YtjcjbdhkajiaeaaDoor
open Go Go.Sl Go.RowKit Go.Extern.Stop Go.Stop Go.Extern
theorem isMax_ (x : Int) : Con Tryd.prog 33 [.int .i64 x] [] [] (fun v L' I' => v = .bool (decide (0 ≤ x ∧ x ≤ 2000)) ∧ L' = [] ∧ I' = []) := by
  refine fn_of Tryd.func33 rfl Tryd.ntmps33 (by kernel_rfl) rfl (fun C => ?_)
  refine c_seq ?_
  refine c_region ?_
  refine st rfl (o_y (v := .bool false) (y_as rfl) rfl rfl rfl ?_)
  refine s_nil ?_
  refine q_then ?_
  refine c_seq ?_
  refine c_region ?_
  refine st rfl (o_y (v := .int .i64 x) (y_mv rfl) rfl rfl rfl ?_)
  refine e_by (x ≥ 0) (fun h1 => ?_) (fun h1 => ?_)
  ·
    refine st rfl (o_y (v := .bool true) (y_t (y_k (v := .bool (decide (x ≥ 0))) rfl rfl (fun _ => by kernel_rfl)) h1) rfl rfl rfl ?_)
    refine st rfl (o_y (v := .bool true) (y_mv rfl) rfl rfl rfl ?_)
    refine st_on 5 rfl rfl rfl (o_y (v := .int .i64 x) (y_mv rfl) rfl rfl rfl ?_)
    refine st_on 5 rfl rfl rfl (o_y (v := .bool (decide (x ≤ 2000))) (y_k rfl rfl (fun _ => by kernel_rfl)) rfl rfl rfl ?_)
    refine st rfl (o_y (v := .bool (decide (x ≤ 2000))) (y_pick rfl rfl) rfl rfl rfl ?_)
    refine st rfl (o_y (v := .bool (decide (x ≤ 2000))) (y_as rfl) rfl rfl rfl ?_)
    refine s_nil ?_
    refine q_then ?_
    refine c_ret ?_
    refine c_fin (I' := []) [] [] rfl (.tmp rfl .nil) rfl rfl rfl ?_
    exact ⟨by simp [packed] <;> omega, rfl, rfl⟩
  ·
    refine st rfl (o_y (v := .bool false) (y_f (y_k (v := .bool (decide (x ≥ 0))) rfl rfl (fun _ => by kernel_rfl)) h1) rfl rfl rfl ?_)
    refine st rfl (o_y (v := .bool false) (y_mv rfl) rfl rfl rfl ?_)
    refine st_off 5 rfl rfl rfl rfl rfl rfl ?_
    refine st_off 5 rfl rfl rfl rfl rfl rfl ?_
    refine st rfl (o_y (v := .bool false) (y_pick rfl rfl) rfl rfl rfl ?_)
    refine st rfl (o_y (v := .bool false) (y_as rfl) rfl rfl rfl ?_)
    refine s_nil ?_
    refine q_then ?_
    refine c_ret ?_
    refine c_fin (I' := []) [] [] rfl (.tmp rfl .nil) rfl rfl rfl ?_
    exact ⟨by simp [packed] <;> omega, rfl, rfl⟩
theorem isItem1_ (s : ByteArray) : Con Tryd.prog 39 [.string s] [] [] (fun v L' I' => v = .bool (decide ((s.size : Int) > 200)) ∧ L' = [] ∧ I' = []) := by
  refine fn_of Tryd.func39 rfl Tryd.ntmps39 (by kernel_rfl) rfl (fun C => ?_)
  refine c_seq ?_
  refine c_region ?_
  refine st rfl (o_y (v := .bool false) (y_as rfl) rfl rfl rfl ?_)
  refine s_nil ?_
  refine q_then ?_
  refine c_seq ?_
  refine c_region ?_
  refine st rfl (o_y (v := .string s) (y_mv rfl) rfl rfl rfl ?_)
  refine st rfl (o_y (v := .int .i64 (s.size : Int)) (y_k rfl rfl (fun _ => by kernel_rfl)) rfl rfl rfl ?_)
  refine st rfl (o_y (v := .bool (decide ((s.size : Int) > 200))) (y_k rfl rfl (fun _ => by kernel_rfl)) rfl rfl rfl ?_)
  refine st rfl (o_y (v := .bool (decide ((s.size : Int) > 200))) (y_as rfl) rfl rfl rfl ?_)
  refine s_nil ?_
  refine q_then ?_
  refine c_ret ?_
  refine c_fin (I' := []) [] [] rfl (.tmp rfl .nil) rfl rfl rfl ?_
  exact ⟨rfl, rfl, rfl⟩
theorem indexFunc_ (A : Option Addr) (c : Nat) (l : List ByteArray) (hs : small l) : Con Tryd.prog 44 [.slice A l.length c, .func (.func 39) #[] #[]] [] [rd strTy A c l] (fun v L' I' => ((items l) ∧ v = .int .i64 (-1) ∧ L' = [] ∧ I' = []) ∨ (∃ k : Nat, (¬ (items l)) ∧ v = .int .i64 (k : Int) ∧ L' = [] ∧ I' = [])) := by
  refine fn_of Tryd.func44 rfl Tryd.ntmps44 (by kernel_rfl) rfl (fun C => ?_)
  refine c_seq ?_
  refine c_region ?_
  refine st rfl (o_y (v := .int .i64 0) (y_as rfl) rfl rfl rfl ?_)
  refine s_nil ?_
  refine q_then ?_
  refine c_seq ?_
  refine c_seq ?_
  refine c_region ?_
  refine st rfl (o_y (v := .slice A l.length c) (y_mv rfl) rfl rfl rfl ?_)
  refine st rfl (o_y (v := .int .i64 (l.length : Int)) (y_k rfl rfl (fun _ => by kernel_rfl)) rfl rfl rfl ?_)
  refine st rfl (o_y (v := .int .i64 0) (y_mv rfl) rfl rfl rfl ?_)
  refine s_nil ?_
  refine q_then ?_
  refine c_block ?_
  refine c_loopn (ι := Nat) (fun k => (k ≤ l.length) ∧ (items (l.take k))) (fun k => [(0, .slice A l.length c), (1, .func (.func 39) #[] #[]), (7, .int .i64 (l.length : Int)), (8, .int .i64 (k : Int))]) (fun k => []) (fun k => [rd strTy A c l]) (fun k => l.length - k) (0) [] [0] (show (0 ≤ l.length) ∧ (items (l.take 0)) from ⟨by first | omega | simp_all | (simp; done), by simp [items]⟩) ((.cons rfl rfl (.cons rfl rfl (.cons rfl rfl (.cons rfl rfl .nil))))) rfl rfl ?_
  rintro k ⟨hk, hi⟩
  show Ent 19 C [(0, .slice A l.length c), (1, .func (.func 39) #[] #[]), (7, .int .i64 (l.length : Int)), (8, .int .i64 (k : Int))] [] [] [rd strTy A c l] _
  refine c_seq ?_
  refine c_region ?_
  refine e_by ((k : Int) < (l.length : Int)) (fun h1 => ?_) (fun h1 => ?_)
  ·
    refine st rfl (o_y (v := .bool true) (y_t (y_k (v := .bool (decide ((k : Int) < (l.length : Int)))) rfl rfl (fun _ => by kernel_rfl)) h1) rfl rfl rfl ?_)
    refine s_nil ?_
    refine q_then ?_
    refine c_seq ?_
    refine c_true rfl ?_
    refine c_skip ?_
    refine q_then ?_
    refine c_seq ?_
    refine c_block ?_
    refine c_seq ?_
    refine c_region ?_
    refine st rfl (o_y (v := .int .i64 (k : Int)) (y_mv rfl) rfl rfl rfl ?_)
    refine st rfl (o_y (v := .int .i64 (k : Int)) (y_as rfl) rfl rfl rfl ?_)
    refine s_nil ?_
    refine q_then ?_
    refine c_seq ?_
    refine c_region ?_
    refine st rfl (o_y (v := .func (.func 39) #[] #[]) (y_mv rfl) rfl rfl rfl ?_)
    refine st rfl (o_y (v := .slice A l.length c) (y_mv rfl) rfl rfl rfl ?_)
    refine st rfl (o_y (v := .int .i64 (k : Int)) (y_mv rfl) rfl rfl rfl ?_)
    refine e_at 0 k rfl (by first | omega | (simp only [List.length_append, List.length_map, List.length_take, List.length_drop]; omega)) (fun b1 o1 x1 hA1 hx1 => ?_)
    refine st rfl (o_y (v := .pointer (some ⟨b1, o1 + k * 1, none⟩)) (y_at (d := strTy) (l := l) k hA1 rfl rfl rfl (rfl) (List.getElem?_eq_some_iff.1 hx1).1 Tryd.underlying22 (by kernel_rfl) (by kernel_rfl)) rfl rfl rfl ?_)
    refine st rfl (o_ldf 0 0 rfl rfl rfl Tryd.underlying9 rfl rfl ?_)
    refine st rfl (o_call [] [] (isItem1_ x1) rfl rfl rfl rfl rfl rfl (fun v L' I' hq1 => ?_))
    obtain ⟨hv1, rfl, rfl⟩ := hq1
    refine e_by ((x1.size : Int) > 200) (fun h2 => ?_) (fun h2 => ?_)
    ·
      obtain rfl : v = .bool true := by rw [hv1, decide_eq_true h2]
      refine s_nil ?_
      refine q_then ?_
      refine c_true rfl ?_
      refine c_seq ?_
      refine c_region ?_
      refine st rfl (o_y (v := .int .i64 (k : Int)) (y_mv rfl) rfl rfl rfl ?_)
      refine st rfl (o_y (v := .int .i64 (k : Int)) (y_as rfl) rfl rfl rfl ?_)
      refine s_nil ?_
      refine q_then ?_
      refine c_ret ?_
      refine q_block_ret ?_
      refine q_then_ret ?_
      refine q_then_ret ?_
      refine q_block_ret ?_
      refine q_then_ret ?_
      refine c_fin (I' := []) [] [1] rfl (.tmp rfl .nil) rfl rfl rfl ?_
      exact .inr ⟨k, by first | (rw [List.take_of_length_le (by omega)] at hi; exact hi) | (intro hr; have := hr _ (List.mem_of_getElem? hx1); omega), rfl, rfl, rfl⟩
    ·
      obtain rfl : v = .bool false := by rw [hv1, decide_eq_false h2]
      refine s_nil ?_
      refine q_then ?_
      refine c_false rfl ?_
      refine c_skip ?_
      refine q_block ?_
      refine q_then ?_
      refine c_region ?_
      refine st rfl (o_y (v := .int .i64 ((k : Int) + 1)) (y_add (r := (k : Int) + 1) rfl rfl rfl (by have := hs.1; omega)) rfl rfl rfl ?_)
      refine st rfl (o_y (v := .int .i64 ((k : Int) + 1)) (y_mv rfl) rfl rfl rfl ?_)
      refine s_nil ?_
      refine q_then ?_
      refine c_next [] [1] (k + 1) ?_ ?_ ?_ (by rfl) (by rfl)
      · exact (show ((k + 1) ≤ l.length) ∧ (items (l.take (k + 1))) from ⟨by first | omega | simp_all | (simp; done), items_step hi hx1 (by omega)⟩)
      · show l.length - (k + 1) < l.length - k; omega
      · exact (.cons rfl rfl (.cons rfl rfl (.cons rfl rfl (.cons rfl (show (.int .i64 ((k : Int) + 1) : Value) = .int .i64 ((k + 1) : Int) from by first | rfl | (congr 1; omega) | (congr 1; simp; done) | (congr 1; simp; omega)) .nil))))
  ·
    refine st rfl (o_y (v := .bool false) (y_f (y_k (v := .bool (decide ((k : Int) < (l.length : Int)))) rfl rfl (fun _ => by kernel_rfl)) h1) rfl rfl rfl ?_)
    refine s_nil ?_
    refine q_then ?_
    refine c_seq ?_
    refine c_false rfl ?_
    refine c_exit ?_
    refine q_then_exit ?_
    refine q_then_exit ?_
    refine q_block_here ?_
    refine q_then ?_
    refine c_seq ?_
    refine c_region ?_
    refine st rfl (o_y (v := .int .i64 (-1)) (y_as rfl) rfl rfl rfl ?_)
    refine s_nil ?_
    refine q_then ?_
    refine c_ret ?_
    refine c_fin (I' := []) [] [0] rfl (.tmp rfl .nil) rfl rfl rfl ?_
    exact .inl ⟨by first | (rw [List.take_of_length_le (by omega)] at hi; exact hi) | (intro hr; have := hr _ (List.mem_of_getElem? hx1); omega), rfl, rfl, rfl⟩
theorem containsFunc_ (A : Option Addr) (c : Nat) (l : List ByteArray) (hs : small l) : Con Tryd.prog 40 [.slice A l.length c, .func (.func 39) #[] #[]] [] [rd strTy A c l] (fun v L' I' => v = .bool (decide (¬ (items l))) ∧ L' = [] ∧ I' = []) := by
  refine fn_of Tryd.func40 rfl Tryd.ntmps40 (by kernel_rfl) rfl (fun C => ?_)
  refine c_seq ?_
  refine c_region ?_
  refine st rfl (o_y (v := .bool false) (y_as rfl) rfl rfl rfl ?_)
  refine s_nil ?_
  refine q_then ?_
  refine c_seq ?_
  refine c_region ?_
  refine st rfl (o_y (v := .slice A l.length c) (y_mv rfl) rfl rfl rfl ?_)
  refine st rfl (o_y (v := .func (.func 39) #[] #[]) (y_mv rfl) rfl rfl rfl ?_)
  refine st rfl (o_call [] [0] (indexFunc_ A c l (by first | assumption | exact small_put _ _ _ | exact small_take _ _ | exact small_all _ _ _ | exact small_nil | exact small_right (by assumption) | exact small_one (small_at (by assumption) hx1) | exact small_one (by assumption))) rfl rfl rfl rfl rfl rfl (fun v L' I' hq1 => ?_))
  rcases hq1 with ⟨h1, rfl, rfl, rfl⟩ | ⟨k1, h2, rfl, rfl, rfl⟩
  ·
    refine st rfl (o_y (v := .bool false) (y_k rfl rfl (fun _ => by kernel_rfl)) rfl rfl rfl ?_)
    refine st rfl (o_y (v := .bool false) (y_as rfl) rfl rfl rfl ?_)
    refine s_nil ?_
    refine q_then ?_
    refine c_ret ?_
    refine c_fin (I' := []) [] [0] rfl (.tmp rfl .nil) rfl rfl rfl ?_
    exact ⟨by first | (show Value.bool _ = Value.bool _; congr 1; symm; first | exact decide_eq_true (by assumption) | exact decide_eq_false (by simpa using (by assumption))), rfl, rfl⟩
  ·
    have h3 : (k1 : Int) ≥ 0 := by omega
    refine st rfl (o_y (v := .bool true) (y_t (y_k (v := .bool (decide ((k1 : Int) ≥ 0))) rfl rfl (fun _ => by kernel_rfl)) h3) rfl rfl rfl ?_)
    refine st rfl (o_y (v := .bool true) (y_as rfl) rfl rfl rfl ?_)
    refine s_nil ?_
    refine q_then ?_
    refine c_ret ?_
    refine c_fin (I' := []) [] [0] rfl (.tmp rfl .nil) rfl rfl rfl ?_
    exact ⟨by first | (show Value.bool _ = Value.bool _; congr 1; symm; first | exact decide_eq_true (by assumption) | exact decide_eq_false (by simpa using (by assumption))), rfl, rfl⟩
theorem isItem_ (A : Option Addr) (c : Nat) (l : List ByteArray) (hs : small l) : Con Tryd.prog 36 [.slice A l.length c] [] [rd strTy A c l] (fun v L' I' => v = .bool (decide (items l)) ∧ L' = [] ∧ I' = []) := by
  refine fn_of Tryd.func36 rfl Tryd.ntmps36 (by kernel_rfl) rfl (fun C => ?_)
  refine c_seq ?_
  refine c_region ?_
  refine st rfl (o_y (v := .bool false) (y_as rfl) rfl rfl rfl ?_)
  refine s_nil ?_
  refine q_then ?_
  refine c_seq ?_
  refine c_region ?_
  refine st rfl (o_y (v := .func (.func 39) #[] #[]) (y_as rfl) rfl rfl rfl ?_)
  refine s_nil ?_
  refine q_then ?_
  refine c_seq ?_
  refine c_region ?_
  refine st rfl (o_y (v := .slice A l.length c) (y_mv rfl) rfl rfl rfl ?_)
  refine st rfl (o_y (v := .func (.func 39) #[] #[]) (y_mv rfl) rfl rfl rfl ?_)
  refine st rfl (o_call [] [0] (containsFunc_ A c l (by first | assumption | exact small_put _ _ _ | exact small_take _ _ | exact small_all _ _ _ | exact small_nil | exact small_right (by assumption) | exact small_one (small_at (by assumption) hx1) | exact small_one (by assumption))) rfl rfl rfl rfl rfl rfl (fun v L' I' hq1 => ?_))
  obtain ⟨rfl, rfl, rfl⟩ := hq1
  refine st rfl (o_y (v := .bool (!decide (¬ (items l)))) (y_not rfl) rfl rfl rfl ?_)
  refine st rfl (o_y (v := .bool (!decide (¬ (items l)))) (y_as rfl) rfl rfl rfl ?_)
  refine s_nil ?_
  refine q_then ?_
  refine c_ret ?_
  refine c_fin (I' := []) [] [0] rfl (.tmp rfl .nil) rfl rfl rfl ?_
  exact ⟨by simp [packed], rfl, rfl⟩
theorem sizes_ (b : Nat) : Con Tryd.prog 38 [.pointer (some ⟨b, 0, none⟩)] [] [] (fun v L' I' => ∃ k : Nat, v = .func (.func 43) #[] #[.pointer (some ⟨k, 0, none⟩)] ∧ L' = [pt k [.pointer (some ⟨b, 0, none⟩)] 44] ∧ I' = []) := by
  refine fn_of Tryd.func38 rfl Tryd.ntmps38 (by kernel_rfl) rfl (fun C => ?_)
  refine c_seq ?_
  refine c_region ?_
  refine st rfl (o_box (cs := [.pointer (some ⟨b, 0, none⟩)]) (T := 44) rfl rfl rfl rfl (fun _ => by kernel_rfl) (fun b1 => ?_))
  refine st rfl (o_y (v := .nilFunc) (y_as rfl) rfl rfl rfl ?_)
  refine s_nil ?_
  refine q_then ?_
  refine c_seq ?_
  refine c_region ?_
  refine st rfl (o_y (v := .func (.func 43) #[] #[.pointer (some ⟨b1, 0, none⟩)]) (y_k rfl rfl (fun _ => by kernel_rfl)) rfl rfl rfl ?_)
  refine st rfl (o_y (v := .func (.func 43) #[] #[.pointer (some ⟨b1, 0, none⟩)]) (y_as rfl) rfl rfl rfl ?_)
  refine s_nil ?_
  refine q_then ?_
  refine c_ret ?_
  refine c_fin (I' := []) [0] [] rfl (.tmp rfl .nil) rfl rfl rfl ?_
  exact ⟨b1, rfl, rfl, rfl⟩
end Go.Proofs.YtjcjbdhkajiaeaaDoor
