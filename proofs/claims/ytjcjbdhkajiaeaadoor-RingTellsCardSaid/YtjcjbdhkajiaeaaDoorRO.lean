/- Contracts of package ring, its reference and its laws, walked over the given program; no condition but what stands in each: part O. -/
import Derived.Test.YtjcjbdhkajiaeaaDoorRN
set_option linter.unusedVariables false
set_option linter.unusedSimpArgs false
set_option maxRecDepth 100000
namespace Go.Proofs.YtjcjbdhkajiaeaaDoor
open Go Go.Sl Go.RowKit Go.Extern.Stop Go.Stop Go.Extern

def cutS (s : ByteArray) : ByteArray := s.extract 0 (min s.size 210)
def fewL (l : List ByteArray) : List ByteArray := (l.take 40).map cutS
theorem cutS_size (s : ByteArray) : (cutS s).size ≤ 210 := by unfold cutS; rw [ByteArray.size_extract]; omega
theorem few_step {l : List ByteArray} {k : Nat} {x : ByteArray} (hx : l[k]? = some x) : (l.take (k + 1)).map cutS = (l.take k).map cutS ++ [cutS x] := by
  rw [List.take_add_one, hx]; simp
theorem few_end {l acc : List ByteArray} {k : Nat} (ha : acc = (l.take k).map cutS) (hk : k ≤ 40) (h : l.length ≤ k ∨ 40 ≤ k) : acc = fewL l := by
  subst ha; unfold fewL; congr 1; rcases h with h | h
  · rw [List.take_of_length_le h, List.take_of_length_le (by omega)]
  · rw [show k = 40 from by omega]
theorem fewL_len (l : List ByteArray) : (fewL l).length ≤ 40 := by unfold fewL; simp; omega
theorem fewL_small (l : List ByteArray) : small (fewL l) := ⟨by have := fewL_len l; omega, fun s hs => by
  obtain ⟨t, _, rfl⟩ := List.mem_map.1 hs
  have := cutS_size t; omega⟩
theorem cut_ (s : ByteArray) : Con Tryd.prog 11 [.string s] [] [] (fun v L' I' => ((cutS s).size ≤ 210) ∧ v = .string (cutS s) ∧ L' = [] ∧ I' = []) := by
  refine fn_of Tryd.func11 rfl Tryd.ntmps11 (by kernel_rfl) rfl (fun C => ?_)
  refine c_seq ?_
  refine c_region ?_
  refine st rfl (o_y (v := .string (⟨#[]⟩ : ByteArray)) (y_as rfl) rfl rfl rfl ?_)
  refine s_nil ?_
  refine q_then ?_
  refine c_seq ?_
  refine c_region ?_
  refine st rfl (o_y (v := .string s) (y_mv rfl) rfl rfl rfl ?_)
  refine st rfl (o_y (v := .string s) (y_mv rfl) rfl rfl rfl ?_)
  refine st rfl (o_y (v := .int .i64 (s.size : Int)) (y_k rfl rfl (fun _ => by kernel_rfl)) rfl rfl rfl ?_)
  refine st rfl (o_y (v := .int .i64 ((min s.size 210 : Nat) : Int)) (y_min2 s.size 210 rfl rfl) rfl rfl rfl ?_)
  refine st rfl (o_y (v := .string (s.extract 0 (min s.size 210))) (y_cuts 0 (min s.size 210) rfl .no (.at (min s.size 210) rfl (rfl)) Tryd.underlying9 (by omega) (by omega)) rfl rfl rfl ?_)
  refine st rfl (o_y (v := .string (s.extract 0 (min s.size 210))) (y_as rfl) rfl rfl rfl ?_)
  refine s_nil ?_
  refine q_then ?_
  refine c_ret ?_
  refine c_fin (I' := []) [] [] rfl (.tmp rfl .nil) rfl rfl rfl ?_
  exact ⟨cutS_size s, rfl, rfl, rfl⟩
theorem few_ (A : Option Addr) (c : Nat) (l : List ByteArray) : Con Tryd.prog 16 [.slice A l.length c] [] [rd strTy A c l] (fun v L' I' => ∃ A1 : Option Addr, ∃ c1 : Nat, (small (fewL l)) ∧ ((fewL l).length ≤ 40) ∧ v = .slice A1 (fewL l).length c1 ∧ L' = [ars strTy 9 A1 c1 (fewL l)] ∧ I' = []) := by
  refine fn_of Tryd.func16 rfl Tryd.ntmps16 (by kernel_rfl) rfl (fun C => ?_)
  refine c_seq ?_
  refine c_region ?_
  refine st rfl (o_y (v := .slice none 0 0) (y_as rfl) rfl rfl rfl ?_)
  refine s_nil ?_
  refine q_then ?_
  refine c_seq ?_
  refine c_region ?_
  refine st rfl (o_y (v := .slice none 0 0) (y_as rfl) rfl rfl rfl ?_)
  refine s_nil ?_
  refine q_then ?_
  refine c_seq ?_
  refine c_seq ?_
  refine c_region ?_
  refine st rfl (o_y (v := .int .i64 0) (y_as rfl) rfl rfl rfl ?_)
  refine s_nil ?_
  refine q_then ?_
  refine c_block ?_
  refine e_nil strTy 9 ?_
  refine c_loopn (ι := Nat × (Option Addr) × Nat × (List ByteArray)) (fun (k, a, cc, acc) => (k ≤ 40) ∧ (k ≤ l.length) ∧ (acc = (l.take k).map cutS)) (fun (k, a, cc, acc) => [(0, .slice A l.length c), (2, .slice none 0 0), (3, .slice a acc.length cc), (4, .int .i64 (k : Int))]) (fun (k, a, cc, acc) => [ars strTy 9 a cc acc]) (fun (k, a, cc, acc) => [rd strTy A c l]) (fun (k, a, cc, acc) => 40 - k) (0, none, 0, []) [0] [0] (show (0 ≤ 40) ∧ (0 ≤ l.length) ∧ ([] = (l.take 0).map cutS) from ⟨by first | omega | simp_all | (simp; done), by first | omega | simp_all | (simp; done), by first | omega | simp_all | (simp; done)⟩) ((.cons rfl rfl (.cons rfl rfl (.cons rfl (show (.slice none 0 0 : Value) = .slice none [].length 0 from by first | rfl | (congr 1; omega) | (congr 1; simp; done) | (congr 1; simp; omega)) (.cons rfl rfl .nil))))) rfl rfl ?_
  rintro ⟨k, a, cc, acc⟩ ⟨hk, hl, ha⟩
  show Ent 24 C [(0, .slice A l.length c), (2, .slice none 0 0), (3, .slice a acc.length cc), (4, .int .i64 (k : Int))] [] [ars strTy 9 a cc acc] [rd strTy A c l] _
  refine c_seq ?_
  refine c_seq ?_
  refine c_region ?_
  refine st rfl (o_y (v := .int .i64 (k : Int)) (y_mv rfl) rfl rfl rfl ?_)
  refine st rfl (o_y (v := .slice A l.length c) (y_mv rfl) rfl rfl rfl ?_)
  refine st rfl (o_y (v := .int .i64 (l.length : Int)) (y_k rfl rfl (fun _ => by kernel_rfl)) rfl rfl rfl ?_)
  refine e_by ((k : Int) < (l.length : Int)) (fun h1 => ?_) (fun h1 => ?_)
  ·
    refine st rfl (o_y (v := .bool true) (y_t (y_k (v := .bool (decide ((k : Int) < (l.length : Int)))) rfl rfl (fun _ => by kernel_rfl)) h1) rfl rfl rfl ?_)
    refine st rfl (o_y (v := .bool true) (y_mv rfl) rfl rfl rfl ?_)
    refine st_on 9 rfl rfl rfl (o_y (v := .int .i64 (k : Int)) (y_mv rfl) rfl rfl rfl ?_)
    refine e_by ((k : Int) < 40) (fun h2 => ?_) (fun h2 => ?_)
    ·
      refine st_on 9 rfl rfl rfl (o_y (v := .bool true) (y_t (y_k (v := .bool (decide ((k : Int) < 40))) rfl rfl (fun _ => by kernel_rfl)) h2) rfl rfl rfl ?_)
      refine st rfl (o_y (v := .bool true) (y_pick rfl rfl) rfl rfl rfl ?_)
      refine s_nil ?_
      refine q_then ?_
      refine c_true rfl ?_
      refine c_skip ?_
      refine q_then ?_
      refine c_seq ?_
      refine c_block ?_
      refine c_region ?_
      refine st rfl (o_y (v := .slice a acc.length cc) (y_mv rfl) rfl rfl rfl ?_)
      refine st rfl (o_y (v := .slice A l.length c) (y_mv rfl) rfl rfl rfl ?_)
      refine st rfl (o_y (v := .int .i64 (k : Int)) (y_mv rfl) rfl rfl rfl ?_)
      refine e_at 0 k rfl (by first | omega | (simp only [List.length_append, List.length_map, List.length_take, List.length_drop]; omega)) (fun b1 o1 x1 hA1 hx1 => ?_)
      refine st rfl (o_y (v := .pointer (some ⟨b1, o1 + k * 1, none⟩)) (y_at (d := strTy) (l := l) k hA1 rfl rfl rfl (rfl) (List.getElem?_eq_some_iff.1 hx1).1 Tryd.underlying22 (by kernel_rfl) (by kernel_rfl)) rfl rfl rfl ?_)
      refine st rfl (o_ldf 0 0 rfl rfl rfl Tryd.underlying9 rfl rfl ?_)
      refine st rfl (o_call [] [] (cut_ x1) rfl rfl rfl rfl rfl rfl (fun v L' I' hq1 => ?_))
      obtain ⟨h3, rfl, rfl, rfl⟩ := hq1
      refine st rfl (o_lit (cs := [.string (cutS x1)]) (T := 9) (m := 1) rfl rfl rfl rfl (fun _ => by kernel_rfl) (fun b2 => ?_))
      refine st rfl (o_app (l := acc) (us := [cutS x1]) 1 rfl rfl rfl rfl rfl (src_pt 0 rfl) Tryd.underlying22 (elem_of (z := .string (⟨#[]⟩ : ByteArray)) (sz := 1) (bytes := 16) (by kernel_rfl) rfl) rfl (by simp only [ha, List.length_map, List.length_take, List.length_cons, List.length_nil]; omega) rfl rfl (fun A1 c1 => ?_))
      refine st rfl (o_y (v := .slice A1 (acc ++ [cutS x1]).length c1) (y_as rfl) rfl rfl rfl ?_)
      refine s_nil ?_
      refine q_block ?_
      refine q_then ?_
      refine c_region ?_
      refine st rfl (o_y (v := .int .i64 (k : Int)) (y_mv rfl) rfl rfl rfl ?_)
      refine st rfl (o_y (v := .int .i64 ((k : Int) + 1)) (y_add (r := (k : Int) + 1) rfl rfl rfl (by omega)) rfl rfl rfl ?_)
      refine st rfl (o_y (v := .int .i64 ((k : Int) + 1)) (y_as rfl) rfl rfl rfl ?_)
      refine s_nil ?_
      refine q_then ?_
      refine c_next [1] [1] (k + 1, A1, c1, acc ++ [cutS x1]) ?_ ?_ ?_ (by rfl) (by rfl)
      · exact (show ((k + 1) ≤ 40) ∧ ((k + 1) ≤ l.length) ∧ ((acc ++ [cutS x1]) = (l.take (k + 1)).map cutS) from ⟨by first | omega | simp_all | (simp; done), by first | omega | simp_all | (simp; done), by rw [ha]; exact (few_step hx1).symm⟩)
      · show 40 - (k + 1) < 40 - k; omega
      · exact (.cons rfl rfl (.cons rfl rfl (.cons rfl rfl (.cons rfl (show (.int .i64 ((k : Int) + 1) : Value) = .int .i64 ((k + 1) : Int) from by first | rfl | (congr 1; omega) | (congr 1; simp; done) | (congr 1; simp; omega)) .nil))))
    ·
      refine st_on 9 rfl rfl rfl (o_y (v := .bool false) (y_f (y_k (v := .bool (decide ((k : Int) < 40))) rfl rfl (fun _ => by kernel_rfl)) h2) rfl rfl rfl ?_)
      refine st rfl (o_y (v := .bool false) (y_pick rfl rfl) rfl rfl rfl ?_)
      refine s_nil ?_
      refine q_then ?_
      refine c_false rfl ?_
      refine c_exit ?_
      refine q_then_exit ?_
      refine q_then_exit ?_
      refine q_block_here ?_
      refine q_then ?_
      refine c_seq ?_
      refine c_region ?_
      refine st rfl (o_y (v := .slice a acc.length cc) (y_mv rfl) rfl rfl rfl ?_)
      refine st rfl (o_y (v := .slice a acc.length cc) (y_as rfl) rfl rfl rfl ?_)
      refine s_nil ?_
      refine q_then ?_
      refine c_ret ?_
      obtain rfl : acc = fewL l := few_end (by assumption) (by assumption) (by first | (left; omega) | (right; omega))
      refine c_fin (I' := []) [0] [0] rfl (.tmp rfl .nil) rfl rfl rfl ?_
      exact ⟨a, cc, fewL_small l, fewL_len l, rfl, rfl, rfl⟩
  ·
    refine st rfl (o_y (v := .bool false) (y_f (y_k (v := .bool (decide ((k : Int) < (l.length : Int)))) rfl rfl (fun _ => by kernel_rfl)) h1) rfl rfl rfl ?_)
    refine st rfl (o_y (v := .bool false) (y_mv rfl) rfl rfl rfl ?_)
    refine st_off 9 rfl rfl rfl rfl rfl rfl ?_
    refine st_off 9 rfl rfl rfl rfl rfl rfl ?_
    refine st rfl (o_y (v := .bool false) (y_pick rfl rfl) rfl rfl rfl ?_)
    refine s_nil ?_
    refine q_then ?_
    refine c_false rfl ?_
    refine c_exit ?_
    refine q_then_exit ?_
    refine q_then_exit ?_
    refine q_block_here ?_
    refine q_then ?_
    refine c_seq ?_
    refine c_region ?_
    refine st rfl (o_y (v := .slice a acc.length cc) (y_mv rfl) rfl rfl rfl ?_)
    refine st rfl (o_y (v := .slice a acc.length cc) (y_as rfl) rfl rfl rfl ?_)
    refine s_nil ?_
    refine q_then ?_
    refine c_ret ?_
    obtain rfl : acc = fewL l := few_end (by assumption) (by assumption) (by first | (left; omega) | (right; omega))
    refine c_fin (I' := []) [0] [0] rfl (.tmp rfl .nil) rfl rfl rfl ?_
    exact ⟨a, cc, fewL_small l, fewL_len l, rfl, rfl, rfl⟩
theorem Few_ (A : Option Addr) (c : Nat) (l : List ByteArray) (max : Int) : Con Tryd.prog 10 [.agg #[.int .i64 max, .slice A l.length c]] [] [rd strTy A c l] (fun v L' I' => ∃ A1 : Option Addr, ∃ c1 : Nat, (small (fewL l)) ∧ ((fewL l).length ≤ 40) ∧ v = .agg #[.int .i64 max, .slice A1 (fewL l).length c1] ∧ L' = [ars strTy 9 A1 c1 (fewL l)] ∧ I' = []) := by
  refine fn_of Tryd.func10 rfl Tryd.ntmps10 (by kernel_rfl) rfl (fun C => ?_)
  refine c_seq ?_
  refine c_region ?_
  refine st rfl (o_box (cs := [.int .i64 max, .slice A l.length c]) (T := 24) rfl rfl rfl rfl (fun _ => by kernel_rfl) (fun b1 => ?_))
  refine st rfl (o_box (cs := [.int .i64 0, .slice none 0 0]) (T := 24) rfl rfl rfl rfl (fun _ => by kernel_rfl) (fun b2 => ?_))
  refine s_nil ?_
  refine q_then ?_
  refine c_seq ?_
  refine c_draw (l := ticked 7 0) [(⟨b1, 0, none⟩, .int .i64 max), (⟨b1, 1, none⟩, .slice A l.length c)] [] (by kernel_rfl) rfl rfl ?_
  refine a_y (i := 0) (v := .pointer (some ⟨b1, 0, none⟩)) (ticked 7 1) rfl (by kernel_rfl) rfl rfl rfl (by exact y_k rfl rfl (fun _ => by kernel_rfl)) ?_
  refine a_y (i := 2) (v := .pointer (some ⟨b1, 1, none⟩)) (ticked 7 5) rfl (by kernel_rfl) rfl rfl rfl (by exact y_k rfl rfl (fun _ => by kernel_rfl)) ?_
  refine a_held (i := 1) (ticked 7 7) rfl (by kernel_rfl) rfl rfl rfl (held_pt 1 rfl rfl (held_pt 1 rfl rfl held_nil)) (h_ld 0 rfl rfl Tryd.underlying3 rfl) ?_
  refine a_held (i := 3) (ticked 7 15) rfl (by kernel_rfl) rfl rfl rfl (held_pt 1 rfl rfl (held_pt 1 rfl rfl held_nil)) (h_ld 1 rfl rfl Tryd.underlying22 rfl) ?_
  refine a_each (rs := [4]) (by kernel_rfl) (.cons (ticked 7 31) rfl rfl rfl (o_call [] [0] (few_ A c l) rfl rfl rfl rfl rfl rfl (fun v L' I' hq1 => ?_)) .nil) (List.cons_ne_nil _ _)
  obtain ⟨A1, c1, h1, h2, rfl, rfl, rfl⟩ := hq1
  refine a_and (held_pt 2 rfl rfl (held_pt 2 rfl rfl held_nil)) ?_
  refine a_y (i := 5) (v := .agg #[.int .i64 max, .slice A1 (fewL l).length c1]) (ticked 7 63) rfl (by kernel_rfl) rfl rfl rfl (by exact y_k rfl rfl (fun _ => by kernel_rfl)) ?_
  refine a_each (rs := [6]) (by kernel_rfl) (.cons (ticked 7 127) rfl rfl rfl (o_st 1 rfl rfl rfl rfl rfl (by kernel_rfl) (by kernel_rfl) rfl ?_) .nil) (List.cons_ne_nil _ _)
  refine a_and (held_pt 2 rfl rfl (held_pt 2 rfl rfl held_nil)) ?_
  refine a_done (by kernel_rfl) ?_
  refine q_then ?_
  refine c_ret ?_
  refine c_fin (I' := []) [0] [0] rfl (.agg 1 2 rfl rfl rfl rfl Tryd.underlying24 rfl (by kernel_rfl) (by kernel_rfl) .nil) rfl rfl rfl ?_
  exact ⟨A1, c1, h1, h2, rfl, rfl, rfl⟩
end Go.Proofs.YtjcjbdhkajiaeaaDoor
