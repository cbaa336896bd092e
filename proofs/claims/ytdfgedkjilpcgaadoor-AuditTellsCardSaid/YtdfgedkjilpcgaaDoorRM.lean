/- The six laws of chapter 18 (audit), walked over the given program; no condition but what stands in each theorem: part M. -/
import Derived.Test.YtdfgedkjilpcgaaDoorRD
set_option linter.unusedVariables false
set_option linter.unusedSimpArgs false
set_option maxRecDepth 100000
set_option maxHeartbeats 8000000
namespace Go.Proofs.YtdfgedkjilpcgaaDoor
open Go Go.Sl Go.RowKit Go.Extern.Stop Go.Stop Go.Extern Go.Shelf
theorem seen1_ (x : Rec) (k : Nat) (a : Lab) : Con Tryd.prog 38 [.agg #[.int .i64 x.st, .int .i64 x.who, .int .i64 x.op, .int .i64 x.e, .int .i64 x.lab.lv, .int .u64 (x.lab.cs : Int), .int .i64 x.lab.ig], .pointer (some ⟨k, 0, none⟩)] [] [cellsAt k 0 [.int .i64 a.lv, .int .u64 (a.cs : Int), .int .i64 a.ig]] (fun v L' I' => v = .bool (decide (¬ (labUnder x.lab a))) ∧ L' = [] ∧ I' = []) := by
  refine fn_of Tryd.func38 rfl Tryd.ntmps38 (by kernel_rfl) rfl (fun C => ?_)
  refine c_seq ?_
  refine c_region ?_
  refine st rfl (o_box (cs := [.int .i64 x.st, .int .i64 x.who, .int .i64 x.op, .int .i64 x.e, .int .i64 x.lab.lv, .int .u64 (x.lab.cs : Int), .int .i64 x.lab.ig]) (T := 28) rfl rfl rfl rfl (fun _ => by kernel_rfl) (fun b1 => ?_))
  refine st rfl (o_y (v := .bool false) (y_as rfl) rfl rfl rfl ?_)
  refine s_nil ?_
  refine q_then ?_
  refine c_seq ?_
  refine c_region ?_
  refine st rfl (o_y (v := .pointer (some ⟨b1, 4, none⟩)) (y_k rfl rfl (fun _ => by kernel_rfl)) rfl rfl rfl ?_)
  refine st rfl (o_ldn 0 3 rfl rfl rfl rfl Tryd.underlying26 rfl (by kernel_rfl) (by kernel_rfl) rfl ?_)
  refine st rfl (o_ldnf 0 0 3 rfl rfl rfl rfl Tryd.underlying26 rfl (by kernel_rfl) (by kernel_rfl) rfl ?_)
  refine st rfl (o_call [] [] (under_ x.lab a) rfl rfl rfl rfl rfl rfl (fun v L' I' hq1 => ?_))
  obtain ⟨hv1, rfl, rfl⟩ := hq1
  refine e_by (labUnder x.lab a) (fun h1 => ?_) (fun h1 => ?_)
  ·
    obtain rfl : v = .bool true := by rw [hv1, decide_eq_true h1]
    refine st rfl (o_y (v := .bool false) (y_k rfl rfl (fun _ => by kernel_rfl)) rfl rfl rfl ?_)
    refine st rfl (o_y (v := .bool false) (y_as rfl) rfl rfl rfl ?_)
    refine s_nil ?_
    refine q_then ?_
    refine c_ret ?_
    refine c_fin (I' := []) [] [0] rfl (.tmp rfl .nil) rfl rfl rfl ?_
    exact ⟨by show Value.bool _ = Value.bool _; congr 1; symm; first | exact decide_eq_true (by first | assumption | (intro hh; exact hh (by assumption))) | exact decide_eq_false (by first | assumption | (intro hh; exact hh (by assumption))), rfl, rfl⟩
  ·
    obtain rfl : v = .bool false := by rw [hv1, decide_eq_false h1]
    refine st rfl (o_y (v := .bool true) (y_k rfl rfl (fun _ => by kernel_rfl)) rfl rfl rfl ?_)
    refine st rfl (o_y (v := .bool true) (y_as rfl) rfl rfl rfl ?_)
    refine s_nil ?_
    refine q_then ?_
    refine c_ret ?_
    refine c_fin (I' := []) [] [0] rfl (.tmp rfl .nil) rfl rfl rfl ?_
    exact ⟨by show Value.bool _ = Value.bool _; congr 1; symm; first | exact decide_eq_true (by first | assumption | (intro hh; exact hh (by assumption))) | exact decide_eq_false (by first | assumption | (intro hh; exact hh (by assumption))), rfl, rfl⟩
theorem clone_ (A : Option Addr) (c : Nat) (l : List Rec) (hs : l.length ≤ 1000000) : Con Tryd.prog 40 [.slice A l.length c] [] [rd recTy A c l] (fun v L' I' => ∃ A1 : Option Addr, ∃ c1 : Nat, v = .slice A1 l.length c1 ∧ L' = [ars recTy 28 A1 c1 l] ∧ I' = []) := by
  refine fn_of Tryd.func40 rfl Tryd.ntmps40 (by kernel_rfl) rfl (fun C => ?_)
  refine c_seq ?_
  refine c_region ?_
  refine st rfl (o_y (v := .slice none 0 0) (y_as rfl) rfl rfl rfl ?_)
  refine s_nil ?_
  refine q_then ?_
  refine c_seq ?_
  refine c_seq ?_
  refine c_region ?_
  refine st rfl (o_y (v := .slice A l.length c) (y_mv rfl) rfl rfl rfl ?_)
  refine e_by (A = none) (fun h1 => ?_) (fun h1 => ?_)
  ·
    refine st rfl (o_y (v := .bool true) (y_t (y_slnil rfl rfl Tryd.underlying22) h1) rfl rfl rfl ?_)
    refine s_nil ?_
    refine q_then ?_
    refine c_true rfl ?_
    refine c_seq ?_
    refine c_region ?_
    refine st rfl (o_y (v := .slice none 0 0) (y_as rfl) rfl rfl rfl ?_)
    refine s_nil ?_
    refine q_then ?_
    refine c_ret ?_
    refine q_then_ret ?_
    refine e_rdn 0 rfl (by assumption) (fun hnil => ?_)
    subst hnil
    refine e_nil recTy 28 ?_
    refine c_fin (I' := []) [0] [0] rfl (.tmp rfl .nil) rfl rfl rfl ?_
    exact ⟨none, 0, rfl, rfl, rfl⟩
  ·
    refine st rfl (o_y (v := .bool false) (y_f (y_slnil rfl rfl Tryd.underlying22) h1) rfl rfl rfl ?_)
    refine s_nil ?_
    refine q_then ?_
    refine c_false rfl ?_
    refine c_skip ?_
    refine q_then ?_
    refine c_seq ?_
    refine c_region ?_
    refine st rfl (o_lit (cs := []) (T := 28) (m := 0) rfl rfl rfl rfl (fun _ => by kernel_rfl) (fun b1 => ?_))
    refine st rfl (o_y (v := .slice A l.length c) (y_mv rfl) rfl rfl rfl ?_)
    refine e_weak 0 rfl (fun _ h => ars_lit0 (d := recTy) _ h) ?_
    refine st rfl (o_app (l := ([] : List Rec)) (us := l) 0 rfl rfl rfl rfl rfl (src_rd 0 rfl) Tryd.underlying22 (elem_of (z := .agg #[.int .i64 0, .int .i64 0, .int .i64 0, .int .i64 0, .int .i64 0, .int .u64 0, .int .i64 0]) (sz := 7) (bytes := 56) (by kernel_rfl) rfl) rfl (by first | omega | (simp only [List.length_append, List.length_map, List.length_take, List.length_drop, List.length_cons, List.length_nil]; omega)) rfl rfl (fun A1 c1 => ?_))
    refine st rfl (o_y (v := .slice A1 l.length c1) (y_as rfl) rfl rfl rfl ?_)
    refine s_nil ?_
    refine q_then ?_
    refine c_ret ?_
    refine c_fin (I' := []) [0] [0] rfl (.tmp rfl .nil) rfl rfl rfl ?_
    exact ⟨A1, c1, rfl, rfl, rfl⟩
theorem indexFunc_ (A : Option Addr) (c : Nat) (l : List Rec) (k : Nat) (a : Lab) (hs : l.length ≤ 1000000) : Con Tryd.prog 53 [.slice A l.length c, .func (.func 38) #[] #[.pointer (some ⟨k, 0, none⟩)]] [] [rd recTy A c l, cellsAt k 0 [.int .i64 a.lv, .int .u64 (a.cs : Int), .int .i64 a.ig]] (fun v L' I' => ((∀ y ∈ l, labUnder y.lab a) ∧ v = .int .i64 (-1) ∧ L' = [] ∧ I' = []) ∨ (∃ i : Nat, (i < l.length) ∧ (∀ y ∈ l.take i, labUnder y.lab a) ∧ (∃ x, l[i]? = some x ∧ ¬ labUnder x.lab a) ∧ v = .int .i64 (i : Int) ∧ L' = [] ∧ I' = [])) := by
  refine fn_of Tryd.func53 rfl Tryd.ntmps53 (by kernel_rfl) rfl (fun C => ?_)
  refine c_seq ?_
  refine c_region ?_
  refine st rfl (o_y (v := .int .i64 0) (y_as rfl) rfl rfl rfl ?_)
  refine s_nil ?_
  refine q_then ?_
  refine c_seq ?_
  refine c_seq ?_
  refine c_region ?_
  refine st rfl (o_y (v := .slice A l.length c) (y_mv rfl) rfl rfl rfl ?_)
  refine st rfl (o_y (v := .int .i64 (l.length : Int)) (y_k rfl rfl (fun _ => by kernel_rfl)) rfl rfl rfl ?_)
  refine st rfl (o_y (v := .int .i64 0) (y_mv rfl) rfl rfl rfl ?_)
  refine s_nil ?_
  refine q_then ?_
  refine c_block ?_
  refine c_loopn (ι := Nat) (fun i => (i ≤ l.length) ∧ (∀ y ∈ l.take i, labUnder y.lab a)) (fun i => [(0, .slice A l.length c), (1, .func (.func 38) #[] #[.pointer (some ⟨k, 0, none⟩)]), (7, .int .i64 (l.length : Int)), (8, .int .i64 (i : Int))]) (fun i => []) (fun i => [rd recTy A c l, cellsAt k 0 [.int .i64 a.lv, .int .u64 (a.cs : Int), .int .i64 a.ig]]) (fun i => l.length - i) (0) [] [0, 1] (show (0 ≤ l.length) ∧ (∀ y ∈ l.take 0, labUnder y.lab a) from ⟨by first | omega | simp_all | (simp; done), by simp⟩) ((.cons rfl rfl (.cons rfl rfl (.cons rfl rfl (.cons rfl rfl .nil))))) rfl rfl ?_
  rintro i ⟨hk, hi⟩
  show Ent 19 C [(0, .slice A l.length c), (1, .func (.func 38) #[] #[.pointer (some ⟨k, 0, none⟩)]), (7, .int .i64 (l.length : Int)), (8, .int .i64 (i : Int))] [] [] [rd recTy A c l, cellsAt k 0 [.int .i64 a.lv, .int .u64 (a.cs : Int), .int .i64 a.ig]] _
  refine c_seq ?_
  refine c_region ?_
  refine e_by ((i : Int) < (l.length : Int)) (fun h1 => ?_) (fun h1 => ?_)
  ·
    refine st rfl (o_y (v := .bool true) (y_t (y_k (v := .bool (decide ((i : Int) < (l.length : Int)))) rfl rfl (fun _ => by kernel_rfl)) h1) rfl rfl rfl ?_)
    refine s_nil ?_
    refine q_then ?_
    refine c_seq ?_
    refine c_true rfl ?_
    refine c_skip ?_
    refine q_then ?_
    refine c_seq ?_
    refine c_block ?_
    refine c_seq ?_
    refine c_region ?_
    refine st rfl (o_y (v := .int .i64 (i : Int)) (y_mv rfl) rfl rfl rfl ?_)
    refine st rfl (o_y (v := .int .i64 (i : Int)) (y_as rfl) rfl rfl rfl ?_)
    refine s_nil ?_
    refine q_then ?_
    refine c_seq ?_
    refine c_region ?_
    refine st rfl (o_y (v := .func (.func 38) #[] #[.pointer (some ⟨k, 0, none⟩)]) (y_mv rfl) rfl rfl rfl ?_)
    refine st rfl (o_y (v := .slice A l.length c) (y_mv rfl) rfl rfl rfl ?_)
    refine st rfl (o_y (v := .int .i64 (i : Int)) (y_mv rfl) rfl rfl rfl ?_)
    refine e_at 0 i rfl (by first | omega | (simp only [List.length_append, List.length_map, List.length_take, List.length_drop]; omega)) (fun b1 o1 x1 hA1 hx1 => ?_)
    refine st rfl (o_y (v := .pointer (some ⟨b1, o1 + i * 7, none⟩)) (y_at (d := recTy) (l := l) i hA1 rfl rfl rfl (rfl) (List.getElem?_eq_some_iff.1 hx1).1 Tryd.underlying22 (by kernel_rfl) (by kernel_rfl)) rfl rfl rfl ?_)
    refine st rfl (o_ldnf 0 0 7 rfl rfl rfl rfl Tryd.underlying28 rfl (by kernel_rfl) (by kernel_rfl) rfl ?_)
    refine st rfl (o_call [] [2] (seen1_ x1 k a) rfl rfl rfl rfl rfl rfl (fun v L' I' hq1 => ?_))
    obtain ⟨hv1, rfl, rfl⟩ := hq1
    refine e_by (¬ (labUnder x1.lab a)) (fun h2 => ?_) (fun h2 => ?_)
    ·
      obtain rfl : v = .bool true := by rw [hv1, decide_eq_true h2]
      refine s_nil ?_
      refine q_then ?_
      refine c_true rfl ?_
      refine c_seq ?_
      refine c_region ?_
      refine st rfl (o_y (v := .int .i64 (i : Int)) (y_mv rfl) rfl rfl rfl ?_)
      refine st rfl (o_y (v := .int .i64 (i : Int)) (y_as rfl) rfl rfl rfl ?_)
      refine s_nil ?_
      refine q_then ?_
      refine c_ret ?_
      refine q_block_ret ?_
      refine q_then_ret ?_
      refine q_then_ret ?_
      refine q_block_ret ?_
      refine q_then_ret ?_
      refine c_fin (I' := []) [] [1, 2] rfl (.tmp rfl .nil) rfl rfl rfl ?_
      exact .inr ⟨i, by omega, by first | exact all_end hi (by omega) | exact hi, ⟨_, hx1, by assumption⟩, rfl, rfl, rfl⟩
    ·
      obtain rfl : v = .bool false := by rw [hv1, decide_eq_false h2]
      refine s_nil ?_
      refine q_then ?_
      refine c_false rfl ?_
      refine c_skip ?_
      refine q_block ?_
      refine q_then ?_
      refine c_region ?_
      refine st rfl (o_y (v := .int .i64 ((i : Int) + 1)) (y_add (r := (i : Int) + 1) rfl rfl rfl (by omega)) rfl rfl rfl ?_)
      refine st rfl (o_y (v := .int .i64 ((i : Int) + 1)) (y_mv rfl) rfl rfl rfl ?_)
      refine s_nil ?_
      refine q_then ?_
      refine c_next [] [1, 2] (i + 1) ?_ ?_ ?_ (by rfl) (by rfl)
      · exact (show ((i + 1) ≤ l.length) ∧ (∀ y ∈ l.take (i + 1), labUnder y.lab a) from ⟨by first | omega | simp_all | (simp; done), all_step hi hx1 (by first | assumption | exact Classical.not_not.1 (by assumption))⟩)
      · show l.length - (i + 1) < l.length - i; omega
      · exact (.cons rfl rfl (.cons rfl rfl (.cons rfl rfl (.cons rfl (show (.int .i64 ((i : Int) + 1) : Value) = .int .i64 ((i + 1) : Int) from by first | rfl | (congr 1; omega) | (congr 1; simp; done) | (congr 1; simp; omega)) .nil))))
  ·
    refine st rfl (o_y (v := .bool false) (y_f (y_k (v := .bool (decide ((i : Int) < (l.length : Int)))) rfl rfl (fun _ => by kernel_rfl)) h1) rfl rfl rfl ?_)
    refine s_nil ?_
    refine q_then ?_
    refine c_seq ?_
    refine c_false rfl ?_
    refine c_exit ?_
    refine q_then_exit ?_
    refine q_then_exit ?_
    refine q_block_here ?_
    refine q_then ?_
    refine c_seq ?_
    refine c_region ?_
    refine st rfl (o_y (v := .int .i64 (-1)) (y_as rfl) rfl rfl rfl ?_)
    refine s_nil ?_
    refine q_then ?_
    refine c_ret ?_
    refine c_fin (I' := []) [] [0, 1] rfl (.tmp rfl .nil) rfl rfl rfl ?_
    exact .inl ⟨by first | exact all_end hi (by omega) | exact hi, rfl, rfl, rfl⟩
theorem deleteFunc_ (A : Option Addr) (c : Nat) (l : List Rec) (k : Nat) (a : Lab) (hs : l.length ≤ 1000000) : Con Tryd.prog 39 [.slice A l.length c, .func (.func 38) #[] #[.pointer (some ⟨k, 0, none⟩)]] [ars recTy 28 A c l] [cellsAt k 0 [.int .i64 a.lv, .int .u64 (a.cs : Int), .int .i64 a.ig]] (fun v L' I' => ∃ A1 : Option Addr, ∃ c1 : Nat, v = .slice A1 (seenF a l).length c1 ∧ L' = [win recTy 28 A1 c1 (seenF a l)] ∧ I' = []) := by
  refine fn_of Tryd.func39 rfl Tryd.ntmps39 (by kernel_rfl) rfl (fun C => ?_)
  refine c_seq ?_
  refine c_region ?_
  refine st rfl (o_y (v := .slice none 0 0) (y_as rfl) rfl rfl rfl ?_)
  refine s_nil ?_
  refine q_then ?_
  refine c_seq ?_
  refine c_region ?_
  refine st rfl (o_y (v := .slice A l.length c) (y_mv rfl) rfl rfl rfl ?_)
  refine st rfl (o_y (v := .func (.func 38) #[] #[.pointer (some ⟨k, 0, none⟩)]) (y_mv rfl) rfl rfl rfl ?_)
  refine st rfl (o_lend [0] [] [0] (indexFunc_ A c l k a (by first | assumption | omega | (simp; done) | (simp; omega))) (.cons lend_ars .nil) rfl rfl rfl rfl rfl rfl rfl rfl (fun v L' I' hq1 => ?_))
  rcases hq1 with ⟨h1, rfl, rfl, rfl⟩ | ⟨i1, h2, h3, h4, rfl, rfl, rfl⟩
  ·
    refine ⟨rfl, ?_⟩
    refine st rfl (o_y (v := .int .i64 (-1)) (y_as rfl) rfl rfl rfl ?_)
    refine s_nil ?_
    refine q_then ?_
    refine c_seq ?_
    refine c_seq ?_
    refine c_region ?_
    refine st rfl (o_y (v := .int .i64 (-1)) (y_mv rfl) rfl rfl rfl ?_)
    refine st rfl (o_y (v := .bool true) (y_k rfl rfl (fun _ => by kernel_rfl)) rfl rfl rfl ?_)
    refine s_nil ?_
    refine q_then ?_
    refine c_true rfl ?_
    refine c_seq ?_
    refine c_region ?_
    refine st rfl (o_y (v := .slice A l.length c) (y_mv rfl) rfl rfl rfl ?_)
    refine st rfl (o_y (v := .slice A l.length c) (y_as rfl) rfl rfl rfl ?_)
    refine s_nil ?_
    refine q_then ?_
    refine c_ret ?_
    refine q_then_ret ?_
    refine e_weak 0 rfl (fun _ h => h.win) ?_
    have hp : seenF a l = l := by exact seen_all (by assumption)
    refine c_fin (I' := []) [0] [0] rfl (.tmp rfl .nil) rfl rfl rfl ?_
    rw [hp]
    exact ⟨_, _, rfl, rfl, rfl⟩
  ·
    refine ⟨rfl, ?_⟩
    refine st rfl (o_y (v := .int .i64 (i1 : Int)) (y_as rfl) rfl rfl rfl ?_)
    refine s_nil ?_
    refine q_then ?_
    refine c_seq ?_
    refine c_seq ?_
    refine c_region ?_
    refine st rfl (o_y (v := .int .i64 (i1 : Int)) (y_mv rfl) rfl rfl rfl ?_)
    have h5 : ¬ ((i1 : Int) = (-1)) := by omega
    refine st rfl (o_y (v := .bool false) (y_b (y_k (v := .bool ((i1 : Int) == (-1))) rfl rfl (fun _ => by kernel_rfl)) (beq_eq_false_iff_ne.2 h5)) rfl rfl rfl ?_)
    refine s_nil ?_
    refine q_then ?_
    refine c_false rfl ?_
    refine c_skip ?_
    refine q_then ?_
    refine c_seq ?_
    refine c_seq ?_
    refine c_region ?_
    refine st rfl (o_y (v := .int .i64 (i1 : Int)) (y_mv rfl) rfl rfl rfl ?_)
    refine st rfl (o_y (v := .int .i64 ((i1 : Int) + 1)) (y_add (r := (i1 : Int) + 1) rfl rfl rfl (by omega)) rfl rfl rfl ?_)
    refine st rfl (o_y (v := .int .i64 ((i1 : Int) + 1)) (y_as rfl) rfl rfl rfl ?_)
    refine s_nil ?_
    refine q_then ?_
    refine c_block ?_
    refine e_weak 0 rfl (fun _ h => h.win) ?_
    refine c_loopn (ι := Nat × Nat × (List Rec)) (fun (i, j, m) => (i < j) ∧ (j ≤ l.length) ∧ (m.length = l.length) ∧ (m.take i = seenF a (l.take j)) ∧ (m.drop j = l.drop j)) (fun (i, j, m) => [(0, .slice A m.length c), (1, .func (.func 38) #[] #[.pointer (some ⟨k, 0, none⟩)]), (4, .slice none 0 0), (5, .int .i64 (i : Int)), (6, .int .i64 (j : Int))]) (fun (i, j, m) => [win recTy 28 A c m]) (fun (i, j, m) => [cellsAt k 0 [.int .i64 a.lv, .int .u64 (a.cs : Int), .int .i64 a.ig]]) (fun (i, j, m) => l.length - j) (i1, i1 + 1, l) [0] [0] (show (i1 < (i1 + 1)) ∧ ((i1 + 1) ≤ l.length) ∧ (l.length = l.length) ∧ (l.take i1 = seenF a (l.take (i1 + 1))) ∧ (l.drop (i1 + 1) = l.drop (i1 + 1)) from ⟨by first | omega | simp_all | (simp; done), by first | omega | simp_all | (simp; done), rfl, seen_init (by assumption) (by assumption), rfl⟩) ((.cons rfl rfl (.cons rfl rfl (.cons rfl rfl (.cons rfl rfl (.cons rfl (show (.int .i64 ((i1 : Int) + 1) : Value) = .int .i64 ((i1 + 1) : Int) from by first | rfl | (congr 1; omega) | (congr 1; simp; done) | (congr 1; simp; omega)) .nil)))))) rfl rfl ?_
    rintro ⟨i, j, m⟩ ⟨hij, hj, hm, h1, h2⟩
    show Ent 42 C [(0, .slice A m.length c), (1, .func (.func 38) #[] #[.pointer (some ⟨k, 0, none⟩)]), (4, .slice none 0 0), (5, .int .i64 (i : Int)), (6, .int .i64 (j : Int))] [] [win recTy 28 A c m] [cellsAt k 0 [.int .i64 a.lv, .int .u64 (a.cs : Int), .int .i64 a.ig]] _
    refine c_seq ?_
    refine c_seq ?_
    refine c_region ?_
    refine st rfl (o_y (v := .int .i64 (j : Int)) (y_mv rfl) rfl rfl rfl ?_)
    refine st rfl (o_y (v := .slice A m.length c) (y_mv rfl) rfl rfl rfl ?_)
    refine st rfl (o_y (v := .int .i64 (m.length : Int)) (y_k rfl rfl (fun _ => by kernel_rfl)) rfl rfl rfl ?_)
    refine e_by ((j : Int) < (m.length : Int)) (fun h6 => ?_) (fun h6 => ?_)
    ·
      refine st rfl (o_y (v := .bool true) (y_t (y_k (v := .bool (decide ((j : Int) < (m.length : Int)))) rfl rfl (fun _ => by kernel_rfl)) h6) rfl rfl rfl ?_)
      refine s_nil ?_
      refine q_then ?_
      refine c_true rfl ?_
      refine c_skip ?_
      refine q_then ?_
      refine c_seq ?_
      refine c_block ?_
      refine c_seq ?_
      refine c_region ?_
      refine st rfl (o_y (v := .slice A m.length c) (y_mv rfl) rfl rfl rfl ?_)
      refine st rfl (o_y (v := .int .i64 (j : Int)) (y_mv rfl) rfl rfl rfl ?_)
      obtain ⟨x1, hx1⟩ : ∃ x, m[j]? = some x := ⟨_, List.getElem?_eq_getElem (by omega)⟩
      refine e_winb 0 rfl (by omega) (fun b1 o1 hA1 => ?_)
      refine st rfl (o_y (v := .pointer (some ⟨b1, o1 + j * 7, none⟩)) (y_at (d := recTy) (l := m) j hA1 rfl rfl rfl (rfl) (by omega) Tryd.underlying22 (by kernel_rfl) (by kernel_rfl)) rfl rfl rfl ?_)
      refine st rfl (o_ldwn (d := recTy) 0 j rfl hA1 hx1 rfl rfl Tryd.underlying28 rfl (by kernel_rfl) (by kernel_rfl) rfl ?_)
      refine st rfl (o_box (cs := [.int .i64 0, .int .i64 0, .int .i64 0, .int .i64 0, .int .i64 0, .int .u64 0, .int .i64 0]) (T := 28) rfl rfl rfl rfl (fun _ => by kernel_rfl) (fun b2 => ?_))
      refine st rfl (o_st 0 rfl rfl rfl rfl rfl (by kernel_rfl) (by kernel_rfl) rfl ?_)
      refine s_nil ?_
      refine q_then ?_
      refine c_seq ?_
      refine c_region ?_
      refine st rfl (o_y (v := .func (.func 38) #[] #[.pointer (some ⟨k, 0, none⟩)]) (y_mv rfl) rfl rfl rfl ?_)
      refine st rfl (o_ldn 0 7 rfl rfl rfl rfl Tryd.underlying28 rfl (by kernel_rfl) (by kernel_rfl) rfl ?_)
      refine st rfl (o_call [] [0] (seen1_ x1 k a) rfl rfl rfl rfl rfl rfl (fun v L' I' hq2 => ?_))
      obtain ⟨hv1, rfl, rfl⟩ := hq2
      refine e_by (¬ (labUnder x1.lab a)) (fun h7 => ?_) (fun h7 => ?_)
      ·
        obtain rfl : v = .bool true := by rw [hv1, decide_eq_true h7]
        refine st rfl (o_y (v := .bool false) (y_k rfl rfl (fun _ => by kernel_rfl)) rfl rfl rfl ?_)
        refine s_nil ?_
        refine q_then ?_
        refine c_false rfl ?_
        refine c_skip ?_
        refine q_block ?_
        refine q_then ?_
        refine c_region ?_
        refine st rfl (o_y (v := .int .i64 (j : Int)) (y_mv rfl) rfl rfl rfl ?_)
        refine st rfl (o_y (v := .int .i64 ((j : Int) + 1)) (y_add (r := (j : Int) + 1) rfl rfl rfl (by omega)) rfl rfl rfl ?_)
        refine st rfl (o_y (v := .int .i64 ((j : Int) + 1)) (y_as rfl) rfl rfl rfl ?_)
        refine s_nil ?_
        refine q_then ?_
        refine c_next [1] [0] (i, j + 1, m) ?_ ?_ ?_ (by rfl) (by rfl)
        · exact (show (i < (j + 1)) ∧ ((j + 1) ≤ l.length) ∧ (m.length = l.length) ∧ (m.take i = seenF a (l.take (j + 1))) ∧ (m.drop (j + 1) = l.drop (j + 1)) from ⟨by first | omega | simp_all | (simp; done), by first | omega | simp_all | (simp; done), by first | exact hm | (rw [List.length_set]; exact hm), by first | exact seen_put (by omega) h1 h2 hx1 (by first | assumption | exact Classical.not_not.1 (by assumption)) | exact seen_skip h1 h2 hx1 (by assumption), by first | exact seen_drop hij h2 | exact seen_drop0 h2⟩)
        · show l.length - (j + 1) < l.length - j; omega
        · exact (.cons rfl rfl (.cons rfl rfl (.cons rfl rfl (.cons rfl rfl (.cons rfl (show (.int .i64 ((j : Int) + 1) : Value) = .int .i64 ((j + 1) : Int) from by first | rfl | (congr 1; omega) | (congr 1; simp; done) | (congr 1; simp; omega)) .nil)))))
      ·
        obtain rfl : v = .bool false := by rw [hv1, decide_eq_false h7]
        refine st rfl (o_y (v := .bool true) (y_k rfl rfl (fun _ => by kernel_rfl)) rfl rfl rfl ?_)
        refine s_nil ?_
        refine q_then ?_
        refine c_true rfl ?_
        refine c_seq ?_
        refine c_region ?_
        refine st rfl (o_y (v := .slice A m.length c) (y_mv rfl) rfl rfl rfl ?_)
        refine st rfl (o_y (v := .int .i64 (i : Int)) (y_mv rfl) rfl rfl rfl ?_)
        refine st rfl (o_ldn 0 7 rfl rfl rfl rfl Tryd.underlying28 rfl (by kernel_rfl) (by kernel_rfl) rfl ?_)
        obtain ⟨x2, hx2⟩ : ∃ x, m[i]? = some x := ⟨_, List.getElem?_eq_getElem (by omega)⟩
        refine e_winb 1 rfl (by omega) (fun b3 o2 hA2 => ?_)
        refine st rfl (o_y (v := .pointer (some ⟨b3, o2 + i * 7, none⟩)) (y_at (d := recTy) (l := m) i hA2 rfl rfl rfl (rfl) (by omega) Tryd.underlying22 (by kernel_rfl) (by kernel_rfl)) rfl rfl rfl ?_)
        refine st rfl (o_stw (d := recTy) 1 i x1 rfl hA2 (by omega) rfl rfl rfl (by kernel_rfl) (by kernel_rfl) rfl ?_)
        have hN1 : m.length = (m.set i x1).length := by simp
        rw [hN1]
        refine s_nil ?_
        refine q_then ?_
        refine c_region ?_
        refine st rfl (o_y (v := .int .i64 (i : Int)) (y_mv rfl) rfl rfl rfl ?_)
        refine st rfl (o_y (v := .int .i64 ((i : Int) + 1)) (y_add (r := (i : Int) + 1) rfl rfl rfl (by omega)) rfl rfl rfl ?_)
        refine st rfl (o_y (v := .int .i64 ((i : Int) + 1)) (y_as rfl) rfl rfl rfl ?_)
        refine s_nil ?_
        refine q_block ?_
        refine q_then ?_
        refine c_region ?_
        refine st rfl (o_y (v := .int .i64 (j : Int)) (y_mv rfl) rfl rfl rfl ?_)
        refine st rfl (o_y (v := .int .i64 ((j : Int) + 1)) (y_add (r := (j : Int) + 1) rfl rfl rfl (by omega)) rfl rfl rfl ?_)
        refine st rfl (o_y (v := .int .i64 ((j : Int) + 1)) (y_as rfl) rfl rfl rfl ?_)
        refine s_nil ?_
        refine q_then ?_
        refine c_next [1] [0] (i + 1, j + 1, m.set i x1) ?_ ?_ ?_ (by rfl) (by rfl)
        · exact (show ((i + 1) < (j + 1)) ∧ ((j + 1) ≤ l.length) ∧ ((m.set i x1).length = l.length) ∧ ((m.set i x1).take (i + 1) = seenF a (l.take (j + 1))) ∧ ((m.set i x1).drop (j + 1) = l.drop (j + 1)) from ⟨by first | omega | simp_all | (simp; done), by first | omega | simp_all | (simp; done), by first | exact hm | (rw [List.length_set]; exact hm), by first | exact seen_put (by omega) h1 h2 hx1 (by first | assumption | exact Classical.not_not.1 (by assumption)) | exact seen_skip h1 h2 hx1 (by assumption), by first | exact seen_drop hij h2 | exact seen_drop0 h2⟩)
        · show l.length - (j + 1) < l.length - j; omega
        · exact (.cons rfl rfl (.cons rfl rfl (.cons rfl rfl (.cons rfl (show (.int .i64 ((i : Int) + 1) : Value) = .int .i64 ((i + 1) : Int) from by first | rfl | (congr 1; omega) | (congr 1; simp; done) | (congr 1; simp; omega)) (.cons rfl (show (.int .i64 ((j : Int) + 1) : Value) = .int .i64 ((j + 1) : Int) from by first | rfl | (congr 1; omega) | (congr 1; simp; done) | (congr 1; simp; omega)) .nil)))))
    ·
      refine st rfl (o_y (v := .bool false) (y_f (y_k (v := .bool (decide ((j : Int) < (m.length : Int)))) rfl rfl (fun _ => by kernel_rfl)) h6) rfl rfl rfl ?_)
      refine s_nil ?_
      refine q_then ?_
      refine c_false rfl ?_
      refine c_exit ?_
      refine q_then_exit ?_
      refine q_then_exit ?_
      refine q_block_here ?_
      refine q_then ?_
      refine c_seq ?_
      refine c_region ?_
      refine st rfl (o_y (v := .slice A m.length c) (y_mv rfl) rfl rfl rfl ?_)
      refine st rfl (o_y (v := .int .i64 (i : Int)) (y_mv rfl) rfl rfl rfl ?_)
      refine e_know 0 rfl (fun _ h => win.lens _ h) (fun hl1 => ?_)
      refine st rfl (o_y (v := .slice (cutA recTy A i c) (m.drop i).length (c - i)) (y_cut (d := recTy) (l := m) (l2 := m.drop i) i m.length c (by simp) rfl rfl (.at i rfl (rfl)) .no .no (by simp) Tryd.underlying22 (by kernel_rfl) (by kernel_rfl) (by first | omega | (simp; omega)) (by first | omega | (simp; omega)) (by first | omega | (simp; omega)) (by first | omega | (simp; omega))) rfl rfl rfl ?_)
      refine st rfl (o_clear (d := recTy) (l := m) (lo := i) (z := .agg #[.int .i64 0, .int .i64 0, .int .i64 0, .int .i64 0, .int .i64 0, .int .u64 0, .int .i64 0]) 0 (⟨0, 0, 0, 0, ⟨0, 0, 0⟩⟩ : Rec) rfl rfl (by simp) (by omega) Tryd.underlying22 (by kernel_rfl) rfl (by decide) ?_)
      have hN2 : m.length = (m.take i ++ List.replicate (m.length - i) (⟨0, 0, 0, 0, ⟨0, 0, 0⟩⟩ : Rec)).length := by simp; omega
      rw [hN2]
      refine s_nil ?_
      refine q_then ?_
      refine c_seq ?_
      refine c_region ?_
      refine st rfl (o_y (v := .slice A (m.take i ++ List.replicate (m.length - i) (⟨0, 0, 0, 0, ⟨0, 0, 0⟩⟩ : Rec)).length c) (y_mv rfl) rfl rfl rfl ?_)
      refine st rfl (o_y (v := .int .i64 (i : Int)) (y_mv rfl) rfl rfl rfl ?_)
      refine e_know 0 rfl (fun _ h => win.lens _ h) (fun hl2 => ?_)
      refine e_weak 0 rfl (fun _ h => h.cut2 (lo := 0) (hi := i) (mx := c) (l2 := seenF a l) (by exact seen_fin (by omega) h1 (by omega)) (by first | omega | (simp; omega)) (by first | omega | (simp; omega)) (by first | omega | (simp; omega)) (by first | omega | (simp; omega))) ?_
      refine st rfl (o_y (v := .slice (cutA recTy A 0 c) (seenF a l).length (c - 0)) (y_cut (d := recTy) (l := m.take i ++ List.replicate (m.length - i) (⟨0, 0, 0, 0, ⟨0, 0, 0⟩⟩ : Rec)) (l2 := seenF a l) 0 i c (by exact seen_fin (by omega) h1 (by omega)) rfl rfl .no (.at i rfl (rfl)) .no (by simp) Tryd.underlying22 (by kernel_rfl) (by kernel_rfl) (by first | omega | (simp; omega)) (by first | omega | (simp; omega)) (by first | omega | (simp; omega)) (by first | omega | (simp; omega))) rfl rfl rfl ?_)
      refine st rfl (o_y (v := .slice (cutA recTy A 0 c) (seenF a l).length (c - 0)) (y_as rfl) rfl rfl rfl ?_)
      refine s_nil ?_
      refine q_then ?_
      refine c_ret ?_
      refine c_fin (I' := []) [0] [0] rfl (.tmp rfl .nil) rfl rfl rfl ?_
      exact ⟨_, _, rfl, rfl, rfl⟩
theorem Seen_ (A : Option Addr) (c : Nat) (l : List Rec) (a : Lab) (hs : l.length ≤ 1000000) : Con Tryd.prog 20 [.slice A l.length c, .agg #[.int .i64 a.lv, .int .u64 (a.cs : Int), .int .i64 a.ig]] [] [rd recTy A c l] (fun v L' I' => ∃ A1 : Option Addr, ∃ c1 : Nat, v = .slice A1 (seenF a l).length c1 ∧ L' = [] ∧ I' = [rd recTy A1 c1 (seenF a l)]) := by
  refine fn_of Tryd.func20 rfl Tryd.ntmps20 (by kernel_rfl) rfl (fun C => ?_)
  refine c_seq ?_
  refine c_region ?_
  refine st rfl (o_box (cs := [.int .i64 a.lv, .int .u64 (a.cs : Int), .int .i64 a.ig]) (T := 26) rfl rfl rfl rfl (fun _ => by kernel_rfl) (fun b1 => ?_))
  refine st rfl (o_y (v := .slice none 0 0) (y_as rfl) rfl rfl rfl ?_)
  refine s_nil ?_
  refine q_then ?_
  refine c_seq ?_
  refine c_region ?_
  refine st rfl (o_y (v := .func (.func 38) #[] #[.pointer (some ⟨b1, 0, none⟩)]) (y_k rfl rfl (fun _ => by kernel_rfl)) rfl rfl rfl ?_)
  refine st rfl (o_y (v := .func (.func 38) #[] #[.pointer (some ⟨b1, 0, none⟩)]) (y_as rfl) rfl rfl rfl ?_)
  refine s_nil ?_
  refine q_then ?_
  refine c_seq ?_
  refine c_region ?_
  refine st rfl (o_y (v := .slice A l.length c) (y_mv rfl) rfl rfl rfl ?_)
  refine st rfl (o_call [] [0] (clone_ A c l (by first | assumption | omega | (simp; done) | (simp; omega))) rfl rfl rfl rfl rfl rfl (fun v L' I' hq1 => ?_))
  obtain ⟨A1, c1, rfl, rfl, rfl⟩ := hq1
  refine st rfl (o_y (v := .func (.func 38) #[] #[.pointer (some ⟨b1, 0, none⟩)]) (y_mv rfl) rfl rfl rfl ?_)
  refine st rfl (o_lend [1] [0] [] (deleteFunc_ A1 c1 l b1 a (by first | assumption | omega | (simp; done) | (simp; omega))) (.cons lend_pt .nil) rfl rfl rfl rfl rfl rfl rfl rfl (fun v L' I' hq2 => ?_))
  obtain ⟨A2, c2, rfl, rfl, rfl⟩ := hq2
  refine ⟨rfl, ?_⟩
  refine st rfl (o_y (v := .slice A2 (seenF a l).length c2) (y_as rfl) rfl rfl rfl ?_)
  refine s_nil ?_
  refine q_then ?_
  refine c_ret ?_
  refine e_stillw 0 rfl ?_
  refine c_fin (I' := [rd recTy A2 c2 (seenF a l)]) [] [0, 1] rfl (.tmp rfl .nil) rfl rfl rfl ?_
  exact ⟨_, _, rfl, rfl, rfl⟩
theorem rSeen_ (A : Option Addr) (c : Nat) (l : List Rec) (a : Lab) (hs : l.length ≤ 1000000) (hm : ∀ y ∈ l, recSm y) (ha : a.cs < 18446744073709551616) : Con Tryd.prog 25 [.slice A l.length c, .agg #[.int .i64 a.lv, .int .u64 (a.cs : Int), .int .i64 a.ig]] [] [rd recTy A c l] (fun v L' I' => ∃ A1 : Option Addr, ∃ c1 : Nat, v = .slice A1 (seenF a l).length c1 ∧ L' = [] ∧ I' = [rd recTy A1 c1 (seenF a l)]) := by
  refine fn_of Tryd.func25 rfl Tryd.ntmps25 (by kernel_rfl) rfl (fun C => ?_)
  refine c_seq ?_
  refine c_region ?_
  refine st rfl (o_box (cs := [.int .i64 a.lv, .int .u64 (a.cs : Int), .int .i64 a.ig]) (T := 26) rfl rfl rfl rfl (fun _ => by kernel_rfl) (fun b1 => ?_))
  refine st rfl (o_y (v := .slice none 0 0) (y_as rfl) rfl rfl rfl ?_)
  refine s_nil ?_
  refine q_then ?_
  refine c_seq ?_
  refine c_region ?_
  refine st rfl (o_y (v := .slice none 0 0) (y_as rfl) rfl rfl rfl ?_)
  refine s_nil ?_
  refine q_then ?_
  refine c_seq ?_
  refine c_seq ?_
  refine c_region ?_
  refine st rfl (o_y (v := .int .i64 0) (y_as rfl) rfl rfl rfl ?_)
  refine s_nil ?_
  refine q_then ?_
  refine c_block ?_
  refine e_nil recTy 28 ?_
  refine c_loopn (ι := Nat × (List Rec) × (Option Addr) × Nat) (fun (k, o, Ao, co) => (k ≤ l.length) ∧ (o = seenF a (l.take k))) (fun (k, o, Ao, co) => [(0, .slice A l.length c), (3, .pointer (some ⟨b1, 0, none⟩)), (4, .slice none 0 0), (5, .slice Ao o.length co), (6, .int .i64 (k : Int))]) (fun (k, o, Ao, co) => [pt b1 [.int .i64 a.lv, .int .u64 (a.cs : Int), .int .i64 a.ig] 26, ars recTy 28 Ao co o]) (fun (k, o, Ao, co) => [rd recTy A c l]) (fun (k, o, Ao, co) => l.length - k) (0, ([] : List Rec), none, 0) [1, 0] [0] (show (0 ≤ l.length) ∧ (([] : List Rec) = seenF a (l.take 0)) from ⟨by first | omega | simp_all | (simp; done), by simp [seenF]⟩) ((.cons rfl rfl (.cons rfl rfl (.cons rfl rfl (.cons rfl (show (.slice none 0 0 : Value) = .slice none ([] : List Rec).length 0 from by first | rfl | (congr 1; omega) | (congr 1; simp; done) | (congr 1; simp; omega)) (.cons rfl rfl .nil)))))) rfl rfl ?_
  rintro ⟨k, o, Ao, co⟩ ⟨hk, ho⟩
  show Ent 28 C [(0, .slice A l.length c), (3, .pointer (some ⟨b1, 0, none⟩)), (4, .slice none 0 0), (5, .slice Ao o.length co), (6, .int .i64 (k : Int))] [] [pt b1 [.int .i64 a.lv, .int .u64 (a.cs : Int), .int .i64 a.ig] 26, ars recTy 28 Ao co o] [rd recTy A c l] _
  refine c_seq ?_
  refine c_seq ?_
  refine c_region ?_
  refine st rfl (o_y (v := .int .i64 (k : Int)) (y_mv rfl) rfl rfl rfl ?_)
  refine st rfl (o_y (v := .slice A l.length c) (y_mv rfl) rfl rfl rfl ?_)
  refine st rfl (o_y (v := .int .i64 (l.length : Int)) (y_k rfl rfl (fun _ => by kernel_rfl)) rfl rfl rfl ?_)
  refine e_by ((k : Int) < (l.length : Int)) (fun h1 => ?_) (fun h1 => ?_)
  ·
    refine st rfl (o_y (v := .bool true) (y_t (y_k (v := .bool (decide ((k : Int) < (l.length : Int)))) rfl rfl (fun _ => by kernel_rfl)) h1) rfl rfl rfl ?_)
    refine s_nil ?_
    refine q_then ?_
    refine c_true rfl ?_
    refine c_skip ?_
    refine q_then ?_
    refine c_seq ?_
    refine c_block ?_
    refine c_seq ?_
    refine e_at 0 k rfl (by first | omega | (simp only [List.length_append, List.length_map, List.length_take, List.length_drop]; omega)) (fun b2 o1 x1 hA1 hx1 => ?_)
    refine c_draw (l := ticked 7 0) [(⟨b1, 0, none⟩, .int .i64 a.lv), (⟨b1, 1, none⟩, .int .u64 (a.cs : Int)), (⟨b1, 2, none⟩, .int .i64 a.ig)] [] (by kernel_rfl) rfl rfl ?_
    refine a_y (i := 0) (v := .slice A l.length c) (ticked 7 1) rfl (by as_aux_lemma => kernel_rfl) rfl rfl rfl (by exact y_mv rfl) ?_
    refine a_y (i := 1) (v := .int .i64 (k : Int)) (ticked 7 3) rfl (by as_aux_lemma => kernel_rfl) rfl rfl rfl (by exact y_mv rfl) ?_
    refine a_y (i := 2) (v := .pointer (some ⟨b2, o1 + k * 7, none⟩)) (ticked 7 7) rfl (by as_aux_lemma => kernel_rfl) rfl rfl rfl (by exact y_at (d := recTy) (l := l) k hA1 rfl rfl rfl (rfl) (List.getElem?_eq_some_iff.1 hx1).1 Tryd.underlying22 (by kernel_rfl) (by kernel_rfl)) ?_
    refine a_y (i := 3) (v := .pointer (some ⟨b2, o1 + k * 7 + 4, none⟩)) (ticked 7 15) rfl (by as_aux_lemma => kernel_rfl) rfl rfl rfl (by exact y_k rfl rfl (fun _ => by kernel_rfl)) ?_
    refine a_held (i := 5) (ticked 7 47) rfl (by as_aux_lemma => kernel_rfl) rfl rfl rfl (held_pt 0 rfl rfl (held_pt 0 rfl rfl (held_pt 0 rfl rfl held_nil))) (h_ldn (vs := [.int .i64 a.lv, .int .u64 (a.cs : Int), .int .i64 a.ig]) 0 3 rfl rfl rfl Tryd.underlying26 rfl (by kernel_rfl) (by kernel_rfl)) ?_
    refine a_each (rs := [4]) (by as_aux_lemma => kernel_rfl) (.cons (ticked 7 63) rfl rfl rfl (o_ldnf 0 4 3 rfl rfl rfl rfl Tryd.underlying26 rfl (by kernel_rfl) (by kernel_rfl) rfl ?_) .nil) (List.cons_ne_nil _ _)
    refine a_and (held_pt 0 rfl rfl (held_pt 0 rfl rfl (held_pt 0 rfl rfl held_nil))) ?_
    refine a_each (rs := [6]) (by as_aux_lemma => kernel_rfl) (.cons (ticked 7 127) rfl rfl rfl (o_call [] [] (rUnder_ x1.lab a (by first | assumption | decide | omega | exact ((by assumption : ∀ y ∈ _, recSm y) _ (List.mem_of_getElem? (by assumption))).2.2.2.2) (by first | assumption | decide | omega | exact ((by assumption : ∀ y ∈ _, recSm y) _ (List.mem_of_getElem? (by assumption))).2.2.2.2)) rfl rfl rfl rfl rfl rfl (fun v L' I' hq1 => ?_)) .nil) (List.cons_ne_nil _ _)
    obtain ⟨hv1, rfl, rfl⟩ := hq1
    refine e_by (labUnder x1.lab a) (fun h2 => ?_) (fun h2 => ?_)
    ·
      obtain rfl : v = .bool true := by rw [hv1, decide_eq_true h2]
      refine a_and (held_pt 0 rfl rfl (held_pt 0 rfl rfl (held_pt 0 rfl rfl held_nil))) ?_
      refine a_done (by as_aux_lemma => kernel_rfl) ?_
      refine q_then ?_
      refine c_true rfl ?_
      refine c_region ?_
      refine st rfl (o_y (v := .slice Ao o.length co) (y_mv rfl) rfl rfl rfl ?_)
      refine st rfl (o_y (v := .slice A l.length c) (y_mv rfl) rfl rfl rfl ?_)
      refine st rfl (o_y (v := .int .i64 (k : Int)) (y_mv rfl) rfl rfl rfl ?_)
      refine st rfl (o_y (v := .pointer (some ⟨b2, o1 + k * 7, none⟩)) (y_at (d := recTy) (l := l) k hA1 rfl rfl rfl (rfl) (List.getElem?_eq_some_iff.1 hx1).1 Tryd.underlying22 (by kernel_rfl) (by kernel_rfl)) rfl rfl rfl ?_)
      refine st rfl (o_ldnf 0 0 7 rfl rfl rfl rfl Tryd.underlying28 rfl (by kernel_rfl) (by kernel_rfl) rfl ?_)
      refine st rfl (o_lit (cs := [.int .i64 x1.st, .int .i64 x1.who, .int .i64 x1.op, .int .i64 x1.e, .int .i64 x1.lab.lv, .int .u64 (x1.lab.cs : Int), .int .i64 x1.lab.ig]) (T := 28) (m := 1) rfl rfl rfl rfl (fun _ => by kernel_rfl) (fun b3 => ?_))
      refine st rfl (o_app (l := o) (us := [x1]) 2 rfl rfl rfl rfl rfl (src_pt 0 rfl) Tryd.underlying22 (elem_of (z := .agg #[.int .i64 0, .int .i64 0, .int .i64 0, .int .i64 0, .int .i64 0, .int .u64 0, .int .i64 0]) (sz := 7) (bytes := 56) (by kernel_rfl) rfl) rfl (by have h1 := seen_len (a := a) (l := l.take k); rw [← ho] at h1; simp only [List.length_take] at h1; simp only [List.length_cons, List.length_nil]; omega) rfl rfl (fun A1 c1 => ?_))
      refine st rfl (o_y (v := .slice A1 (o ++ [x1]).length c1) (y_as rfl) rfl rfl rfl ?_)
      refine s_nil ?_
      refine q_block ?_
      refine q_then ?_
      refine c_region ?_
      refine st rfl (o_y (v := .int .i64 (k : Int)) (y_mv rfl) rfl rfl rfl ?_)
      refine st rfl (o_y (v := .int .i64 ((k : Int) + 1)) (y_add (r := (k : Int) + 1) rfl rfl rfl (by omega)) rfl rfl rfl ?_)
      refine st rfl (o_y (v := .int .i64 ((k : Int) + 1)) (y_as rfl) rfl rfl rfl ?_)
      refine s_nil ?_
      refine q_then ?_
      refine c_next [1, 1] [1] (k + 1, o ++ [x1], A1, c1) ?_ ?_ ?_ (by rfl) (by rfl)
      · exact (show ((k + 1) ≤ l.length) ∧ ((o ++ [x1]) = seenF a (l.take (k + 1))) from ⟨by first | omega | simp_all | (simp; done), by first | exact rseen_t ho hx1 (by assumption) | exact rseen_f ho hx1 (by assumption)⟩)
      · show l.length - (k + 1) < l.length - k; omega
      · exact (.cons rfl rfl (.cons rfl rfl (.cons rfl rfl (.cons rfl rfl (.cons rfl (show (.int .i64 ((k : Int) + 1) : Value) = .int .i64 ((k + 1) : Int) from by first | rfl | (congr 1; omega) | (congr 1; simp; done) | (congr 1; simp; omega)) .nil)))))
    ·
      obtain rfl : v = .bool false := by rw [hv1, decide_eq_false h2]
      refine a_and (held_pt 0 rfl rfl (held_pt 0 rfl rfl (held_pt 0 rfl rfl held_nil))) ?_
      refine a_done (by as_aux_lemma => kernel_rfl) ?_
      refine q_then ?_
      refine c_false rfl ?_
      refine c_skip ?_
      refine q_block ?_
      refine q_then ?_
      refine c_region ?_
      refine st rfl (o_y (v := .int .i64 (k : Int)) (y_mv rfl) rfl rfl rfl ?_)
      refine st rfl (o_y (v := .int .i64 ((k : Int) + 1)) (y_add (r := (k : Int) + 1) rfl rfl rfl (by omega)) rfl rfl rfl ?_)
      refine st rfl (o_y (v := .int .i64 ((k : Int) + 1)) (y_as rfl) rfl rfl rfl ?_)
      refine s_nil ?_
      refine q_then ?_
      refine c_next [0, 0] [1] (k + 1, o, Ao, co) ?_ ?_ ?_ (by rfl) (by rfl)
      · exact (show ((k + 1) ≤ l.length) ∧ (o = seenF a (l.take (k + 1))) from ⟨by first | omega | simp_all | (simp; done), by first | exact rseen_t ho hx1 (by assumption) | exact rseen_f ho hx1 (by assumption)⟩)
      · show l.length - (k + 1) < l.length - k; omega
      · exact (.cons rfl rfl (.cons rfl rfl (.cons rfl rfl (.cons rfl rfl (.cons rfl (show (.int .i64 ((k : Int) + 1) : Value) = .int .i64 ((k + 1) : Int) from by first | rfl | (congr 1; omega) | (congr 1; simp; done) | (congr 1; simp; omega)) .nil)))))
  ·
    refine st rfl (o_y (v := .bool false) (y_f (y_k (v := .bool (decide ((k : Int) < (l.length : Int)))) rfl rfl (fun _ => by kernel_rfl)) h1) rfl rfl rfl ?_)
    refine s_nil ?_
    refine q_then ?_
    refine c_false rfl ?_
    refine c_exit ?_
    refine q_then_exit ?_
    refine q_then_exit ?_
    refine q_block_here ?_
    refine q_then ?_
    refine c_seq ?_
    refine c_region ?_
    refine st rfl (o_y (v := .slice Ao o.length co) (y_mv rfl) rfl rfl rfl ?_)
    refine st rfl (o_y (v := .slice Ao o.length co) (y_as rfl) rfl rfl rfl ?_)
    refine s_nil ?_
    refine q_then ?_
    refine c_ret ?_
    refine e_still 1 rfl ?_
    have hp : seenF a l = o := by rw [ho, List.take_of_length_le (by omega)]
    refine c_fin (I' := [rd recTy Ao co o]) [] [0, 1] rfl (.tmp rfl .nil) rfl rfl rfl ?_
    rw [hp]
    exact ⟨_, _, rfl, rfl, rfl⟩
end Go.Proofs.YtdfgedkjilpcgaaDoor
