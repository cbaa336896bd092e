/- The laws of chapter 15 (journal), walked over the given program; no condition but what stands in each theorem: part JH. -/
import Derived.Test.YthehnjbdkjnlpaaGreatDoorRRL
import Derived.Test.YthehnjbdkjnlpaaGreatDoorRJA
set_option linter.unusedVariables false
set_option linter.unusedSimpArgs false
set_option maxRecDepth 100000
set_option maxHeartbeats 8000000
namespace Go.Proofs.YthehnjbdkjnlpaaGreatDoor
open Go Go.Sl Go.RowKit Go.Extern.Stop Go.Stop Go.Extern

theorem jall_step {P : Jen → Prop} {l : List Jen} {k : Nat} {x : Jen} (h : ∀ y ∈ l.take k, P y) (hx : l[k]? = some x) (hp : P x) : ∀ y ∈ l.take (k + 1), P y := by
  rw [List.take_add_one, hx]
  intro y hy
  rcases List.mem_append.1 hy with h' | h'
  · exact h y h'
  · have : y = x := by simpa using h'
    rw [this]; exact hp
theorem jall_end {P : Jen → Prop} {l : List Jen} {k : Nat} (h : ∀ y ∈ l.take k, P y) (hk : l.length ≤ k) : ∀ y ∈ l, P y := by rwa [List.take_of_length_le hk] at h
theorem jfilt_step {p : Jen → Bool} {l : List Jen} {k : Nat} {x : Jen} (hx : l[k]? = some x) : (l.take (k + 1)).filter p = (l.take k).filter p ++ (if p x then [x] else []) := by
  rw [List.take_add_one, hx, List.filter_append]
  simp [List.filter_cons]
theorem jfilt_t {p : Jen → Bool} {l : List Jen} {k : Nat} {x : Jen} (hx : l[k]? = some x) (hp : p x = true) : (l.take (k + 1)).filter p = (l.take k).filter p ++ [x] := by rw [jfilt_step hx, if_pos hp]
theorem jfilt_f {p : Jen → Bool} {l : List Jen} {k : Nat} {x : Jen} (hx : l[k]? = some x) (hp : ¬ p x = true) : (l.take (k + 1)).filter p = (l.take k).filter p := by rw [jfilt_step hx, if_neg hp, List.append_nil]
theorem jseen_all {l : List Jen} {a : Lab} (h : ∀ y ∈ l, labUnder y.to a) : seenJ a l = l := List.filter_eq_self.2 (fun y hy => by simpa using h y hy)
theorem jseen_init {l : List Jen} {a : Lab} {k : Nat} (h : ∀ y ∈ l.take k, labUnder y.to a) (hn : ∃ x, l[k]? = some x ∧ ¬ labUnder x.to a) : l.take k = seenJ a (l.take (k + 1)) := by
  obtain ⟨x, hx, hx2⟩ := hn
  unfold seenJ
  rw [jfilt_f hx (by simpa using hx2)]
  exact (jseen_all h).symm
theorem jseen_at {m l : List Jen} {j : Nat} {x : Jen} (h2 : m.drop j = l.drop j) (hx : m[j]? = some x) : l[j]? = some x := by
  have e : ∀ q : List Jen, q[j]? = (q.drop j)[0]? := fun q => by rw [List.getElem?_drop, Nat.add_zero]
  rw [e, ← h2, ← e]; exact hx
theorem jseen_put {m l : List Jen} {a : Lab} {i j : Nat} {x : Jen} (hi : i < m.length) (h1 : m.take i = seenJ a (l.take j)) (h2 : m.drop j = l.drop j) (hx : m[j]? = some x) (hu : labUnder x.to a) : (m.set i x).take (i + 1) = seenJ a (l.take (j + 1)) := by
  have e : (m.set i x).take (i + 1) = m.take i ++ [x] := by
    apply List.ext_getElem?
    intro q
    rw [List.getElem?_take, List.getElem?_set]
    by_cases hq : q < i
    · rw [if_pos (by omega), if_neg (by omega), List.getElem?_append_left (by simp; omega), List.getElem?_take, if_pos hq]
    · by_cases hq2 : q = i
      · subst hq2
        rw [if_pos (by omega), if_pos rfl, if_pos hi, List.getElem?_append_right (by simp; omega)]
        simp [show min q m.length = q by omega]
      · rw [if_neg (by omega), List.getElem?_append_right (by simp; omega)]
        simp; omega
  unfold seenJ
  rw [e, h1, jfilt_t (jseen_at h2 hx) (by simpa using hu)]
  rfl
theorem jseen_skip {m l : List Jen} {a : Lab} {i j : Nat} {x : Jen} (h1 : m.take i = seenJ a (l.take j)) (h2 : m.drop j = l.drop j) (hx : m[j]? = some x) (hu : ¬ labUnder x.to a) : m.take i = seenJ a (l.take (j + 1)) := by
  rw [h1]; unfold seenJ; rw [jfilt_f (jseen_at h2 hx) (by simpa using hu)]
theorem jseen_drop {m l : List Jen} {i j : Nat} {x : Jen} (hij : i < j) (h2 : m.drop j = l.drop j) : (m.set i x).drop (j + 1) = l.drop (j + 1) := by
  rw [List.drop_set_of_lt (by omega), ← List.drop_drop, h2, List.drop_drop]
theorem jseen_drop0 {m l : List Jen} {j : Nat} (h2 : m.drop j = l.drop j) : m.drop (j + 1) = l.drop (j + 1) := by
  rw [← List.drop_drop, h2, List.drop_drop]
theorem jseen_fin {m l r : List Jen} {a : Lab} {i j : Nat} (hi : i ≤ m.length) (h1 : m.take i = seenJ a (l.take j)) (hj : l.length ≤ j) : ((m.take i ++ r).take i).drop 0 = seenJ a l := by
  rw [List.drop_zero, List.take_append_of_le_length (by simp; omega), List.take_take, Nat.min_self, h1, List.take_of_length_le hj]
theorem jseen_len {a : Lab} {l : List Jen} : (seenJ a l).length ≤ l.length := List.length_filter_le _ _
theorem jeq_step {a b : List Jen} {k : Nat} {x y : Jen} (h : a.take k = b.take k) (hx : a[k]? = some x) (hy : b[k]? = some y) (he : x = y) : a.take (k + 1) = b.take (k + 1) := by
  rw [List.take_add_one, List.take_add_one, h, hx, hy, he]
theorem jeq_end {a b : List Jen} {k : Nat} (h : a.take k = b.take k) (ha : a.length ≤ k) (hb : b.length ≤ k) : a = b := by
  rwa [List.take_of_length_le ha, List.take_of_length_le hb] at h
theorem jeq_not {a b : List Jen} {k : Nat} {x y : Jen} (hx : a[k]? = some x) (hy : b[k]? = some y) (he : ¬ x = y) : ¬ a = b := fun h => by
  rw [h, hy] at hx; exact he (Option.some.inj hx).symm
theorem jeq_len {a b : List Jen} (h : ¬ (a.length : Int) = (b.length : Int)) : ¬ a = b := fun e => by subst e; exact h rfl
theorem jseen1_ (x : Jen) (k : Nat) (a : Lab) : Con Tryz.prog 28 [.agg #[.int .i64 x.st, .int .i64 x.ru, .int .i64 x.to.lv, .int .u64 (x.to.cs : Int), .int .i64 x.to.ig, .string x.da], .pointer (some ⟨k, 0, none⟩)] [] [cellsAt k 0 [.int .i64 a.lv, .int .u64 (a.cs : Int), .int .i64 a.ig]] (fun v L' I' => v = .bool (decide (¬ (labUnder x.to a))) ∧ L' = [] ∧ I' = []) := by
 refine fn_of Tryz.func28 rfl Tryz.ntmps28 (by kernel_rfl) rfl (fun C => ?_)
 refine c_seq (c_region ?_)
 refine st rfl (o_box (cs := [.int .i64 x.st, .int .i64 x.ru, .int .i64 x.to.lv, .int .u64 (x.to.cs : Int), .int .i64 x.to.ig, .string x.da]) (T := 47) rfl rfl rfl rfl (fun _ => by kernel_rfl) (fun b1 => ?_))
 refine s_y rfl (v := .bool false) (y_as rfl) rfl ?_
 refine s_nil (q_then (c_seq (c_region ?_)))
 refine s_y rfl (v := .pointer (some ⟨b1, 2, none⟩)) (y_k rfl rfl (fun _ => by kernel_rfl)) rfl ?_
 refine st rfl (o_ldn 0 3 rfl rfl rfl rfl Tryz.underlying26 rfl (by kernel_rfl) (by kernel_rfl) rfl ?_)
 refine st rfl (o_ldnf 0 0 3 rfl rfl rfl rfl Tryz.underlying26 rfl (by kernel_rfl) (by kernel_rfl) rfl ?_)
 refine st rfl (o_call [] [] (under_ x.to a) rfl rfl rfl rfl rfl rfl (fun v L' I' hq1 => ?_))
 obtain ⟨hv1, rfl, rfl⟩ := hq1
 refine e_by (labUnder x.to a) (fun h1 => ?_) (fun h1 => ?_)
 ·
  obtain rfl : v = .bool true := by rw [hv1, decide_eq_true h1]
  refine s_y rfl (v := .bool false) (y_k rfl rfl (fun _ => by kernel_rfl)) rfl ?_
  refine s_y rfl (v := .bool false) (y_as rfl) rfl ?_
  refine s_nil (q_then (c_ret ?_))
  refine c_fin (I' := []) [] [0] rfl (.tmp rfl .nil) rfl rfl rfl ?_
  exact ⟨dec_f (by first | assumption | (intro hh; exact hh (by assumption))), rfl, rfl⟩
 ·
  obtain rfl : v = .bool false := by rw [hv1, decide_eq_false h1]
  refine s_y rfl (v := .bool true) (y_k rfl rfl (fun _ => by kernel_rfl)) rfl ?_
  refine s_y rfl (v := .bool true) (y_as rfl) rfl ?_
  refine s_nil (q_then (c_ret ?_))
  refine c_fin (I' := []) [] [0] rfl (.tmp rfl .nil) rfl rfl rfl ?_
  exact ⟨dec_t (by first | assumption | (intro hh; exact hh (by assumption))), rfl, rfl⟩
theorem jclone_ (A : Option Addr) (c : Nat) (l : List Jen) (hs : l.length ≤ 1000000) : Con Tryz.prog 31 [.slice A l.length c] [] [rd entTy A c l] (fun v L' I' => ∃ A1 : Option Addr, ∃ c1 : Nat, v = .slice A1 l.length c1 ∧ L' = [ars entTy 47 A1 c1 l] ∧ I' = []) := by
 refine fn_of Tryz.func31 rfl Tryz.ntmps31 (by kernel_rfl) rfl (fun C => ?_)
 refine c_seq (c_region ?_)
 refine s_y rfl (v := .slice none 0 0) (y_as rfl) rfl ?_
 refine s_nil (q_then (c_seq (c_seq (c_region ?_))))
 refine s_y rfl (v := .slice A l.length c) (y_mv rfl) rfl ?_
 refine e_by (A = none) (fun h1 => ?_) (fun h1 => ?_)
 ·
  refine s_y rfl (v := .bool true) (y_t (y_slnil rfl rfl Tryz.underlying23) h1) rfl ?_
  refine s_nil (q_then (c_true rfl (c_seq (c_region ?_))))
  refine s_y rfl (v := .slice none 0 0) (y_as rfl) rfl ?_
  refine s_nil (q_then (c_ret (q_then_ret ?_)))
  refine e_rdn 0 rfl (by assumption) (fun hnil => ?_)
  subst hnil
  refine e_nil entTy 47 ?_
  refine c_fin (I' := []) [0] [0] rfl (.tmp rfl .nil) rfl rfl rfl ?_
  exact ⟨none, 0, rfl, rfl, rfl⟩
 ·
  refine s_y rfl (v := .bool false) (y_f (y_slnil rfl rfl Tryz.underlying23) h1) rfl ?_
  refine s_nil (q_then (c_false rfl (c_skip (q_then (c_seq (c_region ?_))))))
  refine st rfl (o_lit (cs := []) (T := 47) (m := 0) rfl rfl rfl rfl (fun _ => by kernel_rfl) (fun b1 => ?_))
  refine s_y rfl (v := .slice A l.length c) (y_mv rfl) rfl ?_
  refine e_weak 0 rfl (fun _ h => ars_lit0 (d := entTy) _ h) ?_
  refine st rfl (o_app (l := ([] : List Jen)) (us := l) 0 rfl rfl rfl rfl rfl (src_rd 0 rfl) Tryz.underlying23 (elem_of (z := .agg #[.int .i64 0, .int .i64 0, .int .i64 0, .int .u64 0, .int .i64 0, .string (⟨#[]⟩ : ByteArray)]) (sz := 6) (bytes := 56) (by kernel_rfl) rfl) rfl (by first | omega | (simp only [List.length_append, List.length_map, List.length_take, List.length_drop, List.length_cons, List.length_nil]; omega)) rfl rfl (fun A1 c1 => ?_))
  refine s_y rfl (v := .slice A1 l.length c1) (y_as rfl) rfl ?_
  refine s_nil (q_then (c_ret ?_))
  refine c_fin (I' := []) [0] [0] rfl (.tmp rfl .nil) rfl rfl rfl ?_
  exact ⟨A1, c1, rfl, rfl, rfl⟩
theorem jindexFunc_ (A : Option Addr) (c : Nat) (l : List Jen) (k : Nat) (a : Lab) (hs : l.length ≤ 1000000) : Con Tryz.prog 52 [.slice A l.length c, .func (.func 28) #[] #[.pointer (some ⟨k, 0, none⟩)]] [] [rd entTy A c l, cellsAt k 0 [.int .i64 a.lv, .int .u64 (a.cs : Int), .int .i64 a.ig]] (fun v L' I' => ((∀ y ∈ l, labUnder y.to a) ∧ v = .int .i64 (-1) ∧ L' = [] ∧ I' = []) ∨ (∃ i : Nat, (i < l.length) ∧ (∀ y ∈ l.take i, labUnder y.to a) ∧ (∃ x, l[i]? = some x ∧ ¬ labUnder x.to a) ∧ v = .int .i64 (i : Int) ∧ L' = [] ∧ I' = [])) := by
 refine fn_of Tryz.func52 rfl Tryz.ntmps52 (by kernel_rfl) rfl (fun C => ?_)
 refine c_seq (c_region ?_)
 refine s_y rfl (v := .int .i64 0) (y_as rfl) rfl ?_
 refine s_nil (q_then (c_seq (c_seq (c_region ?_))))
 refine s_y rfl (v := .slice A l.length c) (y_mv rfl) rfl ?_
 refine s_y rfl (v := .int .i64 (l.length : Int)) (y_k rfl rfl (fun _ => by kernel_rfl)) rfl ?_
 refine s_y rfl (v := .int .i64 0) (y_mv rfl) rfl ?_
 refine s_nil (q_then (c_block ?_))
 refine c_loopn (ι := Nat) (fun i => (i ≤ l.length) ∧ (∀ y ∈ l.take i, labUnder y.to a)) (fun i => [(0, .slice A l.length c), (1, .func (.func 28) #[] #[.pointer (some ⟨k, 0, none⟩)]), (7, .int .i64 (l.length : Int)), (8, .int .i64 (i : Int))]) (fun i => []) (fun i => [rd entTy A c l, cellsAt k 0 [.int .i64 a.lv, .int .u64 (a.cs : Int), .int .i64 a.ig]]) (fun i => l.length - i) (0) [] [0, 1] (show (0 ≤ l.length) ∧ (∀ y ∈ l.take 0, labUnder y.to a) from ⟨by first | omega | simp_all | (simp; done), by simp⟩) ((.cons rfl rfl (.cons rfl rfl (.cons rfl rfl (.cons rfl rfl .nil))))) rfl rfl ?_
 rintro i ⟨hk, hi⟩
 show Ent 19 C [(0, .slice A l.length c), (1, .func (.func 28) #[] #[.pointer (some ⟨k, 0, none⟩)]), (7, .int .i64 (l.length : Int)), (8, .int .i64 (i : Int))] [] [] [rd entTy A c l, cellsAt k 0 [.int .i64 a.lv, .int .u64 (a.cs : Int), .int .i64 a.ig]] _
 refine c_seq (c_region ?_)
 refine e_by ((i : Int) < (l.length : Int)) (fun h1 => ?_) (fun h1 => ?_)
 ·
  refine s_y rfl (v := .bool true) (y_t (y_k (v := .bool (decide ((i : Int) < (l.length : Int)))) rfl rfl (fun _ => by kernel_rfl)) h1) rfl ?_
  refine s_nil (q_then (c_seq (c_true rfl (c_skip (q_then (c_seq (c_block (c_seq (c_region ?_)))))))))
  refine s_y rfl (v := .int .i64 (i : Int)) (y_mv rfl) rfl ?_
  refine s_y rfl (v := .int .i64 (i : Int)) (y_as rfl) rfl ?_
  refine s_nil (q_then (c_seq (c_region ?_)))
  refine s_y rfl (v := .func (.func 28) #[] #[.pointer (some ⟨k, 0, none⟩)]) (y_mv rfl) rfl ?_
  refine s_y rfl (v := .slice A l.length c) (y_mv rfl) rfl ?_
  refine s_y rfl (v := .int .i64 (i : Int)) (y_mv rfl) rfl ?_
  refine e_at 0 i rfl (by first | omega | (simp only [List.length_append, List.length_map, List.length_take, List.length_drop]; omega)) (fun b1 o1 x1 hA1 hx1 => ?_)
  refine s_y rfl (v := .pointer (some ⟨b1, o1 + i * 6, none⟩)) (y_at (d := entTy) (l := l) i hA1 rfl rfl rfl (rfl) (List.getElem?_eq_some_iff.1 hx1).1 Tryz.underlying23 (by kernel_rfl) (by kernel_rfl)) rfl ?_
  refine st rfl (o_ldnf 0 0 6 rfl rfl rfl rfl Tryz.underlying47 rfl (by kernel_rfl) (by kernel_rfl) rfl ?_)
  refine st rfl (o_call [] [2] (jseen1_ x1 k a) rfl rfl rfl rfl rfl rfl (fun v L' I' hq1 => ?_))
  obtain ⟨hv1, rfl, rfl⟩ := hq1
  refine e_by (¬ (labUnder x1.to a)) (fun h2 => ?_) (fun h2 => ?_)
  ·
   obtain rfl : v = .bool true := by rw [hv1, decide_eq_true h2]
   refine s_nil (q_then (c_true rfl (c_seq (c_region ?_))))
   refine s_y rfl (v := .int .i64 (i : Int)) (y_mv rfl) rfl ?_
   refine s_y rfl (v := .int .i64 (i : Int)) (y_as rfl) rfl ?_
   refine s_nil (q_then (c_ret (q_block_ret (q_then_ret (q_then_ret (q_block_ret (q_then_ret ?_)))))))
   refine c_fin (I' := []) [] [1, 2] rfl (.tmp rfl .nil) rfl rfl rfl ?_
   exact .inr ⟨i, by omega, by first | exact jall_end hi (by omega) | exact hi, ⟨_, hx1, by assumption⟩, rfl, rfl, rfl⟩
  ·
   obtain rfl : v = .bool false := by rw [hv1, decide_eq_false h2]
   refine s_nil (q_then (c_false rfl (c_skip (q_block (q_then (c_region ?_))))))
   refine s_y rfl (v := .int .i64 ((i : Int) + 1)) (y_add (r := (i : Int) + 1) rfl rfl rfl (by omega)) rfl ?_
   refine s_y rfl (v := .int .i64 ((i : Int) + 1)) (y_mv rfl) rfl ?_
   refine s_nil (q_then ?_)
   refine c_next [] [1, 2] (i + 1) ?_ ?_ ?_ (by rfl) (by rfl)
   · exact (show ((i + 1) ≤ l.length) ∧ (∀ y ∈ l.take (i + 1), labUnder y.to a) from ⟨by first | omega | simp_all | (simp; done), jall_step hi hx1 (by first | assumption | exact Classical.not_not.1 (by assumption))⟩)
   · show l.length - (i + 1) < l.length - i; omega
   · exact (.cons rfl rfl (.cons rfl rfl (.cons rfl rfl (.cons rfl (show (.int .i64 ((i : Int) + 1) : Value) = .int .i64 ((i + 1) : Int) from by first | rfl | (congr 1; omega) | (congr 1; simp; done) | (congr 1; simp; omega)) .nil))))
 ·
  refine s_y rfl (v := .bool false) (y_f (y_k (v := .bool (decide ((i : Int) < (l.length : Int)))) rfl rfl (fun _ => by kernel_rfl)) h1) rfl ?_
  refine s_nil (q_then (c_seq (c_false rfl ?_)))
  refine c_exit ?_
  refine q_then_exit ?_
  refine q_then_exit ?_
  refine q_block_here ?_
  refine q_then (c_seq (c_region ?_))
  refine s_y rfl (v := .int .i64 (-1)) (y_as rfl) rfl ?_
  refine s_nil (q_then (c_ret ?_))
  refine c_fin (I' := []) [] [0, 1] rfl (.tmp rfl .nil) rfl rfl rfl ?_
  exact .inl ⟨by first | exact jall_end hi (by omega) | exact hi, rfl, rfl, rfl⟩
theorem jdeleteFunc_ (A : Option Addr) (c : Nat) (l : List Jen) (k : Nat) (a : Lab) (hs : l.length ≤ 1000000) : Con Tryz.prog 30 [.slice A l.length c, .func (.func 28) #[] #[.pointer (some ⟨k, 0, none⟩)]] [ars entTy 47 A c l] [cellsAt k 0 [.int .i64 a.lv, .int .u64 (a.cs : Int), .int .i64 a.ig]] (fun v L' I' => ∃ A1 : Option Addr, ∃ c1 : Nat, v = .slice A1 (seenJ a l).length c1 ∧ L' = [win entTy 47 A1 c1 (seenJ a l)] ∧ I' = []) := by
 refine fn_of Tryz.func30 rfl Tryz.ntmps30 (by kernel_rfl) rfl (fun C => ?_)
 refine c_seq (c_region ?_)
 refine s_y rfl (v := .slice none 0 0) (y_as rfl) rfl ?_
 refine s_nil (q_then (c_seq (c_region ?_)))
 refine s_y rfl (v := .slice A l.length c) (y_mv rfl) rfl ?_
 refine s_y rfl (v := .func (.func 28) #[] #[.pointer (some ⟨k, 0, none⟩)]) (y_mv rfl) rfl ?_
 refine st rfl (o_lend [0] [] [0] (jindexFunc_ A c l k a (by first | omega | (simp; done) | (simp; omega) | assumption)) (.cons lend_ars .nil) rfl rfl rfl rfl rfl rfl rfl rfl (fun v L' I' hq1 => ?_))
 rcases hq1 with ⟨h1, rfl, rfl, rfl⟩ | ⟨i1, h2, h3, h4, rfl, rfl, rfl⟩
 ·
  refine ⟨rfl, ?_⟩
  refine s_y rfl (v := .int .i64 (-1)) (y_as rfl) rfl ?_
  refine s_nil (q_then (c_seq (c_seq (c_region ?_))))
  refine s_y rfl (v := .int .i64 (-1)) (y_mv rfl) rfl ?_
  refine s_y rfl (v := .bool true) (y_k rfl rfl (fun _ => by kernel_rfl)) rfl ?_
  refine s_nil (q_then (c_true rfl (c_seq (c_region ?_))))
  refine s_y rfl (v := .slice A l.length c) (y_mv rfl) rfl ?_
  refine s_y rfl (v := .slice A l.length c) (y_as rfl) rfl ?_
  refine s_nil (q_then (c_ret (q_then_ret ?_)))
  refine e_weak 0 rfl (fun _ h => h.win) ?_
  have hp : seenJ a l = l := by exact jseen_all (by assumption)
  refine c_fin (I' := []) [0] [0] rfl (.tmp rfl .nil) rfl rfl rfl ?_
  rw [hp]
  exact ⟨_, _, rfl, rfl, rfl⟩
 ·
  refine ⟨rfl, ?_⟩
  refine s_y rfl (v := .int .i64 (i1 : Int)) (y_as rfl) rfl ?_
  refine s_nil (q_then (c_seq (c_seq (c_region ?_))))
  refine s_y rfl (v := .int .i64 (i1 : Int)) (y_mv rfl) rfl ?_
  have h5 : ¬ ((i1 : Int) = (-1)) := by omega
  refine s_y rfl (v := .bool false) (y_f (y_k (v := .bool (decide ((i1 : Int) = (-1)))) rfl rfl (fun _ => by kernel_rfl)) h5) rfl ?_
  refine s_nil (q_then (c_false rfl (c_skip (q_then (c_seq (c_seq (c_region ?_)))))))
  refine s_y rfl (v := .int .i64 (i1 : Int)) (y_mv rfl) rfl ?_
  refine s_y rfl (v := .int .i64 ((i1 : Int) + 1)) (y_add (r := (i1 : Int) + 1) rfl rfl rfl (by omega)) rfl ?_
  refine s_y rfl (v := .int .i64 ((i1 : Int) + 1)) (y_as rfl) rfl ?_
  refine s_nil (q_then (c_block ?_))
  refine e_weak 0 rfl (fun _ h => h.win) ?_
  refine c_loopn (ι := Nat × Nat × (List Jen)) (fun (i, j, m) => (i < j) ∧ (j ≤ l.length) ∧ (m.length = l.length) ∧ (m.take i = seenJ a (l.take j)) ∧ (m.drop j = l.drop j)) (fun (i, j, m) => [(0, .slice A m.length c), (1, .func (.func 28) #[] #[.pointer (some ⟨k, 0, none⟩)]), (4, .slice none 0 0), (5, .int .i64 (i : Int)), (6, .int .i64 (j : Int))]) (fun (i, j, m) => [win entTy 47 A c m]) (fun (i, j, m) => [cellsAt k 0 [.int .i64 a.lv, .int .u64 (a.cs : Int), .int .i64 a.ig]]) (fun (i, j, m) => l.length - j) (i1, i1 + 1, l) [0] [0] (show (i1 < (i1 + 1)) ∧ ((i1 + 1) ≤ l.length) ∧ (l.length = l.length) ∧ (l.take i1 = seenJ a (l.take (i1 + 1))) ∧ (l.drop (i1 + 1) = l.drop (i1 + 1)) from ⟨by first | omega | simp_all | (simp; done), by first | omega | simp_all | (simp; done), rfl, jseen_init (by assumption) (by assumption), rfl⟩) ((.cons rfl rfl (.cons rfl rfl (.cons rfl rfl (.cons rfl rfl (.cons rfl (show (.int .i64 ((i1 : Int) + 1) : Value) = .int .i64 ((i1 + 1) : Int) from by first | rfl | (congr 1; omega) | (congr 1; simp; done) | (congr 1; simp; omega)) .nil)))))) rfl rfl ?_
  rintro ⟨i, j, m⟩ ⟨hij, hj, hm, h1, h2⟩
  show Ent 42 C [(0, .slice A m.length c), (1, .func (.func 28) #[] #[.pointer (some ⟨k, 0, none⟩)]), (4, .slice none 0 0), (5, .int .i64 (i : Int)), (6, .int .i64 (j : Int))] [] [win entTy 47 A c m] [cellsAt k 0 [.int .i64 a.lv, .int .u64 (a.cs : Int), .int .i64 a.ig]] _
  refine c_seq (c_seq (c_region ?_))
  refine s_y rfl (v := .int .i64 (j : Int)) (y_mv rfl) rfl ?_
  refine s_y rfl (v := .slice A m.length c) (y_mv rfl) rfl ?_
  refine s_y rfl (v := .int .i64 (m.length : Int)) (y_k rfl rfl (fun _ => by kernel_rfl)) rfl ?_
  refine e_by ((j : Int) < (m.length : Int)) (fun h6 => ?_) (fun h6 => ?_)
  ·
   refine s_y rfl (v := .bool true) (y_t (y_k (v := .bool (decide ((j : Int) < (m.length : Int)))) rfl rfl (fun _ => by kernel_rfl)) h6) rfl ?_
   refine s_nil (q_then (c_true rfl (c_skip (q_then (c_seq (c_block (c_seq (c_region ?_))))))))
   refine s_y rfl (v := .slice A m.length c) (y_mv rfl) rfl ?_
   refine s_y rfl (v := .int .i64 (j : Int)) (y_mv rfl) rfl ?_
   obtain ⟨x1, hx1⟩ : ∃ x, m[j]? = some x := ⟨_, List.getElem?_eq_getElem (by omega)⟩
   refine e_winb 0 rfl (by omega) (fun b1 o1 hA1 => ?_)
   refine s_y rfl (v := .pointer (some ⟨b1, o1 + j * 6, none⟩)) (y_at (d := entTy) (l := m) j hA1 rfl rfl rfl (rfl) (by omega) Tryz.underlying23 (by kernel_rfl) (by kernel_rfl)) rfl ?_
   refine st rfl (o_ldwn (d := entTy) 0 j rfl hA1 hx1 rfl rfl Tryz.underlying47 rfl (by kernel_rfl) (by kernel_rfl) rfl ?_)
   refine st rfl (o_box (cs := [.int .i64 0, .int .i64 0, .int .i64 0, .int .u64 0, .int .i64 0, .string (⟨#[]⟩ : ByteArray)]) (T := 47) rfl rfl rfl rfl (fun _ => by kernel_rfl) (fun b2 => ?_))
   refine st rfl (o_st 0 rfl rfl rfl rfl rfl (by kernel_rfl) (by kernel_rfl) rfl ?_)
   refine s_nil (q_then (c_seq (c_region ?_)))
   refine s_y rfl (v := .func (.func 28) #[] #[.pointer (some ⟨k, 0, none⟩)]) (y_mv rfl) rfl ?_
   refine st rfl (o_ldn 0 6 rfl rfl rfl rfl Tryz.underlying47 rfl (by kernel_rfl) (by kernel_rfl) rfl ?_)
   refine st rfl (o_call [] [0] (jseen1_ x1 k a) rfl rfl rfl rfl rfl rfl (fun v L' I' hq2 => ?_))
   obtain ⟨hv1, rfl, rfl⟩ := hq2
   refine e_by (¬ (labUnder x1.to a)) (fun h7 => ?_) (fun h7 => ?_)
   ·
    obtain rfl : v = .bool true := by rw [hv1, decide_eq_true h7]
    refine s_y rfl (v := .bool false) (y_k rfl rfl (fun _ => by kernel_rfl)) rfl ?_
    refine s_nil (q_then (c_false rfl (c_skip (q_block (q_then (c_region ?_))))))
    refine s_y rfl (v := .int .i64 (j : Int)) (y_mv rfl) rfl ?_
    refine s_y rfl (v := .int .i64 ((j : Int) + 1)) (y_add (r := (j : Int) + 1) rfl rfl rfl (by omega)) rfl ?_
    refine s_y rfl (v := .int .i64 ((j : Int) + 1)) (y_as rfl) rfl ?_
    refine s_nil (q_then ?_)
    refine c_next [1] [0] (i, j + 1, m) ?_ ?_ ?_ (by rfl) (by rfl)
    · exact (show (i < (j + 1)) ∧ ((j + 1) ≤ l.length) ∧ (m.length = l.length) ∧ (m.take i = seenJ a (l.take (j + 1))) ∧ (m.drop (j + 1) = l.drop (j + 1)) from ⟨by first | omega | simp_all | (simp; done), by first | omega | simp_all | (simp; done), by first | exact hm | (rw [List.length_set]; exact hm), by first | exact jseen_put (by omega) h1 h2 hx1 (by first | assumption | exact Classical.not_not.1 (by assumption)) | exact jseen_skip h1 h2 hx1 (by assumption), by first | exact jseen_drop hij h2 | exact jseen_drop0 h2⟩)
    · show l.length - (j + 1) < l.length - j; omega
    · exact (.cons rfl rfl (.cons rfl rfl (.cons rfl rfl (.cons rfl rfl (.cons rfl (show (.int .i64 ((j : Int) + 1) : Value) = .int .i64 ((j + 1) : Int) from by first | rfl | (congr 1; omega) | (congr 1; simp; done) | (congr 1; simp; omega)) .nil)))))
   ·
    obtain rfl : v = .bool false := by rw [hv1, decide_eq_false h7]
    refine s_y rfl (v := .bool true) (y_k rfl rfl (fun _ => by kernel_rfl)) rfl ?_
    refine s_nil (q_then (c_true rfl (c_seq (c_region ?_))))
    refine s_y rfl (v := .slice A m.length c) (y_mv rfl) rfl ?_
    refine s_y rfl (v := .int .i64 (i : Int)) (y_mv rfl) rfl ?_
    refine st rfl (o_ldn 0 6 rfl rfl rfl rfl Tryz.underlying47 rfl (by kernel_rfl) (by kernel_rfl) rfl ?_)
    obtain ⟨x2, hx2⟩ : ∃ x, m[i]? = some x := ⟨_, List.getElem?_eq_getElem (by omega)⟩
    refine e_winb 1 rfl (by omega) (fun b3 o2 hA2 => ?_)
    refine s_y rfl (v := .pointer (some ⟨b3, o2 + i * 6, none⟩)) (y_at (d := entTy) (l := m) i hA2 rfl rfl rfl (rfl) (by omega) Tryz.underlying23 (by kernel_rfl) (by kernel_rfl)) rfl ?_
    refine st rfl (o_stw (d := entTy) 1 i x1 rfl hA2 (by omega) rfl rfl rfl (by kernel_rfl) (by kernel_rfl) rfl ?_)
    have hN1 : m.length = (m.set i x1).length := by simp
    rw [hN1]
    refine s_nil (q_then (c_region ?_))
    refine s_y rfl (v := .int .i64 (i : Int)) (y_mv rfl) rfl ?_
    refine s_y rfl (v := .int .i64 ((i : Int) + 1)) (y_add (r := (i : Int) + 1) rfl rfl rfl (by omega)) rfl ?_
    refine s_y rfl (v := .int .i64 ((i : Int) + 1)) (y_as rfl) rfl ?_
    refine s_nil (q_block (q_then (c_region ?_)))
    refine s_y rfl (v := .int .i64 (j : Int)) (y_mv rfl) rfl ?_
    refine s_y rfl (v := .int .i64 ((j : Int) + 1)) (y_add (r := (j : Int) + 1) rfl rfl rfl (by omega)) rfl ?_
    refine s_y rfl (v := .int .i64 ((j : Int) + 1)) (y_as rfl) rfl ?_
    refine s_nil (q_then ?_)
    refine c_next [1] [0] (i + 1, j + 1, m.set i x1) ?_ ?_ ?_ (by rfl) (by rfl)
    · exact (show ((i + 1) < (j + 1)) ∧ ((j + 1) ≤ l.length) ∧ ((m.set i x1).length = l.length) ∧ ((m.set i x1).take (i + 1) = seenJ a (l.take (j + 1))) ∧ ((m.set i x1).drop (j + 1) = l.drop (j + 1)) from ⟨by first | omega | simp_all | (simp; done), by first | omega | simp_all | (simp; done), by first | exact hm | (rw [List.length_set]; exact hm), by first | exact jseen_put (by omega) h1 h2 hx1 (by first | assumption | exact Classical.not_not.1 (by assumption)) | exact jseen_skip h1 h2 hx1 (by assumption), by first | exact jseen_drop hij h2 | exact jseen_drop0 h2⟩)
    · show l.length - (j + 1) < l.length - j; omega
    · exact (.cons rfl rfl (.cons rfl rfl (.cons rfl rfl (.cons rfl (show (.int .i64 ((i : Int) + 1) : Value) = .int .i64 ((i + 1) : Int) from by first | rfl | (congr 1; omega) | (congr 1; simp; done) | (congr 1; simp; omega)) (.cons rfl (show (.int .i64 ((j : Int) + 1) : Value) = .int .i64 ((j + 1) : Int) from by first | rfl | (congr 1; omega) | (congr 1; simp; done) | (congr 1; simp; omega)) .nil)))))
  ·
   refine s_y rfl (v := .bool false) (y_f (y_k (v := .bool (decide ((j : Int) < (m.length : Int)))) rfl rfl (fun _ => by kernel_rfl)) h6) rfl ?_
   refine s_nil (q_then (c_false rfl ?_))
   refine c_exit ?_
   refine q_then_exit ?_
   refine q_then_exit ?_
   refine q_block_here ?_
   refine q_then (c_seq (c_region ?_))
   refine s_y rfl (v := .slice A m.length c) (y_mv rfl) rfl ?_
   refine s_y rfl (v := .int .i64 (i : Int)) (y_mv rfl) rfl ?_
   refine e_know 0 rfl (fun _ h => win.lens _ h) (fun hl1 => ?_)
   refine s_y rfl (v := .slice (cutA entTy A i c) (m.drop i).length (c - i)) (y_cut (d := entTy) (l := m) (l2 := m.drop i) i m.length c (by simp) rfl rfl (.at i rfl (rfl)) .no .no (by simp) Tryz.underlying23 (by kernel_rfl) (by kernel_rfl) (by first | omega | (simp; omega)) (by first | omega | (simp; omega)) (by first | omega | (simp; omega)) (by first | omega | (simp; omega))) rfl ?_
   refine st rfl (o_clear (d := entTy) (l := m) (lo := i) (z := .agg #[.int .i64 0, .int .i64 0, .int .i64 0, .int .u64 0, .int .i64 0, .string (⟨#[]⟩ : ByteArray)]) 0 (⟨0, 0, ⟨0, 0, 0⟩, ⟨#[]⟩⟩ : Jen) rfl rfl (by simp) (by omega) Tryz.underlying23 (by kernel_rfl) rfl (by decide) ?_)
   have hN2 : m.length = (m.take i ++ List.replicate (m.length - i) (⟨0, 0, ⟨0, 0, 0⟩, ⟨#[]⟩⟩ : Jen)).length := by simp; omega
   rw [hN2]
   refine s_nil (q_then (c_seq (c_region ?_)))
   refine s_y rfl (v := .slice A (m.take i ++ List.replicate (m.length - i) (⟨0, 0, ⟨0, 0, 0⟩, ⟨#[]⟩⟩ : Jen)).length c) (y_mv rfl) rfl ?_
   refine s_y rfl (v := .int .i64 (i : Int)) (y_mv rfl) rfl ?_
   refine e_know 0 rfl (fun _ h => win.lens _ h) (fun hl2 => ?_)
   refine e_weak 0 rfl (fun _ h => h.cut2 (lo := 0) (hi := i) (mx := c) (l2 := seenJ a l) (by exact jseen_fin (by omega) h1 (by omega)) (by first | omega | (simp; omega)) (by first | omega | (simp; omega)) (by first | omega | (simp; omega)) (by first | omega | (simp; omega))) ?_
   refine s_y rfl (v := .slice (cutA entTy A 0 c) (seenJ a l).length (c - 0)) (y_cut (d := entTy) (l := m.take i ++ List.replicate (m.length - i) (⟨0, 0, ⟨0, 0, 0⟩, ⟨#[]⟩⟩ : Jen)) (l2 := seenJ a l) 0 i c (by exact jseen_fin (by omega) h1 (by omega)) rfl rfl .no (.at i rfl (rfl)) .no (by simp) Tryz.underlying23 (by kernel_rfl) (by kernel_rfl) (by first | omega | (simp; omega)) (by first | omega | (simp; omega)) (by first | omega | (simp; omega)) (by first | omega | (simp; omega))) rfl ?_
   refine s_y rfl (v := .slice (cutA entTy A 0 c) (seenJ a l).length (c - 0)) (y_as rfl) rfl ?_
   refine s_nil (q_then (c_ret ?_))
   refine c_fin (I' := []) [0] [0] rfl (.tmp rfl .nil) rfl rfl rfl ?_
   exact ⟨_, _, rfl, rfl, rfl⟩
theorem jSeen_ (A : Option Addr) (c : Nat) (l : List Jen) (a : Lab) (hs : l.length ≤ 1000000) : Con Tryz.prog 15 [.slice A l.length c, .agg #[.int .i64 a.lv, .int .u64 (a.cs : Int), .int .i64 a.ig]] [] [rd entTy A c l] (fun v L' I' => ∃ A1 : Option Addr, ∃ c1 : Nat, v = .slice A1 (seenJ a l).length c1 ∧ L' = [] ∧ I' = [rd entTy A1 c1 (seenJ a l)]) := by
 refine fn_of Tryz.func15 rfl Tryz.ntmps15 (by kernel_rfl) rfl (fun C => ?_)
 refine c_seq (c_region ?_)
 refine st rfl (o_box (cs := [.int .i64 a.lv, .int .u64 (a.cs : Int), .int .i64 a.ig]) (T := 26) rfl rfl rfl rfl (fun _ => by kernel_rfl) (fun b1 => ?_))
 refine s_y rfl (v := .slice none 0 0) (y_as rfl) rfl ?_
 refine s_nil (q_then (c_seq (c_region ?_)))
 refine s_y rfl (v := .func (.func 28) #[] #[.pointer (some ⟨b1, 0, none⟩)]) (y_k rfl rfl (fun _ => by kernel_rfl)) rfl ?_
 refine s_y rfl (v := .func (.func 28) #[] #[.pointer (some ⟨b1, 0, none⟩)]) (y_as rfl) rfl ?_
 refine s_nil (q_then (c_seq (c_region ?_)))
 refine s_y rfl (v := .slice A l.length c) (y_mv rfl) rfl ?_
 refine st rfl (o_call [] [0] (jclone_ A c l (by first | omega | (simp; done) | (simp; omega) | assumption)) rfl rfl rfl rfl rfl rfl (fun v L' I' hq1 => ?_))
 obtain ⟨A1, c1, rfl, rfl, rfl⟩ := hq1
 refine s_y rfl (v := .func (.func 28) #[] #[.pointer (some ⟨b1, 0, none⟩)]) (y_mv rfl) rfl ?_
 refine st rfl (o_lend [1] [0] [] (jdeleteFunc_ A1 c1 l b1 a (by first | omega | (simp; done) | (simp; omega) | assumption)) (.cons lend_pt .nil) rfl rfl rfl rfl rfl rfl rfl rfl (fun v L' I' hq2 => ?_))
 obtain ⟨A2, c2, rfl, rfl, rfl⟩ := hq2
 refine ⟨rfl, ?_⟩
 refine s_y rfl (v := .slice A2 (seenJ a l).length c2) (y_as rfl) rfl ?_
 refine s_nil (q_then (c_ret ?_))
 refine e_stillw 0 rfl ?_
 refine c_fin (I' := [rd entTy A2 c2 (seenJ a l)]) [] [0, 1] rfl (.tmp rfl .nil) rfl rfl rfl ?_
 exact ⟨_, _, rfl, rfl, rfl⟩
theorem jrSame_ (A : Option Addr) (c : Nat) (l : List Jen) (B : Option Addr) (d : Nat) (r : List Jen) (hs : l.length ≤ 1000000) : Con Tryz.prog 14 [.slice A l.length c, .slice B r.length d] [] [rd entTy A c l, rd entTy B d r] (fun v L' I' => v = .bool (decide (l = r)) ∧ L' = [] ∧ I' = []) := by
 refine fn_of Tryz.func14 rfl Tryz.ntmps14 (by kernel_rfl) rfl (fun C => ?_)
 refine c_seq (c_region ?_)
 refine s_y rfl (v := .bool false) (y_as rfl) rfl ?_
 refine s_nil (q_then (c_seq (c_seq (c_region ?_))))
 refine s_y rfl (v := .slice A l.length c) (y_mv rfl) rfl ?_
 refine s_y rfl (v := .int .i64 (l.length : Int)) (y_k rfl rfl (fun _ => by kernel_rfl)) rfl ?_
 refine s_y rfl (v := .slice B r.length d) (y_mv rfl) rfl ?_
 refine s_y rfl (v := .int .i64 (r.length : Int)) (y_k rfl rfl (fun _ => by kernel_rfl)) rfl ?_
 refine e_by ((l.length : Int) = (r.length : Int)) (fun h1 => ?_) (fun h1 => ?_)
 ·
  refine s_y rfl (v := .bool false) (y_nt (y_k (v := .bool (!decide ((l.length : Int) = (r.length : Int)))) rfl rfl (fun _ => by kernel_rfl)) h1) rfl ?_
  refine s_nil (q_then (c_false rfl (c_skip (q_then (c_seq (c_seq (c_region ?_)))))))
  refine s_y rfl (v := .int .i64 0) (y_as rfl) rfl ?_
  refine s_nil (q_then (c_block ?_))
  refine c_loopn (ι := Nat) (fun k => (k ≤ l.length) ∧ (l.take k = r.take k)) (fun k => [(0, .slice A l.length c), (1, .slice B r.length d), (5, .int .i64 (k : Int))]) (fun k => []) (fun k => [rd entTy A c l, rd entTy B d r]) (fun k => l.length - k) (0) [] [0, 1] (show (0 ≤ l.length) ∧ (l.take 0 = r.take 0) from ⟨by first | omega | simp_all | (simp; done), by simp⟩) ((.cons rfl rfl (.cons rfl rfl (.cons rfl rfl .nil)))) rfl rfl ?_
  rintro k ⟨hk, he⟩
  show Ent 26 C [(0, .slice A l.length c), (1, .slice B r.length d), (5, .int .i64 (k : Int))] [] [] [rd entTy A c l, rd entTy B d r] _
  refine c_seq (c_seq (c_region ?_))
  refine s_y rfl (v := .int .i64 (k : Int)) (y_mv rfl) rfl ?_
  refine s_y rfl (v := .slice A l.length c) (y_mv rfl) rfl ?_
  refine s_y rfl (v := .int .i64 (l.length : Int)) (y_k rfl rfl (fun _ => by kernel_rfl)) rfl ?_
  refine e_by ((k : Int) < (l.length : Int)) (fun h2 => ?_) (fun h2 => ?_)
  ·
   refine s_y rfl (v := .bool true) (y_t (y_k (v := .bool (decide ((k : Int) < (l.length : Int)))) rfl rfl (fun _ => by kernel_rfl)) h2) rfl ?_
   refine s_nil (q_then (c_true rfl (c_skip (q_then (c_seq (c_block (c_seq ?_)))))))
   refine e_at 0 k rfl (by omega) (fun b1 o1 x1 hA1 hx1 => ?_)
   refine e_at 2 k rfl (by omega) (fun b2 o2 x2 hA2 hx2 => ?_)
   refine c_draw (l := ticked 9 0) [(⟨b1, o1 + k * 6, none⟩, .int .i64 x1.st), (⟨b1, o1 + k * 6 + 1, none⟩, .int .i64 x1.ru), (⟨b1, o1 + k * 6 + 2, none⟩, .int .i64 x1.to.lv), (⟨b1, o1 + k * 6 + 3, none⟩, .int .u64 (x1.to.cs : Int)), (⟨b1, o1 + k * 6 + 4, none⟩, .int .i64 x1.to.ig), (⟨b1, o1 + k * 6 + 5, none⟩, .string x1.da), (⟨b2, o2 + k * 6, none⟩, .int .i64 x2.st), (⟨b2, o2 + k * 6 + 1, none⟩, .int .i64 x2.ru), (⟨b2, o2 + k * 6 + 2, none⟩, .int .i64 x2.to.lv), (⟨b2, o2 + k * 6 + 3, none⟩, .int .u64 (x2.to.cs : Int)), (⟨b2, o2 + k * 6 + 4, none⟩, .int .i64 x2.to.ig), (⟨b2, o2 + k * 6 + 5, none⟩, .string x2.da)] [] (by kernel_rfl) rfl rfl ?_
   refine b_y (i := 0) (v := .slice A l.length c) (ticked 9 1) rfl rfl (by exact y_mv rfl) ?_
   refine b_y (i := 1) (v := .int .i64 (k : Int)) (ticked 9 3) rfl rfl (by exact y_mv rfl) ?_
   refine b_y (i := 2) (v := .pointer (some ⟨b1, o1 + k * 6, none⟩)) (ticked 9 7) rfl rfl (by exact y_at (d := entTy) (l := l) k hA1 rfl rfl rfl (rfl) (List.getElem?_eq_some_iff.1 hx1).1 Tryz.underlying23 (by kernel_rfl) (by kernel_rfl)) ?_
   refine b_y (i := 4) (v := .slice B r.length d) (ticked 9 23) rfl rfl (by exact y_mv rfl) ?_
   refine b_y (i := 5) (v := .int .i64 (k : Int)) (ticked 9 55) rfl rfl (by exact y_mv rfl) ?_
   refine b_y (i := 6) (v := .pointer (some ⟨b2, o2 + k * 6, none⟩)) (ticked 9 119) rfl rfl (by exact y_at (d := entTy) (l := r) k hA2 rfl rfl rfl (rfl) (List.getElem?_eq_some_iff.1 hx2).1 Tryz.underlying23 (by kernel_rfl) (by kernel_rfl)) ?_
   refine a_held (i := 3) (ticked 9 127) rfl (by as_aux_lemma => kernel_rfl) rfl rfl rfl (held_fact (j := 0) 1 rfl rfl (held_fact (j := 1) 1 rfl rfl (held_fact (j := 2) 1 rfl rfl (held_fact (j := 3) 1 rfl rfl (held_fact (j := 4) 1 rfl rfl (held_fact (j := 5) 1 rfl rfl (held_fact (j := 0) 0 rfl rfl (held_fact (j := 1) 0 rfl rfl (held_fact (j := 2) 0 rfl rfl (held_fact (j := 3) 0 rfl rfl (held_fact (j := 4) 0 rfl rfl (held_fact (j := 5) 0 rfl rfl held_nil)))))))))))) (h_ldn (vs := [.int .i64 x1.st, .int .i64 x1.ru, .int .i64 x1.to.lv, .int .u64 (x1.to.cs : Int), .int .i64 x1.to.ig, .string x1.da]) 0 6 rfl rfl rfl Tryz.underlying47 rfl (by kernel_rfl) (by kernel_rfl)) ?_
   refine a_held (i := 7) (ticked 9 255) rfl (by as_aux_lemma => kernel_rfl) rfl rfl rfl (held_fact (j := 0) 1 rfl rfl (held_fact (j := 1) 1 rfl rfl (held_fact (j := 2) 1 rfl rfl (held_fact (j := 3) 1 rfl rfl (held_fact (j := 4) 1 rfl rfl (held_fact (j := 5) 1 rfl rfl (held_fact (j := 0) 0 rfl rfl (held_fact (j := 1) 0 rfl rfl (held_fact (j := 2) 0 rfl rfl (held_fact (j := 3) 0 rfl rfl (held_fact (j := 4) 0 rfl rfl (held_fact (j := 5) 0 rfl rfl held_nil)))))))))))) (h_ldn (vs := [.int .i64 x2.st, .int .i64 x2.ru, .int .i64 x2.to.lv, .int .u64 (x2.to.cs : Int), .int .i64 x2.to.ig, .string x2.da]) 6 6 rfl rfl rfl Tryz.underlying47 rfl (by kernel_rfl) (by kernel_rfl)) ?_
   refine e_by (x1 = x2) (fun h3 => ?_) (fun h3 => ?_)
   ·
    refine b_y (i := 8) (v := .bool false) (ticked 9 511) rfl rfl (by exact y_nt (y_bin rfl rfl (fun w => eq_Jenn x1 x2 w)) h3) ?_
    refine a_done (by as_aux_lemma => kernel_rfl) ?_
    refine q_then (c_false rfl (c_skip (q_block (q_then (c_region ?_)))))
    refine s_y rfl (v := .int .i64 (k : Int)) (y_mv rfl) rfl ?_
    refine s_y rfl (v := .int .i64 ((k : Int) + 1)) (y_add (r := (k : Int) + 1) rfl rfl rfl (by omega)) rfl ?_
    refine s_y rfl (v := .int .i64 ((k : Int) + 1)) (y_as rfl) rfl ?_
    refine s_nil (q_then ?_)
    refine c_next [] [2, 3] (k + 1) ?_ ?_ ?_ (by rfl) (by rfl)
    · exact (show ((k + 1) ≤ l.length) ∧ (l.take (k + 1) = r.take (k + 1)) from ⟨by first | omega | simp_all | (simp; done), jeq_step he hx1 hx2 (by assumption)⟩)
    · show l.length - (k + 1) < l.length - k; omega
    · exact (.cons rfl rfl (.cons rfl rfl (.cons rfl (show (.int .i64 ((k : Int) + 1) : Value) = .int .i64 ((k + 1) : Int) from by first | rfl | (congr 1; omega) | (congr 1; simp; done) | (congr 1; simp; omega)) .nil)))
   ·
    refine b_y (i := 8) (v := .bool true) (ticked 9 511) rfl rfl (by exact y_nf (y_bin rfl rfl (fun w => eq_Jenn x1 x2 w)) h3) ?_
    refine a_done (by as_aux_lemma => kernel_rfl) ?_
    refine q_then (c_true rfl (c_seq (c_region ?_)))
    refine s_y rfl (v := .bool false) (y_as rfl) rfl ?_
    refine s_nil (q_then (c_ret (q_block_ret (q_then_ret (q_then_ret (q_block_ret (q_then_ret ?_)))))))
    refine c_fin (I' := []) [] [2, 3] rfl (.tmp rfl .nil) rfl rfl rfl ?_
    exact ⟨dec_f (by first | exact jeq_end he (by omega) (by omega) | exact jeq_not hx1 hx2 (by assumption) | exact jeq_len (by assumption) | (intro hh; subst hh; first | omega | contradiction)), rfl, rfl⟩
  ·
   refine s_y rfl (v := .bool false) (y_f (y_k (v := .bool (decide ((k : Int) < (l.length : Int)))) rfl rfl (fun _ => by kernel_rfl)) h2) rfl ?_
   refine s_nil (q_then (c_false rfl ?_))
   refine c_exit ?_
   refine q_then_exit ?_
   refine q_then_exit ?_
   refine q_block_here ?_
   refine q_then (c_seq (c_region ?_))
   refine s_y rfl (v := .bool true) (y_as rfl) rfl ?_
   refine s_nil (q_then (c_ret ?_))
   refine c_fin (I' := []) [] [0, 1] rfl (.tmp rfl .nil) rfl rfl rfl ?_
   exact ⟨dec_t (by first | exact jeq_end he (by omega) (by omega) | exact jeq_not hx1 hx2 (by assumption) | exact jeq_len (by assumption) | (intro hh; subst hh; first | omega | contradiction)), rfl, rfl⟩
 ·
  refine s_y rfl (v := .bool true) (y_nf (y_k (v := .bool (!decide ((l.length : Int) = (r.length : Int)))) rfl rfl (fun _ => by kernel_rfl)) h1) rfl ?_
  refine s_nil (q_then (c_true rfl (c_seq (c_region ?_))))
  refine s_y rfl (v := .bool false) (y_as rfl) rfl ?_
  refine s_nil (q_then (c_ret (q_then_ret ?_)))
  refine c_fin (I' := []) [] [0, 1] rfl (.tmp rfl .nil) rfl rfl rfl ?_
  exact ⟨dec_f (by first | exact jeq_end he (by omega) (by omega) | exact jeq_not hx1 hx2 (by assumption) | exact jeq_len (by assumption) | (intro hh; subst hh; first | omega | contradiction)), rfl, rfl⟩
theorem jEqual_ (A : Option Addr) (c : Nat) (l : List Jen) (B : Option Addr) (d : Nat) (r : List Jen) (hs : l.length ≤ 1000000) : Con Tryz.prog 33 [.slice A l.length c, .slice B r.length d] [] [rd entTy A c l, rd entTy B d r] (fun v L' I' => v = .bool (decide (l = r)) ∧ L' = [] ∧ I' = []) := by
 refine fn_of Tryz.func33 rfl Tryz.ntmps33 (by kernel_rfl) rfl (fun C => ?_)
 refine c_seq (c_region ?_)
 refine s_y rfl (v := .bool false) (y_as rfl) rfl ?_
 refine s_nil (q_then (c_seq (c_seq (c_region ?_))))
 refine s_y rfl (v := .slice A l.length c) (y_mv rfl) rfl ?_
 refine s_y rfl (v := .int .i64 (l.length : Int)) (y_k rfl rfl (fun _ => by kernel_rfl)) rfl ?_
 refine s_y rfl (v := .slice B r.length d) (y_mv rfl) rfl ?_
 refine s_y rfl (v := .int .i64 (r.length : Int)) (y_k rfl rfl (fun _ => by kernel_rfl)) rfl ?_
 refine e_by ((l.length : Int) = (r.length : Int)) (fun h1 => ?_) (fun h1 => ?_)
 ·
  refine s_y rfl (v := .bool false) (y_nt (y_k (v := .bool (!decide ((l.length : Int) = (r.length : Int)))) rfl rfl (fun _ => by kernel_rfl)) h1) rfl ?_
  refine s_nil (q_then (c_false rfl (c_skip (q_then (c_seq (c_seq (c_region ?_)))))))
  refine s_y rfl (v := .slice A l.length c) (y_mv rfl) rfl ?_
  refine s_y rfl (v := .int .i64 (l.length : Int)) (y_k rfl rfl (fun _ => by kernel_rfl)) rfl ?_
  refine s_y rfl (v := .int .i64 0) (y_mv rfl) rfl ?_
  refine s_nil (q_then (c_block ?_))
  refine c_loopn (ι := Nat) (fun k => (k ≤ l.length) ∧ (l.take k = r.take k)) (fun k => [(0, .slice A l.length c), (1, .slice B r.length d), (12, .int .i64 (l.length : Int)), (13, .int .i64 (k : Int))]) (fun k => []) (fun k => [rd entTy A c l, rd entTy B d r]) (fun k => l.length - k) (0) [] [0, 1] (show (0 ≤ l.length) ∧ (l.take 0 = r.take 0) from ⟨by first | omega | simp_all | (simp; done), by simp⟩) ((.cons rfl rfl (.cons rfl rfl (.cons rfl rfl (.cons rfl rfl .nil))))) rfl rfl ?_
  rintro k ⟨hk, he⟩
  show Ent 26 C [(0, .slice A l.length c), (1, .slice B r.length d), (12, .int .i64 (l.length : Int)), (13, .int .i64 (k : Int))] [] [] [rd entTy A c l, rd entTy B d r] _
  refine c_seq (c_region ?_)
  refine e_by ((k : Int) < (l.length : Int)) (fun h2 => ?_) (fun h2 => ?_)
  ·
   refine s_y rfl (v := .bool true) (y_t (y_k (v := .bool (decide ((k : Int) < (l.length : Int)))) rfl rfl (fun _ => by kernel_rfl)) h2) rfl ?_
   refine s_nil (q_then (c_seq (c_true rfl (c_skip (q_then (c_seq (c_block (c_seq (c_region ?_)))))))))
   refine s_y rfl (v := .int .i64 (k : Int)) (y_mv rfl) rfl ?_
   refine s_y rfl (v := .int .i64 (k : Int)) (y_as rfl) rfl ?_
   refine s_nil (q_then (c_seq ?_))
   refine e_at 0 k rfl (by omega) (fun b1 o1 x1 hA1 hx1 => ?_)
   refine e_at 2 k rfl (by omega) (fun b2 o2 x2 hA2 hx2 => ?_)
   refine c_draw (l := ticked 9 0) [(⟨b1, o1 + k * 6, none⟩, .int .i64 x1.st), (⟨b1, o1 + k * 6 + 1, none⟩, .int .i64 x1.ru), (⟨b1, o1 + k * 6 + 2, none⟩, .int .i64 x1.to.lv), (⟨b1, o1 + k * 6 + 3, none⟩, .int .u64 (x1.to.cs : Int)), (⟨b1, o1 + k * 6 + 4, none⟩, .int .i64 x1.to.ig), (⟨b1, o1 + k * 6 + 5, none⟩, .string x1.da), (⟨b2, o2 + k * 6, none⟩, .int .i64 x2.st), (⟨b2, o2 + k * 6 + 1, none⟩, .int .i64 x2.ru), (⟨b2, o2 + k * 6 + 2, none⟩, .int .i64 x2.to.lv), (⟨b2, o2 + k * 6 + 3, none⟩, .int .u64 (x2.to.cs : Int)), (⟨b2, o2 + k * 6 + 4, none⟩, .int .i64 x2.to.ig), (⟨b2, o2 + k * 6 + 5, none⟩, .string x2.da)] [] (by kernel_rfl) rfl rfl ?_
   refine b_y (i := 0) (v := .slice A l.length c) (ticked 9 1) rfl rfl (by exact y_mv rfl) ?_
   refine b_y (i := 1) (v := .int .i64 (k : Int)) (ticked 9 3) rfl rfl (by exact y_mv rfl) ?_
   refine b_y (i := 2) (v := .pointer (some ⟨b1, o1 + k * 6, none⟩)) (ticked 9 7) rfl rfl (by exact y_at (d := entTy) (l := l) k hA1 rfl rfl rfl (rfl) (List.getElem?_eq_some_iff.1 hx1).1 Tryz.underlying23 (by kernel_rfl) (by kernel_rfl)) ?_
   refine b_y (i := 4) (v := .slice B r.length d) (ticked 9 23) rfl rfl (by exact y_mv rfl) ?_
   refine b_y (i := 5) (v := .int .i64 (k : Int)) (ticked 9 55) rfl rfl (by exact y_mv rfl) ?_
   refine b_y (i := 6) (v := .pointer (some ⟨b2, o2 + k * 6, none⟩)) (ticked 9 119) rfl rfl (by exact y_at (d := entTy) (l := r) k hA2 rfl rfl rfl (rfl) (List.getElem?_eq_some_iff.1 hx2).1 Tryz.underlying23 (by kernel_rfl) (by kernel_rfl)) ?_
   refine a_held (i := 3) (ticked 9 127) rfl (by as_aux_lemma => kernel_rfl) rfl rfl rfl (held_fact (j := 0) 1 rfl rfl (held_fact (j := 1) 1 rfl rfl (held_fact (j := 2) 1 rfl rfl (held_fact (j := 3) 1 rfl rfl (held_fact (j := 4) 1 rfl rfl (held_fact (j := 5) 1 rfl rfl (held_fact (j := 0) 0 rfl rfl (held_fact (j := 1) 0 rfl rfl (held_fact (j := 2) 0 rfl rfl (held_fact (j := 3) 0 rfl rfl (held_fact (j := 4) 0 rfl rfl (held_fact (j := 5) 0 rfl rfl held_nil)))))))))))) (h_ldn (vs := [.int .i64 x1.st, .int .i64 x1.ru, .int .i64 x1.to.lv, .int .u64 (x1.to.cs : Int), .int .i64 x1.to.ig, .string x1.da]) 0 6 rfl rfl rfl Tryz.underlying47 rfl (by kernel_rfl) (by kernel_rfl)) ?_
   refine a_held (i := 7) (ticked 9 255) rfl (by as_aux_lemma => kernel_rfl) rfl rfl rfl (held_fact (j := 0) 1 rfl rfl (held_fact (j := 1) 1 rfl rfl (held_fact (j := 2) 1 rfl rfl (held_fact (j := 3) 1 rfl rfl (held_fact (j := 4) 1 rfl rfl (held_fact (j := 5) 1 rfl rfl (held_fact (j := 0) 0 rfl rfl (held_fact (j := 1) 0 rfl rfl (held_fact (j := 2) 0 rfl rfl (held_fact (j := 3) 0 rfl rfl (held_fact (j := 4) 0 rfl rfl (held_fact (j := 5) 0 rfl rfl held_nil)))))))))))) (h_ldn (vs := [.int .i64 x2.st, .int .i64 x2.ru, .int .i64 x2.to.lv, .int .u64 (x2.to.cs : Int), .int .i64 x2.to.ig, .string x2.da]) 6 6 rfl rfl rfl Tryz.underlying47 rfl (by kernel_rfl) (by kernel_rfl)) ?_
   refine e_by (x1 = x2) (fun h3 => ?_) (fun h3 => ?_)
   ·
    refine b_y (i := 8) (v := .bool false) (ticked 9 511) rfl rfl (by exact y_nt (y_bin rfl rfl (fun w => eq_Jenn x1 x2 w)) h3) ?_
    refine a_done (by as_aux_lemma => kernel_rfl) ?_
    refine q_then (c_false rfl (c_skip (q_block (q_then (c_region ?_)))))
    refine s_y rfl (v := .int .i64 ((k : Int) + 1)) (y_add (r := (k : Int) + 1) rfl rfl rfl (by omega)) rfl ?_
    refine s_y rfl (v := .int .i64 ((k : Int) + 1)) (y_mv rfl) rfl ?_
    refine s_nil (q_then ?_)
    refine c_next [] [2, 3] (k + 1) ?_ ?_ ?_ (by rfl) (by rfl)
    · exact (show ((k + 1) ≤ l.length) ∧ (l.take (k + 1) = r.take (k + 1)) from ⟨by first | omega | simp_all | (simp; done), jeq_step he hx1 hx2 (by assumption)⟩)
    · show l.length - (k + 1) < l.length - k; omega
    · exact (.cons rfl rfl (.cons rfl rfl (.cons rfl rfl (.cons rfl (show (.int .i64 ((k : Int) + 1) : Value) = .int .i64 ((k + 1) : Int) from by first | rfl | (congr 1; omega) | (congr 1; simp; done) | (congr 1; simp; omega)) .nil))))
   ·
    refine b_y (i := 8) (v := .bool true) (ticked 9 511) rfl rfl (by exact y_nf (y_bin rfl rfl (fun w => eq_Jenn x1 x2 w)) h3) ?_
    refine a_done (by as_aux_lemma => kernel_rfl) ?_
    refine q_then (c_true rfl (c_seq (c_region ?_)))
    refine s_y rfl (v := .bool false) (y_as rfl) rfl ?_
    refine s_nil (q_then (c_ret (q_block_ret (q_then_ret (q_then_ret (q_block_ret (q_then_ret ?_)))))))
    refine c_fin (I' := []) [] [2, 3] rfl (.tmp rfl .nil) rfl rfl rfl ?_
    exact ⟨dec_f (by first | exact jeq_end he (by omega) (by omega) | exact jeq_not hx1 hx2 (by assumption) | exact jeq_len (by assumption) | (intro hh; subst hh; first | omega | contradiction)), rfl, rfl⟩
  ·
   refine s_y rfl (v := .bool false) (y_f (y_k (v := .bool (decide ((k : Int) < (l.length : Int)))) rfl rfl (fun _ => by kernel_rfl)) h2) rfl ?_
   refine s_nil (q_then (c_seq (c_false rfl ?_)))
   refine c_exit ?_
   refine q_then_exit ?_
   refine q_then_exit ?_
   refine q_block_here ?_
   refine q_then (c_seq (c_region ?_))
   refine s_y rfl (v := .bool true) (y_as rfl) rfl ?_
   refine s_nil (q_then (c_ret ?_))
   refine c_fin (I' := []) [] [0, 1] rfl (.tmp rfl .nil) rfl rfl rfl ?_
   exact ⟨dec_t (by first | exact jeq_end he (by omega) (by omega) | exact jeq_not hx1 hx2 (by assumption) | exact jeq_len (by assumption) | (intro hh; subst hh; first | omega | contradiction)), rfl, rfl⟩
 ·
  refine s_y rfl (v := .bool true) (y_nf (y_k (v := .bool (!decide ((l.length : Int) = (r.length : Int)))) rfl rfl (fun _ => by kernel_rfl)) h1) rfl ?_
  refine s_nil (q_then (c_true rfl (c_seq (c_region ?_))))
  refine s_y rfl (v := .bool false) (y_as rfl) rfl ?_
  refine s_nil (q_then (c_ret (q_then_ret ?_)))
  refine c_fin (I' := []) [] [0, 1] rfl (.tmp rfl .nil) rfl rfl rfl ?_
  exact ⟨dec_f (by first | exact jeq_end he (by omega) (by omega) | exact jeq_not hx1 hx2 (by assumption) | exact jeq_len (by assumption) | (intro hh; subst hh; first | omega | contradiction)), rfl, rfl⟩
theorem jSame_ (A : Option Addr) (c : Nat) (l : List Jen) (B : Option Addr) (d : Nat) (r : List Jen) (hs : l.length ≤ 1000000) : Con Tryz.prog 17 [.slice A l.length c, .slice B r.length d] [] [rd entTy A c l, rd entTy B d r] (fun v L' I' => v = .bool (decide (l = r)) ∧ L' = [] ∧ I' = []) := by
 refine fn_of Tryz.func17 rfl Tryz.ntmps17 (by kernel_rfl) rfl (fun C => ?_)
 refine c_seq (c_region ?_)
 refine s_y rfl (v := .bool false) (y_as rfl) rfl ?_
 refine s_nil (q_then (c_seq (c_region ?_)))
 refine s_y rfl (v := .slice A l.length c) (y_mv rfl) rfl ?_
 refine s_y rfl (v := .slice B r.length d) (y_mv rfl) rfl ?_
 refine st rfl (o_call [] [0, 1] (jEqual_ A c l B d r (by first | omega | (simp; done) | (simp; omega) | assumption)) rfl rfl rfl rfl rfl rfl (fun v L' I' hq1 => ?_))
 obtain ⟨rfl, rfl, rfl⟩ := hq1
 refine s_y rfl (v := .bool (decide (l = r))) (y_as rfl) rfl ?_
 refine s_nil (q_then (c_ret ?_))
 refine c_fin (I' := []) [] [0, 1] rfl (.tmp rfl .nil) rfl rfl rfl ?_
 exact ⟨rfl, rfl, rfl⟩
end Go.Proofs.YthehnjbdkjnlpaaGreatDoor
