/- The laws of chapter 15 (journal), walked over the given program; no condition but what stands in each theorem: part KC. -/
import Derived.Test.YthehnjbdkjnlpaaGreatDoorRJH
import Derived.Test.YthehnjbdkjnlpaaGreatDoorRKA
set_option linter.unusedVariables false
set_option linter.unusedSimpArgs false
set_option maxRecDepth 100000
set_option maxHeartbeats 8000000
namespace Go.Proofs.YthehnjbdkjnlpaaGreatDoor
open Go Go.Sl Go.RowKit Go.Extern.Stop Go.Stop Go.Extern
theorem rjOf_ (A : Option Addr) (c : Nat) (l : List Jen) (id : Int) (hn : l.length ≤ 1000) : Con Tryz.prog 13 [.slice A l.length c, .int .i64 id] [] [rd entTy A c l] (fun v L' I' => ∃ A1 : Option Addr, ∃ c1 : Nat, v = .slice A1 (datF id l).length c1 ∧ L' = [] ∧ I' = [rd strTy A1 c1 (datF id l)]) := by
 refine fn_of Tryz.func13 rfl Tryz.ntmps13 (by kernel_rfl) rfl (fun C => ?_)
 refine c_seq (c_region ?_)
 refine s_y rfl (v := .slice none 0 0) (y_as rfl) rfl ?_
 refine s_nil (q_then (c_seq (c_region ?_)))
 refine s_y rfl (v := .slice none 0 0) (y_as rfl) rfl ?_
 refine s_nil (q_then (c_seq (c_seq (c_region ?_))))
 refine s_y rfl (v := .int .i64 0) (y_as rfl) rfl ?_
 refine s_nil (q_then (c_block ?_))
 refine e_nil strTy 9 ?_
 refine c_loopn (ι := Nat × (List ByteArray) × (Option Addr) × Nat) (fun (k, o, Ao, co) => (k ≤ l.length) ∧ (o = datF id (l.take k))) (fun (k, o, Ao, co) => [(0, .slice A l.length c), (1, .int .i64 id), (4, .slice none 0 0), (5, .slice Ao o.length co), (6, .int .i64 (k : Int))]) (fun (k, o, Ao, co) => [ars strTy 9 Ao co o]) (fun (k, o, Ao, co) => [rd entTy A c l]) (fun (k, o, Ao, co) => l.length - k) (0, ([] : List ByteArray), none, 0) [0] [0] (show (0 ≤ l.length) ∧ (([] : List ByteArray) = datF id (l.take 0)) from ⟨by first | omega | simp_all | (simp; done), rfl⟩) ((.cons rfl rfl (.cons rfl rfl (.cons rfl rfl (.cons rfl (show (.slice none 0 0 : Value) = .slice none ([] : List ByteArray).length 0 from by first | rfl | (congr 1; omega) | (congr 1; simp; done) | (congr 1; simp; omega)) (.cons rfl rfl .nil)))))) rfl rfl ?_
 rintro ⟨k, o, Ao, co⟩ ⟨hk, ho⟩
 show Ent 29 C [(0, .slice A l.length c), (1, .int .i64 id), (4, .slice none 0 0), (5, .slice Ao o.length co), (6, .int .i64 (k : Int))] [] [ars strTy 9 Ao co o] [rd entTy A c l] _
 refine c_seq (c_seq (c_region ?_))
 refine s_y rfl (v := .int .i64 (k : Int)) (y_mv rfl) rfl ?_
 refine s_y rfl (v := .slice A l.length c) (y_mv rfl) rfl ?_
 refine s_y rfl (v := .int .i64 (l.length : Int)) (y_k rfl rfl (fun _ => by kernel_rfl)) rfl ?_
 refine e_by ((k : Int) < (l.length : Int)) (fun h1 => ?_) (fun h1 => ?_)
 ·
  refine s_y rfl (v := .bool true) (y_t (y_k (v := .bool (decide ((k : Int) < (l.length : Int)))) rfl rfl (fun _ => by kernel_rfl)) h1) rfl ?_
  refine s_nil (q_then (c_true rfl (c_skip (q_then (c_seq (c_block (c_seq (c_region ?_))))))))
  refine s_y rfl (v := .slice A l.length c) (y_mv rfl) rfl ?_
  refine s_y rfl (v := .int .i64 (k : Int)) (y_mv rfl) rfl ?_
  refine e_at 0 k rfl (by first | omega | (simp only [List.length_append, List.length_map, List.length_take, List.length_drop]; omega)) (fun b1 o1 x1 hA1 hx1 => ?_)
  refine s_y rfl (v := .pointer (some ⟨b1, o1 + k * 6, none⟩)) (y_at (d := entTy) (l := l) k hA1 rfl rfl rfl (rfl) (List.getElem?_eq_some_iff.1 hx1).1 Tryz.underlying23 (by kernel_rfl) (by kernel_rfl)) rfl ?_
  refine s_y rfl (v := .pointer (some ⟨b1, o1 + k * 6 + 1, none⟩)) (y_k rfl rfl (fun _ => by kernel_rfl)) rfl ?_
  refine st rfl (o_ldf 0 1 rfl rfl rfl Tryz.underlying3 rfl rfl ?_)
  refine s_y rfl (v := .int .i64 id) (y_mv rfl) rfl ?_
  refine e_by (x1.ru = id) (fun h2 => ?_) (fun h2 => ?_)
  ·
   refine s_y rfl (v := .bool true) (y_t (y_k (v := .bool (decide (x1.ru = id))) rfl rfl (fun _ => by kernel_rfl)) h2) rfl ?_
   refine s_nil (q_then (c_true rfl (c_region ?_)))
   refine s_y rfl (v := .slice Ao o.length co) (y_mv rfl) rfl ?_
   refine s_y rfl (v := .slice A l.length c) (y_mv rfl) rfl ?_
   refine s_y rfl (v := .int .i64 (k : Int)) (y_mv rfl) rfl ?_
   refine s_y rfl (v := .pointer (some ⟨b1, o1 + k * 6, none⟩)) (y_at (d := entTy) (l := l) k hA1 rfl rfl rfl (rfl) (List.getElem?_eq_some_iff.1 hx1).1 Tryz.underlying23 (by kernel_rfl) (by kernel_rfl)) rfl ?_
   refine s_y rfl (v := .pointer (some ⟨b1, o1 + k * 6 + 5, none⟩)) (y_k rfl rfl (fun _ => by kernel_rfl)) rfl ?_
   refine st rfl (o_ldf 0 5 rfl rfl rfl Tryz.underlying9 rfl rfl ?_)
   refine st rfl (o_lit (cs := [.string x1.da]) (T := 9) (m := 1) rfl rfl rfl rfl (fun _ => by kernel_rfl) (fun b2 => ?_))
   refine st rfl (o_app (l := o) (us := [x1.da]) 1 rfl rfl rfl rfl rfl (src_pt 0 rfl) Tryz.underlying33 (elem_of (z := .string (⟨#[]⟩ : ByteArray)) (sz := 1) (bytes := 16) (by kernel_rfl) rfl) rfl (by have h1 := dat_len id (l.take k); rw [← ho] at h1; simp only [List.length_take] at h1; simp only [List.length_cons, List.length_nil]; omega) rfl rfl (fun A1 c1 => ?_))
   refine s_y rfl (v := .slice A1 (o ++ [x1.da]).length c1) (y_as rfl) rfl ?_
   refine s_nil (q_block (q_then (c_region ?_)))
   refine s_y rfl (v := .int .i64 (k : Int)) (y_mv rfl) rfl ?_
   refine s_y rfl (v := .int .i64 ((k : Int) + 1)) (y_add (r := (k : Int) + 1) rfl rfl rfl (by omega)) rfl ?_
   refine s_y rfl (v := .int .i64 ((k : Int) + 1)) (y_as rfl) rfl ?_
   refine s_nil (q_then ?_)
   refine c_next [1] [1] (k + 1, o ++ [x1.da], A1, c1) ?_ ?_ ?_ (by rfl) (by rfl)
   · exact (show ((k + 1) ≤ l.length) ∧ ((o ++ [x1.da]) = datF id (l.take (k + 1))) from ⟨by first | omega | simp_all | (simp; done), by first | exact rdt_t ho hx1 (by assumption) | exact rdt_f ho hx1 (by assumption)⟩)
   · show l.length - (k + 1) < l.length - k; omega
   · exact (.cons rfl rfl (.cons rfl rfl (.cons rfl rfl (.cons rfl rfl (.cons rfl (show (.int .i64 ((k : Int) + 1) : Value) = .int .i64 ((k + 1) : Int) from by first | rfl | (congr 1; omega) | (congr 1; simp; done) | (congr 1; simp; omega)) .nil)))))
  ·
   refine s_y rfl (v := .bool false) (y_f (y_k (v := .bool (decide (x1.ru = id))) rfl rfl (fun _ => by kernel_rfl)) h2) rfl ?_
   refine s_nil (q_then (c_false rfl (c_skip (q_block (q_then (c_region ?_))))))
   refine s_y rfl (v := .int .i64 (k : Int)) (y_mv rfl) rfl ?_
   refine s_y rfl (v := .int .i64 ((k : Int) + 1)) (y_add (r := (k : Int) + 1) rfl rfl rfl (by omega)) rfl ?_
   refine s_y rfl (v := .int .i64 ((k : Int) + 1)) (y_as rfl) rfl ?_
   refine s_nil (q_then ?_)
   refine c_next [0] [1] (k + 1, o, Ao, co) ?_ ?_ ?_ (by rfl) (by rfl)
   · exact (show ((k + 1) ≤ l.length) ∧ (o = datF id (l.take (k + 1))) from ⟨by first | omega | simp_all | (simp; done), by first | exact rdt_t ho hx1 (by assumption) | exact rdt_f ho hx1 (by assumption)⟩)
   · show l.length - (k + 1) < l.length - k; omega
   · exact (.cons rfl rfl (.cons rfl rfl (.cons rfl rfl (.cons rfl rfl (.cons rfl (show (.int .i64 ((k : Int) + 1) : Value) = .int .i64 ((k + 1) : Int) from by first | rfl | (congr 1; omega) | (congr 1; simp; done) | (congr 1; simp; omega)) .nil)))))
 ·
  refine s_y rfl (v := .bool false) (y_f (y_k (v := .bool (decide ((k : Int) < (l.length : Int)))) rfl rfl (fun _ => by kernel_rfl)) h1) rfl ?_
  refine s_nil (q_then (c_false rfl ?_))
  refine c_exit ?_
  refine q_then_exit ?_
  refine q_then_exit ?_
  refine q_block_here ?_
  refine q_then (c_seq (c_region ?_))
  refine s_y rfl (v := .slice Ao o.length co) (y_mv rfl) rfl ?_
  refine s_y rfl (v := .slice Ao o.length co) (y_as rfl) rfl ?_
  refine s_nil (q_then (c_ret ?_))
  refine e_still 0 rfl ?_
  have hp : datF id l = o := by rw [ho, List.take_of_length_le (by omega)]
  refine c_fin (I' := [rd strTy Ao co o]) [] [0, 1] rfl (.tmp rfl .nil) rfl rfl rfl ?_
  rw [hp]
  exact ⟨_, _, rfl, rfl, rfl⟩
theorem rjSeen_ (A : Option Addr) (c : Nat) (l : List Jen) (a : Lab) (hn : l.length ≤ 1000) (h64 : ∀ y ∈ l, jen64 y) (ha : lab64 a) : Con Tryz.prog 16 [.slice A l.length c, .agg #[.int .i64 a.lv, .int .u64 (a.cs : Int), .int .i64 a.ig]] [] [rd entTy A c l] (fun v L' I' => ∃ A1 : Option Addr, ∃ c1 : Nat, v = .slice A1 (seenJ a l).length c1 ∧ L' = [] ∧ I' = [rd entTy A1 c1 (seenJ a l)]) := by
 refine fn_of Tryz.func16 rfl Tryz.ntmps16 (by kernel_rfl) rfl (fun C => ?_)
 refine c_seq (c_region ?_)
 refine st rfl (o_box (cs := [.int .i64 a.lv, .int .u64 (a.cs : Int), .int .i64 a.ig]) (T := 26) rfl rfl rfl rfl (fun _ => by kernel_rfl) (fun b1 => ?_))
 refine s_y rfl (v := .slice none 0 0) (y_as rfl) rfl ?_
 refine s_nil (q_then (c_seq (c_region ?_)))
 refine s_y rfl (v := .slice none 0 0) (y_as rfl) rfl ?_
 refine s_nil (q_then (c_seq (c_seq (c_region ?_))))
 refine s_y rfl (v := .int .i64 0) (y_as rfl) rfl ?_
 refine s_nil (q_then (c_block ?_))
 refine e_nil entTy 47 ?_
 refine c_loopn (ι := Nat × (List Jen) × (Option Addr) × Nat) (fun (k, o, Ao, co) => (k ≤ l.length) ∧ (o = seenJ a (l.take k))) (fun (k, o, Ao, co) => [(0, .slice A l.length c), (3, .pointer (some ⟨b1, 0, none⟩)), (4, .slice none 0 0), (5, .slice Ao o.length co), (6, .int .i64 (k : Int))]) (fun (k, o, Ao, co) => [pt b1 [.int .i64 a.lv, .int .u64 (a.cs : Int), .int .i64 a.ig] 26, ars entTy 47 Ao co o]) (fun (k, o, Ao, co) => [rd entTy A c l]) (fun (k, o, Ao, co) => l.length - k) (0, ([] : List Jen), none, 0) [1, 0] [0] (show (0 ≤ l.length) ∧ (([] : List Jen) = seenJ a (l.take 0)) from ⟨by first | omega | simp_all | (simp; done), rfl⟩) ((.cons rfl rfl (.cons rfl rfl (.cons rfl rfl (.cons rfl (show (.slice none 0 0 : Value) = .slice none ([] : List Jen).length 0 from by first | rfl | (congr 1; omega) | (congr 1; simp; done) | (congr 1; simp; omega)) (.cons rfl rfl .nil)))))) rfl rfl ?_
 rintro ⟨k, o, Ao, co⟩ ⟨hk, ho⟩
 show Ent 28 C [(0, .slice A l.length c), (3, .pointer (some ⟨b1, 0, none⟩)), (4, .slice none 0 0), (5, .slice Ao o.length co), (6, .int .i64 (k : Int))] [] [pt b1 [.int .i64 a.lv, .int .u64 (a.cs : Int), .int .i64 a.ig] 26, ars entTy 47 Ao co o] [rd entTy A c l] _
 refine c_seq (c_seq (c_region ?_))
 refine s_y rfl (v := .int .i64 (k : Int)) (y_mv rfl) rfl ?_
 refine s_y rfl (v := .slice A l.length c) (y_mv rfl) rfl ?_
 refine s_y rfl (v := .int .i64 (l.length : Int)) (y_k rfl rfl (fun _ => by kernel_rfl)) rfl ?_
 refine e_by ((k : Int) < (l.length : Int)) (fun h65 => ?_) (fun h65 => ?_)
 ·
  refine s_y rfl (v := .bool true) (y_t (y_k (v := .bool (decide ((k : Int) < (l.length : Int)))) rfl rfl (fun _ => by kernel_rfl)) h65) rfl ?_
  refine s_nil (q_then (c_true rfl (c_skip (q_then (c_seq (c_block (c_seq ?_)))))))
  refine e_at 0 k rfl (by first | omega | (simp only [List.length_append, List.length_map, List.length_take, List.length_drop]; omega)) (fun b2 o1 x1 hA1 hx1 => ?_)
  refine c_draw (l := ticked 7 0) [(⟨b1, 0, none⟩, .int .i64 a.lv), (⟨b1, 1, none⟩, .int .u64 (a.cs : Int)), (⟨b1, 2, none⟩, .int .i64 a.ig)] [] (by kernel_rfl) rfl rfl ?_
  refine b_y (i := 0) (v := .slice A l.length c) (ticked 7 1) rfl rfl (by exact y_mv rfl) ?_
  refine b_y (i := 1) (v := .int .i64 (k : Int)) (ticked 7 3) rfl rfl (by exact y_mv rfl) ?_
  refine b_y (i := 2) (v := .pointer (some ⟨b2, o1 + k * 6, none⟩)) (ticked 7 7) rfl rfl (by exact y_at (d := entTy) (l := l) k hA1 rfl rfl rfl (rfl) (List.getElem?_eq_some_iff.1 hx1).1 Tryz.underlying23 (by kernel_rfl) (by kernel_rfl)) ?_
  refine b_y (i := 3) (v := .pointer (some ⟨b2, o1 + k * 6 + 2, none⟩)) (ticked 7 15) rfl rfl (by exact y_k rfl rfl (fun _ => by kernel_rfl)) ?_
  refine a_held (i := 5) (ticked 7 47) rfl (by as_aux_lemma => kernel_rfl) rfl rfl rfl (held_pt 0 rfl rfl (held_pt 0 rfl rfl (held_pt 0 rfl rfl held_nil))) (h_ldn (vs := [.int .i64 a.lv, .int .u64 (a.cs : Int), .int .i64 a.ig]) 0 3 rfl rfl rfl Tryz.underlying26 rfl (by kernel_rfl) (by kernel_rfl)) ?_
  refine a_each (rs := [4]) (by as_aux_lemma => kernel_rfl) (.cons (ticked 7 63) rfl rfl rfl (o_ldnf 0 2 3 rfl rfl rfl rfl Tryz.underlying26 rfl (by kernel_rfl) (by kernel_rfl) rfl ?_) .nil) (List.cons_ne_nil _ _)
  refine a_and (held_pt 0 rfl rfl (held_pt 0 rfl rfl (held_pt 0 rfl rfl held_nil))) ?_
  refine a_each (rs := [6]) (by as_aux_lemma => kernel_rfl) (.cons (ticked 7 127) rfl rfl rfl (o_call [] [] (rUnder_ x1.to a (h64 _ (List.mem_of_getElem? hx1)) (ha)) rfl rfl rfl rfl rfl rfl (fun v L' I' hq1 => ?_)) .nil) (List.cons_ne_nil _ _)
  obtain ⟨hv1, rfl, rfl⟩ := hq1
  refine e_by (labUnder x1.to a) (fun h66 => ?_) (fun h66 => ?_)
  ·
   obtain rfl : v = .bool true := by rw [hv1, decide_eq_true h66]
   refine a_and (held_pt 0 rfl rfl (held_pt 0 rfl rfl (held_pt 0 rfl rfl held_nil))) ?_
   refine a_done (by as_aux_lemma => kernel_rfl) ?_
   refine q_then (c_true rfl (c_region ?_))
   refine s_y rfl (v := .slice Ao o.length co) (y_mv rfl) rfl ?_
   refine s_y rfl (v := .slice A l.length c) (y_mv rfl) rfl ?_
   refine s_y rfl (v := .int .i64 (k : Int)) (y_mv rfl) rfl ?_
   refine s_y rfl (v := .pointer (some ⟨b2, o1 + k * 6, none⟩)) (y_at (d := entTy) (l := l) k hA1 rfl rfl rfl (rfl) (List.getElem?_eq_some_iff.1 hx1).1 Tryz.underlying23 (by kernel_rfl) (by kernel_rfl)) rfl ?_
   refine st rfl (o_ldnf 0 0 6 rfl rfl rfl rfl Tryz.underlying47 rfl (by kernel_rfl) (by kernel_rfl) rfl ?_)
   refine st rfl (o_lit (cs := [.int .i64 x1.st, .int .i64 x1.ru, .int .i64 x1.to.lv, .int .u64 (x1.to.cs : Int), .int .i64 x1.to.ig, .string x1.da]) (T := 47) (m := 1) rfl rfl rfl rfl (fun _ => by kernel_rfl) (fun b3 => ?_))
   refine st rfl (o_app (l := o) (us := [x1]) 2 rfl rfl rfl rfl rfl (src_pt 0 rfl) Tryz.underlying23 (elem_of (z := .agg #[.int .i64 0, .int .i64 0, .int .i64 0, .int .u64 0, .int .i64 0, .string (⟨#[]⟩ : ByteArray)]) (sz := 6) (bytes := 56) (by kernel_rfl) rfl) rfl (by have h1 := jseen_len (a := a) (l := l.take k); rw [← ho] at h1; simp only [List.length_take] at h1; simp only [List.length_cons, List.length_nil]; omega) rfl rfl (fun A1 c1 => ?_))
   refine s_y rfl (v := .slice A1 (o ++ [x1]).length c1) (y_as rfl) rfl ?_
   refine s_nil (q_block (q_then (c_region ?_)))
   refine s_y rfl (v := .int .i64 (k : Int)) (y_mv rfl) rfl ?_
   refine s_y rfl (v := .int .i64 ((k : Int) + 1)) (y_add (r := (k : Int) + 1) rfl rfl rfl (by omega)) rfl ?_
   refine s_y rfl (v := .int .i64 ((k : Int) + 1)) (y_as rfl) rfl ?_
   refine s_nil (q_then ?_)
   refine c_next [1, 1] [1] (k + 1, o ++ [x1], A1, c1) ?_ ?_ ?_ (by rfl) (by rfl)
   · exact (show ((k + 1) ≤ l.length) ∧ ((o ++ [x1]) = seenJ a (l.take (k + 1))) from ⟨by first | omega | simp_all | (simp; done), by first | exact rsn_t ho hx1 (by assumption) | exact rsn_f ho hx1 (by assumption)⟩)
   · show l.length - (k + 1) < l.length - k; omega
   · exact (.cons rfl rfl (.cons rfl rfl (.cons rfl rfl (.cons rfl rfl (.cons rfl (show (.int .i64 ((k : Int) + 1) : Value) = .int .i64 ((k + 1) : Int) from by first | rfl | (congr 1; omega) | (congr 1; simp; done) | (congr 1; simp; omega)) .nil)))))
  ·
   obtain rfl : v = .bool false := by rw [hv1, decide_eq_false h66]
   refine a_and (held_pt 0 rfl rfl (held_pt 0 rfl rfl (held_pt 0 rfl rfl held_nil))) ?_
   refine a_done (by as_aux_lemma => kernel_rfl) ?_
   refine q_then (c_false rfl (c_skip (q_block (q_then (c_region ?_)))))
   refine s_y rfl (v := .int .i64 (k : Int)) (y_mv rfl) rfl ?_
   refine s_y rfl (v := .int .i64 ((k : Int) + 1)) (y_add (r := (k : Int) + 1) rfl rfl rfl (by omega)) rfl ?_
   refine s_y rfl (v := .int .i64 ((k : Int) + 1)) (y_as rfl) rfl ?_
   refine s_nil (q_then ?_)
   refine c_next [0, 0] [1] (k + 1, o, Ao, co) ?_ ?_ ?_ (by rfl) (by rfl)
   · exact (show ((k + 1) ≤ l.length) ∧ (o = seenJ a (l.take (k + 1))) from ⟨by first | omega | simp_all | (simp; done), by first | exact rsn_t ho hx1 (by assumption) | exact rsn_f ho hx1 (by assumption)⟩)
   · show l.length - (k + 1) < l.length - k; omega
   · exact (.cons rfl rfl (.cons rfl rfl (.cons rfl rfl (.cons rfl rfl (.cons rfl (show (.int .i64 ((k : Int) + 1) : Value) = .int .i64 ((k + 1) : Int) from by first | rfl | (congr 1; omega) | (congr 1; simp; done) | (congr 1; simp; omega)) .nil)))))
 ·
  refine s_y rfl (v := .bool false) (y_f (y_k (v := .bool (decide ((k : Int) < (l.length : Int)))) rfl rfl (fun _ => by kernel_rfl)) h65) rfl ?_
  refine s_nil (q_then (c_false rfl ?_))
  refine c_exit ?_
  refine q_then_exit ?_
  refine q_then_exit ?_
  refine q_block_here ?_
  refine q_then (c_seq (c_region ?_))
  refine s_y rfl (v := .slice Ao o.length co) (y_mv rfl) rfl ?_
  refine s_y rfl (v := .slice Ao o.length co) (y_as rfl) rfl ?_
  refine s_nil (q_then (c_ret ?_))
  refine e_still 1 rfl ?_
  have hp : seenJ a l = o := by rw [ho, List.take_of_length_le (by omega)]
  refine c_fin (I' := [rd entTy Ao co o]) [] [0, 1] rfl (.tmp rfl .nil) rfl rfl rfl ?_
  rw [hp]
  exact ⟨_, _, rfl, rfl, rfl⟩
theorem eq_step {α : Type} {a b : List α} {k : Nat} {x y : α} (h : a.take k = b.take k) (hx : a[k]? = some x) (hy : b[k]? = some y) (he : x = y) : a.take (k + 1) = b.take (k + 1) := by
  rw [List.take_add_one, List.take_add_one, h, hx, hy, he]
theorem eq_end {α : Type} {a b : List α} {k : Nat} (h : a.take k = b.take k) (ha : a.length ≤ k) (hb : b.length ≤ k) : a = b := by
  rwa [List.take_of_length_le ha, List.take_of_length_le hb] at h
theorem eq_not {α : Type} {a b : List α} {k : Nat} {x y : α} (hx : a[k]? = some x) (hy : b[k]? = some y) (he : ¬ x = y) : ¬ a = b := fun h => by
  rw [h, hy] at hx; exact he (Option.some.inj hx).symm
theorem eq_len {α : Type} {a b : List α} (h : ¬ (a.length : Int) = (b.length : Int)) : ¬ a = b := fun e => by subst e; exact h rfl
theorem rTexts_ (A : Option Addr) (c : Nat) (l : List ByteArray) (B : Option Addr) (d : Nat) (r : List ByteArray) (hs : l.length ≤ 1000000) : Con Tryz.prog 11 [.slice A l.length c, .slice B r.length d] [] [rd strTy A c l, rd strTy B d r] (fun v L' I' => v = .bool (decide (l = r)) ∧ L' = [] ∧ I' = []) := by
 refine fn_of Tryz.func11 rfl Tryz.ntmps11 (by kernel_rfl) rfl (fun C => ?_)
 refine c_seq (c_region ?_)
 refine s_y rfl (v := .bool false) (y_as rfl) rfl ?_
 refine s_nil (q_then (c_seq (c_seq (c_region ?_))))
 refine s_y rfl (v := .slice A l.length c) (y_mv rfl) rfl ?_
 refine s_y rfl (v := .int .i64 (l.length : Int)) (y_k rfl rfl (fun _ => by kernel_rfl)) rfl ?_
 refine s_y rfl (v := .slice B r.length d) (y_mv rfl) rfl ?_
 refine s_y rfl (v := .int .i64 (r.length : Int)) (y_k rfl rfl (fun _ => by kernel_rfl)) rfl ?_
 refine e_by ((l.length : Int) = (r.length : Int)) (fun h1 => ?_) (fun h1 => ?_)
 ·
  refine s_y rfl (v := .bool false) (y_nt (y_k (v := .bool (!decide ((l.length : Int) = (r.length : Int)))) rfl rfl (fun _ => by kernel_rfl)) h1) rfl ?_
  refine s_nil (q_then (c_false rfl (c_skip (q_then (c_seq (c_seq (c_region ?_)))))))
  refine s_y rfl (v := .int .i64 0) (y_as rfl) rfl ?_
  refine s_nil (q_then (c_block ?_))
  refine c_loopn (ι := Nat) (fun k => (k ≤ l.length) ∧ (l.take k = r.take k)) (fun k => [(0, .slice A l.length c), (1, .slice B r.length d), (5, .int .i64 (k : Int))]) (fun k => []) (fun k => [rd strTy A c l, rd strTy B d r]) (fun k => l.length - k) (0) [] [0, 1] (show (0 ≤ l.length) ∧ (l.take 0 = r.take 0) from ⟨by first | omega | simp_all | (simp; done), by simp⟩) ((.cons rfl rfl (.cons rfl rfl (.cons rfl rfl .nil)))) rfl rfl ?_
  rintro k ⟨hk, he⟩
  show Ent 26 C [(0, .slice A l.length c), (1, .slice B r.length d), (5, .int .i64 (k : Int))] [] [] [rd strTy A c l, rd strTy B d r] _
  refine c_seq (c_seq (c_region ?_))
  refine s_y rfl (v := .int .i64 (k : Int)) (y_mv rfl) rfl ?_
  refine s_y rfl (v := .slice A l.length c) (y_mv rfl) rfl ?_
  refine s_y rfl (v := .int .i64 (l.length : Int)) (y_k rfl rfl (fun _ => by kernel_rfl)) rfl ?_
  refine e_by ((k : Int) < (l.length : Int)) (fun h2 => ?_) (fun h2 => ?_)
  ·
   refine s_y rfl (v := .bool true) (y_t (y_k (v := .bool (decide ((k : Int) < (l.length : Int)))) rfl rfl (fun _ => by kernel_rfl)) h2) rfl ?_
   refine s_nil (q_then (c_true rfl (c_skip (q_then (c_seq (c_block (c_seq ?_)))))))
   refine e_at 0 k rfl (by first | omega | (simp only [List.length_append, List.length_map, List.length_take, List.length_drop]; omega)) (fun b1 o1 x1 hA1 hx1 => ?_)
   refine e_at 2 k rfl (by first | omega | (simp only [List.length_append, List.length_map, List.length_take, List.length_drop]; omega)) (fun b2 o2 x2 hA2 hx2 => ?_)
   refine c_draw (l := ticked 9 0) [(⟨b1, o1 + k * 1, none⟩, .string x1), (⟨b2, o2 + k * 1, none⟩, .string x2)] [] (by kernel_rfl) rfl rfl ?_
   refine b_y (i := 0) (v := .slice A l.length c) (ticked 9 1) rfl rfl (by exact y_mv rfl) ?_
   refine b_y (i := 1) (v := .int .i64 (k : Int)) (ticked 9 3) rfl rfl (by exact y_mv rfl) ?_
   refine b_y (i := 2) (v := .pointer (some ⟨b1, o1 + k * 1, none⟩)) (ticked 9 7) rfl rfl (by exact y_at (d := strTy) (l := l) k hA1 rfl rfl rfl (rfl) (List.getElem?_eq_some_iff.1 hx1).1 Tryz.underlying33 (by kernel_rfl) (by kernel_rfl)) ?_
   refine b_y (i := 4) (v := .slice B r.length d) (ticked 9 23) rfl rfl (by exact y_mv rfl) ?_
   refine b_y (i := 5) (v := .int .i64 (k : Int)) (ticked 9 55) rfl rfl (by exact y_mv rfl) ?_
   refine b_y (i := 6) (v := .pointer (some ⟨b2, o2 + k * 1, none⟩)) (ticked 9 119) rfl rfl (by exact y_at (d := strTy) (l := r) k hA2 rfl rfl rfl (rfl) (List.getElem?_eq_some_iff.1 hx2).1 Tryz.underlying33 (by kernel_rfl) (by kernel_rfl)) ?_
   refine a_held (i := 3) (ticked 9 127) rfl (by as_aux_lemma => kernel_rfl) rfl rfl rfl (held_fact (j := 0) 1 rfl rfl (held_fact (j := 0) 0 rfl rfl held_nil)) (h_ld 0 rfl rfl Tryz.underlying9 rfl) ?_
   refine a_held (i := 7) (ticked 9 255) rfl (by as_aux_lemma => kernel_rfl) rfl rfl rfl (held_fact (j := 0) 1 rfl rfl (held_fact (j := 0) 0 rfl rfl held_nil)) (h_ld 1 rfl rfl Tryz.underlying9 rfl) ?_
   refine e_by (x1 = x2) (fun h3 => ?_) (fun h3 => ?_)
   ·
    refine b_y (i := 8) (v := .bool false) (ticked 9 511) rfl rfl (by exact y_b (y_k (v := .bool (!(x1.toList == x2.toList))) rfl rfl (fun _ => by kernel_rfl)) (str_nt h3)) ?_
    refine a_done (by as_aux_lemma => kernel_rfl) ?_
    refine q_then (c_false rfl (c_skip (q_block (q_then (c_region ?_)))))
    refine s_y rfl (v := .int .i64 (k : Int)) (y_mv rfl) rfl ?_
    refine s_y rfl (v := .int .i64 ((k : Int) + 1)) (y_add (r := (k : Int) + 1) rfl rfl rfl (by omega)) rfl ?_
    refine s_y rfl (v := .int .i64 ((k : Int) + 1)) (y_as rfl) rfl ?_
    refine s_nil (q_then ?_)
    refine c_next [] [2, 3] (k + 1) ?_ ?_ ?_ (by rfl) (by rfl)
    · exact (show ((k + 1) ≤ l.length) ∧ (l.take (k + 1) = r.take (k + 1)) from ⟨by first | omega | simp_all | (simp; done), eq_step he hx1 hx2 (by assumption)⟩)
    · show l.length - (k + 1) < l.length - k; omega
    · exact (.cons rfl rfl (.cons rfl rfl (.cons rfl (show (.int .i64 ((k : Int) + 1) : Value) = .int .i64 ((k + 1) : Int) from by first | rfl | (congr 1; omega) | (congr 1; simp; done) | (congr 1; simp; omega)) .nil)))
   ·
    refine b_y (i := 8) (v := .bool true) (ticked 9 511) rfl rfl (by exact y_b (y_k (v := .bool (!(x1.toList == x2.toList))) rfl rfl (fun _ => by kernel_rfl)) (str_nf h3)) ?_
    refine a_done (by as_aux_lemma => kernel_rfl) ?_
    refine q_then (c_true rfl (c_seq (c_region ?_)))
    refine s_y rfl (v := .bool false) (y_as rfl) rfl ?_
    refine s_nil (q_then (c_ret (q_block_ret (q_then_ret (q_then_ret (q_block_ret (q_then_ret ?_)))))))
    refine c_fin (I' := []) [] [2, 3] rfl (.tmp rfl .nil) rfl rfl rfl ?_
    exact ⟨dec_f (by first | exact eq_end he (by omega) (by omega) | exact eq_not hx1 hx2 (by assumption) | exact eq_len (by assumption) | (intro hh; subst hh; first | omega | contradiction)), rfl, rfl⟩
  ·
   refine s_y rfl (v := .bool false) (y_f (y_k (v := .bool (decide ((k : Int) < (l.length : Int)))) rfl rfl (fun _ => by kernel_rfl)) h2) rfl ?_
   refine s_nil (q_then (c_false rfl ?_))
   refine c_exit ?_
   refine q_then_exit ?_
   refine q_then_exit ?_
   refine q_block_here ?_
   refine q_then (c_seq (c_region ?_))
   refine s_y rfl (v := .bool true) (y_as rfl) rfl ?_
   refine s_nil (q_then (c_ret ?_))
   refine c_fin (I' := []) [] [0, 1] rfl (.tmp rfl .nil) rfl rfl rfl ?_
   exact ⟨dec_t (by first | exact eq_end he (by omega) (by omega) | exact eq_not hx1 hx2 (by assumption) | exact eq_len (by assumption) | (intro hh; subst hh; first | omega | contradiction)), rfl, rfl⟩
 ·
  refine s_y rfl (v := .bool true) (y_nf (y_k (v := .bool (!decide ((l.length : Int) = (r.length : Int)))) rfl rfl (fun _ => by kernel_rfl)) h1) rfl ?_
  refine s_nil (q_then (c_true rfl (c_seq (c_region ?_))))
  refine s_y rfl (v := .bool false) (y_as rfl) rfl ?_
  refine s_nil (q_then (c_ret (q_then_ret ?_)))
  refine c_fin (I' := []) [] [0, 1] rfl (.tmp rfl .nil) rfl rfl rfl ?_
  exact ⟨dec_f (by first | exact eq_end he (by omega) (by omega) | exact eq_not hx1 hx2 (by assumption) | exact eq_len (by assumption) | (intro hh; subst hh; first | omega | contradiction)), rfl, rfl⟩
end Go.Proofs.YthehnjbdkjnlpaaGreatDoor
