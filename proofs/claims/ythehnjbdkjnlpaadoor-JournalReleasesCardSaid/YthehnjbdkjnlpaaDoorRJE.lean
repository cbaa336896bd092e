/- The laws of chapter 15 (journal), walked over the given program; no condition but what stands in each theorem: part JE. -/
import Derived.Test.YthehnjbdkjnlpaaDoorRJA
set_option linter.unusedVariables false
set_option linter.unusedSimpArgs false
set_option maxRecDepth 100000
set_option maxHeartbeats 8000000
namespace Go.Proofs.YthehnjbdkjnlpaaDoor
open Go Go.Sl Go.RowKit Go.Extern.Stop Go.Stop Go.Extern
theorem jof_ (b : Nat) (id : Int) : Con Tryd.prog 40 [.pointer (some ⟨b, 0, none⟩), .int .i64 id] [] [] (fun v L' I' => ∃ k1 : Nat, ∃ k2 : Nat, v = .func (.func 54) #[] #[.pointer (some ⟨k1, 0, none⟩), .pointer (some ⟨k2, 0, none⟩)] ∧ L' = [pt k1 [.pointer (some ⟨b, 0, none⟩)] 77, pt k2 [.int .i64 id] 3] ∧ I' = []) := by
 refine fn_of Tryd.func40 rfl Tryd.ntmps40 (by kernel_rfl) rfl (fun C => ?_)
 refine c_seq (c_region ?_)
 refine st rfl (o_box (cs := [.pointer (some ⟨b, 0, none⟩)]) (T := 77) rfl rfl rfl rfl (fun _ => by kernel_rfl) (fun b1 => ?_))
 refine st rfl (o_box (cs := [.int .i64 id]) (T := 3) rfl rfl rfl rfl (fun _ => by kernel_rfl) (fun b2 => ?_))
 refine s_y rfl (v := .nilFunc) (y_as rfl) rfl ?_
 refine s_nil (q_then (c_seq (c_region ?_)))
 refine s_y rfl (v := .func (.func 54) #[] #[.pointer (some ⟨b1, 0, none⟩), .pointer (some ⟨b2, 0, none⟩)]) (y_k rfl rfl (fun _ => by kernel_rfl)) rfl ?_
 refine s_y rfl (v := .func (.func 54) #[] #[.pointer (some ⟨b1, 0, none⟩), .pointer (some ⟨b2, 0, none⟩)]) (y_as rfl) rfl ?_
 refine s_nil (q_then (c_ret ?_))
 refine c_fin (I' := []) [1, 0] [] rfl (.tmp rfl .nil) rfl rfl rfl ?_
 exact ⟨b1, b2, rfl, rfl, rfl⟩
theorem jof1_ (k1 : Nat) (k2 : Nat) (b : Nat) (id : Int) (A : Option Addr) (c : Nat) (l : List Jen) (hs : l.length ≤ 1000) : It Tryd.prog 54 [.pointer (some ⟨k1, 0, none⟩), .pointer (some ⟨k2, 0, none⟩)] [pt k1 [.pointer (some ⟨b, 0, none⟩)] 77, pt k2 [.int .i64 id] 3, pt b [.slice A l.length c] 65] [rd entTy A c l] ((ofF id l).map fun y => [.agg #[.int .i64 y.st, .int .i64 y.ru, .int .i64 y.to.lv, .int .u64 (y.to.cs : Int), .int .i64 y.to.ig, .string y.da]]) (fun L1 => L1 = [pt k1 [.pointer (some ⟨b, 0, none⟩)] 77, pt k2 [.int .i64 id] 3, pt b [.slice A l.length c] 65]) := by
 intro lp SS XX L0 I0 h0a hY
 refine fn_of Tryd.func54 rfl Tryd.ntmps54 (by kernel_rfl) rfl (fun C => ?_)
 refine c_scope0 ?_
 refine c_seq ?_
 refine c_label ?_
 refine q_then (c_seq (c_region ?_))
 refine st rfl (o_ld 0 rfl rfl rfl Tryd.underlying77 rfl rfl ?_)
 refine s_y rfl (v := .pointer (some ⟨b, 0, none⟩)) (y_k rfl rfl (fun _ => by kernel_rfl)) rfl ?_
 refine s_y rfl (v := .pointer (some ⟨b, 0, none⟩)) (y_k rfl rfl (fun _ => by kernel_rfl)) rfl ?_
 refine st rfl (o_ld 2 rfl rfl rfl Tryd.underlying23 rfl rfl ?_)
 refine s_y rfl (v := .int .i64 (l.length : Int)) (y_k rfl rfl (fun _ => by kernel_rfl)) rfl ?_
 refine s_y rfl (v := .int .i64 0) (y_mv rfl) rfl ?_
 refine s_nil (q_then (c_block ?_))
 refine c_loop (ι := Nat × Nat × (List Atom) × (List Atom)) (fun (ka, qa, Lx, Ix) => (ka ≤ l.length) ∧ (qa = ((l.take ka).filter fun x => decide (x.ru = id)).length) ∧ (SS qa Lx Ix)) (fun (ka, qa, Lx, Ix) => [(0, .func (.yield lp) #[] #[]), (2, .pointer (some ⟨k2, 0, none⟩)), (9, .slice A l.length c), (10, .int .i64 (l.length : Int)), (11, .int .i64 (ka : Int))]) (fun (ka, qa, Lx, Ix) => ([pt k1 [.pointer (some ⟨b, 0, none⟩)] 77, pt k2 [.int .i64 id] 3, pt b [.slice A l.length c] 65] ++ Lx)) (fun (ka, qa, Lx, Ix) => ([rd entTy A c l] ++ Ix ++ I0)) (fun (ka, qa, Lx, Ix) => l.length - ka) (0, 0, L0, I0) (show (0 ≤ l.length) ∧ (0 = ((l.take 0).filter fun x => decide (x.ru = id)).length) ∧ (SS 0 L0 I0) from ⟨by first | omega | simp_all | (simp; done), by simp, h0a⟩) ((.cons rfl rfl (.cons rfl rfl (.cons rfl rfl (.cons rfl rfl (.cons rfl rfl .nil)))))) rfl (by intro φ hφ; simp only [List.mem_append, List.mem_cons, List.not_mem_nil, or_false, false_or] at hφ ⊢; grind) ?_
 rintro ⟨ka, qa, Lx, Ix⟩ ⟨hk, hq, hS⟩
 show Ent 26 C [(0, .func (.yield lp) #[] #[]), (2, .pointer (some ⟨k2, 0, none⟩)), (9, .slice A l.length c), (10, .int .i64 (l.length : Int)), (11, .int .i64 (ka : Int))] [] ([pt k1 [.pointer (some ⟨b, 0, none⟩)] 77, pt k2 [.int .i64 id] 3, pt b [.slice A l.length c] 65] ++ Lx) ([rd entTy A c l] ++ Ix ++ I0) _
 refine c_seq (c_region ?_)
 refine e_by ((ka : Int) < (l.length : Int)) (fun h1 => ?_) (fun h1 => ?_)
 ·
  refine s_y rfl (v := .bool true) (y_t (y_k (v := .bool (decide ((ka : Int) < (l.length : Int)))) rfl rfl (fun _ => by kernel_rfl)) h1) rfl ?_
  refine s_nil (q_then (c_seq (c_true rfl (c_skip (q_then (c_seq (c_block (c_seq (c_region ?_)))))))))
  refine e_at 0 ka rfl (by first | omega | (simp only [List.length_append, List.length_map, List.length_take, List.length_drop]; omega)) (fun b1 o1 x1 hA1 hx1 => ?_)
  refine s_y rfl (v := .pointer (some ⟨b1, o1 + ka * 6, none⟩)) (y_at (d := entTy) (l := l) ka hA1 rfl rfl rfl (rfl) (List.getElem?_eq_some_iff.1 hx1).1 Tryd.underlying23 (by kernel_rfl) (by kernel_rfl)) rfl ?_
  refine st rfl (o_ldnf 0 0 6 rfl rfl rfl rfl Tryd.underlying46 rfl (by kernel_rfl) (by kernel_rfl) rfl ?_)
  refine st rfl (o_box (cs := [.int .i64 0, .int .i64 0, .int .i64 0, .int .u64 0, .int .i64 0, .string (⟨#[]⟩ : ByteArray)]) (T := 46) rfl rfl rfl rfl (fun _ => by kernel_rfl) (fun b2 => ?_))
  refine st rfl (o_st 0 rfl rfl rfl rfl rfl (by kernel_rfl) (by kernel_rfl) rfl ?_)
  refine s_nil (q_then (c_seq (c_region ?_)))
  refine s_y rfl (v := .pointer (some ⟨b2, 1, none⟩)) (y_k rfl rfl (fun _ => by kernel_rfl)) rfl ?_
  refine st rfl (o_ld 0 rfl rfl rfl Tryd.underlying3 rfl rfl ?_)
  refine st rfl (o_ld 2 rfl rfl rfl Tryd.underlying3 rfl rfl ?_)
  refine e_by (x1.ru = id) (fun h2 => ?_) (fun h2 => ?_)
  ·
   refine s_y rfl (v := .bool true) (y_t (y_k (v := .bool (decide (x1.ru = id))) rfl rfl (fun _ => by kernel_rfl)) h2) rfl ?_
   refine s_y rfl (v := .bool true) (y_mv rfl) rfl ?_
   refine st_on 19 rfl rfl rfl (o_y (v := .func (.yield lp) #[] #[]) (y_mv rfl) rfl rfl rfl ?_)
   refine st_on 19 rfl rfl rfl (o_ldn 0 6 rfl rfl rfl rfl Tryd.underlying46 rfl (by kernel_rfl) (by kernel_rfl) rfl ?_)
   refine st_on 19 rfl rfl rfl (o_yield [pt b2 [.int .i64 x1.st, .int .i64 x1.ru, .int .i64 x1.to.lv, .int .u64 (x1.to.cs : Int), .int .i64 x1.to.ig, .string x1.da] 46, pt k1 [.pointer (some ⟨b, 0, none⟩)] 77, pt k2 [.int .i64 id] 3, pt b [.slice A l.length c] 65] Lx Ix (hY qa _ _ _ (by rw [List.getElem?_map, of_at hq hx1 (by assumption)]; rfl) hS) rfl rfl rfl (by intro φ hφ; simp only [List.mem_append, List.mem_cons, List.not_mem_nil, or_false, false_or] at hφ ⊢; grind) rfl (fun bb1 Ly1 Iy1 hq1 => ?_))
   rcases hq1 with ⟨rfl, hq1⟩ | ⟨rfl, hq1⟩
   ·
    refine st_on 19 rfl rfl rfl (o_y (v := .bool false) (y_k rfl rfl (fun _ => by kernel_rfl)) rfl rfl rfl ?_)
    refine s_y rfl (v := .bool false) (y_pick rfl rfl) rfl ?_
    refine s_nil (q_then (c_false rfl (c_skip (q_block (q_then (c_region ?_))))))
    refine s_y rfl (v := .int .i64 ((ka : Int) + 1)) (y_add (r := (ka : Int) + 1) rfl rfl rfl (by omega)) rfl ?_
    refine s_y rfl (v := .int .i64 ((ka : Int) + 1)) (y_mv rfl) rfl ?_
    refine s_nil (q_then ?_)
    refine e_drop 0 ?_
    show Ent _ _ _ _ ([pt k1 [.pointer (some ⟨b, 0, none⟩)] 77, pt k2 [.int .i64 id] 3, pt b [.slice A l.length c] 65] ++ Ly1) _ _
    refine c_again (ka + 1, qa + 1, Ly1, Iy1) ?_ ?_ ?_ (by rfl) (by intro φ hφ; simp only [List.mem_append, List.mem_cons, List.not_mem_nil, or_false, false_or] at hφ ⊢; grind)
    · exact (show ((ka + 1) ≤ l.length) ∧ ((qa + 1) = ((l.take (ka + 1)).filter fun x => decide (x.ru = id)).length) ∧ (SS (qa + 1) Ly1 Iy1) from ⟨by first | omega | simp_all | (simp; done), by rw [filt_t hx1 (by simpa using (by assumption : x1.ru = id)), List.length_append, hq]; rfl, hq1⟩)
    · show l.length - (ka + 1) < l.length - ka; omega
    · exact (.cons rfl rfl (.cons rfl rfl (.cons rfl rfl (.cons rfl rfl (.cons rfl (show (.int .i64 ((ka : Int) + 1) : Value) = .int .i64 ((ka + 1) : Int) from by first | rfl | (congr 1; omega) | (congr 1; simp; done) | (congr 1; simp; omega)) .nil)))))
   ·
    refine st_on 19 rfl rfl rfl (o_y (v := .bool true) (y_k rfl rfl (fun _ => by kernel_rfl)) rfl rfl rfl ?_)
    refine s_y rfl (v := .bool true) (y_pick rfl rfl) rfl ?_
    refine s_nil (q_then (c_true rfl ?_))
    refine c_exit ?_
    refine q_block_exit rfl ?_
    refine q_then_exit ?_
    refine q_then_exit ?_
    refine q_block_here ?_
    refine q_nj ?_
    refine e_drop 0 ?_
    show Ent _ _ _ _ ([pt k1 [.pointer (some ⟨b, 0, none⟩)] 77, pt k2 [.int .i64 id] 3, pt b [.slice A l.length c] 65] ++ Ly1) _ _
    refine c_fin_it (I' := Iy1) rfl rfl (by intro φ hφ; simp only [List.mem_append, List.mem_cons, List.not_mem_nil, or_false, false_or] at hφ ⊢; grind) ⟨_, Ly1, rfl, rfl, ?_⟩
    exact .inr ⟨qa, by rw [List.length_map]; exact of_lt hq hx1 (by assumption), hq1⟩
  ·
   refine s_y rfl (v := .bool false) (y_f (y_k (v := .bool (decide (x1.ru = id))) rfl rfl (fun _ => by kernel_rfl)) h2) rfl ?_
   refine s_y rfl (v := .bool false) (y_mv rfl) rfl ?_
   refine st_off 19 rfl rfl rfl rfl rfl rfl ?_
   refine st_off 19 rfl rfl rfl rfl rfl rfl ?_
   refine st_off 19 rfl rfl rfl rfl rfl rfl ?_
   refine st_off 19 rfl rfl rfl rfl rfl rfl ?_
   refine s_y rfl (v := .bool false) (y_pick rfl rfl) rfl ?_
   refine s_nil (q_then (c_false rfl (c_skip (q_block (q_then (c_region ?_))))))
   refine s_y rfl (v := .int .i64 ((ka : Int) + 1)) (y_add (r := (ka : Int) + 1) rfl rfl rfl (by omega)) rfl ?_
   refine s_y rfl (v := .int .i64 ((ka : Int) + 1)) (y_mv rfl) rfl ?_
   refine s_nil (q_then ?_)
   refine e_drop 0 ?_
   show Ent _ _ _ _ ([pt k1 [.pointer (some ⟨b, 0, none⟩)] 77, pt k2 [.int .i64 id] 3, pt b [.slice A l.length c] 65] ++ Lx) _ _
   refine c_again (ka + 1, qa, Lx, Ix) ?_ ?_ ?_ (by rfl) (by intro φ hφ; simp only [List.mem_append, List.mem_cons, List.not_mem_nil, or_false, false_or] at hφ ⊢; grind)
   · exact (show ((ka + 1) ≤ l.length) ∧ (qa = ((l.take (ka + 1)).filter fun x => decide (x.ru = id)).length) ∧ (SS qa Lx Ix) from ⟨by first | omega | simp_all | (simp; done), by rw [filt_f hx1 (by simpa using (by assumption : ¬ x1.ru = id)), hq], hS⟩)
   · show l.length - (ka + 1) < l.length - ka; omega
   · exact (.cons rfl rfl (.cons rfl rfl (.cons rfl rfl (.cons rfl rfl (.cons rfl (show (.int .i64 ((ka : Int) + 1) : Value) = .int .i64 ((ka + 1) : Int) from by first | rfl | (congr 1; omega) | (congr 1; simp; done) | (congr 1; simp; omega)) .nil)))))
 ·
  refine s_y rfl (v := .bool false) (y_f (y_k (v := .bool (decide ((ka : Int) < (l.length : Int)))) rfl rfl (fun _ => by kernel_rfl)) h1) rfl ?_
  refine s_nil (q_then (c_seq (c_false rfl ?_)))
  refine c_exit ?_
  refine q_then_exit ?_
  refine q_then_exit ?_
  refine q_block_here ?_
  refine q_nj ?_
  refine c_fin_it (I' := Ix) rfl rfl (by intro φ hφ; simp only [List.mem_append, List.mem_cons, List.not_mem_nil, or_false, false_or] at hφ ⊢; grind) ⟨_, Lx, rfl, rfl, ?_⟩
  left; rw [List.length_map, of_end hq (by omega)]; exact hS
theorem jSpent_ (A : Option Addr) (c : Nat) (l : List Jen) (id : Int) (hn : l.length ≤ 1000) (hm : ∀ y ∈ l, jenSm y) : Con Tryd.prog 15 [.slice A l.length c, .int .i64 id] [] [rd entTy A c l] (fun v L' I' => v = .int .i64 (spentF l id : Int) ∧ L' = [] ∧ I' = []) := by
 refine fn_of Tryd.func15 rfl Tryd.ntmps15 (by kernel_rfl) rfl (fun C => ?_)
 refine c_seq (c_region ?_)
 refine s_y rfl (v := .int .i64 0) (y_as rfl) rfl ?_
 refine s_nil (q_then (c_seq (c_region ?_)))
 refine st rfl (o_box (cs := [.int .i64 0]) (T := 3) rfl rfl rfl rfl (fun _ => by kernel_rfl) (fun b1 => ?_))
 refine st rfl (o_st 0 rfl rfl rfl rfl rfl (by kernel_rfl) (by kernel_rfl) rfl ?_)
 refine s_nil (q_then (c_seq (c_seq (c_region ?_))))
 refine s_y rfl (v := .slice A l.length c) (y_mv rfl) rfl ?_
 refine s_y rfl (v := .agg #[.slice A l.length c]) (y_k rfl rfl (fun _ => by kernel_rfl)) rfl ?_
 refine st rfl (o_box (cs := [.slice A l.length c]) (T := 65) rfl rfl rfl rfl (fun _ => by kernel_rfl) (fun b2 => ?_))
 refine s_y rfl (v := .int .i64 id) (y_mv rfl) rfl ?_
 refine st rfl (o_call [] [] (jof_ b2 id) rfl rfl rfl rfl rfl rfl (fun v L' I' hq1 => ?_))
 obtain ⟨k1, k2, rfl, rfl, rfl⟩ := hq1
 refine s_nil (q_then (c_block ?_))
 refine c_range (xs := (ofF id l).map fun y => [.agg #[.int .i64 y.st, .int .i64 y.ru, .int .i64 y.to.lv, .int .u64 (y.to.cs : Int), .int .i64 y.to.ig, .string y.da]]) (fun k L I => ∃ q : Int, (q = (sumSz ((ofF id l).take k) : Int)) ∧ L = [pt b1 [.int .i64 q] 3] ∧ I = []) (fun _ _ _ _ => False) [0, 0, 0, 0] [0] (jof1_ k1 k2 b2 id A c l hn) rfl rfl rfl ⟨0, rfl, rfl, rfl⟩ (by intro x hx; simp only [List.mem_map] at hx; obtain ⟨_, _, rfl⟩ := hx; rfl) rfl (fun C1 lp1 r1 k3 x1 Lx1 Ix1 hx1 hS1 => ?_) (fun bD1 La1 Lb1 Ib1 hf1 hS1 => ?_) (fun bD1 k3 cc La1 Lb1 Ib1 hk hf1 hX => ?_)
 ·
  obtain ⟨y1, hy1, rfl⟩ : ∃ y, (ofF id l)[k3]? = some y ∧ [.agg #[.int .i64 y.st, .int .i64 y.ru, .int .i64 y.to.lv, .int .u64 (y.to.cs : Int), .int .i64 y.to.ig, .string y.da]] = x1 := by simpa using hx1
  obtain ⟨q1, h1, rfl, rfl⟩ := hS1
  refine Ent.env (e' := [(0, .slice A l.length c), (1, .int .i64 id), (4, .int .i64 0), (5, .pointer (some ⟨b1, 0, none⟩)), (7, .slice A l.length c), (8, .agg #[.slice A l.length c]), (9, .pointer (some ⟨b2, 0, none⟩)), (10, .int .i64 id), (11, .func (.func 54) #[] #[.pointer (some ⟨k1, 0, none⟩), .pointer (some ⟨k2, 0, none⟩)]), (12, .agg #[.int .i64 y1.st, .int .i64 y1.ru, .int .i64 y1.to.lv, .int .u64 (y1.to.cs : Int), .int .i64 y1.to.ig, .string y1.da])]) (.cons rfl rfl (.cons rfl rfl (.cons rfl rfl (.cons rfl rfl (.cons rfl rfl (.cons rfl rfl (.cons rfl rfl (.cons rfl rfl (.cons rfl rfl (.cons rfl rfl .nil)))))))))) ?_
  refine c_region ?_
  refine st rfl (o_box (cs := [.int .i64 0, .int .i64 0, .int .i64 0, .int .u64 0, .int .i64 0, .string (⟨#[]⟩ : ByteArray)]) (T := 46) rfl rfl rfl rfl (fun _ => by kernel_rfl) (fun b3 => ?_))
  refine st rfl (o_st 0 rfl rfl rfl rfl rfl (by kernel_rfl) (by kernel_rfl) rfl ?_)
  refine s_nil (q_then ?_)
  refine r_begin 1 rfl ?_
  refine c_block (c_region ?_)
  refine st rfl (o_ld 2 rfl rfl rfl Tryd.underlying3 rfl rfl ?_)
  refine s_y rfl (v := .pointer (some ⟨b3, 5, none⟩)) (y_k rfl rfl (fun _ => by kernel_rfl)) rfl ?_
  refine st rfl (o_ld 0 rfl rfl rfl Tryd.underlying9 rfl rfl ?_)
  refine s_y rfl (v := .int .i64 (y1.da.size : Int)) (y_k rfl rfl (fun _ => by kernel_rfl)) rfl ?_
  refine s_y rfl (v := .int .i64 (q1 + (y1.da.size : Int))) (y_add (r := q1 + (y1.da.size : Int)) rfl rfl rfl (by have q1 := sum_le (k := k3) (of_sub (id := id) hm); have q2 := of_len id l; have q3 := of_sub (id := id) hm _ (List.mem_of_getElem? hy1); unfold jenSm at q3; omega)) rfl ?_
  refine st rfl (o_st 2 rfl rfl rfl rfl rfl (by kernel_rfl) (by kernel_rfl) rfl ?_)
  refine s_nil (q_block ?_)
  refine r_end 1 [1] [] rfl rfl rfl ⟨(q1 + (y1.da.size : Int)), by rw [sum_at hy1, h1]; omega, rfl, rfl⟩
 ·
  obtain rfl := hf1
  rw [List.length_map] at hS1
  obtain ⟨q2, h2, rfl, rfl⟩ := hS1
  refine Ent.env (e' := [(0, .slice A l.length c), (1, .int .i64 id), (4, .int .i64 0), (5, .pointer (some ⟨b1, 0, none⟩)), (7, .slice A l.length c), (8, .agg #[.slice A l.length c]), (9, .pointer (some ⟨b2, 0, none⟩)), (10, .int .i64 id), (11, .func (.func 54) #[] #[.pointer (some ⟨k1, 0, none⟩), .pointer (some ⟨k2, 0, none⟩)])]) (.cons rfl rfl (.cons rfl rfl (.cons rfl rfl (.cons rfl rfl (.cons rfl rfl (.cons rfl rfl (.cons rfl rfl (.cons rfl rfl (.cons rfl rfl .nil))))))))) ?_
  refine q_block (q_then (c_seq (c_region ?_)))
  refine st rfl (o_ld 4 rfl rfl rfl Tryd.underlying3 rfl rfl ?_)
  refine s_y rfl (v := .int .i64 q2) (y_as rfl) rfl ?_
  refine s_nil (q_then (c_ret ?_))
  refine e_mark 0 rfl ?_
  refine c_fin (I' := []) [] [0] rfl (.tmp rfl .nil) rfl rfl rfl ?_
  exact ⟨by have e := h2; rw [List.take_length] at e; simp only [packed]; rw [e, spent_sum], rfl, rfl⟩
 ·
  exact hX.elim
theorem jOf_ (A : Option Addr) (c : Nat) (l : List Jen) (id : Int) (hn : l.length ≤ 1000) : Con Tryd.prog 18 [.slice A l.length c, .int .i64 id] [] [rd entTy A c l] (fun v L' I' => ∃ A1 : Option Addr, ∃ c1 : Nat, v = .slice A1 (datF id l).length c1 ∧ L' = [win strTy 9 A1 c1 (datF id l)] ∧ I' = []) := by
 refine fn_of Tryd.func18 rfl Tryd.ntmps18 (by kernel_rfl) rfl (fun C => ?_)
 refine c_seq (c_region ?_)
 refine s_y rfl (v := .slice none 0 0) (y_as rfl) rfl ?_
 refine s_nil (q_then (c_seq (c_region ?_)))
 refine st rfl (o_box (cs := [.slice none 0 0]) (T := 47) rfl rfl rfl rfl (fun _ => by kernel_rfl) (fun b1 => ?_))
 refine s_nil (q_then (c_seq (c_seq (c_region ?_))))
 refine s_y rfl (v := .slice A l.length c) (y_mv rfl) rfl ?_
 refine s_y rfl (v := .agg #[.slice A l.length c]) (y_k rfl rfl (fun _ => by kernel_rfl)) rfl ?_
 refine st rfl (o_box (cs := [.slice A l.length c]) (T := 65) rfl rfl rfl rfl (fun _ => by kernel_rfl) (fun b2 => ?_))
 refine s_y rfl (v := .int .i64 id) (y_mv rfl) rfl ?_
 refine st rfl (o_call [] [] (jof_ b2 id) rfl rfl rfl rfl rfl rfl (fun v L' I' hq1 => ?_))
 obtain ⟨k1, k2, rfl, rfl, rfl⟩ := hq1
 refine s_nil (q_then (c_block ?_))
 refine e_nil strTy 9 ?_
 refine c_range (xs := (ofF id l).map fun y => [.agg #[.int .i64 y.st, .int .i64 y.ru, .int .i64 y.to.lv, .int .u64 (y.to.cs : Int), .int .i64 y.to.ig, .string y.da]]) (fun k L I => ∃ o : List ByteArray, ∃ Ao : Option Addr, ∃ co : Nat, (o = ((ofF id l).take k).map (·.da)) ∧ (o.length ≤ (ofF id l).length) ∧ L = [pt b1 [.slice Ao o.length co] 47, ars strTy 9 Ao co o] ∧ I = []) (fun _ _ _ _ => False) [1, 1, 1, 1, 0] [0] (jof1_ k1 k2 b2 id A c l hn) rfl rfl rfl ⟨([] : List ByteArray), none, 0, by simp, Nat.zero_le _, rfl, rfl⟩ (by intro x hx; simp only [List.mem_map] at hx; obtain ⟨_, _, rfl⟩ := hx; rfl) rfl (fun C1 lp1 r1 k3 x1 Lx1 Ix1 hx1 hS1 => ?_) (fun bD1 La1 Lb1 Ib1 hf1 hS1 => ?_) (fun bD1 k3 cc La1 Lb1 Ib1 hk hf1 hX => ?_)
 ·
  obtain ⟨y1, hy1, rfl⟩ : ∃ y, (ofF id l)[k3]? = some y ∧ [.agg #[.int .i64 y.st, .int .i64 y.ru, .int .i64 y.to.lv, .int .u64 (y.to.cs : Int), .int .i64 y.to.ig, .string y.da]] = x1 := by simpa using hx1
  obtain ⟨o1, Ao1, co1, h1, h2, rfl, rfl⟩ := hS1
  refine Ent.env (e' := [(0, .slice A l.length c), (1, .int .i64 id), (4, .slice none 0 0), (5, .pointer (some ⟨b1, 0, none⟩)), (7, .slice A l.length c), (8, .agg #[.slice A l.length c]), (9, .pointer (some ⟨b2, 0, none⟩)), (10, .int .i64 id), (11, .func (.func 54) #[] #[.pointer (some ⟨k1, 0, none⟩), .pointer (some ⟨k2, 0, none⟩)]), (12, .agg #[.int .i64 y1.st, .int .i64 y1.ru, .int .i64 y1.to.lv, .int .u64 (y1.to.cs : Int), .int .i64 y1.to.ig, .string y1.da])]) (.cons rfl rfl (.cons rfl rfl (.cons rfl rfl (.cons rfl rfl (.cons rfl rfl (.cons rfl rfl (.cons rfl rfl (.cons rfl rfl (.cons rfl rfl (.cons rfl rfl .nil)))))))))) ?_
  refine c_region ?_
  refine st rfl (o_box (cs := [.int .i64 0, .int .i64 0, .int .i64 0, .int .u64 0, .int .i64 0, .string (⟨#[]⟩ : ByteArray)]) (T := 46) rfl rfl rfl rfl (fun _ => by kernel_rfl) (fun b3 => ?_))
  refine st rfl (o_st 0 rfl rfl rfl rfl rfl (by kernel_rfl) (by kernel_rfl) rfl ?_)
  refine s_nil (q_then ?_)
  refine r_begin 1 rfl ?_
  refine c_block (c_region ?_)
  refine st rfl (o_ld 2 rfl rfl rfl Tryd.underlying47 rfl rfl ?_)
  refine s_y rfl (v := .pointer (some ⟨b3, 5, none⟩)) (y_k rfl rfl (fun _ => by kernel_rfl)) rfl ?_
  refine st rfl (o_ld 0 rfl rfl rfl Tryd.underlying9 rfl rfl ?_)
  refine st rfl (o_lit (cs := [.string y1.da]) (T := 9) (m := 1) rfl rfl rfl rfl (fun _ => by kernel_rfl) (fun b4 => ?_))
  refine st rfl (o_app (l := o1) (us := [y1.da]) 4 rfl rfl rfl rfl rfl (src_pt 0 rfl) Tryd.underlying47 (elem_of (z := .string (⟨#[]⟩ : ByteArray)) (sz := 1) (bytes := 16) (by kernel_rfl) rfl) rfl (by have q2 := of_len id l; simp only [List.length_cons, List.length_nil]; omega) rfl rfl (fun A1 c1 => ?_))
  refine st rfl (o_st 3 rfl rfl rfl rfl rfl (by kernel_rfl) (by kernel_rfl) rfl ?_)
  refine s_nil (q_block ?_)
  refine r_end 2 [2, 2] [] rfl rfl rfl ⟨(o1 ++ [y1.da]), A1, c1, by rw [List.take_add_one, hy1, h1]; simp, by have h2 := (List.getElem?_eq_some_iff.1 hy1).1; rw [List.length_append, h1, List.length_map, List.length_take]; simp only [List.length_cons, List.length_nil]; omega, rfl, rfl⟩
 ·
  obtain rfl := hf1
  rw [List.length_map] at hS1
  obtain ⟨o2, Ao2, co2, h3, h4, rfl, rfl⟩ := hS1
  refine Ent.env (e' := [(0, .slice A l.length c), (1, .int .i64 id), (4, .slice none 0 0), (5, .pointer (some ⟨b1, 0, none⟩)), (7, .slice A l.length c), (8, .agg #[.slice A l.length c]), (9, .pointer (some ⟨b2, 0, none⟩)), (10, .int .i64 id), (11, .func (.func 54) #[] #[.pointer (some ⟨k1, 0, none⟩), .pointer (some ⟨k2, 0, none⟩)])]) (.cons rfl rfl (.cons rfl rfl (.cons rfl rfl (.cons rfl rfl (.cons rfl rfl (.cons rfl rfl (.cons rfl rfl (.cons rfl rfl (.cons rfl rfl .nil))))))))) ?_
  refine q_block (q_then (c_seq (c_region ?_)))
  refine st rfl (o_ld 4 rfl rfl rfl Tryd.underlying47 rfl rfl ?_)
  refine s_y rfl (v := .slice Ao2 o2.length co2) (y_as rfl) rfl ?_
  refine s_nil (q_then (c_ret ?_))
  refine e_weak 5 rfl (fun _ h => h.win) ?_
  have hp : datF id l = o2 := by have e := h3; rw [List.take_length] at e; exact e.symm
  refine e_mark 0 rfl ?_
  refine c_fin (I' := []) [5] [0] rfl (.tmp rfl .nil) rfl rfl rfl ?_
  rw [hp]
  exact ⟨_, _, rfl, rfl, rfl⟩
 ·
  exact hX.elim
end Go.Proofs.YthehnjbdkjnlpaaDoor
