/- The laws of chapter 15 (journal), walked over the given program; no condition but what stands in each theorem: part KB. -/
import Derived.Test.YthehnjbdkjnlpaaGreatDoorRRB
import Derived.Test.YthehnjbdkjnlpaaGreatDoorRKA
set_option linter.unusedVariables false
set_option linter.unusedSimpArgs false
set_option maxRecDepth 100000
set_option maxHeartbeats 8000000
namespace Go.Proofs.YthehnjbdkjnlpaaGreatDoor
open Go Go.Sl Go.RowKit Go.Extern.Stop Go.Stop Go.Extern
theorem rSpent_ (A : Option Addr) (c : Nat) (l : List Jen) (id : Int) (hn : l.length ≤ 1000) (hm : ∀ y ∈ l, jenSm y) : Con Tryz.prog 10 [.slice A l.length c, .int .i64 id] [] [rd entTy A c l] (fun v L' I' => v = .int .i64 (spentF l id : Int) ∧ L' = [] ∧ I' = []) := by
 refine fn_of Tryz.func10 rfl Tryz.ntmps10 (by kernel_rfl) rfl (fun C => ?_)
 refine c_seq (c_region ?_)
 refine s_y rfl (v := .int .i64 0) (y_as rfl) rfl ?_
 refine s_nil (q_then (c_seq (c_region ?_)))
 refine s_y rfl (v := .int .i64 0) (y_as rfl) rfl ?_
 refine s_nil (q_then (c_seq (c_seq (c_region ?_))))
 refine s_y rfl (v := .int .i64 0) (y_as rfl) rfl ?_
 refine s_nil (q_then (c_block ?_))
 refine c_loopn (ι := Nat × Nat) (fun (k, q) => (k ≤ l.length) ∧ (q = spentF (l.take k) id)) (fun (k, q) => [(0, .slice A l.length c), (1, .int .i64 id), (4, .int .i64 0), (5, .int .i64 (q : Int)), (6, .int .i64 (k : Int))]) (fun (k, q) => []) (fun (k, q) => [rd entTy A c l]) (fun (k, q) => l.length - k) (0, 0) [] [0] (show (0 ≤ l.length) ∧ (0 = spentF (l.take 0) id) from ⟨by first | omega | simp_all | (simp; done), rfl⟩) ((.cons rfl rfl (.cons rfl rfl (.cons rfl rfl (.cons rfl rfl (.cons rfl rfl .nil)))))) rfl rfl ?_
 rintro ⟨k, q⟩ ⟨hk, hq⟩
 show Ent 29 C [(0, .slice A l.length c), (1, .int .i64 id), (4, .int .i64 0), (5, .int .i64 (q : Int)), (6, .int .i64 (k : Int))] [] [] [rd entTy A c l] _
 refine c_seq (c_seq (c_region ?_))
 refine s_y rfl (v := .int .i64 (k : Int)) (y_mv rfl) rfl ?_
 refine s_y rfl (v := .slice A l.length c) (y_mv rfl) rfl ?_
 refine s_y rfl (v := .int .i64 (l.length : Int)) (y_k rfl rfl (fun _ => by kernel_rfl)) rfl ?_
 refine e_by ((k : Int) < (l.length : Int)) (fun h1 => ?_) (fun h1 => ?_)
 ·
  refine s_y rfl (v := .bool true) (y_t (y_k (v := .bool (decide ((k : Int) < (l.length : Int)))) rfl rfl (fun _ => by kernel_rfl)) h1) rfl ?_
  refine s_nil (q_then (c_true rfl (c_skip (q_then (c_seq (c_block (c_seq (c_region ?_))))))))
  refine s_y rfl (v := .slice A l.length c) (y_mv rfl) rfl ?_
  refine s_y rfl (v := .int .i64 (k : Int)) (y_mv rfl) rfl ?_
  refine e_at 0 k rfl (by first | omega | (simp only [List.length_append, List.length_map, List.length_take, List.length_drop]; omega)) (fun b1 o1 x1 hA1 hx1 => ?_)
  refine s_y rfl (v := .pointer (some ⟨b1, o1 + k * 6, none⟩)) (y_at (d := entTy) (l := l) k hA1 rfl rfl rfl (rfl) (List.getElem?_eq_some_iff.1 hx1).1 Tryz.underlying23 (by kernel_rfl) (by kernel_rfl)) rfl ?_
  refine s_y rfl (v := .pointer (some ⟨b1, o1 + k * 6 + 1, none⟩)) (y_k rfl rfl (fun _ => by kernel_rfl)) rfl ?_
  refine st rfl (o_ldf 0 1 rfl rfl rfl Tryz.underlying3 rfl rfl ?_)
  refine s_y rfl (v := .int .i64 id) (y_mv rfl) rfl ?_
  refine e_by (x1.ru = id) (fun h2 => ?_) (fun h2 => ?_)
  ·
   refine s_y rfl (v := .bool true) (y_t (y_k (v := .bool (decide (x1.ru = id))) rfl rfl (fun _ => by kernel_rfl)) h2) rfl ?_
   refine s_nil (q_then (c_true rfl (c_region ?_)))
   refine s_y rfl (v := .int .i64 (q : Int)) (y_mv rfl) rfl ?_
   refine s_y rfl (v := .slice A l.length c) (y_mv rfl) rfl ?_
   refine s_y rfl (v := .int .i64 (k : Int)) (y_mv rfl) rfl ?_
   refine s_y rfl (v := .pointer (some ⟨b1, o1 + k * 6, none⟩)) (y_at (d := entTy) (l := l) k hA1 rfl rfl rfl (rfl) (List.getElem?_eq_some_iff.1 hx1).1 Tryz.underlying23 (by kernel_rfl) (by kernel_rfl)) rfl ?_
   refine s_y rfl (v := .pointer (some ⟨b1, o1 + k * 6 + 5, none⟩)) (y_k rfl rfl (fun _ => by kernel_rfl)) rfl ?_
   refine st rfl (o_ldf 0 5 rfl rfl rfl Tryz.underlying9 rfl rfl ?_)
   refine s_y rfl (v := .int .i64 (x1.da.size : Int)) (y_k rfl rfl (fun _ => by kernel_rfl)) rfl ?_
   refine s_y rfl (v := .int .i64 ((q : Int) + (x1.da.size : Int))) (y_add (r := (q : Int) + (x1.da.size : Int)) rfl rfl rfl (by have q1 := jf_bound (k := k) (id := id) hm hn; have q2 := hm x1 (List.mem_of_getElem? hx1); unfold jenSm at q2; omega)) rfl ?_
   refine s_y rfl (v := .int .i64 ((q : Int) + (x1.da.size : Int))) (y_as rfl) rfl ?_
   refine s_nil (q_block (q_then (c_region ?_)))
   refine s_y rfl (v := .int .i64 (k : Int)) (y_mv rfl) rfl ?_
   refine s_y rfl (v := .int .i64 ((k : Int) + 1)) (y_add (r := (k : Int) + 1) rfl rfl rfl (by have q1 := jf_bound (k := k) (id := id) hm hn; have q2 := hm x1 (List.mem_of_getElem? hx1); unfold jenSm at q2; omega)) rfl ?_
   refine s_y rfl (v := .int .i64 ((k : Int) + 1)) (y_as rfl) rfl ?_
   refine s_nil (q_then ?_)
   refine c_next [] [1] (k + 1, q + x1.da.size) ?_ ?_ ?_ (by rfl) (by rfl)
   · exact (show ((k + 1) ≤ l.length) ∧ ((q + x1.da.size) = spentF (l.take (k + 1)) id) from ⟨by first | omega | simp_all | (simp; done), by first | exact rsp_t hq hx1 (by assumption) | exact rsp_f hq hx1 (by assumption)⟩)
   · show l.length - (k + 1) < l.length - k; omega
   · exact (.cons rfl rfl (.cons rfl rfl (.cons rfl rfl (.cons rfl (show (.int .i64 ((q : Int) + (x1.da.size : Int)) : Value) = .int .i64 ((q + x1.da.size) : Int) from by first | rfl | (congr 1; omega) | (congr 1; simp; done) | (congr 1; simp; omega)) (.cons rfl (show (.int .i64 ((k : Int) + 1) : Value) = .int .i64 ((k + 1) : Int) from by first | rfl | (congr 1; omega) | (congr 1; simp; done) | (congr 1; simp; omega)) .nil)))))
  ·
   refine s_y rfl (v := .bool false) (y_f (y_k (v := .bool (decide (x1.ru = id))) rfl rfl (fun _ => by kernel_rfl)) h2) rfl ?_
   refine s_nil (q_then (c_false rfl (c_skip (q_block (q_then (c_region ?_))))))
   refine s_y rfl (v := .int .i64 (k : Int)) (y_mv rfl) rfl ?_
   refine s_y rfl (v := .int .i64 ((k : Int) + 1)) (y_add (r := (k : Int) + 1) rfl rfl rfl (by have q1 := jf_bound (k := k) (id := id) hm hn; have q2 := hm x1 (List.mem_of_getElem? hx1); unfold jenSm at q2; omega)) rfl ?_
   refine s_y rfl (v := .int .i64 ((k : Int) + 1)) (y_as rfl) rfl ?_
   refine s_nil (q_then ?_)
   refine c_next [] [1] (k + 1, q) ?_ ?_ ?_ (by rfl) (by rfl)
   · exact (show ((k + 1) ≤ l.length) ∧ (q = spentF (l.take (k + 1)) id) from ⟨by first | omega | simp_all | (simp; done), by first | exact rsp_t hq hx1 (by assumption) | exact rsp_f hq hx1 (by assumption)⟩)
   · show l.length - (k + 1) < l.length - k; omega
   · exact (.cons rfl rfl (.cons rfl rfl (.cons rfl rfl (.cons rfl rfl (.cons rfl (show (.int .i64 ((k : Int) + 1) : Value) = .int .i64 ((k + 1) : Int) from by first | rfl | (congr 1; omega) | (congr 1; simp; done) | (congr 1; simp; omega)) .nil)))))
 ·
  refine s_y rfl (v := .bool false) (y_f (y_k (v := .bool (decide ((k : Int) < (l.length : Int)))) rfl rfl (fun _ => by kernel_rfl)) h1) rfl ?_
  refine s_nil (q_then (c_false rfl ?_))
  refine c_exit ?_
  refine q_then_exit ?_
  refine q_then_exit ?_
  refine q_block_here ?_
  refine q_then (c_seq (c_region ?_))
  refine s_y rfl (v := .int .i64 (q : Int)) (y_mv rfl) rfl ?_
  refine s_y rfl (v := .int .i64 (q : Int)) (y_as rfl) rfl ?_
  refine s_nil (q_then (c_ret ?_))
  refine c_fin (I' := []) [] [0] rfl (.tmp rfl .nil) rfl rfl rfl ?_
  exact ⟨by have e0 : k = l.length := (by omega); simp only [packed, hq, e0, List.take_length], rfl, rfl⟩
set_option maxHeartbeats 4000000 in
theorem rjRight_ (B : Option Addr) (d : Nat) (rules : List Rul) (A : Option Addr) (c : Nat) (l : List Jen) (hn : l.length ≤ 1000) (hm : ∀ y ∈ l, jenSm y) (hrn : rules.length ≤ 1000) (hrm : ∀ y ∈ rules, rulSm y) : Con Tryz.prog 8 [.slice B rules.length d, .slice A l.length c] [] [rd rulTy B d rules, rd entTy A c l] (fun v L' I' => v = .bool (decide (jRight rules l)) ∧ L' = [] ∧ I' = []) := by
 refine fn_of Tryz.func8 rfl Tryz.ntmps8 (by kernel_rfl) rfl (fun C => ?_)
 refine c_seq (c_region ?_)
 refine s_y rfl (v := .bool false) (y_as rfl) rfl ?_
 refine s_nil (q_then (c_seq (c_seq (c_region ?_))))
 refine s_y rfl (v := .int .i64 0) (y_as rfl) rfl ?_
 refine s_nil (q_then (c_block ?_))
 refine c_loopn (ι := Nat) (fun k => (k ≤ l.length) ∧ (∀ j y, j < k → l[j]? = some y → rjOk rules l j y)) (fun k => [(0, .slice B rules.length d), (1, .slice A l.length c), (5, .int .i64 (k : Int))]) (fun k => []) (fun k => [rd rulTy B d rules, rd entTy A c l]) (fun k => l.length - k) (0) [] [0, 1] (show (0 ≤ l.length) ∧ (∀ j y, j < 0 → l[j]? = some y → rjOk rules l j y) from ⟨by first | omega | simp_all | (simp; done), fun j y hj => absurd hj (by omega)⟩) ((.cons rfl rfl (.cons rfl rfl (.cons rfl rfl .nil)))) rfl rfl ?_
 rintro k ⟨hk, hF⟩
 show Ent 85 C [(0, .slice B rules.length d), (1, .slice A l.length c), (5, .int .i64 (k : Int))] [] [] [rd rulTy B d rules, rd entTy A c l] _
 refine c_seq (c_seq (c_region ?_))
 refine s_y rfl (v := .int .i64 (k : Int)) (y_mv rfl) rfl ?_
 refine s_y rfl (v := .slice A l.length c) (y_mv rfl) rfl ?_
 refine s_y rfl (v := .int .i64 (l.length : Int)) (y_k rfl rfl (fun _ => by kernel_rfl)) rfl ?_
 refine e_by ((k : Int) < (l.length : Int)) (fun h1 => ?_) (fun h1 => ?_)
 ·
  refine s_y rfl (v := .bool true) (y_t (y_k (v := .bool (decide ((k : Int) < (l.length : Int)))) rfl rfl (fun _ => by kernel_rfl)) h1) rfl ?_
  refine s_nil (q_then (c_true rfl (c_skip (q_then (c_seq (c_block (c_seq (c_region ?_))))))))
  refine s_y rfl (v := .slice A l.length c) (y_mv rfl) rfl ?_
  refine s_y rfl (v := .int .i64 (k : Int)) (y_mv rfl) rfl ?_
  refine e_at 1 k rfl (by first | omega | (simp only [List.length_append, List.length_map, List.length_take, List.length_drop]; omega)) (fun b1 o1 x1 hA1 hx1 => ?_)
  refine s_y rfl (v := .pointer (some ⟨b1, o1 + k * 6, none⟩)) (y_at (d := entTy) (l := l) k hA1 rfl rfl rfl (rfl) (List.getElem?_eq_some_iff.1 hx1).1 Tryz.underlying23 (by kernel_rfl) (by kernel_rfl)) rfl ?_
  refine st rfl (o_ldnf 0 0 6 rfl rfl rfl rfl Tryz.underlying47 rfl (by kernel_rfl) (by kernel_rfl) rfl ?_)
  refine st rfl (o_box (cs := [.int .i64 0, .int .i64 0, .int .i64 0, .int .u64 0, .int .i64 0, .string (⟨#[]⟩ : ByteArray)]) (T := 47) rfl rfl rfl rfl (fun _ => by kernel_rfl) (fun b2 => ?_))
  refine st rfl (o_st 0 rfl rfl rfl rfl rfl (by kernel_rfl) (by kernel_rfl) rfl ?_)
  refine s_nil (q_then (c_seq (c_region ?_)))
  refine s_y rfl (v := .slice B rules.length d) (y_mv rfl) rfl ?_
  refine s_y rfl (v := .pointer (some ⟨b2, 1, none⟩)) (y_k rfl rfl (fun _ => by kernel_rfl)) rfl ?_
  refine st rfl (o_ld 0 rfl rfl rfl Tryz.underlying3 rfl rfl ?_)
  refine st rfl (o_call [] [1] (rFind_ B d rules x1.ru (by first | omega | (simp; done) | (simp; omega) | assumption)) rfl rfl rfl rfl rfl rfl (fun v L' I' hq1 => ?_))
  rcases hq1 with ⟨r1, h2, rfl, rfl, rfl⟩ | ⟨h3, rfl, rfl, rfl⟩
  ·
   refine s_y rfl (v := .tuple #[.agg #[.int .i64 r1.id, .int .i64 r1.fr.lv, .int .u64 (r1.fr.cs : Int), .int .i64 r1.fr.ig, .int .i64 r1.to.lv, .int .u64 (r1.to.cs : Int), .int .i64 r1.to.ig, .int .i64 r1.bu, .int .i64 r1.wh.kd, .int .i64 r1.wh.mx, .string r1.wh.fm], .bool true]) (y_mv rfl) rfl ?_
   refine s_y rfl (v := .agg #[.int .i64 r1.id, .int .i64 r1.fr.lv, .int .u64 (r1.fr.cs : Int), .int .i64 r1.fr.ig, .int .i64 r1.to.lv, .int .u64 (r1.to.cs : Int), .int .i64 r1.to.ig, .int .i64 r1.bu, .int .i64 r1.wh.kd, .int .i64 r1.wh.mx, .string r1.wh.fm]) (y_k rfl rfl (fun _ => by kernel_rfl)) rfl ?_
   refine s_y rfl (v := .bool true) (y_k rfl rfl (fun _ => by kernel_rfl)) rfl ?_
   refine st rfl (o_box (cs := [.int .i64 0, .int .i64 0, .int .u64 0, .int .i64 0, .int .i64 0, .int .u64 0, .int .i64 0, .int .i64 0, .int .i64 0, .int .i64 0, .string (⟨#[]⟩ : ByteArray)]) (T := 42) rfl rfl rfl rfl (fun _ => by kernel_rfl) (fun b3 => ?_))
   refine st rfl (o_st 0 rfl rfl rfl rfl rfl (by kernel_rfl) (by kernel_rfl) rfl ?_)
   refine s_y rfl (v := .bool true) (y_as rfl) rfl ?_
   refine s_nil (q_then (c_seq (c_region ?_)))
   refine s_y rfl (v := .pointer (some ⟨b3, 8, none⟩)) (y_k rfl rfl (fun _ => by kernel_rfl)) rfl ?_
   refine st rfl (o_ldn 0 3 rfl rfl rfl rfl Tryz.underlying40 rfl (by kernel_rfl) (by kernel_rfl) rfl ?_)
   refine s_y rfl (v := .pointer (some ⟨b2, 5, none⟩)) (y_k rfl rfl (fun _ => by kernel_rfl)) rfl ?_
   refine st rfl (o_ld 1 rfl rfl rfl Tryz.underlying9 rfl rfl ?_)
   refine st rfl (o_call [] [] (rPass_ r1.wh x1.da (by have := hm x1 (List.mem_of_getElem? hx1); unfold jenSm at this; omega) (by first | exact hrm _ (find_id (by assumption)).2 | decide)) rfl rfl rfl rfl rfl rfl (fun v L' I' hq2 => ?_))
   rcases hq2 with ⟨e1, h4, h5, rfl, rfl, rfl⟩ | ⟨e2, h6, rfl, rfl, rfl⟩
   ·
    refine s_y rfl (v := .tuple #[.bool true, .int .i64 e1]) (y_mv rfl) rfl ?_
    refine s_y rfl (v := .bool true) (y_k rfl rfl (fun _ => by kernel_rfl)) rfl ?_
    refine s_y rfl (v := .int .i64 e1) (y_k rfl rfl (fun _ => by kernel_rfl)) rfl ?_
    refine s_y rfl (v := .bool true) (y_as rfl) rfl ?_
    refine s_y rfl (v := .int .i64 e1) (y_as rfl) rfl ?_
    refine s_nil (q_then (c_seq ?_))
    refine e_at 2 (((k : Int) - 1).toNat) rfl (by first | omega | (simp only [List.length_append, List.length_map, List.length_take, List.length_drop]; omega)) (fun b4 o2 x2 hA2 hx2 => ?_)
    refine c_draw (l := ticked 47 0) [(⟨b2, 0, none⟩, .int .i64 x1.st), (⟨b4, o2 + (((k : Int) - 1).toNat) * 6, none⟩, .int .i64 x2.st), (⟨b2, 2, none⟩, .int .i64 x1.to.lv), (⟨b2, 3, none⟩, .int .u64 (x1.to.cs : Int)), (⟨b2, 4, none⟩, .int .i64 x1.to.ig), (⟨b3, 4, none⟩, .int .i64 r1.to.lv), (⟨b3, 5, none⟩, .int .u64 (r1.to.cs : Int)), (⟨b3, 6, none⟩, .int .i64 r1.to.ig), (⟨b2, 1, none⟩, .int .i64 x1.ru), (⟨b3, 7, none⟩, .int .i64 r1.bu)] [] (by kernel_rfl) rfl rfl ?_
    refine b_y (i := 0) (v := .pointer (some ⟨b2, 0, none⟩)) (ticked 47 1) rfl rfl (by exact y_k rfl rfl (fun _ => by kernel_rfl)) ?_
    refine a_held (i := 1) (ticked 47 3) rfl (by as_aux_lemma => kernel_rfl) rfl rfl rfl (held_pt 1 rfl rfl (held_fact (j := 0) 0 rfl rfl (held_pt 1 rfl rfl (held_pt 1 rfl rfl (held_pt 1 rfl rfl (held_pt 0 rfl rfl (held_pt 0 rfl rfl (held_pt 0 rfl rfl (held_pt 1 rfl rfl (held_pt 0 rfl rfl held_nil)))))))))) (h_ld 0 rfl rfl Tryz.underlying3 rfl) ?_
    refine e_by (x1.st < 1) (fun h7 => ?_) (fun h7 => ?_)
    ·
     refine b_y (i := 2) (v := .bool true) (ticked 47 7) rfl rfl (by exact y_t (y_k (v := .bool (decide (x1.st < 1))) rfl rfl (fun _ => by kernel_rfl)) h7) ?_
     refine b_y (i := 3) (v := .bool true) (ticked 47 15) rfl rfl (by exact y_mv rfl) ?_
     refine b_f (i := 4) 39 (ticked 47 31) rfl rfl rfl rfl ?_
     refine b_f (i := 5) 39 (ticked 47 63) rfl rfl rfl rfl ?_
     refine b_f (i := 6) 39 (ticked 47 127) rfl rfl rfl rfl ?_
     refine b_y (i := 7) (v := .bool true) (ticked 47 255) rfl rfl (by exact y_pick rfl rfl) ?_
     refine b_y (i := 8) (v := .bool true) (ticked 47 511) rfl rfl (by exact y_mv rfl) ?_
     refine b_f (i := 9) 44 (ticked 47 1023) rfl rfl rfl rfl ?_
     refine b_f (i := 10) 44 (ticked 47 2047) rfl rfl rfl rfl ?_
     refine b_f (i := 11) 44 (ticked 47 4095) rfl rfl rfl rfl ?_
     refine b_u (i := 12) 47 (ticked 47 8191) rfl rfl rfl ?_
     refine b_u (i := 13) 47 (ticked 47 16383) rfl rfl rfl ?_
     refine b_u (i := 14) 47 (ticked 47 32767) rfl rfl rfl ?_
     refine b_u (i := 15) 47 (ticked 47 65535) rfl rfl rfl ?_
     refine b_u (i := 16) 47 (ticked 47 131071) rfl rfl rfl ?_
     refine b_u (i := 17) 47 (ticked 47 262143) rfl rfl rfl ?_
     refine b_u (i := 18) 47 (ticked 47 524287) rfl rfl rfl ?_
     refine b_u (i := 19) 47 (ticked 47 1048575) rfl rfl rfl ?_
     refine b_u (i := 20) 47 (ticked 47 2097151) rfl rfl rfl ?_
     refine b_f (i := 21) 44 (ticked 47 4194303) rfl rfl rfl rfl ?_
     refine b_y (i := 22) (v := .bool true) (ticked 47 8388607) rfl rfl (by exact y_pick rfl rfl) ?_
     refine b_y (i := 23) (v := .bool true) (ticked 47 16777215) rfl rfl (by exact y_mv rfl) ?_
     refine b_f (i := 24) 59 (ticked 47 33554431) rfl rfl rfl rfl ?_
     refine b_f (i := 25) 59 (ticked 47 67108863) rfl rfl rfl rfl ?_
     refine b_y (i := 26) (v := .bool true) (ticked 47 134217727) rfl rfl (by exact y_pick rfl rfl) ?_
     refine b_y (i := 27) (v := .bool true) (ticked 47 268435455) rfl rfl (by exact y_mv rfl) ?_
     refine b_f (i := 28) 63 (ticked 47 536870911) rfl rfl rfl rfl ?_
     refine b_f (i := 29) 63 (ticked 47 1073741823) rfl rfl rfl rfl ?_
     refine b_f (i := 30) 63 (ticked 47 2147483647) rfl rfl rfl rfl ?_
     refine b_f (i := 31) 63 (ticked 47 4294967295) rfl rfl rfl rfl ?_
     refine b_f (i := 32) 63 (ticked 47 8589934591) rfl rfl rfl rfl ?_
     refine b_y (i := 33) (v := .bool true) (ticked 47 17179869183) rfl rfl (by exact y_pick rfl rfl) ?_
     refine b_y (i := 34) (v := .bool true) (ticked 47 34359738367) rfl rfl (by exact y_mv rfl) ?_
     refine b_f (i := 35) 70 (ticked 47 68719476735) rfl rfl rfl rfl ?_
     refine b_f (i := 36) 70 (ticked 47 137438953471) rfl rfl rfl rfl ?_
     refine b_y (i := 37) (v := .bool true) (ticked 47 274877906943) rfl rfl (by exact y_pick rfl rfl) ?_
     refine b_y (i := 38) (v := .bool true) (ticked 47 549755813887) rfl rfl (by exact y_mv rfl) ?_
     refine b_f (i := 39) 74 (ticked 47 1099511627775) rfl rfl rfl rfl ?_
     refine b_f (i := 40) 74 (ticked 47 2199023255551) rfl rfl rfl rfl ?_
     refine b_f (i := 41) 74 (ticked 47 4398046511103) rfl rfl rfl rfl ?_
     refine b_f (i := 42) 74 (ticked 47 8796093022207) rfl rfl rfl rfl ?_
     refine b_f (i := 43) 74 (ticked 47 17592186044415) rfl rfl rfl rfl ?_
     refine b_f (i := 44) 74 (ticked 47 35184372088831) rfl rfl rfl rfl ?_
     refine b_f (i := 45) 74 (ticked 47 70368744177663) rfl rfl rfl rfl ?_
     refine b_y (i := 46) (v := .bool true) (ticked 47 140737488355327) rfl rfl (by exact y_pick rfl rfl) ?_
     refine a_done (by as_aux_lemma => kernel_rfl) ?_
     refine q_then (c_true rfl (c_seq (c_region ?_)))
     refine s_y rfl (v := .bool false) (y_as rfl) rfl ?_
     refine s_nil (q_then (c_ret (q_block_ret (q_then_ret (q_then_ret (q_block_ret (q_then_ret ?_)))))))
     refine c_fin (I' := []) [] [2, 3] rfl (.tmp rfl .nil) rfl rfl rfl ?_
     exact ⟨dec_f (by first | exact ⟨by assumption, rj_end hF (by omega)⟩ | exact fun q => absurd q.1 (by assumption) | exact fun q => rj_none (by assumption) (rj_of q.2 hx1) | (intro q; have q0 := (rj_some (by assumption)).1 (rj_of q.2 hx1); obtain ⟨q1, q2, q3, q4, q5⟩ := q0; first | omega | contradiction | exact rj_2 (by assumption) (by assumption) (by assumption) q2)), rfl, rfl⟩
    ·
     refine b_y (i := 2) (v := .bool false) (ticked 47 7) rfl rfl (by exact y_f (y_k (v := .bool (decide (x1.st < 1))) rfl rfl (fun _ => by kernel_rfl)) h7) ?_
     refine b_y (i := 3) (v := .bool false) (ticked 47 15) rfl rfl (by exact y_mv rfl) ?_
     refine b_yo (i := 4) (v := .pointer (some ⟨b2, 0, none⟩)) 39 (ticked 47 31) rfl rfl rfl (by exact y_k rfl rfl (fun _ => by kernel_rfl)) ?_
     refine a_held_on (i := 5) 39 (ticked 47 63) rfl (by as_aux_lemma => kernel_rfl) rfl rfl rfl rfl rfl (held_pt 1 rfl rfl (held_fact (j := 0) 0 rfl rfl (held_pt 1 rfl rfl (held_pt 1 rfl rfl (held_pt 1 rfl rfl (held_pt 0 rfl rfl (held_pt 0 rfl rfl (held_pt 0 rfl rfl (held_pt 1 rfl rfl (held_pt 0 rfl rfl held_nil)))))))))) (h_ld 0 rfl rfl Tryz.underlying3 rfl) ?_
     refine e_by (x1.st > 400) (fun h8 => ?_) (fun h8 => ?_)
     ·
      refine b_yo (i := 6) (v := .bool true) 39 (ticked 47 127) rfl rfl rfl (by exact y_t (y_k (v := .bool (decide (x1.st > 400))) rfl rfl (fun _ => by kernel_rfl)) h8) ?_
      refine b_y (i := 7) (v := .bool true) (ticked 47 255) rfl rfl (by exact y_pick rfl rfl) ?_
      refine b_y (i := 8) (v := .bool true) (ticked 47 511) rfl rfl (by exact y_mv rfl) ?_
      refine b_f (i := 9) 44 (ticked 47 1023) rfl rfl rfl rfl ?_
      refine b_f (i := 10) 44 (ticked 47 2047) rfl rfl rfl rfl ?_
      refine b_f (i := 11) 44 (ticked 47 4095) rfl rfl rfl rfl ?_
      refine b_u (i := 12) 47 (ticked 47 8191) rfl rfl rfl ?_
      refine b_u (i := 13) 47 (ticked 47 16383) rfl rfl rfl ?_
      refine b_u (i := 14) 47 (ticked 47 32767) rfl rfl rfl ?_
      refine b_u (i := 15) 47 (ticked 47 65535) rfl rfl rfl ?_
      refine b_u (i := 16) 47 (ticked 47 131071) rfl rfl rfl ?_
      refine b_u (i := 17) 47 (ticked 47 262143) rfl rfl rfl ?_
      refine b_u (i := 18) 47 (ticked 47 524287) rfl rfl rfl ?_
      refine b_u (i := 19) 47 (ticked 47 1048575) rfl rfl rfl ?_
      refine b_u (i := 20) 47 (ticked 47 2097151) rfl rfl rfl ?_
      refine b_f (i := 21) 44 (ticked 47 4194303) rfl rfl rfl rfl ?_
      refine b_y (i := 22) (v := .bool true) (ticked 47 8388607) rfl rfl (by exact y_pick rfl rfl) ?_
      refine b_y (i := 23) (v := .bool true) (ticked 47 16777215) rfl rfl (by exact y_mv rfl) ?_
      refine b_f (i := 24) 59 (ticked 47 33554431) rfl rfl rfl rfl ?_
      refine b_f (i := 25) 59 (ticked 47 67108863) rfl rfl rfl rfl ?_
      refine b_y (i := 26) (v := .bool true) (ticked 47 134217727) rfl rfl (by exact y_pick rfl rfl) ?_
      refine b_y (i := 27) (v := .bool true) (ticked 47 268435455) rfl rfl (by exact y_mv rfl) ?_
      refine b_f (i := 28) 63 (ticked 47 536870911) rfl rfl rfl rfl ?_
      refine b_f (i := 29) 63 (ticked 47 1073741823) rfl rfl rfl rfl ?_
      refine b_f (i := 30) 63 (ticked 47 2147483647) rfl rfl rfl rfl ?_
      refine b_f (i := 31) 63 (ticked 47 4294967295) rfl rfl rfl rfl ?_
      refine b_f (i := 32) 63 (ticked 47 8589934591) rfl rfl rfl rfl ?_
      refine b_y (i := 33) (v := .bool true) (ticked 47 17179869183) rfl rfl (by exact y_pick rfl rfl) ?_
      refine b_y (i := 34) (v := .bool true) (ticked 47 34359738367) rfl rfl (by exact y_mv rfl) ?_
      refine b_f (i := 35) 70 (ticked 47 68719476735) rfl rfl rfl rfl ?_
      refine b_f (i := 36) 70 (ticked 47 137438953471) rfl rfl rfl rfl ?_
      refine b_y (i := 37) (v := .bool true) (ticked 47 274877906943) rfl rfl (by exact y_pick rfl rfl) ?_
      refine b_y (i := 38) (v := .bool true) (ticked 47 549755813887) rfl rfl (by exact y_mv rfl) ?_
      refine b_f (i := 39) 74 (ticked 47 1099511627775) rfl rfl rfl rfl ?_
      refine b_f (i := 40) 74 (ticked 47 2199023255551) rfl rfl rfl rfl ?_
      refine b_f (i := 41) 74 (ticked 47 4398046511103) rfl rfl rfl rfl ?_
      refine b_f (i := 42) 74 (ticked 47 8796093022207) rfl rfl rfl rfl ?_
      refine b_f (i := 43) 74 (ticked 47 17592186044415) rfl rfl rfl rfl ?_
      refine b_f (i := 44) 74 (ticked 47 35184372088831) rfl rfl rfl rfl ?_
      refine b_f (i := 45) 74 (ticked 47 70368744177663) rfl rfl rfl rfl ?_
      refine b_y (i := 46) (v := .bool true) (ticked 47 140737488355327) rfl rfl (by exact y_pick rfl rfl) ?_
      refine a_done (by as_aux_lemma => kernel_rfl) ?_
      refine q_then (c_true rfl (c_seq (c_region ?_)))
      refine s_y rfl (v := .bool false) (y_as rfl) rfl ?_
      refine s_nil (q_then (c_ret (q_block_ret (q_then_ret (q_then_ret (q_block_ret (q_then_ret ?_)))))))
      refine c_fin (I' := []) [] [2, 3] rfl (.tmp rfl .nil) rfl rfl rfl ?_
      exact ⟨dec_f (by first | exact ⟨by assumption, rj_end hF (by omega)⟩ | exact fun q => absurd q.1 (by assumption) | exact fun q => rj_none (by assumption) (rj_of q.2 hx1) | (intro q; have q0 := (rj_some (by assumption)).1 (rj_of q.2 hx1); obtain ⟨q1, q2, q3, q4, q5⟩ := q0; first | omega | contradiction | exact rj_2 (by assumption) (by assumption) (by assumption) q2)), rfl, rfl⟩
     ·
      refine b_yo (i := 6) (v := .bool false) 39 (ticked 47 127) rfl rfl rfl (by exact y_f (y_k (v := .bool (decide (x1.st > 400))) rfl rfl (fun _ => by kernel_rfl)) h8) ?_
      refine b_y (i := 7) (v := .bool false) (ticked 47 255) rfl rfl (by exact y_pick rfl rfl) ?_
      refine b_y (i := 8) (v := .bool false) (ticked 47 511) rfl rfl (by exact y_mv rfl) ?_
      refine b_yo (i := 9) (v := .int .i64 (k : Int)) 44 (ticked 47 1023) rfl rfl rfl (by exact y_mv rfl) ?_
      refine e_by ((k : Int) > 0) (fun h9 => ?_) (fun h9 => ?_)
      ·
       refine b_yo (i := 10) (v := .bool true) 44 (ticked 47 2047) rfl rfl rfl (by exact y_t (y_k (v := .bool (decide ((k : Int) > 0))) rfl rfl (fun _ => by kernel_rfl)) h9) ?_
       refine b_yo (i := 11) (v := .bool true) 44 (ticked 47 4095) rfl rfl rfl (by exact y_mv rfl) ?_
       refine b_yo (i := 12) (v := .slice A l.length c) 47 (ticked 47 8191) rfl rfl rfl (by exact y_mv rfl) ?_
       refine b_yo (i := 13) (v := .int .i64 (k : Int)) 47 (ticked 47 16383) rfl rfl rfl (by exact y_mv rfl) ?_
       refine b_yo (i := 14) (v := .int .i64 ((k : Int) - 1)) 47 (ticked 47 32767) rfl rfl rfl (by exact y_sub (r := (k : Int) - 1) rfl rfl rfl (by omega)) ?_
       refine b_yo (i := 15) (v := .pointer (some ⟨b4, o2 + (((k : Int) - 1).toNat) * 6, none⟩)) 47 (ticked 47 65535) rfl rfl rfl (by exact y_at (d := entTy) (l := l) (((k : Int) - 1).toNat) hA2 rfl rfl rfl (by omega) (List.getElem?_eq_some_iff.1 hx2).1 Tryz.underlying23 (by kernel_rfl) (by kernel_rfl)) ?_
       refine b_yo (i := 16) (v := .pointer (some ⟨b4, o2 + (((k : Int) - 1).toNat) * 6, none⟩)) 47 (ticked 47 131071) rfl rfl rfl (by exact y_k rfl rfl (fun _ => by kernel_rfl)) ?_
       refine b_yo (i := 18) (v := .pointer (some ⟨b2, 0, none⟩)) 47 (ticked 47 393215) rfl rfl rfl (by exact y_k rfl rfl (fun _ => by kernel_rfl)) ?_
       refine a_held_on (i := 17) 47 (ticked 47 524287) rfl (by as_aux_lemma => kernel_rfl) rfl rfl rfl rfl rfl (held_pt 1 rfl rfl (held_fact (j := 0) 0 rfl rfl (held_pt 1 rfl rfl (held_pt 1 rfl rfl (held_pt 1 rfl rfl (held_pt 0 rfl rfl (held_pt 0 rfl rfl (held_pt 0 rfl rfl (held_pt 1 rfl rfl (held_pt 0 rfl rfl held_nil)))))))))) (h_ld 1 rfl rfl Tryz.underlying3 rfl) ?_
       refine a_held_on (i := 19) 47 (ticked 47 1048575) rfl (by as_aux_lemma => kernel_rfl) rfl rfl rfl rfl rfl (held_pt 1 rfl rfl (held_fact (j := 0) 0 rfl rfl (held_pt 1 rfl rfl (held_pt 1 rfl rfl (held_pt 1 rfl rfl (held_pt 0 rfl rfl (held_pt 0 rfl rfl (held_pt 0 rfl rfl (held_pt 1 rfl rfl (held_pt 0 rfl rfl held_nil)))))))))) (h_ld 0 rfl rfl Tryz.underlying3 rfl) ?_
       refine e_by (x2.st ≥ x1.st) (fun h10 => ?_) (fun h10 => ?_)
       ·
        refine b_yo (i := 20) (v := .bool true) 47 (ticked 47 2097151) rfl rfl rfl (by exact y_t (y_k (v := .bool (decide (x2.st ≥ x1.st))) rfl rfl (fun _ => by kernel_rfl)) h10) ?_
        refine b_yo (i := 21) (v := .bool true) 44 (ticked 47 4194303) rfl rfl rfl (by exact y_pick rfl rfl) ?_
        refine b_y (i := 22) (v := .bool true) (ticked 47 8388607) rfl rfl (by exact y_pick rfl rfl) ?_
        refine b_y (i := 23) (v := .bool true) (ticked 47 16777215) rfl rfl (by exact y_mv rfl) ?_
        refine b_f (i := 24) 59 (ticked 47 33554431) rfl rfl rfl rfl ?_
        refine b_f (i := 25) 59 (ticked 47 67108863) rfl rfl rfl rfl ?_
        refine b_y (i := 26) (v := .bool true) (ticked 47 134217727) rfl rfl (by exact y_pick rfl rfl) ?_
        refine b_y (i := 27) (v := .bool true) (ticked 47 268435455) rfl rfl (by exact y_mv rfl) ?_
        refine b_f (i := 28) 63 (ticked 47 536870911) rfl rfl rfl rfl ?_
        refine b_f (i := 29) 63 (ticked 47 1073741823) rfl rfl rfl rfl ?_
        refine b_f (i := 30) 63 (ticked 47 2147483647) rfl rfl rfl rfl ?_
        refine b_f (i := 31) 63 (ticked 47 4294967295) rfl rfl rfl rfl ?_
        refine b_f (i := 32) 63 (ticked 47 8589934591) rfl rfl rfl rfl ?_
        refine b_y (i := 33) (v := .bool true) (ticked 47 17179869183) rfl rfl (by exact y_pick rfl rfl) ?_
        refine b_y (i := 34) (v := .bool true) (ticked 47 34359738367) rfl rfl (by exact y_mv rfl) ?_
        refine b_f (i := 35) 70 (ticked 47 68719476735) rfl rfl rfl rfl ?_
        refine b_f (i := 36) 70 (ticked 47 137438953471) rfl rfl rfl rfl ?_
        refine b_y (i := 37) (v := .bool true) (ticked 47 274877906943) rfl rfl (by exact y_pick rfl rfl) ?_
        refine b_y (i := 38) (v := .bool true) (ticked 47 549755813887) rfl rfl (by exact y_mv rfl) ?_
        refine b_f (i := 39) 74 (ticked 47 1099511627775) rfl rfl rfl rfl ?_
        refine b_f (i := 40) 74 (ticked 47 2199023255551) rfl rfl rfl rfl ?_
        refine b_f (i := 41) 74 (ticked 47 4398046511103) rfl rfl rfl rfl ?_
        refine b_f (i := 42) 74 (ticked 47 8796093022207) rfl rfl rfl rfl ?_
        refine b_f (i := 43) 74 (ticked 47 17592186044415) rfl rfl rfl rfl ?_
        refine b_f (i := 44) 74 (ticked 47 35184372088831) rfl rfl rfl rfl ?_
        refine b_f (i := 45) 74 (ticked 47 70368744177663) rfl rfl rfl rfl ?_
        refine b_y (i := 46) (v := .bool true) (ticked 47 140737488355327) rfl rfl (by exact y_pick rfl rfl) ?_
        refine a_done (by as_aux_lemma => kernel_rfl) ?_
        refine q_then (c_true rfl (c_seq (c_region ?_)))
        refine s_y rfl (v := .bool false) (y_as rfl) rfl ?_
        refine s_nil (q_then (c_ret (q_block_ret (q_then_ret (q_then_ret (q_block_ret (q_then_ret ?_)))))))
        refine c_fin (I' := []) [] [2, 3] rfl (.tmp rfl .nil) rfl rfl rfl ?_
        exact ⟨dec_f (by first | exact ⟨by assumption, rj_end hF (by omega)⟩ | exact fun q => absurd q.1 (by assumption) | exact fun q => rj_none (by assumption) (rj_of q.2 hx1) | (intro q; have q0 := (rj_some (by assumption)).1 (rj_of q.2 hx1); obtain ⟨q1, q2, q3, q4, q5⟩ := q0; first | omega | contradiction | exact rj_2 (by assumption) (by assumption) (by assumption) q2)), rfl, rfl⟩
       ·
        refine b_yo (i := 20) (v := .bool false) 47 (ticked 47 2097151) rfl rfl rfl (by exact y_f (y_k (v := .bool (decide (x2.st ≥ x1.st))) rfl rfl (fun _ => by kernel_rfl)) h10) ?_
        refine b_yo (i := 21) (v := .bool false) 44 (ticked 47 4194303) rfl rfl rfl (by exact y_pick rfl rfl) ?_
        refine b_y (i := 22) (v := .bool false) (ticked 47 8388607) rfl rfl (by exact y_pick rfl rfl) ?_
        refine b_y (i := 23) (v := .bool false) (ticked 47 16777215) rfl rfl (by exact y_mv rfl) ?_
        refine b_yo (i := 24) (v := .bool true) 59 (ticked 47 33554431) rfl rfl rfl (by exact y_mv rfl) ?_
        refine b_yo (i := 25) (v := .bool false) 59 (ticked 47 67108863) rfl rfl rfl (by exact y_k rfl rfl (fun _ => by kernel_rfl)) ?_
        refine b_y (i := 26) (v := .bool false) (ticked 47 134217727) rfl rfl (by exact y_pick rfl rfl) ?_
        refine b_y (i := 27) (v := .bool false) (ticked 47 268435455) rfl rfl (by exact y_mv rfl) ?_
        refine b_yo (i := 28) (v := .pointer (some ⟨b2, 2, none⟩)) 63 (ticked 47 536870911) rfl rfl rfl (by exact y_k rfl rfl (fun _ => by kernel_rfl)) ?_
        refine b_yo (i := 30) (v := .pointer (some ⟨b3, 4, none⟩)) 63 (ticked 47 1610612735) rfl rfl rfl (by exact y_k rfl rfl (fun _ => by kernel_rfl)) ?_
        refine a_held_on (i := 29) 63 (ticked 47 2147483647) rfl (by as_aux_lemma => kernel_rfl) rfl rfl rfl rfl rfl (held_pt 1 rfl rfl (held_fact (j := 0) 0 rfl rfl (held_pt 1 rfl rfl (held_pt 1 rfl rfl (held_pt 1 rfl rfl (held_pt 0 rfl rfl (held_pt 0 rfl rfl (held_pt 0 rfl rfl (held_pt 1 rfl rfl (held_pt 0 rfl rfl held_nil)))))))))) (h_ldn (vs := [.int .i64 x1.to.lv, .int .u64 (x1.to.cs : Int), .int .i64 x1.to.ig]) 2 3 rfl rfl rfl Tryz.underlying26 rfl (by kernel_rfl) (by kernel_rfl)) ?_
        refine a_held_on (i := 31) 63 (ticked 47 4294967295) rfl (by as_aux_lemma => kernel_rfl) rfl rfl rfl rfl rfl (held_pt 1 rfl rfl (held_fact (j := 0) 0 rfl rfl (held_pt 1 rfl rfl (held_pt 1 rfl rfl (held_pt 1 rfl rfl (held_pt 0 rfl rfl (held_pt 0 rfl rfl (held_pt 0 rfl rfl (held_pt 1 rfl rfl (held_pt 0 rfl rfl held_nil)))))))))) (h_ldn (vs := [.int .i64 r1.to.lv, .int .u64 (r1.to.cs : Int), .int .i64 r1.to.ig]) 5 3 rfl rfl rfl Tryz.underlying26 rfl (by kernel_rfl) (by kernel_rfl)) ?_
        refine e_by (x1.to = r1.to) (fun h11 => ?_) (fun h11 => ?_)
        ·
         refine b_yo (i := 32) (v := .bool false) 63 (ticked 47 8589934591) rfl rfl rfl (by exact y_nt (y_bin rfl rfl (fun w => eq_Labn x1.to r1.to w)) h11) ?_
         refine b_y (i := 33) (v := .bool false) (ticked 47 17179869183) rfl rfl (by exact y_pick rfl rfl) ?_
         refine b_y (i := 34) (v := .bool false) (ticked 47 34359738367) rfl rfl (by exact y_mv rfl) ?_
         refine b_yo (i := 35) (v := .bool true) 70 (ticked 47 68719476735) rfl rfl rfl (by exact y_mv rfl) ?_
         refine b_yo (i := 36) (v := .bool false) 70 (ticked 47 137438953471) rfl rfl rfl (by exact y_k rfl rfl (fun _ => by kernel_rfl)) ?_
         refine b_y (i := 37) (v := .bool false) (ticked 47 274877906943) rfl rfl (by exact y_pick rfl rfl) ?_
         refine b_y (i := 38) (v := .bool false) (ticked 47 549755813887) rfl rfl (by exact y_mv rfl) ?_
         refine b_yo (i := 39) (v := .slice A l.length c) 74 (ticked 47 1099511627775) rfl rfl rfl (by exact y_mv rfl) ?_
         refine b_yo (i := 40) (v := .pointer (some ⟨b2, 1, none⟩)) 74 (ticked 47 2199023255551) rfl rfl rfl (by exact y_k rfl rfl (fun _ => by kernel_rfl)) ?_
         refine b_yo (i := 43) (v := .pointer (some ⟨b3, 7, none⟩)) 74 (ticked 47 10995116277759) rfl rfl rfl (by exact y_k rfl rfl (fun _ => by kernel_rfl)) ?_
         refine a_held_on (i := 41) 74 (ticked 47 13194139533311) rfl (by as_aux_lemma => kernel_rfl) rfl rfl rfl rfl rfl (held_pt 1 rfl rfl (held_fact (j := 0) 0 rfl rfl (held_pt 1 rfl rfl (held_pt 1 rfl rfl (held_pt 1 rfl rfl (held_pt 0 rfl rfl (held_pt 0 rfl rfl (held_pt 0 rfl rfl (held_pt 1 rfl rfl (held_pt 0 rfl rfl held_nil)))))))))) (h_ld 8 rfl rfl Tryz.underlying3 rfl) ?_
         refine a_held_on (i := 44) 74 (ticked 47 30786325577727) rfl (by as_aux_lemma => kernel_rfl) rfl rfl rfl rfl rfl (held_pt 1 rfl rfl (held_fact (j := 0) 0 rfl rfl (held_pt 1 rfl rfl (held_pt 1 rfl rfl (held_pt 1 rfl rfl (held_pt 0 rfl rfl (held_pt 0 rfl rfl (held_pt 0 rfl rfl (held_pt 1 rfl rfl (held_pt 0 rfl rfl held_nil)))))))))) (h_ld 9 rfl rfl Tryz.underlying3 rfl) ?_
         refine a_each (rs := [42]) (by as_aux_lemma => kernel_rfl) (.on 74 (ticked 47 35184372088831) rfl rfl rfl rfl rfl (o_call [] [3] (rSpent_ A c l x1.ru (hn) (by assumption)) rfl rfl rfl rfl rfl rfl (fun v L' I' hq3 => ?_)) .nil) (List.cons_ne_nil _ _)
         obtain ⟨rfl, rfl, rfl⟩ := hq3
         refine a_and (held_pt 1 rfl rfl (held_fact (j := 0) 0 rfl rfl (held_pt 1 rfl rfl (held_pt 1 rfl rfl (held_pt 1 rfl rfl (held_pt 0 rfl rfl (held_pt 0 rfl rfl (held_pt 0 rfl rfl (held_pt 1 rfl rfl (held_pt 0 rfl rfl held_nil)))))))))) ?_
         refine e_by ((spentF l x1.ru : Int) > r1.bu) (fun h12 => ?_) (fun h12 => ?_)
         ·
          refine b_yo (i := 45) (v := .bool true) 74 (ticked 47 70368744177663) rfl rfl rfl (by exact y_t (y_k (v := .bool (decide ((spentF l x1.ru : Int) > r1.bu))) rfl rfl (fun _ => by kernel_rfl)) h12) ?_
          refine b_y (i := 46) (v := .bool true) (ticked 47 140737488355327) rfl rfl (by exact y_pick rfl rfl) ?_
          refine a_done (by as_aux_lemma => kernel_rfl) ?_
          refine q_then (c_true rfl (c_seq (c_region ?_)))
          refine s_y rfl (v := .bool false) (y_as rfl) rfl ?_
          refine s_nil (q_then (c_ret (q_block_ret (q_then_ret (q_then_ret (q_block_ret (q_then_ret ?_)))))))
          refine c_fin (I' := []) [] [2, 3] rfl (.tmp rfl .nil) rfl rfl rfl ?_
          exact ⟨dec_f (by first | exact ⟨by assumption, rj_end hF (by omega)⟩ | exact fun q => absurd q.1 (by assumption) | exact fun q => rj_none (by assumption) (rj_of q.2 hx1) | (intro q; have q0 := (rj_some (by assumption)).1 (rj_of q.2 hx1); obtain ⟨q1, q2, q3, q4, q5⟩ := q0; first | omega | contradiction | exact rj_2 (by assumption) (by assumption) (by assumption) q2)), rfl, rfl⟩
         ·
          refine b_yo (i := 45) (v := .bool false) 74 (ticked 47 70368744177663) rfl rfl rfl (by exact y_f (y_k (v := .bool (decide ((spentF l x1.ru : Int) > r1.bu))) rfl rfl (fun _ => by kernel_rfl)) h12) ?_
          refine b_y (i := 46) (v := .bool false) (ticked 47 140737488355327) rfl rfl (by exact y_pick rfl rfl) ?_
          refine a_done (by as_aux_lemma => kernel_rfl) ?_
          refine q_then (c_false rfl (c_skip (q_block (q_then (c_region ?_)))))
          refine s_y rfl (v := .int .i64 (k : Int)) (y_mv rfl) rfl ?_
          refine s_y rfl (v := .int .i64 ((k : Int) + 1)) (y_add (r := (k : Int) + 1) rfl rfl rfl (by omega)) rfl ?_
          refine s_y rfl (v := .int .i64 ((k : Int) + 1)) (y_as rfl) rfl ?_
          refine s_nil (q_then ?_)
          refine c_next [] [2, 3] (k + 1) ?_ ?_ ?_ (by rfl) (by rfl)
          · exact (show ((k + 1) ≤ l.length) ∧ (∀ j y, j < (k + 1) → l[j]? = some y → rjOk rules l j y) from ⟨by first | omega | simp_all | (simp; done), rj_step hF hx1 ((rj_some (by assumption)).2 ⟨⟨by omega, by omega⟩, by first | exact rj_0 (by assumption) (by assumption) | exact rj_1 (by assumption) (by assumption) (by assumption), by assumption, by assumption, by omega⟩)⟩)
          · show l.length - (k + 1) < l.length - k; omega
          · exact (.cons rfl rfl (.cons rfl rfl (.cons rfl (show (.int .i64 ((k : Int) + 1) : Value) = .int .i64 ((k + 1) : Int) from by first | rfl | (congr 1; omega) | (congr 1; simp; done) | (congr 1; simp; omega)) .nil)))
        ·
         refine b_yo (i := 32) (v := .bool true) 63 (ticked 47 8589934591) rfl rfl rfl (by exact y_nf (y_bin rfl rfl (fun w => eq_Labn x1.to r1.to w)) h11) ?_
         refine b_y (i := 33) (v := .bool true) (ticked 47 17179869183) rfl rfl (by exact y_pick rfl rfl) ?_
         refine b_y (i := 34) (v := .bool true) (ticked 47 34359738367) rfl rfl (by exact y_mv rfl) ?_
         refine b_f (i := 35) 70 (ticked 47 68719476735) rfl rfl rfl rfl ?_
         refine b_f (i := 36) 70 (ticked 47 137438953471) rfl rfl rfl rfl ?_
         refine b_y (i := 37) (v := .bool true) (ticked 47 274877906943) rfl rfl (by exact y_pick rfl rfl) ?_
         refine b_y (i := 38) (v := .bool true) (ticked 47 549755813887) rfl rfl (by exact y_mv rfl) ?_
         refine b_f (i := 39) 74 (ticked 47 1099511627775) rfl rfl rfl rfl ?_
         refine b_f (i := 40) 74 (ticked 47 2199023255551) rfl rfl rfl rfl ?_
         refine b_f (i := 41) 74 (ticked 47 4398046511103) rfl rfl rfl rfl ?_
         refine b_f (i := 42) 74 (ticked 47 8796093022207) rfl rfl rfl rfl ?_
         refine b_f (i := 43) 74 (ticked 47 17592186044415) rfl rfl rfl rfl ?_
         refine b_f (i := 44) 74 (ticked 47 35184372088831) rfl rfl rfl rfl ?_
         refine b_f (i := 45) 74 (ticked 47 70368744177663) rfl rfl rfl rfl ?_
         refine b_y (i := 46) (v := .bool true) (ticked 47 140737488355327) rfl rfl (by exact y_pick rfl rfl) ?_
         refine a_done (by as_aux_lemma => kernel_rfl) ?_
         refine q_then (c_true rfl (c_seq (c_region ?_)))
         refine s_y rfl (v := .bool false) (y_as rfl) rfl ?_
         refine s_nil (q_then (c_ret (q_block_ret (q_then_ret (q_then_ret (q_block_ret (q_then_ret ?_)))))))
         refine c_fin (I' := []) [] [2, 3] rfl (.tmp rfl .nil) rfl rfl rfl ?_
         exact ⟨dec_f (by first | exact ⟨by assumption, rj_end hF (by omega)⟩ | exact fun q => absurd q.1 (by assumption) | exact fun q => rj_none (by assumption) (rj_of q.2 hx1) | (intro q; have q0 := (rj_some (by assumption)).1 (rj_of q.2 hx1); obtain ⟨q1, q2, q3, q4, q5⟩ := q0; first | omega | contradiction | exact rj_2 (by assumption) (by assumption) (by assumption) q2)), rfl, rfl⟩
      ·
       refine b_yo (i := 10) (v := .bool false) 44 (ticked 47 2047) rfl rfl rfl (by exact y_f (y_k (v := .bool (decide ((k : Int) > 0))) rfl rfl (fun _ => by kernel_rfl)) h9) ?_
       refine b_yo (i := 11) (v := .bool false) 44 (ticked 47 4095) rfl rfl rfl (by exact y_mv rfl) ?_
       refine b_f (i := 12) 47 (ticked 47 8191) rfl rfl rfl rfl ?_
       refine b_f (i := 13) 47 (ticked 47 16383) rfl rfl rfl rfl ?_
       refine b_f (i := 14) 47 (ticked 47 32767) rfl rfl rfl rfl ?_
       refine b_f (i := 15) 47 (ticked 47 65535) rfl rfl rfl rfl ?_
       refine b_f (i := 16) 47 (ticked 47 131071) rfl rfl rfl rfl ?_
       refine b_f (i := 17) 47 (ticked 47 262143) rfl rfl rfl rfl ?_
       refine b_f (i := 18) 47 (ticked 47 524287) rfl rfl rfl rfl ?_
       refine b_f (i := 19) 47 (ticked 47 1048575) rfl rfl rfl rfl ?_
       refine b_f (i := 20) 47 (ticked 47 2097151) rfl rfl rfl rfl ?_
       refine b_yo (i := 21) (v := .bool false) 44 (ticked 47 4194303) rfl rfl rfl (by exact y_pick rfl rfl) ?_
       refine b_y (i := 22) (v := .bool false) (ticked 47 8388607) rfl rfl (by exact y_pick rfl rfl) ?_
       refine b_y (i := 23) (v := .bool false) (ticked 47 16777215) rfl rfl (by exact y_mv rfl) ?_
       refine b_yo (i := 24) (v := .bool true) 59 (ticked 47 33554431) rfl rfl rfl (by exact y_mv rfl) ?_
       refine b_yo (i := 25) (v := .bool false) 59 (ticked 47 67108863) rfl rfl rfl (by exact y_k rfl rfl (fun _ => by kernel_rfl)) ?_
       refine b_y (i := 26) (v := .bool false) (ticked 47 134217727) rfl rfl (by exact y_pick rfl rfl) ?_
       refine b_y (i := 27) (v := .bool false) (ticked 47 268435455) rfl rfl (by exact y_mv rfl) ?_
       refine b_yo (i := 28) (v := .pointer (some ⟨b2, 2, none⟩)) 63 (ticked 47 536870911) rfl rfl rfl (by exact y_k rfl rfl (fun _ => by kernel_rfl)) ?_
       refine b_yo (i := 30) (v := .pointer (some ⟨b3, 4, none⟩)) 63 (ticked 47 1610612735) rfl rfl rfl (by exact y_k rfl rfl (fun _ => by kernel_rfl)) ?_
       refine a_held_on (i := 29) 63 (ticked 47 2147483647) rfl (by as_aux_lemma => kernel_rfl) rfl rfl rfl rfl rfl (held_pt 1 rfl rfl (held_fact (j := 0) 0 rfl rfl (held_pt 1 rfl rfl (held_pt 1 rfl rfl (held_pt 1 rfl rfl (held_pt 0 rfl rfl (held_pt 0 rfl rfl (held_pt 0 rfl rfl (held_pt 1 rfl rfl (held_pt 0 rfl rfl held_nil)))))))))) (h_ldn (vs := [.int .i64 x1.to.lv, .int .u64 (x1.to.cs : Int), .int .i64 x1.to.ig]) 2 3 rfl rfl rfl Tryz.underlying26 rfl (by kernel_rfl) (by kernel_rfl)) ?_
       refine a_held_on (i := 31) 63 (ticked 47 4294967295) rfl (by as_aux_lemma => kernel_rfl) rfl rfl rfl rfl rfl (held_pt 1 rfl rfl (held_fact (j := 0) 0 rfl rfl (held_pt 1 rfl rfl (held_pt 1 rfl rfl (held_pt 1 rfl rfl (held_pt 0 rfl rfl (held_pt 0 rfl rfl (held_pt 0 rfl rfl (held_pt 1 rfl rfl (held_pt 0 rfl rfl held_nil)))))))))) (h_ldn (vs := [.int .i64 r1.to.lv, .int .u64 (r1.to.cs : Int), .int .i64 r1.to.ig]) 5 3 rfl rfl rfl Tryz.underlying26 rfl (by kernel_rfl) (by kernel_rfl)) ?_
       refine e_by (x1.to = r1.to) (fun h13 => ?_) (fun h13 => ?_)
       ·
        refine b_yo (i := 32) (v := .bool false) 63 (ticked 47 8589934591) rfl rfl rfl (by exact y_nt (y_bin rfl rfl (fun w => eq_Labn x1.to r1.to w)) h13) ?_
        refine b_y (i := 33) (v := .bool false) (ticked 47 17179869183) rfl rfl (by exact y_pick rfl rfl) ?_
        refine b_y (i := 34) (v := .bool false) (ticked 47 34359738367) rfl rfl (by exact y_mv rfl) ?_
        refine b_yo (i := 35) (v := .bool true) 70 (ticked 47 68719476735) rfl rfl rfl (by exact y_mv rfl) ?_
        refine b_yo (i := 36) (v := .bool false) 70 (ticked 47 137438953471) rfl rfl rfl (by exact y_k rfl rfl (fun _ => by kernel_rfl)) ?_
        refine b_y (i := 37) (v := .bool false) (ticked 47 274877906943) rfl rfl (by exact y_pick rfl rfl) ?_
        refine b_y (i := 38) (v := .bool false) (ticked 47 549755813887) rfl rfl (by exact y_mv rfl) ?_
        refine b_yo (i := 39) (v := .slice A l.length c) 74 (ticked 47 1099511627775) rfl rfl rfl (by exact y_mv rfl) ?_
        refine b_yo (i := 40) (v := .pointer (some ⟨b2, 1, none⟩)) 74 (ticked 47 2199023255551) rfl rfl rfl (by exact y_k rfl rfl (fun _ => by kernel_rfl)) ?_
        refine b_yo (i := 43) (v := .pointer (some ⟨b3, 7, none⟩)) 74 (ticked 47 10995116277759) rfl rfl rfl (by exact y_k rfl rfl (fun _ => by kernel_rfl)) ?_
        refine a_held_on (i := 41) 74 (ticked 47 13194139533311) rfl (by as_aux_lemma => kernel_rfl) rfl rfl rfl rfl rfl (held_pt 1 rfl rfl (held_fact (j := 0) 0 rfl rfl (held_pt 1 rfl rfl (held_pt 1 rfl rfl (held_pt 1 rfl rfl (held_pt 0 rfl rfl (held_pt 0 rfl rfl (held_pt 0 rfl rfl (held_pt 1 rfl rfl (held_pt 0 rfl rfl held_nil)))))))))) (h_ld 8 rfl rfl Tryz.underlying3 rfl) ?_
        refine a_held_on (i := 44) 74 (ticked 47 30786325577727) rfl (by as_aux_lemma => kernel_rfl) rfl rfl rfl rfl rfl (held_pt 1 rfl rfl (held_fact (j := 0) 0 rfl rfl (held_pt 1 rfl rfl (held_pt 1 rfl rfl (held_pt 1 rfl rfl (held_pt 0 rfl rfl (held_pt 0 rfl rfl (held_pt 0 rfl rfl (held_pt 1 rfl rfl (held_pt 0 rfl rfl held_nil)))))))))) (h_ld 9 rfl rfl Tryz.underlying3 rfl) ?_
        refine a_each (rs := [42]) (by as_aux_lemma => kernel_rfl) (.on 74 (ticked 47 35184372088831) rfl rfl rfl rfl rfl (o_call [] [3] (rSpent_ A c l x1.ru (hn) (by assumption)) rfl rfl rfl rfl rfl rfl (fun v L' I' hq4 => ?_)) .nil) (List.cons_ne_nil _ _)
        obtain ⟨rfl, rfl, rfl⟩ := hq4
        refine a_and (held_pt 1 rfl rfl (held_fact (j := 0) 0 rfl rfl (held_pt 1 rfl rfl (held_pt 1 rfl rfl (held_pt 1 rfl rfl (held_pt 0 rfl rfl (held_pt 0 rfl rfl (held_pt 0 rfl rfl (held_pt 1 rfl rfl (held_pt 0 rfl rfl held_nil)))))))))) ?_
        refine e_by ((spentF l x1.ru : Int) > r1.bu) (fun h14 => ?_) (fun h14 => ?_)
        ·
         refine b_yo (i := 45) (v := .bool true) 74 (ticked 47 70368744177663) rfl rfl rfl (by exact y_t (y_k (v := .bool (decide ((spentF l x1.ru : Int) > r1.bu))) rfl rfl (fun _ => by kernel_rfl)) h14) ?_
         refine b_y (i := 46) (v := .bool true) (ticked 47 140737488355327) rfl rfl (by exact y_pick rfl rfl) ?_
         refine a_done (by as_aux_lemma => kernel_rfl) ?_
         refine q_then (c_true rfl (c_seq (c_region ?_)))
         refine s_y rfl (v := .bool false) (y_as rfl) rfl ?_
         refine s_nil (q_then (c_ret (q_block_ret (q_then_ret (q_then_ret (q_block_ret (q_then_ret ?_)))))))
         refine c_fin (I' := []) [] [2, 3] rfl (.tmp rfl .nil) rfl rfl rfl ?_
         exact ⟨dec_f (by first | exact ⟨by assumption, rj_end hF (by omega)⟩ | exact fun q => absurd q.1 (by assumption) | exact fun q => rj_none (by assumption) (rj_of q.2 hx1) | (intro q; have q0 := (rj_some (by assumption)).1 (rj_of q.2 hx1); obtain ⟨q1, q2, q3, q4, q5⟩ := q0; first | omega | contradiction | exact rj_2 (by assumption) (by assumption) (by assumption) q2)), rfl, rfl⟩
        ·
         refine b_yo (i := 45) (v := .bool false) 74 (ticked 47 70368744177663) rfl rfl rfl (by exact y_f (y_k (v := .bool (decide ((spentF l x1.ru : Int) > r1.bu))) rfl rfl (fun _ => by kernel_rfl)) h14) ?_
         refine b_y (i := 46) (v := .bool false) (ticked 47 140737488355327) rfl rfl (by exact y_pick rfl rfl) ?_
         refine a_done (by as_aux_lemma => kernel_rfl) ?_
         refine q_then (c_false rfl (c_skip (q_block (q_then (c_region ?_)))))
         refine s_y rfl (v := .int .i64 (k : Int)) (y_mv rfl) rfl ?_
         refine s_y rfl (v := .int .i64 ((k : Int) + 1)) (y_add (r := (k : Int) + 1) rfl rfl rfl (by omega)) rfl ?_
         refine s_y rfl (v := .int .i64 ((k : Int) + 1)) (y_as rfl) rfl ?_
         refine s_nil (q_then ?_)
         refine c_next [] [2, 3] (k + 1) ?_ ?_ ?_ (by rfl) (by rfl)
         · exact (show ((k + 1) ≤ l.length) ∧ (∀ j y, j < (k + 1) → l[j]? = some y → rjOk rules l j y) from ⟨by first | omega | simp_all | (simp; done), rj_step hF hx1 ((rj_some (by assumption)).2 ⟨⟨by omega, by omega⟩, by first | exact rj_0 (by assumption) (by assumption) | exact rj_1 (by assumption) (by assumption) (by assumption), by assumption, by assumption, by omega⟩)⟩)
         · show l.length - (k + 1) < l.length - k; omega
         · exact (.cons rfl rfl (.cons rfl rfl (.cons rfl (show (.int .i64 ((k : Int) + 1) : Value) = .int .i64 ((k + 1) : Int) from by first | rfl | (congr 1; omega) | (congr 1; simp; done) | (congr 1; simp; omega)) .nil)))
       ·
        refine b_yo (i := 32) (v := .bool true) 63 (ticked 47 8589934591) rfl rfl rfl (by exact y_nf (y_bin rfl rfl (fun w => eq_Labn x1.to r1.to w)) h13) ?_
        refine b_y (i := 33) (v := .bool true) (ticked 47 17179869183) rfl rfl (by exact y_pick rfl rfl) ?_
        refine b_y (i := 34) (v := .bool true) (ticked 47 34359738367) rfl rfl (by exact y_mv rfl) ?_
        refine b_f (i := 35) 70 (ticked 47 68719476735) rfl rfl rfl rfl ?_
        refine b_f (i := 36) 70 (ticked 47 137438953471) rfl rfl rfl rfl ?_
        refine b_y (i := 37) (v := .bool true) (ticked 47 274877906943) rfl rfl (by exact y_pick rfl rfl) ?_
        refine b_y (i := 38) (v := .bool true) (ticked 47 549755813887) rfl rfl (by exact y_mv rfl) ?_
        refine b_f (i := 39) 74 (ticked 47 1099511627775) rfl rfl rfl rfl ?_
        refine b_f (i := 40) 74 (ticked 47 2199023255551) rfl rfl rfl rfl ?_
        refine b_f (i := 41) 74 (ticked 47 4398046511103) rfl rfl rfl rfl ?_
        refine b_f (i := 42) 74 (ticked 47 8796093022207) rfl rfl rfl rfl ?_
        refine b_f (i := 43) 74 (ticked 47 17592186044415) rfl rfl rfl rfl ?_
        refine b_f (i := 44) 74 (ticked 47 35184372088831) rfl rfl rfl rfl ?_
        refine b_f (i := 45) 74 (ticked 47 70368744177663) rfl rfl rfl rfl ?_
        refine b_y (i := 46) (v := .bool true) (ticked 47 140737488355327) rfl rfl (by exact y_pick rfl rfl) ?_
        refine a_done (by as_aux_lemma => kernel_rfl) ?_
        refine q_then (c_true rfl (c_seq (c_region ?_)))
        refine s_y rfl (v := .bool false) (y_as rfl) rfl ?_
        refine s_nil (q_then (c_ret (q_block_ret (q_then_ret (q_then_ret (q_block_ret (q_then_ret ?_)))))))
        refine c_fin (I' := []) [] [2, 3] rfl (.tmp rfl .nil) rfl rfl rfl ?_
        exact ⟨dec_f (by first | exact ⟨by assumption, rj_end hF (by omega)⟩ | exact fun q => absurd q.1 (by assumption) | exact fun q => rj_none (by assumption) (rj_of q.2 hx1) | (intro q; have q0 := (rj_some (by assumption)).1 (rj_of q.2 hx1); obtain ⟨q1, q2, q3, q4, q5⟩ := q0; first | omega | contradiction | exact rj_2 (by assumption) (by assumption) (by assumption) q2)), rfl, rfl⟩
   ·
    refine s_y rfl (v := .tuple #[.bool false, .int .i64 e2]) (y_mv rfl) rfl ?_
    refine s_y rfl (v := .bool false) (y_k rfl rfl (fun _ => by kernel_rfl)) rfl ?_
    refine s_y rfl (v := .int .i64 e2) (y_k rfl rfl (fun _ => by kernel_rfl)) rfl ?_
    refine s_y rfl (v := .bool false) (y_as rfl) rfl ?_
    refine s_y rfl (v := .int .i64 e2) (y_as rfl) rfl ?_
    refine s_nil (q_then (c_seq ?_))
    refine e_at 2 (((k : Int) - 1).toNat) rfl (by first | omega | (simp only [List.length_append, List.length_map, List.length_take, List.length_drop]; omega)) (fun b5 o3 x3 hA3 hx3 => ?_)
    refine c_draw (l := ticked 47 0) [(⟨b2, 0, none⟩, .int .i64 x1.st), (⟨b5, o3 + (((k : Int) - 1).toNat) * 6, none⟩, .int .i64 x3.st), (⟨b2, 2, none⟩, .int .i64 x1.to.lv), (⟨b2, 3, none⟩, .int .u64 (x1.to.cs : Int)), (⟨b2, 4, none⟩, .int .i64 x1.to.ig), (⟨b3, 4, none⟩, .int .i64 r1.to.lv), (⟨b3, 5, none⟩, .int .u64 (r1.to.cs : Int)), (⟨b3, 6, none⟩, .int .i64 r1.to.ig)] [] (by kernel_rfl) rfl rfl ?_
    refine b_y (i := 0) (v := .pointer (some ⟨b2, 0, none⟩)) (ticked 47 1) rfl rfl (by exact y_k rfl rfl (fun _ => by kernel_rfl)) ?_
    refine a_held (i := 1) (ticked 47 3) rfl (by as_aux_lemma => kernel_rfl) rfl rfl rfl (held_pt 1 rfl rfl (held_fact (j := 0) 0 rfl rfl (held_pt 1 rfl rfl (held_pt 1 rfl rfl (held_pt 1 rfl rfl (held_pt 0 rfl rfl (held_pt 0 rfl rfl (held_pt 0 rfl rfl held_nil)))))))) (h_ld 0 rfl rfl Tryz.underlying3 rfl) ?_
    refine e_by (x1.st < 1) (fun h15 => ?_) (fun h15 => ?_)
    ·
     refine b_y (i := 2) (v := .bool true) (ticked 47 7) rfl rfl (by exact y_t (y_k (v := .bool (decide (x1.st < 1))) rfl rfl (fun _ => by kernel_rfl)) h15) ?_
     refine b_y (i := 3) (v := .bool true) (ticked 47 15) rfl rfl (by exact y_mv rfl) ?_
     refine b_f (i := 4) 39 (ticked 47 31) rfl rfl rfl rfl ?_
     refine b_f (i := 5) 39 (ticked 47 63) rfl rfl rfl rfl ?_
     refine b_f (i := 6) 39 (ticked 47 127) rfl rfl rfl rfl ?_
     refine b_y (i := 7) (v := .bool true) (ticked 47 255) rfl rfl (by exact y_pick rfl rfl) ?_
     refine b_y (i := 8) (v := .bool true) (ticked 47 511) rfl rfl (by exact y_mv rfl) ?_
     refine b_f (i := 9) 44 (ticked 47 1023) rfl rfl rfl rfl ?_
     refine b_f (i := 10) 44 (ticked 47 2047) rfl rfl rfl rfl ?_
     refine b_f (i := 11) 44 (ticked 47 4095) rfl rfl rfl rfl ?_
     refine b_u (i := 12) 47 (ticked 47 8191) rfl rfl rfl ?_
     refine b_u (i := 13) 47 (ticked 47 16383) rfl rfl rfl ?_
     refine b_u (i := 14) 47 (ticked 47 32767) rfl rfl rfl ?_
     refine b_u (i := 15) 47 (ticked 47 65535) rfl rfl rfl ?_
     refine b_u (i := 16) 47 (ticked 47 131071) rfl rfl rfl ?_
     refine b_u (i := 17) 47 (ticked 47 262143) rfl rfl rfl ?_
     refine b_u (i := 18) 47 (ticked 47 524287) rfl rfl rfl ?_
     refine b_u (i := 19) 47 (ticked 47 1048575) rfl rfl rfl ?_
     refine b_u (i := 20) 47 (ticked 47 2097151) rfl rfl rfl ?_
     refine b_f (i := 21) 44 (ticked 47 4194303) rfl rfl rfl rfl ?_
     refine b_y (i := 22) (v := .bool true) (ticked 47 8388607) rfl rfl (by exact y_pick rfl rfl) ?_
     refine b_y (i := 23) (v := .bool true) (ticked 47 16777215) rfl rfl (by exact y_mv rfl) ?_
     refine b_f (i := 24) 59 (ticked 47 33554431) rfl rfl rfl rfl ?_
     refine b_f (i := 25) 59 (ticked 47 67108863) rfl rfl rfl rfl ?_
     refine b_y (i := 26) (v := .bool true) (ticked 47 134217727) rfl rfl (by exact y_pick rfl rfl) ?_
     refine b_y (i := 27) (v := .bool true) (ticked 47 268435455) rfl rfl (by exact y_mv rfl) ?_
     refine b_f (i := 28) 63 (ticked 47 536870911) rfl rfl rfl rfl ?_
     refine b_f (i := 29) 63 (ticked 47 1073741823) rfl rfl rfl rfl ?_
     refine b_f (i := 30) 63 (ticked 47 2147483647) rfl rfl rfl rfl ?_
     refine b_f (i := 31) 63 (ticked 47 4294967295) rfl rfl rfl rfl ?_
     refine b_f (i := 32) 63 (ticked 47 8589934591) rfl rfl rfl rfl ?_
     refine b_y (i := 33) (v := .bool true) (ticked 47 17179869183) rfl rfl (by exact y_pick rfl rfl) ?_
     refine b_y (i := 34) (v := .bool true) (ticked 47 34359738367) rfl rfl (by exact y_mv rfl) ?_
     refine b_f (i := 35) 70 (ticked 47 68719476735) rfl rfl rfl rfl ?_
     refine b_f (i := 36) 70 (ticked 47 137438953471) rfl rfl rfl rfl ?_
     refine b_y (i := 37) (v := .bool true) (ticked 47 274877906943) rfl rfl (by exact y_pick rfl rfl) ?_
     refine b_y (i := 38) (v := .bool true) (ticked 47 549755813887) rfl rfl (by exact y_mv rfl) ?_
     refine b_f (i := 39) 74 (ticked 47 1099511627775) rfl rfl rfl rfl ?_
     refine b_f (i := 40) 74 (ticked 47 2199023255551) rfl rfl rfl rfl ?_
     refine b_f (i := 41) 74 (ticked 47 4398046511103) rfl rfl rfl rfl ?_
     refine b_f (i := 42) 74 (ticked 47 8796093022207) rfl rfl rfl rfl ?_
     refine b_f (i := 43) 74 (ticked 47 17592186044415) rfl rfl rfl rfl ?_
     refine b_f (i := 44) 74 (ticked 47 35184372088831) rfl rfl rfl rfl ?_
     refine b_f (i := 45) 74 (ticked 47 70368744177663) rfl rfl rfl rfl ?_
     refine b_y (i := 46) (v := .bool true) (ticked 47 140737488355327) rfl rfl (by exact y_pick rfl rfl) ?_
     refine a_done (by as_aux_lemma => kernel_rfl) ?_
     refine q_then (c_true rfl (c_seq (c_region ?_)))
     refine s_y rfl (v := .bool false) (y_as rfl) rfl ?_
     refine s_nil (q_then (c_ret (q_block_ret (q_then_ret (q_then_ret (q_block_ret (q_then_ret ?_)))))))
     refine c_fin (I' := []) [] [2, 3] rfl (.tmp rfl .nil) rfl rfl rfl ?_
     exact ⟨dec_f (by first | exact ⟨by assumption, rj_end hF (by omega)⟩ | exact fun q => absurd q.1 (by assumption) | exact fun q => rj_none (by assumption) (rj_of q.2 hx1) | (intro q; have q0 := (rj_some (by assumption)).1 (rj_of q.2 hx1); obtain ⟨q1, q2, q3, q4, q5⟩ := q0; first | omega | contradiction | exact rj_2 (by assumption) (by assumption) (by assumption) q2)), rfl, rfl⟩
    ·
     refine b_y (i := 2) (v := .bool false) (ticked 47 7) rfl rfl (by exact y_f (y_k (v := .bool (decide (x1.st < 1))) rfl rfl (fun _ => by kernel_rfl)) h15) ?_
     refine b_y (i := 3) (v := .bool false) (ticked 47 15) rfl rfl (by exact y_mv rfl) ?_
     refine b_yo (i := 4) (v := .pointer (some ⟨b2, 0, none⟩)) 39 (ticked 47 31) rfl rfl rfl (by exact y_k rfl rfl (fun _ => by kernel_rfl)) ?_
     refine a_held_on (i := 5) 39 (ticked 47 63) rfl (by as_aux_lemma => kernel_rfl) rfl rfl rfl rfl rfl (held_pt 1 rfl rfl (held_fact (j := 0) 0 rfl rfl (held_pt 1 rfl rfl (held_pt 1 rfl rfl (held_pt 1 rfl rfl (held_pt 0 rfl rfl (held_pt 0 rfl rfl (held_pt 0 rfl rfl held_nil)))))))) (h_ld 0 rfl rfl Tryz.underlying3 rfl) ?_
     refine e_by (x1.st > 400) (fun h16 => ?_) (fun h16 => ?_)
     ·
      refine b_yo (i := 6) (v := .bool true) 39 (ticked 47 127) rfl rfl rfl (by exact y_t (y_k (v := .bool (decide (x1.st > 400))) rfl rfl (fun _ => by kernel_rfl)) h16) ?_
      refine b_y (i := 7) (v := .bool true) (ticked 47 255) rfl rfl (by exact y_pick rfl rfl) ?_
      refine b_y (i := 8) (v := .bool true) (ticked 47 511) rfl rfl (by exact y_mv rfl) ?_
      refine b_f (i := 9) 44 (ticked 47 1023) rfl rfl rfl rfl ?_
      refine b_f (i := 10) 44 (ticked 47 2047) rfl rfl rfl rfl ?_
      refine b_f (i := 11) 44 (ticked 47 4095) rfl rfl rfl rfl ?_
      refine b_u (i := 12) 47 (ticked 47 8191) rfl rfl rfl ?_
      refine b_u (i := 13) 47 (ticked 47 16383) rfl rfl rfl ?_
      refine b_u (i := 14) 47 (ticked 47 32767) rfl rfl rfl ?_
      refine b_u (i := 15) 47 (ticked 47 65535) rfl rfl rfl ?_
      refine b_u (i := 16) 47 (ticked 47 131071) rfl rfl rfl ?_
      refine b_u (i := 17) 47 (ticked 47 262143) rfl rfl rfl ?_
      refine b_u (i := 18) 47 (ticked 47 524287) rfl rfl rfl ?_
      refine b_u (i := 19) 47 (ticked 47 1048575) rfl rfl rfl ?_
      refine b_u (i := 20) 47 (ticked 47 2097151) rfl rfl rfl ?_
      refine b_f (i := 21) 44 (ticked 47 4194303) rfl rfl rfl rfl ?_
      refine b_y (i := 22) (v := .bool true) (ticked 47 8388607) rfl rfl (by exact y_pick rfl rfl) ?_
      refine b_y (i := 23) (v := .bool true) (ticked 47 16777215) rfl rfl (by exact y_mv rfl) ?_
      refine b_f (i := 24) 59 (ticked 47 33554431) rfl rfl rfl rfl ?_
      refine b_f (i := 25) 59 (ticked 47 67108863) rfl rfl rfl rfl ?_
      refine b_y (i := 26) (v := .bool true) (ticked 47 134217727) rfl rfl (by exact y_pick rfl rfl) ?_
      refine b_y (i := 27) (v := .bool true) (ticked 47 268435455) rfl rfl (by exact y_mv rfl) ?_
      refine b_f (i := 28) 63 (ticked 47 536870911) rfl rfl rfl rfl ?_
      refine b_f (i := 29) 63 (ticked 47 1073741823) rfl rfl rfl rfl ?_
      refine b_f (i := 30) 63 (ticked 47 2147483647) rfl rfl rfl rfl ?_
      refine b_f (i := 31) 63 (ticked 47 4294967295) rfl rfl rfl rfl ?_
      refine b_f (i := 32) 63 (ticked 47 8589934591) rfl rfl rfl rfl ?_
      refine b_y (i := 33) (v := .bool true) (ticked 47 17179869183) rfl rfl (by exact y_pick rfl rfl) ?_
      refine b_y (i := 34) (v := .bool true) (ticked 47 34359738367) rfl rfl (by exact y_mv rfl) ?_
      refine b_f (i := 35) 70 (ticked 47 68719476735) rfl rfl rfl rfl ?_
      refine b_f (i := 36) 70 (ticked 47 137438953471) rfl rfl rfl rfl ?_
      refine b_y (i := 37) (v := .bool true) (ticked 47 274877906943) rfl rfl (by exact y_pick rfl rfl) ?_
      refine b_y (i := 38) (v := .bool true) (ticked 47 549755813887) rfl rfl (by exact y_mv rfl) ?_
      refine b_f (i := 39) 74 (ticked 47 1099511627775) rfl rfl rfl rfl ?_
      refine b_f (i := 40) 74 (ticked 47 2199023255551) rfl rfl rfl rfl ?_
      refine b_f (i := 41) 74 (ticked 47 4398046511103) rfl rfl rfl rfl ?_
      refine b_f (i := 42) 74 (ticked 47 8796093022207) rfl rfl rfl rfl ?_
      refine b_f (i := 43) 74 (ticked 47 17592186044415) rfl rfl rfl rfl ?_
      refine b_f (i := 44) 74 (ticked 47 35184372088831) rfl rfl rfl rfl ?_
      refine b_f (i := 45) 74 (ticked 47 70368744177663) rfl rfl rfl rfl ?_
      refine b_y (i := 46) (v := .bool true) (ticked 47 140737488355327) rfl rfl (by exact y_pick rfl rfl) ?_
      refine a_done (by as_aux_lemma => kernel_rfl) ?_
      refine q_then (c_true rfl (c_seq (c_region ?_)))
      refine s_y rfl (v := .bool false) (y_as rfl) rfl ?_
      refine s_nil (q_then (c_ret (q_block_ret (q_then_ret (q_then_ret (q_block_ret (q_then_ret ?_)))))))
      refine c_fin (I' := []) [] [2, 3] rfl (.tmp rfl .nil) rfl rfl rfl ?_
      exact ⟨dec_f (by first | exact ⟨by assumption, rj_end hF (by omega)⟩ | exact fun q => absurd q.1 (by assumption) | exact fun q => rj_none (by assumption) (rj_of q.2 hx1) | (intro q; have q0 := (rj_some (by assumption)).1 (rj_of q.2 hx1); obtain ⟨q1, q2, q3, q4, q5⟩ := q0; first | omega | contradiction | exact rj_2 (by assumption) (by assumption) (by assumption) q2)), rfl, rfl⟩
     ·
      refine b_yo (i := 6) (v := .bool false) 39 (ticked 47 127) rfl rfl rfl (by exact y_f (y_k (v := .bool (decide (x1.st > 400))) rfl rfl (fun _ => by kernel_rfl)) h16) ?_
      refine b_y (i := 7) (v := .bool false) (ticked 47 255) rfl rfl (by exact y_pick rfl rfl) ?_
      refine b_y (i := 8) (v := .bool false) (ticked 47 511) rfl rfl (by exact y_mv rfl) ?_
      refine b_yo (i := 9) (v := .int .i64 (k : Int)) 44 (ticked 47 1023) rfl rfl rfl (by exact y_mv rfl) ?_
      refine e_by ((k : Int) > 0) (fun h17 => ?_) (fun h17 => ?_)
      ·
       refine b_yo (i := 10) (v := .bool true) 44 (ticked 47 2047) rfl rfl rfl (by exact y_t (y_k (v := .bool (decide ((k : Int) > 0))) rfl rfl (fun _ => by kernel_rfl)) h17) ?_
       refine b_yo (i := 11) (v := .bool true) 44 (ticked 47 4095) rfl rfl rfl (by exact y_mv rfl) ?_
       refine b_yo (i := 12) (v := .slice A l.length c) 47 (ticked 47 8191) rfl rfl rfl (by exact y_mv rfl) ?_
       refine b_yo (i := 13) (v := .int .i64 (k : Int)) 47 (ticked 47 16383) rfl rfl rfl (by exact y_mv rfl) ?_
       refine b_yo (i := 14) (v := .int .i64 ((k : Int) - 1)) 47 (ticked 47 32767) rfl rfl rfl (by exact y_sub (r := (k : Int) - 1) rfl rfl rfl (by omega)) ?_
       refine b_yo (i := 15) (v := .pointer (some ⟨b5, o3 + (((k : Int) - 1).toNat) * 6, none⟩)) 47 (ticked 47 65535) rfl rfl rfl (by exact y_at (d := entTy) (l := l) (((k : Int) - 1).toNat) hA3 rfl rfl rfl (by omega) (List.getElem?_eq_some_iff.1 hx3).1 Tryz.underlying23 (by kernel_rfl) (by kernel_rfl)) ?_
       refine b_yo (i := 16) (v := .pointer (some ⟨b5, o3 + (((k : Int) - 1).toNat) * 6, none⟩)) 47 (ticked 47 131071) rfl rfl rfl (by exact y_k rfl rfl (fun _ => by kernel_rfl)) ?_
       refine b_yo (i := 18) (v := .pointer (some ⟨b2, 0, none⟩)) 47 (ticked 47 393215) rfl rfl rfl (by exact y_k rfl rfl (fun _ => by kernel_rfl)) ?_
       refine a_held_on (i := 17) 47 (ticked 47 524287) rfl (by as_aux_lemma => kernel_rfl) rfl rfl rfl rfl rfl (held_pt 1 rfl rfl (held_fact (j := 0) 0 rfl rfl (held_pt 1 rfl rfl (held_pt 1 rfl rfl (held_pt 1 rfl rfl (held_pt 0 rfl rfl (held_pt 0 rfl rfl (held_pt 0 rfl rfl held_nil)))))))) (h_ld 1 rfl rfl Tryz.underlying3 rfl) ?_
       refine a_held_on (i := 19) 47 (ticked 47 1048575) rfl (by as_aux_lemma => kernel_rfl) rfl rfl rfl rfl rfl (held_pt 1 rfl rfl (held_fact (j := 0) 0 rfl rfl (held_pt 1 rfl rfl (held_pt 1 rfl rfl (held_pt 1 rfl rfl (held_pt 0 rfl rfl (held_pt 0 rfl rfl (held_pt 0 rfl rfl held_nil)))))))) (h_ld 0 rfl rfl Tryz.underlying3 rfl) ?_
       refine e_by (x3.st ≥ x1.st) (fun h18 => ?_) (fun h18 => ?_)
       ·
        refine b_yo (i := 20) (v := .bool true) 47 (ticked 47 2097151) rfl rfl rfl (by exact y_t (y_k (v := .bool (decide (x3.st ≥ x1.st))) rfl rfl (fun _ => by kernel_rfl)) h18) ?_
        refine b_yo (i := 21) (v := .bool true) 44 (ticked 47 4194303) rfl rfl rfl (by exact y_pick rfl rfl) ?_
        refine b_y (i := 22) (v := .bool true) (ticked 47 8388607) rfl rfl (by exact y_pick rfl rfl) ?_
        refine b_y (i := 23) (v := .bool true) (ticked 47 16777215) rfl rfl (by exact y_mv rfl) ?_
        refine b_f (i := 24) 59 (ticked 47 33554431) rfl rfl rfl rfl ?_
        refine b_f (i := 25) 59 (ticked 47 67108863) rfl rfl rfl rfl ?_
        refine b_y (i := 26) (v := .bool true) (ticked 47 134217727) rfl rfl (by exact y_pick rfl rfl) ?_
        refine b_y (i := 27) (v := .bool true) (ticked 47 268435455) rfl rfl (by exact y_mv rfl) ?_
        refine b_f (i := 28) 63 (ticked 47 536870911) rfl rfl rfl rfl ?_
        refine b_f (i := 29) 63 (ticked 47 1073741823) rfl rfl rfl rfl ?_
        refine b_f (i := 30) 63 (ticked 47 2147483647) rfl rfl rfl rfl ?_
        refine b_f (i := 31) 63 (ticked 47 4294967295) rfl rfl rfl rfl ?_
        refine b_f (i := 32) 63 (ticked 47 8589934591) rfl rfl rfl rfl ?_
        refine b_y (i := 33) (v := .bool true) (ticked 47 17179869183) rfl rfl (by exact y_pick rfl rfl) ?_
        refine b_y (i := 34) (v := .bool true) (ticked 47 34359738367) rfl rfl (by exact y_mv rfl) ?_
        refine b_f (i := 35) 70 (ticked 47 68719476735) rfl rfl rfl rfl ?_
        refine b_f (i := 36) 70 (ticked 47 137438953471) rfl rfl rfl rfl ?_
        refine b_y (i := 37) (v := .bool true) (ticked 47 274877906943) rfl rfl (by exact y_pick rfl rfl) ?_
        refine b_y (i := 38) (v := .bool true) (ticked 47 549755813887) rfl rfl (by exact y_mv rfl) ?_
        refine b_f (i := 39) 74 (ticked 47 1099511627775) rfl rfl rfl rfl ?_
        refine b_f (i := 40) 74 (ticked 47 2199023255551) rfl rfl rfl rfl ?_
        refine b_f (i := 41) 74 (ticked 47 4398046511103) rfl rfl rfl rfl ?_
        refine b_f (i := 42) 74 (ticked 47 8796093022207) rfl rfl rfl rfl ?_
        refine b_f (i := 43) 74 (ticked 47 17592186044415) rfl rfl rfl rfl ?_
        refine b_f (i := 44) 74 (ticked 47 35184372088831) rfl rfl rfl rfl ?_
        refine b_f (i := 45) 74 (ticked 47 70368744177663) rfl rfl rfl rfl ?_
        refine b_y (i := 46) (v := .bool true) (ticked 47 140737488355327) rfl rfl (by exact y_pick rfl rfl) ?_
        refine a_done (by as_aux_lemma => kernel_rfl) ?_
        refine q_then (c_true rfl (c_seq (c_region ?_)))
        refine s_y rfl (v := .bool false) (y_as rfl) rfl ?_
        refine s_nil (q_then (c_ret (q_block_ret (q_then_ret (q_then_ret (q_block_ret (q_then_ret ?_)))))))
        refine c_fin (I' := []) [] [2, 3] rfl (.tmp rfl .nil) rfl rfl rfl ?_
        exact ⟨dec_f (by first | exact ⟨by assumption, rj_end hF (by omega)⟩ | exact fun q => absurd q.1 (by assumption) | exact fun q => rj_none (by assumption) (rj_of q.2 hx1) | (intro q; have q0 := (rj_some (by assumption)).1 (rj_of q.2 hx1); obtain ⟨q1, q2, q3, q4, q5⟩ := q0; first | omega | contradiction | exact rj_2 (by assumption) (by assumption) (by assumption) q2)), rfl, rfl⟩
       ·
        refine b_yo (i := 20) (v := .bool false) 47 (ticked 47 2097151) rfl rfl rfl (by exact y_f (y_k (v := .bool (decide (x3.st ≥ x1.st))) rfl rfl (fun _ => by kernel_rfl)) h18) ?_
        refine b_yo (i := 21) (v := .bool false) 44 (ticked 47 4194303) rfl rfl rfl (by exact y_pick rfl rfl) ?_
        refine b_y (i := 22) (v := .bool false) (ticked 47 8388607) rfl rfl (by exact y_pick rfl rfl) ?_
        refine b_y (i := 23) (v := .bool false) (ticked 47 16777215) rfl rfl (by exact y_mv rfl) ?_
        refine b_yo (i := 24) (v := .bool true) 59 (ticked 47 33554431) rfl rfl rfl (by exact y_mv rfl) ?_
        refine b_yo (i := 25) (v := .bool false) 59 (ticked 47 67108863) rfl rfl rfl (by exact y_k rfl rfl (fun _ => by kernel_rfl)) ?_
        refine b_y (i := 26) (v := .bool false) (ticked 47 134217727) rfl rfl (by exact y_pick rfl rfl) ?_
        refine b_y (i := 27) (v := .bool false) (ticked 47 268435455) rfl rfl (by exact y_mv rfl) ?_
        refine b_yo (i := 28) (v := .pointer (some ⟨b2, 2, none⟩)) 63 (ticked 47 536870911) rfl rfl rfl (by exact y_k rfl rfl (fun _ => by kernel_rfl)) ?_
        refine b_yo (i := 30) (v := .pointer (some ⟨b3, 4, none⟩)) 63 (ticked 47 1610612735) rfl rfl rfl (by exact y_k rfl rfl (fun _ => by kernel_rfl)) ?_
        refine a_held_on (i := 29) 63 (ticked 47 2147483647) rfl (by as_aux_lemma => kernel_rfl) rfl rfl rfl rfl rfl (held_pt 1 rfl rfl (held_fact (j := 0) 0 rfl rfl (held_pt 1 rfl rfl (held_pt 1 rfl rfl (held_pt 1 rfl rfl (held_pt 0 rfl rfl (held_pt 0 rfl rfl (held_pt 0 rfl rfl held_nil)))))))) (h_ldn (vs := [.int .i64 x1.to.lv, .int .u64 (x1.to.cs : Int), .int .i64 x1.to.ig]) 2 3 rfl rfl rfl Tryz.underlying26 rfl (by kernel_rfl) (by kernel_rfl)) ?_
        refine a_held_on (i := 31) 63 (ticked 47 4294967295) rfl (by as_aux_lemma => kernel_rfl) rfl rfl rfl rfl rfl (held_pt 1 rfl rfl (held_fact (j := 0) 0 rfl rfl (held_pt 1 rfl rfl (held_pt 1 rfl rfl (held_pt 1 rfl rfl (held_pt 0 rfl rfl (held_pt 0 rfl rfl (held_pt 0 rfl rfl held_nil)))))))) (h_ldn (vs := [.int .i64 r1.to.lv, .int .u64 (r1.to.cs : Int), .int .i64 r1.to.ig]) 5 3 rfl rfl rfl Tryz.underlying26 rfl (by kernel_rfl) (by kernel_rfl)) ?_
        refine e_by (x1.to = r1.to) (fun h19 => ?_) (fun h19 => ?_)
        ·
         refine b_yo (i := 32) (v := .bool false) 63 (ticked 47 8589934591) rfl rfl rfl (by exact y_nt (y_bin rfl rfl (fun w => eq_Labn x1.to r1.to w)) h19) ?_
         refine b_y (i := 33) (v := .bool false) (ticked 47 17179869183) rfl rfl (by exact y_pick rfl rfl) ?_
         refine b_y (i := 34) (v := .bool false) (ticked 47 34359738367) rfl rfl (by exact y_mv rfl) ?_
         refine b_yo (i := 35) (v := .bool false) 70 (ticked 47 68719476735) rfl rfl rfl (by exact y_mv rfl) ?_
         refine b_yo (i := 36) (v := .bool true) 70 (ticked 47 137438953471) rfl rfl rfl (by exact y_k rfl rfl (fun _ => by kernel_rfl)) ?_
         refine b_y (i := 37) (v := .bool true) (ticked 47 274877906943) rfl rfl (by exact y_pick rfl rfl) ?_
         refine b_y (i := 38) (v := .bool true) (ticked 47 549755813887) rfl rfl (by exact y_mv rfl) ?_
         refine b_f (i := 39) 74 (ticked 47 1099511627775) rfl rfl rfl rfl ?_
         refine b_f (i := 40) 74 (ticked 47 2199023255551) rfl rfl rfl rfl ?_
         refine b_f (i := 41) 74 (ticked 47 4398046511103) rfl rfl rfl rfl ?_
         refine b_f (i := 42) 74 (ticked 47 8796093022207) rfl rfl rfl rfl ?_
         refine b_f (i := 43) 74 (ticked 47 17592186044415) rfl rfl rfl rfl ?_
         refine b_f (i := 44) 74 (ticked 47 35184372088831) rfl rfl rfl rfl ?_
         refine b_f (i := 45) 74 (ticked 47 70368744177663) rfl rfl rfl rfl ?_
         refine b_y (i := 46) (v := .bool true) (ticked 47 140737488355327) rfl rfl (by exact y_pick rfl rfl) ?_
         refine a_done (by as_aux_lemma => kernel_rfl) ?_
         refine q_then (c_true rfl (c_seq (c_region ?_)))
         refine s_y rfl (v := .bool false) (y_as rfl) rfl ?_
         refine s_nil (q_then (c_ret (q_block_ret (q_then_ret (q_then_ret (q_block_ret (q_then_ret ?_)))))))
         refine c_fin (I' := []) [] [2, 3] rfl (.tmp rfl .nil) rfl rfl rfl ?_
         exact ⟨dec_f (by first | exact ⟨by assumption, rj_end hF (by omega)⟩ | exact fun q => absurd q.1 (by assumption) | exact fun q => rj_none (by assumption) (rj_of q.2 hx1) | (intro q; have q0 := (rj_some (by assumption)).1 (rj_of q.2 hx1); obtain ⟨q1, q2, q3, q4, q5⟩ := q0; first | omega | contradiction | exact rj_2 (by assumption) (by assumption) (by assumption) q2)), rfl, rfl⟩
        ·
         refine b_yo (i := 32) (v := .bool true) 63 (ticked 47 8589934591) rfl rfl rfl (by exact y_nf (y_bin rfl rfl (fun w => eq_Labn x1.to r1.to w)) h19) ?_
         refine b_y (i := 33) (v := .bool true) (ticked 47 17179869183) rfl rfl (by exact y_pick rfl rfl) ?_
         refine b_y (i := 34) (v := .bool true) (ticked 47 34359738367) rfl rfl (by exact y_mv rfl) ?_
         refine b_f (i := 35) 70 (ticked 47 68719476735) rfl rfl rfl rfl ?_
         refine b_f (i := 36) 70 (ticked 47 137438953471) rfl rfl rfl rfl ?_
         refine b_y (i := 37) (v := .bool true) (ticked 47 274877906943) rfl rfl (by exact y_pick rfl rfl) ?_
         refine b_y (i := 38) (v := .bool true) (ticked 47 549755813887) rfl rfl (by exact y_mv rfl) ?_
         refine b_f (i := 39) 74 (ticked 47 1099511627775) rfl rfl rfl rfl ?_
         refine b_f (i := 40) 74 (ticked 47 2199023255551) rfl rfl rfl rfl ?_
         refine b_f (i := 41) 74 (ticked 47 4398046511103) rfl rfl rfl rfl ?_
         refine b_f (i := 42) 74 (ticked 47 8796093022207) rfl rfl rfl rfl ?_
         refine b_f (i := 43) 74 (ticked 47 17592186044415) rfl rfl rfl rfl ?_
         refine b_f (i := 44) 74 (ticked 47 35184372088831) rfl rfl rfl rfl ?_
         refine b_f (i := 45) 74 (ticked 47 70368744177663) rfl rfl rfl rfl ?_
         refine b_y (i := 46) (v := .bool true) (ticked 47 140737488355327) rfl rfl (by exact y_pick rfl rfl) ?_
         refine a_done (by as_aux_lemma => kernel_rfl) ?_
         refine q_then (c_true rfl (c_seq (c_region ?_)))
         refine s_y rfl (v := .bool false) (y_as rfl) rfl ?_
         refine s_nil (q_then (c_ret (q_block_ret (q_then_ret (q_then_ret (q_block_ret (q_then_ret ?_)))))))
         refine c_fin (I' := []) [] [2, 3] rfl (.tmp rfl .nil) rfl rfl rfl ?_
         exact ⟨dec_f (by first | exact ⟨by assumption, rj_end hF (by omega)⟩ | exact fun q => absurd q.1 (by assumption) | exact fun q => rj_none (by assumption) (rj_of q.2 hx1) | (intro q; have q0 := (rj_some (by assumption)).1 (rj_of q.2 hx1); obtain ⟨q1, q2, q3, q4, q5⟩ := q0; first | omega | contradiction | exact rj_2 (by assumption) (by assumption) (by assumption) q2)), rfl, rfl⟩
      ·
       refine b_yo (i := 10) (v := .bool false) 44 (ticked 47 2047) rfl rfl rfl (by exact y_f (y_k (v := .bool (decide ((k : Int) > 0))) rfl rfl (fun _ => by kernel_rfl)) h17) ?_
       refine b_yo (i := 11) (v := .bool false) 44 (ticked 47 4095) rfl rfl rfl (by exact y_mv rfl) ?_
       refine b_f (i := 12) 47 (ticked 47 8191) rfl rfl rfl rfl ?_
       refine b_f (i := 13) 47 (ticked 47 16383) rfl rfl rfl rfl ?_
       refine b_f (i := 14) 47 (ticked 47 32767) rfl rfl rfl rfl ?_
       refine b_f (i := 15) 47 (ticked 47 65535) rfl rfl rfl rfl ?_
       refine b_f (i := 16) 47 (ticked 47 131071) rfl rfl rfl rfl ?_
       refine b_f (i := 17) 47 (ticked 47 262143) rfl rfl rfl rfl ?_
       refine b_f (i := 18) 47 (ticked 47 524287) rfl rfl rfl rfl ?_
       refine b_f (i := 19) 47 (ticked 47 1048575) rfl rfl rfl rfl ?_
       refine b_f (i := 20) 47 (ticked 47 2097151) rfl rfl rfl rfl ?_
       refine b_yo (i := 21) (v := .bool false) 44 (ticked 47 4194303) rfl rfl rfl (by exact y_pick rfl rfl) ?_
       refine b_y (i := 22) (v := .bool false) (ticked 47 8388607) rfl rfl (by exact y_pick rfl rfl) ?_
       refine b_y (i := 23) (v := .bool false) (ticked 47 16777215) rfl rfl (by exact y_mv rfl) ?_
       refine b_yo (i := 24) (v := .bool true) 59 (ticked 47 33554431) rfl rfl rfl (by exact y_mv rfl) ?_
       refine b_yo (i := 25) (v := .bool false) 59 (ticked 47 67108863) rfl rfl rfl (by exact y_k rfl rfl (fun _ => by kernel_rfl)) ?_
       refine b_y (i := 26) (v := .bool false) (ticked 47 134217727) rfl rfl (by exact y_pick rfl rfl) ?_
       refine b_y (i := 27) (v := .bool false) (ticked 47 268435455) rfl rfl (by exact y_mv rfl) ?_
       refine b_yo (i := 28) (v := .pointer (some ⟨b2, 2, none⟩)) 63 (ticked 47 536870911) rfl rfl rfl (by exact y_k rfl rfl (fun _ => by kernel_rfl)) ?_
       refine b_yo (i := 30) (v := .pointer (some ⟨b3, 4, none⟩)) 63 (ticked 47 1610612735) rfl rfl rfl (by exact y_k rfl rfl (fun _ => by kernel_rfl)) ?_
       refine a_held_on (i := 29) 63 (ticked 47 2147483647) rfl (by as_aux_lemma => kernel_rfl) rfl rfl rfl rfl rfl (held_pt 1 rfl rfl (held_fact (j := 0) 0 rfl rfl (held_pt 1 rfl rfl (held_pt 1 rfl rfl (held_pt 1 rfl rfl (held_pt 0 rfl rfl (held_pt 0 rfl rfl (held_pt 0 rfl rfl held_nil)))))))) (h_ldn (vs := [.int .i64 x1.to.lv, .int .u64 (x1.to.cs : Int), .int .i64 x1.to.ig]) 2 3 rfl rfl rfl Tryz.underlying26 rfl (by kernel_rfl) (by kernel_rfl)) ?_
       refine a_held_on (i := 31) 63 (ticked 47 4294967295) rfl (by as_aux_lemma => kernel_rfl) rfl rfl rfl rfl rfl (held_pt 1 rfl rfl (held_fact (j := 0) 0 rfl rfl (held_pt 1 rfl rfl (held_pt 1 rfl rfl (held_pt 1 rfl rfl (held_pt 0 rfl rfl (held_pt 0 rfl rfl (held_pt 0 rfl rfl held_nil)))))))) (h_ldn (vs := [.int .i64 r1.to.lv, .int .u64 (r1.to.cs : Int), .int .i64 r1.to.ig]) 5 3 rfl rfl rfl Tryz.underlying26 rfl (by kernel_rfl) (by kernel_rfl)) ?_
       refine e_by (x1.to = r1.to) (fun h20 => ?_) (fun h20 => ?_)
       ·
        refine b_yo (i := 32) (v := .bool false) 63 (ticked 47 8589934591) rfl rfl rfl (by exact y_nt (y_bin rfl rfl (fun w => eq_Labn x1.to r1.to w)) h20) ?_
        refine b_y (i := 33) (v := .bool false) (ticked 47 17179869183) rfl rfl (by exact y_pick rfl rfl) ?_
        refine b_y (i := 34) (v := .bool false) (ticked 47 34359738367) rfl rfl (by exact y_mv rfl) ?_
        refine b_yo (i := 35) (v := .bool false) 70 (ticked 47 68719476735) rfl rfl rfl (by exact y_mv rfl) ?_
        refine b_yo (i := 36) (v := .bool true) 70 (ticked 47 137438953471) rfl rfl rfl (by exact y_k rfl rfl (fun _ => by kernel_rfl)) ?_
        refine b_y (i := 37) (v := .bool true) (ticked 47 274877906943) rfl rfl (by exact y_pick rfl rfl) ?_
        refine b_y (i := 38) (v := .bool true) (ticked 47 549755813887) rfl rfl (by exact y_mv rfl) ?_
        refine b_f (i := 39) 74 (ticked 47 1099511627775) rfl rfl rfl rfl ?_
        refine b_f (i := 40) 74 (ticked 47 2199023255551) rfl rfl rfl rfl ?_
        refine b_f (i := 41) 74 (ticked 47 4398046511103) rfl rfl rfl rfl ?_
        refine b_f (i := 42) 74 (ticked 47 8796093022207) rfl rfl rfl rfl ?_
        refine b_f (i := 43) 74 (ticked 47 17592186044415) rfl rfl rfl rfl ?_
        refine b_f (i := 44) 74 (ticked 47 35184372088831) rfl rfl rfl rfl ?_
        refine b_f (i := 45) 74 (ticked 47 70368744177663) rfl rfl rfl rfl ?_
        refine b_y (i := 46) (v := .bool true) (ticked 47 140737488355327) rfl rfl (by exact y_pick rfl rfl) ?_
        refine a_done (by as_aux_lemma => kernel_rfl) ?_
        refine q_then (c_true rfl (c_seq (c_region ?_)))
        refine s_y rfl (v := .bool false) (y_as rfl) rfl ?_
        refine s_nil (q_then (c_ret (q_block_ret (q_then_ret (q_then_ret (q_block_ret (q_then_ret ?_)))))))
        refine c_fin (I' := []) [] [2, 3] rfl (.tmp rfl .nil) rfl rfl rfl ?_
        exact ⟨dec_f (by first | exact ⟨by assumption, rj_end hF (by omega)⟩ | exact fun q => absurd q.1 (by assumption) | exact fun q => rj_none (by assumption) (rj_of q.2 hx1) | (intro q; have q0 := (rj_some (by assumption)).1 (rj_of q.2 hx1); obtain ⟨q1, q2, q3, q4, q5⟩ := q0; first | omega | contradiction | exact rj_2 (by assumption) (by assumption) (by assumption) q2)), rfl, rfl⟩
       ·
        refine b_yo (i := 32) (v := .bool true) 63 (ticked 47 8589934591) rfl rfl rfl (by exact y_nf (y_bin rfl rfl (fun w => eq_Labn x1.to r1.to w)) h20) ?_
        refine b_y (i := 33) (v := .bool true) (ticked 47 17179869183) rfl rfl (by exact y_pick rfl rfl) ?_
        refine b_y (i := 34) (v := .bool true) (ticked 47 34359738367) rfl rfl (by exact y_mv rfl) ?_
        refine b_f (i := 35) 70 (ticked 47 68719476735) rfl rfl rfl rfl ?_
        refine b_f (i := 36) 70 (ticked 47 137438953471) rfl rfl rfl rfl ?_
        refine b_y (i := 37) (v := .bool true) (ticked 47 274877906943) rfl rfl (by exact y_pick rfl rfl) ?_
        refine b_y (i := 38) (v := .bool true) (ticked 47 549755813887) rfl rfl (by exact y_mv rfl) ?_
        refine b_f (i := 39) 74 (ticked 47 1099511627775) rfl rfl rfl rfl ?_
        refine b_f (i := 40) 74 (ticked 47 2199023255551) rfl rfl rfl rfl ?_
        refine b_f (i := 41) 74 (ticked 47 4398046511103) rfl rfl rfl rfl ?_
        refine b_f (i := 42) 74 (ticked 47 8796093022207) rfl rfl rfl rfl ?_
        refine b_f (i := 43) 74 (ticked 47 17592186044415) rfl rfl rfl rfl ?_
        refine b_f (i := 44) 74 (ticked 47 35184372088831) rfl rfl rfl rfl ?_
        refine b_f (i := 45) 74 (ticked 47 70368744177663) rfl rfl rfl rfl ?_
        refine b_y (i := 46) (v := .bool true) (ticked 47 140737488355327) rfl rfl (by exact y_pick rfl rfl) ?_
        refine a_done (by as_aux_lemma => kernel_rfl) ?_
        refine q_then (c_true rfl (c_seq (c_region ?_)))
        refine s_y rfl (v := .bool false) (y_as rfl) rfl ?_
        refine s_nil (q_then (c_ret (q_block_ret (q_then_ret (q_then_ret (q_block_ret (q_then_ret ?_)))))))
        refine c_fin (I' := []) [] [2, 3] rfl (.tmp rfl .nil) rfl rfl rfl ?_
        exact ⟨dec_f (by first | exact ⟨by assumption, rj_end hF (by omega)⟩ | exact fun q => absurd q.1 (by assumption) | exact fun q => rj_none (by assumption) (rj_of q.2 hx1) | (intro q; have q0 := (rj_some (by assumption)).1 (rj_of q.2 hx1); obtain ⟨q1, q2, q3, q4, q5⟩ := q0; first | omega | contradiction | exact rj_2 (by assumption) (by assumption) (by assumption) q2)), rfl, rfl⟩
  ·
   refine s_y rfl (v := .tuple #[.agg #[.int .i64 0, .int .i64 0, .int .u64 0, .int .i64 0, .int .i64 0, .int .u64 0, .int .i64 0, .int .i64 0, .int .i64 0, .int .i64 0, .string (⟨#[]⟩ : ByteArray)], .bool false]) (y_mv rfl) rfl ?_
   refine s_y rfl (v := .agg #[.int .i64 0, .int .i64 0, .int .u64 0, .int .i64 0, .int .i64 0, .int .u64 0, .int .i64 0, .int .i64 0, .int .i64 0, .int .i64 0, .string (⟨#[]⟩ : ByteArray)]) (y_k rfl rfl (fun _ => by kernel_rfl)) rfl ?_
   refine s_y rfl (v := .bool false) (y_k rfl rfl (fun _ => by kernel_rfl)) rfl ?_
   refine st rfl (o_box (cs := [.int .i64 0, .int .i64 0, .int .u64 0, .int .i64 0, .int .i64 0, .int .u64 0, .int .i64 0, .int .i64 0, .int .i64 0, .int .i64 0, .string (⟨#[]⟩ : ByteArray)]) (T := 42) rfl rfl rfl rfl (fun _ => by kernel_rfl) (fun b6 => ?_))
   refine st rfl (o_st 0 rfl rfl rfl rfl rfl (by kernel_rfl) (by kernel_rfl) rfl ?_)
   refine s_y rfl (v := .bool false) (y_as rfl) rfl ?_
   refine s_nil (q_then (c_seq (c_region ?_)))
   refine s_y rfl (v := .pointer (some ⟨b6, 8, none⟩)) (y_k rfl rfl (fun _ => by kernel_rfl)) rfl ?_
   refine st rfl (o_ldn 0 3 rfl rfl rfl rfl Tryz.underlying40 rfl (by kernel_rfl) (by kernel_rfl) rfl ?_)
   refine s_y rfl (v := .pointer (some ⟨b2, 5, none⟩)) (y_k rfl rfl (fun _ => by kernel_rfl)) rfl ?_
   refine st rfl (o_ld 1 rfl rfl rfl Tryz.underlying9 rfl rfl ?_)
   refine st rfl (o_call [] [] (rPass_ (⟨0, 0, (⟨#[]⟩ : ByteArray)⟩ : Fil) x1.da (by have := hm x1 (List.mem_of_getElem? hx1); unfold jenSm at this; omega) (by first | exact hrm _ (find_id (by assumption)).2 | decide)) rfl rfl rfl rfl rfl rfl (fun v L' I' hq5 => ?_))
   rcases hq5 with ⟨e3, h21, h22, rfl, rfl, rfl⟩ | ⟨e4, h23, rfl, rfl, rfl⟩
   ·
    refine s_y rfl (v := .tuple #[.bool true, .int .i64 e3]) (y_mv rfl) rfl ?_
    refine s_y rfl (v := .bool true) (y_k rfl rfl (fun _ => by kernel_rfl)) rfl ?_
    refine s_y rfl (v := .int .i64 e3) (y_k rfl rfl (fun _ => by kernel_rfl)) rfl ?_
    refine s_y rfl (v := .bool true) (y_as rfl) rfl ?_
    refine s_y rfl (v := .int .i64 e3) (y_as rfl) rfl ?_
    refine s_nil (q_then (c_seq ?_))
    refine e_at 2 (((k : Int) - 1).toNat) rfl (by first | omega | (simp only [List.length_append, List.length_map, List.length_take, List.length_drop]; omega)) (fun b7 o4 x4 hA4 hx4 => ?_)
    refine c_draw (l := ticked 47 0) [(⟨b2, 0, none⟩, .int .i64 x1.st), (⟨b7, o4 + (((k : Int) - 1).toNat) * 6, none⟩, .int .i64 x4.st)] [] (by kernel_rfl) rfl rfl ?_
    refine b_y (i := 0) (v := .pointer (some ⟨b2, 0, none⟩)) (ticked 47 1) rfl rfl (by exact y_k rfl rfl (fun _ => by kernel_rfl)) ?_
    refine a_held (i := 1) (ticked 47 3) rfl (by as_aux_lemma => kernel_rfl) rfl rfl rfl (held_pt 1 rfl rfl (held_fact (j := 0) 0 rfl rfl held_nil)) (h_ld 0 rfl rfl Tryz.underlying3 rfl) ?_
    refine e_by (x1.st < 1) (fun h24 => ?_) (fun h24 => ?_)
    ·
     refine b_y (i := 2) (v := .bool true) (ticked 47 7) rfl rfl (by exact y_t (y_k (v := .bool (decide (x1.st < 1))) rfl rfl (fun _ => by kernel_rfl)) h24) ?_
     refine b_y (i := 3) (v := .bool true) (ticked 47 15) rfl rfl (by exact y_mv rfl) ?_
     refine b_f (i := 4) 39 (ticked 47 31) rfl rfl rfl rfl ?_
     refine b_f (i := 5) 39 (ticked 47 63) rfl rfl rfl rfl ?_
     refine b_f (i := 6) 39 (ticked 47 127) rfl rfl rfl rfl ?_
     refine b_y (i := 7) (v := .bool true) (ticked 47 255) rfl rfl (by exact y_pick rfl rfl) ?_
     refine b_y (i := 8) (v := .bool true) (ticked 47 511) rfl rfl (by exact y_mv rfl) ?_
     refine b_f (i := 9) 44 (ticked 47 1023) rfl rfl rfl rfl ?_
     refine b_f (i := 10) 44 (ticked 47 2047) rfl rfl rfl rfl ?_
     refine b_f (i := 11) 44 (ticked 47 4095) rfl rfl rfl rfl ?_
     refine b_u (i := 12) 47 (ticked 47 8191) rfl rfl rfl ?_
     refine b_u (i := 13) 47 (ticked 47 16383) rfl rfl rfl ?_
     refine b_u (i := 14) 47 (ticked 47 32767) rfl rfl rfl ?_
     refine b_u (i := 15) 47 (ticked 47 65535) rfl rfl rfl ?_
     refine b_u (i := 16) 47 (ticked 47 131071) rfl rfl rfl ?_
     refine b_u (i := 17) 47 (ticked 47 262143) rfl rfl rfl ?_
     refine b_u (i := 18) 47 (ticked 47 524287) rfl rfl rfl ?_
     refine b_u (i := 19) 47 (ticked 47 1048575) rfl rfl rfl ?_
     refine b_u (i := 20) 47 (ticked 47 2097151) rfl rfl rfl ?_
     refine b_f (i := 21) 44 (ticked 47 4194303) rfl rfl rfl rfl ?_
     refine b_y (i := 22) (v := .bool true) (ticked 47 8388607) rfl rfl (by exact y_pick rfl rfl) ?_
     refine b_y (i := 23) (v := .bool true) (ticked 47 16777215) rfl rfl (by exact y_mv rfl) ?_
     refine b_f (i := 24) 59 (ticked 47 33554431) rfl rfl rfl rfl ?_
     refine b_f (i := 25) 59 (ticked 47 67108863) rfl rfl rfl rfl ?_
     refine b_y (i := 26) (v := .bool true) (ticked 47 134217727) rfl rfl (by exact y_pick rfl rfl) ?_
     refine b_y (i := 27) (v := .bool true) (ticked 47 268435455) rfl rfl (by exact y_mv rfl) ?_
     refine b_f (i := 28) 63 (ticked 47 536870911) rfl rfl rfl rfl ?_
     refine b_f (i := 29) 63 (ticked 47 1073741823) rfl rfl rfl rfl ?_
     refine b_f (i := 30) 63 (ticked 47 2147483647) rfl rfl rfl rfl ?_
     refine b_f (i := 31) 63 (ticked 47 4294967295) rfl rfl rfl rfl ?_
     refine b_f (i := 32) 63 (ticked 47 8589934591) rfl rfl rfl rfl ?_
     refine b_y (i := 33) (v := .bool true) (ticked 47 17179869183) rfl rfl (by exact y_pick rfl rfl) ?_
     refine b_y (i := 34) (v := .bool true) (ticked 47 34359738367) rfl rfl (by exact y_mv rfl) ?_
     refine b_f (i := 35) 70 (ticked 47 68719476735) rfl rfl rfl rfl ?_
     refine b_f (i := 36) 70 (ticked 47 137438953471) rfl rfl rfl rfl ?_
     refine b_y (i := 37) (v := .bool true) (ticked 47 274877906943) rfl rfl (by exact y_pick rfl rfl) ?_
     refine b_y (i := 38) (v := .bool true) (ticked 47 549755813887) rfl rfl (by exact y_mv rfl) ?_
     refine b_f (i := 39) 74 (ticked 47 1099511627775) rfl rfl rfl rfl ?_
     refine b_f (i := 40) 74 (ticked 47 2199023255551) rfl rfl rfl rfl ?_
     refine b_f (i := 41) 74 (ticked 47 4398046511103) rfl rfl rfl rfl ?_
     refine b_f (i := 42) 74 (ticked 47 8796093022207) rfl rfl rfl rfl ?_
     refine b_f (i := 43) 74 (ticked 47 17592186044415) rfl rfl rfl rfl ?_
     refine b_f (i := 44) 74 (ticked 47 35184372088831) rfl rfl rfl rfl ?_
     refine b_f (i := 45) 74 (ticked 47 70368744177663) rfl rfl rfl rfl ?_
     refine b_y (i := 46) (v := .bool true) (ticked 47 140737488355327) rfl rfl (by exact y_pick rfl rfl) ?_
     refine a_done (by as_aux_lemma => kernel_rfl) ?_
     refine q_then (c_true rfl (c_seq (c_region ?_)))
     refine s_y rfl (v := .bool false) (y_as rfl) rfl ?_
     refine s_nil (q_then (c_ret (q_block_ret (q_then_ret (q_then_ret (q_block_ret (q_then_ret ?_)))))))
     refine c_fin (I' := []) [] [2, 3] rfl (.tmp rfl .nil) rfl rfl rfl ?_
     exact ⟨dec_f (by first | exact ⟨by assumption, rj_end hF (by omega)⟩ | exact fun q => absurd q.1 (by assumption) | exact fun q => rj_none (by assumption) (rj_of q.2 hx1) | (intro q; have q0 := (rj_some (by assumption)).1 (rj_of q.2 hx1); obtain ⟨q1, q2, q3, q4, q5⟩ := q0; first | omega | contradiction | exact rj_2 (by assumption) (by assumption) (by assumption) q2)), rfl, rfl⟩
    ·
     refine b_y (i := 2) (v := .bool false) (ticked 47 7) rfl rfl (by exact y_f (y_k (v := .bool (decide (x1.st < 1))) rfl rfl (fun _ => by kernel_rfl)) h24) ?_
     refine b_y (i := 3) (v := .bool false) (ticked 47 15) rfl rfl (by exact y_mv rfl) ?_
     refine b_yo (i := 4) (v := .pointer (some ⟨b2, 0, none⟩)) 39 (ticked 47 31) rfl rfl rfl (by exact y_k rfl rfl (fun _ => by kernel_rfl)) ?_
     refine a_held_on (i := 5) 39 (ticked 47 63) rfl (by as_aux_lemma => kernel_rfl) rfl rfl rfl rfl rfl (held_pt 1 rfl rfl (held_fact (j := 0) 0 rfl rfl held_nil)) (h_ld 0 rfl rfl Tryz.underlying3 rfl) ?_
     refine e_by (x1.st > 400) (fun h25 => ?_) (fun h25 => ?_)
     ·
      refine b_yo (i := 6) (v := .bool true) 39 (ticked 47 127) rfl rfl rfl (by exact y_t (y_k (v := .bool (decide (x1.st > 400))) rfl rfl (fun _ => by kernel_rfl)) h25) ?_
      refine b_y (i := 7) (v := .bool true) (ticked 47 255) rfl rfl (by exact y_pick rfl rfl) ?_
      refine b_y (i := 8) (v := .bool true) (ticked 47 511) rfl rfl (by exact y_mv rfl) ?_
      refine b_f (i := 9) 44 (ticked 47 1023) rfl rfl rfl rfl ?_
      refine b_f (i := 10) 44 (ticked 47 2047) rfl rfl rfl rfl ?_
      refine b_f (i := 11) 44 (ticked 47 4095) rfl rfl rfl rfl ?_
      refine b_u (i := 12) 47 (ticked 47 8191) rfl rfl rfl ?_
      refine b_u (i := 13) 47 (ticked 47 16383) rfl rfl rfl ?_
      refine b_u (i := 14) 47 (ticked 47 32767) rfl rfl rfl ?_
      refine b_u (i := 15) 47 (ticked 47 65535) rfl rfl rfl ?_
      refine b_u (i := 16) 47 (ticked 47 131071) rfl rfl rfl ?_
      refine b_u (i := 17) 47 (ticked 47 262143) rfl rfl rfl ?_
      refine b_u (i := 18) 47 (ticked 47 524287) rfl rfl rfl ?_
      refine b_u (i := 19) 47 (ticked 47 1048575) rfl rfl rfl ?_
      refine b_u (i := 20) 47 (ticked 47 2097151) rfl rfl rfl ?_
      refine b_f (i := 21) 44 (ticked 47 4194303) rfl rfl rfl rfl ?_
      refine b_y (i := 22) (v := .bool true) (ticked 47 8388607) rfl rfl (by exact y_pick rfl rfl) ?_
      refine b_y (i := 23) (v := .bool true) (ticked 47 16777215) rfl rfl (by exact y_mv rfl) ?_
      refine b_f (i := 24) 59 (ticked 47 33554431) rfl rfl rfl rfl ?_
      refine b_f (i := 25) 59 (ticked 47 67108863) rfl rfl rfl rfl ?_
      refine b_y (i := 26) (v := .bool true) (ticked 47 134217727) rfl rfl (by exact y_pick rfl rfl) ?_
      refine b_y (i := 27) (v := .bool true) (ticked 47 268435455) rfl rfl (by exact y_mv rfl) ?_
      refine b_f (i := 28) 63 (ticked 47 536870911) rfl rfl rfl rfl ?_
      refine b_f (i := 29) 63 (ticked 47 1073741823) rfl rfl rfl rfl ?_
      refine b_f (i := 30) 63 (ticked 47 2147483647) rfl rfl rfl rfl ?_
      refine b_f (i := 31) 63 (ticked 47 4294967295) rfl rfl rfl rfl ?_
      refine b_f (i := 32) 63 (ticked 47 8589934591) rfl rfl rfl rfl ?_
      refine b_y (i := 33) (v := .bool true) (ticked 47 17179869183) rfl rfl (by exact y_pick rfl rfl) ?_
      refine b_y (i := 34) (v := .bool true) (ticked 47 34359738367) rfl rfl (by exact y_mv rfl) ?_
      refine b_f (i := 35) 70 (ticked 47 68719476735) rfl rfl rfl rfl ?_
      refine b_f (i := 36) 70 (ticked 47 137438953471) rfl rfl rfl rfl ?_
      refine b_y (i := 37) (v := .bool true) (ticked 47 274877906943) rfl rfl (by exact y_pick rfl rfl) ?_
      refine b_y (i := 38) (v := .bool true) (ticked 47 549755813887) rfl rfl (by exact y_mv rfl) ?_
      refine b_f (i := 39) 74 (ticked 47 1099511627775) rfl rfl rfl rfl ?_
      refine b_f (i := 40) 74 (ticked 47 2199023255551) rfl rfl rfl rfl ?_
      refine b_f (i := 41) 74 (ticked 47 4398046511103) rfl rfl rfl rfl ?_
      refine b_f (i := 42) 74 (ticked 47 8796093022207) rfl rfl rfl rfl ?_
      refine b_f (i := 43) 74 (ticked 47 17592186044415) rfl rfl rfl rfl ?_
      refine b_f (i := 44) 74 (ticked 47 35184372088831) rfl rfl rfl rfl ?_
      refine b_f (i := 45) 74 (ticked 47 70368744177663) rfl rfl rfl rfl ?_
      refine b_y (i := 46) (v := .bool true) (ticked 47 140737488355327) rfl rfl (by exact y_pick rfl rfl) ?_
      refine a_done (by as_aux_lemma => kernel_rfl) ?_
      refine q_then (c_true rfl (c_seq (c_region ?_)))
      refine s_y rfl (v := .bool false) (y_as rfl) rfl ?_
      refine s_nil (q_then (c_ret (q_block_ret (q_then_ret (q_then_ret (q_block_ret (q_then_ret ?_)))))))
      refine c_fin (I' := []) [] [2, 3] rfl (.tmp rfl .nil) rfl rfl rfl ?_
      exact ⟨dec_f (by first | exact ⟨by assumption, rj_end hF (by omega)⟩ | exact fun q => absurd q.1 (by assumption) | exact fun q => rj_none (by assumption) (rj_of q.2 hx1) | (intro q; have q0 := (rj_some (by assumption)).1 (rj_of q.2 hx1); obtain ⟨q1, q2, q3, q4, q5⟩ := q0; first | omega | contradiction | exact rj_2 (by assumption) (by assumption) (by assumption) q2)), rfl, rfl⟩
     ·
      refine b_yo (i := 6) (v := .bool false) 39 (ticked 47 127) rfl rfl rfl (by exact y_f (y_k (v := .bool (decide (x1.st > 400))) rfl rfl (fun _ => by kernel_rfl)) h25) ?_
      refine b_y (i := 7) (v := .bool false) (ticked 47 255) rfl rfl (by exact y_pick rfl rfl) ?_
      refine b_y (i := 8) (v := .bool false) (ticked 47 511) rfl rfl (by exact y_mv rfl) ?_
      refine b_yo (i := 9) (v := .int .i64 (k : Int)) 44 (ticked 47 1023) rfl rfl rfl (by exact y_mv rfl) ?_
      refine e_by ((k : Int) > 0) (fun h26 => ?_) (fun h26 => ?_)
      ·
       refine b_yo (i := 10) (v := .bool true) 44 (ticked 47 2047) rfl rfl rfl (by exact y_t (y_k (v := .bool (decide ((k : Int) > 0))) rfl rfl (fun _ => by kernel_rfl)) h26) ?_
       refine b_yo (i := 11) (v := .bool true) 44 (ticked 47 4095) rfl rfl rfl (by exact y_mv rfl) ?_
       refine b_yo (i := 12) (v := .slice A l.length c) 47 (ticked 47 8191) rfl rfl rfl (by exact y_mv rfl) ?_
       refine b_yo (i := 13) (v := .int .i64 (k : Int)) 47 (ticked 47 16383) rfl rfl rfl (by exact y_mv rfl) ?_
       refine b_yo (i := 14) (v := .int .i64 ((k : Int) - 1)) 47 (ticked 47 32767) rfl rfl rfl (by exact y_sub (r := (k : Int) - 1) rfl rfl rfl (by omega)) ?_
       refine b_yo (i := 15) (v := .pointer (some ⟨b7, o4 + (((k : Int) - 1).toNat) * 6, none⟩)) 47 (ticked 47 65535) rfl rfl rfl (by exact y_at (d := entTy) (l := l) (((k : Int) - 1).toNat) hA4 rfl rfl rfl (by omega) (List.getElem?_eq_some_iff.1 hx4).1 Tryz.underlying23 (by kernel_rfl) (by kernel_rfl)) ?_
       refine b_yo (i := 16) (v := .pointer (some ⟨b7, o4 + (((k : Int) - 1).toNat) * 6, none⟩)) 47 (ticked 47 131071) rfl rfl rfl (by exact y_k rfl rfl (fun _ => by kernel_rfl)) ?_
       refine b_yo (i := 18) (v := .pointer (some ⟨b2, 0, none⟩)) 47 (ticked 47 393215) rfl rfl rfl (by exact y_k rfl rfl (fun _ => by kernel_rfl)) ?_
       refine a_held_on (i := 17) 47 (ticked 47 524287) rfl (by as_aux_lemma => kernel_rfl) rfl rfl rfl rfl rfl (held_pt 1 rfl rfl (held_fact (j := 0) 0 rfl rfl held_nil)) (h_ld 1 rfl rfl Tryz.underlying3 rfl) ?_
       refine a_held_on (i := 19) 47 (ticked 47 1048575) rfl (by as_aux_lemma => kernel_rfl) rfl rfl rfl rfl rfl (held_pt 1 rfl rfl (held_fact (j := 0) 0 rfl rfl held_nil)) (h_ld 0 rfl rfl Tryz.underlying3 rfl) ?_
       refine e_by (x4.st ≥ x1.st) (fun h27 => ?_) (fun h27 => ?_)
       ·
        refine b_yo (i := 20) (v := .bool true) 47 (ticked 47 2097151) rfl rfl rfl (by exact y_t (y_k (v := .bool (decide (x4.st ≥ x1.st))) rfl rfl (fun _ => by kernel_rfl)) h27) ?_
        refine b_yo (i := 21) (v := .bool true) 44 (ticked 47 4194303) rfl rfl rfl (by exact y_pick rfl rfl) ?_
        refine b_y (i := 22) (v := .bool true) (ticked 47 8388607) rfl rfl (by exact y_pick rfl rfl) ?_
        refine b_y (i := 23) (v := .bool true) (ticked 47 16777215) rfl rfl (by exact y_mv rfl) ?_
        refine b_f (i := 24) 59 (ticked 47 33554431) rfl rfl rfl rfl ?_
        refine b_f (i := 25) 59 (ticked 47 67108863) rfl rfl rfl rfl ?_
        refine b_y (i := 26) (v := .bool true) (ticked 47 134217727) rfl rfl (by exact y_pick rfl rfl) ?_
        refine b_y (i := 27) (v := .bool true) (ticked 47 268435455) rfl rfl (by exact y_mv rfl) ?_
        refine b_f (i := 28) 63 (ticked 47 536870911) rfl rfl rfl rfl ?_
        refine b_f (i := 29) 63 (ticked 47 1073741823) rfl rfl rfl rfl ?_
        refine b_f (i := 30) 63 (ticked 47 2147483647) rfl rfl rfl rfl ?_
        refine b_f (i := 31) 63 (ticked 47 4294967295) rfl rfl rfl rfl ?_
        refine b_f (i := 32) 63 (ticked 47 8589934591) rfl rfl rfl rfl ?_
        refine b_y (i := 33) (v := .bool true) (ticked 47 17179869183) rfl rfl (by exact y_pick rfl rfl) ?_
        refine b_y (i := 34) (v := .bool true) (ticked 47 34359738367) rfl rfl (by exact y_mv rfl) ?_
        refine b_f (i := 35) 70 (ticked 47 68719476735) rfl rfl rfl rfl ?_
        refine b_f (i := 36) 70 (ticked 47 137438953471) rfl rfl rfl rfl ?_
        refine b_y (i := 37) (v := .bool true) (ticked 47 274877906943) rfl rfl (by exact y_pick rfl rfl) ?_
        refine b_y (i := 38) (v := .bool true) (ticked 47 549755813887) rfl rfl (by exact y_mv rfl) ?_
        refine b_f (i := 39) 74 (ticked 47 1099511627775) rfl rfl rfl rfl ?_
        refine b_f (i := 40) 74 (ticked 47 2199023255551) rfl rfl rfl rfl ?_
        refine b_f (i := 41) 74 (ticked 47 4398046511103) rfl rfl rfl rfl ?_
        refine b_f (i := 42) 74 (ticked 47 8796093022207) rfl rfl rfl rfl ?_
        refine b_f (i := 43) 74 (ticked 47 17592186044415) rfl rfl rfl rfl ?_
        refine b_f (i := 44) 74 (ticked 47 35184372088831) rfl rfl rfl rfl ?_
        refine b_f (i := 45) 74 (ticked 47 70368744177663) rfl rfl rfl rfl ?_
        refine b_y (i := 46) (v := .bool true) (ticked 47 140737488355327) rfl rfl (by exact y_pick rfl rfl) ?_
        refine a_done (by as_aux_lemma => kernel_rfl) ?_
        refine q_then (c_true rfl (c_seq (c_region ?_)))
        refine s_y rfl (v := .bool false) (y_as rfl) rfl ?_
        refine s_nil (q_then (c_ret (q_block_ret (q_then_ret (q_then_ret (q_block_ret (q_then_ret ?_)))))))
        refine c_fin (I' := []) [] [2, 3] rfl (.tmp rfl .nil) rfl rfl rfl ?_
        exact ⟨dec_f (by first | exact ⟨by assumption, rj_end hF (by omega)⟩ | exact fun q => absurd q.1 (by assumption) | exact fun q => rj_none (by assumption) (rj_of q.2 hx1) | (intro q; have q0 := (rj_some (by assumption)).1 (rj_of q.2 hx1); obtain ⟨q1, q2, q3, q4, q5⟩ := q0; first | omega | contradiction | exact rj_2 (by assumption) (by assumption) (by assumption) q2)), rfl, rfl⟩
       ·
        refine b_yo (i := 20) (v := .bool false) 47 (ticked 47 2097151) rfl rfl rfl (by exact y_f (y_k (v := .bool (decide (x4.st ≥ x1.st))) rfl rfl (fun _ => by kernel_rfl)) h27) ?_
        refine b_yo (i := 21) (v := .bool false) 44 (ticked 47 4194303) rfl rfl rfl (by exact y_pick rfl rfl) ?_
        refine b_y (i := 22) (v := .bool false) (ticked 47 8388607) rfl rfl (by exact y_pick rfl rfl) ?_
        refine b_y (i := 23) (v := .bool false) (ticked 47 16777215) rfl rfl (by exact y_mv rfl) ?_
        refine b_yo (i := 24) (v := .bool false) 59 (ticked 47 33554431) rfl rfl rfl (by exact y_mv rfl) ?_
        refine b_yo (i := 25) (v := .bool true) 59 (ticked 47 67108863) rfl rfl rfl (by exact y_k rfl rfl (fun _ => by kernel_rfl)) ?_
        refine b_y (i := 26) (v := .bool true) (ticked 47 134217727) rfl rfl (by exact y_pick rfl rfl) ?_
        refine b_y (i := 27) (v := .bool true) (ticked 47 268435455) rfl rfl (by exact y_mv rfl) ?_
        refine b_f (i := 28) 63 (ticked 47 536870911) rfl rfl rfl rfl ?_
        refine b_f (i := 29) 63 (ticked 47 1073741823) rfl rfl rfl rfl ?_
        refine b_f (i := 30) 63 (ticked 47 2147483647) rfl rfl rfl rfl ?_
        refine b_f (i := 31) 63 (ticked 47 4294967295) rfl rfl rfl rfl ?_
        refine b_f (i := 32) 63 (ticked 47 8589934591) rfl rfl rfl rfl ?_
        refine b_y (i := 33) (v := .bool true) (ticked 47 17179869183) rfl rfl (by exact y_pick rfl rfl) ?_
        refine b_y (i := 34) (v := .bool true) (ticked 47 34359738367) rfl rfl (by exact y_mv rfl) ?_
        refine b_f (i := 35) 70 (ticked 47 68719476735) rfl rfl rfl rfl ?_
        refine b_f (i := 36) 70 (ticked 47 137438953471) rfl rfl rfl rfl ?_
        refine b_y (i := 37) (v := .bool true) (ticked 47 274877906943) rfl rfl (by exact y_pick rfl rfl) ?_
        refine b_y (i := 38) (v := .bool true) (ticked 47 549755813887) rfl rfl (by exact y_mv rfl) ?_
        refine b_f (i := 39) 74 (ticked 47 1099511627775) rfl rfl rfl rfl ?_
        refine b_f (i := 40) 74 (ticked 47 2199023255551) rfl rfl rfl rfl ?_
        refine b_f (i := 41) 74 (ticked 47 4398046511103) rfl rfl rfl rfl ?_
        refine b_f (i := 42) 74 (ticked 47 8796093022207) rfl rfl rfl rfl ?_
        refine b_f (i := 43) 74 (ticked 47 17592186044415) rfl rfl rfl rfl ?_
        refine b_f (i := 44) 74 (ticked 47 35184372088831) rfl rfl rfl rfl ?_
        refine b_f (i := 45) 74 (ticked 47 70368744177663) rfl rfl rfl rfl ?_
        refine b_y (i := 46) (v := .bool true) (ticked 47 140737488355327) rfl rfl (by exact y_pick rfl rfl) ?_
        refine a_done (by as_aux_lemma => kernel_rfl) ?_
        refine q_then (c_true rfl (c_seq (c_region ?_)))
        refine s_y rfl (v := .bool false) (y_as rfl) rfl ?_
        refine s_nil (q_then (c_ret (q_block_ret (q_then_ret (q_then_ret (q_block_ret (q_then_ret ?_)))))))
        refine c_fin (I' := []) [] [2, 3] rfl (.tmp rfl .nil) rfl rfl rfl ?_
        exact ⟨dec_f (by first | exact ⟨by assumption, rj_end hF (by omega)⟩ | exact fun q => absurd q.1 (by assumption) | exact fun q => rj_none (by assumption) (rj_of q.2 hx1) | (intro q; have q0 := (rj_some (by assumption)).1 (rj_of q.2 hx1); obtain ⟨q1, q2, q3, q4, q5⟩ := q0; first | omega | contradiction | exact rj_2 (by assumption) (by assumption) (by assumption) q2)), rfl, rfl⟩
      ·
       refine b_yo (i := 10) (v := .bool false) 44 (ticked 47 2047) rfl rfl rfl (by exact y_f (y_k (v := .bool (decide ((k : Int) > 0))) rfl rfl (fun _ => by kernel_rfl)) h26) ?_
       refine b_yo (i := 11) (v := .bool false) 44 (ticked 47 4095) rfl rfl rfl (by exact y_mv rfl) ?_
       refine b_f (i := 12) 47 (ticked 47 8191) rfl rfl rfl rfl ?_
       refine b_f (i := 13) 47 (ticked 47 16383) rfl rfl rfl rfl ?_
       refine b_f (i := 14) 47 (ticked 47 32767) rfl rfl rfl rfl ?_
       refine b_f (i := 15) 47 (ticked 47 65535) rfl rfl rfl rfl ?_
       refine b_f (i := 16) 47 (ticked 47 131071) rfl rfl rfl rfl ?_
       refine b_f (i := 17) 47 (ticked 47 262143) rfl rfl rfl rfl ?_
       refine b_f (i := 18) 47 (ticked 47 524287) rfl rfl rfl rfl ?_
       refine b_f (i := 19) 47 (ticked 47 1048575) rfl rfl rfl rfl ?_
       refine b_f (i := 20) 47 (ticked 47 2097151) rfl rfl rfl rfl ?_
       refine b_yo (i := 21) (v := .bool false) 44 (ticked 47 4194303) rfl rfl rfl (by exact y_pick rfl rfl) ?_
       refine b_y (i := 22) (v := .bool false) (ticked 47 8388607) rfl rfl (by exact y_pick rfl rfl) ?_
       refine b_y (i := 23) (v := .bool false) (ticked 47 16777215) rfl rfl (by exact y_mv rfl) ?_
       refine b_yo (i := 24) (v := .bool false) 59 (ticked 47 33554431) rfl rfl rfl (by exact y_mv rfl) ?_
       refine b_yo (i := 25) (v := .bool true) 59 (ticked 47 67108863) rfl rfl rfl (by exact y_k rfl rfl (fun _ => by kernel_rfl)) ?_
       refine b_y (i := 26) (v := .bool true) (ticked 47 134217727) rfl rfl (by exact y_pick rfl rfl) ?_
       refine b_y (i := 27) (v := .bool true) (ticked 47 268435455) rfl rfl (by exact y_mv rfl) ?_
       refine b_f (i := 28) 63 (ticked 47 536870911) rfl rfl rfl rfl ?_
       refine b_f (i := 29) 63 (ticked 47 1073741823) rfl rfl rfl rfl ?_
       refine b_f (i := 30) 63 (ticked 47 2147483647) rfl rfl rfl rfl ?_
       refine b_f (i := 31) 63 (ticked 47 4294967295) rfl rfl rfl rfl ?_
       refine b_f (i := 32) 63 (ticked 47 8589934591) rfl rfl rfl rfl ?_
       refine b_y (i := 33) (v := .bool true) (ticked 47 17179869183) rfl rfl (by exact y_pick rfl rfl) ?_
       refine b_y (i := 34) (v := .bool true) (ticked 47 34359738367) rfl rfl (by exact y_mv rfl) ?_
       refine b_f (i := 35) 70 (ticked 47 68719476735) rfl rfl rfl rfl ?_
       refine b_f (i := 36) 70 (ticked 47 137438953471) rfl rfl rfl rfl ?_
       refine b_y (i := 37) (v := .bool true) (ticked 47 274877906943) rfl rfl (by exact y_pick rfl rfl) ?_
       refine b_y (i := 38) (v := .bool true) (ticked 47 549755813887) rfl rfl (by exact y_mv rfl) ?_
       refine b_f (i := 39) 74 (ticked 47 1099511627775) rfl rfl rfl rfl ?_
       refine b_f (i := 40) 74 (ticked 47 2199023255551) rfl rfl rfl rfl ?_
       refine b_f (i := 41) 74 (ticked 47 4398046511103) rfl rfl rfl rfl ?_
       refine b_f (i := 42) 74 (ticked 47 8796093022207) rfl rfl rfl rfl ?_
       refine b_f (i := 43) 74 (ticked 47 17592186044415) rfl rfl rfl rfl ?_
       refine b_f (i := 44) 74 (ticked 47 35184372088831) rfl rfl rfl rfl ?_
       refine b_f (i := 45) 74 (ticked 47 70368744177663) rfl rfl rfl rfl ?_
       refine b_y (i := 46) (v := .bool true) (ticked 47 140737488355327) rfl rfl (by exact y_pick rfl rfl) ?_
       refine a_done (by as_aux_lemma => kernel_rfl) ?_
       refine q_then (c_true rfl (c_seq (c_region ?_)))
       refine s_y rfl (v := .bool false) (y_as rfl) rfl ?_
       refine s_nil (q_then (c_ret (q_block_ret (q_then_ret (q_then_ret (q_block_ret (q_then_ret ?_)))))))
       refine c_fin (I' := []) [] [2, 3] rfl (.tmp rfl .nil) rfl rfl rfl ?_
       exact ⟨dec_f (by first | exact ⟨by assumption, rj_end hF (by omega)⟩ | exact fun q => absurd q.1 (by assumption) | exact fun q => rj_none (by assumption) (rj_of q.2 hx1) | (intro q; have q0 := (rj_some (by assumption)).1 (rj_of q.2 hx1); obtain ⟨q1, q2, q3, q4, q5⟩ := q0; first | omega | contradiction | exact rj_2 (by assumption) (by assumption) (by assumption) q2)), rfl, rfl⟩
   ·
    refine s_y rfl (v := .tuple #[.bool false, .int .i64 e4]) (y_mv rfl) rfl ?_
    refine s_y rfl (v := .bool false) (y_k rfl rfl (fun _ => by kernel_rfl)) rfl ?_
    refine s_y rfl (v := .int .i64 e4) (y_k rfl rfl (fun _ => by kernel_rfl)) rfl ?_
    refine s_y rfl (v := .bool false) (y_as rfl) rfl ?_
    refine s_y rfl (v := .int .i64 e4) (y_as rfl) rfl ?_
    refine s_nil (q_then (c_seq ?_))
    refine e_at 2 (((k : Int) - 1).toNat) rfl (by first | omega | (simp only [List.length_append, List.length_map, List.length_take, List.length_drop]; omega)) (fun b8 o5 x5 hA5 hx5 => ?_)
    refine c_draw (l := ticked 47 0) [(⟨b2, 0, none⟩, .int .i64 x1.st), (⟨b8, o5 + (((k : Int) - 1).toNat) * 6, none⟩, .int .i64 x5.st)] [] (by kernel_rfl) rfl rfl ?_
    refine b_y (i := 0) (v := .pointer (some ⟨b2, 0, none⟩)) (ticked 47 1) rfl rfl (by exact y_k rfl rfl (fun _ => by kernel_rfl)) ?_
    refine a_held (i := 1) (ticked 47 3) rfl (by as_aux_lemma => kernel_rfl) rfl rfl rfl (held_pt 1 rfl rfl (held_fact (j := 0) 0 rfl rfl held_nil)) (h_ld 0 rfl rfl Tryz.underlying3 rfl) ?_
    refine e_by (x1.st < 1) (fun h28 => ?_) (fun h28 => ?_)
    ·
     refine b_y (i := 2) (v := .bool true) (ticked 47 7) rfl rfl (by exact y_t (y_k (v := .bool (decide (x1.st < 1))) rfl rfl (fun _ => by kernel_rfl)) h28) ?_
     refine b_y (i := 3) (v := .bool true) (ticked 47 15) rfl rfl (by exact y_mv rfl) ?_
     refine b_f (i := 4) 39 (ticked 47 31) rfl rfl rfl rfl ?_
     refine b_f (i := 5) 39 (ticked 47 63) rfl rfl rfl rfl ?_
     refine b_f (i := 6) 39 (ticked 47 127) rfl rfl rfl rfl ?_
     refine b_y (i := 7) (v := .bool true) (ticked 47 255) rfl rfl (by exact y_pick rfl rfl) ?_
     refine b_y (i := 8) (v := .bool true) (ticked 47 511) rfl rfl (by exact y_mv rfl) ?_
     refine b_f (i := 9) 44 (ticked 47 1023) rfl rfl rfl rfl ?_
     refine b_f (i := 10) 44 (ticked 47 2047) rfl rfl rfl rfl ?_
     refine b_f (i := 11) 44 (ticked 47 4095) rfl rfl rfl rfl ?_
     refine b_u (i := 12) 47 (ticked 47 8191) rfl rfl rfl ?_
     refine b_u (i := 13) 47 (ticked 47 16383) rfl rfl rfl ?_
     refine b_u (i := 14) 47 (ticked 47 32767) rfl rfl rfl ?_
     refine b_u (i := 15) 47 (ticked 47 65535) rfl rfl rfl ?_
     refine b_u (i := 16) 47 (ticked 47 131071) rfl rfl rfl ?_
     refine b_u (i := 17) 47 (ticked 47 262143) rfl rfl rfl ?_
     refine b_u (i := 18) 47 (ticked 47 524287) rfl rfl rfl ?_
     refine b_u (i := 19) 47 (ticked 47 1048575) rfl rfl rfl ?_
     refine b_u (i := 20) 47 (ticked 47 2097151) rfl rfl rfl ?_
     refine b_f (i := 21) 44 (ticked 47 4194303) rfl rfl rfl rfl ?_
     refine b_y (i := 22) (v := .bool true) (ticked 47 8388607) rfl rfl (by exact y_pick rfl rfl) ?_
     refine b_y (i := 23) (v := .bool true) (ticked 47 16777215) rfl rfl (by exact y_mv rfl) ?_
     refine b_f (i := 24) 59 (ticked 47 33554431) rfl rfl rfl rfl ?_
     refine b_f (i := 25) 59 (ticked 47 67108863) rfl rfl rfl rfl ?_
     refine b_y (i := 26) (v := .bool true) (ticked 47 134217727) rfl rfl (by exact y_pick rfl rfl) ?_
     refine b_y (i := 27) (v := .bool true) (ticked 47 268435455) rfl rfl (by exact y_mv rfl) ?_
     refine b_f (i := 28) 63 (ticked 47 536870911) rfl rfl rfl rfl ?_
     refine b_f (i := 29) 63 (ticked 47 1073741823) rfl rfl rfl rfl ?_
     refine b_f (i := 30) 63 (ticked 47 2147483647) rfl rfl rfl rfl ?_
     refine b_f (i := 31) 63 (ticked 47 4294967295) rfl rfl rfl rfl ?_
     refine b_f (i := 32) 63 (ticked 47 8589934591) rfl rfl rfl rfl ?_
     refine b_y (i := 33) (v := .bool true) (ticked 47 17179869183) rfl rfl (by exact y_pick rfl rfl) ?_
     refine b_y (i := 34) (v := .bool true) (ticked 47 34359738367) rfl rfl (by exact y_mv rfl) ?_
     refine b_f (i := 35) 70 (ticked 47 68719476735) rfl rfl rfl rfl ?_
     refine b_f (i := 36) 70 (ticked 47 137438953471) rfl rfl rfl rfl ?_
     refine b_y (i := 37) (v := .bool true) (ticked 47 274877906943) rfl rfl (by exact y_pick rfl rfl) ?_
     refine b_y (i := 38) (v := .bool true) (ticked 47 549755813887) rfl rfl (by exact y_mv rfl) ?_
     refine b_f (i := 39) 74 (ticked 47 1099511627775) rfl rfl rfl rfl ?_
     refine b_f (i := 40) 74 (ticked 47 2199023255551) rfl rfl rfl rfl ?_
     refine b_f (i := 41) 74 (ticked 47 4398046511103) rfl rfl rfl rfl ?_
     refine b_f (i := 42) 74 (ticked 47 8796093022207) rfl rfl rfl rfl ?_
     refine b_f (i := 43) 74 (ticked 47 17592186044415) rfl rfl rfl rfl ?_
     refine b_f (i := 44) 74 (ticked 47 35184372088831) rfl rfl rfl rfl ?_
     refine b_f (i := 45) 74 (ticked 47 70368744177663) rfl rfl rfl rfl ?_
     refine b_y (i := 46) (v := .bool true) (ticked 47 140737488355327) rfl rfl (by exact y_pick rfl rfl) ?_
     refine a_done (by as_aux_lemma => kernel_rfl) ?_
     refine q_then (c_true rfl (c_seq (c_region ?_)))
     refine s_y rfl (v := .bool false) (y_as rfl) rfl ?_
     refine s_nil (q_then (c_ret (q_block_ret (q_then_ret (q_then_ret (q_block_ret (q_then_ret ?_)))))))
     refine c_fin (I' := []) [] [2, 3] rfl (.tmp rfl .nil) rfl rfl rfl ?_
     exact ⟨dec_f (by first | exact ⟨by assumption, rj_end hF (by omega)⟩ | exact fun q => absurd q.1 (by assumption) | exact fun q => rj_none (by assumption) (rj_of q.2 hx1) | (intro q; have q0 := (rj_some (by assumption)).1 (rj_of q.2 hx1); obtain ⟨q1, q2, q3, q4, q5⟩ := q0; first | omega | contradiction | exact rj_2 (by assumption) (by assumption) (by assumption) q2)), rfl, rfl⟩
    ·
     refine b_y (i := 2) (v := .bool false) (ticked 47 7) rfl rfl (by exact y_f (y_k (v := .bool (decide (x1.st < 1))) rfl rfl (fun _ => by kernel_rfl)) h28) ?_
     refine b_y (i := 3) (v := .bool false) (ticked 47 15) rfl rfl (by exact y_mv rfl) ?_
     refine b_yo (i := 4) (v := .pointer (some ⟨b2, 0, none⟩)) 39 (ticked 47 31) rfl rfl rfl (by exact y_k rfl rfl (fun _ => by kernel_rfl)) ?_
     refine a_held_on (i := 5) 39 (ticked 47 63) rfl (by as_aux_lemma => kernel_rfl) rfl rfl rfl rfl rfl (held_pt 1 rfl rfl (held_fact (j := 0) 0 rfl rfl held_nil)) (h_ld 0 rfl rfl Tryz.underlying3 rfl) ?_
     refine e_by (x1.st > 400) (fun h29 => ?_) (fun h29 => ?_)
     ·
      refine b_yo (i := 6) (v := .bool true) 39 (ticked 47 127) rfl rfl rfl (by exact y_t (y_k (v := .bool (decide (x1.st > 400))) rfl rfl (fun _ => by kernel_rfl)) h29) ?_
      refine b_y (i := 7) (v := .bool true) (ticked 47 255) rfl rfl (by exact y_pick rfl rfl) ?_
      refine b_y (i := 8) (v := .bool true) (ticked 47 511) rfl rfl (by exact y_mv rfl) ?_
      refine b_f (i := 9) 44 (ticked 47 1023) rfl rfl rfl rfl ?_
      refine b_f (i := 10) 44 (ticked 47 2047) rfl rfl rfl rfl ?_
      refine b_f (i := 11) 44 (ticked 47 4095) rfl rfl rfl rfl ?_
      refine b_u (i := 12) 47 (ticked 47 8191) rfl rfl rfl ?_
      refine b_u (i := 13) 47 (ticked 47 16383) rfl rfl rfl ?_
      refine b_u (i := 14) 47 (ticked 47 32767) rfl rfl rfl ?_
      refine b_u (i := 15) 47 (ticked 47 65535) rfl rfl rfl ?_
      refine b_u (i := 16) 47 (ticked 47 131071) rfl rfl rfl ?_
      refine b_u (i := 17) 47 (ticked 47 262143) rfl rfl rfl ?_
      refine b_u (i := 18) 47 (ticked 47 524287) rfl rfl rfl ?_
      refine b_u (i := 19) 47 (ticked 47 1048575) rfl rfl rfl ?_
      refine b_u (i := 20) 47 (ticked 47 2097151) rfl rfl rfl ?_
      refine b_f (i := 21) 44 (ticked 47 4194303) rfl rfl rfl rfl ?_
      refine b_y (i := 22) (v := .bool true) (ticked 47 8388607) rfl rfl (by exact y_pick rfl rfl) ?_
      refine b_y (i := 23) (v := .bool true) (ticked 47 16777215) rfl rfl (by exact y_mv rfl) ?_
      refine b_f (i := 24) 59 (ticked 47 33554431) rfl rfl rfl rfl ?_
      refine b_f (i := 25) 59 (ticked 47 67108863) rfl rfl rfl rfl ?_
      refine b_y (i := 26) (v := .bool true) (ticked 47 134217727) rfl rfl (by exact y_pick rfl rfl) ?_
      refine b_y (i := 27) (v := .bool true) (ticked 47 268435455) rfl rfl (by exact y_mv rfl) ?_
      refine b_f (i := 28) 63 (ticked 47 536870911) rfl rfl rfl rfl ?_
      refine b_f (i := 29) 63 (ticked 47 1073741823) rfl rfl rfl rfl ?_
      refine b_f (i := 30) 63 (ticked 47 2147483647) rfl rfl rfl rfl ?_
      refine b_f (i := 31) 63 (ticked 47 4294967295) rfl rfl rfl rfl ?_
      refine b_f (i := 32) 63 (ticked 47 8589934591) rfl rfl rfl rfl ?_
      refine b_y (i := 33) (v := .bool true) (ticked 47 17179869183) rfl rfl (by exact y_pick rfl rfl) ?_
      refine b_y (i := 34) (v := .bool true) (ticked 47 34359738367) rfl rfl (by exact y_mv rfl) ?_
      refine b_f (i := 35) 70 (ticked 47 68719476735) rfl rfl rfl rfl ?_
      refine b_f (i := 36) 70 (ticked 47 137438953471) rfl rfl rfl rfl ?_
      refine b_y (i := 37) (v := .bool true) (ticked 47 274877906943) rfl rfl (by exact y_pick rfl rfl) ?_
      refine b_y (i := 38) (v := .bool true) (ticked 47 549755813887) rfl rfl (by exact y_mv rfl) ?_
      refine b_f (i := 39) 74 (ticked 47 1099511627775) rfl rfl rfl rfl ?_
      refine b_f (i := 40) 74 (ticked 47 2199023255551) rfl rfl rfl rfl ?_
      refine b_f (i := 41) 74 (ticked 47 4398046511103) rfl rfl rfl rfl ?_
      refine b_f (i := 42) 74 (ticked 47 8796093022207) rfl rfl rfl rfl ?_
      refine b_f (i := 43) 74 (ticked 47 17592186044415) rfl rfl rfl rfl ?_
      refine b_f (i := 44) 74 (ticked 47 35184372088831) rfl rfl rfl rfl ?_
      refine b_f (i := 45) 74 (ticked 47 70368744177663) rfl rfl rfl rfl ?_
      refine b_y (i := 46) (v := .bool true) (ticked 47 140737488355327) rfl rfl (by exact y_pick rfl rfl) ?_
      refine a_done (by as_aux_lemma => kernel_rfl) ?_
      refine q_then (c_true rfl (c_seq (c_region ?_)))
      refine s_y rfl (v := .bool false) (y_as rfl) rfl ?_
      refine s_nil (q_then (c_ret (q_block_ret (q_then_ret (q_then_ret (q_block_ret (q_then_ret ?_)))))))
      refine c_fin (I' := []) [] [2, 3] rfl (.tmp rfl .nil) rfl rfl rfl ?_
      exact ⟨dec_f (by first | exact ⟨by assumption, rj_end hF (by omega)⟩ | exact fun q => absurd q.1 (by assumption) | exact fun q => rj_none (by assumption) (rj_of q.2 hx1) | (intro q; have q0 := (rj_some (by assumption)).1 (rj_of q.2 hx1); obtain ⟨q1, q2, q3, q4, q5⟩ := q0; first | omega | contradiction | exact rj_2 (by assumption) (by assumption) (by assumption) q2)), rfl, rfl⟩
     ·
      refine b_yo (i := 6) (v := .bool false) 39 (ticked 47 127) rfl rfl rfl (by exact y_f (y_k (v := .bool (decide (x1.st > 400))) rfl rfl (fun _ => by kernel_rfl)) h29) ?_
      refine b_y (i := 7) (v := .bool false) (ticked 47 255) rfl rfl (by exact y_pick rfl rfl) ?_
      refine b_y (i := 8) (v := .bool false) (ticked 47 511) rfl rfl (by exact y_mv rfl) ?_
      refine b_yo (i := 9) (v := .int .i64 (k : Int)) 44 (ticked 47 1023) rfl rfl rfl (by exact y_mv rfl) ?_
      refine e_by ((k : Int) > 0) (fun h30 => ?_) (fun h30 => ?_)
      ·
       refine b_yo (i := 10) (v := .bool true) 44 (ticked 47 2047) rfl rfl rfl (by exact y_t (y_k (v := .bool (decide ((k : Int) > 0))) rfl rfl (fun _ => by kernel_rfl)) h30) ?_
       refine b_yo (i := 11) (v := .bool true) 44 (ticked 47 4095) rfl rfl rfl (by exact y_mv rfl) ?_
       refine b_yo (i := 12) (v := .slice A l.length c) 47 (ticked 47 8191) rfl rfl rfl (by exact y_mv rfl) ?_
       refine b_yo (i := 13) (v := .int .i64 (k : Int)) 47 (ticked 47 16383) rfl rfl rfl (by exact y_mv rfl) ?_
       refine b_yo (i := 14) (v := .int .i64 ((k : Int) - 1)) 47 (ticked 47 32767) rfl rfl rfl (by exact y_sub (r := (k : Int) - 1) rfl rfl rfl (by omega)) ?_
       refine b_yo (i := 15) (v := .pointer (some ⟨b8, o5 + (((k : Int) - 1).toNat) * 6, none⟩)) 47 (ticked 47 65535) rfl rfl rfl (by exact y_at (d := entTy) (l := l) (((k : Int) - 1).toNat) hA5 rfl rfl rfl (by omega) (List.getElem?_eq_some_iff.1 hx5).1 Tryz.underlying23 (by kernel_rfl) (by kernel_rfl)) ?_
       refine b_yo (i := 16) (v := .pointer (some ⟨b8, o5 + (((k : Int) - 1).toNat) * 6, none⟩)) 47 (ticked 47 131071) rfl rfl rfl (by exact y_k rfl rfl (fun _ => by kernel_rfl)) ?_
       refine b_yo (i := 18) (v := .pointer (some ⟨b2, 0, none⟩)) 47 (ticked 47 393215) rfl rfl rfl (by exact y_k rfl rfl (fun _ => by kernel_rfl)) ?_
       refine a_held_on (i := 17) 47 (ticked 47 524287) rfl (by as_aux_lemma => kernel_rfl) rfl rfl rfl rfl rfl (held_pt 1 rfl rfl (held_fact (j := 0) 0 rfl rfl held_nil)) (h_ld 1 rfl rfl Tryz.underlying3 rfl) ?_
       refine a_held_on (i := 19) 47 (ticked 47 1048575) rfl (by as_aux_lemma => kernel_rfl) rfl rfl rfl rfl rfl (held_pt 1 rfl rfl (held_fact (j := 0) 0 rfl rfl held_nil)) (h_ld 0 rfl rfl Tryz.underlying3 rfl) ?_
       refine e_by (x5.st ≥ x1.st) (fun h31 => ?_) (fun h31 => ?_)
       ·
        refine b_yo (i := 20) (v := .bool true) 47 (ticked 47 2097151) rfl rfl rfl (by exact y_t (y_k (v := .bool (decide (x5.st ≥ x1.st))) rfl rfl (fun _ => by kernel_rfl)) h31) ?_
        refine b_yo (i := 21) (v := .bool true) 44 (ticked 47 4194303) rfl rfl rfl (by exact y_pick rfl rfl) ?_
        refine b_y (i := 22) (v := .bool true) (ticked 47 8388607) rfl rfl (by exact y_pick rfl rfl) ?_
        refine b_y (i := 23) (v := .bool true) (ticked 47 16777215) rfl rfl (by exact y_mv rfl) ?_
        refine b_f (i := 24) 59 (ticked 47 33554431) rfl rfl rfl rfl ?_
        refine b_f (i := 25) 59 (ticked 47 67108863) rfl rfl rfl rfl ?_
        refine b_y (i := 26) (v := .bool true) (ticked 47 134217727) rfl rfl (by exact y_pick rfl rfl) ?_
        refine b_y (i := 27) (v := .bool true) (ticked 47 268435455) rfl rfl (by exact y_mv rfl) ?_
        refine b_f (i := 28) 63 (ticked 47 536870911) rfl rfl rfl rfl ?_
        refine b_f (i := 29) 63 (ticked 47 1073741823) rfl rfl rfl rfl ?_
        refine b_f (i := 30) 63 (ticked 47 2147483647) rfl rfl rfl rfl ?_
        refine b_f (i := 31) 63 (ticked 47 4294967295) rfl rfl rfl rfl ?_
        refine b_f (i := 32) 63 (ticked 47 8589934591) rfl rfl rfl rfl ?_
        refine b_y (i := 33) (v := .bool true) (ticked 47 17179869183) rfl rfl (by exact y_pick rfl rfl) ?_
        refine b_y (i := 34) (v := .bool true) (ticked 47 34359738367) rfl rfl (by exact y_mv rfl) ?_
        refine b_f (i := 35) 70 (ticked 47 68719476735) rfl rfl rfl rfl ?_
        refine b_f (i := 36) 70 (ticked 47 137438953471) rfl rfl rfl rfl ?_
        refine b_y (i := 37) (v := .bool true) (ticked 47 274877906943) rfl rfl (by exact y_pick rfl rfl) ?_
        refine b_y (i := 38) (v := .bool true) (ticked 47 549755813887) rfl rfl (by exact y_mv rfl) ?_
        refine b_f (i := 39) 74 (ticked 47 1099511627775) rfl rfl rfl rfl ?_
        refine b_f (i := 40) 74 (ticked 47 2199023255551) rfl rfl rfl rfl ?_
        refine b_f (i := 41) 74 (ticked 47 4398046511103) rfl rfl rfl rfl ?_
        refine b_f (i := 42) 74 (ticked 47 8796093022207) rfl rfl rfl rfl ?_
        refine b_f (i := 43) 74 (ticked 47 17592186044415) rfl rfl rfl rfl ?_
        refine b_f (i := 44) 74 (ticked 47 35184372088831) rfl rfl rfl rfl ?_
        refine b_f (i := 45) 74 (ticked 47 70368744177663) rfl rfl rfl rfl ?_
        refine b_y (i := 46) (v := .bool true) (ticked 47 140737488355327) rfl rfl (by exact y_pick rfl rfl) ?_
        refine a_done (by as_aux_lemma => kernel_rfl) ?_
        refine q_then (c_true rfl (c_seq (c_region ?_)))
        refine s_y rfl (v := .bool false) (y_as rfl) rfl ?_
        refine s_nil (q_then (c_ret (q_block_ret (q_then_ret (q_then_ret (q_block_ret (q_then_ret ?_)))))))
        refine c_fin (I' := []) [] [2, 3] rfl (.tmp rfl .nil) rfl rfl rfl ?_
        exact ⟨dec_f (by first | exact ⟨by assumption, rj_end hF (by omega)⟩ | exact fun q => absurd q.1 (by assumption) | exact fun q => rj_none (by assumption) (rj_of q.2 hx1) | (intro q; have q0 := (rj_some (by assumption)).1 (rj_of q.2 hx1); obtain ⟨q1, q2, q3, q4, q5⟩ := q0; first | omega | contradiction | exact rj_2 (by assumption) (by assumption) (by assumption) q2)), rfl, rfl⟩
       ·
        refine b_yo (i := 20) (v := .bool false) 47 (ticked 47 2097151) rfl rfl rfl (by exact y_f (y_k (v := .bool (decide (x5.st ≥ x1.st))) rfl rfl (fun _ => by kernel_rfl)) h31) ?_
        refine b_yo (i := 21) (v := .bool false) 44 (ticked 47 4194303) rfl rfl rfl (by exact y_pick rfl rfl) ?_
        refine b_y (i := 22) (v := .bool false) (ticked 47 8388607) rfl rfl (by exact y_pick rfl rfl) ?_
        refine b_y (i := 23) (v := .bool false) (ticked 47 16777215) rfl rfl (by exact y_mv rfl) ?_
        refine b_yo (i := 24) (v := .bool false) 59 (ticked 47 33554431) rfl rfl rfl (by exact y_mv rfl) ?_
        refine b_yo (i := 25) (v := .bool true) 59 (ticked 47 67108863) rfl rfl rfl (by exact y_k rfl rfl (fun _ => by kernel_rfl)) ?_
        refine b_y (i := 26) (v := .bool true) (ticked 47 134217727) rfl rfl (by exact y_pick rfl rfl) ?_
        refine b_y (i := 27) (v := .bool true) (ticked 47 268435455) rfl rfl (by exact y_mv rfl) ?_
        refine b_f (i := 28) 63 (ticked 47 536870911) rfl rfl rfl rfl ?_
        refine b_f (i := 29) 63 (ticked 47 1073741823) rfl rfl rfl rfl ?_
        refine b_f (i := 30) 63 (ticked 47 2147483647) rfl rfl rfl rfl ?_
        refine b_f (i := 31) 63 (ticked 47 4294967295) rfl rfl rfl rfl ?_
        refine b_f (i := 32) 63 (ticked 47 8589934591) rfl rfl rfl rfl ?_
        refine b_y (i := 33) (v := .bool true) (ticked 47 17179869183) rfl rfl (by exact y_pick rfl rfl) ?_
        refine b_y (i := 34) (v := .bool true) (ticked 47 34359738367) rfl rfl (by exact y_mv rfl) ?_
        refine b_f (i := 35) 70 (ticked 47 68719476735) rfl rfl rfl rfl ?_
        refine b_f (i := 36) 70 (ticked 47 137438953471) rfl rfl rfl rfl ?_
        refine b_y (i := 37) (v := .bool true) (ticked 47 274877906943) rfl rfl (by exact y_pick rfl rfl) ?_
        refine b_y (i := 38) (v := .bool true) (ticked 47 549755813887) rfl rfl (by exact y_mv rfl) ?_
        refine b_f (i := 39) 74 (ticked 47 1099511627775) rfl rfl rfl rfl ?_
        refine b_f (i := 40) 74 (ticked 47 2199023255551) rfl rfl rfl rfl ?_
        refine b_f (i := 41) 74 (ticked 47 4398046511103) rfl rfl rfl rfl ?_
        refine b_f (i := 42) 74 (ticked 47 8796093022207) rfl rfl rfl rfl ?_
        refine b_f (i := 43) 74 (ticked 47 17592186044415) rfl rfl rfl rfl ?_
        refine b_f (i := 44) 74 (ticked 47 35184372088831) rfl rfl rfl rfl ?_
        refine b_f (i := 45) 74 (ticked 47 70368744177663) rfl rfl rfl rfl ?_
        refine b_y (i := 46) (v := .bool true) (ticked 47 140737488355327) rfl rfl (by exact y_pick rfl rfl) ?_
        refine a_done (by as_aux_lemma => kernel_rfl) ?_
        refine q_then (c_true rfl (c_seq (c_region ?_)))
        refine s_y rfl (v := .bool false) (y_as rfl) rfl ?_
        refine s_nil (q_then (c_ret (q_block_ret (q_then_ret (q_then_ret (q_block_ret (q_then_ret ?_)))))))
        refine c_fin (I' := []) [] [2, 3] rfl (.tmp rfl .nil) rfl rfl rfl ?_
        exact ⟨dec_f (by first | exact ⟨by assumption, rj_end hF (by omega)⟩ | exact fun q => absurd q.1 (by assumption) | exact fun q => rj_none (by assumption) (rj_of q.2 hx1) | (intro q; have q0 := (rj_some (by assumption)).1 (rj_of q.2 hx1); obtain ⟨q1, q2, q3, q4, q5⟩ := q0; first | omega | contradiction | exact rj_2 (by assumption) (by assumption) (by assumption) q2)), rfl, rfl⟩
      ·
       refine b_yo (i := 10) (v := .bool false) 44 (ticked 47 2047) rfl rfl rfl (by exact y_f (y_k (v := .bool (decide ((k : Int) > 0))) rfl rfl (fun _ => by kernel_rfl)) h30) ?_
       refine b_yo (i := 11) (v := .bool false) 44 (ticked 47 4095) rfl rfl rfl (by exact y_mv rfl) ?_
       refine b_f (i := 12) 47 (ticked 47 8191) rfl rfl rfl rfl ?_
       refine b_f (i := 13) 47 (ticked 47 16383) rfl rfl rfl rfl ?_
       refine b_f (i := 14) 47 (ticked 47 32767) rfl rfl rfl rfl ?_
       refine b_f (i := 15) 47 (ticked 47 65535) rfl rfl rfl rfl ?_
       refine b_f (i := 16) 47 (ticked 47 131071) rfl rfl rfl rfl ?_
       refine b_f (i := 17) 47 (ticked 47 262143) rfl rfl rfl rfl ?_
       refine b_f (i := 18) 47 (ticked 47 524287) rfl rfl rfl rfl ?_
       refine b_f (i := 19) 47 (ticked 47 1048575) rfl rfl rfl rfl ?_
       refine b_f (i := 20) 47 (ticked 47 2097151) rfl rfl rfl rfl ?_
       refine b_yo (i := 21) (v := .bool false) 44 (ticked 47 4194303) rfl rfl rfl (by exact y_pick rfl rfl) ?_
       refine b_y (i := 22) (v := .bool false) (ticked 47 8388607) rfl rfl (by exact y_pick rfl rfl) ?_
       refine b_y (i := 23) (v := .bool false) (ticked 47 16777215) rfl rfl (by exact y_mv rfl) ?_
       refine b_yo (i := 24) (v := .bool false) 59 (ticked 47 33554431) rfl rfl rfl (by exact y_mv rfl) ?_
       refine b_yo (i := 25) (v := .bool true) 59 (ticked 47 67108863) rfl rfl rfl (by exact y_k rfl rfl (fun _ => by kernel_rfl)) ?_
       refine b_y (i := 26) (v := .bool true) (ticked 47 134217727) rfl rfl (by exact y_pick rfl rfl) ?_
       refine b_y (i := 27) (v := .bool true) (ticked 47 268435455) rfl rfl (by exact y_mv rfl) ?_
       refine b_f (i := 28) 63 (ticked 47 536870911) rfl rfl rfl rfl ?_
       refine b_f (i := 29) 63 (ticked 47 1073741823) rfl rfl rfl rfl ?_
       refine b_f (i := 30) 63 (ticked 47 2147483647) rfl rfl rfl rfl ?_
       refine b_f (i := 31) 63 (ticked 47 4294967295) rfl rfl rfl rfl ?_
       refine b_f (i := 32) 63 (ticked 47 8589934591) rfl rfl rfl rfl ?_
       refine b_y (i := 33) (v := .bool true) (ticked 47 17179869183) rfl rfl (by exact y_pick rfl rfl) ?_
       refine b_y (i := 34) (v := .bool true) (ticked 47 34359738367) rfl rfl (by exact y_mv rfl) ?_
       refine b_f (i := 35) 70 (ticked 47 68719476735) rfl rfl rfl rfl ?_
       refine b_f (i := 36) 70 (ticked 47 137438953471) rfl rfl rfl rfl ?_
       refine b_y (i := 37) (v := .bool true) (ticked 47 274877906943) rfl rfl (by exact y_pick rfl rfl) ?_
       refine b_y (i := 38) (v := .bool true) (ticked 47 549755813887) rfl rfl (by exact y_mv rfl) ?_
       refine b_f (i := 39) 74 (ticked 47 1099511627775) rfl rfl rfl rfl ?_
       refine b_f (i := 40) 74 (ticked 47 2199023255551) rfl rfl rfl rfl ?_
       refine b_f (i := 41) 74 (ticked 47 4398046511103) rfl rfl rfl rfl ?_
       refine b_f (i := 42) 74 (ticked 47 8796093022207) rfl rfl rfl rfl ?_
       refine b_f (i := 43) 74 (ticked 47 17592186044415) rfl rfl rfl rfl ?_
       refine b_f (i := 44) 74 (ticked 47 35184372088831) rfl rfl rfl rfl ?_
       refine b_f (i := 45) 74 (ticked 47 70368744177663) rfl rfl rfl rfl ?_
       refine b_y (i := 46) (v := .bool true) (ticked 47 140737488355327) rfl rfl (by exact y_pick rfl rfl) ?_
       refine a_done (by as_aux_lemma => kernel_rfl) ?_
       refine q_then (c_true rfl (c_seq (c_region ?_)))
       refine s_y rfl (v := .bool false) (y_as rfl) rfl ?_
       refine s_nil (q_then (c_ret (q_block_ret (q_then_ret (q_then_ret (q_block_ret (q_then_ret ?_)))))))
       refine c_fin (I' := []) [] [2, 3] rfl (.tmp rfl .nil) rfl rfl rfl ?_
       exact ⟨dec_f (by first | exact ⟨by assumption, rj_end hF (by omega)⟩ | exact fun q => absurd q.1 (by assumption) | exact fun q => rj_none (by assumption) (rj_of q.2 hx1) | (intro q; have q0 := (rj_some (by assumption)).1 (rj_of q.2 hx1); obtain ⟨q1, q2, q3, q4, q5⟩ := q0; first | omega | contradiction | exact rj_2 (by assumption) (by assumption) (by assumption) q2)), rfl, rfl⟩
 ·
  refine s_y rfl (v := .bool false) (y_f (y_k (v := .bool (decide ((k : Int) < (l.length : Int)))) rfl rfl (fun _ => by kernel_rfl)) h1) rfl ?_
  refine s_nil (q_then (c_false rfl ?_))
  refine c_exit ?_
  refine q_then_exit ?_
  refine q_then_exit ?_
  refine q_block_here ?_
  refine q_then (c_seq (c_region ?_))
  refine s_y rfl (v := .slice B rules.length d) (y_mv rfl) rfl ?_
  refine st rfl (o_call [] [0] (rRuRight_ B d rules (by first | omega | (simp; done) | (simp; omega) | assumption) (by assumption)) rfl rfl rfl rfl rfl rfl (fun v L' I' hq6 => ?_))
  obtain ⟨hv1, rfl, rfl⟩ := hq6
  refine e_by (rulesR rules) (fun h32 => ?_) (fun h32 => ?_)
  ·
   obtain rfl : v = .bool true := by rw [hv1, decide_eq_true h32]
   refine s_y rfl (v := .bool true) (y_as rfl) rfl ?_
   refine s_nil (q_then (c_ret ?_))
   refine c_fin (I' := []) [] [0, 1] rfl (.tmp rfl .nil) rfl rfl rfl ?_
   exact ⟨dec_t (by first | exact ⟨by assumption, rj_end hF (by omega)⟩ | exact fun q => absurd q.1 (by assumption) | exact fun q => rj_none (by assumption) (rj_of q.2 hx1) | (intro q; have q0 := (rj_some (by assumption)).1 (rj_of q.2 hx1); obtain ⟨q1, q2, q3, q4, q5⟩ := q0; first | omega | contradiction | exact rj_2 (by assumption) (by assumption) (by assumption) q2)), rfl, rfl⟩
  ·
   obtain rfl : v = .bool false := by rw [hv1, decide_eq_false h32]
   refine s_y rfl (v := .bool false) (y_as rfl) rfl ?_
   refine s_nil (q_then (c_ret ?_))
   refine c_fin (I' := []) [] [0, 1] rfl (.tmp rfl .nil) rfl rfl rfl ?_
   exact ⟨dec_f (by first | exact ⟨by assumption, rj_end hF (by omega)⟩ | exact fun q => absurd q.1 (by assumption) | exact fun q => rj_none (by assumption) (rj_of q.2 hx1) | (intro q; have q0 := (rj_some (by assumption)).1 (rj_of q.2 hx1); obtain ⟨q1, q2, q3, q4, q5⟩ := q0; first | omega | contradiction | exact rj_2 (by assumption) (by assumption) (by assumption) q2)), rfl, rfl⟩
end Go.Proofs.YthehnjbdkjnlpaaGreatDoor
