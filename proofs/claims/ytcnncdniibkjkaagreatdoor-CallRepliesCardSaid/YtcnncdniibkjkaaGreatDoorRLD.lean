/- The laws of chapter 17 (call), walked over the given program; no condition but what stands in each theorem: part LD. -/
import Derived.Test.YtcnncdniibkjkaaGreatDoorRR
import Derived.Test.YtcnncdniibkjkaaGreatDoorRRL
import Derived.Test.YtcnncdniibkjkaaGreatDoorRLA
import Derived.Test.YtcnncdniibkjkaaGreatDoorRLB
import Derived.Test.YtcnncdniibkjkaaGreatDoorRLC
set_option linter.unusedVariables false
set_option linter.unusedSimpArgs false
set_option maxRecDepth 100000
set_option maxHeartbeats 8000000
namespace Go.Proofs.YtcnncdniibkjkaaGreatDoor
open Go Go.Sl Go.RowKit Go.Extern.Stop Go.Stop Go.Extern
theorem ltold_ec_ (el : Addr) (q : Ec) : Con Tryz.prog 83 [ecV q] [] [cellsAt 4 0 [.iface 180 (.pointer (some el))], errAt el, cellsAt 0 0 [.iface 147 (.agg #[.pointer (some ⟨5, 48, none⟩)])]] (fun v L' I' => v = .int .i64 (ecN q) ∧ L' = [] ∧ I' = []) := by
  cases q with
  | none => exact ltold_nil_ el
  | some k => exact ltold_k_ el k
theorem lwidths_ : Con Tryz.prog 94 [] [] [] (fun v L' I' => ∃ b1 : Nat, v = .slice (some ⟨b1, 0, none⟩) 3 3 ∧ L' = [pt b1 [.int .i64 1, .int .i64 1, .int .i64 8] 3] ∧ I' = []) := by
 refine fn_of Tryz.func94 rfl Tryz.ntmps94 (by kernel_rfl) rfl (fun C => ?_)
 refine c_seq (c_region ?_)
 refine s_y rfl (v := .slice none 0 0) (y_as rfl) rfl ?_
 refine s_nil (q_then (c_seq (c_region ?_)))
 refine st rfl (o_lit (cs := [.int .i64 1, .int .i64 1, .int .i64 8]) (T := 3) (m := 3) rfl rfl rfl rfl (fun _ => by kernel_rfl) (fun b1 => ?_))
 refine s_y rfl (v := .slice (some ⟨b1, 0, none⟩) 3 3) (y_as rfl) rfl ?_
 refine s_nil (q_then (c_ret ?_))
 refine c_fin (I' := []) [0] [] rfl (.tmp rfl .nil) rfl rfl rfl ?_
 exact ⟨b1, rfl, rfl, rfl⟩
theorem lput_ (A : Option Addr) (c : Nat) (l : List Lab) (ea : Addr) (em : Addr) (ef : Addr) (el : Addr) (h12 : ea ≠ em) (h13 : ea ≠ ef) (h23 : em ≠ ef) (h64 : ∀ x ∈ l, lab64 x) (hn : l.length ≤ 1000) : Con Tryz.prog 82 [.slice A l.length c] [] [rd labTy A c l, cellsAt 2 0 [.iface 180 (.pointer (some ea))], cellsAt 3 0 [.iface 180 (.pointer (some em))], cellsAt 1 0 [.iface 180 (.pointer (some ef))], errAt ea, errAt em, errAt ef, cellsAt 4 0 [.iface 180 (.pointer (some el))], errAt el, cellsAt 0 0 [.iface 147 (.agg #[.pointer (some ⟨5, 48, none⟩)])]] (fun v L' I' => ((allR l) ∧ v = .tuple #[.string (encS l), .nilIface] ∧ L' = [] ∧ I' = []) ∨ ((¬ (allR l)) ∧ v = .tuple #[.string (⟨#[]⟩ : ByteArray), .iface 165 (.agg #[.int .i64 20, .iface 180 (.pointer (some el))])] ∧ L' = [] ∧ I' = [])) := by
 refine fn_of Tryz.func82 rfl Tryz.ntmps82 (by kernel_rfl) rfl (fun C => ?_)
 refine c_seq (c_region ?_)
 refine s_y rfl (v := .string (⟨#[]⟩ : ByteArray)) (y_as rfl) rfl ?_
 refine s_y rfl (v := .nilIface) (y_as rfl) rfl ?_
 refine s_nil (q_then (c_seq (c_region ?_)))
 refine st rfl (o_box (cs := [.pointer none, .slice none 0 0]) (T := 163) rfl rfl rfl rfl (fun _ => by kernel_rfl) (fun b1 => ?_))
 refine s_nil (q_then (c_seq (c_seq (c_region ?_))))
 refine s_y rfl (v := .slice A l.length c) (y_mv rfl) rfl ?_
 refine s_y rfl (v := .int .i64 (l.length : Int)) (y_k rfl rfl (fun _ => by kernel_rfl)) rfl ?_
 refine s_y rfl (v := .int .i64 0) (y_mv rfl) rfl ?_
 refine s_nil (q_then (c_block ?_))
 refine e_nil u8Ty 5 ?_
 refine c_loopn (ι := Nat × Value × (Option Addr) × Nat × (List UInt8)) (fun (k, p, A2, c2, o) => (k ≤ l.length) ∧ (p = .pointer none ∨ p = .pointer (some ⟨b1, 0, none⟩)) ∧ (A2 = none ∨ 0 < c2) ∧ (allR (l.take k)) ∧ (o = encL (l.take k)) ∧ (o.length ≤ 10 * k)) (fun (k, p, A2, c2, o) => [(4, .pointer (some ⟨b1, 0, none⟩)), (9, .slice A l.length c), (10, .int .i64 (l.length : Int)), (11, .int .i64 (k : Int))]) (fun (k, p, A2, c2, o) => [pt b1 [p, .slice A2 o.length c2] 163, ars u8Ty 5 A2 c2 o]) (fun (k, p, A2, c2, o) => [rd labTy A c l, cellsAt 2 0 [.iface 180 (.pointer (some ea))], cellsAt 3 0 [.iface 180 (.pointer (some em))], cellsAt 1 0 [.iface 180 (.pointer (some ef))], errAt ea, errAt em, errAt ef, cellsAt 4 0 [.iface 180 (.pointer (some el))], errAt el, cellsAt 0 0 [.iface 147 (.agg #[.pointer (some ⟨5, 48, none⟩)])]]) (fun (k, p, A2, c2, o) => l.length - k) (0, (Value.pointer none), none, 0, []) [1, 0] [0, 1, 2, 3, 4, 5, 6, 7, 8, 9] (show (0 ≤ l.length) ∧ ((Value.pointer none) = .pointer none ∨ (Value.pointer none) = .pointer (some ⟨b1, 0, none⟩)) ∧ (none = none ∨ 0 < 0) ∧ (allR (l.take 0)) ∧ ([] = encL (l.take 0)) ∧ ([].length ≤ 10 * 0) from ⟨by first | omega | simp_all | (simp; done), .inl rfl, .inl rfl, by unfold allR; simp, rfl, Nat.zero_le _⟩) ((.cons rfl rfl (.cons rfl rfl (.cons rfl rfl (.cons rfl rfl .nil))))) rfl rfl ?_
 rintro ⟨k, p, A2, c2, o⟩ ⟨hk, hp, hA, hr, ho, hol⟩
 show Ent 44 C [(4, .pointer (some ⟨b1, 0, none⟩)), (9, .slice A l.length c), (10, .int .i64 (l.length : Int)), (11, .int .i64 (k : Int))] [] [pt b1 [p, .slice A2 o.length c2] 163, ars u8Ty 5 A2 c2 o] [rd labTy A c l, cellsAt 2 0 [.iface 180 (.pointer (some ea))], cellsAt 3 0 [.iface 180 (.pointer (some em))], cellsAt 1 0 [.iface 180 (.pointer (some ef))], errAt ea, errAt em, errAt ef, cellsAt 4 0 [.iface 180 (.pointer (some el))], errAt el, cellsAt 0 0 [.iface 147 (.agg #[.pointer (some ⟨5, 48, none⟩)])]] _
 refine c_seq (c_region ?_)
 refine e_by ((k : Int) < (l.length : Int)) (fun h65 => ?_) (fun h65 => ?_)
 ·
  refine s_y rfl (v := .bool true) (y_t (y_k (v := .bool (decide ((k : Int) < (l.length : Int)))) rfl rfl (fun _ => by kernel_rfl)) h65) rfl ?_
  refine s_nil (q_then (c_seq (c_true rfl (c_skip (q_then (c_seq (c_block (c_seq (c_region ?_)))))))))
  refine e_at 0 k rfl (by first | omega | (simp only [List.length_append, List.length_map, List.length_take, List.length_drop]; omega)) (fun b2 o1 x1 hA1 hx1 => ?_)
  refine s_y rfl (v := .pointer (some ⟨b2, o1 + k * 3, none⟩)) (y_at (d := labTy) (l := l) k hA1 rfl rfl rfl (rfl) (List.getElem?_eq_some_iff.1 hx1).1 Tryz.underlying160 (by kernel_rfl) (by kernel_rfl)) rfl ?_
  refine st rfl (o_ldnf 0 0 3 rfl rfl rfl rfl Tryz.underlying24 rfl (by kernel_rfl) (by kernel_rfl) rfl ?_)
  refine st rfl (o_box (cs := [.int .i64 0, .int .u64 0, .int .i64 0]) (T := 24) rfl rfl rfl rfl (fun _ => by kernel_rfl) (fun b3 => ?_))
  refine st rfl (o_st 0 rfl rfl rfl rfl rfl (by kernel_rfl) (by kernel_rfl) rfl ?_)
  refine s_nil (q_then (c_seq (c_seq (c_region ?_))))
  refine st rfl (o_ldn 0 3 rfl rfl rfl rfl Tryz.underlying24 rfl (by kernel_rfl) (by kernel_rfl) rfl ?_)
  refine st rfl (o_call [] [] (labRight_ x1) rfl rfl rfl rfl rfl rfl (fun v L' I' hq1 => ?_))
  obtain ⟨hv1, rfl, rfl⟩ := hq1
  refine e_by (labRight x1) (fun h66 => ?_) (fun h66 => ?_)
  ·
   obtain rfl : v = .bool true := by rw [hv1, decide_eq_true h66]
   refine s_y rfl (v := .bool false) (y_k rfl rfl (fun _ => by kernel_rfl)) rfl ?_
   refine s_nil (q_then (c_false rfl (c_skip (q_then (c_seq ?_)))))
   refine c_drawx (l := ticked 16 0) [(⟨b3, 0, none⟩, .int .i64 x1.lv), (⟨b3, 2, none⟩, .int .i64 x1.ig), (⟨b3, 1, none⟩, .int .u64 (x1.cs : Int))] [] (by kernel_rfl) rfl rfl (fun Y back => ?_)
   have cut1 : ∀ (b4 : Nat) (b5 : Nat), Ent 44 C [(4, .pointer (some ⟨b1, 0, none⟩)), (6, .pointer (some ⟨b3, 0, none⟩)), (7, .string ((packF [1, 1, 8] [x1.lv.toNat, x1.ig.toNat, x1.cs]).1)), (8, .int .i64 ((packF [1, 1, 8] [x1.lv.toNat, x1.ig.toNat, x1.cs]).2)), (9, .slice A l.length c), (10, .int .i64 (l.length : Int)), (11, .int .i64 (k : Int)), (12, .bool true), (13, .pointer (some ⟨b2, o1 + k * 3, none⟩)), (14, .agg #[.int .i64 x1.lv, .int .u64 (x1.cs : Int), .int .i64 x1.ig]), (15, .agg #[.int .i64 x1.lv, .int .u64 (x1.cs : Int), .int .i64 x1.ig]), (16, .bool true), (17, .bool false), (21, .tuple #[.string ((packF [1, 1, 8] [x1.lv.toNat, x1.ig.toNat, x1.cs]).1), .int .i64 ((packF [1, 1, 8] [x1.lv.toNat, x1.ig.toNat, x1.cs]).2)]), (22, .slice (some ⟨b4, 0, none⟩) 3 3), (23, .pointer (some ⟨b3, 0, none⟩)), (24, .int .i64 x1.lv), (25, .int .u64 ((x1.lv).toNat : Int)), (26, .pointer (some ⟨b3, 2, none⟩)), (27, .int .i64 x1.ig), (28, .int .u64 ((x1.ig).toNat : Int)), (29, .pointer (some ⟨b3, 1, none⟩)), (30, .int .u64 (x1.cs : Int)), (31, .slice (some ⟨b5, 0, none⟩) 3 3), (32, .tuple #[.string ((packF [1, 1, 8] [x1.lv.toNat, x1.ig.toNat, x1.cs]).1), .int .i64 ((packF [1, 1, 8] [x1.lv.toNat, x1.ig.toNat, x1.cs]).2)]), (33, .string ((packF [1, 1, 8] [x1.lv.toNat, x1.ig.toNat, x1.cs]).1)), (34, .int .i64 ((packF [1, 1, 8] [x1.lv.toNat, x1.ig.toNat, x1.cs]).2))] [] [pt b3 [.int .i64 x1.lv, .int .u64 (x1.cs : Int), .int .i64 x1.ig] 24, pt b1 [p, .slice A2 o.length c2] 163, ars u8Ty 5 A2 c2 o] [rd u64Ty (some ⟨b5, 0, none⟩) 3 [x1.lv.toNat, x1.ig.toNat, x1.cs], cellsAt b5 0 [.int .u64 ((x1.lv).toNat : Int), .int .u64 ((x1.ig).toNat : Int), .int .u64 (x1.cs : Int)], rd intTy (some ⟨b4, 0, none⟩) 3 [1, 1, 8], cellsAt b4 0 [.int .i64 1, .int .i64 1, .int .i64 8], cellsAt b2 (o1 + k * 3) [.int .i64 x1.lv, .int .u64 (x1.cs : Int), .int .i64 x1.ig], rd labTy A c l, cellsAt 2 0 [.iface 180 (.pointer (some ea))], cellsAt 3 0 [.iface 180 (.pointer (some em))], cellsAt 1 0 [.iface 180 (.pointer (some ef))], errAt ea, errAt em, errAt ef, cellsAt 4 0 [.iface 180 (.pointer (some el))], errAt el, cellsAt 0 0 [.iface 147 (.agg #[.pointer (some ⟨5, 48, none⟩)])]] Y := by
    intro b4 b5
    refine back ?_
    refine q_then (c_seq (c_seq (c_region ?_)))
    refine s_y rfl (v := .int .i64 ((packF [1, 1, 8] [x1.lv.toNat, x1.ig.toNat, x1.cs]).2)) (y_mv rfl) rfl ?_
    have h67 : (packF [1, 1, 8] [x1.lv.toNat, x1.ig.toNat, x1.cs]).2 = 0 := (lab_pack (by assumption) (h64 _ (List.mem_of_getElem? (by assumption)))).1
    refine s_y rfl (v := .bool false) (y_nt (y_k (v := .bool (!decide ((packF [1, 1, 8] [x1.lv.toNat, x1.ig.toNat, x1.cs]).2 = 0))) rfl rfl (fun _ => by kernel_rfl)) h67) rfl ?_
    refine s_nil (q_then (c_false rfl (c_skip (q_then (c_region ?_)))))
    refine s_y rfl (v := .string ((packF [1, 1, 8] [x1.lv.toNat, x1.ig.toNat, x1.cs]).1)) (y_mv rfl) rfl ?_
    refine st rfl (o_call [1, 1] [] (WriteString_ b1 p ((packF [1, 1, 8] [x1.lv.toNat, x1.ig.toNat, x1.cs]).1) A2 c2 o (by assumption) (by first | assumption | exact .inl rfl) (by have h1 := (lab_pack (by assumption : labRight x1) (h64 _ (List.mem_of_getElem? (by assumption)))).2; have h2 : (packF [1, 1, 8] [x1.lv.toNat, x1.ig.toNat, x1.cs]).1.size = 10 := h1; omega)) rfl rfl rfl rfl rfl rfl (fun v L' I' hq2 => ?_))
    obtain ⟨A1, c1, h68, rfl, rfl, rfl⟩ := hq2
    refine s_nil (q_block (q_then (c_region ?_)))
    refine s_y rfl (v := .int .i64 ((k : Int) + 1)) (y_add (r := (k : Int) + 1) rfl rfl rfl (by omega)) rfl ?_
    refine s_y rfl (v := .int .i64 ((k : Int) + 1)) (y_mv rfl) rfl ?_
    refine s_nil (q_then ?_)
    refine c_next [0, 0] [5, 6, 7, 8, 9, 10, 11, 12, 13, 14] (k + 1, (Value.pointer (some ⟨b1, 0, none⟩)), A1, c1, o ++ ((packF [1, 1, 8] [x1.lv.toNat, x1.ig.toNat, x1.cs]).1).data.toList) ?_ ?_ ?_ (by rfl) (by rfl)
    · exact (show ((k + 1) ≤ l.length) ∧ ((Value.pointer (some ⟨b1, 0, none⟩)) = .pointer none ∨ (Value.pointer (some ⟨b1, 0, none⟩)) = .pointer (some ⟨b1, 0, none⟩)) ∧ (A1 = none ∨ 0 < c1) ∧ (allR (l.take (k + 1))) ∧ ((o ++ ((packF [1, 1, 8] [x1.lv.toNat, x1.ig.toNat, x1.cs]).1).data.toList) = encL (l.take (k + 1))) ∧ ((o ++ ((packF [1, 1, 8] [x1.lv.toNat, x1.ig.toNat, x1.cs]).1).data.toList).length ≤ 10 * (k + 1)) from ⟨by first | omega | simp_all | (simp; done), .inr rfl, h68, allR_step hr hx1 (by assumption), by rw [enc_step hx1, ← ho]; rfl, by have h1 := (lab_pack (by assumption : labRight x1) (h64 _ (List.mem_of_getElem? (by assumption)))).2; have h2 : (packF [1, 1, 8] [x1.lv.toNat, x1.ig.toNat, x1.cs]).1.size = 10 := h1; have h3 : (packF [1, 1, 8] [x1.lv.toNat, x1.ig.toNat, x1.cs]).1.data.toList.length = 10 := (Array.length_toList).trans h1; rw [List.length_append, h3]; omega⟩)
    · show l.length - (k + 1) < l.length - k; omega
    · exact (.cons rfl rfl (.cons rfl rfl (.cons rfl rfl (.cons rfl (show (.int .i64 ((k : Int) + 1) : Value) = .int .i64 ((k + 1) : Int) from by first | rfl | (congr 1; omega) | (congr 1; simp; done) | (congr 1; simp; omega)) .nil))))
   refine b_y (i := 1) (v := .pointer (some ⟨b3, 0, none⟩)) (ticked 16 2) rfl rfl (by exact y_k rfl rfl (fun _ => by kernel_rfl)) ?_
   refine b_y (i := 4) (v := .pointer (some ⟨b3, 2, none⟩)) (ticked 16 18) rfl rfl (by exact y_k rfl rfl (fun _ => by kernel_rfl)) ?_
   refine b_y (i := 7) (v := .pointer (some ⟨b3, 1, none⟩)) (ticked 16 146) rfl rfl (by exact y_k rfl rfl (fun _ => by kernel_rfl)) ?_
   refine a_held (i := 2) (ticked 16 150) rfl (by as_aux_lemma => kernel_rfl) rfl rfl rfl (held_pt 0 rfl rfl (held_pt 0 rfl rfl (held_pt 0 rfl rfl held_nil))) (h_ld 0 rfl rfl Tryz.underlying3 rfl) ?_
   refine b_y (i := 3) (v := .int .u64 ((x1.lv).toNat : Int)) (ticked 16 158) rfl rfl (by exact y_cvi (r := ((x1.lv).toNat : Int)) rfl Tryz.underlying3 Tryz.underlying22 (lv64 (by assumption))) ?_
   refine a_held (i := 5) (ticked 16 190) rfl (by as_aux_lemma => kernel_rfl) rfl rfl rfl (held_pt 0 rfl rfl (held_pt 0 rfl rfl (held_pt 0 rfl rfl held_nil))) (h_ld 1 rfl rfl Tryz.underlying3 rfl) ?_
   refine b_y (i := 6) (v := .int .u64 ((x1.ig).toNat : Int)) (ticked 16 254) rfl rfl (by exact y_cvi (r := ((x1.ig).toNat : Int)) rfl Tryz.underlying3 Tryz.underlying22 (ig64 (by assumption))) ?_
   refine a_held (i := 8) (ticked 16 510) rfl (by as_aux_lemma => kernel_rfl) rfl rfl rfl (held_pt 0 rfl rfl (held_pt 0 rfl rfl (held_pt 0 rfl rfl held_nil))) (h_ld 2 rfl rfl Tryz.underlying22 rfl) ?_
   refine a_each (rs := [0, 9]) (by as_aux_lemma => kernel_rfl) (.cons (ticked 16 511) rfl rfl rfl ?_ (.cons (ticked 16 1022) rfl rfl rfl ?_ .nil)) (List.cons_ne_nil _ _)
   ·
    refine o_call [] [] lwidths_ rfl rfl rfl rfl rfl rfl (fun v L' I' hq3 => ?_)
    obtain ⟨b6, rfl, rfl, rfl⟩ := hq3
    refine a_and (held_pt 1 rfl rfl (held_pt 1 rfl rfl (held_pt 1 rfl rfl held_nil))) ?_
    refine a_each (rs := [9]) (by as_aux_lemma => kernel_rfl) (.cons (ticked 16 1023) rfl rfl rfl (o_lit (cs := [.int .u64 ((x1.lv).toNat : Int), .int .u64 ((x1.ig).toNat : Int), .int .u64 (x1.cs : Int)]) (T := 22) (m := 3) rfl rfl rfl rfl (fun _ => by kernel_rfl) (fun b7 => ?_)) .nil) (List.cons_ne_nil _ _)
    refine a_and (held_pt 2 rfl rfl (held_pt 2 rfl rfl (held_pt 2 rfl rfl held_nil))) ?_
    refine e_calm 1 rfl ?_
    refine e_lit intTy [1, 1, 8] 0 rfl rfl (by simp) ?_
    refine e_calm 0 rfl ?_
    refine e_lit u64Ty [x1.lv.toNat, x1.ig.toNat, x1.cs] 0 rfl rfl (by simp) ?_
    refine a_each (rs := [10]) (by as_aux_lemma => kernel_rfl) (.cons (ticked 16 2047) rfl rfl rfl (o_call [] [2, 0, 6, 7, 8, 9, 10, 11, 14] (Pack_ (some ⟨b6, 0, none⟩) 3 [1, 1, 8] (some ⟨b7, 0, none⟩) 3 [x1.lv.toNat, x1.ig.toNat, x1.cs] ea em ef (by assumption) (by assumption) (by assumption) (by first | assumption | omega | (simp; done)) (by first | assumption | omega | (simp; done)) (by first | omega | (intro x hx; simp only [List.mem_cons, List.not_mem_nil, or_false] at hx; rcases hx with rfl | rfl | rfl <;> first | omega | (have hr_ := (by assumption : labRight _); obtain ⟨q1, q2, q3, q4⟩ := hr_; omega) | assumption | exact (by assumption : ∀ x ∈ _, lab64 x) _ (List.mem_of_getElem? (by assumption))))) rfl rfl rfl rfl rfl rfl (fun v L' I' hq4 => ?_)) .nil) (List.cons_ne_nil _ _)
    obtain ⟨rfl, rfl, rfl⟩ := hq4
    refine a_and (held_pt 0 rfl rfl (held_pt 0 rfl rfl (held_pt 0 rfl rfl held_nil))) ?_
    refine b_y (i := 11) (v := .tuple #[.string ((packF [1, 1, 8] [x1.lv.toNat, x1.ig.toNat, x1.cs]).1), .int .i64 ((packF [1, 1, 8] [x1.lv.toNat, x1.ig.toNat, x1.cs]).2)]) (ticked 16 4095) rfl rfl (by exact y_mv rfl) ?_
    refine b_y (i := 12) (v := .string ((packF [1, 1, 8] [x1.lv.toNat, x1.ig.toNat, x1.cs]).1)) (ticked 16 8191) rfl rfl (by exact y_k rfl rfl (fun _ => by kernel_rfl)) ?_
    refine b_y (i := 13) (v := .int .i64 ((packF [1, 1, 8] [x1.lv.toNat, x1.ig.toNat, x1.cs]).2)) (ticked 16 16383) rfl rfl (by exact y_k rfl rfl (fun _ => by kernel_rfl)) ?_
    refine b_y (i := 14) (v := .string ((packF [1, 1, 8] [x1.lv.toNat, x1.ig.toNat, x1.cs]).1)) (ticked 16 32767) rfl rfl (by exact y_as rfl) ?_
    refine b_y (i := 15) (v := .int .i64 ((packF [1, 1, 8] [x1.lv.toNat, x1.ig.toNat, x1.cs]).2)) (ticked 16 65535) rfl rfl (by exact y_as rfl) ?_
    refine a_done (by as_aux_lemma => kernel_rfl) ?_
    refine e_norm (e' := [(4, .pointer (some ⟨b1, 0, none⟩)), (6, .pointer (some ⟨b3, 0, none⟩)), (7, .string ((packF [1, 1, 8] [x1.lv.toNat, x1.ig.toNat, x1.cs]).1)), (8, .int .i64 ((packF [1, 1, 8] [x1.lv.toNat, x1.ig.toNat, x1.cs]).2)), (9, .slice A l.length c), (10, .int .i64 (l.length : Int)), (11, .int .i64 (k : Int)), (12, .bool true), (13, .pointer (some ⟨b2, o1 + k * 3, none⟩)), (14, .agg #[.int .i64 x1.lv, .int .u64 (x1.cs : Int), .int .i64 x1.ig]), (15, .agg #[.int .i64 x1.lv, .int .u64 (x1.cs : Int), .int .i64 x1.ig]), (16, .bool true), (17, .bool false), (21, .tuple #[.string ((packF [1, 1, 8] [x1.lv.toNat, x1.ig.toNat, x1.cs]).1), .int .i64 ((packF [1, 1, 8] [x1.lv.toNat, x1.ig.toNat, x1.cs]).2)]), (22, .slice (some ⟨b6, 0, none⟩) 3 3), (23, .pointer (some ⟨b3, 0, none⟩)), (24, .int .i64 x1.lv), (25, .int .u64 ((x1.lv).toNat : Int)), (26, .pointer (some ⟨b3, 2, none⟩)), (27, .int .i64 x1.ig), (28, .int .u64 ((x1.ig).toNat : Int)), (29, .pointer (some ⟨b3, 1, none⟩)), (30, .int .u64 (x1.cs : Int)), (31, .slice (some ⟨b7, 0, none⟩) 3 3), (32, .tuple #[.string ((packF [1, 1, 8] [x1.lv.toNat, x1.ig.toNat, x1.cs]).1), .int .i64 ((packF [1, 1, 8] [x1.lv.toNat, x1.ig.toNat, x1.cs]).2)]), (33, .string ((packF [1, 1, 8] [x1.lv.toNat, x1.ig.toNat, x1.cs]).1)), (34, .int .i64 ((packF [1, 1, 8] [x1.lv.toNat, x1.ig.toNat, x1.cs]).2))]) [0, 0, 0] [0, 1, 2, 3, 4, 5, 6, 7, 8, 9, 10, 11, 12, 13, 14] ((.cons rfl rfl (.cons rfl rfl (.cons rfl rfl (.cons rfl rfl (.cons rfl rfl (.cons rfl rfl (.cons rfl rfl (.cons rfl rfl (.cons rfl rfl (.cons rfl rfl (.cons rfl rfl (.cons rfl rfl (.cons rfl rfl (.cons rfl rfl (.cons rfl rfl (.cons rfl rfl (.cons rfl rfl (.cons rfl rfl (.cons rfl rfl (.cons rfl rfl (.cons rfl rfl (.cons rfl rfl (.cons rfl rfl (.cons rfl rfl (.cons rfl rfl (.cons rfl rfl (.cons rfl rfl .nil)))))))))))))))))))))))))))) rfl rfl ?_
    exact cut1 b6 b7
   ·
    refine o_lit (cs := [.int .u64 ((x1.lv).toNat : Int), .int .u64 ((x1.ig).toNat : Int), .int .u64 (x1.cs : Int)]) (T := 22) (m := 3) rfl rfl rfl rfl (fun _ => by kernel_rfl) (fun b8 => ?_)
    refine a_and (held_pt 1 rfl rfl (held_pt 1 rfl rfl (held_pt 1 rfl rfl held_nil))) ?_
    refine a_each (rs := [0]) (by as_aux_lemma => kernel_rfl) (.cons (ticked 16 1023) rfl rfl rfl (o_call [] [] lwidths_ rfl rfl rfl rfl rfl rfl (fun v L' I' hq5 => ?_)) .nil) (List.cons_ne_nil _ _)
    obtain ⟨b9, rfl, rfl, rfl⟩ := hq5
    refine a_and (held_pt 2 rfl rfl (held_pt 2 rfl rfl (held_pt 2 rfl rfl held_nil))) ?_
    refine e_calm 0 rfl ?_
    refine e_lit intTy [1, 1, 8] 0 rfl rfl (by simp) ?_
    refine e_calm 0 rfl ?_
    refine e_lit u64Ty [x1.lv.toNat, x1.ig.toNat, x1.cs] 0 rfl rfl (by simp) ?_
    refine a_each (rs := [10]) (by as_aux_lemma => kernel_rfl) (.cons (ticked 16 2047) rfl rfl rfl (o_call [] [2, 0, 6, 7, 8, 9, 10, 11, 14] (Pack_ (some ⟨b9, 0, none⟩) 3 [1, 1, 8] (some ⟨b8, 0, none⟩) 3 [x1.lv.toNat, x1.ig.toNat, x1.cs] ea em ef (by assumption) (by assumption) (by assumption) (by first | assumption | omega | (simp; done)) (by first | assumption | omega | (simp; done)) (by first | omega | (intro x hx; simp only [List.mem_cons, List.not_mem_nil, or_false] at hx; rcases hx with rfl | rfl | rfl <;> first | omega | (have hr_ := (by assumption : labRight _); obtain ⟨q1, q2, q3, q4⟩ := hr_; omega) | assumption | exact (by assumption : ∀ x ∈ _, lab64 x) _ (List.mem_of_getElem? (by assumption))))) rfl rfl rfl rfl rfl rfl (fun v L' I' hq6 => ?_)) .nil) (List.cons_ne_nil _ _)
    obtain ⟨rfl, rfl, rfl⟩ := hq6
    refine a_and (held_pt 0 rfl rfl (held_pt 0 rfl rfl (held_pt 0 rfl rfl held_nil))) ?_
    refine b_y (i := 11) (v := .tuple #[.string ((packF [1, 1, 8] [x1.lv.toNat, x1.ig.toNat, x1.cs]).1), .int .i64 ((packF [1, 1, 8] [x1.lv.toNat, x1.ig.toNat, x1.cs]).2)]) (ticked 16 4095) rfl rfl (by exact y_mv rfl) ?_
    refine b_y (i := 12) (v := .string ((packF [1, 1, 8] [x1.lv.toNat, x1.ig.toNat, x1.cs]).1)) (ticked 16 8191) rfl rfl (by exact y_k rfl rfl (fun _ => by kernel_rfl)) ?_
    refine b_y (i := 13) (v := .int .i64 ((packF [1, 1, 8] [x1.lv.toNat, x1.ig.toNat, x1.cs]).2)) (ticked 16 16383) rfl rfl (by exact y_k rfl rfl (fun _ => by kernel_rfl)) ?_
    refine b_y (i := 14) (v := .string ((packF [1, 1, 8] [x1.lv.toNat, x1.ig.toNat, x1.cs]).1)) (ticked 16 32767) rfl rfl (by exact y_as rfl) ?_
    refine b_y (i := 15) (v := .int .i64 ((packF [1, 1, 8] [x1.lv.toNat, x1.ig.toNat, x1.cs]).2)) (ticked 16 65535) rfl rfl (by exact y_as rfl) ?_
    refine a_done (by as_aux_lemma => kernel_rfl) ?_
    refine e_norm (e' := [(4, .pointer (some ⟨b1, 0, none⟩)), (6, .pointer (some ⟨b3, 0, none⟩)), (7, .string ((packF [1, 1, 8] [x1.lv.toNat, x1.ig.toNat, x1.cs]).1)), (8, .int .i64 ((packF [1, 1, 8] [x1.lv.toNat, x1.ig.toNat, x1.cs]).2)), (9, .slice A l.length c), (10, .int .i64 (l.length : Int)), (11, .int .i64 (k : Int)), (12, .bool true), (13, .pointer (some ⟨b2, o1 + k * 3, none⟩)), (14, .agg #[.int .i64 x1.lv, .int .u64 (x1.cs : Int), .int .i64 x1.ig]), (15, .agg #[.int .i64 x1.lv, .int .u64 (x1.cs : Int), .int .i64 x1.ig]), (16, .bool true), (17, .bool false), (21, .tuple #[.string ((packF [1, 1, 8] [x1.lv.toNat, x1.ig.toNat, x1.cs]).1), .int .i64 ((packF [1, 1, 8] [x1.lv.toNat, x1.ig.toNat, x1.cs]).2)]), (22, .slice (some ⟨b9, 0, none⟩) 3 3), (23, .pointer (some ⟨b3, 0, none⟩)), (24, .int .i64 x1.lv), (25, .int .u64 ((x1.lv).toNat : Int)), (26, .pointer (some ⟨b3, 2, none⟩)), (27, .int .i64 x1.ig), (28, .int .u64 ((x1.ig).toNat : Int)), (29, .pointer (some ⟨b3, 1, none⟩)), (30, .int .u64 (x1.cs : Int)), (31, .slice (some ⟨b8, 0, none⟩) 3 3), (32, .tuple #[.string ((packF [1, 1, 8] [x1.lv.toNat, x1.ig.toNat, x1.cs]).1), .int .i64 ((packF [1, 1, 8] [x1.lv.toNat, x1.ig.toNat, x1.cs]).2)]), (33, .string ((packF [1, 1, 8] [x1.lv.toNat, x1.ig.toNat, x1.cs]).1)), (34, .int .i64 ((packF [1, 1, 8] [x1.lv.toNat, x1.ig.toNat, x1.cs]).2))]) [0, 0, 0] [0, 1, 2, 3, 4, 5, 6, 7, 8, 9, 10, 11, 12, 13, 14] ((.cons rfl rfl (.cons rfl rfl (.cons rfl rfl (.cons rfl rfl (.cons rfl rfl (.cons rfl rfl (.cons rfl rfl (.cons rfl rfl (.cons rfl rfl (.cons rfl rfl (.cons rfl rfl (.cons rfl rfl (.cons rfl rfl (.cons rfl rfl (.cons rfl rfl (.cons rfl rfl (.cons rfl rfl (.cons rfl rfl (.cons rfl rfl (.cons rfl rfl (.cons rfl rfl (.cons rfl rfl (.cons rfl rfl (.cons rfl rfl (.cons rfl rfl (.cons rfl rfl (.cons rfl rfl .nil)))))))))))))))))))))))))))) rfl rfl ?_
    exact cut1 b9 b8
  ·
   obtain rfl : v = .bool false := by rw [hv1, decide_eq_false h66]
   refine s_y rfl (v := .bool true) (y_k rfl rfl (fun _ => by kernel_rfl)) rfl ?_
   refine s_nil (q_then (c_true rfl (c_seq ?_)))
   refine c_draw (l := ticked 5 0) [(⟨4, 0, none⟩, .iface 180 (.pointer (some el)))] [] (by kernel_rfl) rfl rfl ?_
   refine b_y (i := 3) (v := .string (⟨#[]⟩ : ByteArray)) (ticked 5 8) rfl rfl (by exact y_as rfl) ?_
   refine a_held (i := 0) (ticked 5 9) rfl (by as_aux_lemma => kernel_rfl) rfl rfl rfl (held_fact (j := 0) 8 rfl rfl held_nil) (h_ld 0 rfl rfl Tryz.underlying48 rfl) ?_
   refine b_y (i := 1) (v := .agg #[.int .i64 20, .iface 180 (.pointer (some el))]) (ticked 5 11) rfl rfl (by exact y_k rfl rfl (fun _ => by kernel_rfl)) ?_
   refine b_y (i := 2) (v := .iface 165 (.agg #[.int .i64 20, .iface 180 (.pointer (some el))])) (ticked 5 15) rfl rfl (by exact y_k rfl rfl (fun _ => by kernel_rfl)) ?_
   refine b_y (i := 4) (v := .iface 165 (.agg #[.int .i64 20, .iface 180 (.pointer (some el))])) (ticked 5 31) rfl rfl (by exact y_as rfl) ?_
   refine a_done (by as_aux_lemma => kernel_rfl) ?_
   refine q_then (c_ret (q_then_ret (q_block_ret (q_then_ret (q_then_ret (q_block_ret (q_then_ret ?_)))))))
   refine c_fin (I' := []) [] [1, 2, 3, 4, 5, 6, 7, 8, 9, 10] rfl (.tmp rfl (.tmp rfl .nil)) rfl rfl rfl ?_
   exact .inr ⟨allR_not hx1 (by assumption), rfl, rfl, rfl⟩
 ·
  refine s_y rfl (v := .bool false) (y_f (y_k (v := .bool (decide ((k : Int) < (l.length : Int)))) rfl rfl (fun _ => by kernel_rfl)) h65) rfl ?_
  refine s_nil (q_then (c_seq (c_false rfl ?_)))
  refine c_exit ?_
  refine q_then_exit ?_
  refine q_then_exit ?_
  refine q_block_here ?_
  refine q_then (c_seq (c_region ?_))
  refine st rfl (o_call [0, 0] [] (String_ b1 p A2 c2 o (by first | assumption | exact .inl rfl)) rfl rfl rfl rfl rfl rfl (fun v L' I' hq7 => ?_))
  obtain ⟨rfl, rfl, rfl⟩ := hq7
  refine s_y rfl (v := .string (⟨List.toArray o⟩ : ByteArray)) (y_as rfl) rfl ?_
  refine s_y rfl (v := .nilIface) (y_as rfl) rfl ?_
  refine s_nil (q_then (c_ret ?_))
  refine c_fin (I' := []) [] [0, 1, 2, 3, 4, 5, 6, 7, 8, 9] rfl (.tmp rfl (.tmp rfl .nil)) rfl rfl rfl ?_
  exact .inl ⟨allR_end hr (by omega), by have e0 : k = l.length := (by omega); simp only [packed]; rw [ho, e0, List.take_length]; rfl, rfl, rfl⟩
end Go.Proofs.YtcnncdniibkjkaaGreatDoor
