/- The laws of chapter 15 (journal), walked over the given program; no condition but what stands in each theorem: part FD. -/
import Derived.Test.YthehnjbdkjnlpaaGreatDoorRFC
set_option linter.unusedVariables false
set_option linter.unusedSimpArgs false
set_option maxRecDepth 100000
set_option maxHeartbeats 8000000
namespace Go.Proofs.YthehnjbdkjnlpaaGreatDoor
open Go Go.Sl Go.RowKit Go.Extern.Stop Go.Stop Go.Extern
theorem record_ (fm : ByteArray) (ef : Addr) (hs : fm.size ≤ 100000) : Con Tryz.prog 84 [.string fm] [] [cellsAt 2 0 [.iface 153 (.pointer (some ef))], errAt ef] (fun v L' I' => v = .tuple #[.string ((recF fm).1), fefV ef ((recF fm).2)] ∧ L' = [] ∧ I' = []) := by
 refine fn_of Tryz.func84 rfl Tryz.ntmps84 (by kernel_rfl) rfl (fun C => ?_)
 refine c_seq (c_region ?_)
 refine s_y rfl (v := .string (⟨#[]⟩ : ByteArray)) (y_as rfl) rfl ?_
 refine s_y rfl (v := .nilIface) (y_as rfl) rfl ?_
 refine s_nil (q_then (c_seq (c_region ?_)))
 refine s_y rfl (v := .string fm) (y_mv rfl) rfl ?_
 refine s_y rfl (v := .agg #[.string fm]) (y_k rfl rfl (fun _ => by kernel_rfl)) rfl ?_
 refine s_y rfl (v := .agg #[.string fm, .nilIface]) (y_k rfl rfl (fun _ => by kernel_rfl)) rfl ?_
 refine st rfl (o_box (cs := [.string fm, .nilIface]) (T := 145) rfl rfl rfl rfl (fun _ => by kernel_rfl) (fun b1 => ?_))
 refine s_y rfl (v := .pointer (some ⟨b1, 0, none⟩)) (y_as rfl) rfl ?_
 refine s_nil (q_then (c_seq (c_region ?_)))
 refine st rfl (o_box (cs := [.slice none 0 0]) (T := 140) rfl rfl rfl rfl (fun _ => by kernel_rfl) (fun b2 => ?_))
 refine s_nil (q_then (c_seq (c_seq (c_region ?_))))
 refine s_y rfl (v := .pointer (some ⟨b1, 0, none⟩)) (y_mv rfl) rfl ?_
 show Ent _ _ _ _ [pt b2 [.slice none 0 0] 140, pt b1 [.string fm, fefV ef false] 145] _ _
 refine st rfl (o_call [] [] (signs_ b1) rfl rfl rfl rfl rfl rfl (fun v L' I' hq1 => ?_))
 obtain ⟨k1, rfl, rfl, rfl⟩ := hq1
 refine s_nil (q_then (c_block ?_))
 refine e_nil u8Ty 5 ?_
 refine c_range2 (xs := (sgnF (bl fm)).1.map fun y => [.int .u8 (y.toNat : Int)]) (fun k L I => ∃ o : List UInt8, ∃ Ao : Option Addr, ∃ co : Nat, (o = (sgnF (bl fm)).1.take k) ∧ (o.length ≤ (sgnF (bl fm)).1.length) ∧ L = [pt b2 [.slice Ao o.length co] 140, ars u8Ty 5 Ao co o] ∧ I = []) (fun _ _ _ _ => False) [1, 2, 1, 0] [0, 1] (signs1_ k1 b1 fm ef hs) rfl rfl rfl ⟨([] : List UInt8), none, 0, by simp, Nat.zero_le _, rfl, rfl⟩ (by intro x hx; simp only [List.mem_map] at hx; obtain ⟨_, _, rfl⟩ := hx; rfl) rfl (fun C1 lp1 r1 k2 x1 Lx1 Ix1 hx1 hS1 => ?_) (fun bD1 La1 Lb1 Ib1 hf1 hS1 => ?_) (fun bD1 k2 cc La1 Lb1 Ib1 hk hf1 hX => ?_)
 ·
  obtain ⟨y1, hy1, rfl⟩ : ∃ y, ((sgnF (bl fm)).1)[k2]? = some y ∧ [.int .u8 (y.toNat : Int)] = x1 := by simpa using hx1
  obtain ⟨o1, Ao1, co1, h1, h2, rfl, rfl⟩ := hS1
  refine Ent.env (e' := [(0, .string fm), (2, .string (⟨#[]⟩ : ByteArray)), (3, .nilIface), (4, .pointer (some ⟨b1, 0, none⟩)), (5, .pointer (some ⟨b2, 0, none⟩)), (7, .string fm), (8, .agg #[.string fm]), (9, .agg #[.string fm, .nilIface]), (10, .pointer (some ⟨b1, 0, none⟩)), (11, .pointer (some ⟨b1, 0, none⟩)), (12, .func (.func 89) #[] #[.pointer (some ⟨k1, 0, none⟩)]), (13, .int .u8 (y1.toNat : Int))]) (.cons rfl rfl (.cons rfl rfl (.cons rfl rfl (.cons rfl rfl (.cons rfl rfl (.cons rfl rfl (.cons rfl rfl (.cons rfl rfl (.cons rfl rfl (.cons rfl rfl (.cons rfl rfl (.cons rfl rfl .nil)))))))))))) ?_
  refine c_region ?_
  refine s_y rfl (v := .int .u8 (y1.toNat : Int)) (y_as rfl) rfl ?_
  refine s_nil (q_then ?_)
  refine r_begin 0 rfl ?_
  refine c_block (c_region ?_)
  refine st rfl (o_ld 1 rfl rfl rfl Tryz.underlying140 rfl rfl ?_)
  refine s_y rfl (v := .int .u8 (y1.toNat : Int)) (y_mv rfl) rfl ?_
  refine st rfl (o_lit (cs := [.int .u8 (y1.toNat : Int)]) (T := 5) (m := 1) rfl rfl rfl rfl (fun _ => by kernel_rfl) (fun b3 => ?_))
  refine st rfl (o_app (l := o1) (us := [y1]) 3 rfl rfl rfl rfl rfl (src_pt 0 rfl) Tryz.underlying140 (elem_of (z := .int .u8 0) (sz := 1) (bytes := 1) (by kernel_rfl) rfl) rfl (by have h1 := sgn_len fm.size (bl fm) (by rw [bl_size]; exact Nat.le_refl _); simp only [List.length_cons, List.length_nil]; omega) rfl rfl (fun A1 c1 => ?_))
  refine st rfl (o_st 2 rfl rfl rfl rfl rfl (by kernel_rfl) (by kernel_rfl) rfl ?_)
  refine s_nil (q_block ?_)
  refine r_end 1 [1, 1] [] rfl rfl rfl ⟨(o1 ++ [y1]), A1, c1, by rw [List.take_add_one, hy1, ← h1]; rfl, by have h2 := (List.getElem?_eq_some_iff.1 hy1).1; rw [List.length_append, h1, List.length_take]; simp only [List.length_cons, List.length_nil]; omega, rfl, rfl⟩
 ·
  obtain ⟨rr, rfl⟩ := hf1
  rw [List.length_map] at hS1
  obtain ⟨o2, Ao2, co2, h3, h4, rfl, rfl⟩ := hS1
  refine Ent.env (e' := [(0, .string fm), (2, .string (⟨#[]⟩ : ByteArray)), (3, .nilIface), (4, .pointer (some ⟨b1, 0, none⟩)), (5, .pointer (some ⟨b2, 0, none⟩)), (7, .string fm), (8, .agg #[.string fm]), (9, .agg #[.string fm, .nilIface]), (10, .pointer (some ⟨b1, 0, none⟩)), (11, .pointer (some ⟨b1, 0, none⟩)), (12, .func (.func 89) #[] #[.pointer (some ⟨k1, 0, none⟩)])]) (.cons rfl rfl (.cons rfl rfl (.cons rfl rfl (.cons rfl rfl (.cons rfl rfl (.cons rfl rfl (.cons rfl rfl (.cons rfl rfl (.cons rfl rfl (.cons rfl rfl (.cons rfl rfl .nil))))))))))) ?_
  refine q_block (q_then (c_seq (c_seq (c_region ?_))))
  refine s_y rfl (v := .string fm) (y_mv rfl) rfl ?_
  refine e_by (fm = (⟨#[]⟩ : ByteArray)) (fun h5 => ?_) (fun h5 => ?_)
  ·
   refine s_y rfl (v := .bool true) (y_b (y_k (v := .bool (fm.toList == (⟨#[]⟩ : ByteArray).toList)) rfl rfl (fun _ => by kernel_rfl)) (str_t h5)) rfl ?_
   refine s_nil (q_then (c_true rfl (c_seq ?_)))
   refine c_draw (l := ticked 3 0) [(⟨2, 0, none⟩, .iface 153 (.pointer (some ef)))] [] (by kernel_rfl) rfl rfl ?_
   refine b_y (i := 1) (v := .string (⟨#[]⟩ : ByteArray)) (ticked 3 2) rfl rfl (by exact y_as rfl) ?_
   refine a_held (i := 0) (ticked 3 3) rfl (by as_aux_lemma => kernel_rfl) rfl rfl rfl (held_fact (j := 0) 0 rfl rfl held_nil) (h_ld 0 rfl rfl Tryz.underlying50 rfl) ?_
   refine b_y (i := 2) (v := .iface 153 (.pointer (some ef))) (ticked 3 7) rfl rfl (by exact y_as rfl) ?_
   refine a_done (by as_aux_lemma => kernel_rfl) ?_
   refine q_then (c_ret (q_then_ret ?_))
   have hp : recF fm = ((⟨#[]⟩ : ByteArray), true) := by exact if_pos (by assumption)
   refine e_mark 0 rfl ?_
   refine c_fin (I' := []) [] [0, 1] rfl (.tmp rfl (.tmp rfl .nil)) rfl rfl rfl ?_
   rw [hp]
   exact ⟨rfl, rfl, rfl⟩
  ·
   refine s_y rfl (v := .bool false) (y_b (y_k (v := .bool (fm.toList == (⟨#[]⟩ : ByteArray).toList)) rfl rfl (fun _ => by kernel_rfl)) (str_f h5)) rfl ?_
   refine s_nil (q_then (c_false rfl (c_skip (q_then (c_seq ?_)))))
   refine c_draw (l := ticked 8 0) [(⟨b2, 0, none⟩, .slice Ao2 o2.length co2), (⟨b1, 1, none⟩, fefV ef ((sgnF (bl fm)).2))] [] (by kernel_rfl) rfl rfl ?_
   refine b_y (i := 2) (v := .pointer (some ⟨b1, 0, none⟩)) (ticked 8 4) rfl rfl (by exact y_mv rfl) ?_
   refine b_y (i := 3) (v := .pointer (some ⟨b1, 0, none⟩)) (ticked 8 12) rfl rfl (by exact y_k rfl rfl (fun _ => by kernel_rfl)) ?_
   refine b_y (i := 4) (v := .pointer (some ⟨b1, 1, none⟩)) (ticked 8 28) rfl rfl (by exact y_k rfl rfl (fun _ => by kernel_rfl)) ?_
   refine a_held (i := 0) (ticked 8 29) rfl (by as_aux_lemma => kernel_rfl) rfl rfl rfl (held_pt 3 rfl rfl (held_pt 2 rfl rfl held_nil)) (h_ld 0 rfl rfl Tryz.underlying140 rfl) ?_
   refine a_held (i := 5) (ticked 8 61) rfl (by as_aux_lemma => kernel_rfl) rfl rfl rfl (held_pt 3 rfl rfl (held_pt 2 rfl rfl held_nil)) (h_ld 1 rfl rfl Tryz.underlying50 rfl) ?_
   refine a_each (rs := [1]) (by as_aux_lemma => kernel_rfl) (.cons (ticked 8 63) rfl rfl rfl (o_b2s (l := o2) rfl rfl (src_ars 4 rfl) Tryz.underlying140 Tryz.underlying9 Tryz.underlying5 rfl ?_) .nil) (List.cons_ne_nil _ _)
   refine a_and (held_pt 3 rfl rfl (held_pt 2 rfl rfl held_nil)) ?_
   refine b_y (i := 6) (v := .string (⟨List.toArray o2⟩ : ByteArray)) (ticked 8 127) rfl rfl (by exact y_as rfl) ?_
   refine b_y (i := 7) (v := fefV ef ((sgnF (bl fm)).2)) (ticked 8 255) rfl rfl (by exact y_as rfl) ?_
   refine a_done (by as_aux_lemma => kernel_rfl) ?_
   refine q_then (c_ret ?_)
   have hp : recF fm = ((⟨List.toArray o2⟩ : ByteArray), (sgnF (bl fm)).2) := by have e0 := h3; rw [List.take_length] at e0; unfold recF; rw [if_neg (by assumption), ← e0]
   refine e_mark 0 rfl ?_
   refine c_fin (I' := []) [] [0, 1] rfl (.tmp rfl (.tmp rfl .nil)) rfl rfl rfl ?_
   rw [hp]
   exact ⟨rfl, rfl, rfl⟩
 ·
  exact hX.elim
end Go.Proofs.YthehnjbdkjnlpaaGreatDoor
