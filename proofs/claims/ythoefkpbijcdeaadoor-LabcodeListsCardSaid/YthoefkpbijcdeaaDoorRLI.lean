/- The laws of chapter 4 (labcode), walked over the given program; no condition but what stands in each theorem: part LI. -/
import Derived.Test.YthoefkpbijcdeaaDoorRLH
set_option linter.unusedVariables false
set_option linter.unusedSimpArgs false
set_option maxRecDepth 100000
set_option maxHeartbeats 8000000
namespace Go.Proofs.YthoefkpbijcdeaaDoor
open Go Go.Sl Go.RowKit Go.Extern.Stop Go.Stop Go.Extern
theorem lGetList_ (s : ByteArray) (ea : Addr) (em : Addr) (ef : Addr) (el : Addr) (h12 : ea ≠ em) (h13 : ea ≠ ef) (h23 : em ≠ ef) (hs : s.size ≤ 100000) : Con Tryd.prog 16 [.string s] [] [cellsAt 1 0 [.iface 141 (.pointer (some ea))], cellsAt 3 0 [.iface 141 (.pointer (some em))], cellsAt 4 0 [.iface 141 (.pointer (some ef))], errAt ea, errAt em, errAt ef, cellsAt 0 0 [.iface 141 (.pointer (some el))], errAt el, cellsAt 2 0 [.iface 122 (.agg #[.pointer (some ⟨5, 46, none⟩)])]] (fun v L' I' => ∃ A1 : Option Addr, ∃ c1 : Nat, v = .tuple #[.slice A1 ((glR s).1).length c1, .int .i64 ((glR s).2)] ∧ L' = [win labTy 24 A1 c1 ((glR s).1)] ∧ I' = []) := by
  refine fn_of Tryd.func16 rfl Tryd.ntmps16 (by kernel_rfl) rfl (fun C => ?_)
  refine c_seq ?_
  refine c_region ?_
  refine st rfl (o_y (v := .slice none 0 0) (y_as rfl) rfl rfl rfl ?_)
  refine st rfl (o_y (v := .int .i64 0) (y_as rfl) rfl rfl rfl ?_)
  refine s_nil ?_
  refine q_then ?_
  refine c_seq ?_
  refine c_region ?_
  refine st rfl (o_y (v := .string s) (y_mv rfl) rfl rfl rfl ?_)
  refine st rfl (o_y (v := .agg #[.string s]) (y_k rfl rfl (fun _ => by kernel_rfl)) rfl rfl rfl ?_)
  refine st rfl (o_y (v := .agg #[.string s, .nilIface]) (y_k rfl rfl (fun _ => by kernel_rfl)) rfl rfl rfl ?_)
  refine st rfl (o_box (cs := [.string s, .nilIface]) (T := 54) rfl rfl rfl rfl (fun _ => by kernel_rfl) (fun b1 => ?_))
  refine st rfl (o_y (v := .pointer (some ⟨b1, 0, none⟩)) (y_as rfl) rfl rfl rfl ?_)
  refine s_nil ?_
  refine q_then ?_
  refine c_seq ?_
  refine c_region ?_
  refine st rfl (o_box (cs := [.slice none 0 0]) (T := 34) rfl rfl rfl rfl (fun _ => by kernel_rfl) (fun b2 => ?_))
  refine s_nil ?_
  refine q_then ?_
  refine c_seq ?_
  refine c_seq ?_
  refine c_region ?_
  refine st rfl (o_y (v := .pointer (some ⟨b1, 0, none⟩)) (y_mv rfl) rfl rfl rfl ?_)
  refine st rfl (o_y (v := .pointer (some ⟨b1, 0, none⟩)) (y_mv rfl) rfl rfl rfl ?_)
  refine st rfl (o_y (v := .func (.func 28) #[.pointer (some ⟨b1, 0, none⟩)] #[]) (y_k rfl rfl (fun _ => by kernel_rfl)) rfl rfl rfl ?_)
  show Ent _ _ _ _ [pt b2 [.slice none 0 0] 34, pt b1 [.string s, ecV none] 54] _ _
  refine st rfl (o_call [] [] (labels_ b1) rfl rfl rfl rfl rfl rfl (fun v L' I' hq1 => ?_))
  obtain ⟨b3, b4, rfl, rfl, rfl⟩ := hq1
  refine s_nil ?_
  refine q_then ?_
  refine c_block ?_
  refine e_nil labTy 24 ?_
  refine c_range2 (xs := (glF s).1.map fun y => [.agg #[.int .i64 y.lv, .int .u64 (y.cs : Int), .int .i64 y.ig]]) (fun k L I => ∃ o : List Lab, ∃ Ao : Option Addr, ∃ co : Nat, (o = (glF s).1.take k) ∧ (o.length ≤ (glF s).1.length) ∧ L = [pt b2 [.slice Ao o.length co] 34, ars labTy 24 Ao co o] ∧ I = []) (fun _ _ _ _ => False) [1, 1, 2, 1, 0] [0, 1, 2, 3, 4, 5, 6, 7, 8] (labels1_ b3 b4 b1 s ea em ef el (by assumption) (by assumption) (by assumption) hs) rfl rfl rfl ⟨([] : List Lab), none, 0, by simp, Nat.zero_le _, rfl, rfl⟩ (by intro x hx; simp only [List.mem_map] at hx; obtain ⟨_, _, rfl⟩ := hx; rfl) rfl (fun C1 lp1 r1 k1 x1 Lx1 Ix1 hx1 hS1 => ?_) (fun bD1 La1 Lb1 Ib1 hf1 hS1 => ?_) (fun bD1 k1 cc La1 Lb1 Ib1 hk hf1 hX => ?_)
  ·
    obtain ⟨y1, hy1, rfl⟩ : ∃ y, ((glF s).1)[k1]? = some y ∧ [.agg #[.int .i64 y.lv, .int .u64 (y.cs : Int), .int .i64 y.ig]] = x1 := by simpa using hx1
    obtain ⟨o1, Ao1, co1, h24, h25, rfl, rfl⟩ := hS1
    refine Ent.env (e' := [(0, .string s), (2, .slice none 0 0), (3, .int .i64 0), (4, .pointer (some ⟨b1, 0, none⟩)), (5, .pointer (some ⟨b2, 0, none⟩)), (7, .string s), (8, .agg #[.string s]), (9, .agg #[.string s, .nilIface]), (10, .pointer (some ⟨b1, 0, none⟩)), (11, .pointer (some ⟨b1, 0, none⟩)), (12, .pointer (some ⟨b1, 0, none⟩)), (13, .func (.func 28) #[.pointer (some ⟨b1, 0, none⟩)] #[]), (14, .func (.func 44) #[] #[.pointer (some ⟨b3, 0, none⟩), .pointer (some ⟨b4, 0, none⟩)]), (15, .agg #[.int .i64 y1.lv, .int .u64 (y1.cs : Int), .int .i64 y1.ig])]) (.cons rfl rfl (.cons rfl rfl (.cons rfl rfl (.cons rfl rfl (.cons rfl rfl (.cons rfl rfl (.cons rfl rfl (.cons rfl rfl (.cons rfl rfl (.cons rfl rfl (.cons rfl rfl (.cons rfl rfl (.cons rfl rfl (.cons rfl rfl .nil)))))))))))))) ?_
    refine c_region ?_
    refine st rfl (o_box (cs := [.int .i64 0, .int .u64 0, .int .i64 0]) (T := 24) rfl rfl rfl rfl (fun _ => by kernel_rfl) (fun b5 => ?_))
    refine st rfl (o_st 0 rfl rfl rfl rfl rfl (by kernel_rfl) (by kernel_rfl) rfl ?_)
    refine s_nil ?_
    refine q_then ?_
    refine r_begin 1 rfl ?_
    refine c_block ?_
    refine c_region ?_
    refine st rfl (o_ld 2 rfl rfl rfl Tryd.underlying34 rfl rfl ?_)
    refine st rfl (o_ldn 0 3 rfl rfl rfl rfl Tryd.underlying24 rfl (by kernel_rfl) (by kernel_rfl) rfl ?_)
    refine st rfl (o_lit (cs := [.int .i64 y1.lv, .int .u64 (y1.cs : Int), .int .i64 y1.ig]) (T := 24) (m := 1) rfl rfl rfl rfl (fun _ => by kernel_rfl) (fun b6 => ?_))
    refine st rfl (o_app (l := o1) (us := [y1]) 4 rfl rfl rfl rfl rfl (src_pt 0 rfl) Tryd.underlying34 (elem_of (z := .agg #[.int .i64 0, .int .u64 0, .int .i64 0]) (sz := 3) (bytes := 24) (by kernel_rfl) rfl) rfl (by have h1 := gl_len _ s (Nat.le_refl _); simp only [List.length_cons, List.length_nil]; omega) rfl rfl (fun A1 c1 => ?_))
    refine st rfl (o_st 3 rfl rfl rfl rfl rfl (by kernel_rfl) (by kernel_rfl) rfl ?_)
    refine s_nil ?_
    refine q_block ?_
    refine r_end 2 [2, 2] [] rfl rfl rfl ⟨(o1 ++ [y1]), A1, c1, by rw [List.take_add_one, hy1, ← h24]; rfl, by have h2 := (List.getElem?_eq_some_iff.1 hy1).1; rw [List.length_append, h24, List.length_take]; simp only [List.length_cons, List.length_nil]; omega, rfl, rfl⟩
  ·
    obtain rfl := hf1
    rw [List.length_map] at hS1
    obtain ⟨o2, Ao2, co2, h26, h27, rfl, rfl⟩ := hS1
    refine Ent.env (e' := [(0, .string s), (2, .slice none 0 0), (3, .int .i64 0), (4, .pointer (some ⟨b1, 0, none⟩)), (5, .pointer (some ⟨b2, 0, none⟩)), (7, .string s), (8, .agg #[.string s]), (9, .agg #[.string s, .nilIface]), (10, .pointer (some ⟨b1, 0, none⟩)), (11, .pointer (some ⟨b1, 0, none⟩)), (12, .pointer (some ⟨b1, 0, none⟩)), (13, .func (.func 28) #[.pointer (some ⟨b1, 0, none⟩)] #[]), (14, .func (.func 44) #[] #[.pointer (some ⟨b3, 0, none⟩), .pointer (some ⟨b4, 0, none⟩)])]) (.cons rfl rfl (.cons rfl rfl (.cons rfl rfl (.cons rfl rfl (.cons rfl rfl (.cons rfl rfl (.cons rfl rfl (.cons rfl rfl (.cons rfl rfl (.cons rfl rfl (.cons rfl rfl (.cons rfl rfl (.cons rfl rfl .nil))))))))))))) ?_
    refine q_block ?_
    refine q_then ?_
    refine c_seq ?_
    refine c_seq ?_
    refine c_region ?_
    refine st rfl (o_y (v := .pointer (some ⟨b1, 0, none⟩)) (y_mv rfl) rfl rfl rfl ?_)
    refine st rfl (o_y (v := .pointer (some ⟨b1, 0, none⟩)) (y_k rfl rfl (fun _ => by kernel_rfl)) rfl rfl rfl ?_)
    refine st rfl (o_y (v := .pointer (some ⟨b1, 1, none⟩)) (y_k rfl rfl (fun _ => by kernel_rfl)) rfl rfl rfl ?_)
    refine st rfl (o_ld 3 rfl rfl rfl Tryd.underlying46 rfl rfl ?_)
    refine e_by ((glF s).2.2 = none) (fun h28 => ?_) (fun h28 => ?_)
    ·
      refine st rfl (o_y (v := .bool false) (y_nt (y_bin rfl rfl (fun w => ec_ne ((glF s).2.2) _ w)) h28) rfl rfl rfl ?_)
      refine s_nil ?_
      refine q_then ?_
      refine c_false rfl ?_
      refine c_skip ?_
      refine q_then ?_
      refine c_seq ?_
      refine c_region ?_
      refine st rfl (o_ld 4 rfl rfl rfl Tryd.underlying34 rfl rfl ?_)
      refine st rfl (o_y (v := .slice Ao2 o2.length co2) (y_as rfl) rfl rfl rfl ?_)
      refine st rfl (o_y (v := .int .i64 0) (y_as rfl) rfl rfl rfl ?_)
      refine s_nil ?_
      refine q_then ?_
      refine c_ret ?_
      refine e_weak 5 rfl (fun _ h => h.win) ?_
      have hp : glR s = (o2, 0) := by unfold glR; have e := h26; rw [List.take_length] at e; rw [if_pos (by assumption), ← e]
      refine e_mark 0 rfl ?_
      refine c_fin (I' := []) [5] [0, 1, 2, 3, 4, 5, 6, 7, 8] rfl (.tmp rfl (.tmp rfl .nil)) rfl rfl rfl ?_
      rw [hp]
      exact ⟨_, _, rfl, rfl, rfl⟩
    ·
      refine st rfl (o_y (v := .bool true) (y_nf (y_bin rfl rfl (fun w => ec_ne ((glF s).2.2) _ w)) h28) rfl rfl rfl ?_)
      refine s_nil ?_
      refine q_then ?_
      refine c_true rfl ?_
      refine c_seq ?_
      refine c_region ?_
      refine st rfl (o_y (v := .pointer (some ⟨b1, 0, none⟩)) (y_mv rfl) rfl rfl rfl ?_)
      refine st rfl (o_y (v := .pointer (some ⟨b1, 0, none⟩)) (y_k rfl rfl (fun _ => by kernel_rfl)) rfl rfl rfl ?_)
      refine st rfl (o_y (v := .pointer (some ⟨b1, 1, none⟩)) (y_k rfl rfl (fun _ => by kernel_rfl)) rfl rfl rfl ?_)
      refine st rfl (o_ld 3 rfl rfl rfl Tryd.underlying46 rfl rfl ?_)
      refine st rfl (o_call [] [6, 7, 8] (ltold_ec_ el ((glF s).2.2)) rfl rfl rfl rfl rfl rfl (fun v L' I' hq2 => ?_))
      obtain ⟨rfl, rfl, rfl⟩ := hq2
      refine st rfl (o_y (v := .slice none 0 0) (y_as rfl) rfl rfl rfl ?_)
      refine st rfl (o_y (v := .int .i64 (ecN ((glF s).2.2))) (y_as rfl) rfl rfl rfl ?_)
      refine s_nil ?_
      refine q_then ?_
      refine c_ret ?_
      refine q_then_ret ?_
      refine e_nil labTy 24 ?_
      refine e_weak 0 rfl (fun _ h => h.win) ?_
      have hp : glR s = ([], ecN ((glF s).2.2)) := by unfold glR; exact if_neg (by assumption)
      refine e_mark 1 rfl ?_
      refine c_fin (I' := []) [0] [0, 1, 2, 3, 4, 5, 6, 7, 8] rfl (.tmp rfl (.tmp rfl .nil)) rfl rfl rfl ?_
      rw [hp]
      exact ⟨_, _, rfl, rfl, rfl⟩
  ·
    exact hX.elim
end Go.Proofs.YthoefkpbijcdeaaDoor
