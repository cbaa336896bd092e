/- The laws of chapter 9 (file), walked over the given program; no condition but what stands in each theorem: part D. -/
import Derived.Test.YthjcekfehicjhabDoorRC
set_option linter.unusedVariables false
set_option linter.unusedSimpArgs false
set_option maxRecDepth 100000
set_option maxHeartbeats 8000000
namespace Go.Proofs.YthjcekfehicjhabDoor
open Go Go.Sl Go.RowKit Go.Extern.Stop Go.Stop Go.Extern
theorem spl_cat {l t : List UInt8} {i j : Nat} {A1 A2 A3 : Option Addr} {c1 c2 c3 : Nat} : catL [⟨A1, c1, l.take i⟩, ⟨A2, c2, t⟩, ⟨A3, c3, l.drop j⟩] = l.take i ++ t ++ l.drop j := by simp [catL]
theorem spl_sum {l t : List UInt8} {i j : Nat} {A1 A2 A3 : Option Addr} {c1 c2 c3 : Nat} (hi : i ≤ l.length) (hj : j ≤ l.length) : sumL [⟨A1, c1, l.take i⟩, ⟨A2, c2, t⟩, ⟨A3, c3, l.drop j⟩] = i + t.length + (l.length - j) := by
  simp only [sumL, List.length_take, List.length_drop]; omega
theorem parts_ (B : Option Addr) (d : Nat) (ps : List Part) : Con Tryd.prog 21 [.slice B ps.length d] [] [] (fun v L' I' => ∃ k : Nat, v = .func (.func 23) #[] #[.pointer (some ⟨k, 0, none⟩)] ∧ L' = [pt k [.slice B ps.length d] 50] ∧ I' = []) := by
  refine fn_of Tryd.func21 rfl Tryd.ntmps21 (by kernel_rfl) rfl (fun C => ?_)
  refine c_seq ?_
  refine c_region ?_
  refine st rfl (o_box (cs := [.slice B ps.length d]) (T := 50) rfl rfl rfl rfl (fun _ => by kernel_rfl) (fun b1 => ?_))
  refine st rfl (o_y (v := .nilFunc) (y_as rfl) rfl rfl rfl ?_)
  refine s_nil ?_
  refine q_then ?_
  refine c_seq ?_
  refine c_region ?_
  refine st rfl (o_y (v := .func (.func 23) #[] #[.pointer (some ⟨b1, 0, none⟩)]) (y_k rfl rfl (fun _ => by kernel_rfl)) rfl rfl rfl ?_)
  refine st rfl (o_y (v := .func (.func 23) #[] #[.pointer (some ⟨b1, 0, none⟩)]) (y_as rfl) rfl rfl rfl ?_)
  refine s_nil ?_
  refine q_then ?_
  refine c_ret ?_
  refine c_fin (I' := []) [0] [] rfl (.tmp rfl .nil) rfl rfl rfl ?_
  exact ⟨b1, rfl, rfl, rfl⟩
theorem parts1_ (k : Nat) (B : Option Addr) (d : Nat) (ps : List Part) (hs : sumL ps ≤ 1000000) (hn : ps.length ≤ 1000) : It Tryd.prog 23 [.pointer (some ⟨k, 0, none⟩)] [pt k [.slice B ps.length d] 50] [rd partTy B d ps] ((fitL 0 ps).map fun y => [.slice y.A y.l.length y.c]) (fun L1 => L1 = [pt k [.slice B ps.length d] 50]) := by
  intro lp SS XX L0 I0 h0a hY
  refine fn_of Tryd.func23 rfl Tryd.ntmps23 (by kernel_rfl) rfl (fun C => ?_)
  refine c_scope0 ?_
  refine c_seq ?_
  refine c_region ?_
  refine st rfl (o_y (v := .int .i64 0) (y_as rfl) rfl rfl rfl ?_)
  refine s_nil ?_
  refine q_then ?_
  refine c_seq ?_
  refine c_label ?_
  refine q_then ?_
  refine c_seq ?_
  refine c_region ?_
  refine st rfl (o_ld 0 rfl rfl rfl Tryd.underlying50 rfl rfl ?_)
  refine st rfl (o_y (v := .int .i64 (ps.length : Int)) (y_k rfl rfl (fun _ => by kernel_rfl)) rfl rfl rfl ?_)
  refine st rfl (o_y (v := .int .i64 0) (y_mv rfl) rfl rfl rfl ?_)
  refine s_nil ?_
  refine q_then ?_
  refine c_block ?_
  refine c_loop (ι := Nat × (List Atom) × (List Atom)) (fun (ka, Lx, Ix) => (ka ≤ ps.length) ∧ (fitL 0 ps = ps.take ka ++ fitL (sumL (ps.take ka)) (ps.drop ka)) ∧ (SS ka Lx Ix)) (fun (ka, Lx, Ix) => [(0, .func (.yield lp) #[] #[]), (3, .int .i64 (sumL (ps.take ka) : Int)), (6, .slice B ps.length d), (7, .int .i64 (ps.length : Int)), (8, .int .i64 (ka : Int))]) (fun (ka, Lx, Ix) => ([pt k [.slice B ps.length d] 50] ++ Lx)) (fun (ka, Lx, Ix) => ([rd partTy B d ps] ++ Ix ++ I0)) (fun (ka, Lx, Ix) => ps.length - ka) (0, L0, I0) (show (0 ≤ ps.length) ∧ (fitL 0 ps = ps.take 0 ++ fitL (sumL (ps.take 0)) (ps.drop 0)) ∧ (SS 0 L0 I0) from ⟨by first | omega | simp_all | (simp; done), by simp [sumL], h0a⟩) ((.cons rfl rfl (.cons rfl (show (.int .i64 0 : Value) = .int .i64 (sumL (ps.take 0) : Int) from by first | rfl | (congr 1; omega) | (congr 1; simp; done) | (congr 1; simp; omega)) (.cons rfl rfl (.cons rfl rfl (.cons rfl rfl .nil)))))) rfl (by intro φ hφ; simp only [List.mem_append, List.mem_cons, List.not_mem_nil, or_false, false_or] at hφ ⊢; grind) ?_
  rintro ⟨ka, Lx, Ix⟩ ⟨hk, hF, hS⟩
  show Ent 25 C [(0, .func (.yield lp) #[] #[]), (3, .int .i64 (sumL (ps.take ka) : Int)), (6, .slice B ps.length d), (7, .int .i64 (ps.length : Int)), (8, .int .i64 (ka : Int))] [] ([pt k [.slice B ps.length d] 50] ++ Lx) ([rd partTy B d ps] ++ Ix ++ I0) _
  refine c_seq ?_
  refine c_region ?_
  refine e_by ((ka : Int) < (ps.length : Int)) (fun h1 => ?_) (fun h1 => ?_)
  ·
    refine st rfl (o_y (v := .bool true) (y_t (y_k (v := .bool (decide ((ka : Int) < (ps.length : Int)))) rfl rfl (fun _ => by kernel_rfl)) h1) rfl rfl rfl ?_)
    refine s_nil ?_
    refine q_then ?_
    refine c_seq ?_
    refine c_true rfl ?_
    refine c_skip ?_
    refine q_then ?_
    refine c_seq ?_
    refine c_block ?_
    refine c_seq ?_
    refine c_region ?_
    refine e_at 0 ka rfl (by first | omega | (simp only [List.length_append, List.length_map, List.length_take, List.length_drop]; omega)) (fun b1 o1 x1 hA1 hx1 => ?_)
    refine st rfl (o_y (v := .pointer (some ⟨b1, o1 + ka * 1, none⟩)) (y_at (d := partTy) (l := ps) ka hA1 rfl rfl rfl (rfl) (List.getElem?_eq_some_iff.1 hx1).1 Tryd.underlying50 (by kernel_rfl) (by kernel_rfl)) rfl rfl rfl ?_)
    refine st rfl (o_ldf 0 0 rfl rfl rfl Tryd.underlying38 rfl rfl ?_)
    refine st rfl (o_y (v := .slice x1.A x1.l.length x1.c) (y_as rfl) rfl rfl rfl ?_)
    refine s_nil ?_
    refine q_then ?_
    refine c_seq ?_
    refine c_region ?_
    refine st rfl (o_y (v := .int .i64 (sumL (ps.take ka) : Int)) (y_mv rfl) rfl rfl rfl ?_)
    refine st rfl (o_y (v := .slice x1.A x1.l.length x1.c) (y_mv rfl) rfl rfl rfl ?_)
    refine st rfl (o_y (v := .int .i64 (x1.l.length : Int)) (y_k rfl rfl (fun _ => by kernel_rfl)) rfl rfl rfl ?_)
    refine st rfl (o_y (v := .int .i64 ((sumL (ps.take ka) : Int) + (x1.l.length : Int))) (y_add (r := (sumL (ps.take ka) : Int) + (x1.l.length : Int)) rfl rfl rfl (by have h1 := sumL_take ps ka; have h2 := sumL_step hx1; have h3 := sumL_take ps (ka + 1); omega)) rfl rfl rfl ?_)
    refine st rfl (o_y (v := .int .i64 ((sumL (ps.take ka) : Int) + (x1.l.length : Int))) (y_as rfl) rfl rfl rfl ?_)
    refine s_nil ?_
    refine q_then ?_
    refine c_seq ?_
    refine c_region ?_
    refine st rfl (o_y (v := .int .i64 ((sumL (ps.take ka) : Int) + (x1.l.length : Int))) (y_mv rfl) rfl rfl rfl ?_)
    refine e_by ((sumL (ps.take ka) : Int) + (x1.l.length : Int) > 1000) (fun h2 => ?_) (fun h2 => ?_)
    ·
      refine st rfl (o_y (v := .bool true) (y_t (y_k (v := .bool (decide ((sumL (ps.take ka) : Int) + (x1.l.length : Int) > 1000))) rfl rfl (fun _ => by kernel_rfl)) h2) rfl rfl rfl ?_)
      refine st rfl (o_y (v := .bool true) (y_mv rfl) rfl rfl rfl ?_)
      refine st_off 18 rfl rfl rfl rfl rfl rfl ?_
      refine st_off 18 rfl rfl rfl rfl rfl rfl ?_
      refine st_off 18 rfl rfl rfl rfl rfl rfl ?_
      refine st_off 18 rfl rfl rfl rfl rfl rfl ?_
      refine st rfl (o_y (v := .bool true) (y_pick rfl rfl) rfl rfl rfl ?_)
      refine s_nil ?_
      refine q_then ?_
      refine c_true rfl ?_
      refine c_exit ?_
      refine q_block_exit rfl ?_
      refine q_then_exit ?_
      refine q_then_exit ?_
      refine q_block_here ?_
      refine q_nj ?_
      refine c_fin_it (I' := Ix) rfl rfl (by intro φ hφ; simp only [List.mem_append, List.mem_cons, List.not_mem_nil, or_false, false_or] at hφ ⊢; grind) ⟨_, Lx, rfl, rfl, ?_⟩
      left; rw [List.length_map]; first | (rw [fit_end hF (by omega)]; exact hS) | (rw [fit_stop hF hx1 (by omega)]; exact hS)
    ·
      refine st rfl (o_y (v := .bool false) (y_f (y_k (v := .bool (decide ((sumL (ps.take ka) : Int) + (x1.l.length : Int) > 1000))) rfl rfl (fun _ => by kernel_rfl)) h2) rfl rfl rfl ?_)
      refine st rfl (o_y (v := .bool false) (y_mv rfl) rfl rfl rfl ?_)
      refine st_on 18 rfl rfl rfl (o_y (v := .func (.yield lp) #[] #[]) (y_mv rfl) rfl rfl rfl ?_)
      refine st_on 18 rfl rfl rfl (o_y (v := .slice x1.A x1.l.length x1.c) (y_mv rfl) rfl rfl rfl ?_)
      refine st_on 18 rfl rfl rfl (o_yield [pt k [.slice B ps.length d] 50] Lx Ix (hY ka _ _ _ (by rw [List.getElem?_map, fit_at hF hx1 (by omega)]; rfl) hS) rfl rfl rfl (by intro φ hφ; simp only [List.mem_append, List.mem_cons, List.not_mem_nil, or_false, false_or] at hφ ⊢; grind) rfl (fun bb1 Ly1 Iy1 hq1 => ?_))
      rcases hq1 with ⟨rfl, hq1⟩ | ⟨rfl, hq1⟩
      ·
        refine st_on 18 rfl rfl rfl (o_y (v := .bool false) (y_k rfl rfl (fun _ => by kernel_rfl)) rfl rfl rfl ?_)
        refine st rfl (o_y (v := .bool false) (y_pick rfl rfl) rfl rfl rfl ?_)
        refine s_nil ?_
        refine q_then ?_
        refine c_false rfl ?_
        refine c_skip ?_
        refine q_block ?_
        refine q_then ?_
        refine c_region ?_
        refine st rfl (o_y (v := .int .i64 ((ka : Int) + 1)) (y_add (r := (ka : Int) + 1) rfl rfl rfl (by have h1 := sumL_take ps ka; have h2 := sumL_step hx1; have h3 := sumL_take ps (ka + 1); omega)) rfl rfl rfl ?_)
        refine st rfl (o_y (v := .int .i64 ((ka : Int) + 1)) (y_mv rfl) rfl rfl rfl ?_)
        refine s_nil ?_
        refine q_then ?_
        have hq2 := sumL_step hx1
        refine c_again (ka + 1, Ly1, Iy1) ?_ ?_ ?_ (by rfl) (by intro φ hφ; simp only [List.mem_append, List.mem_cons, List.not_mem_nil, or_false, false_or] at hφ ⊢; grind)
        · exact (show ((ka + 1) ≤ ps.length) ∧ (fitL 0 ps = ps.take (ka + 1) ++ fitL (sumL (ps.take (ka + 1))) (ps.drop (ka + 1))) ∧ (SS (ka + 1) Ly1 Iy1) from ⟨by first | omega | simp_all | (simp; done), fit_step hF hx1 (by omega), hq1⟩)
        · show ps.length - (ka + 1) < ps.length - ka; omega
        · exact (.cons rfl rfl (.cons rfl (show (.int .i64 ((sumL (ps.take ka) : Int) + (x1.l.length : Int)) : Value) = .int .i64 (sumL (ps.take (ka + 1)) : Int) from by first | rfl | (congr 1; omega) | (congr 1; simp; done) | (congr 1; simp; omega)) (.cons rfl rfl (.cons rfl rfl (.cons rfl (show (.int .i64 ((ka : Int) + 1) : Value) = .int .i64 ((ka + 1) : Int) from by first | rfl | (congr 1; omega) | (congr 1; simp; done) | (congr 1; simp; omega)) .nil)))))
      ·
        refine st_on 18 rfl rfl rfl (o_y (v := .bool true) (y_k rfl rfl (fun _ => by kernel_rfl)) rfl rfl rfl ?_)
        refine st rfl (o_y (v := .bool true) (y_pick rfl rfl) rfl rfl rfl ?_)
        refine s_nil ?_
        refine q_then ?_
        refine c_true rfl ?_
        refine c_exit ?_
        refine q_block_exit rfl ?_
        refine q_then_exit ?_
        refine q_then_exit ?_
        refine q_block_here ?_
        refine q_nj ?_
        refine c_fin_it (I' := Iy1) rfl rfl (by intro φ hφ; simp only [List.mem_append, List.mem_cons, List.not_mem_nil, or_false, false_or] at hφ ⊢; grind) ⟨_, Ly1, rfl, rfl, ?_⟩
        exact .inr ⟨ka, by rw [List.length_map]; exact (List.getElem?_eq_some_iff.1 (fit_at hF hx1 (by omega))).1, hq1⟩
  ·
    refine st rfl (o_y (v := .bool false) (y_f (y_k (v := .bool (decide ((ka : Int) < (ps.length : Int)))) rfl rfl (fun _ => by kernel_rfl)) h1) rfl rfl rfl ?_)
    refine s_nil ?_
    refine q_then ?_
    refine c_seq ?_
    refine c_false rfl ?_
    refine c_exit ?_
    refine q_then_exit ?_
    refine q_then_exit ?_
    refine q_block_here ?_
    refine q_nj ?_
    refine c_fin_it (I' := Ix) rfl rfl (by intro φ hφ; simp only [List.mem_append, List.mem_cons, List.not_mem_nil, or_false, false_or] at hφ ⊢; grind) ⟨_, Lx, rfl, rfl, ?_⟩
    left; rw [List.length_map]; first | (rw [fit_end hF (by omega)]; exact hS) | (rw [fit_stop hF hx1 (by omega)]; exact hS)
theorem set_len {ps : List Part} {k : Nat} {o : List UInt8} (ho : o = catL ((fitL 0 ps).take k)) : o.length ≤ sumL ps := by
  have h1 := sumL_take (fitL 0 ps) k
  have h2 := fit_sum ps 0 (by omega)
  rw [ho, catL_len]
  by_cases h : sumL ps ≤ 1000
  · rw [fit_all ps 0 (by omega)] at h1 ⊢; exact h1
  · omega
theorem set_ok {ps : List Part} {o : List UInt8} {q : Nat} (ho : o = catL ((fitL 0 ps).take (fitL 0 ps).length)) (hq : ps.length ≤ q) (h : (o.length : Int) = (sumL (ps.take q) : Int)) : sumL ps ≤ 1000 ∧ o = catL ps := by
  rw [List.take_length] at ho
  rw [List.take_of_length_le hq] at h
  have h1 := (fit_iff ps).1 (by rw [← catL_len, ← ho]; omega)
  exact ⟨h1, by rw [ho, fit_all ps 0 (by omega)]⟩
theorem set_no {ps : List Part} {o : List UInt8} {q : Nat} (ho : o = catL ((fitL 0 ps).take (fitL 0 ps).length)) (hq : ps.length ≤ q) (h : ¬ (o.length : Int) = (sumL (ps.take q) : Int)) : ¬ sumL ps ≤ 1000 := fun hh => by
  rw [List.take_length, fit_all ps 0 (by omega)] at ho
  rw [List.take_of_length_le hq, ho, catL_len] at h
  exact h rfl
theorem set_ (b : Nat) (A : Option Addr) (c : Nat) (l : List UInt8) (B : Option Addr) (d : Nat) (ps : List Part) (hs : sumL ps ≤ 1000000) (hn : ps.length ≤ 1000) : Con Tryd.prog 19 [.pointer (some ⟨b, 0, none⟩), .slice B ps.length d] [pt b [.slice A l.length c, .nilIface] 44] [rd partTy B d ps, rds ps] (fun v L' I' => (∃ A1 : Option Addr, ∃ c1 : Nat, (sumL ps ≤ 1000) ∧ v = .tuple #[] ∧ L' = [pt b [.slice A1 (catL ps).length c1, .nilIface] 44, ars u8Ty 5 A1 c1 (catL ps)] ∧ I' = []) ∨ (∃ A1 : Option Addr, ∃ c1 : Nat, ∃ l1 : List UInt8, (¬ (sumL ps ≤ 1000)) ∧ v = .tuple #[] ∧ L' = [pt b [.slice A1 l1.length c1, .iface 49 (.agg #[])] 44] ∧ I' = [])) := by
  refine fn_of Tryd.func19 rfl Tryd.ntmps19 (by kernel_rfl) rfl (fun C => ?_)
  refine c_seq ?_
  refine c_region ?_
  refine st rfl (o_box (cs := [.slice none 0 0]) (T := 38) rfl rfl rfl rfl (fun _ => by kernel_rfl) (fun b1 => ?_))
  refine s_nil ?_
  refine q_then ?_
  refine c_seq ?_
  refine c_region ?_
  refine st rfl (o_y (v := .int .i64 0) (y_as rfl) rfl rfl rfl ?_)
  refine s_nil ?_
  refine q_then ?_
  refine c_seq ?_
  refine c_seq ?_
  refine c_region ?_
  refine st rfl (o_y (v := .slice B ps.length d) (y_mv rfl) rfl rfl rfl ?_)
  refine st rfl (o_call [] [] (parts_ B d ps) rfl rfl rfl rfl rfl rfl (fun v L' I' hq1 => ?_))
  obtain ⟨k1, rfl, rfl, rfl⟩ := hq1
  refine s_nil ?_
  refine q_then ?_
  refine c_block ?_
  refine e_nil u8Ty 5 ?_
  refine c_range (xs := (fitL 0 ps).map fun y => [.slice y.A y.l.length y.c]) (fun k L I => ∃ o : List UInt8, ∃ Ao : Option Addr, ∃ co : Nat, (o = catL ((fitL 0 ps).take k)) ∧ L = [pt b1 [.slice Ao o.length co] 38, ars u8Ty 5 Ao co o] ∧ I = [rds ps]) (fun _ _ _ _ => False) [1, 1, 0] [0, 1] (parts1_ k1 B d ps hs hn) rfl rfl rfl ⟨([] : List UInt8), none, 0, by simp [catL], rfl, rfl⟩ (by intro x hx; simp only [List.mem_map] at hx; obtain ⟨_, _, rfl⟩ := hx; rfl) rfl (fun C1 lp1 r1 k2 x1 Lx1 Ix1 hx1 hS1 => ?_) (fun bD1 La1 Lb1 Ib1 hf1 hS1 => ?_) (fun bD1 k2 cc La1 Lb1 Ib1 hk hf1 hX => ?_)
  ·
    obtain ⟨y1, hy1, rfl⟩ : ∃ y, (fitL 0 ps)[k2]? = some y ∧ [.slice y.A y.l.length y.c] = x1 := by simpa using hx1
    obtain ⟨o1, Ao1, co1, h1, rfl, rfl⟩ := hS1
    refine Ent.env (e' := [(0, .pointer (some ⟨b, 0, none⟩)), (1, .slice B ps.length d), (4, .pointer (some ⟨b1, 0, none⟩)), (5, .int .i64 0), (9, .slice B ps.length d), (10, .func (.func 23) #[] #[.pointer (some ⟨k1, 0, none⟩)]), (11, .slice y1.A y1.l.length y1.c)]) (.cons rfl rfl (.cons rfl rfl (.cons rfl rfl (.cons rfl rfl (.cons rfl rfl (.cons rfl rfl (.cons rfl rfl .nil))))))) ?_
    refine c_region ?_
    refine st rfl (o_y (v := .slice y1.A y1.l.length y1.c) (y_as rfl) rfl rfl rfl ?_)
    refine s_nil ?_
    refine q_then ?_
    refine r_begin 0 rfl ?_
    refine c_block ?_
    refine c_region ?_
    refine st rfl (o_ld 1 rfl rfl rfl Tryd.underlying38 rfl rfl ?_)
    refine st rfl (o_y (v := .slice y1.A y1.l.length y1.c) (y_mv rfl) rfl rfl rfl ?_)
    refine e_rds 0 rfl (fit_sub _ _ _ (List.mem_of_getElem? hy1)) ?_
    refine st rfl (o_app (l := o1) (us := y1.l) 2 rfl rfl rfl rfl rfl (src_rd 0 rfl) Tryd.underlying38 (elem_of (z := .int .u8 0) (sz := 1) (bytes := 1) (by kernel_rfl) rfl) rfl (by have h1 := set_len (ps := ps) (by assumption); have h2 := sumL_step hy1; have h3 := sumL_take (fitL 0 ps) (k2 + 1); have h4 := fit_sum ps 0 (by omega); omega) rfl rfl (fun A1 c1 => ?_))
    refine st rfl (o_st 1 rfl rfl rfl rfl rfl (by kernel_rfl) (by kernel_rfl) rfl ?_)
    refine s_nil ?_
    refine q_block ?_
    refine r_end 0 [0, 0] [1] rfl rfl rfl ⟨(o1 ++ y1.l), A1, c1, by first | exact catL_step' (by assumption) hy1 | simp_all, rfl, rfl⟩
  ·
    obtain rfl := hf1
    rw [List.length_map] at hS1
    obtain ⟨o2, Ao2, co2, h2, rfl, rfl⟩ := hS1
    refine Ent.env (e' := [(0, .pointer (some ⟨b, 0, none⟩)), (1, .slice B ps.length d), (4, .pointer (some ⟨b1, 0, none⟩)), (5, .int .i64 0), (9, .slice B ps.length d), (10, .func (.func 23) #[] #[.pointer (some ⟨k1, 0, none⟩)])]) (.cons rfl rfl (.cons rfl rfl (.cons rfl rfl (.cons rfl rfl (.cons rfl rfl (.cons rfl rfl .nil)))))) ?_
    refine q_block ?_
    refine q_then ?_
    refine c_seq ?_
    refine c_seq ?_
    refine c_region ?_
    refine st rfl (o_y (v := .slice B ps.length d) (y_mv rfl) rfl rfl rfl ?_)
    refine st rfl (o_y (v := .int .i64 (ps.length : Int)) (y_k rfl rfl (fun _ => by kernel_rfl)) rfl rfl rfl ?_)
    refine st rfl (o_y (v := .int .i64 0) (y_mv rfl) rfl rfl rfl ?_)
    refine s_nil ?_
    refine q_then ?_
    refine c_block ?_
    refine c_loopn (ι := Nat) (fun q => (q ≤ ps.length)) (fun q => [(0, .pointer (some ⟨b, 0, none⟩)), (4, .pointer (some ⟨b1, 0, none⟩)), (5, .int .i64 (sumL (ps.take q) : Int)), (15, .slice B ps.length d), (16, .int .i64 (ps.length : Int)), (17, .int .i64 (q : Int))]) (fun q => [ob bD1 (.deferred (some [])), pt k1 [.slice B ps.length d] 50, pt b1 [.slice Ao2 o2.length co2] 38, ars u8Ty 5 Ao2 co2 o2, pt b [.slice A l.length c, .nilIface] 44]) (fun q => [rds ps, rd partTy B d ps, rds ps]) (fun q => ps.length - q) (0) [0, 0, 0, 0, 0] [0, 1, 0] (show 0 ≤ ps.length from by first | omega | simp_all | (simp; done)) ((.cons rfl rfl (.cons rfl rfl (.cons rfl (show (.int .i64 0 : Value) = .int .i64 (sumL (ps.take 0) : Int) from by first | rfl | (congr 1; omega) | (congr 1; simp; done) | (congr 1; simp; omega)) (.cons rfl rfl (.cons rfl rfl (.cons rfl rfl .nil))))))) rfl rfl ?_
    rintro q hq
    show Ent 38 C [(0, .pointer (some ⟨b, 0, none⟩)), (4, .pointer (some ⟨b1, 0, none⟩)), (5, .int .i64 (sumL (ps.take q) : Int)), (15, .slice B ps.length d), (16, .int .i64 (ps.length : Int)), (17, .int .i64 (q : Int))] [markD bD1] [ob bD1 (.deferred (some [])), pt k1 [.slice B ps.length d] 50, pt b1 [.slice Ao2 o2.length co2] 38, ars u8Ty 5 Ao2 co2 o2, pt b [.slice A l.length c, .nilIface] 44] [rds ps, rd partTy B d ps, rds ps] _
    refine c_seq ?_
    refine c_region ?_
    refine e_by ((q : Int) < (ps.length : Int)) (fun h3 => ?_) (fun h3 => ?_)
    ·
      refine st rfl (o_y (v := .bool true) (y_t (y_k (v := .bool (decide ((q : Int) < (ps.length : Int)))) rfl rfl (fun _ => by kernel_rfl)) h3) rfl rfl rfl ?_)
      refine s_nil ?_
      refine q_then ?_
      refine c_seq ?_
      refine c_true rfl ?_
      refine c_skip ?_
      refine q_then ?_
      refine c_seq ?_
      refine c_block ?_
      refine c_seq ?_
      refine c_region ?_
      refine e_at 1 q rfl (by first | omega | (simp only [List.length_append, List.length_map, List.length_take, List.length_drop]; omega)) (fun b2 o3 x2 hA1 hx2 => ?_)
      refine st rfl (o_y (v := .pointer (some ⟨b2, o3 + q * 1, none⟩)) (y_at (d := partTy) (l := ps) q hA1 rfl rfl rfl (rfl) (List.getElem?_eq_some_iff.1 hx2).1 Tryd.underlying50 (by kernel_rfl) (by kernel_rfl)) rfl rfl rfl ?_)
      refine st rfl (o_ldf 0 0 rfl rfl rfl Tryd.underlying38 rfl rfl ?_)
      refine st rfl (o_y (v := .slice x2.A x2.l.length x2.c) (y_as rfl) rfl rfl rfl ?_)
      refine s_nil ?_
      refine q_then ?_
      refine c_region ?_
      refine st rfl (o_y (v := .int .i64 (sumL (ps.take q) : Int)) (y_mv rfl) rfl rfl rfl ?_)
      refine st rfl (o_y (v := .slice x2.A x2.l.length x2.c) (y_mv rfl) rfl rfl rfl ?_)
      refine st rfl (o_y (v := .int .i64 (x2.l.length : Int)) (y_k rfl rfl (fun _ => by kernel_rfl)) rfl rfl rfl ?_)
      refine st rfl (o_y (v := .int .i64 ((sumL (ps.take q) : Int) + (x2.l.length : Int))) (y_add (r := (sumL (ps.take q) : Int) + (x2.l.length : Int)) rfl rfl rfl (by have h1 := sumL_take ps q; have h2 := sumL_step (by assumption : ps[q]? = some _); have h3 := sumL_take ps (q + 1); omega)) rfl rfl rfl ?_)
      refine st rfl (o_y (v := .int .i64 ((sumL (ps.take q) : Int) + (x2.l.length : Int))) (y_as rfl) rfl rfl rfl ?_)
      refine s_nil ?_
      refine q_block ?_
      refine q_then ?_
      refine c_region ?_
      refine st rfl (o_y (v := .int .i64 ((q : Int) + 1)) (y_add (r := (q : Int) + 1) rfl rfl rfl (by have h1 := sumL_take ps q; have h2 := sumL_step (by assumption : ps[q]? = some _); have h3 := sumL_take ps (q + 1); omega)) rfl rfl rfl ?_)
      refine st rfl (o_y (v := .int .i64 ((q : Int) + 1)) (y_mv rfl) rfl rfl rfl ?_)
      refine s_nil ?_
      refine q_then ?_
      have hq2 := sumL_step (by assumption : ps[q]? = some _)
      refine c_next [0, 0, 0, 0, 0] [1, 2, 1] (q + 1) ?_ ?_ ?_ (by rfl) (by rfl)
      · exact (show (q + 1) ≤ ps.length from by first | omega | simp_all | (simp; done))
      · show ps.length - (q + 1) < ps.length - q; omega
      · exact (.cons rfl rfl (.cons rfl rfl (.cons rfl (show (.int .i64 ((sumL (ps.take q) : Int) + (x2.l.length : Int)) : Value) = .int .i64 (sumL (ps.take (q + 1)) : Int) from by first | rfl | (congr 1; omega) | (congr 1; simp; done) | (congr 1; simp; omega)) (.cons rfl rfl (.cons rfl rfl (.cons rfl (show (.int .i64 ((q : Int) + 1) : Value) = .int .i64 ((q + 1) : Int) from by first | rfl | (congr 1; omega) | (congr 1; simp; done) | (congr 1; simp; omega)) .nil))))))
    ·
      refine st rfl (o_y (v := .bool false) (y_f (y_k (v := .bool (decide ((q : Int) < (ps.length : Int)))) rfl rfl (fun _ => by kernel_rfl)) h3) rfl rfl rfl ?_)
      refine s_nil ?_
      refine q_then ?_
      refine c_seq ?_
      refine c_false rfl ?_
      refine c_exit ?_
      refine q_then_exit ?_
      refine q_then_exit ?_
      refine q_block_here ?_
      refine q_then ?_
      refine c_seq ?_
      refine c_region ?_
      refine st rfl (o_y (v := .pointer (some ⟨b, 0, none⟩)) (y_mv rfl) rfl rfl rfl ?_)
      refine st rfl (o_ld 2 rfl rfl rfl Tryd.underlying38 rfl rfl ?_)
      refine st rfl (o_y (v := .int .i64 (o2.length : Int)) (y_k rfl rfl (fun _ => by kernel_rfl)) rfl rfl rfl ?_)
      refine st rfl (o_y (v := .int .i64 (sumL (ps.take q) : Int)) (y_mv rfl) rfl rfl rfl ?_)
      refine st rfl (o_y (v := .bool (decide ((o2.length : Int) = (sumL (ps.take q) : Int)))) (y_k rfl rfl (fun _ => by kernel_rfl)) rfl rfl rfl ?_)
      refine st rfl (o_lit (cs := [.bool (decide ((o2.length : Int) = (sumL (ps.take q) : Int)))]) (T := 4) (m := 1) rfl rfl rfl rfl (fun _ => by kernel_rfl) (fun b3 => ?_))
      refine e_calm 0 rfl ?_
      refine e_lit boolTy [decide ((o2.length : Int) = (sumL (ps.take q) : Int))] 0 rfl rfl (by simp) ?_
      refine st rfl (o_call [4] [0] (must1_ b A c l (.nilIface : Value) (some ⟨b3, 0, none⟩) 1 ((o2.length : Int) = (sumL (ps.take q) : Int))) rfl rfl rfl rfl rfl rfl (fun v L' I' hq2 => ?_))
      rcases hq2 with ⟨h4, rfl, rfl, rfl⟩ | ⟨h5, rfl, rfl, rfl⟩
      ·
        refine s_nil ?_
        refine q_then ?_
        refine c_region ?_
        refine st rfl (o_y (v := .pointer (some ⟨b, 0, none⟩)) (y_mv rfl) rfl rfl rfl ?_)
        refine st rfl (o_ld 3 rfl rfl rfl Tryd.underlying38 rfl rfl ?_)
        refine st rfl (o_y (v := .pointer (some ⟨b, 0, none⟩)) (y_k rfl rfl (fun _ => by kernel_rfl)) rfl rfl rfl ?_)
        refine st rfl (o_y (v := .pointer (some ⟨b, 0, none⟩)) (y_k rfl rfl (fun _ => by kernel_rfl)) rfl rfl rfl ?_)
        refine st rfl (o_y (v := .pointer (some ⟨b, 0, none⟩)) (y_k rfl rfl (fun _ => by kernel_rfl)) rfl rfl rfl ?_)
        refine st rfl (o_st 0 rfl rfl rfl rfl rfl (by kernel_rfl) (by kernel_rfl) rfl ?_)
        refine s_nil ?_
        obtain ⟨hz1, hz2⟩ := set_ok (ps := ps) (q := q) (o := o2) (by assumption) (by omega) (by assumption)
        subst hz2
        refine e_mark 1 rfl ?_
        refine c_fin_end (I' := []) [0, 3] [3, 4] rfl .nil rfl rfl rfl ?_
        exact .inl ⟨Ao2, co2, hz1, rfl, rfl, rfl⟩
      ·
        refine s_nil ?_
        refine q_then ?_
        refine c_region ?_
        refine st rfl (o_y (v := .pointer (some ⟨b, 0, none⟩)) (y_mv rfl) rfl rfl rfl ?_)
        refine st rfl (o_ld 3 rfl rfl rfl Tryd.underlying38 rfl rfl ?_)
        refine st rfl (o_y (v := .pointer (some ⟨b, 0, none⟩)) (y_k rfl rfl (fun _ => by kernel_rfl)) rfl rfl rfl ?_)
        refine st rfl (o_y (v := .pointer (some ⟨b, 0, none⟩)) (y_k rfl rfl (fun _ => by kernel_rfl)) rfl rfl rfl ?_)
        refine st rfl (o_y (v := .pointer (some ⟨b, 0, none⟩)) (y_k rfl rfl (fun _ => by kernel_rfl)) rfl rfl rfl ?_)
        refine st rfl (o_st 0 rfl rfl rfl rfl rfl (by kernel_rfl) (by kernel_rfl) rfl ?_)
        refine s_nil ?_
        refine e_mark 1 rfl ?_
        refine c_fin_end (I' := []) [0] [3, 4] rfl .nil rfl rfl rfl ?_
        exact .inr ⟨Ao2, co2, o2, set_no (ps := ps) (q := q) (o := o2) (by assumption) (by omega) (by assumption), rfl, rfl, rfl⟩
  ·
    exact hX.elim
end Go.Proofs.YthjcekfehicjhabDoor
