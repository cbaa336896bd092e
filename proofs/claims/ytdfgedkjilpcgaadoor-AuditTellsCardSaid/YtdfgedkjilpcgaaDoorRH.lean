/- The six laws of chapter 18 (audit), walked over the given program; no condition but what stands in each theorem: part H. -/
import Derived.Test.YtdfgedkjilpcgaaDoorRA
set_option linter.unusedVariables false
set_option linter.unusedSimpArgs false
set_option maxRecDepth 100000
set_option maxHeartbeats 8000000
namespace Go.Proofs.YtdfgedkjilpcgaaDoor
open Go Go.Sl Go.RowKit Go.Extern.Stop Go.Stop Go.Extern Go.Shelf
theorem digits_ (z : Int) : Con Tryd.prog 51 [.int .i64 z] [] [] (fun v L' I' => ∃ b : Nat, v = .func (.func 60) #[] #[.pointer (some ⟨b, 0, none⟩)] ∧ L' = [pt b [.int .i64 z] 3] ∧ I' = []) := by
  refine fn_of Tryd.func51 rfl Tryd.ntmps51 (by kernel_rfl) rfl (fun C => ?_)
  refine c_seq ?_
  refine c_region ?_
  refine st rfl (o_box (cs := [.int .i64 z]) (T := 3) rfl rfl rfl rfl (fun _ => by kernel_rfl) (fun b1 => ?_))
  refine st rfl (o_y (v := .nilFunc) (y_as rfl) rfl rfl rfl ?_)
  refine s_nil ?_
  refine q_then ?_
  refine c_seq ?_
  refine c_region ?_
  refine st rfl (o_y (v := .func (.func 60) #[] #[.pointer (some ⟨b1, 0, none⟩)]) (y_k rfl rfl (fun _ => by kernel_rfl)) rfl rfl rfl ?_)
  refine st rfl (o_y (v := .func (.func 60) #[] #[.pointer (some ⟨b1, 0, none⟩)]) (y_as rfl) rfl rfl rfl ?_)
  refine s_nil ?_
  refine q_then ?_
  refine c_ret ?_
  refine c_fin (I' := []) [0] [] rfl (.tmp rfl .nil) rfl rfl rfl ?_
  exact ⟨b1, rfl, rfl, rfl⟩
theorem digits1_ (b : Nat) (z : Int) (h0 : 0 ≤ z) (hz : z ≤ 9223372036854775807) : It Tryd.prog 60 [.pointer (some ⟨b, 0, none⟩)] [pt b [.int .i64 z] 3] [] ((rdig z.toNat).map fun y => [.int .u8 (y.toNat : Int)]) (fun L1 => ∃ y, L1 = [pt b [.int .i64 y] 3]) := by
  intro lp SS XX L0 I0 h0a hY
  refine fn_of Tryd.func60 rfl Tryd.ntmps60 (by kernel_rfl) rfl (fun C => ?_)
  refine c_scope0 ?_
  refine c_seq ?_
  refine c_label ?_
  refine q_then ?_
  refine c_block ?_
  refine c_loop (ι := Nat × Int × (List Atom) × (List Atom)) (fun (ka, q, Lx, Ix) => (0 ≤ q) ∧ (q ≤ z) ∧ ((rdig z.toNat).drop ka = rdig q.toNat) ∧ (SS ka Lx Ix)) (fun (ka, q, Lx, Ix) => [(0, .func (.yield lp) #[] #[]), (1, .pointer (some ⟨b, 0, none⟩))]) (fun (ka, q, Lx, Ix) => ([pt b [.int .i64 q] 3] ++ Lx)) (fun (ka, q, Lx, Ix) => (Ix ++ I0)) (fun (ka, q, Lx, Ix) => q.toNat) (0, z, L0, I0) (show (0 ≤ z) ∧ (z ≤ z) ∧ ((rdig z.toNat).drop 0 = rdig z.toNat) ∧ (SS 0 L0 I0) from ⟨by first | omega | simp_all | (simp; done), by first | omega | simp_all | (simp; done), rfl, h0a⟩) ((.cons rfl rfl (.cons rfl rfl .nil))) rfl (by intro φ hφ; simp only [List.mem_append, List.mem_cons, List.not_mem_nil, or_false, false_or] at hφ ⊢; grind) ?_
  rintro ⟨ka, q, Lx, Ix⟩ ⟨hz0, hz1, hm, hS⟩
  show Ent 14 C [(0, .func (.yield lp) #[] #[]), (1, .pointer (some ⟨b, 0, none⟩))] [] ([pt b [.int .i64 q] 3] ++ Lx) (Ix ++ I0) _
  refine c_block ?_
  refine c_seq ?_
  refine c_seq ?_
  refine c_region ?_
  refine st rfl (o_y (v := .func (.yield lp) #[] #[]) (y_mv rfl) rfl rfl rfl ?_)
  refine st rfl (o_ld 0 rfl rfl rfl Tryd.underlying3 rfl rfl ?_)
  refine st rfl (o_y (v := .int .i64 (q % 10)) (y_rem (r := q % 10) rfl rfl rfl (by omega)) rfl rfl rfl ?_)
  refine st rfl (o_y (v := .int .i64 (48 + (q % 10))) (y_add (r := 48 + (q % 10)) rfl rfl rfl (by omega)) rfl rfl rfl ?_)
  refine st rfl (o_y (v := .int .u8 ((u8of (48 + (q % 10))).toNat : Int)) (y_cvi (r := ((u8of (48 + (q % 10))).toNat : Int)) rfl Tryd.underlying3 Tryd.underlying5 (u8of_wrap _)) rfl rfl rfl ?_)
  refine st rfl (o_yield [pt b [.int .i64 q] 3] Lx Ix (hY ka _ _ _ (by rw [List.getElem?_map, dig_at hz0 hm]; rfl) hS) rfl rfl rfl (by intro φ hφ; simp only [List.mem_append, List.mem_cons, List.not_mem_nil, or_false, false_or] at hφ ⊢; grind) rfl (fun bb1 Ly1 Iy1 hq1 => ?_))
  rcases hq1 with ⟨rfl, hq1⟩ | ⟨rfl, hq1⟩
  ·
    refine st rfl (o_y (v := .bool false) (y_k rfl rfl (fun _ => by kernel_rfl)) rfl rfl rfl ?_)
    refine s_nil ?_
    refine q_then ?_
    refine c_false rfl ?_
    refine c_skip ?_
    refine q_then ?_
    refine c_seq ?_
    refine c_region ?_
    refine st rfl (o_ld 0 rfl rfl rfl Tryd.underlying3 rfl rfl ?_)
    refine st rfl (o_y (v := .int .i64 (q / 10)) (y_quo (r := q / 10) rfl rfl rfl (by omega)) rfl rfl rfl ?_)
    refine st rfl (o_st 0 rfl rfl rfl rfl rfl (by kernel_rfl) (by kernel_rfl) rfl ?_)
    refine s_nil ?_
    refine q_then ?_
    refine c_seq ?_
    refine c_region ?_
    refine st rfl (o_ld 0 rfl rfl rfl Tryd.underlying3 rfl rfl ?_)
    refine e_by (q / 10 = 0) (fun h1 => ?_) (fun h1 => ?_)
    ·
      refine st rfl (o_y (v := .bool true) (y_b (y_k (v := .bool ((q / 10) == 0)) rfl rfl (fun _ => by kernel_rfl)) (beq_iff_eq.2 h1)) rfl rfl rfl ?_)
      refine s_nil ?_
      refine q_then ?_
      refine c_true rfl ?_
      refine c_exit ?_
      refine q_block_exit rfl ?_
      refine q_then_exit ?_
      refine q_block_here ?_
      refine q_nj ?_
      refine c_fin_it (I' := Iy1) rfl rfl (by intro φ hφ; simp only [List.mem_append, List.mem_cons, List.not_mem_nil, or_false, false_or] at hφ ⊢; grind) ⟨_, Ly1, rfl, ⟨_, rfl⟩, ?_⟩
      left; rw [List.length_map, dig_last hz0 hm (by assumption)]; exact hq1
    ·
      refine st rfl (o_y (v := .bool false) (y_b (y_k (v := .bool ((q / 10) == 0)) rfl rfl (fun _ => by kernel_rfl)) (beq_eq_false_iff_ne.2 h1)) rfl rfl rfl ?_)
      refine s_nil ?_
      refine q_then ?_
      refine c_false rfl ?_
      refine c_skip ?_
      refine q_block ?_
      refine q_then ?_
      refine c_again (ka + 1, q / 10, Ly1, Iy1) ?_ ?_ ?_ (by rfl) (by intro φ hφ; simp only [List.mem_append, List.mem_cons, List.not_mem_nil, or_false, false_or] at hφ ⊢; grind)
      · exact (show (0 ≤ (q / 10)) ∧ ((q / 10) ≤ z) ∧ ((rdig z.toNat).drop (ka + 1) = rdig (q / 10).toNat) ∧ (SS (ka + 1) Ly1 Iy1) from ⟨by first | omega | simp_all | (simp; done), by first | omega | simp_all | (simp; done), dig_next hz0 hm (by assumption), hq1⟩)
      · show (q / 10).toNat < q.toNat; omega
      · exact (.cons rfl rfl (.cons rfl rfl .nil))
  ·
    refine st rfl (o_y (v := .bool true) (y_k rfl rfl (fun _ => by kernel_rfl)) rfl rfl rfl ?_)
    refine s_nil ?_
    refine q_then ?_
    refine c_true rfl ?_
    refine c_exit ?_
    refine q_then_exit ?_
    refine q_block_exit rfl ?_
    refine q_then_exit ?_
    refine q_block_here ?_
    refine q_nj ?_
    refine c_fin_it (I' := Iy1) rfl rfl (by intro φ hφ; simp only [List.mem_append, List.mem_cons, List.not_mem_nil, or_false, false_or] at hφ ⊢; grind) ⟨_, Ly1, rfl, ⟨_, rfl⟩, ?_⟩
    exact .inr ⟨ka, by have := dig_lt hm; simpa using this, hq1⟩
theorem Digits_ (z : Int) (hz : z ≤ 9223372036854775807) : Con Tryd.prog 35 [.int .i64 z] [] [] (fun v L' I' => v = .string (digF z) ∧ L' = [] ∧ I' = []) := by
  refine fn_of Tryd.func35 rfl Tryd.ntmps35 (by kernel_rfl) rfl (fun C => ?_)
  refine c_seq ?_
  refine c_region ?_
  refine st rfl (o_y (v := .string (⟨#[]⟩ : ByteArray)) (y_as rfl) rfl rfl rfl ?_)
  refine s_nil ?_
  refine q_then ?_
  refine c_seq ?_
  refine c_region ?_
  refine st rfl (o_box (cs := [.string (⟨#[]⟩ : ByteArray)]) (T := 9) rfl rfl rfl rfl (fun _ => by kernel_rfl) (fun b1 => ?_))
  refine st rfl (o_st 0 rfl rfl rfl rfl rfl (by kernel_rfl) (by kernel_rfl) rfl ?_)
  refine s_nil ?_
  refine q_then ?_
  refine c_seq ?_
  refine c_seq ?_
  refine c_region ?_
  refine st rfl (o_y (v := .int .i64 z) (y_mv rfl) rfl rfl rfl ?_)
  refine e_by (z < 0) (fun h1 => ?_) (fun h1 => ?_)
  ·
    refine st rfl (o_y (v := .bool true) (y_t (y_k (v := .bool (decide (z < 0))) rfl rfl (fun _ => by kernel_rfl)) h1) rfl rfl rfl ?_)
    refine s_nil ?_
    refine q_then ?_
    refine c_true rfl ?_
    refine c_seq ?_
    refine c_region ?_
    refine st rfl (o_ld 0 rfl rfl rfl Tryd.underlying9 rfl rfl ?_)
    refine st rfl (o_y (v := .string (⟨#[]⟩ : ByteArray)) (y_as rfl) rfl rfl rfl ?_)
    refine s_nil ?_
    refine q_then ?_
    refine c_ret ?_
    refine q_then_ret ?_
    refine c_fin (I' := []) [] [] rfl (.tmp rfl .nil) rfl rfl rfl ?_
    exact ⟨by first | (simp only [packed, digF]; rw [if_pos (by assumption)]) | exact congrArg Value.string (digF_end (by assumption) (by assumption)), rfl, rfl⟩
  ·
    refine st rfl (o_y (v := .bool false) (y_f (y_k (v := .bool (decide (z < 0))) rfl rfl (fun _ => by kernel_rfl)) h1) rfl rfl rfl ?_)
    refine s_nil ?_
    refine q_then ?_
    refine c_false rfl ?_
    refine c_skip ?_
    refine q_then ?_
    refine c_seq ?_
    refine c_seq ?_
    refine c_region ?_
    refine st rfl (o_y (v := .int .i64 z) (y_mv rfl) rfl rfl rfl ?_)
    refine st rfl (o_call [] [] (digits_ z) rfl rfl rfl rfl rfl rfl (fun v L' I' hq1 => ?_))
    obtain ⟨b2, rfl, rfl, rfl⟩ := hq1
    refine s_nil ?_
    refine q_then ?_
    refine c_block ?_
    refine c_range (xs := (rdig z.toNat).map fun y => [.int .u8 (y.toNat : Int)]) (fun k L I => ∃ o : ByteArray, (o = ⟨((rdig z.toNat).take k).reverse.toArray⟩) ∧ L = [pt b1 [.string o] 9] ∧ I = []) (fun _ _ _ _ => False) [0, 0] [] (digits1_ b2 z (by omega) hz) rfl rfl rfl ⟨(⟨#[]⟩ : ByteArray), by simp, rfl, rfl⟩ (by intro x hx; simp only [List.mem_map] at hx; obtain ⟨_, _, rfl⟩ := hx; rfl) rfl (fun C1 lp1 r1 k1 x1 Lx1 Ix1 hx1 hS1 => ?_) (fun bD1 La1 Lb1 Ib1 hf1 hS1 => ?_) (fun bD1 k1 cc La1 Lb1 Ib1 hk hf1 hX => ?_)
    ·
      obtain ⟨y1, hy1, rfl⟩ : ∃ y, (rdig z.toNat)[k1]? = some y ∧ [.int .u8 (y.toNat : Int)] = x1 := by simpa using hx1
      obtain ⟨o1, h2, rfl, rfl⟩ := hS1
      refine Ent.env (e' := [(0, .int .i64 z), (2, .string (⟨#[]⟩ : ByteArray)), (3, .pointer (some ⟨b1, 0, none⟩)), (5, .int .i64 z), (6, .bool false), (8, .int .i64 z), (9, .func (.func 60) #[] #[.pointer (some ⟨b2, 0, none⟩)]), (10, .int .u8 (y1.toNat : Int))]) (.cons rfl rfl (.cons rfl rfl (.cons rfl rfl (.cons rfl rfl (.cons rfl rfl (.cons rfl rfl (.cons rfl rfl (.cons rfl rfl .nil)))))))) ?_
      refine c_region ?_
      refine st rfl (o_y (v := .int .u8 (y1.toNat : Int)) (y_as rfl) rfl rfl rfl ?_)
      refine s_nil ?_
      refine q_then ?_
      refine r_begin 0 rfl ?_
      refine c_block ?_
      refine c_region ?_
      refine st rfl (o_y (v := .int .u8 (y1.toNat : Int)) (y_mv rfl) rfl rfl rfl ?_)
      refine st rfl (o_lit (cs := [.int .u8 (y1.toNat : Int)]) (T := 5) (m := 1) rfl rfl rfl rfl (fun _ => by kernel_rfl) (fun b3 => ?_))
      refine st rfl (o_b2s (l := [y1]) rfl rfl (src_pt 0 rfl) Tryd.underlying72 Tryd.underlying9 Tryd.underlying5 rfl ?_)
      refine st rfl (o_ld 2 rfl rfl rfl Tryd.underlying9 rfl rfl ?_)
      refine st rfl (o_y (v := .string ((⟨List.toArray [y1]⟩ : ByteArray) ++ o1)) (y_cat (s := (⟨List.toArray [y1]⟩ : ByteArray)) (u := o1) rfl rfl (by exact dig_small hz (by assumption) _)) rfl rfl rfl ?_)
      refine st rfl (o_st 2 rfl rfl rfl rfl rfl (by kernel_rfl) (by kernel_rfl) rfl ?_)
      refine s_nil ?_
      refine q_block ?_
      refine r_end 1 [1] [] rfl rfl rfl ⟨((⟨List.toArray [y1]⟩ : ByteArray) ++ o1), dig_pre hy1 (by assumption), rfl, rfl⟩
    ·
      obtain ⟨zz, rfl⟩ := hf1
      rw [List.length_map] at hS1
      obtain ⟨o2, h3, rfl, rfl⟩ := hS1
      refine Ent.env (e' := [(0, .int .i64 z), (2, .string (⟨#[]⟩ : ByteArray)), (3, .pointer (some ⟨b1, 0, none⟩)), (5, .int .i64 z), (6, .bool false), (8, .int .i64 z), (9, .func (.func 60) #[] #[.pointer (some ⟨b2, 0, none⟩)])]) (.cons rfl rfl (.cons rfl rfl (.cons rfl rfl (.cons rfl rfl (.cons rfl rfl (.cons rfl rfl (.cons rfl rfl .nil))))))) ?_
      refine q_block ?_
      refine q_then ?_
      refine c_seq ?_
      refine c_region ?_
      refine st rfl (o_ld 2 rfl rfl rfl Tryd.underlying9 rfl rfl ?_)
      refine st rfl (o_y (v := .string o2) (y_as rfl) rfl rfl rfl ?_)
      refine s_nil ?_
      refine q_then ?_
      refine c_ret ?_
      refine e_mark 0 rfl ?_
      refine c_fin (I' := []) [] [] rfl (.tmp rfl .nil) rfl rfl rfl ?_
      exact ⟨by first | (simp only [packed, digF]; rw [if_pos (by assumption)]) | exact congrArg Value.string (digF_end (by assumption) (by assumption)), rfl, rfl⟩
    ·
      exact hX.elim
theorem rDigits_ (z : Int) (hz : z ≤ 9223372036854775807) : Con Tryd.prog 44 [.int .i64 z] [] [] (fun v L' I' => v = .string (digF z) ∧ L' = [] ∧ I' = []) := by
  suffices H : ∀ (N : Nat) (z : Int), z.toNat = N → z ≤ 9223372036854775807 → Con Tryd.prog 44 [.int .i64 z] [] [] (fun v L' I' => v = .string (digF z) ∧ L' = [] ∧ I' = []) from H _ z rfl hz
  clear hz z
  intro N
  induction N using Nat.strongRecOn
  rename_i N ih
  intro z hN hz
  have ih2 : ∀ (y : Int), y.toNat < N → y ≤ 9223372036854775807 → Con Tryd.prog 44 [.int .i64 y] [] [] (fun v L' I' => v = .string (digF y) ∧ L' = [] ∧ I' = []) := fun y h1 h2 => ih _ h1 y rfl h2
  refine fn_of Tryd.func44 rfl Tryd.ntmps44 (by kernel_rfl) rfl (fun C => ?_)
  refine c_seq ?_
  refine c_region ?_
  refine st rfl (o_y (v := .string (⟨#[]⟩ : ByteArray)) (y_as rfl) rfl rfl rfl ?_)
  refine s_nil ?_
  refine q_then ?_
  refine c_seq ?_
  refine c_seq ?_
  refine c_region ?_
  refine st rfl (o_y (v := .int .i64 z) (y_mv rfl) rfl rfl rfl ?_)
  refine e_by (z < 0) (fun h1 => ?_) (fun h1 => ?_)
  ·
    refine st rfl (o_y (v := .bool true) (y_t (y_k (v := .bool (decide (z < 0))) rfl rfl (fun _ => by kernel_rfl)) h1) rfl rfl rfl ?_)
    refine s_nil ?_
    refine q_then ?_
    refine c_true rfl ?_
    refine c_seq ?_
    refine c_region ?_
    refine st rfl (o_y (v := .string (⟨#[]⟩ : ByteArray)) (y_as rfl) rfl rfl rfl ?_)
    refine s_nil ?_
    refine q_then ?_
    refine c_ret ?_
    refine q_then_ret ?_
    refine c_fin (I' := []) [] [] rfl (.tmp rfl .nil) rfl rfl rfl ?_
    exact ⟨by first | (simp only [packed, digF]; rw [if_pos (by assumption)]) | (simp only [packed]; rw [digF_one (by assumption) (by assumption)]) | (simp only [packed]; rw [digF_rec (by assumption)]), rfl, rfl⟩
  ·
    refine st rfl (o_y (v := .bool false) (y_f (y_k (v := .bool (decide (z < 0))) rfl rfl (fun _ => by kernel_rfl)) h1) rfl rfl rfl ?_)
    refine s_nil ?_
    refine q_then ?_
    refine c_false rfl ?_
    refine c_skip ?_
    refine q_then ?_
    refine c_seq ?_
    refine c_seq ?_
    refine c_region ?_
    refine st rfl (o_y (v := .int .i64 z) (y_mv rfl) rfl rfl rfl ?_)
    refine e_by (z < 10) (fun h2 => ?_) (fun h2 => ?_)
    ·
      refine st rfl (o_y (v := .bool true) (y_t (y_k (v := .bool (decide (z < 10))) rfl rfl (fun _ => by kernel_rfl)) h2) rfl rfl rfl ?_)
      refine s_nil ?_
      refine q_then ?_
      refine c_true rfl ?_
      refine c_seq ?_
      refine c_region ?_
      refine st rfl (o_y (v := .int .i64 z) (y_mv rfl) rfl rfl rfl ?_)
      refine st rfl (o_y (v := .int .i64 (48 + z)) (y_add (r := 48 + z) rfl rfl rfl (by omega)) rfl rfl rfl ?_)
      refine st rfl (o_y (v := .int .u8 ((u8of (48 + z)).toNat : Int)) (y_cvi (r := ((u8of (48 + z)).toNat : Int)) rfl Tryd.underlying3 Tryd.underlying5 (u8of_wrap _)) rfl rfl rfl ?_)
      refine st rfl (o_lit (cs := [.int .u8 ((u8of (48 + z)).toNat : Int)]) (T := 5) (m := 1) rfl rfl rfl rfl (fun _ => by kernel_rfl) (fun b1 => ?_))
      refine st rfl (o_b2s (l := [u8of (48 + z)]) rfl rfl (src_pt 0 rfl) Tryd.underlying72 Tryd.underlying9 Tryd.underlying5 rfl ?_)
      refine st rfl (o_y (v := .string (⟨List.toArray [u8of (48 + z)]⟩ : ByteArray)) (y_as rfl) rfl rfl rfl ?_)
      refine s_nil ?_
      refine q_then ?_
      refine c_ret ?_
      refine q_then_ret ?_
      refine c_fin (I' := []) [] [] rfl (.tmp rfl .nil) rfl rfl rfl ?_
      exact ⟨by first | (simp only [packed, digF]; rw [if_pos (by assumption)]) | (simp only [packed]; rw [digF_one (by assumption) (by assumption)]) | (simp only [packed]; rw [digF_rec (by assumption)]), rfl, rfl⟩
    ·
      refine st rfl (o_y (v := .bool false) (y_f (y_k (v := .bool (decide (z < 10))) rfl rfl (fun _ => by kernel_rfl)) h2) rfl rfl rfl ?_)
      refine s_nil ?_
      refine q_then ?_
      refine c_false rfl ?_
      refine c_skip ?_
      refine q_then ?_
      refine c_seq ?_
      refine c_region ?_
      refine st rfl (o_y (v := .int .i64 z) (y_mv rfl) rfl rfl rfl ?_)
      refine st rfl (o_y (v := .int .i64 (z / 10)) (y_quo (r := z / 10) rfl rfl rfl (by omega)) rfl rfl rfl ?_)
      refine st rfl (o_call [] [] (ih2 (z / 10) (by omega) (by omega)) rfl rfl rfl rfl rfl rfl (fun v L' I' hq1 => ?_))
      obtain ⟨rfl, rfl, rfl⟩ := hq1
      refine st rfl (o_y (v := .int .i64 z) (y_mv rfl) rfl rfl rfl ?_)
      refine st rfl (o_y (v := .int .i64 (z % 10)) (y_rem (r := z % 10) rfl rfl rfl (by omega)) rfl rfl rfl ?_)
      refine st rfl (o_call [] [] (ih2 (z % 10) (by omega) (by omega)) rfl rfl rfl rfl rfl rfl (fun v L' I' hq2 => ?_))
      obtain ⟨rfl, rfl, rfl⟩ := hq2
      refine st rfl (o_y (v := .string ((digF (z / 10)) ++ (digF (z % 10)))) (y_cat (s := digF (z / 10)) (u := digF (z % 10)) rfl rfl (by have h1 := digF_size (z := z / 10) (by omega); have h2 := digF_size (z := z % 10) (by omega); omega)) rfl rfl rfl ?_)
      refine st rfl (o_y (v := .string ((digF (z / 10)) ++ (digF (z % 10)))) (y_as rfl) rfl rfl rfl ?_)
      refine s_nil ?_
      refine q_then ?_
      refine c_ret ?_
      refine c_fin (I' := []) [] [] rfl (.tmp rfl .nil) rfl rfl rfl ?_
      exact ⟨by first | (simp only [packed, digF]; rw [if_pos (by assumption)]) | (simp only [packed]; rw [digF_one (by assumption) (by assumption)]) | (simp only [packed]; rw [digF_rec (by assumption)]), rfl, rfl⟩
end Go.Proofs.YtdfgedkjilpcgaaDoor
