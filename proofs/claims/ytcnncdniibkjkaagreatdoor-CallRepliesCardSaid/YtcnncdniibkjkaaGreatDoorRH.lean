/- The laws of chapter 17 (call), walked over the given program; no condition but what stands in each theorem: part H. -/
import Derived.Test.YtcnncdniibkjkaaGreatDoorRG
set_option linter.unusedVariables false
set_option linter.unusedSimpArgs false
set_option maxRecDepth 100000
set_option maxHeartbeats 8000000
namespace Go.Proofs.YtcnncdniibkjkaaGreatDoor
open Go Go.Sl Go.RowKit Go.Extern.Stop Go.Stop Go.Extern
theorem put_ (w : Int) (n : Nat) (ea : Addr) (em : Addr) (ef : Addr) (hn : n < 18446744073709551616) : Con Tryz.prog 60 [.int .i64 w, .int .u64 (n : Int)] [] [cellsAt 2 0 [.iface 180 (.pointer (some ea))], cellsAt 3 0 [.iface 180 (.pointer (some em))], cellsAt 1 0 [.iface 180 (.pointer (some ef))], errAt ea, errAt em, errAt ef, cellsAt 0 0 [.iface 147 (.agg #[.pointer (some ⟨5, 48, none⟩)])]] (fun v L' I' => ((isW w) ∧ (n < 2 ^ (8 * w.toNat)) ∧ v = .tuple #[.string (beB w n), .nilIface] ∧ L' = [] ∧ I' = []) ∨ ((isW w) ∧ (¬ (n < 2 ^ (8 * w.toNat))) ∧ v = .tuple #[.string (⟨#[]⟩ : ByteArray), .iface 180 (.pointer (some ef))] ∧ L' = [] ∧ I' = []) ∨ ((¬ (isW w)) ∧ v = .tuple #[.string (⟨#[]⟩ : ByteArray), .iface 180 (.pointer (some ea))] ∧ L' = [] ∧ I' = [])) := by
 refine fn_of Tryz.func60 rfl Tryz.ntmps60 (by kernel_rfl) rfl (fun C => ?_)
 refine c_seq (c_region ?_)
 refine s_y rfl (v := .string (⟨#[]⟩ : ByteArray)) (y_as rfl) rfl ?_
 refine s_y rfl (v := .nilIface) (y_as rfl) rfl ?_
 refine s_nil (q_then (c_seq (c_region ?_)))
 refine s_y rfl (v := .int .i64 w) (y_mv rfl) rfl ?_
 refine st rfl (o_call [] [0, 1, 2, 3, 4, 5, 6] (bitsOf_ w ea em ef) rfl rfl rfl rfl rfl rfl (fun v L' I' hq1 => ?_))
 rcases hq1 with ⟨h1, rfl, rfl, rfl⟩ | ⟨h2, rfl, rfl, rfl⟩
 ·
  refine s_y rfl (v := .tuple #[.int .i64 (8 * w), .nilIface]) (y_mv rfl) rfl ?_
  refine s_y rfl (v := .int .i64 (8 * w)) (y_k rfl rfl (fun _ => by kernel_rfl)) rfl ?_
  refine s_y rfl (v := .nilIface) (y_k rfl rfl (fun _ => by kernel_rfl)) rfl ?_
  refine s_y rfl (v := .int .i64 (8 * w)) (y_as rfl) rfl ?_
  refine s_y rfl (v := .nilIface) (y_as rfl) rfl ?_
  refine s_nil (q_then (c_seq (c_seq (c_region ?_))))
  refine s_y rfl (v := .nilIface) (y_mv rfl) rfl ?_
  refine s_y rfl (v := .bool false) (y_k rfl rfl (fun _ => by kernel_rfl)) rfl ?_
  refine s_nil (q_then (c_false rfl (c_skip (q_then (c_seq (c_seq (c_region ?_)))))))
  refine s_y rfl (v := .int .u64 (n : Int)) (y_mv rfl) rfl ?_
  refine s_y rfl (v := .int .i64 (8 * w)) (y_mv rfl) rfl ?_
  refine s_y rfl (v := .int .i64 ((8 * w) - 1)) (y_sub (r := (8 * w) - 1) rfl rfl rfl (by have := isW_rng (by assumption); omega)) rfl ?_
  refine s_y rfl (v := .int .u64 ((n / 2 ^ (((8 * w) - 1).toNat) : Nat) : Int)) (y_shr (a := n) (k := ((8 * w) - 1).toNat) rfl rfl (by have := isW_rng (by assumption); omega) (by first | omega | exact Nat.lt_of_le_of_lt (Nat.div_le_self _ _) (by omega))) rfl ?_
  refine s_y rfl (v := .int .u64 (((n / 2 ^ ((8 * w) - 1).toNat) / 2 ^ 1 : Nat) : Int)) (y_shr (a := n / 2 ^ ((8 * w) - 1).toNat) (k := 1) rfl rfl rfl (by first | omega | exact Nat.lt_of_le_of_lt (Nat.div_le_self _ _) (by omega))) rfl ?_
  refine e_by ((((n / 2 ^ ((8 * w) - 1).toNat) / 2 ^ 1 : Nat) : Int) = 0) (fun h3 => ?_) (fun h3 => ?_)
  ·
   refine s_y rfl (v := .bool false) (y_nt (y_k (v := .bool (!decide ((((n / 2 ^ ((8 * w) - 1).toNat) / 2 ^ 1 : Nat) : Int) = 0))) rfl rfl (fun _ => by kernel_rfl)) h3) rfl ?_
   refine s_nil (q_then (c_false rfl (c_skip (q_then (c_seq (c_region ?_))))))
   refine st rfl (o_box (cs := [.slice none 0 0]) (T := 105) rfl rfl rfl rfl (fun _ => by kernel_rfl) (fun b1 => ?_))
   refine s_nil (q_then (c_seq (c_seq (c_region ?_))))
   refine s_y rfl (v := .int .u64 (n : Int)) (y_mv rfl) rfl ?_
   refine s_y rfl (v := .int .i64 (8 * w)) (y_mv rfl) rfl ?_
   refine st rfl (o_call [] [] (bytes_ w n) rfl rfl rfl rfl rfl rfl (fun v L' I' hq2 => ?_))
   obtain ⟨b2, b3, rfl, rfl, rfl⟩ := hq2
   refine s_nil (q_then (c_block ?_))
   refine e_nil u8Ty 5 ?_
   refine c_range (xs := (be w.toNat n).map fun y => [.int .u8 (y.toNat : Int)]) (fun k L I => ∃ o : List UInt8, ∃ A : Option Addr, ∃ c : Nat, (o = (be w.toNat n).take k) ∧ (o.length = k) ∧ L = [pt b1 [.slice A o.length c] 105, ars u8Ty 5 A c o] ∧ I = []) (fun _ _ _ _ => False) [1, 1, 1, 0] [] (bytes1_ b2 b3 w n (isW_rng (by assumption)) hn) rfl rfl rfl ⟨[], none, 0, by simp, rfl, rfl, rfl⟩ (by intro x hx; simp only [List.mem_map] at hx; obtain ⟨_, _, rfl⟩ := hx; rfl) rfl (fun C1 lp1 r1 k1 x1 Lx1 Ix1 hx1 hS1 => ?_) (fun bD1 La1 Lb1 Ib1 hf1 hS1 => ?_) (fun bD1 k1 cc La1 Lb1 Ib1 hk hf1 hX => ?_)
   ·
    obtain ⟨y1, hy1, rfl⟩ : ∃ y, (be w.toNat n)[k1]? = some y ∧ [.int .u8 (y.toNat : Int)] = x1 := by simpa using hx1
    obtain ⟨o1, A1, c1, h4, h5, rfl, rfl⟩ := hS1
    refine Ent.env (e' := [(0, .int .i64 w), (1, .int .u64 (n : Int)), (4, .string (⟨#[]⟩ : ByteArray)), (5, .nilIface), (6, .int .i64 (8 * w)), (7, .nilIface), (8, .pointer (some ⟨b1, 0, none⟩)), (10, .tuple #[.int .i64 (8 * w), .nilIface]), (11, .int .i64 w), (12, .tuple #[.int .i64 (8 * w), .nilIface]), (13, .int .i64 (8 * w)), (14, .nilIface), (15, .nilIface), (16, .bool false), (18, .int .u64 (n : Int)), (19, .int .i64 (8 * w)), (20, .int .i64 ((8 * w) - 1)), (21, .int .u64 ((n / 2 ^ (((8 * w) - 1).toNat) : Nat) : Int)), (22, .int .u64 (((n / 2 ^ ((8 * w) - 1).toNat) / 2 ^ 1 : Nat) : Int)), (23, .bool false), (25, .int .u64 (n : Int)), (26, .int .i64 (8 * w)), (27, .func (.func 98) #[] #[.pointer (some ⟨b2, 0, none⟩), .pointer (some ⟨b3, 0, none⟩)]), (28, .int .u8 (y1.toNat : Int))]) (.cons rfl rfl (.cons rfl rfl (.cons rfl rfl (.cons rfl rfl (.cons rfl rfl (.cons rfl rfl (.cons rfl rfl (.cons rfl rfl (.cons rfl rfl (.cons rfl rfl (.cons rfl rfl (.cons rfl rfl (.cons rfl rfl (.cons rfl rfl (.cons rfl rfl (.cons rfl rfl (.cons rfl rfl (.cons rfl rfl (.cons rfl rfl (.cons rfl rfl (.cons rfl rfl (.cons rfl rfl (.cons rfl rfl (.cons rfl rfl .nil)))))))))))))))))))))))) ?_
    refine c_region ?_
    refine s_y rfl (v := .int .u8 (y1.toNat : Int)) (y_as rfl) rfl ?_
    refine s_nil (q_then ?_)
    refine r_begin 0 rfl ?_
    refine c_block (c_region ?_)
    refine st rfl (o_ld 1 rfl rfl rfl Tryz.underlying105 rfl rfl ?_)
    refine s_y rfl (v := .int .u8 (y1.toNat : Int)) (y_mv rfl) rfl ?_
    refine st rfl (o_lit (cs := [.int .u8 (y1.toNat : Int)]) (T := 5) (m := 1) rfl rfl rfl rfl (fun _ => by kernel_rfl) (fun b4 => ?_))
    refine st rfl (o_app (l := o1) (us := [y1]) 3 rfl rfl rfl rfl rfl (src_pt 0 rfl) Tryz.underlying105 (elem_of (z := .int .u8 0) (sz := 1) (bytes := 1) (by kernel_rfl) rfl) rfl (by have q := (List.getElem?_eq_some_iff.1 hy1).1; rw [be_len] at q; have := isW_rng (by assumption); simp only [List.length_cons, List.length_nil]; omega) rfl rfl (fun A2 c2 => ?_))
    refine st rfl (o_st 2 rfl rfl rfl rfl rfl (by kernel_rfl) (by kernel_rfl) rfl ?_)
    refine s_nil (q_block ?_)
    refine r_end 1 [1, 1] [] rfl rfl rfl ⟨(o1 ++ [y1]), A2, c2, by rw [List.take_add_one, hy1, ← h4]; rfl, by rw [List.length_append, List.length_singleton]; omega, rfl, rfl⟩
   ·
    obtain rfl := hf1
    rw [List.length_map] at hS1
    obtain ⟨o2, A3, c3, h6, h7, rfl, rfl⟩ := hS1
    refine Ent.env (e' := [(0, .int .i64 w), (1, .int .u64 (n : Int)), (4, .string (⟨#[]⟩ : ByteArray)), (5, .nilIface), (6, .int .i64 (8 * w)), (7, .nilIface), (8, .pointer (some ⟨b1, 0, none⟩)), (10, .tuple #[.int .i64 (8 * w), .nilIface]), (11, .int .i64 w), (12, .tuple #[.int .i64 (8 * w), .nilIface]), (13, .int .i64 (8 * w)), (14, .nilIface), (15, .nilIface), (16, .bool false), (18, .int .u64 (n : Int)), (19, .int .i64 (8 * w)), (20, .int .i64 ((8 * w) - 1)), (21, .int .u64 ((n / 2 ^ (((8 * w) - 1).toNat) : Nat) : Int)), (22, .int .u64 (((n / 2 ^ ((8 * w) - 1).toNat) / 2 ^ 1 : Nat) : Int)), (23, .bool false), (25, .int .u64 (n : Int)), (26, .int .i64 (8 * w)), (27, .func (.func 98) #[] #[.pointer (some ⟨b2, 0, none⟩), .pointer (some ⟨b3, 0, none⟩)])]) (.cons rfl rfl (.cons rfl rfl (.cons rfl rfl (.cons rfl rfl (.cons rfl rfl (.cons rfl rfl (.cons rfl rfl (.cons rfl rfl (.cons rfl rfl (.cons rfl rfl (.cons rfl rfl (.cons rfl rfl (.cons rfl rfl (.cons rfl rfl (.cons rfl rfl (.cons rfl rfl (.cons rfl rfl (.cons rfl rfl (.cons rfl rfl (.cons rfl rfl (.cons rfl rfl (.cons rfl rfl (.cons rfl rfl .nil))))))))))))))))))))))) ?_
    refine q_block (q_then (c_seq (c_region ?_)))
    refine st rfl (o_ld 3 rfl rfl rfl Tryz.underlying105 rfl rfl ?_)
    refine st rfl (o_b2s (l := o2) rfl rfl (src_ars 4 rfl) Tryz.underlying105 Tryz.underlying9 Tryz.underlying5 rfl ?_)
    refine s_y rfl (v := .string (⟨List.toArray o2⟩ : ByteArray)) (y_as rfl) rfl ?_
    refine s_y rfl (v := .nilIface) (y_as rfl) rfl ?_
    refine s_nil (q_then (c_ret ?_))
    have he : o2 = be w.toNat n := by rw [h6, List.take_length]
    subst he
    refine e_mark 0 rfl ?_
    refine c_fin (I' := []) [] [0, 1, 2, 3, 4, 5, 6] rfl (.tmp rfl (.tmp rfl .nil)) rfl rfl rfl ?_
    exact .inl ⟨h1, (put_fits (by assumption)).1 (by assumption), rfl, rfl, rfl⟩
   ·
    exact hX.elim
  ·
   refine s_y rfl (v := .bool true) (y_nf (y_k (v := .bool (!decide ((((n / 2 ^ ((8 * w) - 1).toNat) / 2 ^ 1 : Nat) : Int) = 0))) rfl rfl (fun _ => by kernel_rfl)) h3) rfl ?_
   refine s_nil (q_then (c_true rfl (c_seq ?_)))
   refine c_draw (l := ticked 3 0) [(⟨1, 0, none⟩, .iface 180 (.pointer (some ef)))] [] (by kernel_rfl) rfl rfl ?_
   refine b_y (i := 1) (v := .string (⟨#[]⟩ : ByteArray)) (ticked 3 2) rfl rfl (by exact y_as rfl) ?_
   refine a_held (i := 0) (ticked 3 3) rfl (by as_aux_lemma => kernel_rfl) rfl rfl rfl (held_fact (j := 0) 2 rfl rfl held_nil) (h_ld 0 rfl rfl Tryz.underlying48 rfl) ?_
   refine b_y (i := 2) (v := .iface 180 (.pointer (some ef))) (ticked 3 7) rfl rfl (by exact y_as rfl) ?_
   refine a_done (by as_aux_lemma => kernel_rfl) ?_
   refine q_then (c_ret (q_then_ret ?_))
   refine c_fin (I' := []) [] [0, 1, 2, 3, 4, 5, 6] rfl (.tmp rfl (.tmp rfl .nil)) rfl rfl rfl ?_
   exact .inr (.inl ⟨h1, fun hh => absurd ((put_fits (by assumption)).2 hh) (by assumption), rfl, rfl, rfl⟩)
 ·
  refine s_y rfl (v := .tuple #[.int .i64 0, .iface 180 (.pointer (some ea))]) (y_mv rfl) rfl ?_
  refine s_y rfl (v := .int .i64 0) (y_k rfl rfl (fun _ => by kernel_rfl)) rfl ?_
  refine s_y rfl (v := .iface 180 (.pointer (some ea))) (y_k rfl rfl (fun _ => by kernel_rfl)) rfl ?_
  refine s_y rfl (v := .int .i64 0) (y_as rfl) rfl ?_
  refine s_y rfl (v := .iface 180 (.pointer (some ea))) (y_as rfl) rfl ?_
  refine s_nil (q_then (c_seq (c_seq (c_region ?_))))
  refine s_y rfl (v := .iface 180 (.pointer (some ea))) (y_mv rfl) rfl ?_
  refine s_y rfl (v := .bool true) (y_k rfl rfl (fun _ => by kernel_rfl)) rfl ?_
  refine s_nil (q_then (c_true rfl (c_seq (c_region ?_))))
  refine s_y rfl (v := .iface 180 (.pointer (some ea))) (y_mv rfl) rfl ?_
  refine s_y rfl (v := .string (⟨#[]⟩ : ByteArray)) (y_as rfl) rfl ?_
  refine s_y rfl (v := .iface 180 (.pointer (some ea))) (y_as rfl) rfl ?_
  refine s_nil (q_then (c_ret (q_then_ret ?_)))
  refine c_fin (I' := []) [] [0, 1, 2, 3, 4, 5, 6] rfl (.tmp rfl (.tmp rfl .nil)) rfl rfl rfl ?_
  exact .inr (.inr ⟨h2, rfl, rfl, rfl⟩)
end Go.Proofs.YtcnncdniibkjkaaGreatDoor
