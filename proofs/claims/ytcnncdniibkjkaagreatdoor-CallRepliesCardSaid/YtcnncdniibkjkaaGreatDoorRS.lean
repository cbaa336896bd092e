/- The laws of chapter 17 (call), walked over the given program; no condition but what stands in each theorem: part S. -/
import Derived.Test.YtcnncdniibkjkaaGreatDoorRN
import Derived.Test.YtcnncdniibkjkaaGreatDoorRP
set_option linter.unusedVariables false
set_option linter.unusedSimpArgs false
set_option maxRecDepth 100000
set_option maxHeartbeats 8000000
namespace Go.Proofs.YtcnncdniibkjkaaGreatDoor
open Go Go.Sl Go.RowKit Go.Extern.Stop Go.Stop Go.Extern
theorem rUnpack_ (A : Option Addr) (c : Nat) (ws : List Int) (s : ByteArray) (hs : s.size ≤ 9223372036854775807) (hw : ws.length ≤ 1000) : Con Tryz.prog 39 [.slice A ws.length c, .string s] [] [rd intTy A c ws] (fun v L' I' => ∃ A1 : Option Addr, ∃ c1 : Nat, v = .tuple #[.slice A1 ((unpackF ws s).1).length c1, .string ((unpackF ws s).2.1), .int .i64 ((unpackF ws s).2.2)] ∧ L' = [win u64Ty 22 A1 c1 ((unpackF ws s).1)] ∧ I' = []) := by
 refine fn_of Tryz.func39 rfl Tryz.ntmps39 (by kernel_rfl) rfl (fun C => ?_)
 refine c_seq (c_region ?_)
 refine s_y rfl (v := .slice none 0 0) (y_as rfl) rfl ?_
 refine s_y rfl (v := .string (⟨#[]⟩ : ByteArray)) (y_as rfl) rfl ?_
 refine s_y rfl (v := .int .i64 0) (y_as rfl) rfl ?_
 refine s_nil (q_then (c_seq (c_region ?_)))
 refine s_y rfl (v := .slice none 0 0) (y_as rfl) rfl ?_
 refine s_nil (q_then (c_seq (c_seq (c_region ?_))))
 refine s_y rfl (v := .int .i64 0) (y_as rfl) rfl ?_
 refine s_nil (q_then (c_block ?_))
 refine e_nil u64Ty 22 ?_
 refine c_loopn (ι := Nat × (List Nat) × (Option Addr) × Nat × ByteArray) (fun (k, a, A2, c2, r1) => (k ≤ ws.length) ∧ (unpackF (ws.take k) s = (a, r1, 0)) ∧ (a.length = k) ∧ (r1.size ≤ 9223372036854775807)) (fun (k, a, A2, c2, r1) => [(0, .slice A ws.length c), (1, .string r1), (7, .slice A2 a.length c2), (8, .int .i64 (k : Int))]) (fun (k, a, A2, c2, r1) => [ars u64Ty 22 A2 c2 a]) (fun (k, a, A2, c2, r1) => [rd intTy A c ws]) (fun (k, a, A2, c2, r1) => ws.length - k) (0, [], none, 0, s) [0] [0] (show (0 ≤ ws.length) ∧ (unpackF (ws.take 0) s = ([], s, 0)) ∧ ([].length = 0) ∧ (s.size ≤ 9223372036854775807) from ⟨by first | omega | simp_all | (simp; done), rfl, rfl, by first | omega | simp_all | (simp; done)⟩) ((.cons rfl rfl (.cons rfl rfl (.cons rfl (show (.slice none 0 0 : Value) = .slice none [].length 0 from by first | rfl | (congr 1; omega) | (congr 1; simp; done) | (congr 1; simp; omega)) (.cons rfl rfl .nil))))) rfl rfl ?_
 rintro ⟨k, a, A2, c2, r1⟩ ⟨hk, ha, hal, hr1⟩
 show Ent 38 C [(0, .slice A ws.length c), (1, .string r1), (7, .slice A2 a.length c2), (8, .int .i64 (k : Int))] [] [ars u64Ty 22 A2 c2 a] [rd intTy A c ws] _
 refine c_seq (c_seq (c_region ?_))
 refine s_y rfl (v := .int .i64 (k : Int)) (y_mv rfl) rfl ?_
 refine s_y rfl (v := .slice A ws.length c) (y_mv rfl) rfl ?_
 refine s_y rfl (v := .int .i64 (ws.length : Int)) (y_k rfl rfl (fun _ => by kernel_rfl)) rfl ?_
 refine e_by ((k : Int) < (ws.length : Int)) (fun h1 => ?_) (fun h1 => ?_)
 ·
  refine s_y rfl (v := .bool true) (y_t (y_k (v := .bool (decide ((k : Int) < (ws.length : Int)))) rfl rfl (fun _ => by kernel_rfl)) h1) rfl ?_
  refine s_nil (q_then (c_true rfl (c_skip (q_then (c_seq (c_block (c_seq (c_region ?_))))))))
  refine s_y rfl (v := .slice A ws.length c) (y_mv rfl) rfl ?_
  refine s_y rfl (v := .int .i64 (k : Int)) (y_mv rfl) rfl ?_
  refine e_at 0 k rfl (by first | omega | (simp only [List.length_append, List.length_map, List.length_take, List.length_drop]; omega)) (fun b1 o1 x1 hA1 hx1 => ?_)
  refine s_y rfl (v := .pointer (some ⟨b1, o1 + k * 1, none⟩)) (y_at (d := intTy) (l := ws) k hA1 rfl rfl rfl (rfl) (List.getElem?_eq_some_iff.1 hx1).1 Tryz.underlying74 (by kernel_rfl) (by kernel_rfl)) rfl ?_
  refine st rfl (o_ldf 0 0 rfl rfl rfl Tryz.underlying3 rfl rfl ?_)
  refine s_y rfl (v := .string r1) (y_mv rfl) rfl ?_
  refine st rfl (o_call [] [] (rGet_ x1 r1 (by first | omega | (rw [ByteArray.size_append]; omega) | decide | assumption)) rfl rfl rfl rfl rfl rfl (fun v L' I' hq1 => ?_))
  obtain ⟨rfl, rfl, rfl⟩ := hq1
  refine s_y rfl (v := .tuple #[.int .u64 ((getF x1 r1).1 : Int), .string ((getF x1 r1).2.1), .int .i64 ((getF x1 r1).2.2)]) (y_mv rfl) rfl ?_
  refine s_y rfl (v := .int .u64 ((getF x1 r1).1 : Int)) (y_k rfl rfl (fun _ => by kernel_rfl)) rfl ?_
  refine s_y rfl (v := .string ((getF x1 r1).2.1)) (y_k rfl rfl (fun _ => by kernel_rfl)) rfl ?_
  refine s_y rfl (v := .int .i64 ((getF x1 r1).2.2)) (y_k rfl rfl (fun _ => by kernel_rfl)) rfl ?_
  refine s_y rfl (v := .int .u64 ((getF x1 r1).1 : Int)) (y_as rfl) rfl ?_
  refine s_y rfl (v := .string ((getF x1 r1).2.1)) (y_as rfl) rfl ?_
  refine s_y rfl (v := .int .i64 ((getF x1 r1).2.2)) (y_as rfl) rfl ?_
  refine s_nil (q_then (c_seq (c_seq (c_region ?_))))
  refine s_y rfl (v := .int .i64 ((getF x1 r1).2.2)) (y_mv rfl) rfl ?_
  refine e_by ((getF x1 r1).2.2 = 0) (fun h2 => ?_) (fun h2 => ?_)
  ·
   refine s_y rfl (v := .bool false) (y_nt (y_k (v := .bool (!decide ((getF x1 r1).2.2 = 0))) rfl rfl (fun _ => by kernel_rfl)) h2) rfl ?_
   refine s_nil (q_then (c_false rfl (c_skip (q_then (c_seq (c_region ?_))))))
   refine s_y rfl (v := .slice A2 a.length c2) (y_mv rfl) rfl ?_
   refine s_y rfl (v := .int .u64 ((getF x1 r1).1 : Int)) (y_mv rfl) rfl ?_
   refine st rfl (o_lit (cs := [.int .u64 ((getF x1 r1).1 : Int)]) (T := 22) (m := 1) rfl rfl rfl rfl (fun _ => by kernel_rfl) (fun b2 => ?_))
   refine st rfl (o_app (l := a) (us := [(getF x1 r1).1]) 1 rfl rfl rfl rfl rfl (src_pt 0 rfl) Tryz.underlying82 (elem_of (z := .int .u64 0) (sz := 1) (bytes := 8) (by kernel_rfl) rfl) rfl (by simp only [List.length_cons, List.length_nil]; omega) rfl rfl (fun A1 c1 => ?_))
   refine s_y rfl (v := .slice A1 (a ++ [(getF x1 r1).1]).length c1) (y_as rfl) rfl ?_
   refine s_nil (q_then (c_region ?_))
   refine s_y rfl (v := .string ((getF x1 r1).2.1)) (y_mv rfl) rfl ?_
   refine s_y rfl (v := .string ((getF x1 r1).2.1)) (y_as rfl) rfl ?_
   refine s_nil (q_block (q_then (c_region ?_)))
   refine s_y rfl (v := .int .i64 (k : Int)) (y_mv rfl) rfl ?_
   refine s_y rfl (v := .int .i64 ((k : Int) + 1)) (y_add (r := (k : Int) + 1) rfl rfl rfl (by omega)) rfl ?_
   refine s_y rfl (v := .int .i64 ((k : Int) + 1)) (y_as rfl) rfl ?_
   refine s_nil (q_then ?_)
   refine c_next [1] [1] (k + 1, a ++ [(getF x1 r1).1], A1, c1, (getF x1 r1).2.1) ?_ ?_ ?_ (by rfl) (by rfl)
   · exact (show ((k + 1) ≤ ws.length) ∧ (unpackF (ws.take (k + 1)) s = ((a ++ [(getF x1 r1).1]), ((getF x1 r1).2.1), 0)) ∧ ((a ++ [(getF x1 r1).1]).length = (k + 1)) ∧ (((getF x1 r1).2.1).size ≤ 9223372036854775807) from ⟨by first | omega | simp_all | (simp; done), up_step (by assumption) ha (by assumption), by rw [List.length_append, List.length_singleton, hal], Nat.le_trans (getF_rest _ _) hr1⟩)
   · show ws.length - (k + 1) < ws.length - k; omega
   · exact (.cons rfl rfl (.cons rfl rfl (.cons rfl rfl (.cons rfl (show (.int .i64 ((k : Int) + 1) : Value) = .int .i64 ((k + 1) : Int) from by first | rfl | (congr 1; omega) | (congr 1; simp; done) | (congr 1; simp; omega)) .nil))))
  ·
   refine s_y rfl (v := .bool true) (y_nf (y_k (v := .bool (!decide ((getF x1 r1).2.2 = 0))) rfl rfl (fun _ => by kernel_rfl)) h2) rfl ?_
   refine s_nil (q_then (c_true rfl (c_seq (c_region ?_))))
   refine s_y rfl (v := .int .i64 ((getF x1 r1).2.2)) (y_mv rfl) rfl ?_
   refine s_y rfl (v := .slice none 0 0) (y_as rfl) rfl ?_
   refine s_y rfl (v := .string (⟨#[]⟩ : ByteArray)) (y_as rfl) rfl ?_
   refine s_y rfl (v := .int .i64 ((getF x1 r1).2.2)) (y_as rfl) rfl ?_
   refine s_nil (q_then (c_ret (q_then_ret (q_block_ret (q_then_ret (q_then_ret (q_block_ret (q_then_ret ?_))))))))
   refine e_nil u64Ty 22 ?_
   refine e_weak 0 rfl (fun _ h => h.win) ?_
   have hp : unpackF ws s = ([], (⟨#[]⟩ : ByteArray), (getF x1 r1).2.2) := by first | exact up_end (by assumption) (by assumption) | exact up_bad (by assumption) (by assumption) (by assumption)
   refine c_fin (I' := []) [0] [1] rfl (.tmp rfl (.tmp rfl (.tmp rfl .nil))) rfl rfl rfl ?_
   rw [hp]
   exact ⟨_, _, rfl, rfl, rfl⟩
 ·
  refine s_y rfl (v := .bool false) (y_f (y_k (v := .bool (decide ((k : Int) < (ws.length : Int)))) rfl rfl (fun _ => by kernel_rfl)) h1) rfl ?_
  refine s_nil (q_then (c_false rfl ?_))
  refine c_exit ?_
  refine q_then_exit ?_
  refine q_then_exit ?_
  refine q_block_here ?_
  refine q_then (c_seq (c_region ?_))
  refine s_y rfl (v := .slice A2 a.length c2) (y_mv rfl) rfl ?_
  refine s_y rfl (v := .string r1) (y_mv rfl) rfl ?_
  refine s_y rfl (v := .slice A2 a.length c2) (y_as rfl) rfl ?_
  refine s_y rfl (v := .string r1) (y_as rfl) rfl ?_
  refine s_y rfl (v := .int .i64 0) (y_as rfl) rfl ?_
  refine s_nil (q_then (c_ret ?_))
  refine e_weak 0 rfl (fun _ h => h.win) ?_
  have hp : unpackF ws s = (a, r1, 0) := by first | exact up_end (by assumption) (by assumption) | exact up_bad (by assumption) (by assumption) (by assumption)
  refine c_fin (I' := []) [0] [0] rfl (.tmp rfl (.tmp rfl (.tmp rfl .nil))) rfl rfl rfl ?_
  rw [hp]
  exact ⟨_, _, rfl, rfl, rfl⟩
theorem rPack_ (A : Option Addr) (c : Nat) (ws : List Int) (B : Option Addr) (d : Nat) (l : List Nat) (hw : ws.length ≤ 1000) (hl : l.length ≤ 1000) (h64 : ∀ x ∈ l, x < 18446744073709551616) : Con Tryz.prog 57 [.slice A ws.length c, .slice B l.length d] [] [rd intTy A c ws, rd u64Ty B d l] (fun v L' I' => v = .tuple #[.string ((packF ws l).1), .int .i64 ((packF ws l).2)] ∧ L' = [] ∧ I' = []) := by
 refine fn_of Tryz.func57 rfl Tryz.ntmps57 (by kernel_rfl) rfl (fun C => ?_)
 refine c_seq (c_region ?_)
 refine s_y rfl (v := .string (⟨#[]⟩ : ByteArray)) (y_as rfl) rfl ?_
 refine s_y rfl (v := .int .i64 0) (y_as rfl) rfl ?_
 refine s_nil (q_then (c_seq (c_seq (c_region ?_))))
 refine s_y rfl (v := .slice A ws.length c) (y_mv rfl) rfl ?_
 refine s_y rfl (v := .int .i64 (ws.length : Int)) (y_k rfl rfl (fun _ => by kernel_rfl)) rfl ?_
 refine s_y rfl (v := .slice B l.length d) (y_mv rfl) rfl ?_
 refine s_y rfl (v := .int .i64 (l.length : Int)) (y_k rfl rfl (fun _ => by kernel_rfl)) rfl ?_
 refine e_by ((ws.length : Int) = (l.length : Int)) (fun h65 => ?_) (fun h65 => ?_)
 ·
  refine s_y rfl (v := .bool false) (y_nt (y_k (v := .bool (!decide ((ws.length : Int) = (l.length : Int)))) rfl rfl (fun _ => by kernel_rfl)) h65) rfl ?_
  refine s_nil (q_then (c_false rfl (c_skip (q_then (c_seq (c_region ?_))))))
  refine s_y rfl (v := .string (⟨#[]⟩ : ByteArray)) (y_as rfl) rfl ?_
  refine s_nil (q_then (c_seq (c_seq (c_region ?_))))
  refine s_y rfl (v := .int .i64 0) (y_as rfl) rfl ?_
  refine s_nil (q_then (c_block ?_))
  refine c_loopn (ι := Nat × ByteArray) (fun (k, o) => (k ≤ l.length) ∧ (((ws.zip l).take k).foldl packStep (⟨#[]⟩, 0) = (o, 0)) ∧ (o.size ≤ 8 * k)) (fun (k, o) => [(0, .slice A ws.length c), (1, .slice B l.length d), (6, .string o), (7, .int .i64 (k : Int))]) (fun (k, o) => []) (fun (k, o) => [rd intTy A c ws, rd u64Ty B d l]) (fun (k, o) => l.length - k) (0, (⟨#[]⟩ : ByteArray)) [] [0, 1] (show (0 ≤ l.length) ∧ (((ws.zip l).take 0).foldl packStep (⟨#[]⟩, 0) = ((⟨#[]⟩ : ByteArray), 0)) ∧ ((⟨#[]⟩ : ByteArray).size ≤ 8 * 0) from ⟨by first | omega | simp_all | (simp; done), rfl, Nat.zero_le _⟩) ((.cons rfl rfl (.cons rfl rfl (.cons rfl rfl (.cons rfl rfl .nil))))) rfl rfl ?_
  rintro ⟨k, o⟩ ⟨hk, ho, hos⟩
  show Ent 40 C [(0, .slice A ws.length c), (1, .slice B l.length d), (6, .string o), (7, .int .i64 (k : Int))] [] [] [rd intTy A c ws, rd u64Ty B d l] _
  refine c_seq (c_seq (c_region ?_))
  refine s_y rfl (v := .int .i64 (k : Int)) (y_mv rfl) rfl ?_
  refine s_y rfl (v := .slice B l.length d) (y_mv rfl) rfl ?_
  refine s_y rfl (v := .int .i64 (l.length : Int)) (y_k rfl rfl (fun _ => by kernel_rfl)) rfl ?_
  refine e_by ((k : Int) < (l.length : Int)) (fun h66 => ?_) (fun h66 => ?_)
  ·
   refine s_y rfl (v := .bool true) (y_t (y_k (v := .bool (decide ((k : Int) < (l.length : Int)))) rfl rfl (fun _ => by kernel_rfl)) h66) rfl ?_
   refine s_nil (q_then (c_true rfl (c_skip (q_then (c_seq (c_block (c_seq ?_)))))))
   refine e_at 0 k rfl (by first | omega | (simp only [List.length_append, List.length_map, List.length_take, List.length_drop]; omega)) (fun b1 o1 x1 hA1 hx1 => ?_)
   refine e_at 2 k rfl (by first | omega | (simp only [List.length_append, List.length_map, List.length_take, List.length_drop]; omega)) (fun b2 o2 x2 hA2 hx2 => ?_)
   refine c_draw (l := ticked 14 0) [(⟨b1, o1 + k * 1, none⟩, .int .i64 x1), (⟨b2, o2 + k * 1, none⟩, .int .u64 (x2 : Int))] [] (by kernel_rfl) rfl rfl ?_
   refine b_y (i := 0) (v := .slice A ws.length c) (ticked 14 1) rfl rfl (by exact y_mv rfl) ?_
   refine b_y (i := 1) (v := .int .i64 (k : Int)) (ticked 14 3) rfl rfl (by exact y_mv rfl) ?_
   refine b_y (i := 2) (v := .pointer (some ⟨b1, o1 + k * 1, none⟩)) (ticked 14 7) rfl rfl (by exact y_at (d := intTy) (l := ws) k hA1 rfl rfl rfl (rfl) (List.getElem?_eq_some_iff.1 hx1).1 Tryz.underlying74 (by kernel_rfl) (by kernel_rfl)) ?_
   refine b_y (i := 4) (v := .slice B l.length d) (ticked 14 23) rfl rfl (by exact y_mv rfl) ?_
   refine b_y (i := 5) (v := .int .i64 (k : Int)) (ticked 14 55) rfl rfl (by exact y_mv rfl) ?_
   refine b_y (i := 6) (v := .pointer (some ⟨b2, o2 + k * 1, none⟩)) (ticked 14 119) rfl rfl (by exact y_at (d := u64Ty) (l := l) k hA2 rfl rfl rfl (rfl) (List.getElem?_eq_some_iff.1 hx2).1 Tryz.underlying82 (by kernel_rfl) (by kernel_rfl)) ?_
   refine a_held (i := 3) (ticked 14 127) rfl (by as_aux_lemma => kernel_rfl) rfl rfl rfl (held_fact (j := 0) 1 rfl rfl (held_fact (j := 0) 0 rfl rfl held_nil)) (h_ld 0 rfl rfl Tryz.underlying3 rfl) ?_
   refine a_held (i := 7) (ticked 14 255) rfl (by as_aux_lemma => kernel_rfl) rfl rfl rfl (held_fact (j := 0) 1 rfl rfl (held_fact (j := 0) 0 rfl rfl held_nil)) (h_ld 1 rfl rfl Tryz.underlying22 rfl) ?_
   refine a_each (rs := [8]) (by as_aux_lemma => kernel_rfl) (.cons (ticked 14 511) rfl rfl rfl (o_call [] [] (rPut_ x1 x2 (by first | omega | assumption | exact h64 _ (List.mem_of_getElem? (by assumption)))) rfl rfl rfl rfl rfl rfl (fun v L' I' hq1 => ?_)) .nil) (List.cons_ne_nil _ _)
   obtain ⟨rfl, rfl, rfl⟩ := hq1
   refine a_and (held_fact (j := 0) 1 rfl rfl (held_fact (j := 0) 0 rfl rfl held_nil)) ?_
   refine b_y (i := 9) (v := .tuple #[.string ((putF x1 x2).1), .int .i64 ((putF x1 x2).2)]) (ticked 14 1023) rfl rfl (by exact y_mv rfl) ?_
   refine b_y (i := 10) (v := .string ((putF x1 x2).1)) (ticked 14 2047) rfl rfl (by exact y_k rfl rfl (fun _ => by kernel_rfl)) ?_
   refine b_y (i := 11) (v := .int .i64 ((putF x1 x2).2)) (ticked 14 4095) rfl rfl (by exact y_k rfl rfl (fun _ => by kernel_rfl)) ?_
   refine b_y (i := 12) (v := .string ((putF x1 x2).1)) (ticked 14 8191) rfl rfl (by exact y_as rfl) ?_
   refine b_y (i := 13) (v := .int .i64 ((putF x1 x2).2)) (ticked 14 16383) rfl rfl (by exact y_as rfl) ?_
   refine a_done (by as_aux_lemma => kernel_rfl) ?_
   refine q_then (c_seq (c_seq (c_region ?_)))
   refine s_y rfl (v := .int .i64 ((putF x1 x2).2)) (y_mv rfl) rfl ?_
   refine e_by ((putF x1 x2).2 = 0) (fun h67 => ?_) (fun h67 => ?_)
   ·
    refine s_y rfl (v := .bool false) (y_nt (y_k (v := .bool (!decide ((putF x1 x2).2 = 0))) rfl rfl (fun _ => by kernel_rfl)) h67) rfl ?_
    refine s_nil (q_then (c_false rfl (c_skip (q_then (c_region ?_)))))
    refine s_y rfl (v := .string o) (y_mv rfl) rfl ?_
    refine s_y rfl (v := .string ((putF x1 x2).1)) (y_mv rfl) rfl ?_
    refine s_y rfl (v := .string (o ++ ((putF x1 x2).1))) (y_cat (s := o) (u := (putF x1 x2).1) rfl rfl (by have := putF_size (by assumption) (by assumption); omega)) rfl ?_
    refine s_y rfl (v := .string (o ++ ((putF x1 x2).1))) (y_as rfl) rfl ?_
    refine s_nil (q_block (q_then (c_region ?_)))
    refine s_y rfl (v := .int .i64 (k : Int)) (y_mv rfl) rfl ?_
    refine s_y rfl (v := .int .i64 ((k : Int) + 1)) (y_add (r := (k : Int) + 1) rfl rfl rfl (by omega)) rfl ?_
    refine s_y rfl (v := .int .i64 ((k : Int) + 1)) (y_as rfl) rfl ?_
    refine s_nil (q_then ?_)
    refine c_next [] [2, 3] (k + 1, o ++ ((putF x1 x2).1)) ?_ ?_ ?_ (by rfl) (by rfl)
    · exact (show ((k + 1) ≤ l.length) ∧ (((ws.zip l).take (k + 1)).foldl packStep (⟨#[]⟩, 0) = ((o ++ ((putF x1 x2).1)), 0)) ∧ ((o ++ ((putF x1 x2).1)).size ≤ 8 * (k + 1)) from ⟨by first | omega | simp_all | (simp; done), pack_step (by assumption) (by assumption) ho (by assumption), by rw [ByteArray.size_append]; have h8 := putF_size; (have q := putF_size x1 x2; omega)⟩)
    · show l.length - (k + 1) < l.length - k; omega
    · exact (.cons rfl rfl (.cons rfl rfl (.cons rfl rfl (.cons rfl (show (.int .i64 ((k : Int) + 1) : Value) = .int .i64 ((k + 1) : Int) from by first | rfl | (congr 1; omega) | (congr 1; simp; done) | (congr 1; simp; omega)) .nil))))
   ·
    refine s_y rfl (v := .bool true) (y_nf (y_k (v := .bool (!decide ((putF x1 x2).2 = 0))) rfl rfl (fun _ => by kernel_rfl)) h67) rfl ?_
    refine s_nil (q_then (c_true rfl (c_seq (c_region ?_))))
    refine s_y rfl (v := .int .i64 ((putF x1 x2).2)) (y_mv rfl) rfl ?_
    refine s_y rfl (v := .string (⟨#[]⟩ : ByteArray)) (y_as rfl) rfl ?_
    refine s_y rfl (v := .int .i64 ((putF x1 x2).2)) (y_as rfl) rfl ?_
    refine s_nil (q_then (c_ret (q_then_ret (q_block_ret (q_then_ret (q_then_ret (q_block_ret (q_then_ret ?_))))))))
    have hp : packF ws l = ((⟨#[]⟩ : ByteArray), (putF x1 x2).2) := by first | exact pack_no (by assumption) | exact pack_end (by assumption) (by assumption) (by assumption) | exact pack_bad (by assumption) (by assumption) (by assumption) (by assumption) (by assumption)
    refine c_fin (I' := []) [] [2, 3] rfl (.tmp rfl (.tmp rfl .nil)) rfl rfl rfl ?_
    rw [hp]
    exact ⟨rfl, rfl, rfl⟩
  ·
   refine s_y rfl (v := .bool false) (y_f (y_k (v := .bool (decide ((k : Int) < (l.length : Int)))) rfl rfl (fun _ => by kernel_rfl)) h66) rfl ?_
   refine s_nil (q_then (c_false rfl ?_))
   refine c_exit ?_
   refine q_then_exit ?_
   refine q_then_exit ?_
   refine q_block_here ?_
   refine q_then (c_seq (c_region ?_))
   refine s_y rfl (v := .string o) (y_mv rfl) rfl ?_
   refine s_y rfl (v := .string o) (y_as rfl) rfl ?_
   refine s_y rfl (v := .int .i64 0) (y_as rfl) rfl ?_
   refine s_nil (q_then (c_ret ?_))
   have hp : packF ws l = (o, 0) := by first | exact pack_no (by assumption) | exact pack_end (by assumption) (by assumption) (by assumption) | exact pack_bad (by assumption) (by assumption) (by assumption) (by assumption) (by assumption)
   refine c_fin (I' := []) [] [0, 1] rfl (.tmp rfl (.tmp rfl .nil)) rfl rfl rfl ?_
   rw [hp]
   exact ⟨rfl, rfl, rfl⟩
 ·
  refine s_y rfl (v := .bool true) (y_nf (y_k (v := .bool (!decide ((ws.length : Int) = (l.length : Int)))) rfl rfl (fun _ => by kernel_rfl)) h65) rfl ?_
  refine s_nil (q_then (c_true rfl (c_seq (c_region ?_))))
  refine s_y rfl (v := .string (⟨#[]⟩ : ByteArray)) (y_as rfl) rfl ?_
  refine s_y rfl (v := .int .i64 2) (y_as rfl) rfl ?_
  refine s_nil (q_then (c_ret (q_then_ret ?_)))
  have hp : packF ws l = ((⟨#[]⟩ : ByteArray), 2) := by first | exact pack_no (by assumption) | exact pack_end (by assumption) (by assumption) (by assumption) | exact pack_bad (by assumption) (by assumption) (by assumption) (by assumption) (by assumption)
  refine c_fin (I' := []) [] [0, 1] rfl (.tmp rfl (.tmp rfl .nil)) rfl rfl rfl ?_
  rw [hp]
  exact ⟨rfl, rfl, rfl⟩
end Go.Proofs.YtcnncdniibkjkaaGreatDoor
