/- The laws of chapter 15 (journal), walked over the given program; no condition but what stands in each theorem: part LQ. -/
import Derived.Test.YthehnjbdkjnlpaaGreatDoorRLP
set_option linter.unusedVariables false
set_option linter.unusedSimpArgs false
set_option maxRecDepth 100000
set_option maxHeartbeats 8000000
namespace Go.Proofs.YthehnjbdkjnlpaaGreatDoor
open Go Go.Sl Go.RowKit Go.Extern.Stop Go.Stop Go.Extern
theorem cutd_ (s : ByteArray) (hz : s.size ≤ 9223372036854775807) : Con Tryz.prog 21 [.string s] [] [] (fun v L' I' => v = .string (cutD s) ∧ L' = [] ∧ I' = []) := by
 refine fn_of Tryz.func21 rfl Tryz.ntmps21 (by kernel_rfl) rfl (fun C => ?_)
 refine c_seq (c_region ?_)
 refine s_y rfl (v := .string (⟨#[]⟩ : ByteArray)) (y_as rfl) rfl ?_
 refine s_nil (q_then (c_seq (c_region ?_)))
 refine s_y rfl (v := .string s) (y_mv rfl) rfl ?_
 refine s_y rfl (v := .string s) (y_mv rfl) rfl ?_
 refine s_y rfl (v := .int .i64 (s.size : Int)) (y_k rfl rfl (fun _ => by kernel_rfl)) rfl ?_
 refine s_y rfl (v := .int .i64 ((min s.size 210 : Nat) : Int)) (y_min2 s.size 210 rfl rfl) rfl ?_
 refine s_y rfl (v := .string (s.extract 0 (min s.size 210))) (y_cuts 0 (min s.size 210) rfl .no (.at (min s.size 210) rfl (rfl)) Tryz.underlying9 (by omega) (by omega)) rfl ?_
 refine s_y rfl (v := .string (s.extract 0 (min s.size 210))) (y_as rfl) rfl ?_
 refine s_nil (q_then (c_ret ?_))
 have hp : cutD s = s.extract 0 (min s.size 210) := by rfl
 refine c_fin (I' := []) [] [] rfl (.tmp rfl .nil) rfl rfl rfl ?_
 rw [hp]
 exact ⟨rfl, rfl, rfl⟩
theorem fewj_ (A : Option Addr) (c : Nat) (l : List Jen) (hb : ∀ y ∈ l, y.da.size ≤ 9223372036854775807) : Con Tryz.prog 6 [.slice A l.length c] [] [rd entTy A c l] (fun v L' I' => ∃ A1 : Option Addr, ∃ c1 : Nat, v = .slice A1 (fewJ l).length c1 ∧ L' = [] ∧ I' = [rd entTy A1 c1 (fewJ l)]) := by
 refine fn_of Tryz.func6 rfl Tryz.ntmps6 (by kernel_rfl) rfl (fun C => ?_)
 refine c_seq (c_region ?_)
 refine s_y rfl (v := .slice none 0 0) (y_as rfl) rfl ?_
 refine s_nil (q_then (c_seq (c_region ?_)))
 refine s_y rfl (v := .slice none 0 0) (y_as rfl) rfl ?_
 refine s_nil (q_then (c_seq (c_seq (c_region ?_))))
 refine s_y rfl (v := .int .i64 0) (y_as rfl) rfl ?_
 refine s_nil (q_then (c_block ?_))
 refine e_nil entTy 47 ?_
 refine c_loopn (ι := Nat × (List Jen) × (Option Addr) × Nat) (fun (k, o, Ao, co) => (k ≤ l.length) ∧ (k ≤ 30) ∧ (o = (l.take k).map cutJ)) (fun (k, o, Ao, co) => [(0, .slice A l.length c), (2, .slice none 0 0), (3, .slice Ao o.length co), (4, .int .i64 (k : Int))]) (fun (k, o, Ao, co) => [ars entTy 47 Ao co o]) (fun (k, o, Ao, co) => [rd entTy A c l]) (fun (k, o, Ao, co) => l.length - k) (0, ([] : List Jen), none, 0) [0] [0] (show (0 ≤ l.length) ∧ (0 ≤ 30) ∧ (([] : List Jen) = (l.take 0).map cutJ) from ⟨by first | omega | simp_all | (simp; done), by first | omega | simp_all | (simp; done), rfl⟩) ((.cons rfl rfl (.cons rfl rfl (.cons rfl (show (.slice none 0 0 : Value) = .slice none ([] : List Jen).length 0 from by first | rfl | (congr 1; omega) | (congr 1; simp; done) | (congr 1; simp; omega)) (.cons rfl rfl .nil))))) rfl rfl ?_
 rintro ⟨k, o, Ao, co⟩ ⟨hk, h30, ho⟩
 show Ent 29 C [(0, .slice A l.length c), (2, .slice none 0 0), (3, .slice Ao o.length co), (4, .int .i64 (k : Int))] [] [ars entTy 47 Ao co o] [rd entTy A c l] _
 refine c_seq (c_seq (c_region ?_))
 refine s_y rfl (v := .int .i64 (k : Int)) (y_mv rfl) rfl ?_
 refine s_y rfl (v := .slice A l.length c) (y_mv rfl) rfl ?_
 refine s_y rfl (v := .int .i64 (l.length : Int)) (y_k rfl rfl (fun _ => by kernel_rfl)) rfl ?_
 refine e_by ((k : Int) < (l.length : Int)) (fun h1 => ?_) (fun h1 => ?_)
 ·
  refine s_y rfl (v := .bool true) (y_t (y_k (v := .bool (decide ((k : Int) < (l.length : Int)))) rfl rfl (fun _ => by kernel_rfl)) h1) rfl ?_
  refine s_y rfl (v := .bool true) (y_mv rfl) rfl ?_
  refine st_on 10 rfl rfl rfl (o_y (v := .int .i64 (k : Int)) (y_mv rfl) rfl rfl rfl ?_)
  refine e_by ((k : Int) < 30) (fun h2 => ?_) (fun h2 => ?_)
  ·
   refine st_on 10 rfl rfl rfl (o_y (v := .bool true) (y_t (y_k (v := .bool (decide ((k : Int) < 30))) rfl rfl (fun _ => by kernel_rfl)) h2) rfl rfl rfl ?_)
   refine s_y rfl (v := .bool true) (y_pick rfl rfl) rfl ?_
   refine s_nil (q_then (c_true rfl (c_skip (q_then (c_seq (c_block (c_seq (c_region ?_))))))))
   refine s_y rfl (v := .slice A l.length c) (y_mv rfl) rfl ?_
   refine s_y rfl (v := .int .i64 (k : Int)) (y_mv rfl) rfl ?_
   refine e_at 0 k rfl (by first | omega | (simp only [List.length_append, List.length_map, List.length_take, List.length_drop]; omega)) (fun b1 o1 x1 hA1 hx1 => ?_)
   refine s_y rfl (v := .pointer (some ⟨b1, o1 + k * 6, none⟩)) (y_at (d := entTy) (l := l) k hA1 rfl rfl rfl (rfl) (List.getElem?_eq_some_iff.1 hx1).1 Tryz.underlying23 (by kernel_rfl) (by kernel_rfl)) rfl ?_
   refine st rfl (o_ldnf 0 0 6 rfl rfl rfl rfl Tryz.underlying47 rfl (by kernel_rfl) (by kernel_rfl) rfl ?_)
   refine st rfl (o_box (cs := [.int .i64 0, .int .i64 0, .int .i64 0, .int .u64 0, .int .i64 0, .string (⟨#[]⟩ : ByteArray)]) (T := 47) rfl rfl rfl rfl (fun _ => by kernel_rfl) (fun b2 => ?_))
   refine st rfl (o_st 0 rfl rfl rfl rfl rfl (by kernel_rfl) (by kernel_rfl) rfl ?_)
   refine s_nil (q_then (c_seq (c_region ?_)))
   refine s_y rfl (v := .pointer (some ⟨b2, 5, none⟩)) (y_k rfl rfl (fun _ => by kernel_rfl)) rfl ?_
   refine st rfl (o_ld 0 rfl rfl rfl Tryz.underlying9 rfl rfl ?_)
   refine st rfl (o_call [] [] (cutd_ x1.da (hb _ (List.mem_of_getElem? hx1))) rfl rfl rfl rfl rfl rfl (fun v L' I' hq1 => ?_))
   obtain ⟨rfl, rfl, rfl⟩ := hq1
   refine s_y rfl (v := .pointer (some ⟨b2, 5, none⟩)) (y_k rfl rfl (fun _ => by kernel_rfl)) rfl ?_
   refine st rfl (o_st 0 rfl rfl rfl rfl rfl (by kernel_rfl) (by kernel_rfl) rfl ?_)
   refine s_nil (q_then (c_region ?_))
   refine s_y rfl (v := .slice Ao o.length co) (y_mv rfl) rfl ?_
   refine st rfl (o_ldn 0 6 rfl rfl rfl rfl Tryz.underlying47 rfl (by kernel_rfl) (by kernel_rfl) rfl ?_)
   refine st rfl (o_lit (cs := [.int .i64 x1.st, .int .i64 x1.ru, .int .i64 x1.to.lv, .int .u64 (x1.to.cs : Int), .int .i64 x1.to.ig, .string (cutD x1.da)]) (T := 47) (m := 1) rfl rfl rfl rfl (fun _ => by kernel_rfl) (fun b3 => ?_))
   refine st rfl (o_app (l := o) (us := [(⟨x1.st, x1.ru, x1.to, cutD x1.da⟩ : Jen)]) 2 rfl rfl rfl rfl rfl (src_pt 0 rfl) Tryz.underlying23 (elem_of (z := .agg #[.int .i64 0, .int .i64 0, .int .i64 0, .int .u64 0, .int .i64 0, .string (⟨#[]⟩ : ByteArray)]) (sz := 6) (bytes := 56) (by kernel_rfl) rfl) rfl (by rw [ho, List.length_map, List.length_take]; simp only [List.length_cons, List.length_nil]; omega) rfl rfl (fun A1 c1 => ?_))
   refine s_y rfl (v := .slice A1 (o ++ [(⟨x1.st, x1.ru, x1.to, cutD x1.da⟩ : Jen)]).length c1) (y_as rfl) rfl ?_
   refine s_nil (q_block (q_then (c_region ?_)))
   refine s_y rfl (v := .int .i64 (k : Int)) (y_mv rfl) rfl ?_
   refine s_y rfl (v := .int .i64 ((k : Int) + 1)) (y_add (r := (k : Int) + 1) rfl rfl rfl (by omega)) rfl ?_
   refine s_y rfl (v := .int .i64 ((k : Int) + 1)) (y_as rfl) rfl ?_
   refine s_nil (q_then ?_)
   refine c_next [2] [1] (k + 1, o ++ [(⟨x1.st, x1.ru, x1.to, cutD x1.da⟩ : Jen)], A1, c1) ?_ ?_ ?_ (by rfl) (by rfl)
   · exact (show ((k + 1) ≤ l.length) ∧ ((k + 1) ≤ 30) ∧ ((o ++ [(⟨x1.st, x1.ru, x1.to, cutD x1.da⟩ : Jen)]) = (l.take (k + 1)).map cutJ) from ⟨by first | omega | simp_all | (simp; done), by first | omega | simp_all | (simp; done), few_step cutJ ho hx1⟩)
   · show l.length - (k + 1) < l.length - k; omega
   · exact (.cons rfl rfl (.cons rfl rfl (.cons rfl rfl (.cons rfl (show (.int .i64 ((k : Int) + 1) : Value) = .int .i64 ((k + 1) : Int) from by first | rfl | (congr 1; omega) | (congr 1; simp; done) | (congr 1; simp; omega)) .nil))))
  ·
   refine st_on 10 rfl rfl rfl (o_y (v := .bool false) (y_f (y_k (v := .bool (decide ((k : Int) < 30))) rfl rfl (fun _ => by kernel_rfl)) h2) rfl rfl rfl ?_)
   refine s_y rfl (v := .bool false) (y_pick rfl rfl) rfl ?_
   refine s_nil (q_then (c_false rfl ?_))
   refine c_exit ?_
   refine q_then_exit ?_
   refine q_then_exit ?_
   refine q_block_here ?_
   refine q_then (c_seq (c_region ?_))
   refine s_y rfl (v := .slice Ao o.length co) (y_mv rfl) rfl ?_
   refine s_y rfl (v := .slice Ao o.length co) (y_as rfl) rfl ?_
   refine s_nil (q_then (c_ret ?_))
   refine e_still 0 rfl ?_
   have hp : fewJ l = o := by rw [ho]; exact (few_take cutJ (by omega) h30).symm
   refine c_fin (I' := [rd entTy Ao co o]) [] [0, 1] rfl (.tmp rfl .nil) rfl rfl rfl ?_
   rw [hp]
   exact ⟨_, _, rfl, rfl, rfl⟩
 ·
  refine s_y rfl (v := .bool false) (y_f (y_k (v := .bool (decide ((k : Int) < (l.length : Int)))) rfl rfl (fun _ => by kernel_rfl)) h1) rfl ?_
  refine s_y rfl (v := .bool false) (y_mv rfl) rfl ?_
  refine st_off 10 rfl rfl rfl rfl rfl rfl ?_
  refine st_off 10 rfl rfl rfl rfl rfl rfl ?_
  refine s_y rfl (v := .bool false) (y_pick rfl rfl) rfl ?_
  refine s_nil (q_then (c_false rfl ?_))
  refine c_exit ?_
  refine q_then_exit ?_
  refine q_then_exit ?_
  refine q_block_here ?_
  refine q_then (c_seq (c_region ?_))
  refine s_y rfl (v := .slice Ao o.length co) (y_mv rfl) rfl ?_
  refine s_y rfl (v := .slice Ao o.length co) (y_as rfl) rfl ?_
  refine s_nil (q_then (c_ret ?_))
  refine e_still 0 rfl ?_
  have hp : fewJ l = o := by rw [ho]; exact (few_take cutJ (by omega) h30).symm
  refine c_fin (I' := [rd entTy Ao co o]) [] [0, 1] rfl (.tmp rfl .nil) rfl rfl rfl ?_
  rw [hp]
  exact ⟨_, _, rfl, rfl, rfl⟩
theorem fewl_ (A : Option Addr) (c : Nat) (l : List Rul) (hb : ∀ y ∈ l, y.wh.fm.size ≤ 9223372036854775807) : Con Tryz.prog 5 [.slice A l.length c] [] [rd rulTy A c l] (fun v L' I' => ∃ A1 : Option Addr, ∃ c1 : Nat, v = .slice A1 (fewL l).length c1 ∧ L' = [] ∧ I' = [rd rulTy A1 c1 (fewL l)]) := by
 refine fn_of Tryz.func5 rfl Tryz.ntmps5 (by kernel_rfl) rfl (fun C => ?_)
 refine c_seq (c_region ?_)
 refine s_y rfl (v := .slice none 0 0) (y_as rfl) rfl ?_
 refine s_nil (q_then (c_seq (c_region ?_)))
 refine s_y rfl (v := .slice none 0 0) (y_as rfl) rfl ?_
 refine s_nil (q_then (c_seq (c_seq (c_region ?_))))
 refine s_y rfl (v := .int .i64 0) (y_as rfl) rfl ?_
 refine s_nil (q_then (c_block ?_))
 refine e_nil rulTy 42 ?_
 refine c_loopn (ι := Nat × (List Rul) × (Option Addr) × Nat) (fun (k, o, Ao, co) => (k ≤ l.length) ∧ (k ≤ 10) ∧ (o = (l.take k).map cutR)) (fun (k, o, Ao, co) => [(0, .slice A l.length c), (2, .slice none 0 0), (3, .slice Ao o.length co), (4, .int .i64 (k : Int))]) (fun (k, o, Ao, co) => [ars rulTy 42 Ao co o]) (fun (k, o, Ao, co) => [rd rulTy A c l]) (fun (k, o, Ao, co) => l.length - k) (0, ([] : List Rul), none, 0) [0] [0] (show (0 ≤ l.length) ∧ (0 ≤ 10) ∧ (([] : List Rul) = (l.take 0).map cutR) from ⟨by first | omega | simp_all | (simp; done), by first | omega | simp_all | (simp; done), rfl⟩) ((.cons rfl rfl (.cons rfl rfl (.cons rfl (show (.slice none 0 0 : Value) = .slice none ([] : List Rul).length 0 from by first | rfl | (congr 1; omega) | (congr 1; simp; done) | (congr 1; simp; omega)) (.cons rfl rfl .nil))))) rfl rfl ?_
 rintro ⟨k, o, Ao, co⟩ ⟨hk, h30, ho⟩
 show Ent 36 C [(0, .slice A l.length c), (2, .slice none 0 0), (3, .slice Ao o.length co), (4, .int .i64 (k : Int))] [] [ars rulTy 42 Ao co o] [rd rulTy A c l] _
 refine c_seq (c_seq (c_region ?_))
 refine s_y rfl (v := .int .i64 (k : Int)) (y_mv rfl) rfl ?_
 refine s_y rfl (v := .slice A l.length c) (y_mv rfl) rfl ?_
 refine s_y rfl (v := .int .i64 (l.length : Int)) (y_k rfl rfl (fun _ => by kernel_rfl)) rfl ?_
 refine e_by ((k : Int) < (l.length : Int)) (fun h1 => ?_) (fun h1 => ?_)
 ·
  refine s_y rfl (v := .bool true) (y_t (y_k (v := .bool (decide ((k : Int) < (l.length : Int)))) rfl rfl (fun _ => by kernel_rfl)) h1) rfl ?_
  refine s_y rfl (v := .bool true) (y_mv rfl) rfl ?_
  refine st_on 10 rfl rfl rfl (o_y (v := .int .i64 (k : Int)) (y_mv rfl) rfl rfl rfl ?_)
  refine e_by ((k : Int) < 10) (fun h2 => ?_) (fun h2 => ?_)
  ·
   refine st_on 10 rfl rfl rfl (o_y (v := .bool true) (y_t (y_k (v := .bool (decide ((k : Int) < 10))) rfl rfl (fun _ => by kernel_rfl)) h2) rfl rfl rfl ?_)
   refine s_y rfl (v := .bool true) (y_pick rfl rfl) rfl ?_
   refine s_nil (q_then (c_true rfl (c_skip (q_then (c_seq (c_block (c_seq (c_region ?_))))))))
   refine s_y rfl (v := .slice A l.length c) (y_mv rfl) rfl ?_
   refine s_y rfl (v := .int .i64 (k : Int)) (y_mv rfl) rfl ?_
   refine e_at 0 k rfl (by first | omega | (simp only [List.length_append, List.length_map, List.length_take, List.length_drop]; omega)) (fun b1 o1 x1 hA1 hx1 => ?_)
   refine s_y rfl (v := .pointer (some ⟨b1, o1 + k * 11, none⟩)) (y_at (d := rulTy) (l := l) k hA1 rfl rfl rfl (rfl) (List.getElem?_eq_some_iff.1 hx1).1 Tryz.underlying22 (by kernel_rfl) (by kernel_rfl)) rfl ?_
   refine st rfl (o_ldnf 0 0 11 rfl rfl rfl rfl Tryz.underlying42 rfl (by kernel_rfl) (by kernel_rfl) rfl ?_)
   refine st rfl (o_box (cs := [.int .i64 0, .int .i64 0, .int .u64 0, .int .i64 0, .int .i64 0, .int .u64 0, .int .i64 0, .int .i64 0, .int .i64 0, .int .i64 0, .string (⟨#[]⟩ : ByteArray)]) (T := 42) rfl rfl rfl rfl (fun _ => by kernel_rfl) (fun b2 => ?_))
   refine st rfl (o_st 0 rfl rfl rfl rfl rfl (by kernel_rfl) (by kernel_rfl) rfl ?_)
   refine s_nil (q_then (c_seq (c_region ?_)))
   refine s_y rfl (v := .pointer (some ⟨b2, 8, none⟩)) (y_k rfl rfl (fun _ => by kernel_rfl)) rfl ?_
   refine s_y rfl (v := .pointer (some ⟨b2, 10, none⟩)) (y_k rfl rfl (fun _ => by kernel_rfl)) rfl ?_
   refine st rfl (o_ld 0 rfl rfl rfl Tryz.underlying9 rfl rfl ?_)
   refine s_y rfl (v := .pointer (some ⟨b2, 8, none⟩)) (y_k rfl rfl (fun _ => by kernel_rfl)) rfl ?_
   refine s_y rfl (v := .pointer (some ⟨b2, 10, none⟩)) (y_k rfl rfl (fun _ => by kernel_rfl)) rfl ?_
   refine st rfl (o_ld 0 rfl rfl rfl Tryz.underlying9 rfl rfl ?_)
   refine s_y rfl (v := .int .i64 (x1.wh.fm.size : Int)) (y_k rfl rfl (fun _ => by kernel_rfl)) rfl ?_
   refine s_y rfl (v := .int .i64 ((min x1.wh.fm.size 50 : Nat) : Int)) (y_min2 x1.wh.fm.size 50 rfl rfl) rfl ?_
   refine s_y rfl (v := .string (x1.wh.fm.extract 0 (min x1.wh.fm.size 50))) (y_cuts 0 (min x1.wh.fm.size 50) rfl .no (.at (min x1.wh.fm.size 50) rfl (rfl)) Tryz.underlying9 (by have q := hb _ (List.mem_of_getElem? hx1); omega) (by have q := hb _ (List.mem_of_getElem? hx1); omega)) rfl ?_
   refine s_y rfl (v := .pointer (some ⟨b2, 8, none⟩)) (y_k rfl rfl (fun _ => by kernel_rfl)) rfl ?_
   refine s_y rfl (v := .pointer (some ⟨b2, 10, none⟩)) (y_k rfl rfl (fun _ => by kernel_rfl)) rfl ?_
   refine st rfl (o_st 0 rfl rfl rfl rfl rfl (by kernel_rfl) (by kernel_rfl) rfl ?_)
   refine s_nil (q_then (c_region ?_))
   refine s_y rfl (v := .slice Ao o.length co) (y_mv rfl) rfl ?_
   refine st rfl (o_ldn 0 11 rfl rfl rfl rfl Tryz.underlying42 rfl (by kernel_rfl) (by kernel_rfl) rfl ?_)
   refine st rfl (o_lit (cs := [.int .i64 x1.id, .int .i64 x1.fr.lv, .int .u64 (x1.fr.cs : Int), .int .i64 x1.fr.ig, .int .i64 x1.to.lv, .int .u64 (x1.to.cs : Int), .int .i64 x1.to.ig, .int .i64 x1.bu, .int .i64 x1.wh.kd, .int .i64 x1.wh.mx, .string (x1.wh.fm.extract 0 (min x1.wh.fm.size 50))]) (T := 42) (m := 1) rfl rfl rfl rfl (fun _ => by kernel_rfl) (fun b3 => ?_))
   refine st rfl (o_app (l := o) (us := [(⟨x1.id, x1.fr, x1.to, x1.bu, (⟨x1.wh.kd, x1.wh.mx, x1.wh.fm.extract 0 (min x1.wh.fm.size 50)⟩ : Fil)⟩ : Rul)]) 2 rfl rfl rfl rfl rfl (src_pt 0 rfl) Tryz.underlying22 (elem_of (z := .agg #[.int .i64 0, .int .i64 0, .int .u64 0, .int .i64 0, .int .i64 0, .int .u64 0, .int .i64 0, .int .i64 0, .int .i64 0, .int .i64 0, .string (⟨#[]⟩ : ByteArray)]) (sz := 11) (bytes := 96) (by kernel_rfl) rfl) rfl (by rw [ho, List.length_map, List.length_take]; simp only [List.length_cons, List.length_nil]; omega) rfl rfl (fun A1 c1 => ?_))
   refine s_y rfl (v := .slice A1 (o ++ [(⟨x1.id, x1.fr, x1.to, x1.bu, (⟨x1.wh.kd, x1.wh.mx, x1.wh.fm.extract 0 (min x1.wh.fm.size 50)⟩ : Fil)⟩ : Rul)]).length c1) (y_as rfl) rfl ?_
   refine s_nil (q_block (q_then (c_region ?_)))
   refine s_y rfl (v := .int .i64 (k : Int)) (y_mv rfl) rfl ?_
   refine s_y rfl (v := .int .i64 ((k : Int) + 1)) (y_add (r := (k : Int) + 1) rfl rfl rfl (by omega)) rfl ?_
   refine s_y rfl (v := .int .i64 ((k : Int) + 1)) (y_as rfl) rfl ?_
   refine s_nil (q_then ?_)
   refine c_next [2] [1] (k + 1, o ++ [(⟨x1.id, x1.fr, x1.to, x1.bu, (⟨x1.wh.kd, x1.wh.mx, x1.wh.fm.extract 0 (min x1.wh.fm.size 50)⟩ : Fil)⟩ : Rul)], A1, c1) ?_ ?_ ?_ (by rfl) (by rfl)
   · exact (show ((k + 1) ≤ l.length) ∧ ((k + 1) ≤ 10) ∧ ((o ++ [(⟨x1.id, x1.fr, x1.to, x1.bu, (⟨x1.wh.kd, x1.wh.mx, x1.wh.fm.extract 0 (min x1.wh.fm.size 50)⟩ : Fil)⟩ : Rul)]) = (l.take (k + 1)).map cutR) from ⟨by first | omega | simp_all | (simp; done), by first | omega | simp_all | (simp; done), few_step cutR ho hx1⟩)
   · show l.length - (k + 1) < l.length - k; omega
   · exact (.cons rfl rfl (.cons rfl rfl (.cons rfl rfl (.cons rfl (show (.int .i64 ((k : Int) + 1) : Value) = .int .i64 ((k + 1) : Int) from by first | rfl | (congr 1; omega) | (congr 1; simp; done) | (congr 1; simp; omega)) .nil))))
  ·
   refine st_on 10 rfl rfl rfl (o_y (v := .bool false) (y_f (y_k (v := .bool (decide ((k : Int) < 10))) rfl rfl (fun _ => by kernel_rfl)) h2) rfl rfl rfl ?_)
   refine s_y rfl (v := .bool false) (y_pick rfl rfl) rfl ?_
   refine s_nil (q_then (c_false rfl ?_))
   refine c_exit ?_
   refine q_then_exit ?_
   refine q_then_exit ?_
   refine q_block_here ?_
   refine q_then (c_seq (c_region ?_))
   refine s_y rfl (v := .slice Ao o.length co) (y_mv rfl) rfl ?_
   refine s_y rfl (v := .slice Ao o.length co) (y_as rfl) rfl ?_
   refine s_nil (q_then (c_ret ?_))
   refine e_still 0 rfl ?_
   have hp : fewL l = o := by rw [ho]; exact (few_take cutR (by omega) h30).symm
   refine c_fin (I' := [rd rulTy Ao co o]) [] [0, 1] rfl (.tmp rfl .nil) rfl rfl rfl ?_
   rw [hp]
   exact ⟨_, _, rfl, rfl, rfl⟩
 ·
  refine s_y rfl (v := .bool false) (y_f (y_k (v := .bool (decide ((k : Int) < (l.length : Int)))) rfl rfl (fun _ => by kernel_rfl)) h1) rfl ?_
  refine s_y rfl (v := .bool false) (y_mv rfl) rfl ?_
  refine st_off 10 rfl rfl rfl rfl rfl rfl ?_
  refine st_off 10 rfl rfl rfl rfl rfl rfl ?_
  refine s_y rfl (v := .bool false) (y_pick rfl rfl) rfl ?_
  refine s_nil (q_then (c_false rfl ?_))
  refine c_exit ?_
  refine q_then_exit ?_
  refine q_then_exit ?_
  refine q_block_here ?_
  refine q_then (c_seq (c_region ?_))
  refine s_y rfl (v := .slice Ao o.length co) (y_mv rfl) rfl ?_
  refine s_y rfl (v := .slice Ao o.length co) (y_as rfl) rfl ?_
  refine s_nil (q_then (c_ret ?_))
  refine e_still 0 rfl ?_
  have hp : fewL l = o := by rw [ho]; exact (few_take cutR (by omega) h30).symm
  refine c_fin (I' := [rd rulTy Ao co o]) [] [0, 1] rfl (.tmp rfl .nil) rfl rfl rfl ?_
  rw [hp]
  exact ⟨_, _, rfl, rfl, rfl⟩
end Go.Proofs.YthehnjbdkjnlpaaGreatDoor
