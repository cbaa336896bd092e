/- The laws of chapter 15 (journal), walked over the given program; no condition but what stands in each theorem: part JD. -/
import Derived.Test.YthehnjbdkjnlpaaDoorRRB
import Derived.Test.YthehnjbdkjnlpaaDoorRJA
import Derived.Test.YthehnjbdkjnlpaaDoorRJC
set_option linter.unusedVariables false
set_option linter.unusedSimpArgs false
set_option maxRecDepth 100000
set_option maxHeartbeats 8000000
namespace Go.Proofs.YthehnjbdkjnlpaaDoor
open Go Go.Sl Go.RowKit Go.Extern.Stop Go.Stop Go.Extern
set_option maxHeartbeats 4000000 in
theorem jchecked_ (b : Nat) (m : Nat) (B : Option Addr) (d : Nat) (rules : List Rul) (A : Option Addr) (c : Nat) (l : List Jen) (ef : Addr) (es : Addr) (hn : l.length ≤ 1000) (hm : ∀ y ∈ l, jenSm y) (hrn : rules.length ≤ 1000) (hrm : ∀ y ∈ rules, rulSm y) : Con Tryd.prog 27 [.pointer (some ⟨b, 0, none⟩)] [pt b [.slice A l.length c, .slice B rules.length d, .map (some m)] 68, mpi m (fun _ => 0)] [rd rulTy B d rules, rd entTy A c l, cellsAt 2 0 [.iface 154 (.pointer (some ef))], errAt ef, cellsAt 0 0 [.iface 154 (.pointer (some es))], errAt es, cellsAt 1 0 [.iface 121 (.agg #[.pointer (some ⟨4, 57, none⟩)])]] (fun v L' I' => (∃ f1 : Int → Int, (jRight rules l) ∧ (∀ j, f1 j = (spentF l j : Int)) ∧ v = .nilIface ∧ L' = [pt b [.slice A l.length c, .slice B rules.length d, .map (some m)] 68, mpi m f1] ∧ I' = []) ∨ (∃ f1 : Int → Int, (¬ (jRight rules l)) ∧ v = .iface 59 (.agg #[.int .i64 152, .nilIface]) ∧ L' = [pt b [.slice A l.length c, .slice B rules.length d, .map (some m)] 68, mpi m f1] ∧ I' = [])) := by
 refine fn_of Tryd.func27 rfl Tryd.ntmps27 (by kernel_rfl) rfl (fun C => ?_)
 refine c_seq (c_region ?_)
 refine s_y rfl (v := .nilIface) (y_as rfl) rfl ?_
 refine s_nil (q_then (c_seq (c_region ?_)))
 refine s_y rfl (v := .agg #[.int .i64 152, .nilIface]) (y_k rfl rfl (fun _ => by kernel_rfl)) rfl ?_
 refine st rfl (o_box (cs := [.int .i64 0, .nilIface]) (T := 59) rfl rfl rfl rfl (fun _ => by kernel_rfl) (fun b1 => ?_))
 refine st rfl (o_st 0 rfl rfl rfl rfl rfl (by kernel_rfl) (by kernel_rfl) rfl ?_)
 refine s_nil (q_then (c_seq (c_seq (c_region ?_))))
 refine s_y rfl (v := .pointer (some ⟨b, 0, none⟩)) (y_mv rfl) rfl ?_
 refine s_y rfl (v := .pointer (some ⟨b, 0, none⟩)) (y_k rfl rfl (fun _ => by kernel_rfl)) rfl ?_
 refine s_y rfl (v := .pointer (some ⟨b, 1, none⟩)) (y_k rfl rfl (fun _ => by kernel_rfl)) rfl ?_
 refine st rfl (o_ld 1 rfl rfl rfl Tryd.underlying22 rfl rfl ?_)
 refine st rfl (o_call [] [0, 2, 3] (ruRight_ B d rules ef (by first | omega | (simp; done) | (simp; omega) | assumption) (by assumption)) rfl rfl rfl rfl rfl rfl (fun v L' I' hq1 => ?_))
 obtain ⟨hv1, rfl, rfl⟩ := hq1
 refine e_by (rulesR rules) (fun h1 => ?_) (fun h1 => ?_)
 ·
  obtain rfl : v = .bool true := by rw [hv1, decide_eq_true h1]
  refine s_y rfl (v := .bool false) (y_k rfl rfl (fun _ => by kernel_rfl)) rfl ?_
  refine s_nil (q_then (c_false rfl (c_skip (q_then (c_seq (c_region ?_))))))
  refine s_y rfl (v := .int .i64 0) (y_as rfl) rfl ?_
  refine s_nil (q_then (c_seq (c_seq (c_region ?_))))
  refine s_y rfl (v := .pointer (some ⟨b, 0, none⟩)) (y_mv rfl) rfl ?_
  refine s_y rfl (v := .pointer (some ⟨b, 0, none⟩)) (y_k rfl rfl (fun _ => by kernel_rfl)) rfl ?_
  refine s_y rfl (v := .pointer (some ⟨b, 0, none⟩)) (y_k rfl rfl (fun _ => by kernel_rfl)) rfl ?_
  refine s_y rfl (v := .pointer (some ⟨b, 0, none⟩)) (y_k rfl rfl (fun _ => by kernel_rfl)) rfl ?_
  refine st rfl (o_ld 1 rfl rfl rfl Tryd.underlying23 rfl rfl ?_)
  refine s_y rfl (v := .int .i64 (l.length : Int)) (y_k rfl rfl (fun _ => by kernel_rfl)) rfl ?_
  refine s_y rfl (v := .int .i64 0) (y_mv rfl) rfl ?_
  refine s_nil (q_then (c_block ?_))
  refine c_loopn (ι := Nat × Int × (Int → Int)) (fun (k, last, f) => (k ≤ l.length) ∧ (last = lastSt (l.take k)) ∧ (∀ j, f j = (spentF (l.take k) j : Int)) ∧ (jFrom rules [] l ↔ jFrom rules (l.take k) (l.drop k))) (fun (k, last, f) => [(0, .pointer (some ⟨b, 0, none⟩)), (3, .pointer (some ⟨b1, 0, none⟩)), (4, .int .i64 last), (23, .slice A l.length c), (24, .int .i64 (l.length : Int)), (25, .int .i64 (k : Int))]) (fun (k, last, f) => [pt b [.slice A l.length c, .slice B rules.length d, .map (some m)] 68, mpi m f, pt b1 [.int .i64 152, .nilIface] 59]) (fun (k, last, f) => [rd rulTy B d rules, rd entTy A c l, cellsAt 2 0 [.iface 154 (.pointer (some ef))], errAt ef, cellsAt 0 0 [.iface 154 (.pointer (some es))], errAt es, cellsAt 1 0 [.iface 121 (.agg #[.pointer (some ⟨4, 57, none⟩)])]]) (fun (k, last, f) => l.length - k) (0, 0, (fun _ => 0)) [1, 1, 0] [0, 1, 2, 3, 4, 5, 6] (show (0 ≤ l.length) ∧ (0 = lastSt (l.take 0)) ∧ (∀ j, (fun _ => 0) j = (spentF (l.take 0) j : Int)) ∧ (jFrom rules [] l ↔ jFrom rules (l.take 0) (l.drop 0)) from ⟨by first | omega | simp_all | (simp; done), rfl, fun j => rfl, by rw [List.take_zero, List.drop_zero]⟩) ((.cons rfl rfl (.cons rfl rfl (.cons rfl rfl (.cons rfl rfl (.cons rfl rfl (.cons rfl rfl .nil))))))) rfl rfl ?_
  rintro ⟨k, last, f⟩ ⟨hk, hlast, hf, hF⟩
  show Ent 75 C [(0, .pointer (some ⟨b, 0, none⟩)), (3, .pointer (some ⟨b1, 0, none⟩)), (4, .int .i64 last), (23, .slice A l.length c), (24, .int .i64 (l.length : Int)), (25, .int .i64 (k : Int))] [] [pt b [.slice A l.length c, .slice B rules.length d, .map (some m)] 68, mpi m f, pt b1 [.int .i64 152, .nilIface] 59] [rd rulTy B d rules, rd entTy A c l, cellsAt 2 0 [.iface 154 (.pointer (some ef))], errAt ef, cellsAt 0 0 [.iface 154 (.pointer (some es))], errAt es, cellsAt 1 0 [.iface 121 (.agg #[.pointer (some ⟨4, 57, none⟩)])]] _
  refine c_seq (c_region ?_)
  refine e_by ((k : Int) < (l.length : Int)) (fun h2 => ?_) (fun h2 => ?_)
  ·
   refine s_y rfl (v := .bool true) (y_t (y_k (v := .bool (decide ((k : Int) < (l.length : Int)))) rfl rfl (fun _ => by kernel_rfl)) h2) rfl ?_
   refine s_nil (q_then (c_seq (c_true rfl (c_skip (q_then (c_seq (c_block (c_seq (c_region ?_)))))))))
   refine e_at 1 k rfl (by first | omega | (simp only [List.length_append, List.length_map, List.length_take, List.length_drop]; omega)) (fun b2 o1 x1 hA1 hx1 => ?_)
   refine s_y rfl (v := .pointer (some ⟨b2, o1 + k * 6, none⟩)) (y_at (d := entTy) (l := l) k hA1 rfl rfl rfl (rfl) (List.getElem?_eq_some_iff.1 hx1).1 Tryd.underlying23 (by kernel_rfl) (by kernel_rfl)) rfl ?_
   refine st rfl (o_ldnf 0 0 6 rfl rfl rfl rfl Tryd.underlying46 rfl (by kernel_rfl) (by kernel_rfl) rfl ?_)
   refine st rfl (o_box (cs := [.int .i64 0, .int .i64 0, .int .i64 0, .int .u64 0, .int .i64 0, .string (⟨#[]⟩ : ByteArray)]) (T := 46) rfl rfl rfl rfl (fun _ => by kernel_rfl) (fun b3 => ?_))
   refine st rfl (o_st 0 rfl rfl rfl rfl rfl (by kernel_rfl) (by kernel_rfl) rfl ?_)
   refine s_nil (q_then (c_seq ?_))
   refine c_drawx (l := ticked 13 0) [(⟨b, 1, none⟩, .slice B rules.length d), (⟨b3, 1, none⟩, .int .i64 x1.ru)] [] (by kernel_rfl) rfl rfl (fun Y back => ?_)
   have cut1 : ∀ (r1 : Rul) (b4 : Nat) (h3 : findR rules x1.ru = some r1), Ent 75 C [(0, .pointer (some ⟨b, 0, none⟩)), (3, .pointer (some ⟨b1, 0, none⟩)), (4, .int .i64 last), (6, .pointer (some ⟨b3, 0, none⟩)), (7, .pointer (some ⟨b4, 0, none⟩)), (8, .bool true), (23, .slice A l.length c), (24, .int .i64 (l.length : Int)), (25, .int .i64 (k : Int)), (26, .bool true), (27, .pointer (some ⟨b2, o1 + k * 6, none⟩)), (28, .agg #[.int .i64 x1.st, .int .i64 x1.ru, .int .i64 x1.to.lv, .int .u64 (x1.to.cs : Int), .int .i64 x1.to.ig, .string x1.da]), (29, .tuple #[.agg #[.int .i64 r1.id, .int .i64 r1.fr.lv, .int .u64 (r1.fr.cs : Int), .int .i64 r1.fr.ig, .int .i64 r1.to.lv, .int .u64 (r1.to.cs : Int), .int .i64 r1.to.ig, .int .i64 r1.bu, .int .i64 r1.wh.kd, .int .i64 r1.wh.mx, .string r1.wh.fm], .bool true]), (30, .pointer (some ⟨b, 0, none⟩)), (31, .pointer (some ⟨b, 0, none⟩)), (32, .pointer (some ⟨b, 1, none⟩)), (33, .slice B rules.length d), (34, .pointer (some ⟨b3, 1, none⟩)), (35, .int .i64 x1.ru), (36, .tuple #[.agg #[.int .i64 r1.id, .int .i64 r1.fr.lv, .int .u64 (r1.fr.cs : Int), .int .i64 r1.fr.ig, .int .i64 r1.to.lv, .int .u64 (r1.to.cs : Int), .int .i64 r1.to.ig, .int .i64 r1.bu, .int .i64 r1.wh.kd, .int .i64 r1.wh.mx, .string r1.wh.fm], .bool true]), (37, .agg #[.int .i64 r1.id, .int .i64 r1.fr.lv, .int .u64 (r1.fr.cs : Int), .int .i64 r1.fr.ig, .int .i64 r1.to.lv, .int .u64 (r1.to.cs : Int), .int .i64 r1.to.ig, .int .i64 r1.bu, .int .i64 r1.wh.kd, .int .i64 r1.wh.mx, .string r1.wh.fm]), (38, .bool true)] [] [pt b4 [.int .i64 r1.id, .int .i64 r1.fr.lv, .int .u64 (r1.fr.cs : Int), .int .i64 r1.fr.ig, .int .i64 r1.to.lv, .int .u64 (r1.to.cs : Int), .int .i64 r1.to.ig, .int .i64 r1.bu, .int .i64 r1.wh.kd, .int .i64 r1.wh.mx, .string r1.wh.fm] 41, pt b3 [.int .i64 x1.st, .int .i64 x1.ru, .int .i64 x1.to.lv, .int .u64 (x1.to.cs : Int), .int .i64 x1.to.ig, .string x1.da] 46, pt b [.slice A l.length c, .slice B rules.length d, .map (some m)] 68, mpi m f, pt b1 [.int .i64 152, .nilIface] 59] [cellsAt b2 (o1 + k * 6) [.int .i64 x1.st, .int .i64 x1.ru, .int .i64 x1.to.lv, .int .u64 (x1.to.cs : Int), .int .i64 x1.to.ig, .string x1.da], rd rulTy B d rules, rd entTy A c l, cellsAt 2 0 [.iface 154 (.pointer (some ef))], errAt ef, cellsAt 0 0 [.iface 154 (.pointer (some es))], errAt es, cellsAt 1 0 [.iface 121 (.agg #[.pointer (some ⟨4, 57, none⟩)])]] Y := by
    intro r1 b4 h3
    refine back ?_
    refine q_then (c_seq (c_region ?_))
    refine s_y rfl (v := .pointer (some ⟨b3, 0, none⟩)) (y_k rfl rfl (fun _ => by kernel_rfl)) rfl ?_
    refine st rfl (o_ld 1 rfl rfl rfl Tryd.underlying3 rfl rfl ?_)
    refine s_y rfl (v := .pointer (some ⟨b4, 0, none⟩)) (y_k rfl rfl (fun _ => by kernel_rfl)) rfl ?_
    refine st rfl (o_ld 0 rfl rfl rfl Tryd.underlying3 rfl rfl ?_)
    refine s_y rfl (v := .pointer (some ⟨b4, 4, none⟩)) (y_k rfl rfl (fun _ => by kernel_rfl)) rfl ?_
    refine st rfl (o_ldn 0 3 rfl rfl rfl rfl Tryd.underlying26 rfl (by kernel_rfl) (by kernel_rfl) rfl ?_)
    refine s_y rfl (v := .pointer (some ⟨b3, 5, none⟩)) (y_k rfl rfl (fun _ => by kernel_rfl)) rfl ?_
    refine st rfl (o_ld 1 rfl rfl rfl Tryd.underlying9 rfl rfl ?_)
    refine s_y rfl (v := .agg #[.int .i64 x1.st, .int .i64 r1.id, .int .i64 r1.to.lv, .int .u64 (r1.to.cs : Int), .int .i64 r1.to.ig, .string x1.da]) (y_k rfl rfl (fun _ => by kernel_rfl)) rfl ?_
    refine st rfl (o_box (cs := [.int .i64 0, .int .i64 0, .int .i64 0, .int .u64 0, .int .i64 0, .string (⟨#[]⟩ : ByteArray)]) (T := 46) rfl rfl rfl rfl (fun _ => by kernel_rfl) (fun b5 => ?_))
    refine st rfl (o_st 0 rfl rfl rfl rfl rfl (by kernel_rfl) (by kernel_rfl) rfl ?_)
    refine s_nil (q_then (c_seq (c_seq (c_region ?_))))
    refine s_y rfl (v := .bool true) (y_mv rfl) rfl ?_
    refine s_y rfl (v := .bool false) (y_k rfl rfl (fun _ => by kernel_rfl)) rfl ?_
    refine s_y rfl (v := .bool false) (y_mv rfl) rfl ?_
    refine st_on 50 rfl rfl rfl (o_ldn 2 6 rfl rfl rfl rfl Tryd.underlying46 rfl (by kernel_rfl) (by kernel_rfl) rfl ?_)
    refine st_on 50 rfl rfl rfl (o_ldn 0 6 rfl rfl rfl rfl Tryd.underlying46 rfl (by kernel_rfl) (by kernel_rfl) rfl ?_)
    refine e_by (x1 = (⟨x1.st, r1.id, r1.to, x1.da⟩ : Jen)) (fun h4 => ?_) (fun h4 => ?_)
    ·
     refine st_on 50 rfl rfl rfl (o_y (v := .bool false) (y_nt (y_bin rfl rfl (fun w => eq_Jenn x1 (⟨x1.st, r1.id, r1.to, x1.da⟩ : Jen) w)) h4) rfl rfl rfl ?_)
     refine s_y rfl (v := .bool false) (y_pick rfl rfl) rfl ?_
     refine s_y rfl (v := .bool false) (y_mv rfl) rfl ?_
     refine st_on 55 rfl rfl rfl (o_y (v := .pointer (some ⟨b3, 0, none⟩)) (y_k rfl rfl (fun _ => by kernel_rfl)) rfl rfl rfl ?_)
     refine st_on 55 rfl rfl rfl (o_ld 2 rfl rfl rfl Tryd.underlying3 rfl rfl ?_)
     refine st_on 55 rfl rfl rfl (o_y (v := .int .i64 last) (y_mv rfl) rfl rfl rfl ?_)
     refine st_on 55 rfl rfl rfl (o_call [] [] (isNext_ x1.st last) rfl rfl rfl rfl rfl rfl (fun v L' I' hq2 => ?_))
     obtain ⟨hv2, rfl, rfl⟩ := hq2
     refine e_by (last < x1.st ∧ 1 ≤ x1.st ∧ x1.st ≤ 400) (fun h5 => ?_) (fun h5 => ?_)
     ·
      obtain rfl : v = .bool true := by rw [hv2, decide_eq_true h5]
      refine st_on 55 rfl rfl rfl (o_y (v := .bool false) (y_k rfl rfl (fun _ => by kernel_rfl)) rfl rfl rfl ?_)
      refine s_y rfl (v := .bool false) (y_pick rfl rfl) rfl ?_
      refine s_y rfl (v := .bool false) (y_mv rfl) rfl ?_
      refine st_on 62 rfl rfl rfl (o_y (v := .pointer (some ⟨b, 0, none⟩)) (y_mv rfl) rfl rfl rfl ?_)
      refine st_on 62 rfl rfl rfl (o_ldn 1 11 rfl rfl rfl rfl Tryd.underlying41 rfl (by kernel_rfl) (by kernel_rfl) rfl ?_)
      refine st_on 62 rfl rfl rfl (o_y (v := .pointer (some ⟨b3, 5, none⟩)) (y_k rfl rfl (fun _ => by kernel_rfl)) rfl rfl rfl ?_)
      refine st_on 62 rfl rfl rfl (o_ld 2 rfl rfl rfl Tryd.underlying9 rfl rfl ?_)
      refine st_on 62 rfl rfl rfl (o_call [3, 3] [3, 4, 5, 6, 7] (jpass_ b m f (.slice A l.length c : Value) (.slice B rules.length d : Value) r1 x1.da ef es (by rw [hf]; exact jf_bound hm hn) (hrm _ (find_id (by assumption)).2) (by have := hm x1 (List.mem_of_getElem? hx1); unfold jenSm at this; omega)) rfl rfl rfl rfl rfl rfl (fun v L' I' hq3 => ?_))
      rcases hq3 with ⟨h6, rfl, rfl, rfl⟩ | ⟨h7, h8, rfl, rfl, rfl⟩ | ⟨h9, h10, rfl, rfl, rfl⟩
      ·
       refine st_on 62 rfl rfl rfl (o_y (v := .bool true) (y_k rfl rfl (fun _ => by kernel_rfl)) rfl rfl rfl ?_)
       refine s_y rfl (v := .bool true) (y_pick rfl rfl) rfl ?_
       refine s_nil (q_then (c_true rfl (c_seq (c_region ?_))))
       refine st rfl (o_ldn 5 2 rfl rfl rfl rfl Tryd.underlying59 rfl (by kernel_rfl) (by kernel_rfl) rfl ?_)
       refine s_y rfl (v := .iface 59 (.agg #[.int .i64 152, .nilIface])) (y_k rfl rfl (fun _ => by kernel_rfl)) rfl ?_
       refine s_y rfl (v := .iface 59 (.agg #[.int .i64 152, .nilIface])) (y_as rfl) rfl ?_
       refine s_nil (q_then (c_ret (q_then_ret (q_block_ret (q_then_ret (q_then_ret (q_block_ret (q_then_ret ?_))))))))
       refine c_fin (I' := []) [0, 0] [1, 2, 3, 4, 5, 6, 7] rfl (.tmp rfl .nil) rfl rfl rfl ?_
       exact .inr ⟨f, by first | exact fun q => absurd q.1 (by assumption) | exact fun q => jOk_none (by assumption) (((jFrom_at hx1).1 (hF.1 q.2)).1) | exact fun q => by have q2 := (jOk_some (by assumption)).1 (((jFrom_at hx1).1 (hF.1 q.2)).1); obtain ⟨q3, q4, q5, q6⟩ := q2; first | exact absurd q4 (by first | assumption | (rw [hlast] at *; assumption)) | exact absurd q5 (by assumption) | exact jf_over hf (find_id (by assumption)).1 (by assumption) q6 | (have hid := (find_id (by assumption)).1; have hne := (by assumption : ¬ x1 = _); exact hne (jen_eq hid q3)), rfl, rfl, rfl⟩
      ·
       refine st_on 62 rfl rfl rfl (o_y (v := .bool true) (y_k rfl rfl (fun _ => by kernel_rfl)) rfl rfl rfl ?_)
       refine s_y rfl (v := .bool true) (y_pick rfl rfl) rfl ?_
       refine s_nil (q_then (c_true rfl (c_seq (c_region ?_))))
       refine st rfl (o_ldn 5 2 rfl rfl rfl rfl Tryd.underlying59 rfl (by kernel_rfl) (by kernel_rfl) rfl ?_)
       refine s_y rfl (v := .iface 59 (.agg #[.int .i64 152, .nilIface])) (y_k rfl rfl (fun _ => by kernel_rfl)) rfl ?_
       refine s_y rfl (v := .iface 59 (.agg #[.int .i64 152, .nilIface])) (y_as rfl) rfl ?_
       refine s_nil (q_then (c_ret (q_then_ret (q_block_ret (q_then_ret (q_then_ret (q_block_ret (q_then_ret ?_))))))))
       refine c_fin (I' := []) [0, 0] [1, 2, 3, 4, 5, 6, 7] rfl (.tmp rfl .nil) rfl rfl rfl ?_
       exact .inr ⟨(fun j => if j = r1.id then (f r1.id) + (x1.da.size : Int) else f j), by first | exact fun q => absurd q.1 (by assumption) | exact fun q => jOk_none (by assumption) (((jFrom_at hx1).1 (hF.1 q.2)).1) | exact fun q => by have q2 := (jOk_some (by assumption)).1 (((jFrom_at hx1).1 (hF.1 q.2)).1); obtain ⟨q3, q4, q5, q6⟩ := q2; first | exact absurd q4 (by first | assumption | (rw [hlast] at *; assumption)) | exact absurd q5 (by assumption) | exact jf_over hf (find_id (by assumption)).1 (by assumption) q6 | (have hid := (find_id (by assumption)).1; have hne := (by assumption : ¬ x1 = _); exact hne (jen_eq hid q3)), rfl, rfl, rfl⟩
      ·
       refine st_on 62 rfl rfl rfl (o_y (v := .bool false) (y_k rfl rfl (fun _ => by kernel_rfl)) rfl rfl rfl ?_)
       refine s_y rfl (v := .bool false) (y_pick rfl rfl) rfl ?_
       refine s_nil (q_then (c_false rfl (c_skip (q_then (c_region ?_)))))
       refine s_y rfl (v := .pointer (some ⟨b3, 0, none⟩)) (y_k rfl rfl (fun _ => by kernel_rfl)) rfl ?_
       refine st rfl (o_ld 4 rfl rfl rfl Tryd.underlying3 rfl rfl ?_)
       refine s_y rfl (v := .int .i64 x1.st) (y_as rfl) rfl ?_
       refine s_nil (q_block (q_then (c_region ?_)))
       refine s_y rfl (v := .int .i64 ((k : Int) + 1)) (y_add (r := (k : Int) + 1) rfl rfl rfl (by omega)) rfl ?_
       refine s_y rfl (v := .int .i64 ((k : Int) + 1)) (y_mv rfl) rfl ?_
       refine s_nil (q_then ?_)
       refine c_next [0, 0, 3] [1, 2, 3, 4, 5, 6, 7] (k + 1, x1.st, fun j => if j = r1.id then (f r1.id) + (x1.da.size : Int) else f j) ?_ ?_ ?_ (by rfl) (by rfl)
       · exact (show ((k + 1) ≤ l.length) ∧ (x1.st = lastSt (l.take (k + 1))) ∧ (∀ j, (fun j => if j = r1.id then (f r1.id) + (x1.da.size : Int) else f j) j = (spentF (l.take (k + 1)) j : Int)) ∧ (jFrom rules [] l ↔ jFrom rules (l.take (k + 1)) (l.drop (k + 1))) from ⟨by first | omega | simp_all | (simp; done), (last_at hx1).symm, jf_step hf hx1 (find_id (by assumption)).1, hF.trans ((jFrom_at hx1).trans ⟨fun q => q.2, fun q => ⟨(by have hid := (find_id (by assumption)).1; have he := jen_to (by assumption : x1 = _); exact (jOk_some (by assumption)).2 ⟨he, by rw [← hlast]; first | assumption | omega, by assumption, by rw [← hid, ← hf]; omega⟩), q⟩⟩)⟩)
       · show l.length - (k + 1) < l.length - k; omega
       · exact (.cons rfl rfl (.cons rfl rfl (.cons rfl rfl (.cons rfl rfl (.cons rfl rfl (.cons rfl (show (.int .i64 ((k : Int) + 1) : Value) = .int .i64 ((k + 1) : Int) from by first | rfl | (congr 1; omega) | (congr 1; simp; done) | (congr 1; simp; omega)) .nil))))))
     ·
      obtain rfl : v = .bool false := by rw [hv2, decide_eq_false h5]
      refine st_on 55 rfl rfl rfl (o_y (v := .bool true) (y_k rfl rfl (fun _ => by kernel_rfl)) rfl rfl rfl ?_)
      refine s_y rfl (v := .bool true) (y_pick rfl rfl) rfl ?_
      refine s_y rfl (v := .bool true) (y_mv rfl) rfl ?_
      refine st_off 62 rfl rfl rfl rfl rfl rfl ?_
      refine st_off 62 rfl rfl rfl rfl rfl rfl ?_
      refine st_off 62 rfl rfl rfl rfl rfl rfl ?_
      refine st_off 62 rfl rfl rfl rfl rfl rfl ?_
      refine st_off 62 rfl rfl rfl rfl rfl rfl ?_
      refine st_off 62 rfl rfl rfl rfl rfl rfl ?_
      refine s_y rfl (v := .bool true) (y_pick rfl rfl) rfl ?_
      refine s_nil (q_then (c_true rfl (c_seq (c_region ?_))))
      refine st rfl (o_ldn 5 2 rfl rfl rfl rfl Tryd.underlying59 rfl (by kernel_rfl) (by kernel_rfl) rfl ?_)
      refine s_y rfl (v := .iface 59 (.agg #[.int .i64 152, .nilIface])) (y_k rfl rfl (fun _ => by kernel_rfl)) rfl ?_
      refine s_y rfl (v := .iface 59 (.agg #[.int .i64 152, .nilIface])) (y_as rfl) rfl ?_
      refine s_nil (q_then (c_ret (q_then_ret (q_block_ret (q_then_ret (q_then_ret (q_block_ret (q_then_ret ?_))))))))
      refine c_fin (I' := []) [3, 3] [1, 2, 3, 4, 5, 6, 7] rfl (.tmp rfl .nil) rfl rfl rfl ?_
      exact .inr ⟨f, by first | exact fun q => absurd q.1 (by assumption) | exact fun q => jOk_none (by assumption) (((jFrom_at hx1).1 (hF.1 q.2)).1) | exact fun q => by have q2 := (jOk_some (by assumption)).1 (((jFrom_at hx1).1 (hF.1 q.2)).1); obtain ⟨q3, q4, q5, q6⟩ := q2; first | exact absurd q4 (by first | assumption | (rw [hlast] at *; assumption)) | exact absurd q5 (by assumption) | exact jf_over hf (find_id (by assumption)).1 (by assumption) q6 | (have hid := (find_id (by assumption)).1; have hne := (by assumption : ¬ x1 = _); exact hne (jen_eq hid q3)), rfl, rfl, rfl⟩
    ·
     refine st_on 50 rfl rfl rfl (o_y (v := .bool true) (y_nf (y_bin rfl rfl (fun w => eq_Jenn x1 (⟨x1.st, r1.id, r1.to, x1.da⟩ : Jen) w)) h4) rfl rfl rfl ?_)
     refine s_y rfl (v := .bool true) (y_pick rfl rfl) rfl ?_
     refine s_y rfl (v := .bool true) (y_mv rfl) rfl ?_
     refine st_off 55 rfl rfl rfl rfl rfl rfl ?_
     refine st_off 55 rfl rfl rfl rfl rfl rfl ?_
     refine st_off 55 rfl rfl rfl rfl rfl rfl ?_
     refine st_off 55 rfl rfl rfl rfl rfl rfl ?_
     refine st_off 55 rfl rfl rfl rfl rfl rfl ?_
     refine s_y rfl (v := .bool true) (y_pick rfl rfl) rfl ?_
     refine s_y rfl (v := .bool true) (y_mv rfl) rfl ?_
     refine st_off 62 rfl rfl rfl rfl rfl rfl ?_
     refine st_off 62 rfl rfl rfl rfl rfl rfl ?_
     refine st_off 62 rfl rfl rfl rfl rfl rfl ?_
     refine st_off 62 rfl rfl rfl rfl rfl rfl ?_
     refine st_off 62 rfl rfl rfl rfl rfl rfl ?_
     refine st_off 62 rfl rfl rfl rfl rfl rfl ?_
     refine s_y rfl (v := .bool true) (y_pick rfl rfl) rfl ?_
     refine s_nil (q_then (c_true rfl (c_seq (c_region ?_))))
     refine st rfl (o_ldn 5 2 rfl rfl rfl rfl Tryd.underlying59 rfl (by kernel_rfl) (by kernel_rfl) rfl ?_)
     refine s_y rfl (v := .iface 59 (.agg #[.int .i64 152, .nilIface])) (y_k rfl rfl (fun _ => by kernel_rfl)) rfl ?_
     refine s_y rfl (v := .iface 59 (.agg #[.int .i64 152, .nilIface])) (y_as rfl) rfl ?_
     refine s_nil (q_then (c_ret (q_then_ret (q_block_ret (q_then_ret (q_then_ret (q_block_ret (q_then_ret ?_))))))))
     refine c_fin (I' := []) [3, 3] [1, 2, 3, 4, 5, 6, 7] rfl (.tmp rfl .nil) rfl rfl rfl ?_
     exact .inr ⟨f, by first | exact fun q => absurd q.1 (by assumption) | exact fun q => jOk_none (by assumption) (((jFrom_at hx1).1 (hF.1 q.2)).1) | exact fun q => by have q2 := (jOk_some (by assumption)).1 (((jFrom_at hx1).1 (hF.1 q.2)).1); obtain ⟨q3, q4, q5, q6⟩ := q2; first | exact absurd q4 (by first | assumption | (rw [hlast] at *; assumption)) | exact absurd q5 (by assumption) | exact jf_over hf (find_id (by assumption)).1 (by assumption) q6 | (have hid := (find_id (by assumption)).1; have hne := (by assumption : ¬ x1 = _); exact hne (jen_eq hid q3)), rfl, rfl, rfl⟩
   have cut2 : ∀ (b6 : Nat) (h11 : findR rules x1.ru = none), Ent 75 C [(0, .pointer (some ⟨b, 0, none⟩)), (3, .pointer (some ⟨b1, 0, none⟩)), (4, .int .i64 last), (6, .pointer (some ⟨b3, 0, none⟩)), (7, .pointer (some ⟨b6, 0, none⟩)), (8, .bool false), (23, .slice A l.length c), (24, .int .i64 (l.length : Int)), (25, .int .i64 (k : Int)), (26, .bool true), (27, .pointer (some ⟨b2, o1 + k * 6, none⟩)), (28, .agg #[.int .i64 x1.st, .int .i64 x1.ru, .int .i64 x1.to.lv, .int .u64 (x1.to.cs : Int), .int .i64 x1.to.ig, .string x1.da]), (29, .tuple #[.agg #[.int .i64 0, .int .i64 0, .int .u64 0, .int .i64 0, .int .i64 0, .int .u64 0, .int .i64 0, .int .i64 0, .int .i64 0, .int .i64 0, .string (⟨#[]⟩ : ByteArray)], .bool false]), (30, .pointer (some ⟨b, 0, none⟩)), (31, .pointer (some ⟨b, 0, none⟩)), (32, .pointer (some ⟨b, 1, none⟩)), (33, .slice B rules.length d), (34, .pointer (some ⟨b3, 1, none⟩)), (35, .int .i64 x1.ru), (36, .tuple #[.agg #[.int .i64 0, .int .i64 0, .int .u64 0, .int .i64 0, .int .i64 0, .int .u64 0, .int .i64 0, .int .i64 0, .int .i64 0, .int .i64 0, .string (⟨#[]⟩ : ByteArray)], .bool false]), (37, .agg #[.int .i64 0, .int .i64 0, .int .u64 0, .int .i64 0, .int .i64 0, .int .u64 0, .int .i64 0, .int .i64 0, .int .i64 0, .int .i64 0, .string (⟨#[]⟩ : ByteArray)]), (38, .bool false)] [] [pt b6 [.int .i64 0, .int .i64 0, .int .u64 0, .int .i64 0, .int .i64 0, .int .u64 0, .int .i64 0, .int .i64 0, .int .i64 0, .int .i64 0, .string (⟨#[]⟩ : ByteArray)] 41, pt b3 [.int .i64 x1.st, .int .i64 x1.ru, .int .i64 x1.to.lv, .int .u64 (x1.to.cs : Int), .int .i64 x1.to.ig, .string x1.da] 46, pt b [.slice A l.length c, .slice B rules.length d, .map (some m)] 68, mpi m f, pt b1 [.int .i64 152, .nilIface] 59] [cellsAt b2 (o1 + k * 6) [.int .i64 x1.st, .int .i64 x1.ru, .int .i64 x1.to.lv, .int .u64 (x1.to.cs : Int), .int .i64 x1.to.ig, .string x1.da], rd rulTy B d rules, rd entTy A c l, cellsAt 2 0 [.iface 154 (.pointer (some ef))], errAt ef, cellsAt 0 0 [.iface 154 (.pointer (some es))], errAt es, cellsAt 1 0 [.iface 121 (.agg #[.pointer (some ⟨4, 57, none⟩)])]] Y := by
    intro b6 h11
    refine back ?_
    refine q_then (c_seq (c_region ?_))
    refine s_y rfl (v := .pointer (some ⟨b3, 0, none⟩)) (y_k rfl rfl (fun _ => by kernel_rfl)) rfl ?_
    refine st rfl (o_ld 1 rfl rfl rfl Tryd.underlying3 rfl rfl ?_)
    refine s_y rfl (v := .pointer (some ⟨b6, 0, none⟩)) (y_k rfl rfl (fun _ => by kernel_rfl)) rfl ?_
    refine st rfl (o_ld 0 rfl rfl rfl Tryd.underlying3 rfl rfl ?_)
    refine s_y rfl (v := .pointer (some ⟨b6, 4, none⟩)) (y_k rfl rfl (fun _ => by kernel_rfl)) rfl ?_
    refine st rfl (o_ldn 0 3 rfl rfl rfl rfl Tryd.underlying26 rfl (by kernel_rfl) (by kernel_rfl) rfl ?_)
    refine s_y rfl (v := .pointer (some ⟨b3, 5, none⟩)) (y_k rfl rfl (fun _ => by kernel_rfl)) rfl ?_
    refine st rfl (o_ld 1 rfl rfl rfl Tryd.underlying9 rfl rfl ?_)
    refine s_y rfl (v := .agg #[.int .i64 x1.st, .int .i64 0, .int .i64 0, .int .u64 0, .int .i64 0, .string x1.da]) (y_k rfl rfl (fun _ => by kernel_rfl)) rfl ?_
    refine st rfl (o_box (cs := [.int .i64 0, .int .i64 0, .int .i64 0, .int .u64 0, .int .i64 0, .string (⟨#[]⟩ : ByteArray)]) (T := 46) rfl rfl rfl rfl (fun _ => by kernel_rfl) (fun b7 => ?_))
    refine st rfl (o_st 0 rfl rfl rfl rfl rfl (by kernel_rfl) (by kernel_rfl) rfl ?_)
    refine s_nil (q_then (c_seq (c_seq (c_region ?_))))
    refine s_y rfl (v := .bool false) (y_mv rfl) rfl ?_
    refine s_y rfl (v := .bool true) (y_k rfl rfl (fun _ => by kernel_rfl)) rfl ?_
    refine s_y rfl (v := .bool true) (y_mv rfl) rfl ?_
    refine st_off 50 rfl rfl rfl rfl rfl rfl ?_
    refine st_off 50 rfl rfl rfl rfl rfl rfl ?_
    refine st_off 50 rfl rfl rfl rfl rfl rfl ?_
    refine s_y rfl (v := .bool true) (y_pick rfl rfl) rfl ?_
    refine s_y rfl (v := .bool true) (y_mv rfl) rfl ?_
    refine st_off 55 rfl rfl rfl rfl rfl rfl ?_
    refine st_off 55 rfl rfl rfl rfl rfl rfl ?_
    refine st_off 55 rfl rfl rfl rfl rfl rfl ?_
    refine st_off 55 rfl rfl rfl rfl rfl rfl ?_
    refine st_off 55 rfl rfl rfl rfl rfl rfl ?_
    refine s_y rfl (v := .bool true) (y_pick rfl rfl) rfl ?_
    refine s_y rfl (v := .bool true) (y_mv rfl) rfl ?_
    refine st_off 62 rfl rfl rfl rfl rfl rfl ?_
    refine st_off 62 rfl rfl rfl rfl rfl rfl ?_
    refine st_off 62 rfl rfl rfl rfl rfl rfl ?_
    refine st_off 62 rfl rfl rfl rfl rfl rfl ?_
    refine st_off 62 rfl rfl rfl rfl rfl rfl ?_
    refine st_off 62 rfl rfl rfl rfl rfl rfl ?_
    refine s_y rfl (v := .bool true) (y_pick rfl rfl) rfl ?_
    refine s_nil (q_then (c_true rfl (c_seq (c_region ?_))))
    refine st rfl (o_ldn 5 2 rfl rfl rfl rfl Tryd.underlying59 rfl (by kernel_rfl) (by kernel_rfl) rfl ?_)
    refine s_y rfl (v := .iface 59 (.agg #[.int .i64 152, .nilIface])) (y_k rfl rfl (fun _ => by kernel_rfl)) rfl ?_
    refine s_y rfl (v := .iface 59 (.agg #[.int .i64 152, .nilIface])) (y_as rfl) rfl ?_
    refine s_nil (q_then (c_ret (q_then_ret (q_block_ret (q_then_ret (q_then_ret (q_block_ret (q_then_ret ?_))))))))
    refine c_fin (I' := []) [3, 3] [1, 2, 3, 4, 5, 6, 7] rfl (.tmp rfl .nil) rfl rfl rfl ?_
    exact .inr ⟨f, by first | exact fun q => absurd q.1 (by assumption) | exact fun q => jOk_none (by assumption) (((jFrom_at hx1).1 (hF.1 q.2)).1) | exact fun q => by have q2 := (jOk_some (by assumption)).1 (((jFrom_at hx1).1 (hF.1 q.2)).1); obtain ⟨q3, q4, q5, q6⟩ := q2; first | exact absurd q4 (by first | assumption | (rw [hlast] at *; assumption)) | exact absurd q5 (by assumption) | exact jf_over hf (find_id (by assumption)).1 (by assumption) q6 | (have hid := (find_id (by assumption)).1; have hne := (by assumption : ¬ x1 = _); exact hne (jen_eq hid q3)), rfl, rfl, rfl⟩
   refine b_y (i := 0) (v := .pointer (some ⟨b, 0, none⟩)) (ticked 13 1) rfl rfl (by exact y_mv rfl) ?_
   refine b_y (i := 1) (v := .pointer (some ⟨b, 0, none⟩)) (ticked 13 3) rfl rfl (by exact y_k rfl rfl (fun _ => by kernel_rfl)) ?_
   refine b_y (i := 2) (v := .pointer (some ⟨b, 1, none⟩)) (ticked 13 7) rfl rfl (by exact y_k rfl rfl (fun _ => by kernel_rfl)) ?_
   refine b_y (i := 4) (v := .pointer (some ⟨b3, 1, none⟩)) (ticked 13 23) rfl rfl (by exact y_k rfl rfl (fun _ => by kernel_rfl)) ?_
   refine a_held (i := 3) (ticked 13 31) rfl (by as_aux_lemma => kernel_rfl) rfl rfl rfl (held_pt 1 rfl rfl (held_pt 0 rfl rfl held_nil)) (h_ld 0 rfl rfl Tryd.underlying22 rfl) ?_
   refine a_held (i := 5) (ticked 13 63) rfl (by as_aux_lemma => kernel_rfl) rfl rfl rfl (held_pt 1 rfl rfl (held_pt 0 rfl rfl held_nil)) (h_ld 1 rfl rfl Tryd.underlying3 rfl) ?_
   refine a_each (rs := [6, 10]) (by as_aux_lemma => kernel_rfl) (.cons (ticked 13 127) rfl rfl rfl ?_ (.cons (ticked 13 1087) rfl rfl rfl ?_ .nil)) (List.cons_ne_nil _ _)
   ·
    refine o_call [] [1] (Find_ B d rules x1.ru (by first | omega | (simp; done) | (simp; omega) | assumption)) rfl rfl rfl rfl rfl rfl (fun v L' I' hq4 => ?_)
    rcases hq4 with ⟨r2, h12, rfl, rfl, rfl⟩ | ⟨h13, rfl, rfl, rfl⟩
    ·
     refine a_and (held_pt 1 rfl rfl (held_pt 0 rfl rfl held_nil)) ?_
     refine b_y (i := 7) (v := .tuple #[.agg #[.int .i64 r2.id, .int .i64 r2.fr.lv, .int .u64 (r2.fr.cs : Int), .int .i64 r2.fr.ig, .int .i64 r2.to.lv, .int .u64 (r2.to.cs : Int), .int .i64 r2.to.ig, .int .i64 r2.bu, .int .i64 r2.wh.kd, .int .i64 r2.wh.mx, .string r2.wh.fm], .bool true]) (ticked 13 255) rfl rfl (by exact y_mv rfl) ?_
     refine b_y (i := 8) (v := .agg #[.int .i64 r2.id, .int .i64 r2.fr.lv, .int .u64 (r2.fr.cs : Int), .int .i64 r2.fr.ig, .int .i64 r2.to.lv, .int .u64 (r2.to.cs : Int), .int .i64 r2.to.ig, .int .i64 r2.bu, .int .i64 r2.wh.kd, .int .i64 r2.wh.mx, .string r2.wh.fm]) (ticked 13 511) rfl rfl (by exact y_k rfl rfl (fun _ => by kernel_rfl)) ?_
     refine b_y (i := 9) (v := .bool true) (ticked 13 1023) rfl rfl (by exact y_k rfl rfl (fun _ => by kernel_rfl)) ?_
     refine a_each (rs := [10]) (by as_aux_lemma => kernel_rfl) (.cons (ticked 13 2047) rfl rfl rfl (o_box (cs := [.int .i64 0, .int .i64 0, .int .u64 0, .int .i64 0, .int .i64 0, .int .u64 0, .int .i64 0, .int .i64 0, .int .i64 0, .int .i64 0, .string (⟨#[]⟩ : ByteArray)]) (T := 41) rfl rfl rfl rfl (fun _ => by kernel_rfl) (fun b8 => ?_)) .nil) (List.cons_ne_nil _ _)
     refine a_and (held_pt 2 rfl rfl (held_pt 1 rfl rfl held_nil)) ?_
     refine a_each (rs := [11]) (by as_aux_lemma => kernel_rfl) (.cons (ticked 13 4095) rfl rfl rfl (o_st 0 rfl rfl rfl rfl rfl (by kernel_rfl) (by kernel_rfl) rfl ?_) .nil) (List.cons_ne_nil _ _)
     refine a_and (held_pt 2 rfl rfl (held_pt 1 rfl rfl held_nil)) ?_
     refine b_y (i := 12) (v := .bool true) (ticked 13 8191) rfl rfl (by exact y_as rfl) ?_
     refine a_done (by as_aux_lemma => kernel_rfl) ?_
     refine e_norm (e' := [(0, .pointer (some ⟨b, 0, none⟩)), (3, .pointer (some ⟨b1, 0, none⟩)), (4, .int .i64 last), (6, .pointer (some ⟨b3, 0, none⟩)), (7, .pointer (some ⟨b8, 0, none⟩)), (8, .bool true), (23, .slice A l.length c), (24, .int .i64 (l.length : Int)), (25, .int .i64 (k : Int)), (26, .bool true), (27, .pointer (some ⟨b2, o1 + k * 6, none⟩)), (28, .agg #[.int .i64 x1.st, .int .i64 x1.ru, .int .i64 x1.to.lv, .int .u64 (x1.to.cs : Int), .int .i64 x1.to.ig, .string x1.da]), (29, .tuple #[.agg #[.int .i64 r2.id, .int .i64 r2.fr.lv, .int .u64 (r2.fr.cs : Int), .int .i64 r2.fr.ig, .int .i64 r2.to.lv, .int .u64 (r2.to.cs : Int), .int .i64 r2.to.ig, .int .i64 r2.bu, .int .i64 r2.wh.kd, .int .i64 r2.wh.mx, .string r2.wh.fm], .bool true]), (30, .pointer (some ⟨b, 0, none⟩)), (31, .pointer (some ⟨b, 0, none⟩)), (32, .pointer (some ⟨b, 1, none⟩)), (33, .slice B rules.length d), (34, .pointer (some ⟨b3, 1, none⟩)), (35, .int .i64 x1.ru), (36, .tuple #[.agg #[.int .i64 r2.id, .int .i64 r2.fr.lv, .int .u64 (r2.fr.cs : Int), .int .i64 r2.fr.ig, .int .i64 r2.to.lv, .int .u64 (r2.to.cs : Int), .int .i64 r2.to.ig, .int .i64 r2.bu, .int .i64 r2.wh.kd, .int .i64 r2.wh.mx, .string r2.wh.fm], .bool true]), (37, .agg #[.int .i64 r2.id, .int .i64 r2.fr.lv, .int .u64 (r2.fr.cs : Int), .int .i64 r2.fr.ig, .int .i64 r2.to.lv, .int .u64 (r2.to.cs : Int), .int .i64 r2.to.ig, .int .i64 r2.bu, .int .i64 r2.wh.kd, .int .i64 r2.wh.mx, .string r2.wh.fm]), (38, .bool true)]) [0, 0, 0, 0, 0] [0, 1, 2, 3, 4, 5, 6, 7] ((.cons rfl rfl (.cons rfl rfl (.cons rfl rfl (.cons rfl rfl (.cons rfl rfl (.cons rfl rfl (.cons rfl rfl (.cons rfl rfl (.cons rfl rfl (.cons rfl rfl (.cons rfl rfl (.cons rfl rfl (.cons rfl rfl (.cons rfl rfl (.cons rfl rfl (.cons rfl rfl (.cons rfl rfl (.cons rfl rfl (.cons rfl rfl (.cons rfl rfl (.cons rfl rfl (.cons rfl rfl .nil))))))))))))))))))))))) rfl rfl ?_
     exact cut1 r2 b8 h12
    ·
     refine a_and (held_pt 1 rfl rfl (held_pt 0 rfl rfl held_nil)) ?_
     refine b_y (i := 7) (v := .tuple #[.agg #[.int .i64 0, .int .i64 0, .int .u64 0, .int .i64 0, .int .i64 0, .int .u64 0, .int .i64 0, .int .i64 0, .int .i64 0, .int .i64 0, .string (⟨#[]⟩ : ByteArray)], .bool false]) (ticked 13 255) rfl rfl (by exact y_mv rfl) ?_
     refine b_y (i := 8) (v := .agg #[.int .i64 0, .int .i64 0, .int .u64 0, .int .i64 0, .int .i64 0, .int .u64 0, .int .i64 0, .int .i64 0, .int .i64 0, .int .i64 0, .string (⟨#[]⟩ : ByteArray)]) (ticked 13 511) rfl rfl (by exact y_k rfl rfl (fun _ => by kernel_rfl)) ?_
     refine b_y (i := 9) (v := .bool false) (ticked 13 1023) rfl rfl (by exact y_k rfl rfl (fun _ => by kernel_rfl)) ?_
     refine a_each (rs := [10]) (by as_aux_lemma => kernel_rfl) (.cons (ticked 13 2047) rfl rfl rfl (o_box (cs := [.int .i64 0, .int .i64 0, .int .u64 0, .int .i64 0, .int .i64 0, .int .u64 0, .int .i64 0, .int .i64 0, .int .i64 0, .int .i64 0, .string (⟨#[]⟩ : ByteArray)]) (T := 41) rfl rfl rfl rfl (fun _ => by kernel_rfl) (fun b9 => ?_)) .nil) (List.cons_ne_nil _ _)
     refine a_and (held_pt 2 rfl rfl (held_pt 1 rfl rfl held_nil)) ?_
     refine a_each (rs := [11]) (by as_aux_lemma => kernel_rfl) (.cons (ticked 13 4095) rfl rfl rfl (o_st 0 rfl rfl rfl rfl rfl (by kernel_rfl) (by kernel_rfl) rfl ?_) .nil) (List.cons_ne_nil _ _)
     refine a_and (held_pt 2 rfl rfl (held_pt 1 rfl rfl held_nil)) ?_
     refine b_y (i := 12) (v := .bool false) (ticked 13 8191) rfl rfl (by exact y_as rfl) ?_
     refine a_done (by as_aux_lemma => kernel_rfl) ?_
     refine e_norm (e' := [(0, .pointer (some ⟨b, 0, none⟩)), (3, .pointer (some ⟨b1, 0, none⟩)), (4, .int .i64 last), (6, .pointer (some ⟨b3, 0, none⟩)), (7, .pointer (some ⟨b9, 0, none⟩)), (8, .bool false), (23, .slice A l.length c), (24, .int .i64 (l.length : Int)), (25, .int .i64 (k : Int)), (26, .bool true), (27, .pointer (some ⟨b2, o1 + k * 6, none⟩)), (28, .agg #[.int .i64 x1.st, .int .i64 x1.ru, .int .i64 x1.to.lv, .int .u64 (x1.to.cs : Int), .int .i64 x1.to.ig, .string x1.da]), (29, .tuple #[.agg #[.int .i64 0, .int .i64 0, .int .u64 0, .int .i64 0, .int .i64 0, .int .u64 0, .int .i64 0, .int .i64 0, .int .i64 0, .int .i64 0, .string (⟨#[]⟩ : ByteArray)], .bool false]), (30, .pointer (some ⟨b, 0, none⟩)), (31, .pointer (some ⟨b, 0, none⟩)), (32, .pointer (some ⟨b, 1, none⟩)), (33, .slice B rules.length d), (34, .pointer (some ⟨b3, 1, none⟩)), (35, .int .i64 x1.ru), (36, .tuple #[.agg #[.int .i64 0, .int .i64 0, .int .u64 0, .int .i64 0, .int .i64 0, .int .u64 0, .int .i64 0, .int .i64 0, .int .i64 0, .int .i64 0, .string (⟨#[]⟩ : ByteArray)], .bool false]), (37, .agg #[.int .i64 0, .int .i64 0, .int .u64 0, .int .i64 0, .int .i64 0, .int .u64 0, .int .i64 0, .int .i64 0, .int .i64 0, .int .i64 0, .string (⟨#[]⟩ : ByteArray)]), (38, .bool false)]) [0, 0, 0, 0, 0] [0, 1, 2, 3, 4, 5, 6, 7] ((.cons rfl rfl (.cons rfl rfl (.cons rfl rfl (.cons rfl rfl (.cons rfl rfl (.cons rfl rfl (.cons rfl rfl (.cons rfl rfl (.cons rfl rfl (.cons rfl rfl (.cons rfl rfl (.cons rfl rfl (.cons rfl rfl (.cons rfl rfl (.cons rfl rfl (.cons rfl rfl (.cons rfl rfl (.cons rfl rfl (.cons rfl rfl (.cons rfl rfl (.cons rfl rfl (.cons rfl rfl .nil))))))))))))))))))))))) rfl rfl ?_
     exact cut2 b9 h13
   ·
    refine o_box (cs := [.int .i64 0, .int .i64 0, .int .u64 0, .int .i64 0, .int .i64 0, .int .u64 0, .int .i64 0, .int .i64 0, .int .i64 0, .int .i64 0, .string (⟨#[]⟩ : ByteArray)]) (T := 41) rfl rfl rfl rfl (fun _ => by kernel_rfl) (fun b10 => ?_)
    refine a_and (held_pt 2 rfl rfl (held_pt 1 rfl rfl held_nil)) ?_
    refine a_each (rs := [6]) (by as_aux_lemma => kernel_rfl) (.cons (ticked 13 1151) rfl rfl rfl (o_call [] [1] (Find_ B d rules x1.ru (by first | omega | (simp; done) | (simp; omega) | assumption)) rfl rfl rfl rfl rfl rfl (fun v L' I' hq5 => ?_)) .nil) (List.cons_ne_nil _ _)
    rcases hq5 with ⟨r3, h14, rfl, rfl, rfl⟩ | ⟨h15, rfl, rfl, rfl⟩
    ·
     refine a_and (held_pt 2 rfl rfl (held_pt 1 rfl rfl held_nil)) ?_
     refine b_y (i := 7) (v := .tuple #[.agg #[.int .i64 r3.id, .int .i64 r3.fr.lv, .int .u64 (r3.fr.cs : Int), .int .i64 r3.fr.ig, .int .i64 r3.to.lv, .int .u64 (r3.to.cs : Int), .int .i64 r3.to.ig, .int .i64 r3.bu, .int .i64 r3.wh.kd, .int .i64 r3.wh.mx, .string r3.wh.fm], .bool true]) (ticked 13 1279) rfl rfl (by exact y_mv rfl) ?_
     refine b_y (i := 8) (v := .agg #[.int .i64 r3.id, .int .i64 r3.fr.lv, .int .u64 (r3.fr.cs : Int), .int .i64 r3.fr.ig, .int .i64 r3.to.lv, .int .u64 (r3.to.cs : Int), .int .i64 r3.to.ig, .int .i64 r3.bu, .int .i64 r3.wh.kd, .int .i64 r3.wh.mx, .string r3.wh.fm]) (ticked 13 1535) rfl rfl (by exact y_k rfl rfl (fun _ => by kernel_rfl)) ?_
     refine b_y (i := 9) (v := .bool true) (ticked 13 2047) rfl rfl (by exact y_k rfl rfl (fun _ => by kernel_rfl)) ?_
     refine a_each (rs := [11]) (by as_aux_lemma => kernel_rfl) (.cons (ticked 13 4095) rfl rfl rfl (o_st 0 rfl rfl rfl rfl rfl (by kernel_rfl) (by kernel_rfl) rfl ?_) .nil) (List.cons_ne_nil _ _)
     refine a_and (held_pt 2 rfl rfl (held_pt 1 rfl rfl held_nil)) ?_
     refine b_y (i := 12) (v := .bool true) (ticked 13 8191) rfl rfl (by exact y_as rfl) ?_
     refine a_done (by as_aux_lemma => kernel_rfl) ?_
     refine e_norm (e' := [(0, .pointer (some ⟨b, 0, none⟩)), (3, .pointer (some ⟨b1, 0, none⟩)), (4, .int .i64 last), (6, .pointer (some ⟨b3, 0, none⟩)), (7, .pointer (some ⟨b10, 0, none⟩)), (8, .bool true), (23, .slice A l.length c), (24, .int .i64 (l.length : Int)), (25, .int .i64 (k : Int)), (26, .bool true), (27, .pointer (some ⟨b2, o1 + k * 6, none⟩)), (28, .agg #[.int .i64 x1.st, .int .i64 x1.ru, .int .i64 x1.to.lv, .int .u64 (x1.to.cs : Int), .int .i64 x1.to.ig, .string x1.da]), (29, .tuple #[.agg #[.int .i64 r3.id, .int .i64 r3.fr.lv, .int .u64 (r3.fr.cs : Int), .int .i64 r3.fr.ig, .int .i64 r3.to.lv, .int .u64 (r3.to.cs : Int), .int .i64 r3.to.ig, .int .i64 r3.bu, .int .i64 r3.wh.kd, .int .i64 r3.wh.mx, .string r3.wh.fm], .bool true]), (30, .pointer (some ⟨b, 0, none⟩)), (31, .pointer (some ⟨b, 0, none⟩)), (32, .pointer (some ⟨b, 1, none⟩)), (33, .slice B rules.length d), (34, .pointer (some ⟨b3, 1, none⟩)), (35, .int .i64 x1.ru), (36, .tuple #[.agg #[.int .i64 r3.id, .int .i64 r3.fr.lv, .int .u64 (r3.fr.cs : Int), .int .i64 r3.fr.ig, .int .i64 r3.to.lv, .int .u64 (r3.to.cs : Int), .int .i64 r3.to.ig, .int .i64 r3.bu, .int .i64 r3.wh.kd, .int .i64 r3.wh.mx, .string r3.wh.fm], .bool true]), (37, .agg #[.int .i64 r3.id, .int .i64 r3.fr.lv, .int .u64 (r3.fr.cs : Int), .int .i64 r3.fr.ig, .int .i64 r3.to.lv, .int .u64 (r3.to.cs : Int), .int .i64 r3.to.ig, .int .i64 r3.bu, .int .i64 r3.wh.kd, .int .i64 r3.wh.mx, .string r3.wh.fm]), (38, .bool true)]) [0, 0, 0, 0, 0] [0, 1, 2, 3, 4, 5, 6, 7] ((.cons rfl rfl (.cons rfl rfl (.cons rfl rfl (.cons rfl rfl (.cons rfl rfl (.cons rfl rfl (.cons rfl rfl (.cons rfl rfl (.cons rfl rfl (.cons rfl rfl (.cons rfl rfl (.cons rfl rfl (.cons rfl rfl (.cons rfl rfl (.cons rfl rfl (.cons rfl rfl (.cons rfl rfl (.cons rfl rfl (.cons rfl rfl (.cons rfl rfl (.cons rfl rfl (.cons rfl rfl .nil))))))))))))))))))))))) rfl rfl ?_
     exact cut1 r3 b10 h14
    ·
     refine a_and (held_pt 2 rfl rfl (held_pt 1 rfl rfl held_nil)) ?_
     refine b_y (i := 7) (v := .tuple #[.agg #[.int .i64 0, .int .i64 0, .int .u64 0, .int .i64 0, .int .i64 0, .int .u64 0, .int .i64 0, .int .i64 0, .int .i64 0, .int .i64 0, .string (⟨#[]⟩ : ByteArray)], .bool false]) (ticked 13 1279) rfl rfl (by exact y_mv rfl) ?_
     refine b_y (i := 8) (v := .agg #[.int .i64 0, .int .i64 0, .int .u64 0, .int .i64 0, .int .i64 0, .int .u64 0, .int .i64 0, .int .i64 0, .int .i64 0, .int .i64 0, .string (⟨#[]⟩ : ByteArray)]) (ticked 13 1535) rfl rfl (by exact y_k rfl rfl (fun _ => by kernel_rfl)) ?_
     refine b_y (i := 9) (v := .bool false) (ticked 13 2047) rfl rfl (by exact y_k rfl rfl (fun _ => by kernel_rfl)) ?_
     refine a_each (rs := [11]) (by as_aux_lemma => kernel_rfl) (.cons (ticked 13 4095) rfl rfl rfl (o_st 0 rfl rfl rfl rfl rfl (by kernel_rfl) (by kernel_rfl) rfl ?_) .nil) (List.cons_ne_nil _ _)
     refine a_and (held_pt 2 rfl rfl (held_pt 1 rfl rfl held_nil)) ?_
     refine b_y (i := 12) (v := .bool false) (ticked 13 8191) rfl rfl (by exact y_as rfl) ?_
     refine a_done (by as_aux_lemma => kernel_rfl) ?_
     refine e_norm (e' := [(0, .pointer (some ⟨b, 0, none⟩)), (3, .pointer (some ⟨b1, 0, none⟩)), (4, .int .i64 last), (6, .pointer (some ⟨b3, 0, none⟩)), (7, .pointer (some ⟨b10, 0, none⟩)), (8, .bool false), (23, .slice A l.length c), (24, .int .i64 (l.length : Int)), (25, .int .i64 (k : Int)), (26, .bool true), (27, .pointer (some ⟨b2, o1 + k * 6, none⟩)), (28, .agg #[.int .i64 x1.st, .int .i64 x1.ru, .int .i64 x1.to.lv, .int .u64 (x1.to.cs : Int), .int .i64 x1.to.ig, .string x1.da]), (29, .tuple #[.agg #[.int .i64 0, .int .i64 0, .int .u64 0, .int .i64 0, .int .i64 0, .int .u64 0, .int .i64 0, .int .i64 0, .int .i64 0, .int .i64 0, .string (⟨#[]⟩ : ByteArray)], .bool false]), (30, .pointer (some ⟨b, 0, none⟩)), (31, .pointer (some ⟨b, 0, none⟩)), (32, .pointer (some ⟨b, 1, none⟩)), (33, .slice B rules.length d), (34, .pointer (some ⟨b3, 1, none⟩)), (35, .int .i64 x1.ru), (36, .tuple #[.agg #[.int .i64 0, .int .i64 0, .int .u64 0, .int .i64 0, .int .i64 0, .int .u64 0, .int .i64 0, .int .i64 0, .int .i64 0, .int .i64 0, .string (⟨#[]⟩ : ByteArray)], .bool false]), (37, .agg #[.int .i64 0, .int .i64 0, .int .u64 0, .int .i64 0, .int .i64 0, .int .u64 0, .int .i64 0, .int .i64 0, .int .i64 0, .int .i64 0, .string (⟨#[]⟩ : ByteArray)]), (38, .bool false)]) [0, 0, 0, 0, 0] [0, 1, 2, 3, 4, 5, 6, 7] ((.cons rfl rfl (.cons rfl rfl (.cons rfl rfl (.cons rfl rfl (.cons rfl rfl (.cons rfl rfl (.cons rfl rfl (.cons rfl rfl (.cons rfl rfl (.cons rfl rfl (.cons rfl rfl (.cons rfl rfl (.cons rfl rfl (.cons rfl rfl (.cons rfl rfl (.cons rfl rfl (.cons rfl rfl (.cons rfl rfl (.cons rfl rfl (.cons rfl rfl (.cons rfl rfl (.cons rfl rfl .nil))))))))))))))))))))))) rfl rfl ?_
     exact cut2 b10 h15
  ·
   refine s_y rfl (v := .bool false) (y_f (y_k (v := .bool (decide ((k : Int) < (l.length : Int)))) rfl rfl (fun _ => by kernel_rfl)) h2) rfl ?_
   refine s_nil (q_then (c_seq (c_false rfl ?_)))
   refine c_exit ?_
   refine q_then_exit ?_
   refine q_then_exit ?_
   refine q_block_here ?_
   refine q_then (c_seq (c_region ?_))
   refine s_y rfl (v := .nilIface) (y_as rfl) rfl ?_
   refine s_nil (q_then (c_ret ?_))
   refine c_fin (I' := []) [0, 0] [0, 1, 2, 3, 4, 5, 6] rfl (.tmp rfl .nil) rfl rfl rfl ?_
   exact .inl ⟨f, ⟨by assumption, hF.2 (jFrom_end (by omega))⟩, fun j => by rw [hf j, List.take_of_length_le (by omega)], rfl, rfl, rfl⟩
 ·
  obtain rfl : v = .bool false := by rw [hv1, decide_eq_false h1]
  refine s_y rfl (v := .bool true) (y_k rfl rfl (fun _ => by kernel_rfl)) rfl ?_
  refine s_nil (q_then (c_true rfl (c_seq (c_region ?_))))
  refine st rfl (o_ldn 0 2 rfl rfl rfl rfl Tryd.underlying59 rfl (by kernel_rfl) (by kernel_rfl) rfl ?_)
  refine s_y rfl (v := .iface 59 (.agg #[.int .i64 152, .nilIface])) (y_k rfl rfl (fun _ => by kernel_rfl)) rfl ?_
  refine s_y rfl (v := .iface 59 (.agg #[.int .i64 152, .nilIface])) (y_as rfl) rfl ?_
  refine s_nil (q_then (c_ret (q_then_ret ?_)))
  refine c_fin (I' := []) [1, 1] [0, 1, 2, 3, 4, 5, 6] rfl (.tmp rfl .nil) rfl rfl rfl ?_
  exact .inr ⟨(fun _ => 0), by first | exact fun q => absurd q.1 (by assumption) | exact fun q => jOk_none (by assumption) (((jFrom_at hx1).1 (hF.1 q.2)).1) | exact fun q => by have q2 := (jOk_some (by assumption)).1 (((jFrom_at hx1).1 (hF.1 q.2)).1); obtain ⟨q3, q4, q5, q6⟩ := q2; first | exact absurd q4 (by first | assumption | (rw [hlast] at *; assumption)) | exact absurd q5 (by assumption) | exact jf_over hf (find_id (by assumption)).1 (by assumption) q6 | (have hid := (find_id (by assumption)).1; have hne := (by assumption : ¬ x1 = _); exact hne (jen_eq hid q3)), rfl, rfl, rfl⟩
theorem jRight_ (B : Option Addr) (d : Nat) (rules : List Rul) (A : Option Addr) (c : Nat) (l : List Jen) (ef : Addr) (es : Addr) (hn : l.length ≤ 1000) (hm : ∀ y ∈ l, jenSm y) (hrn : rules.length ≤ 1000) (hrm : ∀ y ∈ rules, rulSm y) : Con Tryd.prog 17 [.slice B rules.length d, .slice A l.length c] [] [rd rulTy B d rules, rd entTy A c l, cellsAt 2 0 [.iface 154 (.pointer (some ef))], errAt ef, cellsAt 0 0 [.iface 154 (.pointer (some es))], errAt es, cellsAt 1 0 [.iface 121 (.agg #[.pointer (some ⟨4, 57, none⟩)])]] (fun v L' I' => v = .bool (decide (jRight rules l)) ∧ L' = [] ∧ I' = []) := by
 refine fn_of Tryd.func17 rfl Tryd.ntmps17 (by kernel_rfl) rfl (fun C => ?_)
 refine c_seq (c_region ?_)
 refine s_y rfl (v := .bool false) (y_as rfl) rfl ?_
 refine s_nil (q_then (c_seq (c_region ?_)))
 refine s_y rfl (v := .slice B rules.length d) (y_mv rfl) rfl ?_
 refine s_y rfl (v := .slice A l.length c) (y_mv rfl) rfl ?_
 refine st rfl (o_call [] [] (jopen_ B d rules A c l) rfl rfl rfl rfl rfl rfl (fun v L' I' hq1 => ?_))
 obtain ⟨b1, m1, rfl, rfl, rfl⟩ := hq1
 refine st rfl (o_call [0, 0] [0, 1, 2, 3, 4, 5, 6] (jchecked_ b1 m1 B d rules A c l ef es (by first | omega | (simp; done) | (simp; omega) | assumption) (by assumption) (by first | omega | (simp; done) | (simp; omega) | assumption) (by assumption)) rfl rfl rfl rfl rfl rfl (fun v L' I' hq2 => ?_))
 rcases hq2 with ⟨f1, h1, h2, rfl, rfl, rfl⟩ | ⟨f2, h3, rfl, rfl, rfl⟩
 ·
  refine s_y rfl (v := .bool true) (y_k rfl rfl (fun _ => by kernel_rfl)) rfl ?_
  refine s_y rfl (v := .bool true) (y_as rfl) rfl ?_
  refine s_nil (q_then (c_ret ?_))
  refine c_fin (I' := []) [] [0, 1, 2, 3, 4, 5, 6] rfl (.tmp rfl .nil) rfl rfl rfl ?_
  exact ⟨dec_t (by assumption), rfl, rfl⟩
 ·
  refine s_y rfl (v := .bool false) (y_k rfl rfl (fun _ => by kernel_rfl)) rfl ?_
  refine s_y rfl (v := .bool false) (y_as rfl) rfl ?_
  refine s_nil (q_then (c_ret ?_))
  refine c_fin (I' := []) [] [0, 1, 2, 3, 4, 5, 6] rfl (.tmp rfl .nil) rfl rfl rfl ?_
  exact ⟨dec_f (by assumption), rfl, rfl⟩
end Go.Proofs.YthehnjbdkjnlpaaDoor
