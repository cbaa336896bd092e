/- The laws of chapter 15 (journal), walked over the given program; no condition but what stands in each theorem: part JG. -/
import Derived.Test.YthehnjbdkjnlpaaGreatDoorRJB
import Derived.Test.YthehnjbdkjnlpaaGreatDoorRJD
import Derived.Test.YthehnjbdkjnlpaaGreatDoorRJF
set_option linter.unusedVariables false
set_option linter.unusedSimpArgs false
set_option maxRecDepth 100000
set_option maxHeartbeats 8000000
namespace Go.Proofs.YthehnjbdkjnlpaaGreatDoor
open Go Go.Sl Go.RowKit Go.Extern.Stop Go.Stop Go.Extern
set_option maxHeartbeats 4000000 in
theorem jRelease_ (B : Option Addr) (d : Nat) (rules : List Rul) (A : Option Addr) (c : Nat) (l : List Jen) (stp : Int) (cur : Lab) (id : Int) (da : ByteArray) (ef : Addr) (es : Addr) (hn : l.length ≤ 1000) (hm : ∀ y ∈ l, jenSm y) (hrn : rules.length ≤ 1000) (hrm : ∀ y ∈ rules, rulSm y) (hd_ : da.size ≤ 100000) : Con Tryz.prog 20 [.slice B rules.length d, .slice A l.length c, .int .i64 stp, .agg #[.int .i64 cur.lv, .int .u64 (cur.cs : Int), .int .i64 cur.ig], .int .i64 id, .string da] [] [rd rulTy B d rules, rd entTy A c l, cellsAt 2 0 [.iface 153 (.pointer (some ef))], errAt ef, cellsAt 0 0 [.iface 153 (.pointer (some es))], errAt es, cellsAt 1 0 [.iface 121 (.agg #[.pointer (some ⟨4, 50, none⟩)])]] (fun v L' I' => ∃ A1 : Option Addr, ∃ c1 : Nat, v = .tuple #[.slice A1 ((relF rules l stp cur id da).1).length c1, .int .i64 ((relF rules l stp cur id da).2)] ∧ L' = [win entTy 47 A1 c1 ((relF rules l stp cur id da).1)] ∧ I' = []) := by
 refine fn_of Tryz.func20 rfl Tryz.ntmps20 (by kernel_rfl) rfl (fun C => ?_)
 refine c_seq (c_region ?_)
 refine st rfl (o_box (cs := [.int .i64 stp]) (T := 3) rfl rfl rfl rfl (fun _ => by kernel_rfl) (fun b1 => ?_))
 refine st rfl (o_box (cs := [.int .i64 cur.lv, .int .u64 (cur.cs : Int), .int .i64 cur.ig]) (T := 26) rfl rfl rfl rfl (fun _ => by kernel_rfl) (fun b2 => ?_))
 refine st rfl (o_box (cs := [.string da]) (T := 9) rfl rfl rfl rfl (fun _ => by kernel_rfl) (fun b3 => ?_))
 refine s_y rfl (v := .slice none 0 0) (y_as rfl) rfl ?_
 refine s_y rfl (v := .int .i64 0) (y_as rfl) rfl ?_
 refine s_nil (q_then (c_seq (c_region ?_)))
 refine s_y rfl (v := .slice B rules.length d) (y_mv rfl) rfl ?_
 refine s_y rfl (v := .slice A l.length c) (y_mv rfl) rfl ?_
 refine st rfl (o_call [] [] (jopen_ B d rules A c l) rfl rfl rfl rfl rfl rfl (fun v L' I' hq1 => ?_))
 obtain ⟨b4, m1, rfl, rfl, rfl⟩ := hq1
 refine st rfl (o_box (cs := [.pointer none]) (T := 51) rfl rfl rfl rfl (fun _ => by kernel_rfl) (fun b5 => ?_))
 refine st rfl (o_st 0 rfl rfl rfl rfl rfl (by kernel_rfl) (by kernel_rfl) rfl ?_)
 refine s_nil (q_then (c_seq (c_region ?_)))
 refine s_y rfl (v := .slice B rules.length d) (y_mv rfl) rfl ?_
 refine s_y rfl (v := .int .i64 id) (y_mv rfl) rfl ?_
 refine st rfl (o_call [] [0] (Find_ B d rules id (by first | omega | (simp; done) | (simp; omega) | assumption)) rfl rfl rfl rfl rfl rfl (fun v L' I' hq2 => ?_))
 rcases hq2 with ⟨r1, h1, rfl, rfl, rfl⟩ | ⟨h2, rfl, rfl, rfl⟩
 ·
  refine s_y rfl (v := .tuple #[.agg #[.int .i64 r1.id, .int .i64 r1.fr.lv, .int .u64 (r1.fr.cs : Int), .int .i64 r1.fr.ig, .int .i64 r1.to.lv, .int .u64 (r1.to.cs : Int), .int .i64 r1.to.ig, .int .i64 r1.bu, .int .i64 r1.wh.kd, .int .i64 r1.wh.mx, .string r1.wh.fm], .bool true]) (y_mv rfl) rfl ?_
  refine s_y rfl (v := .agg #[.int .i64 r1.id, .int .i64 r1.fr.lv, .int .u64 (r1.fr.cs : Int), .int .i64 r1.fr.ig, .int .i64 r1.to.lv, .int .u64 (r1.to.cs : Int), .int .i64 r1.to.ig, .int .i64 r1.bu, .int .i64 r1.wh.kd, .int .i64 r1.wh.mx, .string r1.wh.fm]) (y_k rfl rfl (fun _ => by kernel_rfl)) rfl ?_
  refine s_y rfl (v := .bool true) (y_k rfl rfl (fun _ => by kernel_rfl)) rfl ?_
  refine st rfl (o_box (cs := [.int .i64 0, .int .i64 0, .int .u64 0, .int .i64 0, .int .i64 0, .int .u64 0, .int .i64 0, .int .i64 0, .int .i64 0, .int .i64 0, .string (⟨#[]⟩ : ByteArray)]) (T := 42) rfl rfl rfl rfl (fun _ => by kernel_rfl) (fun b6 => ?_))
  refine st rfl (o_box (cs := [.bool false]) (T := 4) rfl rfl rfl rfl (fun _ => by kernel_rfl) (fun b7 => ?_))
  refine st rfl (o_st 1 rfl rfl rfl rfl rfl (by kernel_rfl) (by kernel_rfl) rfl ?_)
  refine st rfl (o_st 0 rfl rfl rfl rfl rfl (by kernel_rfl) (by kernel_rfl) rfl ?_)
  refine s_nil (q_then (c_seq (c_region ?_)))
  refine st rfl (o_box (cs := [.nilFunc]) (T := 71) rfl rfl rfl rfl (fun _ => by kernel_rfl) (fun b8 => ?_))
  refine st rfl (o_st 0 rfl rfl rfl rfl rfl (by kernel_rfl) (by kernel_rfl) rfl ?_)
  refine s_nil (q_then (c_seq (c_region ?_)))
  refine st rfl (o_ld 3 rfl rfl rfl Tryz.underlying51 rfl rfl ?_)
  refine s_y rfl (v := .func (.func 23) #[.pointer (some ⟨b4, 0, none⟩)] #[]) (y_k rfl rfl (fun _ => by kernel_rfl)) rfl ?_
  refine s_y rfl (v := .func (.func 37) #[] #[.pointer (some ⟨b8, 0, none⟩), .pointer (some ⟨b1, 0, none⟩), .pointer (some ⟨b5, 0, none⟩)]) (y_k rfl rfl (fun _ => by kernel_rfl)) rfl ?_
  refine s_y rfl (v := .func (.func 40) #[] #[.pointer (some ⟨b8, 0, none⟩), .pointer (some ⟨b7, 0, none⟩)]) (y_k rfl rfl (fun _ => by kernel_rfl)) rfl ?_
  refine s_y rfl (v := .func (.func 41) #[] #[.pointer (some ⟨b8, 0, none⟩), .pointer (some ⟨b6, 0, none⟩), .pointer (some ⟨b2, 0, none⟩)]) (y_k rfl rfl (fun _ => by kernel_rfl)) rfl ?_
  refine s_y rfl (v := .func (.func 42) #[] #[.pointer (some ⟨b5, 0, none⟩), .pointer (some ⟨b6, 0, none⟩), .pointer (some ⟨b3, 0, none⟩)]) (y_k rfl rfl (fun _ => by kernel_rfl)) rfl ?_
  refine st rfl (o_lit (cs := [.func (.func 23) #[.pointer (some ⟨b4, 0, none⟩)] #[], .func (.func 37) #[] #[.pointer (some ⟨b8, 0, none⟩), .pointer (some ⟨b1, 0, none⟩), .pointer (some ⟨b5, 0, none⟩)], .func (.func 40) #[] #[.pointer (some ⟨b8, 0, none⟩), .pointer (some ⟨b7, 0, none⟩)], .func (.func 41) #[] #[.pointer (some ⟨b8, 0, none⟩), .pointer (some ⟨b6, 0, none⟩), .pointer (some ⟨b2, 0, none⟩)], .func (.func 42) #[] #[.pointer (some ⟨b5, 0, none⟩), .pointer (some ⟨b6, 0, none⟩), .pointer (some ⟨b3, 0, none⟩)]]) (T := 53) (m := 5) rfl rfl rfl rfl (fun _ => by kernel_rfl) (fun b9 => ?_))
  refine s_y rfl (v := .slice (some ⟨b9, 0, none⟩) 5 5) (y_as rfl) rfl ?_
  refine s_nil (q_then (c_seq (c_seq (c_region ?_))))
  refine s_y rfl (v := .slice (some ⟨b9, 0, none⟩) 5 5) (y_mv rfl) rfl ?_
  refine s_y rfl (v := .int .i64 5) (y_k rfl rfl (fun _ => by kernel_rfl)) rfl ?_
  refine s_y rfl (v := .int .i64 0) (y_mv rfl) rfl ?_
  refine s_nil (q_then (c_block ?_))
  refine c_unroll 6 ?_
  refine c_round ?_
  refine c_seq (c_region ?_)
  refine s_y rfl (v := .bool true) (y_k rfl rfl (fun _ => by kernel_rfl)) rfl ?_
  refine s_nil (q_then (c_seq (c_true rfl (c_skip (q_then (c_seq (c_block (c_seq (c_region ?_)))))))))
  refine s_y rfl (v := .pointer (some ⟨b9, 0, none⟩)) (y_k rfl rfl (fun _ => by kernel_rfl)) rfl ?_
  refine st rfl (o_ld 0 rfl rfl rfl Tryz.underlying53 rfl rfl ?_)
  refine s_y rfl (v := .func (.func 23) #[.pointer (some ⟨b4, 0, none⟩)] #[]) (y_as rfl) rfl ?_
  refine s_nil (q_then (c_seq (c_region ?_)))
  refine s_y rfl (v := .func (.func 23) #[.pointer (some ⟨b4, 0, none⟩)] #[]) (y_mv rfl) rfl ?_
  refine st rfl (o_call [5, 5] [0, 1, 2, 3, 4, 5, 6] (jchecked_ b4 m1 B d rules A c l ef es (by first | omega | (simp; done) | (simp; omega) | assumption) (by assumption) (by first | omega | (simp; done) | (simp; omega) | assumption) (by assumption)) rfl rfl rfl rfl rfl rfl (fun v L' I' hq3 => ?_))
  rcases hq3 with ⟨f1, h3, h4, rfl, rfl, rfl⟩ | ⟨f2, h5, rfl, rfl, rfl⟩
  ·
   refine s_y rfl (v := .nilIface) (y_as rfl) rfl ?_
   refine s_nil (q_then (c_seq (c_region ?_)))
   refine s_y rfl (v := .nilIface) (y_mv rfl) rfl ?_
   refine s_y rfl (v := .bool false) (y_k rfl rfl (fun _ => by kernel_rfl)) rfl ?_
   refine s_nil (q_then (c_false rfl (c_skip (q_block (q_then (c_region ?_))))))
   refine s_y rfl (v := .int .i64 1) (y_add (r := 1) rfl rfl (by first | rfl | omega) (by omega)) rfl ?_
   refine s_y rfl (v := .int .i64 1) (y_mv rfl) rfl ?_
   refine s_nil (q_then ?_)
   refine c_round ?_
   refine c_seq (c_region ?_)
   refine s_y rfl (v := .bool true) (y_k rfl rfl (fun _ => by kernel_rfl)) rfl ?_
   refine s_nil (q_then (c_seq (c_true rfl (c_skip (q_then (c_seq (c_block (c_seq (c_region ?_)))))))))
   refine s_y rfl (v := .pointer (some ⟨b9, 1, none⟩)) (y_k rfl rfl (fun _ => by kernel_rfl)) rfl ?_
   refine st rfl (o_ld 2 rfl rfl rfl Tryz.underlying53 rfl rfl ?_)
   refine s_y rfl (v := .func (.func 37) #[] #[.pointer (some ⟨b8, 0, none⟩), .pointer (some ⟨b1, 0, none⟩), .pointer (some ⟨b5, 0, none⟩)]) (y_as rfl) rfl ?_
   refine s_nil (q_then (c_seq (c_region ?_)))
   refine s_y rfl (v := .func (.func 37) #[] #[.pointer (some ⟨b8, 0, none⟩), .pointer (some ⟨b1, 0, none⟩), .pointer (some ⟨b5, 0, none⟩)]) (y_mv rfl) rfl ?_
   refine st rfl (o_call [3, 8, 5, 0] [1] (rel2_ b8 b1 b5 b4 stp A c l (.slice B rules.length d : Value) (.map (some m1) : Value) (by first | omega | (simp; done) | (simp; omega) | assumption)) rfl rfl rfl rfl rfl rfl (fun v L' I' hq4 => ?_))
   rcases hq4 with ⟨h6, rfl, rfl, rfl⟩ | ⟨h7, rfl, rfl, rfl⟩
   ·
    refine s_y rfl (v := .nilIface) (y_as rfl) rfl ?_
    refine s_nil (q_then (c_seq (c_region ?_)))
    refine s_y rfl (v := .nilIface) (y_mv rfl) rfl ?_
    refine s_y rfl (v := .bool false) (y_k rfl rfl (fun _ => by kernel_rfl)) rfl ?_
    refine s_nil (q_then (c_false rfl (c_skip (q_block (q_then (c_region ?_))))))
    refine s_y rfl (v := .int .i64 2) (y_add (r := 2) rfl rfl (by first | rfl | omega) (by omega)) rfl ?_
    refine s_y rfl (v := .int .i64 2) (y_mv rfl) rfl ?_
    refine s_nil (q_then ?_)
    refine c_round ?_
    refine c_seq (c_region ?_)
    refine s_y rfl (v := .bool true) (y_k rfl rfl (fun _ => by kernel_rfl)) rfl ?_
    refine s_nil (q_then (c_seq (c_true rfl (c_skip (q_then (c_seq (c_block (c_seq (c_region ?_)))))))))
    refine s_y rfl (v := .pointer (some ⟨b9, 2, none⟩)) (y_k rfl rfl (fun _ => by kernel_rfl)) rfl ?_
    refine st rfl (o_ld 5 rfl rfl rfl Tryz.underlying53 rfl rfl ?_)
    refine s_y rfl (v := .func (.func 40) #[] #[.pointer (some ⟨b8, 0, none⟩), .pointer (some ⟨b7, 0, none⟩)]) (y_as rfl) rfl ?_
    refine s_nil (q_then (c_seq (c_region ?_)))
    refine s_y rfl (v := .func (.func 40) #[] #[.pointer (some ⟨b8, 0, none⟩), .pointer (some ⟨b7, 0, none⟩)]) (y_mv rfl) rfl ?_
    refine st rfl (o_call [0, 5] [] (rel3_t_ b8 b7) rfl rfl rfl rfl rfl rfl (fun v L' I' hq5 => ?_))
    obtain ⟨rfl, rfl, rfl⟩ := hq5
    refine s_y rfl (v := .nilIface) (y_as rfl) rfl ?_
    refine s_nil (q_then (c_seq (c_region ?_)))
    refine s_y rfl (v := .nilIface) (y_mv rfl) rfl ?_
    refine s_y rfl (v := .bool false) (y_k rfl rfl (fun _ => by kernel_rfl)) rfl ?_
    refine s_nil (q_then (c_false rfl (c_skip (q_block (q_then (c_region ?_))))))
    refine s_y rfl (v := .int .i64 3) (y_add (r := 3) rfl rfl (by first | rfl | omega) (by omega)) rfl ?_
    refine s_y rfl (v := .int .i64 3) (y_mv rfl) rfl ?_
    refine s_nil (q_then ?_)
    refine c_round ?_
    refine c_seq (c_region ?_)
    refine s_y rfl (v := .bool true) (y_k rfl rfl (fun _ => by kernel_rfl)) rfl ?_
    refine s_nil (q_then (c_seq (c_true rfl (c_skip (q_then (c_seq (c_block (c_seq (c_region ?_)))))))))
    refine s_y rfl (v := .pointer (some ⟨b9, 3, none⟩)) (y_k rfl rfl (fun _ => by kernel_rfl)) rfl ?_
    refine st rfl (o_ld 6 rfl rfl rfl Tryz.underlying53 rfl rfl ?_)
    refine s_y rfl (v := .func (.func 41) #[] #[.pointer (some ⟨b8, 0, none⟩), .pointer (some ⟨b6, 0, none⟩), .pointer (some ⟨b2, 0, none⟩)]) (y_as rfl) rfl ?_
    refine s_nil (q_then (c_seq (c_region ?_)))
    refine s_y rfl (v := .func (.func 41) #[] #[.pointer (some ⟨b8, 0, none⟩), .pointer (some ⟨b6, 0, none⟩), .pointer (some ⟨b2, 0, none⟩)]) (y_mv rfl) rfl ?_
    refine st rfl (o_call [0, 6, 7] [] (rel4_ b8 b6 b2 r1 cur) rfl rfl rfl rfl rfl rfl (fun v L' I' hq6 => ?_))
    rcases hq6 with ⟨h8, rfl, rfl, rfl⟩ | ⟨h9, rfl, rfl, rfl⟩
    ·
     refine s_y rfl (v := .nilIface) (y_as rfl) rfl ?_
     refine s_nil (q_then (c_seq (c_region ?_)))
     refine s_y rfl (v := .nilIface) (y_mv rfl) rfl ?_
     refine s_y rfl (v := .bool false) (y_k rfl rfl (fun _ => by kernel_rfl)) rfl ?_
     refine s_nil (q_then (c_false rfl (c_skip (q_block (q_then (c_region ?_))))))
     refine s_y rfl (v := .int .i64 4) (y_add (r := 4) rfl rfl (by first | rfl | omega) (by omega)) rfl ?_
     refine s_y rfl (v := .int .i64 4) (y_mv rfl) rfl ?_
     refine s_nil (q_then ?_)
     refine c_round ?_
     refine c_seq (c_region ?_)
     refine s_y rfl (v := .bool true) (y_k rfl rfl (fun _ => by kernel_rfl)) rfl ?_
     refine s_nil (q_then (c_seq (c_true rfl (c_skip (q_then (c_seq (c_block (c_seq (c_region ?_)))))))))
     refine s_y rfl (v := .pointer (some ⟨b9, 4, none⟩)) (y_k rfl rfl (fun _ => by kernel_rfl)) rfl ?_
     refine st rfl (o_ld 8 rfl rfl rfl Tryz.underlying53 rfl rfl ?_)
     refine s_y rfl (v := .func (.func 42) #[] #[.pointer (some ⟨b5, 0, none⟩), .pointer (some ⟨b6, 0, none⟩), .pointer (some ⟨b3, 0, none⟩)]) (y_as rfl) rfl ?_
     refine s_nil (q_then (c_seq (c_region ?_)))
     refine s_y rfl (v := .func (.func 42) #[] #[.pointer (some ⟨b5, 0, none⟩), .pointer (some ⟨b6, 0, none⟩), .pointer (some ⟨b3, 0, none⟩)]) (y_mv rfl) rfl ?_
     refine st rfl (o_call [5, 1, 7, 4, 4] [2, 3, 4, 5, 6] (rel5_ b5 b6 b3 b4 m1 f1 (.slice A l.length c : Value) (.slice B rules.length d : Value) r1 da ef es (by rw [h4]; exact jf_bound2 hm hn) (hrm _ (find_id (by assumption)).2) (hd_)) rfl rfl rfl rfl rfl rfl (fun v L' I' hq7 => ?_))
     rcases hq7 with ⟨h10, rfl, rfl, rfl⟩ | ⟨h11, h12, rfl, rfl, rfl⟩ | ⟨h13, h14, rfl, rfl, rfl⟩
     ·
      refine s_y rfl (v := .iface 70 (.agg #[.int .i64 130, .nilIface])) (y_as rfl) rfl ?_
      refine s_nil (q_then (c_seq (c_region ?_)))
      refine s_y rfl (v := .iface 70 (.agg #[.int .i64 130, .nilIface])) (y_mv rfl) rfl ?_
      refine s_y rfl (v := .bool true) (y_k rfl rfl (fun _ => by kernel_rfl)) rfl ?_
      refine s_nil (q_then (c_true rfl (c_seq (c_region ?_))))
      refine s_y rfl (v := .iface 70 (.agg #[.int .i64 130, .nilIface])) (y_mv rfl) rfl ?_
      refine st rfl (o_call [] [4, 5, 6] (jtold_k_ es (130 : Int)) rfl rfl rfl rfl rfl rfl (fun v L' I' hq8 => ?_))
      obtain ⟨rfl, rfl, rfl⟩ := hq8
      refine s_y rfl (v := .slice none 0 0) (y_as rfl) rfl ?_
      refine s_y rfl (v := .int .i64 (130 : Int)) (y_as rfl) rfl ?_
      refine s_nil (q_then (c_ret (q_block_ret (q_then_ret (q_then_ret (q_block_ret (q_then_ret ?_)))))))
      refine e_nil entTy 47 ?_
      refine e_weak 0 rfl (fun _ h => h.win) ?_
      have hp : relF rules l stp cur id da = ([], (130 : Int)) := by first | exact rel_1 (by assumption) | exact rel_2 (by assumption) (by assumption) | exact rel_3 (by assumption) (by assumption) (by assumption) | exact rel_4 (by assumption) (by assumption) (by assumption) (by assumption) | exact rel_5 (by assumption) (by assumption) (by assumption) (by assumption) (by assumption) | exact rel_6 (by assumption) (by assumption) (by assumption) (by assumption) (by assumption) (by omega) | exact rel_7 (by assumption) (by assumption) (by assumption) (by assumption) (by assumption) (by omega)
      refine c_fin (I' := []) [0] [0, 1, 2, 3, 4, 5, 6] rfl (.tmp rfl (.tmp rfl .nil)) rfl rfl rfl ?_
      rw [hp]
      exact ⟨_, _, rfl, rfl, rfl⟩
     ·
      refine s_y rfl (v := .iface 70 (.agg #[.int .i64 151, .iface 153 (.pointer (some es))])) (y_as rfl) rfl ?_
      refine s_nil (q_then (c_seq (c_region ?_)))
      refine s_y rfl (v := .iface 70 (.agg #[.int .i64 151, .iface 153 (.pointer (some es))])) (y_mv rfl) rfl ?_
      refine s_y rfl (v := .bool true) (y_k rfl rfl (fun _ => by kernel_rfl)) rfl ?_
      refine s_nil (q_then (c_true rfl (c_seq (c_region ?_))))
      refine s_y rfl (v := .iface 70 (.agg #[.int .i64 151, .iface 153 (.pointer (some es))])) (y_mv rfl) rfl ?_
      refine st rfl (o_call [] [4, 5, 6] (jtold_es_ es) rfl rfl rfl rfl rfl rfl (fun v L' I' hq9 => ?_))
      obtain ⟨rfl, rfl, rfl⟩ := hq9
      refine s_y rfl (v := .slice none 0 0) (y_as rfl) rfl ?_
      refine s_y rfl (v := .int .i64 151) (y_as rfl) rfl ?_
      refine s_nil (q_then (c_ret (q_block_ret (q_then_ret (q_then_ret (q_block_ret (q_then_ret ?_)))))))
      refine e_nil entTy 47 ?_
      refine e_weak 0 rfl (fun _ h => h.win) ?_
      have hp : relF rules l stp cur id da = ([], 151) := by have hz : (spentF l id : Int) = f1 r1.id := (by rw [h4, (find_id (by assumption)).1]); first | exact rel_1 (by assumption) | exact rel_2 (by assumption) (by assumption) | exact rel_3 (by assumption) (by assumption) (by assumption) | exact rel_4 (by assumption) (by assumption) (by assumption) (by assumption) | exact rel_5 (by assumption) (by assumption) (by assumption) (by assumption) (by assumption) | exact rel_6 (by assumption) (by assumption) (by assumption) (by assumption) (by assumption) (by omega) | exact rel_7 (by assumption) (by assumption) (by assumption) (by assumption) (by assumption) (by omega)
      refine c_fin (I' := []) [0] [0, 1, 2, 3, 4, 5, 6] rfl (.tmp rfl (.tmp rfl .nil)) rfl rfl rfl ?_
      rw [hp]
      exact ⟨_, _, rfl, rfl, rfl⟩
     ·
      refine s_y rfl (v := .nilIface) (y_as rfl) rfl ?_
      refine s_nil (q_then (c_seq (c_region ?_)))
      refine s_y rfl (v := .nilIface) (y_mv rfl) rfl ?_
      refine s_y rfl (v := .bool false) (y_k rfl rfl (fun _ => by kernel_rfl)) rfl ?_
      refine s_nil (q_then (c_false rfl (c_skip (q_block (q_then (c_region ?_))))))
      refine s_y rfl (v := .int .i64 5) (y_add (r := 5) rfl rfl (by first | rfl | omega) (by omega)) rfl ?_
      refine s_y rfl (v := .int .i64 5) (y_mv rfl) rfl ?_
      refine s_nil (q_then ?_)
      refine c_round ?_
      refine c_seq (c_region ?_)
      refine s_y rfl (v := .bool false) (y_k rfl rfl (fun _ => by kernel_rfl)) rfl ?_
      refine s_nil (q_then (c_seq (c_false rfl ?_)))
      refine c_exit ?_
      refine q_then_exit ?_
      refine q_then_exit ?_
      refine q_block_here ?_
      refine q_then (c_seq ?_)
      refine c_draw (l := ticked 11 0) [(⟨b5, 0, none⟩, .pointer (some ⟨b4, 0, none⟩)), (⟨b1, 0, none⟩, .int .i64 stp), (⟨b6, 4, none⟩, .int .i64 r1.to.lv), (⟨b6, 5, none⟩, .int .u64 (r1.to.cs : Int)), (⟨b6, 6, none⟩, .int .i64 r1.to.ig), (⟨b3, 0, none⟩, .string da)] [] (by kernel_rfl) rfl rfl ?_
      refine b_y (i := 4) (v := .int .i64 id) (ticked 11 16) rfl rfl (by exact y_mv rfl) ?_
      refine b_y (i := 5) (v := .pointer (some ⟨b6, 4, none⟩)) (ticked 11 48) rfl rfl (by exact y_k rfl rfl (fun _ => by kernel_rfl)) ?_
      refine a_held (i := 0) (ticked 11 49) rfl (by as_aux_lemma => kernel_rfl) rfl rfl rfl (held_pt 0 rfl rfl (held_pt 8 rfl rfl (held_pt 1 rfl rfl (held_pt 1 rfl rfl (held_pt 1 rfl rfl (held_pt 2 rfl rfl held_nil)))))) (h_ld 0 rfl rfl Tryz.underlying51 rfl) ?_
      refine b_y (i := 1) (v := .pointer (some ⟨b4, 0, none⟩)) (ticked 11 51) rfl rfl (by exact y_k rfl rfl (fun _ => by kernel_rfl)) ?_
      refine b_y (i := 2) (v := .pointer (some ⟨b4, 0, none⟩)) (ticked 11 55) rfl rfl (by exact y_k rfl rfl (fun _ => by kernel_rfl)) ?_
      refine a_held (i := 3) (ticked 11 63) rfl (by as_aux_lemma => kernel_rfl) rfl rfl rfl (held_pt 0 rfl rfl (held_pt 8 rfl rfl (held_pt 1 rfl rfl (held_pt 1 rfl rfl (held_pt 1 rfl rfl (held_pt 2 rfl rfl held_nil)))))) (h_ld 1 rfl rfl Tryz.underlying3 rfl) ?_
      refine a_held (i := 6) (ticked 11 127) rfl (by as_aux_lemma => kernel_rfl) rfl rfl rfl (held_pt 0 rfl rfl (held_pt 8 rfl rfl (held_pt 1 rfl rfl (held_pt 1 rfl rfl (held_pt 1 rfl rfl (held_pt 2 rfl rfl held_nil)))))) (h_ldn (vs := [.int .i64 r1.to.lv, .int .u64 (r1.to.cs : Int), .int .i64 r1.to.ig]) 2 3 rfl rfl rfl Tryz.underlying26 rfl (by kernel_rfl) (by kernel_rfl)) ?_
      refine a_held (i := 7) (ticked 11 255) rfl (by as_aux_lemma => kernel_rfl) rfl rfl rfl (held_pt 0 rfl rfl (held_pt 8 rfl rfl (held_pt 1 rfl rfl (held_pt 1 rfl rfl (held_pt 1 rfl rfl (held_pt 2 rfl rfl held_nil)))))) (h_ld 5 rfl rfl Tryz.underlying9 rfl) ?_
      refine b_y (i := 8) (v := .agg #[.int .i64 stp, .int .i64 id, .int .i64 r1.to.lv, .int .u64 (r1.to.cs : Int), .int .i64 r1.to.ig, .string da]) (ticked 11 511) rfl rfl (by exact y_k rfl rfl (fun _ => by kernel_rfl)) ?_
      refine a_each (rs := [9]) (by as_aux_lemma => kernel_rfl) (.cons (ticked 11 1023) rfl rfl rfl (o_lit (cs := [.int .i64 stp, .int .i64 id, .int .i64 r1.to.lv, .int .u64 (r1.to.cs : Int), .int .i64 r1.to.ig, .string da]) (T := 47) (m := 1) rfl rfl rfl rfl (fun _ => by kernel_rfl) (fun b10 => ?_)) .nil) (List.cons_ne_nil _ _)
      refine a_and (held_pt 1 rfl rfl (held_pt 9 rfl rfl (held_pt 2 rfl rfl (held_pt 2 rfl rfl (held_pt 2 rfl rfl (held_pt 3 rfl rfl held_nil)))))) ?_
      refine e_calm 0 rfl ?_
      refine e_lit entTy [(⟨stp, id, r1.to, da⟩ : Jen)] 0 rfl rfl (by simp) ?_
      refine a_each (rs := [10]) (by as_aux_lemma => kernel_rfl) (.cons (ticked 11 2047) rfl rfl rfl (o_call [3] [3, 0] (jadd_ A c l b4 (.slice B rules.length d : Value) (.map (some m1) : Value) (some ⟨b10, 0, none⟩) 1 [(⟨stp, id, r1.to, da⟩ : Jen)] (by first | assumption | omega | (simp; done)) (by first | omega | (simp; done) | (simp; omega) | assumption) (by first | omega | (simp; done))) rfl rfl rfl rfl rfl rfl (fun v L' I' hq10 => ?_)) .nil) (List.cons_ne_nil _ _)
      obtain ⟨A1, c1, rfl, rfl, rfl⟩ := hq10
      refine a_and (held_pt 2 rfl rfl (held_pt 9 rfl rfl (held_pt 3 rfl rfl (held_pt 3 rfl rfl (held_pt 3 rfl rfl (held_pt 4 rfl rfl held_nil)))))) ?_
      refine a_done (by as_aux_lemma => kernel_rfl) ?_
      refine q_then (c_seq (c_region ?_))
      refine st rfl (o_ld 2 rfl rfl rfl Tryz.underlying51 rfl rfl ?_)
      refine s_y rfl (v := .pointer (some ⟨b4, 0, none⟩)) (y_k rfl rfl (fun _ => by kernel_rfl)) rfl ?_
      refine s_y rfl (v := .pointer (some ⟨b4, 0, none⟩)) (y_k rfl rfl (fun _ => by kernel_rfl)) rfl ?_
      refine s_y rfl (v := .pointer (some ⟨b4, 0, none⟩)) (y_k rfl rfl (fun _ => by kernel_rfl)) rfl ?_
      refine st rfl (o_ld 0 rfl rfl rfl Tryz.underlying23 rfl rfl ?_)
      refine s_y rfl (v := .slice A1 (l ++ [(⟨stp, id, r1.to, da⟩ : Jen)]).length c1) (y_as rfl) rfl ?_
      refine s_y rfl (v := .int .i64 0) (y_as rfl) rfl ?_
      refine s_nil (q_then (c_ret ?_))
      refine e_weak 1 rfl (fun _ h => h.win) ?_
      have hp : relF rules l stp cur id da = (l ++ [(⟨stp, id, r1.to, da⟩ : Jen)], 0) := by have hz : (spentF l id : Int) = f1 r1.id := (by rw [h4, (find_id (by assumption)).1]); first | exact rel_1 (by assumption) | exact rel_2 (by assumption) (by assumption) | exact rel_3 (by assumption) (by assumption) (by assumption) | exact rel_4 (by assumption) (by assumption) (by assumption) (by assumption) | exact rel_5 (by assumption) (by assumption) (by assumption) (by assumption) (by assumption) | exact rel_6 (by assumption) (by assumption) (by assumption) (by assumption) (by assumption) (by omega) | exact rel_7 (by assumption) (by assumption) (by assumption) (by assumption) (by assumption) (by omega)
      refine c_fin (I' := []) [1] [2, 3, 4, 5, 6, 7, 8] rfl (.tmp rfl (.tmp rfl .nil)) rfl rfl rfl ?_
      rw [hp]
      exact ⟨_, _, rfl, rfl, rfl⟩
    ·
     refine s_y rfl (v := .iface 70 (.agg #[.int .i64 150, .nilIface])) (y_as rfl) rfl ?_
     refine s_nil (q_then (c_seq (c_region ?_)))
     refine s_y rfl (v := .iface 70 (.agg #[.int .i64 150, .nilIface])) (y_mv rfl) rfl ?_
     refine s_y rfl (v := .bool true) (y_k rfl rfl (fun _ => by kernel_rfl)) rfl ?_
     refine s_nil (q_then (c_true rfl (c_seq (c_region ?_))))
     refine s_y rfl (v := .iface 70 (.agg #[.int .i64 150, .nilIface])) (y_mv rfl) rfl ?_
     refine st rfl (o_call [] [4, 5, 6] (jtold_k_ es (150 : Int)) rfl rfl rfl rfl rfl rfl (fun v L' I' hq11 => ?_))
     obtain ⟨rfl, rfl, rfl⟩ := hq11
     refine s_y rfl (v := .slice none 0 0) (y_as rfl) rfl ?_
     refine s_y rfl (v := .int .i64 (150 : Int)) (y_as rfl) rfl ?_
     refine s_nil (q_then (c_ret (q_block_ret (q_then_ret (q_then_ret (q_block_ret (q_then_ret ?_)))))))
     refine e_nil entTy 47 ?_
     refine e_weak 0 rfl (fun _ h => h.win) ?_
     have hp : relF rules l stp cur id da = ([], (150 : Int)) := by first | exact rel_1 (by assumption) | exact rel_2 (by assumption) (by assumption) | exact rel_3 (by assumption) (by assumption) (by assumption) | exact rel_4 (by assumption) (by assumption) (by assumption) (by assumption) | exact rel_5 (by assumption) (by assumption) (by assumption) (by assumption) (by assumption) | exact rel_6 (by assumption) (by assumption) (by assumption) (by assumption) (by assumption) (by omega) | exact rel_7 (by assumption) (by assumption) (by assumption) (by assumption) (by assumption) (by omega)
     refine c_fin (I' := []) [0] [0, 1, 2, 3, 4, 5, 6] rfl (.tmp rfl (.tmp rfl .nil)) rfl rfl rfl ?_
     rw [hp]
     exact ⟨_, _, rfl, rfl, rfl⟩
   ·
    refine s_y rfl (v := .iface 70 (.agg #[.int .i64 152, .nilIface])) (y_as rfl) rfl ?_
    refine s_nil (q_then (c_seq (c_region ?_)))
    refine s_y rfl (v := .iface 70 (.agg #[.int .i64 152, .nilIface])) (y_mv rfl) rfl ?_
    refine s_y rfl (v := .bool true) (y_k rfl rfl (fun _ => by kernel_rfl)) rfl ?_
    refine s_nil (q_then (c_true rfl (c_seq (c_region ?_))))
    refine s_y rfl (v := .iface 70 (.agg #[.int .i64 152, .nilIface])) (y_mv rfl) rfl ?_
    refine st rfl (o_call [] [4, 5, 6] (jtold_k_ es (152 : Int)) rfl rfl rfl rfl rfl rfl (fun v L' I' hq12 => ?_))
    obtain ⟨rfl, rfl, rfl⟩ := hq12
    refine s_y rfl (v := .slice none 0 0) (y_as rfl) rfl ?_
    refine s_y rfl (v := .int .i64 (152 : Int)) (y_as rfl) rfl ?_
    refine s_nil (q_then (c_ret (q_block_ret (q_then_ret (q_then_ret (q_block_ret (q_then_ret ?_)))))))
    refine e_nil entTy 47 ?_
    refine e_weak 0 rfl (fun _ h => h.win) ?_
    have hp : relF rules l stp cur id da = ([], (152 : Int)) := by first | exact rel_1 (by assumption) | exact rel_2 (by assumption) (by assumption) | exact rel_3 (by assumption) (by assumption) (by assumption) | exact rel_4 (by assumption) (by assumption) (by assumption) (by assumption) | exact rel_5 (by assumption) (by assumption) (by assumption) (by assumption) (by assumption) | exact rel_6 (by assumption) (by assumption) (by assumption) (by assumption) (by assumption) (by omega) | exact rel_7 (by assumption) (by assumption) (by assumption) (by assumption) (by assumption) (by omega)
    refine c_fin (I' := []) [0] [0, 1, 2, 3, 4, 5, 6] rfl (.tmp rfl (.tmp rfl .nil)) rfl rfl rfl ?_
    rw [hp]
    exact ⟨_, _, rfl, rfl, rfl⟩
  ·
   refine s_y rfl (v := .iface 70 (.agg #[.int .i64 152, .nilIface])) (y_as rfl) rfl ?_
   refine s_nil (q_then (c_seq (c_region ?_)))
   refine s_y rfl (v := .iface 70 (.agg #[.int .i64 152, .nilIface])) (y_mv rfl) rfl ?_
   refine s_y rfl (v := .bool true) (y_k rfl rfl (fun _ => by kernel_rfl)) rfl ?_
   refine s_nil (q_then (c_true rfl (c_seq (c_region ?_))))
   refine s_y rfl (v := .iface 70 (.agg #[.int .i64 152, .nilIface])) (y_mv rfl) rfl ?_
   refine st rfl (o_call [] [4, 5, 6] (jtold_k_ es (152 : Int)) rfl rfl rfl rfl rfl rfl (fun v L' I' hq13 => ?_))
   obtain ⟨rfl, rfl, rfl⟩ := hq13
   refine s_y rfl (v := .slice none 0 0) (y_as rfl) rfl ?_
   refine s_y rfl (v := .int .i64 (152 : Int)) (y_as rfl) rfl ?_
   refine s_nil (q_then (c_ret (q_block_ret (q_then_ret (q_then_ret (q_block_ret (q_then_ret ?_)))))))
   refine e_nil entTy 47 ?_
   refine e_weak 0 rfl (fun _ h => h.win) ?_
   have hp : relF rules l stp cur id da = ([], (152 : Int)) := by first | exact rel_1 (by assumption) | exact rel_2 (by assumption) (by assumption) | exact rel_3 (by assumption) (by assumption) (by assumption) | exact rel_4 (by assumption) (by assumption) (by assumption) (by assumption) | exact rel_5 (by assumption) (by assumption) (by assumption) (by assumption) (by assumption) | exact rel_6 (by assumption) (by assumption) (by assumption) (by assumption) (by assumption) (by omega) | exact rel_7 (by assumption) (by assumption) (by assumption) (by assumption) (by assumption) (by omega)
   refine c_fin (I' := []) [0] [0, 1, 2, 3, 4, 5, 6] rfl (.tmp rfl (.tmp rfl .nil)) rfl rfl rfl ?_
   rw [hp]
   exact ⟨_, _, rfl, rfl, rfl⟩
 ·
  refine s_y rfl (v := .tuple #[.agg #[.int .i64 0, .int .i64 0, .int .u64 0, .int .i64 0, .int .i64 0, .int .u64 0, .int .i64 0, .int .i64 0, .int .i64 0, .int .i64 0, .string (⟨#[]⟩ : ByteArray)], .bool false]) (y_mv rfl) rfl ?_
  refine s_y rfl (v := .agg #[.int .i64 0, .int .i64 0, .int .u64 0, .int .i64 0, .int .i64 0, .int .u64 0, .int .i64 0, .int .i64 0, .int .i64 0, .int .i64 0, .string (⟨#[]⟩ : ByteArray)]) (y_k rfl rfl (fun _ => by kernel_rfl)) rfl ?_
  refine s_y rfl (v := .bool false) (y_k rfl rfl (fun _ => by kernel_rfl)) rfl ?_
  refine st rfl (o_box (cs := [.int .i64 0, .int .i64 0, .int .u64 0, .int .i64 0, .int .i64 0, .int .u64 0, .int .i64 0, .int .i64 0, .int .i64 0, .int .i64 0, .string (⟨#[]⟩ : ByteArray)]) (T := 42) rfl rfl rfl rfl (fun _ => by kernel_rfl) (fun b11 => ?_))
  refine st rfl (o_box (cs := [.bool false]) (T := 4) rfl rfl rfl rfl (fun _ => by kernel_rfl) (fun b12 => ?_))
  refine st rfl (o_st 1 rfl rfl rfl rfl rfl (by kernel_rfl) (by kernel_rfl) rfl ?_)
  refine st rfl (o_st 0 rfl rfl rfl rfl rfl (by kernel_rfl) (by kernel_rfl) rfl ?_)
  refine s_nil (q_then (c_seq (c_region ?_)))
  refine st rfl (o_box (cs := [.nilFunc]) (T := 71) rfl rfl rfl rfl (fun _ => by kernel_rfl) (fun b13 => ?_))
  refine st rfl (o_st 0 rfl rfl rfl rfl rfl (by kernel_rfl) (by kernel_rfl) rfl ?_)
  refine s_nil (q_then (c_seq (c_region ?_)))
  refine st rfl (o_ld 3 rfl rfl rfl Tryz.underlying51 rfl rfl ?_)
  refine s_y rfl (v := .func (.func 23) #[.pointer (some ⟨b4, 0, none⟩)] #[]) (y_k rfl rfl (fun _ => by kernel_rfl)) rfl ?_
  refine s_y rfl (v := .func (.func 37) #[] #[.pointer (some ⟨b13, 0, none⟩), .pointer (some ⟨b1, 0, none⟩), .pointer (some ⟨b5, 0, none⟩)]) (y_k rfl rfl (fun _ => by kernel_rfl)) rfl ?_
  refine s_y rfl (v := .func (.func 40) #[] #[.pointer (some ⟨b13, 0, none⟩), .pointer (some ⟨b12, 0, none⟩)]) (y_k rfl rfl (fun _ => by kernel_rfl)) rfl ?_
  refine s_y rfl (v := .func (.func 41) #[] #[.pointer (some ⟨b13, 0, none⟩), .pointer (some ⟨b11, 0, none⟩), .pointer (some ⟨b2, 0, none⟩)]) (y_k rfl rfl (fun _ => by kernel_rfl)) rfl ?_
  refine s_y rfl (v := .func (.func 42) #[] #[.pointer (some ⟨b5, 0, none⟩), .pointer (some ⟨b11, 0, none⟩), .pointer (some ⟨b3, 0, none⟩)]) (y_k rfl rfl (fun _ => by kernel_rfl)) rfl ?_
  refine st rfl (o_lit (cs := [.func (.func 23) #[.pointer (some ⟨b4, 0, none⟩)] #[], .func (.func 37) #[] #[.pointer (some ⟨b13, 0, none⟩), .pointer (some ⟨b1, 0, none⟩), .pointer (some ⟨b5, 0, none⟩)], .func (.func 40) #[] #[.pointer (some ⟨b13, 0, none⟩), .pointer (some ⟨b12, 0, none⟩)], .func (.func 41) #[] #[.pointer (some ⟨b13, 0, none⟩), .pointer (some ⟨b11, 0, none⟩), .pointer (some ⟨b2, 0, none⟩)], .func (.func 42) #[] #[.pointer (some ⟨b5, 0, none⟩), .pointer (some ⟨b11, 0, none⟩), .pointer (some ⟨b3, 0, none⟩)]]) (T := 53) (m := 5) rfl rfl rfl rfl (fun _ => by kernel_rfl) (fun b14 => ?_))
  refine s_y rfl (v := .slice (some ⟨b14, 0, none⟩) 5 5) (y_as rfl) rfl ?_
  refine s_nil (q_then (c_seq (c_seq (c_region ?_))))
  refine s_y rfl (v := .slice (some ⟨b14, 0, none⟩) 5 5) (y_mv rfl) rfl ?_
  refine s_y rfl (v := .int .i64 5) (y_k rfl rfl (fun _ => by kernel_rfl)) rfl ?_
  refine s_y rfl (v := .int .i64 0) (y_mv rfl) rfl ?_
  refine s_nil (q_then (c_block ?_))
  refine c_unroll 6 ?_
  refine c_round ?_
  refine c_seq (c_region ?_)
  refine s_y rfl (v := .bool true) (y_k rfl rfl (fun _ => by kernel_rfl)) rfl ?_
  refine s_nil (q_then (c_seq (c_true rfl (c_skip (q_then (c_seq (c_block (c_seq (c_region ?_)))))))))
  refine s_y rfl (v := .pointer (some ⟨b14, 0, none⟩)) (y_k rfl rfl (fun _ => by kernel_rfl)) rfl ?_
  refine st rfl (o_ld 0 rfl rfl rfl Tryz.underlying53 rfl rfl ?_)
  refine s_y rfl (v := .func (.func 23) #[.pointer (some ⟨b4, 0, none⟩)] #[]) (y_as rfl) rfl ?_
  refine s_nil (q_then (c_seq (c_region ?_)))
  refine s_y rfl (v := .func (.func 23) #[.pointer (some ⟨b4, 0, none⟩)] #[]) (y_mv rfl) rfl ?_
  refine st rfl (o_call [5, 5] [0, 1, 2, 3, 4, 5, 6] (jchecked_ b4 m1 B d rules A c l ef es (by first | omega | (simp; done) | (simp; omega) | assumption) (by assumption) (by first | omega | (simp; done) | (simp; omega) | assumption) (by assumption)) rfl rfl rfl rfl rfl rfl (fun v L' I' hq14 => ?_))
  rcases hq14 with ⟨f3, h15, h16, rfl, rfl, rfl⟩ | ⟨f4, h17, rfl, rfl, rfl⟩
  ·
   refine s_y rfl (v := .nilIface) (y_as rfl) rfl ?_
   refine s_nil (q_then (c_seq (c_region ?_)))
   refine s_y rfl (v := .nilIface) (y_mv rfl) rfl ?_
   refine s_y rfl (v := .bool false) (y_k rfl rfl (fun _ => by kernel_rfl)) rfl ?_
   refine s_nil (q_then (c_false rfl (c_skip (q_block (q_then (c_region ?_))))))
   refine s_y rfl (v := .int .i64 1) (y_add (r := 1) rfl rfl (by first | rfl | omega) (by omega)) rfl ?_
   refine s_y rfl (v := .int .i64 1) (y_mv rfl) rfl ?_
   refine s_nil (q_then ?_)
   refine c_round ?_
   refine c_seq (c_region ?_)
   refine s_y rfl (v := .bool true) (y_k rfl rfl (fun _ => by kernel_rfl)) rfl ?_
   refine s_nil (q_then (c_seq (c_true rfl (c_skip (q_then (c_seq (c_block (c_seq (c_region ?_)))))))))
   refine s_y rfl (v := .pointer (some ⟨b14, 1, none⟩)) (y_k rfl rfl (fun _ => by kernel_rfl)) rfl ?_
   refine st rfl (o_ld 2 rfl rfl rfl Tryz.underlying53 rfl rfl ?_)
   refine s_y rfl (v := .func (.func 37) #[] #[.pointer (some ⟨b13, 0, none⟩), .pointer (some ⟨b1, 0, none⟩), .pointer (some ⟨b5, 0, none⟩)]) (y_as rfl) rfl ?_
   refine s_nil (q_then (c_seq (c_region ?_)))
   refine s_y rfl (v := .func (.func 37) #[] #[.pointer (some ⟨b13, 0, none⟩), .pointer (some ⟨b1, 0, none⟩), .pointer (some ⟨b5, 0, none⟩)]) (y_mv rfl) rfl ?_
   refine st rfl (o_call [3, 8, 5, 0] [1] (rel2_ b13 b1 b5 b4 stp A c l (.slice B rules.length d : Value) (.map (some m1) : Value) (by first | omega | (simp; done) | (simp; omega) | assumption)) rfl rfl rfl rfl rfl rfl (fun v L' I' hq15 => ?_))
   rcases hq15 with ⟨h18, rfl, rfl, rfl⟩ | ⟨h19, rfl, rfl, rfl⟩
   ·
    refine s_y rfl (v := .nilIface) (y_as rfl) rfl ?_
    refine s_nil (q_then (c_seq (c_region ?_)))
    refine s_y rfl (v := .nilIface) (y_mv rfl) rfl ?_
    refine s_y rfl (v := .bool false) (y_k rfl rfl (fun _ => by kernel_rfl)) rfl ?_
    refine s_nil (q_then (c_false rfl (c_skip (q_block (q_then (c_region ?_))))))
    refine s_y rfl (v := .int .i64 2) (y_add (r := 2) rfl rfl (by first | rfl | omega) (by omega)) rfl ?_
    refine s_y rfl (v := .int .i64 2) (y_mv rfl) rfl ?_
    refine s_nil (q_then ?_)
    refine c_round ?_
    refine c_seq (c_region ?_)
    refine s_y rfl (v := .bool true) (y_k rfl rfl (fun _ => by kernel_rfl)) rfl ?_
    refine s_nil (q_then (c_seq (c_true rfl (c_skip (q_then (c_seq (c_block (c_seq (c_region ?_)))))))))
    refine s_y rfl (v := .pointer (some ⟨b14, 2, none⟩)) (y_k rfl rfl (fun _ => by kernel_rfl)) rfl ?_
    refine st rfl (o_ld 5 rfl rfl rfl Tryz.underlying53 rfl rfl ?_)
    refine s_y rfl (v := .func (.func 40) #[] #[.pointer (some ⟨b13, 0, none⟩), .pointer (some ⟨b12, 0, none⟩)]) (y_as rfl) rfl ?_
    refine s_nil (q_then (c_seq (c_region ?_)))
    refine s_y rfl (v := .func (.func 40) #[] #[.pointer (some ⟨b13, 0, none⟩), .pointer (some ⟨b12, 0, none⟩)]) (y_mv rfl) rfl ?_
    refine st rfl (o_call [0, 5] [] (rel3_f_ b13 b12) rfl rfl rfl rfl rfl rfl (fun v L' I' hq16 => ?_))
    obtain ⟨rfl, rfl, rfl⟩ := hq16
    refine s_y rfl (v := .iface 70 (.agg #[.int .i64 140, .nilIface])) (y_as rfl) rfl ?_
    refine s_nil (q_then (c_seq (c_region ?_)))
    refine s_y rfl (v := .iface 70 (.agg #[.int .i64 140, .nilIface])) (y_mv rfl) rfl ?_
    refine s_y rfl (v := .bool true) (y_k rfl rfl (fun _ => by kernel_rfl)) rfl ?_
    refine s_nil (q_then (c_true rfl (c_seq (c_region ?_))))
    refine s_y rfl (v := .iface 70 (.agg #[.int .i64 140, .nilIface])) (y_mv rfl) rfl ?_
    refine st rfl (o_call [] [4, 5, 6] (jtold_k_ es (140 : Int)) rfl rfl rfl rfl rfl rfl (fun v L' I' hq17 => ?_))
    obtain ⟨rfl, rfl, rfl⟩ := hq17
    refine s_y rfl (v := .slice none 0 0) (y_as rfl) rfl ?_
    refine s_y rfl (v := .int .i64 (140 : Int)) (y_as rfl) rfl ?_
    refine s_nil (q_then (c_ret (q_block_ret (q_then_ret (q_then_ret (q_block_ret (q_then_ret ?_)))))))
    refine e_nil entTy 47 ?_
    refine e_weak 0 rfl (fun _ h => h.win) ?_
    have hp : relF rules l stp cur id da = ([], (140 : Int)) := by first | exact rel_1 (by assumption) | exact rel_2 (by assumption) (by assumption) | exact rel_3 (by assumption) (by assumption) (by assumption) | exact rel_4 (by assumption) (by assumption) (by assumption) (by assumption) | exact rel_5 (by assumption) (by assumption) (by assumption) (by assumption) (by assumption) | exact rel_6 (by assumption) (by assumption) (by assumption) (by assumption) (by assumption) (by omega) | exact rel_7 (by assumption) (by assumption) (by assumption) (by assumption) (by assumption) (by omega)
    refine c_fin (I' := []) [0] [0, 1, 2, 3, 4, 5, 6] rfl (.tmp rfl (.tmp rfl .nil)) rfl rfl rfl ?_
    rw [hp]
    exact ⟨_, _, rfl, rfl, rfl⟩
   ·
    refine s_y rfl (v := .iface 70 (.agg #[.int .i64 152, .nilIface])) (y_as rfl) rfl ?_
    refine s_nil (q_then (c_seq (c_region ?_)))
    refine s_y rfl (v := .iface 70 (.agg #[.int .i64 152, .nilIface])) (y_mv rfl) rfl ?_
    refine s_y rfl (v := .bool true) (y_k rfl rfl (fun _ => by kernel_rfl)) rfl ?_
    refine s_nil (q_then (c_true rfl (c_seq (c_region ?_))))
    refine s_y rfl (v := .iface 70 (.agg #[.int .i64 152, .nilIface])) (y_mv rfl) rfl ?_
    refine st rfl (o_call [] [4, 5, 6] (jtold_k_ es (152 : Int)) rfl rfl rfl rfl rfl rfl (fun v L' I' hq18 => ?_))
    obtain ⟨rfl, rfl, rfl⟩ := hq18
    refine s_y rfl (v := .slice none 0 0) (y_as rfl) rfl ?_
    refine s_y rfl (v := .int .i64 (152 : Int)) (y_as rfl) rfl ?_
    refine s_nil (q_then (c_ret (q_block_ret (q_then_ret (q_then_ret (q_block_ret (q_then_ret ?_)))))))
    refine e_nil entTy 47 ?_
    refine e_weak 0 rfl (fun _ h => h.win) ?_
    have hp : relF rules l stp cur id da = ([], (152 : Int)) := by first | exact rel_1 (by assumption) | exact rel_2 (by assumption) (by assumption) | exact rel_3 (by assumption) (by assumption) (by assumption) | exact rel_4 (by assumption) (by assumption) (by assumption) (by assumption) | exact rel_5 (by assumption) (by assumption) (by assumption) (by assumption) (by assumption) | exact rel_6 (by assumption) (by assumption) (by assumption) (by assumption) (by assumption) (by omega) | exact rel_7 (by assumption) (by assumption) (by assumption) (by assumption) (by assumption) (by omega)
    refine c_fin (I' := []) [0] [0, 1, 2, 3, 4, 5, 6] rfl (.tmp rfl (.tmp rfl .nil)) rfl rfl rfl ?_
    rw [hp]
    exact ⟨_, _, rfl, rfl, rfl⟩
  ·
   refine s_y rfl (v := .iface 70 (.agg #[.int .i64 152, .nilIface])) (y_as rfl) rfl ?_
   refine s_nil (q_then (c_seq (c_region ?_)))
   refine s_y rfl (v := .iface 70 (.agg #[.int .i64 152, .nilIface])) (y_mv rfl) rfl ?_
   refine s_y rfl (v := .bool true) (y_k rfl rfl (fun _ => by kernel_rfl)) rfl ?_
   refine s_nil (q_then (c_true rfl (c_seq (c_region ?_))))
   refine s_y rfl (v := .iface 70 (.agg #[.int .i64 152, .nilIface])) (y_mv rfl) rfl ?_
   refine st rfl (o_call [] [4, 5, 6] (jtold_k_ es (152 : Int)) rfl rfl rfl rfl rfl rfl (fun v L' I' hq19 => ?_))
   obtain ⟨rfl, rfl, rfl⟩ := hq19
   refine s_y rfl (v := .slice none 0 0) (y_as rfl) rfl ?_
   refine s_y rfl (v := .int .i64 (152 : Int)) (y_as rfl) rfl ?_
   refine s_nil (q_then (c_ret (q_block_ret (q_then_ret (q_then_ret (q_block_ret (q_then_ret ?_)))))))
   refine e_nil entTy 47 ?_
   refine e_weak 0 rfl (fun _ h => h.win) ?_
   have hp : relF rules l stp cur id da = ([], (152 : Int)) := by first | exact rel_1 (by assumption) | exact rel_2 (by assumption) (by assumption) | exact rel_3 (by assumption) (by assumption) (by assumption) | exact rel_4 (by assumption) (by assumption) (by assumption) (by assumption) | exact rel_5 (by assumption) (by assumption) (by assumption) (by assumption) (by assumption) | exact rel_6 (by assumption) (by assumption) (by assumption) (by assumption) (by assumption) (by omega) | exact rel_7 (by assumption) (by assumption) (by assumption) (by assumption) (by assumption) (by omega)
   refine c_fin (I' := []) [0] [0, 1, 2, 3, 4, 5, 6] rfl (.tmp rfl (.tmp rfl .nil)) rfl rfl rfl ?_
   rw [hp]
   exact ⟨_, _, rfl, rfl, rfl⟩
end Go.Proofs.YthehnjbdkjnlpaaGreatDoor
