/- The laws of chapter 17 (call), walked over the given program; no condition but what stands in each theorem: part LC. -/
import Derived.WalkKit
import Derived.LaidEql
import Derived.Stop.Asserts
import Derived.RowKitTokens
import Derived.Test.YtcnncdniibkjkaaGreatDoorProg
import Derived.Test.YtcnncdniibkjkaaGreatDoorChecked
import Derived.Test.YtcnncdniibkjkaaGreatDoorSlO
set_option linter.unusedVariables false
set_option linter.unusedSimpArgs false
set_option maxRecDepth 100000
set_option maxHeartbeats 8000000
namespace Go.Proofs.YtcnncdniibkjkaaGreatDoor
open Go Go.Sl Go.RowKit Go.Extern.Stop Go.Stop Go.Extern
theorem copyCheck_new_ (b : Nat) (x : Value) : Con Tryz.prog 100 [.pointer (some ⟨b, 0, none⟩)] [pt b [.pointer none, x] 163] [] (fun v L' I' => v = .tuple #[] ∧ L' = [pt b [.pointer (some ⟨b, 0, none⟩), x] 163] ∧ I' = []) := by
 refine fn_of Tryz.func100 rfl Tryz.ntmps100 (by kernel_rfl) rfl (fun C => ?_)
 refine c_seq (c_region ?_)
 refine s_y rfl (v := .pointer (some ⟨b, 0, none⟩)) (y_mv rfl) rfl ?_
 refine s_y rfl (v := .pointer (some ⟨b, 0, none⟩)) (y_k rfl rfl (fun _ => by kernel_rfl)) rfl ?_
 refine s_y rfl (v := .pointer (some ⟨b, 0, none⟩)) (y_k rfl rfl (fun _ => by kernel_rfl)) rfl ?_
 refine st rfl (o_ld 0 rfl rfl rfl Tryz.underlying161 rfl rfl ?_)
 refine s_y rfl (v := .bool true) (y_k rfl rfl (fun _ => by kernel_rfl)) rfl ?_
 refine s_nil (q_then (c_true rfl (c_region ?_)))
 refine s_y rfl (v := .pointer (some ⟨b, 0, none⟩)) (y_mv rfl) rfl ?_
 refine s_y rfl (v := .pointer (some ⟨b, 0, none⟩)) (y_mv rfl) rfl ?_
 refine st rfl (o_tou 0 rfl rfl rfl Tryz.underlying161 Tryz.underlying110 (by kernel_rfl) rfl ?_)
 refine st rfl (o_extr (H := Extern.AbiNoEscape.same) (v := .pointer (some ⟨b, 0, none⟩)) 0 (@run_callFunc_extern Tryz.prog 103 _ Extern.AbiNoEscape.same Tryz.func103 (by kernel_rfl) (by kernel_rfl) (by kernel_rfl) (by kernel_rfl)) rfl rfl rfl (fun w hb => rfl) rfl ?_)
 refine st rfl (o_fromu (m := 2) 0 rfl rfl rfl Tryz.underlying110 Tryz.underlying161 (by kernel_rfl) (by kernel_rfl) rfl ?_)
 refine s_y rfl (v := .pointer (some ⟨b, 0, none⟩)) (y_k rfl rfl (fun _ => by kernel_rfl)) rfl ?_
 refine s_y rfl (v := .pointer (some ⟨b, 0, none⟩)) (y_k rfl rfl (fun _ => by kernel_rfl)) rfl ?_
 refine st rfl (o_st 0 rfl rfl rfl rfl rfl (by kernel_rfl) (by kernel_rfl) rfl ?_)
 refine s_nil ?_
 refine c_fin_end (I' := []) [0] [] rfl .nil rfl rfl rfl ?_
 exact ⟨rfl, rfl, rfl⟩
theorem copyCheck_used_ (b : Nat) (x : Value) : Con Tryz.prog 100 [.pointer (some ⟨b, 0, none⟩)] [pt b [.pointer (some ⟨b, 0, none⟩), x] 163] [] (fun v L' I' => v = .tuple #[] ∧ L' = [pt b [.pointer (some ⟨b, 0, none⟩), x] 163] ∧ I' = []) := by
 refine fn_of Tryz.func100 rfl Tryz.ntmps100 (by kernel_rfl) rfl (fun C => ?_)
 refine c_seq (c_region ?_)
 refine s_y rfl (v := .pointer (some ⟨b, 0, none⟩)) (y_mv rfl) rfl ?_
 refine s_y rfl (v := .pointer (some ⟨b, 0, none⟩)) (y_k rfl rfl (fun _ => by kernel_rfl)) rfl ?_
 refine s_y rfl (v := .pointer (some ⟨b, 0, none⟩)) (y_k rfl rfl (fun _ => by kernel_rfl)) rfl ?_
 refine st rfl (o_ld 0 rfl rfl rfl Tryz.underlying161 rfl rfl ?_)
 refine s_y rfl (v := .bool false) (y_k rfl rfl (fun _ => by kernel_rfl)) rfl ?_
 refine s_nil (q_then (c_false rfl (c_seq (c_region ?_))))
 refine s_y rfl (v := .pointer (some ⟨b, 0, none⟩)) (y_mv rfl) rfl ?_
 refine s_y rfl (v := .pointer (some ⟨b, 0, none⟩)) (y_k rfl rfl (fun _ => by kernel_rfl)) rfl ?_
 refine s_y rfl (v := .pointer (some ⟨b, 0, none⟩)) (y_k rfl rfl (fun _ => by kernel_rfl)) rfl ?_
 refine st rfl (o_ld 0 rfl rfl rfl Tryz.underlying161 rfl rfl ?_)
 refine s_y rfl (v := .pointer (some ⟨b, 0, none⟩)) (y_mv rfl) rfl ?_
 refine s_y rfl (v := .bool false) (y_ptrnn rfl rfl Tryz.underlying161 (by kernel_rfl)) rfl ?_
 refine s_nil (q_then (c_false rfl (c_skip ?_)))
 refine c_fin_end (I' := []) [0] [] rfl .nil rfl rfl rfl ?_
 exact ⟨rfl, rfl, rfl⟩
theorem copyCheck_ (b : Nat) (p : Value) (x : Value) (hp : p = .pointer none ∨ p = .pointer (some ⟨b, 0, none⟩)) : Con Tryz.prog 100 [.pointer (some ⟨b, 0, none⟩)] [pt b [p, x] 163] [] (fun v L' I' => v = .tuple #[] ∧ L' = [pt b [.pointer (some ⟨b, 0, none⟩), x] 163] ∧ I' = []) := by
  rcases hp with rfl | rfl
  · exact copyCheck_new_ b x
  · exact copyCheck_used_ b x
theorem WriteString_ (b : Nat) (p : Value) (s : ByteArray) (A : Option Addr) (c : Nat) (l : List UInt8) (hp : p = .pointer none ∨ p = .pointer (some ⟨b, 0, none⟩)) (hA : A = none ∨ 0 < c) (hl : l.length + s.size ≤ 140737488355328) : Con Tryz.prog 95 [.pointer (some ⟨b, 0, none⟩), .string s] [pt b [p, .slice A l.length c] 163, ars u8Ty 5 A c l] [] (fun v L' I' => ∃ A1 : Option Addr, ∃ c1 : Nat, (A1 = none ∨ 0 < c1) ∧ v = .tuple #[.int .i64 (s.size : Int), .nilIface] ∧ L' = [pt b [.pointer (some ⟨b, 0, none⟩), .slice A1 (l ++ s.data.toList).length c1] 163, ars u8Ty 5 A1 c1 (l ++ s.data.toList)] ∧ I' = []) := by
 refine fn_of Tryz.func95 rfl Tryz.ntmps95 (by kernel_rfl) rfl (fun C => ?_)
 refine c_seq (c_region ?_)
 refine s_y rfl (v := .int .i64 0) (y_as rfl) rfl ?_
 refine s_y rfl (v := .nilIface) (y_as rfl) rfl ?_
 refine s_nil (q_then (c_seq (c_region ?_)))
 refine s_y rfl (v := .pointer (some ⟨b, 0, none⟩)) (y_mv rfl) rfl ?_
 refine st rfl (o_call [0] [] (copyCheck_ b p (.slice A l.length c : Value) (by assumption)) rfl rfl rfl rfl rfl rfl (fun v L' I' hq1 => ?_))
 obtain ⟨rfl, rfl, rfl⟩ := hq1
 refine s_nil (q_then (c_seq (c_region ?_)))
 refine s_y rfl (v := .pointer (some ⟨b, 0, none⟩)) (y_mv rfl) rfl ?_
 refine s_y rfl (v := .pointer (some ⟨b, 0, none⟩)) (y_mv rfl) rfl ?_
 refine s_y rfl (v := .pointer (some ⟨b, 0, none⟩)) (y_k rfl rfl (fun _ => by kernel_rfl)) rfl ?_
 refine s_y rfl (v := .pointer (some ⟨b, 1, none⟩)) (y_k rfl rfl (fun _ => by kernel_rfl)) rfl ?_
 refine st rfl (o_ld 0 rfl rfl rfl Tryz.underlying105 rfl rfl ?_)
 refine s_y rfl (v := .string s) (y_mv rfl) rfl ?_
 refine st rfl (o_apps (l := l) (s := s) 1 rfl rfl rfl rfl hA Tryz.underlying105 Tryz.underlying9 (by kernel_rfl) (by omega) rfl (fun A1 c1 hA1 => ?_))
 refine s_y rfl (v := .pointer (some ⟨b, 0, none⟩)) (y_k rfl rfl (fun _ => by kernel_rfl)) rfl ?_
 refine s_y rfl (v := .pointer (some ⟨b, 1, none⟩)) (y_k rfl rfl (fun _ => by kernel_rfl)) rfl ?_
 refine st rfl (o_st 0 rfl rfl rfl rfl rfl (by kernel_rfl) (by kernel_rfl) rfl ?_)
 refine s_nil (q_then (c_seq (c_region ?_)))
 refine s_y rfl (v := .string s) (y_mv rfl) rfl ?_
 refine s_y rfl (v := .int .i64 (s.size : Int)) (y_k rfl rfl (fun _ => by kernel_rfl)) rfl ?_
 refine s_y rfl (v := .int .i64 (s.size : Int)) (y_as rfl) rfl ?_
 refine s_y rfl (v := .nilIface) (y_as rfl) rfl ?_
 refine s_nil (q_then (c_ret ?_))
 refine c_fin (I' := []) [0, 0] [] rfl (.tmp rfl (.tmp rfl .nil)) rfl rfl rfl ?_
 exact ⟨A1, c1, hA1, rfl, rfl, rfl⟩
theorem String_ (b : Nat) (p : Value) (A : Option Addr) (c : Nat) (l : List UInt8) (hA : A = none ∨ 0 < c) : Con Tryz.prog 96 [.pointer (some ⟨b, 0, none⟩)] [pt b [p, .slice A l.length c] 163, ars u8Ty 5 A c l] [] (fun v L' I' => v = .string (⟨List.toArray l⟩ : ByteArray) ∧ L' = [] ∧ I' = []) := by
 refine fn_of Tryz.func96 rfl Tryz.ntmps96 (by kernel_rfl) rfl (fun C => ?_)
 refine c_seq (c_region ?_)
 refine s_y rfl (v := .string (⟨#[]⟩ : ByteArray)) (y_as rfl) rfl ?_
 refine s_nil (q_then (c_seq ?_))
 refine c_draw (l := ticked 12 0) [(⟨b, 1, none⟩, .slice A l.length c)] [] (by kernel_rfl) rfl rfl ?_
 refine b_y (i := 0) (v := .pointer (some ⟨b, 0, none⟩)) (ticked 12 1) rfl rfl (by exact y_mv rfl) ?_
 refine b_y (i := 1) (v := .pointer (some ⟨b, 0, none⟩)) (ticked 12 3) rfl rfl (by exact y_k rfl rfl (fun _ => by kernel_rfl)) ?_
 refine b_y (i := 2) (v := .pointer (some ⟨b, 1, none⟩)) (ticked 12 7) rfl rfl (by exact y_k rfl rfl (fun _ => by kernel_rfl)) ?_
 refine b_y (i := 5) (v := .pointer (some ⟨b, 0, none⟩)) (ticked 12 39) rfl rfl (by exact y_mv rfl) ?_
 refine b_y (i := 6) (v := .pointer (some ⟨b, 0, none⟩)) (ticked 12 103) rfl rfl (by exact y_k rfl rfl (fun _ => by kernel_rfl)) ?_
 refine b_y (i := 7) (v := .pointer (some ⟨b, 1, none⟩)) (ticked 12 231) rfl rfl (by exact y_k rfl rfl (fun _ => by kernel_rfl)) ?_
 refine a_held (i := 3) (ticked 12 239) rfl (by as_aux_lemma => kernel_rfl) rfl rfl rfl (held_pt 0 rfl rfl held_nil) (h_ld 0 rfl rfl Tryz.underlying105 rfl) ?_
 refine b_y (i := 4) (v := .pointer A) (ticked 12 255) rfl rfl (by exact y_sdata rfl hA) ?_
 refine a_held (i := 8) (ticked 12 511) rfl (by as_aux_lemma => kernel_rfl) rfl rfl rfl (held_pt 0 rfl rfl held_nil) (h_ld 0 rfl rfl Tryz.underlying105 rfl) ?_
 refine b_y (i := 9) (v := .int .i64 (l.length : Int)) (ticked 12 1023) rfl rfl (by exact y_k rfl rfl (fun _ => by kernel_rfl)) ?_
 refine a_each (rs := [10]) (by as_aux_lemma => kernel_rfl) (.cons (ticked 12 2047) rfl rfl rfl (o_ustr 1 rfl rfl rfl rfl Tryz.underlying173 (by kernel_rfl) rfl ?_) .nil) (List.cons_ne_nil _ _)
 refine a_and (held_pt 0 rfl rfl held_nil) ?_
 refine b_y (i := 11) (v := .string (⟨List.toArray l⟩ : ByteArray)) (ticked 12 4095) rfl rfl (by exact y_as rfl) ?_
 refine a_done (by as_aux_lemma => kernel_rfl) ?_
 refine q_then (c_ret ?_)
 refine c_fin (I' := []) [] [] rfl (.tmp rfl .nil) rfl rfl rfl ?_
 exact ⟨rfl, rfl, rfl⟩
end Go.Proofs.YtcnncdniibkjkaaGreatDoor
