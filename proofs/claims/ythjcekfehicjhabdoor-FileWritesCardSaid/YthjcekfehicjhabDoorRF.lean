/- The laws of chapter 9 (file), walked over the given program; no condition but what stands in each theorem: part F. -/
import Derived.Test.YthjcekfehicjhabDoorRB
import Derived.Test.YthjcekfehicjhabDoorRC
set_option linter.unusedVariables false
set_option linter.unusedSimpArgs false
set_option maxRecDepth 100000
set_option maxHeartbeats 8000000
namespace Go.Proofs.YthjcekfehicjhabDoor
open Go Go.Sl Go.RowKit Go.Extern.Stop Go.Stop Go.Extern
theorem spliceE_ (b : Nat) (A : Option Addr) (c : Nat) (l : List UInt8) (at_ : Int) (n : Int) (t : ByteArray) (hl : l.length ≤ 100000) (ht : t.size ≤ 100000) : Con Tryd.prog 15 [.pointer (some ⟨b, 0, none⟩), .int .i64 at_, .int .i64 n, .string t] [pt b [.slice A l.length c, .iface 49 (.agg #[])] 44] [] (fun v L' I' => v = .tuple #[] ∧ L' = [pt b [.slice A l.length c, .iface 49 (.agg #[])] 44] ∧ I' = []) := by
  refine fn_of Tryd.func15 rfl Tryd.ntmps15 (by kernel_rfl) rfl (fun C => ?_)
  refine c_seq ?_
  refine c_seq ?_
  refine c_region ?_
  refine st rfl (o_y (v := .pointer (some ⟨b, 0, none⟩)) (y_mv rfl) rfl rfl rfl ?_)
  refine st rfl (o_y (v := .pointer (some ⟨b, 0, none⟩)) (y_mv rfl) rfl rfl rfl ?_)
  refine st rfl (o_y (v := .int .i64 at_) (y_mv rfl) rfl rfl rfl ?_)
  refine st rfl (o_call [0] [] (isOffset_ b A c l (.iface 49 (.agg #[]) : Value) at_) rfl rfl rfl rfl rfl rfl (fun v L' I' hq1 => ?_))
  obtain ⟨rfl, rfl, rfl⟩ := hq1
  refine st rfl (o_y (v := .int .i64 n) (y_mv rfl) rfl rfl rfl ?_)
  refine st rfl (o_y (v := .bool (decide (n ≥ 0))) (y_k rfl rfl (fun _ => by kernel_rfl)) rfl rfl rfl ?_)
  refine st rfl (o_lit (cs := [.bool (decide (0 ≤ at_ ∧ at_ ≤ (l.length : Int))), .bool (decide (n ≥ 0))]) (T := 4) (m := 2) rfl rfl rfl rfl (fun _ => by kernel_rfl) (fun b1 => ?_))
  refine e_calm 0 rfl ?_
  refine e_lit boolTy [decide (0 ≤ at_ ∧ at_ ≤ (l.length : Int)), decide (n ≥ 0)] 0 rfl rfl (by simp) ?_
  refine st rfl (o_call [0] [0] (must2_ b A c l (.iface 49 (.agg #[]) : Value) (some ⟨b1, 0, none⟩) 2 (0 ≤ at_ ∧ at_ ≤ (l.length : Int)) (n ≥ 0)) rfl rfl rfl rfl rfl rfl (fun v L' I' hq2 => ?_))
  rcases hq2 with ⟨h1, rfl, rfl, rfl⟩ | ⟨h2, rfl, rfl, rfl⟩
  ·
    refine s_nil ?_
    refine q_then ?_
    refine c_seq ?_
    refine c_region ?_
    refine st rfl (o_y (v := .pointer (some ⟨b, 0, none⟩)) (y_mv rfl) rfl rfl rfl ?_)
    refine st rfl (o_y (v := .pointer (some ⟨b, 0, none⟩)) (y_k rfl rfl (fun _ => by kernel_rfl)) rfl rfl rfl ?_)
    refine st rfl (o_y (v := .pointer (some ⟨b, 1, none⟩)) (y_k rfl rfl (fun _ => by kernel_rfl)) rfl rfl rfl ?_)
    refine st rfl (o_ld 0 rfl rfl rfl Tryd.underlying42 rfl rfl ?_)
    refine st rfl (o_y (v := .bool true) (y_k rfl rfl (fun _ => by kernel_rfl)) rfl rfl rfl ?_)
    refine s_nil ?_
    refine q_then ?_
    refine c_true rfl ?_
    refine c_ret ?_
    refine q_then_ret ?_
    refine c_fin (I' := []) [0] [] rfl .nil rfl rfl rfl ?_
    exact ⟨rfl, rfl, rfl⟩
  ·
    refine s_nil ?_
    refine q_then ?_
    refine c_seq ?_
    refine c_region ?_
    refine st rfl (o_y (v := .pointer (some ⟨b, 0, none⟩)) (y_mv rfl) rfl rfl rfl ?_)
    refine st rfl (o_y (v := .pointer (some ⟨b, 0, none⟩)) (y_k rfl rfl (fun _ => by kernel_rfl)) rfl rfl rfl ?_)
    refine st rfl (o_y (v := .pointer (some ⟨b, 1, none⟩)) (y_k rfl rfl (fun _ => by kernel_rfl)) rfl rfl rfl ?_)
    refine st rfl (o_ld 0 rfl rfl rfl Tryd.underlying42 rfl rfl ?_)
    refine st rfl (o_y (v := .bool true) (y_k rfl rfl (fun _ => by kernel_rfl)) rfl rfl rfl ?_)
    refine s_nil ?_
    refine q_then ?_
    refine c_true rfl ?_
    refine c_ret ?_
    refine q_then_ret ?_
    refine c_fin (I' := []) [0] [] rfl .nil rfl rfl rfl ?_
    exact ⟨rfl, rfl, rfl⟩
theorem end_ok_ (b : Nat) (A : Option Addr) (c : Nat) (l : List UInt8) : Con Tryd.prog 16 [.pointer (some ⟨b, 0, none⟩)] [pt b [.slice A l.length c, .nilIface] 44] [rd u8Ty A c l] (fun v L' I' => v = .tuple #[.string (⟨List.toArray l⟩ : ByteArray), .int .i64 0] ∧ L' = [pt b [.slice A l.length c, .nilIface] 44] ∧ I' = []) := by
  refine fn_of Tryd.func16 rfl Tryd.ntmps16 (by kernel_rfl) rfl (fun C => ?_)
  refine c_seq ?_
  refine c_region ?_
  refine st rfl (o_y (v := .string (⟨#[]⟩ : ByteArray)) (y_as rfl) rfl rfl rfl ?_)
  refine st rfl (o_y (v := .int .i64 0) (y_as rfl) rfl rfl rfl ?_)
  refine s_nil ?_
  refine q_then ?_
  refine c_seq ?_
  refine c_seq ?_
  refine c_region ?_
  refine st rfl (o_y (v := .pointer (some ⟨b, 0, none⟩)) (y_mv rfl) rfl rfl rfl ?_)
  refine st rfl (o_y (v := .pointer (some ⟨b, 0, none⟩)) (y_k rfl rfl (fun _ => by kernel_rfl)) rfl rfl rfl ?_)
  refine st rfl (o_y (v := .pointer (some ⟨b, 1, none⟩)) (y_k rfl rfl (fun _ => by kernel_rfl)) rfl rfl rfl ?_)
  refine st rfl (o_ld 0 rfl rfl rfl Tryd.underlying42 rfl rfl ?_)
  refine st rfl (o_y (v := .bool false) (y_k rfl rfl (fun _ => by kernel_rfl)) rfl rfl rfl ?_)
  refine s_nil ?_
  refine q_then ?_
  refine c_false rfl ?_
  refine c_skip ?_
  refine q_then ?_
  refine c_seq ?_
  refine c_region ?_
  refine st rfl (o_y (v := .pointer (some ⟨b, 0, none⟩)) (y_mv rfl) rfl rfl rfl ?_)
  refine st rfl (o_y (v := .pointer (some ⟨b, 0, none⟩)) (y_k rfl rfl (fun _ => by kernel_rfl)) rfl rfl rfl ?_)
  refine st rfl (o_y (v := .pointer (some ⟨b, 0, none⟩)) (y_k rfl rfl (fun _ => by kernel_rfl)) rfl rfl rfl ?_)
  refine st rfl (o_y (v := .pointer (some ⟨b, 0, none⟩)) (y_k rfl rfl (fun _ => by kernel_rfl)) rfl rfl rfl ?_)
  refine st rfl (o_ld 0 rfl rfl rfl Tryd.underlying38 rfl rfl ?_)
  refine st rfl (o_b2s (l := l) rfl rfl (src_rd 0 rfl) Tryd.underlying38 Tryd.underlying9 Tryd.underlying5 rfl ?_)
  refine st rfl (o_y (v := .string (⟨List.toArray l⟩ : ByteArray)) (y_as rfl) rfl rfl rfl ?_)
  refine st rfl (o_y (v := .int .i64 0) (y_as rfl) rfl rfl rfl ?_)
  refine s_nil ?_
  refine q_then ?_
  refine c_ret ?_
  refine c_fin (I' := []) [0] [0] rfl (.tmp rfl (.tmp rfl .nil)) rfl rfl rfl ?_
  exact ⟨rfl, rfl, rfl⟩
theorem end_err_ (b : Nat) (A : Option Addr) (c : Nat) (l : List UInt8) : Con Tryd.prog 16 [.pointer (some ⟨b, 0, none⟩)] [pt b [.slice A l.length c, .iface 49 (.agg #[])] 44] [cellsAt 0 0 [.iface 70 (.agg #[.pointer (some ⟨1, 42, none⟩)])]] (fun v L' I' => v = .tuple #[.string (⟨#[]⟩ : ByteArray), .int .i64 90] ∧ L' = [] ∧ I' = []) := by
  refine fn_of Tryd.func16 rfl Tryd.ntmps16 (by kernel_rfl) rfl (fun C => ?_)
  refine c_seq ?_
  refine c_region ?_
  refine st rfl (o_y (v := .string (⟨#[]⟩ : ByteArray)) (y_as rfl) rfl rfl rfl ?_)
  refine st rfl (o_y (v := .int .i64 0) (y_as rfl) rfl rfl rfl ?_)
  refine s_nil ?_
  refine q_then ?_
  refine c_seq ?_
  refine c_seq ?_
  refine c_region ?_
  refine st rfl (o_y (v := .pointer (some ⟨b, 0, none⟩)) (y_mv rfl) rfl rfl rfl ?_)
  refine st rfl (o_y (v := .pointer (some ⟨b, 0, none⟩)) (y_k rfl rfl (fun _ => by kernel_rfl)) rfl rfl rfl ?_)
  refine st rfl (o_y (v := .pointer (some ⟨b, 1, none⟩)) (y_k rfl rfl (fun _ => by kernel_rfl)) rfl rfl rfl ?_)
  refine st rfl (o_ld 0 rfl rfl rfl Tryd.underlying42 rfl rfl ?_)
  refine st rfl (o_y (v := .bool true) (y_k rfl rfl (fun _ => by kernel_rfl)) rfl rfl rfl ?_)
  refine s_nil ?_
  refine q_then ?_
  refine c_true rfl ?_
  refine c_seq ?_
  refine c_region ?_
  refine st rfl (o_y (v := .pointer (some ⟨b, 0, none⟩)) (y_mv rfl) rfl rfl rfl ?_)
  refine st rfl (o_y (v := .pointer (some ⟨b, 0, none⟩)) (y_k rfl rfl (fun _ => by kernel_rfl)) rfl rfl rfl ?_)
  refine st rfl (o_y (v := .pointer (some ⟨b, 1, none⟩)) (y_k rfl rfl (fun _ => by kernel_rfl)) rfl rfl rfl ?_)
  refine st rfl (o_ld 0 rfl rfl rfl Tryd.underlying42 rfl rfl ?_)
  refine st rfl (o_call [] [0] told_w_ rfl rfl rfl rfl rfl rfl (fun v L' I' hq1 => ?_))
  obtain ⟨rfl, rfl, rfl⟩ := hq1
  refine st rfl (o_y (v := .string (⟨#[]⟩ : ByteArray)) (y_as rfl) rfl rfl rfl ?_)
  refine st rfl (o_y (v := .int .i64 90) (y_as rfl) rfl rfl rfl ?_)
  refine s_nil ?_
  refine q_then ?_
  refine c_ret ?_
  refine q_then_ret ?_
  refine c_fin (I' := []) [] [0] rfl (.tmp rfl (.tmp rfl .nil)) rfl rfl rfl ?_
  exact ⟨rfl, rfl, rfl⟩
end Go.Proofs.YthjcekfehicjhabDoor
