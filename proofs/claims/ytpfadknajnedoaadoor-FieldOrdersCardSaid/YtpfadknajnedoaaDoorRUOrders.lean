/- The laws of chapter 3 (field), walked over the given program; no condition but what stands in each theorem: part UOrders. -/
import Derived.Test.YtpfadknajnedoaaDoorRT
set_option linter.unusedVariables false
set_option linter.unusedSimpArgs false
set_option maxRecDepth 100000
set_option maxHeartbeats 8000000
namespace Go.Proofs.YtpfadknajnedoaaDoor
open Go Go.Sl Go.RowKit Go.Extern.Stop Go.Stop Go.Extern
theorem FieldOrders_ (ea : Addr) (em : Addr) (ef : Addr) (h12 : ea ≠ em) (h13 : ea ≠ ef) (h23 : em ≠ ef) (w : Int) (n : Nat) (m : Nat) (hn : n < 18446744073709551616) (hm : m < 18446744073709551616) : Con Tryd.prog 7 [.int .i64 w, .int .u64 (n : Int), .int .u64 (m : Int)] [] [cellsAt 1 0 [.iface 107 (.pointer (some ea))], cellsAt 2 0 [.iface 107 (.pointer (some em))], cellsAt 0 0 [.iface 107 (.pointer (some ef))], errAt ea, errAt em, errAt ef, cellsAt 3 0 [.iface 92 (.agg #[.pointer (some ⟨4, 47, none⟩)])]] (fun v L' I' => v = .bool true ∧ L' = [] ∧ I' = []) := by
  refine fn_of Tryd.func7 rfl Tryd.ntmps7 (by kernel_rfl) rfl (fun C => ?_)
  refine c_seq ?_
  refine c_region ?_
  refine st rfl (o_y (v := .bool false) (y_as rfl) rfl rfl rfl ?_)
  refine s_nil ?_
  refine q_then ?_
  refine c_seq ?_
  refine c_region ?_
  refine st rfl (o_call [] [0, 1, 2, 3, 4, 5, 6] (shown_ ea em ef (by assumption) (by assumption) (by assumption)) rfl rfl rfl rfl rfl rfl (fun v L' I' hq1 => ?_))
  obtain ⟨rfl, rfl, rfl⟩ := hq1
  refine st rfl (o_y (v := .bool true) (y_as rfl) rfl rfl rfl ?_)
  refine s_nil ?_
  refine q_then ?_
  refine c_seq ?_
  refine c_region ?_
  refine st rfl (o_y (v := .int .i64 w) (y_mv rfl) rfl rfl rfl ?_)
  refine st rfl (o_y (v := .int .u64 (n : Int)) (y_mv rfl) rfl rfl rfl ?_)
  refine st rfl (o_call [] [0, 1, 2, 3, 4, 5, 6] (Put_ w n ea em ef (by assumption) (by assumption) (by assumption) (by first | omega | assumption | exact h64 _ (List.mem_of_getElem? (by assumption)))) rfl rfl rfl rfl rfl rfl (fun v L' I' hq2 => ?_))
  obtain ⟨rfl, rfl, rfl⟩ := hq2
  refine st rfl (o_y (v := .tuple #[.string ((putF w n).1), .int .i64 ((putF w n).2)]) (y_mv rfl) rfl rfl rfl ?_)
  refine st rfl (o_y (v := .string ((putF w n).1)) (y_k rfl rfl (fun _ => by kernel_rfl)) rfl rfl rfl ?_)
  refine st rfl (o_y (v := .int .i64 ((putF w n).2)) (y_k rfl rfl (fun _ => by kernel_rfl)) rfl rfl rfl ?_)
  refine st rfl (o_y (v := .string ((putF w n).1)) (y_as rfl) rfl rfl rfl ?_)
  refine st rfl (o_y (v := .int .i64 ((putF w n).2)) (y_as rfl) rfl rfl rfl ?_)
  refine s_nil ?_
  refine q_then ?_
  refine c_seq ?_
  refine c_region ?_
  refine st rfl (o_y (v := .int .i64 w) (y_mv rfl) rfl rfl rfl ?_)
  refine st rfl (o_y (v := .int .u64 (m : Int)) (y_mv rfl) rfl rfl rfl ?_)
  refine st rfl (o_call [] [0, 1, 2, 3, 4, 5, 6] (Put_ w m ea em ef (by assumption) (by assumption) (by assumption) (by first | omega | assumption | exact h64 _ (List.mem_of_getElem? (by assumption)))) rfl rfl rfl rfl rfl rfl (fun v L' I' hq3 => ?_))
  obtain ⟨rfl, rfl, rfl⟩ := hq3
  refine st rfl (o_y (v := .tuple #[.string ((putF w m).1), .int .i64 ((putF w m).2)]) (y_mv rfl) rfl rfl rfl ?_)
  refine st rfl (o_y (v := .string ((putF w m).1)) (y_k rfl rfl (fun _ => by kernel_rfl)) rfl rfl rfl ?_)
  refine st rfl (o_y (v := .int .i64 ((putF w m).2)) (y_k rfl rfl (fun _ => by kernel_rfl)) rfl rfl rfl ?_)
  refine st rfl (o_y (v := .string ((putF w m).1)) (y_as rfl) rfl rfl rfl ?_)
  refine st rfl (o_y (v := .int .i64 ((putF w m).2)) (y_as rfl) rfl rfl rfl ?_)
  refine s_nil ?_
  refine q_then ?_
  refine c_seq ?_
  refine c_seq ?_
  refine c_region ?_
  refine st rfl (o_y (v := .int .i64 ((putF w n).2)) (y_mv rfl) rfl rfl rfl ?_)
  refine e_by ((putF w n).2 = 0) (fun h24 => ?_) (fun h24 => ?_)
  ·
    refine st rfl (o_y (v := .bool false) (y_nt (y_k (v := .bool (!decide ((putF w n).2 = 0))) rfl rfl (fun _ => by kernel_rfl)) h24) rfl rfl rfl ?_)
    refine st rfl (o_y (v := .bool false) (y_mv rfl) rfl rfl rfl ?_)
    refine st_on 27 rfl rfl rfl (o_y (v := .int .i64 ((putF w m).2)) (y_mv rfl) rfl rfl rfl ?_)
    refine e_by ((putF w m).2 = 0) (fun h25 => ?_) (fun h25 => ?_)
    ·
      refine st_on 27 rfl rfl rfl (o_y (v := .bool false) (y_nt (y_k (v := .bool (!decide ((putF w m).2 = 0))) rfl rfl (fun _ => by kernel_rfl)) h25) rfl rfl rfl ?_)
      refine st rfl (o_y (v := .bool false) (y_pick rfl rfl) rfl rfl rfl ?_)
      refine s_nil ?_
      refine q_then ?_
      refine c_false rfl ?_
      refine c_skip ?_
      refine q_then ?_
      refine c_seq ?_
      refine c_region ?_
      refine st rfl (o_y (v := .bool true) (y_mv rfl) rfl rfl rfl ?_)
      refine st rfl (o_y (v := .bool true) (y_mv rfl) rfl rfl rfl ?_)
      refine st_on 49 rfl rfl rfl (o_y (v := .string ((putF w n).1)) (y_mv rfl) rfl rfl rfl ?_)
      refine st_on 49 rfl rfl rfl (o_y (v := .string ((putF w m).1)) (y_mv rfl) rfl rfl rfl ?_)
      refine e_by (Op.bytesLess ((putF w n).1).toList ((putF w m).1).toList = true) (fun h26 => ?_) (fun h26 => ?_)
      ·
        refine st_on 49 rfl rfl rfl (o_y (v := .bool true) (y_t (y_slss rfl rfl) h26) rfl rfl rfl ?_)
        refine st_on 49 rfl rfl rfl (o_y (v := .int .u64 (n : Int)) (y_mv rfl) rfl rfl rfl ?_)
        refine st_on 49 rfl rfl rfl (o_y (v := .int .u64 (m : Int)) (y_mv rfl) rfl rfl rfl ?_)
        have h27 : (n : Int) < (m : Int) := (ord_lt h24 h25).1 h26
        refine st_on 49 rfl rfl rfl (o_y (v := .bool true) (y_t (y_k (v := .bool (decide ((n : Int) < (m : Int)))) rfl rfl (fun _ => by kernel_rfl)) h27) rfl rfl rfl ?_)
        refine st_on 49 rfl rfl rfl (o_y (v := .bool true) (y_k rfl rfl (fun _ => by kernel_rfl)) rfl rfl rfl ?_)
        refine st rfl (o_y (v := .bool true) (y_pick rfl rfl) rfl rfl rfl ?_)
        refine st rfl (o_y (v := .bool true) (y_mv rfl) rfl rfl rfl ?_)
        refine st_on 58 rfl rfl rfl (o_y (v := .string ((putF w n).1)) (y_mv rfl) rfl rfl rfl ?_)
        refine st_on 58 rfl rfl rfl (o_y (v := .string ((putF w m).1)) (y_mv rfl) rfl rfl rfl ?_)
        refine e_by ((putF w n).1 = (putF w m).1) (fun h28 => ?_) (fun h28 => ?_)
        ·
          refine st_on 58 rfl rfl rfl (o_y (v := .bool true) (y_b (y_k (v := .bool (((putF w n).1).toList == ((putF w m).1).toList)) rfl rfl (fun _ => by kernel_rfl)) (str_t h28)) rfl rfl rfl ?_)
          refine st_on 58 rfl rfl rfl (o_y (v := .int .u64 (n : Int)) (y_mv rfl) rfl rfl rfl ?_)
          refine st_on 58 rfl rfl rfl (o_y (v := .int .u64 (m : Int)) (y_mv rfl) rfl rfl rfl ?_)
          have h29 : (n : Int) = (m : Int) := (ord_eq h24 h25).1 h28
          refine st_on 58 rfl rfl rfl (o_y (v := .bool true) (y_t (y_k (v := .bool (decide ((n : Int) = (m : Int)))) rfl rfl (fun _ => by kernel_rfl)) h29) rfl rfl rfl ?_)
          refine st_on 58 rfl rfl rfl (o_y (v := .bool true) (y_k rfl rfl (fun _ => by kernel_rfl)) rfl rfl rfl ?_)
          refine st rfl (o_y (v := .bool true) (y_pick rfl rfl) rfl rfl rfl ?_)
          refine st rfl (o_y (v := .bool true) (y_as rfl) rfl rfl rfl ?_)
          refine s_nil ?_
          refine q_then ?_
          refine c_ret ?_
          refine c_fin (I' := []) [] [0, 1, 2, 3, 4, 5, 6] rfl (.tmp rfl .nil) rfl rfl rfl ?_
          exact ⟨rfl, rfl, rfl⟩
        ·
          refine st_on 58 rfl rfl rfl (o_y (v := .bool false) (y_b (y_k (v := .bool (((putF w n).1).toList == ((putF w m).1).toList)) rfl rfl (fun _ => by kernel_rfl)) (str_f h28)) rfl rfl rfl ?_)
          refine st_on 58 rfl rfl rfl (o_y (v := .int .u64 (n : Int)) (y_mv rfl) rfl rfl rfl ?_)
          refine st_on 58 rfl rfl rfl (o_y (v := .int .u64 (m : Int)) (y_mv rfl) rfl rfl rfl ?_)
          have h30 : ¬ ((n : Int) = (m : Int)) := fun hh => absurd ((ord_eq h24 h25).2 hh) h28
          refine st_on 58 rfl rfl rfl (o_y (v := .bool false) (y_f (y_k (v := .bool (decide ((n : Int) = (m : Int)))) rfl rfl (fun _ => by kernel_rfl)) h30) rfl rfl rfl ?_)
          refine st_on 58 rfl rfl rfl (o_y (v := .bool true) (y_k rfl rfl (fun _ => by kernel_rfl)) rfl rfl rfl ?_)
          refine st rfl (o_y (v := .bool true) (y_pick rfl rfl) rfl rfl rfl ?_)
          refine st rfl (o_y (v := .bool true) (y_as rfl) rfl rfl rfl ?_)
          refine s_nil ?_
          refine q_then ?_
          refine c_ret ?_
          refine c_fin (I' := []) [] [0, 1, 2, 3, 4, 5, 6] rfl (.tmp rfl .nil) rfl rfl rfl ?_
          exact ⟨rfl, rfl, rfl⟩
      ·
        refine st_on 49 rfl rfl rfl (o_y (v := .bool false) (y_f (y_slss rfl rfl) h26) rfl rfl rfl ?_)
        refine st_on 49 rfl rfl rfl (o_y (v := .int .u64 (n : Int)) (y_mv rfl) rfl rfl rfl ?_)
        refine st_on 49 rfl rfl rfl (o_y (v := .int .u64 (m : Int)) (y_mv rfl) rfl rfl rfl ?_)
        have h31 : ¬ ((n : Int) < (m : Int)) := fun hh => absurd ((ord_lt h24 h25).2 hh) h26
        refine st_on 49 rfl rfl rfl (o_y (v := .bool false) (y_f (y_k (v := .bool (decide ((n : Int) < (m : Int)))) rfl rfl (fun _ => by kernel_rfl)) h31) rfl rfl rfl ?_)
        refine st_on 49 rfl rfl rfl (o_y (v := .bool true) (y_k rfl rfl (fun _ => by kernel_rfl)) rfl rfl rfl ?_)
        refine st rfl (o_y (v := .bool true) (y_pick rfl rfl) rfl rfl rfl ?_)
        refine st rfl (o_y (v := .bool true) (y_mv rfl) rfl rfl rfl ?_)
        refine st_on 58 rfl rfl rfl (o_y (v := .string ((putF w n).1)) (y_mv rfl) rfl rfl rfl ?_)
        refine st_on 58 rfl rfl rfl (o_y (v := .string ((putF w m).1)) (y_mv rfl) rfl rfl rfl ?_)
        refine e_by ((putF w n).1 = (putF w m).1) (fun h32 => ?_) (fun h32 => ?_)
        ·
          refine st_on 58 rfl rfl rfl (o_y (v := .bool true) (y_b (y_k (v := .bool (((putF w n).1).toList == ((putF w m).1).toList)) rfl rfl (fun _ => by kernel_rfl)) (str_t h32)) rfl rfl rfl ?_)
          refine st_on 58 rfl rfl rfl (o_y (v := .int .u64 (n : Int)) (y_mv rfl) rfl rfl rfl ?_)
          refine st_on 58 rfl rfl rfl (o_y (v := .int .u64 (m : Int)) (y_mv rfl) rfl rfl rfl ?_)
          have h33 : (n : Int) = (m : Int) := (ord_eq h24 h25).1 h32
          refine st_on 58 rfl rfl rfl (o_y (v := .bool true) (y_t (y_k (v := .bool (decide ((n : Int) = (m : Int)))) rfl rfl (fun _ => by kernel_rfl)) h33) rfl rfl rfl ?_)
          refine st_on 58 rfl rfl rfl (o_y (v := .bool true) (y_k rfl rfl (fun _ => by kernel_rfl)) rfl rfl rfl ?_)
          refine st rfl (o_y (v := .bool true) (y_pick rfl rfl) rfl rfl rfl ?_)
          refine st rfl (o_y (v := .bool true) (y_as rfl) rfl rfl rfl ?_)
          refine s_nil ?_
          refine q_then ?_
          refine c_ret ?_
          refine c_fin (I' := []) [] [0, 1, 2, 3, 4, 5, 6] rfl (.tmp rfl .nil) rfl rfl rfl ?_
          exact ⟨rfl, rfl, rfl⟩
        ·
          refine st_on 58 rfl rfl rfl (o_y (v := .bool false) (y_b (y_k (v := .bool (((putF w n).1).toList == ((putF w m).1).toList)) rfl rfl (fun _ => by kernel_rfl)) (str_f h32)) rfl rfl rfl ?_)
          refine st_on 58 rfl rfl rfl (o_y (v := .int .u64 (n : Int)) (y_mv rfl) rfl rfl rfl ?_)
          refine st_on 58 rfl rfl rfl (o_y (v := .int .u64 (m : Int)) (y_mv rfl) rfl rfl rfl ?_)
          have h34 : ¬ ((n : Int) = (m : Int)) := fun hh => absurd ((ord_eq h24 h25).2 hh) h32
          refine st_on 58 rfl rfl rfl (o_y (v := .bool false) (y_f (y_k (v := .bool (decide ((n : Int) = (m : Int)))) rfl rfl (fun _ => by kernel_rfl)) h34) rfl rfl rfl ?_)
          refine st_on 58 rfl rfl rfl (o_y (v := .bool true) (y_k rfl rfl (fun _ => by kernel_rfl)) rfl rfl rfl ?_)
          refine st rfl (o_y (v := .bool true) (y_pick rfl rfl) rfl rfl rfl ?_)
          refine st rfl (o_y (v := .bool true) (y_as rfl) rfl rfl rfl ?_)
          refine s_nil ?_
          refine q_then ?_
          refine c_ret ?_
          refine c_fin (I' := []) [] [0, 1, 2, 3, 4, 5, 6] rfl (.tmp rfl .nil) rfl rfl rfl ?_
          exact ⟨rfl, rfl, rfl⟩
    ·
      refine st_on 27 rfl rfl rfl (o_y (v := .bool true) (y_nf (y_k (v := .bool (!decide ((putF w m).2 = 0))) rfl rfl (fun _ => by kernel_rfl)) h25) rfl rfl rfl ?_)
      refine st rfl (o_y (v := .bool true) (y_pick rfl rfl) rfl rfl rfl ?_)
      refine s_nil ?_
      refine q_then ?_
      refine c_true rfl ?_
      refine c_seq ?_
      refine c_region ?_
      refine st rfl (o_y (v := .bool true) (y_mv rfl) rfl rfl rfl ?_)
      refine st rfl (o_y (v := .bool true) (y_mv rfl) rfl rfl rfl ?_)
      refine st_on 32 rfl rfl rfl (o_y (v := .int .i64 ((putF w n).2)) (y_mv rfl) rfl rfl rfl ?_)
      have h35 : (putF w n).2 = 0 := h24
      refine st_on 32 rfl rfl rfl (o_y (v := .bool true) (y_t (y_k (v := .bool (decide ((putF w n).2 = 0))) rfl rfl (fun _ => by kernel_rfl)) h35) rfl rfl rfl ?_)
      refine st_on 32 rfl rfl rfl (o_y (v := .bool true) (y_mv rfl) rfl rfl rfl ?_)
      refine st_off 35 rfl rfl rfl rfl rfl rfl ?_
      refine st_off 35 rfl rfl rfl rfl rfl rfl ?_
      refine st_on 32 rfl rfl rfl (o_y (v := .bool true) (y_pick rfl rfl) rfl rfl rfl ?_)
      refine st rfl (o_y (v := .bool true) (y_pick rfl rfl) rfl rfl rfl ?_)
      refine st rfl (o_y (v := .bool true) (y_mv rfl) rfl rfl rfl ?_)
      refine st_on 40 rfl rfl rfl (o_y (v := .int .i64 ((putF w m).2)) (y_mv rfl) rfl rfl rfl ?_)
      have h36 : ¬ ((putF w m).2 = 0) := h25
      refine st_on 40 rfl rfl rfl (o_y (v := .bool false) (y_f (y_k (v := .bool (decide ((putF w m).2 = 0))) rfl rfl (fun _ => by kernel_rfl)) h36) rfl rfl rfl ?_)
      refine st_on 40 rfl rfl rfl (o_y (v := .bool false) (y_mv rfl) rfl rfl rfl ?_)
      refine st_on 43 rfl rfl rfl (o_y (v := .string ((putF w m).1)) (y_mv rfl) rfl rfl rfl ?_)
      have h37 : (putF w m).1 = (⟨#[]⟩ : ByteArray) := back_no h36
      refine st_on 43 rfl rfl rfl (o_y (v := .bool true) (y_b (y_k (v := .bool (((putF w m).1).toList == (⟨#[]⟩ : ByteArray).toList)) rfl rfl (fun _ => by kernel_rfl)) (str_t h37)) rfl rfl rfl ?_)
      refine st_on 40 rfl rfl rfl (o_y (v := .bool true) (y_pick rfl rfl) rfl rfl rfl ?_)
      refine st rfl (o_y (v := .bool true) (y_pick rfl rfl) rfl rfl rfl ?_)
      refine st rfl (o_y (v := .bool true) (y_as rfl) rfl rfl rfl ?_)
      refine s_nil ?_
      refine q_then ?_
      refine c_ret ?_
      refine q_then_ret ?_
      refine c_fin (I' := []) [] [0, 1, 2, 3, 4, 5, 6] rfl (.tmp rfl .nil) rfl rfl rfl ?_
      exact ⟨rfl, rfl, rfl⟩
  ·
    refine st rfl (o_y (v := .bool true) (y_nf (y_k (v := .bool (!decide ((putF w n).2 = 0))) rfl rfl (fun _ => by kernel_rfl)) h24) rfl rfl rfl ?_)
    refine st rfl (o_y (v := .bool true) (y_mv rfl) rfl rfl rfl ?_)
    refine st_off 27 rfl rfl rfl rfl rfl rfl ?_
    refine st_off 27 rfl rfl rfl rfl rfl rfl ?_
    refine st rfl (o_y (v := .bool true) (y_pick rfl rfl) rfl rfl rfl ?_)
    refine s_nil ?_
    refine q_then ?_
    refine c_true rfl ?_
    refine c_seq ?_
    refine c_region ?_
    refine st rfl (o_y (v := .bool true) (y_mv rfl) rfl rfl rfl ?_)
    refine st rfl (o_y (v := .bool true) (y_mv rfl) rfl rfl rfl ?_)
    refine st_on 32 rfl rfl rfl (o_y (v := .int .i64 ((putF w n).2)) (y_mv rfl) rfl rfl rfl ?_)
    have h38 : ¬ ((putF w n).2 = 0) := h24
    refine st_on 32 rfl rfl rfl (o_y (v := .bool false) (y_f (y_k (v := .bool (decide ((putF w n).2 = 0))) rfl rfl (fun _ => by kernel_rfl)) h38) rfl rfl rfl ?_)
    refine st_on 32 rfl rfl rfl (o_y (v := .bool false) (y_mv rfl) rfl rfl rfl ?_)
    refine st_on 35 rfl rfl rfl (o_y (v := .string ((putF w n).1)) (y_mv rfl) rfl rfl rfl ?_)
    have h39 : (putF w n).1 = (⟨#[]⟩ : ByteArray) := back_no h38
    refine st_on 35 rfl rfl rfl (o_y (v := .bool true) (y_b (y_k (v := .bool (((putF w n).1).toList == (⟨#[]⟩ : ByteArray).toList)) rfl rfl (fun _ => by kernel_rfl)) (str_t h39)) rfl rfl rfl ?_)
    refine st_on 32 rfl rfl rfl (o_y (v := .bool true) (y_pick rfl rfl) rfl rfl rfl ?_)
    refine st rfl (o_y (v := .bool true) (y_pick rfl rfl) rfl rfl rfl ?_)
    refine st rfl (o_y (v := .bool true) (y_mv rfl) rfl rfl rfl ?_)
    refine st_on 40 rfl rfl rfl (o_y (v := .int .i64 ((putF w m).2)) (y_mv rfl) rfl rfl rfl ?_)
    refine e_by ((putF w m).2 = 0) (fun h40 => ?_) (fun h40 => ?_)
    ·
      refine st_on 40 rfl rfl rfl (o_y (v := .bool true) (y_t (y_k (v := .bool (decide ((putF w m).2 = 0))) rfl rfl (fun _ => by kernel_rfl)) h40) rfl rfl rfl ?_)
      refine st_on 40 rfl rfl rfl (o_y (v := .bool true) (y_mv rfl) rfl rfl rfl ?_)
      refine st_off 43 rfl rfl rfl rfl rfl rfl ?_
      refine st_off 43 rfl rfl rfl rfl rfl rfl ?_
      refine st_on 40 rfl rfl rfl (o_y (v := .bool true) (y_pick rfl rfl) rfl rfl rfl ?_)
      refine st rfl (o_y (v := .bool true) (y_pick rfl rfl) rfl rfl rfl ?_)
      refine st rfl (o_y (v := .bool true) (y_as rfl) rfl rfl rfl ?_)
      refine s_nil ?_
      refine q_then ?_
      refine c_ret ?_
      refine q_then_ret ?_
      refine c_fin (I' := []) [] [0, 1, 2, 3, 4, 5, 6] rfl (.tmp rfl .nil) rfl rfl rfl ?_
      exact ⟨rfl, rfl, rfl⟩
    ·
      refine st_on 40 rfl rfl rfl (o_y (v := .bool false) (y_f (y_k (v := .bool (decide ((putF w m).2 = 0))) rfl rfl (fun _ => by kernel_rfl)) h40) rfl rfl rfl ?_)
      refine st_on 40 rfl rfl rfl (o_y (v := .bool false) (y_mv rfl) rfl rfl rfl ?_)
      refine st_on 43 rfl rfl rfl (o_y (v := .string ((putF w m).1)) (y_mv rfl) rfl rfl rfl ?_)
      have h41 : (putF w m).1 = (⟨#[]⟩ : ByteArray) := back_no h40
      refine st_on 43 rfl rfl rfl (o_y (v := .bool true) (y_b (y_k (v := .bool (((putF w m).1).toList == (⟨#[]⟩ : ByteArray).toList)) rfl rfl (fun _ => by kernel_rfl)) (str_t h41)) rfl rfl rfl ?_)
      refine st_on 40 rfl rfl rfl (o_y (v := .bool true) (y_pick rfl rfl) rfl rfl rfl ?_)
      refine st rfl (o_y (v := .bool true) (y_pick rfl rfl) rfl rfl rfl ?_)
      refine st rfl (o_y (v := .bool true) (y_as rfl) rfl rfl rfl ?_)
      refine s_nil ?_
      refine q_then ?_
      refine c_ret ?_
      refine q_then_ret ?_
      refine c_fin (I' := []) [] [0, 1, 2, 3, 4, 5, 6] rfl (.tmp rfl .nil) rfl rfl rfl ?_
      exact ⟨rfl, rfl, rfl⟩
end Go.Proofs.YtpfadknajnedoaaDoor
