/- The laws of chapter 9 (file), walked over the given program; no condition but what stands in each theorem: part KSizes. -/
import Derived.Test.YthjcekfehicjhaaDoorRJ
set_option linter.unusedVariables false
set_option linter.unusedSimpArgs false
set_option maxRecDepth 100000
set_option maxHeartbeats 8000000
namespace Go.Proofs.YthjcekfehicjhaaDoor
open Go Go.Sl Go.RowKit Go.Extern.Stop Go.Stop Go.Extern
theorem FileSizes_ (s : ByteArray) (n : Int) (zs : s.size ≤ 9223372036854775807) : Con Tryd.prog 6 [.string s, .int .i64 n] [] [cellsAt 0 0 [.iface 73 (.agg #[.pointer (some ⟨1, 42, none⟩)])]] (fun v L' I' => v = .bool true ∧ L' = [] ∧ I' = []) := by
  have cs := cutS_size s
  have w1 := cutF_no (s := cutS s) (n := n)
  have w2 := cutF_ok (s := cutS s) (n := n)
  have w3 := cut_size (s := cutS s) (n := n)
  have w4 : (cutF (cutS s) n).2 = 0 → 0 ≤ n ∧ n ≤ 1000 := fun h => by have := (w2 h).1; omega
  refine fn_of Tryd.func6 rfl Tryd.ntmps6 (by kernel_rfl) rfl (fun C => ?_)
  refine c_seq ?_
  refine c_region ?_
  refine st rfl (o_y (v := .bool false) (y_as rfl) rfl rfl rfl ?_)
  refine s_nil ?_
  refine q_then ?_
  refine c_seq ?_
  refine c_region ?_
  refine st rfl (o_call [] [0] shown_ rfl rfl rfl rfl rfl rfl (fun v L' I' hq1 => ?_))
  obtain ⟨rfl, rfl, rfl⟩ := hq1
  refine st rfl (o_y (v := .bool true) (y_as rfl) rfl rfl rfl ?_)
  refine s_nil ?_
  refine q_then ?_
  refine c_seq ?_
  refine c_region ?_
  refine st rfl (o_y (v := .string s) (y_mv rfl) rfl rfl rfl ?_)
  refine st rfl (o_call [] [] (cut_ s (by assumption)) rfl rfl rfl rfl rfl rfl (fun v L' I' hq2 => ?_))
  obtain ⟨rfl, rfl, rfl⟩ := hq2
  refine st rfl (o_y (v := .string (cutS s)) (y_as rfl) rfl rfl rfl ?_)
  refine s_nil ?_
  refine q_then ?_
  refine c_seq ?_
  refine c_region ?_
  refine st rfl (o_y (v := .string (cutS s)) (y_mv rfl) rfl rfl rfl ?_)
  refine st rfl (o_y (v := .int .i64 n) (y_mv rfl) rfl rfl rfl ?_)
  refine st rfl (o_call [] [0] (Cut_ (cutS s) (by first | omega | decide | assumption) n) rfl rfl rfl rfl rfl rfl (fun v L' I' hq3 => ?_))
  obtain ⟨rfl, rfl, rfl⟩ := hq3
  refine st rfl (o_y (v := .tuple #[.string ((cutF (cutS s) n).1), .int .i64 ((cutF (cutS s) n).2)]) (y_mv rfl) rfl rfl rfl ?_)
  refine st rfl (o_y (v := .string ((cutF (cutS s) n).1)) (y_k rfl rfl (fun _ => by kernel_rfl)) rfl rfl rfl ?_)
  refine st rfl (o_y (v := .int .i64 ((cutF (cutS s) n).2)) (y_k rfl rfl (fun _ => by kernel_rfl)) rfl rfl rfl ?_)
  refine st rfl (o_y (v := .string ((cutF (cutS s) n).1)) (y_as rfl) rfl rfl rfl ?_)
  refine st rfl (o_y (v := .int .i64 ((cutF (cutS s) n).2)) (y_as rfl) rfl rfl rfl ?_)
  refine s_nil ?_
  refine q_then ?_
  refine c_seq ?_
  refine c_seq ?_
  refine c_region ?_
  refine st rfl (o_y (v := .int .i64 ((cutF (cutS s) n).2)) (y_mv rfl) rfl rfl rfl ?_)
  refine e_by ((cutF (cutS s) n).2 = 0) (fun h1 => ?_) (fun h1 => ?_)
  ·
    refine st rfl (o_y (v := .bool false) (y_nt (y_k (v := .bool (!decide ((cutF (cutS s) n).2 = 0))) rfl rfl (fun _ => by kernel_rfl)) h1) rfl rfl rfl ?_)
    refine s_nil ?_
    refine q_then ?_
    refine c_false rfl ?_
    refine c_skip ?_
    refine q_then ?_
    refine c_seq ?_
    refine c_seq ?_
    refine c_region ?_
    refine st rfl (o_y (v := .string ((cutF (cutS s) n).1)) (y_mv rfl) rfl rfl rfl ?_)
    refine st rfl (o_y (v := .int .i64 (((cutF (cutS s) n).1).size : Int)) (y_k rfl rfl (fun _ => by kernel_rfl)) rfl rfl rfl ?_)
    refine st rfl (o_y (v := .int .i64 n) (y_mv rfl) rfl rfl rfl ?_)
    have h2 : (((cutF (cutS s) n).1).size : Int) = n := w3 h1
    refine st rfl (o_y (v := .bool false) (y_nt (y_k (v := .bool (!decide ((((cutF (cutS s) n).1).size : Int) = n))) rfl rfl (fun _ => by kernel_rfl)) h2) rfl rfl rfl ?_)
    refine s_nil ?_
    refine q_then ?_
    refine c_false rfl ?_
    refine c_skip ?_
    refine q_then ?_
    refine c_seq ?_
    refine c_seq ?_
    refine c_region ?_
    refine st rfl (o_y (v := .int .i64 0) (y_as rfl) rfl rfl rfl ?_)
    refine s_nil ?_
    refine q_then ?_
    refine c_block ?_
    refine c_loopn (ι := Nat) (fun k => ((k : Int) ≤ n)) (fun k => [(0, .string (cutS s)), (1, .int .i64 n), (5, .bool true), (6, .string ((cutF (cutS s) n).1)), (8, .int .i64 (k : Int))]) (fun k => []) (fun k => [cellsAt 0 0 [.iface 73 (.agg #[.pointer (some ⟨1, 42, none⟩)])]]) (fun k => n.toNat - k) (0) [] [0] (show (0 : Int) ≤ n from by omega) ((.cons rfl rfl (.cons rfl rfl (.cons rfl rfl (.cons rfl rfl (.cons rfl rfl .nil)))))) rfl rfl ?_
    rintro k hk
    show Ent 73 C [(0, .string (cutS s)), (1, .int .i64 n), (5, .bool true), (6, .string ((cutF (cutS s) n).1)), (8, .int .i64 (k : Int))] [] [] [cellsAt 0 0 [.iface 73 (.agg #[.pointer (some ⟨1, 42, none⟩)])]] _
    refine c_seq ?_
    refine c_seq ?_
    refine c_region ?_
    refine st rfl (o_y (v := .int .i64 (k : Int)) (y_mv rfl) rfl rfl rfl ?_)
    refine st rfl (o_y (v := .int .i64 n) (y_mv rfl) rfl rfl rfl ?_)
    refine e_by ((k : Int) < n) (fun h3 => ?_) (fun h3 => ?_)
    ·
      refine st rfl (o_y (v := .bool true) (y_t (y_k (v := .bool (decide ((k : Int) < n))) rfl rfl (fun _ => by kernel_rfl)) h3) rfl rfl rfl ?_)
      refine s_nil ?_
      refine q_then ?_
      refine c_true rfl ?_
      refine c_skip ?_
      refine q_then ?_
      refine c_seq ?_
      refine c_block ?_
      refine c_seq ?_
      refine c_draw (l := ticked 25 0) [] [] (by kernel_rfl) rfl rfl ?_
      refine a_y (i := 0) (v := .int .i64 (k : Int)) (ticked 25 1) rfl (by as_aux_lemma => kernel_rfl) rfl rfl rfl (by exact y_mv rfl) ?_
      refine a_y (i := 1) (v := .string (cutS s)) (ticked 25 3) rfl (by as_aux_lemma => kernel_rfl) rfl rfl rfl (by exact y_mv rfl) ?_
      refine a_y (i := 2) (v := .int .i64 ((cutS s).size : Int)) (ticked 25 7) rfl (by as_aux_lemma => kernel_rfl) rfl rfl rfl (by exact y_k rfl rfl (fun _ => by kernel_rfl)) ?_
      refine e_by ((k : Int) < ((cutS s).size : Int)) (fun h4 => ?_) (fun h4 => ?_)
      ·
        refine a_y (i := 3) (v := .bool true) (ticked 25 15) rfl (by as_aux_lemma => kernel_rfl) rfl rfl rfl (by exact y_t (y_k (v := .bool (decide ((k : Int) < ((cutS s).size : Int)))) rfl rfl (fun _ => by kernel_rfl)) h4) ?_
        refine a_y (i := 4) (v := .bool true) (ticked 25 31) rfl (by as_aux_lemma => kernel_rfl) rfl rfl rfl (by exact y_mv rfl) ?_
        refine a_y_on (i := 5) (v := .string ((cutF (cutS s) n).1)) 51 (ticked 25 63) rfl (by as_aux_lemma => kernel_rfl) rfl rfl rfl rfl rfl (by exact y_mv rfl) ?_
        refine a_y_on (i := 6) (v := .int .i64 (k : Int)) 51 (ticked 25 127) rfl (by as_aux_lemma => kernel_rfl) rfl rfl rfl rfl rfl (by exact y_mv rfl) ?_
        obtain ⟨x1, hb1⟩ : ∃ x, ((cutF (cutS s) n).1)[k]? = some x := ⟨_, getElem?_pos ((cutF (cutS s) n).1) k (by omega)⟩
        refine a_y_on (i := 7) (v := .int .u8 (x1.toNat : Int)) 51 (ticked 25 255) rfl (by as_aux_lemma => kernel_rfl) rfl rfl rfl rfl rfl (by exact y_sidx k x1 rfl rfl (rfl) hb1 Tryd.underlying9) ?_
        refine a_y_on (i := 8) (v := .string (cutS s)) 51 (ticked 25 511) rfl (by as_aux_lemma => kernel_rfl) rfl rfl rfl rfl rfl (by exact y_mv rfl) ?_
        refine a_y_on (i := 9) (v := .int .i64 (k : Int)) 51 (ticked 25 1023) rfl (by as_aux_lemma => kernel_rfl) rfl rfl rfl rfl rfl (by exact y_mv rfl) ?_
        obtain ⟨x2, hb2⟩ : ∃ x, (cutS s)[k]? = some x := ⟨_, getElem?_pos (cutS s) k (by omega)⟩
        refine a_y_on (i := 10) (v := .int .u8 (x2.toNat : Int)) 51 (ticked 25 2047) rfl (by as_aux_lemma => kernel_rfl) rfl rfl rfl rfl rfl (by exact y_sidx k x2 rfl rfl (rfl) hb2 Tryd.underlying9) ?_
        have h5 : (x1.toNat : Int) = (x2.toNat : Int) := cut_eqs h1 (by omega) hb1 hb2
        refine a_y_on (i := 11) (v := .bool false) 51 (ticked 25 4095) rfl (by as_aux_lemma => kernel_rfl) rfl rfl rfl rfl rfl (by exact y_nt (y_k (v := .bool (!decide ((x1.toNat : Int) = (x2.toNat : Int)))) rfl rfl (fun _ => by kernel_rfl)) h5) ?_
        refine a_y (i := 12) (v := .bool false) (ticked 25 8191) rfl (by as_aux_lemma => kernel_rfl) rfl rfl rfl (by exact y_pick rfl rfl) ?_
        refine a_y (i := 13) (v := .bool false) (ticked 25 16383) rfl (by as_aux_lemma => kernel_rfl) rfl rfl rfl (by exact y_mv rfl) ?_
        refine a_y_on (i := 14) (v := .int .i64 (k : Int)) 60 (ticked 25 32767) rfl (by as_aux_lemma => kernel_rfl) rfl rfl rfl rfl rfl (by exact y_mv rfl) ?_
        refine a_y_on (i := 15) (v := .string (cutS s)) 60 (ticked 25 65535) rfl (by as_aux_lemma => kernel_rfl) rfl rfl rfl rfl rfl (by exact y_mv rfl) ?_
        refine a_y_on (i := 16) (v := .int .i64 ((cutS s).size : Int)) 60 (ticked 25 131071) rfl (by as_aux_lemma => kernel_rfl) rfl rfl rfl rfl rfl (by exact y_k rfl rfl (fun _ => by kernel_rfl)) ?_
        refine e_by ((k : Int) ≥ ((cutS s).size : Int)) (fun h6 => ?_) (fun h6 => ?_)
        ·
          refine a_y_on (i := 17) (v := .bool true) 60 (ticked 25 262143) rfl (by as_aux_lemma => kernel_rfl) rfl rfl rfl rfl rfl (by exact y_t (y_k (v := .bool (decide ((k : Int) ≥ ((cutS s).size : Int)))) rfl rfl (fun _ => by kernel_rfl)) h6) ?_
          refine a_y_on (i := 18) (v := .bool true) 60 (ticked 25 524287) rfl (by as_aux_lemma => kernel_rfl) rfl rfl rfl rfl rfl (by exact y_mv rfl) ?_
          refine a_y_on (i := 19) (v := .string ((cutF (cutS s) n).1)) 65 (ticked 25 1048575) rfl (by as_aux_lemma => kernel_rfl) rfl rfl rfl rfl rfl (by exact y_mv rfl) ?_
          refine a_y_on (i := 20) (v := .int .i64 (k : Int)) 65 (ticked 25 2097151) rfl (by as_aux_lemma => kernel_rfl) rfl rfl rfl rfl rfl (by exact y_mv rfl) ?_
          obtain ⟨x3, hb3⟩ : ∃ x, ((cutF (cutS s) n).1)[k]? = some x := ⟨_, getElem?_pos ((cutF (cutS s) n).1) k (by omega)⟩
          refine a_y_on (i := 21) (v := .int .u8 (x3.toNat : Int)) 65 (ticked 25 4194303) rfl (by as_aux_lemma => kernel_rfl) rfl rfl rfl rfl rfl (by exact y_sidx k x3 rfl rfl (rfl) hb3 Tryd.underlying9) ?_
          have h7 : (x3.toNat : Int) = 0 := cut_eqz h1 (by omega) hb3 (by omega)
          refine a_y_on (i := 22) (v := .bool false) 65 (ticked 25 8388607) rfl (by as_aux_lemma => kernel_rfl) rfl rfl rfl rfl rfl (by exact y_nt (y_k (v := .bool (!decide ((x3.toNat : Int) = 0))) rfl rfl (fun _ => by kernel_rfl)) h7) ?_
          refine a_y_on (i := 23) (v := .bool false) 60 (ticked 25 16777215) rfl (by as_aux_lemma => kernel_rfl) rfl rfl rfl rfl rfl (by exact y_pick rfl rfl) ?_
          refine a_y (i := 24) (v := .bool false) (ticked 25 33554431) rfl (by as_aux_lemma => kernel_rfl) rfl rfl rfl (by exact y_pick rfl rfl) ?_
          refine a_done (by as_aux_lemma => kernel_rfl) ?_
          refine q_then ?_
          refine c_false rfl ?_
          refine c_skip ?_
          refine q_block ?_
          refine q_then ?_
          refine c_region ?_
          refine st rfl (o_y (v := .int .i64 (k : Int)) (y_mv rfl) rfl rfl rfl ?_)
          refine st rfl (o_y (v := .int .i64 ((k : Int) + 1)) (y_add (r := (k : Int) + 1) rfl rfl rfl (by omega)) rfl rfl rfl ?_)
          refine st rfl (o_y (v := .int .i64 ((k : Int) + 1)) (y_as rfl) rfl rfl rfl ?_)
          refine s_nil ?_
          refine q_then ?_
          refine c_next [] [0] (k + 1) ?_ ?_ ?_ (by rfl) (by rfl)
          · exact (show ((k + 1) : Int) ≤ n from by omega)
          · show n.toNat - (k + 1) < n.toNat - k; omega
          · exact (.cons rfl rfl (.cons rfl rfl (.cons rfl rfl (.cons rfl rfl (.cons rfl (show (.int .i64 ((k : Int) + 1) : Value) = .int .i64 ((k + 1) : Int) from by first | rfl | (congr 1; omega) | (congr 1; simp; done) | (congr 1; simp; omega)) .nil)))))
        ·
          refine a_y_on (i := 17) (v := .bool false) 60 (ticked 25 262143) rfl (by as_aux_lemma => kernel_rfl) rfl rfl rfl rfl rfl (by exact y_f (y_k (v := .bool (decide ((k : Int) ≥ ((cutS s).size : Int)))) rfl rfl (fun _ => by kernel_rfl)) h6) ?_
          refine a_y_on (i := 18) (v := .bool false) 60 (ticked 25 524287) rfl (by as_aux_lemma => kernel_rfl) rfl rfl rfl rfl rfl (by exact y_mv rfl) ?_
          refine a_off (i := 19) 65 (ticked 25 1048575) rfl (by as_aux_lemma => kernel_rfl) rfl rfl rfl rfl rfl rfl ?_
          refine a_off (i := 20) 65 (ticked 25 2097151) rfl (by as_aux_lemma => kernel_rfl) rfl rfl rfl rfl rfl rfl ?_
          refine a_off (i := 21) 65 (ticked 25 4194303) rfl (by as_aux_lemma => kernel_rfl) rfl rfl rfl rfl rfl rfl ?_
          refine a_off (i := 22) 65 (ticked 25 8388607) rfl (by as_aux_lemma => kernel_rfl) rfl rfl rfl rfl rfl rfl ?_
          refine a_y_on (i := 23) (v := .bool false) 60 (ticked 25 16777215) rfl (by as_aux_lemma => kernel_rfl) rfl rfl rfl rfl rfl (by exact y_pick rfl rfl) ?_
          refine a_y (i := 24) (v := .bool false) (ticked 25 33554431) rfl (by as_aux_lemma => kernel_rfl) rfl rfl rfl (by exact y_pick rfl rfl) ?_
          refine a_done (by as_aux_lemma => kernel_rfl) ?_
          refine q_then ?_
          refine c_false rfl ?_
          refine c_skip ?_
          refine q_block ?_
          refine q_then ?_
          refine c_region ?_
          refine st rfl (o_y (v := .int .i64 (k : Int)) (y_mv rfl) rfl rfl rfl ?_)
          refine st rfl (o_y (v := .int .i64 ((k : Int) + 1)) (y_add (r := (k : Int) + 1) rfl rfl rfl (by omega)) rfl rfl rfl ?_)
          refine st rfl (o_y (v := .int .i64 ((k : Int) + 1)) (y_as rfl) rfl rfl rfl ?_)
          refine s_nil ?_
          refine q_then ?_
          refine c_next [] [0] (k + 1) ?_ ?_ ?_ (by rfl) (by rfl)
          · exact (show ((k + 1) : Int) ≤ n from by omega)
          · show n.toNat - (k + 1) < n.toNat - k; omega
          · exact (.cons rfl rfl (.cons rfl rfl (.cons rfl rfl (.cons rfl rfl (.cons rfl (show (.int .i64 ((k : Int) + 1) : Value) = .int .i64 ((k + 1) : Int) from by first | rfl | (congr 1; omega) | (congr 1; simp; done) | (congr 1; simp; omega)) .nil)))))
      ·
        refine a_y (i := 3) (v := .bool false) (ticked 25 15) rfl (by as_aux_lemma => kernel_rfl) rfl rfl rfl (by exact y_f (y_k (v := .bool (decide ((k : Int) < ((cutS s).size : Int)))) rfl rfl (fun _ => by kernel_rfl)) h4) ?_
        refine a_y (i := 4) (v := .bool false) (ticked 25 31) rfl (by as_aux_lemma => kernel_rfl) rfl rfl rfl (by exact y_mv rfl) ?_
        refine a_off (i := 5) 51 (ticked 25 63) rfl (by as_aux_lemma => kernel_rfl) rfl rfl rfl rfl rfl rfl ?_
        refine a_off (i := 6) 51 (ticked 25 127) rfl (by as_aux_lemma => kernel_rfl) rfl rfl rfl rfl rfl rfl ?_
        refine a_off (i := 7) 51 (ticked 25 255) rfl (by as_aux_lemma => kernel_rfl) rfl rfl rfl rfl rfl rfl ?_
        refine a_off (i := 8) 51 (ticked 25 511) rfl (by as_aux_lemma => kernel_rfl) rfl rfl rfl rfl rfl rfl ?_
        refine a_off (i := 9) 51 (ticked 25 1023) rfl (by as_aux_lemma => kernel_rfl) rfl rfl rfl rfl rfl rfl ?_
        refine a_off (i := 10) 51 (ticked 25 2047) rfl (by as_aux_lemma => kernel_rfl) rfl rfl rfl rfl rfl rfl ?_
        refine a_off (i := 11) 51 (ticked 25 4095) rfl (by as_aux_lemma => kernel_rfl) rfl rfl rfl rfl rfl rfl ?_
        refine a_y (i := 12) (v := .bool false) (ticked 25 8191) rfl (by as_aux_lemma => kernel_rfl) rfl rfl rfl (by exact y_pick rfl rfl) ?_
        refine a_y (i := 13) (v := .bool false) (ticked 25 16383) rfl (by as_aux_lemma => kernel_rfl) rfl rfl rfl (by exact y_mv rfl) ?_
        refine a_y_on (i := 14) (v := .int .i64 (k : Int)) 60 (ticked 25 32767) rfl (by as_aux_lemma => kernel_rfl) rfl rfl rfl rfl rfl (by exact y_mv rfl) ?_
        refine a_y_on (i := 15) (v := .string (cutS s)) 60 (ticked 25 65535) rfl (by as_aux_lemma => kernel_rfl) rfl rfl rfl rfl rfl (by exact y_mv rfl) ?_
        refine a_y_on (i := 16) (v := .int .i64 ((cutS s).size : Int)) 60 (ticked 25 131071) rfl (by as_aux_lemma => kernel_rfl) rfl rfl rfl rfl rfl (by exact y_k rfl rfl (fun _ => by kernel_rfl)) ?_
        refine e_by ((k : Int) ≥ ((cutS s).size : Int)) (fun h8 => ?_) (fun h8 => ?_)
        ·
          refine a_y_on (i := 17) (v := .bool true) 60 (ticked 25 262143) rfl (by as_aux_lemma => kernel_rfl) rfl rfl rfl rfl rfl (by exact y_t (y_k (v := .bool (decide ((k : Int) ≥ ((cutS s).size : Int)))) rfl rfl (fun _ => by kernel_rfl)) h8) ?_
          refine a_y_on (i := 18) (v := .bool true) 60 (ticked 25 524287) rfl (by as_aux_lemma => kernel_rfl) rfl rfl rfl rfl rfl (by exact y_mv rfl) ?_
          refine a_y_on (i := 19) (v := .string ((cutF (cutS s) n).1)) 65 (ticked 25 1048575) rfl (by as_aux_lemma => kernel_rfl) rfl rfl rfl rfl rfl (by exact y_mv rfl) ?_
          refine a_y_on (i := 20) (v := .int .i64 (k : Int)) 65 (ticked 25 2097151) rfl (by as_aux_lemma => kernel_rfl) rfl rfl rfl rfl rfl (by exact y_mv rfl) ?_
          obtain ⟨x4, hb4⟩ : ∃ x, ((cutF (cutS s) n).1)[k]? = some x := ⟨_, getElem?_pos ((cutF (cutS s) n).1) k (by omega)⟩
          refine a_y_on (i := 21) (v := .int .u8 (x4.toNat : Int)) 65 (ticked 25 4194303) rfl (by as_aux_lemma => kernel_rfl) rfl rfl rfl rfl rfl (by exact y_sidx k x4 rfl rfl (rfl) hb4 Tryd.underlying9) ?_
          have h9 : (x4.toNat : Int) = 0 := cut_eqz h1 (by omega) hb4 (by omega)
          refine a_y_on (i := 22) (v := .bool false) 65 (ticked 25 8388607) rfl (by as_aux_lemma => kernel_rfl) rfl rfl rfl rfl rfl (by exact y_nt (y_k (v := .bool (!decide ((x4.toNat : Int) = 0))) rfl rfl (fun _ => by kernel_rfl)) h9) ?_
          refine a_y_on (i := 23) (v := .bool false) 60 (ticked 25 16777215) rfl (by as_aux_lemma => kernel_rfl) rfl rfl rfl rfl rfl (by exact y_pick rfl rfl) ?_
          refine a_y (i := 24) (v := .bool false) (ticked 25 33554431) rfl (by as_aux_lemma => kernel_rfl) rfl rfl rfl (by exact y_pick rfl rfl) ?_
          refine a_done (by as_aux_lemma => kernel_rfl) ?_
          refine q_then ?_
          refine c_false rfl ?_
          refine c_skip ?_
          refine q_block ?_
          refine q_then ?_
          refine c_region ?_
          refine st rfl (o_y (v := .int .i64 (k : Int)) (y_mv rfl) rfl rfl rfl ?_)
          refine st rfl (o_y (v := .int .i64 ((k : Int) + 1)) (y_add (r := (k : Int) + 1) rfl rfl rfl (by omega)) rfl rfl rfl ?_)
          refine st rfl (o_y (v := .int .i64 ((k : Int) + 1)) (y_as rfl) rfl rfl rfl ?_)
          refine s_nil ?_
          refine q_then ?_
          refine c_next [] [0] (k + 1) ?_ ?_ ?_ (by rfl) (by rfl)
          · exact (show ((k + 1) : Int) ≤ n from by omega)
          · show n.toNat - (k + 1) < n.toNat - k; omega
          · exact (.cons rfl rfl (.cons rfl rfl (.cons rfl rfl (.cons rfl rfl (.cons rfl (show (.int .i64 ((k : Int) + 1) : Value) = .int .i64 ((k + 1) : Int) from by first | rfl | (congr 1; omega) | (congr 1; simp; done) | (congr 1; simp; omega)) .nil)))))
        ·
          refine a_y_on (i := 17) (v := .bool false) 60 (ticked 25 262143) rfl (by as_aux_lemma => kernel_rfl) rfl rfl rfl rfl rfl (by exact y_f (y_k (v := .bool (decide ((k : Int) ≥ ((cutS s).size : Int)))) rfl rfl (fun _ => by kernel_rfl)) h8) ?_
          refine a_y_on (i := 18) (v := .bool false) 60 (ticked 25 524287) rfl (by as_aux_lemma => kernel_rfl) rfl rfl rfl rfl rfl (by exact y_mv rfl) ?_
          refine a_off (i := 19) 65 (ticked 25 1048575) rfl (by as_aux_lemma => kernel_rfl) rfl rfl rfl rfl rfl rfl ?_
          refine a_off (i := 20) 65 (ticked 25 2097151) rfl (by as_aux_lemma => kernel_rfl) rfl rfl rfl rfl rfl rfl ?_
          refine a_off (i := 21) 65 (ticked 25 4194303) rfl (by as_aux_lemma => kernel_rfl) rfl rfl rfl rfl rfl rfl ?_
          refine a_off (i := 22) 65 (ticked 25 8388607) rfl (by as_aux_lemma => kernel_rfl) rfl rfl rfl rfl rfl rfl ?_
          refine a_y_on (i := 23) (v := .bool false) 60 (ticked 25 16777215) rfl (by as_aux_lemma => kernel_rfl) rfl rfl rfl rfl rfl (by exact y_pick rfl rfl) ?_
          refine a_y (i := 24) (v := .bool false) (ticked 25 33554431) rfl (by as_aux_lemma => kernel_rfl) rfl rfl rfl (by exact y_pick rfl rfl) ?_
          refine a_done (by as_aux_lemma => kernel_rfl) ?_
          refine q_then ?_
          refine c_false rfl ?_
          refine c_skip ?_
          refine q_block ?_
          refine q_then ?_
          refine c_region ?_
          refine st rfl (o_y (v := .int .i64 (k : Int)) (y_mv rfl) rfl rfl rfl ?_)
          refine st rfl (o_y (v := .int .i64 ((k : Int) + 1)) (y_add (r := (k : Int) + 1) rfl rfl rfl (by omega)) rfl rfl rfl ?_)
          refine st rfl (o_y (v := .int .i64 ((k : Int) + 1)) (y_as rfl) rfl rfl rfl ?_)
          refine s_nil ?_
          refine q_then ?_
          refine c_next [] [0] (k + 1) ?_ ?_ ?_ (by rfl) (by rfl)
          · exact (show ((k + 1) : Int) ≤ n from by omega)
          · show n.toNat - (k + 1) < n.toNat - k; omega
          · exact (.cons rfl rfl (.cons rfl rfl (.cons rfl rfl (.cons rfl rfl (.cons rfl (show (.int .i64 ((k : Int) + 1) : Value) = .int .i64 ((k + 1) : Int) from by first | rfl | (congr 1; omega) | (congr 1; simp; done) | (congr 1; simp; omega)) .nil)))))
    ·
      refine st rfl (o_y (v := .bool false) (y_f (y_k (v := .bool (decide ((k : Int) < n))) rfl rfl (fun _ => by kernel_rfl)) h3) rfl rfl rfl ?_)
      refine s_nil ?_
      refine q_then ?_
      refine c_false rfl ?_
      refine c_exit ?_
      refine q_then_exit ?_
      refine q_then_exit ?_
      refine q_block_here ?_
      refine q_then ?_
      refine c_seq ?_
      refine c_region ?_
      refine st rfl (o_y (v := .bool true) (y_mv rfl) rfl rfl rfl ?_)
      refine st rfl (o_y (v := .bool true) (y_as rfl) rfl rfl rfl ?_)
      refine s_nil ?_
      refine q_then ?_
      refine c_ret ?_
      refine c_fin (I' := []) [] [0] rfl (.tmp rfl .nil) rfl rfl rfl ?_
      exact ⟨rfl, rfl, rfl⟩
  ·
    refine st rfl (o_y (v := .bool true) (y_nf (y_k (v := .bool (!decide ((cutF (cutS s) n).2 = 0))) rfl rfl (fun _ => by kernel_rfl)) h1) rfl rfl rfl ?_)
    refine s_nil ?_
    refine q_then ?_
    refine c_true rfl ?_
    refine c_seq ?_
    refine c_region ?_
    refine st rfl (o_y (v := .bool true) (y_mv rfl) rfl rfl rfl ?_)
    refine st rfl (o_y (v := .bool true) (y_mv rfl) rfl rfl rfl ?_)
    refine st_on 21 rfl rfl rfl (o_y (v := .string (cutS s)) (y_mv rfl) rfl rfl rfl ?_)
    refine st_on 21 rfl rfl rfl (o_y (v := .int .i64 ((cutS s).size : Int)) (y_k rfl rfl (fun _ => by kernel_rfl)) rfl rfl rfl ?_)
    refine e_by (((cutS s).size : Int) > 1000) (fun h10 => ?_) (fun h10 => ?_)
    ·
      refine st_on 21 rfl rfl rfl (o_y (v := .bool true) (y_t (y_k (v := .bool (decide (((cutS s).size : Int) > 1000))) rfl rfl (fun _ => by kernel_rfl)) h10) rfl rfl rfl ?_)
      refine st_on 21 rfl rfl rfl (o_y (v := .bool true) (y_mv rfl) rfl rfl rfl ?_)
      refine st_off 25 rfl rfl rfl rfl rfl rfl ?_
      refine st_off 25 rfl rfl rfl rfl rfl rfl ?_
      refine st_on 21 rfl rfl rfl (o_y (v := .bool true) (y_pick rfl rfl) rfl rfl rfl ?_)
      refine st_on 21 rfl rfl rfl (o_y (v := .bool true) (y_mv rfl) rfl rfl rfl ?_)
      refine st_off 29 rfl rfl rfl rfl rfl rfl ?_
      refine st_off 29 rfl rfl rfl rfl rfl rfl ?_
      refine st_on 21 rfl rfl rfl (o_y (v := .bool true) (y_pick rfl rfl) rfl rfl rfl ?_)
      refine st rfl (o_y (v := .bool true) (y_pick rfl rfl) rfl rfl rfl ?_)
      refine st rfl (o_y (v := .bool true) (y_mv rfl) rfl rfl rfl ?_)
      refine st_on 34 rfl rfl rfl (o_y (v := .string ((cutF (cutS s) n).1)) (y_mv rfl) rfl rfl rfl ?_)
      have h11 : (cutF (cutS s) n).1 = (⟨#[]⟩ : ByteArray) := congrArg Prod.fst (w1 h1).1
      refine st_on 34 rfl rfl rfl (o_y (v := .bool true) (y_b (y_k (v := .bool (((cutF (cutS s) n).1).toList == (⟨#[]⟩ : ByteArray).toList)) rfl rfl (fun _ => by kernel_rfl)) (str_t h11)) rfl rfl rfl ?_)
      refine st rfl (o_y (v := .bool true) (y_pick rfl rfl) rfl rfl rfl ?_)
      refine st rfl (o_y (v := .bool true) (y_as rfl) rfl rfl rfl ?_)
      refine s_nil ?_
      refine q_then ?_
      refine c_ret ?_
      refine q_then_ret ?_
      refine c_fin (I' := []) [] [0] rfl (.tmp rfl .nil) rfl rfl rfl ?_
      exact ⟨rfl, rfl, rfl⟩
    ·
      refine st_on 21 rfl rfl rfl (o_y (v := .bool false) (y_f (y_k (v := .bool (decide (((cutS s).size : Int) > 1000))) rfl rfl (fun _ => by kernel_rfl)) h10) rfl rfl rfl ?_)
      refine st_on 21 rfl rfl rfl (o_y (v := .bool false) (y_mv rfl) rfl rfl rfl ?_)
      refine st_on 25 rfl rfl rfl (o_y (v := .int .i64 n) (y_mv rfl) rfl rfl rfl ?_)
      refine e_by (n < 0) (fun h12 => ?_) (fun h12 => ?_)
      ·
        refine st_on 25 rfl rfl rfl (o_y (v := .bool true) (y_t (y_k (v := .bool (decide (n < 0))) rfl rfl (fun _ => by kernel_rfl)) h12) rfl rfl rfl ?_)
        refine st_on 21 rfl rfl rfl (o_y (v := .bool true) (y_pick rfl rfl) rfl rfl rfl ?_)
        refine st_on 21 rfl rfl rfl (o_y (v := .bool true) (y_mv rfl) rfl rfl rfl ?_)
        refine st_off 29 rfl rfl rfl rfl rfl rfl ?_
        refine st_off 29 rfl rfl rfl rfl rfl rfl ?_
        refine st_on 21 rfl rfl rfl (o_y (v := .bool true) (y_pick rfl rfl) rfl rfl rfl ?_)
        refine st rfl (o_y (v := .bool true) (y_pick rfl rfl) rfl rfl rfl ?_)
        refine st rfl (o_y (v := .bool true) (y_mv rfl) rfl rfl rfl ?_)
        refine st_on 34 rfl rfl rfl (o_y (v := .string ((cutF (cutS s) n).1)) (y_mv rfl) rfl rfl rfl ?_)
        have h13 : (cutF (cutS s) n).1 = (⟨#[]⟩ : ByteArray) := congrArg Prod.fst (w1 h1).1
        refine st_on 34 rfl rfl rfl (o_y (v := .bool true) (y_b (y_k (v := .bool (((cutF (cutS s) n).1).toList == (⟨#[]⟩ : ByteArray).toList)) rfl rfl (fun _ => by kernel_rfl)) (str_t h13)) rfl rfl rfl ?_)
        refine st rfl (o_y (v := .bool true) (y_pick rfl rfl) rfl rfl rfl ?_)
        refine st rfl (o_y (v := .bool true) (y_as rfl) rfl rfl rfl ?_)
        refine s_nil ?_
        refine q_then ?_
        refine c_ret ?_
        refine q_then_ret ?_
        refine c_fin (I' := []) [] [0] rfl (.tmp rfl .nil) rfl rfl rfl ?_
        exact ⟨rfl, rfl, rfl⟩
      ·
        refine st_on 25 rfl rfl rfl (o_y (v := .bool false) (y_f (y_k (v := .bool (decide (n < 0))) rfl rfl (fun _ => by kernel_rfl)) h12) rfl rfl rfl ?_)
        refine st_on 21 rfl rfl rfl (o_y (v := .bool false) (y_pick rfl rfl) rfl rfl rfl ?_)
        refine st_on 21 rfl rfl rfl (o_y (v := .bool false) (y_mv rfl) rfl rfl rfl ?_)
        refine st_on 29 rfl rfl rfl (o_y (v := .int .i64 n) (y_mv rfl) rfl rfl rfl ?_)
        refine e_by (n > 1000) (fun h14 => ?_) (fun h14 => ?_)
        ·
          refine st_on 29 rfl rfl rfl (o_y (v := .bool true) (y_t (y_k (v := .bool (decide (n > 1000))) rfl rfl (fun _ => by kernel_rfl)) h14) rfl rfl rfl ?_)
          refine st_on 21 rfl rfl rfl (o_y (v := .bool true) (y_pick rfl rfl) rfl rfl rfl ?_)
          refine st rfl (o_y (v := .bool true) (y_pick rfl rfl) rfl rfl rfl ?_)
          refine st rfl (o_y (v := .bool true) (y_mv rfl) rfl rfl rfl ?_)
          refine st_on 34 rfl rfl rfl (o_y (v := .string ((cutF (cutS s) n).1)) (y_mv rfl) rfl rfl rfl ?_)
          have h15 : (cutF (cutS s) n).1 = (⟨#[]⟩ : ByteArray) := congrArg Prod.fst (w1 h1).1
          refine st_on 34 rfl rfl rfl (o_y (v := .bool true) (y_b (y_k (v := .bool (((cutF (cutS s) n).1).toList == (⟨#[]⟩ : ByteArray).toList)) rfl rfl (fun _ => by kernel_rfl)) (str_t h15)) rfl rfl rfl ?_)
          refine st rfl (o_y (v := .bool true) (y_pick rfl rfl) rfl rfl rfl ?_)
          refine st rfl (o_y (v := .bool true) (y_as rfl) rfl rfl rfl ?_)
          refine s_nil ?_
          refine q_then ?_
          refine c_ret ?_
          refine q_then_ret ?_
          refine c_fin (I' := []) [] [0] rfl (.tmp rfl .nil) rfl rfl rfl ?_
          exact ⟨rfl, rfl, rfl⟩
        ·
          refine st_on 29 rfl rfl rfl (o_y (v := .bool false) (y_f (y_k (v := .bool (decide (n > 1000))) rfl rfl (fun _ => by kernel_rfl)) h14) rfl rfl rfl ?_)
          refine st_on 21 rfl rfl rfl (o_y (v := .bool false) (y_pick rfl rfl) rfl rfl rfl ?_)
          refine st rfl (o_y (v := .bool false) (y_pick rfl rfl) rfl rfl rfl ?_)
          refine st rfl (o_y (v := .bool false) (y_mv rfl) rfl rfl rfl ?_)
          refine st_off 34 rfl rfl rfl rfl rfl rfl ?_
          refine st_off 34 rfl rfl rfl rfl rfl rfl ?_
          refine st rfl (o_y (v := .bool false) (y_pick rfl rfl) rfl rfl rfl ?_)
          refine st rfl (o_y (v := .bool false) (y_as rfl) rfl rfl rfl ?_)
          refine s_nil ?_
          refine q_then ?_
          refine c_ret ?_
          refine q_then_ret ?_
          refine c_fin (I' := []) [] [0] rfl (.tmp rfl .nil) rfl rfl rfl ?_
          exact ⟨by exfalso; have := (w1 h1).2; omega, rfl, rfl⟩
end Go.Proofs.YthjcekfehicjhaaDoor
