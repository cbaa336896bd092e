/- The laws of chapter 9 (file), walked over the given program; no condition but what stands in each theorem: part KBack. -/
import Derived.Test.YthjcekfehicjhaaDoorRJ
set_option linter.unusedVariables false
set_option linter.unusedSimpArgs false
set_option maxRecDepth 100000
set_option maxHeartbeats 8000000
namespace Go.Proofs.YthjcekfehicjhaaDoor
open Go Go.Sl Go.RowKit Go.Extern.Stop Go.Stop Go.Extern
theorem FileBack_ (s : ByteArray) (t : ByteArray) (at_ : Int) (zs : s.size ≤ 9223372036854775807) (zt : t.size ≤ 9223372036854775807) : Con Tryd.prog 4 [.string s, .string t, .int .i64 at_] [] [cellsAt 0 0 [.iface 73 (.agg #[.pointer (some ⟨1, 42, none⟩)])]] (fun v L' I' => v = .bool true ∧ L' = [] ∧ I' = []) := by
  have cs := cutS_size s
  have ct := cutS_size t
  have w1 := writeF_size (cutS s) (cutS t) at_
  have w2 := write_size (s := cutS s) (t := cutS t) (at_ := at_)
  have w3 := writeF_ok (s := cutS s) (t := cutS t) (at_ := at_)
  have w4 := writeF_no (s := cutS s) (t := cutS t) (at_ := at_)
  have w5 := write_read (s := cutS s) (t := cutS t) (at_ := at_)
  have w6 : (writeF (cutS s) at_ (cutS t)).2 = 0 → 0 ≤ at_ ∧ at_ ≤ 1000 := fun h => by have := (w3 h).1; omega
  refine fn_of Tryd.func4 rfl Tryd.ntmps4 (by kernel_rfl) rfl (fun C => ?_)
  refine c_seq ?_
  refine c_region ?_
  refine st rfl (o_y (v := .bool false) (y_as rfl) rfl rfl rfl ?_)
  refine s_nil ?_
  refine q_then ?_
  refine c_seq ?_
  refine c_region ?_
  refine st rfl (o_call [] [0] shown_ rfl rfl rfl rfl rfl rfl (fun v L' I' hq1 => ?_))
  obtain ⟨rfl, rfl, rfl⟩ := hq1
  refine st rfl (o_y (v := .bool true) (y_as rfl) rfl rfl rfl ?_)
  refine s_nil ?_
  refine q_then ?_
  refine c_seq ?_
  refine c_region ?_
  refine st rfl (o_y (v := .string s) (y_mv rfl) rfl rfl rfl ?_)
  refine st rfl (o_call [] [] (cut_ s (by assumption)) rfl rfl rfl rfl rfl rfl (fun v L' I' hq2 => ?_))
  obtain ⟨rfl, rfl, rfl⟩ := hq2
  refine st rfl (o_y (v := .string (cutS s)) (y_as rfl) rfl rfl rfl ?_)
  refine s_nil ?_
  refine q_then ?_
  refine c_seq ?_
  refine c_region ?_
  refine st rfl (o_y (v := .string t) (y_mv rfl) rfl rfl rfl ?_)
  refine st rfl (o_call [] [] (cut_ t (by assumption)) rfl rfl rfl rfl rfl rfl (fun v L' I' hq3 => ?_))
  obtain ⟨rfl, rfl, rfl⟩ := hq3
  refine st rfl (o_y (v := .string (cutS t)) (y_as rfl) rfl rfl rfl ?_)
  refine s_nil ?_
  refine q_then ?_
  refine c_seq ?_
  refine c_region ?_
  refine st rfl (o_y (v := .string (cutS s)) (y_mv rfl) rfl rfl rfl ?_)
  refine st rfl (o_y (v := .int .i64 at_) (y_mv rfl) rfl rfl rfl ?_)
  refine st rfl (o_y (v := .string (cutS t)) (y_mv rfl) rfl rfl rfl ?_)
  refine st rfl (o_call [] [0] (Write_ (cutS s) (by first | omega | decide | assumption) at_ (cutS t) (by first | omega | decide | assumption | (rw [ByteArray.size_append]; omega))) rfl rfl rfl rfl rfl rfl (fun v L' I' hq4 => ?_))
  obtain ⟨rfl, rfl, rfl⟩ := hq4
  refine st rfl (o_y (v := .tuple #[.string ((writeF (cutS s) at_ (cutS t)).1), .int .i64 ((writeF (cutS s) at_ (cutS t)).2)]) (y_mv rfl) rfl rfl rfl ?_)
  refine st rfl (o_y (v := .string ((writeF (cutS s) at_ (cutS t)).1)) (y_k rfl rfl (fun _ => by kernel_rfl)) rfl rfl rfl ?_)
  refine st rfl (o_y (v := .int .i64 ((writeF (cutS s) at_ (cutS t)).2)) (y_k rfl rfl (fun _ => by kernel_rfl)) rfl rfl rfl ?_)
  refine st rfl (o_y (v := .string ((writeF (cutS s) at_ (cutS t)).1)) (y_as rfl) rfl rfl rfl ?_)
  refine st rfl (o_y (v := .int .i64 ((writeF (cutS s) at_ (cutS t)).2)) (y_as rfl) rfl rfl rfl ?_)
  refine s_nil ?_
  refine q_then ?_
  refine c_seq ?_
  refine c_seq ?_
  refine c_region ?_
  refine st rfl (o_y (v := .int .i64 ((writeF (cutS s) at_ (cutS t)).2)) (y_mv rfl) rfl rfl rfl ?_)
  refine e_by ((writeF (cutS s) at_ (cutS t)).2 = 0) (fun h1 => ?_) (fun h1 => ?_)
  ·
    refine st rfl (o_y (v := .bool false) (y_nt (y_k (v := .bool (!decide ((writeF (cutS s) at_ (cutS t)).2 = 0))) rfl rfl (fun _ => by kernel_rfl)) h1) rfl rfl rfl ?_)
    refine s_nil ?_
    refine q_then ?_
    refine c_false rfl ?_
    refine c_skip ?_
    refine q_then ?_
    refine c_seq ?_
    refine c_region ?_
    refine st rfl (o_y (v := .string ((writeF (cutS s) at_ (cutS t)).1)) (y_mv rfl) rfl rfl rfl ?_)
    refine st rfl (o_y (v := .int .i64 at_) (y_mv rfl) rfl rfl rfl ?_)
    refine st rfl (o_y (v := .string (cutS t)) (y_mv rfl) rfl rfl rfl ?_)
    refine st rfl (o_y (v := .int .i64 ((cutS t).size : Int)) (y_k rfl rfl (fun _ => by kernel_rfl)) rfl rfl rfl ?_)
    refine st rfl (o_call [] [0] (Read_ ((writeF (cutS s) at_ (cutS t)).1) (by first | omega | decide | assumption) at_ ((cutS t).size : Int)) rfl rfl rfl rfl rfl rfl (fun v L' I' hq5 => ?_))
    obtain ⟨rfl, rfl, rfl⟩ := hq5
    refine st rfl (o_y (v := .tuple #[.string ((readF ((writeF (cutS s) at_ (cutS t)).1) at_ ((cutS t).size : Int)).1), .int .i64 ((readF ((writeF (cutS s) at_ (cutS t)).1) at_ ((cutS t).size : Int)).2)]) (y_mv rfl) rfl rfl rfl ?_)
    refine st rfl (o_y (v := .string ((readF ((writeF (cutS s) at_ (cutS t)).1) at_ ((cutS t).size : Int)).1)) (y_k rfl rfl (fun _ => by kernel_rfl)) rfl rfl rfl ?_)
    refine st rfl (o_y (v := .int .i64 ((readF ((writeF (cutS s) at_ (cutS t)).1) at_ ((cutS t).size : Int)).2)) (y_k rfl rfl (fun _ => by kernel_rfl)) rfl rfl rfl ?_)
    refine st rfl (o_y (v := .string ((readF ((writeF (cutS s) at_ (cutS t)).1) at_ ((cutS t).size : Int)).1)) (y_as rfl) rfl rfl rfl ?_)
    refine st rfl (o_y (v := .int .i64 ((readF ((writeF (cutS s) at_ (cutS t)).1) at_ ((cutS t).size : Int)).2)) (y_as rfl) rfl rfl rfl ?_)
    refine s_nil ?_
    refine q_then ?_
    refine c_seq ?_
    refine c_seq ?_
    refine c_region ?_
    refine st rfl (o_y (v := .int .i64 ((readF ((writeF (cutS s) at_ (cutS t)).1) at_ ((cutS t).size : Int)).2)) (y_mv rfl) rfl rfl rfl ?_)
    have h2 : (readF ((writeF (cutS s) at_ (cutS t)).1) at_ ((cutS t).size : Int)).2 = 0 := congrArg Prod.snd (w5 h1)
    refine st rfl (o_y (v := .bool false) (y_nt (y_k (v := .bool (!decide ((readF ((writeF (cutS s) at_ (cutS t)).1) at_ ((cutS t).size : Int)).2 = 0))) rfl rfl (fun _ => by kernel_rfl)) h2) rfl rfl rfl ?_)
    refine st rfl (o_y (v := .bool false) (y_mv rfl) rfl rfl rfl ?_)
    refine st_on 46 rfl rfl rfl (o_y (v := .string ((readF ((writeF (cutS s) at_ (cutS t)).1) at_ ((cutS t).size : Int)).1)) (y_mv rfl) rfl rfl rfl ?_)
    refine st_on 46 rfl rfl rfl (o_y (v := .string (cutS t)) (y_mv rfl) rfl rfl rfl ?_)
    have h3 : (readF ((writeF (cutS s) at_ (cutS t)).1) at_ ((cutS t).size : Int)).1 = cutS t := congrArg Prod.fst (w5 h1)
    refine st_on 46 rfl rfl rfl (o_y (v := .bool false) (y_b (y_k (v := .bool (!(((readF ((writeF (cutS s) at_ (cutS t)).1) at_ ((cutS t).size : Int)).1).toList == (cutS t).toList))) rfl rfl (fun _ => by kernel_rfl)) (str_nt h3)) rfl rfl rfl ?_)
    refine st rfl (o_y (v := .bool false) (y_pick rfl rfl) rfl rfl rfl ?_)
    refine st rfl (o_y (v := .bool false) (y_mv rfl) rfl rfl rfl ?_)
    refine st_on 51 rfl rfl rfl (o_y (v := .string ((writeF (cutS s) at_ (cutS t)).1)) (y_mv rfl) rfl rfl rfl ?_)
    refine st_on 51 rfl rfl rfl (o_y (v := .int .i64 (((writeF (cutS s) at_ (cutS t)).1).size : Int)) (y_k rfl rfl (fun _ => by kernel_rfl)) rfl rfl rfl ?_)
    refine st_on 51 rfl rfl rfl (o_y (v := .string (cutS s)) (y_mv rfl) rfl rfl rfl ?_)
    refine st_on 51 rfl rfl rfl (o_y (v := .int .i64 ((cutS s).size : Int)) (y_k rfl rfl (fun _ => by kernel_rfl)) rfl rfl rfl ?_)
    refine st_on 51 rfl rfl rfl (o_y (v := .int .i64 at_) (y_mv rfl) rfl rfl rfl ?_)
    refine st_on 51 rfl rfl rfl (o_y (v := .string (cutS t)) (y_mv rfl) rfl rfl rfl ?_)
    refine st_on 51 rfl rfl rfl (o_y (v := .int .i64 ((cutS t).size : Int)) (y_k rfl rfl (fun _ => by kernel_rfl)) rfl rfl rfl ?_)
    refine st_on 51 rfl rfl rfl (o_y (v := .int .i64 (at_ + ((cutS t).size : Int))) (y_add (r := at_ + ((cutS t).size : Int)) rfl rfl rfl (by omega)) rfl rfl rfl ?_)
    refine st_on 51 rfl rfl rfl (o_y (v := .int .i64 (max ((cutS s).size : Int) (at_ + ((cutS t).size : Int)))) (y_maxi (p := ((cutS s).size : Int)) (q := at_ + ((cutS t).size : Int)) rfl rfl) rfl rfl rfl ?_)
    have h4 : (((writeF (cutS s) at_ (cutS t)).1).size : Int) = max ((cutS s).size : Int) (at_ + ((cutS t).size : Int)) := w2 h1
    refine st_on 51 rfl rfl rfl (o_y (v := .bool false) (y_nt (y_k (v := .bool (!decide ((((writeF (cutS s) at_ (cutS t)).1).size : Int) = max ((cutS s).size : Int) (at_ + ((cutS t).size : Int))))) rfl rfl (fun _ => by kernel_rfl)) h4) rfl rfl rfl ?_)
    refine st rfl (o_y (v := .bool false) (y_pick rfl rfl) rfl rfl rfl ?_)
    refine s_nil ?_
    refine q_then ?_
    refine c_false rfl ?_
    refine c_skip ?_
    refine q_then ?_
    refine c_seq ?_
    refine c_seq ?_
    refine c_region ?_
    refine st rfl (o_y (v := .int .i64 0) (y_as rfl) rfl rfl rfl ?_)
    refine s_nil ?_
    refine q_then ?_
    refine c_block ?_
    refine c_loopn (ι := Nat) (fun k => (k ≤ (cutS s).size)) (fun k => [(0, .string (cutS s)), (1, .string (cutS t)), (2, .int .i64 at_), (7, .bool true), (8, .string ((writeF (cutS s) at_ (cutS t)).1)), (12, .int .i64 (k : Int))]) (fun k => []) (fun k => [cellsAt 0 0 [.iface 73 (.agg #[.pointer (some ⟨1, 42, none⟩)])]]) (fun k => (cutS s).size - k) (0) [] [0] (show 0 ≤ (cutS s).size from Nat.zero_le _) ((.cons rfl rfl (.cons rfl rfl (.cons rfl rfl (.cons rfl rfl (.cons rfl rfl (.cons rfl rfl .nil))))))) rfl rfl ?_
    rintro k hk
    show Ent 90 C [(0, .string (cutS s)), (1, .string (cutS t)), (2, .int .i64 at_), (7, .bool true), (8, .string ((writeF (cutS s) at_ (cutS t)).1)), (12, .int .i64 (k : Int))] [] [] [cellsAt 0 0 [.iface 73 (.agg #[.pointer (some ⟨1, 42, none⟩)])]] _
    refine c_seq ?_
    refine c_seq ?_
    refine c_region ?_
    refine st rfl (o_y (v := .int .i64 (k : Int)) (y_mv rfl) rfl rfl rfl ?_)
    refine st rfl (o_y (v := .string (cutS s)) (y_mv rfl) rfl rfl rfl ?_)
    refine st rfl (o_y (v := .int .i64 ((cutS s).size : Int)) (y_k rfl rfl (fun _ => by kernel_rfl)) rfl rfl rfl ?_)
    refine e_by ((k : Int) < ((cutS s).size : Int)) (fun h5 => ?_) (fun h5 => ?_)
    ·
      refine st rfl (o_y (v := .bool true) (y_t (y_k (v := .bool (decide ((k : Int) < ((cutS s).size : Int)))) rfl rfl (fun _ => by kernel_rfl)) h5) rfl rfl rfl ?_)
      refine s_nil ?_
      refine q_then ?_
      refine c_true rfl ?_
      refine c_skip ?_
      refine q_then ?_
      refine c_seq ?_
      refine c_block ?_
      refine c_seq ?_
      refine c_draw (l := ticked 20 0) [] [] (by kernel_rfl) rfl rfl ?_
      refine a_y (i := 0) (v := .int .i64 (k : Int)) (ticked 20 1) rfl (by as_aux_lemma => kernel_rfl) rfl rfl rfl (by exact y_mv rfl) ?_
      refine a_y (i := 1) (v := .int .i64 at_) (ticked 20 3) rfl (by as_aux_lemma => kernel_rfl) rfl rfl rfl (by exact y_mv rfl) ?_
      refine e_by ((k : Int) < at_) (fun h6 => ?_) (fun h6 => ?_)
      ·
        refine a_y (i := 2) (v := .bool true) (ticked 20 7) rfl (by as_aux_lemma => kernel_rfl) rfl rfl rfl (by exact y_t (y_k (v := .bool (decide ((k : Int) < at_))) rfl rfl (fun _ => by kernel_rfl)) h6) ?_
        refine a_y (i := 3) (v := .bool true) (ticked 20 15) rfl (by as_aux_lemma => kernel_rfl) rfl rfl rfl (by exact y_mv rfl) ?_
        refine a_off (i := 4) 72 (ticked 20 31) rfl (by as_aux_lemma => kernel_rfl) rfl rfl rfl rfl rfl rfl ?_
        refine a_off (i := 5) 72 (ticked 20 63) rfl (by as_aux_lemma => kernel_rfl) rfl rfl rfl rfl rfl rfl ?_
        refine a_off (i := 6) 72 (ticked 20 127) rfl (by as_aux_lemma => kernel_rfl) rfl rfl rfl rfl rfl rfl ?_
        refine a_off (i := 7) 72 (ticked 20 255) rfl (by as_aux_lemma => kernel_rfl) rfl rfl rfl rfl rfl rfl ?_
        refine a_off (i := 8) 72 (ticked 20 511) rfl (by as_aux_lemma => kernel_rfl) rfl rfl rfl rfl rfl rfl ?_
        refine a_off (i := 9) 72 (ticked 20 1023) rfl (by as_aux_lemma => kernel_rfl) rfl rfl rfl rfl rfl rfl ?_
        refine a_y (i := 10) (v := .bool true) (ticked 20 2047) rfl (by as_aux_lemma => kernel_rfl) rfl rfl rfl (by exact y_pick rfl rfl) ?_
        refine a_y (i := 11) (v := .bool true) (ticked 20 4095) rfl (by as_aux_lemma => kernel_rfl) rfl rfl rfl (by exact y_mv rfl) ?_
        refine a_y_on (i := 12) (v := .string ((writeF (cutS s) at_ (cutS t)).1)) 80 (ticked 20 8191) rfl (by as_aux_lemma => kernel_rfl) rfl rfl rfl rfl rfl (by exact y_mv rfl) ?_
        refine a_y_on (i := 13) (v := .int .i64 (k : Int)) 80 (ticked 20 16383) rfl (by as_aux_lemma => kernel_rfl) rfl rfl rfl rfl rfl (by exact y_mv rfl) ?_
        obtain ⟨x1, hb1⟩ : ∃ x, ((writeF (cutS s) at_ (cutS t)).1)[k]? = some x := ⟨_, getElem?_pos ((writeF (cutS s) at_ (cutS t)).1) k (by omega)⟩
        refine a_y_on (i := 14) (v := .int .u8 (x1.toNat : Int)) 80 (ticked 20 32767) rfl (by as_aux_lemma => kernel_rfl) rfl rfl rfl rfl rfl (by exact y_sidx k x1 rfl rfl (rfl) hb1 Tryd.underlying9) ?_
        refine a_y_on (i := 15) (v := .string (cutS s)) 80 (ticked 20 65535) rfl (by as_aux_lemma => kernel_rfl) rfl rfl rfl rfl rfl (by exact y_mv rfl) ?_
        refine a_y_on (i := 16) (v := .int .i64 (k : Int)) 80 (ticked 20 131071) rfl (by as_aux_lemma => kernel_rfl) rfl rfl rfl rfl rfl (by exact y_mv rfl) ?_
        obtain ⟨x2, hb2⟩ : ∃ x, (cutS s)[k]? = some x := ⟨_, getElem?_pos (cutS s) k (by omega)⟩
        refine a_y_on (i := 17) (v := .int .u8 (x2.toNat : Int)) 80 (ticked 20 262143) rfl (by as_aux_lemma => kernel_rfl) rfl rfl rfl rfl rfl (by exact y_sidx k x2 rfl rfl (rfl) hb2 Tryd.underlying9) ?_
        have h7 : (x1.toNat : Int) = (x2.toNat : Int) := back_eq h1 hb1 hb2 (by omega)
        refine a_y_on (i := 18) (v := .bool false) 80 (ticked 20 524287) rfl (by as_aux_lemma => kernel_rfl) rfl rfl rfl rfl rfl (by exact y_nt (y_k (v := .bool (!decide ((x1.toNat : Int) = (x2.toNat : Int)))) rfl rfl (fun _ => by kernel_rfl)) h7) ?_
        refine a_y (i := 19) (v := .bool false) (ticked 20 1048575) rfl (by as_aux_lemma => kernel_rfl) rfl rfl rfl (by exact y_pick rfl rfl) ?_
        refine a_done (by as_aux_lemma => kernel_rfl) ?_
        refine q_then ?_
        refine c_false rfl ?_
        refine c_skip ?_
        refine q_block ?_
        refine q_then ?_
        refine c_region ?_
        refine st rfl (o_y (v := .int .i64 (k : Int)) (y_mv rfl) rfl rfl rfl ?_)
        refine st rfl (o_y (v := .int .i64 ((k : Int) + 1)) (y_add (r := (k : Int) + 1) rfl rfl rfl (by omega)) rfl rfl rfl ?_)
        refine st rfl (o_y (v := .int .i64 ((k : Int) + 1)) (y_as rfl) rfl rfl rfl ?_)
        refine s_nil ?_
        refine q_then ?_
        refine c_next [] [0] (k + 1) ?_ ?_ ?_ (by rfl) (by rfl)
        · exact (show (k + 1) ≤ (cutS s).size from by omega)
        · show (cutS s).size - (k + 1) < (cutS s).size - k; omega
        · exact (.cons rfl rfl (.cons rfl rfl (.cons rfl rfl (.cons rfl rfl (.cons rfl rfl (.cons rfl (show (.int .i64 ((k : Int) + 1) : Value) = .int .i64 ((k + 1) : Int) from by first | rfl | (congr 1; omega) | (congr 1; simp; done) | (congr 1; simp; omega)) .nil))))))
      ·
        refine a_y (i := 2) (v := .bool false) (ticked 20 7) rfl (by as_aux_lemma => kernel_rfl) rfl rfl rfl (by exact y_f (y_k (v := .bool (decide ((k : Int) < at_))) rfl rfl (fun _ => by kernel_rfl)) h6) ?_
        refine a_y (i := 3) (v := .bool false) (ticked 20 15) rfl (by as_aux_lemma => kernel_rfl) rfl rfl rfl (by exact y_mv rfl) ?_
        refine a_y_on (i := 4) (v := .int .i64 (k : Int)) 72 (ticked 20 31) rfl (by as_aux_lemma => kernel_rfl) rfl rfl rfl rfl rfl (by exact y_mv rfl) ?_
        refine a_y_on (i := 5) (v := .int .i64 at_) 72 (ticked 20 63) rfl (by as_aux_lemma => kernel_rfl) rfl rfl rfl rfl rfl (by exact y_mv rfl) ?_
        refine a_y_on (i := 6) (v := .string (cutS t)) 72 (ticked 20 127) rfl (by as_aux_lemma => kernel_rfl) rfl rfl rfl rfl rfl (by exact y_mv rfl) ?_
        refine a_y_on (i := 7) (v := .int .i64 ((cutS t).size : Int)) 72 (ticked 20 255) rfl (by as_aux_lemma => kernel_rfl) rfl rfl rfl rfl rfl (by exact y_k rfl rfl (fun _ => by kernel_rfl)) ?_
        refine a_y_on (i := 8) (v := .int .i64 (at_ + ((cutS t).size : Int))) 72 (ticked 20 511) rfl (by as_aux_lemma => kernel_rfl) rfl rfl rfl rfl rfl (by exact y_add (r := at_ + ((cutS t).size : Int)) rfl rfl rfl (by omega)) ?_
        refine e_by ((k : Int) ≥ at_ + ((cutS t).size : Int)) (fun h8 => ?_) (fun h8 => ?_)
        ·
          refine a_y_on (i := 9) (v := .bool true) 72 (ticked 20 1023) rfl (by as_aux_lemma => kernel_rfl) rfl rfl rfl rfl rfl (by exact y_t (y_k (v := .bool (decide ((k : Int) ≥ at_ + ((cutS t).size : Int)))) rfl rfl (fun _ => by kernel_rfl)) h8) ?_
          refine a_y (i := 10) (v := .bool true) (ticked 20 2047) rfl (by as_aux_lemma => kernel_rfl) rfl rfl rfl (by exact y_pick rfl rfl) ?_
          refine a_y (i := 11) (v := .bool true) (ticked 20 4095) rfl (by as_aux_lemma => kernel_rfl) rfl rfl rfl (by exact y_mv rfl) ?_
          refine a_y_on (i := 12) (v := .string ((writeF (cutS s) at_ (cutS t)).1)) 80 (ticked 20 8191) rfl (by as_aux_lemma => kernel_rfl) rfl rfl rfl rfl rfl (by exact y_mv rfl) ?_
          refine a_y_on (i := 13) (v := .int .i64 (k : Int)) 80 (ticked 20 16383) rfl (by as_aux_lemma => kernel_rfl) rfl rfl rfl rfl rfl (by exact y_mv rfl) ?_
          obtain ⟨x3, hb3⟩ : ∃ x, ((writeF (cutS s) at_ (cutS t)).1)[k]? = some x := ⟨_, getElem?_pos ((writeF (cutS s) at_ (cutS t)).1) k (by omega)⟩
          refine a_y_on (i := 14) (v := .int .u8 (x3.toNat : Int)) 80 (ticked 20 32767) rfl (by as_aux_lemma => kernel_rfl) rfl rfl rfl rfl rfl (by exact y_sidx k x3 rfl rfl (rfl) hb3 Tryd.underlying9) ?_
          refine a_y_on (i := 15) (v := .string (cutS s)) 80 (ticked 20 65535) rfl (by as_aux_lemma => kernel_rfl) rfl rfl rfl rfl rfl (by exact y_mv rfl) ?_
          refine a_y_on (i := 16) (v := .int .i64 (k : Int)) 80 (ticked 20 131071) rfl (by as_aux_lemma => kernel_rfl) rfl rfl rfl rfl rfl (by exact y_mv rfl) ?_
          obtain ⟨x4, hb4⟩ : ∃ x, (cutS s)[k]? = some x := ⟨_, getElem?_pos (cutS s) k (by omega)⟩
          refine a_y_on (i := 17) (v := .int .u8 (x4.toNat : Int)) 80 (ticked 20 262143) rfl (by as_aux_lemma => kernel_rfl) rfl rfl rfl rfl rfl (by exact y_sidx k x4 rfl rfl (rfl) hb4 Tryd.underlying9) ?_
          have h9 : (x3.toNat : Int) = (x4.toNat : Int) := back_eq h1 hb3 hb4 (by omega)
          refine a_y_on (i := 18) (v := .bool false) 80 (ticked 20 524287) rfl (by as_aux_lemma => kernel_rfl) rfl rfl rfl rfl rfl (by exact y_nt (y_k (v := .bool (!decide ((x3.toNat : Int) = (x4.toNat : Int)))) rfl rfl (fun _ => by kernel_rfl)) h9) ?_
          refine a_y (i := 19) (v := .bool false) (ticked 20 1048575) rfl (by as_aux_lemma => kernel_rfl) rfl rfl rfl (by exact y_pick rfl rfl) ?_
          refine a_done (by as_aux_lemma => kernel_rfl) ?_
          refine q_then ?_
          refine c_false rfl ?_
          refine c_skip ?_
          refine q_block ?_
          refine q_then ?_
          refine c_region ?_
          refine st rfl (o_y (v := .int .i64 (k : Int)) (y_mv rfl) rfl rfl rfl ?_)
          refine st rfl (o_y (v := .int .i64 ((k : Int) + 1)) (y_add (r := (k : Int) + 1) rfl rfl rfl (by omega)) rfl rfl rfl ?_)
          refine st rfl (o_y (v := .int .i64 ((k : Int) + 1)) (y_as rfl) rfl rfl rfl ?_)
          refine s_nil ?_
          refine q_then ?_
          refine c_next [] [0] (k + 1) ?_ ?_ ?_ (by rfl) (by rfl)
          · exact (show (k + 1) ≤ (cutS s).size from by omega)
          · show (cutS s).size - (k + 1) < (cutS s).size - k; omega
          · exact (.cons rfl rfl (.cons rfl rfl (.cons rfl rfl (.cons rfl rfl (.cons rfl rfl (.cons rfl (show (.int .i64 ((k : Int) + 1) : Value) = .int .i64 ((k + 1) : Int) from by first | rfl | (congr 1; omega) | (congr 1; simp; done) | (congr 1; simp; omega)) .nil))))))
        ·
          refine a_y_on (i := 9) (v := .bool false) 72 (ticked 20 1023) rfl (by as_aux_lemma => kernel_rfl) rfl rfl rfl rfl rfl (by exact y_f (y_k (v := .bool (decide ((k : Int) ≥ at_ + ((cutS t).size : Int)))) rfl rfl (fun _ => by kernel_rfl)) h8) ?_
          refine a_y (i := 10) (v := .bool false) (ticked 20 2047) rfl (by as_aux_lemma => kernel_rfl) rfl rfl rfl (by exact y_pick rfl rfl) ?_
          refine a_y (i := 11) (v := .bool false) (ticked 20 4095) rfl (by as_aux_lemma => kernel_rfl) rfl rfl rfl (by exact y_mv rfl) ?_
          refine a_off (i := 12) 80 (ticked 20 8191) rfl (by as_aux_lemma => kernel_rfl) rfl rfl rfl rfl rfl rfl ?_
          refine a_off (i := 13) 80 (ticked 20 16383) rfl (by as_aux_lemma => kernel_rfl) rfl rfl rfl rfl rfl rfl ?_
          refine a_off (i := 14) 80 (ticked 20 32767) rfl (by as_aux_lemma => kernel_rfl) rfl rfl rfl rfl rfl rfl ?_
          refine a_off (i := 15) 80 (ticked 20 65535) rfl (by as_aux_lemma => kernel_rfl) rfl rfl rfl rfl rfl rfl ?_
          refine a_off (i := 16) 80 (ticked 20 131071) rfl (by as_aux_lemma => kernel_rfl) rfl rfl rfl rfl rfl rfl ?_
          refine a_off (i := 17) 80 (ticked 20 262143) rfl (by as_aux_lemma => kernel_rfl) rfl rfl rfl rfl rfl rfl ?_
          refine a_off (i := 18) 80 (ticked 20 524287) rfl (by as_aux_lemma => kernel_rfl) rfl rfl rfl rfl rfl rfl ?_
          refine a_y (i := 19) (v := .bool false) (ticked 20 1048575) rfl (by as_aux_lemma => kernel_rfl) rfl rfl rfl (by exact y_pick rfl rfl) ?_
          refine a_done (by as_aux_lemma => kernel_rfl) ?_
          refine q_then ?_
          refine c_false rfl ?_
          refine c_skip ?_
          refine q_block ?_
          refine q_then ?_
          refine c_region ?_
          refine st rfl (o_y (v := .int .i64 (k : Int)) (y_mv rfl) rfl rfl rfl ?_)
          refine st rfl (o_y (v := .int .i64 ((k : Int) + 1)) (y_add (r := (k : Int) + 1) rfl rfl rfl (by omega)) rfl rfl rfl ?_)
          refine st rfl (o_y (v := .int .i64 ((k : Int) + 1)) (y_as rfl) rfl rfl rfl ?_)
          refine s_nil ?_
          refine q_then ?_
          refine c_next [] [0] (k + 1) ?_ ?_ ?_ (by rfl) (by rfl)
          · exact (show (k + 1) ≤ (cutS s).size from by omega)
          · show (cutS s).size - (k + 1) < (cutS s).size - k; omega
          · exact (.cons rfl rfl (.cons rfl rfl (.cons rfl rfl (.cons rfl rfl (.cons rfl rfl (.cons rfl (show (.int .i64 ((k : Int) + 1) : Value) = .int .i64 ((k + 1) : Int) from by first | rfl | (congr 1; omega) | (congr 1; simp; done) | (congr 1; simp; omega)) .nil))))))
    ·
      refine st rfl (o_y (v := .bool false) (y_f (y_k (v := .bool (decide ((k : Int) < ((cutS s).size : Int)))) rfl rfl (fun _ => by kernel_rfl)) h5) rfl rfl rfl ?_)
      refine s_nil ?_
      refine q_then ?_
      refine c_false rfl ?_
      refine c_exit ?_
      refine q_then_exit ?_
      refine q_then_exit ?_
      refine q_block_here ?_
      refine q_then ?_
      refine c_seq ?_
      refine c_region ?_
      refine st rfl (o_y (v := .bool true) (y_mv rfl) rfl rfl rfl ?_)
      refine st rfl (o_y (v := .bool true) (y_as rfl) rfl rfl rfl ?_)
      refine s_nil ?_
      refine q_then ?_
      refine c_ret ?_
      refine c_fin (I' := []) [] [0] rfl (.tmp rfl .nil) rfl rfl rfl ?_
      exact ⟨rfl, rfl, rfl⟩
  ·
    refine st rfl (o_y (v := .bool true) (y_nf (y_k (v := .bool (!decide ((writeF (cutS s) at_ (cutS t)).2 = 0))) rfl rfl (fun _ => by kernel_rfl)) h1) rfl rfl rfl ?_)
    refine s_nil ?_
    refine q_then ?_
    refine c_true rfl ?_
    refine c_seq ?_
    refine c_region ?_
    refine st rfl (o_y (v := .bool true) (y_mv rfl) rfl rfl rfl ?_)
    refine st rfl (o_y (v := .bool true) (y_mv rfl) rfl rfl rfl ?_)
    refine st_on 28 rfl rfl rfl (o_y (v := .int .i64 ((writeF (cutS s) at_ (cutS t)).2)) (y_mv rfl) rfl rfl rfl ?_)
    have h10 : (writeF (cutS s) at_ (cutS t)).2 = 90 := congrArg Prod.snd (w4 h1)
    refine st_on 28 rfl rfl rfl (o_y (v := .bool true) (y_t (y_k (v := .bool (decide ((writeF (cutS s) at_ (cutS t)).2 = 90))) rfl rfl (fun _ => by kernel_rfl)) h10) rfl rfl rfl ?_)
    refine st rfl (o_y (v := .bool true) (y_pick rfl rfl) rfl rfl rfl ?_)
    refine st rfl (o_y (v := .bool true) (y_mv rfl) rfl rfl rfl ?_)
    refine st_on 32 rfl rfl rfl (o_y (v := .string ((writeF (cutS s) at_ (cutS t)).1)) (y_mv rfl) rfl rfl rfl ?_)
    have h11 : (writeF (cutS s) at_ (cutS t)).1 = (⟨#[]⟩ : ByteArray) := congrArg Prod.fst (w4 h1)
    refine st_on 32 rfl rfl rfl (o_y (v := .bool true) (y_b (y_k (v := .bool (((writeF (cutS s) at_ (cutS t)).1).toList == (⟨#[]⟩ : ByteArray).toList)) rfl rfl (fun _ => by kernel_rfl)) (str_t h11)) rfl rfl rfl ?_)
    refine st rfl (o_y (v := .bool true) (y_pick rfl rfl) rfl rfl rfl ?_)
    refine st rfl (o_y (v := .bool true) (y_as rfl) rfl rfl rfl ?_)
    refine s_nil ?_
    refine q_then ?_
    refine c_ret ?_
    refine q_then_ret ?_
    refine c_fin (I' := []) [] [0] rfl (.tmp rfl .nil) rfl rfl rfl ?_
    exact ⟨rfl, rfl, rfl⟩
end Go.Proofs.YthjcekfehicjhaaDoor
