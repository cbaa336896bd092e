/- The laws of chapter 9 (file), walked over the given program; no condition but what stands in each theorem: part KParts. -/
import Derived.Test.YthjcekfehicjhaaDoorRJ
set_option linter.unusedVariables false
set_option linter.unusedSimpArgs false
set_option maxRecDepth 100000
set_option maxHeartbeats 8000000
namespace Go.Proofs.YthjcekfehicjhaaDoor
open Go Go.Sl Go.RowKit Go.Extern.Stop Go.Stop Go.Extern
theorem parts_w {s t u : ByteArray} {at_ : Int} (ha : -9223372036854775808 ≤ at_ ∧ at_ ≤ 9223372036854775807) (hs : s.size ≤ 1010) (ht : t.size ≤ 1010) :
    ((writeF s at_ (t ++ u)).2 = 0 → (writeF (writeF s at_ t).1 (IntKind.i64.wrap (at_ + (t.size : Int))) u).2 = 0 ∧ (writeF s at_ (t ++ u)).1 = (writeF (writeF s at_ t).1 (IntKind.i64.wrap (at_ + (t.size : Int))) u).1) ∧
    (¬ (writeF s at_ (t ++ u)).2 = 0 → (writeF s at_ t).2 = 0 → ¬ (writeF (writeF s at_ t).1 (IntKind.i64.wrap (at_ + (t.size : Int))) u).2 = 0) := by
  constructor
  · intro h
    obtain ⟨h1, h2, h3⟩ := parts_ok h
    obtain ⟨hc, _⟩ := writeF_ok h1
    rw [wrap_in (by omega) (by omega)]
    exact ⟨h2, h3⟩
  · intro h h1
    obtain ⟨hc, _⟩ := writeF_ok h1
    rw [wrap_in (by omega) (by omega)]
    exact parts_no h h1
theorem FileParts_ (s : ByteArray) (t : ByteArray) (u : ByteArray) (at_ : Int) (zs : s.size ≤ 9223372036854775807) (zt : t.size ≤ 9223372036854775807) (zu : u.size ≤ 9223372036854775807) (rat_ : -9223372036854775808 ≤ at_ ∧ at_ ≤ 9223372036854775807) : Con Tryd.prog 5 [.string s, .string t, .string u, .int .i64 at_] [] [cellsAt 0 0 [.iface 73 (.agg #[.pointer (some ⟨1, 42, none⟩)])]] (fun v L' I' => v = .bool true ∧ L' = [] ∧ I' = []) := by
  have cs := cutS_size s
  have ct := cutS_size t
  have cu := cutS_size u
  have w1 := writeF_size (cutS s) (cutS t) at_
  have w6 := ByteArray.size_append (a := cutS t) (b := cutS u)
  have w7 := parts_w (s := cutS s) (t := cutS t) (u := cutS u) rat_ cs ct
  have w8 := parts_ok (s := cutS s) (t := cutS t) (u := cutS u) (at_ := at_)
  refine fn_of Tryd.func5 rfl Tryd.ntmps5 (by kernel_rfl) rfl (fun C => ?_)
  refine c_seq ?_
  refine c_region ?_
  refine st rfl (o_y (v := .bool false) (y_as rfl) rfl rfl rfl ?_)
  refine s_nil ?_
  refine q_then ?_
  refine c_seq ?_
  refine c_region ?_
  refine st rfl (o_call [] [0] shown_ rfl rfl rfl rfl rfl rfl (fun v L' I' hq1 => ?_))
  obtain ⟨rfl, rfl, rfl⟩ := hq1
  refine st rfl (o_y (v := .bool true) (y_as rfl) rfl rfl rfl ?_)
  refine s_nil ?_
  refine q_then ?_
  refine c_seq ?_
  refine c_region ?_
  refine st rfl (o_y (v := .string s) (y_mv rfl) rfl rfl rfl ?_)
  refine st rfl (o_call [] [] (cut_ s (by assumption)) rfl rfl rfl rfl rfl rfl (fun v L' I' hq2 => ?_))
  obtain ⟨rfl, rfl, rfl⟩ := hq2
  refine st rfl (o_y (v := .string (cutS s)) (y_as rfl) rfl rfl rfl ?_)
  refine s_nil ?_
  refine q_then ?_
  refine c_seq ?_
  refine c_region ?_
  refine st rfl (o_y (v := .string t) (y_mv rfl) rfl rfl rfl ?_)
  refine st rfl (o_call [] [] (cut_ t (by assumption)) rfl rfl rfl rfl rfl rfl (fun v L' I' hq3 => ?_))
  obtain ⟨rfl, rfl, rfl⟩ := hq3
  refine st rfl (o_y (v := .string (cutS t)) (y_as rfl) rfl rfl rfl ?_)
  refine s_nil ?_
  refine q_then ?_
  refine c_seq ?_
  refine c_region ?_
  refine st rfl (o_y (v := .string u) (y_mv rfl) rfl rfl rfl ?_)
  refine st rfl (o_call [] [] (cut_ u (by assumption)) rfl rfl rfl rfl rfl rfl (fun v L' I' hq4 => ?_))
  obtain ⟨rfl, rfl, rfl⟩ := hq4
  refine st rfl (o_y (v := .string (cutS u)) (y_as rfl) rfl rfl rfl ?_)
  refine s_nil ?_
  refine q_then ?_
  refine c_seq ?_
  refine c_region ?_
  refine st rfl (o_y (v := .string (cutS s)) (y_mv rfl) rfl rfl rfl ?_)
  refine st rfl (o_y (v := .int .i64 at_) (y_mv rfl) rfl rfl rfl ?_)
  refine st rfl (o_y (v := .string (cutS t)) (y_mv rfl) rfl rfl rfl ?_)
  refine st rfl (o_y (v := .string (cutS u)) (y_mv rfl) rfl rfl rfl ?_)
  refine st rfl (o_y (v := .string ((cutS t) ++ (cutS u))) (y_cat (s := cutS t) (u := cutS u) rfl rfl (by omega)) rfl rfl rfl ?_)
  refine st rfl (o_call [] [0] (Write_ (cutS s) (by first | omega | decide | assumption) at_ ((cutS t) ++ (cutS u)) (by first | omega | decide | assumption | (rw [ByteArray.size_append]; omega))) rfl rfl rfl rfl rfl rfl (fun v L' I' hq5 => ?_))
  obtain ⟨rfl, rfl, rfl⟩ := hq5
  refine st rfl (o_y (v := .tuple #[.string ((writeF (cutS s) at_ ((cutS t) ++ (cutS u))).1), .int .i64 ((writeF (cutS s) at_ ((cutS t) ++ (cutS u))).2)]) (y_mv rfl) rfl rfl rfl ?_)
  refine st rfl (o_y (v := .string ((writeF (cutS s) at_ ((cutS t) ++ (cutS u))).1)) (y_k rfl rfl (fun _ => by kernel_rfl)) rfl rfl rfl ?_)
  refine st rfl (o_y (v := .int .i64 ((writeF (cutS s) at_ ((cutS t) ++ (cutS u))).2)) (y_k rfl rfl (fun _ => by kernel_rfl)) rfl rfl rfl ?_)
  refine st rfl (o_y (v := .string ((writeF (cutS s) at_ ((cutS t) ++ (cutS u))).1)) (y_as rfl) rfl rfl rfl ?_)
  refine st rfl (o_y (v := .int .i64 ((writeF (cutS s) at_ ((cutS t) ++ (cutS u))).2)) (y_as rfl) rfl rfl rfl ?_)
  refine s_nil ?_
  refine q_then ?_
  refine c_seq ?_
  refine c_region ?_
  refine st rfl (o_y (v := .string (cutS s)) (y_mv rfl) rfl rfl rfl ?_)
  refine st rfl (o_y (v := .int .i64 at_) (y_mv rfl) rfl rfl rfl ?_)
  refine st rfl (o_y (v := .string (cutS t)) (y_mv rfl) rfl rfl rfl ?_)
  refine st rfl (o_call [] [0] (Write_ (cutS s) (by first | omega | decide | assumption) at_ (cutS t) (by first | omega | decide | assumption | (rw [ByteArray.size_append]; omega))) rfl rfl rfl rfl rfl rfl (fun v L' I' hq6 => ?_))
  obtain ⟨rfl, rfl, rfl⟩ := hq6
  refine st rfl (o_y (v := .tuple #[.string ((writeF (cutS s) at_ (cutS t)).1), .int .i64 ((writeF (cutS s) at_ (cutS t)).2)]) (y_mv rfl) rfl rfl rfl ?_)
  refine st rfl (o_y (v := .string ((writeF (cutS s) at_ (cutS t)).1)) (y_k rfl rfl (fun _ => by kernel_rfl)) rfl rfl rfl ?_)
  refine st rfl (o_y (v := .int .i64 ((writeF (cutS s) at_ (cutS t)).2)) (y_k rfl rfl (fun _ => by kernel_rfl)) rfl rfl rfl ?_)
  refine st rfl (o_y (v := .string ((writeF (cutS s) at_ (cutS t)).1)) (y_as rfl) rfl rfl rfl ?_)
  refine st rfl (o_y (v := .int .i64 ((writeF (cutS s) at_ (cutS t)).2)) (y_as rfl) rfl rfl rfl ?_)
  refine s_nil ?_
  refine q_then ?_
  refine c_seq ?_
  refine c_region ?_
  refine st rfl (o_y (v := .string ((writeF (cutS s) at_ (cutS t)).1)) (y_mv rfl) rfl rfl rfl ?_)
  refine st rfl (o_y (v := .int .i64 at_) (y_mv rfl) rfl rfl rfl ?_)
  refine st rfl (o_y (v := .string (cutS t)) (y_mv rfl) rfl rfl rfl ?_)
  refine st rfl (o_y (v := .int .i64 ((cutS t).size : Int)) (y_k rfl rfl (fun _ => by kernel_rfl)) rfl rfl rfl ?_)
  refine st rfl (o_y (v := .int .i64 (IntKind.i64.wrap (at_ + ((cutS t).size : Int)))) (y_addw (p := at_) (q := ((cutS t).size : Int)) rfl rfl) rfl rfl rfl ?_)
  refine st rfl (o_y (v := .string (cutS u)) (y_mv rfl) rfl rfl rfl ?_)
  refine st rfl (o_call [] [0] (Write_ ((writeF (cutS s) at_ (cutS t)).1) (by first | omega | decide | assumption) (IntKind.i64.wrap (at_ + ((cutS t).size : Int))) (cutS u) (by first | omega | decide | assumption | (rw [ByteArray.size_append]; omega))) rfl rfl rfl rfl rfl rfl (fun v L' I' hq7 => ?_))
  obtain ⟨rfl, rfl, rfl⟩ := hq7
  refine st rfl (o_y (v := .tuple #[.string ((writeF ((writeF (cutS s) at_ (cutS t)).1) (IntKind.i64.wrap (at_ + ((cutS t).size : Int))) (cutS u)).1), .int .i64 ((writeF ((writeF (cutS s) at_ (cutS t)).1) (IntKind.i64.wrap (at_ + ((cutS t).size : Int))) (cutS u)).2)]) (y_mv rfl) rfl rfl rfl ?_)
  refine st rfl (o_y (v := .string ((writeF ((writeF (cutS s) at_ (cutS t)).1) (IntKind.i64.wrap (at_ + ((cutS t).size : Int))) (cutS u)).1)) (y_k rfl rfl (fun _ => by kernel_rfl)) rfl rfl rfl ?_)
  refine st rfl (o_y (v := .int .i64 ((writeF ((writeF (cutS s) at_ (cutS t)).1) (IntKind.i64.wrap (at_ + ((cutS t).size : Int))) (cutS u)).2)) (y_k rfl rfl (fun _ => by kernel_rfl)) rfl rfl rfl ?_)
  refine st rfl (o_y (v := .string ((writeF ((writeF (cutS s) at_ (cutS t)).1) (IntKind.i64.wrap (at_ + ((cutS t).size : Int))) (cutS u)).1)) (y_as rfl) rfl rfl rfl ?_)
  refine st rfl (o_y (v := .int .i64 ((writeF ((writeF (cutS s) at_ (cutS t)).1) (IntKind.i64.wrap (at_ + ((cutS t).size : Int))) (cutS u)).2)) (y_as rfl) rfl rfl rfl ?_)
  refine s_nil ?_
  refine q_then ?_
  refine c_seq ?_
  refine c_seq ?_
  refine c_region ?_
  refine st rfl (o_y (v := .int .i64 ((writeF (cutS s) at_ ((cutS t) ++ (cutS u))).2)) (y_mv rfl) rfl rfl rfl ?_)
  refine e_by ((writeF (cutS s) at_ ((cutS t) ++ (cutS u))).2 = 0) (fun h1 => ?_) (fun h1 => ?_)
  ·
    refine st rfl (o_y (v := .bool false) (y_nt (y_k (v := .bool (!decide ((writeF (cutS s) at_ ((cutS t) ++ (cutS u))).2 = 0))) rfl rfl (fun _ => by kernel_rfl)) h1) rfl rfl rfl ?_)
    refine s_nil ?_
    refine q_then ?_
    refine c_false rfl ?_
    refine c_skip ?_
    refine q_then ?_
    refine c_seq ?_
    refine c_region ?_
    refine st rfl (o_y (v := .bool true) (y_mv rfl) rfl rfl rfl ?_)
    refine st rfl (o_y (v := .bool true) (y_mv rfl) rfl rfl rfl ?_)
    refine st_on 61 rfl rfl rfl (o_y (v := .int .i64 ((writeF (cutS s) at_ (cutS t)).2)) (y_mv rfl) rfl rfl rfl ?_)
    have h2 : (writeF (cutS s) at_ (cutS t)).2 = 0 := (w8 h1).1
    refine st_on 61 rfl rfl rfl (o_y (v := .bool true) (y_t (y_k (v := .bool (decide ((writeF (cutS s) at_ (cutS t)).2 = 0))) rfl rfl (fun _ => by kernel_rfl)) h2) rfl rfl rfl ?_)
    refine st rfl (o_y (v := .bool true) (y_pick rfl rfl) rfl rfl rfl ?_)
    refine st rfl (o_y (v := .bool true) (y_mv rfl) rfl rfl rfl ?_)
    refine st_on 65 rfl rfl rfl (o_y (v := .int .i64 ((writeF ((writeF (cutS s) at_ (cutS t)).1) (IntKind.i64.wrap (at_ + ((cutS t).size : Int))) (cutS u)).2)) (y_mv rfl) rfl rfl rfl ?_)
    have h3 : (writeF ((writeF (cutS s) at_ (cutS t)).1) (IntKind.i64.wrap (at_ + ((cutS t).size : Int))) (cutS u)).2 = 0 := (w7.1 h1).1
    refine st_on 65 rfl rfl rfl (o_y (v := .bool true) (y_t (y_k (v := .bool (decide ((writeF ((writeF (cutS s) at_ (cutS t)).1) (IntKind.i64.wrap (at_ + ((cutS t).size : Int))) (cutS u)).2 = 0))) rfl rfl (fun _ => by kernel_rfl)) h3) rfl rfl rfl ?_)
    refine st rfl (o_y (v := .bool true) (y_pick rfl rfl) rfl rfl rfl ?_)
    refine st rfl (o_y (v := .bool true) (y_mv rfl) rfl rfl rfl ?_)
    refine st_on 69 rfl rfl rfl (o_y (v := .string ((writeF (cutS s) at_ ((cutS t) ++ (cutS u))).1)) (y_mv rfl) rfl rfl rfl ?_)
    refine st_on 69 rfl rfl rfl (o_y (v := .string ((writeF ((writeF (cutS s) at_ (cutS t)).1) (IntKind.i64.wrap (at_ + ((cutS t).size : Int))) (cutS u)).1)) (y_mv rfl) rfl rfl rfl ?_)
    have h4 : (writeF (cutS s) at_ ((cutS t) ++ (cutS u))).1 = (writeF ((writeF (cutS s) at_ (cutS t)).1) (IntKind.i64.wrap (at_ + ((cutS t).size : Int))) (cutS u)).1 := (w7.1 h1).2
    refine st_on 69 rfl rfl rfl (o_y (v := .bool true) (y_b (y_k (v := .bool (((writeF (cutS s) at_ ((cutS t) ++ (cutS u))).1).toList == ((writeF ((writeF (cutS s) at_ (cutS t)).1) (IntKind.i64.wrap (at_ + ((cutS t).size : Int))) (cutS u)).1).toList)) rfl rfl (fun _ => by kernel_rfl)) (str_t h4)) rfl rfl rfl ?_)
    refine st rfl (o_y (v := .bool true) (y_pick rfl rfl) rfl rfl rfl ?_)
    refine st rfl (o_y (v := .bool true) (y_as rfl) rfl rfl rfl ?_)
    refine s_nil ?_
    refine q_then ?_
    refine c_ret ?_
    refine c_fin (I' := []) [] [0] rfl (.tmp rfl .nil) rfl rfl rfl ?_
    exact ⟨rfl, rfl, rfl⟩
  ·
    refine st rfl (o_y (v := .bool true) (y_nf (y_k (v := .bool (!decide ((writeF (cutS s) at_ ((cutS t) ++ (cutS u))).2 = 0))) rfl rfl (fun _ => by kernel_rfl)) h1) rfl rfl rfl ?_)
    refine s_nil ?_
    refine q_then ?_
    refine c_true rfl ?_
    refine c_seq ?_
    refine c_region ?_
    refine st rfl (o_y (v := .bool true) (y_mv rfl) rfl rfl rfl ?_)
    refine st rfl (o_y (v := .bool true) (y_mv rfl) rfl rfl rfl ?_)
    refine st_on 52 rfl rfl rfl (o_y (v := .int .i64 ((writeF (cutS s) at_ (cutS t)).2)) (y_mv rfl) rfl rfl rfl ?_)
    refine e_by ((writeF (cutS s) at_ (cutS t)).2 = 0) (fun h5 => ?_) (fun h5 => ?_)
    ·
      refine st_on 52 rfl rfl rfl (o_y (v := .bool false) (y_nt (y_k (v := .bool (!decide ((writeF (cutS s) at_ (cutS t)).2 = 0))) rfl rfl (fun _ => by kernel_rfl)) h5) rfl rfl rfl ?_)
      refine st_on 52 rfl rfl rfl (o_y (v := .bool false) (y_mv rfl) rfl rfl rfl ?_)
      refine st_on 55 rfl rfl rfl (o_y (v := .int .i64 ((writeF ((writeF (cutS s) at_ (cutS t)).1) (IntKind.i64.wrap (at_ + ((cutS t).size : Int))) (cutS u)).2)) (y_mv rfl) rfl rfl rfl ?_)
      have h6 : ¬ ((writeF ((writeF (cutS s) at_ (cutS t)).1) (IntKind.i64.wrap (at_ + ((cutS t).size : Int))) (cutS u)).2 = 0) := w7.2 h1 h5
      refine st_on 55 rfl rfl rfl (o_y (v := .bool true) (y_nf (y_k (v := .bool (!decide ((writeF ((writeF (cutS s) at_ (cutS t)).1) (IntKind.i64.wrap (at_ + ((cutS t).size : Int))) (cutS u)).2 = 0))) rfl rfl (fun _ => by kernel_rfl)) h6) rfl rfl rfl ?_)
      refine st_on 52 rfl rfl rfl (o_y (v := .bool true) (y_pick rfl rfl) rfl rfl rfl ?_)
      refine st rfl (o_y (v := .bool true) (y_pick rfl rfl) rfl rfl rfl ?_)
      refine st rfl (o_y (v := .bool true) (y_as rfl) rfl rfl rfl ?_)
      refine s_nil ?_
      refine q_then ?_
      refine c_ret ?_
      refine q_then_ret ?_
      refine c_fin (I' := []) [] [0] rfl (.tmp rfl .nil) rfl rfl rfl ?_
      exact ⟨rfl, rfl, rfl⟩
    ·
      refine st_on 52 rfl rfl rfl (o_y (v := .bool true) (y_nf (y_k (v := .bool (!decide ((writeF (cutS s) at_ (cutS t)).2 = 0))) rfl rfl (fun _ => by kernel_rfl)) h5) rfl rfl rfl ?_)
      refine st_on 52 rfl rfl rfl (o_y (v := .bool true) (y_mv rfl) rfl rfl rfl ?_)
      refine st_off 55 rfl rfl rfl rfl rfl rfl ?_
      refine st_off 55 rfl rfl rfl rfl rfl rfl ?_
      refine st_on 52 rfl rfl rfl (o_y (v := .bool true) (y_pick rfl rfl) rfl rfl rfl ?_)
      refine st rfl (o_y (v := .bool true) (y_pick rfl rfl) rfl rfl rfl ?_)
      refine st rfl (o_y (v := .bool true) (y_as rfl) rfl rfl rfl ?_)
      refine s_nil ?_
      refine q_then ?_
      refine c_ret ?_
      refine q_then_ret ?_
      refine c_fin (I' := []) [] [0] rfl (.tmp rfl .nil) rfl rfl rfl ?_
      exact ⟨rfl, rfl, rfl⟩
end Go.Proofs.YthjcekfehicjhaaDoor
