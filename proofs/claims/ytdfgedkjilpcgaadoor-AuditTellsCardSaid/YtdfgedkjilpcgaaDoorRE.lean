/- The six laws of chapter 18 (audit), walked over the given program; no condition but what stands in each theorem: part E. -/
import Derived.Test.YtdfgedkjilpcgaaDoorRD
set_option linter.unusedVariables false
set_option linter.unusedSimpArgs false
set_option maxRecDepth 100000
set_option maxHeartbeats 8000000
namespace Go.Proofs.YtdfgedkjilpcgaaDoor
open Go Go.Sl Go.RowKit Go.Extern.Stop Go.Stop Go.Extern Go.Shelf
theorem isRight_ (x : Rec) : Con Tryd.prog 33 [.agg #[.int .i64 x.st, .int .i64 x.who, .int .i64 x.op, .int .i64 x.e, .int .i64 x.lab.lv, .int .u64 (x.lab.cs : Int), .int .i64 x.lab.ig]] [] [] (fun v L' I' => v = .bool (decide (recRight x)) ∧ L' = [] ∧ I' = []) := by
  refine fn_of Tryd.func33 rfl Tryd.ntmps33 (by kernel_rfl) rfl (fun C => ?_)
  refine c_seq ?_
  refine c_region ?_
  refine st rfl (o_box (cs := [.int .i64 x.st, .int .i64 x.who, .int .i64 x.op, .int .i64 x.e, .int .i64 x.lab.lv, .int .u64 (x.lab.cs : Int), .int .i64 x.lab.ig]) (T := 28) rfl rfl rfl rfl (fun _ => by kernel_rfl) (fun b1 => ?_))
  refine st rfl (o_y (v := .bool false) (y_as rfl) rfl rfl rfl ?_)
  refine s_nil ?_
  refine q_then ?_
  refine c_seq ?_
  refine c_region ?_
  refine st rfl (o_y (v := .pointer (some ⟨b1, 0, none⟩)) (y_k rfl rfl (fun _ => by kernel_rfl)) rfl rfl rfl ?_)
  refine st rfl (o_ld 0 rfl rfl rfl Tryd.underlying3 rfl rfl ?_)
  refine e_by (x.st ≥ 1) (fun h1 => ?_) (fun h1 => ?_)
  ·
    refine st rfl (o_y (v := .bool true) (y_t (y_k (v := .bool (decide (x.st ≥ 1))) rfl rfl (fun _ => by kernel_rfl)) h1) rfl rfl rfl ?_)
    refine st rfl (o_y (v := .bool true) (y_mv rfl) rfl rfl rfl ?_)
    refine st_on 6 rfl rfl rfl (o_y (v := .pointer (some ⟨b1, 0, none⟩)) (y_k rfl rfl (fun _ => by kernel_rfl)) rfl rfl rfl ?_)
    refine st_on 6 rfl rfl rfl (o_ld 0 rfl rfl rfl Tryd.underlying3 rfl rfl ?_)
    refine e_by (x.st ≤ 400) (fun h2 => ?_) (fun h2 => ?_)
    ·
      refine st_on 6 rfl rfl rfl (o_y (v := .bool true) (y_t (y_k (v := .bool (decide (x.st ≤ 400))) rfl rfl (fun _ => by kernel_rfl)) h2) rfl rfl rfl ?_)
      refine st rfl (o_y (v := .bool true) (y_pick rfl rfl) rfl rfl rfl ?_)
      refine st rfl (o_y (v := .bool true) (y_mv rfl) rfl rfl rfl ?_)
      refine st_on 11 rfl rfl rfl (o_y (v := .pointer (some ⟨b1, 1, none⟩)) (y_k rfl rfl (fun _ => by kernel_rfl)) rfl rfl rfl ?_)
      refine st_on 11 rfl rfl rfl (o_ld 0 rfl rfl rfl Tryd.underlying3 rfl rfl ?_)
      refine e_by (x.who ≥ 0) (fun h3 => ?_) (fun h3 => ?_)
      ·
        refine st_on 11 rfl rfl rfl (o_y (v := .bool true) (y_t (y_k (v := .bool (decide (x.who ≥ 0))) rfl rfl (fun _ => by kernel_rfl)) h3) rfl rfl rfl ?_)
        refine st rfl (o_y (v := .bool true) (y_pick rfl rfl) rfl rfl rfl ?_)
        refine st rfl (o_y (v := .bool true) (y_mv rfl) rfl rfl rfl ?_)
        refine st_on 16 rfl rfl rfl (o_y (v := .pointer (some ⟨b1, 1, none⟩)) (y_k rfl rfl (fun _ => by kernel_rfl)) rfl rfl rfl ?_)
        refine st_on 16 rfl rfl rfl (o_ld 0 rfl rfl rfl Tryd.underlying3 rfl rfl ?_)
        refine e_by (x.who < 8) (fun h4 => ?_) (fun h4 => ?_)
        ·
          refine st_on 16 rfl rfl rfl (o_y (v := .bool true) (y_t (y_k (v := .bool (decide (x.who < 8))) rfl rfl (fun _ => by kernel_rfl)) h4) rfl rfl rfl ?_)
          refine st rfl (o_y (v := .bool true) (y_pick rfl rfl) rfl rfl rfl ?_)
          refine st rfl (o_y (v := .bool true) (y_mv rfl) rfl rfl rfl ?_)
          refine st_on 21 rfl rfl rfl (o_y (v := .pointer (some ⟨b1, 2, none⟩)) (y_k rfl rfl (fun _ => by kernel_rfl)) rfl rfl rfl ?_)
          refine st_on 21 rfl rfl rfl (o_ld 0 rfl rfl rfl Tryd.underlying3 rfl rfl ?_)
          refine e_by (x.op ≥ 0) (fun h5 => ?_) (fun h5 => ?_)
          ·
            refine st_on 21 rfl rfl rfl (o_y (v := .bool true) (y_t (y_k (v := .bool (decide (x.op ≥ 0))) rfl rfl (fun _ => by kernel_rfl)) h5) rfl rfl rfl ?_)
            refine st rfl (o_y (v := .bool true) (y_pick rfl rfl) rfl rfl rfl ?_)
            refine st rfl (o_y (v := .bool true) (y_mv rfl) rfl rfl rfl ?_)
            refine st_on 26 rfl rfl rfl (o_y (v := .pointer (some ⟨b1, 2, none⟩)) (y_k rfl rfl (fun _ => by kernel_rfl)) rfl rfl rfl ?_)
            refine st_on 26 rfl rfl rfl (o_ld 0 rfl rfl rfl Tryd.underlying3 rfl rfl ?_)
            refine e_by (x.op ≤ 16) (fun h6 => ?_) (fun h6 => ?_)
            ·
              refine st_on 26 rfl rfl rfl (o_y (v := .bool true) (y_t (y_k (v := .bool (decide (x.op ≤ 16))) rfl rfl (fun _ => by kernel_rfl)) h6) rfl rfl rfl ?_)
              refine st rfl (o_y (v := .bool true) (y_pick rfl rfl) rfl rfl rfl ?_)
              refine st rfl (o_y (v := .bool true) (y_mv rfl) rfl rfl rfl ?_)
              refine st_on 31 rfl rfl rfl (o_y (v := .pointer (some ⟨b1, 3, none⟩)) (y_k rfl rfl (fun _ => by kernel_rfl)) rfl rfl rfl ?_)
              refine st_on 31 rfl rfl rfl (o_ld 0 rfl rfl rfl Tryd.underlying23 rfl rfl ?_)
              refine e_by (x.e ≥ 0) (fun h7 => ?_) (fun h7 => ?_)
              ·
                refine st_on 31 rfl rfl rfl (o_y (v := .bool true) (y_t (y_k (v := .bool (decide (x.e ≥ 0))) rfl rfl (fun _ => by kernel_rfl)) h7) rfl rfl rfl ?_)
                refine st rfl (o_y (v := .bool true) (y_pick rfl rfl) rfl rfl rfl ?_)
                refine st rfl (o_y (v := .bool true) (y_mv rfl) rfl rfl rfl ?_)
                refine st_on 36 rfl rfl rfl (o_y (v := .pointer (some ⟨b1, 3, none⟩)) (y_k rfl rfl (fun _ => by kernel_rfl)) rfl rfl rfl ?_)
                refine st_on 36 rfl rfl rfl (o_ld 0 rfl rfl rfl Tryd.underlying23 rfl rfl ?_)
                refine e_by (x.e ≤ 65535) (fun h8 => ?_) (fun h8 => ?_)
                ·
                  refine st_on 36 rfl rfl rfl (o_y (v := .bool true) (y_t (y_k (v := .bool (decide (x.e ≤ 65535))) rfl rfl (fun _ => by kernel_rfl)) h8) rfl rfl rfl ?_)
                  refine st rfl (o_y (v := .bool true) (y_pick rfl rfl) rfl rfl rfl ?_)
                  refine st rfl (o_y (v := .bool true) (y_mv rfl) rfl rfl rfl ?_)
                  refine st_on 41 rfl rfl rfl (o_y (v := .pointer (some ⟨b1, 4, none⟩)) (y_k rfl rfl (fun _ => by kernel_rfl)) rfl rfl rfl ?_)
                  refine st_on 41 rfl rfl rfl (o_ldn 0 3 rfl rfl rfl rfl Tryd.underlying26 rfl (by kernel_rfl) (by kernel_rfl) rfl ?_)
                  refine st_on 41 rfl rfl rfl (o_call [] [] (labRight_ x.lab) rfl rfl rfl rfl rfl rfl (fun v L' I' hq1 => ?_))
                  obtain ⟨hv1, rfl, rfl⟩ := hq1
                  refine e_by (labRight x.lab) (fun h9 => ?_) (fun h9 => ?_)
                  ·
                    obtain rfl : v = .bool true := by rw [hv1, decide_eq_true h9]
                    refine st rfl (o_y (v := .bool true) (y_pick rfl rfl) rfl rfl rfl ?_)
                    refine st rfl (o_y (v := .bool true) (y_as rfl) rfl rfl rfl ?_)
                    refine s_nil ?_
                    refine q_then ?_
                    refine c_ret ?_
                    refine c_fin (I' := []) [] [] rfl (.tmp rfl .nil) rfl rfl rfl ?_
                    exact ⟨by show Value.bool _ = Value.bool _; congr 1; symm; first | exact decide_eq_true (by unfold recRight; first | omega | exact ⟨by omega, by omega, by omega, by omega, by omega, by omega, by omega, by omega, by assumption⟩ | (intro hh; exact absurd hh.2.2.2.2.2.2.2.2 (by assumption))) | exact decide_eq_false (by unfold recRight; first | omega | exact ⟨by omega, by omega, by omega, by omega, by omega, by omega, by omega, by omega, by assumption⟩ | (intro hh; exact absurd hh.2.2.2.2.2.2.2.2 (by assumption))), rfl, rfl⟩
                  ·
                    obtain rfl : v = .bool false := by rw [hv1, decide_eq_false h9]
                    refine st rfl (o_y (v := .bool false) (y_pick rfl rfl) rfl rfl rfl ?_)
                    refine st rfl (o_y (v := .bool false) (y_as rfl) rfl rfl rfl ?_)
                    refine s_nil ?_
                    refine q_then ?_
                    refine c_ret ?_
                    refine c_fin (I' := []) [] [] rfl (.tmp rfl .nil) rfl rfl rfl ?_
                    exact ⟨by show Value.bool _ = Value.bool _; congr 1; symm; first | exact decide_eq_true (by unfold recRight; first | omega | exact ⟨by omega, by omega, by omega, by omega, by omega, by omega, by omega, by omega, by assumption⟩ | (intro hh; exact absurd hh.2.2.2.2.2.2.2.2 (by assumption))) | exact decide_eq_false (by unfold recRight; first | omega | exact ⟨by omega, by omega, by omega, by omega, by omega, by omega, by omega, by omega, by assumption⟩ | (intro hh; exact absurd hh.2.2.2.2.2.2.2.2 (by assumption))), rfl, rfl⟩
                ·
                  refine st_on 36 rfl rfl rfl (o_y (v := .bool false) (y_f (y_k (v := .bool (decide (x.e ≤ 65535))) rfl rfl (fun _ => by kernel_rfl)) h8) rfl rfl rfl ?_)
                  refine st rfl (o_y (v := .bool false) (y_pick rfl rfl) rfl rfl rfl ?_)
                  refine st rfl (o_y (v := .bool false) (y_mv rfl) rfl rfl rfl ?_)
                  refine st_off 41 rfl rfl rfl rfl rfl rfl ?_
                  refine st_off 41 rfl rfl rfl rfl rfl rfl ?_
                  refine st_off 41 rfl rfl rfl rfl rfl rfl ?_
                  refine st rfl (o_y (v := .bool false) (y_pick rfl rfl) rfl rfl rfl ?_)
                  refine st rfl (o_y (v := .bool false) (y_as rfl) rfl rfl rfl ?_)
                  refine s_nil ?_
                  refine q_then ?_
                  refine c_ret ?_
                  refine c_fin (I' := []) [] [] rfl (.tmp rfl .nil) rfl rfl rfl ?_
                  exact ⟨by show Value.bool _ = Value.bool _; congr 1; symm; first | exact decide_eq_true (by unfold recRight; first | omega | exact ⟨by omega, by omega, by omega, by omega, by omega, by omega, by omega, by omega, by assumption⟩ | (intro hh; exact absurd hh.2.2.2.2.2.2.2.2 (by assumption))) | exact decide_eq_false (by unfold recRight; first | omega | exact ⟨by omega, by omega, by omega, by omega, by omega, by omega, by omega, by omega, by assumption⟩ | (intro hh; exact absurd hh.2.2.2.2.2.2.2.2 (by assumption))), rfl, rfl⟩
              ·
                refine st_on 31 rfl rfl rfl (o_y (v := .bool false) (y_f (y_k (v := .bool (decide (x.e ≥ 0))) rfl rfl (fun _ => by kernel_rfl)) h7) rfl rfl rfl ?_)
                refine st rfl (o_y (v := .bool false) (y_pick rfl rfl) rfl rfl rfl ?_)
                refine st rfl (o_y (v := .bool false) (y_mv rfl) rfl rfl rfl ?_)
                refine st_off 36 rfl rfl rfl rfl rfl rfl ?_
                refine st_off 36 rfl rfl rfl rfl rfl rfl ?_
                refine st_off 36 rfl rfl rfl rfl rfl rfl ?_
                refine st rfl (o_y (v := .bool false) (y_pick rfl rfl) rfl rfl rfl ?_)
                refine st rfl (o_y (v := .bool false) (y_mv rfl) rfl rfl rfl ?_)
                refine st_off 41 rfl rfl rfl rfl rfl rfl ?_
                refine st_off 41 rfl rfl rfl rfl rfl rfl ?_
                refine st_off 41 rfl rfl rfl rfl rfl rfl ?_
                refine st rfl (o_y (v := .bool false) (y_pick rfl rfl) rfl rfl rfl ?_)
                refine st rfl (o_y (v := .bool false) (y_as rfl) rfl rfl rfl ?_)
                refine s_nil ?_
                refine q_then ?_
                refine c_ret ?_
                refine c_fin (I' := []) [] [] rfl (.tmp rfl .nil) rfl rfl rfl ?_
                exact ⟨by show Value.bool _ = Value.bool _; congr 1; symm; first | exact decide_eq_true (by unfold recRight; first | omega | exact ⟨by omega, by omega, by omega, by omega, by omega, by omega, by omega, by omega, by assumption⟩ | (intro hh; exact absurd hh.2.2.2.2.2.2.2.2 (by assumption))) | exact decide_eq_false (by unfold recRight; first | omega | exact ⟨by omega, by omega, by omega, by omega, by omega, by omega, by omega, by omega, by assumption⟩ | (intro hh; exact absurd hh.2.2.2.2.2.2.2.2 (by assumption))), rfl, rfl⟩
            ·
              refine st_on 26 rfl rfl rfl (o_y (v := .bool false) (y_f (y_k (v := .bool (decide (x.op ≤ 16))) rfl rfl (fun _ => by kernel_rfl)) h6) rfl rfl rfl ?_)
              refine st rfl (o_y (v := .bool false) (y_pick rfl rfl) rfl rfl rfl ?_)
              refine st rfl (o_y (v := .bool false) (y_mv rfl) rfl rfl rfl ?_)
              refine st_off 31 rfl rfl rfl rfl rfl rfl ?_
              refine st_off 31 rfl rfl rfl rfl rfl rfl ?_
              refine st_off 31 rfl rfl rfl rfl rfl rfl ?_
              refine st rfl (o_y (v := .bool false) (y_pick rfl rfl) rfl rfl rfl ?_)
              refine st rfl (o_y (v := .bool false) (y_mv rfl) rfl rfl rfl ?_)
              refine st_off 36 rfl rfl rfl rfl rfl rfl ?_
              refine st_off 36 rfl rfl rfl rfl rfl rfl ?_
              refine st_off 36 rfl rfl rfl rfl rfl rfl ?_
              refine st rfl (o_y (v := .bool false) (y_pick rfl rfl) rfl rfl rfl ?_)
              refine st rfl (o_y (v := .bool false) (y_mv rfl) rfl rfl rfl ?_)
              refine st_off 41 rfl rfl rfl rfl rfl rfl ?_
              refine st_off 41 rfl rfl rfl rfl rfl rfl ?_
              refine st_off 41 rfl rfl rfl rfl rfl rfl ?_
              refine st rfl (o_y (v := .bool false) (y_pick rfl rfl) rfl rfl rfl ?_)
              refine st rfl (o_y (v := .bool false) (y_as rfl) rfl rfl rfl ?_)
              refine s_nil ?_
              refine q_then ?_
              refine c_ret ?_
              refine c_fin (I' := []) [] [] rfl (.tmp rfl .nil) rfl rfl rfl ?_
              exact ⟨by show Value.bool _ = Value.bool _; congr 1; symm; first | exact decide_eq_true (by unfold recRight; first | omega | exact ⟨by omega, by omega, by omega, by omega, by omega, by omega, by omega, by omega, by assumption⟩ | (intro hh; exact absurd hh.2.2.2.2.2.2.2.2 (by assumption))) | exact decide_eq_false (by unfold recRight; first | omega | exact ⟨by omega, by omega, by omega, by omega, by omega, by omega, by omega, by omega, by assumption⟩ | (intro hh; exact absurd hh.2.2.2.2.2.2.2.2 (by assumption))), rfl, rfl⟩
          ·
            refine st_on 21 rfl rfl rfl (o_y (v := .bool false) (y_f (y_k (v := .bool (decide (x.op ≥ 0))) rfl rfl (fun _ => by kernel_rfl)) h5) rfl rfl rfl ?_)
            refine st rfl (o_y (v := .bool false) (y_pick rfl rfl) rfl rfl rfl ?_)
            refine st rfl (o_y (v := .bool false) (y_mv rfl) rfl rfl rfl ?_)
            refine st_off 26 rfl rfl rfl rfl rfl rfl ?_
            refine st_off 26 rfl rfl rfl rfl rfl rfl ?_
            refine st_off 26 rfl rfl rfl rfl rfl rfl ?_
            refine st rfl (o_y (v := .bool false) (y_pick rfl rfl) rfl rfl rfl ?_)
            refine st rfl (o_y (v := .bool false) (y_mv rfl) rfl rfl rfl ?_)
            refine st_off 31 rfl rfl rfl rfl rfl rfl ?_
            refine st_off 31 rfl rfl rfl rfl rfl rfl ?_
            refine st_off 31 rfl rfl rfl rfl rfl rfl ?_
            refine st rfl (o_y (v := .bool false) (y_pick rfl rfl) rfl rfl rfl ?_)
            refine st rfl (o_y (v := .bool false) (y_mv rfl) rfl rfl rfl ?_)
            refine st_off 36 rfl rfl rfl rfl rfl rfl ?_
            refine st_off 36 rfl rfl rfl rfl rfl rfl ?_
            refine st_off 36 rfl rfl rfl rfl rfl rfl ?_
            refine st rfl (o_y (v := .bool false) (y_pick rfl rfl) rfl rfl rfl ?_)
            refine st rfl (o_y (v := .bool false) (y_mv rfl) rfl rfl rfl ?_)
            refine st_off 41 rfl rfl rfl rfl rfl rfl ?_
            refine st_off 41 rfl rfl rfl rfl rfl rfl ?_
            refine st_off 41 rfl rfl rfl rfl rfl rfl ?_
            refine st rfl (o_y (v := .bool false) (y_pick rfl rfl) rfl rfl rfl ?_)
            refine st rfl (o_y (v := .bool false) (y_as rfl) rfl rfl rfl ?_)
            refine s_nil ?_
            refine q_then ?_
            refine c_ret ?_
            refine c_fin (I' := []) [] [] rfl (.tmp rfl .nil) rfl rfl rfl ?_
            exact ⟨by show Value.bool _ = Value.bool _; congr 1; symm; first | exact decide_eq_true (by unfold recRight; first | omega | exact ⟨by omega, by omega, by omega, by omega, by omega, by omega, by omega, by omega, by assumption⟩ | (intro hh; exact absurd hh.2.2.2.2.2.2.2.2 (by assumption))) | exact decide_eq_false (by unfold recRight; first | omega | exact ⟨by omega, by omega, by omega, by omega, by omega, by omega, by omega, by omega, by assumption⟩ | (intro hh; exact absurd hh.2.2.2.2.2.2.2.2 (by assumption))), rfl, rfl⟩
        ·
          refine st_on 16 rfl rfl rfl (o_y (v := .bool false) (y_f (y_k (v := .bool (decide (x.who < 8))) rfl rfl (fun _ => by kernel_rfl)) h4) rfl rfl rfl ?_)
          refine st rfl (o_y (v := .bool false) (y_pick rfl rfl) rfl rfl rfl ?_)
          refine st rfl (o_y (v := .bool false) (y_mv rfl) rfl rfl rfl ?_)
          refine st_off 21 rfl rfl rfl rfl rfl rfl ?_
          refine st_off 21 rfl rfl rfl rfl rfl rfl ?_
          refine st_off 21 rfl rfl rfl rfl rfl rfl ?_
          refine st rfl (o_y (v := .bool false) (y_pick rfl rfl) rfl rfl rfl ?_)
          refine st rfl (o_y (v := .bool false) (y_mv rfl) rfl rfl rfl ?_)
          refine st_off 26 rfl rfl rfl rfl rfl rfl ?_
          refine st_off 26 rfl rfl rfl rfl rfl rfl ?_
          refine st_off 26 rfl rfl rfl rfl rfl rfl ?_
          refine st rfl (o_y (v := .bool false) (y_pick rfl rfl) rfl rfl rfl ?_)
          refine st rfl (o_y (v := .bool false) (y_mv rfl) rfl rfl rfl ?_)
          refine st_off 31 rfl rfl rfl rfl rfl rfl ?_
          refine st_off 31 rfl rfl rfl rfl rfl rfl ?_
          refine st_off 31 rfl rfl rfl rfl rfl rfl ?_
          refine st rfl (o_y (v := .bool false) (y_pick rfl rfl) rfl rfl rfl ?_)
          refine st rfl (o_y (v := .bool false) (y_mv rfl) rfl rfl rfl ?_)
          refine st_off 36 rfl rfl rfl rfl rfl rfl ?_
          refine st_off 36 rfl rfl rfl rfl rfl rfl ?_
          refine st_off 36 rfl rfl rfl rfl rfl rfl ?_
          refine st rfl (o_y (v := .bool false) (y_pick rfl rfl) rfl rfl rfl ?_)
          refine st rfl (o_y (v := .bool false) (y_mv rfl) rfl rfl rfl ?_)
          refine st_off 41 rfl rfl rfl rfl rfl rfl ?_
          refine st_off 41 rfl rfl rfl rfl rfl rfl ?_
          refine st_off 41 rfl rfl rfl rfl rfl rfl ?_
          refine st rfl (o_y (v := .bool false) (y_pick rfl rfl) rfl rfl rfl ?_)
          refine st rfl (o_y (v := .bool false) (y_as rfl) rfl rfl rfl ?_)
          refine s_nil ?_
          refine q_then ?_
          refine c_ret ?_
          refine c_fin (I' := []) [] [] rfl (.tmp rfl .nil) rfl rfl rfl ?_
          exact ⟨by show Value.bool _ = Value.bool _; congr 1; symm; first | exact decide_eq_true (by unfold recRight; first | omega | exact ⟨by omega, by omega, by omega, by omega, by omega, by omega, by omega, by omega, by assumption⟩ | (intro hh; exact absurd hh.2.2.2.2.2.2.2.2 (by assumption))) | exact decide_eq_false (by unfold recRight; first | omega | exact ⟨by omega, by omega, by omega, by omega, by omega, by omega, by omega, by omega, by assumption⟩ | (intro hh; exact absurd hh.2.2.2.2.2.2.2.2 (by assumption))), rfl, rfl⟩
      ·
        refine st_on 11 rfl rfl rfl (o_y (v := .bool false) (y_f (y_k (v := .bool (decide (x.who ≥ 0))) rfl rfl (fun _ => by kernel_rfl)) h3) rfl rfl rfl ?_)
        refine st rfl (o_y (v := .bool false) (y_pick rfl rfl) rfl rfl rfl ?_)
        refine st rfl (o_y (v := .bool false) (y_mv rfl) rfl rfl rfl ?_)
        refine st_off 16 rfl rfl rfl rfl rfl rfl ?_
        refine st_off 16 rfl rfl rfl rfl rfl rfl ?_
        refine st_off 16 rfl rfl rfl rfl rfl rfl ?_
        refine st rfl (o_y (v := .bool false) (y_pick rfl rfl) rfl rfl rfl ?_)
        refine st rfl (o_y (v := .bool false) (y_mv rfl) rfl rfl rfl ?_)
        refine st_off 21 rfl rfl rfl rfl rfl rfl ?_
        refine st_off 21 rfl rfl rfl rfl rfl rfl ?_
        refine st_off 21 rfl rfl rfl rfl rfl rfl ?_
        refine st rfl (o_y (v := .bool false) (y_pick rfl rfl) rfl rfl rfl ?_)
        refine st rfl (o_y (v := .bool false) (y_mv rfl) rfl rfl rfl ?_)
        refine st_off 26 rfl rfl rfl rfl rfl rfl ?_
        refine st_off 26 rfl rfl rfl rfl rfl rfl ?_
        refine st_off 26 rfl rfl rfl rfl rfl rfl ?_
        refine st rfl (o_y (v := .bool false) (y_pick rfl rfl) rfl rfl rfl ?_)
        refine st rfl (o_y (v := .bool false) (y_mv rfl) rfl rfl rfl ?_)
        refine st_off 31 rfl rfl rfl rfl rfl rfl ?_
        refine st_off 31 rfl rfl rfl rfl rfl rfl ?_
        refine st_off 31 rfl rfl rfl rfl rfl rfl ?_
        refine st rfl (o_y (v := .bool false) (y_pick rfl rfl) rfl rfl rfl ?_)
        refine st rfl (o_y (v := .bool false) (y_mv rfl) rfl rfl rfl ?_)
        refine st_off 36 rfl rfl rfl rfl rfl rfl ?_
        refine st_off 36 rfl rfl rfl rfl rfl rfl ?_
        refine st_off 36 rfl rfl rfl rfl rfl rfl ?_
        refine st rfl (o_y (v := .bool false) (y_pick rfl rfl) rfl rfl rfl ?_)
        refine st rfl (o_y (v := .bool false) (y_mv rfl) rfl rfl rfl ?_)
        refine st_off 41 rfl rfl rfl rfl rfl rfl ?_
        refine st_off 41 rfl rfl rfl rfl rfl rfl ?_
        refine st_off 41 rfl rfl rfl rfl rfl rfl ?_
        refine st rfl (o_y (v := .bool false) (y_pick rfl rfl) rfl rfl rfl ?_)
        refine st rfl (o_y (v := .bool false) (y_as rfl) rfl rfl rfl ?_)
        refine s_nil ?_
        refine q_then ?_
        refine c_ret ?_
        refine c_fin (I' := []) [] [] rfl (.tmp rfl .nil) rfl rfl rfl ?_
        exact ⟨by show Value.bool _ = Value.bool _; congr 1; symm; first | exact decide_eq_true (by unfold recRight; first | omega | exact ⟨by omega, by omega, by omega, by omega, by omega, by omega, by omega, by omega, by assumption⟩ | (intro hh; exact absurd hh.2.2.2.2.2.2.2.2 (by assumption))) | exact decide_eq_false (by unfold recRight; first | omega | exact ⟨by omega, by omega, by omega, by omega, by omega, by omega, by omega, by omega, by assumption⟩ | (intro hh; exact absurd hh.2.2.2.2.2.2.2.2 (by assumption))), rfl, rfl⟩
    ·
      refine st_on 6 rfl rfl rfl (o_y (v := .bool false) (y_f (y_k (v := .bool (decide (x.st ≤ 400))) rfl rfl (fun _ => by kernel_rfl)) h2) rfl rfl rfl ?_)
      refine st rfl (o_y (v := .bool false) (y_pick rfl rfl) rfl rfl rfl ?_)
      refine st rfl (o_y (v := .bool false) (y_mv rfl) rfl rfl rfl ?_)
      refine st_off 11 rfl rfl rfl rfl rfl rfl ?_
      refine st_off 11 rfl rfl rfl rfl rfl rfl ?_
      refine st_off 11 rfl rfl rfl rfl rfl rfl ?_
      refine st rfl (o_y (v := .bool false) (y_pick rfl rfl) rfl rfl rfl ?_)
      refine st rfl (o_y (v := .bool false) (y_mv rfl) rfl rfl rfl ?_)
      refine st_off 16 rfl rfl rfl rfl rfl rfl ?_
      refine st_off 16 rfl rfl rfl rfl rfl rfl ?_
      refine st_off 16 rfl rfl rfl rfl rfl rfl ?_
      refine st rfl (o_y (v := .bool false) (y_pick rfl rfl) rfl rfl rfl ?_)
      refine st rfl (o_y (v := .bool false) (y_mv rfl) rfl rfl rfl ?_)
      refine st_off 21 rfl rfl rfl rfl rfl rfl ?_
      refine st_off 21 rfl rfl rfl rfl rfl rfl ?_
      refine st_off 21 rfl rfl rfl rfl rfl rfl ?_
      refine st rfl (o_y (v := .bool false) (y_pick rfl rfl) rfl rfl rfl ?_)
      refine st rfl (o_y (v := .bool false) (y_mv rfl) rfl rfl rfl ?_)
      refine st_off 26 rfl rfl rfl rfl rfl rfl ?_
      refine st_off 26 rfl rfl rfl rfl rfl rfl ?_
      refine st_off 26 rfl rfl rfl rfl rfl rfl ?_
      refine st rfl (o_y (v := .bool false) (y_pick rfl rfl) rfl rfl rfl ?_)
      refine st rfl (o_y (v := .bool false) (y_mv rfl) rfl rfl rfl ?_)
      refine st_off 31 rfl rfl rfl rfl rfl rfl ?_
      refine st_off 31 rfl rfl rfl rfl rfl rfl ?_
      refine st_off 31 rfl rfl rfl rfl rfl rfl ?_
      refine st rfl (o_y (v := .bool false) (y_pick rfl rfl) rfl rfl rfl ?_)
      refine st rfl (o_y (v := .bool false) (y_mv rfl) rfl rfl rfl ?_)
      refine st_off 36 rfl rfl rfl rfl rfl rfl ?_
      refine st_off 36 rfl rfl rfl rfl rfl rfl ?_
      refine st_off 36 rfl rfl rfl rfl rfl rfl ?_
      refine st rfl (o_y (v := .bool false) (y_pick rfl rfl) rfl rfl rfl ?_)
      refine st rfl (o_y (v := .bool false) (y_mv rfl) rfl rfl rfl ?_)
      refine st_off 41 rfl rfl rfl rfl rfl rfl ?_
      refine st_off 41 rfl rfl rfl rfl rfl rfl ?_
      refine st_off 41 rfl rfl rfl rfl rfl rfl ?_
      refine st rfl (o_y (v := .bool false) (y_pick rfl rfl) rfl rfl rfl ?_)
      refine st rfl (o_y (v := .bool false) (y_as rfl) rfl rfl rfl ?_)
      refine s_nil ?_
      refine q_then ?_
      refine c_ret ?_
      refine c_fin (I' := []) [] [] rfl (.tmp rfl .nil) rfl rfl rfl ?_
      exact ⟨by show Value.bool _ = Value.bool _; congr 1; symm; first | exact decide_eq_true (by unfold recRight; first | omega | exact ⟨by omega, by omega, by omega, by omega, by omega, by omega, by omega, by omega, by assumption⟩ | (intro hh; exact absurd hh.2.2.2.2.2.2.2.2 (by assumption))) | exact decide_eq_false (by unfold recRight; first | omega | exact ⟨by omega, by omega, by omega, by omega, by omega, by omega, by omega, by omega, by assumption⟩ | (intro hh; exact absurd hh.2.2.2.2.2.2.2.2 (by assumption))), rfl, rfl⟩
  ·
    refine st rfl (o_y (v := .bool false) (y_f (y_k (v := .bool (decide (x.st ≥ 1))) rfl rfl (fun _ => by kernel_rfl)) h1) rfl rfl rfl ?_)
    refine st rfl (o_y (v := .bool false) (y_mv rfl) rfl rfl rfl ?_)
    refine st_off 6 rfl rfl rfl rfl rfl rfl ?_
    refine st_off 6 rfl rfl rfl rfl rfl rfl ?_
    refine st_off 6 rfl rfl rfl rfl rfl rfl ?_
    refine st rfl (o_y (v := .bool false) (y_pick rfl rfl) rfl rfl rfl ?_)
    refine st rfl (o_y (v := .bool false) (y_mv rfl) rfl rfl rfl ?_)
    refine st_off 11 rfl rfl rfl rfl rfl rfl ?_
    refine st_off 11 rfl rfl rfl rfl rfl rfl ?_
    refine st_off 11 rfl rfl rfl rfl rfl rfl ?_
    refine st rfl (o_y (v := .bool false) (y_pick rfl rfl) rfl rfl rfl ?_)
    refine st rfl (o_y (v := .bool false) (y_mv rfl) rfl rfl rfl ?_)
    refine st_off 16 rfl rfl rfl rfl rfl rfl ?_
    refine st_off 16 rfl rfl rfl rfl rfl rfl ?_
    refine st_off 16 rfl rfl rfl rfl rfl rfl ?_
    refine st rfl (o_y (v := .bool false) (y_pick rfl rfl) rfl rfl rfl ?_)
    refine st rfl (o_y (v := .bool false) (y_mv rfl) rfl rfl rfl ?_)
    refine st_off 21 rfl rfl rfl rfl rfl rfl ?_
    refine st_off 21 rfl rfl rfl rfl rfl rfl ?_
    refine st_off 21 rfl rfl rfl rfl rfl rfl ?_
    refine st rfl (o_y (v := .bool false) (y_pick rfl rfl) rfl rfl rfl ?_)
    refine st rfl (o_y (v := .bool false) (y_mv rfl) rfl rfl rfl ?_)
    refine st_off 26 rfl rfl rfl rfl rfl rfl ?_
    refine st_off 26 rfl rfl rfl rfl rfl rfl ?_
    refine st_off 26 rfl rfl rfl rfl rfl rfl ?_
    refine st rfl (o_y (v := .bool false) (y_pick rfl rfl) rfl rfl rfl ?_)
    refine st rfl (o_y (v := .bool false) (y_mv rfl) rfl rfl rfl ?_)
    refine st_off 31 rfl rfl rfl rfl rfl rfl ?_
    refine st_off 31 rfl rfl rfl rfl rfl rfl ?_
    refine st_off 31 rfl rfl rfl rfl rfl rfl ?_
    refine st rfl (o_y (v := .bool false) (y_pick rfl rfl) rfl rfl rfl ?_)
    refine st rfl (o_y (v := .bool false) (y_mv rfl) rfl rfl rfl ?_)
    refine st_off 36 rfl rfl rfl rfl rfl rfl ?_
    refine st_off 36 rfl rfl rfl rfl rfl rfl ?_
    refine st_off 36 rfl rfl rfl rfl rfl rfl ?_
    refine st rfl (o_y (v := .bool false) (y_pick rfl rfl) rfl rfl rfl ?_)
    refine st rfl (o_y (v := .bool false) (y_mv rfl) rfl rfl rfl ?_)
    refine st_off 41 rfl rfl rfl rfl rfl rfl ?_
    refine st_off 41 rfl rfl rfl rfl rfl rfl ?_
    refine st_off 41 rfl rfl rfl rfl rfl rfl ?_
    refine st rfl (o_y (v := .bool false) (y_pick rfl rfl) rfl rfl rfl ?_)
    refine st rfl (o_y (v := .bool false) (y_as rfl) rfl rfl rfl ?_)
    refine s_nil ?_
    refine q_then ?_
    refine c_ret ?_
    refine c_fin (I' := []) [] [] rfl (.tmp rfl .nil) rfl rfl rfl ?_
    exact ⟨by show Value.bool _ = Value.bool _; congr 1; symm; first | exact decide_eq_true (by unfold recRight; first | omega | exact ⟨by omega, by omega, by omega, by omega, by omega, by omega, by omega, by omega, by assumption⟩ | (intro hh; exact absurd hh.2.2.2.2.2.2.2.2 (by assumption))) | exact decide_eq_false (by unfold recRight; first | omega | exact ⟨by omega, by omega, by omega, by omega, by omega, by omega, by omega, by omega, by assumption⟩ | (intro hh; exact absurd hh.2.2.2.2.2.2.2.2 (by assumption))), rfl, rfl⟩
theorem ris_ (x : Rec) : Con Tryd.prog 42 [.agg #[.int .i64 x.st, .int .i64 x.who, .int .i64 x.op, .int .i64 x.e, .int .i64 x.lab.lv, .int .u64 (x.lab.cs : Int), .int .i64 x.lab.ig]] [] [] (fun v L' I' => v = .bool (decide (recRight x)) ∧ L' = [] ∧ I' = []) := by
  refine fn_of Tryd.func42 rfl Tryd.ntmps42 (by kernel_rfl) rfl (fun C => ?_)
  refine c_seq ?_
  refine c_region ?_
  refine st rfl (o_box (cs := [.int .i64 x.st, .int .i64 x.who, .int .i64 x.op, .int .i64 x.e, .int .i64 x.lab.lv, .int .u64 (x.lab.cs : Int), .int .i64 x.lab.ig]) (T := 28) rfl rfl rfl rfl (fun _ => by kernel_rfl) (fun b1 => ?_))
  refine st rfl (o_y (v := .bool false) (y_as rfl) rfl rfl rfl ?_)
  refine s_nil ?_
  refine q_then ?_
  refine c_seq ?_
  refine c_region ?_
  refine st rfl (o_y (v := .pointer (some ⟨b1, 0, none⟩)) (y_k rfl rfl (fun _ => by kernel_rfl)) rfl rfl rfl ?_)
  refine st rfl (o_ld 0 rfl rfl rfl Tryd.underlying3 rfl rfl ?_)
  refine e_by (x.st ≥ 1) (fun h1 => ?_) (fun h1 => ?_)
  ·
    refine st rfl (o_y (v := .bool true) (y_t (y_k (v := .bool (decide (x.st ≥ 1))) rfl rfl (fun _ => by kernel_rfl)) h1) rfl rfl rfl ?_)
    refine st rfl (o_y (v := .bool true) (y_mv rfl) rfl rfl rfl ?_)
    refine st_on 6 rfl rfl rfl (o_y (v := .pointer (some ⟨b1, 0, none⟩)) (y_k rfl rfl (fun _ => by kernel_rfl)) rfl rfl rfl ?_)
    refine st_on 6 rfl rfl rfl (o_ld 0 rfl rfl rfl Tryd.underlying3 rfl rfl ?_)
    refine e_by (x.st ≤ 400) (fun h2 => ?_) (fun h2 => ?_)
    ·
      refine st_on 6 rfl rfl rfl (o_y (v := .bool true) (y_t (y_k (v := .bool (decide (x.st ≤ 400))) rfl rfl (fun _ => by kernel_rfl)) h2) rfl rfl rfl ?_)
      refine st rfl (o_y (v := .bool true) (y_pick rfl rfl) rfl rfl rfl ?_)
      refine st rfl (o_y (v := .bool true) (y_mv rfl) rfl rfl rfl ?_)
      refine st_on 11 rfl rfl rfl (o_y (v := .pointer (some ⟨b1, 1, none⟩)) (y_k rfl rfl (fun _ => by kernel_rfl)) rfl rfl rfl ?_)
      refine st_on 11 rfl rfl rfl (o_ld 0 rfl rfl rfl Tryd.underlying3 rfl rfl ?_)
      refine e_by (x.who ≥ 0) (fun h3 => ?_) (fun h3 => ?_)
      ·
        refine st_on 11 rfl rfl rfl (o_y (v := .bool true) (y_t (y_k (v := .bool (decide (x.who ≥ 0))) rfl rfl (fun _ => by kernel_rfl)) h3) rfl rfl rfl ?_)
        refine st rfl (o_y (v := .bool true) (y_pick rfl rfl) rfl rfl rfl ?_)
        refine st rfl (o_y (v := .bool true) (y_mv rfl) rfl rfl rfl ?_)
        refine st_on 16 rfl rfl rfl (o_y (v := .pointer (some ⟨b1, 1, none⟩)) (y_k rfl rfl (fun _ => by kernel_rfl)) rfl rfl rfl ?_)
        refine st_on 16 rfl rfl rfl (o_ld 0 rfl rfl rfl Tryd.underlying3 rfl rfl ?_)
        refine e_by (x.who < 8) (fun h4 => ?_) (fun h4 => ?_)
        ·
          refine st_on 16 rfl rfl rfl (o_y (v := .bool true) (y_t (y_k (v := .bool (decide (x.who < 8))) rfl rfl (fun _ => by kernel_rfl)) h4) rfl rfl rfl ?_)
          refine st rfl (o_y (v := .bool true) (y_pick rfl rfl) rfl rfl rfl ?_)
          refine st rfl (o_y (v := .bool true) (y_mv rfl) rfl rfl rfl ?_)
          refine st_on 21 rfl rfl rfl (o_y (v := .pointer (some ⟨b1, 2, none⟩)) (y_k rfl rfl (fun _ => by kernel_rfl)) rfl rfl rfl ?_)
          refine st_on 21 rfl rfl rfl (o_ld 0 rfl rfl rfl Tryd.underlying3 rfl rfl ?_)
          refine e_by (x.op ≥ 0) (fun h5 => ?_) (fun h5 => ?_)
          ·
            refine st_on 21 rfl rfl rfl (o_y (v := .bool true) (y_t (y_k (v := .bool (decide (x.op ≥ 0))) rfl rfl (fun _ => by kernel_rfl)) h5) rfl rfl rfl ?_)
            refine st rfl (o_y (v := .bool true) (y_pick rfl rfl) rfl rfl rfl ?_)
            refine st rfl (o_y (v := .bool true) (y_mv rfl) rfl rfl rfl ?_)
            refine st_on 26 rfl rfl rfl (o_y (v := .pointer (some ⟨b1, 2, none⟩)) (y_k rfl rfl (fun _ => by kernel_rfl)) rfl rfl rfl ?_)
            refine st_on 26 rfl rfl rfl (o_ld 0 rfl rfl rfl Tryd.underlying3 rfl rfl ?_)
            refine e_by (x.op ≤ 16) (fun h6 => ?_) (fun h6 => ?_)
            ·
              refine st_on 26 rfl rfl rfl (o_y (v := .bool true) (y_t (y_k (v := .bool (decide (x.op ≤ 16))) rfl rfl (fun _ => by kernel_rfl)) h6) rfl rfl rfl ?_)
              refine st rfl (o_y (v := .bool true) (y_pick rfl rfl) rfl rfl rfl ?_)
              refine st rfl (o_y (v := .bool true) (y_mv rfl) rfl rfl rfl ?_)
              refine st_on 31 rfl rfl rfl (o_y (v := .pointer (some ⟨b1, 3, none⟩)) (y_k rfl rfl (fun _ => by kernel_rfl)) rfl rfl rfl ?_)
              refine st_on 31 rfl rfl rfl (o_ld 0 rfl rfl rfl Tryd.underlying23 rfl rfl ?_)
              refine e_by (x.e ≥ 0) (fun h7 => ?_) (fun h7 => ?_)
              ·
                refine st_on 31 rfl rfl rfl (o_y (v := .bool true) (y_t (y_k (v := .bool (decide (x.e ≥ 0))) rfl rfl (fun _ => by kernel_rfl)) h7) rfl rfl rfl ?_)
                refine st rfl (o_y (v := .bool true) (y_pick rfl rfl) rfl rfl rfl ?_)
                refine st rfl (o_y (v := .bool true) (y_mv rfl) rfl rfl rfl ?_)
                refine st_on 36 rfl rfl rfl (o_y (v := .pointer (some ⟨b1, 3, none⟩)) (y_k rfl rfl (fun _ => by kernel_rfl)) rfl rfl rfl ?_)
                refine st_on 36 rfl rfl rfl (o_ld 0 rfl rfl rfl Tryd.underlying23 rfl rfl ?_)
                refine e_by (x.e ≤ 65535) (fun h8 => ?_) (fun h8 => ?_)
                ·
                  refine st_on 36 rfl rfl rfl (o_y (v := .bool true) (y_t (y_k (v := .bool (decide (x.e ≤ 65535))) rfl rfl (fun _ => by kernel_rfl)) h8) rfl rfl rfl ?_)
                  refine st rfl (o_y (v := .bool true) (y_pick rfl rfl) rfl rfl rfl ?_)
                  refine st rfl (o_y (v := .bool true) (y_mv rfl) rfl rfl rfl ?_)
                  refine st_on 41 rfl rfl rfl (o_y (v := .pointer (some ⟨b1, 4, none⟩)) (y_k rfl rfl (fun _ => by kernel_rfl)) rfl rfl rfl ?_)
                  refine st_on 41 rfl rfl rfl (o_ldn 0 3 rfl rfl rfl rfl Tryd.underlying26 rfl (by kernel_rfl) (by kernel_rfl) rfl ?_)
                  refine st_on 41 rfl rfl rfl (o_call [] [] (rlabRight_ x.lab) rfl rfl rfl rfl rfl rfl (fun v L' I' hq1 => ?_))
                  obtain ⟨hv1, rfl, rfl⟩ := hq1
                  refine e_by (labRight x.lab) (fun h9 => ?_) (fun h9 => ?_)
                  ·
                    obtain rfl : v = .bool true := by rw [hv1, decide_eq_true h9]
                    refine st rfl (o_y (v := .bool true) (y_pick rfl rfl) rfl rfl rfl ?_)
                    refine st rfl (o_y (v := .bool true) (y_as rfl) rfl rfl rfl ?_)
                    refine s_nil ?_
                    refine q_then ?_
                    refine c_ret ?_
                    refine c_fin (I' := []) [] [] rfl (.tmp rfl .nil) rfl rfl rfl ?_
                    exact ⟨by show Value.bool _ = Value.bool _; congr 1; symm; first | exact decide_eq_true (by unfold recRight; first | omega | exact ⟨by omega, by omega, by omega, by omega, by omega, by omega, by omega, by omega, by assumption⟩ | (intro hh; exact absurd hh.2.2.2.2.2.2.2.2 (by assumption))) | exact decide_eq_false (by unfold recRight; first | omega | exact ⟨by omega, by omega, by omega, by omega, by omega, by omega, by omega, by omega, by assumption⟩ | (intro hh; exact absurd hh.2.2.2.2.2.2.2.2 (by assumption))), rfl, rfl⟩
                  ·
                    obtain rfl : v = .bool false := by rw [hv1, decide_eq_false h9]
                    refine st rfl (o_y (v := .bool false) (y_pick rfl rfl) rfl rfl rfl ?_)
                    refine st rfl (o_y (v := .bool false) (y_as rfl) rfl rfl rfl ?_)
                    refine s_nil ?_
                    refine q_then ?_
                    refine c_ret ?_
                    refine c_fin (I' := []) [] [] rfl (.tmp rfl .nil) rfl rfl rfl ?_
                    exact ⟨by show Value.bool _ = Value.bool _; congr 1; symm; first | exact decide_eq_true (by unfold recRight; first | omega | exact ⟨by omega, by omega, by omega, by omega, by omega, by omega, by omega, by omega, by assumption⟩ | (intro hh; exact absurd hh.2.2.2.2.2.2.2.2 (by assumption))) | exact decide_eq_false (by unfold recRight; first | omega | exact ⟨by omega, by omega, by omega, by omega, by omega, by omega, by omega, by omega, by assumption⟩ | (intro hh; exact absurd hh.2.2.2.2.2.2.2.2 (by assumption))), rfl, rfl⟩
                ·
                  refine st_on 36 rfl rfl rfl (o_y (v := .bool false) (y_f (y_k (v := .bool (decide (x.e ≤ 65535))) rfl rfl (fun _ => by kernel_rfl)) h8) rfl rfl rfl ?_)
                  refine st rfl (o_y (v := .bool false) (y_pick rfl rfl) rfl rfl rfl ?_)
                  refine st rfl (o_y (v := .bool false) (y_mv rfl) rfl rfl rfl ?_)
                  refine st_off 41 rfl rfl rfl rfl rfl rfl ?_
                  refine st_off 41 rfl rfl rfl rfl rfl rfl ?_
                  refine st_off 41 rfl rfl rfl rfl rfl rfl ?_
                  refine st rfl (o_y (v := .bool false) (y_pick rfl rfl) rfl rfl rfl ?_)
                  refine st rfl (o_y (v := .bool false) (y_as rfl) rfl rfl rfl ?_)
                  refine s_nil ?_
                  refine q_then ?_
                  refine c_ret ?_
                  refine c_fin (I' := []) [] [] rfl (.tmp rfl .nil) rfl rfl rfl ?_
                  exact ⟨by show Value.bool _ = Value.bool _; congr 1; symm; first | exact decide_eq_true (by unfold recRight; first | omega | exact ⟨by omega, by omega, by omega, by omega, by omega, by omega, by omega, by omega, by assumption⟩ | (intro hh; exact absurd hh.2.2.2.2.2.2.2.2 (by assumption))) | exact decide_eq_false (by unfold recRight; first | omega | exact ⟨by omega, by omega, by omega, by omega, by omega, by omega, by omega, by omega, by assumption⟩ | (intro hh; exact absurd hh.2.2.2.2.2.2.2.2 (by assumption))), rfl, rfl⟩
              ·
                refine st_on 31 rfl rfl rfl (o_y (v := .bool false) (y_f (y_k (v := .bool (decide (x.e ≥ 0))) rfl rfl (fun _ => by kernel_rfl)) h7) rfl rfl rfl ?_)
                refine st rfl (o_y (v := .bool false) (y_pick rfl rfl) rfl rfl rfl ?_)
                refine st rfl (o_y (v := .bool false) (y_mv rfl) rfl rfl rfl ?_)
                refine st_off 36 rfl rfl rfl rfl rfl rfl ?_
                refine st_off 36 rfl rfl rfl rfl rfl rfl ?_
                refine st_off 36 rfl rfl rfl rfl rfl rfl ?_
                refine st rfl (o_y (v := .bool false) (y_pick rfl rfl) rfl rfl rfl ?_)
                refine st rfl (o_y (v := .bool false) (y_mv rfl) rfl rfl rfl ?_)
                refine st_off 41 rfl rfl rfl rfl rfl rfl ?_
                refine st_off 41 rfl rfl rfl rfl rfl rfl ?_
                refine st_off 41 rfl rfl rfl rfl rfl rfl ?_
                refine st rfl (o_y (v := .bool false) (y_pick rfl rfl) rfl rfl rfl ?_)
                refine st rfl (o_y (v := .bool false) (y_as rfl) rfl rfl rfl ?_)
                refine s_nil ?_
                refine q_then ?_
                refine c_ret ?_
                refine c_fin (I' := []) [] [] rfl (.tmp rfl .nil) rfl rfl rfl ?_
                exact ⟨by show Value.bool _ = Value.bool _; congr 1; symm; first | exact decide_eq_true (by unfold recRight; first | omega | exact ⟨by omega, by omega, by omega, by omega, by omega, by omega, by omega, by omega, by assumption⟩ | (intro hh; exact absurd hh.2.2.2.2.2.2.2.2 (by assumption))) | exact decide_eq_false (by unfold recRight; first | omega | exact ⟨by omega, by omega, by omega, by omega, by omega, by omega, by omega, by omega, by assumption⟩ | (intro hh; exact absurd hh.2.2.2.2.2.2.2.2 (by assumption))), rfl, rfl⟩
            ·
              refine st_on 26 rfl rfl rfl (o_y (v := .bool false) (y_f (y_k (v := .bool (decide (x.op ≤ 16))) rfl rfl (fun _ => by kernel_rfl)) h6) rfl rfl rfl ?_)
              refine st rfl (o_y (v := .bool false) (y_pick rfl rfl) rfl rfl rfl ?_)
              refine st rfl (o_y (v := .bool false) (y_mv rfl) rfl rfl rfl ?_)
              refine st_off 31 rfl rfl rfl rfl rfl rfl ?_
              refine st_off 31 rfl rfl rfl rfl rfl rfl ?_
              refine st_off 31 rfl rfl rfl rfl rfl rfl ?_
              refine st rfl (o_y (v := .bool false) (y_pick rfl rfl) rfl rfl rfl ?_)
              refine st rfl (o_y (v := .bool false) (y_mv rfl) rfl rfl rfl ?_)
              refine st_off 36 rfl rfl rfl rfl rfl rfl ?_
              refine st_off 36 rfl rfl rfl rfl rfl rfl ?_
              refine st_off 36 rfl rfl rfl rfl rfl rfl ?_
              refine st rfl (o_y (v := .bool false) (y_pick rfl rfl) rfl rfl rfl ?_)
              refine st rfl (o_y (v := .bool false) (y_mv rfl) rfl rfl rfl ?_)
              refine st_off 41 rfl rfl rfl rfl rfl rfl ?_
              refine st_off 41 rfl rfl rfl rfl rfl rfl ?_
              refine st_off 41 rfl rfl rfl rfl rfl rfl ?_
              refine st rfl (o_y (v := .bool false) (y_pick rfl rfl) rfl rfl rfl ?_)
              refine st rfl (o_y (v := .bool false) (y_as rfl) rfl rfl rfl ?_)
              refine s_nil ?_
              refine q_then ?_
              refine c_ret ?_
              refine c_fin (I' := []) [] [] rfl (.tmp rfl .nil) rfl rfl rfl ?_
              exact ⟨by show Value.bool _ = Value.bool _; congr 1; symm; first | exact decide_eq_true (by unfold recRight; first | omega | exact ⟨by omega, by omega, by omega, by omega, by omega, by omega, by omega, by omega, by assumption⟩ | (intro hh; exact absurd hh.2.2.2.2.2.2.2.2 (by assumption))) | exact decide_eq_false (by unfold recRight; first | omega | exact ⟨by omega, by omega, by omega, by omega, by omega, by omega, by omega, by omega, by assumption⟩ | (intro hh; exact absurd hh.2.2.2.2.2.2.2.2 (by assumption))), rfl, rfl⟩
          ·
            refine st_on 21 rfl rfl rfl (o_y (v := .bool false) (y_f (y_k (v := .bool (decide (x.op ≥ 0))) rfl rfl (fun _ => by kernel_rfl)) h5) rfl rfl rfl ?_)
            refine st rfl (o_y (v := .bool false) (y_pick rfl rfl) rfl rfl rfl ?_)
            refine st rfl (o_y (v := .bool false) (y_mv rfl) rfl rfl rfl ?_)
            refine st_off 26 rfl rfl rfl rfl rfl rfl ?_
            refine st_off 26 rfl rfl rfl rfl rfl rfl ?_
            refine st_off 26 rfl rfl rfl rfl rfl rfl ?_
            refine st rfl (o_y (v := .bool false) (y_pick rfl rfl) rfl rfl rfl ?_)
            refine st rfl (o_y (v := .bool false) (y_mv rfl) rfl rfl rfl ?_)
            refine st_off 31 rfl rfl rfl rfl rfl rfl ?_
            refine st_off 31 rfl rfl rfl rfl rfl rfl ?_
            refine st_off 31 rfl rfl rfl rfl rfl rfl ?_
            refine st rfl (o_y (v := .bool false) (y_pick rfl rfl) rfl rfl rfl ?_)
            refine st rfl (o_y (v := .bool false) (y_mv rfl) rfl rfl rfl ?_)
            refine st_off 36 rfl rfl rfl rfl rfl rfl ?_
            refine st_off 36 rfl rfl rfl rfl rfl rfl ?_
            refine st_off 36 rfl rfl rfl rfl rfl rfl ?_
            refine st rfl (o_y (v := .bool false) (y_pick rfl rfl) rfl rfl rfl ?_)
            refine st rfl (o_y (v := .bool false) (y_mv rfl) rfl rfl rfl ?_)
            refine st_off 41 rfl rfl rfl rfl rfl rfl ?_
            refine st_off 41 rfl rfl rfl rfl rfl rfl ?_
            refine st_off 41 rfl rfl rfl rfl rfl rfl ?_
            refine st rfl (o_y (v := .bool false) (y_pick rfl rfl) rfl rfl rfl ?_)
            refine st rfl (o_y (v := .bool false) (y_as rfl) rfl rfl rfl ?_)
            refine s_nil ?_
            refine q_then ?_
            refine c_ret ?_
            refine c_fin (I' := []) [] [] rfl (.tmp rfl .nil) rfl rfl rfl ?_
            exact ⟨by show Value.bool _ = Value.bool _; congr 1; symm; first | exact decide_eq_true (by unfold recRight; first | omega | exact ⟨by omega, by omega, by omega, by omega, by omega, by omega, by omega, by omega, by assumption⟩ | (intro hh; exact absurd hh.2.2.2.2.2.2.2.2 (by assumption))) | exact decide_eq_false (by unfold recRight; first | omega | exact ⟨by omega, by omega, by omega, by omega, by omega, by omega, by omega, by omega, by assumption⟩ | (intro hh; exact absurd hh.2.2.2.2.2.2.2.2 (by assumption))), rfl, rfl⟩
        ·
          refine st_on 16 rfl rfl rfl (o_y (v := .bool false) (y_f (y_k (v := .bool (decide (x.who < 8))) rfl rfl (fun _ => by kernel_rfl)) h4) rfl rfl rfl ?_)
          refine st rfl (o_y (v := .bool false) (y_pick rfl rfl) rfl rfl rfl ?_)
          refine st rfl (o_y (v := .bool false) (y_mv rfl) rfl rfl rfl ?_)
          refine st_off 21 rfl rfl rfl rfl rfl rfl ?_
          refine st_off 21 rfl rfl rfl rfl rfl rfl ?_
          refine st_off 21 rfl rfl rfl rfl rfl rfl ?_
          refine st rfl (o_y (v := .bool false) (y_pick rfl rfl) rfl rfl rfl ?_)
          refine st rfl (o_y (v := .bool false) (y_mv rfl) rfl rfl rfl ?_)
          refine st_off 26 rfl rfl rfl rfl rfl rfl ?_
          refine st_off 26 rfl rfl rfl rfl rfl rfl ?_
          refine st_off 26 rfl rfl rfl rfl rfl rfl ?_
          refine st rfl (o_y (v := .bool false) (y_pick rfl rfl) rfl rfl rfl ?_)
          refine st rfl (o_y (v := .bool false) (y_mv rfl) rfl rfl rfl ?_)
          refine st_off 31 rfl rfl rfl rfl rfl rfl ?_
          refine st_off 31 rfl rfl rfl rfl rfl rfl ?_
          refine st_off 31 rfl rfl rfl rfl rfl rfl ?_
          refine st rfl (o_y (v := .bool false) (y_pick rfl rfl) rfl rfl rfl ?_)
          refine st rfl (o_y (v := .bool false) (y_mv rfl) rfl rfl rfl ?_)
          refine st_off 36 rfl rfl rfl rfl rfl rfl ?_
          refine st_off 36 rfl rfl rfl rfl rfl rfl ?_
          refine st_off 36 rfl rfl rfl rfl rfl rfl ?_
          refine st rfl (o_y (v := .bool false) (y_pick rfl rfl) rfl rfl rfl ?_)
          refine st rfl (o_y (v := .bool false) (y_mv rfl) rfl rfl rfl ?_)
          refine st_off 41 rfl rfl rfl rfl rfl rfl ?_
          refine st_off 41 rfl rfl rfl rfl rfl rfl ?_
          refine st_off 41 rfl rfl rfl rfl rfl rfl ?_
          refine st rfl (o_y (v := .bool false) (y_pick rfl rfl) rfl rfl rfl ?_)
          refine st rfl (o_y (v := .bool false) (y_as rfl) rfl rfl rfl ?_)
          refine s_nil ?_
          refine q_then ?_
          refine c_ret ?_
          refine c_fin (I' := []) [] [] rfl (.tmp rfl .nil) rfl rfl rfl ?_
          exact ⟨by show Value.bool _ = Value.bool _; congr 1; symm; first | exact decide_eq_true (by unfold recRight; first | omega | exact ⟨by omega, by omega, by omega, by omega, by omega, by omega, by omega, by omega, by assumption⟩ | (intro hh; exact absurd hh.2.2.2.2.2.2.2.2 (by assumption))) | exact decide_eq_false (by unfold recRight; first | omega | exact ⟨by omega, by omega, by omega, by omega, by omega, by omega, by omega, by omega, by assumption⟩ | (intro hh; exact absurd hh.2.2.2.2.2.2.2.2 (by assumption))), rfl, rfl⟩
      ·
        refine st_on 11 rfl rfl rfl (o_y (v := .bool false) (y_f (y_k (v := .bool (decide (x.who ≥ 0))) rfl rfl (fun _ => by kernel_rfl)) h3) rfl rfl rfl ?_)
        refine st rfl (o_y (v := .bool false) (y_pick rfl rfl) rfl rfl rfl ?_)
        refine st rfl (o_y (v := .bool false) (y_mv rfl) rfl rfl rfl ?_)
        refine st_off 16 rfl rfl rfl rfl rfl rfl ?_
        refine st_off 16 rfl rfl rfl rfl rfl rfl ?_
        refine st_off 16 rfl rfl rfl rfl rfl rfl ?_
        refine st rfl (o_y (v := .bool false) (y_pick rfl rfl) rfl rfl rfl ?_)
        refine st rfl (o_y (v := .bool false) (y_mv rfl) rfl rfl rfl ?_)
        refine st_off 21 rfl rfl rfl rfl rfl rfl ?_
        refine st_off 21 rfl rfl rfl rfl rfl rfl ?_
        refine st_off 21 rfl rfl rfl rfl rfl rfl ?_
        refine st rfl (o_y (v := .bool false) (y_pick rfl rfl) rfl rfl rfl ?_)
        refine st rfl (o_y (v := .bool false) (y_mv rfl) rfl rfl rfl ?_)
        refine st_off 26 rfl rfl rfl rfl rfl rfl ?_
        refine st_off 26 rfl rfl rfl rfl rfl rfl ?_
        refine st_off 26 rfl rfl rfl rfl rfl rfl ?_
        refine st rfl (o_y (v := .bool false) (y_pick rfl rfl) rfl rfl rfl ?_)
        refine st rfl (o_y (v := .bool false) (y_mv rfl) rfl rfl rfl ?_)
        refine st_off 31 rfl rfl rfl rfl rfl rfl ?_
        refine st_off 31 rfl rfl rfl rfl rfl rfl ?_
        refine st_off 31 rfl rfl rfl rfl rfl rfl ?_
        refine st rfl (o_y (v := .bool false) (y_pick rfl rfl) rfl rfl rfl ?_)
        refine st rfl (o_y (v := .bool false) (y_mv rfl) rfl rfl rfl ?_)
        refine st_off 36 rfl rfl rfl rfl rfl rfl ?_
        refine st_off 36 rfl rfl rfl rfl rfl rfl ?_
        refine st_off 36 rfl rfl rfl rfl rfl rfl ?_
        refine st rfl (o_y (v := .bool false) (y_pick rfl rfl) rfl rfl rfl ?_)
        refine st rfl (o_y (v := .bool false) (y_mv rfl) rfl rfl rfl ?_)
        refine st_off 41 rfl rfl rfl rfl rfl rfl ?_
        refine st_off 41 rfl rfl rfl rfl rfl rfl ?_
        refine st_off 41 rfl rfl rfl rfl rfl rfl ?_
        refine st rfl (o_y (v := .bool false) (y_pick rfl rfl) rfl rfl rfl ?_)
        refine st rfl (o_y (v := .bool false) (y_as rfl) rfl rfl rfl ?_)
        refine s_nil ?_
        refine q_then ?_
        refine c_ret ?_
        refine c_fin (I' := []) [] [] rfl (.tmp rfl .nil) rfl rfl rfl ?_
        exact ⟨by show Value.bool _ = Value.bool _; congr 1; symm; first | exact decide_eq_true (by unfold recRight; first | omega | exact ⟨by omega, by omega, by omega, by omega, by omega, by omega, by omega, by omega, by assumption⟩ | (intro hh; exact absurd hh.2.2.2.2.2.2.2.2 (by assumption))) | exact decide_eq_false (by unfold recRight; first | omega | exact ⟨by omega, by omega, by omega, by omega, by omega, by omega, by omega, by omega, by assumption⟩ | (intro hh; exact absurd hh.2.2.2.2.2.2.2.2 (by assumption))), rfl, rfl⟩
    ·
      refine st_on 6 rfl rfl rfl (o_y (v := .bool false) (y_f (y_k (v := .bool (decide (x.st ≤ 400))) rfl rfl (fun _ => by kernel_rfl)) h2) rfl rfl rfl ?_)
      refine st rfl (o_y (v := .bool false) (y_pick rfl rfl) rfl rfl rfl ?_)
      refine st rfl (o_y (v := .bool false) (y_mv rfl) rfl rfl rfl ?_)
      refine st_off 11 rfl rfl rfl rfl rfl rfl ?_
      refine st_off 11 rfl rfl rfl rfl rfl rfl ?_
      refine st_off 11 rfl rfl rfl rfl rfl rfl ?_
      refine st rfl (o_y (v := .bool false) (y_pick rfl rfl) rfl rfl rfl ?_)
      refine st rfl (o_y (v := .bool false) (y_mv rfl) rfl rfl rfl ?_)
      refine st_off 16 rfl rfl rfl rfl rfl rfl ?_
      refine st_off 16 rfl rfl rfl rfl rfl rfl ?_
      refine st_off 16 rfl rfl rfl rfl rfl rfl ?_
      refine st rfl (o_y (v := .bool false) (y_pick rfl rfl) rfl rfl rfl ?_)
      refine st rfl (o_y (v := .bool false) (y_mv rfl) rfl rfl rfl ?_)
      refine st_off 21 rfl rfl rfl rfl rfl rfl ?_
      refine st_off 21 rfl rfl rfl rfl rfl rfl ?_
      refine st_off 21 rfl rfl rfl rfl rfl rfl ?_
      refine st rfl (o_y (v := .bool false) (y_pick rfl rfl) rfl rfl rfl ?_)
      refine st rfl (o_y (v := .bool false) (y_mv rfl) rfl rfl rfl ?_)
      refine st_off 26 rfl rfl rfl rfl rfl rfl ?_
      refine st_off 26 rfl rfl rfl rfl rfl rfl ?_
      refine st_off 26 rfl rfl rfl rfl rfl rfl ?_
      refine st rfl (o_y (v := .bool false) (y_pick rfl rfl) rfl rfl rfl ?_)
      refine st rfl (o_y (v := .bool false) (y_mv rfl) rfl rfl rfl ?_)
      refine st_off 31 rfl rfl rfl rfl rfl rfl ?_
      refine st_off 31 rfl rfl rfl rfl rfl rfl ?_
      refine st_off 31 rfl rfl rfl rfl rfl rfl ?_
      refine st rfl (o_y (v := .bool false) (y_pick rfl rfl) rfl rfl rfl ?_)
      refine st rfl (o_y (v := .bool false) (y_mv rfl) rfl rfl rfl ?_)
      refine st_off 36 rfl rfl rfl rfl rfl rfl ?_
      refine st_off 36 rfl rfl rfl rfl rfl rfl ?_
      refine st_off 36 rfl rfl rfl rfl rfl rfl ?_
      refine st rfl (o_y (v := .bool false) (y_pick rfl rfl) rfl rfl rfl ?_)
      refine st rfl (o_y (v := .bool false) (y_mv rfl) rfl rfl rfl ?_)
      refine st_off 41 rfl rfl rfl rfl rfl rfl ?_
      refine st_off 41 rfl rfl rfl rfl rfl rfl ?_
      refine st_off 41 rfl rfl rfl rfl rfl rfl ?_
      refine st rfl (o_y (v := .bool false) (y_pick rfl rfl) rfl rfl rfl ?_)
      refine st rfl (o_y (v := .bool false) (y_as rfl) rfl rfl rfl ?_)
      refine s_nil ?_
      refine q_then ?_
      refine c_ret ?_
      refine c_fin (I' := []) [] [] rfl (.tmp rfl .nil) rfl rfl rfl ?_
      exact ⟨by show Value.bool _ = Value.bool _; congr 1; symm; first | exact decide_eq_true (by unfold recRight; first | omega | exact ⟨by omega, by omega, by omega, by omega, by omega, by omega, by omega, by omega, by assumption⟩ | (intro hh; exact absurd hh.2.2.2.2.2.2.2.2 (by assumption))) | exact decide_eq_false (by unfold recRight; first | omega | exact ⟨by omega, by omega, by omega, by omega, by omega, by omega, by omega, by omega, by assumption⟩ | (intro hh; exact absurd hh.2.2.2.2.2.2.2.2 (by assumption))), rfl, rfl⟩
  ·
    refine st rfl (o_y (v := .bool false) (y_f (y_k (v := .bool (decide (x.st ≥ 1))) rfl rfl (fun _ => by kernel_rfl)) h1) rfl rfl rfl ?_)
    refine st rfl (o_y (v := .bool false) (y_mv rfl) rfl rfl rfl ?_)
    refine st_off 6 rfl rfl rfl rfl rfl rfl ?_
    refine st_off 6 rfl rfl rfl rfl rfl rfl ?_
    refine st_off 6 rfl rfl rfl rfl rfl rfl ?_
    refine st rfl (o_y (v := .bool false) (y_pick rfl rfl) rfl rfl rfl ?_)
    refine st rfl (o_y (v := .bool false) (y_mv rfl) rfl rfl rfl ?_)
    refine st_off 11 rfl rfl rfl rfl rfl rfl ?_
    refine st_off 11 rfl rfl rfl rfl rfl rfl ?_
    refine st_off 11 rfl rfl rfl rfl rfl rfl ?_
    refine st rfl (o_y (v := .bool false) (y_pick rfl rfl) rfl rfl rfl ?_)
    refine st rfl (o_y (v := .bool false) (y_mv rfl) rfl rfl rfl ?_)
    refine st_off 16 rfl rfl rfl rfl rfl rfl ?_
    refine st_off 16 rfl rfl rfl rfl rfl rfl ?_
    refine st_off 16 rfl rfl rfl rfl rfl rfl ?_
    refine st rfl (o_y (v := .bool false) (y_pick rfl rfl) rfl rfl rfl ?_)
    refine st rfl (o_y (v := .bool false) (y_mv rfl) rfl rfl rfl ?_)
    refine st_off 21 rfl rfl rfl rfl rfl rfl ?_
    refine st_off 21 rfl rfl rfl rfl rfl rfl ?_
    refine st_off 21 rfl rfl rfl rfl rfl rfl ?_
    refine st rfl (o_y (v := .bool false) (y_pick rfl rfl) rfl rfl rfl ?_)
    refine st rfl (o_y (v := .bool false) (y_mv rfl) rfl rfl rfl ?_)
    refine st_off 26 rfl rfl rfl rfl rfl rfl ?_
    refine st_off 26 rfl rfl rfl rfl rfl rfl ?_
    refine st_off 26 rfl rfl rfl rfl rfl rfl ?_
    refine st rfl (o_y (v := .bool false) (y_pick rfl rfl) rfl rfl rfl ?_)
    refine st rfl (o_y (v := .bool false) (y_mv rfl) rfl rfl rfl ?_)
    refine st_off 31 rfl rfl rfl rfl rfl rfl ?_
    refine st_off 31 rfl rfl rfl rfl rfl rfl ?_
    refine st_off 31 rfl rfl rfl rfl rfl rfl ?_
    refine st rfl (o_y (v := .bool false) (y_pick rfl rfl) rfl rfl rfl ?_)
    refine st rfl (o_y (v := .bool false) (y_mv rfl) rfl rfl rfl ?_)
    refine st_off 36 rfl rfl rfl rfl rfl rfl ?_
    refine st_off 36 rfl rfl rfl rfl rfl rfl ?_
    refine st_off 36 rfl rfl rfl rfl rfl rfl ?_
    refine st rfl (o_y (v := .bool false) (y_pick rfl rfl) rfl rfl rfl ?_)
    refine st rfl (o_y (v := .bool false) (y_mv rfl) rfl rfl rfl ?_)
    refine st_off 41 rfl rfl rfl rfl rfl rfl ?_
    refine st_off 41 rfl rfl rfl rfl rfl rfl ?_
    refine st_off 41 rfl rfl rfl rfl rfl rfl ?_
    refine st rfl (o_y (v := .bool false) (y_pick rfl rfl) rfl rfl rfl ?_)
    refine st rfl (o_y (v := .bool false) (y_as rfl) rfl rfl rfl ?_)
    refine s_nil ?_
    refine q_then ?_
    refine c_ret ?_
    refine c_fin (I' := []) [] [] rfl (.tmp rfl .nil) rfl rfl rfl ?_
    exact ⟨by show Value.bool _ = Value.bool _; congr 1; symm; first | exact decide_eq_true (by unfold recRight; first | omega | exact ⟨by omega, by omega, by omega, by omega, by omega, by omega, by omega, by omega, by assumption⟩ | (intro hh; exact absurd hh.2.2.2.2.2.2.2.2 (by assumption))) | exact decide_eq_false (by unfold recRight; first | omega | exact ⟨by omega, by omega, by omega, by omega, by omega, by omega, by omega, by omega, by assumption⟩ | (intro hh; exact absurd hh.2.2.2.2.2.2.2.2 (by assumption))), rfl, rfl⟩
end Go.Proofs.YtdfgedkjilpcgaaDoor
