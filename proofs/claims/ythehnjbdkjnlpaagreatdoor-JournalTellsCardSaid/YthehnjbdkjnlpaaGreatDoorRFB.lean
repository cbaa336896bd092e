/- The laws of chapter 15 (journal), walked over the given program; no condition but what stands in each theorem: part FB. -/
import Derived.Test.YthehnjbdkjnlpaaGreatDoorRRL
import Derived.Test.YthehnjbdkjnlpaaGreatDoorRFA
set_option linter.unusedVariables false
set_option linter.unusedSimpArgs false
set_option maxRecDepth 100000
set_option maxHeartbeats 8000000
namespace Go.Proofs.YthehnjbdkjnlpaaGreatDoor
open Go Go.Sl Go.RowKit Go.Extern.Stop Go.Stop Go.Extern
theorem ib1_ (c : UInt8) : Con Tryz.prog 92 [.string (⟨#[45, 58, 47]⟩ : ByteArray), .int .u8 (c.toNat : Int)] [] [] (fun v L' I' => v = .int .i64 (idx3 c) ∧ L' = [] ∧ I' = []) := by
 refine fn_of Tryz.func92 rfl Tryz.ntmps92 (by kernel_rfl) rfl (fun C => ?_)
 refine c_seq (c_region ?_)
 refine s_y rfl (v := .int .i64 0) (y_as rfl) rfl ?_
 refine s_nil (q_then (c_seq (c_region ?_)))
 refine s_y rfl (v := .string (⟨#[45, 58, 47]⟩ : ByteArray)) (y_mv rfl) rfl ?_
 refine s_y rfl (v := .int .u8 (c.toNat : Int)) (y_mv rfl) rfl ?_
 refine s_y rfl (v := .int .i64 (idx3 c)) (y_ext (H := Extern.BytealgIndexByte.indexByte) (@run_callFunc_extern Tryz.prog 93 _ Extern.BytealgIndexByte.indexByte Tryz.func93 (by kernel_rfl) (by kernel_rfl) (by kernel_rfl) (by kernel_rfl)) rfl rfl (fun w => run_idx3 c w)) rfl ?_
 refine s_y rfl (v := .int .i64 (idx3 c)) (y_as rfl) rfl ?_
 refine s_nil (q_then (c_ret ?_))
 refine c_fin (I' := []) [] [] rfl (.tmp rfl .nil) rfl rfl rfl ?_
 exact ⟨rfl, rfl, rfl⟩
theorem ib_ (c : UInt8) : Con Tryz.prog 91 [.string (⟨#[45, 58, 47]⟩ : ByteArray), .int .u8 (c.toNat : Int)] [] [] (fun v L' I' => v = .int .i64 (idx3 c) ∧ L' = [] ∧ I' = []) := by
 refine fn_of Tryz.func91 rfl Tryz.ntmps91 (by kernel_rfl) rfl (fun C => ?_)
 refine c_seq (c_region ?_)
 refine s_y rfl (v := .int .i64 0) (y_as rfl) rfl ?_
 refine s_nil (q_then (c_seq (c_region ?_)))
 refine s_y rfl (v := .string (⟨#[45, 58, 47]⟩ : ByteArray)) (y_mv rfl) rfl ?_
 refine s_y rfl (v := .int .u8 (c.toNat : Int)) (y_mv rfl) rfl ?_
 refine st rfl (o_call [] [] (ib1_ c) rfl rfl rfl rfl rfl rfl (fun v L' I' hq1 => ?_))
 obtain ⟨rfl, rfl, rfl⟩ := hq1
 refine s_y rfl (v := .int .i64 (idx3 c)) (y_as rfl) rfl ?_
 refine s_nil (q_then (c_ret ?_))
 refine c_fin (I' := []) [] [] rfl (.tmp rfl .nil) rfl rfl rfl ?_
 exact ⟨rfl, rfl, rfl⟩
theorem sign_ (b : Nat) (r : ByteArray) (ef : Addr) (hr0 : ¬ r = ⟨#[]⟩) (hr : r.size ≤ 100000) : Con Tryz.prog 90 [.pointer (some ⟨b, 0, none⟩)] [pt b [.string r, fefV ef false] 145] [cellsAt 2 0 [.iface 153 (.pointer (some ef))], errAt ef] (fun v L' I' => v = .tuple #[.int .u8 (((signF r).1).toNat : Int), .int .i64 ((signF r).2.1 : Int)] ∧ L' = [pt b [.string ((signF r).2.2.1), fefV ef ((signF r).2.2.2)] 145] ∧ I' = []) := by
 have hr1 := bl_pos hr0
 refine fn_of Tryz.func90 rfl Tryz.ntmps90 (by kernel_rfl) rfl (fun C => ?_)
 refine c_seq (c_region ?_)
 refine s_y rfl (v := .int .u8 0) (y_as rfl) rfl ?_
 refine s_y rfl (v := .int .i64 0) (y_as rfl) rfl ?_
 refine s_nil (q_then (c_seq (c_region ?_)))
 refine s_y rfl (v := .pointer (some ⟨b, 0, none⟩)) (y_mv rfl) rfl ?_
 refine s_y rfl (v := .pointer (some ⟨b, 0, none⟩)) (y_k rfl rfl (fun _ => by kernel_rfl)) rfl ?_
 refine s_y rfl (v := .pointer (some ⟨b, 0, none⟩)) (y_k rfl rfl (fun _ => by kernel_rfl)) rfl ?_
 refine s_y rfl (v := .pointer (some ⟨b, 0, none⟩)) (y_k rfl rfl (fun _ => by kernel_rfl)) rfl ?_
 refine st rfl (o_ld 0 rfl rfl rfl Tryz.underlying9 rfl rfl ?_)
 obtain ⟨x1, hb1⟩ : ∃ x, (r)[0]? = some x := ⟨_, getElem?_pos (r) 0 (by first | exact bl_pos (by assumption) | omega)⟩
 refine s_y rfl (v := .int .u8 (x1.toNat : Int)) (y_sidx 0 x1 rfl rfl (rfl) hb1 Tryz.underlying9) rfl ?_
 refine s_y rfl (v := .int .u8 (x1.toNat : Int)) (y_as rfl) rfl ?_
 refine s_y rfl (v := .int .i64 1) (y_as rfl) rfl ?_
 refine s_nil (q_then (c_seq (c_region ?_)))
 refine s_y rfl (v := .pointer (some ⟨b, 0, none⟩)) (y_mv rfl) rfl ?_
 refine s_y rfl (v := .pointer (some ⟨b, 0, none⟩)) (y_mv rfl) rfl ?_
 refine s_y rfl (v := .pointer (some ⟨b, 0, none⟩)) (y_k rfl rfl (fun _ => by kernel_rfl)) rfl ?_
 refine s_y rfl (v := .pointer (some ⟨b, 0, none⟩)) (y_k rfl rfl (fun _ => by kernel_rfl)) rfl ?_
 refine s_y rfl (v := .pointer (some ⟨b, 0, none⟩)) (y_k rfl rfl (fun _ => by kernel_rfl)) rfl ?_
 refine st rfl (o_ld 0 rfl rfl rfl Tryz.underlying9 rfl rfl ?_)
 refine s_y rfl (v := .string (r.extract 1 r.size)) (y_cuts 1 r.size rfl (.at 1 rfl (rfl)) .no Tryz.underlying9 (by first | omega | (rw [ByteArray.size_extract]; omega) | (have := bl_pos (by assumption : ¬ (r.extract 1 r.size) = _); omega)) (by first | omega | (rw [ByteArray.size_extract]; omega) | (have := bl_pos (by assumption : ¬ (r.extract 1 r.size) = _); omega))) rfl ?_
 refine s_y rfl (v := .pointer (some ⟨b, 0, none⟩)) (y_k rfl rfl (fun _ => by kernel_rfl)) rfl ?_
 refine s_y rfl (v := .pointer (some ⟨b, 0, none⟩)) (y_k rfl rfl (fun _ => by kernel_rfl)) rfl ?_
 refine s_y rfl (v := .pointer (some ⟨b, 0, none⟩)) (y_k rfl rfl (fun _ => by kernel_rfl)) rfl ?_
 refine st rfl (o_st 0 rfl rfl rfl rfl rfl (by kernel_rfl) (by kernel_rfl) rfl ?_)
 refine s_nil (q_then (c_seq (c_seq (c_region ?_))))
 refine s_y rfl (v := .int .u8 (x1.toNat : Int)) (y_mv rfl) rfl ?_
 refine st rfl (o_call [] [] (ib_ x1) rfl rfl rfl rfl rfl rfl (fun v L' I' hq1 => ?_))
 obtain ⟨rfl, rfl, rfl⟩ := hq1
 refine e_by (idx3 x1 ≥ 0) (fun h1 => ?_) (fun h1 => ?_)
 ·
  refine s_y rfl (v := .bool true) (y_t (y_k (v := .bool (decide (idx3 x1 ≥ 0))) rfl rfl (fun _ => by kernel_rfl)) h1) rfl ?_
  refine s_nil (q_then (c_true rfl (c_seq (c_region ?_))))
  refine s_y rfl (v := .int .u8 (x1.toNat : Int)) (y_mv rfl) rfl ?_
  refine s_y rfl (v := .int .i64 1) (y_mv rfl) rfl ?_
  refine s_y rfl (v := .int .u8 (x1.toNat : Int)) (y_as rfl) rfl ?_
  refine s_y rfl (v := .int .i64 1) (y_as rfl) rfl ?_
  refine s_nil (q_then (c_ret (q_then_ret ?_)))
  have hp : signF r = (x1, 1, r.extract 1 r.size, false) := by first | exact sign_simp hb1 (idx3_simp.1 (by assumption)) | exact sign_dig hb1 (fun q => absurd (idx3_simp.2 q) (by assumption)) (by unfold isDA; first | exact .inl ((u8_eqn (by decide)).1 (by assumption)) | exact .inr ((u8_eqn (by decide)).1 (by assumption))) hno (by unfold isDg; omega) | exact sign_bad hb1 (fun q => absurd (idx3_simp.2 q) (by assumption)) (by first | exact .inr (.inl (by assumption)) | exact .inr (.inr ⟨_, hno, by unfold isDg; omega⟩) | exact .inl (by unfold isDA; rintro (q | q) <;> subst q <;> contradiction))
  refine c_fin (I' := []) [0] [0, 1] rfl (.tmp rfl (.tmp rfl .nil)) rfl rfl rfl ?_
  rw [hp]
  exact ⟨rfl, rfl, rfl⟩
 ·
  refine s_y rfl (v := .bool false) (y_f (y_k (v := .bool (decide (idx3 x1 ≥ 0))) rfl rfl (fun _ => by kernel_rfl)) h1) rfl ?_
  refine s_nil (q_then (c_false rfl (c_skip (q_then (c_seq (c_seq (c_region ?_)))))))
  refine s_y rfl (v := .int .u8 (x1.toNat : Int)) (y_mv rfl) rfl ?_
  refine e_by ((x1.toNat : Int) = 100) (fun h2 => ?_) (fun h2 => ?_)
  ·
   refine s_y rfl (v := .bool false) (y_nt (y_k (v := .bool (!decide ((x1.toNat : Int) = 100))) rfl rfl (fun _ => by kernel_rfl)) h2) rfl ?_
   refine s_y rfl (v := .bool false) (y_mv rfl) rfl ?_
   refine st_off 29 rfl rfl rfl rfl rfl rfl ?_
   refine st_off 29 rfl rfl rfl rfl rfl rfl ?_
   refine s_y rfl (v := .bool false) (y_pick rfl rfl) rfl ?_
   refine s_y rfl (v := .bool false) (y_mv rfl) rfl ?_
   refine st_on 33 rfl rfl rfl (o_y (v := .pointer (some ⟨b, 0, none⟩)) (y_mv rfl) rfl rfl rfl ?_)
   refine st_on 33 rfl rfl rfl (o_y (v := .pointer (some ⟨b, 0, none⟩)) (y_k rfl rfl (fun _ => by kernel_rfl)) rfl rfl rfl ?_)
   refine st_on 33 rfl rfl rfl (o_y (v := .pointer (some ⟨b, 0, none⟩)) (y_k rfl rfl (fun _ => by kernel_rfl)) rfl rfl rfl ?_)
   refine st_on 33 rfl rfl rfl (o_y (v := .pointer (some ⟨b, 0, none⟩)) (y_k rfl rfl (fun _ => by kernel_rfl)) rfl rfl rfl ?_)
   refine st_on 33 rfl rfl rfl (o_ld 0 rfl rfl rfl Tryz.underlying9 rfl rfl ?_)
   refine e_by (r.extract 1 r.size = (⟨#[]⟩ : ByteArray)) (fun h3 => ?_) (fun h3 => ?_)
   ·
    refine st_on 33 rfl rfl rfl (o_y (v := .bool true) (y_b (y_k (v := .bool ((r.extract 1 r.size).toList == (⟨#[]⟩ : ByteArray).toList)) rfl rfl (fun _ => by kernel_rfl)) (str_t h3)) rfl rfl rfl ?_)
    refine s_y rfl (v := .bool true) (y_pick rfl rfl) rfl ?_
    refine s_y rfl (v := .bool true) (y_mv rfl) rfl ?_
    refine st_off 41 rfl rfl rfl rfl rfl rfl ?_
    refine st_off 41 rfl rfl rfl rfl rfl rfl ?_
    refine st_off 41 rfl rfl rfl rfl rfl rfl ?_
    refine st_off 41 rfl rfl rfl rfl rfl rfl ?_
    refine st_off 41 rfl rfl rfl rfl rfl rfl ?_
    refine st_off 41 rfl rfl rfl rfl rfl rfl ?_
    refine st_off 41 rfl rfl rfl rfl rfl rfl ?_
    refine s_y rfl (v := .bool true) (y_pick rfl rfl) rfl ?_
    refine s_y rfl (v := .bool true) (y_mv rfl) rfl ?_
    refine st_off 50 rfl rfl rfl rfl rfl rfl ?_
    refine st_off 50 rfl rfl rfl rfl rfl rfl ?_
    refine st_off 50 rfl rfl rfl rfl rfl rfl ?_
    refine st_off 50 rfl rfl rfl rfl rfl rfl ?_
    refine st_off 50 rfl rfl rfl rfl rfl rfl ?_
    refine st_off 50 rfl rfl rfl rfl rfl rfl ?_
    refine st_off 50 rfl rfl rfl rfl rfl rfl ?_
    refine s_y rfl (v := .bool true) (y_pick rfl rfl) rfl ?_
    refine s_nil (q_then (c_true rfl (c_seq (c_region ?_))))
    refine s_y rfl (v := .pointer (some ⟨b, 0, none⟩)) (y_mv rfl) rfl ?_
    refine st rfl (o_ldf 0 0 rfl rfl rfl Tryz.underlying50 rfl rfl ?_)
    refine s_y rfl (v := .pointer (some ⟨b, 0, none⟩)) (y_k rfl rfl (fun _ => by kernel_rfl)) rfl ?_
    refine s_y rfl (v := .pointer (some ⟨b, 1, none⟩)) (y_k rfl rfl (fun _ => by kernel_rfl)) rfl ?_
    refine st rfl (o_st 0 rfl rfl rfl rfl rfl (by kernel_rfl) (by kernel_rfl) rfl ?_)
    refine s_nil (q_then (c_seq (c_region ?_)))
    refine s_y rfl (v := .int .u8 (x1.toNat : Int)) (y_mv rfl) rfl ?_
    refine s_y rfl (v := .int .u8 (x1.toNat : Int)) (y_as rfl) rfl ?_
    refine s_y rfl (v := .int .i64 0) (y_as rfl) rfl ?_
    refine s_nil (q_then (c_ret (q_then_ret ?_)))
    show Ent _ _ _ _ [pt b [.string (r.extract 1 r.size), fefV ef true] 145] _ _
    have hp : signF r = (x1, 0, r.extract 1 r.size, true) := by first | exact sign_simp hb1 (idx3_simp.1 (by assumption)) | exact sign_dig hb1 (fun q => absurd (idx3_simp.2 q) (by assumption)) (by unfold isDA; first | exact .inl ((u8_eqn (by decide)).1 (by assumption)) | exact .inr ((u8_eqn (by decide)).1 (by assumption))) hno (by unfold isDg; omega) | exact sign_bad hb1 (fun q => absurd (idx3_simp.2 q) (by assumption)) (by first | exact .inr (.inl (by assumption)) | exact .inr (.inr ⟨_, hno, by unfold isDg; omega⟩) | exact .inl (by unfold isDA; rintro (q | q) <;> subst q <;> contradiction))
    refine c_fin (I' := []) [0] [0, 1] rfl (.tmp rfl (.tmp rfl .nil)) rfl rfl rfl ?_
    rw [hp]
    exact ⟨rfl, rfl, rfl⟩
   ·
    refine st_on 33 rfl rfl rfl (o_y (v := .bool false) (y_b (y_k (v := .bool ((r.extract 1 r.size).toList == (⟨#[]⟩ : ByteArray).toList)) rfl rfl (fun _ => by kernel_rfl)) (str_f h3)) rfl rfl rfl ?_)
    refine s_y rfl (v := .bool false) (y_pick rfl rfl) rfl ?_
    refine s_y rfl (v := .bool false) (y_mv rfl) rfl ?_
    refine st_on 41 rfl rfl rfl (o_y (v := .pointer (some ⟨b, 0, none⟩)) (y_mv rfl) rfl rfl rfl ?_)
    refine st_on 41 rfl rfl rfl (o_y (v := .pointer (some ⟨b, 0, none⟩)) (y_k rfl rfl (fun _ => by kernel_rfl)) rfl rfl rfl ?_)
    refine st_on 41 rfl rfl rfl (o_y (v := .pointer (some ⟨b, 0, none⟩)) (y_k rfl rfl (fun _ => by kernel_rfl)) rfl rfl rfl ?_)
    refine st_on 41 rfl rfl rfl (o_y (v := .pointer (some ⟨b, 0, none⟩)) (y_k rfl rfl (fun _ => by kernel_rfl)) rfl rfl rfl ?_)
    refine st_on 41 rfl rfl rfl (o_ld 0 rfl rfl rfl Tryz.underlying9 rfl rfl ?_)
    obtain ⟨x2, hb2⟩ : ∃ x, (r.extract 1 r.size)[0]? = some x := ⟨_, getElem?_pos (r.extract 1 r.size) 0 (by first | exact bl_pos (by assumption) | omega)⟩
    refine st_on 41 rfl rfl rfl (o_y (v := .int .u8 (x2.toNat : Int)) (y_sidx 0 x2 rfl rfl (rfl) hb2 Tryz.underlying9) rfl rfl rfl ?_)
    refine e_by ((x2.toNat : Int) < 49) (fun h4 => ?_) (fun h4 => ?_)
    ·
     refine st_on 41 rfl rfl rfl (o_y (v := .bool true) (y_t (y_k (v := .bool (decide ((x2.toNat : Int) < 49))) rfl rfl (fun _ => by kernel_rfl)) h4) rfl rfl rfl ?_)
     refine s_y rfl (v := .bool true) (y_pick rfl rfl) rfl ?_
     refine s_y rfl (v := .bool true) (y_mv rfl) rfl ?_
     refine st_off 50 rfl rfl rfl rfl rfl rfl ?_
     refine st_off 50 rfl rfl rfl rfl rfl rfl ?_
     refine st_off 50 rfl rfl rfl rfl rfl rfl ?_
     refine st_off 50 rfl rfl rfl rfl rfl rfl ?_
     refine st_off 50 rfl rfl rfl rfl rfl rfl ?_
     refine st_off 50 rfl rfl rfl rfl rfl rfl ?_
     refine st_off 50 rfl rfl rfl rfl rfl rfl ?_
     refine s_y rfl (v := .bool true) (y_pick rfl rfl) rfl ?_
     refine s_nil (q_then (c_true rfl (c_seq (c_region ?_))))
     refine s_y rfl (v := .pointer (some ⟨b, 0, none⟩)) (y_mv rfl) rfl ?_
     refine st rfl (o_ldf 0 0 rfl rfl rfl Tryz.underlying50 rfl rfl ?_)
     refine s_y rfl (v := .pointer (some ⟨b, 0, none⟩)) (y_k rfl rfl (fun _ => by kernel_rfl)) rfl ?_
     refine s_y rfl (v := .pointer (some ⟨b, 1, none⟩)) (y_k rfl rfl (fun _ => by kernel_rfl)) rfl ?_
     refine st rfl (o_st 0 rfl rfl rfl rfl rfl (by kernel_rfl) (by kernel_rfl) rfl ?_)
     refine s_nil (q_then (c_seq (c_region ?_)))
     refine s_y rfl (v := .int .u8 (x1.toNat : Int)) (y_mv rfl) rfl ?_
     refine s_y rfl (v := .int .u8 (x1.toNat : Int)) (y_as rfl) rfl ?_
     refine s_y rfl (v := .int .i64 0) (y_as rfl) rfl ?_
     refine s_nil (q_then (c_ret (q_then_ret ?_)))
     show Ent _ _ _ _ [pt b [.string (r.extract 1 r.size), fefV ef true] 145] _ _
     have hp : signF r = (x1, 0, r.extract 1 r.size, true) := by first | exact sign_simp hb1 (idx3_simp.1 (by assumption)) | exact sign_dig hb1 (fun q => absurd (idx3_simp.2 q) (by assumption)) (by unfold isDA; first | exact .inl ((u8_eqn (by decide)).1 (by assumption)) | exact .inr ((u8_eqn (by decide)).1 (by assumption))) hb2 (by unfold isDg; omega) | exact sign_bad hb1 (fun q => absurd (idx3_simp.2 q) (by assumption)) (by first | exact .inr (.inl (by assumption)) | exact .inr (.inr ⟨_, hb2, by unfold isDg; omega⟩) | exact .inl (by unfold isDA; rintro (q | q) <;> subst q <;> contradiction))
     refine c_fin (I' := []) [0] [0, 1] rfl (.tmp rfl (.tmp rfl .nil)) rfl rfl rfl ?_
     rw [hp]
     exact ⟨rfl, rfl, rfl⟩
    ·
     refine st_on 41 rfl rfl rfl (o_y (v := .bool false) (y_f (y_k (v := .bool (decide ((x2.toNat : Int) < 49))) rfl rfl (fun _ => by kernel_rfl)) h4) rfl rfl rfl ?_)
     refine s_y rfl (v := .bool false) (y_pick rfl rfl) rfl ?_
     refine s_y rfl (v := .bool false) (y_mv rfl) rfl ?_
     refine st_on 50 rfl rfl rfl (o_y (v := .pointer (some ⟨b, 0, none⟩)) (y_mv rfl) rfl rfl rfl ?_)
     refine st_on 50 rfl rfl rfl (o_y (v := .pointer (some ⟨b, 0, none⟩)) (y_k rfl rfl (fun _ => by kernel_rfl)) rfl rfl rfl ?_)
     refine st_on 50 rfl rfl rfl (o_y (v := .pointer (some ⟨b, 0, none⟩)) (y_k rfl rfl (fun _ => by kernel_rfl)) rfl rfl rfl ?_)
     refine st_on 50 rfl rfl rfl (o_y (v := .pointer (some ⟨b, 0, none⟩)) (y_k rfl rfl (fun _ => by kernel_rfl)) rfl rfl rfl ?_)
     refine st_on 50 rfl rfl rfl (o_ld 0 rfl rfl rfl Tryz.underlying9 rfl rfl ?_)
     refine st_on 50 rfl rfl rfl (o_y (v := .int .u8 (x2.toNat : Int)) (y_sidx 0 x2 rfl rfl (rfl) hb2 Tryz.underlying9) rfl rfl rfl ?_)
     refine e_by ((x2.toNat : Int) > 57) (fun h5 => ?_) (fun h5 => ?_)
     ·
      refine st_on 50 rfl rfl rfl (o_y (v := .bool true) (y_t (y_k (v := .bool (decide ((x2.toNat : Int) > 57))) rfl rfl (fun _ => by kernel_rfl)) h5) rfl rfl rfl ?_)
      refine s_y rfl (v := .bool true) (y_pick rfl rfl) rfl ?_
      refine s_nil (q_then (c_true rfl (c_seq (c_region ?_))))
      refine s_y rfl (v := .pointer (some ⟨b, 0, none⟩)) (y_mv rfl) rfl ?_
      refine st rfl (o_ldf 0 0 rfl rfl rfl Tryz.underlying50 rfl rfl ?_)
      refine s_y rfl (v := .pointer (some ⟨b, 0, none⟩)) (y_k rfl rfl (fun _ => by kernel_rfl)) rfl ?_
      refine s_y rfl (v := .pointer (some ⟨b, 1, none⟩)) (y_k rfl rfl (fun _ => by kernel_rfl)) rfl ?_
      refine st rfl (o_st 0 rfl rfl rfl rfl rfl (by kernel_rfl) (by kernel_rfl) rfl ?_)
      refine s_nil (q_then (c_seq (c_region ?_)))
      refine s_y rfl (v := .int .u8 (x1.toNat : Int)) (y_mv rfl) rfl ?_
      refine s_y rfl (v := .int .u8 (x1.toNat : Int)) (y_as rfl) rfl ?_
      refine s_y rfl (v := .int .i64 0) (y_as rfl) rfl ?_
      refine s_nil (q_then (c_ret (q_then_ret ?_)))
      show Ent _ _ _ _ [pt b [.string (r.extract 1 r.size), fefV ef true] 145] _ _
      have hp : signF r = (x1, 0, r.extract 1 r.size, true) := by first | exact sign_simp hb1 (idx3_simp.1 (by assumption)) | exact sign_dig hb1 (fun q => absurd (idx3_simp.2 q) (by assumption)) (by unfold isDA; first | exact .inl ((u8_eqn (by decide)).1 (by assumption)) | exact .inr ((u8_eqn (by decide)).1 (by assumption))) hb2 (by unfold isDg; omega) | exact sign_bad hb1 (fun q => absurd (idx3_simp.2 q) (by assumption)) (by first | exact .inr (.inl (by assumption)) | exact .inr (.inr ⟨_, hb2, by unfold isDg; omega⟩) | exact .inl (by unfold isDA; rintro (q | q) <;> subst q <;> contradiction))
      refine c_fin (I' := []) [0] [0, 1] rfl (.tmp rfl (.tmp rfl .nil)) rfl rfl rfl ?_
      rw [hp]
      exact ⟨rfl, rfl, rfl⟩
     ·
      refine st_on 50 rfl rfl rfl (o_y (v := .bool false) (y_f (y_k (v := .bool (decide ((x2.toNat : Int) > 57))) rfl rfl (fun _ => by kernel_rfl)) h5) rfl rfl rfl ?_)
      refine s_y rfl (v := .bool false) (y_pick rfl rfl) rfl ?_
      refine s_nil (q_then (c_false rfl (c_skip (q_then (c_seq (c_region ?_))))))
      refine s_y rfl (v := .pointer (some ⟨b, 0, none⟩)) (y_mv rfl) rfl ?_
      refine s_y rfl (v := .pointer (some ⟨b, 0, none⟩)) (y_k rfl rfl (fun _ => by kernel_rfl)) rfl ?_
      refine s_y rfl (v := .pointer (some ⟨b, 0, none⟩)) (y_k rfl rfl (fun _ => by kernel_rfl)) rfl ?_
      refine s_y rfl (v := .pointer (some ⟨b, 0, none⟩)) (y_k rfl rfl (fun _ => by kernel_rfl)) rfl ?_
      refine st rfl (o_ld 0 rfl rfl rfl Tryz.underlying9 rfl rfl ?_)
      refine s_y rfl (v := .int .u8 (x2.toNat : Int)) (y_sidx 0 x2 rfl rfl (rfl) hb2 Tryz.underlying9) rfl ?_
      refine s_y rfl (v := .int .u8 ((x2.toNat : Int) - 48)) (y_sub8 (r := (x2.toNat : Int) - 48) rfl rfl rfl (by omega)) rfl ?_
      refine s_y rfl (v := .int .i64 ((x2.toNat : Int) - 48)) (y_cvi (r := (x2.toNat : Int) - 48) rfl Tryz.underlying5 Tryz.underlying3 (wrap_in (by omega) (by omega))) rfl ?_
      refine s_y rfl (v := .int .i64 ((x2.toNat : Int) - 48)) (y_as rfl) rfl ?_
      refine s_nil (q_then (c_seq (c_region ?_)))
      refine s_y rfl (v := .pointer (some ⟨b, 0, none⟩)) (y_mv rfl) rfl ?_
      refine s_y rfl (v := .pointer (some ⟨b, 0, none⟩)) (y_mv rfl) rfl ?_
      refine s_y rfl (v := .pointer (some ⟨b, 0, none⟩)) (y_k rfl rfl (fun _ => by kernel_rfl)) rfl ?_
      refine s_y rfl (v := .pointer (some ⟨b, 0, none⟩)) (y_k rfl rfl (fun _ => by kernel_rfl)) rfl ?_
      refine s_y rfl (v := .pointer (some ⟨b, 0, none⟩)) (y_k rfl rfl (fun _ => by kernel_rfl)) rfl ?_
      refine st rfl (o_ld 0 rfl rfl rfl Tryz.underlying9 rfl rfl ?_)
      refine s_y rfl (v := .string ((r.extract 1 r.size).extract 1 ((r.extract 1 r.size).size))) (y_cuts 1 ((r.extract 1 r.size).size) rfl (.at 1 rfl (rfl)) .no Tryz.underlying9 (by first | omega | (rw [ByteArray.size_extract]; omega) | (have := bl_pos (by assumption : ¬ (r.extract 1 r.size) = _); omega)) (by first | omega | (rw [ByteArray.size_extract]; omega) | (have := bl_pos (by assumption : ¬ (r.extract 1 r.size) = _); omega))) rfl ?_
      refine s_y rfl (v := .pointer (some ⟨b, 0, none⟩)) (y_k rfl rfl (fun _ => by kernel_rfl)) rfl ?_
      refine s_y rfl (v := .pointer (some ⟨b, 0, none⟩)) (y_k rfl rfl (fun _ => by kernel_rfl)) rfl ?_
      refine s_y rfl (v := .pointer (some ⟨b, 0, none⟩)) (y_k rfl rfl (fun _ => by kernel_rfl)) rfl ?_
      refine st rfl (o_st 0 rfl rfl rfl rfl rfl (by kernel_rfl) (by kernel_rfl) rfl ?_)
      refine s_nil (q_then (c_seq (c_region ?_)))
      refine s_y rfl (v := .int .u8 (x1.toNat : Int)) (y_mv rfl) rfl ?_
      refine s_y rfl (v := .int .i64 ((x2.toNat : Int) - 48)) (y_mv rfl) rfl ?_
      refine s_y rfl (v := .int .u8 (x1.toNat : Int)) (y_as rfl) rfl ?_
      refine s_y rfl (v := .int .i64 ((x2.toNat : Int) - 48)) (y_as rfl) rfl ?_
      refine s_nil (q_then (c_ret ?_))
      have hp : signF r = (x1, x2.toNat - 48, (r.extract 1 r.size).extract 1 ((r.extract 1 r.size).size), false) := by first | exact sign_simp hb1 (idx3_simp.1 (by assumption)) | exact sign_dig hb1 (fun q => absurd (idx3_simp.2 q) (by assumption)) (by unfold isDA; first | exact .inl ((u8_eqn (by decide)).1 (by assumption)) | exact .inr ((u8_eqn (by decide)).1 (by assumption))) hb2 (by unfold isDg; omega) | exact sign_bad hb1 (fun q => absurd (idx3_simp.2 q) (by assumption)) (by first | exact .inr (.inl (by assumption)) | exact .inr (.inr ⟨_, hb2, by unfold isDg; omega⟩) | exact .inl (by unfold isDA; rintro (q | q) <;> subst q <;> contradiction))
      refine c_fin (I' := []) [0] [0, 1] rfl (.tmp rfl (.tmp rfl .nil)) rfl rfl rfl ?_
      rw [hp]
      exact ⟨by simp only [packed]; rw [show ((x2.toNat - 48 : Nat) : Int) = (x2.toNat : Int) - 48 from by omega], rfl, rfl⟩
  ·
   refine s_y rfl (v := .bool true) (y_nf (y_k (v := .bool (!decide ((x1.toNat : Int) = 100))) rfl rfl (fun _ => by kernel_rfl)) h2) rfl ?_
   refine s_y rfl (v := .bool true) (y_mv rfl) rfl ?_
   refine st_on 29 rfl rfl rfl (o_y (v := .int .u8 (x1.toNat : Int)) (y_mv rfl) rfl rfl rfl ?_)
   refine e_by ((x1.toNat : Int) = 97) (fun h6 => ?_) (fun h6 => ?_)
   ·
    refine st_on 29 rfl rfl rfl (o_y (v := .bool false) (y_nt (y_k (v := .bool (!decide ((x1.toNat : Int) = 97))) rfl rfl (fun _ => by kernel_rfl)) h6) rfl rfl rfl ?_)
    refine s_y rfl (v := .bool false) (y_pick rfl rfl) rfl ?_
    refine s_y rfl (v := .bool false) (y_mv rfl) rfl ?_
    refine st_on 33 rfl rfl rfl (o_y (v := .pointer (some ⟨b, 0, none⟩)) (y_mv rfl) rfl rfl rfl ?_)
    refine st_on 33 rfl rfl rfl (o_y (v := .pointer (some ⟨b, 0, none⟩)) (y_k rfl rfl (fun _ => by kernel_rfl)) rfl rfl rfl ?_)
    refine st_on 33 rfl rfl rfl (o_y (v := .pointer (some ⟨b, 0, none⟩)) (y_k rfl rfl (fun _ => by kernel_rfl)) rfl rfl rfl ?_)
    refine st_on 33 rfl rfl rfl (o_y (v := .pointer (some ⟨b, 0, none⟩)) (y_k rfl rfl (fun _ => by kernel_rfl)) rfl rfl rfl ?_)
    refine st_on 33 rfl rfl rfl (o_ld 0 rfl rfl rfl Tryz.underlying9 rfl rfl ?_)
    refine e_by (r.extract 1 r.size = (⟨#[]⟩ : ByteArray)) (fun h7 => ?_) (fun h7 => ?_)
    ·
     refine st_on 33 rfl rfl rfl (o_y (v := .bool true) (y_b (y_k (v := .bool ((r.extract 1 r.size).toList == (⟨#[]⟩ : ByteArray).toList)) rfl rfl (fun _ => by kernel_rfl)) (str_t h7)) rfl rfl rfl ?_)
     refine s_y rfl (v := .bool true) (y_pick rfl rfl) rfl ?_
     refine s_y rfl (v := .bool true) (y_mv rfl) rfl ?_
     refine st_off 41 rfl rfl rfl rfl rfl rfl ?_
     refine st_off 41 rfl rfl rfl rfl rfl rfl ?_
     refine st_off 41 rfl rfl rfl rfl rfl rfl ?_
     refine st_off 41 rfl rfl rfl rfl rfl rfl ?_
     refine st_off 41 rfl rfl rfl rfl rfl rfl ?_
     refine st_off 41 rfl rfl rfl rfl rfl rfl ?_
     refine st_off 41 rfl rfl rfl rfl rfl rfl ?_
     refine s_y rfl (v := .bool true) (y_pick rfl rfl) rfl ?_
     refine s_y rfl (v := .bool true) (y_mv rfl) rfl ?_
     refine st_off 50 rfl rfl rfl rfl rfl rfl ?_
     refine st_off 50 rfl rfl rfl rfl rfl rfl ?_
     refine st_off 50 rfl rfl rfl rfl rfl rfl ?_
     refine st_off 50 rfl rfl rfl rfl rfl rfl ?_
     refine st_off 50 rfl rfl rfl rfl rfl rfl ?_
     refine st_off 50 rfl rfl rfl rfl rfl rfl ?_
     refine st_off 50 rfl rfl rfl rfl rfl rfl ?_
     refine s_y rfl (v := .bool true) (y_pick rfl rfl) rfl ?_
     refine s_nil (q_then (c_true rfl (c_seq (c_region ?_))))
     refine s_y rfl (v := .pointer (some ⟨b, 0, none⟩)) (y_mv rfl) rfl ?_
     refine st rfl (o_ldf 0 0 rfl rfl rfl Tryz.underlying50 rfl rfl ?_)
     refine s_y rfl (v := .pointer (some ⟨b, 0, none⟩)) (y_k rfl rfl (fun _ => by kernel_rfl)) rfl ?_
     refine s_y rfl (v := .pointer (some ⟨b, 1, none⟩)) (y_k rfl rfl (fun _ => by kernel_rfl)) rfl ?_
     refine st rfl (o_st 0 rfl rfl rfl rfl rfl (by kernel_rfl) (by kernel_rfl) rfl ?_)
     refine s_nil (q_then (c_seq (c_region ?_)))
     refine s_y rfl (v := .int .u8 (x1.toNat : Int)) (y_mv rfl) rfl ?_
     refine s_y rfl (v := .int .u8 (x1.toNat : Int)) (y_as rfl) rfl ?_
     refine s_y rfl (v := .int .i64 0) (y_as rfl) rfl ?_
     refine s_nil (q_then (c_ret (q_then_ret ?_)))
     show Ent _ _ _ _ [pt b [.string (r.extract 1 r.size), fefV ef true] 145] _ _
     have hp : signF r = (x1, 0, r.extract 1 r.size, true) := by first | exact sign_simp hb1 (idx3_simp.1 (by assumption)) | exact sign_dig hb1 (fun q => absurd (idx3_simp.2 q) (by assumption)) (by unfold isDA; first | exact .inl ((u8_eqn (by decide)).1 (by assumption)) | exact .inr ((u8_eqn (by decide)).1 (by assumption))) hno (by unfold isDg; omega) | exact sign_bad hb1 (fun q => absurd (idx3_simp.2 q) (by assumption)) (by first | exact .inr (.inl (by assumption)) | exact .inr (.inr ⟨_, hno, by unfold isDg; omega⟩) | exact .inl (by unfold isDA; rintro (q | q) <;> subst q <;> contradiction))
     refine c_fin (I' := []) [0] [0, 1] rfl (.tmp rfl (.tmp rfl .nil)) rfl rfl rfl ?_
     rw [hp]
     exact ⟨rfl, rfl, rfl⟩
    ·
     refine st_on 33 rfl rfl rfl (o_y (v := .bool false) (y_b (y_k (v := .bool ((r.extract 1 r.size).toList == (⟨#[]⟩ : ByteArray).toList)) rfl rfl (fun _ => by kernel_rfl)) (str_f h7)) rfl rfl rfl ?_)
     refine s_y rfl (v := .bool false) (y_pick rfl rfl) rfl ?_
     refine s_y rfl (v := .bool false) (y_mv rfl) rfl ?_
     refine st_on 41 rfl rfl rfl (o_y (v := .pointer (some ⟨b, 0, none⟩)) (y_mv rfl) rfl rfl rfl ?_)
     refine st_on 41 rfl rfl rfl (o_y (v := .pointer (some ⟨b, 0, none⟩)) (y_k rfl rfl (fun _ => by kernel_rfl)) rfl rfl rfl ?_)
     refine st_on 41 rfl rfl rfl (o_y (v := .pointer (some ⟨b, 0, none⟩)) (y_k rfl rfl (fun _ => by kernel_rfl)) rfl rfl rfl ?_)
     refine st_on 41 rfl rfl rfl (o_y (v := .pointer (some ⟨b, 0, none⟩)) (y_k rfl rfl (fun _ => by kernel_rfl)) rfl rfl rfl ?_)
     refine st_on 41 rfl rfl rfl (o_ld 0 rfl rfl rfl Tryz.underlying9 rfl rfl ?_)
     obtain ⟨x3, hb3⟩ : ∃ x, (r.extract 1 r.size)[0]? = some x := ⟨_, getElem?_pos (r.extract 1 r.size) 0 (by first | exact bl_pos (by assumption) | omega)⟩
     refine st_on 41 rfl rfl rfl (o_y (v := .int .u8 (x3.toNat : Int)) (y_sidx 0 x3 rfl rfl (rfl) hb3 Tryz.underlying9) rfl rfl rfl ?_)
     refine e_by ((x3.toNat : Int) < 49) (fun h8 => ?_) (fun h8 => ?_)
     ·
      refine st_on 41 rfl rfl rfl (o_y (v := .bool true) (y_t (y_k (v := .bool (decide ((x3.toNat : Int) < 49))) rfl rfl (fun _ => by kernel_rfl)) h8) rfl rfl rfl ?_)
      refine s_y rfl (v := .bool true) (y_pick rfl rfl) rfl ?_
      refine s_y rfl (v := .bool true) (y_mv rfl) rfl ?_
      refine st_off 50 rfl rfl rfl rfl rfl rfl ?_
      refine st_off 50 rfl rfl rfl rfl rfl rfl ?_
      refine st_off 50 rfl rfl rfl rfl rfl rfl ?_
      refine st_off 50 rfl rfl rfl rfl rfl rfl ?_
      refine st_off 50 rfl rfl rfl rfl rfl rfl ?_
      refine st_off 50 rfl rfl rfl rfl rfl rfl ?_
      refine st_off 50 rfl rfl rfl rfl rfl rfl ?_
      refine s_y rfl (v := .bool true) (y_pick rfl rfl) rfl ?_
      refine s_nil (q_then (c_true rfl (c_seq (c_region ?_))))
      refine s_y rfl (v := .pointer (some ⟨b, 0, none⟩)) (y_mv rfl) rfl ?_
      refine st rfl (o_ldf 0 0 rfl rfl rfl Tryz.underlying50 rfl rfl ?_)
      refine s_y rfl (v := .pointer (some ⟨b, 0, none⟩)) (y_k rfl rfl (fun _ => by kernel_rfl)) rfl ?_
      refine s_y rfl (v := .pointer (some ⟨b, 1, none⟩)) (y_k rfl rfl (fun _ => by kernel_rfl)) rfl ?_
      refine st rfl (o_st 0 rfl rfl rfl rfl rfl (by kernel_rfl) (by kernel_rfl) rfl ?_)
      refine s_nil (q_then (c_seq (c_region ?_)))
      refine s_y rfl (v := .int .u8 (x1.toNat : Int)) (y_mv rfl) rfl ?_
      refine s_y rfl (v := .int .u8 (x1.toNat : Int)) (y_as rfl) rfl ?_
      refine s_y rfl (v := .int .i64 0) (y_as rfl) rfl ?_
      refine s_nil (q_then (c_ret (q_then_ret ?_)))
      show Ent _ _ _ _ [pt b [.string (r.extract 1 r.size), fefV ef true] 145] _ _
      have hp : signF r = (x1, 0, r.extract 1 r.size, true) := by first | exact sign_simp hb1 (idx3_simp.1 (by assumption)) | exact sign_dig hb1 (fun q => absurd (idx3_simp.2 q) (by assumption)) (by unfold isDA; first | exact .inl ((u8_eqn (by decide)).1 (by assumption)) | exact .inr ((u8_eqn (by decide)).1 (by assumption))) hb3 (by unfold isDg; omega) | exact sign_bad hb1 (fun q => absurd (idx3_simp.2 q) (by assumption)) (by first | exact .inr (.inl (by assumption)) | exact .inr (.inr ⟨_, hb3, by unfold isDg; omega⟩) | exact .inl (by unfold isDA; rintro (q | q) <;> subst q <;> contradiction))
      refine c_fin (I' := []) [0] [0, 1] rfl (.tmp rfl (.tmp rfl .nil)) rfl rfl rfl ?_
      rw [hp]
      exact ⟨rfl, rfl, rfl⟩
     ·
      refine st_on 41 rfl rfl rfl (o_y (v := .bool false) (y_f (y_k (v := .bool (decide ((x3.toNat : Int) < 49))) rfl rfl (fun _ => by kernel_rfl)) h8) rfl rfl rfl ?_)
      refine s_y rfl (v := .bool false) (y_pick rfl rfl) rfl ?_
      refine s_y rfl (v := .bool false) (y_mv rfl) rfl ?_
      refine st_on 50 rfl rfl rfl (o_y (v := .pointer (some ⟨b, 0, none⟩)) (y_mv rfl) rfl rfl rfl ?_)
      refine st_on 50 rfl rfl rfl (o_y (v := .pointer (some ⟨b, 0, none⟩)) (y_k rfl rfl (fun _ => by kernel_rfl)) rfl rfl rfl ?_)
      refine st_on 50 rfl rfl rfl (o_y (v := .pointer (some ⟨b, 0, none⟩)) (y_k rfl rfl (fun _ => by kernel_rfl)) rfl rfl rfl ?_)
      refine st_on 50 rfl rfl rfl (o_y (v := .pointer (some ⟨b, 0, none⟩)) (y_k rfl rfl (fun _ => by kernel_rfl)) rfl rfl rfl ?_)
      refine st_on 50 rfl rfl rfl (o_ld 0 rfl rfl rfl Tryz.underlying9 rfl rfl ?_)
      refine st_on 50 rfl rfl rfl (o_y (v := .int .u8 (x3.toNat : Int)) (y_sidx 0 x3 rfl rfl (rfl) hb3 Tryz.underlying9) rfl rfl rfl ?_)
      refine e_by ((x3.toNat : Int) > 57) (fun h9 => ?_) (fun h9 => ?_)
      ·
       refine st_on 50 rfl rfl rfl (o_y (v := .bool true) (y_t (y_k (v := .bool (decide ((x3.toNat : Int) > 57))) rfl rfl (fun _ => by kernel_rfl)) h9) rfl rfl rfl ?_)
       refine s_y rfl (v := .bool true) (y_pick rfl rfl) rfl ?_
       refine s_nil (q_then (c_true rfl (c_seq (c_region ?_))))
       refine s_y rfl (v := .pointer (some ⟨b, 0, none⟩)) (y_mv rfl) rfl ?_
       refine st rfl (o_ldf 0 0 rfl rfl rfl Tryz.underlying50 rfl rfl ?_)
       refine s_y rfl (v := .pointer (some ⟨b, 0, none⟩)) (y_k rfl rfl (fun _ => by kernel_rfl)) rfl ?_
       refine s_y rfl (v := .pointer (some ⟨b, 1, none⟩)) (y_k rfl rfl (fun _ => by kernel_rfl)) rfl ?_
       refine st rfl (o_st 0 rfl rfl rfl rfl rfl (by kernel_rfl) (by kernel_rfl) rfl ?_)
       refine s_nil (q_then (c_seq (c_region ?_)))
       refine s_y rfl (v := .int .u8 (x1.toNat : Int)) (y_mv rfl) rfl ?_
       refine s_y rfl (v := .int .u8 (x1.toNat : Int)) (y_as rfl) rfl ?_
       refine s_y rfl (v := .int .i64 0) (y_as rfl) rfl ?_
       refine s_nil (q_then (c_ret (q_then_ret ?_)))
       show Ent _ _ _ _ [pt b [.string (r.extract 1 r.size), fefV ef true] 145] _ _
       have hp : signF r = (x1, 0, r.extract 1 r.size, true) := by first | exact sign_simp hb1 (idx3_simp.1 (by assumption)) | exact sign_dig hb1 (fun q => absurd (idx3_simp.2 q) (by assumption)) (by unfold isDA; first | exact .inl ((u8_eqn (by decide)).1 (by assumption)) | exact .inr ((u8_eqn (by decide)).1 (by assumption))) hb3 (by unfold isDg; omega) | exact sign_bad hb1 (fun q => absurd (idx3_simp.2 q) (by assumption)) (by first | exact .inr (.inl (by assumption)) | exact .inr (.inr ⟨_, hb3, by unfold isDg; omega⟩) | exact .inl (by unfold isDA; rintro (q | q) <;> subst q <;> contradiction))
       refine c_fin (I' := []) [0] [0, 1] rfl (.tmp rfl (.tmp rfl .nil)) rfl rfl rfl ?_
       rw [hp]
       exact ⟨rfl, rfl, rfl⟩
      ·
       refine st_on 50 rfl rfl rfl (o_y (v := .bool false) (y_f (y_k (v := .bool (decide ((x3.toNat : Int) > 57))) rfl rfl (fun _ => by kernel_rfl)) h9) rfl rfl rfl ?_)
       refine s_y rfl (v := .bool false) (y_pick rfl rfl) rfl ?_
       refine s_nil (q_then (c_false rfl (c_skip (q_then (c_seq (c_region ?_))))))
       refine s_y rfl (v := .pointer (some ⟨b, 0, none⟩)) (y_mv rfl) rfl ?_
       refine s_y rfl (v := .pointer (some ⟨b, 0, none⟩)) (y_k rfl rfl (fun _ => by kernel_rfl)) rfl ?_
       refine s_y rfl (v := .pointer (some ⟨b, 0, none⟩)) (y_k rfl rfl (fun _ => by kernel_rfl)) rfl ?_
       refine s_y rfl (v := .pointer (some ⟨b, 0, none⟩)) (y_k rfl rfl (fun _ => by kernel_rfl)) rfl ?_
       refine st rfl (o_ld 0 rfl rfl rfl Tryz.underlying9 rfl rfl ?_)
       refine s_y rfl (v := .int .u8 (x3.toNat : Int)) (y_sidx 0 x3 rfl rfl (rfl) hb3 Tryz.underlying9) rfl ?_
       refine s_y rfl (v := .int .u8 ((x3.toNat : Int) - 48)) (y_sub8 (r := (x3.toNat : Int) - 48) rfl rfl rfl (by omega)) rfl ?_
       refine s_y rfl (v := .int .i64 ((x3.toNat : Int) - 48)) (y_cvi (r := (x3.toNat : Int) - 48) rfl Tryz.underlying5 Tryz.underlying3 (wrap_in (by omega) (by omega))) rfl ?_
       refine s_y rfl (v := .int .i64 ((x3.toNat : Int) - 48)) (y_as rfl) rfl ?_
       refine s_nil (q_then (c_seq (c_region ?_)))
       refine s_y rfl (v := .pointer (some ⟨b, 0, none⟩)) (y_mv rfl) rfl ?_
       refine s_y rfl (v := .pointer (some ⟨b, 0, none⟩)) (y_mv rfl) rfl ?_
       refine s_y rfl (v := .pointer (some ⟨b, 0, none⟩)) (y_k rfl rfl (fun _ => by kernel_rfl)) rfl ?_
       refine s_y rfl (v := .pointer (some ⟨b, 0, none⟩)) (y_k rfl rfl (fun _ => by kernel_rfl)) rfl ?_
       refine s_y rfl (v := .pointer (some ⟨b, 0, none⟩)) (y_k rfl rfl (fun _ => by kernel_rfl)) rfl ?_
       refine st rfl (o_ld 0 rfl rfl rfl Tryz.underlying9 rfl rfl ?_)
       refine s_y rfl (v := .string ((r.extract 1 r.size).extract 1 ((r.extract 1 r.size).size))) (y_cuts 1 ((r.extract 1 r.size).size) rfl (.at 1 rfl (rfl)) .no Tryz.underlying9 (by first | omega | (rw [ByteArray.size_extract]; omega) | (have := bl_pos (by assumption : ¬ (r.extract 1 r.size) = _); omega)) (by first | omega | (rw [ByteArray.size_extract]; omega) | (have := bl_pos (by assumption : ¬ (r.extract 1 r.size) = _); omega))) rfl ?_
       refine s_y rfl (v := .pointer (some ⟨b, 0, none⟩)) (y_k rfl rfl (fun _ => by kernel_rfl)) rfl ?_
       refine s_y rfl (v := .pointer (some ⟨b, 0, none⟩)) (y_k rfl rfl (fun _ => by kernel_rfl)) rfl ?_
       refine s_y rfl (v := .pointer (some ⟨b, 0, none⟩)) (y_k rfl rfl (fun _ => by kernel_rfl)) rfl ?_
       refine st rfl (o_st 0 rfl rfl rfl rfl rfl (by kernel_rfl) (by kernel_rfl) rfl ?_)
       refine s_nil (q_then (c_seq (c_region ?_)))
       refine s_y rfl (v := .int .u8 (x1.toNat : Int)) (y_mv rfl) rfl ?_
       refine s_y rfl (v := .int .i64 ((x3.toNat : Int) - 48)) (y_mv rfl) rfl ?_
       refine s_y rfl (v := .int .u8 (x1.toNat : Int)) (y_as rfl) rfl ?_
       refine s_y rfl (v := .int .i64 ((x3.toNat : Int) - 48)) (y_as rfl) rfl ?_
       refine s_nil (q_then (c_ret ?_))
       have hp : signF r = (x1, x3.toNat - 48, (r.extract 1 r.size).extract 1 ((r.extract 1 r.size).size), false) := by first | exact sign_simp hb1 (idx3_simp.1 (by assumption)) | exact sign_dig hb1 (fun q => absurd (idx3_simp.2 q) (by assumption)) (by unfold isDA; first | exact .inl ((u8_eqn (by decide)).1 (by assumption)) | exact .inr ((u8_eqn (by decide)).1 (by assumption))) hb3 (by unfold isDg; omega) | exact sign_bad hb1 (fun q => absurd (idx3_simp.2 q) (by assumption)) (by first | exact .inr (.inl (by assumption)) | exact .inr (.inr ⟨_, hb3, by unfold isDg; omega⟩) | exact .inl (by unfold isDA; rintro (q | q) <;> subst q <;> contradiction))
       refine c_fin (I' := []) [0] [0, 1] rfl (.tmp rfl (.tmp rfl .nil)) rfl rfl rfl ?_
       rw [hp]
       exact ⟨by simp only [packed]; rw [show ((x3.toNat - 48 : Nat) : Int) = (x3.toNat : Int) - 48 from by omega], rfl, rfl⟩
   ·
    refine st_on 29 rfl rfl rfl (o_y (v := .bool true) (y_nf (y_k (v := .bool (!decide ((x1.toNat : Int) = 97))) rfl rfl (fun _ => by kernel_rfl)) h6) rfl rfl rfl ?_)
    refine s_y rfl (v := .bool true) (y_pick rfl rfl) rfl ?_
    refine s_y rfl (v := .bool true) (y_mv rfl) rfl ?_
    refine st_off 33 rfl rfl rfl rfl rfl rfl ?_
    refine st_off 33 rfl rfl rfl rfl rfl rfl ?_
    refine st_off 33 rfl rfl rfl rfl rfl rfl ?_
    refine st_off 33 rfl rfl rfl rfl rfl rfl ?_
    refine st_off 33 rfl rfl rfl rfl rfl rfl ?_
    refine st_off 33 rfl rfl rfl rfl rfl rfl ?_
    refine s_y rfl (v := .bool true) (y_pick rfl rfl) rfl ?_
    refine s_y rfl (v := .bool true) (y_mv rfl) rfl ?_
    refine st_off 41 rfl rfl rfl rfl rfl rfl ?_
    refine st_off 41 rfl rfl rfl rfl rfl rfl ?_
    refine st_off 41 rfl rfl rfl rfl rfl rfl ?_
    refine st_off 41 rfl rfl rfl rfl rfl rfl ?_
    refine st_off 41 rfl rfl rfl rfl rfl rfl ?_
    refine st_off 41 rfl rfl rfl rfl rfl rfl ?_
    refine st_off 41 rfl rfl rfl rfl rfl rfl ?_
    refine s_y rfl (v := .bool true) (y_pick rfl rfl) rfl ?_
    refine s_y rfl (v := .bool true) (y_mv rfl) rfl ?_
    refine st_off 50 rfl rfl rfl rfl rfl rfl ?_
    refine st_off 50 rfl rfl rfl rfl rfl rfl ?_
    refine st_off 50 rfl rfl rfl rfl rfl rfl ?_
    refine st_off 50 rfl rfl rfl rfl rfl rfl ?_
    refine st_off 50 rfl rfl rfl rfl rfl rfl ?_
    refine st_off 50 rfl rfl rfl rfl rfl rfl ?_
    refine st_off 50 rfl rfl rfl rfl rfl rfl ?_
    refine s_y rfl (v := .bool true) (y_pick rfl rfl) rfl ?_
    refine s_nil (q_then (c_true rfl (c_seq (c_region ?_))))
    refine s_y rfl (v := .pointer (some ⟨b, 0, none⟩)) (y_mv rfl) rfl ?_
    refine st rfl (o_ldf 0 0 rfl rfl rfl Tryz.underlying50 rfl rfl ?_)
    refine s_y rfl (v := .pointer (some ⟨b, 0, none⟩)) (y_k rfl rfl (fun _ => by kernel_rfl)) rfl ?_
    refine s_y rfl (v := .pointer (some ⟨b, 1, none⟩)) (y_k rfl rfl (fun _ => by kernel_rfl)) rfl ?_
    refine st rfl (o_st 0 rfl rfl rfl rfl rfl (by kernel_rfl) (by kernel_rfl) rfl ?_)
    refine s_nil (q_then (c_seq (c_region ?_)))
    refine s_y rfl (v := .int .u8 (x1.toNat : Int)) (y_mv rfl) rfl ?_
    refine s_y rfl (v := .int .u8 (x1.toNat : Int)) (y_as rfl) rfl ?_
    refine s_y rfl (v := .int .i64 0) (y_as rfl) rfl ?_
    refine s_nil (q_then (c_ret (q_then_ret ?_)))
    show Ent _ _ _ _ [pt b [.string (r.extract 1 r.size), fefV ef true] 145] _ _
    have hp : signF r = (x1, 0, r.extract 1 r.size, true) := by first | exact sign_simp hb1 (idx3_simp.1 (by assumption)) | exact sign_dig hb1 (fun q => absurd (idx3_simp.2 q) (by assumption)) (by unfold isDA; first | exact .inl ((u8_eqn (by decide)).1 (by assumption)) | exact .inr ((u8_eqn (by decide)).1 (by assumption))) hno (by unfold isDg; omega) | exact sign_bad hb1 (fun q => absurd (idx3_simp.2 q) (by assumption)) (by first | exact .inr (.inl (by assumption)) | exact .inr (.inr ⟨_, hno, by unfold isDg; omega⟩) | exact .inl (by unfold isDA; rintro (q | q) <;> subst q <;> contradiction))
    refine c_fin (I' := []) [0] [0, 1] rfl (.tmp rfl (.tmp rfl .nil)) rfl rfl rfl ?_
    rw [hp]
    exact ⟨rfl, rfl, rfl⟩
end Go.Proofs.YthehnjbdkjnlpaaGreatDoor
