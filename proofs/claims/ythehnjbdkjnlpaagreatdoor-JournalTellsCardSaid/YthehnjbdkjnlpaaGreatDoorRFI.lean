/- The laws of chapter 15 (journal), walked over the given program; no condition but what stands in each theorem: part FI. -/
import Derived.Test.YthehnjbdkjnlpaaGreatDoorRFA
set_option linter.unusedVariables false
set_option linter.unusedSimpArgs false
set_option maxRecDepth 100000
set_option maxHeartbeats 8000000
namespace Go.Proofs.YthehnjbdkjnlpaaGreatDoor
open Go Go.Sl Go.RowKit Go.Extern.Stop Go.Stop Go.Extern
theorem rof_ (sg : ByteArray) (c : UInt8) (hssg : sg.size ≤ 100000) : Con Tryz.prog 61 [.string sg, .int .u8 (c.toNat : Int)] [] [] (fun v L' I' => v = .bool (decide (inCl (bl sg) c)) ∧ L' = [] ∧ I' = []) := by
 refine fn_of Tryz.func61 rfl Tryz.ntmps61 (by kernel_rfl) rfl (fun C => ?_)
 refine c_seq (c_region ?_)
 refine s_y rfl (v := .bool false) (y_as rfl) rfl ?_
 refine s_nil (q_then (c_seq (c_seq (c_region ?_))))
 refine s_y rfl (v := .int .i64 0) (y_as rfl) rfl ?_
 refine s_nil (q_then (c_block ?_))
 refine c_loopn (ι := Nat) (fun j => (j ≤ sg.size + 1) ∧ (inCl (bl sg) c ↔ inCl ((bl sg).drop j) c)) (fun j => [(0, .string sg), (1, .int .u8 (c.toNat : Int)), (5, .int .i64 (j : Int))]) (fun j => []) (fun j => []) (fun j => sg.size + 2 - j) (0) [] [] (show (0 ≤ sg.size + 1) ∧ (inCl (bl sg) c ↔ inCl ((bl sg).drop 0) c) from ⟨by first | omega | simp_all | (simp; done), Iff.rfl⟩) ((.cons rfl rfl (.cons rfl rfl (.cons rfl rfl .nil)))) rfl rfl ?_
 rintro j ⟨hj, hF⟩
 show Ent 26 C [(0, .string sg), (1, .int .u8 (c.toNat : Int)), (5, .int .i64 (j : Int))] [] [] [] _
 refine c_seq (c_seq (c_region ?_))
 refine s_y rfl (v := .int .i64 (j : Int)) (y_mv rfl) rfl ?_
 refine s_y rfl (v := .int .i64 ((j : Int) + 1)) (y_add (r := (j : Int) + 1) rfl rfl rfl (by omega)) rfl ?_
 refine s_y rfl (v := .string sg) (y_mv rfl) rfl ?_
 refine s_y rfl (v := .int .i64 (sg.size : Int)) (y_k rfl rfl (fun _ => by kernel_rfl)) rfl ?_
 refine e_by ((j : Int) + 1 < (sg.size : Int)) (fun h1 => ?_) (fun h1 => ?_)
 ·
  refine s_y rfl (v := .bool true) (y_t (y_k (v := .bool (decide ((j : Int) + 1 < (sg.size : Int)))) rfl rfl (fun _ => by kernel_rfl)) h1) rfl ?_
  refine s_nil (q_then (c_true rfl (c_skip (q_then (c_seq (c_block (c_seq (c_region ?_))))))))
  refine s_y rfl (v := .int .u8 (c.toNat : Int)) (y_mv rfl) rfl ?_
  refine s_y rfl (v := .string sg) (y_mv rfl) rfl ?_
  refine s_y rfl (v := .int .i64 (j : Int)) (y_mv rfl) rfl ?_
  obtain ⟨x1, hb1⟩ : ∃ x, (sg)[j]? = some x := ⟨_, getElem?_pos (sg) j (by omega)⟩
  refine s_y rfl (v := .int .u8 (x1.toNat : Int)) (y_sidx j x1 rfl rfl (rfl) hb1 Tryz.underlying9) rfl ?_
  refine e_by ((c.toNat : Int) ≥ (x1.toNat : Int)) (fun h2 => ?_) (fun h2 => ?_)
  ·
   refine s_y rfl (v := .bool true) (y_t (y_k (v := .bool (decide ((c.toNat : Int) ≥ (x1.toNat : Int)))) rfl rfl (fun _ => by kernel_rfl)) h2) rfl ?_
   refine s_y rfl (v := .bool true) (y_mv rfl) rfl ?_
   refine st_on 18 rfl rfl rfl (o_y (v := .int .u8 (c.toNat : Int)) (y_mv rfl) rfl rfl rfl ?_)
   refine st_on 18 rfl rfl rfl (o_y (v := .string sg) (y_mv rfl) rfl rfl rfl ?_)
   refine st_on 18 rfl rfl rfl (o_y (v := .int .i64 (j : Int)) (y_mv rfl) rfl rfl rfl ?_)
   refine st_on 18 rfl rfl rfl (o_y (v := .int .i64 ((j : Int) + 1)) (y_add (r := (j : Int) + 1) rfl rfl rfl (by omega)) rfl rfl rfl ?_)
   obtain ⟨x2, hb2⟩ : ∃ x, (sg)[j + 1]? = some x := ⟨_, getElem?_pos (sg) (j + 1) (by omega)⟩
   refine st_on 18 rfl rfl rfl (o_y (v := .int .u8 (x2.toNat : Int)) (y_sidx (j + 1) x2 rfl rfl (rfl) hb2 Tryz.underlying9) rfl rfl rfl ?_)
   refine e_by ((c.toNat : Int) ≤ (x2.toNat : Int)) (fun h3 => ?_) (fun h3 => ?_)
   ·
    refine st_on 18 rfl rfl rfl (o_y (v := .bool true) (y_t (y_k (v := .bool (decide ((c.toNat : Int) ≤ (x2.toNat : Int)))) rfl rfl (fun _ => by kernel_rfl)) h3) rfl rfl rfl ?_)
    refine s_y rfl (v := .bool true) (y_pick rfl rfl) rfl ?_
    refine s_nil (q_then (c_true rfl (c_seq (c_region ?_))))
    refine s_y rfl (v := .bool true) (y_as rfl) rfl ?_
    refine s_nil (q_then (c_ret (q_block_ret (q_then_ret (q_then_ret (q_block_ret (q_then_ret ?_)))))))
    refine c_fin (I' := []) [] [] rfl (.tmp rfl .nil) rfl rfl rfl ?_
    exact ⟨by show Value.bool _ = Value.bool _; congr 1; symm; first | exact decide_eq_true (by first | exact hF.2 ((incl_at ((bl_get _ _).symm.trans hb1) ((bl_get _ _).symm.trans hb2)).2 (.inl (by omega))) | exact fun q => incl_end (by rw [bl_size]; omega) (hF.1 q)) | exact decide_eq_false (by first | exact hF.2 ((incl_at ((bl_get _ _).symm.trans hb1) ((bl_get _ _).symm.trans hb2)).2 (.inl (by omega))) | exact fun q => incl_end (by rw [bl_size]; omega) (hF.1 q)), rfl, rfl⟩
   ·
    refine st_on 18 rfl rfl rfl (o_y (v := .bool false) (y_f (y_k (v := .bool (decide ((c.toNat : Int) ≤ (x2.toNat : Int)))) rfl rfl (fun _ => by kernel_rfl)) h3) rfl rfl rfl ?_)
    refine s_y rfl (v := .bool false) (y_pick rfl rfl) rfl ?_
    refine s_nil (q_then (c_false rfl (c_skip (q_block (q_then (c_region ?_))))))
    refine s_y rfl (v := .int .i64 (j : Int)) (y_mv rfl) rfl ?_
    refine s_y rfl (v := .int .i64 ((j : Int) + 2)) (y_add (r := (j : Int) + 2) rfl rfl rfl (by omega)) rfl ?_
    refine s_y rfl (v := .int .i64 ((j : Int) + 2)) (y_as rfl) rfl ?_
    refine s_nil (q_then ?_)
    refine c_next [] [] (j + 2) ?_ ?_ ?_ (by rfl) (by rfl)
    · exact (show ((j + 2) ≤ sg.size + 1) ∧ (inCl (bl sg) c ↔ inCl ((bl sg).drop (j + 2)) c) from ⟨by first | omega | simp_all | (simp; done), hF.trans ((incl_at ((bl_get _ _).symm.trans hb1) ((bl_get _ _).symm.trans hb2)).trans ⟨fun q => q.resolve_left (by omega), .inr⟩)⟩)
    · show sg.size + 2 - (j + 2) < sg.size + 2 - j; omega
    · exact (.cons rfl rfl (.cons rfl rfl (.cons rfl (show (.int .i64 ((j : Int) + 2) : Value) = .int .i64 ((j + 2) : Int) from by first | rfl | (congr 1; omega) | (congr 1; simp; done) | (congr 1; simp; omega)) .nil)))
  ·
   refine s_y rfl (v := .bool false) (y_f (y_k (v := .bool (decide ((c.toNat : Int) ≥ (x1.toNat : Int)))) rfl rfl (fun _ => by kernel_rfl)) h2) rfl ?_
   refine s_y rfl (v := .bool false) (y_mv rfl) rfl ?_
   refine st_off 18 rfl rfl rfl rfl rfl rfl ?_
   refine st_off 18 rfl rfl rfl rfl rfl rfl ?_
   refine st_off 18 rfl rfl rfl rfl rfl rfl ?_
   refine st_off 18 rfl rfl rfl rfl rfl rfl ?_
   refine st_off 18 rfl rfl rfl rfl rfl rfl ?_
   refine st_off 18 rfl rfl rfl rfl rfl rfl ?_
   refine s_y rfl (v := .bool false) (y_pick rfl rfl) rfl ?_
   refine s_nil (q_then (c_false rfl (c_skip (q_block (q_then (c_region ?_))))))
   refine s_y rfl (v := .int .i64 (j : Int)) (y_mv rfl) rfl ?_
   refine s_y rfl (v := .int .i64 ((j : Int) + 2)) (y_add (r := (j : Int) + 2) rfl rfl rfl (by omega)) rfl ?_
   refine s_y rfl (v := .int .i64 ((j : Int) + 2)) (y_as rfl) rfl ?_
   refine s_nil (q_then ?_)
   refine c_next [] [] (j + 2) ?_ ?_ ?_ (by rfl) (by rfl)
   · exact (show ((j + 2) ≤ sg.size + 1) ∧ (inCl (bl sg) c ↔ inCl ((bl sg).drop (j + 2)) c) from ⟨by first | omega | simp_all | (simp; done), hF.trans (incl_no ((bl_get _ _).symm.trans hb1) (by rw [bl_size]; omega) (by assumption))⟩)
   · show sg.size + 2 - (j + 2) < sg.size + 2 - j; omega
   · exact (.cons rfl rfl (.cons rfl rfl (.cons rfl (show (.int .i64 ((j : Int) + 2) : Value) = .int .i64 ((j + 2) : Int) from by first | rfl | (congr 1; omega) | (congr 1; simp; done) | (congr 1; simp; omega)) .nil)))
 ·
  refine s_y rfl (v := .bool false) (y_f (y_k (v := .bool (decide ((j : Int) + 1 < (sg.size : Int)))) rfl rfl (fun _ => by kernel_rfl)) h1) rfl ?_
  refine s_nil (q_then (c_false rfl ?_))
  refine c_exit ?_
  refine q_then_exit ?_
  refine q_then_exit ?_
  refine q_block_here ?_
  refine q_then (c_seq (c_region ?_))
  refine s_y rfl (v := .bool false) (y_as rfl) rfl ?_
  refine s_nil (q_then (c_ret ?_))
  refine c_fin (I' := []) [] [] rfl (.tmp rfl .nil) rfl rfl rfl ?_
  exact ⟨by show Value.bool _ = Value.bool _; congr 1; symm; first | exact decide_eq_true (by first | exact hF.2 ((incl_at ((bl_get _ _).symm.trans hx) ((bl_get _ _).symm.trans hx)).2 (.inl (by omega))) | exact fun q => incl_end (by rw [bl_size]; omega) (hF.1 q)) | exact decide_eq_false (by first | exact hF.2 ((incl_at ((bl_get _ _).symm.trans hx) ((bl_get _ _).symm.trans hx)).2 (.inl (by omega))) | exact fun q => incl_end (by rw [bl_size]; omega) (hF.1 q)), rfl, rfl⟩

theorem fits_d {g c : UInt8} (e : (g.toNat : Int) = 100) : fitsC g c ↔ ((c.toNat : Int) ≥ 48 ∧ (c.toNat : Int) ≤ 57) := by
  unfold fitsC
  rw [if_pos (show g = 100 from (u8_eqn (n := 100) (by decide)).1 e)]; omega
theorem fits_a {g c : UInt8} (n : ¬ (g.toNat : Int) = 100) (e : (g.toNat : Int) = 97) : fitsC g c ↔ ((c.toNat : Int) ≥ 97 ∧ (c.toNat : Int) ≤ 122) := by
  unfold fitsC
  rw [if_neg (show ¬ g = 100 from fun q => n ((u8_eqn (n := 100) (by decide)).2 q)), if_pos (show g = 97 from (u8_eqn (n := 97) (by decide)).1 e)]; omega
theorem fits_o {g c : UInt8} (n : ¬ (g.toNat : Int) = 100) (m : ¬ (g.toNat : Int) = 97) : fitsC g c ↔ (c.toNat : Int) = (g.toNat : Int) := by
  unfold fitsC
  rw [if_neg (show ¬ g = 100 from fun q => n ((u8_eqn (n := 100) (by decide)).2 q)), if_neg (show ¬ g = 97 from fun q => m ((u8_eqn (n := 97) (by decide)).2 q)), u8_eq]
def chk (l : List UInt8) (i : Nat) : Prop := ∀ x, l[i]? = some x → 33 ≤ x.toNat ∧ x.toNat ≤ 126 ∧ (i % 2 = 1 → ∀ y, l[i - 1]? = some y → y.toNat ≤ x.toNat)
theorem cls_chk : ∀ (l : List UInt8), clsL l ↔ (l.length % 2 = 0 ∧ ∀ i, chk l i)
  | [] => ⟨fun _ => ⟨rfl, fun i x hx => by simp at hx⟩, fun _ => trivial⟩
  | [a] => ⟨fun h => h.elim, fun h => by have := h.1; simp at this⟩
  | a :: b :: r => by
    have ih := cls_chk r
    constructor
    · rintro ⟨⟨h1, h2, h3⟩, h4⟩
      obtain ⟨i1, i2⟩ := ih.1 h4
      refine ⟨by simp only [List.length_cons]; omega, fun i => ?_⟩
      match i with
      | 0 => intro x hx; simp at hx; subst hx; exact ⟨h1, by omega, fun q => absurd q (by decide)⟩
      | 1 => intro x hx; simp at hx; subst hx; exact ⟨by omega, h2, fun _ y hy => by simp at hy; subst hy; exact h3⟩
      | i + 2 =>
        intro x hx
        obtain ⟨j1, j2, j3⟩ := i2 i x (by simpa using hx)
        refine ⟨j1, j2, fun q y hy => j3 (by omega) y ?_⟩
        obtain ⟨k, rfl⟩ : ∃ k, i = k + 1 := ⟨i - 1, by omega⟩
        simpa using hy
    · rintro ⟨h1, h2⟩
      have q0 := h2 0 a rfl
      have q1 := h2 1 b rfl
      refine ⟨⟨q0.1, q1.2.1, q1.2.2 rfl a rfl⟩, ih.2 ⟨by simp only [List.length_cons] at h1; omega, fun i x hx => ?_⟩⟩
      obtain ⟨j1, j2, j3⟩ := h2 (i + 2) x (by simpa using hx)
      refine ⟨j1, j2, fun q y hy => j3 (by omega) y ?_⟩
      obtain ⟨k, rfl⟩ : ∃ k, i = k + 1 := ⟨i - 1, by omega⟩
      simpa using hy
theorem chk_n1 {sg : ByteArray} {j : Nat} {x : UInt8} (hx : (sg)[j]? = some x) (h : (x.toNat : Int) < 33) : ¬ classP sg := fun q => by
  rw [bl_get] at hx
  have := ((cls_chk _).1 q.2).2 j x hx; omega
theorem chk_n2 {sg : ByteArray} {j : Nat} {x : UInt8} (hx : (sg)[j]? = some x) (h : (x.toNat : Int) > 126) : ¬ classP sg := fun q => by
  rw [bl_get] at hx
  have := ((cls_chk _).1 q.2).2 j x hx; omega
theorem chk_n3 {sg : ByteArray} {j : Nat} {x y : UInt8} (hx : (sg)[j]? = some x) (hy : (sg)[((j : Int) - 1).toNat]? = some y) (ho : j % 2 = 1) (h : (y.toNat : Int) > (x.toNat : Int)) : ¬ classP sg := fun q => by
  rw [bl_get] at hx hy
  have e : ((j : Int) - 1).toNat = j - 1 := by omega
  rw [e] at hy
  have := (((cls_chk _).1 q.2).2 j x hx).2.2 ho y hy; omega
theorem chk_step {sg : ByteArray} {j : Nat} {x : UInt8} (hF : ∀ i, i < j → chk (bl sg) i) (hx : (sg)[j]? = some x) (h1 : 33 ≤ x.toNat) (h2 : x.toNat ≤ 126) (h3 : j % 2 = 1 → False) : ∀ i, i < j + 1 → chk (bl sg) i := fun i hi => by
  rcases Nat.lt_or_ge i j with q | q
  · exact hF i q
  · obtain rfl : i = j := by omega
    rw [bl_get] at hx
    intro z hz
    rw [hx] at hz; cases hz
    exact ⟨h1, h2, fun q => (h3 q).elim⟩
theorem chk_step2 {sg : ByteArray} {j : Nat} {x y : UInt8} (hF : ∀ i, i < j → chk (bl sg) i) (hx : (sg)[j]? = some x) (hy : (sg)[((j : Int) - 1).toNat]? = some y) (h0 : 0 < j) (h1 : 33 ≤ x.toNat) (h2 : x.toNat ≤ 126) (h3 : y.toNat ≤ x.toNat) : ∀ i, i < j + 1 → chk (bl sg) i := fun i hi => by
  rcases Nat.lt_or_ge i j with q | q
  · exact hF i q
  · obtain rfl : i = j := by omega
    rw [bl_get] at hx hy
    have e : ((i : Int) - 1).toNat = i - 1 := by omega
    rw [e] at hy
    intro z hz
    rw [hx] at hz; cases hz
    exact ⟨h1, h2, fun _ w hw => by rw [hy] at hw; cases hw; exact h3⟩
theorem chk_end {sg : ByteArray} {j : Nat} (hF : ∀ i, i < j → chk (bl sg) i) (hj : sg.size ≤ j) (h0 : 0 < sg.size) (he : sg.size % 2 = 0) : classP sg := by
  refine ⟨fun e => ?_, (cls_chk _).2 ⟨by rw [bl_size]; exact he, fun i x hx => hF i ?_ x hx⟩⟩
  · rw [e] at h0; exact absurd h0 (by decide)
  · have := (List.getElem?_eq_some_iff.1 hx).1
    rw [bl_size] at this; omega
theorem ext1 {s : ByteArray} {i : Nat} (hi : i < s.size) : s.extract i (i + 1) = ⟨#[(bl s).getD i 0]⟩ ∧ (bl s)[i]? = some ((bl s).getD i 0) := by
  have hl : i < (bl s).length := by rw [bl_size]; exact hi
  have h1 : (bl s)[i]? = some ((bl s).getD i 0) := by
    rw [List.getElem?_eq_getElem hl, List.getD_eq_getElem?_getD, List.getElem?_eq_getElem hl]; rfl
  refine ⟨bl_ext ?_, h1⟩
  rw [bl_ext1, List.take_add_one, h1]
  show _ = [(bl s).getD i 0]
  rw [List.drop_append_of_le_length (by rw [List.length_take]; omega), List.drop_eq_nil_of_le (by rw [List.length_take]; omega)]
  rfl
theorem ext_is {s : ByteArray} {i : Nat} {c : UInt8} (hi : i < s.size) : s.extract i (i + 1) = ⟨#[c]⟩ ↔ (bl s).getD i 0 = c := by
  rw [(ext1 hi).1]
  constructor
  · intro h
    have := congrArg bl h
    simpa [bl] using this
  · intro h; rw [h]
theorem sp_cons {s : ByteArray} {i : Nat} (hi : i < s.size) : (bl s).drop i = (bl s).getD i 0 :: (bl s).drop (i + 1) := drop_two (ext1 hi).2
theorem sp_simp {s : ByteArray} {i : Nat} (hi : i < s.size) (h : s.extract i (i + 1) = ⟨#[45]⟩ ∨ s.extract i (i + 1) = ⟨#[58]⟩ ∨ s.extract i (i + 1) = ⟨#[47]⟩) : sgnF ((bl s).drop i) = (bl (s.extract i (i + 1)) ++ (sgnF ((bl s).drop (i + 1))).1, (sgnF ((bl s).drop (i + 1))).2) := by
  have hs : simpC ((bl s).getD i 0) := by
    unfold simpC
    rcases h with h | h | h
    · exact .inl ((ext_is hi).1 h)
    · exact .inr (.inl ((ext_is hi).1 h))
    · exact .inr (.inr ((ext_is hi).1 h))
  rw [(ext1 hi).1]
  rw [sp_cons hi]
  have e1 : sign1 ((bl s).getD i 0 :: (bl s).drop (i + 1)) = ((bl s).getD i 0, 1, (bl s).drop (i + 1), false) := by simp only [sign1, if_pos hs]
  rw [sgn_ok (by simp) (by rw [e1]), e1]
  rfl
theorem sp_bad {s : ByteArray} {i : Nat} (hi : i < s.size) (h1 : ¬ s.extract i (i + 1) = ⟨#[45]⟩) (h2 : ¬ s.extract i (i + 1) = ⟨#[58]⟩) (h3 : ¬ s.extract i (i + 1) = ⟨#[47]⟩) (h : (¬ s.extract i (i + 1) = ⟨#[100]⟩ ∧ ¬ s.extract i (i + 1) = ⟨#[97]⟩) ∨ i + 1 = s.size ∨ ∃ n, (s)[i + 1]? = some n ∧ ¬ isDg n) : sgnF ((bl s).drop i) = ([], true) := by
  rw [ext_is hi] at h1 h2 h3
  have hs : ¬ simpC ((bl s).getD i 0) := by
    unfold simpC
    rintro (q | q | q)
    · exact h1 q
    · exact h2 q
    · exact h3 q
  have hd : ¬ (isDA ((bl s).getD i 0) ∧ isDg (((bl s).drop (i + 1)).headD 0)) := by
    rcases h with ⟨q1, q2⟩ | q | ⟨n, hn, q⟩
    · rw [ext_is hi] at q1 q2
      exact fun w => w.1.elim q1 q2
    · rw [List.drop_eq_nil_of_le (by rw [bl_size]; omega)]; exact fun w => absurd w.2 (by decide)
    · rw [bl_get] at hn
      rw [drop_two hn]; exact fun w => q w.2
  rw [sp_cons hi]
  exact sgn_err (by simp) (by simp only [sign1, if_neg hs, if_neg hd])
theorem sp_dig {s : ByteArray} {i : Nat} {n : UInt8} (hi : i < s.size) (hd : s.extract i (i + 1) = ⟨#[100]⟩ ∨ s.extract i (i + 1) = ⟨#[97]⟩) (hn : (s)[i + 1]? = some n) (hg : isDg n) : sgnF ((bl s).drop i) = (List.replicate (n.toNat - 48) ((bl s).getD i 0) ++ (sgnF ((bl s).drop (i + 2))).1, (sgnF ((bl s).drop (i + 2))).2) := by
  rw [bl_get] at hn
  have hda : isDA ((bl s).getD i 0) := by
    unfold isDA
    rcases hd with q | q
    · exact .inl ((ext_is hi).1 q)
    · exact .inr ((ext_is hi).1 q)
  have hs : ¬ simpC ((bl s).getD i 0) := by
    unfold simpC
    rcases hda with q | q
    · rw [q]; decide
    · rw [q]; decide
  have hdd : isDA ((bl s).getD i 0) ∧ isDg (((bl s).drop (i + 1)).headD 0) := ⟨hda, by rw [drop_two hn]; exact hg⟩
  rw [sp_cons hi]
  have e1 : sign1 ((bl s).getD i 0 :: (bl s).drop (i + 1)) = ((bl s).getD i 0, n.toNat - 48, (bl s).drop (i + 2), false) := by
    simp only [sign1, if_neg hs, if_pos hdd]
    rw [drop_two hn]; rfl
  rw [sgn_ok (by simp) (by rw [e1]), e1]
theorem sp_s1 {s o : ByteArray} {i : Nat} (hg1 : (sgnF (bl s)).1 = bl o ++ (sgnF ((bl s).drop i)).1) (h : sgnF ((bl s).drop i) = (bl (s.extract i (i + 1)) ++ (sgnF ((bl s).drop (i + 1))).1, (sgnF ((bl s).drop (i + 1))).2)) : (sgnF (bl s)).1 = bl (o ++ s.extract i (i + 1)) ++ (sgnF ((bl s).drop (i + 1))).1 := by
  rw [hg1, h]
  have e : bl (o ++ s.extract i (i + 1)) = bl o ++ bl (s.extract i (i + 1)) := by unfold bl; simp
  rw [e, List.append_assoc]
theorem sp_in {s o o2 : ByteArray} {i k : Nat} (h : bl o2 = bl o ++ List.replicate k ((bl s).getD i 0)) (hi : i < s.size) : bl (o2 ++ s.extract i (i + 1)) = bl o ++ List.replicate (k + 1) ((bl s).getD i 0) := by
  have e : bl (o2 ++ s.extract i (i + 1)) = bl o2 ++ bl (s.extract i (i + 1)) := by unfold bl; simp
  rw [e, h, (ext1 hi).1, List.replicate_succ']
  simp [bl]
theorem sp_err {s : ByteArray} {i : Nat} (hg2 : (sgnF (bl s)).2 = (sgnF ((bl s).drop i)).2) (h : sgnF ((bl s).drop i) = ([], true)) : (recF s).2 = true := by
  unfold recF
  split
  · rfl
  · show (sgnF (bl s)).2 = true
    rw [hg2, h]
theorem sp_nil {s : ByteArray} (h : s = ⟨#[]⟩) : (recF s).2 = true := by unfold recF; rw [if_pos h]
theorem sp_end1 {s : ByteArray} {i : Nat} (hg2 : (sgnF (bl s)).2 = (sgnF ((bl s).drop i)).2) (hi : s.size ≤ i) (h0 : ¬ s = ⟨#[]⟩) : (recF s).2 = false := by
  unfold recF; rw [if_neg h0]
  show (sgnF (bl s)).2 = false
  rw [hg2, List.drop_eq_nil_of_le (by rw [bl_size]; omega), sgn_nil]
theorem filR_ok3 {f : Fil} (h : filR f) (hk : f.kd = 3) : (recF f.fm).2 = false := by
  rcases h with ⟨_, q | q | q⟩
  · omega
  · omega
  · exact q.2
theorem filR_mx {f : Fil} (h : filR f) : 0 ≤ f.mx ∧ f.mx ≤ 200 ∧ f.fm.size ≤ 40 := h.1
theorem fit_at {s : ByteArray} {i : Nat} {g c : UInt8} (hg : (s)[i]? = some g) (h : fitsC g c) : ∃ g, (bl s)[i]? = some g ∧ fitsC g c := (isin_x hg).2 h
theorem fit_no {s : ByteArray} {i : Nat} {g c : UInt8} (hg : (s)[i]? = some g) (h : ¬ fitsC g c) : ¬ ∃ g, (bl s)[i]? = some g ∧ fitsC g c := fun q => h ((isin_x hg).1 q)
theorem bads_ok {f : Fil} {s : ByteArray} {k : Nat} {c : UInt8} (hc : (s)[k]? = some c) (h : okAt f k c) (hb : firstF f s = badAt f ((bl s).drop k) k) : firstF f s = badAt f ((bl s).drop (k + 1)) (k + 1) := hb.trans (bad_ok ((bl_get _ _).symm.trans hc) h)
theorem bads_any {f : Fil} {s : ByteArray} {k : Nat} (hk : k < s.size) (h : ∀ c, okAt f k c) (hb : firstF f s = badAt f ((bl s).drop k) k) : firstF f s = badAt f ((bl s).drop (k + 1)) (k + 1) := hb.trans (bad_ok (List.getElem?_eq_getElem (by rw [bl_size]; exact hk)) (h _))
theorem bads_no {f : Fil} {s : ByteArray} {k : Nat} (hk : k < s.size) (h : ∀ c, (s)[k]? = some c → ¬ okAt f k c) (hb : firstF f s = badAt f ((bl s).drop k) k) : firstF f s = (k : Int) := by
  have hl : k < (bl s).length := by rw [bl_size]; exact hk
  have hc := List.getElem?_eq_getElem hl
  exact hb.trans (bad_no hc (h _ ((bl_get _ _).trans hc)))
theorem bads_end {f : Fil} {s : ByteArray} {k : Nat} (hk : s.size ≤ k) (hb : firstF f s = badAt f ((bl s).drop k) k) : firstF f s = -1 := hb.trans (bad_end (by rw [bl_size]; exact hk))
theorem sp_end2 {s o : ByteArray} {i : Nat} (hg1 : (sgnF (bl s)).1 = bl o ++ (sgnF ((bl s).drop i)).1) (hg2 : (sgnF (bl s)).2 = (sgnF ((bl s).drop i)).2) (hi : s.size ≤ i) (h0 : ¬ s = ⟨#[]⟩) : (recF s).1 = o := by
  unfold recF; rw [if_neg h0]
  show (⟨(sgnF (bl s)).1.toArray⟩ : ByteArray) = o
  rw [hg1, List.drop_eq_nil_of_le (by rw [bl_size]; omega), sgn_nil, List.append_nil, mk_bl]
end Go.Proofs.YthehnjbdkjnlpaaGreatDoor
