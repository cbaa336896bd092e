/- The laws of chapter 17 (call), walked over the given program; no condition but what stands in each theorem: part LPB. -/
import Derived.Test.YtcnncdniibkjkaaGreatDoorRCJ
set_option linter.unusedVariables false
set_option linter.unusedSimpArgs false
set_option maxRecDepth 100000
set_option maxHeartbeats 8000000
namespace Go.Proofs.YtcnncdniibkjkaaGreatDoor
open Go Go.Sl Go.RowKit Go.Extern.Stop Go.Stop Go.Extern
theorem bytes_ext {a b : ByteArray} (h : a.data.toList = b.data.toList) : a = b := by
  obtain ⟨⟨x⟩⟩ := a
  obtain ⟨⟨y⟩⟩ := b
  simp at h; subst h; rfl
theorem bytes_cat (a b : ByteArray) : (a ++ b).data.toList = a.data.toList ++ b.data.toList := by simp
theorem len_bytes (s : ByteArray) : s.data.toList.length = s.size := by rw [Array.length_toList]; rfl
theorem ext_eq (s : ByteArray) (i j : Nat) : (s.extract i j).data.toList = (s.data.toList.take j).drop i := by
  have : (s.extract i j).data.toList = (s.data.extract i j).toList := by rw [ByteArray.data_extract]
  rw [this, Array.toList_extract, List.extract_eq_take_drop, List.drop_take]
theorem be_bytes (w : Int) (n : Nat) : (beB w n).data.toList = be w.toNat n := by unfold beB; simp
theorem numL_cons_go : ∀ (l : List UInt8) (a : Nat), l.foldl (fun n c => 256 * n + c.toNat) a = a * 256 ^ l.length + numL l
  | [], a => by simp [numL]
  | c :: l, a => by
    have h1 := numL_cons_go l (256 * a + c.toNat)
    have h2 := numL_cons_go l (256 * 0 + c.toNat)
    have h3 : numL (c :: l) = l.foldl (fun n c => 256 * n + c.toNat) (256 * 0 + c.toNat) := rfl
    rw [List.foldl_cons, h1, h3, h2, List.length_cons, Nat.pow_succ, Nat.add_mul, Nat.add_mul]
    have : 256 * a * 256 ^ l.length = a * (256 ^ l.length * 256) := by
      rw [Nat.mul_comm 256 a, Nat.mul_assoc, Nat.mul_comm 256]
    rw [this]; omega
theorem numL_cons (c : UInt8) (l : List UInt8) : numL (c :: l) = c.toNat * 256 ^ l.length + numL l := by
  have h := numL_cons_go l (256 * 0 + c.toNat)
  rw [show 256 * 0 + c.toNat = c.toNat by omega] at h
  rw [← h]
  show l.foldl _ (256 * 0 + c.toNat) = _
  rw [show 256 * 0 + c.toNat = c.toNat by omega]
theorem pow8 (w : Nat) : 2 ^ (8 * w) = 256 ^ w := by rw [Nat.pow_mul]
theorem u8of_nat (z : Nat) : (u8of (z : Int)).toNat = z % 256 := by
  unfold u8of
  rw [UInt8.toNat_ofNat_of_lt' (by show ((z : Int) % 256).toNat < 256; omega)]
  omega
theorem num_be : ∀ (w n : Nat), numL (be w n) = n % 256 ^ w
  | 0, n => by show 0 = n % 1; omega
  | w + 1, n => by
    show numL (_ :: be w n) = _
    rw [numL_cons, num_be w n, be_len, u8of_nat, pow8, Nat.pow_succ, Nat.mod_mul, Nat.mul_comm]
    omega
theorem be_mod : ∀ (w n : Nat), be w n = be w (n % 256 ^ w)
  | 0, n => rfl
  | w + 1, n => by
    show u8of _ :: be w n = u8of _ :: be w (n % 256 ^ (w + 1))
    have h1 : be w (n % 256 ^ (w + 1)) = be w n := by
      rw [be_mod w n, be_mod w (n % 256 ^ (w + 1)), Nat.pow_succ, Nat.mod_mul_right_mod]
    have h2 : u8of ((n / 2 ^ (8 * w) : Nat) : Int) = u8of ((n % 256 ^ (w + 1) / 2 ^ (8 * w) : Nat) : Int) := by
      apply UInt8.toNat_inj.1
      rw [u8of_nat, u8of_nat, pow8, Nat.pow_succ, Nat.mod_mul_right_div_self, Nat.mod_mod]
    rw [h1, h2]
theorem put_good {w : Int} {n : Nat} (h : (putF w n).2 = 0) : isW w ∧ n < 2 ^ (8 * w.toNat) ∧ putF w n = (beB w n, 0) := by
  by_cases hw : isW w
  · by_cases hf : n < 2 ^ (8 * w.toNat)
    · exact ⟨hw, hf, putF_ok hw hf⟩
    · rw [putF_big hw hf] at h; cases h
  · rw [putF_bad hw] at h; cases h
theorem get_good {w : Int} {s : ByteArray} (h : (getF w s).2.2 = 0) : isW w ∧ ¬ (s.size : Int) < w ∧ getF w s = (numL (s.data.toList.take w.toNat), s.extract w.toNat s.size, 0) := by
  by_cases hw : isW w
  · by_cases hs : (s.size : Int) < w
    · unfold getF at h; rw [if_pos hw, if_pos hs] at h; cases h
    · exact ⟨hw, hs, by unfold getF; rw [if_pos hw, if_neg hs]⟩
  · unfold getF at h; rw [if_neg hw] at h; cases h
theorem be_num : ∀ (l : List UInt8), be l.length (numL l) = l
  | [] => rfl
  | c :: l => by
    have hc : c.toNat < 256 := c.toNat_lt
    have hl := numL_lt l
    show u8of ((numL (c :: l) / 2 ^ (8 * l.length) : Nat) : Int) :: be l.length (numL (c :: l)) = c :: l
    have h1 : numL (c :: l) / 2 ^ (8 * l.length) = c.toNat := by
      rw [numL_cons, pow8, Nat.mul_comm, Nat.mul_add_div (Nat.pos_of_ne_zero (by have := Nat.pow_pos (n := l.length) (show 0 < 256 by decide); omega)), Nat.div_eq_of_lt hl, Nat.add_zero]
    have h2 : be l.length (numL (c :: l)) = be l.length (numL l) := by
      rw [be_mod l.length (numL (c :: l)), numL_cons, Nat.mul_comm, Nat.mul_add_mod, ← be_mod]
    rw [h1, h2, be_num l, u8of_cast]
theorem back_1 {w : Int} {n : Nat} {s : ByteArray} (h : (putF w n).2 = 0) : getF w ((putF w n).1 ++ s) = (n, s, 0) := by
  obtain ⟨hw, hf, he⟩ := put_good h
  rw [he]
  unfold getF
  have hz : (beB w n ++ s).size = w.toNat + s.size := by rw [ByteArray.size_append, beB_size]
  have := isW_rng hw
  rw [if_pos hw, if_neg (by rw [hz]; omega)]
  have h1 : (beB w n ++ s).data.toList.take w.toNat = be w.toNat n := by
    rw [bytes_cat, be_bytes]; exact List.take_left' (be_len _ _)
  have h2 : (beB w n ++ s).extract w.toNat (beB w n ++ s).size = s := by
    apply bytes_ext
    rw [ext_eq, bytes_cat, be_bytes, List.take_of_length_le (by rw [List.length_append, be_len, hz, len_bytes]; omega)]
    exact List.drop_left' (be_len _ _)
  rw [h1, h2, num_be, Nat.mod_eq_of_lt (by rw [← pow8]; exact hf)]
theorem back_len {w : Int} {n : Nat} (h : (putF w n).2 = 0) : ((putF w n).1.size : Int) = w := by
  obtain ⟨hw, hf, he⟩ := put_good h
  have := isW_rng hw
  rw [he]
  show ((beB w n).size : Int) = w
  rw [beB_size]; omega
theorem back_no {w : Int} {n : Nat} (h : ¬ (putF w n).2 = 0) : (putF w n).1 = (⟨#[]⟩ : ByteArray) := by
  unfold putF at *
  split
  · rename_i hw
    split
    · rename_i hf; rw [if_pos hw, if_pos hf] at h; exact absurd rfl h
    · rfl
  · rfl
theorem back_2 {w : Int} {s : ByteArray} (h : (getF w s).2.2 = 0) : (putF w (getF w s).1).2 = 0 ∧ (putF w (getF w s).1).1 ++ (getF w s).2.1 = s := by
  obtain ⟨hw, hs, he⟩ := get_good h
  have hr := isW_rng hw
  rw [he]
  have hl : (s.data.toList.take w.toNat).length = w.toNat := by rw [List.length_take, len_bytes]; omega
  have hlt := numL_lt (s.data.toList.take w.toNat)
  rw [hl] at hlt
  have hp : putF w (numL (s.data.toList.take w.toNat)) = (beB w (numL (s.data.toList.take w.toNat)), 0) := putF_ok hw (by rw [pow8]; exact hlt)
  simp only []
  rw [hp]
  refine ⟨rfl, bytes_ext ?_⟩
  rw [bytes_cat, be_bytes, ext_eq]
  have hb := be_num (s.data.toList.take w.toNat)
  rw [hl] at hb
  have ht : s.data.toList.take s.size = s.data.toList := List.take_of_length_le (by rw [len_bytes]; exact Nat.le_refl _)
  rw [hb, ht]
  exact List.take_append_drop _ _
theorem ptext_ok {t : ByteArray} (h : (ptextF t).2 = 0) : ¬ (t.size : Int) > 200 ∧ ptextF t = (beB 1 t.size ++ t, 0) := by
  unfold ptextF at *
  split
  · rename_i hh; rw [if_pos hh] at h; cases h
  · rename_i hh; exact ⟨hh, rfl⟩
theorem ptext_no {t : ByteArray} (h : ¬ (ptextF t).2 = 0) : (ptextF t).2 = 31 ∧ (t.size : Int) > 200 ∧ (ptextF t).1 = (⟨#[]⟩ : ByteArray) := by
  unfold ptextF at *
  split
  · rename_i hh; exact ⟨rfl, hh, rfl⟩
  · rename_i hh; rw [if_neg hh] at h; exact absurd rfl h
theorem put_one {n : Nat} (h : n ≤ 255) : putF 1 n = (beB 1 n, 0) := putF_ok (.inl rfl) (by show n < 256; omega)
theorem text_1 {t s : ByteArray} (h : (ptextF t).2 = 0) : textF ((ptextF t).1 ++ s) = (t, s, 0) := by
  obtain ⟨hs, he⟩ := ptext_ok h
  rw [he]
  show textF (beB 1 t.size ++ t ++ s) = _
  have hp := put_one (n := t.size) (by omega)
  have hb := back_1 (w := 1) (n := t.size) (s := t ++ s) (by rw [hp])
  rw [hp] at hb
  have ha : beB 1 t.size ++ t ++ s = beB 1 t.size ++ (t ++ s) := bytes_ext (by simp [List.append_assoc])
  unfold textF
  rw [ha, hb]
  have h1 : ¬ (((t ++ s).size : Nat) : Int) < (t.size : Int) := by rw [ByteArray.size_append]; omega
  have h2 : (t ++ s).extract 0 t.size = t := by
    apply bytes_ext; rw [ext_eq, List.drop_zero, bytes_cat]; exact List.take_left' (len_bytes t)
  have h3 : (t ++ s).extract t.size (t ++ s).size = s := by
    apply bytes_ext
    rw [ext_eq, List.take_of_length_le (by rw [len_bytes]; exact Nat.le_refl _), bytes_cat]; exact List.drop_left' (len_bytes t)
  simp only []
  rw [if_pos trivial, if_neg hs, if_neg h1, h2, h3]
theorem text_len {t : ByteArray} (h : (ptextF t).2 = 0) : ((ptextF t).1.size : Int) = (t.size : Int) + 1 := by
  obtain ⟨hs, he⟩ := ptext_ok h
  rw [he]
  show ((beB 1 t.size ++ t).size : Int) = _
  rw [ByteArray.size_append, beB_size]
  show ((1 + t.size : Nat) : Int) = _
  omega
theorem text_2 {s : ByteArray} (h : (textF s).2.2 = 0) : (ptextF (textF s).1).2 = 0 ∧ (ptextF (textF s).1).1 ++ (textF s).2.1 = s := by
  have hg : (getF 1 s).2.2 = 0 := by
    by_cases hg : (getF 1 s).2.2 = 0
    · exact hg
    · unfold textF at h; rw [if_neg hg] at h; exact absurd h hg
  have hb := back_2 hg
  have hn : ¬ ((getF 1 s).1 : Int) > 200 := fun hn => by unfold textF at h; rw [if_pos hg, if_pos hn] at h; cases h
  have hl : ¬ ((getF 1 s).2.1.size : Int) < ((getF 1 s).1 : Int) := fun hl => by unfold textF at h; rw [if_pos hg, if_neg hn, if_pos hl] at h; cases h
  have he : textF s = ((getF 1 s).2.1.extract 0 (getF 1 s).1, (getF 1 s).2.1.extract (getF 1 s).1 (getF 1 s).2.1.size, 0) := by unfold textF; rw [if_pos hg, if_neg hn, if_neg hl]
  rw [he]
  generalize getF 1 s = x at *
  obtain ⟨n, r, e⟩ := x
  simp only [] at *
  have hz : (r.extract 0 n).size = n := by rw [ByteArray.size_extract]; omega
  have hp : ptextF (r.extract 0 n) = (beB 1 n ++ r.extract 0 n, 0) := by unfold ptextF; rw [if_neg (by omega), hz]
  rw [hp]
  refine ⟨rfl, ?_⟩
  have h1 := hb.2
  rw [put_one (by omega)] at h1
  simp only [] at *
  rw [← h1]
  apply bytes_ext
  rw [bytes_cat, bytes_cat, bytes_cat, List.append_assoc, ext_eq, ext_eq, List.drop_zero, List.take_of_length_le (i := r.size) (by rw [len_bytes]; exact Nat.le_refl _), List.take_append_drop]
theorem ptext_size (t : ByteArray) : (ptextF t).1.size ≤ 201 := by
  by_cases h : (ptextF t).2 = 0
  · have := text_len h; have := (ptext_ok h).1; omega
  · rw [(ptext_no h).2.2]; exact Nat.zero_le _
theorem textF_size (s : ByteArray) : (textF s).1.size ≤ s.size := by
  by_cases h : (textF s).2.2 = 0
  · have h1 := (text_2 h).2
    have h2 := text_len (text_2 h).1
    have h3 := congrArg ByteArray.size h1
    rw [ByteArray.size_append] at h3
    omega
  · unfold textF at *
    split
    · rename_i h1
      rw [if_pos h1] at h
      split
      · exact Nat.zero_le _
      · rename_i h2
        rw [if_neg h2] at h
        split
        · exact Nat.zero_le _
        · rename_i h3; rw [if_neg h3] at h; exact absurd rfl h
    · exact Nat.zero_le _
theorem textF_rest (s : ByteArray) : (textF s).2.1.size ≤ s.size := by
  have hr := getF_rest 1 s
  unfold textF
  split
  · split
    · exact Nat.zero_le _
    · split
      · exact Nat.zero_le _
      · show ((getF 1 s).2.1.extract _ _).size ≤ _
        rw [ByteArray.size_extract]; omega
  · exact Nat.zero_le _
theorem w_bad {w : Int} {n : Nat} (h1 : ¬ w = 1) (h2 : ¬ w = 2) (h4 : ¬ w = 4) (h8 : ¬ w = 8) : putF w n = (⟨#[]⟩, 2) := putF_bad (by unfold isW; omega)
theorem w_fits {w : Int} {n : Nat} (hw : isW w) (h8 : w ≠ 8) (h : ((n / 2 ^ (8 * min w 7).toNat : Nat) : Int) = 0) : (putF w n).2 = 0 := by
  have := isW_rng hw
  have h7 : w ≤ 7 := by omega
  rw [Int.min_eq_left h7, show (8 * w).toNat = 8 * w.toNat by omega] at h
  rw [putF_ok hw ((Nat.div_eq_zero_iff_lt (Nat.two_pow_pos _)).1 (by omega))]
theorem w_fits8 {n : Nat} (hn : n < 18446744073709551616) : (putF 8 n).2 = 0 := by rw [putF_ok (by unfold isW; omega) (by exact hn)]
theorem w_not {w : Int} {n : Nat} (hw : isW w) (h8 : w ≠ 8) (h : ¬ ((n / 2 ^ (8 * min w 7).toNat : Nat) : Int) = 0) : (putF w n).2 = 31 := by
  have := isW_rng hw
  have h7 : w ≤ 7 := by omega
  rw [Int.min_eq_left h7, show (8 * w).toNat = 8 * w.toNat by omega] at h
  rw [putF_big hw (fun hf => h (by rw [Nat.div_eq_of_lt hf]; rfl))]
theorem less_be : ∀ (w n m : Nat), Op.bytesLess (be w n) (be w m) = decide (n % 256 ^ w < m % 256 ^ w)
  | 0, n, m => by simp [be, Op.bytesLess, Nat.mod_one]
  | w + 1, n, m => by
    have ih := less_be w n m
    show (decide (u8of _ < u8of _) || (u8of _ == u8of _ && Op.bytesLess (be w n) (be w m))) = _
    rw [ih, pow8]
    have e1 : ∀ z : Nat, z % 256 ^ (w + 1) = 256 ^ w * (z / 256 ^ w % 256) + z % 256 ^ w := fun z => by
      rw [Nat.pow_succ, Nat.mod_mul]; omega
    rw [e1 n, e1 m]
    have hp : 0 < 256 ^ w := Nat.pow_pos (by decide)
    have hln := Nat.mod_lt n hp
    have hlm := Nat.mod_lt m hp
    have hu : ∀ z : Nat, (u8of (z : Int)).toNat = z % 256 := u8of_nat
    generalize hX : n / 256 ^ w = X
    generalize hY : m / 256 ^ w = Y
    have hx := hu X
    have hy := hu Y
    generalize n % 256 ^ w = a at *
    generalize m % 256 ^ w = b at *
    generalize 256 ^ w = p at *
    rcases Nat.lt_trichotomy (X % 256) (Y % 256) with q | q | q
    · have h1 : u8of (X : Int) < u8of (Y : Int) := UInt8.lt_iff_toNat_lt.2 (by rw [hx, hy]; exact q)
      have h2 : p * (X % 256) + a < p * (Y % 256) + b := by
        have : p * (X % 256 + 1) ≤ p * (Y % 256) := Nat.mul_le_mul_left _ q
        rw [Nat.mul_add] at this; omega
      simp [h1, h2]
    · have h1 : u8of (X : Int) = u8of (Y : Int) := UInt8.toNat_inj.1 (by rw [hx, hy]; exact q)
      rw [q, h1]
      have h2 : ¬ u8of (Y : Int) < u8of (Y : Int) := UInt8.lt_irrefl _
      by_cases h3 : a < b
      · simp [h2, h3]
      · simp [h2, h3]
    · have h1 : ¬ u8of (X : Int) < u8of (Y : Int) := fun hh => by have := UInt8.lt_iff_toNat_lt.1 hh; omega
      have h3 : ¬ u8of (X : Int) = u8of (Y : Int) := fun hh => by rw [hh] at hx; omega
      have h2 : ¬ p * (X % 256) + a < p * (Y % 256) + b := by
        have : p * (Y % 256 + 1) ≤ p * (X % 256) := Nat.mul_le_mul_left _ q
        rw [Nat.mul_add] at this; omega
      simp [h1, h2, h3]
theorem ord_lt {w : Int} {n m : Nat} (h1 : (putF w n).2 = 0) (h2 : (putF w m).2 = 0) : (Op.bytesLess (putF w n).1.toList (putF w m).1.toList = true) ↔ (n : Int) < (m : Int) := by
  obtain ⟨hw, hf, he⟩ := put_good h1
  obtain ⟨_, hf2, he2⟩ := put_good h2
  rw [he, he2]
  show Op.bytesLess (beB w n).toList (beB w m).toList = true ↔ _
  rw [ByteArray.toList_eq, ByteArray.toList_eq, be_bytes, be_bytes, less_be, Nat.mod_eq_of_lt (by rw [← pow8]; exact hf), Nat.mod_eq_of_lt (by rw [← pow8]; exact hf2)]
  simp
theorem ord_eq {w : Int} {n m : Nat} (h1 : (putF w n).2 = 0) (h2 : (putF w m).2 = 0) : ((putF w n).1 = (putF w m).1) ↔ (n : Int) = (m : Int) := by
  constructor
  · intro h
    have h3 := back_1 (s := ⟨#[]⟩) h1
    rw [h, back_1 (s := ⟨#[]⟩) h2] at h3
    have := congrArg Prod.fst h3
    simp only [] at this
    omega
  · intro h
    rw [show n = m by omega]
theorem pack_append {z1 z2 : List (Int × Nat)} {o : ByteArray} (h : z1.foldl packStep (⟨#[]⟩, 0) = (o, 0)) : (z1 ++ z2).foldl packStep (⟨#[]⟩, 0) = z2.foldl packStep (o, 0) := by rw [List.foldl_append, h]
theorem pack_back : ∀ (z : List (Int × Nat)) (o p s : ByteArray) (a : List Nat), z.foldl packStep (o, 0) = (p, 0) → ∃ u : ByteArray, p = o ++ u ∧ (z.map Prod.fst).foldl upStep (a, u ++ s, 0) = (a ++ z.map Prod.snd, s, 0)
  | [], o, p, s, a, h => ⟨⟨#[]⟩, by
      have : p = o := (congrArg Prod.fst h).symm
      rw [this]; exact bytes_ext (by simp), by
      have : (⟨#[]⟩ : ByteArray) ++ s = s := bytes_ext (by simp)
      rw [this]; simp⟩
  | (w, n) :: z, o, p, s, a, h => by
    rw [List.foldl_cons] at h
    by_cases hp : (putF w n).2 = 0
    · have h1 : packStep (o, 0) (w, n) = (o ++ (putF w n).1, 0) := by unfold packStep; rw [if_pos rfl, if_pos hp]
      rw [h1] at h
      obtain ⟨u, hu, hr⟩ := pack_back z (o ++ (putF w n).1) p s (a ++ [n]) h
      refine ⟨(putF w n).1 ++ u, by rw [hu]; exact bytes_ext (by simp [List.append_assoc]), ?_⟩
      have hb := back_1 (s := u ++ s) hp
      have ha : (putF w n).1 ++ u ++ s = (putF w n).1 ++ (u ++ s) := bytes_ext (by simp [List.append_assoc])
      rw [List.map_cons, List.foldl_cons, ha]
      have h2 : upStep (a, (putF w n).1 ++ (u ++ s), 0) w = (a ++ [n], u ++ s, 0) := by unfold upStep; rw [hb, if_pos rfl, if_pos rfl]
      show (z.map Prod.fst).foldl upStep (upStep (a, (putF w n).1 ++ (u ++ s), 0) w) = _
      rw [h2, hr]; simp [List.append_assoc]
    · have h1 : packStep (o, 0) (w, n) = (⟨#[]⟩, (putF w n).2) := by unfold packStep; rw [if_pos rfl, if_neg hp]
      rw [h1, pack_stuck (a := (⟨#[]⟩, (putF w n).2)) hp] at h
      exact absurd (congrArg Prod.snd h) hp
theorem pack_unpack {ws : List Int} {l : List Nat} {s : ByteArray} (h : (packF ws l).2 = 0) : unpackF ws ((packF ws l).1 ++ s) = (l, s, 0) := by
  by_cases hl : (ws.length : Int) = (l.length : Int)
  · have he : packF ws l = packP ws l := if_pos hl
    rw [he] at h ⊢
    have hp : (ws.zip l).foldl packStep (⟨#[]⟩, 0) = ((packP ws l).1, 0) := by
      show packP ws l = _
      rw [← h]
    obtain ⟨u, hu, hr⟩ := pack_back _ _ _ s [] hp
    have hm1 : (ws.zip l).map Prod.fst = ws := List.map_fst_zip (by omega)
    have hm2 : (ws.zip l).map Prod.snd = l := List.map_snd_zip (by omega)
    rw [hm1, hm2] at hr
    have : (packP ws l).1 ++ s = u ++ s := by rw [hu]; exact bytes_ext (by simp)
    rw [this]
    unfold unpackF
    rw [hr]; simp
  · have he : packF ws l = (⟨#[]⟩, 2) := if_neg hl
    rw [he] at h; cases h
theorem pack_prop : ∀ (z : List (Int × Nat)) (a : ByteArray × Int), (a.2 = 0 ∨ a.1 = ⟨#[]⟩) → ((z.foldl packStep a).2 = 0 ∨ (z.foldl packStep a).1 = ⟨#[]⟩)
  | [], a, h => h
  | x :: z, a, h => by
    rw [List.foldl_cons]
    refine pack_prop z _ ?_
    unfold packStep
    split
    · split
      · exact .inl rfl
      · exact .inr rfl
    · exact h
theorem pack_empty {ws : List Int} {l : List Nat} (h : ¬ (packF ws l).2 = 0) : (packF ws l).1 = (⟨#[]⟩ : ByteArray) := by
  unfold packF at *
  split
  · rename_i hl
    rw [if_pos hl] at h
    rcases pack_prop (ws.zip l) (⟨#[]⟩, 0) (.inl rfl) with q | q
    · exact absurd q h
    · exact q
  · rfl
theorem pack_sz : ∀ (z : List (Int × Nat)) (a : ByteArray × Int), (z.foldl packStep a).1.size ≤ a.1.size + 8 * z.length
  | [], a => Nat.le_refl _
  | x :: z, a => by
    rw [List.foldl_cons, List.length_cons]
    have h := pack_sz z (packStep a x)
    have : (packStep a x).1.size ≤ a.1.size + 8 := by
      unfold packStep
      split
      · split
        · show (a.1 ++ (putF x.1 x.2).1).size ≤ _
          have := putF_size x.1 x.2
          rw [ByteArray.size_append]; omega
        · exact Nat.zero_le _
      · omega
    omega
theorem packF_size (ws : List Int) (l : List Nat) : (packF ws l).1.size ≤ 8 * l.length := by
  unfold packF
  split
  · have := pack_sz (ws.zip l) (⟨#[]⟩, 0)
    have h2 : (ws.zip l).length ≤ l.length := by rw [List.length_zip]; omega
    have h3 : (⟨#[]⟩ : ByteArray).size = 0 := rfl
    unfold packP
    simp only [] at this
    omega
  · exact Nat.zero_le _
def cutS (s : ByteArray) : ByteArray := s.extract 0 (min s.size 300)
theorem cutS_size (s : ByteArray) : (cutS s).size ≤ 300 := by unfold cutS; rw [ByteArray.size_extract]; omega
theorem ba_nil (s : ByteArray) : (⟨#[]⟩ : ByteArray) ++ s = s := bytes_ext (by simp)
theorem ba_nil' (s : ByteArray) : s ++ (⟨#[]⟩ : ByteArray) = s := bytes_ext (by simp)
theorem ba_assoc (a b c : ByteArray) : a ++ b ++ c = a ++ (b ++ c) := bytes_ext (by simp [List.append_assoc])
theorem labOf_nums {a : Lab} (h : labRight a) : labOf (nums3 a) = a := by
  obtain ⟨h1, h2, h3, h4⟩ := h
  obtain ⟨lv, cs, ig⟩ := a
  simp only [labOf, nums3, List.getD_cons_zero, List.getD_cons_succ] at *
  rw [Int.toNat_of_nonneg h1, Int.toNat_of_nonneg h3]
theorem back_get {a : Lab} {s : ByteArray} (h : labRight a) (hc : lab64 a) : labGet (labB a ++ s) = (a, s, 0) := by
  have hp := (lab_pack h hc).1
  have hu : unpackF w3 (labB a ++ s) = (nums3 a, s, 0) := pack_unpack hp
  unfold labGet
  rw [hu]
  simp only []
  rw [if_pos trivial, labOf_nums h, if_pos h]
theorem un_pack {s : ByteArray} (h : (unpackF w3 s).2.2 = 0) : (packF w3 (unpackF w3 s).1).1 ++ (unpackF w3 s).2.1 = s := by
  rw [unpack3] at h ⊢
  by_cases h1 : (getF 1 s).2.2 = 0
  · rw [if_pos h1] at h ⊢
    by_cases h2 : (getF 1 (getF 1 s).2.1).2.2 = 0
    · rw [if_pos h2] at h ⊢
      by_cases h3 : (getF 8 (getF 1 (getF 1 s).2.1).2.1).2.2 = 0
      · rw [if_pos h3]
        have b1 : beB 1 (getF 1 s).1 ++ (getF 1 s).2.1 = s := by have := (back_2 h1).2; rw [put1 _ (getF_one _)] at this; exact this
        have b2 : beB 1 (getF 1 (getF 1 s).2.1).1 ++ (getF 1 (getF 1 s).2.1).2.1 = (getF 1 s).2.1 := by have := (back_2 h2).2; rw [put1 _ (getF_one _)] at this; exact this
        have b3 : beB 8 (getF 8 (getF 1 (getF 1 s).2.1).2.1).1 ++ (getF 8 (getF 1 (getF 1 s).2.1).2.1).2.1 = (getF 1 (getF 1 s).2.1).2.1 := by have := (back_2 h3).2; rw [put8 _ (getF_lt _ _)] at this; exact this
        show (packF w3 [(getF 1 s).1, (getF 1 (getF 1 s).2.1).1, (getF 8 (getF 1 (getF 1 s).2.1).2.1).1]).1 ++ (getF 8 (getF 1 (getF 1 s).2.1).2.1).2.1 = s
        rw [pack3 (getF_one _) (getF_one _) (getF_lt _ _)]
        show (⟨#[]⟩ : ByteArray) ++ beB 1 _ ++ beB 1 _ ++ beB 8 _ ++ _ = s
        rw [ba_nil, ba_assoc, ba_assoc, b3, b2, b1]
      · rw [if_neg h3] at h; exact absurd h h3
    · rw [if_neg h2] at h; exact absurd h h2
  · rw [if_neg h1] at h; exact absurd h h1
theorem get_back {s : ByteArray} (h : (labGet s).2.2 = 0) : labB (labGet s).1 ++ (labGet s).2.1 = s := by
  have h1 : (unpackF w3 s).2.2 = 0 := by
    by_cases h1 : (unpackF w3 s).2.2 = 0
    · exact h1
    · rw [labGet_bad h1] at h; exact absurd h h1
  have h2 : labRight (labOf (unpackF w3 s).1) := by
    by_cases h2 : labRight (labOf (unpackF w3 s).1)
    · exact h2
    · rw [labGet_code h1 rfl h2] at h; exact absurd h (by decide)
  rw [labGet_ok h1 rfl h2]
  have hu := un_pack h1
  obtain ⟨x, y, z, e, _⟩ := un3 h1
  show labB (labOf (unpackF w3 s).1) ++ (unpackF w3 s).2.1 = s
  rw [e] at hu ⊢
  exact hu
theorem encS_nil : encS [] = (⟨#[]⟩ : ByteArray) := rfl
theorem encS_cons (a : Lab) (l : List Lab) : encS (a :: l) = labB a ++ encS l := bytes_ext (by simp [encS, encL])
theorem encS_app (l m : List Lab) : encS (l ++ m) = encS l ++ encS m := bytes_ext (by simp [encS, encL])
theorem labB_ne {a : Lab} {s : ByteArray} (h : labRight a) (hc : lab64 a) : ¬ labB a ++ s = ⟨#[]⟩ := fun e => by
  have h1 := congrArg ByteArray.size e
  rw [ByteArray.size_append, (lab_pack h hc).2] at h1
  have h2 : (⟨#[]⟩ : ByteArray).size = 0 := rfl
  omega
theorem gl_enc : ∀ (l : List Lab) (s : ByteArray), allR l → (∀ x ∈ l, lab64 x) → glF (encS l ++ s) = (l ++ (glF s).1, (glF s).2)
  | [], s, _, _ => by rw [encS_nil, ba_nil]; rfl
  | a :: l, s, hr, hc => by
    have ha := hr a (by simp)
    have hac := hc a (by simp)
    have e := back_get (s := encS l ++ s) ha hac
    rw [encS_cons, ba_assoc, gl_cons2 (labB_ne ha hac) (by rw [e]), e]
    simp only []
    rw [gl_enc l s (fun x hx => hr x (by simp [hx])) (fun x hx => hc x (by simp [hx]))]
    rfl
theorem gl_enc0 {l : List Lab} (hr : allR l) (hc : ∀ x ∈ l, lab64 x) : glF (encS l) = (l, ⟨#[]⟩, none) := by
  have h := gl_enc l ⟨#[]⟩ hr hc
  rw [ba_nil', gl_nil rfl] at h
  rw [h]; simp
theorem glR_enc {l : List Lab} (hr : allR l) (hc : ∀ x ∈ l, lab64 x) : glR (encS l) = (l, 0) := by
  unfold glR; rw [gl_enc0 hr hc]; rfl
theorem gl_ne : ∀ (n : Nat) (s : ByteArray), s.size ≤ n → (glF s).2.2 = none ∨ ¬ ecN (glF s).2.2 = 0
  | n, s, hn => by
    by_cases h0 : s = ⟨#[]⟩
    · rw [gl_nil h0]; exact .inl rfl
    · by_cases h1 : (labGet s).2.2 = 0
      · have hr := labGet_rest h1
        match n, hn with
        | 0, hn => omega
        | n + 1, hn => rw [gl_cons2 h0 h1]; exact gl_ne n _ (by omega)
      · rw [gl_err2 h0 h1]; exact .inr h1
theorem gl_back : ∀ (n : Nat) (s : ByteArray), s.size ≤ n → (glF s).2.2 = none → allR (glF s).1 ∧ encS (glF s).1 = s
  | n, s, hn => by
    intro h
    by_cases h0 : s = ⟨#[]⟩
    · rw [gl_nil h0]; subst h0; exact ⟨fun x hx => by (cases hx), rfl⟩
    · by_cases h1 : (labGet s).2.2 = 0
      · have hr := labGet_rest h1
        rw [gl_cons2 h0 h1] at h ⊢
        match n, hn with
        | 0, hn => omega
        | n + 1, hn =>
          obtain ⟨i1, i2⟩ := gl_back n (labGet s).2.1 (by omega) h
          refine ⟨fun x hx => ?_, ?_⟩
          · rcases List.mem_cons.1 hx with rfl | hx
            · exact labGet_right h1
            · exact i1 x hx
          · show encS ((labGet s).1 :: (glF (labGet s).2.1).1) = s
            rw [encS_cons, i2, get_back h1]
      · rw [gl_err2 h0 h1] at h; cases h
theorem glR_ok {s : ByteArray} (h : (glR s).2 = 0) : (glF s).2.2 = none ∧ glR s = ((glF s).1, 0) := by
  rcases gl_ne _ s (Nat.le_refl _) with q | q
  · exact ⟨q, by unfold glR; rw [if_pos q]⟩
  · unfold glR at h
    by_cases hq : (glF s).2.2 = none
    · rw [hq] at q; exact absurd rfl q
    · rw [if_neg hq] at h; exact absurd h q
theorem glR_back {s : ByteArray} (h : (glR s).2 = 0) : putS (glR s).1 = (s, 0) := by
  obtain ⟨h1, h2⟩ := glR_ok h
  obtain ⟨h3, h4⟩ := gl_back _ s (Nat.le_refl _) h1
  rw [h2]
  show putS (glF s).1 = _
  unfold putS; rw [if_pos h3, h4]
theorem glR_len (s : ByteArray) : (glR s).1.length ≤ s.size := by
  unfold glR
  split
  · have := gl_len _ s (Nat.le_refl _); show (glF s).1.length ≤ _; omega
  · exact Nat.zero_le _
theorem glR_64 (s : ByteArray) : ∀ x ∈ (glR s).1, lab64 x := by
  unfold glR
  split
  · exact gl_64 _ s (Nat.le_refl _)
  · intro x hx; cases hx
theorem putS_c {l : List Lab} : (putS l).2 = 0 ↔ allR l := by
  unfold putS; split <;> simp [*]
theorem putS_ok {l : List Lab} (h : (putS l).2 = 0) : putS l = (encS l, 0) := if_pos (putS_c.1 h)
theorem putS_no {l : List Lab} (h : ¬ (putS l).2 = 0) : putS l = (⟨#[]⟩, 20) := if_neg (fun q => h (putS_c.2 q))
theorem putS_size {l : List Lab} (h : ∀ x ∈ l, lab64 x) : (putS l).1.size ≤ 10 * l.length := by
  by_cases hr : (putS l).2 = 0
  · rw [putS_ok hr]; exact Nat.le_of_eq (encS_size (putS_c.1 hr) h)
  · rw [putS_no hr]; exact Nat.zero_le _
theorem putS_len {l : List Lab} (hr : (putS l).2 = 0) (h : ∀ x ∈ l, lab64 x) : ((putS l).1.size : Int) = 10 * (l.length : Int) := by
  rw [putS_ok hr]
  have := encS_size (putS_c.1 hr) h
  show ((encS l).size : Int) = _
  omega
theorem many_1 {l : List Lab} (hr : (putS l).2 = 0) (h : ∀ x ∈ l, lab64 x) : glR (putS l).1 = (l, 0) := by
  rw [putS_ok hr]; exact glR_enc (putS_c.1 hr) h
theorem join_no {l m : List Lab} (h : ¬ (putS l).2 = 0 ∨ ¬ (putS m).2 = 0) : putS (l ++ m) = (⟨#[]⟩, 20) := if_neg (fun q => h.elim (fun p => p (putS_c.2 fun x hx => q x (by simp [hx]))) (fun p => p (putS_c.2 fun x hx => q x (by simp [hx]))))
theorem join_ok {l m : List Lab} (h1 : (putS l).2 = 0) (h2 : (putS m).2 = 0) : putS (l ++ m) = ((putS l).1 ++ (putS m).1, 0) := by
  have hr : allR (l ++ m) := fun x hx => (List.mem_append.1 hx).elim (putS_c.1 h1 x) (putS_c.1 h2 x)
  rw [putS_ok h1, putS_ok h2]
  unfold putS; rw [if_pos hr, encS_app]
theorem join_get {l m : List Lab} (h1 : (putS l).2 = 0) (h2 : (putS m).2 = 0) (hl : ∀ x ∈ l, lab64 x) (hm : ∀ x ∈ m, lab64 x) : glR ((putS l).1 ++ (putS m).1) = (l ++ m, 0) := by
  have hr : allR (l ++ m) := fun x hx => (List.mem_append.1 hx).elim (putS_c.1 h1 x) (putS_c.1 h2 x)
  rw [putS_ok h1, putS_ok h2]
  show glR (encS l ++ encS m) = _
  rw [← encS_app]
  exact glR_enc hr (fun x hx => (List.mem_append.1 hx).elim (hl x) (hm x))
theorem app_64 {l m : List Lab} (hl : ∀ x ∈ l, lab64 x) (hm : ∀ x ∈ m, lab64 x) : ∀ x ∈ l ++ m, lab64 x := fun x hx => (List.mem_append.1 hx).elim (hl x) (hm x)
theorem putL_n {a : Lab} (h : ¬ (putL a).2 = 0) : (putL a).1 = (⟨#[]⟩ : ByteArray) := by rw [rput_no (fun q => h (putL_c.2 q))]
theorem lback {a : Lab} {s : ByteArray} (h : (putL a).2 = 0) (hc : lab64 a) : labGet ((putL a).1 ++ s) = (a, s, 0) := by rw [putL_b h]; exact back_get (putL_c.1 h) hc
theorem lback_len {a : Lab} (h : (putL a).2 = 0) (hc : lab64 a) : ((putL a).1.size : Int) = 10 := by rw [putL_b h, (lab_pack (putL_c.1 h) hc).2]; rfl
theorem lback_2 {s : ByteArray} (h : (labGet s).2.2 = 0) : (putL (labGet s).1).2 = 0 := putL_c.2 (labGet_right h)
theorem lback_3 {s : ByteArray} (h : (labGet s).2.2 = 0) : (putL (labGet s).1).1 ++ (labGet s).2.1 = s := by rw [putL_b (lback_2 h)]; exact get_back h
theorem range_c {a b : Lab} : (rangeF a b).2 = 0 ↔ labUnder a b := by
  unfold rangeF
  by_cases h : labRight a ∧ labRight b
  · rw [if_pos h]
    split
    · rename_i hu; exact ⟨fun _ => hu, fun _ => rfl⟩
    · rename_i hu; exact ⟨fun q => absurd q (by decide), fun q => absurd q hu⟩
  · rw [if_neg h]; exact ⟨fun q => absurd q (by decide), fun q => absurd ⟨q.1, q.2.1⟩ h⟩
theorem rangeF_ok {a b : Lab} (h : (rangeF a b).2 = 0) : rangeF a b = (labB a ++ labB b, 0) := by
  have hu := range_c.1 h
  unfold rangeF; rw [if_pos ⟨hu.1, hu.2.1⟩, if_pos hu]
theorem rback {a b : Lab} {s : ByteArray} (h : (rangeF a b).2 = 0) (ha : lab64 a) (hb : lab64 b) : rgetF ((rangeF a b).1 ++ s) = (a, b, s, 0) := by
  have hu := range_c.1 h
  rw [rangeF_ok h]
  show rgetF (labB a ++ labB b ++ s) = _
  have e1 := back_get (s := labB b ++ s) hu.1 ha
  have e2 := back_get (s := s) hu.2.1 hb
  rw [ba_assoc]
  unfold rgetF
  rw [e1]
  simp only [e2]
  rw [if_pos trivial, if_pos trivial, if_pos hu]
theorem rback_len {a b : Lab} (h : (rangeF a b).2 = 0) (ha : lab64 a) (hb : lab64 b) : ((rangeF a b).1.size : Int) = 20 := by
  have hu := range_c.1 h
  rw [rangeF_ok h]
  show ((labB a ++ labB b).size : Int) = 20
  rw [ByteArray.size_append, (lab_pack hu.1 ha).2, (lab_pack hu.2.1 hb).2]; rfl
theorem rangeF_size {a b : Lab} (ha : lab64 a) (hb : lab64 b) : (rangeF a b).1.size ≤ 20 := by
  by_cases h : (rangeF a b).2 = 0
  · have := rback_len h ha hb; omega
  · unfold rangeF at *
    split
    · rename_i h1
      rw [if_pos h1] at h
      split
      · rename_i h2; rw [if_pos h2] at h; exact absurd rfl h
      · exact Nat.zero_le _
    · exact Nat.zero_le _
theorem rg_ok {s : ByteArray} (h : (rgetF s).2.2.2 = 0) : (labGet s).2.2 = 0 ∧ (labGet (labGet s).2.1).2.2 = 0 ∧ labUnder (labGet s).1 (labGet (labGet s).2.1).1 := by
  by_cases h1 : (labGet s).2.2 = 0
  · by_cases h2 : (labGet (labGet s).2.1).2.2 = 0
    · by_cases h3 : labUnder (labGet s).1 (labGet (labGet s).2.1).1
      · exact ⟨h1, h2, h3⟩
      · rw [rrget_3 h1 h2 h3] at h; exact absurd h (by decide)
    · rw [rrget_2 h1 h2] at h; exact absurd h h2
  · rw [rrget_1 h1] at h; exact absurd h h1
theorem rg_under {s : ByteArray} (h : (rgetF s).2.2.2 = 0) : labUnder (rgetF s).1 (rgetF s).2.1 := by
  obtain ⟨h1, h2, h3⟩ := rg_ok h
  rw [rrget_4 h1 h2 h3]; exact h3
theorem rg_back {s : ByteArray} (h : (rgetF s).2.2.2 = 0) : (rangeF (rgetF s).1 (rgetF s).2.1).1 ++ (rgetF s).2.2.1 = s := by
  have hr := rangeF_ok (range_c.2 (rg_under h))
  rw [hr]
  obtain ⟨h1, h2, h3⟩ := rg_ok h
  rw [rrget_4 h1 h2 h3]
  show labB (labGet s).1 ++ labB (labGet (labGet s).2.1).1 ++ (labGet (labGet s).2.1).2.1 = s
  rw [ba_assoc, get_back h2, get_back h1]
theorem rg_64 (s : ByteArray) : lab64 (rgetF s).1 ∧ lab64 (rgetF s).2.1 := by
  have z : lab64 lab0 := by show (0 : Nat) < _; decide
  by_cases h1 : (labGet s).2.2 = 0
  · by_cases h2 : (labGet (labGet s).2.1).2.2 = 0
    · by_cases h3 : labUnder (labGet s).1 (labGet (labGet s).2.1).1
      · rw [rrget_4 h1 h2 h3]; exact ⟨labGet_64 _, labGet_64 _⟩
      · rw [rrget_3 h1 h2 h3]; exact ⟨z, z⟩
    · rw [rrget_2 h1 h2]; exact ⟨z, z⟩
  · rw [rrget_1 h1]; exact ⟨z, z⟩
theorem rgetF_size (s : ByteArray) : (rgetF s).2.2.1.size ≤ s.size := by
  by_cases h : (rgetF s).2.2.2 = 0
  · obtain ⟨h1, h2, h3⟩ := rg_ok h
    rw [rrget_4 h1 h2 h3]; exact Nat.le_trans (labGet_size _) (labGet_size _)
  · by_cases h1 : (labGet s).2.2 = 0
    · by_cases h2 : (labGet (labGet s).2.1).2.2 = 0
      · by_cases h3 : labUnder (labGet s).1 (labGet (labGet s).2.1).1
        · rw [rrget_4 h1 h2 h3] at h; exact absurd rfl h
        · rw [rrget_3 h1 h2 h3]; exact Nat.zero_le _
      · rw [rrget_2 h1 h2]; exact Nat.zero_le _
    · rw [rrget_1 h1]; exact Nat.zero_le _

theorem putC_pre (x : Wst) (y : UInt8) : ∃ t, (putC x y).1 = x.1 ++ t := by
  unfold putC putP
  repeat' split
  all_goals first | exact ⟨_, rfl⟩ | exact ⟨⟨#[]⟩, (ba_nil' _).symm⟩
theorem putN_pre : ∀ (l : List UInt8) (x : Wst), ∃ t, (putN l x).1 = x.1 ++ t
  | [], x => ⟨⟨#[]⟩, (ba_nil' _).symm⟩
  | y :: l, x => by
    obtain ⟨t, ht⟩ := putC_pre x y
    obtain ⟨u, hu⟩ := putN_pre l (putC x y)
    refine ⟨t ++ u, ?_⟩
    have e : putN (y :: l) x = putN l (putC x y) := rfl
    rw [e, hu, ht, ba_assoc]
theorem cput_good {c : Cal} (h : (callPut c).2 = 0) : isOp c.op ∧ (putX c).2.1 = none ∧ (putX c).2.2 = cal0 ∧ callPut c = ((putX c).1, 0) := by
  unfold callPut at h ⊢
  by_cases hq : isOp c.op ∧ (putX c).2.1 = none ∧ (putX c).2.2 = cal0
  · rw [if_pos hq]; exact ⟨hq.1, hq.2.1, hq.2.2, rfl⟩
  · rw [if_neg hq] at h; exact absurd h (by decide)
theorem cput_bad {c : Cal} (h : ¬ (callPut c).2 = 0) : callPut c = (⟨#[]⟩, 170) := by
  unfold callPut at h ⊢
  by_cases hq : isOp c.op ∧ (putX c).2.1 = none ∧ (putX c).2.2 = cal0
  · rw [if_pos hq] at h; exact absurd rfl h
  · rw [if_neg hq]
theorem u64_op {op : Int} (h : isOp op) : ((u64 op : Nat) : Int) = op := by
  obtain ⟨n, rfl⟩ := Int.eq_ofNat_of_zero_le (by unfold isOp at h; omega : 0 ≤ op)
  have e : u64 (n : Int) = n := u64_of (by unfold isOp at h; omega)
  show ((u64 (n : Int) : Nat) : Int) = (n : Int)
  rw [e]
theorem put_op {op : Int} (h : isOp op) : putF 1 (u64 op) = (beB 1 (u64 op), 0) := put_one (by have := u64_op h; unfold isOp at h; omega)
theorem putI_op {c : Cal} (h : isOp c.op) : (putI c).1 = beB 1 (u64 c.op) ∧ (putI c).2.1 = none := by
  refine ⟨?_, ?_⟩
  · show (⟨#[]⟩ : ByteArray) ++ (putF 1 (u64 c.op)).1 = _
    rw [put_op h, ba_nil]
  · show addQ none (numE 1 c.op) = none
    unfold addQ numE
    rw [if_pos rfl, if_neg (by unfold isOp at h; omega), put_op h]
    rfl
theorem first_ok {c : Cal} {x : UInt8} (h : (callPut c).2 = 0) (hx : (callPut c).1[0]? = some x) : (x.toNat : Int) = c.op := by
  obtain ⟨h1, _, _, h4⟩ := cput_good h
  obtain ⟨t, ht⟩ := putN_pre (lts (signsF c.op)) (putI c)
  have e : (callPut c).1 = beB 1 (u64 c.op) ++ t := by rw [h4]; show (putX c).1 = _; rw [← (putI_op h1).1]; exact ht
  have hx2 := lts_at hx
  unfold lts at hx2
  rw [e, bytes_cat, be_bytes] at hx2
  have hl : (be (1 : Int).toNat (u64 c.op)).length = 1 := by rw [← be_bytes, len_bytes, beB_size]; rfl
  have hn := num_be (1 : Int).toNat (u64 c.op)
  have ho := u64_op h1
  cases hb : be (1 : Int).toNat (u64 c.op) with
  | nil => rw [hb] at hl; cases hl
  | cons z r =>
    rw [hb] at hl hn hx2
    have hr : r = [] := List.eq_nil_of_length_eq_zero (by simpa using hl)
    subst hr
    have hz : z = x := by simpa using hx2
    subst hz
    have h2 : numL [z] = z.toNat := by simp [numL]
    rw [h2] at hn
    have h3 : (256 : Nat) ^ (1 : Int).toNat = 256 := rfl
    rw [h3] at hn
    unfold isOp at h1
    omega
theorem first_ne {c : Cal} (h : (callPut c).2 = 0) : ¬ (callPut c).1 = (⟨#[]⟩ : ByteArray) := fun q => by
  obtain ⟨h1, _, _, h4⟩ := cput_good h
  obtain ⟨t, ht⟩ := putN_pre (lts (signsF c.op)) (putI c)
  have e : (callPut c).1 = beB 1 (u64 c.op) ++ t := by rw [h4]; show (putX c).1 = _; rw [← (putI_op h1).1]; exact ht
  have h2 := congrArg ByteArray.size (e.symm.trans q)
  rw [ByteArray.size_append, beB_size] at h2
  have h3 : (⟨#[]⟩ : ByteArray).size = 0 := rfl
  have h5 : (1 : Int).toNat = 1 := rfl
  omega
theorem first_pos {c : Cal} (h : (callPut c).2 = 0) : 0 < (callPut c).1.size := by
  rcases Nat.eq_zero_or_pos (callPut c).1.size with q | q
  · exact absurd (bytes_ext (List.eq_nil_of_length_eq_zero (by rw [len_bytes, q]))) (first_ne h)
  · exact q
theorem first_two {c d : Cal} {x z : UInt8} (h1 : (callPut c).2 = 0) (h2 : (callPut d).2 = 0) (hx : (callPut c).1[0]? = some x) (hz : (callPut d).1[0]? = some z) (hne : ¬ c.op = d.op) : ¬ (callPut c).1 = (callPut d).1 := fun q => by
  have a := first_ok h1 hx
  rw [q] at hx
  have b := first_ok h2 hx
  exact hne (a.symm.trans b)
end Go.Proofs.YtcnncdniibkjkaaGreatDoor
