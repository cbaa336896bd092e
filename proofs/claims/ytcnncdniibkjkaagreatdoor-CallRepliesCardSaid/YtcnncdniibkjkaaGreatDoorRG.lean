/- The laws of chapter 17 (call), walked over the given program; no condition but what stands in each theorem: part G. -/
import Derived.Test.YtcnncdniibkjkaaGreatDoorRD
set_option linter.unusedVariables false
set_option linter.unusedSimpArgs false
set_option maxRecDepth 100000
set_option maxHeartbeats 8000000
namespace Go.Proofs.YtcnncdniibkjkaaGreatDoor
open Go Go.Sl Go.RowKit Go.Extern.Stop Go.Stop Go.Extern

theorem isW_rng {w : Int} (h : isW w) : 1 ≤ w ∧ w ≤ 8 := by unfold isW at h; omega
def be : Nat → Nat → List UInt8
  | 0, _ => []
  | w + 1, n => u8of ((n / 2 ^ (8 * w) : Nat) : Int) :: be w n
def beB (w : Int) (n : Nat) : ByteArray := ⟨(be w.toNat n).toArray⟩
theorem be_len : ∀ w n, (be w n).length = w
  | 0, _ => rfl
  | w + 1, n => by show (be w n).length + 1 = w + 1; rw [be_len]
theorem be_get : ∀ {w n i : Nat}, i < w → (be w n)[i]? = some (u8of ((n / 2 ^ (8 * (w - 1 - i)) : Nat) : Int))
  | w + 1, n, 0, _ => rfl
  | w + 1, n, i + 1, h => by
    show (be w n)[i]? = _
    rw [be_get (by omega : i < w), show w + 1 - 1 - (i + 1) = w - 1 - i by omega]
theorem be_at {w : Int} {n k : Nat} (h : (8 : Int) * w - 8 * (k : Int) - 8 ≥ 0) : (be w.toNat n)[k]? = some (u8of ((n / 2 ^ (8 * w - 8 * (k : Int) - 8).toNat : Nat) : Int)) := by
  rw [be_get (by omega), show 8 * (w.toNat - 1 - k) = (8 * w - 8 * (k : Int) - 8).toNat by omega]
theorem beB_size (w : Int) (n : Nat) : (beB w n).size = w.toNat := by
  show (be w.toNat n).toArray.size = _
  simp [be_len]
def numL (l : List UInt8) : Nat := l.foldl (fun n c => 256 * n + c.toNat) 0
theorem numL_snoc (l : List UInt8) (c : UInt8) : numL (l ++ [c]) = 256 * numL l + c.toNat := by simp [numL]
theorem numL_take {l : List UInt8} {k : Nat} {c : UInt8} (h : l[k]? = some c) : numL (l.take (k + 1)) = 256 * numL (l.take k) + c.toNat := by
  rw [List.take_add_one, h]; exact numL_snoc _ _
theorem numL_lt0 : ∀ (l : List UInt8) (a : Nat), l.foldl (fun n c => 256 * n + c.toNat) a < (a + 1) * 256 ^ l.length
  | [], a => by simp
  | c :: l, a => by
    have h := numL_lt0 l (256 * a + c.toNat)
    have hc : c.toNat < 256 := c.toNat_lt
    have h2 : (256 * a + c.toNat + 1) * 256 ^ l.length ≤ (256 * (a + 1)) * 256 ^ l.length := Nat.mul_le_mul_right _ (by omega)
    rw [List.foldl_cons, List.length_cons, Nat.pow_succ, Nat.mul_comm (256 ^ l.length) 256, ← Nat.mul_assoc, Nat.mul_comm (a + 1) 256]
    omega
theorem numL_lt (l : List UInt8) : numL l < 256 ^ l.length := by
  have := numL_lt0 l 0
  unfold numL; omega
theorem pow_le8 {a b : Nat} (h : a ≤ b) : 256 ^ a ≤ 256 ^ b := Nat.pow_le_pow_right (by decide) h
theorem num_small {l : List UInt8} {k : Nat} (h : k ≤ 7) : numL (l.take k) < 72057594037927936 := by
  have h1 := numL_lt (l.take k)
  have h2 : 256 ^ (l.take k).length ≤ 256 ^ 7 := pow_le8 (by rw [List.length_take]; omega)
  omega
theorem num_or {l : List UInt8} {k : Nat} {c : UInt8} (h : l[k]? = some c) (hk : k ≤ 7) : (numL (l.take k) * 2 ^ 8 % 18446744073709551616 ||| c.toNat) = numL (l.take (k + 1)) := by
  have h1 := num_small (l := l) hk
  have h2 : c.toNat < 256 := c.toNat_lt
  have h3 : numL (l.take k) * 2 ^ 8 ||| c.toNat = 2 ^ 8 * numL (l.take k) + c.toNat := by
    rw [Nat.mul_comm]; exact (Nat.two_pow_add_eq_or_of_lt (i := 8) (by omega) _).symm
  rw [Nat.mod_eq_of_lt (by omega), numL_take h, h3]
theorem u8_lt64 (b : UInt8) : b.toNat < 18446744073709551616 := by have : b.toNat < 256 := b.toNat_lt; omega
def takeS (n : Int) (r : ByteArray) (q : Er) : ByteArray × ByteArray × Er := if q = none then (if (r.size : Int) < n then (⟨#[]⟩, r, some (1, r.size)) else (r.extract 0 n.toNat, r.extract n.toNat r.size, none)) else (⟨#[]⟩, r, q)
def badW (w : Int) (r : ByteArray) (q : Er) : Er := if isW w then q else if q = none then some (0, r.size) else q
def numberF (w : Int) (r : ByteArray) (q : Er) : Nat × ByteArray × Er := (numL (takeS w r (badW w r q)).1.data.toList, (takeS w r (badW w r q)).2)
theorem takeS_size (n : Int) (r : ByteArray) (q : Er) : (takeS n r q).1.size ≤ n.toNat := by
  unfold takeS
  split
  · split
    · exact Nat.zero_le _
    · show (r.extract 0 n.toNat).size ≤ _
      rw [ByteArray.size_extract]; omega
  · exact Nat.zero_le _
theorem takeS_rest (n : Int) (r : ByteArray) (q : Er) : (takeS n r q).2.1.size ≤ r.size := by
  unfold takeS
  split
  · split
    · exact Nat.le_refl _
    · show (r.extract n.toNat r.size).size ≤ _
      rw [ByteArray.size_extract]; omega
  · exact Nat.le_refl _
theorem badW_none {w : Int} {r : ByteArray} {q : Er} (h : badW w r q = none) : isW w := by
  unfold badW at h
  split at h
  · assumption
  · split at h
    · cases h
    · contradiction
theorem take_le8 {w : Int} {r : ByteArray} {q : Er} : (takeS w r (badW w r q)).1.size ≤ 8 := by
  by_cases hw : isW w
  · have := takeS_size w r (badW w r q); have := isW_rng hw; omega
  · have : ¬ badW w r q = none := fun h => hw (badW_none h)
    rw [takeS, if_neg this]; exact Nat.zero_le _
theorem number_lt (w : Int) (r : ByteArray) (q : Er) : (numberF w r q).1 < 18446744073709551616 := by
  have h1 := numL_lt (takeS w r (badW w r q)).1.data.toList
  have h2 := take_le8 (w := w) (r := r) (q := q)
  have h3 : 256 ^ (takeS w r (badW w r q)).1.data.toList.length ≤ 256 ^ 8 := pow_le8 (by simpa using h2)
  show numL _ < _
  omega
theorem number_one (r : ByteArray) (q : Er) : (numberF 1 r q).1 < 256 := by
  have h1 := numL_lt (takeS 1 r (badW 1 r q)).1.data.toList
  have h2 := takeS_size 1 r (badW 1 r q)
  have h3 : 256 ^ (takeS 1 r (badW 1 r q)).1.data.toList.length ≤ 256 ^ 1 := pow_le8 (by simpa using h2)
  show numL _ < _
  omega
theorem take_le8s {w : Int} {r : ByteArray} {q : Er} (h : q = none → isW w) : (takeS w r q).1.size ≤ 8 := by
  by_cases hq : q = none
  · have := takeS_size w r q; have := isW_rng (h hq); omega
  · rw [takeS, if_neg hq]; exact Nat.zero_le _
theorem take_le8l {w : Int} {r : ByteArray} {q : Er} (h : q = none → isW w) : (takeS w r q).1.data.toList.length ≤ 8 := take_le8s h
theorem u8_in64 (b : UInt8) : IntKind.u64.wrap (b.toNat : Int) = (b.toNat : Int) := by
  have := u8_lt64 b
  rw [IntKind.wrap_u64]; omega
def endF (r : ByteArray) (q : Er) : ByteArray × Int := if q = none then (r, 0) else (⟨#[]⟩, erN q)
theorem put_fits {w : Int} {n : Nat} (hw : isW w) : ((n / 2 ^ (8 * w - 1).toNat / 2 ^ 1 : Nat) : Int) = 0 ↔ n < 2 ^ (8 * w.toNat) := by
  have := isW_rng hw
  rw [Nat.div_div_eq_div_mul, ← Nat.pow_add, show (8 * w - 1).toNat + 1 = 8 * w.toNat by omega]
  constructor
  · intro h
    have h : n / 2 ^ (8 * w.toNat) = 0 := by omega
    exact (Nat.div_eq_zero_iff_lt (Nat.two_pow_pos _)).1 h
  · intro h
    rw [Nat.div_eq_of_lt h]; rfl
def putF (w : Int) (n : Nat) : ByteArray × Int := if isW w then (if n < 2 ^ (8 * w.toNat) then (beB w n, 0) else (⟨#[]⟩, 31)) else (⟨#[]⟩, 2)
def getF (w : Int) (s : ByteArray) : Nat × ByteArray × Int := if isW w then (if (s.size : Int) < w then (0, ⟨#[]⟩, 30) else (numL (s.data.toList.take w.toNat), s.extract w.toNat s.size, 0)) else (0, ⟨#[]⟩, 2)
theorem ris_ (w : Int) : Con Tryz.prog 52 [.int .i64 w] [] [] (fun v L' I' => v = .bool (decide (isW w)) ∧ L' = [] ∧ I' = []) := by
 refine fn_of Tryz.func52 rfl Tryz.ntmps52 (by kernel_rfl) rfl (fun C => ?_)
 refine c_seq (c_region ?_)
 refine s_y rfl (v := .bool false) (y_as rfl) rfl ?_
 refine s_nil (q_then (c_seq (c_region ?_)))
 refine s_y rfl (v := .int .i64 w) (y_mv rfl) rfl ?_
 refine e_by (w = 1) (fun h1 => ?_) (fun h1 => ?_)
 ·
  refine s_y rfl (v := .bool true) (y_t (y_k (v := .bool (decide (w = 1))) rfl rfl (fun _ => by kernel_rfl)) h1) rfl ?_
  refine s_y rfl (v := .bool true) (y_mv rfl) rfl ?_
  refine st_off 5 rfl rfl rfl rfl rfl rfl ?_
  refine st_off 5 rfl rfl rfl rfl rfl rfl ?_
  refine s_y rfl (v := .bool true) (y_pick rfl rfl) rfl ?_
  refine s_y rfl (v := .bool true) (y_mv rfl) rfl ?_
  refine st_off 9 rfl rfl rfl rfl rfl rfl ?_
  refine st_off 9 rfl rfl rfl rfl rfl rfl ?_
  refine s_y rfl (v := .bool true) (y_pick rfl rfl) rfl ?_
  refine s_y rfl (v := .bool true) (y_mv rfl) rfl ?_
  refine st_off 13 rfl rfl rfl rfl rfl rfl ?_
  refine st_off 13 rfl rfl rfl rfl rfl rfl ?_
  refine s_y rfl (v := .bool true) (y_pick rfl rfl) rfl ?_
  refine s_y rfl (v := .bool true) (y_as rfl) rfl ?_
  refine s_nil (q_then (c_ret ?_))
  refine c_fin (I' := []) [] [] rfl (.tmp rfl .nil) rfl rfl rfl ?_
  exact ⟨dec_t (by unfold isW; omega), rfl, rfl⟩
 ·
  refine s_y rfl (v := .bool false) (y_f (y_k (v := .bool (decide (w = 1))) rfl rfl (fun _ => by kernel_rfl)) h1) rfl ?_
  refine s_y rfl (v := .bool false) (y_mv rfl) rfl ?_
  refine st_on 5 rfl rfl rfl (o_y (v := .int .i64 w) (y_mv rfl) rfl rfl rfl ?_)
  refine e_by (w = 2) (fun h2 => ?_) (fun h2 => ?_)
  ·
   refine st_on 5 rfl rfl rfl (o_y (v := .bool true) (y_t (y_k (v := .bool (decide (w = 2))) rfl rfl (fun _ => by kernel_rfl)) h2) rfl rfl rfl ?_)
   refine s_y rfl (v := .bool true) (y_pick rfl rfl) rfl ?_
   refine s_y rfl (v := .bool true) (y_mv rfl) rfl ?_
   refine st_off 9 rfl rfl rfl rfl rfl rfl ?_
   refine st_off 9 rfl rfl rfl rfl rfl rfl ?_
   refine s_y rfl (v := .bool true) (y_pick rfl rfl) rfl ?_
   refine s_y rfl (v := .bool true) (y_mv rfl) rfl ?_
   refine st_off 13 rfl rfl rfl rfl rfl rfl ?_
   refine st_off 13 rfl rfl rfl rfl rfl rfl ?_
   refine s_y rfl (v := .bool true) (y_pick rfl rfl) rfl ?_
   refine s_y rfl (v := .bool true) (y_as rfl) rfl ?_
   refine s_nil (q_then (c_ret ?_))
   refine c_fin (I' := []) [] [] rfl (.tmp rfl .nil) rfl rfl rfl ?_
   exact ⟨dec_t (by unfold isW; omega), rfl, rfl⟩
  ·
   refine st_on 5 rfl rfl rfl (o_y (v := .bool false) (y_f (y_k (v := .bool (decide (w = 2))) rfl rfl (fun _ => by kernel_rfl)) h2) rfl rfl rfl ?_)
   refine s_y rfl (v := .bool false) (y_pick rfl rfl) rfl ?_
   refine s_y rfl (v := .bool false) (y_mv rfl) rfl ?_
   refine st_on 9 rfl rfl rfl (o_y (v := .int .i64 w) (y_mv rfl) rfl rfl rfl ?_)
   refine e_by (w = 4) (fun h3 => ?_) (fun h3 => ?_)
   ·
    refine st_on 9 rfl rfl rfl (o_y (v := .bool true) (y_t (y_k (v := .bool (decide (w = 4))) rfl rfl (fun _ => by kernel_rfl)) h3) rfl rfl rfl ?_)
    refine s_y rfl (v := .bool true) (y_pick rfl rfl) rfl ?_
    refine s_y rfl (v := .bool true) (y_mv rfl) rfl ?_
    refine st_off 13 rfl rfl rfl rfl rfl rfl ?_
    refine st_off 13 rfl rfl rfl rfl rfl rfl ?_
    refine s_y rfl (v := .bool true) (y_pick rfl rfl) rfl ?_
    refine s_y rfl (v := .bool true) (y_as rfl) rfl ?_
    refine s_nil (q_then (c_ret ?_))
    refine c_fin (I' := []) [] [] rfl (.tmp rfl .nil) rfl rfl rfl ?_
    exact ⟨dec_t (by unfold isW; omega), rfl, rfl⟩
   ·
    refine st_on 9 rfl rfl rfl (o_y (v := .bool false) (y_f (y_k (v := .bool (decide (w = 4))) rfl rfl (fun _ => by kernel_rfl)) h3) rfl rfl rfl ?_)
    refine s_y rfl (v := .bool false) (y_pick rfl rfl) rfl ?_
    refine s_y rfl (v := .bool false) (y_mv rfl) rfl ?_
    refine st_on 13 rfl rfl rfl (o_y (v := .int .i64 w) (y_mv rfl) rfl rfl rfl ?_)
    refine e_by (w = 8) (fun h4 => ?_) (fun h4 => ?_)
    ·
     refine st_on 13 rfl rfl rfl (o_y (v := .bool true) (y_t (y_k (v := .bool (decide (w = 8))) rfl rfl (fun _ => by kernel_rfl)) h4) rfl rfl rfl ?_)
     refine s_y rfl (v := .bool true) (y_pick rfl rfl) rfl ?_
     refine s_y rfl (v := .bool true) (y_as rfl) rfl ?_
     refine s_nil (q_then (c_ret ?_))
     refine c_fin (I' := []) [] [] rfl (.tmp rfl .nil) rfl rfl rfl ?_
     exact ⟨dec_t (by unfold isW; omega), rfl, rfl⟩
    ·
     refine st_on 13 rfl rfl rfl (o_y (v := .bool false) (y_f (y_k (v := .bool (decide (w = 8))) rfl rfl (fun _ => by kernel_rfl)) h4) rfl rfl rfl ?_)
     refine s_y rfl (v := .bool false) (y_pick rfl rfl) rfl ?_
     refine s_y rfl (v := .bool false) (y_as rfl) rfl ?_
     refine s_nil (q_then (c_ret ?_))
     refine c_fin (I' := []) [] [] rfl (.tmp rfl .nil) rfl rfl rfl ?_
     exact ⟨dec_f (by unfold isW; omega), rfl, rfl⟩
theorem bitsOf_ (w : Int) (ea : Addr) (em : Addr) (ef : Addr) : Con Tryz.prog 86 [.int .i64 w] [] [cellsAt 2 0 [.iface 180 (.pointer (some ea))], cellsAt 3 0 [.iface 180 (.pointer (some em))], cellsAt 1 0 [.iface 180 (.pointer (some ef))], errAt ea, errAt em, errAt ef, cellsAt 0 0 [.iface 147 (.agg #[.pointer (some ⟨5, 48, none⟩)])]] (fun v L' I' => ((isW w) ∧ v = .tuple #[.int .i64 (8 * w), .nilIface] ∧ L' = [] ∧ I' = []) ∨ ((¬ (isW w)) ∧ v = .tuple #[.int .i64 0, .iface 180 (.pointer (some ea))] ∧ L' = [] ∧ I' = [])) := by
 refine fn_of Tryz.func86 rfl Tryz.ntmps86 (by kernel_rfl) rfl (fun C => ?_)
 refine c_seq (c_region ?_)
 refine s_y rfl (v := .int .i64 0) (y_as rfl) rfl ?_
 refine s_y rfl (v := .nilIface) (y_as rfl) rfl ?_
 refine s_nil (q_then (c_seq (c_region ?_)))
 refine st rfl (o_mkmap rfl (fun m1 => ?_))
 refine st rfl (o_insert 0 rfl rfl rfl rfl Tryz.underlying170 Tryz.underlying3 rfl (by kernel_rfl) ?_)
 refine st rfl (o_insert 0 rfl rfl rfl rfl Tryz.underlying170 Tryz.underlying3 rfl (by kernel_rfl) ?_)
 refine st rfl (o_insert 0 rfl rfl rfl rfl Tryz.underlying170 Tryz.underlying3 rfl (by kernel_rfl) ?_)
 refine st rfl (o_insert 0 rfl rfl rfl rfl Tryz.underlying170 Tryz.underlying3 rfl (by kernel_rfl) ?_)
 refine s_y rfl (v := .map (some m1)) (y_mv rfl) rfl ?_
 refine s_y rfl (v := .int .i64 w) (y_mv rfl) rfl ?_
 refine st rfl (o_lookup (v := .int .i64 (bitsF w)) (ok := (decide (isW w))) 0 rfl rfl rfl Tryz.underlying170 Tryz.underlying3 rfl (bits_find w) (fun w => by kernel_rfl) (bits_val w) (bits_ok w) rfl ?_)
 refine s_y rfl (v := .tuple #[.int .i64 (bitsF w), .bool (decide (isW w))]) (y_mv rfl) rfl ?_
 refine s_y rfl (v := .int .i64 (bitsF w)) (y_k rfl rfl (fun _ => by kernel_rfl)) rfl ?_
 refine s_y rfl (v := .bool (decide (isW w))) (y_k rfl rfl (fun _ => by kernel_rfl)) rfl ?_
 refine s_y rfl (v := .int .i64 (bitsF w)) (y_as rfl) rfl ?_
 refine s_y rfl (v := .bool (decide (isW w))) (y_as rfl) rfl ?_
 refine s_nil (q_then (c_seq (c_seq (c_region ?_))))
 refine s_y rfl (v := .bool (decide (isW w))) (y_mv rfl) rfl ?_
 refine s_y rfl (v := .bool (!decide (isW w))) (y_not rfl) rfl ?_
 refine s_nil (q_then ?_)
 refine c_bool rfl (fun h1 => ?_) (fun h1 => ?_)
 ·
  have h2 : ¬ (isW w) := by simpa using h1
  refine c_seq ?_
  refine c_draw (l := ticked 3 0) [(⟨2, 0, none⟩, .iface 180 (.pointer (some ea)))] [] (by kernel_rfl) rfl rfl ?_
  refine b_y (i := 1) (v := .int .i64 0) (ticked 3 2) rfl rfl (by exact y_as rfl) ?_
  refine a_held (i := 0) (ticked 3 3) rfl (by as_aux_lemma => kernel_rfl) rfl rfl rfl (held_fact (j := 0) 0 rfl rfl held_nil) (h_ld 0 rfl rfl Tryz.underlying48 rfl) ?_
  refine b_y (i := 2) (v := .iface 180 (.pointer (some ea))) (ticked 3 7) rfl rfl (by exact y_as rfl) ?_
  refine a_done (by as_aux_lemma => kernel_rfl) ?_
  refine q_then (c_ret (q_then_ret ?_))
  refine c_fin (I' := []) [] [0, 1, 2, 3, 4, 5, 6] rfl (.tmp rfl (.tmp rfl .nil)) rfl rfl rfl ?_
  exact .inr ⟨h2, rfl, rfl, rfl⟩
 ·
  have h3 : isW w := by simpa using h1
  refine c_skip (q_then (c_seq (c_region ?_)))
  refine s_y rfl (v := .int .i64 (bitsF w)) (y_mv rfl) rfl ?_
  refine s_y rfl (v := .int .i64 (bitsF w)) (y_as rfl) rfl ?_
  refine s_y rfl (v := .nilIface) (y_as rfl) rfl ?_
  refine s_nil (q_then (c_ret ?_))
  have hb := bits_eq (by assumption)
  rw [hb]
  refine c_fin (I' := []) [] [0, 1, 2, 3, 4, 5, 6] rfl (.tmp rfl (.tmp rfl .nil)) rfl rfl rfl ?_
  exact .inl ⟨h3, rfl, rfl, rfl⟩
theorem bytes_ (w : Int) (n : Nat) : Con Tryz.prog 87 [.int .u64 (n : Int), .int .i64 (8 * w)] [] [] (fun v L' I' => ∃ b1 : Nat, ∃ b2 : Nat, v = .func (.func 98) #[] #[.pointer (some ⟨b1, 0, none⟩), .pointer (some ⟨b2, 0, none⟩)] ∧ L' = [pt b1 [.int .i64 (8 * w)] 3, pt b2 [.int .u64 (n : Int)] 22] ∧ I' = []) := by
 refine fn_of Tryz.func87 rfl Tryz.ntmps87 (by kernel_rfl) rfl (fun C => ?_)
 refine c_seq (c_region ?_)
 refine st rfl (o_box (cs := [.int .u64 (n : Int)]) (T := 22) rfl rfl rfl rfl (fun _ => by kernel_rfl) (fun b1 => ?_))
 refine st rfl (o_box (cs := [.int .i64 (8 * w)]) (T := 3) rfl rfl rfl rfl (fun _ => by kernel_rfl) (fun b2 => ?_))
 refine s_y rfl (v := .nilFunc) (y_as rfl) rfl ?_
 refine s_nil (q_then (c_seq (c_region ?_)))
 refine s_y rfl (v := .func (.func 98) #[] #[.pointer (some ⟨b2, 0, none⟩), .pointer (some ⟨b1, 0, none⟩)]) (y_k rfl rfl (fun _ => by kernel_rfl)) rfl ?_
 refine s_y rfl (v := .func (.func 98) #[] #[.pointer (some ⟨b2, 0, none⟩), .pointer (some ⟨b1, 0, none⟩)]) (y_as rfl) rfl ?_
 refine s_nil (q_then (c_ret ?_))
 refine c_fin (I' := []) [0, 0] [] rfl (.tmp rfl .nil) rfl rfl rfl ?_
 exact ⟨b2, b1, rfl, rfl, rfl⟩
theorem bytes1_ (b1 : Nat) (b2 : Nat) (w : Int) (n : Nat) (hw : 1 ≤ w ∧ w ≤ 8) (hn : n < 18446744073709551616) : It Tryz.prog 98 [.pointer (some ⟨b1, 0, none⟩), .pointer (some ⟨b2, 0, none⟩)] [pt b1 [.int .i64 (8 * w)] 3, pt b2 [.int .u64 (n : Int)] 22] [] ((be w.toNat n).map fun y => [.int .u8 (y.toNat : Int)]) (fun L1 => L1 = [pt b1 [.int .i64 (8 * w)] 3, pt b2 [.int .u64 (n : Int)] 22]) := by
 intro lp SS XX L0 I0 h0a hY
 refine fn_of Tryz.func98 rfl Tryz.ntmps98 (by kernel_rfl) rfl (fun C => ?_)
 refine c_scope0 ?_
 refine c_seq ?_
 refine c_label ?_
 refine q_then (c_seq (c_region ?_))
 refine st rfl (o_ld 0 rfl rfl rfl Tryz.underlying3 rfl rfl ?_)
 refine s_y rfl (v := .int .i64 ((8 * w) - 8)) (y_sub (r := (8 * w) - 8) rfl rfl rfl (by omega)) rfl ?_
 refine s_y rfl (v := .int .i64 ((8 * w) - 8)) (y_as rfl) rfl ?_
 refine s_nil (q_then (c_block ?_))
 refine c_loop (ι := Nat × (List Atom) × (List Atom)) (fun (ka, Lx, Ix) => (ka ≤ w.toNat) ∧ (SS ka Lx Ix)) (fun (ka, Lx, Ix) => [(0, .func (.yield lp) #[] #[]), (2, .pointer (some ⟨b2, 0, none⟩)), (4, .int .i64 (8 * w - 8 * (ka : Int) - 8))]) (fun (ka, Lx, Ix) => ([pt b1 [.int .i64 (8 * w)] 3, pt b2 [.int .u64 (n : Int)] 22] ++ Lx)) (fun (ka, Lx, Ix) => (Ix ++ I0)) (fun (ka, Lx, Ix) => w.toNat - ka) (0, L0, I0) (show (0 ≤ w.toNat) ∧ (SS 0 L0 I0) from ⟨by first | omega | simp_all | (simp; done), h0a⟩) ((.cons rfl rfl (.cons rfl rfl (.cons rfl (show (.int .i64 ((8 * w) - 8) : Value) = .int .i64 (8 * w - 8 * (0 : Int) - 8) from by first | rfl | (congr 1; omega) | (congr 1; simp; done) | (congr 1; simp; omega)) .nil)))) rfl (by intro φ hφ; simp only [List.mem_append, List.mem_cons, List.not_mem_nil, or_false, false_or] at hφ ⊢; grind) ?_
 rintro ⟨ka, Lx, Ix⟩ ⟨hk, hS⟩
 show Ent 18 C [(0, .func (.yield lp) #[] #[]), (2, .pointer (some ⟨b2, 0, none⟩)), (4, .int .i64 (8 * w - 8 * (ka : Int) - 8))] [] ([pt b1 [.int .i64 (8 * w)] 3, pt b2 [.int .u64 (n : Int)] 22] ++ Lx) (Ix ++ I0) _
 refine c_seq (c_seq (c_region ?_))
 refine s_y rfl (v := .int .i64 (8 * w - 8 * (ka : Int) - 8)) (y_mv rfl) rfl ?_
 refine e_by (8 * w - 8 * (ka : Int) - 8 ≥ 0) (fun h1 => ?_) (fun h1 => ?_)
 ·
  refine s_y rfl (v := .bool true) (y_t (y_k (v := .bool (decide (8 * w - 8 * (ka : Int) - 8 ≥ 0))) rfl rfl (fun _ => by kernel_rfl)) h1) rfl ?_
  refine s_nil (q_then (c_true rfl (c_skip (q_then (c_seq (c_block (c_seq (c_region ?_))))))))
  refine s_y rfl (v := .func (.yield lp) #[] #[]) (y_mv rfl) rfl ?_
  refine st rfl (o_ld 1 rfl rfl rfl Tryz.underlying22 rfl rfl ?_)
  refine s_y rfl (v := .int .i64 (8 * w - 8 * (ka : Int) - 8)) (y_mv rfl) rfl ?_
  refine s_y rfl (v := .int .u64 ((n / 2 ^ ((8 * w - 8 * (ka : Int) - 8).toNat) : Nat) : Int)) (y_shr (a := n) (k := (8 * w - 8 * (ka : Int) - 8).toNat) rfl rfl (by omega) (by omega)) rfl ?_
  refine s_y rfl (v := .int .u8 ((u8of ((n / 2 ^ ((8 * w - 8 * (ka : Int) - 8).toNat) : Nat) : Int)).toNat : Int)) (y_cvi (r := ((u8of ((n / 2 ^ ((8 * w - 8 * (ka : Int) - 8).toNat) : Nat) : Int)).toNat : Int)) rfl Tryz.underlying22 Tryz.underlying5 (u8of_wrap _)) rfl ?_
  refine st rfl (o_yield [pt b1 [.int .i64 (8 * w)] 3, pt b2 [.int .u64 (n : Int)] 22] Lx Ix (hY ka _ _ _ (by rw [List.getElem?_map, be_at (by assumption)]; rfl) hS) rfl rfl rfl (by intro φ hφ; simp only [List.mem_append, List.mem_cons, List.not_mem_nil, or_false, false_or] at hφ ⊢; grind) rfl (fun bb1 Ly1 Iy1 hq1 => ?_))
  rcases hq1 with ⟨rfl, hq1⟩ | ⟨rfl, hq1⟩
  ·
   refine s_y rfl (v := .bool false) (y_k rfl rfl (fun _ => by kernel_rfl)) rfl ?_
   refine s_nil (q_then (c_false rfl (c_skip (q_block (q_then (c_region ?_))))))
   refine s_y rfl (v := .int .i64 (8 * w - 8 * (ka : Int) - 8)) (y_mv rfl) rfl ?_
   refine s_y rfl (v := .int .i64 ((8 * w - 8 * (ka : Int) - 8) - 8)) (y_sub (r := (8 * w - 8 * (ka : Int) - 8) - 8) rfl rfl rfl (by omega)) rfl ?_
   refine s_y rfl (v := .int .i64 ((8 * w - 8 * (ka : Int) - 8) - 8)) (y_as rfl) rfl ?_
   refine s_nil (q_then ?_)
   refine c_again (ka + 1, Ly1, Iy1) ?_ ?_ ?_ (by rfl) (by intro φ hφ; simp only [List.mem_append, List.mem_cons, List.not_mem_nil, or_false, false_or] at hφ ⊢; grind)
   · exact (show ((ka + 1) ≤ w.toNat) ∧ (SS (ka + 1) Ly1 Iy1) from ⟨by first | omega | simp_all | (simp; done), hq1⟩)
   · show w.toNat - (ka + 1) < w.toNat - ka; omega
   · exact (.cons rfl rfl (.cons rfl rfl (.cons rfl (show (.int .i64 ((8 * w - 8 * (ka : Int) - 8) - 8) : Value) = .int .i64 (8 * w - 8 * ((ka + 1) : Int) - 8) from by first | rfl | (congr 1; omega) | (congr 1; simp; done) | (congr 1; simp; omega)) .nil)))
  ·
   refine s_y rfl (v := .bool true) (y_k rfl rfl (fun _ => by kernel_rfl)) rfl ?_
   refine s_nil (q_then (c_true rfl ?_))
   refine c_exit ?_
   refine q_block_exit rfl ?_
   refine q_then_exit ?_
   refine q_then_exit ?_
   refine q_block_here ?_
   refine q_nj ?_
   refine c_fin_it (I' := Iy1) rfl rfl (by intro φ hφ; simp only [List.mem_append, List.mem_cons, List.not_mem_nil, or_false, false_or] at hφ ⊢; grind) ⟨_, Ly1, rfl, rfl, ?_⟩
   exact .inr ⟨ka, by rw [List.length_map, be_len]; omega, hq1⟩
 ·
  refine s_y rfl (v := .bool false) (y_f (y_k (v := .bool (decide (8 * w - 8 * (ka : Int) - 8 ≥ 0))) rfl rfl (fun _ => by kernel_rfl)) h1) rfl ?_
  refine s_nil (q_then (c_false rfl ?_))
  refine c_exit ?_
  refine q_then_exit ?_
  refine q_then_exit ?_
  refine q_block_here ?_
  refine q_nj ?_
  refine c_fin_it (I' := Ix) rfl rfl (by intro φ hφ; simp only [List.mem_append, List.mem_cons, List.not_mem_nil, or_false, false_or] at hφ ⊢; grind) ⟨_, Lx, rfl, rfl, ?_⟩
  left; (have e : ka = w.toNat := by omega); subst e; rw [List.length_map, be_len]; exact hS
end Go.Proofs.YtcnncdniibkjkaaGreatDoor
