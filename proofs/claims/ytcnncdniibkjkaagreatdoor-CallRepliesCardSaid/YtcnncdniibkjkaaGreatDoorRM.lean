/- The laws of chapter 17 (call), walked over the given program; no condition but what stands in each theorem: part M. -/
import Derived.Test.YtcnncdniibkjkaaGreatDoorRK
set_option linter.unusedVariables false
set_option linter.unusedSimpArgs false
set_option maxRecDepth 100000
set_option maxHeartbeats 8000000
namespace Go.Proofs.YtcnncdniibkjkaaGreatDoor
open Go Go.Sl Go.RowKit Go.Extern.Stop Go.Stop Go.Extern
theorem PutText_ (t : ByteArray) (ea : Addr) (em : Addr) (ef : Addr) (h12 : ea ≠ em) (h13 : ea ≠ ef) (h23 : em ≠ ef) (ht : t.size ≤ 9223372036854775807) : Con Tryz.prog 81 [.string t] [] [cellsAt 2 0 [.iface 180 (.pointer (some ea))], cellsAt 3 0 [.iface 180 (.pointer (some em))], cellsAt 1 0 [.iface 180 (.pointer (some ef))], errAt ea, errAt em, errAt ef, cellsAt 0 0 [.iface 147 (.agg #[.pointer (some ⟨5, 48, none⟩)])]] (fun v L' I' => v = .tuple #[.string ((ptextF t).1), .int .i64 ((ptextF t).2)] ∧ L' = [] ∧ I' = []) := by
 refine fn_of Tryz.func81 rfl Tryz.ntmps81 (by kernel_rfl) rfl (fun C => ?_)
 refine c_seq (c_region ?_)
 refine s_y rfl (v := .string (⟨#[]⟩ : ByteArray)) (y_as rfl) rfl ?_
 refine s_y rfl (v := .int .i64 0) (y_as rfl) rfl ?_
 refine s_nil (q_then (c_seq (c_seq (c_region ?_))))
 refine s_y rfl (v := .string t) (y_mv rfl) rfl ?_
 refine s_y rfl (v := .int .i64 (t.size : Int)) (y_k rfl rfl (fun _ => by kernel_rfl)) rfl ?_
 refine e_by ((t.size : Int) > 200) (fun h24 => ?_) (fun h24 => ?_)
 ·
  refine s_y rfl (v := .bool true) (y_t (y_k (v := .bool (decide ((t.size : Int) > 200))) rfl rfl (fun _ => by kernel_rfl)) h24) rfl ?_
  refine s_nil (q_then (c_true rfl (c_seq (c_region ?_))))
  refine st rfl (o_ldf 2 0 rfl rfl rfl Tryz.underlying48 rfl rfl ?_)
  refine st rfl (o_call [] [0, 1, 2, 3, 4, 5, 6] (told_ef_ ea em ef (by assumption) (by assumption) (by assumption)) rfl rfl rfl rfl rfl rfl (fun v L' I' hq1 => ?_))
  obtain ⟨rfl, rfl, rfl⟩ := hq1
  refine s_y rfl (v := .string (⟨#[]⟩ : ByteArray)) (y_as rfl) rfl ?_
  refine s_y rfl (v := .int .i64 31) (y_as rfl) rfl ?_
  refine s_nil (q_then (c_ret (q_then_ret ?_)))
  have hp : ptextF t = ((⟨#[]⟩ : ByteArray), 31) := by unfold ptextF; first | (rw [if_pos (by assumption)]; done) | (rw [if_neg (by assumption)]; done)
  refine c_fin (I' := []) [] [0, 1, 2, 3, 4, 5, 6] rfl (.tmp rfl (.tmp rfl .nil)) rfl rfl rfl ?_
  rw [hp]
  exact ⟨rfl, rfl, rfl⟩
 ·
  refine s_y rfl (v := .bool false) (y_f (y_k (v := .bool (decide ((t.size : Int) > 200))) rfl rfl (fun _ => by kernel_rfl)) h24) rfl ?_
  refine s_nil (q_then (c_false rfl (c_skip (q_then (c_seq (c_region ?_))))))
  refine s_y rfl (v := .string t) (y_mv rfl) rfl ?_
  refine s_y rfl (v := .int .i64 (t.size : Int)) (y_k rfl rfl (fun _ => by kernel_rfl)) rfl ?_
  refine s_y rfl (v := .int .u64 (t.size : Int)) (y_cvi (r := (t.size : Int)) rfl Tryz.underlying3 Tryz.underlying22 (IntWalk.u64_in _ (by omega))) rfl ?_
  refine st rfl (o_call [] [0, 1, 2, 3, 4, 5, 6] (put_ (1 : Int) t.size ea em ef (by first | omega | assumption | exact h64 _ (List.mem_of_getElem? (by assumption)))) rfl rfl rfl rfl rfl rfl (fun v L' I' hq2 => ?_))
  rcases hq2 with ⟨h25, h26, rfl, rfl, rfl⟩ | ⟨h27, h28, rfl, rfl, rfl⟩ | ⟨h29, rfl, rfl, rfl⟩
  ·
   refine s_y rfl (v := .tuple #[.string (beB (1 : Int) t.size), .nilIface]) (y_mv rfl) rfl ?_
   refine s_y rfl (v := .string (beB (1 : Int) t.size)) (y_k rfl rfl (fun _ => by kernel_rfl)) rfl ?_
   refine s_y rfl (v := .nilIface) (y_k rfl rfl (fun _ => by kernel_rfl)) rfl ?_
   refine s_y rfl (v := .string (beB (1 : Int) t.size)) (y_as rfl) rfl ?_
   refine s_y rfl (v := .nilIface) (y_as rfl) rfl ?_
   refine s_nil (q_then (c_seq (c_region ?_)))
   refine s_y rfl (v := .string (beB (1 : Int) t.size)) (y_mv rfl) rfl ?_
   refine s_y rfl (v := .string t) (y_mv rfl) rfl ?_
   refine s_y rfl (v := .string ((beB (1 : Int) t.size) ++ t)) (y_cat (s := beB (1 : Int) t.size) (u := t) rfl rfl (by rw [beB_size]; have : (1 : Int).toNat = 1 := rfl; omega)) rfl ?_
   refine s_y rfl (v := .nilIface) (y_mv rfl) rfl ?_
   refine st rfl (o_call [] [0, 1, 2, 3, 4, 5, 6] (told_nil_ ea em ef (by assumption) (by assumption) (by assumption)) rfl rfl rfl rfl rfl rfl (fun v L' I' hq3 => ?_))
   obtain ⟨rfl, rfl, rfl⟩ := hq3
   refine s_y rfl (v := .string ((beB (1 : Int) t.size) ++ t)) (y_as rfl) rfl ?_
   refine s_y rfl (v := .int .i64 0) (y_as rfl) rfl ?_
   refine s_nil (q_then (c_ret ?_))
   have hp : ptextF t = ((beB (1 : Int) t.size) ++ t, 0) := by unfold ptextF; first | (rw [if_pos (by assumption)]; done) | (rw [if_neg (by assumption)]; done)
   refine c_fin (I' := []) [] [0, 1, 2, 3, 4, 5, 6] rfl (.tmp rfl (.tmp rfl .nil)) rfl rfl rfl ?_
   rw [hp]
   exact ⟨rfl, rfl, rfl⟩
  ·
   exact absurd (by show _ < 256; omega) h28
  ·
   exact absurd (by unfold isW; omega) h29
theorem getE (s : ByteArray) (i : Nat) : s[i]? = s.data.toList[i]? := by
  rw [Array.getElem?_toList]
  rfl
theorem be_step {w : Int} {n j : Nat} (h : (j : Int) ≤ w - 1) : (be w.toNat n).take j ++ [u8of ((n / 2 ^ (8 * (w - 1 - (j : Int))).toNat : Nat) : Int)] = (be w.toNat n).take (j + 1) := by
  rw [List.take_add_one, be_get (by omega), show 8 * (w.toNat - 1 - j) = (8 * (w - 1 - (j : Int))).toNat by omega]; rfl
theorem shl_one {w : Int} (hw : isW w) (h : w < 8) : 1 * 2 ^ (8 * w).toNat % 18446744073709551616 = 2 ^ (8 * w.toNat) := by
  rcases hw with rfl | rfl | rfl | rfl
  · decide
  · decide
  · decide
  · omega
theorem ref_no {w : Int} {n : Nat} (hw : isW w) (h : w < 8) (hg : (n : Int) ≥ ((1 * 2 ^ (8 * w).toNat % 18446744073709551616 : Nat) : Int)) : ¬ (n < 2 ^ (8 * w.toNat)) := by
  rw [shl_one hw h] at hg; omega
theorem ref_ok1 {w : Int} {n : Nat} (hw : isW w) (h : w < 8) (hg : ¬ ((n : Int) ≥ ((1 * 2 ^ (8 * w).toNat % 18446744073709551616 : Nat) : Int))) : n < 2 ^ (8 * w.toNat) := by
  rw [shl_one hw h] at hg; omega
theorem ref_ok2 {w : Int} {n : Nat} (hw : isW w) (h : ¬ (w < 8)) (hn : n < 18446744073709551616) : n < 2 ^ (8 * w.toNat) := by
  have := isW_rng hw
  obtain rfl : w = 8 := by omega
  exact hn
def textF (s : ByteArray) : ByteArray × ByteArray × Int :=
  if (getF 1 s).2.2 = 0 then (if ((getF 1 s).1 : Int) > 200 then (⟨#[]⟩, ⟨#[]⟩, 31) else if ((getF 1 s).2.1.size : Int) < ((getF 1 s).1 : Int) then (⟨#[]⟩, ⟨#[]⟩, 30) else ((getF 1 s).2.1.extract 0 (getF 1 s).1, (getF 1 s).2.1.extract (getF 1 s).1 (getF 1 s).2.1.size, 0)) else (⟨#[]⟩, ⟨#[]⟩, (getF 1 s).2.2)
theorem getF_lt (w : Int) (s : ByteArray) : (getF w s).1 < 18446744073709551616 := by
  unfold getF
  split
  · rename_i hw
    split
    · decide
    · have h1 := numL_lt (s.data.toList.take w.toNat)
      have h3 : 256 ^ (s.data.toList.take w.toNat).length ≤ 256 ^ 8 := pow_le8 (by have := isW_rng hw; rw [List.length_take]; omega)
      show numL _ < _
      omega
  · decide
theorem getF_rest (w : Int) (s : ByteArray) : (getF w s).2.1.size ≤ s.size := by
  unfold getF
  split
  · split
    · exact Nat.zero_le _
    · show (s.extract w.toNat s.size).size ≤ _
      rw [ByteArray.size_extract]; omega
  · exact Nat.zero_le _
theorem one_byte {t : ByteArray} : (⟨List.toArray [u8of (t.size : Int)]⟩ : ByteArray) = beB 1 t.size := by
  unfold beB
  show _ = (⟨(be 1 t.size).toArray⟩ : ByteArray)
  unfold be
  simp [be]
theorem rPut_ (w : Int) (n : Nat) (hn : n < 18446744073709551616) : Con Tryz.prog 49 [.int .i64 w, .int .u64 (n : Int)] [] [] (fun v L' I' => v = .tuple #[.string ((putF w n).1), .int .i64 ((putF w n).2)] ∧ L' = [] ∧ I' = []) := by
 refine fn_of Tryz.func49 rfl Tryz.ntmps49 (by kernel_rfl) rfl (fun C => ?_)
 refine c_seq (c_region ?_)
 refine s_y rfl (v := .string (⟨#[]⟩ : ByteArray)) (y_as rfl) rfl ?_
 refine s_y rfl (v := .int .i64 0) (y_as rfl) rfl ?_
 refine s_nil (q_then (c_seq (c_seq (c_region ?_))))
 refine s_y rfl (v := .int .i64 w) (y_mv rfl) rfl ?_
 refine st rfl (o_call [] [] (ris_ w) rfl rfl rfl rfl rfl rfl (fun v L' I' hq1 => ?_))
 obtain ⟨hv1, rfl, rfl⟩ := hq1
 refine e_by (isW w) (fun h1 => ?_) (fun h1 => ?_)
 ·
  obtain rfl : v = .bool true := by rw [hv1, decide_eq_true h1]
  refine s_y rfl (v := .bool false) (y_k rfl rfl (fun _ => by kernel_rfl)) rfl ?_
  refine s_nil (q_then (c_false rfl (c_skip (q_then (c_seq (c_seq (c_region ?_)))))))
  refine s_y rfl (v := .int .i64 w) (y_mv rfl) rfl ?_
  refine e_by (w < 8) (fun h2 => ?_) (fun h2 => ?_)
  ·
   refine s_y rfl (v := .bool true) (y_t (y_k (v := .bool (decide (w < 8))) rfl rfl (fun _ => by kernel_rfl)) h2) rfl ?_
   refine s_y rfl (v := .bool true) (y_mv rfl) rfl ?_
   refine st_on 13 rfl rfl rfl (o_y (v := .int .u64 (n : Int)) (y_mv rfl) rfl rfl rfl ?_)
   refine st_on 13 rfl rfl rfl (o_y (v := .int .i64 w) (y_mv rfl) rfl rfl rfl ?_)
   refine st_on 13 rfl rfl rfl (o_y (v := .int .i64 (8 * w)) (y_mul (r := 8 * w) rfl rfl rfl (by have := isW_rng (by assumption); omega)) rfl rfl rfl ?_)
   refine st_on 13 rfl rfl rfl (o_y (v := .int .u64 ((1 * 2 ^ ((8 * w).toNat) % 18446744073709551616 : Nat) : Int)) (y_shl (a := 1) (k := (8 * w).toNat) rfl rfl (by first | omega | (have := isW_rng (by assumption); omega)) (by first | omega | (have := isW_rng (by assumption); omega))) rfl rfl rfl ?_)
   refine e_by ((n : Int) ≥ ((1 * 2 ^ ((8 * w).toNat) % 18446744073709551616 : Nat) : Int)) (fun h3 => ?_) (fun h3 => ?_)
   ·
    refine st_on 13 rfl rfl rfl (o_y (v := .bool true) (y_t (y_k (v := .bool (decide ((n : Int) ≥ ((1 * 2 ^ ((8 * w).toNat) % 18446744073709551616 : Nat) : Int)))) rfl rfl (fun _ => by kernel_rfl)) h3) rfl rfl rfl ?_)
    refine s_y rfl (v := .bool true) (y_pick rfl rfl) rfl ?_
    refine s_nil (q_then (c_true rfl (c_seq (c_region ?_))))
    refine s_y rfl (v := .string (⟨#[]⟩ : ByteArray)) (y_as rfl) rfl ?_
    refine s_y rfl (v := .int .i64 31) (y_as rfl) rfl ?_
    refine s_nil (q_then (c_ret (q_then_ret ?_)))
    have hp : putF w n = ((⟨#[]⟩ : ByteArray), 31) := by unfold putF; first | (rw [if_neg (by assumption)]; done) | (rw [if_pos (by assumption), if_neg (ref_no (by assumption) (by assumption) (by assumption))]; done) | (rw [if_pos (by assumption), if_pos (by first | exact ref_ok1 (by assumption) (by assumption) (by assumption) | exact ref_ok2 (by assumption) (by assumption) hn)]; exact congrArg (fun x => ((⟨List.toArray x⟩ : ByteArray), (0 : Int))) he.symm)
    refine c_fin (I' := []) [] [] rfl (.tmp rfl (.tmp rfl .nil)) rfl rfl rfl ?_
    rw [hp]
    exact ⟨rfl, rfl, rfl⟩
   ·
    refine st_on 13 rfl rfl rfl (o_y (v := .bool false) (y_f (y_k (v := .bool (decide ((n : Int) ≥ ((1 * 2 ^ ((8 * w).toNat) % 18446744073709551616 : Nat) : Int)))) rfl rfl (fun _ => by kernel_rfl)) h3) rfl rfl rfl ?_)
    refine s_y rfl (v := .bool false) (y_pick rfl rfl) rfl ?_
    refine s_nil (q_then (c_false rfl (c_skip (q_then (c_seq (c_region ?_))))))
    refine s_y rfl (v := .slice none 0 0) (y_as rfl) rfl ?_
    refine s_nil (q_then (c_seq (c_seq (c_region ?_))))
    refine s_y rfl (v := .int .i64 w) (y_mv rfl) rfl ?_
    refine s_y rfl (v := .int .i64 (w - 1)) (y_sub (r := w - 1) rfl rfl rfl (by have := isW_rng (by assumption); omega)) rfl ?_
    refine s_y rfl (v := .int .i64 (w - 1)) (y_as rfl) rfl ?_
    refine s_nil (q_then (c_block ?_))
    refine e_nil u8Ty 5 ?_
    refine c_loopn (ι := Nat × (List UInt8) × (Option Addr) × Nat) (fun (j, o, A, c) => ((j : Int) ≤ w) ∧ (o = (be w.toNat n).take j) ∧ (o.length = j)) (fun (j, o, A, c) => [(1, .int .u64 (n : Int)), (4, .string (⟨#[]⟩ : ByteArray)), (5, .int .i64 0), (6, .slice A o.length c), (7, .int .i64 (w - 1 - (j : Int)))]) (fun (j, o, A, c) => [ars u8Ty 5 A c o]) (fun (j, o, A, c) => []) (fun (j, o, A, c) => w.toNat - j) (0, [], none, 0) [0] [] (show ((0 : Int) ≤ w) ∧ ([] = (be w.toNat n).take 0) ∧ ([].length = 0) from ⟨by have := isW_rng (by assumption); omega, rfl, rfl⟩) ((.cons rfl rfl (.cons rfl rfl (.cons rfl rfl (.cons rfl (show (.slice none 0 0 : Value) = .slice none [].length 0 from by first | rfl | (congr 1; omega) | (congr 1; simp; done) | (congr 1; simp; omega)) (.cons rfl (show (.int .i64 (w - 1) : Value) = .int .i64 (w - 1 - (0 : Int)) from by first | rfl | (congr 1; omega) | (congr 1; simp; done) | (congr 1; simp; omega)) .nil)))))) rfl rfl ?_
    rintro ⟨j, o, A, c⟩ ⟨hj, ho, hol⟩
    show Ent 36 C [(1, .int .u64 (n : Int)), (4, .string (⟨#[]⟩ : ByteArray)), (5, .int .i64 0), (6, .slice A o.length c), (7, .int .i64 (w - 1 - (j : Int)))] [] [ars u8Ty 5 A c o] [] _
    refine c_seq (c_seq (c_region ?_))
    refine s_y rfl (v := .int .i64 (w - 1 - (j : Int))) (y_mv rfl) rfl ?_
    refine e_by (w - 1 - (j : Int) ≥ 0) (fun h4 => ?_) (fun h4 => ?_)
    ·
     refine s_y rfl (v := .bool true) (y_t (y_k (v := .bool (decide (w - 1 - (j : Int) ≥ 0))) rfl rfl (fun _ => by kernel_rfl)) h4) rfl ?_
     refine s_nil (q_then (c_true rfl (c_skip (q_then (c_seq (c_block (c_region ?_)))))))
     refine s_y rfl (v := .slice A o.length c) (y_mv rfl) rfl ?_
     refine s_y rfl (v := .int .u64 (n : Int)) (y_mv rfl) rfl ?_
     refine s_y rfl (v := .int .i64 (w - 1 - (j : Int))) (y_mv rfl) rfl ?_
     refine s_y rfl (v := .int .i64 (8 * (w - 1 - (j : Int)))) (y_mul (r := 8 * (w - 1 - (j : Int))) rfl rfl rfl (by have := isW_rng (by assumption); omega)) rfl ?_
     refine s_y rfl (v := .int .u64 ((n / 2 ^ ((8 * (w - 1 - (j : Int))).toNat) : Nat) : Int)) (y_shr (a := n) (k := (8 * (w - 1 - (j : Int))).toNat) rfl rfl (by first | omega | (have := isW_rng (by assumption); omega)) (by first | omega | (have := isW_rng (by assumption); omega))) rfl ?_
     refine s_y rfl (v := .int .u8 ((u8of ((n / 2 ^ ((8 * (w - 1 - (j : Int))).toNat) : Nat) : Int)).toNat : Int)) (y_cvi (r := ((u8of ((n / 2 ^ ((8 * (w - 1 - (j : Int))).toNat) : Nat) : Int)).toNat : Int)) rfl Tryz.underlying22 Tryz.underlying5 (u8of_wrap _)) rfl ?_
     refine st rfl (o_lit (cs := [.int .u8 ((u8of ((n / 2 ^ ((8 * (w - 1 - (j : Int))).toNat) : Nat) : Int)).toNat : Int)]) (T := 5) (m := 1) rfl rfl rfl rfl (fun _ => by kernel_rfl) (fun b1 => ?_))
     refine st rfl (o_app (l := o) (us := [u8of ((n / 2 ^ (8 * (w - 1 - (j : Int))).toNat : Nat) : Int)]) 1 rfl rfl rfl rfl rfl (src_pt 0 rfl) Tryz.underlying105 (elem_of (z := .int .u8 0) (sz := 1) (bytes := 1) (by kernel_rfl) rfl) rfl (by have := isW_rng (by assumption); simp only [List.length_cons, List.length_nil]; omega) rfl rfl (fun A1 c1 => ?_))
     refine s_y rfl (v := .slice A1 (o ++ [u8of ((n / 2 ^ (8 * (w - 1 - (j : Int))).toNat : Nat) : Int)]).length c1) (y_as rfl) rfl ?_
     refine s_nil (q_block (q_then (c_region ?_)))
     refine s_y rfl (v := .int .i64 (w - 1 - (j : Int))) (y_mv rfl) rfl ?_
     refine s_y rfl (v := .int .i64 ((w - 1 - (j : Int)) - 1)) (y_sub (r := (w - 1 - (j : Int)) - 1) rfl rfl rfl (by have := isW_rng (by assumption); omega)) rfl ?_
     refine s_y rfl (v := .int .i64 ((w - 1 - (j : Int)) - 1)) (y_as rfl) rfl ?_
     refine s_nil (q_then ?_)
     refine c_next [1] [] (j + 1, o ++ [u8of ((n / 2 ^ (8 * (w - 1 - (j : Int))).toNat : Nat) : Int)], A1, c1) ?_ ?_ ?_ (by rfl) (by rfl)
     · exact (show (((j + 1) : Int) ≤ w) ∧ ((o ++ [u8of ((n / 2 ^ (8 * (w - 1 - (j : Int))).toNat : Nat) : Int)]) = (be w.toNat n).take (j + 1)) ∧ ((o ++ [u8of ((n / 2 ^ (8 * (w - 1 - (j : Int))).toNat : Nat) : Int)]).length = (j + 1)) from ⟨by first | omega | simp_all | (simp; done), by rw [ho]; exact be_step (by omega), by rw [List.length_append, List.length_singleton, hol]⟩)
     · show w.toNat - (j + 1) < w.toNat - j; omega
     · exact (.cons rfl rfl (.cons rfl rfl (.cons rfl rfl (.cons rfl rfl (.cons rfl (show (.int .i64 ((w - 1 - (j : Int)) - 1) : Value) = .int .i64 (w - 1 - ((j + 1) : Int)) from by first | rfl | (congr 1; omega) | (congr 1; simp; done) | (congr 1; simp; omega)) .nil)))))
    ·
     refine s_y rfl (v := .bool false) (y_f (y_k (v := .bool (decide (w - 1 - (j : Int) ≥ 0))) rfl rfl (fun _ => by kernel_rfl)) h4) rfl ?_
     refine s_nil (q_then (c_false rfl ?_))
     refine c_exit ?_
     refine q_then_exit ?_
     refine q_then_exit ?_
     refine q_block_here ?_
     refine q_then (c_seq (c_region ?_))
     refine s_y rfl (v := .slice A o.length c) (y_mv rfl) rfl ?_
     refine st rfl (o_b2s (l := o) rfl rfl (src_ars 0 rfl) Tryz.underlying105 Tryz.underlying9 Tryz.underlying5 rfl ?_)
     refine s_y rfl (v := .string (⟨List.toArray o⟩ : ByteArray)) (y_as rfl) rfl ?_
     refine s_y rfl (v := .int .i64 0) (y_as rfl) rfl ?_
     refine s_nil (q_then (c_ret ?_))
     have he : o = be w.toNat n := by rw [ho]; exact List.take_of_length_le (by rw [be_len]; omega)
     have hp : putF w n = ((⟨List.toArray o⟩ : ByteArray), 0) := by unfold putF; first | (rw [if_neg (by assumption)]; done) | (rw [if_pos (by assumption), if_neg (ref_no (by assumption) (by assumption) (by assumption))]; done) | (rw [if_pos (by assumption), if_pos (by first | exact ref_ok1 (by assumption) (by assumption) (by assumption) | exact ref_ok2 (by assumption) (by assumption) hn)]; exact congrArg (fun x => ((⟨List.toArray x⟩ : ByteArray), (0 : Int))) he.symm)
     refine c_fin (I' := []) [] [] rfl (.tmp rfl (.tmp rfl .nil)) rfl rfl rfl ?_
     rw [hp]
     exact ⟨rfl, rfl, rfl⟩
  ·
   refine s_y rfl (v := .bool false) (y_f (y_k (v := .bool (decide (w < 8))) rfl rfl (fun _ => by kernel_rfl)) h2) rfl ?_
   refine s_y rfl (v := .bool false) (y_mv rfl) rfl ?_
   refine st_off 13 rfl rfl rfl rfl rfl rfl ?_
   refine st_off 13 rfl rfl rfl rfl rfl rfl ?_
   refine st_off 13 rfl rfl rfl rfl rfl rfl ?_
   refine st_off 13 rfl rfl rfl rfl rfl rfl ?_
   refine st_off 13 rfl rfl rfl rfl rfl rfl ?_
   refine s_y rfl (v := .bool false) (y_pick rfl rfl) rfl ?_
   refine s_nil (q_then (c_false rfl (c_skip (q_then (c_seq (c_region ?_))))))
   refine s_y rfl (v := .slice none 0 0) (y_as rfl) rfl ?_
   refine s_nil (q_then (c_seq (c_seq (c_region ?_))))
   refine s_y rfl (v := .int .i64 w) (y_mv rfl) rfl ?_
   refine s_y rfl (v := .int .i64 (w - 1)) (y_sub (r := w - 1) rfl rfl rfl (by have := isW_rng (by assumption); omega)) rfl ?_
   refine s_y rfl (v := .int .i64 (w - 1)) (y_as rfl) rfl ?_
   refine s_nil (q_then (c_block ?_))
   refine e_nil u8Ty 5 ?_
   refine c_loopn (ι := Nat × (List UInt8) × (Option Addr) × Nat) (fun (j, o, A, c) => ((j : Int) ≤ w) ∧ (o = (be w.toNat n).take j) ∧ (o.length = j)) (fun (j, o, A, c) => [(1, .int .u64 (n : Int)), (4, .string (⟨#[]⟩ : ByteArray)), (5, .int .i64 0), (6, .slice A o.length c), (7, .int .i64 (w - 1 - (j : Int)))]) (fun (j, o, A, c) => [ars u8Ty 5 A c o]) (fun (j, o, A, c) => []) (fun (j, o, A, c) => w.toNat - j) (0, [], none, 0) [0] [] (show ((0 : Int) ≤ w) ∧ ([] = (be w.toNat n).take 0) ∧ ([].length = 0) from ⟨by have := isW_rng (by assumption); omega, rfl, rfl⟩) ((.cons rfl rfl (.cons rfl rfl (.cons rfl rfl (.cons rfl (show (.slice none 0 0 : Value) = .slice none [].length 0 from by first | rfl | (congr 1; omega) | (congr 1; simp; done) | (congr 1; simp; omega)) (.cons rfl (show (.int .i64 (w - 1) : Value) = .int .i64 (w - 1 - (0 : Int)) from by first | rfl | (congr 1; omega) | (congr 1; simp; done) | (congr 1; simp; omega)) .nil)))))) rfl rfl ?_
   rintro ⟨j, o, A, c⟩ ⟨hj, ho, hol⟩
   show Ent 36 C [(1, .int .u64 (n : Int)), (4, .string (⟨#[]⟩ : ByteArray)), (5, .int .i64 0), (6, .slice A o.length c), (7, .int .i64 (w - 1 - (j : Int)))] [] [ars u8Ty 5 A c o] [] _
   refine c_seq (c_seq (c_region ?_))
   refine s_y rfl (v := .int .i64 (w - 1 - (j : Int))) (y_mv rfl) rfl ?_
   refine e_by (w - 1 - (j : Int) ≥ 0) (fun h5 => ?_) (fun h5 => ?_)
   ·
    refine s_y rfl (v := .bool true) (y_t (y_k (v := .bool (decide (w - 1 - (j : Int) ≥ 0))) rfl rfl (fun _ => by kernel_rfl)) h5) rfl ?_
    refine s_nil (q_then (c_true rfl (c_skip (q_then (c_seq (c_block (c_region ?_)))))))
    refine s_y rfl (v := .slice A o.length c) (y_mv rfl) rfl ?_
    refine s_y rfl (v := .int .u64 (n : Int)) (y_mv rfl) rfl ?_
    refine s_y rfl (v := .int .i64 (w - 1 - (j : Int))) (y_mv rfl) rfl ?_
    refine s_y rfl (v := .int .i64 (8 * (w - 1 - (j : Int)))) (y_mul (r := 8 * (w - 1 - (j : Int))) rfl rfl rfl (by have := isW_rng (by assumption); omega)) rfl ?_
    refine s_y rfl (v := .int .u64 ((n / 2 ^ ((8 * (w - 1 - (j : Int))).toNat) : Nat) : Int)) (y_shr (a := n) (k := (8 * (w - 1 - (j : Int))).toNat) rfl rfl (by first | omega | (have := isW_rng (by assumption); omega)) (by first | omega | (have := isW_rng (by assumption); omega))) rfl ?_
    refine s_y rfl (v := .int .u8 ((u8of ((n / 2 ^ ((8 * (w - 1 - (j : Int))).toNat) : Nat) : Int)).toNat : Int)) (y_cvi (r := ((u8of ((n / 2 ^ ((8 * (w - 1 - (j : Int))).toNat) : Nat) : Int)).toNat : Int)) rfl Tryz.underlying22 Tryz.underlying5 (u8of_wrap _)) rfl ?_
    refine st rfl (o_lit (cs := [.int .u8 ((u8of ((n / 2 ^ ((8 * (w - 1 - (j : Int))).toNat) : Nat) : Int)).toNat : Int)]) (T := 5) (m := 1) rfl rfl rfl rfl (fun _ => by kernel_rfl) (fun b2 => ?_))
    refine st rfl (o_app (l := o) (us := [u8of ((n / 2 ^ (8 * (w - 1 - (j : Int))).toNat : Nat) : Int)]) 1 rfl rfl rfl rfl rfl (src_pt 0 rfl) Tryz.underlying105 (elem_of (z := .int .u8 0) (sz := 1) (bytes := 1) (by kernel_rfl) rfl) rfl (by have := isW_rng (by assumption); simp only [List.length_cons, List.length_nil]; omega) rfl rfl (fun A2 c2 => ?_))
    refine s_y rfl (v := .slice A2 (o ++ [u8of ((n / 2 ^ (8 * (w - 1 - (j : Int))).toNat : Nat) : Int)]).length c2) (y_as rfl) rfl ?_
    refine s_nil (q_block (q_then (c_region ?_)))
    refine s_y rfl (v := .int .i64 (w - 1 - (j : Int))) (y_mv rfl) rfl ?_
    refine s_y rfl (v := .int .i64 ((w - 1 - (j : Int)) - 1)) (y_sub (r := (w - 1 - (j : Int)) - 1) rfl rfl rfl (by have := isW_rng (by assumption); omega)) rfl ?_
    refine s_y rfl (v := .int .i64 ((w - 1 - (j : Int)) - 1)) (y_as rfl) rfl ?_
    refine s_nil (q_then ?_)
    refine c_next [1] [] (j + 1, o ++ [u8of ((n / 2 ^ (8 * (w - 1 - (j : Int))).toNat : Nat) : Int)], A2, c2) ?_ ?_ ?_ (by rfl) (by rfl)
    · exact (show (((j + 1) : Int) ≤ w) ∧ ((o ++ [u8of ((n / 2 ^ (8 * (w - 1 - (j : Int))).toNat : Nat) : Int)]) = (be w.toNat n).take (j + 1)) ∧ ((o ++ [u8of ((n / 2 ^ (8 * (w - 1 - (j : Int))).toNat : Nat) : Int)]).length = (j + 1)) from ⟨by first | omega | simp_all | (simp; done), by rw [ho]; exact be_step (by omega), by rw [List.length_append, List.length_singleton, hol]⟩)
    · show w.toNat - (j + 1) < w.toNat - j; omega
    · exact (.cons rfl rfl (.cons rfl rfl (.cons rfl rfl (.cons rfl rfl (.cons rfl (show (.int .i64 ((w - 1 - (j : Int)) - 1) : Value) = .int .i64 (w - 1 - ((j + 1) : Int)) from by first | rfl | (congr 1; omega) | (congr 1; simp; done) | (congr 1; simp; omega)) .nil)))))
   ·
    refine s_y rfl (v := .bool false) (y_f (y_k (v := .bool (decide (w - 1 - (j : Int) ≥ 0))) rfl rfl (fun _ => by kernel_rfl)) h5) rfl ?_
    refine s_nil (q_then (c_false rfl ?_))
    refine c_exit ?_
    refine q_then_exit ?_
    refine q_then_exit ?_
    refine q_block_here ?_
    refine q_then (c_seq (c_region ?_))
    refine s_y rfl (v := .slice A o.length c) (y_mv rfl) rfl ?_
    refine st rfl (o_b2s (l := o) rfl rfl (src_ars 0 rfl) Tryz.underlying105 Tryz.underlying9 Tryz.underlying5 rfl ?_)
    refine s_y rfl (v := .string (⟨List.toArray o⟩ : ByteArray)) (y_as rfl) rfl ?_
    refine s_y rfl (v := .int .i64 0) (y_as rfl) rfl ?_
    refine s_nil (q_then (c_ret ?_))
    have he : o = be w.toNat n := by rw [ho]; exact List.take_of_length_le (by rw [be_len]; omega)
    have hp : putF w n = ((⟨List.toArray o⟩ : ByteArray), 0) := by unfold putF; first | (rw [if_neg (by assumption)]; done) | (rw [if_pos (by assumption), if_neg (ref_no (by assumption) (by assumption) (by assumption))]; done) | (rw [if_pos (by assumption), if_pos (by first | exact ref_ok1 (by assumption) (by assumption) (by assumption) | exact ref_ok2 (by assumption) (by assumption) hn)]; exact congrArg (fun x => ((⟨List.toArray x⟩ : ByteArray), (0 : Int))) he.symm)
    refine c_fin (I' := []) [] [] rfl (.tmp rfl (.tmp rfl .nil)) rfl rfl rfl ?_
    rw [hp]
    exact ⟨rfl, rfl, rfl⟩
 ·
  obtain rfl : v = .bool false := by rw [hv1, decide_eq_false h1]
  refine s_y rfl (v := .bool true) (y_k rfl rfl (fun _ => by kernel_rfl)) rfl ?_
  refine s_nil (q_then (c_true rfl (c_seq (c_region ?_))))
  refine s_y rfl (v := .string (⟨#[]⟩ : ByteArray)) (y_as rfl) rfl ?_
  refine s_y rfl (v := .int .i64 2) (y_as rfl) rfl ?_
  refine s_nil (q_then (c_ret (q_then_ret ?_)))
  have hp : putF w n = ((⟨#[]⟩ : ByteArray), 2) := by unfold putF; first | (rw [if_neg (by assumption)]; done) | (rw [if_pos (by assumption), if_neg (ref_no (by assumption) (by assumption) (by assumption))]; done) | (rw [if_pos (by assumption), if_pos (by first | exact ref_ok1 (by assumption) (by assumption) (by assumption) | exact ref_ok2 (by assumption) (by assumption) hn)]; exact congrArg (fun x => ((⟨List.toArray x⟩ : ByteArray), (0 : Int))) he.symm)
  refine c_fin (I' := []) [] [] rfl (.tmp rfl (.tmp rfl .nil)) rfl rfl rfl ?_
  rw [hp]
  exact ⟨rfl, rfl, rfl⟩
end Go.Proofs.YtcnncdniibkjkaaGreatDoor
