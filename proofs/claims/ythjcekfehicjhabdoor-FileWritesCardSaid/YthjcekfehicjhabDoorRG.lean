/- The laws of chapter 9 (file), walked over the given program; no condition but what stands in each theorem: part G. -/
import Derived.Test.YthjcekfehicjhabDoorRE
import Derived.Test.YthjcekfehicjhabDoorRF
set_option linter.unusedVariables false
set_option linter.unusedSimpArgs false
set_option maxRecDepth 100000
set_option maxHeartbeats 8000000
namespace Go.Proofs.YthjcekfehicjhabDoor
open Go Go.Sl Go.RowKit Go.Extern.Stop Go.Stop Go.Extern

def splB (s : ByteArray) (at_ n : Int) (t : ByteArray) : ByteArray := s.extract 0 at_.toNat ++ t ++ s.extract (at_ + n).toNat s.size
def spliceF (s : ByteArray) (at_ n : Int) (t : ByteArray) : ByteArray × Int :=
  if (s.size : Int) ≤ 1000 ∧ 0 ≤ at_ ∧ at_ ≤ (s.size : Int) ∧ 0 ≤ n ∧ n ≤ (s.size : Int) - at_ ∧ (s.size : Int) - n + (t.size : Int) ≤ 1000 then (splB s at_ n t, 0) else (⟨#[]⟩, 90)
def writeF (s : ByteArray) (at_ : Int) (t : ByteArray) : ByteArray × Int :=
  if (s.size : Int) ≤ 1000 ∧ 0 ≤ at_ ∧ at_ ≤ (s.size : Int) ∧ (t.size : Int) ≤ 1000 - at_ then (splB s at_ (min (t.size : Int) ((s.size : Int) - at_)) t, 0) else (⟨#[]⟩, 90)
def readF (s : ByteArray) (at_ n : Int) : ByteArray × Int :=
  if (s.size : Int) ≤ 1000 ∧ 0 ≤ at_ ∧ at_ ≤ (s.size : Int) ∧ 0 ≤ n then (s.extract at_.toNat (at_ + min n ((s.size : Int) - at_)).toNat, 0) else (⟨#[]⟩, 90)
def cutB (s : ByteArray) (n : Int) : ByteArray := ⟨(s.data.toList.take n.toNat ++ List.replicate (n.toNat - s.size) 0).toArray⟩
def cutF (s : ByteArray) (n : Int) : ByteArray × Int :=
  if (s.size : Int) ≤ 1000 ∧ 0 ≤ n ∧ n ≤ 1000 then (cutB s n, 0) else (⟨#[]⟩, 90)
theorem ext_eq (s : ByteArray) (i j : Nat) : (s.extract i j).data.toList = (s.data.toList.take j).drop i := by
  rw [ByteArray.data_extract]
  simp [List.drop_take]
theorem ext_end (s : ByteArray) (i : Nat) : (s.extract i s.size).data.toList = s.data.toList.drop i := by
  rw [ext_eq, List.take_of_length_le (by rw [len_bytes]; exact Nat.le_refl _)]
theorem spl_eq {s t : ByteArray} {at_ n m : Int} (h : n = m) : splB s at_ m t = (⟨List.toArray (s.data.toList.take at_.toNat ++ t.data.toList ++ s.data.toList.drop (at_ + n).toNat)⟩ : ByteArray) := by
  subst h
  apply bytes_ext
  unfold splB
  simp only [ByteArray.data_append, Array.toList_append, ext_eq, List.drop_zero]
  rw [List.take_of_length_le (l := s.data.toList) (i := s.size) (by rw [len_bytes]; exact Nat.le_refl _)]
theorem read_eq {s : ByteArray} {i j k : Nat} (h : j = k) : s.extract i k = (⟨List.toArray ((s.data.toList.take j).drop i)⟩ : ByteArray) := by
  subst h
  apply bytes_ext
  rw [ext_eq]
theorem cut_eq {s : ByteArray} {n : Int} {i j : Nat} (hi : i = min n.toNat s.size) (hj : j = n.toNat - s.size) : cutB s n = (⟨List.toArray (s.data.toList.take i ++ List.replicate j 0)⟩ : ByteArray) := by
  subst hi; subst hj
  unfold cutB
  congr 3
  rcases Nat.le_total n.toNat s.size with h | h
  · rw [Nat.min_eq_left h]
  · rw [Nat.min_eq_right h, List.take_of_length_le (by rw [len_bytes]; exact h), List.take_of_length_le (by rw [len_bytes]; exact Nat.le_refl _)]
theorem cut_eq2 {s : ByteArray} {n : Int} {i j : Nat} (hi : i = min n.toNat s.size) (hj : j = n.toNat - s.size) : cutB s n = s.extract 0 i ++ (⟨List.toArray (List.replicate j 0)⟩ : ByteArray) := by
  rw [cut_eq hi hj]
  apply bytes_ext
  simp only [ByteArray.data_append, Array.toList_append, ext_eq, List.drop_zero]
theorem sub_in {s : ByteArray} {at_ : Int} (hs : s.size ≤ 100000) : 0 ≤ at_ ∧ at_ ≤ (s.size : Int) → IntKind.i64.wrap ((s.size : Int) - at_) = (s.size : Int) - at_ := fun h => wrap_in (by omega) (by omega)
theorem spl_eq3 {s t : ByteArray} {at_ m : Int} {k : Nat} (h0 : 0 ≤ at_ ∧ at_ ≤ (s.size : Int)) (h : (k : Int) = min (s.size : Int) (at_ + (t.size : Int)) ∧ m = min (t.size : Int) ((s.size : Int) - at_)) : splB s at_ m t = s.extract 0 at_.toNat ++ t ++ s.extract k s.size := by
  unfold splB
  congr 2
  omega
theorem cut_cat {l r : List UInt8} {i : Nat} {A1 A2 : Option Addr} {c1 c2 : Nat} : catL [⟨A1, c1, l.take i⟩, ⟨A2, c2, r⟩] = l.take i ++ r := by simp [catL]
theorem cut_sum {l r : List UInt8} {i : Nat} {A1 A2 : Option Addr} {c1 c2 : Nat} (hi : i ≤ l.length) : sumL [⟨A1, c1, l.take i⟩, ⟨A2, c2, r⟩] = i + r.length := by
  simp only [sumL, List.length_take]; omega
theorem Splice_ (s : ByteArray) (hs : s.size ≤ 100000) (at_ : Int) (n : Int) (t : ByteArray) (ht : t.size ≤ 100000) : Con Tryd.prog 13 [.string s, .int .i64 at_, .int .i64 n, .string t] [] [cellsAt 0 0 [.iface 70 (.agg #[.pointer (some ⟨1, 42, none⟩)])]] (fun v L' I' => v = .tuple #[.string ((spliceF s at_ n t).1), .int .i64 ((spliceF s at_ n t).2)] ∧ L' = [] ∧ I' = []) := by
  have hlb := len_bytes s
  refine fn_of Tryd.func13 rfl Tryd.ntmps13 (by kernel_rfl) rfl (fun C => ?_)
  refine c_seq ?_
  refine c_region ?_
  refine st rfl (o_y (v := .string (⟨#[]⟩ : ByteArray)) (y_as rfl) rfl rfl rfl ?_)
  refine st rfl (o_y (v := .int .i64 0) (y_as rfl) rfl rfl rfl ?_)
  refine s_nil ?_
  refine q_then ?_
  refine c_seq ?_
  refine c_region ?_
  refine st rfl (o_y (v := .string s) (y_mv rfl) rfl rfl rfl ?_)
  refine st rfl (o_call [] [] (open_ s (by first | omega | decide | assumption)) rfl rfl rfl rfl rfl rfl (fun v L' I' hq1 => ?_))
  rcases hq1 with ⟨b1, A1, h1, rfl, rfl, rfl⟩ | ⟨b2, A2, h2, rfl, rfl, rfl⟩
  ·
    refine st rfl (o_y (v := .pointer (some ⟨b1, 0, none⟩)) (y_as rfl) rfl rfl rfl ?_)
    refine s_nil ?_
    refine q_then ?_
    refine c_seq ?_
    refine c_region ?_
    refine st rfl (o_y (v := .pointer (some ⟨b1, 0, none⟩)) (y_mv rfl) rfl rfl rfl ?_)
    refine st rfl (o_y (v := .int .i64 at_) (y_mv rfl) rfl rfl rfl ?_)
    refine st rfl (o_y (v := .int .i64 n) (y_mv rfl) rfl rfl rfl ?_)
    refine st rfl (o_y (v := .string t) (y_mv rfl) rfl rfl rfl ?_)
    refine st rfl (o_lend [1] [0] [] (splice_ b1 A1 s.size s.data.toList at_ n t (by first | assumption | omega | (rw [len_bytes]; omega)) (by first | omega | decide | assumption | (rw [ByteArray.size_append]; omega))) (.cons lend_ars .nil) rfl rfl rfl rfl rfl rfl rfl rfl (fun v L' I' hq2 => ?_))
    rcases hq2 with ⟨A3, c1, h3, rfl, rfl, rfl⟩ | ⟨A4, c2, l1, h4, rfl, rfl, rfl⟩
    ·
      refine ⟨rfl, ?_⟩
      refine s_nil ?_
      refine q_then ?_
      refine c_seq ?_
      refine c_region ?_
      refine st rfl (o_y (v := .pointer (some ⟨b1, 0, none⟩)) (y_mv rfl) rfl rfl rfl ?_)
      refine st rfl (o_lend [1] [0] [] (end_ok_ b1 A3 c1 (s.data.toList.take at_.toNat ++ t.data.toList ++ s.data.toList.drop (at_ + n).toNat)) (.cons lend_ars .nil) rfl rfl rfl rfl rfl rfl rfl rfl (fun v L' I' hq3 => ?_))
      obtain ⟨rfl, rfl, rfl⟩ := hq3
      refine ⟨rfl, ?_⟩
      refine st rfl (o_y (v := .string (⟨List.toArray (s.data.toList.take at_.toNat ++ t.data.toList ++ s.data.toList.drop (at_ + n).toNat)⟩ : ByteArray)) (y_k rfl rfl (fun _ => by kernel_rfl)) rfl rfl rfl ?_)
      refine st rfl (o_y (v := .int .i64 0) (y_k rfl rfl (fun _ => by kernel_rfl)) rfl rfl rfl ?_)
      refine st rfl (o_y (v := .string (⟨List.toArray (s.data.toList.take at_.toNat ++ t.data.toList ++ s.data.toList.drop (at_ + n).toNat)⟩ : ByteArray)) (y_as rfl) rfl rfl rfl ?_)
      refine st rfl (o_y (v := .int .i64 0) (y_as rfl) rfl rfl rfl ?_)
      refine s_nil ?_
      refine q_then ?_
      refine c_ret ?_
      have hp : spliceF s at_ n t = ((⟨List.toArray (s.data.toList.take at_.toNat ++ t.data.toList ++ s.data.toList.drop (at_ + n).toNat)⟩ : ByteArray), 0) := by first | (unfold spliceF; rw [if_pos (by omega)]; exact congrArg (fun x => (x, (0 : Int))) (spl_eq rfl)) | exact if_neg (by omega)
      refine c_fin (I' := []) [] [0] rfl (.tmp rfl (.tmp rfl .nil)) rfl rfl rfl ?_
      rw [hp]
      exact ⟨rfl, rfl, rfl⟩
    ·
      refine ⟨rfl, ?_⟩
      refine s_nil ?_
      refine q_then ?_
      refine c_seq ?_
      refine c_region ?_
      refine st rfl (o_y (v := .pointer (some ⟨b1, 0, none⟩)) (y_mv rfl) rfl rfl rfl ?_)
      refine st rfl (o_call [0] [0] (end_err_ b1 A4 c2 l1) rfl rfl rfl rfl rfl rfl (fun v L' I' hq4 => ?_))
      obtain ⟨rfl, rfl, rfl⟩ := hq4
      refine st rfl (o_y (v := .string (⟨#[]⟩ : ByteArray)) (y_k rfl rfl (fun _ => by kernel_rfl)) rfl rfl rfl ?_)
      refine st rfl (o_y (v := .int .i64 90) (y_k rfl rfl (fun _ => by kernel_rfl)) rfl rfl rfl ?_)
      refine st rfl (o_y (v := .string (⟨#[]⟩ : ByteArray)) (y_as rfl) rfl rfl rfl ?_)
      refine st rfl (o_y (v := .int .i64 90) (y_as rfl) rfl rfl rfl ?_)
      refine s_nil ?_
      refine q_then ?_
      refine c_ret ?_
      have hp : spliceF s at_ n t = ((⟨#[]⟩ : ByteArray), 90) := by first | (unfold spliceF; rw [if_pos (by omega)]; exact congrArg (fun x => (x, (0 : Int))) (spl_eq rfl)) | exact if_neg (by omega)
      refine c_fin (I' := []) [] [0] rfl (.tmp rfl (.tmp rfl .nil)) rfl rfl rfl ?_
      rw [hp]
      exact ⟨rfl, rfl, rfl⟩
  ·
    refine st rfl (o_y (v := .pointer (some ⟨b2, 0, none⟩)) (y_as rfl) rfl rfl rfl ?_)
    refine s_nil ?_
    refine q_then ?_
    refine c_seq ?_
    refine c_region ?_
    refine st rfl (o_y (v := .pointer (some ⟨b2, 0, none⟩)) (y_mv rfl) rfl rfl rfl ?_)
    refine st rfl (o_y (v := .int .i64 at_) (y_mv rfl) rfl rfl rfl ?_)
    refine st rfl (o_y (v := .int .i64 n) (y_mv rfl) rfl rfl rfl ?_)
    refine st rfl (o_y (v := .string t) (y_mv rfl) rfl rfl rfl ?_)
    refine st rfl (o_call [0] [] (spliceE_ b2 A2 s.size s.data.toList at_ n t (by first | assumption | omega | (rw [len_bytes]; omega)) (by first | omega | decide | assumption | (rw [ByteArray.size_append]; omega))) rfl rfl rfl rfl rfl rfl (fun v L' I' hq5 => ?_))
    obtain ⟨rfl, rfl, rfl⟩ := hq5
    refine s_nil ?_
    refine q_then ?_
    refine c_seq ?_
    refine c_region ?_
    refine st rfl (o_y (v := .pointer (some ⟨b2, 0, none⟩)) (y_mv rfl) rfl rfl rfl ?_)
    refine st rfl (o_call [0] [0] (end_err_ b2 A2 s.size s.data.toList) rfl rfl rfl rfl rfl rfl (fun v L' I' hq6 => ?_))
    obtain ⟨rfl, rfl, rfl⟩ := hq6
    refine st rfl (o_y (v := .string (⟨#[]⟩ : ByteArray)) (y_k rfl rfl (fun _ => by kernel_rfl)) rfl rfl rfl ?_)
    refine st rfl (o_y (v := .int .i64 90) (y_k rfl rfl (fun _ => by kernel_rfl)) rfl rfl rfl ?_)
    refine st rfl (o_y (v := .string (⟨#[]⟩ : ByteArray)) (y_as rfl) rfl rfl rfl ?_)
    refine st rfl (o_y (v := .int .i64 90) (y_as rfl) rfl rfl rfl ?_)
    refine s_nil ?_
    refine q_then ?_
    refine c_ret ?_
    have hp : spliceF s at_ n t = ((⟨#[]⟩ : ByteArray), 90) := by first | (unfold spliceF; rw [if_pos (by omega)]; exact congrArg (fun x => (x, (0 : Int))) (spl_eq rfl)) | exact if_neg (by omega)
    refine c_fin (I' := []) [] [0] rfl (.tmp rfl (.tmp rfl .nil)) rfl rfl rfl ?_
    rw [hp]
    exact ⟨rfl, rfl, rfl⟩
theorem Write_ (s : ByteArray) (hs : s.size ≤ 100000) (at_ : Int) (t : ByteArray) (ht : t.size ≤ 100000) : Con Tryd.prog 6 [.string s, .int .i64 at_, .string t] [] [cellsAt 0 0 [.iface 70 (.agg #[.pointer (some ⟨1, 42, none⟩)])]] (fun v L' I' => v = .tuple #[.string ((writeF s at_ t).1), .int .i64 ((writeF s at_ t).2)] ∧ L' = [] ∧ I' = []) := by
  have hlb := len_bytes s
  have hw := sub_in (at_ := at_) hs
  refine fn_of Tryd.func6 rfl Tryd.ntmps6 (by kernel_rfl) rfl (fun C => ?_)
  refine c_seq ?_
  refine c_region ?_
  refine st rfl (o_y (v := .string (⟨#[]⟩ : ByteArray)) (y_as rfl) rfl rfl rfl ?_)
  refine st rfl (o_y (v := .int .i64 0) (y_as rfl) rfl rfl rfl ?_)
  refine s_nil ?_
  refine q_then ?_
  refine c_seq ?_
  refine c_region ?_
  refine st rfl (o_y (v := .string s) (y_mv rfl) rfl rfl rfl ?_)
  refine st rfl (o_call [] [] (open_ s (by first | omega | decide | assumption)) rfl rfl rfl rfl rfl rfl (fun v L' I' hq1 => ?_))
  rcases hq1 with ⟨b1, A1, h1, rfl, rfl, rfl⟩ | ⟨b2, A2, h2, rfl, rfl, rfl⟩
  ·
    refine st rfl (o_y (v := .pointer (some ⟨b1, 0, none⟩)) (y_as rfl) rfl rfl rfl ?_)
    refine s_nil ?_
    refine q_then ?_
    refine c_seq ?_
    refine c_region ?_
    refine st rfl (o_y (v := .pointer (some ⟨b1, 0, none⟩)) (y_mv rfl) rfl rfl rfl ?_)
    refine st rfl (o_y (v := .int .i64 at_) (y_mv rfl) rfl rfl rfl ?_)
    refine st rfl (o_y (v := .string t) (y_mv rfl) rfl rfl rfl ?_)
    refine st rfl (o_y (v := .int .i64 (t.size : Int)) (y_k rfl rfl (fun _ => by kernel_rfl)) rfl rfl rfl ?_)
    refine st rfl (o_y (v := .string s) (y_mv rfl) rfl rfl rfl ?_)
    refine st rfl (o_y (v := .int .i64 (s.size : Int)) (y_k rfl rfl (fun _ => by kernel_rfl)) rfl rfl rfl ?_)
    refine st rfl (o_y (v := .int .i64 at_) (y_mv rfl) rfl rfl rfl ?_)
    refine st rfl (o_y (v := .int .i64 (IntKind.i64.wrap ((s.size : Int) - at_))) (y_subw (p := (s.size : Int)) (q := at_) rfl rfl) rfl rfl rfl ?_)
    refine st rfl (o_y (v := .int .i64 (min (t.size : Int) (IntKind.i64.wrap ((s.size : Int) - at_)))) (y_mini (p := (t.size : Int)) (q := IntKind.i64.wrap ((s.size : Int) - at_)) rfl rfl) rfl rfl rfl ?_)
    refine st rfl (o_y (v := .int .i64 (max 0 (min (t.size : Int) (IntKind.i64.wrap ((s.size : Int) - at_))))) (y_maxi (p := 0) (q := min (t.size : Int) (IntKind.i64.wrap ((s.size : Int) - at_))) rfl rfl) rfl rfl rfl ?_)
    refine st rfl (o_y (v := .string t) (y_mv rfl) rfl rfl rfl ?_)
    refine st rfl (o_lend [1] [0] [] (splice_ b1 A1 s.size s.data.toList at_ (max 0 (min (t.size : Int) (IntKind.i64.wrap ((s.size : Int) - at_)))) t (by first | assumption | omega | (rw [len_bytes]; omega)) (by first | omega | decide | assumption | (rw [ByteArray.size_append]; omega))) (.cons lend_ars .nil) rfl rfl rfl rfl rfl rfl rfl rfl (fun v L' I' hq2 => ?_))
    rcases hq2 with ⟨A3, c1, h3, rfl, rfl, rfl⟩ | ⟨A4, c2, l1, h4, rfl, rfl, rfl⟩
    ·
      refine ⟨rfl, ?_⟩
      refine s_nil ?_
      refine q_then ?_
      refine c_seq ?_
      refine c_region ?_
      refine st rfl (o_y (v := .pointer (some ⟨b1, 0, none⟩)) (y_mv rfl) rfl rfl rfl ?_)
      refine st rfl (o_lend [1] [0] [] (end_ok_ b1 A3 c1 (s.data.toList.take at_.toNat ++ t.data.toList ++ s.data.toList.drop (at_ + (max 0 (min (t.size : Int) (IntKind.i64.wrap ((s.size : Int) - at_))))).toNat)) (.cons lend_ars .nil) rfl rfl rfl rfl rfl rfl rfl rfl (fun v L' I' hq3 => ?_))
      obtain ⟨rfl, rfl, rfl⟩ := hq3
      refine ⟨rfl, ?_⟩
      refine st rfl (o_y (v := .string (⟨List.toArray (s.data.toList.take at_.toNat ++ t.data.toList ++ s.data.toList.drop (at_ + (max 0 (min (t.size : Int) (IntKind.i64.wrap ((s.size : Int) - at_))))).toNat)⟩ : ByteArray)) (y_k rfl rfl (fun _ => by kernel_rfl)) rfl rfl rfl ?_)
      refine st rfl (o_y (v := .int .i64 0) (y_k rfl rfl (fun _ => by kernel_rfl)) rfl rfl rfl ?_)
      refine st rfl (o_y (v := .string (⟨List.toArray (s.data.toList.take at_.toNat ++ t.data.toList ++ s.data.toList.drop (at_ + (max 0 (min (t.size : Int) (IntKind.i64.wrap ((s.size : Int) - at_))))).toNat)⟩ : ByteArray)) (y_as rfl) rfl rfl rfl ?_)
      refine st rfl (o_y (v := .int .i64 0) (y_as rfl) rfl rfl rfl ?_)
      refine s_nil ?_
      refine q_then ?_
      refine c_ret ?_
      have hp : writeF s at_ t = ((⟨List.toArray (s.data.toList.take at_.toNat ++ t.data.toList ++ s.data.toList.drop (at_ + (max 0 (min (t.size : Int) (IntKind.i64.wrap ((s.size : Int) - at_))))).toNat)⟩ : ByteArray), 0) := by first | (unfold writeF; rw [if_pos (by omega)]; exact congrArg (fun x => (x, (0 : Int))) (spl_eq (by omega))) | exact if_neg (by omega)
      refine c_fin (I' := []) [] [0] rfl (.tmp rfl (.tmp rfl .nil)) rfl rfl rfl ?_
      rw [hp]
      exact ⟨rfl, rfl, rfl⟩
    ·
      refine ⟨rfl, ?_⟩
      refine s_nil ?_
      refine q_then ?_
      refine c_seq ?_
      refine c_region ?_
      refine st rfl (o_y (v := .pointer (some ⟨b1, 0, none⟩)) (y_mv rfl) rfl rfl rfl ?_)
      refine st rfl (o_call [0] [0] (end_err_ b1 A4 c2 l1) rfl rfl rfl rfl rfl rfl (fun v L' I' hq4 => ?_))
      obtain ⟨rfl, rfl, rfl⟩ := hq4
      refine st rfl (o_y (v := .string (⟨#[]⟩ : ByteArray)) (y_k rfl rfl (fun _ => by kernel_rfl)) rfl rfl rfl ?_)
      refine st rfl (o_y (v := .int .i64 90) (y_k rfl rfl (fun _ => by kernel_rfl)) rfl rfl rfl ?_)
      refine st rfl (o_y (v := .string (⟨#[]⟩ : ByteArray)) (y_as rfl) rfl rfl rfl ?_)
      refine st rfl (o_y (v := .int .i64 90) (y_as rfl) rfl rfl rfl ?_)
      refine s_nil ?_
      refine q_then ?_
      refine c_ret ?_
      have hp : writeF s at_ t = ((⟨#[]⟩ : ByteArray), 90) := by first | (unfold writeF; rw [if_pos (by omega)]; exact congrArg (fun x => (x, (0 : Int))) (spl_eq (by omega))) | exact if_neg (by omega)
      refine c_fin (I' := []) [] [0] rfl (.tmp rfl (.tmp rfl .nil)) rfl rfl rfl ?_
      rw [hp]
      exact ⟨rfl, rfl, rfl⟩
  ·
    refine st rfl (o_y (v := .pointer (some ⟨b2, 0, none⟩)) (y_as rfl) rfl rfl rfl ?_)
    refine s_nil ?_
    refine q_then ?_
    refine c_seq ?_
    refine c_region ?_
    refine st rfl (o_y (v := .pointer (some ⟨b2, 0, none⟩)) (y_mv rfl) rfl rfl rfl ?_)
    refine st rfl (o_y (v := .int .i64 at_) (y_mv rfl) rfl rfl rfl ?_)
    refine st rfl (o_y (v := .string t) (y_mv rfl) rfl rfl rfl ?_)
    refine st rfl (o_y (v := .int .i64 (t.size : Int)) (y_k rfl rfl (fun _ => by kernel_rfl)) rfl rfl rfl ?_)
    refine st rfl (o_y (v := .string s) (y_mv rfl) rfl rfl rfl ?_)
    refine st rfl (o_y (v := .int .i64 (s.size : Int)) (y_k rfl rfl (fun _ => by kernel_rfl)) rfl rfl rfl ?_)
    refine st rfl (o_y (v := .int .i64 at_) (y_mv rfl) rfl rfl rfl ?_)
    refine st rfl (o_y (v := .int .i64 (IntKind.i64.wrap ((s.size : Int) - at_))) (y_subw (p := (s.size : Int)) (q := at_) rfl rfl) rfl rfl rfl ?_)
    refine st rfl (o_y (v := .int .i64 (min (t.size : Int) (IntKind.i64.wrap ((s.size : Int) - at_)))) (y_mini (p := (t.size : Int)) (q := IntKind.i64.wrap ((s.size : Int) - at_)) rfl rfl) rfl rfl rfl ?_)
    refine st rfl (o_y (v := .int .i64 (max 0 (min (t.size : Int) (IntKind.i64.wrap ((s.size : Int) - at_))))) (y_maxi (p := 0) (q := min (t.size : Int) (IntKind.i64.wrap ((s.size : Int) - at_))) rfl rfl) rfl rfl rfl ?_)
    refine st rfl (o_y (v := .string t) (y_mv rfl) rfl rfl rfl ?_)
    refine st rfl (o_call [0] [] (spliceE_ b2 A2 s.size s.data.toList at_ (max 0 (min (t.size : Int) (IntKind.i64.wrap ((s.size : Int) - at_)))) t (by first | assumption | omega | (rw [len_bytes]; omega)) (by first | omega | decide | assumption | (rw [ByteArray.size_append]; omega))) rfl rfl rfl rfl rfl rfl (fun v L' I' hq5 => ?_))
    obtain ⟨rfl, rfl, rfl⟩ := hq5
    refine s_nil ?_
    refine q_then ?_
    refine c_seq ?_
    refine c_region ?_
    refine st rfl (o_y (v := .pointer (some ⟨b2, 0, none⟩)) (y_mv rfl) rfl rfl rfl ?_)
    refine st rfl (o_call [0] [0] (end_err_ b2 A2 s.size s.data.toList) rfl rfl rfl rfl rfl rfl (fun v L' I' hq6 => ?_))
    obtain ⟨rfl, rfl, rfl⟩ := hq6
    refine st rfl (o_y (v := .string (⟨#[]⟩ : ByteArray)) (y_k rfl rfl (fun _ => by kernel_rfl)) rfl rfl rfl ?_)
    refine st rfl (o_y (v := .int .i64 90) (y_k rfl rfl (fun _ => by kernel_rfl)) rfl rfl rfl ?_)
    refine st rfl (o_y (v := .string (⟨#[]⟩ : ByteArray)) (y_as rfl) rfl rfl rfl ?_)
    refine st rfl (o_y (v := .int .i64 90) (y_as rfl) rfl rfl rfl ?_)
    refine s_nil ?_
    refine q_then ?_
    refine c_ret ?_
    have hp : writeF s at_ t = ((⟨#[]⟩ : ByteArray), 90) := by first | (unfold writeF; rw [if_pos (by omega)]; exact congrArg (fun x => (x, (0 : Int))) (spl_eq (by omega))) | exact if_neg (by omega)
    refine c_fin (I' := []) [] [0] rfl (.tmp rfl (.tmp rfl .nil)) rfl rfl rfl ?_
    rw [hp]
    exact ⟨rfl, rfl, rfl⟩
theorem rWrite_ (s : ByteArray) (hs : s.size ≤ 100000) (at_ : Int) (t : ByteArray) (ht : t.size ≤ 100000) : Con Tryd.prog 7 [.string s, .int .i64 at_, .string t] [] [] (fun v L' I' => v = .tuple #[.string ((writeF s at_ t).1), .int .i64 ((writeF s at_ t).2)] ∧ L' = [] ∧ I' = []) := by
  refine fn_of Tryd.func7 rfl Tryd.ntmps7 (by kernel_rfl) rfl (fun C => ?_)
  refine c_seq ?_
  refine c_region ?_
  refine st rfl (o_y (v := .string (⟨#[]⟩ : ByteArray)) (y_as rfl) rfl rfl rfl ?_)
  refine st rfl (o_y (v := .int .i64 0) (y_as rfl) rfl rfl rfl ?_)
  refine s_nil ?_
  refine q_then ?_
  refine c_seq ?_
  refine c_seq ?_
  refine c_region ?_
  refine st rfl (o_y (v := .string s) (y_mv rfl) rfl rfl rfl ?_)
  refine st rfl (o_y (v := .int .i64 (s.size : Int)) (y_k rfl rfl (fun _ => by kernel_rfl)) rfl rfl rfl ?_)
  refine e_by ((s.size : Int) > 1000) (fun h1 => ?_) (fun h1 => ?_)
  ·
    refine st rfl (o_y (v := .bool true) (y_t (y_k (v := .bool (decide ((s.size : Int) > 1000))) rfl rfl (fun _ => by kernel_rfl)) h1) rfl rfl rfl ?_)
    refine st rfl (o_y (v := .bool true) (y_mv rfl) rfl rfl rfl ?_)
    refine st_off 11 rfl rfl rfl rfl rfl rfl ?_
    refine st_off 11 rfl rfl rfl rfl rfl rfl ?_
    refine st rfl (o_y (v := .bool true) (y_pick rfl rfl) rfl rfl rfl ?_)
    refine st rfl (o_y (v := .bool true) (y_mv rfl) rfl rfl rfl ?_)
    refine st_off 15 rfl rfl rfl rfl rfl rfl ?_
    refine st_off 15 rfl rfl rfl rfl rfl rfl ?_
    refine st_off 15 rfl rfl rfl rfl rfl rfl ?_
    refine st_off 15 rfl rfl rfl rfl rfl rfl ?_
    refine st rfl (o_y (v := .bool true) (y_pick rfl rfl) rfl rfl rfl ?_)
    refine st rfl (o_y (v := .bool true) (y_mv rfl) rfl rfl rfl ?_)
    refine st_off 21 rfl rfl rfl rfl rfl rfl ?_
    refine st_off 21 rfl rfl rfl rfl rfl rfl ?_
    refine st_off 21 rfl rfl rfl rfl rfl rfl ?_
    refine st_off 21 rfl rfl rfl rfl rfl rfl ?_
    refine st_off 21 rfl rfl rfl rfl rfl rfl ?_
    refine st rfl (o_y (v := .bool true) (y_pick rfl rfl) rfl rfl rfl ?_)
    refine s_nil ?_
    refine q_then ?_
    refine c_true rfl ?_
    refine c_seq ?_
    refine c_region ?_
    refine st rfl (o_y (v := .string (⟨#[]⟩ : ByteArray)) (y_as rfl) rfl rfl rfl ?_)
    refine st rfl (o_y (v := .int .i64 90) (y_as rfl) rfl rfl rfl ?_)
    refine s_nil ?_
    refine q_then ?_
    refine c_ret ?_
    refine q_then_ret ?_
    have hp : writeF s at_ t = ((⟨#[]⟩ : ByteArray), 90) := by first | (unfold writeF; rw [if_pos (by omega)]; exact congrArg (fun x => (x, (0 : Int))) (spl_eq3 (by omega) (by omega))) | exact if_neg (by omega)
    refine c_fin (I' := []) [] [] rfl (.tmp rfl (.tmp rfl .nil)) rfl rfl rfl ?_
    rw [hp]
    exact ⟨rfl, rfl, rfl⟩
  ·
    refine st rfl (o_y (v := .bool false) (y_f (y_k (v := .bool (decide ((s.size : Int) > 1000))) rfl rfl (fun _ => by kernel_rfl)) h1) rfl rfl rfl ?_)
    refine st rfl (o_y (v := .bool false) (y_mv rfl) rfl rfl rfl ?_)
    refine st_on 11 rfl rfl rfl (o_y (v := .int .i64 at_) (y_mv rfl) rfl rfl rfl ?_)
    refine e_by (at_ < 0) (fun h2 => ?_) (fun h2 => ?_)
    ·
      refine st_on 11 rfl rfl rfl (o_y (v := .bool true) (y_t (y_k (v := .bool (decide (at_ < 0))) rfl rfl (fun _ => by kernel_rfl)) h2) rfl rfl rfl ?_)
      refine st rfl (o_y (v := .bool true) (y_pick rfl rfl) rfl rfl rfl ?_)
      refine st rfl (o_y (v := .bool true) (y_mv rfl) rfl rfl rfl ?_)
      refine st_off 15 rfl rfl rfl rfl rfl rfl ?_
      refine st_off 15 rfl rfl rfl rfl rfl rfl ?_
      refine st_off 15 rfl rfl rfl rfl rfl rfl ?_
      refine st_off 15 rfl rfl rfl rfl rfl rfl ?_
      refine st rfl (o_y (v := .bool true) (y_pick rfl rfl) rfl rfl rfl ?_)
      refine st rfl (o_y (v := .bool true) (y_mv rfl) rfl rfl rfl ?_)
      refine st_off 21 rfl rfl rfl rfl rfl rfl ?_
      refine st_off 21 rfl rfl rfl rfl rfl rfl ?_
      refine st_off 21 rfl rfl rfl rfl rfl rfl ?_
      refine st_off 21 rfl rfl rfl rfl rfl rfl ?_
      refine st_off 21 rfl rfl rfl rfl rfl rfl ?_
      refine st rfl (o_y (v := .bool true) (y_pick rfl rfl) rfl rfl rfl ?_)
      refine s_nil ?_
      refine q_then ?_
      refine c_true rfl ?_
      refine c_seq ?_
      refine c_region ?_
      refine st rfl (o_y (v := .string (⟨#[]⟩ : ByteArray)) (y_as rfl) rfl rfl rfl ?_)
      refine st rfl (o_y (v := .int .i64 90) (y_as rfl) rfl rfl rfl ?_)
      refine s_nil ?_
      refine q_then ?_
      refine c_ret ?_
      refine q_then_ret ?_
      have hp : writeF s at_ t = ((⟨#[]⟩ : ByteArray), 90) := by first | (unfold writeF; rw [if_pos (by omega)]; exact congrArg (fun x => (x, (0 : Int))) (spl_eq3 (by omega) (by omega))) | exact if_neg (by omega)
      refine c_fin (I' := []) [] [] rfl (.tmp rfl (.tmp rfl .nil)) rfl rfl rfl ?_
      rw [hp]
      exact ⟨rfl, rfl, rfl⟩
    ·
      refine st_on 11 rfl rfl rfl (o_y (v := .bool false) (y_f (y_k (v := .bool (decide (at_ < 0))) rfl rfl (fun _ => by kernel_rfl)) h2) rfl rfl rfl ?_)
      refine st rfl (o_y (v := .bool false) (y_pick rfl rfl) rfl rfl rfl ?_)
      refine st rfl (o_y (v := .bool false) (y_mv rfl) rfl rfl rfl ?_)
      refine st_on 15 rfl rfl rfl (o_y (v := .int .i64 at_) (y_mv rfl) rfl rfl rfl ?_)
      refine st_on 15 rfl rfl rfl (o_y (v := .string s) (y_mv rfl) rfl rfl rfl ?_)
      refine st_on 15 rfl rfl rfl (o_y (v := .int .i64 (s.size : Int)) (y_k rfl rfl (fun _ => by kernel_rfl)) rfl rfl rfl ?_)
      refine e_by (at_ > (s.size : Int)) (fun h3 => ?_) (fun h3 => ?_)
      ·
        refine st_on 15 rfl rfl rfl (o_y (v := .bool true) (y_t (y_k (v := .bool (decide (at_ > (s.size : Int)))) rfl rfl (fun _ => by kernel_rfl)) h3) rfl rfl rfl ?_)
        refine st rfl (o_y (v := .bool true) (y_pick rfl rfl) rfl rfl rfl ?_)
        refine st rfl (o_y (v := .bool true) (y_mv rfl) rfl rfl rfl ?_)
        refine st_off 21 rfl rfl rfl rfl rfl rfl ?_
        refine st_off 21 rfl rfl rfl rfl rfl rfl ?_
        refine st_off 21 rfl rfl rfl rfl rfl rfl ?_
        refine st_off 21 rfl rfl rfl rfl rfl rfl ?_
        refine st_off 21 rfl rfl rfl rfl rfl rfl ?_
        refine st rfl (o_y (v := .bool true) (y_pick rfl rfl) rfl rfl rfl ?_)
        refine s_nil ?_
        refine q_then ?_
        refine c_true rfl ?_
        refine c_seq ?_
        refine c_region ?_
        refine st rfl (o_y (v := .string (⟨#[]⟩ : ByteArray)) (y_as rfl) rfl rfl rfl ?_)
        refine st rfl (o_y (v := .int .i64 90) (y_as rfl) rfl rfl rfl ?_)
        refine s_nil ?_
        refine q_then ?_
        refine c_ret ?_
        refine q_then_ret ?_
        have hp : writeF s at_ t = ((⟨#[]⟩ : ByteArray), 90) := by first | (unfold writeF; rw [if_pos (by omega)]; exact congrArg (fun x => (x, (0 : Int))) (spl_eq3 (by omega) (by omega))) | exact if_neg (by omega)
        refine c_fin (I' := []) [] [] rfl (.tmp rfl (.tmp rfl .nil)) rfl rfl rfl ?_
        rw [hp]
        exact ⟨rfl, rfl, rfl⟩
      ·
        refine st_on 15 rfl rfl rfl (o_y (v := .bool false) (y_f (y_k (v := .bool (decide (at_ > (s.size : Int)))) rfl rfl (fun _ => by kernel_rfl)) h3) rfl rfl rfl ?_)
        refine st rfl (o_y (v := .bool false) (y_pick rfl rfl) rfl rfl rfl ?_)
        refine st rfl (o_y (v := .bool false) (y_mv rfl) rfl rfl rfl ?_)
        refine st_on 21 rfl rfl rfl (o_y (v := .string t) (y_mv rfl) rfl rfl rfl ?_)
        refine st_on 21 rfl rfl rfl (o_y (v := .int .i64 (t.size : Int)) (y_k rfl rfl (fun _ => by kernel_rfl)) rfl rfl rfl ?_)
        refine st_on 21 rfl rfl rfl (o_y (v := .int .i64 at_) (y_mv rfl) rfl rfl rfl ?_)
        refine st_on 21 rfl rfl rfl (o_y (v := .int .i64 (1000 - at_)) (y_sub (r := 1000 - at_) rfl rfl rfl (by omega)) rfl rfl rfl ?_)
        refine e_by ((t.size : Int) > 1000 - at_) (fun h4 => ?_) (fun h4 => ?_)
        ·
          refine st_on 21 rfl rfl rfl (o_y (v := .bool true) (y_t (y_k (v := .bool (decide ((t.size : Int) > 1000 - at_))) rfl rfl (fun _ => by kernel_rfl)) h4) rfl rfl rfl ?_)
          refine st rfl (o_y (v := .bool true) (y_pick rfl rfl) rfl rfl rfl ?_)
          refine s_nil ?_
          refine q_then ?_
          refine c_true rfl ?_
          refine c_seq ?_
          refine c_region ?_
          refine st rfl (o_y (v := .string (⟨#[]⟩ : ByteArray)) (y_as rfl) rfl rfl rfl ?_)
          refine st rfl (o_y (v := .int .i64 90) (y_as rfl) rfl rfl rfl ?_)
          refine s_nil ?_
          refine q_then ?_
          refine c_ret ?_
          refine q_then_ret ?_
          have hp : writeF s at_ t = ((⟨#[]⟩ : ByteArray), 90) := by first | (unfold writeF; rw [if_pos (by omega)]; exact congrArg (fun x => (x, (0 : Int))) (spl_eq3 (by omega) (by omega))) | exact if_neg (by omega)
          refine c_fin (I' := []) [] [] rfl (.tmp rfl (.tmp rfl .nil)) rfl rfl rfl ?_
          rw [hp]
          exact ⟨rfl, rfl, rfl⟩
        ·
          refine st_on 21 rfl rfl rfl (o_y (v := .bool false) (y_f (y_k (v := .bool (decide ((t.size : Int) > 1000 - at_))) rfl rfl (fun _ => by kernel_rfl)) h4) rfl rfl rfl ?_)
          refine st rfl (o_y (v := .bool false) (y_pick rfl rfl) rfl rfl rfl ?_)
          refine s_nil ?_
          refine q_then ?_
          refine c_false rfl ?_
          refine c_skip ?_
          refine q_then ?_
          refine c_seq ?_
          refine c_draw (l := ticked 17 0) [] [] (by kernel_rfl) rfl rfl ?_
          refine a_y (i := 0) (v := .string s) (ticked 17 1) rfl (by as_aux_lemma => kernel_rfl) rfl rfl rfl (by exact y_mv rfl) ?_
          refine a_y (i := 1) (v := .int .i64 at_) (ticked 17 3) rfl (by as_aux_lemma => kernel_rfl) rfl rfl rfl (by exact y_mv rfl) ?_
          refine a_y (i := 2) (v := .string (s.extract 0 ((at_).toNat))) (ticked 17 7) rfl (by as_aux_lemma => kernel_rfl) rfl rfl rfl (by exact y_cuts 0 ((at_).toNat) rfl .no (.at ((at_).toNat) rfl (by omega)) Tryd.underlying9 (by omega) (by omega)) ?_
          refine a_y (i := 3) (v := .string t) (ticked 17 15) rfl (by as_aux_lemma => kernel_rfl) rfl rfl rfl (by exact y_mv rfl) ?_
          refine a_y (i := 4) (v := .string ((s.extract 0 ((at_).toNat)) ++ t)) (ticked 17 31) rfl (by as_aux_lemma => kernel_rfl) rfl rfl rfl (by exact y_cat (s := s.extract 0 ((at_).toNat)) (u := t) rfl rfl (by first | omega | (simp only [ByteArray.size_append, ByteArray.size_extract]; omega))) ?_
          refine a_y (i := 5) (v := .string s) (ticked 17 63) rfl (by as_aux_lemma => kernel_rfl) rfl rfl rfl (by exact y_mv rfl) ?_
          refine a_y (i := 6) (v := .string s) (ticked 17 127) rfl (by as_aux_lemma => kernel_rfl) rfl rfl rfl (by exact y_mv rfl) ?_
          refine a_y (i := 7) (v := .int .i64 (s.size : Int)) (ticked 17 255) rfl (by as_aux_lemma => kernel_rfl) rfl rfl rfl (by exact y_k rfl rfl (fun _ => by kernel_rfl)) ?_
          refine a_y (i := 8) (v := .int .i64 at_) (ticked 17 511) rfl (by as_aux_lemma => kernel_rfl) rfl rfl rfl (by exact y_mv rfl) ?_
          refine a_y (i := 9) (v := .string t) (ticked 17 1023) rfl (by as_aux_lemma => kernel_rfl) rfl rfl rfl (by exact y_mv rfl) ?_
          refine a_y (i := 10) (v := .int .i64 (t.size : Int)) (ticked 17 2047) rfl (by as_aux_lemma => kernel_rfl) rfl rfl rfl (by exact y_k rfl rfl (fun _ => by kernel_rfl)) ?_
          refine a_y (i := 11) (v := .int .i64 (at_ + (t.size : Int))) (ticked 17 4095) rfl (by as_aux_lemma => kernel_rfl) rfl rfl rfl (by exact y_add (r := at_ + (t.size : Int)) rfl rfl rfl (by omega)) ?_
          refine a_y (i := 12) (v := .int .i64 (min (s.size : Int) (at_ + (t.size : Int)))) (ticked 17 8191) rfl (by as_aux_lemma => kernel_rfl) rfl rfl rfl (by exact y_mini (p := (s.size : Int)) (q := at_ + (t.size : Int)) rfl rfl) ?_
          refine a_y (i := 13) (v := .string (s.extract ((min (s.size : Int) (at_ + (t.size : Int))).toNat) s.size)) (ticked 17 16383) rfl (by as_aux_lemma => kernel_rfl) rfl rfl rfl (by exact y_cuts ((min (s.size : Int) (at_ + (t.size : Int))).toNat) s.size rfl (.at ((min (s.size : Int) (at_ + (t.size : Int))).toNat) rfl (by omega)) .no Tryd.underlying9 (by omega) (by omega)) ?_
          refine a_y (i := 14) (v := .string (((s.extract 0 ((at_).toNat)) ++ t) ++ (s.extract ((min (s.size : Int) (at_ + (t.size : Int))).toNat) s.size))) (ticked 17 32767) rfl (by as_aux_lemma => kernel_rfl) rfl rfl rfl (by exact y_cat (s := (s.extract 0 ((at_).toNat)) ++ t) (u := s.extract ((min (s.size : Int) (at_ + (t.size : Int))).toNat) s.size) rfl rfl (by first | omega | (simp only [ByteArray.size_append, ByteArray.size_extract]; omega))) ?_
          refine a_y (i := 15) (v := .string (((s.extract 0 ((at_).toNat)) ++ t) ++ (s.extract ((min (s.size : Int) (at_ + (t.size : Int))).toNat) s.size))) (ticked 17 65535) rfl (by as_aux_lemma => kernel_rfl) rfl rfl rfl (by exact y_as rfl) ?_
          refine a_y (i := 16) (v := .int .i64 0) (ticked 17 131071) rfl (by as_aux_lemma => kernel_rfl) rfl rfl rfl (by exact y_as rfl) ?_
          refine a_done (by as_aux_lemma => kernel_rfl) ?_
          refine q_then ?_
          refine c_ret ?_
          have hp : writeF s at_ t = (((s.extract 0 ((at_).toNat)) ++ t) ++ (s.extract ((min (s.size : Int) (at_ + (t.size : Int))).toNat) s.size), 0) := by first | (unfold writeF; rw [if_pos (by omega)]; exact congrArg (fun x => (x, (0 : Int))) (spl_eq3 (by omega) (by omega))) | exact if_neg (by omega)
          refine c_fin (I' := []) [] [] rfl (.tmp rfl (.tmp rfl .nil)) rfl rfl rfl ?_
          rw [hp]
          exact ⟨rfl, rfl, rfl⟩
theorem Read_ (s : ByteArray) (hs : s.size ≤ 100000) (at_ : Int) (n : Int) : Con Tryd.prog 8 [.string s, .int .i64 at_, .int .i64 n] [] [cellsAt 0 0 [.iface 70 (.agg #[.pointer (some ⟨1, 42, none⟩)])]] (fun v L' I' => v = .tuple #[.string ((readF s at_ n).1), .int .i64 ((readF s at_ n).2)] ∧ L' = [] ∧ I' = []) := by
  have hlb := len_bytes s
  refine fn_of Tryd.func8 rfl Tryd.ntmps8 (by kernel_rfl) rfl (fun C => ?_)
  refine c_seq ?_
  refine c_region ?_
  refine st rfl (o_y (v := .string (⟨#[]⟩ : ByteArray)) (y_as rfl) rfl rfl rfl ?_)
  refine st rfl (o_y (v := .int .i64 0) (y_as rfl) rfl rfl rfl ?_)
  refine s_nil ?_
  refine q_then ?_
  refine c_scope 0 rfl ?_
  refine c_seq ?_
  refine c_region ?_
  refine st rfl (o_y (v := .string s) (y_mv rfl) rfl rfl rfl ?_)
  refine st rfl (o_call [] [] (open_ s (by first | omega | decide | assumption)) rfl rfl rfl rfl rfl rfl (fun v L' I' hq1 => ?_))
  rcases hq1 with ⟨b1, A1, h1, rfl, rfl, rfl⟩ | ⟨b2, A2, h2, rfl, rfl, rfl⟩
  ·
    refine st rfl (o_y (v := .pointer (some ⟨b1, 0, none⟩)) (y_as rfl) rfl rfl rfl ?_)
    refine s_nil ?_
    refine q_then ?_
    refine c_seq ?_
    refine c_region ?_
    refine st rfl (o_y (v := .pointer (some ⟨b1, 0, none⟩)) (y_mv rfl) rfl rfl rfl ?_)
    refine st rfl (o_y (v := .pointer (some ⟨b1, 0, none⟩)) (y_mv rfl) rfl rfl rfl ?_)
    refine st rfl (o_y (v := .int .i64 at_) (y_mv rfl) rfl rfl rfl ?_)
    refine st rfl (o_call [0] [] (isOffset_ b1 A1 s.size s.data.toList (.nilIface : Value) at_) rfl rfl rfl rfl rfl rfl (fun v L' I' hq2 => ?_))
    obtain ⟨rfl, rfl, rfl⟩ := hq2
    refine st rfl (o_y (v := .int .i64 n) (y_mv rfl) rfl rfl rfl ?_)
    refine st rfl (o_y (v := .bool (decide (n ≥ 0))) (y_k rfl rfl (fun _ => by kernel_rfl)) rfl rfl rfl ?_)
    refine st rfl (o_lit (cs := [.bool (decide (0 ≤ at_ ∧ at_ ≤ (s.data.toList.length : Int))), .bool (decide (n ≥ 0))]) (T := 4) (m := 2) rfl rfl rfl rfl (fun _ => by kernel_rfl) (fun b3 => ?_))
    refine e_calm 0 rfl ?_
    refine e_lit boolTy [decide (0 ≤ at_ ∧ at_ ≤ (s.data.toList.length : Int)), decide (n ≥ 0)] 0 rfl rfl (by simp) ?_
    refine st rfl (o_call [0] [0] (must2_ b1 A1 s.size s.data.toList (.nilIface : Value) (some ⟨b3, 0, none⟩) 2 (0 ≤ at_ ∧ at_ ≤ (s.data.toList.length : Int)) (n ≥ 0)) rfl rfl rfl rfl rfl rfl (fun v L' I' hq3 => ?_))
    rcases hq3 with ⟨h3, rfl, rfl, rfl⟩ | ⟨h4, rfl, rfl, rfl⟩
    ·
      refine s_nil ?_
      refine q_then ?_
      refine c_seq ?_
      refine c_seq ?_
      refine c_region ?_
      refine st rfl (o_y (v := .pointer (some ⟨b1, 0, none⟩)) (y_mv rfl) rfl rfl rfl ?_)
      refine st rfl (o_y (v := .pointer (some ⟨b1, 0, none⟩)) (y_k rfl rfl (fun _ => by kernel_rfl)) rfl rfl rfl ?_)
      refine st rfl (o_y (v := .pointer (some ⟨b1, 1, none⟩)) (y_k rfl rfl (fun _ => by kernel_rfl)) rfl rfl rfl ?_)
      refine st rfl (o_ld 0 rfl rfl rfl Tryd.underlying42 rfl rfl ?_)
      refine st rfl (o_y (v := .bool false) (y_k rfl rfl (fun _ => by kernel_rfl)) rfl rfl rfl ?_)
      refine s_nil ?_
      refine q_then ?_
      refine c_false rfl ?_
      refine c_skip ?_
      refine q_then ?_
      refine c_seq ?_
      refine c_draw (l := ticked 24 0) [(⟨b1, 0, none⟩, .slice A1 s.data.toList.length s.size)] [23] (by kernel_rfl) rfl rfl ?_
      refine a_y (i := 0) (v := .pointer (some ⟨b1, 0, none⟩)) (ticked 24 1) rfl (by as_aux_lemma => kernel_rfl) rfl rfl rfl (by exact y_mv rfl) ?_
      refine a_y (i := 1) (v := .pointer (some ⟨b1, 0, none⟩)) (ticked 24 3) rfl (by as_aux_lemma => kernel_rfl) rfl rfl rfl (by exact y_mv rfl) ?_
      refine a_y (i := 2) (v := .pointer (some ⟨b1, 0, none⟩)) (ticked 24 7) rfl (by as_aux_lemma => kernel_rfl) rfl rfl rfl (by exact y_k rfl rfl (fun _ => by kernel_rfl)) ?_
      refine a_y (i := 3) (v := .pointer (some ⟨b1, 0, none⟩)) (ticked 24 15) rfl (by as_aux_lemma => kernel_rfl) rfl rfl rfl (by exact y_k rfl rfl (fun _ => by kernel_rfl)) ?_
      refine a_y (i := 4) (v := .pointer (some ⟨b1, 0, none⟩)) (ticked 24 31) rfl (by as_aux_lemma => kernel_rfl) rfl rfl rfl (by exact y_k rfl rfl (fun _ => by kernel_rfl)) ?_
      refine a_y (i := 6) (v := .int .i64 at_) (ticked 24 95) rfl (by as_aux_lemma => kernel_rfl) rfl rfl rfl (by exact y_mv rfl) ?_
      refine a_y (i := 7) (v := .int .i64 at_) (ticked 24 223) rfl (by as_aux_lemma => kernel_rfl) rfl rfl rfl (by exact y_mv rfl) ?_
      refine a_y (i := 8) (v := .int .i64 n) (ticked 24 479) rfl (by as_aux_lemma => kernel_rfl) rfl rfl rfl (by exact y_mv rfl) ?_
      refine a_y (i := 9) (v := .pointer (some ⟨b1, 0, none⟩)) (ticked 24 991) rfl (by as_aux_lemma => kernel_rfl) rfl rfl rfl (by exact y_mv rfl) ?_
      refine a_y (i := 10) (v := .pointer (some ⟨b1, 0, none⟩)) (ticked 24 2015) rfl (by as_aux_lemma => kernel_rfl) rfl rfl rfl (by exact y_k rfl rfl (fun _ => by kernel_rfl)) ?_
      refine a_y (i := 11) (v := .pointer (some ⟨b1, 0, none⟩)) (ticked 24 4063) rfl (by as_aux_lemma => kernel_rfl) rfl rfl rfl (by exact y_k rfl rfl (fun _ => by kernel_rfl)) ?_
      refine a_y (i := 12) (v := .pointer (some ⟨b1, 0, none⟩)) (ticked 24 8159) rfl (by as_aux_lemma => kernel_rfl) rfl rfl rfl (by exact y_k rfl rfl (fun _ => by kernel_rfl)) ?_
      refine a_y (i := 15) (v := .int .i64 at_) (ticked 24 40927) rfl (by as_aux_lemma => kernel_rfl) rfl rfl rfl (by exact y_mv rfl) ?_
      refine a_held (i := 5) (ticked 24 40959) rfl (by as_aux_lemma => kernel_rfl) rfl rfl rfl (held_pt 0 rfl rfl held_nil) (h_ld 0 rfl rfl Tryd.underlying38 rfl) ?_
      refine a_held (i := 13) (ticked 24 49151) rfl (by as_aux_lemma => kernel_rfl) rfl rfl rfl (held_pt 0 rfl rfl held_nil) (h_ld 0 rfl rfl Tryd.underlying38 rfl) ?_
      refine a_y (i := 14) (v := .int .i64 (s.data.toList.length : Int)) (ticked 24 65535) rfl (by as_aux_lemma => kernel_rfl) rfl rfl rfl (by exact y_k rfl rfl (fun _ => by kernel_rfl)) ?_
      refine a_y (i := 16) (v := .int .i64 ((s.data.toList.length : Int) - at_)) (ticked 24 131071) rfl (by as_aux_lemma => kernel_rfl) rfl rfl rfl (by exact y_sub (r := (s.data.toList.length : Int) - at_) rfl rfl rfl (by omega)) ?_
      refine a_y (i := 17) (v := .int .i64 (min n ((s.data.toList.length : Int) - at_))) (ticked 24 262143) rfl (by as_aux_lemma => kernel_rfl) rfl rfl rfl (by exact y_mini (p := n) (q := (s.data.toList.length : Int) - at_) rfl rfl) ?_
      refine a_y (i := 18) (v := .int .i64 (at_ + (min n ((s.data.toList.length : Int) - at_)))) (ticked 24 524287) rfl (by as_aux_lemma => kernel_rfl) rfl rfl rfl (by exact y_add (r := at_ + (min n ((s.data.toList.length : Int) - at_))) rfl rfl rfl (by omega)) ?_
      refine e_weak 1 rfl (fun _ h => h.win) ?_
      refine e_know 1 rfl (fun _ h => win.lens _ h) (fun hl1 => ?_)
      refine e_weak 1 rfl (fun _ h => h.cut2 (lo := (at_).toNat) (hi := (at_ + (min n ((s.data.toList.length : Int) - at_))).toNat) (mx := s.size) (l2 := (s.data.toList.take ((at_ + (min n ((s.data.toList.length : Int) - at_))).toNat)).drop ((at_).toNat)) (by simp) (by omega) (by omega) (by omega) (by omega)) ?_
      refine a_y (i := 19) (v := .slice (cutA u8Ty A1 ((at_).toNat) s.size) ((s.data.toList.take ((at_ + (min n ((s.data.toList.length : Int) - at_))).toNat)).drop ((at_).toNat)).length (s.size - ((at_).toNat))) (ticked 24 1048575) rfl (by as_aux_lemma => kernel_rfl) rfl rfl rfl (by exact y_cut (d := u8Ty) (l := s.data.toList) (l2 := (s.data.toList.take ((at_ + (min n ((s.data.toList.length : Int) - at_))).toNat)).drop ((at_).toNat)) ((at_).toNat) ((at_ + (min n ((s.data.toList.length : Int) - at_))).toNat) s.size (by simp) rfl rfl (.at ((at_).toNat) rfl (by omega)) (.at ((at_ + (min n ((s.data.toList.length : Int) - at_))).toNat) rfl (by omega)) .no (by simp) Tryd.underlying38 (by kernel_rfl) (by kernel_rfl) (by omega) (by omega) (by omega) (by omega)) ?_
      refine a_y (i := 20) (v := .pointer (some ⟨b1, 0, none⟩)) (ticked 24 2097151) rfl (by as_aux_lemma => kernel_rfl) rfl rfl rfl (by exact y_k rfl rfl (fun _ => by kernel_rfl)) ?_
      refine a_y (i := 21) (v := .pointer (some ⟨b1, 0, none⟩)) (ticked 24 4194303) rfl (by as_aux_lemma => kernel_rfl) rfl rfl rfl (by exact y_k rfl rfl (fun _ => by kernel_rfl)) ?_
      refine a_y (i := 22) (v := .pointer (some ⟨b1, 0, none⟩)) (ticked 24 8388607) rfl (by as_aux_lemma => kernel_rfl) rfl rfl rfl (by exact y_k rfl rfl (fun _ => by kernel_rfl)) ?_
      refine a_each (rs := [23]) (by as_aux_lemma => kernel_rfl) (.last (ticked 24 16777215) rfl rfl rfl rfl (o_st 0 rfl rfl rfl rfl rfl (by kernel_rfl) (by kernel_rfl) rfl ?_) .nil) (List.cons_ne_nil _ _)
      refine a_done (by as_aux_lemma => kernel_rfl) ?_
      refine q_then ?_
      refine c_seq ?_
      refine c_label ?_
      refine q_then ?_
      refine c_seq ?_
      refine c_region ?_
      refine st rfl (o_y (v := .pointer (some ⟨b1, 0, none⟩)) (y_mv rfl) rfl rfl rfl ?_)
      refine st rfl (o_lend [1] [0] [] (end_ok_ b1 (cutA u8Ty A1 ((at_).toNat) s.size) (s.size - ((at_).toNat)) ((s.data.toList.take ((at_ + (min n ((s.data.toList.length : Int) - at_))).toNat)).drop ((at_).toNat))) (.cons lend_win .nil) rfl rfl rfl rfl rfl rfl rfl rfl (fun v L' I' hq4 => ?_))
      obtain ⟨rfl, rfl, rfl⟩ := hq4
      refine ⟨rfl, ?_⟩
      refine st rfl (o_y (v := .string (⟨List.toArray ((s.data.toList.take ((at_ + (min n ((s.data.toList.length : Int) - at_))).toNat)).drop ((at_).toNat))⟩ : ByteArray)) (y_k rfl rfl (fun _ => by kernel_rfl)) rfl rfl rfl ?_)
      refine st rfl (o_y (v := .int .i64 0) (y_k rfl rfl (fun _ => by kernel_rfl)) rfl rfl rfl ?_)
      refine st rfl (o_y (v := .string (⟨List.toArray ((s.data.toList.take ((at_ + (min n ((s.data.toList.length : Int) - at_))).toNat)).drop ((at_).toNat))⟩ : ByteArray)) (y_as rfl) rfl rfl rfl ?_)
      refine st rfl (o_y (v := .int .i64 0) (y_as rfl) rfl rfl rfl ?_)
      refine s_nil ?_
      refine q_then ?_
      refine c_ret ?_
      refine q_jt_ret ?_
      have hp : readF s at_ n = ((⟨List.toArray ((s.data.toList.take ((at_ + (min n ((s.data.toList.length : Int) - at_))).toNat)).drop ((at_).toNat))⟩ : ByteArray), 0) := by first | (unfold readF; rw [if_pos (by omega)]; exact congrArg (fun x => (x, (0 : Int))) (read_eq (by omega))) | exact if_neg (by omega)
      refine c_fin (I' := []) [] [2] rfl (.tmp rfl (.tmp rfl .nil)) rfl rfl rfl ?_
      rw [hp]
      exact ⟨rfl, rfl, rfl⟩
    ·
      refine s_nil ?_
      refine q_then ?_
      refine c_seq ?_
      refine c_seq ?_
      refine c_region ?_
      refine st rfl (o_y (v := .pointer (some ⟨b1, 0, none⟩)) (y_mv rfl) rfl rfl rfl ?_)
      refine st rfl (o_y (v := .pointer (some ⟨b1, 0, none⟩)) (y_k rfl rfl (fun _ => by kernel_rfl)) rfl rfl rfl ?_)
      refine st rfl (o_y (v := .pointer (some ⟨b1, 1, none⟩)) (y_k rfl rfl (fun _ => by kernel_rfl)) rfl rfl rfl ?_)
      refine st rfl (o_ld 0 rfl rfl rfl Tryd.underlying42 rfl rfl ?_)
      refine st rfl (o_y (v := .bool true) (y_k rfl rfl (fun _ => by kernel_rfl)) rfl rfl rfl ?_)
      refine s_nil ?_
      refine q_then ?_
      refine c_true rfl ?_
      refine c_goto ?_
      refine q_then_goto ?_
      refine q_jt_goto ?_
      refine c_seq ?_
      refine c_skip ?_
      refine q_then ?_
      refine c_seq ?_
      refine c_region ?_
      refine st rfl (o_y (v := .pointer (some ⟨b1, 0, none⟩)) (y_mv rfl) rfl rfl rfl ?_)
      refine st rfl (o_call [0] [2] (end_err_ b1 A1 s.size s.data.toList) rfl rfl rfl rfl rfl rfl (fun v L' I' hq5 => ?_))
      obtain ⟨rfl, rfl, rfl⟩ := hq5
      refine st rfl (o_y (v := .string (⟨#[]⟩ : ByteArray)) (y_k rfl rfl (fun _ => by kernel_rfl)) rfl rfl rfl ?_)
      refine st rfl (o_y (v := .int .i64 90) (y_k rfl rfl (fun _ => by kernel_rfl)) rfl rfl rfl ?_)
      refine st rfl (o_y (v := .string (⟨#[]⟩ : ByteArray)) (y_as rfl) rfl rfl rfl ?_)
      refine st rfl (o_y (v := .int .i64 90) (y_as rfl) rfl rfl rfl ?_)
      refine s_nil ?_
      refine q_then ?_
      refine c_ret ?_
      refine q_nj_ret ?_
      have hp : readF s at_ n = ((⟨#[]⟩ : ByteArray), 90) := by first | (unfold readF; rw [if_pos (by omega)]; exact congrArg (fun x => (x, (0 : Int))) (read_eq (by omega))) | exact if_neg (by omega)
      refine c_fin (I' := []) [] [2] rfl (.tmp rfl (.tmp rfl .nil)) rfl rfl rfl ?_
      rw [hp]
      exact ⟨rfl, rfl, rfl⟩
  ·
    refine st rfl (o_y (v := .pointer (some ⟨b2, 0, none⟩)) (y_as rfl) rfl rfl rfl ?_)
    refine s_nil ?_
    refine q_then ?_
    refine c_seq ?_
    refine c_region ?_
    refine st rfl (o_y (v := .pointer (some ⟨b2, 0, none⟩)) (y_mv rfl) rfl rfl rfl ?_)
    refine st rfl (o_y (v := .pointer (some ⟨b2, 0, none⟩)) (y_mv rfl) rfl rfl rfl ?_)
    refine st rfl (o_y (v := .int .i64 at_) (y_mv rfl) rfl rfl rfl ?_)
    refine st rfl (o_call [0] [] (isOffset_ b2 A2 s.size s.data.toList (.iface 49 (.agg #[]) : Value) at_) rfl rfl rfl rfl rfl rfl (fun v L' I' hq6 => ?_))
    obtain ⟨rfl, rfl, rfl⟩ := hq6
    refine st rfl (o_y (v := .int .i64 n) (y_mv rfl) rfl rfl rfl ?_)
    refine st rfl (o_y (v := .bool (decide (n ≥ 0))) (y_k rfl rfl (fun _ => by kernel_rfl)) rfl rfl rfl ?_)
    refine st rfl (o_lit (cs := [.bool (decide (0 ≤ at_ ∧ at_ ≤ (s.data.toList.length : Int))), .bool (decide (n ≥ 0))]) (T := 4) (m := 2) rfl rfl rfl rfl (fun _ => by kernel_rfl) (fun b4 => ?_))
    refine e_calm 0 rfl ?_
    refine e_lit boolTy [decide (0 ≤ at_ ∧ at_ ≤ (s.data.toList.length : Int)), decide (n ≥ 0)] 0 rfl rfl (by simp) ?_
    refine st rfl (o_call [0] [0] (must2_ b2 A2 s.size s.data.toList (.iface 49 (.agg #[]) : Value) (some ⟨b4, 0, none⟩) 2 (0 ≤ at_ ∧ at_ ≤ (s.data.toList.length : Int)) (n ≥ 0)) rfl rfl rfl rfl rfl rfl (fun v L' I' hq7 => ?_))
    rcases hq7 with ⟨h5, rfl, rfl, rfl⟩ | ⟨h6, rfl, rfl, rfl⟩
    ·
      refine s_nil ?_
      refine q_then ?_
      refine c_seq ?_
      refine c_seq ?_
      refine c_region ?_
      refine st rfl (o_y (v := .pointer (some ⟨b2, 0, none⟩)) (y_mv rfl) rfl rfl rfl ?_)
      refine st rfl (o_y (v := .pointer (some ⟨b2, 0, none⟩)) (y_k rfl rfl (fun _ => by kernel_rfl)) rfl rfl rfl ?_)
      refine st rfl (o_y (v := .pointer (some ⟨b2, 1, none⟩)) (y_k rfl rfl (fun _ => by kernel_rfl)) rfl rfl rfl ?_)
      refine st rfl (o_ld 0 rfl rfl rfl Tryd.underlying42 rfl rfl ?_)
      refine st rfl (o_y (v := .bool true) (y_k rfl rfl (fun _ => by kernel_rfl)) rfl rfl rfl ?_)
      refine s_nil ?_
      refine q_then ?_
      refine c_true rfl ?_
      refine c_goto ?_
      refine q_then_goto ?_
      refine q_jt_goto ?_
      refine c_seq ?_
      refine c_skip ?_
      refine q_then ?_
      refine c_seq ?_
      refine c_region ?_
      refine st rfl (o_y (v := .pointer (some ⟨b2, 0, none⟩)) (y_mv rfl) rfl rfl rfl ?_)
      refine st rfl (o_call [0] [2] (end_err_ b2 A2 s.size s.data.toList) rfl rfl rfl rfl rfl rfl (fun v L' I' hq8 => ?_))
      obtain ⟨rfl, rfl, rfl⟩ := hq8
      refine st rfl (o_y (v := .string (⟨#[]⟩ : ByteArray)) (y_k rfl rfl (fun _ => by kernel_rfl)) rfl rfl rfl ?_)
      refine st rfl (o_y (v := .int .i64 90) (y_k rfl rfl (fun _ => by kernel_rfl)) rfl rfl rfl ?_)
      refine st rfl (o_y (v := .string (⟨#[]⟩ : ByteArray)) (y_as rfl) rfl rfl rfl ?_)
      refine st rfl (o_y (v := .int .i64 90) (y_as rfl) rfl rfl rfl ?_)
      refine s_nil ?_
      refine q_then ?_
      refine c_ret ?_
      refine q_nj_ret ?_
      have hp : readF s at_ n = ((⟨#[]⟩ : ByteArray), 90) := by first | (unfold readF; rw [if_pos (by omega)]; exact congrArg (fun x => (x, (0 : Int))) (read_eq (by omega))) | exact if_neg (by omega)
      refine c_fin (I' := []) [] [2] rfl (.tmp rfl (.tmp rfl .nil)) rfl rfl rfl ?_
      rw [hp]
      exact ⟨rfl, rfl, rfl⟩
    ·
      refine s_nil ?_
      refine q_then ?_
      refine c_seq ?_
      refine c_seq ?_
      refine c_region ?_
      refine st rfl (o_y (v := .pointer (some ⟨b2, 0, none⟩)) (y_mv rfl) rfl rfl rfl ?_)
      refine st rfl (o_y (v := .pointer (some ⟨b2, 0, none⟩)) (y_k rfl rfl (fun _ => by kernel_rfl)) rfl rfl rfl ?_)
      refine st rfl (o_y (v := .pointer (some ⟨b2, 1, none⟩)) (y_k rfl rfl (fun _ => by kernel_rfl)) rfl rfl rfl ?_)
      refine st rfl (o_ld 0 rfl rfl rfl Tryd.underlying42 rfl rfl ?_)
      refine st rfl (o_y (v := .bool true) (y_k rfl rfl (fun _ => by kernel_rfl)) rfl rfl rfl ?_)
      refine s_nil ?_
      refine q_then ?_
      refine c_true rfl ?_
      refine c_goto ?_
      refine q_then_goto ?_
      refine q_jt_goto ?_
      refine c_seq ?_
      refine c_skip ?_
      refine q_then ?_
      refine c_seq ?_
      refine c_region ?_
      refine st rfl (o_y (v := .pointer (some ⟨b2, 0, none⟩)) (y_mv rfl) rfl rfl rfl ?_)
      refine st rfl (o_call [0] [2] (end_err_ b2 A2 s.size s.data.toList) rfl rfl rfl rfl rfl rfl (fun v L' I' hq9 => ?_))
      obtain ⟨rfl, rfl, rfl⟩ := hq9
      refine st rfl (o_y (v := .string (⟨#[]⟩ : ByteArray)) (y_k rfl rfl (fun _ => by kernel_rfl)) rfl rfl rfl ?_)
      refine st rfl (o_y (v := .int .i64 90) (y_k rfl rfl (fun _ => by kernel_rfl)) rfl rfl rfl ?_)
      refine st rfl (o_y (v := .string (⟨#[]⟩ : ByteArray)) (y_as rfl) rfl rfl rfl ?_)
      refine st rfl (o_y (v := .int .i64 90) (y_as rfl) rfl rfl rfl ?_)
      refine s_nil ?_
      refine q_then ?_
      refine c_ret ?_
      refine q_nj_ret ?_
      have hp : readF s at_ n = ((⟨#[]⟩ : ByteArray), 90) := by first | (unfold readF; rw [if_pos (by omega)]; exact congrArg (fun x => (x, (0 : Int))) (read_eq (by omega))) | exact if_neg (by omega)
      refine c_fin (I' := []) [] [2] rfl (.tmp rfl (.tmp rfl .nil)) rfl rfl rfl ?_
      rw [hp]
      exact ⟨rfl, rfl, rfl⟩
theorem rRead_ (s : ByteArray) (hs : s.size ≤ 100000) (at_ : Int) (n : Int) : Con Tryd.prog 9 [.string s, .int .i64 at_, .int .i64 n] [] [] (fun v L' I' => v = .tuple #[.string ((readF s at_ n).1), .int .i64 ((readF s at_ n).2)] ∧ L' = [] ∧ I' = []) := by
  refine fn_of Tryd.func9 rfl Tryd.ntmps9 (by kernel_rfl) rfl (fun C => ?_)
  refine c_seq ?_
  refine c_region ?_
  refine st rfl (o_y (v := .string (⟨#[]⟩ : ByteArray)) (y_as rfl) rfl rfl rfl ?_)
  refine st rfl (o_y (v := .int .i64 0) (y_as rfl) rfl rfl rfl ?_)
  refine s_nil ?_
  refine q_then ?_
  refine c_seq ?_
  refine c_seq ?_
  refine c_region ?_
  refine st rfl (o_y (v := .string s) (y_mv rfl) rfl rfl rfl ?_)
  refine st rfl (o_y (v := .int .i64 (s.size : Int)) (y_k rfl rfl (fun _ => by kernel_rfl)) rfl rfl rfl ?_)
  refine e_by ((s.size : Int) > 1000) (fun h1 => ?_) (fun h1 => ?_)
  ·
    refine st rfl (o_y (v := .bool true) (y_t (y_k (v := .bool (decide ((s.size : Int) > 1000))) rfl rfl (fun _ => by kernel_rfl)) h1) rfl rfl rfl ?_)
    refine st rfl (o_y (v := .bool true) (y_mv rfl) rfl rfl rfl ?_)
    refine st_off 11 rfl rfl rfl rfl rfl rfl ?_
    refine st_off 11 rfl rfl rfl rfl rfl rfl ?_
    refine st rfl (o_y (v := .bool true) (y_pick rfl rfl) rfl rfl rfl ?_)
    refine st rfl (o_y (v := .bool true) (y_mv rfl) rfl rfl rfl ?_)
    refine st_off 15 rfl rfl rfl rfl rfl rfl ?_
    refine st_off 15 rfl rfl rfl rfl rfl rfl ?_
    refine st_off 15 rfl rfl rfl rfl rfl rfl ?_
    refine st_off 15 rfl rfl rfl rfl rfl rfl ?_
    refine st rfl (o_y (v := .bool true) (y_pick rfl rfl) rfl rfl rfl ?_)
    refine st rfl (o_y (v := .bool true) (y_mv rfl) rfl rfl rfl ?_)
    refine st_off 21 rfl rfl rfl rfl rfl rfl ?_
    refine st_off 21 rfl rfl rfl rfl rfl rfl ?_
    refine st rfl (o_y (v := .bool true) (y_pick rfl rfl) rfl rfl rfl ?_)
    refine s_nil ?_
    refine q_then ?_
    refine c_true rfl ?_
    refine c_seq ?_
    refine c_region ?_
    refine st rfl (o_y (v := .string (⟨#[]⟩ : ByteArray)) (y_as rfl) rfl rfl rfl ?_)
    refine st rfl (o_y (v := .int .i64 90) (y_as rfl) rfl rfl rfl ?_)
    refine s_nil ?_
    refine q_then ?_
    refine c_ret ?_
    refine q_then_ret ?_
    have hp : readF s at_ n = ((⟨#[]⟩ : ByteArray), 90) := by first | exact if_pos (by omega) | exact if_neg (by omega)
    refine c_fin (I' := []) [] [] rfl (.tmp rfl (.tmp rfl .nil)) rfl rfl rfl ?_
    rw [hp]
    exact ⟨rfl, rfl, rfl⟩
  ·
    refine st rfl (o_y (v := .bool false) (y_f (y_k (v := .bool (decide ((s.size : Int) > 1000))) rfl rfl (fun _ => by kernel_rfl)) h1) rfl rfl rfl ?_)
    refine st rfl (o_y (v := .bool false) (y_mv rfl) rfl rfl rfl ?_)
    refine st_on 11 rfl rfl rfl (o_y (v := .int .i64 at_) (y_mv rfl) rfl rfl rfl ?_)
    refine e_by (at_ < 0) (fun h2 => ?_) (fun h2 => ?_)
    ·
      refine st_on 11 rfl rfl rfl (o_y (v := .bool true) (y_t (y_k (v := .bool (decide (at_ < 0))) rfl rfl (fun _ => by kernel_rfl)) h2) rfl rfl rfl ?_)
      refine st rfl (o_y (v := .bool true) (y_pick rfl rfl) rfl rfl rfl ?_)
      refine st rfl (o_y (v := .bool true) (y_mv rfl) rfl rfl rfl ?_)
      refine st_off 15 rfl rfl rfl rfl rfl rfl ?_
      refine st_off 15 rfl rfl rfl rfl rfl rfl ?_
      refine st_off 15 rfl rfl rfl rfl rfl rfl ?_
      refine st_off 15 rfl rfl rfl rfl rfl rfl ?_
      refine st rfl (o_y (v := .bool true) (y_pick rfl rfl) rfl rfl rfl ?_)
      refine st rfl (o_y (v := .bool true) (y_mv rfl) rfl rfl rfl ?_)
      refine st_off 21 rfl rfl rfl rfl rfl rfl ?_
      refine st_off 21 rfl rfl rfl rfl rfl rfl ?_
      refine st rfl (o_y (v := .bool true) (y_pick rfl rfl) rfl rfl rfl ?_)
      refine s_nil ?_
      refine q_then ?_
      refine c_true rfl ?_
      refine c_seq ?_
      refine c_region ?_
      refine st rfl (o_y (v := .string (⟨#[]⟩ : ByteArray)) (y_as rfl) rfl rfl rfl ?_)
      refine st rfl (o_y (v := .int .i64 90) (y_as rfl) rfl rfl rfl ?_)
      refine s_nil ?_
      refine q_then ?_
      refine c_ret ?_
      refine q_then_ret ?_
      have hp : readF s at_ n = ((⟨#[]⟩ : ByteArray), 90) := by first | exact if_pos (by omega) | exact if_neg (by omega)
      refine c_fin (I' := []) [] [] rfl (.tmp rfl (.tmp rfl .nil)) rfl rfl rfl ?_
      rw [hp]
      exact ⟨rfl, rfl, rfl⟩
    ·
      refine st_on 11 rfl rfl rfl (o_y (v := .bool false) (y_f (y_k (v := .bool (decide (at_ < 0))) rfl rfl (fun _ => by kernel_rfl)) h2) rfl rfl rfl ?_)
      refine st rfl (o_y (v := .bool false) (y_pick rfl rfl) rfl rfl rfl ?_)
      refine st rfl (o_y (v := .bool false) (y_mv rfl) rfl rfl rfl ?_)
      refine st_on 15 rfl rfl rfl (o_y (v := .int .i64 at_) (y_mv rfl) rfl rfl rfl ?_)
      refine st_on 15 rfl rfl rfl (o_y (v := .string s) (y_mv rfl) rfl rfl rfl ?_)
      refine st_on 15 rfl rfl rfl (o_y (v := .int .i64 (s.size : Int)) (y_k rfl rfl (fun _ => by kernel_rfl)) rfl rfl rfl ?_)
      refine e_by (at_ > (s.size : Int)) (fun h3 => ?_) (fun h3 => ?_)
      ·
        refine st_on 15 rfl rfl rfl (o_y (v := .bool true) (y_t (y_k (v := .bool (decide (at_ > (s.size : Int)))) rfl rfl (fun _ => by kernel_rfl)) h3) rfl rfl rfl ?_)
        refine st rfl (o_y (v := .bool true) (y_pick rfl rfl) rfl rfl rfl ?_)
        refine st rfl (o_y (v := .bool true) (y_mv rfl) rfl rfl rfl ?_)
        refine st_off 21 rfl rfl rfl rfl rfl rfl ?_
        refine st_off 21 rfl rfl rfl rfl rfl rfl ?_
        refine st rfl (o_y (v := .bool true) (y_pick rfl rfl) rfl rfl rfl ?_)
        refine s_nil ?_
        refine q_then ?_
        refine c_true rfl ?_
        refine c_seq ?_
        refine c_region ?_
        refine st rfl (o_y (v := .string (⟨#[]⟩ : ByteArray)) (y_as rfl) rfl rfl rfl ?_)
        refine st rfl (o_y (v := .int .i64 90) (y_as rfl) rfl rfl rfl ?_)
        refine s_nil ?_
        refine q_then ?_
        refine c_ret ?_
        refine q_then_ret ?_
        have hp : readF s at_ n = ((⟨#[]⟩ : ByteArray), 90) := by first | exact if_pos (by omega) | exact if_neg (by omega)
        refine c_fin (I' := []) [] [] rfl (.tmp rfl (.tmp rfl .nil)) rfl rfl rfl ?_
        rw [hp]
        exact ⟨rfl, rfl, rfl⟩
      ·
        refine st_on 15 rfl rfl rfl (o_y (v := .bool false) (y_f (y_k (v := .bool (decide (at_ > (s.size : Int)))) rfl rfl (fun _ => by kernel_rfl)) h3) rfl rfl rfl ?_)
        refine st rfl (o_y (v := .bool false) (y_pick rfl rfl) rfl rfl rfl ?_)
        refine st rfl (o_y (v := .bool false) (y_mv rfl) rfl rfl rfl ?_)
        refine st_on 21 rfl rfl rfl (o_y (v := .int .i64 n) (y_mv rfl) rfl rfl rfl ?_)
        refine e_by (n < 0) (fun h4 => ?_) (fun h4 => ?_)
        ·
          refine st_on 21 rfl rfl rfl (o_y (v := .bool true) (y_t (y_k (v := .bool (decide (n < 0))) rfl rfl (fun _ => by kernel_rfl)) h4) rfl rfl rfl ?_)
          refine st rfl (o_y (v := .bool true) (y_pick rfl rfl) rfl rfl rfl ?_)
          refine s_nil ?_
          refine q_then ?_
          refine c_true rfl ?_
          refine c_seq ?_
          refine c_region ?_
          refine st rfl (o_y (v := .string (⟨#[]⟩ : ByteArray)) (y_as rfl) rfl rfl rfl ?_)
          refine st rfl (o_y (v := .int .i64 90) (y_as rfl) rfl rfl rfl ?_)
          refine s_nil ?_
          refine q_then ?_
          refine c_ret ?_
          refine q_then_ret ?_
          have hp : readF s at_ n = ((⟨#[]⟩ : ByteArray), 90) := by first | exact if_pos (by omega) | exact if_neg (by omega)
          refine c_fin (I' := []) [] [] rfl (.tmp rfl (.tmp rfl .nil)) rfl rfl rfl ?_
          rw [hp]
          exact ⟨rfl, rfl, rfl⟩
        ·
          refine st_on 21 rfl rfl rfl (o_y (v := .bool false) (y_f (y_k (v := .bool (decide (n < 0))) rfl rfl (fun _ => by kernel_rfl)) h4) rfl rfl rfl ?_)
          refine st rfl (o_y (v := .bool false) (y_pick rfl rfl) rfl rfl rfl ?_)
          refine s_nil ?_
          refine q_then ?_
          refine c_false rfl ?_
          refine c_skip ?_
          refine q_then ?_
          refine c_seq ?_
          refine c_region ?_
          refine st rfl (o_y (v := .string s) (y_mv rfl) rfl rfl rfl ?_)
          refine st rfl (o_y (v := .int .i64 at_) (y_mv rfl) rfl rfl rfl ?_)
          refine st rfl (o_y (v := .int .i64 at_) (y_mv rfl) rfl rfl rfl ?_)
          refine st rfl (o_y (v := .int .i64 n) (y_mv rfl) rfl rfl rfl ?_)
          refine st rfl (o_y (v := .string s) (y_mv rfl) rfl rfl rfl ?_)
          refine st rfl (o_y (v := .int .i64 (s.size : Int)) (y_k rfl rfl (fun _ => by kernel_rfl)) rfl rfl rfl ?_)
          refine st rfl (o_y (v := .int .i64 at_) (y_mv rfl) rfl rfl rfl ?_)
          refine st rfl (o_y (v := .int .i64 ((s.size : Int) - at_)) (y_sub (r := (s.size : Int) - at_) rfl rfl rfl (by omega)) rfl rfl rfl ?_)
          refine st rfl (o_y (v := .int .i64 (min n ((s.size : Int) - at_))) (y_mini (p := n) (q := (s.size : Int) - at_) rfl rfl) rfl rfl rfl ?_)
          refine st rfl (o_y (v := .int .i64 (at_ + (min n ((s.size : Int) - at_)))) (y_add (r := at_ + (min n ((s.size : Int) - at_))) rfl rfl rfl (by omega)) rfl rfl rfl ?_)
          refine st rfl (o_y (v := .string (s.extract ((at_).toNat) ((at_ + (min n ((s.size : Int) - at_))).toNat))) (y_cuts ((at_).toNat) ((at_ + (min n ((s.size : Int) - at_))).toNat) rfl (.at ((at_).toNat) rfl (by omega)) (.at ((at_ + (min n ((s.size : Int) - at_))).toNat) rfl (by omega)) Tryd.underlying9 (by omega) (by omega)) rfl rfl rfl ?_)
          refine st rfl (o_y (v := .string (s.extract ((at_).toNat) ((at_ + (min n ((s.size : Int) - at_))).toNat))) (y_as rfl) rfl rfl rfl ?_)
          refine st rfl (o_y (v := .int .i64 0) (y_as rfl) rfl rfl rfl ?_)
          refine s_nil ?_
          refine q_then ?_
          refine c_ret ?_
          have hp : readF s at_ n = (s.extract ((at_).toNat) ((at_ + (min n ((s.size : Int) - at_))).toNat), 0) := by first | exact if_pos (by omega) | exact if_neg (by omega)
          refine c_fin (I' := []) [] [] rfl (.tmp rfl (.tmp rfl .nil)) rfl rfl rfl ?_
          rw [hp]
          exact ⟨rfl, rfl, rfl⟩
theorem Cut_ (s : ByteArray) (hs : s.size ≤ 100000) (n : Int) : Con Tryd.prog 12 [.string s, .int .i64 n] [] [cellsAt 0 0 [.iface 70 (.agg #[.pointer (some ⟨1, 42, none⟩)])]] (fun v L' I' => v = .tuple #[.string ((cutF s n).1), .int .i64 ((cutF s n).2)] ∧ L' = [] ∧ I' = []) := by
  have hlb := len_bytes s
  refine fn_of Tryd.func12 rfl Tryd.ntmps12 (by kernel_rfl) rfl (fun C => ?_)
  refine c_seq ?_
  refine c_region ?_
  refine st rfl (o_y (v := .string (⟨#[]⟩ : ByteArray)) (y_as rfl) rfl rfl rfl ?_)
  refine st rfl (o_y (v := .int .i64 0) (y_as rfl) rfl rfl rfl ?_)
  refine s_nil ?_
  refine q_then ?_
  refine c_scope 0 rfl ?_
  refine c_seq ?_
  refine c_region ?_
  refine st rfl (o_y (v := .string s) (y_mv rfl) rfl rfl rfl ?_)
  refine st rfl (o_call [] [] (open_ s (by first | omega | decide | assumption)) rfl rfl rfl rfl rfl rfl (fun v L' I' hq1 => ?_))
  rcases hq1 with ⟨b1, A1, h1, rfl, rfl, rfl⟩ | ⟨b2, A2, h2, rfl, rfl, rfl⟩
  ·
    refine st rfl (o_y (v := .pointer (some ⟨b1, 0, none⟩)) (y_as rfl) rfl rfl rfl ?_)
    refine s_nil ?_
    refine q_then ?_
    refine c_seq ?_
    refine c_region ?_
    refine st rfl (o_y (v := .pointer (some ⟨b1, 0, none⟩)) (y_mv rfl) rfl rfl rfl ?_)
    refine st rfl (o_y (v := .int .i64 n) (y_mv rfl) rfl rfl rfl ?_)
    refine st rfl (o_y (v := .bool (decide (n ≥ 0))) (y_k rfl rfl (fun _ => by kernel_rfl)) rfl rfl rfl ?_)
    refine st rfl (o_y (v := .int .i64 n) (y_mv rfl) rfl rfl rfl ?_)
    refine st rfl (o_y (v := .bool (decide (n ≤ 1000))) (y_k rfl rfl (fun _ => by kernel_rfl)) rfl rfl rfl ?_)
    refine st rfl (o_lit (cs := [.bool (decide (n ≥ 0)), .bool (decide (n ≤ 1000))]) (T := 4) (m := 2) rfl rfl rfl rfl (fun _ => by kernel_rfl) (fun b3 => ?_))
    refine e_calm 0 rfl ?_
    refine e_lit boolTy [decide (n ≥ 0), decide (n ≤ 1000)] 0 rfl rfl (by simp) ?_
    refine st rfl (o_call [0] [0] (must2_ b1 A1 s.size s.data.toList (.nilIface : Value) (some ⟨b3, 0, none⟩) 2 (n ≥ 0) (n ≤ 1000)) rfl rfl rfl rfl rfl rfl (fun v L' I' hq2 => ?_))
    rcases hq2 with ⟨h3, rfl, rfl, rfl⟩ | ⟨h4, rfl, rfl, rfl⟩
    ·
      refine s_nil ?_
      refine q_then ?_
      refine c_seq ?_
      refine c_seq ?_
      refine c_region ?_
      refine st rfl (o_y (v := .pointer (some ⟨b1, 0, none⟩)) (y_mv rfl) rfl rfl rfl ?_)
      refine st rfl (o_y (v := .pointer (some ⟨b1, 0, none⟩)) (y_k rfl rfl (fun _ => by kernel_rfl)) rfl rfl rfl ?_)
      refine st rfl (o_y (v := .pointer (some ⟨b1, 1, none⟩)) (y_k rfl rfl (fun _ => by kernel_rfl)) rfl rfl rfl ?_)
      refine st rfl (o_ld 0 rfl rfl rfl Tryd.underlying42 rfl rfl ?_)
      refine st rfl (o_y (v := .bool false) (y_k rfl rfl (fun _ => by kernel_rfl)) rfl rfl rfl ?_)
      refine s_nil ?_
      refine q_then ?_
      refine c_false rfl ?_
      refine c_skip ?_
      refine q_then ?_
      refine c_seq ?_
      refine c_draw (l := ticked 27 0) [(⟨b1, 0, none⟩, .slice A1 s.data.toList.length s.size)] [26] (by kernel_rfl) rfl rfl ?_
      refine a_y (i := 0) (v := .pointer (some ⟨b1, 0, none⟩)) (ticked 27 1) rfl (by as_aux_lemma => kernel_rfl) rfl rfl rfl (by exact y_mv rfl) ?_
      refine a_y (i := 1) (v := .pointer (some ⟨b1, 0, none⟩)) (ticked 27 3) rfl (by as_aux_lemma => kernel_rfl) rfl rfl rfl (by exact y_mv rfl) ?_
      refine a_y (i := 2) (v := .pointer (some ⟨b1, 0, none⟩)) (ticked 27 7) rfl (by as_aux_lemma => kernel_rfl) rfl rfl rfl (by exact y_k rfl rfl (fun _ => by kernel_rfl)) ?_
      refine a_y (i := 3) (v := .pointer (some ⟨b1, 0, none⟩)) (ticked 27 15) rfl (by as_aux_lemma => kernel_rfl) rfl rfl rfl (by exact y_k rfl rfl (fun _ => by kernel_rfl)) ?_
      refine a_y (i := 4) (v := .pointer (some ⟨b1, 0, none⟩)) (ticked 27 31) rfl (by as_aux_lemma => kernel_rfl) rfl rfl rfl (by exact y_k rfl rfl (fun _ => by kernel_rfl)) ?_
      refine a_y (i := 6) (v := .int .i64 n) (ticked 27 95) rfl (by as_aux_lemma => kernel_rfl) rfl rfl rfl (by exact y_mv rfl) ?_
      refine a_y (i := 7) (v := .pointer (some ⟨b1, 0, none⟩)) (ticked 27 223) rfl (by as_aux_lemma => kernel_rfl) rfl rfl rfl (by exact y_mv rfl) ?_
      refine a_y (i := 8) (v := .pointer (some ⟨b1, 0, none⟩)) (ticked 27 479) rfl (by as_aux_lemma => kernel_rfl) rfl rfl rfl (by exact y_k rfl rfl (fun _ => by kernel_rfl)) ?_
      refine a_y (i := 9) (v := .pointer (some ⟨b1, 0, none⟩)) (ticked 27 991) rfl (by as_aux_lemma => kernel_rfl) rfl rfl rfl (by exact y_k rfl rfl (fun _ => by kernel_rfl)) ?_
      refine a_y (i := 10) (v := .pointer (some ⟨b1, 0, none⟩)) (ticked 27 2015) rfl (by as_aux_lemma => kernel_rfl) rfl rfl rfl (by exact y_k rfl rfl (fun _ => by kernel_rfl)) ?_
      refine a_y (i := 15) (v := .int .i64 n) (ticked 27 34783) rfl (by as_aux_lemma => kernel_rfl) rfl rfl rfl (by exact y_mv rfl) ?_
      refine a_y (i := 16) (v := .pointer (some ⟨b1, 0, none⟩)) (ticked 27 100319) rfl (by as_aux_lemma => kernel_rfl) rfl rfl rfl (by exact y_mv rfl) ?_
      refine a_y (i := 17) (v := .pointer (some ⟨b1, 0, none⟩)) (ticked 27 231391) rfl (by as_aux_lemma => kernel_rfl) rfl rfl rfl (by exact y_k rfl rfl (fun _ => by kernel_rfl)) ?_
      refine a_y (i := 18) (v := .pointer (some ⟨b1, 0, none⟩)) (ticked 27 493535) rfl (by as_aux_lemma => kernel_rfl) rfl rfl rfl (by exact y_k rfl rfl (fun _ => by kernel_rfl)) ?_
      refine a_y (i := 19) (v := .pointer (some ⟨b1, 0, none⟩)) (ticked 27 1017823) rfl (by as_aux_lemma => kernel_rfl) rfl rfl rfl (by exact y_k rfl rfl (fun _ => by kernel_rfl)) ?_
      refine a_held (i := 5) (ticked 27 1017855) rfl (by as_aux_lemma => kernel_rfl) rfl rfl rfl (held_pt 0 rfl rfl held_nil) (h_ld 0 rfl rfl Tryd.underlying38 rfl) ?_
      refine a_held (i := 11) (ticked 27 1019903) rfl (by as_aux_lemma => kernel_rfl) rfl rfl rfl (held_pt 0 rfl rfl held_nil) (h_ld 0 rfl rfl Tryd.underlying38 rfl) ?_
      refine a_y (i := 12) (v := .int .i64 (s.data.toList.length : Int)) (ticked 27 1023999) rfl (by as_aux_lemma => kernel_rfl) rfl rfl rfl (by exact y_k rfl rfl (fun _ => by kernel_rfl)) ?_
      refine a_y (i := 13) (v := .int .i64 (min n (s.data.toList.length : Int))) (ticked 27 1032191) rfl (by as_aux_lemma => kernel_rfl) rfl rfl rfl (by exact y_mini (p := n) (q := (s.data.toList.length : Int)) rfl rfl) ?_
      refine e_still 1 rfl ?_
      refine e_len 0 rfl (fun h5 h6 => ?_)
      refine e_cut2 (l2 := s.data.toList.take ((min n (s.data.toList.length : Int)).toNat)) 0 0 ((min n (s.data.toList.length : Int)).toNat) s.size (by simp) rfl (by omega) (by omega) (by omega) ?_
      refine a_y (i := 14) (v := .slice (cutA u8Ty A1 0 s.size) (s.data.toList.take ((min n (s.data.toList.length : Int)).toNat)).length (s.size - 0)) (ticked 27 1048575) rfl (by as_aux_lemma => kernel_rfl) rfl rfl rfl (by exact y_cut (d := u8Ty) (l := s.data.toList) (l2 := s.data.toList.take ((min n (s.data.toList.length : Int)).toNat)) 0 ((min n (s.data.toList.length : Int)).toNat) s.size (by simp) rfl rfl .no (.at ((min n (s.data.toList.length : Int)).toNat) rfl (by omega)) .no (by simp) Tryd.underlying38 (by kernel_rfl) (by kernel_rfl) (by omega) (by omega) (by omega) (by omega)) ?_
      refine a_held (i := 20) (ticked 27 2097151) rfl (by as_aux_lemma => kernel_rfl) rfl rfl rfl (held_pt 0 rfl rfl held_nil) (h_ld 0 rfl rfl Tryd.underlying38 rfl) ?_
      refine a_y (i := 21) (v := .int .i64 (s.data.toList.length : Int)) (ticked 27 4194303) rfl (by as_aux_lemma => kernel_rfl) rfl rfl rfl (by exact y_k rfl rfl (fun _ => by kernel_rfl)) ?_
      refine a_y (i := 22) (v := .int .i64 (n - (s.data.toList.length : Int))) (ticked 27 8388607) rfl (by as_aux_lemma => kernel_rfl) rfl rfl rfl (by exact y_sub (r := n - (s.data.toList.length : Int)) rfl rfl rfl (by omega)) ?_
      refine a_y (i := 23) (v := .int .i64 (max 0 (n - (s.data.toList.length : Int)))) (ticked 27 16777215) rfl (by as_aux_lemma => kernel_rfl) rfl rfl rfl (by exact y_maxi (p := 0) (q := n - (s.data.toList.length : Int)) rfl rfl) ?_
      refine a_each (rs := [24]) (by as_aux_lemma => kernel_rfl) (.cons (ticked 27 33554431) rfl rfl rfl (o_make (d := u8Ty) (zv := .int .u8 0) (bytes := 1) ((max 0 (n - (s.data.toList.length : Int))).toNat) (0 : UInt8) rfl rfl (by omega) Tryd.underlying38 (by kernel_rfl) rfl rfl rfl (by omega) (by simp only [maxLen]; omega) rfl (fun A3 => ?_)) .nil) (List.cons_ne_nil _ _)
      refine a_and (held_pt 1 rfl rfl held_nil) ?_
      refine a_each (rs := [25]) (by as_aux_lemma => kernel_rfl) (.cons (ticked 27 67108863) rfl rfl rfl (o_lit (cs := [.slice (cutA u8Ty A1 0 s.size) (s.data.toList.take ((min n (s.data.toList.length : Int)).toNat)).length (s.size - 0), .slice A3 (List.replicate ((max 0 (n - (s.data.toList.length : Int))).toNat) (0 : UInt8)).length ((max 0 (n - (s.data.toList.length : Int))).toNat)]) (T := 38) (m := 2) rfl rfl rfl rfl (fun _ => by kernel_rfl) (fun b4 => ?_)) .nil) (List.cons_ne_nil _ _)
      refine a_and (held_pt 2 rfl rfl held_nil) ?_
      refine e_mk0 ?_
      refine e_still 1 rfl ?_
      refine e_mk1 0 1 rfl rfl ?_
      refine e_mk1 3 0 rfl rfl ?_
      refine e_calm 0 rfl ?_
      refine e_lit partTy [(⟨cutA u8Ty A1 0 s.size, s.size - 0, s.data.toList.take ((min n (s.data.toList.length : Int)).toNat)⟩ : Part), (⟨A3, (max 0 (n - (s.data.toList.length : Int))).toNat, List.replicate ((max 0 (n - (s.data.toList.length : Int))).toNat) (0 : UInt8)⟩ : Part)] 0 rfl rfl (by simp) ?_
      refine a_each (rs := [26]) (by as_aux_lemma => kernel_rfl) (.last (ticked 27 134217727) rfl rfl rfl rfl (o_call [0] [0, 2] (set_ b1 A1 s.size s.data.toList (some ⟨b4, 0, none⟩) 2 [(⟨cutA u8Ty A1 0 s.size, s.size - 0, s.data.toList.take ((min n (s.data.toList.length : Int)).toNat)⟩ : Part), (⟨A3, (max 0 (n - (s.data.toList.length : Int))).toNat, List.replicate ((max 0 (n - (s.data.toList.length : Int))).toNat) (0 : UInt8)⟩ : Part)] (by first | assumption | omega | (rw [spl_sum (by omega) (by omega), len_bytes]; omega) | (simp [sumL]; omega)) (by first | assumption | omega | (simp; done))) rfl rfl rfl rfl rfl rfl (fun v L' I' hq3 => ?_)) .nil) (List.cons_ne_nil _ _)
      rcases hq3 with ⟨A4, c1, h7, rfl, rfl, rfl⟩ | ⟨A5, c2, l1, h8, rfl, rfl, rfl⟩
      ·
        refine a_done (by as_aux_lemma => kernel_rfl) ?_
        refine q_then ?_
        refine c_seq ?_
        refine c_label ?_
        refine q_then ?_
        refine c_seq ?_
        refine c_region ?_
        refine st rfl (o_y (v := .pointer (some ⟨b1, 0, none⟩)) (y_mv rfl) rfl rfl rfl ?_)
        refine st rfl (o_lend [1] [0] [] (end_ok_ b1 A4 c1 (catL [(⟨cutA u8Ty A1 0 s.size, s.size - 0, s.data.toList.take ((min n (s.data.toList.length : Int)).toNat)⟩ : Part), (⟨A3, (max 0 (n - (s.data.toList.length : Int))).toNat, List.replicate ((max 0 (n - (s.data.toList.length : Int))).toNat) (0 : UInt8)⟩ : Part)])) (.cons lend_ars .nil) rfl rfl rfl rfl rfl rfl rfl rfl (fun v L' I' hq4 => ?_))
        obtain ⟨rfl, rfl, rfl⟩ := hq4
        refine ⟨rfl, ?_⟩
        refine st rfl (o_y (v := .string (⟨List.toArray (catL [(⟨cutA u8Ty A1 0 s.size, s.size - 0, s.data.toList.take ((min n (s.data.toList.length : Int)).toNat)⟩ : Part), (⟨A3, (max 0 (n - (s.data.toList.length : Int))).toNat, List.replicate ((max 0 (n - (s.data.toList.length : Int))).toNat) (0 : UInt8)⟩ : Part)])⟩ : ByteArray)) (y_k rfl rfl (fun _ => by kernel_rfl)) rfl rfl rfl ?_)
        refine st rfl (o_y (v := .int .i64 0) (y_k rfl rfl (fun _ => by kernel_rfl)) rfl rfl rfl ?_)
        refine st rfl (o_y (v := .string (⟨List.toArray (catL [(⟨cutA u8Ty A1 0 s.size, s.size - 0, s.data.toList.take ((min n (s.data.toList.length : Int)).toNat)⟩ : Part), (⟨A3, (max 0 (n - (s.data.toList.length : Int))).toNat, List.replicate ((max 0 (n - (s.data.toList.length : Int))).toNat) (0 : UInt8)⟩ : Part)])⟩ : ByteArray)) (y_as rfl) rfl rfl rfl ?_)
        refine st rfl (o_y (v := .int .i64 0) (y_as rfl) rfl rfl rfl ?_)
        refine s_nil ?_
        refine q_then ?_
        refine c_ret ?_
        refine q_jt_ret ?_
        have hp : cutF s n = ((⟨List.toArray (catL [(⟨cutA u8Ty A1 0 s.size, s.size - 0, s.data.toList.take ((min n (s.data.toList.length : Int)).toNat)⟩ : Part), (⟨A3, (max 0 (n - (s.data.toList.length : Int))).toNat, List.replicate ((max 0 (n - (s.data.toList.length : Int))).toNat) (0 : UInt8)⟩ : Part)])⟩ : ByteArray), 0) := by first | (unfold cutF; rw [if_pos (by omega)]; rw [cut_cat]; exact congrArg (fun x => (x, (0 : Int))) (cut_eq (by omega) (by omega))) | exact if_neg (by omega) | (exfalso; have q := (by assumption : ¬ sumL [_, _] ≤ 1000); rw [cut_sum (by omega), List.length_replicate] at q; omega)
        refine c_fin (I' := []) [] [10] rfl (.tmp rfl (.tmp rfl .nil)) rfl rfl rfl ?_
        rw [hp]
        exact ⟨rfl, rfl, rfl⟩
      ·
        refine a_done (by as_aux_lemma => kernel_rfl) ?_
        refine q_then ?_
        refine c_seq ?_
        refine c_label ?_
        refine q_then ?_
        refine c_seq ?_
        refine c_region ?_
        refine st rfl (o_y (v := .pointer (some ⟨b1, 0, none⟩)) (y_mv rfl) rfl rfl rfl ?_)
        refine st rfl (o_call [0] [10] (end_err_ b1 A5 c2 l1) rfl rfl rfl rfl rfl rfl (fun v L' I' hq5 => ?_))
        obtain ⟨rfl, rfl, rfl⟩ := hq5
        refine st rfl (o_y (v := .string (⟨#[]⟩ : ByteArray)) (y_k rfl rfl (fun _ => by kernel_rfl)) rfl rfl rfl ?_)
        refine st rfl (o_y (v := .int .i64 90) (y_k rfl rfl (fun _ => by kernel_rfl)) rfl rfl rfl ?_)
        refine st rfl (o_y (v := .string (⟨#[]⟩ : ByteArray)) (y_as rfl) rfl rfl rfl ?_)
        refine st rfl (o_y (v := .int .i64 90) (y_as rfl) rfl rfl rfl ?_)
        refine s_nil ?_
        refine q_then ?_
        refine c_ret ?_
        refine q_jt_ret ?_
        have hp : cutF s n = ((⟨#[]⟩ : ByteArray), 90) := by first | (unfold cutF; rw [if_pos (by omega)]; rw [cut_cat]; exact congrArg (fun x => (x, (0 : Int))) (cut_eq (by omega) (by omega))) | exact if_neg (by omega) | (exfalso; have q := (by assumption : ¬ sumL [_, _] ≤ 1000); rw [cut_sum (by omega), List.length_replicate] at q; omega)
        refine c_fin (I' := []) [] [10] rfl (.tmp rfl (.tmp rfl .nil)) rfl rfl rfl ?_
        rw [hp]
        exact ⟨rfl, rfl, rfl⟩
    ·
      refine s_nil ?_
      refine q_then ?_
      refine c_seq ?_
      refine c_seq ?_
      refine c_region ?_
      refine st rfl (o_y (v := .pointer (some ⟨b1, 0, none⟩)) (y_mv rfl) rfl rfl rfl ?_)
      refine st rfl (o_y (v := .pointer (some ⟨b1, 0, none⟩)) (y_k rfl rfl (fun _ => by kernel_rfl)) rfl rfl rfl ?_)
      refine st rfl (o_y (v := .pointer (some ⟨b1, 1, none⟩)) (y_k rfl rfl (fun _ => by kernel_rfl)) rfl rfl rfl ?_)
      refine st rfl (o_ld 0 rfl rfl rfl Tryd.underlying42 rfl rfl ?_)
      refine st rfl (o_y (v := .bool true) (y_k rfl rfl (fun _ => by kernel_rfl)) rfl rfl rfl ?_)
      refine s_nil ?_
      refine q_then ?_
      refine c_true rfl ?_
      refine c_goto ?_
      refine q_then_goto ?_
      refine q_jt_goto ?_
      refine c_seq ?_
      refine c_skip ?_
      refine q_then ?_
      refine c_seq ?_
      refine c_region ?_
      refine st rfl (o_y (v := .pointer (some ⟨b1, 0, none⟩)) (y_mv rfl) rfl rfl rfl ?_)
      refine st rfl (o_call [0] [2] (end_err_ b1 A1 s.size s.data.toList) rfl rfl rfl rfl rfl rfl (fun v L' I' hq6 => ?_))
      obtain ⟨rfl, rfl, rfl⟩ := hq6
      refine st rfl (o_y (v := .string (⟨#[]⟩ : ByteArray)) (y_k rfl rfl (fun _ => by kernel_rfl)) rfl rfl rfl ?_)
      refine st rfl (o_y (v := .int .i64 90) (y_k rfl rfl (fun _ => by kernel_rfl)) rfl rfl rfl ?_)
      refine st rfl (o_y (v := .string (⟨#[]⟩ : ByteArray)) (y_as rfl) rfl rfl rfl ?_)
      refine st rfl (o_y (v := .int .i64 90) (y_as rfl) rfl rfl rfl ?_)
      refine s_nil ?_
      refine q_then ?_
      refine c_ret ?_
      refine q_nj_ret ?_
      have hp : cutF s n = ((⟨#[]⟩ : ByteArray), 90) := by first | (unfold cutF; rw [if_pos (by omega)]; rw [cut_cat]; exact congrArg (fun x => (x, (0 : Int))) (cut_eq (by omega) (by omega))) | exact if_neg (by omega) | (exfalso; have q := (by assumption : ¬ sumL [_, _] ≤ 1000); rw [cut_sum (by omega), List.length_replicate] at q; omega)
      refine c_fin (I' := []) [] [2] rfl (.tmp rfl (.tmp rfl .nil)) rfl rfl rfl ?_
      rw [hp]
      exact ⟨rfl, rfl, rfl⟩
  ·
    refine st rfl (o_y (v := .pointer (some ⟨b2, 0, none⟩)) (y_as rfl) rfl rfl rfl ?_)
    refine s_nil ?_
    refine q_then ?_
    refine c_seq ?_
    refine c_region ?_
    refine st rfl (o_y (v := .pointer (some ⟨b2, 0, none⟩)) (y_mv rfl) rfl rfl rfl ?_)
    refine st rfl (o_y (v := .int .i64 n) (y_mv rfl) rfl rfl rfl ?_)
    refine st rfl (o_y (v := .bool (decide (n ≥ 0))) (y_k rfl rfl (fun _ => by kernel_rfl)) rfl rfl rfl ?_)
    refine st rfl (o_y (v := .int .i64 n) (y_mv rfl) rfl rfl rfl ?_)
    refine st rfl (o_y (v := .bool (decide (n ≤ 1000))) (y_k rfl rfl (fun _ => by kernel_rfl)) rfl rfl rfl ?_)
    refine st rfl (o_lit (cs := [.bool (decide (n ≥ 0)), .bool (decide (n ≤ 1000))]) (T := 4) (m := 2) rfl rfl rfl rfl (fun _ => by kernel_rfl) (fun b5 => ?_))
    refine e_calm 0 rfl ?_
    refine e_lit boolTy [decide (n ≥ 0), decide (n ≤ 1000)] 0 rfl rfl (by simp) ?_
    refine st rfl (o_call [0] [0] (must2_ b2 A2 s.size s.data.toList (.iface 49 (.agg #[]) : Value) (some ⟨b5, 0, none⟩) 2 (n ≥ 0) (n ≤ 1000)) rfl rfl rfl rfl rfl rfl (fun v L' I' hq7 => ?_))
    rcases hq7 with ⟨h9, rfl, rfl, rfl⟩ | ⟨h10, rfl, rfl, rfl⟩
    ·
      refine s_nil ?_
      refine q_then ?_
      refine c_seq ?_
      refine c_seq ?_
      refine c_region ?_
      refine st rfl (o_y (v := .pointer (some ⟨b2, 0, none⟩)) (y_mv rfl) rfl rfl rfl ?_)
      refine st rfl (o_y (v := .pointer (some ⟨b2, 0, none⟩)) (y_k rfl rfl (fun _ => by kernel_rfl)) rfl rfl rfl ?_)
      refine st rfl (o_y (v := .pointer (some ⟨b2, 1, none⟩)) (y_k rfl rfl (fun _ => by kernel_rfl)) rfl rfl rfl ?_)
      refine st rfl (o_ld 0 rfl rfl rfl Tryd.underlying42 rfl rfl ?_)
      refine st rfl (o_y (v := .bool true) (y_k rfl rfl (fun _ => by kernel_rfl)) rfl rfl rfl ?_)
      refine s_nil ?_
      refine q_then ?_
      refine c_true rfl ?_
      refine c_goto ?_
      refine q_then_goto ?_
      refine q_jt_goto ?_
      refine c_seq ?_
      refine c_skip ?_
      refine q_then ?_
      refine c_seq ?_
      refine c_region ?_
      refine st rfl (o_y (v := .pointer (some ⟨b2, 0, none⟩)) (y_mv rfl) rfl rfl rfl ?_)
      refine st rfl (o_call [0] [2] (end_err_ b2 A2 s.size s.data.toList) rfl rfl rfl rfl rfl rfl (fun v L' I' hq8 => ?_))
      obtain ⟨rfl, rfl, rfl⟩ := hq8
      refine st rfl (o_y (v := .string (⟨#[]⟩ : ByteArray)) (y_k rfl rfl (fun _ => by kernel_rfl)) rfl rfl rfl ?_)
      refine st rfl (o_y (v := .int .i64 90) (y_k rfl rfl (fun _ => by kernel_rfl)) rfl rfl rfl ?_)
      refine st rfl (o_y (v := .string (⟨#[]⟩ : ByteArray)) (y_as rfl) rfl rfl rfl ?_)
      refine st rfl (o_y (v := .int .i64 90) (y_as rfl) rfl rfl rfl ?_)
      refine s_nil ?_
      refine q_then ?_
      refine c_ret ?_
      refine q_nj_ret ?_
      have hp : cutF s n = ((⟨#[]⟩ : ByteArray), 90) := by first | (unfold cutF; rw [if_pos (by omega)]; rw [cut_cat]; exact congrArg (fun x => (x, (0 : Int))) (cut_eq (by omega) (by omega))) | exact if_neg (by omega) | (exfalso; have q := (by assumption : ¬ sumL [_, _] ≤ 1000); rw [cut_sum (by omega), List.length_replicate] at q; omega)
      refine c_fin (I' := []) [] [2] rfl (.tmp rfl (.tmp rfl .nil)) rfl rfl rfl ?_
      rw [hp]
      exact ⟨rfl, rfl, rfl⟩
    ·
      refine s_nil ?_
      refine q_then ?_
      refine c_seq ?_
      refine c_seq ?_
      refine c_region ?_
      refine st rfl (o_y (v := .pointer (some ⟨b2, 0, none⟩)) (y_mv rfl) rfl rfl rfl ?_)
      refine st rfl (o_y (v := .pointer (some ⟨b2, 0, none⟩)) (y_k rfl rfl (fun _ => by kernel_rfl)) rfl rfl rfl ?_)
      refine st rfl (o_y (v := .pointer (some ⟨b2, 1, none⟩)) (y_k rfl rfl (fun _ => by kernel_rfl)) rfl rfl rfl ?_)
      refine st rfl (o_ld 0 rfl rfl rfl Tryd.underlying42 rfl rfl ?_)
      refine st rfl (o_y (v := .bool true) (y_k rfl rfl (fun _ => by kernel_rfl)) rfl rfl rfl ?_)
      refine s_nil ?_
      refine q_then ?_
      refine c_true rfl ?_
      refine c_goto ?_
      refine q_then_goto ?_
      refine q_jt_goto ?_
      refine c_seq ?_
      refine c_skip ?_
      refine q_then ?_
      refine c_seq ?_
      refine c_region ?_
      refine st rfl (o_y (v := .pointer (some ⟨b2, 0, none⟩)) (y_mv rfl) rfl rfl rfl ?_)
      refine st rfl (o_call [0] [2] (end_err_ b2 A2 s.size s.data.toList) rfl rfl rfl rfl rfl rfl (fun v L' I' hq9 => ?_))
      obtain ⟨rfl, rfl, rfl⟩ := hq9
      refine st rfl (o_y (v := .string (⟨#[]⟩ : ByteArray)) (y_k rfl rfl (fun _ => by kernel_rfl)) rfl rfl rfl ?_)
      refine st rfl (o_y (v := .int .i64 90) (y_k rfl rfl (fun _ => by kernel_rfl)) rfl rfl rfl ?_)
      refine st rfl (o_y (v := .string (⟨#[]⟩ : ByteArray)) (y_as rfl) rfl rfl rfl ?_)
      refine st rfl (o_y (v := .int .i64 90) (y_as rfl) rfl rfl rfl ?_)
      refine s_nil ?_
      refine q_then ?_
      refine c_ret ?_
      refine q_nj_ret ?_
      have hp : cutF s n = ((⟨#[]⟩ : ByteArray), 90) := by first | (unfold cutF; rw [if_pos (by omega)]; rw [cut_cat]; exact congrArg (fun x => (x, (0 : Int))) (cut_eq (by omega) (by omega))) | exact if_neg (by omega) | (exfalso; have q := (by assumption : ¬ sumL [_, _] ≤ 1000); rw [cut_sum (by omega), List.length_replicate] at q; omega)
      refine c_fin (I' := []) [] [2] rfl (.tmp rfl (.tmp rfl .nil)) rfl rfl rfl ?_
      rw [hp]
      exact ⟨rfl, rfl, rfl⟩
theorem Append_ (s : ByteArray) (hs : s.size ≤ 100000) (t : ByteArray) (ht : t.size ≤ 100000) : Con Tryd.prog 10 [.string s, .string t] [] [cellsAt 0 0 [.iface 70 (.agg #[.pointer (some ⟨1, 42, none⟩)])]] (fun v L' I' => v = .tuple #[.string ((writeF s (s.size : Int) t).1), .int .i64 ((writeF s (s.size : Int) t).2)] ∧ L' = [] ∧ I' = []) := by
  refine fn_of Tryd.func10 rfl Tryd.ntmps10 (by kernel_rfl) rfl (fun C => ?_)
  refine c_seq ?_
  refine c_region ?_
  refine st rfl (o_y (v := .string (⟨#[]⟩ : ByteArray)) (y_as rfl) rfl rfl rfl ?_)
  refine st rfl (o_y (v := .int .i64 0) (y_as rfl) rfl rfl rfl ?_)
  refine s_nil ?_
  refine q_then ?_
  refine c_seq ?_
  refine c_region ?_
  refine st rfl (o_y (v := .string s) (y_mv rfl) rfl rfl rfl ?_)
  refine st rfl (o_y (v := .string s) (y_mv rfl) rfl rfl rfl ?_)
  refine st rfl (o_y (v := .int .i64 (s.size : Int)) (y_k rfl rfl (fun _ => by kernel_rfl)) rfl rfl rfl ?_)
  refine st rfl (o_y (v := .string t) (y_mv rfl) rfl rfl rfl ?_)
  refine st rfl (o_call [] [0] (Write_ s (by first | omega | decide | assumption) (s.size : Int) t (by first | omega | decide | assumption | (rw [ByteArray.size_append]; omega))) rfl rfl rfl rfl rfl rfl (fun v L' I' hq1 => ?_))
  obtain ⟨rfl, rfl, rfl⟩ := hq1
  refine st rfl (o_y (v := .string ((writeF s (s.size : Int) t).1)) (y_k rfl rfl (fun _ => by kernel_rfl)) rfl rfl rfl ?_)
  refine st rfl (o_y (v := .int .i64 ((writeF s (s.size : Int) t).2)) (y_k rfl rfl (fun _ => by kernel_rfl)) rfl rfl rfl ?_)
  refine st rfl (o_y (v := .string ((writeF s (s.size : Int) t).1)) (y_as rfl) rfl rfl rfl ?_)
  refine st rfl (o_y (v := .int .i64 ((writeF s (s.size : Int) t).2)) (y_as rfl) rfl rfl rfl ?_)
  refine s_nil ?_
  refine q_then ?_
  refine c_ret ?_
  refine c_fin (I' := []) [] [0] rfl (.tmp rfl (.tmp rfl .nil)) rfl rfl rfl ?_
  exact ⟨rfl, rfl, rfl⟩
theorem rAppend_ (s : ByteArray) (hs : s.size ≤ 100000) (t : ByteArray) (ht : t.size ≤ 100000) : Con Tryd.prog 11 [.string s, .string t] [] [] (fun v L' I' => v = .tuple #[.string ((writeF s (s.size : Int) t).1), .int .i64 ((writeF s (s.size : Int) t).2)] ∧ L' = [] ∧ I' = []) := by
  refine fn_of Tryd.func11 rfl Tryd.ntmps11 (by kernel_rfl) rfl (fun C => ?_)
  refine c_seq ?_
  refine c_region ?_
  refine st rfl (o_y (v := .string (⟨#[]⟩ : ByteArray)) (y_as rfl) rfl rfl rfl ?_)
  refine st rfl (o_y (v := .int .i64 0) (y_as rfl) rfl rfl rfl ?_)
  refine s_nil ?_
  refine q_then ?_
  refine c_seq ?_
  refine c_region ?_
  refine st rfl (o_y (v := .string s) (y_mv rfl) rfl rfl rfl ?_)
  refine st rfl (o_y (v := .string s) (y_mv rfl) rfl rfl rfl ?_)
  refine st rfl (o_y (v := .int .i64 (s.size : Int)) (y_k rfl rfl (fun _ => by kernel_rfl)) rfl rfl rfl ?_)
  refine st rfl (o_y (v := .string t) (y_mv rfl) rfl rfl rfl ?_)
  refine st rfl (o_call [] [] (rWrite_ s (by first | omega | decide | assumption) (s.size : Int) t (by first | omega | decide | assumption | (rw [ByteArray.size_append]; omega))) rfl rfl rfl rfl rfl rfl (fun v L' I' hq1 => ?_))
  obtain ⟨rfl, rfl, rfl⟩ := hq1
  refine st rfl (o_y (v := .string ((writeF s (s.size : Int) t).1)) (y_k rfl rfl (fun _ => by kernel_rfl)) rfl rfl rfl ?_)
  refine st rfl (o_y (v := .int .i64 ((writeF s (s.size : Int) t).2)) (y_k rfl rfl (fun _ => by kernel_rfl)) rfl rfl rfl ?_)
  refine st rfl (o_y (v := .string ((writeF s (s.size : Int) t).1)) (y_as rfl) rfl rfl rfl ?_)
  refine st rfl (o_y (v := .int .i64 ((writeF s (s.size : Int) t).2)) (y_as rfl) rfl rfl rfl ?_)
  refine s_nil ?_
  refine q_then ?_
  refine c_ret ?_
  refine c_fin (I' := []) [] [] rfl (.tmp rfl (.tmp rfl .nil)) rfl rfl rfl ?_
  exact ⟨rfl, rfl, rfl⟩
end Go.Proofs.YthjcekfehicjhabDoor
