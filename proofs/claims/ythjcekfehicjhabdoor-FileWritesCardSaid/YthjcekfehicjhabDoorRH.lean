/- The laws of chapter 9 (file), walked over the given program; no condition but what stands in each theorem: part H. -/
import Derived.Test.YthjcekfehicjhabDoorRG
set_option linter.unusedVariables false
set_option linter.unusedSimpArgs false
set_option maxRecDepth 100000
set_option maxHeartbeats 8000000
namespace Go.Proofs.YthjcekfehicjhabDoor
open Go Go.Sl Go.RowKit Go.Extern.Stop Go.Stop Go.Extern

def cutS (s : ByteArray) : ByteArray := s.extract 0 (min s.size 1010)
theorem cutS_size (s : ByteArray) : (cutS s).size ≤ 1010 := by unfold cutS; rw [ByteArray.size_extract]; omega
theorem writeF_no {s t : ByteArray} {at_ : Int} (h : ¬ (writeF s at_ t).2 = 0) : writeF s at_ t = (⟨#[]⟩, 90) := by
  unfold writeF at *
  split
  · rename_i hh; rw [if_pos hh] at h; exact absurd rfl h
  · rfl
theorem writeF_ok {s t : ByteArray} {at_ : Int} (h : (writeF s at_ t).2 = 0) : ((s.size : Int) ≤ 1000 ∧ 0 ≤ at_ ∧ at_ ≤ (s.size : Int) ∧ (t.size : Int) ≤ 1000 - at_) ∧ writeF s at_ t = (splB s at_ (min (t.size : Int) ((s.size : Int) - at_)) t, 0) := by
  unfold writeF at *
  split
  · rename_i hh; exact ⟨hh, rfl⟩
  · rename_i hh; rw [if_neg hh] at h; cases h
theorem splB_list {s t : ByteArray} {at_ n : Int} : (splB s at_ n t).data.toList = s.data.toList.take at_.toNat ++ t.data.toList ++ s.data.toList.drop (at_ + n).toNat := by
  rw [spl_eq (s := s) (t := t) (at_ := at_) (n := n) rfl]
theorem splB_size {s t : ByteArray} {at_ n : Int} (h : 0 ≤ at_ ∧ at_ ≤ (s.size : Int)) : (splB s at_ n t).size = at_.toNat + t.size + (s.size - (at_ + n).toNat) := by
  rw [← len_bytes, splB_list, List.length_append, List.length_append, List.length_take, List.length_drop, len_bytes, len_bytes]
  omega
theorem write_list {s t : ByteArray} {at_ : Int} (h : (writeF s at_ t).2 = 0) : (writeF s at_ t).1.data.toList = s.data.toList.take at_.toNat ++ t.data.toList ++ s.data.toList.drop (at_.toNat + t.size) := by
  obtain ⟨hc, he⟩ := writeF_ok h
  rw [he]
  show (splB s at_ _ t).data.toList = _
  rw [splB_list]
  congr 1
  rcases Int.le_total (t.size : Int) ((s.size : Int) - at_) with q | q
  · rw [Int.min_eq_left q]; congr 1; omega
  · rw [Int.min_eq_right q, List.drop_eq_nil_of_le (by rw [len_bytes]; omega), List.drop_eq_nil_of_le (by rw [len_bytes]; omega)]
theorem write_size {s t : ByteArray} {at_ : Int} (h : (writeF s at_ t).2 = 0) : ((writeF s at_ t).1.size : Int) = max (s.size : Int) (at_ + (t.size : Int)) := by
  have hl := congrArg List.length (write_list h)
  obtain ⟨hc, _⟩ := writeF_ok h
  rw [len_bytes, List.length_append, List.length_append, List.length_take, List.length_drop, len_bytes, len_bytes] at hl
  omega
theorem writeF_size (s t : ByteArray) (at_ : Int) : (writeF s at_ t).1.size ≤ 1000 := by
  by_cases h : (writeF s at_ t).2 = 0
  · have h1 := write_size h
    obtain ⟨hc, _⟩ := writeF_ok h
    omega
  · rw [writeF_no h]; decide
theorem write_read {s t : ByteArray} {at_ : Int} (h : (writeF s at_ t).2 = 0) : readF (writeF s at_ t).1 at_ (t.size : Int) = (t, 0) := by
  obtain ⟨hc, _⟩ := writeF_ok h
  have hs := write_size h
  have hl := write_list h
  unfold readF
  rw [if_pos (by omega)]
  congr 1
  apply bytes_ext
  rw [ext_eq, hl]
  have e : (at_ + min (t.size : Int) (((writeF s at_ t).1.size : Int) - at_)).toNat = at_.toNat + t.size := by omega
  rw [e, List.append_assoc, List.take_append, List.drop_append]
  have h1 : (s.data.toList.take at_.toNat).length = at_.toNat := by rw [List.length_take, len_bytes]; omega
  rw [List.take_take, List.drop_eq_nil_of_le (by rw [List.length_take, len_bytes]; omega), List.nil_append]
  simp only [List.length_take, len_bytes]
  rw [show min (at_.toNat + t.size) at_.toNat = at_.toNat by omega, show min at_.toNat s.size = at_.toNat by omega, Nat.sub_self, List.drop_zero, show at_.toNat + t.size - at_.toNat = t.size by omega, List.take_append_of_le_length (by rw [len_bytes]; exact Nat.le_refl _), List.take_of_length_le (by rw [len_bytes]; exact Nat.le_refl _)]
theorem getE (s : ByteArray) (i : Nat) : s[i]? = s.data.toList[i]? := by
  rw [Array.getElem?_toList]
  rfl
theorem write_at {s t : ByteArray} {at_ : Int} {i : Nat} (h : (writeF s at_ t).2 = 0) (hi : i < s.size) (ho : (i : Int) < at_ ∨ (i : Int) ≥ at_ + (t.size : Int)) : (writeF s at_ t).1[i]? = s[i]? := by
  obtain ⟨hc, _⟩ := writeF_ok h
  have hl := write_list h
  rw [getE, getE, hl]
  have h1 : (s.data.toList.take at_.toNat).length = at_.toNat := by rw [List.length_take, len_bytes]; omega
  rcases ho with ho | ho
  · rw [List.append_assoc, List.getElem?_append_left (by omega), List.getElem?_take, if_pos (by omega)]
  · rw [List.getElem?_append_right (by rw [List.length_append, h1, len_bytes]; omega), List.length_append, h1, len_bytes, List.getElem?_drop]
    congr 1; omega
theorem writeF_is {s t : ByteArray} {at_ : Int} (h : (s.size : Int) ≤ 1000 ∧ 0 ≤ at_ ∧ at_ ≤ (s.size : Int) ∧ (t.size : Int) ≤ 1000 - at_) : (writeF s at_ t).2 = 0 := by unfold writeF; rw [if_pos h]
theorem back_eq {s t : ByteArray} {at_ : Int} {i : Nat} {x y : UInt8} (h : (writeF s at_ t).2 = 0) (hx : (writeF s at_ t).1[i]? = some x) (hy : s[i]? = some y) (ho : (i : Int) < at_ ∨ (i : Int) ≥ at_ + (t.size : Int)) : (x.toNat : Int) = (y.toNat : Int) := by
  have hi : i < s.size := by
    rw [getE] at hy
    have := (List.getElem?_eq_some_iff.1 hy).1
    rw [len_bytes] at this; exact this
  rw [write_at h hi ho, hy] at hx
  rw [Option.some.inj hx]
theorem parts_ok {s t u : ByteArray} {at_ : Int} (h : (writeF s at_ (t ++ u)).2 = 0) : (writeF s at_ t).2 = 0 ∧ (writeF (writeF s at_ t).1 (at_ + (t.size : Int)) u).2 = 0 ∧ (writeF s at_ (t ++ u)).1 = (writeF (writeF s at_ t).1 (at_ + (t.size : Int)) u).1 := by
  obtain ⟨hc, _⟩ := writeF_ok h
  rw [ByteArray.size_append] at hc
  have h1 : (writeF s at_ t).2 = 0 := writeF_is (by omega)
  have hs := write_size h1
  have h2 : (writeF (writeF s at_ t).1 (at_ + (t.size : Int)) u).2 = 0 := writeF_is (by omega)
  refine ⟨h1, h2, bytes_ext ?_⟩
  rw [write_list h, write_list h2, write_list h1]
  have e1 : (s.data.toList.take at_.toNat).length = at_.toNat := by rw [List.length_take, len_bytes]; omega
  have e2 : (s.data.toList.take at_.toNat ++ t.data.toList).length = (at_ + (t.size : Int)).toNat := by rw [List.length_append, e1, len_bytes]; omega
  have e4 : at_.toNat + t.size = (at_ + (t.size : Int)).toNat := by omega
  rw [ByteArray.data_append, Array.toList_append, ByteArray.size_append, ← Nat.add_assoc, e4, ← List.append_assoc (s.data.toList.take at_.toNat)]
  generalize hX : s.data.toList.take at_.toNat ++ t.data.toList = X at e2 ⊢
  rw [← e2, List.take_left, ← List.drop_drop (l := X ++ _), List.drop_left, List.drop_drop]
theorem parts_no {s t u : ByteArray} {at_ : Int} (h : ¬ (writeF s at_ (t ++ u)).2 = 0) (h1 : (writeF s at_ t).2 = 0) : ¬ (writeF (writeF s at_ t).1 (at_ + (t.size : Int)) u).2 = 0 := fun h2 => by
  obtain ⟨hc1, _⟩ := writeF_ok h1
  obtain ⟨hc2, _⟩ := writeF_ok h2
  have hs := write_size h1
  refine h ?_
  unfold writeF
  rw [if_pos (by rw [ByteArray.size_append]; omega)]
theorem cutF_no {s : ByteArray} {n : Int} (h : ¬ (cutF s n).2 = 0) : cutF s n = (⟨#[]⟩, 90) ∧ ¬ ((s.size : Int) ≤ 1000 ∧ 0 ≤ n ∧ n ≤ 1000) := by
  unfold cutF at *
  split
  · rename_i hh; rw [if_pos hh] at h; exact absurd rfl h
  · rename_i hh; exact ⟨rfl, hh⟩
theorem cutF_ok {s : ByteArray} {n : Int} (h : (cutF s n).2 = 0) : ((s.size : Int) ≤ 1000 ∧ 0 ≤ n ∧ n ≤ 1000) ∧ cutF s n = (cutB s n, 0) := by
  unfold cutF at *
  split
  · rename_i hh; exact ⟨hh, rfl⟩
  · rename_i hh; rw [if_neg hh] at h; cases h
theorem cut_size {s : ByteArray} {n : Int} (h : (cutF s n).2 = 0) : ((cutF s n).1.size : Int) = n := by
  obtain ⟨hc, he⟩ := cutF_ok h
  rw [he]
  have : (cutB s n).size = min n.toNat s.size + (n.toNat - s.size) := by
    rw [← len_bytes]; unfold cutB
    simp only [List.length_append, List.length_take, List.length_replicate, len_bytes]
  show ((cutB s n).size : Int) = n
  omega
theorem cut_at {s : ByteArray} {n : Int} {i : Nat} (h : (cutF s n).2 = 0) (hn : (i : Int) < n) : (cutF s n).1[i]? = if i < s.size then s[i]? else some 0 := by
  obtain ⟨hc, he⟩ := cutF_ok h
  rw [he]
  show (cutB s n)[i]? = _
  rw [getE, getE]
  unfold cutB
  show (s.data.toList.take n.toNat ++ List.replicate (n.toNat - s.size) 0)[i]? = _
  split
  · rename_i hi
    rw [List.getElem?_append_left (by rw [List.length_take, len_bytes]; omega), List.getElem?_take, if_pos (by omega)]
  · rename_i hi
    rw [List.getElem?_append_right (by rw [List.length_take, len_bytes]; omega), List.getElem?_replicate, if_pos (by rw [List.length_take, len_bytes]; omega)]
theorem cut_eqs {s : ByteArray} {n : Int} {i : Nat} {x y : UInt8} (h : (cutF s n).2 = 0) (hn : (i : Int) < n) (hx : (cutF s n).1[i]? = some x) (hy : s[i]? = some y) : (x.toNat : Int) = (y.toNat : Int) := by
  have hi : i < s.size := by
    rw [getE] at hy
    have := (List.getElem?_eq_some_iff.1 hy).1
    rw [len_bytes] at this; exact this
  rw [cut_at h hn, if_pos hi, hy] at hx
  rw [Option.some.inj hx]
theorem cut_eqz {s : ByteArray} {n : Int} {i : Nat} {x : UInt8} (h : (cutF s n).2 = 0) (hn : (i : Int) < n) (hx : (cutF s n).1[i]? = some x) (hi : ¬ i < s.size) : (x.toNat : Int) = 0 := by
  rw [cut_at h hn, if_neg hi] at hx
  rw [← Option.some.inj hx]; rfl
theorem spliceF_no {s t : ByteArray} {at_ n : Int} (h : ¬ (spliceF s at_ n t).2 = 0) : spliceF s at_ n t = (⟨#[]⟩, 90) := by
  unfold spliceF at *
  split
  · rename_i hh; rw [if_pos hh] at h; exact absurd rfl h
  · rfl
theorem spliceF_ok {s t : ByteArray} {at_ n : Int} (h : (spliceF s at_ n t).2 = 0) : ((s.size : Int) ≤ 1000 ∧ 0 ≤ at_ ∧ at_ ≤ (s.size : Int) ∧ 0 ≤ n ∧ n ≤ (s.size : Int) - at_ ∧ (s.size : Int) - n + (t.size : Int) ≤ 1000) ∧ spliceF s at_ n t = (splB s at_ n t, 0) := by
  unfold spliceF at *
  split
  · rename_i hh; exact ⟨hh, rfl⟩
  · rename_i hh; rw [if_neg hh] at h; cases h
theorem splice_size {s t : ByteArray} {at_ n : Int} (h : (spliceF s at_ n t).2 = 0) : ((spliceF s at_ n t).1.size : Int) = (s.size : Int) - n + (t.size : Int) := by
  obtain ⟨hc, he⟩ := spliceF_ok h
  rw [he]
  show ((splB s at_ n t).size : Int) = _
  rw [splB_size (by omega)]; omega
theorem spliceF_size (s t : ByteArray) (at_ n : Int) : (spliceF s at_ n t).1.size ≤ 1000 := by
  by_cases h : (spliceF s at_ n t).2 = 0
  · have h1 := splice_size h
    obtain ⟨hc, _⟩ := spliceF_ok h
    omega
  · rw [spliceF_no h]; decide
theorem readF_size (s : ByteArray) (at_ n : Int) : (readF s at_ n).1.size ≤ s.size := by
  unfold readF; split
  · show (s.extract _ _).size ≤ _; rw [ByteArray.size_extract]; omega
  · exact Nat.zero_le _
theorem splice_back {s t : ByteArray} {at_ n : Int} (h : (spliceF s at_ n t).2 = 0) : (readF s at_ n).2 = 0 ∧ spliceF (spliceF s at_ n t).1 at_ (t.size : Int) (readF s at_ n).1 = (s, 0) := by
  obtain ⟨hc, he⟩ := spliceF_ok h
  have hs := splice_size h
  have hr : readF s at_ n = (s.extract at_.toNat (at_ + n).toNat, 0) := by
    unfold readF; rw [if_pos (by omega)]; congr 2; omega
  refine ⟨by rw [hr], ?_⟩
  rw [hr]
  have hz : (s.extract at_.toNat (at_ + n).toNat).size = n.toNat := by rw [ByteArray.size_extract]; omega
  have h2 : (spliceF (spliceF s at_ n t).1 at_ (t.size : Int) (s.extract at_.toNat (at_ + n).toNat)).2 = 0 := by
    rw [he] at hs ⊢
    unfold spliceF
    rw [if_pos (by simp only [] at hs ⊢; rw [hz]; omega)]
  obtain ⟨_, he2⟩ := spliceF_ok h2
  rw [he2]
  congr 1
  apply bytes_ext
  rw [splB_list, he]
  show (splB s at_ n t).data.toList.take at_.toNat ++ _ ++ (splB s at_ n t).data.toList.drop _ = _
  rw [splB_list, ext_eq]
  have e1 : (s.data.toList.take at_.toNat).length = at_.toNat := by rw [List.length_take, len_bytes]; omega
  have e2 : (s.data.toList.take at_.toNat ++ t.data.toList).length = (at_ + (t.size : Int)).toNat := by rw [List.length_append, e1, len_bytes]; omega
  rw [List.append_assoc (s.data.toList.take at_.toNat), List.take_append_of_le_length (by rw [e1]; exact Nat.le_refl _), List.take_of_length_le (by rw [e1]; exact Nat.le_refl _), ← List.append_assoc (s.data.toList.take at_.toNat) t.data.toList, ← e2, List.drop_left]
  have e3 : s.data.toList.take at_.toNat ++ (s.data.toList.take (at_ + n).toNat).drop at_.toNat = s.data.toList.take (at_ + n).toNat := by
    have := List.take_append_drop at_.toNat (s.data.toList.take (at_ + n).toNat)
    rw [List.take_take, show min at_.toNat (at_ + n).toNat = at_.toNat by omega] at this
    exact this
  rw [e3, List.take_append_drop]
theorem readF_no {s : ByteArray} {at_ n : Int} (h : ¬ (readF s at_ n).2 = 0) : readF s at_ n = (⟨#[]⟩, 90) ∧ ¬ ((s.size : Int) ≤ 1000 ∧ 0 ≤ at_ ∧ at_ ≤ (s.size : Int) ∧ 0 ≤ n) := by
  unfold readF at *
  split
  · rename_i hh; rw [if_pos hh] at h; exact absurd rfl h
  · rename_i hh; exact ⟨rfl, hh⟩
theorem read_rng {s : ByteArray} {at_ n : Int} (h : (readF s at_ n).2 = 0) : 0 ≤ at_ ∧ at_ ≤ 1000 := by
  unfold readF at h
  split at h
  · omega
  · cases h
theorem read_z {s : ByteArray} {at_ n : Int} (h : ¬ (readF s at_ n).2 = 0) : (readF s at_ n).1.size = 0 := by rw [(readF_no h).1]; rfl
theorem reads_all {s : ByteArray} {at_ n m : Int} (hn : 0 ≤ n) (hm : 0 ≤ m) : (¬ (readF s at_ (n + m)).2 = 0 → (readF s at_ n).2 = (readF s at_ (n + m)).2 ∧ (readF s at_ (n + m)).1 = ⟨#[]⟩ ∧ (readF s at_ n).1 = ⟨#[]⟩) ∧
    ((readF s at_ (n + m)).2 = 0 → (readF s at_ n).2 = 0 ∧ (readF s (at_ + ((readF s at_ n).1.size : Int)) m).2 = 0 ∧ (readF s at_ (n + m)).1 = (readF s at_ n).1 ++ (readF s (at_ + ((readF s at_ n).1.size : Int)) m).1 ∧ ((readF s at_ (n + m)).1.size : Int) ≤ n + m) := by
  constructor
  · intro h
    obtain ⟨h1, h2⟩ := readF_no h
    have h3 : readF s at_ n = (⟨#[]⟩, 90) := if_neg (by omega)
    rw [h1, h3]; exact ⟨rfl, rfl, rfl⟩
  · intro h
    have hc : (s.size : Int) ≤ 1000 ∧ 0 ≤ at_ ∧ at_ ≤ (s.size : Int) ∧ 0 ≤ n := by
      by_cases hh : (s.size : Int) ≤ 1000 ∧ 0 ≤ at_ ∧ at_ ≤ (s.size : Int) ∧ 0 ≤ n
      · exact hh
      · rw [show readF s at_ (n + m) = (⟨#[]⟩, 90) from if_neg (by omega)] at h; cases h
    have h1 : readF s at_ n = (s.extract at_.toNat (at_ + min n ((s.size : Int) - at_)).toNat, 0) := if_pos hc
    have hz : (s.extract at_.toNat (at_ + min n ((s.size : Int) - at_)).toNat).size = (min n ((s.size : Int) - at_)).toNat := by rw [ByteArray.size_extract]; omega
    have h2 : readF s at_ (n + m) = (s.extract at_.toNat (at_ + min (n + m) ((s.size : Int) - at_)).toNat, 0) := if_pos (by omega)
    rw [h1, h2]
    simp only []
    rw [hz]
    have h3 : readF s (at_ + ((min n ((s.size : Int) - at_)).toNat : Int)) m = (s.extract (at_ + ((min n ((s.size : Int) - at_)).toNat : Int)).toNat ((at_ + ((min n ((s.size : Int) - at_)).toNat : Int)) + min m ((s.size : Int) - (at_ + ((min n ((s.size : Int) - at_)).toNat : Int)))).toNat, 0) := if_pos (by omega)
    rw [h3]
    refine ⟨trivial, rfl, ?_, ?_⟩
    · apply bytes_ext
      simp only [ByteArray.data_append, Array.toList_append, ext_eq]
      generalize hi : at_.toNat = i
      have e1 : (at_ + min n ((s.size : Int) - at_)).toNat = i + (min n ((s.size : Int) - at_)).toNat := by omega
      have e2 : (at_ + ((min n ((s.size : Int) - at_)).toNat : Int)).toNat = i + (min n ((s.size : Int) - at_)).toNat := by omega
      rw [e1, e2]
      generalize hj : i + (min n ((s.size : Int) - at_)).toNat = j
      have e3 : (at_ + min (n + m) ((s.size : Int) - at_)).toNat = (at_ + ((min n ((s.size : Int) - at_)).toNat : Int) + min m ((s.size : Int) - (at_ + ((min n ((s.size : Int) - at_)).toNat : Int)))).toNat := by omega
      rw [e3]
      generalize hk : (at_ + ((min n ((s.size : Int) - at_)).toNat : Int) + min m ((s.size : Int) - (at_ + ((min n ((s.size : Int) - at_)).toNat : Int)))).toNat = k
      have hjk : j ≤ k := by omega
      have hij : i ≤ j := by omega
      have e4 : s.data.toList.take k = s.data.toList.take j ++ (s.data.toList.take k).drop j := by
        have := List.take_append_drop j (s.data.toList.take k)
        rw [List.take_take, Nat.min_eq_left hjk] at this
        exact this.symm
      have hjl : j ≤ s.data.toList.length := by rw [len_bytes]; omega
      rw [e4, List.drop_append_of_le_length (by rw [List.length_take]; omega), ← e4]
    · show ((s.extract _ _).size : Int) ≤ _
      rw [ByteArray.size_extract]; omega
end Go.Proofs.YthjcekfehicjhabDoor
