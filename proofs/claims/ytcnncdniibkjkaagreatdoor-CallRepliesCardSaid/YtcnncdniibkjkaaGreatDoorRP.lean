/- The laws of chapter 17 (call), walked over the given program; no condition but what stands in each theorem: part P. -/
import Derived.Test.YtcnncdniibkjkaaGreatDoorRL
import Derived.Test.YtcnncdniibkjkaaGreatDoorRM
set_option linter.unusedVariables false
set_option linter.unusedSimpArgs false
set_option maxRecDepth 100000
set_option maxHeartbeats 8000000
namespace Go.Proofs.YtcnncdniibkjkaaGreatDoor
open Go Go.Sl Go.RowKit Go.Extern.Stop Go.Stop Go.Extern
theorem endF_none (r : ByteArray) : endF r none = (r, 0) := rfl
theorem erN_some (i k : Nat) : ¬ erN (some (i, k)) = 0 := by
  match i with
  | 0 => show ¬ ((2 : Int) = 0); decide
  | 1 => show ¬ ((30 : Int) = 0); decide
  | n + 2 => show ¬ ((31 : Int) = 0); decide
theorem ext_take (s : ByteArray) (n : Nat) : (s.extract 0 n).data.toList = s.data.toList.take n := by
  have : (s.extract 0 n).data.toList = (s.data.extract 0 n).toList := by rw [ByteArray.data_extract]
  rw [this, Array.toList_extract, List.extract_eq_take_drop]
  simp
theorem number_bad {w : Int} {s : ByteArray} (h : ¬ isW w) : numberF w s none = (0, s, some (0, s.size)) := by
  unfold numberF badW takeS
  rw [if_neg h, if_pos rfl, if_neg (by simp)]
  rfl
theorem number_more {w : Int} {s : ByteArray} (h : isW w) (hs : (s.size : Int) < w) : numberF w s none = (0, s, some (1, s.size)) := by
  unfold numberF badW takeS
  rw [if_pos h, if_pos rfl, if_pos hs]
  rfl
theorem number_good {w : Int} {s : ByteArray} (h : isW w) (hs : ¬ (s.size : Int) < w) : numberF w s none = (numL (s.data.toList.take w.toNat), s.extract w.toNat s.size, none) := by
  unfold numberF badW takeS
  rw [if_pos h, if_pos rfl, if_neg hs, ext_take]
theorem number_stuck {w : Int} {s : ByteArray} {x : Nat × Nat} : numberF w s (some x) = (0, s, some x) := by
  have hb : badW w s (some x) = some x := by
    unfold badW
    split
    · rfl
    · rw [if_neg (by simp)]
  unfold numberF takeS
  rw [hb, if_neg (by simp)]
  rfl
theorem getG_eq (w : Int) (s : ByteArray) : getG w s = getF w s := by
  unfold getG getF
  by_cases h : isW w
  · by_cases hs : (s.size : Int) < w
    · rw [number_more h hs, if_pos h, if_pos hs]; rfl
    · rw [number_good h hs, if_pos h, if_neg hs]; rfl
  · rw [number_bad h, if_neg h]; rfl
theorem textG_eq (s : ByteArray) : textG s = textF s := by
  unfold textG takT badT textF getF
  have h1 : isW 1 := .inl rfl
  by_cases hs : (s.size : Int) < 1
  · rw [number_more h1 hs, if_pos h1, if_pos hs]
    rfl
  · rw [number_good h1 hs, if_pos h1, if_neg hs]
    simp only []
    generalize numL (s.data.toList.take (1 : Int).toNat) = n
    generalize s.extract (1 : Int).toNat s.size = r
    rw [if_pos trivial]
    by_cases hn : n > 200
    · have ht : takeS (n : Int) r (some (2, r.size)) = (⟨#[]⟩, r, some (2, r.size)) := if_neg (by simp)
      have hp : (n : Int) > 200 := by omega
      rw [if_pos hn, ht, if_pos hp]
      rfl
    · have hp : ¬ (n : Int) > 200 := by omega
      rw [if_neg hn, if_neg hp]
      by_cases hz : (r.size : Int) < (n : Int)
      · have ht : takeS (n : Int) r none = (⟨#[]⟩, r, some (1, r.size)) := by unfold takeS; rw [if_pos rfl, if_pos hz]
        rw [ht, if_pos hz]; rfl
      · have ht : takeS (n : Int) r none = (r.extract 0 n, r.extract n r.size, none) := by unfold takeS; rw [if_pos rfl, if_neg hz]; rfl
        rw [ht, if_neg hz]; rfl
theorem GetF_ (w : Int) (s : ByteArray) (ea : Addr) (em : Addr) (ef : Addr) (h12 : ea ≠ em) (h13 : ea ≠ ef) (h23 : em ≠ ef) (hs : s.size ≤ 9223372036854775807) : Con Tryz.prog 50 [.int .i64 w, .string s] [] [cellsAt 2 0 [.iface 180 (.pointer (some ea))], cellsAt 3 0 [.iface 180 (.pointer (some em))], cellsAt 1 0 [.iface 180 (.pointer (some ef))], errAt ea, errAt em, errAt ef, cellsAt 0 0 [.iface 147 (.agg #[.pointer (some ⟨5, 48, none⟩)])]] (fun v L' I' => v = .tuple #[.int .u64 ((getF w s).1 : Int), .string ((getF w s).2.1), .int .i64 ((getF w s).2.2)] ∧ L' = [] ∧ I' = []) := by
  have h := Get_ w s ea em ef h12 h13 h23 hs
  rw [getG_eq] at h
  exact h
theorem GetTextF_ (s : ByteArray) (ea : Addr) (em : Addr) (ef : Addr) (h12 : ea ≠ em) (h13 : ea ≠ ef) (h23 : em ≠ ef) (hs : s.size ≤ 9223372036854775807) : Con Tryz.prog 58 [.string s] [] [cellsAt 2 0 [.iface 180 (.pointer (some ea))], cellsAt 3 0 [.iface 180 (.pointer (some em))], cellsAt 1 0 [.iface 180 (.pointer (some ef))], errAt ea, errAt em, errAt ef, cellsAt 0 0 [.iface 147 (.agg #[.pointer (some ⟨5, 48, none⟩)])]] (fun v L' I' => v = .tuple #[.string ((textF s).1), .string ((textF s).2.1), .int .i64 ((textF s).2.2)] ∧ L' = [] ∧ I' = []) := by
  have h := GetText_ s ea em ef h12 h13 h23 hs
  rw [textG_eq] at h
  exact h
def numStep (a : List Nat × ByteArray × Er) (w : Int) : List Nat × ByteArray × Er := (a.1 ++ [(numberF w a.2.1 a.2.2).1], (numberF w a.2.1 a.2.2).2)
def numsF (ws : List Int) (r : ByteArray) (q : Er) : List Nat × ByteArray × Er := ws.foldl numStep ([], r, q)
theorem nums_step {ws : List Int} {r : ByteArray} {q : Er} {k : Nat} {w : Int} {a : List Nat} {r1 : ByteArray} {q1 : Er} (hw : ws[k]? = some w) (h : numsF (ws.take k) r q = (a, r1, q1)) : numsF (ws.take (k + 1)) r q = (a ++ [(numberF w r1 q1).1], (numberF w r1 q1).2.1, (numberF w r1 q1).2.2) := by
  unfold numsF at *
  rw [List.take_add_one, hw, Option.toList_some, List.foldl_append, h]; rfl
theorem nums_end {ws : List Int} {r : ByteArray} {q : Er} {k : Nat} {a : List Nat} {r1 : ByteArray} {q1 : Er} (h : numsF (ws.take k) r q = (a, r1, q1)) (hk : ¬ ((k : Int) < (ws.length : Int))) : numsF ws r q = (a, r1, q1) := by
  rwa [List.take_of_length_le (by omega)] at h
def upStep (a : List Nat × ByteArray × Int) (w : Int) : List Nat × ByteArray × Int := if a.2.2 = 0 then (if (getF w a.2.1).2.2 = 0 then (a.1 ++ [(getF w a.2.1).1], (getF w a.2.1).2.1, 0) else ([], ⟨#[]⟩, (getF w a.2.1).2.2)) else a
def unpackF (ws : List Int) (s : ByteArray) : List Nat × ByteArray × Int := ws.foldl upStep ([], s, 0)
def unpackG (ws : List Int) (s : ByteArray) : List Nat × ByteArray × Int :=
  if (endF (numsF ws s none).2.1 (numsF ws s none).2.2).2 = 0 then ((numsF ws s none).1, (endF (numsF ws s none).2.1 (numsF ws s none).2.2).1, 0) else ([], ⟨#[]⟩, (endF (numsF ws s none).2.1 (numsF ws s none).2.2).2)
theorem up_stuck {ws : List Int} {a : List Nat × ByteArray × Int} (h : ¬ a.2.2 = 0) : ws.foldl upStep a = a := by
  induction ws with
  | nil => rfl
  | cons w ws ih => rw [List.foldl_cons, show upStep a w = a from if_neg h, ih]
theorem num_stuck {ws : List Int} {r : ByteArray} {x : Nat × Nat} : ∀ {a : List Nat}, (ws.foldl numStep (a, r, some x)).2 = (r, some x) := by
  induction ws with
  | nil => intro a; rfl
  | cons w ws ih => intro a; rw [List.foldl_cons]; show (ws.foldl numStep (_, (numberF w r (some x)).2)).2 = _; rw [number_stuck]; exact ih
theorem unpack_from (ws : List Int) : ∀ (a : List Nat) (r : ByteArray), (if (endF (ws.foldl numStep (a, r, none)).2.1 (ws.foldl numStep (a, r, none)).2.2).2 = 0 then ((ws.foldl numStep (a, r, none)).1, (endF (ws.foldl numStep (a, r, none)).2.1 (ws.foldl numStep (a, r, none)).2.2).1, 0) else ([], ⟨#[]⟩, (endF (ws.foldl numStep (a, r, none)).2.1 (ws.foldl numStep (a, r, none)).2.2).2)) = ws.foldl upStep (a, r, 0) := by
  induction ws with
  | nil => intro a r; rfl
  | cons w ws ih =>
    intro a r
    rw [List.foldl_cons, List.foldl_cons]
    by_cases hw : isW w
    · by_cases hs : (r.size : Int) < w
      · have h1 : numStep (a, r, none) w = (a ++ [0], r, some (1, r.size)) := by unfold numStep; rw [number_more hw hs]
        have h2 : upStep (a, r, 0) w = ([], ⟨#[]⟩, 30) := by unfold upStep getF; rw [if_pos rfl, if_pos hw, if_pos hs]; rfl
        rw [h1, h2, num_stuck, up_stuck (by show ¬ ((30 : Int) = 0); decide)]
        rfl
      · have h1 : numStep (a, r, none) w = (a ++ [numL (r.data.toList.take w.toNat)], r.extract w.toNat r.size, none) := by unfold numStep; rw [number_good hw hs]
        have h2 : upStep (a, r, 0) w = (a ++ [numL (r.data.toList.take w.toNat)], r.extract w.toNat r.size, 0) := by unfold upStep getF; rw [if_pos rfl, if_pos hw, if_neg hs]; rfl
        rw [h1, h2]; exact ih _ _
    · have h1 : numStep (a, r, none) w = (a ++ [0], r, some (0, r.size)) := by unfold numStep; rw [number_bad hw]
      have h2 : upStep (a, r, 0) w = ([], ⟨#[]⟩, 2) := by unfold upStep getF; rw [if_pos rfl, if_neg hw]; rfl
      rw [h1, h2, num_stuck, up_stuck (by show ¬ ((2 : Int) = 0); decide)]
      rfl
theorem unpackG_eq (ws : List Int) (s : ByteArray) : unpackG ws s = unpackF ws s := unpack_from ws [] s
theorem up_step {ws : List Int} {s : ByteArray} {k : Nat} {w : Int} {a : List Nat} {r : ByteArray} (hw : ws[k]? = some w) (h : unpackF (ws.take k) s = (a, r, 0)) (hg : (getF w r).2.2 = 0) : unpackF (ws.take (k + 1)) s = (a ++ [(getF w r).1], (getF w r).2.1, 0) := by
  unfold unpackF at *
  rw [List.take_add_one, hw, Option.toList_some, List.foldl_append, h]
  show upStep (a, r, 0) w = _
  unfold upStep; rw [if_pos rfl, if_pos hg]
theorem up_bad {ws : List Int} {s : ByteArray} {k : Nat} {w : Int} {a : List Nat} {r : ByteArray} (hw : ws[k]? = some w) (h : unpackF (ws.take k) s = (a, r, 0)) (hg : ¬ (getF w r).2.2 = 0) : unpackF ws s = ([], ⟨#[]⟩, (getF w r).2.2) := by
  have h1 : unpackF (ws.take (k + 1)) s = ([], ⟨#[]⟩, (getF w r).2.2) := by
    unfold unpackF at *
    rw [List.take_add_one, hw, Option.toList_some, List.foldl_append, h]
    show upStep (a, r, 0) w = _
    unfold upStep; rw [if_pos rfl, if_neg hg]
  unfold unpackF at *
  rw [← List.take_append_drop (k + 1) ws, List.foldl_append, h1, up_stuck hg]
theorem up_len {ws : List Int} : ∀ {a : List Nat × ByteArray × Int} {n : Nat}, a.1.length ≤ n → (ws.foldl upStep a).1.length ≤ n + ws.length := by
  induction ws with
  | nil => intro a n h; exact h
  | cons w ws ih =>
    intro a n h
    rw [List.foldl_cons, List.length_cons]
    have : (upStep a w).1.length ≤ n + 1 := by
      unfold upStep
      split
      · split
        · show (a.1 ++ [_]).length ≤ _; rw [List.length_append, List.length_singleton]; omega
        · exact Nat.zero_le _
      · omega
    have := ih this
    omega
theorem unpack_len (ws : List Int) (s : ByteArray) : (unpackF ws s).1.length ≤ ws.length := by
  have := up_len (ws := ws) (a := ([], s, 0)) (n := 0) (Nat.le_refl _)
  unfold unpackF; omega
theorem up_end {ws : List Int} {s : ByteArray} {k : Nat} {a : List Nat} {r : ByteArray} (h : unpackF (ws.take k) s = (a, r, 0)) (hk : ¬ ((k : Int) < (ws.length : Int))) : unpackF ws s = (a, r, 0) := by
  rwa [List.take_of_length_le (by omega)] at h
def packStep (a : ByteArray × Int) (x : Int × Nat) : ByteArray × Int := if a.2 = 0 then (if (putF x.1 x.2).2 = 0 then (a.1 ++ (putF x.1 x.2).1, 0) else (⟨#[]⟩, (putF x.1 x.2).2)) else a
def packP (ws : List Int) (l : List Nat) : ByteArray × Int := (ws.zip l).foldl packStep (⟨#[]⟩, 0)
def packF (ws : List Int) (l : List Nat) : ByteArray × Int := if (ws.length : Int) = (l.length : Int) then packP ws l else (⟨#[]⟩, 2)
theorem pack_stuck {z : List (Int × Nat)} {a : ByteArray × Int} (h : ¬ a.2 = 0) : z.foldl packStep a = a := by
  induction z with
  | nil => rfl
  | cons x z ih => rw [List.foldl_cons, show packStep a x = a from if_neg h, ih]
theorem zip_at {ws : List Int} {l : List Nat} {k : Nat} {w : Int} {n : Nat} (hw : ws[k]? = some w) (hn : l[k]? = some n) : (ws.zip l)[k]? = some (w, n) := by
  rw [List.getElem?_zip_eq_some]; exact ⟨hw, hn⟩
theorem pack_step {ws : List Int} {l : List Nat} {k : Nat} {w : Int} {n : Nat} {o : ByteArray} (hw : ws[k]? = some w) (hn : l[k]? = some n) (h : ((ws.zip l).take k).foldl packStep (⟨#[]⟩, 0) = (o, 0)) (hg : (putF w n).2 = 0) : ((ws.zip l).take (k + 1)).foldl packStep (⟨#[]⟩, 0) = (o ++ (putF w n).1, 0) := by
  rw [List.take_add_one, zip_at hw hn, Option.toList_some, List.foldl_append, h]
  show packStep (o, 0) (w, n) = _
  unfold packStep; rw [if_pos rfl, if_pos hg]
theorem pack_bad {ws : List Int} {l : List Nat} {k : Nat} {w : Int} {n : Nat} {o : ByteArray} (hl : (ws.length : Int) = (l.length : Int)) (hw : ws[k]? = some w) (hn : l[k]? = some n) (h : ((ws.zip l).take k).foldl packStep (⟨#[]⟩, 0) = (o, 0)) (hg : ¬ (putF w n).2 = 0) : packF ws l = (⟨#[]⟩, (putF w n).2) := by
  have h1 : ((ws.zip l).take (k + 1)).foldl packStep (⟨#[]⟩, 0) = (⟨#[]⟩, (putF w n).2) := by
    rw [List.take_add_one, zip_at hw hn, Option.toList_some, List.foldl_append, h]
    show packStep (o, 0) (w, n) = _
    unfold packStep; rw [if_pos rfl, if_neg hg]
  unfold packF packP
  rw [if_pos hl, ← List.take_append_drop (k + 1) (ws.zip l), List.foldl_append, h1]
  exact pack_stuck (a := (⟨#[]⟩, (putF w n).2)) hg
theorem pack_end {ws : List Int} {l : List Nat} {k : Nat} {o : ByteArray} (hl : (ws.length : Int) = (l.length : Int)) (h : ((ws.zip l).take k).foldl packStep (⟨#[]⟩, 0) = (o, 0)) (hk : ¬ ((k : Int) < (l.length : Int))) : packF ws l = (o, 0) := by
  unfold packF packP
  rw [if_pos hl]
  rwa [List.take_of_length_le (by rw [List.length_zip]; omega)] at h
theorem pack_no {ws : List Int} {l : List Nat} (hl : ¬ (ws.length : Int) = (l.length : Int)) : packF ws l = (⟨#[]⟩, 2) := if_neg hl
theorem putF_ok {w : Int} {n : Nat} (hw : isW w) (hf : n < 2 ^ (8 * w.toNat)) : putF w n = (beB w n, 0) := by unfold putF; rw [if_pos hw, if_pos hf]
theorem putF_big {w : Int} {n : Nat} (hw : isW w) (hf : ¬ n < 2 ^ (8 * w.toNat)) : putF w n = (⟨#[]⟩, 31) := by unfold putF; rw [if_pos hw, if_neg hf]
theorem putF_bad {w : Int} {n : Nat} (hw : ¬ isW w) : putF w n = (⟨#[]⟩, 2) := by unfold putF; rw [if_neg hw]
theorem putF_size (w : Int) (n : Nat) : (putF w n).1.size ≤ 8 := by
  unfold putF
  split
  · rename_i h
    have := isW_rng h
    split
    · show (beB w n).size ≤ 8; rw [beB_size]; omega
    · exact Nat.zero_le _
  · exact Nat.zero_le _
end Go.Proofs.YtcnncdniibkjkaaGreatDoor
