/- The laws of chapter 17 (call), walked over the given program; no condition but what stands in each theorem: part LPH. -/
import Derived.Test.YtcnncdniibkjkaaGreatDoorRCP
import Derived.Test.YtcnncdniibkjkaaGreatDoorRLNB
import Derived.Test.YtcnncdniibkjkaaGreatDoorRLPD
set_option linter.unusedVariables false
set_option linter.unusedSimpArgs false
set_option maxRecDepth 100000
set_option maxHeartbeats 8000000
namespace Go.Proofs.YtcnncdniibkjkaaGreatDoor
open Go Go.Sl Go.RowKit Go.Extern.Stop Go.Stop Go.Extern

def encT : List ByteArray → ByteArray
  | [] => ⟨#[]⟩
  | t :: l => (ptextF t).1 ++ encT l
theorem encT_snoc (l : List ByteArray) (t : ByteArray) : encT (l ++ [t]) = encT l ++ (ptextF t).1 := by
  induction l with
  | nil => show (ptextF t).1 ++ (⟨#[]⟩ : ByteArray) = (⟨#[]⟩ : ByteArray) ++ (ptextF t).1; rw [ba_nil, ba_nil']
  | cons u l ih => show (ptextF u).1 ++ encT (l ++ [t]) = ((ptextF u).1 ++ encT l) ++ (ptextF t).1; rw [ih, ba_assoc]
theorem txts_enc : ∀ (l : List ByteArray) (x : Wb), (l.foldl txtB x).1 = x.1 ++ encT l
  | [], x => (ba_nil' _).symm
  | t :: l, x => by
    rw [List.foldl_cons, txts_enc l]
    show (x.1 ++ (ptextF t).1) ++ encT l = x.1 ++ ((ptextF t).1 ++ encT l)
    rw [ba_assoc]
theorem txts_none : ∀ (l : List ByteArray) (x : Wb), (l.foldl txtB x).2 = none → x.2 = none ∧ ∀ t ∈ l, (ptextF t).2 = 0
  | [], x, h => ⟨h, fun t q => by cases q⟩
  | t :: l, x, h => by
    obtain ⟨h1, h2⟩ := txts_none l (txtB x t) h
    obtain ⟨h3, h4⟩ := addQ_none (show addQ x.2 (ptextF t).2 = none from h1)
    refine ⟨h3, fun u hu => ?_⟩
    rcases List.mem_cons.1 hu with rfl | hu
    · exact h4
    · exact h2 u hu
theorem txts_ok : ∀ (l : List ByteArray) (x : Wb), x.2 = none → (∀ t ∈ l, (ptextF t).2 = 0) → (l.foldl txtB x).2 = none
  | [], x, h, _ => h
  | t :: l, x, h, ht => txts_ok l (txtB x t) (by show addQ x.2 (ptextF t).2 = none; rw [h, ht t (by simp)]; rfl) (fun u hu => ht u (by simp [hu]))
def repOk (e n : Int) (d : ByteArray) (l : List ByteArray) (a : Lab) : Prop := numE 2 e = 0 ∧ numE 4 n = 0 ∧ numE 2 (d.size : Int) = 0 ∧ numE 1 (l.length : Int) = 0 ∧ (∀ t ∈ l, (ptextF t).2 = 0) ∧ (putL a).2 = 0
theorem rx_parts (e n : Int) (d : ByteArray) (l : List ByteArray) (a : Lab) : (repX e n d l a).1 = (putF 2 (u64 e)).1 ++ ((putF 4 (u64 n)).1 ++ ((putF 2 (u64 (d.size : Int))).1 ++ (d ++ ((putF 1 (u64 (l.length : Int))).1 ++ (encT l ++ (putL a).1))))) := by
  show (l.foldl txtB (numB 1 (l.length : Int) (datB d (numB 2 (d.size : Int) (numB 4 n (numB 2 e (⟨#[]⟩, none))))))).1 ++ (putL a).1 = _
  rw [txts_enc]
  show ((((((⟨#[]⟩ : ByteArray) ++ (putF 2 (u64 e)).1) ++ (putF 4 (u64 n)).1) ++ (putF 2 (u64 (d.size : Int))).1 ++ d) ++ (putF 1 (u64 (l.length : Int))).1) ++ encT l) ++ (putL a).1 = _
  simp only [ba_nil, ba_assoc]
theorem rx_ok {e n : Int} {d : ByteArray} {l : List ByteArray} {a : Lab} (h : repOk e n d l a) : (repX e n d l a).2 = none := by
  obtain ⟨h1, h2, h3, h4, h5, h6⟩ := h
  have k : (l.foldl txtB (numB 1 (l.length : Int) (datB d (numB 2 (d.size : Int) (numB 4 n (numB 2 e (⟨#[]⟩, none))))))).2 = none := txts_ok l _ (by
    show addQ (addQ (addQ (addQ none (numE 2 e)) (numE 4 n)) (numE 2 (d.size : Int))) (numE 1 (l.length : Int)) = none
    rw [h1, h2, h3, h4]; rfl) h5
  show addQ (l.foldl txtB (numB 1 (l.length : Int) (datB d (numB 2 (d.size : Int) (numB 4 n (numB 2 e (⟨#[]⟩, none))))))).2 (putL a).2 = none
  rw [k, h6]; rfl
theorem rx_none {e n : Int} {d : ByteArray} {l : List ByteArray} {a : Lab} (h : (repX e n d l a).2 = none) : repOk e n d l a := by
  obtain ⟨k1, h6⟩ := addQ_none (show addQ (l.foldl txtB (numB 1 (l.length : Int) (datB d (numB 2 (d.size : Int) (numB 4 n (numB 2 e (⟨#[]⟩, none))))))).2 (putL a).2 = none from h)
  obtain ⟨k2, h5⟩ := txts_none _ _ k1
  obtain ⟨k3, h4⟩ := addQ_none (show addQ (addQ (addQ (addQ none (numE 2 e)) (numE 4 n)) (numE 2 (d.size : Int))) (numE 1 (l.length : Int)) = none from k2)
  obtain ⟨k4, h3⟩ := addQ_none k3
  obtain ⟨k5, h2⟩ := addQ_none k4
  exact ⟨(addQ_none k5).2, h2, h3, h4, h5, h6⟩
theorem gB_put {w n : Int} {t : ByteArray} (h : numE w n = 0) (h64 : n < 18446744073709551616) : gB w ((putF w (u64 n)).1 ++ t, none) = (t, none) ∧ ((getF w ((putF w (u64 n)).1 ++ t)).1 : Int) = n := by
  obtain ⟨e1, e2⟩ := num_get (t := t) h h64
  refine ⟨?_, by rw [e1]; exact e2⟩
  show ((getF w ((putF w (u64 n)).1 ++ t)).2.1, addQ none (getF w ((putF w (u64 n)).1 ++ t)).2.2) = _
  rw [e1]; rfl
theorem tk_enc (l : List ByteArray) (t : ByteArray) (h : ∀ u ∈ l, (ptextF u).2 = 0) : ∀ k, k ≤ l.length → tkB k (encT l ++ t, none) = (l.take k, (encT (l.drop k) ++ t, none))
  | 0, _ => rfl
  | k + 1, hk => by
    have ih := tk_enc l t h k (by omega)
    have hx : l[k]? = some l[k] := List.getElem?_eq_getElem (by omega)
    have hd : l.drop k = l[k] :: l.drop (k + 1) := (List.getElem_cons_drop (by omega)).symm
    have e : textF (encT (l.drop k) ++ t) = (l[k], encT (l.drop (k + 1)) ++ t, 0) := by
      rw [hd]
      show textF (((ptextF l[k]).1 ++ encT (l.drop (k + 1))) ++ t) = _
      rw [ba_assoc]
      exact text_1 (h _ (List.getElem_mem _))
    show ((tkB k (encT l ++ t, none)).1 ++ [(textF (tkB k (encT l ++ t, none)).2.1).1], tB (tkB k (encT l ++ t, none)).2) = _
    rw [ih]
    show (l.take k ++ [(textF (encT (l.drop k) ++ t)).1], ((textF (encT (l.drop k) ++ t)).2.1, addQ none (textF (encT (l.drop k) ++ t)).2.2)) = _
    rw [e, List.take_add_one, hx]; rfl
theorem cut_mid (d t : ByteArray) : (d ++ t).extract 0 d.size = d ∧ (d ++ t).extract d.size (d ++ t).size = t := by
  constructor
  · apply bytes_ext
    rw [ext_eq, bytes_cat, List.drop_zero, ← len_bytes d, List.take_left]
  · apply bytes_ext
    rw [ext_eq, bytes_cat, ← len_bytes d, List.take_of_length_le (by rw [ByteArray.size_append, List.length_append, len_bytes, len_bytes]; exact Nat.le_refl _), List.drop_left]
theorem rpy_good {e n : Int} {d : ByteArray} {l : List ByteArray} {a : Lab} (h : (repPut e n d l a).2 = 0) : repOk e n d l a ∧ (repX e n d l a).1.size ≤ 2000 ∧ repPut e n d l a = ((repX e n d l a).1, 0) := by
  unfold repPut at h ⊢
  by_cases hq : (repX e n d l a).2 = none ∧ (repX e n d l a).1.size ≤ 2000
  · rw [if_pos hq]; exact ⟨rx_none hq.1, hq.2, rfl⟩
  · rw [if_neg hq] at h; exact absurd h (by decide)
theorem rpy_bad {e n : Int} {d : ByteArray} {l : List ByteArray} {a : Lab} (h : ¬ (repPut e n d l a).2 = 0) : repPut e n d l a = (⟨#[]⟩, 171) := by
  unfold repPut at h ⊢
  by_cases hq : (repX e n d l a).2 = none ∧ (repX e n d l a).1.size ≤ 2000
  · rw [if_pos hq] at h; exact absurd rfl h
  · rw [if_neg hq]
theorem rpy_size {e n : Int} {d : ByteArray} {l : List ByteArray} {a : Lab} : (repPut e n d l a).1.size ≤ 2000 := by
  by_cases h : (repPut e n d l a).2 = 0
  · obtain ⟨_, h2, h3⟩ := rpy_good h
    rw [h3]; exact h2
  · rw [rpy_bad h]; exact Nat.zero_le _
theorem rep_back {e n : Int} {d : ByteArray} {l : List ByteArray} {a : Lab} (h : (repPut e n d l a).2 = 0) (he : e ≤ 9223372036854775807) (hn : n ≤ 9223372036854775807) (ha : lab64 a) : repGet (repPut e n d l a).1 = (e, n, d, l, a, 0) := by
  obtain ⟨⟨h1, h2, h3, h4, h5, h6⟩, hz, hp⟩ := rpy_good h
  rw [hp]
  simp only
  have hd : (d.size : Int) < 18446744073709551616 := by
    rw [rx_parts] at hz
    simp only [ByteArray.size_append] at hz
    omega
  have hl : (l.length : Int) < 18446744073709551616 := by
    obtain ⟨_, q⟩ := num_put h4
    rcases Nat.lt_or_ge l.length 18446744073709551616 with w | w
    · omega
    · exfalso
      have ht : l.length ≤ (encT l).size := by
        clear hz hp h q h1 h2 h3 h4 h6 w
        induction l with
        | nil => exact Nat.zero_le _
        | cons t l ih =>
          have i1 := ih (fun u hu => h5 u (by simp [hu]))
          have i2 := h5 t (by simp)
          show l.length + 1 ≤ ((ptextF t).1 ++ encT l).size
          rw [ByteArray.size_append]
          have i3 : 1 ≤ (ptextF t).1.size := by
            unfold ptextF at i2 ⊢
            split
            · rename_i c; rw [if_pos c] at i2; exact absurd i2 (by decide)
            · show 1 ≤ (beB 1 t.size ++ t).size
              rw [ByteArray.size_append, beB_size]
              have : (1 : Int).toNat = 1 := rfl
              omega
          omega
      rw [rx_parts] at hz
      simp only [ByteArray.size_append] at hz
      omega
  have hs := rx_parts e n d l a
  generalize (repX e n d l a).1 = s at hs hz ⊢
  obtain ⟨a1, a2⟩ := gB_put (w := 2) (n := e) (t := (putF 4 (u64 n)).1 ++ ((putF 2 (u64 (d.size : Int))).1 ++ (d ++ ((putF 1 (u64 (l.length : Int))).1 ++ (encT l ++ (putL a).1))))) h1 (by omega)
  obtain ⟨b1, b2⟩ := gB_put (w := 4) (n := n) (t := (putF 2 (u64 (d.size : Int))).1 ++ (d ++ ((putF 1 (u64 (l.length : Int))).1 ++ (encT l ++ (putL a).1)))) h2 (by omega)
  obtain ⟨c1, c2⟩ := gB_put (w := 2) (n := (d.size : Int)) (t := d ++ ((putF 1 (u64 (l.length : Int))).1 ++ (encT l ++ (putL a).1))) h3 hd
  obtain ⟨d1, d2⟩ := gB_put (w := 1) (n := (l.length : Int)) (t := encT l ++ (putL a).1) h4 hl
  rw [← hs] at a1 a2
  obtain ⟨m1, m2⟩ := cut_mid d ((putF 1 (u64 (l.length : Int))).1 ++ (encT l ++ (putL a).1))
  have f3 : rep3 s = (d ++ ((putF 1 (u64 (l.length : Int))).1 ++ (encT l ++ (putL a).1)), none) := by unfold rep3; rw [a1, b1, c1]
  have fn : repN s = d.size := by unfold repN; rw [a1, b1]; exact_mod_cast c2
  have f4 : rep4 s = ((putF 1 (u64 (l.length : Int))).1 ++ (encT l ++ (putL a).1), none) := by unfold rep4; rw [f3, fn]; simp only; rw [m2]
  have fk : (getF 1 (rep4 s).1).1 = l.length := by rw [f4]; exact_mod_cast d2
  have ft : repT s = (l, ((putL a).1, none)) := by
    unfold repT
    rw [fk, f4, d1, tk_enc l _ h5 l.length (Nat.le_refl _), List.take_length, List.drop_length]
    show (l, ((⟨#[]⟩ : ByteArray) ++ (putL a).1, none)) = _
    rw [ba_nil]
  have fl : labGet (putL a).1 = (a, ⟨#[]⟩, 0) := by
    have e0 : labGet ((putL a).1 ++ (⟨#[]⟩ : ByteArray)) = (a, ⟨#[]⟩, 0) := lback h6 ha
    rwa [ba_nil'] at e0
  unfold repGet
  rw [if_pos ⟨by rw [f3], by rw [f3, fn]; simp only [ByteArray.size_append]; omega, hz⟩, ft, if_pos ⟨by show addQ none (labGet (putL a).1).2.2 = none; rw [fl]; rfl, by show (labGet (putL a).1).2.1 = _; rw [fl]⟩, a1, a2, f3, fn]
  simp only
  rw [b2, m1, fl]
theorem tk_back : ∀ (k : Nat) (x : Wb), (tkB k x).2.2 = none → x.2 = none ∧ (∀ t ∈ (tkB k x).1, (ptextF t).2 = 0) ∧ encT (tkB k x).1 ++ (tkB k x).2.1 = x.1 ∧ (tkB k x).1.length = k
  | 0, x, h => ⟨h, (fun t q => by cases q), ba_nil _, rfl⟩
  | k + 1, x, h => by
    obtain ⟨q1, q2⟩ := addQ_none (show addQ (tkB k x).2.2 (textF (tkB k x).2.1).2.2 = none from h)
    obtain ⟨i1, i2, i3, i4⟩ := tk_back k x q1
    obtain ⟨t1, t2⟩ := text_2 q2
    refine ⟨i1, ?_, ?_, ?_⟩
    · intro u hu
      rcases List.mem_append.1 (show u ∈ (tkB k x).1 ++ [(textF (tkB k x).2.1).1] from hu) with w | w
      · exact i2 u w
      · rw [List.mem_singleton.1 w]; exact t1
    · show encT ((tkB k x).1 ++ [(textF (tkB k x).2.1).1]) ++ (textF (tkB k x).2.1).2.1 = x.1
      rw [encT_snoc, ba_assoc, t2]; exact i3
    · show ((tkB k x).1 ++ [(textF (tkB k x).2.1).1]).length = k + 1
      rw [List.length_append, i4]; rfl
theorem cut_back {x : ByteArray} {n : Nat} (h : n ≤ x.size) : (x.extract 0 n).size = n ∧ x.extract 0 n ++ x.extract n x.size = x := by
  refine ⟨by rw [ByteArray.size_extract]; omega, ?_⟩
  apply bytes_ext
  rw [bytes_cat, ext_eq, ext_eq, List.drop_zero, ← len_bytes, List.take_length, List.take_append_drop]
theorem rep_forth {s : ByteArray} (h : (repGet s).2.2.2.2.2 = 0) : repPut (repGet s).1 (repGet s).2.1 (repGet s).2.2.1 (repGet s).2.2.2.1 (repGet s).2.2.2.2.1 = (s, 0) := by
  by_cases hq : (rep3 s).2 = none ∧ repN s ≤ (rep3 s).1.size ∧ s.size ≤ 2000
  · by_cases hr : (lB (repT s).2).2 = none ∧ (lB (repT s).2).1 = ⟨#[]⟩
    · have hg : repGet s = (((getF 2 s).1 : Int), ((getF 4 (gB 2 (s, none)).1).1 : Int), (rep3 s).1.extract 0 (repN s), (repT s).1, (labGet (repT s).2.1).1, 0) := by
        unfold repGet; rw [if_pos hq, if_pos hr]
      rw [hg]
      clear hg h
      obtain ⟨q1, q2, q3⟩ := hq
      obtain ⟨r1, r2⟩ := hr
      have h3 := rep3_def s
      have hN : repN s = (getF 2 (gB 4 (gB 2 (s, none))).1).1 := rfl
      have h4 := rep4_def s
      have hT := repT_def s
      have a1 := gB_2 2 (s, none)
      have a2 := gB_2 4 (gB 2 (s, none))
      have a3 := gB_2 2 (gB 4 (gB 2 (s, none)))
      have b1 := gB_1 2 (s, none)
      have b2 := gB_1 4 (gB 2 (s, none))
      have b3 := gB_1 2 (gB 4 (gB 2 (s, none)))
      generalize gB 2 (s, none) = x1 at *
      generalize gB 4 x1 = x2 at *
      rw [← h3] at a3 b3
      generalize rep3 s = x3 at *
      generalize repN s = n at *
      subst hN
      rw [q1] at a3
      obtain ⟨z2, z3⟩ := addQ_none a3.symm
      rw [z2] at a2
      obtain ⟨z1, z4⟩ := addQ_none a2.symm
      rw [z1] at a1
      obtain ⟨_, z5⟩ := addQ_none a1.symm
      have c4 := gB_2 1 (rep4 s)
      have d4 := gB_1 1 (rep4 s)
      generalize rep4 s = x4 at *
      generalize gB 1 x4 = x5 at *
      have w := tk_back (getF 1 x4.1).1 x5
      rw [← hT] at w
      generalize repT s = p at *
      rw [lB_2] at r1
      rw [lB_1] at r2
      obtain ⟨y1, y2⟩ := addQ_none r1
      obtain ⟨w1, w2, w3, w4⟩ := w y1
      rw [w1] at c4
      obtain ⟨_, v2⟩ := addQ_none c4.symm
      obtain ⟨n1, n2⟩ := num_ok z5
      obtain ⟨n3, n4⟩ := num_ok z4
      obtain ⟨n5, n6⟩ := num_ok z3
      obtain ⟨n7, n8⟩ := num_ok v2
      obtain ⟨c1, c2⟩ := cut_back q2
      have l1 := lback_2 y2
      have l2 := lback_3 y2
      rw [r2, ba_nil'] at l2
      have hok : repOk ((getF 2 s).1 : Int) ((getF 4 x1.1).1 : Int) (x3.1.extract 0 (getF 2 x2.1).1) p.1 (labGet p.2.1).1 := ⟨n1, n3, by rw [c1]; exact n5, by rw [w4]; exact n7, w2, l1⟩
      have hp : (repX ((getF 2 s).1 : Int) ((getF 4 x1.1).1 : Int) (x3.1.extract 0 (getF 2 x2.1).1) p.1 (labGet p.2.1).1).1 = s := by
        rw [rx_parts, l2, w4, c1, w3, d4, n8, h4]
        simp only
        rw [c2, b3, n6, b2, n4, b1]
        exact n2
      show repPut ((getF 2 s).1 : Int) ((getF 4 x1.1).1 : Int) (x3.1.extract 0 (getF 2 x2.1).1) p.1 (labGet p.2.1).1 = (s, 0)
      unfold repPut
      rw [hp, if_pos ⟨rx_ok hok, q3⟩]
    · exfalso
      unfold repGet at h
      rw [if_pos hq, if_neg hr] at h
      exact absurd h (by decide)
  · exfalso
    unfold repGet at h
    rw [if_neg hq] at h
    exact absurd h (by decide)

def fewT (l : List ByteArray) : List ByteArray := (l.take 20).map shortW
theorem fewt_step {l acc : List ByteArray} {k : Nat} {x : ByteArray} (h : acc = (l.take k).map shortW) (hx : l[k]? = some x) : acc ++ [shortW x] = (l.take (k + 1)).map shortW := by
  rw [h, List.take_add_one, hx]; simp
theorem fewt_end {l acc : List ByteArray} {k : Nat} (ha : acc = (l.take k).map shortW) (hk : k ≤ 20) (h : l.length ≤ k ∨ 20 ≤ k) : acc = fewT l := by
  subst ha; unfold fewT; congr 1; rcases h with h | h
  · rw [List.take_of_length_le h, List.take_of_length_le (by omega)]
  · rw [show k = 20 from by omega]
theorem fewT_len (l : List ByteArray) : (fewT l).length ≤ 300 := by unfold fewT; simp; omega
theorem fewT_small (l : List ByteArray) : ∀ t ∈ fewT l, t.size ≤ 100000 := fun s hs => by
  obtain ⟨t, _, rfl⟩ := List.mem_map.1 hs
  have := shortW_size t; omega
theorem tk_sm (n : Nat) : ∀ (k : Nat) (x : Wb), x.1.size ≤ n → (tkB k x).2.1.size ≤ n ∧ (tkB k x).1.length = k ∧ ∀ t ∈ (tkB k x).1, t.size ≤ n
  | 0, x, h => ⟨h, rfl, fun t q => by cases q⟩
  | k + 1, x, h => by
    obtain ⟨i1, i2, i3⟩ := tk_sm n k x h
    refine ⟨Nat.le_trans (textF_rst _) i1, ?_, ?_⟩
    · show ((tkB k x).1 ++ [(textF (tkB k x).2.1).1]).length = k + 1
      rw [List.length_append, i2]; rfl
    · intro u hu
      rcases List.mem_append.1 (show u ∈ (tkB k x).1 ++ [(textF (tkB k x).2.1).1] from hu) with w | w
      · exact i3 u w
      · rw [List.mem_singleton.1 w]; exact Nat.le_trans (textF_size _) i1
theorem repGet_small {s : ByteArray} (h : s.size ≤ 10000) : (repGet s).2.2.1.size ≤ 10000 ∧ (repGet s).2.2.2.1.length ≤ 300 ∧ (∀ t ∈ (repGet s).2.2.2.1, t.size ≤ 100000) ∧ lab64 (repGet s).2.2.2.2.1 := by
  have l0 : lab64 ⟨0, 0, 0⟩ := by show (0 : Nat) < _; decide
  have hb : repBad.2.2.1.size ≤ 10000 ∧ repBad.2.2.2.1.length ≤ 300 ∧ (∀ t ∈ repBad.2.2.2.1, t.size ≤ 100000) ∧ lab64 repBad.2.2.2.2.1 := ⟨Nat.zero_le _, Nat.zero_le _, (fun t q => by cases q), l0⟩
  have h3 : (rep3 s).1.size ≤ 10000 := by
    rw [rep3_def]
    exact Nat.le_trans (gB_rest _ _) (Nat.le_trans (gB_rest _ _) (Nat.le_trans (gB_rest _ _) h))
  have h4 : (gB 1 (rep4 s)).1.size ≤ 10000 := Nat.le_trans (gB_rest _ _) (by rw [rep4_def]; simp only; rw [ByteArray.size_extract]; omega)
  obtain ⟨i1, i2, i3⟩ := tk_sm 10000 (getF 1 (rep4 s).1).1 _ h4
  rw [← repT_def] at i1 i2 i3
  have i4 := getF_one (rep4 s).1
  have h5 : ((rep3 s).1.extract 0 (repN s)).size ≤ 10000 := by rw [ByteArray.size_extract]; omega
  have k1 : (repT s).1.length ≤ 300 := by omega
  have k2 : ∀ t ∈ (repT s).1, t.size ≤ 100000 := fun t ht => by have := i3 t ht; omega
  have k3 := labGet_64 (repT s).2.1
  unfold repGet
  clear i1 i2 i3 i4 h3 h4
  generalize repT s = p at *
  generalize (rep3 s).1.extract 0 (repN s) = u at *
  generalize rep3 s = x3
  generalize repN s = n
  split
  · split
    · exact ⟨h5, k1, k2, k3⟩
    · exact hb
  · exact hb
end Go.Proofs.YtcnncdniibkjkaaGreatDoor
