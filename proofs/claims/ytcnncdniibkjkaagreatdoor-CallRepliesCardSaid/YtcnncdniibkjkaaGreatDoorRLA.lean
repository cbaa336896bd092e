/- The laws of chapter 17 (call), walked over the given program; no condition but what stands in each theorem: part LA. -/
import Derived.Test.YtcnncdniibkjkaaGreatDoorRAB
import Derived.Test.YtcnncdniibkjkaaGreatDoorRP
set_option linter.unusedVariables false
set_option linter.unusedSimpArgs false
set_option maxRecDepth 100000
set_option maxHeartbeats 8000000
namespace Go.Proofs.YtcnncdniibkjkaaGreatDoor
open Go Go.Sl Go.RowKit Go.Extern.Stop Go.Stop Go.Extern

abbrev w3 : List Int := [1, 1, 8]
def nums3 (a : Lab) : List Nat := [a.lv.toNat, a.ig.toNat, a.cs]
def labB (a : Lab) : ByteArray := (packF w3 (nums3 a)).1
def lab0 : Lab := ⟨0, 0, 0⟩
def labOf (l : List Nat) : Lab := ⟨(l.getD 0 0 : Int), l.getD 2 0, (l.getD 1 0 : Int)⟩
def labGet (s : ByteArray) : Lab × ByteArray × Int :=
  if (unpackF w3 s).2.2 = 0 then (if labRight (labOf (unpackF w3 s).1) then (labOf (unpackF w3 s).1, (unpackF w3 s).2.1, 0) else (lab0, ⟨#[]⟩, 40)) else (lab0, ⟨#[]⟩, (unpackF w3 s).2.2)
abbrev Ec := Option Int
def allR (l : List Lab) : Prop := ∀ x ∈ l, labRight x
instance (l : List Lab) : Decidable (allR l) := by unfold allR; infer_instance
def encL (l : List Lab) : List UInt8 := l.flatMap fun a => (labB a).data.toList
def encS (l : List Lab) : ByteArray := ⟨(encL l).toArray⟩
def putS (l : List Lab) : ByteArray × Int := if allR l then (encS l, 0) else (⟨#[]⟩, 20)
def nextF (r : ByteArray) (q : Ec) : Lab × ByteArray × Ec := if q = none then (if (labGet r).2.2 = 0 then ((labGet r).1, (labGet r).2.1, none) else (lab0, r, some (labGet r).2.2)) else (lab0, r, q)
theorem put1 (n : Nat) (h : n < 256) : putF 1 n = (beB 1 n, 0) := putF_ok (.inl rfl) (by show n < 2 ^ 8; exact h)
theorem put8 (n : Nat) (h : n < 18446744073709551616) : putF 8 n = (beB 8 n, 0) := putF_ok (by unfold isW; omega) (by show n < 2 ^ 64; exact h)
theorem pack3 {a b c : Nat} (ha : a < 256) (hb : b < 256) (hc : c < 18446744073709551616) : packF w3 [a, b, c] = ((⟨#[]⟩ : ByteArray) ++ beB 1 a ++ beB 1 b ++ beB 8 c, 0) := by
  unfold packF packP w3
  rw [if_pos (by rfl)]
  simp only [List.zip_cons_cons, List.zip_nil_right, List.foldl_cons, List.foldl_nil]
  unfold packStep
  simp only [put1 a ha, put1 b hb, put8 c hc, if_pos]
theorem lab_pack {a : Lab} (h : labRight a) (hc : a.cs < 18446744073709551616) : (packF w3 (nums3 a)).2 = 0 ∧ (labB a).size = 10 := by
  obtain ⟨h1, h2, h3, h4⟩ := h
  unfold labB nums3
  rw [pack3 (by omega) (by omega) hc]
  refine ⟨rfl, ?_⟩
  simp only [ByteArray.size_append, beB_size]
  rfl
theorem nn64 {z : Int} (h0 : 0 ≤ z) (h1 : z ≤ 15) : IntKind.u64.wrap z = (z.toNat : Int) := by
  rw [IntWalk.u64_in z (by omega)]; omega
theorem lv64 {a : Lab} (h : labRight a) : IntKind.u64.wrap a.lv = (a.lv.toNat : Int) := nn64 h.1 h.2.1
theorem ig64 {a : Lab} (h : labRight a) : IntKind.u64.wrap a.ig = (a.ig.toNat : Int) := nn64 h.2.2.1 (by have := h.2.2.2; omega)
theorem u8_i64 {x : Nat} (h : x < 256) : IntKind.i64.wrap (x : Int) = (x : Int) := wrap_in (by omega) (by omega)
def putL (a : Lab) : ByteArray × Int := if labRight a then (labB a, 0) else (⟨#[]⟩, 20)
def ecN : Ec → Int | none => 0 | some k => k
def rangeF (a b : Lab) : ByteArray × Int := if labRight a ∧ labRight b then (if labUnder a b then (labB a ++ labB b, 0) else (⟨#[]⟩, 40)) else (⟨#[]⟩, 20)
def rgetF (s : ByteArray) : Lab × Lab × ByteArray × Int :=
  if (labGet s).2.2 = 0 then (if (labGet (labGet s).2.1).2.2 = 0 then (if labUnder (labGet s).1 (labGet (labGet s).2.1).1 then ((labGet s).1, (labGet (labGet s).2.1).1, (labGet (labGet s).2.1).2.1, 0) else (lab0, lab0, ⟨#[]⟩, 40)) else (lab0, lab0, ⟨#[]⟩, (labGet (labGet s).2.1).2.2)) else (lab0, lab0, ⟨#[]⟩, (labGet s).2.2)
theorem encS_1 (a : Lab) : encS [a] = labB a := by
  unfold encS encL; simp
theorem encS_2 (a b : Lab) : encS [a, b] = labB a ++ labB b := by
  unfold encS encL; apply ByteArray.ext; simp
theorem allR_1 {a : Lab} : allR [a] ↔ labRight a := by unfold allR; simp
theorem allR_2 {a b : Lab} : allR [a, b] ↔ labRight a ∧ labRight b := by unfold allR; simp
theorem putL_1 {a : Lab} (h : allR [a]) : putL a = (encS [a], 0) := by rw [encS_1]; exact if_pos (allR_1.1 h)
theorem putL_0 {a : Lab} (h : ¬ allR [a]) : putL a = (⟨#[]⟩, 20) := if_neg (fun q => h (allR_1.2 q))
theorem under_e {a b : Lab} (h : labRight a ∧ labRight b) : (a = b ∨ labUnder a b) ↔ labUnder a b := ⟨fun q => q.elim (fun e => by subst e; exact labUnder_self h.1) id, .inr⟩
theorem range_1 {a b : Lab} (h : allR [a, b]) (hu : a = b ∨ labUnder a b) : rangeF a b = (encS [a, b], 0) := by
  rw [encS_2]; unfold rangeF; rw [if_pos (allR_2.1 h), if_pos ((under_e (allR_2.1 h)).1 hu)]
theorem range_2 {a b : Lab} (h : allR [a, b]) (hu : ¬ (a = b ∨ labUnder a b)) : rangeF a b = (⟨#[]⟩, 40) := by
  unfold rangeF; rw [if_pos (allR_2.1 h), if_neg (fun q => hu (.inr q))]
theorem range_0 {a b : Lab} (h : ¬ allR [a, b]) : rangeF a b = (⟨#[]⟩, 20) := if_neg (fun q => h (allR_2.2 q))
theorem enc_step {l : List Lab} {k : Nat} {x : Lab} (hx : l[k]? = some x) : encL (l.take (k + 1)) = encL (l.take k) ++ (labB x).data.toList := by
  unfold encL; rw [List.take_add_one, hx]; simp
theorem allR_step {l : List Lab} {k : Nat} {x : Lab} (h : allR (l.take k)) (hx : l[k]? = some x) (hp : labRight x) : allR (l.take (k + 1)) := by
  unfold allR at *
  rw [List.take_add_one, hx]
  intro y hy
  rcases List.mem_append.1 hy with h' | h'
  · exact h y h'
  · have : y = x := by simpa using h'
    rw [this]; exact hp
theorem allR_end {l : List Lab} {k : Nat} (h : allR (l.take k)) (hk : l.length ≤ k) : allR l := by rwa [List.take_of_length_le hk] at h
theorem allR_not {l : List Lab} {k : Nat} {x : Lab} (hx : l[k]? = some x) (hp : ¬ labRight x) : ¬ allR l := fun h => hp (h x (List.mem_of_getElem? hx))
theorem enc_len {l : List Lab} (hr : allR l) (h : ∀ x ∈ l, lab64 x) : (encL l).length = 10 * l.length := by
  induction l with
  | nil => rfl
  | cons a l ih =>
    have h1 := (lab_pack (hr a (by simp)) (h a (by simp))).2
    have h2 := ih (fun x hx => hr x (by simp [hx])) (fun x hx => h x (by simp [hx]))
    unfold encL at *
    rw [List.flatMap_cons, List.length_append, h2, List.length_cons]
    have : (labB a).data.toList.length = 10 := by rw [Array.length_toList]; exact h1
    omega
theorem unpack3 (s : ByteArray) : unpackF w3 s = if ((getF 1 s).2.2 = 0) then (if (getF 1 (getF 1 s).2.1).2.2 = 0 then (if (getF 8 (getF 1 (getF 1 s).2.1).2.1).2.2 = 0 then ([(getF 1 s).1, (getF 1 (getF 1 s).2.1).1, (getF 8 (getF 1 (getF 1 s).2.1).2.1).1], (getF 8 (getF 1 (getF 1 s).2.1).2.1).2.1, 0) else ([], ⟨#[]⟩, (getF 8 (getF 1 (getF 1 s).2.1).2.1).2.2)) else ([], ⟨#[]⟩, (getF 1 (getF 1 s).2.1).2.2)) else ([], ⟨#[]⟩, (getF 1 s).2.2) := by
  unfold unpackF w3
  simp only [List.foldl_cons, List.foldl_nil]
  by_cases h1 : (getF 1 s).2.2 = 0
  · rw [if_pos h1]
    have e1 : upStep ([], s, 0) 1 = ([(getF 1 s).1], (getF 1 s).2.1, 0) := by unfold upStep; rw [if_pos rfl, if_pos h1]; rfl
    rw [e1]
    by_cases h2 : (getF 1 (getF 1 s).2.1).2.2 = 0
    · rw [if_pos h2]
      have e2 : upStep ([(getF 1 s).1], (getF 1 s).2.1, 0) 1 = ([(getF 1 s).1, (getF 1 (getF 1 s).2.1).1], (getF 1 (getF 1 s).2.1).2.1, 0) := by unfold upStep; rw [if_pos rfl, if_pos h2]; rfl
      rw [e2]
      by_cases h3 : (getF 8 (getF 1 (getF 1 s).2.1).2.1).2.2 = 0
      · rw [if_pos h3]; unfold upStep; rw [if_pos rfl, if_pos h3]; rfl
      · rw [if_neg h3]; unfold upStep; rw [if_pos rfl, if_neg h3]
    · rw [if_neg h2]
      have e2 : upStep ([(getF 1 s).1], (getF 1 s).2.1, 0) 1 = ([], ⟨#[]⟩, (getF 1 (getF 1 s).2.1).2.2) := by unfold upStep; rw [if_pos rfl, if_neg h2]
      rw [e2]
      unfold upStep; rw [if_neg h2]
  · rw [if_neg h1]
    have e1 : upStep ([], s, 0) 1 = ([], ⟨#[]⟩, (getF 1 s).2.2) := by unfold upStep; rw [if_pos rfl, if_neg h1]
    rw [e1]
    have e2 : upStep (([] : List Nat), (⟨#[]⟩ : ByteArray), (getF 1 s).2.2) 1 = ([], ⟨#[]⟩, (getF 1 s).2.2) := by unfold upStep; rw [if_neg h1]
    rw [e2]; unfold upStep; rw [if_neg h1]
theorem getF_one (s : ByteArray) : (getF 1 s).1 < 256 := by
  unfold getF
  split
  · split
    · decide
    · have h1 := numL_lt (s.data.toList.take (1 : Int).toNat)
      have h3 : 256 ^ (s.data.toList.take (1 : Int).toNat).length ≤ 256 ^ 1 := pow_le8 (by rw [List.length_take]; exact Nat.min_le_left _ _)
      show numL _ < _
      omega
  · decide
theorem un3 {s : ByteArray} (h : (unpackF w3 s).2.2 = 0) : ∃ x y z, (unpackF w3 s).1 = [x, y, z] ∧ x < 256 ∧ y < 256 ∧ z < 18446744073709551616 := by
  rw [unpack3] at h ⊢
  by_cases h1 : (getF 1 s).2.2 = 0
  · rw [if_pos h1] at h ⊢
    by_cases h2 : (getF 1 (getF 1 s).2.1).2.2 = 0
    · rw [if_pos h2] at h ⊢
      by_cases h3 : (getF 8 (getF 1 (getF 1 s).2.1).2.1).2.2 = 0
      · rw [if_pos h3]; exact ⟨_, _, _, rfl, getF_one _, getF_one _, getF_lt _ _⟩
      · rw [if_neg h3] at h; exact absurd h h3
    · rw [if_neg h2] at h; exact absurd h h2
  · rw [if_neg h1] at h; exact absurd h h1
theorem un3_len {s : ByteArray} (h : (unpackF w3 s).2.2 = 0) : (unpackF w3 s).1.length = 3 := by
  obtain ⟨x, y, z, e, _⟩ := un3 h; rw [e]; rfl
theorem un3_0 {s : ByteArray} {x : Nat} (h : (unpackF w3 s).2.2 = 0) (hx : (unpackF w3 s).1[0]? = some x) : x < 256 := by
  obtain ⟨a, b, c, e, q, _⟩ := un3 h; rw [e] at hx; obtain rfl := Option.some.inj hx; exact q
theorem un3_1 {s : ByteArray} {x : Nat} (h : (unpackF w3 s).2.2 = 0) (hx : (unpackF w3 s).1[1]? = some x) : x < 256 := by
  obtain ⟨a, b, c, e, _, q, _⟩ := un3 h; rw [e] at hx; obtain rfl := Option.some.inj hx; exact q
theorem labOf_at {l : List Nat} {x y z : Nat} (hx : l[0]? = some x) (hy : l[1]? = some y) (hz : l[2]? = some z) : labOf l = ⟨(x : Int), z, (y : Int)⟩ := by
  unfold labOf; simp [List.getD, hx, hy, hz]
theorem labGet_bad {s : ByteArray} (h : ¬ (unpackF w3 s).2.2 = 0) : labGet s = (lab0, ⟨#[]⟩, (unpackF w3 s).2.2) := by unfold labGet; rw [if_neg h]
theorem labGet_code {s : ByteArray} {a : Lab} (h : (unpackF w3 s).2.2 = 0) (ha : labOf (unpackF w3 s).1 = a) (hr : ¬ labRight a) : labGet s = (lab0, ⟨#[]⟩, 40) := by subst ha; unfold labGet; rw [if_pos h, if_neg hr]
theorem labGet_ok {s : ByteArray} {a : Lab} (h : (unpackF w3 s).2.2 = 0) (ha : labOf (unpackF w3 s).1 = a) (hr : labRight a) : labGet s = (a, (unpackF w3 s).2.1, 0) := by subst ha; unfold labGet; rw [if_pos h, if_pos hr]
theorem next_err {r : ByteArray} {k : Int} : nextF r (some k) = (lab0, r, some k) := by unfold nextF; rw [if_neg (by simp)]
theorem next_bad {r : ByteArray} (h : ¬ (labGet r).2.2 = 0) : nextF r none = (lab0, r, some (labGet r).2.2) := by unfold nextF; rw [if_pos rfl, if_neg h]
theorem next_ok {r : ByteArray} (h : (labGet r).2.2 = 0) : nextF r none = ((labGet r).1, (labGet r).2.1, none) := by unfold nextF; rw [if_pos rfl, if_pos h]
theorem n_bad {r : ByteArray} (h : ¬ (unpackF w3 r).2.2 = 0) : nextF r none = (lab0, r, some (unpackF w3 r).2.2) := by
  have e := labGet_bad h; rw [next_bad (by rw [e]; exact h), e]
theorem n_code {s : ByteArray} {a : Lab} (h : (unpackF w3 s).2.2 = 0) (ha : labOf (unpackF w3 s).1 = a) (hr : ¬ labRight a) : nextF s none = (lab0, s, some 40) := by
  have e := labGet_code h ha hr; rw [next_bad (by rw [e]; decide), e]
theorem n_ok {s : ByteArray} {a : Lab} (h : (unpackF w3 s).2.2 = 0) (ha : labOf (unpackF w3 s).1 = a) (hr : labRight a) : nextF s none = (a, (unpackF w3 s).2.1, none) := by
  have e := labGet_ok h ha hr; rw [next_ok (by rw [e]), e]
theorem labGet_right {s : ByteArray} (h : (labGet s).2.2 = 0) : labRight (labGet s).1 := by
  unfold labGet at *
  split
  · rename_i h1
    rw [if_pos h1] at h
    split
    · assumption
    · rename_i h2; rw [if_neg h2] at h; exact absurd h (by decide)
  · rename_i h1; rw [if_neg h1] at h; exact absurd h h1
theorem get_ok {s : ByteArray} (h : (nextF s none).2.2 = none) : labGet s = ((nextF s none).1, (nextF s none).2.1, 0) := by
  by_cases h1 : (labGet s).2.2 = 0
  · rw [next_ok h1]
    show labGet s = ((labGet s).1, (labGet s).2.1, 0)
    rw [← h1]
  · rw [next_bad h1] at h; cases h
theorem get_no {s : ByteArray} (h : ¬ (nextF s none).2.2 = none) : labGet s = (lab0, ⟨#[]⟩, ecN (nextF s none).2.2) := by
  by_cases h1 : (labGet s).2.2 = 0
  · rw [next_ok h1] at h; exact absurd rfl h
  · rw [next_bad h1]
    show labGet s = (lab0, ⟨#[]⟩, (labGet s).2.2)
    unfold labGet at *
    split
    · rename_i h2
      rw [if_pos h2] at h1
      split
      · rename_i h3; rw [if_pos h3] at h1; exact absurd rfl h1
      · rfl
    · rfl
theorem next_s (s : ByteArray) (q : Ec) : (nextF s q).2.2 = none → q = none := fun h => by
  cases q with
  | none => rfl
  | some k => rw [next_err] at h; cases h
abbrev n1 (s : ByteArray) := nextF s none
abbrev n2 (s : ByteArray) := nextF (nextF s none).2.1 (nextF s none).2.2
theorem two_ok {s : ByteArray} (h : (n2 s).2.2 = none) : (labGet s) = ((n1 s).1, (n1 s).2.1, 0) ∧ labGet (n1 s).2.1 = ((n2 s).1, (n2 s).2.1, 0) := by
  have h1 := next_s _ _ h
  have e1 := get_ok h1
  refine ⟨e1, ?_⟩
  unfold n2 at *
  rw [h1] at h ⊢
  exact get_ok h
theorem rget_ok {s : ByteArray} (h : (n2 s).2.2 = none) (hu : (n1 s).1 = (n2 s).1 ∨ labUnder (n1 s).1 (n2 s).1) : rgetF s = ((n1 s).1, (n2 s).1, (n2 s).2.1, 0) := by
  obtain ⟨e1, e2⟩ := two_ok h
  have r1 := labGet_right (s := s) (by rw [e1])
  have r2 := labGet_right (s := (n1 s).2.1) (by rw [e2])
  rw [e1] at r1
  rw [e2] at r2
  unfold rgetF
  rw [e1]
  simp only [e2]
  rw [if_pos trivial, if_pos trivial, if_pos ((under_e ⟨r1, r2⟩).1 hu)]
theorem rget_code {s : ByteArray} (h : (n2 s).2.2 = none) (hu : ¬ ((n1 s).1 = (n2 s).1 ∨ labUnder (n1 s).1 (n2 s).1)) : rgetF s = (lab0, lab0, ⟨#[]⟩, 40) := by
  obtain ⟨e1, e2⟩ := two_ok h
  unfold rgetF
  rw [e1]
  simp only [e2]
  rw [if_pos trivial, if_pos trivial, if_neg (fun q => hu (.inr q))]
theorem rget_no {s : ByteArray} (h : ¬ (n2 s).2.2 = none) : rgetF s = (lab0, lab0, ⟨#[]⟩, ecN (n2 s).2.2) := by
  unfold rgetF
  by_cases h1 : (nextF s none).2.2 = none
  · have e1 := get_ok h1
    rw [e1]
    simp only []
    rw [if_pos trivial]
    have h2 : ¬ (nextF (nextF s none).2.1 none).2.2 = none := by unfold n2 at h; rw [h1] at h; exact h
    have e2 := get_no h2
    have hz : ¬ ecN (nextF (nextF s none).2.1 none).2.2 = 0 := by
      by_cases q : (labGet (nextF s none).2.1).2.2 = 0
      · exact absurd (by rw [next_ok q]) h2
      · rw [next_bad q]; exact q
    rw [e2]
    simp only []
    rw [if_neg hz]
    unfold n2; rw [h1]
  · have e1 := get_no h1
    have hz : ¬ ecN (nextF s none).2.2 = 0 := by
      by_cases q : (labGet s).2.2 = 0
      · exact absurd (by rw [next_ok q]) h1
      · rw [next_bad q]; exact q
    rw [e1]
    simp only []
    rw [if_neg hz]
    unfold n2
    cases hq : (nextF s none).2.2 with
    | none => exact absurd hq h1
    | some k => rw [next_err]
theorem getF_rest2 {w : Int} {s : ByteArray} (h : (getF w s).2.2 = 0) : ((getF w s).2.1.size : Int) = (s.size : Int) - w ∧ 1 ≤ w := by
  unfold getF at *
  split
  · rename_i hw
    rw [if_pos hw] at h
    have := isW_rng hw
    split
    · rename_i hs; rw [if_pos hs] at h; exact absurd h (by decide)
    · show ((s.extract w.toNat s.size).size : Int) = _ ∧ _
      rw [ByteArray.size_extract]; omega
  · rename_i hw; rw [if_neg hw] at h; exact absurd h (by decide)
theorem unpack_rest {s : ByteArray} (h : (unpackF w3 s).2.2 = 0) : (unpackF w3 s).2.1.size + 10 = s.size := by
  rw [unpack3] at h ⊢
  by_cases h1 : (getF 1 s).2.2 = 0
  · rw [if_pos h1] at h ⊢
    by_cases h2 : (getF 1 (getF 1 s).2.1).2.2 = 0
    · rw [if_pos h2] at h ⊢
      by_cases h3 : (getF 8 (getF 1 (getF 1 s).2.1).2.1).2.2 = 0
      · rw [if_pos h3]
        have q1 := getF_rest2 h1
        have q2 := getF_rest2 h2
        have q3 := getF_rest2 h3
        show (getF 8 (getF 1 (getF 1 s).2.1).2.1).2.1.size + 10 = s.size
        omega
      · rw [if_neg h3] at h; exact absurd h h3
    · rw [if_neg h2] at h; exact absurd h h2
  · rw [if_neg h1] at h; exact absurd h h1
theorem unpack3_size (s : ByteArray) : (unpackF w3 s).2.1.size ≤ s.size := by
  by_cases h : (unpackF w3 s).2.2 = 0
  · have := unpack_rest h; omega
  · rw [unpack3] at h ⊢
    split
    · rename_i h1
      rw [if_pos h1] at h
      split
      · rename_i h2
        rw [if_pos h2] at h
        split
        · rename_i h3; rw [if_pos h3] at h; exact absurd rfl h
        · exact Nat.zero_le _
      · exact Nat.zero_le _
    · exact Nat.zero_le _
theorem labGet_rest {s : ByteArray} (h : (labGet s).2.2 = 0) : (labGet s).2.1.size + 10 = s.size := by
  unfold labGet at *
  split
  · rename_i h1
    rw [if_pos h1] at h
    split
    · exact unpack_rest h1
    · rename_i h2; rw [if_neg h2] at h; exact absurd h (by decide)
  · rename_i h1; rw [if_neg h1] at h; exact absurd h h1
theorem labGet_size (s : ByteArray) : (labGet s).2.1.size ≤ s.size := by
  by_cases h : (labGet s).2.2 = 0
  · have := labGet_rest h; omega
  · unfold labGet at *
    split
    · rename_i h1
      rw [if_pos h1] at h
      split
      · rename_i h2; rw [if_pos h2] at h; exact absurd rfl h
      · exact Nat.zero_le _
    · exact Nat.zero_le _
theorem labGet_64 (s : ByteArray) : lab64 (labGet s).1 := by
  unfold lab64 labGet
  split
  · rename_i h1
    split
    · obtain ⟨x, y, z, e, _, _, hz⟩ := un3 h1
      rw [e]; exact hz
    · show (0 : Nat) < _; decide
  · show (0 : Nat) < _; decide
theorem next_size (s : ByteArray) (q : Ec) : (nextF s q).2.1.size ≤ s.size := by
  unfold nextF
  split
  · split
    · exact labGet_size s
    · exact Nat.le_refl _
  · exact Nat.le_refl _
theorem next_64 (s : ByteArray) (q : Ec) : lab64 (nextF s q).1 := by
  unfold nextF
  split
  · split
    · exact labGet_64 s
    · show (0 : Nat) < _; decide
  · show (0 : Nat) < _; decide
/-- The labels of bytes, what is left, and what is wrong with it. -/
def glF (s : ByteArray) : List Lab × ByteArray × Ec :=
  if s = ⟨#[]⟩ then ([], s, none) else if h : (labGet s).2.2 = 0 then ((labGet s).1 :: (glF (labGet s).2.1).1, (glF (labGet s).2.1).2) else ([], s, some (labGet s).2.2)
termination_by s.size
decreasing_by all_goals (have := labGet_rest h; omega)
theorem gl_nil {s : ByteArray} (h : s = ⟨#[]⟩) : glF s = ([], s, none) := by rw [glF, if_pos h]
theorem gl_cons {s : ByteArray} (h0 : ¬ s = ⟨#[]⟩) (h : (nextF s none).2.2 = none) : glF s = ((nextF s none).1 :: (glF (nextF s none).2.1).1, (glF (nextF s none).2.1).2) := by
  have e := get_ok h
  have h1 : (labGet s).2.2 = 0 := by rw [e]
  rw [glF, if_neg h0, dif_pos h1, e]
theorem gl_err {s : ByteArray} (h0 : ¬ s = ⟨#[]⟩) (h : ¬ (nextF s none).2.2 = none) : glF s = ([], (nextF s none).2.1, (nextF s none).2.2) := by
  have h1 : ¬ (labGet s).2.2 = 0 := fun q => h (by rw [next_ok q])
  rw [glF, if_neg h0, dif_neg h1, next_bad h1]
def glR (s : ByteArray) : List Lab × Int := if (glF s).2.2 = none then ((glF s).1, 0) else ([], ecN (glF s).2.2)
theorem gl_len : ∀ (n : Nat) (s : ByteArray), s.size ≤ n → 10 * (glF s).1.length ≤ s.size
  | n, s, hn => by
    by_cases h0 : s = ⟨#[]⟩
    · rw [gl_nil h0]; exact Nat.zero_le _
    · by_cases h1 : (nextF s none).2.2 = none
      · have e := get_ok h1
        have hr := labGet_rest (s := s) (by rw [e])
        rw [e] at hr
        simp only [] at hr
        match n, hn with
        | 0, hn => omega
        | n + 1, hn =>
          have ih := gl_len n (nextF s none).2.1 (by omega)
          rw [gl_cons h0 h1]
          simp only [List.length_cons]
          omega
      · rw [gl_err h0 h1]; exact Nat.zero_le _
theorem gl_64 : ∀ (n : Nat) (s : ByteArray), s.size ≤ n → ∀ x ∈ (glF s).1, lab64 x
  | n, s, hn => by
    by_cases h0 : s = ⟨#[]⟩
    · rw [gl_nil h0]; intro x hx; cases hx
    · by_cases h1 : (nextF s none).2.2 = none
      · have e := get_ok h1
        have hr := labGet_rest (s := s) (by rw [e])
        rw [e] at hr
        simp only [] at hr
        match n, hn with
        | 0, hn => omega
        | n + 1, hn =>
          have ih := gl_64 n (nextF s none).2.1 (by omega)
          rw [gl_cons h0 h1]
          intro x hx
          rcases List.mem_cons.1 hx with rfl | hx
          · exact next_64 _ _
          · exact ih x hx
      · rw [gl_err h0 h1]; intro x hx; cases hx
theorem drop_cons_at {α : Type} {l m : List α} {k : Nat} {x : α} (h : l.drop k = x :: m) : l[k]? = some x ∧ l.drop (k + 1) = m ∧ k < l.length := by
  have h1 : l[k]? = some x := by
    have := congrArg (fun q => q[0]?) h
    simpa using this
  refine ⟨h1, ?_, (List.getElem?_eq_some_iff.1 h1).1⟩
  rw [← List.drop_drop, h]; rfl
theorem drop_nil_at {α : Type} {l : List α} {k : Nat} (hk : k ≤ l.length) (h : l.drop k = []) : k = l.length := by
  have := congrArg List.length h
  simp at this; omega
theorem rput_eq {a : Lab} (h : labRight a) : putL a = (labB a, 0) := if_pos h
theorem rput_no {a : Lab} (h : ¬ labRight a) : putL a = (⟨#[]⟩, 20) := if_neg h
theorem putL_c {a : Lab} : (putL a).2 = 0 ↔ labRight a := by
  unfold putL
  split
  · simp [*]
  · simp [*]
theorem putL_e {a : Lab} (h : ¬ (putL a).2 = 0) : (putL a).2 = 20 := by
  have : ¬ labRight a := fun q => h (putL_c.2 q)
  unfold putL; rw [if_neg this]
theorem putL_b {a : Lab} (h : (putL a).2 = 0) : (putL a).1 = labB a := by
  unfold putL; rw [if_pos (putL_c.1 h)]
theorem rrange_no {a b : Lab} (h : ¬ (putL a).2 = 0 ∨ ¬ (putL b).2 = 0) : rangeF a b = (⟨#[]⟩, 20) := if_neg (fun q => h.elim (fun p => p (putL_c.2 q.1)) (fun p => p (putL_c.2 q.2)))
theorem rrange_code {a b : Lab} (h1 : (putL a).2 = 0) (h2 : (putL b).2 = 0) (hu : ¬ labUnder a b) : rangeF a b = (⟨#[]⟩, 40) := by
  unfold rangeF; rw [if_pos ⟨putL_c.1 h1, putL_c.1 h2⟩, if_neg hu]
theorem rrange_ok {a b : Lab} (h1 : (putL a).2 = 0) (h2 : (putL b).2 = 0) (hu : labUnder a b) : rangeF a b = ((putL a).1 ++ (putL b).1, 0) := by
  unfold rangeF; rw [if_pos ⟨putL_c.1 h1, putL_c.1 h2⟩, if_pos hu, putL_b h1, putL_b h2]
theorem rrget_1 {s : ByteArray} (h : ¬ (labGet s).2.2 = 0) : rgetF s = (lab0, lab0, ⟨#[]⟩, (labGet s).2.2) := if_neg h
theorem rrget_2 {s : ByteArray} (h1 : (labGet s).2.2 = 0) (h : ¬ (labGet (labGet s).2.1).2.2 = 0) : rgetF s = (lab0, lab0, ⟨#[]⟩, (labGet (labGet s).2.1).2.2) := by unfold rgetF; rw [if_pos h1, if_neg h]
theorem rrget_3 {s : ByteArray} (h1 : (labGet s).2.2 = 0) (h2 : (labGet (labGet s).2.1).2.2 = 0) (h : ¬ labUnder (labGet s).1 (labGet (labGet s).2.1).1) : rgetF s = (lab0, lab0, ⟨#[]⟩, 40) := by unfold rgetF; rw [if_pos h1, if_pos h2, if_neg h]
theorem rrget_4 {s : ByteArray} (h1 : (labGet s).2.2 = 0) (h2 : (labGet (labGet s).2.1).2.2 = 0) (h : labUnder (labGet s).1 (labGet (labGet s).2.1).1) : rgetF s = ((labGet s).1, (labGet (labGet s).2.1).1, (labGet (labGet s).2.1).2.1, 0) := by unfold rgetF; rw [if_pos h1, if_pos h2, if_pos h]
theorem rputs_step {l : List Lab} {k : Nat} {x : Lab} {o : ByteArray} (ho : o = encS (l.take k)) (hx : l[k]? = some x) (h : (putL x).2 = 0) : o ++ (putL x).1 = encS (l.take (k + 1)) := by
  rw [ho, putL_b h]; unfold encS; rw [enc_step hx]; apply ByteArray.ext; simp
theorem encS_size {l : List Lab} (hr : allR l) (h : ∀ x ∈ l, lab64 x) : (encS l).size = 10 * l.length := by
  rw [← enc_len hr h]; unfold encS; show (encL l).toArray.size = _; simp
theorem take_64 {l : List Lab} {k : Nat} (h : ∀ x ∈ l, lab64 x) : ∀ x ∈ l.take k, lab64 x := fun x hx => h x (List.mem_of_mem_take hx)
theorem putL_size {a : Lab} (h : lab64 a) : (putL a).1.size ≤ 10 := by
  by_cases hr : labRight a
  · rw [rput_eq hr]; exact Nat.le_of_eq (lab_pack hr h).2
  · rw [rput_no hr]; exact Nat.zero_le _
theorem gl_cons2 {s : ByteArray} (h0 : ¬ s = ⟨#[]⟩) (h : (labGet s).2.2 = 0) : glF s = ((labGet s).1 :: (glF (labGet s).2.1).1, (glF (labGet s).2.1).2) := by rw [glF, if_neg h0, dif_pos h]
theorem gl_err2 {s : ByteArray} (h0 : ¬ s = ⟨#[]⟩) (h : ¬ (labGet s).2.2 = 0) : glF s = ([], s, some (labGet s).2.2) := by rw [glF, if_neg h0, dif_neg h]
theorem rgl_end {s : ByteArray} {a : List Lab} {r : ByteArray} (h1 : (glF s).1 = a ++ (glF r).1) (h2 : (glF s).2 = (glF r).2) (h : r = ⟨#[]⟩) : glR s = (a, 0) := by
  rw [gl_nil h] at h1 h2
  unfold glR
  rw [h1, h2]; simp
theorem rgl_bad {s : ByteArray} {r : ByteArray} (h2 : (glF s).2 = (glF r).2) (h0 : ¬ r = ⟨#[]⟩) (h : ¬ (labGet r).2.2 = 0) : glR s = ([], (labGet r).2.2) := by
  rw [gl_err2 h0 h] at h2
  unfold glR
  rw [h2]; rfl
theorem rgl_s1 {s : ByteArray} {a : List Lab} {r : ByteArray} (h1 : (glF s).1 = a ++ (glF r).1) (h0 : ¬ r = ⟨#[]⟩) (h : (labGet r).2.2 = 0) : (glF s).1 = (a ++ [(labGet r).1]) ++ (glF (labGet r).2.1).1 := by
  rw [h1, gl_cons2 h0 h]; simp
theorem rgl_s2 {s : ByteArray} {r : ByteArray} (h2 : (glF s).2 = (glF r).2) (h0 : ¬ r = ⟨#[]⟩) (h : (labGet r).2.2 = 0) : (glF s).2 = (glF (labGet r).2.1).2 := by rw [h2, gl_cons2 h0 h]
theorem rgl_len {s : ByteArray} {a : List Lab} {r : ByteArray} (h1 : (glF s).1 = a ++ (glF r).1) : a.length ≤ s.size := by
  have h := gl_len _ s (Nat.le_refl _)
  rw [h1, List.length_append] at h; omega
theorem size_pos {s : ByteArray} (h : ¬ s = ⟨#[]⟩) : 0 < s.size := by
  rcases Nat.eq_zero_or_pos s.size with q | q
  · exact absurd (ByteArray.ext (Array.eq_empty_of_size_eq_zero q)) h
  · exact q
def ecV : Ec → Value
  | none => .nilIface
  | some k => .iface 165 (.agg #[.int .i64 k, .nilIface])
theorem ec_ne (q : Ec) (i : Nat) (w : World) : (do eqGuard .neq 48 (.tmp i) (.const .nilIface) (ecV q) .nilIface; binOp .neq 48 (ecV q) .nilIface : Sem Value).run Tryz.prog w = .ok (.bool (!decide (q = none))) w := by
  rcases q with _ | k
  · kernel_rfl
  · kernel_rfl
theorem ec_eq (q : Ec) (i : Nat) (w : World) : (do eqGuard .eql 48 (.tmp i) (.const .nilIface) (ecV q) .nilIface; binOp .eql 48 (ecV q) .nilIface : Sem Value).run Tryz.prog w = .ok (.bool (decide (q = none))) w := by
  rcases q with _ | k
  · kernel_rfl
  · kernel_rfl
end Go.Proofs.YtcnncdniibkjkaaGreatDoor
