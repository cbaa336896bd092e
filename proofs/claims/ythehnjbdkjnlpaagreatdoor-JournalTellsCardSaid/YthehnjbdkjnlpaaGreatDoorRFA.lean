/- The laws of chapter 15 (journal), walked over the given program; no condition but what stands in each theorem: part FA. -/
import Derived.Test.YthehnjbdkjnlpaaGreatDoorRA
set_option linter.unusedVariables false
set_option linter.unusedSimpArgs false
set_option maxRecDepth 100000
set_option maxHeartbeats 8000000
namespace Go.Proofs.YthehnjbdkjnlpaaGreatDoor
open Go Go.Sl Go.RowKit Go.Extern.Stop Go.Stop Go.Extern

def simpC (c : UInt8) : Prop := c = 45 ∨ c = 58 ∨ c = 47
instance (c : UInt8) : Decidable (simpC c) := by unfold simpC; infer_instance
def idx3 (c : UInt8) : Int := if c = 45 then 0 else if c = 58 then 1 else if c = 47 then 2 else -1
theorem run_idx3 {P : Program} (c : UInt8) (w : World) : (Extern.BytealgIndexByte.indexByte #[.string (⟨#[45, 58, 47]⟩ : ByteArray), .int .u8 (c.toNat : Int)]).run P w = .ok (.int .i64 (idx3 c)) w := by
  have hc : ((c.toNat : Int).toNat).toUInt8 = c := by simp
  have hr : List.range (⟨#[45, 58, 47]⟩ : ByteArray).size = [0, 1, 2] := rfl
  have hdef : Extern.BytealgIndexByte.indexByte #[.string (⟨#[45, 58, 47]⟩ : ByteArray), .int .u8 (c.toNat : Int)] = (do
    let b ← Extern.Bytes.bytesOf (.string (⟨#[45, 58, 47]⟩ : ByteArray))
    let c ← Extern.Bytes.asByte (.int .u8 (c.toNat : Int))
    match (List.range b.size).find? fun i => b[i]! == c with
    | some i => pure (goInt i)
    | none => pure (goInt (-1))) := rfl
  rw [hdef]
  simp only [Extern.Bytes.bytesOf, Extern.Bytes.asByte, Sem.run_bind, Sem.run_pure, Result.andThen_ok, hc, hr]
  have h0 : (⟨#[45, 58, 47]⟩ : ByteArray)[0]! = 45 := rfl
  have h1 : (⟨#[45, 58, 47]⟩ : ByteArray)[1]! = 58 := rfl
  have h2 : (⟨#[45, 58, 47]⟩ : ByteArray)[2]! = 47 := rfl
  unfold idx3
  simp only [List.find?, h0, h1, h2]
  by_cases e0 : c = 45
  · subst e0; rfl
  · have e0' : ((45 : UInt8) == c) = false := beq_eq_false_iff_ne.2 (Ne.symm e0)
    by_cases e1 : c = 58
    · subst e1; rfl
    · have e1' : ((58 : UInt8) == c) = false := beq_eq_false_iff_ne.2 (Ne.symm e1)
      by_cases e2 : c = 47
      · subst e2; rfl
      · have e2' : ((47 : UInt8) == c) = false := beq_eq_false_iff_ne.2 (Ne.symm e2)
        simp only [e0', e1', e2', if_neg e0, if_neg e1, if_neg e2]
        rfl
theorem idx3_simp {c : UInt8} : idx3 c ≥ 0 ↔ simpC c := by
  unfold idx3 simpC
  by_cases h0 : c = 45
  · rw [if_pos h0]; simp [h0]
  · by_cases h1 : c = 58
    · rw [if_neg h0, if_pos h1]; simp [h1]
    · by_cases h2 : c = 47
      · rw [if_neg h0, if_neg h1, if_pos h2]; simp [h2]
      · rw [if_neg h0, if_neg h1, if_neg h2]; simp [h0, h1, h2]
def isDA (c : UInt8) : Prop := c = 100 ∨ c = 97
instance (c : UInt8) : Decidable (isDA c) := by unfold isDA; infer_instance
def isDg (c : UInt8) : Prop := 49 ≤ c.toNat ∧ c.toNat ≤ 57
instance (c : UInt8) : Decidable (isDg c) := by unfold isDg; infer_instance
theorem u8_eq {x y : UInt8} : ((x.toNat : Int) = (y.toNat : Int)) ↔ x = y := by rw [← UInt8.toNat_inj]; omega
theorem u8_eqn {x : UInt8} {n : Nat} (hn : n < 256) : ((x.toNat : Int) = (n : Int)) ↔ x = UInt8.ofNat n := by
  rw [← UInt8.toNat_inj, UInt8.toNat_ofNat_of_lt' hn]; omega
/-- One sign of a form: what it is of, how often, what is left, whether it is none. -/
def sign1 : List UInt8 → UInt8 × Nat × List UInt8 × Bool
  | [] => (0, 0, [], true)
  | c :: t => if simpC c then (c, 1, t, false) else if isDA c ∧ isDg (t.headD 0) then (c, (t.headD 0).toNat - 48, t.drop 1, false) else (c, 0, t, true)
theorem sign1_len {l : List UInt8} (h : l ≠ []) : (sign1 l).2.2.1.length < l.length := by
  cases l with
  | nil => exact absurd rfl h
  | cons c t =>
    by_cases h1 : simpC c
    · simp only [sign1, if_pos h1, List.length_cons]; omega
    · by_cases h2 : isDA c ∧ isDg (t.headD 0)
      · simp only [sign1, if_neg h1, if_pos h2, List.length_drop, List.length_cons]; omega
      · simp only [sign1, if_neg h1, if_neg h2, List.length_cons]; omega
/-- What a form spreads to; whether it is none. -/
def sgnF (l : List UInt8) : List UInt8 × Bool :=
  if h : l = [] then ([], false) else if (sign1 l).2.2.2 then ([], true) else (List.replicate (sign1 l).2.1 (sign1 l).1 ++ (sgnF (sign1 l).2.2.1).1, (sgnF (sign1 l).2.2.1).2)
termination_by l.length
decreasing_by all_goals exact sign1_len h
theorem sgn_nil : sgnF [] = ([], false) := by rw [sgnF, dif_pos rfl]
theorem sgn_err {l : List UInt8} (h0 : l ≠ []) (h : (sign1 l).2.2.2 = true) : sgnF l = ([], true) := by rw [sgnF, dif_neg h0, if_pos h]
theorem sgn_ok {l : List UInt8} (h0 : l ≠ []) (h : (sign1 l).2.2.2 = false) : sgnF l = (List.replicate (sign1 l).2.1 (sign1 l).1 ++ (sgnF (sign1 l).2.2.1).1, (sgnF (sign1 l).2.2.1).2) := by rw [sgnF, dif_neg h0, if_neg (by rw [h]; decide)]
theorem sign1_err0 {l : List UInt8} (h : (sign1 l).2.2.2 = true) : (sign1 l).2.1 = 0 := by
  cases l with
  | nil => rfl
  | cons c t =>
    by_cases h1 : simpC c
    · simp only [sign1, if_pos h1] at h; cases h
    · by_cases h2 : isDA c ∧ isDg (t.headD 0)
      · simp only [sign1, if_neg h1, if_pos h2] at h; cases h
      · simp only [sign1, if_neg h1, if_neg h2]
theorem sign1_9 (l : List UInt8) : (sign1 l).2.1 ≤ 9 := by
  cases l with
  | nil => exact Nat.zero_le _
  | cons c t =>
    by_cases h1 : simpC c
    · simp only [sign1, if_pos h1]; omega
    · by_cases h2 : isDA c ∧ isDg (t.headD 0)
      · have := h2.2.2; simp only [sign1, if_neg h1, if_pos h2]; omega
      · simp only [sign1, if_neg h1, if_neg h2]; omega
def bl (s : ByteArray) : List UInt8 := s.data.toList
def signF (r : ByteArray) : UInt8 × Nat × ByteArray × Bool := ((sign1 (bl r)).1, (sign1 (bl r)).2.1, ⟨(sign1 (bl r)).2.2.1.toArray⟩, (sign1 (bl r)).2.2.2)
theorem bl_ext {a b : ByteArray} (h : bl a = bl b) : a = b := by
  obtain ⟨⟨x⟩⟩ := a
  obtain ⟨⟨y⟩⟩ := b
  unfold bl at h
  simp at h; subst h; rfl
theorem bl_size (s : ByteArray) : (bl s).length = s.size := by unfold bl; rw [Array.length_toList]; rfl
theorem bl_get (s : ByteArray) (i : Nat) : s[i]? = (bl s)[i]? := by
  unfold bl
  rw [Array.getElem?_toList]
  rfl
theorem bl_ext1 (s : ByteArray) (i j : Nat) : bl (s.extract i j) = ((bl s).take j).drop i := by
  unfold bl
  have : (s.extract i j).data.toList = (s.data.extract i j).toList := by rw [ByteArray.data_extract]
  rw [this, Array.toList_extract, List.extract_eq_take_drop, List.drop_take]
theorem bl_tail (s : ByteArray) : bl (s.extract 1 s.size) = (bl s).drop 1 := by
  rw [bl_ext1, List.take_of_length_le (by rw [bl_size]; exact Nat.le_refl _)]
theorem bl_nil {s : ByteArray} : bl s = [] ↔ s = ⟨#[]⟩ := ⟨fun h => bl_ext (by rw [h]; rfl), fun h => by rw [h]; rfl⟩
theorem bl_pos {s : ByteArray} (h : ¬ s = ⟨#[]⟩) : 0 < s.size := by
  rw [← bl_size]
  exact List.length_pos_iff.2 (fun e => h (bl_nil.1 e))
theorem bl_cons {r : ByteArray} {c : UInt8} (h : (r)[0]? = some c) : bl r = c :: bl (r.extract 1 r.size) := by
  rw [bl_tail]
  rw [bl_get] at h
  cases hl : bl r with
  | nil => rw [hl] at h; cases h
  | cons a t => rw [hl] at h; simp at h; simp [h]
theorem bl_mk (l : List UInt8) : bl ⟨l.toArray⟩ = l := by unfold bl; simp
theorem mk_bl (r : ByteArray) : (⟨(bl r).toArray⟩ : ByteArray) = r := bl_ext (bl_mk _)
theorem sign_simp {r : ByteArray} {c : UInt8} (h : (r)[0]? = some c) (hs : simpC c) : signF r = (c, 1, r.extract 1 r.size, false) := by
  unfold signF
  rw [bl_cons h]
  simp only [sign1, if_pos hs, mk_bl]
theorem sign_bad {r : ByteArray} {c : UInt8} (h : (r)[0]? = some c) (hs : ¬ simpC c) (hb : ¬ isDA c ∨ (r.extract 1 r.size) = ⟨#[]⟩ ∨ ∃ n, (r.extract 1 r.size)[0]? = some n ∧ ¬ isDg n) : signF r = (c, 0, r.extract 1 r.size, true) := by
  unfold signF
  rw [bl_cons h]
  have hn : ¬ (isDA c ∧ isDg ((bl (r.extract 1 r.size)).headD 0)) := by
    rcases hb with hb | hb | ⟨n, hn, hb⟩
    · exact fun q => hb q.1
    · rw [hb]; exact fun q => absurd q.2 (by decide)
    · rw [bl_cons hn]; exact fun q => hb q.2
  simp only [sign1, if_neg hs, if_neg hn, mk_bl]
theorem sign_dig {r : ByteArray} {c n : UInt8} (h : (r)[0]? = some c) (hs : ¬ simpC c) (hd : isDA c) (hn : (r.extract 1 r.size)[0]? = some n) (hg : isDg n) : signF r = (c, n.toNat - 48, (r.extract 1 r.size).extract 1 (r.extract 1 r.size).size, false) := by
  unfold signF
  rw [bl_cons h]
  have e : bl (r.extract 1 r.size) = n :: bl ((r.extract 1 r.size).extract 1 (r.extract 1 r.size).size) := bl_cons hn
  have hp : isDA c ∧ isDg ((bl (r.extract 1 r.size)).headD 0) := ⟨hd, by rw [e]; exact hg⟩
  simp only [sign1, if_neg hs, if_pos hp]
  rw [e]
  simp only [List.headD_cons, List.drop_succ_cons, List.drop_zero, mk_bl]
theorem sgnF_step {r : ByteArray} (h0 : ¬ r = ⟨#[]⟩) (h : (signF r).2.2.2 = false) : sgnF (bl r) = (List.replicate (signF r).2.1 (signF r).1 ++ (sgnF (bl (signF r).2.2.1)).1, (sgnF (bl (signF r).2.2.1)).2) := sgn_ok (fun e => h0 (bl_nil.1 e)) h
theorem sgnF_bad {r : ByteArray} (h0 : ¬ r = ⟨#[]⟩) (h : (signF r).2.2.2 = true) : sgnF (bl r) = ([], true) ∧ (signF r).2.1 = 0 := ⟨sgn_err (fun e => h0 (bl_nil.1 e)) h, sign1_err0 h⟩
theorem signF_lt {r : ByteArray} (h0 : ¬ r = ⟨#[]⟩) : (signF r).2.2.1.size < r.size := by
  have := sign1_len (fun e => h0 (bl_nil.1 e))
  rw [bl_size] at this
  show (sign1 (bl r)).2.2.1.toArray.size < _
  simpa using this
def fefN : Bool → Int | true => 130 | false => 0
def recF (s : ByteArray) : ByteArray × Bool := if s = ⟨#[]⟩ then (⟨#[]⟩, true) else (⟨(sgnF (bl s)).1.toArray⟩, (sgnF (bl s)).2)
theorem sgn_len : ∀ (n : Nat) (l : List UInt8), l.length ≤ n → (sgnF l).1.length ≤ 9 * n
  | 0, l, h => by
    have : l = [] := List.eq_nil_of_length_eq_zero (by omega)
    rw [this, sgn_nil]; exact Nat.zero_le _
  | n + 1, l, h => by
    by_cases h0 : l = []
    · rw [h0, sgn_nil]; exact Nat.zero_le _
    · cases hq : (sign1 l).2.2.2 with
      | true => rw [sgn_err h0 hq]; exact Nat.zero_le _
      | false =>
        have h1 := sign1_len h0
        have h2 := sign1_9 l
        have ih := sgn_len n (sign1 l).2.2.1 (by omega)
        rw [sgn_ok h0 hq]
        simp only [List.length_append, List.length_replicate]
        omega
theorem rec_size (s : ByteArray) : (recF s).1.size ≤ 9 * s.size := by
  unfold recF
  split
  · exact Nat.zero_le _
  · have := sgn_len s.size (bl s) (by rw [bl_size]; exact Nat.le_refl _)
    show (sgnF (bl s)).1.toArray.size ≤ _
    simpa using this
/-- Pairs of a class. -/
def clsL : List UInt8 → Prop
  | a :: b :: r => (33 ≤ a.toNat ∧ b.toNat ≤ 126 ∧ a.toNat ≤ b.toNat) ∧ clsL r
  | [_] => False
  | [] => True
instance clsD : (l : List UInt8) → Decidable (clsL l)
  | a :: b :: r => @instDecidableAnd _ _ (by infer_instance) (clsD r)
  | [_] => isFalse id
  | [] => isTrue trivial
def classP (s : ByteArray) : Prop := ¬ s = ⟨#[]⟩ ∧ clsL (bl s)
instance (s : ByteArray) : Decidable (classP s) := by unfold classP; infer_instance
theorem cls_even : ∀ (l : List UInt8), clsL l → l.length % 2 = 0
  | [], _ => rfl
  | [_], h => h.elim
  | a :: b :: r, h => by have := cls_even r h.2; simp only [List.length_cons]; omega
theorem cls_at {l : List UInt8} {k : Nat} {a b : UInt8} (ha : l[k]? = some a) (hb : l[k + 1]? = some b) : clsL (l.drop k) ↔ (33 ≤ a.toNat ∧ b.toNat ≤ 126 ∧ a.toNat ≤ b.toNat) ∧ clsL (l.drop (k + 2)) := by
  obtain ⟨h1, e1⟩ := List.getElem?_eq_some_iff.1 ha
  obtain ⟨h2, e2⟩ := List.getElem?_eq_some_iff.1 hb
  rw [List.drop_eq_getElem_cons h1, List.drop_eq_getElem_cons h2, e1, e2]
  exact Iff.rfl
/-- Is a byte of a class? -/
def inCl : List UInt8 → UInt8 → Prop
  | a :: b :: r, c => (a.toNat ≤ c.toNat ∧ c.toNat ≤ b.toNat) ∨ inCl r c
  | _, _ => False
instance inClD : (l : List UInt8) → (c : UInt8) → Decidable (inCl l c)
  | a :: b :: r, c => @instDecidableOr _ _ (by infer_instance) (inClD r c)
  | [_], _ => isFalse id
  | [], _ => isFalse id
theorem incl_at {l : List UInt8} {k : Nat} {a b c : UInt8} (ha : l[k]? = some a) (hb : l[k + 1]? = some b) : inCl (l.drop k) c ↔ (a.toNat ≤ c.toNat ∧ c.toNat ≤ b.toNat) ∨ inCl (l.drop (k + 2)) c := by
  obtain ⟨h1, e1⟩ := List.getElem?_eq_some_iff.1 ha
  obtain ⟨h2, e2⟩ := List.getElem?_eq_some_iff.1 hb
  rw [List.drop_eq_getElem_cons h1, List.drop_eq_getElem_cons h2, e1, e2]
  exact Iff.rfl
theorem drop_two {α : Type} {l : List α} {k : Nat} {a : α} (ha : l[k]? = some a) : l.drop k = a :: l.drop (k + 1) := by
  obtain ⟨h1, e1⟩ := List.getElem?_eq_some_iff.1 ha
  rw [List.drop_eq_getElem_cons h1, e1]
theorem cls_no {l : List UInt8} {k : Nat} {a : UInt8} (ha : l[k]? = some a) (h : (a.toNat : Int) < 33) : ¬ clsL (l.drop k) := by
  rw [drop_two ha]
  cases l.drop (k + 1) with
  | nil => exact id
  | cons b r => exact fun q => by have := q.1.1; omega
theorem incl_no {l : List UInt8} {k : Nat} {a c : UInt8} (ha : l[k]? = some a) (hl : k + 1 < l.length) (h : ¬ (c.toNat : Int) ≥ (a.toNat : Int)) : inCl (l.drop k) c ↔ inCl (l.drop (k + 2)) c := by
  rw [incl_at ha (List.getElem?_eq_getElem hl)]
  exact ⟨fun q => q.resolve_left (by omega), .inr⟩
theorem incl_end {l : List UInt8} {k : Nat} {c : UInt8} (h : l.length ≤ k + 1) : ¬ inCl (l.drop k) c := by
  have : (l.drop k).length ≤ 1 := by rw [List.length_drop]; omega
  match hd : l.drop k with
  | [] => intro q; exact q
  | [_] => intro q; exact q
  | a :: b :: r => rw [hd] at this; simp at this
/-- Is a byte what a record has there? -/
def fitsC (g c : UInt8) : Prop := if g = 100 then 48 ≤ c.toNat ∧ c.toNat ≤ 57 else if g = 97 then 97 ≤ c.toNat ∧ c.toNat ≤ 122 else c = g
instance (g c : UInt8) : Decidable (fitsC g c) := by unfold fitsC; infer_instance
theorem isin_no {sg : ByteArray} {c : UInt8} {i : Nat} (h : (i : Int) ≥ (sg.size : Int)) : ¬ ∃ g, (bl sg)[i]? = some g ∧ fitsC g c := by
  rintro ⟨g, hg, hf⟩
  rw [List.getElem?_eq_none (by rw [bl_size]; omega)] at hg; cases hg
theorem isin_x {sg : ByteArray} {c x : UInt8} {i : Nat} (hx : (sg)[i]? = some x) : (∃ g, (bl sg)[i]? = some g ∧ fitsC g c) ↔ fitsC x c := by
  rw [bl_get] at hx
  exact ⟨fun ⟨g, hg, hf⟩ => by rw [hx] at hg; cases hg; exact hf, fun h => ⟨x, hx, h⟩⟩
theorem isin_d {sg : ByteArray} {c x : UInt8} {i : Nat} (hx : (sg)[i]? = some x) (e : (x.toNat : Int) = 100) : (∃ g, (bl sg)[i]? = some g ∧ fitsC g c) ↔ ((c.toNat : Int) ≥ 48 ∧ (c.toNat : Int) ≤ 57) := by
  rw [isin_x hx]; unfold fitsC
  rw [if_pos (show x = 100 from (u8_eqn (n := 100) (by decide)).1 e)]; omega
theorem isin_a {sg : ByteArray} {c x : UInt8} {i : Nat} (hx : (sg)[i]? = some x) (n : ¬ (x.toNat : Int) = 100) (e : (x.toNat : Int) = 97) : (∃ g, (bl sg)[i]? = some g ∧ fitsC g c) ↔ ((c.toNat : Int) ≥ 97 ∧ (c.toNat : Int) ≤ 122) := by
  rw [isin_x hx]; unfold fitsC
  rw [if_neg (show ¬ x = 100 from fun q => n ((u8_eqn (n := 100) (by decide)).2 q)), if_pos (show x = 97 from (u8_eqn (n := 97) (by decide)).1 e)]; omega
theorem isin_o {sg : ByteArray} {c x : UInt8} {i : Nat} (hx : (sg)[i]? = some x) (n : ¬ (x.toNat : Int) = 100) (m : ¬ (x.toNat : Int) = 97) : (∃ g, (bl sg)[i]? = some g ∧ fitsC g c) ↔ (c.toNat : Int) = (x.toNat : Int) := by
  rw [isin_x hx]; unfold fitsC
  rw [if_neg (show ¬ x = 100 from fun q => n ((u8_eqn (n := 100) (by decide)).2 q)), if_neg (show ¬ x = 97 from fun q => m ((u8_eqn (n := 97) (by decide)).2 q)), u8_eq]
def filR (f : Fil) : Prop := (0 ≤ f.mx ∧ f.mx ≤ 200 ∧ f.fm.size ≤ 40) ∧ ((f.kd = 1 ∧ f.fm = ⟨#[]⟩) ∨ (f.kd = 2 ∧ classP f.fm) ∨ (f.kd = 3 ∧ (recF f.fm).2 = false))
instance (f : Fil) : Decidable (filR f) := by unfold filR; infer_instance
/-- May a byte stand there? -/
def okAt (f : Fil) (i : Nat) (c : UInt8) : Prop := (i : Int) < f.mx ∧ (f.kd = 2 → inCl (bl f.fm) c) ∧ (f.kd = 3 → ∃ g, (bl (recF f.fm).1)[i]? = some g ∧ fitsC g c)
instance (o : Option UInt8) (c : UInt8) : Decidable (∃ g, o = some g ∧ fitsC g c) := match o with
  | none => isFalse (fun ⟨_, h, _⟩ => by cases h)
  | some g => if h : fitsC g c then isTrue ⟨g, rfl, h⟩ else isFalse (fun ⟨g', e, q⟩ => h (by cases e; exact q))
instance (f : Fil) (i : Nat) (c : UInt8) : Decidable (okAt f i c) := by unfold okAt; infer_instance
def badAt (f : Fil) : List UInt8 → Nat → Int
  | [], _ => -1
  | c :: r, i => if okAt f i c then badAt f r (i + 1) else (i : Int)
theorem bad_ok {f : Fil} {l : List UInt8} {k : Nat} {c : UInt8} (hc : l[k]? = some c) (h : okAt f k c) : badAt f (l.drop k) k = badAt f (l.drop (k + 1)) (k + 1) := by
  obtain ⟨h1, e1⟩ := List.getElem?_eq_some_iff.1 hc
  rw [List.drop_eq_getElem_cons h1, e1]
  simp only [badAt, if_pos h]
theorem bad_no {f : Fil} {l : List UInt8} {k : Nat} {c : UInt8} (hc : l[k]? = some c) (h : ¬ okAt f k c) : badAt f (l.drop k) k = (k : Int) := by
  obtain ⟨h1, e1⟩ := List.getElem?_eq_some_iff.1 hc
  rw [List.drop_eq_getElem_cons h1, e1]
  simp only [badAt, if_neg h]
theorem bad_end {f : Fil} {l : List UInt8} {k : Nat} (h : l.length ≤ k) : badAt f (l.drop k) k = -1 := by
  rw [List.drop_eq_nil_of_le h]; rfl
theorem bad_le (f : Fil) : ∀ (l : List UInt8) (i : Nat), badAt f l i ≤ (i + l.length : Int) ∧ -1 ≤ badAt f l i
  | [], i => by simp only [badAt, List.length_nil]; omega
  | c :: r, i => by
    simp only [badAt]
    have := bad_le f r (i + 1)
    split
    · simp only [List.length_cons]; omega
    · simp only [List.length_cons]; omega
theorem ok_1 {f : Fil} {i : Nat} {c : UInt8} (h : f.kd = 1) : okAt f i c ↔ (i : Int) < f.mx := ⟨fun q => q.1, fun q => ⟨q, fun e => by omega, fun e => by omega⟩⟩
theorem ok_2 {f : Fil} {i : Nat} {c : UInt8} (h : f.kd = 2) : okAt f i c ↔ ((i : Int) < f.mx ∧ inCl (bl f.fm) c) := ⟨fun q => ⟨q.1, q.2.1 h⟩, fun q => ⟨q.1, fun _ => q.2, fun e => by omega⟩⟩
theorem ok_3 {f : Fil} {i : Nat} {c : UInt8} (h : f.kd = 3) : okAt f i c ↔ ((i : Int) < f.mx ∧ ∃ g, (bl (recF f.fm).1)[i]? = some g ∧ fitsC g c) := ⟨fun q => ⟨q.1, q.2.2 h⟩, fun q => ⟨q.1, fun e => by omega, fun _ => q.2⟩⟩
def firstF (f : Fil) (s : ByteArray) : Int := badAt f (bl s) 0
def placeF (f : Fil) (s : ByteArray) : Int × Int := if filR f then ((if firstF f s < 0 ∧ f.kd = 3 ∧ s.size < (recF f.fm).1.size then (s.size : Int) else firstF f s), 0) else (0, 130)
def passP (f : Fil) (s : ByteArray) : Prop := (placeF f s).2 = 0 ∧ (placeF f s).1 < 0
instance (f : Fil) (s : ByteArray) : Decidable (passP f s) := by unfold passP; infer_instance
theorem firstF_0 (f : Fil) (s : ByteArray) : firstF f s = badAt f ((bl s).drop 0) 0 := rfl
theorem firstF_le (f : Fil) (s : ByteArray) : firstF f s ≤ s.size ∧ -1 ≤ firstF f s := by
  have := bad_le f (bl s) 0
  rw [bl_size] at this
  unfold firstF; omega
theorem place_no {f : Fil} {s : ByteArray} (h : ¬ filR f) : placeF f s = (0, 130) := if_neg h
theorem place_1 {f : Fil} {s : ByteArray} (h : filR f) (hn : ¬ (firstF f s < 0 ∧ f.kd = 3 ∧ s.size < (recF f.fm).1.size)) : placeF f s = (firstF f s, 0) := by unfold placeF; rw [if_pos h, if_neg hn]
theorem place_2 {f : Fil} {s : ByteArray} (h : filR f) (hn : firstF f s < 0 ∧ f.kd = 3 ∧ s.size < (recF f.fm).1.size) : placeF f s = ((s.size : Int), 0) := by unfold placeF; rw [if_pos h, if_pos hn]
theorem filR_3 {f : Fil} (h : (0 ≤ f.mx ∧ f.mx ≤ 200 ∧ f.fm.size ≤ 40) ∧ f.kd = 3) : filR f ↔ (recF f.fm).2 = false := by
  unfold filR
  constructor
  · rintro ⟨_, q | q | q⟩
    · omega
    · omega
    · exact q.2
  · intro q; exact ⟨h.1, .inr (.inr ⟨h.2, q⟩)⟩
theorem filR_no {f : Fil} (h : ¬ (0 ≤ f.mx ∧ f.mx ≤ 200 ∧ f.fm.size ≤ 40)) : ¬ filR f := fun q => h q.1
theorem filR_no1 {f : Fil} (h : f.kd = 1) (hn : ¬ f.fm = ⟨#[]⟩) : ¬ filR f := by
  rintro ⟨_, q | q | q⟩
  · exact hn q.2
  · omega
  · omega
theorem filR_no2 {f : Fil} (h : f.kd = 2) (hn : ¬ classP f.fm) : ¬ filR f := by
  rintro ⟨_, q | q | q⟩
  · omega
  · exact hn q.2
  · omega
theorem filR_no0 {f : Fil} (h1 : ¬ f.kd = 1) (h2 : ¬ f.kd = 2) (h3 : ¬ f.kd = 3) : ¬ filR f := by
  rintro ⟨_, q | q | q⟩
  · exact h1 q.1
  · exact h2 q.1
  · exact h3 q.1
def fefV (a : Addr) : Bool → Value
  | false => .nilIface
  | true => .iface 153 (.pointer (some a))
theorem fef_ne (a : Addr) (q : Bool) (i : Nat) (w : World) : (do eqGuard .neq 50 (.tmp i) (.const .nilIface) (fefV a q) .nilIface; binOp .neq 50 (fefV a q) .nilIface : Sem Value).run Tryz.prog w = .ok (.bool (!decide (q = false))) w := by
  cases q
  · kernel_rfl
  · kernel_rfl
theorem fef_eq (a : Addr) (q : Bool) (i : Nat) (w : World) : (do eqGuard .eql 50 (.tmp i) (.const .nilIface) (fefV a q) .nilIface; binOp .eql 50 (fefV a q) .nilIface : Sem Value).run Tryz.prog w = .ok (.bool (decide (q = false))) w := by
  cases q
  · kernel_rfl
  · kernel_rfl
end Go.Proofs.YthehnjbdkjnlpaaGreatDoor
