/- The laws of chapter 15 (journal), walked over the given program; no condition but what stands in each theorem: part RA. -/
import Derived.Test.YthehnjbdkjnlpaaGreatDoorRFA
set_option linter.unusedVariables false
set_option linter.unusedSimpArgs false
set_option maxRecDepth 100000
set_option maxHeartbeats 8000000
namespace Go.Proofs.YthehnjbdkjnlpaaGreatDoor
open Go Go.Sl Go.RowKit Go.Extern.Stop Go.Stop Go.Extern

def rulOk (r : Rul) : Prop := (1 ≤ r.id ∧ r.id ≤ 99) ∧ labRight r.fr ∧ labRight r.to ∧ ¬ r.fr = r.to ∧ (0 ≤ r.bu ∧ r.bu ≤ 1000) ∧ filR r.wh
instance (r : Rul) : Decidable (rulOk r) := by unfold rulOk; infer_instance
def rulesFrom : Int → List Rul → Prop
  | _, [] => True
  | last, r :: l => rulOk r ∧ last < r.id ∧ rulesFrom r.id l
instance rulesFromDec : (last : Int) → (l : List Rul) → Decidable (rulesFrom last l)
  | _, [] => isTrue trivial
  | last, x :: r => @instDecidableAnd _ _ _ (@instDecidableAnd _ _ _ (rulesFromDec x.id r))
def rulesR (l : List Rul) : Prop := rulesFrom 0 l ∧ l.length ≤ 8
instance (l : List Rul) : Decidable (rulesR l) := by unfold rulesR; infer_instance
theorem rulesFrom_at {last : Int} {l : List Rul} {k : Nat} {x : Rul} (hx : l[k]? = some x) : rulesFrom last (l.drop k) ↔ rulOk x ∧ last < x.id ∧ rulesFrom x.id (l.drop (k + 1)) := by
  rw [drop_two hx]; exact Iff.rfl
theorem rules_end {l : List Rul} {k : Nat} {last : Int} (hF : rulesFrom 0 l ↔ rulesFrom last (l.drop k)) (hk : l.length ≤ k) (h8 : l.length ≤ 8) : rulesR l := ⟨hF.2 (by rw [List.drop_eq_nil_of_le hk]; trivial), h8⟩
def lastId (l : List Rul) : Nat → Int
  | 0 => 0
  | k + 1 => (l[k]?.map (·.id)).getD 0
theorem lastId_at {l : List Rul} {k : Nat} {x : Rul} (hx : l[k]? = some x) : lastId l (k + 1) = x.id := by show (l[k]?.map (·.id)).getD 0 = x.id; rw [hx]; rfl
theorem rl_step {l : List Rul} {k : Nat} {x : Rul} (hF : rulesFrom 0 l ↔ rulesFrom (lastId l k) (l.drop k)) (hx : l[k]? = some x) (h1 : rulOk x) (h2 : lastId l k < x.id) : rulesFrom 0 l ↔ rulesFrom (lastId l (k + 1)) (l.drop (k + 1)) := by
  rw [lastId_at hx]
  exact hF.trans ((rulesFrom_at hx).trans ⟨fun q => q.2.2, fun q => ⟨h1, h2, q⟩⟩)
theorem rl_0 {l : List Rul} {k : Nat} {x : Rul} (h : ¬ (k : Int) > 0) (hr : rulOk x) : lastId l k < x.id := by
  have : k = 0 := by omega
  subst this
  have := hr.1.1
  show (0 : Int) < x.id
  omega
theorem rl_1 {l : List Rul} {k : Nat} {x y : Rul} (h : (k : Int) > 0) (hy : l[((k : Int) - 1).toNat]? = some y) (hl : ¬ y.id ≥ x.id) : lastId l k < x.id := by
  obtain ⟨j, rfl⟩ : ∃ j, k = j + 1 := ⟨k - 1, by omega⟩
  have e : (((j + 1 : Nat) : Int) - 1).toNat = j := by omega
  rw [e] at hy
  rw [lastId_at hy]; omega
theorem rl_2 {l : List Rul} {k : Nat} {x y : Rul} (h : (k : Int) > 0) (hy : l[((k : Int) - 1).toNat]? = some y) (hl : y.id ≥ x.id) : ¬ lastId l k < x.id := by
  obtain ⟨j, rfl⟩ : ∃ j, k = j + 1 := ⟨k - 1, by omega⟩
  have e : (((j + 1 : Nat) : Int) - 1).toNat = j := by omega
  rw [e] at hy
  rw [lastId_at hy]; omega
def findR : List Rul → Int → Option Rul
  | [], _ => none
  | r :: l, id => if r.id = id then some r else findR l id
theorem find_yes {l : List Rul} {id : Int} {k : Nat} {x : Rul} (hb : findR l id = findR (l.drop k) id) (hx : l[k]? = some x) (h : x.id = id) : findR l id = some x := by
  rw [hb, drop_two hx]; exact if_pos h
theorem find_next {l : List Rul} {id : Int} {k : Nat} {x : Rul} (hb : findR l id = findR (l.drop k) id) (hx : l[k]? = some x) (h : ¬ x.id = id) : findR l id = findR (l.drop (k + 1)) id := by
  rw [hb, drop_two hx]; exact if_neg h
theorem find_none {l : List Rul} {id : Int} {k : Nat} (hb : findR l id = findR (l.drop k) id) (hk : l.length ≤ k) : findR l id = none := by
  rw [hb, List.drop_eq_nil_of_le hk]; rfl
theorem find_id : ∀ {l : List Rul} {id : Int} {r : Rul}, findR l id = some r → r.id = id ∧ r ∈ l
  | x :: l, id, r, h => by
    unfold findR at h
    split at h
    · cases h; exact ⟨by assumption, by simp⟩
    · have := find_id h; exact ⟨this.1, by simp [this.2]⟩
def rulSm (r : Rul) : Prop := r.wh.fm.size ≤ 1000
instance (r : Rul) : Decidable (rulSm r) := by unfold rulSm; infer_instance
end Go.Proofs.YthehnjbdkjnlpaaGreatDoor
