/- The laws of chapter 17 (call), walked over the given program; no condition but what stands in each theorem: part LPC. -/
import Derived.Test.YtcnncdniibkjkaaDoorRCK
import Derived.Test.YtcnncdniibkjkaaDoorRLPB
set_option linter.unusedVariables false
set_option linter.unusedSimpArgs false
set_option maxRecDepth 100000
set_option maxHeartbeats 8000000
namespace Go.Proofs.YtcnncdniibkjkaaDoor
open Go Go.Sl Go.RowKit Go.Extern.Stop Go.Stop Go.Extern

def encC (y : UInt8) (c : Cal) : ByteArray × Int := if y = 76 then putL c.lb else if y = 84 then ptextF c.nm else if y = 68 then ptextF c.da else if y = 65 then ((putF 2 (u64 c.pl)).1, numE 2 c.pl) else if y = 78 then ((putF 2 (u64 c.nn)).1, numE 2 c.nn) else if y = 73 then ((putF 1 (u64 c.id)).1, numE 1 c.id) else (⟨#[]⟩, 0)
def clrC (y : UInt8) (c : Cal) : Cal := if y = 76 then ⟨c.op, ⟨0, 0, 0⟩, c.nm, c.pl, c.nn, c.da, c.id⟩ else if y = 84 then ⟨c.op, c.lb, ⟨#[]⟩, c.pl, c.nn, c.da, c.id⟩ else if y = 68 then ⟨c.op, c.lb, c.nm, c.pl, c.nn, ⟨#[]⟩, c.id⟩ else if y = 65 then ⟨c.op, c.lb, c.nm, 0, c.nn, c.da, c.id⟩ else if y = 78 then ⟨c.op, c.lb, c.nm, c.pl, 0, c.da, c.id⟩ else if y = 73 then ⟨c.op, c.lb, c.nm, c.pl, c.nn, c.da, 0⟩ else c
def clrN (l : List UInt8) (c : Cal) : Cal := l.foldl (fun c y => clrC y c) c
def setC (y : UInt8) (c d : Cal) : Cal := if y = 76 then ⟨d.op, c.lb, d.nm, d.pl, d.nn, d.da, d.id⟩ else if y = 84 then ⟨d.op, d.lb, c.nm, d.pl, d.nn, d.da, d.id⟩ else if y = 68 then ⟨d.op, d.lb, d.nm, d.pl, d.nn, c.da, d.id⟩ else if y = 65 then ⟨d.op, d.lb, d.nm, c.pl, d.nn, d.da, d.id⟩ else if y = 78 then ⟨d.op, d.lb, d.nm, d.pl, c.nn, d.da, d.id⟩ else if y = 73 then ⟨d.op, d.lb, d.nm, d.pl, d.nn, d.da, c.id⟩ else d
def setN : List UInt8 → Cal → Cal → Cal
  | [], _, d => d
  | y :: l, c, d => setN l (clrC y c) (setC y c d)
theorem putC_enc {y : UInt8} (hy : isLet y) (x : Wst) : putC x y = (x.1 ++ (encC y x.2.2).1, addQ x.2.1 (encC y x.2.2).2, clrC y x.2.2) := by
  rcases hy with rfl | rfl | rfl | rfl | rfl | rfl <;> rfl
theorem addQ_none {q : Ec} {e : Int} (h : addQ q e = none) : q = none ∧ e = 0 := by
  unfold addQ ecI at h
  by_cases hq : q = none
  · rw [if_pos hq] at h
    by_cases he : e = 0
    · exact ⟨hq, he⟩
    · rw [if_neg he] at h; cases h
  · rw [if_neg hq] at h; exact absurd h hq
theorem addQ_00 : addQ none 0 = none := rfl
theorem putN_none : ∀ (l : List UInt8) (x : Wst), (∀ y ∈ l, isLet y) → (putN l x).2.1 = none → x.2.1 = none
  | [], _, _, h => h
  | y :: l, x, hl, h => by
    have h1 := putN_none l (putC x y) (fun z hz => hl z (by simp [hz])) h
    rw [putC_enc (hl y (by simp))] at h1
    exact (addQ_none h1).1
def encN : List UInt8 → Cal → ByteArray
  | [], _ => ⟨#[]⟩
  | y :: l, c => (encC y c).1 ++ encN l (clrC y c)
def okN : List UInt8 → Cal → Prop
  | [], _ => True
  | y :: l, c => (encC y c).2 = 0 ∧ okN l (clrC y c)
theorem putN_enc : ∀ (l : List UInt8) (r : ByteArray) (c : Cal), (∀ y ∈ l, isLet y) → (putN l (r, none, c)).2.1 = none → okN l c ∧ putN l (r, none, c) = (r ++ encN l c, none, clrN l c)
  | [], r, c, _, _ => ⟨trivial, by show (r, none, c) = (r ++ ⟨#[]⟩, none, c); rw [ba_nil']⟩
  | y :: l, r, c, hl, h => by
    have hy := hl y (by simp)
    have hl' : ∀ z ∈ l, isLet z := fun z hz => hl z (by simp [hz])
    have e : putN (y :: l) (r, none, c) = putN l (putC (r, none, c) y) := rfl
    rw [e] at h ⊢
    have h1 := putN_none l _ hl' h
    rw [putC_enc hy] at h h1 ⊢
    have h2 : (encC y c).2 = 0 := (addQ_none (show addQ none (encC y c).2 = none from h1)).2
    simp only at h ⊢
    rw [h2, addQ_00] at h ⊢
    obtain ⟨i1, i2⟩ := putN_enc l _ _ hl' h
    refine ⟨⟨h2, i1⟩, ?_⟩
    rw [i2]
    show _ = (r ++ ((encC y c).1 ++ encN l (clrC y c)), none, clrN l (clrC y c))
    rw [ba_assoc]
theorem putN_of : ∀ (l : List UInt8) (r : ByteArray) (c : Cal), (∀ y ∈ l, isLet y) → okN l c → putN l (r, none, c) = (r ++ encN l c, none, clrN l c)
  | [], r, c, _, _ => by show (r, none, c) = (r ++ ⟨#[]⟩, none, c); rw [ba_nil']
  | y :: l, r, c, hl, h => by
    have hy := hl y (by simp)
    have hl' : ∀ z ∈ l, isLet z := fun z hz => hl z (by simp [hz])
    have e : putN (y :: l) (r, none, c) = putN l (putC (r, none, c) y) := rfl
    rw [e, putC_enc hy]
    simp only
    rw [h.1, addQ_00, putN_of l _ _ hl' h.2]
    show _ = (r ++ ((encC y c).1 ++ encN l (clrC y c)), none, clrN l (clrC y c))
    rw [ba_assoc]
theorem num_put {w n : Int} (h : numE w n = 0) : 0 ≤ n ∧ (putF w (u64 n)).2 = 0 := by
  unfold numE at h
  by_cases hn : n < 0
  · rw [if_pos hn] at h; exact absurd h (by decide)
  · rw [if_neg hn] at h; exact ⟨by omega, h⟩
theorem num_get {w n : Int} {t : ByteArray} (h : numE w n = 0) (h64 : n < 18446744073709551616) : getF w ((putF w (u64 n)).1 ++ t) = (u64 n, t, 0) ∧ ((u64 n : Nat) : Int) = n := by
  obtain ⟨h1, h2⟩ := num_put h
  obtain ⟨m, rfl⟩ := Int.eq_ofNat_of_zero_le h1
  have e : u64 (m : Int) = m := u64_of (by have : (m : Int) < 18446744073709551616 := h64; omega)
  exact ⟨back_1 h2, by show ((u64 (m : Int) : Nat) : Int) = (m : Int); rw [e]⟩
def c64 (c : Cal) : Prop := lab64 c.lb ∧ c.pl < 18446744073709551616 ∧ c.nn < 18446744073709551616 ∧ c.id < 18446744073709551616
theorem c64_clr {y : UInt8} {c : Cal} (hy : isLet y) (h : c64 c) : c64 (clrC y c) := by
  obtain ⟨h1, h2, h3, h4⟩ := h
  have l0 : lab64 ⟨0, 0, 0⟩ := by show (0 : Nat) < _; decide
  rcases hy with rfl | rfl | rfl | rfl | rfl | rfl
  · exact ⟨l0, h2, h3, h4⟩
  · exact ⟨h1, h2, h3, h4⟩
  · exact ⟨h1, h2, h3, h4⟩
  · exact ⟨h1, by show (0 : Int) < _; decide, h3, h4⟩
  · exact ⟨h1, h2, by show (0 : Int) < _; decide, h4⟩
  · exact ⟨h1, h2, h3, by show (0 : Int) < _; decide⟩
theorem getC_enc {y : UInt8} {c d : Cal} {t : ByteArray} (hy : isLet y) (hc : c64 c) (h : (encC y c).2 = 0) : getC ((encC y c).1 ++ t, none, d) y = (t, none, setC y c d) := by
  obtain ⟨h1, h2, h3, h4⟩ := hc
  rcases hy with rfl | rfl | rfl | rfl | rfl | rfl
  · have e : labGet ((putL c.lb).1 ++ t) = (c.lb, t, 0) := lback h h1
    show ((labGet ((putL c.lb).1 ++ t)).2.1, addQ none (labGet ((putL c.lb).1 ++ t)).2.2, (⟨d.op, (labGet ((putL c.lb).1 ++ t)).1, d.nm, d.pl, d.nn, d.da, d.id⟩ : Cal)) = _
    rw [e]; rfl
  · have e : textF ((ptextF c.nm).1 ++ t) = (c.nm, t, 0) := text_1 h
    show ((textF ((ptextF c.nm).1 ++ t)).2.1, addQ none (textF ((ptextF c.nm).1 ++ t)).2.2, (⟨d.op, d.lb, (textF ((ptextF c.nm).1 ++ t)).1, d.pl, d.nn, d.da, d.id⟩ : Cal)) = _
    rw [e]; rfl
  · have e : textF ((ptextF c.da).1 ++ t) = (c.da, t, 0) := text_1 h
    show ((textF ((ptextF c.da).1 ++ t)).2.1, addQ none (textF ((ptextF c.da).1 ++ t)).2.2, (⟨d.op, d.lb, d.nm, d.pl, d.nn, (textF ((ptextF c.da).1 ++ t)).1, d.id⟩ : Cal)) = _
    rw [e]; rfl
  · obtain ⟨e, e2⟩ := num_get (t := t) h h2
    show ((getF 2 ((putF 2 (u64 c.pl)).1 ++ t)).2.1, addQ none (getF 2 ((putF 2 (u64 c.pl)).1 ++ t)).2.2, (⟨d.op, d.lb, d.nm, ((getF 2 ((putF 2 (u64 c.pl)).1 ++ t)).1 : Int), d.nn, d.da, d.id⟩ : Cal)) = (t, none, ⟨d.op, d.lb, d.nm, c.pl, d.nn, d.da, d.id⟩)
    rw [e]; simp only; rw [e2]; rfl
  · obtain ⟨e, e2⟩ := num_get (t := t) h h3
    show ((getF 2 ((putF 2 (u64 c.nn)).1 ++ t)).2.1, addQ none (getF 2 ((putF 2 (u64 c.nn)).1 ++ t)).2.2, (⟨d.op, d.lb, d.nm, d.pl, ((getF 2 ((putF 2 (u64 c.nn)).1 ++ t)).1 : Int), d.da, d.id⟩ : Cal)) = (t, none, ⟨d.op, d.lb, d.nm, d.pl, c.nn, d.da, d.id⟩)
    rw [e]; simp only; rw [e2]; rfl
  · obtain ⟨e, e2⟩ := num_get (t := t) h h4
    show ((getF 1 ((putF 1 (u64 c.id)).1 ++ t)).2.1, addQ none (getF 1 ((putF 1 (u64 c.id)).1 ++ t)).2.2, (⟨d.op, d.lb, d.nm, d.pl, d.nn, d.da, ((getF 1 ((putF 1 (u64 c.id)).1 ++ t)).1 : Int)⟩ : Cal)) = (t, none, ⟨d.op, d.lb, d.nm, d.pl, d.nn, d.da, c.id⟩)
    rw [e]; simp only; rw [e2]; rfl
theorem getN_enc : ∀ (l : List UInt8) (c d : Cal) (t : ByteArray), (∀ y ∈ l, isLet y) → c64 c → okN l c → getN l (encN l c ++ t, none, d) = (t, none, setN l c d)
  | [], c, d, t, _, _, _ => by show ((⟨#[]⟩ : ByteArray) ++ t, none, d) = (t, none, d); rw [ba_nil]
  | y :: l, c, d, t, hl, hc, h => by
    have hy := hl y (by simp)
    have hl' : ∀ z ∈ l, isLet z := fun z hz => hl z (by simp [hz])
    have e : getN (y :: l) (encN (y :: l) c ++ t, none, d) = getN l (getC ((encC y c).1 ++ encN l (clrC y c) ++ t, none, d) y) := rfl
    rw [e, ba_assoc, getC_enc hy hc h.1]
    exact getN_enc l _ _ t hl' (c64_clr hy hc) h.2
theorem set_all (c : Cal) (h : clrN (lts (signsF c.op)) ⟨0, c.lb, c.nm, c.pl, c.nn, c.da, c.id⟩ = cal0) (ho : isOp c.op) : setN (lts (signsF c.op)) ⟨0, c.lb, c.nm, c.pl, c.nn, c.da, c.id⟩ ⟨c.op, ⟨0, 0, 0⟩, ⟨#[]⟩, 0, 0, ⟨#[]⟩, 0⟩ = c := by
  obtain ⟨op, lb, nm, pl, nn, da, id⟩ := c
  simp only at h ho ⊢
  have hop : op = 1 ∨ op = 2 ∨ op = 3 ∨ op = 4 ∨ op = 5 ∨ op = 6 ∨ op = 7 ∨ op = 8 ∨ op = 9 ∨ op = 10 ∨ op = 11 ∨ op = 12 ∨ op = 13 ∨ op = 14 ∨ op = 15 ∨ op = 16 := by unfold isOp at ho; omega
  rcases hop with rfl | rfl | rfl | rfl | rfl | rfl | rfl | rfl | rfl | rfl | rfl | rfl | rfl | rfl | rfl | rfl <;>
    (simp [signsF, lts, clrN, clrC, cal0] at h; simp [signsF, lts, setN, setC, clrC]; first | done | (simp [h]; done) | (obtain ⟨q1, q2, q3, q4, q5, q6⟩ := h; simp [*]; done) | simp_all)
theorem back_c1 {c : Cal} {t : ByteArray} (h : (callPut c).2 = 0) (hc : c64 c) : opG ((callPut c).1 ++ t) = c.op ∧ getX ((callPut c).1 ++ t) = (t, none, c) := by
  obtain ⟨h1, h2, h3, h4⟩ := cput_good h
  have hi : putI c = (beB 1 (u64 c.op), none, ⟨0, c.lb, c.nm, c.pl, c.nn, c.da, c.id⟩) := by
    obtain ⟨i1, i2⟩ := putI_op h1
    show ((putI c).1, (putI c).2.1, (putI c).2.2) = _
    rw [i1, i2]; rfl
  unfold putX at h2 h3 h4
  rw [hi] at h2 h3 h4
  obtain ⟨k1, k2⟩ := putN_enc _ _ _ (signs_let c.op) h2
  rw [k2] at h3 h4
  have e1 : (callPut c).1 ++ t = (putF 1 (u64 c.op)).1 ++ (encN (lts (signsF c.op)) ⟨0, c.lb, c.nm, c.pl, c.nn, c.da, c.id⟩ ++ t) := by rw [h4, put_op h1]; exact ba_assoc _ _ _
  have e2 : getF 1 ((callPut c).1 ++ t) = (u64 c.op, encN (lts (signsF c.op)) ⟨0, c.lb, c.nm, c.pl, c.nn, c.da, c.id⟩ ++ t, 0) := by rw [e1]; exact back_1 (by rw [put_op h1])
  have e3 : opG ((callPut c).1 ++ t) = c.op := by unfold opG; rw [e2]; exact u64_op h1
  refine ⟨e3, ?_⟩
  unfold getX getI
  rw [e3, e2]
  simp only
  rw [addQ_00, getN_enc _ ⟨0, c.lb, c.nm, c.pl, c.nn, c.da, c.id⟩ _ _ (signs_let c.op) (by exact hc) k1, set_all c h3 h1]
theorem back_c {c : Cal} (h : (callPut c).2 = 0) (hc : c64 c) : callGet (callPut c).1 = (c, 0) := by
  have e := back_c1 (t := ⟨#[]⟩) h hc
  rw [ba_nil'] at e
  obtain ⟨h1, _⟩ := cput_good h
  unfold callGet
  rw [e.1, e.2, if_pos ⟨h1, rfl, rfl⟩]
theorem more_c {c : Cal} {t : ByteArray} (h : (callPut c).2 = 0) (hc : c64 c) (ht : ¬ t = ⟨#[]⟩) : callGet ((callPut c).1 ++ t) = (cal0, 170) := by
  have e := back_c1 (t := t) h hc
  unfold callGet
  rw [e.2, if_neg (fun q => ht q.2.2)]
end Go.Proofs.YtcnncdniibkjkaaDoor
