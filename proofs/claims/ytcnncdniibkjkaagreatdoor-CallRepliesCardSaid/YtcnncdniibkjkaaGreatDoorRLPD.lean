/- The laws of chapter 17 (call), walked over the given program; no condition but what stands in each theorem: part LPD. -/
import Derived.Test.YtcnncdniibkjkaaGreatDoorRCL
import Derived.Test.YtcnncdniibkjkaaGreatDoorRLPB
set_option linter.unusedVariables false
set_option linter.unusedSimpArgs false
set_option maxRecDepth 100000
set_option maxHeartbeats 8000000
namespace Go.Proofs.YtcnncdniibkjkaaGreatDoor
open Go Go.Sl Go.RowKit Go.Extern.Stop Go.Stop Go.Extern

def encC (y : UInt8) (c : Cal) : ByteArray × Int := if y = 76 then putL c.lb else if y = 84 then ptextF c.nm else if y = 68 then ptextF c.da else if y = 65 then ((putF 2 (u64 c.pl)).1, numE 2 c.pl) else if y = 78 then ((putF 2 (u64 c.nn)).1, numE 2 c.nn) else if y = 73 then ((putF 1 (u64 c.id)).1, numE 1 c.id) else (⟨#[]⟩, 0)
def clrC (y : UInt8) (c : Cal) : Cal := if y = 76 then ⟨c.op, ⟨0, 0, 0⟩, c.nm, c.pl, c.nn, c.da, c.id⟩ else if y = 84 then ⟨c.op, c.lb, ⟨#[]⟩, c.pl, c.nn, c.da, c.id⟩ else if y = 68 then ⟨c.op, c.lb, c.nm, c.pl, c.nn, ⟨#[]⟩, c.id⟩ else if y = 65 then ⟨c.op, c.lb, c.nm, 0, c.nn, c.da, c.id⟩ else if y = 78 then ⟨c.op, c.lb, c.nm, c.pl, 0, c.da, c.id⟩ else if y = 73 then ⟨c.op, c.lb, c.nm, c.pl, c.nn, c.da, 0⟩ else c
def clrN (l : List UInt8) (c : Cal) : Cal := l.foldl (fun c y => clrC y c) c
def setC (y : UInt8) (c d : Cal) : Cal := if y = 76 then ⟨d.op, c.lb, d.nm, d.pl, d.nn, d.da, d.id⟩ else if y = 84 then ⟨d.op, d.lb, c.nm, d.pl, d.nn, d.da, d.id⟩ else if y = 68 then ⟨d.op, d.lb, d.nm, d.pl, d.nn, c.da, d.id⟩ else if y = 65 then ⟨d.op, d.lb, d.nm, c.pl, d.nn, d.da, d.id⟩ else if y = 78 then ⟨d.op, d.lb, d.nm, d.pl, c.nn, d.da, d.id⟩ else if y = 73 then ⟨d.op, d.lb, d.nm, d.pl, d.nn, d.da, c.id⟩ else d
def setN : List UInt8 → Cal → Cal → Cal
  | [], _, d => d
  | y :: l, c, d => setN l (clrC y c) (setC y c d)
theorem putC_enc {y : UInt8} (hy : isLet y) (x : Wst) : putC x y = (x.1 ++ (encC y x.2.2).1, addQ x.2.1 (encC y x.2.2).2, clrC y x.2.2) := by
  rcases hy with rfl | rfl | rfl | rfl | rfl | rfl <;> rfl
theorem addQ_none {q : Ec} {e : Int} (h : addQ q e = none) : q = none ∧ e = 0 := by
  unfold addQ ecI at h
  by_cases hq : q = none
  · rw [if_pos hq] at h
    by_cases he : e = 0
    · exact ⟨hq, he⟩
    · rw [if_neg he] at h; cases h
  · rw [if_neg hq] at h; exact absurd h hq
theorem addQ_00 : addQ none 0 = none := rfl
theorem putN_none : ∀ (l : List UInt8) (x : Wst), (∀ y ∈ l, isLet y) → (putN l x).2.1 = none → x.2.1 = none
  | [], _, _, h => h
  | y :: l, x, hl, h => by
    have h1 := putN_none l (putC x y) (fun z hz => hl z (by simp [hz])) h
    rw [putC_enc (hl y (by simp))] at h1
    exact (addQ_none h1).1
def encN : List UInt8 → Cal → ByteArray
  | [], _ => ⟨#[]⟩
  | y :: l, c => (encC y c).1 ++ encN l (clrC y c)
def okN : List UInt8 → Cal → Prop
  | [], _ => True
  | y :: l, c => (encC y c).2 = 0 ∧ okN l (clrC y c)
theorem putN_enc : ∀ (l : List UInt8) (r : ByteArray) (c : Cal), (∀ y ∈ l, isLet y) → (putN l (r, none, c)).2.1 = none → okN l c ∧ putN l (r, none, c) = (r ++ encN l c, none, clrN l c)
  | [], r, c, _, _ => ⟨trivial, by show (r, none, c) = (r ++ ⟨#[]⟩, none, c); rw [ba_nil']⟩
  | y :: l, r, c, hl, h => by
    have hy := hl y (by simp)
    have hl' : ∀ z ∈ l, isLet z := fun z hz => hl z (by simp [hz])
    have e : putN (y :: l) (r, none, c) = putN l (putC (r, none, c) y) := rfl
    rw [e] at h ⊢
    have h1 := putN_none l _ hl' h
    rw [putC_enc hy] at h h1 ⊢
    have h2 : (encC y c).2 = 0 := (addQ_none (show addQ none (encC y c).2 = none from h1)).2
    simp only at h ⊢
    rw [h2, addQ_00] at h ⊢
    obtain ⟨i1, i2⟩ := putN_enc l _ _ hl' h
    refine ⟨⟨h2, i1⟩, ?_⟩
    rw [i2]
    show _ = (r ++ ((encC y c).1 ++ encN l (clrC y c)), none, clrN l (clrC y c))
    rw [ba_assoc]
theorem putN_of : ∀ (l : List UInt8) (r : ByteArray) (c : Cal), (∀ y ∈ l, isLet y) → okN l c → putN l (r, none, c) = (r ++ encN l c, none, clrN l c)
  | [], r, c, _, _ => by show (r, none, c) = (r ++ ⟨#[]⟩, none, c); rw [ba_nil']
  | y :: l, r, c, hl, h => by
    have hy := hl y (by simp)
    have hl' : ∀ z ∈ l, isLet z := fun z hz => hl z (by simp [hz])
    have e : putN (y :: l) (r, none, c) = putN l (putC (r, none, c) y) := rfl
    rw [e, putC_enc hy]
    simp only
    rw [h.1, addQ_00, putN_of l _ _ hl' h.2]
    show _ = (r ++ ((encC y c).1 ++ encN l (clrC y c)), none, clrN l (clrC y c))
    rw [ba_assoc]
theorem num_put {w n : Int} (h : numE w n = 0) : 0 ≤ n ∧ (putF w (u64 n)).2 = 0 := by
  unfold numE at h
  by_cases hn : n < 0
  · rw [if_pos hn] at h; exact absurd h (by decide)
  · rw [if_neg hn] at h; exact ⟨by omega, h⟩
theorem num_get {w n : Int} {t : ByteArray} (h : numE w n = 0) (h64 : n < 18446744073709551616) : getF w ((putF w (u64 n)).1 ++ t) = (u64 n, t, 0) ∧ ((u64 n : Nat) : Int) = n := by
  obtain ⟨h1, h2⟩ := num_put h
  obtain ⟨m, rfl⟩ := Int.eq_ofNat_of_zero_le h1
  have e : u64 (m : Int) = m := u64_of (by have : (m : Int) < 18446744073709551616 := h64; omega)
  exact ⟨back_1 h2, by show ((u64 (m : Int) : Nat) : Int) = (m : Int); rw [e]⟩
def c64 (c : Cal) : Prop := lab64 c.lb ∧ c.pl < 18446744073709551616 ∧ c.nn < 18446744073709551616 ∧ c.id < 18446744073709551616
theorem c64_clr {y : UInt8} {c : Cal} (hy : isLet y) (h : c64 c) : c64 (clrC y c) := by
  obtain ⟨h1, h2, h3, h4⟩ := h
  have l0 : lab64 ⟨0, 0, 0⟩ := by show (0 : Nat) < _; decide
  rcases hy with rfl | rfl | rfl | rfl | rfl | rfl
  · exact ⟨l0, h2, h3, h4⟩
  · exact ⟨h1, h2, h3, h4⟩
  · exact ⟨h1, h2, h3, h4⟩
  · exact ⟨h1, by show (0 : Int) < _; decide, h3, h4⟩
  · exact ⟨h1, h2, by show (0 : Int) < _; decide, h4⟩
  · exact ⟨h1, h2, h3, by show (0 : Int) < _; decide⟩
theorem getC_enc {y : UInt8} {c d : Cal} {t : ByteArray} (hy : isLet y) (hc : c64 c) (h : (encC y c).2 = 0) : getC ((encC y c).1 ++ t, none, d) y = (t, none, setC y c d) := by
  obtain ⟨h1, h2, h3, h4⟩ := hc
  rcases hy with rfl | rfl | rfl | rfl | rfl | rfl
  · have e : labGet ((putL c.lb).1 ++ t) = (c.lb, t, 0) := lback h h1
    show ((labGet ((putL c.lb).1 ++ t)).2.1, addQ none (labGet ((putL c.lb).1 ++ t)).2.2, (⟨d.op, (labGet ((putL c.lb).1 ++ t)).1, d.nm, d.pl, d.nn, d.da, d.id⟩ : Cal)) = _
    rw [e]; rfl
  · have e : textF ((ptextF c.nm).1 ++ t) = (c.nm, t, 0) := text_1 h
    show ((textF ((ptextF c.nm).1 ++ t)).2.1, addQ none (textF ((ptextF c.nm).1 ++ t)).2.2, (⟨d.op, d.lb, (textF ((ptextF c.nm).1 ++ t)).1, d.pl, d.nn, d.da, d.id⟩ : Cal)) = _
    rw [e]; rfl
  · have e : textF ((ptextF c.da).1 ++ t) = (c.da, t, 0) := text_1 h
    show ((textF ((ptextF c.da).1 ++ t)).2.1, addQ none (textF ((ptextF c.da).1 ++ t)).2.2, (⟨d.op, d.lb, d.nm, d.pl, d.nn, (textF ((ptextF c.da).1 ++ t)).1, d.id⟩ : Cal)) = _
    rw [e]; rfl
  · obtain ⟨e, e2⟩ := num_get (t := t) h h2
    show ((getF 2 ((putF 2 (u64 c.pl)).1 ++ t)).2.1, addQ none (getF 2 ((putF 2 (u64 c.pl)).1 ++ t)).2.2, (⟨d.op, d.lb, d.nm, ((getF 2 ((putF 2 (u64 c.pl)).1 ++ t)).1 : Int), d.nn, d.da, d.id⟩ : Cal)) = (t, none, ⟨d.op, d.lb, d.nm, c.pl, d.nn, d.da, d.id⟩)
    rw [e]; simp only; rw [e2]; rfl
  · obtain ⟨e, e2⟩ := num_get (t := t) h h3
    show ((getF 2 ((putF 2 (u64 c.nn)).1 ++ t)).2.1, addQ none (getF 2 ((putF 2 (u64 c.nn)).1 ++ t)).2.2, (⟨d.op, d.lb, d.nm, d.pl, ((getF 2 ((putF 2 (u64 c.nn)).1 ++ t)).1 : Int), d.da, d.id⟩ : Cal)) = (t, none, ⟨d.op, d.lb, d.nm, d.pl, c.nn, d.da, d.id⟩)
    rw [e]; simp only; rw [e2]; rfl
  · obtain ⟨e, e2⟩ := num_get (t := t) h h4
    show ((getF 1 ((putF 1 (u64 c.id)).1 ++ t)).2.1, addQ none (getF 1 ((putF 1 (u64 c.id)).1 ++ t)).2.2, (⟨d.op, d.lb, d.nm, d.pl, d.nn, d.da, ((getF 1 ((putF 1 (u64 c.id)).1 ++ t)).1 : Int)⟩ : Cal)) = (t, none, ⟨d.op, d.lb, d.nm, d.pl, d.nn, d.da, c.id⟩)
    rw [e]; simp only; rw [e2]; rfl
theorem getN_enc : ∀ (l : List UInt8) (c d : Cal) (t : ByteArray), (∀ y ∈ l, isLet y) → c64 c → okN l c → getN l (encN l c ++ t, none, d) = (t, none, setN l c d)
  | [], c, d, t, _, _, _ => by show ((⟨#[]⟩ : ByteArray) ++ t, none, d) = (t, none, d); rw [ba_nil]
  | y :: l, c, d, t, hl, hc, h => by
    have hy := hl y (by simp)
    have hl' : ∀ z ∈ l, isLet z := fun z hz => hl z (by simp [hz])
    have e : getN (y :: l) (encN (y :: l) c ++ t, none, d) = getN l (getC ((encC y c).1 ++ encN l (clrC y c) ++ t, none, d) y) := rfl
    rw [e, ba_assoc, getC_enc hy hc h.1]
    exact getN_enc l _ _ t hl' (c64_clr hy hc) h.2
theorem set_all (c : Cal) (h : clrN (lts (signsF c.op)) ⟨0, c.lb, c.nm, c.pl, c.nn, c.da, c.id⟩ = cal0) (ho : isOp c.op) : setN (lts (signsF c.op)) ⟨0, c.lb, c.nm, c.pl, c.nn, c.da, c.id⟩ ⟨c.op, ⟨0, 0, 0⟩, ⟨#[]⟩, 0, 0, ⟨#[]⟩, 0⟩ = c := by
  obtain ⟨op, lb, nm, pl, nn, da, id⟩ := c
  simp only at h ho ⊢
  have hop : op = 1 ∨ op = 2 ∨ op = 3 ∨ op = 4 ∨ op = 5 ∨ op = 6 ∨ op = 7 ∨ op = 8 ∨ op = 9 ∨ op = 10 ∨ op = 11 ∨ op = 12 ∨ op = 13 ∨ op = 14 ∨ op = 15 ∨ op = 16 := by unfold isOp at ho; omega
  rcases hop with rfl | rfl | rfl | rfl | rfl | rfl | rfl | rfl | rfl | rfl | rfl | rfl | rfl | rfl | rfl | rfl <;>
    (simp [signsF, lts, clrN, clrC, cal0] at h; simp [signsF, lts, setN, setC, clrC]; first | done | (simp [h]; done) | (obtain ⟨q1, q2, q3, q4, q5, q6⟩ := h; simp [*]; done) | simp_all)
theorem back_c1 {c : Cal} {t : ByteArray} (h : (callPut c).2 = 0) (hc : c64 c) : opG ((callPut c).1 ++ t) = c.op ∧ getX ((callPut c).1 ++ t) = (t, none, c) := by
  obtain ⟨h1, h2, h3, h4⟩ := cput_good h
  have hi : putI c = (beB 1 (u64 c.op), none, ⟨0, c.lb, c.nm, c.pl, c.nn, c.da, c.id⟩) := by
    obtain ⟨i1, i2⟩ := putI_op h1
    show ((putI c).1, (putI c).2.1, (putI c).2.2) = _
    rw [i1, i2]; rfl
  unfold putX at h2 h3 h4
  rw [hi] at h2 h3 h4
  obtain ⟨k1, k2⟩ := putN_enc _ _ _ (signs_let c.op) h2
  rw [k2] at h3 h4
  have e1 : (callPut c).1 ++ t = (putF 1 (u64 c.op)).1 ++ (encN (lts (signsF c.op)) ⟨0, c.lb, c.nm, c.pl, c.nn, c.da, c.id⟩ ++ t) := by rw [h4, put_op h1]; exact ba_assoc _ _ _
  have e2 : getF 1 ((callPut c).1 ++ t) = (u64 c.op, encN (lts (signsF c.op)) ⟨0, c.lb, c.nm, c.pl, c.nn, c.da, c.id⟩ ++ t, 0) := by rw [e1]; exact back_1 (by rw [put_op h1])
  have e3 : opG ((callPut c).1 ++ t) = c.op := by unfold opG; rw [e2]; exact u64_op h1
  refine ⟨e3, ?_⟩
  unfold getX getI
  rw [e3, e2]
  simp only
  rw [addQ_00, getN_enc _ ⟨0, c.lb, c.nm, c.pl, c.nn, c.da, c.id⟩ _ _ (signs_let c.op) (by exact hc) k1, set_all c h3 h1]
theorem back_c {c : Cal} (h : (callPut c).2 = 0) (hc : c64 c) : callGet (callPut c).1 = (c, 0) := by
  have e := back_c1 (t := ⟨#[]⟩) h hc
  rw [ba_nil'] at e
  obtain ⟨h1, _⟩ := cput_good h
  unfold callGet
  rw [e.1, e.2, if_pos ⟨h1, rfl, rfl⟩]
theorem more_c {c : Cal} {t : ByteArray} (h : (callPut c).2 = 0) (hc : c64 c) (ht : ¬ t = ⟨#[]⟩) : callGet ((callPut c).1 ++ t) = (cal0, 170) := by
  have e := back_c1 (t := t) h hc
  unfold callGet
  rw [e.2, if_neg (fun q => ht q.2.2)]

theorem getF_app {w : Int} {s t : ByteArray} (h : (getF w s).2.2 = 0) : getF w (s ++ t) = ((getF w s).1, (getF w s).2.1 ++ t, 0) := by
  obtain ⟨h1, h2⟩ := back_2 h
  have e := back_1 (s := (getF w s).2.1 ++ t) h1
  rw [← ba_assoc, h2] at e; exact e
theorem textF_app {s t : ByteArray} (h : (textF s).2.2 = 0) : textF (s ++ t) = ((textF s).1, (textF s).2.1 ++ t, 0) := by
  obtain ⟨h1, h2⟩ := text_2 h
  have e := text_1 (s := (textF s).2.1 ++ t) h1
  rw [← ba_assoc, h2] at e; exact e
theorem labGet_app {s t : ByteArray} (h : (labGet s).2.2 = 0) : labGet (s ++ t) = ((labGet s).1, (labGet s).2.1 ++ t, 0) := by
  have e := lback (s := (labGet s).2.1 ++ t) (lback_2 h) (labGet_64 s)
  rw [← ba_assoc, lback_3 h] at e; exact e
theorem getC_none {y : UInt8} (hy : isLet y) {x : Wst} (h : (getC x y).2.1 = none) : x.2.1 = none := by
  rcases hy with rfl | rfl | rfl | rfl | rfl | rfl
  · exact (addQ_none (show addQ x.2.1 (labGet x.1).2.2 = none from h)).1
  · exact (addQ_none (show addQ x.2.1 (textF x.1).2.2 = none from h)).1
  · exact (addQ_none (show addQ x.2.1 (textF x.1).2.2 = none from h)).1
  · exact (addQ_none (show addQ x.2.1 (getF 2 x.1).2.2 = none from h)).1
  · exact (addQ_none (show addQ x.2.1 (getF 2 x.1).2.2 = none from h)).1
  · exact (addQ_none (show addQ x.2.1 (getF 1 x.1).2.2 = none from h)).1
theorem getN_none : ∀ (l : List UInt8) (x : Wst), (∀ y ∈ l, isLet y) → (getN l x).2.1 = none → x.2.1 = none
  | [], _, _, h => h
  | y :: l, x, hl, h => getC_none (hl y (by simp)) (getN_none l (getC x y) (fun z hz => hl z (by simp [hz])) h)
theorem getC_app {y : UInt8} (hy : isLet y) {r t : ByteArray} {d : Cal} (h : (getC (r, none, d) y).2.1 = none) : getC (r ++ t, none, d) y = ((getC (r, none, d) y).1 ++ t, none, (getC (r, none, d) y).2.2) := by
  rcases hy with rfl | rfl | rfl | rfl | rfl | rfl
  · have e := labGet_app (t := t) (addQ_none (show addQ none (labGet r).2.2 = none from h)).2
    show ((labGet (r ++ t)).2.1, addQ none (labGet (r ++ t)).2.2, (⟨d.op, (labGet (r ++ t)).1, d.nm, d.pl, d.nn, d.da, d.id⟩ : Cal)) = _
    rw [e]; rfl
  · have e := textF_app (t := t) (addQ_none (show addQ none (textF r).2.2 = none from h)).2
    show ((textF (r ++ t)).2.1, addQ none (textF (r ++ t)).2.2, (⟨d.op, d.lb, (textF (r ++ t)).1, d.pl, d.nn, d.da, d.id⟩ : Cal)) = _
    rw [e]; rfl
  · have e := textF_app (t := t) (addQ_none (show addQ none (textF r).2.2 = none from h)).2
    show ((textF (r ++ t)).2.1, addQ none (textF (r ++ t)).2.2, (⟨d.op, d.lb, d.nm, d.pl, d.nn, (textF (r ++ t)).1, d.id⟩ : Cal)) = _
    rw [e]; rfl
  · have e := getF_app (t := t) (addQ_none (show addQ none (getF 2 r).2.2 = none from h)).2
    show ((getF 2 (r ++ t)).2.1, addQ none (getF 2 (r ++ t)).2.2, (⟨d.op, d.lb, d.nm, ((getF 2 (r ++ t)).1 : Int), d.nn, d.da, d.id⟩ : Cal)) = _
    rw [e]; rfl
  · have e := getF_app (t := t) (addQ_none (show addQ none (getF 2 r).2.2 = none from h)).2
    show ((getF 2 (r ++ t)).2.1, addQ none (getF 2 (r ++ t)).2.2, (⟨d.op, d.lb, d.nm, d.pl, ((getF 2 (r ++ t)).1 : Int), d.da, d.id⟩ : Cal)) = _
    rw [e]; rfl
  · have e := getF_app (t := t) (addQ_none (show addQ none (getF 1 r).2.2 = none from h)).2
    show ((getF 1 (r ++ t)).2.1, addQ none (getF 1 (r ++ t)).2.2, (⟨d.op, d.lb, d.nm, d.pl, d.nn, d.da, ((getF 1 (r ++ t)).1 : Int)⟩ : Cal)) = _
    rw [e]; rfl
theorem getN_app : ∀ (l : List UInt8) (r : ByteArray) (d : Cal) (t : ByteArray), (∀ y ∈ l, isLet y) → (getN l (r, none, d)).2.1 = none → getN l (r ++ t, none, d) = ((getN l (r, none, d)).1 ++ t, none, (getN l (r, none, d)).2.2)
  | [], _, _, _, _, _ => rfl
  | y :: l, r, d, t, hl, h => by
    have hl' : ∀ z ∈ l, isLet z := fun z hz => hl z (by simp [hz])
    have h1 : (getC (r, none, d) y).2.1 = none := getN_none l (getC (r, none, d) y) hl' h
    have e := getC_app (t := t) (hl y (by simp)) h1
    show getN l (getC (r ++ t, none, d) y) = ((getN l (getC (r, none, d) y)).1 ++ t, none, (getN l (getC (r, none, d) y)).2.2)
    have h2 : (getN l (getC (r, none, d) y)).2.1 = none := h
    rw [e]
    generalize getC (r, none, d) y = g at h1 h2 ⊢
    obtain ⟨a, q, b⟩ := g
    simp only at h1
    subst h1
    exact getN_app l a b t hl' h2
theorem cget_good {s : ByteArray} (h : (callGet s).2 = 0) : isOp (opG s) ∧ (getX s).2.1 = none ∧ (getX s).1 = ⟨#[]⟩ ∧ callGet s = ((getX s).2.2, 0) := by
  unfold callGet at h ⊢
  by_cases hq : isOp (opG s) ∧ (getX s).2.1 = none ∧ (getX s).1 = ⟨#[]⟩
  · rw [if_pos hq]; exact ⟨hq.1, hq.2.1, hq.2.2, rfl⟩
  · rw [if_neg hq] at h; exact absurd h (by decide)
theorem cget_bad {s : ByteArray} (h : ¬ (callGet s).2 = 0) : callGet s = (cal0, 170) := by
  unfold callGet at h ⊢
  by_cases hq : isOp (opG s) ∧ (getX s).2.1 = none ∧ (getX s).1 = ⟨#[]⟩
  · rw [if_pos hq] at h; exact absurd rfl h
  · rw [if_neg hq]
theorem getX_head {s : ByteArray} (h : (getX s).2.1 = none) : (getF 1 s).2.2 = 0 ∧ getI s = ((getF 1 s).2.1, none, ⟨opG s, ⟨0, 0, 0⟩, ⟨#[]⟩, 0, 0, ⟨#[]⟩, 0⟩) := by
  have h1 : addQ none (getF 1 s).2.2 = none := getN_none _ (getI s) (signs_let _) h
  refine ⟨(addQ_none h1).2, ?_⟩
  unfold getI; rw [h1]
theorem getX_app {s t : ByteArray} (h : (getX s).2.1 = none) : opG (s ++ t) = opG s ∧ getX (s ++ t) = ((getX s).1 ++ t, none, (getX s).2.2) := by
  obtain ⟨h1, h2⟩ := getX_head h
  have e := getF_app (t := t) h1
  have e1 : opG (s ++ t) = opG s := by unfold opG; rw [e]
  refine ⟨e1, ?_⟩
  have e2 : getI (s ++ t) = ((getF 1 s).2.1 ++ t, none, ⟨opG s, ⟨0, 0, 0⟩, ⟨#[]⟩, 0, 0, ⟨#[]⟩, 0⟩) := by unfold getI; rw [e1, e]; rfl
  unfold getX at h ⊢
  rw [e1, e2]
  rw [h2] at h ⊢
  exact getN_app _ _ _ _ (signs_let _) h
theorem less_c {c : Cal} {s z : ByteArray} (h : (callPut c).2 = 0) (hc : c64 c) (hs : (callPut c).1 = s ++ z) (hz : ¬ z = ⟨#[]⟩) : callGet s = (cal0, 170) := by
  by_cases hg : (callGet s).2 = 0
  · exfalso
    obtain ⟨g1, g2, g3, g4⟩ := cget_good hg
    obtain ⟨a1, a2⟩ := getX_app (t := z) g2
    have b := back_c h hc
    rw [hs] at b
    obtain ⟨_, _, b3, _⟩ := cget_good (show (callGet (s ++ z)).2 = 0 by rw [b])
    rw [a2] at b3
    simp only at b3
    rw [g3, ba_nil] at b3
    exact hz b3
  · exact cget_bad hg
theorem clr_enc {y z : UInt8} (hy : isLet y) (hz : isLet z) (hne : ¬ z = y) (c : Cal) : encC z (clrC y c) = encC z c := by
  rcases hy with rfl | rfl | rfl | rfl | rfl | rfl <;> rcases hz with rfl | rfl | rfl | rfl | rfl | rfl <;> first | exact absurd rfl hne | rfl
theorem get_keep {y z : UInt8} (hy : isLet y) (hz : isLet z) (hne : ¬ z = y) (x : Wst) : encC z (getC x y).2.2 = encC z x.2.2 := by
  rcases hy with rfl | rfl | rfl | rfl | rfl | rfl <;> rcases hz with rfl | rfl | rfl | rfl | rfl | rfl <;> first | exact absurd rfl hne | rfl
theorem getN_keep : ∀ (l : List UInt8) (z : UInt8) (x : Wst), (∀ y ∈ l, isLet y) → isLet z → ¬ z ∈ l → encC z (getN l x).2.2 = encC z x.2.2
  | [], _, _, _, _, _ => rfl
  | y :: l, z, x, hl, hz, hn => by
    have h1 := getN_keep l z (getC x y) (fun w hw => hl w (by simp [hw])) hz (fun q => hn (by simp [q]))
    exact h1.trans (get_keep (hl y (by simp)) hz (fun q => hn (by simp [q])) x)
theorem num_ok {w : Int} {r : ByteArray} (h : (getF w r).2.2 = 0) : numE w ((getF w r).1 : Int) = 0 ∧ (putF w (u64 ((getF w r).1 : Int))).1 ++ (getF w r).2.1 = r := by
  obtain ⟨h1, h2⟩ := back_2 h
  have e : u64 ((getF w r).1 : Int) = (getF w r).1 := u64_of (getF_lt w r)
  refine ⟨?_, by rw [e]; exact h2⟩
  unfold numE
  rw [if_neg (by omega), e]; exact h1
theorem getC_ok {y : UInt8} (hy : isLet y) {r : ByteArray} {d : Cal} (h : (getC (r, none, d) y).2.1 = none) : (encC y (getC (r, none, d) y).2.2).2 = 0 ∧ (encC y (getC (r, none, d) y).2.2).1 ++ (getC (r, none, d) y).1 = r := by
  rcases hy with rfl | rfl | rfl | rfl | rfl | rfl
  · have e := (addQ_none (show addQ none (labGet r).2.2 = none from h)).2
    exact ⟨lback_2 e, lback_3 e⟩
  · exact text_2 (addQ_none (show addQ none (textF r).2.2 = none from h)).2
  · exact text_2 (addQ_none (show addQ none (textF r).2.2 = none from h)).2
  · exact num_ok (addQ_none (show addQ none (getF 2 r).2.2 = none from h)).2
  · exact num_ok (addQ_none (show addQ none (getF 2 r).2.2 = none from h)).2
  · exact num_ok (addQ_none (show addQ none (getF 1 r).2.2 = none from h)).2
theorem getN_back : ∀ (l : List UInt8) (r : ByteArray) (d : Cal), (∀ y ∈ l, isLet y) → l.Nodup → (getN l (r, none, d)).2.1 = none → ∀ c, (∀ y ∈ l, encC y c = encC y (getN l (r, none, d)).2.2) → okN l c ∧ encN l c ++ (getN l (r, none, d)).1 = r
  | [], r, d, _, _, _, c, _ => ⟨trivial, ba_nil r⟩
  | y :: l, r, d, hl, hn, h, c, ha => by
    have hy := hl y (by simp)
    have hl' : ∀ z ∈ l, isLet z := fun z hz => hl z (by simp [hz])
    have hn' := List.nodup_cons.1 hn
    have h1 : (getC (r, none, d) y).2.1 = none := getN_none l (getC (r, none, d) y) hl' h
    obtain ⟨g1, g2⟩ := getC_ok hy h1
    have hk := getN_keep l y (getC (r, none, d) y) hl' hy hn'.1
    have hay : encC y c = encC y (getC (r, none, d) y).2.2 := (ha y (by simp)).trans hk
    have h2 : (getN l (getC (r, none, d) y)).2.1 = none := h
    have ha2 : ∀ z ∈ l, encC z (clrC y c) = encC z (getN l (getC (r, none, d) y)).2.2 := fun z hz => (clr_enc hy (hl' z hz) (fun q => hn'.1 (q ▸ hz)) c).trans (ha z (by simp [hz]))
    show ((encC y c).2 = 0 ∧ okN l (clrC y c)) ∧ (encC y c).1 ++ encN l (clrC y c) ++ (getN l (getC (r, none, d) y)).1 = r
    rw [hay]
    generalize getC (r, none, d) y = g at h1 h2 ha2 g1 g2 ⊢
    obtain ⟨a, q, b⟩ := g
    simp only at h1
    subst h1
    obtain ⟨i1, i2⟩ := getN_back l a b hl' hn'.2 h2 (clrC y c) ha2
    refine ⟨⟨g1, i1⟩, ?_⟩
    rw [ba_assoc, i2]; exact g2
theorem signs_nodup (op : Int) : (lts (signsF op)).Nodup := signs_all (p := fun s => (lts s).Nodup) (by decide) (by decide) (by decide) (by decide) (by decide) (by decide) (by decide) (by decide) (by decide) (by decide) (by decide) (by decide) (by decide) (by decide) (by decide) (by decide) (by decide) op
theorem getC_op (x : Wst) (y : UInt8) : (getC x y).2.2.op = x.2.2.op := by
  unfold getC getP
  repeat' split
  all_goals rfl
theorem getN_op : ∀ (l : List UInt8) (x : Wst), (getN l x).2.2.op = x.2.2.op
  | [], _ => rfl
  | y :: l, x => (getN_op l (getC x y)).trans (getC_op x y)
def op0 (c : Cal) : Cal := ⟨0, c.lb, c.nm, c.pl, c.nn, c.da, c.id⟩
theorem clr_all {op : Int} (h : isOp op) (r : ByteArray) (q : Ec) (o : Int) : clrN (lts (signsF op)) (op0 (getN (lts (signsF op)) (r, q, ⟨o, ⟨0, 0, 0⟩, ⟨#[]⟩, 0, 0, ⟨#[]⟩, 0⟩)).2.2) = cal0 := by
  have hop : op = 1 ∨ op = 2 ∨ op = 3 ∨ op = 4 ∨ op = 5 ∨ op = 6 ∨ op = 7 ∨ op = 8 ∨ op = 9 ∨ op = 10 ∨ op = 11 ∨ op = 12 ∨ op = 13 ∨ op = 14 ∨ op = 15 ∨ op = 16 := by unfold isOp at h; omega
  rcases hop with rfl | rfl | rfl | rfl | rfl | rfl | rfl | rfl | rfl | rfl | rfl | rfl | rfl | rfl | rfl | rfl <;> rfl
theorem back_s {s : ByteArray} (h : (callGet s).2 = 0) : callPut (callGet s).1 = (s, 0) := by
  obtain ⟨g1, g2, g3, g4⟩ := cget_good h
  obtain ⟨e0, ei⟩ := getX_head g2
  rw [g4]
  show callPut (getX s).2.2 = _
  have hop : (getX s).2.2.op = opG s := by
    unfold getX; rw [getN_op]; rfl
  have hx : getX s = getN (lts (signsF (opG s))) ((getF 1 s).2.1, none, ⟨opG s, ⟨0, 0, 0⟩, ⟨#[]⟩, 0, 0, ⟨#[]⟩, 0⟩) := by unfold getX; rw [ei]
  have hcl := clr_all g1 (getF 1 s).2.1 none (opG s)
  rw [hx] at g2 g3
  obtain ⟨b1, b2⟩ := getN_back _ _ _ (signs_let _) (signs_nodup _) g2 (op0 (getX s).2.2) (fun y _ => by rw [← hx]; rfl)
  rw [g3, ba_nil'] at b2
  rw [← hx] at hcl
  have hi : putI (getX s).2.2 = (beB 1 (u64 (opG s)), none, op0 (getX s).2.2) := by
    obtain ⟨i1, i2⟩ := putI_op (c := (getX s).2.2) (by rw [hop]; exact g1)
    show ((putI (getX s).2.2).1, (putI (getX s).2.2).2.1, (putI (getX s).2.2).2.2) = _
    rw [i1, i2, hop]; rfl
  have hp : putX (getX s).2.2 = (beB 1 (u64 (opG s)) ++ encN (lts (signsF (opG s))) (op0 (getX s).2.2), none, cal0) := by
    unfold putX
    rw [hi, hop, putN_of _ _ _ (signs_let _) b1, hcl]
  unfold callPut
  rw [hp, hop, if_pos ⟨g1, rfl, rfl⟩, b2]
  obtain ⟨k1, k2⟩ := num_ok e0
  have e5 : (putF 1 (u64 ((getF 1 s).1 : Int))).1 = beB 1 (u64 (opG s)) := by
    show (putF 1 (u64 (opG s))).1 = _
    rw [put_op g1]
  rw [e5] at k2
  rw [k2]
end Go.Proofs.YtcnncdniibkjkaaGreatDoor
