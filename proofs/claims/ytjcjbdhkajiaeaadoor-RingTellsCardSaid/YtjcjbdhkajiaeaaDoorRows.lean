/-
  NARROWER THAN 'FOR EVERY INPUT', by the rows' own cells (each row's printed sentence says how): RingBound: laid · RingAll: laid · RingOwn: laid · RingTells: laid · RingTurns: laid · RingOrder: laid.
  DERIVED. THE GIVEN ROWS OF THIS SEAT. 6 by the template 'for every input the law returns true; each argument reads behind the call as it read before'; 0 by the template 'total and deterministic' (their statements: YtjcjbdhkajiaeaaDoorTotals.lean).
  GIVEN WITH THE SEED: the statements are not yours to turn. If you find one false, say at which input.
  Laid BY PROGRAM, IN A SANDBOX (cutbox-rows.mjs): the forced cells as the released guide's own fill.sh prints them over the translation 0e47b8bf71e71db6… (all of the seat's roots in one cut). By AI agents, Wed Nov 11 2026. No macro, syntax, notation, axiom, sorry.
-/
import Derived.Test.YtjcjbdhkajiaeaaDoorChecked
import GoSem.Claim
import GoSem.ClaimJoined
import GoSem.ClaimMapViews
import Derived.JoinedTies
import Derived.KernelRfl
namespace Go.Proofs.YtjcjbdhkajiaeaaDoor
/- THE CELL 'sum', in the pinned program and in every row, IS THE sha256 OF THE DUMP (.gsa) THAT YtjcjbdhkajiaeaaDoorProg.lean LOADS. Nothing in Lean hashes anything: it is a label: what it is worth is what the hold of that sum in a sandbox is worth. -/
noncomputable def Tryd.pinned : Pinned := { name := "ytjcjbdhkajiaeaadoor", sum := "0e47b8bf71e71db60a00b1512ca57308304d590ea9e0f65db00750ff5df0b720", checked := Tryd.checked }
namespace Rows
def none {H : Type} : Left H := { results := [], args := [] }

/- WHAT THE LISTED PACKAGE-LEVEL VARIABLES READ AS WHEN THE CALL BEGINS. Each datum BY PROGRAM (the guide's laid-datum.mjs) off the statement by which the dump's own 'gosem.cut.vars' lays the variable. In a bare row this is a premise. The card (YtjcjbdhkajiaeaaDoorCards.lean) ties it to the program's text. -/
def laid_plimsoll_ring_errArg {H : Type} : DataW H := .iface "*errors.errorString" (.ptr (.agg [.lit (.string [110, 111, 32, 114, 105, 110, 103])]))
def laid_plimsoll_ring_errFull {H : Type} : DataW H := .iface "*errors.errorString" (.ptr (.agg [.lit (.string [102, 117, 108, 108])]))
def laid_plimsoll_ring_errEmpty {H : Type} : DataW H := .iface "*errors.errorString" (.ptr (.agg [.lit (.string [101, 109, 112, 116, 121])]))

/-- 'plimsolllaw08.RingBound': WHATEVER THE INPUT: true; the input reads as it did. -/
def ringBoundSpec : ChangeSpec := { name := "ringBound", fn := fun _ => fun
  | [d1, d2] => { results := [.lit (.bool true)], args := [d1, d2] }
  | _ => none }
def ringBoundRow : OpenClaim := { program := "ytjcjbdhkajiaeaadoor", sum := "0e47b8bf71e71db60a00b1512ca57308304d590ea9e0f65db00750ff5df0b720", func := "plimsoll/plimsolllaw08.RingBound", spec := "ringBound", inPlace := ["internal/reflectlite.TypeOf"], unfollowed := true, recurses := true, named := ["plimsoll/ring.errArg", "plimsoll/ring.errFull", "plimsoll/ring.errEmpty"], apart := false, laid := [("plimsoll/ring.errArg", laid_plimsoll_ring_errArg), ("plimsoll/ring.errFull", laid_plimsoll_ring_errFull), ("plimsoll/ring.errEmpty", laid_plimsoll_ring_errEmpty)] }
def RingBoundSaid : Prop := ringBoundRow.holds Tryd.pinned (OpenSpec.ofChange ringBoundSpec)

/-- ITS FALSE NEIGHBOUR: 'it returns false'. Refute it at one input. -/
def ringBoundWrong : ChangeSpec := { name := "ringBound", fn := fun _ => fun
  | [d1, d2] => { results := [.lit (.bool false)], args := [d1, d2] }
  | _ => none }
def RingBoundWrongFalsely : Prop := ringBoundRow.holds Tryd.pinned (OpenSpec.ofChange ringBoundWrong)

/-- 'plimsolllaw08.RingAll': WHATEVER THE INPUT: true; the input reads as it did. -/
def ringAllSpec : ChangeSpec := { name := "ringAll", fn := fun _ => fun
  | [d1, d2] => { results := [.lit (.bool true)], args := [d1, d2] }
  | _ => none }
def ringAllRow : OpenClaim := { program := "ytjcjbdhkajiaeaadoor", sum := "0e47b8bf71e71db60a00b1512ca57308304d590ea9e0f65db00750ff5df0b720", func := "plimsoll/plimsolllaw08.RingAll", spec := "ringAll", inPlace := ["internal/reflectlite.TypeOf"], unfollowed := true, recurses := true, named := ["plimsoll/ring.errArg", "plimsoll/ring.errFull", "plimsoll/ring.errEmpty"], apart := false, laid := [("plimsoll/ring.errArg", laid_plimsoll_ring_errArg), ("plimsoll/ring.errFull", laid_plimsoll_ring_errFull), ("plimsoll/ring.errEmpty", laid_plimsoll_ring_errEmpty)] }
def RingAllSaid : Prop := ringAllRow.holds Tryd.pinned (OpenSpec.ofChange ringAllSpec)

/-- ITS FALSE NEIGHBOUR: 'it returns false'. Refute it at one input. -/
def ringAllWrong : ChangeSpec := { name := "ringAll", fn := fun _ => fun
  | [d1, d2] => { results := [.lit (.bool false)], args := [d1, d2] }
  | _ => none }
def RingAllWrongFalsely : Prop := ringAllRow.holds Tryd.pinned (OpenSpec.ofChange ringAllWrong)

/-- 'plimsolllaw08.RingOwn': WHATEVER THE INPUT: true; the input reads as it did. -/
def ringOwnSpec : ChangeSpec := { name := "ringOwn", fn := fun _ => fun
  | [d1, d2] => { results := [.lit (.bool true)], args := [d1, d2] }
  | _ => none }
def ringOwnRow : OpenClaim := { program := "ytjcjbdhkajiaeaadoor", sum := "0e47b8bf71e71db60a00b1512ca57308304d590ea9e0f65db00750ff5df0b720", func := "plimsoll/plimsolllaw08.RingOwn", spec := "ringOwn", inPlace := ["internal/reflectlite.TypeOf"], unfollowed := true, recurses := true, named := ["plimsoll/ring.errArg", "plimsoll/ring.errFull", "plimsoll/ring.errEmpty"], apart := false, laid := [("plimsoll/ring.errArg", laid_plimsoll_ring_errArg), ("plimsoll/ring.errFull", laid_plimsoll_ring_errFull), ("plimsoll/ring.errEmpty", laid_plimsoll_ring_errEmpty)] }
def RingOwnSaid : Prop := ringOwnRow.holds Tryd.pinned (OpenSpec.ofChange ringOwnSpec)

/-- ITS FALSE NEIGHBOUR: 'it returns false'. Refute it at one input. -/
def ringOwnWrong : ChangeSpec := { name := "ringOwn", fn := fun _ => fun
  | [d1, d2] => { results := [.lit (.bool false)], args := [d1, d2] }
  | _ => none }
def RingOwnWrongFalsely : Prop := ringOwnRow.holds Tryd.pinned (OpenSpec.ofChange ringOwnWrong)

/-- 'plimsolllaw08.RingTells': WHATEVER THE INPUT: true; the input reads as it did. -/
def ringTellsSpec : ChangeSpec := { name := "ringTells", fn := fun _ => fun
  | [d1, d2, d3, d4] => { results := [.lit (.bool true)], args := [d1, d2, d3, d4] }
  | _ => none }
def ringTellsRow : OpenClaim := { program := "ytjcjbdhkajiaeaadoor", sum := "0e47b8bf71e71db60a00b1512ca57308304d590ea9e0f65db00750ff5df0b720", func := "plimsoll/plimsolllaw08.RingTells", spec := "ringTells", inPlace := ["internal/reflectlite.TypeOf"], unfollowed := true, recurses := true, named := ["plimsoll/ring.errArg", "plimsoll/ring.errFull", "plimsoll/ring.errEmpty"], apart := false, laid := [("plimsoll/ring.errArg", laid_plimsoll_ring_errArg), ("plimsoll/ring.errFull", laid_plimsoll_ring_errFull), ("plimsoll/ring.errEmpty", laid_plimsoll_ring_errEmpty)] }
def RingTellsSaid : Prop := ringTellsRow.holds Tryd.pinned (OpenSpec.ofChange ringTellsSpec)

/-- ITS FALSE NEIGHBOUR: 'it returns false'. Refute it at one input. -/
def ringTellsWrong : ChangeSpec := { name := "ringTells", fn := fun _ => fun
  | [d1, d2, d3, d4] => { results := [.lit (.bool false)], args := [d1, d2, d3, d4] }
  | _ => none }
def RingTellsWrongFalsely : Prop := ringTellsRow.holds Tryd.pinned (OpenSpec.ofChange ringTellsWrong)

/-- 'plimsolllaw08.RingTurns': WHATEVER THE INPUT: true; the input reads as it did. -/
def ringTurnsSpec : ChangeSpec := { name := "ringTurns", fn := fun _ => fun
  | [d1, d2] => { results := [.lit (.bool true)], args := [d1, d2] }
  | _ => none }
def ringTurnsRow : OpenClaim := { program := "ytjcjbdhkajiaeaadoor", sum := "0e47b8bf71e71db60a00b1512ca57308304d590ea9e0f65db00750ff5df0b720", func := "plimsoll/plimsolllaw08.RingTurns", spec := "ringTurns", inPlace := ["internal/reflectlite.TypeOf"], unfollowed := true, recurses := true, named := ["plimsoll/ring.errArg", "plimsoll/ring.errFull", "plimsoll/ring.errEmpty"], apart := false, laid := [("plimsoll/ring.errArg", laid_plimsoll_ring_errArg), ("plimsoll/ring.errFull", laid_plimsoll_ring_errFull), ("plimsoll/ring.errEmpty", laid_plimsoll_ring_errEmpty)] }
def RingTurnsSaid : Prop := ringTurnsRow.holds Tryd.pinned (OpenSpec.ofChange ringTurnsSpec)

/-- ITS FALSE NEIGHBOUR: 'it returns false'. Refute it at one input. -/
def ringTurnsWrong : ChangeSpec := { name := "ringTurns", fn := fun _ => fun
  | [d1, d2] => { results := [.lit (.bool false)], args := [d1, d2] }
  | _ => none }
def RingTurnsWrongFalsely : Prop := ringTurnsRow.holds Tryd.pinned (OpenSpec.ofChange ringTurnsWrong)

/-- 'plimsolllaw08.RingOrder': WHATEVER THE INPUT: true; the input reads as it did. -/
def ringOrderSpec : ChangeSpec := { name := "ringOrder", fn := fun _ => fun
  | [d1, d2] => { results := [.lit (.bool true)], args := [d1, d2] }
  | _ => none }
def ringOrderRow : OpenClaim := { program := "ytjcjbdhkajiaeaadoor", sum := "0e47b8bf71e71db60a00b1512ca57308304d590ea9e0f65db00750ff5df0b720", func := "plimsoll/plimsolllaw08.RingOrder", spec := "ringOrder", inPlace := ["internal/reflectlite.TypeOf"], unfollowed := true, recurses := true, named := ["plimsoll/ring.errArg", "plimsoll/ring.errFull", "plimsoll/ring.errEmpty"], apart := false, laid := [("plimsoll/ring.errArg", laid_plimsoll_ring_errArg), ("plimsoll/ring.errFull", laid_plimsoll_ring_errFull), ("plimsoll/ring.errEmpty", laid_plimsoll_ring_errEmpty)] }
def RingOrderSaid : Prop := ringOrderRow.holds Tryd.pinned (OpenSpec.ofChange ringOrderSpec)

/-- ITS FALSE NEIGHBOUR: 'it returns false'. Refute it at one input. -/
def ringOrderWrong : ChangeSpec := { name := "ringOrder", fn := fun _ => fun
  | [d1, d2] => { results := [.lit (.bool false)], args := [d1, d2] }
  | _ => none }
def RingOrderWrongFalsely : Prop := ringOrderRow.holds Tryd.pinned (OpenSpec.ofChange ringOrderWrong)

/- THE SECOND FORM. 'bulk': how many values and letters a reading holds, each counted each time it is reached (what is shared counts as often as it is met; a slice's spare places count too). A statement '..UptoSaid' is the law's where the arguments, and the package variables that the reading takes, are together of bulk at most 1048576: NARROWER than '..Said'. Prove '..Said' where nothing that the law and all that it calls make is longer than what came in: it says more and counts as full. Else prove '..UptoSaid'. A law counts once. -/
mutual
def uptoBulk {H : Type} : DataW H → Nat
  | .lit (.string bytes) => bytes.length + 1
  | .lit _ => 1
  | .nil => 1
  | .ptr d => uptoBulk d + 1
  | .slice elems spare => uptoBulkAll elems + uptoBulkAll spare + 1
  | .agg parts => uptoBulkAll parts + 1
  | .iface _ d => uptoBulk d + 1
  | .map entries => uptoBulkEntries entries + 1
  | .held _ => 1
def uptoBulkAll {H : Type} : List (DataW H) → Nat
  | [] => 0
  | d :: r => uptoBulk d + uptoBulkAll r
def uptoBulkEntries {H : Type} : List (Lit × DataW H) → Nat
  | [] => 0
  | x :: r => uptoBulkEntry x + uptoBulkEntries r
def uptoBulkEntry {H : Type} : Lit × DataW H → Nat
  | (.string bytes, d) => bytes.length + uptoBulk d + 1
  | (_, d) => uptoBulk d + 1
 end
def uptoSmall : (H : Type) → List (DataW H) → Bool := fun _ ds => decide (uptoBulkAll ds ≤ 1048576)
def OpenSpec.upto (s : _root_.Go.ChangeSpec) : _root_.Go.OpenSpec := { _root_.Go.OpenSpec.ofChange s with cond := some uptoSmall }

/-- 'plimsolllaw08.RingBound', WHERE WHAT IT READS IS OF BULK AT MOST 1048576: true; the input reads as it did. -/
def ringBoundUptoRow : OpenClaim := { program := "ytjcjbdhkajiaeaadoor", sum := "0e47b8bf71e71db60a00b1512ca57308304d590ea9e0f65db00750ff5df0b720", func := "plimsoll/plimsolllaw08.RingBound", spec := "ringBound", inPlace := ["internal/reflectlite.TypeOf"], unfollowed := true, recurses := true, named := ["plimsoll/ring.errArg", "plimsoll/ring.errFull", "plimsoll/ring.errEmpty"], apart := false, laid := [("plimsoll/ring.errArg", laid_plimsoll_ring_errArg), ("plimsoll/ring.errFull", laid_plimsoll_ring_errFull), ("plimsoll/ring.errEmpty", laid_plimsoll_ring_errEmpty)], narrowed := true }
def RingBoundUptoSaid : Prop := ringBoundUptoRow.holds Tryd.pinned (OpenSpec.upto ringBoundSpec)

/-- 'plimsolllaw08.RingAll', WHERE WHAT IT READS IS OF BULK AT MOST 1048576: true; the input reads as it did. -/
def ringAllUptoRow : OpenClaim := { program := "ytjcjbdhkajiaeaadoor", sum := "0e47b8bf71e71db60a00b1512ca57308304d590ea9e0f65db00750ff5df0b720", func := "plimsoll/plimsolllaw08.RingAll", spec := "ringAll", inPlace := ["internal/reflectlite.TypeOf"], unfollowed := true, recurses := true, named := ["plimsoll/ring.errArg", "plimsoll/ring.errFull", "plimsoll/ring.errEmpty"], apart := false, laid := [("plimsoll/ring.errArg", laid_plimsoll_ring_errArg), ("plimsoll/ring.errFull", laid_plimsoll_ring_errFull), ("plimsoll/ring.errEmpty", laid_plimsoll_ring_errEmpty)], narrowed := true }
def RingAllUptoSaid : Prop := ringAllUptoRow.holds Tryd.pinned (OpenSpec.upto ringAllSpec)

/-- 'plimsolllaw08.RingOwn', WHERE WHAT IT READS IS OF BULK AT MOST 1048576: true; the input reads as it did. -/
def ringOwnUptoRow : OpenClaim := { program := "ytjcjbdhkajiaeaadoor", sum := "0e47b8bf71e71db60a00b1512ca57308304d590ea9e0f65db00750ff5df0b720", func := "plimsoll/plimsolllaw08.RingOwn", spec := "ringOwn", inPlace := ["internal/reflectlite.TypeOf"], unfollowed := true, recurses := true, named := ["plimsoll/ring.errArg", "plimsoll/ring.errFull", "plimsoll/ring.errEmpty"], apart := false, laid := [("plimsoll/ring.errArg", laid_plimsoll_ring_errArg), ("plimsoll/ring.errFull", laid_plimsoll_ring_errFull), ("plimsoll/ring.errEmpty", laid_plimsoll_ring_errEmpty)], narrowed := true }
def RingOwnUptoSaid : Prop := ringOwnUptoRow.holds Tryd.pinned (OpenSpec.upto ringOwnSpec)

/-- 'plimsolllaw08.RingTells', WHERE WHAT IT READS IS OF BULK AT MOST 1048576: true; the input reads as it did. -/
def ringTellsUptoRow : OpenClaim := { program := "ytjcjbdhkajiaeaadoor", sum := "0e47b8bf71e71db60a00b1512ca57308304d590ea9e0f65db00750ff5df0b720", func := "plimsoll/plimsolllaw08.RingTells", spec := "ringTells", inPlace := ["internal/reflectlite.TypeOf"], unfollowed := true, recurses := true, named := ["plimsoll/ring.errArg", "plimsoll/ring.errFull", "plimsoll/ring.errEmpty"], apart := false, laid := [("plimsoll/ring.errArg", laid_plimsoll_ring_errArg), ("plimsoll/ring.errFull", laid_plimsoll_ring_errFull), ("plimsoll/ring.errEmpty", laid_plimsoll_ring_errEmpty)], narrowed := true }
def RingTellsUptoSaid : Prop := ringTellsUptoRow.holds Tryd.pinned (OpenSpec.upto ringTellsSpec)

/-- 'plimsolllaw08.RingTurns', WHERE WHAT IT READS IS OF BULK AT MOST 1048576: true; the input reads as it did. -/
def ringTurnsUptoRow : OpenClaim := { program := "ytjcjbdhkajiaeaadoor", sum := "0e47b8bf71e71db60a00b1512ca57308304d590ea9e0f65db00750ff5df0b720", func := "plimsoll/plimsolllaw08.RingTurns", spec := "ringTurns", inPlace := ["internal/reflectlite.TypeOf"], unfollowed := true, recurses := true, named := ["plimsoll/ring.errArg", "plimsoll/ring.errFull", "plimsoll/ring.errEmpty"], apart := false, laid := [("plimsoll/ring.errArg", laid_plimsoll_ring_errArg), ("plimsoll/ring.errFull", laid_plimsoll_ring_errFull), ("plimsoll/ring.errEmpty", laid_plimsoll_ring_errEmpty)], narrowed := true }
def RingTurnsUptoSaid : Prop := ringTurnsUptoRow.holds Tryd.pinned (OpenSpec.upto ringTurnsSpec)

/-- 'plimsolllaw08.RingOrder', WHERE WHAT IT READS IS OF BULK AT MOST 1048576: true; the input reads as it did. -/
def ringOrderUptoRow : OpenClaim := { program := "ytjcjbdhkajiaeaadoor", sum := "0e47b8bf71e71db60a00b1512ca57308304d590ea9e0f65db00750ff5df0b720", func := "plimsoll/plimsolllaw08.RingOrder", spec := "ringOrder", inPlace := ["internal/reflectlite.TypeOf"], unfollowed := true, recurses := true, named := ["plimsoll/ring.errArg", "plimsoll/ring.errFull", "plimsoll/ring.errEmpty"], apart := false, laid := [("plimsoll/ring.errArg", laid_plimsoll_ring_errArg), ("plimsoll/ring.errFull", laid_plimsoll_ring_errFull), ("plimsoll/ring.errEmpty", laid_plimsoll_ring_errEmpty)], narrowed := true }
def RingOrderUptoSaid : Prop := ringOrderUptoRow.holds Tryd.pinned (OpenSpec.upto ringOrderSpec)

end Rows
end Go.Proofs.YtjcjbdhkajiaeaaDoor
