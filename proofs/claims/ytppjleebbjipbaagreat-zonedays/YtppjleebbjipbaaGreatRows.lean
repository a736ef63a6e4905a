/-
  No cell of these rows narrows 'for every input' (looked for: loops, veiled, ifaces, maps, wideKeys, modest, calm, conditions, laid).
  DERIVED. THE GIVEN ROWS OF THIS SEAT. 12 by the template 'for every input the law returns true; each argument reads behind the call as it read before'; 0 by the template 'total and deterministic' (their statements: YtppjleebbjipbaaGreatTotals.lean).
  GIVEN WITH THE SEED: the statements are not yours to turn. If you find one false, say at which input.
  Laid BY PROGRAM, IN A SANDBOX (cutbox-rows.mjs): the forced cells as the released guide's own fill.sh prints them over the translation 5d4bdf4c4d66c9b4… (all of the seat's roots in one cut). By AI agents, Wed Nov 11 2026. No macro, syntax, notation, axiom, sorry.
-/
import Derived.Test.YtppjleebbjipbaaGreatChecked
import GoSem.Claim
import GoSem.ClaimJoined
import GoSem.ClaimMapViews
import Derived.JoinedTies
import Derived.KernelRfl
namespace Go.Proofs.YtppjleebbjipbaaGreat
/- THE CELL 'sum', in the pinned program and in every row, IS THE sha256 OF THE DUMP (.gsa) THAT YtppjleebbjipbaaGreatProg.lean LOADS. Nothing in Lean hashes anything: it is a label: what it is worth is what the hold of that sum in a sandbox is worth. -/
noncomputable def Tryz.pinned : Pinned := { name := "ytppjleebbjipbaagreat", sum := "5d4bdf4c4d66c9b48ffa011b254fa2d11f5bf35fe9064a4a50aa0e0cacd262bd", checked := Tryz.checked }
namespace Rows
def none {H : Type} : Left H := { results := [], args := [] }

/-- 'kalendslaw13.ZoneMatchesReference': WHATEVER THE INPUT: true; the input reads as it did. -/
def zoneMatchesReferenceSpec : ChangeSpec := { name := "zoneMatchesReference", fn := fun _ => fun
  | [d1, d2, d3] => { results := [.lit (.bool true)], args := [d1, d2, d3] }
  | _ => none }
def zoneMatchesReferenceRow : OpenClaim := { program := "ytppjleebbjipbaagreat", sum := "5d4bdf4c4d66c9b48ffa011b254fa2d11f5bf35fe9064a4a50aa0e0cacd262bd", func := "kalends/kalendslaw13.ZoneMatchesReference", spec := "zoneMatchesReference", unfollowed := true, recurses := true, apart := false }
def ZoneMatchesReferenceSaid : Prop := zoneMatchesReferenceRow.holds Tryz.pinned (OpenSpec.ofChange zoneMatchesReferenceSpec)

/-- ITS FALSE NEIGHBOUR: 'it returns false'. Refute it at one input. -/
def zoneMatchesReferenceWrong : ChangeSpec := { name := "zoneMatchesReference", fn := fun _ => fun
  | [d1, d2, d3] => { results := [.lit (.bool false)], args := [d1, d2, d3] }
  | _ => none }
def ZoneMatchesReferenceWrongFalsely : Prop := zoneMatchesReferenceRow.holds Tryz.pinned (OpenSpec.ofChange zoneMatchesReferenceWrong)

/-- 'kalendslaw13.ZoneValidMatchesReference': WHATEVER THE INPUT: true; the input reads as it did. -/
def zoneValidMatchesReferenceSpec : ChangeSpec := { name := "zoneValidMatchesReference", fn := fun _ => fun
  | [d1, d2] => { results := [.lit (.bool true)], args := [d1, d2] }
  | _ => none }
def zoneValidMatchesReferenceRow : OpenClaim := { program := "ytppjleebbjipbaagreat", sum := "5d4bdf4c4d66c9b48ffa011b254fa2d11f5bf35fe9064a4a50aa0e0cacd262bd", func := "kalends/kalendslaw13.ZoneValidMatchesReference", spec := "zoneValidMatchesReference", unfollowed := true, recurses := true, apart := false }
def ZoneValidMatchesReferenceSaid : Prop := zoneValidMatchesReferenceRow.holds Tryz.pinned (OpenSpec.ofChange zoneValidMatchesReferenceSpec)

/-- ITS FALSE NEIGHBOUR: 'it returns false'. Refute it at one input. -/
def zoneValidMatchesReferenceWrong : ChangeSpec := { name := "zoneValidMatchesReference", fn := fun _ => fun
  | [d1, d2] => { results := [.lit (.bool false)], args := [d1, d2] }
  | _ => none }
def ZoneValidMatchesReferenceWrongFalsely : Prop := zoneValidMatchesReferenceRow.holds Tryz.pinned (OpenSpec.ofChange zoneValidMatchesReferenceWrong)

/-- 'kalendslaw13.ZoneDaysMatchReference': WHATEVER THE INPUT: true; the input reads as it did. -/
def zoneDaysMatchReferenceSpec : ChangeSpec := { name := "zoneDaysMatchReference", fn := fun _ => fun
  | [d1, d2] => { results := [.lit (.bool true)], args := [d1, d2] }
  | _ => none }
def zoneDaysMatchReferenceRow : OpenClaim := { program := "ytppjleebbjipbaagreat", sum := "5d4bdf4c4d66c9b48ffa011b254fa2d11f5bf35fe9064a4a50aa0e0cacd262bd", func := "kalends/kalendslaw13.ZoneDaysMatchReference", spec := "zoneDaysMatchReference", unfollowed := true, recurses := true, apart := false }
def ZoneDaysMatchReferenceSaid : Prop := zoneDaysMatchReferenceRow.holds Tryz.pinned (OpenSpec.ofChange zoneDaysMatchReferenceSpec)

/-- ITS FALSE NEIGHBOUR: 'it returns false'. Refute it at one input. -/
def zoneDaysMatchReferenceWrong : ChangeSpec := { name := "zoneDaysMatchReference", fn := fun _ => fun
  | [d1, d2] => { results := [.lit (.bool false)], args := [d1, d2] }
  | _ => none }
def ZoneDaysMatchReferenceWrongFalsely : Prop := zoneDaysMatchReferenceRow.holds Tryz.pinned (OpenSpec.ofChange zoneDaysMatchReferenceWrong)

/-- 'kalendslaw13.ZoneInverse': WHATEVER THE INPUT: true; the input reads as it did. -/
def zoneInverseSpec : ChangeSpec := { name := "zoneInverse", fn := fun _ => fun
  | [d1, d2] => { results := [.lit (.bool true)], args := [d1, d2] }
  | _ => none }
def zoneInverseRow : OpenClaim := { program := "ytppjleebbjipbaagreat", sum := "5d4bdf4c4d66c9b48ffa011b254fa2d11f5bf35fe9064a4a50aa0e0cacd262bd", func := "kalends/kalendslaw13.ZoneInverse", spec := "zoneInverse", unfollowed := true, recurses := true, apart := false }
def ZoneInverseSaid : Prop := zoneInverseRow.holds Tryz.pinned (OpenSpec.ofChange zoneInverseSpec)

/-- ITS FALSE NEIGHBOUR: 'it returns false'. Refute it at one input. -/
def zoneInverseWrong : ChangeSpec := { name := "zoneInverse", fn := fun _ => fun
  | [d1, d2] => { results := [.lit (.bool false)], args := [d1, d2] }
  | _ => none }
def ZoneInverseWrongFalsely : Prop := zoneInverseRow.holds Tryz.pinned (OpenSpec.ofChange zoneInverseWrong)

/-- 'kalendslaw13.ZoneGaps': WHATEVER THE INPUT: true; the input reads as it did. -/
def zoneGapsSpec : ChangeSpec := { name := "zoneGaps", fn := fun _ => fun
  | [d1, d2] => { results := [.lit (.bool true)], args := [d1, d2] }
  | _ => none }
def zoneGapsRow : OpenClaim := { program := "ytppjleebbjipbaagreat", sum := "5d4bdf4c4d66c9b48ffa011b254fa2d11f5bf35fe9064a4a50aa0e0cacd262bd", func := "kalends/kalendslaw13.ZoneGaps", spec := "zoneGaps", unfollowed := true, recurses := true, apart := false }
def ZoneGapsSaid : Prop := zoneGapsRow.holds Tryz.pinned (OpenSpec.ofChange zoneGapsSpec)

/-- ITS FALSE NEIGHBOUR: 'it returns false'. Refute it at one input. -/
def zoneGapsWrong : ChangeSpec := { name := "zoneGaps", fn := fun _ => fun
  | [d1, d2] => { results := [.lit (.bool false)], args := [d1, d2] }
  | _ => none }
def ZoneGapsWrongFalsely : Prop := zoneGapsRow.holds Tryz.pinned (OpenSpec.ofChange zoneGapsWrong)

/-- 'kalendslaw13.ZoneOrder': WHATEVER THE INPUT: true; the input reads as it did. -/
def zoneOrderSpec : ChangeSpec := { name := "zoneOrder", fn := fun _ => fun
  | [d1, d2, d3] => { results := [.lit (.bool true)], args := [d1, d2, d3] }
  | _ => none }
def zoneOrderRow : OpenClaim := { program := "ytppjleebbjipbaagreat", sum := "5d4bdf4c4d66c9b48ffa011b254fa2d11f5bf35fe9064a4a50aa0e0cacd262bd", func := "kalends/kalendslaw13.ZoneOrder", spec := "zoneOrder", unfollowed := true, recurses := true, apart := false }
def ZoneOrderSaid : Prop := zoneOrderRow.holds Tryz.pinned (OpenSpec.ofChange zoneOrderSpec)

/-- ITS FALSE NEIGHBOUR: 'it returns false'. Refute it at one input. -/
def zoneOrderWrong : ChangeSpec := { name := "zoneOrder", fn := fun _ => fun
  | [d1, d2, d3] => { results := [.lit (.bool false)], args := [d1, d2, d3] }
  | _ => none }
def ZoneOrderWrongFalsely : Prop := zoneOrderRow.holds Tryz.pinned (OpenSpec.ofChange zoneOrderWrong)

/-- 'kalendslaw13.ZoneChangesAreAll': WHATEVER THE INPUT: true; the input reads as it did. -/
def zoneChangesAreAllSpec : ChangeSpec := { name := "zoneChangesAreAll", fn := fun _ => fun
  | [d1, d2] => { results := [.lit (.bool true)], args := [d1, d2] }
  | _ => none }
def zoneChangesAreAllRow : OpenClaim := { program := "ytppjleebbjipbaagreat", sum := "5d4bdf4c4d66c9b48ffa011b254fa2d11f5bf35fe9064a4a50aa0e0cacd262bd", func := "kalends/kalendslaw13.ZoneChangesAreAll", spec := "zoneChangesAreAll", unfollowed := true, recurses := true, apart := false }
def ZoneChangesAreAllSaid : Prop := zoneChangesAreAllRow.holds Tryz.pinned (OpenSpec.ofChange zoneChangesAreAllSpec)

/-- ITS FALSE NEIGHBOUR: 'it returns false'. Refute it at one input. -/
def zoneChangesAreAllWrong : ChangeSpec := { name := "zoneChangesAreAll", fn := fun _ => fun
  | [d1, d2] => { results := [.lit (.bool false)], args := [d1, d2] }
  | _ => none }
def ZoneChangesAreAllWrongFalsely : Prop := zoneChangesAreAllRow.holds Tryz.pinned (OpenSpec.ofChange zoneChangesAreAllWrong)

/-- 'kalendslaw13.ZoneRepeats': WHATEVER THE INPUT: true; the input reads as it did. -/
def zoneRepeatsSpec : ChangeSpec := { name := "zoneRepeats", fn := fun _ => fun
  | [d1, d2] => { results := [.lit (.bool true)], args := [d1, d2] }
  | _ => none }
def zoneRepeatsRow : OpenClaim := { program := "ytppjleebbjipbaagreat", sum := "5d4bdf4c4d66c9b48ffa011b254fa2d11f5bf35fe9064a4a50aa0e0cacd262bd", func := "kalends/kalendslaw13.ZoneRepeats", spec := "zoneRepeats", unfollowed := true, recurses := true, apart := false }
def ZoneRepeatsSaid : Prop := zoneRepeatsRow.holds Tryz.pinned (OpenSpec.ofChange zoneRepeatsSpec)

/-- ITS FALSE NEIGHBOUR: 'it returns false'. Refute it at one input. -/
def zoneRepeatsWrong : ChangeSpec := { name := "zoneRepeats", fn := fun _ => fun
  | [d1, d2] => { results := [.lit (.bool false)], args := [d1, d2] }
  | _ => none }
def ZoneRepeatsWrongFalsely : Prop := zoneRepeatsRow.holds Tryz.pinned (OpenSpec.ofChange zoneRepeatsWrong)

/-- 'kalendslaw13.ZoneDays': WHATEVER THE INPUT: true; the input reads as it did. -/
def zoneDaysSpec : ChangeSpec := { name := "zoneDays", fn := fun _ => fun
  | [d1, d2, d3] => { results := [.lit (.bool true)], args := [d1, d2, d3] }
  | _ => none }
def zoneDaysRow : OpenClaim := { program := "ytppjleebbjipbaagreat", sum := "5d4bdf4c4d66c9b48ffa011b254fa2d11f5bf35fe9064a4a50aa0e0cacd262bd", func := "kalends/kalendslaw13.ZoneDays", spec := "zoneDays", unfollowed := true, recurses := true, apart := false }
def ZoneDaysSaid : Prop := zoneDaysRow.holds Tryz.pinned (OpenSpec.ofChange zoneDaysSpec)

/-- ITS FALSE NEIGHBOUR: 'it returns false'. Refute it at one input. -/
def zoneDaysWrong : ChangeSpec := { name := "zoneDays", fn := fun _ => fun
  | [d1, d2, d3] => { results := [.lit (.bool false)], args := [d1, d2, d3] }
  | _ => none }
def ZoneDaysWrongFalsely : Prop := zoneDaysRow.holds Tryz.pinned (OpenSpec.ofChange zoneDaysWrong)

/-- 'kalendslaw13.ZoneChangesMatchReference': WHATEVER THE INPUT: true; the input reads as it did. -/
def zoneChangesMatchReferenceSpec : ChangeSpec := { name := "zoneChangesMatchReference", fn := fun _ => fun
  | [d1, d2, d3] => { results := [.lit (.bool true)], args := [d1, d2, d3] }
  | _ => none }
def zoneChangesMatchReferenceRow : OpenClaim := { program := "ytppjleebbjipbaagreat", sum := "5d4bdf4c4d66c9b48ffa011b254fa2d11f5bf35fe9064a4a50aa0e0cacd262bd", func := "kalends/kalendslaw13.ZoneChangesMatchReference", spec := "zoneChangesMatchReference", unfollowed := true, recurses := true, apart := false }
def ZoneChangesMatchReferenceSaid : Prop := zoneChangesMatchReferenceRow.holds Tryz.pinned (OpenSpec.ofChange zoneChangesMatchReferenceSpec)

/-- ITS FALSE NEIGHBOUR: 'it returns false'. Refute it at one input. -/
def zoneChangesMatchReferenceWrong : ChangeSpec := { name := "zoneChangesMatchReference", fn := fun _ => fun
  | [d1, d2, d3] => { results := [.lit (.bool false)], args := [d1, d2, d3] }
  | _ => none }
def ZoneChangesMatchReferenceWrongFalsely : Prop := zoneChangesMatchReferenceRow.holds Tryz.pinned (OpenSpec.ofChange zoneChangesMatchReferenceWrong)

/-- 'kalendslaw13.ZoneRejectsInvalid': WHATEVER THE INPUT: true; the input reads as it did. -/
def zoneRejectsInvalidSpec : ChangeSpec := { name := "zoneRejectsInvalid", fn := fun _ => fun
  | [d1, d2, d3] => { results := [.lit (.bool true)], args := [d1, d2, d3] }
  | _ => none }
def zoneRejectsInvalidRow : OpenClaim := { program := "ytppjleebbjipbaagreat", sum := "5d4bdf4c4d66c9b48ffa011b254fa2d11f5bf35fe9064a4a50aa0e0cacd262bd", func := "kalends/kalendslaw13.ZoneRejectsInvalid", spec := "zoneRejectsInvalid", unfollowed := true, recurses := true, apart := false }
def ZoneRejectsInvalidSaid : Prop := zoneRejectsInvalidRow.holds Tryz.pinned (OpenSpec.ofChange zoneRejectsInvalidSpec)

/-- ITS FALSE NEIGHBOUR: 'it returns false'. Refute it at one input. -/
def zoneRejectsInvalidWrong : ChangeSpec := { name := "zoneRejectsInvalid", fn := fun _ => fun
  | [d1, d2, d3] => { results := [.lit (.bool false)], args := [d1, d2, d3] }
  | _ => none }
def ZoneRejectsInvalidWrongFalsely : Prop := zoneRejectsInvalidRow.holds Tryz.pinned (OpenSpec.ofChange zoneRejectsInvalidWrong)

/-- 'kalendslaw13.ZoneComparison': WHATEVER THE INPUT: true; the input reads as it did. -/
def zoneComparisonSpec : ChangeSpec := { name := "zoneComparison", fn := fun _ => fun
  | [d1, d2, d3] => { results := [.lit (.bool true)], args := [d1, d2, d3] }
  | _ => none }
def zoneComparisonRow : OpenClaim := { program := "ytppjleebbjipbaagreat", sum := "5d4bdf4c4d66c9b48ffa011b254fa2d11f5bf35fe9064a4a50aa0e0cacd262bd", func := "kalends/kalendslaw13.ZoneComparison", spec := "zoneComparison", unfollowed := true, recurses := true, apart := false }
def ZoneComparisonSaid : Prop := zoneComparisonRow.holds Tryz.pinned (OpenSpec.ofChange zoneComparisonSpec)

/-- ITS FALSE NEIGHBOUR: 'it returns false'. Refute it at one input. -/
def zoneComparisonWrong : ChangeSpec := { name := "zoneComparison", fn := fun _ => fun
  | [d1, d2, d3] => { results := [.lit (.bool false)], args := [d1, d2, d3] }
  | _ => none }
def ZoneComparisonWrongFalsely : Prop := zoneComparisonRow.holds Tryz.pinned (OpenSpec.ofChange zoneComparisonWrong)

/- THE SECOND FORM. 'bulk': how many values and letters a reading holds, each counted each time it is reached (what is shared counts as often as it is met; a slice's spare places count too). A statement '..UptoSaid' is the law's where the arguments, and the package variables that the reading takes, are together of bulk at most 1048576: NARROWER than '..Said'. Prove '..Said' where nothing that the law and all that it calls make is longer than what came in: it says more and counts as full. Else prove '..UptoSaid'. A law counts once. -/
mutual
def uptoBulk {H : Type} : DataW H → Nat
  | .lit (.string bytes) => bytes.length + 1
  | .lit _ => 1
  | .nil => 1
  | .ptr d => uptoBulk d + 1
  | .slice elems spare => uptoBulkAll elems + uptoBulkAll spare + 1
  | .agg parts => uptoBulkAll parts + 1
  | .iface _ d => uptoBulk d + 1
  | .map entries => uptoBulkEntries entries + 1
  | .held _ => 1
def uptoBulkAll {H : Type} : List (DataW H) → Nat
  | [] => 0
  | d :: r => uptoBulk d + uptoBulkAll r
def uptoBulkEntries {H : Type} : List (Lit × DataW H) → Nat
  | [] => 0
  | x :: r => uptoBulkEntry x + uptoBulkEntries r
def uptoBulkEntry {H : Type} : Lit × DataW H → Nat
  | (.string bytes, d) => bytes.length + uptoBulk d + 1
  | (_, d) => uptoBulk d + 1
 end
def uptoSmall : (H : Type) → List (DataW H) → Bool := fun _ ds => decide (uptoBulkAll ds ≤ 1048576)
def OpenSpec.upto (s : _root_.Go.ChangeSpec) : _root_.Go.OpenSpec := { _root_.Go.OpenSpec.ofChange s with cond := some uptoSmall }

/-- 'kalendslaw13.ZoneMatchesReference', WHERE WHAT IT READS IS OF BULK AT MOST 1048576: true; the input reads as it did. -/
def zoneMatchesReferenceUptoRow : OpenClaim := { program := "ytppjleebbjipbaagreat", sum := "5d4bdf4c4d66c9b48ffa011b254fa2d11f5bf35fe9064a4a50aa0e0cacd262bd", func := "kalends/kalendslaw13.ZoneMatchesReference", spec := "zoneMatchesReference", unfollowed := true, recurses := true, apart := false, narrowed := true }
def ZoneMatchesReferenceUptoSaid : Prop := zoneMatchesReferenceUptoRow.holds Tryz.pinned (OpenSpec.upto zoneMatchesReferenceSpec)

/-- 'kalendslaw13.ZoneValidMatchesReference', WHERE WHAT IT READS IS OF BULK AT MOST 1048576: true; the input reads as it did. -/
def zoneValidMatchesReferenceUptoRow : OpenClaim := { program := "ytppjleebbjipbaagreat", sum := "5d4bdf4c4d66c9b48ffa011b254fa2d11f5bf35fe9064a4a50aa0e0cacd262bd", func := "kalends/kalendslaw13.ZoneValidMatchesReference", spec := "zoneValidMatchesReference", unfollowed := true, recurses := true, apart := false, narrowed := true }
def ZoneValidMatchesReferenceUptoSaid : Prop := zoneValidMatchesReferenceUptoRow.holds Tryz.pinned (OpenSpec.upto zoneValidMatchesReferenceSpec)

/-- 'kalendslaw13.ZoneDaysMatchReference', WHERE WHAT IT READS IS OF BULK AT MOST 1048576: true; the input reads as it did. -/
def zoneDaysMatchReferenceUptoRow : OpenClaim := { program := "ytppjleebbjipbaagreat", sum := "5d4bdf4c4d66c9b48ffa011b254fa2d11f5bf35fe9064a4a50aa0e0cacd262bd", func := "kalends/kalendslaw13.ZoneDaysMatchReference", spec := "zoneDaysMatchReference", unfollowed := true, recurses := true, apart := false, narrowed := true }
def ZoneDaysMatchReferenceUptoSaid : Prop := zoneDaysMatchReferenceUptoRow.holds Tryz.pinned (OpenSpec.upto zoneDaysMatchReferenceSpec)

/-- 'kalendslaw13.ZoneInverse', WHERE WHAT IT READS IS OF BULK AT MOST 1048576: true; the input reads as it did. -/
def zoneInverseUptoRow : OpenClaim := { program := "ytppjleebbjipbaagreat", sum := "5d4bdf4c4d66c9b48ffa011b254fa2d11f5bf35fe9064a4a50aa0e0cacd262bd", func := "kalends/kalendslaw13.ZoneInverse", spec := "zoneInverse", unfollowed := true, recurses := true, apart := false, narrowed := true }
def ZoneInverseUptoSaid : Prop := zoneInverseUptoRow.holds Tryz.pinned (OpenSpec.upto zoneInverseSpec)

/-- 'kalendslaw13.ZoneGaps', WHERE WHAT IT READS IS OF BULK AT MOST 1048576: true; the input reads as it did. -/
def zoneGapsUptoRow : OpenClaim := { program := "ytppjleebbjipbaagreat", sum := "5d4bdf4c4d66c9b48ffa011b254fa2d11f5bf35fe9064a4a50aa0e0cacd262bd", func := "kalends/kalendslaw13.ZoneGaps", spec := "zoneGaps", unfollowed := true, recurses := true, apart := false, narrowed := true }
def ZoneGapsUptoSaid : Prop := zoneGapsUptoRow.holds Tryz.pinned (OpenSpec.upto zoneGapsSpec)

/-- 'kalendslaw13.ZoneOrder', WHERE WHAT IT READS IS OF BULK AT MOST 1048576: true; the input reads as it did. -/
def zoneOrderUptoRow : OpenClaim := { program := "ytppjleebbjipbaagreat", sum := "5d4bdf4c4d66c9b48ffa011b254fa2d11f5bf35fe9064a4a50aa0e0cacd262bd", func := "kalends/kalendslaw13.ZoneOrder", spec := "zoneOrder", unfollowed := true, recurses := true, apart := false, narrowed := true }
def ZoneOrderUptoSaid : Prop := zoneOrderUptoRow.holds Tryz.pinned (OpenSpec.upto zoneOrderSpec)

/-- 'kalendslaw13.ZoneChangesAreAll', WHERE WHAT IT READS IS OF BULK AT MOST 1048576: true; the input reads as it did. -/
def zoneChangesAreAllUptoRow : OpenClaim := { program := "ytppjleebbjipbaagreat", sum := "5d4bdf4c4d66c9b48ffa011b254fa2d11f5bf35fe9064a4a50aa0e0cacd262bd", func := "kalends/kalendslaw13.ZoneChangesAreAll", spec := "zoneChangesAreAll", unfollowed := true, recurses := true, apart := false, narrowed := true }
def ZoneChangesAreAllUptoSaid : Prop := zoneChangesAreAllUptoRow.holds Tryz.pinned (OpenSpec.upto zoneChangesAreAllSpec)

/-- 'kalendslaw13.ZoneRepeats', WHERE WHAT IT READS IS OF BULK AT MOST 1048576: true; the input reads as it did. -/
def zoneRepeatsUptoRow : OpenClaim := { program := "ytppjleebbjipbaagreat", sum := "5d4bdf4c4d66c9b48ffa011b254fa2d11f5bf35fe9064a4a50aa0e0cacd262bd", func := "kalends/kalendslaw13.ZoneRepeats", spec := "zoneRepeats", unfollowed := true, recurses := true, apart := false, narrowed := true }
def ZoneRepeatsUptoSaid : Prop := zoneRepeatsUptoRow.holds Tryz.pinned (OpenSpec.upto zoneRepeatsSpec)

/-- 'kalendslaw13.ZoneDays', WHERE WHAT IT READS IS OF BULK AT MOST 1048576: true; the input reads as it did. -/
def zoneDaysUptoRow : OpenClaim := { program := "ytppjleebbjipbaagreat", sum := "5d4bdf4c4d66c9b48ffa011b254fa2d11f5bf35fe9064a4a50aa0e0cacd262bd", func := "kalends/kalendslaw13.ZoneDays", spec := "zoneDays", unfollowed := true, recurses := true, apart := false, narrowed := true }
def ZoneDaysUptoSaid : Prop := zoneDaysUptoRow.holds Tryz.pinned (OpenSpec.upto zoneDaysSpec)

/-- 'kalendslaw13.ZoneChangesMatchReference', WHERE WHAT IT READS IS OF BULK AT MOST 1048576: true; the input reads as it did. -/
def zoneChangesMatchReferenceUptoRow : OpenClaim := { program := "ytppjleebbjipbaagreat", sum := "5d4bdf4c4d66c9b48ffa011b254fa2d11f5bf35fe9064a4a50aa0e0cacd262bd", func := "kalends/kalendslaw13.ZoneChangesMatchReference", spec := "zoneChangesMatchReference", unfollowed := true, recurses := true, apart := false, narrowed := true }
def ZoneChangesMatchReferenceUptoSaid : Prop := zoneChangesMatchReferenceUptoRow.holds Tryz.pinned (OpenSpec.upto zoneChangesMatchReferenceSpec)

/-- 'kalendslaw13.ZoneRejectsInvalid', WHERE WHAT IT READS IS OF BULK AT MOST 1048576: true; the input reads as it did. -/
def zoneRejectsInvalidUptoRow : OpenClaim := { program := "ytppjleebbjipbaagreat", sum := "5d4bdf4c4d66c9b48ffa011b254fa2d11f5bf35fe9064a4a50aa0e0cacd262bd", func := "kalends/kalendslaw13.ZoneRejectsInvalid", spec := "zoneRejectsInvalid", unfollowed := true, recurses := true, apart := false, narrowed := true }
def ZoneRejectsInvalidUptoSaid : Prop := zoneRejectsInvalidUptoRow.holds Tryz.pinned (OpenSpec.upto zoneRejectsInvalidSpec)

/-- 'kalendslaw13.ZoneComparison', WHERE WHAT IT READS IS OF BULK AT MOST 1048576: true; the input reads as it did. -/
def zoneComparisonUptoRow : OpenClaim := { program := "ytppjleebbjipbaagreat", sum := "5d4bdf4c4d66c9b48ffa011b254fa2d11f5bf35fe9064a4a50aa0e0cacd262bd", func := "kalends/kalendslaw13.ZoneComparison", spec := "zoneComparison", unfollowed := true, recurses := true, apart := false, narrowed := true }
def ZoneComparisonUptoSaid : Prop := zoneComparisonUptoRow.holds Tryz.pinned (OpenSpec.upto zoneComparisonSpec)

end Rows
end Go.Proofs.YtppjleebbjipbaaGreat
