/-
  DERIVED. GIVEN WITH THE SEED: THE CARDS: each row of YtopgdlblfieljaaGreatDoorRows.lean that lists a variable, with what it lists TIED to the program's text (the seventh form; the later family's looks); each row that meets fmt, with fmt's text TOLD by the authors' own Lean function (tested against real Go, not proved from fmt's source: count such statements apart). THE CARD IS WHAT COUNTS. Prove the row's statement (the work); the ties are given (YtopgdlblfieljaaGreatDoorTie.lean); close each card by the builder's one call (the guide's Derived/Test/ToyasCard.lean, 'card_holds'). Laid BY PROGRAM, IN A SANDBOX (cutbox-door.mjs). By AI agents, Wed Nov 11 2026. No macro, syntax, notation, axiom, sorry.
-/
import Derived.Test.YtopgdlblfieljaaGreatDoorRows
import GoSem.ClaimSeven
namespace Go.Proofs.YtopgdlblfieljaaGreatDoor
namespace Rows

/-- THE TIED CARD OF 'kalendslaw30.TakeoverMatchesReference'. -/
def takeoverMatchesReferenceCard : Claim7 := { stood := { row := takeoverMatchesReferenceRow, standIns := [], harness := (true, "fab05bfe4e99db21c37d4c813eacca50239f95825d74e1071b91a29a627c9f6e"), looks := true }, kinds := [], alts := [], laidByText := true, laidKinds := [.data], laidTests := true, laidLooks := .later }
def TakeoverMatchesReferenceCardSaid : Prop := Claim7.holds Tryz.pinned (.plain (OpenSpec.ofChange takeoverMatchesReferenceSpec)) takeoverMatchesReferenceCard

/-- THE TIED CARD OF 'kalendslaw30.TakeoverAnswers'. -/
def takeoverAnswersCard : Claim7 := { stood := { row := takeoverAnswersRow, standIns := [], harness := (true, "fab05bfe4e99db21c37d4c813eacca50239f95825d74e1071b91a29a627c9f6e"), looks := true }, kinds := [], alts := [], laidByText := true, laidKinds := [.data], laidTests := true, laidLooks := .later }
def TakeoverAnswersCardSaid : Prop := Claim7.holds Tryz.pinned (.plain (OpenSpec.ofChange takeoverAnswersSpec)) takeoverAnswersCard

/-- THE SECOND FORM's CARD OF 'kalendslaw30.TakeoverMatchesReference'. -/
def takeoverMatchesReferenceUptoCard : Claim7 := { stood := { row := takeoverMatchesReferenceUptoRow, standIns := [], harness := (true, "fab05bfe4e99db21c37d4c813eacca50239f95825d74e1071b91a29a627c9f6e"), looks := true }, kinds := [], alts := [], laidByText := true, laidKinds := [.data], laidTests := true, laidLooks := .later }
def TakeoverMatchesReferenceUptoCardSaid : Prop := Claim7.holds Tryz.pinned (.plain (OpenSpec.upto takeoverMatchesReferenceSpec)) takeoverMatchesReferenceUptoCard

/-- THE SECOND FORM's CARD OF 'kalendslaw30.TakeoverAnswers'. -/
def takeoverAnswersUptoCard : Claim7 := { stood := { row := takeoverAnswersUptoRow, standIns := [], harness := (true, "fab05bfe4e99db21c37d4c813eacca50239f95825d74e1071b91a29a627c9f6e"), looks := true }, kinds := [], alts := [], laidByText := true, laidKinds := [.data], laidTests := true, laidLooks := .later }
def TakeoverAnswersUptoCardSaid : Prop := Claim7.holds Tryz.pinned (.plain (OpenSpec.upto takeoverAnswersSpec)) takeoverAnswersUptoCard
end Rows
end Go.Proofs.YtopgdlblfieljaaGreatDoor
