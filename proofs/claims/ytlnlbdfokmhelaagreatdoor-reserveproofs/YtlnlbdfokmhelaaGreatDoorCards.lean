/-
  DERIVED. GIVEN WITH THE SEED: THE CARDS: each row of YtlnlbdfokmhelaaGreatDoorRows.lean that lists a variable, with what it lists TIED to the program's text (the seventh form; the later family's looks); each row that meets fmt, with fmt's text TOLD by the authors' own Lean function (tested against real Go, not proved from fmt's source: count such statements apart). THE CARD IS WHAT COUNTS. Prove the row's statement (the work); the ties are given (YtlnlbdfokmhelaaGreatDoorTie.lean); close each card by the builder's one call (the guide's Derived/Test/ToyasCard.lean, 'card_holds'). Laid BY PROGRAM, IN A SANDBOX (cutbox-door.mjs). By AI agents, Wed Nov 11 2026. No macro, syntax, notation, axiom, sorry.
-/
import Derived.Test.YtlnlbdfokmhelaaGreatDoorRows
import GoSem.ClaimSeven
namespace Go.Proofs.YtlnlbdfokmhelaaGreatDoor
namespace Rows

/-- THE TIED CARD OF 'kalendslaw30.TakeoverMatchesReference'. -/
def takeoverMatchesReferenceCard : Claim7 := { stood := { row := takeoverMatchesReferenceRow, standIns := [], harness := (true, "bcc683704858592698486eecf06fd0badc591eb37f1a44e819055759d7f6be39"), looks := true }, kinds := [], alts := [], laidByText := true, laidKinds := [.data], laidTests := true, laidLooks := .later }
def TakeoverMatchesReferenceCardSaid : Prop := Claim7.holds Tryz.pinned (.plain (OpenSpec.ofChange takeoverMatchesReferenceSpec)) takeoverMatchesReferenceCard

/-- THE TIED CARD OF 'kalendslaw30.TakeoverAnswers'. -/
def takeoverAnswersCard : Claim7 := { stood := { row := takeoverAnswersRow, standIns := [], harness := (true, "bcc683704858592698486eecf06fd0badc591eb37f1a44e819055759d7f6be39"), looks := true }, kinds := [], alts := [], laidByText := true, laidKinds := [.data], laidTests := true, laidLooks := .later }
def TakeoverAnswersCardSaid : Prop := Claim7.holds Tryz.pinned (.plain (OpenSpec.ofChange takeoverAnswersSpec)) takeoverAnswersCard

/-- THE TIED CARD OF 'kalendslaw29.ReserveAllOrNone'. -/
def reserveAllOrNoneCard : Claim7 := { stood := { row := reserveAllOrNoneRow, standIns := [], harness := (true, "bcc683704858592698486eecf06fd0badc591eb37f1a44e819055759d7f6be39"), looks := true }, kinds := [], alts := [], laidByText := true, laidKinds := [.data], laidTests := true, laidLooks := .later }
def ReserveAllOrNoneCardSaid : Prop := Claim7.holds Tryz.pinned (.plain (OpenSpec.ofChange reserveAllOrNoneSpec)) reserveAllOrNoneCard

/-- THE TIED CARD OF 'kalendslaw29.ReserveRefusals'. -/
def reserveRefusalsCard : Claim7 := { stood := { row := reserveRefusalsRow, standIns := [], harness := (true, "bcc683704858592698486eecf06fd0badc591eb37f1a44e819055759d7f6be39"), looks := true }, kinds := [], alts := [], laidByText := true, laidKinds := [.data], laidTests := true, laidLooks := .later }
def ReserveRefusalsCardSaid : Prop := Claim7.holds Tryz.pinned (.plain (OpenSpec.ofChange reserveRefusalsSpec)) reserveRefusalsCard

/-- THE TIED CARD OF 'kalendslaw29.ReserveOrder'. -/
def reserveOrderCard : Claim7 := { stood := { row := reserveOrderRow, standIns := [], harness := (true, "bcc683704858592698486eecf06fd0badc591eb37f1a44e819055759d7f6be39"), looks := true }, kinds := [], alts := [], laidByText := true, laidKinds := [.data], laidTests := true, laidLooks := .later }
def ReserveOrderCardSaid : Prop := Claim7.holds Tryz.pinned (.plain (OpenSpec.ofChange reserveOrderSpec)) reserveOrderCard

/-- THE TIED CARD OF 'kalendslaw29.ReserveKeepsPromises'. -/
def reserveKeepsPromisesCard : Claim7 := { stood := { row := reserveKeepsPromisesRow, standIns := [], harness := (true, "bcc683704858592698486eecf06fd0badc591eb37f1a44e819055759d7f6be39"), looks := true }, kinds := [], alts := [], laidByText := true, laidKinds := [.data], laidTests := true, laidLooks := .later }
def ReserveKeepsPromisesCardSaid : Prop := Claim7.holds Tryz.pinned (.plain (OpenSpec.ofChange reserveKeepsPromisesSpec)) reserveKeepsPromisesCard

/-- THE TIED CARD OF 'kalendslaw29.ReserveChecksStates'. -/
def reserveChecksStatesCard : Claim7 := { stood := { row := reserveChecksStatesRow, standIns := [], harness := (true, "bcc683704858592698486eecf06fd0badc591eb37f1a44e819055759d7f6be39"), looks := true }, kinds := [], alts := [], laidByText := true, laidKinds := [.data], laidTests := true, laidLooks := .later }
def ReserveChecksStatesCardSaid : Prop := Claim7.holds Tryz.pinned (.plain (OpenSpec.ofChange reserveChecksStatesSpec)) reserveChecksStatesCard

/-- THE TIED CARD OF 'kalendslaw29.ReserveProofs'. -/
def reserveProofsCard : Claim7 := { stood := { row := reserveProofsRow, standIns := [], harness := (true, "bcc683704858592698486eecf06fd0badc591eb37f1a44e819055759d7f6be39"), looks := true }, kinds := [], alts := [], laidByText := true, laidKinds := [.data], laidTests := true, laidLooks := .later }
def ReserveProofsCardSaid : Prop := Claim7.holds Tryz.pinned (.plain (OpenSpec.ofChange reserveProofsSpec)) reserveProofsCard

/-- THE TIED CARD OF 'kalendslaw30.TakeoverAgrees'. -/
def takeoverAgreesCard : Claim7 := { stood := { row := takeoverAgreesRow, standIns := [], harness := (true, "bcc683704858592698486eecf06fd0badc591eb37f1a44e819055759d7f6be39"), looks := true }, kinds := [], alts := [], laidByText := true, laidKinds := [.data], laidTests := true, laidLooks := .later }
def TakeoverAgreesCardSaid : Prop := Claim7.holds Tryz.pinned (.plain (OpenSpec.ofChange takeoverAgreesSpec)) takeoverAgreesCard

/-- THE TIED CARD OF 'kalendslaw30.TakeoverEnds'. -/
def takeoverEndsCard : Claim7 := { stood := { row := takeoverEndsRow, standIns := [], harness := (true, "bcc683704858592698486eecf06fd0badc591eb37f1a44e819055759d7f6be39"), looks := true }, kinds := [], alts := [], laidByText := true, laidKinds := [.data], laidTests := true, laidLooks := .later }
def TakeoverEndsCardSaid : Prop := Claim7.holds Tryz.pinned (.plain (OpenSpec.ofChange takeoverEndsSpec)) takeoverEndsCard

/-- THE TIED CARD OF 'kalendslaw30.TakeoverPromises'. -/
def takeoverPromisesCard : Claim7 := { stood := { row := takeoverPromisesRow, standIns := [], harness := (true, "bcc683704858592698486eecf06fd0badc591eb37f1a44e819055759d7f6be39"), looks := true }, kinds := [], alts := [], laidByText := true, laidKinds := [.data], laidTests := true, laidLooks := .later }
def TakeoverPromisesCardSaid : Prop := Claim7.holds Tryz.pinned (.plain (OpenSpec.ofChange takeoverPromisesSpec)) takeoverPromisesCard

/-- THE SECOND FORM's CARD OF 'kalendslaw30.TakeoverMatchesReference'. -/
def takeoverMatchesReferenceUptoCard : Claim7 := { stood := { row := takeoverMatchesReferenceUptoRow, standIns := [], harness := (true, "bcc683704858592698486eecf06fd0badc591eb37f1a44e819055759d7f6be39"), looks := true }, kinds := [], alts := [], laidByText := true, laidKinds := [.data], laidTests := true, laidLooks := .later }
def TakeoverMatchesReferenceUptoCardSaid : Prop := Claim7.holds Tryz.pinned (.plain (OpenSpec.upto takeoverMatchesReferenceSpec)) takeoverMatchesReferenceUptoCard

/-- THE SECOND FORM's CARD OF 'kalendslaw30.TakeoverAnswers'. -/
def takeoverAnswersUptoCard : Claim7 := { stood := { row := takeoverAnswersUptoRow, standIns := [], harness := (true, "bcc683704858592698486eecf06fd0badc591eb37f1a44e819055759d7f6be39"), looks := true }, kinds := [], alts := [], laidByText := true, laidKinds := [.data], laidTests := true, laidLooks := .later }
def TakeoverAnswersUptoCardSaid : Prop := Claim7.holds Tryz.pinned (.plain (OpenSpec.upto takeoverAnswersSpec)) takeoverAnswersUptoCard

/-- THE SECOND FORM's CARD OF 'kalendslaw29.ReserveAllOrNone'. -/
def reserveAllOrNoneUptoCard : Claim7 := { stood := { row := reserveAllOrNoneUptoRow, standIns := [], harness := (true, "bcc683704858592698486eecf06fd0badc591eb37f1a44e819055759d7f6be39"), looks := true }, kinds := [], alts := [], laidByText := true, laidKinds := [.data], laidTests := true, laidLooks := .later }
def ReserveAllOrNoneUptoCardSaid : Prop := Claim7.holds Tryz.pinned (.plain (OpenSpec.upto reserveAllOrNoneSpec)) reserveAllOrNoneUptoCard

/-- THE SECOND FORM's CARD OF 'kalendslaw29.ReserveRefusals'. -/
def reserveRefusalsUptoCard : Claim7 := { stood := { row := reserveRefusalsUptoRow, standIns := [], harness := (true, "bcc683704858592698486eecf06fd0badc591eb37f1a44e819055759d7f6be39"), looks := true }, kinds := [], alts := [], laidByText := true, laidKinds := [.data], laidTests := true, laidLooks := .later }
def ReserveRefusalsUptoCardSaid : Prop := Claim7.holds Tryz.pinned (.plain (OpenSpec.upto reserveRefusalsSpec)) reserveRefusalsUptoCard

/-- THE SECOND FORM's CARD OF 'kalendslaw29.ReserveOrder'. -/
def reserveOrderUptoCard : Claim7 := { stood := { row := reserveOrderUptoRow, standIns := [], harness := (true, "bcc683704858592698486eecf06fd0badc591eb37f1a44e819055759d7f6be39"), looks := true }, kinds := [], alts := [], laidByText := true, laidKinds := [.data], laidTests := true, laidLooks := .later }
def ReserveOrderUptoCardSaid : Prop := Claim7.holds Tryz.pinned (.plain (OpenSpec.upto reserveOrderSpec)) reserveOrderUptoCard

/-- THE SECOND FORM's CARD OF 'kalendslaw29.ReserveKeepsPromises'. -/
def reserveKeepsPromisesUptoCard : Claim7 := { stood := { row := reserveKeepsPromisesUptoRow, standIns := [], harness := (true, "bcc683704858592698486eecf06fd0badc591eb37f1a44e819055759d7f6be39"), looks := true }, kinds := [], alts := [], laidByText := true, laidKinds := [.data], laidTests := true, laidLooks := .later }
def ReserveKeepsPromisesUptoCardSaid : Prop := Claim7.holds Tryz.pinned (.plain (OpenSpec.upto reserveKeepsPromisesSpec)) reserveKeepsPromisesUptoCard

/-- THE SECOND FORM's CARD OF 'kalendslaw29.ReserveChecksStates'. -/
def reserveChecksStatesUptoCard : Claim7 := { stood := { row := reserveChecksStatesUptoRow, standIns := [], harness := (true, "bcc683704858592698486eecf06fd0badc591eb37f1a44e819055759d7f6be39"), looks := true }, kinds := [], alts := [], laidByText := true, laidKinds := [.data], laidTests := true, laidLooks := .later }
def ReserveChecksStatesUptoCardSaid : Prop := Claim7.holds Tryz.pinned (.plain (OpenSpec.upto reserveChecksStatesSpec)) reserveChecksStatesUptoCard

/-- THE SECOND FORM's CARD OF 'kalendslaw29.ReserveProofs'. -/
def reserveProofsUptoCard : Claim7 := { stood := { row := reserveProofsUptoRow, standIns := [], harness := (true, "bcc683704858592698486eecf06fd0badc591eb37f1a44e819055759d7f6be39"), looks := true }, kinds := [], alts := [], laidByText := true, laidKinds := [.data], laidTests := true, laidLooks := .later }
def ReserveProofsUptoCardSaid : Prop := Claim7.holds Tryz.pinned (.plain (OpenSpec.upto reserveProofsSpec)) reserveProofsUptoCard

/-- THE SECOND FORM's CARD OF 'kalendslaw30.TakeoverAgrees'. -/
def takeoverAgreesUptoCard : Claim7 := { stood := { row := takeoverAgreesUptoRow, standIns := [], harness := (true, "bcc683704858592698486eecf06fd0badc591eb37f1a44e819055759d7f6be39"), looks := true }, kinds := [], alts := [], laidByText := true, laidKinds := [.data], laidTests := true, laidLooks := .later }
def TakeoverAgreesUptoCardSaid : Prop := Claim7.holds Tryz.pinned (.plain (OpenSpec.upto takeoverAgreesSpec)) takeoverAgreesUptoCard

/-- THE SECOND FORM's CARD OF 'kalendslaw30.TakeoverEnds'. -/
def takeoverEndsUptoCard : Claim7 := { stood := { row := takeoverEndsUptoRow, standIns := [], harness := (true, "bcc683704858592698486eecf06fd0badc591eb37f1a44e819055759d7f6be39"), looks := true }, kinds := [], alts := [], laidByText := true, laidKinds := [.data], laidTests := true, laidLooks := .later }
def TakeoverEndsUptoCardSaid : Prop := Claim7.holds Tryz.pinned (.plain (OpenSpec.upto takeoverEndsSpec)) takeoverEndsUptoCard

/-- THE SECOND FORM's CARD OF 'kalendslaw30.TakeoverPromises'. -/
def takeoverPromisesUptoCard : Claim7 := { stood := { row := takeoverPromisesUptoRow, standIns := [], harness := (true, "bcc683704858592698486eecf06fd0badc591eb37f1a44e819055759d7f6be39"), looks := true }, kinds := [], alts := [], laidByText := true, laidKinds := [.data], laidTests := true, laidLooks := .later }
def TakeoverPromisesUptoCardSaid : Prop := Claim7.holds Tryz.pinned (.plain (OpenSpec.upto takeoverPromisesSpec)) takeoverPromisesUptoCard
end Rows
end Go.Proofs.YtlnlbdfokmhelaaGreatDoor
