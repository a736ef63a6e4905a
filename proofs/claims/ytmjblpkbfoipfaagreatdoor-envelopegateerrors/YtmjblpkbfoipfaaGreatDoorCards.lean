/-
  DERIVED. GIVEN WITH THE SEED: THE CARDS: each row of YtmjblpkbfoipfaaGreatDoorRows.lean that lists a variable, with what it lists TIED to the program's text (the seventh form; the later family's looks); each row that meets fmt, with fmt's text TOLD by the authors' own Lean function (tested against real Go, not proved from fmt's source: count such statements apart). THE CARD IS WHAT COUNTS. Prove the row's statement (the work); the ties are given (YtmjblpkbfoipfaaGreatDoorTie.lean); close each card by the builder's one call (the guide's Derived/Test/ToyasCard.lean, 'card_holds'). Laid BY PROGRAM, IN A SANDBOX (cutbox-door.mjs). By AI agents, Wed Nov 11 2026. No macro, syntax, notation, axiom, sorry.
-/
import Derived.Test.YtmjblpkbfoipfaaGreatDoorRows
import GoSem.ClaimSeven
namespace Go.Proofs.YtmjblpkbfoipfaaGreatDoor
namespace Rows

/-- THE TIED CARD OF 'kalendslaw21.EnvelopeGatePlays'. -/
def envelopeGatePlaysCard : Claim7 := { stood := { row := envelopeGatePlaysRow, standIns := [], harness := (true, "bf908dc94a12f750a9ee6cc3a30fa74cb1cdbccb46449830a5e91ae3690c20b9"), looks := true }, kinds := [], alts := [], laidByText := true, laidKinds := [.data], laidTests := true, laidLooks := .later }
def EnvelopeGatePlaysCardSaid : Prop := Claim7.holds Tryz.pinned (.plain (OpenSpec.ofChange envelopeGatePlaysSpec)) envelopeGatePlaysCard

/-- THE TIED CARD OF 'kalendslaw21.EnvelopeGateOrder'. -/
def envelopeGateOrderCard : Claim7 := { stood := { row := envelopeGateOrderRow, standIns := [], harness := (true, "bf908dc94a12f750a9ee6cc3a30fa74cb1cdbccb46449830a5e91ae3690c20b9"), looks := true }, kinds := [], alts := [], laidByText := true, laidKinds := [.data], laidTests := true, laidLooks := .later }
def EnvelopeGateOrderCardSaid : Prop := Claim7.holds Tryz.pinned (.plain (OpenSpec.ofChange envelopeGateOrderSpec)) envelopeGateOrderCard

/-- THE TIED CARD OF 'kalendslaw21.EnvelopeGateErrors'. -/
def envelopeGateErrorsCard : Claim7 := { stood := { row := envelopeGateErrorsRow, standIns := [], harness := (true, "bf908dc94a12f750a9ee6cc3a30fa74cb1cdbccb46449830a5e91ae3690c20b9"), looks := true }, kinds := [], alts := [], laidByText := true, laidKinds := [.data], laidTests := true, laidLooks := .later }
def EnvelopeGateErrorsCardSaid : Prop := Claim7.holds Tryz.pinned (.plain (OpenSpec.ofChange envelopeGateErrorsSpec)) envelopeGateErrorsCard

/-- THE SECOND FORM's CARD OF 'kalendslaw21.EnvelopeGatePlays'. -/
def envelopeGatePlaysUptoCard : Claim7 := { stood := { row := envelopeGatePlaysUptoRow, standIns := [], harness := (true, "bf908dc94a12f750a9ee6cc3a30fa74cb1cdbccb46449830a5e91ae3690c20b9"), looks := true }, kinds := [], alts := [], laidByText := true, laidKinds := [.data], laidTests := true, laidLooks := .later }
def EnvelopeGatePlaysUptoCardSaid : Prop := Claim7.holds Tryz.pinned (.plain (OpenSpec.upto envelopeGatePlaysSpec)) envelopeGatePlaysUptoCard

/-- THE SECOND FORM's CARD OF 'kalendslaw21.EnvelopeGateOrder'. -/
def envelopeGateOrderUptoCard : Claim7 := { stood := { row := envelopeGateOrderUptoRow, standIns := [], harness := (true, "bf908dc94a12f750a9ee6cc3a30fa74cb1cdbccb46449830a5e91ae3690c20b9"), looks := true }, kinds := [], alts := [], laidByText := true, laidKinds := [.data], laidTests := true, laidLooks := .later }
def EnvelopeGateOrderUptoCardSaid : Prop := Claim7.holds Tryz.pinned (.plain (OpenSpec.upto envelopeGateOrderSpec)) envelopeGateOrderUptoCard

/-- THE SECOND FORM's CARD OF 'kalendslaw21.EnvelopeGateErrors'. -/
def envelopeGateErrorsUptoCard : Claim7 := { stood := { row := envelopeGateErrorsUptoRow, standIns := [], harness := (true, "bf908dc94a12f750a9ee6cc3a30fa74cb1cdbccb46449830a5e91ae3690c20b9"), looks := true }, kinds := [], alts := [], laidByText := true, laidKinds := [.data], laidTests := true, laidLooks := .later }
def EnvelopeGateErrorsUptoCardSaid : Prop := Claim7.holds Tryz.pinned (.plain (OpenSpec.upto envelopeGateErrorsSpec)) envelopeGateErrorsUptoCard
end Rows
end Go.Proofs.YtmjblpkbfoipfaaGreatDoor
