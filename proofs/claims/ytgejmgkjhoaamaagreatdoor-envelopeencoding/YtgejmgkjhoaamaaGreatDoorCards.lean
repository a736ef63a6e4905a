/-
  DERIVED. GIVEN WITH THE SEED: THE CARDS: each row of YtgejmgkjhoaamaaGreatDoorRows.lean that lists a variable, with what it lists TIED to the program's text (the seventh form; the later family's looks); each row that meets fmt, with fmt's text TOLD by the authors' own Lean function (tested against real Go, not proved from fmt's source: count such statements apart). THE CARD IS WHAT COUNTS. Prove the row's statement (the work); the ties are given (YtgejmgkjhoaamaaGreatDoorTie.lean); close each card by the builder's one call (the guide's Derived/Test/ToyasCard.lean, 'card_holds'). Laid BY PROGRAM, IN A SANDBOX (cutbox-door.mjs). By AI agents, Wed Nov 11 2026. No macro, syntax, notation, axiom, sorry.
-/
import Derived.Test.YtgejmgkjhoaamaaGreatDoorRows
import GoSem.ClaimSeven
namespace Go.Proofs.YtgejmgkjhoaamaaGreatDoor
namespace Rows

/-- THE TIED CARD OF 'kalendslaw21.EnvelopeEncoding'. -/
def envelopeEncodingCard : Claim7 := { stood := { row := envelopeEncodingRow, standIns := [], harness := (true, "96e41413264439efd5b1cc37884cc5b5be5c2b698f0f8a8ab1aebbb0cd2bb62b"), looks := true }, kinds := [], alts := [], laidByText := true, laidKinds := [.data], laidTests := true, laidLooks := .later }
def EnvelopeEncodingCardSaid : Prop := Claim7.holds Tryz.pinned (.plain (OpenSpec.ofChange envelopeEncodingSpec)) envelopeEncodingCard

/-- THE SECOND FORM's CARD OF 'kalendslaw21.EnvelopeEncoding'. -/
def envelopeEncodingUptoCard : Claim7 := { stood := { row := envelopeEncodingUptoRow, standIns := [], harness := (true, "96e41413264439efd5b1cc37884cc5b5be5c2b698f0f8a8ab1aebbb0cd2bb62b"), looks := true }, kinds := [], alts := [], laidByText := true, laidKinds := [.data], laidTests := true, laidLooks := .later }
def EnvelopeEncodingUptoCardSaid : Prop := Claim7.holds Tryz.pinned (.plain (OpenSpec.upto envelopeEncodingSpec)) envelopeEncodingUptoCard
end Rows
end Go.Proofs.YtgejmgkjhoaamaaGreatDoor
