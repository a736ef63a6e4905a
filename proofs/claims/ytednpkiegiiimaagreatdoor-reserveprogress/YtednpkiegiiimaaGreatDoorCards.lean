/-
  DERIVED. GIVEN WITH THE SEED: THE CARDS: each row of YtednpkiegiiimaaGreatDoorRows.lean that lists a variable, with what it lists TIED to the program's text (the seventh form; the later family's looks); each row that meets fmt, with fmt's text TOLD by the authors' own Lean function (tested against real Go, not proved from fmt's source: count such statements apart). THE CARD IS WHAT COUNTS. Prove the row's statement (the work); the ties are given (YtednpkiegiiimaaGreatDoorTie.lean); close each card by the builder's one call (the guide's Derived/Test/ToyasCard.lean, 'card_holds'). Laid BY PROGRAM, IN A SANDBOX (cutbox-door.mjs). By AI agents, Wed Nov 11 2026. No macro, syntax, notation, axiom, sorry.
-/
import Derived.Test.YtednpkiegiiimaaGreatDoorRows
import GoSem.ClaimSeven
namespace Go.Proofs.YtednpkiegiiimaaGreatDoor
namespace Rows

/-- THE TIED CARD OF 'kalendslaw29.ReserveProgress'. -/
def reserveProgressCard : Claim7 := { stood := { row := reserveProgressRow, standIns := [], harness := (true, "87c5bf7395a1be3ce788ddad92d63dd82be86d2a344ad3aba2ac52dde9b7ddf9"), looks := true }, kinds := [], alts := [], laidByText := true, laidKinds := [.data], laidTests := true, laidLooks := .later }
def ReserveProgressCardSaid : Prop := Claim7.holds Tryz.pinned (.plain (OpenSpec.ofChange reserveProgressSpec)) reserveProgressCard

/-- THE TIED CARD OF 'kalendslaw29.ReserveLate'. -/
def reserveLateCard : Claim7 := { stood := { row := reserveLateRow, standIns := [], harness := (true, "87c5bf7395a1be3ce788ddad92d63dd82be86d2a344ad3aba2ac52dde9b7ddf9"), looks := true }, kinds := [], alts := [], laidByText := true, laidKinds := [.data], laidTests := true, laidLooks := .later }
def ReserveLateCardSaid : Prop := Claim7.holds Tryz.pinned (.plain (OpenSpec.ofChange reserveLateSpec)) reserveLateCard

/-- THE SECOND FORM's CARD OF 'kalendslaw29.ReserveProgress'. -/
def reserveProgressUptoCard : Claim7 := { stood := { row := reserveProgressUptoRow, standIns := [], harness := (true, "87c5bf7395a1be3ce788ddad92d63dd82be86d2a344ad3aba2ac52dde9b7ddf9"), looks := true }, kinds := [], alts := [], laidByText := true, laidKinds := [.data], laidTests := true, laidLooks := .later }
def ReserveProgressUptoCardSaid : Prop := Claim7.holds Tryz.pinned (.plain (OpenSpec.upto reserveProgressSpec)) reserveProgressUptoCard

/-- THE SECOND FORM's CARD OF 'kalendslaw29.ReserveLate'. -/
def reserveLateUptoCard : Claim7 := { stood := { row := reserveLateUptoRow, standIns := [], harness := (true, "87c5bf7395a1be3ce788ddad92d63dd82be86d2a344ad3aba2ac52dde9b7ddf9"), looks := true }, kinds := [], alts := [], laidByText := true, laidKinds := [.data], laidTests := true, laidLooks := .later }
def ReserveLateUptoCardSaid : Prop := Claim7.holds Tryz.pinned (.plain (OpenSpec.upto reserveLateSpec)) reserveLateUptoCard
end Rows
end Go.Proofs.YtednpkiegiiimaaGreatDoor
