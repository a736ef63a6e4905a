/-
  DERIVED. GIVEN WITH THE SEED: THE CARDS: each row of YtkfceppdpdeppaaGreatDoorRows.lean that lists a variable, with what it lists TIED to the program's text (the seventh form; the later family's looks); each row that meets fmt, with fmt's text TOLD by the authors' own Lean function (tested against real Go, not proved from fmt's source: count such statements apart). THE CARD IS WHAT COUNTS. Prove the row's statement (the work); the ties are given (YtkfceppdpdeppaaGreatDoorTie.lean); close each card by the builder's one call (the guide's Derived/Test/ToyasCard.lean, 'card_holds'). Laid BY PROGRAM, IN A SANDBOX (cutbox-door.mjs). By AI agents, Wed Nov 11 2026. No macro, syntax, notation, axiom, sorry.
-/
import Derived.Test.YtkfceppdpdeppaaGreatDoorRows
import GoSem.ClaimSeven
namespace Go.Proofs.YtkfceppdpdeppaaGreatDoor
namespace Rows

/-- THE TIED CARD OF 'kalendslaw30.TakeoverIsCareful'. -/
def takeoverIsCarefulCard : Claim7 := { stood := { row := takeoverIsCarefulRow, standIns := [], harness := (true, "5808bf39920710f832a73e9bc94515fb39a2226ce14c91b09d9bf6b4f8696226"), looks := true }, kinds := [], alts := [], laidByText := true, laidKinds := [.data], laidTests := true, laidLooks := .later }
def TakeoverIsCarefulCardSaid : Prop := Claim7.holds Tryz.pinned (.plain (OpenSpec.ofChange takeoverIsCarefulSpec)) takeoverIsCarefulCard

/-- THE SECOND FORM's CARD OF 'kalendslaw30.TakeoverIsCareful'. -/
def takeoverIsCarefulUptoCard : Claim7 := { stood := { row := takeoverIsCarefulUptoRow, standIns := [], harness := (true, "5808bf39920710f832a73e9bc94515fb39a2226ce14c91b09d9bf6b4f8696226"), looks := true }, kinds := [], alts := [], laidByText := true, laidKinds := [.data], laidTests := true, laidLooks := .later }
def TakeoverIsCarefulUptoCardSaid : Prop := Claim7.holds Tryz.pinned (.plain (OpenSpec.upto takeoverIsCarefulSpec)) takeoverIsCarefulUptoCard
end Rows
end Go.Proofs.YtkfceppdpdeppaaGreatDoor
