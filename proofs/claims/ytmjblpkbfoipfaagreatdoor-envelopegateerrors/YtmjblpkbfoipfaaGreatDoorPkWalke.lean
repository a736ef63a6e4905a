/-
  The law of the gate's errors, in all cases.
-/
import Derived.Test.YtmjblpkbfoipfaaGreatDoorPkWalkA
import Derived.Test.YtmjblpkbfoipfaaGreatDoorPkWalkB
import Derived.Test.YtmjblpkbfoipfaaGreatDoorPkWalkC
set_option linter.unusedSectionVars false
set_option linter.constructorNameAsVariable false
set_option linter.unusedVariables false
set_option linter.unusedSimpArgs false
namespace Go.Proofs.YtmjblpkbfoipfaaGreatDoor
open Go.RowKit Go.CE.V
theorem errors_calls (salt : Nat) (hs : salt < 256) (ds : Nat → Deed) (n : Nat) (lv : Value) (d : Deed) (hd : d.Ok) (W : World) (hT : TabW W) (hD : DeedsAt W lv n ds) :
    Calls Tryz.prog 5 #[.int .u8 salt, lv, d.val] W fun e w' => e = .returned (.bool true) ∧ Below W.heap.size W w' := by
  obtain ⟨dF, dS, far, forged, astray⟩ := d
  cases astray
  · cases h : Deed.good salt ⟨dF, dS, far, true, false⟩
    · exact errors_C salt hs ds n lv dF dS far forged hd h W hT hD
    · exact errors_B salt hs ds n lv dF dS far forged hd h W hT hD
  · exact errors_A salt hs ds n lv dF dS far forged hd (Deed.good_own salt _ rfl) W hT hD
end Go.Proofs.YtmjblpkbfoipfaaGreatDoor
