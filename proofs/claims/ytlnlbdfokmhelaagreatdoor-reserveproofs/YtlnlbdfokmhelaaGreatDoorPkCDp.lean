/-
  The proof of an owner that has committed is accepted with 1, that of one that has aborted with 2, and without one of the grants, or for another meeting or organizer, it shows nothing: the law answers true for every input and leaves its arguments as they were. Conditions: the package variable digest.rounds holds what the program's text lays (the card ties it).
-/
import Derived.Test.YtlnlbdfokmhelaaGreatDoorPkCBp
import Derived.WalkKit
import Derived.ProofKit
import Derived.OpenShut
import Derived.Carry
import Derived.Deep.DeepHandedRow
import Derived.Lib.LaidTab
import Derived.Test.YtlnlbdfokmhelaaGreatDoorCards
import Derived.Test.YtlnlbdfokmhelaaGreatDoorTie
set_option linter.unusedSectionVars false
set_option linter.constructorNameAsVariable false
set_option linter.unusedVariables false
set_option linter.unusedSimpArgs false
namespace Go.Proofs.YtlnlbdfokmhelaaGreatDoor.proofs
open Go.ChangeShapes Go.WideShapes Go.ChangeAt Go.RowKit

theorem plain (f:FuncId) (fn:Func) (hf:Tryz.pinned.checked.prog.funcNamed "kalends/kalendslaw29.ReserveProofs" = some f) (hfn:Tryz.pinned.checked.prog.funcs[f]? = some fn) :
  true=Tryz.pinned.checked.prog.looks []∧∀ (j:Nat) t,fn.params[j]? = some t→Tryz.pinned.checked.prog.wantsStandIn t=false:=by
 obtain rfl:f=10:=Option.some.inj ((show Tryz.prog.funcNamed "kalends/kalendslaw29.ReserveProofs" = some 10 by kernel_rfl).symm.trans hf) |>.symm
 obtain rfl:fn=Tryz.f10:=(Option.some.inj (Tryz.func10.symm.trans hfn)).symm
 refine ⟨by kernel_rfl,fun j t ht=>?_⟩
 rw [Tryz.params10] at ht
 have hm:t∈[5,5,71]:=by simpa using Array.mem_of_getElem? ht
 have hall:([5,5,71].all fun u => !Tryz.prog.wantsStandIn u)=true:=by kernel_rfl
 exact (show Tryz.prog.wantsStandIn t=false by simpa using List.all_eq_true.1 hall t hm)
theorem aR0:Rows.reserveProofsRow.wfByText (OpenSpec.ofChange Rows.reserveProofsSpec)=true:=by kernel_rfl
theorem aR1:Tryz.pinned.checked.prog.mainIs=some (((true,"bcc683704858592698486eecf06fd0badc591eb37f1a44e819055759d7f6be39"):Bool×String).1,((true,"bcc683704858592698486eecf06fd0badc591eb37f1a44e819055759d7f6be39"):Bool×String).2.toList):=by kernel_rfl
theorem aR3:false=Rows.reserveProofsRow.goesBy Tryz.pinned.checked.prog:=by kernel_rfl
theorem card:Rows.ReserveProofsCardSaid :=
 Claim7.holds_tied_plain_at .later [] _ _ _ _ said (fun _ h=>by cases h) aR0 (fun _ h=>by cases h) reserveProofs_row_tie rfl ⟨rfl,rfl⟩ aR1 rfl plain aR3
end Go.Proofs.YtlnlbdfokmhelaaGreatDoor.proofs
