/-
  A barred owner never commits, whatever letters come, and a decision never changes: the law answers true for every input and leaves its arguments as they were. Conditions: the package variable digest.rounds holds what the program's text lays (the card ties it).
-/
import Derived.Test.YtlnlbdfokmhelaaGreatDoorPkCBk
import Derived.WalkKit
import Derived.ProofKit
import Derived.OpenShut
import Derived.Carry
import Derived.Deep.DeepHandedRow
import Derived.Lib.LaidTab
import Derived.Test.YtlnlbdfokmhelaaGreatDoorCards
import Derived.Test.YtlnlbdfokmhelaaGreatDoorTie
set_option linter.unusedSectionVars false
set_option linter.constructorNameAsVariable false
set_option linter.unusedVariables false
set_option linter.unusedSimpArgs false
namespace Go.Proofs.YtlnlbdfokmhelaaGreatDoor.promises
open Go.ChangeShapes Go.WideShapes Go.ChangeAt Go.RowKit

theorem plain (f:FuncId) (fn:Func) (hf:Tryz.pinned.checked.prog.funcNamed "kalends/kalendslaw29.ReserveKeepsPromises" = some f) (hfn:Tryz.pinned.checked.prog.funcs[f]? = some fn) :
  true=Tryz.pinned.checked.prog.looks []∧∀ (j:Nat) t,fn.params[j]? = some t→Tryz.pinned.checked.prog.wantsStandIn t=false:=by
 obtain rfl:f=8:=Option.some.inj ((show Tryz.prog.funcNamed "kalends/kalendslaw29.ReserveKeepsPromises" = some 8 by kernel_rfl).symm.trans hf) |>.symm
 obtain rfl:fn=Tryz.f8:=(Option.some.inj (Tryz.func8.symm.trans hfn)).symm
 refine ⟨by kernel_rfl,fun j t ht=>?_⟩
 rw [Tryz.params8] at ht
 have hm:t∈[5,5,69]:=by simpa using Array.mem_of_getElem? ht
 have hall:([5,5,69].all fun u => !Tryz.prog.wantsStandIn u)=true:=by kernel_rfl
 exact (show Tryz.prog.wantsStandIn t=false by simpa using List.all_eq_true.1 hall t hm)
theorem bkx:Rows.reserveKeepsPromisesRow.wfByText (OpenSpec.ofChange Rows.reserveKeepsPromisesSpec)=true:=by kernel_rfl
theorem bky:Tryz.pinned.checked.prog.mainIs=some (((true,"bcc683704858592698486eecf06fd0badc591eb37f1a44e819055759d7f6be39"):Bool×String).1,((true,"bcc683704858592698486eecf06fd0badc591eb37f1a44e819055759d7f6be39"):Bool×String).2.toList):=by kernel_rfl
theorem bkz:false=Rows.reserveKeepsPromisesRow.goesBy Tryz.pinned.checked.prog:=by kernel_rfl
theorem card:Rows.ReserveKeepsPromisesCardSaid :=
 Claim7.holds_tied_plain_at .later [] _ _ _ _ said (fun _ h=>by cases h) bkx (fun _ h=>by cases h) reserveKeepsPromises_row_tie rfl ⟨rfl,rfl⟩ bky rfl plain bkz
end Go.Proofs.YtlnlbdfokmhelaaGreatDoor.promises
