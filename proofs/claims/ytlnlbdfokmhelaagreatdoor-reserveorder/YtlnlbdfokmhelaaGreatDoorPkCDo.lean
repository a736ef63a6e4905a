/-
  An owner that gets all grants and the commit has committed, in whatever order and however often they come, and whatever letters of other reservations come between: the law answers true for every input and leaves its arguments as they were. Conditions: the package variable digest.rounds holds what the program's text lays (the card ties it).
-/
import Derived.Test.YtlnlbdfokmhelaaGreatDoorPkCBo
import Derived.WalkKit
import Derived.ProofKit
import Derived.OpenShut
import Derived.Carry
import Derived.Deep.DeepHandedRow
import Derived.Lib.LaidTab
import Derived.Test.YtlnlbdfokmhelaaGreatDoorCards
import Derived.Test.YtlnlbdfokmhelaaGreatDoorTie
set_option linter.unusedSectionVars false
set_option linter.constructorNameAsVariable false
set_option linter.unusedVariables false
set_option linter.unusedSimpArgs false
namespace Go.Proofs.YtlnlbdfokmhelaaGreatDoor.order
open Go.ChangeShapes Go.WideShapes Go.ChangeAt Go.RowKit

theorem plain (f:FuncId) (fn:Func) (hf:Tryz.pinned.checked.prog.funcNamed "kalends/kalendslaw29.ReserveOrder" = some f) (hfn:Tryz.pinned.checked.prog.funcs[f]? = some fn) :
  true=Tryz.pinned.checked.prog.looks []∧∀ (j:Nat) t,fn.params[j]? = some t→Tryz.pinned.checked.prog.wantsStandIn t=false:=by
 obtain rfl:f=7:=Option.some.inj ((show Tryz.prog.funcNamed "kalends/kalendslaw29.ReserveOrder" = some 7 by kernel_rfl).symm.trans hf) |>.symm
 obtain rfl:fn=Tryz.f7:=(Option.some.inj (Tryz.func7.symm.trans hfn)).symm
 refine ⟨by kernel_rfl,fun j t ht=>?_⟩
 rw [Tryz.params7] at ht
 have hm:t∈[5,5,76]:=by simpa using Array.mem_of_getElem? ht
 have hall:([5,5,76].all fun u => !Tryz.prog.wantsStandIn u)=true:=by kernel_rfl
 exact (show Tryz.prog.wantsStandIn t=false by simpa using List.all_eq_true.1 hall t hm)
theorem bkx:Rows.reserveOrderRow.wfByText (OpenSpec.ofChange Rows.reserveOrderSpec)=true:=by kernel_rfl
theorem bky:Tryz.pinned.checked.prog.mainIs=some (((true,"bcc683704858592698486eecf06fd0badc591eb37f1a44e819055759d7f6be39"):Bool×String).1,((true,"bcc683704858592698486eecf06fd0badc591eb37f1a44e819055759d7f6be39"):Bool×String).2.toList):=by kernel_rfl
theorem bkz:false=Rows.reserveOrderRow.goesBy Tryz.pinned.checked.prog:=by kernel_rfl
theorem card:Rows.ReserveOrderCardSaid :=
 Claim7.holds_tied_plain_at .later [] _ _ _ _ said (fun _ h=>by cases h) bkx (fun _ h=>by cases h) reserveOrder_row_tie rfl ⟨rfl,rfl⟩ bky rfl plain bkz
end Go.Proofs.YtlnlbdfokmhelaaGreatDoor.order
