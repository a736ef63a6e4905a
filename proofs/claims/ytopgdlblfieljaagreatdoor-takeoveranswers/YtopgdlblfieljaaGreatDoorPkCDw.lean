/-
  An owner answers every inquiry of another owner with what it has decided or promised, and a verdict never changes with more answers, but from 0, or from 2 to 1: the law answers true for every input and leaves its arguments as they were. Conditions: the package variable digest.rounds holds what the program's text lays (the card ties it).
-/
import Derived.Test.YtopgdlblfieljaaGreatDoorPkCBw
import Derived.WalkKit
import Derived.ProofKit
import Derived.OpenShut
import Derived.Carry
import Derived.Deep.DeepHandedRow
import Derived.Lib.LaidTab
import Derived.Test.YtopgdlblfieljaaGreatDoorCards
import Derived.Test.YtopgdlblfieljaaGreatDoorTie
set_option linter.unusedSectionVars false
set_option linter.constructorNameAsVariable false
set_option linter.unusedVariables false
set_option linter.unusedSimpArgs false
namespace Go.Proofs.YtopgdlblfieljaaGreatDoor.answers
open Go.ChangeShapes Go.WideShapes Go.ChangeAt Go.RowKit

theorem plain (f:FuncId) (fn:Func) (hf:Tryz.pinned.checked.prog.funcNamed "kalends/kalendslaw30.TakeoverAnswers" = some f) (hfn:Tryz.pinned.checked.prog.funcs[f]? = some fn) :
  true=Tryz.pinned.checked.prog.looks []∧∀ (j:Nat) t,fn.params[j]? = some t→Tryz.pinned.checked.prog.wantsStandIn t=false:=by
 obtain rfl:f=4:=Option.some.inj ((show Tryz.prog.funcNamed "kalends/kalendslaw30.TakeoverAnswers" = some 4 by kernel_rfl).symm.trans hf) |>.symm
 obtain rfl:fn=Tryz.f4:=(Option.some.inj (Tryz.func4.symm.trans hfn)).symm
 refine ⟨by kernel_rfl,fun j t ht=>?_⟩
 rw [Tryz.params4] at ht
 have hm:t∈[22,5,23]:=by simpa using Array.mem_of_getElem? ht
 have hall:([22,5,23].all fun u => !Tryz.prog.wantsStandIn u)=true:=by kernel_rfl
 exact (show Tryz.prog.wantsStandIn t=false by simpa using List.all_eq_true.1 hall t hm)
theorem aR0:Rows.takeoverAnswersRow.wfByText (OpenSpec.ofChange Rows.takeoverAnswersSpec)=true:=by kernel_rfl
theorem aR1:Tryz.pinned.checked.prog.mainIs=some (((true,"fab05bfe4e99db21c37d4c813eacca50239f95825d74e1071b91a29a627c9f6e"):Bool×String).1,((true,"fab05bfe4e99db21c37d4c813eacca50239f95825d74e1071b91a29a627c9f6e"):Bool×String).2.toList):=by kernel_rfl
theorem aR3:false=Rows.takeoverAnswersRow.goesBy Tryz.pinned.checked.prog:=by kernel_rfl
theorem card:Rows.TakeoverAnswersCardSaid :=
 Claim7.holds_tied_plain_at .later [] _ _ _ _ said (fun _ h=>by cases h) aR0 (fun _ h=>by cases h) takeoverAnswers_row_tie rfl ⟨rfl,rfl⟩ aR1 rfl plain aR3
end Go.Proofs.YtopgdlblfieljaaGreatDoor.answers
