/-
  complete reckoned by the kernel.
-/
import Derived.Test.YtlnlbdfokmhelaaGreatDoorPkRo
set_option linter.unusedSectionVars false
set_option linter.constructorNameAsVariable false
set_option linter.unusedVariables false
set_option linter.unusedSimpArgs false
namespace Go.CE
namespace V
open Go.Proofs Go.Proofs.YtlnlbdfokmhelaaGreatDoor Go.RowKit
set_option maxRecDepth 100000
theorem auq:([[1],[2],[3],[4],[1,2]]:List (List Nat)).all (fun own=>(List.range own.length).all fun i=>isComp own (runT 37 [ae2 own,.i .i64 (.ofNat i)] own))=true:=by decide +kernel
theorem aup:([[1,3],[1,4],[2,3]]:List (List Nat)).all (fun own=>(List.range own.length).all fun i=>isComp own (runT 37 [ae2 own,.i .i64 (.ofNat i)] own))=true:=by decide +kernel
theorem comp_runs7:([[2,4],[3,4]]:List (List Nat)).all (fun own=>(List.range own.length).all fun i=>isComp own (runT 37 [ae2 own,.i .i64 (.ofNat i)] own))=true:=by decide +kernel
end V
end Go.CE
