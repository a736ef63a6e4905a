/-
  Two letters without a series compared by the reference: reckoned by the kernel.
-/
import Derived.Test.YtopgdlblfieljaaGreatDoorPkSm
set_option linter.unusedSectionVars false
set_option linter.constructorNameAsVariable false
set_option linter.unusedVariables false
set_option linter.unusedSimpArgs false
namespace Go.CE
namespace V
open Go.Proofs Go.Proofs.YtopgdlblfieljaaGreatDoor Go.RowKit
set_option maxRecDepth 100000
theorem rsame_d0 (num oct:Nat→Nat):aHk 10 rkR 0 num oct=true:=by kernel_rfl
theorem rsame_d1 (num oct:Nat→Nat):aHk 10 rkR 1 num oct=true:=by kernel_rfl
theorem rsame_d2 (num oct:Nat→Nat):aHk 10 rkR 2 num oct=true:=by kernel_rfl
theorem rsame_d3 (num oct:Nat→Nat):aHk 10 rkR 3 num oct=true:=by kernel_rfl
theorem rsame_d4 (num oct:Nat→Nat):aHk 10 rkR 4 num oct=true:=by kernel_rfl
theorem rsame_d5 (num oct:Nat→Nat):aHk 10 rkR 5 num oct=true:=by kernel_rfl
theorem rsame_d6 (num oct:Nat→Nat):aHk 10 rkR 6 num oct=true:=by kernel_rfl
theorem rsame_d7 (num oct:Nat→Nat):aHk 10 rkR 7 num oct=true:=by kernel_rfl
theorem rsame_c0 (num oct:Nat→Nat):aQy 10 rkR 0 num oct=true:=by kernel_rfl
theorem rsame_c1 (num oct:Nat→Nat):aQy 10 rkR 1 num oct=true:=by kernel_rfl
theorem rsame_c2 (num oct:Nat→Nat):aQy 10 rkR 2 num oct=true:=by kernel_rfl
theorem rsame_c3 (num oct:Nat→Nat):aQy 10 rkR 3 num oct=true:=by kernel_rfl
theorem rsame_c4 (num oct:Nat→Nat):aQy 10 rkR 4 num oct=true:=by kernel_rfl
theorem rsame_c5 (num oct:Nat→Nat):aQy 10 rkR 5 num oct=true:=by kernel_rfl
theorem rsame_o0 (num oct:Nat→Nat):aFt 10 rkR 0 num oct=true:=by kernel_rfl
theorem rsame_o1 (num oct:Nat→Nat):aFt 10 rkR 1 num oct=true:=by kernel_rfl
theorem rsame_o2 (num oct:Nat→Nat):aFt 10 rkR 2 num oct=true:=by kernel_rfl
theorem rsame_o3 (num oct:Nat→Nat):aFt 10 rkR 3 num oct=true:=by kernel_rfl
theorem rsame_o4 (num oct:Nat→Nat):aFt 10 rkR 4 num oct=true:=by kernel_rfl
theorem rsame_o5 (num oct:Nat→Nat):aFt 10 rkR 5 num oct=true:=by kernel_rfl
theorem rsame_o6 (num oct:Nat→Nat):aFt 10 rkR 6 num oct=true:=by kernel_rfl
theorem rsame_o7 (num oct:Nat→Nat):aFt 10 rkR 7 num oct=true:=by kernel_rfl
theorem rsame_e (num oct:Nat→Nat):eqT 10 rkR num oct=true:=by kernel_rfl
theorem rsame_runs:SmR 10 rkR where
 dif num oct i hi:=by
  rcases (show i=0∨i=1∨i=2∨i=3∨i=4∨i=5∨i=6∨i=7 by omega) with rfl | rfl | rfl | rfl | rfl | rfl | rfl | rfl
  ·exact rsame_d0 num oct
  ·exact rsame_d1 num oct
  ·exact rsame_d2 num oct
  ·exact rsame_d3 num oct
  ·exact rsame_d4 num oct
  ·exact rsame_d5 num oct
  ·exact rsame_d6 num oct
  ·exact rsame_d7 num oct
 cel num oct i hi:=by
  rcases (show i=0∨i=1∨i=2∨i=3∨i=4∨i=5 by omega) with rfl | rfl | rfl | rfl | rfl | rfl
  ·exact rsame_c0 num oct
  ·exact rsame_c1 num oct
  ·exact rsame_c2 num oct
  ·exact rsame_c3 num oct
  ·exact rsame_c4 num oct
  ·exact rsame_c5 num oct
 one num oct i hi:=by
  rcases (show i=0∨i=1∨i=2∨i=3∨i=4∨i=5∨i=6∨i=7 by omega) with rfl | rfl | rfl | rfl | rfl | rfl | rfl | rfl
  ·exact rsame_o0 num oct
  ·exact rsame_o1 num oct
  ·exact rsame_o2 num oct
  ·exact rsame_o3 num oct
  ·exact rsame_o4 num oct
  ·exact rsame_o5 num oct
  ·exact rsame_o6 num oct
  ·exact rsame_o7 num oct
 eq:=rsame_e
end V
end Go.CE
