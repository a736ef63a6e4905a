/-
  Two letters without a series compared by the program: reckoned by the kernel.
-/
import Derived.Test.YtopgdlblfieljaaGreatDoorPkSm
set_option linter.unusedSectionVars false
set_option linter.constructorNameAsVariable false
set_option linter.unusedVariables false
set_option linter.unusedSimpArgs false
namespace Go.CE
namespace V
open Go.Proofs Go.Proofs.YtopgdlblfieljaaGreatDoor Go.RowKit
set_option maxRecDepth 100000
theorem aFd (num oct:Nat→Nat):aHk 36 rkP 0 num oct=true:=by kernel_rfl
theorem aFc (num oct:Nat→Nat):aHk 36 rkP 1 num oct=true:=by kernel_rfl
theorem aFb (num oct:Nat→Nat):aHk 36 rkP 2 num oct=true:=by kernel_rfl
theorem aFa (num oct:Nat→Nat):aHk 36 rkP 3 num oct=true:=by kernel_rfl
theorem aF9 (num oct:Nat→Nat):aHk 36 rkP 4 num oct=true:=by kernel_rfl
theorem aF8 (num oct:Nat→Nat):aHk 36 rkP 5 num oct=true:=by kernel_rfl
theorem aF7 (num oct:Nat→Nat):aHk 36 rkP 6 num oct=true:=by kernel_rfl
theorem aF6 (num oct:Nat→Nat):aHk 36 rkP 7 num oct=true:=by kernel_rfl
theorem aFj (num oct:Nat→Nat):aQy 36 rkP 0 num oct=true:=by kernel_rfl
theorem aFi (num oct:Nat→Nat):aQy 36 rkP 1 num oct=true:=by kernel_rfl
theorem aFh (num oct:Nat→Nat):aQy 36 rkP 2 num oct=true:=by kernel_rfl
theorem aFg (num oct:Nat→Nat):aQy 36 rkP 3 num oct=true:=by kernel_rfl
theorem aFf (num oct:Nat→Nat):aQy 36 rkP 4 num oct=true:=by kernel_rfl
theorem aFe (num oct:Nat→Nat):aQy 36 rkP 5 num oct=true:=by kernel_rfl
theorem aF5 (num oct:Nat→Nat):aFt 36 rkP 0 num oct=true:=by kernel_rfl
theorem aF4 (num oct:Nat→Nat):aFt 36 rkP 1 num oct=true:=by kernel_rfl
theorem aF3 (num oct:Nat→Nat):aFt 36 rkP 2 num oct=true:=by kernel_rfl
theorem aF2 (num oct:Nat→Nat):aFt 36 rkP 3 num oct=true:=by kernel_rfl
theorem aF1 (num oct:Nat→Nat):aFt 36 rkP 4 num oct=true:=by kernel_rfl
theorem aF0 (num oct:Nat→Nat):aFt 36 rkP 5 num oct=true:=by kernel_rfl
theorem aEz (num oct:Nat→Nat):aFt 36 rkP 6 num oct=true:=by kernel_rfl
theorem aEy (num oct:Nat→Nat):aFt 36 rkP 7 num oct=true:=by kernel_rfl
theorem aP0 (num oct:Nat→Nat):eqT 36 rkP num oct=true:=by kernel_rfl
theorem ath:SmR 36 rkP where
 dif num oct i hi:=by
  rcases (show i=0∨i=1∨i=2∨i=3∨i=4∨i=5∨i=6∨i=7 by omega) with rfl | rfl | rfl | rfl | rfl | rfl | rfl | rfl
  ·exact aFd num oct
  ·exact aFc num oct
  ·exact aFb num oct
  ·exact aFa num oct
  ·exact aF9 num oct
  ·exact aF8 num oct
  ·exact aF7 num oct
  ·exact aF6 num oct
 cel num oct i hi:=by
  rcases (show i=0∨i=1∨i=2∨i=3∨i=4∨i=5 by omega) with rfl | rfl | rfl | rfl | rfl | rfl
  ·exact aFj num oct
  ·exact aFi num oct
  ·exact aFh num oct
  ·exact aFg num oct
  ·exact aFf num oct
  ·exact aFe num oct
 one num oct i hi:=by
  rcases (show i=0∨i=1∨i=2∨i=3∨i=4∨i=5∨i=6∨i=7 by omega) with rfl | rfl | rfl | rfl | rfl | rfl | rfl | rfl
  ·exact aF5 num oct
  ·exact aF4 num oct
  ·exact aF3 num oct
  ·exact aF2 num oct
  ·exact aF1 num oct
  ·exact aF0 num oct
  ·exact aEz num oct
  ·exact aEy num oct
 eq:=aP0
end V
end Go.CE
