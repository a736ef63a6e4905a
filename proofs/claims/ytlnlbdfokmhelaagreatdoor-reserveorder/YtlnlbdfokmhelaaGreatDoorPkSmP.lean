/-
  Two letters without a series compared by the program: reckoned by the kernel.
-/
import Derived.Test.YtlnlbdfokmhelaaGreatDoorPkSm
set_option linter.unusedSectionVars false
set_option linter.constructorNameAsVariable false
set_option linter.unusedVariables false
set_option linter.unusedSimpArgs false
namespace Go.CE
namespace V
open Go.Proofs Go.Proofs.YtlnlbdfokmhelaaGreatDoor Go.RowKit
set_option maxRecDepth 100000
theorem bKw (num oct:Nat→Nat):bN0 69 rkP 0 num oct=true:=by kernel_rfl
theorem bKv (num oct:Nat→Nat):bN0 69 rkP 1 num oct=true:=by kernel_rfl
theorem bKu (num oct:Nat→Nat):bN0 69 rkP 2 num oct=true:=by kernel_rfl
theorem bKt (num oct:Nat→Nat):bN0 69 rkP 3 num oct=true:=by kernel_rfl
theorem bKs (num oct:Nat→Nat):bN0 69 rkP 4 num oct=true:=by kernel_rfl
theorem bKr (num oct:Nat→Nat):bN0 69 rkP 5 num oct=true:=by kernel_rfl
theorem bKq (num oct:Nat→Nat):bN0 69 rkP 6 num oct=true:=by kernel_rfl
theorem bKp (num oct:Nat→Nat):bN0 69 rkP 7 num oct=true:=by kernel_rfl
theorem bL2 (num oct:Nat→Nat):bWf 69 rkP 0 num oct=true:=by kernel_rfl
theorem bL1 (num oct:Nat→Nat):bWf 69 rkP 1 num oct=true:=by kernel_rfl
theorem bL0 (num oct:Nat→Nat):bWf 69 rkP 2 num oct=true:=by kernel_rfl
theorem bKz (num oct:Nat→Nat):bWf 69 rkP 3 num oct=true:=by kernel_rfl
theorem bKy (num oct:Nat→Nat):bWf 69 rkP 4 num oct=true:=by kernel_rfl
theorem bKx (num oct:Nat→Nat):bWf 69 rkP 5 num oct=true:=by kernel_rfl
theorem bKo (num oct:Nat→Nat):bLc 69 rkP 0 num oct=true:=by kernel_rfl
theorem bKn (num oct:Nat→Nat):bLc 69 rkP 1 num oct=true:=by kernel_rfl
theorem bKm (num oct:Nat→Nat):bLc 69 rkP 2 num oct=true:=by kernel_rfl
theorem bKl (num oct:Nat→Nat):bLc 69 rkP 3 num oct=true:=by kernel_rfl
theorem bKk (num oct:Nat→Nat):bLc 69 rkP 4 num oct=true:=by kernel_rfl
theorem bKj (num oct:Nat→Nat):bLc 69 rkP 5 num oct=true:=by kernel_rfl
theorem bKi (num oct:Nat→Nat):bLc 69 rkP 6 num oct=true:=by kernel_rfl
theorem bKh (num oct:Nat→Nat):bLc 69 rkP 7 num oct=true:=by kernel_rfl
theorem bUf (num oct:Nat→Nat):eqT 69 rkP num oct=true:=by kernel_rfl
theorem byo:SmR 69 rkP where
 dif num oct i hi:=by
  rcases (show i=0∨i=1∨i=2∨i=3∨i=4∨i=5∨i=6∨i=7 by omega) with rfl | rfl | rfl | rfl | rfl | rfl | rfl | rfl
  ·exact bKw num oct
  ·exact bKv num oct
  ·exact bKu num oct
  ·exact bKt num oct
  ·exact bKs num oct
  ·exact bKr num oct
  ·exact bKq num oct
  ·exact bKp num oct
 cel num oct i hi:=by
  rcases (show i=0∨i=1∨i=2∨i=3∨i=4∨i=5 by omega) with rfl | rfl | rfl | rfl | rfl | rfl
  ·exact bL2 num oct
  ·exact bL1 num oct
  ·exact bL0 num oct
  ·exact bKz num oct
  ·exact bKy num oct
  ·exact bKx num oct
 one num oct i hi:=by
  rcases (show i=0∨i=1∨i=2∨i=3∨i=4∨i=5∨i=6∨i=7 by omega) with rfl | rfl | rfl | rfl | rfl | rfl | rfl | rfl
  ·exact bKo num oct
  ·exact bKn num oct
  ·exact bKm num oct
  ·exact bKl num oct
  ·exact bKk num oct
  ·exact bKj num oct
  ·exact bKi num oct
  ·exact bKh num oct
 eq:=bUf
end V
end Go.CE
