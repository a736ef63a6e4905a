/-
  Cases of the law, reckoned by the kernel.
-/
import Derived.Test.YtkfceppdpdeppaaGreatDoorPkSan
import Derived.KernelRfl
set_option linter.unusedSectionVars false
set_option linter.constructorNameAsVariable false
set_option linter.unusedVariables false
set_option linter.unusedSimpArgs false
namespace Go.CE
namespace V
set_option maxRecDepth 100000
theorem case100 (s p t c : Nat) : isT (runT s p t 1 0 c 0) = true := by kernel_rfl
theorem case110 (s p t c : Nat) : isT (runT s p t 1 1 c 0) = true := by kernel_rfl
theorem case120 (s p t c : Nat) : isT (runT s p t 1 2 c 0) = true := by kernel_rfl
theorem case130 (s p t c : Nat) : isT (runT s p t 1 3 c 0) = true := by kernel_rfl
theorem case140 (s p t c : Nat) : isT (runT s p t 1 4 c 0) = true := by kernel_rfl
theorem case150c0 (s p t : Nat) : isT (runT s p t 1 5 0 0) = true := by kernel_rfl
theorem case150c1 (s p t : Nat) : isT (runT s p t 1 5 1 0) = true := by kernel_rfl
theorem case150c2 (s p t : Nat) : isT (runT s p t 1 5 2 0) = true := by kernel_rfl
theorem case160 (s p t c : Nat) : isT (runT s p t 1 6 c 0) = true := by kernel_rfl
end V
end Go.CE
