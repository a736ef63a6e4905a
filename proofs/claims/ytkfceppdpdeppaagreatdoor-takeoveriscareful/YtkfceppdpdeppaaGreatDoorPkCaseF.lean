/-
  Cases of the law, reckoned by the kernel.
-/
import Derived.Test.YtkfceppdpdeppaaGreatDoorPkSan
import Derived.KernelRfl
set_option linter.unusedSectionVars false
set_option linter.constructorNameAsVariable false
set_option linter.unusedVariables false
set_option linter.unusedSimpArgs false
namespace Go.CE
namespace V
set_option maxRecDepth 100000
theorem case102 (s p t c : Nat) : isT (runT s p t 1 0 c 2) = true := by kernel_rfl
theorem case112 (s p t c : Nat) : isT (runT s p t 1 1 c 2) = true := by kernel_rfl
theorem case122 (s p t c : Nat) : isT (runT s p t 1 2 c 2) = true := by kernel_rfl
theorem case132 (s p t c : Nat) : isT (runT s p t 1 3 c 2) = true := by kernel_rfl
theorem case142 (s p t c : Nat) : isT (runT s p t 1 4 c 2) = true := by kernel_rfl
theorem case152c0 (s p t : Nat) : isT (runT s p t 1 5 0 2) = true := by kernel_rfl
theorem case152c1 (s p t : Nat) : isT (runT s p t 1 5 1 2) = true := by kernel_rfl
theorem case152c2 (s p t : Nat) : isT (runT s p t 1 5 2 2) = true := by kernel_rfl
theorem case162 (s p t c : Nat) : isT (runT s p t 1 6 c 2) = true := by kernel_rfl
end V
end Go.CE
