/-
  Cases of the law, reckoned by the kernel.
-/
import Derived.Test.YtkfceppdpdeppaaGreatDoorPkSan
import Derived.KernelRfl
set_option linter.unusedSectionVars false
set_option linter.constructorNameAsVariable false
set_option linter.unusedVariables false
set_option linter.unusedSimpArgs false
namespace Go.CE
namespace V
set_option maxRecDepth 100000
theorem case001 (s p t c : Nat) : isT (runT s p t 0 0 c 1) = true := by kernel_rfl
theorem case011 (s p t c : Nat) : isT (runT s p t 0 1 c 1) = true := by kernel_rfl
theorem case021 (s p t c : Nat) : isT (runT s p t 0 2 c 1) = true := by kernel_rfl
theorem case031 (s p t c : Nat) : isT (runT s p t 0 3 c 1) = true := by kernel_rfl
theorem case041 (s p t c : Nat) : isT (runT s p t 0 4 c 1) = true := by kernel_rfl
theorem case051c0 (s p t : Nat) : isT (runT s p t 0 5 0 1) = true := by kernel_rfl
theorem case051c1 (s p t : Nat) : isT (runT s p t 0 5 1 1) = true := by kernel_rfl
theorem case051c2 (s p t : Nat) : isT (runT s p t 0 5 2 1) = true := by kernel_rfl
theorem case061 (s p t c : Nat) : isT (runT s p t 0 6 c 1) = true := by kernel_rfl
end V
end Go.CE
