/-
  Cases of the law, reckoned by the kernel.
-/
import Derived.Test.YtkfceppdpdeppaaGreatDoorPkSan
import Derived.KernelRfl
set_option linter.unusedSectionVars false
set_option linter.constructorNameAsVariable false
set_option linter.unusedVariables false
set_option linter.unusedSimpArgs false
namespace Go.CE
namespace V
set_option maxRecDepth 100000
theorem case002 (s p t c : Nat) : isT (runT s p t 0 0 c 2) = true := by kernel_rfl
theorem case012 (s p t c : Nat) : isT (runT s p t 0 1 c 2) = true := by kernel_rfl
theorem case022 (s p t c : Nat) : isT (runT s p t 0 2 c 2) = true := by kernel_rfl
theorem case032 (s p t c : Nat) : isT (runT s p t 0 3 c 2) = true := by kernel_rfl
theorem case042 (s p t c : Nat) : isT (runT s p t 0 4 c 2) = true := by kernel_rfl
theorem case052c0 (s p t : Nat) : isT (runT s p t 0 5 0 2) = true := by kernel_rfl
theorem case052c1 (s p t : Nat) : isT (runT s p t 0 5 1 2) = true := by kernel_rfl
theorem case052c2 (s p t : Nat) : isT (runT s p t 0 5 2 2) = true := by kernel_rfl
theorem case062 (s p t c : Nat) : isT (runT s p t 0 6 c 2) = true := by kernel_rfl
end V
end Go.CE
