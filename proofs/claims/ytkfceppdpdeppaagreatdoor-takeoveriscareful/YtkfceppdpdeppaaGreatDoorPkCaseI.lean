/-
  Cases of the law, reckoned by the kernel.
-/
import Derived.Test.YtkfceppdpdeppaaGreatDoorPkSan
import Derived.KernelRfl
set_option linter.unusedSectionVars false
set_option linter.constructorNameAsVariable false
set_option linter.unusedVariables false
set_option linter.unusedSimpArgs false
namespace Go.CE
namespace V
set_option maxRecDepth 100000
theorem case202 (s p t c : Nat) : isT (runT s p t 2 0 c 2) = true := by kernel_rfl
theorem case212 (s p t c : Nat) : isT (runT s p t 2 1 c 2) = true := by kernel_rfl
theorem case222 (s p t c : Nat) : isT (runT s p t 2 2 c 2) = true := by kernel_rfl
theorem case232 (s p t c : Nat) : isT (runT s p t 2 3 c 2) = true := by kernel_rfl
theorem case242 (s p t c : Nat) : isT (runT s p t 2 4 c 2) = true := by kernel_rfl
theorem case252c0 (s p t : Nat) : isT (runT s p t 2 5 0 2) = true := by kernel_rfl
theorem case252c1 (s p t : Nat) : isT (runT s p t 2 5 1 2) = true := by kernel_rfl
theorem case252c2 (s p t : Nat) : isT (runT s p t 2 5 2 2) = true := by kernel_rfl
theorem case262 (s p t c : Nat) : isT (runT s p t 2 6 c 2) = true := by kernel_rfl
end V
end Go.CE
