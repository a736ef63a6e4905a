/-
  Cases of the law, reckoned by the kernel.
-/
import Derived.Test.YtkfceppdpdeppaaGreatDoorPkSan
import Derived.KernelRfl
set_option linter.unusedSectionVars false
set_option linter.constructorNameAsVariable false
set_option linter.unusedVariables false
set_option linter.unusedSimpArgs false
namespace Go.CE
namespace V
set_option maxRecDepth 100000
theorem case101 (s p t c : Nat) : isT (runT s p t 1 0 c 1) = true := by kernel_rfl
theorem case111 (s p t c : Nat) : isT (runT s p t 1 1 c 1) = true := by kernel_rfl
theorem case121 (s p t c : Nat) : isT (runT s p t 1 2 c 1) = true := by kernel_rfl
theorem case131 (s p t c : Nat) : isT (runT s p t 1 3 c 1) = true := by kernel_rfl
theorem case141 (s p t c : Nat) : isT (runT s p t 1 4 c 1) = true := by kernel_rfl
theorem case151c0 (s p t : Nat) : isT (runT s p t 1 5 0 1) = true := by kernel_rfl
theorem case151c1 (s p t : Nat) : isT (runT s p t 1 5 1 1) = true := by kernel_rfl
theorem case151c2 (s p t : Nat) : isT (runT s p t 1 5 2 1) = true := by kernel_rfl
theorem case161 (s p t c : Nat) : isT (runT s p t 1 6 c 1) = true := by kernel_rfl
end V
end Go.CE
