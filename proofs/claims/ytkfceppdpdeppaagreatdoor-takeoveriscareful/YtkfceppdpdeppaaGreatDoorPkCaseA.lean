/-
  Cases of the law, reckoned by the kernel.
-/
import Derived.Test.YtkfceppdpdeppaaGreatDoorPkSan
import Derived.KernelRfl
set_option linter.unusedSectionVars false
set_option linter.constructorNameAsVariable false
set_option linter.unusedVariables false
set_option linter.unusedSimpArgs false
namespace Go.CE
namespace V
set_option maxRecDepth 100000
theorem case000 (s p t c : Nat) : isT (runT s p t 0 0 c 0) = true := by kernel_rfl
theorem case010 (s p t c : Nat) : isT (runT s p t 0 1 c 0) = true := by kernel_rfl
theorem case020 (s p t c : Nat) : isT (runT s p t 0 2 c 0) = true := by kernel_rfl
theorem case030 (s p t c : Nat) : isT (runT s p t 0 3 c 0) = true := by kernel_rfl
theorem case040 (s p t c : Nat) : isT (runT s p t 0 4 c 0) = true := by kernel_rfl
theorem case050c0 (s p t : Nat) : isT (runT s p t 0 5 0 0) = true := by kernel_rfl
theorem case050c1 (s p t : Nat) : isT (runT s p t 0 5 1 0) = true := by kernel_rfl
theorem case050c2 (s p t : Nat) : isT (runT s p t 0 5 2 0) = true := by kernel_rfl
theorem case060 (s p t c : Nat) : isT (runT s p t 0 6 c 0) = true := by kernel_rfl
end V
end Go.CE
