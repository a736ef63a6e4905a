/-
  Cases of the law, reckoned by the kernel.
-/
import Derived.Test.YtkfceppdpdeppaaGreatDoorPkSan
import Derived.KernelRfl
set_option linter.unusedSectionVars false
set_option linter.constructorNameAsVariable false
set_option linter.unusedVariables false
set_option linter.unusedSimpArgs false
namespace Go.CE
namespace V
set_option maxRecDepth 100000
theorem case200 (s p t c : Nat) : isT (runT s p t 2 0 c 0) = true := by kernel_rfl
theorem case210 (s p t c : Nat) : isT (runT s p t 2 1 c 0) = true := by kernel_rfl
theorem case220 (s p t c : Nat) : isT (runT s p t 2 2 c 0) = true := by kernel_rfl
theorem case230 (s p t c : Nat) : isT (runT s p t 2 3 c 0) = true := by kernel_rfl
theorem case240 (s p t c : Nat) : isT (runT s p t 2 4 c 0) = true := by kernel_rfl
theorem case250c0 (s p t : Nat) : isT (runT s p t 2 5 0 0) = true := by kernel_rfl
theorem case250c1 (s p t : Nat) : isT (runT s p t 2 5 1 0) = true := by kernel_rfl
theorem case250c2 (s p t : Nat) : isT (runT s p t 2 5 2 0) = true := by kernel_rfl
theorem case260 (s p t c : Nat) : isT (runT s p t 2 6 c 0) = true := by kernel_rfl
end V
end Go.CE
