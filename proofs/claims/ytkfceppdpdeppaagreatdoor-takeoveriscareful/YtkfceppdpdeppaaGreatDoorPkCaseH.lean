/-
  Cases of the law, reckoned by the kernel.
-/
import Derived.Test.YtkfceppdpdeppaaGreatDoorPkSan
import Derived.KernelRfl
set_option linter.unusedSectionVars false
set_option linter.constructorNameAsVariable false
set_option linter.unusedVariables false
set_option linter.unusedSimpArgs false
namespace Go.CE
namespace V
set_option maxRecDepth 100000
theorem case201 (s p t c : Nat) : isT (runT s p t 2 0 c 1) = true := by kernel_rfl
theorem case211 (s p t c : Nat) : isT (runT s p t 2 1 c 1) = true := by kernel_rfl
theorem case221 (s p t c : Nat) : isT (runT s p t 2 2 c 1) = true := by kernel_rfl
theorem case231 (s p t c : Nat) : isT (runT s p t 2 3 c 1) = true := by kernel_rfl
theorem case241 (s p t c : Nat) : isT (runT s p t 2 4 c 1) = true := by kernel_rfl
theorem case251c0 (s p t : Nat) : isT (runT s p t 2 5 0 1) = true := by kernel_rfl
theorem case251c1 (s p t : Nat) : isT (runT s p t 2 5 1 1) = true := by kernel_rfl
theorem case251c2 (s p t : Nat) : isT (runT s p t 2 5 2 1) = true := by kernel_rfl
theorem case261 (s p t c : Nat) : isT (runT s p t 2 6 c 1) = true := by kernel_rfl
end V
end Go.CE
