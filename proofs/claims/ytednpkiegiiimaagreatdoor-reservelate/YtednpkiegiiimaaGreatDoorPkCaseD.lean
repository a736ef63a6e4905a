/-
  Cases of the law, reckoned by the kernel.
-/
import Derived.Test.YtednpkiegiiimaaGreatDoorPkSan
import Derived.KernelRfl
set_option linter.unusedSectionVars false
set_option linter.constructorNameAsVariable false
set_option linter.unusedVariables false
set_option linter.unusedSimpArgs false
namespace Go.CE
namespace V
set_option maxRecDepth 100000
theorem case11000 (s p t : Nat) : isT (runT s p t 1 1 0 0 false) = true := by kernel_rfl
theorem case11001 (s p t : Nat) : isT (runT s p t 1 1 0 0 true) = true := by kernel_rfl
theorem case11010 (s p t : Nat) : isT (runT s p t 1 1 0 1 false) = true := by kernel_rfl
theorem case11011 (s p t : Nat) : isT (runT s p t 1 1 0 1 true) = true := by kernel_rfl
theorem case11100 (s p t : Nat) : isT (runT s p t 1 1 1 0 false) = true := by kernel_rfl
theorem case11101 (s p t : Nat) : isT (runT s p t 1 1 1 0 true) = true := by kernel_rfl
theorem case11110 (s p t : Nat) : isT (runT s p t 1 1 1 1 false) = true := by kernel_rfl
theorem case11111 (s p t : Nat) : isT (runT s p t 1 1 1 1 true) = true := by kernel_rfl
end V
end Go.CE
