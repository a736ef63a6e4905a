/-
  Cases of the law, reckoned by the kernel.
-/
import Derived.Test.YtednpkiegiiimaaGreatDoorPkSan
import Derived.KernelRfl
set_option linter.unusedSectionVars false
set_option linter.constructorNameAsVariable false
set_option linter.unusedVariables false
set_option linter.unusedSimpArgs false
namespace Go.CE
namespace V
set_option maxRecDepth 100000
theorem case1110n (s p : Nat) : isT (runT s p 1 1 1 0 3 0 false false) = true := by kernel_rfl
theorem case11100 (s p : Nat) : isT (runT s p 1 1 1 0 3 0 true true) = true := by kernel_rfl
theorem case11101 (s p : Nat) : isT (runT s p 1 1 1 0 3 1 true true) = true := by kernel_rfl
theorem case11102 (s p : Nat) : isT (runT s p 1 1 1 0 3 2 true true) = true := by kernel_rfl
end V
end Go.CE
