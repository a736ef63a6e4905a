/-
  Cases of the law, reckoned by the kernel.
-/
import Derived.Test.YtednpkiegiiimaaGreatDoorPkSan
import Derived.KernelRfl
set_option linter.unusedSectionVars false
set_option linter.constructorNameAsVariable false
set_option linter.unusedVariables false
set_option linter.unusedSimpArgs false
namespace Go.CE
namespace V
set_option maxRecDepth 100000
theorem case0110n (s p : Nat) : isT (runT s p 0 1 1 0 2 0 false false) = true := by kernel_rfl
theorem case01100 (s p : Nat) : isT (runT s p 0 1 1 0 2 0 true true) = true := by kernel_rfl
theorem case01101 (s p : Nat) : isT (runT s p 0 1 1 0 2 1 true true) = true := by kernel_rfl
end V
end Go.CE
