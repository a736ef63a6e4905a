/-
  Cases of the law, reckoned by the kernel.
-/
import Derived.Test.YtednpkiegiiimaaGreatDoorPkSan
import Derived.KernelRfl
set_option linter.unusedSectionVars false
set_option linter.constructorNameAsVariable false
set_option linter.unusedVariables false
set_option linter.unusedSimpArgs false
namespace Go.CE
namespace V
set_option maxRecDepth 100000
theorem case0111n (s p : Nat) : isT (runT s p 0 1 1 1 3 0 false false) = true := by kernel_rfl
theorem case01110 (s p : Nat) : isT (runT s p 0 1 1 1 3 0 true true) = true := by kernel_rfl
theorem case01111 (s p : Nat) : isT (runT s p 0 1 1 1 3 1 true true) = true := by kernel_rfl
theorem case01112 (s p : Nat) : isT (runT s p 0 1 1 1 3 2 true true) = true := by kernel_rfl
end V
end Go.CE
