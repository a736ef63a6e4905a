/-
  Cases of the law, reckoned by the kernel.
-/
import Derived.Test.YtednpkiegiiimaaGreatDoorPkSan
import Derived.KernelRfl
set_option linter.unusedSectionVars false
set_option linter.constructorNameAsVariable false
set_option linter.unusedVariables false
set_option linter.unusedSimpArgs false
namespace Go.CE
namespace V
set_option maxRecDepth 100000
theorem case00000 (s p t : Nat) : isT (runT s p t 0 0 0 0 false) = true := by kernel_rfl
theorem case00001 (s p t : Nat) : isT (runT s p t 0 0 0 0 true) = true := by kernel_rfl
theorem case00010 (s p t : Nat) : isT (runT s p t 0 0 0 1 false) = true := by kernel_rfl
theorem case00011 (s p t : Nat) : isT (runT s p t 0 0 0 1 true) = true := by kernel_rfl
theorem case00100 (s p t : Nat) : isT (runT s p t 0 0 1 0 false) = true := by kernel_rfl
theorem case00101 (s p t : Nat) : isT (runT s p t 0 0 1 0 true) = true := by kernel_rfl
theorem case00110 (s p t : Nat) : isT (runT s p t 0 0 1 1 false) = true := by kernel_rfl
theorem case00111 (s p t : Nat) : isT (runT s p t 0 0 1 1 true) = true := by kernel_rfl
end V
end Go.CE
