/-
  The first tree of laws for letters: which fields the kinds use, their limits.
-/
import Derived.Test.YtopgdlblfieljaaGreatDoorPkTab
set_option linter.unusedSectionVars false
set_option linter.constructorNameAsVariable false
set_option linter.unusedVariables false
set_option linter.unusedSimpArgs false
namespace Go.CE
namespace V
variable [Sym] [a0n]
noncomputable def P:Program:=Go.Proofs.Tryz.prog
noncomputable def L46:LQ:=atq avs
noncomputable def E46:LA:=aiz avs
theorem G46:Good P 46 L46 E46:=avr
noncomputable def L71:LQ:=atq afi
noncomputable def E71:LA:=aiz afi
theorem G71:Good P 71 L71 E71:=aov
noncomputable def t0:LT:=.n 46 L46 E46 .e (.n 71 L71 E71 .e .e)
theorem aI5:t0.all (Good P):=⟨G46,trivial,⟨G71,trivial,trivial⟩⟩
end V
end Go.CE
namespace Go.CE
namespace V
variable [Sym] [a0n]
noncomputable def tL:LT:=t0
theorem allL:tL.all (Good P):=aI5
end V
end Go.CE
