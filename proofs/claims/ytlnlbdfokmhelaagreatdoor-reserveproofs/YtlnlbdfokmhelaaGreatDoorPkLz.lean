/-
  The first tree of laws for letters: which fields the kinds use, their limits.
-/
import Derived.Test.YtlnlbdfokmhelaaGreatDoorPkTab
set_option linter.unusedSectionVars false
set_option linter.constructorNameAsVariable false
set_option linter.unusedVariables false
set_option linter.unusedSimpArgs false
namespace Go.CE
namespace V
variable [Sym] [a0n]
noncomputable def P:Program:=Go.Proofs.Tryz.prog
noncomputable def L79:LQ:=atq avs
noncomputable def E79:LA:=aiz avs
theorem G79:Good P 79 L79 E79:=avr
noncomputable def L139:LQ:=atq afi
noncomputable def E139:LA:=aiz afi
theorem G139:Good P 139 L139 E139:=aov
noncomputable def t0:LT:=.n 79 L79 E79 .e (.n 139 L139 E139 .e .e)
theorem aI5:t0.all (Good P):=⟨G79,trivial,⟨G139,trivial,trivial⟩⟩
end V
end Go.CE
namespace Go.CE
namespace V
variable [Sym] [a0n]
noncomputable def tL:LT:=t0
theorem allL:tL.all (Good P):=aI5
end V
end Go.CE
