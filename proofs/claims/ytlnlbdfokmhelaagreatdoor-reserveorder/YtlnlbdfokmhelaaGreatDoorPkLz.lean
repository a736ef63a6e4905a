/-
  The first tree of laws for letters: which fields the kinds use, their limits.
-/
import Derived.Test.YtlnlbdfokmhelaaGreatDoorPkTab
set_option linter.unusedSectionVars false
set_option linter.constructorNameAsVariable false
set_option linter.unusedVariables false
set_option linter.unusedSimpArgs false
namespace Go.CE
namespace V
variable [Sym] [avd]
noncomputable def P:Program:=Go.Proofs.Tryz.prog
noncomputable def L79:LQ:=byv bAq
noncomputable def E79:LA:=bo1 bAq
theorem G79:Good P 79 L79 E79:=bAp
noncomputable def L139:LQ:=byv bkf
noncomputable def E139:LA:=bo1 bkf
theorem G139:Good P 139 L139 E139:=bue
noncomputable def t0:LT:=.n 79 L79 E79 .e (.n 139 L139 E139 .e .e)
theorem bNh:t0.all (Good P):=⟨G79,trivial,⟨G139,trivial,trivial⟩⟩
end V
end Go.CE
namespace Go.CE
namespace V
noncomputable def tL [Sym]:LT:=t0
theorem allL [Sym] [avd]:tL.all (Good P):=bNh
end V
end Go.CE
