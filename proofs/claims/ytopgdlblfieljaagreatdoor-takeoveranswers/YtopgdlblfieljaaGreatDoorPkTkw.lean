/-
  The reference's Verdict.
-/
import Derived.Test.YtopgdlblfieljaaGreatDoorPkTkv
set_option linter.unusedSectionVars false
set_option linter.constructorNameAsVariable false
set_option linter.unusedVariables false
set_option linter.unusedSimpArgs false
namespace Go.Proofs.YtopgdlblfieljaaGreatDoor
open Go.RowKit Go.CE.V
set_option maxRecDepth 20000
set_option maxHeartbeats 8000000
theorem owns_emp {W:World} {base T z g:Nat} (hb:base≤W.heap.size) (hg:g=W.heap.size):(W.alloc (.cells #[] T)).ownsRow base T z (.slice (some ⟨g,0,none⟩) 0 0) 0 []:=by
 subst hg
 exact ⟨by simp,.inr ⟨W.heap.size,0,#[],rfl,hb,a03 _ _ _ rfl,Nat.le_refl _,by decide,by simp,by simp⟩⟩
end Go.Proofs.YtopgdlblfieljaaGreatDoor
