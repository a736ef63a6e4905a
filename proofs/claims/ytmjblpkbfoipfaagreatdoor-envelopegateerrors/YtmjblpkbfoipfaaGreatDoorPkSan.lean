/-
  What sanity does: reckoned by the kernel over the quick evaluator.
-/
import Derived.Test.YtmjblpkbfoipfaaGreatDoorPkGs
set_option linter.unusedSectionVars false
set_option linter.constructorNameAsVariable false
set_option linter.unusedVariables false
set_option linter.unusedSimpArgs false
namespace Go.CE
namespace V
open Go.Proofs Go.Proofs.YtmjblpkbfoipfaaGreatDoor Go.RowKit
section
variable [Sym] [SymOk]
noncomputable def tSan : LT := .n 60 (keyQ2 keyTab) (keyE2 keyTab) tL tL
theorem allSan : tSan.all (Good Tryz.prog) := ⟨dkey_good, allL, allL⟩
end
noncomputable def fsS : QW := ⟨setM (p4 0) (.cells (treeOf (Sha.K.map u32A)) 64 123) .e, 1024, 2048, [], []⟩
set_option maxRecDepth 100000 in
theorem san_runs : isB1 (@evF Y.triv P (@LT.fq (@tSan Y.triv)) 4000 6 ([].map ofV) fsS) = true := by decide +kernel
theorem sanity_calls (W : World) (h : TabW W) : Calls Tryz.prog 6 #[] W fun e w' => e = .returned (.bool true) ∧ Below W.heap.size W w' := by
  letI : Sym := Y.triv
  haveI : SymOk := Y.triv_ok
  have hrun := san_runs
  unfold isB1 at hrun
  split at hrun
  · rename_i f' he
    have r0 := rs_lay rs_e 0 123 (Sha.K.map u32A) (by omega) (by rfl)
    have hK : (Sha.K.map u32A).length = 64 := rfl
    rw [hK] at r0
    refine (run_calls allSan r0 gsg_gs (srT h) (fun j hj => gsg_none (by omega)) (rvs_of _) (LR.nil _) he).mono fun e W' hd => ?_
    obtain ⟨τ, u, s', rfl, hov, hrs', _, hsr', hvu, hbel⟩ := hd
    cases hvu
    exact ⟨rfl, hbel⟩
  · cases hrun
end V
end Go.CE
