/-
  An owner answers every inquiry of another owner with what it has decided or promised, and a verdict never changes with more answers, but from 0, or from 2 to 1: the law answers true for every input and leaves its arguments as they were. Conditions: the package variable digest.rounds holds what the program's text lays (the card ties it).
-/
import Derived.Test.YtopgdlblfieljaaGreatDoorPkCAw
import Derived.WalkKit
import Derived.ProofKit
import Derived.OpenShut
import Derived.Carry
import Derived.Deep.DeepHandedRow
import Derived.Lib.LaidTab
import Derived.Test.YtopgdlblfieljaaGreatDoorCards
import Derived.Test.YtopgdlblfieljaaGreatDoorTie
set_option linter.unusedSectionVars false
set_option linter.constructorNameAsVariable false
set_option linter.unusedVariables false
set_option linter.unusedSimpArgs false
namespace Go.Proofs.YtopgdlblfieljaaGreatDoor.answers
open Go.ChangeShapes Go.WideShapes Go.ChangeAt Go.RowKit

theorem a2g {a b:Bool} (h:a=true) (g:b=true):(a&&b)=true:=by rw [h,g];rfl
theorem b4e:(Rows.takeoverAnswersRow.wf (OpenSpec.ofChange (OpenSpec.ofChange Rows.takeoverAnswersSpec).bare))=true:=by kernel_rfl
theorem b4d:(laidOutB Tryz.pinned.checked.prog)=true:=by kernel_rfl
theorem b4c:(mapsRowed Tryz.pinned.checked.prog)=true:=by kernel_rfl
theorem b4b:(Tryz.f4.params.all (Tryz.pinned.checked.prog.readableRec ·))=true:=by kernel_rfl
theorem b4a:(namedTie Tryz.pinned.checked.prog Rows.takeoverAnswersRow.named (OpenSpec.ofChange Rows.takeoverAnswersSpec).bare.vars)=true:=by kernel_rfl
theorem b49:((Rows.takeoverAnswersRow.stops == []))=true:=by kernel_rfl
theorem b48:((Tryz.pinned.checked.prog.stops == []))=true:=by kernel_rfl
theorem b47:((Rows.takeoverAnswersRow.knobs == []))=true:=by kernel_rfl
theorem b46:((Tryz.pinned.checked.prog.stopKnobs == []))=true:=by kernel_rfl
theorem b45:((Rows.takeoverAnswersRow.inPlace == Tryz.pinned.checked.prog.inPlace 4))=true:=by kernel_rfl
theorem aXm:((Rows.takeoverAnswersRow.unfollowed == Tryz.pinned.checked.prog.unfollowed 4))=true:=by kernel_rfl
theorem aXl:((Rows.takeoverAnswersRow.recurses == Tryz.pinned.checked.prog.recurses 4))=true:=by kernel_rfl
theorem aXk:((Rows.takeoverAnswersRow.named == Tryz.pinned.checked.prog.varsNamed 4))=true:=by kernel_rfl
theorem aXj:((Rows.takeoverAnswersRow.maps == (Tryz.f4.params.toList++(OpenSpec.ofChange Rows.takeoverAnswersSpec).bare.plain.varTypes Tryz.pinned.checked.prog).any (Tryz.pinned.checked.prog.mapsRec ·)))=true:=by kernel_rfl
theorem aXi:((Rows.takeoverAnswersRow.ifaces == (Tryz.f4.params.toList++(OpenSpec.ofChange Rows.takeoverAnswersSpec).bare.plain.varTypes Tryz.pinned.checked.prog).any (Tryz.pinned.checked.prog.ifacesRec ·)))=true:=by kernel_rfl
theorem aXh:((Rows.takeoverAnswersRow.mapsOut == Tryz.pinned.checked.prog.mapsAmong Tryz.f4.resultTypes.toList))=true:=by kernel_rfl
theorem aXg:((Rows.takeoverAnswersRow.loops == (Tryz.f4.params.toList++(OpenSpec.ofChange Rows.takeoverAnswersSpec).bare.plain.varTypes Tryz.pinned.checked.prog).any (Tryz.pinned.checked.prog.loopsFrom ·)))=true:=by kernel_rfl
theorem aXf:((Rows.takeoverAnswersRow.wideKeys == (Tryz.f4.params.toList++(OpenSpec.ofChange Rows.takeoverAnswersSpec).bare.plain.varTypes Tryz.pinned.checked.prog++Tryz.f4.resultTypes.toList).any (Tryz.pinned.checked.prog.wideKeysFrom ·)))=true:=by kernel_rfl
theorem aXe:((OpenSpec.ofChange Rows.takeoverAnswersSpec).bare.vars.all (Tryz.pinned.checked.prog.varReadable ·))=true:=by kernel_rfl
theorem aXd:(Tryz.f4.resultTypes.all (fun t=>Tryz.pinned.checked.prog.readableRec t&&decide (t < Tryz.pinned.checked.prog.types.size)))=true:=by kernel_rfl
theorem aXc:((Rows.takeoverAnswersRow.ifacesOut == Tryz.f4.resultTypes.toList.any (Tryz.pinned.checked.prog.ifacesRec ·)))=true:=by kernel_rfl
theorem aXb:((Rows.takeoverAnswersRow.loopsOut == Tryz.f4.resultTypes.toList.any (Tryz.pinned.checked.prog.loopsFrom ·)))=true:=by kernel_rfl
theorem aXa:((Rows.takeoverAnswersRow.plainKeys == Tryz.pinned.checked.prog.plainKeys))=true:=by kernel_rfl
theorem aX9:(Rows.takeoverAnswersRow.shortTexts.isNone)=true:=by kernel_rfl
theorem aX8:(Tryz.pinned.checked.prog.stopsHeard)=true:=by kernel_rfl
theorem aX7:(Tryz.pinned.checked.prog.mayEnter)=true:=by kernel_rfl
theorem aX6:((Rows.takeoverAnswersRow.lifted == Tryz.pinned.checked.prog.liftsFinal))=true:=by kernel_rfl
theorem aX5:((Tryz.pinned.checked.prog.make == some Rows.takeoverAnswersRow.make))=true:=by kernel_rfl
theorem aX4:((Rows.takeoverAnswersRow.kinds == (if Rows.takeoverAnswersRow.domain.isEmpty then [] else Tryz.f4.params.toList.map fun t=>match Tryz.pinned.checked.prog.underlying t with | some (.int k)=>some k | _=>none)))=true:=by kernel_rfl
theorem aX3:((Rows.takeoverAnswersRow.pinned == Rows.takeoverAnswersRow.pinnedBy))=true:=by kernel_rfl
theorem aX2:((Rows.takeoverAnswersRow.veiled == (Tryz.f4.params.toList++(OpenSpec.ofChange Rows.takeoverAnswersSpec).bare.plain.varTypes Tryz.pinned.checked.prog++Tryz.f4.resultTypes.toList).any (Tryz.pinned.checked.prog.veiledRec ·)))=true:=by kernel_rfl
theorem aX1:(Rows.takeoverAnswersRow.veiledFits Tryz.pinned.checked.prog Tryz.f4.params.toList (Tryz.f4.params.toList++(OpenSpec.ofChange Rows.takeoverAnswersSpec).bare.plain.varTypes Tryz.pinned.checked.prog++Tryz.f4.resultTypes.toList))=true:=by kernel_rfl
set_option maxRecDepth 100000 in
theorem facts:joinedFacts Tryz.pinned.checked.prog 4 Tryz.f4 (OpenSpec.ofChange Rows.takeoverAnswersSpec).bare Rows.takeoverAnswersRow=true:=(a2g (a2g (a2g (a2g (a2g (a2g (a2g (a2g (a2g (a2g (a2g (a2g (a2g (a2g (a2g (a2g (a2g (a2g (a2g (a2g (a2g (a2g (a2g (a2g (a2g (a2g (a2g (a2g (a2g (a2g (a2g b4e b4d) b4c) b4b) b4a) b49) b48) b47) b46) b45) aXm) aXl) aXk) aXj) aXi) aXh) aXg) aXf) aXe) aXd) aXc) aXb) aXa) aX9) aX8) aX7) aX6) aX5) aX4) aX3) aX2) aX1)
theorem said:Rows.TakeoverAnswersSaid :=
 OpenClaim.holds_of_cond 4 Tryz.f4 rfl rfl rfl rfl rfl rfl rfl ⟨rfl,rfl,rfl,rfl,rfl⟩ rfl rfl rfl rfl rfl (by kernel_rfl) Tryz.func4 facts
  (of_decide_eq_true (by kernel_rfl)) (by unfold Func.isWrapper;first | (rw [if_pos (by decide +kernel)];kernel_rfl) | (rw [if_neg (by decide +kernel)];exact ⟨rfl,rfl⟩))
  (fun os started H enc _ F=>by rw [OpenClaim.pre_eq_preRow];exact lifted os started H enc F)
end Go.Proofs.YtopgdlblfieljaaGreatDoor.answers
