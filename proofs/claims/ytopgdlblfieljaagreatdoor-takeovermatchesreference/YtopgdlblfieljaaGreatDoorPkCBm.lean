/-
  Inquire, Answer and Verdict agree with the reference implementation, for letters that are inquiries, answers, or neither: the law answers true for every input and leaves its arguments as they were. Conditions: the package variable digest.rounds holds what the program's text lays (the card ties it).
-/
import Derived.Test.YtopgdlblfieljaaGreatDoorPkCAm
import Derived.WalkKit
import Derived.ProofKit
import Derived.OpenShut
import Derived.Carry
import Derived.Deep.DeepHandedRow
import Derived.Lib.LaidTab
import Derived.Test.YtopgdlblfieljaaGreatDoorCards
import Derived.Test.YtopgdlblfieljaaGreatDoorTie
set_option linter.unusedSectionVars false
set_option linter.constructorNameAsVariable false
set_option linter.unusedVariables false
set_option linter.unusedSimpArgs false
namespace Go.Proofs.YtopgdlblfieljaaGreatDoor.matches
open Go.ChangeShapes Go.WideShapes Go.ChangeAt Go.RowKit

theorem a2g {a b:Bool} (h:a=true) (g:b=true):(a&&b)=true:=by rw [h,g];rfl
theorem b4e:(Rows.takeoverMatchesReferenceRow.wf (OpenSpec.ofChange (OpenSpec.ofChange Rows.takeoverMatchesReferenceSpec).bare))=true:=by kernel_rfl
theorem b4d:(laidOutB Tryz.pinned.checked.prog)=true:=by kernel_rfl
theorem b4c:(mapsRowed Tryz.pinned.checked.prog)=true:=by kernel_rfl
theorem b4b:(Tryz.f3.params.all (Tryz.pinned.checked.prog.readableRec ·))=true:=by kernel_rfl
theorem b4a:(namedTie Tryz.pinned.checked.prog Rows.takeoverMatchesReferenceRow.named (OpenSpec.ofChange Rows.takeoverMatchesReferenceSpec).bare.vars)=true:=by kernel_rfl
theorem b49:((Rows.takeoverMatchesReferenceRow.stops == []))=true:=by kernel_rfl
theorem b48:((Tryz.pinned.checked.prog.stops == []))=true:=by kernel_rfl
theorem b47:((Rows.takeoverMatchesReferenceRow.knobs == []))=true:=by kernel_rfl
theorem b46:((Tryz.pinned.checked.prog.stopKnobs == []))=true:=by kernel_rfl
theorem b45:((Rows.takeoverMatchesReferenceRow.inPlace == Tryz.pinned.checked.prog.inPlace 3))=true:=by kernel_rfl
theorem aXm:((Rows.takeoverMatchesReferenceRow.unfollowed == Tryz.pinned.checked.prog.unfollowed 3))=true:=by kernel_rfl
theorem aXl:((Rows.takeoverMatchesReferenceRow.recurses == Tryz.pinned.checked.prog.recurses 3))=true:=by kernel_rfl
theorem aXk:((Rows.takeoverMatchesReferenceRow.named == Tryz.pinned.checked.prog.varsNamed 3))=true:=by kernel_rfl
theorem aXj:((Rows.takeoverMatchesReferenceRow.maps == (Tryz.f3.params.toList++(OpenSpec.ofChange Rows.takeoverMatchesReferenceSpec).bare.plain.varTypes Tryz.pinned.checked.prog).any (Tryz.pinned.checked.prog.mapsRec ·)))=true:=by kernel_rfl
theorem aXi:((Rows.takeoverMatchesReferenceRow.ifaces == (Tryz.f3.params.toList++(OpenSpec.ofChange Rows.takeoverMatchesReferenceSpec).bare.plain.varTypes Tryz.pinned.checked.prog).any (Tryz.pinned.checked.prog.ifacesRec ·)))=true:=by kernel_rfl
theorem aXh:((Rows.takeoverMatchesReferenceRow.mapsOut == Tryz.pinned.checked.prog.mapsAmong Tryz.f3.resultTypes.toList))=true:=by kernel_rfl
theorem aXg:((Rows.takeoverMatchesReferenceRow.loops == (Tryz.f3.params.toList++(OpenSpec.ofChange Rows.takeoverMatchesReferenceSpec).bare.plain.varTypes Tryz.pinned.checked.prog).any (Tryz.pinned.checked.prog.loopsFrom ·)))=true:=by kernel_rfl
theorem aXf:((Rows.takeoverMatchesReferenceRow.wideKeys == (Tryz.f3.params.toList++(OpenSpec.ofChange Rows.takeoverMatchesReferenceSpec).bare.plain.varTypes Tryz.pinned.checked.prog++Tryz.f3.resultTypes.toList).any (Tryz.pinned.checked.prog.wideKeysFrom ·)))=true:=by kernel_rfl
theorem aXe:((OpenSpec.ofChange Rows.takeoverMatchesReferenceSpec).bare.vars.all (Tryz.pinned.checked.prog.varReadable ·))=true:=by kernel_rfl
theorem aXd:(Tryz.f3.resultTypes.all (fun t=>Tryz.pinned.checked.prog.readableRec t&&decide (t < Tryz.pinned.checked.prog.types.size)))=true:=by kernel_rfl
theorem aXc:((Rows.takeoverMatchesReferenceRow.ifacesOut == Tryz.f3.resultTypes.toList.any (Tryz.pinned.checked.prog.ifacesRec ·)))=true:=by kernel_rfl
theorem aXb:((Rows.takeoverMatchesReferenceRow.loopsOut == Tryz.f3.resultTypes.toList.any (Tryz.pinned.checked.prog.loopsFrom ·)))=true:=by kernel_rfl
theorem aXa:((Rows.takeoverMatchesReferenceRow.plainKeys == Tryz.pinned.checked.prog.plainKeys))=true:=by kernel_rfl
theorem aX9:(Rows.takeoverMatchesReferenceRow.shortTexts.isNone)=true:=by kernel_rfl
theorem aX8:(Tryz.pinned.checked.prog.stopsHeard)=true:=by kernel_rfl
theorem aX7:(Tryz.pinned.checked.prog.mayEnter)=true:=by kernel_rfl
theorem aX6:((Rows.takeoverMatchesReferenceRow.lifted == Tryz.pinned.checked.prog.liftsFinal))=true:=by kernel_rfl
theorem aX5:((Tryz.pinned.checked.prog.make == some Rows.takeoverMatchesReferenceRow.make))=true:=by kernel_rfl
theorem aX4:((Rows.takeoverMatchesReferenceRow.kinds == (if Rows.takeoverMatchesReferenceRow.domain.isEmpty then [] else Tryz.f3.params.toList.map fun t=>match Tryz.pinned.checked.prog.underlying t with | some (.int k)=>some k | _=>none)))=true:=by kernel_rfl
theorem aX3:((Rows.takeoverMatchesReferenceRow.pinned == Rows.takeoverMatchesReferenceRow.pinnedBy))=true:=by kernel_rfl
theorem aX2:((Rows.takeoverMatchesReferenceRow.veiled == (Tryz.f3.params.toList++(OpenSpec.ofChange Rows.takeoverMatchesReferenceSpec).bare.plain.varTypes Tryz.pinned.checked.prog++Tryz.f3.resultTypes.toList).any (Tryz.pinned.checked.prog.veiledRec ·)))=true:=by kernel_rfl
theorem aX1:(Rows.takeoverMatchesReferenceRow.veiledFits Tryz.pinned.checked.prog Tryz.f3.params.toList (Tryz.f3.params.toList++(OpenSpec.ofChange Rows.takeoverMatchesReferenceSpec).bare.plain.varTypes Tryz.pinned.checked.prog++Tryz.f3.resultTypes.toList))=true:=by kernel_rfl
set_option maxRecDepth 100000 in
theorem facts:joinedFacts Tryz.pinned.checked.prog 3 Tryz.f3 (OpenSpec.ofChange Rows.takeoverMatchesReferenceSpec).bare Rows.takeoverMatchesReferenceRow=true:=(a2g (a2g (a2g (a2g (a2g (a2g (a2g (a2g (a2g (a2g (a2g (a2g (a2g (a2g (a2g (a2g (a2g (a2g (a2g (a2g (a2g (a2g (a2g (a2g (a2g (a2g (a2g (a2g (a2g (a2g (a2g b4e b4d) b4c) b4b) b4a) b49) b48) b47) b46) b45) aXm) aXl) aXk) aXj) aXi) aXh) aXg) aXf) aXe) aXd) aXc) aXb) aXa) aX9) aX8) aX7) aX6) aX5) aX4) aX3) aX2) aX1)
theorem said:Rows.TakeoverMatchesReferenceSaid :=
 OpenClaim.holds_of_cond 3 Tryz.f3 rfl rfl rfl rfl rfl rfl rfl ⟨rfl,rfl,rfl,rfl,rfl⟩ rfl rfl rfl rfl rfl (by kernel_rfl) Tryz.func3 facts
  (of_decide_eq_true (by kernel_rfl)) (by unfold Func.isWrapper;first | (rw [if_pos (by decide +kernel)];kernel_rfl) | (rw [if_neg (by decide +kernel)];exact ⟨rfl,rfl⟩))
  (fun os started H enc _ F=>by rw [OpenClaim.pre_eq_preRow];exact lifted os started H enc F)
end Go.Proofs.YtopgdlblfieljaaGreatDoor.matches
