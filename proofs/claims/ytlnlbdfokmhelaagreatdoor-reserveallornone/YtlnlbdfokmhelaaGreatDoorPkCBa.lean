/-
  Whatever letters come, in whatever order, an owner commits only if its proof has the grants of all owners and a commit of the organizer: the law answers true for every input and leaves its arguments as they were. Conditions: the package variable digest.rounds holds what the program's text lays (the card ties it).
-/
import Derived.Test.YtlnlbdfokmhelaaGreatDoorPkCAa
import Derived.WalkKit
import Derived.ProofKit
import Derived.OpenShut
import Derived.Carry
import Derived.Deep.DeepHandedRow
import Derived.Lib.LaidTab
import Derived.Test.YtlnlbdfokmhelaaGreatDoorCards
import Derived.Test.YtlnlbdfokmhelaaGreatDoorTie
set_option linter.unusedSectionVars false
set_option linter.constructorNameAsVariable false
set_option linter.unusedVariables false
set_option linter.unusedSimpArgs false
namespace Go.Proofs.YtlnlbdfokmhelaaGreatDoor.allnone
open Go.ChangeShapes Go.WideShapes Go.ChangeAt Go.RowKit

theorem apz {a b:Bool} (h:a=true) (g:b=true):(a&&b)=true:=by rw [h,g];rfl
theorem bFl:(Rows.reserveAllOrNoneRow.wf (OpenSpec.ofChange (OpenSpec.ofChange Rows.reserveAllOrNoneSpec).bare))=true:=by kernel_rfl
theorem bFk:(laidOutB Tryz.pinned.checked.prog)=true:=by kernel_rfl
theorem bFj:(mapsRowed Tryz.pinned.checked.prog)=true:=by kernel_rfl
theorem bFi:(Tryz.f5.params.all (Tryz.pinned.checked.prog.readableRec ·))=true:=by kernel_rfl
theorem bFh:(namedTie Tryz.pinned.checked.prog Rows.reserveAllOrNoneRow.named (OpenSpec.ofChange Rows.reserveAllOrNoneSpec).bare.vars)=true:=by kernel_rfl
theorem bFg:((Rows.reserveAllOrNoneRow.stops == []))=true:=by kernel_rfl
theorem bFf:((Tryz.pinned.checked.prog.stops == []))=true:=by kernel_rfl
theorem bFe:((Rows.reserveAllOrNoneRow.knobs == []))=true:=by kernel_rfl
theorem bFd:((Tryz.pinned.checked.prog.stopKnobs == []))=true:=by kernel_rfl
theorem bFc:((Rows.reserveAllOrNoneRow.inPlace == Tryz.pinned.checked.prog.inPlace 5))=true:=by kernel_rfl
theorem bs7:((Rows.reserveAllOrNoneRow.unfollowed == Tryz.pinned.checked.prog.unfollowed 5))=true:=by kernel_rfl
theorem bs6:((Rows.reserveAllOrNoneRow.recurses == Tryz.pinned.checked.prog.recurses 5))=true:=by kernel_rfl
theorem bs5:((Rows.reserveAllOrNoneRow.named == Tryz.pinned.checked.prog.varsNamed 5))=true:=by kernel_rfl
theorem bs4:((Rows.reserveAllOrNoneRow.maps == (Tryz.f5.params.toList++(OpenSpec.ofChange Rows.reserveAllOrNoneSpec).bare.plain.varTypes Tryz.pinned.checked.prog).any (Tryz.pinned.checked.prog.mapsRec ·)))=true:=by kernel_rfl
theorem bs3:((Rows.reserveAllOrNoneRow.ifaces == (Tryz.f5.params.toList++(OpenSpec.ofChange Rows.reserveAllOrNoneSpec).bare.plain.varTypes Tryz.pinned.checked.prog).any (Tryz.pinned.checked.prog.ifacesRec ·)))=true:=by kernel_rfl
theorem bs1:((Rows.reserveAllOrNoneRow.mapsOut == Tryz.pinned.checked.prog.mapsAmong Tryz.f5.resultTypes.toList))=true:=by kernel_rfl
theorem bs0:((Rows.reserveAllOrNoneRow.loops == (Tryz.f5.params.toList++(OpenSpec.ofChange Rows.reserveAllOrNoneSpec).bare.plain.varTypes Tryz.pinned.checked.prog).any (Tryz.pinned.checked.prog.loopsFrom ·)))=true:=by kernel_rfl
theorem brz:((Rows.reserveAllOrNoneRow.wideKeys == (Tryz.f5.params.toList++(OpenSpec.ofChange Rows.reserveAllOrNoneSpec).bare.plain.varTypes Tryz.pinned.checked.prog++Tryz.f5.resultTypes.toList).any (Tryz.pinned.checked.prog.wideKeysFrom ·)))=true:=by kernel_rfl
theorem bry:((OpenSpec.ofChange Rows.reserveAllOrNoneSpec).bare.vars.all (Tryz.pinned.checked.prog.varReadable ·))=true:=by kernel_rfl
theorem brx:(Tryz.f5.resultTypes.all (fun t=>Tryz.pinned.checked.prog.readableRec t&&decide (t < Tryz.pinned.checked.prog.types.size)))=true:=by kernel_rfl
theorem brw:((Rows.reserveAllOrNoneRow.ifacesOut == Tryz.f5.resultTypes.toList.any (Tryz.pinned.checked.prog.ifacesRec ·)))=true:=by kernel_rfl
theorem brv:((Rows.reserveAllOrNoneRow.loopsOut == Tryz.f5.resultTypes.toList.any (Tryz.pinned.checked.prog.loopsFrom ·)))=true:=by kernel_rfl
theorem bru:((Rows.reserveAllOrNoneRow.plainKeys == Tryz.pinned.checked.prog.plainKeys))=true:=by kernel_rfl
theorem brt:(Rows.reserveAllOrNoneRow.shortTexts.isNone)=true:=by kernel_rfl
theorem brs:(Tryz.pinned.checked.prog.stopsHeard)=true:=by kernel_rfl
theorem brr:(Tryz.pinned.checked.prog.mayEnter)=true:=by kernel_rfl
theorem brq:((Rows.reserveAllOrNoneRow.lifted == Tryz.pinned.checked.prog.liftsFinal))=true:=by kernel_rfl
theorem brp:((Tryz.pinned.checked.prog.make == some Rows.reserveAllOrNoneRow.make))=true:=by kernel_rfl
theorem bro:((Rows.reserveAllOrNoneRow.kinds == (if Rows.reserveAllOrNoneRow.domain.isEmpty then [] else Tryz.f5.params.toList.map fun t=>match Tryz.pinned.checked.prog.underlying t with | some (.int k)=>some k | _=>none)))=true:=by kernel_rfl
theorem brn:((Rows.reserveAllOrNoneRow.pinned == Rows.reserveAllOrNoneRow.pinnedBy))=true:=by kernel_rfl
theorem brm:((Rows.reserveAllOrNoneRow.veiled == (Tryz.f5.params.toList++(OpenSpec.ofChange Rows.reserveAllOrNoneSpec).bare.plain.varTypes Tryz.pinned.checked.prog++Tryz.f5.resultTypes.toList).any (Tryz.pinned.checked.prog.veiledRec ·)))=true:=by kernel_rfl
theorem brl:(Rows.reserveAllOrNoneRow.veiledFits Tryz.pinned.checked.prog Tryz.f5.params.toList (Tryz.f5.params.toList++(OpenSpec.ofChange Rows.reserveAllOrNoneSpec).bare.plain.varTypes Tryz.pinned.checked.prog++Tryz.f5.resultTypes.toList))=true:=by kernel_rfl
set_option maxRecDepth 100000 in
theorem facts:joinedFacts Tryz.pinned.checked.prog 5 Tryz.f5 (OpenSpec.ofChange Rows.reserveAllOrNoneSpec).bare Rows.reserveAllOrNoneRow=true:=(apz (apz (apz (apz (apz (apz (apz (apz (apz (apz (apz (apz (apz (apz (apz (apz (apz (apz (apz (apz (apz (apz (apz (apz (apz (apz (apz (apz (apz (apz (apz bFl bFk) bFj) bFi) bFh) bFg) bFf) bFe) bFd) bFc) bs7) bs6) bs5) bs4) bs3) bs1) bs0) brz) bry) brx) brw) brv) bru) brt) brs) brr) brq) brp) bro) brn) brm) brl)
theorem said:Rows.ReserveAllOrNoneSaid :=
 OpenClaim.holds_of_cond 5 Tryz.f5 rfl rfl rfl rfl rfl rfl rfl ⟨rfl,rfl,rfl,rfl,rfl⟩ rfl rfl rfl rfl rfl (by kernel_rfl) Tryz.func5 facts
  (of_decide_eq_true (by kernel_rfl)) (by unfold Func.isWrapper;first | (rw [if_pos (by decide +kernel)];kernel_rfl) | (rw [if_neg (by decide +kernel)];exact ⟨rfl,rfl⟩))
  (fun os started H enc _ F=>by rw [OpenClaim.pre_eq_preRow];exact lifted os started H enc F)
end Go.Proofs.YtlnlbdfokmhelaaGreatDoor.allnone
