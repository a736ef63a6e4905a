/-
  A barred owner never commits, whatever letters come, and a decision never changes: the law answers true for every input and leaves its arguments as they were. Conditions: the package variable digest.rounds holds what the program's text lays (the card ties it).
-/
import Derived.Test.YtlnlbdfokmhelaaGreatDoorPkCAk
import Derived.WalkKit
import Derived.ProofKit
import Derived.OpenShut
import Derived.Carry
import Derived.Deep.DeepHandedRow
import Derived.Lib.LaidTab
import Derived.Test.YtlnlbdfokmhelaaGreatDoorCards
import Derived.Test.YtlnlbdfokmhelaaGreatDoorTie
set_option linter.unusedSectionVars false
set_option linter.constructorNameAsVariable false
set_option linter.unusedVariables false
set_option linter.unusedSimpArgs false
namespace Go.Proofs.YtlnlbdfokmhelaaGreatDoor.promises
open Go.ChangeShapes Go.WideShapes Go.ChangeAt Go.RowKit

theorem apz {a b:Bool} (h:a=true) (g:b=true):(a&&b)=true:=by rw [h,g];rfl
theorem bFl:(Rows.reserveKeepsPromisesRow.wf (OpenSpec.ofChange (OpenSpec.ofChange Rows.reserveKeepsPromisesSpec).bare))=true:=by kernel_rfl
theorem bFk:(laidOutB Tryz.pinned.checked.prog)=true:=by kernel_rfl
theorem bFj:(mapsRowed Tryz.pinned.checked.prog)=true:=by kernel_rfl
theorem bFi:(Tryz.f8.params.all (Tryz.pinned.checked.prog.readableRec ·))=true:=by kernel_rfl
theorem bFh:(namedTie Tryz.pinned.checked.prog Rows.reserveKeepsPromisesRow.named (OpenSpec.ofChange Rows.reserveKeepsPromisesSpec).bare.vars)=true:=by kernel_rfl
theorem bFg:((Rows.reserveKeepsPromisesRow.stops == []))=true:=by kernel_rfl
theorem bFf:((Tryz.pinned.checked.prog.stops == []))=true:=by kernel_rfl
theorem bFe:((Rows.reserveKeepsPromisesRow.knobs == []))=true:=by kernel_rfl
theorem bFd:((Tryz.pinned.checked.prog.stopKnobs == []))=true:=by kernel_rfl
theorem bFc:((Rows.reserveKeepsPromisesRow.inPlace == Tryz.pinned.checked.prog.inPlace 8))=true:=by kernel_rfl
theorem bs7:((Rows.reserveKeepsPromisesRow.unfollowed == Tryz.pinned.checked.prog.unfollowed 8))=true:=by kernel_rfl
theorem bs6:((Rows.reserveKeepsPromisesRow.recurses == Tryz.pinned.checked.prog.recurses 8))=true:=by kernel_rfl
theorem bs5:((Rows.reserveKeepsPromisesRow.named == Tryz.pinned.checked.prog.varsNamed 8))=true:=by kernel_rfl
theorem bs4:((Rows.reserveKeepsPromisesRow.maps == (Tryz.f8.params.toList++(OpenSpec.ofChange Rows.reserveKeepsPromisesSpec).bare.plain.varTypes Tryz.pinned.checked.prog).any (Tryz.pinned.checked.prog.mapsRec ·)))=true:=by kernel_rfl
theorem bs3:((Rows.reserveKeepsPromisesRow.ifaces == (Tryz.f8.params.toList++(OpenSpec.ofChange Rows.reserveKeepsPromisesSpec).bare.plain.varTypes Tryz.pinned.checked.prog).any (Tryz.pinned.checked.prog.ifacesRec ·)))=true:=by kernel_rfl
theorem bs1:((Rows.reserveKeepsPromisesRow.mapsOut == Tryz.pinned.checked.prog.mapsAmong Tryz.f8.resultTypes.toList))=true:=by kernel_rfl
theorem bs0:((Rows.reserveKeepsPromisesRow.loops == (Tryz.f8.params.toList++(OpenSpec.ofChange Rows.reserveKeepsPromisesSpec).bare.plain.varTypes Tryz.pinned.checked.prog).any (Tryz.pinned.checked.prog.loopsFrom ·)))=true:=by kernel_rfl
theorem brz:((Rows.reserveKeepsPromisesRow.wideKeys == (Tryz.f8.params.toList++(OpenSpec.ofChange Rows.reserveKeepsPromisesSpec).bare.plain.varTypes Tryz.pinned.checked.prog++Tryz.f8.resultTypes.toList).any (Tryz.pinned.checked.prog.wideKeysFrom ·)))=true:=by kernel_rfl
theorem bry:((OpenSpec.ofChange Rows.reserveKeepsPromisesSpec).bare.vars.all (Tryz.pinned.checked.prog.varReadable ·))=true:=by kernel_rfl
theorem brx:(Tryz.f8.resultTypes.all (fun t=>Tryz.pinned.checked.prog.readableRec t&&decide (t < Tryz.pinned.checked.prog.types.size)))=true:=by kernel_rfl
theorem brw:((Rows.reserveKeepsPromisesRow.ifacesOut == Tryz.f8.resultTypes.toList.any (Tryz.pinned.checked.prog.ifacesRec ·)))=true:=by kernel_rfl
theorem brv:((Rows.reserveKeepsPromisesRow.loopsOut == Tryz.f8.resultTypes.toList.any (Tryz.pinned.checked.prog.loopsFrom ·)))=true:=by kernel_rfl
theorem bru:((Rows.reserveKeepsPromisesRow.plainKeys == Tryz.pinned.checked.prog.plainKeys))=true:=by kernel_rfl
theorem brt:(Rows.reserveKeepsPromisesRow.shortTexts.isNone)=true:=by kernel_rfl
theorem brs:(Tryz.pinned.checked.prog.stopsHeard)=true:=by kernel_rfl
theorem brr:(Tryz.pinned.checked.prog.mayEnter)=true:=by kernel_rfl
theorem brq:((Rows.reserveKeepsPromisesRow.lifted == Tryz.pinned.checked.prog.liftsFinal))=true:=by kernel_rfl
theorem brp:((Tryz.pinned.checked.prog.make == some Rows.reserveKeepsPromisesRow.make))=true:=by kernel_rfl
theorem bro:((Rows.reserveKeepsPromisesRow.kinds == (if Rows.reserveKeepsPromisesRow.domain.isEmpty then [] else Tryz.f8.params.toList.map fun t=>match Tryz.pinned.checked.prog.underlying t with | some (.int k)=>some k | _=>none)))=true:=by kernel_rfl
theorem brn:((Rows.reserveKeepsPromisesRow.pinned == Rows.reserveKeepsPromisesRow.pinnedBy))=true:=by kernel_rfl
theorem brm:((Rows.reserveKeepsPromisesRow.veiled == (Tryz.f8.params.toList++(OpenSpec.ofChange Rows.reserveKeepsPromisesSpec).bare.plain.varTypes Tryz.pinned.checked.prog++Tryz.f8.resultTypes.toList).any (Tryz.pinned.checked.prog.veiledRec ·)))=true:=by kernel_rfl
theorem brl:(Rows.reserveKeepsPromisesRow.veiledFits Tryz.pinned.checked.prog Tryz.f8.params.toList (Tryz.f8.params.toList++(OpenSpec.ofChange Rows.reserveKeepsPromisesSpec).bare.plain.varTypes Tryz.pinned.checked.prog++Tryz.f8.resultTypes.toList))=true:=by kernel_rfl
set_option maxRecDepth 100000 in
theorem facts:joinedFacts Tryz.pinned.checked.prog 8 Tryz.f8 (OpenSpec.ofChange Rows.reserveKeepsPromisesSpec).bare Rows.reserveKeepsPromisesRow=true:=(apz (apz (apz (apz (apz (apz (apz (apz (apz (apz (apz (apz (apz (apz (apz (apz (apz (apz (apz (apz (apz (apz (apz (apz (apz (apz (apz (apz (apz (apz (apz bFl bFk) bFj) bFi) bFh) bFg) bFf) bFe) bFd) bFc) bs7) bs6) bs5) bs4) bs3) bs1) bs0) brz) bry) brx) brw) brv) bru) brt) brs) brr) brq) brp) bro) brn) brm) brl)
theorem said:Rows.ReserveKeepsPromisesSaid :=
 OpenClaim.holds_of_cond 8 Tryz.f8 rfl rfl rfl rfl rfl rfl rfl ⟨rfl,rfl,rfl,rfl,rfl⟩ rfl rfl rfl rfl rfl (by kernel_rfl) Tryz.func8 facts
  (of_decide_eq_true (by kernel_rfl)) (by unfold Func.isWrapper;first | (rw [if_pos (by decide +kernel)];kernel_rfl) | (rw [if_neg (by decide +kernel)];exact ⟨rfl,rfl⟩))
  (fun os started H enc _ F=>by rw [OpenClaim.pre_eq_preRow];exact lifted os started H enc F)
end Go.Proofs.YtlnlbdfokmhelaaGreatDoor.promises
