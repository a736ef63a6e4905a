/-
  An owner that gets all grants and the commit has committed, in whatever order and however often they come, and whatever letters of other reservations come between: the law answers true for every input and leaves its arguments as they were. Conditions: the package variable digest.rounds holds what the program's text lays (the card ties it).
-/
import Derived.Test.YtlnlbdfokmhelaaGreatDoorPkCAo
import Derived.WalkKit
import Derived.ProofKit
import Derived.OpenShut
import Derived.Carry
import Derived.Deep.DeepHandedRow
import Derived.Lib.LaidTab
import Derived.Test.YtlnlbdfokmhelaaGreatDoorCards
import Derived.Test.YtlnlbdfokmhelaaGreatDoorTie
set_option linter.unusedSectionVars false
set_option linter.constructorNameAsVariable false
set_option linter.unusedVariables false
set_option linter.unusedSimpArgs false
namespace Go.Proofs.YtlnlbdfokmhelaaGreatDoor.order
open Go.ChangeShapes Go.WideShapes Go.ChangeAt Go.RowKit

theorem apz {a b:Bool} (h:a=true) (g:b=true):(a&&b)=true:=by rw [h,g];rfl
theorem bFl:(Rows.reserveOrderRow.wf (OpenSpec.ofChange (OpenSpec.ofChange Rows.reserveOrderSpec).bare))=true:=by kernel_rfl
theorem bFk:(laidOutB Tryz.pinned.checked.prog)=true:=by kernel_rfl
theorem bFj:(mapsRowed Tryz.pinned.checked.prog)=true:=by kernel_rfl
theorem bFi:(Tryz.f7.params.all (Tryz.pinned.checked.prog.readableRec ·))=true:=by kernel_rfl
theorem bFh:(namedTie Tryz.pinned.checked.prog Rows.reserveOrderRow.named (OpenSpec.ofChange Rows.reserveOrderSpec).bare.vars)=true:=by kernel_rfl
theorem bFg:((Rows.reserveOrderRow.stops == []))=true:=by kernel_rfl
theorem bFf:((Tryz.pinned.checked.prog.stops == []))=true:=by kernel_rfl
theorem bFe:((Rows.reserveOrderRow.knobs == []))=true:=by kernel_rfl
theorem bFd:((Tryz.pinned.checked.prog.stopKnobs == []))=true:=by kernel_rfl
theorem bFc:((Rows.reserveOrderRow.inPlace == Tryz.pinned.checked.prog.inPlace 7))=true:=by kernel_rfl
theorem bs7:((Rows.reserveOrderRow.unfollowed == Tryz.pinned.checked.prog.unfollowed 7))=true:=by kernel_rfl
theorem bs6:((Rows.reserveOrderRow.recurses == Tryz.pinned.checked.prog.recurses 7))=true:=by kernel_rfl
theorem bs5:((Rows.reserveOrderRow.named == Tryz.pinned.checked.prog.varsNamed 7))=true:=by kernel_rfl
theorem bs4:((Rows.reserveOrderRow.maps == (Tryz.f7.params.toList++(OpenSpec.ofChange Rows.reserveOrderSpec).bare.plain.varTypes Tryz.pinned.checked.prog).any (Tryz.pinned.checked.prog.mapsRec ·)))=true:=by kernel_rfl
theorem bs3:((Rows.reserveOrderRow.ifaces == (Tryz.f7.params.toList++(OpenSpec.ofChange Rows.reserveOrderSpec).bare.plain.varTypes Tryz.pinned.checked.prog).any (Tryz.pinned.checked.prog.ifacesRec ·)))=true:=by kernel_rfl
theorem bs1:((Rows.reserveOrderRow.mapsOut == Tryz.pinned.checked.prog.mapsAmong Tryz.f7.resultTypes.toList))=true:=by kernel_rfl
theorem bs0:((Rows.reserveOrderRow.loops == (Tryz.f7.params.toList++(OpenSpec.ofChange Rows.reserveOrderSpec).bare.plain.varTypes Tryz.pinned.checked.prog).any (Tryz.pinned.checked.prog.loopsFrom ·)))=true:=by kernel_rfl
theorem brz:((Rows.reserveOrderRow.wideKeys == (Tryz.f7.params.toList++(OpenSpec.ofChange Rows.reserveOrderSpec).bare.plain.varTypes Tryz.pinned.checked.prog++Tryz.f7.resultTypes.toList).any (Tryz.pinned.checked.prog.wideKeysFrom ·)))=true:=by kernel_rfl
theorem bry:((OpenSpec.ofChange Rows.reserveOrderSpec).bare.vars.all (Tryz.pinned.checked.prog.varReadable ·))=true:=by kernel_rfl
theorem brx:(Tryz.f7.resultTypes.all (fun t=>Tryz.pinned.checked.prog.readableRec t&&decide (t < Tryz.pinned.checked.prog.types.size)))=true:=by kernel_rfl
theorem brw:((Rows.reserveOrderRow.ifacesOut == Tryz.f7.resultTypes.toList.any (Tryz.pinned.checked.prog.ifacesRec ·)))=true:=by kernel_rfl
theorem brv:((Rows.reserveOrderRow.loopsOut == Tryz.f7.resultTypes.toList.any (Tryz.pinned.checked.prog.loopsFrom ·)))=true:=by kernel_rfl
theorem bru:((Rows.reserveOrderRow.plainKeys == Tryz.pinned.checked.prog.plainKeys))=true:=by kernel_rfl
theorem brt:(Rows.reserveOrderRow.shortTexts.isNone)=true:=by kernel_rfl
theorem brs:(Tryz.pinned.checked.prog.stopsHeard)=true:=by kernel_rfl
theorem brr:(Tryz.pinned.checked.prog.mayEnter)=true:=by kernel_rfl
theorem brq:((Rows.reserveOrderRow.lifted == Tryz.pinned.checked.prog.liftsFinal))=true:=by kernel_rfl
theorem brp:((Tryz.pinned.checked.prog.make == some Rows.reserveOrderRow.make))=true:=by kernel_rfl
theorem bro:((Rows.reserveOrderRow.kinds == (if Rows.reserveOrderRow.domain.isEmpty then [] else Tryz.f7.params.toList.map fun t=>match Tryz.pinned.checked.prog.underlying t with | some (.int k)=>some k | _=>none)))=true:=by kernel_rfl
theorem brn:((Rows.reserveOrderRow.pinned == Rows.reserveOrderRow.pinnedBy))=true:=by kernel_rfl
theorem brm:((Rows.reserveOrderRow.veiled == (Tryz.f7.params.toList++(OpenSpec.ofChange Rows.reserveOrderSpec).bare.plain.varTypes Tryz.pinned.checked.prog++Tryz.f7.resultTypes.toList).any (Tryz.pinned.checked.prog.veiledRec ·)))=true:=by kernel_rfl
theorem brl:(Rows.reserveOrderRow.veiledFits Tryz.pinned.checked.prog Tryz.f7.params.toList (Tryz.f7.params.toList++(OpenSpec.ofChange Rows.reserveOrderSpec).bare.plain.varTypes Tryz.pinned.checked.prog++Tryz.f7.resultTypes.toList))=true:=by kernel_rfl
set_option maxRecDepth 100000 in
theorem facts:joinedFacts Tryz.pinned.checked.prog 7 Tryz.f7 (OpenSpec.ofChange Rows.reserveOrderSpec).bare Rows.reserveOrderRow=true:=(apz (apz (apz (apz (apz (apz (apz (apz (apz (apz (apz (apz (apz (apz (apz (apz (apz (apz (apz (apz (apz (apz (apz (apz (apz (apz (apz (apz (apz (apz (apz bFl bFk) bFj) bFi) bFh) bFg) bFf) bFe) bFd) bFc) bs7) bs6) bs5) bs4) bs3) bs1) bs0) brz) bry) brx) brw) brv) bru) brt) brs) brr) brq) brp) bro) brn) brm) brl)
theorem said:Rows.ReserveOrderSaid :=
 OpenClaim.holds_of_cond 7 Tryz.f7 rfl rfl rfl rfl rfl rfl rfl ⟨rfl,rfl,rfl,rfl,rfl⟩ rfl rfl rfl rfl rfl (by kernel_rfl) Tryz.func7 facts
  (of_decide_eq_true (by kernel_rfl)) (by unfold Func.isWrapper;first | (rw [if_pos (by decide +kernel)];kernel_rfl) | (rw [if_neg (by decide +kernel)];exact ⟨rfl,rfl⟩))
  (fun os started H enc _ F=>by rw [OpenClaim.pre_eq_preRow];exact lifted os started H enc F)
end Go.Proofs.YtlnlbdfokmhelaaGreatDoor.order
