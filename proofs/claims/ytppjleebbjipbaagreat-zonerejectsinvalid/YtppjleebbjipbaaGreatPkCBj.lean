/-
  A zone that is spoiled in one place is invalid, and all functions return ErrArg: the law answers true for every input and leaves its arguments as they were.
-/
import Derived.Test.YtppjleebbjipbaaGreatPkCAj
import Derived.WalkKit
import Derived.ProofKit
import Derived.OpenShut
import Derived.Carry
import Derived.Deep.DeepHandedRow
import Derived.Lib.LaidTab
import Derived.Test.YtppjleebbjipbaaGreatRows
set_option linter.unusedSectionVars false
set_option linter.constructorNameAsVariable false
set_option linter.unusedVariables false
set_option linter.unusedSimpArgs false
namespace Go.Proofs.YtppjleebbjipbaaGreat.zrejects
open Go.ChangeShapes Go.WideShapes Go.ChangeAt Go.RowKit

theorem a1o {a b:Bool} (h:a=true) (g:b=true):(a&&b)=true:=by rw [h,g];rfl
theorem ars:(Rows.zoneRejectsInvalidRow.wf (OpenSpec.ofChange (OpenSpec.ofChange Rows.zoneRejectsInvalidSpec).bare))=true:=by kernel_rfl
theorem arq:(laidOutB Tryz.pinned.checked.prog)=true:=by kernel_rfl
theorem arp:(mapsRowed Tryz.pinned.checked.prog)=true:=by kernel_rfl
theorem aro:(Tryz.f13.params.all (Tryz.pinned.checked.prog.readableRec ·))=true:=by kernel_rfl
theorem arn:(namedTie Tryz.pinned.checked.prog Rows.zoneRejectsInvalidRow.named (OpenSpec.ofChange Rows.zoneRejectsInvalidSpec).bare.vars)=true:=by kernel_rfl
theorem arl:((Rows.zoneRejectsInvalidRow.stops == []))=true:=by kernel_rfl
theorem ark:((Tryz.pinned.checked.prog.stops == []))=true:=by kernel_rfl
theorem arj:((Rows.zoneRejectsInvalidRow.knobs == []))=true:=by kernel_rfl
theorem ari:((Tryz.pinned.checked.prog.stopKnobs == []))=true:=by kernel_rfl
theorem arh:((Rows.zoneRejectsInvalidRow.inPlace == Tryz.pinned.checked.prog.inPlace 13))=true:=by kernel_rfl
theorem apn:((Rows.zoneRejectsInvalidRow.unfollowed == Tryz.pinned.checked.prog.unfollowed 13))=true:=by kernel_rfl
theorem apm:((Rows.zoneRejectsInvalidRow.recurses == Tryz.pinned.checked.prog.recurses 13))=true:=by kernel_rfl
theorem apl:((Rows.zoneRejectsInvalidRow.named == Tryz.pinned.checked.prog.varsNamed 13))=true:=by kernel_rfl
theorem apk:((Rows.zoneRejectsInvalidRow.maps == (Tryz.f13.params.toList++(OpenSpec.ofChange Rows.zoneRejectsInvalidSpec).bare.plain.varTypes Tryz.pinned.checked.prog).any (Tryz.pinned.checked.prog.mapsRec ·)))=true:=by kernel_rfl
theorem apj:((Rows.zoneRejectsInvalidRow.ifaces == (Tryz.f13.params.toList++(OpenSpec.ofChange Rows.zoneRejectsInvalidSpec).bare.plain.varTypes Tryz.pinned.checked.prog).any (Tryz.pinned.checked.prog.ifacesRec ·)))=true:=by kernel_rfl
theorem api:((Rows.zoneRejectsInvalidRow.mapsOut == Tryz.pinned.checked.prog.mapsAmong Tryz.f13.resultTypes.toList))=true:=by kernel_rfl
theorem aph:((Rows.zoneRejectsInvalidRow.loops == (Tryz.f13.params.toList++(OpenSpec.ofChange Rows.zoneRejectsInvalidSpec).bare.plain.varTypes Tryz.pinned.checked.prog).any (Tryz.pinned.checked.prog.loopsFrom ·)))=true:=by kernel_rfl
theorem apg:((Rows.zoneRejectsInvalidRow.wideKeys == (Tryz.f13.params.toList++(OpenSpec.ofChange Rows.zoneRejectsInvalidSpec).bare.plain.varTypes Tryz.pinned.checked.prog++Tryz.f13.resultTypes.toList).any (Tryz.pinned.checked.prog.wideKeysFrom ·)))=true:=by kernel_rfl
theorem apf:((OpenSpec.ofChange Rows.zoneRejectsInvalidSpec).bare.vars.all (Tryz.pinned.checked.prog.varReadable ·))=true:=by kernel_rfl
theorem ape:(Tryz.f13.resultTypes.all (fun t=>Tryz.pinned.checked.prog.readableRec t&&decide (t < Tryz.pinned.checked.prog.types.size)))=true:=by kernel_rfl
theorem apd:((Rows.zoneRejectsInvalidRow.ifacesOut == Tryz.f13.resultTypes.toList.any (Tryz.pinned.checked.prog.ifacesRec ·)))=true:=by kernel_rfl
theorem apc:((Rows.zoneRejectsInvalidRow.loopsOut == Tryz.f13.resultTypes.toList.any (Tryz.pinned.checked.prog.loopsFrom ·)))=true:=by kernel_rfl
theorem apb:((Rows.zoneRejectsInvalidRow.plainKeys == Tryz.pinned.checked.prog.plainKeys))=true:=by kernel_rfl
theorem apa:(Rows.zoneRejectsInvalidRow.shortTexts.isNone)=true:=by kernel_rfl
theorem ap9:(Tryz.pinned.checked.prog.stopsHeard)=true:=by kernel_rfl
theorem ap8:(Tryz.pinned.checked.prog.mayEnter)=true:=by kernel_rfl
theorem ap7:((Rows.zoneRejectsInvalidRow.lifted == Tryz.pinned.checked.prog.liftsFinal))=true:=by kernel_rfl
theorem ap6:((Tryz.pinned.checked.prog.make == some Rows.zoneRejectsInvalidRow.make))=true:=by kernel_rfl
theorem ap5:((Rows.zoneRejectsInvalidRow.kinds == (if Rows.zoneRejectsInvalidRow.domain.isEmpty then [] else Tryz.f13.params.toList.map fun t=>match Tryz.pinned.checked.prog.underlying t with | some (.int k)=>some k | _=>none)))=true:=by kernel_rfl
theorem ap4:((Rows.zoneRejectsInvalidRow.pinned == Rows.zoneRejectsInvalidRow.pinnedBy))=true:=by kernel_rfl
theorem ap3:((Rows.zoneRejectsInvalidRow.veiled == (Tryz.f13.params.toList++(OpenSpec.ofChange Rows.zoneRejectsInvalidSpec).bare.plain.varTypes Tryz.pinned.checked.prog++Tryz.f13.resultTypes.toList).any (Tryz.pinned.checked.prog.veiledRec ·)))=true:=by kernel_rfl
theorem ap2:(Rows.zoneRejectsInvalidRow.veiledFits Tryz.pinned.checked.prog Tryz.f13.params.toList (Tryz.f13.params.toList++(OpenSpec.ofChange Rows.zoneRejectsInvalidSpec).bare.plain.varTypes Tryz.pinned.checked.prog++Tryz.f13.resultTypes.toList))=true:=by kernel_rfl
set_option maxRecDepth 100000 in
theorem facts:joinedFacts Tryz.pinned.checked.prog 13 Tryz.f13 (OpenSpec.ofChange Rows.zoneRejectsInvalidSpec).bare Rows.zoneRejectsInvalidRow=true:=(a1o (a1o (a1o (a1o (a1o (a1o (a1o (a1o (a1o (a1o (a1o (a1o (a1o (a1o (a1o (a1o (a1o (a1o (a1o (a1o (a1o (a1o (a1o (a1o (a1o (a1o (a1o (a1o (a1o (a1o (a1o ars arq) arp) aro) arn) arl) ark) arj) ari) arh) apn) apm) apl) apk) apj) api) aph) apg) apf) ape) apd) apc) apb) apa) ap9) ap8) ap7) ap6) ap5) ap4) ap3) ap2)
theorem said:Rows.ZoneRejectsInvalidSaid :=
 OpenClaim.holds_of_cond 13 Tryz.f13 rfl rfl rfl rfl rfl rfl rfl ⟨rfl,rfl,rfl,rfl,rfl⟩ rfl rfl rfl rfl rfl (by kernel_rfl) Tryz.func13 facts
  (of_decide_eq_true (by kernel_rfl)) (by unfold Func.isWrapper;first | (rw [if_pos (by decide +kernel)];kernel_rfl) | (rw [if_neg (by decide +kernel)];exact ⟨rfl,rfl⟩))
  (fun os started H enc _ F=>by rw [OpenClaim.pre_eq_preRow];exact lifted os started H enc F)
end Go.Proofs.YtppjleebbjipbaaGreat.zrejects
