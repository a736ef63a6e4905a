/-
  Valid, Offset, Local, Kind and Instants agree with the reference implementation: the law answers true for every input and leaves its arguments as they were.
-/
import Derived.Test.YtppjleebbjipbaaGreatPkCAm
import Derived.WalkKit
import Derived.ProofKit
import Derived.OpenShut
import Derived.Carry
import Derived.Deep.DeepHandedRow
import Derived.Lib.LaidTab
import Derived.Test.YtppjleebbjipbaaGreatRows
set_option linter.unusedSectionVars false
set_option linter.constructorNameAsVariable false
set_option linter.unusedVariables false
set_option linter.unusedSimpArgs false
namespace Go.Proofs.YtppjleebbjipbaaGreat.zmatch
open Go.ChangeShapes Go.WideShapes Go.ChangeAt Go.RowKit

theorem a1o {a b:Bool} (h:a=true) (g:b=true):(a&&b)=true:=by rw [h,g];rfl
theorem ars:(Rows.zoneMatchesReferenceRow.wf (OpenSpec.ofChange (OpenSpec.ofChange Rows.zoneMatchesReferenceSpec).bare))=true:=by kernel_rfl
theorem arq:(laidOutB Tryz.pinned.checked.prog)=true:=by kernel_rfl
theorem arp:(mapsRowed Tryz.pinned.checked.prog)=true:=by kernel_rfl
theorem aro:(Tryz.f3.params.all (Tryz.pinned.checked.prog.readableRec ·))=true:=by kernel_rfl
theorem arn:(namedTie Tryz.pinned.checked.prog Rows.zoneMatchesReferenceRow.named (OpenSpec.ofChange Rows.zoneMatchesReferenceSpec).bare.vars)=true:=by kernel_rfl
theorem arl:((Rows.zoneMatchesReferenceRow.stops == []))=true:=by kernel_rfl
theorem ark:((Tryz.pinned.checked.prog.stops == []))=true:=by kernel_rfl
theorem arj:((Rows.zoneMatchesReferenceRow.knobs == []))=true:=by kernel_rfl
theorem ari:((Tryz.pinned.checked.prog.stopKnobs == []))=true:=by kernel_rfl
theorem arh:((Rows.zoneMatchesReferenceRow.inPlace == Tryz.pinned.checked.prog.inPlace 3))=true:=by kernel_rfl
theorem apn:((Rows.zoneMatchesReferenceRow.unfollowed == Tryz.pinned.checked.prog.unfollowed 3))=true:=by kernel_rfl
theorem apm:((Rows.zoneMatchesReferenceRow.recurses == Tryz.pinned.checked.prog.recurses 3))=true:=by kernel_rfl
theorem apl:((Rows.zoneMatchesReferenceRow.named == Tryz.pinned.checked.prog.varsNamed 3))=true:=by kernel_rfl
theorem apk:((Rows.zoneMatchesReferenceRow.maps == (Tryz.f3.params.toList++(OpenSpec.ofChange Rows.zoneMatchesReferenceSpec).bare.plain.varTypes Tryz.pinned.checked.prog).any (Tryz.pinned.checked.prog.mapsRec ·)))=true:=by kernel_rfl
theorem apj:((Rows.zoneMatchesReferenceRow.ifaces == (Tryz.f3.params.toList++(OpenSpec.ofChange Rows.zoneMatchesReferenceSpec).bare.plain.varTypes Tryz.pinned.checked.prog).any (Tryz.pinned.checked.prog.ifacesRec ·)))=true:=by kernel_rfl
theorem api:((Rows.zoneMatchesReferenceRow.mapsOut == Tryz.pinned.checked.prog.mapsAmong Tryz.f3.resultTypes.toList))=true:=by kernel_rfl
theorem aph:((Rows.zoneMatchesReferenceRow.loops == (Tryz.f3.params.toList++(OpenSpec.ofChange Rows.zoneMatchesReferenceSpec).bare.plain.varTypes Tryz.pinned.checked.prog).any (Tryz.pinned.checked.prog.loopsFrom ·)))=true:=by kernel_rfl
theorem apg:((Rows.zoneMatchesReferenceRow.wideKeys == (Tryz.f3.params.toList++(OpenSpec.ofChange Rows.zoneMatchesReferenceSpec).bare.plain.varTypes Tryz.pinned.checked.prog++Tryz.f3.resultTypes.toList).any (Tryz.pinned.checked.prog.wideKeysFrom ·)))=true:=by kernel_rfl
theorem apf:((OpenSpec.ofChange Rows.zoneMatchesReferenceSpec).bare.vars.all (Tryz.pinned.checked.prog.varReadable ·))=true:=by kernel_rfl
theorem ape:(Tryz.f3.resultTypes.all (fun t=>Tryz.pinned.checked.prog.readableRec t&&decide (t < Tryz.pinned.checked.prog.types.size)))=true:=by kernel_rfl
theorem apd:((Rows.zoneMatchesReferenceRow.ifacesOut == Tryz.f3.resultTypes.toList.any (Tryz.pinned.checked.prog.ifacesRec ·)))=true:=by kernel_rfl
theorem apc:((Rows.zoneMatchesReferenceRow.loopsOut == Tryz.f3.resultTypes.toList.any (Tryz.pinned.checked.prog.loopsFrom ·)))=true:=by kernel_rfl
theorem apb:((Rows.zoneMatchesReferenceRow.plainKeys == Tryz.pinned.checked.prog.plainKeys))=true:=by kernel_rfl
theorem apa:(Rows.zoneMatchesReferenceRow.shortTexts.isNone)=true:=by kernel_rfl
theorem ap9:(Tryz.pinned.checked.prog.stopsHeard)=true:=by kernel_rfl
theorem ap8:(Tryz.pinned.checked.prog.mayEnter)=true:=by kernel_rfl
theorem ap7:((Rows.zoneMatchesReferenceRow.lifted == Tryz.pinned.checked.prog.liftsFinal))=true:=by kernel_rfl
theorem ap6:((Tryz.pinned.checked.prog.make == some Rows.zoneMatchesReferenceRow.make))=true:=by kernel_rfl
theorem ap5:((Rows.zoneMatchesReferenceRow.kinds == (if Rows.zoneMatchesReferenceRow.domain.isEmpty then [] else Tryz.f3.params.toList.map fun t=>match Tryz.pinned.checked.prog.underlying t with | some (.int k)=>some k | _=>none)))=true:=by kernel_rfl
theorem ap4:((Rows.zoneMatchesReferenceRow.pinned == Rows.zoneMatchesReferenceRow.pinnedBy))=true:=by kernel_rfl
theorem ap3:((Rows.zoneMatchesReferenceRow.veiled == (Tryz.f3.params.toList++(OpenSpec.ofChange Rows.zoneMatchesReferenceSpec).bare.plain.varTypes Tryz.pinned.checked.prog++Tryz.f3.resultTypes.toList).any (Tryz.pinned.checked.prog.veiledRec ·)))=true:=by kernel_rfl
theorem ap2:(Rows.zoneMatchesReferenceRow.veiledFits Tryz.pinned.checked.prog Tryz.f3.params.toList (Tryz.f3.params.toList++(OpenSpec.ofChange Rows.zoneMatchesReferenceSpec).bare.plain.varTypes Tryz.pinned.checked.prog++Tryz.f3.resultTypes.toList))=true:=by kernel_rfl
set_option maxRecDepth 100000 in
theorem facts:joinedFacts Tryz.pinned.checked.prog 3 Tryz.f3 (OpenSpec.ofChange Rows.zoneMatchesReferenceSpec).bare Rows.zoneMatchesReferenceRow=true:=(a1o (a1o (a1o (a1o (a1o (a1o (a1o (a1o (a1o (a1o (a1o (a1o (a1o (a1o (a1o (a1o (a1o (a1o (a1o (a1o (a1o (a1o (a1o (a1o (a1o (a1o (a1o (a1o (a1o (a1o (a1o ars arq) arp) aro) arn) arl) ark) arj) ari) arh) apn) apm) apl) apk) apj) api) aph) apg) apf) ape) apd) apc) apb) apa) ap9) ap8) ap7) ap6) ap5) ap4) ap3) ap2)
theorem said:Rows.ZoneMatchesReferenceSaid :=
 OpenClaim.holds_of_cond 3 Tryz.f3 rfl rfl rfl rfl rfl rfl rfl ⟨rfl,rfl,rfl,rfl,rfl⟩ rfl rfl rfl rfl rfl (by kernel_rfl) Tryz.func3 facts
  (of_decide_eq_true (by kernel_rfl)) (by unfold Func.isWrapper;first | (rw [if_pos (by decide +kernel)];kernel_rfl) | (rw [if_neg (by decide +kernel)];exact ⟨rfl,rfl⟩))
  (fun os started H enc _ F=>by rw [OpenClaim.pre_eq_preRow];exact lifted os started H enc F)
end Go.Proofs.YtppjleebbjipbaaGreat.zmatch
