/-
  For all zones, Valid and the offset of an instant agree with the reference implementation: the law answers true for every input and leaves its arguments as they were.
-/
import Derived.Test.YtppjleebbjipbaaGreatPkCAv
import Derived.WalkKit
import Derived.ProofKit
import Derived.OpenShut
import Derived.Carry
import Derived.Deep.DeepHandedRow
import Derived.Lib.LaidTab
import Derived.Test.YtppjleebbjipbaaGreatRows
set_option linter.unusedSectionVars false
set_option linter.constructorNameAsVariable false
set_option linter.unusedVariables false
set_option linter.unusedSimpArgs false
namespace Go.Proofs.YtppjleebbjipbaaGreat.zvalid
open Go.ChangeShapes Go.WideShapes Go.ChangeAt Go.RowKit

theorem a1o {a b:Bool} (h:a=true) (g:b=true):(a&&b)=true:=by rw [h,g];rfl
theorem ars:(Rows.zoneValidMatchesReferenceRow.wf (OpenSpec.ofChange (OpenSpec.ofChange Rows.zoneValidMatchesReferenceSpec).bare))=true:=by kernel_rfl
theorem arq:(laidOutB Tryz.pinned.checked.prog)=true:=by kernel_rfl
theorem arp:(mapsRowed Tryz.pinned.checked.prog)=true:=by kernel_rfl
theorem aro:(Tryz.f4.params.all (Tryz.pinned.checked.prog.readableRec ·))=true:=by kernel_rfl
theorem arn:(namedTie Tryz.pinned.checked.prog Rows.zoneValidMatchesReferenceRow.named (OpenSpec.ofChange Rows.zoneValidMatchesReferenceSpec).bare.vars)=true:=by kernel_rfl
theorem arl:((Rows.zoneValidMatchesReferenceRow.stops == []))=true:=by kernel_rfl
theorem ark:((Tryz.pinned.checked.prog.stops == []))=true:=by kernel_rfl
theorem arj:((Rows.zoneValidMatchesReferenceRow.knobs == []))=true:=by kernel_rfl
theorem ari:((Tryz.pinned.checked.prog.stopKnobs == []))=true:=by kernel_rfl
theorem arh:((Rows.zoneValidMatchesReferenceRow.inPlace == Tryz.pinned.checked.prog.inPlace 4))=true:=by kernel_rfl
theorem apn:((Rows.zoneValidMatchesReferenceRow.unfollowed == Tryz.pinned.checked.prog.unfollowed 4))=true:=by kernel_rfl
theorem apm:((Rows.zoneValidMatchesReferenceRow.recurses == Tryz.pinned.checked.prog.recurses 4))=true:=by kernel_rfl
theorem apl:((Rows.zoneValidMatchesReferenceRow.named == Tryz.pinned.checked.prog.varsNamed 4))=true:=by kernel_rfl
theorem apk:((Rows.zoneValidMatchesReferenceRow.maps == (Tryz.f4.params.toList++(OpenSpec.ofChange Rows.zoneValidMatchesReferenceSpec).bare.plain.varTypes Tryz.pinned.checked.prog).any (Tryz.pinned.checked.prog.mapsRec ·)))=true:=by kernel_rfl
theorem apj:((Rows.zoneValidMatchesReferenceRow.ifaces == (Tryz.f4.params.toList++(OpenSpec.ofChange Rows.zoneValidMatchesReferenceSpec).bare.plain.varTypes Tryz.pinned.checked.prog).any (Tryz.pinned.checked.prog.ifacesRec ·)))=true:=by kernel_rfl
theorem api:((Rows.zoneValidMatchesReferenceRow.mapsOut == Tryz.pinned.checked.prog.mapsAmong Tryz.f4.resultTypes.toList))=true:=by kernel_rfl
theorem aph:((Rows.zoneValidMatchesReferenceRow.loops == (Tryz.f4.params.toList++(OpenSpec.ofChange Rows.zoneValidMatchesReferenceSpec).bare.plain.varTypes Tryz.pinned.checked.prog).any (Tryz.pinned.checked.prog.loopsFrom ·)))=true:=by kernel_rfl
theorem apg:((Rows.zoneValidMatchesReferenceRow.wideKeys == (Tryz.f4.params.toList++(OpenSpec.ofChange Rows.zoneValidMatchesReferenceSpec).bare.plain.varTypes Tryz.pinned.checked.prog++Tryz.f4.resultTypes.toList).any (Tryz.pinned.checked.prog.wideKeysFrom ·)))=true:=by kernel_rfl
theorem apf:((OpenSpec.ofChange Rows.zoneValidMatchesReferenceSpec).bare.vars.all (Tryz.pinned.checked.prog.varReadable ·))=true:=by kernel_rfl
theorem ape:(Tryz.f4.resultTypes.all (fun t=>Tryz.pinned.checked.prog.readableRec t&&decide (t < Tryz.pinned.checked.prog.types.size)))=true:=by kernel_rfl
theorem apd:((Rows.zoneValidMatchesReferenceRow.ifacesOut == Tryz.f4.resultTypes.toList.any (Tryz.pinned.checked.prog.ifacesRec ·)))=true:=by kernel_rfl
theorem apc:((Rows.zoneValidMatchesReferenceRow.loopsOut == Tryz.f4.resultTypes.toList.any (Tryz.pinned.checked.prog.loopsFrom ·)))=true:=by kernel_rfl
theorem apb:((Rows.zoneValidMatchesReferenceRow.plainKeys == Tryz.pinned.checked.prog.plainKeys))=true:=by kernel_rfl
theorem apa:(Rows.zoneValidMatchesReferenceRow.shortTexts.isNone)=true:=by kernel_rfl
theorem ap9:(Tryz.pinned.checked.prog.stopsHeard)=true:=by kernel_rfl
theorem ap8:(Tryz.pinned.checked.prog.mayEnter)=true:=by kernel_rfl
theorem ap7:((Rows.zoneValidMatchesReferenceRow.lifted == Tryz.pinned.checked.prog.liftsFinal))=true:=by kernel_rfl
theorem ap6:((Tryz.pinned.checked.prog.make == some Rows.zoneValidMatchesReferenceRow.make))=true:=by kernel_rfl
theorem ap5:((Rows.zoneValidMatchesReferenceRow.kinds == (if Rows.zoneValidMatchesReferenceRow.domain.isEmpty then [] else Tryz.f4.params.toList.map fun t=>match Tryz.pinned.checked.prog.underlying t with | some (.int k)=>some k | _=>none)))=true:=by kernel_rfl
theorem ap4:((Rows.zoneValidMatchesReferenceRow.pinned == Rows.zoneValidMatchesReferenceRow.pinnedBy))=true:=by kernel_rfl
theorem ap3:((Rows.zoneValidMatchesReferenceRow.veiled == (Tryz.f4.params.toList++(OpenSpec.ofChange Rows.zoneValidMatchesReferenceSpec).bare.plain.varTypes Tryz.pinned.checked.prog++Tryz.f4.resultTypes.toList).any (Tryz.pinned.checked.prog.veiledRec ·)))=true:=by kernel_rfl
theorem ap2:(Rows.zoneValidMatchesReferenceRow.veiledFits Tryz.pinned.checked.prog Tryz.f4.params.toList (Tryz.f4.params.toList++(OpenSpec.ofChange Rows.zoneValidMatchesReferenceSpec).bare.plain.varTypes Tryz.pinned.checked.prog++Tryz.f4.resultTypes.toList))=true:=by kernel_rfl
set_option maxRecDepth 100000 in
theorem facts:joinedFacts Tryz.pinned.checked.prog 4 Tryz.f4 (OpenSpec.ofChange Rows.zoneValidMatchesReferenceSpec).bare Rows.zoneValidMatchesReferenceRow=true:=(a1o (a1o (a1o (a1o (a1o (a1o (a1o (a1o (a1o (a1o (a1o (a1o (a1o (a1o (a1o (a1o (a1o (a1o (a1o (a1o (a1o (a1o (a1o (a1o (a1o (a1o (a1o (a1o (a1o (a1o (a1o ars arq) arp) aro) arn) arl) ark) arj) ari) arh) apn) apm) apl) apk) apj) api) aph) apg) apf) ape) apd) apc) apb) apa) ap9) ap8) ap7) ap6) ap5) ap4) ap3) ap2)
theorem said:Rows.ZoneValidMatchesReferenceSaid :=
 OpenClaim.holds_of_cond 4 Tryz.f4 rfl rfl rfl rfl rfl rfl rfl ⟨rfl,rfl,rfl,rfl,rfl⟩ rfl rfl rfl rfl rfl (by kernel_rfl) Tryz.func4 facts
  (of_decide_eq_true (by kernel_rfl)) (by unfold Func.isWrapper;first | (rw [if_pos (by decide +kernel)];kernel_rfl) | (rw [if_neg (by decide +kernel)];exact ⟨rfl,rfl⟩))
  (fun os started H enc _ F=>by rw [OpenClaim.pre_eq_preRow];exact lifted os started H enc F)
end Go.Proofs.YtppjleebbjipbaaGreat.zvalid
