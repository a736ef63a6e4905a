/-
  Changes, Diff and Same agree with the reference implementation: the law answers true for every input and leaves its arguments as they were.
-/
import Derived.Test.YtppjleebbjipbaaGreatQkCAq
set_option linter.all false
namespace Go.Proofs.YtppjleebbjipbaaGreat.zdiffs
open Go.ChangeShapes Go.WideShapes Go.ChangeAt Go.RowKit

theorem a1o {a b:Bool} (h:a=true) (g:b=true):(a&&b)=true:=by rw [h,g];rfl
theorem ars:(Rows.zoneChangesMatchReferenceRow.wf (OpenSpec.ofChange (OpenSpec.ofChange Rows.zoneChangesMatchReferenceSpec).bare))=true:=by kernel_rfl
theorem arq:(laidOutB Tryz.pinned.checked.prog)=true:=by kernel_rfl
theorem arp:(mapsRowed Tryz.pinned.checked.prog)=true:=by kernel_rfl
theorem aro:(Tryz.f12.params.all (Tryz.pinned.checked.prog.readableRec ·))=true:=by kernel_rfl
theorem arn:(namedTie Tryz.pinned.checked.prog Rows.zoneChangesMatchReferenceRow.named (OpenSpec.ofChange Rows.zoneChangesMatchReferenceSpec).bare.vars)=true:=by kernel_rfl
theorem arl:((Rows.zoneChangesMatchReferenceRow.stops == []))=true:=by kernel_rfl
theorem ark:((Tryz.pinned.checked.prog.stops == []))=true:=by kernel_rfl
theorem arj:((Rows.zoneChangesMatchReferenceRow.knobs == []))=true:=by kernel_rfl
theorem ari:((Tryz.pinned.checked.prog.stopKnobs == []))=true:=by kernel_rfl
theorem arh:((Rows.zoneChangesMatchReferenceRow.inPlace == Tryz.pinned.checked.prog.inPlace 12))=true:=by kernel_rfl
theorem apn:((Rows.zoneChangesMatchReferenceRow.unfollowed == Tryz.pinned.checked.prog.unfollowed 12))=true:=by kernel_rfl
theorem apm:((Rows.zoneChangesMatchReferenceRow.recurses == Tryz.pinned.checked.prog.recurses 12))=true:=by kernel_rfl
theorem apl:((Rows.zoneChangesMatchReferenceRow.named == Tryz.pinned.checked.prog.varsNamed 12))=true:=by kernel_rfl
theorem apk:((Rows.zoneChangesMatchReferenceRow.maps == (Tryz.f12.params.toList++(OpenSpec.ofChange Rows.zoneChangesMatchReferenceSpec).bare.plain.varTypes Tryz.pinned.checked.prog).any (Tryz.pinned.checked.prog.mapsRec ·)))=true:=by kernel_rfl
theorem apj:((Rows.zoneChangesMatchReferenceRow.ifaces == (Tryz.f12.params.toList++(OpenSpec.ofChange Rows.zoneChangesMatchReferenceSpec).bare.plain.varTypes Tryz.pinned.checked.prog).any (Tryz.pinned.checked.prog.ifacesRec ·)))=true:=by kernel_rfl
theorem api:((Rows.zoneChangesMatchReferenceRow.mapsOut == Tryz.pinned.checked.prog.mapsAmong Tryz.f12.resultTypes.toList))=true:=by kernel_rfl
theorem aph:((Rows.zoneChangesMatchReferenceRow.loops == (Tryz.f12.params.toList++(OpenSpec.ofChange Rows.zoneChangesMatchReferenceSpec).bare.plain.varTypes Tryz.pinned.checked.prog).any (Tryz.pinned.checked.prog.loopsFrom ·)))=true:=by kernel_rfl
theorem apg:((Rows.zoneChangesMatchReferenceRow.wideKeys == (Tryz.f12.params.toList++(OpenSpec.ofChange Rows.zoneChangesMatchReferenceSpec).bare.plain.varTypes Tryz.pinned.checked.prog++Tryz.f12.resultTypes.toList).any (Tryz.pinned.checked.prog.wideKeysFrom ·)))=true:=by kernel_rfl
theorem apf:((OpenSpec.ofChange Rows.zoneChangesMatchReferenceSpec).bare.vars.all (Tryz.pinned.checked.prog.varReadable ·))=true:=by kernel_rfl
theorem ape:(Tryz.f12.resultTypes.all (fun t=>Tryz.pinned.checked.prog.readableRec t&&decide (t < Tryz.pinned.checked.prog.types.size)))=true:=by kernel_rfl
theorem apd:((Rows.zoneChangesMatchReferenceRow.ifacesOut == Tryz.f12.resultTypes.toList.any (Tryz.pinned.checked.prog.ifacesRec ·)))=true:=by kernel_rfl
theorem apc:((Rows.zoneChangesMatchReferenceRow.loopsOut == Tryz.f12.resultTypes.toList.any (Tryz.pinned.checked.prog.loopsFrom ·)))=true:=by kernel_rfl
theorem apb:((Rows.zoneChangesMatchReferenceRow.plainKeys == Tryz.pinned.checked.prog.plainKeys))=true:=by kernel_rfl
theorem apa:(Rows.zoneChangesMatchReferenceRow.shortTexts.isNone)=true:=by kernel_rfl
theorem ap9:(Tryz.pinned.checked.prog.stopsHeard)=true:=by kernel_rfl
theorem ap8:(Tryz.pinned.checked.prog.mayEnter)=true:=by kernel_rfl
theorem ap7:((Rows.zoneChangesMatchReferenceRow.lifted == Tryz.pinned.checked.prog.liftsFinal))=true:=by kernel_rfl
theorem ap6:((Tryz.pinned.checked.prog.make == some Rows.zoneChangesMatchReferenceRow.make))=true:=by kernel_rfl
theorem ap5:((Rows.zoneChangesMatchReferenceRow.kinds == (if Rows.zoneChangesMatchReferenceRow.domain.isEmpty then [] else Tryz.f12.params.toList.map fun t=>match Tryz.pinned.checked.prog.underlying t with | some (.int k)=>some k | _=>none)))=true:=by kernel_rfl
theorem ap4:((Rows.zoneChangesMatchReferenceRow.pinned == Rows.zoneChangesMatchReferenceRow.pinnedBy))=true:=by kernel_rfl
theorem ap3:((Rows.zoneChangesMatchReferenceRow.veiled == (Tryz.f12.params.toList++(OpenSpec.ofChange Rows.zoneChangesMatchReferenceSpec).bare.plain.varTypes Tryz.pinned.checked.prog++Tryz.f12.resultTypes.toList).any (Tryz.pinned.checked.prog.veiledRec ·)))=true:=by kernel_rfl
theorem ap2:(Rows.zoneChangesMatchReferenceRow.veiledFits Tryz.pinned.checked.prog Tryz.f12.params.toList (Tryz.f12.params.toList++(OpenSpec.ofChange Rows.zoneChangesMatchReferenceSpec).bare.plain.varTypes Tryz.pinned.checked.prog++Tryz.f12.resultTypes.toList))=true:=by kernel_rfl
set_option maxRecDepth 100000 in
theorem facts:joinedFacts Tryz.pinned.checked.prog 12 Tryz.f12 (OpenSpec.ofChange Rows.zoneChangesMatchReferenceSpec).bare Rows.zoneChangesMatchReferenceRow=true:=(a1o (a1o (a1o (a1o (a1o (a1o (a1o (a1o (a1o (a1o (a1o (a1o (a1o (a1o (a1o (a1o (a1o (a1o (a1o (a1o (a1o (a1o (a1o (a1o (a1o (a1o (a1o (a1o (a1o (a1o (a1o ars arq) arp) aro) arn) arl) ark) arj) ari) arh) apn) apm) apl) apk) apj) api) aph) apg) apf) ape) apd) apc) apb) apa) ap9) ap8) ap7) ap6) ap5) ap4) ap3) ap2)
theorem said:Rows.ZoneChangesMatchReferenceSaid :=
 OpenClaim.holds_of_cond 12 Tryz.f12 rfl rfl rfl rfl rfl rfl rfl ⟨rfl,rfl,rfl,rfl,rfl⟩ rfl rfl rfl rfl rfl (by kernel_rfl) Tryz.func12 facts
  (wV (by kernel_rfl)) (by unfold Func.isWrapper;first | (rw [zQ (by decide +kernel)];kernel_rfl) | (rw [zS (by decide +kernel)];exact ⟨rfl,rfl⟩))
  (fun os started H enc _ F=>by rw [OpenClaim.pre_eq_preRow];exact lifted os started H enc F)
end Go.Proofs.YtppjleebbjipbaaGreat.zdiffs
