/-
  Gaps and folds: the law answers true for every input and leaves its arguments as they were.
-/
import Derived.Test.YtppjleebbjipbaaGreatPkCAg
namespace Go.Proofs.YtppjleebbjipbaaGreat.zgaps
open Go.ChangeShapes Go.WideShapes Go.ChangeAt Go.RowKit

theorem a1o {a b:Bool} (h:a=true) (g:b=true):(a&&b)=true:=by rw [h,g];rfl
theorem ars:(Rows.zoneGapsRow.wf (OpenSpec.ofChange (OpenSpec.ofChange Rows.zoneGapsSpec).bare))=true:=by kernel_rfl
theorem arq:(laidOutB Tryz.pinned.checked.prog)=true:=by kernel_rfl
theorem arp:(mapsRowed Tryz.pinned.checked.prog)=true:=by kernel_rfl
theorem aro:(Tryz.f7.params.all (Tryz.pinned.checked.prog.readableRec ·))=true:=by kernel_rfl
theorem arn:(namedTie Tryz.pinned.checked.prog Rows.zoneGapsRow.named (OpenSpec.ofChange Rows.zoneGapsSpec).bare.vars)=true:=by kernel_rfl
theorem arl:((Rows.zoneGapsRow.stops == []))=true:=by kernel_rfl
theorem ark:((Tryz.pinned.checked.prog.stops == []))=true:=by kernel_rfl
theorem arj:((Rows.zoneGapsRow.knobs == []))=true:=by kernel_rfl
theorem ari:((Tryz.pinned.checked.prog.stopKnobs == []))=true:=by kernel_rfl
theorem arh:((Rows.zoneGapsRow.inPlace == Tryz.pinned.checked.prog.inPlace 7))=true:=by kernel_rfl
theorem apn:((Rows.zoneGapsRow.unfollowed == Tryz.pinned.checked.prog.unfollowed 7))=true:=by kernel_rfl
theorem apm:((Rows.zoneGapsRow.recurses == Tryz.pinned.checked.prog.recurses 7))=true:=by kernel_rfl
theorem apl:((Rows.zoneGapsRow.named == Tryz.pinned.checked.prog.varsNamed 7))=true:=by kernel_rfl
theorem apk:((Rows.zoneGapsRow.maps == (Tryz.f7.params.toList++(OpenSpec.ofChange Rows.zoneGapsSpec).bare.plain.varTypes Tryz.pinned.checked.prog).any (Tryz.pinned.checked.prog.mapsRec ·)))=true:=by kernel_rfl
theorem apj:((Rows.zoneGapsRow.ifaces == (Tryz.f7.params.toList++(OpenSpec.ofChange Rows.zoneGapsSpec).bare.plain.varTypes Tryz.pinned.checked.prog).any (Tryz.pinned.checked.prog.ifacesRec ·)))=true:=by kernel_rfl
theorem api:((Rows.zoneGapsRow.mapsOut == Tryz.pinned.checked.prog.mapsAmong Tryz.f7.resultTypes.toList))=true:=by kernel_rfl
theorem aph:((Rows.zoneGapsRow.loops == (Tryz.f7.params.toList++(OpenSpec.ofChange Rows.zoneGapsSpec).bare.plain.varTypes Tryz.pinned.checked.prog).any (Tryz.pinned.checked.prog.loopsFrom ·)))=true:=by kernel_rfl
theorem apg:((Rows.zoneGapsRow.wideKeys == (Tryz.f7.params.toList++(OpenSpec.ofChange Rows.zoneGapsSpec).bare.plain.varTypes Tryz.pinned.checked.prog++Tryz.f7.resultTypes.toList).any (Tryz.pinned.checked.prog.wideKeysFrom ·)))=true:=by kernel_rfl
theorem apf:((OpenSpec.ofChange Rows.zoneGapsSpec).bare.vars.all (Tryz.pinned.checked.prog.varReadable ·))=true:=by kernel_rfl
theorem ape:(Tryz.f7.resultTypes.all (fun t=>Tryz.pinned.checked.prog.readableRec t&&decide (t < Tryz.pinned.checked.prog.types.size)))=true:=by kernel_rfl
theorem apd:((Rows.zoneGapsRow.ifacesOut == Tryz.f7.resultTypes.toList.any (Tryz.pinned.checked.prog.ifacesRec ·)))=true:=by kernel_rfl
theorem apc:((Rows.zoneGapsRow.loopsOut == Tryz.f7.resultTypes.toList.any (Tryz.pinned.checked.prog.loopsFrom ·)))=true:=by kernel_rfl
theorem apb:((Rows.zoneGapsRow.plainKeys == Tryz.pinned.checked.prog.plainKeys))=true:=by kernel_rfl
theorem apa:(Rows.zoneGapsRow.shortTexts.isNone)=true:=by kernel_rfl
theorem ap9:(Tryz.pinned.checked.prog.stopsHeard)=true:=by kernel_rfl
theorem ap8:(Tryz.pinned.checked.prog.mayEnter)=true:=by kernel_rfl
theorem ap7:((Rows.zoneGapsRow.lifted == Tryz.pinned.checked.prog.liftsFinal))=true:=by kernel_rfl
theorem ap6:((Tryz.pinned.checked.prog.make == some Rows.zoneGapsRow.make))=true:=by kernel_rfl
theorem ap5:((Rows.zoneGapsRow.kinds == (if Rows.zoneGapsRow.domain.isEmpty then [] else Tryz.f7.params.toList.map fun t=>match Tryz.pinned.checked.prog.underlying t with | some (.int k)=>some k | _=>none)))=true:=by kernel_rfl
theorem ap4:((Rows.zoneGapsRow.pinned == Rows.zoneGapsRow.pinnedBy))=true:=by kernel_rfl
theorem ap3:((Rows.zoneGapsRow.veiled == (Tryz.f7.params.toList++(OpenSpec.ofChange Rows.zoneGapsSpec).bare.plain.varTypes Tryz.pinned.checked.prog++Tryz.f7.resultTypes.toList).any (Tryz.pinned.checked.prog.veiledRec ·)))=true:=by kernel_rfl
theorem ap2:(Rows.zoneGapsRow.veiledFits Tryz.pinned.checked.prog Tryz.f7.params.toList (Tryz.f7.params.toList++(OpenSpec.ofChange Rows.zoneGapsSpec).bare.plain.varTypes Tryz.pinned.checked.prog++Tryz.f7.resultTypes.toList))=true:=by kernel_rfl
set_option maxRecDepth 100000 in
theorem facts:joinedFacts Tryz.pinned.checked.prog 7 Tryz.f7 (OpenSpec.ofChange Rows.zoneGapsSpec).bare Rows.zoneGapsRow=true:=(a1o (a1o (a1o (a1o (a1o (a1o (a1o (a1o (a1o (a1o (a1o (a1o (a1o (a1o (a1o (a1o (a1o (a1o (a1o (a1o (a1o (a1o (a1o (a1o (a1o (a1o (a1o (a1o (a1o (a1o (a1o ars arq) arp) aro) arn) arl) ark) arj) ari) arh) apn) apm) apl) apk) apj) api) aph) apg) apf) ape) apd) apc) apb) apa) ap9) ap8) ap7) ap6) ap5) ap4) ap3) ap2)
theorem said:Rows.ZoneGapsSaid :=
 OpenClaim.holds_of_cond 7 Tryz.f7 rfl rfl rfl rfl rfl rfl rfl ⟨rfl,rfl,rfl,rfl,rfl⟩ rfl rfl rfl rfl rfl (by kernel_rfl) Tryz.func7 facts
  (of_decide_eq_true (by kernel_rfl)) (by unfold Func.isWrapper;first | (rw [if_pos (by decide +kernel)];kernel_rfl) | (rw [if_neg (by decide +kernel)];exact ⟨rfl,rfl⟩))
  (fun os started H enc _ F=>by rw [OpenClaim.pre_eq_preRow];exact lifted os started H enc F)
end Go.Proofs.YtppjleebbjipbaaGreat.zgaps
