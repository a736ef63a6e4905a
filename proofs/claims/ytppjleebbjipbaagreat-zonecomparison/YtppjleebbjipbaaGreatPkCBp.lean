/-
  Diff and Same tell where the offsets of two zones are unlike: the law answers true for every input and leaves its arguments as they were.
-/
import Derived.Test.YtppjleebbjipbaaGreatPkCAp
set_option linter.all false
namespace Go.Proofs.YtppjleebbjipbaaGreat.zcompare
open Go.ChangeShapes Go.WideShapes Go.ChangeAt Go.RowKit

theorem a1o {a b:Bool} (h:a=true) (g:b=true):(a&&b)=true:=by rw [h,g];rfl
theorem ars:(Rows.zoneComparisonRow.wf (OpenSpec.ofChange (OpenSpec.ofChange Rows.zoneComparisonSpec).bare))=true:=by kernel_rfl
theorem arq:(laidOutB Tryz.pinned.checked.prog)=true:=by kernel_rfl
theorem arp:(mapsRowed Tryz.pinned.checked.prog)=true:=by kernel_rfl
theorem aro:(Tryz.f14.params.all (Tryz.pinned.checked.prog.readableRec ·))=true:=by kernel_rfl
theorem arn:(namedTie Tryz.pinned.checked.prog Rows.zoneComparisonRow.named (OpenSpec.ofChange Rows.zoneComparisonSpec).bare.vars)=true:=by kernel_rfl
theorem arl:((Rows.zoneComparisonRow.stops == []))=true:=by kernel_rfl
theorem ark:((Tryz.pinned.checked.prog.stops == []))=true:=by kernel_rfl
theorem arj:((Rows.zoneComparisonRow.knobs == []))=true:=by kernel_rfl
theorem ari:((Tryz.pinned.checked.prog.stopKnobs == []))=true:=by kernel_rfl
theorem arh:((Rows.zoneComparisonRow.inPlace == Tryz.pinned.checked.prog.inPlace 14))=true:=by kernel_rfl
theorem apn:((Rows.zoneComparisonRow.unfollowed == Tryz.pinned.checked.prog.unfollowed 14))=true:=by kernel_rfl
theorem apm:((Rows.zoneComparisonRow.recurses == Tryz.pinned.checked.prog.recurses 14))=true:=by kernel_rfl
theorem apl:((Rows.zoneComparisonRow.named == Tryz.pinned.checked.prog.varsNamed 14))=true:=by kernel_rfl
theorem apk:((Rows.zoneComparisonRow.maps == (Tryz.f14.params.toList++(OpenSpec.ofChange Rows.zoneComparisonSpec).bare.plain.varTypes Tryz.pinned.checked.prog).any (Tryz.pinned.checked.prog.mapsRec ·)))=true:=by kernel_rfl
theorem apj:((Rows.zoneComparisonRow.ifaces == (Tryz.f14.params.toList++(OpenSpec.ofChange Rows.zoneComparisonSpec).bare.plain.varTypes Tryz.pinned.checked.prog).any (Tryz.pinned.checked.prog.ifacesRec ·)))=true:=by kernel_rfl
theorem api:((Rows.zoneComparisonRow.mapsOut == Tryz.pinned.checked.prog.mapsAmong Tryz.f14.resultTypes.toList))=true:=by kernel_rfl
theorem aph:((Rows.zoneComparisonRow.loops == (Tryz.f14.params.toList++(OpenSpec.ofChange Rows.zoneComparisonSpec).bare.plain.varTypes Tryz.pinned.checked.prog).any (Tryz.pinned.checked.prog.loopsFrom ·)))=true:=by kernel_rfl
theorem apg:((Rows.zoneComparisonRow.wideKeys == (Tryz.f14.params.toList++(OpenSpec.ofChange Rows.zoneComparisonSpec).bare.plain.varTypes Tryz.pinned.checked.prog++Tryz.f14.resultTypes.toList).any (Tryz.pinned.checked.prog.wideKeysFrom ·)))=true:=by kernel_rfl
theorem apf:((OpenSpec.ofChange Rows.zoneComparisonSpec).bare.vars.all (Tryz.pinned.checked.prog.varReadable ·))=true:=by kernel_rfl
theorem ape:(Tryz.f14.resultTypes.all (fun t=>Tryz.pinned.checked.prog.readableRec t&&decide (t < Tryz.pinned.checked.prog.types.size)))=true:=by kernel_rfl
theorem apd:((Rows.zoneComparisonRow.ifacesOut == Tryz.f14.resultTypes.toList.any (Tryz.pinned.checked.prog.ifacesRec ·)))=true:=by kernel_rfl
theorem apc:((Rows.zoneComparisonRow.loopsOut == Tryz.f14.resultTypes.toList.any (Tryz.pinned.checked.prog.loopsFrom ·)))=true:=by kernel_rfl
theorem apb:((Rows.zoneComparisonRow.plainKeys == Tryz.pinned.checked.prog.plainKeys))=true:=by kernel_rfl
theorem apa:(Rows.zoneComparisonRow.shortTexts.isNone)=true:=by kernel_rfl
theorem ap9:(Tryz.pinned.checked.prog.stopsHeard)=true:=by kernel_rfl
theorem ap8:(Tryz.pinned.checked.prog.mayEnter)=true:=by kernel_rfl
theorem ap7:((Rows.zoneComparisonRow.lifted == Tryz.pinned.checked.prog.liftsFinal))=true:=by kernel_rfl
theorem ap6:((Tryz.pinned.checked.prog.make == some Rows.zoneComparisonRow.make))=true:=by kernel_rfl
theorem ap5:((Rows.zoneComparisonRow.kinds == (if Rows.zoneComparisonRow.domain.isEmpty then [] else Tryz.f14.params.toList.map fun t=>match Tryz.pinned.checked.prog.underlying t with | some (.int k)=>some k | _=>none)))=true:=by kernel_rfl
theorem ap4:((Rows.zoneComparisonRow.pinned == Rows.zoneComparisonRow.pinnedBy))=true:=by kernel_rfl
theorem ap3:((Rows.zoneComparisonRow.veiled == (Tryz.f14.params.toList++(OpenSpec.ofChange Rows.zoneComparisonSpec).bare.plain.varTypes Tryz.pinned.checked.prog++Tryz.f14.resultTypes.toList).any (Tryz.pinned.checked.prog.veiledRec ·)))=true:=by kernel_rfl
theorem ap2:(Rows.zoneComparisonRow.veiledFits Tryz.pinned.checked.prog Tryz.f14.params.toList (Tryz.f14.params.toList++(OpenSpec.ofChange Rows.zoneComparisonSpec).bare.plain.varTypes Tryz.pinned.checked.prog++Tryz.f14.resultTypes.toList))=true:=by kernel_rfl
set_option maxRecDepth 100000 in
theorem facts:joinedFacts Tryz.pinned.checked.prog 14 Tryz.f14 (OpenSpec.ofChange Rows.zoneComparisonSpec).bare Rows.zoneComparisonRow=true:=(a1o (a1o (a1o (a1o (a1o (a1o (a1o (a1o (a1o (a1o (a1o (a1o (a1o (a1o (a1o (a1o (a1o (a1o (a1o (a1o (a1o (a1o (a1o (a1o (a1o (a1o (a1o (a1o (a1o (a1o (a1o ars arq) arp) aro) arn) arl) ark) arj) ari) arh) apn) apm) apl) apk) apj) api) aph) apg) apf) ape) apd) apc) apb) apa) ap9) ap8) ap7) ap6) ap5) ap4) ap3) ap2)
theorem said:Rows.ZoneComparisonSaid :=
 OpenClaim.holds_of_cond 14 Tryz.f14 rfl rfl rfl rfl rfl rfl rfl ⟨rfl,rfl,rfl,rfl,rfl⟩ rfl rfl rfl rfl rfl (by kernel_rfl) Tryz.func14 facts
  (of_decide_eq_true (by kernel_rfl)) (by unfold Func.isWrapper;first | (rw [if_pos (by decide +kernel)];kernel_rfl) | (rw [if_neg (by decide +kernel)];exact ⟨rfl,rfl⟩))
  (fun os started H enc _ F=>by rw [OpenClaim.pre_eq_preRow];exact lifted os started H enc F)
end Go.Proofs.YtppjleebbjipbaaGreat.zcompare
