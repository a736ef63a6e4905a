/-
  Days and Universal: every set is canonical, and tells its offset's days: the law answers true for every input and leaves its arguments as they were.
-/
import Derived.Test.YtppjleebbjipbaaGreatQkCAd
set_option linter.all false
namespace Go.Proofs.YtppjleebbjipbaaGreat.zdays
open Go.ChangeShapes Go.WideShapes Go.ChangeAt Go.RowKit

theorem a1o {a b:Bool} (h:a=true) (g:b=true):(a&&b)=true:=by rw [h,g];rfl
theorem ars:(Rows.zoneDaysRow.wf (OpenSpec.ofChange (OpenSpec.ofChange Rows.zoneDaysSpec).bare))=true:=by kernel_rfl
theorem arq:(laidOutB Tryz.pinned.checked.prog)=true:=by kernel_rfl
theorem arp:(mapsRowed Tryz.pinned.checked.prog)=true:=by kernel_rfl
theorem aro:(Tryz.f11.params.all (Tryz.pinned.checked.prog.readableRec ·))=true:=by kernel_rfl
theorem arn:(namedTie Tryz.pinned.checked.prog Rows.zoneDaysRow.named (OpenSpec.ofChange Rows.zoneDaysSpec).bare.vars)=true:=by kernel_rfl
theorem arl:((Rows.zoneDaysRow.stops == []))=true:=by kernel_rfl
theorem ark:((Tryz.pinned.checked.prog.stops == []))=true:=by kernel_rfl
theorem arj:((Rows.zoneDaysRow.knobs == []))=true:=by kernel_rfl
theorem ari:((Tryz.pinned.checked.prog.stopKnobs == []))=true:=by kernel_rfl
theorem arh:((Rows.zoneDaysRow.inPlace == Tryz.pinned.checked.prog.inPlace 11))=true:=by kernel_rfl
theorem apn:((Rows.zoneDaysRow.unfollowed == Tryz.pinned.checked.prog.unfollowed 11))=true:=by kernel_rfl
theorem apm:((Rows.zoneDaysRow.recurses == Tryz.pinned.checked.prog.recurses 11))=true:=by kernel_rfl
theorem apl:((Rows.zoneDaysRow.named == Tryz.pinned.checked.prog.varsNamed 11))=true:=by kernel_rfl
theorem apk:((Rows.zoneDaysRow.maps == (Tryz.f11.params.toList++(OpenSpec.ofChange Rows.zoneDaysSpec).bare.plain.varTypes Tryz.pinned.checked.prog).any (Tryz.pinned.checked.prog.mapsRec ·)))=true:=by kernel_rfl
theorem apj:((Rows.zoneDaysRow.ifaces == (Tryz.f11.params.toList++(OpenSpec.ofChange Rows.zoneDaysSpec).bare.plain.varTypes Tryz.pinned.checked.prog).any (Tryz.pinned.checked.prog.ifacesRec ·)))=true:=by kernel_rfl
theorem api:((Rows.zoneDaysRow.mapsOut == Tryz.pinned.checked.prog.mapsAmong Tryz.f11.resultTypes.toList))=true:=by kernel_rfl
theorem aph:((Rows.zoneDaysRow.loops == (Tryz.f11.params.toList++(OpenSpec.ofChange Rows.zoneDaysSpec).bare.plain.varTypes Tryz.pinned.checked.prog).any (Tryz.pinned.checked.prog.loopsFrom ·)))=true:=by kernel_rfl
theorem apg:((Rows.zoneDaysRow.wideKeys == (Tryz.f11.params.toList++(OpenSpec.ofChange Rows.zoneDaysSpec).bare.plain.varTypes Tryz.pinned.checked.prog++Tryz.f11.resultTypes.toList).any (Tryz.pinned.checked.prog.wideKeysFrom ·)))=true:=by kernel_rfl
theorem apf:((OpenSpec.ofChange Rows.zoneDaysSpec).bare.vars.all (Tryz.pinned.checked.prog.varReadable ·))=true:=by kernel_rfl
theorem ape:(Tryz.f11.resultTypes.all (fun t=>Tryz.pinned.checked.prog.readableRec t&&decide (t < Tryz.pinned.checked.prog.types.size)))=true:=by kernel_rfl
theorem apd:((Rows.zoneDaysRow.ifacesOut == Tryz.f11.resultTypes.toList.any (Tryz.pinned.checked.prog.ifacesRec ·)))=true:=by kernel_rfl
theorem apc:((Rows.zoneDaysRow.loopsOut == Tryz.f11.resultTypes.toList.any (Tryz.pinned.checked.prog.loopsFrom ·)))=true:=by kernel_rfl
theorem apb:((Rows.zoneDaysRow.plainKeys == Tryz.pinned.checked.prog.plainKeys))=true:=by kernel_rfl
theorem apa:(Rows.zoneDaysRow.shortTexts.isNone)=true:=by kernel_rfl
theorem ap9:(Tryz.pinned.checked.prog.stopsHeard)=true:=by kernel_rfl
theorem ap8:(Tryz.pinned.checked.prog.mayEnter)=true:=by kernel_rfl
theorem ap7:((Rows.zoneDaysRow.lifted == Tryz.pinned.checked.prog.liftsFinal))=true:=by kernel_rfl
theorem ap6:((Tryz.pinned.checked.prog.make == some Rows.zoneDaysRow.make))=true:=by kernel_rfl
theorem ap5:((Rows.zoneDaysRow.kinds == (if Rows.zoneDaysRow.domain.isEmpty then [] else Tryz.f11.params.toList.map fun t=>match Tryz.pinned.checked.prog.underlying t with | some (.int k)=>some k | _=>none)))=true:=by kernel_rfl
theorem ap4:((Rows.zoneDaysRow.pinned == Rows.zoneDaysRow.pinnedBy))=true:=by kernel_rfl
theorem ap3:((Rows.zoneDaysRow.veiled == (Tryz.f11.params.toList++(OpenSpec.ofChange Rows.zoneDaysSpec).bare.plain.varTypes Tryz.pinned.checked.prog++Tryz.f11.resultTypes.toList).any (Tryz.pinned.checked.prog.veiledRec ·)))=true:=by kernel_rfl
theorem ap2:(Rows.zoneDaysRow.veiledFits Tryz.pinned.checked.prog Tryz.f11.params.toList (Tryz.f11.params.toList++(OpenSpec.ofChange Rows.zoneDaysSpec).bare.plain.varTypes Tryz.pinned.checked.prog++Tryz.f11.resultTypes.toList))=true:=by kernel_rfl
set_option maxRecDepth 100000 in
theorem facts:joinedFacts Tryz.pinned.checked.prog 11 Tryz.f11 (OpenSpec.ofChange Rows.zoneDaysSpec).bare Rows.zoneDaysRow=true:=(a1o (a1o (a1o (a1o (a1o (a1o (a1o (a1o (a1o (a1o (a1o (a1o (a1o (a1o (a1o (a1o (a1o (a1o (a1o (a1o (a1o (a1o (a1o (a1o (a1o (a1o (a1o (a1o (a1o (a1o (a1o ars arq) arp) aro) arn) arl) ark) arj) ari) arh) apn) apm) apl) apk) apj) api) aph) apg) apf) ape) apd) apc) apb) apa) ap9) ap8) ap7) ap6) ap5) ap4) ap3) ap2)
theorem said:Rows.ZoneDaysSaid :=
 OpenClaim.holds_of_cond 11 Tryz.f11 rfl rfl rfl rfl rfl rfl rfl ⟨rfl,rfl,rfl,rfl,rfl⟩ rfl rfl rfl rfl rfl (by kernel_rfl) Tryz.func11 facts
  (wV (by kernel_rfl)) (by unfold Func.isWrapper;first | (rw [zQ (by decide +kernel)];kernel_rfl) | (rw [zS (by decide +kernel)];exact ⟨rfl,rfl⟩))
  (fun os started H enc _ F=>by rw [OpenClaim.pre_eq_preRow];exact lifted os started H enc F)
end Go.Proofs.YtppjleebbjipbaaGreat.zdays
