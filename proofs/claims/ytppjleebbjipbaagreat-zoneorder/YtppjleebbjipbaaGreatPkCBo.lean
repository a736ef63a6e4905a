/-
  With GapEdge and FoldFirst or FoldSecond every local minute has exactly one instant, and a greater local minute has none that is earlier: the law answers true for every input and leaves its arguments as they were.
-/
import Derived.Test.YtppjleebbjipbaaGreatPkCAo
import Derived.WalkKit
import Derived.ProofKit
import Derived.OpenShut
import Derived.Carry
import Derived.Deep.DeepHandedRow
import Derived.Lib.LaidTab
import Derived.Test.YtppjleebbjipbaaGreatRows
set_option linter.unusedSectionVars false
set_option linter.constructorNameAsVariable false
set_option linter.unusedVariables false
set_option linter.unusedSimpArgs false
namespace Go.Proofs.YtppjleebbjipbaaGreat.zorder
open Go.ChangeShapes Go.WideShapes Go.ChangeAt Go.RowKit

theorem a1o {a b:Bool} (h:a=true) (g:b=true):(a&&b)=true:=by rw [h,g];rfl
theorem ars:(Rows.zoneOrderRow.wf (OpenSpec.ofChange (OpenSpec.ofChange Rows.zoneOrderSpec).bare))=true:=by kernel_rfl
theorem arq:(laidOutB Tryz.pinned.checked.prog)=true:=by kernel_rfl
theorem arp:(mapsRowed Tryz.pinned.checked.prog)=true:=by kernel_rfl
theorem aro:(Tryz.f8.params.all (Tryz.pinned.checked.prog.readableRec ·))=true:=by kernel_rfl
theorem arn:(namedTie Tryz.pinned.checked.prog Rows.zoneOrderRow.named (OpenSpec.ofChange Rows.zoneOrderSpec).bare.vars)=true:=by kernel_rfl
theorem arl:((Rows.zoneOrderRow.stops == []))=true:=by kernel_rfl
theorem ark:((Tryz.pinned.checked.prog.stops == []))=true:=by kernel_rfl
theorem arj:((Rows.zoneOrderRow.knobs == []))=true:=by kernel_rfl
theorem ari:((Tryz.pinned.checked.prog.stopKnobs == []))=true:=by kernel_rfl
theorem arh:((Rows.zoneOrderRow.inPlace == Tryz.pinned.checked.prog.inPlace 8))=true:=by kernel_rfl
theorem apn:((Rows.zoneOrderRow.unfollowed == Tryz.pinned.checked.prog.unfollowed 8))=true:=by kernel_rfl
theorem apm:((Rows.zoneOrderRow.recurses == Tryz.pinned.checked.prog.recurses 8))=true:=by kernel_rfl
theorem apl:((Rows.zoneOrderRow.named == Tryz.pinned.checked.prog.varsNamed 8))=true:=by kernel_rfl
theorem apk:((Rows.zoneOrderRow.maps == (Tryz.f8.params.toList++(OpenSpec.ofChange Rows.zoneOrderSpec).bare.plain.varTypes Tryz.pinned.checked.prog).any (Tryz.pinned.checked.prog.mapsRec ·)))=true:=by kernel_rfl
theorem apj:((Rows.zoneOrderRow.ifaces == (Tryz.f8.params.toList++(OpenSpec.ofChange Rows.zoneOrderSpec).bare.plain.varTypes Tryz.pinned.checked.prog).any (Tryz.pinned.checked.prog.ifacesRec ·)))=true:=by kernel_rfl
theorem api:((Rows.zoneOrderRow.mapsOut == Tryz.pinned.checked.prog.mapsAmong Tryz.f8.resultTypes.toList))=true:=by kernel_rfl
theorem aph:((Rows.zoneOrderRow.loops == (Tryz.f8.params.toList++(OpenSpec.ofChange Rows.zoneOrderSpec).bare.plain.varTypes Tryz.pinned.checked.prog).any (Tryz.pinned.checked.prog.loopsFrom ·)))=true:=by kernel_rfl
theorem apg:((Rows.zoneOrderRow.wideKeys == (Tryz.f8.params.toList++(OpenSpec.ofChange Rows.zoneOrderSpec).bare.plain.varTypes Tryz.pinned.checked.prog++Tryz.f8.resultTypes.toList).any (Tryz.pinned.checked.prog.wideKeysFrom ·)))=true:=by kernel_rfl
theorem apf:((OpenSpec.ofChange Rows.zoneOrderSpec).bare.vars.all (Tryz.pinned.checked.prog.varReadable ·))=true:=by kernel_rfl
theorem ape:(Tryz.f8.resultTypes.all (fun t=>Tryz.pinned.checked.prog.readableRec t&&decide (t < Tryz.pinned.checked.prog.types.size)))=true:=by kernel_rfl
theorem apd:((Rows.zoneOrderRow.ifacesOut == Tryz.f8.resultTypes.toList.any (Tryz.pinned.checked.prog.ifacesRec ·)))=true:=by kernel_rfl
theorem apc:((Rows.zoneOrderRow.loopsOut == Tryz.f8.resultTypes.toList.any (Tryz.pinned.checked.prog.loopsFrom ·)))=true:=by kernel_rfl
theorem apb:((Rows.zoneOrderRow.plainKeys == Tryz.pinned.checked.prog.plainKeys))=true:=by kernel_rfl
theorem apa:(Rows.zoneOrderRow.shortTexts.isNone)=true:=by kernel_rfl
theorem ap9:(Tryz.pinned.checked.prog.stopsHeard)=true:=by kernel_rfl
theorem ap8:(Tryz.pinned.checked.prog.mayEnter)=true:=by kernel_rfl
theorem ap7:((Rows.zoneOrderRow.lifted == Tryz.pinned.checked.prog.liftsFinal))=true:=by kernel_rfl
theorem ap6:((Tryz.pinned.checked.prog.make == some Rows.zoneOrderRow.make))=true:=by kernel_rfl
theorem ap5:((Rows.zoneOrderRow.kinds == (if Rows.zoneOrderRow.domain.isEmpty then [] else Tryz.f8.params.toList.map fun t=>match Tryz.pinned.checked.prog.underlying t with | some (.int k)=>some k | _=>none)))=true:=by kernel_rfl
theorem ap4:((Rows.zoneOrderRow.pinned == Rows.zoneOrderRow.pinnedBy))=true:=by kernel_rfl
theorem ap3:((Rows.zoneOrderRow.veiled == (Tryz.f8.params.toList++(OpenSpec.ofChange Rows.zoneOrderSpec).bare.plain.varTypes Tryz.pinned.checked.prog++Tryz.f8.resultTypes.toList).any (Tryz.pinned.checked.prog.veiledRec ·)))=true:=by kernel_rfl
theorem ap2:(Rows.zoneOrderRow.veiledFits Tryz.pinned.checked.prog Tryz.f8.params.toList (Tryz.f8.params.toList++(OpenSpec.ofChange Rows.zoneOrderSpec).bare.plain.varTypes Tryz.pinned.checked.prog++Tryz.f8.resultTypes.toList))=true:=by kernel_rfl
set_option maxRecDepth 100000 in
theorem facts:joinedFacts Tryz.pinned.checked.prog 8 Tryz.f8 (OpenSpec.ofChange Rows.zoneOrderSpec).bare Rows.zoneOrderRow=true:=(a1o (a1o (a1o (a1o (a1o (a1o (a1o (a1o (a1o (a1o (a1o (a1o (a1o (a1o (a1o (a1o (a1o (a1o (a1o (a1o (a1o (a1o (a1o (a1o (a1o (a1o (a1o (a1o (a1o (a1o (a1o ars arq) arp) aro) arn) arl) ark) arj) ari) arh) apn) apm) apl) apk) apj) api) aph) apg) apf) ape) apd) apc) apb) apa) ap9) ap8) ap7) ap6) ap5) ap4) ap3) ap2)
theorem said:Rows.ZoneOrderSaid :=
 OpenClaim.holds_of_cond 8 Tryz.f8 rfl rfl rfl rfl rfl rfl rfl ⟨rfl,rfl,rfl,rfl,rfl⟩ rfl rfl rfl rfl rfl (by kernel_rfl) Tryz.func8 facts
  (of_decide_eq_true (by kernel_rfl)) (by unfold Func.isWrapper;first | (rw [if_pos (by decide +kernel)];kernel_rfl) | (rw [if_neg (by decide +kernel)];exact ⟨rfl,rfl⟩))
  (fun os started H enc _ F=>by rw [OpenClaim.pre_eq_preRow];exact lifted os started H enc F)
end Go.Proofs.YtppjleebbjipbaaGreat.zorder
