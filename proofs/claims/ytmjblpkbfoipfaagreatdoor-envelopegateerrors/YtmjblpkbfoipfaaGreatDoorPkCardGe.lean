/-
  An envelope that a gate refuses leaves no trace: the law answers true for every input and leaves its arguments as they were. Conditions: the package variable digest.rounds holds what the program's text lays (the card ties it).
-/
import Derived.Test.YtmjblpkbfoipfaaGreatDoorPkWalke
import Derived.Test.YtmjblpkbfoipfaaGreatDoorPkGdd
import Derived.Test.YtmjblpkbfoipfaaGreatDoorCards
import Derived.Test.YtmjblpkbfoipfaaGreatDoorTie
import Derived.WalkKit
import Derived.ProofKit
import Derived.OpenShut
import Derived.Carry
import Derived.Deep.DeepHandedRow
import Derived.Lib.LaidTab
set_option linter.unusedSectionVars false
set_option linter.constructorNameAsVariable false
set_option linter.unusedVariables false
set_option linter.unusedSimpArgs false
namespace Go.Proofs.YtmjblpkbfoipfaaGreatDoor.errors
open Go.ChangeShapes Go.WideShapes Go.ChangeAt Go.RowKit

theorem own : ownKnob Tryz.prog.godebug = none := by kernel_rfl
theorem gTab : Tryz.prog.globalNamed "kalends/digest.rounds" = some 0 := by kernel_rfl
theorem gTabType : (Tryz.prog.globals[0]?).map (·.type) = some 123 := by kernel_rfl
theorem cellsTab : Tryz.prog.cellsOf 123 = 64 := by kernel_rfl
theorem cellsU32 : Tryz.prog.cellsOf 100 = 1 := by kernel_rfl
theorem laidOut : laidOutB Tryz.prog = true := by kernel_rfl
def zs : List Int := Sha.K.map fun (n : Nat) => (n : Int)
theorem tab_eq : Rows.laid_kalends_digest_rounds (H := Unit) = Lib.tabData .u32 zs := by kernel_rfl
theorem table {W : World} (h : laidMetH Tryz.prog Rows.envelopeGateErrorsRow.laid W) : Lib.TabIs Tryz.prog W "kalends/digest.rounds" .u32 zs := by
  have h2 : laidMetH Tryz.prog [("kalends/digest.rounds", Rows.laid_kalends_digest_rounds)] W := h
  rw [tab_eq] at h2
  exact Lib.tabIs_of_head (rest := []) gTab gTabType Tryz.underlying123 Tryz.underlying100 cellsU32 cellsTab h2
theorem start0 : ((begin Tryz.prog (fun _ _ => 0) default).world.heap[0]?.bind Obj.row?).map (·.2) = some 123 := by kernel_rfl
theorem tabW {W : World} (h : laidMetH Tryz.prog Rows.envelopeGateErrorsRow.laid W) (hs : W.ShapedOpen Tryz.prog) : CE.V.TabW W := by
  obtain ⟨⟨zero, t⟩, hz, ht⟩ := Option.map_eq_some_iff.1 start0
  dsimp only at ht
  subst ht
  obtain ⟨cs, h0, _, _⟩ := hs.1 0 zero _ (of_decide_eq_true (by kernel_rfl)) hz
  have hv : W.var? Tryz.prog "kalends/digest.rounds" = some (zs.map fun z => Value.int .u32 z).toArray := table h
  unfold World.var? at hv
  rw [gTab] at hv
  simp only [Option.bind_some, h0, Option.some.injEq] at hv
  subst hv
  refine ⟨_, h0, rfl, fun i hi => ?_⟩
  have hK : Sha.K.length = 64 := rfl
  simp only [zs, List.getElem?_toArray, List.getElem?_map]
  rw [List.getD_eq_getElem?_getD, List.getElem?_eq_getElem (by omega)]
  rfl
section
variable {H : Type} {enc : TypeId × Value → H} {P : Program}
theorem post_low {f : Func} {s : ChangeSpec} {apart fresh handsOn again : Bool} {W W' : World} {args : Array Value} {v : Value} {ds gs : List (DataW H)} {before : List MemPlace}
    (hW : DataW.Whole enc P f.params.toList s.vars apart W args.toList ds gs before) (hb : Below W.heap.size W W')
    (hres : ∀ (b : Nat) (sp : Nat → Bool) (hd : Bool), DataW.TrodAll enc P W' b sp hd f.resultTypes.toList (v.resultList f.resultTypes.size) (s.fn H (ds ++ gs)).results [])
    (hargs : ∀ sp : Nat → Bool, (∀ p ∈ before, sp p.block = true) → DataW.TrodAll enc P W' 0 sp true f.params.toList args.toList (s.fn H (ds ++ gs)).args before)
    (hvars : ∀ sp : Nat → Bool, DataW.TrodVars enc P W' sp s.vars (s.fn H (ds ++ gs)).vars [])
    (hok : ∀ (j : Nat) (t : TypeId) (r : Value), f.resultTypes[j]? = some t → (v.resultList f.resultTypes.size)[j]? = some r → Value.okWide P W' .any 0 t r) :
    s.post enc P f apart fresh handsOn again W args v W' := by
  have low : ∀ p ∈ before, p.block < W.heap.size := fun p hp => hW.lt p hp
  have here : ∀ p ∈ before, (fun b => decide (b < W.heap.size)) p.block = true := fun p hp => decide_eq_true (low p hp)
  have all := trodAll_append (hargs (fun _ => true) (fun _ _ => rfl)) (hres 0 (fun _ => true) true)
  refine ⟨ds, gs, before, [], before, [], hW, hres _ _ _, hargs _ here, hvars _, World.keptBut_mono (fun p hp => ⟨hp, .inr (.inl hp)⟩) (hb.frame (· ∈ before)), fun _ => ?_⟩
  obtain ⟨_, _, _, _, _, hz, hn⟩ := hW
  refine ⟨hok, _, _, ([] ++ before) ++ [], ⟨[] ++ before, [], all, hvars _, rfl, fun b off hp => ?_, fun ha => by simpa using hn ha⟩, fun p hp _ => by simpa using hp⟩
  have hin : MemPlace.cell b off ∈ before := by simpa using hp
  exact (hb.frozen (low _ hin)).trans (hz b off hin)
end
set_option maxRecDepth 100000 in
theorem contract (H : Type) (enc : TypeId × Value → H) (W : World) (base : Nat) (args : Array Value) (ds gs : List (DataW H)) (before : List MemPlace)
    (hval : ∀ (j : Nat) t v, Tryz.f5.params[j]? = some t → args[j]? = some v → Value.okWide Tryz.prog W .any base t v)
    (hW : DataW.Whole enc Tryz.prog Tryz.f5.params.toList Rows.envelopeGateErrorsSpec.vars false W args.toList ds gs before) (hL : laidMetH Tryz.prog Rows.envelopeGateErrorsRow.laid W) (hS : W.ShapedOpen Tryz.prog) :
    Calls Tryz.prog 5 args W fun e W' => ∃ v, e = .returned v ∧ Rows.envelopeGateErrorsSpec.post enc Tryz.prog Tryz.f5 false true false false W args v W' := by
  have hW' := hW
  obtain ⟨p, q, hA0, hV, rfl, hfz, hnd⟩ := hW
  have hA : DataW.TrodAll enc Tryz.prog W 0 (fun _ => true) true Tryz.f5.params.toList args.toList ds p := hA0
  rw [Tryz.params5] at hA hval
  obtain ⟨v0, vs0, d0, ds0, p0, q0, hargs, rfl, rfl, h0, r0⟩ := trodAll_cons hA
  obtain ⟨v1, vs1, d1, ds1, p1, q1, hvs, rfl, rfl, h1, r1⟩ := trodAll_cons r0
  obtain ⟨v2, vs2, d2, ds2, p2, q2, hvs2, rfl, rfl, h2, r2⟩ := trodAll_cons r1
  obtain ⟨rfl, rfl, rfl⟩ := trodAll_nil r2
  subst hvs2
  subst hvs
  obtain rfl : args = #[v0, v1, v2] := by cases args; simp_all
  obtain ⟨rfl, rfl⟩ := trodVars_none hV
  obtain ⟨n0, rfl, rfl, rfl, hw0⟩ := open_int Tryz.underlying5 (hval 0 5 v0 rfl rfl) h0
  have lim : ∀ n : Int, (Lit.int .u8 n).wf = true → ∃ u : Nat, n = (u : Int) ∧ u < 256 := fun n hn => by
    simp only [Lit.wf, Bool.and_eq_true, decide_eq_true_eq] at hn
    have hn : 0 ≤ n ∧ n ≤ 255 := hn
    exact ⟨n.toNat, by omega, by omega⟩
  obtain ⟨s, rfl, hs⟩ := lim n0 hw0
  have hd2 : ∃ e : Deed, e.Ok ∧ v2 = e.val := by
    obtain ⟨fuel, hf⟩ := h2
    obtain ⟨cs, rfl, _⟩ := okWide_struct Tryz.underlying40 (hval 2 40 v2 rfl rfl)
    obtain ⟨e, he, hv⟩ := deed_of hf
    refine ⟨e, he, ?_⟩
    rw [← hv]
    simp [Value.cells]
  obtain ⟨e2, he2, hv2⟩ := hd2
  obtain ⟨n, dsl, hD⟩ := deeds_of (hval 1 22 v1 rfl rfl) h1
  clear hA0
  have walk : Calls Tryz.prog 5 #[.int .u8 (s : Int), v1, v2] W fun e w' => e = .returned (.bool true) ∧ Below W.heap.size W w' := by
    rw [hv2]
    exact errors_calls s hs dsl n v1 e2 he2 W (tabW hL hS) hD
  refine walk.mono fun e W' ⟨he, hg⟩ => ?_
  subst he
  refine ⟨_, rfl, post_low hW' hg (fun _ _ _ => trodAll_cons_mk (shut_bool Tryz.underlying4 _) trodAll_mk0) (fun sp hsp => ?_) (fun _ => rfl) (ok_one (by kernel_rfl) rfl (okWide_bool_mk Tryz.underlying4 _))⟩
  have hlt : ∀ x ∈ p1, x.block < W.heap.size := fun x hx => hW'.lt x (by simp [hx])
  have k1 : DataW.Trod enc Tryz.prog W' 0 sp true 22 v1 d1 p1 := WideElems.Trod_stays laidOut (by kernel_rfl) (of_decide_eq_true (by kernel_rfl)) h1 (fun x hx => hg.same (hlt x hx)) (fun x hx => hsp x (by simp [hx]))
  have hlt2 : ∀ x ∈ p2, x.block < W.heap.size := fun x hx => hW'.lt x (by simp [hx])
  have k2 : DataW.Trod enc Tryz.prog W' 0 sp true 40 v2 d2 p2 := WideElems.Trod_stays laidOut (by kernel_rfl) (of_decide_eq_true (by kernel_rfl)) h2 (fun x hx => hg.same (hlt2 x hx)) (fun x hx => hsp x (by simp [hx]))
  have k := trodAll_cons_mk (shut_int (enc := enc) (w := W') (base := 0) (spare := sp) (held := true) Tryz.underlying5 hw0) (trodAll_cons_mk k1 (trodAll_cons_mk k2 trodAll_mk0))
  rw [Tryz.params5]
  show DataW.TrodAll enc Tryz.prog W' 0 sp true [5, 22, 40] [.int .u8 (s : Int), v1, v2] [.lit (.int .u8 (s : Int)), d1, d2] _
  simpa using k
noncomputable def laidWorld (os : Os) : World :=
  { World.holding Tryz.prog os ⟨#[], #[], []⟩ with heap := (World.holding Tryz.prog os ⟨#[], #[], []⟩).heap.modify 0 fun
      | .cells _ t frozen => .cells kRow t frozen
      | o => o }
theorem laid_met (os : Os) : laidMet Tryz.prog Rows.envelopeGateErrorsRow.laid ((laidWorld os).forCall (fun _ _ => 0) ⟨#[], #[.int .u8 0, .slice none 0 0, .agg #[.int .u8 0, .int .u8 0, .int .u16 0, .bool false, .bool false]], []⟩).memory :=
  laidMet_of_run' 8 (by kernel_rfl) (by kernel_rfl)
theorem reads (os : Os) {H : Type} (enc : TypeId × Value → H) : ∃ places, DataW.whole enc Tryz.prog ((laidWorld os).forCall (fun _ _ => 0) ⟨#[], #[.int .u8 0, .slice none 0 0, .agg #[.int .u8 0, .int .u8 0, .int .u16 0, .bool false, .bool false]], []⟩).memory Tryz.f5.params.toList Rows.envelopeGateErrorsSpec.vars false #[Value.int .u8 0, Value.slice none 0 0, Value.agg #[Value.int .u8 0, Value.int .u8 0, Value.int .u16 0, Value.bool false, Value.bool false]].toList 8 = some ([.lit (.int .u8 0), .nil, .agg [.lit (.int .u8 0), .lit (.int .u8 0), .lit (.int .u16 0), .lit (.bool false), .lit (.bool false)]], [], places) :=
  ⟨[], by kernel_rfl⟩
set_option maxRecDepth 100000 in
theorem lifted (os : Os) (started : os.Started) (H : Type) (enc : TypeId × Value → H) (F : Stop.Interp) :
    ReturnsInHanded {} Tryz.checked os 5 .any ((OpenSpec.ofChange Rows.envelopeGateErrorsSpec).preRow enc Tryz.prog Tryz.f5 Rows.envelopeGateErrorsRow.domain false Rows.envelopeGateErrorsRow.laid) (((OpenSpec.ofChange Rows.envelopeGateErrorsSpec).at F).post enc Tryz.prog Tryz.f5 false true false false) := by
  obtain ⟨places, hx⟩ := reads os enc
  refine returnsInHanded_of_row (C := Tryz.checked) (s := OpenSpec.ofChange Rows.envelopeGateErrorsSpec) own started (by kernel_rfl) Tryz.func5
    (witness_row_at (enc := enc) (C := Tryz.checked) false (laidWorld os) #[.int .u8 0, .slice none 0 0, .agg #[.int .u8 0, .int .u8 0, .int .u16 0, .bool false, .bool false]] rfl (by kernel_rfl) (by kernel_rfl) (by kernel_rfl)
      (OpenSpec.preRow_of_cond 8 hx (by kernel_rfl) (fun k hk => by cases hk) (by kernel_rfl) (laid_met os))) ?_
  intro W base args ds gs before hval hW _ _ _ hL hS _
  exact contract H enc W base args ds gs before hval hW hL hS
theorem said : Rows.EnvelopeGateErrorsSaid :=
  OpenClaim.holds_of_cond 5 Tryz.f5 rfl rfl rfl rfl rfl rfl rfl ⟨rfl, rfl, rfl, rfl, rfl⟩ rfl rfl rfl rfl rfl (by kernel_rfl) Tryz.func5 (by kernel_rfl)
    (of_decide_eq_true (by kernel_rfl)) (by unfold Func.isWrapper; first | (rw [if_pos (by decide +kernel)]; kernel_rfl) | (rw [if_neg (by decide +kernel)]; exact ⟨rfl, rfl⟩))
    (fun os started H enc _ F => by rw [OpenClaim.pre_eq_preRow]; exact lifted os started H enc F)
theorem plain (f : FuncId) (fn : Func) (hf : Tryz.pinned.checked.prog.funcNamed "kalends/kalendslaw21.EnvelopeGateErrors" = some f) (hfn : Tryz.pinned.checked.prog.funcs[f]? = some fn) :
    true = Tryz.pinned.checked.prog.looks [] ∧ ∀ (j : Nat) t, fn.params[j]? = some t → Tryz.pinned.checked.prog.wantsStandIn t = false := by
  obtain rfl : f = 5 := Option.some.inj ((show Tryz.prog.funcNamed "kalends/kalendslaw21.EnvelopeGateErrors" = some 5 by kernel_rfl).symm.trans hf) |>.symm
  obtain rfl : fn = Tryz.f5 := (Option.some.inj (Tryz.func5.symm.trans hfn)).symm
  refine ⟨by kernel_rfl, fun j t ht => ?_⟩
  rw [Tryz.params5] at ht
  have hm : t ∈ [5, 22, 40] := by simpa using Array.mem_of_getElem? ht
  have hall : ([5, 22, 40].all fun u => !Tryz.prog.wantsStandIn u) = true := by kernel_rfl
  exact (show Tryz.prog.wantsStandIn t = false by simpa using List.all_eq_true.1 hall t hm)
theorem card : Rows.EnvelopeGateErrorsCardSaid :=
  Claim7.holds_tied_plain_at .later [] _ _ _ _ said (fun _ h => by cases h) (by kernel_rfl) (fun _ h => by cases h) envelopeGateErrors_row_tie rfl ⟨rfl, rfl⟩ (by kernel_rfl) rfl plain (by kernel_rfl)
end Go.Proofs.YtmjblpkbfoipfaaGreatDoor.errors
