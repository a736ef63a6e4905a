/-
  Whatever bytes Read accepts are the encoding of the envelope that it returns, and a shorter beginning of a header is not accepted: the law answers true for every input and leaves its arguments as they were. Conditions: the package variable digest.rounds holds what the program's text lays (the card ties it).
-/
import Derived.Test.YtgejmgkjhoaamaaGreatDoorPkEnvThree
import Derived.Test.YtgejmgkjhoaamaaGreatDoorPkSan
import Derived.Test.YtgejmgkjhoaamaaGreatDoorCards
import Derived.Test.YtgejmgkjhoaamaaGreatDoorTie
import Derived.WalkKit
import Derived.ProofKit
import Derived.OpenShut
import Derived.Carry
import Derived.Deep.DeepHandedRow
import Derived.Lib.LaidTab
set_option linter.unusedSectionVars false
set_option linter.constructorNameAsVariable false
set_option linter.unusedVariables false
set_option linter.unusedSimpArgs false
namespace Go.Proofs.YtgejmgkjhoaamaaGreatDoor.encoding
open Go.ChangeShapes Go.WideShapes Go.ChangeAt Go.RowKit

theorem own : ownKnob Tryz.prog.godebug = none := by kernel_rfl
theorem gTab : Tryz.prog.globalNamed "kalends/digest.rounds" = some 0 := by kernel_rfl
theorem gTabType : (Tryz.prog.globals[0]?).map (·.type) = some 171 := by kernel_rfl
theorem cellsTab : Tryz.prog.cellsOf 171 = 64 := by kernel_rfl
theorem cellsU32 : Tryz.prog.cellsOf 137 = 1 := by kernel_rfl
theorem cellsU8 : Tryz.prog.cellsOf 5 = 1 := by kernel_rfl
theorem laidOut : laidOutB Tryz.prog = true := by kernel_rfl
def zs : List Int := Sha.K.map fun (n : Nat) => (n : Int)
theorem tab_eq : Rows.laid_kalends_digest_rounds (H := Unit) = Lib.tabData .u32 zs := by kernel_rfl
/-- What the row's list gives: the table's cells. -/
theorem table {W : World} (h : laidMetH Tryz.prog Rows.envelopeEncodingRow.laid W) : Lib.TabIs Tryz.prog W "kalends/digest.rounds" .u32 zs := by
  have h2 : laidMetH Tryz.prog [("kalends/digest.rounds", Rows.laid_kalends_digest_rounds)] W := h
  rw [tab_eq] at h2
  exact Lib.tabIs_of_head (rest := []) gTab gTabType Tryz.underlying171 Tryz.underlying137 cellsU32 cellsTab h2
theorem start0 : ((begin Tryz.prog (fun _ _ => 0) default).world.heap[0]?.bind Obj.row?).map (·.2) = some 171 := by kernel_rfl
theorem tabW {W : World} (h : laidMetH Tryz.prog Rows.envelopeEncodingRow.laid W) (hs : W.ShapedOpen Tryz.prog) : CE.V.TabW W := by
  obtain ⟨⟨zero, t⟩, hz, ht⟩ := Option.map_eq_some_iff.1 start0
  dsimp only at ht
  subst ht
  obtain ⟨cs, h0, _, _⟩ := hs.1 0 zero _ (of_decide_eq_true (by kernel_rfl)) hz
  have hv : W.var? Tryz.prog "kalends/digest.rounds" = some (zs.map fun z => Value.int .u32 z).toArray := table h
  unfold World.var? at hv
  rw [gTab] at hv
  simp only [Option.bind_some, h0, Option.some.injEq] at hv
  subst hv
  refine ⟨_, h0, rfl, fun i hi => ?_⟩
  have hK : Sha.K.length = 64 := rfl
  simp only [zs, List.getElem?_toArray, List.getElem?_map]
  rw [List.getD_eq_getElem?_getD, List.getElem?_eq_getElem (by omega)]
  rfl
section
variable {H : Type} {enc : TypeId × Value → H} {P : Program}
/-- The row's end, of a call that leaves what was there as it was. -/
theorem post_low {f : Func} {s : ChangeSpec} {apart fresh handsOn again : Bool} {W W' : World} {args : Array Value} {v : Value} {ds gs : List (DataW H)} {before : List MemPlace}
    (hW : DataW.Whole enc P f.params.toList s.vars apart W args.toList ds gs before) (hb : Below W.heap.size W W')
    (hres : ∀ (b : Nat) (sp : Nat → Bool) (hd : Bool), DataW.TrodAll enc P W' b sp hd f.resultTypes.toList (v.resultList f.resultTypes.size) (s.fn H (ds ++ gs)).results [])
    (hargs : ∀ sp : Nat → Bool, (∀ p ∈ before, sp p.block = true) → DataW.TrodAll enc P W' 0 sp true f.params.toList args.toList (s.fn H (ds ++ gs)).args before)
    (hvars : ∀ sp : Nat → Bool, DataW.TrodVars enc P W' sp s.vars (s.fn H (ds ++ gs)).vars [])
    (hok : ∀ (j : Nat) (t : TypeId) (r : Value), f.resultTypes[j]? = some t → (v.resultList f.resultTypes.size)[j]? = some r → Value.okWide P W' .any 0 t r) :
    s.post enc P f apart fresh handsOn again W args v W' := by
  have low : ∀ p ∈ before, p.block < W.heap.size := fun p hp => hW.lt p hp
  have here : ∀ p ∈ before, (fun b => decide (b < W.heap.size)) p.block = true := fun p hp => decide_eq_true (low p hp)
  have all := trodAll_append (hargs (fun _ => true) (fun _ _ => rfl)) (hres 0 (fun _ => true) true)
  refine ⟨ds, gs, before, [], before, [], hW, hres _ _ _, hargs _ here, hvars _, World.keptBut_mono (fun p hp => ⟨hp, .inr (.inl hp)⟩) (hb.frame (· ∈ before)), fun _ => ?_⟩
  obtain ⟨_, _, _, _, _, hz, hn⟩ := hW
  refine ⟨hok, _, _, ([] ++ before) ++ [], ⟨[] ++ before, [], all, hvars _, rfl, fun b off hp => ?_, fun ha => by simpa using hn ha⟩, fun p hp _ => by simpa using hp⟩
  have hin : MemPlace.cell b off ∈ before := by simpa using hp
  exact (hb.frozen (low _ hin)).trans (hz b off hin)
end
set_option maxRecDepth 100000 in
/-- What the walks give, for every argument and every world that holds the table. -/
theorem contract (H : Type) (enc : TypeId × Value → H) (W : World) (base : Nat) (args : Array Value) (ds gs : List (DataW H)) (before : List MemPlace)
    (hval : ∀ (j : Nat) t v, Tryz.f3.params[j]? = some t → args[j]? = some v → Value.okWide Tryz.prog W .any base t v)
    (hW : DataW.Whole enc Tryz.prog Tryz.f3.params.toList Rows.envelopeEncodingSpec.vars false W args.toList ds gs before) (hL : laidMetH Tryz.prog Rows.envelopeEncodingRow.laid W) (hS : W.ShapedOpen Tryz.prog) :
    Calls Tryz.prog 3 args W fun e W' => ∃ v, e = .returned v ∧ Rows.envelopeEncodingSpec.post enc Tryz.prog Tryz.f3 false true false false W args v W' := by
  have hW' := hW
  obtain ⟨p, q, hA0, hV, rfl, hfz, hnd⟩ := hW
  have hA : DataW.TrodAll enc Tryz.prog W 0 (fun _ => true) true Tryz.f3.params.toList args.toList ds p := hA0
  rw [Tryz.params3] at hA hval
  obtain ⟨v0, vs0, d0, ds0, p0, q0, hargs, rfl, rfl, h0, r0⟩ := trodAll_cons hA
  obtain ⟨v1, vs1, d1, ds1, p1, q1, hvs, rfl, rfl, h1, r1⟩ := trodAll_cons r0
  obtain ⟨rfl, rfl, rfl⟩ := trodAll_nil r1
  subst hvs
  obtain rfl : args = #[v0, v1] := by cases args; simp_all
  obtain ⟨rfl, rfl⟩ := trodVars_none hV
  obtain ⟨cut, rfl, rfl, rfl, hwf⟩ := open_int Tryz.underlying5 (hval 1 5 v1 rfl rfl) h1
  have hcut : 0 ≤ cut ∧ cut ≤ 255 := by
    simp only [Lit.wf, Bool.and_eq_true, decide_eq_true_eq] at hwf
    exact hwf
  obtain ⟨u, rfl⟩ : ∃ u : Nat, cut = (u : Int) := ⟨cut.toNat, by omega⟩
  have hu : u < 256 := by omega
  clear hA0
  have san := CE.V.sanity_calls W (tabW hL hS)
  have walk : Calls Tryz.prog 3 #[v0, .int .u8 (u : Int)] W fun e w' => e = .returned (.bool true) ∧ Below W.heap.size W w' := by
    obtain ⟨fuel, hf⟩ := h0
    obtain ⟨a1, len, cap, rfl⟩ := okWide_slice Tryz.underlying22 (hval 0 22 v0 rfl rfl)
    rcases open_ints Tryz.underlying22 Tryz.underlying5 cellsU8 hf with ⟨hcs, hx⟩ | ⟨a, len', cap', xs, hcs, _, hl, hm, hz, hx, hcell, hwz⟩
    · simp [Value.cells] at hcs
      obtain ⟨rfl, rfl, rfl⟩ := hcs
      exact law_short none 0 0 (by omega) (by omega) u hu W san
    · simp [Value.cells] at hcs
      obtain ⟨rfl, rfl, rfl⟩ := hcs
      simp only [if_true] at hz
      by_cases hlen : len < 56
      · exact law_short (some a) len cap hlen hl u hu W san
      · obtain ⟨ab, ao, spot⟩ := a
        have hspot : spot = none := by simpa [Addr.add] using World.cell?_spot (hcell 0 (by omega))
        subst hspot
        obtain ⟨m, hm2⟩ : ∃ m, m = min len 300 := ⟨_, rfl⟩
        have hmm : (len ≤ 300 ∧ m = len) ∨ (300 < len ∧ m = 300) := by omega
        obtain ⟨l, hlm, hlx⟩ : ∃ l : List UInt8, l.length = m ∧ ∀ j, j < m → xs.getD j 0 = ((l.getD j 0).toNat : Int) := by
          refine ⟨(xs.take m).map fun n => UInt8.ofNat n.toNat, by simp; omega, fun j hj => ?_⟩
          have hb := range_u8 hwz j
          simp only [List.getD_eq_getElem?_getD, List.getElem?_map, List.getElem?_take, if_pos hj] at hb ⊢
          rw [List.getElem?_eq_getElem (by omega)] at hb ⊢
          simp only [Option.map_some, Option.getD_some, UInt8.toNat_ofNat'] at hb ⊢
          omega
        have hc : ∀ j, j < m → W.cell? ⟨ab, ao + j, none⟩ = some (B8 (l.getD j 0).toNat) := fun j hj => by
          have := hcell j (by omega)
          rw [Addr.add_lit, hlx j hj] at this
          exact this
        have hb : ab < W.heap.size := by
          have h := hc 0 (by omega)
          unfold World.cell? at h
          rcases Nat.lt_or_ge ab W.heap.size with h1 | h1
          · exact h1
          · rw [Array.getElem?_eq_none h1] at h; cases h
        cases hfm : formedL l with
        | true => exact law_good ab ao len cap m l hlm hmm (by omega) hl u hu W hc hb hfm san
        | false => exact law_bad ab ao len cap m l hlm hmm (by omega) hl u hu W hc hb hfm san
  refine walk.mono fun e W' ⟨he, hg⟩ => ?_
  subst he
  refine ⟨_, rfl, post_low hW' hg (fun _ _ _ => trodAll_cons_mk (shut_bool Tryz.underlying4 _) trodAll_mk0) (fun sp hsp => ?_) (fun _ => rfl) (ok_one (by kernel_rfl) rfl (okWide_bool_mk Tryz.underlying4 _))⟩
  have hlt : ∀ x ∈ p0, x.block < W.heap.size := fun x hx => hW'.lt x (by simp [hx])
  have k0 : DataW.Trod enc Tryz.prog W' 0 sp true 22 v0 d0 p0 := WideElems.Trod_stays laidOut (by kernel_rfl) (of_decide_eq_true (by kernel_rfl)) h0 (fun x hx => hg.same (hlt x hx)) (fun x hx => hsp x (by simp [hx]))
  have k := trodAll_cons_mk k0 (trodAll_cons_mk (shut_int (enc := enc) (w := W') (base := 0) (spare := sp) (held := true) Tryz.underlying5 hwf) trodAll_mk0)
  rw [Tryz.params3]
  show DataW.TrodAll enc Tryz.prog W' 0 sp true [22, 5] [v0, .int .u8 (u : Int)] [d0, .lit (.int .u8 (u : Int))] _
  simpa using k
/-- A world for the witness. -/
noncomputable def laidWorld (os : Os) : World :=
  { World.holding Tryz.prog os ⟨#[], #[], []⟩ with heap := (World.holding Tryz.prog os ⟨#[], #[], []⟩).heap.modify 0 fun
      | .cells _ t frozen => .cells kRow t frozen
      | o => o }
theorem laid_met (os : Os) : laidMet Tryz.prog Rows.envelopeEncodingRow.laid ((laidWorld os).forCall (fun _ _ => 0) ⟨#[], #[.slice none 0 0, .int .u8 0], []⟩).memory :=
  laidMet_of_run' 8 (by kernel_rfl) (by kernel_rfl)
theorem reads (os : Os) {H : Type} (enc : TypeId × Value → H) : ∃ places, DataW.whole enc Tryz.prog ((laidWorld os).forCall (fun _ _ => 0) ⟨#[], #[.slice none 0 0, .int .u8 0], []⟩).memory Tryz.f3.params.toList Rows.envelopeEncodingSpec.vars false #[Value.slice none 0 0, Value.int .u8 0].toList 8 = some ([.nil, .lit (.int .u8 0)], [], places) :=
  ⟨[], by kernel_rfl⟩
set_option maxRecDepth 100000 in
theorem lifted (os : Os) (started : os.Started) (H : Type) (enc : TypeId × Value → H) (F : Stop.Interp) :
    ReturnsInHanded {} Tryz.checked os 3 .any ((OpenSpec.ofChange Rows.envelopeEncodingSpec).preRow enc Tryz.prog Tryz.f3 Rows.envelopeEncodingRow.domain false Rows.envelopeEncodingRow.laid) (((OpenSpec.ofChange Rows.envelopeEncodingSpec).at F).post enc Tryz.prog Tryz.f3 false true false false) := by
  obtain ⟨places, hx⟩ := reads os enc
  refine returnsInHanded_of_row (C := Tryz.checked) (s := OpenSpec.ofChange Rows.envelopeEncodingSpec) own started (by kernel_rfl) Tryz.func3
    (witness_row_at (enc := enc) (C := Tryz.checked) false (laidWorld os) #[.slice none 0 0, .int .u8 0] rfl (by kernel_rfl) (by kernel_rfl) (by kernel_rfl)
      (OpenSpec.preRow_of_cond 8 hx (by kernel_rfl) (fun k hk => by cases hk) (by kernel_rfl) (laid_met os))) ?_
  intro W base args ds gs before hval hW _ _ _ hL hS _
  exact contract H enc W base args ds gs before hval hW hL hS
theorem said : Rows.EnvelopeEncodingSaid :=
  OpenClaim.holds_of_cond 3 Tryz.f3 rfl rfl rfl rfl rfl rfl rfl ⟨rfl, rfl, rfl, rfl, rfl⟩ rfl rfl rfl rfl rfl (by kernel_rfl) Tryz.func3 (by kernel_rfl)
    (of_decide_eq_true (by kernel_rfl)) (by unfold Func.isWrapper; first | (rw [if_pos (by decide +kernel)]; kernel_rfl) | (rw [if_neg (by decide +kernel)]; exact ⟨rfl, rfl⟩))
    (fun os started H enc _ F => by rw [OpenClaim.pre_eq_preRow]; exact lifted os started H enc F)
theorem plain (f : FuncId) (fn : Func) (hf : Tryz.pinned.checked.prog.funcNamed "kalends/kalendslaw21.EnvelopeEncoding" = some f) (hfn : Tryz.pinned.checked.prog.funcs[f]? = some fn) :
    true = Tryz.pinned.checked.prog.looks [] ∧ ∀ (j : Nat) t, fn.params[j]? = some t → Tryz.pinned.checked.prog.wantsStandIn t = false := by
  obtain rfl : f = 3 := Option.some.inj ((show Tryz.prog.funcNamed "kalends/kalendslaw21.EnvelopeEncoding" = some 3 by kernel_rfl).symm.trans hf) |>.symm
  obtain rfl : fn = Tryz.f3 := (Option.some.inj (Tryz.func3.symm.trans hfn)).symm
  refine ⟨by kernel_rfl, fun j t ht => ?_⟩
  rw [Tryz.params3] at ht
  have hm : t ∈ [22, 5] := by simpa using Array.mem_of_getElem? ht
  have hall : ([22, 5].all fun u => !Tryz.prog.wantsStandIn u) = true := by kernel_rfl
  exact (show Tryz.prog.wantsStandIn t = false by simpa using List.all_eq_true.1 hall t hm)
/-- The card. -/
theorem card : Rows.EnvelopeEncodingCardSaid :=
  Claim7.holds_tied_plain_at .later [] _ _ _ _ said (fun _ h => by cases h) (by kernel_rfl) (fun _ h => by cases h) envelopeEncoding_row_tie rfl ⟨rfl, rfl⟩ (by kernel_rfl) rfl plain (by kernel_rfl)
end Go.Proofs.YtgejmgkjhoaamaaGreatDoor.encoding
