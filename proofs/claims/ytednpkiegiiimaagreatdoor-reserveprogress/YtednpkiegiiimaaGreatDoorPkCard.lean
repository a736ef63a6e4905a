/-
  If all owners grant and all letters arrive, the organizer and all owners commit; if one of them refuses, the organizer and all others abort: the law answers true for every input. Conditions: the package variable digest.rounds holds what the program's text lays (the card ties it).
-/
import Derived.Test.YtednpkiegiiimaaGreatDoorPkCaseAAAA
import Derived.Test.YtednpkiegiiimaaGreatDoorPkCaseAAAB
import Derived.Test.YtednpkiegiiimaaGreatDoorPkCaseAABA
import Derived.Test.YtednpkiegiiimaaGreatDoorPkCaseAABB
import Derived.Test.YtednpkiegiiimaaGreatDoorPkCaseABAA
import Derived.Test.YtednpkiegiiimaaGreatDoorPkCaseABAB
import Derived.Test.YtednpkiegiiimaaGreatDoorPkCaseABBA
import Derived.Test.YtednpkiegiiimaaGreatDoorPkCaseABBB
import Derived.Test.YtednpkiegiiimaaGreatDoorPkCaseBAAA
import Derived.Test.YtednpkiegiiimaaGreatDoorPkCaseBAAB
import Derived.Test.YtednpkiegiiimaaGreatDoorPkCaseBABA
import Derived.Test.YtednpkiegiiimaaGreatDoorPkCaseBABB
import Derived.Test.YtednpkiegiiimaaGreatDoorPkCaseBBAA
import Derived.Test.YtednpkiegiiimaaGreatDoorPkCaseBBAB
import Derived.Test.YtednpkiegiiimaaGreatDoorPkCaseBBBA
import Derived.Test.YtednpkiegiiimaaGreatDoorPkCaseBBBB
import Derived.Test.YtednpkiegiiimaaGreatDoorCards
import Derived.Test.YtednpkiegiiimaaGreatDoorTie
import Derived.WalkKit
import Derived.ProofKit
import Derived.OpenShut
import Derived.Carry
import Derived.Deep.DeepHandedRow
import Derived.Lib.LaidTab
set_option linter.unusedSectionVars false
set_option linter.constructorNameAsVariable false
set_option linter.unusedVariables false
set_option linter.unusedSimpArgs false
namespace Go.CE.V
open Go.Proofs Go.Proofs.YtednpkiegiiimaaGreatDoor Go.RowKit
theorem law_all (s p : Nat) (hp : p < 256) (t : Bool) (W : World) (h : TabW W) :
    Calls Tryz.prog 3 #[.int .u8 (s : Int), .int .u8 (p : Int), .bool t] W fun e w' => e = .returned (.bool true) ∧ Below W.heap.size W w' := by
  have b0 : s / 2 ^ 0 % 2 = 0 ∨ s / 2 ^ 0 % 2 = 1 := by omega
  have b1 : s / 2 ^ 1 % 2 = 0 ∨ s / 2 ^ 1 % 2 = 1 := by omega
  have b2 : s / 2 ^ 2 % 2 = 0 ∨ s / 2 ^ 2 % 2 = 1 := by omega
  have b3 : s / 2 ^ 3 % 2 = 0 ∨ s / 2 ^ 3 % 2 = 1 := by omega
  have m1 : p % 1 = 0 := by omega
  have m2 : p % 2 = 0 ∨ p % 2 = 1 := by omega
  have m3 : p % 3 = 0 ∨ p % 3 = 1 ∨ p % 3 = 2 := by omega
  rcases b0 with b0 | b0 <;> rcases b1 with b1 | b1 <;> rcases b2 with b2 | b2 <;> rcases b3 with b3 | b3 <;> cases t
  · exact case_calls s p 0 0 0 0 1 0 false false hp (by decide) b0 b1 b2 b3 (fun h => by cases h) (case0000n s p) W h
  · exact case_calls s p 0 0 0 0 1 0 true true hp (by decide) b0 b1 b2 b3 (fun _ => m1) (case00000 s p) W h
  · exact case_calls s p 0 0 0 1 1 0 false false hp (by decide) b0 b1 b2 b3 (fun h => by cases h) (case0001n s p) W h
  · exact case_calls s p 0 0 0 1 1 0 true true hp (by decide) b0 b1 b2 b3 (fun _ => m1) (case00010 s p) W h
  · exact case_calls s p 0 0 1 0 1 0 false false hp (by decide) b0 b1 b2 b3 (fun h => by cases h) (case0010n s p) W h
  · exact case_calls s p 0 0 1 0 1 0 true true hp (by decide) b0 b1 b2 b3 (fun _ => m1) (case00100 s p) W h
  · exact case_calls s p 0 0 1 1 2 0 false false hp (by decide) b0 b1 b2 b3 (fun h => by cases h) (case0011n s p) W h
  · rcases m2 with e | e
    · exact case_calls s p 0 0 1 1 2 0 true true hp (by decide) b0 b1 b2 b3 (fun _ => e) (case00110 s p) W h
    · exact case_calls s p 0 0 1 1 2 1 true true hp (by decide) b0 b1 b2 b3 (fun _ => e) (case00111 s p) W h
  · exact case_calls s p 0 1 0 0 1 0 false false hp (by decide) b0 b1 b2 b3 (fun h => by cases h) (case0100n s p) W h
  · exact case_calls s p 0 1 0 0 1 0 true true hp (by decide) b0 b1 b2 b3 (fun _ => m1) (case01000 s p) W h
  · exact case_calls s p 0 1 0 1 2 0 false false hp (by decide) b0 b1 b2 b3 (fun h => by cases h) (case0101n s p) W h
  · rcases m2 with e | e
    · exact case_calls s p 0 1 0 1 2 0 true true hp (by decide) b0 b1 b2 b3 (fun _ => e) (case01010 s p) W h
    · exact case_calls s p 0 1 0 1 2 1 true true hp (by decide) b0 b1 b2 b3 (fun _ => e) (case01011 s p) W h
  · exact case_calls s p 0 1 1 0 2 0 false false hp (by decide) b0 b1 b2 b3 (fun h => by cases h) (case0110n s p) W h
  · rcases m2 with e | e
    · exact case_calls s p 0 1 1 0 2 0 true true hp (by decide) b0 b1 b2 b3 (fun _ => e) (case01100 s p) W h
    · exact case_calls s p 0 1 1 0 2 1 true true hp (by decide) b0 b1 b2 b3 (fun _ => e) (case01101 s p) W h
  · exact case_calls s p 0 1 1 1 3 0 false false hp (by decide) b0 b1 b2 b3 (fun h => by cases h) (case0111n s p) W h
  · rcases m3 with e | e | e
    · exact case_calls s p 0 1 1 1 3 0 true true hp (by decide) b0 b1 b2 b3 (fun _ => e) (case01110 s p) W h
    · exact case_calls s p 0 1 1 1 3 1 true true hp (by decide) b0 b1 b2 b3 (fun _ => e) (case01111 s p) W h
    · exact case_calls s p 0 1 1 1 3 2 true true hp (by decide) b0 b1 b2 b3 (fun _ => e) (case01112 s p) W h
  · exact case_calls s p 1 0 0 0 1 0 false false hp (by decide) b0 b1 b2 b3 (fun h => by cases h) (case1000n s p) W h
  · exact case_calls s p 1 0 0 0 1 0 true true hp (by decide) b0 b1 b2 b3 (fun _ => m1) (case10000 s p) W h
  · exact case_calls s p 1 0 0 1 2 0 false false hp (by decide) b0 b1 b2 b3 (fun h => by cases h) (case1001n s p) W h
  · rcases m2 with e | e
    · exact case_calls s p 1 0 0 1 2 0 true true hp (by decide) b0 b1 b2 b3 (fun _ => e) (case10010 s p) W h
    · exact case_calls s p 1 0 0 1 2 1 true true hp (by decide) b0 b1 b2 b3 (fun _ => e) (case10011 s p) W h
  · exact case_calls s p 1 0 1 0 2 0 false false hp (by decide) b0 b1 b2 b3 (fun h => by cases h) (case1010n s p) W h
  · rcases m2 with e | e
    · exact case_calls s p 1 0 1 0 2 0 true true hp (by decide) b0 b1 b2 b3 (fun _ => e) (case10100 s p) W h
    · exact case_calls s p 1 0 1 0 2 1 true true hp (by decide) b0 b1 b2 b3 (fun _ => e) (case10101 s p) W h
  · exact case_calls s p 1 0 1 1 3 0 false false hp (by decide) b0 b1 b2 b3 (fun h => by cases h) (case1011n s p) W h
  · rcases m3 with e | e | e
    · exact case_calls s p 1 0 1 1 3 0 true true hp (by decide) b0 b1 b2 b3 (fun _ => e) (case10110 s p) W h
    · exact case_calls s p 1 0 1 1 3 1 true true hp (by decide) b0 b1 b2 b3 (fun _ => e) (case10111 s p) W h
    · exact case_calls s p 1 0 1 1 3 2 true true hp (by decide) b0 b1 b2 b3 (fun _ => e) (case10112 s p) W h
  · exact case_calls s p 1 1 0 0 2 0 false false hp (by decide) b0 b1 b2 b3 (fun h => by cases h) (case1100n s p) W h
  · rcases m2 with e | e
    · exact case_calls s p 1 1 0 0 2 0 true true hp (by decide) b0 b1 b2 b3 (fun _ => e) (case11000 s p) W h
    · exact case_calls s p 1 1 0 0 2 1 true true hp (by decide) b0 b1 b2 b3 (fun _ => e) (case11001 s p) W h
  · exact case_calls s p 1 1 0 1 3 0 false false hp (by decide) b0 b1 b2 b3 (fun h => by cases h) (case1101n s p) W h
  · rcases m3 with e | e | e
    · exact case_calls s p 1 1 0 1 3 0 true true hp (by decide) b0 b1 b2 b3 (fun _ => e) (case11010 s p) W h
    · exact case_calls s p 1 1 0 1 3 1 true true hp (by decide) b0 b1 b2 b3 (fun _ => e) (case11011 s p) W h
    · exact case_calls s p 1 1 0 1 3 2 true true hp (by decide) b0 b1 b2 b3 (fun _ => e) (case11012 s p) W h
  · exact case_calls s p 1 1 1 0 3 0 false false hp (by decide) b0 b1 b2 b3 (fun h => by cases h) (case1110n s p) W h
  · rcases m3 with e | e | e
    · exact case_calls s p 1 1 1 0 3 0 true true hp (by decide) b0 b1 b2 b3 (fun _ => e) (case11100 s p) W h
    · exact case_calls s p 1 1 1 0 3 1 true true hp (by decide) b0 b1 b2 b3 (fun _ => e) (case11101 s p) W h
    · exact case_calls s p 1 1 1 0 3 2 true true hp (by decide) b0 b1 b2 b3 (fun _ => e) (case11102 s p) W h
  · exact case_calls s p 1 1 1 1 3 0 false false hp (by decide) b0 b1 b2 b3 (fun h => by cases h) (case1111n s p) W h
  · rcases m3 with e | e | e
    · exact case_calls s p 1 1 1 1 3 0 true true hp (by decide) b0 b1 b2 b3 (fun _ => e) (case11110 s p) W h
    · exact case_calls s p 1 1 1 1 3 1 true true hp (by decide) b0 b1 b2 b3 (fun _ => e) (case11111 s p) W h
    · exact case_calls s p 1 1 1 1 3 2 true true hp (by decide) b0 b1 b2 b3 (fun _ => e) (case11112 s p) W h
end Go.CE.V
namespace Go.Proofs.YtednpkiegiiimaaGreatDoor.progress
open Go.ChangeShapes Go.WideShapes Go.ChangeAt Go.RowKit

theorem own : ownKnob Tryz.prog.godebug = none := by kernel_rfl
theorem gTab : Tryz.prog.globalNamed "kalends/digest.rounds" = some 0 := by kernel_rfl
theorem gTabType : (Tryz.prog.globals[0]?).map (·.type) = some 183 := by kernel_rfl
theorem cellsTab : Tryz.prog.cellsOf 183 = 64 := by kernel_rfl
theorem cellsU32 : Tryz.prog.cellsOf 147 = 1 := by kernel_rfl
theorem laidOut : laidOutB Tryz.prog = true := by kernel_rfl
def zs : List Int := Sha.K.map fun (n : Nat) => (n : Int)
theorem tab_eq : Rows.laid_kalends_digest_rounds (H := Unit) = Lib.tabData .u32 zs := by kernel_rfl
/-- What the row's list gives: the table's cells. -/
theorem table {W : World} (h : laidMetH Tryz.prog Rows.reserveProgressRow.laid W) : Lib.TabIs Tryz.prog W "kalends/digest.rounds" .u32 zs := by
  have h2 : laidMetH Tryz.prog [("kalends/digest.rounds", Rows.laid_kalends_digest_rounds)] W := h
  rw [tab_eq] at h2
  exact Lib.tabIs_of_head (rest := []) gTab gTabType Tryz.underlying183 Tryz.underlying147 cellsU32 cellsTab h2
theorem start0 : ((begin Tryz.prog (fun _ _ => 0) default).world.heap[0]?.bind Obj.row?).map (·.2) = some 183 := by kernel_rfl
theorem tabW {W : World} (h : laidMetH Tryz.prog Rows.reserveProgressRow.laid W) (hs : W.ShapedOpen Tryz.prog) : CE.V.TabW W := by
  obtain ⟨⟨zero, t⟩, hz, ht⟩ := Option.map_eq_some_iff.1 start0
  dsimp only at ht
  subst ht
  obtain ⟨cs, h0, _, _⟩ := hs.1 0 zero _ (of_decide_eq_true (by kernel_rfl)) hz
  have hv : W.var? Tryz.prog "kalends/digest.rounds" = some (zs.map fun z => Value.int .u32 z).toArray := table h
  unfold World.var? at hv
  rw [gTab] at hv
  simp only [Option.bind_some, h0, Option.some.injEq] at hv
  subst hv
  refine ⟨_, h0, rfl, fun i hi => ?_⟩
  have hK : Sha.K.length = 64 := rfl
  simp only [zs, List.getElem?_toArray, List.getElem?_map]
  rw [List.getD_eq_getElem?_getD, List.getElem?_eq_getElem (by omega)]
  rfl
section
variable {H : Type} {enc : TypeId × Value → H} {P : Program}
/-- The row's end, of a call that leaves what was there as it was. -/
theorem post_low {f : Func} {s : ChangeSpec} {apart fresh handsOn again : Bool} {W W' : World} {args : Array Value} {v : Value} {ds gs : List (DataW H)} {before : List MemPlace}
    (hW : DataW.Whole enc P f.params.toList s.vars apart W args.toList ds gs before) (hb : Below W.heap.size W W')
    (hres : ∀ (b : Nat) (sp : Nat → Bool) (hd : Bool), DataW.TrodAll enc P W' b sp hd f.resultTypes.toList (v.resultList f.resultTypes.size) (s.fn H (ds ++ gs)).results [])
    (hargs : ∀ sp : Nat → Bool, (∀ p ∈ before, sp p.block = true) → DataW.TrodAll enc P W' 0 sp true f.params.toList args.toList (s.fn H (ds ++ gs)).args before)
    (hvars : ∀ sp : Nat → Bool, DataW.TrodVars enc P W' sp s.vars (s.fn H (ds ++ gs)).vars [])
    (hok : ∀ (j : Nat) (t : TypeId) (r : Value), f.resultTypes[j]? = some t → (v.resultList f.resultTypes.size)[j]? = some r → Value.okWide P W' .any 0 t r) :
    s.post enc P f apart fresh handsOn again W args v W' := by
  have low : ∀ p ∈ before, p.block < W.heap.size := fun p hp => hW.lt p hp
  have here : ∀ p ∈ before, (fun b => decide (b < W.heap.size)) p.block = true := fun p hp => decide_eq_true (low p hp)
  have all := trodAll_append (hargs (fun _ => true) (fun _ _ => rfl)) (hres 0 (fun _ => true) true)
  refine ⟨ds, gs, before, [], before, [], hW, hres _ _ _, hargs _ here, hvars _, World.keptBut_mono (fun p hp => ⟨hp, .inr (.inl hp)⟩) (hb.frame (· ∈ before)), fun _ => ?_⟩
  obtain ⟨_, _, _, _, _, hz, hn⟩ := hW
  refine ⟨hok, _, _, ([] ++ before) ++ [], ⟨[] ++ before, [], all, hvars _, rfl, fun b off hp => ?_, fun ha => by simpa using hn ha⟩, fun p hp _ => by simpa using hp⟩
  have hin : MemPlace.cell b off ∈ before := by simpa using hp
  exact (hb.frozen (low _ hin)).trans (hz b off hin)
end
set_option maxRecDepth 100000 in
/-- What the walks give, for every argument and every world that holds the table. -/
theorem contract (H : Type) (enc : TypeId × Value → H) (W : World) (base : Nat) (args : Array Value) (ds gs : List (DataW H)) (before : List MemPlace)
    (hval : ∀ (j : Nat) t v, Tryz.f3.params[j]? = some t → args[j]? = some v → Value.okWide Tryz.prog W .any base t v)
    (hW : DataW.Whole enc Tryz.prog Tryz.f3.params.toList Rows.reserveProgressSpec.vars false W args.toList ds gs before) (hL : laidMetH Tryz.prog Rows.reserveProgressRow.laid W) (hS : W.ShapedOpen Tryz.prog) :
    Calls Tryz.prog 3 args W fun e W' => ∃ v, e = .returned v ∧ Rows.reserveProgressSpec.post enc Tryz.prog Tryz.f3 false true false false W args v W' := by
  have hW' := hW
  obtain ⟨p, q, hA0, hV, rfl, hfz, hnd⟩ := hW
  have hA : DataW.TrodAll enc Tryz.prog W 0 (fun _ => true) true Tryz.f3.params.toList args.toList ds p := hA0
  rw [Tryz.params3] at hA hval
  obtain ⟨v0, vs0, d0, ds0, p0, q0, hargs, rfl, rfl, h0, r0⟩ := trodAll_cons hA
  obtain ⟨v1, vs1, d1, ds1, p1, q1, hvs, rfl, rfl, h1, r1⟩ := trodAll_cons r0
  obtain ⟨v2, vs2, d2, ds2, p2, q2, hvs2, rfl, rfl, h2, r2⟩ := trodAll_cons r1
  obtain ⟨rfl, rfl, rfl⟩ := trodAll_nil r2
  subst hvs2
  subst hvs
  obtain rfl : args = #[v0, v1, v2] := by cases args; simp_all
  obtain ⟨rfl, rfl⟩ := trodVars_none hV
  obtain ⟨n0, rfl, rfl, rfl, hw0⟩ := open_int Tryz.underlying5 (hval 0 5 v0 rfl rfl) h0
  obtain ⟨n1, rfl, rfl, rfl, hw1⟩ := open_int Tryz.underlying5 (hval 1 5 v1 rfl rfl) h1
  obtain ⟨t, rfl, rfl, rfl⟩ := open_bool Tryz.underlying4 (hval 2 4 v2 rfl rfl) h2
  have lim : ∀ n : Int, (Lit.int .u8 n).wf = true → ∃ u : Nat, n = (u : Int) ∧ u < 256 := fun n hn => by
    simp only [Lit.wf, Bool.and_eq_true, decide_eq_true_eq] at hn
    have hn : 0 ≤ n ∧ n ≤ 255 := hn
    exact ⟨n.toNat, by omega, by omega⟩
  obtain ⟨s, rfl, hs⟩ := lim n0 hw0
  obtain ⟨p, rfl, hp⟩ := lim n1 hw1
  clear hA0
  have walk := CE.V.law_all s p hp t W (tabW hL hS)
  refine walk.mono fun e W' ⟨he, hg⟩ => ?_
  subst he
  refine ⟨_, rfl, post_low hW' hg (fun _ _ _ => trodAll_cons_mk (shut_bool Tryz.underlying4 _) trodAll_mk0) (fun sp hsp => ?_) (fun _ => rfl) (ok_one (by kernel_rfl) rfl (okWide_bool_mk Tryz.underlying4 _))⟩
  have k := trodAll_cons_mk (shut_int (enc := enc) (w := W') (base := 0) (spare := sp) (held := true) Tryz.underlying5 hw0) (trodAll_cons_mk (shut_int Tryz.underlying5 hw1) (trodAll_cons_mk (shut_bool Tryz.underlying4 t) trodAll_mk0))
  rw [Tryz.params3]
  show DataW.TrodAll enc Tryz.prog W' 0 sp true [5, 5, 4] [.int .u8 (s : Int), .int .u8 (p : Int), .bool t] [.lit (.int .u8 (s : Int)), .lit (.int .u8 (p : Int)), .lit (.bool t)] _
  simpa using k
/-- A world for the witness. -/
noncomputable def laidWorld (os : Os) : World :=
  { World.holding Tryz.prog os ⟨#[], #[], []⟩ with heap := (World.holding Tryz.prog os ⟨#[], #[], []⟩).heap.modify 0 fun
      | .cells _ t frozen => .cells kRow t frozen
      | o => o }
theorem laid_met (os : Os) : laidMet Tryz.prog Rows.reserveProgressRow.laid ((laidWorld os).forCall (fun _ _ => 0) ⟨#[], #[.int .u8 0, .int .u8 0, .bool false], []⟩).memory :=
  laidMet_of_run' 8 (by kernel_rfl) (by kernel_rfl)
theorem reads (os : Os) {H : Type} (enc : TypeId × Value → H) : ∃ places, DataW.whole enc Tryz.prog ((laidWorld os).forCall (fun _ _ => 0) ⟨#[], #[.int .u8 0, .int .u8 0, .bool false], []⟩).memory Tryz.f3.params.toList Rows.reserveProgressSpec.vars false #[Value.int .u8 0, Value.int .u8 0, Value.bool false].toList 8 = some ([.lit (.int .u8 0), .lit (.int .u8 0), .lit (.bool false)], [], places) :=
  ⟨[], by kernel_rfl⟩
set_option maxRecDepth 100000 in
theorem lifted (os : Os) (started : os.Started) (H : Type) (enc : TypeId × Value → H) (F : Stop.Interp) :
    ReturnsInHanded {} Tryz.checked os 3 .any ((OpenSpec.ofChange Rows.reserveProgressSpec).preRow enc Tryz.prog Tryz.f3 Rows.reserveProgressRow.domain false Rows.reserveProgressRow.laid) (((OpenSpec.ofChange Rows.reserveProgressSpec).at F).post enc Tryz.prog Tryz.f3 false true false false) := by
  obtain ⟨places, hx⟩ := reads os enc
  refine returnsInHanded_of_row (C := Tryz.checked) (s := OpenSpec.ofChange Rows.reserveProgressSpec) own started (by kernel_rfl) Tryz.func3
    (witness_row_at (enc := enc) (C := Tryz.checked) false (laidWorld os) #[.int .u8 0, .int .u8 0, .bool false] rfl (by kernel_rfl) (by kernel_rfl) (by kernel_rfl)
      (OpenSpec.preRow_of_cond 8 hx (by kernel_rfl) (fun k hk => by cases hk) (by kernel_rfl) (laid_met os))) ?_
  intro W base args ds gs before hval hW _ _ _ hL hS _
  exact contract H enc W base args ds gs before hval hW hL hS
theorem said : Rows.ReserveProgressSaid :=
  OpenClaim.holds_of_cond 3 Tryz.f3 rfl rfl rfl rfl rfl rfl rfl ⟨rfl, rfl, rfl, rfl, rfl⟩ rfl rfl rfl rfl rfl (by kernel_rfl) Tryz.func3 (by kernel_rfl)
    (of_decide_eq_true (by kernel_rfl)) (by unfold Func.isWrapper; first | (rw [if_pos (by decide +kernel)]; kernel_rfl) | (rw [if_neg (by decide +kernel)]; exact ⟨rfl, rfl⟩))
    (fun os started H enc _ F => by rw [OpenClaim.pre_eq_preRow]; exact lifted os started H enc F)
theorem plain (f : FuncId) (fn : Func) (hf : Tryz.pinned.checked.prog.funcNamed "kalends/kalendslaw29.ReserveProgress" = some f) (hfn : Tryz.pinned.checked.prog.funcs[f]? = some fn) :
    true = Tryz.pinned.checked.prog.looks [] ∧ ∀ (j : Nat) t, fn.params[j]? = some t → Tryz.pinned.checked.prog.wantsStandIn t = false := by
  obtain rfl : f = 3 := Option.some.inj ((show Tryz.prog.funcNamed "kalends/kalendslaw29.ReserveProgress" = some 3 by kernel_rfl).symm.trans hf) |>.symm
  obtain rfl : fn = Tryz.f3 := (Option.some.inj (Tryz.func3.symm.trans hfn)).symm
  refine ⟨by kernel_rfl, fun j t ht => ?_⟩
  rw [Tryz.params3] at ht
  have hm : t ∈ [5, 5, 4] := by simpa using Array.mem_of_getElem? ht
  have hall : ([5, 5, 4].all fun u => !Tryz.prog.wantsStandIn u) = true := by kernel_rfl
  exact (show Tryz.prog.wantsStandIn t = false by simpa using List.all_eq_true.1 hall t hm)
/-- The card. -/
theorem card : Rows.ReserveProgressCardSaid :=
  Claim7.holds_tied_plain_at .later [] _ _ _ _ said (fun _ h => by cases h) (by kernel_rfl) (fun _ h => by cases h) reserveProgress_row_tie rfl ⟨rfl, rfl⟩ (by kernel_rfl) rfl plain (by kernel_rfl)
end Go.Proofs.YtednpkiegiiimaaGreatDoor.progress
