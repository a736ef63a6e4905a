/-
  The index of an array by value, at a number that is not written out.
-/
import Derived.Test.YtmjblpkbfoipfaaGreatDoorPkKey
set_option linter.unusedSectionVars false
set_option linter.constructorNameAsVariable false
set_option linter.unusedVariables false
set_option linter.unusedSimpArgs false
namespace Go.Proofs.YtmjblpkbfoipfaaGreatDoor
open Go.RowKit Go.CE Go.CE.V
attribute [local instance] Sn Sn_ok
def rawIndex (P : Program) (t : TypeId) (x i : Value) (w : World) : Result Value := (Instr.index t x i).run P w
theorem run_index_gen {P : Program} {t e n : Nat} {cs : Array Value} {k : IntKind} {i : Int} {w : World} (ht : (CE.tyOf P t).map (fun ty => ty.d) = some (.arr n e)) (he : (CE.tyOf P e).map (fun ty => (CE.agg ty.d, ty.size)) = some (false, 1)) (h0 : 0 ≤ i) (h1 : i < n) :
    (Instr.index t (.agg cs) (.int k i)).run P w = (cs[i.toNat]?).elim (rawIndex P t (.agg cs) (.int k i) w) fun v => .ok v w := by
  obtain ⟨ty, ht, htd⟩ := Option.map_eq_some_iff.1 ht
  obtain ⟨te, he, hed⟩ := Option.map_eq_some_iff.1 he
  obtain ⟨hea, hes⟩ := Prod.mk.inj hed
  obtain ⟨F⟩ := tyOf_of ht
  obtain ⟨Fe⟩ := tyOf_of he
  have hd := htd
  rw [F.ed] at hd
  have hdd := tdOf_arr hd
  cases hc : cs[i.toNat]? with
  | none => rfl
  | some v =>
    have hz := Fe.run_size
    rw [hes] at hz
    have ha := Fe.run_isAgg
    rw [hea] at ha
    simp [Instr.index, asIntOf, F.run_underlying, hdd, h0, h1, hz, part, ha, hc]
@[go_sem] theorem ix_ptr (cs : Array Value) (k : IntKind) (i : Int) (w : World) (h0 : 0 ≤ i) (h1 : i < 17) : (Instr.index 117 (.agg cs) (.int k i)).run Tryz.prog w = (cs[i.toNat]?).elim (rawIndex Tryz.prog 117 (.agg cs) (.int k i) w) fun v => .ok v w :=
  run_index_gen (n := 17) (e := 116) (by kernel_rfl) (by kernel_rfl) h0 h1
@[go_sem] theorem ix_bool (cs : Array Value) (k : IntKind) (i : Int) (w : World) (h0 : 0 ≤ i) (h1 : i < 17) : (Instr.index 158 (.agg cs) (.int k i)).run Tryz.prog w = (cs[i.toNat]?).elim (rawIndex Tryz.prog 158 (.agg cs) (.int k i) w) fun v => .ok v w :=
  run_index_gen (n := 17) (e := 4) (by kernel_rfl) (by kernel_rfl) h0 h1
@[go_sem] theorem ix_func (cs : Array Value) (k : IntKind) (i : Int) (w : World) (h0 : 0 ≤ i) (h1 : i < 17) : (Instr.index 115 (.agg cs) (.int k i)).run Tryz.prog w = (cs[i.toNat]?).elim (rawIndex Tryz.prog 115 (.agg cs) (.int k i) w) fun v => .ok v w :=
  run_index_gen (n := 17) (e := 1) (by kernel_rfl) (by kernel_rfl) h0 h1
theorem run_eq_u8 (d : Nat) (x y : Int) (w : World) : (Op.equalIn (d + 1) 5 (.int .u8 x) (.int .u8 y)).run Tryz.prog w = .ok (x == y) w := by
  have hu := Tryz.underlying5
  simp [Op.equalIn, run_underlying hu]
theorem run_eq_items (d : Nat) (a b : List UInt8) (ha : a.length = 32) (hb : b.length = 32) (w : World) : ∀ is : List Nat, (∀ i ∈ is, i < 32) →
    (Op.eqItems (d + 1) 5 1 (bRow a) (bRow b) is).run Tryz.prog w = .ok (is.all fun i => a.getD i 0 == b.getD i 0) w
  | [], _ => by simp [Op.eqItems]
  | i :: is, h => by
    have hi := h i (by simp)
    have e1 := bRow_get a i (by omega)
    have e2 := bRow_get b i (by omega)
    obtain ⟨te, he, hed⟩ := Option.map_eq_some_iff.1 (show (CE.tyOf Tryz.prog 5).map (fun ty => (CE.agg ty.d, ty.size)) = some (false, 1) by kernel_rfl)
    obtain ⟨hea, hes⟩ := Prod.mk.inj hed
    obtain ⟨Fe⟩ := tyOf_of he
    have hag := Fe.run_isAgg
    rw [hea] at hag
    have ih := run_eq_items d a b ha hb w is (fun j hj => h j (by simp [hj]))
    simp only [Op.eqItems, Sem.run_bind, part, hag, Result.andThen_ok, Nat.mul_one, e1, e2, Bool.false_eq_true, if_false, Sem.run_pure, run_eq_u8, List.all_cons]
    have hc : (((a.getD i 0).toNat : Int) == ((b.getD i 0).toNat : Int)) = (a.getD i 0 == b.getD i 0) := by
      by_cases e : a.getD i 0 = b.getD i 0
      · rw [e]; simp
      · have : (a.getD i 0).toNat ≠ (b.getD i 0).toNat := fun h => e (UInt8.toNat_inj.1 h)
        rw [beq_eq_false_iff_ne.2 e, beq_eq_false_iff_ne.2 (by omega)]
    rw [hc]
    cases (a.getD i 0 == b.getD i 0)
    · simp
    · simp [ih]
theorem eq_dig (a b : List UInt8) (ha : a.length = 32) (hb : b.length = 32) (w : World) : (Op.equalIn 10000 34 (.agg (bRow a)) (.agg (bRow b))).run Tryz.prog w = .ok (decide (a = b)) w := by
  obtain ⟨i0, hi, hz0, hz1, hz2⟩ := info_u8
  rw [run_equalIn_array w 9999 (bRow a) (bRow b) (n := 32) (e := 5) (by exact Tryz.underlying34) hi, show Tryz.prog.cellsOf 5 = 1 by kernel_rfl, run_eq_items 9998 a b ha hb w _ (fun i hi => List.mem_range.1 hi)]
  refine congrArg (fun b => Result.ok b w) ?_
  by_cases e : a = b
  · subst e; rw [decide_eq_true rfl]; exact List.all_eq_true.2 fun i _ => by simp
  · rw [decide_eq_false e, List.all_eq_false]
    refine Classical.byContradiction fun hn => e (List.ext_getElem? fun i => ?_)
    by_cases hi : i < 32
    · have : a.getD i 0 = b.getD i 0 := Classical.byContradiction fun hne => hn ⟨i, List.mem_range.2 hi, by simpa using hne⟩
      rw [List.getD_eq_getElem?_getD, List.getD_eq_getElem?_getD, List.getElem?_eq_getElem (by omega), List.getElem?_eq_getElem (by omega)] at this
      rw [List.getElem?_eq_getElem (by omega), List.getElem?_eq_getElem (by omega)]
      exact congrArg some this
    · rw [List.getElem?_eq_none (by omega), List.getElem?_eq_none (by omega)]
end Go.Proofs.YtmjblpkbfoipfaaGreatDoor
