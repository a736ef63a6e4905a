/-
  What sanity does: reckoned by the kernel over the quick evaluator, and what that says of the program.
-/
import Derived.Test.YtgejmgkjhoaamaaGreatDoorPkEzThree
set_option linter.unusedSectionVars false
set_option linter.constructorNameAsVariable false
set_option linter.unusedVariables false
set_option linter.unusedSimpArgs false
namespace Go.CE
namespace V
open Go.Proofs Go.Proofs.YtgejmgkjhoaamaaGreatDoor Go.RowKit
noncomputable def fs1 : QW := ⟨setM (p4 0) (.cells (treeOf (Sha.K.map u32A)) 64 171) .e, 1024, 2048, [], []⟩
def isT (r : Ans) : Bool := match r with
  | some (.b true, _) => true
  | _ => false
theorem isT_of {r : Ans} (h : isT r = true) : ∃ f, r = some (.b true, f) := by
  unfold isT at h
  split at h
  · exact ⟨_, rfl⟩
  · cases h
/-- Where the package variables lie. -/
def gsg : Sg := fun k => match Nat.beq (k % 2) 0 && Nat.ble (k + 1) 1024 with
  | true => some ⟨k / 2, 0, 0, 0⟩
  | false => none
theorem gsg_gs : GS gsg := fun k hk => ⟨0, 0, by
  unfold gsg
  have h1 : Nat.beq (2 * k % 2) 0 = true := by rw [Nat.mul_mod_right]; rfl
  have h2 : Nat.ble (2 * k + 1) 1024 = true := Nat.ble_eq_true_of_le (by omega)
  rw [h1, h2]
  show some (Pl.mk (2 * k / 2) 0 0 0) = _
  rw [Nat.mul_div_cancel_left k (by decide)]⟩
theorem gsg_lt {k : Nat} {q : Pl} (h : gsg k = some q) : k < 1024 := by
  unfold gsg at h
  split at h
  · rename_i hb
    have := (Bool.and_eq_true _ _ ▸ hb : _ ∧ _).2
    have := Nat.le_of_ble_eq_true this
    omega
  · cases h
section
variable [Sym] [SymOk]
noncomputable def mem1 : Tr AB := Tr.set .e 0 (some (.cells (Sha.K.map u32A) 171))
theorem mem1_get (j : Nat) : mem1.get j = if j = 0 then some (.cells (Sha.K.map u32A) 171) else none := by
  unfold mem1
  rw [Tr.get_set]
  by_cases h : j = 0
  · rw [if_pos h, if_pos h]
  · rw [if_neg h, if_neg h, Tr.get_e]
theorem rs1 : RS 2048 ⟨mem1, 1024, [], []⟩ fs1 := by
  refine ⟨rfl, rfl, Nat.le_refl _, (fun e h => by cases h), (fun e h => by cases h), fun k => ?_, (fun e h => by cases h), (fun e h => by cases h), fun k x h => ?_⟩
  · show RB (mem1.get k) (getM (p4 k) (setM (p4 0) (.cells (treeOf (Sha.K.map u32A)) 64 171) .e))
    rw [mem1_get]
    by_cases hk : k = 0
    · subst hk
      rw [if_pos rfl, get_setM]
      have hc := cells_tree (Sha.K.map u32A) (by rfl)
      have h64 : (Sha.K.map u32A).length = 64 := rfl
      rw [h64] at hc
      have hb := RB.cells (treeOf (Sha.K.map u32A)) 64 171 hc.2
      rwa [show cellsV (treeOf (Sha.K.map u32A)) 0 64 = Sha.K.map u32A from hc.1] at hb
    · rw [if_neg hk, get_setM_ne _ _ _ _ (p4_ne hk), getM_e]
      exact .no
  · rw [mem1_get] at h
    by_cases hk : k = 0
    · subst hk; show 0 < 2 * 1024; omega
    · rw [if_neg hk] at h; cases h
/-- The table lies in the first variable. -/
def TabW (W : World) : Prop := ∃ c : Array Value, W.heap[0]? = some (.cells c 171 (0, 0)) ∧ c.size = 64 ∧ ∀ i, i < 64 → c[i]? = some (B32 (Sha.K.getD i 0))
theorem sr1 {W : World} (h : TabW W) : SR P W.heap.size gsg mem1 W := by
  obtain ⟨c, h1, h2, h3⟩ := h
  refine ⟨fun j x hj => ?_, fun i j p1 p2 hi hj _ _ _ => ?_, fun j q hj hro => ?_, Nat.le_refl _⟩
  · rw [mem1_get] at hj
    by_cases hk : j = 0
    · subst hk
      rw [if_pos rfl] at hj; cases hj
      obtain ⟨z, s, hg⟩ := gsg_gs 0 (by omega)
      refine ⟨_, _, hg, h1, c, rfl, (fun _ => ⟨rfl, h2⟩), (fun h => by cases h), (by rw [h2]; exact Nat.le_refl _), fun i x v e1 e2 => ?_⟩
      have hi : i < 64 := by
        have := (List.getElem?_eq_some_iff.1 e1).1
        exact this
      rw [Nat.zero_add, h3 i hi] at e2
      rw [List.getElem?_map] at e1
      have hK : Sha.K.length = 64 := rfl
      rw [List.getD_eq_getElem?_getD] at e2
      rw [List.getElem?_eq_getElem (by omega)] at e1 e2
      rw [← Option.some.inj e1, ← Option.some.inj e2]
      exact .i _ _
    · rw [if_neg hk] at hj; cases hj
  · rw [mem1_get] at hi hj
    by_cases h : i = 0
    · by_cases h' : j = 0
      · omega
      · rw [if_neg h'] at hj; exact absurd rfl hj
    · rw [if_neg h] at hi; exact absurd rfl hi
  · have := gsg_lt hj
    have : roB = 2048 := rfl
    omega
end
@[reducible] def S0 : Sym := ⟨fun _ => 0, fun _ _ _ _ _ => none, fun _ _ => none⟩
theorem S0ok : @SymOk S0 := @SymOk.mk S0 (fun _ _ _ _ _ _ h => by cases h) (fun _ _ _ h => by cases h)
set_option maxRecDepth 100000 in
theorem san_runs : isT (@evF S0 P (@LT.fq (@t13 S0)) 4000 4 [] fs1) = true := by decide +kernel
/-- **Sanity answers true.** -/
theorem sanity_calls (W : World) (h : TabW W) : Calls Tryz.prog 4 #[] W fun e w' => e = .returned (.bool true) ∧ Below W.heap.size W w' := by
  obtain ⟨f, hf⟩ := isT_of san_runs
  have hall := @all13 S0 S0ok
  obtain ⟨x, s', hev, ⟨hx, _⟩, _⟩ := @ok_evF S0 S0ok 2048 _ _ P _ _ (@LT.sumOk S0 S0ok P _ hall) (@LT.sumS S0 S0ok P _ hall).1 4000 4 [] [] _ _ (@rs1 S0 S0ok) ⟨rfl, (fun _ h => by cases h)⟩ hf
  obtain ⟨m', n', l', w'⟩ := s'
  have hxb : x = .b true := hx
  subst hxb
  obtain ⟨_, c2⟩ := @evCall_sound S0 S0ok P _ (@LT.sumS S0 S0ok P _ hall) 4000 W.heap.size gsg mem1 1024 [] [] W 4 [] (.b true) m' n' l' w' #[] gsg_gs (@sr1 S0 S0ok W h) (@LR.nil S0 _) hev (fun j h1 _ => by
    cases hj : gsg j with
    | none => rfl
    | some q => have := gsg_lt hj; omega)
  refine c2.mono fun e W' hd => ?_
  obtain ⟨τ, u, rfl, -, -, hv, hb⟩ := hd
  cases hv
  exact ⟨rfl, hb⟩
end V
end Go.CE
