/-
  The law of the reference's step, on abstract values and on quick values.
-/
import Derived.Test.YtkfceppdpdeppaaGreatDoorPkLaw
import Derived.Test.YtkfceppdpdeppaaGreatDoorPkRefC
set_option linter.unusedSectionVars false
set_option linter.constructorNameAsVariable false
set_option linter.unusedVariables false
set_option linter.unusedSimpArgs false
namespace Go.CE
namespace V
open Go.Proofs Go.Proofs.YtkfceppdpdeppaaGreatDoor Go.RowKit
variable [Sym]
def stepE : List AV → X AV := fun args => match args with
  | [.g cs, .sl (some (k2, o2)) 64 _] => CE.bnd (CE.lift (wrds cs)) fun ws => CE.bnd (CE.lift (stOf ws)) fun st =>
    CE.bnd (rdK k2 o2 64) fun b => CE.bnd (CE.lift (bytesA b)) fun bs => CE.ret (.g (rowA (Sha.comp st (byF bs))))
  | _ => CE.fail
theorem stepE_loc (x : List AV) : Loc (stepE x) := by
  unfold stepE
  split
  · exact Loc.bnd (Loc.lift _) fun _ => Loc.bnd (Loc.lift _) fun _ => Loc.bnd (Loc.rdK _ _ _) fun _ => Loc.bnd (Loc.lift _) fun _ => Loc.ret _
  · exact Loc.fail
theorem step_enter (vals : Array Value) (W : World) : (callFunc 69 vals).run Tryz.prog W = .ok (.enter 69 vals) W := by
  have h1 : (Tryz.f69.body.isNone) = false := by kernel_rfl
  have h2 : (Tryz.f69.name == "runtime.NumGoroutine") = false := by kernel_rfl
  unfold callFunc
  simp only [Sem.run_bind, run_program, Result.andThen_ok, Tryz.func69, h1, h2, Bool.false_eq_true, if_false, Sem.run_pure]
variable [SymOk]
theorem SR.belowW {P : Program} {B : Nat} {σ : Sg} {m : Tr AB} {W W' : World} (hs : SR P B σ m W) (hb : Below W.heap.size W W') : SR P B σ m W' := by
  refine ⟨fun j x hj => ?_, hs.inj, hs.ro, Nat.le_trans hs.hB hb.size⟩
  obtain ⟨q0, o, h1, h2, h3⟩ := hs.mr j x hj
  refine ⟨q0, o, h1, ?_, h3⟩
  rw [hb.block q0.b (Array.getElem?_eq_some_iff.1 h2).1]
  exact h2
theorem VR.row8 (σ : Sg) (s : Sha.St) : VR σ (.g (rowA s)) (.agg s.row) := by
  refine .g _ _ ((by rfl : (rowA s).length = 8).trans (St_size s).symm) fun i x v h1 h2 => ?_
  by_cases hi : i < 8
  · rw [St_get s i hi] at h2
    rw [rowA_get s i hi] at h1
    rw [← Option.some.inj h1, ← Option.some.inj h2]
    exact .i _ _
  · rw [Array.getElem?_eq_none (by rw [St_size]; omega)] at h2; cases h2
theorem row8_of {σ : Sg} {s : Sha.St} {c : Array Value} (h : LR σ ((lst8 s).map u32A) c) : c = s.row := by
  have hlen : c.size = 8 := h.len.symm
  apply Array.ext_getElem?
  intro i
  by_cases hi : i < 8
  · have h8 : ((lst8 s).map u32A)[i]? = some (u32A (s.get i)) := rowA_get s i hi
    have hi2 : i < c.size := by omega
    have hv := h.get i _ _ h8 (Array.getElem?_eq_getElem hi2)
    rw [Array.getElem?_eq_getElem hi2, St_get s i hi]
    generalize c[i] = u at hv
    cases hv
    rfl
  · rw [Array.getElem?_eq_none (by omega), Array.getElem?_eq_none (by rw [St_size]; omega)]
theorem stepE_sound (B : Nat) (σ : Sg) (m : Tr AB) (n : Nat) (l w : List LE) (W : World) (args : List AV) (v : AV) (m' : Tr AB) (n' : Nat) (l' w' : List LE) (vals : Array Value)
    (_ : GS σ) (hs : SR Tryz.prog B σ m W) (hl : LR σ args vals) (hx : stepE args ⟨m, n, l, w⟩ = some (v, ⟨m', n', l', w'⟩)) (_ : Fresh σ n n') :
    (callFunc 69 vals).run Tryz.prog W = .ok (.enter 69 vals) W ∧ Calls Tryz.prog 69 vals W (Done Tryz.prog B σ n n' m' v W) := by
  refine ⟨step_enter vals W, ?_⟩
  unfold stepE at hx
  split at hx
  · rename_i cs k2 o2 cp
    obtain ⟨ws, s1, g1, x1⟩ := bnd_of hx
    obtain ⟨hws, e1⟩ := lift_of g1
    cases e1
    obtain ⟨st, s1, g2, x2⟩ := bnd_of x1
    obtain ⟨hst, e1⟩ := lift_of g2
    cases e1
    obtain ⟨b, ⟨m2, n2, l2, w2⟩, g3, x3⟩ := bnd_of x2
    obtain ⟨e1, e2, c2, T2, hk2, cut2⟩ := rdK_of g3
    cases e1; cases e2
    obtain ⟨bs, s1, g4, x4⟩ := bnd_of x3
    obtain ⟨hbs, e1⟩ := lift_of g4
    cases e1
    obtain ⟨e1, e3⟩ := ret_of x4
    cases e1; cases e3
    clear hx x1 x2 x3 x4 g1 g2 g3 g4
    obtain ⟨hcs, hlt⟩ := wrds_of hws
    have hws := stOf_of hst
    subst hws
    subst hcs
    obtain ⟨hb8, hb256⟩ := bytesA_of hbs
    have hsz : vals.size = 2 := hl.len.symm
    obtain ⟨v0, e0, hv0⟩ := hl.at (i := 0) rfl
    obtain ⟨v1, e1, hv1⟩ := hl.at (i := 1) rfl
    have hvals : vals = #[v0, v1] := by
      apply Array.ext
      · simpa using hsz
      · intro i h1 h2
        have : i = 0 ∨ i = 1 := by omega
        rcases this with rfl | rfl
        · simpa using (Array.getElem?_eq_some_iff.1 e0).2
        · simpa using (Array.getElem?_eq_some_iff.1 e1).2
    subst hvals
    obtain ⟨c, rfl, hc⟩ := hv0.lr_g
    have hrow := row8_of hc
    subst hrow
    cases hv1 with
    | sl _ _ _ _ c' q2 hσ2 hle hx1 hx2 =>
      obtain ⟨qb, ob, hb1, hb2, cb, rfl, _, _, hb5, hb6⟩ := hs.mr k2 _ hk2
      rw [hσ2] at hb1; cases hb1
      have hok : st.ok := by
        have h8 : ∀ x ∈ lst8 st, x < 4294967296 := hlt
        simp only [lst8, List.mem_cons, List.not_mem_nil, or_false] at h8
        exact ⟨h8 _ (by simp), h8 _ (by simp), h8 _ (by simp), h8 _ (by simp), h8 _ (by simp), h8 _ (by simp), h8 _ (by simp), h8 _ (by simp)⟩
      have hblen : bs.length = 64 := by
        have := (cut_eq cut2).2
        rw [hb8, List.length_map] at this
        exact this
      have hf : ∀ j, byF bs j < 256 := fun j => by
        unfold byF
        by_cases hj : j < bs.length
        · rw [List.getD_eq_getElem?_getD, List.getElem?_eq_getElem hj]; exact hb256 _ (List.getElem_mem hj)
        · rw [List.getD_eq_getElem?_getD, List.getElem?_eq_none (by omega)]; decide
      have hcell : ∀ j, j < 64 → W.cell? ⟨q2.b, o2 + q2.d + j, none⟩ = some (B8 (byF bs j)) := fun j hj => by
        have h64 : c2[o2 + j]? = some (.i .u8 (.ofNat (byF bs j))) := by
          rw [← cut_get cut2 j hj, hb8, List.getElem?_map, List.getElem?_eq_getElem (by omega)]
          unfold byF
          rw [List.getD_eq_getElem?_getD, List.getElem?_eq_getElem (by omega)]
          rfl
        have hlen2 : o2 + j < c2.length := (List.getElem?_eq_some_iff.1 h64).1
        have hi2 : q2.d + (o2 + j) < cb.size := by omega
        have hv := hb6 (o2 + j) _ _ h64 (Array.getElem?_eq_getElem hi2)
        unfold World.cell?
        dsimp only
        rw [hb2]
        dsimp only
        rw [show o2 + q2.d + j = q2.d + (o2 + j) by omega, Array.getElem?_eq_getElem hi2]
        generalize cb[q2.d + (o2 + j)] = u at hv
        cases hv
        rfl
      have hq2 : q2.b < W.heap.size := (Array.getElem?_eq_some_iff.1 hb2).1
      refine (step_calls st hok q2.b (o2 + q2.d) c' (byF bs) hf W hcell hq2).mono fun e W' he => ?_
      obtain ⟨he, hb⟩ := he
      exact ⟨σ, _, he, Grow.refl _ _ _, SR.belowW hs hb, VR.row8 σ _, hb.mono hs.hB⟩
  · cases hx
noncomputable def stepQ : LQ := fun l s k => match l with
  | [.g t n, .s _ i2 o2 m _] => V.iff (Nat.beq m 64) (opt (wrds (cellsV t 0 n)) fun ws => opt (stOf ws) fun st => rdnC (p4 i2) i2 o2 64 s fun b s => opt (gBytes b) fun bs => Sha.compF st (byF bs) fun a b c d e f g h => k (.g (treeOf (rowA ⟨a, b, c, d, e, f, g, h⟩)) 8) s)
  | _ => none
theorem stepQ_ok (B : Nat) (s : CE.St) (f : QW) (x : List AV) (l : List FV) (hs : RS B s f) (h : RVs x l) : Ok B RV (stepQ l f) (stepE x s) := by
  obtain ⟨rfl, ho⟩ := h
  unfold stepQ
  split
  · rename_i t n q2 i2 o2 m c
    have hq2 : q2 = p4 i2 := ho (.s q2 i2 o2 m c) (by simp)
    refine Ok.iff fun hc => ?_
    have hc := beqT hc
    subst hc
    refine Ok.opt fun ws hws => Ok.opt fun st hst => ?_
    show Ok B RV _ (CE.bnd (CE.lift (wrds (cellsV t 0 n))) (fun ws => CE.bnd (CE.lift (stOf ws)) fun st =>
      CE.bnd (rdK i2 o2 64) fun b => CE.bnd (CE.lift (bytesA b)) fun bs => CE.ret (.g (rowA (Sha.comp st (byF bs))))) s)
    refine Ok.lift hws (Ok.lift hst ?_)
    refine Ok.bnd (ok_rdn hs i2 o2 64) fun b f a s h hs => ?_
    obtain ⟨t2, rfl, rfl, ht2⟩ := h
    refine Ok.opt fun bs hbs => Ok.lift (gBytes_of hbs) ?_
    intro kk r hk
    dsimp only at hk
    rw [Sha.compF_eq] at hk
    generalize Sha.comp st (byF bs) = st' at hk ⊢
    have hc := cells_tree (rowA st') (rowA_sc st')
    rw [rowA_len] at hc
    exact Ok.ret (R := RV) (b := .g (treeOf (rowA st')) 8) (a := .g (rowA st')) ⟨congrArg AV.g hc.1.symm, hc.2⟩ hs kk r hk
  · exact Ok.none
theorem step_good : Good Tryz.prog 69 stepQ stepE := ⟨stepE_loc, stepE_sound, stepQ_ok⟩
end V
end Go.CE
