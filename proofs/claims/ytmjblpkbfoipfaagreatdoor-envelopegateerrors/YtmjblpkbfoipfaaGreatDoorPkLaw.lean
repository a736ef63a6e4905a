/-
  The law of the digest's step, on abstract values.
-/
import Derived.Test.YtmjblpkbfoipfaaGreatDoorPkFv
import Derived.Test.YtmjblpkbfoipfaaGreatDoorPkDigB
import Derived.KernelRfl
import Derived.Test.YtmjblpkbfoipfaaGreatDoorPkDig
set_option linter.unusedSectionVars false
set_option linter.constructorNameAsVariable false
set_option linter.unusedVariables false
set_option linter.unusedSimpArgs false
namespace Go.CE
namespace V
open Go.Proofs Go.Proofs.YtmjblpkbfoipfaaGreatDoor Go.RowKit
variable [Sym]
def wrd : AV → Option Nat
  | .i .u32 (.ofNat n) => match Nat.ble n 4294967295 with
    | true => some n
    | false => none
  | _ => none
def wrds : List AV → Option (List Nat)
  | [] => some []
  | v :: l => match wrd v, wrds l with
    | some n, some r => some (n :: r)
    | _, _ => none
def u32A (n : Nat) : AV := .i .u32 (.ofNat n)
theorem wrd_of {v : AV} {n : Nat} (h : wrd v = some n) : v = u32A n ∧ n < 4294967296 := by
  unfold wrd at h
  split at h
  · split at h
    · rename_i hb
      cases h
      have := bleT hb
      exact ⟨rfl, by omega⟩
    · cases h
  · cases h
theorem wrds_of : ∀ {l : List AV} {r : List Nat}, wrds l = some r → l = r.map u32A ∧ ∀ n ∈ r, n < 4294967296
  | [], r, h => by cases h; exact ⟨rfl, fun n h => by cases h⟩
  | v :: l, r, h => by
    unfold wrds at h
    cases h1 : wrd v with
    | none => rw [h1] at h; cases h
    | some n =>
      cases h2 : wrds l with
      | none => rw [h1, h2] at h; cases h
      | some r' =>
        rw [h1, h2] at h
        cases h
        obtain ⟨rfl, hn⟩ := wrd_of h1
        obtain ⟨rfl, hr⟩ := wrds_of h2
        refine ⟨rfl, fun m hm => ?_⟩
        rcases List.mem_cons.mp hm with rfl | hm
        · exact hn
        · exact hr m hm
def stOf : List Nat → Option Sha.St
  | [a, b, c, d, e, f, g, h] => some ⟨a, b, c, d, e, f, g, h⟩
  | _ => none
def lst8 (s : Sha.St) : List Nat := [s.a, s.b, s.c, s.d, s.e, s.f, s.g, s.h]
theorem stOf_of {l : List Nat} {s : Sha.St} (h : stOf l = some s) : l = lst8 s := by
  unfold stOf at h
  split at h
  · cases h; rfl
  · cases h
def byF (bs : List Nat) (j : Nat) : Nat := bs.getD j 0
def rowA (s : Sha.St) : List AV := (lst8 s).map u32A
def updS (bs : List Nat) : Option AB → Option (Unit × Option AB)
  | some (.cells cs T) => match wrds cs with
    | some ws => match stOf ws with
      | some s => some ((), some (.cells (rowA (Sha.comp s (byF bs))) T))
      | none => none
    | none => none
  | _ => none
def tabA (l : List AV) : Bool := match wrds l with
  | some r => listEq r Sha.K
  | none => false
theorem bytesA_of : ∀ {l : List AV} {r : List Nat}, bytesA l = some r → l = r.map (fun n => AV.i .u8 (.ofNat n)) ∧ ∀ n ∈ r, n < 256
  | [], r, h => by cases h; exact ⟨rfl, fun n h => by cases h⟩
  | v :: l, r, h => by
    cases v with
    | i k n =>
      cases k <;> first | (cases h; done) | skip
      cases n with
      | negSucc n => cases h
      | ofNat n =>
        have h : (match Nat.ble n 255, bytesA l with
          | true, some r => some (n :: r)
          | _, _ => none) = some r := h
        cases hb : Nat.ble n 255 with
        | false => rw [hb] at h; cases h
        | true =>
          cases h2 : bytesA l with
          | none => rw [hb, h2] at h; cases h
          | some r' =>
            rw [hb, h2] at h
            cases h
            obtain ⟨rfl, hr⟩ := bytesA_of h2
            refine ⟨rfl, fun m hm => ?_⟩
            rcases List.mem_cons.mp hm with rfl | hm
            · have := bleT hb; omega
            · exact hr m hm
    | _ => cases h
def addE : List AV → X AV := fun args => match args with
  | [.p (some (k, 0)), .sl (some (k2, o2)) 64 _] => CE.bnd (CE.chk (!gw k && Nat.ble roB k && !Nat.beq k k2)) fun _ =>
    CE.bnd (rdK 0 0 64) fun kt => CE.bnd (CE.chk (tabA kt)) fun _ =>
    CE.bnd (rdK k2 o2 64) fun b => CE.bnd (CE.lift (bytesA b)) fun bs =>
    CE.bnd (updW k (updS bs)) fun _ => CE.ret (.t [])
  | _ => CE.fail
theorem addE_loc (x : List AV) : Loc (addE x) := by
  unfold addE
  split
  · exact Loc.bnd (Loc.chk _) fun _ => Loc.bnd (Loc.rdK _ _ _) fun _ => Loc.bnd (Loc.chk _) fun _ => Loc.bnd (Loc.rdK _ _ _) fun _ => Loc.bnd (Loc.lift _) fun _ => Loc.bnd (Loc.updW _ _) fun _ => Loc.ret _
  · exact Loc.fail
theorem rdK_of {k o c : Nat} {m m' : Tr AB} {n n' : Nat} {l l' w w' : List LE} {r : List AV} (h : rdK k o c ⟨m, n, l, w⟩ = some (r, ⟨m', n', l', w'⟩)) : m' = m ∧ n' = n ∧ ∃ cs T, m.get k = some (.cells cs T) ∧ cut cs o c = some r := by
  unfold rdK at h
  dsimp only at h
  split at h
  · rename_i cs T hk
    split at h
    · rename_i q hq
      simp only [Option.some.injEq, Prod.mk.injEq, St.mk.injEq] at h
      obtain ⟨rfl, rfl, rfl, _, _⟩ := h
      exact ⟨rfl, rfl, cs, T, hk, hq⟩
    · cases h
  · cases h
theorem lift_of {α : Type} {o : Option α} {s s' : CE.St} {a : α} (h : CE.lift o s = some (a, s')) : o = some a ∧ s' = s := by
  cases o with
  | none => cases h
  | some b => cases h; exact ⟨rfl, rfl⟩
theorem add_enter (vals : Array Value) (W : World) : (callFunc 114 vals).run Tryz.prog W = .ok (.enter 114 vals) W := by
  have h1 : (Tryz.f114.body.isNone) = false := by kernel_rfl
  have h2 : (Tryz.f114.name == "runtime.NumGoroutine") = false := by kernel_rfl
  unfold callFunc
  simp only [Sem.run_bind, run_program, Result.andThen_ok, Tryz.func114, h1, h2, Bool.false_eq_true, if_false, Sem.run_pure]
theorem rowA_get (s : Sha.St) (i : Nat) (hi : i < 8) : (rowA s)[i]? = some (u32A (s.get i)) := by
  have : i = 0 ∨ i = 1 ∨ i = 2 ∨ i = 3 ∨ i = 4 ∨ i = 5 ∨ i = 6 ∨ i = 7 := by omega
  rcases this with rfl | rfl | rfl | rfl | rfl | rfl | rfl | rfl <;> rfl
theorem k_get (r : List AV) (h : r = Sha.K.map u32A) : r.length = 64 := by rw [h, List.length_map]; rfl
theorem k_size : kRow.size = 64 := by unfold kRow; simp; rfl
variable [SymOk]
theorem addE_sound (B : Nat) (σ : Sg) (m : Tr AB) (n : Nat) (l w : List LE) (W : World) (args : List AV) (v : AV) (m' : Tr AB) (n' : Nat) (l' w' : List LE) (vals : Array Value)
    (hg : GS σ) (hs : SR Tryz.prog B σ m W) (hl : LR σ args vals) (hx : addE args ⟨m, n, l, w⟩ = some (v, ⟨m', n', l', w'⟩)) (_ : Fresh σ n n') :
    (callFunc 114 vals).run Tryz.prog W = .ok (.enter 114 vals) W ∧ Calls Tryz.prog 114 vals W (Done Tryz.prog B σ n n' m' v W) := by
  refine ⟨add_enter vals W, ?_⟩
  unfold addE at hx
  split at hx
  · rename_i k k2 o2 cp
    obtain ⟨_, s1, g1, x1⟩ := bnd_of hx
    obtain ⟨hc, rfl⟩ := chk_of g1
    simp only [Bool.and_eq_true, Bool.not_eq_true'] at hc
    obtain ⟨⟨hgw, hro⟩, hne⟩ := hc
    have hro := bleT hro
    have hne := beqF hne
    obtain ⟨kt, ⟨m1, n1, l1, w1⟩, g2, x2⟩ := bnd_of x1
    obtain ⟨e1, e2, c0, T0, k0, cut0⟩ := rdK_of g2
    cases e1; cases e2
    obtain ⟨_, s1, g3, x3⟩ := bnd_of x2
    obtain ⟨htab, e1⟩ := chk_of g3
    cases e1
    obtain ⟨b, ⟨m2, n2, l2, w2⟩, g4, x4⟩ := bnd_of x3
    obtain ⟨e1, e2, c2, T2, hk2, cut2⟩ := rdK_of g4
    cases e1; cases e2
    obtain ⟨bs, s1, g5, x5⟩ := bnd_of x4
    obtain ⟨hbs, e1⟩ := lift_of g5
    cases e1
    obtain ⟨_, ⟨m3, n3, l3, w3⟩, h1, x6⟩ := bnd_of x5
    obtain ⟨e1, e3⟩ := ret_of x6
    cases e1; cases e3
    clear hx x1 x2 x3 x4 x5 x6 g1 g2 g3 g4 g5
    unfold updW at h1
    dsimp only at h1
    cases hk : m.get k with
    | none => rw [hk] at h1; cases h1
    | some x =>
      cases x with
      | cells cs T =>
        rw [hk] at h1
        unfold updS at h1
        dsimp only at h1
        cases hw : wrds cs with
        | none => rw [hw] at h1; cases h1
        | some ws =>
          cases hst : stOf ws with
          | none => rw [hw] at h1; dsimp only at h1; rw [hst] at h1; cases h1
          | some s =>
            rw [hw] at h1
            dsimp only at h1
            rw [hst] at h1
            dsimp only at h1
            simp only [Option.some.injEq, Prod.mk.injEq, CE.St.mk.injEq] at h1
            obtain ⟨-, rfl, rfl, -, -⟩ := h1
            obtain ⟨hcs, hlt⟩ := wrds_of hw
            have hws := stOf_of hst
            subst hws
            obtain ⟨hb8, hb256⟩ := bytesA_of hbs
            have hsz : vals.size = 2 := hl.len.symm
            obtain ⟨v0, e0, hv0⟩ := hl.at (i := 0) rfl
            obtain ⟨v1, e1, hv1⟩ := hl.at (i := 1) rfl
            have hvals : vals = #[v0, v1] := by
              apply Array.ext
              · simpa using hsz
              · intro i h1 h2
                have : i = 0 ∨ i = 1 := by omega
                rcases this with rfl | rfl
                · simpa using (Array.getElem?_eq_some_iff.1 e0).2
                · simpa using (Array.getElem?_eq_some_iff.1 e1).2
            subst hvals
            cases hv0 with
            | p _ _ q hσ =>
              cases hv1 with
              | sl _ _ _ _ c' q2 hσ2 hle hx1 hx2 =>
                obtain ⟨qa, oa, ha1, ha2, ca, rfl, ha3, _, ha5, ha6⟩ := hs.mr k _ hk
                rw [hσ] at ha1; cases ha1
                obtain ⟨qb, ob, hb1, hb2, cb, rfl, _, _, hb5, hb6⟩ := hs.mr k2 _ hk2
                rw [hσ2] at hb1; cases hb1
                obtain ⟨qc, oc, hc1, hc2, cc, rfl, hc3, _, hc5, hc6⟩ := hs.mr 0 _ k0
                obtain ⟨z, s0, hg0⟩ := hg 0 (by omega)
                rw [show 2 * 0 = 0 from rfl] at hg0
                rw [hg0] at hc1; cases hc1
                obtain ⟨hd, hsize⟩ := ha3 hgw
                have hca : ca = s.row := by
                  apply Array.ext_getElem?
                  intro i
                  by_cases hi : i < 8
                  · have h8 : cs[i]? = some (u32A ((lst8 s).getD i 0)) := by
                      rw [hcs]
                      have : i = 0 ∨ i = 1 ∨ i = 2 ∨ i = 3 ∨ i = 4 ∨ i = 5 ∨ i = 6 ∨ i = 7 := by omega
                      rcases this with rfl | rfl | rfl | rfl | rfl | rfl | rfl | rfl <;> rfl
                    have hlen : cs.length = 8 := by rw [hcs]; rfl
                    have hi2 : i < ca.size := by rw [hsize, hlen]; exact hi
                    have hv := ha6 i _ _ h8 (by rw [hd, Nat.zero_add]; exact Array.getElem?_eq_getElem hi2)
                    rw [Array.getElem?_eq_getElem hi2, St_get s i hi]
                    generalize ca[i] = u at hv
                    cases hv
                    rfl
                  · rw [Array.getElem?_eq_none (by rw [hsize, hcs]; simp [lst8]; omega), Array.getElem?_eq_none (by rw [St_size]; omega)]
                subst hca
                have hok : s.ok := by
                  have h8 : ∀ x ∈ lst8 s, x < 4294967296 := hlt
                  simp only [lst8, List.mem_cons, List.not_mem_nil, or_false] at h8
                  exact ⟨h8 _ (by simp), h8 _ (by simp), h8 _ (by simp), h8 _ (by simp), h8 _ (by simp), h8 _ (by simp), h8 _ (by simp), h8 _ (by simp)⟩
                have hblen : bs.length = 64 := by
                  have := (cut_eq cut2).2
                  rw [hb8, List.length_map] at this
                  exact this
                have hf : ∀ j, byF bs j < 256 := fun j => by
                  unfold byF
                  by_cases hj : j < bs.length
                  · rw [List.getD_eq_getElem?_getD, List.getElem?_eq_getElem hj]; exact hb256 _ (List.getElem_mem hj)
                  · rw [List.getD_eq_getElem?_getD, List.getElem?_eq_none (by omega)]; decide
                have hcell : ∀ j, j < 64 → W.cell? ⟨q2.b, o2 + q2.d + j, none⟩ = some (B8 (byF bs j)) := fun j hj => by
                  have h64 : c2[o2 + j]? = some (.i .u8 (.ofNat (byF bs j))) := by
                    rw [← cut_get cut2 j hj, hb8, List.getElem?_map, List.getElem?_eq_getElem (by omega)]
                    unfold byF
                    rw [List.getD_eq_getElem?_getD, List.getElem?_eq_getElem (by omega)]
                    rfl
                  have hlen2 : o2 + j < c2.length := (List.getElem?_eq_some_iff.1 h64).1
                  have hi2 : q2.d + (o2 + j) < cb.size := by omega
                  have hv := hb6 (o2 + j) _ _ h64 (Array.getElem?_eq_getElem hi2)
                  unfold World.cell?
                  dsimp only
                  rw [hb2]
                  dsimp only
                  rw [show o2 + q2.d + j = q2.d + (o2 + j) by omega, Array.getElem?_eq_getElem hi2]
                  generalize cb[q2.d + (o2 + j)] = u at hv
                  cases hv
                  rfl
                have hT : Tab W := by
                  unfold tabA at htab
                  cases hwk : wrds kt with
                  | none => rw [hwk] at htab; cases htab
                  | some r =>
                    rw [hwk] at htab
                    dsimp only at htab
                    rw [listEq_eq] at htab
                    have hr : r = Sha.K := by simpa using htab
                    subst hr
                    obtain ⟨hkt, -⟩ := wrds_of hwk
                    obtain ⟨hd0, hs0⟩ := hc3 rfl
                    have hc0 : 64 ≤ c0.length := by
                      have h1 := cut_get cut0 63 (by omega)
                      have h2 : kt[63]? ≠ none := by
                        have := k_get kt hkt
                        rw [List.getElem?_eq_getElem (by omega)]; simp
                      rw [h1, Ne, List.getElem?_eq_none_iff] at h2
                      omega
                    refine ⟨cc, T0, (0, 0), hc2, by omega, ?_⟩
                    apply Array.ext_getElem?
                    intro i
                    by_cases hi : i < 64
                    · have h64 : c0[i]? = some (u32A (Sha.K.getD i 0)) := by
                        have h1 := cut_get cut0 i hi
                        rw [Nat.zero_add] at h1
                        have hKl : Sha.K.length = 64 := rfl
                        rw [← h1, hkt, List.getElem?_map, List.getElem?_eq_getElem (by omega), List.getD_eq_getElem?_getD, List.getElem?_eq_getElem (by omega)]
                        rfl
                      have hi2 : i < cc.size := by omega
                      have hv := hc6 i _ _ h64 (by rw [show (0 : Nat) + i = i by omega]; exact Array.getElem?_eq_getElem hi2)
                      rw [kRow_get i hi, Array.getElem?_extract]
                      rw [if_pos (by omega), show 0 + i = i by omega, Array.getElem?_eq_getElem hi2]
                      generalize cc[i] = u at hv
                      cases hv
                      rfl
                    · have hk64 := k_size
                      rw [Array.getElem?_eq_none (by rw [Array.size_extract]; omega), Array.getElem?_eq_none (by omega)]
                have hne' : q2.b ≠ q.b := fun e => hne (hs.inj k2 k q2 q (by rw [hk2]; simp) (by rw [hk]; simp) hσ2 hσ e).symm
                have h0 : q.b ≠ 0 := fun e => by
                  have := hs.inj k 0 q _ (by rw [hk]; simp) (by rw [k0]; simp) hσ hg0 e
                  have : roB = 2048 := rfl
                  omega
                have hBq : B ≤ q.b := hs.ro k q hσ hro
                have hq2 : q2.b < W.heap.size := (Array.getElem?_eq_some_iff.1 hb2).1
                have hrow : obj W q.b = some (.cells s.row T (0, 0)) := ha2
                have hpos : (0 : Nat) + q.d = 0 := by omega
                rw [hpos]
                refine (add_calls q.b s hok q2.b (o2 + q2.d) c' (byF bs) hf W T hT hrow hcell hq2 hne' h0).mono fun e W' he => ?_
                obtain ⟨he, hgb, hrow'⟩ := he
                refine ⟨σ, .tuple #[], he, Grow.refl _ _ _, ⟨fun j y hj => ?_, fun i j p1 p2 hi hj s1 s2 he => ?_, hs.ro, Nat.le_trans hs.hB hgb.size⟩, .t [] #[] rfl (fun i x v h _ => by simp at h), ⟨hgb.os, hgb.tape, hgb.output, hgb.size, fun i hi => hgb.block i (Nat.lt_of_lt_of_le hi hs.hB) (fun e => by cases e; omega)⟩⟩
                · rw [Tr.get_set] at hj
                  by_cases h : j = k
                  · subst h
                    rw [if_pos rfl] at hj; cases hj
                    have hl8 : (rowA (Sha.comp s (byF bs))).length = 8 := by simp [rowA, lst8]
                    refine ⟨q, _, hσ, hrow', _, rfl, fun _ => ⟨hd, (St_size _).trans hl8.symm⟩, fun h => absurd h (by rw [hgw]; decide), by rw [hd, hl8, St_size]; decide, fun i x v h1 h2 => ?_⟩
                    rw [hd, Nat.zero_add] at h2
                    by_cases hi : i < 8
                    · rw [St_get _ i hi] at h2
                      rw [rowA_get _ i hi] at h1
                      rw [← Option.some.inj h1, ← Option.some.inj h2]
                      exact .i _ _
                    · rw [Array.getElem?_eq_none (by rw [St_size]; omega)] at h2; cases h2
                  · rw [if_neg h] at hj
                    obtain ⟨q', o', r1, r2, r3⟩ := hs.mr j y hj
                    refine ⟨q', o', r1, ?_, r3⟩
                    rw [hgb.block q'.b (Array.getElem?_eq_some_iff.1 r2).1 fun e => h (hs.inj j k q' q (by rw [hj]; simp) (by rw [hk]; simp) r1 hσ (Option.some.inj e))]
                    exact r2
                · have up : ∀ i, (m.set k (some (AB.cells (rowA (Sha.comp s (byF bs))) T))).get i ≠ none → m.get i ≠ none := fun i hi => by
                    rw [Tr.get_set] at hi
                    by_cases h : i = k
                    · subst h; rw [hk]; simp
                    · rwa [if_neg h] at hi
                  exact hs.inj i j p1 p2 (up i hi) (up j hj) s1 s2 he
      | _ => rw [hk] at h1; cases h1
  · cases hx
end V
end Go.CE
namespace Go.Proofs.YtmjblpkbfoipfaaGreatDoor
namespace Sha
def force {α : Type} (k : Nat → α) (n : Nat) : α := Nat.rec (motive := fun _ => α) (k 0) (fun m _ => k (Nat.succ m)) n
theorem force_eq {α : Type} (k : Nat → α) (n : Nat) : force k n = k n := by cases n <;> rfl
def nx (r : List Nat) : Nat := (r.getD 15 0 + sig0 (r.getD 14 0) + r.getD 6 0 + sig1 (r.getD 1 0)) % 4294967296
def goR {α : Type} (k : List Nat → α) (n : Nat) : List Nat → α := Nat.rec (motive := fun _ => List Nat → α) k (fun _ ih r => force (fun x => ih (x :: r)) (nx r)) n
theorem getD_rev (l : List Nat) (i : Nat) (h : i < l.length) : l.getD i 0 = l.reverse.getD (l.length - 1 - i) 0 := by
  rw [List.getD_eq_getElem?_getD, List.getD_eq_getElem?_getD, List.getElem?_reverse (by omega)]
  congr 2
  omega
theorem next_rev (f : Nat → Nat) (k : Nat) (h : 16 ≤ k) : next (sch f k) = nx (sch f k).reverse := by
  unfold next nx
  have hl := sch_length f k
  rw [getD_rev _ ((sch f k).length - 16) (by omega), getD_rev _ ((sch f k).length - 15) (by omega), getD_rev _ ((sch f k).length - 7) (by omega), getD_rev _ ((sch f k).length - 2) (by omega), hl]
  rw [show k - 1 - (k - 16) = 15 by omega, show k - 1 - (k - 15) = 14 by omega, show k - 1 - (k - 7) = 6 by omega, show k - 1 - (k - 2) = 1 by omega]
theorem goR_eq {α : Type} (κ : List Nat → α) (f : Nat → Nat) : ∀ (n k : Nat), 16 ≤ k → goR κ n (sch f k).reverse = κ (sch f (k + n)).reverse
  | 0, k, _ => rfl
  | n + 1, k, h => by
    show force (fun x => goR κ n (x :: (sch f k).reverse)) (nx (sch f k).reverse) = _
    rw [force_eq, ← next_rev f k h]
    have e : next (sch f k) :: (sch f k).reverse = (sch f (k + 1)).reverse := by
      show _ = (sch f k ++ [if k < 16 then word f k else next (sch f k)]).reverse
      rw [if_neg (by omega)]
      simp
    rw [e, goR_eq κ f n (k + 1) (by omega), show k + 1 + n = k + (n + 1) by omega]
def fw {α : Type} (f : Nat → Nat) (n : Nat) (k : Nat → List Nat → α) (r : List Nat) : α := force (fun x => k x r) (word f n)
def w16 {α : Type} (f : Nat → Nat) (κ : List Nat → α) (n : Nat) : Nat → List Nat → α := Nat.rec (motive := fun _ => Nat → List Nat → α) (fun _ r => κ r) (fun _ ih j r => force (fun x => ih (Nat.succ j) (x :: r)) (word f j)) n
theorem w16_eq {α : Type} (f : Nat → Nat) (κ : List Nat → α) : ∀ (n j : Nat), j + n ≤ 16 → w16 f κ n j (sch f j).reverse = κ (sch f (j + n)).reverse
  | 0, j, _ => rfl
  | n + 1, j, h => by
    show force (fun x => w16 f κ n (j + 1) (x :: (sch f j).reverse)) (word f j) = _
    rw [force_eq]
    have e : word f j :: (sch f j).reverse = (sch f (j + 1)).reverse := by
      show _ = (sch f j ++ [if j < 16 then word f j else next (sch f j)]).reverse
      rw [if_pos (by omega)]
      simp
    rw [e, w16_eq f κ n (j + 1) (by omega), show j + 1 + n = j + (n + 1) by omega]
def schF {α : Type} (f : Nat → Nat) (κ : List Nat → α) : α := w16 f (goR κ 48) 16 0 []
theorem schF_eq {α : Type} (f : Nat → Nat) (κ : List Nat → α) : schF f κ = κ (sch f 64).reverse := by
  unfold schF
  have h := w16_eq f (goR κ 48) 16 0 (by omega)
  rw [show (sch f 0).reverse = [] from rfl] at h
  rw [h, goR_eq κ f 48 (0 + 16) (by omega)]
abbrev K8 (α : Type) := Nat → Nat → Nat → Nat → Nat → Nat → Nat → Nat → α
def St.to {α : Type} (s : St) (κ : K8 α) : α := κ s.a s.b s.c s.d s.e s.f s.g s.h
def one {α : Type} (k w : Nat) (κ : K8 α) (a b c d e f g h : Nat) : α :=
  force (fun x => force (fun y => force (fun z => force (fun u => κ z a b c u e f g) ((d + x) % 4294967296)) ((x + y) % 4294967296)) ((big0 a + ((a &&& b) ^^^ (a &&& c) ^^^ (b &&& c))) % 4294967296)) ((h + big1 e + ((e &&& f) ^^^ ((4294967295 - e) &&& g)) + k + w) % 4294967296)
theorem one_eq {α : Type} (k w : Nat) (κ : K8 α) (s : St) : s.to (one k w κ) = (rnd s k w).to κ := by
  show one k w κ s.a s.b s.c s.d s.e s.f s.g s.h = _
  unfold one
  simp only [force_eq]
  rfl
noncomputable def rds {α : Type} (κ : K8 α) (ks : List Nat) : List Nat → K8 α := List.rec (motive := fun _ => List Nat → K8 α) (fun _ => κ) (fun k _ ih ws => List.rec (motive := fun _ => K8 α) κ (fun w ws _ => one k w (ih ws)) ws) ks
theorem rds_eq {α : Type} (κ : K8 α) (ws : List Nat) (hw : ws.length = 64) (s : St) : ∀ (n i : Nat), i + n = 64 → (rnds ws s i).to (rds κ (K.drop i) (ws.drop i)) = (rnds ws s 64).to κ
  | 0, i, h => by
    have : i = 64 := by omega
    subst this
    have hK : K.length = 64 := rfl
    rw [List.drop_of_length_le (by omega)]
    generalize rnds ws s 64 = t
    rfl
  | n + 1, i, h => by
    have hK : K.length = 64 := rfl
    have e1 : K.drop i = K.getD i 0 :: K.drop (i + 1) := by
      rw [List.drop_eq_getElem_cons (by omega), List.getD_eq_getElem?_getD, List.getElem?_eq_getElem (by omega)]; rfl
    have e2 : ws.drop i = ws.getD i 0 :: ws.drop (i + 1) := by
      rw [List.drop_eq_getElem_cons (by omega), List.getD_eq_getElem?_getD, List.getElem?_eq_getElem (by omega)]; rfl
    rw [e1, e2]
    show (rnds ws s i).to (one (K.getD i 0) (ws.getD i 0) (rds κ (K.drop (i + 1)) (ws.drop (i + 1)))) = _
    rw [one_eq]
    exact rds_eq κ ws hw s n (i + 1) (by omega)
theorem rds_all {α : Type} (κ : K8 α) (ws : List Nat) (hw : ws.length = 64) (s : St) : s.to (rds κ K ws) = (rnds ws s 64).to κ := rds_eq κ ws hw s 64 0 rfl
noncomputable def rev (l r : List Nat) : List Nat := List.rec (motive := fun _ => List Nat → List Nat) (fun r => r) (fun x _ ih r => ih (x :: r)) l r
theorem rev_eq : ∀ l r : List Nat, rev l r = l.reverse ++ r
  | [], r => rfl
  | x :: l, r => by show rev l (x :: r) = _; rw [rev_eq l]; simp
def fin8 {α : Type} (s : St) (κ : K8 α) (a b c d e f g h : Nat) : α :=
  force (fun a => force (fun b => force (fun c => force (fun d => force (fun e => force (fun f => force (fun g => force (fun h => κ a b c d e f g h) ((s.h + h) % 4294967296)) ((s.g + g) % 4294967296)) ((s.f + f) % 4294967296)) ((s.e + e) % 4294967296)) ((s.d + d) % 4294967296)) ((s.c + c) % 4294967296)) ((s.b + b) % 4294967296)) ((s.a + a) % 4294967296)
noncomputable def compF {α : Type} (s : St) (f : Nat → Nat) (κ : K8 α) : α := schF f fun r => s.to (rds (fin8 s κ) K (rev r []))
theorem fin8_eq {α : Type} (s t : St) (κ : K8 α) : t.to (fin8 s κ) = (s.add t).to κ := by
  show fin8 s κ t.a t.b t.c t.d t.e t.f t.g t.h = (s.add t).to κ
  unfold fin8
  simp only [force_eq]
  rfl
theorem rds_rev {α : Type} (s : St) (κ : K8 α) (ws : List Nat) (hl : ws.length = 64) : s.to (rds (fin8 s κ) K (rev ws.reverse [])) = (s.add (rnds ws s 64)).to κ := by
  have hr : rev ws.reverse [] = ws := by rw [rev_eq, List.append_nil, List.reverse_reverse]
  rw [hr]
  exact (rds_all (fin8 s κ) ws hl s).trans (fin8_eq s (rnds ws s 64) κ)
theorem compF_eq {α : Type} (s : St) (f : Nat → Nat) (κ : K8 α) : compF s f κ = (comp s f).to κ := by
  have h1 : compF s f κ = s.to (rds (fin8 s κ) K (rev (sch f 64).reverse [])) := schF_eq f _
  have h2 : comp s f = s.add (rnds (sch f 64) s 64) := by delta comp; exact Eq.refl _
  exact h1.trans ((rds_rev s κ (sch f 64) (sch_length f 64)).trans (congrArg (fun t => t.to κ) h2.symm))
end Sha
end Go.Proofs.YtmjblpkbfoipfaaGreatDoor
namespace Go.CE
namespace V
open Go.Proofs Go.Proofs.YtmjblpkbfoipfaaGreatDoor
variable [Sym]
noncomputable def tabQ (v : FV) : Bool := match absV v with
  | .g l => tabA l
  | _ => false
noncomputable def updQ (i : Nat) (bs : List Nat) (s : QW) (k : KS) : Ans := match s with
  | ⟨m, nx, base, lg, wl⟩ => match getM (p4 i) m with
    | .cells t n T => match wrds (cellsV t 0 n) with
      | some ws => match stOf ws with
        | some st => Sha.compF st (byF bs) fun a b c d e f g h => k ⟨setM (p4 i) (.cells (treeOf (rowA ⟨a, b, c, d, e, f, g, h⟩)) 8 T) m, nx, base, logF base i (whole i) lg, logF base i (whole i) wl⟩
        | none => none
      | none => none
    | _ => none
noncomputable def addQ : LQ := fun l s k => match l with
  | [.p _ i o, .s _ i2 o2 n _] => V.iff (Nat.beq o 0 && Nat.beq n 64 && (!gw i && Nat.ble roB i && !Nat.beq i i2)) (rdnC (p4 0) 0 0 64 s fun kt s => V.iff (tabQ kt) (rdnC (p4 i2) i2 o2 64 s fun b s => opt (gBytes b) fun bs => updQ i bs s fun s => k (.t .e 0) s))
  | _ => none
variable [SymOk] {B : Nat} {s : CE.St} {f : QW}
theorem rowA_len (x : Sha.St) : (rowA x).length = 8 := by simp [rowA, lst8]
theorem rowA_sc (x : Sha.St) : allsc (rowA x) = true := rfl
theorem ok_updQ (hs : RS B s f) (i : Nat) (bs : List Nat) : OkS B (updQ i bs f) (updW i (updS bs) s) := fun k r hk => by
  obtain ⟨m, n, l, w⟩ := s
  obtain ⟨fm, nx, base, lg, wl⟩ := f
  have hm := hs.m i
  dsimp only at hm
  unfold updQ at hk
  dsimp only at hk
  unfold updW
  dsimp only
  generalize getM (p4 i) fm = b at hm hk
  generalize hmi : m.get i = a at hm
  cases hm with
  | cells t N T hok =>
    dsimp only at hk
    unfold updS
    dsimp only
    cases hw : wrds (cellsV t 0 N) with
    | none => rw [hw] at hk; cases hk
    | some ws =>
      rw [hw] at hk
      dsimp only at hk ⊢
      cases hst : stOf ws with
      | none => rw [hst] at hk; cases hk
      | some st =>
        rw [hst] at hk
        dsimp only at hk ⊢
        rw [Sha.compF_eq] at hk
        generalize Sha.comp st (byF bs) = st' at hk ⊢
        have hc := cells_tree (rowA st') (rowA_sc st')
        rw [rowA_len] at hc
        have hb : RB (some (.cells (rowA st') T)) (.cells (treeOf (rowA st')) 8 T) := by
          have := RB.cells (treeOf (rowA st')) 8 T hc.2
          rwa [show cellsV (treeOf (rowA st')) 0 8 = rowA st' from hc.1] at this
        exact ⟨_, _, rfl, hs.write (whole i) (hs.mb i _ hmi) hb, hk⟩
  | _ => cases hk
theorem addQ_ok (B : Nat) (s : CE.St) (f : QW) (x : List AV) (l : List FV) (hs : RS B s f) (h : RVs x l) : Ok B RV (addQ l f) (addE x s) := by
  obtain ⟨rfl, ho⟩ := h
  unfold addQ
  split
  · rename_i q i o q2 i2 o2 n c
    have hq2 : q2 = p4 i2 := ho (.s q2 i2 o2 n c) (by simp)
    refine Ok.iff fun hc => ?_
    simp only [Bool.and_eq_true] at hc
    obtain ⟨⟨h1, h2⟩, h3⟩ := hc
    have h1 := beqT h1
    have h2 := beqT h2
    subst h1; subst h2
    show Ok B RV _ (CE.bnd (CE.chk (!gw i && Nat.ble roB i && !Nat.beq i i2)) (fun _ =>
      CE.bnd (rdK 0 0 64) fun kt => CE.bnd (CE.chk (tabA kt)) fun _ =>
      CE.bnd (rdK i2 o2 64) fun b => CE.bnd (CE.lift (bytesA b)) fun bs =>
      CE.bnd (updW i (updS bs)) fun _ => CE.ret (AV.t [])) s)
    refine Ok.chk (by simp only [Bool.and_eq_true]; exact h3) ?_
    refine Ok.bnd (ok_rdn hs 0 0 64) fun kt f a s h hs => ?_
    obtain ⟨t, rfl, rfl, ht⟩ := h
    refine Ok.iff fun h4 => Ok.chk h4 ?_
    refine Ok.bnd (ok_rdn hs i2 o2 64) fun b f a s h hs => ?_
    obtain ⟨t2, rfl, rfl, ht2⟩ := h
    refine Ok.opt fun bs hbs => Ok.lift (gBytes_of hbs) ?_
    exact OkS.bnd (g := fun f k => k (FV.t .e 0) f) (ok_updQ hs i bs) fun f s hs => Ok.ret ⟨rfl, fun j hj => by omega⟩ hs
  · exact Ok.none
theorem add_good : Good Tryz.prog 114 addQ addE := ⟨addE_loc, addE_sound, addQ_ok⟩
end V
end Go.CE
