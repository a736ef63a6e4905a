/-
  Laws of the digests on known bytes: the digest is a closed term that the kernel reckons once.
-/
import Derived.Test.YtmjblpkbfoipfaaGreatDoorPkHash
import Derived.Test.YtmjblpkbfoipfaaGreatDoorPkKey
import Derived.Test.YtmjblpkbfoipfaaGreatDoorPkRefE
import Derived.Test.YtmjblpkbfoipfaaGreatDoorPkLet
import Derived.Test.YtmjblpkbfoipfaaGreatDoorProg
import Derived.WalkKit
import Derived.WalkSpells
import Derived.WalkLawsBesides
import Derived.Handy
import Derived.Lib.Hide
import Derived.Laws.CopyOwn
import Derived.Deep.QuietTactic
import Derived.BigQuiet
import Derived.BigRegion
import Derived.StillTailTactics
import Derived.RegionTactic
import Derived.LoopTactic
import Derived.Test.YtmjblpkbfoipfaaGreatDoorPkByte
set_option linter.unusedSectionVars false
set_option linter.constructorNameAsVariable false
set_option linter.unusedVariables false
set_option linter.unusedSimpArgs false
namespace Go.CE
namespace V
open Go.Proofs Go.Proofs.YtmjblpkbfoipfaaGreatDoor Go.RowKit
def byteN (n : Nat) : AV := .i .u8 (.ofNat n)
theorem nats_back : ∀ k : List Nat, (∀ n ∈ k, n < 256) → natsOf (k.map UInt8.ofNat) = k
  | [], _ => rfl
  | n :: k, h => by
    have h1 := h n (by simp)
    have ih := nats_back k (fun m hm => h m (by simp [hm]))
    unfold natsOf at *
    simp only [List.map_cons, ih]
    congr 1
    simp; omega
theorem byteN_nats (l : List UInt8) : (natsOf l).map byteN = l.map byteA := by
  unfold natsOf byteN byteA
  rw [List.map_map]; rfl
section
variable [Sym]
noncomputable def keyTab (ks b : List AV) : Option (List AV) := match bytesA ks, bytesA b with
  | some k, some m => match Nat.beq k.length 32 && Nat.ble m.length 1000000000 with
    | true => allN k fun k => allN m fun m => allN (keyV k m) fun l => some (l.map byteN)
    | false => none
  | _, _ => none
noncomputable def sumTab (b : List AV) : Option (List AV) := match bytesA b with
  | some m => match Nat.ble m.length 1000000000 with
    | true => allN m fun m => allN (shaV m) fun l => some (l.map byteN)
    | false => none
  | _ => none
theorem den_bytes {l : List AV} {r : List Nat} (h : bytesA l = some r) : l.map den = (r.map UInt8.ofNat).map byteA ∧ natsOf (r.map UInt8.ofNat) = r := by
  obtain ⟨rfl, hr⟩ := bytesA_of h
  have hn := nats_back r hr
  refine ⟨?_, hn⟩
  rw [← byteN_nats, hn, List.map_map]
  rfl
theorem keyTab_ok : TabOk keyB keyTab := by
  intro ks b rs h
  unfold keyTab at h
  split at h
  · rename_i k m hk hm
    split at h
    · rename_i hc
      simp only [Bool.and_eq_true] at hc
      obtain ⟨d1, n1⟩ := den_bytes hk
      obtain ⟨d2, n2⟩ := den_bytes hm
      refine ⟨k.map UInt8.ofNat, m.map UInt8.ofNat, by rw [List.length_map]; exact beqT hc.1, by rw [List.length_map]; exact bleT hc.2, d1, d2, ?_⟩
      rw [allN_eq, allN_eq, allN_eq, ← n1, ← n2, keyV_eq, byteN_nats] at h
      cases h
      rw [List.map_map]
      rfl
    · cases h
  · cases h
def TabOk1 (F : List UInt8 → List UInt8) (tab : List AV → Option (List AV)) : Prop := ∀ b rs, tab b = some rs →
  ∃ msg : List UInt8, msg.length ≤ 1000000000 ∧ b.map den = msg.map byteA ∧ rs.map den = (F msg).map byteA
theorem sumTab_ok : TabOk1 shaB sumTab := by
  intro b rs h
  unfold sumTab at h
  split at h
  · rename_i m hm
    split at h
    · rename_i hc
      obtain ⟨d2, n2⟩ := den_bytes hm
      refine ⟨m.map UInt8.ofNat, by rw [List.length_map]; exact bleT hc, d2, ?_⟩
      rw [allN_eq, allN_eq, ← n2, shaV_eq, byteN_nats] at h
      cases h
      rw [List.map_map]
      rfl
    · cases h
  · cases h
def rdTab : X Unit := fun s => match s with
  | ⟨m, x, l, w⟩ => match m.get 0 with
    | some (.cells cs _) => match Nat.beq cs.length 64 && tabA cs with
      | true => some ((), ⟨m, x, whole 0 :: l, w⟩)
      | false => none
    | _ => none
theorem rdTab_of {n n' : Nat} {m m' : Tr AB} {l l' w w' : List LE} {u : Unit} (h : rdTab ⟨m, n, l, w⟩ = some (u, ⟨m', n', l', w'⟩)) : m' = m ∧ n' = n ∧ l' = whole 0 :: l ∧ w' = w ∧ ∃ cs T, m.get 0 = some (.cells cs T) ∧ cs.length = 64 ∧ tabA cs = true := by
  unfold rdTab at h
  dsimp only at h
  split at h
  · rename_i cs T hk
    split at h
    · rename_i hc
      simp only [Bool.and_eq_true] at hc
      simp only [Option.some.injEq, Prod.mk.injEq, CE.St.mk.injEq] at h
      obtain ⟨_, rfl, rfl, rfl, rfl⟩ := h
      exact ⟨rfl, rfl, rfl, rfl, cs, T, hk, beqT hc.1, hc.2⟩
    · cases h
  · cases h
theorem Loc_rdTab : Loc rdTab := by
  intro m n l w a m' n' l' w' h
  obtain ⟨rfl, rfl, rfl, rfl, cs, T, hk, h1, h2⟩ := rdTab_of h
  refine ⟨Nat.le_refl _, [whole 0], [], rfl, rfl, (fun _ h => by cases h), keeps.refl _, fun m2 l2 w2 hag => ⟨m2, ?_, hag, keeps.refl _⟩⟩
  have := agr_whole (hag _ (List.mem_singleton.2 rfl))
  have e : Nat.beq cs.length 64 = true := by rw [h1]; rfl
  unfold rdTab
  dsimp only
  rw [← this, hk]
  dsimp only
  rw [e, h2]
  rfl
theorem cut_whole {l : List AV} (h : l.length = 64) : cut l 0 64 = some l := by
  unfold cut
  have e : (l.drop 0).take 64 = l := by rw [List.drop_zero, List.take_of_length_le (by omega)]
  simp only [e, h]
noncomputable def rdTabQ (s : QW) (k : QW → Ans) : Ans := match s with
  | ⟨m, nx, base, lg, wl⟩ => match getM (p4 0) m with
    | .cells t n _ => V.iff (Nat.beq (cellsV t 0 n).length 64 && tabA (cellsV t 0 n)) (k ⟨m, nx, base, logF base 0 (whole 0) lg, wl⟩)
    | _ => none
theorem ok_rdTab [SymOk] {B : Nat} {s : CE.St} {f : QW} (hs : RS B s f) {α β : Type} {R : α → β → Prop} {g : QW → (β → QW → Ans) → Ans} {h : Unit → X α} (hg : ∀ f s, RS B s f → Ok B R (g f) (h () s)) : Ok B R (fun k => rdTabQ f fun f => g f k) (CE.bnd rdTab h s) := fun k r hk => by
  obtain ⟨m, n, lg, w⟩ := s
  obtain ⟨fm, nx, base, lg', wl⟩ := f
  have hm := hs.m 0
  dsimp only at hm
  unfold rdTabQ at hk
  dsimp only at hk
  generalize getM (p4 0) fm = b at hm hk
  generalize hmi : m.get 0 = a at hm
  cases hm with
  | cells t N T hok =>
    dsimp only at hk
    cases hc : (Nat.beq (cellsV t 0 N).length 64 && tabA (cellsV t 0 N)) with
    | false => rw [hc] at hk; cases hk
    | true =>
      rw [hc] at hk
      obtain ⟨b, f', a, s', e, q1, q2, q3⟩ := hg _ _ (hs.log (whole 0) (hs.mb 0 _ hmi)) k r hk
      refine ⟨b, f', a, s', ?_, q1, q2, q3⟩
      unfold CE.bnd rdTab
      dsimp only
      rw [hmi]
      dsimp only
      rw [hc]
      exact e
  | _ => cases hk
def sumE (tab : List AV → Option (List AV)) : List AV → X AV := fun args => match args with
  | [.sl (some (k2, o2)) n _] => CE.bnd rdTab fun _ => CE.bnd (rdK k2 o2 n) fun b => CE.bnd (CE.lift (tab b)) fun rs => CE.ret (.g rs)
  | _ => CE.fail
def keyE2 (tab : List AV → List AV → Option (List AV)) : List AV → X AV := fun args => match args with
  | [.g ks, .sl (some (k2, o2)) n _] => CE.bnd rdTab fun _ => CE.bnd (rdK k2 o2 n) fun b => CE.bnd (CE.lift (tab ks b)) fun rs => CE.ret (.g rs)
  | _ => CE.fail
theorem keyE2_loc (tab : List AV → List AV → Option (List AV)) (x : List AV) : Loc (keyE2 tab x) := by
  unfold keyE2
  split
  · exact Loc.bnd Loc_rdTab fun _ => Loc.bnd (Loc.rdK _ _ _) fun _ => Loc.bnd (Loc.lift _) fun _ => Loc.ret _
  · exact Loc.fail
theorem sumE_loc (tab : List AV → Option (List AV)) (x : List AV) : Loc (sumE tab x) := by
  unfold sumE
  split
  · exact Loc.bnd Loc_rdTab fun _ => Loc.bnd (Loc.rdK _ _ _) fun _ => Loc.bnd (Loc.lift _) fun _ => Loc.ret _
  · exact Loc.fail
end
section
variable [Sym] [SymOk]
theorem sumE_sound {f : Nat} (hen : ∀ (vals : Array Value) (W : World), (callFunc f vals).run Tryz.prog W = .ok (.enter f vals) W)
    (hcal : ∀ (M : List UInt8) (v : Value) (w : World), M.length ≤ 1099511627776 → HasB w v M → Tab w → Calls Tryz.prog f #[v] w fun e w' => e = .returned (.agg (bRow (shaB M))) ∧ Below w.heap.size w w')
    {tab : List AV → Option (List AV)} (ht : TabOk1 shaB tab) (B : Nat) (σ : Sg) (m : Tr AB) (n : Nat) (l w : List LE) (W : World) (args : List AV) (v : AV) (m' : Tr AB) (n' : Nat) (l' w' : List LE) (vals : Array Value)
    (hg : GS σ) (hs : SR Tryz.prog B σ m W) (hl : LR σ args vals) (hx : sumE tab args ⟨m, n, l, w⟩ = some (v, ⟨m', n', l', w'⟩)) (_ : Fresh σ n n') :
    (callFunc f vals).run Tryz.prog W = .ok (.enter f vals) W ∧ Calls Tryz.prog f vals W (Done Tryz.prog B σ n n' m' v W) := by
  refine ⟨hen vals W, ?_⟩
  unfold sumE at hx
  split at hx
  · rename_i k2 o2 len cp
    obtain ⟨_, ⟨m1, n1, l1, w1⟩, g1, x2⟩ := bnd_of hx
    obtain ⟨e1, e2, e3, e4, c0, T0, k0, hl64, htab⟩ := rdTab_of g1
    cases e1; cases e2; cases e3; cases e4
    obtain ⟨b, ⟨m2, n2, l2, w2⟩, g3, x3⟩ := bnd_of x2
    obtain ⟨e1, e2, c2, T2, hk2, cut2⟩ := rdK_of g3
    cases e1; cases e2
    obtain ⟨rs, s1, g4, x4⟩ := bnd_of x3
    obtain ⟨hrs, e1⟩ := lift_of g4
    cases e1
    obtain ⟨e1, e3⟩ := ret_of x4
    cases e1; cases e3
    clear hx x2 x3 x4 g1 g3 g4
    obtain ⟨msg, t2, t4, t5⟩ := ht _ _ hrs
    have hsz : vals.size = 1 := hl.len.symm
    obtain ⟨v0, e0, hv0⟩ := hl.at (i := 0) rfl
    have hvals : vals = #[v0] := by
      apply Array.ext
      · simpa using hsz
      · intro i h1 h2
        have : i = 0 := by omega
        subst this
        simpa using (Array.getElem?_eq_some_iff.1 e0).2
    subst hvals
    refine (hcal msg v0 W (by omega) (hasB_of hs hv0 hk2 cut2 t4) (tab_of hg hs k0 (cut_whole hl64) htab)).mono fun e W' he => ?_
    obtain ⟨he, hb⟩ := he
    exact ⟨σ, _, he, Grow.refl _ _ _, belowS hs hb, row_of t5, hb.mono hs.hB⟩
  · cases hx
noncomputable def sumQ (tab : List AV → Option (List AV)) : LQ := fun l s k => match l with
  | [.s _ i2 o2 m _] => rdTabQ s fun s => rdnC (p4 i2) i2 o2 m s fun b s => match absV b with
    | .g bl => opt (tab bl) fun rs => V.iff (allsc rs) (k (.g (treeOf rs) rs.length) s)
    | _ => none
  | _ => none
theorem sumQ_ok (tab : List AV → Option (List AV)) (B : Nat) (s : CE.St) (f : QW) (x : List AV) (l : List FV) (hs : RS B s f) (h : RVs x l) : Ok B RV (sumQ tab l f) (sumE tab x s) := by
  obtain ⟨rfl, ho⟩ := h
  unfold sumQ
  split
  · rename_i q2 i2 o2 m c
    have hq2 : q2 = p4 i2 := ho (.s q2 i2 o2 m c) (by simp)
    show Ok B RV _ (CE.bnd rdTab (fun _ => CE.bnd (rdK i2 o2 m) fun b => CE.bnd (CE.lift (tab b)) fun rs => CE.ret (.g rs)) s)
    refine ok_rdTab (R := RV) hs (g := fun f k => rdnC (p4 i2) i2 o2 m f fun b s => match absV b with
      | .g bl => opt (tab bl) fun rs => V.iff (allsc rs) (k (.g (treeOf rs) rs.length) s)
      | _ => none) fun f s hs => ?_
    refine Ok.bnd (ok_rdn hs i2 o2 m) fun b f a s h hs => ?_
    obtain ⟨t2, rfl, rfl, ht2⟩ := h
    refine Ok.opt fun rs hrs => Ok.lift hrs ?_
    refine Ok.iff fun h5 => ?_
    have hc := cells_tree rs h5
    exact Ok.ret (R := RV) (b := .g (treeOf rs) rs.length) (a := .g rs) ⟨congrArg AV.g hc.1.symm, hc.2⟩ hs
  · exact Ok.none
noncomputable def keyQ2 (tab : List AV → List AV → Option (List AV)) : LQ := fun l s k => match l with
  | [.g t n, .s _ i2 o2 m _] => rdTabQ s fun s => rdnC (p4 i2) i2 o2 m s fun b s => match absV b with
    | .g bl => opt (tab (cellsV t 0 n) bl) fun rs => V.iff (allsc rs) (k (.g (treeOf rs) rs.length) s)
    | _ => none
  | _ => none
theorem keyQ2_ok (tab : List AV → List AV → Option (List AV)) (B : Nat) (s : CE.St) (f : QW) (x : List AV) (l : List FV) (hs : RS B s f) (h : RVs x l) : Ok B RV (keyQ2 tab l f) (keyE2 tab x s) := by
  obtain ⟨rfl, ho⟩ := h
  unfold keyQ2
  split
  · rename_i t n q2 i2 o2 m c
    have hq2 : q2 = p4 i2 := ho (.s q2 i2 o2 m c) (by simp)
    show Ok B RV _ (CE.bnd rdTab (fun _ => CE.bnd (rdK i2 o2 m) fun b => CE.bnd (CE.lift (tab (cellsV t 0 n) b)) fun rs => CE.ret (.g rs)) s)
    refine ok_rdTab (R := RV) hs (g := fun f k => rdnC (p4 i2) i2 o2 m f fun b s => match absV b with
      | .g bl => opt (tab (cellsV t 0 n) bl) fun rs => V.iff (allsc rs) (k (.g (treeOf rs) rs.length) s)
      | _ => none) fun f s hs => ?_
    refine Ok.bnd (ok_rdn hs i2 o2 m) fun b f a s h hs => ?_
    obtain ⟨t2, rfl, rfl, ht2⟩ := h
    refine Ok.opt fun rs hrs => Ok.lift hrs ?_
    refine Ok.iff fun h5 => ?_
    have hc := cells_tree rs h5
    exact Ok.ret (R := RV) (b := .g (treeOf rs) rs.length) (a := .g rs) ⟨congrArg AV.g hc.1.symm, hc.2⟩ hs
  · exact Ok.none
theorem keyE2_sound {tab : List AV → List AV → Option (List AV)} (ht : TabOk keyB tab) (B : Nat) (σ : Sg) (m : Tr AB) (n : Nat) (l w : List LE) (W : World) (args : List AV) (v : AV) (m' : Tr AB) (n' : Nat) (l' w' : List LE) (vals : Array Value)
    (hg : GS σ) (hs : SR Tryz.prog B σ m W) (hl : LR σ args vals) (hx : keyE2 tab args ⟨m, n, l, w⟩ = some (v, ⟨m', n', l', w'⟩)) (_ : Fresh σ n n') :
    (callFunc 60 vals).run Tryz.prog W = .ok (.enter 60 vals) W ∧ Calls Tryz.prog 60 vals W (Done Tryz.prog B σ n n' m' v W) := by
  refine ⟨key_enter vals W, ?_⟩
  unfold keyE2 at hx
  split at hx
  · rename_i ks k2 o2 len cp
    obtain ⟨_, ⟨m1, n1, l1, w1⟩, g1, x2⟩ := bnd_of hx
    obtain ⟨e1, e2, e3, e4, c0, T0, k0, hl64, htab⟩ := rdTab_of g1
    cases e1; cases e2; cases e3; cases e4
    obtain ⟨b, ⟨m2, n2, l2, w2⟩, g3, x3⟩ := bnd_of x2
    obtain ⟨e1, e2, c2, T2, hk2, cut2⟩ := rdK_of g3
    cases e1; cases e2
    obtain ⟨rs, s1, g4, x4⟩ := bnd_of x3
    obtain ⟨hrs, e1⟩ := lift_of g4
    cases e1
    obtain ⟨e1, e3⟩ := ret_of x4
    cases e1; cases e3
    clear hx x2 x3 x4 g1 g3 g4
    obtain ⟨key, msg, t1, t2, t3, t4, t5⟩ := ht _ _ _ hrs
    have hsz : vals.size = 2 := hl.len.symm
    obtain ⟨v0, e0, hv0⟩ := hl.at (i := 0) rfl
    obtain ⟨v1, e1, hv1⟩ := hl.at (i := 1) rfl
    have hvals : vals = #[v0, v1] := by
      apply Array.ext
      · simpa using hsz
      · intro i h1 h2
        have : i = 0 ∨ i = 1 := by omega
        rcases this with rfl | rfl
        · simpa using (Array.getElem?_eq_some_iff.1 e0).2
        · simpa using (Array.getElem?_eq_some_iff.1 e1).2
    subst hvals
    obtain ⟨c, rfl, hc⟩ := hv0.lr_g
    obtain rfl := bytes_of hc t3
    refine (keyed_calls key msg v1 t1 t2 W (hasB_of hs hv1 hk2 cut2 t4) (tab_of hg hs k0 (cut_whole hl64) htab)).mono fun e W' he => ?_
    obtain ⟨he, hb⟩ := he
    exact ⟨σ, _, he, Grow.refl _ _ _, belowS hs hb, row_of t5, hb.mono hs.hB⟩
  · cases hx
theorem enters (f : Nat) (h : ∃ fn : Func, Tryz.prog.funcs[f]? = some fn ∧ fn.body.isNone = false ∧ (fn.name == "runtime.NumGoroutine") = false) (vals : Array Value) (W : World) : (callFunc f vals).run Tryz.prog W = .ok (.enter f vals) W := by
  obtain ⟨fn, h0, h1, h2⟩ := h
  unfold callFunc
  simp only [Sem.run_bind, run_program, Result.andThen_ok, h0, h1, h2, Bool.false_eq_true, if_false, Sem.run_pure]
theorem rsum_good : Good Tryz.prog 24 (sumQ sumTab) (sumE sumTab) :=
  ⟨sumE_loc _, sumE_sound (enters _ ⟨_, Tryz.func24, by kernel_rfl, by kernel_rfl⟩) (fun M v w hM hv _ => rsum_calls M v hM w hv) sumTab_ok, sumQ_ok _⟩
theorem dkey_good : Good Tryz.prog 60 (keyQ2 keyTab) (keyE2 keyTab) := ⟨keyE2_loc _, keyE2_sound keyTab_ok, keyQ2_ok _⟩
end
end V
end Go.CE
namespace Go.CE
namespace V
open Go.Proofs Go.Proofs.YtmjblpkbfoipfaaGreatDoor Go.RowKit
section
variable [Sym]
def pairE (g : Nat → Nat → AV) : List AV → X AV := fun args => match args with
  | [.i .i64 (.ofNat a), .i .i64 (.ofNat b)] => CE.bnd (CE.chk (Nat.ble a 18 && Nat.ble b 16)) fun _ => CE.ret (g a b)
  | _ => CE.fail
theorem pairE_loc (g : Nat → Nat → AV) (x : List AV) : Loc (pairE g x) := by
  unfold pairE
  split
  · exact Loc.bnd (Loc.chk _) fun _ => Loc.ret _
  · exact Loc.fail
def usesA (a b : Nat) : AV := match usesN a b with
  | true => .b true
  | false => .b false
def limitsA (a b : Nat) : AV := .t [.i .i64 (.ofNat (limT a b).1), .i .i64 (.ofNat (limT a b).2)]
end
section
variable [Sym] [SymOk]
theorem two_vals {σ : Sg} {x y : AV} {vals : Array Value} (hl : LR σ [x, y] vals) : ∃ v0 v1, vals = #[v0, v1] ∧ VR σ x v0 ∧ VR σ y v1 := by
  have hsz : vals.size = 2 := hl.len.symm
  obtain ⟨v0, e0, hv0⟩ := hl.at (i := 0) rfl
  obtain ⟨v1, e1, hv1⟩ := hl.at (i := 1) rfl
  refine ⟨v0, v1, ?_, hv0, hv1⟩
  apply Array.ext
  · simpa using hsz
  · intro i h1 h2
    have : i = 0 ∨ i = 1 := by omega
    rcases this with rfl | rfl
    · simpa using (Array.getElem?_eq_some_iff.1 e0).2
    · simpa using (Array.getElem?_eq_some_iff.1 e1).2
theorem pairE_sound {f : Nat} {g : Nat → Nat → AV} (hen : ∀ (vals : Array Value) (W : World), (callFunc f vals).run Tryz.prog W = .ok (.enter f vals) W)
    (hcal : ∀ (a b : Nat) (w : World), a < 19 → b < 17 → Calls Tryz.prog f #[.int .i64 (a : Int), .int .i64 (b : Int)] w fun e w' => ∃ u, e = .returned u ∧ (∀ σ, VR σ (g a b) u) ∧ Below w.heap.size w w')
    (B : Nat) (σ : Sg) (m : Tr AB) (n : Nat) (l w : List LE) (W : World) (args : List AV) (v : AV) (m' : Tr AB) (n' : Nat) (l' w' : List LE) (vals : Array Value)
    (_ : GS σ) (hs : SR Tryz.prog B σ m W) (hl : LR σ args vals) (hx : pairE g args ⟨m, n, l, w⟩ = some (v, ⟨m', n', l', w'⟩)) (_ : Fresh σ n n') :
    (callFunc f vals).run Tryz.prog W = .ok (.enter f vals) W ∧ Calls Tryz.prog f vals W (Done Tryz.prog B σ n n' m' v W) := by
  refine ⟨hen vals W, ?_⟩
  unfold pairE at hx
  split at hx
  · rename_i a b
    obtain ⟨_, s1, g2, x2⟩ := bnd_of hx
    obtain ⟨hc, e1⟩ := chk_of g2
    cases e1
    obtain ⟨e1, e3⟩ := ret_of x2
    cases e1; cases e3
    simp only [Bool.and_eq_true] at hc
    obtain ⟨v0, v1, rfl, h0, h1⟩ := two_vals hl
    cases h0; cases h1
    refine (hcal a b W (by have := bleT hc.1; omega) (by have := bleT hc.2; omega)).mono fun e W' he => ?_
    obtain ⟨u, he, hu, hb⟩ := he
    exact ⟨σ, u, he, Grow.refl _ _ _, belowS hs hb, hu σ, hb.mono hs.hB⟩
  · cases hx
noncomputable def pairQ (g : Nat → Nat → AV) : LQ := fun l s k => match l with
  | [.i .i64 a, .i .i64 b] => V.iff (Nat.ble a 18 && Nat.ble b 16) (k (ofV (g a b)) s)
  | _ => none
theorem pairQ_ok (g : Nat → Nat → AV) (B : Nat) (s : CE.St) (f : QW) (x : List AV) (l : List FV) (hs : RS B s f) (h : RVs x l) : Ok B RV (pairQ g l f) (pairE g x s) := by
  obtain ⟨rfl, ho⟩ := h
  unfold pairQ
  split
  · rename_i a b
    show Ok B RV _ (CE.bnd (CE.chk (Nat.ble a 18 && Nat.ble b 16)) (fun _ => CE.ret (g a b)) s)
    refine Ok.iff fun h5 => Ok.chk h5 ?_
    exact Ok.ret (R := RV) (b := ofV (g a b)) (a := g a b) (rv_of _) hs
  · exact Ok.none
theorem uses_good : Good Tryz.prog 59 (pairQ usesA) (pairE usesA) :=
  ⟨pairE_loc _, pairE_sound (enters _ ⟨_, Tryz.func59, by kernel_rfl, by kernel_rfl⟩) (fun a b w h1 h2 => (uses_calls a b h1 h2 w).mono fun e w' he => ⟨_, he.1, (fun σ => by
    unfold usesA
    cases usesN a b
    · exact .b _
    · exact .b _), he.2⟩), pairQ_ok _⟩
theorem limits_good : Good Tryz.prog 104 (pairQ limitsA) (pairE limitsA) :=
  ⟨pairE_loc _, pairE_sound (enters _ ⟨_, Tryz.func104, by kernel_rfl, by kernel_rfl⟩) (fun a b w h1 h2 => (limits_calls a b h1 h2 w).mono fun e w' he => ⟨_, he.1, (fun σ => by
    unfold limitsA
    refine .t _ _ rfl fun i x v e1 e2 => ?_
    have hi : i < 2 := (List.getElem?_eq_some_iff.1 e1).1
    have : i = 0 ∨ i = 1 := by omega
    rcases this with rfl | rfl
    · cases e1; cases e2; exact .i _ _
    · cases e1; cases e2; exact .i _ _), he.2⟩), pairQ_ok _⟩
end
end V
end Go.CE
namespace Go.Proofs.YtmjblpkbfoipfaaGreatDoor
open Go.RowKit
set_option maxHeartbeats 400000 in
theorem number_calls (n : Int) (w : World) :
    Calls Tryz.prog 63 #[.int .i64 n] w fun e w' => ∃ b, e = .returned (.slice (some ⟨b, 0, none⟩) 8 8) ∧ w.heap.size ≤ b ∧ obj w' b = some (.cells (bRow (le8 (u64 n))) 150 (0, 0)) ∧ Below w.heap.size w w' := by
  have hw := Lib.hid (u64_wrap n)
  have hu := u64_lt n
  generalize u64 n = N at *
  go_enter Tryz.func63, Tryz.ntmps63
  repeat' (first | go_skip | go_guarded | go_step | go_upon)
  go_loopw [5] (fun i wr => ∃ k : Nat, k ≤ 8 ∧ i = .int .i64 k ∧ obj wr w.heap.size = some (.cells (bRow (leK N k)) 150 (0, 0)) ∧ Below w.heap.size w wr)
    (fun i _ => (8 - intOf i).toNat)
  case atStart =>
    refine ⟨0, by omega, rfl, ?_, (Below.refl _ _).alloc (Nat.le_refl _) _⟩
    rw [obj_alloc_at _ _ _ rfl, bRow_leK_zero]
  case round =>
    obtain ⟨k, hk, rfl, h1, hB⟩ := hrel
    have c := row_cells h1
    by_cases hlt : k < 8
    · have c0 : wr.cell? ⟨w.heap.size, k, none⟩ = some (B8 ((leK N k).getD k 0).toNat) := (c k).trans (bRow_get _ _ (by rw [leK_length _ _ hk]; exact hlt))
      have f0 := row_free h1 k
      have HV := Lib.hid (byte_val' N k)
      have HS := Lib.hid (leK_set N k hlt)
      have p0 : 0 ≤ 8 * (k : Int) := by omega
      have p1 : 8 * (k : Int) ≤ 64 := by omega
      have n0 : (8 * (k : Int)).toNat = 8 * k := by omega
      clear c
      repeat' (first | go_skip | go_guarded | go_step | go_upon)
      go_roundw
      case rel =>
        refine ⟨k + 1, by omega, by go_num, ?_, hB.setCell (by simp) _⟩
        rw [obj_setCell_at, h1, hw.out, HV.out, ← HS.out, ← bRow_set]; rfl
      case measure => simp [intOf]; omega
    · have h1' : obj wr w.heap.size = some (.cells (bRow (le8 N)) 150 (0, 0)) := by rw [h1, show k = 8 by omega, leK_full]
      repeat' (first | go_skip | go_guarded | go_step | go_upon)
      go_ret
      exact ⟨_, rfl, Nat.le_refl _, h1', hB⟩
def isSrv (n : Int) : Bool := decide (0 ≤ n) && decide (n < 16)
set_option maxHeartbeats 400000 in
theorem isServer_calls (n : Int) (w : World) : Calls Tryz.prog 62 #[.int .i64 n] w fun e w' => e = .returned (.bool (isSrv n)) ∧ w' = w := by
  by_cases h : 0 ≤ n
  · go_enter Tryz.func62, Tryz.ntmps62
    repeat' (first | go_skip | go_guarded | go_step | go_upon)
    go_ret
    exact ⟨by simp [isSrv, h], rfl⟩
  · go_enter Tryz.func62, Tryz.ntmps62
    repeat' (first | go_skip | go_guarded | go_step | go_upon)
    go_ret
    exact ⟨by simp [isSrv, h], rfl⟩
end Go.Proofs.YtmjblpkbfoipfaaGreatDoor
namespace Go.CE
namespace V
open Go.Proofs Go.Proofs.YtmjblpkbfoipfaaGreatDoor Go.RowKit
section
variable [Sym] [SymOk]
theorem SR.freshW {P : Program} {B : Nat} {σ : Sg} {m : Tr AB} {W W' : World} (hs : SR P B σ m W) (hW : Below W.heap.size W W') {k : Nat} {q : Pl} {x : AB} {o : Obj} (hk : σ k = none) (hq : W.heap.size ≤ q.b) (ho : W'.heap[q.b]? = some o) (hx : BR P (σ.add k q) k q x o) :
    SR P B (σ.add k q) (m.set k (some x)) W' := by
  have hle := Sg.le_add (q := q) hk
  have old : ∀ j y, m.get j = some y → ∃ p o, σ j = some p ∧ p.b < W.heap.size ∧ W.heap[p.b]? = some o ∧ BR P σ j p y o := fun j y hj => by
    obtain ⟨p, o, h1, h2, h3⟩ := hs.mr j y hj
    exact ⟨p, o, h1, (Array.getElem?_eq_some_iff.1 h2).1, h2, h3⟩
  refine ⟨fun j y hj => ?_, fun i j p1 p2 hi hj s1 s2 he => ?_, fun j p hj hr => ?_, Nat.le_trans hs.hB hW.size⟩
  · rw [Tr.get_set] at hj
    by_cases h : j = k
    · subst h
      rw [if_pos rfl] at hj; cases hj
      exact ⟨q, o, by simp [Sg.add], ho, hx⟩
    · rw [if_neg h] at hj
      obtain ⟨p, o', h1, h2, h3, h4⟩ := old j y hj
      exact ⟨p, o', hle _ _ h1, (hW.block p.b h2).trans h3, h4.mono hle⟩
  · have key : ∀ j p, (m.set k (some x)).get j ≠ none → σ.add k q j = some p → (j = k ∧ p.b = q.b) ∨ (j ≠ k ∧ m.get j ≠ none ∧ σ j = some p ∧ p.b < W.heap.size) := fun j p hj hσ => by
      rw [Tr.get_set] at hj
      unfold Sg.add at hσ
      by_cases h : j = k
      · rw [if_pos h] at hσ; cases hσ; exact .inl ⟨h, rfl⟩
      · rw [if_neg h] at hσ hj
        obtain ⟨y, hy⟩ := Option.ne_none_iff_exists'.1 hj
        obtain ⟨p', o', h1, h2, _⟩ := old j y hy
        rw [hσ] at h1; cases h1
        exact .inr ⟨h, hj, hσ, h2⟩
    rcases key i p1 hi s1 with ⟨rfl, hb⟩ | ⟨_, a1, a2, a3⟩ <;> rcases key j p2 hj s2 with ⟨rfl, hb'⟩ | ⟨_, c1, c2, c3⟩
    · rfl
    · omega
    · omega
    · exact hs.inj i j p1 p2 a1 c1 a2 c2 he
  · unfold Sg.add at hj
    by_cases h : j = k
    · rw [if_pos h] at hj; cases hj; exact Nat.le_trans hs.hB hq
    · rw [if_neg h] at hj; exact hs.ro j p hj hr
end
def le8N (n : Nat) : List Nat := [n % 256, n >>> 8 % 256, n >>> 16 % 256, n >>> 24 % 256, n >>> 32 % 256, n >>> 40 % 256, n >>> 48 % 256, n >>> 56 % 256]
theorem le8_nats (n : Nat) : natsOf (le8 n) = le8N n := by
  unfold natsOf le8 le8N
  rw [List.map_map]
  simp only [Function.comp_def, u8_ofNat_toNat]
  rfl
section
variable [Sym]
noncomputable def numE : List AV → X AV := fun args => match args with
  | [.i .i64 (.ofNat n)] => CE.bnd (CE.chk (Nat.ble n 9223372036854775807)) fun _ => CE.bnd (newB false (.cells ((le8N n).map byteN) 150)) fun k => CE.ret (.sl (some (k, 0)) 8 8)
  | _ => CE.fail
theorem numE_loc (x : List AV) : Loc (numE x) := by
  unfold numE
  split
  · exact Loc.bnd (Loc.chk _) fun _ => Loc.bnd (Loc.newB _ _) fun _ => Loc.ret _
  · exact Loc.fail
end
section
variable [Sym] [SymOk]
theorem numE_sound (B : Nat) (σ : Sg) (m : Tr AB) (n : Nat) (l w : List LE) (W : World) (args : List AV) (v : AV) (m' : Tr AB) (n' : Nat) (l' w' : List LE) (vals : Array Value)
    (_ : GS σ) (hs : SR Tryz.prog B σ m W) (hl : LR σ args vals) (hx : numE args ⟨m, n, l, w⟩ = some (v, ⟨m', n', l', w'⟩)) (hfr : Fresh σ n n') :
    (callFunc 63 vals).run Tryz.prog W = .ok (.enter 63 vals) W ∧ Calls Tryz.prog 63 vals W (Done Tryz.prog B σ n n' m' v W) := by
  refine ⟨enters _ ⟨_, Tryz.func63, by kernel_rfl, by kernel_rfl⟩ vals W, ?_⟩
  unfold numE at hx
  split at hx
  · rename_i N
    obtain ⟨_, s1, g2, x2⟩ := bnd_of hx
    obtain ⟨hc, e1⟩ := chk_of g2
    cases e1
    obtain ⟨k, ⟨m1, n1, l1, w1⟩, g3, x3⟩ := bnd_of x2
    obtain ⟨rfl, rfl, rfl⟩ := newB_of g3
    obtain ⟨e1, e3⟩ := ret_of x3
    cases e1; cases e3
    have hsz : vals.size = 1 := hl.len.symm
    obtain ⟨v0, e0, hv0⟩ := hl.at (i := 0) rfl
    have hvals : vals = #[v0] := by
      apply Array.ext
      · simpa using hsz
      · intro i h1 h2
        have : i = 0 := by omega
        subst this
        simpa using (Array.getElem?_eq_some_iff.1 e0).2
    subst hvals
    cases hv0
    have hN := bleT hc
    have hk : σ (idOf false n) = none := hfr _ (idOf_lo false n).1 (idOf_lo false n).2
    refine (number_calls (Int.ofNat N) W).mono fun e W' he => ?_
    obtain ⟨b, he, hb, ho, hB⟩ := he
    have hu : u64 (Int.ofNat N) = N := by unfold u64; show ((N : Int) % 18446744073709551616).toNat = N; omega
    rw [hu] at ho
    have hlr : ∀ τ, LR τ ((le8N N).map byteN) (bRow (le8 N)) := fun τ => by
      rw [← le8_nats, byteN_nats]
      have := row_of (σ := τ) (rs := (le8 N).map byteA) (l := le8 N) (by rw [List.map_map]; rfl)
      cases this with
      | g _ _ hl h => exact ⟨hl, h⟩
    have hS := SR.freshW hs hB (k := idOf false n) (q := ⟨b, 0, 0, 0⟩) hk hb ho (BR.cells (hlr _) (gw_idOf false n))
    refine ⟨σ.add (idOf false n) ⟨b, 0, 0, 0⟩, _, he, Grow.add hk (idOf_lo false n), hS, ?_, hB.mono hs.hB⟩
    exact .sl _ 0 8 8 8 ⟨b, 0, 0, 0⟩ (by simp [Sg.add]) (Nat.le_refl _) (fun _ => rfl) (fun h => by rw [gw_idOf] at h; cases h)
  · cases hx
noncomputable def numQ : LQ := fun l s k => match l with
  | [.i .i64 n] => V.iff (Nat.ble n 9223372036854775807) (allN (le8N n) fun bs => newC false (.cells (treeOf (bs.map byteN)) 8 150) s fun q i s => k (.s q i 0 8 8) s)
  | _ => none
theorem numQ_ok (B : Nat) (s : CE.St) (f : QW) (x : List AV) (l : List FV) (hs : RS B s f) (h : RVs x l) : Ok B RV (numQ l f) (numE x s) := by
  obtain ⟨rfl, ho⟩ := h
  unfold numQ
  split
  · rename_i n
    show Ok B RV _ (CE.bnd (CE.chk (Nat.ble n 9223372036854775807)) (fun _ => CE.bnd (newB false (.cells ((le8N n).map byteN) 150)) fun k => CE.ret (.sl (some (k, 0)) 8 8)) s)
    refine Ok.iff fun h5 => Ok.chk h5 ?_
    simp only [allN_eq]
    have hc := cells_tree ((le8N n).map byteN) rfl
    have h8 : ((le8N n).map byteN).length = 8 := rfl
    rw [h8] at hc
    exact ok_newCells hs false 150 hc.1 hc.2 (R := RV) (x := fun q i s (k : FV → QW → Ans) => k (FV.s q i 0 8 8) s) (y := fun k => CE.ret (.sl (some (k, 0)) 8 8)) fun i f s hs =>
      Ok.ret (R := RV) (b := .s (p4 i) i 0 8 8) (a := .sl (some (i, 0)) 8 8) (rv_s i 0 8 8) hs
  · exact Ok.none
theorem num_good : Good Tryz.prog 63 numQ numE := ⟨numE_loc, numE_sound, numQ_ok⟩
end
end V
end Go.CE
