/-
  The law of kalendsref29.Keys: five digests that the kernel reckons once.
-/
import Derived.Test.YtednpkiegiiimaaGreatDoorPkLetB
import Derived.Test.YtednpkiegiiimaaGreatDoorPkTab
set_option linter.unusedSectionVars false
set_option linter.constructorNameAsVariable false
set_option linter.unusedVariables false
set_option linter.unusedSimpArgs false
namespace Go.CE
namespace V
open Go.Proofs Go.Proofs.YtednpkiegiiimaaGreatDoor Go.RowKit
set_option maxRecDepth 100000
/-- A slice of elements of z cells that reaches to its block's end. -/
def SlZ (B : Nat) (W : World) (v : Value) (T z n : Nat) (vs : List Value) : Prop := ∃ b o c row, v = .slice (some ⟨b, o, none⟩) n c ∧ B ≤ b ∧ W.heap[b]? = some (.cells row T (0, 0)) ∧ o + c * z = row.size ∧ n ≤ c ∧ vs.length = n * z ∧ ∀ i, i < vs.length → row[o + i]? = vs[i]?
section
variable [Sym] [SymOk]
theorem slz_of {T B z : Nat} {P : Program} {τ : Sg} {s' : CE.St} {f' : QW} {W' : World} {q : P4} {k o n c : Nat} {l : List AV} {u : Value} (hz0 : 0 < z) (hT : P.cellsOf T = z) (hrs : RS 2048 s' f') (hsr : SR P B τ s'.mem W') (hq : q = p4 k) (hk : 2048 ≤ k) (hgw : gw k = true) (hn : l.length = n * z)
    (hb : blkL T (getM q f'.m) o l.length = some l) (hix : l.all isIX = true) (hv : VR τ (.sl (some (k, o)) n c) u) : SlZ B W' u T z n (l.map valX) := by
  subst hq
  unfold blkL at hb
  split at hb
  · rename_i t m U hm
    split at hb
    · rename_i hc
      simp only [Bool.and_eq_true] at hc
      have hle : o + l.length ≤ m := Nat.le_of_ble_eq_true hc.1
      have hU : T = U := Nat.eq_of_beq_eq_true hc.2
      subst hU
      have hl : cellsV t o l.length = l := Option.some.inj hb
      have hR := hrs.m k
      rw [hm] at hR
      generalize hg : s'.mem.get k = y at hR
      cases hR
      obtain ⟨Q, ob, hQ, hh, cs, hcs, _, h2, h3, h4⟩ := hsr.mr k _ hg
      obtain ⟨h2a, h2b⟩ := h2 hgw
      have h3' : Q.d + m ≤ cs.size := by simpa [len_cellsV] using h3
      cases hv with
      | sl _ _ _ _ c' Q' hQ' hcle _ hz =>
        rw [hQ] at hQ'; cases hQ'
        have hz := hz hgw
        rw [← h2b, hT] at hz
        refine ⟨Q.b, o + Q.d, c', cs, rfl, hsr.ro k Q hQ hk, by rw [hh, hcs], by omega, ?_, by rw [List.length_map]; exact hn, fun i hi => ?_⟩
        · have : n * z ≤ c' * z := by omega
          exact Nat.le_of_mul_le_mul_right this hz0
        · rw [List.length_map] at hi
          have hx : (cellsV t 0 m)[o + i]? = some (l[i]'(by omega)) := by
            rw [cellsV_get t m o l.length i hi hle, hl, List.getElem?_eq_getElem]
          have hlt : Q.d + (o + i) < cs.size := by omega
          have hvr := h4 (o + i) _ cs[Q.d + (o + i)] hx (Array.getElem?_eq_getElem hlt)
          have := vr_valX hvr (List.all_eq_true.1 hix _ (List.getElem_mem _))
          rw [show o + Q.d + i = Q.d + (o + i) by omega, Array.getElem?_eq_getElem hlt, this]
          rw [List.getElem?_map, List.getElem?_eq_getElem (show i < l.length by omega)]
          rfl
    · cases hb
  · cases hb
theorem new_slz {B : Nat} {σ : Sg} {m : Tr AB} {n1 z n : Nat} {W W' : World} {T : Nat} {l : List AV} {s : Value} (hT : Tryz.prog.cellsOf T = z) (hs : SR Tryz.prog B σ m W) (hB : Below W.heap.size W W') (hk : σ (idOf true n1) = none) (hix : l.all isIX = true) (hn : l.length = n * z) (hsl : SlZ W.heap.size W' s T z n (l.map valX)) :
    ∃ q, SR Tryz.prog B (σ.add (idOf true n1) q) (m.set (idOf true n1) (some (.cells l T))) W' ∧ VR (σ.add (idOf true n1) q) (.sl (some (idOf true n1, 0)) n n) s := by
  obtain ⟨b, o, c, row, rfl, hbb, ho, hoc, hlc, hl0, hge⟩ := hsl
  rw [List.length_map] at hge hl0
  have hle : n * z ≤ c * z := Nat.mul_le_mul_right z hlc
  refine ⟨⟨b, o, row.size, z⟩, SR.freshW hs hB hk hbb ho ⟨row, rfl, (fun h => by rw [gw_idOf] at h; cases h), (fun _ => ⟨rfl, hT⟩), by show o + l.length ≤ row.size; omega, fun i a v e1 e2 => ?_⟩, ?_⟩
  · have hi : i < l.length := (List.getElem?_eq_some_iff.1 e1).1
    have e2 : row[o + i]? = some v := e2
    rw [hge i hi, List.getElem?_map, e1] at e2
    cases e2
    exact valX_vr _ (List.all_eq_true.1 hix a (List.mem_of_getElem? e1))
  · have := VR.sl (σ := σ.add (idOf true n1) ⟨b, o, row.size, z⟩) (idOf true n1) 0 n n c ⟨b, o, row.size, z⟩ (by simp [Sg.add]) hlc (fun h => by rw [gw_idOf] at h; cases h) (fun _ => by show 0 + o + c * z = row.size; omega)
    simpa using this
end
section
variable [Sym]
def sum2E (tab : List AV → Option (List AV)) : List AV → X AV := fun args => match args with
  | [.sl (some (k2, o2)) n _] => CE.bnd (rdK k2 o2 n) fun b => CE.bnd (CE.lift (tab b)) fun rs => CE.ret (.g rs)
  | _ => CE.fail
theorem sum2E_loc (tab : List AV → Option (List AV)) (x : List AV) : Loc (sum2E tab x) := by
  unfold sum2E
  split
  · exact Loc.bnd (Loc.rdK _ _ _) fun _ => Loc.bnd (Loc.lift _) fun _ => Loc.ret _
  · exact Loc.fail
end
section
variable [Sym] [SymOk]
theorem sum2E_sound {f : Nat} (hen : ∀ (vals : Array Value) (W : World), (callFunc f vals).run Tryz.prog W = .ok (.enter f vals) W)
    (hcal : ∀ (M : List UInt8) (v : Value) (w : World), M.length ≤ 1099511627776 → HasB w v M → Calls Tryz.prog f #[v] w fun e w' => e = .returned (.agg (bRow (shaB M))) ∧ Below w.heap.size w w')
    {tab : List AV → Option (List AV)} (ht : TabOk1 shaB tab) (B : Nat) (σ : Sg) (m : Tr AB) (n : Nat) (l w : List LE) (W : World) (args : List AV) (v : AV) (m' : Tr AB) (n' : Nat) (l' w' : List LE) (vals : Array Value)
    (_ : GS σ) (hs : SR Tryz.prog B σ m W) (hl : LR σ args vals) (hx : sum2E tab args ⟨m, n, l, w⟩ = some (v, ⟨m', n', l', w'⟩)) (_ : Fresh σ n n') :
    (callFunc f vals).run Tryz.prog W = .ok (.enter f vals) W ∧ Calls Tryz.prog f vals W (Done Tryz.prog B σ n n' m' v W) := by
  refine ⟨hen vals W, ?_⟩
  unfold sum2E at hx
  split at hx
  · rename_i k2 o2 len cp
    obtain ⟨b, ⟨m2, n2, l2, w2⟩, g3, x3⟩ := bnd_of hx
    obtain ⟨e1, e2, c2, T2, hk2, cut2⟩ := rdK_of g3
    cases e1; cases e2
    obtain ⟨rs, s1, g4, x4⟩ := bnd_of x3
    obtain ⟨hrs, e1⟩ := lift_of g4
    cases e1
    obtain ⟨e1, e3⟩ := ret_of x4
    cases e1; cases e3
    obtain ⟨msg, t2, t4, t5⟩ := ht _ _ hrs
    obtain ⟨v0, rfl, hv0⟩ := one_val hl
    refine (hcal msg v0 W (by omega) (hasB_of hs hv0 hk2 cut2 t4)).mono fun e W' he => ?_
    obtain ⟨he, hb⟩ := he
    exact ⟨σ, _, he, Grow.refl _ _ _, belowS hs hb, row_of t5, hb.mono hs.hB⟩
  · cases hx
noncomputable def sum2Q (tab : List AV → Option (List AV)) : LQ := fun l s k => match l with
  | [.s _ i2 o2 m _] => rdnC (p4 i2) i2 o2 m s fun b s => match absV b with
    | .g bl => opt (tab bl) fun rs => V.iff (allsc rs) (k (.g (treeOf rs) rs.length) s)
    | _ => none
  | _ => none
theorem sum2Q_ok (tab : List AV → Option (List AV)) (B : Nat) (s : CE.St) (f : QW) (x : List AV) (l : List FV) (hs : RS B s f) (h : RVs x l) : Ok B RV (sum2Q tab l f) (sum2E tab x s) := by
  obtain ⟨rfl, ho⟩ := h
  unfold sum2Q
  split
  · rename_i q2 i2 o2 m c
    have hq2 : q2 = p4 i2 := ho (.s q2 i2 o2 m c) (by simp)
    subst hq2
    show Ok B RV _ (CE.bnd (rdK i2 o2 m) (fun b => CE.bnd (CE.lift (tab b)) fun rs => CE.ret (.g rs)) s)
    refine Ok.bnd (ok_rdn hs i2 o2 m) fun b f a s h hs => ?_
    obtain ⟨t2, rfl, rfl, ht2⟩ := h
    refine Ok.opt fun rs hrs => Ok.lift hrs ?_
    refine Ok.iff fun h5 => ?_
    have hc := cells_tree rs h5
    exact Ok.ret (R := RV) (b := .g (treeOf rs) rs.length) (a := .g rs) ⟨congrArg AV.g hc.1.symm, hc.2⟩ hs
  · exact Ok.none
theorem rsum2_good : Good Tryz.prog 56 (sum2Q sumTab) (sum2E sumTab) :=
  ⟨sum2E_loc _, sum2E_sound (enters _ ⟨_, Tryz.func56, by kernel_rfl, by kernel_rfl⟩) (fun M v w h1 h2 => rsum_calls M v h1 w h2) sumTab_ok, sum2Q_ok _⟩
noncomputable def tK : LT := .n 56 (sum2Q sumTab) (sum2E sumTab) .e .e
theorem allK : tK.all (Good Tryz.prog) := ⟨rsum2_good, trivial, trivial⟩
end
def keysL : List Nat := [46, 205, 138, 107, 125, 40, 69, 84, 102, 89, 173, 76, 244, 67, 83, 60, 249, 33, 177, 157, 200, 31, 168, 57, 52, 232, 56, 33, 180, 223, 220, 183, 202, 108, 101, 136, 250, 1, 23, 27, 32, 7, 64, 52, 77, 53, 78, 133, 72, 183, 71, 0, 97, 251, 50, 163, 79, 79, 238, 228, 112, 236, 40, 31, 206, 67, 238, 68, 3, 147, 132, 84, 151, 124, 209, 16, 54, 62, 7, 113, 81, 108, 24, 126, 71, 175, 212, 72, 89, 38, 17, 61, 138, 159, 15, 107, 72, 152, 109, 133, 248, 192, 160, 96, 30, 247, 196, 74, 252, 147, 157, 208, 168, 176, 237, 123, 195, 9, 199, 227, 115, 203, 15, 233, 78, 48, 199, 170, 175, 110, 122, 143, 105, 151, 52, 131, 67, 217, 224, 231, 24, 246, 151, 229, 236, 95, 191, 121, 185, 245, 64, 219, 129, 30, 111, 131, 208, 150, 239, 115]
noncomputable def isKeys (r : Ans) : Bool := match r with
  | some (.s q k o 5 _, f) => Nat.ble 2048 k && gw k && optL (blkL 51 (getM q f.m) o 160) (keysL.map byteN)
  | _ => false
@[reducible] def S00 : Sym := { val := fun _ => 0, bin := fun _ _ _ _ _ => none, cv := fun _ _ => none }
set_option maxRecDepth 100000 in
theorem keys_run : isKeys (@evF S00 Tryz.prog (LT.fq tK) 4000 7 [] ⟨.e, 1024, 2048, [], []⟩) = true := by decide +kernel
theorem cells_dig : Tryz.prog.cellsOf 51 = 32 := by kernel_rfl
theorem keys_calls (W : World) : Calls Tryz.prog 7 #[] W fun e W' => ∃ s, e = .returned s ∧ SlZ W.heap.size W' s 51 32 5 (keysL.map fun n => Value.int .u8 (.ofNat n)) ∧ Below W.heap.size W W' := by
  letI : Sym := S00
  haveI hok : SymOk := Sn_ok
  have hrun := keys_run
  unfold isKeys at hrun
  split at hrun
  · rename_i q k o c f' he
    simp only [Bool.and_eq_true] at hrun
    obtain ⟨⟨r1, r2⟩, r3⟩ := hrun
    have r1 : 2048 ≤ k := Nat.le_of_ble_eq_true r1
    unfold optL at r3
    split at r3
    · rename_i mm hb
      obtain rfl := avL_eq r3
      refine (run_calls (a := []) (l := []) allK rs_e gsg_gs (sr_e W) (fun j hj => gsg_none (by omega)) ⟨rfl, (fun _ h => by cases h)⟩ (LR.nil _) he).mono fun e W' hd => ?_
      obtain ⟨τ, u, s', rfl, hov, hrs', _, hsr', hvu, hbel⟩ := hd
      have hq : q = p4 k := hov
      have := slz_of (B := W.heap.size) (l := keysL.map byteN) (z := 32) (n := 5) (by decide) cells_dig hrs' hsr' hq r1 r2 (by decide) hb (by decide) hvu
      refine ⟨u, rfl, ?_, hbel⟩
      rwa [List.map_map] at this
    · cases r3
  · cases hrun
section
variable [Sym]
def keysE : List AV → X AV := fun args => match args with
  | [] => CE.bnd (newB true (.cells (keysL.map byteN) 51)) fun k => CE.ret (.sl (some (k, 0)) 5 5)
  | _ => CE.fail
theorem keysE_loc (x : List AV) : Loc (keysE x) := by
  unfold keysE
  split
  · exact Loc.bnd (Loc.newB _ _) fun _ => Loc.ret _
  · exact Loc.fail
end
section
variable [Sym] [SymOk]
theorem keysE_sound (B : Nat) (σ : Sg) (m : Tr AB) (n : Nat) (l w : List LE) (W : World) (args : List AV) (v : AV) (m' : Tr AB) (n' : Nat) (l' w' : List LE) (vals : Array Value)
    (_ : GS σ) (hs : SR Tryz.prog B σ m W) (hl : LR σ args vals) (hx : keysE args ⟨m, n, l, w⟩ = some (v, ⟨m', n', l', w'⟩)) (hfr : Fresh σ n n') :
    (callFunc 7 vals).run Tryz.prog W = .ok (.enter 7 vals) W ∧ Calls Tryz.prog 7 vals W (Done Tryz.prog B σ n n' m' v W) := by
  refine ⟨enters _ ⟨_, Tryz.func7, by kernel_rfl, by kernel_rfl⟩ vals W, ?_⟩
  unfold keysE at hx
  split at hx
  · obtain ⟨k, ⟨m7, n7, l7, w7⟩, g7, x7⟩ := bnd_of hx
    obtain ⟨rfl, rfl, rfl⟩ := newB_of g7
    obtain ⟨e1, e3⟩ := ret_of x7
    cases e1; cases e3
    have hk : σ (idOf true n) = none := hfr _ (idOf_lo true n).1 (idOf_lo true n).2
    obtain rfl : vals = #[] := by
      have : vals.size = 0 := hl.len.symm
      exact Array.eq_empty_of_size_eq_zero this
    refine (keys_calls W).mono fun e W' he => ?_
    obtain ⟨s, he, hsl, hB⟩ := he
    have hsl : SlZ W.heap.size W' s 51 32 5 ((keysL.map byteN).map valX) := by rw [List.map_map]; exact hsl
    obtain ⟨q, hS, hv⟩ := new_slz (l := keysL.map byteN) (n := 5) (z := 32) cells_dig hs hB hk (by decide) (by decide) hsl
    exact ⟨σ.add (idOf true n) q, _, he, Grow.add hk (idOf_lo true n), hS, hv, hB.mono hs.hB⟩
  · cases hx
noncomputable def keysQ : LQ := fun l s k => match l with
  | [] => newC true (.cells (treeOf (keysL.map byteN)) 160 51) s fun q i s => k (.s q i 0 5 5) s
  | _ => none
theorem keysQ_ok (B : Nat) (s : CE.St) (f : QW) (x : List AV) (l : List FV) (hs : RS B s f) (h : RVs x l) : Ok B RV (keysQ l f) (keysE x s) := by
  obtain ⟨rfl, ho⟩ := h
  unfold keysQ
  split
  · show Ok B RV _ (CE.bnd (newB true (.cells (keysL.map byteN) 51)) (fun k => CE.ret (.sl (some (k, 0)) 5 5)) s)
    have hc := cells_tree (keysL.map byteN) (allsc_bytes _)
    have h160 : (keysL.map byteN).length = 160 := rfl
    rw [h160] at hc
    exact ok_newCells hs true 51 hc.1 hc.2 (R := RV) (x := fun q i s (k : FV → QW → Ans) => k (FV.s q i 0 5 5) s) (y := fun k => CE.ret (.sl (some (k, 0)) 5 5)) fun i f s hs =>
      Ok.ret (R := RV) (b := .s (p4 i) i 0 5 5) (a := .sl (some (i, 0)) 5 5) (rv_s i 0 5 5) hs
  · exact Ok.none
theorem keys_good : Good Tryz.prog 7 keysQ keysE := ⟨keysE_loc, keysE_sound, keysQ_ok⟩
end
end V
end Go.CE
namespace Go.CE
namespace V
open Go.Proofs Go.Proofs.YtednpkiegiiimaaGreatDoor Go.RowKit
section
variable [Sym]
def rdPs : List AV → X (List (List AV))
  | [] => CE.ret []
  | .sl (some (k, o)) n _ :: l => CE.bnd (rdK k o n) fun b => CE.bnd (rdPs l) fun bs => CE.ret (b :: bs)
  | _ => CE.fail
theorem rdPs_loc : ∀ l : List AV, Loc (rdPs l) := by
  intro l
  induction l with
  | nil => exact Loc.ret _
  | cons a l ih =>
    cases a with
    | sl a n c =>
      cases a with
      | none => exact Loc.fail
      | some p => exact Loc.bnd (Loc.rdK _ _ _) fun _ => Loc.bnd ih fun _ => Loc.ret _
    | _ => exact Loc.fail
def hashE (tab : List AV → Option (List AV)) : List AV → X AV := fun args => match args with
  | [.sl (some (k, o)) n _] => CE.bnd rdTab fun _ => CE.bnd (CE.chk (Nat.ble n 1000000)) fun _ => CE.bnd (rdK k o n) fun ps => CE.bnd (rdPs ps) fun bs => CE.bnd (CE.lift (tab bs.flatten)) fun rs => CE.ret (.g rs)
  | _ => CE.fail
theorem hashE_loc (tab : List AV → Option (List AV)) (x : List AV) : Loc (hashE tab x) := by
  unfold hashE
  split
  · exact Loc.bnd Loc_rdTab fun _ => Loc.bnd (Loc.chk _) fun _ => Loc.bnd (Loc.rdK _ _ _) fun _ => Loc.bnd (rdPs_loc _) fun _ => Loc.bnd (Loc.lift _) fun _ => Loc.ret _
  · exact Loc.fail
end
section
variable [Sym] [SymOk]
theorem split_msg : ∀ {bs : List (List AV)} {msg : List UInt8}, bs.flatten.map den = msg.map byteA → ∃ ls : List (List UInt8), ls.flatten = msg ∧ ls.length = bs.length ∧ ∀ i (h1 : i < bs.length) (h2 : i < ls.length), bs[i].map den = ls[i].map byteA := by
  intro bs
  induction bs with
  | nil => intro msg h; exact ⟨[], by simpa using h.symm, rfl, fun i h => by simp at h⟩
  | cons b bs ih =>
    intro msg h
    rw [List.flatten_cons, List.map_append] at h
    have hl : b.length ≤ msg.length := by have := congrArg List.length h; simp at this; omega
    have h1 : b.map den = (msg.take b.length).map byteA := by
      have := congrArg (List.take b.length) h
      rw [List.take_left' (by simp), ← List.map_take] at this
      exact this
    have h2 : bs.flatten.map den = (msg.drop b.length).map byteA := by
      have := congrArg (List.drop b.length) h
      rw [List.drop_left' (by simp), ← List.map_drop] at this
      exact this
    obtain ⟨ls, e1, e2, e3⟩ := ih h2
    refine ⟨msg.take b.length :: ls, by rw [List.flatten_cons, e1, List.take_append_drop], by simp [e2], fun i q1 q2 => ?_⟩
    cases i with
    | zero => exact h1
    | succ i => exact e3 i (by simpa using q1) (by simpa using q2)
/-- The parts in the real world. -/
theorem rdPs_of {P : Program} {B : Nat} {σ : Sg} {m : Tr AB} {W : World} (hs : SR P B σ m W) : ∀ (ps : List AV) {bs : List (List AV)} {m1 : Tr AB} {n n1 : Nat} {l w l1 w1 : List LE}, rdPs ps ⟨m, n, l, w⟩ = some (bs, ⟨m1, n1, l1, w1⟩) →
    m1 = m ∧ n1 = n ∧ bs.length = ps.length ∧ ∀ i (h1 : i < ps.length) (h2 : i < bs.length), ∀ (v : Value) (msg : List UInt8), VR σ ps[i] v → bs[i].map den = msg.map byteA → HasB W v msg := by
  intro ps
  induction ps with
  | nil =>
    intro bs m1 n n1 l w l1 w1 h
    obtain ⟨e1, e2⟩ := ret_of h
    cases e1; cases e2
    exact ⟨rfl, rfl, rfl, fun i h => by simp at h⟩
  | cons a ps ih =>
    intro bs m1 n n1 l w l1 w1 h
    cases a with
    | sl a nn c =>
      cases a with
      | none => cases h
      | some p =>
        obtain ⟨k, o⟩ := p
        obtain ⟨b, ⟨m2, n2, l2, w2⟩, g1, x1⟩ := bnd_of h
        obtain ⟨e1, e2, c2, T2, hk2, cut2⟩ := rdK_of g1
        cases e1; cases e2
        obtain ⟨bs2, ⟨m3, n3, l3, w3⟩, g2, x2⟩ := bnd_of x1
        obtain ⟨e1, e2⟩ := ret_of x2
        cases e1; cases e2
        obtain ⟨rfl, rfl, q1, q2⟩ := ih g2
        refine ⟨rfl, rfl, by simp [q1], fun i h1 h2 v msg hv hm => ?_⟩
        cases i with
        | zero => exact hasB_of hs hv hk2 cut2 hm
        | succ i => exact q2 i (by simpa using h1) (by simpa using h2) v msg hv hm
    | _ => cases h
theorem hashE_sound {tab : List AV → Option (List AV)} (ht : TabOk1 shaB tab) (B : Nat) (σ : Sg) (m : Tr AB) (n : Nat) (l w : List LE) (W : World) (args : List AV) (v : AV) (m' : Tr AB) (n' : Nat) (l' w' : List LE) (vals : Array Value)
    (hg : GS σ) (hs : SR Tryz.prog B σ m W) (hl : LR σ args vals) (hx : hashE tab args ⟨m, n, l, w⟩ = some (v, ⟨m', n', l', w'⟩)) (_ : Fresh σ n n') :
    (callFunc 92 vals).run Tryz.prog W = .ok (.enter 92 vals) W ∧ Calls Tryz.prog 92 vals W (Done Tryz.prog B σ n n' m' v W) := by
  refine ⟨enters _ ⟨_, Tryz.func92, by kernel_rfl, by kernel_rfl⟩ vals W, ?_⟩
  unfold hashE at hx
  split at hx
  · rename_i k o nn cp
    obtain ⟨_, ⟨m1, n1, l1, w1⟩, g1, x2⟩ := bnd_of hx
    obtain ⟨e1, e2, e3, e4, c0, T0, k0, hl64, htab⟩ := rdTab_of g1
    cases e1; cases e2; cases e3; cases e4
    obtain ⟨_, s0, g0, x2⟩ := bnd_of x2
    obtain ⟨hnn, e0⟩ := chk_of g0
    cases e0
    obtain ⟨ps, ⟨m2, n2, l2, w2⟩, g3, x3⟩ := bnd_of x2
    obtain ⟨e1, e2, c2, T2, hk2, cut2⟩ := rdK_of g3
    cases e1; cases e2
    obtain ⟨bs, ⟨m3, n3, l3, w3⟩, g4, x4⟩ := bnd_of x3
    obtain ⟨rfl, rfl, q1, q2⟩ := rdPs_of hs ps g4
    obtain ⟨rs, s1, g5, x5⟩ := bnd_of x4
    obtain ⟨hrs, e1⟩ := lift_of g5
    cases e1
    obtain ⟨e1, e3⟩ := ret_of x5
    cases e1; cases e3
    obtain ⟨msg, t2, t4, t5⟩ := ht _ _ hrs
    obtain ⟨v0, rfl, hv0⟩ := one_val hl
    obtain ⟨ls, r1, r2, r3⟩ := split_msg t4
    subst r1
    obtain ⟨hcn, hcg⟩ := cut_of cut2
    have hP : PartsAt W v0 ls := by
      cases hv0 with
      | sl _ _ _ _ c' Q hQ _ _ _ =>
        obtain ⟨Q', ob, hQ', hh, row, hrow, _, _, h3, h4⟩ := hs.mr k _ hk2
        rw [hQ] at hQ'; cases hQ'
        refine ⟨Q.b, o + Q.d, c', by rw [show ls.length = nn by omega], (Array.getElem?_eq_some_iff.1 hh).1, fun i hi => ?_⟩
        have hi2 : i < ps.length := by omega
        have hx := hcg i (by omega)
        rw [List.getElem?_eq_getElem hi2] at hx
        have hlt : o + i < c2.length := (List.getElem?_eq_some_iff.1 hx).1
        have hvr := h4 (o + i) _ row[Q.d + (o + i)] hx (Array.getElem?_eq_getElem (by omega))
        have hB := q2 i hi2 (by omega) _ ls[i] hvr (r3 i (by omega) hi)
        obtain ⟨ao, n0, c0', e1, e2, e3, e4⟩ := hB
        refine ⟨ao, n0, c0', ?_, e2, e3, e4⟩
        have : W.cell? ⟨Q.b, o + Q.d + i, none⟩ = row[o + Q.d + i]? := by
          unfold World.cell?
          rw [hh, hrow]
          rfl
        rw [this, show o + Q.d + i = Q.d + (o + i) by omega, Array.getElem?_eq_getElem (by omega), e1]
    refine (hash_calls v0 ls (by omega) (by have := Nat.le_of_ble_eq_true hnn; omega) W hP (tab_of hg hs k0 (cut_whole hl64) htab)).mono fun e W' he => ?_
    obtain ⟨he, hb⟩ := he
    exact ⟨σ, _, he, Grow.refl _ _ _, belowS hs hb, row_of t5, hb.mono hs.hB⟩
  · cases hx
noncomputable def rdP1 (v : FV) (ih : QW → (List (List AV) → QW → Ans) → Ans) (s : QW) (k : List (List AV) → QW → Ans) : Ans := match v with
  | .s _ i o n _ => rdnC (p4 i) i o n s fun a s => match absV a with
    | .g b => ih s fun bs s => k (b :: bs) s
    | _ => none
  | _ => none
noncomputable def rdPsQ : List FV → QW → (List (List AV) → QW → Ans) → Ans
  | [], s, k => k [] s
  | v :: l, s, k => rdP1 v (rdPsQ l) s k
theorem rdPsQ_ok {B : Nat} : ∀ (l : List FV) {s : CE.St} {f : QW}, RS B s f → Ok B (fun (a b : List (List AV)) => a = b) (rdPsQ l f) (rdPs (l.map abs0) s)
  | [], s, f, hs => Ok.ret (R := fun (a b : List (List AV)) => a = b) rfl hs
  | v :: l, s, f, hs => by
    show Ok B _ (rdP1 v (rdPsQ l) f) _
    unfold rdP1
    split
    · rename_i q i o n c
      show Ok B _ _ (CE.bnd (rdK i o n) (fun b => CE.bnd (rdPs (l.map abs0)) fun bs => CE.ret (b :: bs)) s)
      refine Ok.bnd (ok_rdn hs i o n) fun a f a' s h hs => ?_
      obtain ⟨t, rfl, rfl, ht⟩ := h
      refine Ok.bnd (R := fun (a b : List (List AV)) => a = b) (x := rdPsQ l f) (g := fun bs s (k : List (List AV) → QW → Ans) => k (cellsV t 0 n :: bs) s) (rdPsQ_ok l hs) fun b f a s hab hs => ?_
      subst hab
      exact Ok.ret (R := fun (a b : List (List AV)) => a = b) rfl hs
    · exact Ok.none
noncomputable def hashQ (tab : List AV → Option (List AV)) : LQ := fun l s k => match l with
  | [.s _ i o n _] => rdTabQ s fun s => V.iff (Nat.ble n 1000000) (rdnC (p4 i) i o n s fun b s => match b with
    | .g t n => rdPsQ ((List.range n).map fun j => getV (p4 (0 + j)) t) s fun bs s => opt (tab bs.flatten) fun rs => V.iff (allsc rs) (k (.g (treeOf rs) rs.length) s)
    | _ => none)
  | _ => none
theorem hashQ_ok (tab : List AV → Option (List AV)) (B : Nat) (s : CE.St) (f : QW) (x : List AV) (l : List FV) (hs : RS B s f) (h : RVs x l) : Ok B RV (hashQ tab l f) (hashE tab x s) := by
  obtain ⟨rfl, ho⟩ := h
  unfold hashQ
  split
  · rename_i q i o n c
    show Ok B RV _ (CE.bnd rdTab (fun _ => CE.bnd (CE.chk (Nat.ble n 1000000)) fun _ => CE.bnd (rdK i o n) fun ps => CE.bnd (rdPs ps) fun bs => CE.bnd (CE.lift (tab bs.flatten)) fun rs => CE.ret (.g rs)) s)
    refine ok_rdTab (R := RV) hs (g := fun f (k : FV → QW → Ans) => V.iff (Nat.ble n 1000000) (rdnC (p4 i) i o n f fun b s => match b with
      | .g t n => rdPsQ ((List.range n).map fun j => getV (p4 (0 + j)) t) s fun bs s => opt (tab bs.flatten) fun rs => V.iff (allsc rs) (k (.g (treeOf rs) rs.length) s)
      | _ => none)) fun f s hs => ?_
    refine Ok.iff fun h5 => Ok.chk h5 ?_
    refine Ok.bnd (ok_rdn hs i o n) fun b f a s h hs => ?_
    obtain ⟨t2, rfl, rfl, ht2⟩ := h
    have e : cellsV t2 0 n = ((List.range n).map fun j => getV (p4 (0 + j)) t2).map abs0 := by unfold cellsV; rw [List.map_map]; rfl
    rw [e]
    refine Ok.bnd (R := fun (a b : List (List AV)) => a = b) (x := rdPsQ ((List.range n).map fun j => getV (p4 (0 + j)) t2) f) (g := fun bs s (k : FV → QW → Ans) => opt (tab bs.flatten) fun rs => V.iff (allsc rs) (k (.g (treeOf rs) rs.length) s)) (rdPsQ_ok _ hs) fun b f a s hab hs => ?_
    subst hab
    refine Ok.opt fun rs hrs => Ok.lift hrs ?_
    refine Ok.iff fun h5 => ?_
    have hc := cells_tree rs h5
    exact Ok.ret (R := RV) (b := .g (treeOf rs) rs.length) (a := .g rs) ⟨congrArg AV.g hc.1.symm, hc.2⟩ hs
  · exact Ok.none
theorem hash_good : Good Tryz.prog 92 (hashQ sumTab) (hashE sumTab) := ⟨hashE_loc _, hashE_sound sumTab_ok, hashQ_ok _⟩
end
end V
end Go.CE
