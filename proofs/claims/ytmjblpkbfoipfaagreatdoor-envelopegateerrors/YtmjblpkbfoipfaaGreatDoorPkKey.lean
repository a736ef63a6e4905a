/-
  The law of digest.Keyed: a look-up in a table, on abstract values and on quick values.
-/
import Derived.Test.YtmjblpkbfoipfaaGreatDoorPkLaw
import Derived.Test.YtmjblpkbfoipfaaGreatDoorPkHash
import Derived.Laws.IdiomStrings
import Derived.Lib.BufferRead
set_option linter.unusedSectionVars false
set_option linter.constructorNameAsVariable false
set_option linter.unusedVariables false
set_option linter.unusedSimpArgs false
namespace Go.CE
namespace V
open Go.Proofs Go.Proofs.YtmjblpkbfoipfaaGreatDoor Go.RowKit
def byteA (c : UInt8) : AV := .i .u8 (.ofNat c.toNat)
section
variable [Sym]
def keyE (tab : List AV → List AV → Option (List AV)) : List AV → X AV := fun args => match args with
  | [.g ks, .sl (some (k2, o2)) n _] => CE.bnd (rdK 0 0 64) fun kt => CE.bnd (CE.chk (tabA kt)) fun _ => CE.bnd (rdK k2 o2 n) fun b => CE.bnd (CE.lift (tab ks b)) fun rs => CE.ret (.g rs)
  | _ => CE.fail
theorem keyE_loc (tab : List AV → List AV → Option (List AV)) (x : List AV) : Loc (keyE tab x) := by
  unfold keyE
  split
  · exact Loc.bnd (Loc.rdK _ _ _) fun _ => Loc.bnd (Loc.chk _) fun _ => Loc.bnd (Loc.rdK _ _ _) fun _ => Loc.bnd (Loc.lift _) fun _ => Loc.ret _
  · exact Loc.fail
def TabOk (F : List UInt8 → List UInt8 → List UInt8) (tab : List AV → List AV → Option (List AV)) : Prop := ∀ ks b rs, tab ks b = some rs →
  ∃ key msg : List UInt8, key.length = 32 ∧ msg.length ≤ 1000000000 ∧ ks.map den = key.map byteA ∧ b.map den = msg.map byteA ∧ rs.map den = (F key msg).map byteA
end
section
variable [Sym] [SymOk]
theorem tab_of {P : Program} {B : Nat} {σ : Sg} {m : Tr AB} {W : World} {c0 kt : List AV} {T0 : Nat} (hg : GS σ) (hs : SR P B σ m W) (k0 : m.get 0 = some (.cells c0 T0)) (cut0 : cut c0 0 64 = some kt) (htab : tabA kt = true) : Tab W := by
  obtain ⟨qc, oc, hc1, hc2, cc, rfl, hc3, _, hc5, hc6⟩ := hs.mr 0 _ k0
  obtain ⟨z, s0, hg0⟩ := hg 0 (by omega)
  rw [show 2 * 0 = 0 from rfl] at hg0
  rw [hg0] at hc1; cases hc1
  unfold tabA at htab
  cases hwk : wrds kt with
  | none => rw [hwk] at htab; cases htab
  | some r =>
    rw [hwk] at htab
    dsimp only at htab
    rw [listEq_eq] at htab
    have hr : r = Sha.K := by simpa using htab
    subst hr
    obtain ⟨hkt, -⟩ := wrds_of hwk
    obtain ⟨hd0, hs0⟩ := hc3 rfl
    have hc0 : 64 ≤ c0.length := by
      have h1 := cut_get cut0 63 (by omega)
      have h2 : kt[63]? ≠ none := by
        have := k_get kt hkt
        rw [List.getElem?_eq_getElem (by omega)]; simp
      rw [h1, Ne, List.getElem?_eq_none_iff] at h2
      omega
    refine ⟨cc, T0, (0, 0), hc2, by omega, ?_⟩
    apply Array.ext_getElem?
    intro i
    by_cases hi : i < 64
    · have h64 : c0[i]? = some (u32A (Sha.K.getD i 0)) := by
        have h1 := cut_get cut0 i hi
        rw [Nat.zero_add] at h1
        have hKl : Sha.K.length = 64 := rfl
        rw [← h1, hkt, List.getElem?_map, List.getElem?_eq_getElem (by omega), List.getD_eq_getElem?_getD, List.getElem?_eq_getElem (by omega)]
        rfl
      have hi2 : i < cc.size := by omega
      have hv := hc6 i _ _ h64 (by rw [show (0 : Nat) + i = i by omega]; exact Array.getElem?_eq_getElem hi2)
      rw [kRow_get i hi, Array.getElem?_extract]
      rw [if_pos (by omega), show 0 + i = i by omega, Array.getElem?_eq_getElem hi2]
      generalize cc[i] = u at hv
      cases hv
      rfl
    · have hk64 := k_size
      rw [Array.getElem?_eq_none (by rw [Array.size_extract]; omega), Array.getElem?_eq_none (by omega)]
theorem key_enter (vals : Array Value) (W : World) : (callFunc 60 vals).run Tryz.prog W = .ok (.enter 60 vals) W := by
  have h1 : (Tryz.f60.body.isNone) = false := by kernel_rfl
  have h2 : (Tryz.f60.name == "runtime.NumGoroutine") = false := by kernel_rfl
  unfold callFunc
  simp only [Sem.run_bind, run_program, Result.andThen_ok, Tryz.func60, h1, h2, Bool.false_eq_true, if_false, Sem.run_pure]
theorem belowS {P : Program} {B : Nat} {σ : Sg} {m : Tr AB} {W W' : World} (hs : SR P B σ m W) (hb : Below W.heap.size W W') : SR P B σ m W' := by
  refine ⟨fun j x hj => ?_, hs.inj, hs.ro, Nat.le_trans hs.hB hb.size⟩
  obtain ⟨q0, o, h1, h2, h3⟩ := hs.mr j x hj
  refine ⟨q0, o, h1, ?_, h3⟩
  rw [hb.block q0.b (Array.getElem?_eq_some_iff.1 h2).1]
  exact h2
theorem bytes_of {σ : Sg} {ks : List AV} {c : Array Value} {key : List UInt8} (h : LR σ ks c) (e : ks.map den = key.map byteA) : c = bRow key := by
  have hl : ks.length = key.length := by have := congrArg List.length e; simpa using this
  apply Array.ext_getElem?
  intro i
  by_cases hi : i < key.length
  · have hk : ks[i]? = some (ks[i]'(by omega)) := List.getElem?_eq_getElem _
    have hc : c[i]? = some (c[i]'(by have := h.len; omega)) := Array.getElem?_eq_getElem _
    have hi2 : i < c.size := by have := h.len; omega
    have hv := (h.get i _ _ hk hc).to_den
    have he : den (ks[i]'(by omega)) = byteA key[i] := by
      have := congrArg (fun l => l[i]?) e
      simp only [List.getElem?_map, hk, List.getElem?_eq_getElem hi, Option.map_some] at this
      exact Option.some.inj this
    rw [he] at hv
    rw [hc, bRow_get key i hi, List.getD_eq_getElem?_getD, List.getElem?_eq_getElem hi]
    generalize c[i] = u at hv
    cases hv
    rfl
  · rw [Array.getElem?_eq_none (by have := h.len; omega), Array.getElem?_eq_none (by rw [bRow_size]; omega)]
theorem row_of {σ : Sg} {rs : List AV} {l : List UInt8} (e : rs.map den = l.map byteA) : VR σ (.g rs) (.agg (bRow l)) := by
  have hl : rs.length = l.length := by have := congrArg List.length e; simpa using this
  refine .g _ _ (by rw [bRow_size]; exact hl) fun i x v h1 h2 => ?_
  have hi : i < l.length := by have := (List.getElem?_eq_some_iff.1 h1).1; omega
  rw [bRow_get l i hi, List.getD_eq_getElem?_getD, List.getElem?_eq_getElem hi] at h2
  have he : den x = byteA l[i] := by
    have := congrArg (fun l => l[i]?) e
    simp only [List.getElem?_map, h1, List.getElem?_eq_getElem hi, Option.map_some] at this
    exact Option.some.inj this
  apply VR.of_den
  rw [he, ← Option.some.inj h2]
  exact .i _ _
theorem hasB_of {P : Program} {B : Nat} {σ : Sg} {m : Tr AB} {W : World} {k2 o2 n c : Nat} {v : Value} {c2 b : List AV} {T2 : Nat} {msg : List UInt8} (hs : SR P B σ m W) (hv : VR σ (.sl (some (k2, o2)) n c) v) (hk2 : m.get k2 = some (.cells c2 T2)) (cut2 : cut c2 o2 n = some b) (e : b.map den = msg.map byteA) : HasB W v msg := by
  cases hv with
  | sl _ _ _ _ c' q2 hσ2 hle hx1 hx2 =>
    obtain ⟨qb, ob, hb1, hb2, cb, rfl, _, _, hb5, hb6⟩ := hs.mr k2 _ hk2
    rw [hσ2] at hb1; cases hb1
    have hbl : b.length = msg.length := by have := congrArg List.length e; simpa using this
    have hn : n = msg.length := by rw [← hbl]; exact ((cut_eq cut2).2).symm
    refine ⟨_, n, c', rfl, hn, (fun h => by cases h), fun ad had => ?_⟩
    cases had
    refine ⟨(Array.getElem?_eq_some_iff.1 hb2).1, fun j u hj => ?_⟩
    have hj2 : j < msg.length := by have := (List.getElem?_eq_some_iff.1 hj).1; rwa [bCells_length] at this
    have hbj : b[j]? = some (b[j]'(by omega)) := List.getElem?_eq_getElem _
    have h64 := (cut_get cut2 j (by omega)).symm.trans hbj
    have hlen2 : o2 + j < c2.length := (List.getElem?_eq_some_iff.1 h64).1
    have hi2 : q2.d + (o2 + j) < cb.size := by omega
    have hv := (hb6 (o2 + j) _ _ h64 (Array.getElem?_eq_getElem hi2)).to_den
    have he : den (b[j]'(by omega)) = byteA msg[j] := by
      have := congrArg (fun l => l[j]?) e
      simp only [List.getElem?_map, hbj, List.getElem?_eq_getElem hj2, Option.map_some] at this
      exact Option.some.inj this
    rw [he] at hv
    rw [Addr.add_lit]
    unfold World.cell?
    dsimp only
    rw [hb2]
    dsimp only
    rw [show o2 + q2.d + j = q2.d + (o2 + j) by omega, Array.getElem?_eq_getElem hi2]
    unfold bCells at hj
    rw [List.getElem?_map, List.getElem?_eq_getElem hj2] at hj
    generalize cb[q2.d + (o2 + j)] = u2 at hv
    cases hv
    exact hj
theorem keyE_sound {tab : List AV → List AV → Option (List AV)} (ht : TabOk keyB tab) (B : Nat) (σ : Sg) (m : Tr AB) (n : Nat) (l w : List LE) (W : World) (args : List AV) (v : AV) (m' : Tr AB) (n' : Nat) (l' w' : List LE) (vals : Array Value)
    (hg : GS σ) (hs : SR Tryz.prog B σ m W) (hl : LR σ args vals) (hx : keyE tab args ⟨m, n, l, w⟩ = some (v, ⟨m', n', l', w'⟩)) (_ : Fresh σ n n') :
    (callFunc 60 vals).run Tryz.prog W = .ok (.enter 60 vals) W ∧ Calls Tryz.prog 60 vals W (Done Tryz.prog B σ n n' m' v W) := by
  refine ⟨key_enter vals W, ?_⟩
  unfold keyE at hx
  split at hx
  · rename_i ks k2 o2 len cp
    obtain ⟨kt, ⟨m1, n1, l1, w1⟩, g1, x1⟩ := bnd_of hx
    obtain ⟨e1, e2, c0, T0, k0, cut0⟩ := rdK_of g1
    cases e1; cases e2
    obtain ⟨_, s1, g2, x2⟩ := bnd_of x1
    obtain ⟨htab, e1⟩ := chk_of g2
    cases e1
    obtain ⟨b, ⟨m2, n2, l2, w2⟩, g3, x3⟩ := bnd_of x2
    obtain ⟨e1, e2, c2, T2, hk2, cut2⟩ := rdK_of g3
    cases e1; cases e2
    obtain ⟨rs, s1, g4, x4⟩ := bnd_of x3
    obtain ⟨hrs, e1⟩ := lift_of g4
    cases e1
    obtain ⟨e1, e3⟩ := ret_of x4
    cases e1; cases e3
    clear hx x1 x2 x3 x4 g1 g2 g3 g4
    obtain ⟨key, msg, t1, t2, t3, t4, t5⟩ := ht _ _ _ hrs
    have hsz : vals.size = 2 := hl.len.symm
    obtain ⟨v0, e0, hv0⟩ := hl.at (i := 0) rfl
    obtain ⟨v1, e1, hv1⟩ := hl.at (i := 1) rfl
    have hvals : vals = #[v0, v1] := by
      apply Array.ext
      · simpa using hsz
      · intro i h1 h2
        have : i = 0 ∨ i = 1 := by omega
        rcases this with rfl | rfl
        · simpa using (Array.getElem?_eq_some_iff.1 e0).2
        · simpa using (Array.getElem?_eq_some_iff.1 e1).2
    subst hvals
    obtain ⟨c, rfl, hc⟩ := hv0.lr_g
    obtain rfl := bytes_of hc t3
    refine (keyed_calls key msg v1 t1 t2 W (hasB_of hs hv1 hk2 cut2 t4) (tab_of hg hs k0 cut0 htab)).mono fun e W' he => ?_
    obtain ⟨he, hb⟩ := he
    exact ⟨σ, _, he, Grow.refl _ _ _, belowS hs hb, row_of t5, hb.mono hs.hB⟩
  · cases hx
noncomputable def keyQ (tab : List AV → List AV → Option (List AV)) : LQ := fun l s k => match l with
  | [.g t n, .s _ i2 o2 m _] => rdnC (p4 0) 0 0 64 s fun kt s => V.iff (tabQ kt) (rdnC (p4 i2) i2 o2 m s fun b s => match absV b with
    | .g bl => opt (tab (cellsV t 0 n) bl) fun rs => V.iff (allsc rs) (k (.g (treeOf rs) rs.length) s)
    | _ => none)
  | _ => none
theorem keyQ_ok (tab : List AV → List AV → Option (List AV)) (B : Nat) (s : CE.St) (f : QW) (x : List AV) (l : List FV) (hs : RS B s f) (h : RVs x l) : Ok B RV (keyQ tab l f) (keyE tab x s) := by
  obtain ⟨rfl, ho⟩ := h
  unfold keyQ
  split
  · rename_i t n q2 i2 o2 m c
    have hq2 : q2 = p4 i2 := ho (.s q2 i2 o2 m c) (by simp)
    show Ok B RV _ (CE.bnd (rdK 0 0 64) (fun kt => CE.bnd (CE.chk (tabA kt)) fun _ => CE.bnd (rdK i2 o2 m) fun b => CE.bnd (CE.lift (tab (cellsV t 0 n) b)) fun rs => CE.ret (.g rs)) s)
    refine Ok.bnd (ok_rdn hs 0 0 64) fun kt f a s h hs => ?_
    obtain ⟨t1, rfl, rfl, ht⟩ := h
    refine Ok.iff fun h4 => Ok.chk h4 ?_
    refine Ok.bnd (ok_rdn hs i2 o2 m) fun b f a s h hs => ?_
    obtain ⟨t2, rfl, rfl, ht2⟩ := h
    refine Ok.opt fun rs hrs => Ok.lift hrs ?_
    refine Ok.iff fun h5 => ?_
    have hc := cells_tree rs h5
    exact Ok.ret (R := RV) (b := .g (treeOf rs) rs.length) (a := .g rs) ⟨congrArg AV.g hc.1.symm, hc.2⟩ hs
  · exact Ok.none
theorem key_good {tab : List AV → List AV → Option (List AV)} (ht : TabOk keyB tab) : Good Tryz.prog 60 (keyQ tab) (keyE tab) := ⟨keyE_loc tab, keyE_sound ht, keyQ_ok tab⟩
end
end V
end Go.CE
namespace Go.CE
namespace V
open Go.Proofs Go.Proofs.YtmjblpkbfoipfaaGreatDoor Go.RowKit
@[reducible] def Sn : Sym := { val := fun _ => 0, bin := fun _ _ _ _ _ => none, cv := fun _ _ => none }
attribute [local instance] Sn
theorem Sn_ok : @SymOk Sn := @SymOk.mk Sn (fun _ _ _ _ _ _ h => by cases h) (fun _ _ _ h => by cases h) (fun _ _ _ _ _ _ h => by cases h) (fun _ _ _ _ _ _ h => by cases h) (fun _ _ _ h => by cases h) (fun _ _ _ h => by cases h) (fun _ _ _ h => by cases h)
attribute [local instance] Sn_ok
def gsg : Sg := fun k => match Nat.beq (k % 2) 0 && Nat.ble (k + 1) 1024 with
  | true => some ⟨k / 2, 0, 0, 0⟩
  | false => none
theorem gsg_gs : GS gsg := fun k hk => ⟨0, 0, by
  unfold gsg
  have h1 : Nat.beq (2 * k % 2) 0 = true := by rw [Nat.mul_mod_right]; rfl
  have h2 : Nat.ble (2 * k + 1) 1024 = true := Nat.ble_eq_true_of_le (by omega)
  rw [h1, h2]
  show some (Pl.mk (2 * k / 2) 0 0 0) = _
  rw [Nat.mul_div_cancel_left k (by decide)]⟩
theorem gsg_lt {k : Nat} {q : Pl} (h : gsg k = some q) : k < 1024 := by
  unfold gsg at h
  split at h
  · rename_i hb
    have := (Bool.and_eq_true _ _ ▸ hb : _ ∧ _).2
    have := Nat.le_of_ble_eq_true this
    omega
  · cases h
noncomputable def fs0 : QW := ⟨.e, 1024, 2048, [], []⟩
noncomputable def runC (k : Nat) (args : List FV) : Ans := evF Tryz.prog (fun _ => none) 4000 k args fs0
theorem rs0 : RS 2048 ⟨.e, 1024, [], []⟩ fs0 := by
  refine RS.mk rfl rfl (Nat.le_refl _) (fun e h => by cases h) (fun e h => by cases h) (fun k => ?_) (fun e h => by cases h) (fun e h => by cases h) (fun k x h => ?_)
  · show RB (Tr.get .e k) (getM (p4 k) .e)
    rw [getM_e]
    cases k <;> exact .no
  · cases k <;> cases h
theorem sum0 : SumOk (fun _ => none) (fun _ => none) := fun _ => .inl ⟨rfl, rfl⟩
theorem sr0 (W : World) : SR Tryz.prog W.heap.size gsg .e W := by
  refine SR.mk (fun j x hj => by cases j <;> cases hj) (fun i j p1 p2 hi _ _ _ _ => absurd (by cases i <;> rfl) hi) (fun j q hj hro => ?_) (Nat.le_refl _)
  have := gsg_lt hj
  have : roB = 2048 := rfl
  omega
theorem closed_calls {k : Nat} {l : List FV} {a : List AV} {vals : Array Value} {v : FV} {f' : QW} (hl : RVs a l) (hv : LR gsg a vals) (he : runC k l = some (v, f')) (W : World) :
    Calls Tryz.prog k vals W fun e W' => ∃ τ u, e = .returned u ∧ VR τ (absV v) u ∧ Below W.heap.size W W' := by
  obtain ⟨x, s', hev, ⟨hx, _⟩, _⟩ := ok_evF (P := Tryz.prog) sum0 (fun _ _ h => by cases h) 4000 k rs0 hl he
  obtain ⟨m', n', l', w'⟩ := s'
  subst hx
  have hsum : SumS Tryz.prog (fun _ => none) := ⟨(fun _ _ h => by cases h), (fun _ _ h => by cases h)⟩
  obtain ⟨_, c2⟩ := evCall_sound hsum 4000 W.heap.size gsg .e 1024 [] [] W k a (absV v) m' n' l' w' vals gsg_gs (sr0 W) hv hev (fun j h1 _ => by
    cases hj : gsg j with
    | none => rfl
    | some q => have := gsg_lt hj; omega)
  refine c2.mono fun e W' hd => ?_
  obtain ⟨τ, u, he, -, -, hv, hb⟩ := hd
  exact ⟨τ, u, he, hv, hb⟩
theorem rvs_two (k1 : IntKind) (n1 : Nat) (k2 : IntKind) (n2 : Nat) : RVs [AV.i k1 (.ofNat n1), AV.i k2 (.ofNat n2)] [FV.i k1 n1, FV.i k2 n2] := ⟨rfl, fun v h => by
  simp only [List.mem_cons, List.not_mem_nil, or_false] at h
  rcases h with rfl | rfl <;> trivial⟩
theorem lr_two (k1 : IntKind) (n1 : Int) (k2 : IntKind) (n2 : Int) : LR gsg [.i k1 n1, .i k2 n2] #[.int k1 n1, .int k2 n2] :=
  LR.mk rfl fun i x v h1 h2 => by
    have hi : i < 2 := (List.getElem?_eq_some_iff.1 h1).1
    have : i = 0 ∨ i = 1 := by omega
    rcases this with rfl | rfl
    · cases h1; cases h2; exact VR.i _ _
    · cases h1; cases h2; exact VR.i _ _
end V
end Go.CE
namespace Go.Proofs.YtmjblpkbfoipfaaGreatDoor
open Go.RowKit Go.CE Go.CE.V
attribute [local instance] Sn Sn_ok
set_option maxRecDepth 100000
def usesT : List Nat := [0, 1043, 19, 19, 531, 51, 1923, 3, 40049, 100417, 102465, 102401, 102401, 32769, 102401, 24624, 122928, 98316, 65537]
def usesN (k f : Nat) : Bool := (usesT.getD k 0).testBit f
def limL : List (Nat × Nat) := [(1, 1099511627776), (1, 1099511627776), (0, 15), (1, 64), (0, 511), (0, 511), (0, 255), (1, 3), (0, 1099511627776), (0, 0), (0, 0), (0, 2251799813685248), (0, 18), (1, 4), (0, 0), (0, 0), (0, 0)]
def limT (k f : Nat) : Nat × Nat :=
  if k = 1 ∧ f = 1 then (1, 1) else if (k = 6 ∨ k = 7) ∧ f = 1 then (2, 1099511627776) else if k = 8 ∧ f = 5 then (0, 63) else if k = 8 ∧ f = 12 then (1, 512) else if k = 14 ∧ f = 12 then (0, 5) else limL.getD f (0, 0)
noncomputable def isB (r : Ans) (b : Bool) : Bool := match r with
  | some (.b c, _) => c == b
  | _ => false
noncomputable def isP (r : Ans) (b : Nat × Nat) : Bool := match r with
  | some (.t t n, _) => match absV (.t t n) with
    | .t [.i .i64 (.ofNat x), .i .i64 (.ofNat y)] => x == b.1 && y == b.2
    | _ => false
  | _ => false
def upK (n : Nat) : List Nat := List.range n
set_option maxRecDepth 100000 in
theorem uses_all : ((upK 19).all fun k => (upK 17).all fun f => isB (runC 59 [.i .i64 k, .i .i64 f]) (usesN k f)) = true := by decide +kernel
set_option maxRecDepth 100000 in
theorem limits_all : ((upK 19).all fun k => (upK 17).all fun f => isP (runC 104 [.i .i64 k, .i .i64 f]) (limT k f)) = true := by decide +kernel
theorem uses_calls (k f : Nat) (hk : k < 19) (hf : f < 17) (w : World) : Calls Tryz.prog 59 #[.int .i64 (k : Int), .int .i64 (f : Int)] w fun e w' => e = .returned (.bool (usesN k f)) ∧ Below w.heap.size w w' := by
  have h := List.all_eq_true.1 (List.all_eq_true.1 uses_all k (List.mem_range.2 hk)) f (List.mem_range.2 hf)
  unfold isB at h
  split at h
  · rename_i c f' he
    have hc : c = usesN k f := by simpa using h
    subst hc
    refine (closed_calls (rvs_two _ _ _ _) (lr_two _ _ _ _) he w).mono fun e w' hd => ?_
    obtain ⟨τ, u, he, hv, hb⟩ := hd
    cases hv
    exact ⟨he, hb⟩
  · cases h
theorem limits_calls (k f : Nat) (hk : k < 19) (hf : f < 17) (w : World) : Calls Tryz.prog 104 #[.int .i64 (k : Int), .int .i64 (f : Int)] w fun e w' => e = .returned (.tuple #[.int .i64 ((limT k f).1 : Int), .int .i64 ((limT k f).2 : Int)]) ∧ Below w.heap.size w w' := by
  have h := List.all_eq_true.1 (List.all_eq_true.1 limits_all k (List.mem_range.2 hk)) f (List.mem_range.2 hf)
  unfold isP at h
  split at h
  · rename_i t n f' he
    split at h
    · rename_i x y ha
      simp only [Bool.and_eq_true, beq_iff_eq] at h
      obtain ⟨h1, h2⟩ := h
      refine (closed_calls (rvs_two _ _ _ _) (lr_two _ _ _ _) he w).mono fun e w' hd => ?_
      obtain ⟨τ, u, he, hv, hb⟩ := hd
      rw [ha] at hv
      obtain ⟨c, rfl, hc⟩ := hv.lr_t
      refine ⟨?_, hb⟩
      obtain ⟨v0, e0, hv0⟩ := hc.at (i := 0) rfl
      obtain ⟨v1, e1, hv1⟩ := hc.at (i := 1) rfl
      cases hv0; cases hv1
      have hs : c.size = 2 := hc.len.symm
      rw [he]
      congr 2
      apply Array.ext
      · simpa using hs
      · intro i h3 h4
        have : i = 0 ∨ i = 1 := by omega
        rcases this with rfl | rfl
        · have := (Array.getElem?_eq_some_iff.1 e0).2
          rw [this, ← h1]; rfl
        · have := (Array.getElem?_eq_some_iff.1 e1).2
          rw [this, ← h2]; rfl
    · cases h
  · cases h
theorem uses_callsI (c : Int) (k f : Nat) (b : Bool) (hc : c = (k : Int)) (hk : k < 19) (hf : f < 17) (hb : usesN k f = b) (w : World) : Calls Tryz.prog 59 #[.int .i64 c, .int .i64 (f : Int)] w fun e w' => e = .returned (.bool b) ∧ Below w.heap.size w w' := by
  subst hc; subst hb; exact uses_calls k f hk hf w
theorem limits_callsI (c : Int) (k f lo hi : Nat) (hc : c = (k : Int)) (hk : k < 19) (hf : f < 17) (hl : limT k f = (lo, hi)) (w : World) : Calls Tryz.prog 104 #[.int .i64 c, .int .i64 (f : Int)] w fun e w' => e = .returned (.tuple #[.int .i64 (lo : Int), .int .i64 (hi : Int)]) ∧ Below w.heap.size w w' := by
  subst hc
  have := limits_calls k f hk hf w
  rwa [hl] at this
end Go.Proofs.YtmjblpkbfoipfaaGreatDoor
namespace Go.Proofs.YtmjblpkbfoipfaaGreatDoor
open Go.RowKit
theorem conv_has {w : World} {v : Value} {a : List UInt8} (h : HasB w v a) : (convert 32 9 v).run Tryz.prog w = .ok (.string ⟨a.toArray⟩) w := by
  obtain ⟨ao, n, c, rfl, rfl, hn, hb⟩ := h
  cases ao with
  | none =>
    obtain ⟨h0, rfl⟩ := hn rfl
    obtain rfl := List.eq_nil_of_length_eq_zero h0
    exact Lib.run_convert_nil_bytes w _ _ 5 0 Tryz.underlying32 Tryz.underlying5 Tryz.underlying9
  | some ad =>
    refine run_convert_bytes_back w _ _ 5 ad c a Tryz.underlying32 Tryz.underlying5 Tryz.underlying9 fun j hj => ?_
    refine (hb ad rfl).2 j _ ?_
    unfold bCells
    rw [List.getElem?_map, List.getElem?_eq_getElem hj]
    rfl
set_option maxHeartbeats 1000000 in
theorem equal_calls (a : List UInt8) (v1 v2 : Value) (w : World) (h1 : HasB w v1 a) (h2 : HasB w v2 a) : Calls Tryz.prog 89 #[v1, v2] w fun e w' => e = .returned (.bool true) ∧ w' = w := by
  have c1 := conv_has h1
  have c2 := conv_has h2
  clear h1 h2
  go_enter Tryz.func89, Tryz.ntmps89
  repeat' (first | go_skip | go_guarded | go_step | go_upon)
  go_ret
  exact ⟨rfl, rfl⟩
end Go.Proofs.YtmjblpkbfoipfaaGreatDoor
namespace Go.CE
namespace V
open Go.Proofs Go.Proofs.YtmjblpkbfoipfaaGreatDoor Go.RowKit
def sameL (byt : Nat → Bool) : List AV → List AV → Bool
  | [], [] => true
  | .i .u8 (.ofNat a) :: l, .i .u8 (.ofNat b) :: m => match Nat.beq a b && Nat.ble a 255 with
    | true => sameL byt l m
    | false => false
  | .x .u8 i :: l, .x .u8 j :: m => match Nat.beq i j && byt i with
    | true => sameL byt l m
    | false => false
  | _, _ => false
section
variable [Sym]
def BytOk (byt : Nat → Bool) : Prop := ∀ j, byt j = true → ∃ c : UInt8, Sym.val j = .ofNat c.toNat
theorem sameL_of {byt : Nat → Bool} (hb : BytOk byt) : ∀ l m : List AV, sameL byt l m = true → ∃ msg : List UInt8, l.map den = msg.map byteA ∧ m.map den = msg.map byteA
  | [], [], _ => ⟨[], rfl, rfl⟩
  | .i .u8 (.ofNat a) :: l, .i .u8 (.ofNat b) :: m, h => by
    unfold sameL at h
    split at h
    · rename_i g
      simp only [Bool.and_eq_true] at g
      obtain rfl : a = b := Nat.eq_of_beq_eq_true g.1
      have g2 : a ≤ 255 := Nat.le_of_ble_eq_true g.2
      obtain ⟨msg, e1, e2⟩ := sameL_of hb l m h
      have ea : byteA (UInt8.ofNat a) = .i .u8 (.ofNat a) := by
        unfold byteA
        have : (UInt8.ofNat a).toNat = a := by simp; omega
        rw [this]
      exact ⟨UInt8.ofNat a :: msg, by rw [List.map_cons, List.map_cons, e1, ea]; rfl, by rw [List.map_cons, List.map_cons, e2, ea]; rfl⟩
    · cases h
  | .x .u8 i :: l, .x .u8 j :: m, h => by
    unfold sameL at h
    split at h
    · rename_i g
      simp only [Bool.and_eq_true] at g
      obtain rfl : i = j := Nat.eq_of_beq_eq_true g.1
      obtain ⟨c, hc⟩ := hb i g.2
      obtain ⟨msg, e1, e2⟩ := sameL_of hb l m h
      have ea : den (.x .u8 i) = byteA c := by
        show AV.i .u8 (Sym.val i) = .i .u8 (.ofNat c.toNat)
        rw [hc]
      exact ⟨c :: msg, by rw [List.map_cons, List.map_cons, e1, ea], by rw [List.map_cons, List.map_cons, e2, ea]⟩
    · cases h
def eqE (byt : Nat → Bool) : List AV → X AV := fun args => match args with
  | [.sl (some (k1, o1)) n1 _, .sl (some (k2, o2)) n2 _] => CE.bnd (rdK k1 o1 n1) fun a => CE.bnd (rdK k2 o2 n2) fun b => CE.bnd (CE.chk (sameL byt a b)) fun _ => CE.ret (.b true)
  | _ => CE.fail
theorem eqE_loc (byt : Nat → Bool) (x : List AV) : Loc (eqE byt x) := by
  unfold eqE
  split
  · exact Loc.bnd (Loc.rdK _ _ _) fun _ => Loc.bnd (Loc.rdK _ _ _) fun _ => Loc.bnd (Loc.chk _) fun _ => Loc.ret _
  · exact Loc.fail
end
section
variable [Sym] [SymOk]
theorem eq_enter (vals : Array Value) (W : World) : (callFunc 89 vals).run Tryz.prog W = .ok (.enter 89 vals) W := by
  have h1 : (Tryz.f89.body.isNone) = false := by kernel_rfl
  have h2 : (Tryz.f89.name == "runtime.NumGoroutine") = false := by kernel_rfl
  unfold callFunc
  simp only [Sem.run_bind, run_program, Result.andThen_ok, Tryz.func89, h1, h2, Bool.false_eq_true, if_false, Sem.run_pure]
theorem eqE_sound {byt : Nat → Bool} (hby : BytOk byt) (B : Nat) (σ : Sg) (m : Tr AB) (n : Nat) (l w : List LE) (W : World) (args : List AV) (v : AV) (m' : Tr AB) (n' : Nat) (l' w' : List LE) (vals : Array Value)
    (_ : GS σ) (hs : SR Tryz.prog B σ m W) (hl : LR σ args vals) (hx : eqE byt args ⟨m, n, l, w⟩ = some (v, ⟨m', n', l', w'⟩)) (_ : Fresh σ n n') :
    (callFunc 89 vals).run Tryz.prog W = .ok (.enter 89 vals) W ∧ Calls Tryz.prog 89 vals W (Done Tryz.prog B σ n n' m' v W) := by
  refine ⟨eq_enter vals W, ?_⟩
  unfold eqE at hx
  split at hx
  · rename_i k1 o1 len1 cp1 k2 o2 len2 cp2
    obtain ⟨a, ⟨m1, n1, l1, w1⟩, g1, x1⟩ := bnd_of hx
    obtain ⟨e1, e2, c1, T1, hk1, cut1⟩ := rdK_of g1
    cases e1; cases e2
    obtain ⟨b, ⟨m2, n2, l2, w2⟩, g2, x2⟩ := bnd_of x1
    obtain ⟨e1, e2, c2, T2, hk2, cut2⟩ := rdK_of g2
    cases e1; cases e2
    obtain ⟨_, s1, g3, x3⟩ := bnd_of x2
    obtain ⟨hsame, e1⟩ := chk_of g3
    cases e1
    obtain ⟨e1, e3⟩ := ret_of x3
    cases e1; cases e3
    clear hx x1 x2 x3 g1 g2 g3
    obtain ⟨msg, t1, t2⟩ := sameL_of hby _ _ hsame
    have hsz : vals.size = 2 := hl.len.symm
    obtain ⟨v0, e0, hv0⟩ := hl.at (i := 0) rfl
    obtain ⟨v1, e1, hv1⟩ := hl.at (i := 1) rfl
    have hvals : vals = #[v0, v1] := by
      apply Array.ext
      · simpa using hsz
      · intro i h1 h2
        have : i = 0 ∨ i = 1 := by omega
        rcases this with rfl | rfl
        · simpa using (Array.getElem?_eq_some_iff.1 e0).2
        · simpa using (Array.getElem?_eq_some_iff.1 e1).2
    subst hvals
    refine (equal_calls msg v0 v1 W (hasB_of hs hv0 hk1 cut1 t1) (hasB_of hs hv1 hk2 cut2 t2)).mono fun e W' he => ?_
    obtain ⟨he, rfl⟩ := he
    exact ⟨σ, _, he, Grow.refl _ _ _, hs, .b _, Below.refl _ _⟩
  · cases hx
noncomputable def eqQ (byt : Nat → Bool) : LQ := fun l s k => match l with
  | [.s _ i1 o1 n1 _, .s _ i2 o2 n2 _] => rdnC (p4 i1) i1 o1 n1 s fun a s => rdnC (p4 i2) i2 o2 n2 s fun b s => match absV a, absV b with
    | .g al, .g bl => V.iff (sameL byt al bl) (k (.b true) s)
    | _, _ => none
  | _ => none
theorem eqQ_ok (byt : Nat → Bool) (B : Nat) (s : CE.St) (f : QW) (x : List AV) (l : List FV) (hs : RS B s f) (h : RVs x l) : Ok B RV (eqQ byt l f) (eqE byt x s) := by
  obtain ⟨rfl, ho⟩ := h
  unfold eqQ
  split
  · rename_i q1 i1 o1 n1 c1 q2 i2 o2 n2 c2
    have hq1 : q1 = p4 i1 := ho (.s q1 i1 o1 n1 c1) (by simp)
    have hq2 : q2 = p4 i2 := ho (.s q2 i2 o2 n2 c2) (by simp)
    show Ok B RV _ (CE.bnd (rdK i1 o1 n1) (fun a => CE.bnd (rdK i2 o2 n2) fun b => CE.bnd (CE.chk (sameL byt a b)) fun _ => CE.ret (.b true)) s)
    refine Ok.bnd (ok_rdn hs i1 o1 n1) fun a f a' s h hs => ?_
    obtain ⟨t1, rfl, rfl, ht1⟩ := h
    refine Ok.bnd (ok_rdn hs i2 o2 n2) fun b f b' s h hs => ?_
    obtain ⟨t2, rfl, rfl, ht2⟩ := h
    refine Ok.iff fun h5 => Ok.chk h5 ?_
    exact Ok.ret (R := RV) (b := .b true) (a := .b true) ⟨rfl, trivial⟩ hs
  · exact Ok.none
theorem eq_good {byt : Nat → Bool} (hby : BytOk byt) : Good Tryz.prog 89 (eqQ byt) (eqE byt) := ⟨eqE_loc byt, eqE_sound hby, eqQ_ok byt⟩
end
end V
end Go.CE
