/-
  What sanity does: reckoned by the kernel over the quick evaluator, and what that says of the program.
-/
import Derived.Test.YtednpkiegiiimaaGreatDoorPkPzTwo
set_option linter.unusedSectionVars false
set_option linter.constructorNameAsVariable false
set_option linter.unusedVariables false
set_option linter.unusedSimpArgs false
namespace Go.CE
namespace V
open Go.Proofs Go.Proofs.YtednpkiegiiimaaGreatDoor Go.RowKit
noncomputable def fs1 : QW := ⟨setM (p4 0) (.cells (treeOf (Sha.K.map u32A)) 64 183) .e, 1024, 2048, [], []⟩
def isT (r : Ans) : Bool := match r with
  | some (.b true, _) => true
  | _ => false
theorem isT_of {r : Ans} (h : isT r = true) : ∃ f, r = some (.b true, f) := by
  unfold isT at h
  split at h
  · exact ⟨_, rfl⟩
  · cases h
section
variable [Sym] [SymOk]
noncomputable def mem1 : Tr AB := Tr.set .e 0 (some (.cells (Sha.K.map u32A) 183))
theorem mem1_get (j : Nat) : mem1.get j = if j = 0 then some (.cells (Sha.K.map u32A) 183) else none := by
  unfold mem1
  rw [Tr.get_set]
  by_cases h : j = 0
  · rw [if_pos h, if_pos h]
  · rw [if_neg h, if_neg h, Tr.get_e]
theorem rs1 : RS 2048 ⟨mem1, 1024, [], []⟩ fs1 := by
  refine ⟨rfl, rfl, Nat.le_refl _, (fun e h => by cases h), (fun e h => by cases h), fun k => ?_, (fun e h => by cases h), (fun e h => by cases h), fun k x h => ?_⟩
  · show RB (mem1.get k) (getM (p4 k) (setM (p4 0) (.cells (treeOf (Sha.K.map u32A)) 64 183) .e))
    rw [mem1_get]
    by_cases hk : k = 0
    · subst hk
      rw [if_pos rfl, get_setM]
      have hc := cells_tree (Sha.K.map u32A) (by rfl)
      have h64 : (Sha.K.map u32A).length = 64 := rfl
      rw [h64] at hc
      have hb := RB.cells (treeOf (Sha.K.map u32A)) 64 183 hc.2
      rwa [show cellsV (treeOf (Sha.K.map u32A)) 0 64 = Sha.K.map u32A from hc.1] at hb
    · rw [if_neg hk, get_setM_ne _ _ _ _ (p4_ne hk), getM_e]
      exact .no
  · rw [mem1_get] at h
    by_cases hk : k = 0
    · subst hk; show 0 < 2 * 1024; omega
    · rw [if_neg hk] at h; cases h
/-- The table lies in the first variable. -/
def TabW (W : World) : Prop := ∃ c : Array Value, W.heap[0]? = some (.cells c 183 (0, 0)) ∧ c.size = 64 ∧ ∀ i, i < 64 → c[i]? = some (B32 (Sha.K.getD i 0))
theorem sr1 {W : World} (h : TabW W) : SR P W.heap.size gsg mem1 W := by
  obtain ⟨c, h1, h2, h3⟩ := h
  refine ⟨fun j x hj => ?_, fun i j p1 p2 hi hj _ _ _ => ?_, fun j q hj hro => ?_, Nat.le_refl _⟩
  · rw [mem1_get] at hj
    by_cases hk : j = 0
    · subst hk
      rw [if_pos rfl] at hj; cases hj
      obtain ⟨z, s, hg⟩ := gsg_gs 0 (by omega)
      refine ⟨_, _, hg, h1, c, rfl, (fun _ => ⟨rfl, h2⟩), (fun h => by cases h), (by rw [h2]; exact Nat.le_refl _), fun i x v e1 e2 => ?_⟩
      have hi : i < 64 := by
        have := (List.getElem?_eq_some_iff.1 e1).1
        exact this
      rw [Nat.zero_add, h3 i hi] at e2
      rw [List.getElem?_map] at e1
      have hK : Sha.K.length = 64 := rfl
      rw [List.getD_eq_getElem?_getD] at e2
      rw [List.getElem?_eq_getElem (by omega)] at e1 e2
      rw [← Option.some.inj e1, ← Option.some.inj e2]
      exact .i _ _
    · rw [if_neg hk] at hj; cases hj
  · rw [mem1_get] at hi hj
    by_cases h : i = 0
    · by_cases h' : j = 0
      · omega
      · rw [if_neg h'] at hj; exact absurd rfl hj
    · rw [if_neg h] at hi; exact absurd rfl hi
  · have := gsg_lt hj
    have : roB = 2048 := rfl
    omega
end
@[reducible] def S0 : Sym := { val := fun _ => 0, bin := fun _ _ _ _ _ => none, cv := fun _ _ => none }
theorem S0ok : @SymOk S0 := Sn_ok
set_option maxRecDepth 100000 in
theorem san_runs : isT (@evF S0 P (@LT.fq (@Q.tL S0)) 4000 5 [] fs1) = true := by decide +kernel
/-- **Sanity answers true.** -/
theorem sanity_calls (W : World) (h : TabW W) : Calls Tryz.prog 5 #[] W fun e w' => e = .returned (.bool true) ∧ Below W.heap.size W w' := by
  obtain ⟨f, hf⟩ := isT_of san_runs
  have hall := @Q.allL S0 S0ok
  obtain ⟨x, s', hev, ⟨hx, _⟩, _⟩ := @ok_evF S0 S0ok 2048 _ _ P _ _ (@LT.sumOk S0 S0ok P _ hall) (@LT.sumS S0 S0ok P _ hall).1 4000 5 [] [] _ _ (@rs1 S0 S0ok) ⟨rfl, (fun _ h => by cases h)⟩ hf
  obtain ⟨m', n', l', w'⟩ := s'
  have hxb : x = .b true := hx
  subst hxb
  obtain ⟨_, c2⟩ := @evCall_sound S0 S0ok P _ (@LT.sumS S0 S0ok P _ hall) 4000 W.heap.size gsg mem1 1024 [] [] W 5 [] (.b true) m' n' l' w' #[] gsg_gs (@sr1 S0 S0ok W h) (@LR.nil S0 _) hev (fun j h1 _ => by
    cases hj : gsg j with
    | none => rfl
    | some q => have := gsg_lt hj; omega)
  refine c2.mono fun e W' hd => ?_
  obtain ⟨τ, u, rfl, -, -, hv, hb⟩ := hd
  cases hv
  exact ⟨rfl, hb⟩
end V
end Go.CE
namespace Go.CE
namespace V
open Go.Proofs Go.Proofs.YtednpkiegiiimaaGreatDoor Go.RowKit
/-- A whole block. -/
def rdAll (k : Nat) : X (List AV × Nat) := fun s => match s with
  | ⟨m, x, l, w⟩ => match m.get k with
    | some (.cells cs T) => some ((cs, T), ⟨m, x, whole k :: l, w⟩)
    | _ => none
section
variable [Sym]
theorem rdAll_of {k n n' : Nat} {m m' : Tr AB} {l l' w w' : List LE} {r : List AV × Nat} (h : rdAll k ⟨m, n, l, w⟩ = some (r, ⟨m', n', l', w'⟩)) : m' = m ∧ n' = n ∧ l' = whole k :: l ∧ w' = w ∧ m.get k = some (.cells r.1 r.2) := by
  unfold rdAll at h
  dsimp only at h
  split at h
  · rename_i cs T hk
    simp only [Option.some.injEq, Prod.mk.injEq, CE.St.mk.injEq] at h
    obtain ⟨rfl, rfl, rfl, rfl, rfl⟩ := h
    exact ⟨rfl, rfl, rfl, rfl, hk⟩
  · cases h
theorem Loc_rdAll (k : Nat) : Loc (rdAll k) := by
  intro m n l w a m' n' l' w' h
  obtain ⟨rfl, rfl, rfl, rfl, hk⟩ := rdAll_of h
  refine ⟨Nat.le_refl _, [whole k], [], rfl, rfl, (fun _ h => by cases h), keeps.refl _, fun m2 l2 w2 hag => ⟨m2, ?_, hag, keeps.refl _⟩⟩
  have := agr_whole (hag _ (List.mem_singleton.2 rfl))
  unfold rdAll
  dsimp only
  rw [← this, hk]
  rfl
def sanE : List AV → X AV := fun args => match args with
  | [] => CE.bnd (rdAll 0) fun q => CE.bnd (CE.chk (Nat.beq q.2 183 && Nat.beq q.1.length 64 && tabA q.1)) fun _ => CE.ret (.b true)
  | _ => CE.fail
theorem sanE_loc (x : List AV) : Loc (sanE x) := by
  unfold sanE
  split
  · exact Loc.bnd (Loc_rdAll _) fun _ => Loc.bnd (Loc.chk _) fun _ => Loc.ret _
  · exact Loc.fail
theorem san_enter (vals : Array Value) (W : World) : (callFunc 5 vals).run Tryz.prog W = .ok (.enter 5 vals) W := by
  have h1 : (Tryz.f5.body.isNone) = false := by kernel_rfl
  have h2 : (Tryz.f5.name == "runtime.NumGoroutine") = false := by kernel_rfl
  unfold callFunc
  simp only [Sem.run_bind, run_program, Result.andThen_ok, Tryz.func5, h1, h2, Bool.false_eq_true, if_false, Sem.run_pure]
theorem tabW_of [SymOk] {P : Program} {B : Nat} {σ : Sg} {m : Tr AB} {W : World} {cs : List AV} (hg : GS σ) (hs : SR P B σ m W) (h0 : m.get 0 = some (.cells cs 183)) (hl : cs.length = 64) (ht : tabA cs = true) : TabW W := by
  obtain ⟨q, o, h1, h2, c, rfl, h3, _, h5, h6⟩ := hs.mr 0 _ h0
  obtain ⟨z, s, hz⟩ := hg 0 (by omega)
  rw [show 2 * 0 = 0 from rfl] at hz
  rw [hz] at h1; cases h1
  obtain ⟨hd, hsz⟩ := h3 rfl
  refine ⟨c, h2, by omega, fun i hi => ?_⟩
  unfold tabA at ht
  cases hw : wrds cs with
  | none => rw [hw] at ht; cases ht
  | some r =>
    rw [hw] at ht
    dsimp only at ht
    rw [listEq_eq] at ht
    have hr : r = Sha.K := by simpa using ht
    subst hr
    obtain ⟨hcs, -⟩ := wrds_of hw
    have hK : Sha.K.length = 64 := rfl
    have e1 : cs[i]? = some (u32A (Sha.K.getD i 0)) := by
      rw [hcs, List.getElem?_map, List.getElem?_eq_getElem (by omega), List.getD_eq_getElem?_getD, List.getElem?_eq_getElem (by omega)]
      rfl
    have hi2 : i < c.size := by omega
    have hv := h6 i _ _ e1 (by rw [show (0 : Nat) + i = i by omega]; exact Array.getElem?_eq_getElem hi2)
    rw [Array.getElem?_eq_getElem hi2]
    generalize c[i] = u at hv
    cases hv
    rfl
end
section
variable [Sym] [SymOk]
theorem SR.belowW' {P : Program} {B : Nat} {σ : Sg} {m : Tr AB} {W W' : World} (hs : SR P B σ m W) (hb : Below W.heap.size W W') : SR P B σ m W' := by
  refine ⟨fun j x hj => ?_, hs.inj, hs.ro, Nat.le_trans hs.hB hb.size⟩
  obtain ⟨q0, o, h1, h2, h3⟩ := hs.mr j x hj
  refine ⟨q0, o, h1, ?_, h3⟩
  rw [hb.block q0.b (Array.getElem?_eq_some_iff.1 h2).1]
  exact h2
theorem sanE_sound (B : Nat) (σ : Sg) (m : Tr AB) (n : Nat) (l w : List LE) (W : World) (args : List AV) (v : AV) (m' : Tr AB) (n' : Nat) (l' w' : List LE) (vals : Array Value)
    (hg : GS σ) (hs : SR Tryz.prog B σ m W) (hl : LR σ args vals) (hx : sanE args ⟨m, n, l, w⟩ = some (v, ⟨m', n', l', w'⟩)) (_ : Fresh σ n n') :
    (callFunc 5 vals).run Tryz.prog W = .ok (.enter 5 vals) W ∧ Calls Tryz.prog 5 vals W (Done Tryz.prog B σ n n' m' v W) := by
  refine ⟨san_enter vals W, ?_⟩
  unfold sanE at hx
  split at hx
  · obtain ⟨q, ⟨m1, n1, l1, w1⟩, g1, x1⟩ := bnd_of hx
    obtain ⟨e1, e2, e3, e4, h0⟩ := rdAll_of g1
    cases e1; cases e2; cases e3; cases e4
    obtain ⟨_, s1, g2, x2⟩ := bnd_of x1
    obtain ⟨hc, e1⟩ := chk_of g2
    cases e1
    obtain ⟨e1, e3⟩ := ret_of x2
    cases e1; cases e3
    simp only [Bool.and_eq_true] at hc
    obtain ⟨⟨ht, hn⟩, htab⟩ := hc
    obtain ⟨cs, T⟩ := q
    dsimp only at ht hn htab h0
    have ht := beqT ht
    have hn := beqT hn
    subst ht
    have hv : vals = #[] := Array.eq_empty_of_size_eq_zero hl.len.symm
    subst hv
    refine (sanity_calls W (tabW_of hg hs h0 hn htab)).mono fun e W' he => ?_
    obtain ⟨he, hb⟩ := he
    exact ⟨σ, _, he, Grow.refl _ _ _, SR.belowW' hs hb, .b true, hb.mono hs.hB⟩
  · cases hx
noncomputable def sanQ : LQ := fun l s k => match l, s with
  | [], ⟨m, nx, base, lg, wl⟩ => match getM (p4 0) m with
    | .cells t n T => V.iff (Nat.beq T 183 && Nat.beq (cellsV t 0 n).length 64 && tabA (cellsV t 0 n)) (k (.b true) ⟨m, nx, base, logF base 0 (whole 0) lg, wl⟩)
    | _ => none
  | _, _ => none
theorem sanQ_ok (B : Nat) (s : CE.St) (f : QW) (x : List AV) (l : List FV) (hs : RS B s f) (h : RVs x l) : Ok B RV (sanQ l f) (sanE x s) := by
  obtain ⟨rfl, ho⟩ := h
  intro k r hk
  obtain ⟨m, n, lg, w⟩ := s
  obtain ⟨fm, nx, base, lg', wl⟩ := f
  cases l with
  | cons v l => cases hk
  | nil =>
    have hm := hs.m 0
    dsimp only at hm
    unfold sanQ at hk
    dsimp only at hk
    show ∃ b f' a s', CE.bnd (rdAll 0) (fun q => CE.bnd (CE.chk (Nat.beq q.2 183 && Nat.beq q.1.length 64 && tabA q.1)) fun _ => CE.ret (.b true)) ⟨m, n, lg, w⟩ = some (a, s') ∧ RV a b ∧ RS B s' f' ∧ k b f' = some r
    generalize getM (p4 0) fm = b at hm hk
    generalize hmi : m.get 0 = a at hm
    cases hm with
    | cells t N T hok =>
      dsimp only at hk
      cases hc : (Nat.beq T 183 && Nat.beq (cellsV t 0 N).length 64 && tabA (cellsV t 0 N)) with
      | false => rw [hc] at hk; cases hk
      | true =>
        rw [hc] at hk
        refine ⟨.b true, _, .b true, ⟨m, n, whole 0 :: lg, w⟩, ?_, ⟨rfl, trivial⟩, hs.log (whole 0) (hs.mb 0 _ hmi), hk⟩
        unfold CE.bnd rdAll
        dsimp only
        rw [hmi]
        dsimp only
        rw [hc]
        rfl
    | _ => cases hk
theorem san_good : Good Tryz.prog 5 sanQ sanE := ⟨sanE_loc, sanE_sound, sanQ_ok⟩
end
end V
end Go.CE
namespace Go.CE
namespace V
variable [Sym] [SymOk]
noncomputable def tP : LT := .n 5 sanQ sanE Q.tL Q.tL
theorem allP : tP.all (Good P) := ⟨san_good, Q.allL, Q.allL⟩
end V
end Go.CE
namespace Go.CE
namespace V
open Go.Proofs Go.Proofs.YtednpkiegiiimaaGreatDoor Go.RowKit
def symB (b0 b1 b2 b3 len w : Nat) (kn : Bool) : BinOp → IntKind → Nat → IntKind → Int → Option AV
  | .shr, .u8, 0, .i64, .ofNat 0 => some (.x .u8 10)
  | .shr, .u8, 0, .i64, .ofNat 1 => some (.x .u8 11)
  | .shr, .u8, 0, .i64, .ofNat 2 => some (.x .u8 12)
  | .shr, .u8, 0, .i64, .ofNat 3 => some (.x .u8 13)
  | .rem, .u8, 10, .u8, .ofNat 2 => some (.i .u8 (.ofNat b0))
  | .rem, .u8, 11, .u8, .ofNat 2 => some (.i .u8 (.ofNat b1))
  | .rem, .u8, 12, .u8, .ofNat 2 => some (.i .u8 (.ofNat b2))
  | .rem, .u8, 13, .u8, .ofNat 2 => some (.i .u8 (.ofNat b3))
  | .rem, .i64, 3, .i64, .ofNat m => match Nat.beq m len with
    | true => match kn with
      | true => some (.i .i64 (.ofNat w))
      | false => some (.x .i64 20)
    | false => none
  | _, _, _, _, _ => none
def symV (n c len : Nat) : Nat → Int
  | 0 => .ofNat n
  | 1 => .ofNat c
  | 3 => .ofNat c
  | 10 => .ofNat (n / 2 ^ 0)
  | 11 => .ofNat (n / 2 ^ 1)
  | 12 => .ofNat (n / 2 ^ 2)
  | 13 => .ofNat (n / 2 ^ 3)
  | 20 => .ofNat (c % len)
  | _ => 0
def symC : IntKind → Nat → Option AV
  | .i64, 1 => some (.x .i64 3)
  | _, _ => none
@[reducible] def symL (n c b0 b1 b2 b3 len w : Nat) (kn : Bool) : Sym := { val := symV n c len, bin := symB b0 b1 b2 b3 len w kn, cv := symC }
theorem tmod_nat (x y : Nat) : (Int.ofNat x).tmod (Int.ofNat y) = Int.ofNat (x % y) := rfl
theorem symL_ok (n c b0 b1 b2 b3 len w : Nat) (kn : Bool) (hc : c < 256) (hl : 0 < len) (h0 : n / 2 ^ 0 % 2 = b0) (h1 : n / 2 ^ 1 % 2 = b1) (h2 : n / 2 ^ 2 % 2 = b2) (h3 : n / 2 ^ 3 % 2 = b3) (hw : kn = true → c % len = w) : @SymOk (symL n c b0 b1 b2 b3 len w kn) := by
  refine @SymOk.mk (symL n c b0 b1 b2 b3 len w kn) (fun op k j k' m r h P T => ?_) (fun k j r h => ?_) (fun _ _ _ _ _ _ h => by cases h) (fun _ _ _ _ _ _ h => by cases h) (fun _ _ _ h => by cases h) (fun _ _ _ h => by cases h) (fun _ _ _ h => by cases h)
  · replace h : symB b0 b1 b2 b3 len w kn op k j k' m = some r := h
    unfold symB at h
    split at h
    · cases h; rfl
    · cases h; rfl
    · cases h; rfl
    · cases h; rfl
    · cases h
      show some (AV.i .u8 ((Int.ofNat (n / 2 ^ 0)).tmod (Int.ofNat 2))) = some (AV.i .u8 (.ofNat b0))
      rw [tmod_nat, h0]
    · cases h
      show some (AV.i .u8 ((Int.ofNat (n / 2 ^ 1)).tmod (Int.ofNat 2))) = some (AV.i .u8 (.ofNat b1))
      rw [tmod_nat, h1]
    · cases h
      show some (AV.i .u8 ((Int.ofNat (n / 2 ^ 2)).tmod (Int.ofNat 2))) = some (AV.i .u8 (.ofNat b2))
      rw [tmod_nat, h2]
    · cases h
      show some (AV.i .u8 ((Int.ofNat (n / 2 ^ 3)).tmod (Int.ofNat 2))) = some (AV.i .u8 (.ofNat b3))
      rw [tmod_nat, h3]
    · rename_i m
      split at h
      · rename_i hm
        obtain rfl := Nat.eq_of_beq_eq_true hm
        have hv : @binN (symL n c b0 b1 b2 b3 m w kn) P .rem T (.i .i64 (.ofNat c)) (.i .i64 (.ofNat m)) = some (.i .i64 (.ofNat (c % m))) := by
          show (match eqI (.ofNat m) 0 with | true => none | false => some (AV.i .i64 ((Int.ofNat c).tmod (Int.ofNat m)))) = _
          have : eqI (.ofNat m) 0 = false := by
            cases m with
            | zero => omega
            | succ m => rfl
          rw [this, tmod_nat]
        split at h
        · cases h
          rw [← hw rfl]
          exact hv
        · cases h
          exact hv
      · cases h
    · cases h
  · have h : symC k j = some r := h
    unfold symC at h
    split at h
    · cases h
      show AV.i .i64 (.ofNat c) = AV.i .i64 (match Nat.ble c 9223372036854775807 with | true => Int.ofNat c | false => IntKind.i64.wrap (Int.ofNat c))
      rw [Nat.ble_eq_true_of_le (by omega)]
    · cases h
/-- The run of a case. -/
noncomputable def runT (s p b0 b1 b2 b3 len w : Nat) (kn rf : Bool) : Ans := @evF (symL s p b0 b1 b2 b3 len w kn) P (@LT.fq (@tP (symL s p b0 b1 b2 b3 len w kn))) 4000 3 [.o (.x .u8 0), .o (.x .u8 1), .b rf] fs1
/-- A case that runs to true is one of the law's. -/
theorem case_calls (s p b0 b1 b2 b3 len w : Nat) (kn rf : Bool) (hp : p < 256) (hl : 0 < len) (h0 : s / 2 ^ 0 % 2 = b0) (h1 : s / 2 ^ 1 % 2 = b1) (h2 : s / 2 ^ 2 % 2 = b2) (h3 : s / 2 ^ 3 % 2 = b3) (hw : kn = true → p % len = w) (hr : isT (runT s p b0 b1 b2 b3 len w kn rf) = true) (W : World) (h : TabW W) :
    Calls Tryz.prog 3 #[.int .u8 (s : Int), .int .u8 (p : Int), .bool rf] W fun e w' => e = .returned (.bool true) ∧ Below W.heap.size W w' := by
  obtain ⟨f, hf⟩ := isT_of hr
  have hok := symL_ok s p b0 b1 b2 b3 len w kn hp hl h0 h1 h2 h3 hw
  have hall := @allP (symL s p b0 b1 b2 b3 len w kn) hok
  obtain ⟨x, s', hev, ⟨hx, _⟩, _⟩ := @ok_evF (symL s p b0 b1 b2 b3 len w kn) hok 2048 _ _ P _ _ (@LT.sumOk (symL s p b0 b1 b2 b3 len w kn) hok P _ hall) (@LT.sumS (symL s p b0 b1 b2 b3 len w kn) hok P _ hall).1 4000 3 [.x .u8 0, .x .u8 1, .b rf] _ _ _ (@rs1 (symL s p b0 b1 b2 b3 len w kn) hok) ⟨rfl, (fun v h => by
    simp only [List.mem_cons, List.not_mem_nil, or_false] at h
    rcases h with rfl | rfl | rfl
    · rfl
    · rfl
    · trivial)⟩ hf
  obtain ⟨m', n', l', w'⟩ := s'
  have hxb : x = .b true := hx
  subst hxb
  have lr : @LR (symL s p b0 b1 b2 b3 len w kn) gsg [.x .u8 0, .x .u8 1, .b rf] #[.int .u8 (s : Int), .int .u8 (p : Int), .bool rf] := by
    refine @LR.mk (symL s p b0 b1 b2 b3 len w kn) _ _ _ rfl fun i x v h1 h2 => ?_
    have hi : i < 3 := by
      have := (List.getElem?_eq_some_iff.1 h1).1
      exact this
    have : i = 0 ∨ i = 1 ∨ i = 2 := by omega
    rcases this with rfl | rfl | rfl
    · cases h1; cases h2; exact @VR.x (symL s p b0 b1 b2 b3 len w kn) _ _ 0
    · cases h1; cases h2; exact @VR.x (symL s p b0 b1 b2 b3 len w kn) _ _ 1
    · cases h1; cases h2; exact @VR.b (symL s p b0 b1 b2 b3 len w kn) _ _
  obtain ⟨_, c2⟩ := @evCall_sound (symL s p b0 b1 b2 b3 len w kn) hok P _ (@LT.sumS (symL s p b0 b1 b2 b3 len w kn) hok P _ hall) 4000 W.heap.size gsg mem1 1024 [] [] W 3 _ (.b true) m' n' l' w' _ gsg_gs (@sr1 (symL s p b0 b1 b2 b3 len w kn) hok W h) lr hev (fun j h1 _ => by
    cases hj : gsg j with
    | none => rfl
    | some q => have := gsg_lt hj; omega)
  refine c2.mono fun e W' hd => ?_
  obtain ⟨τ, u, rfl, -, -, hv, hb⟩ := hd
  cases hv
  exact ⟨rfl, hb⟩
end V
end Go.CE
