/-
  Which shapes of letters are reckoned.
-/
import Derived.Test.YtednpkiegiiimaaGreatDoorPkCeOne
import Derived.Test.YtednpkiegiiimaaGreatDoorPkKey
import Derived.Test.YtednpkiegiiimaaGreatDoorPkSy
import Derived.Test.YtednpkiegiiimaaGreatDoorPkFv
import Derived.Test.YtednpkiegiiimaaGreatDoorPkLz
import Derived.KernelRfl
set_option linter.unusedSectionVars false
set_option linter.constructorNameAsVariable false
set_option linter.unusedVariables false
set_option linter.unusedSimpArgs false
namespace Go.CE
namespace V
def shB (kind n : Nat) : Bool := Nat.ble kind 12 && (Nat.ble 1 n && Nat.ble n 3)
end V
end Go.CE
namespace Go.CE
namespace V
open Go.Proofs Go.Proofs.YtednpkiegiiimaaGreatDoor Go.RowKit
section
variable [Sym] [SymOk]
/-- One more block that is only read. -/
theorem sr_lay {P : Program} {B : Nat} {σ : Sg} {m : Tr AB} {W : World} (hs : SR P B σ m W) {k : Nat} {q : Pl} {x : AB} {o : Obj} (hk : σ k = none) (hr : k < 2048) (ho : W.heap[q.b]? = some o) (hx : BR P (σ.add k q) k q x o)
    (hne : ∀ j p, m.get j ≠ none → σ j = some p → p.b ≠ q.b) : SR P B (σ.add k q) (m.set k (some x)) W := by
  have hle := Sg.le_add (q := q) hk
  refine ⟨fun j y hj => ?_, fun i j p1 p2 hi hj s1 s2 he => ?_, fun j p hj hro => ?_, hs.hB⟩
  · rw [Tr.get_set] at hj
    by_cases h : j = k
    · subst h
      rw [if_pos rfl] at hj; cases hj
      exact ⟨q, o, by simp [Sg.add], ho, hx⟩
    · rw [if_neg h] at hj
      obtain ⟨p, o', h1, h2, h3⟩ := hs.mr j y hj
      exact ⟨p, o', hle _ _ h1, h2, h3.mono hle⟩
  · have key : ∀ j p, (m.set k (some x)).get j ≠ none → σ.add k q j = some p → (j = k ∧ p.b = q.b) ∨ (j ≠ k ∧ m.get j ≠ none ∧ σ j = some p) := fun j p hj hσ => by
      rw [Tr.get_set] at hj
      unfold Sg.add at hσ
      by_cases h : j = k
      · rw [if_pos h] at hσ; cases hσ; exact .inl ⟨h, rfl⟩
      · rw [if_neg h] at hσ hj
        exact .inr ⟨h, hj, hσ⟩
    rcases key i p1 hi s1 with ⟨rfl, hb⟩ | ⟨_, a1, a2⟩ <;> rcases key j p2 hj s2 with ⟨rfl, hb'⟩ | ⟨_, c1, c2⟩
    · rfl
    · exact absurd (he ▸ hb) (hne j p2 c1 c2)
    · exact absurd (he.symm ▸ hb') (hne i p1 a1 a2)
    · exact hs.inj i j p1 p2 a1 c1 a2 c2 he
  · unfold Sg.add at hj
    by_cases h : j = k
    · subst h; exact absurd hro (by have : roB = 2048 := rfl; omega)
    · rw [if_neg h] at hj; exact hs.ro j p hj hro
/-- .. on the quick side. -/
theorem rs_lay {m : Tr AB} {fm : FM} (h : RS 2048 ⟨m, 1024, [], []⟩ ⟨fm, 1024, 2048, [], []⟩) (k T : Nat) (cs : List AV) (hk : k < 2048) (hs : allsc cs = true) :
    RS 2048 ⟨m.set k (some (.cells cs T)), 1024, [], []⟩ ⟨setM (p4 k) (.cells (treeOf cs) cs.length T) fm, 1024, 2048, [], []⟩ := by
  refine ⟨rfl, rfl, Nat.le_refl _, (fun e h => by cases h), (fun e h => by cases h), fun j => ?_, (fun e h => by cases h), (fun e h => by cases h), fun j x hj => ?_⟩
  · show RB ((m.set k _).get j) (getM (p4 j) (setM (p4 k) _ fm))
    rw [Tr.get_set, getM_set]
    by_cases e : j = k
    · rw [if_pos e, if_pos e]
      have hc := cells_tree cs hs
      have hb := RB.cells (treeOf cs) cs.length T hc.2
      rwa [show cellsV (treeOf cs) 0 cs.length = cs from hc.1] at hb
    · rw [if_neg e, if_neg e]
      exact h.m j
  · rw [Tr.get_set] at hj
    by_cases e : j = k
    · subst e; show j < 2 * 1024; omega
    · rw [if_neg e] at hj; exact h.mb j x hj
/-- **A run over laid blocks.** -/
theorem run_calls {t : LT} (hall : t.all (Good Tryz.prog)) {q k : Nat} {l : List FV} {a : List AV} {m : Tr AB} {fm : FM} {v : FV} {f' : QW} {σ : Sg} {W : World} {vals : Array Value}
    (hrs : RS 2048 ⟨m, 1024, [], []⟩ ⟨fm, 1024, 2048, [], []⟩) (hg : GS σ) (hsr : SR Tryz.prog W.heap.size σ m W) (hfr : ∀ j, 2048 ≤ j → σ j = none)
    (hl : RVs a l) (hv : LR σ a vals) (he : evF Tryz.prog t.fq q k l ⟨fm, 1024, 2048, [], []⟩ = some (v, f')) :
    Calls Tryz.prog k vals W fun e W' => ∃ τ u s', e = .returned u ∧ okV v ∧ RS 2048 s' f' ∧ Grow σ τ 1024 s'.nx ∧ SR Tryz.prog W.heap.size τ s'.mem W' ∧ VR τ (absV v) u ∧ Below W.heap.size W W' := by
  obtain ⟨x, s', hev, ⟨hx, hov⟩, hrs'⟩ := ok_evF (P := Tryz.prog) (LT.sumOk hall) (LT.sumS hall).1 q k hrs hl he
  obtain ⟨m', n', l', w'⟩ := s'
  subst hx
  obtain ⟨_, c2⟩ := evCall_sound (LT.sumS hall) q W.heap.size σ m 1024 [] [] W k a (absV v) m' n' l' w' vals hg hsr hv hev (fun j h1 _ => hfr j h1)
  refine c2.mono fun e W' hd => ?_
  obtain ⟨τ, u, he, h1, h2, hv, hb⟩ := hd
  exact ⟨τ, u, _, he, hov, hrs', h1, h2, hv, hb⟩
end
/-! ### Slices of one-cell elements that reach to their block's end -/
/-- A slice that holds these cells and reaches to its block's end, a block from B on. -/
def Sl (B : Nat) (W : World) (v : Value) (T : Nat) (vs : List Value) : Prop := ∃ b o c row, v = .slice (some ⟨b, o, none⟩) vs.length c ∧ B ≤ b ∧ W.heap[b]? = some (.cells row T (0, 0)) ∧ o + c = row.size ∧ vs.length ≤ c ∧ ∀ i, i < vs.length → row[o + i]? = vs[i]?
theorem Sl.below {B : Nat} {W W' : World} {v : Value} {T : Nat} {vs : List Value} (h : Sl B W v T vs) (hb : Below W.heap.size W W') : Sl B W' v T vs := by
  obtain ⟨b, o, c, row, h1, h0, h2, h3, h4, h5⟩ := h
  exact ⟨b, o, c, row, h1, h0, (hb.block b (Array.getElem?_eq_some_iff.1 h2).1).trans h2, h3, h4, h5⟩
theorem Sl.mono {B B' : Nat} {W : World} {v : Value} {T : Nat} {vs : List Value} (h : Sl B W v T vs) (hb : B' ≤ B) : Sl B' W v T vs := by
  obtain ⟨b, o, c, row, h1, h0, h2, h3, h4, h5⟩ := h
  exact ⟨b, o, c, row, h1, Nat.le_trans hb h0, h2, h3, h4, h5⟩
theorem Sl.lt {B : Nat} {W : World} {v : Value} {T : Nat} {vs : List Value} (h : Sl B W v T vs) : ∃ b o c, v = .slice (some ⟨b, o, none⟩) vs.length c ∧ B ≤ b ∧ b < W.heap.size := by
  obtain ⟨b, o, c, row, h1, h0, h2, h3, h4, h5⟩ := h
  exact ⟨b, o, c, h1, h0, (Array.getElem?_eq_some_iff.1 h2).1⟩
section
variable [Sym]
/-- The value of a number's abstract value. -/
def valX : AV → Value
  | .i k n => .int k n
  | .x k j => .int k (Sym.val j)
  | _ => undef
def isIX : AV → Bool
  | .i _ _ => true
  | .x _ _ => true
  | _ => false
theorem vr_valX {σ : Sg} {a : AV} {v : Value} (h : VR σ a v) (hx : isIX a = true) : v = valX a := by
  cases a <;> first | (cases h; rfl) | cases hx
theorem valX_vr (σ : Sg) {a : AV} (hx : isIX a = true) : VR σ a (valX a) := by
  cases a <;> first | exact .i _ _ | exact .x _ _ | cases hx
end
def avB : AV → AV → Bool
  | .i k (.ofNat a), .i j (.ofNat b) => ikEq k j && Nat.beq a b
  | .x k a, .x j b => ikEq k j && Nat.beq a b
  | .b a, .b b => a == b
  | .s [], .s [] => true
  | .sl none a b, .sl none c d => Nat.beq a c && Nat.beq b d
  | _, _ => false
def avL : List AV → List AV → Bool
  | [], [] => true
  | a :: l, b :: m => avB a b && avL l m
  | _, _ => false
theorem avB_eq {a b : AV} (h : avB a b = true) : a = b := by
  unfold avB at h
  split at h
  · simp only [Bool.and_eq_true] at h
    have h1 : _ = _ := of_decide_eq_true h.1
    have h2 := Nat.eq_of_beq_eq_true h.2
    rw [h1, h2]
  · simp only [Bool.and_eq_true] at h
    have h1 : _ = _ := of_decide_eq_true h.1
    have h2 := Nat.eq_of_beq_eq_true h.2
    rw [h1, h2]
  · simp at h; rw [h]
  · rfl
  · simp only [Bool.and_eq_true] at h
    have h1 := Nat.eq_of_beq_eq_true h.1
    have h2 := Nat.eq_of_beq_eq_true h.2
    rw [h1, h2]
  · cases h
theorem avL_eq : ∀ {a b : List AV}, avL a b = true → a = b
  | [], [], _ => rfl
  | [], _ :: _, h => by simp [avL] at h
  | _ :: _, [], h => by simp [avL] at h
  | a :: l, b :: m, h => by
    simp only [avL, Bool.and_eq_true] at h
    rw [avB_eq h.1, avL_eq h.2]
/-- The n cells from o on of a block of a type. -/
noncomputable def blkL (T : Nat) (r : FB) (o n : Nat) : Option (List AV) := match r with
  | .cells t m U => match Nat.ble (o + n) m && Nat.beq T U with
    | true => some (cellsV t o n)
    | false => none
  | _ => none
def optL (x : Option (List AV)) (l : List AV) : Bool := match x with
  | some m => avL m l
  | none => false
theorem cellsV_get [Sym] [SymOk] (t : FV) (m o n i : Nat) (hi : i < n) (h : o + n ≤ m) : (cellsV t 0 m)[o + i]? = (cellsV t o n)[i]? := by
  rw [get_cellsV, get_cellsV, if_pos (by omega), if_pos hi, Nat.zero_add]
/-- What a slice of a new block is in the real world. -/
theorem sl_of [Sym] [SymOk] {T B : Nat} {P : Program} {τ : Sg} {s' : CE.St} {f' : QW} {W' : World} {q : P4} {k o n c : Nat} {l : List AV} {u : Value} (hT : P.cellsOf T = 1) (hrs : RS 2048 s' f') (hsr : SR P B τ s'.mem W') (hq : q = p4 k) (hk : 2048 ≤ k) (hgw : gw k = true) (hn : n = l.length)
    (hb : blkL T (getM q f'.m) o n = some l) (hix : l.all isIX = true) (hv : VR τ (.sl (some (k, o)) n c) u) : Sl B W' u T (l.map valX) := by
  subst hq
  unfold blkL at hb
  split at hb
  · rename_i t m U hm
    split at hb
    · rename_i hc
      simp only [Bool.and_eq_true] at hc
      have hle : o + n ≤ m := Nat.le_of_ble_eq_true hc.1
      have hU : T = U := Nat.eq_of_beq_eq_true hc.2
      subst hU
      have hl : cellsV t o n = l := Option.some.inj hb
      have hR := hrs.m k
      rw [hm] at hR
      generalize hg : s'.mem.get k = y at hR
      cases hR
      obtain ⟨Q, ob, hQ, hh, cs, hcs, _, h2, h3, h4⟩ := hsr.mr k _ hg
      obtain ⟨h2a, h2b⟩ := h2 hgw
      cases hv with
      | sl _ _ _ _ c' Q' hQ' hcle _ hz =>
        rw [hQ] at hQ'; cases hQ'
        have hz := hz hgw
        have hs1 : Q.sz = 1 := by rw [← h2b]; exact hT
        rw [hs1, Nat.mul_one] at hz
        refine ⟨Q.b, o + Q.d, c', cs, by rw [List.length_map, hn], hsr.ro k Q hQ hk, by rw [hh, hcs], by omega, ?_, fun i hi => ?_⟩
        · rw [List.length_map, ← hn]
          -- the cells lie within
          have h3' : Q.d + m ≤ cs.size := by simpa [len_cellsV] using h3
          omega
        · rw [List.length_map, ← hn] at hi
          have hx : (cellsV t 0 m)[o + i]? = some (l[i]'(by omega)) := by
            rw [cellsV_get t m o n i hi hle, hl, List.getElem?_eq_getElem]
          have h3' : Q.d + m ≤ cs.size := by simpa [len_cellsV] using h3
          have hlt : Q.d + (o + i) < cs.size := by omega
          have hvr := h4 (o + i) _ cs[Q.d + (o + i)] hx (Array.getElem?_eq_getElem hlt)
          have := vr_valX hvr (List.all_eq_true.1 hix _ (List.getElem_mem _))
          rw [show o + Q.d + i = Q.d + (o + i) by omega, Array.getElem?_eq_getElem hlt, this]
          rw [List.getElem?_map, List.getElem?_eq_getElem (show i < l.length by omega)]
          rfl
    · cases hb
  · cases hb
/-- What a slice that was laid is for the evaluator. -/
theorem sl_lay [Sym] [SymOk] {P : Program} {B B' : Nat} {σ : Sg} {m : Tr AB} {W : World} {T : Nat} {l : List AV} {v : Value} {k : Nat} (hT : P.cellsOf T = 1) (hs : SR P B σ m W) (h : Sl B' W v T (l.map valX)) (hix : l.all isIX = true) (hk : σ k = none) (hr : k < 2048) (hgw : gw k = true)
    (hne : ∀ b o n c, v = .slice (some ⟨b, o, none⟩) n c → ∀ j p, m.get j ≠ none → σ j = some p → p.b ≠ b) :
    ∃ q, SR P B (σ.add k q) (m.set k (some (.cells l T))) W ∧ VR (σ.add k q) (.sl (some (k, 0)) l.length l.length) v := by
  obtain ⟨b, o, c, row, rfl, _, h2, h3, h4, h5⟩ := h
  rw [List.length_map] at h4 h5
  refine ⟨⟨b, o, row.size, 1⟩, sr_lay hs hk hr h2 ⟨row, rfl, (fun h => by rw [hgw] at h; cases h), (fun _ => ⟨rfl, hT⟩), by show o + l.length ≤ row.size; omega, fun i x v e1 e2 => ?_⟩ (hne b o _ c rfl), ?_⟩
  · have hi : i < l.length := (List.getElem?_eq_some_iff.1 e1).1
    have e2 : row[o + i]? = some v := e2
    rw [h5 i hi, List.getElem?_map, e1] at e2
    cases e2
    have hm : x ∈ l := List.mem_of_getElem? e1
    exact valX_vr _ (List.all_eq_true.1 hix x hm)
  · rw [List.length_map]
    have := VR.sl (σ := σ.add k ⟨b, o, row.size, 1⟩) k 0 l.length l.length c ⟨b, o, row.size, 1⟩ (by simp [Sg.add]) h4 (fun h => by rw [hgw] at h; cases h) (fun _ => by show 0 + o + c * 1 = row.size; omega)
    simpa using this
end V
end Go.CE
namespace Go.CE
namespace V
open Go.Proofs Go.Proofs.YtednpkiegiiimaaGreatDoor Go.RowKit
/- ### What is known of a letter's numbers: 1 from, 2 to, 3 meeting, 4 resource, 5 deadline, 6 state, 8 .. the cells. -/
def shHi (kind : Nat) : Nat → Nat
  | 1 => 15
  | 2 => 15
  | 3 => 1099511627776
  | 4 => 255
  | 5 => 2251799813685248
  | 6 => match kind with
    | 14 => 5
    | _ => 18
  | _ => 15
def shLo : Nat → Nat
  | 3 => 1
  | _ => 0
def shOrd (n s t : Nat) : Bool := Nat.ble 8 s && Nat.blt s t && Nat.blt t (8 + n)
def shNe : Nat → Nat → Bool
  | 1, 2 => true
  | 2, 1 => true
  | _, _ => false
def shOne : Nat → Bool
  | 0 => false
  | 1 => true
  | 2 => true
  | 3 => false
  | 4 => false
  | 5 => false
  | 6 => false
  | 7 => false
  | _ => true
/-- The 32 names of the Ref. -/
def refX : List AV := (List.range 32).map fun i => .x .u8 (1048576 + i)
def zer32 : List AV := List.replicate 32 (.i .u8 (.ofNat 0))
def shEq (rz : Bool) (v w : List AV) : Option Bool := match avL v refX && avL w zer32 with
  | true => some rz
  | false => none
@[reducible] def shP (kind n : Nat) (rz : Bool) (num oct : Nat → Nat) : Y.Pk := { num := num, lo := shLo, hi := shHi kind, oct := oct, ocq := fun _ _ => none, ord := shOrd n, ne := shNe, one := shOne, eqg := shEq rz }
@[reducible] def shS (kind n : Nat) (rz : Bool) (num oct : Nat → Nat) : Sym := (shP kind n rz num oct).sym
/- ### The letter's cells -/
def usesR (kind : Nat) : Bool := usesN kind 16
/-- A field's number: a name, or 0. -/
def fX (kind f s : Nat) : AV := match usesN kind f with
  | true => .x .i64 (64 * s)
  | false => .i .i64 (.ofNat 0)
def stX (kind : Nat) : AV := match kind with
  | 8 => .i .i64 (.ofNat 0)
  | _ => fX kind 12 6
def rsX (kind : Nat) : AV := match kind with
  | 8 => .i .i64 (.ofNat 0)
  | _ => fX kind 6 4
def zI : AV := .i .i64 (.ofNat 0)
def refA (kind : Nat) : List AV := match usesR kind with
  | true => refX
  | false => zer32
/-- The letter's row; c: its cells' slice. -/
def letH (kind : Nat) : List AV := [.i .i64 (.ofNat kind), .x .i64 64, .x .i64 128, .x .i64 192, zI, zI, zI, zI, zI, rsX kind, zI, zI,
  zI, .b false, zI, zI, zI, .sl none 0 0, zI, zI, .s [], zI, zI, .sl none 0 0, fX kind 11 5, stX kind, zI, zI, zI]
def letX (kind : Nat) (c : AV) : List AV := letH kind ++ c :: refA kind
def cellX (n : Nat) : List AV := (List.range n).map fun i => .x .i64 (64 * (8 + i))
/- ### Its encoding -/
def b0 : AV := .i .u8 (.ofNat 0)
def b8 (s : Nat) : List AV := [.x .u8 (64 * s + 8), .x .u8 (64 * s + 9), .x .u8 (64 * s + 10), .x .u8 (64 * s + 11), .x .u8 (64 * s + 12), .x .u8 (64 * s + 13), .x .u8 (64 * s + 14), .x .u8 (64 * s + 15)]
def z8 : List AV := [b0, b0, b0, b0, b0, b0, b0, b0]
def clX (n : Nat) : List AV := [.i .u8 (.ofNat n), b0, b0, b0] ++ (List.range n).map fun i => .x .u8 (64 * (8 + i))
def hdX (kind : Nat) : List AV := [.i .u8 (.ofNat kind), .x .u8 64, .x .u8 128] ++ b8 3
def encX (kind n : Nat) : List AV := match kind with
  | 8 => hdX kind ++ (z8 ++ (z8 ++ (z8 ++ ([b0, b0, b0, b0] ++ (b8 5 ++ (z8 ++ clX n))))))
  | 9 => hdX kind ++ (b8 4 ++ (b8 5 ++ (clX n ++ refX)))
  | 10 => hdX kind ++ (b8 4 ++ (b8 6 ++ (clX n ++ refX)))
  | 13 => hdX kind ++ clX n
  | 18 => hdX kind ++ refX
  | _ => hdX kind ++ (b8 6 ++ (clX n ++ refX))
/- ### Runs -/
/-- The cells' slice: 0 none, 1 empty, 2 in block 1025. -/
def clS (form n : Nat) : AV := match form with
  | 0 => .sl none 0 0
  | 1 => .se
  | _ => .sl (some (1025, 0)) n n
noncomputable def fmI (form n : Nat) : FM := match form with
  | 2 => setM (p4 1025) (.cells (treeOf (cellX n)) (cellX n).length 3) .e
  | _ => .e
noncomputable def runL [Sym] (f kind form n : Nat) : Ans := evF P (LT.fq tL) 4000 f [ofV (.g (letX kind (clS form n)))] ⟨fmI form n, 1024, 2048, [], []⟩
/-- A slice of a new block, which holds these cells, and the error number 0. -/
noncomputable def isBytes (l : List AV) (r : Ans) : Bool := match r with
  | some (.t t 2, f) => match getV (p4 0) t, getV (p4 1) t with
    | .s q k o n _, .i .i64 0 => Nat.beq n l.length && Nat.ble 2048 k && gw k && l.all isIX && optL (blkL 5 (getM q f.m) o n) l
    | _, _ => false
  | _ => false
/-- Which names are bytes. -/
def shByt (j : Nat) : Bool := Nat.ble 1048576 j || (Nat.ble 8 (j % 64) && Nat.blt (j % 64) 16) || (Nat.beq (j % 64) 0 && shOne (j / 64))
noncomputable def tR [Sym] : LT := .n 124 (eqQ shByt) (eqE shByt) tL tL
noncomputable def runR [Sym] (f kind n : Nat) : Ans := evF P (LT.fq tR) 4000 f [ofV (.sl (some (1027, 0)) (encX kind n).length (encX kind n).length)] ⟨setM (p4 1027) (.cells (treeOf (encX kind n)) (encX kind n).length 5) .e, 1024, 2048, [], []⟩
/-- The cells' slice of a letter that was read. -/
noncomputable def isCells (n : Nat) (v : FV) (f : QW) : Bool := match n with
  | 0 => avB (abs0 v) (.sl none 0 0)
  | n => match v with
    | .s q k o m _ => Nat.beq m n && Nat.ble 2048 k && gw k && optL (blkL 3 (getM q f.m) o m) (cellX n)
    | _ => false
/-- A letter's row, and the error number 0. -/
noncomputable def isLet (kind n : Nat) (r : Ans) : Bool := match r with
  | some (.t t 2, f) => match getV (p4 0) t, getV (p4 1) t with
    | .g g 62, .i .i64 0 => avL (cellsV g 0 29) (letH kind) && avL (cellsV g 30 32) (refA kind) && isCells n (getV (p4 29) g) f
    | _, _ => false
  | _ => false
end V
end Go.CE
