/-
  Rows of bytes.
-/
import Derived.Test.YtmjblpkbfoipfaaGreatDoorPkTy
import Derived.Test.YtmjblpkbfoipfaaGreatDoorPkDigA
import Derived.Test.YtmjblpkbfoipfaaGreatDoorProg
import Derived.WalkKit
import Derived.WalkSpells
import Derived.WalkLawsBesides
import Derived.Handy
import Derived.Lib.Hide
import Derived.Laws.CopyOwn
import Derived.Deep.QuietTactic
import Derived.BigQuiet
import Derived.BigRegion
import Derived.StillTailTactics
import Derived.RegionTactic
import Derived.LoopTactic
import Derived.OwnWalk
import Derived.Deep.AppendLies
import Derived.Deep.AppendSrc
import Derived.Test.YtmjblpkbfoipfaaGreatDoorPkRow
import Derived.RangeFuncNested
import Derived.RangeFuncBound
import Derived.RangeFuncCalls
import Derived.RangeFuncLeaves
import Derived.Shelf.Abstract
import Derived.Test.YtmjblpkbfoipfaaGreatDoorPkDigB
set_option linter.unusedSectionVars false
set_option linter.constructorNameAsVariable false
set_option linter.unusedVariables false
set_option linter.unusedSimpArgs false
namespace Go.Proofs.YtmjblpkbfoipfaaGreatDoor
open Go.RowKit
def bRow (l : List UInt8) : Array Value := (l.map fun c => B8 c.toNat).toArray
@[go_sem] theorem bRow_size (l : List UInt8) : (bRow l).size = l.length := by simp [bRow]
theorem bRow_get (l : List UInt8) (i : Nat) (h : i < l.length) : (bRow l)[i]? = some (B8 (l.getD i 0).toNat) := by
  simp only [bRow, List.getElem?_toArray, List.getElem?_map, List.getD_eq_getElem?_getD]
  rw [List.getElem?_eq_getElem h]; rfl
@[go_sem] theorem bRow_ones (l : List UInt8) : ones (bRow l) = true := by
  unfold ones
  rw [Array.all_eq_true_iff_forall_mem]
  intro x hx
  simp only [bRow, List.mem_toArray, List.mem_map] at hx
  obtain ⟨n, _, rfl⟩ := hx
  rfl
theorem bRow_all (l : List UInt8) (n : Nat) (h : l.length = n) : (bRow l).extract 0 n = bRow l := extract_all _ _ (by rw [bRow_size, h])
theorem bRow_set (l : List UInt8) (i : Nat) (c : UInt8) : (bRow l).setIfInBounds i (B8 c.toNat) = bRow (l.set i c) := by
  simp [bRow, List.map_set]
theorem bRow_append (l m : List UInt8) : bRow (l ++ m) = bRow l ++ bRow m := by simp [bRow]
def u64 (n : Int) : Nat := (n % 18446744073709551616).toNat
theorem u64_wrap (n : Int) : IntKind.u64.wrap n = ((u64 n : Nat) : Int) := by rw [IntKind.wrap_u64]; unfold u64; omega
theorem u64_lt (n : Int) : u64 n < 18446744073709551616 := by unfold u64; omega
def le8 (n : Nat) : List UInt8 := (List.range 8).map fun i => UInt8.ofNat (n >>> (8 * i))
theorem le8_length (n : Nat) : (le8 n).length = 8 := by simp [le8]
theorem le8_get (n i : Nat) (h : i < 8) : (le8 n).getD i 0 = UInt8.ofNat (n >>> (8 * i)) := by
  simp only [le8, List.getD_eq_getElem?_getD, List.getElem?_map, List.getElem?_range h]; rfl
theorem byte_val (n i : Nat) : IntKind.u8.wrap ((n : Int) / 2 ^ (8 * i)) = (((UInt8.ofNat (n >>> (8 * i))).toNat : Nat) : Int) := by
  have h : ((n : Int) / 2 ^ (8 * i)) = ((n >>> (8 * i) : Nat) : Int) := by rw [Nat.shiftRight_eq_div_pow]; simp
  rw [h, wrap_u8_nat]; simp
theorem byte_val' (n i : Nat) : (n : Int) / 2 ^ (8 * i) % 256 = (((UInt8.ofNat (n >>> (8 * i))).toNat : Nat) : Int) := by
  rw [← byte_val, IntKind.wrap_u8]
def leK (n k : Nat) : List UInt8 := (le8 n).take k ++ List.replicate (8 - k) 0
theorem leK_length (n k : Nat) (hk : k ≤ 8) : (leK n k).length = 8 := by simp [leK, le8_length]; omega
theorem leK_full (n : Nat) : leK n 8 = le8 n := by simp [leK, le8_length, List.take_of_length_le]
theorem leK_set (n k : Nat) (hk : k < 8) : (leK n k).set k (UInt8.ofNat (n >>> (8 * k))) = leK n (k + 1) := by
  have hl := le8_length n
  have h1 : (le8 n).take (k + 1) = (le8 n).take k ++ [UInt8.ofNat (n >>> (8 * k))] := by
    rw [List.take_succ_eq_append_getElem (by omega)]
    congr 2
    have := le8_get n k hk
    rw [List.getD_eq_getElem?_getD, List.getElem?_eq_getElem (by omega)] at this
    simpa using this
  have h2 : 8 - k = (8 - (k + 1)) + 1 := by omega
  simp only [leK, h1]
  rw [h2, List.replicate_succ, List.set_append_right _ _ (by simp; omega)]
  simp [hl, Nat.min_eq_left (by omega : k ≤ 8)]
theorem bRow_leK_zero (n : Nat) : bRow (leK n 0) = #[.int .u8 0, .int .u8 0, .int .u8 0, .int .u8 0, .int .u8 0, .int .u8 0, .int .u8 0, .int .u8 0] := by
  simp [leK, bRow, List.replicate_succ]
attribute [irreducible] bRow leK le8
end Go.Proofs.YtmjblpkbfoipfaaGreatDoor
namespace Go.Proofs.YtmjblpkbfoipfaaGreatDoor
open Go.RowKit
theorem info_u8 : ∃ i, Tryz.prog.info? 5 = some i ∧ i.zero = some (.int .u8 0) ∧ i.size = 1 ∧ i.bytes = 1 :=
  info_parts (show (Tryz.prog.info? 5).map (fun i => (i.zero, i.size, i.bytes)) = some (some (.int .u8 0), 1, 1) by kernel_rfl)
def bCells (l : List UInt8) : List Value := l.map fun c => B8 c.toNat
theorem bCells_length (l : List UInt8) : (bCells l).length = l.length := by simp [bCells]
theorem bCells_append (l m : List UInt8) : bCells (l ++ m) = bCells l ++ bCells m := by simp [bCells]
theorem bCells_one (l : List UInt8) : ∀ u ∈ bCells l, u.oneCell' = true := by
  intro u hu
  obtain ⟨c, _, rfl⟩ := List.mem_map.1 hu
  rfl
theorem bRow_list (l : List UInt8) : (bRow l).toList = bCells l := by unfold bRow bCells; rfl
theorem news_bRow {w : World} {b : Nat} {l : List UInt8} {T : TypeId} {fr : Nat × Nat} (h : obj w b = some (.cells (bRow l) T fr)) : ∀ j u, (bCells l)[j]? = some u → w.cell? ((⟨b, 0, none⟩ : Addr).add j) = some u := by
  rw [← bRow_list]
  exact World.news_of_block h
theorem owns_below {w w' : World} {base : Nat} {e : TypeId} {size : Nat} {v : Value} {n : Nat} {xs : List Value} {B : Nat} (h : w.ownsRow base e size v n xs) (hb : Below B w w') (hv : ∀ g, v.ownBlock = some g → g < B) : w'.ownsRow base e size v n xs := by
  refine ⟨h.1, ?_⟩
  rcases h.2 with hn | ⟨g, cap, cur, rfl, h1, h2, h3⟩
  · exact .inl hn
  · exact .inr ⟨g, cap, cur, rfl, h1, (hb.block g (hv g rfl)).trans h2, h3⟩
theorem owns_base {w : World} {base base' : Nat} {e : TypeId} {size : Nat} {v : Value} {n : Nat} {xs : List Value} (h : w.ownsRow base e size v n xs) (hb : base' ≤ base) : w.ownsRow base' e size v n xs := by
  refine ⟨h.1, ?_⟩
  rcases h.2 with hn | ⟨g, cap, cur, rfl, h1, h2, h3⟩
  · exact .inl hn
  · exact .inr ⟨g, cap, cur, rfl, Nat.le_trans hb h1, h2, h3⟩
attribute [irreducible] bCells
end Go.Proofs.YtmjblpkbfoipfaaGreatDoor
namespace Go.Proofs.YtmjblpkbfoipfaaGreatDoor
open Go.RowKit
def KeepBut (R : Nat → Prop) (A B : World) : Prop := A.heap.size ≤ B.heap.size ∧ ∀ k, k < A.heap.size → ¬ R k → B.heap[k]? = A.heap[k]?
theorem KeepBut.refl (R : Nat → Prop) (A : World) : KeepBut R A A := ⟨Nat.le_refl _, fun _ _ _ => rfl⟩
theorem KeepBut.trans {R : Nat → Prop} {A B C : World} (h : KeepBut R A B) (k : KeepBut R B C) : KeepBut R A C :=
  ⟨Nat.le_trans h.1 k.1, fun i hi hr => (k.2 i (Nat.lt_of_lt_of_le hi h.1) hr).trans (h.2 i hi hr)⟩
theorem KeepBut.mono {R R' : Nat → Prop} {A B : World} (h : KeepBut R A B) (hr : ∀ k, R k → R' k) : KeepBut R' A B := ⟨h.1, fun i hi hn => h.2 i hi fun hk => hn (hr i hk)⟩
theorem KeepBut.putObj {R : Nat → Prop} (A : World) (l : Nat) (o : Obj) (hl : R l) : KeepBut R A (A.putObj l o) :=
  ⟨by simp [World.putObj], fun k _ hr => World.putObj_heap_other (fun e => hr (e ▸ hl))⟩
def SeqAll {α : Type} (n : Nat) (P : Program) (gf : Nat) (lb : Array Value) (V : α → Array Value → World → Prop) (dep : Nat → Prop) (xs : List α) (w : World) : Prop :=
  ∀ (l : Nat) (R : Nat → Prop) (J : List α → World → Prop) (W : World), Below w.heap.size w W → (∀ k, R k → k < W.heap.size ∧ ¬ dep k) →
    (∀ pre A B, Below W.heap.size A B → J pre A → J pre B) →
    (∀ pre x v W1, J pre W1 → V x v W1 → (∃ suf, xs = pre ++ x :: suf) → YieldAt Fence.wide (n - 1) P l v W1 fun e W' => e = .returned (.bool true) ∧ J (pre ++ [x]) W' ∧ KeepBut R W1 W') →
    J [] W → CallsIn Fence.wide n P gf (#[.func (.yield l) #[] #[]] ++ lb) W fun e W' => (∃ v, e = .returned v) ∧ J xs W'
def roundEnd (R : Nat → Prop) (I : World → Prop) (W : World) : Exit → Act → World → Prop
  | .normal, _, W' => KeepBut R W W' ∧ I W'
  | _, _, _ => False
theorem wpIn_rangeFunc_all {α : Type} {n : Nat} {P : Program} {g : Operand} {ps : Array Tmp} {assign body : Code} {Q : Exit → Act → World → Prop} {a : Act} {w : World}
    {gf : Nat} {lb : Array Value} (hg : a.eval g = .func (.func gf) #[] lb) (eg : ∀ args w, (callFunc gf args).run P w = .ok (.enter gf args) w)
    {V : α → Array Value → World → Prop} {dep : Nat → Prop} {xs : List α} (hseq : SeqAll (n - 1) P gf lb V dep xs w)
    (hps : ∀ x v W, V x v W → v.size = ps.size) (hdep : ∀ k, dep k → k < w.heap.size) (R : Nat → Prop) (hR : ∀ k, R k → k < w.heap.size ∧ ¬ dep k)
    (I : List α → World → Prop) (hI : ∀ pre A B, Below w.heap.size A B → I pre A → I pre B) (h0 : I [] w)
    (hround : ∀ (l : Nat) (pre : List α) (x : α) (v : Array Value) (W : World), I pre W → V x v W → (∃ suf, xs = pre ++ x :: suf) → w.heap.size + 2 ≤ W.heap.size → l = w.heap.size + 1 → (∀ ad : Addr, ad.block = l → W.cell? ad = none) →
      assign.wpIn (Fence.wide.inRound l) (n - 1 - 1) P (Exit.then (fun a₁ W₁ => W₁ = W ∧ ∀ W2, Below w.heap.size W W2 → (∀ k, k < W.heap.size → k ≠ l → W2.heap[k]? = W.heap[k]?) → W2.heap.size = W.heap.size →
          body.wpIn (Fence.wide.inRound l) (n - 1 - 1) P (roundEnd R (I (pre ++ [x])) W2) a₁ W2) (fun _ _ _ => False))
        { tmps := (ps.zip v).foldl (fun t (p, v) => t.setIfInBounds p v) a.tmps, defers := [] } W)
    (hdone : ∀ (D : Nat) (W : World), I xs W → w.heap.size ≤ D → W.heap[D]? = some (.deferred (some [])) → Q .normal { a with defers := { target := .collected D, args := #[] } :: a.defers } W) :
    (Code.rangeFunc g ps assign body).wpIn Fence.wide n P Q a w := by
  refine wpIn_rangeFunc ?_
  intro fn hfn
  show ∃ (l : Nat) (mark : List Deferred) (w₁ : World) (d : Deferred) (w₁' : World) (f : FuncId) (args : Array Value) (w₂ : World), (Instr.enterLoop fn a.tmps ps assign body none).run P w = .ok (l, mark) w₁ ∧ _
  obtain ⟨rec, hrec⟩ : ∃ rec : LoopState → Option Code → Loop, rec = fun st pe => { state := st, pending := pe, fn, tmps := a.tmps, params := ps, assign, body, defers := w.heap.size } := ⟨_, rfl⟩
  obtain ⟨W1, hW1⟩ : ∃ W1, (w.alloc (.deferred (some []))).alloc (.loop (rec .ready none)) = W1 := ⟨_, rfl⟩
  have hz1 : W1.heap.size = w.heap.size + 2 := by rw [← hW1]; simp
  have hL1 : W1.heap[w.heap.size + 1]? = some (.loop (rec .ready none)) := by
    rw [← hW1]; have := World.alloc_heap_new (w.alloc (.deferred (some []))) (.loop (rec .ready none)); rwa [World.size_alloc] at this
  have hK1 : W1.heap[w.heap.size]? = some (.deferred (some [])) := by
    rw [← hW1]; exact (Below.heap_alloc _ _ _ (by simp)).trans (World.alloc_heap_new w _)
  have hb1 : Below w.heap.size w W1 := by
    rw [← hW1]; exact ((Below.refl _ w).alloc (Nat.le_refl _) _).alloc (by simp) _
  have hI1 : I [] W1 := hI _ _ _ hb1 h0
  refine ⟨w.heap.size + 1, [{ target := .collected w.heap.size, args := #[] }], W1, { target := .fn (.func gf) lb, args := #[.func (.yield (w.heap.size + 1)) #[] #[]] }, W1, gf,
    #[.func (.yield (w.heap.size + 1)) #[] #[]] ++ lb, W1, ?_, ?_, ?_, ?_, ?_, ?_⟩
  · rw [← hW1, hrec]; exact run_enterLoop_outer _ _ _ _ _
  · simp only [resolve, hg]
    simp [go_sem]
  · intro f' _; trivial
  · simp [invoke, go_sem, eg]
  · intro h; cases h
  · refine (hseq (w.heap.size + 1) (fun k => R k ∨ k = w.heap.size + 1)
      (fun pre W => I pre W ∧ W.heap[w.heap.size + 1]? = some (.loop (rec .ready none)) ∧ W.heap[w.heap.size]? = some (.deferred (some [])))
      W1 hb1 ?_ ?_ ?_ ⟨hI1, hL1, hK1⟩).mono ?_
    · rintro k (hk | rfl)
      · exact ⟨by have := (hR k hk).1; omega, (hR k hk).2⟩
      · exact ⟨by omega, fun hd => by have := hdep _ hd; omega⟩
    · rintro pre A B hAB ⟨hi, hl, hk⟩
      exact ⟨hI pre A B (hAB.mono (by omega)) hi, (hAB.block _ (by omega)).trans hl, (hAB.block _ (by omega)).trans hk⟩
    · rintro pre x v W ⟨hi, hl, hk⟩ hV hsuf
      have hlt : w.heap.size + 1 < W.heap.size := (Array.getElem?_eq_some_iff.1 hl).1
      have hy := run_yield (P := P) (args := v) hl (by rw [hrec]; exact hps x v W hV)
      rw [hrec] at hy
      refine ⟨fn, _, assign, body, hy, roundIn_of_wpIn hfn (wpIn_mono (hround (w.heap.size + 1) pre x v W hi hV hsuf (by omega) rfl (fun ad had => by unfold World.cell?; rw [had, hl])) ?_)⟩
      rintro e a₁ W₁ hp
      cases e with
      | normal =>
        obtain ⟨rfl, hp⟩ := hp
        refine ⟨_, run_beginRound hl (by rw [hrec]), ?_⟩
        have hl2 : (W₁.putObj (w.heap.size + 1) (.loop { rec .ready none with state := .busy })).heap[w.heap.size + 1]? = some (.loop { rec .ready none with state := .busy }) := World.putObj_heap_same hlt
        have hk2 : (W₁.putObj (w.heap.size + 1) (.loop { rec .ready none with state := .busy })).heap[w.heap.size]? = some (.deferred (some [])) := (World.putObj_heap_other (by omega)).trans hk
        have hbp : ∀ (A : World) (o : Obj), w.heap.size + 1 < A.heap.size → Below w.heap.size A (A.putObj (w.heap.size + 1) o) := fun A o _ => ⟨rfl, rfl, rfl, by simp [World.putObj], fun k hk => World.putObj_heap_other (by omega)⟩
        refine wpIn_mono (hp _ (hbp _ _ hlt) (fun k _ hne => World.putObj_heap_other (by omega)) (by simp [World.putObj])) ?_
        rintro e2 a2 W3 hp2
        cases e2 with
        | normal =>
          obtain ⟨hk3, hi3⟩ := hp2
          have hnR : ∀ k, w.heap.size ≤ k → ¬ R k := fun k hk hr => by have := (hR k hr).1; omega
          have hl3 : W3.heap[w.heap.size + 1]? = some (.loop { rec .ready none with state := .busy }) := (hk3.2 _ (by simp [World.putObj]; omega) (hnR _ (by omega))).trans hl2
          have hk3' : W3.heap[w.heap.size]? = some (.deferred (some [])) := (hk3.2 _ (by simp [World.putObj]; omega) (hnR _ (by omega))).trans hk2
          have hlt3 := (Array.getElem?_eq_some_iff.1 hl3).1
          have hr := run_endRound (P := P) none hl3
          rw [hrec] at hr
          refine ⟨_, _, hr, rfl, ⟨hI _ _ _ (hbp _ _ hlt3) hi3, ?_, ?_⟩, ?_⟩
          · rw [hrec]; exact World.putObj_heap_same hlt3
          · exact (World.putObj_heap_other (by omega)).trans hk3'
          · exact ((KeepBut.putObj _ _ _ (Or.inr rfl)).trans (hk3.mono fun k h => Or.inl h)).trans (KeepBut.putObj _ _ _ (Or.inr rfl))
        | _ => exact hp2.elim
      | _ => exact hp.elim
    · rintro e W2 ⟨⟨v, rfl⟩, hi, hl, hk⟩
      have hlt2 : w.heap.size + 1 < W2.heap.size := (Array.getElem?_eq_some_iff.1 hl).1
      have hb2 : ∀ o : Obj, Below w.heap.size W2 (W2.putObj (w.heap.size + 1) o) := fun o => ⟨rfl, rfl, rfl, by simp [World.putObj], fun k hk => World.putObj_heap_other (by omega)⟩
      have hr := run_endLoop (P := P) hl (by rw [hrec]; simp)
      have hp : (rec .ready none).pending = none := by rw [hrec]
      rw [hp] at hr
      exact ⟨none, _, hr, hdone _ _ (hI _ _ _ (hb2 _) hi) (Nat.le_refl _) ((World.putObj_heap_other (by omega)).trans hk)⟩
end Go.Proofs.YtmjblpkbfoipfaaGreatDoor
namespace Go.Proofs.YtmjblpkbfoipfaaGreatDoor
open Go.RowKit
set_option maxHeartbeats 400000 in
theorem blocks_calls (a : Option Addr) (n c : Nat) (w : World) :
    Calls Tryz.prog 113 #[.slice a n c] w fun e w' => e = .returned (.func (.func 139) #[] #[.pointer (some ⟨w.heap.size, 0, none⟩)]) ∧ w' = w.alloc (.cells #[.slice a n c] 172) := by
  have hmf : ∀ (fn : Fn) (first cap : Array Value) (w : World), (Instr.makeFunc fn first cap).run Tryz.prog w = .ok (.func fn first cap) w := fun _ _ _ _ => rfl
  go_enter Tryz.func113, Tryz.ntmps113
  repeat' (first | go_skip | go_guarded | go_step | go_upon)
  go_ret
  exact ⟨rfl, rfl⟩
end Go.Proofs.YtmjblpkbfoipfaaGreatDoor
