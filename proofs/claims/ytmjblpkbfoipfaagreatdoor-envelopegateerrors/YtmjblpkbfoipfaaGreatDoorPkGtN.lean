/-
  New gates.
-/
import Derived.Test.YtmjblpkbfoipfaaGreatDoorPkGtR
import Derived.Deep.OwnRows
import Derived.Carry
import Derived.Maps.AppendAt
import Derived.Deep.RegionLaw
set_option linter.unusedSectionVars false
set_option linter.constructorNameAsVariable false
set_option linter.unusedVariables false
set_option linter.unusedSimpArgs false
namespace Go.Proofs.YtmjblpkbfoipfaaGreatDoor
open Go.RowKit
set_option maxHeartbeats 8000000
theorem made3 (z : Value) : madeCells #[z] 3 = #[z, z, z] := by
  apply Array.ext (by simp [madeCells])
  intro i h1 h2
  have hi : i < 3 := by simpa [madeCells] using h1
  simp only [madeCells, Array.getElem_map, Array.getElem_range, show (#[z] : Array Value).size = 1 from rfl, Nat.mod_one]
  rcases (show i = 0 ∨ i = 1 ∨ i = 2 by omega) with rfl | rfl | rfl <;> rfl
theorem rnew_calls (W : World) :
    Calls Tryz.prog 9 #[.int .i64 0, .int .i64 3] W fun e w' => ∃ R gv, e = .returned gv ∧ RGateP w' R gv (fun _ => []) ∧ W.heap.size ≤ R.g ∧ R.lo = W.heap.size ∧ Below W.heap.size W w' := by
  go_enter Tryz.func9, Tryz.ntmps9
  have hmk : ∀ w : World, (Instr.makeSlice 78 (.int .i64 3) (.int .i64 3)).run Tryz.prog w = .ok (.slice (some ⟨w.heap.size, 0, none⟩) 3 3) (w.alloc (.cells #[.slice none 0 0, .slice none 0 0, .slice none 0 0] 50 (0, 0))) := fun w => by
    have := run_make_row' (P := Tryz.prog) 78 50 (.slice none 0 0) 24 Tryz.underlying78 (by kernel_rfl) rfl .i64 .i64 3 (by decide) (by decide) w
    rw [show madeCells #[Value.slice none 0 0] 3 = #[.slice none 0 0, .slice none 0 0, .slice none 0 0] from made3 _] at this
    exact this
  repeat' (first | go_skip | go_guarded | go_step | go_upon)
  go_ret
  refine ⟨⟨W.heap.size + 1, W.heap.size, W.heap.size⟩, _, rfl, ⟨rfl, ⟨3, obj_alloc_at _ _ _ (by simp)⟩, Nat.le_refl _, _, keep_alloc (obj_alloc_at _ _ _ rfl) _, fun i hi => ⟨.slice none 0 0, ?_, World.ownsRow_nil _ _ _ _⟩, fun i j v u b hi hj hne h1 h2 h3 => ?_⟩, by simp, rfl, ((Below.refl _ _).alloc (Nat.le_refl _) _).alloc (by simp) _⟩
  · rcases (show i = 0 ∨ i = 1 ∨ i = 2 by omega) with rfl | rfl | rfl <;> rfl
  · exfalso
    have : v = .slice none 0 0 := by
      rcases (show i = 0 ∨ i = 1 ∨ i = 2 by omega) with rfl | rfl | rfl <;> exact (Option.some.inj h1).symm
    subst this
    cases h3
def sCells (Rf : Nat → Nat) (k : Nat) : List Value := (List.range k).flatMap fun j => [.pointer (some ⟨Rf j, 0, none⟩), .int .i64 (j : Int)]
structure NewP (W wr : World) (k : Nat) (Rf Mf : Nat → Nat) (v : Value) : Prop where
  g : obj wr W.heap.size = some (.cells #[.int .i64 0, v] 71 (0, 0))
  s : wr.ownsRow W.heap.size 77 2 v k (sCells Rf k)
  r : ∀ j, j < k → obj wr (Rf j) = some (.cells #[.map (some (Mf j)), .int .i64 0] 75 (0, 0))
  m : ∀ j, j < k → obj wr (Mf j) = some (.map #[] 0)
  lo : ∀ j, j < k → W.heap.size < Mf j ∧ Mf j < Rf j
  up : ∀ j j', j < j' → j' < k → Rf j < Mf j'
  b : Below W.heap.size W wr
theorem info_sender : ∃ i, Tryz.prog.info? 77 = some i ∧ i.zero = some (.agg #[.pointer none, .int .i64 0]) ∧ i.size = 2 ∧ i.bytes = 16 :=
  info_parts (show (Tryz.prog.info? 77).map (fun i => (i.zero, i.size, i.bytes)) = some (some (.agg #[.pointer none, .int .i64 0]), 2, 16) by kernel_rfl)
theorem NewP.alloc {W wr : World} {k : Nat} {Rf Mf : Nat → Nat} {v : Value} (h : NewP W wr k Rf Mf v) (o : Obj) : NewP W (wr.alloc o) k Rf Mf v :=
  ⟨keep_alloc h.g o, h.s.alloc o, fun j hj => keep_alloc (h.r j hj) o, fun j hj => keep_alloc (h.m j hj) o, h.lo, h.up, h.b.alloc h.b.size o⟩
theorem step_append_s {ops : Array Oper} {o : Oper} {a : Act} {w : World} {K : Act → World → Prop} {Q : Exit → Act → World → Prop} {E : Prop} (hgd : o.guard = none) (s x : Operand)
    (ho : o.op = .call { callee := .builtin .append, args := #[s, x], argTypes := #[69, 69] })
    (base k : Nat) (v : Value) (xs : List Value) (hs : a.eval s = v) (hown : w.ownsRow base 77 2 v k xs)
    (ad : Addr) (c : Nat) (news : List Value) (hx : a.eval x = .slice (some ad) 1 c) (hl : news.length = 2) (hnews : ∀ j u, news[j]? = some u → w.cell? (ad.add j) = some u) (h1 : ∀ u ∈ news, u.oneCell' = true)
    (h63 : k + 1 ≤ 1000000000) (hb : base ≤ w.heap.size)
    (hK : ∀ v' w', w'.ownsRow base 77 2 v' (k + 1) (xs ++ news) → w.grownBy w' v.ownBlock → (v'.ownBlock = v.ownBlock ∨ v'.ownBlock = some w.heap.size) → K (a.put o.dst v') w') :
    if Region.wanted o (yielded ops a.tmps) = true then Oper.wp Tryz.prog o a w K Q else E := by
  obtain ⟨i0, hi, hz0, hz1, hz2⟩ := info_sender
  have hw : Region.wanted o (yielded ops a.tmps) = true := by simp [Region.wanted, hgd]
  rw [if_pos hw]
  obtain ⟨v', w', hrun, r1, r2, _, r3⟩ := run_append_own_at (P := Tryz.prog) w base 69 o.type 77 i0 _ 2 16 Tryz.underlying69 hi hz0 hz1 hz2 rfl (by decide) v k xs hown ad 1 c news (by omega) hnews h1 (by unfold maxLen; omega) (by omega) hb
  unfold Oper.wp
  simp [execOp, ho, resolve, invoke, builtin, hs, hx, hrun, Result.andThen]
  exact hK v' w' r1 r2 r3
theorem two_news (W : World) (x y : Value) (T : TypeId) : ∀ j u, [x, y][j]? = some u → (W.alloc (.cells #[x, y] T (0, 0))).cell? ((⟨W.heap.size, 0, none⟩ : Addr).add j) = some u := fun j u hu => by
  have hj : j = 0 ∨ j = 1 := by
    have := (List.getElem?_eq_some_iff.1 hu).1
    simp at this; omega
  rcases hj with rfl | rfl
  · cases hu
    exact row_cells (obj_alloc_at _ _ _ rfl) 0
  · cases hu
    exact row_cells (obj_alloc_at _ _ _ rfl) 1
end Go.Proofs.YtmjblpkbfoipfaaGreatDoor
namespace Go.Proofs.YtmjblpkbfoipfaaGreatDoor
open Go.RowKit
theorem sCells_next (Rf : Nat → Nat) (k b : Nat) : sCells (fun j => if j = k then b else Rf j) (k + 1) = sCells Rf k ++ [.pointer (some ⟨b, 0, none⟩), .int .i64 (k : Int)] := by
  unfold sCells
  rw [List.range_succ, List.flatMap_append]
  congr 1
  · simp only [List.flatMap]
    congr 1
    apply List.map_congr_left
    intro j hj
    have : j ≠ k := by have := List.mem_range.1 hj; omega
    simp [this]
  · simp
theorem owns_block2 {W : World} {base size : Nat} {e : TypeId} {v : Value} {n : Nat} {xs : List Value} (h : W.ownsRow base e size v n xs) {b : Nat} (hb : v.ownBlock = some b) : base ≤ b ∧ ∃ cur, obj W b = some (.cells cur e (0, 0)) := by
  rcases h.2 with ⟨rfl, _⟩ | ⟨g, c, cur, rfl, h1, q, _⟩
  · cases hb
  · cases hb; exact ⟨h1, cur, q⟩
theorem NewP.next {W W1 w9 : World} {k : Nat} {Rf Mf : Nat → Nat} {v v' : Value} {mb : Nat} {o : Obj} (H : NewP W W1 k Rf Mf v) (hlow : ∀ j, j < k → Rf j < mb) (hmb : W.heap.size < mb)
    (hm1 : obj W1 mb = some (.map #[] 0)) (hr1 : obj W1 (mb + 1) = some (.cells #[.map (some mb), .int .i64 0] 75 (0, 0)))
    (hown : w9.ownsRow W.heap.size 77 2 v' (k + 1) (sCells Rf k ++ [.pointer (some ⟨mb + 1, 0, none⟩), .int .i64 (k : Int)]))
    (hgrow : (W1.alloc o).drew.grownBy w9 v.ownBlock) :
    NewP W (w9.setCell ⟨W.heap.size, 1, none⟩ v') (k + 1) (fun j => if j = k then mb + 1 else Rf j) (fun j => if j = k then mb else Mf j) v' := by
  have keep : ∀ b x, obj W1 b = some x → (∀ cur, x ≠ .cells cur 77 (0, 0)) → obj w9 b = some x := fun b x h1 h2 => by
    refine (hgrow.block b (by show b < (W1.alloc _).heap.size; have := row_lt' h1; simp; omega) (fun q => ?_)).trans (keep_alloc h1 o)
    obtain ⟨_, cur, q2⟩ := owns_block2 H.s q.symm
    rw [h1] at q2
    exact h2 cur (Option.some.inj q2)
  have keep2 : ∀ b x, obj W1 b = some x → (∀ cur, x ≠ .cells cur 77 (0, 0)) → b ≠ W.heap.size → obj (w9.setCell ⟨W.heap.size, 1, none⟩ v') b = some x := fun b x h1 h2 h3 => keep_setCell (keep b x h1 h2) _ h3 _
  have hg9 := keep _ _ H.g (fun cur q => by injection q with _ q _; exact absurd q (by decide))
  have hlo' : ∀ j, j < k → Mf j ≠ W.heap.size ∧ Rf j ≠ W.heap.size := fun j hj => by have := H.lo j hj; omega
  refine ⟨?_, ?_, fun j hj => ?_, fun j hj => ?_, fun j hj => ?_, fun j j' h1 h2 => ?_, ?_⟩
  · rw [obj_setCell_at, hg9]; rfl
  · rw [sCells_next]
    refine ⟨hown.1, ?_⟩
    rcases hown.2 with q | ⟨g, cap, cur, q0, h1, h2, h3⟩
    · exact Or.inl q
    · refine Or.inr ⟨g, cap, cur, q0, h1, ?_, h3⟩
      rw [heap_setCell_other _ _ _ _ (fun q => by subst q; exact absurd (not_both hg9 h2) (by decide))]
      exact h2
  · by_cases e : j = k
    · subst e; simp only [if_pos]
      exact keep2 _ _ hr1 (fun cur q => by injection q with _ q _; exact absurd q (by decide)) (by omega)
    · simp only [if_neg e]
      exact keep2 _ _ (H.r j (by omega)) (fun cur q => by injection q with _ q _; exact absurd q (by decide)) (hlo' j (by omega)).2
  · by_cases e : j = k
    · subst e; simp only [if_pos]
      exact keep2 _ _ hm1 (fun cur q => by cases q) (by omega)
    · simp only [if_neg e]
      exact keep2 _ _ (H.m j (by omega)) (fun cur q => by cases q) (hlo' j (by omega)).1
  · by_cases e : j = k
    · subst e; simp only [if_pos]; omega
    · simp only [if_neg e]; exact H.lo j (by omega)
  · by_cases e : j' = k
    · subst e
      have : j ≠ j' := by omega
      simp only [if_neg this, if_pos]
      exact hlow j h1
    · have : j ≠ k := by omega
      simp only [if_neg this, if_neg e]
      exact H.up j j' h1 (by omega)
  · have hs : W1.heap.size ≤ (W1.alloc o).drew.heap.size := by show _ ≤ (W1.alloc _).heap.size; simp
    have q1 := hgrow.size
    have q2 := H.b.size
    have q3 : (w9.setCell ⟨W.heap.size, 1, none⟩ v').heap.size = w9.heap.size := by simp
    refine ⟨hgrow.os.trans H.b.os, hgrow.tape.trans H.b.tape, hgrow.output.trans H.b.output, by omega, fun i hi => ?_⟩
    rw [heap_setCell_other _ _ _ _ (by show i ≠ W.heap.size; omega), hgrow.block i (by have q2 := H.b.size; omega) (fun q => by
      obtain ⟨q1, _⟩ := owns_block2 H.s q.symm
      omega)]
    exact (((Below.refl W1.heap.size W1).alloc (Nat.le_refl _) o).block i (by have q2 := H.b.size; omega)).trans (H.b.block i hi)
theorem fit_nil : Go.WideElems.Fit (H := Unit) Tryz.prog 3 (plainElem Tryz.prog 4) #[] 0 := by
  obtain ⟨es, clock, h1, F, _⟩ := World.ownsMap_made (H := Unit) default Tryz.prog 3 (plainElem Tryz.prog 4)
  have h2 : ((default : World).alloc (.map #[] 0)).heap[(default : World).heap.size]? = some (.map #[] 0) := heap_alloc_new _ _
  rw [h2] at h1
  cases h1
  exact F
theorem NewP.done {W w : World} {Rf Mf : Nat → Nat} {v : Value} (H : NewP W w 3 Rf Mf v) : ∃ g, GateP w ⟨W.heap.size, g, Rf, Mf⟩ (.pointer (some ⟨W.heap.size, 0, none⟩)) (fun _ => []) 0 ∧ W.heap.size ≤ g := by
  rcases H.s.2 with ⟨_, q⟩ | ⟨g, cap, cur, rfl, h1, h2, h3, h4, h5, h6⟩
  · exact absurd q (by decide)
  · have hc : ∀ j, j < 6 → cur[j]? = (sCells Rf 3)[j]? := fun j hj => by
      rw [← h6, List.getElem?_take, if_pos (by omega)]
      simp
    have hgs := H.g
    have ne1 : W.heap.size ≠ g := fun q => by subst q; exact absurd (not_both hgs h2) (by decide)
    have ne2 : ∀ j, j < 3 → g ≠ Rf j := fun j hj q => by subst q; exact absurd (not_both (H.r j hj) h2) (by decide)
    have ne3 : ∀ j, j < 3 → g ≠ Mf j := fun j hj q => by
      subst q
      have := H.m j hj
      rw [show obj w (Mf j) = _ from h2] at this
      cases this
    have l0 := H.lo 0 (by omega)
    have l1 := H.lo 1 (by omega)
    have l2 := H.lo 2 (by omega)
    have u0 := H.up 0 1 (by omega) (by omega)
    have u1 := H.up 1 2 (by omega) (by omega)
    have a0 := ne2 0 (by omega)
    have a1 := ne2 1 (by omega)
    have a2 := ne2 2 (by omega)
    have b0 := ne3 0 (by omega)
    have b1 := ne3 1 (by omega)
    have b2 := ne3 2 (by omega)
    refine ⟨g, ⟨rfl, ⟨cap, hgs⟩, ⟨cur, h2, fun i hi => ?_⟩, fun i hi => H.r i hi, fun i hi => ⟨_, ⟨#[], 0, H.m i hi, fit_nil, Nat.le_refl _, rfl⟩, fun k => rfl⟩, ?_⟩, h1⟩
    · rw [hc _ (by omega), hc _ (by omega)]
      rcases (show i = 0 ∨ i = 1 ∨ i = 2 by omega) with rfl | rfl | rfl <;> exact ⟨rfl, rfl⟩
    · simp only [List.nodup_cons, List.mem_cons, List.not_mem_nil, or_false, not_or, List.nodup_nil, and_true, not_false_eq_true]
      refine ⟨⟨?_, ?_, ?_, ?_, ?_, ?_, ?_⟩, ⟨?_, ?_, ?_, ?_, ?_, ?_⟩, ⟨?_, ?_, ?_, ?_, ?_⟩, ⟨?_, ?_, ?_, ?_⟩, ⟨?_, ?_, ?_⟩, ⟨?_, ?_⟩, ?_⟩ <;> omega
set_option maxHeartbeats 8000000
theorem new_calls (W : World) :
    Calls Tryz.prog 8 #[.int .i64 0, .int .i64 3] W fun e w' => ∃ G gv, e = .returned (.tuple #[gv, .int .i64 0]) ∧ GateP w' G gv (fun _ => []) 0 ∧ (∀ b, b ∈ [G.g, G.s, G.r 0, G.r 1, G.r 2, G.m 0, G.m 1, G.m 2] → W.heap.size ≤ b) ∧ Below W.heap.size W w' := by
  go_enter Tryz.func8, Tryz.ntmps8
  repeat' (first | go_skip | go_guarded | go_step | go_upon)
  have hmm := @run_makeMap Tryz.prog
  have h0 : NewP W (W.alloc (.cells #[.int .i64 0, .slice none 0 0] 71 (0, 0))) 0 (fun _ => 0) (fun _ => 0) (.slice none 0 0) := ⟨obj_alloc_at _ _ _ rfl, World.ownsRow_nil _ _ _ _, fun j hj => by omega, fun j hj => by omega, fun j hj => by omega, fun j j' h1 h2 => by omega, (Below.refl _ _).alloc (Nat.le_refl _) _⟩
  go_loopw [28] (fun i wr => ∃ k : Nat, k ≤ 3 ∧ i = .int .i64 k ∧ ∃ Rf Mf v, NewP W wr k Rf Mf v) (fun i _ => (3 - intOf i).toNat)
  case atStart => exact ⟨0, by omega, rfl, _, _, _, h0⟩
  case round =>
    clear h0
    obtain ⟨k, hk, rfl, Rf, Mf, v, H⟩ := hrel
    by_cases hlt : k < 3
    · have hlt' : (k : Int) < 3 := by omega
      have HH := Lib.hid H
      have HLOW := Lib.hid (fun j (hj : j < k) => row_lt' (H.r j hj))
      have HMB := Lib.hid (row_lt' H.g)
      clear H
      repeat' (first | go_skip | go_guarded | go_step | go_upon)
      have H1 := Lib.hid (((HH.out.alloc (.map #[] 0)).alloc (.cells #[.map (some wr.heap.size), .int .i64 0] 75 (0, 0))).alloc (.cells #[.pointer (some ⟨wr.heap.size + 1, 0, none⟩), .int .i64 (k : Int)] 77 (0, 0)))
      have hm1 := Lib.hid (keep_alloc (keep_alloc (obj_alloc_at wr (.map #[] 0) wr.heap.size rfl) (.cells #[.map (some wr.heap.size), .int .i64 0] 75 (0, 0))) (.cells #[.pointer (some ⟨wr.heap.size + 1, 0, none⟩), .int .i64 (k : Int)] 77 (0, 0)))
      have hr1 := Lib.hid (keep_alloc (obj_alloc_at (wr.alloc (.map #[] 0)) (.cells #[.map (some wr.heap.size), .int .i64 0] 75 (0, 0)) (wr.heap.size + 1) (by simp)) (.cells #[.pointer (some ⟨wr.heap.size + 1, 0, none⟩), .int .i64 (k : Int)] 77 (0, 0)))
      have hs1 := obj_alloc_at ((wr.alloc (.map #[] 0)).alloc (.cells #[.map (some wr.heap.size), .int .i64 0] 75 (0, 0))) (.cells #[.pointer (some ⟨wr.heap.size + 1, 0, none⟩), .int .i64 (k : Int)] 77 (0, 0)) (wr.heap.size + 1 + 1) (by simp)
      generalize (((wr.alloc (.map #[] 0)).alloc (.cells #[.map (some wr.heap.size), .int .i64 0] 75 (0, 0))).alloc (.cells #[.pointer (some ⟨wr.heap.size + 1, 0, none⟩), .int .i64 (k : Int)] 77 (0, 0))) = W1 at *
      have hg1 := H1.out.g
      have hgl := row_lt hg1
      have hsl := row_lt hs1
      have HF := Lib.hid (fun (q : v.ownBlock = some W.heap.size) => (by
        rcases H1.out.s.2 with ⟨q1, _⟩ | ⟨g', cap, cur, q1, _, q2, _⟩
        · rw [q1] at q; cases q
        · rw [q1] at q
          cases q
          exact absurd (not_both hg1 q2) (by decide) : False))
      have c1 := row_cells hg1 1
      obtain ⟨va, vc, hvv⟩ := owns_valI H1.out.s
      subst hvv
      go_region_law (refine step_append_s (by rfl) _ _ (by rfl) W.heap.size k _ _ (by rfl) (by exact H1.out.s.alloc _) ⟨_, 0, none⟩ 1 [_, _] (by rfl) rfl (by exact two_news _ _ _ _) (by intro u hu; simp at hu; rcases hu with rfl | rfl <;> rfl) (by omega) (by show _ ≤ (W1.alloc _).heap.size; simp; omega) ?_; intro v' w9 hown9 hgrow9 hob9; have hg9 := (hgrow9.block W.heap.size (by show _ < (W1.alloc _).heap.size; simp; omega) (fun q => HF.out q.symm)).trans (keep_alloc hg1 _); have f9 := row_free (show obj w9 W.heap.size = _ from hg9) 1; have c9 := row_cells (show obj w9 W.heap.size = _ from hg9) 1; obtain ⟨va', vc', hvv'⟩ := owns_valI hown9; subst hvv')
      all_goals
        have HN := (H1.out).next (fun j hj => HLOW.out j hj) HMB.out hm1.out hr1.out hown9 hgrow9
        repeat' (first | go_skip | go_guarded | go_step | go_upon)
        exact ⟨⟨k + 1, by omega, by go_num, _, _, _, HN⟩, by simp [intOf]; omega⟩
    · have hk3 : k = 3 := by omega
      subst hk3
      obtain ⟨g, hG, hlo⟩ := H.done
      have HB := H.b
      have HL := H.lo
      clear H
      repeat' (first | go_skip | go_guarded | go_step | go_upon)
      go_ret2
      refine ⟨_, _, rfl, hG, fun b hb => ?_, HB⟩
      have l0 := HL 0 (by omega)
      have l1 := HL 1 (by omega)
      have l2 := HL 2 (by omega)
      simp only [List.mem_cons, List.not_mem_nil, or_false] at hb
      omega
end Go.Proofs.YtmjblpkbfoipfaaGreatDoor
