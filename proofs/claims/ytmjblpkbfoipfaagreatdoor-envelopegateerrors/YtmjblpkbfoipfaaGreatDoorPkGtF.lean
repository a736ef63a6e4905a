/-
  The gate when it has taken a number.
-/
import Derived.Test.YtmjblpkbfoipfaaGreatDoorPkGtA
set_option linter.unusedSectionVars false
set_option linter.constructorNameAsVariable false
set_option linter.unusedVariables false
set_option linter.unusedSimpArgs false
namespace Go.Proofs.YtmjblpkbfoipfaaGreatDoor
open Go.RowKit
theorem GateP.below {W W' : World} {G : GB} {gv : Value} {T : Nat → List Int} {N : Nat} (h : GateP W G gv T N) {S : Nat → Prop} (hX : BelX W.heap.size S W W') (hS : ∀ b, b ∈ [G.g, G.s, G.r 0, G.r 1, G.r 2, G.m 0, G.m 1, G.m 2] → ¬ S b) : GateP W' G gv T N where
  v := h.v
  g := by
    obtain ⟨c, hg⟩ := h.g
    exact ⟨c, belX_obj hX hg (row_lt' hg) (hS _ (by simp))⟩
  s := by
    obtain ⟨row, hs, h2⟩ := h.s
    exact ⟨row, belX_obj hX hs (row_lt' hs) (hS _ (by simp)), h2⟩
  r := fun i hi => belX_obj hX (h.r i hi) (row_lt' (h.r i hi)) (hS _ (by
    rcases (show i = 0 ∨ i = 1 ∨ i = 2 by omega) with rfl | rfl | rfl <;> simp))
  m := fun i hi => by
    obtain ⟨D, hD, h2⟩ := h.m i hi
    obtain ⟨es, clock, h1, h3⟩ := hD
    refine ⟨D, ⟨es, clock, (hX.block _ (Array.getElem?_eq_some_iff.1 h1).1 (hS _ (by
      rcases (show i = 0 ∨ i = 1 ∨ i = 2 by omega) with rfl | rfl | rfl <;> simp))).trans h1, h3⟩, h2⟩
  d := h.d
theorem put_key {H : Type} {D : DataW H} (hm : Go.Maps.IsMap D) {seq : Int} (hk : WideAt.IsKeyLit (.int .i64 seq)) {L : List Int} (hat : ∀ k : Int, D.atKey (.int .i64 k) (.lit (.bool false)) = .lit (.bool (decide (k ∈ L)))) (k : Int) :
    (D.put (.int .i64 seq) (.lit (.bool true))).atKey (.int .i64 k) (.lit (.bool false)) = .lit (.bool (decide (k ∈ L ++ [seq]))) := by
  by_cases e : k = seq
  · subst e
    rw [Maps.atKey_put_same hm hk]
    simp
  · rw [Maps.atKey_put_other (by intro q; exact e (by injection q)), hat]
    simp [e]
theorem GateP.far {W : World} {G : GB} {gv : Value} {T : Nat → List Int} {N : Nat} (h : GateP W G gv T N) : (∀ i, i < 3 → G.g ≠ G.r i ∧ G.g ≠ G.m i ∧ G.s ≠ G.r i ∧ G.s ≠ G.m i) ∧ (∀ i j, i < 3 → j < 3 → G.r i ≠ G.m j) ∧ (∀ i j, i < 3 → j < 3 → i ≠ j → G.r i ≠ G.r j ∧ G.m i ≠ G.m j) := by
  have hd := h.d
  have at' : ∀ i j (a b : Nat), i ≠ j → [G.g, G.s, G.r 0, G.r 1, G.r 2, G.m 0, G.m 1, G.m 2][i]? = some a → [G.g, G.s, G.r 0, G.r 1, G.r 2, G.m 0, G.m 1, G.m 2][j]? = some b → a ≠ b := fun i j a b hne h1 h2 e => by
    subst e
    obtain ⟨l1, q1⟩ := List.getElem?_eq_some_iff.1 h1
    obtain ⟨l2, q2⟩ := List.getElem?_eq_some_iff.1 h2
    rcases Nat.lt_or_gt_of_ne hne with q | q
    · exact List.pairwise_iff_getElem.1 hd i j l1 l2 q (q1.trans q2.symm)
    · exact List.pairwise_iff_getElem.1 hd j i l2 l1 q (q2.trans q1.symm)
  have hr : ∀ i, i < 3 → [G.g, G.s, G.r 0, G.r 1, G.r 2, G.m 0, G.m 1, G.m 2][2 + i]? = some (G.r i) := fun i hi => by
    rcases (show i = 0 ∨ i = 1 ∨ i = 2 by omega) with rfl | rfl | rfl <;> rfl
  have hm : ∀ i, i < 3 → [G.g, G.s, G.r 0, G.r 1, G.r 2, G.m 0, G.m 1, G.m 2][5 + i]? = some (G.m i) := fun i hi => by
    rcases (show i = 0 ∨ i = 1 ∨ i = 2 by omega) with rfl | rfl | rfl <;> rfl
  exact ⟨fun i hi => ⟨at' 0 (2 + i) _ _ (by omega) rfl (hr i hi), at' 0 (5 + i) _ _ (by omega) rfl (hm i hi), at' 1 (2 + i) _ _ (by omega) rfl (hr i hi), at' 1 (5 + i) _ _ (by omega) rfl (hm i hi)⟩,
    fun i j hi hj => at' (2 + i) (5 + j) _ _ (by omega) (hr i hi) (hm j hj), fun i j hi hj hne => ⟨at' (2 + i) (2 + j) _ _ (by omega) (hr i hi) (hr j hj), at' (5 + i) (5 + j) _ _ (by omega) (hm i hi) (hm j hj)⟩⟩
theorem GateP.took {W W' : World} {G : GB} {gv : Value} {T : Nat → List Int} {N : Nat} (h : GateP W G gv T N) {F : Nat} (hF : F < 3) {seq : Int} (hX : BelX W.heap.size (fun i => i = G.r F ∨ i = G.m F) W W')
    (hR : obj W' (G.r F) = some (.cells #[.map (some (G.m F)), .int .i64 (mostL (T F ++ [seq]))] 75 (0, 0)))
    (hD : ∃ D : DataW Unit, W'.ownsMap Tryz.prog 3 (plainElem Tryz.prog 4) (G.m F) (N + 1) D ∧ ∀ k : Int, D.atKey (.int .i64 k) (.lit (.bool false)) = .lit (.bool (decide (k ∈ T F ++ [seq])))) :
    GateP W' G gv (fun i => if i = F then T F ++ [seq] else T i) (N + 1) := by
  obtain ⟨f1, f2, f3⟩ := h.far
  have hg := f1 F hF
  have hri : ∀ i, i < 3 → i ≠ F → G.r i ≠ G.r F ∧ G.r i ≠ G.m F ∧ G.m i ≠ G.r F ∧ G.m i ≠ G.m F := fun i hi hne => ⟨(f3 i F hi hF hne).1, f2 i F hi hF, (f2 F i hF hi).symm, (f3 i F hi hF hne).2⟩
  exact {
    v := h.v
    g := by
      obtain ⟨c, q⟩ := h.g
      exact ⟨c, belX_obj hX q (row_lt' q) (by omega)⟩
    s := by
      obtain ⟨row, q, h2⟩ := h.s
      exact ⟨row, belX_obj hX q (row_lt' q) (by omega), h2⟩
    r := fun i hi => by
      by_cases e : i = F
      · subst e; simp only [if_pos]; exact hR
      · simp only [if_neg e]
        have := hri i hi e
        exact belX_obj hX (h.r i hi) (row_lt' (h.r i hi)) (by omega)
    m := fun i hi => by
      by_cases e : i = F
      · subst e; simp only [if_pos]; exact hD
      · simp only [if_neg e]
        have := hri i hi e
        obtain ⟨D, q, h2⟩ := h.m i hi
        obtain ⟨es, clock, h1, h3⟩ := q.mono (Nat.le_succ N)
        exact ⟨D, ⟨es, clock, (hX.block _ (Array.getElem?_eq_some_iff.1 h1).1 (by omega)).trans h1, h3⟩, h2⟩
    d := h.d }
end Go.Proofs.YtmjblpkbfoipfaaGreatDoor
namespace Go.Proofs.YtmjblpkbfoipfaaGreatDoor
open Go.RowKit
set_option maxRecDepth 20000
set_option maxHeartbeats 8000000
theorem take_old1 (W : World) (G : GB) (gv : Value) (T : Nat → List Int) (N : Nat) (h : GateP W G gv T N) (ka : Option Addr) (kc : Nat) (e : Env) (hs : e.seal32.length = 32) (hd : e.dst = 0) (Lt : List Value) (hLt : Lt.length = 62) (hLo : ones Lt.toArray = true) (hf : e.frm = 1) (seq : Int) (hsq : e.seq = seq) (hq : 1 ≤ seq ∧ seq ≤ 1000000) (hm : seq ∈ T 1)
    (HO : ∀ w0, Below W.heap.size W w0 → Calls Tryz.prog 22 #[.slice ka 3 kc, .agg e.row] w0 fun r w' => r = .returned (.tuple #[.agg Lt.toArray, .int .i64 0]) ∧ Below w0.heap.size w0 w') :
    Calls Tryz.prog 11 #[gv, .slice ka 3 kc, .agg e.row] W fun r w' => r = .returned (.tuple #[.agg CE.V.zerL.toArray, .int .i64 9]) ∧ Below W.heap.size W w' := by
  have HO' := Lib.hid HO
  clear HO
  obtain ⟨c, hg⟩ := h.g
  rw [h.v]
  have hr := Env_size e hs
  have hall := Env_all e hs
  have hg1 := keep_alloc (keep_alloc hg (.cells e.row 36 (0, 0))) (.cells z52 52 (0, 0))
  have c0 := row_cells hg1 0
  have c1 := row_cells hg1 1
  have hE := keep_alloc (obj_alloc_at W (.cells e.row 36 (0, 0)) _ rfl) (.cells z52 52 (0, 0))
  have c2 := (row_cells hE 1).trans (Env_1 e)
  have HD := Lib.hid h.d
  obtain ⟨row, hS, hrow⟩ := h.s
  have hR := h.r 1 (by omega)
  obtain ⟨D, hD, hat⟩ := h.m 1 (by omega)
  have hD0 := hD
  have hB0 : ∀ nq, Below W.heap.size W (((W.alloc (.cells e.row 36 (0, 0))).alloc (.cells z52 52 (0, 0))).drewN nq) := fun nq => by
    have := ((Below.refl W.heap.size W).alloc (Nat.le_refl _) (.cells e.row 36 (0, 0))).alloc (by simp) (.cells z52 52 (0, 0))
    exact ⟨this.os, this.tape, this.output, this.size, this.block⟩
  have hL0 : obj ((W.alloc (.cells e.row 36 (0, 0))).alloc (.cells z52 52 (0, 0))) (W.heap.size + 1) = some (.cells z52 52 (0, 0)) := obj_alloc_at _ _ _ (by simp)
  go_enter Tryz.func11, Tryz.ntmps11
  repeat' (first | go_skip | go_guarded | go_step | go_upon)
  go_quiet (fail)
  have hB : Below W.heap.size W (((W.alloc (.cells e.row 36 (0, 0))).alloc (.cells z52 52 (0, 0))).drewN nq) := hB0 nq
  have hL : obj (((W.alloc (.cells e.row 36 (0, 0))).alloc (.cells z52 52 (0, 0))).drewN nq) (W.heap.size + 1) = some (.cells z52 52 (0, 0)) := hL0
  have hE2 : obj (((W.alloc (.cells e.row 36 (0, 0))).alloc (.cells z52 52 (0, 0))).drewN nq) W.heap.size = some (.cells e.row 36 (0, 0)) := hE
  generalize (((W.alloc (.cells e.row 36 (0, 0))).alloc (.cells z52 52 (0, 0))).drewN nq) = W2 at *
  have hLl := row_lt hL
  have hsz : Lt.toArray.size = 62 := by simpa using hLt
  generalize hLA : Lt.toArray = LA at *
  have hSl := row_lt hS
  have hRl := row_lt hR
  have hDl := hD.lt
  have hgl := row_lt hg
  have hEl := row_lt hE2
  have hz6 : 6 ≤ row.size := by
    have := (Array.getElem?_eq_some_iff.1 (hrow 2 (by omega)).2).1
    omega
  have z0 : (4 ≤ row.size) = True := eq_true (by omega)
  have ex : row.extract 2 4 = #[.pointer (some ⟨G.r 1, 0, none⟩), .int .i64 1] := by
    obtain ⟨q1, q2⟩ := hrow 1 (by omega)
    apply Array.ext_getElem?
    intro j
    rw [Array.getElem?_extract]
    by_cases hj : j < 2
    · rw [if_pos (by omega)]
      rcases (show j = 0 ∨ j = 1 by omega) with rfl | rfl
      · exact q1
      · exact q2
    · rw [if_neg (by omega), Array.getElem?_eq_none (by show 2 ≤ j; omega)]
  repeat' (first | (go_at_call 22; ((with_reducible refine (HO'.out _ hB).mono ?_)); rintro r w3 ⟨rfl, hB3⟩; have hL3 := keep_alloc (keep_below hL hB3 hLl) (.cells LA 52 (0, 0)); dsimp only) | go_skip | go_guarded | go_step | go_upon)
  have hB4 : Below W2.heap.size W2 (w3.alloc (.cells LA 52 (0, 0))) := hB3.alloc hB3.size _
  have hb4 : obj (w3.alloc (.cells LA 52 (0, 0))) w3.heap.size = some (.cells LA 52 (0, 0)) := obj_alloc_at _ _ _ rfl
  have hlb : W2.heap.size ≤ w3.heap.size := hB3.size
  generalize w3.alloc (.cells LA 52 (0, 0)) = W4 at *
  generalize w3.heap.size = lb at *
  have hbl4 := row_lt hb4
  have hL4 := keep_below hL hB4 hLl
  have hg4 := keep_below hg (hB.trans (hB4.mono hB.size)) hgl
  have hS4 := keep_below hS (hB.trans (hB4.mono hB.size)) hSl
  have hR4 := keep_below hR (hB.trans (hB4.mono hB.size)) hRl
  have hE4 := keep_below hE2 hB4 hEl
  have hD4 := ownsMap_below hD (hB.trans (hB4.mono hB.size)) hDl
  have hB5 := hB.trans (hB4.mono hB.size)
  have hLl4 := row_lt hL4
  have hEl4 := row_lt hE4
  have hgl4 := row_lt hg4
  have hRl4 := row_lt hR4
  have hDl4 := hD4.lt
  clear hL hg hS hR hE hE2 hD hB hB0 hL0 c0 c1 c2 hg1 hB3 hB4 hL3
  have c0 := (row_cells hE4 0).trans ((Env_0 e).trans (by rw [hf]))
  have c2 := (row_cells hE4 2).trans ((Env_2 e).trans (by rw [hsq]))
  have c1 := row_cells hg4 1
  have hS5 := keep_alloc hS4 (.cells #[.pointer none, .int .i64 0] 77 (0, 0))
  go_region
  have hB6 : Below W4.heap.size W4 (W4.alloc (.cells #[.pointer (some ⟨G.r 1, 0, none⟩), .int .i64 1] 77 (0, 0))).drew := ((Below.refl _ _).alloc (Nat.le_refl _) _).drew
  have hs6 : obj (W4.alloc (.cells #[.pointer (some ⟨G.r 1, 0, none⟩), .int .i64 1] 77 (0, 0))).drew W4.heap.size = some (.cells #[.pointer (some ⟨G.r 1, 0, none⟩), .int .i64 1] 77 (0, 0)) := obj_alloc_at _ _ _ rfl
  have hB7 := hB5.trans (hB6.mono hB5.size)
  generalize (W4.alloc (.cells #[.pointer (some ⟨G.r 1, 0, none⟩), .int .i64 1] 77 (0, 0))).drew = W6 at *
  generalize W4.heap.size = sb at *
  have hL6 := keep_below hL4 hB6 hLl4
  have hE6 := keep_below hE4 hB6 hEl4
  have hR6 := keep_below hR4 hB6 hRl4
  have hD6 := ownsMap_below hD4 hB6 hDl4
  have hb6 := keep_below hb4 hB6 hbl4
  clear hb4 hL4 hE4 hR4 hD4 hg4 hS4 hS5 c0 c1 c2 hB5 hB6
  have c2 := (row_cells hE6 2).trans ((Env_2 e).trans (by rw [hsq]))
  have c3 := row_cells hs6 0
  have c4 := row_cells hR6 0
  have hk := keyInt seq (by omega) (by omega)
  have hat1 : D.atKey (.int .i64 seq) (.lit (.bool false)) = .lit (.bool true) := by rw [hat]; simp [hm]
  have hrun := look_bool (t := 73) hD6.drew key_int Tryz.underlying73 Tryz.underlying4 (zero_bool _) hk hat1
  repeat' (first | go_skip | go_guarded | go_step | go_upon)
  go_region
  have hB8 : Below W.heap.size W W6.drew := hB7.drew
  have hL8 : obj W6.drew (W.heap.size + 1) = some (.cells z52 52 (0, 0)) := hL6
  generalize W6.drew = W8 at *
  repeat' (first | go_skip | go_guarded | go_step | go_upon)
  refine bodyPost_ret (results_row_tmp rfl _ _ (W.heap.size + 1) 52 CE.V.zerL.toArray _ _ (.int .i64 9) rfl (setRow_heap _ _ _ _ _ _ hL8) Tryz.underlying52 rfl (by kernel_rfl) rfl) rfl ?_
  exact ⟨rfl, below_setRow hB8 (by omega) _⟩
theorem take_big1 (W : World) (G : GB) (gv : Value) (T : Nat → List Int) (N : Nat) (h : GateP W G gv T N) (ka : Option Addr) (kc : Nat) (e : Env) (hs : e.seal32.length = 32) (hd : e.dst = 0) (Lt : List Value) (hLt : Lt.length = 62) (hLo : ones Lt.toArray = true) (hf : e.frm = 1) (seq : Int) (hsq : e.seq = seq) (hq : 1 ≤ seq ∧ seq ≤ 1000000) (hm : seq ∉ T 1) (hb : mostL (T 1) + 1024 < seq)
    (HO : ∀ w0, Below W.heap.size W w0 → Calls Tryz.prog 22 #[.slice ka 3 kc, .agg e.row] w0 fun r w' => r = .returned (.tuple #[.agg Lt.toArray, .int .i64 0]) ∧ Below w0.heap.size w0 w') :
    Calls Tryz.prog 11 #[gv, .slice ka 3 kc, .agg e.row] W fun r w' => r = .returned (.tuple #[.agg CE.V.zerL.toArray, .int .i64 2]) ∧ Below W.heap.size W w' := by
  have HO' := Lib.hid HO
  clear HO
  obtain ⟨c, hg⟩ := h.g
  rw [h.v]
  have hr := Env_size e hs
  have hall := Env_all e hs
  have hg1 := keep_alloc (keep_alloc hg (.cells e.row 36 (0, 0))) (.cells z52 52 (0, 0))
  have c0 := row_cells hg1 0
  have c1 := row_cells hg1 1
  have hE := keep_alloc (obj_alloc_at W (.cells e.row 36 (0, 0)) _ rfl) (.cells z52 52 (0, 0))
  have c2 := (row_cells hE 1).trans (Env_1 e)
  have HD := Lib.hid h.d
  obtain ⟨row, hS, hrow⟩ := h.s
  have hR := h.r 1 (by omega)
  obtain ⟨D, hD, hat⟩ := h.m 1 (by omega)
  have hD0 := hD
  have hB0 : ∀ nq, Below W.heap.size W (((W.alloc (.cells e.row 36 (0, 0))).alloc (.cells z52 52 (0, 0))).drewN nq) := fun nq => by
    have := ((Below.refl W.heap.size W).alloc (Nat.le_refl _) (.cells e.row 36 (0, 0))).alloc (by simp) (.cells z52 52 (0, 0))
    exact ⟨this.os, this.tape, this.output, this.size, this.block⟩
  have hL0 : obj ((W.alloc (.cells e.row 36 (0, 0))).alloc (.cells z52 52 (0, 0))) (W.heap.size + 1) = some (.cells z52 52 (0, 0)) := obj_alloc_at _ _ _ (by simp)
  go_enter Tryz.func11, Tryz.ntmps11
  repeat' (first | go_skip | go_guarded | go_step | go_upon)
  go_quiet (fail)
  have hB : Below W.heap.size W (((W.alloc (.cells e.row 36 (0, 0))).alloc (.cells z52 52 (0, 0))).drewN nq) := hB0 nq
  have hL : obj (((W.alloc (.cells e.row 36 (0, 0))).alloc (.cells z52 52 (0, 0))).drewN nq) (W.heap.size + 1) = some (.cells z52 52 (0, 0)) := hL0
  have hE2 : obj (((W.alloc (.cells e.row 36 (0, 0))).alloc (.cells z52 52 (0, 0))).drewN nq) W.heap.size = some (.cells e.row 36 (0, 0)) := hE
  generalize (((W.alloc (.cells e.row 36 (0, 0))).alloc (.cells z52 52 (0, 0))).drewN nq) = W2 at *
  have hLl := row_lt hL
  have hsz : Lt.toArray.size = 62 := by simpa using hLt
  generalize hLA : Lt.toArray = LA at *
  have hSl := row_lt hS
  have hRl := row_lt hR
  have hDl := hD.lt
  have hgl := row_lt hg
  have hEl := row_lt hE2
  have hz6 : 6 ≤ row.size := by
    have := (Array.getElem?_eq_some_iff.1 (hrow 2 (by omega)).2).1
    omega
  have z0 : (4 ≤ row.size) = True := eq_true (by omega)
  have ex : row.extract 2 4 = #[.pointer (some ⟨G.r 1, 0, none⟩), .int .i64 1] := by
    obtain ⟨q1, q2⟩ := hrow 1 (by omega)
    apply Array.ext_getElem?
    intro j
    rw [Array.getElem?_extract]
    by_cases hj : j < 2
    · rw [if_pos (by omega)]
      rcases (show j = 0 ∨ j = 1 by omega) with rfl | rfl
      · exact q1
      · exact q2
    · rw [if_neg (by omega), Array.getElem?_eq_none (by show 2 ≤ j; omega)]
  repeat' (first | (go_at_call 22; ((with_reducible refine (HO'.out _ hB).mono ?_)); rintro r w3 ⟨rfl, hB3⟩; have hL3 := keep_alloc (keep_below hL hB3 hLl) (.cells LA 52 (0, 0)); dsimp only) | go_skip | go_guarded | go_step | go_upon)
  have hB4 : Below W2.heap.size W2 (w3.alloc (.cells LA 52 (0, 0))) := hB3.alloc hB3.size _
  have hb4 : obj (w3.alloc (.cells LA 52 (0, 0))) w3.heap.size = some (.cells LA 52 (0, 0)) := obj_alloc_at _ _ _ rfl
  have hlb : W2.heap.size ≤ w3.heap.size := hB3.size
  generalize w3.alloc (.cells LA 52 (0, 0)) = W4 at *
  generalize w3.heap.size = lb at *
  have hbl4 := row_lt hb4
  have hL4 := keep_below hL hB4 hLl
  have hg4 := keep_below hg (hB.trans (hB4.mono hB.size)) hgl
  have hS4 := keep_below hS (hB.trans (hB4.mono hB.size)) hSl
  have hR4 := keep_below hR (hB.trans (hB4.mono hB.size)) hRl
  have hE4 := keep_below hE2 hB4 hEl
  have hD4 := ownsMap_below hD (hB.trans (hB4.mono hB.size)) hDl
  have hB5 := hB.trans (hB4.mono hB.size)
  have hLl4 := row_lt hL4
  have hEl4 := row_lt hE4
  have hgl4 := row_lt hg4
  have hRl4 := row_lt hR4
  have hDl4 := hD4.lt
  clear hL hg hS hR hE hE2 hD hB hB0 hL0 c0 c1 c2 hg1 hB3 hB4 hL3
  have c0 := (row_cells hE4 0).trans ((Env_0 e).trans (by rw [hf]))
  have c2 := (row_cells hE4 2).trans ((Env_2 e).trans (by rw [hsq]))
  have c1 := row_cells hg4 1
  have hS5 := keep_alloc hS4 (.cells #[.pointer none, .int .i64 0] 77 (0, 0))
  go_region
  have hB6 : Below W4.heap.size W4 (W4.alloc (.cells #[.pointer (some ⟨G.r 1, 0, none⟩), .int .i64 1] 77 (0, 0))).drew := ((Below.refl _ _).alloc (Nat.le_refl _) _).drew
  have hs6 : obj (W4.alloc (.cells #[.pointer (some ⟨G.r 1, 0, none⟩), .int .i64 1] 77 (0, 0))).drew W4.heap.size = some (.cells #[.pointer (some ⟨G.r 1, 0, none⟩), .int .i64 1] 77 (0, 0)) := obj_alloc_at _ _ _ rfl
  have hB7 := hB5.trans (hB6.mono hB5.size)
  generalize (W4.alloc (.cells #[.pointer (some ⟨G.r 1, 0, none⟩), .int .i64 1] 77 (0, 0))).drew = W6 at *
  generalize W4.heap.size = sb at *
  have hL6 := keep_below hL4 hB6 hLl4
  have hE6 := keep_below hE4 hB6 hEl4
  have hR6 := keep_below hR4 hB6 hRl4
  have hD6 := ownsMap_below hD4 hB6 hDl4
  have hb6 := keep_below hb4 hB6 hbl4
  clear hb4 hL4 hE4 hR4 hD4 hg4 hS4 hS5 c0 c1 c2 hB5 hB6
  have c2 := (row_cells hE6 2).trans ((Env_2 e).trans (by rw [hsq]))
  have c3 := row_cells hs6 0
  have c4 := row_cells hR6 0
  have hk := keyInt seq (by omega) (by omega)
  have hat1 : D.atKey (.int .i64 seq) (.lit (.bool false)) = .lit (.bool false) := by rw [hat]; simp [hm]
  have hrun := look_bool (t := 73) hD6.drew key_int Tryz.underlying73 Tryz.underlying4 (zero_bool _) hk hat1
  repeat' (first | go_skip | go_guarded | go_step | go_upon)
  go_region
  have hB8 : Below W.heap.size W W6.drew := hB7.drew
  have hL8 : obj W6.drew (W.heap.size + 1) = some (.cells z52 52 (0, 0)) := hL6
  have hE8 : obj W6.drew W.heap.size = some (.cells e.row 36 (0, 0)) := hE6
  have hR8 : obj W6.drew (G.r 1) = some (.cells #[.map (some (G.m 1)), .int .i64 (mostL (T 1))] 75 (0, 0)) := hR6
  have hs8 : obj W6.drew sb = some (.cells #[.pointer (some ⟨G.r 1, 0, none⟩), .int .i64 1] 77 (0, 0)) := hs6
  clear c2 c3 c4 hB7 hL6 hE6 hR6 hs6 hrun hD6
  generalize W6.drew = W8 at *
  have c2 := (row_cells hE8 2).trans ((Env_2 e).trans (by rw [hsq]))
  have c3 := row_cells hs8 0
  have hm0 := mostL_nonneg (T 1)
  have hb' : seq > mostL (T 1) + 1024 := hb
  repeat' (first | go_skip | go_guarded | go_step | go_upon)
  go_quiet ((go_at_call 26; exact Calls.quiet_of_same (greatest_calls _ _ _ _ _ hR8)))
  have hB9 : Below W.heap.size W (W8.drewN nq) := ⟨hB8.os, hB8.tape, hB8.output, hB8.size, hB8.block⟩
  have hL9 : obj (W8.drewN nq) (W.heap.size + 1) = some (.cells z52 52 (0, 0)) := hL8
  generalize W8.drewN nq = W9 at *
  repeat' (first | go_skip | go_guarded | go_step | go_upon)
  refine bodyPost_ret (results_row_tmp rfl _ _ (W.heap.size + 1) 52 CE.V.zerL.toArray _ _ (.int .i64 2) rfl (setRow_heap _ _ _ _ _ _ hL9) Tryz.underlying52 rfl (by kernel_rfl) rfl) rfl ?_
  exact ⟨rfl, below_setRow hB9 (by omega) _⟩
theorem take_ok1 (W : World) (G : GB) (gv : Value) (T : Nat → List Int) (N : Nat) (h : GateP W G gv T N) (ka : Option Addr) (kc : Nat) (e : Env) (hs : e.seal32.length = 32) (hd : e.dst = 0) (Lt : List Value) (hLt : Lt.length = 62) (hLo : ones Lt.toArray = true) (hf : e.frm = 1) (seq : Int) (hsq : e.seq = seq) (hq : 1 ≤ seq ∧ seq ≤ 1000000) (hm : seq ∉ T 1) (hb : seq ≤ mostL (T 1) + 1024) (hN : N ≤ 1000) (hmm : mostL (T 1) ≤ 1000000)
    (HO : ∀ w0, Below W.heap.size W w0 → Calls Tryz.prog 22 #[.slice ka 3 kc, .agg e.row] w0 fun r w' => r = .returned (.tuple #[.agg Lt.toArray, .int .i64 0]) ∧ Below w0.heap.size w0 w') :
    Calls Tryz.prog 11 #[gv, .slice ka 3 kc, .agg e.row] W fun r w' => r = .returned (.tuple #[.agg Lt.toArray, .int .i64 0]) ∧ GateP w' G gv (fun i => if i = 1 then T 1 ++ [seq] else T i) (N + 1) ∧ BelX W.heap.size (fun i => i = G.r 1 ∨ i = G.m 1) W w' := by
  have HO' := Lib.hid HO
  clear HO
  obtain ⟨c, hg⟩ := h.g
  rw [h.v]
  have hr := Env_size e hs
  have hall := Env_all e hs
  have hg1 := keep_alloc (keep_alloc hg (.cells e.row 36 (0, 0))) (.cells z52 52 (0, 0))
  have c0 := row_cells hg1 0
  have c1 := row_cells hg1 1
  have hE := keep_alloc (obj_alloc_at W (.cells e.row 36 (0, 0)) _ rfl) (.cells z52 52 (0, 0))
  have c2 := (row_cells hE 1).trans (Env_1 e)
  have HD := Lib.hid h.d
  obtain ⟨row, hS, hrow⟩ := h.s
  have hR := h.r 1 (by omega)
  obtain ⟨D, hD, hat⟩ := h.m 1 (by omega)
  have hD0 := hD
  have hB0 : ∀ nq, Below W.heap.size W (((W.alloc (.cells e.row 36 (0, 0))).alloc (.cells z52 52 (0, 0))).drewN nq) := fun nq => by
    have := ((Below.refl W.heap.size W).alloc (Nat.le_refl _) (.cells e.row 36 (0, 0))).alloc (by simp) (.cells z52 52 (0, 0))
    exact ⟨this.os, this.tape, this.output, this.size, this.block⟩
  have hL0 : obj ((W.alloc (.cells e.row 36 (0, 0))).alloc (.cells z52 52 (0, 0))) (W.heap.size + 1) = some (.cells z52 52 (0, 0)) := obj_alloc_at _ _ _ (by simp)
  go_enter Tryz.func11, Tryz.ntmps11
  repeat' (first | go_skip | go_guarded | go_step | go_upon)
  go_quiet (fail)
  have hB : Below W.heap.size W (((W.alloc (.cells e.row 36 (0, 0))).alloc (.cells z52 52 (0, 0))).drewN nq) := hB0 nq
  have hL : obj (((W.alloc (.cells e.row 36 (0, 0))).alloc (.cells z52 52 (0, 0))).drewN nq) (W.heap.size + 1) = some (.cells z52 52 (0, 0)) := hL0
  have hE2 : obj (((W.alloc (.cells e.row 36 (0, 0))).alloc (.cells z52 52 (0, 0))).drewN nq) W.heap.size = some (.cells e.row 36 (0, 0)) := hE
  generalize (((W.alloc (.cells e.row 36 (0, 0))).alloc (.cells z52 52 (0, 0))).drewN nq) = W2 at *
  have hLl := row_lt hL
  have hsz : Lt.toArray.size = 62 := by simpa using hLt
  generalize hLA : Lt.toArray = LA at *
  have hSl := row_lt hS
  have hRl := row_lt hR
  have hDl := hD.lt
  have hgl := row_lt hg
  have hEl := row_lt hE2
  have hz6 : 6 ≤ row.size := by
    have := (Array.getElem?_eq_some_iff.1 (hrow 2 (by omega)).2).1
    omega
  have z0 : (4 ≤ row.size) = True := eq_true (by omega)
  have ex : row.extract 2 4 = #[.pointer (some ⟨G.r 1, 0, none⟩), .int .i64 1] := by
    obtain ⟨q1, q2⟩ := hrow 1 (by omega)
    apply Array.ext_getElem?
    intro j
    rw [Array.getElem?_extract]
    by_cases hj : j < 2
    · rw [if_pos (by omega)]
      rcases (show j = 0 ∨ j = 1 by omega) with rfl | rfl
      · exact q1
      · exact q2
    · rw [if_neg (by omega), Array.getElem?_eq_none (by show 2 ≤ j; omega)]
  repeat' (first | (go_at_call 22; ((with_reducible refine (HO'.out _ hB).mono ?_)); rintro r w3 ⟨rfl, hB3⟩; have hL3 := keep_alloc (keep_below hL hB3 hLl) (.cells LA 52 (0, 0)); dsimp only) | go_skip | go_guarded | go_step | go_upon)
  have hB4 : Below W2.heap.size W2 (w3.alloc (.cells LA 52 (0, 0))) := hB3.alloc hB3.size _
  have hb4 : obj (w3.alloc (.cells LA 52 (0, 0))) w3.heap.size = some (.cells LA 52 (0, 0)) := obj_alloc_at _ _ _ rfl
  have hlb : W2.heap.size ≤ w3.heap.size := hB3.size
  generalize w3.alloc (.cells LA 52 (0, 0)) = W4 at *
  generalize w3.heap.size = lb at *
  have hbl4 := row_lt hb4
  have hL4 := keep_below hL hB4 hLl
  have hg4 := keep_below hg (hB.trans (hB4.mono hB.size)) hgl
  have hS4 := keep_below hS (hB.trans (hB4.mono hB.size)) hSl
  have hR4 := keep_below hR (hB.trans (hB4.mono hB.size)) hRl
  have hE4 := keep_below hE2 hB4 hEl
  have hD4 := ownsMap_below hD (hB.trans (hB4.mono hB.size)) hDl
  have hB5 := hB.trans (hB4.mono hB.size)
  have hLl4 := row_lt hL4
  have hEl4 := row_lt hE4
  have hgl4 := row_lt hg4
  have hRl4 := row_lt hR4
  have hDl4 := hD4.lt
  clear hL hg hS hR hE hE2 hD hB hB0 hL0 c0 c1 c2 hg1 hB3 hB4 hL3
  have c0 := (row_cells hE4 0).trans ((Env_0 e).trans (by rw [hf]))
  have c2 := (row_cells hE4 2).trans ((Env_2 e).trans (by rw [hsq]))
  have c1 := row_cells hg4 1
  have hS5 := keep_alloc hS4 (.cells #[.pointer none, .int .i64 0] 77 (0, 0))
  go_region
  have hB6 : Below W4.heap.size W4 (W4.alloc (.cells #[.pointer (some ⟨G.r 1, 0, none⟩), .int .i64 1] 77 (0, 0))).drew := ((Below.refl _ _).alloc (Nat.le_refl _) _).drew
  have hs6 : obj (W4.alloc (.cells #[.pointer (some ⟨G.r 1, 0, none⟩), .int .i64 1] 77 (0, 0))).drew W4.heap.size = some (.cells #[.pointer (some ⟨G.r 1, 0, none⟩), .int .i64 1] 77 (0, 0)) := obj_alloc_at _ _ _ rfl
  have hB7 := hB5.trans (hB6.mono hB5.size)
  generalize (W4.alloc (.cells #[.pointer (some ⟨G.r 1, 0, none⟩), .int .i64 1] 77 (0, 0))).drew = W6 at *
  generalize W4.heap.size = sb at *
  have hL6 := keep_below hL4 hB6 hLl4
  have hE6 := keep_below hE4 hB6 hEl4
  have hR6 := keep_below hR4 hB6 hRl4
  have hD6 := ownsMap_below hD4 hB6 hDl4
  have hb6 := keep_below hb4 hB6 hbl4
  clear hb4 hL4 hE4 hR4 hD4 hg4 hS4 hS5 c0 c1 c2 hB5 hB6
  have c2 := (row_cells hE6 2).trans ((Env_2 e).trans (by rw [hsq]))
  have c3 := row_cells hs6 0
  have c4 := row_cells hR6 0
  have hk := keyInt seq (by omega) (by omega)
  have hat1 : D.atKey (.int .i64 seq) (.lit (.bool false)) = .lit (.bool false) := by rw [hat]; simp [hm]
  have hrun := look_bool (t := 73) hD6.drew key_int Tryz.underlying73 Tryz.underlying4 (zero_bool _) hk hat1
  repeat' (first | go_skip | go_guarded | go_step | go_upon)
  go_region
  have hB8 : Below W.heap.size W W6.drew := hB7.drew
  have hL8 : obj W6.drew (W.heap.size + 1) = some (.cells z52 52 (0, 0)) := hL6
  have hE8 : obj W6.drew W.heap.size = some (.cells e.row 36 (0, 0)) := hE6
  have hR8 : obj W6.drew (G.r 1) = some (.cells #[.map (some (G.m 1)), .int .i64 (mostL (T 1))] 75 (0, 0)) := hR6
  have hs8 : obj W6.drew sb = some (.cells #[.pointer (some ⟨G.r 1, 0, none⟩), .int .i64 1] 77 (0, 0)) := hs6
  have hb8 : obj W6.drew lb = some (.cells LA 52 (0, 0)) := hb6
  have hD8 : W6.drew.ownsMap Tryz.prog 3 (plainElem Tryz.prog 4) (G.m 1) N D := hD6
  clear c2 c3 c4 hB7 hb6 hL6 hE6 hR6 hs6 hrun hD6
  generalize W6.drew = W8 at *
  have c2 := (row_cells hE8 2).trans ((Env_2 e).trans (by rw [hsq]))
  have c3 := row_cells hs8 0
  have hm0 := mostL_nonneg (T 1)
  have hb' : ¬ (seq > mostL (T 1) + 1024) := by omega
  repeat' (first | go_skip | go_guarded | go_step | go_upon)
  go_quiet ((go_at_call 26; exact Calls.quiet_of_same (greatest_calls _ _ _ _ _ hR8)))
  have hB9 : Below W.heap.size W (W8.drewN nq) := ⟨hB8.os, hB8.tape, hB8.output, hB8.size, hB8.block⟩
  have hL9 : obj (W8.drewN nq) (W.heap.size + 1) = some (.cells z52 52 (0, 0)) := hL8
  have hE9 : obj (W8.drewN nq) W.heap.size = some (.cells e.row 36 (0, 0)) := hE8
  have hR9 : obj (W8.drewN nq) (G.r 1) = some (.cells #[.map (some (G.m 1)), .int .i64 (mostL (T 1))] 75 (0, 0)) := hR8
  have hs9 : obj (W8.drewN nq) sb = some (.cells #[.pointer (some ⟨G.r 1, 0, none⟩), .int .i64 1] 77 (0, 0)) := hs8
  have hb9 : obj (W8.drewN nq) lb = some (.cells LA 52 (0, 0)) := hb8
  have hD9 : (W8.drewN nq).ownsMap Tryz.prog 3 (plainElem Tryz.prog 4) (G.m 1) N D := hD8
  clear c2 c3 hB8 hb8 hL8 hE8 hR8 hs8 hD8
  generalize W8.drewN nq = W9 at *
  have c2 := (row_cells hE9 2).trans ((Env_2 e).trans (by rw [hsq]))
  have c3 := row_cells hs9 0
  have c4 := row_cells hR9 0
  repeat' (first | go_skip | go_guarded | go_step | go_upon)
  go_still_tail 7, (by kernel_rfl)
  change wpList _ _ _ _ _ W9.drew
  refine wpList_mapUpdate_own _ rfl _ _ _ 73 rfl 3 4 key_int Tryz.underlying73 _ (G.m 1) N D rfl hD9.drew (by unfold maxLen; omega) _ _ (.int .i64 seq) rfl rfl hk (.lit (.bool true)) [] (plainElem_bool Tryz.underlying4 true) ?_
  intro W10 hown10 hgrow10
  have keep : ∀ b o, obj W9 b = some o → b ≠ G.m 1 → obj W10 b = some o := fun b o h1 h2 => (hgrow10.block b (row_lt' h1) (fun q => h2 (Option.some.inj q))).trans h1
  have hX10 : BelX W.heap.size (fun i => i = G.r 1 ∨ i = G.m 1) W W10 := (BelX.of hB9 _).trans ⟨hgrow10.os, hgrow10.tape, hgrow10.output, hgrow10.size, fun k hk hs => hgrow10.block k (Nat.lt_of_lt_of_le hk hB9.size) (fun q => hs (Or.inr (Option.some.inj q)))⟩
  have hd : [G.g, G.s, G.r 0, G.r 1, G.r 2, G.m 0, G.m 1, G.m 2].Nodup := HD.out
  have hL10 := keep _ _ hL9 (by omega)
  have hE10 := keep _ _ hE9 (by omega)
  have hR10 := keep _ _ hR9 (by simp only [List.nodup_cons, List.mem_cons, not_or] at hd; omega)
  have hs10 := keep _ _ hs9 (by omega)
  have hb10 := keep _ _ hb9 (by omega)
  clear hL9 hE9 hR9 hs9 hb9 hD9 c2 c3 c4 hgrow10 keep
  have c2 := (row_cells hE10 2).trans ((Env_2 e).trans (by rw [hsq]))
  have c3 := row_cells hs10 0
  have c4 := row_cells hR10 1
  have f4 := row_free hR10 1
  repeat' (first | go_skip | go_guarded | go_step | go_upon)
  have hne1 : lb ≠ G.r 1 := by omega
  have hne2 : W.heap.size + 1 ≠ G.r 1 := by omega
  have hbX : obj (W10.setCell ⟨G.r 1, 1, none⟩ (.int .i64 (if mostL (T 1) < seq then seq else mostL (T 1)))) lb = some (.cells LA 52 (0, 0)) := keep_setCell hb10 _ hne1 _
  have hLX : obj (W10.setCell ⟨G.r 1, 1, none⟩ (.int .i64 (if mostL (T 1) < seq then seq else mostL (T 1)))) (W.heap.size + 1) = some (.cells z52 52 (0, 0)) := keep_setCell hL10 _ hne2 _
  have hRX : obj (W10.setCell ⟨G.r 1, 1, none⟩ (.int .i64 (if mostL (T 1) < seq then seq else mostL (T 1)))) (G.r 1) = some (.cells #[.map (some (G.m 1)), .int .i64 (if mostL (T 1) < seq then seq else mostL (T 1))] 75 (0, 0)) := by rw [obj_setCell_at, hR10]; rfl
  have hDX := hown10.setCell (a := ⟨G.r 1, 1, none⟩) (by simp only [List.nodup_cons, List.mem_cons, not_or] at hd; show G.m 1 ≠ G.r 1; omega) (.int .i64 (if mostL (T 1) < seq then seq else mostL (T 1)))
  go_still_tail 12, (by kernel_rfl)
  change wpList _ _ _ _ _ W10.drew
  have hLe : LA.extract 0 62 = LA := extract_all LA 62 hsz
  have hmx : (if mostL (T 1) < seq then seq else mostL (T 1)) = mostL (T 1 ++ [seq]) := by rw [mostL_snoc]; split <;> omega
  rw [hmx] at hbX hLX hRX hDX ⊢
  clear hmx
  generalize hmq : mostL (T 1 ++ [seq]) = mx at *
  repeat' (first | go_skip | go_guarded | go_step | go_upon)
  refine bodyPost_ret (results_row_tmp rfl _ _ (W.heap.size + 1) 52 LA _ _ (.int .i64 0) rfl (setRow_heap _ _ _ _ _ _ hLX) Tryz.underlying52 rfl (by rw [hsz]; kernel_rfl) rfl) rfl ?_
  have hX11 : BelX W.heap.size (fun i => i = G.r 1 ∨ i = G.m 1) W ((W10.setCell ⟨G.r 1, 1, none⟩ (.int .i64 mx)).setRow (W.heap.size + 1) LA).drew := ⟨hX10.os, hX10.tape, hX10.output, by simpa using hX10.size, fun k hk hs => ((setRow_other _ _ _ _ (by omega)).trans (heap_setCell_other _ _ _ _ (fun q => hs (Or.inl q)))).trans (hX10.block k hk hs)⟩
  refine ⟨by rw [hLA], ?_, hX11⟩
  rw [← h.v]
  refine h.took (by omega) hX11 ?_ ⟨_, ?_, put_key hD0.isMap (key_int.key hk) hat⟩
  · rw [hmq]
    exact keep_setRow hRX (by omega) LA
  · obtain ⟨es, clock, q1, q2⟩ := hDX
    exact ⟨es, clock, (setRow_other _ _ _ _ (by omega)).trans q1, q2⟩
theorem take_old2 (W : World) (G : GB) (gv : Value) (T : Nat → List Int) (N : Nat) (h : GateP W G gv T N) (ka : Option Addr) (kc : Nat) (e : Env) (hs : e.seal32.length = 32) (hd : e.dst = 0) (Lt : List Value) (hLt : Lt.length = 62) (hLo : ones Lt.toArray = true) (hf : e.frm = 2) (seq : Int) (hsq : e.seq = seq) (hq : 1 ≤ seq ∧ seq ≤ 1000000) (hm : seq ∈ T 2)
    (HO : ∀ w0, Below W.heap.size W w0 → Calls Tryz.prog 22 #[.slice ka 3 kc, .agg e.row] w0 fun r w' => r = .returned (.tuple #[.agg Lt.toArray, .int .i64 0]) ∧ Below w0.heap.size w0 w') :
    Calls Tryz.prog 11 #[gv, .slice ka 3 kc, .agg e.row] W fun r w' => r = .returned (.tuple #[.agg CE.V.zerL.toArray, .int .i64 9]) ∧ Below W.heap.size W w' := by
  have HO' := Lib.hid HO
  clear HO
  obtain ⟨c, hg⟩ := h.g
  rw [h.v]
  have hr := Env_size e hs
  have hall := Env_all e hs
  have hg1 := keep_alloc (keep_alloc hg (.cells e.row 36 (0, 0))) (.cells z52 52 (0, 0))
  have c0 := row_cells hg1 0
  have c1 := row_cells hg1 1
  have hE := keep_alloc (obj_alloc_at W (.cells e.row 36 (0, 0)) _ rfl) (.cells z52 52 (0, 0))
  have c2 := (row_cells hE 1).trans (Env_1 e)
  have HD := Lib.hid h.d
  obtain ⟨row, hS, hrow⟩ := h.s
  have hR := h.r 2 (by omega)
  obtain ⟨D, hD, hat⟩ := h.m 2 (by omega)
  have hD0 := hD
  have hB0 : ∀ nq, Below W.heap.size W (((W.alloc (.cells e.row 36 (0, 0))).alloc (.cells z52 52 (0, 0))).drewN nq) := fun nq => by
    have := ((Below.refl W.heap.size W).alloc (Nat.le_refl _) (.cells e.row 36 (0, 0))).alloc (by simp) (.cells z52 52 (0, 0))
    exact ⟨this.os, this.tape, this.output, this.size, this.block⟩
  have hL0 : obj ((W.alloc (.cells e.row 36 (0, 0))).alloc (.cells z52 52 (0, 0))) (W.heap.size + 1) = some (.cells z52 52 (0, 0)) := obj_alloc_at _ _ _ (by simp)
  go_enter Tryz.func11, Tryz.ntmps11
  repeat' (first | go_skip | go_guarded | go_step | go_upon)
  go_quiet (fail)
  have hB : Below W.heap.size W (((W.alloc (.cells e.row 36 (0, 0))).alloc (.cells z52 52 (0, 0))).drewN nq) := hB0 nq
  have hL : obj (((W.alloc (.cells e.row 36 (0, 0))).alloc (.cells z52 52 (0, 0))).drewN nq) (W.heap.size + 1) = some (.cells z52 52 (0, 0)) := hL0
  have hE2 : obj (((W.alloc (.cells e.row 36 (0, 0))).alloc (.cells z52 52 (0, 0))).drewN nq) W.heap.size = some (.cells e.row 36 (0, 0)) := hE
  generalize (((W.alloc (.cells e.row 36 (0, 0))).alloc (.cells z52 52 (0, 0))).drewN nq) = W2 at *
  have hLl := row_lt hL
  have hsz : Lt.toArray.size = 62 := by simpa using hLt
  generalize hLA : Lt.toArray = LA at *
  have hSl := row_lt hS
  have hRl := row_lt hR
  have hDl := hD.lt
  have hgl := row_lt hg
  have hEl := row_lt hE2
  have hz6 : 6 ≤ row.size := by
    have := (Array.getElem?_eq_some_iff.1 (hrow 2 (by omega)).2).1
    omega
  have z0 : (6 ≤ row.size) = True := eq_true (by omega)
  have ex : row.extract 4 6 = #[.pointer (some ⟨G.r 2, 0, none⟩), .int .i64 2] := by
    obtain ⟨q1, q2⟩ := hrow 2 (by omega)
    apply Array.ext_getElem?
    intro j
    rw [Array.getElem?_extract]
    by_cases hj : j < 2
    · rw [if_pos (by omega)]
      rcases (show j = 0 ∨ j = 1 by omega) with rfl | rfl
      · exact q1
      · exact q2
    · rw [if_neg (by omega), Array.getElem?_eq_none (by show 2 ≤ j; omega)]
  repeat' (first | (go_at_call 22; ((with_reducible refine (HO'.out _ hB).mono ?_)); rintro r w3 ⟨rfl, hB3⟩; have hL3 := keep_alloc (keep_below hL hB3 hLl) (.cells LA 52 (0, 0)); dsimp only) | go_skip | go_guarded | go_step | go_upon)
  have hB4 : Below W2.heap.size W2 (w3.alloc (.cells LA 52 (0, 0))) := hB3.alloc hB3.size _
  have hb4 : obj (w3.alloc (.cells LA 52 (0, 0))) w3.heap.size = some (.cells LA 52 (0, 0)) := obj_alloc_at _ _ _ rfl
  have hlb : W2.heap.size ≤ w3.heap.size := hB3.size
  generalize w3.alloc (.cells LA 52 (0, 0)) = W4 at *
  generalize w3.heap.size = lb at *
  have hbl4 := row_lt hb4
  have hL4 := keep_below hL hB4 hLl
  have hg4 := keep_below hg (hB.trans (hB4.mono hB.size)) hgl
  have hS4 := keep_below hS (hB.trans (hB4.mono hB.size)) hSl
  have hR4 := keep_below hR (hB.trans (hB4.mono hB.size)) hRl
  have hE4 := keep_below hE2 hB4 hEl
  have hD4 := ownsMap_below hD (hB.trans (hB4.mono hB.size)) hDl
  have hB5 := hB.trans (hB4.mono hB.size)
  have hLl4 := row_lt hL4
  have hEl4 := row_lt hE4
  have hgl4 := row_lt hg4
  have hRl4 := row_lt hR4
  have hDl4 := hD4.lt
  clear hL hg hS hR hE hE2 hD hB hB0 hL0 c0 c1 c2 hg1 hB3 hB4 hL3
  have c0 := (row_cells hE4 0).trans ((Env_0 e).trans (by rw [hf]))
  have c2 := (row_cells hE4 2).trans ((Env_2 e).trans (by rw [hsq]))
  have c1 := row_cells hg4 1
  have hS5 := keep_alloc hS4 (.cells #[.pointer none, .int .i64 0] 77 (0, 0))
  go_region
  have hB6 : Below W4.heap.size W4 (W4.alloc (.cells #[.pointer (some ⟨G.r 2, 0, none⟩), .int .i64 2] 77 (0, 0))).drew := ((Below.refl _ _).alloc (Nat.le_refl _) _).drew
  have hs6 : obj (W4.alloc (.cells #[.pointer (some ⟨G.r 2, 0, none⟩), .int .i64 2] 77 (0, 0))).drew W4.heap.size = some (.cells #[.pointer (some ⟨G.r 2, 0, none⟩), .int .i64 2] 77 (0, 0)) := obj_alloc_at _ _ _ rfl
  have hB7 := hB5.trans (hB6.mono hB5.size)
  generalize (W4.alloc (.cells #[.pointer (some ⟨G.r 2, 0, none⟩), .int .i64 2] 77 (0, 0))).drew = W6 at *
  generalize W4.heap.size = sb at *
  have hL6 := keep_below hL4 hB6 hLl4
  have hE6 := keep_below hE4 hB6 hEl4
  have hR6 := keep_below hR4 hB6 hRl4
  have hD6 := ownsMap_below hD4 hB6 hDl4
  have hb6 := keep_below hb4 hB6 hbl4
  clear hb4 hL4 hE4 hR4 hD4 hg4 hS4 hS5 c0 c1 c2 hB5 hB6
  have c2 := (row_cells hE6 2).trans ((Env_2 e).trans (by rw [hsq]))
  have c3 := row_cells hs6 0
  have c4 := row_cells hR6 0
  have hk := keyInt seq (by omega) (by omega)
  have hat1 : D.atKey (.int .i64 seq) (.lit (.bool false)) = .lit (.bool true) := by rw [hat]; simp [hm]
  have hrun := look_bool (t := 73) hD6.drew key_int Tryz.underlying73 Tryz.underlying4 (zero_bool _) hk hat1
  repeat' (first | go_skip | go_guarded | go_step | go_upon)
  go_region
  have hB8 : Below W.heap.size W W6.drew := hB7.drew
  have hL8 : obj W6.drew (W.heap.size + 1) = some (.cells z52 52 (0, 0)) := hL6
  generalize W6.drew = W8 at *
  repeat' (first | go_skip | go_guarded | go_step | go_upon)
  refine bodyPost_ret (results_row_tmp rfl _ _ (W.heap.size + 1) 52 CE.V.zerL.toArray _ _ (.int .i64 9) rfl (setRow_heap _ _ _ _ _ _ hL8) Tryz.underlying52 rfl (by kernel_rfl) rfl) rfl ?_
  exact ⟨rfl, below_setRow hB8 (by omega) _⟩
theorem take_big2 (W : World) (G : GB) (gv : Value) (T : Nat → List Int) (N : Nat) (h : GateP W G gv T N) (ka : Option Addr) (kc : Nat) (e : Env) (hs : e.seal32.length = 32) (hd : e.dst = 0) (Lt : List Value) (hLt : Lt.length = 62) (hLo : ones Lt.toArray = true) (hf : e.frm = 2) (seq : Int) (hsq : e.seq = seq) (hq : 1 ≤ seq ∧ seq ≤ 1000000) (hm : seq ∉ T 2) (hb : mostL (T 2) + 1024 < seq)
    (HO : ∀ w0, Below W.heap.size W w0 → Calls Tryz.prog 22 #[.slice ka 3 kc, .agg e.row] w0 fun r w' => r = .returned (.tuple #[.agg Lt.toArray, .int .i64 0]) ∧ Below w0.heap.size w0 w') :
    Calls Tryz.prog 11 #[gv, .slice ka 3 kc, .agg e.row] W fun r w' => r = .returned (.tuple #[.agg CE.V.zerL.toArray, .int .i64 2]) ∧ Below W.heap.size W w' := by
  have HO' := Lib.hid HO
  clear HO
  obtain ⟨c, hg⟩ := h.g
  rw [h.v]
  have hr := Env_size e hs
  have hall := Env_all e hs
  have hg1 := keep_alloc (keep_alloc hg (.cells e.row 36 (0, 0))) (.cells z52 52 (0, 0))
  have c0 := row_cells hg1 0
  have c1 := row_cells hg1 1
  have hE := keep_alloc (obj_alloc_at W (.cells e.row 36 (0, 0)) _ rfl) (.cells z52 52 (0, 0))
  have c2 := (row_cells hE 1).trans (Env_1 e)
  have HD := Lib.hid h.d
  obtain ⟨row, hS, hrow⟩ := h.s
  have hR := h.r 2 (by omega)
  obtain ⟨D, hD, hat⟩ := h.m 2 (by omega)
  have hD0 := hD
  have hB0 : ∀ nq, Below W.heap.size W (((W.alloc (.cells e.row 36 (0, 0))).alloc (.cells z52 52 (0, 0))).drewN nq) := fun nq => by
    have := ((Below.refl W.heap.size W).alloc (Nat.le_refl _) (.cells e.row 36 (0, 0))).alloc (by simp) (.cells z52 52 (0, 0))
    exact ⟨this.os, this.tape, this.output, this.size, this.block⟩
  have hL0 : obj ((W.alloc (.cells e.row 36 (0, 0))).alloc (.cells z52 52 (0, 0))) (W.heap.size + 1) = some (.cells z52 52 (0, 0)) := obj_alloc_at _ _ _ (by simp)
  go_enter Tryz.func11, Tryz.ntmps11
  repeat' (first | go_skip | go_guarded | go_step | go_upon)
  go_quiet (fail)
  have hB : Below W.heap.size W (((W.alloc (.cells e.row 36 (0, 0))).alloc (.cells z52 52 (0, 0))).drewN nq) := hB0 nq
  have hL : obj (((W.alloc (.cells e.row 36 (0, 0))).alloc (.cells z52 52 (0, 0))).drewN nq) (W.heap.size + 1) = some (.cells z52 52 (0, 0)) := hL0
  have hE2 : obj (((W.alloc (.cells e.row 36 (0, 0))).alloc (.cells z52 52 (0, 0))).drewN nq) W.heap.size = some (.cells e.row 36 (0, 0)) := hE
  generalize (((W.alloc (.cells e.row 36 (0, 0))).alloc (.cells z52 52 (0, 0))).drewN nq) = W2 at *
  have hLl := row_lt hL
  have hsz : Lt.toArray.size = 62 := by simpa using hLt
  generalize hLA : Lt.toArray = LA at *
  have hSl := row_lt hS
  have hRl := row_lt hR
  have hDl := hD.lt
  have hgl := row_lt hg
  have hEl := row_lt hE2
  have hz6 : 6 ≤ row.size := by
    have := (Array.getElem?_eq_some_iff.1 (hrow 2 (by omega)).2).1
    omega
  have z0 : (6 ≤ row.size) = True := eq_true (by omega)
  have ex : row.extract 4 6 = #[.pointer (some ⟨G.r 2, 0, none⟩), .int .i64 2] := by
    obtain ⟨q1, q2⟩ := hrow 2 (by omega)
    apply Array.ext_getElem?
    intro j
    rw [Array.getElem?_extract]
    by_cases hj : j < 2
    · rw [if_pos (by omega)]
      rcases (show j = 0 ∨ j = 1 by omega) with rfl | rfl
      · exact q1
      · exact q2
    · rw [if_neg (by omega), Array.getElem?_eq_none (by show 2 ≤ j; omega)]
  repeat' (first | (go_at_call 22; ((with_reducible refine (HO'.out _ hB).mono ?_)); rintro r w3 ⟨rfl, hB3⟩; have hL3 := keep_alloc (keep_below hL hB3 hLl) (.cells LA 52 (0, 0)); dsimp only) | go_skip | go_guarded | go_step | go_upon)
  have hB4 : Below W2.heap.size W2 (w3.alloc (.cells LA 52 (0, 0))) := hB3.alloc hB3.size _
  have hb4 : obj (w3.alloc (.cells LA 52 (0, 0))) w3.heap.size = some (.cells LA 52 (0, 0)) := obj_alloc_at _ _ _ rfl
  have hlb : W2.heap.size ≤ w3.heap.size := hB3.size
  generalize w3.alloc (.cells LA 52 (0, 0)) = W4 at *
  generalize w3.heap.size = lb at *
  have hbl4 := row_lt hb4
  have hL4 := keep_below hL hB4 hLl
  have hg4 := keep_below hg (hB.trans (hB4.mono hB.size)) hgl
  have hS4 := keep_below hS (hB.trans (hB4.mono hB.size)) hSl
  have hR4 := keep_below hR (hB.trans (hB4.mono hB.size)) hRl
  have hE4 := keep_below hE2 hB4 hEl
  have hD4 := ownsMap_below hD (hB.trans (hB4.mono hB.size)) hDl
  have hB5 := hB.trans (hB4.mono hB.size)
  have hLl4 := row_lt hL4
  have hEl4 := row_lt hE4
  have hgl4 := row_lt hg4
  have hRl4 := row_lt hR4
  have hDl4 := hD4.lt
  clear hL hg hS hR hE hE2 hD hB hB0 hL0 c0 c1 c2 hg1 hB3 hB4 hL3
  have c0 := (row_cells hE4 0).trans ((Env_0 e).trans (by rw [hf]))
  have c2 := (row_cells hE4 2).trans ((Env_2 e).trans (by rw [hsq]))
  have c1 := row_cells hg4 1
  have hS5 := keep_alloc hS4 (.cells #[.pointer none, .int .i64 0] 77 (0, 0))
  go_region
  have hB6 : Below W4.heap.size W4 (W4.alloc (.cells #[.pointer (some ⟨G.r 2, 0, none⟩), .int .i64 2] 77 (0, 0))).drew := ((Below.refl _ _).alloc (Nat.le_refl _) _).drew
  have hs6 : obj (W4.alloc (.cells #[.pointer (some ⟨G.r 2, 0, none⟩), .int .i64 2] 77 (0, 0))).drew W4.heap.size = some (.cells #[.pointer (some ⟨G.r 2, 0, none⟩), .int .i64 2] 77 (0, 0)) := obj_alloc_at _ _ _ rfl
  have hB7 := hB5.trans (hB6.mono hB5.size)
  generalize (W4.alloc (.cells #[.pointer (some ⟨G.r 2, 0, none⟩), .int .i64 2] 77 (0, 0))).drew = W6 at *
  generalize W4.heap.size = sb at *
  have hL6 := keep_below hL4 hB6 hLl4
  have hE6 := keep_below hE4 hB6 hEl4
  have hR6 := keep_below hR4 hB6 hRl4
  have hD6 := ownsMap_below hD4 hB6 hDl4
  have hb6 := keep_below hb4 hB6 hbl4
  clear hb4 hL4 hE4 hR4 hD4 hg4 hS4 hS5 c0 c1 c2 hB5 hB6
  have c2 := (row_cells hE6 2).trans ((Env_2 e).trans (by rw [hsq]))
  have c3 := row_cells hs6 0
  have c4 := row_cells hR6 0
  have hk := keyInt seq (by omega) (by omega)
  have hat1 : D.atKey (.int .i64 seq) (.lit (.bool false)) = .lit (.bool false) := by rw [hat]; simp [hm]
  have hrun := look_bool (t := 73) hD6.drew key_int Tryz.underlying73 Tryz.underlying4 (zero_bool _) hk hat1
  repeat' (first | go_skip | go_guarded | go_step | go_upon)
  go_region
  have hB8 : Below W.heap.size W W6.drew := hB7.drew
  have hL8 : obj W6.drew (W.heap.size + 1) = some (.cells z52 52 (0, 0)) := hL6
  have hE8 : obj W6.drew W.heap.size = some (.cells e.row 36 (0, 0)) := hE6
  have hR8 : obj W6.drew (G.r 2) = some (.cells #[.map (some (G.m 2)), .int .i64 (mostL (T 2))] 75 (0, 0)) := hR6
  have hs8 : obj W6.drew sb = some (.cells #[.pointer (some ⟨G.r 2, 0, none⟩), .int .i64 2] 77 (0, 0)) := hs6
  clear c2 c3 c4 hB7 hL6 hE6 hR6 hs6 hrun hD6
  generalize W6.drew = W8 at *
  have c2 := (row_cells hE8 2).trans ((Env_2 e).trans (by rw [hsq]))
  have c3 := row_cells hs8 0
  have hm0 := mostL_nonneg (T 2)
  have hb' : seq > mostL (T 2) + 1024 := hb
  repeat' (first | go_skip | go_guarded | go_step | go_upon)
  go_quiet ((go_at_call 26; exact Calls.quiet_of_same (greatest_calls _ _ _ _ _ hR8)))
  have hB9 : Below W.heap.size W (W8.drewN nq) := ⟨hB8.os, hB8.tape, hB8.output, hB8.size, hB8.block⟩
  have hL9 : obj (W8.drewN nq) (W.heap.size + 1) = some (.cells z52 52 (0, 0)) := hL8
  generalize W8.drewN nq = W9 at *
  repeat' (first | go_skip | go_guarded | go_step | go_upon)
  refine bodyPost_ret (results_row_tmp rfl _ _ (W.heap.size + 1) 52 CE.V.zerL.toArray _ _ (.int .i64 2) rfl (setRow_heap _ _ _ _ _ _ hL9) Tryz.underlying52 rfl (by kernel_rfl) rfl) rfl ?_
  exact ⟨rfl, below_setRow hB9 (by omega) _⟩
theorem take_ok2 (W : World) (G : GB) (gv : Value) (T : Nat → List Int) (N : Nat) (h : GateP W G gv T N) (ka : Option Addr) (kc : Nat) (e : Env) (hs : e.seal32.length = 32) (hd : e.dst = 0) (Lt : List Value) (hLt : Lt.length = 62) (hLo : ones Lt.toArray = true) (hf : e.frm = 2) (seq : Int) (hsq : e.seq = seq) (hq : 1 ≤ seq ∧ seq ≤ 1000000) (hm : seq ∉ T 2) (hb : seq ≤ mostL (T 2) + 1024) (hN : N ≤ 1000) (hmm : mostL (T 2) ≤ 1000000)
    (HO : ∀ w0, Below W.heap.size W w0 → Calls Tryz.prog 22 #[.slice ka 3 kc, .agg e.row] w0 fun r w' => r = .returned (.tuple #[.agg Lt.toArray, .int .i64 0]) ∧ Below w0.heap.size w0 w') :
    Calls Tryz.prog 11 #[gv, .slice ka 3 kc, .agg e.row] W fun r w' => r = .returned (.tuple #[.agg Lt.toArray, .int .i64 0]) ∧ GateP w' G gv (fun i => if i = 2 then T 2 ++ [seq] else T i) (N + 1) ∧ BelX W.heap.size (fun i => i = G.r 2 ∨ i = G.m 2) W w' := by
  have HO' := Lib.hid HO
  clear HO
  obtain ⟨c, hg⟩ := h.g
  rw [h.v]
  have hr := Env_size e hs
  have hall := Env_all e hs
  have hg1 := keep_alloc (keep_alloc hg (.cells e.row 36 (0, 0))) (.cells z52 52 (0, 0))
  have c0 := row_cells hg1 0
  have c1 := row_cells hg1 1
  have hE := keep_alloc (obj_alloc_at W (.cells e.row 36 (0, 0)) _ rfl) (.cells z52 52 (0, 0))
  have c2 := (row_cells hE 1).trans (Env_1 e)
  have HD := Lib.hid h.d
  obtain ⟨row, hS, hrow⟩ := h.s
  have hR := h.r 2 (by omega)
  obtain ⟨D, hD, hat⟩ := h.m 2 (by omega)
  have hD0 := hD
  have hB0 : ∀ nq, Below W.heap.size W (((W.alloc (.cells e.row 36 (0, 0))).alloc (.cells z52 52 (0, 0))).drewN nq) := fun nq => by
    have := ((Below.refl W.heap.size W).alloc (Nat.le_refl _) (.cells e.row 36 (0, 0))).alloc (by simp) (.cells z52 52 (0, 0))
    exact ⟨this.os, this.tape, this.output, this.size, this.block⟩
  have hL0 : obj ((W.alloc (.cells e.row 36 (0, 0))).alloc (.cells z52 52 (0, 0))) (W.heap.size + 1) = some (.cells z52 52 (0, 0)) := obj_alloc_at _ _ _ (by simp)
  go_enter Tryz.func11, Tryz.ntmps11
  repeat' (first | go_skip | go_guarded | go_step | go_upon)
  go_quiet (fail)
  have hB : Below W.heap.size W (((W.alloc (.cells e.row 36 (0, 0))).alloc (.cells z52 52 (0, 0))).drewN nq) := hB0 nq
  have hL : obj (((W.alloc (.cells e.row 36 (0, 0))).alloc (.cells z52 52 (0, 0))).drewN nq) (W.heap.size + 1) = some (.cells z52 52 (0, 0)) := hL0
  have hE2 : obj (((W.alloc (.cells e.row 36 (0, 0))).alloc (.cells z52 52 (0, 0))).drewN nq) W.heap.size = some (.cells e.row 36 (0, 0)) := hE
  generalize (((W.alloc (.cells e.row 36 (0, 0))).alloc (.cells z52 52 (0, 0))).drewN nq) = W2 at *
  have hLl := row_lt hL
  have hsz : Lt.toArray.size = 62 := by simpa using hLt
  generalize hLA : Lt.toArray = LA at *
  have hSl := row_lt hS
  have hRl := row_lt hR
  have hDl := hD.lt
  have hgl := row_lt hg
  have hEl := row_lt hE2
  have hz6 : 6 ≤ row.size := by
    have := (Array.getElem?_eq_some_iff.1 (hrow 2 (by omega)).2).1
    omega
  have z0 : (6 ≤ row.size) = True := eq_true (by omega)
  have ex : row.extract 4 6 = #[.pointer (some ⟨G.r 2, 0, none⟩), .int .i64 2] := by
    obtain ⟨q1, q2⟩ := hrow 2 (by omega)
    apply Array.ext_getElem?
    intro j
    rw [Array.getElem?_extract]
    by_cases hj : j < 2
    · rw [if_pos (by omega)]
      rcases (show j = 0 ∨ j = 1 by omega) with rfl | rfl
      · exact q1
      · exact q2
    · rw [if_neg (by omega), Array.getElem?_eq_none (by show 2 ≤ j; omega)]
  repeat' (first | (go_at_call 22; ((with_reducible refine (HO'.out _ hB).mono ?_)); rintro r w3 ⟨rfl, hB3⟩; have hL3 := keep_alloc (keep_below hL hB3 hLl) (.cells LA 52 (0, 0)); dsimp only) | go_skip | go_guarded | go_step | go_upon)
  have hB4 : Below W2.heap.size W2 (w3.alloc (.cells LA 52 (0, 0))) := hB3.alloc hB3.size _
  have hb4 : obj (w3.alloc (.cells LA 52 (0, 0))) w3.heap.size = some (.cells LA 52 (0, 0)) := obj_alloc_at _ _ _ rfl
  have hlb : W2.heap.size ≤ w3.heap.size := hB3.size
  generalize w3.alloc (.cells LA 52 (0, 0)) = W4 at *
  generalize w3.heap.size = lb at *
  have hbl4 := row_lt hb4
  have hL4 := keep_below hL hB4 hLl
  have hg4 := keep_below hg (hB.trans (hB4.mono hB.size)) hgl
  have hS4 := keep_below hS (hB.trans (hB4.mono hB.size)) hSl
  have hR4 := keep_below hR (hB.trans (hB4.mono hB.size)) hRl
  have hE4 := keep_below hE2 hB4 hEl
  have hD4 := ownsMap_below hD (hB.trans (hB4.mono hB.size)) hDl
  have hB5 := hB.trans (hB4.mono hB.size)
  have hLl4 := row_lt hL4
  have hEl4 := row_lt hE4
  have hgl4 := row_lt hg4
  have hRl4 := row_lt hR4
  have hDl4 := hD4.lt
  clear hL hg hS hR hE hE2 hD hB hB0 hL0 c0 c1 c2 hg1 hB3 hB4 hL3
  have c0 := (row_cells hE4 0).trans ((Env_0 e).trans (by rw [hf]))
  have c2 := (row_cells hE4 2).trans ((Env_2 e).trans (by rw [hsq]))
  have c1 := row_cells hg4 1
  have hS5 := keep_alloc hS4 (.cells #[.pointer none, .int .i64 0] 77 (0, 0))
  go_region
  have hB6 : Below W4.heap.size W4 (W4.alloc (.cells #[.pointer (some ⟨G.r 2, 0, none⟩), .int .i64 2] 77 (0, 0))).drew := ((Below.refl _ _).alloc (Nat.le_refl _) _).drew
  have hs6 : obj (W4.alloc (.cells #[.pointer (some ⟨G.r 2, 0, none⟩), .int .i64 2] 77 (0, 0))).drew W4.heap.size = some (.cells #[.pointer (some ⟨G.r 2, 0, none⟩), .int .i64 2] 77 (0, 0)) := obj_alloc_at _ _ _ rfl
  have hB7 := hB5.trans (hB6.mono hB5.size)
  generalize (W4.alloc (.cells #[.pointer (some ⟨G.r 2, 0, none⟩), .int .i64 2] 77 (0, 0))).drew = W6 at *
  generalize W4.heap.size = sb at *
  have hL6 := keep_below hL4 hB6 hLl4
  have hE6 := keep_below hE4 hB6 hEl4
  have hR6 := keep_below hR4 hB6 hRl4
  have hD6 := ownsMap_below hD4 hB6 hDl4
  have hb6 := keep_below hb4 hB6 hbl4
  clear hb4 hL4 hE4 hR4 hD4 hg4 hS4 hS5 c0 c1 c2 hB5 hB6
  have c2 := (row_cells hE6 2).trans ((Env_2 e).trans (by rw [hsq]))
  have c3 := row_cells hs6 0
  have c4 := row_cells hR6 0
  have hk := keyInt seq (by omega) (by omega)
  have hat1 : D.atKey (.int .i64 seq) (.lit (.bool false)) = .lit (.bool false) := by rw [hat]; simp [hm]
  have hrun := look_bool (t := 73) hD6.drew key_int Tryz.underlying73 Tryz.underlying4 (zero_bool _) hk hat1
  repeat' (first | go_skip | go_guarded | go_step | go_upon)
  go_region
  have hB8 : Below W.heap.size W W6.drew := hB7.drew
  have hL8 : obj W6.drew (W.heap.size + 1) = some (.cells z52 52 (0, 0)) := hL6
  have hE8 : obj W6.drew W.heap.size = some (.cells e.row 36 (0, 0)) := hE6
  have hR8 : obj W6.drew (G.r 2) = some (.cells #[.map (some (G.m 2)), .int .i64 (mostL (T 2))] 75 (0, 0)) := hR6
  have hs8 : obj W6.drew sb = some (.cells #[.pointer (some ⟨G.r 2, 0, none⟩), .int .i64 2] 77 (0, 0)) := hs6
  have hb8 : obj W6.drew lb = some (.cells LA 52 (0, 0)) := hb6
  have hD8 : W6.drew.ownsMap Tryz.prog 3 (plainElem Tryz.prog 4) (G.m 2) N D := hD6
  clear c2 c3 c4 hB7 hb6 hL6 hE6 hR6 hs6 hrun hD6
  generalize W6.drew = W8 at *
  have c2 := (row_cells hE8 2).trans ((Env_2 e).trans (by rw [hsq]))
  have c3 := row_cells hs8 0
  have hm0 := mostL_nonneg (T 2)
  have hb' : ¬ (seq > mostL (T 2) + 1024) := by omega
  repeat' (first | go_skip | go_guarded | go_step | go_upon)
  go_quiet ((go_at_call 26; exact Calls.quiet_of_same (greatest_calls _ _ _ _ _ hR8)))
  have hB9 : Below W.heap.size W (W8.drewN nq) := ⟨hB8.os, hB8.tape, hB8.output, hB8.size, hB8.block⟩
  have hL9 : obj (W8.drewN nq) (W.heap.size + 1) = some (.cells z52 52 (0, 0)) := hL8
  have hE9 : obj (W8.drewN nq) W.heap.size = some (.cells e.row 36 (0, 0)) := hE8
  have hR9 : obj (W8.drewN nq) (G.r 2) = some (.cells #[.map (some (G.m 2)), .int .i64 (mostL (T 2))] 75 (0, 0)) := hR8
  have hs9 : obj (W8.drewN nq) sb = some (.cells #[.pointer (some ⟨G.r 2, 0, none⟩), .int .i64 2] 77 (0, 0)) := hs8
  have hb9 : obj (W8.drewN nq) lb = some (.cells LA 52 (0, 0)) := hb8
  have hD9 : (W8.drewN nq).ownsMap Tryz.prog 3 (plainElem Tryz.prog 4) (G.m 2) N D := hD8
  clear c2 c3 hB8 hb8 hL8 hE8 hR8 hs8 hD8
  generalize W8.drewN nq = W9 at *
  have c2 := (row_cells hE9 2).trans ((Env_2 e).trans (by rw [hsq]))
  have c3 := row_cells hs9 0
  have c4 := row_cells hR9 0
  repeat' (first | go_skip | go_guarded | go_step | go_upon)
  go_still_tail 7, (by kernel_rfl)
  change wpList _ _ _ _ _ W9.drew
  refine wpList_mapUpdate_own _ rfl _ _ _ 73 rfl 3 4 key_int Tryz.underlying73 _ (G.m 2) N D rfl hD9.drew (by unfold maxLen; omega) _ _ (.int .i64 seq) rfl rfl hk (.lit (.bool true)) [] (plainElem_bool Tryz.underlying4 true) ?_
  intro W10 hown10 hgrow10
  have keep : ∀ b o, obj W9 b = some o → b ≠ G.m 2 → obj W10 b = some o := fun b o h1 h2 => (hgrow10.block b (row_lt' h1) (fun q => h2 (Option.some.inj q))).trans h1
  have hX10 : BelX W.heap.size (fun i => i = G.r 2 ∨ i = G.m 2) W W10 := (BelX.of hB9 _).trans ⟨hgrow10.os, hgrow10.tape, hgrow10.output, hgrow10.size, fun k hk hs => hgrow10.block k (Nat.lt_of_lt_of_le hk hB9.size) (fun q => hs (Or.inr (Option.some.inj q)))⟩
  have hd : [G.g, G.s, G.r 0, G.r 1, G.r 2, G.m 0, G.m 1, G.m 2].Nodup := HD.out
  have hL10 := keep _ _ hL9 (by omega)
  have hE10 := keep _ _ hE9 (by omega)
  have hR10 := keep _ _ hR9 (by simp only [List.nodup_cons, List.mem_cons, not_or] at hd; omega)
  have hs10 := keep _ _ hs9 (by omega)
  have hb10 := keep _ _ hb9 (by omega)
  clear hL9 hE9 hR9 hs9 hb9 hD9 c2 c3 c4 hgrow10 keep
  have c2 := (row_cells hE10 2).trans ((Env_2 e).trans (by rw [hsq]))
  have c3 := row_cells hs10 0
  have c4 := row_cells hR10 1
  have f4 := row_free hR10 1
  repeat' (first | go_skip | go_guarded | go_step | go_upon)
  have hne1 : lb ≠ G.r 2 := by omega
  have hne2 : W.heap.size + 1 ≠ G.r 2 := by omega
  have hbX : obj (W10.setCell ⟨G.r 2, 1, none⟩ (.int .i64 (if mostL (T 2) < seq then seq else mostL (T 2)))) lb = some (.cells LA 52 (0, 0)) := keep_setCell hb10 _ hne1 _
  have hLX : obj (W10.setCell ⟨G.r 2, 1, none⟩ (.int .i64 (if mostL (T 2) < seq then seq else mostL (T 2)))) (W.heap.size + 1) = some (.cells z52 52 (0, 0)) := keep_setCell hL10 _ hne2 _
  have hRX : obj (W10.setCell ⟨G.r 2, 1, none⟩ (.int .i64 (if mostL (T 2) < seq then seq else mostL (T 2)))) (G.r 2) = some (.cells #[.map (some (G.m 2)), .int .i64 (if mostL (T 2) < seq then seq else mostL (T 2))] 75 (0, 0)) := by rw [obj_setCell_at, hR10]; rfl
  have hDX := hown10.setCell (a := ⟨G.r 2, 1, none⟩) (by simp only [List.nodup_cons, List.mem_cons, not_or] at hd; show G.m 2 ≠ G.r 2; omega) (.int .i64 (if mostL (T 2) < seq then seq else mostL (T 2)))
  go_still_tail 12, (by kernel_rfl)
  change wpList _ _ _ _ _ W10.drew
  have hLe : LA.extract 0 62 = LA := extract_all LA 62 hsz
  have hmx : (if mostL (T 2) < seq then seq else mostL (T 2)) = mostL (T 2 ++ [seq]) := by rw [mostL_snoc]; split <;> omega
  rw [hmx] at hbX hLX hRX hDX ⊢
  clear hmx
  generalize hmq : mostL (T 2 ++ [seq]) = mx at *
  repeat' (first | go_skip | go_guarded | go_step | go_upon)
  refine bodyPost_ret (results_row_tmp rfl _ _ (W.heap.size + 1) 52 LA _ _ (.int .i64 0) rfl (setRow_heap _ _ _ _ _ _ hLX) Tryz.underlying52 rfl (by rw [hsz]; kernel_rfl) rfl) rfl ?_
  have hX11 : BelX W.heap.size (fun i => i = G.r 2 ∨ i = G.m 2) W ((W10.setCell ⟨G.r 2, 1, none⟩ (.int .i64 mx)).setRow (W.heap.size + 1) LA).drew := ⟨hX10.os, hX10.tape, hX10.output, by simpa using hX10.size, fun k hk hs => ((setRow_other _ _ _ _ (by omega)).trans (heap_setCell_other _ _ _ _ (fun q => hs (Or.inl q)))).trans (hX10.block k hk hs)⟩
  refine ⟨by rw [hLA], ?_, hX11⟩
  rw [← h.v]
  refine h.took (by omega) hX11 ?_ ⟨_, ?_, put_key hD0.isMap (key_int.key hk) hat⟩
  · rw [hmq]
    exact keep_setRow hRX (by omega) LA
  · obtain ⟨es, clock, q1, q2⟩ := hDX
    exact ⟨es, clock, (setRow_other _ _ _ _ (by omega)).trans q1, q2⟩
end Go.Proofs.YtmjblpkbfoipfaaGreatDoor
