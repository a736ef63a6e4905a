/-
  The walks of the gate of the reference: Take.
-/
import Derived.Test.YtmjblpkbfoipfaaGreatDoorPkGtR
import Derived.Test.YtmjblpkbfoipfaaGreatDoorPkGs
set_option linter.unusedSectionVars false
set_option linter.constructorNameAsVariable false
set_option linter.unusedVariables false
set_option linter.unusedSimpArgs false
namespace Go.Proofs.YtmjblpkbfoipfaaGreatDoor
open Go.RowKit
set_option maxRecDepth 20000
set_option maxHeartbeats 8000000
theorem rtake_arg (W : World) (R : RB) (gv : Value) (T : Nat → List Int) (h : RGateP W R gv T) (ka : Option Addr) (kn kc : Nat) (e : Env) (hs : e.seal32.length = 32) (hbad : kn ≠ 3 ∨ e.dst ≠ 0) :
    Calls Tryz.prog 12 #[gv, .slice ka kn kc, .agg e.row] W fun r w' => r = .returned (.tuple #[.agg CE.V.zerL.toArray, .int .i64 1]) ∧ Below W.heap.size W w' := by
  obtain ⟨c, hg⟩ := h.g
  rw [h.v]
  have hr := Env_size e hs
  have hall := Env_all e hs
  have hg1 := keep_alloc (keep_alloc hg (.cells e.row 36 (0, 0))) (.cells z52 52 (0, 0))
  have c0 := row_cells hg1 0
  have c1 := row_cells hg1 1
  have hE := keep_alloc (obj_alloc_at W (.cells e.row 36 (0, 0)) _ rfl) (.cells z52 52 (0, 0))
  have c2 := (row_cells hE 1).trans (Env_1 e)
  have hB0 : ∀ nq, Below W.heap.size W (((W.alloc (.cells e.row 36 (0, 0))).alloc (.cells z52 52 (0, 0))).drewN nq) := fun nq => by
    have := ((Below.refl W.heap.size W).alloc (Nat.le_refl _) (.cells e.row 36 (0, 0))).alloc (by simp) (.cells z52 52 (0, 0))
    exact ⟨this.os, this.tape, this.output, this.size, this.block⟩
  have hL0 : obj ((W.alloc (.cells e.row 36 (0, 0))).alloc (.cells z52 52 (0, 0))) (W.heap.size + 1) = some (.cells z52 52 (0, 0)) := obj_alloc_at _ _ _ (by simp)
  clear h
  by_cases hk : kn = 3
  · subst hk
    have hd : e.dst ≠ 0 := by simpa using hbad
    clear hbad
    go_enter Tryz.func12, Tryz.ntmps12
    repeat' (first | go_skip | go_guarded | go_step | go_upon)
    go_quiet (fail)
    have hB : Below W.heap.size W (((W.alloc (.cells e.row 36 (0, 0))).alloc (.cells z52 52 (0, 0))).drewN nq) := hB0 nq
    have hL : obj (((W.alloc (.cells e.row 36 (0, 0))).alloc (.cells z52 52 (0, 0))).drewN nq) (W.heap.size + 1) = some (.cells z52 52 (0, 0)) := hL0
    generalize (((W.alloc (.cells e.row 36 (0, 0))).alloc (.cells z52 52 (0, 0))).drewN nq) = W2 at *
    repeat' (first | go_skip | go_guarded | go_step | go_upon)
    refine bodyPost_ret (results_row_tmp rfl _ _ (W.heap.size + 1) 52 CE.V.zerL.toArray _ _ (.int .i64 1) rfl (setRow_heap _ _ _ _ _ _ hL) Tryz.underlying52 rfl (by kernel_rfl) rfl) rfl ?_
    exact ⟨rfl, below_setRow hB (by omega) _⟩
  · have hk' : (kn : Int) ≠ 3 := by omega
    clear hbad
    go_enter Tryz.func12, Tryz.ntmps12
    repeat' (first | go_skip | go_guarded | go_step | go_upon)
    go_quiet (fail)
    have hB : Below W.heap.size W (((W.alloc (.cells e.row 36 (0, 0))).alloc (.cells z52 52 (0, 0))).drewN nq) := hB0 nq
    have hL : obj (((W.alloc (.cells e.row 36 (0, 0))).alloc (.cells z52 52 (0, 0))).drewN nq) (W.heap.size + 1) = some (.cells z52 52 (0, 0)) := hL0
    generalize (((W.alloc (.cells e.row 36 (0, 0))).alloc (.cells z52 52 (0, 0))).drewN nq) = W2 at *
    repeat' (first | go_skip | go_guarded | go_step | go_upon)
    refine bodyPost_ret (results_row_tmp rfl _ _ (W.heap.size + 1) 52 CE.V.zerL.toArray _ _ (.int .i64 1) rfl (setRow_heap _ _ _ _ _ _ hL) Tryz.underlying52 rfl (by kernel_rfl) rfl) rfl ?_
    exact ⟨rfl, below_setRow hB (by omega) _⟩
theorem rtake_fail (W : World) (R : RB) (gv : Value) (T : Nat → List Int) (h : RGateP W R gv T) (ka : Option Addr) (kc : Nat) (e : Env) (hs : e.seal32.length = 32) (hd : e.dst = 0) (Lt : List Value) (hLt : Lt.length = 62) (hLo : ones Lt.toArray = true) (code : Int) (hc : code ≠ 0)
    (HO : ∀ w0, Below W.heap.size W w0 → Calls Tryz.prog 27 #[.slice ka 3 kc, .agg e.row] w0 fun r w' => r = .returned (.tuple #[.agg Lt.toArray, .int .i64 code]) ∧ Below w0.heap.size w0 w') :
    Calls Tryz.prog 12 #[gv, .slice ka 3 kc, .agg e.row] W fun r w' => r = .returned (.tuple #[.agg Lt.toArray, .int .i64 code]) ∧ Below W.heap.size W w' := by
  have HO' := Lib.hid HO
  clear HO
  obtain ⟨c, hg⟩ := h.g
  rw [h.v]
  have hr := Env_size e hs
  have hall := Env_all e hs
  have hg1 := keep_alloc (keep_alloc hg (.cells e.row 36 (0, 0))) (.cells z52 52 (0, 0))
  have c0 := row_cells hg1 0
  have c1 := row_cells hg1 1
  have hE := keep_alloc (obj_alloc_at W (.cells e.row 36 (0, 0)) _ rfl) (.cells z52 52 (0, 0))
  have c2 := (row_cells hE 1).trans (Env_1 e)
  have hB0 : ∀ nq, Below W.heap.size W (((W.alloc (.cells e.row 36 (0, 0))).alloc (.cells z52 52 (0, 0))).drewN nq) := fun nq => by
    have := ((Below.refl W.heap.size W).alloc (Nat.le_refl _) (.cells e.row 36 (0, 0))).alloc (by simp) (.cells z52 52 (0, 0))
    exact ⟨this.os, this.tape, this.output, this.size, this.block⟩
  have hL0 : obj ((W.alloc (.cells e.row 36 (0, 0))).alloc (.cells z52 52 (0, 0))) (W.heap.size + 1) = some (.cells z52 52 (0, 0)) := obj_alloc_at _ _ _ (by simp)
  clear h
  go_enter Tryz.func12, Tryz.ntmps12
  repeat' (first | go_skip | go_guarded | go_step | go_upon)
  go_quiet (fail)
  have hB : Below W.heap.size W (((W.alloc (.cells e.row 36 (0, 0))).alloc (.cells z52 52 (0, 0))).drewN nq) := hB0 nq
  have hL : obj (((W.alloc (.cells e.row 36 (0, 0))).alloc (.cells z52 52 (0, 0))).drewN nq) (W.heap.size + 1) = some (.cells z52 52 (0, 0)) := hL0
  have hE2 : obj (((W.alloc (.cells e.row 36 (0, 0))).alloc (.cells z52 52 (0, 0))).drewN nq) W.heap.size = some (.cells e.row 36 (0, 0)) := hE
  generalize (((W.alloc (.cells e.row 36 (0, 0))).alloc (.cells z52 52 (0, 0))).drewN nq) = W2 at *
  have hLl := row_lt hL
  have hsz : Lt.toArray.size = 62 := by simpa using hLt
  have hLe : Lt.toArray.extract 0 62 = Lt.toArray := extract_all _ 62 hsz
  generalize hLA : Lt.toArray = LA at *
  repeat' (first | (go_at_call 27; ((with_reducible refine (HO'.out _ hB).mono ?_)); rintro r w3 ⟨rfl, hB3⟩; have hL3 := keep_alloc (keep_below hL hB3 hLl) (.cells LA 52 (0, 0)); have hb3 := obj_alloc_at w3 (.cells LA 52 (0, 0)) _ rfl; dsimp only) | go_skip | go_guarded | go_step | go_upon)
  refine bodyPost_ret (results_row_tmp rfl _ _ (W.heap.size + 1) 52 LA _ _ (.int .i64 code) rfl (setRow_heap _ _ _ _ _ _ hL3) Tryz.underlying52 rfl (by rw [hsz]; kernel_rfl) rfl) rfl ?_
  exact ⟨by rw [hLA], below_setRow ((hB.trans (hB3.mono hB.size)).alloc (Nat.le_trans hB.size hB3.size) _) (by omega) _⟩
end Go.Proofs.YtmjblpkbfoipfaaGreatDoor
