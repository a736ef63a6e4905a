/-
  The walks of the gate of the reference: Take, after Open.
-/
import Derived.Test.YtmjblpkbfoipfaaGreatDoorPkGtS
import Derived.Test.YtmjblpkbfoipfaaGreatDoorPkGtR
import Derived.Maps.AppendAt
import Derived.Deep.RegionLaw
set_option linter.unusedSectionVars false
set_option linter.constructorNameAsVariable false
set_option linter.unusedVariables false
set_option linter.unusedSimpArgs false
namespace Go.Proofs.YtmjblpkbfoipfaaGreatDoor
open Go.RowKit
set_option maxRecDepth 20000
set_option maxHeartbeats 8000000
theorem step_append_i {ops : Array Oper} {o : Oper} {a : Act} {w : World} {K : Act → World → Prop} {Q : Exit → Act → World → Prop} {E : Prop} (hgd : o.guard = none) (s x : Operand)
    (ho : o.op = .call { callee := .builtin .append, args := #[s, x], argTypes := #[50, 50] })
    (base k : Nat) (v : Value) (xs : List Value) (hs : a.eval s = v) (hown : w.ownsRow base 3 1 v k xs)
    (ad : Addr) (m c : Nat) (news : List Value) (hx : a.eval x = .slice (some ad) m c) (hl : news.length = m) (hnews : ∀ j u, news[j]? = some u → w.cell? (ad.add j) = some u) (h1 : ∀ u ∈ news, u.oneCell' = true)
    (h63 : k + m ≤ 1000000000000) (hb : base ≤ w.heap.size)
    (hK : ∀ v' w', w'.ownsRow base 3 1 v' (k + m) (xs ++ news) → w.grownBy w' v.ownBlock → (v'.ownBlock = v.ownBlock ∨ v'.ownBlock = some w.heap.size) → K (a.put o.dst v') w') :
    if Region.wanted o (yielded ops a.tmps) = true then Oper.wp Tryz.prog o a w K Q else E := by
  obtain ⟨i0, hi, hz0, hz1, hz2⟩ := info_int
  have hw : Region.wanted o (yielded ops a.tmps) = true := by simp [Region.wanted, hgd]
  rw [if_pos hw]
  obtain ⟨v', w', hrun, r1, r2, _, r3⟩ := run_append_own_at (P := Tryz.prog) w base 50 o.type 3 i0 _ 1 8 Tryz.underlying50 hi hz0 hz1 hz2 rfl (by decide) v k xs hown ad m c news (by omega) hnews h1 (by unfold maxLen; omega) (by omega) hb
  unfold Oper.wp
  simp [execOp, ho, resolve, invoke, builtin, hs, hx, hrun, Result.andThen]
  exact hK v' w' r1 r2 r3
theorem rtake_old1 (W : World) (R : RB) (gv : Value) (T : Nat → List Int) (h : RGateP W R gv T) (hlen : (T 1).length < 100000) (ka : Option Addr) (kc : Nat) (e : Env) (hs : e.seal32.length = 32) (hd : e.dst = 0) (Lt : List Value) (hLt : Lt.length = 62) (hLo : ones Lt.toArray = true) (hf : e.frm = 1) (seq : Int) (hsq : e.seq = seq) (hq : 1 ≤ seq ∧ seq ≤ 1000000) (hm : seq ∈ T 1)
    (HO : ∀ w0, Below W.heap.size W w0 → Calls Tryz.prog 27 #[.slice ka 3 kc, .agg e.row] w0 fun r w' => r = .returned (.tuple #[.agg Lt.toArray, .int .i64 0]) ∧ Below w0.heap.size w0 w') :
    Calls Tryz.prog 12 #[gv, .slice ka 3 kc, .agg e.row] W fun r w' => r = .returned (.tuple #[.agg CE.V.zerL.toArray, .int .i64 9]) ∧ Below W.heap.size W w' := by
  have HO' := Lib.hid HO
  clear HO
  have hgv := h.v
  have hlo := h.lo
  subst hgv
  have HG : Hid (∀ w, Below W.heap.size W w → Calls Tryz.prog 15 #[.pointer (some ⟨R.g, 0, none⟩), .int .i64 1] w fun e w' => e = .returned (.int .i64 (mostL (T 1))) ∧ w' = w) := Lib.hid fun w hB => rgst_calls w R _ T (h.below hB) 1 (fun _ => (by show (T 1).length < 1000000; omega))
  obtain ⟨c, hg⟩ := h.g
  obtain ⟨row, hS, hrow, hdist⟩ := h.s
  obtain ⟨v, hv, hown⟩ := hrow 1 (by omega)
  have hr := Env_size e hs
  have hall := Env_all e hs
  have hg1 := keep_alloc (keep_alloc hg (.cells e.row 36 (0, 0))) (.cells z52 52 (0, 0))
  have c0 := row_cells hg1 0
  have c1 := row_cells hg1 1
  have hE := keep_alloc (obj_alloc_at W (.cells e.row 36 (0, 0)) _ rfl) (.cells z52 52 (0, 0))
  have c2 := (row_cells hE 1).trans (Env_1 e)
  have hB0 : ∀ nq, Below W.heap.size W (((W.alloc (.cells e.row 36 (0, 0))).alloc (.cells z52 52 (0, 0))).drewN nq) := fun nq => by
    have := ((Below.refl W.heap.size W).alloc (Nat.le_refl _) (.cells e.row 36 (0, 0))).alloc (by simp) (.cells z52 52 (0, 0))
    exact ⟨this.os, this.tape, this.output, this.size, this.block⟩
  have hL0 : obj ((W.alloc (.cells e.row 36 (0, 0))).alloc (.cells z52 52 (0, 0))) (W.heap.size + 1) = some (.cells z52 52 (0, 0)) := obj_alloc_at _ _ _ (by simp)
  have HH := Lib.hid h
  have HSS := Lib.hid hS
  have HV := Lib.hid hv
  have HOW := Lib.hid hown
  have HD := Lib.hid hdist
  have HR := Lib.hid hrow
  clear h hv hown hdist hrow
  go_enter Tryz.func12, Tryz.ntmps12
  repeat' (first | go_skip | go_guarded | go_step | go_upon)
  go_quiet (fail)
  have hB : Below W.heap.size W (((W.alloc (.cells e.row 36 (0, 0))).alloc (.cells z52 52 (0, 0))).drewN nq) := hB0 nq
  have hL : obj (((W.alloc (.cells e.row 36 (0, 0))).alloc (.cells z52 52 (0, 0))).drewN nq) (W.heap.size + 1) = some (.cells z52 52 (0, 0)) := hL0
  have hE2 : obj (((W.alloc (.cells e.row 36 (0, 0))).alloc (.cells z52 52 (0, 0))).drewN nq) W.heap.size = some (.cells e.row 36 (0, 0)) := hE
  generalize (((W.alloc (.cells e.row 36 (0, 0))).alloc (.cells z52 52 (0, 0))).drewN nq) = W2 at *
  have hLl := row_lt hL
  have hsz : Lt.toArray.size = 62 := by simpa using hLt
  have hLe : Lt.toArray.extract 0 62 = Lt.toArray := extract_all _ 62 hsz
  generalize hLA : Lt.toArray = LA at *
  have hSl := row_lt hS
  have hgl := row_lt hg
  have hEl := row_lt hE2
  repeat' (first | (go_at_call 27; ((with_reducible refine (HO'.out _ hB).mono ?_)); rintro r w3 ⟨rfl, hB3⟩; have hL3 := keep_alloc (keep_below hL hB3 hLl) (.cells LA 52 (0, 0)); dsimp only) | go_skip | go_guarded | go_step | go_upon)
  have hB4 : Below W2.heap.size W2 (w3.alloc (.cells LA 52 (0, 0))) := hB3.alloc hB3.size _
  have hb4 : obj (w3.alloc (.cells LA 52 (0, 0))) w3.heap.size = some (.cells LA 52 (0, 0)) := obj_alloc_at _ _ _ rfl
  have hlb : W2.heap.size ≤ w3.heap.size := hB3.size
  generalize w3.alloc (.cells LA 52 (0, 0)) = W4 at *
  generalize w3.heap.size = lb at *
  have hL4 := keep_below hL hB4 hLl
  have hB5 := hB.trans (hB4.mono hB.size)
  have hg4 := keep_below hg hB5 hgl
  have hS4 := keep_below hS hB5 hSl
  have hE4 := keep_below hE2 hB4 hEl
  have hown4 : W4.ownsRow R.lo 3 1 v (T 1).length (iCells (T 1)) := owns_belowI HOW.out hB5 (fun g hg => by
    rcases HOW.out.2 with ⟨q, _⟩ | ⟨g', cap, cur, q, _, q2, _⟩
    · rw [q] at hg; cases hg
    · rw [q] at hg; cases hg; exact (Array.getElem?_eq_some_iff.1 q2).1)
  have hI4 := hasI_owns hown4
  have HI := Lib.hid hI4
  have HOW4 := Lib.hid hown4
  clear hI4 hown4
  clear hL hg hS hE hE2 hB hB0 hL0 c0 c1 c2 hg1 hB3 hB4 hL3
  have c0 := (row_cells hE4 0).trans ((Env_0 e).trans (by rw [hf]))
  have c2 := (row_cells hE4 2).trans ((Env_2 e).trans (by rw [hsq]))
  have c1 := row_cells hg4 2
  have c3 := (row_cells hS4 1).trans HV.out
  obtain ⟨va, vc, hvv⟩ := owns_valI HOW4.out
  subst hvv
  have hc : (T 1).contains seq = true := by simpa using hm
  have HC : Hid (∀ n, Calls Tryz.prog 28 #[.slice va (T 1).length vc, .int .i64 seq] (W4.drewN n) fun e w' => e = .returned (.bool true) ∧ w' = W4.drewN n) := Lib.hid fun n => by
    have := has_calls _ (T 1) seq (W4.drewN n) HI.out (by omega)
    rw [hc] at this
    exact this
  clear hc
  repeat' (first | go_skip | go_guarded | go_step | go_upon)
  go_quiet ((go_at_call 28; exact Calls.quiet_of_same (HC.out _)))
  have hB6 : Below W.heap.size W (W4.drewN nq) := ⟨hB5.os, hB5.tape, hB5.output, hB5.size, hB5.block⟩
  have hL6 : obj (W4.drewN nq) (W.heap.size + 1) = some (.cells z52 52 (0, 0)) := hL4
  have hE6 : obj (W4.drewN nq) W.heap.size = some (.cells e.row 36 (0, 0)) := hE4
  have hg6 : obj (W4.drewN nq) R.g = _ := hg4
  have hS6 : obj (W4.drewN nq) R.s = _ := hS4
  have hb6 : obj (W4.drewN nq) lb = _ := hb4
  have HOW6 : Hid ((W4.drewN nq).ownsRow R.lo 3 1 _ (T 1).length (iCells (T 1))) := HOW4
  clear hB5 hL4 hE4 hg4 hS4 hb4 HOW4 HI c0 c1 c2 c3
  generalize W4.drewN nq = W6 at *
  repeat' (first | go_skip | go_guarded | go_step | go_upon)
  refine bodyPost_ret (results_row_tmp rfl _ _ (W.heap.size + 1) 52 CE.V.zerL.toArray _ _ (.int .i64 9) rfl (setRow_heap _ _ _ _ _ _ hL6) Tryz.underlying52 rfl (by kernel_rfl) rfl) rfl ?_
  exact ⟨rfl, below_setRow hB6 (by omega) _⟩
theorem rtake_big1 (W : World) (R : RB) (gv : Value) (T : Nat → List Int) (h : RGateP W R gv T) (hlen : (T 1).length < 100000) (ka : Option Addr) (kc : Nat) (e : Env) (hs : e.seal32.length = 32) (hd : e.dst = 0) (Lt : List Value) (hLt : Lt.length = 62) (hLo : ones Lt.toArray = true) (hf : e.frm = 1) (seq : Int) (hsq : e.seq = seq) (hq : 1 ≤ seq ∧ seq ≤ 1000000) (hm : seq ∉ T 1) (hb : mostL (T 1) + 1024 < seq)
    (HO : ∀ w0, Below W.heap.size W w0 → Calls Tryz.prog 27 #[.slice ka 3 kc, .agg e.row] w0 fun r w' => r = .returned (.tuple #[.agg Lt.toArray, .int .i64 0]) ∧ Below w0.heap.size w0 w') :
    Calls Tryz.prog 12 #[gv, .slice ka 3 kc, .agg e.row] W fun r w' => r = .returned (.tuple #[.agg CE.V.zerL.toArray, .int .i64 2]) ∧ Below W.heap.size W w' := by
  have HO' := Lib.hid HO
  clear HO
  have hgv := h.v
  have hlo := h.lo
  subst hgv
  have HG : Hid (∀ w, Below W.heap.size W w → Calls Tryz.prog 15 #[.pointer (some ⟨R.g, 0, none⟩), .int .i64 1] w fun e w' => e = .returned (.int .i64 (mostL (T 1))) ∧ w' = w) := Lib.hid fun w hB => rgst_calls w R _ T (h.below hB) 1 (fun _ => (by show (T 1).length < 1000000; omega))
  obtain ⟨c, hg⟩ := h.g
  obtain ⟨row, hS, hrow, hdist⟩ := h.s
  obtain ⟨v, hv, hown⟩ := hrow 1 (by omega)
  have hr := Env_size e hs
  have hall := Env_all e hs
  have hg1 := keep_alloc (keep_alloc hg (.cells e.row 36 (0, 0))) (.cells z52 52 (0, 0))
  have c0 := row_cells hg1 0
  have c1 := row_cells hg1 1
  have hE := keep_alloc (obj_alloc_at W (.cells e.row 36 (0, 0)) _ rfl) (.cells z52 52 (0, 0))
  have c2 := (row_cells hE 1).trans (Env_1 e)
  have hB0 : ∀ nq, Below W.heap.size W (((W.alloc (.cells e.row 36 (0, 0))).alloc (.cells z52 52 (0, 0))).drewN nq) := fun nq => by
    have := ((Below.refl W.heap.size W).alloc (Nat.le_refl _) (.cells e.row 36 (0, 0))).alloc (by simp) (.cells z52 52 (0, 0))
    exact ⟨this.os, this.tape, this.output, this.size, this.block⟩
  have hL0 : obj ((W.alloc (.cells e.row 36 (0, 0))).alloc (.cells z52 52 (0, 0))) (W.heap.size + 1) = some (.cells z52 52 (0, 0)) := obj_alloc_at _ _ _ (by simp)
  have HH := Lib.hid h
  have HSS := Lib.hid hS
  have HV := Lib.hid hv
  have HOW := Lib.hid hown
  have HD := Lib.hid hdist
  have HR := Lib.hid hrow
  clear h hv hown hdist hrow
  go_enter Tryz.func12, Tryz.ntmps12
  repeat' (first | go_skip | go_guarded | go_step | go_upon)
  go_quiet (fail)
  have hB : Below W.heap.size W (((W.alloc (.cells e.row 36 (0, 0))).alloc (.cells z52 52 (0, 0))).drewN nq) := hB0 nq
  have hL : obj (((W.alloc (.cells e.row 36 (0, 0))).alloc (.cells z52 52 (0, 0))).drewN nq) (W.heap.size + 1) = some (.cells z52 52 (0, 0)) := hL0
  have hE2 : obj (((W.alloc (.cells e.row 36 (0, 0))).alloc (.cells z52 52 (0, 0))).drewN nq) W.heap.size = some (.cells e.row 36 (0, 0)) := hE
  generalize (((W.alloc (.cells e.row 36 (0, 0))).alloc (.cells z52 52 (0, 0))).drewN nq) = W2 at *
  have hLl := row_lt hL
  have hsz : Lt.toArray.size = 62 := by simpa using hLt
  have hLe : Lt.toArray.extract 0 62 = Lt.toArray := extract_all _ 62 hsz
  generalize hLA : Lt.toArray = LA at *
  have hSl := row_lt hS
  have hgl := row_lt hg
  have hEl := row_lt hE2
  repeat' (first | (go_at_call 27; ((with_reducible refine (HO'.out _ hB).mono ?_)); rintro r w3 ⟨rfl, hB3⟩; have hL3 := keep_alloc (keep_below hL hB3 hLl) (.cells LA 52 (0, 0)); dsimp only) | go_skip | go_guarded | go_step | go_upon)
  have hB4 : Below W2.heap.size W2 (w3.alloc (.cells LA 52 (0, 0))) := hB3.alloc hB3.size _
  have hb4 : obj (w3.alloc (.cells LA 52 (0, 0))) w3.heap.size = some (.cells LA 52 (0, 0)) := obj_alloc_at _ _ _ rfl
  have hlb : W2.heap.size ≤ w3.heap.size := hB3.size
  generalize w3.alloc (.cells LA 52 (0, 0)) = W4 at *
  generalize w3.heap.size = lb at *
  have hL4 := keep_below hL hB4 hLl
  have hB5 := hB.trans (hB4.mono hB.size)
  have hg4 := keep_below hg hB5 hgl
  have hS4 := keep_below hS hB5 hSl
  have hE4 := keep_below hE2 hB4 hEl
  have hown4 : W4.ownsRow R.lo 3 1 v (T 1).length (iCells (T 1)) := owns_belowI HOW.out hB5 (fun g hg => by
    rcases HOW.out.2 with ⟨q, _⟩ | ⟨g', cap, cur, q, _, q2, _⟩
    · rw [q] at hg; cases hg
    · rw [q] at hg; cases hg; exact (Array.getElem?_eq_some_iff.1 q2).1)
  have hI4 := hasI_owns hown4
  have HI := Lib.hid hI4
  have HOW4 := Lib.hid hown4
  clear hI4 hown4
  clear hL hg hS hE hE2 hB hB0 hL0 c0 c1 c2 hg1 hB3 hB4 hL3
  have c0 := (row_cells hE4 0).trans ((Env_0 e).trans (by rw [hf]))
  have c2 := (row_cells hE4 2).trans ((Env_2 e).trans (by rw [hsq]))
  have c1 := row_cells hg4 2
  have c3 := (row_cells hS4 1).trans HV.out
  obtain ⟨va, vc, hvv⟩ := owns_valI HOW4.out
  subst hvv
  have hc : (T 1).contains seq = false := by simpa using hm
  have HC : Hid (∀ n, Calls Tryz.prog 28 #[.slice va (T 1).length vc, .int .i64 seq] (W4.drewN n) fun e w' => e = .returned (.bool false) ∧ w' = W4.drewN n) := Lib.hid fun n => by
    have := has_calls _ (T 1) seq (W4.drewN n) HI.out (by omega)
    rw [hc] at this
    exact this
  clear hc
  repeat' (first | go_skip | go_guarded | go_step | go_upon)
  go_quiet ((go_at_call 28; exact Calls.quiet_of_same (HC.out _)))
  have hB6 : Below W.heap.size W (W4.drewN nq) := ⟨hB5.os, hB5.tape, hB5.output, hB5.size, hB5.block⟩
  have hL6 : obj (W4.drewN nq) (W.heap.size + 1) = some (.cells z52 52 (0, 0)) := hL4
  have hE6 : obj (W4.drewN nq) W.heap.size = some (.cells e.row 36 (0, 0)) := hE4
  have hg6 : obj (W4.drewN nq) R.g = _ := hg4
  have hS6 : obj (W4.drewN nq) R.s = _ := hS4
  have hb6 : obj (W4.drewN nq) lb = _ := hb4
  have HOW6 : Hid ((W4.drewN nq).ownsRow R.lo 3 1 _ (T 1).length (iCells (T 1))) := HOW4
  clear hB5 hL4 hE4 hg4 hS4 hb4 HOW4 HI c0 c1 c2 c3
  generalize W4.drewN nq = W6 at *
  have c0 := (row_cells hE6 0).trans ((Env_0 e).trans (by rw [hf]))
  have c2 := (row_cells hE6 2).trans ((Env_2 e).trans (by rw [hsq]))
  have c1 := row_cells hg6 2
  have c3 := (row_cells hS6 1).trans HV.out
  have hb' : seq > mostL (T 1) + 1024 := hb
  have hm0 := mostL_nonneg (T 1)
  have hB6n : ∀ n, Below W.heap.size W (W6.drewN n) := fun n => ⟨hB6.os, hB6.tape, hB6.output, hB6.size, hB6.block⟩
  have HBn := Lib.hid hB6n
  clear hB6n
  repeat' (first | go_skip | go_guarded | go_step | go_upon)
  go_quiet ((go_at_call 15; exact Calls.quiet_of_same (HG.out _ (HBn.out _))))
  have hB7 : Below W.heap.size W (W6.drewN nq) := HBn.out _
  have hL7 : obj (W6.drewN nq) (W.heap.size + 1) = some (.cells z52 52 (0, 0)) := hL6
  generalize W6.drewN nq = W7 at *
  repeat' (first | go_skip | go_guarded | go_step | go_upon)
  refine bodyPost_ret (results_row_tmp rfl _ _ (W.heap.size + 1) 52 CE.V.zerL.toArray _ _ (.int .i64 2) rfl (setRow_heap _ _ _ _ _ _ hL7) Tryz.underlying52 rfl (by kernel_rfl) rfl) rfl ?_
  exact ⟨rfl, below_setRow hB7 (by omega) _⟩
theorem rtake_ok1 (W : World) (R : RB) (gv : Value) (T : Nat → List Int) (h : RGateP W R gv T) (hlen : (T 1).length < 100000) (ka : Option Addr) (kc : Nat) (e : Env) (hs : e.seal32.length = 32) (hd : e.dst = 0) (Lt : List Value) (hLt : Lt.length = 62) (hLo : ones Lt.toArray = true) (hf : e.frm = 1) (seq : Int) (hsq : e.seq = seq) (hq : 1 ≤ seq ∧ seq ≤ 1000000) (hm : seq ∉ T 1) (hb : seq ≤ mostL (T 1) + 1024) (hmm : mostL (T 1) ≤ 1000000)
    (HO : ∀ w0, Below W.heap.size W w0 → Calls Tryz.prog 27 #[.slice ka 3 kc, .agg e.row] w0 fun r w' => r = .returned (.tuple #[.agg Lt.toArray, .int .i64 0]) ∧ Below w0.heap.size w0 w') :
    Calls Tryz.prog 12 #[gv, .slice ka 3 kc, .agg e.row] W fun r w' => r = .returned (.tuple #[.agg Lt.toArray, .int .i64 0]) ∧ RGateP w' R gv (fun i => if i = 1 then T 1 ++ [seq] else T i) ∧ BelX W.heap.size (IntB W R.lo) W w' := by
  have HO' := Lib.hid HO
  clear HO
  have hgv := h.v
  have hlo := h.lo
  subst hgv
  have HG : Hid (∀ w, Below W.heap.size W w → Calls Tryz.prog 15 #[.pointer (some ⟨R.g, 0, none⟩), .int .i64 1] w fun e w' => e = .returned (.int .i64 (mostL (T 1))) ∧ w' = w) := Lib.hid fun w hB => rgst_calls w R _ T (h.below hB) 1 (fun _ => (by show (T 1).length < 1000000; omega))
  obtain ⟨c, hg⟩ := h.g
  obtain ⟨row, hS, hrow, hdist⟩ := h.s
  obtain ⟨v, hv, hown⟩ := hrow 1 (by omega)
  have hr := Env_size e hs
  have hall := Env_all e hs
  have hg1 := keep_alloc (keep_alloc hg (.cells e.row 36 (0, 0))) (.cells z52 52 (0, 0))
  have c0 := row_cells hg1 0
  have c1 := row_cells hg1 1
  have hE := keep_alloc (obj_alloc_at W (.cells e.row 36 (0, 0)) _ rfl) (.cells z52 52 (0, 0))
  have c2 := (row_cells hE 1).trans (Env_1 e)
  have hB0 : ∀ nq, Below W.heap.size W (((W.alloc (.cells e.row 36 (0, 0))).alloc (.cells z52 52 (0, 0))).drewN nq) := fun nq => by
    have := ((Below.refl W.heap.size W).alloc (Nat.le_refl _) (.cells e.row 36 (0, 0))).alloc (by simp) (.cells z52 52 (0, 0))
    exact ⟨this.os, this.tape, this.output, this.size, this.block⟩
  have hL0 : obj ((W.alloc (.cells e.row 36 (0, 0))).alloc (.cells z52 52 (0, 0))) (W.heap.size + 1) = some (.cells z52 52 (0, 0)) := obj_alloc_at _ _ _ (by simp)
  have HH := Lib.hid h
  have HSS := Lib.hid hS
  have HV := Lib.hid hv
  have HOW := Lib.hid hown
  have HD := Lib.hid hdist
  have HR := Lib.hid hrow
  clear h hv hown hdist hrow
  go_enter Tryz.func12, Tryz.ntmps12
  repeat' (first | go_skip | go_guarded | go_step | go_upon)
  go_quiet (fail)
  have hB : Below W.heap.size W (((W.alloc (.cells e.row 36 (0, 0))).alloc (.cells z52 52 (0, 0))).drewN nq) := hB0 nq
  have hL : obj (((W.alloc (.cells e.row 36 (0, 0))).alloc (.cells z52 52 (0, 0))).drewN nq) (W.heap.size + 1) = some (.cells z52 52 (0, 0)) := hL0
  have hE2 : obj (((W.alloc (.cells e.row 36 (0, 0))).alloc (.cells z52 52 (0, 0))).drewN nq) W.heap.size = some (.cells e.row 36 (0, 0)) := hE
  generalize (((W.alloc (.cells e.row 36 (0, 0))).alloc (.cells z52 52 (0, 0))).drewN nq) = W2 at *
  have hLl := row_lt hL
  have hsz : Lt.toArray.size = 62 := by simpa using hLt
  have hLe : Lt.toArray.extract 0 62 = Lt.toArray := extract_all _ 62 hsz
  generalize hLA : Lt.toArray = LA at *
  have hSl := row_lt hS
  have hgl := row_lt hg
  have hEl := row_lt hE2
  repeat' (first | (go_at_call 27; ((with_reducible refine (HO'.out _ hB).mono ?_)); rintro r w3 ⟨rfl, hB3⟩; have hL3 := keep_alloc (keep_below hL hB3 hLl) (.cells LA 52 (0, 0)); dsimp only) | go_skip | go_guarded | go_step | go_upon)
  have hB4 : Below W2.heap.size W2 (w3.alloc (.cells LA 52 (0, 0))) := hB3.alloc hB3.size _
  have hb4 : obj (w3.alloc (.cells LA 52 (0, 0))) w3.heap.size = some (.cells LA 52 (0, 0)) := obj_alloc_at _ _ _ rfl
  have hlb : W2.heap.size ≤ w3.heap.size := hB3.size
  generalize w3.alloc (.cells LA 52 (0, 0)) = W4 at *
  generalize w3.heap.size = lb at *
  have hL4 := keep_below hL hB4 hLl
  have hB5 := hB.trans (hB4.mono hB.size)
  have hg4 := keep_below hg hB5 hgl
  have hS4 := keep_below hS hB5 hSl
  have hE4 := keep_below hE2 hB4 hEl
  have hown4 : W4.ownsRow R.lo 3 1 v (T 1).length (iCells (T 1)) := owns_belowI HOW.out hB5 (fun g hg => by
    rcases HOW.out.2 with ⟨q, _⟩ | ⟨g', cap, cur, q, _, q2, _⟩
    · rw [q] at hg; cases hg
    · rw [q] at hg; cases hg; exact (Array.getElem?_eq_some_iff.1 q2).1)
  have hI4 := hasI_owns hown4
  have HI := Lib.hid hI4
  have HOW4 := Lib.hid hown4
  clear hI4 hown4
  clear hL hg hS hE hE2 hB hB0 hL0 c0 c1 c2 hg1 hB3 hB4 hL3
  have c0 := (row_cells hE4 0).trans ((Env_0 e).trans (by rw [hf]))
  have c2 := (row_cells hE4 2).trans ((Env_2 e).trans (by rw [hsq]))
  have c1 := row_cells hg4 2
  have c3 := (row_cells hS4 1).trans HV.out
  obtain ⟨va, vc, hvv⟩ := owns_valI HOW4.out
  subst hvv
  have hc : (T 1).contains seq = false := by simpa using hm
  have HC : Hid (∀ n, Calls Tryz.prog 28 #[.slice va (T 1).length vc, .int .i64 seq] (W4.drewN n) fun e w' => e = .returned (.bool false) ∧ w' = W4.drewN n) := Lib.hid fun n => by
    have := has_calls _ (T 1) seq (W4.drewN n) HI.out (by omega)
    rw [hc] at this
    exact this
  clear hc
  repeat' (first | go_skip | go_guarded | go_step | go_upon)
  go_quiet ((go_at_call 28; exact Calls.quiet_of_same (HC.out _)))
  have hB6 : Below W.heap.size W (W4.drewN nq) := ⟨hB5.os, hB5.tape, hB5.output, hB5.size, hB5.block⟩
  have hL6 : obj (W4.drewN nq) (W.heap.size + 1) = some (.cells z52 52 (0, 0)) := hL4
  have hE6 : obj (W4.drewN nq) W.heap.size = some (.cells e.row 36 (0, 0)) := hE4
  have hg6 : obj (W4.drewN nq) R.g = _ := hg4
  have hS6 : obj (W4.drewN nq) R.s = _ := hS4
  have hb6 : obj (W4.drewN nq) lb = _ := hb4
  have HOW6 : Hid ((W4.drewN nq).ownsRow R.lo 3 1 _ (T 1).length (iCells (T 1))) := HOW4
  clear hB5 hL4 hE4 hg4 hS4 hb4 HOW4 HI c0 c1 c2 c3
  generalize W4.drewN nq = W6 at *
  have c0 := (row_cells hE6 0).trans ((Env_0 e).trans (by rw [hf]))
  have c2 := (row_cells hE6 2).trans ((Env_2 e).trans (by rw [hsq]))
  have c1 := row_cells hg6 2
  have c3 := (row_cells hS6 1).trans HV.out
  have hb' : ¬ (seq > mostL (T 1) + 1024) := by omega
  have hm0 := mostL_nonneg (T 1)
  have hB6n : ∀ n, Below W.heap.size W (W6.drewN n) := fun n => ⟨hB6.os, hB6.tape, hB6.output, hB6.size, hB6.block⟩
  have HBn := Lib.hid hB6n
  clear hB6n
  repeat' (first | go_skip | go_guarded | go_step | go_upon)
  go_quiet ((go_at_call 15; exact Calls.quiet_of_same (HG.out _ (HBn.out _))))
  clear HBn
  have hB7 : Below W.heap.size W (W6.drewN nq) := ⟨hB6.os, hB6.tape, hB6.output, hB6.size, hB6.block⟩
  have hL7 : obj (W6.drewN nq) (W.heap.size + 1) = some (.cells z52 52 (0, 0)) := hL6
  have hE7 : obj (W6.drewN nq) W.heap.size = some (.cells e.row 36 (0, 0)) := hE6
  have hg7 : obj (W6.drewN nq) R.g = _ := hg6
  have hS7 : obj (W6.drewN nq) R.s = _ := hS6
  have hb7 : obj (W6.drewN nq) lb = _ := hb6
  have HOW7 : Hid ((W6.drewN nq).ownsRow R.lo 3 1 _ (T 1).length (iCells (T 1))) := HOW6
  clear hB6 hL6 hE6 hg6 hS6 hb6 HOW6 c0 c1 c2 c3
  generalize W6.drewN nq = W7 at *
  have c0 := (row_cells hE7 0).trans ((Env_0 e).trans (by rw [hf]))
  have c2 := (row_cells hE7 2).trans ((Env_2 e).trans (by rw [hsq]))
  have c1 := row_cells hg7 2
  have c3 := (row_cells hS7 1).trans HV.out
  repeat' (first | go_skip | go_guarded | go_step | go_upon)
  go_quiet (fail)
  have hB8 : Below W.heap.size W (W7.drewN nq) := ⟨hB7.os, hB7.tape, hB7.output, hB7.size, hB7.block⟩
  have hL8 : obj (W7.drewN nq) (W.heap.size + 1) = some (.cells z52 52 (0, 0)) := hL7
  have hE8 : obj (W7.drewN nq) W.heap.size = some (.cells e.row 36 (0, 0)) := hE7
  have hg8 : obj (W7.drewN nq) R.g = _ := hg7
  have hS8 : obj (W7.drewN nq) R.s = _ := hS7
  have hb8 : obj (W7.drewN nq) lb = _ := hb7
  have HOW8 : Hid ((W7.drewN nq).ownsRow R.lo 3 1 _ (T 1).length (iCells (T 1))) := HOW7
  clear hB7 hL7 hE7 hg7 hS7 hb7 HOW7 c0 c1 c2 c3
  generalize W7.drewN nq = W8 at *
  have c0 := (row_cells hE8 0).trans ((Env_0 e).trans (by rw [hf]))
  have c2 := (row_cells hE8 2).trans ((Env_2 e).trans (by rw [hsq]))
  have c1 := row_cells hg8 2
  have c3 := (row_cells hS8 1).trans HV.out
  have hSl8 := row_lt hS8
  have hgl8 := row_lt hg8
  have hbl8 := row_lt hb8
  have hLl8 := row_lt hL8
  have hEl8 := row_lt hE8
  repeat' (first | go_skip | go_guarded | go_step | go_upon)
  have far : ∀ b row' T', obj W8 b = some (.cells row' T' (0, 0)) → T' ≠ 3 → (Value.slice va (T 1).length vc).ownBlock ≠ some b := fun b row' T' h1 h2 q => by
    rcases HOW8.out.2 with ⟨q1, _⟩ | ⟨g', cap, cur, q1, _, q2, _⟩
    · rw [q1] at q; cases q
    · rw [q1] at q
      cases q
      rw [show W8.heap[g']? = _ from h1] at q2
      injection q2 with q2
      injection q2 with _ q3 _
      exact h2 q3
  have n1 := Lib.hid (far _ _ _ hS8 (by decide))
  have n2 := Lib.hid (far _ _ _ hE8 (by decide))
  have n3 := Lib.hid (far _ _ _ hg8 (by decide))
  have n4 := Lib.hid (far _ _ _ hL8 (by decide))
  have n5 := Lib.hid (far _ _ _ hb8 (by decide))
  have FAR := Lib.hid far
  clear far
  go_region_law (refine step_append_i (by rfl) _ _ (by rfl) R.lo (T 1).length _ _ (by rfl) (by exact HOW8.out.alloc _) ⟨_, 0, none⟩ 1 1 [_] (by rfl) rfl (by exact one_newsI _ _ _) (by intro u hu; simp at hu; subst hu; rfl) (by first | omega | (show R.lo ≤ (W8.alloc _).heap.size; simp; omega)) (by first | omega | (show R.lo ≤ (W8.alloc _).heap.size; simp; omega)) ?_; intro v' w9 hown9 hgrow9 hob9; have hS9 := (hgrow9.block R.s (by show R.s < (W8.alloc _).heap.size; simp; omega) (fun q => n1.out q.symm)).trans (keep_alloc hS8 _); have hE9 := (hgrow9.block W.heap.size (by show _ < (W8.alloc _).heap.size; simp; omega) (fun q => n2.out q.symm)).trans (keep_alloc hE8 _); have hg9 := (hgrow9.block R.g (by show R.g < (W8.alloc _).heap.size; simp; omega) (fun q => n3.out q.symm)).trans (keep_alloc hg8 _); have c90 := (row_cells (show obj w9 W.heap.size = _ from hE9) 0).trans ((Env_0 e).trans (by rw [hf])); have c92 := (row_cells (show obj w9 W.heap.size = _ from hE9) 2).trans ((Env_2 e).trans (by rw [hsq])); have c91 := row_cells (show obj w9 R.g = _ from hg9) 2; have f9 := row_free (show obj w9 R.s = _ from hS9) 1; have c9 := (row_cells (show obj w9 R.s = _ from hS9) 1).trans HV.out; obtain ⟨va', vc', hvv'⟩ := owns_valI hown9; subst hvv')
  all_goals
    have hL9 : obj w9 (W.heap.size + 1) = some (.cells z52 52 (0, 0)) := (hgrow9.block (W.heap.size + 1) (by show _ < (W8.alloc _).heap.size; simp; omega) (fun q => n4.out q.symm)).trans (keep_alloc hL8 _)
    have hb9 : obj w9 lb = some (.cells LA 52 (0, 0)) := (hgrow9.block lb (by show lb < (W8.alloc _).heap.size; simp; omega) (fun q => n5.out q.symm)).trans (keep_alloc hb8 _)
    have hne1 : lb ≠ R.s := by omega
    have hne2 : W.heap.size + 1 ≠ R.s := by omega
    have hne3 : R.g ≠ R.s := fun q => by rw [q] at hg9; exact absurd (not_both (show obj w9 R.s = _ from hg9) hS9) (by decide)
    have hS9' : obj w9 R.s = some (.cells row 50 (0, 0)) := hS9
    have hg9' : obj w9 R.g = some (.cells #[.int .i64 0, .int .i64 3, .slice (some ⟨R.s, 0, none⟩) 3 c] 80 (0, 0)) := hg9
    have hbX := keep_setCell hb9 ⟨R.s, 1, none⟩ hne1 (.slice va' ((T 1).length + 1) vc')
    have hLX := keep_setCell hL9 ⟨R.s, 1, none⟩ hne2 (.slice va' ((T 1).length + 1) vc')
    have hgX := keep_setCell hg9' ⟨R.s, 1, none⟩ hne3 (.slice va' ((T 1).length + 1) vc')
    have hSX : obj (w9.setCell ⟨R.s, 1, none⟩ (.slice va' ((T 1).length + 1) vc')) R.s = some (.cells (row.setIfInBounds 1 (.slice va' ((T 1).length + 1) vc')) 50 (0, 0)) := by rw [obj_setCell_at, hS9']; rfl
    have hkeep : ∀ k, k < W.heap.size → k ≠ R.s → (Value.slice va (T 1).length vc).ownBlock ≠ some k → ((w9.setCell ⟨R.s, 1, none⟩ (.slice va' ((T 1).length + 1) vc')).setRow (W.heap.size + 1) LA).heap[k]? = W.heap[k]? := fun k hk h1 h2 => by
      have hk8 := hB8.size
      rw [setRow_other _ _ _ _ (by omega), heap_setCell_other _ _ _ _ h1, hgrow9.block k (by show k < (W8.alloc _).heap.size; simp; omega) (fun q => h2 q.symm)]
      exact (((Below.refl W8.heap.size W8).alloc (Nat.le_refl _) _).block k (by omega)).trans (hB8.block k hk)
    have hsz' : w9.heap.size ≥ W.heap.size := by
      have q1 := hgrow9.size
      have q2 := hB8.size
      have q3 : W8.heap.size ≤ (W8.alloc (.cells #[.int .i64 seq] 3 (0, 0))).drew.heap.size := by show _ ≤ (W8.alloc _).heap.size; simp
      exact Nat.le_trans q2 (Nat.le_trans q3 q1)
    repeat' (first | go_skip | go_guarded | go_step | go_upon)
    refine bodyPost_ret (results_row_tmp rfl _ _ (W.heap.size + 1) 52 LA _ _ (.int .i64 0) rfl (setRow_heap _ _ _ _ _ _ hLX) Tryz.underlying52 rfl (by rw [hsz]; kernel_rfl) rfl) rfl ?_
    refine ⟨by rw [hLA], rtook hlo (by omega) (HSS.out) HR.out HD.out HV.out ⟨c, keep_setRow hgX (by omega) LA⟩ (keep_setRow hSX (by omega) LA) ?_ hkeep ?_, ⟨hgrow9.os.trans hB8.os, hgrow9.tape.trans hB8.tape, hgrow9.output.trans hB8.output, by simpa using hsz', fun k hk hn => hkeep k hk (fun q => hn ⟨q ▸ hlo, row, _, _, q ▸ HSS.out, Or.inr rfl⟩) (fun q => ?_)⟩⟩
    · have e1 : iCells (T 1) ++ [.int .i64 seq] = iCells (T 1 ++ [seq]) := by simp [iCells]
      have e2 : (T 1).length + 1 = (T 1 ++ [seq]).length := by simp
      rw [e1, e2] at hown9
      rw [e2] at hSX ⊢
      refine ⟨hown9.1, ?_⟩
      rcases hown9.2 with q | ⟨g, cap, cur, q0, h1, h2, h3⟩
      · exact Or.inl q
      · refine Or.inr ⟨g, cap, cur, q0, h1, ?_, h3⟩
        rw [setRow_other _ _ _ _ (fun q => by subst q; exact absurd (not_both hL9 h2) (by decide)), heap_setCell_other _ _ _ _ (fun q => by subst q; exact absurd (not_both hS9' h2) (by decide))]
        exact h2
    · rcases hob9 with q | q
      · exact Or.inl q
      · refine Or.inr ⟨_, q, ?_⟩
        have := hB8.size
        show W.heap.size ≤ (W8.alloc _).heap.size
        simp; omega
    · obtain ⟨cur, q2⟩ := owns_block HOW.out q
      exact hn ⟨owns_baseI HOW.out q, cur, _, _, q2, Or.inl rfl⟩
theorem rtake_old2 (W : World) (R : RB) (gv : Value) (T : Nat → List Int) (h : RGateP W R gv T) (hlen : (T 2).length < 100000) (ka : Option Addr) (kc : Nat) (e : Env) (hs : e.seal32.length = 32) (hd : e.dst = 0) (Lt : List Value) (hLt : Lt.length = 62) (hLo : ones Lt.toArray = true) (hf : e.frm = 2) (seq : Int) (hsq : e.seq = seq) (hq : 1 ≤ seq ∧ seq ≤ 1000000) (hm : seq ∈ T 2)
    (HO : ∀ w0, Below W.heap.size W w0 → Calls Tryz.prog 27 #[.slice ka 3 kc, .agg e.row] w0 fun r w' => r = .returned (.tuple #[.agg Lt.toArray, .int .i64 0]) ∧ Below w0.heap.size w0 w') :
    Calls Tryz.prog 12 #[gv, .slice ka 3 kc, .agg e.row] W fun r w' => r = .returned (.tuple #[.agg CE.V.zerL.toArray, .int .i64 9]) ∧ Below W.heap.size W w' := by
  have HO' := Lib.hid HO
  clear HO
  have hgv := h.v
  have hlo := h.lo
  subst hgv
  have HG : Hid (∀ w, Below W.heap.size W w → Calls Tryz.prog 15 #[.pointer (some ⟨R.g, 0, none⟩), .int .i64 2] w fun e w' => e = .returned (.int .i64 (mostL (T 2))) ∧ w' = w) := Lib.hid fun w hB => rgst_calls w R _ T (h.below hB) 2 (fun _ => (by show (T 2).length < 1000000; omega))
  obtain ⟨c, hg⟩ := h.g
  obtain ⟨row, hS, hrow, hdist⟩ := h.s
  obtain ⟨v, hv, hown⟩ := hrow 2 (by omega)
  have hr := Env_size e hs
  have hall := Env_all e hs
  have hg1 := keep_alloc (keep_alloc hg (.cells e.row 36 (0, 0))) (.cells z52 52 (0, 0))
  have c0 := row_cells hg1 0
  have c1 := row_cells hg1 1
  have hE := keep_alloc (obj_alloc_at W (.cells e.row 36 (0, 0)) _ rfl) (.cells z52 52 (0, 0))
  have c2 := (row_cells hE 1).trans (Env_1 e)
  have hB0 : ∀ nq, Below W.heap.size W (((W.alloc (.cells e.row 36 (0, 0))).alloc (.cells z52 52 (0, 0))).drewN nq) := fun nq => by
    have := ((Below.refl W.heap.size W).alloc (Nat.le_refl _) (.cells e.row 36 (0, 0))).alloc (by simp) (.cells z52 52 (0, 0))
    exact ⟨this.os, this.tape, this.output, this.size, this.block⟩
  have hL0 : obj ((W.alloc (.cells e.row 36 (0, 0))).alloc (.cells z52 52 (0, 0))) (W.heap.size + 1) = some (.cells z52 52 (0, 0)) := obj_alloc_at _ _ _ (by simp)
  have HH := Lib.hid h
  have HSS := Lib.hid hS
  have HV := Lib.hid hv
  have HOW := Lib.hid hown
  have HD := Lib.hid hdist
  have HR := Lib.hid hrow
  clear h hv hown hdist hrow
  go_enter Tryz.func12, Tryz.ntmps12
  repeat' (first | go_skip | go_guarded | go_step | go_upon)
  go_quiet (fail)
  have hB : Below W.heap.size W (((W.alloc (.cells e.row 36 (0, 0))).alloc (.cells z52 52 (0, 0))).drewN nq) := hB0 nq
  have hL : obj (((W.alloc (.cells e.row 36 (0, 0))).alloc (.cells z52 52 (0, 0))).drewN nq) (W.heap.size + 1) = some (.cells z52 52 (0, 0)) := hL0
  have hE2 : obj (((W.alloc (.cells e.row 36 (0, 0))).alloc (.cells z52 52 (0, 0))).drewN nq) W.heap.size = some (.cells e.row 36 (0, 0)) := hE
  generalize (((W.alloc (.cells e.row 36 (0, 0))).alloc (.cells z52 52 (0, 0))).drewN nq) = W2 at *
  have hLl := row_lt hL
  have hsz : Lt.toArray.size = 62 := by simpa using hLt
  have hLe : Lt.toArray.extract 0 62 = Lt.toArray := extract_all _ 62 hsz
  generalize hLA : Lt.toArray = LA at *
  have hSl := row_lt hS
  have hgl := row_lt hg
  have hEl := row_lt hE2
  repeat' (first | (go_at_call 27; ((with_reducible refine (HO'.out _ hB).mono ?_)); rintro r w3 ⟨rfl, hB3⟩; have hL3 := keep_alloc (keep_below hL hB3 hLl) (.cells LA 52 (0, 0)); dsimp only) | go_skip | go_guarded | go_step | go_upon)
  have hB4 : Below W2.heap.size W2 (w3.alloc (.cells LA 52 (0, 0))) := hB3.alloc hB3.size _
  have hb4 : obj (w3.alloc (.cells LA 52 (0, 0))) w3.heap.size = some (.cells LA 52 (0, 0)) := obj_alloc_at _ _ _ rfl
  have hlb : W2.heap.size ≤ w3.heap.size := hB3.size
  generalize w3.alloc (.cells LA 52 (0, 0)) = W4 at *
  generalize w3.heap.size = lb at *
  have hL4 := keep_below hL hB4 hLl
  have hB5 := hB.trans (hB4.mono hB.size)
  have hg4 := keep_below hg hB5 hgl
  have hS4 := keep_below hS hB5 hSl
  have hE4 := keep_below hE2 hB4 hEl
  have hown4 : W4.ownsRow R.lo 3 1 v (T 2).length (iCells (T 2)) := owns_belowI HOW.out hB5 (fun g hg => by
    rcases HOW.out.2 with ⟨q, _⟩ | ⟨g', cap, cur, q, _, q2, _⟩
    · rw [q] at hg; cases hg
    · rw [q] at hg; cases hg; exact (Array.getElem?_eq_some_iff.1 q2).1)
  have hI4 := hasI_owns hown4
  have HI := Lib.hid hI4
  have HOW4 := Lib.hid hown4
  clear hI4 hown4
  clear hL hg hS hE hE2 hB hB0 hL0 c0 c1 c2 hg1 hB3 hB4 hL3
  have c0 := (row_cells hE4 0).trans ((Env_0 e).trans (by rw [hf]))
  have c2 := (row_cells hE4 2).trans ((Env_2 e).trans (by rw [hsq]))
  have c1 := row_cells hg4 2
  have c3 := (row_cells hS4 2).trans HV.out
  obtain ⟨va, vc, hvv⟩ := owns_valI HOW4.out
  subst hvv
  have hc : (T 2).contains seq = true := by simpa using hm
  have HC : Hid (∀ n, Calls Tryz.prog 28 #[.slice va (T 2).length vc, .int .i64 seq] (W4.drewN n) fun e w' => e = .returned (.bool true) ∧ w' = W4.drewN n) := Lib.hid fun n => by
    have := has_calls _ (T 2) seq (W4.drewN n) HI.out (by omega)
    rw [hc] at this
    exact this
  clear hc
  repeat' (first | go_skip | go_guarded | go_step | go_upon)
  go_quiet ((go_at_call 28; exact Calls.quiet_of_same (HC.out _)))
  have hB6 : Below W.heap.size W (W4.drewN nq) := ⟨hB5.os, hB5.tape, hB5.output, hB5.size, hB5.block⟩
  have hL6 : obj (W4.drewN nq) (W.heap.size + 1) = some (.cells z52 52 (0, 0)) := hL4
  have hE6 : obj (W4.drewN nq) W.heap.size = some (.cells e.row 36 (0, 0)) := hE4
  have hg6 : obj (W4.drewN nq) R.g = _ := hg4
  have hS6 : obj (W4.drewN nq) R.s = _ := hS4
  have hb6 : obj (W4.drewN nq) lb = _ := hb4
  have HOW6 : Hid ((W4.drewN nq).ownsRow R.lo 3 1 _ (T 2).length (iCells (T 2))) := HOW4
  clear hB5 hL4 hE4 hg4 hS4 hb4 HOW4 HI c0 c1 c2 c3
  generalize W4.drewN nq = W6 at *
  repeat' (first | go_skip | go_guarded | go_step | go_upon)
  refine bodyPost_ret (results_row_tmp rfl _ _ (W.heap.size + 1) 52 CE.V.zerL.toArray _ _ (.int .i64 9) rfl (setRow_heap _ _ _ _ _ _ hL6) Tryz.underlying52 rfl (by kernel_rfl) rfl) rfl ?_
  exact ⟨rfl, below_setRow hB6 (by omega) _⟩
theorem rtake_big2 (W : World) (R : RB) (gv : Value) (T : Nat → List Int) (h : RGateP W R gv T) (hlen : (T 2).length < 100000) (ka : Option Addr) (kc : Nat) (e : Env) (hs : e.seal32.length = 32) (hd : e.dst = 0) (Lt : List Value) (hLt : Lt.length = 62) (hLo : ones Lt.toArray = true) (hf : e.frm = 2) (seq : Int) (hsq : e.seq = seq) (hq : 1 ≤ seq ∧ seq ≤ 1000000) (hm : seq ∉ T 2) (hb : mostL (T 2) + 1024 < seq)
    (HO : ∀ w0, Below W.heap.size W w0 → Calls Tryz.prog 27 #[.slice ka 3 kc, .agg e.row] w0 fun r w' => r = .returned (.tuple #[.agg Lt.toArray, .int .i64 0]) ∧ Below w0.heap.size w0 w') :
    Calls Tryz.prog 12 #[gv, .slice ka 3 kc, .agg e.row] W fun r w' => r = .returned (.tuple #[.agg CE.V.zerL.toArray, .int .i64 2]) ∧ Below W.heap.size W w' := by
  have HO' := Lib.hid HO
  clear HO
  have hgv := h.v
  have hlo := h.lo
  subst hgv
  have HG : Hid (∀ w, Below W.heap.size W w → Calls Tryz.prog 15 #[.pointer (some ⟨R.g, 0, none⟩), .int .i64 2] w fun e w' => e = .returned (.int .i64 (mostL (T 2))) ∧ w' = w) := Lib.hid fun w hB => rgst_calls w R _ T (h.below hB) 2 (fun _ => (by show (T 2).length < 1000000; omega))
  obtain ⟨c, hg⟩ := h.g
  obtain ⟨row, hS, hrow, hdist⟩ := h.s
  obtain ⟨v, hv, hown⟩ := hrow 2 (by omega)
  have hr := Env_size e hs
  have hall := Env_all e hs
  have hg1 := keep_alloc (keep_alloc hg (.cells e.row 36 (0, 0))) (.cells z52 52 (0, 0))
  have c0 := row_cells hg1 0
  have c1 := row_cells hg1 1
  have hE := keep_alloc (obj_alloc_at W (.cells e.row 36 (0, 0)) _ rfl) (.cells z52 52 (0, 0))
  have c2 := (row_cells hE 1).trans (Env_1 e)
  have hB0 : ∀ nq, Below W.heap.size W (((W.alloc (.cells e.row 36 (0, 0))).alloc (.cells z52 52 (0, 0))).drewN nq) := fun nq => by
    have := ((Below.refl W.heap.size W).alloc (Nat.le_refl _) (.cells e.row 36 (0, 0))).alloc (by simp) (.cells z52 52 (0, 0))
    exact ⟨this.os, this.tape, this.output, this.size, this.block⟩
  have hL0 : obj ((W.alloc (.cells e.row 36 (0, 0))).alloc (.cells z52 52 (0, 0))) (W.heap.size + 1) = some (.cells z52 52 (0, 0)) := obj_alloc_at _ _ _ (by simp)
  have HH := Lib.hid h
  have HSS := Lib.hid hS
  have HV := Lib.hid hv
  have HOW := Lib.hid hown
  have HD := Lib.hid hdist
  have HR := Lib.hid hrow
  clear h hv hown hdist hrow
  go_enter Tryz.func12, Tryz.ntmps12
  repeat' (first | go_skip | go_guarded | go_step | go_upon)
  go_quiet (fail)
  have hB : Below W.heap.size W (((W.alloc (.cells e.row 36 (0, 0))).alloc (.cells z52 52 (0, 0))).drewN nq) := hB0 nq
  have hL : obj (((W.alloc (.cells e.row 36 (0, 0))).alloc (.cells z52 52 (0, 0))).drewN nq) (W.heap.size + 1) = some (.cells z52 52 (0, 0)) := hL0
  have hE2 : obj (((W.alloc (.cells e.row 36 (0, 0))).alloc (.cells z52 52 (0, 0))).drewN nq) W.heap.size = some (.cells e.row 36 (0, 0)) := hE
  generalize (((W.alloc (.cells e.row 36 (0, 0))).alloc (.cells z52 52 (0, 0))).drewN nq) = W2 at *
  have hLl := row_lt hL
  have hsz : Lt.toArray.size = 62 := by simpa using hLt
  have hLe : Lt.toArray.extract 0 62 = Lt.toArray := extract_all _ 62 hsz
  generalize hLA : Lt.toArray = LA at *
  have hSl := row_lt hS
  have hgl := row_lt hg
  have hEl := row_lt hE2
  repeat' (first | (go_at_call 27; ((with_reducible refine (HO'.out _ hB).mono ?_)); rintro r w3 ⟨rfl, hB3⟩; have hL3 := keep_alloc (keep_below hL hB3 hLl) (.cells LA 52 (0, 0)); dsimp only) | go_skip | go_guarded | go_step | go_upon)
  have hB4 : Below W2.heap.size W2 (w3.alloc (.cells LA 52 (0, 0))) := hB3.alloc hB3.size _
  have hb4 : obj (w3.alloc (.cells LA 52 (0, 0))) w3.heap.size = some (.cells LA 52 (0, 0)) := obj_alloc_at _ _ _ rfl
  have hlb : W2.heap.size ≤ w3.heap.size := hB3.size
  generalize w3.alloc (.cells LA 52 (0, 0)) = W4 at *
  generalize w3.heap.size = lb at *
  have hL4 := keep_below hL hB4 hLl
  have hB5 := hB.trans (hB4.mono hB.size)
  have hg4 := keep_below hg hB5 hgl
  have hS4 := keep_below hS hB5 hSl
  have hE4 := keep_below hE2 hB4 hEl
  have hown4 : W4.ownsRow R.lo 3 1 v (T 2).length (iCells (T 2)) := owns_belowI HOW.out hB5 (fun g hg => by
    rcases HOW.out.2 with ⟨q, _⟩ | ⟨g', cap, cur, q, _, q2, _⟩
    · rw [q] at hg; cases hg
    · rw [q] at hg; cases hg; exact (Array.getElem?_eq_some_iff.1 q2).1)
  have hI4 := hasI_owns hown4
  have HI := Lib.hid hI4
  have HOW4 := Lib.hid hown4
  clear hI4 hown4
  clear hL hg hS hE hE2 hB hB0 hL0 c0 c1 c2 hg1 hB3 hB4 hL3
  have c0 := (row_cells hE4 0).trans ((Env_0 e).trans (by rw [hf]))
  have c2 := (row_cells hE4 2).trans ((Env_2 e).trans (by rw [hsq]))
  have c1 := row_cells hg4 2
  have c3 := (row_cells hS4 2).trans HV.out
  obtain ⟨va, vc, hvv⟩ := owns_valI HOW4.out
  subst hvv
  have hc : (T 2).contains seq = false := by simpa using hm
  have HC : Hid (∀ n, Calls Tryz.prog 28 #[.slice va (T 2).length vc, .int .i64 seq] (W4.drewN n) fun e w' => e = .returned (.bool false) ∧ w' = W4.drewN n) := Lib.hid fun n => by
    have := has_calls _ (T 2) seq (W4.drewN n) HI.out (by omega)
    rw [hc] at this
    exact this
  clear hc
  repeat' (first | go_skip | go_guarded | go_step | go_upon)
  go_quiet ((go_at_call 28; exact Calls.quiet_of_same (HC.out _)))
  have hB6 : Below W.heap.size W (W4.drewN nq) := ⟨hB5.os, hB5.tape, hB5.output, hB5.size, hB5.block⟩
  have hL6 : obj (W4.drewN nq) (W.heap.size + 1) = some (.cells z52 52 (0, 0)) := hL4
  have hE6 : obj (W4.drewN nq) W.heap.size = some (.cells e.row 36 (0, 0)) := hE4
  have hg6 : obj (W4.drewN nq) R.g = _ := hg4
  have hS6 : obj (W4.drewN nq) R.s = _ := hS4
  have hb6 : obj (W4.drewN nq) lb = _ := hb4
  have HOW6 : Hid ((W4.drewN nq).ownsRow R.lo 3 1 _ (T 2).length (iCells (T 2))) := HOW4
  clear hB5 hL4 hE4 hg4 hS4 hb4 HOW4 HI c0 c1 c2 c3
  generalize W4.drewN nq = W6 at *
  have c0 := (row_cells hE6 0).trans ((Env_0 e).trans (by rw [hf]))
  have c2 := (row_cells hE6 2).trans ((Env_2 e).trans (by rw [hsq]))
  have c1 := row_cells hg6 2
  have c3 := (row_cells hS6 2).trans HV.out
  have hb' : seq > mostL (T 2) + 1024 := hb
  have hm0 := mostL_nonneg (T 2)
  have hB6n : ∀ n, Below W.heap.size W (W6.drewN n) := fun n => ⟨hB6.os, hB6.tape, hB6.output, hB6.size, hB6.block⟩
  have HBn := Lib.hid hB6n
  clear hB6n
  repeat' (first | go_skip | go_guarded | go_step | go_upon)
  go_quiet ((go_at_call 15; exact Calls.quiet_of_same (HG.out _ (HBn.out _))))
  have hB7 : Below W.heap.size W (W6.drewN nq) := HBn.out _
  have hL7 : obj (W6.drewN nq) (W.heap.size + 1) = some (.cells z52 52 (0, 0)) := hL6
  generalize W6.drewN nq = W7 at *
  repeat' (first | go_skip | go_guarded | go_step | go_upon)
  refine bodyPost_ret (results_row_tmp rfl _ _ (W.heap.size + 1) 52 CE.V.zerL.toArray _ _ (.int .i64 2) rfl (setRow_heap _ _ _ _ _ _ hL7) Tryz.underlying52 rfl (by kernel_rfl) rfl) rfl ?_
  exact ⟨rfl, below_setRow hB7 (by omega) _⟩
theorem rtake_ok2 (W : World) (R : RB) (gv : Value) (T : Nat → List Int) (h : RGateP W R gv T) (hlen : (T 2).length < 100000) (ka : Option Addr) (kc : Nat) (e : Env) (hs : e.seal32.length = 32) (hd : e.dst = 0) (Lt : List Value) (hLt : Lt.length = 62) (hLo : ones Lt.toArray = true) (hf : e.frm = 2) (seq : Int) (hsq : e.seq = seq) (hq : 1 ≤ seq ∧ seq ≤ 1000000) (hm : seq ∉ T 2) (hb : seq ≤ mostL (T 2) + 1024) (hmm : mostL (T 2) ≤ 1000000)
    (HO : ∀ w0, Below W.heap.size W w0 → Calls Tryz.prog 27 #[.slice ka 3 kc, .agg e.row] w0 fun r w' => r = .returned (.tuple #[.agg Lt.toArray, .int .i64 0]) ∧ Below w0.heap.size w0 w') :
    Calls Tryz.prog 12 #[gv, .slice ka 3 kc, .agg e.row] W fun r w' => r = .returned (.tuple #[.agg Lt.toArray, .int .i64 0]) ∧ RGateP w' R gv (fun i => if i = 2 then T 2 ++ [seq] else T i) ∧ BelX W.heap.size (IntB W R.lo) W w' := by
  have HO' := Lib.hid HO
  clear HO
  have hgv := h.v
  have hlo := h.lo
  subst hgv
  have HG : Hid (∀ w, Below W.heap.size W w → Calls Tryz.prog 15 #[.pointer (some ⟨R.g, 0, none⟩), .int .i64 2] w fun e w' => e = .returned (.int .i64 (mostL (T 2))) ∧ w' = w) := Lib.hid fun w hB => rgst_calls w R _ T (h.below hB) 2 (fun _ => (by show (T 2).length < 1000000; omega))
  obtain ⟨c, hg⟩ := h.g
  obtain ⟨row, hS, hrow, hdist⟩ := h.s
  obtain ⟨v, hv, hown⟩ := hrow 2 (by omega)
  have hr := Env_size e hs
  have hall := Env_all e hs
  have hg1 := keep_alloc (keep_alloc hg (.cells e.row 36 (0, 0))) (.cells z52 52 (0, 0))
  have c0 := row_cells hg1 0
  have c1 := row_cells hg1 1
  have hE := keep_alloc (obj_alloc_at W (.cells e.row 36 (0, 0)) _ rfl) (.cells z52 52 (0, 0))
  have c2 := (row_cells hE 1).trans (Env_1 e)
  have hB0 : ∀ nq, Below W.heap.size W (((W.alloc (.cells e.row 36 (0, 0))).alloc (.cells z52 52 (0, 0))).drewN nq) := fun nq => by
    have := ((Below.refl W.heap.size W).alloc (Nat.le_refl _) (.cells e.row 36 (0, 0))).alloc (by simp) (.cells z52 52 (0, 0))
    exact ⟨this.os, this.tape, this.output, this.size, this.block⟩
  have hL0 : obj ((W.alloc (.cells e.row 36 (0, 0))).alloc (.cells z52 52 (0, 0))) (W.heap.size + 1) = some (.cells z52 52 (0, 0)) := obj_alloc_at _ _ _ (by simp)
  have HH := Lib.hid h
  have HSS := Lib.hid hS
  have HV := Lib.hid hv
  have HOW := Lib.hid hown
  have HD := Lib.hid hdist
  have HR := Lib.hid hrow
  clear h hv hown hdist hrow
  go_enter Tryz.func12, Tryz.ntmps12
  repeat' (first | go_skip | go_guarded | go_step | go_upon)
  go_quiet (fail)
  have hB : Below W.heap.size W (((W.alloc (.cells e.row 36 (0, 0))).alloc (.cells z52 52 (0, 0))).drewN nq) := hB0 nq
  have hL : obj (((W.alloc (.cells e.row 36 (0, 0))).alloc (.cells z52 52 (0, 0))).drewN nq) (W.heap.size + 1) = some (.cells z52 52 (0, 0)) := hL0
  have hE2 : obj (((W.alloc (.cells e.row 36 (0, 0))).alloc (.cells z52 52 (0, 0))).drewN nq) W.heap.size = some (.cells e.row 36 (0, 0)) := hE
  generalize (((W.alloc (.cells e.row 36 (0, 0))).alloc (.cells z52 52 (0, 0))).drewN nq) = W2 at *
  have hLl := row_lt hL
  have hsz : Lt.toArray.size = 62 := by simpa using hLt
  have hLe : Lt.toArray.extract 0 62 = Lt.toArray := extract_all _ 62 hsz
  generalize hLA : Lt.toArray = LA at *
  have hSl := row_lt hS
  have hgl := row_lt hg
  have hEl := row_lt hE2
  repeat' (first | (go_at_call 27; ((with_reducible refine (HO'.out _ hB).mono ?_)); rintro r w3 ⟨rfl, hB3⟩; have hL3 := keep_alloc (keep_below hL hB3 hLl) (.cells LA 52 (0, 0)); dsimp only) | go_skip | go_guarded | go_step | go_upon)
  have hB4 : Below W2.heap.size W2 (w3.alloc (.cells LA 52 (0, 0))) := hB3.alloc hB3.size _
  have hb4 : obj (w3.alloc (.cells LA 52 (0, 0))) w3.heap.size = some (.cells LA 52 (0, 0)) := obj_alloc_at _ _ _ rfl
  have hlb : W2.heap.size ≤ w3.heap.size := hB3.size
  generalize w3.alloc (.cells LA 52 (0, 0)) = W4 at *
  generalize w3.heap.size = lb at *
  have hL4 := keep_below hL hB4 hLl
  have hB5 := hB.trans (hB4.mono hB.size)
  have hg4 := keep_below hg hB5 hgl
  have hS4 := keep_below hS hB5 hSl
  have hE4 := keep_below hE2 hB4 hEl
  have hown4 : W4.ownsRow R.lo 3 1 v (T 2).length (iCells (T 2)) := owns_belowI HOW.out hB5 (fun g hg => by
    rcases HOW.out.2 with ⟨q, _⟩ | ⟨g', cap, cur, q, _, q2, _⟩
    · rw [q] at hg; cases hg
    · rw [q] at hg; cases hg; exact (Array.getElem?_eq_some_iff.1 q2).1)
  have hI4 := hasI_owns hown4
  have HI := Lib.hid hI4
  have HOW4 := Lib.hid hown4
  clear hI4 hown4
  clear hL hg hS hE hE2 hB hB0 hL0 c0 c1 c2 hg1 hB3 hB4 hL3
  have c0 := (row_cells hE4 0).trans ((Env_0 e).trans (by rw [hf]))
  have c2 := (row_cells hE4 2).trans ((Env_2 e).trans (by rw [hsq]))
  have c1 := row_cells hg4 2
  have c3 := (row_cells hS4 2).trans HV.out
  obtain ⟨va, vc, hvv⟩ := owns_valI HOW4.out
  subst hvv
  have hc : (T 2).contains seq = false := by simpa using hm
  have HC : Hid (∀ n, Calls Tryz.prog 28 #[.slice va (T 2).length vc, .int .i64 seq] (W4.drewN n) fun e w' => e = .returned (.bool false) ∧ w' = W4.drewN n) := Lib.hid fun n => by
    have := has_calls _ (T 2) seq (W4.drewN n) HI.out (by omega)
    rw [hc] at this
    exact this
  clear hc
  repeat' (first | go_skip | go_guarded | go_step | go_upon)
  go_quiet ((go_at_call 28; exact Calls.quiet_of_same (HC.out _)))
  have hB6 : Below W.heap.size W (W4.drewN nq) := ⟨hB5.os, hB5.tape, hB5.output, hB5.size, hB5.block⟩
  have hL6 : obj (W4.drewN nq) (W.heap.size + 1) = some (.cells z52 52 (0, 0)) := hL4
  have hE6 : obj (W4.drewN nq) W.heap.size = some (.cells e.row 36 (0, 0)) := hE4
  have hg6 : obj (W4.drewN nq) R.g = _ := hg4
  have hS6 : obj (W4.drewN nq) R.s = _ := hS4
  have hb6 : obj (W4.drewN nq) lb = _ := hb4
  have HOW6 : Hid ((W4.drewN nq).ownsRow R.lo 3 1 _ (T 2).length (iCells (T 2))) := HOW4
  clear hB5 hL4 hE4 hg4 hS4 hb4 HOW4 HI c0 c1 c2 c3
  generalize W4.drewN nq = W6 at *
  have c0 := (row_cells hE6 0).trans ((Env_0 e).trans (by rw [hf]))
  have c2 := (row_cells hE6 2).trans ((Env_2 e).trans (by rw [hsq]))
  have c1 := row_cells hg6 2
  have c3 := (row_cells hS6 2).trans HV.out
  have hb' : ¬ (seq > mostL (T 2) + 1024) := by omega
  have hm0 := mostL_nonneg (T 2)
  have hB6n : ∀ n, Below W.heap.size W (W6.drewN n) := fun n => ⟨hB6.os, hB6.tape, hB6.output, hB6.size, hB6.block⟩
  have HBn := Lib.hid hB6n
  clear hB6n
  repeat' (first | go_skip | go_guarded | go_step | go_upon)
  go_quiet ((go_at_call 15; exact Calls.quiet_of_same (HG.out _ (HBn.out _))))
  clear HBn
  have hB7 : Below W.heap.size W (W6.drewN nq) := ⟨hB6.os, hB6.tape, hB6.output, hB6.size, hB6.block⟩
  have hL7 : obj (W6.drewN nq) (W.heap.size + 1) = some (.cells z52 52 (0, 0)) := hL6
  have hE7 : obj (W6.drewN nq) W.heap.size = some (.cells e.row 36 (0, 0)) := hE6
  have hg7 : obj (W6.drewN nq) R.g = _ := hg6
  have hS7 : obj (W6.drewN nq) R.s = _ := hS6
  have hb7 : obj (W6.drewN nq) lb = _ := hb6
  have HOW7 : Hid ((W6.drewN nq).ownsRow R.lo 3 1 _ (T 2).length (iCells (T 2))) := HOW6
  clear hB6 hL6 hE6 hg6 hS6 hb6 HOW6 c0 c1 c2 c3
  generalize W6.drewN nq = W7 at *
  have c0 := (row_cells hE7 0).trans ((Env_0 e).trans (by rw [hf]))
  have c2 := (row_cells hE7 2).trans ((Env_2 e).trans (by rw [hsq]))
  have c1 := row_cells hg7 2
  have c3 := (row_cells hS7 2).trans HV.out
  repeat' (first | go_skip | go_guarded | go_step | go_upon)
  go_quiet (fail)
  have hB8 : Below W.heap.size W (W7.drewN nq) := ⟨hB7.os, hB7.tape, hB7.output, hB7.size, hB7.block⟩
  have hL8 : obj (W7.drewN nq) (W.heap.size + 1) = some (.cells z52 52 (0, 0)) := hL7
  have hE8 : obj (W7.drewN nq) W.heap.size = some (.cells e.row 36 (0, 0)) := hE7
  have hg8 : obj (W7.drewN nq) R.g = _ := hg7
  have hS8 : obj (W7.drewN nq) R.s = _ := hS7
  have hb8 : obj (W7.drewN nq) lb = _ := hb7
  have HOW8 : Hid ((W7.drewN nq).ownsRow R.lo 3 1 _ (T 2).length (iCells (T 2))) := HOW7
  clear hB7 hL7 hE7 hg7 hS7 hb7 HOW7 c0 c1 c2 c3
  generalize W7.drewN nq = W8 at *
  have c0 := (row_cells hE8 0).trans ((Env_0 e).trans (by rw [hf]))
  have c2 := (row_cells hE8 2).trans ((Env_2 e).trans (by rw [hsq]))
  have c1 := row_cells hg8 2
  have c3 := (row_cells hS8 2).trans HV.out
  have hSl8 := row_lt hS8
  have hgl8 := row_lt hg8
  have hbl8 := row_lt hb8
  have hLl8 := row_lt hL8
  have hEl8 := row_lt hE8
  repeat' (first | go_skip | go_guarded | go_step | go_upon)
  have far : ∀ b row' T', obj W8 b = some (.cells row' T' (0, 0)) → T' ≠ 3 → (Value.slice va (T 2).length vc).ownBlock ≠ some b := fun b row' T' h1 h2 q => by
    rcases HOW8.out.2 with ⟨q1, _⟩ | ⟨g', cap, cur, q1, _, q2, _⟩
    · rw [q1] at q; cases q
    · rw [q1] at q
      cases q
      rw [show W8.heap[g']? = _ from h1] at q2
      injection q2 with q2
      injection q2 with _ q3 _
      exact h2 q3
  have n1 := Lib.hid (far _ _ _ hS8 (by decide))
  have n2 := Lib.hid (far _ _ _ hE8 (by decide))
  have n3 := Lib.hid (far _ _ _ hg8 (by decide))
  have n4 := Lib.hid (far _ _ _ hL8 (by decide))
  have n5 := Lib.hid (far _ _ _ hb8 (by decide))
  have FAR := Lib.hid far
  clear far
  go_region_law (refine step_append_i (by rfl) _ _ (by rfl) R.lo (T 2).length _ _ (by rfl) (by exact HOW8.out.alloc _) ⟨_, 0, none⟩ 1 1 [_] (by rfl) rfl (by exact one_newsI _ _ _) (by intro u hu; simp at hu; subst hu; rfl) (by first | omega | (show R.lo ≤ (W8.alloc _).heap.size; simp; omega)) (by first | omega | (show R.lo ≤ (W8.alloc _).heap.size; simp; omega)) ?_; intro v' w9 hown9 hgrow9 hob9; have hS9 := (hgrow9.block R.s (by show R.s < (W8.alloc _).heap.size; simp; omega) (fun q => n1.out q.symm)).trans (keep_alloc hS8 _); have hE9 := (hgrow9.block W.heap.size (by show _ < (W8.alloc _).heap.size; simp; omega) (fun q => n2.out q.symm)).trans (keep_alloc hE8 _); have hg9 := (hgrow9.block R.g (by show R.g < (W8.alloc _).heap.size; simp; omega) (fun q => n3.out q.symm)).trans (keep_alloc hg8 _); have c90 := (row_cells (show obj w9 W.heap.size = _ from hE9) 0).trans ((Env_0 e).trans (by rw [hf])); have c92 := (row_cells (show obj w9 W.heap.size = _ from hE9) 2).trans ((Env_2 e).trans (by rw [hsq])); have c91 := row_cells (show obj w9 R.g = _ from hg9) 2; have f9 := row_free (show obj w9 R.s = _ from hS9) 2; have c9 := (row_cells (show obj w9 R.s = _ from hS9) 2).trans HV.out; obtain ⟨va', vc', hvv'⟩ := owns_valI hown9; subst hvv')
  all_goals
    have hL9 : obj w9 (W.heap.size + 1) = some (.cells z52 52 (0, 0)) := (hgrow9.block (W.heap.size + 1) (by show _ < (W8.alloc _).heap.size; simp; omega) (fun q => n4.out q.symm)).trans (keep_alloc hL8 _)
    have hb9 : obj w9 lb = some (.cells LA 52 (0, 0)) := (hgrow9.block lb (by show lb < (W8.alloc _).heap.size; simp; omega) (fun q => n5.out q.symm)).trans (keep_alloc hb8 _)
    have hne1 : lb ≠ R.s := by omega
    have hne2 : W.heap.size + 1 ≠ R.s := by omega
    have hne3 : R.g ≠ R.s := fun q => by rw [q] at hg9; exact absurd (not_both (show obj w9 R.s = _ from hg9) hS9) (by decide)
    have hS9' : obj w9 R.s = some (.cells row 50 (0, 0)) := hS9
    have hg9' : obj w9 R.g = some (.cells #[.int .i64 0, .int .i64 3, .slice (some ⟨R.s, 0, none⟩) 3 c] 80 (0, 0)) := hg9
    have hbX := keep_setCell hb9 ⟨R.s, 2, none⟩ hne1 (.slice va' ((T 2).length + 1) vc')
    have hLX := keep_setCell hL9 ⟨R.s, 2, none⟩ hne2 (.slice va' ((T 2).length + 1) vc')
    have hgX := keep_setCell hg9' ⟨R.s, 2, none⟩ hne3 (.slice va' ((T 2).length + 1) vc')
    have hSX : obj (w9.setCell ⟨R.s, 2, none⟩ (.slice va' ((T 2).length + 1) vc')) R.s = some (.cells (row.setIfInBounds 2 (.slice va' ((T 2).length + 1) vc')) 50 (0, 0)) := by rw [obj_setCell_at, hS9']; rfl
    have hkeep : ∀ k, k < W.heap.size → k ≠ R.s → (Value.slice va (T 2).length vc).ownBlock ≠ some k → ((w9.setCell ⟨R.s, 2, none⟩ (.slice va' ((T 2).length + 1) vc')).setRow (W.heap.size + 1) LA).heap[k]? = W.heap[k]? := fun k hk h1 h2 => by
      have hk8 := hB8.size
      rw [setRow_other _ _ _ _ (by omega), heap_setCell_other _ _ _ _ h1, hgrow9.block k (by show k < (W8.alloc _).heap.size; simp; omega) (fun q => h2 q.symm)]
      exact (((Below.refl W8.heap.size W8).alloc (Nat.le_refl _) _).block k (by omega)).trans (hB8.block k hk)
    have hsz' : w9.heap.size ≥ W.heap.size := by
      have q1 := hgrow9.size
      have q2 := hB8.size
      have q3 : W8.heap.size ≤ (W8.alloc (.cells #[.int .i64 seq] 3 (0, 0))).drew.heap.size := by show _ ≤ (W8.alloc _).heap.size; simp
      exact Nat.le_trans q2 (Nat.le_trans q3 q1)
    repeat' (first | go_skip | go_guarded | go_step | go_upon)
    refine bodyPost_ret (results_row_tmp rfl _ _ (W.heap.size + 1) 52 LA _ _ (.int .i64 0) rfl (setRow_heap _ _ _ _ _ _ hLX) Tryz.underlying52 rfl (by rw [hsz]; kernel_rfl) rfl) rfl ?_
    refine ⟨by rw [hLA], rtook hlo (by omega) (HSS.out) HR.out HD.out HV.out ⟨c, keep_setRow hgX (by omega) LA⟩ (keep_setRow hSX (by omega) LA) ?_ hkeep ?_, ⟨hgrow9.os.trans hB8.os, hgrow9.tape.trans hB8.tape, hgrow9.output.trans hB8.output, by simpa using hsz', fun k hk hn => hkeep k hk (fun q => hn ⟨q ▸ hlo, row, _, _, q ▸ HSS.out, Or.inr rfl⟩) (fun q => ?_)⟩⟩
    · have e1 : iCells (T 2) ++ [.int .i64 seq] = iCells (T 2 ++ [seq]) := by simp [iCells]
      have e2 : (T 2).length + 1 = (T 2 ++ [seq]).length := by simp
      rw [e1, e2] at hown9
      rw [e2] at hSX ⊢
      refine ⟨hown9.1, ?_⟩
      rcases hown9.2 with q | ⟨g, cap, cur, q0, h1, h2, h3⟩
      · exact Or.inl q
      · refine Or.inr ⟨g, cap, cur, q0, h1, ?_, h3⟩
        rw [setRow_other _ _ _ _ (fun q => by subst q; exact absurd (not_both hL9 h2) (by decide)), heap_setCell_other _ _ _ _ (fun q => by subst q; exact absurd (not_both hS9' h2) (by decide))]
        exact h2
    · rcases hob9 with q | q
      · exact Or.inl q
      · refine Or.inr ⟨_, q, ?_⟩
        have := hB8.size
        show W.heap.size ≤ (W8.alloc _).heap.size
        simp; omega
    · obtain ⟨cur, q2⟩ := owns_block HOW.out q
      exact hn ⟨owns_baseI HOW.out q, cur, _, _, q2, Or.inl rfl⟩
end Go.Proofs.YtmjblpkbfoipfaaGreatDoor
