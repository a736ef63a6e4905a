/-
  The walks of kalendsref21.has, kalendsref20.SameInts.
-/
import Derived.Test.YtmjblpkbfoipfaaGreatDoorPkLet
import Derived.Test.YtmjblpkbfoipfaaGreatDoorPkTy
import Derived.Maps.OwnSet
import Derived.Laws.ResultCell
import Derived.Maps.OwnOps
import Derived.Maps.Views
import Derived.Test.YtmjblpkbfoipfaaGreatDoorPkGs
set_option linter.unusedSectionVars false
set_option linter.constructorNameAsVariable false
set_option linter.unusedVariables false
set_option linter.unusedSimpArgs false
namespace Go.Proofs.YtmjblpkbfoipfaaGreatDoor
open Go.RowKit
set_option maxHeartbeats 2000000 in
theorem has_calls (v : Value) (l : List Int) (x : Int) (w : World) (hv : HasI w v l) (hlen : l.length < 1000000) :
    Calls Tryz.prog 28 #[v, .int .i64 x] w fun e w' => e = .returned (.bool (l.contains x)) ∧ w' = w := by
  obtain ⟨ao, c, rfl, hn, hs⟩ := hv
  have HS := Lib.hid hs
  have HN := Lib.hid hn
  clear hs hn
  go_enter Tryz.func28, Tryz.ntmps28
  repeat' (first | go_skip | go_guarded | go_step | go_upon)
  go_loopw [5] (fun i wr => ∃ k : Nat, k ≤ l.length ∧ i = .int .i64 k ∧ (∀ j, j < k → l.getD j 0 ≠ x) ∧ wr = w) (fun i _ => ((l.length : Int) - intOf i).toNat)
  case atStart => exact ⟨0, by omega, rfl, fun j hj => by omega, rfl⟩
  case round =>
    obtain ⟨k, hk, rfl, hno, rfl⟩ := hrel
    have HNO := Lib.hid hno
    clear hno
    by_cases hlt : k < l.length
    · have hlt' : (k : Int) < (l.length : Int) := by omega
      obtain ⟨⟨g, off, xx⟩, rfl⟩ : ∃ a, ao = some a := by
        cases ao with
        | none => have := (HN.out rfl).1; rw [this] at hlt; simp at hlt
        | some a => exact ⟨a, rfl⟩
      obtain ⟨rfl, q2, q3, q4⟩ := HS.out g off xx rfl
      have hc := q4 k hlt
      by_cases e : l.getD k 0 = x
      · have HT : Hid (l.contains x = true) := Lib.hid (by
          rw [List.contains_iff_mem, ← e, List.getD_eq_getElem?_getD, List.getElem?_eq_getElem hlt]
          exact List.getElem_mem hlt)
        have e' : ((l.getD k 0) == x) = true := by simpa using e
        clear e q4
        generalize l.getD k 0 = y at *
        repeat' (first | go_skip | go_guarded | go_step | go_upon)
        go_ret
        exact ⟨by rw [HT.out]; rfl, rfl⟩
      · have e' : ((l.getD k 0) == x) = false := by simpa using e
        have HE := Lib.hid e
        clear e q4
        generalize l.getD k 0 = y at hc e'
        repeat' (first | go_skip | go_guarded | go_step | go_upon)
        go_roundw
        case rel => exact ⟨k + 1, by omega, by go_num, fun j hj => (by
          by_cases q : j = k
          · subst q; exact HE.out
          · exact HNO.out j (by omega)), by first | rfl | trivial⟩
        case measure => simp [intOf]; omega
    · have hk' : k = l.length := by omega
      have hge : ¬ ((k : Int) < (l.length : Int)) := by omega
      repeat' (first | go_skip | go_guarded | go_step | go_upon)
      go_ret
      refine ⟨?_, rfl⟩
      have : l.contains x = false := by
        rw [← Bool.not_eq_true, List.contains_iff_mem]
        intro hm
        obtain ⟨j, hj, e⟩ := List.mem_iff_getElem.1 hm
        refine HNO.out j (by omega) ?_
        rw [List.getD_eq_getElem?_getD, List.getElem?_eq_getElem hj]
        exact e
      rw [this]; rfl
set_option maxHeartbeats 2000000 in
theorem sameInts_calls (u v : Value) (l m : List Int) (w : World) (hu : HasI w u l) (hv : HasI w v m) (h1 : l.length < 1000000) (h2 : m.length < 1000000) :
    Calls Tryz.prog 16 #[u, v] w fun e w' => e = .returned (.bool (decide (l = m))) ∧ Below w.heap.size w w' := by
  have HU := Lib.hid hu
  have HV := Lib.hid hv
  obtain ⟨ao, c, rfl, hn, hs⟩ := hu
  obtain ⟨ao2, c2, rfl, hn2, hs2⟩ := hv
  have HS := Lib.hid hs
  have HN := Lib.hid hn
  have HS2 := Lib.hid hs2
  have HN2 := Lib.hid hn2
  clear hs hn hs2 hn2
  by_cases hl : (l.length : Int) = (m.length : Int)
  rotate_left
  · have hl' : ((l.length : Int) == (m.length : Int)) = false := by simpa using hl
    have hd : decide (l = m) = false := decide_eq_false fun e => hl (by rw [e])
    rw [hd]
    go_enter Tryz.func16, Tryz.ntmps16
    repeat' (first | go_skip | go_guarded | go_step | go_upon)
    go_ret
    exact ⟨rfl, Below.refl _ _⟩
  · have hl' : ((l.length : Int) == (m.length : Int)) = true := by simpa using hl
    have hlm : l.length = m.length := by omega
    go_enter Tryz.func16, Tryz.ntmps16
    repeat' (first | go_skip | go_guarded | go_step | go_upon)
    go_loopw [5] (fun i wr => ∃ k : Nat, k ≤ l.length ∧ i = .int .i64 k ∧ (∀ j, j < k → l.getD j 0 = m.getD j 0) ∧ Below w.heap.size w wr) (fun i _ => ((l.length : Int) - intOf i).toNat)
    case atStart => exact ⟨0, by omega, rfl, fun j hj => by omega, Below.refl _ _⟩
    case round =>
      obtain ⟨k, hk, rfl, hno, hB⟩ := hrel
      have HNO := Lib.hid hno
      clear hno
      by_cases hlt : k < l.length
      · have hlt' : (k : Int) < (l.length : Int) := by omega
        obtain ⟨⟨g, off, xx⟩, rfl⟩ : ∃ a, ao = some a := by
          cases ao with
          | none => have := (HN.out rfl).1; rw [this] at hlt; simp at hlt
          | some a => exact ⟨a, rfl⟩
        obtain ⟨⟨g2, off2, xx2⟩, rfl⟩ : ∃ a, ao2 = some a := by
          cases ao2 with
          | none => have := (HN2.out rfl).1; rw [hlm, this] at hlt; simp at hlt
          | some a => exact ⟨a, rfl⟩
        obtain ⟨rfl, q2, q3, q4⟩ := HS.out g off xx rfl
        obtain ⟨rfl, p2, p3, p4⟩ := HS2.out g2 off2 xx2 rfl
        have hc : wr.cell? ⟨g, off + k, none⟩ = some (.int .i64 (l.getD k 0)) := (hB.cell (p := ⟨g, off + k, none⟩) q3).trans (q4 k hlt)
        have hc2 : wr.cell? ⟨g2, off2 + k, none⟩ = some (.int .i64 (m.getD k 0)) := (hB.cell (p := ⟨g2, off2 + k, none⟩) p3).trans (p4 k (by omega))
        have hlt2 : (k : Int) < (m.length : Int) := by omega
        clear q4 p4
        by_cases e : l.getD k 0 = m.getD k 0
        · have HE := Lib.hid e
          have e' : ((l.getD k 0) == (m.getD k 0)) = true := by simpa using e
          clear e
          generalize l.getD k 0 = y at hc e'
          generalize m.getD k 0 = z at hc2 e'
          repeat' (first | go_skip | go_guarded | go_step | go_upon)
          go_quiet (fail)
          have hB' : Below w.heap.size w (wr.drewN nq) := ⟨hB.os, hB.tape, hB.output, hB.size, hB.block⟩
          generalize wr.drewN nq = w2 at *
          repeat' (first | go_skip | go_guarded | go_step | go_upon)
          go_roundw
          case rel => exact ⟨k + 1, by omega, by go_num, fun j hj => (by
            by_cases q : j = k
            · subst q; exact HE.out
            · exact HNO.out j (by omega)), hB'⟩
          case measure => simp [intOf]; omega
        · have e' : ((l.getD k 0) == (m.getD k 0)) = false := by simpa using e
          have HD : Hid (decide (l = m) = false) := Lib.hid (decide_eq_false fun q => e (by rw [q]))
          clear e
          generalize l.getD k 0 = y at hc e'
          generalize m.getD k 0 = z at hc2 e'
          repeat' (first | go_skip | go_guarded | go_step | go_upon)
          go_quiet (fail)
          have hB' : Below w.heap.size w (wr.drewN nq) := ⟨hB.os, hB.tape, hB.output, hB.size, hB.block⟩
          generalize wr.drewN nq = w2 at *
          repeat' (first | go_skip | go_guarded | go_step | go_upon)
          go_ret
          exact ⟨by rw [HD.out]; rfl, hB'⟩
      · have hk' : k = l.length := by omega
        have hge : ¬ ((k : Int) < (l.length : Int)) := by omega
        have hge2 : ¬ ((k : Int) < (m.length : Int)) := by omega
        have hd : decide (l = m) = true := decide_eq_true (by
          apply List.ext_getElem hlm
          intro i h1 h2
          have := HNO.out i (by omega)
          rw [List.getD_eq_getElem?_getD, List.getD_eq_getElem?_getD, List.getElem?_eq_getElem h1, List.getElem?_eq_getElem h2] at this
          exact this)
        repeat' (first | go_skip | go_guarded | go_step | go_upon)
        go_ret
        exact ⟨by rw [hd]; rfl, hB⟩
end Go.Proofs.YtmjblpkbfoipfaaGreatDoor
namespace Go.Proofs.YtmjblpkbfoipfaaGreatDoor
open Go.RowKit
theorem results_row_tmp {P : Program} {fn : Func} {p u : Tmp} {ty : TypeId} (h : fn.results = #[.cell p ty, .tmp u]) (tmps : Array Value) (w : World) (g : Nat) (t : TypeId) (cs : Array Value) (fr : Nat × Nat) (d : TypeDesc) (v : Value)
    (hp : tmps.getD p undef = .pointer (some ⟨g, 0, none⟩)) (hg : w.heap[g]? = some (.cells cs t fr))
    (hu : P.underlying ty = some d) (hd : (match d with | .struct _ | .array _ _ => true | _ => false) = true) (hi : (P.info? ty).map (·.size) = some cs.size) (hv : tmps.getD u undef = v) :
    (results fn tmps).run P w = .ok (.tuple #[.agg cs, v]) w := by
  rw [results_cell_tmp h, hp, hv]
  simp [asAddr, run_loadVar_row w g t ty cs fr d hg hu hd hi, Result.andThen]
structure GB where
  g : Nat
  s : Nat
  r : Nat → Nat
  m : Nat → Nat
def mostL (l : List Int) : Int := l.foldl max 0
theorem mostL_ge (l : List Int) : ∀ a : Int, a ≤ l.foldl max a := by
  induction l with
  | nil => intro a; exact Int.le_refl a
  | cons x l ih => intro a; exact Int.le_trans (by omega) (ih (max a x))
theorem mostL_nonneg (l : List Int) : 0 ≤ mostL l := mostL_ge l 0
theorem mostL_snoc (l : List Int) (x : Int) : mostL (l ++ [x]) = max (mostL l) x := by unfold mostL; rw [List.foldl_append]; rfl
structure GateP (W : World) (G : GB) (gv : Value) (T : Nat → List Int) (N : Nat) : Prop where
  v : gv = .pointer (some ⟨G.g, 0, none⟩)
  g : ∃ c, obj W G.g = some (.cells #[.int .i64 0, .slice (some ⟨G.s, 0, none⟩) 3 c] 71 (0, 0))
  s : ∃ row, obj W G.s = some (.cells row 77 (0, 0)) ∧ ∀ i, i < 3 → row[2 * i]? = some (.pointer (some ⟨G.r i, 0, none⟩)) ∧ row[2 * i + 1]? = some (.int .i64 (i : Int))
  r : ∀ i, i < 3 → obj W (G.r i) = some (.cells #[.map (some (G.m i)), .int .i64 (mostL (T i))] 75 (0, 0))
  m : ∀ i, i < 3 → ∃ D : DataW Unit, W.ownsMap Tryz.prog 3 (plainElem Tryz.prog 4) (G.m i) N D ∧ ∀ k : Int, D.atKey (.int .i64 k) (.lit (.bool false)) = .lit (.bool (decide (k ∈ T i)))
  d : [G.g, G.s, G.r 0, G.r 1, G.r 2, G.m 0, G.m 1, G.m 2].Nodup
set_option maxHeartbeats 2000000 in
theorem greatest_calls (b : Nat) (mv : Value) (n : Int) (T : TypeId) (w : World) (h : obj w b = some (.cells #[mv, .int .i64 n] T (0, 0))) :
    Calls Tryz.prog 26 #[.pointer (some ⟨b, 0, none⟩)] w fun e w' => e = .returned (.int .i64 n) ∧ w' = w := by
  have c1 := (row_cells h 1)
  go_enter Tryz.func26, Tryz.ntmps26
  repeat' (first | go_skip | go_guarded | go_step | go_upon)
  go_ret
  exact ⟨rfl, rfl⟩
set_option maxHeartbeats 4000000 in
theorem find_calls (W : World) (G : GB) (gv : Value) (T : Nat → List Int) (N : Nat) (h : GateP W G gv T N) (x : Int) :
    Calls Tryz.prog 32 #[gv, .int .i64 x] W fun e w' => (if 0 ≤ x ∧ x < 3 then e = .returned (.tuple #[.agg #[.pointer (some ⟨G.r x.toNat, 0, none⟩), .int .i64 x], .bool true]) else e = .returned (.tuple #[.agg #[.pointer none, .int .i64 0], .bool false])) ∧ Below W.heap.size W w' := by
  obtain ⟨c, hg⟩ := h.g
  obtain ⟨row, hs, hrow⟩ := h.s
  rw [h.v]
  have HR := Lib.hid hrow
  have hB : Below W.heap.size W (W.alloc (.cells #[.pointer none, .int .i64 0] 77 (0, 0))) := (Below.refl _ _).alloc (Nat.le_refl _) _
  have hO : obj (W.alloc (.cells #[.pointer none, .int .i64 0] 77 (0, 0))) W.heap.size = some (.cells #[.pointer none, .int .i64 0] 77 (0, 0)) := obj_alloc_at _ _ _ rfl
  have hg1 : obj (W.alloc (.cells #[.pointer none, .int .i64 0] 77 (0, 0))) G.g = some (.cells #[.int .i64 0, .slice (some ⟨G.s, 0, none⟩) 3 c] 71 (0, 0)) := keep_alloc hg _
  have c1 := row_cells hg1 1
  have hlt := row_lt hs
  clear hrow h hg1
  go_enter Tryz.func32, Tryz.ntmps32
  repeat' (first | go_skip | go_guarded | go_step | go_upon)
  go_loopw [13] (fun i wr => ∃ k : Nat, k ≤ 3 ∧ i = .int .i64 k ∧ (∀ j : Nat, j < k → (j : Int) ≠ x) ∧ obj wr W.heap.size = some (.cells #[.pointer none, .int .i64 0] 77 (0, 0)) ∧ Below W.heap.size W wr) (fun i _ => (3 - intOf i).toNat)
  case atStart => exact ⟨0, by omega, rfl, fun j hj => by omega, hO, hB⟩
  case round =>
    clear hO hB c1
    obtain ⟨k, hk, rfl, hno, hO, hB⟩ := hrel
    have HNO := Lib.hid hno
    clear hno
    have hk' : k = 0 ∨ k = 1 ∨ k = 2 ∨ k = 3 := by omega
    have hsz : 6 ≤ row.size := by
      have := (Array.getElem?_eq_some_iff.1 (HR.out 2 (by omega)).2).1
      omega
    have hex : ∀ i, i < 3 → row.extract (2 * i) (2 * i + 2) = #[.pointer (some ⟨G.r i, 0, none⟩), .int .i64 (i : Int)] := fun i hi => by
      obtain ⟨q1, q2⟩ := HR.out i hi
      apply Array.ext_getElem?
      intro j
      rw [Array.getElem?_extract]
      by_cases hj : j < 2
      · rw [if_pos (by omega)]
        rcases (show j = 0 ∨ j = 1 by omega) with rfl | rfl
        · rw [Nat.add_zero, q1]; rfl
        · rw [q2]; rfl
      · rw [if_neg (by omega), Array.getElem?_eq_none (by show 2 ≤ j; omega)]
    have s2 : ∀ n, n ≤ 6 → (n ≤ row.size) = True := fun n hn => eq_true (by omega)
    have hs1 := keep_below hs hB hlt
    rcases hk' with rfl | rfl | rfl | rfl
    · have e0 : row.extract 0 2 = #[.pointer (some ⟨G.r 0, 0, none⟩), .int .i64 0] := hex 0 (by omega)
      have z0 := s2 2 (by omega)
      have hO2 := keep_alloc hO (.cells #[.pointer (some ⟨G.r 0, 0, none⟩), .int .i64 0] 77 (0, 0))
      have hB2 := hB.alloc (hB.size) (.cells #[.pointer (some ⟨G.r 0, 0, none⟩), .int .i64 0] 77 (0, 0))
      clear hex s2 hB
      by_cases hx : x = 0
      · subst hx
        repeat' (first | go_skip | go_guarded | go_step | go_upon)
        refine bodyPost_ret (results_row_tmp rfl _ _ W.heap.size 77 _ _ _ (.bool true) rfl (setRow_heap _ _ _ _ _ _ hO2) Tryz.underlying77 rfl (by kernel_rfl) rfl) rfl ?_
        exact ⟨by rw [if_pos (by omega)]; rfl, below_setRow hB2 (Nat.le_refl _) _⟩
      · have hx' : (0 : Int) ≠ x := fun e => hx e.symm
        repeat' (first | go_skip | go_guarded | go_step | go_upon)
        exact ⟨⟨1, by omega, rfl, fun j hj => by
          rcases Nat.lt_succ_iff_lt_or_eq.1 hj with h | rfl
          · exact HNO.out j h
          · exact hx', hO2, hB2⟩, by decide⟩
    · have e0 : row.extract 2 4 = #[.pointer (some ⟨G.r 1, 0, none⟩), .int .i64 1] := hex 1 (by omega)
      have z0 := s2 4 (by omega)
      have hO2 := keep_alloc hO (.cells #[.pointer (some ⟨G.r 1, 0, none⟩), .int .i64 1] 77 (0, 0))
      have hB2 := hB.alloc (hB.size) (.cells #[.pointer (some ⟨G.r 1, 0, none⟩), .int .i64 1] 77 (0, 0))
      clear hex s2 hB
      by_cases hx : x = 1
      · subst hx
        repeat' (first | go_skip | go_guarded | go_step | go_upon)
        refine bodyPost_ret (results_row_tmp rfl _ _ W.heap.size 77 _ _ _ (.bool true) rfl (setRow_heap _ _ _ _ _ _ hO2) Tryz.underlying77 rfl (by kernel_rfl) rfl) rfl ?_
        exact ⟨by rw [if_pos (by omega)]; rfl, below_setRow hB2 (Nat.le_refl _) _⟩
      · have hx' : (1 : Int) ≠ x := fun e => hx e.symm
        repeat' (first | go_skip | go_guarded | go_step | go_upon)
        exact ⟨⟨2, by omega, rfl, fun j hj => by
          rcases Nat.lt_succ_iff_lt_or_eq.1 hj with h | rfl
          · exact HNO.out j h
          · exact hx', hO2, hB2⟩, by decide⟩
    · have e0 : row.extract 4 6 = #[.pointer (some ⟨G.r 2, 0, none⟩), .int .i64 2] := hex 2 (by omega)
      have z0 := s2 6 (by omega)
      have hO2 := keep_alloc hO (.cells #[.pointer (some ⟨G.r 2, 0, none⟩), .int .i64 2] 77 (0, 0))
      have hB2 := hB.alloc (hB.size) (.cells #[.pointer (some ⟨G.r 2, 0, none⟩), .int .i64 2] 77 (0, 0))
      clear hex s2 hB
      by_cases hx : x = 2
      · subst hx
        repeat' (first | go_skip | go_guarded | go_step | go_upon)
        refine bodyPost_ret (results_row_tmp rfl _ _ W.heap.size 77 _ _ _ (.bool true) rfl (setRow_heap _ _ _ _ _ _ hO2) Tryz.underlying77 rfl (by kernel_rfl) rfl) rfl ?_
        exact ⟨by rw [if_pos (by omega)]; rfl, below_setRow hB2 (Nat.le_refl _) _⟩
      · have hx' : (2 : Int) ≠ x := fun e => hx e.symm
        repeat' (first | go_skip | go_guarded | go_step | go_upon)
        exact ⟨⟨3, by omega, rfl, fun j hj => by
          rcases Nat.lt_succ_iff_lt_or_eq.1 hj with h | rfl
          · exact HNO.out j h
          · exact hx', hO2, hB2⟩, by decide⟩
    · have hno' : ¬ (0 ≤ x ∧ x < 3) := fun ⟨h1, h2⟩ => HNO.out x.toNat (by omega) (by omega)
      clear hex s2
      repeat' (first | go_skip | go_guarded | go_step | go_upon)
      refine bodyPost_ret (results_row_tmp rfl _ _ W.heap.size 77 _ _ _ (.bool false) rfl (setRow_heap _ _ _ _ _ _ hO) Tryz.underlying77 rfl (by kernel_rfl) rfl) rfl ?_
      exact ⟨by rw [if_neg hno'], below_setRow hB (Nat.le_refl _) _⟩
end Go.Proofs.YtmjblpkbfoipfaaGreatDoor
namespace Go.Proofs.YtmjblpkbfoipfaaGreatDoor
open Go.RowKit
set_option maxHeartbeats 4000000 in
theorem gst_calls (W : World) (G : GB) (gv : Value) (T : Nat → List Int) (N : Nat) (h : GateP W G gv T N) (x : Int) :
    Calls Tryz.prog 14 #[gv, .int .i64 x] W fun e w' => e = .returned (.int .i64 (if 0 ≤ x ∧ x < 3 then mostL (T x.toNat) else 0)) ∧ Below W.heap.size W w' := by
  have HF := Lib.hid (find_calls W G gv T N h x)
  by_cases hx : 0 ≤ x ∧ x < 3
  · have hr := h.r x.toNat (by omega)
    have hl := row_lt hr
    simp only [if_pos hx] at HF ⊢
    go_enter Tryz.func14, Tryz.ntmps14
    repeat' (first | (go_at_call 32; ((with_reducible refine (HF.out).mono ?_)); rintro r w' ⟨rfl, hB⟩; dsimp only) | (go_at_call 26; ((with_reducible refine (greatest_calls _ _ _ _ _ (keep_alloc (keep_below hr hB hl) _)).mono ?_)); rintro r w' ⟨rfl, rfl⟩; dsimp only) | go_skip | go_guarded | go_step | go_upon)
    go_ret
    exact ⟨rfl, hB.alloc hB.size _⟩
  · simp only [if_neg hx] at HF ⊢
    go_enter Tryz.func14, Tryz.ntmps14
    repeat' (first | (go_at_call 32; ((with_reducible refine (HF.out).mono ?_)); rintro r w' ⟨rfl, hB⟩; dsimp only) | go_skip | go_guarded | go_step | go_upon)
    go_ret
    exact ⟨rfl, hB.alloc hB.size _⟩
end Go.Proofs.YtmjblpkbfoipfaaGreatDoor
namespace Go.Proofs.YtmjblpkbfoipfaaGreatDoor
open Go.RowKit
open Go.Maps (Keyed)
theorem info_int : ∃ i, Tryz.prog.info? 3 = some i ∧ i.zero = some (.int .i64 0) ∧ i.size = 1 ∧ i.bytes = 8 :=
  info_parts (show (Tryz.prog.info? 3).map (fun i => (i.zero, i.size, i.bytes)) = some (some (.int .i64 0), 1, 8) by kernel_rfl)
theorem key_int : Keyed Tryz.prog 3 := Maps.int_keyed Tryz.underlying3
theorem wpList_append_i {w : World} {ops : Array Oper} {rest : List Oper} {o : Oper} {a : Act} {Q : Exit → Act → World → Prop} (hgd : o.guard = none) (s x : Operand)
    (ho : o.op = .call { callee := .builtin .append, args := #[s, x], argTypes := #[50, 50] })
    (base k : Nat) (v : Value) (xs : List Value) (hs : a.eval s = v) (hown : w.ownsRow base 3 1 v k xs)
    (ad : Addr) (m c : Nat) (news : List Value) (hx : a.eval x = .slice (some ad) m c) (hl : news.length = m) (hnews : ∀ j u, news[j]? = some u → w.cell? (ad.add j) = some u) (h1 : ∀ u ∈ news, u.oneCell' = true)
    (h63 : k + m ≤ 1000000000000) (hb : base ≤ w.heap.size)
    (h : ∀ v' w', w'.ownsRow base 3 1 v' (k + m) (xs ++ news) → w.grownBy w' v.ownBlock → wpList Tryz.prog ops Q rest (a.put o.dst v') w') : wpList Tryz.prog ops Q (o :: rest) a w := by
  obtain ⟨i0, hi, hz0, hz1, hz2⟩ := info_int
  exact wpList_append_own w hgd s x _ ho base _ i0 _ 1 8 Tryz.underlying50 hi hz0 hz1 hz2 rfl (by decide) v k xs hs hown ad m c news hx (by omega) hnews h1 (by unfold maxLen; omega) (by omega) hb fun v' w' q1 q2 _ => h v' w' q1 q2
theorem one_newsI (W : World) (x : Value) (T : TypeId) : ∀ j u, [x][j]? = some u → (W.alloc (.cells #[x] T (0, 0))).cell? ((⟨W.heap.size, 0, none⟩ : Addr).add j) = some u := fun j u hu => by
  have hj : j = 0 := by
    have := (List.getElem?_eq_some_iff.1 hu).1
    simpa using this
  subst hj
  cases hu
  exact row_cells (obj_alloc_at _ _ _ rfl) 0
theorem owns_upI {W w w' : World} {v : Value} {k : Nat} {T : TypeId} {xs : List Value} (hB : Below W.heap.size W w) (hown : w.ownsRow W.heap.size T 1 v k xs) (hg : w.grownBy w' v.ownBlock) : Below W.heap.size W w' := hB.grown hg hB.size fun g hk => by
  rcases hown.2 with ⟨rfl, _⟩ | ⟨g', cap, cur, rfl, h1, _⟩
  · cases hk
  · cases hk; exact h1
theorem owns_belowI {w w' : World} {base : Nat} {e : TypeId} {v : Value} {n : Nat} {xs : List Value} {B : Nat} (h : w.ownsRow base e 1 v n xs) (hb : Below B w w') (hv : ∀ g, v.ownBlock = some g → g < B) : w'.ownsRow base e 1 v n xs := by
  refine ⟨h.1, ?_⟩
  rcases h.2 with q | ⟨g, cap, cur, rfl, h1, h2, h3⟩
  · exact Or.inl q
  · exact Or.inr ⟨g, cap, cur, rfl, h1, (hb.block g (hv g rfl)).trans h2, h3⟩
def iCells (l : List Int) : List Value := l.map fun x => .int .i64 x
theorem iCells_length (l : List Int) : (iCells l).length = l.length := by simp [iCells]
theorem hasI_owns {w : World} {base : Nat} {v : Value} {n : Nat} {l : List Int} (h : w.ownsRow base 3 1 v n (iCells l)) : HasI w v l := by
  have hn : n = l.length := by have := h.1; rw [iCells_length] at this; omega
  subst hn
  rcases h.2 with ⟨rfl, h0⟩ | ⟨g, c, cur, rfl, h1, h2, h3, h4, h5, h6⟩
  · obtain rfl := List.eq_nil_of_length_eq_zero h0
    exact HasI.nil w
  · refine ⟨some ⟨g, 0, none⟩, c, rfl, (fun h => by cases h), fun g' off x hx => ?_⟩
    cases hx
    refine ⟨rfl, h3, (Array.getElem?_eq_some_iff.1 h2).1, fun j hj => ?_⟩
    have hc : (iCells l)[j]? = some (.int .i64 (l.getD j 0)) := by
      unfold iCells
      rw [List.getElem?_map, List.getD_eq_getElem?_getD, List.getElem?_eq_getElem hj]
      rfl
    rw [← h6, List.getElem?_take] at hc
    split at hc
    · rw [Nat.zero_add]
      exact (row_cells (show obj w g = some (.cells cur 3 (0, 0)) from h2) j).trans (by simpa using hc)
    · cases hc
theorem look_bool {H : Type} {P : Program} {w : World} {t k e : TypeId} {b n : Nat} {D : DataW H} (hown : w.ownsMap P k (plainElem P e) b n D) (K : Keyed P k) (ht : P.underlying t = some (.map k e)) (he : P.underlying e = some .bool) (hz : (zeroValue e).run P w = .ok (.bool false) w) {key : Value} {kl : Lit} (hkey : keyOf P k key = some kl) {c : Bool} (hat : D.atKey kl (.lit (.bool false)) = .lit (.bool c)) : (Instr.lookup t (.map (some b)) key false).run P w = .ok (.bool c) w := by
  obtain ⟨v, ps, hrun, hv⟩ := hown.lookup K ht hz (plainElem_bool he false) hkey
  have hv' : v = .bool c := by
    unfold plainElem at hv
    rw [he] at hv
    cases v <;> simp only [Option.some.injEq, reduceCtorEq] at hv
    rename_i y
    rw [hat] at hv
    simp at hv
    rw [hv.1]
  rw [hrun, hv']
theorem wpList_lookup_own_bool {H : Type} {P : Program} (w : World) {ops : Array Oper} {rest : List Oper} {o : Oper} {a : Act} {Q : Exit → Act → World → Prop}
    (hg : o.guard = none) (m x : Operand) (t : TypeId) (hop : o.op = Op.lookup t m x false)
    (k e : TypeId) (K : Keyed P k) (ht : P.underlying t = some (.map k e)) (he : P.underlying e = some .bool) (hz : (zeroValue e).run P w = .ok (.bool false) w) (b n : Nat) (D : DataW H)
    (hm : a.eval m = .map (some b)) (hown : w.ownsMap P k (plainElem P e) b n D) (key : Value) (kl : Lit) (hx : a.eval x = key) (hkey : keyOf P k key = some kl) (c : Bool) (hat : D.atKey kl (.lit (.bool false)) = .lit (.bool c))
    (hK : wpList P ops Q rest (a.put o.dst (.bool c)) w) :
    wpList P ops Q (o :: rest) a w := by
  refine wpList_plain hg fun K' hK' => ?_
  obtain ⟨v, ps, hrun, hv⟩ := hown.lookup K ht hz (plainElem_bool he false) hkey
  have hv' : v = .bool c := by
    unfold plainElem at hv
    rw [he] at hv
    cases v <;> simp only [Option.some.injEq, reduceCtorEq] at hv
    rename_i y
    rw [hat] at hv
    simp at hv
    rw [hv.1]
  subst hv'
  unfold Oper.wp
  simp [execOp, hop, hm, hx, hrun, Result.andThen]
  exact hK' _ _ hK
def missN (T : List Int) (n : Nat) : List Int := ((List.range n).map Int.ofNat).filter fun i => decide (1 ≤ i) && !T.contains i
theorem missN_one (T : List Int) (n : Nat) (hn : n ≤ 1) : missN T n = [] := by
  have : n = 0 ∨ n = 1 := by omega
  rcases this with rfl | rfl <;> rfl
theorem missN_succ (T : List Int) (n : Nat) (hn : 1 ≤ n) : missN T (n + 1) = if (n : Int) ∈ T then missN T n else missN T n ++ [(n : Int)] := by
  unfold missN
  rw [List.range_succ, List.map_append, List.filter_append]
  have h1 : (1 : Int) ≤ (n : Int) := by omega
  by_cases h : (n : Int) ∈ T
  · rw [if_pos h]; simp [h, h1]
  · rw [if_neg h]; simp [h, h1]
theorem missN_le (T : List Int) (n : Nat) : (missN T n).length ≤ n := by
  unfold missN
  refine Nat.le_trans (List.length_filter_le _ _) ?_
  simp
theorem keyInt (k : Int) (h0 : -1000000000000 ≤ k) (h1 : k ≤ 1000000000000) : keyOf Tryz.prog 3 (.int .i64 k) = some (.int .i64 k) := Maps.keyOf_int_mk Tryz.underlying3 (by
  have q1 : IntKind.i64.min = -9223372036854775808 := rfl
  have q2 : IntKind.i64.max = 9223372036854775807 := rfl
  simp only [Lit.wf, q1, q2, Bool.and_eq_true, decide_eq_true_eq]
  omega)
theorem ownsMap_below {w w' : World} {P : Program} {k : TypeId} {R : Value → Option (DataW Unit × List MemPlace)} {b n : Nat} {D : DataW Unit} {B : Nat} (h : w.ownsMap P k R b n D) (hB : Below B w w') (hb : b < B) : w'.ownsMap P k R b n D := by
  obtain ⟨es, clock, h1, h2⟩ := h
  exact ⟨es, clock, (hB.block b hb).trans h1, h2⟩
theorem row_lt' {w : World} {b : Nat} {o : Obj} (h : obj w b = some o) : b < w.heap.size := (Array.getElem?_eq_some_iff.1 (show w.heap[b]? = some o from h)).1
structure BelX (B : Nat) (S : Nat → Prop) (w w' : World) : Prop where
  os : w'.os = w.os
  tape : w'.tape = w.tape
  output : w'.output = w.output
  size : w.heap.size ≤ w'.heap.size
  block : ∀ k, k < B → ¬ S k → w'.heap[k]? = w.heap[k]?
theorem BelX.of {B : Nat} {w w' : World} (h : Below B w w') (S : Nat → Prop) : BelX B S w w' := ⟨h.os, h.tape, h.output, h.size, fun k hk _ => h.block k hk⟩
theorem BelX.trans {B : Nat} {S : Nat → Prop} {w w' w'' : World} (h : BelX B S w w') (k : BelX B S w' w'') : BelX B S w w'' := ⟨k.os.trans h.os, k.tape.trans h.tape, k.output.trans h.output, Nat.le_trans h.size k.size, fun i hi hs => (k.block i hi hs).trans (h.block i hi hs)⟩
theorem BelX.mono {B B' : Nat} {S S' : Nat → Prop} {w w' : World} (h : BelX B S w w') (hb : B' ≤ B) (hs : ∀ k, S k → S' k) : BelX B' S' w w' := ⟨h.os, h.tape, h.output, h.size, fun i hi hn => h.block i (Nat.lt_of_lt_of_le hi hb) fun q => hn (hs i q)⟩
theorem belX_obj {B : Nat} {S : Nat → Prop} {w w' : World} (h : BelX B S w w') {b : Nat} {o : Obj} (ho : obj w b = some o) (hb : b < B) (hs : ¬ S b) : obj w' b = some o := (h.block b hb hs).trans ho
theorem zero_bool (w : World) : (zeroValue 4).run Tryz.prog w = .ok (.bool false) w := by kernel_rfl
set_option maxHeartbeats 8000000 in
theorem miss_calls (W : World) (G : GB) (gv : Value) (T : Nat → List Int) (N : Nat) (h : GateP W G gv T N) (x : Int) (hm : 0 ≤ x ∧ x < 3 → mostL (T x.toNat) ≤ 1000000) :
    Calls Tryz.prog 17 #[gv, .int .i64 x] W fun e w' => ∃ v, e = .returned v ∧ HasI w' v (if 0 ≤ x ∧ x < 3 then missN (T x.toNat) (mostL (T x.toNat)).toNat else []) ∧ Below W.heap.size W w' := by
  have HF := Lib.hid (find_calls W G gv T N h x)
  by_cases hx : 0 ≤ x ∧ x < 3
  · have hr := h.r x.toNat (by omega)
    obtain ⟨D, hD, hat⟩ := h.m x.toNat (by omega)
    have hl := row_lt hr
    have hl2 := hD.lt
    have HM := hm hx
    have HAT := Lib.hid hat
    clear hat hm h
    simp only [if_pos hx] at HF ⊢
    generalize G.r x.toNat = rb at *
    generalize G.m x.toNat = mb at *
    generalize T x.toNat = L at *
    go_enter Tryz.func17, Tryz.ntmps17
    repeat' (first | (go_at_call 32; ((with_reducible refine (HF.out).mono ?_)); rintro r w' ⟨rfl, hB⟩; dsimp only) | go_skip | go_guarded | go_step | go_upon)
    have hB1 : Below W.heap.size W (w'.alloc (.cells #[.pointer (some ⟨rb, 0, none⟩), .int .i64 x] 77 (0, 0))) := hB.alloc hB.size _
    have hs5 : obj (w'.alloc (.cells #[.pointer (some ⟨rb, 0, none⟩), .int .i64 x] 77 (0, 0))) w'.heap.size = some (.cells #[.pointer (some ⟨rb, 0, none⟩), .int .i64 x] 77 (0, 0)) := obj_alloc_at _ _ _ rfl
    generalize w'.alloc (.cells #[.pointer (some ⟨rb, 0, none⟩), .int .i64 x] 77 (0, 0)) = W1 at *
    generalize w'.heap.size = sb at *
    have hsl := row_lt hs5
    have hr1 := keep_below hr hB1 hl
    have hrl := row_lt hr1
    have hD1 := ownsMap_below hD hB1 hl2
    have hDl := hD1.lt
    clear hr hD hB HF hl hl2
    go_loopw [7, 8] (fun o i wr => ∃ n : Nat, 1 ≤ n ∧ i = .int .i64 n ∧ ((n : Int) ≤ mostL L ∨ n = 1) ∧ wr.ownsRow W1.heap.size 3 1 o (missN L n).length (iCells (missN L n)) ∧ Below W1.heap.size W1 wr) (fun _ i _ => (1000001 - intOf i).toNat)
    case atStart => exact ⟨1, by omega, rfl, Or.inr rfl, by rw [missN_one L 1 (by omega)]; exact World.ownsRow_nil _ _ _ _, Below.refl _ _⟩
    case round =>
      obtain ⟨n, hn, rfl, hle, hown, hB⟩ := hrel
      have hs5' := keep_below hs5 hB hsl
      have hr' := keep_below hr1 hB hrl
      have hD' := ownsMap_below hD1 hB hDl
      have hl' := missN_le L n
      have hW1 := hB.size
      have c0 := row_cells hs5' 0
      have c1 := row_cells hr' 0
      have HL := Lib.hid hle
      have HB1 := Lib.hid hB1
      clear hs5 hr1 hD1 hle hB1
      by_cases hlt : (n : Int) < mostL L
      · have hk := keyInt (n : Int) (by omega) (by omega)
        by_cases hmem : (n : Int) ∈ L
        · have hat : D.atKey (.int .i64 (n : Int)) (.lit (.bool false)) = .lit (.bool true) := by rw [HAT.out]; simp [hmem]
          repeat' (first | (go_at_call 26; ((with_reducible refine (greatest_calls _ _ _ _ _ hr').mono ?_)); rintro r w' ⟨rfl, rfl⟩; dsimp only) | (at_lookup; refine wpList_lookup_own_bool _ rfl _ _ 73 rfl 3 4 key_int Tryz.underlying73 Tryz.underlying4 (zero_bool _) mb N D rfl hD' _ _ rfl hk true hat ?_) | go_skip | go_guarded | go_step | go_upon)
          have e1 : missN L (n + 1) = missN L n := by rw [missN_succ L n hn, if_pos hmem]
          exact ⟨⟨n + 1, by omega, by go_num, Or.inl (by omega), by rw [e1]; exact hown, hB⟩, by simp [intOf]; omega⟩
        · have hat : D.atKey (.int .i64 (n : Int)) (.lit (.bool false)) = .lit (.bool false) := by rw [HAT.out]; simp [hmem]
          repeat' (first | (go_at_call 26; ((with_reducible refine (greatest_calls _ _ _ _ _ hr').mono ?_)); rintro r w' ⟨rfl, rfl⟩; dsimp only) | (at_lookup; refine wpList_lookup_own_bool _ rfl _ _ 73 rfl 3 4 key_int Tryz.underlying73 Tryz.underlying4 (zero_bool _) mb N D rfl hD' _ _ rfl hk false hat ?_) | (at_builtin; refine wpList_append_i (by rfl) _ _ (by rfl) W1.heap.size (missN L n).length _ _ (by rfl) (hown.alloc _) ⟨_, 0, none⟩ 1 1 [_] (by rfl) rfl (one_newsI _ _ _) (by intro u hu; simp at hu; subst hu; rfl) (by omega) (by simp; omega) ?_; intro v' w3 hown3 hgrow3) | go_skip | go_guarded | go_step | go_upon)
          have e1 : missN L (n + 1) = missN L n ++ [(n : Int)] := by rw [missN_succ L n hn, if_neg hmem]
          have e2 : iCells (missN L n) ++ [.int .i64 (n : Int)] = iCells (missN L (n + 1)) := by rw [e1]; simp [iCells]
          have e3 : (missN L n).length + 1 = (missN L (n + 1)).length := by rw [e1]; simp
          rw [e2, e3] at hown3
          exact ⟨⟨n + 1, by omega, by go_num, Or.inl (by omega), hown3, owns_upI (hB.alloc hW1 _) (hown.alloc _) hgrow3⟩, by simp [intOf]; omega⟩
      · repeat' (first | (go_at_call 26; ((with_reducible refine (greatest_calls _ _ _ _ _ hr').mono ?_)); rintro r w' ⟨rfl, rfl⟩; dsimp only) | go_skip | go_guarded | go_step | go_upon)
        go_ret
        have e1 : missN L n = missN L (mostL L).toNat := by
          rcases HL.out with q | q
          · rw [show (mostL L).toNat = n by omega]
          · subst q
            rw [missN_one L 1 (by omega), missN_one L _ (by omega)]
        rw [e1] at hown
        exact ⟨_, rfl, hasI_owns hown, HB1.out.trans (hB.mono HB1.out.size)⟩
  · simp only [if_neg hx] at HF ⊢
    go_enter Tryz.func17, Tryz.ntmps17
    repeat' (first | (go_at_call 32; ((with_reducible refine (HF.out).mono ?_)); rintro r w' ⟨rfl, hB⟩; dsimp only) | go_skip | go_guarded | go_step | go_upon)
    go_ret
    exact ⟨_, rfl, HasI.nil _, hB.alloc hB.size _⟩
end Go.Proofs.YtmjblpkbfoipfaaGreatDoor
namespace Go.Proofs.YtmjblpkbfoipfaaGreatDoor
open Go.RowKit
set_option maxRecDepth 20000
set_option maxHeartbeats 8000000
theorem take_arg (W : World) (G : GB) (gv : Value) (T : Nat → List Int) (N : Nat) (h : GateP W G gv T N) (ka : Option Addr) (kn kc : Nat) (e : Env) (hs : e.seal32.length = 32) (hbad : kn ≠ 3 ∨ e.dst ≠ 0) :
    Calls Tryz.prog 11 #[gv, .slice ka kn kc, .agg e.row] W fun r w' => r = .returned (.tuple #[.agg CE.V.zerL.toArray, .int .i64 1]) ∧ Below W.heap.size W w' := by
  obtain ⟨c, hg⟩ := h.g
  rw [h.v]
  have hr := Env_size e hs
  have hall := Env_all e hs
  have hg1 := keep_alloc (keep_alloc hg (.cells e.row 36 (0, 0))) (.cells z52 52 (0, 0))
  have c0 := row_cells hg1 0
  have c1 := row_cells hg1 1
  have hE := keep_alloc (obj_alloc_at W (.cells e.row 36 (0, 0)) _ rfl) (.cells z52 52 (0, 0))
  have c2 := (row_cells hE 1).trans (Env_1 e)
  have hB0 : ∀ nq, Below W.heap.size W (((W.alloc (.cells e.row 36 (0, 0))).alloc (.cells z52 52 (0, 0))).drewN nq) := fun nq => by
    have := ((Below.refl W.heap.size W).alloc (Nat.le_refl _) (.cells e.row 36 (0, 0))).alloc (by simp) (.cells z52 52 (0, 0))
    exact ⟨this.os, this.tape, this.output, this.size, this.block⟩
  have hL0 : obj ((W.alloc (.cells e.row 36 (0, 0))).alloc (.cells z52 52 (0, 0))) (W.heap.size + 1) = some (.cells z52 52 (0, 0)) := obj_alloc_at _ _ _ (by simp)
  clear h
  by_cases hk : kn = 3
  · subst hk
    have hd : e.dst ≠ 0 := by simpa using hbad
    clear hbad
    go_enter Tryz.func11, Tryz.ntmps11
    repeat' (first | go_skip | go_guarded | go_step | go_upon)
    go_quiet (fail)
    have hB : Below W.heap.size W (((W.alloc (.cells e.row 36 (0, 0))).alloc (.cells z52 52 (0, 0))).drewN nq) := hB0 nq
    have hL : obj (((W.alloc (.cells e.row 36 (0, 0))).alloc (.cells z52 52 (0, 0))).drewN nq) (W.heap.size + 1) = some (.cells z52 52 (0, 0)) := hL0
    generalize (((W.alloc (.cells e.row 36 (0, 0))).alloc (.cells z52 52 (0, 0))).drewN nq) = W2 at *
    repeat' (first | go_skip | go_guarded | go_step | go_upon)
    refine bodyPost_ret (results_row_tmp rfl _ _ (W.heap.size + 1) 52 CE.V.zerL.toArray _ _ (.int .i64 1) rfl (setRow_heap _ _ _ _ _ _ hL) Tryz.underlying52 rfl (by kernel_rfl) rfl) rfl ?_
    exact ⟨rfl, below_setRow hB (by omega) _⟩
  · have hk' : (kn : Int) ≠ 3 := by omega
    clear hbad
    go_enter Tryz.func11, Tryz.ntmps11
    repeat' (first | go_skip | go_guarded | go_step | go_upon)
    go_quiet (fail)
    have hB : Below W.heap.size W (((W.alloc (.cells e.row 36 (0, 0))).alloc (.cells z52 52 (0, 0))).drewN nq) := hB0 nq
    have hL : obj (((W.alloc (.cells e.row 36 (0, 0))).alloc (.cells z52 52 (0, 0))).drewN nq) (W.heap.size + 1) = some (.cells z52 52 (0, 0)) := hL0
    generalize (((W.alloc (.cells e.row 36 (0, 0))).alloc (.cells z52 52 (0, 0))).drewN nq) = W2 at *
    repeat' (first | go_skip | go_guarded | go_step | go_upon)
    refine bodyPost_ret (results_row_tmp rfl _ _ (W.heap.size + 1) 52 CE.V.zerL.toArray _ _ (.int .i64 1) rfl (setRow_heap _ _ _ _ _ _ hL) Tryz.underlying52 rfl (by kernel_rfl) rfl) rfl ?_
    exact ⟨rfl, below_setRow hB (by omega) _⟩
theorem take_fail (W : World) (G : GB) (gv : Value) (T : Nat → List Int) (N : Nat) (h : GateP W G gv T N) (ka : Option Addr) (kc : Nat) (e : Env) (hs : e.seal32.length = 32) (hd : e.dst = 0) (Lt : List Value) (hLt : Lt.length = 62) (hLo : ones Lt.toArray = true) (code : Int) (hc : code ≠ 0)
    (HO : ∀ w0, Below W.heap.size W w0 → Calls Tryz.prog 22 #[.slice ka 3 kc, .agg e.row] w0 fun r w' => r = .returned (.tuple #[.agg Lt.toArray, .int .i64 code]) ∧ Below w0.heap.size w0 w') :
    Calls Tryz.prog 11 #[gv, .slice ka 3 kc, .agg e.row] W fun r w' => r = .returned (.tuple #[.agg CE.V.zerL.toArray, .int .i64 code]) ∧ Below W.heap.size W w' := by
  have HO' := Lib.hid HO
  clear HO
  obtain ⟨c, hg⟩ := h.g
  rw [h.v]
  have hr := Env_size e hs
  have hall := Env_all e hs
  have hg1 := keep_alloc (keep_alloc hg (.cells e.row 36 (0, 0))) (.cells z52 52 (0, 0))
  have c0 := row_cells hg1 0
  have c1 := row_cells hg1 1
  have hE := keep_alloc (obj_alloc_at W (.cells e.row 36 (0, 0)) _ rfl) (.cells z52 52 (0, 0))
  have c2 := (row_cells hE 1).trans (Env_1 e)
  have hB0 : ∀ nq, Below W.heap.size W (((W.alloc (.cells e.row 36 (0, 0))).alloc (.cells z52 52 (0, 0))).drewN nq) := fun nq => by
    have := ((Below.refl W.heap.size W).alloc (Nat.le_refl _) (.cells e.row 36 (0, 0))).alloc (by simp) (.cells z52 52 (0, 0))
    exact ⟨this.os, this.tape, this.output, this.size, this.block⟩
  have hL0 : obj ((W.alloc (.cells e.row 36 (0, 0))).alloc (.cells z52 52 (0, 0))) (W.heap.size + 1) = some (.cells z52 52 (0, 0)) := obj_alloc_at _ _ _ (by simp)
  clear h
  go_enter Tryz.func11, Tryz.ntmps11
  repeat' (first | go_skip | go_guarded | go_step | go_upon)
  go_quiet (fail)
  have hB : Below W.heap.size W (((W.alloc (.cells e.row 36 (0, 0))).alloc (.cells z52 52 (0, 0))).drewN nq) := hB0 nq
  have hL : obj (((W.alloc (.cells e.row 36 (0, 0))).alloc (.cells z52 52 (0, 0))).drewN nq) (W.heap.size + 1) = some (.cells z52 52 (0, 0)) := hL0
  have hE2 : obj (((W.alloc (.cells e.row 36 (0, 0))).alloc (.cells z52 52 (0, 0))).drewN nq) W.heap.size = some (.cells e.row 36 (0, 0)) := hE
  generalize (((W.alloc (.cells e.row 36 (0, 0))).alloc (.cells z52 52 (0, 0))).drewN nq) = W2 at *
  have hLl := row_lt hL
  have hsz : Lt.toArray.size = 62 := by simpa using hLt
  generalize Lt.toArray = LA at *
  repeat' (first | (go_at_call 22; ((with_reducible refine (HO'.out _ hB).mono ?_)); rintro r w3 ⟨rfl, hB3⟩; have hL3 := keep_alloc (keep_below hL hB3 hLl) (.cells LA 52 (0, 0)); dsimp only) | go_skip | go_guarded | go_step | go_upon)
  refine bodyPost_ret (results_row_tmp rfl _ _ (W.heap.size + 1) 52 CE.V.zerL.toArray _ _ (.int .i64 code) rfl (setRow_heap _ _ _ _ _ _ hL3) Tryz.underlying52 rfl (by kernel_rfl) rfl) rfl ?_
  exact ⟨rfl, below_setRow ((hB.trans (hB3.mono hB.size)).alloc (Nat.le_trans hB.size hB3.size) _) (by omega) _⟩
end Go.Proofs.YtmjblpkbfoipfaaGreatDoor
