/-
  Slices of numbers.
-/
import Derived.Test.YtmjblpkbfoipfaaGreatDoorProg
import Derived.WalkKit
import Derived.WalkSpells
import Derived.WalkLawsBesides
import Derived.Handy
import Derived.Lib.Hide
import Derived.Laws.CopyOwn
import Derived.Deep.QuietTactic
import Derived.BigQuiet
import Derived.BigRegion
import Derived.StillTailTactics
import Derived.RegionTactic
import Derived.LoopTactic
import Derived.OwnWalk
import Derived.Deep.AppendLies
import Derived.Deep.AppendSrc
import Derived.Test.YtmjblpkbfoipfaaGreatDoorPkKey
set_option linter.unusedSectionVars false
set_option linter.constructorNameAsVariable false
set_option linter.unusedVariables false
set_option linter.unusedSimpArgs false
namespace Go.Proofs.YtmjblpkbfoipfaaGreatDoor
open Go.RowKit
def HasI (W : World) (v : Value) (l : List Int) : Prop := ∃ ao c, v = .slice ao l.length c ∧ (ao = none → l = [] ∧ c = 0) ∧ ∀ g off x, ao = some ⟨g, off, x⟩ → x = none ∧ l.length ≤ c ∧ g < W.heap.size ∧ ∀ j, j < l.length → W.cell? ⟨g, off + j, none⟩ = some (.int .i64 (l.getD j 0))
theorem HasI.below {W W' : World} {v : Value} {l : List Int} (h : HasI W v l) (hB : Below W.heap.size W W') : HasI W' v l := by
  obtain ⟨ao, c, h1, h2, h3⟩ := h
  refine ⟨ao, c, h1, h2, fun g off x hx => ?_⟩
  obtain ⟨q1, q2, q3, q4⟩ := h3 g off x hx
  exact ⟨q1, q2, Nat.lt_of_lt_of_le q3 hB.size, fun j hj => (hB.cell (p := ⟨g, off + j, none⟩) q3).trans (q4 j hj)⟩
theorem HasI.one {W : World} {v : Value} {l : List Int} (h : HasI W v l) : v.oneCell' = true := by
  obtain ⟨ao, c, rfl, _⟩ := h; rfl
theorem HasI.nil (W : World) : HasI W (.slice none 0 0) [] := ⟨none, 0, rfl, fun _ => ⟨rfl, rfl⟩, fun _ _ _ h => by cases h⟩
end Go.Proofs.YtmjblpkbfoipfaaGreatDoor
namespace Go.Proofs.YtmjblpkbfoipfaaGreatDoor
open Go.RowKit
structure Let where
  kind : Int
  frm : Int
  dst : Int
  num : Nat → Int
  cells : Value
  ref : List UInt8
def serZ : Array Value := #[.slice none 0 0, .int .i64 0, .int .i64 0, .string ByteArray.empty, .int .i64 0, .int .i64 0, .slice none 0 0]
def movZ : Array Value := #[.int .i64 0, .bool false, .int .i64 0, .int .i64 0, .int .i64 0]
def Let.row (L : Let) : Array Value := #[.int .i64 L.kind, .int .i64 L.frm, .int .i64 L.dst, .int .i64 (L.num 0), .int .i64 (L.num 1), .int .i64 (L.num 2), .int .i64 (L.num 3), .int .i64 (L.num 4), .int .i64 (L.num 5), .int .i64 (L.num 6), .int .i64 (L.num 7), .int .i64 (L.num 8),
  .int .i64 0, .bool false, .int .i64 0, .int .i64 0, .int .i64 0,
  .slice none 0 0, .int .i64 0, .int .i64 0, .string ByteArray.empty, .int .i64 0, .int .i64 0, .slice none 0 0,
  .int .i64 (L.num 11), .int .i64 (L.num 12), .int .i64 (L.num 13), .int .i64 0, .int .i64 0, L.cells] ++ bRow L.ref
theorem Let_size (L : Let) (h : L.ref.length = 32) : L.row.size = 62 := by simp [Let.row, bRow_size, h]
theorem Let_all (L : Let) (h : L.ref.length = 32) : L.row.extract 0 62 = L.row := extract_all _ _ (Let_size L h)
theorem Let_ref (L : Let) (h : L.ref.length = 32) : L.row.extract 30 62 = bRow L.ref := by
  apply Array.ext'
  simp [Let.row, Array.toList_extract]
  apply List.take_of_length_le
  simp [bRow_size, h]
theorem Let_ser (L : Let) : L.row.extract 17 24 = serZ := by
  apply Array.ext'
  simp [Let.row, Array.toList_extract, serZ]
theorem Let_mov (L : Let) : L.row.extract 12 17 = movZ := by
  apply Array.ext'
  simp [Let.row, Array.toList_extract, movZ]
theorem Let_win (L : Let) : L.row.extract 27 29 = #[.int .i64 0, .int .i64 0] := by
  apply Array.ext'
  simp [Let.row, Array.toList_extract]
theorem Let_ones (L : Let) (h : L.cells.oneCell' = true) : ones L.row = true := by
  unfold ones
  rw [Array.all_eq_true_iff_forall_mem]
  intro x hx
  have hb := bRow_ones L.ref
  unfold ones at hb
  rw [Array.all_eq_true_iff_forall_mem] at hb
  simp only [Let.row, Array.mem_append] at hx
  rcases hx with hx | hx
  · simp at hx
    rcases hx with rfl | rfl | rfl | rfl | rfl | rfl | rfl | rfl | rfl | rfl | rfl | rfl | rfl | rfl | rfl | rfl | rfl | rfl | rfl | rfl | rfl | rfl | rfl | rfl | rfl <;> first | rfl | exact h
  · exact hb x hx
@[go_sem] theorem Let_0 (L : Let) : L.row[0]? = some (.int .i64 L.kind) := by simp [Let.row, Array.getElem?_append]
@[go_sem] theorem Let_1 (L : Let) : L.row[1]? = some (.int .i64 L.frm) := by simp [Let.row, Array.getElem?_append]
@[go_sem] theorem Let_2 (L : Let) : L.row[2]? = some (.int .i64 L.dst) := by simp [Let.row, Array.getElem?_append]
@[go_sem] theorem Let_29 (L : Let) : L.row[29]? = some L.cells := by simp [Let.row, Array.getElem?_append]
def isNum (f : Nat) : Bool := decide (f ≤ 8) || (decide (11 ≤ f) && decide (f ≤ 13))
def offN (f : Nat) : Nat := if f ≤ 8 then 3 + f else f + 13
def ptrV (b f : Nat) : Value := if isNum f then .pointer (some ⟨b, offN f, none⟩) else .pointer none
theorem Let_num (L : Let) (f : Nat) (h : isNum f = true) : L.row[offN f]? = some (.int .i64 (L.num f)) := by
  have hf : f = 0 ∨ f = 1 ∨ f = 2 ∨ f = 3 ∨ f = 4 ∨ f = 5 ∨ f = 6 ∨ f = 7 ∨ f = 8 ∨ f = 11 ∨ f = 12 ∨ f = 13 := by
    simp [isNum] at h; omega
  rcases hf with rfl | rfl | rfl | rfl | rfl | rfl | rfl | rfl | rfl | rfl | rfl | rfl <;> simp [Let.row, offN, Array.getElem?_append]
@[go_sem] theorem Let_7 (L : Let) : L.row[7]? = some (.int .i64 (L.num 4)) := Let_num L 4 rfl
@[go_sem] theorem Let_8 (L : Let) : L.row[8]? = some (.int .i64 (L.num 5)) := Let_num L 5 rfl
@[go_sem] theorem Let_10 (L : Let) : L.row[10]? = some (.int .i64 (L.num 7)) := Let_num L 7 rfl
attribute [irreducible] Let.row
def ptrs (b : Nat) : Array Value := #[.pointer (some ⟨b, 3, none⟩), .pointer (some ⟨b, 4, none⟩), .pointer (some ⟨b, 5, none⟩), .pointer (some ⟨b, 6, none⟩), .pointer (some ⟨b, 7, none⟩), .pointer (some ⟨b, 8, none⟩), .pointer (some ⟨b, 9, none⟩), .pointer (some ⟨b, 10, none⟩), .pointer (some ⟨b, 11, none⟩), .pointer none, .pointer none, .pointer (some ⟨b, 24, none⟩), .pointer (some ⟨b, 25, none⟩), .pointer (some ⟨b, 26, none⟩), .pointer none, .pointer none, .pointer none]
theorem ptrs_get (b f : Nat) (h : f < 17) : (ptrs b)[f]? = some (ptrV b f) := by
  have hf : f = 0 ∨ f = 1 ∨ f = 2 ∨ f = 3 ∨ f = 4 ∨ f = 5 ∨ f = 6 ∨ f = 7 ∨ f = 8 ∨ f = 9 ∨ f = 10 ∨ f = 11 ∨ f = 12 ∨ f = 13 ∨ f = 14 ∨ f = 15 ∨ f = 16 := by omega
  rcases hf with rfl | rfl | rfl | rfl | rfl | rfl | rfl | rfl | rfl | rfl | rfl | rfl | rfl | rfl | rfl | rfl | rfl <;> rfl
theorem ptrs_size (b : Nat) : (ptrs b).size = 17 := rfl
set_option maxHeartbeats 2000000 in
set_option maxRecDepth 100000 in
theorem numbers_calls (b : Nat) (w : World) : Calls Tryz.prog 58 #[.pointer (some ⟨b, 0, none⟩)] w fun e w' => e = .returned (.agg (ptrs b)) ∧ Below w.heap.size w w' := by
  go_enter Tryz.func58, Tryz.ntmps58
  repeat' (first | go_skip | go_guarded | go_step | go_upon)
  go_still_tail 36, (by kernel_rfl)
  change wpList _ _ _ _ _ (w.alloc (.cells z117 117 (0, 0))).drew
  have h0 : obj (w.alloc (.cells z117 117 (0, 0))).drew w.heap.size = some (.cells z117 117 (0, 0)) := keep_drew (obj_alloc_at _ _ _ rfl)
  have hB : Below w.heap.size w (w.alloc (.cells z117 117 (0, 0))).drew := ((Below.refl _ _).alloc (Nat.le_refl _) _).drew
  generalize (w.alloc (.cells z117 117 (0, 0))).drew = w2 at *
  repeat' (first | go_skip | go_guarded | go_step | go_upon)
  refine bodyPost_ret (results_cell_row rfl _ _ w.heap.size 117 (ptrs b) _ _ rfl (setRow_heap _ _ _ _ _ _ h0) Tryz.underlying117 rfl (by kernel_rfl)) rfl ?_
  exact ⟨rfl, below_setRow hB (Nat.le_refl _) _⟩
set_option maxHeartbeats 2000000 in
theorem noSeries_calls (w : World) : Calls Tryz.prog 77 #[.agg serZ] w fun e w' => e = .returned (.bool true) ∧ Below w.heap.size w w' := by
  unfold serZ
  go_enter Tryz.func77, Tryz.ntmps77
  repeat' (first | go_skip | go_guarded | go_step | go_upon)
  go_ret
  exact ⟨rfl, (Below.refl _ _).alloc (Nat.le_refl _) _⟩
def srvK (k : Int) : Bool := decide (8 ≤ k) && decide (k ≤ 14)
def okC (s : Bool) (l : List Int) (i : Nat) : Bool := decide (0 ≤ l.getD i 0) && decide (l.getD i 0 ≤ 255) && (!s || (decide (l.getD i 0 < 16) && (decide (i = 0) || decide (l.getD (i - 1) 0 < l.getD i 0))))
def cellsB (k : Int) (l : List Int) : Bool := (List.range l.length).all (okC (srvK k) l) && (decide (k ≠ 17) || decide (0 < l.length))
theorem cellsB_bad {k : Int} {l : List Int} {i : Nat} (hi : i < l.length) (h : okC (srvK k) l i = false) : cellsB k l = false := by
  unfold cellsB
  have : (List.range l.length).all (okC (srvK k) l) = false := by
    rw [List.all_eq_false]
    exact ⟨i, List.mem_range.2 hi, by simp [h]⟩
  rw [this]; rfl
theorem cellsB_good {k : Int} {l : List Int} (h : ∀ i, i < l.length → okC (srvK k) l i = true) : cellsB k l = (decide (k ≠ 17) || decide (0 < l.length)) := by
  unfold cellsB
  have : (List.range l.length).all (okC (srvK k) l) = true := List.all_eq_true.2 fun i hi => h i (List.mem_range.1 hi)
  rw [this]; rfl
end Go.Proofs.YtmjblpkbfoipfaaGreatDoor
