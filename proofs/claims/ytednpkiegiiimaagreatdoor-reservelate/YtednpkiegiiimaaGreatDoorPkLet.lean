/-
  Letters without a series as rows; the walks of letter.numbers, noSeries, validCells.
-/
import Derived.Test.YtednpkiegiiimaaGreatDoorPkKey
set_option linter.unusedSectionVars false
set_option linter.constructorNameAsVariable false
set_option linter.unusedVariables false
set_option linter.unusedSimpArgs false
namespace Go.Proofs.YtednpkiegiiimaaGreatDoor
open Go.RowKit
/-- A letter: its numbers by the number of their field, its cells as a slice value, the 32 bytes at its end. No move, no series, no window. -/
structure Let where
  kind : Int
  frm : Int
  dst : Int
  num : Nat → Int
  cells : Value
  ref : List UInt8
/-- No series. -/
def serZ : Array Value := #[.slice none 0 0, .int .i64 0, .int .i64 0, .string ByteArray.empty, .int .i64 0, .int .i64 0, .slice none 0 0]
def movZ : Array Value := #[.int .i64 0, .bool false, .int .i64 0, .int .i64 0, .int .i64 0]
def Let.row (L : Let) : Array Value := #[.int .i64 L.kind, .int .i64 L.frm, .int .i64 L.dst, .int .i64 (L.num 0), .int .i64 (L.num 1), .int .i64 (L.num 2), .int .i64 (L.num 3), .int .i64 (L.num 4), .int .i64 (L.num 5), .int .i64 (L.num 6), .int .i64 (L.num 7), .int .i64 (L.num 8),
  .int .i64 0, .bool false, .int .i64 0, .int .i64 0, .int .i64 0,
  .slice none 0 0, .int .i64 0, .int .i64 0, .string ByteArray.empty, .int .i64 0, .int .i64 0, .slice none 0 0,
  .int .i64 (L.num 11), .int .i64 (L.num 12), .int .i64 (L.num 13), .int .i64 0, .int .i64 0, L.cells] ++ bRow L.ref
theorem Let_size (L : Let) (h : L.ref.length = 32) : L.row.size = 62 := by simp [Let.row, bRow_size, h]
theorem Let_all (L : Let) (h : L.ref.length = 32) : L.row.extract 0 62 = L.row := extract_all _ _ (Let_size L h)
theorem Let_ref (L : Let) (h : L.ref.length = 32) : L.row.extract 30 62 = bRow L.ref := by
  apply Array.ext'
  simp [Let.row, Array.toList_extract]
  apply List.take_of_length_le
  simp [bRow_size, h]
theorem Let_ser (L : Let) : L.row.extract 17 24 = serZ := by
  apply Array.ext'
  simp [Let.row, Array.toList_extract, serZ]
theorem Let_mov (L : Let) : L.row.extract 12 17 = movZ := by
  apply Array.ext'
  simp [Let.row, Array.toList_extract, movZ]
theorem Let_win (L : Let) : L.row.extract 27 29 = #[.int .i64 0, .int .i64 0] := by
  apply Array.ext'
  simp [Let.row, Array.toList_extract]
theorem Let_ones (L : Let) (h : L.cells.oneCell' = true) : ones L.row = true := by
  unfold ones
  rw [Array.all_eq_true_iff_forall_mem]
  intro x hx
  have hb := bRow_ones L.ref
  unfold ones at hb
  rw [Array.all_eq_true_iff_forall_mem] at hb
  simp only [Let.row, Array.mem_append] at hx
  rcases hx with hx | hx
  · simp at hx
    rcases hx with rfl | rfl | rfl | rfl | rfl | rfl | rfl | rfl | rfl | rfl | rfl | rfl | rfl | rfl | rfl | rfl | rfl | rfl | rfl | rfl | rfl | rfl | rfl | rfl | rfl <;> first | rfl | exact h
  · exact hb x hx
@[go_sem] theorem Let_0 (L : Let) : L.row[0]? = some (.int .i64 L.kind) := by simp [Let.row, Array.getElem?_append]
@[go_sem] theorem Let_1 (L : Let) : L.row[1]? = some (.int .i64 L.frm) := by simp [Let.row, Array.getElem?_append]
@[go_sem] theorem Let_2 (L : Let) : L.row[2]? = some (.int .i64 L.dst) := by simp [Let.row, Array.getElem?_append]
@[go_sem] theorem Let_29 (L : Let) : L.row[29]? = some L.cells := by simp [Let.row, Array.getElem?_append]
/-- Is a field a number? Its cell; the pointer to it. -/
def isNum (f : Nat) : Bool := decide (f ≤ 8) || (decide (11 ≤ f) && decide (f ≤ 13))
def offN (f : Nat) : Nat := if f ≤ 8 then 3 + f else f + 13
def ptrV (b f : Nat) : Value := if isNum f then .pointer (some ⟨b, offN f, none⟩) else .pointer none
theorem Let_num (L : Let) (f : Nat) (h : isNum f = true) : L.row[offN f]? = some (.int .i64 (L.num f)) := by
  have hf : f = 0 ∨ f = 1 ∨ f = 2 ∨ f = 3 ∨ f = 4 ∨ f = 5 ∨ f = 6 ∨ f = 7 ∨ f = 8 ∨ f = 11 ∨ f = 12 ∨ f = 13 := by
    simp [isNum] at h; omega
  rcases hf with rfl | rfl | rfl | rfl | rfl | rfl | rfl | rfl | rfl | rfl | rfl | rfl <;> simp [Let.row, offN, Array.getElem?_append]
@[go_sem] theorem Let_7 (L : Let) : L.row[7]? = some (.int .i64 (L.num 4)) := Let_num L 4 rfl
@[go_sem] theorem Let_8 (L : Let) : L.row[8]? = some (.int .i64 (L.num 5)) := Let_num L 5 rfl
@[go_sem] theorem Let_10 (L : Let) : L.row[10]? = some (.int .i64 (L.num 7)) := Let_num L 7 rfl
attribute [irreducible] Let.row
def ptrs (b : Nat) : Array Value := #[.pointer (some ⟨b, 3, none⟩), .pointer (some ⟨b, 4, none⟩), .pointer (some ⟨b, 5, none⟩), .pointer (some ⟨b, 6, none⟩), .pointer (some ⟨b, 7, none⟩), .pointer (some ⟨b, 8, none⟩), .pointer (some ⟨b, 9, none⟩), .pointer (some ⟨b, 10, none⟩), .pointer (some ⟨b, 11, none⟩), .pointer none, .pointer none, .pointer (some ⟨b, 24, none⟩), .pointer (some ⟨b, 25, none⟩), .pointer (some ⟨b, 26, none⟩), .pointer none, .pointer none, .pointer none]
theorem ptrs_get (b f : Nat) (h : f < 17) : (ptrs b)[f]? = some (ptrV b f) := by
  have hf : f = 0 ∨ f = 1 ∨ f = 2 ∨ f = 3 ∨ f = 4 ∨ f = 5 ∨ f = 6 ∨ f = 7 ∨ f = 8 ∨ f = 9 ∨ f = 10 ∨ f = 11 ∨ f = 12 ∨ f = 13 ∨ f = 14 ∨ f = 15 ∨ f = 16 := by omega
  rcases hf with rfl | rfl | rfl | rfl | rfl | rfl | rfl | rfl | rfl | rfl | rfl | rfl | rfl | rfl | rfl | rfl | rfl <;> rfl
theorem ptrs_size (b : Nat) : (ptrs b).size = 17 := rfl
set_option maxHeartbeats 2000000 in
set_option maxRecDepth 100000 in
theorem numbers_calls (b : Nat) (w : World) : Calls Tryz.prog 72 #[.pointer (some ⟨b, 0, none⟩)] w fun e w' => e = .returned (.agg (ptrs b)) ∧ Below w.heap.size w w' := by
  go_enter Tryz.func72, Tryz.ntmps72
  repeat' (first | go_skip | go_guarded | go_step | go_upon)
  go_still_tail 36, (by kernel_rfl)
  change wpList _ _ _ _ _ (w.alloc (.cells z131 131 (0, 0))).drew
  have h0 : obj (w.alloc (.cells z131 131 (0, 0))).drew w.heap.size = some (.cells z131 131 (0, 0)) := keep_drew (obj_alloc_at _ _ _ rfl)
  have hB : Below w.heap.size w (w.alloc (.cells z131 131 (0, 0))).drew := ((Below.refl _ _).alloc (Nat.le_refl _) _).drew
  generalize (w.alloc (.cells z131 131 (0, 0))).drew = w2 at *
  repeat' (first | go_skip | go_guarded | go_step | go_upon)
  refine bodyPost_ret (results_cell_row rfl _ _ w.heap.size 131 (ptrs b) _ _ rfl (setRow_heap _ _ _ _ _ _ h0) Tryz.underlying131 rfl (by kernel_rfl)) rfl ?_
  exact ⟨rfl, below_setRow hB (Nat.le_refl _) _⟩
set_option maxHeartbeats 2000000 in
theorem noSeries_calls (w : World) : Calls Tryz.prog 43 #[.agg serZ] w fun e w' => e = .returned (.bool true) ∧ Below w.heap.size w w' := by
  unfold serZ
  go_enter Tryz.func43, Tryz.ntmps43
  repeat' (first | go_skip | go_guarded | go_step | go_upon)
  go_ret
  exact ⟨rfl, (Below.refl _ _).alloc (Nat.le_refl _) _⟩
/-- A slice of numbers. -/
def HasI (W : World) (v : Value) (l : List Int) : Prop := ∃ ao c, v = .slice ao l.length c ∧ (ao = none → l = [] ∧ c = 0) ∧ ∀ g off x, ao = some ⟨g, off, x⟩ → x = none ∧ l.length ≤ c ∧ g < W.heap.size ∧ ∀ j, j < l.length → W.cell? ⟨g, off + j, none⟩ = some (.int .i64 (l.getD j 0))
theorem HasI.below {W W' : World} {v : Value} {l : List Int} (h : HasI W v l) (hB : Below W.heap.size W W') : HasI W' v l := by
  obtain ⟨ao, c, h1, h2, h3⟩ := h
  refine ⟨ao, c, h1, h2, fun g off x hx => ?_⟩
  obtain ⟨q1, q2, q3, q4⟩ := h3 g off x hx
  exact ⟨q1, q2, Nat.lt_of_lt_of_le q3 hB.size, fun j hj => (hB.cell (p := ⟨g, off + j, none⟩) q3).trans (q4 j hj)⟩
theorem HasI.one {W : World} {v : Value} {l : List Int} (h : HasI W v l) : v.oneCell' = true := by
  obtain ⟨ao, c, rfl, _⟩ := h; rfl
theorem HasI.nil (W : World) : HasI W (.slice none 0 0) [] := ⟨none, 0, rfl, fun _ => ⟨rfl, rfl⟩, fun _ _ _ h => by cases h⟩
def srvK (k : Int) : Bool := decide (8 ≤ k) && decide (k ≤ 14)
/-- Is cell i as it should be? -/
def okC (s : Bool) (l : List Int) (i : Nat) : Bool := decide (0 ≤ l.getD i 0) && decide (l.getD i 0 ≤ 255) && (!s || (decide (l.getD i 0 < 16) && (decide (i = 0) || decide (l.getD (i - 1) 0 < l.getD i 0))))
def cellsB (k : Int) (l : List Int) : Bool := (List.range l.length).all (okC (srvK k) l) && (decide (k ≠ 17) || decide (0 < l.length))
theorem cellsB_bad {k : Int} {l : List Int} {i : Nat} (hi : i < l.length) (h : okC (srvK k) l i = false) : cellsB k l = false := by
  unfold cellsB
  have : (List.range l.length).all (okC (srvK k) l) = false := by
    rw [List.all_eq_false]
    exact ⟨i, List.mem_range.2 hi, by simp [h]⟩
  rw [this]; rfl
theorem cellsB_good {k : Int} {l : List Int} (h : ∀ i, i < l.length → okC (srvK k) l i = true) : cellsB k l = (decide (k ≠ 17) || decide (0 < l.length)) := by
  unfold cellsB
  have : (List.range l.length).all (okC (srvK k) l) = true := List.all_eq_true.2 fun i hi => h i (List.mem_range.1 hi)
  rw [this]; rfl
end Go.Proofs.YtednpkiegiiimaaGreatDoor
namespace Go.Proofs.YtednpkiegiiimaaGreatDoor
open Go.RowKit Go.CE Go.CE.V
attribute [local instance] Sn Sn_ok
def rawIndex (P : Program) (t : TypeId) (x i : Value) (w : World) : Result Value := (Instr.index t x i).run P w
theorem run_index_gen {P : Program} {t e n : Nat} {cs : Array Value} {k : IntKind} {i : Int} {w : World} (ht : (CE.tyOf P t).map (fun ty => ty.d) = some (.arr n e)) (he : (CE.tyOf P e).map (fun ty => (CE.agg ty.d, ty.size)) = some (false, 1)) (h0 : 0 ≤ i) (h1 : i < n) :
    (Instr.index t (.agg cs) (.int k i)).run P w = (cs[i.toNat]?).elim (rawIndex P t (.agg cs) (.int k i) w) fun v => .ok v w := by
  obtain ⟨ty, ht, htd⟩ := Option.map_eq_some_iff.1 ht
  obtain ⟨te, he, hed⟩ := Option.map_eq_some_iff.1 he
  obtain ⟨hea, hes⟩ := Prod.mk.inj hed
  obtain ⟨F⟩ := tyOf_of ht
  obtain ⟨Fe⟩ := tyOf_of he
  have hd := htd
  rw [F.ed] at hd
  have hdd := tdOf_arr hd
  cases hc : cs[i.toNat]? with
  | none => rfl
  | some v =>
    have hz := Fe.run_size
    rw [hes] at hz
    have ha := Fe.run_isAgg
    rw [hea] at ha
    simp [Instr.index, asIntOf, F.run_underlying, hdd, h0, h1, hz, part, ha, hc]
@[go_sem] theorem ix_ptr (cs : Array Value) (k : IntKind) (i : Int) (w : World) (h0 : 0 ≤ i) (h1 : i < 17) : (Instr.index 131 (.agg cs) (.int k i)).run Tryz.prog w = (cs[i.toNat]?).elim (rawIndex Tryz.prog 131 (.agg cs) (.int k i) w) fun v => .ok v w :=
  run_index_gen (n := 17) (e := 130) (by kernel_rfl) (by kernel_rfl) h0 h1
@[go_sem] theorem ix_bool (cs : Array Value) (k : IntKind) (i : Int) (w : World) (h0 : 0 ≤ i) (h1 : i < 17) : (Instr.index 136 (.agg cs) (.int k i)).run Tryz.prog w = (cs[i.toNat]?).elim (rawIndex Tryz.prog 136 (.agg cs) (.int k i) w) fun v => .ok v w :=
  run_index_gen (n := 17) (e := 4) (by kernel_rfl) (by kernel_rfl) h0 h1
@[go_sem] theorem ix_func (cs : Array Value) (k : IntKind) (i : Int) (w : World) (h0 : 0 ≤ i) (h1 : i < 17) : (Instr.index 154 (.agg cs) (.int k i)).run Tryz.prog w = (cs[i.toNat]?).elim (rawIndex Tryz.prog 154 (.agg cs) (.int k i) w) fun v => .ok v w :=
  run_index_gen (n := 17) (e := 1) (by kernel_rfl) (by kernel_rfl) h0 h1
theorem run_eq_u8 (d : Nat) (x y : Int) (w : World) : (Op.equalIn (d + 1) 5 (.int .u8 x) (.int .u8 y)).run Tryz.prog w = .ok (x == y) w := by
  have hu := Tryz.underlying5
  simp [Op.equalIn, run_underlying hu]
theorem run_eq_items (d : Nat) (a b : List UInt8) (ha : a.length = 32) (hb : b.length = 32) (w : World) : ∀ is : List Nat, (∀ i ∈ is, i < 32) →
    (Op.eqItems (d + 1) 5 1 (bRow a) (bRow b) is).run Tryz.prog w = .ok (is.all fun i => a.getD i 0 == b.getD i 0) w
  | [], _ => by simp [Op.eqItems]
  | i :: is, h => by
    have hi := h i (by simp)
    have e1 := bRow_get a i (by omega)
    have e2 := bRow_get b i (by omega)
    obtain ⟨te, he, hed⟩ := Option.map_eq_some_iff.1 (show (CE.tyOf Tryz.prog 5).map (fun ty => (CE.agg ty.d, ty.size)) = some (false, 1) by kernel_rfl)
    obtain ⟨hea, hes⟩ := Prod.mk.inj hed
    obtain ⟨Fe⟩ := tyOf_of he
    have hag := Fe.run_isAgg
    rw [hea] at hag
    have ih := run_eq_items d a b ha hb w is (fun j hj => h j (by simp [hj]))
    simp only [Op.eqItems, Sem.run_bind, part, hag, Result.andThen_ok, Nat.mul_one, e1, e2, Bool.false_eq_true, if_false, Sem.run_pure, run_eq_u8, List.all_cons]
    have hc : (((a.getD i 0).toNat : Int) == ((b.getD i 0).toNat : Int)) = (a.getD i 0 == b.getD i 0) := by
      by_cases e : a.getD i 0 = b.getD i 0
      · rw [e]; simp
      · have : (a.getD i 0).toNat ≠ (b.getD i 0).toNat := fun h => e (UInt8.toNat_inj.1 h)
        rw [beq_eq_false_iff_ne.2 e, beq_eq_false_iff_ne.2 (by omega)]
    rw [hc]
    cases (a.getD i 0 == b.getD i 0)
    · simp
    · simp [ih]
/-- Digests by value: equal or not. -/
theorem eq_dig (a b : List UInt8) (ha : a.length = 32) (hb : b.length = 32) (w : World) : (Op.equalIn 10000 51 (.agg (bRow a)) (.agg (bRow b))).run Tryz.prog w = .ok (decide (a = b)) w := by
  obtain ⟨i0, hi, hz0, hz1, hz2⟩ := info_u8
  rw [run_equalIn_array w 9999 (bRow a) (bRow b) (n := 32) (e := 5) (by exact Tryz.underlying51) hi, show Tryz.prog.cellsOf 5 = 1 by kernel_rfl, run_eq_items 9998 a b ha hb w _ (fun i hi => List.mem_range.1 hi)]
  refine congrArg (fun b => Result.ok b w) ?_
  by_cases e : a = b
  · subst e; rw [decide_eq_true rfl]; exact List.all_eq_true.2 fun i _ => by simp
  · rw [decide_eq_false e, List.all_eq_false]
    refine Classical.byContradiction fun hn => e (List.ext_getElem? fun i => ?_)
    by_cases hi : i < 32
    · have : a.getD i 0 = b.getD i 0 := Classical.byContradiction fun hne => hn ⟨i, List.mem_range.2 hi, by simpa using hne⟩
      rw [List.getD_eq_getElem?_getD, List.getD_eq_getElem?_getD, List.getElem?_eq_getElem (by omega), List.getElem?_eq_getElem (by omega)] at this
      rw [List.getElem?_eq_getElem (by omega), List.getElem?_eq_getElem (by omega)]
      exact congrArg some this
    · rw [List.getElem?_eq_none (by omega), List.getElem?_eq_none (by omega)]
end Go.Proofs.YtednpkiegiiimaaGreatDoor
namespace Go.Proofs.YtednpkiegiiimaaGreatDoor
open Go.RowKit
/-- The range of a field. -/
def limB (kd f : Nat) : Nat × Nat := if usesN kd f = false ∨ (kd = 8 ∧ (f = 4 ∨ f = 5 ∨ f = 6 ∨ f = 12)) then (0, 0) else limT kd f
def numOk (kd f : Nat) (n : Int) : Bool := decide (((limB kd f).1 : Int) ≤ n) && decide (n ≤ ((limB kd f).2 : Int))
def numbersB (kd : Nat) (num : Nat → Int) : Bool := (List.range 17).all (fun f => !isNum f || numOk kd f (num f)) && (decide (kd ≠ 5) || decide (num 5 ≠ num 4))
theorem numbersB_bad {kd : Nat} {num : Nat → Int} {f : Nat} (hf : f < 17) (hn : isNum f = true) (h : numOk kd f (num f) = false) : numbersB kd num = false := by
  unfold numbersB
  have : (List.range 17).all (fun f => !isNum f || numOk kd f (num f)) = false := by
    rw [List.all_eq_false]
    exact ⟨f, List.mem_range.2 hf, by simp [h, hn]⟩
  rw [this]; rfl
theorem numbersB_good {kd : Nat} {num : Nat → Int} (h : ∀ f, f < 17 → (!isNum f || numOk kd f (num f)) = true) : numbersB kd num = (decide (kd ≠ 5) || decide (num 5 ≠ num 4)) := by
  unfold numbersB
  have : (List.range 17).all (fun f => !isNum f || numOk kd f (num f)) = true := List.all_eq_true.2 fun i hi => h i (List.mem_range.1 hi)
  rw [this]; rfl
set_option maxHeartbeats 4000000 in
set_option maxRecDepth 100000 in
theorem vn_calls (cs : Array Value) (num : Nat → Int) (kd : Nat) (hkd : kd < 19) (h0 : cs[0]? = some (.int .i64 (kd : Int))) (hser : cs.extract 17 24 = serZ) (hle : 24 ≤ cs.size) (HNum : ∀ f, isNum f = true → cs[offN f]? = some (.int .i64 (num f))) (w : World) :
    Calls Tryz.prog 40 #[.agg cs] w fun e w' => e = .returned (.bool (numbersB kd num)) ∧ Below w.heap.size w w' := by
  have h7 : cs[7]? = some (.int .i64 (num 4)) := HNum 4 rfl
  have h8 : cs[8]? = some (.int .i64 (num 5)) := HNum 5 rfl
  have hB : Below w.heap.size w (w.alloc (.cells cs 53 (0, 0))) := (Below.refl _ _).alloc (Nat.le_refl _) _
  have k1 : ∀ f, f < 17 → isNum f = true → numOk kd f (num f) = false → numbersB kd num = false := fun f h1 h2 h3 => numbersB_bad h1 h2 h3
  have HK1 := Lib.hid k1
  have k2 : (∀ f, f < 17 → (!isNum f || numOk kd f (num f)) = true) → numbersB kd num = (decide (kd ≠ 5) || decide (num 5 ≠ num 4)) := numbersB_good
  have HK2 := Lib.hid k2
  have HN := Lib.hid HNum
  clear k1 k2 HNum
  generalize numbersB kd num = R at *
  have split : (kd = 8 ∧ (kd : Int) = 8 ∧ (kd : Int) ≠ 5) ∨ (kd ≠ 8 ∧ (kd : Int) ≠ 8) := by omega
  rcases split with ⟨e8, k8, k5⟩ | ⟨e8, k8⟩
  all_goals
    go_enter Tryz.func40, Tryz.ntmps40
    repeat' (first | (go_at_call 43; ((with_reducible refine (noSeries_calls _).mono ?_)); rintro r w1 ⟨rfl, hb1⟩; dsimp only) | (go_at_call 72; ((with_reducible refine (numbers_calls _ _).mono ?_)); rintro r w2 ⟨rfl, hb2⟩; dsimp only) | go_skip | go_guarded | go_step | go_upon)
    have hO : obj w2 w.heap.size = some (.cells cs 53 (0, 0)) := by
      first
      | exact keep_below (keep_below (obj_alloc_at _ _ _ rfl) hb1 (by simp)) hb2 (by have := hb1.size; simp at this; omega)
      | exact keep_below (obj_alloc_at _ _ _ rfl) hb2 (by simp)
    have hB2 : Below w.heap.size w w2 := by
      first
      | exact (hB.trans (hb1.mono hB.size)).trans (hb2.mono (hB.trans (hb1.mono hB.size)).size)
      | exact hB.trans (hb2.mono hB.size)
    have hp := ptrs_get w.heap.size
    generalize ptrs w.heap.size = ps at *
    have HP := Lib.hid hp
    clear hp hb2 hB
    try clear hb1
    go_loopw [18] (fun i wr => ∃ k : Nat, k ≤ 17 ∧ i = .int .i64 k ∧ (∀ f, f < k → (!isNum f || numOk kd f (num f)) = true) ∧ obj wr w.heap.size = some (.cells cs 53 (0, 0)) ∧ Below w.heap.size w wr) (fun i _ => (17 - intOf i).toNat)
    case atStart => exact ⟨0, by omega, rfl, fun f hf => by omega, hO, hB2⟩
    case round =>
      clear hO hB2
      obtain ⟨k, hk, rfl, hok, hO, hB⟩ := hrel
      have HOK := Lib.hid hok
      have c0 := (row_cells hO 0).trans h0
      have c7 := (row_cells hO 7).trans h7
      have c8 := (row_cells hO 8).trans h8
      have HO := Lib.hid hO
      clear hok hO
      by_cases hlt : k < 17
      · have hpk := HP.out k hlt
        by_cases hn : isNum k = true
        · have HNk := Lib.hid hn
          have hcs := HN.out k hn
          have cn := (row_cells HO.out (offN k)).trans hcs
          have hcs := Lib.hid hcs
          have hpt : ptrV w.heap.size k = .pointer (some ⟨w.heap.size, offN k, none⟩) := by unfold ptrV; rw [if_pos hn]
          rw [hpt] at hpk
          clear hpt hn
          have hstep : numOk kd k (num k) = true → ∀ f, f < k + 1 → (!isNum f || numOk kd f (num f)) = true := fun h f hf => by
            by_cases e : f = k
            · subst e; simp [h]
            · exact HOK.out f (by omega)
          have HSt := Lib.hid hstep
          have hbad : numOk kd k (num k) = false → false = R := fun h => (HK1.out k hlt HNk.out h).symm
          have HBd := Lib.hid hbad
          clear hstep hbad
          have HOk := Lib.hid (show numOk kd k (num k) = (decide (((limB kd k).1 : Int) ≤ num k) && decide (num k ≤ ((limB kd k).2 : Int))) from rfl)
          generalize num k = n at *
          obtain ⟨⟨lo, hi⟩, hlim⟩ : ∃ p, limT kd k = p := ⟨_, rfl⟩
          cases hu : usesN kd k
          · have hl : limB kd k = (0, 0) := by unfold limB; rw [if_pos (.inl hu)]
            rw [hl] at HOk
            clear hl
            by_cases a1 : n < (0 : Int)
            · repeat' (first | (go_at_call 73; ((with_reducible refine (limits_callsI _ kd k lo hi (by first | rfl | exact k8.symm) hkd hlt hlim _).mono ?_)); rintro r w3 ⟨rfl, hb3⟩; have hO3 := keep_below HO.out hb3 (row_lt HO.out); have hB3 := hB.trans (hb3.mono hB.size); have c03 := (row_cells hO3 0).trans h0; have cn3 := (row_cells hO3 (offN k)).trans hcs.out; have HO3 := Lib.hid hO3; clear hO3; dsimp only) | (go_at_call 42; ((with_reducible refine (uses_callsI _ kd k _ (by first | rfl | exact k8.symm) hkd hlt hu _).mono ?_)); rintro r w4 ⟨rfl, hb4⟩; have hO4 := keep_below HO3.out hb4 (row_lt HO3.out); have hB4 := hB3.trans (hb4.mono hB3.size); have c04 := (row_cells hO4 0).trans h0; have c74 := (row_cells hO4 7).trans h7; have c84 := (row_cells hO4 8).trans h8; have cn4 := (row_cells hO4 (offN k)).trans hcs.out; have HO4 := Lib.hid hO4; clear hO4; dsimp only) | go_skip | go_guarded | go_step | go_upon)
              go_ret
              exact ⟨by rw [← HBd.out (by rw [HOk.out]; simp; omega)]; rfl, hB4⟩
            · by_cases a2 : (0 : Int) < n
              · repeat' (first | (go_at_call 73; ((with_reducible refine (limits_callsI _ kd k lo hi (by first | rfl | exact k8.symm) hkd hlt hlim _).mono ?_)); rintro r w3 ⟨rfl, hb3⟩; have hO3 := keep_below HO.out hb3 (row_lt HO.out); have hB3 := hB.trans (hb3.mono hB.size); have c03 := (row_cells hO3 0).trans h0; have cn3 := (row_cells hO3 (offN k)).trans hcs.out; have HO3 := Lib.hid hO3; clear hO3; dsimp only) | (go_at_call 42; ((with_reducible refine (uses_callsI _ kd k _ (by first | rfl | exact k8.symm) hkd hlt hu _).mono ?_)); rintro r w4 ⟨rfl, hb4⟩; have hO4 := keep_below HO3.out hb4 (row_lt HO3.out); have hB4 := hB3.trans (hb4.mono hB3.size); have c04 := (row_cells hO4 0).trans h0; have c74 := (row_cells hO4 7).trans h7; have c84 := (row_cells hO4 8).trans h8; have cn4 := (row_cells hO4 (offN k)).trans hcs.out; have HO4 := Lib.hid hO4; clear hO4; dsimp only) | go_skip | go_guarded | go_step | go_upon)
                go_ret
                exact ⟨by rw [← HBd.out (by rw [HOk.out]; simp; omega)]; rfl, hB4⟩
              · repeat' (first | (go_at_call 73; ((with_reducible refine (limits_callsI _ kd k lo hi (by first | rfl | exact k8.symm) hkd hlt hlim _).mono ?_)); rintro r w3 ⟨rfl, hb3⟩; have hO3 := keep_below HO.out hb3 (row_lt HO.out); have hB3 := hB.trans (hb3.mono hB.size); have c03 := (row_cells hO3 0).trans h0; have cn3 := (row_cells hO3 (offN k)).trans hcs.out; have HO3 := Lib.hid hO3; clear hO3; dsimp only) | (go_at_call 42; ((with_reducible refine (uses_callsI _ kd k _ (by first | rfl | exact k8.symm) hkd hlt hu _).mono ?_)); rintro r w4 ⟨rfl, hb4⟩; have hO4 := keep_below HO3.out hb4 (row_lt HO3.out); have hB4 := hB3.trans (hb4.mono hB3.size); have c04 := (row_cells hO4 0).trans h0; have c74 := (row_cells hO4 7).trans h7; have c84 := (row_cells hO4 8).trans h8; have cn4 := (row_cells hO4 (offN k)).trans hcs.out; have HO4 := Lib.hid hO4; clear hO4; dsimp only) | go_skip | go_guarded | go_step | go_upon)
                go_roundw
                case rel => exact ⟨k + 1, by omega, by go_num, HSt.out (by rw [HOk.out]; simp; omega), HO4.out, hB4⟩
                case measure => simp [intOf]; omega
          · by_cases hx : kd = 8 ∧ (k = 4 ∨ k = 5 ∨ k = 6 ∨ k = 12)
            · have hl : limB kd k = (0, 0) := by unfold limB; rw [if_pos (.inr hx)]
              rw [hl] at HOk
              clear hl
              have hx2 : (((k : Int) == 4) = true) ∨ (((k : Int) == 4) = false ∧ ((k : Int) == 5) = true) ∨ (((k : Int) == 4) = false ∧ ((k : Int) == 5) = false ∧ ((k : Int) == 6) = true) ∨ (((k : Int) == 4) = false ∧ ((k : Int) == 5) = false ∧ ((k : Int) == 6) = false ∧ ((k : Int) == 12) = true) := by
                have hx3 := hx.2
                simp only [beq_eq_false_iff_ne, beq_iff_eq, ne_eq]
                omega
              try exact absurd hx.1 e8
              all_goals (clear hx)
              all_goals (rcases hx2 with b1 | ⟨b1, b2⟩ | ⟨b1, b2, b3⟩ | ⟨b1, b2, b3, b4⟩)
              all_goals
                by_cases a1 : n < (0 : Int)
                · repeat' (first | (go_at_call 73; ((with_reducible refine (limits_callsI _ kd k lo hi (by first | rfl | exact k8.symm) hkd hlt hlim _).mono ?_)); rintro r w3 ⟨rfl, hb3⟩; have hO3 := keep_below HO.out hb3 (row_lt HO.out); have hB3 := hB.trans (hb3.mono hB.size); have c03 := (row_cells hO3 0).trans h0; have cn3 := (row_cells hO3 (offN k)).trans hcs.out; have HO3 := Lib.hid hO3; clear hO3; dsimp only) | (go_at_call 42; ((with_reducible refine (uses_callsI _ kd k _ (by first | rfl | exact k8.symm) hkd hlt hu _).mono ?_)); rintro r w4 ⟨rfl, hb4⟩; have hO4 := keep_below HO3.out hb4 (row_lt HO3.out); have hB4 := hB3.trans (hb4.mono hB3.size); have c04 := (row_cells hO4 0).trans h0; have c74 := (row_cells hO4 7).trans h7; have c84 := (row_cells hO4 8).trans h8; have cn4 := (row_cells hO4 (offN k)).trans hcs.out; have HO4 := Lib.hid hO4; clear hO4; dsimp only) | go_skip | go_guarded | go_step | go_upon)
                  go_ret
                  exact ⟨by rw [← HBd.out (by rw [HOk.out]; simp; omega)]; rfl, hB4⟩
                · by_cases a2 : (0 : Int) < n
                  · repeat' (first | (go_at_call 73; ((with_reducible refine (limits_callsI _ kd k lo hi (by first | rfl | exact k8.symm) hkd hlt hlim _).mono ?_)); rintro r w3 ⟨rfl, hb3⟩; have hO3 := keep_below HO.out hb3 (row_lt HO.out); have hB3 := hB.trans (hb3.mono hB.size); have c03 := (row_cells hO3 0).trans h0; have cn3 := (row_cells hO3 (offN k)).trans hcs.out; have HO3 := Lib.hid hO3; clear hO3; dsimp only) | (go_at_call 42; ((with_reducible refine (uses_callsI _ kd k _ (by first | rfl | exact k8.symm) hkd hlt hu _).mono ?_)); rintro r w4 ⟨rfl, hb4⟩; have hO4 := keep_below HO3.out hb4 (row_lt HO3.out); have hB4 := hB3.trans (hb4.mono hB3.size); have c04 := (row_cells hO4 0).trans h0; have c74 := (row_cells hO4 7).trans h7; have c84 := (row_cells hO4 8).trans h8; have cn4 := (row_cells hO4 (offN k)).trans hcs.out; have HO4 := Lib.hid hO4; clear hO4; dsimp only) | go_skip | go_guarded | go_step | go_upon)
                    go_ret
                    exact ⟨by rw [← HBd.out (by rw [HOk.out]; simp; omega)]; rfl, hB4⟩
                  · repeat' (first | (go_at_call 73; ((with_reducible refine (limits_callsI _ kd k lo hi (by first | rfl | exact k8.symm) hkd hlt hlim _).mono ?_)); rintro r w3 ⟨rfl, hb3⟩; have hO3 := keep_below HO.out hb3 (row_lt HO.out); have hB3 := hB.trans (hb3.mono hB.size); have c03 := (row_cells hO3 0).trans h0; have cn3 := (row_cells hO3 (offN k)).trans hcs.out; have HO3 := Lib.hid hO3; clear hO3; dsimp only) | (go_at_call 42; ((with_reducible refine (uses_callsI _ kd k _ (by first | rfl | exact k8.symm) hkd hlt hu _).mono ?_)); rintro r w4 ⟨rfl, hb4⟩; have hO4 := keep_below HO3.out hb4 (row_lt HO3.out); have hB4 := hB3.trans (hb4.mono hB3.size); have c04 := (row_cells hO4 0).trans h0; have c74 := (row_cells hO4 7).trans h7; have c84 := (row_cells hO4 8).trans h8; have cn4 := (row_cells hO4 (offN k)).trans hcs.out; have HO4 := Lib.hid hO4; clear hO4; dsimp only) | go_skip | go_guarded | go_step | go_upon)
                    go_roundw
                    case rel => exact ⟨k + 1, by omega, by go_num, HSt.out (by rw [HOk.out]; simp; omega), HO4.out, hB4⟩
                    case measure => simp [intOf]; omega
            · have hl : limB kd k = (lo, hi) := by unfold limB; rw [if_neg (fun h => h.elim (fun h => by rw [hu] at h; cases h) hx), hlim]
              rw [hl] at HOk
              clear hl
              have hx2 : kd = 8 → (((k : Int) == 4) = false ∧ ((k : Int) == 5) = false ∧ ((k : Int) == 6) = false ∧ ((k : Int) == 12) = false) := by
                simp only [beq_eq_false_iff_ne, ne_eq]
                omega
              clear hx
              try (have hx4 := hx2 (by assumption); obtain ⟨b1, b2, b3, b4⟩ := hx4)
              try clear hx2
              by_cases a1 : n < (lo : Int)
              · repeat' (first | (go_at_call 73; ((with_reducible refine (limits_callsI _ kd k lo hi (by first | rfl | exact k8.symm) hkd hlt hlim _).mono ?_)); rintro r w3 ⟨rfl, hb3⟩; have hO3 := keep_below HO.out hb3 (row_lt HO.out); have hB3 := hB.trans (hb3.mono hB.size); have c03 := (row_cells hO3 0).trans h0; have cn3 := (row_cells hO3 (offN k)).trans hcs.out; have HO3 := Lib.hid hO3; clear hO3; dsimp only) | (go_at_call 42; ((with_reducible refine (uses_callsI _ kd k _ (by first | rfl | exact k8.symm) hkd hlt hu _).mono ?_)); rintro r w4 ⟨rfl, hb4⟩; have hO4 := keep_below HO3.out hb4 (row_lt HO3.out); have hB4 := hB3.trans (hb4.mono hB3.size); have c04 := (row_cells hO4 0).trans h0; have c74 := (row_cells hO4 7).trans h7; have c84 := (row_cells hO4 8).trans h8; have cn4 := (row_cells hO4 (offN k)).trans hcs.out; have HO4 := Lib.hid hO4; clear hO4; dsimp only) | go_skip | go_guarded | go_step | go_upon)
                go_ret
                exact ⟨by rw [← HBd.out (by rw [HOk.out]; simp; omega)]; rfl, hB4⟩
              · by_cases a2 : (hi : Int) < n
                · repeat' (first | (go_at_call 73; ((with_reducible refine (limits_callsI _ kd k lo hi (by first | rfl | exact k8.symm) hkd hlt hlim _).mono ?_)); rintro r w3 ⟨rfl, hb3⟩; have hO3 := keep_below HO.out hb3 (row_lt HO.out); have hB3 := hB.trans (hb3.mono hB.size); have c03 := (row_cells hO3 0).trans h0; have cn3 := (row_cells hO3 (offN k)).trans hcs.out; have HO3 := Lib.hid hO3; clear hO3; dsimp only) | (go_at_call 42; ((with_reducible refine (uses_callsI _ kd k _ (by first | rfl | exact k8.symm) hkd hlt hu _).mono ?_)); rintro r w4 ⟨rfl, hb4⟩; have hO4 := keep_below HO3.out hb4 (row_lt HO3.out); have hB4 := hB3.trans (hb4.mono hB3.size); have c04 := (row_cells hO4 0).trans h0; have c74 := (row_cells hO4 7).trans h7; have c84 := (row_cells hO4 8).trans h8; have cn4 := (row_cells hO4 (offN k)).trans hcs.out; have HO4 := Lib.hid hO4; clear hO4; dsimp only) | go_skip | go_guarded | go_step | go_upon)
                  go_ret
                  exact ⟨by rw [← HBd.out (by rw [HOk.out]; simp; omega)]; rfl, hB4⟩
                · repeat' (first | (go_at_call 73; ((with_reducible refine (limits_callsI _ kd k lo hi (by first | rfl | exact k8.symm) hkd hlt hlim _).mono ?_)); rintro r w3 ⟨rfl, hb3⟩; have hO3 := keep_below HO.out hb3 (row_lt HO.out); have hB3 := hB.trans (hb3.mono hB.size); have c03 := (row_cells hO3 0).trans h0; have cn3 := (row_cells hO3 (offN k)).trans hcs.out; have HO3 := Lib.hid hO3; clear hO3; dsimp only) | (go_at_call 42; ((with_reducible refine (uses_callsI _ kd k _ (by first | rfl | exact k8.symm) hkd hlt hu _).mono ?_)); rintro r w4 ⟨rfl, hb4⟩; have hO4 := keep_below HO3.out hb4 (row_lt HO3.out); have hB4 := hB3.trans (hb4.mono hB3.size); have c04 := (row_cells hO4 0).trans h0; have c74 := (row_cells hO4 7).trans h7; have c84 := (row_cells hO4 8).trans h8; have cn4 := (row_cells hO4 (offN k)).trans hcs.out; have HO4 := Lib.hid hO4; clear hO4; dsimp only) | go_skip | go_guarded | go_step | go_upon)
                  go_roundw
                  case rel => exact ⟨k + 1, by omega, by go_num, HSt.out (by rw [HOk.out]; simp; omega), HO4.out, hB4⟩
                  case measure => simp [intOf]; omega
        · have hpt : ptrV w.heap.size k = .pointer none := by unfold ptrV; rw [if_neg hn]
          rw [hpt] at hpk
          clear hpt
          repeat' (first | go_skip | go_guarded | go_step | go_upon)
          trace_state
          go_roundw
          case rel => exact ⟨k + 1, by omega, by go_num, fun f hf => by
            by_cases e : f = k
            · subst e; simp [hn]
            · exact HOK.out f (by omega), HO.out, hB⟩
          case measure => simp [intOf]; omega
      · have he : R = (decide (kd ≠ 5) || decide (num 5 ≠ num 4)) := HK2.out fun f hf => HOK.out f (by omega)
        by_cases m5 : (kd : Int) = 5
        · have m5' : kd = 5 := by omega
          try exact absurd m5 k5
          all_goals (clear HOK HK1 HK2 HN HP)
          all_goals (repeat' (first | go_skip | go_guarded | go_step | go_upon))
          all_goals go_ret
          all_goals exact ⟨by rw [he]; first | (simp [m5']; done) | (simp [m5']; rfl), hB⟩
        · have m5' : kd ≠ 5 := by omega
          repeat' (first | go_skip | go_guarded | go_step | go_upon)
          go_ret
          exact ⟨by rw [he]; first | (simp [m5']; done) | (simp [m5']; rfl), hB⟩
theorem validNumbers_calls (L : Let) (hr : L.ref.length = 32) (kd : Nat) (hk : L.kind = (kd : Int)) (hkd : kd < 19) (w : World) :
    Calls Tryz.prog 40 #[.agg L.row] w fun e w' => e = .returned (.bool (numbersB kd L.num)) ∧ Below w.heap.size w w' :=
  vn_calls L.row L.num kd hkd (by rw [Let_0, hk]) (Let_ser L) (by rw [Let_size L hr]; decide) (Let_num L) w
end Go.Proofs.YtednpkiegiiimaaGreatDoor
