/-
  Laws of the walk for aggregates whose cells are not written out: a load, a store of a whole struct or array, as one step, by the block that it lies in.
-/
import Derived.Test.YtmjblpkbfoipfaaGreatDoorProg
import Derived.WalkKit
import Derived.WalkSpells
import Derived.WalkLawsBesides
import Derived.Handy
import Derived.Lib.Hide
import Derived.Laws.CopyOwn
import Derived.Deep.MidRow
set_option linter.unusedSectionVars false
set_option linter.constructorNameAsVariable false
set_option linter.unusedVariables false
set_option linter.unusedSimpArgs false
namespace Go.Proofs.YtmjblpkbfoipfaaGreatDoor
open Go.RowKit

def obj (w : World) (n : Nat) : Option Obj := w.heap[n]?
def ones (cs : Array Value) : Bool := cs.all (·.oneCell')
@[go_sem] theorem ones_nil : ones #[] = true := by simp [ones]
@[go_sem] theorem ones_cons (v : Value) (l : List Value) : ones (v :: l).toArray = (v.oneCell' && ones l.toArray) := by simp [ones]
@[go_sem] theorem one_int (k : IntKind) (n : Int) : (Value.int k n).oneCell' = true := rfl
@[go_sem] theorem one_bool (b : Bool) : (Value.bool b).oneCell' = true := rfl
@[go_sem] theorem one_ptr (a : Option Addr) : (Value.pointer a).oneCell' = true := rfl
@[go_sem] theorem one_slice (a : Option Addr) (n c : Nat) : (Value.slice a n c).oneCell' = true := rfl
@[go_sem] theorem one_string (s : ByteArray) : (Value.string s).oneCell' = true := rfl
@[go_sem] theorem one_func (f : Fn) (a b : Array Value) : (Value.func f a b).oneCell' = true := rfl
@[go_sem] theorem one_nilFunc : Value.nilFunc.oneCell' = true := rfl
@[go_sem] theorem one_map (r : Option Nat) : (Value.map r).oneCell' = true := rfl
def cellsOf : Option Obj → Option (Array Value)
  | some (.cells cs _ _) => some cs
  | _ => none
@[go_sem] theorem cellsOf_cells (cs : Array Value) (T : TypeId) (fr : Nat × Nat) : cellsOf (some (.cells cs T fr)) = some cs := rfl
def openOf : Option Obj → Option (Array Value)
  | some (.cells cs _ (0, 0)) => some cs
  | _ => none
@[go_sem] theorem openOf_cells (cs : Array Value) (T : TypeId) : openOf (some (.cells cs T (0, 0))) = some cs := rfl

def loadSem (T : TypeId) (v : Value) : Sem Value := Instr.loadAt T v
def storeSem (T : TypeId) (a x : Value) : Sem Unit := Instr.storeAt T a x
def allocSem (T : TypeId) (h : Bool) (old : Value) : Sem Value := Instr.alloc T h old
def rawLoad (P : Program) (T : TypeId) (v : Value) (w : World) : Result Value := (Instr.loadAt T v).run P w
def rawStore (P : Program) (T : TypeId) (a x : Value) (w : World) : Result Unit := (Instr.storeAt T a x).run P w
section
variable {P : Program}
def loadRow (P : Program) (T n : Nat) (v : Value) (w : World) : Result Value :=
  match v with
  | .pointer (some ⟨g, o, none⟩) =>
    (cellsOf (obj w g)).elim (rawLoad P T v w) fun cs => if o + n ≤ cs.size then .ok (.agg (cs.extract o (o + n))) w else rawLoad P T v w
  | v => rawLoad P T v w
@[go_sem] theorem loadRow_ptr (T n g o : Nat) (w : World) : loadRow P T n (.pointer (some ⟨g, o, none⟩)) w =
    (cellsOf (obj w g)).elim (rawLoad P T (.pointer (some ⟨g, o, none⟩)) w) fun cs => if o + n ≤ cs.size then .ok (.agg (cs.extract o (o + n))) w else rawLoad P T (.pointer (some ⟨g, o, none⟩)) w := rfl
theorem run_load_row (T : TypeId) (n : Nat) (v : Value) (w : World) (td : TypeDesc)
    (hu : P.underlying T = some td) (hd : td.isRow = true) (hi : (P.info? T).map (·.size) = some n) :
    (loadSem T v).run P w = loadRow P T n v w := by
  unfold loadSem loadRow
  split
  · rename_i g o
    rcases hb : obj w g with _ | ob
    · rfl
    · cases ob with
      | cells cs T' fr =>
        simp only [cellsOf, Option.elim_some]
        split
        · rename_i hle
          have hl : (cs.toList.extract o (o + n)).length = n := by simp; omega
          have hr := run_loadAt_mid (P := P) w g o T (cs.toList.extract o (o + n)) td (fun j v hv => by
            rw [cell_of_row w g (o + j) cs T' fr hb]
            have hj : j < n := by
              have := (List.getElem?_eq_some_iff.1 hv).1; omega
            rw [List.extract_eq_take_drop, List.getElem?_take, if_pos (by omega), List.getElem?_drop] at hv
            simpa using hv) hu hd (by rw [hl]; exact hi)
          rw [hr]
          congr 2
          apply Array.ext'
          simp
        · rfl
      | _ => rfl
  · rfl
def storeRow (P : Program) (T n : Nat) (v x : Value) (w : World) : Result Unit :=
  match v, x with
  | .pointer (some ⟨g, 0, none⟩), .agg cs =>
    (openOf (obj w g)).elim (rawStore P T v x w) fun old => if old.size = n ∧ cs.size = n ∧ ones cs = true then .ok () (w.setRow g cs) else rawStore P T v x w
  | v, x => rawStore P T v x w
@[go_sem] theorem storeRow_ptr (T n g : Nat) (cs : Array Value) (w : World) : storeRow P T n (.pointer (some ⟨g, 0, none⟩)) (.agg cs) w =
    (openOf (obj w g)).elim (rawStore P T (.pointer (some ⟨g, 0, none⟩)) (.agg cs) w)
      fun old => if old.size = n ∧ cs.size = n ∧ ones cs = true then .ok () (w.setRow g cs) else rawStore P T (.pointer (some ⟨g, 0, none⟩)) (.agg cs) w := rfl
theorem run_store_row (T : TypeId) (n : Nat) (v y : Value) (w : World) (hi : (P.info? T).map (·.size) = some n) :
    (storeSem T v y).run P w = storeRow P T n v y w := by
  unfold storeSem storeRow
  split
  · rename_i g cs
    rcases hb : obj w g with _ | ob
    · rfl
    · unfold openOf
      split
      · rename_i old T' heq
        cases heq
        simp only [Option.elim_some]
        split
        · rename_i h
          obtain ⟨h1, h2, h3⟩ := h
          have hr := run_storeVar_row (P := P) w g T' T old cs hb (by rw [h2]; exact hi) (by omega) h3
          simp only [Instr.storeAt, Instr.sureAddr, Sem.run_bind, Sem.run_pure, Result.andThen_ok, hr]
        · rfl
      · rfl
  · rfl
end

section
variable (w : World)
@[go_sem] theorem obj_alloc_at (o : Obj) (n : Nat) (hn : n = w.heap.size) : obj (w.alloc o) n = some o := by subst hn; exact heap_alloc_new w o
@[go_sem] theorem obj_alloc_past (o : Obj) (n : Nat) (hn : n < w.heap.size) : obj (w.alloc o) n = obj w n := heap_alloc_old w o hn
@[go_sem] theorem obj_drew (n : Nat) : obj w.drew n = obj w n := rfl
@[go_sem] theorem obj_setCell_past (a : Addr) (u : Value) (n : Nat) (hn : n ≠ a.block) : obj (w.setCell a u) n = obj w n := heap_setCell_other w a n u hn
@[go_sem] theorem obj_setRow_past (g : Nat) (cs : Array Value) (n : Nat) (hn : n ≠ g) : obj (w.setRow g cs) n = obj w n := setRow_other w g n cs hn
def Obj.withCells (cs : Array Value) : Obj → Obj
  | .cells _ T fr => .cells cs T fr
  | o => o
@[go_sem] theorem obj_setRow_at (g : Nat) (cs : Array Value) : obj (w.setRow g cs) g = (obj w g).map (Obj.withCells cs) := by
  simp only [obj, World.setRow, Array.getElem?_modify, if_pos]
  cases w.heap[g]? with
  | none => rfl
  | some o => cases o <;> rfl
def Obj.withCell (i : Nat) (v : Value) : Obj → Obj
  | .cells cs T fr => .cells (cs.setIfInBounds i v) T fr
  | o => o
@[go_sem] theorem withCell_cells (i : Nat) (v : Value) (cs : Array Value) (T : TypeId) (fr : Nat × Nat) : Obj.withCell i v (.cells cs T fr) = .cells (cs.setIfInBounds i v) T fr := rfl
@[go_sem] theorem obj_setCell_at (g i : Nat) (v : Value) : obj (w.setCell ⟨g, i, none⟩ v) g = (obj w g).map (Obj.withCell i v) := by
  simp only [obj, World.setCell, Array.getElem?_modify, if_pos]
  cases w.heap[g]? with
  | none => rfl
  | some o => cases o <;> rfl
@[go_sem] theorem withCells_cells (cs old : Array Value) (T : TypeId) (fr : Nat × Nat) : Obj.withCells cs (.cells old T fr) = .cells cs T fr := rfl
@[go_sem] theorem setRow_alloc_at (old cs : Array Value) (T : TypeId) (fr : Nat × Nat) (n : Nat) (hn : n = w.heap.size) : (w.alloc (.cells old T fr)).setRow n cs = w.alloc (.cells cs T fr) := by
  subst hn
  unfold World.setRow World.alloc
  congr 1
  apply Array.ext
  · simp
  · intro k h1 h2
    simp only [Array.getElem_modify, Array.getElem_push]
    split
    · rename_i hk; subst hk; simp
    · rename_i hk
      have : k < w.heap.size := by simp at h2; omega
      simp [this]
@[go_sem] theorem setRow_alloc_past (o : Obj) (cs : Array Value) (n : Nat) (hn : n < w.heap.size) : (w.alloc o).setRow n cs = (w.setRow n cs).alloc o := by
  unfold World.setRow World.alloc
  congr 1
  apply Array.ext
  · simp
  · intro k h1 h2
    simp only [Array.getElem_modify, Array.getElem_push, Array.size_modify]
    split
    · rename_i hk; subst hk; simp [hn]
    · rfl
@[go_sem] theorem setRow_drew (n : Nat) (cs : Array Value) : w.drew.setRow n cs = (w.setRow n cs).drew := rfl
@[go_sem] theorem cell_setRow_at (g j : Nat) (cs : Array Value) : (w.setRow g cs).cell? ⟨g, j, none⟩ = (cellsOf (obj w g)).bind fun _ => cs[j]? := by
  unfold World.cell?
  change (match obj (w.setRow g cs) g with | some (.cells c _ _) => if (none : Option Nat).isSome then none else c[j]? | _ => none) = _
  rw [obj_setRow_at]
  cases obj w g with
  | none => rfl
  | some o => cases o <;> rfl
@[go_sem] theorem cell_setRow_past (g n j : Nat) (cs : Array Value) (h : n ≠ g) : (w.setRow g cs).cell? ⟨n, j, none⟩ = w.cell? ⟨n, j, none⟩ := cell_setRow_other w g cs ⟨n, j, none⟩ h
@[go_sem] theorem frozen_setRow (g : Nat) (cs : Array Value) (a : Addr) : (w.setRow g cs).frozen? a = w.frozen? a := by
  unfold World.frozen?
  by_cases h : a.block = g
  · subst h
    change (match obj (w.setRow a.block cs) a.block with | some (.cells _ _ (lo, hi)) => lo ≤ a.off && a.off < hi | _ => false) = (match obj w a.block with | some (.cells _ _ (lo, hi)) => lo ≤ a.off && a.off < hi | _ => false)
    rw [obj_setRow_at]
    cases obj w a.block with
    | none => rfl
    | some o => cases o <;> rfl
  · rw [setRow_other w g _ cs h]
end
theorem keep_below {B g : Nat} {w w' : World} {o : Obj} (h : obj w g = some o) (hb : Below B w w') (hg : g < B) : obj w' g = some o := (hb.block g hg).trans h
theorem keep_alloc {g : Nat} {w : World} {o : Obj} (h : obj w g = some o) (o' : Obj) : obj (w.alloc o') g = some o := (obj_alloc_past w o' g (Array.getElem?_eq_some_iff.1 h).1).trans h
theorem keep_setRow {g n : Nat} {w : World} {o : Obj} (h : obj w g = some o) (hn : g ≠ n) (cs : Array Value) : obj (w.setRow n cs) g = some o := (setRow_other w n g cs hn).trans h
theorem keep_setCell {g : Nat} {w : World} {o : Obj} (h : obj w g = some o) (a : Addr) (hn : g ≠ a.block) (v : Value) : obj (w.setCell a v) g = some o := (heap_setCell_other w a g v hn).trans h
theorem keep_drew {g : Nat} {w : World} {o : Obj} (h : obj w g = some o) : obj w.drew g = some o := h
theorem keep_grown {g : Nat} {w w' : World} {o : Obj} {r : Option Nat} (h : obj w g = some o) (hg : w.grownBy w' r) (hn : some g ≠ r) : obj w' g = some o := (hg.block g (Array.getElem?_eq_some_iff.1 h).1 hn).trans h
theorem row_lt {g : Nat} {w : World} {o : Obj} (h : obj w g = some o) : g < w.heap.size := (Array.getElem?_eq_some_iff.1 h).1
theorem row_cells {g : Nat} {w : World} {cs : Array Value} {T : TypeId} {fr : Nat × Nat} (h : obj w g = some (.cells cs T fr)) : ∀ j, w.cell? ⟨g, j, none⟩ = cs[j]? := fun j => cell_of_row w g j cs T fr h
theorem row_free {g : Nat} {w : World} {cs : Array Value} {T : TypeId} (h : obj w g = some (.cells cs T (0, 0))) : ∀ j, w.frozen? ⟨g, j, none⟩ = false := fun j => frozen_of_row w g j cs T h
theorem below_obj {B : Nat} {w w' : World} (h : Below B w w') : ∀ b, b < B → obj w' b = obj w b := h.block
theorem wp_shrink {P : Program} {c : Code} {Q : Exit → Act → World → Prop} {l : List Value} {ds : List Deferred} {w : World} (n : Nat) (h : ∀ rest, Hid (rest = l.drop n) → Code.wp P c Q ⟨(l.take n ++ rest).toArray, ds⟩ w) : Code.wp P c Q ⟨l.toArray, ds⟩ w := by
  have := h _ rfl
  rwa [List.take_append_drop] at this
theorem extract_all (cs : Array Value) (n : Nat) (h : cs.size = n) : cs.extract 0 n = cs := by subst h; simp
end Go.Proofs.YtmjblpkbfoipfaaGreatDoor
