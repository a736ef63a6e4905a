/-
  The laws of XRow at the types of this translation.
-/
import Derived.Test.YtkfceppdpdeppaaGreatDoorPkRow
set_option linter.unusedSectionVars false
set_option linter.constructorNameAsVariable false
set_option linter.unusedVariables false
set_option linter.unusedSimpArgs false
namespace Go.Proofs.YtkfceppdpdeppaaGreatDoor
@[go_sem ↓] theorem la_7 (v : Value) : Instr.loadAt 7 v = loadSem 7 v := rfl
@[go_sem] theorem ld_7 (v : Value) (w : World) : (loadSem 7 v).run Tryz.prog w = loadRow Tryz.prog 7 4 v w := run_load_row 7 4 v w _ Tryz.underlying7 rfl (by kernel_rfl)
@[go_sem ↓] theorem sa_7 (a x : Value) : Instr.storeAt 7 a x = storeSem 7 a x := rfl
@[go_sem] theorem st_7 (a x : Value) (w : World) : (storeSem 7 a x).run Tryz.prog w = storeRow Tryz.prog 7 4 a x w := run_store_row 7 4 a x w (by kernel_rfl)
@[go_sem ↓] theorem la_8 (v : Value) : Instr.loadAt 8 v = loadSem 8 v := rfl
@[go_sem] theorem ld_8 (v : Value) (w : World) : (loadSem 8 v).run Tryz.prog w = loadRow Tryz.prog 8 4 v w := run_load_row 8 4 v w _ Tryz.underlying8 rfl (by kernel_rfl)
@[go_sem ↓] theorem sa_8 (a x : Value) : Instr.storeAt 8 a x = storeSem 8 a x := rfl
@[go_sem] theorem st_8 (a x : Value) (w : World) : (storeSem 8 a x).run Tryz.prog w = storeRow Tryz.prog 8 4 a x w := run_store_row 8 4 a x w (by kernel_rfl)
@[go_sem ↓] theorem la_13 (v : Value) : Instr.loadAt 13 v = loadSem 13 v := rfl
@[go_sem] theorem ld_13 (v : Value) (w : World) : (loadSem 13 v).run Tryz.prog w = loadRow Tryz.prog 13 2 v w := run_load_row 13 2 v w _ Tryz.underlying13 rfl (by kernel_rfl)
@[go_sem ↓] theorem sa_13 (a x : Value) : Instr.storeAt 13 a x = storeSem 13 a x := rfl
@[go_sem] theorem st_13 (a x : Value) (w : World) : (storeSem 13 a x).run Tryz.prog w = storeRow Tryz.prog 13 2 a x w := run_store_row 13 2 a x w (by kernel_rfl)
@[go_sem ↓] theorem la_14 (v : Value) : Instr.loadAt 14 v = loadSem 14 v := rfl
@[go_sem] theorem ld_14 (v : Value) (w : World) : (loadSem 14 v).run Tryz.prog w = loadRow Tryz.prog 14 2 v w := run_load_row 14 2 v w _ Tryz.underlying14 rfl (by kernel_rfl)
@[go_sem ↓] theorem sa_14 (a x : Value) : Instr.storeAt 14 a x = storeSem 14 a x := rfl
@[go_sem] theorem st_14 (a x : Value) (w : World) : (storeSem 14 a x).run Tryz.prog w = storeRow Tryz.prog 14 2 a x w := run_store_row 14 2 a x w (by kernel_rfl)
@[go_sem ↓] theorem la_25 (v : Value) : Instr.loadAt 25 v = loadSem 25 v := rfl
@[go_sem] theorem ld_25 (v : Value) (w : World) : (loadSem 25 v).run Tryz.prog w = loadRow Tryz.prog 25 7 v w := run_load_row 25 7 v w _ Tryz.underlying25 rfl (by kernel_rfl)
@[go_sem ↓] theorem sa_25 (a x : Value) : Instr.storeAt 25 a x = storeSem 25 a x := rfl
@[go_sem] theorem st_25 (a x : Value) (w : World) : (storeSem 25 a x).run Tryz.prog w = storeRow Tryz.prog 25 7 a x w := run_store_row 25 7 a x w (by kernel_rfl)
@[go_sem ↓] theorem la_26 (v : Value) : Instr.loadAt 26 v = loadSem 26 v := rfl
@[go_sem] theorem ld_26 (v : Value) (w : World) : (loadSem 26 v).run Tryz.prog w = loadRow Tryz.prog 26 7 v w := run_load_row 26 7 v w _ Tryz.underlying26 rfl (by kernel_rfl)
@[go_sem ↓] theorem sa_26 (a x : Value) : Instr.storeAt 26 a x = storeSem 26 a x := rfl
@[go_sem] theorem st_26 (a x : Value) (w : World) : (storeSem 26 a x).run Tryz.prog w = storeRow Tryz.prog 26 7 a x w := run_store_row 26 7 a x w (by kernel_rfl)
@[go_sem ↓] theorem la_28 (v : Value) : Instr.loadAt 28 v = loadSem 28 v := rfl
@[go_sem] theorem ld_28 (v : Value) (w : World) : (loadSem 28 v).run Tryz.prog w = loadRow Tryz.prog 28 5 v w := run_load_row 28 5 v w _ Tryz.underlying28 rfl (by kernel_rfl)
@[go_sem ↓] theorem sa_28 (a x : Value) : Instr.storeAt 28 a x = storeSem 28 a x := rfl
@[go_sem] theorem st_28 (a x : Value) (w : World) : (storeSem 28 a x).run Tryz.prog w = storeRow Tryz.prog 28 5 a x w := run_store_row 28 5 a x w (by kernel_rfl)
@[go_sem ↓] theorem la_29 (v : Value) : Instr.loadAt 29 v = loadSem 29 v := rfl
@[go_sem] theorem ld_29 (v : Value) (w : World) : (loadSem 29 v).run Tryz.prog w = loadRow Tryz.prog 29 5 v w := run_load_row 29 5 v w _ Tryz.underlying29 rfl (by kernel_rfl)
@[go_sem ↓] theorem sa_29 (a x : Value) : Instr.storeAt 29 a x = storeSem 29 a x := rfl
@[go_sem] theorem st_29 (a x : Value) (w : World) : (storeSem 29 a x).run Tryz.prog w = storeRow Tryz.prog 29 5 a x w := run_store_row 29 5 a x w (by kernel_rfl)
@[go_sem ↓] theorem la_33 (v : Value) : Instr.loadAt 33 v = loadSem 33 v := rfl
@[go_sem] theorem ld_33 (v : Value) (w : World) : (loadSem 33 v).run Tryz.prog w = loadRow Tryz.prog 33 7 v w := run_load_row 33 7 v w _ Tryz.underlying33 rfl (by kernel_rfl)
@[go_sem ↓] theorem sa_33 (a x : Value) : Instr.storeAt 33 a x = storeSem 33 a x := rfl
@[go_sem] theorem st_33 (a x : Value) (w : World) : (storeSem 33 a x).run Tryz.prog w = storeRow Tryz.prog 33 7 a x w := run_store_row 33 7 a x w (by kernel_rfl)
@[go_sem ↓] theorem la_34 (v : Value) : Instr.loadAt 34 v = loadSem 34 v := rfl
@[go_sem] theorem ld_34 (v : Value) (w : World) : (loadSem 34 v).run Tryz.prog w = loadRow Tryz.prog 34 7 v w := run_load_row 34 7 v w _ Tryz.underlying34 rfl (by kernel_rfl)
@[go_sem ↓] theorem sa_34 (a x : Value) : Instr.storeAt 34 a x = storeSem 34 a x := rfl
@[go_sem] theorem st_34 (a x : Value) (w : World) : (storeSem 34 a x).run Tryz.prog w = storeRow Tryz.prog 34 7 a x w := run_store_row 34 7 a x w (by kernel_rfl)
@[go_sem ↓] theorem la_35 (v : Value) : Instr.loadAt 35 v = loadSem 35 v := rfl
@[go_sem] theorem ld_35 (v : Value) (w : World) : (loadSem 35 v).run Tryz.prog w = loadRow Tryz.prog 35 2 v w := run_load_row 35 2 v w _ Tryz.underlying35 rfl (by kernel_rfl)
@[go_sem ↓] theorem sa_35 (a x : Value) : Instr.storeAt 35 a x = storeSem 35 a x := rfl
@[go_sem] theorem st_35 (a x : Value) (w : World) : (storeSem 35 a x).run Tryz.prog w = storeRow Tryz.prog 35 2 a x w := run_store_row 35 2 a x w (by kernel_rfl)
@[go_sem ↓] theorem la_36 (v : Value) : Instr.loadAt 36 v = loadSem 36 v := rfl
@[go_sem] theorem ld_36 (v : Value) (w : World) : (loadSem 36 v).run Tryz.prog w = loadRow Tryz.prog 36 2 v w := run_load_row 36 2 v w _ Tryz.underlying36 rfl (by kernel_rfl)
@[go_sem ↓] theorem sa_36 (a x : Value) : Instr.storeAt 36 a x = storeSem 36 a x := rfl
@[go_sem] theorem st_36 (a x : Value) (w : World) : (storeSem 36 a x).run Tryz.prog w = storeRow Tryz.prog 36 2 a x w := run_store_row 36 2 a x w (by kernel_rfl)
@[go_sem ↓] theorem la_37 (v : Value) : Instr.loadAt 37 v = loadSem 37 v := rfl
@[go_sem] theorem ld_37 (v : Value) (w : World) : (loadSem 37 v).run Tryz.prog w = loadRow Tryz.prog 37 32 v w := run_load_row 37 32 v w _ Tryz.underlying37 rfl (by kernel_rfl)
@[go_sem ↓] theorem sa_37 (a x : Value) : Instr.storeAt 37 a x = storeSem 37 a x := rfl
@[go_sem] theorem st_37 (a x : Value) (w : World) : (storeSem 37 a x).run Tryz.prog w = storeRow Tryz.prog 37 32 a x w := run_store_row 37 32 a x w (by kernel_rfl)
/-- The zero value of type 37, cell by cell. -/
def z37 : Array Value := #[.int .u8 0, .int .u8 0, .int .u8 0, .int .u8 0, .int .u8 0, .int .u8 0, .int .u8 0, .int .u8 0, .int .u8 0, .int .u8 0, .int .u8 0, .int .u8 0, .int .u8 0, .int .u8 0, .int .u8 0, .int .u8 0, .int .u8 0, .int .u8 0, .int .u8 0, .int .u8 0, .int .u8 0, .int .u8 0, .int .u8 0, .int .u8 0, .int .u8 0, .int .u8 0, .int .u8 0, .int .u8 0, .int .u8 0, .int .u8 0, .int .u8 0, .int .u8 0]
@[go_sem ↓] theorem al_37 (h : Bool) (old : Value) : Instr.alloc 37 h old = allocSem 37 h old := rfl
@[go_sem] theorem ar_37 (w : World) : (allocSem 37 true (.tuple #[])).run Tryz.prog w = .ok (.pointer (some ⟨w.heap.size, 0, none⟩)) (w.alloc (.cells z37 37)) := by kernel_rfl
@[go_sem] theorem zs_37 : z37.size = 32 := rfl
@[go_sem] theorem za_37 : z37.extract 0 32 = z37 := extract_all _ _ zs_37
@[go_sem] theorem zo_37 : ones z37 = true := by simp [ones, z37, Value.oneCell']
attribute [irreducible] z37
@[go_sem ↓] theorem la_38 (v : Value) : Instr.loadAt 38 v = loadSem 38 v := rfl
@[go_sem] theorem ld_38 (v : Value) (w : World) : (loadSem 38 v).run Tryz.prog w = loadRow Tryz.prog 38 32 v w := run_load_row 38 32 v w _ Tryz.underlying38 rfl (by kernel_rfl)
@[go_sem ↓] theorem sa_38 (a x : Value) : Instr.storeAt 38 a x = storeSem 38 a x := rfl
@[go_sem] theorem st_38 (a x : Value) (w : World) : (storeSem 38 a x).run Tryz.prog w = storeRow Tryz.prog 38 32 a x w := run_store_row 38 32 a x w (by kernel_rfl)
/-- The zero value of type 38, cell by cell. -/
def z38 : Array Value := #[.int .u8 0, .int .u8 0, .int .u8 0, .int .u8 0, .int .u8 0, .int .u8 0, .int .u8 0, .int .u8 0, .int .u8 0, .int .u8 0, .int .u8 0, .int .u8 0, .int .u8 0, .int .u8 0, .int .u8 0, .int .u8 0, .int .u8 0, .int .u8 0, .int .u8 0, .int .u8 0, .int .u8 0, .int .u8 0, .int .u8 0, .int .u8 0, .int .u8 0, .int .u8 0, .int .u8 0, .int .u8 0, .int .u8 0, .int .u8 0, .int .u8 0, .int .u8 0]
@[go_sem ↓] theorem al_38 (h : Bool) (old : Value) : Instr.alloc 38 h old = allocSem 38 h old := rfl
@[go_sem] theorem ar_38 (w : World) : (allocSem 38 true (.tuple #[])).run Tryz.prog w = .ok (.pointer (some ⟨w.heap.size, 0, none⟩)) (w.alloc (.cells z38 38)) := by kernel_rfl
@[go_sem] theorem zs_38 : z38.size = 32 := rfl
@[go_sem] theorem za_38 : z38.extract 0 32 = z38 := extract_all _ _ zs_38
@[go_sem] theorem zo_38 : ones z38 = true := by simp [ones, z38, Value.oneCell']
attribute [irreducible] z38
@[go_sem ↓] theorem la_39 (v : Value) : Instr.loadAt 39 v = loadSem 39 v := rfl
@[go_sem] theorem ld_39 (v : Value) (w : World) : (loadSem 39 v).run Tryz.prog w = loadRow Tryz.prog 39 62 v w := run_load_row 39 62 v w _ Tryz.underlying39 rfl (by kernel_rfl)
@[go_sem ↓] theorem sa_39 (a x : Value) : Instr.storeAt 39 a x = storeSem 39 a x := rfl
@[go_sem] theorem st_39 (a x : Value) (w : World) : (storeSem 39 a x).run Tryz.prog w = storeRow Tryz.prog 39 62 a x w := run_store_row 39 62 a x w (by kernel_rfl)
/-- The zero value of type 39, cell by cell. -/
def z39 : Array Value := #[.int .i64 0, .int .i64 0, .int .i64 0, .int .i64 0, .int .i64 0, .int .i64 0, .int .i64 0, .int .i64 0, .int .i64 0, .int .i64 0, .int .i64 0, .int .i64 0, .int .i64 0, .bool false, .int .i64 0, .int .i64 0, .int .i64 0, .slice none 0 0, .int .i64 0, .int .i64 0, .string ByteArray.empty, .int .i64 0, .int .i64 0, .slice none 0 0, .int .i64 0, .int .i64 0, .int .i64 0, .int .i64 0, .int .i64 0, .slice none 0 0, .int .u8 0, .int .u8 0, .int .u8 0, .int .u8 0, .int .u8 0, .int .u8 0, .int .u8 0, .int .u8 0, .int .u8 0, .int .u8 0, .int .u8 0, .int .u8 0, .int .u8 0, .int .u8 0, .int .u8 0, .int .u8 0, .int .u8 0, .int .u8 0, .int .u8 0, .int .u8 0, .int .u8 0, .int .u8 0, .int .u8 0, .int .u8 0, .int .u8 0, .int .u8 0, .int .u8 0, .int .u8 0, .int .u8 0, .int .u8 0, .int .u8 0, .int .u8 0]
@[go_sem ↓] theorem al_39 (h : Bool) (old : Value) : Instr.alloc 39 h old = allocSem 39 h old := rfl
@[go_sem] theorem ar_39 (w : World) : (allocSem 39 true (.tuple #[])).run Tryz.prog w = .ok (.pointer (some ⟨w.heap.size, 0, none⟩)) (w.alloc (.cells z39 39)) := by kernel_rfl
@[go_sem] theorem zs_39 : z39.size = 62 := rfl
@[go_sem] theorem za_39 : z39.extract 0 62 = z39 := extract_all _ _ zs_39
@[go_sem] theorem zo_39 : ones z39 = true := by simp [ones, z39, Value.oneCell']
attribute [irreducible] z39
@[go_sem ↓] theorem la_40 (v : Value) : Instr.loadAt 40 v = loadSem 40 v := rfl
@[go_sem] theorem ld_40 (v : Value) (w : World) : (loadSem 40 v).run Tryz.prog w = loadRow Tryz.prog 40 62 v w := run_load_row 40 62 v w _ Tryz.underlying40 rfl (by kernel_rfl)
@[go_sem ↓] theorem sa_40 (a x : Value) : Instr.storeAt 40 a x = storeSem 40 a x := rfl
@[go_sem] theorem st_40 (a x : Value) (w : World) : (storeSem 40 a x).run Tryz.prog w = storeRow Tryz.prog 40 62 a x w := run_store_row 40 62 a x w (by kernel_rfl)
/-- The zero value of type 40, cell by cell. -/
def z40 : Array Value := #[.int .i64 0, .int .i64 0, .int .i64 0, .int .i64 0, .int .i64 0, .int .i64 0, .int .i64 0, .int .i64 0, .int .i64 0, .int .i64 0, .int .i64 0, .int .i64 0, .int .i64 0, .bool false, .int .i64 0, .int .i64 0, .int .i64 0, .slice none 0 0, .int .i64 0, .int .i64 0, .string ByteArray.empty, .int .i64 0, .int .i64 0, .slice none 0 0, .int .i64 0, .int .i64 0, .int .i64 0, .int .i64 0, .int .i64 0, .slice none 0 0, .int .u8 0, .int .u8 0, .int .u8 0, .int .u8 0, .int .u8 0, .int .u8 0, .int .u8 0, .int .u8 0, .int .u8 0, .int .u8 0, .int .u8 0, .int .u8 0, .int .u8 0, .int .u8 0, .int .u8 0, .int .u8 0, .int .u8 0, .int .u8 0, .int .u8 0, .int .u8 0, .int .u8 0, .int .u8 0, .int .u8 0, .int .u8 0, .int .u8 0, .int .u8 0, .int .u8 0, .int .u8 0, .int .u8 0, .int .u8 0, .int .u8 0, .int .u8 0]
@[go_sem ↓] theorem al_40 (h : Bool) (old : Value) : Instr.alloc 40 h old = allocSem 40 h old := rfl
@[go_sem] theorem ar_40 (w : World) : (allocSem 40 true (.tuple #[])).run Tryz.prog w = .ok (.pointer (some ⟨w.heap.size, 0, none⟩)) (w.alloc (.cells z40 40)) := by kernel_rfl
@[go_sem] theorem zs_40 : z40.size = 62 := rfl
@[go_sem] theorem za_40 : z40.extract 0 62 = z40 := extract_all _ _ zs_40
@[go_sem] theorem zo_40 : ones z40 = true := by simp [ones, z40, Value.oneCell']
attribute [irreducible] z40
@[go_sem ↓] theorem la_46 (v : Value) : Instr.loadAt 46 v = loadSem 46 v := rfl
@[go_sem] theorem ld_46 (v : Value) (w : World) : (loadSem 46 v).run Tryz.prog w = loadRow Tryz.prog 46 36 v w := run_load_row 46 36 v w _ Tryz.underlying46 rfl (by kernel_rfl)
@[go_sem ↓] theorem sa_46 (a x : Value) : Instr.storeAt 46 a x = storeSem 46 a x := rfl
@[go_sem] theorem st_46 (a x : Value) (w : World) : (storeSem 46 a x).run Tryz.prog w = storeRow Tryz.prog 46 36 a x w := run_store_row 46 36 a x w (by kernel_rfl)
/-- The zero value of type 46, cell by cell. -/
def z46 : Array Value := #[.int .i64 0, .int .i64 0, .int .i64 0, .slice none 0 0, .int .u8 0, .int .u8 0, .int .u8 0, .int .u8 0, .int .u8 0, .int .u8 0, .int .u8 0, .int .u8 0, .int .u8 0, .int .u8 0, .int .u8 0, .int .u8 0, .int .u8 0, .int .u8 0, .int .u8 0, .int .u8 0, .int .u8 0, .int .u8 0, .int .u8 0, .int .u8 0, .int .u8 0, .int .u8 0, .int .u8 0, .int .u8 0, .int .u8 0, .int .u8 0, .int .u8 0, .int .u8 0, .int .u8 0, .int .u8 0, .int .u8 0, .int .u8 0]
@[go_sem ↓] theorem al_46 (h : Bool) (old : Value) : Instr.alloc 46 h old = allocSem 46 h old := rfl
@[go_sem] theorem ar_46 (w : World) : (allocSem 46 true (.tuple #[])).run Tryz.prog w = .ok (.pointer (some ⟨w.heap.size, 0, none⟩)) (w.alloc (.cells z46 46)) := by kernel_rfl
@[go_sem] theorem zs_46 : z46.size = 36 := rfl
@[go_sem] theorem za_46 : z46.extract 0 36 = z46 := extract_all _ _ zs_46
@[go_sem] theorem zo_46 : ones z46 = true := by simp [ones, z46, Value.oneCell']
attribute [irreducible] z46
@[go_sem ↓] theorem la_47 (v : Value) : Instr.loadAt 47 v = loadSem 47 v := rfl
@[go_sem] theorem ld_47 (v : Value) (w : World) : (loadSem 47 v).run Tryz.prog w = loadRow Tryz.prog 47 36 v w := run_load_row 47 36 v w _ Tryz.underlying47 rfl (by kernel_rfl)
@[go_sem ↓] theorem sa_47 (a x : Value) : Instr.storeAt 47 a x = storeSem 47 a x := rfl
@[go_sem] theorem st_47 (a x : Value) (w : World) : (storeSem 47 a x).run Tryz.prog w = storeRow Tryz.prog 47 36 a x w := run_store_row 47 36 a x w (by kernel_rfl)
/-- The zero value of type 47, cell by cell. -/
def z47 : Array Value := #[.int .i64 0, .int .i64 0, .int .i64 0, .slice none 0 0, .int .u8 0, .int .u8 0, .int .u8 0, .int .u8 0, .int .u8 0, .int .u8 0, .int .u8 0, .int .u8 0, .int .u8 0, .int .u8 0, .int .u8 0, .int .u8 0, .int .u8 0, .int .u8 0, .int .u8 0, .int .u8 0, .int .u8 0, .int .u8 0, .int .u8 0, .int .u8 0, .int .u8 0, .int .u8 0, .int .u8 0, .int .u8 0, .int .u8 0, .int .u8 0, .int .u8 0, .int .u8 0, .int .u8 0, .int .u8 0, .int .u8 0, .int .u8 0]
@[go_sem ↓] theorem al_47 (h : Bool) (old : Value) : Instr.alloc 47 h old = allocSem 47 h old := rfl
@[go_sem] theorem ar_47 (w : World) : (allocSem 47 true (.tuple #[])).run Tryz.prog w = .ok (.pointer (some ⟨w.heap.size, 0, none⟩)) (w.alloc (.cells z47 47)) := by kernel_rfl
@[go_sem] theorem zs_47 : z47.size = 36 := rfl
@[go_sem] theorem za_47 : z47.extract 0 36 = z47 := extract_all _ _ zs_47
@[go_sem] theorem zo_47 : ones z47 = true := by simp [ones, z47, Value.oneCell']
attribute [irreducible] z47
@[go_sem ↓] theorem la_75 (v : Value) : Instr.loadAt 75 v = loadSem 75 v := rfl
@[go_sem] theorem ld_75 (v : Value) (w : World) : (loadSem 75 v).run Tryz.prog w = loadRow Tryz.prog 75 3 v w := run_load_row 75 3 v w _ Tryz.underlying75 rfl (by kernel_rfl)
@[go_sem ↓] theorem sa_75 (a x : Value) : Instr.storeAt 75 a x = storeSem 75 a x := rfl
@[go_sem] theorem st_75 (a x : Value) (w : World) : (storeSem 75 a x).run Tryz.prog w = storeRow Tryz.prog 75 3 a x w := run_store_row 75 3 a x w (by kernel_rfl)
@[go_sem ↓] theorem la_88 (v : Value) : Instr.loadAt 88 v = loadSem 88 v := rfl
@[go_sem] theorem ld_88 (v : Value) (w : World) : (loadSem 88 v).run Tryz.prog w = loadRow Tryz.prog 88 17 v w := run_load_row 88 17 v w _ Tryz.underlying88 rfl (by kernel_rfl)
@[go_sem ↓] theorem sa_88 (a x : Value) : Instr.storeAt 88 a x = storeSem 88 a x := rfl
@[go_sem] theorem st_88 (a x : Value) (w : World) : (storeSem 88 a x).run Tryz.prog w = storeRow Tryz.prog 88 17 a x w := run_store_row 88 17 a x w (by kernel_rfl)
/-- The zero value of type 88, cell by cell. -/
def z88 : Array Value := #[.pointer none, .pointer none, .pointer none, .pointer none, .pointer none, .pointer none, .pointer none, .pointer none, .pointer none, .pointer none, .pointer none, .pointer none, .pointer none, .pointer none, .pointer none, .pointer none, .pointer none]
@[go_sem ↓] theorem al_88 (h : Bool) (old : Value) : Instr.alloc 88 h old = allocSem 88 h old := rfl
@[go_sem] theorem ar_88 (w : World) : (allocSem 88 true (.tuple #[])).run Tryz.prog w = .ok (.pointer (some ⟨w.heap.size, 0, none⟩)) (w.alloc (.cells z88 88)) := by kernel_rfl
@[go_sem] theorem zs_88 : z88.size = 17 := rfl
@[go_sem] theorem za_88 : z88.extract 0 17 = z88 := extract_all _ _ zs_88
@[go_sem] theorem zo_88 : ones z88 = true := by simp [ones, z88, Value.oneCell']
attribute [irreducible] z88
@[go_sem ↓] theorem la_94 (v : Value) : Instr.loadAt 94 v = loadSem 94 v := rfl
@[go_sem] theorem ld_94 (v : Value) (w : World) : (loadSem 94 v).run Tryz.prog w = loadRow Tryz.prog 94 8 v w := run_load_row 94 8 v w _ Tryz.underlying94 rfl (by kernel_rfl)
@[go_sem ↓] theorem sa_94 (a x : Value) : Instr.storeAt 94 a x = storeSem 94 a x := rfl
@[go_sem] theorem st_94 (a x : Value) (w : World) : (storeSem 94 a x).run Tryz.prog w = storeRow Tryz.prog 94 8 a x w := run_store_row 94 8 a x w (by kernel_rfl)
@[go_sem ↓] theorem la_95 (v : Value) : Instr.loadAt 95 v = loadSem 95 v := rfl
@[go_sem] theorem ld_95 (v : Value) (w : World) : (loadSem 95 v).run Tryz.prog w = loadRow Tryz.prog 95 8 v w := run_load_row 95 8 v w _ Tryz.underlying95 rfl (by kernel_rfl)
@[go_sem ↓] theorem sa_95 (a x : Value) : Instr.storeAt 95 a x = storeSem 95 a x := rfl
@[go_sem] theorem st_95 (a x : Value) (w : World) : (storeSem 95 a x).run Tryz.prog w = storeRow Tryz.prog 95 8 a x w := run_store_row 95 8 a x w (by kernel_rfl)
@[go_sem ↓] theorem la_100 (v : Value) : Instr.loadAt 100 v = loadSem 100 v := rfl
@[go_sem] theorem ld_100 (v : Value) (w : World) : (loadSem 100 v).run Tryz.prog w = loadRow Tryz.prog 100 2 v w := run_load_row 100 2 v w _ Tryz.underlying100 rfl (by kernel_rfl)
@[go_sem ↓] theorem sa_100 (a x : Value) : Instr.storeAt 100 a x = storeSem 100 a x := rfl
@[go_sem] theorem st_100 (a x : Value) (w : World) : (storeSem 100 a x).run Tryz.prog w = storeRow Tryz.prog 100 2 a x w := run_store_row 100 2 a x w (by kernel_rfl)
@[go_sem ↓] theorem la_101 (v : Value) : Instr.loadAt 101 v = loadSem 101 v := rfl
@[go_sem] theorem ld_101 (v : Value) (w : World) : (loadSem 101 v).run Tryz.prog w = loadRow Tryz.prog 101 2 v w := run_load_row 101 2 v w _ Tryz.underlying101 rfl (by kernel_rfl)
@[go_sem ↓] theorem sa_101 (a x : Value) : Instr.storeAt 101 a x = storeSem 101 a x := rfl
@[go_sem] theorem st_101 (a x : Value) (w : World) : (storeSem 101 a x).run Tryz.prog w = storeRow Tryz.prog 101 2 a x w := run_store_row 101 2 a x w (by kernel_rfl)
@[go_sem ↓] theorem la_103 (v : Value) : Instr.loadAt 103 v = loadSem 103 v := rfl
@[go_sem] theorem ld_103 (v : Value) (w : World) : (loadSem 103 v).run Tryz.prog w = loadRow Tryz.prog 103 17 v w := run_load_row 103 17 v w _ Tryz.underlying103 rfl (by kernel_rfl)
@[go_sem ↓] theorem sa_103 (a x : Value) : Instr.storeAt 103 a x = storeSem 103 a x := rfl
@[go_sem] theorem st_103 (a x : Value) (w : World) : (storeSem 103 a x).run Tryz.prog w = storeRow Tryz.prog 103 17 a x w := run_store_row 103 17 a x w (by kernel_rfl)
/-- The zero value of type 103, cell by cell. -/
def z103 : Array Value := #[.nilFunc, .nilFunc, .nilFunc, .nilFunc, .nilFunc, .nilFunc, .nilFunc, .nilFunc, .nilFunc, .nilFunc, .nilFunc, .nilFunc, .nilFunc, .nilFunc, .nilFunc, .nilFunc, .nilFunc]
@[go_sem ↓] theorem al_103 (h : Bool) (old : Value) : Instr.alloc 103 h old = allocSem 103 h old := rfl
@[go_sem] theorem ar_103 (w : World) : (allocSem 103 true (.tuple #[])).run Tryz.prog w = .ok (.pointer (some ⟨w.heap.size, 0, none⟩)) (w.alloc (.cells z103 103)) := by kernel_rfl
@[go_sem] theorem zs_103 : z103.size = 17 := rfl
@[go_sem] theorem za_103 : z103.extract 0 17 = z103 := extract_all _ _ zs_103
@[go_sem] theorem zo_103 : ones z103 = true := by simp [ones, z103, Value.oneCell']
attribute [irreducible] z103
@[go_sem ↓] theorem la_108 (v : Value) : Instr.loadAt 108 v = loadSem 108 v := rfl
@[go_sem] theorem ld_108 (v : Value) (w : World) : (loadSem 108 v).run Tryz.prog w = loadRow Tryz.prog 108 99 v w := run_load_row 108 99 v w _ Tryz.underlying108 rfl (by kernel_rfl)
@[go_sem ↓] theorem sa_108 (a x : Value) : Instr.storeAt 108 a x = storeSem 108 a x := rfl
@[go_sem] theorem st_108 (a x : Value) (w : World) : (storeSem 108 a x).run Tryz.prog w = storeRow Tryz.prog 108 99 a x w := run_store_row 108 99 a x w (by kernel_rfl)
/-- The zero value of type 108, cell by cell. -/
def z108 : Array Value := #[.slice none 0 0, .int .i64 0, .int .i64 0, .int .i64 0, .slice none 0 0, .int .u8 0, .int .u8 0, .int .u8 0, .int .u8 0, .int .u8 0, .int .u8 0, .int .u8 0, .int .u8 0, .int .u8 0, .int .u8 0, .int .u8 0, .int .u8 0, .int .u8 0, .int .u8 0, .int .u8 0, .int .u8 0, .int .u8 0, .int .u8 0, .int .u8 0, .int .u8 0, .int .u8 0, .int .u8 0, .int .u8 0, .int .u8 0, .int .u8 0, .int .u8 0, .int .u8 0, .int .u8 0, .int .u8 0, .int .u8 0, .int .u8 0, .int .u8 0, .int .i64 0, .int .i64 0, .int .i64 0, .int .i64 0, .int .i64 0, .int .i64 0, .int .i64 0, .int .i64 0, .int .i64 0, .int .i64 0, .int .i64 0, .int .i64 0, .int .i64 0, .bool false, .int .i64 0, .int .i64 0, .int .i64 0, .slice none 0 0, .int .i64 0, .int .i64 0, .string ByteArray.empty, .int .i64 0, .int .i64 0, .slice none 0 0, .int .i64 0, .int .i64 0, .int .i64 0, .int .i64 0, .int .i64 0, .slice none 0 0, .int .u8 0, .int .u8 0, .int .u8 0, .int .u8 0, .int .u8 0, .int .u8 0, .int .u8 0, .int .u8 0, .int .u8 0, .int .u8 0, .int .u8 0, .int .u8 0, .int .u8 0, .int .u8 0, .int .u8 0, .int .u8 0, .int .u8 0, .int .u8 0, .int .u8 0, .int .u8 0, .int .u8 0, .int .u8 0, .int .u8 0, .int .u8 0, .int .u8 0, .int .u8 0, .int .u8 0, .int .u8 0, .int .u8 0, .int .u8 0, .int .u8 0, .int .u8 0]
@[go_sem ↓] theorem al_108 (h : Bool) (old : Value) : Instr.alloc 108 h old = allocSem 108 h old := rfl
@[go_sem] theorem ar_108 (w : World) : (allocSem 108 true (.tuple #[])).run Tryz.prog w = .ok (.pointer (some ⟨w.heap.size, 0, none⟩)) (w.alloc (.cells z108 108)) := by kernel_rfl
@[go_sem] theorem zs_108 : z108.size = 99 := rfl
@[go_sem] theorem za_108 : z108.extract 0 99 = z108 := extract_all _ _ zs_108
@[go_sem] theorem zo_108 : ones z108 = true := by simp [ones, z108, Value.oneCell']
attribute [irreducible] z108
@[go_sem ↓] theorem la_109 (v : Value) : Instr.loadAt 109 v = loadSem 109 v := rfl
@[go_sem] theorem ld_109 (v : Value) (w : World) : (loadSem 109 v).run Tryz.prog w = loadRow Tryz.prog 109 99 v w := run_load_row 109 99 v w _ Tryz.underlying109 rfl (by kernel_rfl)
@[go_sem ↓] theorem sa_109 (a x : Value) : Instr.storeAt 109 a x = storeSem 109 a x := rfl
@[go_sem] theorem st_109 (a x : Value) (w : World) : (storeSem 109 a x).run Tryz.prog w = storeRow Tryz.prog 109 99 a x w := run_store_row 109 99 a x w (by kernel_rfl)
/-- The zero value of type 109, cell by cell. -/
def z109 : Array Value := #[.slice none 0 0, .int .i64 0, .int .i64 0, .int .i64 0, .slice none 0 0, .int .u8 0, .int .u8 0, .int .u8 0, .int .u8 0, .int .u8 0, .int .u8 0, .int .u8 0, .int .u8 0, .int .u8 0, .int .u8 0, .int .u8 0, .int .u8 0, .int .u8 0, .int .u8 0, .int .u8 0, .int .u8 0, .int .u8 0, .int .u8 0, .int .u8 0, .int .u8 0, .int .u8 0, .int .u8 0, .int .u8 0, .int .u8 0, .int .u8 0, .int .u8 0, .int .u8 0, .int .u8 0, .int .u8 0, .int .u8 0, .int .u8 0, .int .u8 0, .int .i64 0, .int .i64 0, .int .i64 0, .int .i64 0, .int .i64 0, .int .i64 0, .int .i64 0, .int .i64 0, .int .i64 0, .int .i64 0, .int .i64 0, .int .i64 0, .int .i64 0, .bool false, .int .i64 0, .int .i64 0, .int .i64 0, .slice none 0 0, .int .i64 0, .int .i64 0, .string ByteArray.empty, .int .i64 0, .int .i64 0, .slice none 0 0, .int .i64 0, .int .i64 0, .int .i64 0, .int .i64 0, .int .i64 0, .slice none 0 0, .int .u8 0, .int .u8 0, .int .u8 0, .int .u8 0, .int .u8 0, .int .u8 0, .int .u8 0, .int .u8 0, .int .u8 0, .int .u8 0, .int .u8 0, .int .u8 0, .int .u8 0, .int .u8 0, .int .u8 0, .int .u8 0, .int .u8 0, .int .u8 0, .int .u8 0, .int .u8 0, .int .u8 0, .int .u8 0, .int .u8 0, .int .u8 0, .int .u8 0, .int .u8 0, .int .u8 0, .int .u8 0, .int .u8 0, .int .u8 0, .int .u8 0, .int .u8 0]
@[go_sem ↓] theorem al_109 (h : Bool) (old : Value) : Instr.alloc 109 h old = allocSem 109 h old := rfl
@[go_sem] theorem ar_109 (w : World) : (allocSem 109 true (.tuple #[])).run Tryz.prog w = .ok (.pointer (some ⟨w.heap.size, 0, none⟩)) (w.alloc (.cells z109 109)) := by kernel_rfl
@[go_sem] theorem zs_109 : z109.size = 99 := rfl
@[go_sem] theorem za_109 : z109.extract 0 99 = z109 := extract_all _ _ zs_109
@[go_sem] theorem zo_109 : ones z109 = true := by simp [ones, z109, Value.oneCell']
attribute [irreducible] z109
@[go_sem ↓] theorem la_111 (v : Value) : Instr.loadAt 111 v = loadSem 111 v := rfl
@[go_sem] theorem ld_111 (v : Value) (w : World) : (loadSem 111 v).run Tryz.prog w = loadRow Tryz.prog 111 3 v w := run_load_row 111 3 v w _ Tryz.underlying111 rfl (by kernel_rfl)
@[go_sem ↓] theorem sa_111 (a x : Value) : Instr.storeAt 111 a x = storeSem 111 a x := rfl
@[go_sem] theorem st_111 (a x : Value) (w : World) : (storeSem 111 a x).run Tryz.prog w = storeRow Tryz.prog 111 3 a x w := run_store_row 111 3 a x w (by kernel_rfl)
@[go_sem ↓] theorem la_118 (v : Value) : Instr.loadAt 118 v = loadSem 118 v := rfl
@[go_sem] theorem ld_118 (v : Value) (w : World) : (loadSem 118 v).run Tryz.prog w = loadRow Tryz.prog 118 8 v w := run_load_row 118 8 v w _ Tryz.underlying118 rfl (by kernel_rfl)
@[go_sem ↓] theorem sa_118 (a x : Value) : Instr.storeAt 118 a x = storeSem 118 a x := rfl
@[go_sem] theorem st_118 (a x : Value) (w : World) : (storeSem 118 a x).run Tryz.prog w = storeRow Tryz.prog 118 8 a x w := run_store_row 118 8 a x w (by kernel_rfl)
@[go_sem ↓] theorem la_127 (v : Value) : Instr.loadAt 127 v = loadSem 127 v := rfl
@[go_sem] theorem ld_127 (v : Value) (w : World) : (loadSem 127 v).run Tryz.prog w = loadRow Tryz.prog 127 19 v w := run_load_row 127 19 v w _ Tryz.underlying127 rfl (by kernel_rfl)
@[go_sem ↓] theorem sa_127 (a x : Value) : Instr.storeAt 127 a x = storeSem 127 a x := rfl
@[go_sem] theorem st_127 (a x : Value) (w : World) : (storeSem 127 a x).run Tryz.prog w = storeRow Tryz.prog 127 19 a x w := run_store_row 127 19 a x w (by kernel_rfl)
/-- The zero value of type 127, cell by cell. -/
def z127 : Array Value := #[.int .i64 0, .int .i64 0, .int .i64 0, .int .i64 0, .int .i64 0, .int .i64 0, .int .i64 0, .int .i64 0, .int .i64 0, .int .i64 0, .int .i64 0, .int .i64 0, .int .i64 0, .int .i64 0, .int .i64 0, .int .i64 0, .int .i64 0, .int .i64 0, .int .i64 0]
@[go_sem ↓] theorem al_127 (h : Bool) (old : Value) : Instr.alloc 127 h old = allocSem 127 h old := rfl
@[go_sem] theorem ar_127 (w : World) : (allocSem 127 true (.tuple #[])).run Tryz.prog w = .ok (.pointer (some ⟨w.heap.size, 0, none⟩)) (w.alloc (.cells z127 127)) := by kernel_rfl
@[go_sem] theorem zs_127 : z127.size = 19 := rfl
@[go_sem] theorem za_127 : z127.extract 0 19 = z127 := extract_all _ _ zs_127
@[go_sem] theorem zo_127 : ones z127 = true := by simp [ones, z127, Value.oneCell']
attribute [irreducible] z127
@[go_sem ↓] theorem la_128 (v : Value) : Instr.loadAt 128 v = loadSem 128 v := rfl
@[go_sem] theorem ld_128 (v : Value) (w : World) : (loadSem 128 v).run Tryz.prog w = loadRow Tryz.prog 128 64 v w := run_load_row 128 64 v w _ Tryz.underlying128 rfl (by kernel_rfl)
@[go_sem ↓] theorem sa_128 (a x : Value) : Instr.storeAt 128 a x = storeSem 128 a x := rfl
@[go_sem] theorem st_128 (a x : Value) (w : World) : (storeSem 128 a x).run Tryz.prog w = storeRow Tryz.prog 128 64 a x w := run_store_row 128 64 a x w (by kernel_rfl)
/-- The zero value of type 128, cell by cell. -/
def z128 : Array Value := #[.int .u8 0, .int .u8 0, .int .u8 0, .int .u8 0, .int .u8 0, .int .u8 0, .int .u8 0, .int .u8 0, .int .u8 0, .int .u8 0, .int .u8 0, .int .u8 0, .int .u8 0, .int .u8 0, .int .u8 0, .int .u8 0, .int .u8 0, .int .u8 0, .int .u8 0, .int .u8 0, .int .u8 0, .int .u8 0, .int .u8 0, .int .u8 0, .int .u8 0, .int .u8 0, .int .u8 0, .int .u8 0, .int .u8 0, .int .u8 0, .int .u8 0, .int .u8 0, .int .u8 0, .int .u8 0, .int .u8 0, .int .u8 0, .int .u8 0, .int .u8 0, .int .u8 0, .int .u8 0, .int .u8 0, .int .u8 0, .int .u8 0, .int .u8 0, .int .u8 0, .int .u8 0, .int .u8 0, .int .u8 0, .int .u8 0, .int .u8 0, .int .u8 0, .int .u8 0, .int .u8 0, .int .u8 0, .int .u8 0, .int .u8 0, .int .u8 0, .int .u8 0, .int .u8 0, .int .u8 0, .int .u8 0, .int .u8 0, .int .u8 0, .int .u8 0]
@[go_sem ↓] theorem al_128 (h : Bool) (old : Value) : Instr.alloc 128 h old = allocSem 128 h old := rfl
@[go_sem] theorem ar_128 (w : World) : (allocSem 128 true (.tuple #[])).run Tryz.prog w = .ok (.pointer (some ⟨w.heap.size, 0, none⟩)) (w.alloc (.cells z128 128)) := by kernel_rfl
@[go_sem] theorem zs_128 : z128.size = 64 := rfl
@[go_sem] theorem za_128 : z128.extract 0 64 = z128 := extract_all _ _ zs_128
@[go_sem] theorem zo_128 : ones z128 = true := by simp [ones, z128, Value.oneCell']
attribute [irreducible] z128
@[go_sem ↓] theorem la_138 (v : Value) : Instr.loadAt 138 v = loadSem 138 v := rfl
@[go_sem] theorem ld_138 (v : Value) (w : World) : (loadSem 138 v).run Tryz.prog w = loadRow Tryz.prog 138 64 v w := run_load_row 138 64 v w _ Tryz.underlying138 rfl (by kernel_rfl)
@[go_sem ↓] theorem sa_138 (a x : Value) : Instr.storeAt 138 a x = storeSem 138 a x := rfl
@[go_sem] theorem st_138 (a x : Value) (w : World) : (storeSem 138 a x).run Tryz.prog w = storeRow Tryz.prog 138 64 a x w := run_store_row 138 64 a x w (by kernel_rfl)
/-- The zero value of type 138, cell by cell. -/
def z138 : Array Value := #[.int .u32 0, .int .u32 0, .int .u32 0, .int .u32 0, .int .u32 0, .int .u32 0, .int .u32 0, .int .u32 0, .int .u32 0, .int .u32 0, .int .u32 0, .int .u32 0, .int .u32 0, .int .u32 0, .int .u32 0, .int .u32 0, .int .u32 0, .int .u32 0, .int .u32 0, .int .u32 0, .int .u32 0, .int .u32 0, .int .u32 0, .int .u32 0, .int .u32 0, .int .u32 0, .int .u32 0, .int .u32 0, .int .u32 0, .int .u32 0, .int .u32 0, .int .u32 0, .int .u32 0, .int .u32 0, .int .u32 0, .int .u32 0, .int .u32 0, .int .u32 0, .int .u32 0, .int .u32 0, .int .u32 0, .int .u32 0, .int .u32 0, .int .u32 0, .int .u32 0, .int .u32 0, .int .u32 0, .int .u32 0, .int .u32 0, .int .u32 0, .int .u32 0, .int .u32 0, .int .u32 0, .int .u32 0, .int .u32 0, .int .u32 0, .int .u32 0, .int .u32 0, .int .u32 0, .int .u32 0, .int .u32 0, .int .u32 0, .int .u32 0, .int .u32 0]
@[go_sem ↓] theorem al_138 (h : Bool) (old : Value) : Instr.alloc 138 h old = allocSem 138 h old := rfl
@[go_sem] theorem ar_138 (w : World) : (allocSem 138 true (.tuple #[])).run Tryz.prog w = .ok (.pointer (some ⟨w.heap.size, 0, none⟩)) (w.alloc (.cells z138 138)) := by kernel_rfl
@[go_sem] theorem zs_138 : z138.size = 64 := rfl
@[go_sem] theorem za_138 : z138.extract 0 64 = z138 := extract_all _ _ zs_138
@[go_sem] theorem zo_138 : ones z138 = true := by simp [ones, z138, Value.oneCell']
attribute [irreducible] z138
@[go_sem ↓] theorem la_144 (v : Value) : Instr.loadAt 144 v = loadSem 144 v := rfl
@[go_sem] theorem ld_144 (v : Value) (w : World) : (loadSem 144 v).run Tryz.prog w = loadRow Tryz.prog 144 17 v w := run_load_row 144 17 v w _ Tryz.underlying144 rfl (by kernel_rfl)
@[go_sem ↓] theorem sa_144 (a x : Value) : Instr.storeAt 144 a x = storeSem 144 a x := rfl
@[go_sem] theorem st_144 (a x : Value) (w : World) : (storeSem 144 a x).run Tryz.prog w = storeRow Tryz.prog 144 17 a x w := run_store_row 144 17 a x w (by kernel_rfl)
/-- The zero value of type 144, cell by cell. -/
def z144 : Array Value := #[.bool false, .bool false, .bool false, .bool false, .bool false, .bool false, .bool false, .bool false, .bool false, .bool false, .bool false, .bool false, .bool false, .bool false, .bool false, .bool false, .bool false]
@[go_sem ↓] theorem al_144 (h : Bool) (old : Value) : Instr.alloc 144 h old = allocSem 144 h old := rfl
@[go_sem] theorem ar_144 (w : World) : (allocSem 144 true (.tuple #[])).run Tryz.prog w = .ok (.pointer (some ⟨w.heap.size, 0, none⟩)) (w.alloc (.cells z144 144)) := by kernel_rfl
@[go_sem] theorem zs_144 : z144.size = 17 := rfl
@[go_sem] theorem za_144 : z144.extract 0 17 = z144 := extract_all _ _ zs_144
@[go_sem] theorem zo_144 : ones z144 = true := by simp [ones, z144, Value.oneCell']
attribute [irreducible] z144
@[go_sem ↓] theorem la_149 (v : Value) : Instr.loadAt 149 v = loadSem 149 v := rfl
@[go_sem] theorem ld_149 (v : Value) (w : World) : (loadSem 149 v).run Tryz.prog w = loadRow Tryz.prog 149 4 v w := run_load_row 149 4 v w _ Tryz.underlying149 rfl (by kernel_rfl)
@[go_sem ↓] theorem sa_149 (a x : Value) : Instr.storeAt 149 a x = storeSem 149 a x := rfl
@[go_sem] theorem st_149 (a x : Value) (w : World) : (storeSem 149 a x).run Tryz.prog w = storeRow Tryz.prog 149 4 a x w := run_store_row 149 4 a x w (by kernel_rfl)
@[go_sem ↓] theorem la_150 (v : Value) : Instr.loadAt 150 v = loadSem 150 v := rfl
@[go_sem] theorem ld_150 (v : Value) (w : World) : (loadSem 150 v).run Tryz.prog w = loadRow Tryz.prog 150 4 v w := run_load_row 150 4 v w _ Tryz.underlying150 rfl (by kernel_rfl)
@[go_sem ↓] theorem sa_150 (a x : Value) : Instr.storeAt 150 a x = storeSem 150 a x := rfl
@[go_sem] theorem st_150 (a x : Value) (w : World) : (storeSem 150 a x).run Tryz.prog w = storeRow Tryz.prog 150 4 a x w := run_store_row 150 4 a x w (by kernel_rfl)
@[go_sem ↓] theorem la_159 (v : Value) : Instr.loadAt 159 v = loadSem 159 v := rfl
@[go_sem] theorem ld_159 (v : Value) (w : World) : (loadSem 159 v).run Tryz.prog w = loadRow Tryz.prog 159 8 v w := run_load_row 159 8 v w _ Tryz.underlying159 rfl (by kernel_rfl)
@[go_sem ↓] theorem sa_159 (a x : Value) : Instr.storeAt 159 a x = storeSem 159 a x := rfl
@[go_sem] theorem st_159 (a x : Value) (w : World) : (storeSem 159 a x).run Tryz.prog w = storeRow Tryz.prog 159 8 a x w := run_store_row 159 8 a x w (by kernel_rfl)
@[go_sem ↓] theorem la_164 (v : Value) : Instr.loadAt 164 v = loadSem 164 v := rfl
@[go_sem] theorem ld_164 (v : Value) (w : World) : (loadSem 164 v).run Tryz.prog w = loadRow Tryz.prog 164 8 v w := run_load_row 164 8 v w _ Tryz.underlying164 rfl (by kernel_rfl)
@[go_sem ↓] theorem sa_164 (a x : Value) : Instr.storeAt 164 a x = storeSem 164 a x := rfl
@[go_sem] theorem st_164 (a x : Value) (w : World) : (storeSem 164 a x).run Tryz.prog w = storeRow Tryz.prog 164 8 a x w := run_store_row 164 8 a x w (by kernel_rfl)
@[go_sem ↓] theorem la_173 (v : Value) : Instr.loadAt 173 v = loadSem 173 v := rfl
@[go_sem] theorem ld_173 (v : Value) (w : World) : (loadSem 173 v).run Tryz.prog w = loadRow Tryz.prog 173 2 v w := run_load_row 173 2 v w _ Tryz.underlying173 rfl (by kernel_rfl)
@[go_sem ↓] theorem sa_173 (a x : Value) : Instr.storeAt 173 a x = storeSem 173 a x := rfl
@[go_sem] theorem st_173 (a x : Value) (w : World) : (storeSem 173 a x).run Tryz.prog w = storeRow Tryz.prog 173 2 a x w := run_store_row 173 2 a x w (by kernel_rfl)
@[go_sem ↓] theorem la_174 (v : Value) : Instr.loadAt 174 v = loadSem 174 v := rfl
@[go_sem] theorem ld_174 (v : Value) (w : World) : (loadSem 174 v).run Tryz.prog w = loadRow Tryz.prog 174 34 v w := run_load_row 174 34 v w _ Tryz.underlying174 rfl (by kernel_rfl)
@[go_sem ↓] theorem sa_174 (a x : Value) : Instr.storeAt 174 a x = storeSem 174 a x := rfl
@[go_sem] theorem st_174 (a x : Value) (w : World) : (storeSem 174 a x).run Tryz.prog w = storeRow Tryz.prog 174 34 a x w := run_store_row 174 34 a x w (by kernel_rfl)
/-- The zero value of type 174, cell by cell. -/
def z174 : Array Value := #[.int .i64 0, .int .i64 0, .int .i64 0, .int .i64 0, .int .i64 0, .int .i64 0, .int .i64 0, .int .i64 0, .int .i64 0, .int .i64 0, .int .i64 0, .int .i64 0, .int .i64 0, .int .i64 0, .int .i64 0, .int .i64 0, .int .i64 0, .int .i64 0, .int .i64 0, .int .i64 0, .int .i64 0, .int .i64 0, .int .i64 0, .int .i64 0, .int .i64 0, .int .i64 0, .int .i64 0, .int .i64 0, .int .i64 0, .int .i64 0, .int .i64 0, .int .i64 0, .int .i64 0, .int .i64 0]
@[go_sem ↓] theorem al_174 (h : Bool) (old : Value) : Instr.alloc 174 h old = allocSem 174 h old := rfl
@[go_sem] theorem ar_174 (w : World) : (allocSem 174 true (.tuple #[])).run Tryz.prog w = .ok (.pointer (some ⟨w.heap.size, 0, none⟩)) (w.alloc (.cells z174 174)) := by kernel_rfl
@[go_sem] theorem zs_174 : z174.size = 34 := rfl
@[go_sem] theorem za_174 : z174.extract 0 34 = z174 := extract_all _ _ zs_174
@[go_sem] theorem zo_174 : ones z174 = true := by simp [ones, z174, Value.oneCell']
attribute [irreducible] z174
@[go_sem ↓] theorem la_180 (v : Value) : Instr.loadAt 180 v = loadSem 180 v := rfl
@[go_sem] theorem ld_180 (v : Value) (w : World) : (loadSem 180 v).run Tryz.prog w = loadRow Tryz.prog 180 2 v w := run_load_row 180 2 v w _ Tryz.underlying180 rfl (by kernel_rfl)
@[go_sem ↓] theorem sa_180 (a x : Value) : Instr.storeAt 180 a x = storeSem 180 a x := rfl
@[go_sem] theorem st_180 (a x : Value) (w : World) : (storeSem 180 a x).run Tryz.prog w = storeRow Tryz.prog 180 2 a x w := run_store_row 180 2 a x w (by kernel_rfl)
@[go_sem ↓] theorem la_181 (v : Value) : Instr.loadAt 181 v = loadSem 181 v := rfl
@[go_sem] theorem ld_181 (v : Value) (w : World) : (loadSem 181 v).run Tryz.prog w = loadRow Tryz.prog 181 2 v w := run_load_row 181 2 v w _ Tryz.underlying181 rfl (by kernel_rfl)
@[go_sem ↓] theorem sa_181 (a x : Value) : Instr.storeAt 181 a x = storeSem 181 a x := rfl
@[go_sem] theorem st_181 (a x : Value) (w : World) : (storeSem 181 a x).run Tryz.prog w = storeRow Tryz.prog 181 2 a x w := run_store_row 181 2 a x w (by kernel_rfl)
@[go_sem ↓] theorem la_182 (v : Value) : Instr.loadAt 182 v = loadSem 182 v := rfl
@[go_sem] theorem ld_182 (v : Value) (w : World) : (loadSem 182 v).run Tryz.prog w = loadRow Tryz.prog 182 4 v w := run_load_row 182 4 v w _ Tryz.underlying182 rfl (by kernel_rfl)
@[go_sem ↓] theorem sa_182 (a x : Value) : Instr.storeAt 182 a x = storeSem 182 a x := rfl
@[go_sem] theorem st_182 (a x : Value) (w : World) : (storeSem 182 a x).run Tryz.prog w = storeRow Tryz.prog 182 4 a x w := run_store_row 182 4 a x w (by kernel_rfl)
@[go_sem ↓] theorem la_183 (v : Value) : Instr.loadAt 183 v = loadSem 183 v := rfl
@[go_sem] theorem ld_183 (v : Value) (w : World) : (loadSem 183 v).run Tryz.prog w = loadRow Tryz.prog 183 4 v w := run_load_row 183 4 v w _ Tryz.underlying183 rfl (by kernel_rfl)
@[go_sem ↓] theorem sa_183 (a x : Value) : Instr.storeAt 183 a x = storeSem 183 a x := rfl
@[go_sem] theorem st_183 (a x : Value) (w : World) : (storeSem 183 a x).run Tryz.prog w = storeRow Tryz.prog 183 4 a x w := run_store_row 183 4 a x w (by kernel_rfl)
@[go_sem ↓] theorem la_184 (v : Value) : Instr.loadAt 184 v = loadSem 184 v := rfl
@[go_sem] theorem ld_184 (v : Value) (w : World) : (loadSem 184 v).run Tryz.prog w = loadRow Tryz.prog 184 76 v w := run_load_row 184 76 v w _ Tryz.underlying184 rfl (by kernel_rfl)
@[go_sem ↓] theorem sa_184 (a x : Value) : Instr.storeAt 184 a x = storeSem 184 a x := rfl
@[go_sem] theorem st_184 (a x : Value) (w : World) : (storeSem 184 a x).run Tryz.prog w = storeRow Tryz.prog 184 76 a x w := run_store_row 184 76 a x w (by kernel_rfl)
/-- The zero value of type 184, cell by cell. -/
def z184 : Array Value := #[.int .i64 0, .bool false, .int .i64 0, .int .i64 0, .int .i64 0, .bool false, .int .i64 0, .int .i64 0, .int .i64 0, .bool false, .int .i64 0, .int .i64 0, .int .i64 0, .bool false, .int .i64 0, .int .i64 0, .int .i64 0, .bool false, .int .i64 0, .int .i64 0, .int .i64 0, .bool false, .int .i64 0, .int .i64 0, .int .i64 0, .bool false, .int .i64 0, .int .i64 0, .int .i64 0, .bool false, .int .i64 0, .int .i64 0, .int .i64 0, .bool false, .int .i64 0, .int .i64 0, .int .i64 0, .bool false, .int .i64 0, .int .i64 0, .int .i64 0, .bool false, .int .i64 0, .int .i64 0, .int .i64 0, .bool false, .int .i64 0, .int .i64 0, .int .i64 0, .bool false, .int .i64 0, .int .i64 0, .int .i64 0, .bool false, .int .i64 0, .int .i64 0, .int .i64 0, .bool false, .int .i64 0, .int .i64 0, .int .i64 0, .bool false, .int .i64 0, .int .i64 0, .int .i64 0, .bool false, .int .i64 0, .int .i64 0, .int .i64 0, .bool false, .int .i64 0, .int .i64 0, .int .i64 0, .bool false, .int .i64 0, .int .i64 0]
@[go_sem ↓] theorem al_184 (h : Bool) (old : Value) : Instr.alloc 184 h old = allocSem 184 h old := rfl
@[go_sem] theorem ar_184 (w : World) : (allocSem 184 true (.tuple #[])).run Tryz.prog w = .ok (.pointer (some ⟨w.heap.size, 0, none⟩)) (w.alloc (.cells z184 184)) := by kernel_rfl
@[go_sem] theorem zs_184 : z184.size = 76 := rfl
@[go_sem] theorem za_184 : z184.extract 0 76 = z184 := extract_all _ _ zs_184
@[go_sem] theorem zo_184 : ones z184 = true := by simp [ones, z184, Value.oneCell']
attribute [irreducible] z184
@[go_sem ↓] theorem la_188 (v : Value) : Instr.loadAt 188 v = loadSem 188 v := rfl
@[go_sem] theorem ld_188 (v : Value) (w : World) : (loadSem 188 v).run Tryz.prog w = loadRow Tryz.prog 188 3 v w := run_load_row 188 3 v w _ Tryz.underlying188 rfl (by kernel_rfl)
@[go_sem ↓] theorem sa_188 (a x : Value) : Instr.storeAt 188 a x = storeSem 188 a x := rfl
@[go_sem] theorem st_188 (a x : Value) (w : World) : (storeSem 188 a x).run Tryz.prog w = storeRow Tryz.prog 188 3 a x w := run_store_row 188 3 a x w (by kernel_rfl)
@[go_sem ↓] theorem la_189 (v : Value) : Instr.loadAt 189 v = loadSem 189 v := rfl
@[go_sem] theorem ld_189 (v : Value) (w : World) : (loadSem 189 v).run Tryz.prog w = loadRow Tryz.prog 189 3 v w := run_load_row 189 3 v w _ Tryz.underlying189 rfl (by kernel_rfl)
@[go_sem ↓] theorem sa_189 (a x : Value) : Instr.storeAt 189 a x = storeSem 189 a x := rfl
@[go_sem] theorem st_189 (a x : Value) (w : World) : (storeSem 189 a x).run Tryz.prog w = storeRow Tryz.prog 189 3 a x w := run_store_row 189 3 a x w (by kernel_rfl)
@[go_sem ↓] theorem la_192 (v : Value) : Instr.loadAt 192 v = loadSem 192 v := rfl
@[go_sem] theorem ld_192 (v : Value) (w : World) : (loadSem 192 v).run Tryz.prog w = loadRow Tryz.prog 192 3 v w := run_load_row 192 3 v w _ Tryz.underlying192 rfl (by kernel_rfl)
@[go_sem ↓] theorem sa_192 (a x : Value) : Instr.storeAt 192 a x = storeSem 192 a x := rfl
@[go_sem] theorem st_192 (a x : Value) (w : World) : (storeSem 192 a x).run Tryz.prog w = storeRow Tryz.prog 192 3 a x w := run_store_row 192 3 a x w (by kernel_rfl)
@[go_sem ↓] theorem la_193 (v : Value) : Instr.loadAt 193 v = loadSem 193 v := rfl
@[go_sem] theorem ld_193 (v : Value) (w : World) : (loadSem 193 v).run Tryz.prog w = loadRow Tryz.prog 193 3 v w := run_load_row 193 3 v w _ Tryz.underlying193 rfl (by kernel_rfl)
@[go_sem ↓] theorem sa_193 (a x : Value) : Instr.storeAt 193 a x = storeSem 193 a x := rfl
@[go_sem] theorem st_193 (a x : Value) (w : World) : (storeSem 193 a x).run Tryz.prog w = storeRow Tryz.prog 193 3 a x w := run_store_row 193 3 a x w (by kernel_rfl)
@[go_sem ↓] theorem la_228 (v : Value) : Instr.loadAt 228 v = loadSem 228 v := rfl
@[go_sem] theorem ld_228 (v : Value) (w : World) : (loadSem 228 v).run Tryz.prog w = loadRow Tryz.prog 228 4 v w := run_load_row 228 4 v w _ Tryz.underlying228 rfl (by kernel_rfl)
@[go_sem ↓] theorem sa_228 (a x : Value) : Instr.storeAt 228 a x = storeSem 228 a x := rfl
@[go_sem] theorem st_228 (a x : Value) (w : World) : (storeSem 228 a x).run Tryz.prog w = storeRow Tryz.prog 228 4 a x w := run_store_row 228 4 a x w (by kernel_rfl)
@[go_sem ↓] theorem la_229 (v : Value) : Instr.loadAt 229 v = loadSem 229 v := rfl
@[go_sem] theorem ld_229 (v : Value) (w : World) : (loadSem 229 v).run Tryz.prog w = loadRow Tryz.prog 229 4 v w := run_load_row 229 4 v w _ Tryz.underlying229 rfl (by kernel_rfl)
@[go_sem ↓] theorem sa_229 (a x : Value) : Instr.storeAt 229 a x = storeSem 229 a x := rfl
@[go_sem] theorem st_229 (a x : Value) (w : World) : (storeSem 229 a x).run Tryz.prog w = storeRow Tryz.prog 229 4 a x w := run_store_row 229 4 a x w (by kernel_rfl)
@[go_sem ↓] theorem la_239 (v : Value) : Instr.loadAt 239 v = loadSem 239 v := rfl
@[go_sem] theorem ld_239 (v : Value) (w : World) : (loadSem 239 v).run Tryz.prog w = loadRow Tryz.prog 239 11 v w := run_load_row 239 11 v w _ Tryz.underlying239 rfl (by kernel_rfl)
@[go_sem ↓] theorem sa_239 (a x : Value) : Instr.storeAt 239 a x = storeSem 239 a x := rfl
@[go_sem] theorem st_239 (a x : Value) (w : World) : (storeSem 239 a x).run Tryz.prog w = storeRow Tryz.prog 239 11 a x w := run_store_row 239 11 a x w (by kernel_rfl)
/-- The zero value of type 239, cell by cell. -/
def z239 : Array Value := #[.int .u64 0, .int .u64 0, .int .u32 0, .int .u8 0, .int .u8 0, .int .u8 0, .int .u8 0, .nilFunc, .pointer none, .int .i32 0, .int .i32 0]
@[go_sem ↓] theorem al_239 (h : Bool) (old : Value) : Instr.alloc 239 h old = allocSem 239 h old := rfl
@[go_sem] theorem ar_239 (w : World) : (allocSem 239 true (.tuple #[])).run Tryz.prog w = .ok (.pointer (some ⟨w.heap.size, 0, none⟩)) (w.alloc (.cells z239 239)) := by kernel_rfl
@[go_sem] theorem zs_239 : z239.size = 11 := rfl
@[go_sem] theorem za_239 : z239.extract 0 11 = z239 := extract_all _ _ zs_239
@[go_sem] theorem zo_239 : ones z239 = true := by simp [ones, z239, Value.oneCell']
attribute [irreducible] z239
@[go_sem ↓] theorem la_240 (v : Value) : Instr.loadAt 240 v = loadSem 240 v := rfl
@[go_sem] theorem ld_240 (v : Value) (w : World) : (loadSem 240 v).run Tryz.prog w = loadRow Tryz.prog 240 11 v w := run_load_row 240 11 v w _ Tryz.underlying240 rfl (by kernel_rfl)
@[go_sem ↓] theorem sa_240 (a x : Value) : Instr.storeAt 240 a x = storeSem 240 a x := rfl
@[go_sem] theorem st_240 (a x : Value) (w : World) : (storeSem 240 a x).run Tryz.prog w = storeRow Tryz.prog 240 11 a x w := run_store_row 240 11 a x w (by kernel_rfl)
/-- The zero value of type 240, cell by cell. -/
def z240 : Array Value := #[.int .u64 0, .int .u64 0, .int .u32 0, .int .u8 0, .int .u8 0, .int .u8 0, .int .u8 0, .nilFunc, .pointer none, .int .i32 0, .int .i32 0]
@[go_sem ↓] theorem al_240 (h : Bool) (old : Value) : Instr.alloc 240 h old = allocSem 240 h old := rfl
@[go_sem] theorem ar_240 (w : World) : (allocSem 240 true (.tuple #[])).run Tryz.prog w = .ok (.pointer (some ⟨w.heap.size, 0, none⟩)) (w.alloc (.cells z240 240)) := by kernel_rfl
@[go_sem] theorem zs_240 : z240.size = 11 := rfl
@[go_sem] theorem za_240 : z240.extract 0 11 = z240 := extract_all _ _ zs_240
@[go_sem] theorem zo_240 : ones z240 = true := by simp [ones, z240, Value.oneCell']
attribute [irreducible] z240
end Go.Proofs.YtkfceppdpdeppaaGreatDoor
