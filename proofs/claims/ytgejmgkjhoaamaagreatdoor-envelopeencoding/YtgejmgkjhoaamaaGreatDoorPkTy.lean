/-
  The laws of XRow at the types of this translation.
-/
import Derived.Test.YtgejmgkjhoaamaaGreatDoorPkRow
set_option linter.unusedSectionVars false
set_option linter.constructorNameAsVariable false
set_option linter.unusedVariables false
set_option linter.unusedSimpArgs false
namespace Go.Proofs.YtgejmgkjhoaamaaGreatDoor
@[go_sem ↓] theorem la_7 (v : Value) : Instr.loadAt 7 v = loadSem 7 v := rfl
@[go_sem] theorem ld_7 (v : Value) (w : World) : (loadSem 7 v).run Tryz.prog w = loadRow Tryz.prog 7 4 v w := run_load_row 7 4 v w _ Tryz.underlying7 rfl (by kernel_rfl)
@[go_sem ↓] theorem sa_7 (a x : Value) : Instr.storeAt 7 a x = storeSem 7 a x := rfl
@[go_sem] theorem st_7 (a x : Value) (w : World) : (storeSem 7 a x).run Tryz.prog w = storeRow Tryz.prog 7 4 a x w := run_store_row 7 4 a x w (by kernel_rfl)
@[go_sem ↓] theorem la_8 (v : Value) : Instr.loadAt 8 v = loadSem 8 v := rfl
@[go_sem] theorem ld_8 (v : Value) (w : World) : (loadSem 8 v).run Tryz.prog w = loadRow Tryz.prog 8 4 v w := run_load_row 8 4 v w _ Tryz.underlying8 rfl (by kernel_rfl)
@[go_sem ↓] theorem sa_8 (a x : Value) : Instr.storeAt 8 a x = storeSem 8 a x := rfl
@[go_sem] theorem st_8 (a x : Value) (w : World) : (storeSem 8 a x).run Tryz.prog w = storeRow Tryz.prog 8 4 a x w := run_store_row 8 4 a x w (by kernel_rfl)
@[go_sem ↓] theorem la_13 (v : Value) : Instr.loadAt 13 v = loadSem 13 v := rfl
@[go_sem] theorem ld_13 (v : Value) (w : World) : (loadSem 13 v).run Tryz.prog w = loadRow Tryz.prog 13 2 v w := run_load_row 13 2 v w _ Tryz.underlying13 rfl (by kernel_rfl)
@[go_sem ↓] theorem sa_13 (a x : Value) : Instr.storeAt 13 a x = storeSem 13 a x := rfl
@[go_sem] theorem st_13 (a x : Value) (w : World) : (storeSem 13 a x).run Tryz.prog w = storeRow Tryz.prog 13 2 a x w := run_store_row 13 2 a x w (by kernel_rfl)
@[go_sem ↓] theorem la_14 (v : Value) : Instr.loadAt 14 v = loadSem 14 v := rfl
@[go_sem] theorem ld_14 (v : Value) (w : World) : (loadSem 14 v).run Tryz.prog w = loadRow Tryz.prog 14 2 v w := run_load_row 14 2 v w _ Tryz.underlying14 rfl (by kernel_rfl)
@[go_sem ↓] theorem sa_14 (a x : Value) : Instr.storeAt 14 a x = storeSem 14 a x := rfl
@[go_sem] theorem st_14 (a x : Value) (w : World) : (storeSem 14 a x).run Tryz.prog w = storeRow Tryz.prog 14 2 a x w := run_store_row 14 2 a x w (by kernel_rfl)
@[go_sem ↓] theorem la_24 (v : Value) : Instr.loadAt 24 v = loadSem 24 v := rfl
@[go_sem] theorem ld_24 (v : Value) (w : World) : (loadSem 24 v).run Tryz.prog w = loadRow Tryz.prog 24 32 v w := run_load_row 24 32 v w _ Tryz.underlying24 rfl (by kernel_rfl)
@[go_sem ↓] theorem sa_24 (a x : Value) : Instr.storeAt 24 a x = storeSem 24 a x := rfl
@[go_sem] theorem st_24 (a x : Value) (w : World) : (storeSem 24 a x).run Tryz.prog w = storeRow Tryz.prog 24 32 a x w := run_store_row 24 32 a x w (by kernel_rfl)
/-- The zero value of type 24, cell by cell. -/
def z24 : Array Value := #[.int .u8 0, .int .u8 0, .int .u8 0, .int .u8 0, .int .u8 0, .int .u8 0, .int .u8 0, .int .u8 0, .int .u8 0, .int .u8 0, .int .u8 0, .int .u8 0, .int .u8 0, .int .u8 0, .int .u8 0, .int .u8 0, .int .u8 0, .int .u8 0, .int .u8 0, .int .u8 0, .int .u8 0, .int .u8 0, .int .u8 0, .int .u8 0, .int .u8 0, .int .u8 0, .int .u8 0, .int .u8 0, .int .u8 0, .int .u8 0, .int .u8 0, .int .u8 0]
@[go_sem ↓] theorem al_24 (h : Bool) (old : Value) : Instr.alloc 24 h old = allocSem 24 h old := rfl
@[go_sem] theorem ar_24 (w : World) : (allocSem 24 true (.tuple #[])).run Tryz.prog w = .ok (.pointer (some ⟨w.heap.size, 0, none⟩)) (w.alloc (.cells z24 24)) := by kernel_rfl
@[go_sem] theorem zs_24 : z24.size = 32 := rfl
@[go_sem] theorem za_24 : z24.extract 0 32 = z24 := extract_all _ _ zs_24
@[go_sem] theorem zo_24 : ones z24 = true := by simp [ones, z24, Value.oneCell']
attribute [irreducible] z24
@[go_sem ↓] theorem la_25 (v : Value) : Instr.loadAt 25 v = loadSem 25 v := rfl
@[go_sem] theorem ld_25 (v : Value) (w : World) : (loadSem 25 v).run Tryz.prog w = loadRow Tryz.prog 25 32 v w := run_load_row 25 32 v w _ Tryz.underlying25 rfl (by kernel_rfl)
@[go_sem ↓] theorem sa_25 (a x : Value) : Instr.storeAt 25 a x = storeSem 25 a x := rfl
@[go_sem] theorem st_25 (a x : Value) (w : World) : (storeSem 25 a x).run Tryz.prog w = storeRow Tryz.prog 25 32 a x w := run_store_row 25 32 a x w (by kernel_rfl)
/-- The zero value of type 25, cell by cell. -/
def z25 : Array Value := #[.int .u8 0, .int .u8 0, .int .u8 0, .int .u8 0, .int .u8 0, .int .u8 0, .int .u8 0, .int .u8 0, .int .u8 0, .int .u8 0, .int .u8 0, .int .u8 0, .int .u8 0, .int .u8 0, .int .u8 0, .int .u8 0, .int .u8 0, .int .u8 0, .int .u8 0, .int .u8 0, .int .u8 0, .int .u8 0, .int .u8 0, .int .u8 0, .int .u8 0, .int .u8 0, .int .u8 0, .int .u8 0, .int .u8 0, .int .u8 0, .int .u8 0, .int .u8 0]
@[go_sem ↓] theorem al_25 (h : Bool) (old : Value) : Instr.alloc 25 h old = allocSem 25 h old := rfl
@[go_sem] theorem ar_25 (w : World) : (allocSem 25 true (.tuple #[])).run Tryz.prog w = .ok (.pointer (some ⟨w.heap.size, 0, none⟩)) (w.alloc (.cells z25 25)) := by kernel_rfl
@[go_sem] theorem zs_25 : z25.size = 32 := rfl
@[go_sem] theorem za_25 : z25.extract 0 32 = z25 := extract_all _ _ zs_25
@[go_sem] theorem zo_25 : ones z25 = true := by simp [ones, z25, Value.oneCell']
attribute [irreducible] z25
@[go_sem ↓] theorem la_26 (v : Value) : Instr.loadAt 26 v = loadSem 26 v := rfl
@[go_sem] theorem ld_26 (v : Value) (w : World) : (loadSem 26 v).run Tryz.prog w = loadRow Tryz.prog 26 36 v w := run_load_row 26 36 v w _ Tryz.underlying26 rfl (by kernel_rfl)
@[go_sem ↓] theorem sa_26 (a x : Value) : Instr.storeAt 26 a x = storeSem 26 a x := rfl
@[go_sem] theorem st_26 (a x : Value) (w : World) : (storeSem 26 a x).run Tryz.prog w = storeRow Tryz.prog 26 36 a x w := run_store_row 26 36 a x w (by kernel_rfl)
/-- The zero value of type 26, cell by cell. -/
def z26 : Array Value := #[.int .i64 0, .int .i64 0, .int .i64 0, .slice none 0 0, .int .u8 0, .int .u8 0, .int .u8 0, .int .u8 0, .int .u8 0, .int .u8 0, .int .u8 0, .int .u8 0, .int .u8 0, .int .u8 0, .int .u8 0, .int .u8 0, .int .u8 0, .int .u8 0, .int .u8 0, .int .u8 0, .int .u8 0, .int .u8 0, .int .u8 0, .int .u8 0, .int .u8 0, .int .u8 0, .int .u8 0, .int .u8 0, .int .u8 0, .int .u8 0, .int .u8 0, .int .u8 0, .int .u8 0, .int .u8 0, .int .u8 0, .int .u8 0]
@[go_sem ↓] theorem al_26 (h : Bool) (old : Value) : Instr.alloc 26 h old = allocSem 26 h old := rfl
@[go_sem] theorem ar_26 (w : World) : (allocSem 26 true (.tuple #[])).run Tryz.prog w = .ok (.pointer (some ⟨w.heap.size, 0, none⟩)) (w.alloc (.cells z26 26)) := by kernel_rfl
@[go_sem] theorem zs_26 : z26.size = 36 := rfl
@[go_sem] theorem za_26 : z26.extract 0 36 = z26 := extract_all _ _ zs_26
@[go_sem] theorem zo_26 : ones z26 = true := by simp [ones, z26, Value.oneCell']
attribute [irreducible] z26
@[go_sem ↓] theorem la_27 (v : Value) : Instr.loadAt 27 v = loadSem 27 v := rfl
@[go_sem] theorem ld_27 (v : Value) (w : World) : (loadSem 27 v).run Tryz.prog w = loadRow Tryz.prog 27 36 v w := run_load_row 27 36 v w _ Tryz.underlying27 rfl (by kernel_rfl)
@[go_sem ↓] theorem sa_27 (a x : Value) : Instr.storeAt 27 a x = storeSem 27 a x := rfl
@[go_sem] theorem st_27 (a x : Value) (w : World) : (storeSem 27 a x).run Tryz.prog w = storeRow Tryz.prog 27 36 a x w := run_store_row 27 36 a x w (by kernel_rfl)
/-- The zero value of type 27, cell by cell. -/
def z27 : Array Value := #[.int .i64 0, .int .i64 0, .int .i64 0, .slice none 0 0, .int .u8 0, .int .u8 0, .int .u8 0, .int .u8 0, .int .u8 0, .int .u8 0, .int .u8 0, .int .u8 0, .int .u8 0, .int .u8 0, .int .u8 0, .int .u8 0, .int .u8 0, .int .u8 0, .int .u8 0, .int .u8 0, .int .u8 0, .int .u8 0, .int .u8 0, .int .u8 0, .int .u8 0, .int .u8 0, .int .u8 0, .int .u8 0, .int .u8 0, .int .u8 0, .int .u8 0, .int .u8 0, .int .u8 0, .int .u8 0, .int .u8 0, .int .u8 0]
@[go_sem ↓] theorem al_27 (h : Bool) (old : Value) : Instr.alloc 27 h old = allocSem 27 h old := rfl
@[go_sem] theorem ar_27 (w : World) : (allocSem 27 true (.tuple #[])).run Tryz.prog w = .ok (.pointer (some ⟨w.heap.size, 0, none⟩)) (w.alloc (.cells z27 27)) := by kernel_rfl
@[go_sem] theorem zs_27 : z27.size = 36 := rfl
@[go_sem] theorem za_27 : z27.extract 0 36 = z27 := extract_all _ _ zs_27
@[go_sem] theorem zo_27 : ones z27 = true := by simp [ones, z27, Value.oneCell']
attribute [irreducible] z27
@[go_sem ↓] theorem la_36 (v : Value) : Instr.loadAt 36 v = loadSem 36 v := rfl
@[go_sem] theorem ld_36 (v : Value) (w : World) : (loadSem 36 v).run Tryz.prog w = loadRow Tryz.prog 36 5 v w := run_load_row 36 5 v w _ Tryz.underlying36 rfl (by kernel_rfl)
@[go_sem ↓] theorem sa_36 (a x : Value) : Instr.storeAt 36 a x = storeSem 36 a x := rfl
@[go_sem] theorem st_36 (a x : Value) (w : World) : (storeSem 36 a x).run Tryz.prog w = storeRow Tryz.prog 36 5 a x w := run_store_row 36 5 a x w (by kernel_rfl)
@[go_sem ↓] theorem la_37 (v : Value) : Instr.loadAt 37 v = loadSem 37 v := rfl
@[go_sem] theorem ld_37 (v : Value) (w : World) : (loadSem 37 v).run Tryz.prog w = loadRow Tryz.prog 37 5 v w := run_load_row 37 5 v w _ Tryz.underlying37 rfl (by kernel_rfl)
@[go_sem ↓] theorem sa_37 (a x : Value) : Instr.storeAt 37 a x = storeSem 37 a x := rfl
@[go_sem] theorem st_37 (a x : Value) (w : World) : (storeSem 37 a x).run Tryz.prog w = storeRow Tryz.prog 37 5 a x w := run_store_row 37 5 a x w (by kernel_rfl)
@[go_sem ↓] theorem la_41 (v : Value) : Instr.loadAt 41 v = loadSem 41 v := rfl
@[go_sem] theorem ld_41 (v : Value) (w : World) : (loadSem 41 v).run Tryz.prog w = loadRow Tryz.prog 41 7 v w := run_load_row 41 7 v w _ Tryz.underlying41 rfl (by kernel_rfl)
@[go_sem ↓] theorem sa_41 (a x : Value) : Instr.storeAt 41 a x = storeSem 41 a x := rfl
@[go_sem] theorem st_41 (a x : Value) (w : World) : (storeSem 41 a x).run Tryz.prog w = storeRow Tryz.prog 41 7 a x w := run_store_row 41 7 a x w (by kernel_rfl)
@[go_sem ↓] theorem la_42 (v : Value) : Instr.loadAt 42 v = loadSem 42 v := rfl
@[go_sem] theorem ld_42 (v : Value) (w : World) : (loadSem 42 v).run Tryz.prog w = loadRow Tryz.prog 42 7 v w := run_load_row 42 7 v w _ Tryz.underlying42 rfl (by kernel_rfl)
@[go_sem ↓] theorem sa_42 (a x : Value) : Instr.storeAt 42 a x = storeSem 42 a x := rfl
@[go_sem] theorem st_42 (a x : Value) (w : World) : (storeSem 42 a x).run Tryz.prog w = storeRow Tryz.prog 42 7 a x w := run_store_row 42 7 a x w (by kernel_rfl)
@[go_sem ↓] theorem la_43 (v : Value) : Instr.loadAt 43 v = loadSem 43 v := rfl
@[go_sem] theorem ld_43 (v : Value) (w : World) : (loadSem 43 v).run Tryz.prog w = loadRow Tryz.prog 43 2 v w := run_load_row 43 2 v w _ Tryz.underlying43 rfl (by kernel_rfl)
@[go_sem ↓] theorem sa_43 (a x : Value) : Instr.storeAt 43 a x = storeSem 43 a x := rfl
@[go_sem] theorem st_43 (a x : Value) (w : World) : (storeSem 43 a x).run Tryz.prog w = storeRow Tryz.prog 43 2 a x w := run_store_row 43 2 a x w (by kernel_rfl)
@[go_sem ↓] theorem la_44 (v : Value) : Instr.loadAt 44 v = loadSem 44 v := rfl
@[go_sem] theorem ld_44 (v : Value) (w : World) : (loadSem 44 v).run Tryz.prog w = loadRow Tryz.prog 44 2 v w := run_load_row 44 2 v w _ Tryz.underlying44 rfl (by kernel_rfl)
@[go_sem ↓] theorem sa_44 (a x : Value) : Instr.storeAt 44 a x = storeSem 44 a x := rfl
@[go_sem] theorem st_44 (a x : Value) (w : World) : (storeSem 44 a x).run Tryz.prog w = storeRow Tryz.prog 44 2 a x w := run_store_row 44 2 a x w (by kernel_rfl)
@[go_sem ↓] theorem la_46 (v : Value) : Instr.loadAt 46 v = loadSem 46 v := rfl
@[go_sem] theorem ld_46 (v : Value) (w : World) : (loadSem 46 v).run Tryz.prog w = loadRow Tryz.prog 46 62 v w := run_load_row 46 62 v w _ Tryz.underlying46 rfl (by kernel_rfl)
@[go_sem ↓] theorem sa_46 (a x : Value) : Instr.storeAt 46 a x = storeSem 46 a x := rfl
@[go_sem] theorem st_46 (a x : Value) (w : World) : (storeSem 46 a x).run Tryz.prog w = storeRow Tryz.prog 46 62 a x w := run_store_row 46 62 a x w (by kernel_rfl)
/-- The zero value of type 46, cell by cell. -/
def z46 : Array Value := #[.int .i64 0, .int .i64 0, .int .i64 0, .int .i64 0, .int .i64 0, .int .i64 0, .int .i64 0, .int .i64 0, .int .i64 0, .int .i64 0, .int .i64 0, .int .i64 0, .int .i64 0, .bool false, .int .i64 0, .int .i64 0, .int .i64 0, .slice none 0 0, .int .i64 0, .int .i64 0, .string ByteArray.empty, .int .i64 0, .int .i64 0, .slice none 0 0, .int .i64 0, .int .i64 0, .int .i64 0, .int .i64 0, .int .i64 0, .slice none 0 0, .int .u8 0, .int .u8 0, .int .u8 0, .int .u8 0, .int .u8 0, .int .u8 0, .int .u8 0, .int .u8 0, .int .u8 0, .int .u8 0, .int .u8 0, .int .u8 0, .int .u8 0, .int .u8 0, .int .u8 0, .int .u8 0, .int .u8 0, .int .u8 0, .int .u8 0, .int .u8 0, .int .u8 0, .int .u8 0, .int .u8 0, .int .u8 0, .int .u8 0, .int .u8 0, .int .u8 0, .int .u8 0, .int .u8 0, .int .u8 0, .int .u8 0, .int .u8 0]
@[go_sem ↓] theorem al_46 (h : Bool) (old : Value) : Instr.alloc 46 h old = allocSem 46 h old := rfl
@[go_sem] theorem ar_46 (w : World) : (allocSem 46 true (.tuple #[])).run Tryz.prog w = .ok (.pointer (some ⟨w.heap.size, 0, none⟩)) (w.alloc (.cells z46 46)) := by kernel_rfl
@[go_sem] theorem zs_46 : z46.size = 62 := rfl
@[go_sem] theorem za_46 : z46.extract 0 62 = z46 := extract_all _ _ zs_46
@[go_sem] theorem zo_46 : ones z46 = true := by simp [ones, z46, Value.oneCell']
attribute [irreducible] z46
@[go_sem ↓] theorem la_47 (v : Value) : Instr.loadAt 47 v = loadSem 47 v := rfl
@[go_sem] theorem ld_47 (v : Value) (w : World) : (loadSem 47 v).run Tryz.prog w = loadRow Tryz.prog 47 62 v w := run_load_row 47 62 v w _ Tryz.underlying47 rfl (by kernel_rfl)
@[go_sem ↓] theorem sa_47 (a x : Value) : Instr.storeAt 47 a x = storeSem 47 a x := rfl
@[go_sem] theorem st_47 (a x : Value) (w : World) : (storeSem 47 a x).run Tryz.prog w = storeRow Tryz.prog 47 62 a x w := run_store_row 47 62 a x w (by kernel_rfl)
/-- The zero value of type 47, cell by cell. -/
def z47 : Array Value := #[.int .i64 0, .int .i64 0, .int .i64 0, .int .i64 0, .int .i64 0, .int .i64 0, .int .i64 0, .int .i64 0, .int .i64 0, .int .i64 0, .int .i64 0, .int .i64 0, .int .i64 0, .bool false, .int .i64 0, .int .i64 0, .int .i64 0, .slice none 0 0, .int .i64 0, .int .i64 0, .string ByteArray.empty, .int .i64 0, .int .i64 0, .slice none 0 0, .int .i64 0, .int .i64 0, .int .i64 0, .int .i64 0, .int .i64 0, .slice none 0 0, .int .u8 0, .int .u8 0, .int .u8 0, .int .u8 0, .int .u8 0, .int .u8 0, .int .u8 0, .int .u8 0, .int .u8 0, .int .u8 0, .int .u8 0, .int .u8 0, .int .u8 0, .int .u8 0, .int .u8 0, .int .u8 0, .int .u8 0, .int .u8 0, .int .u8 0, .int .u8 0, .int .u8 0, .int .u8 0, .int .u8 0, .int .u8 0, .int .u8 0, .int .u8 0, .int .u8 0, .int .u8 0, .int .u8 0, .int .u8 0, .int .u8 0, .int .u8 0]
@[go_sem ↓] theorem al_47 (h : Bool) (old : Value) : Instr.alloc 47 h old = allocSem 47 h old := rfl
@[go_sem] theorem ar_47 (w : World) : (allocSem 47 true (.tuple #[])).run Tryz.prog w = .ok (.pointer (some ⟨w.heap.size, 0, none⟩)) (w.alloc (.cells z47 47)) := by kernel_rfl
@[go_sem] theorem zs_47 : z47.size = 62 := rfl
@[go_sem] theorem za_47 : z47.extract 0 62 = z47 := extract_all _ _ zs_47
@[go_sem] theorem zo_47 : ones z47 = true := by simp [ones, z47, Value.oneCell']
attribute [irreducible] z47
@[go_sem ↓] theorem la_64 (v : Value) : Instr.loadAt 64 v = loadSem 64 v := rfl
@[go_sem] theorem ld_64 (v : Value) (w : World) : (loadSem 64 v).run Tryz.prog w = loadRow Tryz.prog 64 99 v w := run_load_row 64 99 v w _ Tryz.underlying64 rfl (by kernel_rfl)
@[go_sem ↓] theorem sa_64 (a x : Value) : Instr.storeAt 64 a x = storeSem 64 a x := rfl
@[go_sem] theorem st_64 (a x : Value) (w : World) : (storeSem 64 a x).run Tryz.prog w = storeRow Tryz.prog 64 99 a x w := run_store_row 64 99 a x w (by kernel_rfl)
/-- The zero value of type 64, cell by cell. -/
def z64 : Array Value := #[.slice none 0 0, .int .i64 0, .int .i64 0, .int .i64 0, .slice none 0 0, .int .u8 0, .int .u8 0, .int .u8 0, .int .u8 0, .int .u8 0, .int .u8 0, .int .u8 0, .int .u8 0, .int .u8 0, .int .u8 0, .int .u8 0, .int .u8 0, .int .u8 0, .int .u8 0, .int .u8 0, .int .u8 0, .int .u8 0, .int .u8 0, .int .u8 0, .int .u8 0, .int .u8 0, .int .u8 0, .int .u8 0, .int .u8 0, .int .u8 0, .int .u8 0, .int .u8 0, .int .u8 0, .int .u8 0, .int .u8 0, .int .u8 0, .int .u8 0, .int .i64 0, .int .i64 0, .int .i64 0, .int .i64 0, .int .i64 0, .int .i64 0, .int .i64 0, .int .i64 0, .int .i64 0, .int .i64 0, .int .i64 0, .int .i64 0, .int .i64 0, .bool false, .int .i64 0, .int .i64 0, .int .i64 0, .slice none 0 0, .int .i64 0, .int .i64 0, .string ByteArray.empty, .int .i64 0, .int .i64 0, .slice none 0 0, .int .i64 0, .int .i64 0, .int .i64 0, .int .i64 0, .int .i64 0, .slice none 0 0, .int .u8 0, .int .u8 0, .int .u8 0, .int .u8 0, .int .u8 0, .int .u8 0, .int .u8 0, .int .u8 0, .int .u8 0, .int .u8 0, .int .u8 0, .int .u8 0, .int .u8 0, .int .u8 0, .int .u8 0, .int .u8 0, .int .u8 0, .int .u8 0, .int .u8 0, .int .u8 0, .int .u8 0, .int .u8 0, .int .u8 0, .int .u8 0, .int .u8 0, .int .u8 0, .int .u8 0, .int .u8 0, .int .u8 0, .int .u8 0, .int .u8 0, .int .u8 0]
@[go_sem ↓] theorem al_64 (h : Bool) (old : Value) : Instr.alloc 64 h old = allocSem 64 h old := rfl
@[go_sem] theorem ar_64 (w : World) : (allocSem 64 true (.tuple #[])).run Tryz.prog w = .ok (.pointer (some ⟨w.heap.size, 0, none⟩)) (w.alloc (.cells z64 64)) := by kernel_rfl
@[go_sem] theorem zs_64 : z64.size = 99 := rfl
@[go_sem] theorem za_64 : z64.extract 0 99 = z64 := extract_all _ _ zs_64
@[go_sem] theorem zo_64 : ones z64 = true := by simp [ones, z64, Value.oneCell']
attribute [irreducible] z64
@[go_sem ↓] theorem la_65 (v : Value) : Instr.loadAt 65 v = loadSem 65 v := rfl
@[go_sem] theorem ld_65 (v : Value) (w : World) : (loadSem 65 v).run Tryz.prog w = loadRow Tryz.prog 65 99 v w := run_load_row 65 99 v w _ Tryz.underlying65 rfl (by kernel_rfl)
@[go_sem ↓] theorem sa_65 (a x : Value) : Instr.storeAt 65 a x = storeSem 65 a x := rfl
@[go_sem] theorem st_65 (a x : Value) (w : World) : (storeSem 65 a x).run Tryz.prog w = storeRow Tryz.prog 65 99 a x w := run_store_row 65 99 a x w (by kernel_rfl)
/-- The zero value of type 65, cell by cell. -/
def z65 : Array Value := #[.slice none 0 0, .int .i64 0, .int .i64 0, .int .i64 0, .slice none 0 0, .int .u8 0, .int .u8 0, .int .u8 0, .int .u8 0, .int .u8 0, .int .u8 0, .int .u8 0, .int .u8 0, .int .u8 0, .int .u8 0, .int .u8 0, .int .u8 0, .int .u8 0, .int .u8 0, .int .u8 0, .int .u8 0, .int .u8 0, .int .u8 0, .int .u8 0, .int .u8 0, .int .u8 0, .int .u8 0, .int .u8 0, .int .u8 0, .int .u8 0, .int .u8 0, .int .u8 0, .int .u8 0, .int .u8 0, .int .u8 0, .int .u8 0, .int .u8 0, .int .i64 0, .int .i64 0, .int .i64 0, .int .i64 0, .int .i64 0, .int .i64 0, .int .i64 0, .int .i64 0, .int .i64 0, .int .i64 0, .int .i64 0, .int .i64 0, .int .i64 0, .bool false, .int .i64 0, .int .i64 0, .int .i64 0, .slice none 0 0, .int .i64 0, .int .i64 0, .string ByteArray.empty, .int .i64 0, .int .i64 0, .slice none 0 0, .int .i64 0, .int .i64 0, .int .i64 0, .int .i64 0, .int .i64 0, .slice none 0 0, .int .u8 0, .int .u8 0, .int .u8 0, .int .u8 0, .int .u8 0, .int .u8 0, .int .u8 0, .int .u8 0, .int .u8 0, .int .u8 0, .int .u8 0, .int .u8 0, .int .u8 0, .int .u8 0, .int .u8 0, .int .u8 0, .int .u8 0, .int .u8 0, .int .u8 0, .int .u8 0, .int .u8 0, .int .u8 0, .int .u8 0, .int .u8 0, .int .u8 0, .int .u8 0, .int .u8 0, .int .u8 0, .int .u8 0, .int .u8 0, .int .u8 0, .int .u8 0]
@[go_sem ↓] theorem al_65 (h : Bool) (old : Value) : Instr.alloc 65 h old = allocSem 65 h old := rfl
@[go_sem] theorem ar_65 (w : World) : (allocSem 65 true (.tuple #[])).run Tryz.prog w = .ok (.pointer (some ⟨w.heap.size, 0, none⟩)) (w.alloc (.cells z65 65)) := by kernel_rfl
@[go_sem] theorem zs_65 : z65.size = 99 := rfl
@[go_sem] theorem za_65 : z65.extract 0 99 = z65 := extract_all _ _ zs_65
@[go_sem] theorem zo_65 : ones z65 = true := by simp [ones, z65, Value.oneCell']
attribute [irreducible] z65
@[go_sem ↓] theorem la_67 (v : Value) : Instr.loadAt 67 v = loadSem 67 v := rfl
@[go_sem] theorem ld_67 (v : Value) (w : World) : (loadSem 67 v).run Tryz.prog w = loadRow Tryz.prog 67 3 v w := run_load_row 67 3 v w _ Tryz.underlying67 rfl (by kernel_rfl)
@[go_sem ↓] theorem sa_67 (a x : Value) : Instr.storeAt 67 a x = storeSem 67 a x := rfl
@[go_sem] theorem st_67 (a x : Value) (w : World) : (storeSem 67 a x).run Tryz.prog w = storeRow Tryz.prog 67 3 a x w := run_store_row 67 3 a x w (by kernel_rfl)
@[go_sem ↓] theorem la_69 (v : Value) : Instr.loadAt 69 v = loadSem 69 v := rfl
@[go_sem] theorem ld_69 (v : Value) (w : World) : (loadSem 69 v).run Tryz.prog w = loadRow Tryz.prog 69 2 v w := run_load_row 69 2 v w _ Tryz.underlying69 rfl (by kernel_rfl)
@[go_sem ↓] theorem sa_69 (a x : Value) : Instr.storeAt 69 a x = storeSem 69 a x := rfl
@[go_sem] theorem st_69 (a x : Value) (w : World) : (storeSem 69 a x).run Tryz.prog w = storeRow Tryz.prog 69 2 a x w := run_store_row 69 2 a x w (by kernel_rfl)
@[go_sem ↓] theorem la_70 (v : Value) : Instr.loadAt 70 v = loadSem 70 v := rfl
@[go_sem] theorem ld_70 (v : Value) (w : World) : (loadSem 70 v).run Tryz.prog w = loadRow Tryz.prog 70 2 v w := run_load_row 70 2 v w _ Tryz.underlying70 rfl (by kernel_rfl)
@[go_sem ↓] theorem sa_70 (a x : Value) : Instr.storeAt 70 a x = storeSem 70 a x := rfl
@[go_sem] theorem st_70 (a x : Value) (w : World) : (storeSem 70 a x).run Tryz.prog w = storeRow Tryz.prog 70 2 a x w := run_store_row 70 2 a x w (by kernel_rfl)
@[go_sem ↓] theorem la_73 (v : Value) : Instr.loadAt 73 v = loadSem 73 v := rfl
@[go_sem] theorem ld_73 (v : Value) (w : World) : (loadSem 73 v).run Tryz.prog w = loadRow Tryz.prog 73 2 v w := run_load_row 73 2 v w _ Tryz.underlying73 rfl (by kernel_rfl)
@[go_sem ↓] theorem sa_73 (a x : Value) : Instr.storeAt 73 a x = storeSem 73 a x := rfl
@[go_sem] theorem st_73 (a x : Value) (w : World) : (storeSem 73 a x).run Tryz.prog w = storeRow Tryz.prog 73 2 a x w := run_store_row 73 2 a x w (by kernel_rfl)
@[go_sem ↓] theorem la_74 (v : Value) : Instr.loadAt 74 v = loadSem 74 v := rfl
@[go_sem] theorem ld_74 (v : Value) (w : World) : (loadSem 74 v).run Tryz.prog w = loadRow Tryz.prog 74 2 v w := run_load_row 74 2 v w _ Tryz.underlying74 rfl (by kernel_rfl)
@[go_sem ↓] theorem sa_74 (a x : Value) : Instr.storeAt 74 a x = storeSem 74 a x := rfl
@[go_sem] theorem st_74 (a x : Value) (w : World) : (storeSem 74 a x).run Tryz.prog w = storeRow Tryz.prog 74 2 a x w := run_store_row 74 2 a x w (by kernel_rfl)
@[go_sem ↓] theorem la_75 (v : Value) : Instr.loadAt 75 v = loadSem 75 v := rfl
@[go_sem] theorem ld_75 (v : Value) (w : World) : (loadSem 75 v).run Tryz.prog w = loadRow Tryz.prog 75 2 v w := run_load_row 75 2 v w _ Tryz.underlying75 rfl (by kernel_rfl)
@[go_sem ↓] theorem sa_75 (a x : Value) : Instr.storeAt 75 a x = storeSem 75 a x := rfl
@[go_sem] theorem st_75 (a x : Value) (w : World) : (storeSem 75 a x).run Tryz.prog w = storeRow Tryz.prog 75 2 a x w := run_store_row 75 2 a x w (by kernel_rfl)
@[go_sem ↓] theorem la_76 (v : Value) : Instr.loadAt 76 v = loadSem 76 v := rfl
@[go_sem] theorem ld_76 (v : Value) (w : World) : (loadSem 76 v).run Tryz.prog w = loadRow Tryz.prog 76 2 v w := run_load_row 76 2 v w _ Tryz.underlying76 rfl (by kernel_rfl)
@[go_sem ↓] theorem sa_76 (a x : Value) : Instr.storeAt 76 a x = storeSem 76 a x := rfl
@[go_sem] theorem st_76 (a x : Value) (w : World) : (storeSem 76 a x).run Tryz.prog w = storeRow Tryz.prog 76 2 a x w := run_store_row 76 2 a x w (by kernel_rfl)
@[go_sem ↓] theorem la_86 (v : Value) : Instr.loadAt 86 v = loadSem 86 v := rfl
@[go_sem] theorem ld_86 (v : Value) (w : World) : (loadSem 86 v).run Tryz.prog w = loadRow Tryz.prog 86 3 v w := run_load_row 86 3 v w _ Tryz.underlying86 rfl (by kernel_rfl)
@[go_sem ↓] theorem sa_86 (a x : Value) : Instr.storeAt 86 a x = storeSem 86 a x := rfl
@[go_sem] theorem st_86 (a x : Value) (w : World) : (storeSem 86 a x).run Tryz.prog w = storeRow Tryz.prog 86 3 a x w := run_store_row 86 3 a x w (by kernel_rfl)
@[go_sem ↓] theorem la_91 (v : Value) : Instr.loadAt 91 v = loadSem 91 v := rfl
@[go_sem] theorem ld_91 (v : Value) (w : World) : (loadSem 91 v).run Tryz.prog w = loadRow Tryz.prog 91 2 v w := run_load_row 91 2 v w _ Tryz.underlying91 rfl (by kernel_rfl)
@[go_sem ↓] theorem sa_91 (a x : Value) : Instr.storeAt 91 a x = storeSem 91 a x := rfl
@[go_sem] theorem st_91 (a x : Value) (w : World) : (storeSem 91 a x).run Tryz.prog w = storeRow Tryz.prog 91 2 a x w := run_store_row 91 2 a x w (by kernel_rfl)
@[go_sem ↓] theorem la_92 (v : Value) : Instr.loadAt 92 v = loadSem 92 v := rfl
@[go_sem] theorem ld_92 (v : Value) (w : World) : (loadSem 92 v).run Tryz.prog w = loadRow Tryz.prog 92 2 v w := run_load_row 92 2 v w _ Tryz.underlying92 rfl (by kernel_rfl)
@[go_sem ↓] theorem sa_92 (a x : Value) : Instr.storeAt 92 a x = storeSem 92 a x := rfl
@[go_sem] theorem st_92 (a x : Value) (w : World) : (storeSem 92 a x).run Tryz.prog w = storeRow Tryz.prog 92 2 a x w := run_store_row 92 2 a x w (by kernel_rfl)
@[go_sem ↓] theorem la_94 (v : Value) : Instr.loadAt 94 v = loadSem 94 v := rfl
@[go_sem] theorem ld_94 (v : Value) (w : World) : (loadSem 94 v).run Tryz.prog w = loadRow Tryz.prog 94 17 v w := run_load_row 94 17 v w _ Tryz.underlying94 rfl (by kernel_rfl)
@[go_sem ↓] theorem sa_94 (a x : Value) : Instr.storeAt 94 a x = storeSem 94 a x := rfl
@[go_sem] theorem st_94 (a x : Value) (w : World) : (storeSem 94 a x).run Tryz.prog w = storeRow Tryz.prog 94 17 a x w := run_store_row 94 17 a x w (by kernel_rfl)
/-- The zero value of type 94, cell by cell. -/
def z94 : Array Value := #[.nilFunc, .nilFunc, .nilFunc, .nilFunc, .nilFunc, .nilFunc, .nilFunc, .nilFunc, .nilFunc, .nilFunc, .nilFunc, .nilFunc, .nilFunc, .nilFunc, .nilFunc, .nilFunc, .nilFunc]
@[go_sem ↓] theorem al_94 (h : Bool) (old : Value) : Instr.alloc 94 h old = allocSem 94 h old := rfl
@[go_sem] theorem ar_94 (w : World) : (allocSem 94 true (.tuple #[])).run Tryz.prog w = .ok (.pointer (some ⟨w.heap.size, 0, none⟩)) (w.alloc (.cells z94 94)) := by kernel_rfl
@[go_sem] theorem zs_94 : z94.size = 17 := rfl
@[go_sem] theorem za_94 : z94.extract 0 17 = z94 := extract_all _ _ zs_94
@[go_sem] theorem zo_94 : ones z94 = true := by simp [ones, z94, Value.oneCell']
attribute [irreducible] z94
@[go_sem ↓] theorem la_96 (v : Value) : Instr.loadAt 96 v = loadSem 96 v := rfl
@[go_sem] theorem ld_96 (v : Value) (w : World) : (loadSem 96 v).run Tryz.prog w = loadRow Tryz.prog 96 17 v w := run_load_row 96 17 v w _ Tryz.underlying96 rfl (by kernel_rfl)
@[go_sem ↓] theorem sa_96 (a x : Value) : Instr.storeAt 96 a x = storeSem 96 a x := rfl
@[go_sem] theorem st_96 (a x : Value) (w : World) : (storeSem 96 a x).run Tryz.prog w = storeRow Tryz.prog 96 17 a x w := run_store_row 96 17 a x w (by kernel_rfl)
/-- The zero value of type 96, cell by cell. -/
def z96 : Array Value := #[.pointer none, .pointer none, .pointer none, .pointer none, .pointer none, .pointer none, .pointer none, .pointer none, .pointer none, .pointer none, .pointer none, .pointer none, .pointer none, .pointer none, .pointer none, .pointer none, .pointer none]
@[go_sem ↓] theorem al_96 (h : Bool) (old : Value) : Instr.alloc 96 h old = allocSem 96 h old := rfl
@[go_sem] theorem ar_96 (w : World) : (allocSem 96 true (.tuple #[])).run Tryz.prog w = .ok (.pointer (some ⟨w.heap.size, 0, none⟩)) (w.alloc (.cells z96 96)) := by kernel_rfl
@[go_sem] theorem zs_96 : z96.size = 17 := rfl
@[go_sem] theorem za_96 : z96.extract 0 17 = z96 := extract_all _ _ zs_96
@[go_sem] theorem zo_96 : ones z96 = true := by simp [ones, z96, Value.oneCell']
attribute [irreducible] z96
@[go_sem ↓] theorem la_103 (v : Value) : Instr.loadAt 103 v = loadSem 103 v := rfl
@[go_sem] theorem ld_103 (v : Value) (w : World) : (loadSem 103 v).run Tryz.prog w = loadRow Tryz.prog 103 8 v w := run_load_row 103 8 v w _ Tryz.underlying103 rfl (by kernel_rfl)
@[go_sem ↓] theorem sa_103 (a x : Value) : Instr.storeAt 103 a x = storeSem 103 a x := rfl
@[go_sem] theorem st_103 (a x : Value) (w : World) : (storeSem 103 a x).run Tryz.prog w = storeRow Tryz.prog 103 8 a x w := run_store_row 103 8 a x w (by kernel_rfl)
@[go_sem ↓] theorem la_110 (v : Value) : Instr.loadAt 110 v = loadSem 110 v := rfl
@[go_sem] theorem ld_110 (v : Value) (w : World) : (loadSem 110 v).run Tryz.prog w = loadRow Tryz.prog 110 19 v w := run_load_row 110 19 v w _ Tryz.underlying110 rfl (by kernel_rfl)
@[go_sem ↓] theorem sa_110 (a x : Value) : Instr.storeAt 110 a x = storeSem 110 a x := rfl
@[go_sem] theorem st_110 (a x : Value) (w : World) : (storeSem 110 a x).run Tryz.prog w = storeRow Tryz.prog 110 19 a x w := run_store_row 110 19 a x w (by kernel_rfl)
/-- The zero value of type 110, cell by cell. -/
def z110 : Array Value := #[.int .i64 0, .int .i64 0, .int .i64 0, .int .i64 0, .int .i64 0, .int .i64 0, .int .i64 0, .int .i64 0, .int .i64 0, .int .i64 0, .int .i64 0, .int .i64 0, .int .i64 0, .int .i64 0, .int .i64 0, .int .i64 0, .int .i64 0, .int .i64 0, .int .i64 0]
@[go_sem ↓] theorem al_110 (h : Bool) (old : Value) : Instr.alloc 110 h old = allocSem 110 h old := rfl
@[go_sem] theorem ar_110 (w : World) : (allocSem 110 true (.tuple #[])).run Tryz.prog w = .ok (.pointer (some ⟨w.heap.size, 0, none⟩)) (w.alloc (.cells z110 110)) := by kernel_rfl
@[go_sem] theorem zs_110 : z110.size = 19 := rfl
@[go_sem] theorem za_110 : z110.extract 0 19 = z110 := extract_all _ _ zs_110
@[go_sem] theorem zo_110 : ones z110 = true := by simp [ones, z110, Value.oneCell']
attribute [irreducible] z110
@[go_sem ↓] theorem la_111 (v : Value) : Instr.loadAt 111 v = loadSem 111 v := rfl
@[go_sem] theorem ld_111 (v : Value) (w : World) : (loadSem 111 v).run Tryz.prog w = loadRow Tryz.prog 111 64 v w := run_load_row 111 64 v w _ Tryz.underlying111 rfl (by kernel_rfl)
@[go_sem ↓] theorem sa_111 (a x : Value) : Instr.storeAt 111 a x = storeSem 111 a x := rfl
@[go_sem] theorem st_111 (a x : Value) (w : World) : (storeSem 111 a x).run Tryz.prog w = storeRow Tryz.prog 111 64 a x w := run_store_row 111 64 a x w (by kernel_rfl)
/-- The zero value of type 111, cell by cell. -/
def z111 : Array Value := #[.int .u8 0, .int .u8 0, .int .u8 0, .int .u8 0, .int .u8 0, .int .u8 0, .int .u8 0, .int .u8 0, .int .u8 0, .int .u8 0, .int .u8 0, .int .u8 0, .int .u8 0, .int .u8 0, .int .u8 0, .int .u8 0, .int .u8 0, .int .u8 0, .int .u8 0, .int .u8 0, .int .u8 0, .int .u8 0, .int .u8 0, .int .u8 0, .int .u8 0, .int .u8 0, .int .u8 0, .int .u8 0, .int .u8 0, .int .u8 0, .int .u8 0, .int .u8 0, .int .u8 0, .int .u8 0, .int .u8 0, .int .u8 0, .int .u8 0, .int .u8 0, .int .u8 0, .int .u8 0, .int .u8 0, .int .u8 0, .int .u8 0, .int .u8 0, .int .u8 0, .int .u8 0, .int .u8 0, .int .u8 0, .int .u8 0, .int .u8 0, .int .u8 0, .int .u8 0, .int .u8 0, .int .u8 0, .int .u8 0, .int .u8 0, .int .u8 0, .int .u8 0, .int .u8 0, .int .u8 0, .int .u8 0, .int .u8 0, .int .u8 0, .int .u8 0]
@[go_sem ↓] theorem al_111 (h : Bool) (old : Value) : Instr.alloc 111 h old = allocSem 111 h old := rfl
@[go_sem] theorem ar_111 (w : World) : (allocSem 111 true (.tuple #[])).run Tryz.prog w = .ok (.pointer (some ⟨w.heap.size, 0, none⟩)) (w.alloc (.cells z111 111)) := by kernel_rfl
@[go_sem] theorem zs_111 : z111.size = 64 := rfl
@[go_sem] theorem za_111 : z111.extract 0 64 = z111 := extract_all _ _ zs_111
@[go_sem] theorem zo_111 : ones z111 = true := by simp [ones, z111, Value.oneCell']
attribute [irreducible] z111
@[go_sem ↓] theorem la_118 (v : Value) : Instr.loadAt 118 v = loadSem 118 v := rfl
@[go_sem] theorem ld_118 (v : Value) (w : World) : (loadSem 118 v).run Tryz.prog w = loadRow Tryz.prog 118 8 v w := run_load_row 118 8 v w _ Tryz.underlying118 rfl (by kernel_rfl)
@[go_sem ↓] theorem sa_118 (a x : Value) : Instr.storeAt 118 a x = storeSem 118 a x := rfl
@[go_sem] theorem st_118 (a x : Value) (w : World) : (storeSem 118 a x).run Tryz.prog w = storeRow Tryz.prog 118 8 a x w := run_store_row 118 8 a x w (by kernel_rfl)
@[go_sem ↓] theorem la_119 (v : Value) : Instr.loadAt 119 v = loadSem 119 v := rfl
@[go_sem] theorem ld_119 (v : Value) (w : World) : (loadSem 119 v).run Tryz.prog w = loadRow Tryz.prog 119 8 v w := run_load_row 119 8 v w _ Tryz.underlying119 rfl (by kernel_rfl)
@[go_sem ↓] theorem sa_119 (a x : Value) : Instr.storeAt 119 a x = storeSem 119 a x := rfl
@[go_sem] theorem st_119 (a x : Value) (w : World) : (storeSem 119 a x).run Tryz.prog w = storeRow Tryz.prog 119 8 a x w := run_store_row 119 8 a x w (by kernel_rfl)
@[go_sem ↓] theorem la_122 (v : Value) : Instr.loadAt 122 v = loadSem 122 v := rfl
@[go_sem] theorem ld_122 (v : Value) (w : World) : (loadSem 122 v).run Tryz.prog w = loadRow Tryz.prog 122 17 v w := run_load_row 122 17 v w _ Tryz.underlying122 rfl (by kernel_rfl)
@[go_sem ↓] theorem sa_122 (a x : Value) : Instr.storeAt 122 a x = storeSem 122 a x := rfl
@[go_sem] theorem st_122 (a x : Value) (w : World) : (storeSem 122 a x).run Tryz.prog w = storeRow Tryz.prog 122 17 a x w := run_store_row 122 17 a x w (by kernel_rfl)
/-- The zero value of type 122, cell by cell. -/
def z122 : Array Value := #[.bool false, .bool false, .bool false, .bool false, .bool false, .bool false, .bool false, .bool false, .bool false, .bool false, .bool false, .bool false, .bool false, .bool false, .bool false, .bool false, .bool false]
@[go_sem ↓] theorem al_122 (h : Bool) (old : Value) : Instr.alloc 122 h old = allocSem 122 h old := rfl
@[go_sem] theorem ar_122 (w : World) : (allocSem 122 true (.tuple #[])).run Tryz.prog w = .ok (.pointer (some ⟨w.heap.size, 0, none⟩)) (w.alloc (.cells z122 122)) := by kernel_rfl
@[go_sem] theorem zs_122 : z122.size = 17 := rfl
@[go_sem] theorem za_122 : z122.extract 0 17 = z122 := extract_all _ _ zs_122
@[go_sem] theorem zo_122 : ones z122 = true := by simp [ones, z122, Value.oneCell']
attribute [irreducible] z122
@[go_sem ↓] theorem la_127 (v : Value) : Instr.loadAt 127 v = loadSem 127 v := rfl
@[go_sem] theorem ld_127 (v : Value) (w : World) : (loadSem 127 v).run Tryz.prog w = loadRow Tryz.prog 127 4 v w := run_load_row 127 4 v w _ Tryz.underlying127 rfl (by kernel_rfl)
@[go_sem ↓] theorem sa_127 (a x : Value) : Instr.storeAt 127 a x = storeSem 127 a x := rfl
@[go_sem] theorem st_127 (a x : Value) (w : World) : (storeSem 127 a x).run Tryz.prog w = storeRow Tryz.prog 127 4 a x w := run_store_row 127 4 a x w (by kernel_rfl)
@[go_sem ↓] theorem la_128 (v : Value) : Instr.loadAt 128 v = loadSem 128 v := rfl
@[go_sem] theorem ld_128 (v : Value) (w : World) : (loadSem 128 v).run Tryz.prog w = loadRow Tryz.prog 128 4 v w := run_load_row 128 4 v w _ Tryz.underlying128 rfl (by kernel_rfl)
@[go_sem ↓] theorem sa_128 (a x : Value) : Instr.storeAt 128 a x = storeSem 128 a x := rfl
@[go_sem] theorem st_128 (a x : Value) (w : World) : (storeSem 128 a x).run Tryz.prog w = storeRow Tryz.prog 128 4 a x w := run_store_row 128 4 a x w (by kernel_rfl)
@[go_sem ↓] theorem la_138 (v : Value) : Instr.loadAt 138 v = loadSem 138 v := rfl
@[go_sem] theorem ld_138 (v : Value) (w : World) : (loadSem 138 v).run Tryz.prog w = loadRow Tryz.prog 138 8 v w := run_load_row 138 8 v w _ Tryz.underlying138 rfl (by kernel_rfl)
@[go_sem ↓] theorem sa_138 (a x : Value) : Instr.storeAt 138 a x = storeSem 138 a x := rfl
@[go_sem] theorem st_138 (a x : Value) (w : World) : (storeSem 138 a x).run Tryz.prog w = storeRow Tryz.prog 138 8 a x w := run_store_row 138 8 a x w (by kernel_rfl)
@[go_sem ↓] theorem la_139 (v : Value) : Instr.loadAt 139 v = loadSem 139 v := rfl
@[go_sem] theorem ld_139 (v : Value) (w : World) : (loadSem 139 v).run Tryz.prog w = loadRow Tryz.prog 139 8 v w := run_load_row 139 8 v w _ Tryz.underlying139 rfl (by kernel_rfl)
@[go_sem ↓] theorem sa_139 (a x : Value) : Instr.storeAt 139 a x = storeSem 139 a x := rfl
@[go_sem] theorem st_139 (a x : Value) (w : World) : (storeSem 139 a x).run Tryz.prog w = storeRow Tryz.prog 139 8 a x w := run_store_row 139 8 a x w (by kernel_rfl)
@[go_sem ↓] theorem la_144 (v : Value) : Instr.loadAt 144 v = loadSem 144 v := rfl
@[go_sem] theorem ld_144 (v : Value) (w : World) : (loadSem 144 v).run Tryz.prog w = loadRow Tryz.prog 144 3 v w := run_load_row 144 3 v w _ Tryz.underlying144 rfl (by kernel_rfl)
@[go_sem ↓] theorem sa_144 (a x : Value) : Instr.storeAt 144 a x = storeSem 144 a x := rfl
@[go_sem] theorem st_144 (a x : Value) (w : World) : (storeSem 144 a x).run Tryz.prog w = storeRow Tryz.prog 144 3 a x w := run_store_row 144 3 a x w (by kernel_rfl)
@[go_sem ↓] theorem la_145 (v : Value) : Instr.loadAt 145 v = loadSem 145 v := rfl
@[go_sem] theorem ld_145 (v : Value) (w : World) : (loadSem 145 v).run Tryz.prog w = loadRow Tryz.prog 145 3 v w := run_load_row 145 3 v w _ Tryz.underlying145 rfl (by kernel_rfl)
@[go_sem ↓] theorem sa_145 (a x : Value) : Instr.storeAt 145 a x = storeSem 145 a x := rfl
@[go_sem] theorem st_145 (a x : Value) (w : World) : (storeSem 145 a x).run Tryz.prog w = storeRow Tryz.prog 145 3 a x w := run_store_row 145 3 a x w (by kernel_rfl)
@[go_sem ↓] theorem la_152 (v : Value) : Instr.loadAt 152 v = loadSem 152 v := rfl
@[go_sem] theorem ld_152 (v : Value) (w : World) : (loadSem 152 v).run Tryz.prog w = loadRow Tryz.prog 152 2 v w := run_load_row 152 2 v w _ Tryz.underlying152 rfl (by kernel_rfl)
@[go_sem ↓] theorem sa_152 (a x : Value) : Instr.storeAt 152 a x = storeSem 152 a x := rfl
@[go_sem] theorem st_152 (a x : Value) (w : World) : (storeSem 152 a x).run Tryz.prog w = storeRow Tryz.prog 152 2 a x w := run_store_row 152 2 a x w (by kernel_rfl)
@[go_sem ↓] theorem la_153 (v : Value) : Instr.loadAt 153 v = loadSem 153 v := rfl
@[go_sem] theorem ld_153 (v : Value) (w : World) : (loadSem 153 v).run Tryz.prog w = loadRow Tryz.prog 153 34 v w := run_load_row 153 34 v w _ Tryz.underlying153 rfl (by kernel_rfl)
@[go_sem ↓] theorem sa_153 (a x : Value) : Instr.storeAt 153 a x = storeSem 153 a x := rfl
@[go_sem] theorem st_153 (a x : Value) (w : World) : (storeSem 153 a x).run Tryz.prog w = storeRow Tryz.prog 153 34 a x w := run_store_row 153 34 a x w (by kernel_rfl)
/-- The zero value of type 153, cell by cell. -/
def z153 : Array Value := #[.int .i64 0, .int .i64 0, .int .i64 0, .int .i64 0, .int .i64 0, .int .i64 0, .int .i64 0, .int .i64 0, .int .i64 0, .int .i64 0, .int .i64 0, .int .i64 0, .int .i64 0, .int .i64 0, .int .i64 0, .int .i64 0, .int .i64 0, .int .i64 0, .int .i64 0, .int .i64 0, .int .i64 0, .int .i64 0, .int .i64 0, .int .i64 0, .int .i64 0, .int .i64 0, .int .i64 0, .int .i64 0, .int .i64 0, .int .i64 0, .int .i64 0, .int .i64 0, .int .i64 0, .int .i64 0]
@[go_sem ↓] theorem al_153 (h : Bool) (old : Value) : Instr.alloc 153 h old = allocSem 153 h old := rfl
@[go_sem] theorem ar_153 (w : World) : (allocSem 153 true (.tuple #[])).run Tryz.prog w = .ok (.pointer (some ⟨w.heap.size, 0, none⟩)) (w.alloc (.cells z153 153)) := by kernel_rfl
@[go_sem] theorem zs_153 : z153.size = 34 := rfl
@[go_sem] theorem za_153 : z153.extract 0 34 = z153 := extract_all _ _ zs_153
@[go_sem] theorem zo_153 : ones z153 = true := by simp [ones, z153, Value.oneCell']
attribute [irreducible] z153
@[go_sem ↓] theorem la_159 (v : Value) : Instr.loadAt 159 v = loadSem 159 v := rfl
@[go_sem] theorem ld_159 (v : Value) (w : World) : (loadSem 159 v).run Tryz.prog w = loadRow Tryz.prog 159 2 v w := run_load_row 159 2 v w _ Tryz.underlying159 rfl (by kernel_rfl)
@[go_sem ↓] theorem sa_159 (a x : Value) : Instr.storeAt 159 a x = storeSem 159 a x := rfl
@[go_sem] theorem st_159 (a x : Value) (w : World) : (storeSem 159 a x).run Tryz.prog w = storeRow Tryz.prog 159 2 a x w := run_store_row 159 2 a x w (by kernel_rfl)
@[go_sem ↓] theorem la_160 (v : Value) : Instr.loadAt 160 v = loadSem 160 v := rfl
@[go_sem] theorem ld_160 (v : Value) (w : World) : (loadSem 160 v).run Tryz.prog w = loadRow Tryz.prog 160 2 v w := run_load_row 160 2 v w _ Tryz.underlying160 rfl (by kernel_rfl)
@[go_sem ↓] theorem sa_160 (a x : Value) : Instr.storeAt 160 a x = storeSem 160 a x := rfl
@[go_sem] theorem st_160 (a x : Value) (w : World) : (storeSem 160 a x).run Tryz.prog w = storeRow Tryz.prog 160 2 a x w := run_store_row 160 2 a x w (by kernel_rfl)
@[go_sem ↓] theorem la_161 (v : Value) : Instr.loadAt 161 v = loadSem 161 v := rfl
@[go_sem] theorem ld_161 (v : Value) (w : World) : (loadSem 161 v).run Tryz.prog w = loadRow Tryz.prog 161 4 v w := run_load_row 161 4 v w _ Tryz.underlying161 rfl (by kernel_rfl)
@[go_sem ↓] theorem sa_161 (a x : Value) : Instr.storeAt 161 a x = storeSem 161 a x := rfl
@[go_sem] theorem st_161 (a x : Value) (w : World) : (storeSem 161 a x).run Tryz.prog w = storeRow Tryz.prog 161 4 a x w := run_store_row 161 4 a x w (by kernel_rfl)
@[go_sem ↓] theorem la_162 (v : Value) : Instr.loadAt 162 v = loadSem 162 v := rfl
@[go_sem] theorem ld_162 (v : Value) (w : World) : (loadSem 162 v).run Tryz.prog w = loadRow Tryz.prog 162 4 v w := run_load_row 162 4 v w _ Tryz.underlying162 rfl (by kernel_rfl)
@[go_sem ↓] theorem sa_162 (a x : Value) : Instr.storeAt 162 a x = storeSem 162 a x := rfl
@[go_sem] theorem st_162 (a x : Value) (w : World) : (storeSem 162 a x).run Tryz.prog w = storeRow Tryz.prog 162 4 a x w := run_store_row 162 4 a x w (by kernel_rfl)
@[go_sem ↓] theorem la_163 (v : Value) : Instr.loadAt 163 v = loadSem 163 v := rfl
@[go_sem] theorem ld_163 (v : Value) (w : World) : (loadSem 163 v).run Tryz.prog w = loadRow Tryz.prog 163 76 v w := run_load_row 163 76 v w _ Tryz.underlying163 rfl (by kernel_rfl)
@[go_sem ↓] theorem sa_163 (a x : Value) : Instr.storeAt 163 a x = storeSem 163 a x := rfl
@[go_sem] theorem st_163 (a x : Value) (w : World) : (storeSem 163 a x).run Tryz.prog w = storeRow Tryz.prog 163 76 a x w := run_store_row 163 76 a x w (by kernel_rfl)
/-- The zero value of type 163, cell by cell. -/
def z163 : Array Value := #[.int .i64 0, .bool false, .int .i64 0, .int .i64 0, .int .i64 0, .bool false, .int .i64 0, .int .i64 0, .int .i64 0, .bool false, .int .i64 0, .int .i64 0, .int .i64 0, .bool false, .int .i64 0, .int .i64 0, .int .i64 0, .bool false, .int .i64 0, .int .i64 0, .int .i64 0, .bool false, .int .i64 0, .int .i64 0, .int .i64 0, .bool false, .int .i64 0, .int .i64 0, .int .i64 0, .bool false, .int .i64 0, .int .i64 0, .int .i64 0, .bool false, .int .i64 0, .int .i64 0, .int .i64 0, .bool false, .int .i64 0, .int .i64 0, .int .i64 0, .bool false, .int .i64 0, .int .i64 0, .int .i64 0, .bool false, .int .i64 0, .int .i64 0, .int .i64 0, .bool false, .int .i64 0, .int .i64 0, .int .i64 0, .bool false, .int .i64 0, .int .i64 0, .int .i64 0, .bool false, .int .i64 0, .int .i64 0, .int .i64 0, .bool false, .int .i64 0, .int .i64 0, .int .i64 0, .bool false, .int .i64 0, .int .i64 0, .int .i64 0, .bool false, .int .i64 0, .int .i64 0, .int .i64 0, .bool false, .int .i64 0, .int .i64 0]
@[go_sem ↓] theorem al_163 (h : Bool) (old : Value) : Instr.alloc 163 h old = allocSem 163 h old := rfl
@[go_sem] theorem ar_163 (w : World) : (allocSem 163 true (.tuple #[])).run Tryz.prog w = .ok (.pointer (some ⟨w.heap.size, 0, none⟩)) (w.alloc (.cells z163 163)) := by kernel_rfl
@[go_sem] theorem zs_163 : z163.size = 76 := rfl
@[go_sem] theorem za_163 : z163.extract 0 76 = z163 := extract_all _ _ zs_163
@[go_sem] theorem zo_163 : ones z163 = true := by simp [ones, z163, Value.oneCell']
attribute [irreducible] z163
@[go_sem ↓] theorem la_167 (v : Value) : Instr.loadAt 167 v = loadSem 167 v := rfl
@[go_sem] theorem ld_167 (v : Value) (w : World) : (loadSem 167 v).run Tryz.prog w = loadRow Tryz.prog 167 3 v w := run_load_row 167 3 v w _ Tryz.underlying167 rfl (by kernel_rfl)
@[go_sem ↓] theorem sa_167 (a x : Value) : Instr.storeAt 167 a x = storeSem 167 a x := rfl
@[go_sem] theorem st_167 (a x : Value) (w : World) : (storeSem 167 a x).run Tryz.prog w = storeRow Tryz.prog 167 3 a x w := run_store_row 167 3 a x w (by kernel_rfl)
@[go_sem ↓] theorem la_168 (v : Value) : Instr.loadAt 168 v = loadSem 168 v := rfl
@[go_sem] theorem ld_168 (v : Value) (w : World) : (loadSem 168 v).run Tryz.prog w = loadRow Tryz.prog 168 3 v w := run_load_row 168 3 v w _ Tryz.underlying168 rfl (by kernel_rfl)
@[go_sem ↓] theorem sa_168 (a x : Value) : Instr.storeAt 168 a x = storeSem 168 a x := rfl
@[go_sem] theorem st_168 (a x : Value) (w : World) : (storeSem 168 a x).run Tryz.prog w = storeRow Tryz.prog 168 3 a x w := run_store_row 168 3 a x w (by kernel_rfl)
@[go_sem ↓] theorem la_171 (v : Value) : Instr.loadAt 171 v = loadSem 171 v := rfl
@[go_sem] theorem ld_171 (v : Value) (w : World) : (loadSem 171 v).run Tryz.prog w = loadRow Tryz.prog 171 64 v w := run_load_row 171 64 v w _ Tryz.underlying171 rfl (by kernel_rfl)
@[go_sem ↓] theorem sa_171 (a x : Value) : Instr.storeAt 171 a x = storeSem 171 a x := rfl
@[go_sem] theorem st_171 (a x : Value) (w : World) : (storeSem 171 a x).run Tryz.prog w = storeRow Tryz.prog 171 64 a x w := run_store_row 171 64 a x w (by kernel_rfl)
/-- The zero value of type 171, cell by cell. -/
def z171 : Array Value := #[.int .u32 0, .int .u32 0, .int .u32 0, .int .u32 0, .int .u32 0, .int .u32 0, .int .u32 0, .int .u32 0, .int .u32 0, .int .u32 0, .int .u32 0, .int .u32 0, .int .u32 0, .int .u32 0, .int .u32 0, .int .u32 0, .int .u32 0, .int .u32 0, .int .u32 0, .int .u32 0, .int .u32 0, .int .u32 0, .int .u32 0, .int .u32 0, .int .u32 0, .int .u32 0, .int .u32 0, .int .u32 0, .int .u32 0, .int .u32 0, .int .u32 0, .int .u32 0, .int .u32 0, .int .u32 0, .int .u32 0, .int .u32 0, .int .u32 0, .int .u32 0, .int .u32 0, .int .u32 0, .int .u32 0, .int .u32 0, .int .u32 0, .int .u32 0, .int .u32 0, .int .u32 0, .int .u32 0, .int .u32 0, .int .u32 0, .int .u32 0, .int .u32 0, .int .u32 0, .int .u32 0, .int .u32 0, .int .u32 0, .int .u32 0, .int .u32 0, .int .u32 0, .int .u32 0, .int .u32 0, .int .u32 0, .int .u32 0, .int .u32 0, .int .u32 0]
@[go_sem ↓] theorem al_171 (h : Bool) (old : Value) : Instr.alloc 171 h old = allocSem 171 h old := rfl
@[go_sem] theorem ar_171 (w : World) : (allocSem 171 true (.tuple #[])).run Tryz.prog w = .ok (.pointer (some ⟨w.heap.size, 0, none⟩)) (w.alloc (.cells z171 171)) := by kernel_rfl
@[go_sem] theorem zs_171 : z171.size = 64 := rfl
@[go_sem] theorem za_171 : z171.extract 0 64 = z171 := extract_all _ _ zs_171
@[go_sem] theorem zo_171 : ones z171 = true := by simp [ones, z171, Value.oneCell']
attribute [irreducible] z171
@[go_sem ↓] theorem la_200 (v : Value) : Instr.loadAt 200 v = loadSem 200 v := rfl
@[go_sem] theorem ld_200 (v : Value) (w : World) : (loadSem 200 v).run Tryz.prog w = loadRow Tryz.prog 200 4 v w := run_load_row 200 4 v w _ Tryz.underlying200 rfl (by kernel_rfl)
@[go_sem ↓] theorem sa_200 (a x : Value) : Instr.storeAt 200 a x = storeSem 200 a x := rfl
@[go_sem] theorem st_200 (a x : Value) (w : World) : (storeSem 200 a x).run Tryz.prog w = storeRow Tryz.prog 200 4 a x w := run_store_row 200 4 a x w (by kernel_rfl)
@[go_sem ↓] theorem la_201 (v : Value) : Instr.loadAt 201 v = loadSem 201 v := rfl
@[go_sem] theorem ld_201 (v : Value) (w : World) : (loadSem 201 v).run Tryz.prog w = loadRow Tryz.prog 201 4 v w := run_load_row 201 4 v w _ Tryz.underlying201 rfl (by kernel_rfl)
@[go_sem ↓] theorem sa_201 (a x : Value) : Instr.storeAt 201 a x = storeSem 201 a x := rfl
@[go_sem] theorem st_201 (a x : Value) (w : World) : (storeSem 201 a x).run Tryz.prog w = storeRow Tryz.prog 201 4 a x w := run_store_row 201 4 a x w (by kernel_rfl)
@[go_sem ↓] theorem la_211 (v : Value) : Instr.loadAt 211 v = loadSem 211 v := rfl
@[go_sem] theorem ld_211 (v : Value) (w : World) : (loadSem 211 v).run Tryz.prog w = loadRow Tryz.prog 211 11 v w := run_load_row 211 11 v w _ Tryz.underlying211 rfl (by kernel_rfl)
@[go_sem ↓] theorem sa_211 (a x : Value) : Instr.storeAt 211 a x = storeSem 211 a x := rfl
@[go_sem] theorem st_211 (a x : Value) (w : World) : (storeSem 211 a x).run Tryz.prog w = storeRow Tryz.prog 211 11 a x w := run_store_row 211 11 a x w (by kernel_rfl)
/-- The zero value of type 211, cell by cell. -/
def z211 : Array Value := #[.int .u64 0, .int .u64 0, .int .u32 0, .int .u8 0, .int .u8 0, .int .u8 0, .int .u8 0, .nilFunc, .pointer none, .int .i32 0, .int .i32 0]
@[go_sem ↓] theorem al_211 (h : Bool) (old : Value) : Instr.alloc 211 h old = allocSem 211 h old := rfl
@[go_sem] theorem ar_211 (w : World) : (allocSem 211 true (.tuple #[])).run Tryz.prog w = .ok (.pointer (some ⟨w.heap.size, 0, none⟩)) (w.alloc (.cells z211 211)) := by kernel_rfl
@[go_sem] theorem zs_211 : z211.size = 11 := rfl
@[go_sem] theorem za_211 : z211.extract 0 11 = z211 := extract_all _ _ zs_211
@[go_sem] theorem zo_211 : ones z211 = true := by simp [ones, z211, Value.oneCell']
attribute [irreducible] z211
@[go_sem ↓] theorem la_212 (v : Value) : Instr.loadAt 212 v = loadSem 212 v := rfl
@[go_sem] theorem ld_212 (v : Value) (w : World) : (loadSem 212 v).run Tryz.prog w = loadRow Tryz.prog 212 11 v w := run_load_row 212 11 v w _ Tryz.underlying212 rfl (by kernel_rfl)
@[go_sem ↓] theorem sa_212 (a x : Value) : Instr.storeAt 212 a x = storeSem 212 a x := rfl
@[go_sem] theorem st_212 (a x : Value) (w : World) : (storeSem 212 a x).run Tryz.prog w = storeRow Tryz.prog 212 11 a x w := run_store_row 212 11 a x w (by kernel_rfl)
/-- The zero value of type 212, cell by cell. -/
def z212 : Array Value := #[.int .u64 0, .int .u64 0, .int .u32 0, .int .u8 0, .int .u8 0, .int .u8 0, .int .u8 0, .nilFunc, .pointer none, .int .i32 0, .int .i32 0]
@[go_sem ↓] theorem al_212 (h : Bool) (old : Value) : Instr.alloc 212 h old = allocSem 212 h old := rfl
@[go_sem] theorem ar_212 (w : World) : (allocSem 212 true (.tuple #[])).run Tryz.prog w = .ok (.pointer (some ⟨w.heap.size, 0, none⟩)) (w.alloc (.cells z212 212)) := by kernel_rfl
@[go_sem] theorem zs_212 : z212.size = 11 := rfl
@[go_sem] theorem za_212 : z212.extract 0 11 = z212 := extract_all _ _ zs_212
@[go_sem] theorem zo_212 : ones z212 = true := by simp [ones, z212, Value.oneCell']
attribute [irreducible] z212
end Go.Proofs.YtgejmgkjhoaamaaGreatDoor
