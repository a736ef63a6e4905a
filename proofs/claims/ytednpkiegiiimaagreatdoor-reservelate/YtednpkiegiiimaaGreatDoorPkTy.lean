/-
  The laws of XRow at the types of this translation.
-/
import Derived.Test.YtednpkiegiiimaaGreatDoorPkRow
set_option linter.unusedSectionVars false
set_option linter.constructorNameAsVariable false
set_option linter.unusedVariables false
set_option linter.unusedSimpArgs false
namespace Go.Proofs.YtednpkiegiiimaaGreatDoor
@[go_sem ↓] theorem la_7 (v : Value) : Instr.loadAt 7 v = loadSem 7 v := rfl
@[go_sem] theorem ld_7 (v : Value) (w : World) : (loadSem 7 v).run Tryz.prog w = loadRow Tryz.prog 7 4 v w := run_load_row 7 4 v w _ Tryz.underlying7 rfl (by kernel_rfl)
@[go_sem ↓] theorem sa_7 (a x : Value) : Instr.storeAt 7 a x = storeSem 7 a x := rfl
@[go_sem] theorem st_7 (a x : Value) (w : World) : (storeSem 7 a x).run Tryz.prog w = storeRow Tryz.prog 7 4 a x w := run_store_row 7 4 a x w (by kernel_rfl)
@[go_sem ↓] theorem la_8 (v : Value) : Instr.loadAt 8 v = loadSem 8 v := rfl
@[go_sem] theorem ld_8 (v : Value) (w : World) : (loadSem 8 v).run Tryz.prog w = loadRow Tryz.prog 8 4 v w := run_load_row 8 4 v w _ Tryz.underlying8 rfl (by kernel_rfl)
@[go_sem ↓] theorem sa_8 (a x : Value) : Instr.storeAt 8 a x = storeSem 8 a x := rfl
@[go_sem] theorem st_8 (a x : Value) (w : World) : (storeSem 8 a x).run Tryz.prog w = storeRow Tryz.prog 8 4 a x w := run_store_row 8 4 a x w (by kernel_rfl)
@[go_sem ↓] theorem la_13 (v : Value) : Instr.loadAt 13 v = loadSem 13 v := rfl
@[go_sem] theorem ld_13 (v : Value) (w : World) : (loadSem 13 v).run Tryz.prog w = loadRow Tryz.prog 13 2 v w := run_load_row 13 2 v w _ Tryz.underlying13 rfl (by kernel_rfl)
@[go_sem ↓] theorem sa_13 (a x : Value) : Instr.storeAt 13 a x = storeSem 13 a x := rfl
@[go_sem] theorem st_13 (a x : Value) (w : World) : (storeSem 13 a x).run Tryz.prog w = storeRow Tryz.prog 13 2 a x w := run_store_row 13 2 a x w (by kernel_rfl)
@[go_sem ↓] theorem la_14 (v : Value) : Instr.loadAt 14 v = loadSem 14 v := rfl
@[go_sem] theorem ld_14 (v : Value) (w : World) : (loadSem 14 v).run Tryz.prog w = loadRow Tryz.prog 14 2 v w := run_load_row 14 2 v w _ Tryz.underlying14 rfl (by kernel_rfl)
@[go_sem ↓] theorem sa_14 (a x : Value) : Instr.storeAt 14 a x = storeSem 14 a x := rfl
@[go_sem] theorem st_14 (a x : Value) (w : World) : (storeSem 14 a x).run Tryz.prog w = storeRow Tryz.prog 14 2 a x w := run_store_row 14 2 a x w (by kernel_rfl)
@[go_sem ↓] theorem la_24 (v : Value) : Instr.loadAt 24 v = loadSem 24 v := rfl
@[go_sem] theorem ld_24 (v : Value) (w : World) : (loadSem 24 v).run Tryz.prog w = loadRow Tryz.prog 24 4 v w := run_load_row 24 4 v w _ Tryz.underlying24 rfl (by kernel_rfl)
@[go_sem ↓] theorem sa_24 (a x : Value) : Instr.storeAt 24 a x = storeSem 24 a x := rfl
@[go_sem] theorem st_24 (a x : Value) (w : World) : (storeSem 24 a x).run Tryz.prog w = storeRow Tryz.prog 24 4 a x w := run_store_row 24 4 a x w (by kernel_rfl)
@[go_sem ↓] theorem la_25 (v : Value) : Instr.loadAt 25 v = loadSem 25 v := rfl
@[go_sem] theorem ld_25 (v : Value) (w : World) : (loadSem 25 v).run Tryz.prog w = loadRow Tryz.prog 25 4 v w := run_load_row 25 4 v w _ Tryz.underlying25 rfl (by kernel_rfl)
@[go_sem ↓] theorem sa_25 (a x : Value) : Instr.storeAt 25 a x = storeSem 25 a x := rfl
@[go_sem] theorem st_25 (a x : Value) (w : World) : (storeSem 25 a x).run Tryz.prog w = storeRow Tryz.prog 25 4 a x w := run_store_row 25 4 a x w (by kernel_rfl)
@[go_sem ↓] theorem la_31 (v : Value) : Instr.loadAt 31 v = loadSem 31 v := rfl
@[go_sem] theorem ld_31 (v : Value) (w : World) : (loadSem 31 v).run Tryz.prog w = loadRow Tryz.prog 31 7 v w := run_load_row 31 7 v w _ Tryz.underlying31 rfl (by kernel_rfl)
@[go_sem ↓] theorem sa_31 (a x : Value) : Instr.storeAt 31 a x = storeSem 31 a x := rfl
@[go_sem] theorem st_31 (a x : Value) (w : World) : (storeSem 31 a x).run Tryz.prog w = storeRow Tryz.prog 31 7 a x w := run_store_row 31 7 a x w (by kernel_rfl)
@[go_sem ↓] theorem la_32 (v : Value) : Instr.loadAt 32 v = loadSem 32 v := rfl
@[go_sem] theorem ld_32 (v : Value) (w : World) : (loadSem 32 v).run Tryz.prog w = loadRow Tryz.prog 32 7 v w := run_load_row 32 7 v w _ Tryz.underlying32 rfl (by kernel_rfl)
@[go_sem ↓] theorem sa_32 (a x : Value) : Instr.storeAt 32 a x = storeSem 32 a x := rfl
@[go_sem] theorem st_32 (a x : Value) (w : World) : (storeSem 32 a x).run Tryz.prog w = storeRow Tryz.prog 32 7 a x w := run_store_row 32 7 a x w (by kernel_rfl)
@[go_sem ↓] theorem la_37 (v : Value) : Instr.loadAt 37 v = loadSem 37 v := rfl
@[go_sem] theorem ld_37 (v : Value) (w : World) : (loadSem 37 v).run Tryz.prog w = loadRow Tryz.prog 37 7 v w := run_load_row 37 7 v w _ Tryz.underlying37 rfl (by kernel_rfl)
@[go_sem ↓] theorem sa_37 (a x : Value) : Instr.storeAt 37 a x = storeSem 37 a x := rfl
@[go_sem] theorem st_37 (a x : Value) (w : World) : (storeSem 37 a x).run Tryz.prog w = storeRow Tryz.prog 37 7 a x w := run_store_row 37 7 a x w (by kernel_rfl)
@[go_sem ↓] theorem la_38 (v : Value) : Instr.loadAt 38 v = loadSem 38 v := rfl
@[go_sem] theorem ld_38 (v : Value) (w : World) : (loadSem 38 v).run Tryz.prog w = loadRow Tryz.prog 38 7 v w := run_load_row 38 7 v w _ Tryz.underlying38 rfl (by kernel_rfl)
@[go_sem ↓] theorem sa_38 (a x : Value) : Instr.storeAt 38 a x = storeSem 38 a x := rfl
@[go_sem] theorem st_38 (a x : Value) (w : World) : (storeSem 38 a x).run Tryz.prog w = storeRow Tryz.prog 38 7 a x w := run_store_row 38 7 a x w (by kernel_rfl)
@[go_sem ↓] theorem la_41 (v : Value) : Instr.loadAt 41 v = loadSem 41 v := rfl
@[go_sem] theorem ld_41 (v : Value) (w : World) : (loadSem 41 v).run Tryz.prog w = loadRow Tryz.prog 41 5 v w := run_load_row 41 5 v w _ Tryz.underlying41 rfl (by kernel_rfl)
@[go_sem ↓] theorem sa_41 (a x : Value) : Instr.storeAt 41 a x = storeSem 41 a x := rfl
@[go_sem] theorem st_41 (a x : Value) (w : World) : (storeSem 41 a x).run Tryz.prog w = storeRow Tryz.prog 41 5 a x w := run_store_row 41 5 a x w (by kernel_rfl)
@[go_sem ↓] theorem la_42 (v : Value) : Instr.loadAt 42 v = loadSem 42 v := rfl
@[go_sem] theorem ld_42 (v : Value) (w : World) : (loadSem 42 v).run Tryz.prog w = loadRow Tryz.prog 42 5 v w := run_load_row 42 5 v w _ Tryz.underlying42 rfl (by kernel_rfl)
@[go_sem ↓] theorem sa_42 (a x : Value) : Instr.storeAt 42 a x = storeSem 42 a x := rfl
@[go_sem] theorem st_42 (a x : Value) (w : World) : (storeSem 42 a x).run Tryz.prog w = storeRow Tryz.prog 42 5 a x w := run_store_row 42 5 a x w (by kernel_rfl)
@[go_sem ↓] theorem la_46 (v : Value) : Instr.loadAt 46 v = loadSem 46 v := rfl
@[go_sem] theorem ld_46 (v : Value) (w : World) : (loadSem 46 v).run Tryz.prog w = loadRow Tryz.prog 46 7 v w := run_load_row 46 7 v w _ Tryz.underlying46 rfl (by kernel_rfl)
@[go_sem ↓] theorem sa_46 (a x : Value) : Instr.storeAt 46 a x = storeSem 46 a x := rfl
@[go_sem] theorem st_46 (a x : Value) (w : World) : (storeSem 46 a x).run Tryz.prog w = storeRow Tryz.prog 46 7 a x w := run_store_row 46 7 a x w (by kernel_rfl)
@[go_sem ↓] theorem la_47 (v : Value) : Instr.loadAt 47 v = loadSem 47 v := rfl
@[go_sem] theorem ld_47 (v : Value) (w : World) : (loadSem 47 v).run Tryz.prog w = loadRow Tryz.prog 47 7 v w := run_load_row 47 7 v w _ Tryz.underlying47 rfl (by kernel_rfl)
@[go_sem ↓] theorem sa_47 (a x : Value) : Instr.storeAt 47 a x = storeSem 47 a x := rfl
@[go_sem] theorem st_47 (a x : Value) (w : World) : (storeSem 47 a x).run Tryz.prog w = storeRow Tryz.prog 47 7 a x w := run_store_row 47 7 a x w (by kernel_rfl)
@[go_sem ↓] theorem la_48 (v : Value) : Instr.loadAt 48 v = loadSem 48 v := rfl
@[go_sem] theorem ld_48 (v : Value) (w : World) : (loadSem 48 v).run Tryz.prog w = loadRow Tryz.prog 48 2 v w := run_load_row 48 2 v w _ Tryz.underlying48 rfl (by kernel_rfl)
@[go_sem ↓] theorem sa_48 (a x : Value) : Instr.storeAt 48 a x = storeSem 48 a x := rfl
@[go_sem] theorem st_48 (a x : Value) (w : World) : (storeSem 48 a x).run Tryz.prog w = storeRow Tryz.prog 48 2 a x w := run_store_row 48 2 a x w (by kernel_rfl)
@[go_sem ↓] theorem la_49 (v : Value) : Instr.loadAt 49 v = loadSem 49 v := rfl
@[go_sem] theorem ld_49 (v : Value) (w : World) : (loadSem 49 v).run Tryz.prog w = loadRow Tryz.prog 49 2 v w := run_load_row 49 2 v w _ Tryz.underlying49 rfl (by kernel_rfl)
@[go_sem ↓] theorem sa_49 (a x : Value) : Instr.storeAt 49 a x = storeSem 49 a x := rfl
@[go_sem] theorem st_49 (a x : Value) (w : World) : (storeSem 49 a x).run Tryz.prog w = storeRow Tryz.prog 49 2 a x w := run_store_row 49 2 a x w (by kernel_rfl)
@[go_sem ↓] theorem la_50 (v : Value) : Instr.loadAt 50 v = loadSem 50 v := rfl
@[go_sem] theorem ld_50 (v : Value) (w : World) : (loadSem 50 v).run Tryz.prog w = loadRow Tryz.prog 50 32 v w := run_load_row 50 32 v w _ Tryz.underlying50 rfl (by kernel_rfl)
@[go_sem ↓] theorem sa_50 (a x : Value) : Instr.storeAt 50 a x = storeSem 50 a x := rfl
@[go_sem] theorem st_50 (a x : Value) (w : World) : (storeSem 50 a x).run Tryz.prog w = storeRow Tryz.prog 50 32 a x w := run_store_row 50 32 a x w (by kernel_rfl)
/-- The zero value of type 50, cell by cell. -/
def z50 : Array Value := #[.int .u8 0, .int .u8 0, .int .u8 0, .int .u8 0, .int .u8 0, .int .u8 0, .int .u8 0, .int .u8 0, .int .u8 0, .int .u8 0, .int .u8 0, .int .u8 0, .int .u8 0, .int .u8 0, .int .u8 0, .int .u8 0, .int .u8 0, .int .u8 0, .int .u8 0, .int .u8 0, .int .u8 0, .int .u8 0, .int .u8 0, .int .u8 0, .int .u8 0, .int .u8 0, .int .u8 0, .int .u8 0, .int .u8 0, .int .u8 0, .int .u8 0, .int .u8 0]
@[go_sem ↓] theorem al_50 (h : Bool) (old : Value) : Instr.alloc 50 h old = allocSem 50 h old := rfl
@[go_sem] theorem ar_50 (w : World) : (allocSem 50 true (.tuple #[])).run Tryz.prog w = .ok (.pointer (some ⟨w.heap.size, 0, none⟩)) (w.alloc (.cells z50 50)) := by kernel_rfl
@[go_sem] theorem zs_50 : z50.size = 32 := rfl
@[go_sem] theorem za_50 : z50.extract 0 32 = z50 := extract_all _ _ zs_50
@[go_sem] theorem zo_50 : ones z50 = true := by simp [ones, z50, Value.oneCell']
attribute [irreducible] z50
@[go_sem ↓] theorem la_51 (v : Value) : Instr.loadAt 51 v = loadSem 51 v := rfl
@[go_sem] theorem ld_51 (v : Value) (w : World) : (loadSem 51 v).run Tryz.prog w = loadRow Tryz.prog 51 32 v w := run_load_row 51 32 v w _ Tryz.underlying51 rfl (by kernel_rfl)
@[go_sem ↓] theorem sa_51 (a x : Value) : Instr.storeAt 51 a x = storeSem 51 a x := rfl
@[go_sem] theorem st_51 (a x : Value) (w : World) : (storeSem 51 a x).run Tryz.prog w = storeRow Tryz.prog 51 32 a x w := run_store_row 51 32 a x w (by kernel_rfl)
/-- The zero value of type 51, cell by cell. -/
def z51 : Array Value := #[.int .u8 0, .int .u8 0, .int .u8 0, .int .u8 0, .int .u8 0, .int .u8 0, .int .u8 0, .int .u8 0, .int .u8 0, .int .u8 0, .int .u8 0, .int .u8 0, .int .u8 0, .int .u8 0, .int .u8 0, .int .u8 0, .int .u8 0, .int .u8 0, .int .u8 0, .int .u8 0, .int .u8 0, .int .u8 0, .int .u8 0, .int .u8 0, .int .u8 0, .int .u8 0, .int .u8 0, .int .u8 0, .int .u8 0, .int .u8 0, .int .u8 0, .int .u8 0]
@[go_sem ↓] theorem al_51 (h : Bool) (old : Value) : Instr.alloc 51 h old = allocSem 51 h old := rfl
@[go_sem] theorem ar_51 (w : World) : (allocSem 51 true (.tuple #[])).run Tryz.prog w = .ok (.pointer (some ⟨w.heap.size, 0, none⟩)) (w.alloc (.cells z51 51)) := by kernel_rfl
@[go_sem] theorem zs_51 : z51.size = 32 := rfl
@[go_sem] theorem za_51 : z51.extract 0 32 = z51 := extract_all _ _ zs_51
@[go_sem] theorem zo_51 : ones z51 = true := by simp [ones, z51, Value.oneCell']
attribute [irreducible] z51
@[go_sem ↓] theorem la_52 (v : Value) : Instr.loadAt 52 v = loadSem 52 v := rfl
@[go_sem] theorem ld_52 (v : Value) (w : World) : (loadSem 52 v).run Tryz.prog w = loadRow Tryz.prog 52 62 v w := run_load_row 52 62 v w _ Tryz.underlying52 rfl (by kernel_rfl)
@[go_sem ↓] theorem sa_52 (a x : Value) : Instr.storeAt 52 a x = storeSem 52 a x := rfl
@[go_sem] theorem st_52 (a x : Value) (w : World) : (storeSem 52 a x).run Tryz.prog w = storeRow Tryz.prog 52 62 a x w := run_store_row 52 62 a x w (by kernel_rfl)
/-- The zero value of type 52, cell by cell. -/
def z52 : Array Value := #[.int .i64 0, .int .i64 0, .int .i64 0, .int .i64 0, .int .i64 0, .int .i64 0, .int .i64 0, .int .i64 0, .int .i64 0, .int .i64 0, .int .i64 0, .int .i64 0, .int .i64 0, .bool false, .int .i64 0, .int .i64 0, .int .i64 0, .slice none 0 0, .int .i64 0, .int .i64 0, .string ByteArray.empty, .int .i64 0, .int .i64 0, .slice none 0 0, .int .i64 0, .int .i64 0, .int .i64 0, .int .i64 0, .int .i64 0, .slice none 0 0, .int .u8 0, .int .u8 0, .int .u8 0, .int .u8 0, .int .u8 0, .int .u8 0, .int .u8 0, .int .u8 0, .int .u8 0, .int .u8 0, .int .u8 0, .int .u8 0, .int .u8 0, .int .u8 0, .int .u8 0, .int .u8 0, .int .u8 0, .int .u8 0, .int .u8 0, .int .u8 0, .int .u8 0, .int .u8 0, .int .u8 0, .int .u8 0, .int .u8 0, .int .u8 0, .int .u8 0, .int .u8 0, .int .u8 0, .int .u8 0, .int .u8 0, .int .u8 0]
@[go_sem ↓] theorem al_52 (h : Bool) (old : Value) : Instr.alloc 52 h old = allocSem 52 h old := rfl
@[go_sem] theorem ar_52 (w : World) : (allocSem 52 true (.tuple #[])).run Tryz.prog w = .ok (.pointer (some ⟨w.heap.size, 0, none⟩)) (w.alloc (.cells z52 52)) := by kernel_rfl
@[go_sem] theorem zs_52 : z52.size = 62 := rfl
@[go_sem] theorem za_52 : z52.extract 0 62 = z52 := extract_all _ _ zs_52
@[go_sem] theorem zo_52 : ones z52 = true := by simp [ones, z52, Value.oneCell']
attribute [irreducible] z52
@[go_sem ↓] theorem la_53 (v : Value) : Instr.loadAt 53 v = loadSem 53 v := rfl
@[go_sem] theorem ld_53 (v : Value) (w : World) : (loadSem 53 v).run Tryz.prog w = loadRow Tryz.prog 53 62 v w := run_load_row 53 62 v w _ Tryz.underlying53 rfl (by kernel_rfl)
@[go_sem ↓] theorem sa_53 (a x : Value) : Instr.storeAt 53 a x = storeSem 53 a x := rfl
@[go_sem] theorem st_53 (a x : Value) (w : World) : (storeSem 53 a x).run Tryz.prog w = storeRow Tryz.prog 53 62 a x w := run_store_row 53 62 a x w (by kernel_rfl)
/-- The zero value of type 53, cell by cell. -/
def z53 : Array Value := #[.int .i64 0, .int .i64 0, .int .i64 0, .int .i64 0, .int .i64 0, .int .i64 0, .int .i64 0, .int .i64 0, .int .i64 0, .int .i64 0, .int .i64 0, .int .i64 0, .int .i64 0, .bool false, .int .i64 0, .int .i64 0, .int .i64 0, .slice none 0 0, .int .i64 0, .int .i64 0, .string ByteArray.empty, .int .i64 0, .int .i64 0, .slice none 0 0, .int .i64 0, .int .i64 0, .int .i64 0, .int .i64 0, .int .i64 0, .slice none 0 0, .int .u8 0, .int .u8 0, .int .u8 0, .int .u8 0, .int .u8 0, .int .u8 0, .int .u8 0, .int .u8 0, .int .u8 0, .int .u8 0, .int .u8 0, .int .u8 0, .int .u8 0, .int .u8 0, .int .u8 0, .int .u8 0, .int .u8 0, .int .u8 0, .int .u8 0, .int .u8 0, .int .u8 0, .int .u8 0, .int .u8 0, .int .u8 0, .int .u8 0, .int .u8 0, .int .u8 0, .int .u8 0, .int .u8 0, .int .u8 0, .int .u8 0, .int .u8 0]
@[go_sem ↓] theorem al_53 (h : Bool) (old : Value) : Instr.alloc 53 h old = allocSem 53 h old := rfl
@[go_sem] theorem ar_53 (w : World) : (allocSem 53 true (.tuple #[])).run Tryz.prog w = .ok (.pointer (some ⟨w.heap.size, 0, none⟩)) (w.alloc (.cells z53 53)) := by kernel_rfl
@[go_sem] theorem zs_53 : z53.size = 62 := rfl
@[go_sem] theorem za_53 : z53.extract 0 62 = z53 := extract_all _ _ zs_53
@[go_sem] theorem zo_53 : ones z53 = true := by simp [ones, z53, Value.oneCell']
attribute [irreducible] z53
@[go_sem ↓] theorem la_58 (v : Value) : Instr.loadAt 58 v = loadSem 58 v := rfl
@[go_sem] theorem ld_58 (v : Value) (w : World) : (loadSem 58 v).run Tryz.prog w = loadRow Tryz.prog 58 36 v w := run_load_row 58 36 v w _ Tryz.underlying58 rfl (by kernel_rfl)
@[go_sem ↓] theorem sa_58 (a x : Value) : Instr.storeAt 58 a x = storeSem 58 a x := rfl
@[go_sem] theorem st_58 (a x : Value) (w : World) : (storeSem 58 a x).run Tryz.prog w = storeRow Tryz.prog 58 36 a x w := run_store_row 58 36 a x w (by kernel_rfl)
/-- The zero value of type 58, cell by cell. -/
def z58 : Array Value := #[.int .i64 0, .int .i64 0, .int .i64 0, .slice none 0 0, .int .u8 0, .int .u8 0, .int .u8 0, .int .u8 0, .int .u8 0, .int .u8 0, .int .u8 0, .int .u8 0, .int .u8 0, .int .u8 0, .int .u8 0, .int .u8 0, .int .u8 0, .int .u8 0, .int .u8 0, .int .u8 0, .int .u8 0, .int .u8 0, .int .u8 0, .int .u8 0, .int .u8 0, .int .u8 0, .int .u8 0, .int .u8 0, .int .u8 0, .int .u8 0, .int .u8 0, .int .u8 0, .int .u8 0, .int .u8 0, .int .u8 0, .int .u8 0]
@[go_sem ↓] theorem al_58 (h : Bool) (old : Value) : Instr.alloc 58 h old = allocSem 58 h old := rfl
@[go_sem] theorem ar_58 (w : World) : (allocSem 58 true (.tuple #[])).run Tryz.prog w = .ok (.pointer (some ⟨w.heap.size, 0, none⟩)) (w.alloc (.cells z58 58)) := by kernel_rfl
@[go_sem] theorem zs_58 : z58.size = 36 := rfl
@[go_sem] theorem za_58 : z58.extract 0 36 = z58 := extract_all _ _ zs_58
@[go_sem] theorem zo_58 : ones z58 = true := by simp [ones, z58, Value.oneCell']
attribute [irreducible] z58
@[go_sem ↓] theorem la_59 (v : Value) : Instr.loadAt 59 v = loadSem 59 v := rfl
@[go_sem] theorem ld_59 (v : Value) (w : World) : (loadSem 59 v).run Tryz.prog w = loadRow Tryz.prog 59 36 v w := run_load_row 59 36 v w _ Tryz.underlying59 rfl (by kernel_rfl)
@[go_sem ↓] theorem sa_59 (a x : Value) : Instr.storeAt 59 a x = storeSem 59 a x := rfl
@[go_sem] theorem st_59 (a x : Value) (w : World) : (storeSem 59 a x).run Tryz.prog w = storeRow Tryz.prog 59 36 a x w := run_store_row 59 36 a x w (by kernel_rfl)
/-- The zero value of type 59, cell by cell. -/
def z59 : Array Value := #[.int .i64 0, .int .i64 0, .int .i64 0, .slice none 0 0, .int .u8 0, .int .u8 0, .int .u8 0, .int .u8 0, .int .u8 0, .int .u8 0, .int .u8 0, .int .u8 0, .int .u8 0, .int .u8 0, .int .u8 0, .int .u8 0, .int .u8 0, .int .u8 0, .int .u8 0, .int .u8 0, .int .u8 0, .int .u8 0, .int .u8 0, .int .u8 0, .int .u8 0, .int .u8 0, .int .u8 0, .int .u8 0, .int .u8 0, .int .u8 0, .int .u8 0, .int .u8 0, .int .u8 0, .int .u8 0, .int .u8 0, .int .u8 0]
@[go_sem ↓] theorem al_59 (h : Bool) (old : Value) : Instr.alloc 59 h old = allocSem 59 h old := rfl
@[go_sem] theorem ar_59 (w : World) : (allocSem 59 true (.tuple #[])).run Tryz.prog w = .ok (.pointer (some ⟨w.heap.size, 0, none⟩)) (w.alloc (.cells z59 59)) := by kernel_rfl
@[go_sem] theorem zs_59 : z59.size = 36 := rfl
@[go_sem] theorem za_59 : z59.extract 0 36 = z59 := extract_all _ _ zs_59
@[go_sem] theorem zo_59 : ones z59 = true := by simp [ones, z59, Value.oneCell']
attribute [irreducible] z59
@[go_sem ↓] theorem la_74 (v : Value) : Instr.loadAt 74 v = loadSem 74 v := rfl
@[go_sem] theorem ld_74 (v : Value) (w : World) : (loadSem 74 v).run Tryz.prog w = loadRow Tryz.prog 74 4 v w := run_load_row 74 4 v w _ Tryz.underlying74 rfl (by kernel_rfl)
@[go_sem ↓] theorem sa_74 (a x : Value) : Instr.storeAt 74 a x = storeSem 74 a x := rfl
@[go_sem] theorem st_74 (a x : Value) (w : World) : (storeSem 74 a x).run Tryz.prog w = storeRow Tryz.prog 74 4 a x w := run_store_row 74 4 a x w (by kernel_rfl)
@[go_sem ↓] theorem la_75 (v : Value) : Instr.loadAt 75 v = loadSem 75 v := rfl
@[go_sem] theorem ld_75 (v : Value) (w : World) : (loadSem 75 v).run Tryz.prog w = loadRow Tryz.prog 75 4 v w := run_load_row 75 4 v w _ Tryz.underlying75 rfl (by kernel_rfl)
@[go_sem ↓] theorem sa_75 (a x : Value) : Instr.storeAt 75 a x = storeSem 75 a x := rfl
@[go_sem] theorem st_75 (a x : Value) (w : World) : (storeSem 75 a x).run Tryz.prog w = storeRow Tryz.prog 75 4 a x w := run_store_row 75 4 a x w (by kernel_rfl)
@[go_sem ↓] theorem la_119 (v : Value) : Instr.loadAt 119 v = loadSem 119 v := rfl
@[go_sem] theorem ld_119 (v : Value) (w : World) : (loadSem 119 v).run Tryz.prog w = loadRow Tryz.prog 119 99 v w := run_load_row 119 99 v w _ Tryz.underlying119 rfl (by kernel_rfl)
@[go_sem ↓] theorem sa_119 (a x : Value) : Instr.storeAt 119 a x = storeSem 119 a x := rfl
@[go_sem] theorem st_119 (a x : Value) (w : World) : (storeSem 119 a x).run Tryz.prog w = storeRow Tryz.prog 119 99 a x w := run_store_row 119 99 a x w (by kernel_rfl)
/-- The zero value of type 119, cell by cell. -/
def z119 : Array Value := #[.slice none 0 0, .int .i64 0, .int .i64 0, .int .i64 0, .slice none 0 0, .int .u8 0, .int .u8 0, .int .u8 0, .int .u8 0, .int .u8 0, .int .u8 0, .int .u8 0, .int .u8 0, .int .u8 0, .int .u8 0, .int .u8 0, .int .u8 0, .int .u8 0, .int .u8 0, .int .u8 0, .int .u8 0, .int .u8 0, .int .u8 0, .int .u8 0, .int .u8 0, .int .u8 0, .int .u8 0, .int .u8 0, .int .u8 0, .int .u8 0, .int .u8 0, .int .u8 0, .int .u8 0, .int .u8 0, .int .u8 0, .int .u8 0, .int .u8 0, .int .i64 0, .int .i64 0, .int .i64 0, .int .i64 0, .int .i64 0, .int .i64 0, .int .i64 0, .int .i64 0, .int .i64 0, .int .i64 0, .int .i64 0, .int .i64 0, .int .i64 0, .bool false, .int .i64 0, .int .i64 0, .int .i64 0, .slice none 0 0, .int .i64 0, .int .i64 0, .string ByteArray.empty, .int .i64 0, .int .i64 0, .slice none 0 0, .int .i64 0, .int .i64 0, .int .i64 0, .int .i64 0, .int .i64 0, .slice none 0 0, .int .u8 0, .int .u8 0, .int .u8 0, .int .u8 0, .int .u8 0, .int .u8 0, .int .u8 0, .int .u8 0, .int .u8 0, .int .u8 0, .int .u8 0, .int .u8 0, .int .u8 0, .int .u8 0, .int .u8 0, .int .u8 0, .int .u8 0, .int .u8 0, .int .u8 0, .int .u8 0, .int .u8 0, .int .u8 0, .int .u8 0, .int .u8 0, .int .u8 0, .int .u8 0, .int .u8 0, .int .u8 0, .int .u8 0, .int .u8 0, .int .u8 0, .int .u8 0]
@[go_sem ↓] theorem al_119 (h : Bool) (old : Value) : Instr.alloc 119 h old = allocSem 119 h old := rfl
@[go_sem] theorem ar_119 (w : World) : (allocSem 119 true (.tuple #[])).run Tryz.prog w = .ok (.pointer (some ⟨w.heap.size, 0, none⟩)) (w.alloc (.cells z119 119)) := by kernel_rfl
@[go_sem] theorem zs_119 : z119.size = 99 := rfl
@[go_sem] theorem za_119 : z119.extract 0 99 = z119 := extract_all _ _ zs_119
@[go_sem] theorem zo_119 : ones z119 = true := by simp [ones, z119, Value.oneCell']
attribute [irreducible] z119
@[go_sem ↓] theorem la_120 (v : Value) : Instr.loadAt 120 v = loadSem 120 v := rfl
@[go_sem] theorem ld_120 (v : Value) (w : World) : (loadSem 120 v).run Tryz.prog w = loadRow Tryz.prog 120 99 v w := run_load_row 120 99 v w _ Tryz.underlying120 rfl (by kernel_rfl)
@[go_sem ↓] theorem sa_120 (a x : Value) : Instr.storeAt 120 a x = storeSem 120 a x := rfl
@[go_sem] theorem st_120 (a x : Value) (w : World) : (storeSem 120 a x).run Tryz.prog w = storeRow Tryz.prog 120 99 a x w := run_store_row 120 99 a x w (by kernel_rfl)
/-- The zero value of type 120, cell by cell. -/
def z120 : Array Value := #[.slice none 0 0, .int .i64 0, .int .i64 0, .int .i64 0, .slice none 0 0, .int .u8 0, .int .u8 0, .int .u8 0, .int .u8 0, .int .u8 0, .int .u8 0, .int .u8 0, .int .u8 0, .int .u8 0, .int .u8 0, .int .u8 0, .int .u8 0, .int .u8 0, .int .u8 0, .int .u8 0, .int .u8 0, .int .u8 0, .int .u8 0, .int .u8 0, .int .u8 0, .int .u8 0, .int .u8 0, .int .u8 0, .int .u8 0, .int .u8 0, .int .u8 0, .int .u8 0, .int .u8 0, .int .u8 0, .int .u8 0, .int .u8 0, .int .u8 0, .int .i64 0, .int .i64 0, .int .i64 0, .int .i64 0, .int .i64 0, .int .i64 0, .int .i64 0, .int .i64 0, .int .i64 0, .int .i64 0, .int .i64 0, .int .i64 0, .int .i64 0, .bool false, .int .i64 0, .int .i64 0, .int .i64 0, .slice none 0 0, .int .i64 0, .int .i64 0, .string ByteArray.empty, .int .i64 0, .int .i64 0, .slice none 0 0, .int .i64 0, .int .i64 0, .int .i64 0, .int .i64 0, .int .i64 0, .slice none 0 0, .int .u8 0, .int .u8 0, .int .u8 0, .int .u8 0, .int .u8 0, .int .u8 0, .int .u8 0, .int .u8 0, .int .u8 0, .int .u8 0, .int .u8 0, .int .u8 0, .int .u8 0, .int .u8 0, .int .u8 0, .int .u8 0, .int .u8 0, .int .u8 0, .int .u8 0, .int .u8 0, .int .u8 0, .int .u8 0, .int .u8 0, .int .u8 0, .int .u8 0, .int .u8 0, .int .u8 0, .int .u8 0, .int .u8 0, .int .u8 0, .int .u8 0, .int .u8 0]
@[go_sem ↓] theorem al_120 (h : Bool) (old : Value) : Instr.alloc 120 h old = allocSem 120 h old := rfl
@[go_sem] theorem ar_120 (w : World) : (allocSem 120 true (.tuple #[])).run Tryz.prog w = .ok (.pointer (some ⟨w.heap.size, 0, none⟩)) (w.alloc (.cells z120 120)) := by kernel_rfl
@[go_sem] theorem zs_120 : z120.size = 99 := rfl
@[go_sem] theorem za_120 : z120.extract 0 99 = z120 := extract_all _ _ zs_120
@[go_sem] theorem zo_120 : ones z120 = true := by simp [ones, z120, Value.oneCell']
attribute [irreducible] z120
@[go_sem ↓] theorem la_122 (v : Value) : Instr.loadAt 122 v = loadSem 122 v := rfl
@[go_sem] theorem ld_122 (v : Value) (w : World) : (loadSem 122 v).run Tryz.prog w = loadRow Tryz.prog 122 3 v w := run_load_row 122 3 v w _ Tryz.underlying122 rfl (by kernel_rfl)
@[go_sem ↓] theorem sa_122 (a x : Value) : Instr.storeAt 122 a x = storeSem 122 a x := rfl
@[go_sem] theorem st_122 (a x : Value) (w : World) : (storeSem 122 a x).run Tryz.prog w = storeRow Tryz.prog 122 3 a x w := run_store_row 122 3 a x w (by kernel_rfl)
@[go_sem ↓] theorem la_131 (v : Value) : Instr.loadAt 131 v = loadSem 131 v := rfl
@[go_sem] theorem ld_131 (v : Value) (w : World) : (loadSem 131 v).run Tryz.prog w = loadRow Tryz.prog 131 17 v w := run_load_row 131 17 v w _ Tryz.underlying131 rfl (by kernel_rfl)
@[go_sem ↓] theorem sa_131 (a x : Value) : Instr.storeAt 131 a x = storeSem 131 a x := rfl
@[go_sem] theorem st_131 (a x : Value) (w : World) : (storeSem 131 a x).run Tryz.prog w = storeRow Tryz.prog 131 17 a x w := run_store_row 131 17 a x w (by kernel_rfl)
/-- The zero value of type 131, cell by cell. -/
def z131 : Array Value := #[.pointer none, .pointer none, .pointer none, .pointer none, .pointer none, .pointer none, .pointer none, .pointer none, .pointer none, .pointer none, .pointer none, .pointer none, .pointer none, .pointer none, .pointer none, .pointer none, .pointer none]
@[go_sem ↓] theorem al_131 (h : Bool) (old : Value) : Instr.alloc 131 h old = allocSem 131 h old := rfl
@[go_sem] theorem ar_131 (w : World) : (allocSem 131 true (.tuple #[])).run Tryz.prog w = .ok (.pointer (some ⟨w.heap.size, 0, none⟩)) (w.alloc (.cells z131 131)) := by kernel_rfl
@[go_sem] theorem zs_131 : z131.size = 17 := rfl
@[go_sem] theorem za_131 : z131.extract 0 17 = z131 := extract_all _ _ zs_131
@[go_sem] theorem zo_131 : ones z131 = true := by simp [ones, z131, Value.oneCell']
attribute [irreducible] z131
@[go_sem ↓] theorem la_136 (v : Value) : Instr.loadAt 136 v = loadSem 136 v := rfl
@[go_sem] theorem ld_136 (v : Value) (w : World) : (loadSem 136 v).run Tryz.prog w = loadRow Tryz.prog 136 17 v w := run_load_row 136 17 v w _ Tryz.underlying136 rfl (by kernel_rfl)
@[go_sem ↓] theorem sa_136 (a x : Value) : Instr.storeAt 136 a x = storeSem 136 a x := rfl
@[go_sem] theorem st_136 (a x : Value) (w : World) : (storeSem 136 a x).run Tryz.prog w = storeRow Tryz.prog 136 17 a x w := run_store_row 136 17 a x w (by kernel_rfl)
/-- The zero value of type 136, cell by cell. -/
def z136 : Array Value := #[.bool false, .bool false, .bool false, .bool false, .bool false, .bool false, .bool false, .bool false, .bool false, .bool false, .bool false, .bool false, .bool false, .bool false, .bool false, .bool false, .bool false]
@[go_sem ↓] theorem al_136 (h : Bool) (old : Value) : Instr.alloc 136 h old = allocSem 136 h old := rfl
@[go_sem] theorem ar_136 (w : World) : (allocSem 136 true (.tuple #[])).run Tryz.prog w = .ok (.pointer (some ⟨w.heap.size, 0, none⟩)) (w.alloc (.cells z136 136)) := by kernel_rfl
@[go_sem] theorem zs_136 : z136.size = 17 := rfl
@[go_sem] theorem za_136 : z136.extract 0 17 = z136 := extract_all _ _ zs_136
@[go_sem] theorem zo_136 : ones z136 = true := by simp [ones, z136, Value.oneCell']
attribute [irreducible] z136
@[go_sem ↓] theorem la_139 (v : Value) : Instr.loadAt 139 v = loadSem 139 v := rfl
@[go_sem] theorem ld_139 (v : Value) (w : World) : (loadSem 139 v).run Tryz.prog w = loadRow Tryz.prog 139 19 v w := run_load_row 139 19 v w _ Tryz.underlying139 rfl (by kernel_rfl)
@[go_sem ↓] theorem sa_139 (a x : Value) : Instr.storeAt 139 a x = storeSem 139 a x := rfl
@[go_sem] theorem st_139 (a x : Value) (w : World) : (storeSem 139 a x).run Tryz.prog w = storeRow Tryz.prog 139 19 a x w := run_store_row 139 19 a x w (by kernel_rfl)
/-- The zero value of type 139, cell by cell. -/
def z139 : Array Value := #[.int .i64 0, .int .i64 0, .int .i64 0, .int .i64 0, .int .i64 0, .int .i64 0, .int .i64 0, .int .i64 0, .int .i64 0, .int .i64 0, .int .i64 0, .int .i64 0, .int .i64 0, .int .i64 0, .int .i64 0, .int .i64 0, .int .i64 0, .int .i64 0, .int .i64 0]
@[go_sem ↓] theorem al_139 (h : Bool) (old : Value) : Instr.alloc 139 h old = allocSem 139 h old := rfl
@[go_sem] theorem ar_139 (w : World) : (allocSem 139 true (.tuple #[])).run Tryz.prog w = .ok (.pointer (some ⟨w.heap.size, 0, none⟩)) (w.alloc (.cells z139 139)) := by kernel_rfl
@[go_sem] theorem zs_139 : z139.size = 19 := rfl
@[go_sem] theorem za_139 : z139.extract 0 19 = z139 := extract_all _ _ zs_139
@[go_sem] theorem zo_139 : ones z139 = true := by simp [ones, z139, Value.oneCell']
attribute [irreducible] z139
@[go_sem ↓] theorem la_142 (v : Value) : Instr.loadAt 142 v = loadSem 142 v := rfl
@[go_sem] theorem ld_142 (v : Value) (w : World) : (loadSem 142 v).run Tryz.prog w = loadRow Tryz.prog 142 4 v w := run_load_row 142 4 v w _ Tryz.underlying142 rfl (by kernel_rfl)
@[go_sem ↓] theorem sa_142 (a x : Value) : Instr.storeAt 142 a x = storeSem 142 a x := rfl
@[go_sem] theorem st_142 (a x : Value) (w : World) : (storeSem 142 a x).run Tryz.prog w = storeRow Tryz.prog 142 4 a x w := run_store_row 142 4 a x w (by kernel_rfl)
@[go_sem ↓] theorem la_143 (v : Value) : Instr.loadAt 143 v = loadSem 143 v := rfl
@[go_sem] theorem ld_143 (v : Value) (w : World) : (loadSem 143 v).run Tryz.prog w = loadRow Tryz.prog 143 4 v w := run_load_row 143 4 v w _ Tryz.underlying143 rfl (by kernel_rfl)
@[go_sem ↓] theorem sa_143 (a x : Value) : Instr.storeAt 143 a x = storeSem 143 a x := rfl
@[go_sem] theorem st_143 (a x : Value) (w : World) : (storeSem 143 a x).run Tryz.prog w = storeRow Tryz.prog 143 4 a x w := run_store_row 143 4 a x w (by kernel_rfl)
@[go_sem ↓] theorem la_148 (v : Value) : Instr.loadAt 148 v = loadSem 148 v := rfl
@[go_sem] theorem ld_148 (v : Value) (w : World) : (loadSem 148 v).run Tryz.prog w = loadRow Tryz.prog 148 8 v w := run_load_row 148 8 v w _ Tryz.underlying148 rfl (by kernel_rfl)
@[go_sem ↓] theorem sa_148 (a x : Value) : Instr.storeAt 148 a x = storeSem 148 a x := rfl
@[go_sem] theorem st_148 (a x : Value) (w : World) : (storeSem 148 a x).run Tryz.prog w = storeRow Tryz.prog 148 8 a x w := run_store_row 148 8 a x w (by kernel_rfl)
@[go_sem ↓] theorem la_151 (v : Value) : Instr.loadAt 151 v = loadSem 151 v := rfl
@[go_sem] theorem ld_151 (v : Value) (w : World) : (loadSem 151 v).run Tryz.prog w = loadRow Tryz.prog 151 2 v w := run_load_row 151 2 v w _ Tryz.underlying151 rfl (by kernel_rfl)
@[go_sem ↓] theorem sa_151 (a x : Value) : Instr.storeAt 151 a x = storeSem 151 a x := rfl
@[go_sem] theorem st_151 (a x : Value) (w : World) : (storeSem 151 a x).run Tryz.prog w = storeRow Tryz.prog 151 2 a x w := run_store_row 151 2 a x w (by kernel_rfl)
@[go_sem ↓] theorem la_152 (v : Value) : Instr.loadAt 152 v = loadSem 152 v := rfl
@[go_sem] theorem ld_152 (v : Value) (w : World) : (loadSem 152 v).run Tryz.prog w = loadRow Tryz.prog 152 2 v w := run_load_row 152 2 v w _ Tryz.underlying152 rfl (by kernel_rfl)
@[go_sem ↓] theorem sa_152 (a x : Value) : Instr.storeAt 152 a x = storeSem 152 a x := rfl
@[go_sem] theorem st_152 (a x : Value) (w : World) : (storeSem 152 a x).run Tryz.prog w = storeRow Tryz.prog 152 2 a x w := run_store_row 152 2 a x w (by kernel_rfl)
@[go_sem ↓] theorem la_154 (v : Value) : Instr.loadAt 154 v = loadSem 154 v := rfl
@[go_sem] theorem ld_154 (v : Value) (w : World) : (loadSem 154 v).run Tryz.prog w = loadRow Tryz.prog 154 17 v w := run_load_row 154 17 v w _ Tryz.underlying154 rfl (by kernel_rfl)
@[go_sem ↓] theorem sa_154 (a x : Value) : Instr.storeAt 154 a x = storeSem 154 a x := rfl
@[go_sem] theorem st_154 (a x : Value) (w : World) : (storeSem 154 a x).run Tryz.prog w = storeRow Tryz.prog 154 17 a x w := run_store_row 154 17 a x w (by kernel_rfl)
/-- The zero value of type 154, cell by cell. -/
def z154 : Array Value := #[.nilFunc, .nilFunc, .nilFunc, .nilFunc, .nilFunc, .nilFunc, .nilFunc, .nilFunc, .nilFunc, .nilFunc, .nilFunc, .nilFunc, .nilFunc, .nilFunc, .nilFunc, .nilFunc, .nilFunc]
@[go_sem ↓] theorem al_154 (h : Bool) (old : Value) : Instr.alloc 154 h old = allocSem 154 h old := rfl
@[go_sem] theorem ar_154 (w : World) : (allocSem 154 true (.tuple #[])).run Tryz.prog w = .ok (.pointer (some ⟨w.heap.size, 0, none⟩)) (w.alloc (.cells z154 154)) := by kernel_rfl
@[go_sem] theorem zs_154 : z154.size = 17 := rfl
@[go_sem] theorem za_154 : z154.extract 0 17 = z154 := extract_all _ _ zs_154
@[go_sem] theorem zo_154 : ones z154 = true := by simp [ones, z154, Value.oneCell']
attribute [irreducible] z154
@[go_sem ↓] theorem la_158 (v : Value) : Instr.loadAt 158 v = loadSem 158 v := rfl
@[go_sem] theorem ld_158 (v : Value) (w : World) : (loadSem 158 v).run Tryz.prog w = loadRow Tryz.prog 158 8 v w := run_load_row 158 8 v w _ Tryz.underlying158 rfl (by kernel_rfl)
@[go_sem ↓] theorem sa_158 (a x : Value) : Instr.storeAt 158 a x = storeSem 158 a x := rfl
@[go_sem] theorem st_158 (a x : Value) (w : World) : (storeSem 158 a x).run Tryz.prog w = storeRow Tryz.prog 158 8 a x w := run_store_row 158 8 a x w (by kernel_rfl)
@[go_sem ↓] theorem la_162 (v : Value) : Instr.loadAt 162 v = loadSem 162 v := rfl
@[go_sem] theorem ld_162 (v : Value) (w : World) : (loadSem 162 v).run Tryz.prog w = loadRow Tryz.prog 162 2 v w := run_load_row 162 2 v w _ Tryz.underlying162 rfl (by kernel_rfl)
@[go_sem ↓] theorem sa_162 (a x : Value) : Instr.storeAt 162 a x = storeSem 162 a x := rfl
@[go_sem] theorem st_162 (a x : Value) (w : World) : (storeSem 162 a x).run Tryz.prog w = storeRow Tryz.prog 162 2 a x w := run_store_row 162 2 a x w (by kernel_rfl)
@[go_sem ↓] theorem la_163 (v : Value) : Instr.loadAt 163 v = loadSem 163 v := rfl
@[go_sem] theorem ld_163 (v : Value) (w : World) : (loadSem 163 v).run Tryz.prog w = loadRow Tryz.prog 163 34 v w := run_load_row 163 34 v w _ Tryz.underlying163 rfl (by kernel_rfl)
@[go_sem ↓] theorem sa_163 (a x : Value) : Instr.storeAt 163 a x = storeSem 163 a x := rfl
@[go_sem] theorem st_163 (a x : Value) (w : World) : (storeSem 163 a x).run Tryz.prog w = storeRow Tryz.prog 163 34 a x w := run_store_row 163 34 a x w (by kernel_rfl)
/-- The zero value of type 163, cell by cell. -/
def z163 : Array Value := #[.int .i64 0, .int .i64 0, .int .i64 0, .int .i64 0, .int .i64 0, .int .i64 0, .int .i64 0, .int .i64 0, .int .i64 0, .int .i64 0, .int .i64 0, .int .i64 0, .int .i64 0, .int .i64 0, .int .i64 0, .int .i64 0, .int .i64 0, .int .i64 0, .int .i64 0, .int .i64 0, .int .i64 0, .int .i64 0, .int .i64 0, .int .i64 0, .int .i64 0, .int .i64 0, .int .i64 0, .int .i64 0, .int .i64 0, .int .i64 0, .int .i64 0, .int .i64 0, .int .i64 0, .int .i64 0]
@[go_sem ↓] theorem al_163 (h : Bool) (old : Value) : Instr.alloc 163 h old = allocSem 163 h old := rfl
@[go_sem] theorem ar_163 (w : World) : (allocSem 163 true (.tuple #[])).run Tryz.prog w = .ok (.pointer (some ⟨w.heap.size, 0, none⟩)) (w.alloc (.cells z163 163)) := by kernel_rfl
@[go_sem] theorem zs_163 : z163.size = 34 := rfl
@[go_sem] theorem za_163 : z163.extract 0 34 = z163 := extract_all _ _ zs_163
@[go_sem] theorem zo_163 : ones z163 = true := by simp [ones, z163, Value.oneCell']
attribute [irreducible] z163
@[go_sem ↓] theorem la_164 (v : Value) : Instr.loadAt 164 v = loadSem 164 v := rfl
@[go_sem] theorem ld_164 (v : Value) (w : World) : (loadSem 164 v).run Tryz.prog w = loadRow Tryz.prog 164 8 v w := run_load_row 164 8 v w _ Tryz.underlying164 rfl (by kernel_rfl)
@[go_sem ↓] theorem sa_164 (a x : Value) : Instr.storeAt 164 a x = storeSem 164 a x := rfl
@[go_sem] theorem st_164 (a x : Value) (w : World) : (storeSem 164 a x).run Tryz.prog w = storeRow Tryz.prog 164 8 a x w := run_store_row 164 8 a x w (by kernel_rfl)
@[go_sem ↓] theorem la_165 (v : Value) : Instr.loadAt 165 v = loadSem 165 v := rfl
@[go_sem] theorem ld_165 (v : Value) (w : World) : (loadSem 165 v).run Tryz.prog w = loadRow Tryz.prog 165 8 v w := run_load_row 165 8 v w _ Tryz.underlying165 rfl (by kernel_rfl)
@[go_sem ↓] theorem sa_165 (a x : Value) : Instr.storeAt 165 a x = storeSem 165 a x := rfl
@[go_sem] theorem st_165 (a x : Value) (w : World) : (storeSem 165 a x).run Tryz.prog w = storeRow Tryz.prog 165 8 a x w := run_store_row 165 8 a x w (by kernel_rfl)
@[go_sem ↓] theorem la_170 (v : Value) : Instr.loadAt 170 v = loadSem 170 v := rfl
@[go_sem] theorem ld_170 (v : Value) (w : World) : (loadSem 170 v).run Tryz.prog w = loadRow Tryz.prog 170 2 v w := run_load_row 170 2 v w _ Tryz.underlying170 rfl (by kernel_rfl)
@[go_sem ↓] theorem sa_170 (a x : Value) : Instr.storeAt 170 a x = storeSem 170 a x := rfl
@[go_sem] theorem st_170 (a x : Value) (w : World) : (storeSem 170 a x).run Tryz.prog w = storeRow Tryz.prog 170 2 a x w := run_store_row 170 2 a x w (by kernel_rfl)
@[go_sem ↓] theorem la_171 (v : Value) : Instr.loadAt 171 v = loadSem 171 v := rfl
@[go_sem] theorem ld_171 (v : Value) (w : World) : (loadSem 171 v).run Tryz.prog w = loadRow Tryz.prog 171 2 v w := run_load_row 171 2 v w _ Tryz.underlying171 rfl (by kernel_rfl)
@[go_sem ↓] theorem sa_171 (a x : Value) : Instr.storeAt 171 a x = storeSem 171 a x := rfl
@[go_sem] theorem st_171 (a x : Value) (w : World) : (storeSem 171 a x).run Tryz.prog w = storeRow Tryz.prog 171 2 a x w := run_store_row 171 2 a x w (by kernel_rfl)
@[go_sem ↓] theorem la_172 (v : Value) : Instr.loadAt 172 v = loadSem 172 v := rfl
@[go_sem] theorem ld_172 (v : Value) (w : World) : (loadSem 172 v).run Tryz.prog w = loadRow Tryz.prog 172 4 v w := run_load_row 172 4 v w _ Tryz.underlying172 rfl (by kernel_rfl)
@[go_sem ↓] theorem sa_172 (a x : Value) : Instr.storeAt 172 a x = storeSem 172 a x := rfl
@[go_sem] theorem st_172 (a x : Value) (w : World) : (storeSem 172 a x).run Tryz.prog w = storeRow Tryz.prog 172 4 a x w := run_store_row 172 4 a x w (by kernel_rfl)
@[go_sem ↓] theorem la_173 (v : Value) : Instr.loadAt 173 v = loadSem 173 v := rfl
@[go_sem] theorem ld_173 (v : Value) (w : World) : (loadSem 173 v).run Tryz.prog w = loadRow Tryz.prog 173 4 v w := run_load_row 173 4 v w _ Tryz.underlying173 rfl (by kernel_rfl)
@[go_sem ↓] theorem sa_173 (a x : Value) : Instr.storeAt 173 a x = storeSem 173 a x := rfl
@[go_sem] theorem st_173 (a x : Value) (w : World) : (storeSem 173 a x).run Tryz.prog w = storeRow Tryz.prog 173 4 a x w := run_store_row 173 4 a x w (by kernel_rfl)
@[go_sem ↓] theorem la_174 (v : Value) : Instr.loadAt 174 v = loadSem 174 v := rfl
@[go_sem] theorem ld_174 (v : Value) (w : World) : (loadSem 174 v).run Tryz.prog w = loadRow Tryz.prog 174 76 v w := run_load_row 174 76 v w _ Tryz.underlying174 rfl (by kernel_rfl)
@[go_sem ↓] theorem sa_174 (a x : Value) : Instr.storeAt 174 a x = storeSem 174 a x := rfl
@[go_sem] theorem st_174 (a x : Value) (w : World) : (storeSem 174 a x).run Tryz.prog w = storeRow Tryz.prog 174 76 a x w := run_store_row 174 76 a x w (by kernel_rfl)
/-- The zero value of type 174, cell by cell. -/
def z174 : Array Value := #[.int .i64 0, .bool false, .int .i64 0, .int .i64 0, .int .i64 0, .bool false, .int .i64 0, .int .i64 0, .int .i64 0, .bool false, .int .i64 0, .int .i64 0, .int .i64 0, .bool false, .int .i64 0, .int .i64 0, .int .i64 0, .bool false, .int .i64 0, .int .i64 0, .int .i64 0, .bool false, .int .i64 0, .int .i64 0, .int .i64 0, .bool false, .int .i64 0, .int .i64 0, .int .i64 0, .bool false, .int .i64 0, .int .i64 0, .int .i64 0, .bool false, .int .i64 0, .int .i64 0, .int .i64 0, .bool false, .int .i64 0, .int .i64 0, .int .i64 0, .bool false, .int .i64 0, .int .i64 0, .int .i64 0, .bool false, .int .i64 0, .int .i64 0, .int .i64 0, .bool false, .int .i64 0, .int .i64 0, .int .i64 0, .bool false, .int .i64 0, .int .i64 0, .int .i64 0, .bool false, .int .i64 0, .int .i64 0, .int .i64 0, .bool false, .int .i64 0, .int .i64 0, .int .i64 0, .bool false, .int .i64 0, .int .i64 0, .int .i64 0, .bool false, .int .i64 0, .int .i64 0, .int .i64 0, .bool false, .int .i64 0, .int .i64 0]
@[go_sem ↓] theorem al_174 (h : Bool) (old : Value) : Instr.alloc 174 h old = allocSem 174 h old := rfl
@[go_sem] theorem ar_174 (w : World) : (allocSem 174 true (.tuple #[])).run Tryz.prog w = .ok (.pointer (some ⟨w.heap.size, 0, none⟩)) (w.alloc (.cells z174 174)) := by kernel_rfl
@[go_sem] theorem zs_174 : z174.size = 76 := rfl
@[go_sem] theorem za_174 : z174.extract 0 76 = z174 := extract_all _ _ zs_174
@[go_sem] theorem zo_174 : ones z174 = true := by simp [ones, z174, Value.oneCell']
attribute [irreducible] z174
@[go_sem ↓] theorem la_178 (v : Value) : Instr.loadAt 178 v = loadSem 178 v := rfl
@[go_sem] theorem ld_178 (v : Value) (w : World) : (loadSem 178 v).run Tryz.prog w = loadRow Tryz.prog 178 3 v w := run_load_row 178 3 v w _ Tryz.underlying178 rfl (by kernel_rfl)
@[go_sem ↓] theorem sa_178 (a x : Value) : Instr.storeAt 178 a x = storeSem 178 a x := rfl
@[go_sem] theorem st_178 (a x : Value) (w : World) : (storeSem 178 a x).run Tryz.prog w = storeRow Tryz.prog 178 3 a x w := run_store_row 178 3 a x w (by kernel_rfl)
@[go_sem ↓] theorem la_179 (v : Value) : Instr.loadAt 179 v = loadSem 179 v := rfl
@[go_sem] theorem ld_179 (v : Value) (w : World) : (loadSem 179 v).run Tryz.prog w = loadRow Tryz.prog 179 3 v w := run_load_row 179 3 v w _ Tryz.underlying179 rfl (by kernel_rfl)
@[go_sem ↓] theorem sa_179 (a x : Value) : Instr.storeAt 179 a x = storeSem 179 a x := rfl
@[go_sem] theorem st_179 (a x : Value) (w : World) : (storeSem 179 a x).run Tryz.prog w = storeRow Tryz.prog 179 3 a x w := run_store_row 179 3 a x w (by kernel_rfl)
@[go_sem ↓] theorem la_183 (v : Value) : Instr.loadAt 183 v = loadSem 183 v := rfl
@[go_sem] theorem ld_183 (v : Value) (w : World) : (loadSem 183 v).run Tryz.prog w = loadRow Tryz.prog 183 64 v w := run_load_row 183 64 v w _ Tryz.underlying183 rfl (by kernel_rfl)
@[go_sem ↓] theorem sa_183 (a x : Value) : Instr.storeAt 183 a x = storeSem 183 a x := rfl
@[go_sem] theorem st_183 (a x : Value) (w : World) : (storeSem 183 a x).run Tryz.prog w = storeRow Tryz.prog 183 64 a x w := run_store_row 183 64 a x w (by kernel_rfl)
/-- The zero value of type 183, cell by cell. -/
def z183 : Array Value := #[.int .u32 0, .int .u32 0, .int .u32 0, .int .u32 0, .int .u32 0, .int .u32 0, .int .u32 0, .int .u32 0, .int .u32 0, .int .u32 0, .int .u32 0, .int .u32 0, .int .u32 0, .int .u32 0, .int .u32 0, .int .u32 0, .int .u32 0, .int .u32 0, .int .u32 0, .int .u32 0, .int .u32 0, .int .u32 0, .int .u32 0, .int .u32 0, .int .u32 0, .int .u32 0, .int .u32 0, .int .u32 0, .int .u32 0, .int .u32 0, .int .u32 0, .int .u32 0, .int .u32 0, .int .u32 0, .int .u32 0, .int .u32 0, .int .u32 0, .int .u32 0, .int .u32 0, .int .u32 0, .int .u32 0, .int .u32 0, .int .u32 0, .int .u32 0, .int .u32 0, .int .u32 0, .int .u32 0, .int .u32 0, .int .u32 0, .int .u32 0, .int .u32 0, .int .u32 0, .int .u32 0, .int .u32 0, .int .u32 0, .int .u32 0, .int .u32 0, .int .u32 0, .int .u32 0, .int .u32 0, .int .u32 0, .int .u32 0, .int .u32 0, .int .u32 0]
@[go_sem ↓] theorem al_183 (h : Bool) (old : Value) : Instr.alloc 183 h old = allocSem 183 h old := rfl
@[go_sem] theorem ar_183 (w : World) : (allocSem 183 true (.tuple #[])).run Tryz.prog w = .ok (.pointer (some ⟨w.heap.size, 0, none⟩)) (w.alloc (.cells z183 183)) := by kernel_rfl
@[go_sem] theorem zs_183 : z183.size = 64 := rfl
@[go_sem] theorem za_183 : z183.extract 0 64 = z183 := extract_all _ _ zs_183
@[go_sem] theorem zo_183 : ones z183 = true := by simp [ones, z183, Value.oneCell']
attribute [irreducible] z183
@[go_sem ↓] theorem la_189 (v : Value) : Instr.loadAt 189 v = loadSem 189 v := rfl
@[go_sem] theorem ld_189 (v : Value) (w : World) : (loadSem 189 v).run Tryz.prog w = loadRow Tryz.prog 189 8 v w := run_load_row 189 8 v w _ Tryz.underlying189 rfl (by kernel_rfl)
@[go_sem ↓] theorem sa_189 (a x : Value) : Instr.storeAt 189 a x = storeSem 189 a x := rfl
@[go_sem] theorem st_189 (a x : Value) (w : World) : (storeSem 189 a x).run Tryz.prog w = storeRow Tryz.prog 189 8 a x w := run_store_row 189 8 a x w (by kernel_rfl)
@[go_sem ↓] theorem la_199 (v : Value) : Instr.loadAt 199 v = loadSem 199 v := rfl
@[go_sem] theorem ld_199 (v : Value) (w : World) : (loadSem 199 v).run Tryz.prog w = loadRow Tryz.prog 199 64 v w := run_load_row 199 64 v w _ Tryz.underlying199 rfl (by kernel_rfl)
@[go_sem ↓] theorem sa_199 (a x : Value) : Instr.storeAt 199 a x = storeSem 199 a x := rfl
@[go_sem] theorem st_199 (a x : Value) (w : World) : (storeSem 199 a x).run Tryz.prog w = storeRow Tryz.prog 199 64 a x w := run_store_row 199 64 a x w (by kernel_rfl)
/-- The zero value of type 199, cell by cell. -/
def z199 : Array Value := #[.int .u8 0, .int .u8 0, .int .u8 0, .int .u8 0, .int .u8 0, .int .u8 0, .int .u8 0, .int .u8 0, .int .u8 0, .int .u8 0, .int .u8 0, .int .u8 0, .int .u8 0, .int .u8 0, .int .u8 0, .int .u8 0, .int .u8 0, .int .u8 0, .int .u8 0, .int .u8 0, .int .u8 0, .int .u8 0, .int .u8 0, .int .u8 0, .int .u8 0, .int .u8 0, .int .u8 0, .int .u8 0, .int .u8 0, .int .u8 0, .int .u8 0, .int .u8 0, .int .u8 0, .int .u8 0, .int .u8 0, .int .u8 0, .int .u8 0, .int .u8 0, .int .u8 0, .int .u8 0, .int .u8 0, .int .u8 0, .int .u8 0, .int .u8 0, .int .u8 0, .int .u8 0, .int .u8 0, .int .u8 0, .int .u8 0, .int .u8 0, .int .u8 0, .int .u8 0, .int .u8 0, .int .u8 0, .int .u8 0, .int .u8 0, .int .u8 0, .int .u8 0, .int .u8 0, .int .u8 0, .int .u8 0, .int .u8 0, .int .u8 0, .int .u8 0]
@[go_sem ↓] theorem al_199 (h : Bool) (old : Value) : Instr.alloc 199 h old = allocSem 199 h old := rfl
@[go_sem] theorem ar_199 (w : World) : (allocSem 199 true (.tuple #[])).run Tryz.prog w = .ok (.pointer (some ⟨w.heap.size, 0, none⟩)) (w.alloc (.cells z199 199)) := by kernel_rfl
@[go_sem] theorem zs_199 : z199.size = 64 := rfl
@[go_sem] theorem za_199 : z199.extract 0 64 = z199 := extract_all _ _ zs_199
@[go_sem] theorem zo_199 : ones z199 = true := by simp [ones, z199, Value.oneCell']
attribute [irreducible] z199
@[go_sem ↓] theorem la_200 (v : Value) : Instr.loadAt 200 v = loadSem 200 v := rfl
@[go_sem] theorem ld_200 (v : Value) (w : World) : (loadSem 200 v).run Tryz.prog w = loadRow Tryz.prog 200 3 v w := run_load_row 200 3 v w _ Tryz.underlying200 rfl (by kernel_rfl)
@[go_sem ↓] theorem sa_200 (a x : Value) : Instr.storeAt 200 a x = storeSem 200 a x := rfl
@[go_sem] theorem st_200 (a x : Value) (w : World) : (storeSem 200 a x).run Tryz.prog w = storeRow Tryz.prog 200 3 a x w := run_store_row 200 3 a x w (by kernel_rfl)
@[go_sem ↓] theorem la_218 (v : Value) : Instr.loadAt 218 v = loadSem 218 v := rfl
@[go_sem] theorem ld_218 (v : Value) (w : World) : (loadSem 218 v).run Tryz.prog w = loadRow Tryz.prog 218 3 v w := run_load_row 218 3 v w _ Tryz.underlying218 rfl (by kernel_rfl)
@[go_sem ↓] theorem sa_218 (a x : Value) : Instr.storeAt 218 a x = storeSem 218 a x := rfl
@[go_sem] theorem st_218 (a x : Value) (w : World) : (storeSem 218 a x).run Tryz.prog w = storeRow Tryz.prog 218 3 a x w := run_store_row 218 3 a x w (by kernel_rfl)
@[go_sem ↓] theorem la_219 (v : Value) : Instr.loadAt 219 v = loadSem 219 v := rfl
@[go_sem] theorem ld_219 (v : Value) (w : World) : (loadSem 219 v).run Tryz.prog w = loadRow Tryz.prog 219 3 v w := run_load_row 219 3 v w _ Tryz.underlying219 rfl (by kernel_rfl)
@[go_sem ↓] theorem sa_219 (a x : Value) : Instr.storeAt 219 a x = storeSem 219 a x := rfl
@[go_sem] theorem st_219 (a x : Value) (w : World) : (storeSem 219 a x).run Tryz.prog w = storeRow Tryz.prog 219 3 a x w := run_store_row 219 3 a x w (by kernel_rfl)
@[go_sem ↓] theorem la_243 (v : Value) : Instr.loadAt 243 v = loadSem 243 v := rfl
@[go_sem] theorem ld_243 (v : Value) (w : World) : (loadSem 243 v).run Tryz.prog w = loadRow Tryz.prog 243 4 v w := run_load_row 243 4 v w _ Tryz.underlying243 rfl (by kernel_rfl)
@[go_sem ↓] theorem sa_243 (a x : Value) : Instr.storeAt 243 a x = storeSem 243 a x := rfl
@[go_sem] theorem st_243 (a x : Value) (w : World) : (storeSem 243 a x).run Tryz.prog w = storeRow Tryz.prog 243 4 a x w := run_store_row 243 4 a x w (by kernel_rfl)
@[go_sem ↓] theorem la_244 (v : Value) : Instr.loadAt 244 v = loadSem 244 v := rfl
@[go_sem] theorem ld_244 (v : Value) (w : World) : (loadSem 244 v).run Tryz.prog w = loadRow Tryz.prog 244 4 v w := run_load_row 244 4 v w _ Tryz.underlying244 rfl (by kernel_rfl)
@[go_sem ↓] theorem sa_244 (a x : Value) : Instr.storeAt 244 a x = storeSem 244 a x := rfl
@[go_sem] theorem st_244 (a x : Value) (w : World) : (storeSem 244 a x).run Tryz.prog w = storeRow Tryz.prog 244 4 a x w := run_store_row 244 4 a x w (by kernel_rfl)
@[go_sem ↓] theorem la_254 (v : Value) : Instr.loadAt 254 v = loadSem 254 v := rfl
@[go_sem] theorem ld_254 (v : Value) (w : World) : (loadSem 254 v).run Tryz.prog w = loadRow Tryz.prog 254 11 v w := run_load_row 254 11 v w _ Tryz.underlying254 rfl (by kernel_rfl)
@[go_sem ↓] theorem sa_254 (a x : Value) : Instr.storeAt 254 a x = storeSem 254 a x := rfl
@[go_sem] theorem st_254 (a x : Value) (w : World) : (storeSem 254 a x).run Tryz.prog w = storeRow Tryz.prog 254 11 a x w := run_store_row 254 11 a x w (by kernel_rfl)
/-- The zero value of type 254, cell by cell. -/
def z254 : Array Value := #[.int .u64 0, .int .u64 0, .int .u32 0, .int .u8 0, .int .u8 0, .int .u8 0, .int .u8 0, .nilFunc, .pointer none, .int .i32 0, .int .i32 0]
@[go_sem ↓] theorem al_254 (h : Bool) (old : Value) : Instr.alloc 254 h old = allocSem 254 h old := rfl
@[go_sem] theorem ar_254 (w : World) : (allocSem 254 true (.tuple #[])).run Tryz.prog w = .ok (.pointer (some ⟨w.heap.size, 0, none⟩)) (w.alloc (.cells z254 254)) := by kernel_rfl
@[go_sem] theorem zs_254 : z254.size = 11 := rfl
@[go_sem] theorem za_254 : z254.extract 0 11 = z254 := extract_all _ _ zs_254
@[go_sem] theorem zo_254 : ones z254 = true := by simp [ones, z254, Value.oneCell']
attribute [irreducible] z254
@[go_sem ↓] theorem la_255 (v : Value) : Instr.loadAt 255 v = loadSem 255 v := rfl
@[go_sem] theorem ld_255 (v : Value) (w : World) : (loadSem 255 v).run Tryz.prog w = loadRow Tryz.prog 255 11 v w := run_load_row 255 11 v w _ Tryz.underlying255 rfl (by kernel_rfl)
@[go_sem ↓] theorem sa_255 (a x : Value) : Instr.storeAt 255 a x = storeSem 255 a x := rfl
@[go_sem] theorem st_255 (a x : Value) (w : World) : (storeSem 255 a x).run Tryz.prog w = storeRow Tryz.prog 255 11 a x w := run_store_row 255 11 a x w (by kernel_rfl)
/-- The zero value of type 255, cell by cell. -/
def z255 : Array Value := #[.int .u64 0, .int .u64 0, .int .u32 0, .int .u8 0, .int .u8 0, .int .u8 0, .int .u8 0, .nilFunc, .pointer none, .int .i32 0, .int .i32 0]
@[go_sem ↓] theorem al_255 (h : Bool) (old : Value) : Instr.alloc 255 h old = allocSem 255 h old := rfl
@[go_sem] theorem ar_255 (w : World) : (allocSem 255 true (.tuple #[])).run Tryz.prog w = .ok (.pointer (some ⟨w.heap.size, 0, none⟩)) (w.alloc (.cells z255 255)) := by kernel_rfl
@[go_sem] theorem zs_255 : z255.size = 11 := rfl
@[go_sem] theorem za_255 : z255.extract 0 11 = z255 := extract_all _ _ zs_255
@[go_sem] theorem zo_255 : ones z255 = true := by simp [ones, z255, Value.oneCell']
attribute [irreducible] z255
end Go.Proofs.YtednpkiegiiimaaGreatDoor
