/-
  The laws of XRow at the types of this translation.
-/
import Derived.Test.YtmjblpkbfoipfaaGreatDoorPkRow
set_option linter.unusedSectionVars false
set_option linter.constructorNameAsVariable false
set_option linter.unusedVariables false
set_option linter.unusedSimpArgs false
namespace Go.Proofs.YtmjblpkbfoipfaaGreatDoor
@[go_sem ↓] theorem la_33 (v : Value) : Instr.loadAt 33 v = loadSem 33 v := rfl
@[go_sem] theorem ld_33 (v : Value) (w : World) : (loadSem 33 v).run Tryz.prog w = loadRow Tryz.prog 33 32 v w := run_load_row 33 32 v w _ Tryz.underlying33 rfl (by kernel_rfl)
@[go_sem ↓] theorem sa_33 (a x : Value) : Instr.storeAt 33 a x = storeSem 33 a x := rfl
@[go_sem] theorem st_33 (a x : Value) (w : World) : (storeSem 33 a x).run Tryz.prog w = storeRow Tryz.prog 33 32 a x w := run_store_row 33 32 a x w (by kernel_rfl)
def z33 : Array Value := #[.int .u8 0, .int .u8 0, .int .u8 0, .int .u8 0, .int .u8 0, .int .u8 0, .int .u8 0, .int .u8 0, .int .u8 0, .int .u8 0, .int .u8 0, .int .u8 0, .int .u8 0, .int .u8 0, .int .u8 0, .int .u8 0, .int .u8 0, .int .u8 0, .int .u8 0, .int .u8 0, .int .u8 0, .int .u8 0, .int .u8 0, .int .u8 0, .int .u8 0, .int .u8 0, .int .u8 0, .int .u8 0, .int .u8 0, .int .u8 0, .int .u8 0, .int .u8 0]
@[go_sem ↓] theorem al_33 (h : Bool) (old : Value) : Instr.alloc 33 h old = allocSem 33 h old := rfl
@[go_sem] theorem ar_33 (w : World) : (allocSem 33 true (.tuple #[])).run Tryz.prog w = .ok (.pointer (some ⟨w.heap.size, 0, none⟩)) (w.alloc (.cells z33 33)) := by kernel_rfl
@[go_sem] theorem zs_33 : z33.size = 32 := rfl
@[go_sem] theorem za_33 : z33.extract 0 32 = z33 := extract_all _ _ zs_33
@[go_sem] theorem zo_33 : ones z33 = true := by simp [ones, z33, Value.oneCell']
attribute [irreducible] z33
@[go_sem ↓] theorem la_34 (v : Value) : Instr.loadAt 34 v = loadSem 34 v := rfl
@[go_sem] theorem ld_34 (v : Value) (w : World) : (loadSem 34 v).run Tryz.prog w = loadRow Tryz.prog 34 32 v w := run_load_row 34 32 v w _ Tryz.underlying34 rfl (by kernel_rfl)
@[go_sem ↓] theorem sa_34 (a x : Value) : Instr.storeAt 34 a x = storeSem 34 a x := rfl
@[go_sem] theorem st_34 (a x : Value) (w : World) : (storeSem 34 a x).run Tryz.prog w = storeRow Tryz.prog 34 32 a x w := run_store_row 34 32 a x w (by kernel_rfl)
def z34 : Array Value := #[.int .u8 0, .int .u8 0, .int .u8 0, .int .u8 0, .int .u8 0, .int .u8 0, .int .u8 0, .int .u8 0, .int .u8 0, .int .u8 0, .int .u8 0, .int .u8 0, .int .u8 0, .int .u8 0, .int .u8 0, .int .u8 0, .int .u8 0, .int .u8 0, .int .u8 0, .int .u8 0, .int .u8 0, .int .u8 0, .int .u8 0, .int .u8 0, .int .u8 0, .int .u8 0, .int .u8 0, .int .u8 0, .int .u8 0, .int .u8 0, .int .u8 0, .int .u8 0]
@[go_sem ↓] theorem al_34 (h : Bool) (old : Value) : Instr.alloc 34 h old = allocSem 34 h old := rfl
@[go_sem] theorem ar_34 (w : World) : (allocSem 34 true (.tuple #[])).run Tryz.prog w = .ok (.pointer (some ⟨w.heap.size, 0, none⟩)) (w.alloc (.cells z34 34)) := by kernel_rfl
@[go_sem] theorem zs_34 : z34.size = 32 := rfl
@[go_sem] theorem za_34 : z34.extract 0 32 = z34 := extract_all _ _ zs_34
@[go_sem] theorem zo_34 : ones z34 = true := by simp [ones, z34, Value.oneCell']
attribute [irreducible] z34
@[go_sem ↓] theorem la_36 (v : Value) : Instr.loadAt 36 v = loadSem 36 v := rfl
@[go_sem] theorem ld_36 (v : Value) (w : World) : (loadSem 36 v).run Tryz.prog w = loadRow Tryz.prog 36 36 v w := run_load_row 36 36 v w _ Tryz.underlying36 rfl (by kernel_rfl)
@[go_sem ↓] theorem sa_36 (a x : Value) : Instr.storeAt 36 a x = storeSem 36 a x := rfl
@[go_sem] theorem st_36 (a x : Value) (w : World) : (storeSem 36 a x).run Tryz.prog w = storeRow Tryz.prog 36 36 a x w := run_store_row 36 36 a x w (by kernel_rfl)
def z36 : Array Value := #[.int .i64 0, .int .i64 0, .int .i64 0, .slice none 0 0, .int .u8 0, .int .u8 0, .int .u8 0, .int .u8 0, .int .u8 0, .int .u8 0, .int .u8 0, .int .u8 0, .int .u8 0, .int .u8 0, .int .u8 0, .int .u8 0, .int .u8 0, .int .u8 0, .int .u8 0, .int .u8 0, .int .u8 0, .int .u8 0, .int .u8 0, .int .u8 0, .int .u8 0, .int .u8 0, .int .u8 0, .int .u8 0, .int .u8 0, .int .u8 0, .int .u8 0, .int .u8 0, .int .u8 0, .int .u8 0, .int .u8 0, .int .u8 0]
@[go_sem ↓] theorem al_36 (h : Bool) (old : Value) : Instr.alloc 36 h old = allocSem 36 h old := rfl
@[go_sem] theorem ar_36 (w : World) : (allocSem 36 true (.tuple #[])).run Tryz.prog w = .ok (.pointer (some ⟨w.heap.size, 0, none⟩)) (w.alloc (.cells z36 36)) := by kernel_rfl
@[go_sem] theorem zs_36 : z36.size = 36 := rfl
@[go_sem] theorem za_36 : z36.extract 0 36 = z36 := extract_all _ _ zs_36
@[go_sem] theorem zo_36 : ones z36 = true := by simp [ones, z36, Value.oneCell']
attribute [irreducible] z36
@[go_sem ↓] theorem la_40 (v : Value) : Instr.loadAt 40 v = loadSem 40 v := rfl
@[go_sem] theorem ld_40 (v : Value) (w : World) : (loadSem 40 v).run Tryz.prog w = loadRow Tryz.prog 40 5 v w := run_load_row 40 5 v w _ Tryz.underlying40 rfl (by kernel_rfl)
@[go_sem ↓] theorem sa_40 (a x : Value) : Instr.storeAt 40 a x = storeSem 40 a x := rfl
@[go_sem] theorem st_40 (a x : Value) (w : World) : (storeSem 40 a x).run Tryz.prog w = storeRow Tryz.prog 40 5 a x w := run_store_row 40 5 a x w (by kernel_rfl)
@[go_sem ↓] theorem la_42 (v : Value) : Instr.loadAt 42 v = loadSem 42 v := rfl
@[go_sem] theorem ld_42 (v : Value) (w : World) : (loadSem 42 v).run Tryz.prog w = loadRow Tryz.prog 42 5 v w := run_load_row 42 5 v w _ Tryz.underlying42 rfl (by kernel_rfl)
@[go_sem ↓] theorem sa_42 (a x : Value) : Instr.storeAt 42 a x = storeSem 42 a x := rfl
@[go_sem] theorem st_42 (a x : Value) (w : World) : (storeSem 42 a x).run Tryz.prog w = storeRow Tryz.prog 42 5 a x w := run_store_row 42 5 a x w (by kernel_rfl)
@[go_sem ↓] theorem la_47 (v : Value) : Instr.loadAt 47 v = loadSem 47 v := rfl
@[go_sem] theorem ld_47 (v : Value) (w : World) : (loadSem 47 v).run Tryz.prog w = loadRow Tryz.prog 47 7 v w := run_load_row 47 7 v w _ Tryz.underlying47 rfl (by kernel_rfl)
@[go_sem ↓] theorem sa_47 (a x : Value) : Instr.storeAt 47 a x = storeSem 47 a x := rfl
@[go_sem] theorem st_47 (a x : Value) (w : World) : (storeSem 47 a x).run Tryz.prog w = storeRow Tryz.prog 47 7 a x w := run_store_row 47 7 a x w (by kernel_rfl)
@[go_sem ↓] theorem la_49 (v : Value) : Instr.loadAt 49 v = loadSem 49 v := rfl
@[go_sem] theorem ld_49 (v : Value) (w : World) : (loadSem 49 v).run Tryz.prog w = loadRow Tryz.prog 49 2 v w := run_load_row 49 2 v w _ Tryz.underlying49 rfl (by kernel_rfl)
@[go_sem ↓] theorem sa_49 (a x : Value) : Instr.storeAt 49 a x = storeSem 49 a x := rfl
@[go_sem] theorem st_49 (a x : Value) (w : World) : (storeSem 49 a x).run Tryz.prog w = storeRow Tryz.prog 49 2 a x w := run_store_row 49 2 a x w (by kernel_rfl)
@[go_sem ↓] theorem la_52 (v : Value) : Instr.loadAt 52 v = loadSem 52 v := rfl
@[go_sem] theorem ld_52 (v : Value) (w : World) : (loadSem 52 v).run Tryz.prog w = loadRow Tryz.prog 52 62 v w := run_load_row 52 62 v w _ Tryz.underlying52 rfl (by kernel_rfl)
@[go_sem ↓] theorem sa_52 (a x : Value) : Instr.storeAt 52 a x = storeSem 52 a x := rfl
@[go_sem] theorem st_52 (a x : Value) (w : World) : (storeSem 52 a x).run Tryz.prog w = storeRow Tryz.prog 52 62 a x w := run_store_row 52 62 a x w (by kernel_rfl)
def z52 : Array Value := #[.int .i64 0, .int .i64 0, .int .i64 0, .int .i64 0, .int .i64 0, .int .i64 0, .int .i64 0, .int .i64 0, .int .i64 0, .int .i64 0, .int .i64 0, .int .i64 0, .int .i64 0, .bool false, .int .i64 0, .int .i64 0, .int .i64 0, .slice none 0 0, .int .i64 0, .int .i64 0, .string ByteArray.empty, .int .i64 0, .int .i64 0, .slice none 0 0, .int .i64 0, .int .i64 0, .int .i64 0, .int .i64 0, .int .i64 0, .slice none 0 0, .int .u8 0, .int .u8 0, .int .u8 0, .int .u8 0, .int .u8 0, .int .u8 0, .int .u8 0, .int .u8 0, .int .u8 0, .int .u8 0, .int .u8 0, .int .u8 0, .int .u8 0, .int .u8 0, .int .u8 0, .int .u8 0, .int .u8 0, .int .u8 0, .int .u8 0, .int .u8 0, .int .u8 0, .int .u8 0, .int .u8 0, .int .u8 0, .int .u8 0, .int .u8 0, .int .u8 0, .int .u8 0, .int .u8 0, .int .u8 0, .int .u8 0, .int .u8 0]
@[go_sem ↓] theorem al_52 (h : Bool) (old : Value) : Instr.alloc 52 h old = allocSem 52 h old := rfl
@[go_sem] theorem ar_52 (w : World) : (allocSem 52 true (.tuple #[])).run Tryz.prog w = .ok (.pointer (some ⟨w.heap.size, 0, none⟩)) (w.alloc (.cells z52 52)) := by kernel_rfl
@[go_sem] theorem zs_52 : z52.size = 62 := rfl
@[go_sem] theorem za_52 : z52.extract 0 62 = z52 := extract_all _ _ zs_52
@[go_sem] theorem zo_52 : ones z52 = true := by simp [ones, z52, Value.oneCell']
attribute [irreducible] z52
@[go_sem ↓] theorem la_71 (v : Value) : Instr.loadAt 71 v = loadSem 71 v := rfl
@[go_sem] theorem ld_71 (v : Value) (w : World) : (loadSem 71 v).run Tryz.prog w = loadRow Tryz.prog 71 2 v w := run_load_row 71 2 v w _ Tryz.underlying71 rfl (by kernel_rfl)
@[go_sem ↓] theorem sa_71 (a x : Value) : Instr.storeAt 71 a x = storeSem 71 a x := rfl
@[go_sem] theorem st_71 (a x : Value) (w : World) : (storeSem 71 a x).run Tryz.prog w = storeRow Tryz.prog 71 2 a x w := run_store_row 71 2 a x w (by kernel_rfl)
@[go_sem ↓] theorem la_75 (v : Value) : Instr.loadAt 75 v = loadSem 75 v := rfl
@[go_sem] theorem ld_75 (v : Value) (w : World) : (loadSem 75 v).run Tryz.prog w = loadRow Tryz.prog 75 2 v w := run_load_row 75 2 v w _ Tryz.underlying75 rfl (by kernel_rfl)
@[go_sem ↓] theorem sa_75 (a x : Value) : Instr.storeAt 75 a x = storeSem 75 a x := rfl
@[go_sem] theorem st_75 (a x : Value) (w : World) : (storeSem 75 a x).run Tryz.prog w = storeRow Tryz.prog 75 2 a x w := run_store_row 75 2 a x w (by kernel_rfl)
@[go_sem ↓] theorem la_77 (v : Value) : Instr.loadAt 77 v = loadSem 77 v := rfl
@[go_sem] theorem ld_77 (v : Value) (w : World) : (loadSem 77 v).run Tryz.prog w = loadRow Tryz.prog 77 2 v w := run_load_row 77 2 v w _ Tryz.underlying77 rfl (by kernel_rfl)
@[go_sem ↓] theorem sa_77 (a x : Value) : Instr.storeAt 77 a x = storeSem 77 a x := rfl
@[go_sem] theorem st_77 (a x : Value) (w : World) : (storeSem 77 a x).run Tryz.prog w = storeRow Tryz.prog 77 2 a x w := run_store_row 77 2 a x w (by kernel_rfl)
@[go_sem ↓] theorem la_80 (v : Value) : Instr.loadAt 80 v = loadSem 80 v := rfl
@[go_sem] theorem ld_80 (v : Value) (w : World) : (loadSem 80 v).run Tryz.prog w = loadRow Tryz.prog 80 3 v w := run_load_row 80 3 v w _ Tryz.underlying80 rfl (by kernel_rfl)
@[go_sem ↓] theorem sa_80 (a x : Value) : Instr.storeAt 80 a x = storeSem 80 a x := rfl
@[go_sem] theorem st_80 (a x : Value) (w : World) : (storeSem 80 a x).run Tryz.prog w = storeRow Tryz.prog 80 3 a x w := run_store_row 80 3 a x w (by kernel_rfl)
@[go_sem ↓] theorem la_83 (v : Value) : Instr.loadAt 83 v = loadSem 83 v := rfl
@[go_sem] theorem ld_83 (v : Value) (w : World) : (loadSem 83 v).run Tryz.prog w = loadRow Tryz.prog 83 63 v w := run_load_row 83 63 v w _ Tryz.underlying83 rfl (by kernel_rfl)
@[go_sem ↓] theorem sa_83 (a x : Value) : Instr.storeAt 83 a x = storeSem 83 a x := rfl
@[go_sem] theorem st_83 (a x : Value) (w : World) : (storeSem 83 a x).run Tryz.prog w = storeRow Tryz.prog 83 63 a x w := run_store_row 83 63 a x w (by kernel_rfl)
def z83 : Array Value := #[.int .i64 0, .int .i64 0, .int .i64 0, .int .i64 0, .int .i64 0, .int .i64 0, .int .i64 0, .int .i64 0, .int .i64 0, .int .i64 0, .int .i64 0, .int .i64 0, .int .i64 0, .int .i64 0, .bool false, .int .i64 0, .int .i64 0, .int .i64 0, .slice none 0 0, .int .i64 0, .int .i64 0, .string ByteArray.empty, .int .i64 0, .int .i64 0, .slice none 0 0, .int .i64 0, .int .i64 0, .int .i64 0, .int .i64 0, .int .i64 0, .slice none 0 0, .int .u8 0, .int .u8 0, .int .u8 0, .int .u8 0, .int .u8 0, .int .u8 0, .int .u8 0, .int .u8 0, .int .u8 0, .int .u8 0, .int .u8 0, .int .u8 0, .int .u8 0, .int .u8 0, .int .u8 0, .int .u8 0, .int .u8 0, .int .u8 0, .int .u8 0, .int .u8 0, .int .u8 0, .int .u8 0, .int .u8 0, .int .u8 0, .int .u8 0, .int .u8 0, .int .u8 0, .int .u8 0, .int .u8 0, .int .u8 0, .int .u8 0, .int .u8 0]
@[go_sem ↓] theorem al_83 (h : Bool) (old : Value) : Instr.alloc 83 h old = allocSem 83 h old := rfl
@[go_sem] theorem ar_83 (w : World) : (allocSem 83 true (.tuple #[])).run Tryz.prog w = .ok (.pointer (some ⟨w.heap.size, 0, none⟩)) (w.alloc (.cells z83 83)) := by kernel_rfl
@[go_sem] theorem zs_83 : z83.size = 63 := rfl
@[go_sem] theorem za_83 : z83.extract 0 63 = z83 := extract_all _ _ zs_83
@[go_sem] theorem zo_83 : ones z83 = true := by simp [ones, z83, Value.oneCell']
attribute [irreducible] z83
@[go_sem ↓] theorem la_98 (v : Value) : Instr.loadAt 98 v = loadSem 98 v := rfl
@[go_sem] theorem ld_98 (v : Value) (w : World) : (loadSem 98 v).run Tryz.prog w = loadRow Tryz.prog 98 3 v w := run_load_row 98 3 v w _ Tryz.underlying98 rfl (by kernel_rfl)
@[go_sem ↓] theorem sa_98 (a x : Value) : Instr.storeAt 98 a x = storeSem 98 a x := rfl
@[go_sem] theorem st_98 (a x : Value) (w : World) : (storeSem 98 a x).run Tryz.prog w = storeRow Tryz.prog 98 3 a x w := run_store_row 98 3 a x w (by kernel_rfl)
@[go_sem ↓] theorem la_101 (v : Value) : Instr.loadAt 101 v = loadSem 101 v := rfl
@[go_sem] theorem ld_101 (v : Value) (w : World) : (loadSem 101 v).run Tryz.prog w = loadRow Tryz.prog 101 8 v w := run_load_row 101 8 v w _ Tryz.underlying101 rfl (by kernel_rfl)
@[go_sem ↓] theorem sa_101 (a x : Value) : Instr.storeAt 101 a x = storeSem 101 a x := rfl
@[go_sem] theorem st_101 (a x : Value) (w : World) : (storeSem 101 a x).run Tryz.prog w = storeRow Tryz.prog 101 8 a x w := run_store_row 101 8 a x w (by kernel_rfl)
@[go_sem ↓] theorem la_113 (v : Value) : Instr.loadAt 113 v = loadSem 113 v := rfl
@[go_sem] theorem ld_113 (v : Value) (w : World) : (loadSem 113 v).run Tryz.prog w = loadRow Tryz.prog 113 2 v w := run_load_row 113 2 v w _ Tryz.underlying113 rfl (by kernel_rfl)
@[go_sem ↓] theorem sa_113 (a x : Value) : Instr.storeAt 113 a x = storeSem 113 a x := rfl
@[go_sem] theorem st_113 (a x : Value) (w : World) : (storeSem 113 a x).run Tryz.prog w = storeRow Tryz.prog 113 2 a x w := run_store_row 113 2 a x w (by kernel_rfl)
@[go_sem ↓] theorem la_117 (v : Value) : Instr.loadAt 117 v = loadSem 117 v := rfl
@[go_sem] theorem ld_117 (v : Value) (w : World) : (loadSem 117 v).run Tryz.prog w = loadRow Tryz.prog 117 17 v w := run_load_row 117 17 v w _ Tryz.underlying117 rfl (by kernel_rfl)
@[go_sem ↓] theorem sa_117 (a x : Value) : Instr.storeAt 117 a x = storeSem 117 a x := rfl
@[go_sem] theorem st_117 (a x : Value) (w : World) : (storeSem 117 a x).run Tryz.prog w = storeRow Tryz.prog 117 17 a x w := run_store_row 117 17 a x w (by kernel_rfl)
def z117 : Array Value := #[.pointer none, .pointer none, .pointer none, .pointer none, .pointer none, .pointer none, .pointer none, .pointer none, .pointer none, .pointer none, .pointer none, .pointer none, .pointer none, .pointer none, .pointer none, .pointer none, .pointer none]
@[go_sem ↓] theorem al_117 (h : Bool) (old : Value) : Instr.alloc 117 h old = allocSem 117 h old := rfl
@[go_sem] theorem ar_117 (w : World) : (allocSem 117 true (.tuple #[])).run Tryz.prog w = .ok (.pointer (some ⟨w.heap.size, 0, none⟩)) (w.alloc (.cells z117 117)) := by kernel_rfl
@[go_sem] theorem zs_117 : z117.size = 17 := rfl
@[go_sem] theorem za_117 : z117.extract 0 17 = z117 := extract_all _ _ zs_117
@[go_sem] theorem zo_117 : ones z117 = true := by simp [ones, z117, Value.oneCell']
attribute [irreducible] z117
@[go_sem ↓] theorem la_121 (v : Value) : Instr.loadAt 121 v = loadSem 121 v := rfl
@[go_sem] theorem ld_121 (v : Value) (w : World) : (loadSem 121 v).run Tryz.prog w = loadRow Tryz.prog 121 3 v w := run_load_row 121 3 v w _ Tryz.underlying121 rfl (by kernel_rfl)
@[go_sem ↓] theorem sa_121 (a x : Value) : Instr.storeAt 121 a x = storeSem 121 a x := rfl
@[go_sem] theorem st_121 (a x : Value) (w : World) : (storeSem 121 a x).run Tryz.prog w = storeRow Tryz.prog 121 3 a x w := run_store_row 121 3 a x w (by kernel_rfl)
@[go_sem ↓] theorem la_123 (v : Value) : Instr.loadAt 123 v = loadSem 123 v := rfl
@[go_sem] theorem ld_123 (v : Value) (w : World) : (loadSem 123 v).run Tryz.prog w = loadRow Tryz.prog 123 64 v w := run_load_row 123 64 v w _ Tryz.underlying123 rfl (by kernel_rfl)
@[go_sem ↓] theorem sa_123 (a x : Value) : Instr.storeAt 123 a x = storeSem 123 a x := rfl
@[go_sem] theorem st_123 (a x : Value) (w : World) : (storeSem 123 a x).run Tryz.prog w = storeRow Tryz.prog 123 64 a x w := run_store_row 123 64 a x w (by kernel_rfl)
def z123 : Array Value := #[.int .u32 0, .int .u32 0, .int .u32 0, .int .u32 0, .int .u32 0, .int .u32 0, .int .u32 0, .int .u32 0, .int .u32 0, .int .u32 0, .int .u32 0, .int .u32 0, .int .u32 0, .int .u32 0, .int .u32 0, .int .u32 0, .int .u32 0, .int .u32 0, .int .u32 0, .int .u32 0, .int .u32 0, .int .u32 0, .int .u32 0, .int .u32 0, .int .u32 0, .int .u32 0, .int .u32 0, .int .u32 0, .int .u32 0, .int .u32 0, .int .u32 0, .int .u32 0, .int .u32 0, .int .u32 0, .int .u32 0, .int .u32 0, .int .u32 0, .int .u32 0, .int .u32 0, .int .u32 0, .int .u32 0, .int .u32 0, .int .u32 0, .int .u32 0, .int .u32 0, .int .u32 0, .int .u32 0, .int .u32 0, .int .u32 0, .int .u32 0, .int .u32 0, .int .u32 0, .int .u32 0, .int .u32 0, .int .u32 0, .int .u32 0, .int .u32 0, .int .u32 0, .int .u32 0, .int .u32 0, .int .u32 0, .int .u32 0, .int .u32 0, .int .u32 0]
@[go_sem ↓] theorem al_123 (h : Bool) (old : Value) : Instr.alloc 123 h old = allocSem 123 h old := rfl
@[go_sem] theorem ar_123 (w : World) : (allocSem 123 true (.tuple #[])).run Tryz.prog w = .ok (.pointer (some ⟨w.heap.size, 0, none⟩)) (w.alloc (.cells z123 123)) := by kernel_rfl
@[go_sem] theorem zs_123 : z123.size = 64 := rfl
@[go_sem] theorem za_123 : z123.extract 0 64 = z123 := extract_all _ _ zs_123
@[go_sem] theorem zo_123 : ones z123 = true := by simp [ones, z123, Value.oneCell']
attribute [irreducible] z123
@[go_sem ↓] theorem la_131 (v : Value) : Instr.loadAt 131 v = loadSem 131 v := rfl
@[go_sem] theorem ld_131 (v : Value) (w : World) : (loadSem 131 v).run Tryz.prog w = loadRow Tryz.prog 131 2 v w := run_load_row 131 2 v w _ Tryz.underlying131 rfl (by kernel_rfl)
@[go_sem ↓] theorem sa_131 (a x : Value) : Instr.storeAt 131 a x = storeSem 131 a x := rfl
@[go_sem] theorem st_131 (a x : Value) (w : World) : (storeSem 131 a x).run Tryz.prog w = storeRow Tryz.prog 131 2 a x w := run_store_row 131 2 a x w (by kernel_rfl)
@[go_sem ↓] theorem la_145 (v : Value) : Instr.loadAt 145 v = loadSem 145 v := rfl
@[go_sem] theorem ld_145 (v : Value) (w : World) : (loadSem 145 v).run Tryz.prog w = loadRow Tryz.prog 145 64 v w := run_load_row 145 64 v w _ Tryz.underlying145 rfl (by kernel_rfl)
@[go_sem ↓] theorem sa_145 (a x : Value) : Instr.storeAt 145 a x = storeSem 145 a x := rfl
@[go_sem] theorem st_145 (a x : Value) (w : World) : (storeSem 145 a x).run Tryz.prog w = storeRow Tryz.prog 145 64 a x w := run_store_row 145 64 a x w (by kernel_rfl)
def z145 : Array Value := #[.int .u8 0, .int .u8 0, .int .u8 0, .int .u8 0, .int .u8 0, .int .u8 0, .int .u8 0, .int .u8 0, .int .u8 0, .int .u8 0, .int .u8 0, .int .u8 0, .int .u8 0, .int .u8 0, .int .u8 0, .int .u8 0, .int .u8 0, .int .u8 0, .int .u8 0, .int .u8 0, .int .u8 0, .int .u8 0, .int .u8 0, .int .u8 0, .int .u8 0, .int .u8 0, .int .u8 0, .int .u8 0, .int .u8 0, .int .u8 0, .int .u8 0, .int .u8 0, .int .u8 0, .int .u8 0, .int .u8 0, .int .u8 0, .int .u8 0, .int .u8 0, .int .u8 0, .int .u8 0, .int .u8 0, .int .u8 0, .int .u8 0, .int .u8 0, .int .u8 0, .int .u8 0, .int .u8 0, .int .u8 0, .int .u8 0, .int .u8 0, .int .u8 0, .int .u8 0, .int .u8 0, .int .u8 0, .int .u8 0, .int .u8 0, .int .u8 0, .int .u8 0, .int .u8 0, .int .u8 0, .int .u8 0, .int .u8 0, .int .u8 0, .int .u8 0]
@[go_sem ↓] theorem al_145 (h : Bool) (old : Value) : Instr.alloc 145 h old = allocSem 145 h old := rfl
@[go_sem] theorem ar_145 (w : World) : (allocSem 145 true (.tuple #[])).run Tryz.prog w = .ok (.pointer (some ⟨w.heap.size, 0, none⟩)) (w.alloc (.cells z145 145)) := by kernel_rfl
@[go_sem] theorem zs_145 : z145.size = 64 := rfl
@[go_sem] theorem za_145 : z145.extract 0 64 = z145 := extract_all _ _ zs_145
@[go_sem] theorem zo_145 : ones z145 = true := by simp [ones, z145, Value.oneCell']
attribute [irreducible] z145
@[go_sem ↓] theorem la_150 (v : Value) : Instr.loadAt 150 v = loadSem 150 v := rfl
@[go_sem] theorem ld_150 (v : Value) (w : World) : (loadSem 150 v).run Tryz.prog w = loadRow Tryz.prog 150 8 v w := run_load_row 150 8 v w _ Tryz.underlying150 rfl (by kernel_rfl)
@[go_sem ↓] theorem sa_150 (a x : Value) : Instr.storeAt 150 a x = storeSem 150 a x := rfl
@[go_sem] theorem st_150 (a x : Value) (w : World) : (storeSem 150 a x).run Tryz.prog w = storeRow Tryz.prog 150 8 a x w := run_store_row 150 8 a x w (by kernel_rfl)
@[go_sem ↓] theorem la_158 (v : Value) : Instr.loadAt 158 v = loadSem 158 v := rfl
@[go_sem] theorem ld_158 (v : Value) (w : World) : (loadSem 158 v).run Tryz.prog w = loadRow Tryz.prog 158 17 v w := run_load_row 158 17 v w _ Tryz.underlying158 rfl (by kernel_rfl)
@[go_sem ↓] theorem sa_158 (a x : Value) : Instr.storeAt 158 a x = storeSem 158 a x := rfl
@[go_sem] theorem st_158 (a x : Value) (w : World) : (storeSem 158 a x).run Tryz.prog w = storeRow Tryz.prog 158 17 a x w := run_store_row 158 17 a x w (by kernel_rfl)
def z158 : Array Value := #[.bool false, .bool false, .bool false, .bool false, .bool false, .bool false, .bool false, .bool false, .bool false, .bool false, .bool false, .bool false, .bool false, .bool false, .bool false, .bool false, .bool false]
@[go_sem ↓] theorem al_158 (h : Bool) (old : Value) : Instr.alloc 158 h old = allocSem 158 h old := rfl
@[go_sem] theorem ar_158 (w : World) : (allocSem 158 true (.tuple #[])).run Tryz.prog w = .ok (.pointer (some ⟨w.heap.size, 0, none⟩)) (w.alloc (.cells z158 158)) := by kernel_rfl
@[go_sem] theorem zs_158 : z158.size = 17 := rfl
@[go_sem] theorem za_158 : z158.extract 0 17 = z158 := extract_all _ _ zs_158
@[go_sem] theorem zo_158 : ones z158 = true := by simp [ones, z158, Value.oneCell']
attribute [irreducible] z158
@[go_sem ↓] theorem la_173 (v : Value) : Instr.loadAt 173 v = loadSem 173 v := rfl
@[go_sem] theorem ld_173 (v : Value) (w : World) : (loadSem 173 v).run Tryz.prog w = loadRow Tryz.prog 173 8 v w := run_load_row 173 8 v w _ Tryz.underlying173 rfl (by kernel_rfl)
@[go_sem ↓] theorem sa_173 (a x : Value) : Instr.storeAt 173 a x = storeSem 173 a x := rfl
@[go_sem] theorem st_173 (a x : Value) (w : World) : (storeSem 173 a x).run Tryz.prog w = storeRow Tryz.prog 173 8 a x w := run_store_row 173 8 a x w (by kernel_rfl)
@[go_sem ↓] theorem la_179 (v : Value) : Instr.loadAt 179 v = loadSem 179 v := rfl
@[go_sem] theorem ld_179 (v : Value) (w : World) : (loadSem 179 v).run Tryz.prog w = loadRow Tryz.prog 179 3 v w := run_load_row 179 3 v w _ Tryz.underlying179 rfl (by kernel_rfl)
@[go_sem ↓] theorem sa_179 (a x : Value) : Instr.storeAt 179 a x = storeSem 179 a x := rfl
@[go_sem] theorem st_179 (a x : Value) (w : World) : (storeSem 179 a x).run Tryz.prog w = storeRow Tryz.prog 179 3 a x w := run_store_row 179 3 a x w (by kernel_rfl)
end Go.Proofs.YtmjblpkbfoipfaaGreatDoor
