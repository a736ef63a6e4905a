/-
  The laws of XRow at the types of this translation.
-/
import Derived.Test.YtednpkiegiiimaaGreatDoorPkRow
set_option linter.unusedSectionVars false
set_option linter.constructorNameAsVariable false
set_option linter.unusedVariables false
set_option linter.unusedSimpArgs false
namespace Go.Proofs.YtednpkiegiiimaaGreatDoor
@[go_sem ↓] theorem la_47 (v : Value) : Instr.loadAt 47 v = loadSem 47 v := rfl
@[go_sem] theorem ld_47 (v : Value) (w : World) : (loadSem 47 v).run Tryz.prog w = loadRow Tryz.prog 47 7 v w := run_load_row 47 7 v w _ Tryz.underlying47 rfl (by kernel_rfl)
@[go_sem ↓] theorem sa_47 (a x : Value) : Instr.storeAt 47 a x = storeSem 47 a x := rfl
@[go_sem] theorem st_47 (a x : Value) (w : World) : (storeSem 47 a x).run Tryz.prog w = storeRow Tryz.prog 47 7 a x w := run_store_row 47 7 a x w (by kernel_rfl)
@[go_sem ↓] theorem la_51 (v : Value) : Instr.loadAt 51 v = loadSem 51 v := rfl
@[go_sem] theorem ld_51 (v : Value) (w : World) : (loadSem 51 v).run Tryz.prog w = loadRow Tryz.prog 51 32 v w := run_load_row 51 32 v w _ Tryz.underlying51 rfl (by kernel_rfl)
@[go_sem ↓] theorem sa_51 (a x : Value) : Instr.storeAt 51 a x = storeSem 51 a x := rfl
@[go_sem] theorem st_51 (a x : Value) (w : World) : (storeSem 51 a x).run Tryz.prog w = storeRow Tryz.prog 51 32 a x w := run_store_row 51 32 a x w (by kernel_rfl)
/-- The zero value of type 51, cell by cell. -/
def z51 : Array Value := #[.int .u8 0, .int .u8 0, .int .u8 0, .int .u8 0, .int .u8 0, .int .u8 0, .int .u8 0, .int .u8 0, .int .u8 0, .int .u8 0, .int .u8 0, .int .u8 0, .int .u8 0, .int .u8 0, .int .u8 0, .int .u8 0, .int .u8 0, .int .u8 0, .int .u8 0, .int .u8 0, .int .u8 0, .int .u8 0, .int .u8 0, .int .u8 0, .int .u8 0, .int .u8 0, .int .u8 0, .int .u8 0, .int .u8 0, .int .u8 0, .int .u8 0, .int .u8 0]
@[go_sem ↓] theorem al_51 (h : Bool) (old : Value) : Instr.alloc 51 h old = allocSem 51 h old := rfl
@[go_sem] theorem ar_51 (w : World) : (allocSem 51 true (.tuple #[])).run Tryz.prog w = .ok (.pointer (some ⟨w.heap.size, 0, none⟩)) (w.alloc (.cells z51 51)) := by kernel_rfl
@[go_sem] theorem zs_51 : z51.size = 32 := rfl
@[go_sem] theorem za_51 : z51.extract 0 32 = z51 := extract_all _ _ zs_51
@[go_sem] theorem zo_51 : ones z51 = true := by simp [ones, z51, Value.oneCell']
attribute [irreducible] z51
@[go_sem ↓] theorem la_53 (v : Value) : Instr.loadAt 53 v = loadSem 53 v := rfl
@[go_sem] theorem ld_53 (v : Value) (w : World) : (loadSem 53 v).run Tryz.prog w = loadRow Tryz.prog 53 62 v w := run_load_row 53 62 v w _ Tryz.underlying53 rfl (by kernel_rfl)
@[go_sem ↓] theorem sa_53 (a x : Value) : Instr.storeAt 53 a x = storeSem 53 a x := rfl
@[go_sem] theorem st_53 (a x : Value) (w : World) : (storeSem 53 a x).run Tryz.prog w = storeRow Tryz.prog 53 62 a x w := run_store_row 53 62 a x w (by kernel_rfl)
/-- The zero value of type 53, cell by cell. -/
def z53 : Array Value := #[.int .i64 0, .int .i64 0, .int .i64 0, .int .i64 0, .int .i64 0, .int .i64 0, .int .i64 0, .int .i64 0, .int .i64 0, .int .i64 0, .int .i64 0, .int .i64 0, .int .i64 0, .bool false, .int .i64 0, .int .i64 0, .int .i64 0, .slice none 0 0, .int .i64 0, .int .i64 0, .string ByteArray.empty, .int .i64 0, .int .i64 0, .slice none 0 0, .int .i64 0, .int .i64 0, .int .i64 0, .int .i64 0, .int .i64 0, .slice none 0 0, .int .u8 0, .int .u8 0, .int .u8 0, .int .u8 0, .int .u8 0, .int .u8 0, .int .u8 0, .int .u8 0, .int .u8 0, .int .u8 0, .int .u8 0, .int .u8 0, .int .u8 0, .int .u8 0, .int .u8 0, .int .u8 0, .int .u8 0, .int .u8 0, .int .u8 0, .int .u8 0, .int .u8 0, .int .u8 0, .int .u8 0, .int .u8 0, .int .u8 0, .int .u8 0, .int .u8 0, .int .u8 0, .int .u8 0, .int .u8 0, .int .u8 0, .int .u8 0]
@[go_sem ↓] theorem al_53 (h : Bool) (old : Value) : Instr.alloc 53 h old = allocSem 53 h old := rfl
@[go_sem] theorem ar_53 (w : World) : (allocSem 53 true (.tuple #[])).run Tryz.prog w = .ok (.pointer (some ⟨w.heap.size, 0, none⟩)) (w.alloc (.cells z53 53)) := by kernel_rfl
@[go_sem] theorem zs_53 : z53.size = 62 := rfl
@[go_sem] theorem za_53 : z53.extract 0 62 = z53 := extract_all _ _ zs_53
@[go_sem] theorem zo_53 : ones z53 = true := by simp [ones, z53, Value.oneCell']
attribute [irreducible] z53
@[go_sem ↓] theorem la_131 (v : Value) : Instr.loadAt 131 v = loadSem 131 v := rfl
@[go_sem] theorem ld_131 (v : Value) (w : World) : (loadSem 131 v).run Tryz.prog w = loadRow Tryz.prog 131 17 v w := run_load_row 131 17 v w _ Tryz.underlying131 rfl (by kernel_rfl)
@[go_sem ↓] theorem sa_131 (a x : Value) : Instr.storeAt 131 a x = storeSem 131 a x := rfl
@[go_sem] theorem st_131 (a x : Value) (w : World) : (storeSem 131 a x).run Tryz.prog w = storeRow Tryz.prog 131 17 a x w := run_store_row 131 17 a x w (by kernel_rfl)
/-- The zero value of type 131, cell by cell. -/
def z131 : Array Value := #[.pointer none, .pointer none, .pointer none, .pointer none, .pointer none, .pointer none, .pointer none, .pointer none, .pointer none, .pointer none, .pointer none, .pointer none, .pointer none, .pointer none, .pointer none, .pointer none, .pointer none]
@[go_sem ↓] theorem al_131 (h : Bool) (old : Value) : Instr.alloc 131 h old = allocSem 131 h old := rfl
@[go_sem] theorem ar_131 (w : World) : (allocSem 131 true (.tuple #[])).run Tryz.prog w = .ok (.pointer (some ⟨w.heap.size, 0, none⟩)) (w.alloc (.cells z131 131)) := by kernel_rfl
@[go_sem] theorem zs_131 : z131.size = 17 := rfl
@[go_sem] theorem za_131 : z131.extract 0 17 = z131 := extract_all _ _ zs_131
@[go_sem] theorem zo_131 : ones z131 = true := by simp [ones, z131, Value.oneCell']
attribute [irreducible] z131
@[go_sem ↓] theorem la_148 (v : Value) : Instr.loadAt 148 v = loadSem 148 v := rfl
@[go_sem] theorem ld_148 (v : Value) (w : World) : (loadSem 148 v).run Tryz.prog w = loadRow Tryz.prog 148 8 v w := run_load_row 148 8 v w _ Tryz.underlying148 rfl (by kernel_rfl)
@[go_sem ↓] theorem sa_148 (a x : Value) : Instr.storeAt 148 a x = storeSem 148 a x := rfl
@[go_sem] theorem st_148 (a x : Value) (w : World) : (storeSem 148 a x).run Tryz.prog w = storeRow Tryz.prog 148 8 a x w := run_store_row 148 8 a x w (by kernel_rfl)
@[go_sem ↓] theorem la_158 (v : Value) : Instr.loadAt 158 v = loadSem 158 v := rfl
@[go_sem] theorem ld_158 (v : Value) (w : World) : (loadSem 158 v).run Tryz.prog w = loadRow Tryz.prog 158 8 v w := run_load_row 158 8 v w _ Tryz.underlying158 rfl (by kernel_rfl)
@[go_sem ↓] theorem sa_158 (a x : Value) : Instr.storeAt 158 a x = storeSem 158 a x := rfl
@[go_sem] theorem st_158 (a x : Value) (w : World) : (storeSem 158 a x).run Tryz.prog w = storeRow Tryz.prog 158 8 a x w := run_store_row 158 8 a x w (by kernel_rfl)
@[go_sem ↓] theorem la_183 (v : Value) : Instr.loadAt 183 v = loadSem 183 v := rfl
@[go_sem] theorem ld_183 (v : Value) (w : World) : (loadSem 183 v).run Tryz.prog w = loadRow Tryz.prog 183 64 v w := run_load_row 183 64 v w _ Tryz.underlying183 rfl (by kernel_rfl)
@[go_sem ↓] theorem sa_183 (a x : Value) : Instr.storeAt 183 a x = storeSem 183 a x := rfl
@[go_sem] theorem st_183 (a x : Value) (w : World) : (storeSem 183 a x).run Tryz.prog w = storeRow Tryz.prog 183 64 a x w := run_store_row 183 64 a x w (by kernel_rfl)
/-- The zero value of type 183, cell by cell. -/
def z183 : Array Value := #[.int .u32 0, .int .u32 0, .int .u32 0, .int .u32 0, .int .u32 0, .int .u32 0, .int .u32 0, .int .u32 0, .int .u32 0, .int .u32 0, .int .u32 0, .int .u32 0, .int .u32 0, .int .u32 0, .int .u32 0, .int .u32 0, .int .u32 0, .int .u32 0, .int .u32 0, .int .u32 0, .int .u32 0, .int .u32 0, .int .u32 0, .int .u32 0, .int .u32 0, .int .u32 0, .int .u32 0, .int .u32 0, .int .u32 0, .int .u32 0, .int .u32 0, .int .u32 0, .int .u32 0, .int .u32 0, .int .u32 0, .int .u32 0, .int .u32 0, .int .u32 0, .int .u32 0, .int .u32 0, .int .u32 0, .int .u32 0, .int .u32 0, .int .u32 0, .int .u32 0, .int .u32 0, .int .u32 0, .int .u32 0, .int .u32 0, .int .u32 0, .int .u32 0, .int .u32 0, .int .u32 0, .int .u32 0, .int .u32 0, .int .u32 0, .int .u32 0, .int .u32 0, .int .u32 0, .int .u32 0, .int .u32 0, .int .u32 0, .int .u32 0, .int .u32 0]
@[go_sem ↓] theorem al_183 (h : Bool) (old : Value) : Instr.alloc 183 h old = allocSem 183 h old := rfl
@[go_sem] theorem ar_183 (w : World) : (allocSem 183 true (.tuple #[])).run Tryz.prog w = .ok (.pointer (some ⟨w.heap.size, 0, none⟩)) (w.alloc (.cells z183 183)) := by kernel_rfl
@[go_sem] theorem zs_183 : z183.size = 64 := rfl
@[go_sem] theorem za_183 : z183.extract 0 64 = z183 := extract_all _ _ zs_183
@[go_sem] theorem zo_183 : ones z183 = true := by simp [ones, z183, Value.oneCell']
attribute [irreducible] z183
@[go_sem ↓] theorem la_189 (v : Value) : Instr.loadAt 189 v = loadSem 189 v := rfl
@[go_sem] theorem ld_189 (v : Value) (w : World) : (loadSem 189 v).run Tryz.prog w = loadRow Tryz.prog 189 8 v w := run_load_row 189 8 v w _ Tryz.underlying189 rfl (by kernel_rfl)
@[go_sem ↓] theorem sa_189 (a x : Value) : Instr.storeAt 189 a x = storeSem 189 a x := rfl
@[go_sem] theorem st_189 (a x : Value) (w : World) : (storeSem 189 a x).run Tryz.prog w = storeRow Tryz.prog 189 8 a x w := run_store_row 189 8 a x w (by kernel_rfl)
@[go_sem ↓] theorem la_199 (v : Value) : Instr.loadAt 199 v = loadSem 199 v := rfl
@[go_sem] theorem ld_199 (v : Value) (w : World) : (loadSem 199 v).run Tryz.prog w = loadRow Tryz.prog 199 64 v w := run_load_row 199 64 v w _ Tryz.underlying199 rfl (by kernel_rfl)
@[go_sem ↓] theorem sa_199 (a x : Value) : Instr.storeAt 199 a x = storeSem 199 a x := rfl
@[go_sem] theorem st_199 (a x : Value) (w : World) : (storeSem 199 a x).run Tryz.prog w = storeRow Tryz.prog 199 64 a x w := run_store_row 199 64 a x w (by kernel_rfl)
/-- The zero value of type 199, cell by cell. -/
def z199 : Array Value := #[.int .u8 0, .int .u8 0, .int .u8 0, .int .u8 0, .int .u8 0, .int .u8 0, .int .u8 0, .int .u8 0, .int .u8 0, .int .u8 0, .int .u8 0, .int .u8 0, .int .u8 0, .int .u8 0, .int .u8 0, .int .u8 0, .int .u8 0, .int .u8 0, .int .u8 0, .int .u8 0, .int .u8 0, .int .u8 0, .int .u8 0, .int .u8 0, .int .u8 0, .int .u8 0, .int .u8 0, .int .u8 0, .int .u8 0, .int .u8 0, .int .u8 0, .int .u8 0, .int .u8 0, .int .u8 0, .int .u8 0, .int .u8 0, .int .u8 0, .int .u8 0, .int .u8 0, .int .u8 0, .int .u8 0, .int .u8 0, .int .u8 0, .int .u8 0, .int .u8 0, .int .u8 0, .int .u8 0, .int .u8 0, .int .u8 0, .int .u8 0, .int .u8 0, .int .u8 0, .int .u8 0, .int .u8 0, .int .u8 0, .int .u8 0, .int .u8 0, .int .u8 0, .int .u8 0, .int .u8 0, .int .u8 0, .int .u8 0, .int .u8 0, .int .u8 0]
@[go_sem ↓] theorem al_199 (h : Bool) (old : Value) : Instr.alloc 199 h old = allocSem 199 h old := rfl
@[go_sem] theorem ar_199 (w : World) : (allocSem 199 true (.tuple #[])).run Tryz.prog w = .ok (.pointer (some ⟨w.heap.size, 0, none⟩)) (w.alloc (.cells z199 199)) := by kernel_rfl
@[go_sem] theorem zs_199 : z199.size = 64 := rfl
@[go_sem] theorem za_199 : z199.extract 0 64 = z199 := extract_all _ _ zs_199
@[go_sem] theorem zo_199 : ones z199 = true := by simp [ones, z199, Value.oneCell']
attribute [irreducible] z199
end Go.Proofs.YtednpkiegiiimaaGreatDoor
