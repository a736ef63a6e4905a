/-
  The laws of XRow at the types of this translation.
-/
import Derived.Test.YtppjleebbjipbaaGreatQkRow
set_option linter.all false
namespace Go.Proofs.YtppjleebbjipbaaGreat
@[go_sem ↓] theorem la_23 (v:Value):Instr.loadAt 23 v=a0j 23 v:=rfl
@[go_sem] theorem ld_23 (v:Value) (w:World):(a0j 23 v).run Tryz.prog w=loadRow Tryz.prog 23 4 v w:=a0h 23 4 v w _ Tryz.underlying23 rfl (by kernel_rfl)
@[go_sem ↓] theorem sa_23 (a x:Value):Instr.storeAt 23 a x=a0e 23 a x:=rfl
@[go_sem] theorem st_23 (a x:Value) (w:World):(a0e 23 a x).run Tryz.prog w=a0r Tryz.prog 23 4 a x w:=a0f 23 4 a x w (by kernel_rfl)
@[go_sem ↓] theorem la_26 (v:Value):Instr.loadAt 26 v=a0j 26 v:=rfl
@[go_sem] theorem ld_26 (v:Value) (w:World):(a0j 26 v).run Tryz.prog w=loadRow Tryz.prog 26 14 v w:=a0h 26 14 v w _ Tryz.underlying26 rfl (by kernel_rfl)
@[go_sem ↓] theorem sa_26 (a x:Value):Instr.storeAt 26 a x=a0e 26 a x:=rfl
@[go_sem] theorem st_26 (a x:Value) (w:World):(a0e 26 a x).run Tryz.prog w=a0r Tryz.prog 26 14 a x w:=a0f 26 14 a x w (by kernel_rfl)
def z26:Array Value:=#[.int .u8 0,.slice none 0 0,.slice none 0 0,.int .u8 0,.int .u8 0,.int .u8 0,.int .u8 0,.int .u8 0,.int .u8 0,.int .u8 0,.int .u8 0,.int .u8 0,.int .u8 0,.bool false]
@[go_sem ↓] theorem al_26 (h:Bool) (old:Value):Instr.alloc 26 h old=a3d 26 h old:=rfl
@[go_sem] theorem ar_26 (w:World):(a3d 26 true (.tuple #[])).run Tryz.prog w=.ok (.pointer (some ⟨w.heap.size,0,none⟩)) (w.alloc (.cells z26 26)):=by kernel_rfl
@[go_sem] theorem aqa:z26.size=14:=rfl
@[go_sem] theorem za_26:z26.extract 0 14=z26:=extract_all _ _ aqa
@[go_sem] theorem zo_26:ones z26=true:=by simp [ones,z26,Value.oneCell']
attribute [irreducible] z26
@[go_sem ↓] theorem la_31 (v:Value):Instr.loadAt 31 v=a0j 31 v:=rfl
@[go_sem] theorem ld_31 (v:Value) (w:World):(a0j 31 v).run Tryz.prog w=loadRow Tryz.prog 31 4 v w:=a0h 31 4 v w _ Tryz.underlying31 rfl (by kernel_rfl)
@[go_sem ↓] theorem sa_31 (a x:Value):Instr.storeAt 31 a x=a0e 31 a x:=rfl
@[go_sem] theorem st_31 (a x:Value) (w:World):(a0e 31 a x).run Tryz.prog w=a0r Tryz.prog 31 4 a x w:=a0f 31 4 a x w (by kernel_rfl)
@[go_sem ↓] theorem la_35 (v:Value):Instr.loadAt 35 v=a0j 35 v:=rfl
@[go_sem] theorem ld_35 (v:Value) (w:World):(a0j 35 v).run Tryz.prog w=loadRow Tryz.prog 35 8 v w:=a0h 35 8 v w _ Tryz.underlying35 rfl (by kernel_rfl)
@[go_sem ↓] theorem sa_35 (a x:Value):Instr.storeAt 35 a x=a0e 35 a x:=rfl
@[go_sem] theorem st_35 (a x:Value) (w:World):(a0e 35 a x).run Tryz.prog w=a0r Tryz.prog 35 8 a x w:=a0f 35 8 a x w (by kernel_rfl)
@[go_sem ↓] theorem la_57 (v:Value):Instr.loadAt 57 v=a0j 57 v:=rfl
@[go_sem] theorem ld_57 (v:Value) (w:World):(a0j 57 v).run Tryz.prog w=loadRow Tryz.prog 57 2 v w:=a0h 57 2 v w _ Tryz.underlying57 rfl (by kernel_rfl)
@[go_sem ↓] theorem sa_57 (a x:Value):Instr.storeAt 57 a x=a0e 57 a x:=rfl
@[go_sem] theorem st_57 (a x:Value) (w:World):(a0e 57 a x).run Tryz.prog w=a0r Tryz.prog 57 2 a x w:=a0f 57 2 a x w (by kernel_rfl)
@[go_sem ↓] theorem la_65 (v:Value):Instr.loadAt 65 v=a0j 65 v:=rfl
@[go_sem] theorem ld_65 (v:Value) (w:World):(a0j 65 v).run Tryz.prog w=loadRow Tryz.prog 65 4 v w:=a0h 65 4 v w _ Tryz.underlying65 rfl (by kernel_rfl)
@[go_sem ↓] theorem sa_65 (a x:Value):Instr.storeAt 65 a x=a0e 65 a x:=rfl
@[go_sem] theorem st_65 (a x:Value) (w:World):(a0e 65 a x).run Tryz.prog w=a0r Tryz.prog 65 4 a x w:=a0f 65 4 a x w (by kernel_rfl)
@[go_sem ↓] theorem la_77 (v:Value):Instr.loadAt 77 v=a0j 77 v:=rfl
@[go_sem] theorem ld_77 (v:Value) (w:World):(a0j 77 v).run Tryz.prog w=loadRow Tryz.prog 77 2 v w:=a0h 77 2 v w _ Tryz.underlying77 rfl (by kernel_rfl)
@[go_sem ↓] theorem sa_77 (a x:Value):Instr.storeAt 77 a x=a0e 77 a x:=rfl
@[go_sem] theorem st_77 (a x:Value) (w:World):(a0e 77 a x).run Tryz.prog w=a0r Tryz.prog 77 2 a x w:=a0f 77 2 a x w (by kernel_rfl)
@[go_sem ↓] theorem la_84 (v:Value):Instr.loadAt 84 v=a0j 84 v:=rfl
@[go_sem] theorem ld_84 (v:Value) (w:World):(a0j 84 v).run Tryz.prog w=loadRow Tryz.prog 84 5 v w:=a0h 84 5 v w _ Tryz.underlying84 rfl (by kernel_rfl)
@[go_sem ↓] theorem sa_84 (a x:Value):Instr.storeAt 84 a x=a0e 84 a x:=rfl
@[go_sem] theorem st_84 (a x:Value) (w:World):(a0e 84 a x).run Tryz.prog w=a0r Tryz.prog 84 5 a x w:=a0f 84 5 a x w (by kernel_rfl)
@[go_sem ↓] theorem la_95 (v:Value):Instr.loadAt 95 v=a0j 95 v:=rfl
@[go_sem] theorem ld_95 (v:Value) (w:World):(a0j 95 v).run Tryz.prog w=loadRow Tryz.prog 95 3 v w:=a0h 95 3 v w _ Tryz.underlying95 rfl (by kernel_rfl)
@[go_sem ↓] theorem sa_95 (a x:Value):Instr.storeAt 95 a x=a0e 95 a x:=rfl
@[go_sem] theorem st_95 (a x:Value) (w:World):(a0e 95 a x).run Tryz.prog w=a0r Tryz.prog 95 3 a x w:=a0f 95 3 a x w (by kernel_rfl)
@[go_sem ↓] theorem la_106 (v:Value):Instr.loadAt 106 v=a0j 106 v:=rfl
@[go_sem] theorem ld_106 (v:Value) (w:World):(a0j 106 v).run Tryz.prog w=loadRow Tryz.prog 106 3 v w:=a0h 106 3 v w _ Tryz.underlying106 rfl (by kernel_rfl)
@[go_sem ↓] theorem sa_106 (a x:Value):Instr.storeAt 106 a x=a0e 106 a x:=rfl
@[go_sem] theorem st_106 (a x:Value) (w:World):(a0e 106 a x).run Tryz.prog w=a0r Tryz.prog 106 3 a x w:=a0f 106 3 a x w (by kernel_rfl)
@[go_sem ↓] theorem la_119 (v:Value):Instr.loadAt 119 v=a0j 119 v:=rfl
@[go_sem] theorem ld_119 (v:Value) (w:World):(a0j 119 v).run Tryz.prog w=loadRow Tryz.prog 119 5 v w:=a0h 119 5 v w _ Tryz.underlying119 rfl (by kernel_rfl)
@[go_sem ↓] theorem sa_119 (a x:Value):Instr.storeAt 119 a x=a0e 119 a x:=rfl
@[go_sem] theorem st_119 (a x:Value) (w:World):(a0e 119 a x).run Tryz.prog w=a0r Tryz.prog 119 5 a x w:=a0f 119 5 a x w (by kernel_rfl)
@[go_sem ↓] theorem la_124 (v:Value):Instr.loadAt 124 v=a0j 124 v:=rfl
@[go_sem] theorem ld_124 (v:Value) (w:World):(a0j 124 v).run Tryz.prog w=loadRow Tryz.prog 124 5 v w:=a0h 124 5 v w _ Tryz.underlying124 rfl (by kernel_rfl)
@[go_sem ↓] theorem sa_124 (a x:Value):Instr.storeAt 124 a x=a0e 124 a x:=rfl
@[go_sem] theorem st_124 (a x:Value) (w:World):(a0e 124 a x).run Tryz.prog w=a0r Tryz.prog 124 5 a x w:=a0f 124 5 a x w (by kernel_rfl)
end Go.Proofs.YtppjleebbjipbaaGreat
