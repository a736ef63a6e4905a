/-
  Slices of numbers.
-/
import Derived.WalkKit
import Derived.WalkSpells
import Derived.WalkLawsBesides
import Derived.Handy
import Derived.Lib.Hide
import Derived.Laws.CopyOwn
import Derived.Deep.QuietTactic
import Derived.BigQuiet
import Derived.BigRegion
import Derived.StillTailTactics
import Derived.RegionTactic
import Derived.LoopTactic
import Derived.OwnWalk
import Derived.Deep.AppendLies
import Derived.Deep.AppendSrc
import Derived.Test.YtopgdlblfieljaaGreatDoorProg
import Derived.Test.YtopgdlblfieljaaGreatDoorPkHash
set_option linter.unusedSectionVars false
set_option linter.constructorNameAsVariable false
set_option linter.unusedVariables false
set_option linter.unusedSimpArgs false
namespace Go.Proofs.YtopgdlblfieljaaGreatDoor
open Go.RowKit
def aRi (W:World) (v:Value) (l:List Int):Prop := ∃ ao c,v=.slice ao l.length c∧(ao=none→l = []∧c=0)∧∀ g off x,ao=some ⟨g,off,x⟩→x=none∧l.length≤c∧g < W.heap.size∧∀ j,j < l.length→W.cell? ⟨g,off+j,none⟩=some (.int .i64 (l.getD j 0))
theorem aRi.below {W W':World} {v:Value} {l:List Int} (h:aRi W v l) (hB:Below W.heap.size W W'):aRi W' v l:=by
 obtain ⟨ao,c,h1,h2,h3⟩:=h
 refine ⟨ao,c,h1,h2,fun g off x hx=>?_⟩
 obtain ⟨q1,q2,q3,q4⟩:=h3 g off x hx
 exact ⟨q1,q2,Nat.lt_of_lt_of_le q3 hB.size,fun j hj=>(hB.cell (p:=⟨g,off+j,none⟩) q3).trans (q4 j hj)⟩
theorem aRi.one {W:World} {v:Value} {l:List Int} (h:aRi W v l):v.oneCell' = true:=by
 obtain ⟨ao,c,rfl,_⟩:=h;rfl
theorem aRi.nil (W:World):aRi W (.slice none 0 0) []:=⟨none,0,rfl,fun _=>⟨rfl,rfl⟩,fun _ _ _ h=>by cases h⟩
end Go.Proofs.YtopgdlblfieljaaGreatDoor
namespace Go.Proofs.YtopgdlblfieljaaGreatDoor
open Go.RowKit
structure Let where
 kind:Int
 frm:Int
 dst:Int
 num:Nat→Int
 cells:Value
 ref:List UInt8
def Let.row (L:Let):Array Value:=#[.int .i64 L.kind,.int .i64 L.frm,.int .i64 L.dst,.int .i64 (L.num 0),.int .i64 (L.num 1),.int .i64 (L.num 2),.int .i64 (L.num 3),.int .i64 (L.num 4),.int .i64 (L.num 5),.int .i64 (L.num 6),.int .i64 (L.num 7),.int .i64 (L.num 8),
 .int .i64 0,.bool false,.int .i64 0,.int .i64 0,.int .i64 0,
 .slice none 0 0,.int .i64 0,.int .i64 0,.string ByteArray.empty,.int .i64 0,.int .i64 0,.slice none 0 0,
 .int .i64 (L.num 11),.int .i64 (L.num 12),.int .i64 (L.num 13),.int .i64 0,.int .i64 0,L.cells]++a0i L.ref
theorem a0e (L:Let) (h:L.ref.length=32):L.row.size=62:=by simp [Let.row,a0o,h]
theorem a15 (L:Let) (h:L.ref.length=32):L.row.extract 0 62=L.row:=extract_all _ _ (a0e L h)
theorem a0y (L:Let) (h:L.cells.oneCell' = true):ones L.row=true:=by
 unfold ones
 rw [Array.all_eq_true_iff_forall_mem]
 intro x hx
 have hb:=a1t L.ref
 unfold ones at hb
 rw [Array.all_eq_true_iff_forall_mem] at hb
 simp only [Let.row,Array.mem_append] at hx
 rcases hx with hx | hx
 ·simp at hx
  rcases hx with rfl | rfl | rfl | rfl | rfl | rfl | rfl | rfl | rfl | rfl | rfl | rfl | rfl | rfl | rfl | rfl | rfl | rfl | rfl | rfl | rfl | rfl | rfl | rfl | rfl<;>first | rfl | exact h
 ·exact hb x hx
@[go_sem] theorem a8z (L:Let):L.row[0]? = some (.int .i64 L.kind):=by simp [Let.row,Array.getElem?_append]
@[go_sem] theorem ad4 (L:Let):L.row[1]? = some (.int .i64 L.frm):=by simp [Let.row,Array.getElem?_append]
@[go_sem] theorem aRh (L:Let):L.row[2]? = some (.int .i64 L.dst):=by simp [Let.row,Array.getElem?_append]
@[go_sem] theorem aid (L:Let):L.row[29]? = some L.cells:=by simp [Let.row,Array.getElem?_append]
def isNum (f:Nat):Bool:=decide (f≤8)||(decide (11≤f)&&decide (f≤13))
def offN (f:Nat):Nat:=if f≤8 then 3+f else f+13
theorem ad3 (L:Let) (f:Nat) (h:isNum f=true):L.row[offN f]? = some (.int .i64 (L.num f)):=by
 have hf:f=0∨f=1∨f=2∨f=3∨f=4∨f=5∨f=6∨f=7∨f=8∨f=11∨f=12∨f=13:=by
  simp [isNum] at h;omega
 rcases hf with rfl | rfl | rfl | rfl | rfl | rfl | rfl | rfl | rfl | rfl | rfl | rfl<;>simp [Let.row,offN,Array.getElem?_append]
@[go_sem] theorem Let_7 (L:Let):L.row[7]? = some (.int .i64 (L.num 4)):=ad3 L 4 rfl
@[go_sem] theorem Let_8 (L:Let):L.row[8]? = some (.int .i64 (L.num 5)):=ad3 L 5 rfl
@[go_sem] theorem Let_10 (L:Let):L.row[10]? = some (.int .i64 (L.num 7)):=ad3 L 7 rfl
attribute [irreducible] Let.row
end Go.Proofs.YtopgdlblfieljaaGreatDoor
