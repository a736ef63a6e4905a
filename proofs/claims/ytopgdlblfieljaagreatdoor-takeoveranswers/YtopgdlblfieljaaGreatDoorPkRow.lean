/-
  Laws of the walk for aggregates whose cells are not written out: a load, a store of a whole struct or array, as one step, by the block that it lies in.
-/
import Derived.WalkKit
import Derived.WalkSpells
import Derived.WalkLawsBesides
import Derived.Handy
import Derived.Lib.Hide
import Derived.Laws.CopyOwn
import Derived.Deep.MidRow
import Derived.Test.YtopgdlblfieljaaGreatDoorProg
set_option linter.unusedSectionVars false
set_option linter.constructorNameAsVariable false
set_option linter.unusedVariables false
set_option linter.unusedSimpArgs false
namespace Go.Proofs.YtopgdlblfieljaaGreatDoor
open Go.RowKit

def obj (w:World) (n:Nat):Option Obj:=w.heap[n]?
def ones (cs:Array Value):Bool:=cs.all (·.oneCell')
@[go_sem] theorem aZ9:ones #[]=true:=by simp [ones]
@[go_sem] theorem aUw (v:Value) (l:List Value):ones (v :: l).toArray=(v.oneCell' && ones l.toArray):=by simp [ones]
@[go_sem] theorem ack (k:IntKind) (n:Int):(Value.int k n).oneCell' = true:=rfl
@[go_sem] theorem aZb (b:Bool):(Value.bool b).oneCell' = true:=rfl
@[go_sem] theorem b2w (a:Option Addr):(Value.pointer a).oneCell' = true:=rfl
@[go_sem] theorem ay5 (a:Option Addr) (n c:Nat):(Value.slice a n c).oneCell' = true:=rfl
@[go_sem] theorem aRz (s:ByteArray):(Value.string s).oneCell' = true:=rfl
@[go_sem] theorem aZa (f:Fn) (a b:Array Value):(Value.func f a b).oneCell' = true:=rfl
@[go_sem] theorem aP8:Value.nilFunc.oneCell' = true:=rfl
@[go_sem] theorem b2x (r:Option Nat):(Value.map r).oneCell' = true:=rfl
def cellsOf:Option Obj→Option (Array Value)
 | some (.cells cs _ _)=>some cs
 | _=>none
@[go_sem] theorem aHy (cs:Array Value) (T:TypeId) (fr:Nat×Nat):cellsOf (some (.cells cs T fr))=some cs:=rfl
def aqw:Option Obj→Option (Array Value)
 | some (.cells cs _ (0,0))=>some cs
 | _=>none
@[go_sem] theorem aKb (cs:Array Value) (T:TypeId):aqw (some (.cells cs T (0,0)))=some cs:=rfl

def a1z (T:TypeId) (v:Value):Sem Value:=Instr.loadAt T v
def a1h (T:TypeId) (a x:Value):Sem Unit:=Instr.storeAt T a x
def a5w (T:TypeId) (h:Bool) (old:Value):Sem Value:=Instr.alloc T h old
def af2 (P:Program) (T:TypeId) (v:Value) (w:World):Result Value:=(Instr.loadAt T v).run P w
def a9u (P:Program) (T:TypeId) (a x:Value) (w:World):Result Unit:=(Instr.storeAt T a x).run P w
section
variable {P:Program}
def loadRow (P:Program) (T n:Nat) (v:Value) (w:World):Result Value :=
 match v with
 | .pointer (some ⟨g,o,none⟩) =>
  (cellsOf (obj w g)).elim (af2 P T v w) fun cs=>if o+n≤cs.size then .ok (.agg (cs.extract o (o+n))) w else af2 P T v w
 | v=>af2 P T v w
@[go_sem] theorem aPt (T n g o:Nat) (w:World):loadRow P T n (.pointer (some ⟨g,o,none⟩)) w =
  (cellsOf (obj w g)).elim (af2 P T (.pointer (some ⟨g,o,none⟩)) w) fun cs=>if o+n≤cs.size then .ok (.agg (cs.extract o (o+n))) w else af2 P T (.pointer (some ⟨g,o,none⟩)) w:=rfl
theorem a1r (T:TypeId) (n:Nat) (v:Value) (w:World) (td:TypeDesc)
  (hu:P.underlying T=some td) (hd:td.isRow=true) (hi:(P.info? T).map (·.size)=some n) :
  (a1z T v).run P w=loadRow P T n v w:=by
 unfold a1z loadRow
 split
 ·rename_i g o
  rcases hb:obj w g with _ | ob
  ·rfl
  ·cases ob with
   | cells cs T' fr =>
    simp only [cellsOf,Option.elim_some]
    split
    ·rename_i hle
     have hl:(cs.toList.extract o (o+n)).length=n:=by simp;omega
     have hr:=run_loadAt_mid (P:=P) w g o T (cs.toList.extract o (o+n)) td (fun j v hv=>by
      rw [cell_of_row w g (o+j) cs T' fr hb]
      have hj:j < n:=by
       have:=(List.getElem?_eq_some_iff.1 hv).1;omega
      rw [List.extract_eq_take_drop,List.getElem?_take,if_pos (by omega),List.getElem?_drop] at hv
      simpa using hv) hu hd (by rw [hl];exact hi)
     rw [hr]
     congr 2
     apply Array.ext'
     simp
    ·rfl
   | _=>rfl
 ·rfl
def a2n (P:Program) (T n:Nat) (v x:Value) (w:World):Result Unit :=
 match v,x with
 | .pointer (some ⟨g,0,none⟩),.agg cs =>
  (aqw (obj w g)).elim (a9u P T v x w) fun old=>if old.size=n∧cs.size=n∧ones cs=true then .ok () (w.setRow g cs) else a9u P T v x w
 | v,x=>a9u P T v x w
@[go_sem] theorem aIi (T n g:Nat) (cs:Array Value) (w:World):a2n P T n (.pointer (some ⟨g,0,none⟩)) (.agg cs) w =
  (aqw (obj w g)).elim (a9u P T (.pointer (some ⟨g,0,none⟩)) (.agg cs) w)
   fun old=>if old.size=n∧cs.size=n∧ones cs=true then .ok () (w.setRow g cs) else a9u P T (.pointer (some ⟨g,0,none⟩)) (.agg cs) w:=rfl
theorem a1l (T:TypeId) (n:Nat) (v y:Value) (w:World) (hi:(P.info? T).map (·.size)=some n) :
  (a1h T v y).run P w=a2n P T n v y w:=by
 unfold a1h a2n
 split
 ·rename_i g cs
  rcases hb:obj w g with _ | ob
  ·rfl
  ·unfold aqw
   split
   ·rename_i old T' heq
    cases heq
    simp only [Option.elim_some]
    split
    ·rename_i h
     obtain ⟨h1,h2,h3⟩:=h
     have hr:=run_storeVar_row (P:=P) w g T' T old cs hb (by rw [h2];exact hi) (by omega) h3
     simp only [Instr.storeAt,Instr.sureAddr,Sem.run_bind,Sem.run_pure,Result.andThen_ok,hr]
    ·rfl
   ·rfl
 ·rfl
end

section
variable (w:World)
@[go_sem] theorem a03 (o:Obj) (n:Nat) (hn:n=w.heap.size):obj (w.alloc o) n=some o:=by subst hn;exact heap_alloc_new w o
@[go_sem] theorem ags (o:Obj) (n:Nat) (hn:n < w.heap.size):obj (w.alloc o) n=obj w n:=heap_alloc_old w o hn
@[go_sem] theorem aZd (n:Nat):obj w.drew n=obj w n:=rfl
@[go_sem] theorem a1e (a:Addr) (u:Value) (n:Nat) (hn:n≠a.block):obj (w.setCell a u) n=obj w n:=heap_setCell_other w a n u hn
@[go_sem] theorem ayl (g:Nat) (cs:Array Value) (n:Nat) (hn:n≠g):obj (w.setRow g cs) n=obj w n:=setRow_other w g n cs hn
def Obj.aem (cs:Array Value):Obj→Obj
 | .cells _ T fr=>.cells cs T fr
 | o=>o
@[go_sem] theorem a0b (g:Nat) (cs:Array Value):obj (w.setRow g cs) g=(obj w g).map (Obj.aem cs):=by
 simp only [obj,World.setRow,Array.getElem?_modify,if_pos]
 cases w.heap[g]? with
 | none=>rfl
 | some o=>cases o<;>rfl
def Obj.aq1 (i:Nat) (v:Value):Obj→Obj
 | .cells cs T fr=>.cells (cs.setIfInBounds i v) T fr
 | o=>o
@[go_sem] theorem aBh (i:Nat) (v:Value) (cs:Array Value) (T:TypeId) (fr:Nat×Nat):Obj.aq1 i v (.cells cs T fr)=.cells (cs.setIfInBounds i v) T fr:=rfl
@[go_sem] theorem a0l (g i:Nat) (v:Value):obj (w.setCell ⟨g,i,none⟩ v) g=(obj w g).map (Obj.aq1 i v):=by
 simp only [obj,World.setCell,Array.getElem?_modify,if_pos]
 cases w.heap[g]? with
 | none=>rfl
 | some o=>cases o<;>rfl
@[go_sem] theorem a95 (cs old:Array Value) (T:TypeId) (fr:Nat×Nat):Obj.aem cs (.cells old T fr)=.cells cs T fr:=rfl
@[go_sem] theorem ax0 (old cs:Array Value) (T:TypeId) (fr:Nat×Nat) (n:Nat) (hn:n=w.heap.size):(w.alloc (.cells old T fr)).setRow n cs=w.alloc (.cells cs T fr):=by
 subst hn
 unfold World.setRow World.alloc
 congr 1
 apply Array.ext
 ·simp
 ·intro k h1 h2
  simp only [Array.getElem_modify,Array.getElem_push]
  split
  ·rename_i hk;subst hk;simp
  ·rename_i hk
   have:k < w.heap.size:=by simp at h2;omega
   simp [this]
@[go_sem] theorem at7 (o:Obj) (cs:Array Value) (n:Nat) (hn:n < w.heap.size):(w.alloc o).setRow n cs=(w.setRow n cs).alloc o:=by
 unfold World.setRow World.alloc
 congr 1
 apply Array.ext
 ·simp
 ·intro k h1 h2
  simp only [Array.getElem_modify,Array.getElem_push,Array.size_modify]
  split
  ·rename_i hk;subst hk;simp [hn]
  ·rfl
@[go_sem] theorem aNr (n:Nat) (cs:Array Value):w.drew.setRow n cs=(w.setRow n cs).drew:=rfl
@[go_sem] theorem aBk (g j:Nat) (cs:Array Value):(w.setRow g cs).cell? ⟨g,j,none⟩=(cellsOf (obj w g)).bind fun _=>cs[j]? := by
 unfold World.cell?
 change (match obj (w.setRow g cs) g with | some (.cells c _ _)=>if (none:Option Nat).isSome then none else c[j]? | _=>none)=_
 rw [a0b]
 cases obj w g with
 | none=>rfl
 | some o=>cases o<;>rfl
@[go_sem] theorem avd (g n j:Nat) (cs:Array Value) (h:n≠g):(w.setRow g cs).cell? ⟨n,j,none⟩=w.cell? ⟨n,j,none⟩:=cell_setRow_other w g cs ⟨n,j,none⟩ h
@[go_sem] theorem aH9 (g:Nat) (cs:Array Value) (a:Addr):(w.setRow g cs).frozen? a=w.frozen? a:=by
 unfold World.frozen?
 by_cases h:a.block=g
 ·subst h
  change (match obj (w.setRow a.block cs) a.block with | some (.cells _ _ (lo,hi))=>lo≤a.off&&a.off < hi | _=>false)=(match obj w a.block with | some (.cells _ _ (lo,hi))=>lo≤a.off&&a.off < hi | _=>false)
  rw [a0b]
  cases obj w a.block with
  | none=>rfl
  | some o=>cases o<;>rfl
 ·rw [setRow_other w g _ cs h]
end
theorem a00 {B g:Nat} {w w':World} {o:Obj} (h:obj w g=some o) (hb:Below B w w') (hg:g < B):obj w' g=some o:=(hb.block g hg).trans h
theorem a02 {g:Nat} {w:World} {o:Obj} (h:obj w g=some o) (o':Obj):obj (w.alloc o') g=some o:=(ags w o' g (Array.getElem?_eq_some_iff.1 h).1).trans h
theorem a2q {g n:Nat} {w:World} {o:Obj} (h:obj w g=some o) (hn:g≠n) (cs:Array Value):obj (w.setRow n cs) g=some o:=(setRow_other w n g cs hn).trans h
theorem a1c {g:Nat} {w:World} {o:Obj} (h:obj w g=some o) (a:Addr) (hn:g≠a.block) (v:Value):obj (w.setCell a v) g=some o:=(heap_setCell_other w a g v hn).trans h
theorem a3g {g:Nat} {w:World} {o:Obj} (h:obj w g=some o):obj w.drew g=some o:=h
theorem a0w {g:Nat} {w w':World} {o:Obj} {r:Option Nat} (h:obj w g=some o) (hg:w.grownBy w' r) (hn:some g≠r):obj w' g=some o:=(hg.block g (Array.getElem?_eq_some_iff.1 h).1 hn).trans h
theorem a04 {g:Nat} {w:World} {o:Obj} (h:obj w g=some o):g < w.heap.size:=(Array.getElem?_eq_some_iff.1 h).1
theorem a01 {g:Nat} {w:World} {cs:Array Value} {T:TypeId} {fr:Nat×Nat} (h:obj w g=some (.cells cs T fr)):∀ j,w.cell? ⟨g,j,none⟩=cs[j]? := fun j=>cell_of_row w g j cs T fr h
theorem a0t {g:Nat} {w:World} {cs:Array Value} {T:TypeId} (h:obj w g=some (.cells cs T (0,0))):∀ j,w.frozen? ⟨g,j,none⟩=false:=fun j=>frozen_of_row w g j cs T h
theorem an3 {B:Nat} {w w':World} (h:Below B w w'):∀ b,b < B→obj w' b=obj w b:=h.block
theorem extract_all (cs:Array Value) (n:Nat) (h:cs.size=n):cs.extract 0 n=cs:=by subst h;simp
end Go.Proofs.YtopgdlblfieljaaGreatDoor
namespace Go.Proofs.YtopgdlblfieljaaGreatDoor
@[go_sem ↓] theorem la_22 (v:Value):Instr.loadAt 22 v=a1z 22 v:=rfl
@[go_sem] theorem ld_22 (v:Value) (w:World):(a1z 22 v).run Tryz.prog w=loadRow Tryz.prog 22 3 v w:=a1r 22 3 v w _ Tryz.underlying22 rfl (by kernel_rfl)
@[go_sem ↓] theorem sa_22 (a x:Value):Instr.storeAt 22 a x=a1h 22 a x:=rfl
@[go_sem] theorem st_22 (a x:Value) (w:World):(a1h 22 a x).run Tryz.prog w=a2n Tryz.prog 22 3 a x w:=a1l 22 3 a x w (by kernel_rfl)
@[go_sem ↓] theorem la_28 (v:Value):Instr.loadAt 28 v=a1z 28 v:=rfl
@[go_sem] theorem ld_28 (v:Value) (w:World):(a1z 28 v).run Tryz.prog w=loadRow Tryz.prog 28 7 v w:=a1r 28 7 v w _ Tryz.underlying28 rfl (by kernel_rfl)
@[go_sem ↓] theorem sa_28 (a x:Value):Instr.storeAt 28 a x=a1h 28 a x:=rfl
@[go_sem] theorem st_28 (a x:Value) (w:World):(a1h 28 a x).run Tryz.prog w=a2n Tryz.prog 28 7 a x w:=a1l 28 7 a x w (by kernel_rfl)
@[go_sem ↓] theorem la_46 (v:Value):Instr.loadAt 46 v=a1z 46 v:=rfl
@[go_sem] theorem ld_46 (v:Value) (w:World):(a1z 46 v).run Tryz.prog w=loadRow Tryz.prog 46 32 v w:=a1r 46 32 v w _ Tryz.underlying46 rfl (by kernel_rfl)
@[go_sem ↓] theorem sa_46 (a x:Value):Instr.storeAt 46 a x=a1h 46 a x:=rfl
@[go_sem] theorem st_46 (a x:Value) (w:World):(a1h 46 a x).run Tryz.prog w=a2n Tryz.prog 46 32 a x w:=a1l 46 32 a x w (by kernel_rfl)
def z46:Array Value:=#[.int .u8 0,.int .u8 0,.int .u8 0,.int .u8 0,.int .u8 0,.int .u8 0,.int .u8 0,.int .u8 0,.int .u8 0,.int .u8 0,.int .u8 0,.int .u8 0,.int .u8 0,.int .u8 0,.int .u8 0,.int .u8 0,.int .u8 0,.int .u8 0,.int .u8 0,.int .u8 0,.int .u8 0,.int .u8 0,.int .u8 0,.int .u8 0,.int .u8 0,.int .u8 0,.int .u8 0,.int .u8 0,.int .u8 0,.int .u8 0,.int .u8 0,.int .u8 0]
@[go_sem ↓] theorem al_46 (h:Bool) (old:Value):Instr.alloc 46 h old=a5w 46 h old:=rfl
@[go_sem] theorem ar_46 (w:World):(a5w 46 true (.tuple #[])).run Tryz.prog w=.ok (.pointer (some ⟨w.heap.size,0,none⟩)) (w.alloc (.cells z46 46)):=by kernel_rfl
@[go_sem] theorem b0s:z46.size=32:=rfl
@[go_sem] theorem za_46:z46.extract 0 32=z46:=extract_all _ _ b0s
@[go_sem] theorem zo_46:ones z46=true:=by simp [ones,z46,Value.oneCell']
attribute [irreducible] z46
@[go_sem ↓] theorem la_48 (v:Value):Instr.loadAt 48 v=a1z 48 v:=rfl
@[go_sem] theorem ld_48 (v:Value) (w:World):(a1z 48 v).run Tryz.prog w=loadRow Tryz.prog 48 62 v w:=a1r 48 62 v w _ Tryz.underlying48 rfl (by kernel_rfl)
@[go_sem ↓] theorem sa_48 (a x:Value):Instr.storeAt 48 a x=a1h 48 a x:=rfl
@[go_sem] theorem st_48 (a x:Value) (w:World):(a1h 48 a x).run Tryz.prog w=a2n Tryz.prog 48 62 a x w:=a1l 48 62 a x w (by kernel_rfl)
def z48:Array Value:=#[.int .i64 0,.int .i64 0,.int .i64 0,.int .i64 0,.int .i64 0,.int .i64 0,.int .i64 0,.int .i64 0,.int .i64 0,.int .i64 0,.int .i64 0,.int .i64 0,.int .i64 0,.bool false,.int .i64 0,.int .i64 0,.int .i64 0,.slice none 0 0,.int .i64 0,.int .i64 0,.string ByteArray.empty,.int .i64 0,.int .i64 0,.slice none 0 0,.int .i64 0,.int .i64 0,.int .i64 0,.int .i64 0,.int .i64 0,.slice none 0 0,.int .u8 0,.int .u8 0,.int .u8 0,.int .u8 0,.int .u8 0,.int .u8 0,.int .u8 0,.int .u8 0,.int .u8 0,.int .u8 0,.int .u8 0,.int .u8 0,.int .u8 0,.int .u8 0,.int .u8 0,.int .u8 0,.int .u8 0,.int .u8 0,.int .u8 0,.int .u8 0,.int .u8 0,.int .u8 0,.int .u8 0,.int .u8 0,.int .u8 0,.int .u8 0,.int .u8 0,.int .u8 0,.int .u8 0,.int .u8 0,.int .u8 0,.int .u8 0]
@[go_sem ↓] theorem al_48 (h:Bool) (old:Value):Instr.alloc 48 h old=a5w 48 h old:=rfl
@[go_sem] theorem ar_48 (w:World):(a5w 48 true (.tuple #[])).run Tryz.prog w=.ok (.pointer (some ⟨w.heap.size,0,none⟩)) (w.alloc (.cells z48 48)):=by kernel_rfl
@[go_sem] theorem aSe:z48.size=62:=rfl
@[go_sem] theorem za_48:z48.extract 0 62=z48:=extract_all _ _ aSe
@[go_sem] theorem zo_48:ones z48=true:=by simp [ones,z48,Value.oneCell']
attribute [irreducible] z48
@[go_sem ↓] theorem la_51 (v:Value):Instr.loadAt 51 v=a1z 51 v:=rfl
@[go_sem] theorem ld_51 (v:Value) (w:World):(a1z 51 v).run Tryz.prog w=loadRow Tryz.prog 51 4 v w:=a1r 51 4 v w _ Tryz.underlying51 rfl (by kernel_rfl)
@[go_sem ↓] theorem sa_51 (a x:Value):Instr.storeAt 51 a x=a1h 51 a x:=rfl
@[go_sem] theorem st_51 (a x:Value) (w:World):(a1h 51 a x).run Tryz.prog w=a2n Tryz.prog 51 4 a x w:=a1l 51 4 a x w (by kernel_rfl)
@[go_sem ↓] theorem la_62 (v:Value):Instr.loadAt 62 v=a1z 62 v:=rfl
@[go_sem] theorem ld_62 (v:Value) (w:World):(a1z 62 v).run Tryz.prog w=loadRow Tryz.prog 62 36 v w:=a1r 62 36 v w _ Tryz.underlying62 rfl (by kernel_rfl)
@[go_sem ↓] theorem sa_62 (a x:Value):Instr.storeAt 62 a x=a1h 62 a x:=rfl
@[go_sem] theorem st_62 (a x:Value) (w:World):(a1h 62 a x).run Tryz.prog w=a2n Tryz.prog 62 36 a x w:=a1l 62 36 a x w (by kernel_rfl)
def z62:Array Value:=#[.int .i64 0,.int .i64 0,.int .i64 0,.slice none 0 0,.int .u8 0,.int .u8 0,.int .u8 0,.int .u8 0,.int .u8 0,.int .u8 0,.int .u8 0,.int .u8 0,.int .u8 0,.int .u8 0,.int .u8 0,.int .u8 0,.int .u8 0,.int .u8 0,.int .u8 0,.int .u8 0,.int .u8 0,.int .u8 0,.int .u8 0,.int .u8 0,.int .u8 0,.int .u8 0,.int .u8 0,.int .u8 0,.int .u8 0,.int .u8 0,.int .u8 0,.int .u8 0,.int .u8 0,.int .u8 0,.int .u8 0,.int .u8 0]
@[go_sem ↓] theorem al_62 (h:Bool) (old:Value):Instr.alloc 62 h old=a5w 62 h old:=rfl
@[go_sem] theorem ar_62 (w:World):(a5w 62 true (.tuple #[])).run Tryz.prog w=.ok (.pointer (some ⟨w.heap.size,0,none⟩)) (w.alloc (.cells z62 62)):=by kernel_rfl
@[go_sem] theorem zs_62:z62.size=36:=rfl
@[go_sem] theorem za_62:z62.extract 0 36=z62:=extract_all _ _ zs_62
@[go_sem] theorem zo_62:ones z62=true:=by simp [ones,z62,Value.oneCell']
attribute [irreducible] z62
@[go_sem ↓] theorem la_160 (v:Value):Instr.loadAt 160 v=a1z 160 v:=rfl
@[go_sem] theorem ld_160 (v:Value) (w:World):(a1z 160 v).run Tryz.prog w=loadRow Tryz.prog 160 8 v w:=a1r 160 8 v w _ Tryz.underlying160 rfl (by kernel_rfl)
@[go_sem ↓] theorem sa_160 (a x:Value):Instr.storeAt 160 a x=a1h 160 a x:=rfl
@[go_sem] theorem st_160 (a x:Value) (w:World):(a1h 160 a x).run Tryz.prog w=a2n Tryz.prog 160 8 a x w:=a1l 160 8 a x w (by kernel_rfl)
@[go_sem ↓] theorem la_164 (v:Value):Instr.loadAt 164 v=a1z 164 v:=rfl
@[go_sem] theorem ld_164 (v:Value) (w:World):(a1z 164 v).run Tryz.prog w=loadRow Tryz.prog 164 64 v w:=a1r 164 64 v w _ Tryz.underlying164 rfl (by kernel_rfl)
@[go_sem ↓] theorem sa_164 (a x:Value):Instr.storeAt 164 a x=a1h 164 a x:=rfl
@[go_sem] theorem st_164 (a x:Value) (w:World):(a1h 164 a x).run Tryz.prog w=a2n Tryz.prog 164 64 a x w:=a1l 164 64 a x w (by kernel_rfl)
def z164:Array Value:=#[.int .u8 0,.int .u8 0,.int .u8 0,.int .u8 0,.int .u8 0,.int .u8 0,.int .u8 0,.int .u8 0,.int .u8 0,.int .u8 0,.int .u8 0,.int .u8 0,.int .u8 0,.int .u8 0,.int .u8 0,.int .u8 0,.int .u8 0,.int .u8 0,.int .u8 0,.int .u8 0,.int .u8 0,.int .u8 0,.int .u8 0,.int .u8 0,.int .u8 0,.int .u8 0,.int .u8 0,.int .u8 0,.int .u8 0,.int .u8 0,.int .u8 0,.int .u8 0,.int .u8 0,.int .u8 0,.int .u8 0,.int .u8 0,.int .u8 0,.int .u8 0,.int .u8 0,.int .u8 0,.int .u8 0,.int .u8 0,.int .u8 0,.int .u8 0,.int .u8 0,.int .u8 0,.int .u8 0,.int .u8 0,.int .u8 0,.int .u8 0,.int .u8 0,.int .u8 0,.int .u8 0,.int .u8 0,.int .u8 0,.int .u8 0,.int .u8 0,.int .u8 0,.int .u8 0,.int .u8 0,.int .u8 0,.int .u8 0,.int .u8 0,.int .u8 0]
@[go_sem ↓] theorem al_164 (h:Bool) (old:Value):Instr.alloc 164 h old=a5w 164 h old:=rfl
@[go_sem] theorem ar_164 (w:World):(a5w 164 true (.tuple #[])).run Tryz.prog w=.ok (.pointer (some ⟨w.heap.size,0,none⟩)) (w.alloc (.cells z164 164)):=by kernel_rfl
@[go_sem] theorem zs_164:z164.size=64:=rfl
@[go_sem] theorem za_164:z164.extract 0 64=z164:=extract_all _ _ zs_164
@[go_sem] theorem zo_164:ones z164=true:=by simp [ones,z164,Value.oneCell']
attribute [irreducible] z164
@[go_sem ↓] theorem la_182 (v:Value):Instr.loadAt 182 v=a1z 182 v:=rfl
@[go_sem] theorem ld_182 (v:Value) (w:World):(a1z 182 v).run Tryz.prog w=loadRow Tryz.prog 182 64 v w:=a1r 182 64 v w _ Tryz.underlying182 rfl (by kernel_rfl)
@[go_sem ↓] theorem sa_182 (a x:Value):Instr.storeAt 182 a x=a1h 182 a x:=rfl
@[go_sem] theorem st_182 (a x:Value) (w:World):(a1h 182 a x).run Tryz.prog w=a2n Tryz.prog 182 64 a x w:=a1l 182 64 a x w (by kernel_rfl)
def z182:Array Value:=#[.int .u32 0,.int .u32 0,.int .u32 0,.int .u32 0,.int .u32 0,.int .u32 0,.int .u32 0,.int .u32 0,.int .u32 0,.int .u32 0,.int .u32 0,.int .u32 0,.int .u32 0,.int .u32 0,.int .u32 0,.int .u32 0,.int .u32 0,.int .u32 0,.int .u32 0,.int .u32 0,.int .u32 0,.int .u32 0,.int .u32 0,.int .u32 0,.int .u32 0,.int .u32 0,.int .u32 0,.int .u32 0,.int .u32 0,.int .u32 0,.int .u32 0,.int .u32 0,.int .u32 0,.int .u32 0,.int .u32 0,.int .u32 0,.int .u32 0,.int .u32 0,.int .u32 0,.int .u32 0,.int .u32 0,.int .u32 0,.int .u32 0,.int .u32 0,.int .u32 0,.int .u32 0,.int .u32 0,.int .u32 0,.int .u32 0,.int .u32 0,.int .u32 0,.int .u32 0,.int .u32 0,.int .u32 0,.int .u32 0,.int .u32 0,.int .u32 0,.int .u32 0,.int .u32 0,.int .u32 0,.int .u32 0,.int .u32 0,.int .u32 0,.int .u32 0]
@[go_sem ↓] theorem al_182 (h:Bool) (old:Value):Instr.alloc 182 h old=a5w 182 h old:=rfl
@[go_sem] theorem ar_182 (w:World):(a5w 182 true (.tuple #[])).run Tryz.prog w=.ok (.pointer (some ⟨w.heap.size,0,none⟩)) (w.alloc (.cells z182 182)):=by kernel_rfl
@[go_sem] theorem zs_182:z182.size=64:=rfl
@[go_sem] theorem za_182:z182.extract 0 64=z182:=extract_all _ _ zs_182
@[go_sem] theorem zo_182:ones z182=true:=by simp [ones,z182,Value.oneCell']
attribute [irreducible] z182
@[go_sem ↓] theorem la_192 (v:Value):Instr.loadAt 192 v=a1z 192 v:=rfl
@[go_sem] theorem ld_192 (v:Value) (w:World):(a1z 192 v).run Tryz.prog w=loadRow Tryz.prog 192 8 v w:=a1r 192 8 v w _ Tryz.underlying192 rfl (by kernel_rfl)
@[go_sem ↓] theorem sa_192 (a x:Value):Instr.storeAt 192 a x=a1h 192 a x:=rfl
@[go_sem] theorem st_192 (a x:Value) (w:World):(a1h 192 a x).run Tryz.prog w=a2n Tryz.prog 192 8 a x w:=a1l 192 8 a x w (by kernel_rfl)
@[go_sem ↓] theorem la_197 (v:Value):Instr.loadAt 197 v=a1z 197 v:=rfl
@[go_sem] theorem ld_197 (v:Value) (w:World):(a1z 197 v).run Tryz.prog w=loadRow Tryz.prog 197 8 v w:=a1r 197 8 v w _ Tryz.underlying197 rfl (by kernel_rfl)
@[go_sem ↓] theorem sa_197 (a x:Value):Instr.storeAt 197 a x=a1h 197 a x:=rfl
@[go_sem] theorem st_197 (a x:Value) (w:World):(a1h 197 a x).run Tryz.prog w=a2n Tryz.prog 197 8 a x w:=a1l 197 8 a x w (by kernel_rfl)
end Go.Proofs.YtopgdlblfieljaaGreatDoor
