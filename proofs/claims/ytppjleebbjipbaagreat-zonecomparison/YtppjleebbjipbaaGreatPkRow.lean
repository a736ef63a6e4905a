/-
  Laws of the walk for aggregates whose cells are not written out: a load, a store of a whole struct or array, as one step, by the block that it lies in.
-/
import Derived.WalkKit
import Derived.WalkSpells
import Derived.WalkLawsBesides
import Derived.Handy
import Derived.Lib.Hide
import Derived.Laws.CopyOwn
import Derived.Deep.MidRow
import Derived.Test.YtppjleebbjipbaaGreatProg
import Derived.Deep.QuietTactic
import Derived.BigQuiet
import Derived.BigRegion
import Derived.StillTailTactics
import Derived.RegionTactic
import Derived.LoopTactic
import Derived.OwnWalk
import Derived.Deep.AppendLies
import Derived.Deep.AppendSrc
set_option linter.all false
namespace Go.Proofs.YtppjleebbjipbaaGreat
open Go.RowKit
instance ivc:Coe Int Value:=⟨.int .i64⟩
instance nvc:Coe Nat Value:=⟨fun k=>.int .i64 (k:Int)⟩
theorem bR {n:Nat} {w:World}:Below n w w:=Below.refl _ _

def obj (w:World) (n:Nat):Option Obj:=w.heap[n]?
def ones (cs:Array Value):Bool:=cs.all (·.oneCell')
@[go_sem] theorem apu:ones #[]=true:=by simp [ones]
@[go_sem] theorem aob (v:Value) (l:List Value):ones (v :: l).toArray=(v.oneCell' && ones l.toArray):=by simp [ones]
@[go_sem] theorem a0n (k:IntKind) (n:Int):(Value.int k n).oneCell' = true:=rfl
@[go_sem] theorem apw (b:Bool):(Value.bool b).oneCell' = true:=rfl
@[go_sem] theorem aqn (a:Option Addr):(Value.pointer a).oneCell' = true:=rfl
@[go_sem] theorem aoc (a:Option Addr) (n c:Nat):(Value.slice a n c).oneCell' = true:=rfl
@[go_sem] theorem ani (s:ByteArray):(Value.string s).oneCell' = true:=rfl
@[go_sem] theorem apv (f:Fn) (a b:Array Value):(Value.func f a b).oneCell' = true:=rfl
@[go_sem] theorem amd:Value.nilFunc.oneCell' = true:=rfl
@[go_sem] theorem aqo (r:Option Nat):(Value.map r).oneCell' = true:=rfl
def cellsOf:Option Obj→Option (Array Value)
 | some (.cells cs _ _)=>some cs
 | _=>none
@[go_sem] theorem al1 (cs:Array Value) (T:TypeId) (fr:Nat×Nat):cellsOf (some (.cells cs T fr))=some cs:=rfl
def aft:Option Obj→Option (Array Value)
 | some (.cells cs _ (0,0))=>some cs
 | _=>none
@[go_sem] theorem alm (cs:Array Value) (T:TypeId):aft (some (.cells cs T (0,0)))=some cs:=rfl

def a0j (T:TypeId) (v:Value):Sem Value:=Instr.loadAt T v
def a0e (T:TypeId) (a x:Value):Sem Unit:=Instr.storeAt T a x
def a3d (T:TypeId) (h:Bool) (old:Value):Sem Value:=Instr.alloc T h old
def aa5 (P:Program) (T:TypeId) (v:Value) (w:World):Result Value:=(Instr.loadAt T v).run P w
def a7v (P:Program) (T:TypeId) (a x:Value) (w:World):Result Unit:=(Instr.storeAt T a x).run P w
section
variable {P:Program}
def loadRow (P:Program) (T n:Nat) (v:Value) (w:World):Result Value :=
 match v with
 | .pointer (some ⟨g,o,none⟩) =>
  (cellsOf (obj w g)).elim (aa5 P T v w) fun cs=>if o+n≤cs.size then .ok (.agg (cs.extract o (o+n))) w else aa5 P T v w
 | v=>aa5 P T v w
@[go_sem] theorem amg (T n g o:Nat) (w:World):loadRow P T n (.pointer (some ⟨g,o,none⟩)) w =
 (cellsOf (obj w g)).elim (aa5 P T (.pointer (some ⟨g,o,none⟩)) w) fun cs=>if o+n≤cs.size then .ok (.agg (cs.extract o (o+n))) w else aa5 P T (.pointer (some ⟨g,o,none⟩)) w:=rfl
theorem a0h (T:TypeId) (n:Nat) (v:Value) (w:World) (td:TypeDesc)
  (hu:P.underlying T=some td) (hd:td.isRow=true) (hi:(P.info? T).map (·.size)=some n) :
  (a0j T v).run P w=loadRow P T n v w:=by
 unfold a0j loadRow
 split
 ·rename_i g o
  rcases hb:obj w g with _ | ob
  ·rfl
  cases ob with
  | cells cs T' fr =>
   simp only [cellsOf,Option.elim_some];split
   ·rename_i hle
    have hl:(cs.toList.extract o (o+n)).length=n:=by simp;omega
    have hr:=run_loadAt_mid (P:=P) w g o T (cs.toList.extract o (o+n)) td (fun j v hv=>by
     rw [cell_of_row w g (o+j) cs T' fr hb]
     have hj:j < n:=by
      have:=(List.getElem?_eq_some_iff.1 hv).1;omega
     rw [List.extract_eq_take_drop,List.getElem?_take,if_pos (by omega),List.getElem?_drop] at hv
     simpa using hv) hu hd (by rw [hl];exact hi)
    rw [hr]
    congr 2
    apply Array.ext';simp
   ·rfl
  | _=>rfl
 rfl
def a0r (P:Program) (T n:Nat) (v x:Value) (w:World):Result Unit :=
 match v,x with
 | .pointer (some ⟨g,0,none⟩),.agg cs =>
  (aft (obj w g)).elim (a7v P T v x w) fun old=>if old.size=n∧cs.size=n∧ones cs=true then .ok () (w.setRow g cs) else a7v P T v x w
 | v,x=>a7v P T v x w
@[go_sem] theorem ale (T n g:Nat) (cs:Array Value) (w:World):a0r P T n (.pointer (some ⟨g,0,none⟩)) (.agg cs) w =
 (aft (obj w g)).elim (a7v P T (.pointer (some ⟨g,0,none⟩)) (.agg cs) w)
  fun old=>if old.size=n∧cs.size=n∧ones cs=true then .ok () (w.setRow g cs) else a7v P T (.pointer (some ⟨g,0,none⟩)) (.agg cs) w:=rfl
theorem a0f (T:TypeId) (n:Nat) (v y:Value) (w:World) (hi:(P.info? T).map (·.size)=some n) :
  (a0e T v y).run P w=a0r P T n v y w:=by
 unfold a0e a0r
 split
 ·rename_i g cs
  rcases hb:obj w g with _ | ob
  ·rfl
  unfold aft
  split
  ·rename_i old T' heq
   cases heq;simp only [Option.elim_some];split
   ·rename_i h
    obtain ⟨h1,h2,h3⟩:=h;have hr:=run_storeVar_row (P:=P) w g T' T old cs hb (by rw [h2];exact hi) (by omega) h3;simp only [Instr.storeAt,Instr.sureAddr,Sem.run_bind,Sem.run_pure,Result.andThen_ok,hr]
   rfl
  rfl
 rfl
end

section
variable (w:World)
@[go_sem] theorem a05 (o:Obj) (n:Nat) (hn:n=w.heap.size):obj (w.alloc o) n=some o:=by subst hn;exact heap_alloc_new w o
@[go_sem] theorem aaz (o:Obj) (n:Nat) (hn:n < w.heap.size):obj (w.alloc o) n=obj w n:=heap_alloc_old w o hn
@[go_sem] theorem apx (n:Nat):obj w.drew n=obj w n:=rfl
@[go_sem] theorem ahu (a:Addr) (u:Value) (n:Nat) (hn:n≠a.block):obj (w.setCell a u) n=obj w n:=heap_setCell_other w a n u hn
@[go_sem] theorem aij (g:Nat) (cs:Array Value) (n:Nat) (hn:n≠g):obj (w.setRow g cs) n=obj w n:=setRow_other w g n cs hn
def Obj.acy (cs:Array Value):Obj→Obj
 | .cells _ T fr=>.cells cs T fr
 | o=>o
@[go_sem] theorem a2g (g:Nat) (cs:Array Value):obj (w.setRow g cs) g=(obj w g).map (Obj.acy cs):=by
 simp only [obj,World.setRow,Array.getElem?_modify,if_pos]
 cases w.heap[g]? with
 | none=>rfl
 | some o=>cases o<;>rfl
def Obj.aff (i:Nat) (v:Value):Obj→Obj
 | .cells cs T fr=>.cells (cs.setIfInBounds i v) T fr
 | o=>o
@[go_sem] theorem ajv (i:Nat) (v:Value) (cs:Array Value) (T:TypeId) (fr:Nat×Nat):Obj.aff i v (.cells cs T fr)=.cells (cs.setIfInBounds i v) T fr:=rfl
@[go_sem] theorem a0c (g i:Nat) (v:Value):obj (w.setCell ⟨g,i,none⟩ v) g=(obj w g).map (Obj.aff i v):=by
 simp only [obj,World.setCell,Array.getElem?_modify,if_pos]
 cases w.heap[g]? with
 | none=>rfl
 | some o=>cases o<;>rfl
@[go_sem] theorem ai0 (cs old:Array Value) (T:TypeId) (fr:Nat×Nat):Obj.acy cs (.cells old T fr)=.cells cs T fr:=rfl
@[go_sem] theorem ai5 (old cs:Array Value) (T:TypeId) (fr:Nat×Nat) (n:Nat) (hn:n=w.heap.size):(w.alloc (.cells old T fr)).setRow n cs=w.alloc (.cells cs T fr):=by
 subst hn
 unfold World.setRow World.alloc
 congr 1
 apply Array.ext
 ·simp
 intro k h1 h2
 simp only [Array.getElem_modify,Array.getElem_push]
 split
 ·rename_i hk;subst hk;simp
 rename_i hk
 have:k < w.heap.size:=by simp at h2;omega
 simp [this]
@[go_sem] theorem ags (o:Obj) (cs:Array Value) (n:Nat) (hn:n < w.heap.size):(w.alloc o).setRow n cs=(w.setRow n cs).alloc o:=by
 unfold World.setRow World.alloc
 congr 1
 apply Array.ext
 ·simp
 intro k h1 h2
 simp only [Array.getElem_modify,Array.getElem_push,Array.size_modify]
 split
 ·rename_i hk;subst hk;simp [hn]
 rfl
@[go_sem] theorem am8 (n:Nat) (cs:Array Value):w.drew.setRow n cs=(w.setRow n cs).drew:=rfl
@[go_sem] theorem ajz (g j:Nat) (cs:Array Value):(w.setRow g cs).cell? ⟨g,j,none⟩=(cellsOf (obj w g)).bind fun _=>cs[j]? := by
 unfold World.cell?
 change (match obj (w.setRow g cs) g with | some (.cells c _ _)=>if (none:Option Nat).isSome then none else c[j]? | _=>none)=_
 rw [a2g]
 cases obj w g with
 | none=>rfl
 | some o=>cases o<;>rfl
@[go_sem] theorem ahv (g n j:Nat) (cs:Array Value) (h:n≠g):(w.setRow g cs).cell? ⟨n,j,none⟩=w.cell? ⟨n,j,none⟩:=cell_setRow_other w g cs ⟨n,j,none⟩ h
@[go_sem] theorem akw (g:Nat) (cs:Array Value) (a:Addr):(w.setRow g cs).frozen? a=w.frozen? a:=by
 unfold World.frozen?
 by_cases h:a.block=g
 ·subst h
  change (match obj (w.setRow a.block cs) a.block with | some (.cells _ _ (lo,hi))=>lo≤a.off&&a.off < hi | _=>false)=(match obj w a.block with | some (.cells _ _ (lo,hi))=>lo≤a.off&&a.off < hi | _=>false)
  rw [a2g]
  cases obj w a.block with
  | none=>rfl
  | some o=>cases o<;>rfl
 rw [setRow_other w g _ cs h]
end
theorem a04 {B g:Nat} {w w':World} {o:Obj} (h:obj w g=some o) (hb:Below B w w') (hg:g < B):obj w' g=some o:=(hb.block g hg).trans h
theorem a06 {g:Nat} {w:World} {o:Obj} (h:obj w g=some o) (o':Obj):obj (w.alloc o') g=some o:=(aaz w o' g (Array.getElem?_eq_some_iff.1 h).1).trans h
theorem a2q {g n:Nat} {w:World} {o:Obj} (h:obj w g=some o) (hn:g≠n) (cs:Array Value):obj (w.setRow n cs) g=some o:=(setRow_other w n g cs hn).trans h
theorem a07 {g:Nat} {w:World} {o:Obj} (h:obj w g=some o) (a:Addr) (hn:g≠a.block) (v:Value):obj (w.setCell a v) g=some o:=(heap_setCell_other w a g v hn).trans h
theorem ahb {g:Nat} {w w':World} {o:Obj} {r:Option Nat} (h:obj w g=some o) (hg:w.grownBy w' r) (hn:some g≠r):obj w' g=some o:=(hg.block g (Array.getElem?_eq_some_iff.1 h).1 hn).trans h
theorem a09 {g:Nat} {w:World} {o:Obj} (h:obj w g=some o):g < w.heap.size:=(Array.getElem?_eq_some_iff.1 h).1
theorem a02 {g:Nat} {w:World} {cs:Array Value} {T:TypeId} {fr:Nat×Nat} (h:obj w g=some (.cells cs T fr)):∀ j,w.cell? ⟨g,j,none⟩=cs[j]? := fun j=>cell_of_row w g j cs T fr h
theorem a0d {g:Nat} {w:World} {cs:Array Value} {T:TypeId} (h:obj w g=some (.cells cs T (0,0))):∀ j,w.frozen? ⟨g,j,none⟩=false:=fun j=>frozen_of_row w g j cs T h
theorem extract_all (cs:Array Value) (n:Nat) (h:cs.size=n):cs.extract 0 n=cs:=by subst h;simp
end Go.Proofs.YtppjleebbjipbaaGreat
namespace Go.Proofs.YtppjleebbjipbaaGreat
open Go.RowKit
def anf (W:World) (v:Value) (l:List Int):Prop := ∃ ao c,v=.slice ao l.length c∧(ao=none→l = []∧c=0)∧∀ g off x,ao=some ⟨g,off,x⟩→x=none∧l.length≤c∧g < W.heap.size∧∀ j,j < l.length→W.cell? ⟨g,off+j,none⟩=some (.int .i64 (l.getD j 0))
theorem anf.below {W W':World} {v:Value} {l:List Int} (h:anf W v l) (hB:Below W.heap.size W W'):anf W' v l:=by
 obtain ⟨ao,c,h1,h2,h3⟩:=h
 refine ⟨ao,c,h1,h2,fun g off x hx=>?_⟩
 obtain ⟨q1,q2,q3,q4⟩:=h3 g off x hx
 exact ⟨q1,q2,Nat.lt_of_lt_of_le q3 hB.size,fun j hj=>(hB.cell (p:=⟨g,off+j,none⟩) q3).trans (q4 j hj)⟩
theorem anf.one {W:World} {v:Value} {l:List Int} (h:anf W v l):v.oneCell' = true:=by
 obtain ⟨ao,c,rfl,_⟩:=h;rfl
theorem anf.nil (W:World):anf W (.slice none 0 0) []:=⟨none,0,rfl,fun _=>⟨rfl,rfl⟩,fun _ _ _ h=>by cases h⟩
end Go.Proofs.YtppjleebbjipbaaGreat
