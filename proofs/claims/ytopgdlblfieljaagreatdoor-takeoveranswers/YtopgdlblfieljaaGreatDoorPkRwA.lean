/-
  Letters and envelopes of a reservation as they lie in memory.
-/
import Derived.Test.YtopgdlblfieljaaGreatDoorPkLn
import Derived.Test.YtopgdlblfieljaaGreatDoorPkShp
import Derived.Test.YtopgdlblfieljaaGreatDoorPkOp
import Derived.Test.YtopgdlblfieljaaGreatDoorPkHash
import Derived.Test.YtopgdlblfieljaaGreatDoorPkKs
import Derived.Maps.AppendAt
import Derived.Laws.AppendOwn
import Derived.Deep.RegionLaw
import Derived.Test.YtopgdlblfieljaaGreatDoorPkRefB
import Derived.Test.YtopgdlblfieljaaGreatDoorPkRow
import Derived.Test.YtopgdlblfieljaaGreatDoorPkTab
import Derived.Deep.MidRow
import Derived.Test.YtopgdlblfieljaaGreatDoorPkQ
set_option linter.unusedSectionVars false
set_option linter.constructorNameAsVariable false
set_option linter.unusedVariables false
set_option linter.unusedSimpArgs false
namespace Go.Proofs.YtopgdlblfieljaaGreatDoor
open Go.RowKit Go.CE.V
set_option maxRecDepth 20000
def a5h (W:World) (v:Value) (T z n:Nat) (f:Nat→Array Value):Prop := ∃ a c,v=.slice a n c∧(n≠0→∃ b o row,a=some ⟨b,o,none⟩∧obj W b=some (.cells row T (0,0))∧∀ i,i < n→o+i * z+z≤row.size∧row.extract (o+i * z) (o+i * z+z)=f i)
theorem a5h.below {W W':World} {v:Value} {T z n:Nat} {f:Nat→Array Value} (h:a5h W v T z n f) (hb:Below W.heap.size W W'):a5h W' v T z n f:=by
 obtain ⟨a,c,h1,h2⟩:=h
 refine ⟨a,c,h1,fun hn=>?_⟩
 obtain ⟨b,o,row,e1,e2,e3⟩:=h2 hn
 exact ⟨b,o,row,e1,a00 e2 hb (a04 e2),e3⟩
theorem a5h.congr {W:World} {v:Value} {T z n:Nat} {f g:Nat→Array Value} (h:a5h W v T z n f) (he:∀ i,i < n→f i=g i):a5h W v T z n g:=by
 obtain ⟨a,c,h1,h2⟩:=h
 refine ⟨a,c,h1,fun hn=>?_⟩
 obtain ⟨b,o,row,e1,e2,e3⟩:=h2 hn
 exact ⟨b,o,row,e1,e2,fun i hi=>⟨(e3 i hi).1,(e3 i hi).2.trans (he i hi)⟩⟩
def a3b (f:Nat→Array Value) (n:Nat):List Value:=(List.range n).flatMap fun i=>(f i).toList
theorem a2z (f:Nat→Array Value) (n:Nat):a3b f (n+1)=a3b f n++(f n).toList:=by simp [a3b,List.range_succ,List.flatMap_append]
theorem a3d {f g:Nat→Array Value} {n:Nat} (he:∀ i,i < n→f i=g i):a3b f n=a3b g n:=by
 induction n with
 | zero=>rfl
 | succ n ih=>rw [a2z,a2z,ih fun i hi=>he i (by omega),he n (by omega)]
theorem a9m {f:Nat→Array Value} {z n:Nat} (hz:∀ i,i < n→(f i).size=z):(a3b f n).length=n * z:=by
 induction n with
 | zero=>simp [a3b]
 | succ n ih =>
  rw [a2z,List.length_append,ih fun i hi=>hz i (by omega),Array.length_toList,hz n (by omega),Nat.succ_mul]
theorem amh {f:Nat→Array Value} {z n:Nat} (hz:∀ i,i < n→(f i).size=z) (i:Nat) (hi:i < n) (j:Nat) (hj:j < z):(a3b f n)[i * z+j]? = (f i)[j]? := by
 induction n with
 | zero=>omega
 | succ n ih =>
  have hl:=a9m (f:=f) (z:=z) (n:=n) fun i hi=>hz i (by omega)
  rw [a2z]
  by_cases h:i < n
  ·have:i * z+z≤n * z:=by rw [← Nat.succ_mul];exact Nat.mul_le_mul_right z h
   rw [List.getElem?_append_left (by omega)]
   exact ih (fun i hi=>hz i (by omega)) h
  ·obtain rfl:i=n:=by omega
   rw [List.getElem?_append_right (by omega),hl,show i * z+j - i * z=j by omega,Array.getElem?_toList]
theorem aey {w:World} {base T z n:Nat} {v:Value} {f:Nat→Array Value} (hz:∀ i,i < n→(f i).size=z) (h:w.ownsRow base T z v n (a3b f n)):a5h w v T z n f:=by
 rcases h.2 with ⟨rfl,h0⟩ | ⟨g,c,cur,rfl,h1,h2,h3,h4,h5,h6⟩
 ·exact ⟨none,0,by rw [h0],fun hn=>absurd h0 hn⟩
 ·refine ⟨_,c,rfl,fun _=>⟨g,0,cur,rfl,h2,fun i hi=>?_⟩⟩
  have hle:i * z+z≤n * z:=by rw [← Nat.succ_mul];exact Nat.mul_le_mul_right z hi
  have hle2:n * z≤c * z:=Nat.mul_le_mul_right z h3
  refine ⟨by omega,?_⟩
  apply Array.ext_getElem?
  intro j
  rw [Array.getElem?_extract]
  by_cases hj:j < z
  ·rw [if_pos (by omega),Nat.zero_add,← amh hz i hi j hj,← h6,List.getElem?_take,if_pos (by omega),Array.getElem?_toList]
  ·rw [if_neg (by omega),Array.getElem?_eq_none (by rw [hz i hi];omega)]
def a0c:LN:=⟨0,0,0,0,0,0,0,[],[]⟩
@[go_sem] theorem b3b (x:LN) (c:Value):(LN.let x c).kind=x.kind:=rfl
@[go_sem] theorem ln_frm (x:LN) (c:Value):(LN.let x c).frm=x.frm:=rfl
@[go_sem] theorem ln_dst (x:LN) (c:Value):(LN.let x c).dst=x.dst:=rfl
@[go_sem] theorem aZj (x:LN) (c:Value):(LN.let x c).cells=c:=rfl
@[go_sem] theorem ln_ref (x:LN) (c:Value):(LN.let x c).ref=x.ref:=rfl
@[go_sem] theorem b3a (x:LN) (c:Value):(LN.let x c).num 0=x.mtg:=rfl
@[go_sem] theorem b39 (x:LN) (c:Value):(LN.let x c).num 6=x.res:=rfl
@[go_sem] theorem aZi (x:LN) (c:Value):(LN.let x c).num 11=x.dl:=rfl
@[go_sem] theorem aZh (x:LN) (c:Value):(LN.let x c).num 12=x.st:=rfl
theorem a0v {B:Nat} {W:World} {v:Value} {l:List Nat} (h:a0h B W v l):v.oneCell' = true:=by
 rcases h with ⟨_,rfl | ⟨a,c,rfl⟩⟩ | ⟨_,b,o,c,row,rfl,_⟩<;>rfl
def a4w (B:Nat) (W:World) (v:Value) (xs:List LN):Prop := ∃ cv:Nat→Value,a5h W v 48 62 xs.length (fun i=>(LN.let (xs.getD i a0c) (cv i)).row)∧∀ i,i < xs.length→a0h B W (cv i) (xs.getD i a0c).cs
theorem a4w.below {B:Nat} {W W':World} {v:Value} {xs:List LN} (h:a4w B W v xs) (hb:Below W.heap.size W W'):a4w B W' v xs:=by
 obtain ⟨cv,h1,h2⟩:=h
 exact ⟨cv,h1.below hb,fun i hi=>(h2 i hi).below hb⟩
theorem a4w.mono {B B':Nat} {W:World} {v:Value} {xs:List LN} (h:a4w B W v xs) (hb:B'≤B):a4w B' W v xs:=by
 obtain ⟨cv,h1,h2⟩:=h
 exact ⟨cv,h1,fun i hi=>(h2 i hi).mono hb⟩
theorem _root_.Go.CE.V.SlZ.low {B B':Nat} {W:World} {v:Value} {T z n:Nat} {vs:List Value} (h:SlZ B W v T z n vs) (hb:B'≤B):SlZ B' W v T z n vs:=by
 obtain ⟨b,o,c,row,h1,h0,h2⟩:=h
 exact ⟨b,o,c,row,h1,Nat.le_trans hb h0,h2⟩
def atd (i:Nat):List UInt8:=((keysL.drop (32 * i)).take 32).map UInt8.ofNat
def a7m (x:LN) (q:Nat):List UInt8:=ap3 (atd x.frm) (hdr ⟨x.frm,x.dst,q,undef,[]⟩++LN.enc x)
def a05 (x:LN) (q:Nat) (body:Value):Env:=⟨x.frm,x.dst,q,body,a7m x q⟩
def a6i (W:World) (v:Value) (ps:List (LN×Nat)):Prop := ∃ bv:Nat→Value,a5h W v 62 36 ps.length (fun i=>(a05 (ps.getD i (a0c,0)).1 (ps.getD i (a0c,0)).2 (bv i)).row)∧∀ i,i < ps.length→Sl 0 W (bv i) 5 ((LN.enc (ps.getD i (a0c,0)).1).map fun c=>B8 c.toNat)
theorem a6i.below {W W':World} {v:Value} {ps:List (LN×Nat)} (h:a6i W v ps) (hb:Below W.heap.size W W'):a6i W' v ps:=by
 obtain ⟨bv,h1,h2⟩:=h
 exact ⟨bv,h1.below hb,fun i hi=>(h2 i hi).below hb⟩
theorem a96 {B:Nat} {W W':World} {v:Value} {T:Nat} {l:List Value} {b t:Nat} {c:Array Value} {fr:Nat×Nat} (h:Sl B W v T l) (hb:obj W b=some (.cells c t fr)) (hne:T≠t) (hk:∀ x,x≠b→obj W' x=obj W x):Sl B W' v T l:=by
 obtain ⟨g,o,cc,row,h1,h2,h3,h4⟩:=h
 refine ⟨g,o,cc,row,h1,h2,(hk g fun e=>?_).trans h3,h4⟩
 subst e
 have:=(show obj W g=some _ from h3).symm.trans hb
 injection this with this
 injection this with e1 e2 e3
 exact hne e2
theorem a2m {B:Nat} {W W':World} {v:Value} {l:List Nat} {b t:Nat} {c:Array Value} {fr:Nat×Nat} (h:a0h B W v l) (hb:obj W b=some (.cells c t fr)) (hne:3≠t) (hk:∀ x,x≠b→obj W' x=obj W x):a0h B W' v l:=by
 rcases h with h | ⟨h0,h1⟩
 ·exact .inl h
 ·exact .inr ⟨h0,a96 h1 hb hne hk⟩
theorem aez {W W':World} {v:Value} {T z n:Nat} {f:Nat→Array Value} {b t:Nat} {c:Array Value} {fr:Nat×Nat} (h:a5h W v T z n f) (hb:obj W b=some (.cells c t fr)) (hne:T≠t) (hk:∀ x,x≠b→obj W' x=obj W x):a5h W' v T z n f:=by
 obtain ⟨a,cc,h1,h2⟩:=h
 refine ⟨a,cc,h1,fun hn=>?_⟩
 obtain ⟨g,o,row,e1,e2,e3⟩:=h2 hn
 refine ⟨g,o,row,e1,(hk g fun e=>?_).trans e2,e3⟩
 subst e
 have:=e2.symm.trans hb
 injection this with this
 injection this with e1 e2 e3
 exact hne e2
attribute [irreducible] atd
end Go.Proofs.YtopgdlblfieljaaGreatDoor
namespace Go.Proofs.YtopgdlblfieljaaGreatDoor
open Go.RowKit Go.CE.V
set_option maxRecDepth 20000
set_option maxHeartbeats 1000000
attribute [local irreducible] wpQuiet
def LN.to (x:LN) (d:Nat):LN:={ x with dst:=d }
def a06 (mtg org dl:Nat) (v:Value):Array Value:=#[.int .i64 mtg,.int .i64 org,.int .i64 dl,v]
theorem aFm (mtg org dl:Nat) (v:Value):(a06 mtg org dl v).size=4:=rfl
theorem aP1 (mtg org dl:Nat) (v:Value):(a06 mtg org dl v).extract 0 4=a06 mtg org dl v:=extract_all _ _ rfl
theorem atn (mtg org dl:Nat) (v:Value):(a06 mtg org dl v)[0]? = some (.int .i64 mtg):=rfl
theorem aof (mtg org dl:Nat) (v:Value):(a06 mtg org dl v)[1]? = some (.int .i64 org):=rfl
theorem aFn (mtg org dl:Nat) (v:Value):(a06 mtg org dl v)[2]? = some (.int .i64 dl):=rfl
theorem ads (mtg org dl:Nat) (v:Value):(a06 mtg org dl v)[3]? = some v:=rfl
attribute [go_sem] aFm aP1 atn aof aFn ads
attribute [irreducible] a06
def a2k (org:Nat) (x:LN):List UInt8:=a3t (LN.enc (LN.to x org))
end Go.Proofs.YtopgdlblfieljaaGreatDoor
namespace Go.Proofs.YtopgdlblfieljaaGreatDoor
open Go.RowKit Go.CE.V
set_option maxRecDepth 20000
set_option maxHeartbeats 4000000
theorem a0s {B:Nat} {W:World} {v:Value} {l:List Nat} (h:a0h B W v l):a4r W v l:=by
 rcases h with ⟨rfl,rfl | ⟨a,c,rfl⟩⟩ | ⟨h0,b,o,c,row,h1,h2,h3,h4,h5,h6⟩
 ·exact ⟨_,_,rfl,fun h=>absurd rfl h⟩
 ·exact ⟨_,_,rfl,fun h=>absurd rfl h⟩
 ·rw [List.length_map] at h1 h5
  refine ⟨_,c,h1,fun _=>⟨b,o,row,rfl,h3,fun i hi=>?_⟩⟩
  rw [h6 i (by rw [List.length_map];exact hi),List.getElem?_map,List.getElem?_eq_getElem hi,List.getD_eq_getElem?_getD,List.getElem?_eq_getElem hi]
  rfl
end Go.Proofs.YtopgdlblfieljaaGreatDoor
