/-
  Inquire of both sides, reckoned by the kernel.
-/
import Derived.Test.YtopgdlblfieljaaGreatDoorPkTkx
import Derived.Test.YtopgdlblfieljaaGreatDoorPkTks
set_option linter.unusedSectionVars false
set_option linter.constructorNameAsVariable false
set_option linter.unusedVariables false
set_option linter.unusedSimpArgs false
namespace Go.CE
namespace V
open Go.Proofs Go.Proofs.YtopgdlblfieljaaGreatDoor Go.RowKit
set_option maxRecDepth 100000
section
variable [Sym] [a0n]
end
def othL (me:Nat) (l:List Nat):List Nat:=l.filter fun n=>n != me
end V
end Go.CE
namespace Go.Proofs.YtopgdlblfieljaaGreatDoor
open Go.RowKit Go.CE.V
set_option maxRecDepth 20000
set_option maxHeartbeats 4000000
def sayRow (k f t b:Nat):Array Value:=#[.int .u8 k,.int .u8 f,.int .u8 t,.int .u8 b]
def SaysV (W:World) (v:Value) (m:Nat):Prop := ∃ (g:Nat→Nat×Nat×Nat×Nat) (ao:Option Addr) (c:Nat),v=.slice ao m c∧(m≠0→∃ b o row T fr,ao=some ⟨b,o,none⟩∧obj W b=some (.cells row T fr)∧∀ i,i < m→o+i * 4+4≤row.size∧row.extract (o+i * 4) (o+i * 4+4)=sayRow (g i).1 (g i).2.1 (g i).2.2.1 (g i).2.2.2)∧∀ i,i < m→(g i).1 < 256∧(g i).2.1 < 256∧(g i).2.2.1 < 256∧(g i).2.2.2 < 256
def LsT (B:Nat) (W:World) (v ov:Value) (ys:List LN):Prop := ∃ cv:Nat→Value,W.ownsRow B 48 62 v ys.length (a3b (fun i=>(LN.let (ys.getD i a0c) (cv i)).row) ys.length)∧∀ i,i < ys.length→LetB (ys.getD i a0c)∧a0h 0 W (cv i) (ys.getD i a0c).cs∧(Apart (cv i) ov∨cv i=ov)
theorem LsT.below {B:Nat} {W W':World} {v ov:Value} {ys:List LN} (h:LsT B W v ov ys) (hb:Below W.heap.size W W'):LsT B W' v ov ys:=by
 obtain ⟨cv,h1,h2⟩:=h
 exact ⟨cv,a4i h1 hb,fun i hi=>⟨(h2 i hi).1,(h2 i hi).2.1.below hb,(h2 i hi).2.2⟩⟩
theorem LsT.lets {B:Nat} {W:World} {v ov:Value} {ys:List LN} (h:LsT B W v ov ys):LetsT W v ov ys:=by
 obtain ⟨cv,h1,h2⟩:=h
 exact ⟨cv,aey (fun i hi=>a0e _ (h2 i hi).1.1.ref) h1,fun i hi=>(h2 i hi).2⟩
theorem LsT.all {B:Nat} {W:World} {v ov:Value} {ys:List LN} (h:LsT B W v ov ys):∀ i,i < ys.length→LetB (ys.getD i a0c):=by
 obtain ⟨cv,h1,h2⟩:=h
 exact fun i hi=>(h2 i hi).1
theorem LsT.nil {B:Nat} {W:World} {g:Nat} (hb:B≤W.heap.size) (hg:g=W.heap.size) (ov:Value):LsT B (W.alloc (.cells #[] 48)) (.slice (some ⟨g,0,none⟩) 0 0) ov []:=⟨fun _=>undef,owns_emp hb hg,fun i hi=>absurd hi (Nat.not_lt_zero i)⟩
theorem LsT.push {B:Nat} {W W':World} {v v' ov:Value} {ys:List LN} {x:LN} {c:Value} {cv:Nat→Value} (e1:W.ownsRow B 48 62 v ys.length (a3b (fun i=>(LN.let (ys.getD i a0c) (cv i)).row) ys.length)) (e2:∀ i,i < ys.length→LetB (ys.getD i a0c)∧a0h 0 W (cv i) (ys.getD i a0c).cs∧(Apart (cv i) ov∨cv i=ov)) (hg:W.grownBy W' v.ownBlock) (hx:LetB x) (hc:a0h 0 W c x.cs) (ha:Apart c ov∨c=ov)
  (e3:W'.ownsRow B 48 62 v' (ys.length+1) (a3b (fun i=>(LN.let (ys.getD i a0c) (cv i)).row) ys.length++(LN.let x c).row.toList)):LsT B W' v' ov (ys ++ [x]):=by
 have hlen:(ys ++ [x]).length=ys.length+1:=by simp
 refine ⟨fun j=>if j=ys.length then c else cv j,?_,fun i hi=>?_⟩
 ·rw [hlen,a2z]
  have ea:a3b (fun i=>(LN.let ((ys ++ [x]).getD i a0c) (if i=ys.length then c else cv i)).row) ys.length=a3b (fun i=>(LN.let (ys.getD i a0c) (cv i)).row) ys.length:=a3d fun i hi=>by rw [a6x hi,if_neg (by omega)]
  have eb:(LN.let ((ys ++ [x]).getD ys.length a0c) (if ys.length=ys.length then c else cv ys.length)).row=(LN.let x c).row:=by rw [a6y,if_pos rfl]
  rw [ea,eb]
  exact e3
 ·rw [hlen] at hi
  by_cases hi2:i=ys.length
  ·subst hi2
   dsimp only
   rw [a6y,if_pos rfl]
   exact ⟨hx,a3e e1 hc (by decide) hg,ha⟩
  ·dsimp only
   rw [a6x (by omega),if_neg hi2]
   exact ⟨(e2 i (by omega)).1,a3e e1 (e2 i (by omega)).2.1 (by decide) hg,(e2 i (by omega)).2.2⟩
theorem objT_grown {w w':World} {base T T' z g:Nat} {v:Value} {n:Nat} {xs:List Value} {r:Array Value} {fr:Nat×Nat} (hown:w.ownsRow base T z v n xs) (h:obj w g=some (.cells r T' fr)) (hne:T≠T') (hg:w.grownBy w' v.ownBlock):obj w' g=some (.cells r T' fr):=by
 refine a0w h hg fun e=>?_
 rcases hown.2 with ⟨rfl,_⟩ | ⟨q,c,cur,rfl,_,q2,_⟩
 ·cases e
 ·cases e
  have:=(show obj w _=some _ from q2).symm.trans h
  injection this with q2
  injection q2 with _ q3 _
  exact hne q3
end Go.Proofs.YtopgdlblfieljaaGreatDoor
