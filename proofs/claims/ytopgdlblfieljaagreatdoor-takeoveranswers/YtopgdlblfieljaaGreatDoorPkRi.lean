/-
  Contracts of the reference's Hold and Refuse; of a reservation's numbers.
-/
import Derived.Test.YtopgdlblfieljaaGreatDoorPkRz
import Derived.Test.YtopgdlblfieljaaGreatDoorPkRefE
import Derived.Test.YtopgdlblfieljaaGreatDoorPkLz
import Derived.Test.YtopgdlblfieljaaGreatDoorPkRwA
import Derived.Test.YtopgdlblfieljaaGreatDoorPkRefB
import Derived.Test.YtopgdlblfieljaaGreatDoorPkRow
import Derived.Test.YtopgdlblfieljaaGreatDoorPkOp
import Derived.Test.YtopgdlblfieljaaGreatDoorPkHash
import Derived.Deep.MidRow
import Derived.Deep.RegionLaw
import Derived.Deep.AppendLies
set_option linter.unusedSectionVars false
set_option linter.constructorNameAsVariable false
set_option linter.unusedVariables false
set_option linter.unusedSimpArgs false
namespace Go.CE
namespace V
open Go.Proofs Go.Proofs.YtopgdlblfieljaaGreatDoor Go.RowKit
set_option maxRecDepth 100000
theorem tup3 [Sym] {τ:Sg} {t:FV} {u:Value} (h:VR τ (a2t (.t t 3)) u) : ∃ v0 v1 v2,u=.tuple #[v0,v1,v2]∧VR τ (aa5 (a1d (p4 0) t)) v0∧VR τ (aa5 (a1d (p4 1) t)) v1∧VR τ (aa5 (a1d (p4 2) t)) v2:=by
 have ha:a2t (FV.t t 3)=.t [aa5 (a1d (p4 0) t),aa5 (a1d (p4 1) t),aa5 (a1d (p4 2) t)]:=rfl
 rw [ha] at h
 obtain ⟨cc,rfl,hcc⟩:=h.aPs
 obtain ⟨v0,e0,hv0⟩:=hcc.at (i:=0) rfl
 obtain ⟨v1,e1,hv1⟩:=hcc.at (i:=1) rfl
 obtain ⟨v2,e2,hv2⟩:=hcc.at (i:=2) rfl
 refine ⟨v0,v1,v2,?_,hv0,hv1,hv2⟩
 have hs:cc.size=3:=hcc.len.symm
 congr 1
 apply Array.ext
 ·simpa using hs
 ·intro i h3 h4
  rcases (show i=0∨i=1∨i=2 by omega) with rfl | rfl | rfl
  ·simpa using (Array.getElem?_eq_some_iff.1 e0).2
  ·simpa using (Array.getElem?_eq_some_iff.1 e1).2
  ·simpa using (Array.getElem?_eq_some_iff.1 e2).2
theorem aSs [Sym] {τ:Sg} {t:FV} {u:Value} (h:VR τ (a2t (.t t 2)) u) : ∃ v0 v1,u=.tuple #[v0,v1]∧VR τ (aa5 (a1d (p4 0) t)) v0∧VR τ (aa5 (a1d (p4 1) t)) v1:=by
 have ha:a2t (FV.t t 2)=.t [aa5 (a1d (p4 0) t),aa5 (a1d (p4 1) t)]:=rfl
 rw [ha] at h
 obtain ⟨cc,rfl,hcc⟩:=h.aPs
 obtain ⟨v0,e0,hv0⟩:=hcc.at (i:=0) rfl
 obtain ⟨v1,e1,hv1⟩:=hcc.at (i:=1) rfl
 refine ⟨v0,v1,?_,hv0,hv1⟩
 have hs:cc.size=2:=hcc.len.symm
 congr 1
 apply Array.ext
 ·simpa using hs
 ·intro i h3 h4
  rcases (show i=0∨i=1 by omega) with rfl | rfl
  ·simpa using (Array.getElem?_eq_some_iff.1 e0).2
  ·simpa using (Array.getElem?_eq_some_iff.1 e1).2
theorem aBb [Sym] {τ:Sg} {x:FV} {k:IntKind} {n:Nat} {u:Value} (h:avB (a6g x) (.i k (.ofNat n))=true) (ha:aa5 x=a6g x) (hv:VR τ (aa5 x) u):u=.int k n:=by
 rw [ha,agb h] at hv
 cases hv
 rfl
theorem anc {x:FV} {k:IntKind} {n:Nat} (h:avB (a6g x) (.i k (.ofNat n))=true):aa5 x=a6g x:=by
 have:=agb h
 cases x<;>first | rfl | (simp [a6g] at this)
end V
end Go.CE
namespace Go.Proofs.YtopgdlblfieljaaGreatDoor
open Go.RowKit Go.CE.V
set_option maxRecDepth 20000
set_option maxHeartbeats 8000000
attribute [local irreducible] wpQuiet
def a1b (k f t b:Nat):Array Value:=#[.int .u8 k,.int .u8 f,.int .u8 t,.int .u8 b]
structure YP (own:List Nat) (k b:Nat) (y:LN):Prop where
 ok:y.Ok
 f5:y.frm < 5
 d5:y.dst < 5
 dls:y.dl≤1000
 kd:9≤y.kind
 k12:y.kind≤12
 mtg:b=0→y.mtg=4
 ref:b=0→k % 6=2→y.kind=10∧y.frm∈own∧y.cs=own
theorem as9 {W:World} {c:Value} {l:List Nat} (h:a0h 0 W c l) (h0:l≠[]) : ∃ bb bo bc aZy,c=.slice (some ⟨bb,bo,none⟩) l.length bc∧obj W bb=some (.cells aZy 3 (0,0))∧l.length≤bc∧∀ i,i < l.length→aZy[bo+i]? = some (.int .i64 (l.getD i 0:Nat)):=by
 rcases h with ⟨e,_⟩ | ⟨_,b,o,c,row,h1,h2,h3,h4,h5,h6⟩
 ·exact absurd e h0
 ·rw [List.length_map] at h1 h5 h6
  refine ⟨b,o,c,row,h1,h3,h5,fun i hi=>?_⟩
  rw [h6 i hi,List.getElem?_map,List.getElem?_eq_getElem hi,List.getD_eq_getElem?_getD,List.getElem?_eq_getElem hi]
  rfl
end Go.Proofs.YtopgdlblfieljaaGreatDoor
namespace Go.CE
namespace V
open Go.Proofs Go.Proofs.YtopgdlblfieljaaGreatDoor Go.RowKit
set_option maxRecDepth 100000
noncomputable def ark (own:List Nat) (v:FV) (f:QW):Bool:=match v with
 | .s q k o n _=>gw k&&Nat.beq n own.length&&atv (akd 3 (getM q f.m) o n) (agl own)
 | _=>false
theorem axz {own:List Nat} {v:FV} {f':QW} {B:Nat} {τ:Sg} {s':CE.St} {W':World} {u:Value} (h:ark own v f' = true) (h0:own≠[]) (hok:a4l v) (hrs:@RS 2048 s' f') (hsr:@SR S00 Tryz.prog B τ s'.mem W') (hv:@VR S00 τ (a6g v) u):a0h 0 W' u own:=by
 letI:Sym:=S00
 haveI hok':a0n:=a5k
 unfold ark at h
 split at h
 ·rename_i q k o n c
  simp only [Bool.and_eq_true] at h
  obtain ⟨⟨h1,h2⟩,h3⟩:=h
  have h2:=Nat.eq_of_beq_eq_true h2
  unfold atv at h3
  split at h3
  ·rename_i mm hb2
   obtain rfl:=a6h h3
   have:=awu (B:=B) (l:=agl own) a4k hrs hsr hok h1 (h2.trans (List.length_map _).symm) hb2 (af9 own) hv
   rw [a9e] at this
   exact .inr ⟨h0,this⟩
  ·cases h3
 ·cases h
end V
end Go.CE
namespace Go.CE
namespace V
open Go.Proofs Go.Proofs.YtopgdlblfieljaaGreatDoor Go.RowKit
noncomputable def fs1:QW:=⟨adx (p4 0) (.cells (a0r (Sha.K.map aq4)) 64 182) .e,1024,2048,[],[]⟩
section
variable [Sym] [a0n]
noncomputable def mem1:Tr AB:=Tr.set .e 0 (some (.cells (Sha.K.map aq4) 182))
theorem abr (j:Nat):mem1.get j=if j=0 then some (.cells (Sha.K.map aq4) 182) else none:=by
 unfold mem1
 rw [Tr.a0u]
 by_cases h:j=0
 ·rw [if_pos h,if_pos h]
 ·rw [if_neg h,if_neg h,Tr.amb]
theorem rs1:RS 2048 ⟨mem1,1024,[],[]⟩ fs1:=by
 refine ⟨rfl,rfl,Nat.le_refl _,(fun e h=>by cases h),(fun e h=>by cases h),fun k=>?_,(fun e h=>by cases h),(fun e h=>by cases h),fun k x h=>?_⟩
 ·show RB (mem1.get k) (getM (p4 k) (adx (p4 0) (.cells (a0r (Sha.K.map aq4)) 64 182) .e))
  rw [abr]
  by_cases hk:k=0
  ·subst hk
   rw [if_pos rfl,ars]
   have hc:=a1g (Sha.K.map aq4) (by rfl)
   have h64:(Sha.K.map aq4).length=64:=rfl
   rw [h64] at hc
   have hb:=RB.cells (a0r (Sha.K.map aq4)) 64 182 hc.2
   rwa [show a07 (a0r (Sha.K.map aq4)) 0 64=Sha.K.map aq4 from hc.1] at hb
  ·rw [if_neg hk,afu _ _ _ _ (aFo hk),adg]
   exact .no
 ·rw [abr] at h
  by_cases hk:k=0
  ·subst hk;show 0 < 2 * 1024;omega
  ·rw [if_neg hk] at h;cases h
def ase (W:World):Prop := ∃ c:Array Value,W.heap[0]? = some (.cells c 182 (0,0))∧c.size=64∧∀ i,i < 64→c[i]? = some (B32 (Sha.K.getD i 0))
theorem sr1 {W:World} (h:ase W):SR P W.heap.size gsg mem1 W:=by
 obtain ⟨c,h1,h2,h3⟩:=h
 refine ⟨fun j x hj=>?_,fun i j p1 p2 hi hj _ _ _=>?_,fun j q hj hro=>?_,Nat.le_refl _⟩
 ·rw [abr] at hj
  by_cases hk:j=0
  ·subst hk
   rw [if_pos rfl] at hj;cases hj
   obtain ⟨z,s,hg⟩:=a8t 0 (by omega)
   refine ⟨_,_,hg,h1,c,rfl,(fun _=>⟨rfl,h2⟩),(fun h=>by cases h),(by rw [h2];exact Nat.le_refl _),fun i x v e1 e2=>?_⟩
   have hi:i < 64:=by
    have:=(List.getElem?_eq_some_iff.1 e1).1
    exact this
   rw [Nat.zero_add,h3 i hi] at e2
   rw [List.getElem?_map] at e1
   have hK:Sha.K.length=64:=rfl
   rw [List.getD_eq_getElem?_getD] at e2
   rw [List.getElem?_eq_getElem (by omega)] at e1 e2
   rw [← Option.some.inj e1,← Option.some.inj e2]
   exact .i _ _
  ·rw [if_neg hk] at hj;cases hj
 ·rw [abr] at hi hj
  by_cases h:i=0
  ·by_cases h':j=0
   ·omega
   ·rw [if_neg h'] at hj;exact absurd rfl hj
  ·rw [if_neg h] at hi;exact absurd rfl hi
 ·have:=ai1 hj
  have:roB=2048:=rfl
  omega
end
@[reducible] def S0:Sym:={ val:=fun _=>0,bin:=fun _ _ _ _ _=>none,cv:=fun _ _=>none }
theorem aMp:@a0n S0:=a5k
end V
end Go.CE
namespace Go.CE
namespace V
open Go.Proofs Go.Proofs.YtopgdlblfieljaaGreatDoor Go.RowKit
set_option maxRecDepth 100000
noncomputable def fsT (l:List Nat):QW:=⟨adx (p4 1025) (.cells (a0r (agl l)) (agl l).length 3) (adx (p4 0) (.cells (a0r (Sha.K.map aq4)) 64 182) .e),1024,2048,[],[]⟩
theorem aqu {l:List Nat} (h0:l≠[]) {B:Nat} {W:World} {v:Value} (hT:ase W) (hv:a0h B W v l) : ∃ σ m,GS σ∧(∀ j,2048≤j→σ j=none)∧@SR S00 P W.heap.size σ m W∧@RS 2048 ⟨m,1024,[],[]⟩ (fsT l)∧@VR S00 σ (aj1 l) v:=by
 letI:Sym:=S00
 haveI hok:a0n:=a5k
 rcases hv with ⟨e,_⟩ | ⟨_,hs⟩
 ·exact absurd e h0
 ·rw [← a9e l] at hs
  have hs':=hs
  obtain ⟨b',o',c',row',e1,_,e2,_⟩:=hs'
  obtain ⟨q,h1,h2⟩:=@aks S00 hok P W.heap.size B gsg mem1 W 3 (agl l) v 1025 a4k (@sr1 S00 hok W hT) hs (af9 l) (a2a (by omega)) (by omega) rfl (fun b o n c hvv j p hj hp hpb=>by
   rw [abr] at hj
   by_cases hj0:j=0
   ·subst hj0
    have hp0:p.b=0:=by cases hp;rfl
    rw [e1] at hvv
    injection hvv with hvv
    injection hvv with hvv
    injection hvv with hb
    obtain ⟨c0,t1,_⟩:=hT
    rw [hp0] at hpb
    rw [hb,← hpb,t1] at e2
    injection e2 with e2
    injection e2 with _ e2
    revert e2
    decide
   ·rw [if_neg hj0] at hj
    exact hj rfl)
  refine ⟨gsg.add 1025 q,_,a8t.mono (Sg.a6v (a2a (by omega))),fun j hj=>a2w (by omega) (a2a (by omega)),h1,@al1 S00 hok mem1 _ (@rs1 S00 hok) 1025 3 (agl l) (by omega) (ay0 l),?_⟩
  rw [show (agl l).length=l.length from List.length_map _] at h2
  exact h2
end V
end Go.CE
namespace Go.Proofs.YtopgdlblfieljaaGreatDoor
open Go.RowKit Go.CE.V
set_option maxRecDepth 20000
set_option maxHeartbeats 4000000
attribute [local irreducible] wpQuiet
def ava (x:LN):Prop:=∀ q,1≤q→q≤1000000→LOk x q
theorem YP.any {own:List Nat} {k b:Nat} {y:LN} (h:YP own k b y):ava y:=fun q h1 h2=>by
 have hk:=h.kd
 have hk2:=h.k12
 have hr:=h.ok.ref
 have hl:=h.ok.len
 have he:0 < (LN.enc y).length∧(LN.enc y).length≤1048576:=by
  rcases (show y.kind=9∨y.kind=10∨y.kind=11∨y.kind=12 by omega) with e | e | e | e<;>(unfold LN.enc;rw [e];simp [LN.hd,a2y,cl8,hr];try omega)
 exact ⟨h.ok,fun e=>by omega,h.f5,h.d5,⟨h1,h2⟩,he.1,he.2,by have:=h.dls;omega⟩
theorem a1w {w w':World} {g:Nat} {x:Obj} (h:obj w g=some x) (hb:Below w.heap.size w w'):obj w' g=some x:=a00 h hb (a04 h)
end Go.Proofs.YtopgdlblfieljaaGreatDoor
namespace Go.Proofs.YtopgdlblfieljaaGreatDoor
open Go.RowKit Go.CE.V Go.Rv
set_option maxRecDepth 20000
set_option maxHeartbeats 4000000
attribute [local irreducible] wpQuiet
theorem ane.keep {W W':World} {row c:Array Value} {me mtg org dl b t:Nat} {fr:Nat×Nat} {own:List Nat} {ph:Nat} {ps:List (LN×Nat)} (h:ane W row me mtg org dl own ph ps) (hb:obj W b=some (.cells c t fr)) (h1:3≠t) (h2:62≠t) (h3:5≠t) (hk:∀ x,x≠b→obj W' x=obj W x):ane W' row me mtg org dl own ph ps:=by
 obtain ⟨⟨ov,pv,e,q1,bv,q2,q3⟩,q4,q5⟩:=h
 exact ⟨⟨ov,pv,e,a2m q1 hb h1 hk,bv,aez q2 hb h2 hk,fun i hi=>a96 (q3 i hi) hb h3 hk⟩,q4,q5⟩
def aMr (W:World) (me:Nat) (own:List Nat) (ph:Nat) (ps:List (LN×Nat)) (x:LN) (a4m:Array Value) (n2:Nat):Prop :=
 (n2=0∧∃ ph' ps',ane W a4m me 4 0 90 own ph' ps'∧ps'.length≤ps.length+1∧(a2s 4 0 90 own).admit ⟨ph,ps.map (·.1)⟩ x=0∧(a2s 4 0 90 own).step ⟨ph,ps.map (·.1)⟩ x=⟨ph',ps'.map (·.1)⟩)∨(n2≠0∧(a2s 4 0 90 own).admit ⟨ph,ps.map (·.1)⟩ x≠0∧(a2s 4 0 90 own).step ⟨ph,ps.map (·.1)⟩ x=⟨ph,ps.map (·.1)⟩)
theorem aMr.below {W W':World} {me:Nat} {own:List Nat} {ph:Nat} {ps:List (LN×Nat)} {x:LN} {a4m:Array Value} {n2:Nat} (h:aMr W me own ph ps x a4m n2) (hb:Below W.heap.size W W'):aMr W' me own ph ps x a4m n2:=by
 rcases h with ⟨e,ph',ps',h1,h2⟩ | h
 ·exact .inl ⟨e,ph',ps',h1.below hb,h2⟩
 ·exact .inr h
theorem aMr.keep {W W':World} {me b t:Nat} {c:Array Value} {fr:Nat×Nat} {own:List Nat} {ph:Nat} {ps:List (LN×Nat)} {x:LN} {a4m:Array Value} {n2:Nat} (h:aMr W me own ph ps x a4m n2) (hb:obj W b=some (.cells c t fr)) (h1:3≠t) (h2:62≠t) (h3:5≠t) (hk:∀ x,x≠b→obj W' x=obj W x):aMr W' me own ph ps x a4m n2:=by
 rcases h with ⟨e,ph',ps',q1,q2⟩ | h
 ·exact .inl ⟨e,ph',ps',q1.keep hb h1 h2 h3 hk,q2⟩
 ·exact .inr h
end Go.Proofs.YtopgdlblfieljaaGreatDoor
namespace Go.Proofs.YtopgdlblfieljaaGreatDoor
open Go.RowKit Go.CE.V Go.Rv
set_option maxRecDepth 20000
set_option maxHeartbeats 4000000
attribute [local irreducible] wpQuiet
@[go_sem] theorem aZw (w:World):(ak0 30 0 #[]).run Tryz.prog w=.ok (.slice (some ⟨w.heap.size,0,none⟩) 0 0) (w.alloc (.cells #[] 48)):=by kernel_rfl
def aRg (W:World) (v:Value) (m:Nat):Prop := ∃ (g:Nat→Nat×Nat×Nat×Nat) (ao:Option Addr) (c:Nat),v=.slice ao m c∧(m≠0→∃ b o row T fr,ao=some ⟨b,o,none⟩∧obj W b=some (.cells row T fr)∧∀ i,i < m→o+i * 4+4≤row.size∧row.extract (o+i * 4) (o+i * 4+4)=a1b (g i).1 (g i).2.1 (g i).2.2.1 (g i).2.2.2)∧∀ i,i < m→(g i).1 < 256∧(g i).2.1 < 256∧(g i).2.2.1 < 256∧(g i).2.2.2 < 256
theorem aRg.below {W W':World} {v:Value} {m:Nat} (h:aRg W v m) (hb:Below W.heap.size W W'):aRg W' v m:=by
 obtain ⟨g,ao,c,h1,h2,h3⟩:=h
 refine ⟨g,ao,c,h1,fun hm=>?_,h3⟩
 obtain ⟨b,o,row,T,fr,e1,e2,e3⟩:=h2 hm
 exact ⟨b,o,row,T,fr,e1,a1w e2 hb,e3⟩
end Go.Proofs.YtopgdlblfieljaaGreatDoor
namespace Go.Proofs.YtopgdlblfieljaaGreatDoor
open Go.RowKit Go.CE.V Go.Rv
set_option maxRecDepth 20000
set_option maxHeartbeats 4000000
attribute [local irreducible] wpQuiet
theorem _root_.Go.CE.V.ase.below {W W':World} (h:ase W) (hb:Below W.heap.size W W'):ase W':=by
 obtain ⟨c,h1,h2,h3⟩:=h
 exact ⟨c,(hb.block 0 (a04 (show obj W 0=some _ from h1))).trans h1,h2,h3⟩
end Go.Proofs.YtopgdlblfieljaaGreatDoor
