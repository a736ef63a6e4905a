/-
  What sanity does: reckoned by the kernel over the quick evaluator, and what that says of the program.
-/
import Derived.Test.YtopgdlblfieljaaGreatDoorPkSk
import Derived.Test.YtopgdlblfieljaaGreatDoorPkTki
import Derived.WalkKit
import Derived.ProofKit
import Derived.OpenShut
import Derived.Carry
import Derived.Deep.DeepHandedRow
import Derived.Deep.Slices
set_option linter.unusedSectionVars false
set_option linter.constructorNameAsVariable false
set_option linter.unusedVariables false
set_option linter.unusedSimpArgs false
namespace Go.CE
namespace V
open Go.Proofs Go.Proofs.YtopgdlblfieljaaGreatDoor Go.RowKit
noncomputable def fs1k:QW:=⟨adx (p4 0) (.cells (a0r (Sha.K.map aq4)) 64 182) .e,1024,2048,[],[]⟩
def isTk (r:Ans):Bool:=match r with
 | some (.b true,_)=>true
 | _=>false
theorem isT_ofk {r:Ans} (h:isTk r=true) : ∃ f,r=some (.b true,f):=by
 unfold isTk at h
 split at h
 ·exact ⟨_,rfl⟩
 ·cases h
section
variable [Sym] [a0n]
noncomputable def mem1k:Tr AB:=Tr.set .e 0 (some (.cells (Sha.K.map aq4) 182))
theorem mem1_getk (j:Nat):mem1k.get j=if j=0 then some (.cells (Sha.K.map aq4) 182) else none:=by
 unfold mem1k
 rw [Tr.a0u]
 by_cases h:j=0
 ·rw [if_pos h,if_pos h]
 ·rw [if_neg h,if_neg h,Tr.amb]
theorem rs1k:RS 2048 ⟨mem1k,1024,[],[]⟩ fs1k:=by
 refine ⟨rfl,rfl,Nat.le_refl _,(fun e h=>by cases h),(fun e h=>by cases h),fun k=>?_,(fun e h=>by cases h),(fun e h=>by cases h),fun k x h=>?_⟩
 ·show RB (mem1k.get k) (getM (p4 k) (adx (p4 0) (.cells (a0r (Sha.K.map aq4)) 64 182) .e))
  rw [mem1_getk]
  by_cases hk:k=0
  ·subst hk
   rw [if_pos rfl,ars]
   have hc:=a1g (Sha.K.map aq4) (by rfl)
   have h64:(Sha.K.map aq4).length=64:=rfl
   rw [h64] at hc
   have hb:=RB.cells (a0r (Sha.K.map aq4)) 64 182 hc.2
   rwa [show a07 (a0r (Sha.K.map aq4)) 0 64=Sha.K.map aq4 from hc.1] at hb
  ·rw [if_neg hk,afu _ _ _ _ (aFo hk),adg]
   exact .no
 ·rw [mem1_getk] at h
  by_cases hk:k=0
  ·subst hk;show 0 < 2 * 1024;omega
  ·rw [if_neg hk] at h;cases h
theorem sr1k {W:World} (h:ase W):SR P W.heap.size gsg mem1k W:=by
 obtain ⟨c,h1,h2,h3⟩:=h
 refine ⟨fun j x hj=>?_,fun i j p1 p2 hi hj _ _ _=>?_,fun j q hj hro=>?_,Nat.le_refl _⟩
 ·rw [mem1_getk] at hj
  by_cases hk:j=0
  ·subst hk
   rw [if_pos rfl] at hj;cases hj
   obtain ⟨z,s,hg⟩:=a8t 0 (by omega)
   refine ⟨_,_,hg,h1,c,rfl,(fun _=>⟨rfl,h2⟩),(fun h=>by cases h),(by rw [h2];exact Nat.le_refl _),fun i x v e1 e2=>?_⟩
   have hi:i < 64:=by
    have:=(List.getElem?_eq_some_iff.1 e1).1
    exact this
   rw [Nat.zero_add,h3 i hi] at e2
   rw [List.getElem?_map] at e1
   have hK:Sha.K.length=64:=rfl
   rw [List.getD_eq_getElem?_getD] at e2
   rw [List.getElem?_eq_getElem (by omega)] at e1 e2
   rw [← Option.some.inj e1,← Option.some.inj e2]
   exact .i _ _
  ·rw [if_neg hk] at hj;cases hj
 ·rw [mem1_getk] at hi hj
  by_cases h:i=0
  ·by_cases h':j=0
   ·omega
   ·rw [if_neg h'] at hj;exact absurd rfl hj
  ·rw [if_neg h] at hi;exact absurd rfl hi
 ·have:=ai1 hj
  have:roB=2048:=rfl
  omega
end

set_option maxRecDepth 100000 in
theorem aCz:isTk (@evF S0 P (@LT.fq (@Q.tL S0)) 4000 5 [] fs1k)=true:=by decide +kernel
theorem akw (W:World) (h:ase W):Calls Tryz.prog 5 #[] W fun e w'=>e=.returned (.bool true)∧Below W.heap.size W w':=by
 obtain ⟨f,hf⟩:=isT_ofk aCz
 have hall:=@Q.allL S0 aMp
 obtain ⟨x,s',hev,⟨hx,_⟩,_⟩:=@ayi S0 aMp 2048 _ _ P _ _ (@LT.aNd S0 aMp P _ hall) (@LT.aT3 S0 aMp P _ hall).1 4000 5 [] [] _ _ (@rs1k S0 aMp) ⟨rfl,(fun _ h=>by cases h)⟩ hf
 obtain ⟨m',n',l',w'⟩:=s'
 have hxb:x=.b true:=hx
 subst hxb
 obtain ⟨_,c2⟩:=@a7h S0 aMp P _ (@LT.aT3 S0 aMp P _ hall) 4000 W.heap.size gsg mem1k 1024 [] [] W 5 [] (.b true) m' n' l' w' #[] a8t (@sr1k S0 aMp W h) (@LR.nil S0 _) hev (fun j h1 _=>by
  cases hj:gsg j with
  | none=>rfl
  | some q=>have:=ai1 hj;omega)
 refine c2.mono fun e W' hd=>?_
 obtain ⟨τ,u,rfl,-,-,hv,hb⟩:=hd
 cases hv
 exact ⟨rfl,hb⟩
end V
end Go.CE
namespace Go.Proofs.YtopgdlblfieljaaGreatDoor
open Go.Deep Go.ChangeShapes Go.WideShapes Go.ChangeAt Go.RowKit Go.CE.V
theorem list4 {α:Type}:∀ {l:List α},l.length=4→∃ c0 c1 c2 c3,l = [c0,c1,c2,c3]
 | [c0,c1,c2,c3],_=>⟨c0,c1,c2,c3,rfl⟩
set_option maxRecDepth 100000
theorem cellsSay:Tryz.prog.cellsOf 51=4:=by kernel_rfl
section
variable {H:Type} {enc:TypeId×Value→H} {W:World} {base:Nat} {spare:Nat→Bool} {held:Bool}
theorem acm {n:Int} (h:(Lit.int .u8 n).wf=true) : ∃ u:Nat,n=(u:Int)∧u < 256:=by
 simp only [Lit.wf,Bool.and_eq_true,decide_eq_true_eq] at h
 have hn:0≤n∧n≤255:=h
 exact ⟨n.toNat,by omega,by omega⟩
theorem say_of {fuel:Nat} {cs:List Value} {x:DataW H×List MemPlace} (h:DataW.trod enc Tryz.prog W base spare held fuel 51 cs=some x) : ∃ k f t b:Nat,k < 256∧f < 256∧t < 256∧b < 256∧cs.toArray=sayRow k f t b:=by
 obtain ⟨xs,n,_,rfl,hl,hlen,hf⟩:=DataW.trod_struct Tryz.underlying51 h
 rw [cellsSay] at hl
 obtain ⟨c0,c1,c2,c3,rfl⟩:=list4 hl
 obtain ⟨y0,y1,y2,y3,rfl⟩:=list4 (show xs.length=4 from hlen)
 have k8:Tryz.prog.cellsOf 5=1:=by kernel_rfl
 have q0:DataW.trod enc Tryz.prog W base spare held n 5 [c0]=some y0:=by
  have q:DataW.trod enc Tryz.prog W base spare held n 5 (([c0,c1,c2,c3].drop 0).take (Tryz.prog.cellsOf 5))=some y0:=hf 0 _ rfl
  rw [k8] at q
  exact q
 have q1:DataW.trod enc Tryz.prog W base spare held n 5 [c1]=some y1:=by
  have q:DataW.trod enc Tryz.prog W base spare held n 5 (([c0,c1,c2,c3].drop 1).take (Tryz.prog.cellsOf 5))=some y1:=hf 1 _ rfl
  rw [k8] at q
  exact q
 have q2:DataW.trod enc Tryz.prog W base spare held n 5 [c2]=some y2:=by
  have q:DataW.trod enc Tryz.prog W base spare held n 5 (([c0,c1,c2,c3].drop 2).take (Tryz.prog.cellsOf 5))=some y2:=hf 2 _ rfl
  rw [k8] at q
  exact q
 have q3:DataW.trod enc Tryz.prog W base spare held n 5 [c3]=some y3:=by
  have q:DataW.trod enc Tryz.prog W base spare held n 5 (([c0,c1,c2,c3].drop 3).take (Tryz.prog.cellsOf 5))=some y3:=hf 3 _ rfl
  rw [k8] at q
  exact q
 obtain ⟨n0,e0,_,w0⟩:=DataW.trod_int Tryz.underlying5 q0
 obtain ⟨n1,e1,_,w1⟩:=DataW.trod_int Tryz.underlying5 q1
 obtain ⟨n2,e2,_,w2⟩:=DataW.trod_int Tryz.underlying5 q2
 obtain ⟨n3,e3,_,w3⟩:=DataW.trod_int Tryz.underlying5 q3
 obtain ⟨u0,rfl,l0⟩:=acm w0
 obtain ⟨u1,rfl,l1⟩:=acm w1
 obtain ⟨u2,rfl,l2⟩:=acm w2
 obtain ⟨u3,rfl,l3⟩:=acm w3
 have e0:[c0] = [.int .u8 u0]:=e0
 have e1:[c1] = [.int .u8 u1]:=e1
 have e2:[c2] = [.int .u8 u2]:=e2
 have e3:[c3] = [.int .u8 u3]:=e3
 cases e0;cases e1;cases e2;cases e3
 exact ⟨u0,u1,u2,u3,l0,l1,l2,l3,rfl⟩
theorem says_of {fuel:Nat} {cs:List Value} {x:DataW H×List MemPlace} (hf:DataW.trod enc Tryz.prog W base spare held fuel 23 cs=some x) : ∃ v m,cs = [v]∧SaysV W v m:=by
 rcases open_slice Tryz.underlying23 hf with ⟨hcs,hx⟩ | ⟨a,len,cap,m,n',D,Pl,hcs,hb,hlc,hm,hmm,hx,hel⟩
 ·exact ⟨_,0,hcs,fun _=>(0,0,0,0),none,0,rfl,fun q=>absurd rfl q,fun i hi=>absurd hi (Nat.not_lt_zero i)⟩
 ·obtain ⟨ab,ao,spot⟩:=a
  have hlm:len≤m:=by rw [hmm];split<;>omega
  have hd:∀ i,∃ d:Nat×Nat×Nat×Nat,i < len→(d.1 < 256∧d.2.1 < 256∧d.2.2.1 < 256∧d.2.2.2 < 256)∧∃ cs:List Value,cs.length=4∧(∀ j,j < 4→W.cell? ((⟨ab,ao,spot⟩:Addr).add (i * 4) |>.add j)=cs[j]?)∧cs.toArray=sayRow d.1 d.2.1 d.2.2.1 d.2.2.2:=fun i=>by
   by_cases hi:i < len
   ·obtain ⟨cs',c1,c2⟩:=hel i (by omega)
    rw [cellsSay] at c1
    obtain ⟨_,c3,c4⟩:=World.cells?_some c1
    obtain ⟨k,f,t,b,l0,l1,l2,l3,hv⟩:=say_of c2
    exact ⟨(k,f,t,b),fun _=>⟨⟨l0,l1,l2,l3⟩,cs',c3,c4,hv⟩⟩
   ·exact ⟨(0,0,0,0),fun q=>absurd q hi⟩
  obtain ⟨ds,hds⟩:=Classical.axiomOfChoice hd
  refine ⟨_,len,hcs,ds,some ⟨ab,ao,spot⟩,cap,rfl,fun hn0=>?_,fun i hi=>(hds i hi).1⟩
  have hn:0 < len:=Nat.pos_of_ne_zero hn0
  have hcell:∀ i j,i < len→j < 4→∃ u,W.cell? ((⟨ab,ao,spot⟩:Addr).add (i * 4) |>.add j)=some u:=fun i j hi hj=>by
   obtain ⟨_,cs,h1,h2,_⟩:=hds i hi
   exact ⟨cs[j],by rw [h2 j hj,List.getElem?_eq_getElem (by omega)]⟩
  have hspot:spot=none:=by
   obtain ⟨u,hu⟩:=hcell 0 0 hn (by omega)
   simpa [Addr.add] using World.cell?_spot hu
  subst hspot
  have hrow : ∃ row T fr,obj W ab=some (.cells row T fr):=by
   obtain ⟨u,hu⟩:=hcell 0 0 hn (by omega)
   unfold World.cell? at hu
   show ∃ row T fr,W.heap[ab]? = _
   simp only [Addr.add] at hu
   split at hu
   ·rename_i row T fr hq
    exact ⟨row,T,fr,hq⟩
   ·cases hu
  obtain ⟨row,T,fr,hob⟩:=hrow
  refine ⟨ab,ao,row,T,fr,rfl,hob,fun i hi=>?_⟩
  obtain ⟨_,cs,h1,h2,h3⟩:=hds i hi
  have h2':∀ j,j < 4→row[ao+i * 4+j]? = cs[j]? := fun j hj=>by
   have:=h2 j hj
   rw [Addr.add_lit,Addr.add_lit] at this
   rw [← this,a01 hob]
  have h4:ao+i * 4+4≤row.size:=by
   have:=h2' 3 (by omega)
   rw [List.getElem?_eq_getElem (by omega)] at this
   have:=(Array.getElem?_eq_some_iff.1 this).1
   omega
  refine ⟨h4,?_⟩
  rw [← h3]
  apply Array.ext_getElem?
  intro j
  rw [Array.getElem?_extract]
  by_cases hj:j < 4
  ·rw [if_pos (by omega),h2' j hj];simp
  ·rw [if_neg (by omega),List.getElem?_toArray,List.getElem?_eq_none (by omega)]
theorem says_arg {v:Value} {d:DataW H} {p:List MemPlace} (hv:Value.okWide Tryz.prog W .any base 23 v) (h:DataW.Trod enc Tryz.prog W 0 spare held 23 v d p) : ∃ m,SaysV W v m:=by
 obtain ⟨fuel,hf⟩:=h
 obtain ⟨a1,len,cap,rfl⟩:=okWide_slice Tryz.underlying23 hv
 obtain ⟨w,m,e,hw⟩:=says_of hf
 simp [Value.cells] at e
 exact ⟨m,e ▸ hw⟩
theorem list3 {α:Type}:∀ {l:List α},l.length=3→∃ c0 c1 c2,l = [c0,c1,c2]
 | [c0,c1,c2],_=>⟨c0,c1,c2,rfl⟩
theorem cells3:Tryz.prog.cellsOf 22=3:=by kernel_rfl
theorem three_arg {v:Value} {d:DataW H} {p:List MemPlace} (hv:Value.okWide Tryz.prog W .any base 22 v) (h:DataW.Trod enc Tryz.prog W 0 spare held 22 v d p) : ∃ a b c:Nat,a < 256∧b < 256∧c < 256∧v=.agg #[.int .u8 (a:Nat),.int .u8 (b:Nat),.int .u8 (c:Nat)]:=by
 obtain ⟨fuel,hf⟩:=h
 have hv2 : ∃ cs:Array Value,v=.agg cs:=by
  simp only [Value.okWide,Tryz.underlying22] at hv
  obtain ⟨cs,h1,_⟩:=hv
  exact ⟨cs,h1⟩
 obtain ⟨cs,rfl⟩:=hv2
 obtain ⟨xs,n,_,_,hl,hlen,hg⟩:=DataW.trod_array Tryz.underlying22 hf
 rw [cells3] at hl
 obtain ⟨c0,c1,c2,hc⟩:=list3 hl
 obtain ⟨y0,y1,y2,rfl⟩:=list3 hlen
 have k8:Tryz.prog.cellsOf 5=1:=by kernel_rfl
 have g0:=hg 0 (by omega)
 have g1:=hg 1 (by omega)
 have g2:=hg 2 (by omega)
 rw [hc,k8] at g0 g1 g2
 obtain ⟨n0,e0,_,w0⟩:=DataW.trod_int Tryz.underlying5 (show DataW.trod enc Tryz.prog W 0 spare held n 5 [c0]=some y0 from g0)
 obtain ⟨n1,e1,_,w1⟩:=DataW.trod_int Tryz.underlying5 (show DataW.trod enc Tryz.prog W 0 spare held n 5 [c1]=some y1 from g1)
 obtain ⟨n2,e2,_,w2⟩:=DataW.trod_int Tryz.underlying5 (show DataW.trod enc Tryz.prog W 0 spare held n 5 [c2]=some y2 from g2)
 obtain ⟨u0,rfl,l0⟩:=acm w0
 obtain ⟨u1,rfl,l1⟩:=acm w1
 obtain ⟨u2,rfl,l2⟩:=acm w2
 have e0:[c0] = [.int .u8 u0]:=e0
 have e1:[c1] = [.int .u8 u1]:=e1
 have e2:[c2] = [.int .u8 u2]:=e2
 cases e0;cases e1;cases e2
 refine ⟨u0,u1,u2,l0,l1,l2,?_⟩
 have:cs.toList = [.int .u8 (u0:Nat),.int .u8 (u1:Nat),.int .u8 (u2:Nat)]:=by simpa [Value.cells] using hc
 rw [← this]
end
end Go.Proofs.YtopgdlblfieljaaGreatDoor
