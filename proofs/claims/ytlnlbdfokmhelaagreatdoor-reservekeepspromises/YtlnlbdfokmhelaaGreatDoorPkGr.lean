/-
  What the walks of the Reserve statements begin with.
-/
import Derived.Test.YtlnlbdfokmhelaaGreatDoorPkRo
import Derived.Test.YtlnlbdfokmhelaaGreatDoorPkRp
import Derived.Test.YtlnlbdfokmhelaaGreatDoorPkRm
import Derived.WalkKit
import Derived.ProofKit
import Derived.OpenShut
import Derived.Carry
import Derived.Deep.DeepHandedRow
import Derived.Deep.Slices
set_option linter.unusedSectionVars false
set_option linter.constructorNameAsVariable false
set_option linter.unusedVariables false
set_option linter.unusedSimpArgs false
namespace Go.Proofs.YtlnlbdfokmhelaaGreatDoor
open Go.RowKit Go.CE.V Go.Rv
set_option maxRecDepth 20000
set_option maxHeartbeats 4000000
attribute [local irreducible] wpQuiet
theorem _root_.Go.CE.V.bph.below {W W':World} (h:bph W) (hb:Below W.heap.size W W'):bph W':=by
 obtain ⟨c,h1,h2,h3⟩:=h
 exact ⟨c,(hb.block 0 (ah1 (show obj W 0=some _ from h1))).trans h1,h2,h3⟩
theorem _root_.Go.CE.V.bph.pos {W:World} (h:bph W):0 < W.heap.size:=by
 obtain ⟨c,h1,_⟩:=h
 exact ah1 (show obj W 0=some _ from h1)
theorem _root_.Go.CE.V.bph.tab {W:World} (h:bph W):Tab W:=by
 obtain ⟨c,h1,h2,h3⟩:=h
 refine ⟨c,_,_,h1,by omega,?_⟩
 rw [extract_all _ _ h2]
 unfold bg9
 apply Array.ext_getElem?
 intro i
 by_cases hi:i < 64
 ·rw [h3 i hi,List.getElem?_toArray,List.getElem?_map,List.getD_eq_getElem?_getD]
  have hK:Sha.K.length=64:=rfl
  rw [List.getElem?_eq_getElem (by omega)]
  rfl
 ·rw [Array.getElem?_eq_none (by omega),List.getElem?_toArray,List.getElem?_eq_none (by rw [List.length_map];show Sha.K.length≤i;have hK:Sha.K.length=64:=rfl;omega)]
theorem bk5 {W:World} {me:Nat} {own:List Nat} {w:Value} (hv:as1 0 W w own):bip W (ownRow me 4 0 90 2 w (.slice none 0 0)) me 4 0 90 own 2 [] :=
 ⟨⟨w,.slice none 0 0,rfl,hv,fun _=>undef,⟨none,0,rfl,fun h=>absurd rfl h⟩,fun i hi=>absurd hi (Nat.not_lt_zero i)⟩,⟨fun i hi=>absurd hi (Nat.not_lt_zero i),fun i hi=>absurd hi (Nat.not_lt_zero i)⟩,by decide⟩
theorem bmz (own:List Nat):Go.Rv.Good (bb7 4 0 90 own) ⟨2,[]⟩:=by
 refine ⟨fun x hx=>absurd hx List.not_mem_nil,fun _ x hx=>absurd hx List.not_mem_nil,fun h=>absurd h (by decide),fun _=>?_⟩
 unfold b9c.azj
 split<;>rfl
end Go.Proofs.YtlnlbdfokmhelaaGreatDoor
namespace Go.Proofs.YtlnlbdfokmhelaaGreatDoor
open Go.Deep Go.ChangeShapes Go.WideShapes Go.ChangeAt Go.RowKit Go.CE.V
theorem list4 {α:Type}:∀ {l:List α},l.length=4→∃ c0 c1 c2 c3,l = [c0,c1,c2,c3]
 | [c0,c1,c2,c3],_=>⟨c0,c1,c2,c3,rfl⟩
theorem c2h {α:Type}:∀ {l:List α},l.length=2→∃ c0 c1,l = [c0,c1]
 | [c0,c1],_=>⟨c0,c1,rfl⟩
set_option maxRecDepth 100000
theorem bxs:Tryz.prog.cellsOf 71=4:=by kernel_rfl
theorem bG7:Tryz.prog.cellsOf 59=1:=by kernel_rfl
section
variable {H:Type} {enc:TypeId×Value→H} {W:World} {base:Nat} {spare:Nat→Bool} {held:Bool}
theorem bdi {n:Int} (h:(Lit.int .u8 n).wf=true) : ∃ u:Nat,n=(u:Int)∧u < 256:=by
 simp only [Lit.wf,Bool.and_eq_true,decide_eq_true_eq] at h
 have hn:0≤n∧n≤255:=h
 exact ⟨n.toNat,by omega,by omega⟩
theorem bO8 {fuel:Nat} {cs:List Value} {x:DataW H×List MemPlace} (h:DataW.trod enc Tryz.prog W base spare held fuel 71 cs=some x) : ∃ k f t b:Nat,k < 256∧f < 256∧t < 256∧b < 256∧cs.toArray=aBl k f t b:=by
 obtain ⟨xs,n,_,rfl,hl,hlen,hf⟩:=DataW.trod_struct Tryz.underlying71 h
 rw [bxs] at hl
 obtain ⟨c0,c1,c2,c3,rfl⟩:=list4 hl
 obtain ⟨y0,y1,y2,y3,rfl⟩:=list4 (show xs.length=4 from hlen)
 have k8:Tryz.prog.cellsOf 5=1:=by kernel_rfl
 have q0:DataW.trod enc Tryz.prog W base spare held n 5 [c0]=some y0:=by
  have q:DataW.trod enc Tryz.prog W base spare held n 5 (([c0,c1,c2,c3].drop 0).take (Tryz.prog.cellsOf 5))=some y0:=hf 0 _ rfl
  rw [k8] at q
  exact q
 have q1:DataW.trod enc Tryz.prog W base spare held n 5 [c1]=some y1:=by
  have q:DataW.trod enc Tryz.prog W base spare held n 5 (([c0,c1,c2,c3].drop 1).take (Tryz.prog.cellsOf 5))=some y1:=hf 1 _ rfl
  rw [k8] at q
  exact q
 have q2:DataW.trod enc Tryz.prog W base spare held n 5 [c2]=some y2:=by
  have q:DataW.trod enc Tryz.prog W base spare held n 5 (([c0,c1,c2,c3].drop 2).take (Tryz.prog.cellsOf 5))=some y2:=hf 2 _ rfl
  rw [k8] at q
  exact q
 have q3:DataW.trod enc Tryz.prog W base spare held n 5 [c3]=some y3:=by
  have q:DataW.trod enc Tryz.prog W base spare held n 5 (([c0,c1,c2,c3].drop 3).take (Tryz.prog.cellsOf 5))=some y3:=hf 3 _ rfl
  rw [k8] at q
  exact q
 obtain ⟨n0,e0,_,w0⟩:=DataW.trod_int Tryz.underlying5 q0
 obtain ⟨n1,e1,_,w1⟩:=DataW.trod_int Tryz.underlying5 q1
 obtain ⟨n2,e2,_,w2⟩:=DataW.trod_int Tryz.underlying5 q2
 obtain ⟨n3,e3,_,w3⟩:=DataW.trod_int Tryz.underlying5 q3
 obtain ⟨u0,rfl,l0⟩:=bdi w0
 obtain ⟨u1,rfl,l1⟩:=bdi w1
 obtain ⟨u2,rfl,l2⟩:=bdi w2
 obtain ⟨u3,rfl,l3⟩:=bdi w3
 have e0:[c0] = [.int .u8 u0]:=e0
 have e1:[c1] = [.int .u8 u1]:=e1
 have e2:[c2] = [.int .u8 u2]:=e2
 have e3:[c3] = [.int .u8 u3]:=e3
 cases e0;cases e1;cases e2;cases e3
 exact ⟨u0,u1,u2,u3,l0,l1,l2,l3,rfl⟩
theorem btx {fuel:Nat} {cs:List Value} {x:DataW H×List MemPlace} (hf:DataW.trod enc Tryz.prog W base spare held fuel 59 cs=some x) : ∃ v m,cs = [v]∧bhw W v m:=by
 rcases open_slice Tryz.underlying59 hf with ⟨hcs,hx⟩ | ⟨a,len,cap,m,n',D,Pl,hcs,hb,hlc,hm,hmm,hx,hel⟩
 ·exact ⟨_,0,hcs,fun _=>(0,0,0,0),none,0,rfl,fun q=>absurd rfl q,fun i hi=>absurd hi (Nat.not_lt_zero i)⟩
 ·obtain ⟨ab,ao,spot⟩:=a
  have hlm:len≤m:=by rw [hmm];split<;>omega
  have hd:∀ i,∃ d:Nat×Nat×Nat×Nat,i < len→(d.1 < 256∧d.2.1 < 256∧d.2.2.1 < 256∧d.2.2.2 < 256)∧∃ cs:List Value,cs.length=4∧(∀ j,j < 4→W.cell? ((⟨ab,ao,spot⟩:Addr).add (i * 4) |>.add j)=cs[j]?)∧cs.toArray=aBl d.1 d.2.1 d.2.2.1 d.2.2.2:=fun i=>by
   by_cases hi:i < len
   ·obtain ⟨cs',c1,c2⟩:=hel i (by omega)
    rw [bxs] at c1
    obtain ⟨_,c3,c4⟩:=World.cells?_some c1
    obtain ⟨k,f,t,b,l0,l1,l2,l3,hv⟩:=bO8 c2
    exact ⟨(k,f,t,b),fun _=>⟨⟨l0,l1,l2,l3⟩,cs',c3,c4,hv⟩⟩
   ·exact ⟨(0,0,0,0),fun q=>absurd q hi⟩
  obtain ⟨ds,hds⟩:=Classical.axiomOfChoice hd
  refine ⟨_,len,hcs,ds,some ⟨ab,ao,spot⟩,cap,rfl,fun hn0=>?_,fun i hi=>(hds i hi).1⟩
  have hn:0 < len:=Nat.pos_of_ne_zero hn0
  have hcell:∀ i j,i < len→j < 4→∃ u,W.cell? ((⟨ab,ao,spot⟩:Addr).add (i * 4) |>.add j)=some u:=fun i j hi hj=>by
   obtain ⟨_,cs,h1,h2,_⟩:=hds i hi
   exact ⟨cs[j],by rw [h2 j hj,List.getElem?_eq_getElem (by omega)]⟩
  have hspot:spot=none:=by
   obtain ⟨u,hu⟩:=hcell 0 0 hn (by omega)
   simpa [Addr.add] using World.cell?_spot hu
  subst hspot
  have hrow : ∃ row T fr,obj W ab=some (.cells row T fr):=by
   obtain ⟨u,hu⟩:=hcell 0 0 hn (by omega)
   unfold World.cell? at hu
   show ∃ row T fr,W.heap[ab]? = _
   simp only [Addr.add] at hu
   split at hu
   ·rename_i row T fr hq
    exact ⟨row,T,fr,hq⟩
   ·cases hu
  obtain ⟨row,T,fr,hob⟩:=hrow
  refine ⟨ab,ao,row,T,fr,rfl,hob,fun i hi=>?_⟩
  obtain ⟨_,cs,h1,h2,h3⟩:=hds i hi
  have h2':∀ j,j < 4→row[ao+i * 4+j]? = cs[j]? := fun j hj=>by
   have:=h2 j hj
   rw [Addr.add_lit,Addr.add_lit] at this
   rw [← this,abm hob]
  have h4:ao+i * 4+4≤row.size:=by
   have:=h2' 3 (by omega)
   rw [List.getElem?_eq_getElem (by omega)] at this
   have:=(Array.getElem?_eq_some_iff.1 this).1
   omega
  refine ⟨h4,?_⟩
  rw [← h3]
  apply Array.ext_getElem?
  intro j
  rw [Array.getElem?_extract]
  by_cases hj:j < 4
  ·rw [if_pos (by omega),h2' j hj];simp
  ·rw [if_neg (by omega),List.getElem?_toArray,List.getElem?_eq_none (by omega)]
theorem bJ0 {v:Value} {d:DataW H} {p:List MemPlace} (hv:Value.okWide Tryz.prog W .any base 59 v) (h:DataW.Trod enc Tryz.prog W 0 spare held 59 v d p) : ∃ m,bhw W v m:=by
 obtain ⟨fuel,hf⟩:=h
 obtain ⟨a1,len,cap,rfl⟩:=okWide_slice Tryz.underlying59 hv
 obtain ⟨w,m,e,hw⟩:=btx hf
 simp [Value.cells] at e
 exact ⟨m,e ▸ hw⟩
theorem bTq {v:Value} {d:DataW H} {p:List MemPlace} (hv:Value.okWide Tryz.prog W .any base 71 v) (h:DataW.Trod enc Tryz.prog W 0 spare held 71 v d p) : ∃ k f t b:Nat,k < 256∧f < 256∧t < 256∧b < 256∧v=.agg (aBl k f t b):=by
 obtain ⟨fuel,hf⟩:=h
 obtain ⟨cs,rfl,_⟩:=okWide_struct Tryz.underlying71 hv
 obtain ⟨k,f,t,b,l0,l1,l2,l3,e⟩:=bO8 hf
 refine ⟨k,f,t,b,l0,l1,l2,l3,?_⟩
 rw [← e]
 simp [Value.cells]
theorem bqf {v:Value} {d:DataW H} {p:List MemPlace} (hv:Value.okWide Tryz.prog W .any base 69 v) (h:DataW.Trod enc Tryz.prog W 0 spare held 69 v d p) : ∃ a b m n,v=.agg #[a,b]∧bhw W a m∧bhw W b n:=by
 obtain ⟨fuel,hf⟩:=h
 have hv2 : ∃ cs:Array Value,v=.agg cs:=by
  simp only [Value.okWide,Tryz.underlying69] at hv
  obtain ⟨cs,h1,_⟩:=hv
  exact ⟨cs,h1⟩
 obtain ⟨cs,rfl⟩:=hv2
 obtain ⟨xs,n,_,_,hl,hlen,hg⟩:=DataW.trod_array Tryz.underlying69 hf
 have hz:Tryz.prog.cellsOf 69=2:=by kernel_rfl
 rw [hz] at hl
 obtain ⟨c0,c1,hc⟩:=c2h hl
 obtain ⟨y0,y1,rfl⟩:=c2h hlen
 have g0:=hg 0 (by omega)
 have g1:=hg 1 (by omega)
 rw [hc,bG7] at g0 g1
 obtain ⟨w0,m0,e0,r0⟩:=btx (show DataW.trod enc Tryz.prog W 0 spare held n 59 [c0]=some y0 from g0)
 obtain ⟨w1,m1,e1,r1⟩:=btx (show DataW.trod enc Tryz.prog W 0 spare held n 59 [c1]=some y1 from g1)
 cases e0;cases e1
 refine ⟨c0,c1,m0,m1,?_,r0,r1⟩
 have:cs.toList = [c0,c1]:=by simpa [Value.cells] using hc
 rw [← this]
end
end Go.Proofs.YtlnlbdfokmhelaaGreatDoor
