/-
  The arguments of the zones' laws, as they were handed in.
-/
import Derived.Test.YtppjleebbjipbaaGreatQkZok
import Derived.ProofKit
import Derived.OpenShut
import Derived.Carry
import Derived.Deep.DeepHandedRow
import Derived.Deep.Slices
set_option linter.all false
namespace Go.Proofs.YtppjleebbjipbaaGreat
open Go.Deep Go.ChangeShapes Go.WideShapes Go.ChangeAt Go.RowKit
theorem aok {α:Type}:∀ {l:List α},l.length=14→∃ c0 c1 c2 c3 c4 c5 c6 c7 c8 c9 c10 c11 c12 c13,l = [c0,c1,c2,c3,c4,c5,c6,c7,c8,c9,c10,c11,c12,c13]
 | [c0,c1,c2,c3,c4,c5,c6,c7,c8,c9,c10,c11,c12,c13],_=>⟨c0,c1,c2,c3,c4,c5,c6,c7,c8,c9,c10,c11,c12,c13,rfl⟩
theorem aqx {α:Type}:∀ {l:List α},l.length=7→∃ c0 c1 c2 c3 c4 c5 c6,l = [c0,c1,c2,c3,c4,c5,c6]
 | [c0,c1,c2,c3,c4,c5,c6],_=>⟨c0,c1,c2,c3,c4,c5,c6,rfl⟩
theorem aoj {α:Type}:∀ {l:List α},l.length=4→∃ c0 c1 c2 c3,l = [c0,c1,c2,c3]
 | [c0,c1,c2,c3],_=>⟨c0,c1,c2,c3,rfl⟩
theorem aiq {α:Type}:∀ {l:List α},l.length=2→∃ c0 c1,l = [c0,c1]
 | [c0,c1],_=>⟨c0,c1,rfl⟩
set_option maxRecDepth 100000
theorem ajk:Tryz.prog.cellsOf 26=14:=by kernel_rfl
theorem aof {n:Int} (h:(Lit.int .u8 n).wf=true) : ∃ u:Nat,n=(u:Int)∧u < 256:=by
 simp only [Lit.wf,zN,zM] at h
 have hn:0≤n∧n≤255:=h
 exact ⟨n.toNat,by omega,by omega⟩
theorem aog {n:Int} (h:(Lit.int .u32 n).wf=true) : ∃ u:Nat,n=(u:Int)∧u < 4294967296:=by
 simp only [Lit.wf,zN,zM] at h
 have hn:0≤n∧n≤4294967295:=h
 exact ⟨n.toNat,by omega,by omega⟩
section
variable {H:Type} {enc:TypeId×Value→H} {W:World} {base:Nat} {spare:Nat→Bool} {held:Bool}
theorem aek {n:Nat} {c:Value} {y:DataW H×List MemPlace} (q:DataW.trod enc Tryz.prog W base spare held n 5 [c]=some y) : ∃ u:Nat,c=.int .u8 (u:Int)∧u < 256:=by
 obtain ⟨n0,e0,_,w0⟩:=DataW.trod_int Tryz.underlying5 q
 obtain ⟨u,rfl,h⟩:=aof w0
 have e0:[c] = [.int .u8 u]:=e0
 cases e0
 exact ⟨u,rfl,h⟩
theorem ald {n:Nat} {c:Value} {y:DataW H×List MemPlace} (q:DataW.trod enc Tryz.prog W base spare held n 54 [c]=some y) : ∃ u:Nat,c=.int .u32 (u:Int)∧u < 4294967296:=by
 obtain ⟨n0,e0,_,w0⟩:=DataW.trod_int Tryz.underlying54 q
 obtain ⟨u,rfl,h⟩:=aog w0
 have e0:[c] = [.int .u32 u]:=e0
 cases e0
 exact ⟨u,rfl,h⟩
theorem an8 {n:Nat} {c:Value} {y:DataW H×List MemPlace} (q:DataW.trod enc Tryz.prog W base spare held n 4 [c]=some y) : ∃ b:Bool,c=.bool b:=by
 cases n with
 | zero=>simp [DataW.trod] at q
 | succ n =>
  unfold DataW.trod at q
  rw [Tryz.underlying4] at q
  cases c<;>simp_all
theorem alc {fuel:Nat} {cs:List Value} {x:DataW H×List MemPlace} (hf:DataW.trod enc Tryz.prog W base spare held fuel 22 cs=some x) : ∃ v l,cs = [v]∧U8V W v l∧∀ i,i < l.length→l.getD i 0 < 256:=by
 have k8:Tryz.prog.cellsOf 5=1:=by kernel_rfl
 rcases open_slice Tryz.underlying22 hf with ⟨hcs,hx⟩ | ⟨a,len,cap,m,n',D,Pl,hcs,hb,hlc,hm,hmm,hx,hel⟩
 ·exact ⟨_,[],hcs,⟨none,0,rfl,fun h=>absurd h (by simp)⟩,fun i hi=>absurd hi (yA i)⟩
 obtain ⟨ab,ao,spot⟩:=a
 have hlm:len≤m:=by rw [hmm];split<;>omega
 have hd:∀ i,∃ g:Nat,i < len→g < 256∧W.cell? ((⟨ab,ao,spot⟩:Addr).add (i * 1) |>.add 0)=some (.int .u8 (g:Int)):=fun i=>by
  by_cases hi:i < len
  ·obtain ⟨cs',c1,c2⟩:=hel i (by omega)
   rw [k8] at c1;obtain ⟨hl1,c3,c4⟩:=World.cells?_some c1;obtain ⟨n0,e0,_,w0⟩:=DataW.trod_int Tryz.underlying5 c2;obtain ⟨u,rfl,hu⟩:=aof w0;exact ⟨u,fun _=>⟨hu,by rw [c4 0 (by omega),e0];rfl⟩⟩
  ·exact ⟨0,fun q=>absurd q hi⟩
 obtain ⟨g,hg⟩:=Classical.axiomOfChoice hd
 have hlen:((List.range len).map g).length=len:=by simp
 have hget:∀ i,i < len→((List.range len).map g).getD i 0=g i:=fun i hi=>by simp [zB,hi]
 refine ⟨_,(List.range len).map g,hcs,⟨some ⟨ab,ao,spot⟩,cap,by rw [hlen],fun hn0=>?_⟩,fun i hi=>by rw [hlen] at hi;rw [hget i hi];exact (hg i hi).1⟩
 rw [hlen] at hn0
 have hspot:spot=none:=by
  have hu:=(hg 0 hn0).2
  simpa [Addr.add] using World.cell?_spot hu
 subst hspot
 have hrow : ∃ row T fr,obj W ab=some (.cells row T fr):=by
  have hu:=(hg 0 hn0).2
  unfold World.cell? at hu
  show ∃ row T fr,W.heap[ab]? = _
  simp only [Addr.add] at hu
  split at hu
  ·rename_i row T fr hq
   exact ⟨row,T,fr,hq⟩
  cases hu
 obtain ⟨row,T,fr,hob⟩:=hrow
 refine ⟨ab,ao,row,T,fr,rfl,hob,fun i hi=>?_⟩
 rw [hlen] at hi
 rw [hget i hi]
 have:=(hg i hi).2
 rw [Addr.add_lit,Addr.add_lit,a02 hob] at this
 rw [← this]
 congr 1
 omega
theorem amb {fuel:Nat} {cs:List Value} {y:DataW H×List MemPlace} (h:DataW.trod enc Tryz.prog W base spare held fuel 26 cs=some y) : ∃ (x:Zn.Raw) (gv ov:Value),x.In∧U8V W gv x.a6v∧U8V W ov x.a5z∧cs.toArray=#[.int .u8 (x.start:Nat),gv,ov,.int .u8 (x.behind:Nat),.int .u8 (x.y0:Nat),.int .u8 (x.y1:Nat),.int .u8 (x.y2:Nat),.int .u8 (x.y3:Nat),.int .u8 (x.y4:Nat),.int .u8 (x.y5:Nat),.int .u8 (x.y6:Nat),.int .u8 (x.y7:Nat),.int .u8 (x.cal:Nat),.bool x.rules]:=by
 obtain ⟨xs,n,_,rfl,hl,hlen,hf⟩:=DataW.trod_struct Tryz.underlying26 h
 rw [ajk] at hl
 obtain ⟨c0,c1,c2,c3,c4,c5,c6,c7,c8,c9,c10,c11,c12,c13,rfl⟩:=aok hl
 obtain ⟨y0,y1,y2,y3,y4,y5,y6,rfl⟩:=aqx (show xs.length=7 from hlen)
 have k8:Tryz.prog.cellsOf 5=1:=by kernel_rfl
 have ks:Tryz.prog.cellsOf 22=1:=by kernel_rfl
 have kb:Tryz.prog.cellsOf 4=1:=by kernel_rfl
 have ka:Tryz.prog.cellsOf 24=8:=by kernel_rfl
 have k4:Tryz.prog.cellsOf 23=4:=by kernel_rfl
 have q0:DataW.trod enc Tryz.prog W base spare held n 5 (([c0,c1,c2,c3,c4,c5,c6,c7,c8,c9,c10,c11,c12,c13].drop 0).take (Tryz.prog.cellsOf 5))=some y0:=hf 0 _ rfl
 have q1:DataW.trod enc Tryz.prog W base spare held n 22 (([c0,c1,c2,c3,c4,c5,c6,c7,c8,c9,c10,c11,c12,c13].drop 1).take (Tryz.prog.cellsOf 22))=some y1:=hf 1 _ rfl
 have q2:DataW.trod enc Tryz.prog W base spare held n 22 (([c0,c1,c2,c3,c4,c5,c6,c7,c8,c9,c10,c11,c12,c13].drop 2).take (Tryz.prog.cellsOf 22))=some y2:=hf 2 _ rfl
 have q3:DataW.trod enc Tryz.prog W base spare held n 5 (([c0,c1,c2,c3,c4,c5,c6,c7,c8,c9,c10,c11,c12,c13].drop 3).take (Tryz.prog.cellsOf 5))=some y3:=hf 3 _ rfl
 have q4:DataW.trod enc Tryz.prog W base spare held n 24 (([c0,c1,c2,c3,c4,c5,c6,c7,c8,c9,c10,c11,c12,c13].drop 4).take (Tryz.prog.cellsOf 24))=some y4:=hf 4 _ rfl
 have q5:DataW.trod enc Tryz.prog W base spare held n 5 (([c0,c1,c2,c3,c4,c5,c6,c7,c8,c9,c10,c11,c12,c13].drop 12).take (Tryz.prog.cellsOf 5))=some y5:=hf 5 _ rfl
 have q6:DataW.trod enc Tryz.prog W base spare held n 4 (([c0,c1,c2,c3,c4,c5,c6,c7,c8,c9,c10,c11,c12,c13].drop 13).take (Tryz.prog.cellsOf 4))=some y6:=hf 6 _ rfl
 rw [k8] at q0 q3 q5
 rw [ks] at q1 q2
 rw [ka] at q4
 rw [kb] at q6
 obtain ⟨s0,e0,l0⟩:=aek (c:=c0) q0
 obtain ⟨gv,gl,e1,hgv,lg⟩:=alc q1
 obtain ⟨ov,ol,e2,hov,lo⟩:=alc q2
 obtain ⟨s3,e3,l3⟩:=aek (c:=c3) q3
 obtain ⟨s12,e12,l12⟩:=aek (c:=c12) q5
 obtain ⟨b,e13⟩:=an8 (c:=c13) q6
 have e1:[c1] = [gv]:=e1
 have e2:[c2] = [ov]:=e2
 cases e1
 cases e2
 have q4':DataW.trod enc Tryz.prog W base spare held n 24 [c4,c5,c6,c7,c8,c9,c10,c11]=some y4:=q4
 obtain ⟨zs,m,_,_,_,hzl,hz⟩:=DataW.trod_array Tryz.underlying24 q4'
 obtain ⟨z0,z1,rfl⟩:=aiq hzl
 have g0:=hz 0 (by omega)
 have g1:=hz 1 (by omega)
 rw [k4] at g0 g1
 have row4:∀ {a b c d:Value} {z:DataW H×List MemPlace},DataW.trod enc Tryz.prog W base spare held m 23 [a,b,c,d]=some z→∃ u0 u1 u2 u3:Nat,(a=.int .u8 (u0:Int)∧u0 < 256)∧(b=.int .u8 (u1:Int)∧u1 < 256)∧(c=.int .u8 (u2:Int)∧u2 < 256)∧(d=.int .u8 (u3:Int)∧u3 < 256):=by
  intro a b c d z hq
  obtain ⟨ws,m',_,_,_,hwl,hw⟩:=DataW.trod_array Tryz.underlying23 hq
  obtain ⟨w0,w1,w2,w3,rfl⟩:=aoj hwl
  have f0:=hw 0 (by omega)
  have f1:=hw 1 (by omega)
  have f2:=hw 2 (by omega)
  have f3:=hw 3 (by omega)
  rw [k8] at f0 f1 f2 f3
  obtain ⟨u0,a0,b0⟩:=aek (c:=a) f0
  obtain ⟨u1,a1,b1⟩:=aek (c:=b) f1
  obtain ⟨u2,a2,b2⟩:=aek (c:=c) f2
  obtain ⟨u3,a3,b3⟩:=aek (c:=d) f3
  exact ⟨u0,u1,u2,u3,⟨a0,b0⟩,⟨a1,b1⟩,⟨a2,b2⟩,⟨a3,b3⟩⟩
 obtain ⟨u0,u1,u2,u3,⟨e4,l4⟩,⟨e5,l5⟩,⟨e6,l6⟩,⟨e7,l7⟩⟩:=row4 (a:=c4) (b:=c5) (c:=c6) (d:=c7) g0
 obtain ⟨u4,u5,u6,u7,⟨e8,l8⟩,⟨e9,l9⟩,⟨e10,l10⟩,⟨e11,l11⟩⟩:=row4 (a:=c8) (b:=c9) (c:=c10) (d:=c11) g1
 subst e0 e3 e4 e5 e6 e7 e8 e9 e10 e11 e12 e13
 exact ⟨⟨s0,gl,ol,s3,u0,u1,u2,u3,u4,u5,u6,u7,s12,b⟩,c1,c2,⟨l0,lg,lo,l3,l4,l5,l6,l7,l8,l9,l10,l11,l12⟩,hgv,hov,rfl⟩
theorem akb {v:Value} {d:DataW H} {p:List MemPlace} (hv:Value.okWide Tryz.prog W .any base 26 v) (h:DataW.Trod enc Tryz.prog W 0 spare held 26 v d p) : ∃ (x:Zn.Raw) (gv ov:Value),x.In∧U8V W gv x.a6v∧U8V W ov x.a5z∧v=.agg #[.int .u8 (x.start:Nat),gv,ov,.int .u8 (x.behind:Nat),.int .u8 (x.y0:Nat),.int .u8 (x.y1:Nat),.int .u8 (x.y2:Nat),.int .u8 (x.y3:Nat),.int .u8 (x.y4:Nat),.int .u8 (x.y5:Nat),.int .u8 (x.y6:Nat),.int .u8 (x.y7:Nat),.int .u8 (x.cal:Nat),.bool x.rules]:=by
 obtain ⟨fuel,hf⟩:=h
 obtain ⟨cs,rfl,_⟩:=okWide_struct Tryz.underlying26 hv
 obtain ⟨x,gv,ov,hx,hg,ho,e⟩:=amb hf
 refine ⟨x,gv,ov,hx,hg,ho,?_⟩
 rw [← e]
 simp [Value.cells]
theorem ah1 {v:Value} {d:DataW H} {p:List MemPlace} (hv:Value.okWide Tryz.prog W .any base 58 v) (h:DataW.Trod enc Tryz.prog W 0 spare held 58 v d p) : ∃ a b:Nat,a < 4294967296∧b < 4294967296∧v=.agg #[.int .u32 (a:Nat),.int .u32 (b:Nat)]:=by
 obtain ⟨fuel,hf⟩:=h
 have hv2 : ∃ cs:Array Value,v=.agg cs:=by
  simp only [Value.okWide,Tryz.underlying58] at hv
  obtain ⟨cs,h1,_⟩:=hv
  exact ⟨cs,h1⟩
 obtain ⟨cs,rfl⟩:=hv2
 obtain ⟨xs,n,_,_,hl,hlen,hg⟩:=DataW.trod_array Tryz.underlying58 hf
 have hz:Tryz.prog.cellsOf 58=2:=by kernel_rfl
 have k32:Tryz.prog.cellsOf 54=1:=by kernel_rfl
 rw [hz] at hl
 obtain ⟨c0,c1,hc⟩:=aiq hl
 obtain ⟨y0,y1,rfl⟩:=aiq hlen
 have g0:=hg 0 (by omega)
 have g1:=hg 1 (by omega)
 rw [hc,k32] at g0 g1
 obtain ⟨u0,rfl,l0⟩:=ald (c:=c0) g0
 obtain ⟨u1,rfl,l1⟩:=ald (c:=c1) g1
 refine ⟨u0,u1,l0,l1,?_⟩
 have:cs.toList = [.int .u32 (u0:Int),.int .u32 (u1:Int)]:=by simpa [Value.cells] using hc
 rw [← this]
end
end Go.Proofs.YtppjleebbjipbaaGreat
namespace Go.Proofs.YtppjleebbjipbaaGreat
open Go.Deep Go.ChangeShapes Go.WideShapes Go.ChangeAt Go.RowKit
theorem nat16z {n:Int} (h:(Lit.int .u16 n).wf=true) : ∃ u:Nat,n=(u:Int)∧u < 65536:=by
 simp only [Lit.wf,zN,zM] at h
 have hn:0≤n∧n≤65535:=h
 exact ⟨n.toNat,by omega,by omega⟩
end Go.Proofs.YtppjleebbjipbaaGreat
