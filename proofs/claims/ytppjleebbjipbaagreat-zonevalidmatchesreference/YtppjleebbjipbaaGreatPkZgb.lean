/-
  A zone that was handed in.
-/
import Derived.Test.YtppjleebbjipbaaGreatPkZga
set_option linter.unusedSectionVars false
set_option linter.constructorNameAsVariable false
set_option linter.unusedVariables false
set_option linter.unusedSimpArgs false
namespace Go.Proofs.YtppjleebbjipbaaGreat
open Go.Deep Go.ChangeShapes Go.WideShapes Go.ChangeAt Go.RowKit
theorem listN2 {α:Type}:∀ {l:List α},l.length=2→∃ c0 c1,l = [c0,c1]
 | [c0,c1],_=>⟨c0,c1,rfl⟩
theorem listN3 {α:Type}:∀ {l:List α},l.length=3→∃ c0 c1 c2,l = [c0,c1,c2]
 | [c0,c1,c2],_=>⟨c0,c1,c2,rfl⟩
theorem listN4 {α:Type}:∀ {l:List α},l.length=4→∃ c0 c1 c2 c3,l = [c0,c1,c2,c3]
 | [c0,c1,c2,c3],_=>⟨c0,c1,c2,c3,rfl⟩
theorem listN5 {α:Type}:∀ {l:List α},l.length=5→∃ c0 c1 c2 c3 c4,l = [c0,c1,c2,c3,c4]
 | [c0,c1,c2,c3,c4],_=>⟨c0,c1,c2,c3,c4,rfl⟩
theorem listN8 {α:Type}:∀ {l:List α},l.length=8→∃ c0 c1 c2 c3 c4 c5 c6 c7,l = [c0,c1,c2,c3,c4,c5,c6,c7]
 | [c0,c1,c2,c3,c4,c5,c6,c7],_=>⟨c0,c1,c2,c3,c4,c5,c6,c7,rfl⟩
set_option maxRecDepth 100000
section
variable {H:Type} {enc:TypeId×Value→H} {W:World} {base:Nat} {spare:Nat→Bool} {held:Bool}
theorem int_at {n:Nat} {c:Value} {y:DataW H×List MemPlace} (q:DataW.trod enc Tryz.prog W base spare held n 3 [c]=some y) : ∃ u:Int,c=.int .i64 u:=by
 obtain ⟨n0,e0,_,w0⟩:=DataW.trod_int Tryz.underlying3 q
 have e0:[c] = [.int .i64 n0]:=e0
 cases e0
 exact ⟨n0,rfl⟩
theorem bool_at2 {n:Nat} {c:Value} {y:DataW H×List MemPlace} (q:DataW.trod enc Tryz.prog W base spare held n 4 [c]=some y) : ∃ b:Bool,c=.bool b:=an8 q
theorem rows_of {α:Type} [Inhabited α] {ST T z:Nat} {f:α→Array Value} (hu:Tryz.prog.underlying ST=some (.slice T)) (hz:Tryz.prog.cellsOf T=z) (h0:0 < z) (hsz:∀ d,(f d).size=z)
  (hrow:∀ {fuel:Nat} {cs:List Value} {y:DataW H×List MemPlace},DataW.trod enc Tryz.prog W base spare held fuel T cs=some y→∃ d,cs.toArray=f d)
  {fuel:Nat} {cs:List Value} {x:DataW H×List MemPlace} (hf:DataW.trod enc Tryz.prog W base spare held fuel ST cs=some x) : ∃ v l,cs = [v]∧a1m W v (List.length l) z (fun i=>f (l.getD i default))∧l.length < 9223372036854775808:=by
 rcases open_slice hu hf with ⟨hcs,hx⟩ | ⟨a,len,cap,m,n',D,Pl,hcs,hb,hlc,hm,hmm,hx,hel⟩
 ·exact ⟨_,[],hcs,⟨none,0,rfl,fun h=>absurd h (by simp)⟩,by simp⟩
 ·obtain ⟨ab,ao,spot⟩:=a
  have hlm:len≤m:=by rw [hmm];split<;>omega
  have hd:∀ i,∃ d:α,i < len→∃ cs:List Value,cs.length=z∧(∀ j,j < z→W.cell? ((⟨ab,ao,spot⟩:Addr).add (i * z) |>.add j)=cs[j]?)∧cs.toArray=f d:=fun i=>by
   by_cases hi:i < len
   ·obtain ⟨cs',c1,c2⟩:=hel i (by omega)
    rw [hz] at c1
    obtain ⟨_,c3,c4⟩:=World.cells?_some c1
    obtain ⟨d,hv⟩:=hrow c2
    exact ⟨d,fun _=>⟨cs',c3,c4,hv⟩⟩
   ·exact ⟨default,fun q=>absurd q hi⟩
  obtain ⟨ds,hds⟩:=Classical.axiomOfChoice hd
  have hlen:((List.range len).map ds).length=len:=by simp
  have hget:∀ i,i < len→((List.range len).map ds).getD i default=ds i:=fun i hi=>by simp [List.getD_eq_getElem?_getD,hi]
  refine ⟨_,(List.range len).map ds,hcs,⟨some ⟨ab,ao,spot⟩,cap,by rw [hlen],fun hn0=>?_⟩,by rw [hlen];have:cap≤2 ^ 63 - 1:=hm;omega⟩
  rw [hlen] at hn0
  have hcell:∀ i j,i < len→j < z→∃ u,W.cell? ((⟨ab,ao,spot⟩:Addr).add (i * z) |>.add j)=some u:=fun i j hi hj=>by
   obtain ⟨cs,h1,h2,_⟩:=hds i hi
   exact ⟨cs[j],by rw [h2 j hj,List.getElem?_eq_getElem (by omega)]⟩
  have hspot:spot=none:=by
   obtain ⟨u,hu⟩:=hcell 0 0 hn0 h0
   simpa [Addr.add] using World.cell?_spot hu
  subst hspot
  have hrow' : ∃ row T fr,obj W ab=some (.cells row T fr):=by
   obtain ⟨u,hu0⟩:=hcell 0 0 hn0 h0
   have hu:W.cell? ⟨ab,ao,none⟩=some u:=by simpa [Addr.add] using hu0
   unfold World.cell? at hu
   show ∃ row T fr,W.heap[ab]? = _
   split at hu
   ·rename_i row T fr hq
    exact ⟨row,T,fr,hq⟩
   ·cases hu
  obtain ⟨row,T',fr,hob⟩:=hrow'
  refine ⟨ab,ao,row,T',fr,rfl,hob,fun i hi=>?_⟩
  rw [hlen] at hi
  show _∧_=f (((List.range len).map ds).getD i default)
  rw [hget i hi]
  obtain ⟨cs,h1,h2,h3⟩:=hds i hi
  have h2':∀ j,j < z→row[ao+i * z+j]? = cs[j]? := fun j hj=>by
   have:=h2 j hj
   rw [Addr.add_lit,Addr.add_lit] at this
   rw [← this,a02 hob]
  have h4:ao+i * z+z≤row.size:=by
   have:=h2' (z - 1) (by omega)
   rw [List.getElem?_eq_getElem (by omega)] at this
   have:=(Array.getElem?_eq_some_iff.1 this).1
   omega
  refine ⟨h4,?_⟩
  rw [← h3]
  apply Array.ext_getElem?
  intro j
  rw [Array.getElem?_extract]
  by_cases hj:j < z
  ·rw [if_pos (by omega),h2' j hj];simp
  ·rw [if_neg (by omega),List.getElem?_toArray,List.getElem?_eq_none (by omega)]
theorem intsz_of {fuel:Nat} {cs:List Value} {x:DataW H×List MemPlace} (hf:DataW.trod enc Tryz.prog W base spare held fuel 28 cs=some x) : ∃ v l,cs = [v]∧a1s W v l∧l.length < 9223372036854775808:=by
 obtain ⟨v,l,h1,⟨ao,c,h2,h3⟩,h4⟩:=rows_of (α:=Int) (z:=1) (f:=fun n=>#[.int .i64 n]) Tryz.underlying28 (by kernel_rfl) (by omega) (fun _=>rfl) (fun {fuel cs y} h=>by
  obtain ⟨n0,e0,_,w0⟩:=DataW.trod_int Tryz.underlying3 h
  exact ⟨n0,by rw [e0]⟩) hf
 refine ⟨v,l,h1,⟨ao,c,h2,fun hn=>?_⟩,h4⟩
 obtain ⟨b,o,row,T,fr,q1,q2,q3⟩:=h3 hn
 refine ⟨b,o,row,T,fr,q1,q2,fun i hi=>?_⟩
 obtain ⟨p1,p2⟩:=q3 i hi
 have:=congrArg (fun a:Array Value=>a[0]?) p2
 simp only [Array.getElem?_extract] at this
 rw [if_pos (by omega)] at this
 simpa using this
theorem lrz_of {fuel:Nat} {cs:List Value} {y:DataW H×List MemPlace} (h:DataW.trod enc Tryz.prog W base spare held fuel 95 cs=some y) : ∃ d:Zn.LR,cs.toArray=aa0 d:=by
 obtain ⟨xs,n,_,rfl,hl,hlen,hf⟩:=DataW.trod_struct Tryz.underlying95 h
 rw [show Tryz.prog.cellsOf 95=3 by kernel_rfl] at hl
 obtain ⟨c0,c1,c2,rfl⟩:=listN3 hl
 obtain ⟨y0,y1,y2,rfl⟩:=listN3 (show xs.length=3 from hlen)
 have ki:Tryz.prog.cellsOf 3=1:=by kernel_rfl
 have kb:Tryz.prog.cellsOf 4=1:=by kernel_rfl
 have q0:DataW.trod enc Tryz.prog W base spare held n 3 (([c0,c1,c2].drop 0).take (Tryz.prog.cellsOf 3))=some y0:=hf 0 _ rfl
 rw [ki] at q0
 obtain ⟨n0,e0⟩:=int_at (c:=c0) q0
 have q1:DataW.trod enc Tryz.prog W base spare held n 3 (([c0,c1,c2].drop 1).take (Tryz.prog.cellsOf 3))=some y1:=hf 1 _ rfl
 rw [ki] at q1
 obtain ⟨n1,e1⟩:=int_at (c:=c1) q1
 have q2:DataW.trod enc Tryz.prog W base spare held n 4 (([c0,c1,c2].drop 2).take (Tryz.prog.cellsOf 4))=some y2:=hf 2 _ rfl
 rw [kb] at q2
 obtain ⟨n2,e2⟩:=bool_at2 (c:=c2) q2
 subst e0 e1 e2
 exact ⟨⟨n0,n1,n2⟩,rfl⟩
theorem trz_of {fuel:Nat} {cs:List Value} {y:DataW H×List MemPlace} (h:DataW.trod enc Tryz.prog W base spare held fuel 57 cs=some y) : ∃ d:Zn.Tr,cs.toArray=a7c d:=by
 obtain ⟨xs,n,_,rfl,hl,hlen,hf⟩:=DataW.trod_struct Tryz.underlying57 h
 rw [show Tryz.prog.cellsOf 57=2 by kernel_rfl] at hl
 obtain ⟨c0,c1,rfl⟩:=listN2 hl
 obtain ⟨y0,y1,rfl⟩:=listN2 (show xs.length=2 from hlen)
 have ki:Tryz.prog.cellsOf 3=1:=by kernel_rfl
 have kb:Tryz.prog.cellsOf 4=1:=by kernel_rfl
 have q0:DataW.trod enc Tryz.prog W base spare held n 3 (([c0,c1].drop 0).take (Tryz.prog.cellsOf 3))=some y0:=hf 0 _ rfl
 rw [ki] at q0
 obtain ⟨n0,e0⟩:=int_at (c:=c0) q0
 have q1:DataW.trod enc Tryz.prog W base spare held n 3 (([c0,c1].drop 1).take (Tryz.prog.cellsOf 3))=some y1:=hf 1 _ rfl
 rw [ki] at q1
 obtain ⟨n1,e1⟩:=int_at (c:=c1) q1
 subst e0 e1
 exact ⟨⟨n0,n1⟩,rfl⟩
theorem yrz_of {fuel:Nat} {cs:List Value} {y:DataW H×List MemPlace} (h:DataW.trod enc Tryz.prog W base spare held fuel 84 cs=some y) : ∃ d:Zn.YR,cs.toArray=age d:=by
 obtain ⟨xs,n,_,rfl,hl,hlen,hf⟩:=DataW.trod_struct Tryz.underlying84 h
 rw [show Tryz.prog.cellsOf 84=5 by kernel_rfl] at hl
 obtain ⟨c0,c1,c2,c3,c4,rfl⟩:=listN5 hl
 obtain ⟨y0,y1,y2,y3,y4,rfl⟩:=listN5 (show xs.length=5 from hlen)
 have ki:Tryz.prog.cellsOf 3=1:=by kernel_rfl
 have kb:Tryz.prog.cellsOf 4=1:=by kernel_rfl
 have q0:DataW.trod enc Tryz.prog W base spare held n 3 (([c0,c1,c2,c3,c4].drop 0).take (Tryz.prog.cellsOf 3))=some y0:=hf 0 _ rfl
 rw [ki] at q0
 obtain ⟨n0,e0⟩:=int_at (c:=c0) q0
 have q1:DataW.trod enc Tryz.prog W base spare held n 3 (([c0,c1,c2,c3,c4].drop 1).take (Tryz.prog.cellsOf 3))=some y1:=hf 1 _ rfl
 rw [ki] at q1
 obtain ⟨n1,e1⟩:=int_at (c:=c1) q1
 have q2:DataW.trod enc Tryz.prog W base spare held n 3 (([c0,c1,c2,c3,c4].drop 2).take (Tryz.prog.cellsOf 3))=some y2:=hf 2 _ rfl
 rw [ki] at q2
 obtain ⟨n2,e2⟩:=int_at (c:=c2) q2
 have q3:DataW.trod enc Tryz.prog W base spare held n 3 (([c0,c1,c2,c3,c4].drop 3).take (Tryz.prog.cellsOf 3))=some y3:=hf 3 _ rfl
 rw [ki] at q3
 obtain ⟨n3,e3⟩:=int_at (c:=c3) q3
 have q4:DataW.trod enc Tryz.prog W base spare held n 3 (([c0,c1,c2,c3,c4].drop 4).take (Tryz.prog.cellsOf 3))=some y4:=hf 4 _ rfl
 rw [ki] at q4
 obtain ⟨n4,e4⟩:=int_at (c:=c4) q4
 subst e0 e1 e2 e3 e4
 exact ⟨⟨n0,n1,n2,n3,n4⟩,rfl⟩
theorem calz_of {fuel:Nat} {cs:List Value} {y:DataW H×List MemPlace} (h:DataW.trod enc Tryz.prog W base spare held fuel 31 cs=some y) : ∃ (c:Zn.Cal) (mv rv:Value),a8w W c mv rv∧c.a0g.length < 9223372036854775808∧c.rules.length < 9223372036854775808∧cs = [.int .i64 c.a08,mv,.int .i64 c.a0l,rv]:=by
 obtain ⟨xs,n,_,rfl,hl,hlen,hf⟩:=DataW.trod_struct Tryz.underlying31 h
 rw [show Tryz.prog.cellsOf 31=4 by kernel_rfl] at hl
 obtain ⟨c0,c1,c2,c3,rfl⟩:=listN4 hl
 obtain ⟨y0,y1,y2,y3,rfl⟩:=listN4 (show xs.length=4 from hlen)
 have q0:DataW.trod enc Tryz.prog W base spare held n 3 (([c0,c1,c2,c3].drop 0).take (Tryz.prog.cellsOf 3))=some y0:=hf 0 _ rfl
 rw [show Tryz.prog.cellsOf 3=1 by kernel_rfl] at q0
 have q1:DataW.trod enc Tryz.prog W base spare held n 28 (([c0,c1,c2,c3].drop 1).take (Tryz.prog.cellsOf 28))=some y1:=hf 1 _ rfl
 rw [show Tryz.prog.cellsOf 28=1 by kernel_rfl] at q1
 have q2:DataW.trod enc Tryz.prog W base spare held n 3 (([c0,c1,c2,c3].drop 2).take (Tryz.prog.cellsOf 3))=some y2:=hf 2 _ rfl
 rw [show Tryz.prog.cellsOf 3=1 by kernel_rfl] at q2
 have q3:DataW.trod enc Tryz.prog W base spare held n 29 (([c0,c1,c2,c3].drop 3).take (Tryz.prog.cellsOf 29))=some y3:=hf 3 _ rfl
 rw [show Tryz.prog.cellsOf 29=1 by kernel_rfl] at q3
 obtain ⟨n0,e0⟩:=int_at (c:=c0) q0
 obtain ⟨mv,ml,e1,hm,hml⟩:=intsz_of q1
 obtain ⟨n2,e2⟩:=int_at (c:=c2) q2
 obtain ⟨rv,rl,e3,hr,hrl⟩:=rows_of (α:=Zn.LR) (z:=3) (f:=aa0) Tryz.underlying29 (by kernel_rfl) (by omega) (fun _=>rfl) lrz_of q3
 have e1:[c1] = [mv]:=e1
 have e3:[c3] = [rv]:=e3
 cases e1
 cases e3
 subst e0 e2
 exact ⟨⟨n0,ml,n2,rl⟩,c1,c3,⟨hm,hr⟩,hml,hrl,rfl⟩
theorem zonez_of {fuel:Nat} {cs:List Value} {y:DataW H×List MemPlace} (h:DataW.trod enc Tryz.prog W base spare held fuel 35 cs=some y) : ∃ (z:Zn.a0w) (mv rv tv yv:Value),a1q W z mv rv tv yv∧z.cal.rules.length < 9223372036854775808∧z.cal.a0g.length < 9223372036854775808∧cs.toArray=#[.int .i64 z.cal.a08,mv,.int .i64 z.cal.a0l,rv,.int .i64 z.start,tv,.int .i64 z.hor,yv]:=by
 obtain ⟨xs,n,_,rfl,hl,hlen,hf⟩:=DataW.trod_struct Tryz.underlying35 h
 rw [show Tryz.prog.cellsOf 35=8 by kernel_rfl] at hl
 obtain ⟨c0,c1,c2,c3,c4,c5,c6,c7,rfl⟩:=listN8 hl
 obtain ⟨y0,y1,y2,y3,y4,rfl⟩:=listN5 (show xs.length=5 from hlen)
 have q0:DataW.trod enc Tryz.prog W base spare held n 31 (([c0,c1,c2,c3,c4,c5,c6,c7].drop 0).take (Tryz.prog.cellsOf 31))=some y0:=hf 0 _ rfl
 rw [show Tryz.prog.cellsOf 31=4 by kernel_rfl] at q0
 have q1:DataW.trod enc Tryz.prog W base spare held n 3 (([c0,c1,c2,c3,c4,c5,c6,c7].drop 4).take (Tryz.prog.cellsOf 3))=some y1:=hf 1 _ rfl
 rw [show Tryz.prog.cellsOf 3=1 by kernel_rfl] at q1
 have q2:DataW.trod enc Tryz.prog W base spare held n 32 (([c0,c1,c2,c3,c4,c5,c6,c7].drop 5).take (Tryz.prog.cellsOf 32))=some y2:=hf 2 _ rfl
 rw [show Tryz.prog.cellsOf 32=1 by kernel_rfl] at q2
 have q3:DataW.trod enc Tryz.prog W base spare held n 3 (([c0,c1,c2,c3,c4,c5,c6,c7].drop 6).take (Tryz.prog.cellsOf 3))=some y3:=hf 3 _ rfl
 rw [show Tryz.prog.cellsOf 3=1 by kernel_rfl] at q3
 have q4:DataW.trod enc Tryz.prog W base spare held n 33 (([c0,c1,c2,c3,c4,c5,c6,c7].drop 7).take (Tryz.prog.cellsOf 33))=some y4:=hf 4 _ rfl
 rw [show Tryz.prog.cellsOf 33=1 by kernel_rfl] at q4
 obtain ⟨c,mv,rv,hc,hml,hrl,e0⟩:=calz_of q0
 obtain ⟨n1,e1⟩:=int_at (c:=c4) q1
 obtain ⟨tv,tl,e2,ht,_⟩:=rows_of (α:=Zn.Tr) (z:=2) (f:=a7c) Tryz.underlying32 (by kernel_rfl) (by omega) (fun _=>rfl) trz_of q2
 obtain ⟨n3,e3⟩:=int_at (c:=c6) q3
 obtain ⟨yv,yl,e4,hy,_⟩:=rows_of (α:=Zn.YR) (z:=5) (f:=age) Tryz.underlying33 (by kernel_rfl) (by omega) (fun _=>rfl) yrz_of q4
 have e0:[c0,c1,c2,c3]=_:=e0
 have e2:[c5] = [tv]:=e2
 have e4:[c7] = [yv]:=e4
 cases e0
 cases e2
 cases e4
 subst e1 e3
 exact ⟨⟨c,n1,tl,n3,yl⟩,c1,c3,c5,c7,⟨hc,ht,hy⟩,hrl,hml,rfl⟩
theorem zonez_arg {v:Value} {d:DataW H} {p:List MemPlace} (hv:Value.okWide Tryz.prog W .any base 35 v) (h:DataW.Trod enc Tryz.prog W 0 spare held 35 v d p) : ∃ (z:Zn.a0w) (mv rv tv yv:Value),a1q W z mv rv tv yv∧z.cal.rules.length < 9223372036854775808∧z.cal.a0g.length < 9223372036854775808∧v=.agg #[.int .i64 z.cal.a08,mv,.int .i64 z.cal.a0l,rv,.int .i64 z.start,tv,.int .i64 z.hor,yv]:=by
 obtain ⟨fuel,hf⟩:=h
 obtain ⟨cs,rfl,_⟩:=okWide_struct Tryz.underlying35 hv
 obtain ⟨z,mv,rv,tv,yv,hz,hr,hm,e⟩:=zonez_of hf
 refine ⟨z,mv,rv,tv,yv,hz,hr,hm,?_⟩
 rw [← e]
 simp [Value.cells]
end
end Go.Proofs.YtppjleebbjipbaaGreat
