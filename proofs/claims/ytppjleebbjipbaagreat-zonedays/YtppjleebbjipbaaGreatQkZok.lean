/-
  kalendsref13.Made.
-/
import Derived.Test.YtppjleebbjipbaaGreatQkZod
import Derived.Test.YtppjleebbjipbaaGreatQkZoj
set_option linter.all false
namespace Zn
structure Raw where
 start:Nat
 a6v:List Nat
 a5z:List Nat
 behind:Nat
 y0:Nat
 y1:Nat
 y2:Nat
 y3:Nat
 y4:Nat
 y5:Nat
 y6:Nat
 y7:Nat
 cal:Nat
 rules:Bool
structure Raw.In (x:Raw):Prop where
 s:x.start < 256
 g:∀ i,i < x.a6v.length→x.a6v.getD i 0 < 256
 o:∀ i,i < x.a5z.length→x.a5z.getD i 0 < 256
 b:x.behind < 256
 h0:x.y0 < 256
 h1:x.y1 < 256
 h2:x.y2 < 256
 h3:x.y3 < 256
 h4:x.y4 < 256
 h5:x.y5 < 256
 h6:x.y6 < 256
 h7:x.y7 < 256
 c:x.cal < 256
def a0t (x:Raw):Cal:=if x.cal % 2=1 then ⟨5,[7,8],1,[⟨2,((x.cal / 2 % 2:Nat):Int),true⟩]⟩ else ⟨2,[7,6],-1,[]⟩
def a1j (x:Raw):Nat:=min (min x.a6v.length x.a5z.length) 3
def a3b (x:Raw):Nat→Int
 | 0=>0
 | i+1=>a3b x i+2160+20 * ((x.a6v.getD i 0:Nat):Int)
def a1a (x:Raw):Nat→List Tr
 | 0=>[]
 | i+1=>a1a x i ++ [⟨a3b x (i+1),a1c (x.a5z.getD i 0)⟩]
def a3a (x:Raw):Int:=a3b x (a1j x)+2160+20 * (x.behind:Int)
def aio (x:Raw):List YR:=[⟨1,if x.y3 % 2=1 then 5 else 1,((x.y0 % 3:Nat):Int),(x.y1:Int) * 5,a1c (x.y2 % 5)⟩,⟨2,if x.y7 % 2=1 then 5 else 1,((x.y4 % 3:Nat):Int),(x.y5:Int) * 5,a1c (x.y6 % 5)⟩]
def aca (x:Raw):a0w:=⟨a0t x,a1c x.start,a1a x (a1j x),a3a x,[]⟩
def made1 (x:Raw):a0w:=⟨a0t x,a1c x.start,a1a x (a1j x),a3a x,aio x⟩
noncomputable def made (x:Raw):a0w:=if x.rules=true∧a3o (made1 x)=true then made1 x else aca x
theorem a1n (x:Raw):∀ k,(a1a x k).length=k
 | 0=>rfl
 | k+1=>by show (a1a x k ++ [_]).length=_;rw [zX,a1n x k];rfl
theorem a6h {x:Raw} (h:x.In):∀ k,0≤a3b x k∧a3b x k≤7260 * k
 | 0=>by simp [a3b]
 | k+1=>by
  have h1:=a6h h k
  have h2:x.a6v.getD k 0 < 256:=by
   rcases zU k x.a6v.length with hk | hk
   ·exact h.g k hk
   ·rw [zB,List.getElem?_eq_none hk];decide
  unfold a3b
  omega
end Zn
namespace Go.Proofs.YtppjleebbjipbaaGreat
open Go.RowKit Go.Shelf
set_option maxRecDepth 20000
set_option maxHeartbeats 8000000
def U8V (W:World) (v:Value) (l:List Nat):Prop := ∃ ao c,v=.slice ao l.length c∧(0 < l.length→∃ b o row T fr,ao=some ⟨b,o,none⟩∧obj W b=some (.cells row T fr)∧∀ i,i < l.length→row[o+i]? = some (.int .u8 ((l.getD i 0:Nat):Int)))
theorem U8V.below {W W':World} {v:Value} {l:List Nat} (h:U8V W v l) (hb:Below W W W'):U8V W' v l:=by
 obtain ⟨ao,c,e,h⟩:=h
 refine ⟨ao,c,e,fun hl=>?_⟩
 obtain ⟨b,o,row,T,fr,h1,h2,h3⟩:=h hl
 exact ⟨b,o,row,T,fr,h1,a0a h2 hb,h3⟩
def a5o (v:Value) (g:Nat):Prop:=∀ o m c,v≠.slice (some ⟨g,o,none⟩) m c
theorem a8w.ahc {W W':World} {c:Zn.Cal} {mv rv:Value} {g:Nat} (h:a8w W c mv rv) (h1:a5o mv g) (h2:a5o rv g) (hb:a1x W.heap.size (fun q=>q=g) W W'):a8w W' c mv rv:=by
 refine ⟨?_,?_⟩
 ·obtain ⟨ao,cc,e,h⟩:=h.mon
  refine ⟨ao,cc,e,fun hl=>?_⟩
  obtain ⟨b,o,row,T,fr,q1,q2,q3⟩:=h hl
  exact ⟨b,o,row,T,fr,q1,hb.obj q2 (a09 q2) (fun e2=>h1 o _ _ (by subst e2;rw [e,q1])),q3⟩
 obtain ⟨ao,cc,e,h⟩:=h.rul
 refine ⟨ao,cc,e,fun hl=>?_⟩
 obtain ⟨b,o,row,T,fr,q1,q2,q3⟩:=h hl
 exact ⟨b,o,row,T,fr,q1,hb.obj q2 (a09 q2) (fun e2=>h2 o _ _ (by subst e2;rw [e,q1])),q3⟩
theorem a1x.grown {B:Nat} {S:Nat→Prop} {A W W':World} {r:Option Nat} (h:a1x B S A W) (hg:W.grownBy W' r) (hB:B≤A.heap.size) (hr:∀ k,r=some k→B≤k):a1x B S A W' :=
 ⟨hg.os.trans h.os,hg.tape.trans h.tape,hg.output.trans h.output,yG h.size hg.size,fun k hk hn=>(hg.block k (xP hk (yG hB h.size)) (fun e=>by have:=hr k e.symm;omega)).trans (h.block k hk hn)⟩
theorem a1x.one {B g:Nat} {A W W':World} (h:a1x B (fun q=>q=g) A W) (hs:a9e g W W'):a1x B (fun q=>q=g) A W' :=
 ⟨hs.os.trans h.os,hs.tape.trans h.tape,hs.output.trans h.output,by rw [hs.size];exact h.size,fun k hk hn=>(hs.block k hn).trans (h.block k hk hn)⟩
theorem a4a (w:World) (g i:Nat) (v:Value):a9e g w (w.setCell ⟨g,i,none⟩ v):=⟨rfl,rfl,rfl,by simp,fun k hk=>zO _ _ _ _ hk⟩
theorem a1m.ahc {W W':World} {v:Value} {n k:Nat} {f:Nat→Array Value} {g:Nat} (h:a1m W v n k f) (h1:a5o v g) (hb:a9e g W W'):a1m W' v n k f:=by
 obtain ⟨ao,cc,e,h⟩:=h
 refine ⟨ao,cc,e,fun hl=>?_⟩
 obtain ⟨b,o,row,T,fr,q1,q2,q3⟩:=h hl
 exact ⟨b,o,row,T,fr,q1,hb.obj q2 (fun e2=>h1 o _ _ (by subst e2;rw [e,q1])),q3⟩
theorem a9e.belX {g:Nat} {w w':World} (h:a9e g w w'):a1x w.heap.size (fun q=>q=g) w w':=⟨h.os,h.tape,h.output,by rw [h.size];exact zD _,fun k _ hn=>h.block k hn⟩
theorem a1q.only {W W':World} {z:Zn.a0w} {mv rv tv yv:Value} {g:Nat} (h:a1q W z mv rv tv yv) (h1:a5o mv g) (h2:a5o rv g) (h3:a5o tv g) (h4:a5o yv g) (hb:a9e g W W'):a1q W' z mv rv tv yv :=
 ⟨h.cal.ahc h1 h2 hb.belX,a1m.ahc h.tr h3 hb,a1m.ahc h.yr h4 hb⟩
theorem a7f (w:World) (g:Nat) (cs:Array Value):a9e g w (w.setRow g cs):=⟨rfl,rfl,rfl,by simp,fun k hk=>wZ _ _ _ _ hk⟩
theorem a9q {w:World} {base T z n g:Nat} {v:Value} {xs:List Value} (h:w.ownsRow base T z v n xs) (hg:g < base):a5o v g:=fun o m c e=>by
 have:=a1p h (g:=g) (by rw [e];rfl)
 omega
theorem aar (g:Nat):a5o (.slice none 0 0) g:=fun o m c e=>by injection e with e;cases e
theorem amn : ∃ i,Tryz.prog.info? 84=some i∧i.zero=some (.agg #[(0:Int),(0:Int),(0:Int),(0:Int),(0:Int)])∧i.size=5∧i.bytes=40 :=
 info_parts (show (Tryz.prog.info? 84).map (fun i=>(i.zero,i.size,i.bytes))=some (some (.agg #[(0:Int),(0:Int),(0:Int),(0:Int),(0:Int)]),5,40) by kernel_rfl)
def aej:List Zn.YR→List Value
 | []=>[]
 | r :: l=>.int .i64 r.mon :: .int .i64 r.wk :: .int .i64 r.wd :: .int .i64 r.mn :: .int .i64 r.off :: aej l
theorem afg:∀ l:List Zn.YR,(aej l).length=l.length * 5
 | []=>rfl
 | r :: l=>by simp only [aej,yS,afg l];omega
theorem afh:∀ (l:List Zn.YR) (i j:Nat),i < l.length→j < 5→(aej l)[i * 5+j]? = (age (l.getD i default))[j]?
 | r :: l,0,j,_,hj=>by
  rcases j with _ | _ | _ | _ | _ | j
  ·rfl
  ·rfl
  ·rfl
  ·rfl
  ·rfl
  ·omega
 | r :: l,i+1,j,h,hj=>by
  have:=afh l i j (by simpa using h) hj
  rw [show (i+1) * 5+j=i * 5+j+5 by omega]
  show (aej l)[i * 5+j]? = _
  rw [this]
  rfl
theorem ac6 {w:World} {base:Nat} {v:Value} {n:Nat} {l:List Zn.YR} (h:w.ownsRow base 84 5 v n (aej l)):l.length=n∧arw w v l∧∃ a c,v=.slice a n c:=by
 have hl:l.length=n:=by have:=h.1;rw [afg] at this;omega
 refine ⟨hl,?_,?_⟩
 ·rcases h.2 with ⟨rfl,h0⟩ | ⟨g,c,cur,rfl,h1,h2,h3,h4,h5,h6⟩
  ·exact ⟨none,0,by rw [hl,h0],fun hn=>by omega⟩
  have hmul:=Nat.mul_le_mul_right 5 h3
  refine ⟨_,c,by rw [hl],fun _=>⟨g,0,cur,84,(0,0),rfl,h2,fun i hi=>⟨by omega,?_⟩⟩⟩
  apply wQ
  intro j
  rw [wG]
  by_cases hj:j < 5
  ·rw [zQ (by omega),yI]
   have hg:=afh l i j hi hj;rw [← h6,xQ,zQ (by omega),yU] at hg;exact hg
  rw [zS (by omega),Array.getElem?_eq_none (by show (age _).size≤j;simp [age];omega)]
 rcases h.2 with ⟨rfl,h0⟩ | ⟨g,c,cur,rfl,_⟩
 ·exact ⟨none,0,by rw [h0]⟩
 exact ⟨_,c,rfl⟩
theorem a6e {w:World} {ops:Array Oper} {rest:List Oper} {o:Oper} {a:Act} {Q:Exit→Act→World→Prop} (hgd:o.guard=none) (s x:Operand)
  (ho:o.op=.call { callee:=.builtin .append,args:=#[s,x],argTypes:=#[33,33] })
  (base k:Nat) (v:Value) (l:List Zn.YR) (hs:a.eval s=v) (hown:w.ownsRow base 84 5 v k (aej l))
  (g:Nat) (t:Zn.YR) (hx:a.eval x=.slice (some ⟨g,0,none⟩) 1 1) (hg:obj w g=some (.cells #[t.mon,t.wk,t.wd,t.mn,t.off] 84 (0,0))) (h63:k≤1000000000000) (hb:base≤w.heap.size)
  (h:∀ v' w',w'.ownsRow base 84 5 v' (k+1) (aej l++aej [t])→w.grownBy w' v.ownBlock→wpList Tryz.prog ops Q rest (a.put o.dst v') w'):wpList Tryz.prog ops Q (o :: rest) a w:=by
 obtain ⟨i0,hi,hz0,hz1,hz2⟩:=amn
 refine uD w hgd s x _ ho base _ i0 _ 5 40 Tryz.underlying33 hi hz0 hz1 hz2 rfl (by decide) v k _ hs hown ⟨g,0,none⟩ 1 1 (aej [t]) hx rfl (fun j q hq=>?_) (fun q hq=>?_) (by unfold maxLen;omega) (by omega) hb fun v' w' q1 q2 _=>h v' w' q1 q2
 ·rcases j with _ | _ | _ | _ | _ | j
  ·cases hq;exact a02 hg 0
  ·cases hq;exact a02 hg 1
  ·cases hq;exact a02 hg 2
  ·cases hq;exact a02 hg 3
  ·cases hq;exact a02 hg 4
  cases hq
 simp only [aej,yN,xE,or_false] at hq
 rcases hq with rfl | rfl | rfl | rfl | rfl<;>rfl
theorem aif {w w':World} {base arv T T2 z z2:Nat} {v v2:Value} {n n2:Nat} {xs xs2:List Value} (h:w.ownsRow base T z v n xs) (h2:w.ownsRow arv T2 z2 v2 n2 xs2) (hT:T2≠T) (hg:w.grownBy w' v2.ownBlock):w'.ownsRow base T z v n xs:=by
 refine ⟨h.1,h.2.imp id fun ⟨g,cap,cur,e,h1,q2,h3⟩=>⟨g,cap,cur,e,h1,?_,h3⟩⟩
 exact (hg.block g (a09 (w:=w) q2) (fun e=>a2f h2 (show obj w g=_ from q2) hT e.symm)).trans q2
theorem a95 {w:World} {base T z g n c:Nat} {xs:List Value} (h:w.ownsRow base T z (.slice (some ⟨g,0,none⟩) n c) n xs) (i:Nat) (u:Value) (hi:i < n * z):(w.setCell ⟨g,i,none⟩ u).ownsRow base T z (.slice (some ⟨g,0,none⟩) n c) n (xs.set i u):=by
 rcases h.2 with ⟨e,_⟩ | ⟨g',c',cur,e,h1,h2,h3,h4,h5,h6⟩
 ·cases e
 cases e
 refine ⟨by rw [uK];exact h.1,.inr ⟨g,c,cur.setIfInBounds i u,rfl,h1,?_,h3,h4,by simpa using h5,?_⟩⟩
 ·have e1:obj (w.setCell ⟨g,i,none⟩ u) g=some (.cells (cur.setIfInBounds i u) T (0,0)):=by rw [a0c,show obj w g=_ from h2];rfl
  exact e1
 rw [← h6,Array.toList_setIfInBounds,List.take_set]
theorem a1x.own {B g i:Nat} {u:Value} {A W:World} {S:Nat→Prop} (h:a1x B S A W) (hg:B≤g) (hB:B≤A.heap.size):a1x B S A (W.setCell ⟨g,i,none⟩ u) :=
 ⟨h.os,h.tape,h.output,by simpa using h.size,fun k hk hn=>(zO _ _ _ _ (show k≠g by omega)).trans (h.block k hk hn)⟩
theorem aml {W:World} {b:Nat} {a c:Int} (h:obj W b=some (.cells #[a,c] 3 (0,0))):a1s W (.slice (some ⟨b,0,none⟩) 2 2) [a,c] :=
 ⟨some ⟨b,0,none⟩,2,rfl,fun _=>⟨b,0,_,_,_,rfl,h,fun i hi=>by
  have hi2:i < 2:=hi
  rcases i with _ | _ | i
  ·rfl
  ·rfl
  ·omega⟩⟩
theorem ao7 {W:World} {b:Nat} {a c:Int} {e:Bool} (h:obj W b=some (.cells #[a,c,.bool e] 95 (0,0))):agc W (.slice (some ⟨b,0,none⟩) 1 1) [⟨a,c,e⟩] :=
 ⟨some ⟨b,0,none⟩,1,rfl,fun _=>⟨b,0,_,_,_,rfl,h,fun i hi=>by
  have hi2:i < 1:=hi
  obtain rfl:i=0:=by omega
  exact ⟨zD 3,rfl⟩⟩⟩
theorem aax {w:World} {ops:Array Oper} {rest:List Oper} {o:Oper} {a:Act} {Q:Exit→Act→World→Prop} (hgd:o.guard=none) (p v:Operand) (ho:o.op=.store 31 p v)
  {g:Nat} {x0 x1 x2 x3 x4 x5 x6 x7:Value} (hg:obj w g=some (.cells #[x0,x1,x2,x3,x4,x5,x6,x7] 35 (0,0))) (hp:a.eval p=.pointer (some ⟨g,0,none⟩)) (c0 c1 c2 c3:Value) (hv:a.eval v=.agg #[c0,c1,c2,c3])
  (h1:c0.oneCell' = true) (h2:c1.oneCell' = true) (h3:c2.oneCell' = true) (h4:c3.oneCell' = true)
  (h:∀ w',obj w' g=some (.cells #[c0,c1,c2,c3,x4,x5,x6,x7] 35 (0,0))→a9e g w w'→wpList Tryz.prog ops Q rest (a.put o.dst undef) w'):wpList Tryz.prog ops Q (o :: rest) a w:=by
 refine wpList_store_mid hgd _ p v ho g 0 _ hp hv (fun j hj=>⟨?_,a0d hg _⟩) (by kernel_rfl) (by simp [h1,h2,h3,h4]) (h _ ?_ ⟨rfl,rfl,rfl,by simp [World.setCells],fun k hk=>?_⟩)
 ·have hj2:j < 4:=hj
  rw [a02 hg]
  rcases j with _ | _ | _ | _ | j
  ·rfl
  ·rfl
  ·rfl
  ·rfl
  omega
 ·have e1:obj (w.setCell ⟨g,0,none⟩ c0) g=some (.cells #[c0,x1,x2,x3,x4,x5,x6,x7] 35 (0,0)):=by rw [a0c,hg];rfl
  have e2:obj ((w.setCell ⟨g,0,none⟩ c0).setCell ⟨g,1,none⟩ c1) g=some (.cells #[c0,c1,x2,x3,x4,x5,x6,x7] 35 (0,0)):=by rw [a0c,e1];rfl
  have e3:obj (((w.setCell ⟨g,0,none⟩ c0).setCell ⟨g,1,none⟩ c1).setCell ⟨g,2,none⟩ c2) g=some (.cells #[c0,c1,c2,x3,x4,x5,x6,x7] 35 (0,0)):=by rw [a0c,e2];rfl
  have e4:obj ((((w.setCell ⟨g,0,none⟩ c0).setCell ⟨g,1,none⟩ c1).setCell ⟨g,2,none⟩ c2).setCell ⟨g,3,none⟩ c3) g=some (.cells #[c0,c1,c2,c3,x4,x5,x6,x7] 35 (0,0)):=by rw [a0c,e3];rfl
  exact e4
 exact (zO _ _ _ _ hk).trans ((zO _ _ _ _ hk).trans ((zO _ _ _ _ hk).trans (zO _ _ _ _ hk)))
def OwnZ (W w':World) (z:Zn.a0w) (mv rv tv yv:Value):Prop := ∃ n1,W.heap.size≤n1∧n1≤w'.heap.size∧w'.ownsRow n1 57 2 tv z.trans.length (a4g z.trans)∧w'.ownsRow n1 84 5 yv z.a0b.length (aej z.a0b)∧∀ g,n1≤g→a5o mv g∧a5o rv g
theorem own_setRow {w:World} {base T z n g:Nat} {v:Value} {xs:List Value} (h:w.ownsRow base T z v n xs) (hg:g < base) (cs:Array Value):(w.setRow g cs).ownsRow base T z v n xs:=by
 refine ⟨h.1,h.2.imp id fun ⟨g',cap,cur,e,h1,h2,h3⟩=>⟨g',cap,cur,e,h1,?_,h3⟩⟩
 exact (wZ w g g' cs (by omega)).trans h2
theorem Made_own {W:World} {x:Zn.Raw} {gv ov:Value} (hx:x.In) (hg:U8V W gv x.a6v) (ho:U8V W ov x.a5z) :
  Calls Tryz.prog 16 #[.agg #[.int .u8 (x.start:Nat),gv,ov,.int .u8 (x.behind:Nat),.int .u8 (x.y0:Nat),.int .u8 (x.y1:Nat),.int .u8 (x.y2:Nat),.int .u8 (x.y3:Nat),.int .u8 (x.y4:Nat),.int .u8 (x.y5:Nat),.int .u8 (x.y6:Nat),.int .u8 (x.y7:Nat),.int .u8 (x.cal:Nat),.bool x.rules]] W fun e w'=>(∃ mv rv tv yv,e=.returned (.agg #[.int .i64 (Zn.made x).cal.a08,mv,.int .i64 (Zn.made x).cal.a0l,rv,.int .i64 (Zn.made x).start,tv,.int .i64 (Zn.made x).hor,yv])∧a1q w' (Zn.made x) mv rv tv yv∧OwnZ W w' (Zn.made x) mv rv tv yv)∧Below W W w':=by
 obtain ⟨ga,gc,rfl,hgq⟩:=hg
 obtain ⟨oa,oc,rfl,hoq⟩:=ho
 have HGQ:=zA hgq
 have HOQ:=zA hoq
 have HX:=zA hx
 clear hgq hoq
 have hon:ones #[.int .u8 (x.start:Nat),.slice ga x.a6v.length gc,.slice oa x.a5z.length oc,.int .u8 (x.behind:Nat),.int .u8 (x.y0:Nat),.int .u8 (x.y1:Nat),.int .u8 (x.y2:Nat),.int .u8 (x.y3:Nat),.int .u8 (x.y4:Nat),.int .u8 (x.y5:Nat),.int .u8 (x.y6:Nat),.int .u8 (x.y7:Nat),.int .u8 (x.cal:Nat),.bool x.rules]=true:=by simp [ones,a0n,Value.oneCell']
 have o0:obj ((W.alloc (.cells #[.int .u8 (x.start:Nat),.slice ga x.a6v.length gc,.slice oa x.a5z.length oc,.int .u8 (x.behind:Nat),.int .u8 (x.y0:Nat),.int .u8 (x.y1:Nat),.int .u8 (x.y2:Nat),.int .u8 (x.y3:Nat),.int .u8 (x.y4:Nat),.int .u8 (x.y5:Nat),.int .u8 (x.y6:Nat),.int .u8 (x.y7:Nat),.int .u8 (x.cal:Nat),.bool x.rules] 26)).alloc (.cells #[(0:Int),.slice none 0 0,(0:Int),.slice none 0 0,(0:Int),.slice none 0 0,(0:Int),.slice none 0 0] 35)) W.heap.size=some (.cells #[.int .u8 (x.start:Nat),.slice ga x.a6v.length gc,.slice oa x.a5z.length oc,.int .u8 (x.behind:Nat),.int .u8 (x.y0:Nat),.int .u8 (x.y1:Nat),.int .u8 (x.y2:Nat),.int .u8 (x.y3:Nat),.int .u8 (x.y4:Nat),.int .u8 (x.y5:Nat),.int .u8 (x.y6:Nat),.int .u8 (x.y7:Nat),.int .u8 (x.cal:Nat),.bool x.rules] 26 (0,0)):=a06 (a05 _ _ _ rfl) _
 have o1:obj ((W.alloc (.cells #[.int .u8 (x.start:Nat),.slice ga x.a6v.length gc,.slice oa x.a5z.length oc,.int .u8 (x.behind:Nat),.int .u8 (x.y0:Nat),.int .u8 (x.y1:Nat),.int .u8 (x.y2:Nat),.int .u8 (x.y3:Nat),.int .u8 (x.y4:Nat),.int .u8 (x.y5:Nat),.int .u8 (x.y6:Nat),.int .u8 (x.y7:Nat),.int .u8 (x.cal:Nat),.bool x.rules] 26)).alloc (.cells #[(0:Int),.slice none 0 0,(0:Int),.slice none 0 0,(0:Int),.slice none 0 0,(0:Int),.slice none 0 0] 35)) (W.heap.size+1)=some (.cells #[(0:Int),.slice none 0 0,(0:Int),.slice none 0 0,(0:Int),.slice none 0 0,(0:Int),.slice none 0 0] 35 (0,0)):=a05 _ _ _ (by simp)
 have wVB:Below W W ((W.alloc (.cells #[.int .u8 (x.start:Nat),.slice ga x.a6v.length gc,.slice oa x.a5z.length oc,.int .u8 (x.behind:Nat),.int .u8 (x.y0:Nat),.int .u8 (x.y1:Nat),.int .u8 (x.y2:Nat),.int .u8 (x.y3:Nat),.int .u8 (x.y4:Nat),.int .u8 (x.y5:Nat),.int .u8 (x.y6:Nat),.int .u8 (x.y7:Nat),.int .u8 (x.cal:Nat),.bool x.rules] 26)).alloc (.cells #[(0:Int),.slice none 0 0,(0:Int),.slice none 0 0,(0:Int),.slice none 0 0,(0:Int),.slice none 0 0] 35)):=(bR.alloc (zD _) _).alloc (by simp) _
 have hs:=hx.s
 clear hx
 go_enter Tryz.func16,Tryz.ntmps16
 repeat' ((go_not_at_region 1);(first|go_skip|go_guarded|go_step|go_upon))
 generalize hV:((W.alloc (.cells #[.int .u8 (x.start:Nat),.slice ga x.a6v.length gc,.slice oa x.a5z.length oc,.int .u8 (x.behind:Nat),.int .u8 (x.y0:Nat),.int .u8 (x.y1:Nat),.int .u8 (x.y2:Nat),.int .u8 (x.y3:Nat),.int .u8 (x.y4:Nat),.int .u8 (x.y5:Nat),.int .u8 (x.y6:Nat),.int .u8 (x.y7:Nat),.int .u8 (x.cal:Nat),.bool x.rules] 26)).alloc (.cells #[(0:Int),.slice none 0 0,(0:Int),.slice none 0 0,(0:Int),.slice none 0 0,(0:Int),.slice none 0 0] 35))=V at *
 clear hV
 have c0:=a02 o0 0
 have HSM:=zA (a6o (W:=V) hs)
 repeat' ((go_not_at_region 2);(first | (go_at_call 53;((with_reducible refine (HSM.out).mono ?_));rintro e wa ⟨rfl,aq7⟩;dsimp only)|go_skip|go_guarded|go_step|go_upon))
 have q0:=a0a o0 aq7
 have q1:=a0a o1 aq7
 have qB:=wVB.trans (aq7.mono wVB.size)
 have A9:=((zC wa.heap.size wa).alloc (zD _) (.cells #[(7:Int),(6:Int)] 3)).alloc (by simp) (.cells #[(2:Int),.slice (some ⟨wa.heap.size,0,none⟩) 2 2,(-1:Int),.slice none 0 0,(Zn.a1c x.start:Int),.slice none 0 0,(0:Int),.slice none 0 0] 35)
 have r0:=a0a q0 A9
 have r1:=a0a q1 A9
 have rB:=qB.trans (A9.mono qB.size)
 have m7:obj ((wa.alloc (.cells #[(7:Int),(6:Int)] 3)).alloc (.cells #[(2:Int),.slice (some ⟨wa.heap.size,0,none⟩) 2 2,(-1:Int),.slice none 0 0,(Zn.a1c x.start:Int),.slice none 0 0,(0:Int),.slice none 0 0] 35)) wa.heap.size=some (.cells #[(7:Int),(6:Int)] 3 (0,0)):=a06 (a05 _ _ _ rfl) _
 have t3:obj ((wa.alloc (.cells #[(7:Int),(6:Int)] 3)).alloc (.cells #[(2:Int),.slice (some ⟨wa.heap.size,0,none⟩) 2 2,(-1:Int),.slice none 0 0,(Zn.a1c x.start:Int),.slice none 0 0,(0:Int),.slice none 0 0] 35)) (wa.heap.size+1)=some (.cells #[(2:Int),.slice (some ⟨wa.heap.size,0,none⟩) 2 2,(-1:Int),.slice none 0 0,(Zn.a1c x.start:Int),.slice none 0 0,(0:Int),.slice none 0 0] 35 (0,0)):=a05 _ _ _ (by simp)
 have z9:((wa.alloc (.cells #[(7:Int),(6:Int)] 3)).alloc (.cells #[(2:Int),.slice (some ⟨wa.heap.size,0,none⟩) 2 2,(-1:Int),.slice none 0 0,(Zn.a1c x.start:Int),.slice none 0 0,(0:Int),.slice none 0 0] 35)).heap.size=wa.heap.size+2:=by simp
 have hS9:W.heap.size+2≤wa.heap.size:=by have:=a09 q1;omega
 have r12:=a02 r0 12
 have ajy:=HX.out.c
 have rt:Int.tmod (x.cal:Int) 2=((x.cal % 2:Nat):Int):=by rw [yE (by omega)];omega
 have wrt:IntKind.wrap .u8 ((x.cal % 2:Nat):Int)=((x.cal % 2:Nat):Int):=by rw [vI];omega
 go_upto_if 17 with (fail)
 generalize hW9:((wa.alloc (.cells #[(7:Int),(6:Int)] 3)).alloc (.cells #[(2:Int),.slice (some ⟨wa.heap.size,0,none⟩) 2 2,(-1:Int),.slice none 0 0,(Zn.a1c x.start:Int),.slice none 0 0,(0:Int),.slice none 0 0] 35))=w9 at *
 go_cut [27] from 14 to 28 (fun _ wx=>(∃ mv rv,obj wx (wa.heap.size+1)=some (.cells #[.int .i64 (Zn.a0t x).a08,mv,.int .i64 (Zn.a0t x).a0l,rv,(Zn.a1c x.start:Int),.slice none 0 0,(0:Int),.slice none 0 0] 35 (0,0))∧a8w wx (Zn.a0t x) mv rv∧(a5o mv (wa.heap.size+1)∧a5o mv (W.heap.size+1))∧(a5o rv (wa.heap.size+1)∧a5o rv (W.heap.size+1))∧mv.oneCell' = true∧rv.oneCell' = true∧(∀ g,wx.heap.size≤g→a5o mv g∧a5o rv g))∧obj wx W.heap.size=some (.cells #[.int .u8 (x.start:Nat),.slice ga x.a6v.length gc,.slice oa x.a5z.length oc,.int .u8 (x.behind:Nat),.int .u8 (x.y0:Nat),.int .u8 (x.y1:Nat),.int .u8 (x.y2:Nat),.int .u8 (x.y3:Nat),.int .u8 (x.y4:Nat),.int .u8 (x.y5:Nat),.int .u8 (x.y6:Nat),.int .u8 (x.y7:Nat),.int .u8 (x.cal:Nat),.bool x.rules] 26 (0,0))∧obj wx (W.heap.size+1)=some (.cells #[(0:Int),.slice none 0 0,(0:Int),.slice none 0 0,(0:Int),.slice none 0 0,(0:Int),.slice none 0 0] 35 (0,0))∧Below W W wx∧wa.heap.size+2≤wx.heap.size)
 case first =>
  by_cases hc:x.cal % 2=1;rotate_left
  ·have HC:Hid (Zn.a0t x=⟨2,[7,6],-1,[]⟩):=zA (by unfold Zn.a0t;rw [zS hc])
   have hb:(((x.cal % 2:Nat):Int) == 1)=false:=vG.2 (by omega);clear hc
   repeat'(first|go_skip|go_guarded|go_step|go_upon)
   go_meet;exact ⟨⟨_,_,by rw [HC.out];exact t3,by rw [HC.out];exact ⟨aml m7,⟨none,0,rfl,fun h=>(by simp at h)⟩⟩,⟨fun o m c e=>(by injection e with e;injection e with e;injection e with e;omega),fun o m c e=>(by injection e with e;injection e with e;injection e with e;omega)⟩,⟨fun o m c e=>(by injection e with e;cases e),fun o m c e=>(by injection e with e;cases e)⟩,rfl,rfl,fun g hg=>⟨fun o m c e=>(by injection e with e;injection e with e;injection e with e;omega),fun o m c e=>(by injection e with e;cases e)⟩⟩,r0,r1,rB,by omega⟩
  have HC:Hid (Zn.a0t x=⟨5,[7,8],1,[⟨2,((x.cal / 2 % 2:Nat):Int),true⟩]⟩):=zA (by unfold Zn.a0t;rw [zQ hc])
  have hb:(((x.cal % 2:Nat):Int) == 1)=true:=beq_iff_eq.2 (by omega)
  have rt2:Int.tdiv (x.cal:Int) 2=((x.cal / 2:Nat):Int):=by rw [xA (by omega)];omega
  have wrt2:IntKind.wrap .u8 ((x.cal / 2:Nat):Int)=((x.cal / 2:Nat):Int):=by rw [vI];omega
  have rt3:Int.tmod ((x.cal / 2:Nat):Int) 2=((x.cal / 2 % 2:Nat):Int):=by rw [yE (by omega)];omega
  have wrt3:IntKind.wrap .u8 ((x.cal / 2 % 2:Nat):Int)=((x.cal / 2 % 2:Nat):Int):=by rw [vI];omega
  have wrt4:IntKind.wrap .i64 ((x.cal / 2 % 2:Nat):Int)=((x.cal / 2 % 2:Nat):Int):=by rw [wrap_in]<;>omega
  have r12':=a02 (a06 r0 (.cells #[(7:Int),(8:Int)] 3)) 12
  have B1:=((zC w9.heap.size w9).alloc (zD _) (.cells #[(7:Int),(8:Int)] 3)).alloc (by simp) (.cells #[(2:Int),((x.cal / 2 % 2:Nat):Int),.bool true] 95)
  have m8:obj ((w9.alloc (.cells #[(7:Int),(8:Int)] 3)).alloc (.cells #[(2:Int),((x.cal / 2 % 2:Nat):Int),.bool true] 95)) w9.heap.size=some (.cells #[(7:Int),(8:Int)] 3 (0,0)):=a06 (a05 _ _ _ rfl) _
  have m9:obj ((w9.alloc (.cells #[(7:Int),(8:Int)] 3)).alloc (.cells #[(2:Int),((x.cal / 2 % 2:Nat):Int),.bool true] 95)) (w9.heap.size+1)=some (.cells #[(2:Int),((x.cal / 2 % 2:Nat):Int),.bool true] 95 (0,0)):=a05 _ _ _ (by simp)
  have t39:=a0a t3 B1
  have r09:=a0a r0 B1
  have r19:=a0a r1 B1
  have rB9:=rB.trans (B1.mono rB.size)
  have sz9:wa.heap.size+4≤((w9.alloc (.cells #[(7:Int),(8:Int)] 3)).alloc (.cells #[(2:Int),((x.cal / 2 % 2:Nat):Int),.bool true] 95)).heap.size:=by simp;omega
  have HZ9:=zA z9
  clear hc z9
  repeat' (first | (refine aax rfl (.tmp 27) (.tmp 26) rfl t39 rfl _ _ _ _ rfl rfl rfl rfl rfl ?_;intro w10 h10 hO;dsimp only)|go_skip|go_guarded|go_step|go_upon)
  go_meet
  have z9:=HZ9.out
  exact ⟨⟨_,_,by rw [HC.out];exact h10,by rw [HC.out];exact ⟨aml (hO.obj m8 (by omega)),ao7 (hO.obj m9 (by omega))⟩,⟨fun o m c e=>(by injection e with e;injection e with e;injection e with e;omega),fun o m c e=>(by injection e with e;injection e with e;injection e with e;omega)⟩,⟨fun o m c e=>(by injection e with e;injection e with e;injection e with e;omega),fun o m c e=>(by injection e with e;injection e with e;injection e with e;omega)⟩,rfl,rfl,fun g hg=>⟨fun o m c e=>(by injection e with e;injection e with e;injection e with e;have h1:=hO.size;simp at h1;omega),fun o m c e=>(by injection e with e;injection e with e;injection e with e;have h1:=hO.size;simp at h1;omega)⟩⟩,hO.obj r09 (by omega),hO.obj r19 (by omega),⟨hO.os.trans rB9.os,hO.tape.trans rB9.tape,hO.output.trans rB9.output,by rw [hO.size];exact rB9.size,fun k hk=>(hO.block k (by omega)).trans (rB9.block k hk)⟩,by rw [hO.size];exact yG (by omega) sz9⟩
 obtain ⟨⟨mv,rv,t3w,hcv,av1,av2,omv,orv,av9⟩,r0w,r1w,rBw,szw⟩:=hcut
 clear r0 r1 rB m7 t3 r12 rt wrt A9 aq7 q0 q1 qB o0 o1 wVB HSM
 generalize hg3:wa.heap.size+1=g3 at *
 generalize hw1:wc=w1 at *
 have HSZ:=zA (show W.heap.size+3≤g3∧g3 < w1.heap.size by omega)
 clear z9 szw hg3 hS9
 obtain ⟨n1,hn1⟩ : ∃ n1,n1=w1.heap.size:=⟨_,rfl⟩
 have HN1:=zA hn1
 have AV9:Hid (∀ g,n1≤g→a5o mv g∧a5o rv g):=zA (fun g h=>av9 g (by rw [← hn1];exact h))
 clear av9
 have rBn:Below W W w1:=rBw
 repeat'(first|go_skip|go_guarded|go_step|go_upon)
 go_loopw [4,5] (fun at_ i wr => ∃ (k:Nat) (tv:Value),k≤Zn.a1j x∧at_=.int .i64 (Zn.a3b x k)∧i=.int .i64 k∧wr.ownsRow n1 57 2 tv (Zn.a1a x k).length (a4g (Zn.a1a x k))∧obj wr g3=some (.cells #[.int .i64 (Zn.a0t x).a08,mv,.int .i64 (Zn.a0t x).a0l,rv,(Zn.a1c x.start:Int),tv,(0:Int),.slice none 0 0] 35 (0,0))∧a1x n1 (fun q=>q=g3) w1 wr) (fun _ i _=>((3:Int) - intOf i).toNat)
 case atStart=>exact ⟨0,.slice none 0 0,xG _,rfl,rfl,⟨rfl,.inl ⟨rfl,rfl⟩⟩,t3w,a1x.of (by rw [hn1];exact zC _ _) _⟩
 obtain ⟨k,tv,hk,rfl,rfl,how,ht3,hX⟩:=hrel
 have hkn:k≤3∧k≤x.a6v.length∧k≤x.a5z.length:=by unfold Zn.a1j at hk;omega
 have sz:=HSZ.out
 have r0k:=hX.obj r0w (by rw [hn1];exact a09 r0w) (by omega)
 have rk1:=a02 r0k 1
 have rk2:=a02 r0k 2
 have hai:=Zn.a6h HX.out k
 repeat' ((go_not_at_region 6);(first|go_skip|go_guarded|go_step|go_upon))
 clear hn1
 go_cut [43] from 28 to 44 (fun v43 wx=>v43=.bool (decide (k < Zn.a1j x))∧wx=wr)
 case first =>
  have hdn:∀ a b c:Bool,decide (k < x.a6v.length)=a→decide (k < x.a5z.length)=b→decide (k < 3)=c→decide (k < Zn.a1j x)=(a&&(b&&c)):=by
   intro a b c ha hb hc;rw [← ha,← hb,← hc];unfold Zn.a1j
   by_cases h1:k < x.a6v.length<;>by_cases h2:k < x.a5z.length<;>by_cases h3:k < 3<;>simp [h1,h2,h3]<;>omega
  have HDN:=zA hdn
  clear hdn hkn hk
  by_cases h1:k < x.a6v.length
  ·by_cases h2:k < x.a5z.length
   ·by_cases h3:k < 3
    ·have h3':(k:Int) < 3:=by omega
     have HD:=zA (HDN.out true true true (zV h1) (zV h2) (zV h3))
     repeat'(first|go_skip|go_guarded|go_step|go_upon)
     go_meet;exact ⟨by rw [HD.out];rfl,rfl⟩
    (have h3' : ¬ (k:Int) < 3:=by omega);have HD:=zA (HDN.out true true false (zV h1) (zV h2) (zW h3))
    repeat'(first|go_skip|go_guarded|go_step|go_upon)
    go_meet;exact ⟨by rw [HD.out];rfl,rfl⟩
   have HD:=zA (HDN.out true false (decide (k < 3)) (zV h1) (zW h2) rfl)
   repeat'(first|go_skip|go_guarded|go_step|go_upon)
   go_meet;exact ⟨by rw [HD.out];rfl,rfl⟩
  have HD:=zA (HDN.out false (decide (k < x.a5z.length)) (decide (k < 3)) (zW h1) rfl rfl)
  repeat'(first|go_skip|go_guarded|go_step|go_upon)
  go_meet
  exact ⟨by rw [HD.out];rfl,rfl⟩
 obtain ⟨rfl,hw⟩:=hcut
 obtain rfl:=hw.symm
 by_cases hlt:k < Zn.a1j x
 ·rw [zV hlt]
  have hlt3:k < 3∧k < x.a6v.length∧k < x.a5z.length:=by unfold Zn.a1j at hlt;omega
  obtain ⟨gb,go,grow_,GT,gfr,rfl,gq1,gq2⟩:=HGQ.out (by omega)
  obtain ⟨ob,oo,orow,OT,ofr,rfl,oq1,oq2⟩:=HOQ.out (by omega)
  have gw:=hX.obj (a04 gq1 rBn (a09 gq1)) (by rw [HN1.out];exact a09 (a04 gq1 rBn (a09 gq1))) (by have:=a09 gq1;omega)
  have ow:=hX.obj (a04 oq1 rBn (a09 oq1)) (by rw [HN1.out];exact a09 (a04 oq1 rBn (a09 oq1))) (by have:=a09 oq1;omega)
  have eg:=(a02 gw (go+k)).trans (gq2 k (by omega))
  have eo:=oq2 k (by omega)
  have hgk:=HX.out.g k (by omega)
  have hok:=HX.out.o k (by omega)
  have HAT:Hid (Zn.a3b x (k+1)=Zn.a3b x k+2160+20 * ((x.a6v.getD k 0:Nat):Int)):=zA rfl
  have HTR:Hid (Zn.a1a x (k+1)=Zn.a1a x k ++ [⟨Zn.a3b x (k+1),Zn.a1c (x.a5z.getD k 0)⟩]):=zA rfl
  have HLN:=zA (Zn.a1n x k)
  have HLN1:=zA (Zn.a1n x (k+1))
  rw [HLN.out] at how
  rw [HAT.out] at HTR
  generalize x.a6v.getD k 0=gk at *
  generalize x.a5z.getD k 0=ok at *
  obtain ⟨at_,hat⟩ : ∃ a,a=Zn.a3b x k:=⟨_,rfl⟩
  have HATE:=zA hat
  rw [← hat] at HAT HTR hai ⊢
  clear hat
  have i1:k < x.a6v.length:=hlt3.2.1
  have i2:k < x.a5z.length:=hlt3.2.2
  have HLT:=zA (And.intro hlt hlt3)
  have wa1:=zWI (at_+2160)
  have wa2:IntKind.wrap .i64 ((gk:Nat):Int)=((gk:Nat):Int):=by rw [wrap_in]<;>omega
  have wa3:=zWI (20 * ((gk:Nat):Int))
  have wa4:=zWI (at_+2160+20 * ((gk:Nat):Int))
  clear hlt hlt3 hkn gq1 gq2 oq1 oq2
  repeat' ((go_not_at_region 9);(first|go_skip|go_guarded|go_step|go_upon))
  obtain ⟨a2,ha2⟩ : ∃ a,a=at_+2160+20 * ((gk:Nat):Int):=⟨_,rfl⟩
  have HA2:=zA ha2
  rw [← ha2] at HAT HTR ⊢
  clear ha2 wa1 wa2 wa3 wa4 eg gw
  have lg3:=a09 ht3
  have lrk:=a09 r0k
  have low:=a09 ow
  have osl:=a3x how
  obtain ⟨tva,tvc,ar0⟩:=(a13 how).2.2.2
  subst ar0
  refine a0k 11 [([],fun v _=>v=.pointer (some ⟨g3,5,none⟩)),([0],fun v _=>v=.slice tva k tvc),([],fun v _=>v=.int .i64 a2),([],fun v _=>v=.pointer (some ⟨W.heap.size,2,none⟩)),([3],fun v _=>v=.slice (some ⟨ob,oo,none⟩) x.a5z.length oc),([],fun v _=>v=.int .i64 (k:Nat)),([4,5],fun v _=>v=.pointer (some ⟨ob,oo+k,none⟩)),([6],fun v _=>v=.int .u8 (ok:Nat)),([7],fun v _=>v=.int .i64 (Zn.a1c ok)),([2,8],fun v _=>v=.agg #[a2,(Zn.a1c ok:Int)]),
    ([9],fun v W' => ∃ g,v=.slice (some ⟨g,0,none⟩) 1 1∧obj W' g=some (.cells #[a2,(Zn.a1c ok:Int)] 57 (0,0))∧wr.heap.size≤g)] (by kernel_rfl) (by kernel_rfl) (by kernel_rfl) ?st ?ob ?_
  case st => intro k v W1 W2 h hb;rcases k with _|_|_|_|_|_|_|_|_|_|_|k<;>first | exact h | trivial | (obtain ⟨g,h1,h2,h3⟩:=h;exact ⟨g,h1,a0a h2 hb,h3⟩)
  case ob =>
   and_intros<;>
   first
    | exact ⟨⟩
    | (intro vs Wq hW hk;(have q0:=a02 (a04 ht3 hW lg3) 5);(have q1:=a02 (a04 r0k hW lrk) 2);(have q2:=(a02 (a04 ow hW low) (oo+k)).trans eo);(try simp only [knows,Spec.at',↓zH,↓zG,yL] at hk);simp only [Spec.at',↓zH,↓zG,a00,a03,yy0,yy1,yy2,yy3];(try simp only [hk]);first | ((repeat'(first|go_skip|go_guarded|go_step|go_upon));exact a01 _ rfl (by go_simp) bR rfl) | ((have HQ:=zA (a6o (W:=Wq) hok));(repeat' (first | (go_at_call 53;((with_reducible refine (HQ.out).mono ?_));rintro e w9 ⟨rfl,aow⟩;dsimp only)|go_skip|go_guarded|go_step|go_upon));exact a01 _ rfl (by go_simp) aow rfl) | fail)
    | (
      intro vs Wq hW hk;have g9:vs 9=.agg #[a2,(Zn.a1c ok:Int)]:=hk.1;clear hk;change wpList _ _ _ _ (a00 _ vs [9] _) _;simp only [a00,a03,yy0,yy1,yy2,yy3];rw [g9]
      repeat'(first|go_skip|go_guarded|go_step|go_upon)
      exact a01 (.slice (some ⟨Wq.heap.size,0,none⟩) 1 1) rfl (by go_simp) (bR.alloc (zD _) _) ⟨_,rfl,a05 _ _ _ rfl,hW.size⟩)
  intro vs W2 hW2 hk2
  have v1:vs 1=.slice tva k tvc:=hk2 1 (by decide)
  have h10:=hk2 10 (by decide)
  obtain ⟨ng,v10,s10,s10b⟩:=h10
  clear hk2
  dsimp only [a1d,List.take,List.drop]
  simp only [Act.put,zF,zI,zJ]
  rw [v1,v10]
  generalize vs 0=p0,vs 2=p2,vs 3=p3,vs 4=p4,vs 5=p5,vs 6=p6,vs 7=p7,vs 8=p8,vs 9=p9
  clear v1 v10
  have ow2:=a0m how hW2
  have t32:=a04 ht3 hW2 lg3
  have hX2:=hX.then hW2 (by rw [HN1.out];exact zD _)
  have hn2:n1≤W2.heap.size:=by rw [HN1.out];exact hX2.size
  repeat' ((go_not_at_region 7);(first | (at_builtin;(refine a2m rfl _ _ rfl n1 k (.slice tva k tvc) (Zn.a1a x k) rfl ow2 ng (⟨a2,Zn.a1c ok⟩:Zn.Tr) rfl s10 (by have:=HLT.out.2.1;omega) hn2 ?_);intro v5 W5 a3p hg5;have hg:W2.grownBy W5 (Value.slice tva k tvc).ownBlock:=hg5;clear hg5;have t35:=a19 ow2 t32 (by decide) hg;have hX5:=hX2.grown hg (by rw [HN1.out];exact zD _) (fun q e=>a1p ow2 e);obtain ⟨va5,vc5,hv5⟩:=(a13 a3p).2.2.2;subst hv5;have f5:=a0d t35 5;have c5:=a02 t35 5;dsimp only)|go_skip|go_guarded|go_step|go_upon))
  have i1':=HLT.out.1
  have hk3:=HLT.out.2.1
  repeat'(first|go_skip|go_guarded|go_step|go_upon)
  exact ⟨⟨k+1,_,by omega,by rw [HAT.out],by go_num,by rw [HLN1.out,HTR.out];exact yF a3p (a2f a3p t35 (by decide)) _,by rw [a0c,t35];rfl,hX5.one (a4a _ _ _ _)⟩,by have:=HLT.out.2.1;simp [intOf];omega⟩
 rw [zW hlt]
 obtain rfl:k=Zn.a1j x:=by omega
 have HHO:Hid (Zn.a3a x=Zn.a3b x (Zn.a1j x)+2160+20 * (x.behind:Int)):=zA rfl
 have hbh:=HX.out.b
 have HLN:=zA (Zn.a1n x (Zn.a1j x))
 generalize Zn.a3b x (Zn.a1j x)=at_ at *
 have wa1:=zWI (at_+2160)
 have wa2:IntKind.wrap .i64 ((x.behind:Nat):Int)=((x.behind:Nat):Int):=by rw [wrap_in]<;>omega
 have wa3:=zWI (20 * ((x.behind:Nat):Int))
 have wa4:=zWI (at_+2160+20 * ((x.behind:Nat):Int))
 have rk3:=a02 r0k 3
 have f36:=a0d ht3 6
 have c36:=a02 ht3 6
 obtain ⟨tva,tvc,ar0⟩:=(a13 how).2.2.2
 subst ar0
 clear hlt hkn hk
 repeat' ((go_not_at_region 11);(first|go_skip|go_guarded|go_step|go_upon))
 have t31:obj (wr.setCell ⟨g3,6,none⟩ (.int .i64 (at_+2160+20 * ((x.behind:Nat):Int)))) g3=some (.cells #[.int .i64 (Zn.a0t x).a08,mv,.int .i64 (Zn.a0t x).a0l,rv,(Zn.a1c x.start:Int),.slice tva (Zn.a1a x (Zn.a1j x)).length tvc,(at_+2160+20 * ((x.behind:Nat):Int):Int),.slice none 0 0] 35 (0,0)):=by rw [a0c,ht3];rfl
 have aot:=yF how (a2f how ht3 (by decide)) (a:=⟨g3,6,none⟩) (.int .i64 (at_+2160+20 * ((x.behind:Nat):Int)))
 have hX1:=hX.one (a4a wr g3 6 (.int .i64 (at_+2160+20 * ((x.behind:Nat):Int))))
 have r01:=hX1.obj r0w (by rw [HN1.out];exact a09 r0w) (by omega)
 have r11:=hX1.obj r1w (by rw [HN1.out];exact a09 r1w) (by omega)
 generalize wr.setCell ⟨g3,6,none⟩ (.int .i64 (at_+2160+20 * ((x.behind:Nat):Int)))=w2 at *
 clear how ht3 hX r0k rk1 rk2 rk3 f36 c36 wa1 wa2 wa3 wa4
 rw [← HHO.out] at t31
 generalize hhr:Zn.a3a x=hor at *
 have HHR:=zA hhr
 clear hhr
 have aqm:=a02 r01 13
 have hcv2:=a8w.ahc hcv av1.1 av2.1 (HN1.out ▸ hX1)
 have HB2:Hid (Below W W w2):=zA (rBn.trans (hX1.below (by rw [HN1.out];exact rBn.size) (fun q hq=>by omega)))
 cases hru:x.rules
 ·have HMD:Hid (Zn.made x=Zn.aca x):=zA (by unfold Zn.made;rw [zS (fun h=>by rw [hru] at h;cases h.1)])
  rw [hru] at aqm
  have ar2:ones #[.int .i64 (Zn.a0t x).a08,mv,.int .i64 (Zn.a0t x).a0l,rv,(Zn.a1c x.start:Int),.slice tva (Zn.a1a x (Zn.a1j x)).length tvc,hor,.slice none 0 0]=true:=a1b omv orv rfl rfl
  have HZV:Hid (a1q w2 (Zn.aca x) mv rv (.slice tva (Zn.a1a x (Zn.a1j x)).length tvc) (.slice none 0 0)):=zA ⟨hcv2,(a13 aot).2.1,⟨none,0,rfl,fun h=>(by simp [Zn.aca] at h)⟩⟩
  have hav:=a9q aot (g:=W.heap.size+1) (by rw [HN1.out];have:=HSZ.out;omega)
  have HOW:=zA aot
  have HS2:Hid (n1≤w2.heap.size∧W.heap.size≤n1∧W.heap.size+1 < n1):=zA ⟨by rw [HN1.out];exact hX1.size,by rw [HN1.out];have:=HSZ.out;omega,by rw [HN1.out];have:=HSZ.out;omega⟩
  clear aot hcv2
  repeat'(first|go_skip|go_guarded|go_step|go_upon)
  refine yO (a1e rfl _ _ (W.heap.size+1) 35 _ (0,0) _ rfl (xB _ _ _ _ _ _ r11) Tryz.underlying35 rfl (by kernel_rfl)) rfl ?_
  exact ⟨⟨mv,rv,_,_,by rw [HMD.out,← HHR.out];rfl,by rw [HMD.out];exact HZV.out.only av1.2 av2.2 hav (aar _) (a7f _ _ _),by rw [HMD.out];exact ⟨n1,HS2.out.2.1,(by simpa [World.setRow] using HS2.out.1),own_setRow HOW.out HS2.out.2.2 _,⟨rfl,.inl ⟨rfl,rfl⟩⟩,AV9.out⟩⟩,yX HB2.out (by omega) _⟩
 have HMD:Hid (Zn.a3o (Zn.made1 x)=true→Zn.made x=Zn.made1 x):=zA fun h=>by unfold Zn.made;rw [zQ ⟨hru,h⟩]
 have HME:Hid (Zn.a3o (Zn.made1 x)=false→Zn.made x=Zn.aca x):=zA fun h=>by unfold Zn.made;rw [zS (fun q=>by rw [h] at q;cases q.2)]
 rw [hru] at aqm
 have hyv0:w2.ownsRow n1 84 5 (.slice none 0 0) 0 (aej []):=⟨rfl,.inl ⟨rfl,rfl⟩⟩
 repeat'(first|go_skip|go_guarded|go_step|go_upon)
 go_loopw [6] (fun i wr => ∃ (k:Nat) (yv:Value),k≤2∧i=.int .i64 k∧((k=0∧wr.ownsRow n1 84 5 yv 0 (aej ([]:List Zn.YR))∧obj wr g3=some (.cells #[.int .i64 (Zn.a0t x).a08,mv,.int .i64 (Zn.a0t x).a0l,rv,(Zn.a1c x.start:Int),.slice tva (Zn.a1a x (Zn.a1j x)).length tvc,hor,yv] 35 (0,0))∧wr.ownsRow n1 57 2 (.slice tva (Zn.a1a x (Zn.a1j x)).length tvc) (Zn.a1a x (Zn.a1j x)).length (a4g (Zn.a1a x (Zn.a1j x)))∧a1x n1 (fun q=>q=g3) w1 wr)∨(k=1∧wr.ownsRow n1 84 5 yv 1 (aej ([⟨1,(if x.y3 % 2=1 then 5 else 1),((x.y0 % 3:Nat):Int),(x.y1:Int) * 5,Zn.a1c (x.y2 % 5)⟩]:List Zn.YR))∧obj wr g3=some (.cells #[.int .i64 (Zn.a0t x).a08,mv,.int .i64 (Zn.a0t x).a0l,rv,(Zn.a1c x.start:Int),.slice tva (Zn.a1a x (Zn.a1j x)).length tvc,hor,yv] 35 (0,0))∧wr.ownsRow n1 57 2 (.slice tva (Zn.a1a x (Zn.a1j x)).length tvc) (Zn.a1a x (Zn.a1j x)).length (a4g (Zn.a1a x (Zn.a1j x)))∧a1x n1 (fun q=>q=g3) w1 wr)∨(k=2∧wr.ownsRow n1 84 5 yv 2 (aej ([⟨1,(if x.y3 % 2=1 then 5 else 1),((x.y0 % 3:Nat):Int),(x.y1:Int) * 5,Zn.a1c (x.y2 % 5)⟩,⟨2,(if x.y7 % 2=1 then 5 else 1),((x.y4 % 3:Nat):Int),(x.y5:Int) * 5,Zn.a1c (x.y6 % 5)⟩]:List Zn.YR))∧obj wr g3=some (.cells #[.int .i64 (Zn.a0t x).a08,mv,.int .i64 (Zn.a0t x).a0l,rv,(Zn.a1c x.start:Int),.slice tva (Zn.a1a x (Zn.a1j x)).length tvc,hor,yv] 35 (0,0))∧wr.ownsRow n1 57 2 (.slice tva (Zn.a1a x (Zn.a1j x)).length tvc) (Zn.a1a x (Zn.a1j x)).length (a4g (Zn.a1a x (Zn.a1j x)))∧a1x n1 (fun q=>q=g3) w1 wr))) (fun i _=>((2:Int) - intOf i).toNat)
 case atStart=>exact ⟨0,.slice none 0 0,by omega,rfl,.inl ⟨rfl,hyv0,t31,aot,hX1⟩⟩
 clear r01 r11 hcv2 aqm hyv0 HB2
 obtain ⟨k,yv,hk2,rfl,(⟨rfl,how,ht3,hot,hX⟩ | ⟨rfl,how,ht3,hot,hX⟩ | ⟨rfl,how,ht3,hot,hX⟩)⟩:=hrel
 ·have hy0:=HX.out.h0
  have hy1:=HX.out.h1
  have hy2:=HX.out.h2
  have hy3:=HX.out.h3
  obtain ⟨m5,hm5⟩ : ∃ m,m=x.y2 % 5:=⟨_,rfl⟩
  have hy5:m5 < 256:=by omega
  have q1:Int.tmod (x.y0:Int) 3=((x.y0 % 3:Nat):Int):=by rw [yE (by omega)];omega
  have q2:IntKind.wrap .u8 ((x.y0 % 3:Nat):Int)=((x.y0 % 3:Nat):Int):=by rw [vI];omega
  have q3:IntKind.wrap .i64 ((x.y0 % 3:Nat):Int)=((x.y0 % 3:Nat):Int):=by rw [wrap_in]<;>omega
  have q4:IntKind.wrap .i64 (x.y1:Int)=(x.y1:Int):=by rw [wrap_in]<;>omega
  have q5:=zWI ((x.y1:Int) * 5)
  have q6:Int.tmod (x.y2:Int) 5=(m5:Int):=by rw [yE (by omega)];omega
  have q7:IntKind.wrap .u8 (m5:Int)=(m5:Int):=by rw [vI];omega
  have HM5:=zA hm5
  clear hm5
  have q8:Int.tmod (x.y3:Int) 2=((x.y3 % 2:Nat):Int):=by rw [yE (by omega)];omega
  have q9:IntKind.wrap .u8 ((x.y3 % 2:Nat):Int)=((x.y3 % 2:Nat):Int):=by rw [vI];omega
  obtain ⟨yva,yvc,yve⟩:=(ac6 how).2.2
  subst yve
  have r0k:=hX.obj r0w (by rw [HN1.out];exact a09 r0w) (by omega)
  have ar4:ones #[.int .u8 (x.y0:Nat),.int .u8 (x.y1:Nat),.int .u8 (x.y2:Nat),.int .u8 (x.y3:Nat)]=true:=by simp [ones,a0n,Value.oneCell']
  repeat' ((go_not_at_region 17);(first|go_skip|go_guarded|go_step|go_upon))
  have l71:=a09 ht3
  have hw7:Below wr wr (wr.alloc (.cells #[.int .u8 (x.y0:Nat),.int .u8 (x.y1:Nat),.int .u8 (x.y2:Nat),.int .u8 (x.y3:Nat)] 23)):=bR.alloc (zD _) _
  have k7:obj (wr.alloc (.cells #[.int .u8 (x.y0:Nat),.int .u8 (x.y1:Nat),.int .u8 (x.y2:Nat),.int .u8 (x.y3:Nat)] 23)) wr.heap.size=some (.cells #[.int .u8 (x.y0:Nat),.int .u8 (x.y1:Nat),.int .u8 (x.y2:Nat),.int .u8 (x.y3:Nat)] 23 (0,0)):=a05 _ _ _ rfl
  have how:=a0m how hw7
  have hot:=a0m hot hw7
  have ht3:=a0a ht3 hw7
  have hX:=hX.then hw7 (by rw [HN1.out];exact zD _)
  have lg3':=HSZ.out
  generalize hwq:wr.alloc (.cells #[.int .u8 (x.y0:Nat),.int .u8 (x.y1:Nat),.int .u8 (x.y2:Nat),.int .u8 (x.y3:Nat)] 23)=wq at *
  generalize wr.heap.size=b7 at *
  clear hwq r0k hw7
  have lg3:=a09 ht3
  have l7:=a09 k7
  refine a0k 18 [([],fun v _=>v=.pointer (some ⟨g3,7,none⟩)),([0],fun v _=>v=.slice yva 0 yvc),([],fun v _=>v=.int .i64 0),([2],fun v _=>v=.int .i64 1),([],fun v _=>v=.pointer (some ⟨b7,0,none⟩)),([4],fun v _=>v=.int .u8 (x.y0:Nat)),([5],fun v _=>v=.int .u8 ((x.y0 % 3:Nat):Int)),([6],fun v _=>v=.int .i64 ((x.y0 % 3:Nat):Int)),([],fun v _=>v=.pointer (some ⟨b7,1,none⟩)),([8],fun v _=>v=.int .u8 (x.y1:Nat)),([9],fun v _=>v=.int .i64 (x.y1:Int)),([10],fun v _=>v=.int .i64 ((x.y1:Int) * 5)),([],fun v _=>v=.pointer (some ⟨b7,2,none⟩)),([12],fun v _=>v=.int .u8 (x.y2:Nat)),([13],fun v _=>v=.int .u8 (m5:Nat)),([14],fun v _=>v=.int .i64 (Zn.a1c m5)),([3,7,11,15],fun v _=>v=.agg #[(1:Int),(1:Int),((x.y0 % 3:Nat):Int),((x.y1:Int) * 5:Int),(Zn.a1c m5:Int)]),
     ([16],fun v W' => ∃ g,v=.slice (some ⟨g,0,none⟩) 1 1∧obj W' g=some (.cells #[(1:Int),(1:Int),((x.y0 % 3:Nat):Int),((x.y1:Int) * 5:Int),(Zn.a1c m5:Int)] 84 (0,0))∧wq.heap.size≤g)] (by kernel_rfl) (by kernel_rfl) (by kernel_rfl) ?st ?ob ?_
  case st => intro k v W1 W2 h hb;rcases k with _|_|_|_|_|_|_|_|_|_|_|_|_|_|_|_|_|_|k<;>first | exact h | trivial | (obtain ⟨g,h1,h2,h3⟩:=h;exact ⟨g,h1,a0a h2 hb,h3⟩)
  case ob =>
    and_intros<;>
    first
     | exact ⟨⟩
     | (intro vs Wq hW hk;(have q0:=a02 (a04 ht3 hW lg3) 7);(have q1:=a02 (a04 k7 hW l7) 0);(have q2:=a02 (a04 k7 hW l7) 1);(have q3:=a02 (a04 k7 hW l7) 2);(try simp only [knows,Spec.at',↓zH,↓zG,yL] at hk);simp only [Spec.at',↓zH,↓zG,a00,a03,yy0,yy1,yy2,yy3];(try simp only [hk]);first | ((repeat'(first|go_skip|go_guarded|go_step|go_upon));exact a01 _ rfl (by go_simp) bR rfl) | ((have HQ:=zA (a6o (W:=Wq) hy5));(repeat' (first | (go_at_call 53;((with_reducible refine (HQ.out).mono ?_));rintro e w9 ⟨rfl,aow⟩;dsimp only)|go_skip|go_guarded|go_step|go_upon));exact a01 _ rfl (by go_simp) aow rfl) | fail)
     | (
       intro vs Wq hW hk;have g16:vs 16=.agg #[(1:Int),(1:Int),((x.y0 % 3:Nat):Int),((x.y1:Int) * 5:Int),(Zn.a1c m5:Int)]:=hk.1;clear hk;change wpList _ _ _ _ (a00 _ vs [16] _) _;simp only [a00,a03,yy0,yy1,yy2,yy3];rw [g16]
       repeat'(first|go_skip|go_guarded|go_step|go_upon)
       exact a01 (.slice (some ⟨Wq.heap.size,0,none⟩) 1 1) rfl (by go_simp) (bR.alloc (zD _) _) ⟨_,rfl,a05 _ _ _ rfl,hW.size⟩)
  intro vs W2 hW2 hk2
  have v1:vs 1=.slice yva 0 yvc:=hk2 1 (by decide)
  have h17:=hk2 17 (by decide)
  obtain ⟨ng,v17,s17,s17b⟩:=h17
  clear hk2
  dsimp only [a1d,List.take,List.drop]
  simp only [Act.put,zF,zI,zJ]
  rw [v1,v17]
  generalize vs 0=p0,vs 2=p2,vs 3=p3,vs 4=p4,vs 5=p5,vs 6=p6,vs 7=p7,vs 8=p8,vs 9=p9,vs 10=p10,vs 11=p11,vs 12=p12,vs 13=p13,vs 14=p14,vs 15=p15,vs 16=p16
  clear v1 v17
  have ow2:=a0m how hW2
  have ot2:=a0m hot hW2
  have t32:=a04 ht3 hW2 lg3
  have k72:=a04 k7 hW2 l7
  have hX2:=hX.then hW2 (by rw [HN1.out];exact zD _)
  have hn2:n1≤W2.heap.size:=by rw [HN1.out];exact hX2.size
  repeat' ((go_not_at_region 18);(first | (at_builtin;(refine a6e rfl _ _ rfl n1 0 (.slice yva 0 yvc) ([]:List Zn.YR) rfl ow2 ng (⟨1,1,((x.y0 % 3:Nat):Int),(x.y1:Int) * 5,Zn.a1c m5⟩:Zn.YR) rfl s17 (by omega) hn2 ?_);intro v5 W5 a3p hg5;have hg:W2.grownBy W5 (Value.slice yva 0 yvc).ownBlock:=hg5;clear hg5;have t35:=a19 ow2 t32 (by decide) hg;have k75:=a19 ow2 k72 (by decide) hg;have ot5:=aif ot2 ow2 (by decide) hg;have hX5:=hX2.grown hg (by rw [HN1.out];exact zD _) (fun q e=>a1p ow2 e);obtain ⟨va5,vc5,hv5⟩ : ∃ g c,v5=.slice (some ⟨g,0,none⟩) 1 c:=(by rcases a3p.2 with ⟨_,h⟩ | ⟨g,c,_,h,_⟩;exact absurd h (by omega);exact ⟨g,c,h⟩);subst hv5;have f7:=a0d t35 7;have c7:=a02 t35 7;dsimp only)|go_skip|go_guarded|go_step|go_upon))
  obtain rfl:=HM5.out
  have t36:obj (W5.setCell ⟨g3,7,none⟩ (.slice (some ⟨va5,0,none⟩) 1 vc5)) g3=some (.cells #[.int .i64 (Zn.a0t x).a08,mv,.int .i64 (Zn.a0t x).a0l,rv,(Zn.a1c x.start:Int),.slice tva (Zn.a1a x (Zn.a1j x)).length tvc,hor,.slice (some ⟨va5,0,none⟩) 1 vc5] 35 (0,0)):=by rw [a0c,t35];rfl
  have ow6:=yF a3p (a2f a3p t35 (by decide)) (a:=⟨g3,7,none⟩) (.slice (some ⟨va5,0,none⟩) 1 vc5)
  have ot6:=yF ot5 (a2f ot5 t35 (by decide)) (a:=⟨g3,7,none⟩) (.slice (some ⟨va5,0,none⟩) 1 vc5)
  have hX6:=hX5.one (a4a W5 g3 7 (.slice (some ⟨va5,0,none⟩) 1 vc5))
  have k76:=a07 k75 ⟨g3,7,none⟩ (show b7≠g3 by omega) (.slice (some ⟨va5,0,none⟩) 1 vc5)
  generalize W5.setCell ⟨g3,7,none⟩ (.slice (some ⟨va5,0,none⟩) 1 vc5)=w6 at *
  have c73:=a02 k76 3
  clear t35 t32 k72 k75 a3p ot5 ow2 ot2 hX5 hX2 s17 f7 c7 how hot ht3 hX k7 hg
  by_cases hod:x.y3 % 2=1
  ·have hb:(((x.y3 % 2:Nat):Int) == 1)=true:=beq_iff_eq.2 (by omega)
   have HWK:Hid ((if x.y3 % 2=1 then 5 else 1)=(5:Int)):=zA (zQ hod);have t37:=a02 t36 7
   have oyr : ∃ cur,obj w6 va5=some (.cells cur 84 (0,0))∧1 < cur.size:=by
    rcases ow6.2 with ⟨e,_⟩ | ⟨g,c,cur,e,_,h2,h3,_,h5,_⟩
    · cases e
    · cases e;exact ⟨cur,h2,by rw [h5];have:=Nat.mul_le_mul_right 5 h3;omega⟩
   obtain ⟨cur,akg,aqy⟩:=oyr;have fy:=a0d akg 1;have cy:w6.cell? ⟨va5,1,none⟩=some (cur[1]'(aqy)):=(a02 akg 1).trans (zT aqy)
   have aqz:va5≠g3:=fun e=>by subst e;have q:=akg.symm.trans t36;injection q with q;injection q with _ q _;exact absurd q (by decide)
   clear hod
   repeat'(first|go_skip|go_guarded|go_step|go_upon)
   refine ⟨⟨1,.slice (some ⟨va5,0,none⟩) 1 vc5,by omega,rfl,?_⟩,by simp [intOf]⟩
   exact .inr <| .inl ⟨rfl,by have q:=a95 ow6 1 (.int .i64 5) (by omega);rw [HWK.out];exact q,a07 t36 _ (show g3≠va5 from fun e=>aqz e.symm) _,yF ot6 (a2f ot6 akg (by decide)) _,hX6.own (by have:=a1p ow6 (g:=va5) rfl;exact this) (by rw [HN1.out];exact zD _)⟩
  have hb:(((x.y3 % 2:Nat):Int) == 1)=false:=vG.2 (by omega)
  have HWK:Hid ((if x.y3 % 2=1 then 5 else 1)=(1:Int)):=zA (zS hod)
  clear hod
  repeat'(first|go_skip|go_guarded|go_step|go_upon)
  refine ⟨⟨1,.slice (some ⟨va5,0,none⟩) 1 vc5,by omega,rfl,?_⟩,by simp [intOf]⟩
  exact .inr <| .inl ⟨rfl,by rw [HWK.out];exact ow6,t36,ot6,hX6⟩
 ·have hy0:=HX.out.h4
  have hy1:=HX.out.h5
  have hy2:=HX.out.h6
  have hy3:=HX.out.h7
  obtain ⟨m5,hm5⟩ : ∃ m,m=x.y6 % 5:=⟨_,rfl⟩
  have hy5:m5 < 256:=by omega
  have q1:Int.tmod (x.y4:Int) 3=((x.y4 % 3:Nat):Int):=by rw [yE (by omega)];omega
  have q2:IntKind.wrap .u8 ((x.y4 % 3:Nat):Int)=((x.y4 % 3:Nat):Int):=by rw [vI];omega
  have q3:IntKind.wrap .i64 ((x.y4 % 3:Nat):Int)=((x.y4 % 3:Nat):Int):=by rw [wrap_in]<;>omega
  have q4:IntKind.wrap .i64 (x.y5:Int)=(x.y5:Int):=by rw [wrap_in]<;>omega
  have q5:=zWI ((x.y5:Int) * 5)
  have q6:Int.tmod (x.y6:Int) 5=(m5:Int):=by rw [yE (by omega)];omega
  have q7:IntKind.wrap .u8 (m5:Int)=(m5:Int):=by rw [vI];omega
  have HM5:=zA hm5
  clear hm5
  have q8:Int.tmod (x.y7:Int) 2=((x.y7 % 2:Nat):Int):=by rw [yE (by omega)];omega
  have q9:IntKind.wrap .u8 ((x.y7 % 2:Nat):Int)=((x.y7 % 2:Nat):Int):=by rw [vI];omega
  obtain ⟨yva,yvc,yve⟩:=(ac6 how).2.2
  subst yve
  have r0k:=hX.obj r0w (by rw [HN1.out];exact a09 r0w) (by omega)
  have ar4:ones #[.int .u8 (x.y4:Nat),.int .u8 (x.y5:Nat),.int .u8 (x.y6:Nat),.int .u8 (x.y7:Nat)]=true:=by simp [ones,a0n,Value.oneCell']
  repeat' ((go_not_at_region 17);(first|go_skip|go_guarded|go_step|go_upon))
  have l71:=a09 ht3
  have hw7:Below wr wr (wr.alloc (.cells #[.int .u8 (x.y4:Nat),.int .u8 (x.y5:Nat),.int .u8 (x.y6:Nat),.int .u8 (x.y7:Nat)] 23)):=bR.alloc (zD _) _
  have k7:obj (wr.alloc (.cells #[.int .u8 (x.y4:Nat),.int .u8 (x.y5:Nat),.int .u8 (x.y6:Nat),.int .u8 (x.y7:Nat)] 23)) wr.heap.size=some (.cells #[.int .u8 (x.y4:Nat),.int .u8 (x.y5:Nat),.int .u8 (x.y6:Nat),.int .u8 (x.y7:Nat)] 23 (0,0)):=a05 _ _ _ rfl
  have how:=a0m how hw7
  have hot:=a0m hot hw7
  have ht3:=a0a ht3 hw7
  have hX:=hX.then hw7 (by rw [HN1.out];exact zD _)
  have lg3':=HSZ.out
  generalize hwq:wr.alloc (.cells #[.int .u8 (x.y4:Nat),.int .u8 (x.y5:Nat),.int .u8 (x.y6:Nat),.int .u8 (x.y7:Nat)] 23)=wq at *
  generalize wr.heap.size=b7 at *
  clear hwq r0k hw7
  have lg3:=a09 ht3
  have l7:=a09 k7
  refine a0k 18 [([],fun v _=>v=.pointer (some ⟨g3,7,none⟩)),([0],fun v _=>v=.slice yva 1 yvc),([],fun v _=>v=.int .i64 1),([2],fun v _=>v=.int .i64 2),([],fun v _=>v=.pointer (some ⟨b7,0,none⟩)),([4],fun v _=>v=.int .u8 (x.y4:Nat)),([5],fun v _=>v=.int .u8 ((x.y4 % 3:Nat):Int)),([6],fun v _=>v=.int .i64 ((x.y4 % 3:Nat):Int)),([],fun v _=>v=.pointer (some ⟨b7,1,none⟩)),([8],fun v _=>v=.int .u8 (x.y5:Nat)),([9],fun v _=>v=.int .i64 (x.y5:Int)),([10],fun v _=>v=.int .i64 ((x.y5:Int) * 5)),([],fun v _=>v=.pointer (some ⟨b7,2,none⟩)),([12],fun v _=>v=.int .u8 (x.y6:Nat)),([13],fun v _=>v=.int .u8 (m5:Nat)),([14],fun v _=>v=.int .i64 (Zn.a1c m5)),([3,7,11,15],fun v _=>v=.agg #[(2:Int),(1:Int),((x.y4 % 3:Nat):Int),((x.y5:Int) * 5:Int),(Zn.a1c m5:Int)]),
     ([16],fun v W' => ∃ g,v=.slice (some ⟨g,0,none⟩) 1 1∧obj W' g=some (.cells #[(2:Int),(1:Int),((x.y4 % 3:Nat):Int),((x.y5:Int) * 5:Int),(Zn.a1c m5:Int)] 84 (0,0))∧wq.heap.size≤g)] (by kernel_rfl) (by kernel_rfl) (by kernel_rfl) ?st ?ob ?_
  case st => intro k v W1 W2 h hb;rcases k with _|_|_|_|_|_|_|_|_|_|_|_|_|_|_|_|_|_|k<;>first | exact h | trivial | (obtain ⟨g,h1,h2,h3⟩:=h;exact ⟨g,h1,a0a h2 hb,h3⟩)
  case ob =>
    and_intros<;>
    first
     | exact ⟨⟩
     | (intro vs Wq hW hk;(have q0:=a02 (a04 ht3 hW lg3) 7);(have q1:=a02 (a04 k7 hW l7) 0);(have q2:=a02 (a04 k7 hW l7) 1);(have q3:=a02 (a04 k7 hW l7) 2);(try simp only [knows,Spec.at',↓zH,↓zG,yL] at hk);simp only [Spec.at',↓zH,↓zG,a00,a03,yy0,yy1,yy2,yy3];(try simp only [hk]);first | ((repeat'(first|go_skip|go_guarded|go_step|go_upon));exact a01 _ rfl (by go_simp) bR rfl) | ((have HQ:=zA (a6o (W:=Wq) hy5));(repeat' (first | (go_at_call 53;((with_reducible refine (HQ.out).mono ?_));rintro e w9 ⟨rfl,aow⟩;dsimp only)|go_skip|go_guarded|go_step|go_upon));exact a01 _ rfl (by go_simp) aow rfl) | fail)
     | (
       intro vs Wq hW hk;have g16:vs 16=.agg #[(2:Int),(1:Int),((x.y4 % 3:Nat):Int),((x.y5:Int) * 5:Int),(Zn.a1c m5:Int)]:=hk.1;clear hk;change wpList _ _ _ _ (a00 _ vs [16] _) _;simp only [a00,a03,yy0,yy1,yy2,yy3];rw [g16]
       repeat'(first|go_skip|go_guarded|go_step|go_upon)
       exact a01 (.slice (some ⟨Wq.heap.size,0,none⟩) 1 1) rfl (by go_simp) (bR.alloc (zD _) _) ⟨_,rfl,a05 _ _ _ rfl,hW.size⟩)
  intro vs W2 hW2 hk2
  have v1:vs 1=.slice yva 1 yvc:=hk2 1 (by decide)
  have h17:=hk2 17 (by decide)
  obtain ⟨ng,v17,s17,s17b⟩:=h17
  clear hk2
  dsimp only [a1d,List.take,List.drop]
  simp only [Act.put,zF,zI,zJ]
  rw [v1,v17]
  generalize vs 0=p0,vs 2=p2,vs 3=p3,vs 4=p4,vs 5=p5,vs 6=p6,vs 7=p7,vs 8=p8,vs 9=p9,vs 10=p10,vs 11=p11,vs 12=p12,vs 13=p13,vs 14=p14,vs 15=p15,vs 16=p16
  clear v1 v17
  have ow2:=a0m how hW2
  have ot2:=a0m hot hW2
  have t32:=a04 ht3 hW2 lg3
  have k72:=a04 k7 hW2 l7
  have hX2:=hX.then hW2 (by rw [HN1.out];exact zD _)
  have hn2:n1≤W2.heap.size:=by rw [HN1.out];exact hX2.size
  repeat' ((go_not_at_region 18);(first | (at_builtin;(refine a6e rfl _ _ rfl n1 1 (.slice yva 1 yvc) ([⟨1,(if x.y3 % 2=1 then 5 else 1),((x.y0 % 3:Nat):Int),(x.y1:Int) * 5,Zn.a1c (x.y2 % 5)⟩]:List Zn.YR) rfl ow2 ng (⟨2,1,((x.y4 % 3:Nat):Int),(x.y5:Int) * 5,Zn.a1c m5⟩:Zn.YR) rfl s17 (by omega) hn2 ?_);intro v5 W5 a3p hg5;have hg:W2.grownBy W5 (Value.slice yva 1 yvc).ownBlock:=hg5;clear hg5;have t35:=a19 ow2 t32 (by decide) hg;have k75:=a19 ow2 k72 (by decide) hg;have ot5:=aif ot2 ow2 (by decide) hg;have hX5:=hX2.grown hg (by rw [HN1.out];exact zD _) (fun q e=>a1p ow2 e);obtain ⟨va5,vc5,hv5⟩ : ∃ g c,v5=.slice (some ⟨g,0,none⟩) 2 c:=(by rcases a3p.2 with ⟨_,h⟩ | ⟨g,c,_,h,_⟩;exact absurd h (by omega);exact ⟨g,c,h⟩);subst hv5;have f7:=a0d t35 7;have c7:=a02 t35 7;dsimp only)|go_skip|go_guarded|go_step|go_upon))
  obtain rfl:=HM5.out
  have t36:obj (W5.setCell ⟨g3,7,none⟩ (.slice (some ⟨va5,0,none⟩) 2 vc5)) g3=some (.cells #[.int .i64 (Zn.a0t x).a08,mv,.int .i64 (Zn.a0t x).a0l,rv,(Zn.a1c x.start:Int),.slice tva (Zn.a1a x (Zn.a1j x)).length tvc,hor,.slice (some ⟨va5,0,none⟩) 2 vc5] 35 (0,0)):=by rw [a0c,t35];rfl
  have ow6:=yF a3p (a2f a3p t35 (by decide)) (a:=⟨g3,7,none⟩) (.slice (some ⟨va5,0,none⟩) 2 vc5)
  have ot6:=yF ot5 (a2f ot5 t35 (by decide)) (a:=⟨g3,7,none⟩) (.slice (some ⟨va5,0,none⟩) 2 vc5)
  have hX6:=hX5.one (a4a W5 g3 7 (.slice (some ⟨va5,0,none⟩) 2 vc5))
  have k76:=a07 k75 ⟨g3,7,none⟩ (show b7≠g3 by omega) (.slice (some ⟨va5,0,none⟩) 2 vc5)
  generalize W5.setCell ⟨g3,7,none⟩ (.slice (some ⟨va5,0,none⟩) 2 vc5)=w6 at *
  have c73:=a02 k76 3
  clear t35 t32 k72 k75 a3p ot5 ow2 ot2 hX5 hX2 s17 f7 c7 how hot ht3 hX k7 hg
  by_cases hod:x.y7 % 2=1
  ·have hb:(((x.y7 % 2:Nat):Int) == 1)=true:=beq_iff_eq.2 (by omega)
   have HWK:Hid ((if x.y7 % 2=1 then 5 else 1)=(5:Int)):=zA (zQ hod);have t37:=a02 t36 7
   have oyr : ∃ cur,obj w6 va5=some (.cells cur 84 (0,0))∧6 < cur.size:=by
    rcases ow6.2 with ⟨e,_⟩ | ⟨g,c,cur,e,_,h2,h3,_,h5,_⟩
    · cases e
    · cases e;exact ⟨cur,h2,by rw [h5];have:=Nat.mul_le_mul_right 5 h3;omega⟩
   obtain ⟨cur,akg,aqy⟩:=oyr;have fy:=a0d akg 6;have cy:w6.cell? ⟨va5,6,none⟩=some (cur[6]'(aqy)):=(a02 akg 6).trans (zT aqy)
   have aqz:va5≠g3:=fun e=>by subst e;have q:=akg.symm.trans t36;injection q with q;injection q with _ q _;exact absurd q (by decide)
   clear hod
   repeat'(first|go_skip|go_guarded|go_step|go_upon)
   refine ⟨⟨2,.slice (some ⟨va5,0,none⟩) 2 vc5,by omega,rfl,?_⟩,by simp [intOf]⟩
   exact .inr <| .inr ⟨rfl,by have q:=a95 ow6 6 (.int .i64 5) (by omega);rw [HWK.out];exact q,a07 t36 _ (show g3≠va5 from fun e=>aqz e.symm) _,yF ot6 (a2f ot6 akg (by decide)) _,hX6.own (by have:=a1p ow6 (g:=va5) rfl;exact this) (by rw [HN1.out];exact zD _)⟩
  have hb:(((x.y7 % 2:Nat):Int) == 1)=false:=vG.2 (by omega)
  have HWK:Hid ((if x.y7 % 2=1 then 5 else 1)=(1:Int)):=zA (zS hod)
  clear hod
  repeat'(first|go_skip|go_guarded|go_step|go_upon)
  refine ⟨⟨2,.slice (some ⟨va5,0,none⟩) 2 vc5,by omega,rfl,?_⟩,by simp [intOf]⟩
  exact .inr <| .inr ⟨rfl,by rw [HWK.out];exact ow6,t36,ot6,hX6⟩
 obtain rfl:=HHR.out
 have hyl:=(ac6 how).2
 obtain ⟨yva,yvc,yve⟩:=hyl.2
 subst yve
 have hcvw:=a8w.ahc hcv av1.1 av2.1 (HN1.out ▸ hX)
 have HB2:Hid (Below W W wr):=zA (rBn.trans (hX.below (by rw [HN1.out];exact rBn.size) (fun q hq=>by have:=HSZ.out;omega)))
 have r1k:=hX.obj r1w (by rw [HN1.out];exact a09 r1w) (by have:=HSZ.out;omega)
 have HZV:Hid (a1q wr (Zn.made1 x) mv rv (.slice tva (Zn.a1a x (Zn.a1j x)).length tvc) (.slice yva 2 yvc)):=zA ⟨hcvw,(a13 hot).2.1,hyl.1⟩
 have hav:=a9q hot (g:=W.heap.size+1) (by rw [HN1.out];have:=HSZ.out;omega)
 have hay:=a9q how (g:=W.heap.size+1) (by rw [HN1.out];have:=HSZ.out;omega)
 have HAV3:=zA (a9q hot (g:=g3) (by rw [HN1.out];have:=HSZ.out;omega))
 have ar2:ones #[.int .i64 (Zn.a0t x).a08,mv,.int .i64 (Zn.a0t x).a0l,rv,(Zn.a1c x.start:Int),.slice tva (Zn.a1a x (Zn.a1j x)).length tvc,(Zn.a3a x:Int),.slice yva 2 yvc]=true:=a1b omv orv rfl rfl
 have hrl:(Zn.a0t x).rules.length≤1∧(Zn.a0t x).a0g.length=2:=by unfold Zn.a0t;split<;>exact ⟨by simp,rfl⟩
 have HVR:Hid (Calls Tryz.prog 29 #[.agg #[.int .i64 (Zn.a0t x).a08,mv,.int .i64 (Zn.a0t x).a0l,rv,(Zn.a1c x.start:Int),.slice tva (Zn.a1a x (Zn.a1j x)).length tvc,(Zn.a3a x:Int),.slice yva 2 yvc]] wr fun e w'=>e=.returned (.int .i64 (Zn.a2l (Zn.made1 x)))∧Below wr wr w') :=
   zA (ae9 (z:=Zn.made1 x) HZV.out (by show (Zn.a0t x).rules.length < _;omega) (by show (Zn.a0t x).a0g.length < _;omega))
 have hle3 : ¬ 512 < (Zn.made1 x).trans.length:=by show ¬ 512 < (Zn.a1a x (Zn.a1j x)).length;rw [Zn.a1n];unfold Zn.a1j;omega
 have lB:=HB2.out.size
 have hSg:=HSZ.out
 have HHW:=zA how
 have HOT:=zA hot
 have HS2:Hid (n1≤wr.heap.size∧W.heap.size≤n1∧W.heap.size+1 < n1):=zA ⟨by rw [HN1.out];exact hX.size,by rw [HN1.out];omega,by rw [HN1.out];omega⟩
 clear how hot hyl hcvw hX hX1 aot t31 hrl
 cases hgb:Zn.a3o (Zn.made1 x)
 ·have HM:=zA (HME.out hgb)
  have hve:Zn.a2l (Zn.made1 x)=1:=by unfold Zn.a2l;rw [zS hle3,zS (by rw [hgb];decide)]
  rw [hve] at HVR
  clear hve hle3 hgb
  have hon0:ones #[.int .i64 (Zn.a0t x).a08,mv,.int .i64 (Zn.a0t x).a0l,rv,(Zn.a1c x.start:Int),.slice tva (Zn.a1a x (Zn.a1j x)).length tvc,(Zn.a3a x:Int),.slice none 0 0]=true:=a1b omv orv rfl rfl
  repeat' ((go_not_at_region 21);(first | (go_at_call 29;((with_reducible refine (HVR.out).mono ?_));rintro e w8 ⟨rfl,hb8⟩;have t38:=a0a ht3 hb8;have r18:=a0a r1k hb8;have hZ8:=zA (HZV.out.below hb8);have hB8:=zA (HB2.out.trans (hb8.mono lB));dsimp only)|go_skip|go_guarded|go_step|go_upon))
  have f7:=a0d t38 7
  have c7:=a02 t38 7
  have t39:obj (w8.setCell ⟨g3,7,none⟩ (.slice none 0 0)) g3=some (.cells #[.int .i64 (Zn.a0t x).a08,mv,.int .i64 (Zn.a0t x).a0l,rv,(Zn.a1c x.start:Int),.slice tva (Zn.a1a x (Zn.a1j x)).length tvc,(Zn.a3a x:Int),.slice none 0 0] 35 (0,0)):=by rw [a0c,t38];rfl
  have r19:=a07 r18 ⟨g3,7,none⟩ (show W.heap.size+1≠g3 by omega) (.slice none 0 0)
  have HZ9:Hid (a1q (w8.setCell ⟨g3,7,none⟩ (.slice none 0 0)) (Zn.aca x) mv rv (.slice tva (Zn.a1a x (Zn.a1j x)).length tvc) (.slice none 0 0)):=zA (a1q.only ⟨hZ8.out.cal,hZ8.out.tr,⟨none,0,rfl,fun h=>(by simp [Zn.aca] at h)⟩⟩ av1.1 av2.1 HAV3.out (aar _) (a4a _ _ _ _))
  have HB9:Hid (Below W W (w8.setCell ⟨g3,7,none⟩ (.slice none 0 0))):=zA (hB8.out.setCell (by show W.heap.size≤g3;omega) _)
  repeat'(first|go_skip|go_guarded|go_step|go_upon)
  refine yO (a1e rfl _ _ (W.heap.size+1) 35 _ (0,0) _ rfl (xB _ _ _ _ _ _ r19) Tryz.underlying35 rfl (by kernel_rfl)) rfl ?_
  exact ⟨⟨mv,rv,_,_,by rw [HM.out];rfl,by rw [HM.out];exact HZ9.out.only av1.2 av2.2 hav (aar _) (a7f _ _ _),by rw [HM.out];exact ⟨n1,HS2.out.2.1,(by have:=hb8.size;have:=HS2.out.1;simp [World.setRow];omega),own_setRow (yF (a0m HOT.out hb8) (a2f (a0m HOT.out hb8) t38 (by decide)) _) HS2.out.2.2 _,⟨rfl,.inl ⟨rfl,rfl⟩⟩,AV9.out⟩⟩,yX HB9.out (by omega) _⟩
 have HM:=zA (HMD.out hgb)
 have hve:Zn.a2l (Zn.made1 x)=0:=by unfold Zn.a2l;rw [zS hle3,zQ hgb]
 rw [hve] at HVR
 clear hve hle3 hgb
 repeat' (first | (go_at_call 29;((with_reducible refine (HVR.out).mono ?_));rintro e w8 ⟨rfl,hb8⟩;have t38:=a0a ht3 hb8;have r18:=a0a r1k hb8;have hZ8:=zA (HZV.out.below hb8);have hB8:=zA (HB2.out.trans (hb8.mono lB));dsimp only)|go_skip|go_guarded|go_step|go_upon)
 refine yO (a1e rfl _ _ (W.heap.size+1) 35 _ (0,0) _ rfl (xB _ _ _ _ _ _ r18) Tryz.underlying35 rfl (by kernel_rfl)) rfl ?_
 exact ⟨⟨mv,rv,_,_,by rw [HM.out];rfl,by rw [HM.out];exact hZ8.out.only av1.2 av2.2 hav hay (a7f _ _ _),by rw [HM.out];exact ⟨n1,HS2.out.2.1,(by have:=hb8.size;have:=HS2.out.1;simp [World.setRow];omega),own_setRow (a0m HOT.out hb8) HS2.out.2.2 _,own_setRow (a0m HHW.out hb8) HS2.out.2.2 _,AV9.out⟩⟩,yX hB8.out (by omega) _⟩
theorem ahs {W:World} {x:Zn.Raw} {gv ov:Value} (hx:x.In) (hg:U8V W gv x.a6v) (ho:U8V W ov x.a5z) :
  Calls Tryz.prog 16 #[.agg #[.int .u8 (x.start:Nat),gv,ov,.int .u8 (x.behind:Nat),.int .u8 (x.y0:Nat),.int .u8 (x.y1:Nat),.int .u8 (x.y2:Nat),.int .u8 (x.y3:Nat),.int .u8 (x.y4:Nat),.int .u8 (x.y5:Nat),.int .u8 (x.y6:Nat),.int .u8 (x.y7:Nat),.int .u8 (x.cal:Nat),.bool x.rules]] W fun e w'=>(∃ mv rv tv yv,e=.returned (.agg #[.int .i64 (Zn.made x).cal.a08,mv,.int .i64 (Zn.made x).cal.a0l,rv,.int .i64 (Zn.made x).start,tv,.int .i64 (Zn.made x).hor,yv])∧a1q w' (Zn.made x) mv rv tv yv)∧Below W W w' :=
 (Made_own hx hg ho).mono fun e w' h=>by
  obtain ⟨⟨mv,rv,tv,yv,h1,h2,_⟩,h3⟩:=h
  exact ⟨⟨mv,rv,tv,yv,h1,h2⟩,h3⟩
end Go.Proofs.YtppjleebbjipbaaGreat
