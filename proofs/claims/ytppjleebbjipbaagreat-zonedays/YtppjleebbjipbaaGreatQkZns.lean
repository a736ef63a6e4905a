/-
  zone.tick, over the contract of the sort.
-/
import Derived.Test.YtppjleebbjipbaaGreatQkZnr
import Derived.Test.YtppjleebbjipbaaGreatQkGrf
set_option linter.all false
namespace Zn
structure YR.Ok (c:Cal) (r:YR):Prop where
 o0 : -1080≤r.off
 o1:r.off≤1080
 m0:1≤r.mon
 m1:r.mon≤c.a0g.length
 k0:1≤r.wk
 k1:r.wk≤5
 d0:0≤r.wd
 d1:r.wd≤6
 n0:0≤r.mn
 n1:r.mn≤1439
structure Zok (z:a0w):Prop where
 cal:z.cal.ok=true
 yl:z.a0b.length=0∨z.a0b.length=2
 yr:∀ i,i < z.a0b.length→YR.Ok z.cal (z.a0b.getD i default)
def a0s (z:a0w):Int:=if z.a0b.length=0 then 1 else if z.cal.days % 7=0 then z.cal.days else z.cal.days * 7
def a6f (z:a0w) (k j:Nat):List Tr :=
 let d:=a8x z.cal (z.cal.a08+a0z z.cal k) ((k:Int)+1) (z.a0b.getD j default)
 if d.2=true then [⟨d.1 * 1440+(z.a0b.getD j default).mn - (z.a0b.getD (1 - j) default).off,(z.a0b.getD j default).off⟩] else []
def a0u (z:a0w) (k:Nat):Nat→List Tr
 | 0=>[]
 | j+1=>a0u z k j++a6f z k j
theorem abv {c:Cal} (hc:c.ok=true) {b y:Int} {r:YR} (hr:YR.Ok c r):b - 7≤(a8x c b y r).1∧(a8x c b y r).1≤b+800:=by
 have h0:=hr.m0
 have h1:=hr.m1
 simp only [Cal.ok,zN,zM] at hc
 have h16:=hc.1.m16
 have hs:=a8q hc.2.1 y (r.mon.toNat - 1) (by omega)
 have hl:=a5s hc.2.1 y (show r.mon.toNat - 1 < c.a0g.length by omega)
 unfold a8x
 dsimp only
 generalize a6z c y (r.mon.toNat - 1)=s at *
 generalize a97 c y (r.mon.toNat - 1)=l at *
 have hk0:=hr.k0
 have hk1:=hr.k1
 split
 ·dsimp only
  have:=wP (b+s+l - 1 - r.wd) (show (7:Int)≠0 by omega)
  have:=vJ (b+s+l - 1 - r.wd) (show (0:Int) < 7 by omega)
  omega
 dsimp only
 have:=wP (r.wd - (b+s)) (show (7:Int)≠0 by omega)
 have:=vJ (r.wd - (b+s)) (show (0:Int) < 7 by omega)
 omega
def raw (z:a0w):Nat→List Tr
 | 0=>[]
 | k+1=>raw z k++a0u z k 2
theorem aib (z:a0w) (k j:Nat):(a6f z k j).length≤1:=by
 unfold a6f
 dsimp only
 split<;>simp
def a7l (l:List Tr):Prop:=∀ i j,i≤j→j < l.length→(l.getD i default).tm≤(l.getD j default).tm
theorem a4u (z:a0w) (k:Nat):∀ j,(a0u z k j).length≤j
 | 0=>by simp [a0u]
 | j+1=>by
  have h1:=a4u z k j
  have h2:=aib z k j
  simp only [a0u,zX]
  omega
theorem a7e (z:a0w):∀ k,(raw z k).length≤2 * k
 | 0=>by simp [raw]
 | k+1=>by
  have h1:=a7e z k
  have h2:=a4u z k 2
  simp only [raw,zX]
  omega
theorem afq {z:a0w} (hz:Zok z) (h2:z.a0b.length=2) {k j:Nat} (hk:k≤2000001) (hj:j < 2) {x:Tr} (hx:x∈a6f z k j):(-2199023255552≤x.tm∧x.tm≤2199023255552)∧-1080≤x.off∧x.off≤1080:=by
 have hr:=hz.yr j (by omega)
 have hs:=hz.yr (1 - j) (by omega)
 have hb:=(a1v hz.cal k)
 have he:0≤z.cal.a08∧z.cal.a08≤1048576:=by
  have h:=hz.cal
  simp only [Cal.ok,zN,zM] at h
  exact ⟨h.1.e0,h.1.e1⟩
 have hy:=abv hz.cal hr (b:=z.cal.a08+a0z z.cal k) (y:=(k:Int)+1)
 unfold a6f at hx
 dsimp only at hx
 split at hx
 ·simp only [yD] at hx
  subst hx
  dsimp only
  have:=hr.o0;have:=hr.o1;have:=hr.n0;have:=hr.n1;have:=hs.o0;have:=hs.o1
  omega
 cases hx
theorem afp {z:a0w} (hz:Zok z) (h2:z.a0b.length=2):∀ {k:Nat},k≤2000001→∀ x∈raw z k,(-2199023255552≤x.tm∧x.tm≤2199023255552)∧-1080≤x.off∧x.off≤1080
 | 0,_,x,hx=>by cases hx
 | k+1,hk,x,hx=>by
  rcases yJ.1 hx with h | h
  ·exact afp hz h2 (by omega) x h
  ·have h:x∈([]++a6f z k 0)++a6f z k 1:=h
   rcases yJ.1 h with h | h
   ·exact afq hz h2 (show k≤2000001 by omega) (show 0 < 2 by omega) (by simpa using h)
   ·exact afq hz h2 (show k≤2000001 by omega) (show 1 < 2 by omega) h
structure al5 (z:a0w) (ys:List Tr):Prop where
 emp:z.a0b.length=0→ys = []
 perm:z.a0b.length=2→∃ k,(∀ j,j < k→a0z z.cal j < a0s z)∧a0s z≤a0z z.cal k∧ys.Perm (raw z k)
 sorted:a7l ys
def a6j (ys:List Tr) (cyc:Int) (i:Nat):Int:=(if i+1 < ys.length then (ys.getD (i+1) default).tm else (ys.getD 0 default).tm+cyc * 1440) - (ys.getD i default).tm
def a4e (ys:List Tr) (cyc:Int):Prop:=∀ i,i < ys.length→2160≤a6j ys cyc i
end Zn
namespace Go.Proofs.YtppjleebbjipbaaGreat
open Go.RowKit
set_option maxRecDepth 20000
set_option maxHeartbeats 8000000
def TrsN (W:World) (v:Value) (l:List Zn.Tr):Prop := ∃ ao c,v=.slice ao l.length c∧(0 < l.length→∃ b row T,ao=some ⟨b,0,none⟩∧obj W b=some (.cells row T (0,0))∧∀ i,i < l.length→0+i * 2+2≤row.size∧row.extract (0+i * 2) (0+i * 2+2)=a7c (l.getD i default))
theorem a7w {w:World} {base:Nat} {v:Value} {n:Nat} {l:List Zn.Tr} (h:w.ownsRow base 57 2 v n (a4g l)):TrsN w v l:=by
 have hl:=(a13 h).1
 obtain ⟨a,c,e,h2⟩:=(a13 h).2.1
 refine ⟨a,c,e,fun h0=>?_⟩
 obtain ⟨b,o,row,T,fr,e2,h3,h4⟩:=h2 h0
 rcases h.2 with ⟨rfl,h1⟩ | ⟨g,c',cur,rfl,h1,h5,_⟩
 ·omega
 cases e
 cases e2
 have h6:=h5.symm.trans h3
 cases h6
 exact ⟨_,_,_,rfl,h5,h4⟩
def acp:Prop:=∀ (W:World) (v:Value) (l:List Zn.Tr),TrsN W v l→l.length≤10000000 →
 Calls Tryz.prog 135 #[v,.func (.func 136) #[] #[]] W fun e w'=>e=.returned (.tuple #[])∧∃ l':List Zn.Tr,l'.Perm l∧Zn.a7l l'∧a2b w' v l'∧a1x W.heap.size (fun k => ∃ o m c,v=.slice (some ⟨k,o,none⟩) m c) W w'
theorem a1b {a b c d:Int} {m r t y:Value} (h1:m.oneCell' = true) (h2:r.oneCell' = true) (h3:t.oneCell' = true) (h4:y.oneCell' = true):ones #[a,m,b,r,c,t,d,y]=true:=by
 simp [ones,h1,h2,h3,h4,a0n]
theorem ahn {a b c d e:Int} {m r t y s:Value} (h1:m.oneCell' = true) (h2:r.oneCell' = true) (h3:t.oneCell' = true) (h4:y.oneCell' = true) (h5:s.oneCell' = true):ones #[a,m,b,r,c,t,d,y,s,e]=true:=by
 simp [ones,h1,h2,h3,h4,h5,a0n]
def aco (W:World) (E:Nat→Prop) (z:Zn.a0w) (e:Ending) (w':World):Prop :=
 (∃ ys,Zn.al5 z ys∧((Zn.a4e ys (Zn.a0s z)∧∃ g,e=.returned (.tuple #[.pointer (some ⟨g,0,none⟩),.bool true])∧a8j w' (fun k=>E k∨W.heap.size≤k) g z ys (Zn.a0s z)∧W.heap.size≤g)∨(¬ Zn.a4e ys (Zn.a0s z)∧e=.returned (.tuple #[.pointer none,.bool false]))))∧Below W W w'
theorem agm (
          HSF:acp) {W:World} {z:Zn.a0w} {mv rv tv yv:Value} (hv:a1q W z mv rv tv yv) (hk:Zn.Zok z) {E:Nat→Prop} (hE:InD E tv z.trans) :
  Calls Tryz.prog 95 #[.agg #[z.cal.a08,mv,z.cal.a0l,rv,z.start,tv,z.hor,yv]] W (aco W E z):=by
 have om:=hv.cal.mon.one
 have orr:=hv.cal.rul.one
 have ot:=a1m.one hv.tr
 have oy:=a1m.one hv.yr
 have hon:ones #[z.cal.a08,mv,z.cal.a0l,rv,z.start,tv,z.hor,yv]=true:=a1b om orr ot oy
 have aq5:ones #[z.cal.a08,mv,z.cal.a0l,rv]=true:=a6t om orr
 have honk:ones #[z.cal.a08,mv,z.cal.a0l,rv,z.start,tv,z.hor,yv,.slice none 0 0,(1:Int)]=true:=ahn om orr ot oy rfl
 have b1:obj ((W.alloc (.cells #[z.cal.a08,mv,z.cal.a0l,rv,z.start,tv,z.hor,yv] 35)).alloc (.cells #[z.cal.a08,mv,z.cal.a0l,rv,z.start,tv,z.hor,yv,.slice none 0 0,(1:Int)] 136)) W.heap.size=some (.cells #[z.cal.a08,mv,z.cal.a0l,rv,z.start,tv,z.hor,yv] 35 (0,0)):=a06 (a05 _ _ _ rfl) _
 have b2:obj ((W.alloc (.cells #[z.cal.a08,mv,z.cal.a0l,rv,z.start,tv,z.hor,yv] 35)).alloc (.cells #[z.cal.a08,mv,z.cal.a0l,rv,z.start,tv,z.hor,yv,.slice none 0 0,(1:Int)] 136)) (W.heap.size+1)=some (.cells #[z.cal.a08,mv,z.cal.a0l,rv,z.start,tv,z.hor,yv,.slice none 0 0,(1:Int)] 136 (0,0)):=a05 _ _ _ (by simp)
 have w2B:Below W W ((W.alloc (.cells #[z.cal.a08,mv,z.cal.a0l,rv,z.start,tv,z.hor,yv] 35)).alloc (.cells #[z.cal.a08,mv,z.cal.a0l,rv,z.start,tv,z.hor,yv,.slice none 0 0,(1:Int)] 136)):=(bR.alloc (zD _) _).alloc (by simp) _
 have HV:=zA hv
 have HK:=zA hk
 obtain ⟨ya,yc,hyv,hyq⟩:=hv.yr
 have HYQ:=zA hyq
 clear hyq
 clear hv hk
 subst hyv
 have hcd:=(a1h HK.out.cal).1
 have he0:=hcd.e0
 have he1:=hcd.e1
 have hyr5:=(a1h HK.out.cal).2.2.2.2.2
 have hds:=Zn.a1v HK.out.cal z.cal.a5b
 have hd1:1≤z.cal.days∧z.cal.days≤262400:=by
  have:=(a1h HK.out.cal).2.2.2.2.1
  have h:z.cal.days=Zn.a0z z.cal z.cal.a5b:=rfl
  omega
 clear hds hyr5 hcd
 have HCV:=zA (fun (W':World) (hb:Below W W W')=>HV.out.cal.below hb)
 have HCY:=zA (afd (HCV.out _ w2B) HK.out.cal)
 go_enter Tryz.func95,Tryz.ntmps95
 by_cases hy0:z.a0b.length=0
 ·have t0:((z.a0b.length:Int) == 0)=true:=by simp [hy0]
  have HY0:=zA hy0
  clear hy0
  repeat' ((go_not_at_region 4);(first|go_skip|go_guarded|go_step|go_upon))
  go_returns
  refine ⟨⟨[],⟨fun _=>rfl,fun h=>by have:=HY0.out;omega,fun i j _ hj=>by simp at hj⟩,.inl ⟨fun i hi=>by simp at hi,W.heap.size+1,rfl,?_,by omega⟩⟩,w2B⟩
  have hc:Zn.a0s z=1:=by unfold Zn.a0s;rw [zQ HY0.out]
  rw [hc]
  exact ⟨mv,rv,tv,.slice ya z.a0b.length yc,.slice none 0 0,b2,a1m.below HV.out.tr w2B,⟨none,0,rfl,fun h=>by simp at h⟩,.inr (by omega),fun h b o m c e=>.inl (hE h b o m c e),fun h=>by simp at h⟩
 have t0:((
       z.a0b.length:Int) == 0)=false:=by simpa using hy0
 have HY2:Hid (z.a0b.length=2):=zA (by rcases HK.out.yl with h | h;exact absurd h hy0;exact h)
 have hdm:Int.tmod z.cal.days 7=z.cal.days % 7:=yE (by omega)
 have hm7:0≤z.cal.days % 7∧z.cal.days % 7 < 7:=⟨wP _ (by omega),vJ _ (by omega)⟩
 have wm7:=zWI (z.cal.days % 7)
 have wd7:=zWI (z.cal.days * 7)
 have HD7:Hid (Zn.a0s z=if z.cal.days % 7=0 then z.cal.days else z.cal.days * 7):=zA (by unfold Zn.a0s;rw [zS hy0])
 clear hy0
 have HR7:=zA hm7
 clear hm7
 repeat' ((go_not_at_region 5);(first | (go_at_call 36;((with_reducible refine (HCY.out).mono ?_));rintro e w3 ⟨rfl,hb3⟩;have b13:=a0a b1 hb3;have b23:=a0a b2 hb3;have w3B:=w2B.trans (hb3.mono w2B.size);have c29:=a02 b23 9;have f29:=a0d b23 9;dsimp only)|go_skip|go_guarded|go_step|go_upon))
 have k3:obj (w3.setCell ⟨W.heap.size+1,9,none⟩ (.int .i64 z.cal.days)) (W.heap.size+1)=some (.cells #[z.cal.a08,mv,z.cal.a0l,rv,z.start,tv,z.hor,.slice ya z.a0b.length yc,.slice none 0 0,z.cal.days] 136 (0,0)):=by rw [a0c,b23];rfl
 have k31:obj (w3.setCell ⟨W.heap.size+1,9,none⟩ (.int .i64 z.cal.days)) W.heap.size=_:=a07 b13 _ (show W.heap.size≠W.heap.size+1 by omega) _
 have w3S:Below W W (w3.setCell ⟨W.heap.size+1,9,none⟩ (.int .i64 z.cal.days)):=w3B.setCell (by show W.heap.size≤W.heap.size+1;omega) _
 repeat' ((go_not_at_region 6);(first|go_skip|go_guarded|go_step|go_upon))
 clear b1 b2 w2B hb3 b13 b23 w3B c29 f29
 generalize w3.setCell ⟨W.heap.size+1,9,none⟩ (.int .i64 z.cal.days)=w4 at *
 by_cases h7:z.cal.days % 7=0
 ·have t7:(z.cal.days % 7 == 0)=true:=by simp [h7]
  have HC:Hid (Zn.a0s z=z.cal.days):=zA (by rw [HD7.out,zQ h7])
  clear h7 HD7
  repeat' ((go_not_at_region 8);(first|go_skip|go_guarded|go_step|go_upon))
  have t7n:(z.cal.days % 7 != 0)=false:=by simp only [bne,t7];rfl
  try rw [t7n]
  clear t7 t7n
  have k4:=k3
  have b5:=k31
  have w5B:=w3S
  clear k3 k31 w3S
  generalize w4=w5 at *
  obtain ⟨cyc,ahh⟩ : ∃ c,Zn.a0s z=c:=⟨_,rfl⟩
  have k5:obj w5 (W.heap.size+1)=some (.cells #[z.cal.a08,mv,z.cal.a0l,rv,z.start,tv,z.hor,.slice ya z.a0b.length yc,.slice none 0 0,cyc] 136 (0,0)):=by rw [← ahh,HC.out];exact k4
  have hcy:1≤cyc∧cyc≤2000000:=by rw [← ahh,HC.out];omega
  have abt:=zA ahh
  have c50:=a02 b5 0
  clear ahh k4
  repeat'(first|go_skip|go_guarded|go_step|go_upon)
  go_loopw [8,9] (fun b y wr => ∃ (k:Nat) (sv:Value),b=.int .i64 (z.cal.a08+Zn.a0z z.cal k)∧y=.int .i64 ((k:Int)+1)∧(∀ j,j < k→Zn.a0z z.cal j < cyc)∧wr.ownsRow (W.heap.size+2) 57 2 sv (Zn.raw z k).length (a4g (Zn.raw z k))∧obj wr (W.heap.size+1)=some (.cells #[z.cal.a08,mv,z.cal.a0l,rv,z.start,tv,z.hor,.slice ya z.a0b.length yc,sv,cyc] 136 (0,0))∧obj wr W.heap.size=some (.cells #[z.cal.a08,mv,z.cal.a0l,rv,z.start,tv,z.hor,.slice ya z.a0b.length yc] 35 (0,0))∧Below W W wr) (fun b _ _=>(z.cal.a08+cyc - intOf b).toNat)
  case atStart=>exact ⟨0,.slice none 0 0,by simp [Zn.a0z],rfl,fun j hj=>absurd hj (yA j),⟨rfl,.inl ⟨rfl,rfl⟩⟩,k5,b5,w5B⟩
  case round =>
   clear k5 b5 w5B c50;obtain ⟨k,sv,rfl,rfl,hlow,how,hk5,hb5,hB⟩:=hrel;have al7:=zA hlow;have hks:=Zn.a1v HK.out.cal k;have c50:=a02 hb5 0;have c59:=a02 hk5 9;have wce:=zWI (z.cal.a08+cyc)
   have hkc:(k:Int)≤cyc+1:=by
    rcases yM k with h | h
    ·omega
    ·have h1:=hlow (k - 1) (by omega)
     have h2:=(Zn.a1v HK.out.cal (k - 1)).1;omega
   clear hlow;by_cases hlt:Zn.a0z z.cal k < cyc
   ·have i1:z.cal.a08+Zn.a0z z.cal k < z.cal.a08+cyc:=by omega
    repeat'(first|go_skip|go_guarded|go_step|go_upon)
    go_quiet (fail);have hBq:=below_drewN hB nq;have hkq:obj (wr.drewN nq) (W.heap.size+1)=_:=hk5;have hbq:obj (wr.drewN nq) W.heap.size=_:=hb5;have adt:(wr.drewN nq).ownsRow _ _ _ _ _ _:=how;clear hB hk5 hb5 how c50 c59;generalize wr.drewN nq=w6 at *;have c57:=a02 hbq 7
    repeat'(first|go_skip|go_guarded|go_step|go_upon)
    go_loopw [64] (fun i wr => ∃ (j:Nat) (sv:Value),j≤2∧i=.int .i64 j∧wr.ownsRow (W.heap.size+2) 57 2 sv (Zn.raw z k++Zn.a0u z k j).length (a4g (Zn.raw z k++Zn.a0u z k j))∧obj wr (W.heap.size+1)=some (.cells #[z.cal.a08,mv,z.cal.a0l,rv,z.start,tv,z.hor,.slice ya z.a0b.length yc,sv,cyc] 136 (0,0))∧obj wr W.heap.size=some (.cells #[z.cal.a08,mv,z.cal.a0l,rv,z.start,tv,z.hor,.slice ya z.a0b.length yc] 35 (0,0))∧Below W W wr) (fun i _=>(2 - intOf i).toNat)
    case atStart=>exact ⟨0,sv,by omega,rfl,by simpa [Zn.a0u] using adt,hkq,hbq,hBq⟩
    case round =>
     clear adt hkq hbq hBq c57;obtain ⟨j,sv,hj,rfl,how,hk5,hb5,hB⟩:=hrel;have hlz:=(a13 how).1;by_cases hj2:j < 2
     ·have i2:(j:Int) < (z.a0b.length:Int):=by rw [HY2.out];omega
      obtain ⟨yb,yo,a8k,YT',yfr,rfl,q1,q2⟩:=HYQ.out (by rw [HY2.out];omega);obtain ⟨z0,k3⟩:=q2 j (by rw [HY2.out];omega);have q3:=(q2 (1 - j) (by rw [HY2.out];omega)).2;have z1:(yo+j * 5+5≤a8k.size)=True:=xN z0;have hyb:=a04 q1 hB (a09 q1);have hro:=HK.out.yr j (by rw [HY2.out];omega);have hr1:=HK.out.yr (1 - j) (by rw [HY2.out];omega);have hyd:=Zn.abv HK.out.cal hro (b:=z.cal.a08+Zn.a0z z.cal k) (y:=(k:Int)+1);have HRA:Hid (Zn.a6f z k j=if (Zn.a8x z.cal (z.cal.a08+Zn.a0z z.cal k) ((k:Int)+1) (z.a0b.getD j default)).2=true then [⟨(Zn.a8x z.cal (z.cal.a08+Zn.a0z z.cal k) ((k:Int)+1) (z.a0b.getD j default)).1 * 1440+(z.a0b.getD j default).mn - (z.a0b.getD (1 - j) default).off,(z.a0b.getD j default).off⟩] else []):=zA rfl;(try dsimp only at k3 q3);generalize z.a0b.getD j default=r at *;generalize z.a0b.getD (1 - j) default=ro at *;have k3':a8k.extract (yo+j * 5) (yo+j * 5+5)=#[.int .i64 r.mon,.int .i64 r.wk,.int .i64 r.wd,.int .i64 r.mn,.int .i64 r.off]:=k3;have q3':a8k.extract (yo+(1 - j) * 5) (yo+(1 - j) * 5+5)=#[.int .i64 ro.mon,.int .i64 ro.wk,.int .i64 ro.wd,.int .i64 ro.mn,.int .i64 ro.off]:=q3;have aq4:ones #[r.mon,r.wk,r.wd,r.mn,r.off]=true:=by simp [ones,a0n]
      obtain ⟨m,hm⟩ : ∃ m:Nat,r.mon=(m:Int)+1:=⟨(r.mon - 1).toNat,by have:=hro.m0;omega⟩
      have HYD:=zA (fun (W':World) (hb:Below W W W')=>a7n (HCV.out W' hb) HK.out.cal (b:=z.cal.a08+Zn.a0z z.cal k) (y:=(k:Int)+1) (by omega) (by omega) (r:=r) (m:=m) hm (by have:=hro.m1;omega) hro.k0 hro.k1 hro.d0 hro.d1);generalize hyy:Zn.a8x z.cal (z.cal.a08+Zn.a0z z.cal k) ((k:Int)+1) r=yd at *;obtain ⟨dd,ok⟩:=yd;dsimp only at hyd HRA HYD;have hB7:=hB.alloc hB.size (.cells #[r.mon,r.wk,r.wd,r.mn,r.off] 84);have aps:=zA (HYD.out _ hB7);have k7:obj (wr.alloc (.cells #[r.mon,r.wk,r.wd,r.mn,r.off] 84)) wr.heap.size=some (.cells #[r.mon,r.wk,r.wd,r.mn,r.off] 84 (0,0)):=a05 _ _ _ rfl;have kk7:=a06 hk5 (.cells #[r.mon,r.wk,r.wd,r.mn,r.off] 84);have kb7:=a06 hb5 (.cells #[r.mon,r.wk,r.wd,r.mn,r.off] 84);have ky7:=a06 hyb (.cells #[r.mon,r.wk,r.wd,r.mn,r.off] 84);have aos:=a0m how (bR.alloc (zD _) (.cells #[r.mon,r.wk,r.wd,r.mn,r.off] 84));have hrb0:=hro.o0;have hrb1:=hro.o1;have hrn0:=hro.n0;have hrn1:=hro.n1;have hrp0:=hr1.o0;have hrp1:=hr1.o1;clear k3 q3 q2 z0 HYD hyy hm hro hr1 hj
      repeat' ((go_not_at_region 16);(first | (go_at_call 133;((with_reducible refine (aps.out).mono ?_));rintro e w8 ⟨rfl,hb8⟩;dsimp only)|go_skip|go_guarded|go_step|go_upon))
      have kk8:=a0a kk7 hb8;have kb8:=a0a kb7 hb8;have ky8:=a0a ky7 hb8;have k78:=a0a k7 hb8;have ahf:=a0m aos hb8;have hB8:=hB7.trans (hb8.mono hB7.size);clear kk7 kb7 ky7 k7 aos hB7 aps hb8 hyb hk5 hb5 how hB;have lk:=a09 kk8;have lb:=a09 kb8;have ly:=a09 ky8;have l7:=a09 k78;generalize wr.heap.size=rb at *
      cases ok with
      | false =>
       have HP1:Hid (Zn.raw z k++Zn.a0u z k (j+1)=Zn.raw z k++Zn.a0u z k j):=zA (by show Zn.raw z k++(Zn.a0u z k j++Zn.a6f z k j)=_;rw [HRA.out];simp)
       repeat'(first|go_skip|go_guarded|go_step|go_upon)
       exact ⟨⟨j+1,sv,by omega,by go_num,by rw [HP1.out];exact ahf,kk8,kb8,hB8⟩,by simp [intOf];omega⟩
      | true =>
       have HP1:Hid (Zn.raw z k++Zn.a0u z k (j+1)=(Zn.raw z k++Zn.a0u z k j) ++ [(⟨dd * 1440+r.mn - ro.off,r.off⟩:Zn.Tr)]):=zA (by show Zn.raw z k++(Zn.a0u z k j++Zn.a6f z k j)=_;rw [HRA.out];simp);obtain ⟨va,vc,hsv⟩:=(a13 ahf).2.2.2
       have hvn:(Zn.raw z k++Zn.a0u z k j).length≤10000000:=by
        have h1:=Zn.a7e z k;have h2:=Zn.a4u z k j;rw [zX];omega
       have HVN:Hid (∀ l:List Zn.Tr,(l ++ [(⟨dd * 1440+r.mn - ro.off,r.off⟩:Zn.Tr)]).length=l.length+1):=zA fun l=>by simp
       generalize hvv:(Zn.raw z k++Zn.a0u z k j).length=vn at *;subst hsv;have w1:=zWI (dd * 1440);have w2:=zWI (dd * 1440+r.mn)
       have w3':IntKind.wrap .i64 (dd * 1440+r.mn - ro.off)=(dd * 1440+r.mn - ro.off):=by rw [wrap_in]<;>omega
       have w4':IntKind.wrap .i64 (1 - (j:Int))=((1 - j:Nat):Int):=by rw [wrap_in]<;>omega
       (have i3:((1 - j:Nat):Int) < (z.a0b.length:Int):=by rw [HY2.out];omega);have i4 : ¬ ((1 - j:Nat):Int) < 0:=by omega
       repeat' ((go_not_at_region 17);(first|go_skip|go_guarded|go_step|go_upon))
       refine a7o 22 [([],fun v _=>v=.pointer (some ⟨(W.heap.size+1),0,none⟩)),([],fun v _=>v=.pointer (some ⟨(W.heap.size+1),0,none⟩)),([1],fun v _=>v=.pointer (some ⟨(W.heap.size+1),0,none⟩)),([2],fun v _=>v=.pointer (some ⟨(W.heap.size+1),8,none⟩)),([3],fun v _=>v=.slice va vn vc),([],fun v _=>v=.int .i64 dd),([5],fun v _=>v=.int .i64 (dd * 1440)),([],fun v _=>v=.pointer (some ⟨rb,3,none⟩)),([7],fun v _=>v=.int .i64 r.mn),([6,8],fun v _=>v=.int .i64 (dd * 1440+r.mn)),([],fun v _=>v=.pointer (some ⟨W.heap.size,7,none⟩)),([10],fun v _=>v=.slice (some ⟨yb,yo,none⟩) z.a0b.length yc),([],fun v _=>v=.int .i64 (j:Nat)),([12],fun v _=>v=.int .i64 ((1 - j:Nat):Int)),([11,13],fun v _=>v=.pointer (some ⟨yb,yo+(1 - j) * 5,none⟩)),([14],fun v _=>v=.pointer (some ⟨yb,yo+(1 - j) * 5+4,none⟩)),([15],fun v _=>v=.int .i64 ro.off),([9,16],fun v _=>v=.int .i64 (dd * 1440+r.mn - ro.off)),([],fun v _=>v=.pointer (some ⟨rb,4,none⟩)),([18],fun v _=>v=.int .i64 r.off),([17,19],fun v _=>v=.agg #[(dd * 1440+r.mn - ro.off:Int),r.off]),
         ([20],fun v W' => ∃ g,v=.slice (some ⟨g,0,none⟩) 1 1∧obj W' g=some (.cells #[(dd * 1440+r.mn - ro.off:Int),r.off] 57 (0,0))∧w8.heap.size≤g)] (by kernel_rfl) (by kernel_rfl) (by kernel_rfl) ?st (v0:=.pointer (some ⟨(W.heap.size+1),0,none⟩)) rfl (by decide) (by kernel_rfl) (by kernel_rfl) (.inl ⟨rfl,fun _=>rfl⟩) (fun _ _ _ h=>h) (fun _=>rfl) ?ob ?tl
       case st => intro k v W1 W2 h hb;rcases k with _|_|_|_|_|_|_|_|_|_|_|_|_|_|_|_|_|_|_|_|_|_|k<;>first | exact h | trivial | (obtain ⟨g,h1,h2,h3⟩:=h;exact ⟨g,h1,a0a h2 hb,h3⟩)
       case ob =>
        and_intros<;>
        first
         | exact ⟨⟩
         | (intro vs Wq hW hk;(have q0:=a02 (a04 kk8 hW lk) 8);(have q1:=a02 (a04 k78 hW l7) 3);(have q2:=a02 (a04 kb8 hW lb) 7);(have q3:=(a02 (a04 ky8 hW ly) (yo+(1 - j) * 5+4)).trans (a0y 4 q3' (by simp)));(have q4:=a02 (a04 k78 hW l7) 4);(try simp only [knows,Spec.at',↓zH,↓zG,yL] at hk);simp only [Spec.at',↓zH,↓zG,a00,a03,yy0,yy1,yy2,yy3];(try simp only [hk]);first | ((repeat'(first|go_skip|go_guarded|go_step|go_upon));exact a01 _ rfl (by go_simp) bR rfl) | fail)
         | (
          intro vs Wq hW hk;have g20:vs 20=.agg #[(dd * 1440+r.mn - ro.off:Int),r.off]:=hk.1;clear hk;change wpList _ _ _ _ (a00 _ vs [20] _) _;simp only [a00,a03,yy0,yy1,yy2,yy3];rw [g20]
          repeat'(first|go_skip|go_guarded|go_step|go_upon)
          exact a01 (.slice (some ⟨Wq.heap.size,0,none⟩) 1 1) rfl (by go_simp) (bR.alloc (zD _) _) ⟨_,rfl,a05 _ _ _ rfl,hW.size⟩)
       case tl =>
        intro vs W2 hW2 hk2;have h4:vs 4=.slice va vn vc:=hk2 4 (by decide);have h0:vs 0=.pointer (some ⟨(W.heap.size+1),0,none⟩):=hk2 0 (by decide);have h21:=hk2 21 (by decide);have v21:=h21.choose_spec.1;have s21:=h21.choose_spec.2;generalize h21.choose=ng at v21 s21;clear h21 hk2;dsimp only [a1d,List.take,List.drop];simp only [Act.put,zF,zI,zJ];rw [h0,h4,v21];generalize vs 1=q1,vs 2=q2,vs 3=q3,vs 5=q5,vs 6=q6,vs 7=q7,vs 8=q8,vs 9=q9,vs 10=q10,vs 11=q11,vs 12=q12,vs 13=q13,vs 14=q14,vs 15=q15,vs 16=q16,vs 17=q17,vs 18=q18,vs 19=q19,vs 20=q20;clear h0 h4 v21;have ow2:=a0m ahf hW2;have a2:=a04 kk8 hW2 lk;have b2':=a04 kb8 hW2 lb;have hB2:=hB8.trans (hW2.mono hB8.size);have hsz:=hB2.size;have hsz2:W.heap.size+2≤W2.heap.size:=by have:=a09 a2;have:=hW2.size;omega
        repeat' ((go_not_at_region 18);(first | (at_builtin;(refine a2m rfl _ _ rfl (W.heap.size+2) vn _ (Zn.raw z k++Zn.a0u z k j) rfl ow2 ng ⟨dd * 1440+r.mn - ro.off,r.off⟩ rfl s21.1 (by omega) hsz2 ?_);intro v5 W5 a3p hg5;have hg:W2.grownBy W5 (Value.slice va vn vc).ownBlock:=hg5;clear hg5;have a5:=a19 ow2 a2 (by decide) hg;have b55:=a19 ow2 b2' (by decide) hg;have hB5:=hB2.grown hg hsz (fun g q=>by have:=a1p ow2 q;omega);obtain ⟨va5,vc5,hv5⟩:=(a13 a3p).2.2.2;subst hv5;have f5:=a0d a5 8;have c5:=a02 a5 8;dsimp only)|go_skip|go_guarded|go_step|go_upon))
        repeat'(first|go_skip|go_guarded|go_step|go_upon)
        (have hkn:obj (W5.setCell ⟨W.heap.size+1,8,none⟩ (.slice va5 (vn+1) vc5)) (W.heap.size+1)=some (.cells #[z.cal.a08,mv,z.cal.a0l,rv,z.start,tv,z.hor,.slice (some ⟨yb,yo,none⟩) z.a0b.length yc,.slice va5 (vn+1) vc5,cyc] 136 (0,0)):=by rw [a0c,a5];rfl);refine ⟨⟨j+1,.slice va5 (vn+1) vc5,by omega,by go_num,?_,hkn,a07 b55 _ (show W.heap.size≠W.heap.size+1 by omega) _,hB5.setCell (by show W.heap.size≤W.heap.size+1;omega) _⟩,by simp [intOf];omega⟩;rw [HP1.out,HVN.out,hvv];exact yF a3p (a2f a3p a5 (by decide)) _
     ·have i2 : ¬ (j:Int) < (z.a0b.length:Int):=by rw [HY2.out];omega
      (obtain rfl:j=2:=by omega);have HYL:=zA (a5y (HCV.out wr hB) HK.out.cal ((k:Int)+1));have HQ:Hid (Zn.a0z z.cal (k+1)=Zn.a0z z.cal k+Zn.a4f z.cal ((k:Int)+1)):=zA rfl;have hyl:=Zn.a5p HK.out.cal ((k:Int)+1);have HRW:Hid (Zn.raw z (k+1)=Zn.raw z k++Zn.a0u z k 2):=zA rfl;have HLT:=zA hlt;generalize hys:Zn.a0z z.cal k=ysk at *;have HYS:=zA hys;generalize Zn.a4f z.cal ((k:Int)+1)=ylk at *;have wye:=zWI (z.cal.a08+ysk+ylk);have wk1:=zWI ((k:Int)+1+1);clear hys
      repeat' (first | (go_at_call 134;((with_reducible refine (HYL.out).mono ?_));rintro e w8 ⟨rfl,hb8⟩;have hB8:=hB.trans (hb8.mono hB.size);have kk8:=a0a hk5 hb8;have kb8:=a0a hb5 hb8;have ahf:=a0m how hb8;dsimp only)|go_skip|go_guarded|go_step|go_upon)
      exact ⟨⟨k+1,sv,by rw [HQ.out,Int.add_assoc],by simp,fun j hj=>(zU j k).elim (fun h=>al7.out j h) (fun h=>by rw [show j=k by omega,HYS.out];exact HLT.out),by rw [HRW.out];exact ahf,kk8,kb8,hB8⟩,by have h1:=HLT.out;have h2:=HYS.out;simp only [intOf];omega⟩
   ·have i1 : ¬ z.cal.a08+Zn.a0z z.cal k < z.cal.a08+cyc:=by omega
    repeat'(first|go_skip|go_guarded|go_step|go_upon)
    go_quiet (fail);have hBq:=below_drewN hB nq;have hkq:obj (wr.drewN nq) (W.heap.size+1)=_:=hk5;have hbq:obj (wr.drewN nq) W.heap.size=_:=hb5;have adt:(wr.drewN nq).ownsRow _ _ _ _ _ _:=how;clear hB hk5 hb5 how c50 c59;generalize wr.drewN nq=w6 at *
    repeat' ((go_not_at_region 20);(first|go_skip|go_guarded|go_step|go_upon))
    have hrl:=(a13 adt).1;have aop:=a7w adt;have osv:=a3x adt;have hrl2:=Zn.a7e z k;have HSO:=zA (HSF w6 sv (Zn.raw z k) aop (by omega));have hRI:=zA (fun x hx=>Zn.afp HK.out HY2.out (k:=k) (by omega) x hx)
    have hown:∀ q,(∃ o m c,sv=.slice (some ⟨q,o,none⟩) m c)→W.heap.size+2≤q:=by
     rintro q ⟨o,m,c,e⟩
     rcases adt.2 with ⟨h,_⟩ | ⟨g,c',cur,h,h2,_⟩
     ·rw [e] at h;cases h
     ·rw [e] at h;cases h;exact h2
    have c58:=a02 hkq 8;have lk6:=a09 hkq;have lb6:=a09 hbq
    repeat' ((go_not_at_region 21);(first | (go_at_call 135;((with_reducible refine (HSO.out).mono ?_));rintro e w7 ⟨rfl,l',hperm,hsort,akp,hbx⟩;dsimp only)|go_skip|go_guarded|go_step|go_upon))
    have k7:=hbx.obj hkq lk6 (fun h=>by have:=hown _ h;omega);have h7B:=hBq.trans (hbx.below (by have:=hBq.size;omega) (fun q hq h=>by have:=hown _ h;omega));(have hz7:W.heap.size+2≤w7.heap.size:=by have:=a09 k7;have:=hBq.size;have:=hbx.size;omega);have hll:l'.length=(Zn.raw z k).length:=hperm.length_eq
    have HIN:Hid (∀ i,i < l'.length→(-2199023255552≤(l'.getD i default).tm∧(l'.getD i default).tm≤2199023255552)):=zA fun i hi=>(hRI.out _ (hperm.mem_iff.1 (by rw [zB,zK hi];exact yT hi))).1
    have HTK:Hid (Zn.al5 z l'):=zA ⟨fun h=>by have:=HY2.out;omega,fun _=>⟨k,by rw [abt.out];exact al7.out,by rw [abt.out];omega,hperm⟩,hsort⟩;have HT7:=zA akp;have HK7:Hid (a8j w7 (fun q=>E q∨W.heap.size≤q) (W.heap.size+1) z l' cyc):=zA ⟨mv,rv,tv,.slice ya z.a0b.length yc,sv,k7,a1m.below HV.out.tr h7B,akp,.inr (by omega),fun h b o m c e=>.inl (hE h b o m c e),fun _ b o m c e=>.inr (by have:=hown b ⟨o,m,c,e⟩;omega)⟩;(have hl63:l'.length≤10000000:=by omega);obtain ⟨sa',sc',aeb⟩:=a2b.ajx akp;clear HSO hRI hrl aop hperm hsort akp hbx hkq hbq adt hBq c58 lk6 lb6 hrl2 hll;have c78:=a02 k7 8;rw [aeb] at c78
    repeat'(first|go_skip|go_guarded|go_step|go_upon)
    go_loopw [121] (fun i wr => ∃ q:Nat,q≤l'.length∧i=.int .i64 q∧(∀ j,j < q→2160≤Zn.a6j l' cyc j)∧Below w7 w7 wr) (fun i _=>((l'.length:Int) - intOf i).toNat)
    case atStart=>exact ⟨0,by omega,rfl,fun j hj=>absurd hj (yA j),zC _ _⟩
    case round =>
     obtain ⟨q,hq,rfl,hgp,hC⟩:=hrel;have HGP:=zA hgp;have hB:=h7B.trans (hC.mono h7B.size);clear hgp;by_cases hql:q < l'.length
     ·have i1:(q:Int) < (l'.length:Int):=by omega
      have htw:=a1m.below HT7.out hC;obtain ⟨tb,tof,tc,a5d,TT',tfr,htv,tq1,tq2⟩:=a2b.open htw (by omega);rw [aeb] at htv
      obtain ⟨rfl,rfl⟩:sa' = some ⟨tb,tof,none⟩∧sc' = tc:=by injection htv with a b c;exact ⟨a,c⟩
      obtain ⟨z0,k3⟩:=tq2 q hql;have z1:(tof+q * 2+2≤a5d.size)=True:=xN z0;(have e0r:a5d[tof]? = some (.int .i64 (l'.getD 0 default).tm):=by have:=a0y 0 (tq2 0 (by omega)).2 (by simp);simpa using this);have HE1:=zA (fun h=>a0y 0 (tq2 (q+1) h).2 (by simp));have kw:=a0a k7 hC;have cw8:=a02 kw 8;rw [aeb] at cw8;have hb0:=HIN.out 0 (by omega);have hbq:=HIN.out q hql;have hwD:=zA (HK7.out.below hC);have hnb:=zA (HIN.out (q+1))
      obtain ⟨gv,hgv⟩ : ∃ gv,Zn.a6j l' cyc q=gv:=⟨_,rfl⟩
      have HGV:=zA hgv;unfold Zn.a6j at hgv;clear htv htw tq2 z0;generalize (l'.getD 0 default).tm=y0 at *;generalize l'.getD q default=x at *;(have hon:ones #[x.tm,x.off]=true:=by simp [ones,a0n]);have hD5:=hwD.out.below ((zC wr.heap.size wr).alloc (zD _) (.cells #[x.tm,x.off] 57));have HMI:=zA (fun n=>a2v (hD5.clk.drewN n) (by omega) (by omega));have k6:obj (wr.alloc (.cells #[x.tm,x.off] 57)) wr.heap.size=some (.cells #[x.tm,x.off] 57 (0,0)):=a05 _ _ _ rfl;have kw6:=a06 kw (.cells #[x.tm,x.off] 57);have tw6:=a06 tq1 (.cells #[x.tm,x.off] 57);have an7:=a02 kw6 8;rw [aeb] at an7;have e06:=(a02 tw6 tof).trans e0r;have HQL:=zA hql
      have wq1:IntKind.wrap .i64 ((q:Int)+1)=((q+1:Nat):Int):=by rw [wrap_in]<;>omega
      have wcm:=zWI (y0+cyc * 1440);by_cases hq1:q+1 < l'.length
      ·have lq:(((q+1:Nat):Int) < (l'.length:Int)):=by omega
       rw [zQ hq1] at hgv;have hy1:=hnb.out hq1;have e1r:=HE1.out hq1;generalize (l'.getD (q+1) default).tm=y1 at *;have e1r:a5d[tof+(q+1) * 2]? = some (.int .i64 y1):=e1r;have HGQ:=zA hgv;have wgv:=zWI (y1 - x.tm);have HQ1:=zA hq1;clear hgv hq1 hwD hD5
       repeat'(first|go_skip|go_guarded|go_step|go_upon)
       go_quiet ((go_at_call 128;refine vW ((HMI.out _).mono fun _ _ h=>⟨h.1,h.2.symm⟩)));have h9C:=below_drewN (hC.alloc hC.size (.cells #[x.tm,x.off] 57)) nq;have k69:obj ((wr.alloc (.cells #[x.tm,x.off] 57)).drewN nq) wr.heap.size=_:=k6;have kw9:obj ((wr.alloc (.cells #[x.tm,x.off] 57)).drewN nq) (W.heap.size+1)=_:=kw6;have tw9:obj ((wr.alloc (.cells #[x.tm,x.off] 57)).drewN nq) tb=_:=tw6;have c69:=a02 k69 0;have cw9:=a02 kw9 8;rw [aeb] at cw9;have h9B:=h7B.trans (h9C.mono h7B.size);have e19:=(a02 tw9 (tof+(q+1) * 2)).trans e1r;clear k6 kw6 tw6 e06 an7 hC hB k69 kw9 tw9 HMI tq1;generalize (wr.alloc (.cells #[x.tm,x.off] 57)).drewN nq=w9 at *;by_cases hg:y1 - x.tm < 2160
       ·have HG:=zA hg
        repeat'(first|go_skip|go_guarded|go_step|go_upon)
        go_returns;exact ⟨⟨l',HTK.out,.inr ⟨fun h=>by have h1:=h q (by have:=HQL.out;omega);rw [abt.out,HGV.out,← HGQ.out] at h1;have:=HG.out;omega,rfl⟩⟩,h9B⟩
       ·repeat'(first|go_skip|go_guarded|go_step|go_upon)
        exact ⟨⟨q+1,by have:=HQL.out;omega,by go_num,fun j hj=>(zU j q).elim (fun h=>HGP.out j h) (fun h=>by rw [show j=q by omega,HGV.out,← HGQ.out];omega),h9C⟩,by simp [intOf];omega⟩
      ·have lq : ¬ ((q+1:Nat):Int) < (l'.length:Int):=by omega
       rw [zS hq1] at hgv;have HGQ:=zA hgv;have wgv:=zWI (y0+cyc * 1440 - x.tm);have HQ1:=zA hq1;clear hgv hq1 hwD hD5
       repeat'(first|go_skip|go_guarded|go_step|go_upon)
       go_quiet ((go_at_call 128;refine vW ((HMI.out _).mono fun _ _ h=>⟨h.1,h.2.symm⟩)));have h9C:=below_drewN (hC.alloc hC.size (.cells #[x.tm,x.off] 57)) nq;have k69:obj ((wr.alloc (.cells #[x.tm,x.off] 57)).drewN nq) wr.heap.size=_:=k6;have kw9:obj ((wr.alloc (.cells #[x.tm,x.off] 57)).drewN nq) (W.heap.size+1)=_:=kw6;have tw9:obj ((wr.alloc (.cells #[x.tm,x.off] 57)).drewN nq) tb=_:=tw6;have c69:=a02 k69 0;have cw9:=a02 kw9 8;rw [aeb] at cw9;have h9B:=h7B.trans (h9C.mono h7B.size);clear k6 kw6 tw6 e06 an7 hC hB k69 kw9 tw9 HMI tq1;generalize (wr.alloc (.cells #[x.tm,x.off] 57)).drewN nq=w9 at *;by_cases hg:y0+cyc * 1440 - x.tm < 2160
       ·have HG:=zA hg
        repeat'(first|go_skip|go_guarded|go_step|go_upon)
        go_returns;exact ⟨⟨l',HTK.out,.inr ⟨fun h=>by have h1:=h q (by have:=HQL.out;omega);rw [abt.out,HGV.out,← HGQ.out] at h1;have:=HG.out;omega,rfl⟩⟩,h9B⟩
       ·repeat'(first|go_skip|go_guarded|go_step|go_upon)
        exact ⟨⟨q+1,by have:=HQL.out;omega,by go_num,fun j hj=>(zU j q).elim (fun h=>HGP.out j h) (fun h=>by rw [show j=q by omega,HGV.out,← HGQ.out];omega),h9C⟩,by simp [intOf];omega⟩
     ·have i1 : ¬ (q:Int) < (l'.length:Int):=by omega
      (obtain rfl:q=l'.length:=by omega);have HKW:=zA (HK7.out.below hC)
      repeat'(first|go_skip|go_guarded|go_step|go_upon)
      go_returns;exact ⟨⟨l',HTK.out,.inl ⟨by rw [abt.out];exact HGP.out,W.heap.size+1,rfl,by rw [abt.out];exact HKW.out,by omega⟩⟩,hB⟩
 have t7:(z.cal.days % 7 == 0)=false:=by simpa using h7
 have HC:Hid (Zn.a0s z=z.cal.days * 7):=zA (by rw [HD7.out,zS h7])
 have c49:=a02 k3 9
 have f49:=a0d k3 9
 clear h7 HD7
 have k4:obj (w4.setCell ⟨W.heap.size+1,9,none⟩ (.int .i64 (z.cal.days * 7))) (W.heap.size+1)=some (.cells #[z.cal.a08,mv,z.cal.a0l,rv,z.start,tv,z.hor,.slice ya z.a0b.length yc,.slice none 0 0,(z.cal.days * 7:Int)] 136 (0,0)):=by rw [a0c,k3];rfl
 have b5:obj (w4.setCell ⟨W.heap.size+1,9,none⟩ (.int .i64 (z.cal.days * 7))) W.heap.size=_:=a07 k31 _ (show W.heap.size≠W.heap.size+1 by omega) _
 have w5B:Below W W (w4.setCell ⟨W.heap.size+1,9,none⟩ (.int .i64 (z.cal.days * 7))):=w3S.setCell (by show W.heap.size≤W.heap.size+1;omega) _
 repeat' ((go_not_at_region 8);(first|go_skip|go_guarded|go_step|go_upon))
 have t7n:(z.cal.days % 7 != 0)=true:=by simp only [bne,t7];rfl
 try rw [t7n]
 clear t7 t7n
 clear k3 k31 w3S c49 f49
 generalize w4.setCell ⟨W.heap.size+1,9,none⟩ (.int .i64 (z.cal.days * 7))=w5 at *
 obtain ⟨cyc,ahh⟩ : ∃ c,Zn.a0s z=c:=⟨_,rfl⟩
 have k5:obj w5 (W.heap.size+1)=some (.cells #[z.cal.a08,mv,z.cal.a0l,rv,z.start,tv,z.hor,.slice ya z.a0b.length yc,.slice none 0 0,cyc] 136 (0,0)):=by rw [← ahh,HC.out];exact k4
 have hcy:1≤cyc∧cyc≤2000000:=by rw [← ahh,HC.out];omega
 have abt:=zA ahh
 have c50:=a02 b5 0
 clear ahh k4
 repeat'(first|go_skip|go_guarded|go_step|go_upon)
 go_loopw [8,9] (fun b y wr => ∃ (k:Nat) (sv:Value),b=.int .i64 (z.cal.a08+Zn.a0z z.cal k)∧y=.int .i64 ((k:Int)+1)∧(∀ j,j < k→Zn.a0z z.cal j < cyc)∧wr.ownsRow (W.heap.size+2) 57 2 sv (Zn.raw z k).length (a4g (Zn.raw z k))∧obj wr (W.heap.size+1)=some (.cells #[z.cal.a08,mv,z.cal.a0l,rv,z.start,tv,z.hor,.slice ya z.a0b.length yc,sv,cyc] 136 (0,0))∧obj wr W.heap.size=some (.cells #[z.cal.a08,mv,z.cal.a0l,rv,z.start,tv,z.hor,.slice ya z.a0b.length yc] 35 (0,0))∧Below W W wr) (fun b _ _=>(z.cal.a08+cyc - intOf b).toNat)
 case atStart=>exact ⟨0,.slice none 0 0,by simp [Zn.a0z],rfl,fun j hj=>absurd hj (yA j),⟨rfl,.inl ⟨rfl,rfl⟩⟩,k5,b5,w5B⟩
 clear k5 b5 w5B c50
 obtain ⟨k,sv,rfl,rfl,hlow,how,hk5,hb5,hB⟩:=hrel
 have al7:=zA hlow
 have hks:=Zn.a1v HK.out.cal k
 have c50:=a02 hb5 0
 have c59:=a02 hk5 9
 have wce:=zWI (z.cal.a08+cyc)
 have hkc:(k:Int)≤cyc+1:=by
  rcases yM k with h | h
  ·omega
  ·have h1:=hlow (k - 1) (by omega)
   have h2:=(Zn.a1v HK.out.cal (k - 1)).1;omega
 clear hlow
 by_cases hlt:Zn.a0z z.cal k < cyc
 ·have i1:z.cal.a08+Zn.a0z z.cal k < z.cal.a08+cyc:=by omega
  repeat'(first|go_skip|go_guarded|go_step|go_upon)
  go_quiet (fail)
  have hBq:=below_drewN hB nq
  have hkq:obj (wr.drewN nq) (W.heap.size+1)=_:=hk5
  have hbq:obj (wr.drewN nq) W.heap.size=_:=hb5
  have adt:(wr.drewN nq).ownsRow _ _ _ _ _ _:=how
  clear hB hk5 hb5 how c50 c59
  generalize wr.drewN nq=w6 at *
  have c57:=a02 hbq 7
  repeat'(first|go_skip|go_guarded|go_step|go_upon)
  go_loopw [64] (fun i wr => ∃ (j:Nat) (sv:Value),j≤2∧i=.int .i64 j∧wr.ownsRow (W.heap.size+2) 57 2 sv (Zn.raw z k++Zn.a0u z k j).length (a4g (Zn.raw z k++Zn.a0u z k j))∧obj wr (W.heap.size+1)=some (.cells #[z.cal.a08,mv,z.cal.a0l,rv,z.start,tv,z.hor,.slice ya z.a0b.length yc,sv,cyc] 136 (0,0))∧obj wr W.heap.size=some (.cells #[z.cal.a08,mv,z.cal.a0l,rv,z.start,tv,z.hor,.slice ya z.a0b.length yc] 35 (0,0))∧Below W W wr) (fun i _=>(2 - intOf i).toNat)
  case atStart=>exact ⟨0,sv,by omega,rfl,by simpa [Zn.a0u] using adt,hkq,hbq,hBq⟩
  case round =>
   clear adt hkq hbq hBq c57;obtain ⟨j,sv,hj,rfl,how,hk5,hb5,hB⟩:=hrel;have hlz:=(a13 how).1;by_cases hj2:j < 2
   ·have i2:(j:Int) < (z.a0b.length:Int):=by rw [HY2.out];omega
    obtain ⟨yb,yo,a8k,YT',yfr,rfl,q1,q2⟩:=HYQ.out (by rw [HY2.out];omega);obtain ⟨z0,k3⟩:=q2 j (by rw [HY2.out];omega);have q3:=(q2 (1 - j) (by rw [HY2.out];omega)).2;have z1:(yo+j * 5+5≤a8k.size)=True:=xN z0;have hyb:=a04 q1 hB (a09 q1);have hro:=HK.out.yr j (by rw [HY2.out];omega);have hr1:=HK.out.yr (1 - j) (by rw [HY2.out];omega);have hyd:=Zn.abv HK.out.cal hro (b:=z.cal.a08+Zn.a0z z.cal k) (y:=(k:Int)+1);have HRA:Hid (Zn.a6f z k j=if (Zn.a8x z.cal (z.cal.a08+Zn.a0z z.cal k) ((k:Int)+1) (z.a0b.getD j default)).2=true then [⟨(Zn.a8x z.cal (z.cal.a08+Zn.a0z z.cal k) ((k:Int)+1) (z.a0b.getD j default)).1 * 1440+(z.a0b.getD j default).mn - (z.a0b.getD (1 - j) default).off,(z.a0b.getD j default).off⟩] else []):=zA rfl;(try dsimp only at k3 q3);generalize z.a0b.getD j default=r at *;generalize z.a0b.getD (1 - j) default=ro at *;have k3':a8k.extract (yo+j * 5) (yo+j * 5+5)=#[.int .i64 r.mon,.int .i64 r.wk,.int .i64 r.wd,.int .i64 r.mn,.int .i64 r.off]:=k3;have q3':a8k.extract (yo+(1 - j) * 5) (yo+(1 - j) * 5+5)=#[.int .i64 ro.mon,.int .i64 ro.wk,.int .i64 ro.wd,.int .i64 ro.mn,.int .i64 ro.off]:=q3;have aq4:ones #[r.mon,r.wk,r.wd,r.mn,r.off]=true:=by simp [ones,a0n]
    obtain ⟨m,hm⟩ : ∃ m:Nat,r.mon=(m:Int)+1:=⟨(r.mon - 1).toNat,by have:=hro.m0;omega⟩
    have HYD:=zA (fun (W':World) (hb:Below W W W')=>a7n (HCV.out W' hb) HK.out.cal (b:=z.cal.a08+Zn.a0z z.cal k) (y:=(k:Int)+1) (by omega) (by omega) (r:=r) (m:=m) hm (by have:=hro.m1;omega) hro.k0 hro.k1 hro.d0 hro.d1);generalize hyy:Zn.a8x z.cal (z.cal.a08+Zn.a0z z.cal k) ((k:Int)+1) r=yd at *;obtain ⟨dd,ok⟩:=yd;dsimp only at hyd HRA HYD;have hB7:=hB.alloc hB.size (.cells #[r.mon,r.wk,r.wd,r.mn,r.off] 84);have aps:=zA (HYD.out _ hB7);have k7:obj (wr.alloc (.cells #[r.mon,r.wk,r.wd,r.mn,r.off] 84)) wr.heap.size=some (.cells #[r.mon,r.wk,r.wd,r.mn,r.off] 84 (0,0)):=a05 _ _ _ rfl;have kk7:=a06 hk5 (.cells #[r.mon,r.wk,r.wd,r.mn,r.off] 84);have kb7:=a06 hb5 (.cells #[r.mon,r.wk,r.wd,r.mn,r.off] 84);have ky7:=a06 hyb (.cells #[r.mon,r.wk,r.wd,r.mn,r.off] 84);have aos:=a0m how (bR.alloc (zD _) (.cells #[r.mon,r.wk,r.wd,r.mn,r.off] 84));have hrb0:=hro.o0;have hrb1:=hro.o1;have hrn0:=hro.n0;have hrn1:=hro.n1;have hrp0:=hr1.o0;have hrp1:=hr1.o1;clear k3 q3 q2 z0 HYD hyy hm hro hr1 hj
    repeat' ((go_not_at_region 16);(first | (go_at_call 133;((with_reducible refine (aps.out).mono ?_));rintro e w8 ⟨rfl,hb8⟩;dsimp only)|go_skip|go_guarded|go_step|go_upon))
    have kk8:=a0a kk7 hb8;have kb8:=a0a kb7 hb8;have ky8:=a0a ky7 hb8;have k78:=a0a k7 hb8;have ahf:=a0m aos hb8;have hB8:=hB7.trans (hb8.mono hB7.size);clear kk7 kb7 ky7 k7 aos hB7 aps hb8 hyb hk5 hb5 how hB;have lk:=a09 kk8;have lb:=a09 kb8;have ly:=a09 ky8;have l7:=a09 k78;generalize wr.heap.size=rb at *
    cases ok with
    | false =>
     have HP1:Hid (Zn.raw z k++Zn.a0u z k (j+1)=Zn.raw z k++Zn.a0u z k j):=zA (by show Zn.raw z k++(Zn.a0u z k j++Zn.a6f z k j)=_;rw [HRA.out];simp)
     repeat'(first|go_skip|go_guarded|go_step|go_upon)
     exact ⟨⟨j+1,sv,by omega,by go_num,by rw [HP1.out];exact ahf,kk8,kb8,hB8⟩,by simp [intOf];omega⟩
    | true =>
     have HP1:Hid (Zn.raw z k++Zn.a0u z k (j+1)=(Zn.raw z k++Zn.a0u z k j) ++ [(⟨dd * 1440+r.mn - ro.off,r.off⟩:Zn.Tr)]):=zA (by show Zn.raw z k++(Zn.a0u z k j++Zn.a6f z k j)=_;rw [HRA.out];simp);obtain ⟨va,vc,hsv⟩:=(a13 ahf).2.2.2
     have hvn:(Zn.raw z k++Zn.a0u z k j).length≤10000000:=by
      have h1:=Zn.a7e z k;have h2:=Zn.a4u z k j;rw [zX];omega
     have HVN:Hid (∀ l:List Zn.Tr,(l ++ [(⟨dd * 1440+r.mn - ro.off,r.off⟩:Zn.Tr)]).length=l.length+1):=zA fun l=>by simp
     generalize hvv:(Zn.raw z k++Zn.a0u z k j).length=vn at *;subst hsv;have w1:=zWI (dd * 1440);have w2:=zWI (dd * 1440+r.mn)
     have w3':IntKind.wrap .i64 (dd * 1440+r.mn - ro.off)=(dd * 1440+r.mn - ro.off):=by rw [wrap_in]<;>omega
     have w4':IntKind.wrap .i64 (1 - (j:Int))=((1 - j:Nat):Int):=by rw [wrap_in]<;>omega
     (have i3:((1 - j:Nat):Int) < (z.a0b.length:Int):=by rw [HY2.out];omega);have i4 : ¬ ((1 - j:Nat):Int) < 0:=by omega
     repeat' ((go_not_at_region 17);(first|go_skip|go_guarded|go_step|go_upon))
     refine a7o 22 [([],fun v _=>v=.pointer (some ⟨(W.heap.size+1),0,none⟩)),([],fun v _=>v=.pointer (some ⟨(W.heap.size+1),0,none⟩)),([1],fun v _=>v=.pointer (some ⟨(W.heap.size+1),0,none⟩)),([2],fun v _=>v=.pointer (some ⟨(W.heap.size+1),8,none⟩)),([3],fun v _=>v=.slice va vn vc),([],fun v _=>v=.int .i64 dd),([5],fun v _=>v=.int .i64 (dd * 1440)),([],fun v _=>v=.pointer (some ⟨rb,3,none⟩)),([7],fun v _=>v=.int .i64 r.mn),([6,8],fun v _=>v=.int .i64 (dd * 1440+r.mn)),([],fun v _=>v=.pointer (some ⟨W.heap.size,7,none⟩)),([10],fun v _=>v=.slice (some ⟨yb,yo,none⟩) z.a0b.length yc),([],fun v _=>v=.int .i64 (j:Nat)),([12],fun v _=>v=.int .i64 ((1 - j:Nat):Int)),([11,13],fun v _=>v=.pointer (some ⟨yb,yo+(1 - j) * 5,none⟩)),([14],fun v _=>v=.pointer (some ⟨yb,yo+(1 - j) * 5+4,none⟩)),([15],fun v _=>v=.int .i64 ro.off),([9,16],fun v _=>v=.int .i64 (dd * 1440+r.mn - ro.off)),([],fun v _=>v=.pointer (some ⟨rb,4,none⟩)),([18],fun v _=>v=.int .i64 r.off),([17,19],fun v _=>v=.agg #[(dd * 1440+r.mn - ro.off:Int),r.off]),
       ([20],fun v W' => ∃ g,v=.slice (some ⟨g,0,none⟩) 1 1∧obj W' g=some (.cells #[(dd * 1440+r.mn - ro.off:Int),r.off] 57 (0,0))∧w8.heap.size≤g)] (by kernel_rfl) (by kernel_rfl) (by kernel_rfl) ?st (v0:=.pointer (some ⟨(W.heap.size+1),0,none⟩)) rfl (by decide) (by kernel_rfl) (by kernel_rfl) (.inl ⟨rfl,fun _=>rfl⟩) (fun _ _ _ h=>h) (fun _=>rfl) ?ob ?tl
     case st => intro k v W1 W2 h hb;rcases k with _|_|_|_|_|_|_|_|_|_|_|_|_|_|_|_|_|_|_|_|_|_|k<;>first | exact h | trivial | (obtain ⟨g,h1,h2,h3⟩:=h;exact ⟨g,h1,a0a h2 hb,h3⟩)
     case ob =>
      and_intros<;>
      first
       | exact ⟨⟩
       | (intro vs Wq hW hk;(have q0:=a02 (a04 kk8 hW lk) 8);(have q1:=a02 (a04 k78 hW l7) 3);(have q2:=a02 (a04 kb8 hW lb) 7);(have q3:=(a02 (a04 ky8 hW ly) (yo+(1 - j) * 5+4)).trans (a0y 4 q3' (by simp)));(have q4:=a02 (a04 k78 hW l7) 4);(try simp only [knows,Spec.at',↓zH,↓zG,yL] at hk);simp only [Spec.at',↓zH,↓zG,a00,a03,yy0,yy1,yy2,yy3];(try simp only [hk]);first | ((repeat'(first|go_skip|go_guarded|go_step|go_upon));exact a01 _ rfl (by go_simp) bR rfl) | fail)
       | (
        intro vs Wq hW hk;have g20:vs 20=.agg #[(dd * 1440+r.mn - ro.off:Int),r.off]:=hk.1;clear hk;change wpList _ _ _ _ (a00 _ vs [20] _) _;simp only [a00,a03,yy0,yy1,yy2,yy3];rw [g20]
        repeat'(first|go_skip|go_guarded|go_step|go_upon)
        exact a01 (.slice (some ⟨Wq.heap.size,0,none⟩) 1 1) rfl (by go_simp) (bR.alloc (zD _) _) ⟨_,rfl,a05 _ _ _ rfl,hW.size⟩)
     case tl =>
      intro vs W2 hW2 hk2;have h4:vs 4=.slice va vn vc:=hk2 4 (by decide);have h0:vs 0=.pointer (some ⟨(W.heap.size+1),0,none⟩):=hk2 0 (by decide);have h21:=hk2 21 (by decide);have v21:=h21.choose_spec.1;have s21:=h21.choose_spec.2;generalize h21.choose=ng at v21 s21;clear h21 hk2;dsimp only [a1d,List.take,List.drop];simp only [Act.put,zF,zI,zJ];rw [h0,h4,v21];generalize vs 1=q1,vs 2=q2,vs 3=q3,vs 5=q5,vs 6=q6,vs 7=q7,vs 8=q8,vs 9=q9,vs 10=q10,vs 11=q11,vs 12=q12,vs 13=q13,vs 14=q14,vs 15=q15,vs 16=q16,vs 17=q17,vs 18=q18,vs 19=q19,vs 20=q20;clear h0 h4 v21;have ow2:=a0m ahf hW2;have a2:=a04 kk8 hW2 lk;have b2':=a04 kb8 hW2 lb;have hB2:=hB8.trans (hW2.mono hB8.size);have hsz:=hB2.size;have hsz2:W.heap.size+2≤W2.heap.size:=by have:=a09 a2;have:=hW2.size;omega
      repeat' ((go_not_at_region 18);(first | (at_builtin;(refine a2m rfl _ _ rfl (W.heap.size+2) vn _ (Zn.raw z k++Zn.a0u z k j) rfl ow2 ng ⟨dd * 1440+r.mn - ro.off,r.off⟩ rfl s21.1 (by omega) hsz2 ?_);intro v5 W5 a3p hg5;have hg:W2.grownBy W5 (Value.slice va vn vc).ownBlock:=hg5;clear hg5;have a5:=a19 ow2 a2 (by decide) hg;have b55:=a19 ow2 b2' (by decide) hg;have hB5:=hB2.grown hg hsz (fun g q=>by have:=a1p ow2 q;omega);obtain ⟨va5,vc5,hv5⟩:=(a13 a3p).2.2.2;subst hv5;have f5:=a0d a5 8;have c5:=a02 a5 8;dsimp only)|go_skip|go_guarded|go_step|go_upon))
      repeat'(first|go_skip|go_guarded|go_step|go_upon)
      (have hkn:obj (W5.setCell ⟨W.heap.size+1,8,none⟩ (.slice va5 (vn+1) vc5)) (W.heap.size+1)=some (.cells #[z.cal.a08,mv,z.cal.a0l,rv,z.start,tv,z.hor,.slice (some ⟨yb,yo,none⟩) z.a0b.length yc,.slice va5 (vn+1) vc5,cyc] 136 (0,0)):=by rw [a0c,a5];rfl);refine ⟨⟨j+1,.slice va5 (vn+1) vc5,by omega,by go_num,?_,hkn,a07 b55 _ (show W.heap.size≠W.heap.size+1 by omega) _,hB5.setCell (by show W.heap.size≤W.heap.size+1;omega) _⟩,by simp [intOf];omega⟩;rw [HP1.out,HVN.out,hvv];exact yF a3p (a2f a3p a5 (by decide)) _
   ·have i2 : ¬ (j:Int) < (z.a0b.length:Int):=by rw [HY2.out];omega
    (obtain rfl:j=2:=by omega);have HYL:=zA (a5y (HCV.out wr hB) HK.out.cal ((k:Int)+1));have HQ:Hid (Zn.a0z z.cal (k+1)=Zn.a0z z.cal k+Zn.a4f z.cal ((k:Int)+1)):=zA rfl;have hyl:=Zn.a5p HK.out.cal ((k:Int)+1);have HRW:Hid (Zn.raw z (k+1)=Zn.raw z k++Zn.a0u z k 2):=zA rfl;have HLT:=zA hlt;generalize hys:Zn.a0z z.cal k=ysk at *;have HYS:=zA hys;generalize Zn.a4f z.cal ((k:Int)+1)=ylk at *;have wye:=zWI (z.cal.a08+ysk+ylk);have wk1:=zWI ((k:Int)+1+1);clear hys
    repeat' (first | (go_at_call 134;((with_reducible refine (HYL.out).mono ?_));rintro e w8 ⟨rfl,hb8⟩;have hB8:=hB.trans (hb8.mono hB.size);have kk8:=a0a hk5 hb8;have kb8:=a0a hb5 hb8;have ahf:=a0m how hb8;dsimp only)|go_skip|go_guarded|go_step|go_upon)
    exact ⟨⟨k+1,sv,by rw [HQ.out,Int.add_assoc],by simp,fun j hj=>(zU j k).elim (fun h=>al7.out j h) (fun h=>by rw [show j=k by omega,HYS.out];exact HLT.out),by rw [HRW.out];exact ahf,kk8,kb8,hB8⟩,by have h1:=HLT.out;have h2:=HYS.out;simp only [intOf];omega⟩
 have i1 : ¬ z.cal.a08+Zn.a0z z.cal k < z.cal.a08+cyc:=by omega
 repeat'(first|go_skip|go_guarded|go_step|go_upon)
 go_quiet (fail)
 have hBq:=below_drewN hB nq
 have hkq:obj (wr.drewN nq) (W.heap.size+1)=_:=hk5
 have hbq:obj (wr.drewN nq) W.heap.size=_:=hb5
 have adt:(wr.drewN nq).ownsRow _ _ _ _ _ _:=how
 clear hB hk5 hb5 how c50 c59
 generalize wr.drewN nq=w6 at *
 repeat' ((go_not_at_region 20);(first|go_skip|go_guarded|go_step|go_upon))
 have hrl:=(a13 adt).1
 have aop:=a7w adt
 have osv:=a3x adt
 have hrl2:=Zn.a7e z k
 have HSO:=zA (HSF w6 sv (Zn.raw z k) aop (by omega))
 have hRI:=zA (fun x hx=>Zn.afp HK.out HY2.out (k:=k) (by omega) x hx)
 have hown:∀ q,(∃ o m c,sv=.slice (some ⟨q,o,none⟩) m c)→W.heap.size+2≤q:=by
  rintro q ⟨o,m,c,e⟩
  rcases adt.2 with ⟨h,_⟩ | ⟨g,c',cur,h,h2,_⟩
  ·rw [e] at h;cases h
  ·rw [e] at h;cases h;exact h2
 have c58:=a02 hkq 8
 have lk6:=a09 hkq
 have lb6:=a09 hbq
 repeat' ((go_not_at_region 21);(first | (go_at_call 135;((with_reducible refine (HSO.out).mono ?_));rintro e w7 ⟨rfl,l',hperm,hsort,akp,hbx⟩;dsimp only)|go_skip|go_guarded|go_step|go_upon))
 have k7:=hbx.obj hkq lk6 (fun h=>by have:=hown _ h;omega)
 have h7B:=hBq.trans (hbx.below (by have:=hBq.size;omega) (fun q hq h=>by have:=hown _ h;omega))
 have hz7:W.heap.size+2≤w7.heap.size:=by have:=a09 k7;have:=hBq.size;have:=hbx.size;omega
 have hll:l'.length=(Zn.raw z k).length:=hperm.length_eq
 have HIN:Hid (∀ i,i < l'.length→(-2199023255552≤(l'.getD i default).tm∧(l'.getD i default).tm≤2199023255552)):=zA fun i hi=>(hRI.out _ (hperm.mem_iff.1 (by rw [zB,zK hi];exact yT hi))).1
 have HTK:Hid (Zn.al5 z l'):=zA ⟨fun h=>by have:=HY2.out;omega,fun _=>⟨k,by rw [abt.out];exact al7.out,by rw [abt.out];omega,hperm⟩,hsort⟩
 have HT7:=zA akp
 have HK7:Hid (a8j w7 (fun q=>E q∨W.heap.size≤q) (W.heap.size+1) z l' cyc):=zA ⟨mv,rv,tv,.slice ya z.a0b.length yc,sv,k7,a1m.below HV.out.tr h7B,akp,.inr (by omega),fun h b o m c e=>.inl (hE h b o m c e),fun _ b o m c e=>.inr (by have:=hown b ⟨o,m,c,e⟩;omega)⟩
 have hl63:l'.length≤10000000:=by omega
 obtain ⟨sa',sc',aeb⟩:=a2b.ajx akp
 clear HSO hRI hrl aop hperm hsort akp hbx hkq hbq adt hBq c58 lk6 lb6 hrl2 hll
 have c78:=a02 k7 8
 rw [aeb] at c78
 repeat'(first|go_skip|go_guarded|go_step|go_upon)
 go_loopw [121] (fun i wr => ∃ q:Nat,q≤l'.length∧i=.int .i64 q∧(∀ j,j < q→2160≤Zn.a6j l' cyc j)∧Below w7 w7 wr) (fun i _=>((l'.length:Int) - intOf i).toNat)
 case atStart=>exact ⟨0,by omega,rfl,fun j hj=>absurd hj (yA j),zC _ _⟩
 obtain ⟨q,hq,rfl,hgp,hC⟩:=hrel
 have HGP:=zA hgp
 have hB:=h7B.trans (hC.mono h7B.size)
 clear hgp
 by_cases hql:q < l'.length;rotate_left
 ·have i1 : ¬ (q:Int) < (l'.length:Int):=by omega
  obtain rfl:q=l'.length:=by omega
  have HKW:=zA (HK7.out.below hC)
  repeat'(first|go_skip|go_guarded|go_step|go_upon)
  go_returns
  exact ⟨⟨l',HTK.out,.inl ⟨by rw [abt.out];exact HGP.out,W.heap.size+1,rfl,by rw [abt.out];exact HKW.out,by omega⟩⟩,hB⟩
 have i1:(q:Int) < (l'.length:Int):=by omega
 have htw:=a1m.below HT7.out hC
 obtain ⟨tb,tof,tc,a5d,TT',tfr,htv,tq1,tq2⟩:=a2b.open htw (by omega)
 rw [aeb] at htv
 obtain ⟨rfl,rfl⟩:sa' = some ⟨tb,tof,none⟩∧sc' = tc:=by injection htv with a b c;exact ⟨a,c⟩
 obtain ⟨z0,k3⟩:=tq2 q hql
 have z1:(tof+q * 2+2≤a5d.size)=True:=xN z0
 have e0r:a5d[tof]? = some (.int .i64 (l'.getD 0 default).tm):=by have:=a0y 0 (tq2 0 (by omega)).2 (by simp);simpa using this
 have HE1:=zA (fun h=>a0y 0 (tq2 (q+1) h).2 (by simp))
 have kw:=a0a k7 hC
 have cw8:=a02 kw 8
 rw [aeb] at cw8
 have hb0:=HIN.out 0 (by omega)
 have hbq:=HIN.out q hql
 have hwD:=zA (HK7.out.below hC)
 have hnb:=zA (HIN.out (q+1))
 obtain ⟨gv,hgv⟩ : ∃ gv,Zn.a6j l' cyc q=gv:=⟨_,rfl⟩
 have HGV:=zA hgv
 unfold Zn.a6j at hgv
 clear htv htw tq2 z0
 generalize (l'.getD 0 default).tm=y0 at *
 generalize l'.getD q default=x at *
 have hon:ones #[x.tm,x.off]=true:=by simp [ones,a0n]
 have hD5:=hwD.out.below ((zC wr.heap.size wr).alloc (zD _) (.cells #[x.tm,x.off] 57))
 have HMI:=zA (fun n=>a2v (hD5.clk.drewN n) (by omega) (by omega))
 have k6:obj (wr.alloc (.cells #[x.tm,x.off] 57)) wr.heap.size=some (.cells #[x.tm,x.off] 57 (0,0)):=a05 _ _ _ rfl
 have kw6:=a06 kw (.cells #[x.tm,x.off] 57)
 have tw6:=a06 tq1 (.cells #[x.tm,x.off] 57)
 have an7:=a02 kw6 8
 rw [aeb] at an7
 have e06:=(a02 tw6 tof).trans e0r
 have HQL:=zA hql
 have wq1:IntKind.wrap .i64 ((q:Int)+1)=((q+1:Nat):Int):=by rw [wrap_in]<;>omega
 have wcm:=zWI (y0+cyc * 1440)
 by_cases hq1:q+1 < l'.length
 ·have lq:(((q+1:Nat):Int) < (l'.length:Int)):=by omega
  rw [zQ hq1] at hgv
  have hy1:=hnb.out hq1
  have e1r:=HE1.out hq1
  generalize (l'.getD (q+1) default).tm=y1 at *
  have e1r:a5d[tof+(q+1) * 2]? = some (.int .i64 y1):=e1r
  have HGQ:=zA hgv
  have wgv:=zWI (y1 - x.tm)
  have HQ1:=zA hq1
  clear hgv hq1 hwD hD5
  repeat'(first|go_skip|go_guarded|go_step|go_upon)
  go_quiet ((go_at_call 128;refine vW ((HMI.out _).mono fun _ _ h=>⟨h.1,h.2.symm⟩)))
  have h9C:=below_drewN (hC.alloc hC.size (.cells #[x.tm,x.off] 57)) nq
  have k69:obj ((wr.alloc (.cells #[x.tm,x.off] 57)).drewN nq) wr.heap.size=_:=k6
  have kw9:obj ((wr.alloc (.cells #[x.tm,x.off] 57)).drewN nq) (W.heap.size+1)=_:=kw6
  have tw9:obj ((wr.alloc (.cells #[x.tm,x.off] 57)).drewN nq) tb=_:=tw6
  have c69:=a02 k69 0
  have cw9:=a02 kw9 8
  rw [aeb] at cw9
  have h9B:=h7B.trans (h9C.mono h7B.size)
  have e19:=(a02 tw9 (tof+(q+1) * 2)).trans e1r
  clear k6 kw6 tw6 e06 an7 hC hB k69 kw9 tw9 HMI tq1
  generalize (wr.alloc (.cells #[x.tm,x.off] 57)).drewN nq=w9 at *
  by_cases hg:y1 - x.tm < 2160
  ·have HG:=zA hg
   repeat'(first|go_skip|go_guarded|go_step|go_upon)
   go_returns;exact ⟨⟨l',HTK.out,.inr ⟨fun h=>by have h1:=h q (by have:=HQL.out;omega);rw [abt.out,HGV.out,← HGQ.out] at h1;have:=HG.out;omega,rfl⟩⟩,h9B⟩
  ·repeat'(first|go_skip|go_guarded|go_step|go_upon)
   exact ⟨⟨q+1,by have:=HQL.out;omega,by go_num,fun j hj=>(zU j q).elim (fun h=>HGP.out j h) (fun h=>by rw [show j=q by omega,HGV.out,← HGQ.out];omega),h9C⟩,by simp [intOf];omega⟩
 have lq : ¬ ((q+1:Nat):Int) < (l'.length:Int):=by omega
 rw [zS hq1] at hgv
 have HGQ:=zA hgv
 have wgv:=zWI (y0+cyc * 1440 - x.tm)
 have HQ1:=zA hq1
 clear hgv hq1 hwD hD5
 repeat'(first|go_skip|go_guarded|go_step|go_upon)
 go_quiet ((go_at_call 128;refine vW ((HMI.out _).mono fun _ _ h=>⟨h.1,h.2.symm⟩)))
 have h9C:=below_drewN (hC.alloc hC.size (.cells #[x.tm,x.off] 57)) nq
 have k69:obj ((wr.alloc (.cells #[x.tm,x.off] 57)).drewN nq) wr.heap.size=_:=k6
 have kw9:obj ((wr.alloc (.cells #[x.tm,x.off] 57)).drewN nq) (W.heap.size+1)=_:=kw6
 have tw9:obj ((wr.alloc (.cells #[x.tm,x.off] 57)).drewN nq) tb=_:=tw6
 have c69:=a02 k69 0
 have cw9:=a02 kw9 8
 rw [aeb] at cw9
 have h9B:=h7B.trans (h9C.mono h7B.size)
 clear k6 kw6 tw6 e06 an7 hC hB k69 kw9 tw9 HMI tq1
 generalize (wr.alloc (.cells #[x.tm,x.off] 57)).drewN nq=w9 at *
 by_cases hg:y0+cyc * 1440 - x.tm < 2160
 ·have HG:=zA hg
  repeat'(first|go_skip|go_guarded|go_step|go_upon)
  go_returns
  exact ⟨⟨l',HTK.out,.inr ⟨fun h=>by have h1:=h q (by have:=HQL.out;omega);rw [abt.out,HGV.out,← HGQ.out] at h1;have:=HG.out;omega,rfl⟩⟩,h9B⟩
 repeat'(first|go_skip|go_guarded|go_step|go_upon)
 exact ⟨⟨q+1,by have:=HQL.out;omega,by go_num,fun j hj=>(zU j q).elim (fun h=>HGP.out j h) (fun h=>by rw [show j=q by omega,HGV.out,← HGQ.out];omega),h9C⟩,by simp [intOf];omega⟩
end Go.Proofs.YtppjleebbjipbaaGreat
