/-
  periodic.canon, where the head goes back less than one turn of the cycle.
-/
import Derived.Test.YtppjleebbjipbaaGreatQkZca
import Derived.Scope
set_option linter.all false
namespace Zn
theorem aa3 {lim:Int}:∀ {l:List Int} {last:Int},aa4 lim last l=true→l.Pairwise fun a b=>a < b
 | [],_,_=>List.Pairwise.nil
 | n :: r,last,h=>by
  simp only [aa4,zN,zM] at h
  exact wM.2 ⟨fun x hx=>(a8p h.2.2 x hx).1,aa3 h.2.2⟩
theorem a3s {lim:Int} {l:List Int} (h:aa4 lim (-1) l=true):∀ x∈l,0≤x∧x < lim:=fun x hx=>by
 have:=a8p h x hx
 omega
theorem ad8 {period:Int} {l:List Int} (h:aa4 period (-1) l=true) (h0:l≠[]) (p0:1≤period):∀ parts,parts≤l.length →
  (∀ x∈(a5k period l parts).2,0≤x∧x < (a5k period l parts).1)∧(a5k period l parts).2≠[]∧(a5k period l parts).2.length≤l.length∧1≤(a5k period l parts).1∧(a5k period l parts).1≤period
 | 0,_=>⟨a3s h,h0,zD _,p0,yR _⟩
 | 1,_=>⟨a3s h,h0,zD _,p0,yR _⟩
 | parts+2,hp=>by
  unfold a5k
  split
  ·rename_i hf
   simp only [anq,aer,zN,zM] at hf
   have hlt:=hf.2.2.2
   have hk:1≤l.length / (parts+2):=(Nat.one_le_div_iff (by omega)).2 hp
   have hkl:l.length / (parts+2)≤l.length:=vY _ _
   have hd:period / ((parts+2:Nat):Int)≤period:=Int.ediv_le_self _ (by omega)
   generalize period / ((parts+2:Nat):Int)=d at *
   generalize l.length / (parts+2)=k at *
   have hb:=a3s h
   have hs:=wH.1 (aa3 h)
   have hk1:l.getD (k - 1) 0=l[k - 1]'(by omega):=by rw [zB,zK (by omega)];rfl
   have h1:=(hb l[k - 1] (yT _)).1
   refine ⟨fun x hx=>?_,?_,?_,by omega,hd⟩
   ·obtain ⟨i,hi,rfl⟩:=zY.1 hx
    have hi':i < k:=by simp at hi;omega
    rw [List.getElem_take]
    refine ⟨(hb l[i] (yT _)).1,?_⟩
    rcases zU i (k - 1) with hlt2 | hge
    ·have:=hs i (k - 1) (by omega) (by omega) hlt2
     omega
    ·have:i=k - 1:=by omega
     subst this
     omega
   ·intro e
    have:=congrArg List.length e
    rw [wR,xI] at this
    omega
   ·rw [wR]
    omega
  ·exact ad8 h h0 p0 (parts+1) (by omega)
theorem ak5 {period:Int} {l:List Int} (h:aa4 period (-1) l=true) (h0:l≠[]) (p0:1≤period) :
 (∀ x∈(a18 period l).2,0≤x∧x < (a18 period l).1)∧(a18 period l).2≠[]∧(a18 period l).2.length≤l.length∧1≤(a18 period l).1∧(a18 period l).1≤period:=ad8 h h0 p0 _ (zD _)
def a8t (p:Per) (d:Int) (c:List Int) (i:Nat):Int:=p.from_ - d+c.getD (c.length - 1 - i) 0
def a6b (p:Per) (i:Nat):Int:=if i < p.head.length then p.head.getD (p.head.length - 1 - i) 0 else -1
def a8o (p:Per) (d:Int) (c:List Int) (i:Nat):Bool:=decide (a8t p d c i < 0∧a6b p i < 0)||decide (a8t p d c i≠a6b p i)
def a3q (p:Per) (d:Int) (c:List Int) (i:Nat):Int:=if a8t p d c i < 0∧a6b p i < 0 then 0 else max (a8t p d c i) (a6b p i)+1
def a7a (p:Per) (i:Nat):Per:=⟨p.head.take (p.head.length - i),a3q p (a18 p.period p.cycle).1 (a18 p.period p.cycle).2 i,(a18 p.period p.cycle).1,a2z ((a18 p.period p.cycle).2.map fun x=>(p.from_+x - a3q p (a18 p.period p.cycle).1 (a18 p.period p.cycle).2 i) % (a18 p.period p.cycle).1)⟩
structure aq9 (p:Per) (d:Int) (c:List Int) (i:Nat):Prop where
 no:∀ j,j < i→a8o p d c j=false
 yes:a8o p d c i=true
 lt:i < c.length
theorem am7 {p:Per} {d:Int} {c:List Int} {j:Nat} (h:a8o p d c j=false):j < p.head.length∧a8t p d c j=p.head.getD (p.head.length - 1 - j) 0∧a6b p j=p.head.getD (p.head.length - 1 - j) 0∧¬ (a8t p d c j < 0∧a6b p j < 0):=by
 unfold a8o at h
 simp only [Bool.or_eq_false_iff,uI,ne_eq,Decidable.not_not] at h
 have hl:a6b p j=if j < p.head.length then p.head.getD (p.head.length - 1 - j) 0 else -1:=rfl
 by_cases hj:j < p.head.length
 ·rw [zQ hj] at hl
  exact ⟨hj,h.2.trans hl,hl,h.1⟩
 rw [zS hj] at hl
 exact absurd ⟨by omega,by omega⟩ h.1
theorem ak3 {p:Per} {d:Int} {c:List Int} {i:Nat} (hh:aa4 p.from_ (-1) p.head=true) (f0:0≤p.from_) (hc:∀ x∈c,0≤x∧x < d) (hi:i < c.length):0≤a3q p d c i∧a3q p d c i≤p.from_∧-1≤a6b p i∧a6b p i < p.from_∨(a3q p d c i=0):=by
 have hb:=a3s hh
 have hl : -1≤a6b p i∧(a6b p i < p.from_)∨(a6b p i = -1):=by
  unfold a6b
  split
  ·left
   have:=hb (p.head.getD (p.head.length - 1 - i) 0) (by rw [zB,zK (by omega)];exact yT _);omega
  right;rfl
 have hn:a8t p d c i < p.from_:=by
  unfold a8t
  have:=hc (c.getD (c.length - 1 - i) 0) (by rw [zB,zK (by omega)];exact yT _)
  omega
 unfold a3q
 split
 ·exact .inr rfl
 rename_i hnn
 left
 omega
end Zn
namespace Go.Proofs.YtppjleebbjipbaaGreat
open Go.RowKit Go.Shelf
attribute [local go_sem] Oper.semAt_some
set_option maxRecDepth 100000
set_option maxHeartbeats 8000000
theorem amk {W:World} {base:Nat} {v:Value} {l:List Int} (h:W.ownsRow base 3 1 v l.length (a4m l)) (hl:l.length≤1000000000) :
  Calls Tryz.prog 81 #[v] W fun e w'=>e=.returned (.tuple #[])∧a2t w' v (Zn.a2z l)∧a1x W.heap.size (fun k=>base≤k) W w':=by
 have hll:(Zn.a2z l).length=l.length:=(Zn.a4n l).length_eq
 rcases h.2 with ⟨rfl,h0⟩ | ⟨g,c,cur,rfl,h1,h2,h3,h4,h5,h6⟩
 ·have hl0:l = []:=yH.1 h0
  have hcon:=AnyM.slices_Sort_int_none Tryz.sortInt none 0 W
  change Calls Tryz.prog 81 _ _ _ at hcon
  refine hcon.mono ?_
  rintro e w' ⟨rfl,rfl⟩
  exact ⟨rfl,⟨none,0,by rw [hll,h0],fun hn=>by rw [hll] at hn;omega⟩,⟨rfl,rfl,rfl,zD _,fun _ _ _=>rfl⟩⟩
 have h2':W.heap[g]? = some (.cells cur 3 (0,0)):=h2
 have lb:=a09 (w:=W) h2
 have hcell:∀ j,j < l.length→cur[j]? = some (.int .i64 (l.getD j 0))∧j < cur.size:=by
  intro j hj
  have e1:(a4m l)[j]? = some (.int .i64 (l.getD j 0)):=by
   unfold a4m;rw [xC,zB,zK hj];rfl
  rw [← h6,xQ] at e1
  split at e1
  ·rw [yU] at e1
   exact ⟨e1,(zL.1 e1).1⟩
  cases e1
 have hH:Go.Sort.Holds (Value.int .i64) W g 0 l.toArray:=by
  intro j hj
  have hj':j < l.length:=by simpa using hj
  refine ⟨?_,a0d h2 _⟩
  rw [a02 h2 (0+j),yI,(hcell j hj').1]
  congr 2
  rw [zB]
  simp [hj']
 have hcon:=AnyM.slices_Sort_int Tryz.sortInt g 0 c l W hH lb (by omega)
 change Calls Tryz.prog 81 _ _ _ at hcon
 refine hcon.mono ?_
 rintro e w' ⟨rfl,n,os,rfl⟩
 have hb':(Go.Sort.grow (Go.Sort.putRow (Value.int .i64) (Go.Sort.ahead W n) g 0 (l.mergeSort fun x y=>decide (x≤y)).toArray) os).heap[g]? = some (.cells (Go.Sort.putCells (Value.int .i64) 0 (Zn.a2z l).toArray cur) 3 (0,0)):=by
  simp only [Go.Sort.grow,Go.Sort.putRow,Go.Sort.mapBlock,Go.Sort.ahead]
  rw [xH (by simpa using lb),xR,zQ rfl,h2']
  rfl
 refine ⟨rfl,⟨some ⟨g,0,none⟩,c,by rw [hll],fun _=>⟨g,0,_,(0,0),rfl,hb',fun i hi=>?_⟩⟩,⟨rfl,rfl,rfl,?_,fun k hk hn=>?_⟩⟩
 ·rw [hll] at hi
  have hr:=(hcell i hi).2
  simp only [Go.Sort.putCells,yI,Array.getElem?_mapIdx,zT hr,Option.map_some]
  rw [zQ ⟨xG _,by simp [hll];omega⟩,Nat.sub_zero]
  congr 2
  rw [zB]
  simp [hll,hi]
 ·simp [Go.Sort.grow,Go.Sort.putRow,Go.Sort.mapBlock,Go.Sort.ahead]
 simp only [Go.Sort.grow,Go.Sort.putRow,Go.Sort.mapBlock,Go.Sort.ahead]
 rw [xH (by simpa using hk),xR,zS (fun e=>hn (by subst e;exact h1))]
theorem af7 {W:World} {hv cv:Value} {p:Zn.Per} (hp:Zn.ajo p) (hne:p.cycle≠[]) {i0:Nat} (h1:Zn.aq9 p (Zn.a18 p.period p.cycle).1 (Zn.a18 p.period p.cycle).2 i0) (hh:a2c W hv p.head) (hc:a2c W cv p.cycle) :
  Calls Tryz.prog 77 #[.agg #[hv,p.from_,p.period,cv]] W fun e w'=>(∃ hw cw,e=.returned (.agg #[hw,.int .i64 (Zn.a7a p i0).from_,.int .i64 (Zn.a7a p i0).period,cw])∧a2t w' hw (Zn.a7a p i0).head∧a2t w' cw (Zn.a7a p i0).cycle)∧Below W W w':=by
 obtain ⟨f0,f1,p0,p1,hn,hhr,hcr⟩:=hp
 obtain ⟨ah,ch,rfl,hah⟩:=hh.2
 obtain ⟨ac,cc,rfl,hac⟩:=hc.2
 have hon:=a4k (h:=.slice ah p.head.length ch) (c:=.slice ac p.cycle.length cc) rfl rfl p.from_ p.period
 have hsi:=Zn.ak5 hcr hne p0
 have hlc:0 < p.cycle.length:=List.length_pos_iff.2 hne
 have tl0:((p.cycle.length:Int) == 0)=false:=by simp;omega
 have o0:obj (((W.alloc (.cells #[.slice ah p.head.length ch,p.from_,p.period,.slice ac p.cycle.length cc] 65)).alloc (.cells #[.slice none 0 0,(0:Int),(0:Int),.slice none 0 0] 65)).alloc (.cells #[.slice ah p.head.length ch] 28)) W.heap.size=some (.cells #[.slice ah p.head.length ch,p.from_,p.period,.slice ac p.cycle.length cc] 65 (0,0)):=a06 (a06 (a05 _ _ _ rfl) _) _
 have o1:obj (((W.alloc (.cells #[.slice ah p.head.length ch,p.from_,p.period,.slice ac p.cycle.length cc] 65)).alloc (.cells #[.slice none 0 0,(0:Int),(0:Int),.slice none 0 0] 65)).alloc (.cells #[.slice ah p.head.length ch] 28)) (W.heap.size+1)=some (.cells #[.slice none 0 0,(0:Int),(0:Int),.slice none 0 0] 65 (0,0)):=a06 (a05 _ _ _ (by simp)) _
 have o2:obj (((W.alloc (.cells #[.slice ah p.head.length ch,p.from_,p.period,.slice ac p.cycle.length cc] 65)).alloc (.cells #[.slice none 0 0,(0:Int),(0:Int),.slice none 0 0] 65)).alloc (.cells #[.slice ah p.head.length ch] 28)) (W.heap.size+2)=some (.cells #[.slice ah p.head.length ch] 28 (0,0)):=a05 _ _ _ (by simp)
 have hB3:Below W W (((W.alloc (.cells #[.slice ah p.head.length ch,p.from_,p.period,.slice ac p.cycle.length cc] 65)).alloc (.cells #[.slice none 0 0,(0:Int),(0:Int),.slice none 0 0] 65)).alloc (.cells #[.slice ah p.head.length ch] 28)):=((bR.alloc (zD _) _).alloc (by simp) _).alloc (by simp;omega) _
 have hh3:=hh.below hB3
 have hc3:=hc.below hB3
 have HSH:=zA (ac3 hc3 p0 p1 (by omega) (Zn.a3s hcr))
 have HH1:=zA h1
 have HCN:Hid (Zn.a7a p i0=⟨p.head.take (p.head.length - i0),Zn.a3q p (Zn.a18 p.period p.cycle).1 (Zn.a18 p.period p.cycle).2 i0,(Zn.a18 p.period p.cycle).1,Zn.a2z ((Zn.a18 p.period p.cycle).2.map fun x=>(p.from_+x - Zn.a3q p (Zn.a18 p.period p.cycle).1 (Zn.a18 p.period p.cycle).2 i0) % (Zn.a18 p.period p.cycle).1)⟩):=zA rfl
 have HHR:=zA hhr
 have HHD:=zA hh.1
 have HCAP:=zA hah
 clear hh hc h1 hcr hhr hne
 generalize Zn.a18 p.period p.cycle=dc at *
 obtain ⟨d,c⟩:=dc
 dsimp only at *
 obtain ⟨ce,cne,cl,d1,d2⟩:=hsi
 have HCE:=zA ce
 clear ce cne
 refine (wW (n:=8)).1 ?_
 refine callsIn_of_wp_marks Tryz.func77 rfl trivial ?_
 refine wpIn_wide.2 ?_
 simp only [Tryz.ntmps77,xJ,yS,xI,Nat.reduceAdd,Nat.reduceSub,xZ,xY,wK,wE,wO,xK]
 have c0:=a02 o0 0
 have c1:=a02 o0 1
 have c2:=a02 o0 2
 have c3:=a02 o0 3
 repeat'(first|go_skip|go_guarded|go_step|go_upon)
 refine wp_scope_straight ?_
 repeat' (first | (go_at_call 118;((with_reducible refine (HSH.out).mono ?_));rintro e w5 ⟨⟨v5,rfl,hv5⟩,hB5⟩;have b0:=a0a o0 hB5;have b1:=a0a o1 hB5;have b2:=a0a o2 hB5;have e1:=a02 b0 1;dsimp only)|go_skip|go_guarded|go_step|go_upon)
 refine wp_label ?_
 have hz5:=hB5.size
 have hz3:(((W.alloc (.cells #[.slice ah p.head.length ch,p.from_,p.period,.slice ac p.cycle.length cc] 65)).alloc (.cells #[.slice none 0 0,(0:Int),(0:Int),.slice none 0 0] 65)).alloc (.cells #[.slice ah p.head.length ch] 28)).heap.size=W.heap.size+3:=by simp
 have wb:=zWI (p.from_ - d)
 have hhw:=hh3.below hB5
 have hBW:=hB3.trans (hB5.mono (by omega))
 obtain ⟨av,cv5,rfl,hcv5⟩:=hv5.2
 clear hh3 hc3 o0 o1 o2 c0 c1 c2 c3 hB3 hB5 HSH hah hac
 have hS7:w5.heap.size=w5.heap.size:=rfl
 have A6:=((zC w5.heap.size w5).alloc (zD _) (.cells #[(0:Int)] 3)).alloc (by simp) (.cells #[(p.from_ - d:Int)] 3)
 have n0:=a0a b0 A6
 have n1:=a0a b1 A6
 have n2:=a0a b2 A6
 have nv:=hv5.below A6
 have nh:=hhw.below A6
 have n7:obj ((w5.alloc (.cells #[(0:Int)] 3)).alloc (.cells #[(p.from_ - d:Int)] 3)) w5.heap.size=some (.cells #[(0:Int)] 3 (0,0)):=a06 (a05 _ _ _ rfl) _
 have n8:obj ((w5.alloc (.cells #[(0:Int)] 3)).alloc (.cells #[(p.from_ - d:Int)] 3)) (w5.heap.size+1)=some (.cells #[(p.from_ - d:Int)] 3 (0,0)):=a05 _ _ _ (by simp)
 have hBN:=hBW.trans (A6.mono (by omega))
 have hzN:((w5.alloc (.cells #[(0:Int)] 3)).alloc (.cells #[(p.from_ - d:Int)] 3)).heap.size=w5.heap.size+2:=by simp
 have e1:=a02 (a06 b0 (.cells #[(0:Int)] 3)) 1
 repeat' ((fail_if_success (with_reducible refine Go.wp_block ?_));(first|go_skip|go_guarded|go_step|go_upon))
 refine Go.wp_block ?_
 refine wp_loop_once ?_
 have HBK:=zA (aex av c.length cv5 ((w5.alloc (.cells #[(0:Int)] 3)).alloc (.cells #[(p.from_ - d:Int)] 3)))
 rw [hzN] at HBK
 repeat' (first | (go_at_call 119;((with_reducible refine (HBK.out).mono ?_));rintro e w6 ⟨rfl,rfl⟩;dsimp only)|go_skip|go_guarded|go_step|go_upon)
 refine (wpIn_wide (n:=8)).1 ?_
 have amw:∀ b o m c',Value.slice av c.length cv5=.slice (some ⟨b,o,none⟩) m c'→b < w5.heap.size∧b≠W.heap.size+2:=fun b o m c' e=>by
  injection e with e1 _ _
  have hlt:=HH1.out.lt
  obtain ⟨ao,c2,q0,q1⟩:=hv5.1
  injection q0 with q0 _ _
  obtain ⟨b',o',row,T,fr,r1,r2,r3⟩:=q1 (by omega)
  rw [e1,r1] at q0
  cases q0
  refine ⟨a09 r2,fun e=>?_⟩
  subst e
  rw [b2] at r2
  cases r2
  have:=r3 0 (by omega)
  rw [uG] at this
  rcases o with _ | o
  ·cases this
  ·simp at this
 have A7:=A6.alloc A6.size (.cells #[.slice av c.length cv5] 28)
 have v0:=a06 n0 (.cells #[.slice av c.length cv5] 28)
 have v1:=a06 n1 (.cells #[.slice av c.length cv5] 28)
 have v2:=a06 n2 (.cells #[.slice av c.length cv5] 28)
 have v7:=a06 n7 (.cells #[.slice av c.length cv5] 28)
 have v8:=a06 n8 (.cells #[.slice av c.length cv5] 28)
 have v9:obj (((w5.alloc (.cells #[(0:Int)] 3)).alloc (.cells #[(p.from_ - d:Int)] 3)).alloc (.cells #[.slice av c.length cv5] 28)) (w5.heap.size+2)=some (.cells #[.slice av c.length cv5] 28 (0,0)):=a05 _ _ _ (by simp)
 have vv:=hv5.1.below A7
 have vh:=hhw.1.below A7
 have vB:=hBW.trans (A7.mono (by omega))
 have vz:(((w5.alloc (.cells #[(0:Int)] 3)).alloc (.cells #[(p.from_ - d:Int)] 3)).alloc (.cells #[.slice av c.length cv5] 28)).heap.size=w5.heap.size+3:=by simp
 clear n0 n1 n2 nv nh n7 n8 hBN hzN HBK A6 b0 b1 b2 e1
 generalize (((w5.alloc (.cells #[(0:Int)] 3)).alloc (.cells #[(p.from_ - d:Int)] 3)).alloc (.cells #[.slice av c.length cv5] 28))=V at *
 have HSQ:=zA (aj2 7 (by omega) (w5.heap.size+2) (.slice av c.length cv5) c (by omega) V v9 vv)
 have hi0h:i0≤p.head.length:=by
  rcases yM i0 with h | h
  ·omega
  have:=(Zn.am7 (HH1.out.no (i0 - 1) (by omega))).1
  omega
 obtain ⟨bs,hbs⟩ : ∃ bs,w5.heap.size=bs:=⟨_,rfl⟩
 obtain ⟨b2,hb2⟩ : ∃ b2,W.heap.size+2=b2:=⟨_,rfl⟩
 have hz5':W.heap.size+3≤bs:=by omega
 rw [show W.heap.size+1+1=b2 by omega]
 rw [hbs] at v7 v8 v9 vz HSQ amw
 rw [hb2] at v2 amw
 rw [hbs]
 refine a5h (n:=8) (gf:=148) (lb:=#[.pointer (some ⟨bs+2,0,none⟩)]) rfl (enters_of Tryz.func148 (by kernel_rfl) rfl)
  HSQ.out (fun x v W hv=>by subst hv;rfl) ?aaj (fun k=>k=b2∨k=bs) ?hR
  (fun i W'=>i≤i0∧obj W' b2=some (.cells #[.slice ah (p.head.length - i) ch] 28 (0,0))∧obj W' bs=some (.cells #[(0:Int)] 3 (0,0))∧a0o (fun k=>k=b2∨k=bs) V W'∧Below W W W')
  (fun e W'=>e=.exit 0∧obj W' b2=some (.cells #[.slice ah (p.head.length - i0) ch] 28 (0,0))∧obj W' bs=some (.cells #[(Zn.a3q p d c i0:Int)] 3 (0,0))∧a0o (fun k=>k=b2∨k=bs) V W'∧Below W W W')
  ?hI ?hIx (fun i W h=>by have:=h.1;have:=HH1.out.lt;omega) ⟨xG _,v2,v7,a0o.refl _ _,vB⟩ ?round ?done ?_
 case aaj =>
  rintro k (h | ⟨_,b,o,m,c',e,h⟩)
  ·omega
  have:=(amw b o m c' e).1
  omega
 case hR =>
  rintro k (rfl | rfl)
  ·refine ⟨by omega,?_⟩
   rintro (h | ⟨_,b,o,m,c',e,h⟩)
   ·omega
   exact (amw b o m c' e).2 h.symm
  refine ⟨by omega,?_⟩
  rintro (h | ⟨_,b,o,m,c',e,h⟩)
  ·omega
  have:=(amw b o m c' e).1
  omega
 case hI => rintro i A B hAB ⟨h1,h2,h3,h4,h5⟩;have hz:=h4.1;exact ⟨h1,a04 h2 hAB (by omega),a04 h3 hAB (by omega),⟨yG h4.1 hAB.size,fun k hk hn=>(hAB.block k hk).trans (h4.2 k hk hn)⟩,h5.trans (hAB.mono (by omega))⟩
 case hIx => rintro e A B hAB ⟨h1,h2,h3,h4,h5⟩;exact ⟨h1,a04 h2 hAB (by omega),a04 h3 hAB (by omega),⟨yG h4.1 hAB.size,fun k hk hn=>(hAB.block k hk).trans (h4.2 k hk hn)⟩,h5.trans (hAB.mono (by omega))⟩
 case round =>
  rintro lk i x v W1 ⟨hi0,h2,h3,h4,h5⟩ hx rfl hz1 rfl hlc
  have hic:i < c.length:=by have:=HH1.out.lt;omega
  have hxe:x=(((c.length - 1 - i:Nat):Int),c.getD (c.length - 1 - i) 0):=by
   unfold ads at hx;rw [zQ hic] at hx;exact (xO hx).symm
  subst hxe
  have hce:=HCE.out (c.getD (c.length - 1 - i) 0) (by rw [zB,zK (by omega)];exact yT _)
  have HBD:Hid (Zn.a8t p d c i=p.from_ - d+c.getD (c.length - 1 - i) 0):=zA rfl
  have HST:=zA (fun (h:Zn.a8o p d c i=true)=>show i=i0 from Nat.le_antisymm hi0 (Nat.le_of_not_lt fun hl=>by have:=HH1.out.no i hl;rw [h] at this;cases this))
  have HNO:=zA (fun (h:Zn.a8o p d c i=false)=>show i+1≤i0 from Nat.lt_of_le_of_ne hi0 (fun e=>by subst e;have:=HH1.out.yes;rw [h] at this;cases this))
  have HLD:Hid (Zn.a6b p i=if i < p.head.length then p.head.getD (p.head.length - 1 - i) 0 else -1):=zA rfl
  have HSB:Hid (Zn.a8o p d c i=(decide (Zn.a8t p d c i < 0∧Zn.a6b p i < 0)||decide (Zn.a8t p d c i≠Zn.a6b p i))):=zA rfl
  have HSD:Hid (Zn.a3q p d c i=if Zn.a8t p d c i < 0∧Zn.a6b p i < 0 then 0 else max (Zn.a8t p d c i) (Zn.a6b p i)+1):=zA rfl
  have m8:obj W1 (bs+1)=some (.cells #[(p.from_ - d:Int)] 3 (0,0)):=(h4.2 _ (by omega) (by omega)).trans v8
  have hK4:=h4
  generalize c.getD (c.length - 1 - i) 0=cx at *
  generalize c.length - 1 - i=ci at *
  have hz14:=h4.1
  dsimp only
  gi_wp2_with fail
  refine ⟨zC _ _,fun W2 hB2 hkeep hsz=>?_⟩
  have hX2:a1x W1.heap.size (fun k=>k=V.heap.size+1) W1 W2:=⟨hB2.os,hB2.tape,hB2.output,hB2.size,fun k hk hn=>hkeep k hk (by omega)⟩
  have k2:=hX2.obj h2 (a09 h2) (by omega)
  have k7:=hX2.obj h3 (a09 h3) (by omega)
  have k8:=hX2.obj m8 (a09 m8) (by omega)
  have ano:Below W W W2:=h5.trans (hX2.below (by omega) (fun k hk=>by omega))
  have hK2:a0o (fun k=>k=b2∨k=bs) V W2:=⟨yG h4.1 hX2.size,fun k hk hn=>(hX2.block k (by omega) (by omega)).trans (h4.2 k hk hn)⟩
  clear h2 h3 m8 h4 h5 hX2 hB2 hkeep hsz hlc hK4 hx
  have wn:=zWI (p.from_ - d+cx)
  have q2:=a02 k2 0
  have q7:=a02 k7 0
  have f7:=a0d k7 0
  have f2:=a0d k2 0
  have q8:=a02 k8 0
  generalize hnn:p.from_ - d+cx=nn at *
  by_cases hih:i < p.head.length;rotate_left
  ·have t0 : ¬ (0:Int) < ((p.head.length - i:Nat):Int):=by omega
   have hst:Zn.a8o p d c i=true:=by
    rw [HSB.out,HBD.out,HLD.out,zS hih];by_cases h:nn < 0
    ·rw [zV ⟨h,by omega⟩];rfl
    rw [zV (p:=nn≠-1) (by omega),Bool.or_true]
   have hie:=HST.out hst;subst hie;by_cases hn0:nn < 0
   ·have HS0:Hid (Zn.a3q p d c i=0):=zA (by rw [HSD.out,HBD.out,HLD.out,zS hih,zQ ⟨hn0,by omega⟩])
    gi_wp2_with fail
    exact ⟨a0o.refl _ _,rfl,k2,by rw [HS0.out];exact k7,hK2,ano⟩
   (have t1:(nn == -1)=false:=by simp;omega);have wm:=zWI (max nn (-1)+1);have HS0:Hid (Zn.a3q p d c i=max nn (-1)+1):=zA (by rw [HSD.out,HBD.out,HLD.out,zS hih,zS (fun h=>hn0 h.1)])
   gi_wp2_with fail
   exact ⟨⟨by simp,fun k hk hn=>zO _ _ _ _ (fun e=>hn (.inr e))⟩,rfl,a07 k2 _ (show b2≠bs by omega) _,by rw [a0c,k7,HS0.out];rfl,⟨by simpa using hK2.1,fun k hk hn=>(zO _ _ _ _ (fun e=>hn (.inr e))).trans (hK2.2 k hk hn)⟩,ano.setCell (show W.heap.size≤bs by omega) _⟩
  have t0:(0:Int) < ((p.head.length - i:Nat):Int):=by omega
  have hcap:=HCAP.out
  obtain ⟨ao,c',e1,e2⟩:=HHD.out
  injection e1 with e1 _ e3
  subst e1 e3
  obtain ⟨hb,ho,hrow,T,fr,rfl,r1,r2⟩:=e2 (by omega)
  have cm:=(a02 (a0a r1 ano) (ho+(p.head.length - 1 - i))).trans (r2 _ (by omega))
  have hlb:=Zn.a3s HHR.out (p.head.getD (p.head.length - 1 - i) 0) (by rw [zB,zK (by omega)];exact yT _)
  rw [zQ hih] at HLD
  clear r1 r2 e2
  generalize p.head.getD (p.head.length - 1 - i) 0=lv at *
  have wi:IntKind.wrap .i64 (((p.head.length - i:Nat):Int) - 1)=((p.head.length - 1 - i:Nat):Int):=by rw [wrap_in]<;>omega
  have hi1:((p.head.length - 1 - i:Nat):Int) < ((p.head.length - i:Nat):Int):=by omega
  have hi2:((p.head.length - 1 - i:Nat):Int)≤(ch:Int):=by omega
  have hi3 : ¬ (ch:Int) < ((p.head.length - 1 - i:Nat):Int):=by omega
  have he:p.head.length - 1 - i=p.head.length - (i+1):=by omega
  have HE:=zA he
  clear he
  have tl : ¬ lv < 0:=by omega
  by_cases hnl:nn=lv
  ·have hst:Zn.a8o p d c i=false:=by
    rw [HSB.out,HBD.out,HLD.out,zW (fun h=>tl h.2),zW (fun h=>h hnl)];rfl
   have hie:=HNO.out hst;(have t1:(nn == lv)=true:=by simpa using hnl);(have t2 : ¬ nn < 0:=by omega);clear hnl hst
   gi_wp2_with fail
   exact ⟨⟨by simp,fun k hk hn=>zO _ _ _ _ (fun e=>hn (.inl e))⟩,by rw [a0c,k2,HE.out];rfl,a07 k7 _ (show bs≠b2 by omega) _,⟨by simpa using hK2.1,fun k hk hn=>(zO _ _ _ _ (fun e=>hn (.inl e))).trans (hK2.2 k hk hn)⟩,ano.setCell (show W.heap.size≤b2 by omega) _⟩
  have hst:Zn.a8o p d c i=true:=by
   rw [HSB.out,HBD.out,HLD.out,zV (p:=nn≠lv) hnl,Bool.or_true]
  have hie:=HST.out hst
  subst hie
  have t1:(nn == lv)=false:=by simpa using hnl
  have wm:=zWI (max nn lv+1)
  have HS0:Hid (Zn.a3q p d c i=max nn lv+1):=zA (by rw [HSD.out,HBD.out,HLD.out,zS (fun h=>tl h.2)])
  clear hnl hst
  by_cases hn0:nn < 0
  ·gi_wp2_with fail
   exact ⟨⟨by simp,fun k hk hn=>zO _ _ _ _ (fun e=>hn (.inr e))⟩,rfl,a07 k2 _ (show b2≠bs by omega) _,by rw [a0c,k7,HS0.out];rfl,⟨by simpa using hK2.1,fun k hk hn=>(zO _ _ _ _ (fun e=>hn (.inr e))).trans (hK2.2 k hk hn)⟩,ano.setCell (show W.heap.size≤bs by omega) _⟩
  gi_wp2_with fail
  exact ⟨⟨by simp,fun k hk hn=>zO _ _ _ _ (fun e=>hn (.inr e))⟩,rfl,a07 k2 _ (show b2≠bs by omega) _,by rw [a0c,k7,HS0.out];rfl,⟨by simpa using hK2.1,fun k hk hn=>(zO _ _ _ _ (fun e=>hn (.inr e))).trans (hK2.2 k hk hn)⟩,ano.setCell (show W.heap.size≤bs by omega) _⟩
 case done => rintro D i W1 hx ⟨h1,_⟩ _ _;exfalso;have:=HH1.out.lt;unfold ads at hx;rw [zQ (by omega)] at hx;cases hx
 rintro D e W1 ⟨rfl,h2,h3,h4,h5⟩ hD hK
 gi_step
 gi_step
 have m0:obj W1 W.heap.size=_:=(h4.2 _ (by omega) (by omega)).trans v0
 have m1:obj W1 (W.heap.size+1)=_:=(h4.2 _ (by omega) (by omega)).trans v1
 have mh:=HHD.out.below h5
 have mv:a1s W1 (.slice av c.length cv5) c:=by
  obtain ⟨ao,c',e1,e2⟩:=vv
  refine ⟨ao,c',e1,fun hn=>?_⟩
  obtain ⟨b,o,row,T,fr,rfl,r1,r2⟩:=e2 hn
  have:=amw b o _ _ e1
  exact ⟨b,o,row,T,fr,rfl,(h4.2 b (a09 r1) (by omega)).trans r1,r2⟩
 have hK1:=zA hK
 have hD1:=hD
 clear v0 v1 v2 v7 v8 v9 vv vh vB amw h4 HSQ hK
 simp +zetaDelta only [Exit.then,Exit.inBlock,↓reduceIte]
 gi_step
 have l2:=a09 h2
 have l3:=a09 h3
 have mht:=(a2c.take (ao:=ah) (c:=ch) ⟨mh,_,_,rfl,HCAP.out⟩ (k:=p.head.length - i0) (by omega)).1
 have hhl:(p.head.take (p.head.length - i0)).length≤1048576:=by simp;omega
 have hsti:=Zn.ak3 (c:=c) (d:=d) (i:=i0) HHR.out f0 HCE.out HH1.out.lt
 have hst2:0≤Zn.a3q p d c i0∧Zn.a3q p d c i0≤p.from_:=by omega
 have hvb0:∀ b o,av=some ⟨b,o,none⟩→b < W1.heap.size:=fun b o e=>by
  obtain ⟨ao,c',q1,q2⟩:=mv
  injection q1 with q1 _ _
  have hlt:=HH1.out.lt
  obtain ⟨b',o',row,T,fr,r1,r2,_⟩:=q2 (by omega)
  rw [e,r1] at q1
  cases q1
  exact a09 r2
 generalize hst:Zn.a3q p d c i0=st at *
 repeat' ((go_not_at_region 23);(first|go_skip|go_guarded|go_step|go_upon))
 refine a0k 6 [([],fun v _=>v=.slice ah (p.head.length - i0) ch),([0],fun v Wx=>a2t Wx v (p.head.take (p.head.length - i0))),([],fun v _=>v=.int .i64 st),([],fun v _=>v=.int .i64 d),([1,2,3],fun v Wx => ∃ hw,v=.agg #[hw,st,d,.slice none 0 0]∧a2t Wx hw (p.head.take (p.head.length - i0))),
   ([],fun v Wx => ∃ b,v=.pointer (some ⟨b,0,none⟩)∧W1.heap.size≤b∧obj Wx b=some (.cells #[.slice none 0 0,(0:Int),(0:Int),.slice none 0 0] 65 (0,0)))] (by kernel_rfl) (by kernel_rfl) (by kernel_rfl) ?st ?ob ?_
 case st => intro k v W1 W2 h hb;rcases k with _|_|_|_|_|_|k<;>first | exact h | trivial | (exact a2t.below h hb) | (obtain ⟨hw,h1,h2⟩:=h;exact ⟨hw,h1,h2.below hb⟩) | (obtain ⟨b,h1,h2,h3⟩:=h;exact ⟨b,h1,h2,a0a h3 hb⟩)
 case ob =>
  and_intros<;>
  first
   | exact ⟨⟩
   | (intro vs Wq hW hk;(have q0:=a02 (a04 h2 hW l2) 0);(have q1:=a02 (a04 h3 hW l3) 0);(try simp only [knows,Spec.at',↓zH,↓zG,yL] at hk);simp only [Spec.at',↓zH,↓zG,a00,a03,yy0,yy1,yy2,yy3];(try simp only [hk]);first | ((repeat'(first|go_skip|go_guarded|go_step|go_upon));exact a01 _ rfl (by go_simp) bR rfl) | fail)
   | (
     intro vs Wq hW hk;have g0:vs 0=.slice ah (p.head.length - i0) ch:=hk.1;clear hk;change wpList _ _ _ _ (a00 _ vs [0] _) _;simp only [a00,a03,yy0,yy1,yy2,yy3];rw [g0];have HX:=zA (af6 (mht.below hW) (by omega))
     repeat' (first | (go_at_call 117;((with_reducible refine (HX.out).mono ?_));rintro e w7 ⟨⟨v7,rfl,hv7⟩,hB7⟩;dsimp only)|go_skip|go_guarded|go_step|go_upon)
     exact a01 v7 rfl (by go_simp) hB7 hv7)
   | (
     intro vs Wq hW hk;have g1:(fun v Wx=>a2t Wx v (p.head.take (p.head.length - i0))) (vs 1) Wq:=hk.1;have g2:vs 2=.int .i64 st:=hk.2.1;have g3:vs 3=.int .i64 d:=hk.2.2.1;clear hk;change wpList _ _ _ _ (a00 _ vs [1,2,3] _) _;simp only [a00,a03,yy0,yy1,yy2,yy3];rw [g2,g3];generalize vs 1=hw1 at *;have g1:a2t Wq hw1 (p.head.take (p.head.length - i0)):=g1;obtain ⟨xa,xc,hx1,_⟩:=id g1;subst hx1
     repeat'(first|go_skip|go_guarded|go_step|go_upon)
     exact a01 (.agg #[.slice xa (p.head.take (p.head.length - i0)).length xc,st,d,.slice none 0 0]) rfl (by go_simp) bR ⟨_,rfl,g1⟩)
   | (
     intro vs Wq hW hk;clear hk;change wpList _ _ _ _ (a00 _ vs [] _) _;simp only [a00];have hz:=hW.size
     repeat'(first|go_skip|go_guarded|go_step|go_upon)
     exact a01 (.pointer (some ⟨Wq.heap.size,0,none⟩)) rfl (by go_simp) (bR.alloc (zD _) _) ⟨Wq.heap.size,rfl,hz,a05 _ _ _ rfl⟩)
 intro vs Wx hWx hk
 have v4:=hk 4 (by decide)
 have v5:=hk 5 (by decide)
 clear hk
 have v4 : ∃ hw,vs 4=.agg #[hw,st,d,.slice none 0 0]∧a2t Wx hw (p.head.take (p.head.length - i0)):=v4
 have v5 : ∃ b,vs 5=.pointer (some ⟨b,0,none⟩)∧W1.heap.size≤b∧obj Wx b=some (.cells #[.slice none 0 0,(0:Int),(0:Int),.slice none 0 0] 65 (0,0)):=v5
 obtain ⟨hw,v4,hhw⟩:=v4
 obtain ⟨pb,v5,hpb,opb⟩:=v5
 dsimp only [a1d,List.take,List.drop]
 simp only [Act.put,zF,zI,zJ]
 rw [v4,v5]
 generalize vs 0=q0,vs 1=q1,vs 2=q2,vs 3=q3
 clear v4 v5
 have alr:=a4k (h:=hw) (c:=.slice none 0 0) hhw.one rfl st d
 have hz1:=hWx.size
 have c13:obj (Wx.setRow pb #[hw,.int .i64 st,.int .i64 d,.slice none 0 0]) pb=some (.cells #[hw,st,d,.slice none 0 0] 65 (0,0)):=by rw [a2g,opb];rfl
 have B13:Below W1 W1 (Wx.setRow pb #[hw,.int .i64 st,.int .i64 d,.slice none 0 0]):=⟨hWx.os,hWx.tape,hWx.output,by simp;omega,fun k hk=>(wZ _ _ _ _ (by omega)).trans (hWx.block k hk)⟩
 have hhw2:a2t (Wx.setRow pb #[hw,.int .i64 st,.int .i64 d,.slice none 0 0]) hw (p.head.take (p.head.length - i0)):=hhw.keep fun b row fr hb=>(wZ _ _ _ _ (fun e=>by subst e;rw [opb] at hb;cases hb)).trans hb
 repeat'(first|go_skip|go_guarded|go_step|go_upon)
 clear hhw opb
 generalize Wx.setRow pb #[hw,.int .i64 st,.int .i64 d,.slice none 0 0]=WL at *
 have n0:=a0a m0 B13
 have n1:=a0a m1 B13
 have n3:=a0a h3 B13
 have nv:=a1s.below mv B13
 have nB:=h5.trans (B13.mono (by omega))
 have nz:=B13.size
 have lpb:=a09 c13
 have nD:=(B13.block D (zL.1 hK1.out).1).trans hK1.out
 have lD:=(zL.1 hK1.out).1
 have HF:Hid (Zn.a2z (c.map fun x=>(p.from_+x - st) % d)=Zn.a2z (c.map fun x=>(p.from_+x - st) % d)):=zA rfl
 go_loopw [96] (fun iv wr => ∃ (k:Nat) (cw:Value),k≤c.length∧iv=.int .i64 k∧obj wr pb=some (.cells #[hw,st,d,cw] 65 (0,0))∧wr.ownsRow WL.heap.size 3 1 cw k (a4m ((c.take k).map fun x=>(p.from_+x - st) % d))∧a1x WL.heap.size (fun k=>k=pb) WL wr) (fun iv _=>((c.length:Int) - intOf iv).toNat)
 case atStart=>exact ⟨0,_,by omega,rfl,c13,⟨rfl,.inl ⟨rfl,rfl⟩⟩,a1x.of bR _⟩
 obtain ⟨k,cw,hk,rfl,hpr,how,hX⟩:=hrel
 have x0:=hX.obj n0 (a09 n0) (by omega)
 have x3:=hX.obj n3 (a09 n3) (by omega)
 have hXz:=hX.size
 by_cases hlt:k < c.length;rotate_left
 ·have hkl:k=c.length:=by omega
  subst hkl
  rw [wY] at how
  have HSO:=zA (amk (W:=wr) (base:=WL.heap.size) (v:=cw) (l:=c.map fun x=>(p.from_+x - st) % d) (by rw [uM];exact how) (by rw [uM];omega))
  have x1:=hX.obj n1 (a09 n1) (by omega)
  have hhw3:a2t wr hw (p.head.take (p.head.length - i0)):=hhw2.keep fun b row fr hb=>hX.obj hb (a09 hb) (fun e=>by subst e;rw [c13] at hb;cases hb)
  have lWL:∀ b row fr,obj WL b=some (.cells row 3 fr)→b < WL.heap.size∧b≠pb:=fun b row fr hb=>⟨a09 hb,fun e=>by subst e;rw [c13] at hb;cases hb⟩
  have pr3:=a02 hpr 3
  repeat' ((go_not_at_region 30);(first | (go_at_call 81;((with_reducible refine (HSO.out).mono ?_));rintro e w8 ⟨rfl,hcw8,hX8⟩;have hp8:=hX8.obj hpr (a09 hpr) (by omega);have y1:=hX8.obj x1 (a09 x1) (by omega);dsimp only)|go_skip|go_guarded|go_step|go_upon))
  have hh8:a2t w8 hw (p.head.take (p.head.length - i0)):=hhw2.keep fun b row fr hb=>hX8.obj (hX.obj hb (lWL b row fr hb).1 (lWL b row fr hb).2) (xP (lWL b row fr hb).1 hXz) (by have:=(lWL b row fr hb).1;omega)
  have hon8:=a4k hh8.one hcw8.one st d
  have hD8:=(hX8.block D (by omega) (by omega)).trans ((hX.block D (by omega) (fun e=>by subst e;rw [show WL.heap[D]? = _ from c13] at nD;cases nD)).trans nD)
  have hB8:Below W W w8:=⟨hX8.os.trans (hX.os.trans nB.os),hX8.tape.trans (hX.tape.trans nB.tape),hX8.output.trans (hX.output.trans nB.output),by have:=hX8.size;have:=nB.size;omega,fun j hj=>(hX8.block j (by omega) (by omega)).trans ((hX.block j (by omega) (by omega)).trans (nB.block j hj))⟩
  have f1:=a0d y1 0
  repeat'(first|go_skip|go_guarded|go_step|go_upon)
  have hpne:pb≠W.heap.size+1:=by omega
  have z1:obj (w8.setRow (W.heap.size+1) #[hw,.int .i64 st,.int .i64 d,cw]) (W.heap.size+1)=some (.cells #[hw,st,d,cw] 65 (0,0)):=by rw [a2g,y1];rfl
  have hDr:(w8.setRow (W.heap.size+1) #[hw,.int .i64 st,.int .i64 d,cw]).heap[D]? = some (.deferred (some [])):=(wZ _ _ _ _ (by omega)).trans hD8
  have hki:∀ b row fr,obj w8 b=some (.cells row 3 fr)→obj ((w8.setRow (W.heap.size+1) #[hw,.int .i64 st,.int .i64 d,cw]).putObj D (.deferred none)) b=some (.cells row 3 fr):=fun b row fr hb=>(World.putObj_heap_other (fun e=>by subst e;rw [show obj w8 b=_ from hD8] at hb;cases hb)).trans ((wZ _ _ _ _ (fun e=>by subst e;rw [y1] at hb;cases hb)).trans hb)
  have z2:((w8.setRow (W.heap.size+1) #[hw,.int .i64 st,.int .i64 d,cw]).putObj D (.deferred none)).heap[W.heap.size+1]? = some (.cells #[hw,st,d,cw] 65 (0,0)):=(World.putObj_heap_other (by omega)).trans z1
  have hBr:Below W W ((w8.setRow (W.heap.size+1) #[hw,.int .i64 st,.int .i64 d,cw]).putObj D (.deferred none)):=a1r ⟨hB8.os,hB8.tape,hB8.output,by simpa using hB8.size,fun k hk=>(wZ _ _ _ _ (by omega)).trans (hB8.block k hk)⟩ (by omega)
  refine ⟨by simp,.inl ⟨_,_,rfl,run_takeDeferred hDr,?_⟩⟩
  refine ⟨_,a1e rfl _ _ (W.heap.size+1) 65 _ (0,0) _ rfl z2 Tryz.underlying65 rfl (by kernel_rfl),⟨hw,cw,by rw [HCN.out],?_,?_⟩,hBr⟩
  · rw [HCN.out];exact hh8.keep hki
  · rw [HCN.out];exact hcw8.keep hki
 have i1:(k:Int) < (c.length:Int):=by omega
 obtain ⟨ao,c',e1,e2⟩:=nv
 injection e1 with e1 _ e3
 subst e1 e3
 obtain ⟨vb,vo,vrow,T,fr,rfl,r1,r2⟩:=e2 (by omega)
 have r1':=hX.obj r1 (a09 r1) (fun e=>by have:=hvb0 vb vo rfl;omega)
 have cm:=(a02 r1' (vo+k)).trans (r2 k hlt)
 have hce:=HCE.out (c.getD k 0) (by rw [zB,zK hlt];exact yT _)
 have HTK:Hid (((c.take (k+1)).map fun x=>(p.from_+x - st) % d)=((c.take k).map fun x=>(p.from_+x - st) % d) ++ [(p.from_+c.getD k 0 - st) % d]):=zA (by rw [Zn.take_snoc hlt 0,List.map_append];rfl)
 have hml:((c.take k).map fun x=>(p.from_+x - st) % d).length=k:=by simp;omega
 clear r1 r2 e2
 generalize ((c.take k).map fun x=>(p.from_+x - st) % d)=LL at *
 generalize c.getD k 0=x at *
 have w1:=zWI (p.from_+x)
 have w2:=zWI (p.from_+x - st)
 have e5:Int.tmod (p.from_+x - st) d=(p.from_+x - st) % d:=yE (by omega)
 have z0:(d == 0)=false:=by simp;omega
 have m1':(0:Int)≤(p.from_+x - st) % d:=wP _ (by omega)
 have m2':(p.from_+x - st) % d < d:=vJ _ (by omega)
 generalize hmm:(p.from_+x - st) % d=mm at *
 have w3:=zWI mm
 have lx0:=a09 x0
 have lx3:=a09 x3
 have lpr:=a09 hpr
 clear hmm
 repeat' ((go_not_at_region 27);(first|go_skip|go_guarded|go_step|go_upon))
 refine a0k 11 [([],fun v _=>v=.pointer (some ⟨pb,3,none⟩)),([0],fun v _=>v=cw),([],fun v _=>v=.pointer (some ⟨W.heap.size,1,none⟩)),([2],fun v _=>v=.int .i64 p.from_),([],fun v _=>v=.int .i64 x),([3,4],fun v _=>v=.int .i64 (p.from_+x)),([],fun v _=>v=.int .i64 st),([5,6],fun v _=>v=.int .i64 (p.from_+x - st)),([],fun v _=>v=.int .i64 d),([7,8],fun v _=>v=.int .i64 mm),
    ([9],fun v Wx => ∃ b,v=.slice (some ⟨b,0,none⟩) 1 1∧wr.heap.size≤b∧obj Wx b=some (.cells #[mm] 3 (0,0)))] (by kernel_rfl) (by kernel_rfl) (by kernel_rfl) ?st ?ob ?_
 case st => intro k v W1 W2 h hb;rcases k with _|_|_|_|_|_|_|_|_|_|_|k<;>first | exact h | trivial | (obtain ⟨b,h1,h2,h3⟩:=h;exact ⟨b,h1,h2,a0a h3 hb⟩)
 case ob =>
   and_intros<;>
   first
    | exact ⟨⟩
    | (intro vs Wq hW hk;(have q0:=a02 (a04 hpr hW lpr) 3);(have q1:=a02 (a04 x0 hW lx0) 1);(have q2:=a02 (a04 x3 hW lx3) 0);(try simp only [knows,Spec.at',↓zH,↓zG,yL] at hk);simp only [Spec.at',↓zH,↓zG,a00,a03,yy0,yy1,yy2,yy3];(try simp only [hk]);first | ((repeat'(first|go_skip|go_guarded|go_step|go_upon));exact a01 _ rfl (by go_simp) bR rfl) | fail)
    | (
     intro vs Wq hW hk;have g9:vs 9=.int .i64 mm:=hk.1;clear hk;change wpList _ _ _ _ (a00 _ vs [9] _) _;simp only [a00,a03,yy0,yy1,yy2,yy3];rw [g9];have hz:=hW.size
     repeat'(first|go_skip|go_guarded|go_step|go_upon)
     exact a01 (.slice (some ⟨Wq.heap.size,0,none⟩) 1 1) rfl (by go_simp) (bR.alloc (zD _) _) ⟨Wq.heap.size,rfl,hz,a05 _ _ _ rfl⟩)
 intro vs Wx hWx hk
 have v1:=hk 1 (by decide)
 have v10:=hk 10 (by decide)
 clear hk
 have v1:vs 1=cw:=v1
 have v10 : ∃ b,vs 10=.slice (some ⟨b,0,none⟩) 1 1∧wr.heap.size≤b∧obj Wx b=some (.cells #[mm] 3 (0,0)):=v10
 obtain ⟨nb,v10,hnb,onb⟩:=v10
 dsimp only [a1d,List.take,List.drop]
 simp only [Act.put,zF,zI,zJ]
 rw [v1,v10]
 generalize vs 0=q0,vs 2=q2,vs 3=q3,vs 4=q4,vs 5=q5,vs 6=q6,vs 7=q7,vs 8=q8,vs 9=q9
 clear v1 v10
 have owx:=a0m how hWx
 have prx:=a0a hpr hWx
 have hwz:=hWx.size
 repeat' (first | (at_builtin;(refine a3r rfl _ _ rfl WL.heap.size k cw LL rfl owx nb mm rfl onb (by omega) (by omega) ?_);intro v5 W5 a3p hg5 als;have pr5:=a19 owx prx (by decide) hg5;have f5:=a0d pr5 3;have c5:=a02 pr5 3;obtain ⟨va5,vc5,hv5⟩:=(a2o a3p).2.2;subst hv5;dsimp only)|go_skip|go_guarded|go_step|go_upon)
 have alk:=yF a3p (a:=⟨pb,3,none⟩) (a2f a3p pr5 (by decide)) (.slice va5 (k+1) vc5)
 have pr6:obj (W5.setCell ⟨pb,3,none⟩ (.slice va5 (k+1) vc5)) pb=some (.cells #[hw,st,d,.slice va5 (k+1) vc5] 65 (0,0)):=by rw [a0c,pr5];rfl
 have hX6:a1x WL.heap.size (fun k=>k=pb) WL (W5.setCell ⟨pb,3,none⟩ (.slice va5 (k+1) vc5)):=⟨hg5.os.trans (hWx.os.trans hX.os),hg5.tape.trans (hWx.tape.trans hX.tape),hg5.output.trans (hWx.output.trans hX.output),by have:=hg5.size;simp;omega,fun j hj hn=>(zO _ _ _ _ hn).trans ((hg5.block j (by omega) (fun e=>by have:=a1p owx e.symm;omega)).trans ((hWx.block j (by omega)).trans (hX.block j hj hn)))⟩
 exact ⟨⟨k+1,_,by omega,by go_num,pr6,by rw [HTK.out];exact alk,hX6⟩,by simp [intOf];omega⟩
end Go.Proofs.YtppjleebbjipbaaGreat
