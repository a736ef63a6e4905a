/-
  The law ZoneComparison.
-/
import Derived.Test.YtppjleebbjipbaaGreatPkZtk
import Derived.Test.YtppjleebbjipbaaGreatPkZl
set_option linter.all false
namespace Go.Proofs.YtppjleebbjipbaaGreat
open Go.RowKit Go.Shelf
set_option maxRecDepth 20000
set_option maxHeartbeats 8000000
theorem share {P:(Nat→Value)→World→Prop} {G:Prop} (A:World→Prop) (B:(Nat→Value)→Prop) (h:(∀ vs W,A W→B vs→P vs W)→G) (h2:∀ vs W,A W→B vs→P vs W):G:=h h2
theorem zoneComparison_calls {W:World} {x y:Zn.Raw} {gv ov gw ow:Value} (hx:x.In) (hgv:U8V W gv x.a6v) (hov:U8V W ov x.a5z) (hy:y.In) (hgw:U8V W gw y.a6v) (how:U8V W ow y.a5z) {t0 t1 t2:Nat} (ht0:t0 < 4294967296) (ht1:t1 < 4294967296) (ht2:t2 < 4294967296) :
  Calls Tryz.prog 14 #[.agg #[.int .u8 (x.start:Nat),gv,ov,.int .u8 (x.behind:Nat),.int .u8 (x.y0:Nat),.int .u8 (x.y1:Nat),.int .u8 (x.y2:Nat),.int .u8 (x.y3:Nat),.int .u8 (x.y4:Nat),.int .u8 (x.y5:Nat),.int .u8 (x.y6:Nat),.int .u8 (x.y7:Nat),.int .u8 (x.cal:Nat),.bool x.rules],.agg #[.int .u8 (y.start:Nat),gw,ow,.int .u8 (y.behind:Nat),.int .u8 (y.y0:Nat),.int .u8 (y.y1:Nat),.int .u8 (y.y2:Nat),.int .u8 (y.y3:Nat),.int .u8 (y.y4:Nat),.int .u8 (y.y5:Nat),.int .u8 (y.y6:Nat),.int .u8 (y.y7:Nat),.int .u8 (y.cal:Nat),.bool y.rules],.agg #[.int .u32 (t0:Nat),.int .u32 (t1:Nat),.int .u32 (t2:Nat)]] W fun e w'=>e=.returned (.bool true)∧Below W.heap.size W w':=by
 have HO:OpenSpec:=a9r ad3
 have HGa:=Lib.hid hgv
 have HOa:=Lib.hid hov
 have HGb:=Lib.hid hgw
 have HOb:=Lib.hid how
 obtain ⟨gxa,gxc,rfl⟩ : ∃ a c,gv=.slice a x.a6v.length c:=by obtain ⟨a,c,h,_⟩:=hgv;exact ⟨a,c,h⟩
 obtain ⟨oxa,oxc,rfl⟩ : ∃ a c,ov=.slice a x.a5z.length c:=by obtain ⟨a,c,h,_⟩:=hov;exact ⟨a,c,h⟩
 obtain ⟨gya,gyc,rfl⟩ : ∃ a c,gw=.slice a y.a6v.length c:=by obtain ⟨a,c,h,_⟩:=hgw;exact ⟨a,c,h⟩
 obtain ⟨oya,oyc,rfl⟩ : ∃ a c,ow=.slice a y.a5z.length c:=by obtain ⟨a,c,h,_⟩:=how;exact ⟨a,c,h⟩
 clear hgv hov hgw how
 have honx:ones #[.int .u8 (x.start:Nat),.slice gxa x.a6v.length gxc,.slice oxa x.a5z.length oxc,.int .u8 (x.behind:Nat),.int .u8 (x.y0:Nat),.int .u8 (x.y1:Nat),.int .u8 (x.y2:Nat),.int .u8 (x.y3:Nat),.int .u8 (x.y4:Nat),.int .u8 (x.y5:Nat),.int .u8 (x.y6:Nat),.int .u8 (x.y7:Nat),.int .u8 (x.cal:Nat),.bool x.rules]=true:=by simp [ones,a0n,Value.oneCell']
 have hony:ones #[.int .u8 (y.start:Nat),.slice gya y.a6v.length gyc,.slice oya y.a5z.length oyc,.int .u8 (y.behind:Nat),.int .u8 (y.y0:Nat),.int .u8 (y.y1:Nat),.int .u8 (y.y2:Nat),.int .u8 (y.y3:Nat),.int .u8 (y.y4:Nat),.int .u8 (y.y5:Nat),.int .u8 (y.y6:Nat),.int .u8 (y.y7:Nat),.int .u8 (y.cal:Nat),.bool y.rules]=true:=by simp [ones,a0n,Value.oneCell']
 have wVB:Below W.heap.size W (((W.alloc (.cells #[.int .u8 (x.start:Nat),.slice gxa x.a6v.length gxc,.slice oxa x.a5z.length oxc,.int .u8 (x.behind:Nat),.int .u8 (x.y0:Nat),.int .u8 (x.y1:Nat),.int .u8 (x.y2:Nat),.int .u8 (x.y3:Nat),.int .u8 (x.y4:Nat),.int .u8 (x.y5:Nat),.int .u8 (x.y6:Nat),.int .u8 (x.y7:Nat),.int .u8 (x.cal:Nat),.bool x.rules] 26)).alloc (.cells #[.int .u8 (y.start:Nat),.slice gya y.a6v.length gyc,.slice oya y.a5z.length oyc,.int .u8 (y.behind:Nat),.int .u8 (y.y0:Nat),.int .u8 (y.y1:Nat),.int .u8 (y.y2:Nat),.int .u8 (y.y3:Nat),.int .u8 (y.y4:Nat),.int .u8 (y.y5:Nat),.int .u8 (y.y6:Nat),.int .u8 (y.y7:Nat),.int .u8 (y.cal:Nat),.bool y.rules] 26)).alloc (.cells #[.int .u32 (t0:Nat),.int .u32 (t1:Nat),.int .u32 (t2:Nat)] 86)):=((bR.alloc (Nat.le_refl _) _).alloc (by simp) _).alloc (by simp;omega) _
 have o0:obj (((W.alloc (.cells #[.int .u8 (x.start:Nat),.slice gxa x.a6v.length gxc,.slice oxa x.a5z.length oxc,.int .u8 (x.behind:Nat),.int .u8 (x.y0:Nat),.int .u8 (x.y1:Nat),.int .u8 (x.y2:Nat),.int .u8 (x.y3:Nat),.int .u8 (x.y4:Nat),.int .u8 (x.y5:Nat),.int .u8 (x.y6:Nat),.int .u8 (x.y7:Nat),.int .u8 (x.cal:Nat),.bool x.rules] 26)).alloc (.cells #[.int .u8 (y.start:Nat),.slice gya y.a6v.length gyc,.slice oya y.a5z.length oyc,.int .u8 (y.behind:Nat),.int .u8 (y.y0:Nat),.int .u8 (y.y1:Nat),.int .u8 (y.y2:Nat),.int .u8 (y.y3:Nat),.int .u8 (y.y4:Nat),.int .u8 (y.y5:Nat),.int .u8 (y.y6:Nat),.int .u8 (y.y7:Nat),.int .u8 (y.cal:Nat),.bool y.rules] 26)).alloc (.cells #[.int .u32 (t0:Nat),.int .u32 (t1:Nat),.int .u32 (t2:Nat)] 86)) W.heap.size=some (.cells #[.int .u8 (x.start:Nat),.slice gxa x.a6v.length gxc,.slice oxa x.a5z.length oxc,.int .u8 (x.behind:Nat),.int .u8 (x.y0:Nat),.int .u8 (x.y1:Nat),.int .u8 (x.y2:Nat),.int .u8 (x.y3:Nat),.int .u8 (x.y4:Nat),.int .u8 (x.y5:Nat),.int .u8 (x.y6:Nat),.int .u8 (x.y7:Nat),.int .u8 (x.cal:Nat),.bool x.rules] 26 (0,0)):=a06 (a06 (a05 _ _ _ rfl) _) _
 have o1:obj (((W.alloc (.cells #[.int .u8 (x.start:Nat),.slice gxa x.a6v.length gxc,.slice oxa x.a5z.length oxc,.int .u8 (x.behind:Nat),.int .u8 (x.y0:Nat),.int .u8 (x.y1:Nat),.int .u8 (x.y2:Nat),.int .u8 (x.y3:Nat),.int .u8 (x.y4:Nat),.int .u8 (x.y5:Nat),.int .u8 (x.y6:Nat),.int .u8 (x.y7:Nat),.int .u8 (x.cal:Nat),.bool x.rules] 26)).alloc (.cells #[.int .u8 (y.start:Nat),.slice gya y.a6v.length gyc,.slice oya y.a5z.length oyc,.int .u8 (y.behind:Nat),.int .u8 (y.y0:Nat),.int .u8 (y.y1:Nat),.int .u8 (y.y2:Nat),.int .u8 (y.y3:Nat),.int .u8 (y.y4:Nat),.int .u8 (y.y5:Nat),.int .u8 (y.y6:Nat),.int .u8 (y.y7:Nat),.int .u8 (y.cal:Nat),.bool y.rules] 26)).alloc (.cells #[.int .u32 (t0:Nat),.int .u32 (t1:Nat),.int .u32 (t2:Nat)] 86)) (W.heap.size+1)=some (.cells #[.int .u8 (y.start:Nat),.slice gya y.a6v.length gyc,.slice oya y.a5z.length oyc,.int .u8 (y.behind:Nat),.int .u8 (y.y0:Nat),.int .u8 (y.y1:Nat),.int .u8 (y.y2:Nat),.int .u8 (y.y3:Nat),.int .u8 (y.y4:Nat),.int .u8 (y.y5:Nat),.int .u8 (y.y6:Nat),.int .u8 (y.y7:Nat),.int .u8 (y.cal:Nat),.bool y.rules] 26 (0,0)):=a06 (a05 _ _ _ (by simp)) _
 have o2:obj (((W.alloc (.cells #[.int .u8 (x.start:Nat),.slice gxa x.a6v.length gxc,.slice oxa x.a5z.length oxc,.int .u8 (x.behind:Nat),.int .u8 (x.y0:Nat),.int .u8 (x.y1:Nat),.int .u8 (x.y2:Nat),.int .u8 (x.y3:Nat),.int .u8 (x.y4:Nat),.int .u8 (x.y5:Nat),.int .u8 (x.y6:Nat),.int .u8 (x.y7:Nat),.int .u8 (x.cal:Nat),.bool x.rules] 26)).alloc (.cells #[.int .u8 (y.start:Nat),.slice gya y.a6v.length gyc,.slice oya y.a5z.length oyc,.int .u8 (y.behind:Nat),.int .u8 (y.y0:Nat),.int .u8 (y.y1:Nat),.int .u8 (y.y2:Nat),.int .u8 (y.y3:Nat),.int .u8 (y.y4:Nat),.int .u8 (y.y5:Nat),.int .u8 (y.y6:Nat),.int .u8 (y.y7:Nat),.int .u8 (y.cal:Nat),.bool y.rules] 26)).alloc (.cells #[.int .u32 (t0:Nat),.int .u32 (t1:Nat),.int .u32 (t2:Nat)] 86)) (W.heap.size+2)=some (.cells #[.int .u32 (t0:Nat),.int .u32 (t1:Nat),.int .u32 (t2:Nat)] 86 (0,0)):=a05 _ _ _ (by simp)
 obtain ⟨a,hza⟩ : ∃ a,a=Zn.made x:=⟨_,rfl⟩
 obtain ⟨b,hzb⟩ : ∃ b,b=Zn.made y:=⟨_,rfl⟩
 have HZa:=Lib.hid hza
 have HZb:=Lib.hid hzb
 have hla:Zn.ane a:=hza ▸ Zn.akj x
 have hlb:Zn.ane b:=hzb ▸ Zn.akj y
 have HMA:Hid (Zn.arz a):=Lib.hid (hza ▸ Zn.made_k hx)
 have HMB:Hid (Zn.arz b):=Lib.hid (hzb ▸ Zn.made_k hy)
 have HSMA:Hid (Zn.SmallC a):=Lib.hid (hza ▸ Zn.made_small x)
 have HSMB:Hid (Zn.SmallC b):=Lib.hid (hzb ▸ Zn.made_small y)
 have HXa:=Lib.hid hx
 have HXb:=Lib.hid hy
 clear hza hzb hx hy
 go_enter Tryz.func14,Tryz.ntmps14
 repeat' ((go_not_at_region 1);(first|go_skip|go_guarded|go_step|go_upon))
 generalize (((W.alloc (.cells #[.int .u8 (x.start:Nat),.slice gxa x.a6v.length gxc,.slice oxa x.a5z.length oxc,.int .u8 (x.behind:Nat),.int .u8 (x.y0:Nat),.int .u8 (x.y1:Nat),.int .u8 (x.y2:Nat),.int .u8 (x.y3:Nat),.int .u8 (x.y4:Nat),.int .u8 (x.y5:Nat),.int .u8 (x.y6:Nat),.int .u8 (x.y7:Nat),.int .u8 (x.cal:Nat),.bool x.rules] 26)).alloc (.cells #[.int .u8 (y.start:Nat),.slice gya y.a6v.length gyc,.slice oya y.a5z.length oyc,.int .u8 (y.behind:Nat),.int .u8 (y.y0:Nat),.int .u8 (y.y1:Nat),.int .u8 (y.y2:Nat),.int .u8 (y.y3:Nat),.int .u8 (y.y4:Nat),.int .u8 (y.y5:Nat),.int .u8 (y.y6:Nat),.int .u8 (y.y7:Nat),.int .u8 (y.cal:Nat),.bool y.rules] 26)).alloc (.cells #[.int .u32 (t0:Nat),.int .u32 (t1:Nat),.int .u32 (t2:Nat)] 86))=V at *
 repeat' ((go_not_at_region 2);(first | (go_at_call 15;((with_reducible refine ((ada _).mono ?_)));rintro e w2 ⟨rfl,hB'⟩;have hB2:=wVB.trans (hB'.mono wVB.size);have p0:=a0a o0 hB';have p1:=a0a o1 hB';have p2:=a0a o2 hB';dsimp only)|go_skip|go_guarded|go_step|go_upon))
 have HMDa:=Lib.hid (aoh HZa.out HXa.out (HGa.out.below hB2) (HOa.out.below hB2))
 repeat' ((go_not_at_region 3);(first | (go_at_call 16;((with_reducible refine ((HMDa.out).mono ?_)));rintro e w3 ⟨⟨mva,rva,tva,yva,rfl,hzsa⟩,hB'⟩;have hB3:=hB2.trans (hB'.mono hB2.size);have q0:=a0a p0 hB';have q1:=a0a p1 hB';have q2:=a0a p2 hB';have hona:=a1b hzsa.cal.mon.one hzsa.cal.rul.one (a1m.one hzsa.tr) (a1m.one hzsa.yr) (a:=a.cal.a08) (b:=a.cal.a0l) (c:=a.start) (d:=a.hor);dsimp only)|go_skip|go_guarded|go_step|go_upon))
 have A1:=(Below.refl w3.heap.size w3).alloc (Nat.le_refl _) (.cells #[a.cal.a08,mva,a.cal.a0l,rva,a.start,tva,a.hor,yva] 35)
 have oza:obj (w3.alloc (.cells #[a.cal.a08,mva,a.cal.a0l,rva,a.start,tva,a.hor,yva] 35)) w3.heap.size=some (.cells #[a.cal.a08,mva,a.cal.a0l,rva,a.start,tva,a.hor,yva] 35 (0,0)):=a05 _ _ _ rfl
 have q1:=a0a q1 A1
 have q2:=a0a q2 A1
 have hzsa:=hzsa.below A1
 have hB4:=hB3.trans (A1.mono hB3.size)
 clear A1 hB3 p0 p1 p2 o0 o1 o2 q0 hB'
 generalize (w3.alloc (.cells #[a.cal.a08,mva,a.cal.a0l,rva,a.start,tva,a.hor,yva] 35))=w4 at *
 generalize w3.heap.size=ba at *
 have HMDb:=Lib.hid (aoh HZb.out HXb.out (HGb.out.below hB4) (HOb.out.below hB4))
 repeat' ((go_not_at_region 4);(first | (go_at_call 16;((with_reducible refine ((HMDb.out).mono ?_)));rintro e w5 ⟨⟨mvb,rvb,tvb,yvb,rfl,hzsb⟩,hB'⟩;have hB5:=hB4.trans (hB'.mono hB4.size);have q2:=a0a q2 hB';have oza:=a0a oza hB';have hzsa:=hzsa.below hB';have honb:=a1b hzsb.cal.mon.one hzsb.cal.rul.one (a1m.one hzsb.tr) (a1m.one hzsb.yr) (a:=b.cal.a08) (b:=b.cal.a0l) (c:=b.start) (d:=b.hor);dsimp only)|go_skip|go_guarded|go_step|go_upon))
 have B1:=(Below.refl w5.heap.size w5).alloc (Nat.le_refl _) (.cells #[b.cal.a08,mvb,b.cal.a0l,rvb,b.start,tvb,b.hor,yvb] 35)
 have ozb:obj (w5.alloc (.cells #[b.cal.a08,mvb,b.cal.a0l,rvb,b.start,tvb,b.hor,yvb] 35)) w5.heap.size=some (.cells #[b.cal.a08,mvb,b.cal.a0l,rvb,b.start,tvb,b.hor,yvb] 35 (0,0)):=a05 _ _ _ rfl
 have q2:=a0a q2 B1
 have oza:=a0a oza B1
 have hzsa:=hzsa.below B1
 have hzsb:=hzsb.below B1
 have hBV:=hB5.trans (B1.mono hB5.size)
 clear B1 hB5 hB4 hB2 q1 hB'
 generalize (w5.alloc (.cells #[b.cal.a08,mvb,b.cal.a0l,rvb,b.start,tvb,b.hor,yvb] 35))=U at *
 generalize w5.heap.size=bb at *
 have HZa:=Lib.hid (fun (Wq:World) (hq:Below U.heap.size U Wq)=>hzsa.below hq)
 have HZb:=Lib.hid (fun (Wq:World) (hq:Below U.heap.size U Wq)=>hzsb.below hq)
 clear HMDa HMDb HGa HGb HOa HOb hzsa hzsb honx hony wVB
 have hb0:=Below.refl U.heap.size U
 have c0:=a02 q2 0
 have c1:=a02 q2 1
 have c2:=a02 q2 2
 have m0:IntKind.wrap .i64 ((t0:Int) % 200000 - 3000)=(t0:Int) % 200000 - 3000:=by rw [wrap_in]<;>omega
 repeat' ((go_not_at_region 5);(first|go_skip|go_guarded|go_step|go_upon))
 clear m0 c0
 obtain ⟨f,hf⟩ : ∃ f,f=(t0:Int) % 200000 - 3000:=⟨_,rfl⟩
 obtain ⟨u,hu⟩ : ∃ u,u=f+(t1:Int) % 60000:=⟨_,rfl⟩
 obtain ⟨n,hn⟩ : ∃ n,n=f+(t2:Int) % 60000:=⟨_,rfl⟩
 rw [← hf]
 have m1:IntKind.wrap .i64 (f+(t1:Int) % 60000)=u:=by rw [hu,wrap_in]<;>omega
 have m2:IntKind.wrap .i64 (f+(t2:Int) % 60000)=n:=by rw [hn,wrap_in]<;>omega
 have hfu:f≤u∧u≤f+60000:=by omega
 have hfn:f≤n∧n≤f+60000:=by omega
 have hfb : -3000≤f∧f≤200000:=by omega
 clear hf hu hn
 repeat' ((go_not_at_region 6);(first|go_skip|go_guarded|go_step|go_upon))
 have A6:=(Below.refl U.heap.size U).alloc (Nat.le_refl _) (.cells #[f,u] 77)
 have os:obj (U.alloc (.cells #[f,u] 77)) U.heap.size=some (.cells #[f,u] 77 (0,0)):=a05 _ _ _ rfl
 have oza:=a0a oza A6
 have ozb:=a0a ozb A6
 have q2:=a0a q2 A6
 have hb1:=hb0.trans A6
 clear A6 c1 c2 m1
 generalize (U.alloc (.cells #[f,u] 77))=u1 at *
 generalize U.heap.size=bs at os ⊢
 obtain ⟨la,hca,hgA⟩:=Zn.anr HMA.out.good (t:=f) (u:=u) (by omega)
 obtain ⟨lb,hcb,hgB⟩:=Zn.anr HMB.out.good (t:=f) (u:=u) (by omega)
 have hd1:=Zn.cmp_diff HMA.out.good HMB.out.good hfu.1 hgA hgB
 have hlaL:=hgA.len
 have hlbL:=hgB.len
 have HDF:=Lib.hid (fun (Wq:World) (hq:Below U.heap.size U Wq)=>Diff_calls HO ((HZa.out Wq hq)) hla.r hla.m ((HZb.out Wq hq)) hlb.r hlb.m HMA.out.good HMB.out.good (by omega) (by omega) hfu.1 hca hcb (by omega) (by omega) hd1.1)
 have HD1:=Lib.hid hd1.2
 have HO1:=Lib.hid (fun (Wq:World) (hq:Below U.heap.size U Wq)=>aqr HO (HZa.out Wq hq) HMA.out.good hla (t:=n) (by omega))
 have HO2:=Lib.hid (fun (Wq:World) (hq:Below U.heap.size U Wq)=>aqr HO (HZb.out Wq hq) HMB.out.good hlb (t:=n) (by omega))
 clear hca hcb hgA hgB hd1 hlaL hlbL
 obtain ⟨p,hp⟩ : ∃ p,Zn.a2u a n=p:=⟨_,rfl⟩
 obtain ⟨q,hq⟩ : ∃ q,Zn.a2u b n=q:=⟨_,rfl⟩
 rw [hp] at HO1
 rw [hq] at HO2
 have HPQ:=Lib.hid (And.intro hp hq)
 clear hp hq
 repeat' ((go_not_at_region 7);(first | (go_at_call 41;((with_reducible refine ((HDF.out _ hb1).mono ?_)));rintro e u2 ⟨⟨vd,L,rfl,htv,hnl,hrg,hLl⟩,hB'⟩;have hb2:=hb1.trans (hB'.mono hb1.size);have oza:=a0a oza hB';have ozb:=a0a ozb hB';have os:=a0a os hB';have q2:=a0a q2 hB';obtain ⟨da,dc,rfl,hrow⟩:=htv;have HTV:Hid (a2b u2 (.slice da L.length dc) L):=Lib.hid ⟨da,dc,rfl,hrow⟩;clear hrow;dsimp only)|go_skip|go_guarded|go_step|go_upon))
 have HNL:=Lib.hid hnl
 have HRG:=Lib.hid hrg
 have c2:=a02 q2 2
 clear hnl hrg HDF hb1 hB'
 repeat' ((go_not_at_region 8);(first|go_skip|go_guarded|go_step|go_upon))
 clear c2 m2 q2
 repeat' ((go_not_at_region 9);(first | (go_at_call 18;((with_reducible refine ((HO1.out _ hb2).mono ?_)));rintro e u3 ⟨rfl,hB'⟩;have hb3:=hb2.trans (hB'.mono hb2.size);have oza:=a0a oza hB';have ozb:=a0a ozb hB';have os:=a0a os hB';have HTV:=Lib.hid (a1m.below HTV.out hB');dsimp only)|go_skip|go_guarded|go_step|go_upon))
 clear hB'
 repeat' ((go_not_at_region 10);(first | (go_at_call 18;((with_reducible refine ((HO2.out _ hb3).mono ?_)));rintro e u4 ⟨rfl,hB'⟩;have hb4:=hb3.trans (hB'.mono hb3.size);have oza:=a0a oza hB';have ozb:=a0a ozb hB';have os:=a0a os hB';have HTV:=Lib.hid (a1m.below HTV.out hB');dsimp only)|go_skip|go_guarded|go_step|go_upon))
 clear hB' HO1 HO2 hb2 hb3
 have HVA:=Lib.hid (sValid_calls HTV.out (by omega) HNL.out.ord HRG.out)
 repeat' ((go_not_at_region 12);(first | (go_at_call 47;((with_reducible refine ((HVA.out).mono ?_)));rintro e u5 ⟨rfl,hB'⟩;have hb4:=hb4.trans (hB'.mono hb4.size);have oza:=a0a oza hB';have ozb:=a0a ozb hB';have os:=a0a os hB';have HTV:=Lib.hid (a1m.below HTV.out hB');dsimp only)|go_skip|go_guarded|go_step|go_upon))
 clear HVA hB' HRG
 have HHA:=Lib.hid (fun (Wq:World) (hq:Below u5.heap.size u5 Wq)=>sHas_calls (a1m.below HTV.out hq) (by omega) n)
 have HHN:Hid (Zn.hasB L n=true↔f≤n∧n < u∧p≠q):=Lib.hid (by rw [HNL.out.has,HD1.out,HPQ.out.1,HPQ.out.2])
 have hcA:1≤Zn.a0s a∧Zn.a0s a≤217:=by rcases Zn.made_cyc HMA.out with ⟨h,_⟩ | ⟨_,h⟩<;>omega
 have hcB:1≤Zn.a0s b∧Zn.a0s b≤217:=by rcases Zn.made_cyc HMB.out with ⟨h,_⟩ | ⟨_,h⟩<;>omega
 obtain ⟨ca,hca⟩ : ∃ ca:Nat,Zn.a0s a=(ca:Int):=⟨(Zn.a0s a).toNat,by omega⟩
 obtain ⟨cb,hcb⟩ : ∃ cb:Nat,Zn.a0s b=(cb:Int):=⟨(Zn.a0s b).toNat,by omega⟩
 have HCYA:=Lib.hid hca
 have HCYB:=Lib.hid hcb
 have HCA:=Lib.hid (fun (Wq:World) (hq:Below U.heap.size U Wq)=>ab9 (HZa.out Wq hq) HMA.out.good.a.hd.cal)
 have HCB:=Lib.hid (fun (Wq:World) (hq:Below U.heap.size U Wq)=>ab9 (HZb.out Wq hq) HMB.out.good.a.hd.cal)
 rw [hca] at HCA hcA
 rw [hcb] at HCB hcB
 have hmul:(ca:Int) * (cb:Int)=((ca * cb:Nat):Int):=by rw [Int.natCast_mul]
 have hprod:ca * cb≤217 * 217:=Nat.mul_le_mul (by omega) (by omega)
 obtain ⟨LL,hLL⟩ : ∃ LL:Int,LL=1440 * (277+(ca:Int) * (cb:Int)):=⟨_,rfl⟩
 have HLL:=Lib.hid hLL
 have wm1:IntKind.wrap .i64 ((ca:Int) * (cb:Int))=(ca:Int) * (cb:Int):=by rw [hmul,wrap_in]<;>omega
 have wm2:IntKind.wrap .i64 (277+(ca:Int) * (cb:Int))=277+(ca:Int) * (cb:Int):=by rw [hmul,wrap_in]<;>omega
 have wm3:IntKind.wrap .i64 (1440 * (277+(ca:Int) * (cb:Int)))=LL:=by rw [hLL,hmul,wrap_in]<;>omega
 have hLb:LL≤100000000:=by rw [hLL,hmul];omega
 clear hca hcb hmul hLL hprod HD1 HPQ HNL HTV
 have lza:=a09 oza
 have lzb:=a09 ozb
 have ls:=a09 os
 apply share (fun W2:World=>Below u5.heap.size u5 W2) (fun vs:Nat→Value=>vs 12=.bool false)
 intro TL
 by_cases hnu:n < u
 ·have hh:Zn.hasB L n=(p != q):=Bool.eq_iff_iff.2 ⟨fun h=>bne_iff_ne.2 (HHN.out.1 h).2.2,fun h=>HHN.out.2 ⟨hfn.1,hnu,bne_iff_ne.1 h⟩⟩
  rw [hh] at HHA
  clear hh
  refine a0k 13 [([],fun v _=>v=.slice da L.length dc),([],fun v _=>v=.int .i64 n),([0,1],fun v _=>v=.bool (p != q)),([],fun v _=>v=.int .i64 n),([],fun v _=>v=.pointer (some ⟨bs,1,none⟩)),([4],fun v _=>v=.int .i64 u),([3,5],fun v _=>v=.bool true),([6,2],fun v _=>v=.bool true),([7],fun v _=>v=.int .i64 p),([7],fun v _=>v=.int .i64 q),([8,9,7],fun v _=>v=.bool (p != q)),([7,10],fun v _=>v=.bool (p != q)),
    ([2,11],fun v _=>v=.bool false)] (by kernel_rfl) (by kernel_rfl) (by kernel_rfl) ?st ?ob ?_
  case st => intro k v W1 W2 h hb;rcases k with _|_|_|_|_|_|_|_|_|_|_|_|_|k<;>first | exact h | trivial
  case ob => refine ⟨?_,?_,?_,?_,?_,?_,?_,?_,?_,?_,?_,?_,?_,trivial⟩<;>(intro vs Wq hW hk;(have q0:=a02 (a04 os hW ls) 1);(try simp only [knows,Spec.at',↓List.getD_cons_succ,↓List.getD_cons_zero,and_true] at hk);simp only [Spec.at',↓List.getD_cons_succ,↓List.getD_cons_zero,a00,a03,yy0,yy1,yy2,yy3];(try simp only [hk]);first | ((repeat'(first|go_skip|go_guarded|go_step|go_upon));exact a01 _ rfl (by go_simp) bR rfl) | ((have HX:=Lib.hid (HHA.out Wq hW));(repeat' (first | (go_at_call 48;((with_reducible refine (HX.out).mono ?_));rintro e w9 ⟨rfl,hb9⟩;dsimp only)|go_skip|go_guarded|go_step|go_upon));exact a01 _ rfl (by go_simp) hb9 rfl) | fail)
  intro vs W2 hW2 hk2;exact TL vs W2 hW2 (hk2 12 (by decide))
 ·have hh:Zn.hasB L n=false:=by
   rcases Bool.eq_false_or_eq_true (Zn.hasB L n) with h | h
   ·exact absurd (HHN.out.1 h).2.1 hnu
   ·exact h
  rw [hh] at HHA
  clear hh
  refine a0k 13 [([],fun v _=>v=.slice da L.length dc),([],fun v _=>v=.int .i64 n),([0,1],fun v _=>v=.bool false),([],fun v _=>v=.int .i64 n),([],fun v _=>v=.pointer (some ⟨bs,1,none⟩)),([4],fun v _=>v=.int .i64 u),([3,5],fun v _=>v=.bool false),([6,2],fun v _=>v=.bool false),([7],fun v _=>v=undef),([7],fun v _=>v=undef),([8,9,7],fun v _=>v=undef),([7,10],fun v _=>v=.bool false),
    ([2,11],fun v _=>v=.bool false)] (by kernel_rfl) (by kernel_rfl) (by kernel_rfl) ?st ?ob ?tl
  case st => intro k v W1 W2 h hb;rcases k with _|_|_|_|_|_|_|_|_|_|_|_|_|k<;>first | exact h | trivial
  case ob => refine ⟨?_,?_,?_,?_,?_,?_,?_,?_,?_,?_,?_,?_,?_,trivial⟩<;>(intro vs Wq hW hk;(have q0:=a02 (a04 os hW ls) 1);(try simp only [knows,Spec.at',↓List.getD_cons_succ,↓List.getD_cons_zero,and_true] at hk);simp only [Spec.at',↓List.getD_cons_succ,↓List.getD_cons_zero,a00,a03,yy0,yy1,yy2,yy3];(try simp only [hk]);first | ((repeat'(first|go_skip|go_guarded|go_step|go_upon));exact a01 _ rfl (by go_simp) bR rfl) | ((have HX:=Lib.hid (HHA.out Wq hW));(repeat' (first | (go_at_call 48;((with_reducible refine (HX.out).mono ?_));rintro e w9 ⟨rfl,hb9⟩;dsimp only)|go_skip|go_guarded|go_step|go_upon));exact a01 _ rfl (by go_simp) hb9 rfl) | fail)
  case tl => intro vs W2 hW2 hk2;exact TL vs W2 hW2 (hk2 12 (by decide))
 intro vs W2 hW2 v12
 dsimp only [a1d,List.take,List.drop]
 simp only [Act.put,List.setIfInBounds_toArray,List.set_cons_succ,List.set_cons_zero]
 rw [v12]
 generalize vs 0=e0,vs 1=e1,vs 2=e2,vs 3=e3,vs 4=e4,vs 5=e5,vs 6=e6,vs 7=e7,vs 8=e8,vs 9=e9,vs 10=e10,vs 11=e11
 clear v12
 have oza:=a04 oza hW2 lza
 have ozb:=a04 ozb hW2 lzb
 have hb4:=hb4.trans (hW2.mono hb4.size)
 have hsz:=hW2.size
 clear hW2 os ls
 repeat' ((go_not_at_region 14);(first|go_skip|go_guarded|go_step|go_upon))
 generalize W2=w14 at *
 have lza:=a09 oza
 have lzb:=a09 ozb
 refine a0k 9 [([],fun v _=>v=.agg #[a.cal.a08,mva,a.cal.a0l,rva,a.start,tva,a.hor,yva]),([0],fun v _=>v=.int .i64 (ca:Nat)),([],fun v _=>v=.agg #[b.cal.a08,mvb,b.cal.a0l,rvb,b.start,tvb,b.hor,yvb]),([2,1],fun v _=>v=.int .i64 (cb:Nat)),([1,3],fun v _=>v=.int .i64 ((ca:Int) * (cb:Int))),([4],fun v _=>v=.int .i64 (277+(ca:Int) * (cb:Int))),([5],fun v _=>v=.int .i64 LL),([6],fun v _=>v=.agg #[(-10:Int),LL]),
   ([],fun v W' => ∃ g,v=.pointer (some ⟨g,0,none⟩)∧obj W' g=some (.cells #[(0:Int),(0:Int)] 77 (0,0))∧w14.heap.size≤g)] (by kernel_rfl) (by kernel_rfl) (by kernel_rfl) ?st ?ob ?_
 case st => intro k v W1 W2 h hb;rcases k with _|_|_|_|_|_|_|_|_|k<;>first | exact h | trivial | (obtain ⟨g,h1,h2,h3⟩:=h;exact ⟨g,h1,a0a h2 hb,h3⟩)
 case ob =>
  refine ⟨?_,?_,?_,?_,?_,?_,?_,?_,?_,trivial⟩ <;>
  first
   | (intro vs Wq hW hk;(have q0:=a04 oza hW lza);(have q1:=a04 ozb hW lzb);(try simp only [knows,Spec.at',↓List.getD_cons_succ,↓List.getD_cons_zero,and_true] at hk);simp only [Spec.at',↓List.getD_cons_succ,↓List.getD_cons_zero,a00,a03,yy0,yy1,yy2,yy3];(try simp only [hk]);first | ((repeat'(first|go_skip|go_guarded|go_step|go_upon));exact a01 _ rfl (by go_simp) bR rfl) | ((have HX:=Lib.hid (HCA.out Wq (hb4.trans (hW.mono hb4.size))));(repeat' (first | (go_at_call 49;((with_reducible refine (HX.out).mono ?_));rintro e w9 ⟨rfl,hb9⟩;dsimp only)|go_skip|go_guarded|go_step|go_upon));exact a01 _ rfl (by go_simp) hb9 rfl) | ((have HX:=Lib.hid (HCB.out Wq (hb4.trans (hW.mono hb4.size))));(repeat' (first | (go_at_call 49;((with_reducible refine (HX.out).mono ?_));rintro e w9 ⟨rfl,hb9⟩;dsimp only)|go_skip|go_guarded|go_step|go_upon));exact a01 _ rfl (by go_simp) hb9 rfl) | fail)
   | (
     intro vs Wq hW hk;clear hk;change wpList _ _ _ _ (a00 _ vs [] _) _;simp only [a00]
     repeat'(first|go_skip|go_guarded|go_step|go_upon)
     exact a01 (.pointer (some ⟨Wq.heap.size,0,none⟩)) rfl (by go_simp) (bR.alloc (Nat.le_refl _) _) ⟨_,rfl,a05 _ _ _ rfl,hW.size⟩)
 intro vs W3 hW3 hk3
 have v7:vs 7=.agg #[(-10:Int),LL]:=hk3 7 (by decide)
 have h8:=hk3 8 (by decide)
 obtain ⟨bl,v8,s8,s8b⟩:=h8
 clear hk3
 dsimp only [a1d,List.take,List.drop]
 simp only [Act.put,List.setIfInBounds_toArray,List.set_cons_succ,List.set_cons_zero]
 rw [v7,v8]
 generalize vs 0=d0,vs 1=d1,vs 2=d2,vs 3=d3,vs 4=d4,vs 5=d5,vs 6=d6
 clear v7 v8
 have honL:ones #[(-10:Int),LL]=true:=by simp [ones,a0n]
 have oL:obj (W3.setRow bl #[.int .i64 (-10),.int .i64 LL]) bl=some (.cells #[(-10:Int),LL] 77 (0,0)):=setRow_heap _ _ _ _ _ _ s8
 have oza:=a2q (a04 oza hW3 lza) (show ba≠bl by omega) #[.int .i64 (-10),.int .i64 LL]
 have ozb:=a2q (a04 ozb hW3 lzb) (show bb≠bl by omega) #[.int .i64 (-10),.int .i64 LL]
 have hb5:=hb4.trans ((below_setRow hW3 s8b #[.int .i64 (-10),.int .i64 LL]).mono hb4.size)
 have HK5:=Lib.hid (And.intro oL (And.intro oza (And.intro ozb hb5)))
 clear oL oza ozb hb5 s8b
 repeat' ((go_not_at_region 15);(first|go_skip|go_guarded|go_step|go_upon))
 obtain ⟨oL,oza,ozb,hb5⟩:=HK5.out
 clear HK5 s8 hW3 hb4
 generalize (W3.setRow bl #[.int .i64 (-10),.int .i64 LL])=w15 at *
 have cL:=a02 oL 1
 by_cases hbig:28800000 < LL
 ·repeat'(first|go_skip|go_guarded|go_step|go_upon)
  go_ret
  exact ⟨rfl,hBV.trans (hb5.mono hBV.size)⟩
 have hcc:ca * cb≤19723:=by rw [HLL.out,← Int.natCast_mul] at hbig;omega
 have cL0:=a02 oL 0
 repeat' ((go_not_at_region 17);(first|go_skip|go_guarded|go_step|go_upon))
 clear cL cL0
 obtain ⟨E,HCK⟩:=Zn.cmp_plain HMA.out HMB.out HSMA.out HSMB.out HCYA.out HCYB.out hcc
 rw [← HLL.out] at HCK
 obtain ⟨hcy1,hcy2,_⟩:=Zn.cyc_cases HMA.out HMB.out HCYA.out HCYB.out hcc
 obtain ⟨la2,hca2,hgA2,hla2⟩:=HCK.chA
 obtain ⟨lb2,hcb2,hgB2,hlb2⟩:=HCK.chB
 have hL0 : -10≤LL:=by have:=Int.mul_nonneg (show (0:Int)≤ca by omega) (show (0:Int)≤cb by omega);rw [HLL.out];omega
 have hd2:=Zn.cmp_diff HMA.out.good HMB.out.good hL0 hgA2 hgB2
 have HDL:=Lib.hid (fun (Wq:World) (hq:Below U.heap.size U Wq)=>Diff_calls HO (HZa.out Wq hq) hla.r hla.m (HZb.out Wq hq) hlb.r hlb.m HMA.out.good HMB.out.good (by omega) (by omega) hL0 hca2 hcb2 hla2 hlb2 hd2.1)
 have HD2:=Lib.hid hd2.2
 have tA:=Zn.settled_small HMA.out HSMA.out
 have tB:=Zn.settled_small HMB.out HSMB.out
 have HSE:=Lib.hid (fun (Wq:World) (hq:Below U.heap.size U Wq)=>Same_calls HO (HZa.out Wq hq) hla.r hla.m (HZb.out Wq hq) hlb.r hlb.m HMA.out.good HMB.out.good (N:=1000000) HCYA.out HCYB.out (by omega) (by omega) (by omega) (by omega) rfl HCK.lc4 rfl rfl (by omega) (by omega) (by omega) (by omega) HCK.hE (by decide) HCK.nA HCK.nB)
 have HLW:=Lib.hid HCK.law
 clear HCK hca2 hcb2 hgA2 hgB2 hd2 tA tB
 have aL:=oL
 repeat' ((go_not_at_region 18);(first | (go_at_call 41;((with_reducible refine ((HDL.out _ hb5).mono ?_)));rintro e w18 ⟨⟨v8,L8,rfl,htv8,hnl8,_,hl8⟩,hB'⟩;have hb6:=hb5.trans (hB'.mono hb5.size);have oza:=a0a oza hB';have ozb:=a0a ozb hB';obtain ⟨ea,ec,rfl,_⟩:=htv8;dsimp only)|go_skip|go_guarded|go_step|go_upon))
 have HN8:=Lib.hid (Zn.norm_nil hnl8)
 clear hnl8
 repeat' ((go_not_at_region 19);(first | (go_at_call 43;((with_reducible refine ((HSE.out _ hb6).mono ?_)));rintro e w19 ⟨⟨r,rfl,hr⟩,hB'⟩;have hb7:=hb6.trans (hB'.mono hb6.size);dsimp only)|go_skip|go_guarded|go_step|go_upon))
 have hrl:r=true↔L8.length=0:=by
  rw [hr,HLW.out,HN8.out]
  constructor
  · intro h t
    rcases Bool.eq_false_or_eq_true (Zn.hasB (Zn.pieceK a b (Zn.a2z (Zn.cutsK (-10) LL (la2++lb2) (la2++lb2).length)) ((la2++lb2).length+1)) t) with h1 | h1
    ·obtain ⟨h2,h3,h4⟩:=(HD2.out t).1 h1
     exact absurd (h t h2 h3) h4
    ·exact h1
  · intro h t h2 h3
    rcases Classical.em (Zn.a2u a t=Zn.a2u b t) with h4 | h4
    ·exact h4
    ·have:=(HD2.out t).2 ⟨h2,h3,h4⟩
     rw [h t] at this;cases this
 have hfin:=hBV.trans (hb7.mono hBV.size)
 clear hr HDL HSE
 cases r
 ·have h0 : ¬ L8.length=0:=fun h=>by have:=hrl.2 h;cases this
  have h1 : ¬ (L8.length:Int)=0:=by omega
  have h2 : ¬ L8 = []:=fun e=>h0 (by rw [e];rfl)
  have h3:((L8.length:Int) == 0)=false:=beq_eq_false_iff_ne.2 h1
  clear hrl h0
  repeat'(first|go_skip|go_guarded|go_step|go_upon)
  go_ret
  exact ⟨rfl,hfin⟩
 have h0:=hrl.1 rfl
 have h1:(L8.length:Int)=0:=by omega
 clear hrl
 repeat'(first|go_skip|go_guarded|go_step|go_upon)
 go_ret
 exact ⟨rfl,hfin⟩
end Go.Proofs.YtppjleebbjipbaaGreat
