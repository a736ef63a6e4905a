/-
  The law ZoneGaps.
-/
import Derived.Test.YtppjleebbjipbaaGreatPkZlxg
set_option linter.unusedSimpArgs false
namespace Go.Proofs.YtppjleebbjipbaaGreat
open Go.RowKit Go.Shelf
set_option maxRecDepth 20000
set_option maxHeartbeats 8000000
theorem zoneGaps_calls {W:World} {x:Zn.Raw} {gv ov:Value} (hx:x.In) (hgv:U8V W gv x.a6v) (hov:U8V W ov x.a5z) {t0:Nat} (ht0:t0 < 4294967296) :
  Calls Tryz.prog 7 #[.agg #[.int .u8 (x.start:Nat),gv,ov,.int .u8 (x.behind:Nat),.int .u8 (x.y0:Nat),.int .u8 (x.y1:Nat),.int .u8 (x.y2:Nat),.int .u8 (x.y3:Nat),.int .u8 (x.y4:Nat),.int .u8 (x.y5:Nat),.int .u8 (x.y6:Nat),.int .u8 (x.y7:Nat),.int .u8 (x.cal:Nat),.bool x.rules],.int .u32 (t0:Nat)] W fun e w'=>e=.returned (.bool true)∧Below W.heap.size W w':=by
 have HO:OpenSpec:=a9r ad3
 have HGV:=Lib.hid hgv
 have HOV:=Lib.hid hov
 obtain ⟨ga,gc,rfl⟩ : ∃ a c,gv=.slice a x.a6v.length c:=by obtain ⟨a,c,h,_⟩:=hgv;exact ⟨a,c,h⟩
 obtain ⟨oa,oc,rfl⟩ : ∃ a c,ov=.slice a x.a5z.length c:=by obtain ⟨a,c,h,_⟩:=hov;exact ⟨a,c,h⟩
 clear hgv hov
 have hon:ones #[.int .u8 (x.start:Nat),.slice ga x.a6v.length gc,.slice oa x.a5z.length oc,.int .u8 (x.behind:Nat),.int .u8 (x.y0:Nat),.int .u8 (x.y1:Nat),.int .u8 (x.y2:Nat),.int .u8 (x.y3:Nat),.int .u8 (x.y4:Nat),.int .u8 (x.y5:Nat),.int .u8 (x.y6:Nat),.int .u8 (x.y7:Nat),.int .u8 (x.cal:Nat),.bool x.rules]=true:=by simp [ones,a0n,Value.oneCell']
 have wVB:Below W.heap.size W (W.alloc (.cells #[.int .u8 (x.start:Nat),.slice ga x.a6v.length gc,.slice oa x.a5z.length oc,.int .u8 (x.behind:Nat),.int .u8 (x.y0:Nat),.int .u8 (x.y1:Nat),.int .u8 (x.y2:Nat),.int .u8 (x.y3:Nat),.int .u8 (x.y4:Nat),.int .u8 (x.y5:Nat),.int .u8 (x.y6:Nat),.int .u8 (x.y7:Nat),.int .u8 (x.cal:Nat),.bool x.rules] 26)):=(Below.refl _ _).alloc (Nat.le_refl _) _
 have o0:=a05 (w:=W) (.cells #[.int .u8 (x.start:Nat),.slice ga x.a6v.length gc,.slice oa x.a5z.length oc,.int .u8 (x.behind:Nat),.int .u8 (x.y0:Nat),.int .u8 (x.y1:Nat),.int .u8 (x.y2:Nat),.int .u8 (x.y3:Nat),.int .u8 (x.y4:Nat),.int .u8 (x.y5:Nat),.int .u8 (x.y6:Nat),.int .u8 (x.y7:Nat),.int .u8 (x.cal:Nat),.bool x.rules] 26) W.heap.size rfl
 obtain ⟨z,hz⟩ : ∃ z,z=Zn.made x:=⟨_,rfl⟩
 have HZ:=Lib.hid hz
 have hgd:Zn.Good z:=hz ▸ Zn.adm hx
 have hlk:Zn.ane z:=hz ▸ Zn.akj x
 have HX:=Lib.hid hx
 clear hz hx
 go_enter Tryz.func7,Tryz.ntmps7
 repeat' ((go_not_at_region 1);(first|go_skip|go_guarded|go_step|go_upon))
 generalize (W.alloc (.cells #[.int .u8 (x.start:Nat),.slice ga x.a6v.length gc,.slice oa x.a5z.length oc,.int .u8 (x.behind:Nat),.int .u8 (x.y0:Nat),.int .u8 (x.y1:Nat),.int .u8 (x.y2:Nat),.int .u8 (x.y3:Nat),.int .u8 (x.y4:Nat),.int .u8 (x.y5:Nat),.int .u8 (x.y6:Nat),.int .u8 (x.y7:Nat),.int .u8 (x.cal:Nat),.bool x.rules] 26))=V at *
 repeat' ((go_not_at_region 2);(first | (go_at_call 15;((with_reducible refine ((ada _).mono ?_)));rintro e w2 ⟨rfl,hB'⟩;have hB2:=wVB.trans (hB'.mono wVB.size);have p0:=a0a o0 hB';dsimp only)|go_skip|go_guarded|go_step|go_upon))
 have HMD:=Lib.hid (aoh HZ.out HX.out (HGV.out.below hB2) (HOV.out.below hB2))
 repeat' ((go_not_at_region 3);(first | (go_at_call 16;((with_reducible refine ((HMD.out).mono ?_)));rintro e w3 ⟨⟨mv,rv,tv,yv,rfl,hzs⟩,hB'⟩;have hB3:=hB2.trans (hB'.mono hB2.size);have q0:=a0a p0 hB';have ar2:=a1b hzs.cal.mon.one hzs.cal.rul.one (a1m.one hzs.tr) (a1m.one hzs.yr) (a:=z.cal.a08) (b:=z.cal.a0l) (c:=z.start) (d:=z.hor);dsimp only)|go_skip|go_guarded|go_step|go_upon))
 have A1:=(Below.refl w3.heap.size w3).alloc (Nat.le_refl _) (.cells #[.int .i64 z.cal.a08,mv,.int .i64 z.cal.a0l,rv,.int .i64 z.start,tv,.int .i64 z.hor,yv] 35)
 have oz:obj (w3.alloc (.cells #[.int .i64 z.cal.a08,mv,.int .i64 z.cal.a0l,rv,.int .i64 z.start,tv,.int .i64 z.hor,yv] 35)) w3.heap.size=some (.cells #[.int .i64 z.cal.a08,mv,.int .i64 z.cal.a0l,rv,.int .i64 z.start,tv,.int .i64 z.hor,yv] 35 (0,0)):=a05 _ _ _ rfl
 have s0:=a0a q0 A1
 have hzv:=hzs.below A1
 have aoo:=hzv
 have hBV:=hB3.trans (A1.mono hB3.size)
 generalize hU:w3.alloc (.cells #[.int .i64 z.cal.a08,mv,.int .i64 z.cal.a0l,rv,.int .i64 z.start,tv,.int .i64 z.hor,yv] 35)=U at *
 generalize w3.heap.size=bz at *
 have HZV:=Lib.hid (fun (Wq:World) (hq:Below U.heap.size U Wq)=>hzv.below hq)
 have hb0:=Below.refl U.heap.size U
 clear HMD HGV HOV hon ar2 hzs hzv A1 hU hB3 hB2 wVB
 have hmk:Zn.arz z:=HZ.out ▸ Zn.made_k HX.out
 obtain ⟨ta,tc,rfl,hts⟩:=trs_cells aoo.tr
 have HTS:=Lib.hid hts
 have hs0:=hgd.a.hd.s0
 have hs1:=hgd.a.hd.s1
 have hon:=a1b (aoo.cal.mon.one) (aoo.cal.rul.one) (a1m.one aoo.tr) (a1m.one aoo.yr) (a:=z.cal.a08) (b:=z.cal.a0l) (c:=z.start) (d:=z.hor)
 have zc4:=a02 oz 4
 have zc5:=a02 oz 5
 clear aoo hts
 repeat' ((go_not_at_region 4);(first|go_skip|go_guarded|go_step|go_upon))
 rcases (show (0 < z.trans.length∧t0 % 2=1)∨(0 < z.trans.length∧t0 % 2≠1)∨¬ 0 < z.trans.length by omega) with ⟨c1,c2⟩ | ⟨c1,c2⟩ | c1
 case' inl =>
  have i1:(0:Int) < (z.trans.length:Int):=by omega
  have e2:((t0:Int) % 2 == 1)=true:=beq_iff_eq.2 (by omega)
  obtain ⟨b1,o1,aql,T1,fr1,rfl,g1,h1⟩:=HTS.out c1
  obtain ⟨x0,hx0⟩ : ∃ x0,x0=z.trans.getD 0 default:=⟨_,rfl⟩
  have k1:=(a02 g1 (o1+0 * 2)).trans (h1 0 c1).1
  rw [show o1+0 * 2=o1 by omega,← hx0] at k1
  have hxb:=hmk.t0 x0 (by rw [hx0,List.getD_eq_getElem?_getD,List.getElem?_eq_getElem c1];exact List.getElem_mem c1)
  clear h1 hx0
  have i2 : ¬ (z.trans.length:Int) < 1:=by omega
  have rt2:Int.tdiv (t0:Int) 2=((t0 / 2:Nat):Int):=by rw [Int.tdiv_eq_ediv_of_nonneg (by omega)];omega
  have wrt2:IntKind.wrap .u32 ((t0 / 2:Nat):Int)=((t0 / 2:Nat):Int):=by rw [IntKind.wrap_u32];omega
  have rt3:Int.tmod ((t0 / 2:Nat):Int) 200=((t0 / 2 % 200:Nat):Int):=by rw [Int.tmod_eq_emod_of_nonneg (by omega)];omega
  have wrt3:IntKind.wrap .u32 ((t0 / 2 % 200:Nat):Int)=((t0 / 2 % 200:Nat):Int):=by rw [IntKind.wrap_u32];omega
  have wrt4:IntKind.wrap .i64 ((t0 / 2 % 200:Nat):Int)=((t0 / 2 % 200:Nat):Int):=by rw [wrap_in]<;>omega
  have m1:IntKind.wrap .i64 (x0.tm+z.start)=x0.tm+z.start:=by rw [wrap_in]<;>omega
  have m2:IntKind.wrap .i64 (x0.tm+z.start+(t0:Int) / 2 % 200)=x0.tm+z.start+(t0:Int) / 2 % 200:=by rw [wrap_in]<;>omega
  have m3:IntKind.wrap .i64 (x0.tm+z.start+(t0:Int) / 2 % 200 - 100)=x0.tm+z.start+(t0:Int) / 2 % 200 - 100:=by rw [wrap_in]<;>omega
  repeat' ((go_not_at_region 5);(first|go_skip|go_guarded|go_step|go_upon))
  go_quiet (fail)
  have hb0:=below_drewN (Below.refl U.heap.size U) nq
  have oz0:=a0a oz hb0
  generalize U.drewN nq=u0 at *
  repeat' ((go_not_at_region 6);(first|go_skip|go_guarded|go_step|go_upon))
  obtain ⟨n,hn⟩ : ∃ n,n=x0.tm+z.start+(t0:Int) / 2 % 200 - 100:=⟨_,rfl⟩
  have n0 : -400000≤n∧n≤400000:=by omega
  rw [← hn]
  clear hn m1 m2 m3 rt2 rt3 wrt2 wrt3 wrt4 e2 k1 i1 i2 c1 c2
 case' inr.inl =>
  have i1:(0:Int) < (z.trans.length:Int):=by omega
  have e2:((t0:Int) % 2 == 1)=false:=beq_eq_false_iff_ne.2 (by omega)
  repeat' ((go_not_at_region 6);(first|go_skip|go_guarded|go_step|go_upon))
  obtain ⟨n,hn⟩ : ∃ n,n=(t0:Int) % 400000:=⟨_,rfl⟩
  have n0 : -400000≤n∧n≤400000:=by omega
  rw [← hn]
  clear hn e2 i1 c1 c2
  have hb0:=Below.refl U.heap.size U
  have oz0:=oz
  obtain ⟨u0,hu0⟩ : ∃ u0,u0=U:=⟨_,rfl⟩
  rw [← hu0] at oz0 ⊢
  have hb0:Below U.heap.size U u0:=by rw [hu0];exact Below.refl _ _
  clear hu0
 case' inr.inr =>
  have i1 : ¬ (0:Int) < (z.trans.length:Int):=by omega
  repeat' ((go_not_at_region 6);(first|go_skip|go_guarded|go_step|go_upon))
  obtain ⟨n,hn⟩ : ∃ n,n=(t0:Int) % 400000:=⟨_,rfl⟩
  have n0 : -400000≤n∧n≤400000:=by omega
  rw [← hn]
  clear hn i1 c1
  have oz0:=oz
  obtain ⟨u0,hu0⟩ : ∃ u0,u0=U:=⟨_,rfl⟩
  rw [← hu0] at oz0 ⊢
  have hb0:Below U.heap.size U u0:=by rw [hu0];exact Below.refl _ _
  clear hu0
 all_goals
  obtain ⟨F,hF0⟩ : ∃ F,F=Zn.firstG z n:=⟨_,rfl⟩
  obtain ⟨S,hS0⟩ : ∃ S,S=Zn.secondG z n:=⟨_,rfl⟩
  obtain ⟨L,hL0⟩ : ∃ L,L=(Zn.a2w z n).1:=⟨_,rfl⟩
  obtain ⟨kv,hkv⟩ : ∃ kv:Int,kv=([1,0,2]:List Int).getD (Zn.a2w z n).1.length 0:=⟨_,rfl⟩
  have HK:=Lib.hid (fun (Wq:World) (hq:Below U.heap.size U Wq)=>kinds_v HO (HZV.out Wq hq) hgd hlk (by omega) hkv)
  have HI1:=Lib.hid (fun (Wq:World) (hq:Below U.heap.size U Wq)=>both_v HO (HZV.out Wq hq) hgd hlk (by omega) hL0)
  have HI2:=Lib.hid (fun (Wq:World) (hq:Below U.heap.size U Wq)=>first_v HO (HZV.out Wq hq) hgd hlk (by omega) hF0)
  have HI3:=Lib.hid (fun (Wq:World) (hq:Below U.heap.size U Wq)=>second_v HO (HZV.out Wq hq) hgd hlk (by omega) hS0)
  have hcs:=Zn.gap_cases hgd n
  rw [← hL0,← hF0,← hS0] at hcs
  rw [← hL0] at hkv
  have HCS:=Lib.hid hcs
  have HKV:=Lib.hid hkv
  clear hF0 hS0 hL0 hcs hkv
  repeat' ((go_not_at_region 7);(first | (go_at_call 22;((with_reducible refine ((HK.out _ hb0).mono ?_)));rintro e u1 ⟨rfl,hB'⟩;have hb1:=hb0.trans (hB'.mono hb0.size);have oz1:=a0a oz hb1;dsimp only)|go_skip|go_guarded|go_step|go_upon))
  repeat' ((go_not_at_region 8);(first | (go_at_call 24;((with_reducible refine ((HI1.out _ hb1).mono ?_)));rintro e u2 ⟨⟨v2,rfl,hv2⟩,hB'⟩;have hb2:=hb1.trans (hB'.mono hb1.size);have oz2:=a0a oz hb2;dsimp only)|go_skip|go_guarded|go_step|go_upon))
  repeat' ((go_not_at_region 9);(first | (go_at_call 24;((with_reducible refine ((HI2.out _ hb2).mono ?_)));rintro e u3 ⟨⟨v3,rfl,hv3⟩,hB'⟩;have hb3:=hb2.trans (hB'.mono hb2.size);have oz3:=a0a oz hb3;have hv2:=a2c.below hv2 hB';dsimp only)|go_skip|go_guarded|go_step|go_upon))
  repeat' ((go_not_at_region 10);(first | (go_at_call 24;((with_reducible refine ((HI3.out _ hb3).mono ?_)));rintro e u4 ⟨⟨v4,rfl,hv4⟩,hB'⟩;have hb4:=hb3.trans (hB'.mono hb3.size);have oz4:=a0a oz hb4;have hv2:=a2c.below hv2 hB';have hv3:=a2c.below hv3 hB';dsimp only)|go_skip|go_guarded|go_step|go_upon))
  clear HK HI1 HI2 HI3
  rcases HCS.out with ⟨hL,hS⟩ | hL | ⟨hL,e,b,a,hS,hb,ha,hF,hloc,hlt,h1,h2,b8,a8⟩
  ·have hkv:kv=0:=by have:=HKV.out;rw [hL] at this;exact this
   have HN1:=Lib.hid (fun (Wq:World) (hq:Below u4.heap.size u4 Wq)=>show Calls Tryz.prog 27 #[v3,v2] Wq fun e w'=>e=.returned (.bool true)∧Below Wq.heap.size Wq w' by have h9:=ac9 (hv3.1.below hq) (hv2.1.below hq) (by simp) (by rw [hL];simp);rw [hL,decide_eq_true rfl] at h9;exact h9)
   have HN2:=Lib.hid (fun (Wq:World) (hq:Below u4.heap.size u4 Wq)=>show Calls Tryz.prog 27 #[v4,v2] Wq fun e w'=>e=.returned (.bool true)∧Below Wq.heap.size Wq w' by have h9:=ac9 (hv4.1.below hq) (hv2.1.below hq) (by simp) (by rw [hL];simp);rw [hL,hS,decide_eq_true rfl] at h9;exact h9)
   obtain ⟨q3b,q3o,q3c,rfl,_⟩:=a7x hv3
   obtain ⟨q4b,q4o,q4c,rfl,_⟩:=a7x hv4
   have hx:=Below.refl u4.heap.size u4
   clear HCS HKV hL hS hv2 hv3 hv4
   subst hkv
   repeat' (first | (go_at_call 27;((with_reducible refine ((HN1.out _ hx).mono ?_)));rintro e w5 ⟨rfl,hB'⟩;have hx5:=hB';dsimp only) | (go_at_call 27;((with_reducible refine ((HN2.out _ hx5).mono ?_)));rintro e w6 ⟨rfl,hB'⟩;have hx6:=hx5.trans (hB'.mono hx5.size);dsimp only)|go_skip|go_guarded|go_step|go_upon)
   go_returns
   exact ⟨rfl,hBV.trans ((hb4.trans (hx6.mono hb4.size)).mono hBV.size)⟩
  ·have hkv:kv=2:=by have:=HKV.out;rw [hL] at this;exact this
   subst hL
   obtain ⟨bq,oq,cq,rfl,hcl⟩:=ahd hv2 (by simp)
   have y0:u4.cell? ⟨bq,oq+0,none⟩=some (.int .i64 F):=hcl 0 (by simp)
   have y1:u4.cell? ⟨bq,oq+1,none⟩=some (.int .i64 S):=hcl 1 (by simp)
   rw [Nat.add_zero] at y0
   obtain ⟨q3b,q3o,q3c,rfl,k3⟩:=a7x hv3
   obtain ⟨q4b,q4o,q4c,rfl,k4⟩:=a7x hv4
   clear HCS HKV hcl hv2 hv3 hv4
   subst hkv
   repeat'(first|go_skip|go_guarded|go_step|go_upon)
   go_quiet (fail)
   have hbq:=below_drewN hb4 nq
   generalize u4.drewN nq=w9 at *
   repeat'(first|go_skip|go_guarded|go_step|go_upon)
   go_returns
   exact ⟨rfl,hBV.trans (hbq.mono hBV.size)⟩
  ·have hkv:kv=1:=by have:=HKV.out;rw [hL] at this;exact this
   have HOB:=Lib.hid (fun (Wq:World) (hq:Below U.heap.size U Wq)=>offs_v HO (HZV.out Wq hq) hgd hlk (by omega) hb)
   have HOA:=Lib.hid (fun (Wq:World) (hq:Below U.heap.size U Wq)=>offs_v HO (HZV.out Wq hq) hgd hlk (by omega) ha)
   have HLF:=Lib.hid (fun (Wq:World) (hq:Below U.heap.size U Wq)=>locs_v HO (HZV.out Wq hq) hgd hlk (r:=n+a - b) (t:=F) (by omega) (by rw [hF];exact hloc))
   subst hL hS
   have e1:(F == n - b)=true:=beq_iff_eq.2 hF
   clear hb ha hloc hF
   obtain ⟨q2o,q2c,rfl⟩ : ∃ ao c,v2=.slice ao 0 c:=by obtain ⟨x,y,h,_⟩:=hv2.1;exact ⟨x,y,h⟩
   obtain ⟨q3b,q3o,q3c,rfl,k3⟩:=a7x hv3
   obtain ⟨q4b,q4o,q4c,rfl,k4⟩:=a7x hv4
   obtain ⟨B3,O3,C3,e3,row3,T3,fr3,g3,r3⟩ : ∃ b' o' c',Value.slice (some ⟨q3b,q3o,none⟩) 1 q3c=Value.slice (some ⟨b',o',none⟩) 1 c'∧∃ row T fr,obj u4 b' = some (.cells row T fr)∧row[o']? = some (.int .i64 F):=by
    obtain ⟨ao,c,h9,h8⟩:=hv3.1
    obtain ⟨b',o',row,T,fr,rfl,g2,g5⟩:=h8 (by simp)
    exact ⟨b',o',c,h9,row,T,fr,g2,g5 0 (by simp)⟩
   injection e3 with e3 _ _
   injection e3 with e3
   injection e3 with e3 e4 _
   subst e3 e4
   clear HCS HKV hv2 hv3 hv4
   subst hkv
   have m1:IntKind.wrap .i64 (S - 1)=S - 1:=by rw [wrap_in]<;>omega
   have m2:IntKind.wrap .i64 (S+b)=S+b:=by rw [wrap_in]<;>omega
   have m3:IntKind.wrap .i64 (S+a)=S+a:=by rw [wrap_in]<;>omega
   have m4:IntKind.wrap .i64 (n - b)=n - b:=by rw [wrap_in]<;>omega
   have m5:IntKind.wrap .i64 (n+a)=n+a:=by rw [wrap_in]<;>omega
   have m6:IntKind.wrap .i64 (n+a - b)=n+a - b:=by rw [wrap_in]<;>omega
   repeat' ((go_not_at_region 18);(first | (go_at_call 18;((with_reducible refine ((HOB.out _ hb4).mono ?_)));rintro e u5 ⟨rfl,hB'⟩;have hb5:=hb4.trans (hB'.mono hb4.size);have oz5:=a0a oz hb5;have g3:=a0a g3 hB';dsimp only)|go_skip|go_guarded|go_step|go_upon))
   repeat' ((go_not_at_region 19);(first | (go_at_call 18;((with_reducible refine ((HOA.out _ hb5).mono ?_)));rintro e u6 ⟨rfl,hB'⟩;have hb6:=hb5.trans (hB'.mono hb5.size);have oz6:=a0a oz hb6;have g3:=a0a g3 hB';dsimp only)|go_skip|go_guarded|go_step|go_upon))
   have HLW:=Lib.hid (fun (Wq:World) (hq:Below u6.heap.size u6 Wq)=>HLF.out Wq (hb6.trans (hq.mono hb6.size)))
   (refine wp_region_below (by kernel_rfl) (by kernel_rfl) ?_;(repeat (refine wpQuiet_step (fun K hK=>?_);go_simp;first | (refine hK _ ?_;clear hK K) | (apply Exists.intro;refine ⟨fun W hW=>?_,hK _ ?_⟩;(focus ((first | (with_reducible exact rfl) | ((have m7:=a0a oz6 hW;have m8:=a0a g3 hW;have m9:=(a02 m8 _).trans r3);(try go_simp);first | done | (with_reducible exact rfl) | (with_reducible exact ⟨rfl,rfl⟩) | (exact calls_below hW (HLW.out W hW))));done));clear hK K)));refine wpQuiet_nil ?_;intro W2 hW2)
   have g9:=a0a g3 hW2
   have k9:=(a02 g9 _).trans r3
   have hb9:=hb6.trans (hW2.mono hb6.size)
   repeat'(first|go_skip|go_guarded|go_step|go_upon)
   go_returns
   exact ⟨rfl,hBV.trans (hb9.mono hBV.size)⟩
end Go.Proofs.YtppjleebbjipbaaGreat
