/-
  The law ZoneRepeats.
-/
import Derived.Test.YtppjleebbjipbaaGreatPkZlxr
set_option linter.unusedSimpArgs false
namespace Go.Proofs.YtppjleebbjipbaaGreat
open Go.RowKit Go.Shelf
set_option maxRecDepth 20000
set_option maxHeartbeats 8000000
theorem zoneRepeats_calls {W:World} {x:Zn.Raw} {gv ov:Value} (hx:x.In) (hgv:U8V W gv x.a6v) (hov:U8V W ov x.a5z) {t0:Nat} (ht0:t0 < 4294967296) :
  Calls Tryz.prog 10 #[.agg #[.int .u8 (x.start:Nat),gv,ov,.int .u8 (x.behind:Nat),.int .u8 (x.y0:Nat),.int .u8 (x.y1:Nat),.int .u8 (x.y2:Nat),.int .u8 (x.y3:Nat),.int .u8 (x.y4:Nat),.int .u8 (x.y5:Nat),.int .u8 (x.y6:Nat),.int .u8 (x.y7:Nat),.int .u8 (x.cal:Nat),.bool x.rules],.int .u32 (t0:Nat)] W fun e w'=>e=.returned (.bool true)∧Below W.heap.size W w':=by
 have HO:OpenSpec:=a9r ad3
 have HGV:=Lib.hid hgv
 have HOV:=Lib.hid hov
 obtain ⟨ga,gc,rfl⟩ : ∃ a c,gv=.slice a x.a6v.length c:=by obtain ⟨a,c,h,_⟩:=hgv;exact ⟨a,c,h⟩
 obtain ⟨oa,oc,rfl⟩ : ∃ a c,ov=.slice a x.a5z.length c:=by obtain ⟨a,c,h,_⟩:=hov;exact ⟨a,c,h⟩
 clear hgv hov
 have hon:ones #[.int .u8 (x.start:Nat),.slice ga x.a6v.length gc,.slice oa x.a5z.length oc,.int .u8 (x.behind:Nat),.int .u8 (x.y0:Nat),.int .u8 (x.y1:Nat),.int .u8 (x.y2:Nat),.int .u8 (x.y3:Nat),.int .u8 (x.y4:Nat),.int .u8 (x.y5:Nat),.int .u8 (x.y6:Nat),.int .u8 (x.y7:Nat),.int .u8 (x.cal:Nat),.bool x.rules]=true:=by simp [ones,a0n,Value.oneCell']
 have wVB:Below W.heap.size W (W.alloc (.cells #[.int .u8 (x.start:Nat),.slice ga x.a6v.length gc,.slice oa x.a5z.length oc,.int .u8 (x.behind:Nat),.int .u8 (x.y0:Nat),.int .u8 (x.y1:Nat),.int .u8 (x.y2:Nat),.int .u8 (x.y3:Nat),.int .u8 (x.y4:Nat),.int .u8 (x.y5:Nat),.int .u8 (x.y6:Nat),.int .u8 (x.y7:Nat),.int .u8 (x.cal:Nat),.bool x.rules] 26)):=(Below.refl _ _).alloc (Nat.le_refl _) _
 have o0:=a05 (w:=W) (.cells #[.int .u8 (x.start:Nat),.slice ga x.a6v.length gc,.slice oa x.a5z.length oc,.int .u8 (x.behind:Nat),.int .u8 (x.y0:Nat),.int .u8 (x.y1:Nat),.int .u8 (x.y2:Nat),.int .u8 (x.y3:Nat),.int .u8 (x.y4:Nat),.int .u8 (x.y5:Nat),.int .u8 (x.y6:Nat),.int .u8 (x.y7:Nat),.int .u8 (x.cal:Nat),.bool x.rules] 26) W.heap.size rfl
 obtain ⟨z,hz⟩ : ∃ z,z=Zn.made x:=⟨_,rfl⟩
 have HZ:=Lib.hid hz
 have hgd:Zn.Good z:=hz ▸ Zn.adm hx
 have hlk:Zn.ane z:=hz ▸ Zn.akj x
 have HX:=Lib.hid hx
 clear hz hx
 go_enter Tryz.func10,Tryz.ntmps10
 repeat' ((go_not_at_region 1);(first|go_skip|go_guarded|go_step|go_upon))
 generalize (W.alloc (.cells #[.int .u8 (x.start:Nat),.slice ga x.a6v.length gc,.slice oa x.a5z.length oc,.int .u8 (x.behind:Nat),.int .u8 (x.y0:Nat),.int .u8 (x.y1:Nat),.int .u8 (x.y2:Nat),.int .u8 (x.y3:Nat),.int .u8 (x.y4:Nat),.int .u8 (x.y5:Nat),.int .u8 (x.y6:Nat),.int .u8 (x.y7:Nat),.int .u8 (x.cal:Nat),.bool x.rules] 26))=V at *
 repeat' ((go_not_at_region 2);(first | (go_at_call 15;((with_reducible refine ((ada _).mono ?_)));rintro e w2 ⟨rfl,hB'⟩;have hB2:=wVB.trans (hB'.mono wVB.size);have p0:=a0a o0 hB';dsimp only)|go_skip|go_guarded|go_step|go_upon))
 have HMD:=Lib.hid (aoh HZ.out HX.out (HGV.out.below hB2) (HOV.out.below hB2))
 repeat' ((go_not_at_region 3);(first | (go_at_call 16;((with_reducible refine ((HMD.out).mono ?_)));rintro e w3 ⟨⟨mv,rv,tv,yv,rfl,hzs⟩,hB'⟩;have hB3:=hB2.trans (hB'.mono hB2.size);have q0:=a0a p0 hB';have ar2:=a1b hzs.cal.mon.one hzs.cal.rul.one (a1m.one hzs.tr) (a1m.one hzs.yr) (a:=z.cal.a08) (b:=z.cal.a0l) (c:=z.start) (d:=z.hor);dsimp only)|go_skip|go_guarded|go_step|go_upon))
 have A1:=(Below.refl w3.heap.size w3).alloc (Nat.le_refl _) (.cells #[.int .i64 z.cal.a08,mv,.int .i64 z.cal.a0l,rv,.int .i64 z.start,tv,.int .i64 z.hor,yv] 35)
 have oz:obj (w3.alloc (.cells #[.int .i64 z.cal.a08,mv,.int .i64 z.cal.a0l,rv,.int .i64 z.start,tv,.int .i64 z.hor,yv] 35)) w3.heap.size=some (.cells #[.int .i64 z.cal.a08,mv,.int .i64 z.cal.a0l,rv,.int .i64 z.start,tv,.int .i64 z.hor,yv] 35 (0,0)):=a05 _ _ _ rfl
 have s0:=a0a q0 A1
 have hzv:=hzs.below A1
 have aoo:=hzv
 have hBV:=hB3.trans (A1.mono hB3.size)
 generalize hU:w3.alloc (.cells #[.int .i64 z.cal.a08,mv,.int .i64 z.cal.a0l,rv,.int .i64 z.start,tv,.int .i64 z.hor,yv] 35)=U at *
 generalize w3.heap.size=bz at *
 have HZV:=Lib.hid (fun (Wq:World) (hq:Below U.heap.size U Wq)=>hzv.below hq)
 have hb0:=Below.refl U.heap.size U
 clear HMD HGV HOV hon ar2 hzs hzv A1 hU hB3 hB2 wVB
 have hmk:Zn.arz z:=HZ.out ▸ Zn.made_k HX.out
 have hh0:=hmk.h0
 have hh1:=hmk.h1
 have hon:=a1b (aoo.cal.mon.one) (aoo.cal.rul.one) (a1m.one aoo.tr) (a1m.one aoo.yr) (a:=z.cal.a08) (b:=z.cal.a0l) (c:=z.start) (d:=z.hor)
 have ar4:=a6t (aoo.cal.mon.one) (aoo.cal.rul.one) (a:=z.cal.a08) (b:=z.cal.a0l)
 have zc6:=a02 oz 6
 clear aoo
 rcases hmk.days with hd | hd
 ·have HCY:=Lib.hid (fun (Wq:World) (hq:Below U.heap.size U Wq)=>show Calls Tryz.prog 36 #[.agg #[.int .i64 z.cal.a08,mv,.int .i64 z.cal.a0l,rv]] Wq fun e w'=>e=.returned (.tuple #[.int .i64 z.cal.a5b,.int .i64 13,.int .i64 0])∧Below Wq.heap.size Wq w' by have h9:=afd (HZV.out Wq hq).cal hgd.a.hd.cal;rw [hd] at h9;exact h9)
  obtain ⟨l,hl,hco⟩:=Zn.chg_ok hgd (f:=z.hor) (u:=z.hor+262080+60000) (by omega) (by omega) (by omega) (by omega)
  have HCH:=Lib.hid (fun (Wq:World) (hq:Below U.heap.size U Wq)=>chgs_l HO (HZV.out Wq hq) hgd hlk hl)
  have HCO:=Lib.hid hco
  have m1:IntKind.wrap .i64 (z.hor+262080)=z.hor+262080:=by rw [wrap_in]<;>omega
  have m2:IntKind.wrap .i64 (z.hor+262080+60000)=z.hor+262080+60000:=by rw [wrap_in]<;>omega
  have HD:=Lib.hid hd
  clear hl hco hd
  repeat' ((go_not_at_region 4);(first | (go_at_call 36;((with_reducible refine ((HCY.out _ hb0).mono ?_)));rintro e u1 ⟨rfl,hB'⟩;have hb1:=hb0.trans (hB'.mono hb0.size);have oz1:=a0a oz hb1;have zc6:=a02 (a0a oz (hb0.trans (hB'.mono hb0.size))) 6;dsimp only)|go_skip|go_guarded|go_step|go_upon))
  repeat' ((go_not_at_region 9);(first | (go_at_call 35;((with_reducible refine ((HCH.out _ hb1).mono ?_)));rintro e u2 ⟨⟨v2,rfl,hv2⟩,hB'⟩;have hb2:=hb1.trans (hB'.mono hb1.size);have oz2:=a0a oz hb2;dsimp only)|go_skip|go_guarded|go_step|go_upon))
  obtain ⟨la,lca,rfl,hcs⟩:=trs_cells hv2
  have HCS:=Lib.hid hcs
  clear hcs hv2 HCH HCY m1 m2 zc6
  by_cases hl0:l.length=0
  ·have e0:((l.length:Int) == 0)=true:=by rw [hl0];rfl
   repeat'(first|go_skip|go_guarded|go_step|go_upon)
   go_returns
   exact ⟨rfl,hBV.trans (hb2.mono hBV.size)⟩
  ·have e0:((l.length:Int) == 0)=false:=beq_eq_false_iff_ne.2 (by omega)
   have i1:(0:Int) < (l.length:Int):=by omega
   have i2 : ¬ (l.length:Int) < 1:=by omega
   obtain ⟨b1,o1,aql,T1,fr1,rfl,g1,h1⟩:=HCS.out (by omega)
   have k1:=(a02 g1 (o1+0 * 2)).trans (h1 0 (by omega)).1
   rw [show o1+0 * 2=o1 by omega] at k1
   clear h1
   obtain ⟨x0,hx0⟩ : ∃ x0,x0=l.getD 0 default:=⟨_,rfl⟩
   rw [← hx0] at k1
   have hI:Zn.IsT z x0∧z.hor≤x0.tm∧x0.tm < z.hor+262080+60000:=HCO.out.isT x0 (by rw [hx0,List.getD_eq_getElem?_getD,List.getElem?_eq_getElem (by omega:0 < l.length)];exact List.getElem_mem _)
   have hI2:=hI.2
   have m3:IntKind.wrap .i64 (x0.tm+(t0:Int) % 400000)=x0.tm+(t0:Int) % 400000:=by rw [wrap_in]<;>omega
   clear hx0
   repeat' ((go_not_at_region 12);(first|go_skip|go_guarded|go_step|go_upon))
   obtain ⟨n,hn⟩ : ∃ n,n=x0.tm+(t0:Int) % 400000:=⟨_,rfl⟩
   have hn0:x0.tm≤n∧n≤x0.tm+400000:=by omega
   rw [← hn]
   have HRP:Hid (Zn.a2u z (n+131040)=Zn.a2u z n):=Lib.hid (by have h9:=Zn.rep_law hgd hI.1 hI.2.1 HD.out (by decide) hn0.1;rw [show n+131040=n+13 * 7 * 1440 by omega];exact h9)
   have m4:IntKind.wrap .i64 (n+131040)=n+131040:=by rw [wrap_in]<;>omega
   have HO1:=Lib.hid (fun (Wq:World) (hq:Below U.heap.size U Wq)=>aqr HO (HZV.out Wq hq) hgd hlk (t:=n) (by omega))
   have HO2:=Lib.hid (fun (Wq:World) (hq:Below U.heap.size U Wq)=>show Calls Tryz.prog 18 #[.agg #[.int .i64 z.cal.a08,mv,.int .i64 z.cal.a0l,rv,.int .i64 z.start,tv,.int .i64 z.hor,yv],.int .i64 (n+131040)] Wq fun e w'=>e=.returned (.tuple #[.int .i64 (Zn.a2u z n),.int .i64 0])∧Below Wq.heap.size Wq w' by have h9:=aqr HO (HZV.out Wq hq) hgd hlk (t:=n+131040) (by omega);rw [HRP.out] at h9;exact h9)
   clear hn m3
   repeat' ((go_not_at_region 13);(first | (go_at_call 18;((with_reducible refine ((HO1.out _ hb2).mono ?_)));rintro e u3 ⟨rfl,hB'⟩;have hb3:=hb2.trans (hB'.mono hb2.size);have oz3:=a0a oz hb3;dsimp only)|go_skip|go_guarded|go_step|go_upon))
   repeat' ((go_not_at_region 14);(first | (go_at_call 18;((with_reducible refine ((HO2.out _ hb3).mono ?_)));rintro e u4 ⟨rfl,hB'⟩;have hb4:=hb3.trans (hB'.mono hb3.size);have oz4:=a0a oz hb4;dsimp only)|go_skip|go_guarded|go_step|go_upon))
   repeat'(first|go_skip|go_guarded|go_step|go_upon)
   go_returns
   exact ⟨rfl,hBV.trans (hb4.mono hBV.size)⟩
 ·have HCY:=Lib.hid (fun (Wq:World) (hq:Below U.heap.size U Wq)=>show Calls Tryz.prog 36 #[.agg #[.int .i64 z.cal.a08,mv,.int .i64 z.cal.a0l,rv]] Wq fun e w'=>e=.returned (.tuple #[.int .i64 z.cal.a5b,.int .i64 31,.int .i64 0])∧Below Wq.heap.size Wq w' by have h9:=afd (HZV.out Wq hq).cal hgd.a.hd.cal;rw [hd] at h9;exact h9)
  obtain ⟨l,hl,hco⟩:=Zn.chg_ok hgd (f:=z.hor) (u:=z.hor+624960+60000) (by omega) (by omega) (by omega) (by omega)
  have HCH:=Lib.hid (fun (Wq:World) (hq:Below U.heap.size U Wq)=>chgs_l HO (HZV.out Wq hq) hgd hlk hl)
  have HCO:=Lib.hid hco
  have m1:IntKind.wrap .i64 (z.hor+624960)=z.hor+624960:=by rw [wrap_in]<;>omega
  have m2:IntKind.wrap .i64 (z.hor+624960+60000)=z.hor+624960+60000:=by rw [wrap_in]<;>omega
  have HD:=Lib.hid hd
  clear hl hco hd
  repeat' ((go_not_at_region 4);(first | (go_at_call 36;((with_reducible refine ((HCY.out _ hb0).mono ?_)));rintro e u1 ⟨rfl,hB'⟩;have hb1:=hb0.trans (hB'.mono hb0.size);have oz1:=a0a oz hb1;have zc6:=a02 (a0a oz (hb0.trans (hB'.mono hb0.size))) 6;dsimp only)|go_skip|go_guarded|go_step|go_upon))
  repeat' ((go_not_at_region 9);(first | (go_at_call 35;((with_reducible refine ((HCH.out _ hb1).mono ?_)));rintro e u2 ⟨⟨v2,rfl,hv2⟩,hB'⟩;have hb2:=hb1.trans (hB'.mono hb1.size);have oz2:=a0a oz hb2;dsimp only)|go_skip|go_guarded|go_step|go_upon))
  obtain ⟨la,lca,rfl,hcs⟩:=trs_cells hv2
  have HCS:=Lib.hid hcs
  clear hcs hv2 HCH HCY m1 m2 zc6
  by_cases hl0:l.length=0
  ·have e0:((l.length:Int) == 0)=true:=by rw [hl0];rfl
   repeat'(first|go_skip|go_guarded|go_step|go_upon)
   go_returns
   exact ⟨rfl,hBV.trans (hb2.mono hBV.size)⟩
  ·have e0:((l.length:Int) == 0)=false:=beq_eq_false_iff_ne.2 (by omega)
   have i1:(0:Int) < (l.length:Int):=by omega
   have i2 : ¬ (l.length:Int) < 1:=by omega
   obtain ⟨b1,o1,aql,T1,fr1,rfl,g1,h1⟩:=HCS.out (by omega)
   have k1:=(a02 g1 (o1+0 * 2)).trans (h1 0 (by omega)).1
   rw [show o1+0 * 2=o1 by omega] at k1
   clear h1
   obtain ⟨x0,hx0⟩ : ∃ x0,x0=l.getD 0 default:=⟨_,rfl⟩
   rw [← hx0] at k1
   have hI:Zn.IsT z x0∧z.hor≤x0.tm∧x0.tm < z.hor+624960+60000:=HCO.out.isT x0 (by rw [hx0,List.getD_eq_getElem?_getD,List.getElem?_eq_getElem (by omega:0 < l.length)];exact List.getElem_mem _)
   have hI2:=hI.2
   have m3:IntKind.wrap .i64 (x0.tm+(t0:Int) % 400000)=x0.tm+(t0:Int) % 400000:=by rw [wrap_in]<;>omega
   clear hx0
   repeat' ((go_not_at_region 12);(first|go_skip|go_guarded|go_step|go_upon))
   obtain ⟨n,hn⟩ : ∃ n,n=x0.tm+(t0:Int) % 400000:=⟨_,rfl⟩
   have hn0:x0.tm≤n∧n≤x0.tm+400000:=by omega
   rw [← hn]
   have HRP:Hid (Zn.a2u z (n+312480)=Zn.a2u z n):=Lib.hid (by have h9:=Zn.rep_law hgd hI.1 hI.2.1 HD.out (by decide) hn0.1;rw [show n+312480=n+31 * 7 * 1440 by omega];exact h9)
   have m4:IntKind.wrap .i64 (n+312480)=n+312480:=by rw [wrap_in]<;>omega
   have HO1:=Lib.hid (fun (Wq:World) (hq:Below U.heap.size U Wq)=>aqr HO (HZV.out Wq hq) hgd hlk (t:=n) (by omega))
   have HO2:=Lib.hid (fun (Wq:World) (hq:Below U.heap.size U Wq)=>show Calls Tryz.prog 18 #[.agg #[.int .i64 z.cal.a08,mv,.int .i64 z.cal.a0l,rv,.int .i64 z.start,tv,.int .i64 z.hor,yv],.int .i64 (n+312480)] Wq fun e w'=>e=.returned (.tuple #[.int .i64 (Zn.a2u z n),.int .i64 0])∧Below Wq.heap.size Wq w' by have h9:=aqr HO (HZV.out Wq hq) hgd hlk (t:=n+312480) (by omega);rw [HRP.out] at h9;exact h9)
   clear hn m3
   repeat' ((go_not_at_region 13);(first | (go_at_call 18;((with_reducible refine ((HO1.out _ hb2).mono ?_)));rintro e u3 ⟨rfl,hB'⟩;have hb3:=hb2.trans (hB'.mono hb2.size);have oz3:=a0a oz hb3;dsimp only)|go_skip|go_guarded|go_step|go_upon))
   repeat' ((go_not_at_region 14);(first | (go_at_call 18;((with_reducible refine ((HO2.out _ hb3).mono ?_)));rintro e u4 ⟨rfl,hB'⟩;have hb4:=hb3.trans (hB'.mono hb3.size);have oz4:=a0a oz hb4;dsimp only)|go_skip|go_guarded|go_step|go_upon))
   repeat'(first|go_skip|go_guarded|go_step|go_upon)
   go_returns
   exact ⟨rfl,hBV.trans (hb4.mono hBV.size)⟩
end Go.Proofs.YtppjleebbjipbaaGreat
