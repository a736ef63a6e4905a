/-
  The law ZoneOrder.
-/
import Derived.Test.YtppjleebbjipbaaGreatPkZl
set_option linter.unusedSectionVars false
set_option linter.constructorNameAsVariable false
set_option linter.unusedVariables false
set_option linter.unusedSimpArgs false
namespace Go.Proofs.YtppjleebbjipbaaGreat
open Go.RowKit Go.Shelf
set_option maxRecDepth 20000
set_option maxHeartbeats 8000000
theorem a9s {W:World} {x:Zn.Raw} {gv ov:Value} (hx:x.In) (hgv:U8V W gv x.a6v) (hov:U8V W ov x.a5z) {t0 t1:Nat} (ht0:t0 < 4294967296) (ht1:t1 < 4294967296) (sec:Bool) :
  Calls Tryz.prog 8 #[.agg #[.int .u8 (x.start:Nat),gv,ov,.int .u8 (x.behind:Nat),.int .u8 (x.y0:Nat),.int .u8 (x.y1:Nat),.int .u8 (x.y2:Nat),.int .u8 (x.y3:Nat),.int .u8 (x.y4:Nat),.int .u8 (x.y5:Nat),.int .u8 (x.y6:Nat),.int .u8 (x.y7:Nat),.int .u8 (x.cal:Nat),.bool x.rules],.agg #[.int .u32 (t0:Nat),.int .u32 (t1:Nat)],.bool sec] W fun e w'=>e=.returned (.bool true)∧Below W.heap.size W w':=by
 have HO:OpenSpec:=a9r ad3
 have HGV:=Lib.hid hgv
 have HOV:=Lib.hid hov
 obtain ⟨ga,gc,rfl⟩ : ∃ a c,gv=.slice a x.a6v.length c:=by obtain ⟨a,c,h,_⟩:=hgv;exact ⟨a,c,h⟩
 obtain ⟨oa,oc,rfl⟩ : ∃ a c,ov=.slice a x.a5z.length c:=by obtain ⟨a,c,h,_⟩:=hov;exact ⟨a,c,h⟩
 clear hgv hov
 have hon:ones #[.int .u8 (x.start:Nat),.slice ga x.a6v.length gc,.slice oa x.a5z.length oc,.int .u8 (x.behind:Nat),.int .u8 (x.y0:Nat),.int .u8 (x.y1:Nat),.int .u8 (x.y2:Nat),.int .u8 (x.y3:Nat),.int .u8 (x.y4:Nat),.int .u8 (x.y5:Nat),.int .u8 (x.y6:Nat),.int .u8 (x.y7:Nat),.int .u8 (x.cal:Nat),.bool x.rules]=true:=by simp [ones,a0n,Value.oneCell']
 have wVB:Below W.heap.size W ((W.alloc (.cells #[.int .u8 (x.start:Nat),.slice ga x.a6v.length gc,.slice oa x.a5z.length oc,.int .u8 (x.behind:Nat),.int .u8 (x.y0:Nat),.int .u8 (x.y1:Nat),.int .u8 (x.y2:Nat),.int .u8 (x.y3:Nat),.int .u8 (x.y4:Nat),.int .u8 (x.y5:Nat),.int .u8 (x.y6:Nat),.int .u8 (x.y7:Nat),.int .u8 (x.cal:Nat),.bool x.rules] 26)).alloc (.cells #[.int .u32 (t0:Nat),.int .u32 (t1:Nat)] 58)):=((Below.refl _ _).alloc (Nat.le_refl _) _).alloc (by simp;try omega) _
 have o0:obj ((W.alloc (.cells #[.int .u8 (x.start:Nat),.slice ga x.a6v.length gc,.slice oa x.a5z.length oc,.int .u8 (x.behind:Nat),.int .u8 (x.y0:Nat),.int .u8 (x.y1:Nat),.int .u8 (x.y2:Nat),.int .u8 (x.y3:Nat),.int .u8 (x.y4:Nat),.int .u8 (x.y5:Nat),.int .u8 (x.y6:Nat),.int .u8 (x.y7:Nat),.int .u8 (x.cal:Nat),.bool x.rules] 26)).alloc (.cells #[.int .u32 (t0:Nat),.int .u32 (t1:Nat)] 58)) W.heap.size=some (.cells #[.int .u8 (x.start:Nat),.slice ga x.a6v.length gc,.slice oa x.a5z.length oc,.int .u8 (x.behind:Nat),.int .u8 (x.y0:Nat),.int .u8 (x.y1:Nat),.int .u8 (x.y2:Nat),.int .u8 (x.y3:Nat),.int .u8 (x.y4:Nat),.int .u8 (x.y5:Nat),.int .u8 (x.y6:Nat),.int .u8 (x.y7:Nat),.int .u8 (x.cal:Nat),.bool x.rules] 26 (0,0)):=(a06 (a05 _ _ _ rfl) _)
 have o1:obj ((W.alloc (.cells #[.int .u8 (x.start:Nat),.slice ga x.a6v.length gc,.slice oa x.a5z.length oc,.int .u8 (x.behind:Nat),.int .u8 (x.y0:Nat),.int .u8 (x.y1:Nat),.int .u8 (x.y2:Nat),.int .u8 (x.y3:Nat),.int .u8 (x.y4:Nat),.int .u8 (x.y5:Nat),.int .u8 (x.y6:Nat),.int .u8 (x.y7:Nat),.int .u8 (x.cal:Nat),.bool x.rules] 26)).alloc (.cells #[.int .u32 (t0:Nat),.int .u32 (t1:Nat)] 58)) (W.heap.size+1)=some (.cells #[.int .u32 (t0:Nat),.int .u32 (t1:Nat)] 58 (0,0)):=(a05 _ _ _ (by simp))
 obtain ⟨z,hz⟩ : ∃ z,z=Zn.made x:=⟨_,rfl⟩
 have HZ:=Lib.hid hz
 have hgd:Zn.Good z:=hz ▸ Zn.adm hx
 have hlk:Zn.ane z:=hz ▸ Zn.akj x
 have HX:=Lib.hid hx
 clear hz hx
 go_enter Tryz.func8,Tryz.ntmps8
 repeat' ((go_not_at_region 1);(first|go_skip|go_guarded|go_step|go_upon))
 generalize hV:((W.alloc (.cells #[.int .u8 (x.start:Nat),.slice ga x.a6v.length gc,.slice oa x.a5z.length oc,.int .u8 (x.behind:Nat),.int .u8 (x.y0:Nat),.int .u8 (x.y1:Nat),.int .u8 (x.y2:Nat),.int .u8 (x.y3:Nat),.int .u8 (x.y4:Nat),.int .u8 (x.y5:Nat),.int .u8 (x.y6:Nat),.int .u8 (x.y7:Nat),.int .u8 (x.cal:Nat),.bool x.rules] 26)).alloc (.cells #[.int .u32 (t0:Nat),.int .u32 (t1:Nat)] 58))=V at *
 clear hV
 repeat' ((go_not_at_region 2);(first | (go_at_call 15;((with_reducible refine ((ada _).mono ?_)));rintro e w2 ⟨rfl,hB'⟩;have hB2:=wVB.trans (hB'.mono wVB.size);have p0:=a0a o0 hB';have p1:=a0a o1 hB';dsimp only)|go_skip|go_guarded|go_step|go_upon))
 have HMD:=Lib.hid (aoh HZ.out HX.out (HGV.out.below hB2) (HOV.out.below hB2))
 repeat' ((go_not_at_region 3);(first | (go_at_call 16;((with_reducible refine ((HMD.out).mono ?_)));rintro e w3 ⟨⟨mv,rv,tv,yv,rfl,hzs⟩,hB'⟩;have hB3:=hB2.trans (hB'.mono hB2.size);have q0:=a0a p0 hB';have q1:=a0a p1 hB';have ar2:=a1b hzs.cal.mon.one hzs.cal.rul.one (a1m.one hzs.tr) (a1m.one hzs.yr) (a:=z.cal.a08) (b:=z.cal.a0l) (c:=z.start) (d:=z.hor);dsimp only)|go_skip|go_guarded|go_step|go_upon))
 have A1:=(Below.refl w3.heap.size w3).alloc (Nat.le_refl _) (.cells #[.int .i64 z.cal.a08,mv,.int .i64 z.cal.a0l,rv,.int .i64 z.start,tv,.int .i64 z.hor,yv] 35)
 have oz:obj (w3.alloc (.cells #[.int .i64 z.cal.a08,mv,.int .i64 z.cal.a0l,rv,.int .i64 z.start,tv,.int .i64 z.hor,yv] 35)) w3.heap.size=some (.cells #[.int .i64 z.cal.a08,mv,.int .i64 z.cal.a0l,rv,.int .i64 z.start,tv,.int .i64 z.hor,yv] 35 (0,0)):=a05 _ _ _ rfl
 have s0:=a0a q0 A1
 have s1:=a0a q1 A1
 have hzv:=hzs.below A1
 have aoo:=hzv
 have hBV:=hB3.trans (A1.mono hB3.size)
 generalize hU:w3.alloc (.cells #[.int .i64 z.cal.a08,mv,.int .i64 z.cal.a0l,rv,.int .i64 z.start,tv,.int .i64 z.hor,yv] 35)=U at *
 generalize w3.heap.size=bz at *
 have HZV:=Lib.hid (fun (Wq:World) (hq:Below U.heap.size U Wq)=>hzv.below hq)
 have hb0:=Below.refl U.heap.size U
 clear HMD HGV HOV hon ar2 hzs hzv A1 hU hB3 hB2 wVB
 have c1:=a02 s1 0
 have c2:=a02 s1 1
 have m1:IntKind.wrap .i64 ((t0:Int) % 300000+(t1:Int) % 5000)=(t0:Int) % 300000+(t1:Int) % 5000:=by rw [wrap_in]<;>omega
 repeat' ((go_not_at_region 5);(first|go_skip|go_guarded|go_step|go_upon))
 obtain ⟨a,ha⟩ : ∃ a,a=(t0:Int) % 300000:=⟨_,rfl⟩
 obtain ⟨b,hb⟩ : ∃ b,b=a+(t1:Int) % 5000:=⟨_,rfl⟩
 have hab:a≤b:=by omega
 have a0:0≤a∧b < 400000:=by omega
 rw [← ha,← hb]
 clear m1 ha hb ht0 ht1
 have HI1:=Lib.hid (fun (Wq:World) (hq:Below U.heap.size U Wq) (fold:Int) (hf:fold=if sec=true then 1 else 0)=>afz HO (HZV.out Wq hq) hgd hlk (loc:=a) (by omega) sec hf)
 have HI2:=Lib.hid (fun (Wq:World) (hq:Below U.heap.size U Wq) (fold:Int) (hf:fold=if sec=true then 1 else 0)=>afz HO (HZV.out Wq hq) hgd hlk (loc:=b) (by omega) sec hf)
 have hon:=a1b (aoo.cal.mon.one) (aoo.cal.rul.one) (a1m.one aoo.tr) (a1m.one aoo.yr) (a:=z.cal.a08) (b:=z.cal.a0l) (c:=z.start) (d:=z.hor)
 clear aoo
 obtain ⟨fold,hf⟩ : ∃ fold:Int,fold=if sec=true then 1 else 0:=⟨_,rfl⟩
 have hmono:=Zn.akf hgd hab sec
 cases sec
 ·repeat' ((go_not_at_region 8);(first|go_skip|go_guarded|go_step|go_upon))
  repeat' ((go_not_at_region 9);(first | (go_at_call 24;((with_reducible refine ((HI1.out _ hb0 0 rfl).mono ?_)));rintro e u4 ⟨⟨v4,rfl,hv4⟩,hB'⟩;have hb4:=hb0.trans (hB'.mono hb0.size);have oz4:=a0a oz hb4;dsimp only)|go_skip|go_guarded|go_step|go_upon))
  repeat' ((go_not_at_region 10);(first | (go_at_call 24;((with_reducible refine ((HI2.out _ hb4 0 rfl).mono ?_)));rintro e u5 ⟨⟨v5,rfl,hv5⟩,hB'⟩;have hb5:=hb4.trans (hB'.mono hb4.size);have oz5:=a0a oz hb5;have hv4:=a2c.below hv4 hB';dsimp only)|go_skip|go_guarded|go_step|go_upon))
  obtain ⟨b1,o1,c1',rfl,k1⟩:=a7x hv4
  obtain ⟨b2,o2,c2',rfl,k2⟩:=a7x hv5
  have hle:=decide_eq_true hmono
  clear hmono
  repeat'(first|go_skip|go_guarded|go_step|go_upon)
  go_quiet (fail)
  have hbq:=below_drewN hb5 nq
  clear k1 k2 oz4 oz5 oz
  generalize u5.drewN nq=w9 at *
  repeat'(first|go_skip|go_guarded|go_step|go_upon)
  go_returns
  exact ⟨rfl,hBV.trans (hbq.mono hBV.size)⟩
 ·repeat' ((go_not_at_region 8);(first|go_skip|go_guarded|go_step|go_upon))
  repeat' ((go_not_at_region 9);(first | (go_at_call 24;((with_reducible refine ((HI1.out _ hb0 1 rfl).mono ?_)));rintro e u4 ⟨⟨v4,rfl,hv4⟩,hB'⟩;have hb4:=hb0.trans (hB'.mono hb0.size);have oz4:=a0a oz hb4;dsimp only)|go_skip|go_guarded|go_step|go_upon))
  repeat' ((go_not_at_region 10);(first | (go_at_call 24;((with_reducible refine ((HI2.out _ hb4 1 rfl).mono ?_)));rintro e u5 ⟨⟨v5,rfl,hv5⟩,hB'⟩;have hb5:=hb4.trans (hB'.mono hb4.size);have oz5:=a0a oz hb5;have hv4:=a2c.below hv4 hB';dsimp only)|go_skip|go_guarded|go_step|go_upon))
  obtain ⟨b1,o1,c1',rfl,k1⟩:=a7x hv4
  obtain ⟨b2,o2,c2',rfl,k2⟩:=a7x hv5
  have hle:=decide_eq_true hmono
  clear hmono
  repeat'(first|go_skip|go_guarded|go_step|go_upon)
  go_quiet (fail)
  have hbq:=below_drewN hb5 nq
  clear k1 k2 oz4 oz5 oz
  generalize u5.drewN nq=w9 at *
  repeat'(first|go_skip|go_guarded|go_step|go_upon)
  go_returns
  exact ⟨rfl,hBV.trans (hbq.mono hBV.size)⟩
end Go.Proofs.YtppjleebbjipbaaGreat
