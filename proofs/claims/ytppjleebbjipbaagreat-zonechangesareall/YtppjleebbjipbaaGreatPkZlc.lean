/-
  The law ZoneChangesAreAll.
-/
import Derived.Test.YtppjleebbjipbaaGreatPkZlxc
set_option linter.unusedSimpArgs false
namespace Go.Proofs.YtppjleebbjipbaaGreat
open Go.RowKit Go.Shelf
set_option maxRecDepth 20000
set_option maxHeartbeats 8000000
theorem zoneChangesAreAll_calls {W:World} {x:Zn.Raw} {gv ov:Value} (hx:x.In) (hgv:U8V W gv x.a6v) (hov:U8V W ov x.a5z) {t0 t1:Nat} (ht0:t0 < 4294967296) (ht1:t1 < 4294967296) :
  Calls Tryz.prog 9 #[.agg #[.int .u8 (x.start:Nat),gv,ov,.int .u8 (x.behind:Nat),.int .u8 (x.y0:Nat),.int .u8 (x.y1:Nat),.int .u8 (x.y2:Nat),.int .u8 (x.y3:Nat),.int .u8 (x.y4:Nat),.int .u8 (x.y5:Nat),.int .u8 (x.y6:Nat),.int .u8 (x.y7:Nat),.int .u8 (x.cal:Nat),.bool x.rules],.agg #[.int .u32 (t0:Nat),.int .u32 (t1:Nat)]] W fun e w'=>e=.returned (.bool true)∧Below W.heap.size W w':=by
 have HO:OpenSpec:=a9r ad3
 have HGV:=Lib.hid hgv
 have HOV:=Lib.hid hov
 obtain ⟨ga,gc,rfl⟩ : ∃ a c,gv=.slice a x.a6v.length c:=by obtain ⟨a,c,h,_⟩:=hgv;exact ⟨a,c,h⟩
 obtain ⟨oa,oc,rfl⟩ : ∃ a c,ov=.slice a x.a5z.length c:=by obtain ⟨a,c,h,_⟩:=hov;exact ⟨a,c,h⟩
 clear hgv hov
 have hon:ones #[.int .u8 (x.start:Nat),.slice ga x.a6v.length gc,.slice oa x.a5z.length oc,.int .u8 (x.behind:Nat),.int .u8 (x.y0:Nat),.int .u8 (x.y1:Nat),.int .u8 (x.y2:Nat),.int .u8 (x.y3:Nat),.int .u8 (x.y4:Nat),.int .u8 (x.y5:Nat),.int .u8 (x.y6:Nat),.int .u8 (x.y7:Nat),.int .u8 (x.cal:Nat),.bool x.rules]=true:=by simp [ones,a0n,Value.oneCell']
 have wVB:Below W.heap.size W ((W.alloc (.cells #[.int .u8 (x.start:Nat),.slice ga x.a6v.length gc,.slice oa x.a5z.length oc,.int .u8 (x.behind:Nat),.int .u8 (x.y0:Nat),.int .u8 (x.y1:Nat),.int .u8 (x.y2:Nat),.int .u8 (x.y3:Nat),.int .u8 (x.y4:Nat),.int .u8 (x.y5:Nat),.int .u8 (x.y6:Nat),.int .u8 (x.y7:Nat),.int .u8 (x.cal:Nat),.bool x.rules] 26)).alloc (.cells #[.int .u32 (t0:Nat),.int .u32 (t1:Nat)] 58)):=((Below.refl _ _).alloc (Nat.le_refl _) _).alloc (by simp;try omega) _
 have o0:obj ((W.alloc (.cells #[.int .u8 (x.start:Nat),.slice ga x.a6v.length gc,.slice oa x.a5z.length oc,.int .u8 (x.behind:Nat),.int .u8 (x.y0:Nat),.int .u8 (x.y1:Nat),.int .u8 (x.y2:Nat),.int .u8 (x.y3:Nat),.int .u8 (x.y4:Nat),.int .u8 (x.y5:Nat),.int .u8 (x.y6:Nat),.int .u8 (x.y7:Nat),.int .u8 (x.cal:Nat),.bool x.rules] 26)).alloc (.cells #[.int .u32 (t0:Nat),.int .u32 (t1:Nat)] 58)) W.heap.size=some (.cells #[.int .u8 (x.start:Nat),.slice ga x.a6v.length gc,.slice oa x.a5z.length oc,.int .u8 (x.behind:Nat),.int .u8 (x.y0:Nat),.int .u8 (x.y1:Nat),.int .u8 (x.y2:Nat),.int .u8 (x.y3:Nat),.int .u8 (x.y4:Nat),.int .u8 (x.y5:Nat),.int .u8 (x.y6:Nat),.int .u8 (x.y7:Nat),.int .u8 (x.cal:Nat),.bool x.rules] 26 (0,0)):=(a06 (a05 _ _ _ rfl) _)
 have o1:obj ((W.alloc (.cells #[.int .u8 (x.start:Nat),.slice ga x.a6v.length gc,.slice oa x.a5z.length oc,.int .u8 (x.behind:Nat),.int .u8 (x.y0:Nat),.int .u8 (x.y1:Nat),.int .u8 (x.y2:Nat),.int .u8 (x.y3:Nat),.int .u8 (x.y4:Nat),.int .u8 (x.y5:Nat),.int .u8 (x.y6:Nat),.int .u8 (x.y7:Nat),.int .u8 (x.cal:Nat),.bool x.rules] 26)).alloc (.cells #[.int .u32 (t0:Nat),.int .u32 (t1:Nat)] 58)) (W.heap.size+1)=some (.cells #[.int .u32 (t0:Nat),.int .u32 (t1:Nat)] 58 (0,0)):=(a05 _ _ _ (by simp))
 obtain ⟨z,hz⟩ : ∃ z,z=Zn.made x:=⟨_,rfl⟩
 have HZ:=Lib.hid hz
 have hgd:Zn.Good z:=hz ▸ Zn.adm hx
 have hlk:Zn.ane z:=hz ▸ Zn.akj x
 have HX:=Lib.hid hx
 clear hz hx
 go_enter Tryz.func9,Tryz.ntmps9
 repeat' ((go_not_at_region 1);(first|go_skip|go_guarded|go_step|go_upon))
 generalize ((W.alloc (.cells #[.int .u8 (x.start:Nat),.slice ga x.a6v.length gc,.slice oa x.a5z.length oc,.int .u8 (x.behind:Nat),.int .u8 (x.y0:Nat),.int .u8 (x.y1:Nat),.int .u8 (x.y2:Nat),.int .u8 (x.y3:Nat),.int .u8 (x.y4:Nat),.int .u8 (x.y5:Nat),.int .u8 (x.y6:Nat),.int .u8 (x.y7:Nat),.int .u8 (x.cal:Nat),.bool x.rules] 26)).alloc (.cells #[.int .u32 (t0:Nat),.int .u32 (t1:Nat)] 58))=V at *
 repeat' ((go_not_at_region 2);(first | (go_at_call 15;((with_reducible refine ((ada _).mono ?_)));rintro e w2 ⟨rfl,hB'⟩;have hB2:=wVB.trans (hB'.mono wVB.size);have p0:=a0a o0 hB';have p1:=a0a o1 hB';dsimp only)|go_skip|go_guarded|go_step|go_upon))
 have HMD:=Lib.hid (aoh HZ.out HX.out (HGV.out.below hB2) (HOV.out.below hB2))
 repeat' ((go_not_at_region 3);(first | (go_at_call 16;((with_reducible refine ((HMD.out).mono ?_)));rintro e w3 ⟨⟨mv,rv,tv,yv,rfl,hzs⟩,hB'⟩;have hB3:=hB2.trans (hB'.mono hB2.size);have q0:=a0a p0 hB';have q1:=a0a p1 hB';have ar2:=a1b hzs.cal.mon.one hzs.cal.rul.one (a1m.one hzs.tr) (a1m.one hzs.yr) (a:=z.cal.a08) (b:=z.cal.a0l) (c:=z.start) (d:=z.hor);dsimp only)|go_skip|go_guarded|go_step|go_upon))
 have A1:=(Below.refl w3.heap.size w3).alloc (Nat.le_refl _) (.cells #[.int .i64 z.cal.a08,mv,.int .i64 z.cal.a0l,rv,.int .i64 z.start,tv,.int .i64 z.hor,yv] 35)
 have oz:obj (w3.alloc (.cells #[.int .i64 z.cal.a08,mv,.int .i64 z.cal.a0l,rv,.int .i64 z.start,tv,.int .i64 z.hor,yv] 35)) w3.heap.size=some (.cells #[.int .i64 z.cal.a08,mv,.int .i64 z.cal.a0l,rv,.int .i64 z.start,tv,.int .i64 z.hor,yv] 35 (0,0)):=a05 _ _ _ rfl
 have s0:=a0a q0 A1
 have s1:=a0a q1 A1
 have hzv:=hzs.below A1
 have aoo:=hzv
 have hBV:=hB3.trans (A1.mono hB3.size)
 generalize hU:w3.alloc (.cells #[.int .i64 z.cal.a08,mv,.int .i64 z.cal.a0l,rv,.int .i64 z.start,tv,.int .i64 z.hor,yv] 35)=U at *
 generalize w3.heap.size=bz at *
 have HZV:=Lib.hid (fun (Wq:World) (hq:Below U.heap.size U Wq)=>hzv.below hq)
 have hb0:=Below.refl U.heap.size U
 clear HMD HGV HOV hon ar2 hzs hzv A1 hU hB3 hB2 wVB
 have hmk:Zn.arz z:=HZ.out ▸ Zn.made_k HX.out
 have c1:=a02 s1 0
 have c2:=a02 s1 1
 have m0:IntKind.wrap .i64 ((t0:Int) % 300000 - 3000)=(t0:Int) % 300000 - 3000:=by rw [wrap_in]<;>omega
 have m1:IntKind.wrap .i64 ((t0:Int) % 300000 - 3000+(t1:Int) % 60000)=(t0:Int) % 300000 - 3000+(t1:Int) % 60000:=by rw [wrap_in]<;>omega
 repeat' ((go_not_at_region 5);(first|go_skip|go_guarded|go_step|go_upon))
 obtain ⟨f,hf⟩ : ∃ f,f=(t0:Int) % 300000 - 3000:=⟨_,rfl⟩
 obtain ⟨t,ht⟩ : ∃ t,t=f+(t1:Int) % 60000:=⟨_,rfl⟩
 have hft:f≤t:=by omega
 have hfb : -3000≤f∧t≤400000∧t≤f+60000:=by omega
 rw [← hf,← ht]
 clear m0 m1 hf ht ht0 ht1 c1 c2
 have m2:IntKind.wrap .i64 (f+1)=f+1:=by rw [wrap_in]<;>omega
 have m3:IntKind.wrap .i64 (t+1)=t+1:=by rw [wrap_in]<;>omega
 obtain ⟨l,hl,hco⟩:=Zn.chg_ok hgd (f:=f+1) (u:=t+1) (by omega) (by omega) (by omega) (by omega)
 have HCH:=Lib.hid (fun (Wq:World) (hq:Below U.heap.size U Wq)=>chgs_l HO (HZV.out Wq hq) hgd hlk hl)
 obtain ⟨w0,hw0⟩ : ∃ w0,w0=Zn.a2u z f:=⟨_,rfl⟩
 obtain ⟨wt,hwt⟩ : ∃ wt,wt=Zn.a2u z t:=⟨_,rfl⟩
 have HO1:=Lib.hid (fun (Wq:World) (hq:Below U.heap.size U Wq)=>show Calls Tryz.prog 18 #[.agg #[.int .i64 z.cal.a08,mv,.int .i64 z.cal.a0l,rv,.int .i64 z.start,tv,.int .i64 z.hor,yv],.int .i64 f] Wq fun e w'=>e=.returned (.tuple #[.int .i64 w0,.int .i64 0])∧Below Wq.heap.size Wq w' by rw [hw0];exact aqr HO (HZV.out Wq hq) hgd hlk (t:=f) (by omega))
 have HO2:=Lib.hid (fun (Wq:World) (hq:Below U.heap.size U Wq)=>show Calls Tryz.prog 18 #[.agg #[.int .i64 z.cal.a08,mv,.int .i64 z.cal.a0l,rv,.int .i64 z.start,tv,.int .i64 z.hor,yv],.int .i64 t] Wq fun e w'=>e=.returned (.tuple #[.int .i64 wt,.int .i64 0])∧Below Wq.heap.size Wq w' by rw [hwt];exact aqr HO (HZV.out Wq hq) hgd hlk (t:=t) (by omega))
 have HW0:Hid (Zn.wantK z f l 0=w0):=Lib.hid hw0.symm
 have HWT:Hid (Zn.wantK z f l l.length=wt):=Lib.hid (by rw [hwt];exact Zn.chg_last hgd hft hco)
 have hll:l.length≤100:=by have:=hco.len;omega
 have HCO:=Lib.hid hco
 have hon:=a1b (aoo.cal.mon.one) (aoo.cal.rul.one) (a1m.one aoo.tr) (a1m.one aoo.yr) (a:=z.cal.a08) (b:=z.cal.a0l) (c:=z.start) (d:=z.hor)
 clear aoo hl hco hw0 hwt
 repeat' ((go_not_at_region 6);(first | (go_at_call 35;((with_reducible refine ((HCH.out _ hb0).mono ?_)));rintro e u1 ⟨⟨v1,rfl,hv1⟩,hB'⟩;have hb1:=hb0.trans (hB'.mono hb0.size);have oz1:=a0a oz hb1;dsimp only)|go_skip|go_guarded|go_step|go_upon))
 repeat' ((go_not_at_region 7);(first | (go_at_call 18;((with_reducible refine ((HO1.out _ hb1).mono ?_)));rintro e u2 ⟨rfl,hB'⟩;have hb2:=hb1.trans (hB'.mono hb1.size);have oz2:=a0a oz hb2;have hv1:a2b u2 v1 l:=a1m.below hv1 hB';dsimp only)|go_skip|go_guarded|go_step|go_upon))
 repeat' ((go_not_at_region 8);(first | (go_at_call 18;((with_reducible refine ((HO2.out _ hb2).mono ?_)));rintro e u3 ⟨rfl,hB'⟩;have hb3:=hb2.trans (hB'.mono hb2.size);have oz3:=a0a oz hb3;have hv1:a2b u3 v1 l:=a1m.below hv1 hB';dsimp only)|go_skip|go_guarded|go_step|go_upon))
 have HL:=Lib.hid hv1
 obtain ⟨la,lca,rfl,_⟩:=trs_cells hv1
 clear hv1 HCH HO1 HO2 m2 m3
 repeat'(first|go_skip|go_guarded|go_step|go_upon)
 go_loopw [11,15] (fun o i wr => ∃ k:Nat,k≤l.length∧i=.int .i64 k∧o=.int .i64 (Zn.wantK z f l k)∧Below u3.heap.size u3 wr) (fun _ i _=>((l.length:Int) - intOf i).toNat)
 case atStart=>exact ⟨0,by omega,rfl,by rw [HW0.out],Below.refl _ _⟩
 case round =>
  obtain ⟨k,hk,rfl,rfl,hC⟩:=hrel
  have ozr:=a0a oz3 hC
  have hCU:=hb3.trans (hC.mono hb3.size)
  by_cases hki:k < l.length
  ·have i1:(k:Int) < (l.length:Int):=by omega
   have i3 : ¬ (k:Int) < 0:=by omega
   obtain ⟨x,hx⟩ : ∃ x,x=l.getD k default:=⟨_,rfl⟩
   have hxx:=HCO.out.isT _ (Zn.chg_mem hki)
   rw [← hx] at hxx
   obtain ⟨b1,o1,aql,T1,fr1,rfl,g1,hall⟩ : ∃ bq oq row T fr,la=some ⟨bq,oq,none⟩∧obj wr bq=some (.cells row T fr)∧∀ i,i < l.length→row[oq+i * 2]? = some (.int .i64 (l.getD i default).tm)∧row[oq+i * 2+1]? = some (.int .i64 (l.getD i default).off):=by
    obtain ⟨ao',c',h1,h2⟩:=trs_cells (a1m.below HL.out hC)
    obtain ⟨b',o',row',T',fr',g1,g2,g3⟩:=h2 (by omega)
    injection h1 with ha hb hc
    exact ⟨b',o',row',T',fr',by rw [ha,g1],g2,g3⟩
   have hk1:=hall k hki
   rw [← hx] at hk1
   have c1:=(a02 g1 (o1+k * 2)).trans hk1.1
   have c2:=(a02 g1 (o1+k * 2+1)).trans hk1.2
   have HLC:=Lib.hid (fun (Wq:World) (hq:Below wr.heap.size wr Wq)=>show Calls Tryz.prog 18 #[.agg #[.int .i64 z.cal.a08,mv,.int .i64 z.cal.a0l,rv,.int .i64 z.start,tv,.int .i64 z.hor,yv],.int .i64 x.tm] Wq fun e w'=>e=.returned (.tuple #[.int .i64 x.off,.int .i64 0])∧Below Wq.heap.size Wq w' by have h9:=aqr HO (HZV.out Wq (hCU.trans (hq.mono hCU.size))) hgd hlk (t:=x.tm) (by omega);rw [Zn.a4b (Zn.a8a hgd hxx.1)] at h9;exact h9)
   have HWK:Hid (Zn.wantK z f l (k+1)=x.off):=Lib.hid (by rw [hx];rfl)
   have HAP:Hid (0 < k→(l.getD (k - 1) default).tm+2160≤x.tm):=Lib.hid fun h0=>by rw [hx];exact HCO.out.apart (k - 1) k (by omega) hki
   have HB9:Hid (0 < k→∃ y:Zn.Tr,aql[o1+(k - 1) * 2]? = some (.int .i64 y.tm)∧y.tm+2160≤x.tm∧f+1≤y.tm):=Lib.hid fun h0=>⟨l.getD (k - 1) default,(hall (k - 1) (by omega)).1,HAP.out h0,(HCO.out.isT _ (Zn.chg_mem (by omega))).2.1⟩
   have hx1:=hxx.2.1
   have hx2:=hxx.2.2
   have j1 : ¬ x.tm≤f:=by omega
   have j2 : ¬ t < x.tm:=by omega
   have HK1:=Lib.hid hk1
   clear hall hk1 hx
   repeat' ((go_not_at_region 14);(first | (refine wp_region_below (by kernel_rfl) (by kernel_rfl) ?_;(repeat (refine wpQuiet_step (fun K hK=>?_);go_simp;first | (refine hK _ ?_;clear hK K) | (apply Exists.intro;refine ⟨fun W hW=>?_,hK _ ?_⟩;(focus ((first | (with_reducible exact rfl) | ((have m0:=a0a ozr hW;have m1:=a0a g1 hW;have d1:=(a02 m1 (o1+k * 2)).trans ((a02 g1 (o1+k * 2)).symm.trans c1));(try go_simp);first | done | (with_reducible exact rfl) | (with_reducible exact ⟨rfl,rfl⟩) | (exact calls_below hW (HLC.out W hW))));done));clear hK K)));refine wpQuiet_nil ?_;intro W2 hW2)|go_skip|go_guarded|go_step|go_upon))
   clear c1 c2
   have hk1:=HK1.out
   have g2:=a0a g1 hW2
   have d1:=(a02 g2 (o1+k * 2)).trans hk1.1
   have d2:=(a02 g2 (o1+k * 2+1)).trans hk1.2
   have hD:=hC.trans (hW2.mono hC.size)
   rcases Nat.eq_zero_or_pos k with h0 | h0
   ·have j3 : ¬ (0:Int) < (k:Int):=by omega
    have j3b : ¬ 0 < k:=by omega
    have j3a:=decide_eq_false j3
    have j3c:=decide_eq_false j3b
    clear h0
    repeat'(first|go_skip|go_guarded|go_step|go_upon)
    go_quiet (fail)
    have hE:=below_drewN hD nq
    have g9:=a0a g1 (below_drewN hW2 nq)
    have d9:=(a02 g9 (o1+k * 2+1)).trans hk1.2
    clear d1 d2 g2
    generalize W2.drewN nq=w9 at *
    repeat'(first|go_skip|go_guarded|go_step|go_upon)
    exact ⟨⟨k+1,by omega,by go_num,by rw [HWK.out],hE⟩,by simp [intOf];omega⟩
   ·have j3:(0:Int) < (k:Int):=by omega
    have j3b:0 < k:=h0
    have j3a:=decide_eq_true j3
    have j3c:=decide_eq_true j3b
    obtain ⟨y,hy1,hy2,hy3⟩:=HB9.out h0
    have d3:=(a02 g2 (o1+(k - 1) * 2)).trans hy1
    have m8:IntKind.wrap .i64 ((k:Int) - 1)=((k - 1:Nat):Int):=by rw [wrap_in]<;>omega
    have m9:IntKind.wrap .i64 (x.tm - y.tm)=x.tm - y.tm:=by rw [wrap_in]<;>omega
    have j4 : ¬ x.tm - y.tm < 2160:=by omega
    have j5:((k - 1:Nat):Int) < (l.length:Int):=by omega
    have j6 : ¬ ((k - 1:Nat):Int) < 0:=by omega
    clear h0
    repeat'(first|go_skip|go_guarded|go_step|go_upon)
    go_quiet (fail)
    have hE:=below_drewN hD nq
    have g9:=a0a g1 (below_drewN hW2 nq)
    have d9:=(a02 g9 (o1+k * 2+1)).trans hk1.2
    clear d1 d2 g2
    generalize W2.drewN nq=w9 at *
    repeat'(first|go_skip|go_guarded|go_step|go_upon)
    exact ⟨⟨k+1,by omega,by go_num,by rw [HWK.out],hE⟩,by simp [intOf];omega⟩
  ·have i1 : ¬ (k:Int) < (l.length:Int):=by omega
   obtain rfl:k=l.length:=by omega
   have e9:=HWT.out
   rw [e9]
   repeat'(first|go_skip|go_guarded|go_step|go_upon)
   go_returns
   exact ⟨rfl,hBV.trans (hCU.mono hBV.size)⟩
end Go.Proofs.YtppjleebbjipbaaGreat
