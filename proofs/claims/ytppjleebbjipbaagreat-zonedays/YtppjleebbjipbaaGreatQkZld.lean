/-
  The law ZoneDays.
-/
import Derived.Test.YtppjleebbjipbaaGreatQkZl
import Derived.Test.YtppjleebbjipbaaGreatQkZvd
set_option linter.all false
namespace Zn
theorem cntH_le (l:List (Int×Per)) (d:Int):∀ k,cntH l d k≤k
 | 0=>zD _
 | k+1=>by
  have:=cntH_le l d k
  unfold cntH
  split<;>omega
theorem lenP_le {pc:Nat→Option Pc}:∀ {f k:Nat},aol pc f k≤k+f
 | 0,k=>zD _
 | f+1,k=>by
  unfold aol
  split
  ·omega
  ·have:=lenP_le (pc:=pc) (f:=f) (k:=k+1)
   omega
theorem dysL_len {z:a0w} {sel:Pc→Int×Int} {m:Int}:(dysL z sel m).length≤1000001:=by
 have h1:=(ab5 (resD canonP (fromD z) (a0s z) (acv z sel m))).length_eq
 have h2:(resD canonP (fromD z) (a0s z) (acv z sel m)).length=(acv z sel m).length:=by unfold resD;rw [uM]
 have h3:(acv z sel m).length≤aol (pcZ z) 1000001 0:=afv _
 have h4:=lenP_le (pc:=pcZ z) (f:=1000001) (k:=0)
 have h5:(dysL z sel m).length=(ai4 (resD canonP (fromD z) (a0s z) (acv z sel m))).length:=rfl
 omega
end Zn
namespace Go.Proofs.YtppjleebbjipbaaGreat
open Go.RowKit Go.Shelf
set_option maxRecDepth 20000
set_option maxHeartbeats 8000000
theorem daysN_v (HO:OpenSpec) {W:World} {z:Zn.a0w} {mv rv tv yv:Value} (hv:a1q W z mv rv tv yv) (hl:Zn.ane z) (hk:Zn.DaysK z) {m:Int} (m0:0≤m) (m1:m < 1440) {L:List (Int×Zn.Per)} (hL:L=Zn.dysL z Zn.akh m) :
  Calls Tryz.prog 30 #[.agg #[z.cal.a08,mv,z.cal.a0l,rv,z.start,tv,z.hor,yv],.int .i64 m] W fun e w'=>(∃ v,e=.returned (.tuple #[v,.int .i64 0])∧a1f w' v L)∧Below W W w':=by
 have h:=aht HO hv hl.r hl.m m Zn.canonP (fun g hg=>canonP_at (hk.per (Zn.grpN hk hg))) (fun _=>hk.fin)
 rw [Zn.daysR_ok hk m0 m1 (fun g hg=>Zn.grpN hk hg)] at h
 subst hL
 exact h
theorem daysU_v (HO:OpenSpec) {W:World} {z:Zn.a0w} {mv rv tv yv:Value} (hv:a1q W z mv rv tv yv) (hl:Zn.ane z) (hk:Zn.DaysK z) {m:Int} (m0:0≤m) (m1:m < 1440) {L:List (Int×Zn.Per)} (hL:L=Zn.dysL z Zn.ak1 m) :
  Calls Tryz.prog 32 #[.agg #[z.cal.a08,mv,z.cal.a0l,rv,z.start,tv,z.hor,yv],.int .i64 m] W fun e w'=>(∃ v,e=.returned (.tuple #[v,.int .i64 0])∧a1f w' v L)∧Below W W w':=by
 have h:=aat HO hv hl.r hl.m m Zn.canonP (fun g hg=>canonP_at (hk.per (Zn.grpU hk hg))) (fun _=>hk.fin)
 rw [Zn.daysR_ok hk m0 m1 (fun g hg=>Zn.grpU hk hg)] at h
 subst hL
 exact h
theorem cellB {W W':World} {a:Addr} {v:Value} (h:W.cell? a=some v) (hb:Below W W W'):W'.cell? a=some v:=by
 have hl:a.block < W.heap.size:=Nat.lt_of_not_ge fun hge=>by
  unfold World.cell? at h
  rw [Array.getElem?_eq_none hge] at h
  simp at h
 rw [← h]
 unfold World.cell?
 rw [hb.block a.block hl]
theorem zoneDays_calls {W:World} {x:Zn.Raw} {gv ov:Value} (hx:x.In) (hgv:U8V W gv x.a6v) (hov:U8V W ov x.a5z) {t0 t1:Nat} (ht0:t0 < 65536) (ht1:t1 < 65536) :
  Calls Tryz.prog 11 #[.agg #[.int .u8 (x.start:Nat),gv,ov,.int .u8 (x.behind:Nat),.int .u8 (x.y0:Nat),.int .u8 (x.y1:Nat),.int .u8 (x.y2:Nat),.int .u8 (x.y3:Nat),.int .u8 (x.y4:Nat),.int .u8 (x.y5:Nat),.int .u8 (x.y6:Nat),.int .u8 (x.y7:Nat),.int .u8 (x.cal:Nat),.bool x.rules],.int .u16 (t0:Nat),.int .u16 (t1:Nat)] W fun e w'=>e=.returned (.bool true)∧Below W W w':=by
 have HO:OpenSpec:=a9r ad3
 have HGV:=zA hgv
 have HOV:=zA hov
 obtain ⟨ga,gc,rfl⟩ : ∃ a c,gv=.slice a x.a6v.length c:=by obtain ⟨a,c,h,_⟩:=hgv;exact ⟨a,c,h⟩
 obtain ⟨oa,oc,rfl⟩ : ∃ a c,ov=.slice a x.a5z.length c:=by obtain ⟨a,c,h,_⟩:=hov;exact ⟨a,c,h⟩
 clear hgv hov
 have hon:ones #[.int .u8 (x.start:Nat),.slice ga x.a6v.length gc,.slice oa x.a5z.length oc,.int .u8 (x.behind:Nat),.int .u8 (x.y0:Nat),.int .u8 (x.y1:Nat),.int .u8 (x.y2:Nat),.int .u8 (x.y3:Nat),.int .u8 (x.y4:Nat),.int .u8 (x.y5:Nat),.int .u8 (x.y6:Nat),.int .u8 (x.y7:Nat),.int .u8 (x.cal:Nat),.bool x.rules]=true:=by simp [ones,a0n,Value.oneCell']
 have wVB:Below W W (W.alloc (.cells #[.int .u8 (x.start:Nat),.slice ga x.a6v.length gc,.slice oa x.a5z.length oc,.int .u8 (x.behind:Nat),.int .u8 (x.y0:Nat),.int .u8 (x.y1:Nat),.int .u8 (x.y2:Nat),.int .u8 (x.y3:Nat),.int .u8 (x.y4:Nat),.int .u8 (x.y5:Nat),.int .u8 (x.y6:Nat),.int .u8 (x.y7:Nat),.int .u8 (x.cal:Nat),.bool x.rules] 26)):=bR.alloc (zD _) _
 have o0:=a05 (w:=W) (.cells #[.int .u8 (x.start:Nat),.slice ga x.a6v.length gc,.slice oa x.a5z.length oc,.int .u8 (x.behind:Nat),.int .u8 (x.y0:Nat),.int .u8 (x.y1:Nat),.int .u8 (x.y2:Nat),.int .u8 (x.y3:Nat),.int .u8 (x.y4:Nat),.int .u8 (x.y5:Nat),.int .u8 (x.y6:Nat),.int .u8 (x.y7:Nat),.int .u8 (x.cal:Nat),.bool x.rules] 26) W.heap.size rfl
 obtain ⟨z,hz⟩ : ∃ z,z=Zn.made x:=⟨_,rfl⟩
 have HZ:=zA hz
 have hgd:Zn.Good z:=hz ▸ Zn.adm hx
 have hlk:Zn.ane z:=hz ▸ Zn.akj x
 have hdk:Zn.DaysK z:=hz ▸ Zn.daysK_made (Zn.made_k hx) (Zn.made_small x)
 have HX:=zA hx
 clear hz hx
 go_enter Tryz.func11,Tryz.ntmps11
 repeat' ((go_not_at_region 1);(first|go_skip|go_guarded|go_step|go_upon))
 generalize (W.alloc (.cells #[.int .u8 (x.start:Nat),.slice ga x.a6v.length gc,.slice oa x.a5z.length oc,.int .u8 (x.behind:Nat),.int .u8 (x.y0:Nat),.int .u8 (x.y1:Nat),.int .u8 (x.y2:Nat),.int .u8 (x.y3:Nat),.int .u8 (x.y4:Nat),.int .u8 (x.y5:Nat),.int .u8 (x.y6:Nat),.int .u8 (x.y7:Nat),.int .u8 (x.cal:Nat),.bool x.rules] 26))=V at *
 repeat' ((go_not_at_region 2);(first | (go_at_call 15;((with_reducible refine ((ada _).mono ?_)));rintro e w2 ⟨rfl,hB'⟩;have hB2:=wVB.trans (hB'.mono wVB.size);have p0:=a0a o0 hB';dsimp only)|go_skip|go_guarded|go_step|go_upon))
 have HMD:=zA (aoh HZ.out HX.out (HGV.out.below hB2) (HOV.out.below hB2))
 repeat' ((go_not_at_region 3);(first | (go_at_call 16;((with_reducible refine ((HMD.out).mono ?_)));rintro e w3 ⟨⟨mv,rv,tv,yv,rfl,hzs⟩,hB'⟩;have hB3:=hB2.trans (hB'.mono hB2.size);have q0:=a0a p0 hB';have ar2:=a1b hzs.cal.mon.one hzs.cal.rul.one (a1m.one hzs.tr) (a1m.one hzs.yr) (a:=z.cal.a08) (b:=z.cal.a0l) (c:=z.start) (d:=z.hor);dsimp only)|go_skip|go_guarded|go_step|go_upon))
 have A1:=(zC w3.heap.size w3).alloc (zD _) (.cells #[z.cal.a08,mv,z.cal.a0l,rv,z.start,tv,z.hor,yv] 35)
 have oz:obj (w3.alloc (.cells #[z.cal.a08,mv,z.cal.a0l,rv,z.start,tv,z.hor,yv] 35)) w3.heap.size=some (.cells #[z.cal.a08,mv,z.cal.a0l,rv,z.start,tv,z.hor,yv] 35 (0,0)):=a05 _ _ _ rfl
 have s0:=a0a q0 A1
 have hzv:=hzs.below A1
 have aoo:=hzv
 have hBV:=hB3.trans (A1.mono hB3.size)
 generalize hU:w3.alloc (.cells #[z.cal.a08,mv,z.cal.a0l,rv,z.start,tv,z.hor,yv] 35)=U at *
 generalize w3.heap.size=bz at *
 have HZV:=zA (fun (Wq:World) (hq:Below U U Wq)=>hzv.below hq)
 have hb0:=zC U.heap.size U
 clear HMD HGV HOV hon ar2 hzs hzv A1 hU hB3 hB2 wVB
 repeat' ((go_not_at_region 5);(first|go_skip|go_guarded|go_step|go_upon))
 obtain ⟨m,hm⟩ : ∃ m,m=(t0:Int) % 1440:=⟨_,rfl⟩
 obtain ⟨d,hd⟩ : ∃ d,d=(t1:Int) % 1000:=⟨_,rfl⟩
 have m0:0≤m∧m < 1440:=by omega
 have d0:0≤d∧d < 1000:=by omega
 rw [← hm,← hd]
 clear hm hd ht0 ht1
 obtain ⟨n,hn⟩ : ∃ n,n=d * 1440+m:=⟨_,rfl⟩
 have n0:0≤n∧n < 1441440:=by omega
 have wa:=zWI (d * 1440)
 have wb:IntKind.wrap .i64 (d * 1440+m)=n:=by rw [wrap_in]<;>omega
 obtain ⟨L,hL⟩ : ∃ L,L=Zn.dysL z Zn.akh m:=⟨_,rfl⟩
 obtain ⟨M,hM⟩ : ∃ M,M=Zn.dysL z Zn.ak1 m:=⟨_,rfl⟩
 obtain ⟨I,hI⟩ : ∃ I,I=(Zn.a2w z n).1:=⟨_,rfl⟩
 obtain ⟨kv,hkv⟩ : ∃ kv:Int,kv=([1,0,2]:List Int).getD (Zn.a2w z n).1.length 0:=⟨_,rfl⟩
 obtain ⟨ofs,hof⟩ : ∃ o,o=Zn.a2u z n:=⟨_,rfl⟩
 have hln:=Zn.law_n hdk m0.1 m0.2 d0.1
 rw [← hn,← hL,← hI] at hln
 have hlu:=Zn.law_u hdk m0.1 m0.2 d0.1
 rw [← hn,← hM,← hof] at hlu
 have HLN:=zA hln
 have HLU:=zA hlu
 have HLL:Hid (Zn.LstK L):=zA (by rw [hL];exact Zn.lstK hdk (fun g hg=>Zn.grpN hdk hg))
 have HLM:Hid (Zn.LstK M):=zA (by rw [hM];exact Zn.lstK hdk (fun g hg=>Zn.grpU hdk hg))
 have hl5:L.length≤1000001:=by rw [hL];exact Zn.dysL_len
 have hm5:M.length≤1000001:=by rw [hM];exact Zn.dysL_len
 have HOB:Hid (∀ a,a∈I→n - 1080≤a∧a≤n+1080):=zA (fun a ha=>by
  rw [hI] at ha
  have h1:=(Zn.a5u hgd).1 ha
  have h2:=Zn.a2a hgd a
  omega)
 have HD1:=zA (fun (Wq:World) (hq:Below U U Wq)=>daysN_v HO (HZV.out Wq hq) hlk hdk m0.1 m0.2 hL)
 have HD2:=zA (fun (Wq:World) (hq:Below U U Wq)=>daysU_v HO (HZV.out Wq hq) hlk hdk m0.1 m0.2 hM)
 have HK:=zA (fun (Wq:World) (hq:Below U U Wq)=>show Calls Tryz.prog 22 #[.agg #[z.cal.a08,mv,z.cal.a0l,rv,z.start,tv,z.hor,yv],.int .i64 n] Wq fun e w'=>e=.returned (.tuple #[.int .i64 kv,.int .i64 0])∧Below Wq Wq w' by rw [hkv];exact aq0 HO (HZV.out Wq hq) hgd hlk (by omega))
 have HI1:=zA (fun (Wq:World) (hq:Below U U Wq)=>show Calls Tryz.prog 24 #[.agg #[z.cal.a08,mv,z.cal.a0l,rv,z.start,tv,z.hor,yv],.int .i64 n,.int .i64 0,.int .i64 2] Wq fun e w'=>(∃ v,e=.returned (.tuple #[v,.int .i64 0])∧a2c w' v I)∧Below Wq Wq w' by rw [hI];exact aon HO (HZV.out Wq hq) hgd hlk (by omega))
 have HOF:=zA (fun (Wq:World) (hq:Below U U Wq)=>show Calls Tryz.prog 18 #[.agg #[z.cal.a08,mv,z.cal.a0l,rv,z.start,tv,z.hor,yv],.int .i64 n] Wq fun e w'=>e=.returned (.tuple #[.int .i64 ofs,.int .i64 0])∧Below Wq Wq w' by rw [hof];exact aqr HO (HZV.out Wq hq) hgd hlk (by omega))
 have hls:(I.length=1∧kv=0)∨(I.length≠1∧kv≠0):=by
  rcases Zn.a4o hgd n with ⟨h,_⟩ | ⟨a,h,_⟩ | ⟨a,b,h,_⟩
  ·rw [h] at hI hkv;rw [hI,hkv];exact .inr ⟨by simp,by show (1:Int)≠0;decide⟩
  ·rw [h] at hI hkv;rw [hI,hkv];exact .inl ⟨rfl,rfl⟩
  rw [h] at hI hkv;rw [hI,hkv];exact .inr ⟨by simp,by show (2:Int)≠0;decide⟩
 have hon:=a1b (aoo.cal.mon.one) (aoo.cal.rul.one) (a1m.one aoo.tr) (a1m.one aoo.yr) (a:=z.cal.a08) (b:=z.cal.a0l) (c:=z.start) (d:=z.hor)
 clear aoo hkv hL hM hI hof hln hlu hn
 repeat' ((go_not_at_region 6);(first | (go_at_call 30;((with_reducible refine ((HD1.out _ hb0).mono ?_)));rintro e u1 ⟨⟨v1,rfl,hv1⟩,hB'⟩;have hb1:=hb0.trans (hB'.mono hb0.size);have oz1:=a0a oz hb1;dsimp only)|go_skip|go_guarded|go_step|go_upon))
 repeat' ((go_not_at_region 7);(first | (go_at_call 32;((with_reducible refine ((HD2.out _ hb1).mono ?_)));rintro e u2 ⟨⟨v2,rfl,hv2⟩,hB'⟩;have hb2:=hb1.trans (hB'.mono hb1.size);have oz2:=a0a oz hb2;have hv1:=a1f.below hv1 hB';dsimp only)|go_skip|go_guarded|go_step|go_upon))
 repeat' ((go_not_at_region 8);(first | (go_at_call 22;((with_reducible refine ((HK.out _ hb2).mono ?_)));rintro e u3 ⟨rfl,hB'⟩;have hb3:=hb2.trans (hB'.mono hb2.size);have oz3:=a0a oz hb3;have hv1:=a1f.below hv1 hB';have hv2:=a1f.below hv2 hB';dsimp only)|go_skip|go_guarded|go_step|go_upon))
 repeat' ((go_not_at_region 9);(first | (go_at_call 24;((with_reducible refine ((HI1.out _ hb3).mono ?_)));rintro e u4 ⟨⟨v4,rfl,hv4⟩,hB'⟩;have hb4:=hb3.trans (hB'.mono hb3.size);have oz4:=a0a oz hb4;have hv1:=a1f.below hv1 hB';have hv2:=a1f.below hv2 hB';dsimp only)|go_skip|go_guarded|go_step|go_upon))
 repeat' ((go_not_at_region 10);(first | (go_at_call 18;((with_reducible refine ((HOF.out _ hb4).mono ?_)));rintro e u5 ⟨rfl,hB'⟩;have hb5:=hb4.trans (hB'.mono hb4.size);have oz5:=a0a oz hb5;have hv1:=a1f.below hv1 hB';have hv2:=a1f.below hv2 hB';have hv4:=a2c.below hv4 hB';dsimp only)|go_skip|go_guarded|go_step|go_upon))
 obtain ⟨ia,ica,rfl⟩ : ∃ a c,v4=.slice a I.length c:=by obtain ⟨a,c,h,_⟩:=hv4.1;exact ⟨a,c,h⟩
 have HIV:=zA hv4
 clear hv4 HD1 HD2 HK HI1 HOF
 rcases hls with ⟨hi1,rfl⟩ | ⟨hi1,hkv⟩
 ·have e0:(I.length:Int)=1:=by omega
  have hb6:=hb5
  clear oz oz1 oz2 oz3 oz4 oz5
  generalize u5=ux at *
  obtain ⟨fl,⟨la,lca,rfl,hl1⟩,hl2⟩:=hv1
  obtain ⟨fm,⟨ma,mca,rfl,hm1⟩,hm2⟩:=hv2
  have HL1:=zA hl1
  have HL2:=zA hl2
  have HM1:=zA hm1
  have HM2:=zA hm2
  clear hl1 hl2 hm1 hm2
  repeat'(first|go_skip|go_guarded|go_step|go_upon)
  go_loopw [21,22] (fun c i wr => ∃ k:Nat,k≤L.length∧i=.int .i64 k∧c=.int .i64 ((Zn.cntH L d k:Nat):Int)∧Below ux ux wr) (fun _ i _=>((L.length:Int) - intOf i).toNat)
  case atStart=>exact ⟨0,by omega,rfl,rfl,zC _ _⟩
  obtain ⟨k,hk,rfl,rfl,hC⟩:=hrel
  by_cases hlt:k < L.length;rotate_left
  ·have i1 : ¬ (k:Int) < (L.length:Int):=by omega
   (obtain rfl:k=L.length:=by omega);have hcnt:=HLN.out.2;rw [zQ (by omega)] at hcnt;rw [hcnt];clear hcnt hlt hk i1
   repeat'(first|go_skip|go_guarded|go_step|go_upon)
   have hCU:=hC;go_loopw [25,26] (fun c i ws => ∃ k:Nat,k≤M.length∧i=.int .i64 k∧c=.int .i64 ((Zn.cntH M d k:Nat):Int)∧Below ux ux ws) (fun _ i _=>((M.length:Int) - intOf i).toNat)
   case atStart=>exact ⟨0,by omega,rfl,rfl,hC⟩
   obtain ⟨k,hk,rfl,rfl,hD⟩:=hrel;by_cases hlt:k < M.length;rotate_left
   ·have i1 : ¬ (k:Int) < (M.length:Int):=by omega
    (obtain rfl:k=M.length:=by omega);have hcnt:=HLU.out.2;rw [hcnt];clear hcnt hlt hk i1;have hDU:=hb6.trans (hD.mono hb6.size)
    repeat'(first|go_skip|go_guarded|go_step|go_upon)
    go_returns;exact ⟨rfl,hBV.trans (hDU.mono hBV.size)⟩
   (have i1:(k:Int) < (M.length:Int):=by omega);obtain ⟨ba,oa,rowa,Ta,fra,rfl,ra0,xs⟩:=HM1.out (by omega);obtain ⟨za,xa⟩:=xs k hlt;obtain ⟨hv,cv,ea,iha,ica⟩:=HM2.out k hlt;have hok:=HLM.out.ok k hlt;have HHAS:Hid (Zn.hasP (M.getD k default).2 d=true↔ofs=(M.getD k default).1):=zA (HLU.out.1 k hlt);have HCN:Hid (Zn.cntH M d (k+1)=Zn.cntH M d k+if Zn.hasP (M.getD k default).2 d=true then 1 else 0):=zA rfl;have hcl:=Zn.cntH_le M d k;rw [ea] at xa;clear ea xs;generalize M.getD k default=xx at *;obtain ⟨o,pr⟩:=xx;dsimp only at xa iha ica hok HHAS HCN;have la0:=a09 ra0;have HHA:=zA (Has_calls hok.1 (iha.below hD).ints (ica.below hD).ints d0.1 (show d≤1099511627776 by omega));have q1:=ab8 (a04 ra0 hD la0) za xa;have s1:=q1.1;have s2:=q1.2.1;have s3:=q1.2.2;clear q1 hok iha ica;generalize pr.from_=pf at *;generalize pr.period=pp at *;by_cases hh:Zn.hasP pr d=true
   ·obtain rfl:=HHAS.out.1 hh
    rw [hh] at HHA;rw [zQ hh] at HCN
    have wc:IntKind.wrap .i64 ((Zn.cntH M d k:Nat)+1)=((Zn.cntH M d (k+1):Nat):Int):=by rw [HCN.out,wrap_in]<;>omega
    clear hh
    repeat' ((go_not_at_region 28);(first | (go_at_call 39;((with_reducible refine (HHA.out).mono ?_));rintro e w9 ⟨rfl,hB9⟩;have hD10:=hD.trans (hB9.mono hD.size);have q10:=(a02 (a04 ra0 hD10 la0) (oa+k * 5)).trans (a0y 0 xa (by simp));dsimp only)|go_skip|go_guarded|go_step|go_upon))
    clear s1 s2 s3
    repeat'(first|go_skip|go_guarded|go_step|go_upon)
    exact ⟨⟨k+1,by omega,by go_num,rfl,hD10⟩,by simp [intOf];omega⟩
   have h9:Zn.hasP pr d=false:=Bool.eq_false_iff.2 hh;rw [h9] at HHA;rw [zS hh] at HCN;(have wc:((Zn.cntH M d k:Nat):Int)=((Zn.cntH M d (k+1):Nat):Int):=by rw [HCN.out];simp);clear hh h9
   repeat' (first | (go_at_call 39;((with_reducible refine (HHA.out).mono ?_));rintro e w9 ⟨rfl,hB9⟩;have hD10:=hD.trans (hB9.mono hD.size);dsimp only)|go_skip|go_guarded|go_step|go_upon)
   exact ⟨⟨k+1,by omega,by go_num,by rw [wc],hD10⟩,by simp [intOf];omega⟩
  have i1:(k:Int) < (L.length:Int):=by omega
  obtain ⟨ba,oa,rowa,Ta,fra,rfl,ra0,xs⟩:=HL1.out (by omega)
  obtain ⟨za,xa⟩:=xs k hlt
  obtain ⟨hv,cv,ea,iha,ica⟩:=HL2.out k hlt
  have hok:=HLL.out.ok k hlt
  have HHAS:Hid (Zn.hasP (L.getD k default).2 d=true↔I = [n - (L.getD k default).1]):=zA (HLN.out.1 k hlt)
  have HCN:Hid (Zn.cntH L d (k+1)=Zn.cntH L d k+if Zn.hasP (L.getD k default).2 d=true then 1 else 0):=zA rfl
  have hcl:=Zn.cntH_le L d k
  have HPV:Hid (0 < k→∃ op,op < (L.getD k default).1∧oa+(k - 1) * 5+5≤rowa.size∧∃ h c f p,rowa.extract (oa+(k - 1) * 5) (oa+(k - 1) * 5+5)=#[.int .i64 op,h,.int .i64 f,.int .i64 p,c]):=zA (fun h=>by
   obtain ⟨zp,xp⟩:=xs (k - 1) (by omega);obtain ⟨h',c',ep,_,_⟩:=HL2.out (k - 1) (by omega);rw [ep] at xp
   exact ⟨_,HLL.out.lt (k - 1) k (by omega) hlt,zp,_,_,_,_,xp⟩)
  rw [ea] at xa
  clear ea xs
  generalize L.getD k default=xx at *
  obtain ⟨o,pr⟩:=xx
  dsimp only at xa iha ica hok HHAS HCN HPV
  obtain ⟨hp,hcc,hne⟩:=hok
  have la0:=a09 ra0
  have HCA:=zA (canonF_calls hp (iha.below hC).ints (ica.below hC).ints (fun h=>absurd h hne))
  rw [hcc] at HCA
  have HHB:=zA (fun (Wq:World) (hq:Below ux ux Wq)=>Has_calls hp (iha.below hq).ints (ica.below hq).ints d0.1 (show d≤1099511627776 by omega))
  have HE0:=zA (fun (Wq:World) (hq:Below ux ux Wq) (hw cw:Value) (h1:a2t Wq hw pr.head) (h2:a2t Wq cw pr.cycle)=>adi (p:=pr) h1.ints h2.ints (iha.below hq).ints (ica.below hq).ints (by have:=hp.n;omega) (by have:=hp.n;omega))
  clear hcc hne
  have hB0:=(zC ux.heap.size ux).trans hC
  have q1:=ab8 (a04 ra0 hC la0) za xa
  have s1:=q1.1
  have s2:=q1.2.1
  have s3:=q1.2.2
  clear q1 hp iha ica
  generalize pr.from_=pf at *
  generalize pr.period=pp at *
  repeat' ((go_not_at_region 17);(first | (go_at_call 37;((with_reducible refine (HCA.out).mono ?_));rintro e w7 ⟨⟨hw,cw,rfl,hhw,hcw⟩,hB7⟩;have hC7:=hC.trans (hB7.mono hC.size);have hon7:=a4k hhw.one hcw.one pf pp;dsimp only)|go_skip|go_guarded|go_step|go_upon))
  have A8:=(zC w7.heap.size w7).alloc (zD _) (.cells #[hw,pf,pp,cw] 65)
  have oc:obj (w7.alloc (.cells #[hw,pf,pp,cw] 65)) w7.heap.size=some (.cells #[hw,pf,pp,cw] 65 (0,0)):=a05 _ _ _ rfl
  have hC8:=hC7.trans (A8.mono hC7.size)
  have hhw:=hhw.below A8
  have hcw:=hcw.below A8
  clear A8 hC7 s1 s2 s3 HCA hB0
  generalize w7.alloc (.cells #[hw,pf,pp,cw] 65)=w8 at *
  generalize w7.heap.size=bc at *
  have lc:=a09 oc
  have HE:=zA (fun (Wq:World) (hq:Below w8 w8 Wq)=>HE0.out Wq (hC8.trans (hq.mono hC8.size)) hw cw (hhw.below hq) (hcw.below hq))
  clear HE0 hhw hcw
  by_cases hk0:0 < k
  ·obtain ⟨op,hop,zp,hq,cq,fq,pq,xp⟩:=HPV.out hk0
   (have t1:(0:Int) < (k:Int):=by omega);have t2 : ¬ o≤op:=by omega
   have wk:IntKind.wrap .i64 ((k:Int) - 1)=((k - 1:Nat):Int):=by rw [wrap_in]<;>omega
   (have t3:((k - 1:Nat):Int) < (L.length:Int):=by omega);clear HPV
   refine a0k 30 [([],fun v _=>v=.int .i64 0),([0],fun v _=>v=.bool false),([1],fun v _=>v=.bool false),([2],fun v _=>v=.agg #[hw,pf,pp,cw]),([2],fun v _=>v=.slice (some ⟨ba,oa,none⟩) L.length lca),([2],fun v _=>v=.int .i64 (k:Int)),([4,5,2],fun v _=>v=.pointer (some ⟨ba,oa+k * 5,none⟩)),([6,2],fun v _=>v=.pointer (some ⟨ba,oa+k * 5+1,none⟩)),([7,2],fun v _=>v=.agg #[hv,pf,pp,cv]),([3,8,2],fun v _=>v=.bool true),([9,2],fun v _=>v=.bool false),([2,10],fun v _=>v=.bool false),([11],fun v _=>v=.bool false),([12],fun v _=>v=.int .i64 (k:Int)),([13,12],fun v _=>v=.bool true),([14,12],fun v _=>v=.bool true),([15],fun v _=>v=.slice (some ⟨ba,oa,none⟩) L.length lca),([15],fun v _=>v=.int .i64 (k:Int)),([16,17,15],fun v _=>v=.pointer (some ⟨ba,oa+k * 5,none⟩)),([18,15],fun v _=>v=.pointer (some ⟨ba,oa+k * 5,none⟩)),([19,15],fun v _=>v=.int .i64 o),([15],fun v _=>v=.slice (some ⟨ba,oa,none⟩) L.length lca),([15],fun v _=>v=.int .i64 (k:Int)),([22,15],fun v _=>v=.int .i64 ((k - 1:Nat):Int)),([21,23,15],fun v _=>v=.pointer (some ⟨ba,oa+(k - 1) * 5,none⟩)),([24,15],fun v _=>v=.pointer (some ⟨ba,oa+(k - 1) * 5,none⟩)),([25,15],fun v _=>v=.int .i64 op),([20,26,15],fun v _=>v=.bool false),([15,27,12],fun v _=>v=.bool false),
     ([12,28],fun v _=>v=.bool false)] (by kernel_rfl) (by kernel_rfl) (by kernel_rfl) ?st ⟨?o0,?o1,?o2,?o3,?o4,?o5,?o6,?o7,?o8,?o9,?o10,?o11,?o12,?o13,?o14,?o15,?o16,?o17,?o18,?o19,?o20,?o21,?o22,?o23,?o24,?o25,?o26,?o27,?o28,?o29,trivial⟩ ?_
   case st =>
    intro k v W1 W2 h hb
    rcases k with _|_|_|_|_|_|_|_|_|_|_|_|_|_|_|_|_|_|_|_|_|_|_|_|_|_|_|_|_|_|k
    all_goals (first|exact h|trivial)
   case o0 => intro vs Wq hW hk;clear hk;change wpList _ _ _ _ (a00 _ vs [] _) _;simp only [a00];(try simp only [Act.put,zF,zI,zJ]);(repeat'(first|go_skip|go_guarded|go_step|go_upon));exact a01 (.int .i64 0) rfl (by go_simp) bR rfl
   case o1 => intro vs Wq hW hk;have g0:vs 0=.int .i64 0:=hk.1;clear hk;change wpList _ _ _ _ (a00 _ vs [0] _) _;simp only [a00,a03,yy0,yy1,yy2,yy3];(try simp only [Act.put,zF,zI,zJ]);rw [g0];(repeat'(first|go_skip|go_guarded|go_step|go_upon));exact a01 (.bool false) rfl (by go_simp) bR rfl
   case o2 => intro vs Wq hW hk;have g1:vs 1=.bool false:=hk.1;clear hk;change wpList _ _ _ _ (a00 _ vs [1] _) _;simp only [a00,a03,yy0,yy1,yy2,yy3];(try simp only [Act.put,zF,zI,zJ]);rw [g1];(repeat'(first|go_skip|go_guarded|go_step|go_upon));exact a01 (.bool false) rfl (by go_simp) bR rfl
   case o3 => intro vs Wq hW hk;have g2:vs 2=.bool false:=hk.1;clear hk;change wpList _ _ _ _ (a00 _ vs [2] _) _;simp only [a00,a03,yy0,yy1,yy2,yy3];(try simp only [Act.put,zF,zI,zJ]);rw [g2];have q:=a04 oc hW lc;(repeat'(first|go_skip|go_guarded|go_step|go_upon));exact a01 (.agg #[hw,pf,pp,cw]) rfl (by go_simp) bR rfl
   case o4 => intro vs Wq hW hk;have g2:vs 2=.bool false:=hk.1;clear hk;change wpList _ _ _ _ (a00 _ vs [2] _) _;simp only [a00,a03,yy0,yy1,yy2,yy3];(try simp only [Act.put,zF,zI,zJ]);rw [g2];(repeat'(first|go_skip|go_guarded|go_step|go_upon));exact a01 (.slice (some ⟨ba,oa,none⟩) L.length lca) rfl (by go_simp) bR rfl
   case o5 => intro vs Wq hW hk;have g2:vs 2=.bool false:=hk.1;clear hk;change wpList _ _ _ _ (a00 _ vs [2] _) _;simp only [a00,a03,yy0,yy1,yy2,yy3];(try simp only [Act.put,zF,zI,zJ]);rw [g2];(repeat'(first|go_skip|go_guarded|go_step|go_upon));exact a01 (.int .i64 (k:Int)) rfl (by go_simp) bR rfl
   case o6 => intro vs Wq hW hk;have g4:vs 4=.slice (some ⟨ba,oa,none⟩) L.length lca:=hk.1;have g5:vs 5=.int .i64 (k:Int):=hk.2.1;have g2:vs 2=.bool false:=hk.2.2.1;clear hk;change wpList _ _ _ _ (a00 _ vs [4,5,2] _) _;simp only [a00,a03,yy0,yy1,yy2,yy3];(try simp only [Act.put,zF,zI,zJ]);rw [g4,g5,g2];(repeat'(first|go_skip|go_guarded|go_step|go_upon));exact a01 (.pointer (some ⟨ba,oa+k * 5,none⟩)) rfl (by go_simp) bR rfl
   case o7 => intro vs Wq hW hk;have g6:vs 6=.pointer (some ⟨ba,oa+k * 5,none⟩):=hk.1;have g2:vs 2=.bool false:=hk.2.1;clear hk;change wpList _ _ _ _ (a00 _ vs [6,2] _) _;simp only [a00,a03,yy0,yy1,yy2,yy3];(try simp only [Act.put,zF,zI,zJ]);rw [g6,g2];(repeat'(first|go_skip|go_guarded|go_step|go_upon));exact a01 (.pointer (some ⟨ba,oa+k * 5+1,none⟩)) rfl (by go_simp) bR rfl
   case o8 => intro vs Wq hW hk;have g7:vs 7=.pointer (some ⟨ba,oa+k * 5+1,none⟩):=hk.1;have g2:vs 2=.bool false:=hk.2.1;clear hk;change wpList _ _ _ _ (a00 _ vs [7,2] _) _;simp only [a00,a03,yy0,yy1,yy2,yy3];(try simp only [Act.put,zF,zI,zJ]);rw [g7,g2];have q1:=ab8 (a04 ra0 (hC8.trans (hW.mono hC8.size)) la0) za xa;have s1:=q1.1;have s2:=q1.2.1;have s3:=q1.2.2;(repeat'(first|go_skip|go_guarded|go_step|go_upon));exact a01 (.agg #[hv,pf,pp,cv]) rfl (by go_simp) bR rfl
   case o9 => intro vs Wq hW hk;have g3:vs 3=.agg #[hw,pf,pp,cw]:=hk.1;have g8:vs 8=.agg #[hv,pf,pp,cv]:=hk.2.1;have g2:vs 2=.bool false:=hk.2.2.1;clear hk;change wpList _ _ _ _ (a00 _ vs [3,8,2] _) _;simp only [a00,a03,yy0,yy1,yy2,yy3];(try simp only [Act.put,zF,zI,zJ]);rw [g3,g8,g2];have HX:=zA (HE.out Wq hW);(repeat' (first | (go_at_call 38;((with_reducible refine (HX.out).mono ?_));rintro e w9 ⟨rfl,hb9⟩;dsimp only)|go_skip|go_guarded|go_step|go_upon));exact a01 (.bool true) rfl (by go_simp) hb9 rfl
   case o10 => intro vs Wq hW hk;have g9:vs 9=.bool true:=hk.1;have g2:vs 2=.bool false:=hk.2.1;clear hk;change wpList _ _ _ _ (a00 _ vs [9,2] _) _;simp only [a00,a03,yy0,yy1,yy2,yy3];(try simp only [Act.put,zF,zI,zJ]);rw [g9,g2];(repeat'(first|go_skip|go_guarded|go_step|go_upon));exact a01 (.bool false) rfl (by go_simp) bR rfl
   case o11 => intro vs Wq hW hk;have g2:vs 2=.bool false:=hk.1;have g10:vs 10=.bool false:=hk.2.1;clear hk;change wpList _ _ _ _ (a00 _ vs [2,10] _) _;simp only [a00,a03,yy0,yy1,yy2,yy3];(try simp only [Act.put,zF,zI,zJ]);rw [g2,g10];(repeat'(first|go_skip|go_guarded|go_step|go_upon));exact a01 (.bool false) rfl (by go_simp) bR rfl
   case o12 => intro vs Wq hW hk;have g11:vs 11=.bool false:=hk.1;clear hk;change wpList _ _ _ _ (a00 _ vs [11] _) _;simp only [a00,a03,yy0,yy1,yy2,yy3];(try simp only [Act.put,zF,zI,zJ]);rw [g11];(repeat'(first|go_skip|go_guarded|go_step|go_upon));exact a01 (.bool false) rfl (by go_simp) bR rfl
   case o13 => intro vs Wq hW hk;have g12:vs 12=.bool false:=hk.1;clear hk;change wpList _ _ _ _ (a00 _ vs [12] _) _;simp only [a00,a03,yy0,yy1,yy2,yy3];(try simp only [Act.put,zF,zI,zJ]);rw [g12];(repeat'(first|go_skip|go_guarded|go_step|go_upon));exact a01 (.int .i64 (k:Int)) rfl (by go_simp) bR rfl
   case o14 => intro vs Wq hW hk;have g13:vs 13=.int .i64 (k:Int):=hk.1;have g12:vs 12=.bool false:=hk.2.1;clear hk;change wpList _ _ _ _ (a00 _ vs [13,12] _) _;simp only [a00,a03,yy0,yy1,yy2,yy3];(try simp only [Act.put,zF,zI,zJ]);rw [g13,g12];(repeat'(first|go_skip|go_guarded|go_step|go_upon));exact a01 (.bool true) rfl (by go_simp) bR rfl
   case o15 => intro vs Wq hW hk;have g14:vs 14=.bool true:=hk.1;have g12:vs 12=.bool false:=hk.2.1;clear hk;change wpList _ _ _ _ (a00 _ vs [14,12] _) _;simp only [a00,a03,yy0,yy1,yy2,yy3];(try simp only [Act.put,zF,zI,zJ]);rw [g14,g12];(repeat'(first|go_skip|go_guarded|go_step|go_upon));exact a01 (.bool true) rfl (by go_simp) bR rfl
   case o16 => intro vs Wq hW hk;have g15:vs 15=.bool true:=hk.1;clear hk;change wpList _ _ _ _ (a00 _ vs [15] _) _;simp only [a00,a03,yy0,yy1,yy2,yy3];(try simp only [Act.put,zF,zI,zJ]);rw [g15];(repeat'(first|go_skip|go_guarded|go_step|go_upon));exact a01 (.slice (some ⟨ba,oa,none⟩) L.length lca) rfl (by go_simp) bR rfl
   case o17 => intro vs Wq hW hk;have g15:vs 15=.bool true:=hk.1;clear hk;change wpList _ _ _ _ (a00 _ vs [15] _) _;simp only [a00,a03,yy0,yy1,yy2,yy3];(try simp only [Act.put,zF,zI,zJ]);rw [g15];(repeat'(first|go_skip|go_guarded|go_step|go_upon));exact a01 (.int .i64 (k:Int)) rfl (by go_simp) bR rfl
   case o18 => intro vs Wq hW hk;have g16:vs 16=.slice (some ⟨ba,oa,none⟩) L.length lca:=hk.1;have g17:vs 17=.int .i64 (k:Int):=hk.2.1;have g15:vs 15=.bool true:=hk.2.2.1;clear hk;change wpList _ _ _ _ (a00 _ vs [16,17,15] _) _;simp only [a00,a03,yy0,yy1,yy2,yy3];(try simp only [Act.put,zF,zI,zJ]);rw [g16,g17,g15];(repeat'(first|go_skip|go_guarded|go_step|go_upon));exact a01 (.pointer (some ⟨ba,oa+k * 5,none⟩)) rfl (by go_simp) bR rfl
   case o19 => intro vs Wq hW hk;have g18:vs 18=.pointer (some ⟨ba,oa+k * 5,none⟩):=hk.1;have g15:vs 15=.bool true:=hk.2.1;clear hk;change wpList _ _ _ _ (a00 _ vs [18,15] _) _;simp only [a00,a03,yy0,yy1,yy2,yy3];(try simp only [Act.put,zF,zI,zJ]);rw [g18,g15];(repeat'(first|go_skip|go_guarded|go_step|go_upon));exact a01 (.pointer (some ⟨ba,oa+k * 5,none⟩)) rfl (by go_simp) bR rfl
   case o20 => intro vs Wq hW hk;have g19:vs 19=.pointer (some ⟨ba,oa+k * 5,none⟩):=hk.1;have g15:vs 15=.bool true:=hk.2.1;clear hk;change wpList _ _ _ _ (a00 _ vs [19,15] _) _;simp only [a00,a03,yy0,yy1,yy2,yy3];(try simp only [Act.put,zF,zI,zJ]);rw [g19,g15];have q:=(a02 (a04 ra0 (hC8.trans (hW.mono hC8.size)) la0) (oa+k * 5)).trans (a0y 0 xa (by simp));(repeat'(first|go_skip|go_guarded|go_step|go_upon));exact a01 (.int .i64 o) rfl (by go_simp) bR rfl
   case o21 => intro vs Wq hW hk;have g15:vs 15=.bool true:=hk.1;clear hk;change wpList _ _ _ _ (a00 _ vs [15] _) _;simp only [a00,a03,yy0,yy1,yy2,yy3];(try simp only [Act.put,zF,zI,zJ]);rw [g15];(repeat'(first|go_skip|go_guarded|go_step|go_upon));exact a01 (.slice (some ⟨ba,oa,none⟩) L.length lca) rfl (by go_simp) bR rfl
   case o22 => intro vs Wq hW hk;have g15:vs 15=.bool true:=hk.1;clear hk;change wpList _ _ _ _ (a00 _ vs [15] _) _;simp only [a00,a03,yy0,yy1,yy2,yy3];(try simp only [Act.put,zF,zI,zJ]);rw [g15];(repeat'(first|go_skip|go_guarded|go_step|go_upon));exact a01 (.int .i64 (k:Int)) rfl (by go_simp) bR rfl
   case o23 => intro vs Wq hW hk;have g22:vs 22=.int .i64 (k:Int):=hk.1;have g15:vs 15=.bool true:=hk.2.1;clear hk;change wpList _ _ _ _ (a00 _ vs [22,15] _) _;simp only [a00,a03,yy0,yy1,yy2,yy3];(try simp only [Act.put,zF,zI,zJ]);rw [g22,g15];(repeat'(first|go_skip|go_guarded|go_step|go_upon));exact a01 (.int .i64 ((k - 1:Nat):Int)) rfl (by go_simp) bR rfl
   case o24 => intro vs Wq hW hk;have g21:vs 21=.slice (some ⟨ba,oa,none⟩) L.length lca:=hk.1;have g23:vs 23=.int .i64 ((k - 1:Nat):Int):=hk.2.1;have g15:vs 15=.bool true:=hk.2.2.1;clear hk;change wpList _ _ _ _ (a00 _ vs [21,23,15] _) _;simp only [a00,a03,yy0,yy1,yy2,yy3];(try simp only [Act.put,zF,zI,zJ]);rw [g21,g23,g15];(repeat'(first|go_skip|go_guarded|go_step|go_upon));exact a01 (.pointer (some ⟨ba,oa+(k - 1) * 5,none⟩)) rfl (by go_simp) bR rfl
   case o25 => intro vs Wq hW hk;have g24:vs 24=.pointer (some ⟨ba,oa+(k - 1) * 5,none⟩):=hk.1;have g15:vs 15=.bool true:=hk.2.1;clear hk;change wpList _ _ _ _ (a00 _ vs [24,15] _) _;simp only [a00,a03,yy0,yy1,yy2,yy3];(try simp only [Act.put,zF,zI,zJ]);rw [g24,g15];(repeat'(first|go_skip|go_guarded|go_step|go_upon));exact a01 (.pointer (some ⟨ba,oa+(k - 1) * 5,none⟩)) rfl (by go_simp) bR rfl
   case o26 => intro vs Wq hW hk;have g25:vs 25=.pointer (some ⟨ba,oa+(k - 1) * 5,none⟩):=hk.1;have g15:vs 15=.bool true:=hk.2.1;clear hk;change wpList _ _ _ _ (a00 _ vs [25,15] _) _;simp only [a00,a03,yy0,yy1,yy2,yy3];(try simp only [Act.put,zF,zI,zJ]);rw [g25,g15];have q:=(a02 (a04 ra0 (hC8.trans (hW.mono hC8.size)) la0) (oa+(k - 1) * 5)).trans (a0y 0 xp (by simp));(repeat'(first|go_skip|go_guarded|go_step|go_upon));exact a01 (.int .i64 op) rfl (by go_simp) bR rfl
   case o27 => intro vs Wq hW hk;have g20:vs 20=.int .i64 o:=hk.1;have g26:vs 26=.int .i64 op:=hk.2.1;have g15:vs 15=.bool true:=hk.2.2.1;clear hk;change wpList _ _ _ _ (a00 _ vs [20,26,15] _) _;simp only [a00,a03,yy0,yy1,yy2,yy3];(try simp only [Act.put,zF,zI,zJ]);rw [g20,g26,g15];(repeat'(first|go_skip|go_guarded|go_step|go_upon));exact a01 (.bool false) rfl (by go_simp) bR rfl
   case o28 => intro vs Wq hW hk;have g15:vs 15=.bool true:=hk.1;have g27:vs 27=.bool false:=hk.2.1;have g12:vs 12=.bool false:=hk.2.2.1;clear hk;change wpList _ _ _ _ (a00 _ vs [15,27,12] _) _;simp only [a00,a03,yy0,yy1,yy2,yy3];(try simp only [Act.put,zF,zI,zJ]);rw [g15,g27,g12];(repeat'(first|go_skip|go_guarded|go_step|go_upon));exact a01 (.bool false) rfl (by go_simp) bR rfl
   case o29 => intro vs Wq hW hk;have g12:vs 12=.bool false:=hk.1;have g28:vs 28=.bool false:=hk.2.1;clear hk;change wpList _ _ _ _ (a00 _ vs [12,28] _) _;simp only [a00,a03,yy0,yy1,yy2,yy3];(try simp only [Act.put,zF,zI,zJ]);rw [g12,g28];(repeat'(first|go_skip|go_guarded|go_step|go_upon));exact a01 (.bool false) rfl (by go_simp) bR rfl
   intro vs Wx hWx hk;have v29:vs 29=.bool false:=hk 29 (by decide);clear hk;dsimp only [a1d,List.take,List.drop]
   (try simp only [Act.put,zF,zI,zJ])
   rw [v29];generalize vs 0=e0,vs 1=e1,vs 2=e2,vs 3=e3,vs 4=e4,vs 5=e5,vs 6=e6,vs 7=e7,vs 8=e8,vs 9=e9,vs 10=e10,vs 11=e11,vs 12=e12,vs 13=e13,vs 14=e14,vs 15=e15,vs 16=e16,vs 17=e17,vs 18=e18,vs 19=e19,vs 20=e20,vs 21=e21,vs 22=e22,vs 23=e23,vs 24=e24,vs 25=e25,vs 26=e26,vs 27=e27,vs 28=e28;clear v29;refine wpList_nil ?_;have hC9:=hC8.trans (hWx.mono hC8.size);have HHA:=zA (HHB.out Wx hC9);have q9:=ab8 (a04 ra0 hC9 la0) za xa;have s1:=q9.1;have s2:=q9.2.1;have s3:=q9.2.2;clear q9;by_cases hh:Zn.hasP pr d=true;rotate_left
   ·have h9:Zn.hasP pr d=false:=Bool.eq_false_iff.2 hh
    rw [h9] at HHA;rw [zS hh] at HCN;(have wc:((Zn.cntH L d k:Nat):Int)=((Zn.cntH L d (k+1):Nat):Int):=by rw [HCN.out];simp);clear hh h9
    repeat' (first | (go_at_call 39;((with_reducible refine (HHA.out).mono ?_));rintro e w9 ⟨rfl,hB9⟩;have hC10:=hC9.trans (hB9.mono hC9.size);dsimp only)|go_skip|go_guarded|go_step|go_upon)
    exact ⟨⟨k+1,by omega,by go_num,by rw [wc],hC10⟩,by simp [intOf];omega⟩
   have e1:=congrArg List.length (HHAS.out.1 hh);rw [List.length_singleton] at e1;rw [hh] at HHA;rw [zQ hh] at HCN;obtain ⟨bi,oi,ci,hie,hic⟩:=ahd HIV.out (by omega)
   injection hie with hi1 _ hi3
   subst hi1 hi3;(have hI0:I.getD 0 0=n - o:=by rw [HHAS.out.1 hh];rfl);have hia:=hic 0 (by omega);rw [hI0,uG] at hia;have HIA:=zA hia;have hob:=HOB.out (n - o) (by rw [HHAS.out.1 hh];simp);have wd:=zWI (n - o)
   have wc:IntKind.wrap .i64 ((Zn.cntH L d k:Nat)+1)=((Zn.cntH L d (k+1):Nat):Int):=by rw [HCN.out,wrap_in]<;>omega
   (have i7:(0:Int) < (I.length:Int):=by omega);clear hh e1 hic hI0 hia
   repeat' ((go_not_at_region 21);(first | (go_at_call 39;((with_reducible refine (HHA.out).mono ?_));rintro e w9 ⟨rfl,hB9⟩;have hC10:=hC9.trans (hB9.mono hC9.size);dsimp only)|go_skip|go_guarded|go_step|go_upon))
   have r10:=a04 ra0 hC10 la0;have q10:=(a02 r10 (oa+k * 5)).trans (a0y 0 xa (by simp));have hia:=cellB HIA.out hC10;go_quiet (fail);have hC11:=below_drewN hC10 nq;clear s1 s2 s3 q10 r10;generalize w9.drewN nq=w10 at *
   repeat'(first|go_skip|go_guarded|go_step|go_upon)
   exact ⟨⟨k+1,by omega,by go_num,rfl,hC11⟩,by simp [intOf];omega⟩
  have t1 : ¬ (0:Int) < (k:Int):=by omega
  clear HPV
  refine a0k 30 [([],fun v _=>v=.int .i64 0),([0],fun v _=>v=.bool false),([1],fun v _=>v=.bool false),([2],fun v _=>v=.agg #[hw,pf,pp,cw]),([2],fun v _=>v=.slice (some ⟨ba,oa,none⟩) L.length lca),([2],fun v _=>v=.int .i64 (k:Int)),([4,5,2],fun v _=>v=.pointer (some ⟨ba,oa+k * 5,none⟩)),([6,2],fun v _=>v=.pointer (some ⟨ba,oa+k * 5+1,none⟩)),([7,2],fun v _=>v=.agg #[hv,pf,pp,cv]),([3,8,2],fun v _=>v=.bool true),([9,2],fun v _=>v=.bool false),([2,10],fun v _=>v=.bool false),([11],fun v _=>v=.bool false),([12],fun v _=>v=.int .i64 (k:Int)),([13,12],fun v _=>v=.bool false),([14,12],fun v _=>v=.bool false),([15],fun v _=>v=undef),([15],fun v _=>v=undef),([16,17,15],fun v _=>v=undef),([18,15],fun v _=>v=undef),([19,15],fun v _=>v=undef),([15],fun v _=>v=undef),([15],fun v _=>v=undef),([22,15],fun v _=>v=undef),([21,23,15],fun v _=>v=undef),([24,15],fun v _=>v=undef),([25,15],fun v _=>v=undef),([20,26,15],fun v _=>v=undef),([15,27,12],fun v _=>v=.bool false),
    ([12,28],fun v _=>v=.bool false)] (by kernel_rfl) (by kernel_rfl) (by kernel_rfl) ?st ⟨?o0,?o1,?o2,?o3,?o4,?o5,?o6,?o7,?o8,?o9,?o10,?o11,?o12,?o13,?o14,?o15,?o16,?o17,?o18,?o19,?o20,?o21,?o22,?o23,?o24,?o25,?o26,?o27,?o28,?o29,trivial⟩ ?_
  case st =>
   intro k v W1 W2 h hb
   rcases k with _|_|_|_|_|_|_|_|_|_|_|_|_|_|_|_|_|_|_|_|_|_|_|_|_|_|_|_|_|_|k
   all_goals (first|exact h|trivial)
  case o0 => intro vs Wq hW hk;clear hk;change wpList _ _ _ _ (a00 _ vs [] _) _;simp only [a00];(try simp only [Act.put,zF,zI,zJ]);(repeat'(first|go_skip|go_guarded|go_step|go_upon));exact a01 (.int .i64 0) rfl (by go_simp) bR rfl
  case o1 => intro vs Wq hW hk;have g0:vs 0=.int .i64 0:=hk.1;clear hk;change wpList _ _ _ _ (a00 _ vs [0] _) _;simp only [a00,a03,yy0,yy1,yy2,yy3];(try simp only [Act.put,zF,zI,zJ]);rw [g0];(repeat'(first|go_skip|go_guarded|go_step|go_upon));exact a01 (.bool false) rfl (by go_simp) bR rfl
  case o2 => intro vs Wq hW hk;have g1:vs 1=.bool false:=hk.1;clear hk;change wpList _ _ _ _ (a00 _ vs [1] _) _;simp only [a00,a03,yy0,yy1,yy2,yy3];(try simp only [Act.put,zF,zI,zJ]);rw [g1];(repeat'(first|go_skip|go_guarded|go_step|go_upon));exact a01 (.bool false) rfl (by go_simp) bR rfl
  case o3 => intro vs Wq hW hk;have g2:vs 2=.bool false:=hk.1;clear hk;change wpList _ _ _ _ (a00 _ vs [2] _) _;simp only [a00,a03,yy0,yy1,yy2,yy3];(try simp only [Act.put,zF,zI,zJ]);rw [g2];have q:=a04 oc hW lc;(repeat'(first|go_skip|go_guarded|go_step|go_upon));exact a01 (.agg #[hw,pf,pp,cw]) rfl (by go_simp) bR rfl
  case o4 => intro vs Wq hW hk;have g2:vs 2=.bool false:=hk.1;clear hk;change wpList _ _ _ _ (a00 _ vs [2] _) _;simp only [a00,a03,yy0,yy1,yy2,yy3];(try simp only [Act.put,zF,zI,zJ]);rw [g2];(repeat'(first|go_skip|go_guarded|go_step|go_upon));exact a01 (.slice (some ⟨ba,oa,none⟩) L.length lca) rfl (by go_simp) bR rfl
  case o5 => intro vs Wq hW hk;have g2:vs 2=.bool false:=hk.1;clear hk;change wpList _ _ _ _ (a00 _ vs [2] _) _;simp only [a00,a03,yy0,yy1,yy2,yy3];(try simp only [Act.put,zF,zI,zJ]);rw [g2];(repeat'(first|go_skip|go_guarded|go_step|go_upon));exact a01 (.int .i64 (k:Int)) rfl (by go_simp) bR rfl
  case o6 => intro vs Wq hW hk;have g4:vs 4=.slice (some ⟨ba,oa,none⟩) L.length lca:=hk.1;have g5:vs 5=.int .i64 (k:Int):=hk.2.1;have g2:vs 2=.bool false:=hk.2.2.1;clear hk;change wpList _ _ _ _ (a00 _ vs [4,5,2] _) _;simp only [a00,a03,yy0,yy1,yy2,yy3];(try simp only [Act.put,zF,zI,zJ]);rw [g4,g5,g2];(repeat'(first|go_skip|go_guarded|go_step|go_upon));exact a01 (.pointer (some ⟨ba,oa+k * 5,none⟩)) rfl (by go_simp) bR rfl
  case o7 => intro vs Wq hW hk;have g6:vs 6=.pointer (some ⟨ba,oa+k * 5,none⟩):=hk.1;have g2:vs 2=.bool false:=hk.2.1;clear hk;change wpList _ _ _ _ (a00 _ vs [6,2] _) _;simp only [a00,a03,yy0,yy1,yy2,yy3];(try simp only [Act.put,zF,zI,zJ]);rw [g6,g2];(repeat'(first|go_skip|go_guarded|go_step|go_upon));exact a01 (.pointer (some ⟨ba,oa+k * 5+1,none⟩)) rfl (by go_simp) bR rfl
  case o8 => intro vs Wq hW hk;have g7:vs 7=.pointer (some ⟨ba,oa+k * 5+1,none⟩):=hk.1;have g2:vs 2=.bool false:=hk.2.1;clear hk;change wpList _ _ _ _ (a00 _ vs [7,2] _) _;simp only [a00,a03,yy0,yy1,yy2,yy3];(try simp only [Act.put,zF,zI,zJ]);rw [g7,g2];have q1:=ab8 (a04 ra0 (hC8.trans (hW.mono hC8.size)) la0) za xa;have s1:=q1.1;have s2:=q1.2.1;have s3:=q1.2.2;(repeat'(first|go_skip|go_guarded|go_step|go_upon));exact a01 (.agg #[hv,pf,pp,cv]) rfl (by go_simp) bR rfl
  case o9 => intro vs Wq hW hk;have g3:vs 3=.agg #[hw,pf,pp,cw]:=hk.1;have g8:vs 8=.agg #[hv,pf,pp,cv]:=hk.2.1;have g2:vs 2=.bool false:=hk.2.2.1;clear hk;change wpList _ _ _ _ (a00 _ vs [3,8,2] _) _;simp only [a00,a03,yy0,yy1,yy2,yy3];(try simp only [Act.put,zF,zI,zJ]);rw [g3,g8,g2];have HX:=zA (HE.out Wq hW);(repeat' (first | (go_at_call 38;((with_reducible refine (HX.out).mono ?_));rintro e w9 ⟨rfl,hb9⟩;dsimp only)|go_skip|go_guarded|go_step|go_upon));exact a01 (.bool true) rfl (by go_simp) hb9 rfl
  case o10 => intro vs Wq hW hk;have g9:vs 9=.bool true:=hk.1;have g2:vs 2=.bool false:=hk.2.1;clear hk;change wpList _ _ _ _ (a00 _ vs [9,2] _) _;simp only [a00,a03,yy0,yy1,yy2,yy3];(try simp only [Act.put,zF,zI,zJ]);rw [g9,g2];(repeat'(first|go_skip|go_guarded|go_step|go_upon));exact a01 (.bool false) rfl (by go_simp) bR rfl
  case o11 => intro vs Wq hW hk;have g2:vs 2=.bool false:=hk.1;have g10:vs 10=.bool false:=hk.2.1;clear hk;change wpList _ _ _ _ (a00 _ vs [2,10] _) _;simp only [a00,a03,yy0,yy1,yy2,yy3];(try simp only [Act.put,zF,zI,zJ]);rw [g2,g10];(repeat'(first|go_skip|go_guarded|go_step|go_upon));exact a01 (.bool false) rfl (by go_simp) bR rfl
  case o12 => intro vs Wq hW hk;have g11:vs 11=.bool false:=hk.1;clear hk;change wpList _ _ _ _ (a00 _ vs [11] _) _;simp only [a00,a03,yy0,yy1,yy2,yy3];(try simp only [Act.put,zF,zI,zJ]);rw [g11];(repeat'(first|go_skip|go_guarded|go_step|go_upon));exact a01 (.bool false) rfl (by go_simp) bR rfl
  case o13 => intro vs Wq hW hk;have g12:vs 12=.bool false:=hk.1;clear hk;change wpList _ _ _ _ (a00 _ vs [12] _) _;simp only [a00,a03,yy0,yy1,yy2,yy3];(try simp only [Act.put,zF,zI,zJ]);rw [g12];(repeat'(first|go_skip|go_guarded|go_step|go_upon));exact a01 (.int .i64 (k:Int)) rfl (by go_simp) bR rfl
  case o14 => intro vs Wq hW hk;have g13:vs 13=.int .i64 (k:Int):=hk.1;have g12:vs 12=.bool false:=hk.2.1;clear hk;change wpList _ _ _ _ (a00 _ vs [13,12] _) _;simp only [a00,a03,yy0,yy1,yy2,yy3];(try simp only [Act.put,zF,zI,zJ]);rw [g13,g12];(repeat'(first|go_skip|go_guarded|go_step|go_upon));exact a01 (.bool false) rfl (by go_simp) bR rfl
  case o15 => intro vs Wq hW hk;have g14:vs 14=.bool false:=hk.1;have g12:vs 12=.bool false:=hk.2.1;clear hk;change wpList _ _ _ _ (a00 _ vs [14,12] _) _;simp only [a00,a03,yy0,yy1,yy2,yy3];(try simp only [Act.put,zF,zI,zJ]);rw [g14,g12];(repeat'(first|go_skip|go_guarded|go_step|go_upon));exact a01 (.bool false) rfl (by go_simp) bR rfl
  case o16 => intro vs Wq hW hk;have g15:vs 15=.bool false:=hk.1;clear hk;change wpList _ _ _ _ (a00 _ vs [15] _) _;simp only [a00,a03,yy0,yy1,yy2,yy3];(try simp only [Act.put,zF,zI,zJ]);rw [g15];(repeat'(first|go_skip|go_guarded|go_step|go_upon));exact a01 undef rfl (by go_simp) bR rfl
  case o17 => intro vs Wq hW hk;have g15:vs 15=.bool false:=hk.1;clear hk;change wpList _ _ _ _ (a00 _ vs [15] _) _;simp only [a00,a03,yy0,yy1,yy2,yy3];(try simp only [Act.put,zF,zI,zJ]);rw [g15];(repeat'(first|go_skip|go_guarded|go_step|go_upon));exact a01 undef rfl (by go_simp) bR rfl
  case o18 => intro vs Wq hW hk;have g16:vs 16=undef:=hk.1;have g17:vs 17=undef:=hk.2.1;have g15:vs 15=.bool false:=hk.2.2.1;clear hk;change wpList _ _ _ _ (a00 _ vs [16,17,15] _) _;simp only [a00,a03,yy0,yy1,yy2,yy3];(try simp only [Act.put,zF,zI,zJ]);rw [g16,g17,g15];(repeat'(first|go_skip|go_guarded|go_step|go_upon));exact a01 undef rfl (by go_simp) bR rfl
  case o19 => intro vs Wq hW hk;have g18:vs 18=undef:=hk.1;have g15:vs 15=.bool false:=hk.2.1;clear hk;change wpList _ _ _ _ (a00 _ vs [18,15] _) _;simp only [a00,a03,yy0,yy1,yy2,yy3];(try simp only [Act.put,zF,zI,zJ]);rw [g18,g15];(repeat'(first|go_skip|go_guarded|go_step|go_upon));exact a01 undef rfl (by go_simp) bR rfl
  case o20 => intro vs Wq hW hk;have g19:vs 19=undef:=hk.1;have g15:vs 15=.bool false:=hk.2.1;clear hk;change wpList _ _ _ _ (a00 _ vs [19,15] _) _;simp only [a00,a03,yy0,yy1,yy2,yy3];(try simp only [Act.put,zF,zI,zJ]);rw [g19,g15];(repeat'(first|go_skip|go_guarded|go_step|go_upon));exact a01 undef rfl (by go_simp) bR rfl
  case o21 => intro vs Wq hW hk;have g15:vs 15=.bool false:=hk.1;clear hk;change wpList _ _ _ _ (a00 _ vs [15] _) _;simp only [a00,a03,yy0,yy1,yy2,yy3];(try simp only [Act.put,zF,zI,zJ]);rw [g15];(repeat'(first|go_skip|go_guarded|go_step|go_upon));exact a01 undef rfl (by go_simp) bR rfl
  case o22 => intro vs Wq hW hk;have g15:vs 15=.bool false:=hk.1;clear hk;change wpList _ _ _ _ (a00 _ vs [15] _) _;simp only [a00,a03,yy0,yy1,yy2,yy3];(try simp only [Act.put,zF,zI,zJ]);rw [g15];(repeat'(first|go_skip|go_guarded|go_step|go_upon));exact a01 undef rfl (by go_simp) bR rfl
  case o23 => intro vs Wq hW hk;have g22:vs 22=undef:=hk.1;have g15:vs 15=.bool false:=hk.2.1;clear hk;change wpList _ _ _ _ (a00 _ vs [22,15] _) _;simp only [a00,a03,yy0,yy1,yy2,yy3];(try simp only [Act.put,zF,zI,zJ]);rw [g22,g15];(repeat'(first|go_skip|go_guarded|go_step|go_upon));exact a01 undef rfl (by go_simp) bR rfl
  case o24 => intro vs Wq hW hk;have g21:vs 21=undef:=hk.1;have g23:vs 23=undef:=hk.2.1;have g15:vs 15=.bool false:=hk.2.2.1;clear hk;change wpList _ _ _ _ (a00 _ vs [21,23,15] _) _;simp only [a00,a03,yy0,yy1,yy2,yy3];(try simp only [Act.put,zF,zI,zJ]);rw [g21,g23,g15];(repeat'(first|go_skip|go_guarded|go_step|go_upon));exact a01 undef rfl (by go_simp) bR rfl
  case o25 => intro vs Wq hW hk;have g24:vs 24=undef:=hk.1;have g15:vs 15=.bool false:=hk.2.1;clear hk;change wpList _ _ _ _ (a00 _ vs [24,15] _) _;simp only [a00,a03,yy0,yy1,yy2,yy3];(try simp only [Act.put,zF,zI,zJ]);rw [g24,g15];(repeat'(first|go_skip|go_guarded|go_step|go_upon));exact a01 undef rfl (by go_simp) bR rfl
  case o26 => intro vs Wq hW hk;have g25:vs 25=undef:=hk.1;have g15:vs 15=.bool false:=hk.2.1;clear hk;change wpList _ _ _ _ (a00 _ vs [25,15] _) _;simp only [a00,a03,yy0,yy1,yy2,yy3];(try simp only [Act.put,zF,zI,zJ]);rw [g25,g15];(repeat'(first|go_skip|go_guarded|go_step|go_upon));exact a01 undef rfl (by go_simp) bR rfl
  case o27 => intro vs Wq hW hk;have g20:vs 20=undef:=hk.1;have g26:vs 26=undef:=hk.2.1;have g15:vs 15=.bool false:=hk.2.2.1;clear hk;change wpList _ _ _ _ (a00 _ vs [20,26,15] _) _;simp only [a00,a03,yy0,yy1,yy2,yy3];(try simp only [Act.put,zF,zI,zJ]);rw [g20,g26,g15];(repeat'(first|go_skip|go_guarded|go_step|go_upon));exact a01 undef rfl (by go_simp) bR rfl
  case o28 => intro vs Wq hW hk;have g15:vs 15=.bool false:=hk.1;have g27:vs 27=undef:=hk.2.1;have g12:vs 12=.bool false:=hk.2.2.1;clear hk;change wpList _ _ _ _ (a00 _ vs [15,27,12] _) _;simp only [a00,a03,yy0,yy1,yy2,yy3];(try simp only [Act.put,zF,zI,zJ]);rw [g15,g27,g12];(repeat'(first|go_skip|go_guarded|go_step|go_upon));exact a01 (.bool false) rfl (by go_simp) bR rfl
  case o29 => intro vs Wq hW hk;have g12:vs 12=.bool false:=hk.1;have g28:vs 28=.bool false:=hk.2.1;clear hk;change wpList _ _ _ _ (a00 _ vs [12,28] _) _;simp only [a00,a03,yy0,yy1,yy2,yy3];(try simp only [Act.put,zF,zI,zJ]);rw [g12,g28];(repeat'(first|go_skip|go_guarded|go_step|go_upon));exact a01 (.bool false) rfl (by go_simp) bR rfl
  intro vs Wx hWx hk
  have v29:vs 29=.bool false:=hk 29 (by decide)
  clear hk
  dsimp only [a1d,List.take,List.drop]
  (try simp only [Act.put,zF,zI,zJ])
  rw [v29]
  generalize vs 0=e0,vs 1=e1,vs 2=e2,vs 3=e3,vs 4=e4,vs 5=e5,vs 6=e6,vs 7=e7,vs 8=e8,vs 9=e9,vs 10=e10,vs 11=e11,vs 12=e12,vs 13=e13,vs 14=e14,vs 15=e15,vs 16=e16,vs 17=e17,vs 18=e18,vs 19=e19,vs 20=e20,vs 21=e21,vs 22=e22,vs 23=e23,vs 24=e24,vs 25=e25,vs 26=e26,vs 27=e27,vs 28=e28
  clear v29
  refine wpList_nil ?_
  have hC9:=hC8.trans (hWx.mono hC8.size)
  have HHA:=zA (HHB.out Wx hC9)
  have q9:=ab8 (a04 ra0 hC9 la0) za xa
  have s1:=q9.1
  have s2:=q9.2.1
  have s3:=q9.2.2
  clear q9
  by_cases hh:Zn.hasP pr d=true;rotate_left
  ·have h9:Zn.hasP pr d=false:=Bool.eq_false_iff.2 hh
   rw [h9] at HHA;rw [zS hh] at HCN;(have wc:((Zn.cntH L d k:Nat):Int)=((Zn.cntH L d (k+1):Nat):Int):=by rw [HCN.out];simp);clear hh h9
   repeat' (first | (go_at_call 39;((with_reducible refine (HHA.out).mono ?_));rintro e w9 ⟨rfl,hB9⟩;have hC10:=hC9.trans (hB9.mono hC9.size);dsimp only)|go_skip|go_guarded|go_step|go_upon)
   exact ⟨⟨k+1,by omega,by go_num,by rw [wc],hC10⟩,by simp [intOf];omega⟩
  have e1:=congrArg List.length (HHAS.out.1 hh)
  rw [List.length_singleton] at e1
  rw [hh] at HHA
  rw [zQ hh] at HCN
  obtain ⟨bi,oi,ci,hie,hic⟩:=ahd HIV.out (by omega)
  injection hie with hi1 _ hi3
  subst hi1 hi3
  have hI0:I.getD 0 0=n - o:=by rw [HHAS.out.1 hh];rfl
  have hia:=hic 0 (by omega)
  rw [hI0,uG] at hia
  have HIA:=zA hia
  have hob:=HOB.out (n - o) (by rw [HHAS.out.1 hh];simp)
  have wd:=zWI (n - o)
  have wc:IntKind.wrap .i64 ((Zn.cntH L d k:Nat)+1)=((Zn.cntH L d (k+1):Nat):Int):=by rw [HCN.out,wrap_in]<;>omega
  have i7:(0:Int) < (I.length:Int):=by omega
  clear hh e1 hic hI0 hia
  repeat' ((go_not_at_region 21);(first | (go_at_call 39;((with_reducible refine (HHA.out).mono ?_));rintro e w9 ⟨rfl,hB9⟩;have hC10:=hC9.trans (hB9.mono hC9.size);dsimp only)|go_skip|go_guarded|go_step|go_upon))
  have r10:=a04 ra0 hC10 la0
  have q10:=(a02 r10 (oa+k * 5)).trans (a0y 0 xa (by simp))
  have hia:=cellB HIA.out hC10
  go_quiet (fail)
  have hC11:=below_drewN hC10 nq
  clear s1 s2 s3 q10 r10
  generalize w9.drewN nq=w10 at *
  repeat'(first|go_skip|go_guarded|go_step|go_upon)
  exact ⟨⟨k+1,by omega,by go_num,rfl,hC11⟩,by simp [intOf];omega⟩
 have e0:(kv == 0)=false:=by simpa using hkv
 have hb6:=hb5
 clear oz oz1 oz2 oz3 oz4 oz5
 generalize u5=ux at *
 obtain ⟨fl,⟨la,lca,rfl,hl1⟩,hl2⟩:=hv1
 obtain ⟨fm,⟨ma,mca,rfl,hm1⟩,hm2⟩:=hv2
 have HL1:=zA hl1
 have HL2:=zA hl2
 have HM1:=zA hm1
 have HM2:=zA hm2
 clear hl1 hl2 hm1 hm2
 repeat'(first|go_skip|go_guarded|go_step|go_upon)
 go_loopw [21,22] (fun c i wr => ∃ k:Nat,k≤L.length∧i=.int .i64 k∧c=.int .i64 ((Zn.cntH L d k:Nat):Int)∧Below ux ux wr) (fun _ i _=>((L.length:Int) - intOf i).toNat)
 case atStart=>exact ⟨0,by omega,rfl,rfl,zC _ _⟩
 obtain ⟨k,hk,rfl,rfl,hC⟩:=hrel
 by_cases hlt:k < L.length;rotate_left
 ·have i1 : ¬ (k:Int) < (L.length:Int):=by omega
  obtain rfl:k=L.length:=by omega
  have hcnt:=HLN.out.2
  rw [zS (by omega)] at hcnt
  rw [hcnt]
  clear hcnt hlt hk i1
  repeat'(first|go_skip|go_guarded|go_step|go_upon)
  have hCU:=hC
  go_loopw [25,26] (fun c i ws => ∃ k:Nat,k≤M.length∧i=.int .i64 k∧c=.int .i64 ((Zn.cntH M d k:Nat):Int)∧Below ux ux ws) (fun _ i _=>((M.length:Int) - intOf i).toNat)
  case atStart=>exact ⟨0,by omega,rfl,rfl,hC⟩
  obtain ⟨k,hk,rfl,rfl,hD⟩:=hrel
  by_cases hlt:k < M.length;rotate_left
  ·have i1 : ¬ (k:Int) < (M.length:Int):=by omega
   (obtain rfl:k=M.length:=by omega);have hcnt:=HLU.out.2;rw [hcnt];clear hcnt hlt hk i1;have hDU:=hb6.trans (hD.mono hb6.size)
   repeat'(first|go_skip|go_guarded|go_step|go_upon)
   go_returns;exact ⟨rfl,hBV.trans (hDU.mono hBV.size)⟩
  have i1:(k:Int) < (M.length:Int):=by omega
  obtain ⟨ba,oa,rowa,Ta,fra,rfl,ra0,xs⟩:=HM1.out (by omega)
  obtain ⟨za,xa⟩:=xs k hlt
  obtain ⟨hv,cv,ea,iha,ica⟩:=HM2.out k hlt
  have hok:=HLM.out.ok k hlt
  have HHAS:Hid (Zn.hasP (M.getD k default).2 d=true↔ofs=(M.getD k default).1):=zA (HLU.out.1 k hlt)
  have HCN:Hid (Zn.cntH M d (k+1)=Zn.cntH M d k+if Zn.hasP (M.getD k default).2 d=true then 1 else 0):=zA rfl
  have hcl:=Zn.cntH_le M d k
  rw [ea] at xa
  clear ea xs
  generalize M.getD k default=xx at *
  obtain ⟨o,pr⟩:=xx
  dsimp only at xa iha ica hok HHAS HCN
  have la0:=a09 ra0
  have HHA:=zA (Has_calls hok.1 (iha.below hD).ints (ica.below hD).ints d0.1 (show d≤1099511627776 by omega))
  have q1:=ab8 (a04 ra0 hD la0) za xa
  have s1:=q1.1
  have s2:=q1.2.1
  have s3:=q1.2.2
  clear q1 hok iha ica
  generalize pr.from_=pf at *
  generalize pr.period=pp at *
  by_cases hh:Zn.hasP pr d=true
  ·obtain rfl:=HHAS.out.1 hh
   rw [hh] at HHA;rw [zQ hh] at HCN
   have wc:IntKind.wrap .i64 ((Zn.cntH M d k:Nat)+1)=((Zn.cntH M d (k+1):Nat):Int):=by rw [HCN.out,wrap_in]<;>omega
   clear hh
   repeat' ((go_not_at_region 28);(first | (go_at_call 39;((with_reducible refine (HHA.out).mono ?_));rintro e w9 ⟨rfl,hB9⟩;have hD10:=hD.trans (hB9.mono hD.size);have q10:=(a02 (a04 ra0 hD10 la0) (oa+k * 5)).trans (a0y 0 xa (by simp));dsimp only)|go_skip|go_guarded|go_step|go_upon))
   clear s1 s2 s3
   repeat'(first|go_skip|go_guarded|go_step|go_upon)
   exact ⟨⟨k+1,by omega,by go_num,rfl,hD10⟩,by simp [intOf];omega⟩
  have h9:Zn.hasP pr d=false:=Bool.eq_false_iff.2 hh
  rw [h9] at HHA
  rw [zS hh] at HCN
  have wc:((Zn.cntH M d k:Nat):Int)=((Zn.cntH M d (k+1):Nat):Int):=by rw [HCN.out];simp
  clear hh h9
  repeat' (first | (go_at_call 39;((with_reducible refine (HHA.out).mono ?_));rintro e w9 ⟨rfl,hB9⟩;have hD10:=hD.trans (hB9.mono hD.size);dsimp only)|go_skip|go_guarded|go_step|go_upon)
  exact ⟨⟨k+1,by omega,by go_num,by rw [wc],hD10⟩,by simp [intOf];omega⟩
 have i1:(k:Int) < (L.length:Int):=by omega
 obtain ⟨ba,oa,rowa,Ta,fra,rfl,ra0,xs⟩:=HL1.out (by omega)
 obtain ⟨za,xa⟩:=xs k hlt
 obtain ⟨hv,cv,ea,iha,ica⟩:=HL2.out k hlt
 have hok:=HLL.out.ok k hlt
 have HHAS:Hid (Zn.hasP (L.getD k default).2 d=true↔I = [n - (L.getD k default).1]):=zA (HLN.out.1 k hlt)
 have HCN:Hid (Zn.cntH L d (k+1)=Zn.cntH L d k+if Zn.hasP (L.getD k default).2 d=true then 1 else 0):=zA rfl
 have hcl:=Zn.cntH_le L d k
 have HPV:Hid (0 < k→∃ op,op < (L.getD k default).1∧oa+(k - 1) * 5+5≤rowa.size∧∃ h c f p,rowa.extract (oa+(k - 1) * 5) (oa+(k - 1) * 5+5)=#[.int .i64 op,h,.int .i64 f,.int .i64 p,c]):=zA (fun h=>by
  obtain ⟨zp,xp⟩:=xs (k - 1) (by omega)
  obtain ⟨h',c',ep,_,_⟩:=HL2.out (k - 1) (by omega)
  rw [ep] at xp
  exact ⟨_,HLL.out.lt (k - 1) k (by omega) hlt,zp,_,_,_,_,xp⟩)
 rw [ea] at xa
 clear ea xs
 generalize L.getD k default=xx at *
 obtain ⟨o,pr⟩:=xx
 dsimp only at xa iha ica hok HHAS HCN HPV
 obtain ⟨hp,hcc,hne⟩:=hok
 have la0:=a09 ra0
 have HCA:=zA (canonF_calls hp (iha.below hC).ints (ica.below hC).ints (fun h=>absurd h hne))
 rw [hcc] at HCA
 have HHB:=zA (fun (Wq:World) (hq:Below ux ux Wq)=>Has_calls hp (iha.below hq).ints (ica.below hq).ints d0.1 (show d≤1099511627776 by omega))
 have HE0:=zA (fun (Wq:World) (hq:Below ux ux Wq) (hw cw:Value) (h1:a2t Wq hw pr.head) (h2:a2t Wq cw pr.cycle)=>adi (p:=pr) h1.ints h2.ints (iha.below hq).ints (ica.below hq).ints (by have:=hp.n;omega) (by have:=hp.n;omega))
 clear hcc hne
 have hB0:=(zC ux.heap.size ux).trans hC
 have q1:=ab8 (a04 ra0 hC la0) za xa
 have s1:=q1.1
 have s2:=q1.2.1
 have s3:=q1.2.2
 clear q1 hp iha ica
 generalize pr.from_=pf at *
 generalize pr.period=pp at *
 repeat' ((go_not_at_region 17);(first | (go_at_call 37;((with_reducible refine (HCA.out).mono ?_));rintro e w7 ⟨⟨hw,cw,rfl,hhw,hcw⟩,hB7⟩;have hC7:=hC.trans (hB7.mono hC.size);have hon7:=a4k hhw.one hcw.one pf pp;dsimp only)|go_skip|go_guarded|go_step|go_upon))
 have A8:=(zC w7.heap.size w7).alloc (zD _) (.cells #[hw,pf,pp,cw] 65)
 have oc:obj (w7.alloc (.cells #[hw,pf,pp,cw] 65)) w7.heap.size=some (.cells #[hw,pf,pp,cw] 65 (0,0)):=a05 _ _ _ rfl
 have hC8:=hC7.trans (A8.mono hC7.size)
 have hhw:=hhw.below A8
 have hcw:=hcw.below A8
 clear A8 hC7 s1 s2 s3 HCA hB0
 generalize w7.alloc (.cells #[hw,pf,pp,cw] 65)=w8 at *
 generalize w7.heap.size=bc at *
 have lc:=a09 oc
 have HE:=zA (fun (Wq:World) (hq:Below w8 w8 Wq)=>HE0.out Wq (hC8.trans (hq.mono hC8.size)) hw cw (hhw.below hq) (hcw.below hq))
 clear HE0 hhw hcw
 by_cases hk0:0 < k
 ·obtain ⟨op,hop,zp,hq,cq,fq,pq,xp⟩:=HPV.out hk0
  have t1:(0:Int) < (k:Int):=by omega
  have t2 : ¬ o≤op:=by omega
  have wk:IntKind.wrap .i64 ((k:Int) - 1)=((k - 1:Nat):Int):=by rw [wrap_in]<;>omega
  have t3:((k - 1:Nat):Int) < (L.length:Int):=by omega
  clear HPV
  refine a0k 30 [([],fun v _=>v=.int .i64 0),([0],fun v _=>v=.bool false),([1],fun v _=>v=.bool false),([2],fun v _=>v=.agg #[hw,pf,pp,cw]),([2],fun v _=>v=.slice (some ⟨ba,oa,none⟩) L.length lca),([2],fun v _=>v=.int .i64 (k:Int)),([4,5,2],fun v _=>v=.pointer (some ⟨ba,oa+k * 5,none⟩)),([6,2],fun v _=>v=.pointer (some ⟨ba,oa+k * 5+1,none⟩)),([7,2],fun v _=>v=.agg #[hv,pf,pp,cv]),([3,8,2],fun v _=>v=.bool true),([9,2],fun v _=>v=.bool false),([2,10],fun v _=>v=.bool false),([11],fun v _=>v=.bool false),([12],fun v _=>v=.int .i64 (k:Int)),([13,12],fun v _=>v=.bool true),([14,12],fun v _=>v=.bool true),([15],fun v _=>v=.slice (some ⟨ba,oa,none⟩) L.length lca),([15],fun v _=>v=.int .i64 (k:Int)),([16,17,15],fun v _=>v=.pointer (some ⟨ba,oa+k * 5,none⟩)),([18,15],fun v _=>v=.pointer (some ⟨ba,oa+k * 5,none⟩)),([19,15],fun v _=>v=.int .i64 o),([15],fun v _=>v=.slice (some ⟨ba,oa,none⟩) L.length lca),([15],fun v _=>v=.int .i64 (k:Int)),([22,15],fun v _=>v=.int .i64 ((k - 1:Nat):Int)),([21,23,15],fun v _=>v=.pointer (some ⟨ba,oa+(k - 1) * 5,none⟩)),([24,15],fun v _=>v=.pointer (some ⟨ba,oa+(k - 1) * 5,none⟩)),([25,15],fun v _=>v=.int .i64 op),([20,26,15],fun v _=>v=.bool false),([15,27,12],fun v _=>v=.bool false),
    ([12,28],fun v _=>v=.bool false)] (by kernel_rfl) (by kernel_rfl) (by kernel_rfl) ?st ⟨?o0,?o1,?o2,?o3,?o4,?o5,?o6,?o7,?o8,?o9,?o10,?o11,?o12,?o13,?o14,?o15,?o16,?o17,?o18,?o19,?o20,?o21,?o22,?o23,?o24,?o25,?o26,?o27,?o28,?o29,trivial⟩ ?_
  case st =>
   intro k v W1 W2 h hb
   rcases k with _|_|_|_|_|_|_|_|_|_|_|_|_|_|_|_|_|_|_|_|_|_|_|_|_|_|_|_|_|_|k
   all_goals (first|exact h|trivial)
  case o0 => intro vs Wq hW hk;clear hk;change wpList _ _ _ _ (a00 _ vs [] _) _;simp only [a00];(try simp only [Act.put,zF,zI,zJ]);(repeat'(first|go_skip|go_guarded|go_step|go_upon));exact a01 (.int .i64 0) rfl (by go_simp) bR rfl
  case o1 => intro vs Wq hW hk;have g0:vs 0=.int .i64 0:=hk.1;clear hk;change wpList _ _ _ _ (a00 _ vs [0] _) _;simp only [a00,a03,yy0,yy1,yy2,yy3];(try simp only [Act.put,zF,zI,zJ]);rw [g0];(repeat'(first|go_skip|go_guarded|go_step|go_upon));exact a01 (.bool false) rfl (by go_simp) bR rfl
  case o2 => intro vs Wq hW hk;have g1:vs 1=.bool false:=hk.1;clear hk;change wpList _ _ _ _ (a00 _ vs [1] _) _;simp only [a00,a03,yy0,yy1,yy2,yy3];(try simp only [Act.put,zF,zI,zJ]);rw [g1];(repeat'(first|go_skip|go_guarded|go_step|go_upon));exact a01 (.bool false) rfl (by go_simp) bR rfl
  case o3 => intro vs Wq hW hk;have g2:vs 2=.bool false:=hk.1;clear hk;change wpList _ _ _ _ (a00 _ vs [2] _) _;simp only [a00,a03,yy0,yy1,yy2,yy3];(try simp only [Act.put,zF,zI,zJ]);rw [g2];have q:=a04 oc hW lc;(repeat'(first|go_skip|go_guarded|go_step|go_upon));exact a01 (.agg #[hw,pf,pp,cw]) rfl (by go_simp) bR rfl
  case o4 => intro vs Wq hW hk;have g2:vs 2=.bool false:=hk.1;clear hk;change wpList _ _ _ _ (a00 _ vs [2] _) _;simp only [a00,a03,yy0,yy1,yy2,yy3];(try simp only [Act.put,zF,zI,zJ]);rw [g2];(repeat'(first|go_skip|go_guarded|go_step|go_upon));exact a01 (.slice (some ⟨ba,oa,none⟩) L.length lca) rfl (by go_simp) bR rfl
  case o5 => intro vs Wq hW hk;have g2:vs 2=.bool false:=hk.1;clear hk;change wpList _ _ _ _ (a00 _ vs [2] _) _;simp only [a00,a03,yy0,yy1,yy2,yy3];(try simp only [Act.put,zF,zI,zJ]);rw [g2];(repeat'(first|go_skip|go_guarded|go_step|go_upon));exact a01 (.int .i64 (k:Int)) rfl (by go_simp) bR rfl
  case o6 => intro vs Wq hW hk;have g4:vs 4=.slice (some ⟨ba,oa,none⟩) L.length lca:=hk.1;have g5:vs 5=.int .i64 (k:Int):=hk.2.1;have g2:vs 2=.bool false:=hk.2.2.1;clear hk;change wpList _ _ _ _ (a00 _ vs [4,5,2] _) _;simp only [a00,a03,yy0,yy1,yy2,yy3];(try simp only [Act.put,zF,zI,zJ]);rw [g4,g5,g2];(repeat'(first|go_skip|go_guarded|go_step|go_upon));exact a01 (.pointer (some ⟨ba,oa+k * 5,none⟩)) rfl (by go_simp) bR rfl
  case o7 => intro vs Wq hW hk;have g6:vs 6=.pointer (some ⟨ba,oa+k * 5,none⟩):=hk.1;have g2:vs 2=.bool false:=hk.2.1;clear hk;change wpList _ _ _ _ (a00 _ vs [6,2] _) _;simp only [a00,a03,yy0,yy1,yy2,yy3];(try simp only [Act.put,zF,zI,zJ]);rw [g6,g2];(repeat'(first|go_skip|go_guarded|go_step|go_upon));exact a01 (.pointer (some ⟨ba,oa+k * 5+1,none⟩)) rfl (by go_simp) bR rfl
  case o8 => intro vs Wq hW hk;have g7:vs 7=.pointer (some ⟨ba,oa+k * 5+1,none⟩):=hk.1;have g2:vs 2=.bool false:=hk.2.1;clear hk;change wpList _ _ _ _ (a00 _ vs [7,2] _) _;simp only [a00,a03,yy0,yy1,yy2,yy3];(try simp only [Act.put,zF,zI,zJ]);rw [g7,g2];have q1:=ab8 (a04 ra0 (hC8.trans (hW.mono hC8.size)) la0) za xa;have s1:=q1.1;have s2:=q1.2.1;have s3:=q1.2.2;(repeat'(first|go_skip|go_guarded|go_step|go_upon));exact a01 (.agg #[hv,pf,pp,cv]) rfl (by go_simp) bR rfl
  case o9 => intro vs Wq hW hk;have g3:vs 3=.agg #[hw,pf,pp,cw]:=hk.1;have g8:vs 8=.agg #[hv,pf,pp,cv]:=hk.2.1;have g2:vs 2=.bool false:=hk.2.2.1;clear hk;change wpList _ _ _ _ (a00 _ vs [3,8,2] _) _;simp only [a00,a03,yy0,yy1,yy2,yy3];(try simp only [Act.put,zF,zI,zJ]);rw [g3,g8,g2];have HX:=zA (HE.out Wq hW);(repeat' (first | (go_at_call 38;((with_reducible refine (HX.out).mono ?_));rintro e w9 ⟨rfl,hb9⟩;dsimp only)|go_skip|go_guarded|go_step|go_upon));exact a01 (.bool true) rfl (by go_simp) hb9 rfl
  case o10 => intro vs Wq hW hk;have g9:vs 9=.bool true:=hk.1;have g2:vs 2=.bool false:=hk.2.1;clear hk;change wpList _ _ _ _ (a00 _ vs [9,2] _) _;simp only [a00,a03,yy0,yy1,yy2,yy3];(try simp only [Act.put,zF,zI,zJ]);rw [g9,g2];(repeat'(first|go_skip|go_guarded|go_step|go_upon));exact a01 (.bool false) rfl (by go_simp) bR rfl
  case o11 => intro vs Wq hW hk;have g2:vs 2=.bool false:=hk.1;have g10:vs 10=.bool false:=hk.2.1;clear hk;change wpList _ _ _ _ (a00 _ vs [2,10] _) _;simp only [a00,a03,yy0,yy1,yy2,yy3];(try simp only [Act.put,zF,zI,zJ]);rw [g2,g10];(repeat'(first|go_skip|go_guarded|go_step|go_upon));exact a01 (.bool false) rfl (by go_simp) bR rfl
  case o12 => intro vs Wq hW hk;have g11:vs 11=.bool false:=hk.1;clear hk;change wpList _ _ _ _ (a00 _ vs [11] _) _;simp only [a00,a03,yy0,yy1,yy2,yy3];(try simp only [Act.put,zF,zI,zJ]);rw [g11];(repeat'(first|go_skip|go_guarded|go_step|go_upon));exact a01 (.bool false) rfl (by go_simp) bR rfl
  case o13 => intro vs Wq hW hk;have g12:vs 12=.bool false:=hk.1;clear hk;change wpList _ _ _ _ (a00 _ vs [12] _) _;simp only [a00,a03,yy0,yy1,yy2,yy3];(try simp only [Act.put,zF,zI,zJ]);rw [g12];(repeat'(first|go_skip|go_guarded|go_step|go_upon));exact a01 (.int .i64 (k:Int)) rfl (by go_simp) bR rfl
  case o14 => intro vs Wq hW hk;have g13:vs 13=.int .i64 (k:Int):=hk.1;have g12:vs 12=.bool false:=hk.2.1;clear hk;change wpList _ _ _ _ (a00 _ vs [13,12] _) _;simp only [a00,a03,yy0,yy1,yy2,yy3];(try simp only [Act.put,zF,zI,zJ]);rw [g13,g12];(repeat'(first|go_skip|go_guarded|go_step|go_upon));exact a01 (.bool true) rfl (by go_simp) bR rfl
  case o15 => intro vs Wq hW hk;have g14:vs 14=.bool true:=hk.1;have g12:vs 12=.bool false:=hk.2.1;clear hk;change wpList _ _ _ _ (a00 _ vs [14,12] _) _;simp only [a00,a03,yy0,yy1,yy2,yy3];(try simp only [Act.put,zF,zI,zJ]);rw [g14,g12];(repeat'(first|go_skip|go_guarded|go_step|go_upon));exact a01 (.bool true) rfl (by go_simp) bR rfl
  case o16 => intro vs Wq hW hk;have g15:vs 15=.bool true:=hk.1;clear hk;change wpList _ _ _ _ (a00 _ vs [15] _) _;simp only [a00,a03,yy0,yy1,yy2,yy3];(try simp only [Act.put,zF,zI,zJ]);rw [g15];(repeat'(first|go_skip|go_guarded|go_step|go_upon));exact a01 (.slice (some ⟨ba,oa,none⟩) L.length lca) rfl (by go_simp) bR rfl
  case o17 => intro vs Wq hW hk;have g15:vs 15=.bool true:=hk.1;clear hk;change wpList _ _ _ _ (a00 _ vs [15] _) _;simp only [a00,a03,yy0,yy1,yy2,yy3];(try simp only [Act.put,zF,zI,zJ]);rw [g15];(repeat'(first|go_skip|go_guarded|go_step|go_upon));exact a01 (.int .i64 (k:Int)) rfl (by go_simp) bR rfl
  case o18 => intro vs Wq hW hk;have g16:vs 16=.slice (some ⟨ba,oa,none⟩) L.length lca:=hk.1;have g17:vs 17=.int .i64 (k:Int):=hk.2.1;have g15:vs 15=.bool true:=hk.2.2.1;clear hk;change wpList _ _ _ _ (a00 _ vs [16,17,15] _) _;simp only [a00,a03,yy0,yy1,yy2,yy3];(try simp only [Act.put,zF,zI,zJ]);rw [g16,g17,g15];(repeat'(first|go_skip|go_guarded|go_step|go_upon));exact a01 (.pointer (some ⟨ba,oa+k * 5,none⟩)) rfl (by go_simp) bR rfl
  case o19 => intro vs Wq hW hk;have g18:vs 18=.pointer (some ⟨ba,oa+k * 5,none⟩):=hk.1;have g15:vs 15=.bool true:=hk.2.1;clear hk;change wpList _ _ _ _ (a00 _ vs [18,15] _) _;simp only [a00,a03,yy0,yy1,yy2,yy3];(try simp only [Act.put,zF,zI,zJ]);rw [g18,g15];(repeat'(first|go_skip|go_guarded|go_step|go_upon));exact a01 (.pointer (some ⟨ba,oa+k * 5,none⟩)) rfl (by go_simp) bR rfl
  case o20 => intro vs Wq hW hk;have g19:vs 19=.pointer (some ⟨ba,oa+k * 5,none⟩):=hk.1;have g15:vs 15=.bool true:=hk.2.1;clear hk;change wpList _ _ _ _ (a00 _ vs [19,15] _) _;simp only [a00,a03,yy0,yy1,yy2,yy3];(try simp only [Act.put,zF,zI,zJ]);rw [g19,g15];have q:=(a02 (a04 ra0 (hC8.trans (hW.mono hC8.size)) la0) (oa+k * 5)).trans (a0y 0 xa (by simp));(repeat'(first|go_skip|go_guarded|go_step|go_upon));exact a01 (.int .i64 o) rfl (by go_simp) bR rfl
  case o21 => intro vs Wq hW hk;have g15:vs 15=.bool true:=hk.1;clear hk;change wpList _ _ _ _ (a00 _ vs [15] _) _;simp only [a00,a03,yy0,yy1,yy2,yy3];(try simp only [Act.put,zF,zI,zJ]);rw [g15];(repeat'(first|go_skip|go_guarded|go_step|go_upon));exact a01 (.slice (some ⟨ba,oa,none⟩) L.length lca) rfl (by go_simp) bR rfl
  case o22 => intro vs Wq hW hk;have g15:vs 15=.bool true:=hk.1;clear hk;change wpList _ _ _ _ (a00 _ vs [15] _) _;simp only [a00,a03,yy0,yy1,yy2,yy3];(try simp only [Act.put,zF,zI,zJ]);rw [g15];(repeat'(first|go_skip|go_guarded|go_step|go_upon));exact a01 (.int .i64 (k:Int)) rfl (by go_simp) bR rfl
  case o23 => intro vs Wq hW hk;have g22:vs 22=.int .i64 (k:Int):=hk.1;have g15:vs 15=.bool true:=hk.2.1;clear hk;change wpList _ _ _ _ (a00 _ vs [22,15] _) _;simp only [a00,a03,yy0,yy1,yy2,yy3];(try simp only [Act.put,zF,zI,zJ]);rw [g22,g15];(repeat'(first|go_skip|go_guarded|go_step|go_upon));exact a01 (.int .i64 ((k - 1:Nat):Int)) rfl (by go_simp) bR rfl
  case o24 => intro vs Wq hW hk;have g21:vs 21=.slice (some ⟨ba,oa,none⟩) L.length lca:=hk.1;have g23:vs 23=.int .i64 ((k - 1:Nat):Int):=hk.2.1;have g15:vs 15=.bool true:=hk.2.2.1;clear hk;change wpList _ _ _ _ (a00 _ vs [21,23,15] _) _;simp only [a00,a03,yy0,yy1,yy2,yy3];(try simp only [Act.put,zF,zI,zJ]);rw [g21,g23,g15];(repeat'(first|go_skip|go_guarded|go_step|go_upon));exact a01 (.pointer (some ⟨ba,oa+(k - 1) * 5,none⟩)) rfl (by go_simp) bR rfl
  case o25 => intro vs Wq hW hk;have g24:vs 24=.pointer (some ⟨ba,oa+(k - 1) * 5,none⟩):=hk.1;have g15:vs 15=.bool true:=hk.2.1;clear hk;change wpList _ _ _ _ (a00 _ vs [24,15] _) _;simp only [a00,a03,yy0,yy1,yy2,yy3];(try simp only [Act.put,zF,zI,zJ]);rw [g24,g15];(repeat'(first|go_skip|go_guarded|go_step|go_upon));exact a01 (.pointer (some ⟨ba,oa+(k - 1) * 5,none⟩)) rfl (by go_simp) bR rfl
  case o26 => intro vs Wq hW hk;have g25:vs 25=.pointer (some ⟨ba,oa+(k - 1) * 5,none⟩):=hk.1;have g15:vs 15=.bool true:=hk.2.1;clear hk;change wpList _ _ _ _ (a00 _ vs [25,15] _) _;simp only [a00,a03,yy0,yy1,yy2,yy3];(try simp only [Act.put,zF,zI,zJ]);rw [g25,g15];have q:=(a02 (a04 ra0 (hC8.trans (hW.mono hC8.size)) la0) (oa+(k - 1) * 5)).trans (a0y 0 xp (by simp));(repeat'(first|go_skip|go_guarded|go_step|go_upon));exact a01 (.int .i64 op) rfl (by go_simp) bR rfl
  case o27 => intro vs Wq hW hk;have g20:vs 20=.int .i64 o:=hk.1;have g26:vs 26=.int .i64 op:=hk.2.1;have g15:vs 15=.bool true:=hk.2.2.1;clear hk;change wpList _ _ _ _ (a00 _ vs [20,26,15] _) _;simp only [a00,a03,yy0,yy1,yy2,yy3];(try simp only [Act.put,zF,zI,zJ]);rw [g20,g26,g15];(repeat'(first|go_skip|go_guarded|go_step|go_upon));exact a01 (.bool false) rfl (by go_simp) bR rfl
  case o28 => intro vs Wq hW hk;have g15:vs 15=.bool true:=hk.1;have g27:vs 27=.bool false:=hk.2.1;have g12:vs 12=.bool false:=hk.2.2.1;clear hk;change wpList _ _ _ _ (a00 _ vs [15,27,12] _) _;simp only [a00,a03,yy0,yy1,yy2,yy3];(try simp only [Act.put,zF,zI,zJ]);rw [g15,g27,g12];(repeat'(first|go_skip|go_guarded|go_step|go_upon));exact a01 (.bool false) rfl (by go_simp) bR rfl
  case o29 => intro vs Wq hW hk;have g12:vs 12=.bool false:=hk.1;have g28:vs 28=.bool false:=hk.2.1;clear hk;change wpList _ _ _ _ (a00 _ vs [12,28] _) _;simp only [a00,a03,yy0,yy1,yy2,yy3];(try simp only [Act.put,zF,zI,zJ]);rw [g12,g28];(repeat'(first|go_skip|go_guarded|go_step|go_upon));exact a01 (.bool false) rfl (by go_simp) bR rfl
  intro vs Wx hWx hk
  have v29:vs 29=.bool false:=hk 29 (by decide)
  clear hk
  dsimp only [a1d,List.take,List.drop]
  (try simp only [Act.put,zF,zI,zJ])
  rw [v29]
  generalize vs 0=e0,vs 1=e1,vs 2=e2,vs 3=e3,vs 4=e4,vs 5=e5,vs 6=e6,vs 7=e7,vs 8=e8,vs 9=e9,vs 10=e10,vs 11=e11,vs 12=e12,vs 13=e13,vs 14=e14,vs 15=e15,vs 16=e16,vs 17=e17,vs 18=e18,vs 19=e19,vs 20=e20,vs 21=e21,vs 22=e22,vs 23=e23,vs 24=e24,vs 25=e25,vs 26=e26,vs 27=e27,vs 28=e28
  clear v29
  refine wpList_nil ?_
  have hC9:=hC8.trans (hWx.mono hC8.size)
  have HHA:=zA (HHB.out Wx hC9)
  have q9:=ab8 (a04 ra0 hC9 la0) za xa
  have s1:=q9.1
  have s2:=q9.2.1
  have s3:=q9.2.2
  clear q9
  by_cases hh:Zn.hasP pr d=true
  ·have e1:=congrArg List.length (HHAS.out.1 hh)
   rw [List.length_singleton] at e1;exfalso;omega
  have h9:Zn.hasP pr d=false:=Bool.eq_false_iff.2 hh
  rw [h9] at HHA
  rw [zS hh] at HCN
  have wc:((Zn.cntH L d k:Nat):Int)=((Zn.cntH L d (k+1):Nat):Int):=by rw [HCN.out];simp
  clear hh h9
  repeat' (first | (go_at_call 39;((with_reducible refine (HHA.out).mono ?_));rintro e w9 ⟨rfl,hB9⟩;have hC10:=hC9.trans (hB9.mono hC9.size);dsimp only)|go_skip|go_guarded|go_step|go_upon)
  exact ⟨⟨k+1,by omega,by go_num,by rw [wc],hC10⟩,by simp [intOf];omega⟩
 have t1 : ¬ (0:Int) < (k:Int):=by omega
 clear HPV
 refine a0k 30 [([],fun v _=>v=.int .i64 0),([0],fun v _=>v=.bool false),([1],fun v _=>v=.bool false),([2],fun v _=>v=.agg #[hw,pf,pp,cw]),([2],fun v _=>v=.slice (some ⟨ba,oa,none⟩) L.length lca),([2],fun v _=>v=.int .i64 (k:Int)),([4,5,2],fun v _=>v=.pointer (some ⟨ba,oa+k * 5,none⟩)),([6,2],fun v _=>v=.pointer (some ⟨ba,oa+k * 5+1,none⟩)),([7,2],fun v _=>v=.agg #[hv,pf,pp,cv]),([3,8,2],fun v _=>v=.bool true),([9,2],fun v _=>v=.bool false),([2,10],fun v _=>v=.bool false),([11],fun v _=>v=.bool false),([12],fun v _=>v=.int .i64 (k:Int)),([13,12],fun v _=>v=.bool false),([14,12],fun v _=>v=.bool false),([15],fun v _=>v=undef),([15],fun v _=>v=undef),([16,17,15],fun v _=>v=undef),([18,15],fun v _=>v=undef),([19,15],fun v _=>v=undef),([15],fun v _=>v=undef),([15],fun v _=>v=undef),([22,15],fun v _=>v=undef),([21,23,15],fun v _=>v=undef),([24,15],fun v _=>v=undef),([25,15],fun v _=>v=undef),([20,26,15],fun v _=>v=undef),([15,27,12],fun v _=>v=.bool false),
   ([12,28],fun v _=>v=.bool false)] (by kernel_rfl) (by kernel_rfl) (by kernel_rfl) ?st ⟨?o0,?o1,?o2,?o3,?o4,?o5,?o6,?o7,?o8,?o9,?o10,?o11,?o12,?o13,?o14,?o15,?o16,?o17,?o18,?o19,?o20,?o21,?o22,?o23,?o24,?o25,?o26,?o27,?o28,?o29,trivial⟩ ?_
 case st =>
  intro k v W1 W2 h hb
  rcases k with _|_|_|_|_|_|_|_|_|_|_|_|_|_|_|_|_|_|_|_|_|_|_|_|_|_|_|_|_|_|k
  all_goals (first|exact h|trivial)
 case o0 => intro vs Wq hW hk;clear hk;change wpList _ _ _ _ (a00 _ vs [] _) _;simp only [a00];(try simp only [Act.put,zF,zI,zJ]);(repeat'(first|go_skip|go_guarded|go_step|go_upon));exact a01 (.int .i64 0) rfl (by go_simp) bR rfl
 case o1 => intro vs Wq hW hk;have g0:vs 0=.int .i64 0:=hk.1;clear hk;change wpList _ _ _ _ (a00 _ vs [0] _) _;simp only [a00,a03,yy0,yy1,yy2,yy3];(try simp only [Act.put,zF,zI,zJ]);rw [g0];(repeat'(first|go_skip|go_guarded|go_step|go_upon));exact a01 (.bool false) rfl (by go_simp) bR rfl
 case o2 => intro vs Wq hW hk;have g1:vs 1=.bool false:=hk.1;clear hk;change wpList _ _ _ _ (a00 _ vs [1] _) _;simp only [a00,a03,yy0,yy1,yy2,yy3];(try simp only [Act.put,zF,zI,zJ]);rw [g1];(repeat'(first|go_skip|go_guarded|go_step|go_upon));exact a01 (.bool false) rfl (by go_simp) bR rfl
 case o3 => intro vs Wq hW hk;have g2:vs 2=.bool false:=hk.1;clear hk;change wpList _ _ _ _ (a00 _ vs [2] _) _;simp only [a00,a03,yy0,yy1,yy2,yy3];(try simp only [Act.put,zF,zI,zJ]);rw [g2];have q:=a04 oc hW lc;(repeat'(first|go_skip|go_guarded|go_step|go_upon));exact a01 (.agg #[hw,pf,pp,cw]) rfl (by go_simp) bR rfl
 case o4 => intro vs Wq hW hk;have g2:vs 2=.bool false:=hk.1;clear hk;change wpList _ _ _ _ (a00 _ vs [2] _) _;simp only [a00,a03,yy0,yy1,yy2,yy3];(try simp only [Act.put,zF,zI,zJ]);rw [g2];(repeat'(first|go_skip|go_guarded|go_step|go_upon));exact a01 (.slice (some ⟨ba,oa,none⟩) L.length lca) rfl (by go_simp) bR rfl
 case o5 => intro vs Wq hW hk;have g2:vs 2=.bool false:=hk.1;clear hk;change wpList _ _ _ _ (a00 _ vs [2] _) _;simp only [a00,a03,yy0,yy1,yy2,yy3];(try simp only [Act.put,zF,zI,zJ]);rw [g2];(repeat'(first|go_skip|go_guarded|go_step|go_upon));exact a01 (.int .i64 (k:Int)) rfl (by go_simp) bR rfl
 case o6 => intro vs Wq hW hk;have g4:vs 4=.slice (some ⟨ba,oa,none⟩) L.length lca:=hk.1;have g5:vs 5=.int .i64 (k:Int):=hk.2.1;have g2:vs 2=.bool false:=hk.2.2.1;clear hk;change wpList _ _ _ _ (a00 _ vs [4,5,2] _) _;simp only [a00,a03,yy0,yy1,yy2,yy3];(try simp only [Act.put,zF,zI,zJ]);rw [g4,g5,g2];(repeat'(first|go_skip|go_guarded|go_step|go_upon));exact a01 (.pointer (some ⟨ba,oa+k * 5,none⟩)) rfl (by go_simp) bR rfl
 case o7 => intro vs Wq hW hk;have g6:vs 6=.pointer (some ⟨ba,oa+k * 5,none⟩):=hk.1;have g2:vs 2=.bool false:=hk.2.1;clear hk;change wpList _ _ _ _ (a00 _ vs [6,2] _) _;simp only [a00,a03,yy0,yy1,yy2,yy3];(try simp only [Act.put,zF,zI,zJ]);rw [g6,g2];(repeat'(first|go_skip|go_guarded|go_step|go_upon));exact a01 (.pointer (some ⟨ba,oa+k * 5+1,none⟩)) rfl (by go_simp) bR rfl
 case o8 => intro vs Wq hW hk;have g7:vs 7=.pointer (some ⟨ba,oa+k * 5+1,none⟩):=hk.1;have g2:vs 2=.bool false:=hk.2.1;clear hk;change wpList _ _ _ _ (a00 _ vs [7,2] _) _;simp only [a00,a03,yy0,yy1,yy2,yy3];(try simp only [Act.put,zF,zI,zJ]);rw [g7,g2];have q1:=ab8 (a04 ra0 (hC8.trans (hW.mono hC8.size)) la0) za xa;have s1:=q1.1;have s2:=q1.2.1;have s3:=q1.2.2;(repeat'(first|go_skip|go_guarded|go_step|go_upon));exact a01 (.agg #[hv,pf,pp,cv]) rfl (by go_simp) bR rfl
 case o9 => intro vs Wq hW hk;have g3:vs 3=.agg #[hw,pf,pp,cw]:=hk.1;have g8:vs 8=.agg #[hv,pf,pp,cv]:=hk.2.1;have g2:vs 2=.bool false:=hk.2.2.1;clear hk;change wpList _ _ _ _ (a00 _ vs [3,8,2] _) _;simp only [a00,a03,yy0,yy1,yy2,yy3];(try simp only [Act.put,zF,zI,zJ]);rw [g3,g8,g2];have HX:=zA (HE.out Wq hW);(repeat' (first | (go_at_call 38;((with_reducible refine (HX.out).mono ?_));rintro e w9 ⟨rfl,hb9⟩;dsimp only)|go_skip|go_guarded|go_step|go_upon));exact a01 (.bool true) rfl (by go_simp) hb9 rfl
 case o10 => intro vs Wq hW hk;have g9:vs 9=.bool true:=hk.1;have g2:vs 2=.bool false:=hk.2.1;clear hk;change wpList _ _ _ _ (a00 _ vs [9,2] _) _;simp only [a00,a03,yy0,yy1,yy2,yy3];(try simp only [Act.put,zF,zI,zJ]);rw [g9,g2];(repeat'(first|go_skip|go_guarded|go_step|go_upon));exact a01 (.bool false) rfl (by go_simp) bR rfl
 case o11 => intro vs Wq hW hk;have g2:vs 2=.bool false:=hk.1;have g10:vs 10=.bool false:=hk.2.1;clear hk;change wpList _ _ _ _ (a00 _ vs [2,10] _) _;simp only [a00,a03,yy0,yy1,yy2,yy3];(try simp only [Act.put,zF,zI,zJ]);rw [g2,g10];(repeat'(first|go_skip|go_guarded|go_step|go_upon));exact a01 (.bool false) rfl (by go_simp) bR rfl
 case o12 => intro vs Wq hW hk;have g11:vs 11=.bool false:=hk.1;clear hk;change wpList _ _ _ _ (a00 _ vs [11] _) _;simp only [a00,a03,yy0,yy1,yy2,yy3];(try simp only [Act.put,zF,zI,zJ]);rw [g11];(repeat'(first|go_skip|go_guarded|go_step|go_upon));exact a01 (.bool false) rfl (by go_simp) bR rfl
 case o13 => intro vs Wq hW hk;have g12:vs 12=.bool false:=hk.1;clear hk;change wpList _ _ _ _ (a00 _ vs [12] _) _;simp only [a00,a03,yy0,yy1,yy2,yy3];(try simp only [Act.put,zF,zI,zJ]);rw [g12];(repeat'(first|go_skip|go_guarded|go_step|go_upon));exact a01 (.int .i64 (k:Int)) rfl (by go_simp) bR rfl
 case o14 => intro vs Wq hW hk;have g13:vs 13=.int .i64 (k:Int):=hk.1;have g12:vs 12=.bool false:=hk.2.1;clear hk;change wpList _ _ _ _ (a00 _ vs [13,12] _) _;simp only [a00,a03,yy0,yy1,yy2,yy3];(try simp only [Act.put,zF,zI,zJ]);rw [g13,g12];(repeat'(first|go_skip|go_guarded|go_step|go_upon));exact a01 (.bool false) rfl (by go_simp) bR rfl
 case o15 => intro vs Wq hW hk;have g14:vs 14=.bool false:=hk.1;have g12:vs 12=.bool false:=hk.2.1;clear hk;change wpList _ _ _ _ (a00 _ vs [14,12] _) _;simp only [a00,a03,yy0,yy1,yy2,yy3];(try simp only [Act.put,zF,zI,zJ]);rw [g14,g12];(repeat'(first|go_skip|go_guarded|go_step|go_upon));exact a01 (.bool false) rfl (by go_simp) bR rfl
 case o16 => intro vs Wq hW hk;have g15:vs 15=.bool false:=hk.1;clear hk;change wpList _ _ _ _ (a00 _ vs [15] _) _;simp only [a00,a03,yy0,yy1,yy2,yy3];(try simp only [Act.put,zF,zI,zJ]);rw [g15];(repeat'(first|go_skip|go_guarded|go_step|go_upon));exact a01 undef rfl (by go_simp) bR rfl
 case o17 => intro vs Wq hW hk;have g15:vs 15=.bool false:=hk.1;clear hk;change wpList _ _ _ _ (a00 _ vs [15] _) _;simp only [a00,a03,yy0,yy1,yy2,yy3];(try simp only [Act.put,zF,zI,zJ]);rw [g15];(repeat'(first|go_skip|go_guarded|go_step|go_upon));exact a01 undef rfl (by go_simp) bR rfl
 case o18 => intro vs Wq hW hk;have g16:vs 16=undef:=hk.1;have g17:vs 17=undef:=hk.2.1;have g15:vs 15=.bool false:=hk.2.2.1;clear hk;change wpList _ _ _ _ (a00 _ vs [16,17,15] _) _;simp only [a00,a03,yy0,yy1,yy2,yy3];(try simp only [Act.put,zF,zI,zJ]);rw [g16,g17,g15];(repeat'(first|go_skip|go_guarded|go_step|go_upon));exact a01 undef rfl (by go_simp) bR rfl
 case o19 => intro vs Wq hW hk;have g18:vs 18=undef:=hk.1;have g15:vs 15=.bool false:=hk.2.1;clear hk;change wpList _ _ _ _ (a00 _ vs [18,15] _) _;simp only [a00,a03,yy0,yy1,yy2,yy3];(try simp only [Act.put,zF,zI,zJ]);rw [g18,g15];(repeat'(first|go_skip|go_guarded|go_step|go_upon));exact a01 undef rfl (by go_simp) bR rfl
 case o20 => intro vs Wq hW hk;have g19:vs 19=undef:=hk.1;have g15:vs 15=.bool false:=hk.2.1;clear hk;change wpList _ _ _ _ (a00 _ vs [19,15] _) _;simp only [a00,a03,yy0,yy1,yy2,yy3];(try simp only [Act.put,zF,zI,zJ]);rw [g19,g15];(repeat'(first|go_skip|go_guarded|go_step|go_upon));exact a01 undef rfl (by go_simp) bR rfl
 case o21 => intro vs Wq hW hk;have g15:vs 15=.bool false:=hk.1;clear hk;change wpList _ _ _ _ (a00 _ vs [15] _) _;simp only [a00,a03,yy0,yy1,yy2,yy3];(try simp only [Act.put,zF,zI,zJ]);rw [g15];(repeat'(first|go_skip|go_guarded|go_step|go_upon));exact a01 undef rfl (by go_simp) bR rfl
 case o22 => intro vs Wq hW hk;have g15:vs 15=.bool false:=hk.1;clear hk;change wpList _ _ _ _ (a00 _ vs [15] _) _;simp only [a00,a03,yy0,yy1,yy2,yy3];(try simp only [Act.put,zF,zI,zJ]);rw [g15];(repeat'(first|go_skip|go_guarded|go_step|go_upon));exact a01 undef rfl (by go_simp) bR rfl
 case o23 => intro vs Wq hW hk;have g22:vs 22=undef:=hk.1;have g15:vs 15=.bool false:=hk.2.1;clear hk;change wpList _ _ _ _ (a00 _ vs [22,15] _) _;simp only [a00,a03,yy0,yy1,yy2,yy3];(try simp only [Act.put,zF,zI,zJ]);rw [g22,g15];(repeat'(first|go_skip|go_guarded|go_step|go_upon));exact a01 undef rfl (by go_simp) bR rfl
 case o24 => intro vs Wq hW hk;have g21:vs 21=undef:=hk.1;have g23:vs 23=undef:=hk.2.1;have g15:vs 15=.bool false:=hk.2.2.1;clear hk;change wpList _ _ _ _ (a00 _ vs [21,23,15] _) _;simp only [a00,a03,yy0,yy1,yy2,yy3];(try simp only [Act.put,zF,zI,zJ]);rw [g21,g23,g15];(repeat'(first|go_skip|go_guarded|go_step|go_upon));exact a01 undef rfl (by go_simp) bR rfl
 case o25 => intro vs Wq hW hk;have g24:vs 24=undef:=hk.1;have g15:vs 15=.bool false:=hk.2.1;clear hk;change wpList _ _ _ _ (a00 _ vs [24,15] _) _;simp only [a00,a03,yy0,yy1,yy2,yy3];(try simp only [Act.put,zF,zI,zJ]);rw [g24,g15];(repeat'(first|go_skip|go_guarded|go_step|go_upon));exact a01 undef rfl (by go_simp) bR rfl
 case o26 => intro vs Wq hW hk;have g25:vs 25=undef:=hk.1;have g15:vs 15=.bool false:=hk.2.1;clear hk;change wpList _ _ _ _ (a00 _ vs [25,15] _) _;simp only [a00,a03,yy0,yy1,yy2,yy3];(try simp only [Act.put,zF,zI,zJ]);rw [g25,g15];(repeat'(first|go_skip|go_guarded|go_step|go_upon));exact a01 undef rfl (by go_simp) bR rfl
 case o27 => intro vs Wq hW hk;have g20:vs 20=undef:=hk.1;have g26:vs 26=undef:=hk.2.1;have g15:vs 15=.bool false:=hk.2.2.1;clear hk;change wpList _ _ _ _ (a00 _ vs [20,26,15] _) _;simp only [a00,a03,yy0,yy1,yy2,yy3];(try simp only [Act.put,zF,zI,zJ]);rw [g20,g26,g15];(repeat'(first|go_skip|go_guarded|go_step|go_upon));exact a01 undef rfl (by go_simp) bR rfl
 case o28 => intro vs Wq hW hk;have g15:vs 15=.bool false:=hk.1;have g27:vs 27=undef:=hk.2.1;have g12:vs 12=.bool false:=hk.2.2.1;clear hk;change wpList _ _ _ _ (a00 _ vs [15,27,12] _) _;simp only [a00,a03,yy0,yy1,yy2,yy3];(try simp only [Act.put,zF,zI,zJ]);rw [g15,g27,g12];(repeat'(first|go_skip|go_guarded|go_step|go_upon));exact a01 (.bool false) rfl (by go_simp) bR rfl
 case o29 => intro vs Wq hW hk;have g12:vs 12=.bool false:=hk.1;have g28:vs 28=.bool false:=hk.2.1;clear hk;change wpList _ _ _ _ (a00 _ vs [12,28] _) _;simp only [a00,a03,yy0,yy1,yy2,yy3];(try simp only [Act.put,zF,zI,zJ]);rw [g12,g28];(repeat'(first|go_skip|go_guarded|go_step|go_upon));exact a01 (.bool false) rfl (by go_simp) bR rfl
 intro vs Wx hWx hk
 have v29:vs 29=.bool false:=hk 29 (by decide)
 clear hk
 dsimp only [a1d,List.take,List.drop]
 (try simp only [Act.put,zF,zI,zJ])
 rw [v29]
 generalize vs 0=e0,vs 1=e1,vs 2=e2,vs 3=e3,vs 4=e4,vs 5=e5,vs 6=e6,vs 7=e7,vs 8=e8,vs 9=e9,vs 10=e10,vs 11=e11,vs 12=e12,vs 13=e13,vs 14=e14,vs 15=e15,vs 16=e16,vs 17=e17,vs 18=e18,vs 19=e19,vs 20=e20,vs 21=e21,vs 22=e22,vs 23=e23,vs 24=e24,vs 25=e25,vs 26=e26,vs 27=e27,vs 28=e28
 clear v29
 refine wpList_nil ?_
 have hC9:=hC8.trans (hWx.mono hC8.size)
 have HHA:=zA (HHB.out Wx hC9)
 have q9:=ab8 (a04 ra0 hC9 la0) za xa
 have s1:=q9.1
 have s2:=q9.2.1
 have s3:=q9.2.2
 clear q9
 by_cases hh:Zn.hasP pr d=true
 ·have e1:=congrArg List.length (HHAS.out.1 hh)
  rw [List.length_singleton] at e1
  exfalso
  omega
 have h9:Zn.hasP pr d=false:=Bool.eq_false_iff.2 hh
 rw [h9] at HHA
 rw [zS hh] at HCN
 have wc:((Zn.cntH L d k:Nat):Int)=((Zn.cntH L d (k+1):Nat):Int):=by rw [HCN.out];simp
 clear hh h9
 repeat' (first | (go_at_call 39;((with_reducible refine (HHA.out).mono ?_));rintro e w9 ⟨rfl,hB9⟩;have hC10:=hC9.trans (hB9.mono hC9.size);dsimp only)|go_skip|go_guarded|go_step|go_upon)
 exact ⟨⟨k+1,by omega,by go_num,by rw [wc],hC10⟩,by simp [intOf];omega⟩
end Go.Proofs.YtppjleebbjipbaaGreat
