/-
  The law ZoneInverse.
-/
import Derived.Test.YtppjleebbjipbaaGreatPkZl
import Derived.Test.YtppjleebbjipbaaGreatPkZlxi
set_option linter.unusedVariables false
set_option linter.unusedSimpArgs false
namespace Go.Proofs.YtppjleebbjipbaaGreat
open Go.RowKit Go.Shelf
set_option maxRecDepth 20000
set_option maxHeartbeats 8000000
theorem zoneInverse_calls {W:World} {x:Zn.Raw} {gv ov:Value} (hx:x.In) (hgv:U8V W gv x.a6v) (hov:U8V W ov x.a5z) {t0:Nat} (ht0:t0 < 4294967296) :
  Calls Tryz.prog 6 #[.agg #[.int .u8 (x.start:Nat),gv,ov,.int .u8 (x.behind:Nat),.int .u8 (x.y0:Nat),.int .u8 (x.y1:Nat),.int .u8 (x.y2:Nat),.int .u8 (x.y3:Nat),.int .u8 (x.y4:Nat),.int .u8 (x.y5:Nat),.int .u8 (x.y6:Nat),.int .u8 (x.y7:Nat),.int .u8 (x.cal:Nat),.bool x.rules],.int .u32 (t0:Nat)] W fun e w'=>e=.returned (.bool true)∧Below W.heap.size W w':=by
 have HO:OpenSpec:=a9r ad3
 have HGV:=Lib.hid hgv
 have HOV:=Lib.hid hov
 obtain ⟨ga,gc,rfl⟩ : ∃ a c,gv=.slice a x.a6v.length c:=by obtain ⟨a,c,h,_⟩:=hgv;exact ⟨a,c,h⟩
 obtain ⟨oa,oc,rfl⟩ : ∃ a c,ov=.slice a x.a5z.length c:=by obtain ⟨a,c,h,_⟩:=hov;exact ⟨a,c,h⟩
 clear hgv hov
 have hon:ones #[.int .u8 (x.start:Nat),.slice ga x.a6v.length gc,.slice oa x.a5z.length oc,.int .u8 (x.behind:Nat),.int .u8 (x.y0:Nat),.int .u8 (x.y1:Nat),.int .u8 (x.y2:Nat),.int .u8 (x.y3:Nat),.int .u8 (x.y4:Nat),.int .u8 (x.y5:Nat),.int .u8 (x.y6:Nat),.int .u8 (x.y7:Nat),.int .u8 (x.cal:Nat),.bool x.rules]=true:=by simp [ones,a0n,Value.oneCell']
 have wVB:Below W.heap.size W (W.alloc (.cells #[.int .u8 (x.start:Nat),.slice ga x.a6v.length gc,.slice oa x.a5z.length oc,.int .u8 (x.behind:Nat),.int .u8 (x.y0:Nat),.int .u8 (x.y1:Nat),.int .u8 (x.y2:Nat),.int .u8 (x.y3:Nat),.int .u8 (x.y4:Nat),.int .u8 (x.y5:Nat),.int .u8 (x.y6:Nat),.int .u8 (x.y7:Nat),.int .u8 (x.cal:Nat),.bool x.rules] 26)):=(Below.refl _ _).alloc (Nat.le_refl _) _
 have o0:=a05 (w:=W) (.cells #[.int .u8 (x.start:Nat),.slice ga x.a6v.length gc,.slice oa x.a5z.length oc,.int .u8 (x.behind:Nat),.int .u8 (x.y0:Nat),.int .u8 (x.y1:Nat),.int .u8 (x.y2:Nat),.int .u8 (x.y3:Nat),.int .u8 (x.y4:Nat),.int .u8 (x.y5:Nat),.int .u8 (x.y6:Nat),.int .u8 (x.y7:Nat),.int .u8 (x.cal:Nat),.bool x.rules] 26) W.heap.size rfl
 obtain ⟨z,hz⟩ : ∃ z,z=Zn.made x:=⟨_,rfl⟩
 have HZ:=Lib.hid hz
 have hgd:Zn.Good z:=hz ▸ Zn.adm hx
 have hlk:Zn.ane z:=hz ▸ Zn.akj x
 have HX:=Lib.hid hx
 clear hz hx
 go_enter Tryz.func6,Tryz.ntmps6
 repeat' ((go_not_at_region 1);(first|go_skip|go_guarded|go_step|go_upon))
 generalize (W.alloc (.cells #[.int .u8 (x.start:Nat),.slice ga x.a6v.length gc,.slice oa x.a5z.length oc,.int .u8 (x.behind:Nat),.int .u8 (x.y0:Nat),.int .u8 (x.y1:Nat),.int .u8 (x.y2:Nat),.int .u8 (x.y3:Nat),.int .u8 (x.y4:Nat),.int .u8 (x.y5:Nat),.int .u8 (x.y6:Nat),.int .u8 (x.y7:Nat),.int .u8 (x.cal:Nat),.bool x.rules] 26))=V at *
 repeat' ((go_not_at_region 2);(first | (go_at_call 15;((with_reducible refine ((ada _).mono ?_)));rintro e w2 ⟨rfl,hB'⟩;have hB2:=wVB.trans (hB'.mono wVB.size);have p0:=a0a o0 hB';dsimp only)|go_skip|go_guarded|go_step|go_upon))
 have HMD:=Lib.hid (aoh HZ.out HX.out (HGV.out.below hB2) (HOV.out.below hB2))
 repeat' ((go_not_at_region 3);(first | (go_at_call 16;((with_reducible refine ((HMD.out).mono ?_)));rintro e w3 ⟨⟨mv,rv,tv,yv,rfl,hzs⟩,hB'⟩;have hB3:=hB2.trans (hB'.mono hB2.size);have q0:=a0a p0 hB';have ar2:=a1b hzs.cal.mon.one hzs.cal.rul.one (a1m.one hzs.tr) (a1m.one hzs.yr) (a:=z.cal.a08) (b:=z.cal.a0l) (c:=z.start) (d:=z.hor);dsimp only)|go_skip|go_guarded|go_step|go_upon))
 have A1:=(Below.refl w3.heap.size w3).alloc (Nat.le_refl _) (.cells #[.int .i64 z.cal.a08,mv,.int .i64 z.cal.a0l,rv,.int .i64 z.start,tv,.int .i64 z.hor,yv] 35)
 have oz:obj (w3.alloc (.cells #[.int .i64 z.cal.a08,mv,.int .i64 z.cal.a0l,rv,.int .i64 z.start,tv,.int .i64 z.hor,yv] 35)) w3.heap.size=some (.cells #[.int .i64 z.cal.a08,mv,.int .i64 z.cal.a0l,rv,.int .i64 z.start,tv,.int .i64 z.hor,yv] 35 (0,0)):=a05 _ _ _ rfl
 have s0:=a0a q0 A1
 have hzv:=hzs.below A1
 have aoo:=hzv
 have hBV:=hB3.trans (A1.mono hB3.size)
 generalize hU:w3.alloc (.cells #[.int .i64 z.cal.a08,mv,.int .i64 z.cal.a0l,rv,.int .i64 z.start,tv,.int .i64 z.hor,yv] 35)=U at *
 generalize w3.heap.size=bz at *
 have HZV:=Lib.hid (fun (Wq:World) (hq:Below U.heap.size U Wq)=>hzv.below hq)
 have hb0:=Below.refl U.heap.size U
 clear HMD HGV HOV hon ar2 hzs hzv A1 hU hB3 hB2 wVB
 repeat' ((go_not_at_region 4);(first|go_skip|go_guarded|go_step|go_upon))
 obtain ⟨n,hn⟩ : ∃ n,n=(t0:Int) % 400000:=⟨_,rfl⟩
 have n0:0≤n∧n < 400000:=by omega
 rw [← hn]
 clear hn ht0
 have hoff:=Zn.a2a hgd n
 obtain ⟨kv,hkv⟩ : ∃ kv:Int,kv=([1,0,2]:List Int).getD (Zn.a2w z n).1.length 0:=⟨_,rfl⟩
 obtain ⟨L,hL⟩ : ∃ L,L=(Zn.a2w z n).1:=⟨_,rfl⟩
 obtain ⟨lc,hlc⟩ : ∃ lc,lc=n+Zn.a2u z n:=⟨_,rfl⟩
 obtain ⟨M,hM⟩ : ∃ M,M=(Zn.a2w z lc).1:=⟨_,rfl⟩
 have HK:=Lib.hid (fun (Wq:World) (hq:Below U.heap.size U Wq)=>show Calls Tryz.prog 22 #[.agg #[.int .i64 z.cal.a08,mv,.int .i64 z.cal.a0l,rv,.int .i64 z.start,tv,.int .i64 z.hor,yv],.int .i64 n] Wq fun e w'=>e=.returned (.tuple #[.int .i64 kv,.int .i64 0])∧Below Wq.heap.size Wq w' by rw [hkv];exact aq0 HO (HZV.out Wq hq) hgd hlk (by omega))
 have HI1:=Lib.hid (fun (Wq:World) (hq:Below U.heap.size U Wq)=>show Calls Tryz.prog 24 #[.agg #[.int .i64 z.cal.a08,mv,.int .i64 z.cal.a0l,rv,.int .i64 z.start,tv,.int .i64 z.hor,yv],.int .i64 n,.int .i64 0,.int .i64 2] Wq fun e w'=>(∃ v,e=.returned (.tuple #[v,.int .i64 0])∧a2c w' v L)∧Below Wq.heap.size Wq w' by rw [hL];exact aon HO (HZV.out Wq hq) hgd hlk (by omega))
 have HLO:=Lib.hid (fun (Wq:World) (hq:Below U.heap.size U Wq)=>show Calls Tryz.prog 20 #[.agg #[.int .i64 z.cal.a08,mv,.int .i64 z.cal.a0l,rv,.int .i64 z.start,tv,.int .i64 z.hor,yv],.int .i64 n] Wq fun e w'=>e=.returned (.tuple #[.int .i64 lc,.int .i64 0])∧Below Wq.heap.size Wq w' by rw [hlc];exact aqw HO (HZV.out Wq hq) hgd hlk (by omega))
 have HI2:=Lib.hid (fun (Wq:World) (hq:Below U.heap.size U Wq)=>show Calls Tryz.prog 24 #[.agg #[.int .i64 z.cal.a08,mv,.int .i64 z.cal.a0l,rv,.int .i64 z.start,tv,.int .i64 z.hor,yv],.int .i64 lc,.int .i64 0,.int .i64 2] Wq fun e w'=>(∃ v,e=.returned (.tuple #[v,.int .i64 0])∧a2c w' v M)∧Below Wq.heap.size Wq w' by rw [hM];exact aon HO (HZV.out Wq hq) hgd hlk (by omega))
 have HLT:Hid (∀ j,j < L.length→L.getD j 0+Zn.a2u z (L.getD j 0)=n):=Lib.hid fun j hj=>(Zn.a5u hgd).1 (by rw [← hL,List.getD_eq_getElem?_getD,List.getElem?_eq_getElem hj];exact List.getElem_mem hj)
 have HMN:Hid (n∈M):=Lib.hid (by rw [hM];exact (Zn.a5u hgd).2 hlc.symm)
 have hML:M.length≤2:=by rw [hM];exact Zn.a9k hgd lc
 have hls:(L.length=0∧kv=1)∨(L.length=1∧kv=0)∨(L.length=2∧kv=2):=by
  rcases Zn.a4o hgd n with ⟨h,_⟩ | ⟨a,h,_⟩ | ⟨a,b,h,_⟩
  ·rw [h] at hL hkv;rw [hL,hkv];exact .inl ⟨rfl,rfl⟩
  ·rw [h] at hL hkv;rw [hL,hkv];exact .inr (.inl ⟨rfl,rfl⟩)
  ·rw [h] at hL hkv;rw [hL,hkv];exact .inr (.inr ⟨rfl,rfl⟩)
 have HLS:Hid (2≤L.length→L.getD 0 0 < L.getD 1 0):=Lib.hid fun h2=>by
  rcases Zn.a4o hgd n with ⟨h,_⟩ | ⟨a,h,_⟩ | ⟨a,b,h,hab,_⟩
  ·rw [h] at hL;rw [hL] at h2;simp at h2
  ·rw [h] at hL;rw [hL] at h2;simp at h2
  ·rw [h] at hL;rw [hL];exact hab
 have HLB:Hid (∀ j,j < L.length→-2251799813685248≤L.getD j 0∧L.getD j 0≤2251799813685248):=Lib.hid fun j hj=>by
  have h1:=HLT.out j hj
  have h2:=Zn.a2a hgd (L.getD j 0)
  omega
 have hon:=a1b (aoo.cal.mon.one) (aoo.cal.rul.one) (a1m.one aoo.tr) (a1m.one aoo.yr) (a:=z.cal.a08) (b:=z.cal.a0l) (c:=z.start) (d:=z.hor)
 clear aoo hkv hL hM hlc hoff
 repeat' ((go_not_at_region 5);(first | (go_at_call 22;((with_reducible refine ((HK.out _ hb0).mono ?_)));rintro e u1 ⟨rfl,hB'⟩;have hb1:=hb0.trans (hB'.mono hb0.size);have oz1:=a0a oz hb1;dsimp only)|go_skip|go_guarded|go_step|go_upon))
 repeat' ((go_not_at_region 6);(first | (go_at_call 24;((with_reducible refine ((HI1.out _ hb1).mono ?_)));rintro e u2 ⟨⟨v2,rfl,hv2⟩,hB'⟩;have hb2:=hb1.trans (hB'.mono hb1.size);have oz2:=a0a oz hb2;dsimp only)|go_skip|go_guarded|go_step|go_upon))
 repeat' ((go_not_at_region 7);(first | (go_at_call 20;((with_reducible refine ((HLO.out _ hb2).mono ?_)));rintro e u3 ⟨rfl,hB'⟩;have hb3:=hb2.trans (hB'.mono hb2.size);have oz3:=a0a oz hb3;have hv2:=a2c.below hv2 hB';dsimp only)|go_skip|go_guarded|go_step|go_upon))
 repeat' ((go_not_at_region 8);(first | (go_at_call 24;((with_reducible refine ((HI2.out _ hb3).mono ?_)));rintro e u4 ⟨⟨v4,rfl,hv4⟩,hB'⟩;have hb4:=hb3.trans (hB'.mono hb3.size);have oz4:=a0a oz hb4;have hv2:=a2c.below hv2 hB';dsimp only)|go_skip|go_guarded|go_step|go_upon))
 have HL:=Lib.hid hv2.1
 have HM:=Lib.hid hv4.1
 obtain ⟨la,lca,rfl⟩ : ∃ a c,v2=.slice a L.length c:=by obtain ⟨a,c,h,_⟩:=hv2.1;exact ⟨a,c,h⟩
 obtain ⟨ma,mca,rfl⟩ : ∃ a c,v4=.slice a M.length c:=by obtain ⟨a,c,h,_⟩:=hv4.1;exact ⟨a,c,h⟩
 clear hv2 hv4 HK HI1 HLO HI2
 have hl2:L.length≤2:=by omega
 have hbc:Below u4.heap.size u4 (u4.alloc (.cells #[.int .i64 1,.int .i64 0,.int .i64 2] 3)):=(Below.refl _ _).alloc (Nat.le_refl _) _
 have ocx:obj (u4.alloc (.cells #[.int .i64 1,.int .i64 0,.int .i64 2] 3)) u4.heap.size=some (.cells #[.int .i64 1,.int .i64 0,.int .i64 2] 3 (0,0)):=a05 _ _ _ rfl
 have x0:=a02 ocx 0
 have x1:=a02 ocx 1
 have x2:=a02 ocx 2
 have ozc:=a0a oz4 hbc
 have hbU:=hb4.trans (hbc.mono hb4.size)
 have e0:(L.length:Int)=0∧kv=1∨(L.length:Int)=1∧kv=0∨(L.length:Int)=2∧kv=2:=by omega
 clear hls
 rcases e0 with ⟨e0,rfl⟩ | ⟨e0,rfl⟩ | ⟨e0,rfl⟩
 all_goals
  repeat' ((go_not_at_region 10);(first|go_skip|go_guarded|go_step|go_upon))
  clear e0 x0 x1 x2 ocx
  generalize u4.alloc (.cells #[.int .i64 1,.int .i64 0,.int .i64 2] 3)=u8 at *
  repeat'(first|go_skip|go_guarded|go_step|go_upon)
  go_loopw [16] (fun i wr => ∃ k:Nat,k≤L.length∧i=.int .i64 k∧Below u8.heap.size u8 wr) (fun i _=>((L.length:Int) - intOf i).toNat)
  case atStart=>exact ⟨0,by omega,rfl,Below.refl _ _⟩
  case round =>
   obtain ⟨k,hk,rfl,hC⟩:=hrel
   have ozr:=a0a ozc hC
   have hCu:=hbc.trans (hC.mono hbc.size)
   have hCU:=hbU.trans (hC.mono hbU.size)
   by_cases hki:k < L.length
   ·have i1:(k:Int) < (L.length:Int):=by omega
    have i3 : ¬ (k:Int) < 0:=by omega
    obtain ⟨b1,o1,aql,T1,fr1,q1⟩ : ∃ bq oq row T fr,la=some ⟨bq,oq,none⟩∧obj wr bq=some (.cells row T fr)∧row[oq+k]? = some (.int .i64 (L.getD k 0)):=by
     obtain ⟨ao',c',h1,h2⟩:=a1s.below HL.out hCu
     obtain ⟨b',o',row',T',fr',g1,g2,g3⟩:=h2 (by omega)
     injection h1 with ha hb hc
     exact ⟨b',o',row',T',fr',by rw [ha,g1],g2,g3 k (by omega)⟩
    obtain ⟨rfl,g1,k1⟩:=q1
    have HLC:=Lib.hid (fun (Wq:World) (hq:Below wr.heap.size wr Wq)=>show Calls Tryz.prog 20 #[.agg #[.int .i64 z.cal.a08,mv,.int .i64 z.cal.a0l,rv,.int .i64 z.start,tv,.int .i64 z.hor,yv],.int .i64 (L.getD k 0)] Wq fun e w'=>e=.returned (.tuple #[.int .i64 n,.int .i64 0])∧Below Wq.heap.size Wq w' by have h9:=aqw HO (HZV.out Wq (hCU.trans (hq.mono hCU.size))) hgd hlk (HLB.out k hki);rw [HLT.out k hki] at h9;exact h9)
    generalize L.getD k 0=tk at *
    repeat'(first|go_skip|go_guarded|go_step|go_upon)
    (refine wp_region_below (by kernel_rfl) (by kernel_rfl) ?_;(repeat (refine wpQuiet_step (fun K hK=>?_);go_simp;first | (refine hK _ ?_;clear hK K) | (apply Exists.intro;refine ⟨fun W hW=>?_,hK _ ?_⟩;(focus ((first | (with_reducible exact rfl) | ((have m0:=a0a ozr hW;have m1:=a0a g1 hW;have c1:=(a02 m1 (o1+k)).trans k1);(try go_simp);first | done | (with_reducible exact rfl) | (with_reducible exact ⟨rfl,rfl⟩) | (exact calls_below hW (HLC.out W hW))));done));clear hK K)));refine wpQuiet_nil ?_;intro W2 hW2)
    repeat'(first|go_skip|go_guarded|go_step|go_upon)
    exact ⟨⟨k+1,by omega,by go_num,hC.trans (hW2.mono hC.size)⟩,by simp [intOf];omega⟩
   ·have i1 : ¬ (k:Int) < (L.length:Int):=by omega
    repeat'(first|go_skip|go_guarded|go_step|go_upon)
    clear i1 hki hk hC ozr
    generalize wr=w8 at *
    go_loopw [19,20] (fun f i ws => ∃ (k2:Nat) (fb:Bool),k2≤M.length∧i=.int .i64 k2∧f=.bool fb∧(∀ j,j < k2→M.getD j 0=n→fb=true)∧Below w8.heap.size w8 ws) (fun _ i _=>((M.length:Int) - intOf i).toNat)
    case atStart=>exact ⟨0,false,by omega,rfl,rfl,fun j hj=>absurd hj (Nat.not_lt_zero j),Below.refl _ _⟩
    case round =>
     obtain ⟨k2,fb,hk2,rfl,rfl,hpre,hC2⟩:=hrel
     have alx:=Lib.hid hpre
     clear hpre
     have hD:=hCu.trans (hC2.mono hCu.size)
     have hDU:=hCU.trans (hC2.mono hCU.size)
     by_cases hl2:k2 < M.length
     ·have i1:(k2:Int) < (M.length:Int):=by omega
      have i3 : ¬ (k2:Int) < 0:=by omega
      obtain ⟨b5,o5,row5,T5,fr5,q5⟩ : ∃ bq oq row T fr,ma=some ⟨bq,oq,none⟩∧obj wr bq=some (.cells row T fr)∧row[oq+k2]? = some (.int .i64 (M.getD k2 0)):=by
       obtain ⟨ao',c',h1,h2⟩:=a1s.below HM.out hD
       obtain ⟨b',o',row',T',fr',g1,g2,g3⟩:=h2 (by omega)
       injection h1 with ha hb hc
       exact ⟨b',o',row',T',fr',by rw [ha,g1],g2,g3 k2 (by omega)⟩
      obtain ⟨rfl,g5,k5⟩:=q5
      obtain ⟨mk,hmk⟩ : ∃ mk,M.getD k2 0=mk:=⟨_,rfl⟩
      rw [hmk] at k5
      have HMK:=Lib.hid hmk
      have c5:=(a02 g5 (o5+k2)).trans k5
      clear hmk k5
      cases fb with
      | false =>
       repeat'(first|go_skip|go_guarded|go_step|go_upon)
       exact ⟨⟨k2+1,_,by omega,by go_num,rfl,fun j hj he=>(Nat.lt_or_ge j k2).elim (fun h=>absurd (alx.out j h he) (by decide)) (fun h=>by rw [show j=k2 by omega,HMK.out] at he;simp [he]),hC2⟩,by simp [intOf];omega⟩
      | true =>
       repeat'(first|go_skip|go_guarded|go_step|go_upon)
       exact ⟨⟨k2+1,true,by omega,by go_num,rfl,fun _ _ _=>rfl,hC2⟩,by simp [intOf];omega⟩
     ·have i1 : ¬ (k2:Int) < (M.length:Int):=by omega
      obtain rfl:fb=true:=by
       obtain ⟨j,hj,he⟩:=List.getElem_of_mem HMN.out
       exact alx.out j (by omega) (by rw [List.getD_eq_getElem?_getD,List.getElem?_eq_getElem hj];exact he)
      by_cases hm2:L.length < 2
      ·have i5:(L.length:Int) < 2:=by omega
       repeat'(first|go_skip|go_guarded|go_step|go_upon)
       go_quiet (fail)
       have hbq:=below_drewN hDU nq
       generalize wr.drewN nq=w9 at *
       repeat'(first|go_skip|go_guarded|go_step|go_upon)
       go_returns
       exact ⟨rfl,hBV.trans (hbq.mono hBV.size)⟩
      ·have i5 : ¬ (L.length:Int) < 2:=by omega
       have i6 : ¬ (L.length:Int) < 1:=by omega
       have i7:(0:Int) < (L.length:Int):=by omega
       have i8:(1:Int) < (L.length:Int):=by omega
       obtain ⟨bq,oq,row,T,fr,hla,g9,h9⟩ : ∃ bq oq row T fr,la=some ⟨bq,oq,none⟩∧obj wr bq=some (.cells row T fr)∧∀ i,i < L.length→row[oq+i]? = some (.int .i64 (L.getD i 0)):=by
        obtain ⟨ao',c',h1,h2⟩:=a1s.below HL.out hD
        obtain ⟨b',o',row',T',fr',g1,g2,g3⟩:=h2 (by omega)
        injection h1 with ha hb hc
        exact ⟨b',o',row',T',fr',by rw [ha,g1],g2,g3⟩
       subst hla
       have y0:=(a02 g9 (oq+0)).trans (h9 0 (by omega))
       have y1:=(a02 g9 (oq+1)).trans (h9 1 (by omega))
       rw [Nat.add_zero] at y0
       have hlt:=decide_eq_true (HLS.out (by omega))
       clear h9
       generalize L.getD 0 0=p0 at *
       generalize L.getD 1 0=p1 at *
       repeat'(first|go_skip|go_guarded|go_step|go_upon)
       go_quiet (fail)
       have hbq:=below_drewN hDU nq
       generalize wr.drewN nq=w9 at *
       repeat'(first|go_skip|go_guarded|go_step|go_upon)
       go_returns
       exact ⟨rfl,hBV.trans (hbq.mono hBV.size)⟩
end Go.Proofs.YtppjleebbjipbaaGreat
