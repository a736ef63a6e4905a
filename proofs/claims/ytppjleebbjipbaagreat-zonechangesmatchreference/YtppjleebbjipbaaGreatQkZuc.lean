/-
  kalendsref13.Changes of a valid zone.
-/
import Derived.Test.YtppjleebbjipbaaGreatQkZtu
import Derived.Deep.CutBlock
import Derived.Test.YtppjleebbjipbaaGreatQkZl
set_option linter.all false
namespace Go.Proofs.YtppjleebbjipbaaGreat
open Go.RowKit Go.Shelf
set_option maxRecDepth 20000
set_option maxHeartbeats 8000000
theorem wpList_append_2x {w:World} {ops:Array Oper} {rest:List Oper} {o:Oper} {a:Act} {Q:Exit→Act→World→Prop} (hgd:o.guard=none) (s x:Operand)
  (ho:o.op=.call { callee:=.builtin .append,args:=#[s,x],argTypes:=#[32,32] })
  (base k:Nat) (v:Value) (l:List Zn.Tr) (hs:a.eval s=v) (hown:w.ownsRow base 57 2 v k (a4g l))
  (g:Nat) (t:Zn.Tr) (hx:a.eval x=.slice (some ⟨g,0,none⟩) 1 1) (hg:obj w g=some (.cells #[t.tm,t.off] 57 (0,0))) (h63:k≤1000000000000) (hb:base≤w.heap.size)
  (h:∀ v' w',w'.ownsRow base 57 2 v' (k+1) (a4g (l ++ [t]))→w.grownBy w' v.ownBlock→(v'.ownBlock=v.ownBlock∨v'.ownBlock=some w.heap.size)→wpList Tryz.prog ops Q rest (a.put o.dst v') w'):wpList Tryz.prog ops Q (o :: rest) a w:=by
 obtain ⟨i0,hi,hz0,hz1,hz2⟩:=amo
 refine wpList_append_own_at w hgd s x _ ho base _ i0 _ 2 16 Tryz.underlying32 hi hz0 hz1 hz2 rfl (by decide) v k _ hs hown ⟨g,0,none⟩ 1 1 [.int .i64 t.tm,.int .i64 t.off] hx rfl (fun j q hq=>?_) (fun q hq=>?_) (by unfold maxLen;omega) (by omega) hb fun v' w' q1 q2 _ q3=>h v' w' (by rw [aby];exact q1) q2 q3
 ·rcases j with _ | _ | j
  ·cases hq;exact a02 hg 0
  ·cases hq;exact a02 hg 1
  cases hq
 simp only [yN,xE,or_false] at hq
 rcases hq with rfl | rfl<;>rfl
theorem trs_lt {w:World} {v:Value} {l:List Zn.Tr} (h:a2b w v l):InD (fun k=>k < w.heap.size) v l:=fun h0 b o m c e=>by
 obtain ⟨tb,tof,tc,a5d,TT',tfr,htv,tq1,_⟩:=a2b.open h h0
 rw [htv] at e
 injection e with e
 injection e with e
 injection e with e
 subst e
 exact a09 tq1
theorem rChanges_calls {W:World} {z:Zn.a0w} {mv rv tv yv:Value} (hv:a1q W z mv rv tv yv) (hzr:z.cal.rules.length < 9223372036854775808) (hzm:z.cal.a0g.length < 9223372036854775808) (hg:Zn.Good z) {f u:Int} (hf : -2251799813685248≤f) (hu:u≤2251799813685248) (hfu:f≤u) (hw:u - f≤8000000) :
  Calls Tryz.prog 40 #[.agg #[z.cal.a08,mv,z.cal.a0l,rv,z.start,tv,z.hor,yv],.int .i64 f,.int .i64 u] W fun e w'=>(∃ v l,e=.returned (.tuple #[v,.int .i64 0])∧a2b w' v l∧Zn.ChgL z f u l)∧Below W W w':=by
 have hf2:f≤2251799813685248:=by omega
 have hu2 : -2251799813685248≤u:=by omega
 obtain ⟨ta,tc,rfl⟩:=a2b.ajx hv.tr
 have hon:ones #[z.cal.a08,mv,z.cal.a0l,rv,z.start,.slice ta z.trans.length tc,z.hor,yv]=true:=a1b hv.cal.mon.one hv.cal.rul.one (a1m.one hv.tr) (a1m.one hv.yr)
 have w1B:Below W W (W.alloc (.cells #[z.cal.a08,mv,z.cal.a0l,rv,z.start,.slice ta z.trans.length tc,z.hor,yv] 35)):=bR.alloc (zD _) _
 have o0:obj (W.alloc (.cells #[z.cal.a08,mv,z.cal.a0l,rv,z.start,.slice ta z.trans.length tc,z.hor,yv] 35)) W.heap.size=some (.cells #[z.cal.a08,mv,z.cal.a0l,rv,z.start,.slice ta z.trans.length tc,z.hor,yv] 35 (0,0)):=a05 _ _ _ rfl
 have HX:=zA (ae9 (hv.below w1B) hzr hzm)
 rw [show Zn.a2l z=0 by unfold Zn.a2l;rw [zS (by have:=hg.a.hd.t;omega),zQ (Zn.a0v.2 hg)]] at HX
 have HWF:=zA (fun Wq:World=>a2e (W:=Wq) (n:=f) (l:=2251799813685248) (by omega) (by omega))
 have HWU:=zA (fun Wq:World=>a2e (W:=Wq) (n:=u) (l:=2251799813685248) (by omega) (by omega))
 rw [zV ⟨hf,hf2⟩] at HWF
 rw [zV ⟨hu2,hu⟩] at HWU
 have HYE:=zA (fun (Wq:World) (hq:Below W W Wq)=>YearlyD_calls (hv.below hq) hg.a.zok)
 have HCY:=zA (fun (Wq:World) (hq:Below W W Wq)=>ab9 (hv.below hq) hg.a.hd.cal)
 have HTR:=zA (fun (Wq:World) (hq:Below W W Wq)=>a1m.below hv.tr hq)
 have HCK:=zA hg.ck
 have HGD:=zA hg
 have htl:=hg.a.hd.t
 have hh0:=hg.a.hd.h0
 have hh1:=hg.a.hd.h1
 have i0 : ¬ u < f:=by omega
 clear hv hg
 go_enter Tryz.func40,Tryz.ntmps40
 repeat' ((go_not_at_region 3);(first | (go_at_call 29;((with_reducible refine (HX.out).mono ?_));rintro e w5 ⟨rfl,hB5⟩;have hB6:=w1B.trans (hB5.mono w1B.size);have o5:=a0a o0 hB5;dsimp only) | (go_at_call 57;((with_reducible refine (HWF.out _).mono ?_));rintro e w6 ⟨rfl,rfl⟩;dsimp only) | (go_at_call 57;((with_reducible refine (HWU.out _).mono ?_));rintro e w7 ⟨rfl,rfl⟩;dsimp only)|go_skip|go_guarded|go_step|go_upon))
 clear o0 HX HWF HWU i0
 have V1B:=hB6.alloc hB6.size (.cells #[] 57)
 have kV:=a06 o5 (.cells #[] 57)
 obtain ⟨B5,hB5e⟩ : ∃ B5,w5.heap.size=B5:=⟨_,rfl⟩
 have aor:(w5.alloc (.cells #[] 57)).ownsRow B5 57 2 (.slice (some ⟨w5.heap.size,0,none⟩) 0 0) 0 (a4g []):=⟨rfl,.inr ⟨_,0,#[],rfl,by omega,a05 _ _ _ rfl,zD _,by unfold maxLen;omega,rfl,rfl⟩⟩
 have hBS:W.heap.size≤B5:=by have:=hB6.size;omega
 have hVs:B5≤(w5.alloc (.cells #[] 57)).heap.size:=by simp;omega
 repeat' ((go_not_at_region 4);(first|go_skip|go_guarded|go_step|go_upon))
 rw [hB5e] at aor
 generalize (w5.alloc (.cells #[] 57))=V at *
 clear hB5 hB6 o5 w1B hB5e
 have c5:=a02 kV 5
 repeat'(first|go_skip|go_guarded|go_step|go_upon)
 clear c5
 go_loopw [8,9] (fun o i wr => ∃ (k:Nat) (sv:Value),k≤z.trans.length∧i=.int .i64 k∧sv=o∧wr.ownsRow B5 57 2 sv ((z.trans.take k).filter (Zn.inW f u)).length (a4g ((z.trans.take k).filter (Zn.inW f u)))∧obj wr W.heap.size=some (.cells #[z.cal.a08,mv,z.cal.a0l,rv,z.start,.slice ta z.trans.length tc,z.hor,yv] 35 (0,0))∧B5≤wr.heap.size∧Below W W wr) (fun _ i _=>((z.trans.length:Int) - intOf i).toNat)
 case atStart=>exact ⟨0,_,xG _,rfl,rfl,aor,kV,hVs,V1B⟩
 clear aor kV V1B hVs
 obtain ⟨k,sv,hk,rfl,rfl,how,kz,hs,kB⟩:=hrel
 have c5:=a02 kz 5
 by_cases hlk:k < z.trans.length
 ·have i1:(k:Int) < (z.trans.length:Int):=by omega
  obtain ⟨tb,tof,tc',a5d,TT',tfr,htv,tq1,tq2⟩:=a2b.open (HTR.out wr kB) (by omega)
  obtain ⟨rfl,rfl⟩:ta=some ⟨tb,tof,none⟩∧tc=tc':=by injection htv with a b c;exact ⟨a,c⟩
  obtain ⟨z0,k3⟩:=tq2 k hlk
  have z1:(tof+k * 2+2≤a5d.size)=True:=xN z0
  have ek0:=a0y 0 k3 (by simp)
  have HFT:=zA (Zn.aan (f:=Zn.inW f u) hlk)
  have hln:((z.trans.take k).filter (Zn.inW f u)).length≤512:=by have h1:=List.length_filter_le (Zn.inW f u) (z.trans.take k);rw [wR] at h1;omega
  obtain ⟨L,hL⟩ : ∃ L,(z.trans.take k).filter (Zn.inW f u)=L:=⟨_,rfl⟩
  rw [hL] at how hln HFT
  obtain ⟨x,hx⟩ : ∃ x,z.trans.getD k default=x:=⟨_,rfl⟩
  rw [hx] at ek0 k3 HFT
  have k3:a5d.extract (tof+k * 2) (tof+k * 2+2)=#[.int .i64 x.tm,.int .i64 x.off]:=k3
  have e0:=(a02 tq1 (tof+k * 2)).trans (show a5d[tof+k * 2]? = some (.int .i64 x.tm) from ek0)
  have hon5:ones #[x.tm,x.off]=true:=by simp [ones,a0n]
  clear htv tq2 z0 hL hx ek0
  by_cases h1:f≤x.tm;rotate_left
  ·have HST:Hid ((z.trans.take (k+1)).filter (Zn.inW f u)=L):=zA (by rw [HFT.out,zS (by unfold Zn.inW;simp only [zN,zM];exact fun h=>h1 h.1),uA])
   repeat'(first|go_skip|go_guarded|go_step|go_upon)
   exact ⟨⟨k+1,_,by omega,by go_num,rfl,by rw [HST.out];exact how,kz,hs,kB⟩,by simp [intOf]<;>omega⟩
  by_cases h2:x.tm < u
  ·have HST:Hid ((z.trans.take (k+1)).filter (Zn.inW f u)=L ++ [x]):=zA (by rw [HFT.out,zQ (by unfold Zn.inW;simp only [zN,zM];exact ⟨h1,h2⟩)])
   obtain ⟨sa,sc,hsv⟩:=(a13 how).2.2.2;subst hsv;have A5:=(zC wr.heap.size wr).alloc (zD _) (.cells #[x.tm,x.off] 57);have ow7:=a0m how A5;have n6:obj (wr.alloc (.cells #[x.tm,x.off] 57)) wr.heap.size=some (.cells #[x.tm,x.off] 57 (0,0)):=a05 _ _ _ rfl;have nB:=kB.trans (A5.mono kB.size);have nz:=a06 kz (.cells #[x.tm,x.off] 57);have nsz:=nB.size;have nhs:B5≤(wr.alloc (.cells #[x.tm,x.off] 57)).heap.size:=by simp;omega
   repeat' (first | (at_builtin;(refine a2m rfl _ _ rfl B5 L.length _ L rfl ow7 wr.heap.size x rfl n6 (by omega) nhs ?_);intro v5 W5 a3p hg5;have hg:(wr.alloc (.cells #[x.tm,x.off] 57)).grownBy W5 (Value.slice sa L.length sc).ownBlock:=hg5;clear hg5;have kz5:=a19 ow7 nz (by decide) hg;have hs5:B5≤W5.heap.size:=yG nhs hg.size;have kB5:=nB.grown hg nsz (fun g q=>by have:=a1p ow7 q;omega);dsimp only)|go_skip|go_guarded|go_step|go_upon)
   exact ⟨⟨k+1,_,by omega,by go_num,rfl,by rw [HST.out,zX];exact a3p,kz5,hs5,kB5⟩,by simp [intOf]<;>omega⟩
  have HST:Hid ((z.trans.take (k+1)).filter (Zn.inW f u)=L):=zA (by rw [HFT.out,zS (by unfold Zn.inW;simp only [zN,zM];exact fun h=>h2 h.2),uA])
  repeat'(first|go_skip|go_guarded|go_step|go_upon)
  exact ⟨⟨k+1,_,by omega,by go_num,rfl,by rw [HST.out];exact how,kz,hs,kB⟩,by simp [intOf]<;>omega⟩
 have i1 : ¬ (k:Int) < (z.trans.length:Int):=by omega
 obtain rfl:k=z.trans.length:=by omega
 obtain ⟨T,hT⟩ : ∃ T,(if f < z.hor then z.hor else f)=T:=⟨_,rfl⟩
 have hT2:max f z.hor=T:=by rw [← hT,Int.max_def];split<;>split<;>omega
 have HCI:=Zn.CInv.init HGD.out f u (T:=T) (by rw [← hT];split<;>split<;>omega)
 rw [wY] at how
 have hTb : -2251799813685248≤T∧T≤2251799813685248:=by rw [← hT];split<;>omega
 generalize z.trans.filter (Zn.inW f u)=L at *
 have HYX:=zA (HYE.out wr kB)
 repeat' ((go_not_at_region 9);(first|go_skip|go_guarded|go_step|go_upon))
 repeat' ((go_not_at_region 10);(first | (go_at_call 67;((with_reducible refine (HYX.out).mono ?_));rintro e w9 ⟨⟨lv,b9,rfl,hlv,_,hld⟩,hB9⟩;have hB:=kB.trans (hB9.mono kB.size);have kz9:=a0a kz hB9;have how9:=a0m how hB9;have hs9:=yG hs hB9.size;dsimp only)|go_skip|go_guarded|go_step|go_upon))
 have HNE:InD (fun k=>sv.ownBlock≠some k) lv (Zn.ysT z):=fun h0 b o m c e hk=>by
  have h1:=hld h0 b o m c e
  have h2:=(how.lt b hk).2
  omega
 have c6:=a02 kz9 6
 clear HYX c5 kz how kB hB9 hld hs HYE
 repeat'(first|go_skip|go_guarded|go_step|go_upon)
 clear c6 hT hT2
 go_loopw [8,12] (fun o t wr => ∃ (sv:Value) (T:Int) (L:List Zn.Tr),sv=o∧t=.int .i64 T∧T≤4503599627370496∧wr.ownsRow B5 57 2 sv (L).length (a4g (L))∧Zn.CInv z f u T L∧a2b wr lv (Zn.ysT z)∧InD (fun k=>sv.ownBlock≠some k) lv (Zn.ysT z)∧obj wr W.heap.size=some (.cells #[z.cal.a08,mv,z.cal.a0l,rv,z.start,.slice ta z.trans.length tc,z.hor,yv] 35 (0,0))∧B5≤wr.heap.size∧Below W W wr) (fun _ t _=>(u - intOf t).toNat+(if u≤intOf t then 0 else 1))
 case atStart=>exact ⟨_,T,L,rfl,rfl,by omega,how9,HCI,hlv,HNE,kz9,hs9,hB⟩
 clear how9 HCI hlv HNE kz9 hs9 hB hTb
 obtain ⟨sv,T,L,rfl,rfl,hTu,how,hci,hlv,hne,kz,hs,kB⟩:=hrel
 have hfT:=hci.fT
 have HCI:=zA hci
 have hlen:=Zn.chg_len HGD.out hci.isT hci.srt
 have HCYX:=zA (HCY.out wr kB)
 have HAF:=zA (fun (Wq:World) (hq:Below wr wr Wq)=>af8 (a1m.below hlv hq) HCK.out.sy HCK.out.ly HCK.out.c0 HCK.out.c1 (t:=T) (by omega) (by omega) HCK.out.by_)
 clear hci
 have hlen2:L.length≤4000:=by omega
 cases haf:Zn.a4w (Zn.ysT z) (Zn.a0s z) T with
 | none =>
  have HDN:Hid (Zn.ChgL z f u L):=zA (HCI.out.stop HGD.out (.inl haf))
  rw [haf] at HAF
  have HAF:Hid (∀ Wq:World,Below wr wr Wq→Calls Tryz.prog 68 #[lv,.int .i64 (Zn.a0s z),.int .i64 T] Wq fun e w'=>e=.returned (.tuple #[.agg #[(0:Int),(0:Int)],.bool false])∧Below Wq Wq w'):=HAF
  have ar2:ones #[(0:Int),(0:Int)]=true:=by simp [ones,a0n]
  have HTV:=zA (a13 how).2.1
  clear haf hlen
  repeat' ((go_not_at_region 12);(first | (go_at_call 49;((with_reducible refine (HCYX.out).mono ?_));rintro e w3 ⟨rfl,hb3⟩;have HAX:=zA (HAF.out w3 hb3);dsimp only) | (go_at_call 68;((with_reducible refine (HAX.out).mono ?_));rintro e w4 ⟨rfl,hb4⟩;have hb34:=hb3.trans (hb4.mono hb3.size);dsimp only)|go_skip|go_guarded|go_step|go_upon))
  have A5:=(zC w4.heap.size w4).alloc (zD _) (.cells #[(0:Int),(0:Int)] 57)
  have hb5:=hb34.trans (A5.mono hb34.size)
  have kB5:=kB.trans (hb5.mono kB.size)
  have HTV5:=zA (a1m.below HTV.out hb5)
  generalize (w4.alloc (.cells #[(0:Int),(0:Int)] 57))=w6 at *
  repeat'(first|go_skip|go_guarded|go_step|go_upon)
  go_returns
  exact ⟨⟨_,L,by rfl,HTV5.out,HDN.out⟩,kB5⟩
 | some x =>
  rw [haf] at HAF
  have HAF:Hid (∀ Wq:World,Below wr wr Wq→Calls Tryz.prog 68 #[lv,.int .i64 (Zn.a0s z),.int .i64 T] Wq fun e w'=>e=.returned (.tuple #[.agg #[x.tm,x.off],.bool true])∧Below Wq Wq w'):=HAF
  have honx:ones #[x.tm,x.off]=true:=by simp [ones,a0n]
  have HTV:=zA (a13 how).2.1
  have hTx:=(Zn.after_some HGD.out HCI.out.hT haf).2.1
  have HSP:Hid (x.tm < u→Zn.CInv z f u (x.tm+1) (L ++ [x])):=zA fun h=>HCI.out.step HGD.out haf h
  have HDN:Hid (u≤x.tm→Zn.ChgL z f u L):=zA fun h=>HCI.out.stop HGD.out (.inr ⟨x,haf,h⟩)
  clear haf hlen
  repeat' ((go_not_at_region 12);(first | (go_at_call 49;((with_reducible refine (HCYX.out).mono ?_));rintro e w3 ⟨rfl,hb3⟩;have HAX:=zA (HAF.out w3 hb3);dsimp only) | (go_at_call 68;((with_reducible refine (HAX.out).mono ?_));rintro e w4 ⟨rfl,hb4⟩;have hb34:=hb3.trans (hb4.mono hb3.size);dsimp only)|go_skip|go_guarded|go_step|go_upon))
  have A5:=(zC w4.heap.size w4).alloc (zD _) (.cells #[x.tm,x.off] 57)
  have n5:obj (w4.alloc (.cells #[x.tm,x.off] 57)) w4.heap.size=some (.cells #[x.tm,x.off] 57 (0,0)):=a05 _ _ _ rfl
  have hb5:=hb34.trans (A5.mono hb34.size)
  have kB5:=kB.trans (hb5.mono kB.size)
  have kz5:=a0a kz hb5
  have alq:=a0m how hb5
  have hlv5:a2b _ lv (Zn.ysT z):=a1m.below hlv hb5
  have hs5:=yG hs hb5.size
  have HOL:=zA (fun g h=>(how.lt g h).2)
  have hg4:wr.heap.size≤w4.heap.size:=hb34.size
  obtain ⟨sa,sc,hsv⟩:=(a13 how).2.2.2
  subst hsv
  clear how kz kB hs A5 hb34 hb5 hlv HTV
  generalize (w4.alloc (.cells #[x.tm,x.off] 57))=w6 at *
  generalize w4.heap.size=g4 at *
  have c6:=a02 n5 0
  by_cases hxu:u≤x.tm
  ·have HTV5:=zA (a13 alq).2.1
   repeat'(first|go_skip|go_guarded|go_step|go_upon)
   go_returns;exact ⟨⟨_,L,by rfl,HTV5.out,HDN.out hxu⟩,kB5⟩
  have hxu2:x.tm < u:=by omega
  have HN:=zA (HSP.out hxu2)
  have wx1:=zWI (x.tm+1)
  have l4:=a09 n5
  clear HSP HDN
  repeat' ((go_not_at_region 13);(first|go_skip|go_guarded|go_step|go_upon))
  have A6:=(zC w6.heap.size w6).alloc (zD _) (.cells #[x.tm,x.off] 57)
  have ow7:=a0m alq A6
  have n7:obj (w6.alloc (.cells #[x.tm,x.off] 57)) w6.heap.size=some (.cells #[x.tm,x.off] 57 (0,0)):=a05 _ _ _ rfl
  have nB:=kB5.trans (A6.mono kB5.size)
  have nz:=a0a kz5 A6
  have nlv:a2b _ lv (Zn.ysT z):=a1m.below hlv5 A6
  have n5':=a0a n5 A6
  have nsz:=nB.size
  have nhs:B5≤(w6.alloc (.cells #[x.tm,x.off] 57)).heap.size:=yG hs5 A6.size
  have l4':=a09 n5'
  have i4 : ¬ (4096:Int) < (L.length:Int)+1:=by omega
  clear alq kz5 hlv5 hs5 kB5 A6 c6
  repeat' ((go_not_at_region 14);(first | (at_builtin;(refine wpList_append_2x rfl _ _ rfl B5 L.length _ L rfl ow7 w6.heap.size x rfl n7 (by omega) nhs ?_);intro v7 W7 own7 hg7 hb7;have hg:(w6.alloc (.cells #[x.tm,x.off] 57)).grownBy W7 (Value.slice sa L.length sc).ownBlock:=hg7;clear hg7;have kz7:=a19 ow7 nz (by decide) hg;have n57:obj W7 g4=_:=(hg.block g4 l4' (fun e=>absurd (HOL.out g4 e.symm) (by omega))).trans n5';have kB7:=nB.grown hg nsz (fun g q=>by have:=a1p ow7 q;omega);have hlv7:a2b W7 lv (Zn.ysT z):=nlv.keep hne (fun k hk hD=>hg.block k hk (fun e=>hD e.symm));have hs7:B5≤W7.heap.size:=yG nhs hg.size;dsimp only)|go_skip|go_guarded|go_step|go_upon))
  have hne7:InD (fun k=>v7.ownBlock≠some k) lv (Zn.ysT z):=fun h0 b o m c e hk=>by
   rcases hb7 with h | h
   ·exact hne h0 b o m c e (h ▸ hk)
   ·have h2:=trs_lt nlv h0 b o m c e
    rw [h] at hk
    injection hk with hk
    omega
  obtain ⟨va,vc,hv7⟩:=(a13 own7).2.2.2
  have HBK:=zA (And.intro hne7 hlv7)
  have c7:=a02 n57 0
  clear hne hlv7 hne7 hb7 nlv ow7 nz n7 n5' nB hg
  subst hv7
  repeat'(first|go_skip|go_guarded|go_step|go_upon)
  exact ⟨⟨_,x.tm+1,L ++ [x],rfl,rfl,by omega,by rw [zX];exact own7,HN.out,HBK.out.2,HBK.out.1,kz7,hs7,kB7⟩,by show ((u - (x.tm+1)).toNat+if u≤x.tm+1 then 0 else 1) < (u - T).toNat+if u≤T then 0 else 1;split<;>split<;>omega⟩
end Go.Proofs.YtppjleebbjipbaaGreat
namespace Go.Proofs.YtppjleebbjipbaaGreat
open Go.RowKit Go.Shelf
set_option maxRecDepth 20000
set_option maxHeartbeats 8000000
theorem valT_setoff:∀ (l:List Zn.Tr) (i:Nat) (q:Int),i < l.length→a4g (l.set i ⟨(l.getD i default).tm,q⟩)=(a4g l).set (i * 2+1) (.int .i64 q)
 | y :: ys,0,q,_=>rfl
 | y :: ys,i+1,q,h=>by
  have:=valT_setoff ys i q (by simpa using h)
  show _ :: _ :: a4g (ys.set i _)=_
  rw [show ((y :: ys).getD (i+1) default)=ys.getD i default from rfl,this,show (i+1) * 2+1=i * 2+1+2 by omega]
  rfl
theorem owns_setoff {w:World} {base n c:Nat} {l:List Zn.Tr} {g:Nat} (hown:w.ownsRow base 77 2 (.slice (some ⟨g,0,none⟩) n c) n (a4g l)) {i:Nat} (hi:i < n) (q:Int):(w.setCell ⟨g,i * 2+1,none⟩ (.int .i64 q)).ownsRow base 77 2 (.slice (some ⟨g,0,none⟩) n c) n (a4g (l.set i ⟨(l.getD i default).tm,q⟩)):=by
 have hl:=(afr hown).1
 rcases hown.2 with ⟨e,_⟩ | ⟨g',c',cur,e,h1,h2,h3,h4,h5,h6⟩
 ·cases e
 cases e
 have ho2:obj w g=some (.cells cur 77 (0,0)):=h2
 refine ⟨by rw [a9f,uK,hl],.inr ⟨g,c,cur.setIfInBounds (i * 2+1) (.int .i64 q),rfl,h1,?_,h3,h4,by simpa using h5,?_⟩⟩
 ·show obj (w.setCell ⟨g,i * 2+1,none⟩ (.int .i64 q)) g=_
  rw [a0c,ho2]
  rfl
 rw [valT_setoff l i q (by omega),← h6]
 simp only [Array.toList_setIfInBounds,List.take_set]
theorem owns_obj {w:World} {base T z n c k g:Nat} {xs:List Value} (h:w.ownsRow base T z (.slice (some ⟨g,0,none⟩) n c) k xs) : ∃ cur,obj w g=some (.cells cur T (0,0)):=by
 rcases h.2 with ⟨e,_⟩ | ⟨g',c',cur,e,_,h2,_⟩
 ·cases e
 cases e
 exact ⟨cur,h2⟩
theorem rDiff_calls {W:World} {a b:Zn.a0w} {mva rva tva yva mvb rvb tvb yvb:Value} (hva:a1q W a mva rva tva yva) (hra:a.cal.rules.length < 9223372036854775808) (hma:a.cal.a0g.length < 9223372036854775808) (hvb:a1q W b mvb rvb tvb yvb) (hrb:b.cal.rules.length < 9223372036854775808) (hmb:b.cal.a0g.length < 9223372036854775808) (hga:Zn.Good a) (hgb:Zn.Good b) {f u:Int} (hf : -2251799813685248≤f) (hu:u≤2251799813685248) (hfu:f≤u) (hw:u - f≤8000000) :
  Calls Tryz.prog 42 #[.agg #[a.cal.a08,mva,a.cal.a0l,rva,a.start,tva,a.hor,yva],.agg #[b.cal.a08,mvb,b.cal.a0l,rvb,b.start,tvb,b.hor,yvb],.agg #[f,u]] W fun e w'=>(∃ v L,e=.returned (.tuple #[v,.int .i64 0])∧a2b w' v L∧Zn.ordB L∧∀ t,Zn.hasB L t=true↔f≤t∧t < u∧Zn.a2u a t≠Zn.a2u b t)∧Below W W w':=by
 have hona:ones #[a.cal.a08,mva,a.cal.a0l,rva,a.start,tva,a.hor,yva]=true:=a1b hva.cal.mon.one hva.cal.rul.one (a1m.one hva.tr) (a1m.one hva.yr)
 have honb:ones #[b.cal.a08,mvb,b.cal.a0l,rvb,b.start,tvb,b.hor,yvb]=true:=a1b hvb.cal.mon.one hvb.cal.rul.one (a1m.one hvb.tr) (a1m.one hvb.yr)
 have hons:ones #[f,u]=true:=by simp [ones,a0n]
 have hB0:Below W W (((W.alloc (.cells #[a.cal.a08,mva,a.cal.a0l,rva,a.start,tva,a.hor,yva] 35)).alloc (.cells #[b.cal.a08,mvb,b.cal.a0l,rvb,b.start,tvb,b.hor,yvb] 35)).alloc (.cells #[f,u] 77)):=(((bR.alloc (zD _) _).alloc (by simp) _).alloc (by simp;omega) _)
 have oa:obj (((W.alloc (.cells #[a.cal.a08,mva,a.cal.a0l,rva,a.start,tva,a.hor,yva] 35)).alloc (.cells #[b.cal.a08,mvb,b.cal.a0l,rvb,b.start,tvb,b.hor,yvb] 35)).alloc (.cells #[f,u] 77)) W.heap.size=some (.cells #[a.cal.a08,mva,a.cal.a0l,rva,a.start,tva,a.hor,yva] 35 (0,0)):=a06 (a06 (a05 _ _ _ rfl) _) _
 have ob:obj (((W.alloc (.cells #[a.cal.a08,mva,a.cal.a0l,rva,a.start,tva,a.hor,yva] 35)).alloc (.cells #[b.cal.a08,mvb,b.cal.a0l,rvb,b.start,tvb,b.hor,yvb] 35)).alloc (.cells #[f,u] 77)) (W.heap.size+1)=some (.cells #[b.cal.a08,mvb,b.cal.a0l,rvb,b.start,tvb,b.hor,yvb] 35 (0,0)):=a06 (a05 _ _ _ (by simp)) _
 have os:obj (((W.alloc (.cells #[a.cal.a08,mva,a.cal.a0l,rva,a.start,tva,a.hor,yva] 35)).alloc (.cells #[b.cal.a08,mvb,b.cal.a0l,rvb,b.start,tvb,b.hor,yvb] 35)).alloc (.cells #[f,u] 77)) (W.heap.size+2)=some (.cells #[f,u] 77 (0,0)):=a05 _ _ _ (by simp)
 have HA:=zA (fun (Wq:World) (hq:Below W W Wq)=>rChanges_calls (hva.below hq) hra hma hga hf hu hfu hw)
 have HB:=zA (fun (Wq:World) (hq:Below W W Wq)=>rChanges_calls (hvb.below hq) hrb hmb hgb hf hu hfu hw)
 have HFA:=zA (fun (Wq:World) (hq:Below W W Wq) (t:Int) (h1 : -9007199254740992≤t) (h2:t≤9007199254740992)=>roff_calls (hva.below hq) hga h1 h2)
 have HFB:=zA (fun (Wq:World) (hq:Below W W Wq) (t:Int) (h1 : -9007199254740992≤t) (h2:t≤9007199254740992)=>roff_calls (hvb.below hq) hgb h1 h2)
 have HGA:=zA hga
 have HGB:=zA hgb
 clear hva hvb hga hgb
 go_enter Tryz.func42,Tryz.ntmps42
 repeat' ((go_not_at_region 1);(first|go_skip|go_guarded|go_step|go_upon))
 generalize (((W.alloc (.cells #[a.cal.a08,mva,a.cal.a0l,rva,a.start,tva,a.hor,yva] 35)).alloc (.cells #[b.cal.a08,mvb,b.cal.a0l,rvb,b.start,tvb,b.hor,yvb] 35)).alloc (.cells #[f,u] 77))=V at *
 have s0:=a02 os 0
 have s1:=a02 os 1
 repeat' ((go_not_at_region 2);(first | (go_at_call 40;((with_reducible refine ((HA.out _ hB0).mono ?_)));rintro e w1 ⟨⟨v1,la,rfl,ht1,hc1⟩,hB'⟩;have hB1:=hB0.trans (hB'.mono hB0.size);have oa1:=a0a oa hB';have ob1:=a0a ob hB';have os1:=a0a os hB';have t0:=a02 os1 0;have t1:=a02 os1 1;dsimp only)|go_skip|go_guarded|go_step|go_upon))
 have HCA:=zA hc1
 clear s0 s1 oa ob os hB' hc1
 repeat' ((go_not_at_region 3);(first | (go_at_call 40;((with_reducible refine ((HB.out _ hB1).mono ?_)));rintro e w2 ⟨⟨v2,lb,rfl,ht2,hc2⟩,hB'⟩;have hB2:=hB1.trans (hB'.mono hB1.size);have oa2:=a0a oa1 hB';have ob2:=a0a ob1 hB';have os2:=a0a os1 hB';have ht1':=a1m.below ht1 hB';dsimp only)|go_skip|go_guarded|go_step|go_upon))
 have HCB:=zA hc2
 have HT1:=zA (show a2b w2 v1 la from ht1')
 have HT2:=zA (show a2b w2 v2 lb from ht2)
 have hlal:=Zn.chg_len HGA.out HCA.out.isT HCA.out.srt
 have hlbl:=Zn.chg_len HGB.out HCB.out.isT HCB.out.srt
 have hlaL:la.length≤4000:=by omega
 have hlbL:lb.length≤4000:=by omega
 obtain ⟨xa1,xc1,hx1⟩:=a2b.ajx HT1.out
 obtain ⟨xa2,xc2,hx2⟩:=a2b.ajx HT2.out
 subst hx1
 subst hx2
 clear t0 t1 oa1 ob1 os1 ht1 ht1' ht2 hB1 hB0 hB' hc2 HA HB hlal hlbl
 repeat' ((go_not_at_region 7);(first|go_skip|go_guarded|go_step|go_upon))
 have hB0:=(zC w2.heap.size w2).alloc (zD _) (.cells #[] 57)
 have how0:(w2.alloc (.cells #[] 57)).ownsRow w2.heap.size 57 2 (.slice (some ⟨w2.heap.size,0,none⟩) 0 0) 0 (a4g []):=⟨rfl,.inr ⟨_,0,#[],rfl,zD _,a05 _ _ _ rfl,zD _,by unfold maxLen;omega,rfl,rfl⟩⟩
 repeat' ((go_not_at_region 8);(first|go_skip|go_guarded|go_step|go_upon))
 generalize (w2.alloc (.cells #[] 57))=V2 at *
 repeat'(first|go_skip|go_guarded|go_step|go_upon)
 go_loopw [12,13] (fun o i wr => ∃ (k:Nat) (sv:Value),k≤la.length∧i=.int .i64 k∧sv=o∧wr.ownsRow w2.heap.size 57 2 sv (Zn.a4t (la.take k)).length (a4g (Zn.a4t (la.take k)))∧Below w2 w2 wr) (fun _ i _=>((la.length:Int) - intOf i).toNat)
 case atStart=>exact ⟨0,_,xG _,rfl,rfl,by skip;exact how0,hB0⟩
 clear how0 hB0
 obtain ⟨k,sv,hk,rfl,rfl,how,hB⟩:=hrel
 have hsz:=hB.size
 by_cases hlk:k < la.length
 ·have i1:(k:Int) < (la.length:Int):=by omega
  obtain ⟨tb,tof,tc',a5d,TT',tfr,htv,tq1,tq2⟩:=a2b.open (a1m.below HT1.out hB) (by omega)
  have htv:=htv
  obtain ⟨z0,k3⟩:=tq2 k hlk
  have z1:(tof+k * 2+2≤a5d.size)=True:=xN z0
  obtain ⟨x,hx⟩ : ∃ x,la.getD k default=x:=⟨_,rfl⟩
  rw [hx] at k3
  have k3:a5d.extract (tof+k * 2) (tof+k * 2+2)=#[.int .i64 x.tm,.int .i64 x.off]:=k3
  have hon5:ones #[x.tm,x.off]=true:=by simp [ones,a0n]
  have HST:Hid (Zn.a4t (la.take (k+1))=Zn.acd x (Zn.a4t (la.take k))):=zA (by rw [← Zn.agp,Zn.take_snoc hlk default,hx])
  have hll:(Zn.a4t (la.take k)).length≤10000:=by rw [(Zn.a5i _).length_eq];rw [wR];omega
  have HIN:=zA (adr (t:=x) how (Zn.ac1 _) (by omega) hsz)
  have HLE:=zA (show (Zn.acd x (Zn.a4t (la.take k))).length=(Zn.a4t (la.take k)).length+1 by rw [(Zn.a8c _ _).length_eq];rfl)
  generalize Zn.a4t (la.take k)=L at *
  injection htv with e1 e2 e3
  subst e1
  clear z0 tq2 e2 e3 hx
  repeat' (first | (go_at_call 83;((with_reducible refine (HIN.out).mono ?_));rintro e w5 ⟨v5,rfl,a3p,hX5⟩;have hB5:=hB.trans (hX5.below (by omega) (fun q hq=>by omega));dsimp only)|go_skip|go_guarded|go_step|go_upon)
  exact ⟨⟨k+1,_,by omega,by go_num,rfl,by rw [HST.out,HLE.out];exact a3p,hB5⟩,by simp [intOf]<;>omega⟩
 have i1 : ¬ (k:Int) < (la.length:Int):=by omega
 obtain rfl:k=la.length:=by omega
 rw [wY] at how
 have how0:=how
 have hB0:=hB
 clear how hB
 repeat'(first|go_skip|go_guarded|go_step|go_upon)
 go_loopw [12,14] (fun o i wr => ∃ (k:Nat) (sv:Value),k≤lb.length∧i=.int .i64 k∧sv=o∧wr.ownsRow w2.heap.size 57 2 sv (Zn.a4t (la++lb.take k)).length (a4g (Zn.a4t (la++lb.take k)))∧Below w2 w2 wr) (fun _ i _=>((lb.length:Int) - intOf i).toNat)
 case atStart=>exact ⟨0,_,xG _,rfl,rfl,by rw [List.take_zero,uA];exact how0,hB0⟩
 clear how0 hB0
 obtain ⟨k,sv,hk,rfl,rfl,how,hB⟩:=hrel
 have hsz:=hB.size
 by_cases hlk:k < lb.length
 ·have i1:(k:Int) < (lb.length:Int):=by omega
  obtain ⟨tb,tof,tc',a5d,TT',tfr,htv,tq1,tq2⟩:=a2b.open (a1m.below HT2.out hB) (by omega)
  have htv:=htv
  obtain ⟨z0,k3⟩:=tq2 k hlk
  have z1:(tof+k * 2+2≤a5d.size)=True:=xN z0
  obtain ⟨x,hx⟩ : ∃ x,lb.getD k default=x:=⟨_,rfl⟩
  rw [hx] at k3
  have k3:a5d.extract (tof+k * 2) (tof+k * 2+2)=#[.int .i64 x.tm,.int .i64 x.off]:=k3
  have hon5:ones #[x.tm,x.off]=true:=by simp [ones,a0n]
  have HST:Hid (Zn.a4t (la++lb.take (k+1))=Zn.acd x (Zn.a4t (la++lb.take k))):=zA (by rw [← Zn.agp,Zn.take_snoc hlk default,hx,List.append_assoc])
  have hll:(Zn.a4t (la++lb.take k)).length≤10000:=by rw [(Zn.a5i _).length_eq];rw [zX,wR];omega
  have HIN:=zA (adr (t:=x) how (Zn.ac1 _) (by omega) hsz)
  have HLE:=zA (show (Zn.acd x (Zn.a4t (la++lb.take k))).length=(Zn.a4t (la++lb.take k)).length+1 by rw [(Zn.a8c _ _).length_eq];rfl)
  generalize Zn.a4t (la++lb.take k)=L at *
  injection htv with e1 e2 e3
  subst e1
  clear z0 tq2 e2 e3 hx
  repeat' (first | (go_at_call 83;((with_reducible refine (HIN.out).mono ?_));rintro e w5 ⟨v5,rfl,a3p,hX5⟩;have hB5:=hB.trans (hX5.below (by omega) (fun q hq=>by omega));dsimp only)|go_skip|go_guarded|go_step|go_upon)
  exact ⟨⟨k+1,_,by omega,by go_num,rfl,by rw [HST.out,HLE.out];exact a3p,hB5⟩,by simp [intOf]<;>omega⟩
 have i1 : ¬ (k:Int) < (lb.length:Int):=by omega
 obtain rfl:k=lb.length:=by omega
 rw [wY] at how
 obtain ⟨S0,hS0⟩ : ∃ S0,Zn.a4t (la++lb)=S0:=⟨_,rfl⟩
 have HS0:=zA hS0
 rw [hS0] at how
 have hl9:S0.length≤10000:=by rw [← hS0,(Zn.a5i _).length_eq,zX];omega
 clear hS0
 have os3:=a0a os2 hB
 have s1:=a02 os3 1
 have honu:ones #[u,(0:Int)]=true:=by simp [ones,a0n]
 have A6:=(zC wr.heap.size wr).alloc (zD _) (.cells #[u,(0:Int)] 57)
 have ow7:=a0m how A6
 have n6:obj (wr.alloc (.cells #[u,(0:Int)] 57)) wr.heap.size=some (.cells #[u,(0:Int)] 57 (0,0)):=a05 _ _ _ rfl
 have nB:=hB.trans (A6.mono hB.size)
 have nsz:=nB.size
 obtain ⟨xa,xc,hxv⟩:=(a13 how).2.2.2
 subst hxv
 repeat' ((go_not_at_region 17);(first | (at_builtin;(refine a2m rfl _ _ rfl w2.heap.size S0.length _ S0 rfl ow7 wr.heap.size ⟨u,0⟩ rfl n6 (by omega) nsz ?_);intro v6 w6 alk hg6;have hg:(wr.alloc (.cells #[u,(0:Int)] 57)).grownBy w6 (Value.slice xa S0.length xc).ownBlock:=hg6;clear hg6;have hB6:=nB.grown hg nsz (fun g q=>a1p ow7 q);dsimp only)|go_skip|go_guarded|go_step|go_upon))
 clear s1 A6 ow7 n6 nB nsz os3 how hB
 obtain ⟨S,hS⟩ : ∃ S,S0 ++ [(⟨u,0⟩:Zn.Tr)]=S:=⟨_,rfl⟩
 rw [hS] at alk
 obtain ⟨M,hM⟩ : ∃ M,S0.length+1=M:=⟨_,rfl⟩
 have HM:=zA hM
 have HSS:=zA hS
 have hSl:S.length=M:=by rw [← hS,zX];exact hM
 have HSL:=zA hSl
 rw [hM] at alk
 have hM9:M≤10001:=by omega
 obtain ⟨sb,so,sc,srow,TT',tfr,htv,kS,tq2⟩:=a2b.open (a13 alk).2.1 (by omega)
 rw [hSl] at htv
 subst htv
 have HQ2:=zA tq2
 clear hM hS hSl tq2 alk
 have HCU:=zA (show Zn.DInv a b f u S 0 f []∧Zn.CutOk a b f u S by rw [← HSS.out,← HS0.out];exact ⟨Zn.DInv.init hfu (Zn.cut_ok hfu HCA.out HCB.out),Zn.cut_ok hfu HCA.out HCB.out⟩)
 have oa6:=a0a oa2 hB6
 have ob6:=a0a ob2 hB6
 have os6:=a0a os2 hB6
 have hBw6:=hB2.trans (hB6.mono hB2.size)
 have lS:=a09 kS
 have la6:=a09 oa6
 have lb6:=a09 ob6
 have HSB:=zA lS
 have A7:=(zC w6.heap.size w6).alloc (zD _) (.cells #[] 77)
 have hown:(w6.alloc (.cells #[] 77)).ownsRow w6.heap.size 77 2 (.slice (some ⟨w6.heap.size,0,none⟩) 0 0) 0 (a4g []):=⟨rfl,.inr ⟨_,0,#[],rfl,zD _,a05 _ _ _ rfl,zD _,by unfold maxLen;omega,rfl,rfl⟩⟩
 have os7:=a0a os6 A7
 have s0:=a02 os7 0
 have hBl:=A7
 clear oa2 ob2 os2 hB6 hB2 os6 os7 A7
 repeat' ((go_not_at_region 18);(first|go_skip|go_guarded|go_step|go_upon))
 generalize (w6.alloc (.cells #[] 77))=V7 at *
 repeat' ((go_not_at_region 20);(first|go_skip|go_guarded|go_step|go_upon))
 clear s0
 go_loopw [15,16,17] (fun o t i wr => ∃ (k:Nat) (fr:Int) (L:List Zn.Tr) (sv:Value),k≤M∧L.length≤k∧i=.int .i64 k∧t=.int .i64 fr∧sv=o∧wr.ownsRow w6.heap.size 77 2 sv L.length (a4g L)∧Zn.DInv a b f u S k fr L∧Below w6 w6 wr) (fun _ _ i _=>((M:Int) - intOf i).toNat)
 case atStart=>exact ⟨0,f,[],_,xG _,zD _,rfl,rfl,rfl,hown,HCU.out.1,hBl⟩
 clear hown hBl
 obtain ⟨k,fr,L,sv,hk,hLk,rfl,rfl,rfl,how,hdi,hB⟩:=hrel
 have hsz:=hB.size
 have HDI:=zA hdi
 have hff:=hdi.ff
 have hfuu:=hdi.fu
 clear hdi
 obtain ⟨la9,lc9,hlv⟩:=owns_sl how
 subst hlv
 by_cases hlk:k < M;rotate_left
 ·have i1 : ¬ (k:Int) < (M:Int):=by omega
  obtain rfl:k=M:=by omega
  have HTV:=zA (afr how).2.1
  have hBW:=hBw6.trans (hB.mono hBw6.size)
  repeat'(first|go_skip|go_guarded|go_step|go_upon)
  go_returns
  exact ⟨⟨_,L,by rfl,HTV.out,by have h9:=HDI.out;rw [← HSS.out,← HM.out] at h9;exact h9.done⟩,hBW⟩
 have i1:(k:Int) < (M:Int):=by omega
 have hLl:L.length≤100000000:=by omega
 have hkS:k < S.length:=by rw [HSL.out];exact hlk
 have s0:=a0y 0 (HQ2.out k (by omega)).2 (by simp)
 obtain ⟨c,hc⟩ : ∃ c,(S.getD k default).tm=c:=⟨_,rfl⟩
 have hfc:=HDI.out.hi k (zD _) (by omega)
 rw [hc] at hfc
 have s0:srow[so+k * 2]? = some (.int .i64 c):=by rw [← hc];exact s0
 have HC:=zA hc
 clear hc
 have hcu:c≤u:=by rw [← HC.out];exact (HCU.out.2.inn k (by omega)).2
 have kw:=a04 kS hB lS
 have lw:=a09 kw
 have oaw:=a04 oa6 hB la6
 have obw:=a04 ob6 hB lb6
 have loa:=a09 oaw
 have lob:=a09 obw
 have hBW:=hBw6.trans (hB.mono hBw6.size)
 have HFA9:=zA (fun Wq hq=>HFA.out Wq hq fr (by omega) (by omega))
 have HFB9:=zA (fun Wq hq=>HFB.out Wq hq fr (by omega) (by omega))
 have mx1:(if fr < c then c else fr)=c:=by split<;>omega
 have mx2:max fr c=c:=by rw [Int.max_def];split<;>omega
 obtain ⟨oa9,hoa⟩ : ∃ o,Zn.a2u a fr=o:=⟨_,rfl⟩
 obtain ⟨ob9,hob⟩ : ∃ o,Zn.a2u b fr=o:=⟨_,rfl⟩
 rw [hoa] at HFA9
 rw [hob] at HFB9
 have HOO:=zA (And.intro hoa hob)
 clear hoa hob
 repeat' ((go_not_at_region 22);(first|go_skip|go_guarded|go_step|go_upon))
 by_cases hfl:fr < c;rotate_left
 ·have HDN:=zA (HDI.out.none HGA.out HGB.out HCU.out.2 (by omega) HC.out (.inl hfl))
  refine a0k 16 [([],fun v _=>v=.slice (some ⟨sb,so,none⟩) M sc),([],fun v _=>v=.int .i64 (k:Nat)),([0,1],fun v _=>v=.pointer (some ⟨sb,so+k * 2,none⟩)),([2],fun v _=>v=.pointer (some ⟨sb,so+k * 2,none⟩)),([3],fun v _=>v=.int .i64 c),([],fun v _=>v=.int .i64 fr),([4,5],fun v _=>v=.bool false),([6],fun v _=>v=.bool false),([7],fun v _=>v=undef),([7],fun v _=>v=undef),([8,9,7],fun v _=>v=undef),([7],fun v _=>v=undef),([7],fun v _=>v=undef),([11,12,10,7],fun v _=>v=undef),([10,13,7],fun v _=>v=undef),
    ([7,14],fun v _=>v=.bool false)] (by kernel_rfl) (by kernel_rfl) (by kernel_rfl) ?st ?ob ?_
  case st => intro k v W1 W2 h hb;rcases k with _|_|_|_|_|_|_|_|_|_|_|_|_|_|_|_|k<;>first | exact h | trivial
  case ob => and_intros<;>first|exact ⟨⟩|(intro vs Wq hW hk;(have q0:=(a02 (a04 kw hW lw) (so+k * 2)).trans s0);(try simp only [knows,Spec.at',↓zH,↓zG,yL] at hk);simp only [Spec.at',↓zH,↓zG,a00,a03,yy0,yy1,yy2,yy3];(try simp only [hk]);first | ((repeat'(first|go_skip|go_guarded|go_step|go_upon));exact a01 _ rfl (by go_simp) bR rfl))
  intro vs W2 hW2 hk2;have v15:vs 15=.bool false:=hk2 15 (by decide);clear hk2;dsimp only [a1d,List.take,List.drop];simp only [Act.put,zF,zI,zJ];rw [v15];generalize vs 0=e0,vs 1=e1,vs 2=e2,vs 3=e3,vs 4=e4,vs 5=e5,vs 6=e6,vs 7=e7,vs 8=e8,vs 9=e9,vs 10=e10,vs 11=e11,vs 12=e12,vs 13=e13,vs 14=e14;clear v15;have how:=a0m how hW2;have kw:=a04 kw hW2 lw;have hB:=hB.trans (hW2.mono hB.size);have lw:=a09 kw;have c0:=(a02 kw (so+k * 2)).trans s0;clear hW2 HFA9 HFB9 oaw obw loa lob hBW;(repeat'(first|go_skip|go_guarded|go_step|go_upon));exact ⟨⟨k+1,c,L,_,by omega,by omega,by go_num,rfl,rfl,how,HDN.out,hB⟩,by simp [intOf]<;>omega⟩
 by_cases hne:oa9=ob9
 ·have HDN:=zA (HDI.out.none HGA.out HGB.out HCU.out.2 (by omega) HC.out (.inr (by rw [HOO.out.1,HOO.out.2];exact hne)))
  subst hne
  refine a0k 16 [([],fun v _=>v=.slice (some ⟨sb,so,none⟩) M sc),([],fun v _=>v=.int .i64 (k:Nat)),([0,1],fun v _=>v=.pointer (some ⟨sb,so+k * 2,none⟩)),([2],fun v _=>v=.pointer (some ⟨sb,so+k * 2,none⟩)),([3],fun v _=>v=.int .i64 c),([],fun v _=>v=.int .i64 fr),([4,5],fun v _=>v=.bool true),([6],fun v _=>v=.bool true),([7],fun v _=>v=.agg #[a.cal.a08,mva,a.cal.a0l,rva,a.start,tva,a.hor,yva]),([7],fun v _=>v=.int .i64 fr),([8,9,7],fun v _=>v=.int .i64 oa9),([7],fun v _=>v=.agg #[b.cal.a08,mvb,b.cal.a0l,rvb,b.start,tvb,b.hor,yvb]),([7],fun v _=>v=.int .i64 fr),([11,12,10,7],fun v _=>v=.int .i64 oa9),([10,13,7],fun v _=>v=.bool false),
    ([7,14],fun v _=>v=.bool false)] (by kernel_rfl) (by kernel_rfl) (by kernel_rfl) ?st ?ob ?_
  case st => intro k v W1 W2 h hb;rcases k with _|_|_|_|_|_|_|_|_|_|_|_|_|_|_|_|k<;>first | exact h | trivial
  case ob => and_intros<;>first|exact ⟨⟩|(intro vs Wq hW hk;(have q0:=(a02 (a04 kw hW lw) (so+k * 2)).trans s0);(have q1:=a04 oaw hW loa);(have q2:=a04 obw hW lob);(try simp only [knows,Spec.at',↓zH,↓zG,yL] at hk);simp only [Spec.at',↓zH,↓zG,a00,a03,yy0,yy1,yy2,yy3];(try simp only [hk]);first | ((repeat'(first|go_skip|go_guarded|go_step|go_upon));exact a01 _ rfl (by go_simp) bR rfl) | ((have HX:=zA (HFA9.out Wq (hBW.trans (hW.mono hBW.size))));(repeat' (first | (go_at_call 58;((with_reducible refine (HX.out).mono ?_));rintro e w9 ⟨rfl,hb9⟩;dsimp only)|go_skip|go_guarded|go_step|go_upon));exact a01 _ rfl (by go_simp) hb9 rfl) | ((have HX:=zA (HFB9.out Wq (hBW.trans (hW.mono hBW.size))));(repeat' (first | (go_at_call 58;((with_reducible refine (HX.out).mono ?_));rintro e w9 ⟨rfl,hb9⟩;dsimp only)|go_skip|go_guarded|go_step|go_upon));exact a01 _ rfl (by go_simp) hb9 rfl) | fail)
  intro vs W2 hW2 hk2;have v15:vs 15=.bool false:=hk2 15 (by decide);clear hk2;dsimp only [a1d,List.take,List.drop];simp only [Act.put,zF,zI,zJ];rw [v15];generalize vs 0=e0,vs 1=e1,vs 2=e2,vs 3=e3,vs 4=e4,vs 5=e5,vs 6=e6,vs 7=e7,vs 8=e8,vs 9=e9,vs 10=e10,vs 11=e11,vs 12=e12,vs 13=e13,vs 14=e14;clear v15;have how:=a0m how hW2;have kw:=a04 kw hW2 lw;have hB:=hB.trans (hW2.mono hB.size);have lw:=a09 kw;have c0:=(a02 kw (so+k * 2)).trans s0;clear hW2 HFA9 HFB9 oaw obw loa lob hBW;(repeat'(first|go_skip|go_guarded|go_step|go_upon));exact ⟨⟨k+1,c,L,_,by omega,by omega,by go_num,rfl,rfl,how,HDN.out,hB⟩,by simp [intOf]<;>omega⟩
 have HNQ:=zA (show Zn.a2u a fr≠Zn.a2u b fr by rw [HOO.out.1,HOO.out.2];exact hne)
 have HDA0:Hid ((∀ s,s∈L→s.off≠fr)→Zn.DInv a b f u S (k+1) c (L ++ [⟨fr,c⟩])):=zA (HDI.out.add HGA.out HGB.out HCU.out.2 (by omega) HC.out hfl HNQ.out)
 have HDM0:Hid (∀ L0 s,L=L0 ++ [s]→s.off=fr→Zn.DInv a b f u S (k+1) c (L0 ++ [⟨s.tm,c⟩])):=zA (fun L0 s e h=>by subst e;exact HDI.out.more HGA.out HGB.out HCU.out.2 (by omega) HC.out hfl HNQ.out h)
 have HNE:Hid (∀ L0 s,L=L0 ++ [s]→∀ w,w∈L→¬ s.off=fr→w.off≠fr):=zA (fun L0 s e w hw h=>by
  subst e
  rcases yJ.1 hw with hw | hw
  ·have h1:=(Zn.ordB_init HDI.out.ord).2.2 w hw
   have h2:=(Zn.ordB_init HDI.out.ord).2.1;have h3:=HDI.out.top s (yJ.2 (.inr (yD.2 rfl)));omega
  ·rw [yD.1 hw];exact h)
 have hnb:(oa9 != ob9)=true:=wX.2 hne
 refine a0k 16 [([],fun v _=>v=.slice (some ⟨sb,so,none⟩) M sc),([],fun v _=>v=.int .i64 (k:Nat)),([0,1],fun v _=>v=.pointer (some ⟨sb,so+k * 2,none⟩)),([2],fun v _=>v=.pointer (some ⟨sb,so+k * 2,none⟩)),([3],fun v _=>v=.int .i64 c),([],fun v _=>v=.int .i64 fr),([4,5],fun v _=>v=.bool true),([6],fun v _=>v=.bool true),([7],fun v _=>v=.agg #[a.cal.a08,mva,a.cal.a0l,rva,a.start,tva,a.hor,yva]),([7],fun v _=>v=.int .i64 fr),([8,9,7],fun v _=>v=.int .i64 oa9),([7],fun v _=>v=.agg #[b.cal.a08,mvb,b.cal.a0l,rvb,b.start,tvb,b.hor,yvb]),([7],fun v _=>v=.int .i64 fr),([11,12,10,7],fun v _=>v=.int .i64 ob9),([10,13,7],fun v _=>v=.bool true),
   ([7,14],fun v _=>v=.bool true)] (by kernel_rfl) (by kernel_rfl) (by kernel_rfl) ?st ?ob ?_
 case st => intro k v W1 W2 h hb;rcases k with _|_|_|_|_|_|_|_|_|_|_|_|_|_|_|_|k<;>first | exact h | trivial
 case ob => and_intros<;>first|exact ⟨⟩|(intro vs Wq hW hk;(have q0:=(a02 (a04 kw hW lw) (so+k * 2)).trans s0);(have q1:=a04 oaw hW loa);(have q2:=a04 obw hW lob);(try simp only [knows,Spec.at',↓zH,↓zG,yL] at hk);simp only [Spec.at',↓zH,↓zG,a00,a03,yy0,yy1,yy2,yy3];(try simp only [hk]);first | ((repeat'(first|go_skip|go_guarded|go_step|go_upon));exact a01 _ rfl (by go_simp) bR rfl) | ((have HX:=zA (HFA9.out Wq (hBW.trans (hW.mono hBW.size))));(repeat' (first | (go_at_call 58;((with_reducible refine (HX.out).mono ?_));rintro e w9 ⟨rfl,hb9⟩;dsimp only)|go_skip|go_guarded|go_step|go_upon));exact a01 _ rfl (by go_simp) hb9 rfl) | ((have HX:=zA (HFB9.out Wq (hBW.trans (hW.mono hBW.size))));(repeat' (first | (go_at_call 58;((with_reducible refine (HX.out).mono ?_));rintro e w9 ⟨rfl,hb9⟩;dsimp only)|go_skip|go_guarded|go_step|go_upon));exact a01 _ rfl (by go_simp) hb9 rfl) | fail)
 intro vs W2 hW2 hk2
 have v15:vs 15=.bool true:=hk2 15 (by decide)
 clear hk2
 dsimp only [a1d,List.take,List.drop]
 simp only [Act.put,zF,zI,zJ]
 rw [v15]
 generalize vs 0=e0,vs 1=e1,vs 2=e2,vs 3=e3,vs 4=e4,vs 5=e5,vs 6=e6,vs 7=e7,vs 8=e8,vs 9=e9,vs 10=e10,vs 11=e11,vs 12=e12,vs 13=e13,vs 14=e14
 clear v15
 have how:=a0m how hW2
 have kw:=a04 kw hW2 lw
 have hB:=hB.trans (hW2.mono hB.size)
 have lw:=a09 kw
 have c0:=(a02 kw (so+k * 2)).trans s0
 clear hW2 HFA9 HFB9 oaw obw loa lob hBW
 rcases List.eq_nil_or_concat L with hnil | ⟨L0,s,hL⟩
 ·have hl0:L.length=0:=by rw [hnil];rfl
  have wl:IntKind.wrap .i64 ((L.length:Int) - 1) = -1:=by rw [hl0];rfl
  have HDA:=zA (HDA0.out (fun s hs=>by rw [hnil] at hs;cases hs))
  clear hnil hl0 HDA0 HDM0
  have hon7:ones #[fr,c]=true:=by simp [ones,a0n]
  have A6:=(zC W2.heap.size W2).alloc (zD _) (.cells #[fr,c] 77)
  have ow7:=a0m how A6
  have n6:obj (W2.alloc (.cells #[fr,c] 77)) W2.heap.size=some (.cells #[fr,c] 77 (0,0)):=a05 _ _ _ rfl
  have nB:=hB.trans (A6.mono hB.size)
  have nsz:=nB.size
  have kw6:=a0a kw A6
  repeat' ((go_not_at_region 27);(first | (at_builtin;(refine wpList_append_sp rfl _ _ rfl w6.heap.size L.length (.slice la9 L.length lc9) L rfl ow7 W2.heap.size ⟨fr,c⟩ rfl n6 (by omega) nsz ?_);intro v5 W5 a3p hg5 _;have hg:(W2.alloc (.cells #[fr,c] 77)).grownBy W5 (Value.slice la9 L.length lc9).ownBlock:=hg5;clear hg5;have hB5:=nB.grown hg nsz (fun g q=>a1p ow7 q);have kw5:obj W5 sb=_:=(hg.block sb (a09 kw6) (fun e=>by have h1:=a1p ow7 e.symm;have h2:=HSB.out;omega)).trans kw6;dsimp only)|go_skip|go_guarded|go_step|go_upon))
  have c5:=(a02 kw5 (so+k * 2)).trans s0
  repeat'(first|go_skip|go_guarded|go_step|go_upon)
  exact ⟨⟨k+1,c,L ++ [⟨fr,c⟩],_,by omega,by rw [zX];exact Nat.succ_le_succ hLk,by go_num,rfl,rfl,by rw [zX];exact a3p,HDA.out,hB5⟩,by simp [intOf]<;>omega⟩
 rw [List.concat_eq_append] at hL
 have hl0:L.length=L0.length+1:=by rw [hL];simp
 have HL:=zA hL
 obtain ⟨n,hn⟩ : ∃ n,L0.length=n:=⟨_,rfl⟩
 have HN:=zA hn
 rw [hn] at hl0
 have HL0:=zA hl0
 have wl:IntKind.wrap .i64 ((L.length:Int) - 1)=(n:Int):=by rw [wrap_in]<;>omega
 have hgd:L.getD n default=s:=by rw [hL,zB,yZ (by omega),hn,vC];rfl
 have j0 : ¬ (n:Int) < 0:=by omega
 have j1:(n:Int) < (L.length:Int):=by omega
 have j2:(0:Int)≤(n:Int):=by omega
 obtain ⟨g,cc,hgv⟩:=(afr how).2.2.1 (by omega)
 obtain ⟨tb,tof,tc',a5d,TT',tfr,htv,tq1,tq2⟩:=a2b.open (afr how).2.1 (by omega)
 obtain ⟨rfl,rfl⟩:la9=some ⟨g,0,none⟩∧lc9=cc:=by injection hgv with a b c;exact ⟨a,c⟩
 obtain ⟨rfl,rfl⟩:g=tb∧0=tof:=by injection htv with a b c;injection a with a;injection a with a b;exact ⟨a,b⟩
 have es:=a0y 1 (tq2 n (by omega)).2 (by simp)
 rw [hgd] at es
 have es:a5d[0+n * 2+1]? = some (.int .i64 s.off):=es
 rw [yI] at es
 have cs:=(a02 tq1 (n * 2+1)).trans es
 obtain ⟨cur9,hcur9⟩:=owns_obj how
 have fs:=a0d hcur9 (n * 2+1)
 clear hcur9
 have hge:=a1p how (g:=g) rfl
 have hgne:g≠sb:=fun e=>by have h1:=how.lt g rfl;have h2:=HSB.out;omega
 clear hl0 htv hgv tq2 es hn
 by_cases hso:s.off=fr
 ·have HDM:=zA (HDM0.out L0 s hL hso)
  have HOS:=zA (owns_setoff how (i:=n) (by omega) c)
  rw [hgd] at HOS
  have HLS:Hid (L.set n ⟨s.tm,c⟩=L0 ++ [⟨s.tm,c⟩]):=zA (by rw [hL,List.set_append_right _ _ (Nat.le_of_eq HN.out),HN.out,vC];rfl)
  rw [HLS.out] at HOS
  have HWL:Hid (L.length=(L0 ++ [(⟨s.tm,c⟩:Zn.Tr)]).length):=zA (by rw [hL];simp)
  have hB2:Below w6 w6 (W2.setCell ⟨g,n * 2+1,none⟩ (.int .i64 c)):=hB.setCell (by show w6.heap.size≤g;omega) _
  have kw2:obj (W2.setCell ⟨g,n * 2+1,none⟩ (.int .i64 c)) sb=_:=a07 kw _ (show sb≠g from fun e=>hgne e.symm) _
  have c5:=(a02 kw2 (so+k * 2)).trans s0
  have hso1:(s.off == fr)=true:=by rw [hso];exact beq_self_eq_true fr
  subst hso
  clear hL hgd HDA0 HDM0 tq1 hgne hge
  repeat' ((go_not_at_region 27);(first|go_skip|go_guarded|go_step|go_upon))
  clear cs fs c0
  generalize W2.setCell ⟨g,n * 2+1,none⟩ (.int .i64 c)=W3 at *
  repeat'(first|go_skip|go_guarded|go_step|go_upon)
  exact ⟨⟨k+1,c,L0 ++ [⟨s.tm,c⟩],_,by omega,by rw [← HWL.out];omega,by go_num,rfl,rfl,by rw [← HWL.out];exact HOS.out,HDM.out,hB2⟩,by simp [intOf]<;>omega⟩
 have HDA:=zA (HDA0.out (fun w hw=>HNE.out L0 s hL w hw hso))
 have hso1:(s.off == fr)=false:=by simpa using hso
 clear hL hgd HDA0 HDM0 tq1 hgne hge fs
 have hon7:ones #[fr,c]=true:=by simp [ones,a0n]
 have A6:=(zC W2.heap.size W2).alloc (zD _) (.cells #[fr,c] 77)
 have ow7:=a0m how A6
 have n6:obj (W2.alloc (.cells #[fr,c] 77)) W2.heap.size=some (.cells #[fr,c] 77 (0,0)):=a05 _ _ _ rfl
 have nB:=hB.trans (A6.mono hB.size)
 have nsz:=nB.size
 have kw6:=a0a kw A6
 repeat' ((go_not_at_region 27);(first | (at_builtin;(refine wpList_append_sp rfl _ _ rfl w6.heap.size L.length (.slice (some ⟨g,0,none⟩) L.length lc9) L rfl ow7 W2.heap.size ⟨fr,c⟩ rfl n6 (by omega) nsz ?_);intro v5 W5 a3p hg5 _;have hg:(W2.alloc (.cells #[fr,c] 77)).grownBy W5 (Value.slice (some ⟨g,0,none⟩) L.length lc9).ownBlock:=hg5;clear hg5;have hB5:=nB.grown hg nsz (fun g q=>a1p ow7 q);have kw5:obj W5 sb=_:=(hg.block sb (a09 kw6) (fun e=>by have h1:=a1p ow7 e.symm;have h2:=HSB.out;omega)).trans kw6;dsimp only)|go_skip|go_guarded|go_step|go_upon))
 have c5:=(a02 kw5 (so+k * 2)).trans s0
 repeat'(first|go_skip|go_guarded|go_step|go_upon)
 exact ⟨⟨k+1,c,L ++ [⟨fr,c⟩],_,by omega,by rw [zX];exact Nat.succ_le_succ hLk,by go_num,rfl,rfl,by rw [zX];exact a3p,HDA.out,hB5⟩,by simp [intOf]<;>omega⟩
end Go.Proofs.YtppjleebbjipbaaGreat
namespace Go.Proofs.YtppjleebbjipbaaGreat
open Go.RowKit Go.Shelf
set_option maxRecDepth 20000
set_option maxHeartbeats 8000000
theorem rSame_calls {W:World} {a b:Zn.a0w} {mva rva tva yva mvb rvb tvb yvb:Value} (hva:a1q W a mva rva tva yva) (hra:a.cal.rules.length < 9223372036854775808) (hma:a.cal.a0g.length < 9223372036854775808) (hvb:a1q W b mvb rvb tvb yvb) (hrb:b.cal.rules.length < 9223372036854775808) (hmb:b.cal.a0g.length < 9223372036854775808) (hga:Zn.Good a) (hgb:Zn.Good b) {ca cb lc:Nat} (hca:Zn.a0s a=(ca:Int)) (hcb:Zn.a0s b=(cb:Int)) (ca1:1≤ca) (ca2:ca≤1000000) (cb1:1≤cb) (cb2:cb≤1000000) (hlc:Nat.lcm ca cb=lc) (hl4:lc≤4194304)
  {sa sb E:Int} (hsa:Zn.a1w a (Zn.ysT a) (Zn.a0s a)=sa) (hsb:Zn.a1w b (Zn.ysT b) (Zn.a0s b)=sb) (sa1 : -2000000000000000≤sa) (sa2:sa≤1000000000000000) (sb1 : -2000000000000000≤sb) (sb2:sb≤1000000000000000) (hE:(if sa < sb then sb else sa)+(lc:Int) * 1440=E)
  (hla:∀ y,Zn.IsT a y→-2251799813685248≤y.tm) (hlb:∀ y,Zn.IsT b y→-2251799813685248≤y.tm) :
  Calls Tryz.prog 44 #[.agg #[a.cal.a08,mva,a.cal.a0l,rva,a.start,tva,a.hor,yva],.agg #[b.cal.a08,mvb,b.cal.a0l,rvb,b.start,tvb,b.hor,yvb]] W (SamePost W a b E):=by
 obtain ⟨taa,tca,rfl⟩:=a2b.ajx hva.tr
 obtain ⟨tab,tcb,rfl⟩:=a2b.ajx hvb.tr
 have hona:ones #[a.cal.a08,mva,a.cal.a0l,rva,a.start,.slice taa a.trans.length tca,a.hor,yva]=true:=a1b hva.cal.mon.one hva.cal.rul.one (a1m.one hva.tr) (a1m.one hva.yr)
 have honb:ones #[b.cal.a08,mvb,b.cal.a0l,rvb,b.start,.slice tab b.trans.length tcb,b.hor,yvb]=true:=a1b hvb.cal.mon.one hvb.cal.rul.one (a1m.one hvb.tr) (a1m.one hvb.yr)
 have hB0:Below W W ((W.alloc (.cells #[a.cal.a08,mva,a.cal.a0l,rva,a.start,.slice taa a.trans.length tca,a.hor,yva] 35)).alloc (.cells #[b.cal.a08,mvb,b.cal.a0l,rvb,b.start,.slice tab b.trans.length tcb,b.hor,yvb] 35)):=((bR.alloc (zD _) _).alloc (by simp) _)
 have oa0:obj ((W.alloc (.cells #[a.cal.a08,mva,a.cal.a0l,rva,a.start,.slice taa a.trans.length tca,a.hor,yva] 35)).alloc (.cells #[b.cal.a08,mvb,b.cal.a0l,rvb,b.start,.slice tab b.trans.length tcb,b.hor,yvb] 35)) W.heap.size=some (.cells #[a.cal.a08,mva,a.cal.a0l,rva,a.start,.slice taa a.trans.length tca,a.hor,yva] 35 (0,0)):=a06 (a05 _ _ _ rfl) _
 have ob0:obj ((W.alloc (.cells #[a.cal.a08,mva,a.cal.a0l,rva,a.start,.slice taa a.trans.length tca,a.hor,yva] 35)).alloc (.cells #[b.cal.a08,mvb,b.cal.a0l,rvb,b.start,.slice tab b.trans.length tcb,b.hor,yvb] 35)) (W.heap.size+1)=some (.cells #[b.cal.a08,mvb,b.cal.a0l,rvb,b.start,.slice tab b.trans.length tcb,b.hor,yvb] 35 (0,0)):=a05 _ _ _ (by simp)
 have HVA:=zA (ae9 (hva.below hB0) hra hma)
 have HVB:=zA (fun (Wq:World) (hq:Below W W Wq)=>ae9 (hvb.below hq) hrb hmb)
 rw [show Zn.a2l a=0 by unfold Zn.a2l;rw [zS (by have:=hga.a.hd.t;omega),zQ (Zn.a0v.2 hga)]] at HVA
 rw [show Zn.a2l b=0 by unfold Zn.a2l;rw [zS (by have:=hgb.a.hd.t;omega),zQ (Zn.a0v.2 hgb)]] at HVB
 have HCA:=zA (fun (Wq:World) (hq:Below W W Wq)=>ab9 (hva.below hq) hga.a.hd.cal)
 have HCB:=zA (fun (Wq:World) (hq:Below W W Wq)=>ab9 (hvb.below hq) hgb.a.hd.cal)
 rw [hca] at HCA
 rw [hcb] at HCB
 have HTA:=zA (fun (Wq:World) (hq:Below W W Wq)=>rsettled_calls (hva.below hq) hga)
 have HTB:=zA (fun (Wq:World) (hq:Below W W Wq)=>rsettled_calls (hvb.below hq) hgb)
 rw [hsa] at HTA
 rw [hsb] at HTB
 have HFA:=zA (fun (Wq:World) (hq:Below W W Wq) (t:Int) (h1 : -9007199254740992≤t) (h2:t≤9007199254740992)=>roff_calls (hva.below hq) hga h1 h2)
 have HFB:=zA (fun (Wq:World) (hq:Below W W Wq) (t:Int) (h1 : -9007199254740992≤t) (h2:t≤9007199254740992)=>roff_calls (hvb.below hq) hgb h1 h2)
 have HLA:=zA (fun (Wq:World) (hq:Below W W Wq) (t:Int) (h1 : -2251799813685248≤t) (h2:t < 4503599627370496)=>rfollow_calls (hva.below hq) hga h1 h2)
 have HLB:=zA (fun (Wq:World) (hq:Below W W Wq) (t:Int) (h1 : -2251799813685248≤t) (h2:t < 4503599627370496)=>rfollow_calls (hvb.below hq) hgb h1 h2)
 have HTRa:=zA (fun (Wq:World) (hq:Below W W Wq)=>a1m.below hva.tr hq)
 have HTRb:=zA (fun (Wq:World) (hq:Below W W Wq)=>a1m.below hvb.tr hq)
 have HGA:=zA hga
 have HGB:=zA hgb
 have HSA:=zA hsa
 have HSB:=zA hsb
 have HLO:=zA (And.intro hla hlb)
 have HEE:=zA hE
 have hEb:E≤2000000000000000:=by rw [← hE];split<;>omega
 have HGC:=zA (fun Wq:World=>@zgcd_calls Wq ca cb (by omega) (by omega))
 have hg1:1≤Nat.gcd ca cb:=Nat.gcd_pos_of_pos_left cb (by omega)
 have hgl:Nat.gcd ca cb≤ca:=Nat.gcd_le_left cb (by omega)
 have hl:Nat.lcm ca cb=ca / Nat.gcd ca cb * cb:=by unfold Nat.lcm;rw [Nat.div_mul_right_comm (Nat.gcd_dvd_left ca cb)]
 have hd:ca / Nat.gcd ca cb≤ca:=vY _ _
 rw [hlc] at hl
 generalize Nat.gcd ca cb=g at *
 obtain ⟨r,hr⟩ : ∃ r,ca / g=r:=⟨_,rfl⟩
 rw [hr] at hd hl
 have wq1:Int.tdiv (ca:Int) (g:Int)=(r:Int):=by rw [xA (by omega),← hr];rfl
 have wq2:IntKind.wrap .i64 (r:Int)=(r:Int):=wrap_in (by omega) (by omega)
 have wl1:IntKind.wrap .i64 ((r:Int) * (cb:Int))=(lc:Int):=by rw [← Int.natCast_mul,← hl,wrap_in]<;>omega
 have g0:(g:Int)≠0:=by omega
 clear hr hl hd hg1 hgl hva hvb hga hgb hsa hsb hca hcb hlc hE hla hlb
 go_enter Tryz.func44,Tryz.ntmps44
 repeat' ((go_not_at_region 1);(first|go_skip|go_guarded|go_step|go_upon))
 generalize ((W.alloc (.cells #[a.cal.a08,mva,a.cal.a0l,rva,a.start,.slice taa a.trans.length tca,a.hor,yva] 35)).alloc (.cells #[b.cal.a08,mvb,b.cal.a0l,rvb,b.start,.slice tab b.trans.length tcb,b.hor,yvb] 35))=V at *
 repeat' ((go_not_at_region 3);(first | (go_at_call 29;((with_reducible refine (HVA.out).mono ?_));rintro e w1 ⟨rfl,hB'⟩;have hB1:=hB0.trans (hB'.mono hB0.size);have oa1:=a0a oa0 hB';have ob1:=a0a ob0 hB';have HVB1:=zA (HVB.out _ hB1);dsimp only) | (go_at_call 29;((with_reducible refine (HVB1.out).mono ?_));rintro e w2 ⟨rfl,hB''⟩;have hB:=hB1.trans (hB''.mono hB1.size);have oa:=a0a oa1 hB'';have ob:=a0a ob1 hB'';dsimp only)|go_skip|go_guarded|go_step|go_upon))
 clear HVA HVB HVB1 hB0 hB1 hB' hB'' oa0 ob0 oa1 ob1
 have la:=a09 oa
 have lb:=a09 ob
 refine a0k 11 [([],fun v _=>v=.agg #[a.cal.a08,mva,a.cal.a0l,rva,a.start,.slice taa a.trans.length tca,a.hor,yva]),([0],fun v _=>v=.int .i64 (ca:Nat)),([],fun v _=>v=.agg #[a.cal.a08,mva,a.cal.a0l,rva,a.start,.slice taa a.trans.length tca,a.hor,yva]),([2,1],fun v _=>v=.int .i64 (ca:Nat)),([],fun v _=>v=.agg #[b.cal.a08,mvb,b.cal.a0l,rvb,b.start,.slice tab b.trans.length tcb,b.hor,yvb]),([4,3],fun v _=>v=.int .i64 (cb:Nat)),([3,5],fun v _=>v=.int .i64 (g:Nat)),([1,6],fun v _=>v=.int .i64 (r:Nat)),([],fun v _=>v=.agg #[b.cal.a08,mvb,b.cal.a0l,rvb,b.start,.slice tab b.trans.length tcb,b.hor,yvb]),([8,6],fun v _=>v=.int .i64 (cb:Nat)),
   ([7,9],fun v _=>v=.int .i64 (lc:Nat))] (by kernel_rfl) (by kernel_rfl) (by kernel_rfl) ?st ?ob ?_
 case st => intro k v W1 W2 h hb;rcases k with _|_|_|_|_|_|_|_|_|_|_|k<;>first | exact h | trivial
 case ob => and_intros<;>first|exact ⟨⟩|(intro vs Wq hW hk;(have q0:=a04 oa hW la);(have q1:=a04 ob hW lb);(try simp only [knows,Spec.at',↓zH,↓zG,yL] at hk);simp only [Spec.at',↓zH,↓zG,a00,a03,yy0,yy1,yy2,yy3];(try simp only [hk]);first | ((repeat'(first|go_skip|go_guarded|go_step|go_upon));exact a01 _ rfl (by go_simp) bR rfl) | ((have HX:=zA (HCA.out Wq (hB.trans (hW.mono hB.size))));(repeat' (first | (go_at_call 49;((with_reducible refine (HX.out).mono ?_));rintro e w9 ⟨rfl,hb9⟩;dsimp only)|go_skip|go_guarded|go_step|go_upon));exact a01 _ rfl (by go_simp) hb9 rfl) | ((have HX:=zA (HCB.out Wq (hB.trans (hW.mono hB.size))));(repeat' (first | (go_at_call 49;((with_reducible refine (HX.out).mono ?_));rintro e w9 ⟨rfl,hb9⟩;dsimp only)|go_skip|go_guarded|go_step|go_upon));exact a01 _ rfl (by go_simp) hb9 rfl) | ((have HX:=zA (HGC.out Wq));(repeat' (first | (go_at_call 87;((with_reducible refine (HX.out).mono ?_));rintro e w9 ⟨rfl,hb9⟩;dsimp only)|go_skip|go_guarded|go_step|go_upon));exact a01 _ rfl (by go_simp) hb9 rfl) | fail)
 intro vs W2 hW2 hk2
 have v10:vs 10=.int .i64 (lc:Nat):=hk2 10 (by decide)
 clear hk2
 dsimp only [a1d,List.take,List.drop]
 simp only [Act.put,zF,zI,zJ]
 rw [v10]
 generalize vs 0=b0,vs 1=b1,vs 2=b2,vs 3=b3,vs 4=b4,vs 5=b5,vs 6=b6,vs 7=b7,vs 8=b8,vs 9=b9
 clear v10
 have oa:=a04 oa hW2 la
 have ob:=a04 ob hW2 lb
 have la:=a09 oa
 have lb:=a09 ob
 have hB:=hB.trans (hW2.mono hB.size)
 clear hW2
 clear wq1 wq2 wl1 g0
 have hl0 : ¬ (4194304:Int) < (lc:Int):=by omega
 have wE1:IntKind.wrap .i64 ((if sa < sb then sb else sa)+(lc:Int) * 1440)=E:=by rw [HEE.out,wrap_in]<;>rw [← HEE.out]<;>split<;>omega
 obtain ⟨m,hm⟩ : ∃ m,(if sa < sb then sb else sa)=m:=⟨_,rfl⟩
 have hm2:max sa sb=m:=by rw [← hm,Int.max_def];split<;>split<;>omega
 rw [hm] at wE1
 have wE2:=hm
 have wE3:=zWI ((lc:Int) * 1440)
 repeat' ((go_not_at_region 6);(first|go_skip|go_guarded|go_step|go_upon))
 clear hl0
 refine a0k 8 [([],fun v _=>v=.agg #[a.cal.a08,mva,a.cal.a0l,rva,a.start,.slice taa a.trans.length tca,a.hor,yva]),([0],fun v _=>v=.int .i64 sa),([],fun v _=>v=.agg #[b.cal.a08,mvb,b.cal.a0l,rvb,b.start,.slice tab b.trans.length tcb,b.hor,yvb]),([2,1],fun v _=>v=.int .i64 sb),([1,3],fun v _=>v=.int .i64 m),([],fun v _=>v=.int .i64 (lc:Nat)),([5],fun v _=>v=.int .i64 ((lc:Int) * 1440)),
   ([4,6],fun v _=>v=.int .i64 E)] (by kernel_rfl) (by kernel_rfl) (by kernel_rfl) ?st ?ob ?_
 case st => intro k v W1 W2 h hb;rcases k with _|_|_|_|_|_|_|_|k<;>first | exact h | trivial
 case ob => and_intros<;>first|exact ⟨⟩|(intro vs Wq hW hk;(have q0:=a04 oa hW la);(have q1:=a04 ob hW lb);(try simp only [knows,Spec.at',↓zH,↓zG,yL] at hk);simp only [Spec.at',↓zH,↓zG,a00,a03,yy0,yy1,yy2,yy3];(try simp only [hk]);first | ((repeat'(first|go_skip|go_guarded|go_step|go_upon));exact a01 _ rfl (by go_simp) bR rfl) | ((have HX:=zA (HTA.out Wq (hB.trans (hW.mono hB.size))));(repeat' (first | (go_at_call 88;((with_reducible refine (HX.out).mono ?_));rintro e w9 ⟨rfl,hb9⟩;dsimp only)|go_skip|go_guarded|go_step|go_upon));exact a01 _ rfl (by go_simp) hb9 rfl) | ((have HX:=zA (HTB.out Wq (hB.trans (hW.mono hB.size))));(repeat' (first | (go_at_call 88;((with_reducible refine (HX.out).mono ?_));rintro e w9 ⟨rfl,hb9⟩;dsimp only)|go_skip|go_guarded|go_step|go_upon));exact a01 _ rfl (by go_simp) hb9 rfl) | fail)
 intro vs W2 hW2 hk2
 clear hm2
 have v7:vs 7=.int .i64 E:=hk2 7 (by decide)
 clear hk2
 dsimp only [a1d,List.take,List.drop]
 simp only [Act.put,zF,zI,zJ]
 rw [v7]
 generalize vs 0=d0,vs 1=d1,vs 2=d2,vs 3=d3,vs 4=d4,vs 5=d5,vs 6=d6
 clear v7
 have oa:=a04 oa hW2 la
 have ob:=a04 ob hW2 lb
 have la:=a09 oa
 have lb:=a09 ob
 have hB:=hB.trans (hW2.mono hB.size)
 clear hW2
 obtain ⟨m0,hm0⟩ : ∃ m,(if sb < sa then sb else sa)=m:=⟨_,rfl⟩
 have HM0:Hid (m0≤sa∧m0≤sb∧(m0=sa∨m0=sb)):=zA (by rw [← hm0];split<;>omega)
 have hm1:=hm0
 have hm2:min sa sb=m0:=by rw [← hm0,Int.min_def];split<;>split<;>omega
 clear hm0 wE1 wE2 wE3
 repeat' ((go_not_at_region 7);(first|go_skip|go_guarded|go_step|go_upon))
 refine a0k 5 [([],fun v _=>v=.agg #[a.cal.a08,mva,a.cal.a0l,rva,a.start,.slice taa a.trans.length tca,a.hor,yva]),([0],fun v _=>v=.int .i64 sa),([],fun v _=>v=.agg #[b.cal.a08,mvb,b.cal.a0l,rvb,b.start,.slice tab b.trans.length tcb,b.hor,yvb]),([2,1],fun v _=>v=.int .i64 sb),
   ([1,3],fun v _=>v=.int .i64 m0)] (by kernel_rfl) (by kernel_rfl) (by kernel_rfl) ?st ?ob ?_
 case st => intro k v W1 W2 h hb;rcases k with _|_|_|_|_|k<;>first | exact h | trivial
 case ob => and_intros<;>first|exact ⟨⟩|(intro vs Wq hW hk;(have q0:=a04 oa hW la);(have q1:=a04 ob hW lb);(try simp only [knows,Spec.at',↓zH,↓zG,yL] at hk);simp only [Spec.at',↓zH,↓zG,a00,a03,yy0,yy1,yy2,yy3];(try simp only [hk]);first | ((repeat'(first|go_skip|go_guarded|go_step|go_upon));exact a01 _ rfl (by go_simp) bR rfl) | ((have HX:=zA (HTA.out Wq (hB.trans (hW.mono hB.size))));(repeat' (first | (go_at_call 88;((with_reducible refine (HX.out).mono ?_));rintro e w9 ⟨rfl,hb9⟩;dsimp only)|go_skip|go_guarded|go_step|go_upon));exact a01 _ rfl (by go_simp) hb9 rfl) | ((have HX:=zA (HTB.out Wq (hB.trans (hW.mono hB.size))));(repeat' (first | (go_at_call 88;((with_reducible refine (HX.out).mono ?_));rintro e w9 ⟨rfl,hb9⟩;dsimp only)|go_skip|go_guarded|go_step|go_upon));exact a01 _ rfl (by go_simp) hb9 rfl) | fail)
 intro vs W2 hW2 hk2
 have v4:vs 4=.int .i64 m0:=hk2 4 (by decide)
 clear hk2
 dsimp only [a1d,List.take,List.drop]
 simp only [Act.put,zF,zI,zJ]
 rw [v4]
 generalize vs 0=f0,vs 1=f1,vs 2=f2,vs 3=f3
 clear v4
 have oa:=a04 oa hW2 la
 have ob:=a04 ob hW2 lb
 have la:=a09 oa
 have lb:=a09 ob
 have hB:=hB.trans (hW2.mono hB.size)
 clear hW2
 clear hm1 hm2
 have c5:=a02 oa 5
 obtain ⟨m1,hm1⟩ : ∃ m,(if 0 < a.trans.length then (if (a.trans.getD 0 default).tm < m0 then (a.trans.getD 0 default).tm else m0) else m0)=m:=⟨_,rfl⟩
 have HQm1:Hid (m1≤m0∧(0 < a.trans.length→m1≤(a.trans.getD 0 default).tm)∧(m1=m0∨(0 < a.trans.length∧m1=(a.trans.getD 0 default).tm))):=zA (by
  have h:=hm1
  by_cases h0:0 < a.trans.length
  ·rw [zQ h0] at h
   by_cases hy:(a.trans.getD 0 default).tm < m0
   ·rw [zQ hy] at h;exact ⟨by omega,fun _=>by omega,.inr ⟨h0,h.symm⟩⟩
   ·rw [zS hy] at h;exact ⟨by omega,fun _=>by omega,.inl h.symm⟩
  ·rw [zS h0] at h;exact ⟨by omega,fun h9=>absurd h9 h0,.inl h.symm⟩)
 go_upto_if 46 with (fail)
 go_cut [8] from 46 to 55 (fun v8 wx=>v8=.int .i64 m1∧wx=W2)
 case first =>
  by_cases h0:0 < a.trans.length
  ·have t0:(0:Int) < (a.trans.length:Int):=by omega
   rw [zQ h0] at hm1;obtain ⟨tb,tof,tc',a5d,TT',tfr,htv,tq1,tq2⟩:=a2b.open (HTRa.out W2 hB) h0
   obtain ⟨rfl,rfl⟩:taa=some ⟨tb,tof,none⟩∧tca=tc':=by injection htv with a b c;exact ⟨a,c⟩
   have ek:=a0y 0 (tq2 0 h0).2 (by simp);generalize (a.trans.getD 0 default).tm=y0 at *;have e0:=(a02 tq1 tof).trans (show a5d[tof]? = some (.int .i64 y0) by simpa using ek)
   have hm2:min m0 y0=m1:=by rw [← hm1,Int.min_def];split<;>split<;>omega
   clear ek tq2 htv
   repeat'(first|go_skip|go_guarded|go_step|go_upon)
   go_meet;exact ⟨rfl,rfl⟩
  have t0 : ¬ (0:Int) < (a.trans.length:Int):=by omega
  rw [zS h0] at hm1
  subst hm1
  repeat'(first|go_skip|go_guarded|go_step|go_upon)
  go_meet
  exact ⟨rfl,rfl⟩
 obtain ⟨rfl,hw9⟩:=hcut
 obtain rfl:=hw9.symm
 clear c5 hm1
 have c5:=a02 ob 5
 obtain ⟨m2,hm2⟩ : ∃ m,(if 0 < b.trans.length then (if (b.trans.getD 0 default).tm < m1 then (b.trans.getD 0 default).tm else m1) else m1)=m:=⟨_,rfl⟩
 have HQm2:Hid (m2≤m1∧(0 < b.trans.length→m2≤(b.trans.getD 0 default).tm)∧(m2=m1∨(0 < b.trans.length∧m2=(b.trans.getD 0 default).tm))):=zA (by
  have h:=hm2
  by_cases h0:0 < b.trans.length
  ·rw [zQ h0] at h
   by_cases hy:(b.trans.getD 0 default).tm < m1
   ·rw [zQ hy] at h;exact ⟨by omega,fun _=>by omega,.inr ⟨h0,h.symm⟩⟩
   ·rw [zS hy] at h;exact ⟨by omega,fun _=>by omega,.inl h.symm⟩
  ·rw [zS h0] at h;exact ⟨by omega,fun h9=>absurd h9 h0,.inl h.symm⟩)
 go_upto_if 57 with (fail)
 go_cut [8] from 57 to 66 (fun v8 wx=>v8=.int .i64 m2∧wx=W2)
 case first =>
  by_cases h0:0 < b.trans.length
  ·have t0:(0:Int) < (b.trans.length:Int):=by omega
   rw [zQ h0] at hm2;obtain ⟨tb,tof,tc',a5d,TT',tfr,htv,tq1,tq2⟩:=a2b.open (HTRb.out W2 hB) h0
   obtain ⟨rfl,rfl⟩:tab=some ⟨tb,tof,none⟩∧tcb=tc':=by injection htv with a b c;exact ⟨a,c⟩
   have ek:=a0y 0 (tq2 0 h0).2 (by simp);generalize (b.trans.getD 0 default).tm=y0 at *;have e0:=(a02 tq1 tof).trans (show a5d[tof]? = some (.int .i64 y0) by simpa using ek)
   have hm2:min m1 y0=m2:=by rw [← hm2,Int.min_def];split<;>split<;>omega
   clear ek tq2 htv
   repeat'(first|go_skip|go_guarded|go_step|go_upon)
   go_meet;exact ⟨rfl,rfl⟩
  have t0 : ¬ (0:Int) < (b.trans.length:Int):=by omega
  rw [zS h0] at hm2
  subst hm2
  repeat'(first|go_skip|go_guarded|go_step|go_upon)
  go_meet
  exact ⟨rfl,rfl⟩
 obtain ⟨rfl,hw9⟩:=hcut
 obtain rfl:=hw9.symm
 clear c5 hm2
 have HT0:Hid ((∀ y,Zn.IsT a y→m2≤y.tm)∧∀ y,Zn.IsT b y→m2≤y.tm):=zA ⟨fun y hy=>by
  have h1:=HQm1.out;have h2:=HQm2.out;have h3:=HM0.out
  rcases Zn.settled_low HGA.out hy with h | ⟨h,h9⟩
  ·rw [HSA.out] at h;omega
  ·have h4:=h1.2.1 h;omega,fun y hy=>by
  have h1:=HQm1.out;have h2:=HQm2.out;have h3:=HM0.out
  rcases Zn.settled_low HGB.out hy with h | ⟨h,h9⟩
  ·rw [HSB.out] at h;omega
  ·have h4:=h2.2.1 h;omega⟩
 have hm2b : -2251799813685248≤m2∧m2≤2000000000000000:=by
  have h1:=HQm1.out;have h2:=HQm2.out;have h3:=HM0.out
  refine ⟨?_,by omega⟩
  rcases h2.2.2 with h4 | ⟨h0,h4⟩
  ·rcases h1.2.2 with h5 | ⟨h0,h5⟩
   ·omega
   have:=(HGA.out.a.tr 0 h0).a0;omega
  have:=(HGB.out.a.tr 0 h0).a0;omega
 clear HQm1 HQm2
 generalize m2=t0 at *
 have ca4:=a02 oa 4
 have cb4:=a02 ob 4
 by_cases hst:a.start=b.start;rotate_left
 ·have HNS:Hid (¬ (a.start=b.start∧Zn.sameP a b E∧Zn.sameP b a E)):=zA (fun h=>hst h.1)
  have hsb:(a.start != b.start)=true:=wX.2 hst
  repeat'(first|go_skip|go_guarded|go_step|go_upon)
  go_returns
  exact samePost_of ⟨fun h=>(by cases h),fun h=>absurd h HNS.out⟩ hB
 have HST:=zA hst
 have hsb:(a.start != b.start)=false:=by rw [hst];simp
 repeat' ((go_not_at_region 14);(first|go_skip|go_guarded|go_step|go_upon))
 clear hst hsb ca4 cb4
 repeat'(first|go_skip|go_guarded|go_step|go_upon)
 go_loopw [8] (fun v wr => ∃ t:Int,v=.int .i64 t∧t≤4503599627370496∧t0≤t∧(∀ s,t0≤s→s < t→Zn.a2u a s=Zn.a2u b s)∧obj wr W.heap.size=some (.cells #[a.cal.a08,mva,a.cal.a0l,rva,a.start,.slice taa a.trans.length tca,a.hor,yva] 35 (0,0))∧obj wr (W.heap.size+1)=some (.cells #[b.cal.a08,mvb,b.cal.a0l,rvb,b.start,.slice tab b.trans.length tcb,b.hor,yvb] 35 (0,0))∧Below W W wr) (fun v _=>(E - intOf v).toNat+(if E < intOf v then 0 else 1))
 case atStart=>exact ⟨t0,rfl,by omega,yR _,fun s h1 h2=>by omega,oa,ob,hB⟩
 clear oa ob hB la lb
 obtain ⟨t,rfl,ht5,htt,hru,oa,ob,hB⟩:=hrel
 have HRU:=zA hru
 have la:=a09 oa
 have lb:=a09 ob
 clear hru
 by_cases hte:t≤E;rotate_left
 ·have HYS:Hid (a.start=b.start∧Zn.sameP a b E∧Zn.sameP b a E):=zA ⟨HST.out,Zn.run_true HGA.out (fun s h1 h2=>HRU.out s h1 (by omega)) HT0.out.1,Zn.run_true HGB.out (fun s h1 h2=>(HRU.out s h1 (by omega)).symm) HT0.out.2⟩
  repeat'(first|go_skip|go_guarded|go_step|go_upon)
  go_returns
  exact samePost_of ⟨fun _=>HYS.out,fun _=>rfl⟩ hB
 have HFA:=zA (fun Wq hq=>HFA.out Wq hq t (by omega) (by omega))
 have HFB:=zA (fun Wq hq=>HFB.out Wq hq t (by omega) (by omega))
 have HLA:=zA (fun Wq hq=>HLA.out Wq hq t (by omega) (by omega))
 have HLB:=zA (fun Wq hq=>HLB.out Wq hq t (by omega) (by omega))
 obtain ⟨oa9,hoa⟩ : ∃ o,Zn.a2u a t=o:=⟨_,rfl⟩
 obtain ⟨ob9,hob⟩ : ∃ o,Zn.a2u b t=o:=⟨_,rfl⟩
 rw [hoa] at HFA
 rw [hob] at HFB
 have HOO:=zA (And.intro hoa hob)
 clear hoa hob
 repeat' ((go_not_at_region 15);(first|go_skip|go_guarded|go_step|go_upon))
 by_cases hne:oa9=ob9;rotate_left
 ·have HNS:Hid (¬ (a.start=b.start∧Zn.sameP a b E∧Zn.sameP b a E)):=zA (fun h=>hne (by rw [← HOO.out.1,← HOO.out.2];exact Zn.agree HGA.out HGB.out h.1 HLO.out.1 HLO.out.2 h.2.1 h.2.2 hte))
  have hnb:(oa9 != ob9)=true:=wX.2 hne
  clear HOO
  refine a0k 7 [([],fun v _=>v=.agg #[a.cal.a08,mva,a.cal.a0l,rva,a.start,.slice taa a.trans.length tca,a.hor,yva]),([],fun v _=>v=.int .i64 t),([0,1],fun v _=>v=.int .i64 oa9),([],fun v _=>v=.agg #[b.cal.a08,mvb,b.cal.a0l,rvb,b.start,.slice tab b.trans.length tcb,b.hor,yvb]),([],fun v _=>v=.int .i64 t),([3,4,2],fun v _=>v=.int .i64 ob9),
    ([2,5],fun v _=>v=.bool true)] (by kernel_rfl) (by kernel_rfl) (by kernel_rfl) ?st ?ob ?_
  case st => intro k v W1 W2 h hb;rcases k with _|_|_|_|_|_|_|k<;>first | exact h | trivial
  case ob => and_intros<;>first|exact ⟨⟩|(intro vs Wq hW hk;(have q0:=a04 oa hW la);(have q1:=a04 ob hW lb);(try simp only [knows,Spec.at',↓zH,↓zG,yL] at hk);simp only [Spec.at',↓zH,↓zG,a00,a03,yy0,yy1,yy2,yy3];(try simp only [hk]);first | ((repeat'(first|go_skip|go_guarded|go_step|go_upon));exact a01 _ rfl (by go_simp) bR rfl) | ((have HX:=zA (HFA.out Wq (hB.trans (hW.mono hB.size))));(repeat' (first | (go_at_call 58;((with_reducible refine (HX.out).mono ?_));rintro e w9 ⟨rfl,hb9⟩;dsimp only)|go_skip|go_guarded|go_step|go_upon));exact a01 _ rfl (by go_simp) hb9 rfl) | ((have HX:=zA (HFB.out Wq (hB.trans (hW.mono hB.size))));(repeat' (first | (go_at_call 58;((with_reducible refine (HX.out).mono ?_));rintro e w9 ⟨rfl,hb9⟩;dsimp only)|go_skip|go_guarded|go_step|go_upon));exact a01 _ rfl (by go_simp) hb9 rfl) | fail)
  intro vs W2 hW2 hk2;have v6:vs 6=.bool true:=hk2 6 (by decide);clear hk2;dsimp only [a1d,List.take,List.drop];simp only [Act.put,zF,zI,zJ];rw [v6];generalize vs 0=e0,vs 1=e1,vs 2=e2,vs 3=e3,vs 4=e4,vs 5=e5;clear v6;have oa:=a04 oa hW2 la;have ob:=a04 ob hW2 lb;have la:=a09 oa;have lb:=a09 ob;have hB:=hB.trans (hW2.mono hB.size);clear hW2;(repeat'(first|go_skip|go_guarded|go_step|go_upon));go_returns;exact samePost_of ⟨fun h=>(by cases h),fun h=>absurd h HNS.out⟩ hB
 have HEQ:Hid (Zn.a2u a t=Zn.a2u b t):=zA (by rw [HOO.out.1,HOO.out.2];exact hne)
 subst hne
 clear HOO
 refine a0k 7 [([],fun v _=>v=.agg #[a.cal.a08,mva,a.cal.a0l,rva,a.start,.slice taa a.trans.length tca,a.hor,yva]),([],fun v _=>v=.int .i64 t),([0,1],fun v _=>v=.int .i64 oa9),([],fun v _=>v=.agg #[b.cal.a08,mvb,b.cal.a0l,rvb,b.start,.slice tab b.trans.length tcb,b.hor,yvb]),([],fun v _=>v=.int .i64 t),([3,4,2],fun v _=>v=.int .i64 oa9),
   ([2,5],fun v _=>v=.bool false)] (by kernel_rfl) (by kernel_rfl) (by kernel_rfl) ?st ?ob ?_
 case st => intro k v W1 W2 h hb;rcases k with _|_|_|_|_|_|_|k<;>first | exact h | trivial
 case ob => and_intros<;>first|exact ⟨⟩|(intro vs Wq hW hk;(have q0:=a04 oa hW la);(have q1:=a04 ob hW lb);(try simp only [knows,Spec.at',↓zH,↓zG,yL] at hk);simp only [Spec.at',↓zH,↓zG,a00,a03,yy0,yy1,yy2,yy3];(try simp only [hk]);first | ((repeat'(first|go_skip|go_guarded|go_step|go_upon));exact a01 _ rfl (by go_simp) bR rfl) | ((have HX:=zA (HFA.out Wq (hB.trans (hW.mono hB.size))));(repeat' (first | (go_at_call 58;((with_reducible refine (HX.out).mono ?_));rintro e w9 ⟨rfl,hb9⟩;dsimp only)|go_skip|go_guarded|go_step|go_upon));exact a01 _ rfl (by go_simp) hb9 rfl) | ((have HX:=zA (HFB.out Wq (hB.trans (hW.mono hB.size))));(repeat' (first | (go_at_call 58;((with_reducible refine (HX.out).mono ?_));rintro e w9 ⟨rfl,hb9⟩;dsimp only)|go_skip|go_guarded|go_step|go_upon));exact a01 _ rfl (by go_simp) hb9 rfl) | fail)
 intro vs W2 hW2 hk2
 have v6:vs 6=.bool false:=hk2 6 (by decide)
 clear hk2
 dsimp only [a1d,List.take,List.drop]
 simp only [Act.put,zF,zI,zJ]
 rw [v6]
 generalize vs 0=e0,vs 1=e1,vs 2=e2,vs 3=e3,vs 4=e4,vs 5=e5
 clear v6
 have oa:=a04 oa hW2 la
 have ob:=a04 ob hW2 lb
 have la:=a09 oa
 have lb:=a09 ob
 have hB:=hB.trans (hW2.mono hB.size)
 clear hW2
 repeat' ((go_not_at_region 17);(first|go_skip|go_guarded|go_step|go_upon))
 refine a0k 6 [([],fun v _=>v=.agg #[a.cal.a08,mva,a.cal.a0l,rva,a.start,.slice taa a.trans.length tca,a.hor,yva]),([],fun v _=>v=.int .i64 t),([0,1],fun v _ => ∃ q,v=.int .i64 q∧Zn.FolOk a t q∧q≤4503599627370496),([],fun v _=>v=.agg #[b.cal.a08,mvb,b.cal.a0l,rvb,b.start,.slice tab b.trans.length tcb,b.hor,yvb]),([],fun v _=>v=.int .i64 t),
   ([3,4,2],fun v _ => ∃ q,v=.int .i64 q∧Zn.FolOk b t q∧q≤4503599627370496)] (by kernel_rfl) (by kernel_rfl) (by kernel_rfl) ?st ?ob ?_
 case st => intro k v W1 W2 h hb;rcases k with _|_|_|_|_|_|k<;>first | exact h | trivial | (exact h) | (exact h)
 case ob =>
  and_intros<;>
  first
   | exact ⟨⟩
   | (intro vs Wq hW hk;(have q0:=a04 oa hW la);(have q1:=a04 ob hW lb);(try simp only [knows,Spec.at',↓zH,↓zG,yL] at hk);simp only [Spec.at',↓zH,↓zG,a00,a03,yy0,yy1,yy2,yy3];(try simp only [hk]);first | ((repeat'(first|go_skip|go_guarded|go_step|go_upon));exact a01 _ rfl (by go_simp) bR rfl) | fail)
   | (
    intro vs Wq hW hk;have g0:vs 0=.agg #[a.cal.a08,mva,a.cal.a0l,rva,a.start,.slice taa a.trans.length tca,a.hor,yva]:=hk.1;have g1:vs 1=.int .i64 t:=hk.2.1;clear hk;change wpList _ _ _ _ (a00 _ vs [0,1] _) _;simp only [a00,a03,yy0,yy1,yy2,yy3];rw [g0,g1];have HX:=zA (HLA.out Wq (hB.trans (hW.mono hB.size)))
    repeat' (first | (go_at_call 89;((with_reducible refine (HX.out).mono ?_));rintro e w9 ⟨⟨q9,rfl,hq9,hq8⟩,hb9⟩;dsimp only)|go_skip|go_guarded|go_step|go_upon)
    exact a01 (.int .i64 q9) rfl (by go_simp) hb9 ⟨q9,rfl,hq9,hq8⟩)
   | (
    intro vs Wq hW hk;have g3:vs 3=.agg #[b.cal.a08,mvb,b.cal.a0l,rvb,b.start,.slice tab b.trans.length tcb,b.hor,yvb]:=hk.1;have g4:vs 4=.int .i64 t:=hk.2.1;have g2:(fun v _ => ∃ q,v=.int .i64 q∧Zn.FolOk a t q∧q≤4503599627370496) (vs 2) Wq:=hk.2.2.1;clear hk;change wpList _ _ _ _ (a00 _ vs [3,4,2] _) _;simp only [a00,a03,yy0,yy1,yy2,yy3];rw [g3,g4];have HX:=zA (HLB.out Wq (hB.trans (hW.mono hB.size)))
    repeat' (first | (go_at_call 89;((with_reducible refine (HX.out).mono ?_));rintro e w9 ⟨⟨q9,rfl,hq9,hq8⟩,hb9⟩;dsimp only)|go_skip|go_guarded|go_step|go_upon)
    exact a01 (.int .i64 q9) rfl (by go_simp) hb9 ⟨q9,rfl,hq9,hq8⟩)
 intro vs W2 hW2 hk2
 have h2:=hk2 2 (by decide)
 have h5:=hk2 5 (by decide)
 have v2:=h2.choose_spec.1
 have f2:=h2.choose_spec.2
 generalize h2.choose=qa at v2 f2
 have v5:=h5.choose_spec.1
 have f5:=h5.choose_spec.2
 generalize h5.choose=qb at v5 f5
 clear h2 h5 hk2
 dsimp only [a1d,List.take,List.drop]
 simp only [Act.put,zF,zI,zJ]
 rw [v2,v5]
 generalize vs 0=h0,vs 1=h1,vs 3=h3,vs 4=h4
 clear v2 v5
 have oa:=a04 oa hW2 la
 have ob:=a04 ob hW2 lb
 have hB:=hB.trans (hW2.mono hB.size)
 clear hW2
 obtain ⟨q,hq⟩ : ∃ q,(if qb < qa then qb else qa)=q:=⟨_,rfl⟩
 have hq2:min qa qb=q:=by rw [← hq,Int.min_def];split<;>split<;>omega
 have hqq:q≤qa∧q≤qb∧t < q:=by have:=f2.1.1;have:=f5.1.1;rw [← hq];split<;>omega
 have HRN:=zA (Zn.run_step HGA.out HGB.out HRU.out HEQ.out f2.1 f5.1 hqq.1 hqq.2.1)
 have hqb:q≤4503599627370496:=by have:=f2.2;omega
 clear f2 f5
 repeat'(first|go_skip|go_guarded|go_step|go_upon)
 exact ⟨⟨q,rfl,hqb,by omega,HRN.out,oa,ob,hB⟩,by show ((E - q).toNat+if E < q then 0 else 1) < (E - t).toNat+if E < t then 0 else 1;split<;>split<;>omega⟩
end Go.Proofs.YtppjleebbjipbaaGreat
namespace Go.Proofs.YtppjleebbjipbaaGreat
open Go.RowKit Go.Shelf
set_option maxRecDepth 20000
set_option maxHeartbeats 8000000
theorem rChanges_back {W:World} {z:Zn.a0w} {mv rv tv yv:Value} (hv:a1q W z mv rv tv yv) (hzr:z.cal.rules.length < 9223372036854775808) (hzm:z.cal.a0g.length < 9223372036854775808) (hg:Zn.Good z) {f u:Int} (hf : -2251799813685248≤f) (hf2:f≤2251799813685248) (hu2 : -2251799813685248≤u) (hu:u≤2251799813685248) (hfu:u < f) :
  Calls Tryz.prog 40 #[.agg #[z.cal.a08,mv,z.cal.a0l,rv,z.start,tv,z.hor,yv],.int .i64 f,.int .i64 u] W fun e w'=>e=.returned (.tuple #[.slice none 0 0,.int .i64 1])∧Below W W w':=by
 obtain ⟨ta,tc,rfl⟩:=a2b.ajx hv.tr
 have hon:ones #[z.cal.a08,mv,z.cal.a0l,rv,z.start,.slice ta z.trans.length tc,z.hor,yv]=true:=a1b hv.cal.mon.one hv.cal.rul.one (a1m.one hv.tr) (a1m.one hv.yr)
 have w1B:Below W W (W.alloc (.cells #[z.cal.a08,mv,z.cal.a0l,rv,z.start,.slice ta z.trans.length tc,z.hor,yv] 35)):=bR.alloc (zD _) _
 have o0:obj (W.alloc (.cells #[z.cal.a08,mv,z.cal.a0l,rv,z.start,.slice ta z.trans.length tc,z.hor,yv] 35)) W.heap.size=some (.cells #[z.cal.a08,mv,z.cal.a0l,rv,z.start,.slice ta z.trans.length tc,z.hor,yv] 35 (0,0)):=a05 _ _ _ rfl
 have HX:=zA (ae9 (hv.below w1B) hzr hzm)
 rw [show Zn.a2l z=0 by unfold Zn.a2l;rw [zS (by have:=hg.a.hd.t;omega),zQ (Zn.a0v.2 hg)]] at HX
 have HWF:=zA (fun Wq:World=>a2e (W:=Wq) (n:=f) (l:=2251799813685248) (by omega) (by omega))
 have HWU:=zA (fun Wq:World=>a2e (W:=Wq) (n:=u) (l:=2251799813685248) (by omega) (by omega))
 rw [zV ⟨hf,hf2⟩] at HWF
 rw [zV ⟨hu2,hu⟩] at HWU
 clear hv hg
 go_enter Tryz.func40,Tryz.ntmps40
 repeat' (first | (go_at_call 29;((with_reducible refine (HX.out).mono ?_));rintro e w5 ⟨rfl,hB5⟩;have hB6:=w1B.trans (hB5.mono w1B.size);have o5:=a0a o0 hB5;dsimp only) | (go_at_call 57;((with_reducible refine (HWF.out _).mono ?_));rintro e w6 ⟨rfl,rfl⟩;dsimp only) | (go_at_call 57;((with_reducible refine (HWU.out _).mono ?_));rintro e w7 ⟨rfl,rfl⟩;dsimp only)|go_skip|go_guarded|go_step|go_upon)
 go_returns
 exact ⟨rfl,hB6⟩
theorem Diff_back (HO:OpenSpec) {W:World} {a b:Zn.a0w} {mva rva tva yva mvb rvb tvb yvb:Value} (hva:a1q W a mva rva tva yva) (hra:a.cal.rules.length < 9223372036854775808) (hma:a.cal.a0g.length < 9223372036854775808) (hvb:a1q W b mvb rvb tvb yvb) (hrb:b.cal.rules.length < 9223372036854775808) (hmb:b.cal.a0g.length < 9223372036854775808) {f u:Int} (hfu:u < f) :
  Calls Tryz.prog 41 #[.agg #[a.cal.a08,mva,a.cal.a0l,rva,a.start,tva,a.hor,yva],.agg #[b.cal.a08,mvb,b.cal.a0l,rvb,b.start,tvb,b.hor,yvb],.agg #[f,u]] W fun e w'=>e=.returned (.tuple #[.slice none 0 0,.int .i64 1])∧Below W W w':=by
 have hona:ones #[a.cal.a08,mva,a.cal.a0l,rva,a.start,tva,a.hor,yva]=true:=a1b hva.cal.mon.one hva.cal.rul.one (a1m.one hva.tr) (a1m.one hva.yr)
 have honb:ones #[b.cal.a08,mvb,b.cal.a0l,rvb,b.start,tvb,b.hor,yvb]=true:=a1b hvb.cal.mon.one hvb.cal.rul.one (a1m.one hvb.tr) (a1m.one hvb.yr)
 have hons:ones #[f,u]=true:=by simp [ones,a0n]
 have hB0:Below W W (((W.alloc (.cells #[a.cal.a08,mva,a.cal.a0l,rva,a.start,tva,a.hor,yva] 35)).alloc (.cells #[b.cal.a08,mvb,b.cal.a0l,rvb,b.start,tvb,b.hor,yvb] 35)).alloc (.cells #[f,u] 77)):=(((bR.alloc (zD _) _).alloc (by simp) _).alloc (by simp;omega) _)
 have oa:obj (((W.alloc (.cells #[a.cal.a08,mva,a.cal.a0l,rva,a.start,tva,a.hor,yva] 35)).alloc (.cells #[b.cal.a08,mvb,b.cal.a0l,rvb,b.start,tvb,b.hor,yvb] 35)).alloc (.cells #[f,u] 77)) W.heap.size=some (.cells #[a.cal.a08,mva,a.cal.a0l,rva,a.start,tva,a.hor,yva] 35 (0,0)):=a06 (a06 (a05 _ _ _ rfl) _) _
 have ob:obj (((W.alloc (.cells #[a.cal.a08,mva,a.cal.a0l,rva,a.start,tva,a.hor,yva] 35)).alloc (.cells #[b.cal.a08,mvb,b.cal.a0l,rvb,b.start,tvb,b.hor,yvb] 35)).alloc (.cells #[f,u] 77)) (W.heap.size+1)=some (.cells #[b.cal.a08,mvb,b.cal.a0l,rvb,b.start,tvb,b.hor,yvb] 35 (0,0)):=a06 (a05 _ _ _ (by simp)) _
 have os:obj (((W.alloc (.cells #[a.cal.a08,mva,a.cal.a0l,rva,a.start,tva,a.hor,yva] 35)).alloc (.cells #[b.cal.a08,mvb,b.cal.a0l,rvb,b.start,tvb,b.hor,yvb] 35)).alloc (.cells #[f,u] 77)) (W.heap.size+2)=some (.cells #[f,u] 77 (0,0)):=a05 _ _ _ (by simp)
 have HA:=zA (fun (Wq:World) (hq:Below W W Wq)=>acs HO (hva.below hq) hra hma f u)
 have HB:=zA (fun (Wq:World) (hq:Below W W Wq)=>acs HO (hvb.below hq) hrb hmb f u)
 rw [show Zn.adz a f u=([],1) by unfold Zn.adz;rw [zS (fun h=>by omega)]] at HA
 rw [show Zn.adz b f u=([],1) by unfold Zn.adz;rw [zS (fun h=>by omega)]] at HB
 clear hva hvb
 go_enter Tryz.func41,Tryz.ntmps41
 repeat' ((go_not_at_region 1);(first|go_skip|go_guarded|go_step|go_upon))
 generalize (((W.alloc (.cells #[a.cal.a08,mva,a.cal.a0l,rva,a.start,tva,a.hor,yva] 35)).alloc (.cells #[b.cal.a08,mvb,b.cal.a0l,rvb,b.start,tvb,b.hor,yvb] 35)).alloc (.cells #[f,u] 77))=V at *
 have s0:=a02 os 0
 have s1:=a02 os 1
 repeat' ((go_not_at_region 2);(first | (go_at_call 35;((with_reducible refine ((HA.out _ hB0).mono ?_)));rintro e w1 ⟨⟨v1,rfl,_⟩,hB'⟩;have hB1:=hB0.trans (hB'.mono hB0.size);have ob1:=a0a ob hB';have os1:=a0a os hB';have t0:=a02 os1 0;have t1:=a02 os1 1;dsimp only)|go_skip|go_guarded|go_step|go_upon))
 repeat' ((go_not_at_region 3);(first | (go_at_call 35;((with_reducible refine ((HB.out _ hB1).mono ?_)));rintro e w2 ⟨⟨v2,rfl,_⟩,hB'⟩;have hB2:=hB1.trans (hB'.mono hB1.size);dsimp only)|go_skip|go_guarded|go_step|go_upon))
 repeat'(first|go_skip|go_guarded|go_step|go_upon)
 go_returns
 exact ⟨rfl,hB2⟩
theorem rDiff_back {W:World} {a b:Zn.a0w} {mva rva tva yva mvb rvb tvb yvb:Value} (hva:a1q W a mva rva tva yva) (hra:a.cal.rules.length < 9223372036854775808) (hma:a.cal.a0g.length < 9223372036854775808) (hvb:a1q W b mvb rvb tvb yvb) (hrb:b.cal.rules.length < 9223372036854775808) (hmb:b.cal.a0g.length < 9223372036854775808) (hga:Zn.Good a) (hgb:Zn.Good b) {f u:Int} (hf : -2251799813685248≤f) (hf2:f≤2251799813685248) (hu2 : -2251799813685248≤u) (hu:u≤2251799813685248) (hfu:u < f) :
  Calls Tryz.prog 42 #[.agg #[a.cal.a08,mva,a.cal.a0l,rva,a.start,tva,a.hor,yva],.agg #[b.cal.a08,mvb,b.cal.a0l,rvb,b.start,tvb,b.hor,yvb],.agg #[f,u]] W fun e w'=>e=.returned (.tuple #[.slice none 0 0,.int .i64 1])∧Below W W w':=by
 have hona:ones #[a.cal.a08,mva,a.cal.a0l,rva,a.start,tva,a.hor,yva]=true:=a1b hva.cal.mon.one hva.cal.rul.one (a1m.one hva.tr) (a1m.one hva.yr)
 have honb:ones #[b.cal.a08,mvb,b.cal.a0l,rvb,b.start,tvb,b.hor,yvb]=true:=a1b hvb.cal.mon.one hvb.cal.rul.one (a1m.one hvb.tr) (a1m.one hvb.yr)
 have hons:ones #[f,u]=true:=by simp [ones,a0n]
 have hB0:Below W W (((W.alloc (.cells #[a.cal.a08,mva,a.cal.a0l,rva,a.start,tva,a.hor,yva] 35)).alloc (.cells #[b.cal.a08,mvb,b.cal.a0l,rvb,b.start,tvb,b.hor,yvb] 35)).alloc (.cells #[f,u] 77)):=(((bR.alloc (zD _) _).alloc (by simp) _).alloc (by simp;omega) _)
 have oa:obj (((W.alloc (.cells #[a.cal.a08,mva,a.cal.a0l,rva,a.start,tva,a.hor,yva] 35)).alloc (.cells #[b.cal.a08,mvb,b.cal.a0l,rvb,b.start,tvb,b.hor,yvb] 35)).alloc (.cells #[f,u] 77)) W.heap.size=some (.cells #[a.cal.a08,mva,a.cal.a0l,rva,a.start,tva,a.hor,yva] 35 (0,0)):=a06 (a06 (a05 _ _ _ rfl) _) _
 have ob:obj (((W.alloc (.cells #[a.cal.a08,mva,a.cal.a0l,rva,a.start,tva,a.hor,yva] 35)).alloc (.cells #[b.cal.a08,mvb,b.cal.a0l,rvb,b.start,tvb,b.hor,yvb] 35)).alloc (.cells #[f,u] 77)) (W.heap.size+1)=some (.cells #[b.cal.a08,mvb,b.cal.a0l,rvb,b.start,tvb,b.hor,yvb] 35 (0,0)):=a06 (a05 _ _ _ (by simp)) _
 have os:obj (((W.alloc (.cells #[a.cal.a08,mva,a.cal.a0l,rva,a.start,tva,a.hor,yva] 35)).alloc (.cells #[b.cal.a08,mvb,b.cal.a0l,rvb,b.start,tvb,b.hor,yvb] 35)).alloc (.cells #[f,u] 77)) (W.heap.size+2)=some (.cells #[f,u] 77 (0,0)):=a05 _ _ _ (by simp)
 have HA:=zA (fun (Wq:World) (hq:Below W W Wq)=>rChanges_back (hva.below hq) hra hma hga hf hf2 hu2 hu hfu)
 have HB:=zA (fun (Wq:World) (hq:Below W W Wq)=>rChanges_back (hvb.below hq) hrb hmb hgb hf hf2 hu2 hu hfu)
 clear hva hvb
 go_enter Tryz.func42,Tryz.ntmps42
 repeat' ((go_not_at_region 1);(first|go_skip|go_guarded|go_step|go_upon))
 generalize (((W.alloc (.cells #[a.cal.a08,mva,a.cal.a0l,rva,a.start,tva,a.hor,yva] 35)).alloc (.cells #[b.cal.a08,mvb,b.cal.a0l,rvb,b.start,tvb,b.hor,yvb] 35)).alloc (.cells #[f,u] 77))=V at *
 have s0:=a02 os 0
 have s1:=a02 os 1
 repeat' ((go_not_at_region 2);(first | (go_at_call 40;((with_reducible refine ((HA.out _ hB0).mono ?_)));rintro e w1 ⟨rfl,hB'⟩;have hB1:=hB0.trans (hB'.mono hB0.size);have ob1:=a0a ob hB';have os1:=a0a os hB';have t0:=a02 os1 0;have t1:=a02 os1 1;dsimp only)|go_skip|go_guarded|go_step|go_upon))
 repeat' ((go_not_at_region 3);(first | (go_at_call 40;((with_reducible refine ((HB.out _ hB1).mono ?_)));rintro e w2 ⟨rfl,hB'⟩;have hB2:=hB1.trans (hB'.mono hB1.size);dsimp only)|go_skip|go_guarded|go_step|go_upon))
 repeat'(first|go_skip|go_guarded|go_step|go_upon)
 go_returns
 exact ⟨rfl,hB2⟩
theorem spans_calls {W:World} {va vb:Value} {a:List Zn.Tr} (ha:a2b W va a) (hb:a2b W vb a) (hal:a.length < 4611686018427387904) :
  Calls Tryz.prog 46 #[va,vb] W fun e w'=>e=.returned (.bool true)∧Below W W w':=by
 have HA:=zA ha
 have HB:=zA hb
 obtain ⟨ao,ac,rfl⟩ : ∃ ao ac,va=.slice ao a.length ac:=by obtain ⟨x,y,h,_⟩:=ha;exact ⟨x,y,h⟩
 obtain ⟨bo,bc,rfl⟩ : ∃ bo bc,vb=.slice bo a.length bc:=by obtain ⟨x,y,h,_⟩:=hb;exact ⟨x,y,h⟩
 clear ha hb
 go_enter Tryz.func46,Tryz.ntmps46
 have e0:((a.length:Int) != (a.length:Int))=false:=bne_self_eq_false _
 repeat'(first|go_skip|go_guarded|go_step|go_upon)
 go_loopw [5] (fun i wr => ∃ k:Nat,k≤a.length∧i=.int .i64 k∧Below W W wr) (fun i _=>((a.length:Int) - intOf i).toNat)
 case atStart=>exact ⟨0,by omega,rfl,zC _ _⟩
 obtain ⟨k,hk,rfl,hC⟩:=hrel
 by_cases hlk:k < a.length;rotate_left
 ·have i1 : ¬ (k:Int) < (a.length:Int):=by omega
  repeat'(first|go_skip|go_guarded|go_step|go_upon)
  go_ret
  exact ⟨rfl,hC⟩
 have i1:(k:Int) < (a.length:Int):=by omega
 have i3 : ¬ (k:Int) < 0:=by omega
 obtain ⟨b1,o1,cc1,aql,T1,fr1,hv1,g1,q1⟩:=a2b.open (a1m.below HA.out hC) (by omega)
 obtain ⟨rfl,hcc1⟩:ao=some ⟨b1,o1,none⟩∧ac=cc1:=by injection hv1 with a b c;exact ⟨a,c⟩
 obtain ⟨z1,k1⟩:=q1 k (by omega)
 obtain ⟨b2,o2,cc2,aqk,T2,fr2,hv2,g2,q2⟩:=a2b.open (a1m.below HB.out hC) (by omega)
 obtain ⟨rfl,hcc2⟩:bo=some ⟨b2,o2,none⟩∧bc=cc2:=by injection hv2 with a b c;exact ⟨a,c⟩
 obtain ⟨z2,k2⟩:=q2 k (by omega)
 obtain ⟨x,hx1⟩ : ∃ x,a.getD k default=x:=⟨_,rfl⟩
 rw [hx1] at k1 k2
 have zz1:(o1+k * 2+2≤aql.size)=True:=xN z1
 have zz2:(o2+k * 2+2≤aqk.size)=True:=xN z2
 clear hx1 q1 hv1 z1 q2 hv2 z2
 repeat'(first|go_skip|go_guarded|go_step|go_upon)
 go_quiet (fail)
 have hC2:=below_drewN hC nq
 generalize wr.drewN nq=w9 at *
 repeat'(first|go_skip|go_guarded|go_step|go_upon)
 exact ⟨⟨k+1,by omega,by simp,hC2⟩,by simp only [intOf];omega⟩
end Go.Proofs.YtppjleebbjipbaaGreat
namespace Go.Proofs.YtppjleebbjipbaaGreat
open Go.RowKit Go.Shelf
set_option maxRecDepth 20000
set_option maxHeartbeats 8000000
theorem zoneChangesMR_calls {W:World} {x y:Zn.Raw} {gv ov gw ow:Value} (hx:x.In) (hgv:U8V W gv x.a6v) (hov:U8V W ov x.a5z) (hy:y.In) (hgw:U8V W gw y.a6v) (how:U8V W ow y.a5z) {t0 t1:Nat} (ht0:t0 < 4294967296) (ht1:t1 < 4294967296) :
  Calls Tryz.prog 12 #[.agg #[.int .u8 (x.start:Nat),gv,ov,.int .u8 (x.behind:Nat),.int .u8 (x.y0:Nat),.int .u8 (x.y1:Nat),.int .u8 (x.y2:Nat),.int .u8 (x.y3:Nat),.int .u8 (x.y4:Nat),.int .u8 (x.y5:Nat),.int .u8 (x.y6:Nat),.int .u8 (x.y7:Nat),.int .u8 (x.cal:Nat),.bool x.rules],.agg #[.int .u8 (y.start:Nat),gw,ow,.int .u8 (y.behind:Nat),.int .u8 (y.y0:Nat),.int .u8 (y.y1:Nat),.int .u8 (y.y2:Nat),.int .u8 (y.y3:Nat),.int .u8 (y.y4:Nat),.int .u8 (y.y5:Nat),.int .u8 (y.y6:Nat),.int .u8 (y.y7:Nat),.int .u8 (y.cal:Nat),.bool y.rules],.agg #[.int .u32 (t0:Nat),.int .u32 (t1:Nat)]] W fun e w'=>e=.returned (.bool true)∧Below W W w':=by
 have HO:OpenSpec:=a9r ad3
 have HGa:=zA hgv
 have HOa:=zA hov
 have HGb:=zA hgw
 have HOb:=zA how
 obtain ⟨gxa,gxc,rfl⟩ : ∃ a c,gv=.slice a x.a6v.length c:=by obtain ⟨a,c,h,_⟩:=hgv;exact ⟨a,c,h⟩
 obtain ⟨oxa,oxc,rfl⟩ : ∃ a c,ov=.slice a x.a5z.length c:=by obtain ⟨a,c,h,_⟩:=hov;exact ⟨a,c,h⟩
 obtain ⟨gya,gyc,rfl⟩ : ∃ a c,gw=.slice a y.a6v.length c:=by obtain ⟨a,c,h,_⟩:=hgw;exact ⟨a,c,h⟩
 obtain ⟨oya,oyc,rfl⟩ : ∃ a c,ow=.slice a y.a5z.length c:=by obtain ⟨a,c,h,_⟩:=how;exact ⟨a,c,h⟩
 clear hgv hov hgw how
 have honx:ones #[.int .u8 (x.start:Nat),.slice gxa x.a6v.length gxc,.slice oxa x.a5z.length oxc,.int .u8 (x.behind:Nat),.int .u8 (x.y0:Nat),.int .u8 (x.y1:Nat),.int .u8 (x.y2:Nat),.int .u8 (x.y3:Nat),.int .u8 (x.y4:Nat),.int .u8 (x.y5:Nat),.int .u8 (x.y6:Nat),.int .u8 (x.y7:Nat),.int .u8 (x.cal:Nat),.bool x.rules]=true:=by simp [ones,a0n,Value.oneCell']
 have hony:ones #[.int .u8 (y.start:Nat),.slice gya y.a6v.length gyc,.slice oya y.a5z.length oyc,.int .u8 (y.behind:Nat),.int .u8 (y.y0:Nat),.int .u8 (y.y1:Nat),.int .u8 (y.y2:Nat),.int .u8 (y.y3:Nat),.int .u8 (y.y4:Nat),.int .u8 (y.y5:Nat),.int .u8 (y.y6:Nat),.int .u8 (y.y7:Nat),.int .u8 (y.cal:Nat),.bool y.rules]=true:=by simp [ones,a0n,Value.oneCell']
 have wVB:Below W W (((W.alloc (.cells #[.int .u8 (x.start:Nat),.slice gxa x.a6v.length gxc,.slice oxa x.a5z.length oxc,.int .u8 (x.behind:Nat),.int .u8 (x.y0:Nat),.int .u8 (x.y1:Nat),.int .u8 (x.y2:Nat),.int .u8 (x.y3:Nat),.int .u8 (x.y4:Nat),.int .u8 (x.y5:Nat),.int .u8 (x.y6:Nat),.int .u8 (x.y7:Nat),.int .u8 (x.cal:Nat),.bool x.rules] 26)).alloc (.cells #[.int .u8 (y.start:Nat),.slice gya y.a6v.length gyc,.slice oya y.a5z.length oyc,.int .u8 (y.behind:Nat),.int .u8 (y.y0:Nat),.int .u8 (y.y1:Nat),.int .u8 (y.y2:Nat),.int .u8 (y.y3:Nat),.int .u8 (y.y4:Nat),.int .u8 (y.y5:Nat),.int .u8 (y.y6:Nat),.int .u8 (y.y7:Nat),.int .u8 (y.cal:Nat),.bool y.rules] 26)).alloc (.cells #[.int .u32 (t0:Nat),.int .u32 (t1:Nat)] 58)):=((bR.alloc (zD _) _).alloc (by simp) _).alloc (by simp;omega) _
 have o0:obj (((W.alloc (.cells #[.int .u8 (x.start:Nat),.slice gxa x.a6v.length gxc,.slice oxa x.a5z.length oxc,.int .u8 (x.behind:Nat),.int .u8 (x.y0:Nat),.int .u8 (x.y1:Nat),.int .u8 (x.y2:Nat),.int .u8 (x.y3:Nat),.int .u8 (x.y4:Nat),.int .u8 (x.y5:Nat),.int .u8 (x.y6:Nat),.int .u8 (x.y7:Nat),.int .u8 (x.cal:Nat),.bool x.rules] 26)).alloc (.cells #[.int .u8 (y.start:Nat),.slice gya y.a6v.length gyc,.slice oya y.a5z.length oyc,.int .u8 (y.behind:Nat),.int .u8 (y.y0:Nat),.int .u8 (y.y1:Nat),.int .u8 (y.y2:Nat),.int .u8 (y.y3:Nat),.int .u8 (y.y4:Nat),.int .u8 (y.y5:Nat),.int .u8 (y.y6:Nat),.int .u8 (y.y7:Nat),.int .u8 (y.cal:Nat),.bool y.rules] 26)).alloc (.cells #[.int .u32 (t0:Nat),.int .u32 (t1:Nat)] 58)) W.heap.size=some (.cells #[.int .u8 (x.start:Nat),.slice gxa x.a6v.length gxc,.slice oxa x.a5z.length oxc,.int .u8 (x.behind:Nat),.int .u8 (x.y0:Nat),.int .u8 (x.y1:Nat),.int .u8 (x.y2:Nat),.int .u8 (x.y3:Nat),.int .u8 (x.y4:Nat),.int .u8 (x.y5:Nat),.int .u8 (x.y6:Nat),.int .u8 (x.y7:Nat),.int .u8 (x.cal:Nat),.bool x.rules] 26 (0,0)):=a06 (a06 (a05 _ _ _ rfl) _) _
 have o1:obj (((W.alloc (.cells #[.int .u8 (x.start:Nat),.slice gxa x.a6v.length gxc,.slice oxa x.a5z.length oxc,.int .u8 (x.behind:Nat),.int .u8 (x.y0:Nat),.int .u8 (x.y1:Nat),.int .u8 (x.y2:Nat),.int .u8 (x.y3:Nat),.int .u8 (x.y4:Nat),.int .u8 (x.y5:Nat),.int .u8 (x.y6:Nat),.int .u8 (x.y7:Nat),.int .u8 (x.cal:Nat),.bool x.rules] 26)).alloc (.cells #[.int .u8 (y.start:Nat),.slice gya y.a6v.length gyc,.slice oya y.a5z.length oyc,.int .u8 (y.behind:Nat),.int .u8 (y.y0:Nat),.int .u8 (y.y1:Nat),.int .u8 (y.y2:Nat),.int .u8 (y.y3:Nat),.int .u8 (y.y4:Nat),.int .u8 (y.y5:Nat),.int .u8 (y.y6:Nat),.int .u8 (y.y7:Nat),.int .u8 (y.cal:Nat),.bool y.rules] 26)).alloc (.cells #[.int .u32 (t0:Nat),.int .u32 (t1:Nat)] 58)) (W.heap.size+1)=some (.cells #[.int .u8 (y.start:Nat),.slice gya y.a6v.length gyc,.slice oya y.a5z.length oyc,.int .u8 (y.behind:Nat),.int .u8 (y.y0:Nat),.int .u8 (y.y1:Nat),.int .u8 (y.y2:Nat),.int .u8 (y.y3:Nat),.int .u8 (y.y4:Nat),.int .u8 (y.y5:Nat),.int .u8 (y.y6:Nat),.int .u8 (y.y7:Nat),.int .u8 (y.cal:Nat),.bool y.rules] 26 (0,0)):=a06 (a05 _ _ _ (by simp)) _
 have o2:obj (((W.alloc (.cells #[.int .u8 (x.start:Nat),.slice gxa x.a6v.length gxc,.slice oxa x.a5z.length oxc,.int .u8 (x.behind:Nat),.int .u8 (x.y0:Nat),.int .u8 (x.y1:Nat),.int .u8 (x.y2:Nat),.int .u8 (x.y3:Nat),.int .u8 (x.y4:Nat),.int .u8 (x.y5:Nat),.int .u8 (x.y6:Nat),.int .u8 (x.y7:Nat),.int .u8 (x.cal:Nat),.bool x.rules] 26)).alloc (.cells #[.int .u8 (y.start:Nat),.slice gya y.a6v.length gyc,.slice oya y.a5z.length oyc,.int .u8 (y.behind:Nat),.int .u8 (y.y0:Nat),.int .u8 (y.y1:Nat),.int .u8 (y.y2:Nat),.int .u8 (y.y3:Nat),.int .u8 (y.y4:Nat),.int .u8 (y.y5:Nat),.int .u8 (y.y6:Nat),.int .u8 (y.y7:Nat),.int .u8 (y.cal:Nat),.bool y.rules] 26)).alloc (.cells #[.int .u32 (t0:Nat),.int .u32 (t1:Nat)] 58)) (W.heap.size+2)=some (.cells #[.int .u32 (t0:Nat),.int .u32 (t1:Nat)] 58 (0,0)):=a05 _ _ _ (by simp)
 obtain ⟨a,hza⟩ : ∃ a,a=Zn.made x:=⟨_,rfl⟩
 obtain ⟨b,hzb⟩ : ∃ b,b=Zn.made y:=⟨_,rfl⟩
 have HZa:=zA hza
 have HZb:=zA hzb
 have hla:Zn.ane a:=hza ▸ Zn.akj x
 have hlb:Zn.ane b:=hzb ▸ Zn.akj y
 have HMA:Hid (Zn.arz a):=zA (hza ▸ Zn.made_k hx)
 have HMB:Hid (Zn.arz b):=zA (hzb ▸ Zn.made_k hy)
 have HSMA:Hid (Zn.SmallC a):=zA (hza ▸ Zn.made_small x)
 have HSMB:Hid (Zn.SmallC b):=zA (hzb ▸ Zn.made_small y)
 have HXa:=zA hx
 have HXb:=zA hy
 clear hza hzb hx hy
 go_enter Tryz.func12,Tryz.ntmps12
 repeat' ((go_not_at_region 1);(first|go_skip|go_guarded|go_step|go_upon))
 generalize (((W.alloc (.cells #[.int .u8 (x.start:Nat),.slice gxa x.a6v.length gxc,.slice oxa x.a5z.length oxc,.int .u8 (x.behind:Nat),.int .u8 (x.y0:Nat),.int .u8 (x.y1:Nat),.int .u8 (x.y2:Nat),.int .u8 (x.y3:Nat),.int .u8 (x.y4:Nat),.int .u8 (x.y5:Nat),.int .u8 (x.y6:Nat),.int .u8 (x.y7:Nat),.int .u8 (x.cal:Nat),.bool x.rules] 26)).alloc (.cells #[.int .u8 (y.start:Nat),.slice gya y.a6v.length gyc,.slice oya y.a5z.length oyc,.int .u8 (y.behind:Nat),.int .u8 (y.y0:Nat),.int .u8 (y.y1:Nat),.int .u8 (y.y2:Nat),.int .u8 (y.y3:Nat),.int .u8 (y.y4:Nat),.int .u8 (y.y5:Nat),.int .u8 (y.y6:Nat),.int .u8 (y.y7:Nat),.int .u8 (y.cal:Nat),.bool y.rules] 26)).alloc (.cells #[.int .u32 (t0:Nat),.int .u32 (t1:Nat)] 58))=V at *
 repeat' ((go_not_at_region 2);(first | (go_at_call 15;((with_reducible refine ((ada _).mono ?_)));rintro e w2 ⟨rfl,hB'⟩;have hB2:=wVB.trans (hB'.mono wVB.size);have p0:=a0a o0 hB';have p1:=a0a o1 hB';have p2:=a0a o2 hB';dsimp only)|go_skip|go_guarded|go_step|go_upon))
 have HMDa:=zA (aoh HZa.out HXa.out (HGa.out.below hB2) (HOa.out.below hB2))
 repeat' ((go_not_at_region 3);(first | (go_at_call 16;((with_reducible refine ((HMDa.out).mono ?_)));rintro e w3 ⟨⟨mva,rva,tva,yva,rfl,hzsa⟩,hB'⟩;have hB3:=hB2.trans (hB'.mono hB2.size);have q0:=a0a p0 hB';have q1:=a0a p1 hB';have q2:=a0a p2 hB';have hona:=a1b hzsa.cal.mon.one hzsa.cal.rul.one (a1m.one hzsa.tr) (a1m.one hzsa.yr) (a:=a.cal.a08) (b:=a.cal.a0l) (c:=a.start) (d:=a.hor);dsimp only)|go_skip|go_guarded|go_step|go_upon))
 have A1:=(zC w3.heap.size w3).alloc (zD _) (.cells #[a.cal.a08,mva,a.cal.a0l,rva,a.start,tva,a.hor,yva] 35)
 have oza:obj (w3.alloc (.cells #[a.cal.a08,mva,a.cal.a0l,rva,a.start,tva,a.hor,yva] 35)) w3.heap.size=some (.cells #[a.cal.a08,mva,a.cal.a0l,rva,a.start,tva,a.hor,yva] 35 (0,0)):=a05 _ _ _ rfl
 have q1:=a0a q1 A1
 have q2:=a0a q2 A1
 have hzsa:=hzsa.below A1
 have hB4:=hB3.trans (A1.mono hB3.size)
 clear A1 hB3 p0 p1 p2 o0 o1 o2 q0 hB'
 generalize (w3.alloc (.cells #[a.cal.a08,mva,a.cal.a0l,rva,a.start,tva,a.hor,yva] 35))=w4 at *
 generalize w3.heap.size=ba at *
 have HMDb:=zA (aoh HZb.out HXb.out (HGb.out.below hB4) (HOb.out.below hB4))
 repeat' ((go_not_at_region 4);(first | (go_at_call 16;((with_reducible refine ((HMDb.out).mono ?_)));rintro e w5 ⟨⟨mvb,rvb,tvb,yvb,rfl,hzsb⟩,hB'⟩;have hB5:=hB4.trans (hB'.mono hB4.size);have q2:=a0a q2 hB';have oza:=a0a oza hB';have hzsa:=hzsa.below hB';have honb:=a1b hzsb.cal.mon.one hzsb.cal.rul.one (a1m.one hzsb.tr) (a1m.one hzsb.yr) (a:=b.cal.a08) (b:=b.cal.a0l) (c:=b.start) (d:=b.hor);dsimp only)|go_skip|go_guarded|go_step|go_upon))
 have B1:=(zC w5.heap.size w5).alloc (zD _) (.cells #[b.cal.a08,mvb,b.cal.a0l,rvb,b.start,tvb,b.hor,yvb] 35)
 have ozb:obj (w5.alloc (.cells #[b.cal.a08,mvb,b.cal.a0l,rvb,b.start,tvb,b.hor,yvb] 35)) w5.heap.size=some (.cells #[b.cal.a08,mvb,b.cal.a0l,rvb,b.start,tvb,b.hor,yvb] 35 (0,0)):=a05 _ _ _ rfl
 have q2:=a0a q2 B1
 have oza:=a0a oza B1
 have hzsa:=hzsa.below B1
 have hzsb:=hzsb.below B1
 have hBV:=hB5.trans (B1.mono hB5.size)
 clear B1 hB5 hB4 hB2 q1 hB'
 generalize (w5.alloc (.cells #[b.cal.a08,mvb,b.cal.a0l,rvb,b.start,tvb,b.hor,yvb] 35))=U at *
 generalize w5.heap.size=bb at *
 have HZa:=zA (fun (Wq:World) (hq:Below U U Wq)=>hzsa.below hq)
 have HZb:=zA (fun (Wq:World) (hq:Below U U Wq)=>hzsb.below hq)
 clear HMDa HMDb HGa HGb HOa HOb hzsa hzsb honx hony wVB
 have hb0:=zC U.heap.size U
 have c0:=a02 q2 0
 have c1:=a02 q2 1
 have m0:=zWI ((t0:Int) % 200000 - 5000)
 repeat' ((go_not_at_region 5);(first|go_skip|go_guarded|go_step|go_upon))
 clear m0 c0
 obtain ⟨f,hf⟩ : ∃ f,f=(t0:Int) % 200000 - 5000:=⟨_,rfl⟩
 obtain ⟨g,hg⟩ : ∃ g,g=f+(t1:Int) % 400000:=⟨_,rfl⟩
 obtain ⟨u,hu⟩ : ∃ u,u=g - 100:=⟨_,rfl⟩
 rw [← hf]
 have m1:IntKind.wrap .i64 (f+(t1:Int) % 400000)=g:=by rw [hg,wrap_in]<;>omega
 have m2:IntKind.wrap .i64 (g - 100)=u:=by rw [hu,wrap_in]<;>omega
 have hub:f - 100≤u∧u≤f+400000:=by omega
 have hfb : -5000≤f∧f≤200000:=by omega
 clear hf hg hu
 repeat' ((go_not_at_region 6);(first|go_skip|go_guarded|go_step|go_upon))
 clear c1 m1 m2 q2
 have hcA:1≤Zn.a0s a∧Zn.a0s a≤217:=by rcases Zn.made_cyc HMA.out with ⟨h,_⟩ | ⟨_,h⟩<;>omega
 have hcB:1≤Zn.a0s b∧Zn.a0s b≤217:=by rcases Zn.made_cyc HMB.out with ⟨h,_⟩ | ⟨_,h⟩<;>omega
 obtain ⟨ca,hca⟩ : ∃ ca:Nat,Zn.a0s a=(ca:Int):=⟨(Zn.a0s a).toNat,by omega⟩
 obtain ⟨cb,hcb⟩ : ∃ cb:Nat,Zn.a0s b=(cb:Int):=⟨(Zn.a0s b).toNat,by omega⟩
 rw [hca] at hcA
 rw [hcb] at hcB
 have hlcm:Nat.lcm ca cb≤217 * 217:=by
  have h1:Nat.lcm ca cb=ca / Nat.gcd ca cb * cb:=by unfold Nat.lcm;rw [Nat.div_mul_right_comm (Nat.gcd_dvd_left ca cb)]
  rw [h1]
  exact Nat.mul_le_mul (yG (vY _ _) (by omega)) (by omega)
 have tA:=Zn.settled_small HMA.out HSMA.out
 have tB:=Zn.settled_small HMB.out HSMB.out
 obtain ⟨E,hE⟩ : ∃ E,(if Zn.a1w a (Zn.ysT a) (Zn.a0s a) < Zn.a1w b (Zn.ysT b) (Zn.a0s b) then Zn.a1w b (Zn.ysT b) (Zn.a0s b) else Zn.a1w a (Zn.ysT a) (Zn.a0s a))+((Nat.lcm ca cb:Nat):Int) * 1440=E:=⟨_,rfl⟩
 have hEb:E≤100000000:=by rw [← hE];split<;>omega
 have HSP:=zA (fun (Wq:World) (hq:Below U U Wq)=>Same_calls HO (HZa.out Wq hq) hla.r hla.m (HZb.out Wq hq) hlb.r hlb.m HMA.out.good HMB.out.good (N:=1000000) hca hcb (by omega) (by omega) (by omega) (by omega) rfl (by omega) rfl rfl (by omega) (by omega) (by omega) (by omega) hE (by decide)
  (fun i x hx hl=>by have:=Zn.idx_low HMA.out.good (fun y hy=>by have:=Zn.made_low HMA.out hy;omega) i (show Zn.a4y a (-2251799813685248) i=some x from hx);omega) (fun i x hx hl=>by have:=Zn.idx_low HMB.out.good (fun y hy=>by have:=Zn.made_low HMB.out hy;omega) i (show Zn.a4y b (-2251799813685248) i=some x from hx);omega))
 have HSR:=zA (fun (Wq:World) (hq:Below U U Wq)=>rSame_calls (HZa.out Wq hq) hla.r hla.m (HZb.out Wq hq) hlb.r hlb.m HMA.out.good HMB.out.good hca hcb (by omega) (by omega) (by omega) (by omega) rfl (by omega) rfl rfl (by omega) (by omega) (by omega) (by omega) hE
  (fun y hy=>by have:=Zn.made_low HMA.out hy;omega) (fun y hy=>by have:=Zn.made_low HMB.out hy;omega))
 unfold SamePost at HSP HSR
 clear hca hcb hlcm tA tB hE hEb hcA hcB
 by_cases hfu:f≤u
 ·obtain ⟨la,hca,hgA⟩:=Zn.anr HMA.out.good (t:=f) (u:=u) (by omega)
  obtain ⟨lb,hcb,hgB⟩:=Zn.anr HMB.out.good (t:=f) (u:=u) (by omega)
  have hd1:=Zn.cmp_diff HMA.out.good HMB.out.good hfu hgA hgB
  have hlaL:=hgA.len
  have hlbL:=hgB.len
  have HCH:=zA (fun (Wq:World) (hq:Below U U Wq)=>chgs_l HO (HZa.out Wq hq) HMA.out.good hla (f:=f) (u:=u) (l:=la) (by unfold Zn.adz;rw [zQ ⟨Zn.a0v.2 HMA.out.good,by omega,by omega,hfu⟩,hca]))
  have HRC:=zA (fun (Wq:World) (hq:Below U U Wq)=>rChanges_calls (HZa.out Wq hq) hla.r hla.m HMA.out.good (f:=f) (u:=u) (by omega) (by omega) hfu (by omega))
  have HDF:=zA (fun (Wq:World) (hq:Below U U Wq)=>Diff_calls HO (HZa.out Wq hq) hla.r hla.m (HZb.out Wq hq) hlb.r hlb.m HMA.out.good HMB.out.good (by omega) (by omega) hfu hca hcb (by omega) (by omega) hd1.1)
  have HRD:=zA (fun (Wq:World) (hq:Below U U Wq)=>rDiff_calls (HZa.out Wq hq) hla.r hla.m (HZb.out Wq hq) hlb.r hlb.m HMA.out.good HMB.out.good (f:=f) (u:=u) (by omega) (by omega) hfu (by omega))
  have HUQ:=zA (fun l (h:Zn.ChgL a f u l)=>h.uniq hgA.list)
  have HD1:=zA hd1.2
  have hla4:la.length≤10000:=by omega
  clear hca hcb hgA hgB hd1 hlaL hlbL
  repeat' ((go_not_at_region 7);(first | (go_at_call 35;((with_reducible refine ((HCH.out _ hb0).mono ?_)));rintro e u7 ⟨⟨w1,rfl,ht1⟩,hB'⟩;have hb1:=hb0.trans (hB'.mono hb0.size);have oza:=a0a oza hB';have ozb:=a0a ozb hB';have HL1:=zA ht1;dsimp only)|go_skip|go_guarded|go_step|go_upon))
  clear hB' HCH hb0
  repeat' ((go_not_at_region 8);(first | (go_at_call 40;((with_reducible refine ((HRC.out _ hb1).mono ?_)));rintro e u8 ⟨⟨w2,l2,rfl,ht2,hq2⟩,hB'⟩;have hb2:=hb1.trans (hB'.mono hb1.size);have oza:=a0a oza hB';have ozb:=a0a ozb hB';have HL1:=zA (a1m.below HL1.out hB');have HL2:=zA ht2;dsimp only)|go_skip|go_guarded|go_step|go_upon))
  clear hB' HRC hb1
  obtain rfl:=HUQ.out _ hq2
  clear hq2 HUQ ht1 ht2
  repeat' ((go_not_at_region 9);(first | (go_at_call 41;((with_reducible refine ((HDF.out _ hb2).mono ?_)));rintro e u9 ⟨⟨w3,D,rfl,htv,hnl,_,hDl⟩,hB'⟩;have hb3:=hb2.trans (hB'.mono hb2.size);have oza:=a0a oza hB';have ozb:=a0a ozb hB';have HL1:=zA (a1m.below HL1.out hB');have HL2:=zA (a1m.below HL2.out hB');have HS1:=zA htv;dsimp only)|go_skip|go_guarded|go_step|go_upon))
  clear hB' HDF hb2
  repeat' ((go_not_at_region 10);(first | (go_at_call 42;((with_reducible refine ((HRD.out _ hb3).mono ?_)));rintro e u10 ⟨⟨w4,D2,rfl,htv2,hor2,hha2⟩,hB'⟩;have hb4:=hb3.trans (hB'.mono hb3.size);have oza:=a0a oza hB';have ozb:=a0a ozb hB';have HL1:=zA (a1m.below HL1.out hB');have HL2:=zA (a1m.below HL2.out hB');have HS1:=zA (a1m.below HS1.out hB');have HS2:=zA htv2;dsimp only)|go_skip|go_guarded|go_step|go_upon))
  clear hB' HRD hb3
  obtain rfl:D=D2:=Zn.norm_eq hnl.ord hor2 (fun t=>by rw [hnl.has,HD1.out t,hha2 t])
  have HL1:Hid (a2b u10 w1 l2):=HL1
  clear hnl hor2 hha2 HD1 htv htv2
  repeat' ((go_not_at_region 11);(first | (go_at_call 43;((with_reducible refine ((HSP.out _ hb4).mono ?_)));rintro e u11 ⟨⟨r1,rfl,hr1⟩,hB'⟩;have hb5:=hb4.trans (hB'.mono hb4.size);have oza:=a0a oza hB';have ozb:=a0a ozb hB';have HL1:=zA (a1m.below HL1.out hB');have HL2:=zA (a1m.below HL2.out hB');have HS1:=zA (a1m.below HS1.out hB');have HS2:=zA (a1m.below HS2.out hB');dsimp only)|go_skip|go_guarded|go_step|go_upon))
  clear hB' HSP hb4
  repeat' ((go_not_at_region 12);(first | (go_at_call 44;((with_reducible refine ((HSR.out _ hb5).mono ?_)));rintro e u12 ⟨⟨r2,rfl,hr2⟩,hB'⟩;have hb6:=hb5.trans (hB'.mono hb5.size);have oza:=a0a oza hB';have ozb:=a0a ozb hB';have HL1:=zA (a1m.below HL1.out hB');have HL2:=zA (a1m.below HL2.out hB');have HS1:=zA (a1m.below HS1.out hB');have HS2:=zA (a1m.below HS2.out hB');dsimp only)|go_skip|go_guarded|go_step|go_upon))
  clear hB' HSR hb5
  have hrr:r1=r2:=Bool.eq_iff_iff.2 (hr1.trans hr2.symm)
  subst hrr
  clear hr1 hr2
  have HST:=zA (ae8 HL1.out HL2.out (by omega) (by omega))
  have HSS:=zA (fun (Wq:World) (hq:Below u12 u12 Wq)=>spans_calls (a1m.below HS1.out hq) (a1m.below HS2.out hq) (by omega))
  have HDC:=zA (show decide (l2=l2)=true by simp)
  rw [HDC.out] at HST
  have hrb:(r1 == r1)=true:=beq_self_eq_true r1
  repeat' (first | (go_at_call 45;((with_reducible refine (HST.out).mono ?_));rintro e x1 ⟨rfl,hx1⟩;have HSX:=zA (HSS.out x1 hx1);dsimp only) | (go_at_call 46;((with_reducible refine (HSX.out).mono ?_));rintro e x2 ⟨rfl,hx2⟩;have hfin:=hBV.trans ((hb6.trans ((hx1.trans (hx2.mono hx1.size)).mono hb6.size)).mono hBV.size);dsimp only)|go_skip|go_guarded|go_step|go_upon)
  go_ret
  exact ⟨rfl,hfin⟩
 have HCH:=zA (fun (Wq:World) (hq:Below U U Wq)=>acs HO (HZa.out Wq hq) hla.r hla.m f u)
 rw [show Zn.adz a f u=([],1) by unfold Zn.adz;rw [zS (fun h=>hfu h.2.2.2)]] at HCH
 have HRC:=zA (fun (Wq:World) (hq:Below U U Wq)=>rChanges_back (HZa.out Wq hq) hla.r hla.m HMA.out.good (f:=f) (u:=u) (by omega) (by omega) (by omega) (by omega) (by omega))
 have HDF:=zA (fun (Wq:World) (hq:Below U U Wq)=>Diff_back HO (HZa.out Wq hq) hla.r hla.m (HZb.out Wq hq) hlb.r hlb.m (f:=f) (u:=u) (by omega))
 have HRD:=zA (fun (Wq:World) (hq:Below U U Wq)=>rDiff_back (HZa.out Wq hq) hla.r hla.m (HZb.out Wq hq) hlb.r hlb.m HMA.out.good HMB.out.good (f:=f) (u:=u) (by omega) (by omega) (by omega) (by omega) (by omega))
 repeat' ((go_not_at_region 7);(first | (go_at_call 35;((with_reducible refine ((HCH.out _ hb0).mono ?_)));rintro e u7 ⟨⟨w1,rfl,ht1⟩,hB'⟩;have hb1:=hb0.trans (hB'.mono hb0.size);have oza:=a0a oza hB';have ozb:=a0a ozb hB';have HL1:Hid (a2b u7 w1 []):=zA ht1;dsimp only)|go_skip|go_guarded|go_step|go_upon))
 clear hB' HCH hb0
 repeat' ((go_not_at_region 8);(first | (go_at_call 40;((with_reducible refine ((HRC.out _ hb1).mono ?_)));rintro e u8 ⟨rfl,hB'⟩;have hb2:=hb1.trans (hB'.mono hb1.size);have oza:=a0a oza hB';have ozb:=a0a ozb hB';have HL1:=zA (a1m.below HL1.out hB');dsimp only)|go_skip|go_guarded|go_step|go_upon))
 clear hB' HRC hb1
 repeat' ((go_not_at_region 9);(first | (go_at_call 41;((with_reducible refine ((HDF.out _ hb2).mono ?_)));rintro e u9 ⟨rfl,hB'⟩;have hb3:=hb2.trans (hB'.mono hb2.size);have oza:=a0a oza hB';have ozb:=a0a ozb hB';have HL1:=zA (a1m.below HL1.out hB');dsimp only)|go_skip|go_guarded|go_step|go_upon))
 clear hB' HDF hb2
 repeat' ((go_not_at_region 10);(first | (go_at_call 42;((with_reducible refine ((HRD.out _ hb3).mono ?_)));rintro e u10 ⟨rfl,hB'⟩;have hb4:=hb3.trans (hB'.mono hb3.size);have oza:=a0a oza hB';have ozb:=a0a ozb hB';have HL1:Hid (a2b u10 w1 []):=zA (a1m.below HL1.out hB');dsimp only)|go_skip|go_guarded|go_step|go_upon))
 clear hB' HRD hb3
 have HL2:Hid (a2b u10 (.slice none 0 0) []):=zA ⟨none,0,rfl,fun h=>by simp at h⟩
 have HS1:Hid (a2b u10 (.slice none 0 0) []):=zA ⟨none,0,rfl,fun h=>by simp at h⟩
 have HS2:Hid (a2b u10 (.slice none 0 0) []):=zA ⟨none,0,rfl,fun h=>by simp at h⟩
 repeat' ((go_not_at_region 11);(first | (go_at_call 43;((with_reducible refine ((HSP.out _ hb4).mono ?_)));rintro e u11 ⟨⟨r1,rfl,hr1⟩,hB'⟩;have hb5:=hb4.trans (hB'.mono hb4.size);have oza:=a0a oza hB';have ozb:=a0a ozb hB';have HL1:=zA (a1m.below HL1.out hB');have HL2:=zA (a1m.below HL2.out hB');have HS1:=zA (a1m.below HS1.out hB');have HS2:=zA (a1m.below HS2.out hB');dsimp only)|go_skip|go_guarded|go_step|go_upon))
 clear hB' HSP hb4
 repeat' ((go_not_at_region 12);(first | (go_at_call 44;((with_reducible refine ((HSR.out _ hb5).mono ?_)));rintro e u12 ⟨⟨r2,rfl,hr2⟩,hB'⟩;have hb6:=hb5.trans (hB'.mono hb5.size);have oza:=a0a oza hB';have ozb:=a0a ozb hB';have HL1:=zA (a1m.below HL1.out hB');have HL2:=zA (a1m.below HL2.out hB');have HS1:=zA (a1m.below HS1.out hB');have HS2:=zA (a1m.below HS2.out hB');dsimp only)|go_skip|go_guarded|go_step|go_upon))
 clear hB' HSR hb5
 have hrr:r1=r2:=Bool.eq_iff_iff.2 (hr1.trans hr2.symm)
 subst hrr
 clear hr1 hr2
 have HST:=zA (ae8 HL1.out HL2.out (by simp) (by simp))
 have HSS:=zA (fun (Wq:World) (hq:Below u12 u12 Wq)=>spans_calls (a1m.below HS1.out hq) (a1m.below HS2.out hq) (by simp))
 have HDC:=zA (show decide (([]:List Zn.Tr) = [])=true by simp)
 rw [HDC.out] at HST
 have hrb:(r1 == r1)=true:=beq_self_eq_true r1
 repeat' (first | (go_at_call 45;((with_reducible refine (HST.out).mono ?_));rintro e x1 ⟨rfl,hx1⟩;have HSX:=zA (HSS.out x1 hx1);dsimp only) | (go_at_call 46;((with_reducible refine (HSX.out).mono ?_));rintro e x2 ⟨rfl,hx2⟩;have hfin:=hBV.trans ((hb6.trans ((hx1.trans (hx2.mono hx1.size)).mono hb6.size)).mono hBV.size);dsimp only)|go_skip|go_guarded|go_step|go_upon)
 go_ret
 exact ⟨rfl,hfin⟩
end Go.Proofs.YtppjleebbjipbaaGreat
