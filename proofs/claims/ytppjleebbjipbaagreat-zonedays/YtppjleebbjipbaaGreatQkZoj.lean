/-
  kalendsref13.Valid.
-/
import Derived.Test.YtppjleebbjipbaaGreatQkZoi
import Derived.Test.YtppjleebbjipbaaGreatQkGrl
set_option linter.all false
namespace Zn
theorem ahk {z:a0w} (h:aea z):a2s z (ysT z) (a0s z) z.hor 0=a4w (ysT z) (a0s z) z.hor:=by
 have hA:a3w z z.hor = []:=by
  unfold a3w
  rw [List.filter_eq_nil_iff]
  intro y hy
  obtain ⟨q,hq,rfl⟩:=zY.1 hy
  have:=(h.tr q hq).h
  rw [getD_at hq] at this
  simp;omega
 have hmx:a5l z.hor z.hor=z.hor:=by unfold a5l;split<;>rfl
 unfold a2s a4w
 rw [hA,zS (by simp),hmx,xI,Nat.zero_sub,uG]
end Zn
namespace Go.Proofs.YtppjleebbjipbaaGreat
open Go.RowKit Go.Shelf
set_option maxRecDepth 100000
set_option maxHeartbeats 8000000
theorem ae9 {W:World} {z:Zn.a0w} {mv rv tv yv:Value} (hv:a1q W z mv rv tv yv) (hzr:z.cal.rules.length < 9223372036854775808) (hzm:z.cal.a0g.length < 9223372036854775808) :
  Calls Tryz.prog 29 #[.agg #[z.cal.a08,mv,z.cal.a0l,rv,z.start,tv,z.hor,yv]] W fun e w'=>e=.returned (.int .i64 (Zn.a2l z))∧Below W W w':=by
 obtain ⟨ma,mc,rfl,_⟩:=id hv.cal.mon
 have om:=hv.cal.mon.one
 have orr:=hv.cal.rul.one
 have ot:=a1m.one hv.tr
 have oy:=a1m.one hv.yr
 obtain ⟨ta,tc,rfl⟩:=a2b.ajx hv.tr
 obtain ⟨ya,yc,rfl,hyq⟩:=id hv.yr
 have HYQ:=zA hyq
 clear hyq
 have HV0z:=zA hv
 have hon:ones #[z.cal.a08,(.slice ma z.cal.a0g.length mc),z.cal.a0l,rv,z.start,(.slice ta z.trans.length tc),z.hor,(.slice ya z.a0b.length yc)]=true:=a1b om orr ot oy
 have aq5:ones #[z.cal.a08,(.slice ma z.cal.a0g.length mc),z.cal.a0l,rv]=true:=a6t om orr
 have o0:obj (W.alloc (.cells #[z.cal.a08,(.slice ma z.cal.a0g.length mc),z.cal.a0l,rv,z.start,(.slice ta z.trans.length tc),z.hor,(.slice ya z.a0b.length yc)] 35)) W.heap.size=some (.cells #[z.cal.a08,(.slice ma z.cal.a0g.length mc),z.cal.a0l,rv,z.start,(.slice ta z.trans.length tc),z.hor,(.slice ya z.a0b.length yc)] 35 (0,0)):=a05 _ _ _ rfl
 have w0B:Below W W (W.alloc (.cells #[z.cal.a08,(.slice ma z.cal.a0g.length mc),z.cal.a0l,rv,z.start,(.slice ta z.trans.length tc),z.hor,(.slice ya z.a0b.length yc)] 35)):=bR.alloc (zD _) _
 have HV:=zA (hv.below w0B)
 clear hv
 go_enter Tryz.func29,Tryz.ntmps29
 repeat' ((go_not_at_region 1);(first|go_skip|go_guarded|go_step|go_upon))
 generalize hV0:(W.alloc (.cells #[z.cal.a08,(.slice ma z.cal.a0g.length mc),z.cal.a0l,rv,z.start,(.slice ta z.trans.length tc),z.hor,(.slice ya z.a0b.length yc)] 35))=V0 at *
 clear hV0
 have z5:=a02 o0 5
 have HVC:=zA (a3h HV.out.cal hzr hzm)
 unfold a4d at HVC
 have HWS:=zA (fun Wq:World=>a2e (W:=Wq) (n:=z.start) (l:=1080) (by omega) (by omega))
 have HWH:=zA (fun Wq:World=>a2e (W:=Wq) (n:=z.hor) (l:=2251799813685248) (by omega) (by omega))
 by_cases aj8:z.trans.length≤512;rotate_left
 ·have anz:(512:Int) < (z.trans.length:Int):=by omega
  have HR:Hid (Zn.a2l z=2):=zA (by unfold Zn.a2l;rw [zQ (by omega)])
  repeat'(first|go_skip|go_guarded|go_step|go_upon)
  go_ret
  exact ⟨by rw [HR.out];rfl,w0B⟩
 have anz : ¬ (512:Int) < (z.trans.length:Int):=by omega
 have HV1:Hid (¬ Zn.Good z→Zn.a2l z=1):=zA fun h=>by unfold Zn.a2l;rw [zS (by omega),Zn.acg h];rfl
 have HV0:Hid (Zn.Good z→Zn.a2l z=0):=zA fun h=>by unfold Zn.a2l;rw [zS (by omega),Zn.a0v.2 h];rfl
 cases ajy:z.cal.ok
 ·rw [ajy] at HVC
  repeat' (first | (go_at_call 64;((with_reducible refine (HVC.out).mono ?_));rintro e w5 ⟨rfl,hB5⟩;have q0:=a0a o0 hB5;have qB:=w0B.trans (hB5.mono w0B.size);have z4:=a02 q0 4;have z6:=a02 q0 6;have z7:=a02 q0 7;dsimp only)|go_skip|go_guarded|go_step|go_upon)
  go_ret
  exact ⟨by rw [HV1.out (fun h=>by have:=h.a.hd.cal;rw [ajy] at this;cases this)];rfl,qB⟩
 rw [ajy] at HVC
 by_cases hst : -1080≤z.start∧z.start≤1080;rotate_left
 ·rw [zW hst] at HWS
  repeat' (first | (go_at_call 64;((with_reducible refine (HVC.out).mono ?_));rintro e w5 ⟨rfl,hB5⟩;have q0:=a0a o0 hB5;have qB:=w0B.trans (hB5.mono w0B.size);have z4:=a02 q0 4;have z6:=a02 q0 6;have z7:=a02 q0 7;dsimp only) | (go_at_call 57;((with_reducible refine (HWS.out w5).mono ?_));rintro e w6 ⟨rfl,rfl⟩;dsimp only)|go_skip|go_guarded|go_step|go_upon)
  go_ret
  exact ⟨by rw [HV1.out (fun h=>hst ⟨h.a.hd.s0,h.a.hd.s1⟩)];rfl,qB⟩
 rw [zV hst] at HWS
 by_cases hho : -2251799813685248≤z.hor∧z.hor≤2251799813685248;rotate_left
 ·rw [zW hho] at HWH
  repeat' (first | (go_at_call 64;((with_reducible refine (HVC.out).mono ?_));rintro e w5 ⟨rfl,hB5⟩;have q0:=a0a o0 hB5;have qB:=w0B.trans (hB5.mono w0B.size);have z4:=a02 q0 4;have z6:=a02 q0 6;have z7:=a02 q0 7;dsimp only) | (go_at_call 57;((with_reducible refine (HWS.out w5).mono ?_));rintro e w6 ⟨rfl,rfl⟩;dsimp only) | (go_at_call 57;((with_reducible refine (HWH.out w5).mono ?_));rintro e w6 ⟨rfl,rfl⟩;dsimp only)|go_skip|go_guarded|go_step|go_upon)
  go_ret
  exact ⟨by rw [HV1.out (fun h=>hho ⟨h.a.hd.h0,h.a.hd.h1⟩)];rfl,qB⟩
 rw [zV hho] at HWH
 by_cases hyl:z.a0b.length=0∨z.a0b.length=2;rotate_left
 ·have y0:((z.a0b.length:Int) != 0)=true:=wX.2 (by omega)
  have y2:((z.a0b.length:Int) != 2)=true:=wX.2 (by omega)
  have HYN:=zA hyl
  clear hyl
  repeat' (first | (go_at_call 64;((with_reducible refine (HVC.out).mono ?_));rintro e w5 ⟨rfl,hB5⟩;have q0:=a0a o0 hB5;have qB:=w0B.trans (hB5.mono w0B.size);have z4:=a02 q0 4;have z6:=a02 q0 6;have z7:=a02 q0 7;dsimp only) | (go_at_call 57;((with_reducible refine (HWS.out w5).mono ?_));rintro e w6 ⟨rfl,rfl⟩;dsimp only) | (go_at_call 57;((with_reducible refine (HWH.out w5).mono ?_));rintro e w6 ⟨rfl,rfl⟩;dsimp only)|go_skip|go_guarded|go_step|go_upon)
  go_ret
  exact ⟨by rw [HV1.out (fun h=>HYN.out h.a.yl)];rfl,qB⟩
 have ang:=zA hyl
 have HGH:Hid (Zn.al8 z):=zA ⟨aj8,ajy,hst.1,hst.2,hho.1,hho.2⟩
 repeat' ((go_not_at_region 3);(first|go_skip|go_guarded|go_step|go_upon))
 generalize hyv:Value.slice ya z.a0b.length yc=yvv
 have HYV:=zA hyv
 clear hyv
 go_cut [42] from 15 to 43 (fun v42 wx=>v42=.bool false∧Below V0 V0 wx)
 case first =>
  rcases hyl with h | h
  ·have y0:((z.a0b.length:Int) != 0)=false:=by simp [h]
   clear h
   repeat' (first | (go_at_call 64;((with_reducible refine (HVC.out).mono ?_));rintro e w5 ⟨rfl,hB5⟩;have q0:=a0a o0 hB5;have qB:=w0B.trans (hB5.mono w0B.size);have z4:=a02 q0 4;have z6:=a02 q0 6;have z7:=a02 q0 7;dsimp only) | (go_at_call 57;((with_reducible refine (HWS.out w5).mono ?_));rintro e w6 ⟨rfl,rfl⟩;dsimp only) | (go_at_call 57;((with_reducible refine (HWH.out w5).mono ?_));rintro e w6 ⟨rfl,rfl⟩;dsimp only)|go_skip|go_guarded|go_step|go_upon)
   go_meet;exact ⟨rfl,hB5⟩
  have y0:((z.a0b.length:Int) != 0)=true:=wX.2 (by omega)
  have y2:((z.a0b.length:Int) != 2)=false:=by simp [h]
  clear h
  repeat' (first | (go_at_call 64;((with_reducible refine (HVC.out).mono ?_));rintro e w5 ⟨rfl,hB5⟩;have q0:=a0a o0 hB5;have qB:=w0B.trans (hB5.mono w0B.size);have z4:=a02 q0 4;have z6:=a02 q0 6;have z7:=a02 q0 7;dsimp only) | (go_at_call 57;((with_reducible refine (HWS.out w5).mono ?_));rintro e w6 ⟨rfl,rfl⟩;dsimp only) | (go_at_call 57;((with_reducible refine (HWH.out w5).mono ?_));rintro e w6 ⟨rfl,rfl⟩;dsimp only)|go_skip|go_guarded|go_step|go_upon)
  go_meet
  exact ⟨rfl,hB5⟩
 obtain ⟨rfl,hB5⟩:=hcut
 obtain rfl:=HYV.out
 clear HYV
 generalize hwc:wc=w5 at *
 have q0:=a0a o0 hB5
 have qB:=w0B.trans (hB5.mono w0B.size)
 have HV5:=zA (HV.out.below hB5)
 have z55:=a02 q0 5
 clear HVC HWS HWH o0 w0B HV z5 hyl
 repeat'(first|go_skip|go_guarded|go_step|go_upon)
 go_loopw [3] (fun i wr => ∃ k:Nat,k≤z.trans.length∧i=.int .i64 k∧(∀ j,j < k→Zn.a9d z j)∧Below w5 w5 wr) (fun i _=>((z.trans.length:Int) - intOf i).toNat)
 case atStart=>exact ⟨0,by omega,rfl,fun j hj=>absurd hj (yA j),zC _ _⟩
 obtain ⟨k,hk,rfl,htr,hC⟩:=hrel
 have HTR:=zA htr
 clear htr z55
 by_cases hlk:k < z.trans.length
 ·have i1:(k:Int) < (z.trans.length:Int):=by omega
  have c0w:=a0a q0 hC
  have hBw:=qB.trans (hC.mono qB.size)
  have htw:=a1m.below HV5.out.tr hC
  obtain ⟨tb,tof,tc',a5d,TT',tfr,htv,tq1,tq2⟩:=a2b.open htw (by omega)
  obtain ⟨rfl,rfl⟩:ta=some ⟨tb,tof,none⟩∧tc=tc':=by injection htv with a b c;exact ⟨a,c⟩
  obtain ⟨z0,k3⟩:=tq2 k hlk
  have hpre:=fun h=>a0y 0 (tq2 (k - 1) h).2 (by simp)
  have z1:(tof+k * 2+2≤a5d.size)=True:=xN z0
  obtain ⟨x,hx⟩ : ∃ x,z.trans.getD k default=x:=⟨_,rfl⟩
  obtain ⟨y,hy⟩ : ∃ y,z.trans.getD (k - 1) default=y:=⟨_,rfl⟩
  rw [hx] at k3
  have hpre:k - 1 < z.trans.length→a5d[tof+(k - 1) * 2]? = some (.int .i64 y.tm):=fun h=>by rw [← hy];exact hpre h
  have HMK:Hid ((-1080≤x.off∧x.off≤1080)→(-2251799813685248≤x.tm∧x.tm≤2251799813685248)→x.tm < z.hor→(0 < k→2160≤x.tm - y.tm)→Zn.a9d z k):=zA fun h1 h2 h3 h4=>⟨by rw [hx];exact h1.1,by rw [hx];exact h1.2,by rw [hx];exact h2.1,by rw [hx];exact h2.2,by rw [hx];exact h3,by rw [hx,hy];exact h4⟩
  have HIN:Hid (Zn.a9d z k→(-1080≤x.off∧x.off≤1080)∧(-2251799813685248≤x.tm∧x.tm≤2251799813685248)∧x.tm < z.hor∧(0 < k→2160≤x.tm - y.tm)):=zA fun h=>⟨by rw [← hx];exact ⟨h.o0,h.o1⟩,by rw [← hx];exact ⟨h.a0,h.a1⟩,by rw [← hx];exact h.h,by rw [← hx,← hy];exact h.g⟩
  have hyb:0 < k→-2251799813685248≤y.tm∧y.tm≤2251799813685248:=fun h=>by rw [← hy];exact ⟨(HTR.out (k - 1) (by omega)).a0,(HTR.out (k - 1) (by omega)).a1⟩
  have alr:ones #[x.tm,x.off]=true:=by simp [ones,a0n]
  have k6:obj (wr.alloc (.cells #[x.tm,x.off] 57)) wr.heap.size=some (.cells #[x.tm,x.off] 57 (0,0)):=a05 _ _ _ rfl
  have kz:=a06 c0w (.cells #[x.tm,x.off] 57)
  have tw:=a06 tq1 (.cells #[x.tm,x.off] 57)
  have kB:=hBw.alloc hBw.size (.cells #[x.tm,x.off] 57)
  have z5w:=a02 c0w 5
  clear hx hy htv tq2 z0 htw
  repeat' ((go_not_at_region 9);(first|go_skip|go_guarded|go_step|go_upon))
  clear z1 k3 z5w
  have lk:=a09 k6
  have lz:=a09 kz
  have lt:=a09 tw
  generalize hrbe:wr.heap.size=rb at *
  by_cases ha : -1080≤x.off∧x.off≤1080;rotate_left
  ·have HW1:=zA (fun Wq:World=>a2e (W:=Wq) (n:=x.off) (l:=1080) (by omega) (by omega))
   rw [zW ha] at HW1
   have HBAD:Hid (¬ Zn.a9d z k):=zA fun h=>ha (HIN.out h).1
   clear ha HMK HIN
   refine a0k 34 [([],fun v _=>v=.pointer (some ⟨rb,1,none⟩)),([0],fun v _=>v=.int .i64 x.off),([1],fun v _=>v=.bool false),([2],fun v _=>v=.bool true),([3,2],fun v _=>v=.bool true),([4],fun v _=>v=undef),([5,4],fun v _=>v=undef),([6,4],fun v _=>v=undef),([7,4],fun v _=>v=undef),([4,8],fun v _=>v=.bool true),([9,7],fun v _=>v=.bool true),([10],fun v _=>v=undef),([11,10],fun v _=>v=undef),([10],fun v _=>v=undef),([13,10],fun v _=>v=undef),([12,14,10],fun v _=>v=undef),([10,15],fun v _=>v=.bool true),([16,10],fun v _=>v=.bool true),([17],fun v _=>v=undef),([18,17],fun v _=>v=undef),([19,17],fun v _=>v=undef),([20],fun v _=>v=undef),([21,20],fun v _=>v=undef),([20],fun v _=>v=undef),([23,20],fun v _=>v=undef),([20],fun v _=>v=undef),([25,20],fun v _=>v=undef),([24,26,20],fun v _=>v=undef),([27,20],fun v _=>v=undef),([28,20],fun v _=>v=undef),([22,29,20],fun v _=>v=undef),([30,20],fun v _=>v=undef),([20,31,17],fun v _=>v=undef),
     ([17,32],fun v _=>v=.bool true)] (by kernel_rfl) (by kernel_rfl) (by kernel_rfl) ?st ?ob ?_
   case st => intro k v W1 W2 h hb;rcases k with _|_|_|_|_|_|_|_|_|_|_|_|_|_|_|_|_|_|_|_|_|_|_|_|_|_|_|_|_|_|_|_|_|_|k<;>first | exact h | trivial
   case ob => and_intros<;>first|exact ⟨⟩|(intro vs Wq hW hk;(have q0:=a02 (a04 k6 hW lk) 1);(try simp only [knows,Spec.at',↓zH,↓zG,yL] at hk);simp only [Spec.at',↓zH,↓zG,a00,a03,yy0,yy1,yy2,yy3];(try simp only [hk]);first | (refine wpList_skip rfl ?_;refine wpList_nil ?_;exact a01 undef rfl (by go_simp) bR rfl) | ((repeat'(first|go_skip|go_guarded|go_step|go_upon));exact a01 _ rfl (by go_simp) bR rfl) | ((have HX:=zA (HW1.out Wq));(repeat' (first | (go_at_call 57;((with_reducible refine (HX.out).mono ?_));rintro e w9 ⟨rfl,rfl⟩;dsimp only)|go_skip|go_guarded|go_step|go_upon));exact a01 _ rfl (by go_simp) bR rfl) | fail)
   intro vs W2 hW2 hk;have v33:vs 33=.bool true:=hk 33 (by decide);clear hk;dsimp only [a1d,List.take,List.drop];simp only [Act.put,zF,zI,zJ];rw [v33];generalize vs 0=p0,vs 1=p1,vs 2=p2,vs 3=p3,vs 4=p4,vs 5=p5,vs 6=p6,vs 7=p7,vs 8=p8,vs 9=p9,vs 10=p10,vs 11=p11,vs 12=p12,vs 13=p13,vs 14=p14,vs 15=p15,vs 16=p16,vs 17=p17,vs 18=p18,vs 19=p19,vs 20=p20,vs 21=p21,vs 22=p22,vs 23=p23,vs 24=p24,vs 25=p25,vs 26=p26,vs 27=p27,vs 28=p28,vs 29=p29,vs 30=p30,vs 31=p31,vs 32=p32;clear v33;have dB:=kB.trans (hW2.mono kB.size);(repeat'(first|go_skip|go_guarded|go_step|go_upon));go_ret;exact ⟨by rw [HV1.out (fun h=>HBAD.out (h.a.tr k hlk))];rfl,dB⟩
  have HW1:=zA (fun Wq:World=>a2e (W:=Wq) (n:=x.off) (l:=1080) (by omega) (by omega))
  rw [zV ha] at HW1
  by_cases hb : -2251799813685248≤x.tm∧x.tm≤2251799813685248;rotate_left
  ·have HW2:=zA (fun Wq:World=>a2e (W:=Wq) (n:=x.tm) (l:=2251799813685248) (by omega) (by omega))
   rw [zW hb] at HW2
   have HBAD:Hid (¬ Zn.a9d z k):=zA fun h=>hb (HIN.out h).2.1
   clear ha hb HMK HIN
   refine a0k 34 [([],fun v _=>v=.pointer (some ⟨rb,1,none⟩)),([0],fun v _=>v=.int .i64 x.off),([1],fun v _=>v=.bool true),([2],fun v _=>v=.bool false),([3,2],fun v _=>v=.bool false),([4],fun v _=>v=.pointer (some ⟨rb,0,none⟩)),([5,4],fun v _=>v=.int .i64 x.tm),([6,4],fun v _=>v=.bool false),([7,4],fun v _=>v=.bool true),([4,8],fun v _=>v=.bool true),([9,7],fun v _=>v=.bool true),([10],fun v _=>v=undef),([11,10],fun v _=>v=undef),([10],fun v _=>v=undef),([13,10],fun v _=>v=undef),([12,14,10],fun v _=>v=undef),([10,15],fun v _=>v=.bool true),([16,10],fun v _=>v=.bool true),([17],fun v _=>v=undef),([18,17],fun v _=>v=undef),([19,17],fun v _=>v=undef),([20],fun v _=>v=undef),([21,20],fun v _=>v=undef),([20],fun v _=>v=undef),([23,20],fun v _=>v=undef),([20],fun v _=>v=undef),([25,20],fun v _=>v=undef),([24,26,20],fun v _=>v=undef),([27,20],fun v _=>v=undef),([28,20],fun v _=>v=undef),([22,29,20],fun v _=>v=undef),([30,20],fun v _=>v=undef),([20,31,17],fun v _=>v=undef),
     ([17,32],fun v _=>v=.bool true)] (by kernel_rfl) (by kernel_rfl) (by kernel_rfl) ?st ?ob ?_
   case st => intro k v W1 W2 h hb;rcases k with _|_|_|_|_|_|_|_|_|_|_|_|_|_|_|_|_|_|_|_|_|_|_|_|_|_|_|_|_|_|_|_|_|_|k<;>first | exact h | trivial
   case ob => and_intros<;>first|exact ⟨⟩|(intro vs Wq hW hk;(have q0:=a02 (a04 k6 hW lk) 1);(have q1:=a02 (a04 k6 hW lk) 0);(try simp only [knows,Spec.at',↓zH,↓zG,yL] at hk);simp only [Spec.at',↓zH,↓zG,a00,a03,yy0,yy1,yy2,yy3];(try simp only [hk]);first | (refine wpList_skip rfl ?_;refine wpList_nil ?_;exact a01 undef rfl (by go_simp) bR rfl) | ((repeat'(first|go_skip|go_guarded|go_step|go_upon));exact a01 _ rfl (by go_simp) bR rfl) | ((have HX:=zA (HW1.out Wq));(repeat' (first | (go_at_call 57;((with_reducible refine (HX.out).mono ?_));rintro e w9 ⟨rfl,rfl⟩;dsimp only)|go_skip|go_guarded|go_step|go_upon));exact a01 _ rfl (by go_simp) bR rfl) | ((have HX:=zA (HW2.out Wq));(repeat' (first | (go_at_call 57;((with_reducible refine (HX.out).mono ?_));rintro e w9 ⟨rfl,rfl⟩;dsimp only)|go_skip|go_guarded|go_step|go_upon));exact a01 _ rfl (by go_simp) bR rfl) | fail)
   intro vs W2 hW2 hk;have v33:vs 33=.bool true:=hk 33 (by decide);clear hk;dsimp only [a1d,List.take,List.drop];simp only [Act.put,zF,zI,zJ];rw [v33];generalize vs 0=p0,vs 1=p1,vs 2=p2,vs 3=p3,vs 4=p4,vs 5=p5,vs 6=p6,vs 7=p7,vs 8=p8,vs 9=p9,vs 10=p10,vs 11=p11,vs 12=p12,vs 13=p13,vs 14=p14,vs 15=p15,vs 16=p16,vs 17=p17,vs 18=p18,vs 19=p19,vs 20=p20,vs 21=p21,vs 22=p22,vs 23=p23,vs 24=p24,vs 25=p25,vs 26=p26,vs 27=p27,vs 28=p28,vs 29=p29,vs 30=p30,vs 31=p31,vs 32=p32;clear v33;have dB:=kB.trans (hW2.mono kB.size);(repeat'(first|go_skip|go_guarded|go_step|go_upon));go_ret;exact ⟨by rw [HV1.out (fun h=>HBAD.out (h.a.tr k hlk))];rfl,dB⟩
  have HW2:=zA (fun Wq:World=>a2e (W:=Wq) (n:=x.tm) (l:=2251799813685248) (by omega) (by omega))
  rw [zV hb] at HW2
  by_cases hc:x.tm < z.hor;rotate_left
  ·have hc':z.hor≤x.tm:=by omega
   have HBAD:Hid (¬ Zn.a9d z k):=zA fun h=>hc (HIN.out h).2.2.1
   clear ha hb hc HMK HIN
   refine a0k 34 [([],fun v _=>v=.pointer (some ⟨rb,1,none⟩)),([0],fun v _=>v=.int .i64 x.off),([1],fun v _=>v=.bool true),([2],fun v _=>v=.bool false),([3,2],fun v _=>v=.bool false),([4],fun v _=>v=.pointer (some ⟨rb,0,none⟩)),([5,4],fun v _=>v=.int .i64 x.tm),([6,4],fun v _=>v=.bool true),([7,4],fun v _=>v=.bool false),([4,8],fun v _=>v=.bool false),([9,7],fun v _=>v=.bool false),([10],fun v _=>v=.pointer (some ⟨rb,0,none⟩)),([11,10],fun v _=>v=.int .i64 x.tm),([10],fun v _=>v=.pointer (some ⟨W.heap.size,6,none⟩)),([13,10],fun v _=>v=.int .i64 z.hor),([12,14,10],fun v _=>v=.bool true),([10,15],fun v _=>v=.bool true),([16,10],fun v _=>v=.bool true),([17],fun v _=>v=undef),([18,17],fun v _=>v=undef),([19,17],fun v _=>v=undef),([20],fun v _=>v=undef),([21,20],fun v _=>v=undef),([20],fun v _=>v=undef),([23,20],fun v _=>v=undef),([20],fun v _=>v=undef),([25,20],fun v _=>v=undef),([24,26,20],fun v _=>v=undef),([27,20],fun v _=>v=undef),([28,20],fun v _=>v=undef),([22,29,20],fun v _=>v=undef),([30,20],fun v _=>v=undef),([20,31,17],fun v _=>v=undef),
     ([17,32],fun v _=>v=.bool true)] (by kernel_rfl) (by kernel_rfl) (by kernel_rfl) ?st ?ob ?_
   case st => intro k v W1 W2 h hb;rcases k with _|_|_|_|_|_|_|_|_|_|_|_|_|_|_|_|_|_|_|_|_|_|_|_|_|_|_|_|_|_|_|_|_|_|k<;>first | exact h | trivial
   case ob => and_intros<;>first|exact ⟨⟩|(intro vs Wq hW hk;(have q0:=a02 (a04 k6 hW lk) 1);(have q1:=a02 (a04 k6 hW lk) 0);(have q2:=a02 (a04 kz hW lz) 6);(try simp only [knows,Spec.at',↓zH,↓zG,yL] at hk);simp only [Spec.at',↓zH,↓zG,a00,a03,yy0,yy1,yy2,yy3];(try simp only [hk]);first | (refine wpList_skip rfl ?_;refine wpList_nil ?_;exact a01 undef rfl (by go_simp) bR rfl) | ((repeat'(first|go_skip|go_guarded|go_step|go_upon));exact a01 _ rfl (by go_simp) bR rfl) | ((have HX:=zA (HW1.out Wq));(repeat' (first | (go_at_call 57;((with_reducible refine (HX.out).mono ?_));rintro e w9 ⟨rfl,rfl⟩;dsimp only)|go_skip|go_guarded|go_step|go_upon));exact a01 _ rfl (by go_simp) bR rfl) | ((have HX:=zA (HW2.out Wq));(repeat' (first | (go_at_call 57;((with_reducible refine (HX.out).mono ?_));rintro e w9 ⟨rfl,rfl⟩;dsimp only)|go_skip|go_guarded|go_step|go_upon));exact a01 _ rfl (by go_simp) bR rfl) | fail)
   intro vs W2 hW2 hk;have v33:vs 33=.bool true:=hk 33 (by decide);clear hk;dsimp only [a1d,List.take,List.drop];simp only [Act.put,zF,zI,zJ];rw [v33];generalize vs 0=p0,vs 1=p1,vs 2=p2,vs 3=p3,vs 4=p4,vs 5=p5,vs 6=p6,vs 7=p7,vs 8=p8,vs 9=p9,vs 10=p10,vs 11=p11,vs 12=p12,vs 13=p13,vs 14=p14,vs 15=p15,vs 16=p16,vs 17=p17,vs 18=p18,vs 19=p19,vs 20=p20,vs 21=p21,vs 22=p22,vs 23=p23,vs 24=p24,vs 25=p25,vs 26=p26,vs 27=p27,vs 28=p28,vs 29=p29,vs 30=p30,vs 31=p31,vs 32=p32;clear v33;have dB:=kB.trans (hW2.mono kB.size);(repeat'(first|go_skip|go_guarded|go_step|go_upon));go_ret;exact ⟨by rw [HV1.out (fun h=>HBAD.out (h.a.tr k hlk))];rfl,dB⟩
  have hc' : ¬ z.hor≤x.tm:=by omega
  by_cases hk0:k=0
  ·have HOK:Hid (Zn.a9d z k):=zA (HMK.out ha hb hc (fun h=>by omega))
   (have i0 : ¬ 0 < k:=by omega);clear hk0;clear ha hb hc HMK HIN
   refine a0k 34 [([],fun v _=>v=.pointer (some ⟨rb,1,none⟩)),([0],fun v _=>v=.int .i64 x.off),([1],fun v _=>v=.bool true),([2],fun v _=>v=.bool false),([3,2],fun v _=>v=.bool false),([4],fun v _=>v=.pointer (some ⟨rb,0,none⟩)),([5,4],fun v _=>v=.int .i64 x.tm),([6,4],fun v _=>v=.bool true),([7,4],fun v _=>v=.bool false),([4,8],fun v _=>v=.bool false),([9,7],fun v _=>v=.bool false),([10],fun v _=>v=.pointer (some ⟨rb,0,none⟩)),([11,10],fun v _=>v=.int .i64 x.tm),([10],fun v _=>v=.pointer (some ⟨W.heap.size,6,none⟩)),([13,10],fun v _=>v=.int .i64 z.hor),([12,14,10],fun v _=>v=.bool false),([10,15],fun v _=>v=.bool false),([16,10],fun v _=>v=.bool false),([17],fun v _=>v=.int .i64 (k:Nat)),([18,17],fun v _=>v=.bool false),([19,17],fun v _=>v=.bool false),([20],fun v _=>v=undef),([21,20],fun v _=>v=undef),([20],fun v _=>v=undef),([23,20],fun v _=>v=undef),([20],fun v _=>v=undef),([25,20],fun v _=>v=undef),([24,26,20],fun v _=>v=undef),([27,20],fun v _=>v=undef),([28,20],fun v _=>v=undef),([22,29,20],fun v _=>v=undef),([30,20],fun v _=>v=undef),([20,31,17],fun v _=>v=.bool false),
     ([17,32],fun v _=>v=.bool false)] (by kernel_rfl) (by kernel_rfl) (by kernel_rfl) ?st ?ob ?_
   case st => intro k v W1 W2 h hb;rcases k with _|_|_|_|_|_|_|_|_|_|_|_|_|_|_|_|_|_|_|_|_|_|_|_|_|_|_|_|_|_|_|_|_|_|k<;>first | exact h | trivial
   case ob => and_intros<;>first|exact ⟨⟩|(intro vs Wq hW hk;(have q0:=a02 (a04 k6 hW lk) 1);(have q1:=a02 (a04 k6 hW lk) 0);(have q2:=a02 (a04 kz hW lz) 6);(try simp only [knows,Spec.at',↓zH,↓zG,yL] at hk);simp only [Spec.at',↓zH,↓zG,a00,a03,yy0,yy1,yy2,yy3];(try simp only [hk]);first | ((repeat'(first|go_skip|go_guarded|go_step|go_upon));exact a01 _ rfl (by go_simp) bR rfl) | ((have HX:=zA (HW1.out Wq));(repeat' (first | (go_at_call 57;((with_reducible refine (HX.out).mono ?_));rintro e w9 ⟨rfl,rfl⟩;dsimp only)|go_skip|go_guarded|go_step|go_upon));exact a01 _ rfl (by go_simp) bR rfl) | ((have HX:=zA (HW2.out Wq));(repeat' (first | (go_at_call 57;((with_reducible refine (HX.out).mono ?_));rintro e w9 ⟨rfl,rfl⟩;dsimp only)|go_skip|go_guarded|go_step|go_upon));exact a01 _ rfl (by go_simp) bR rfl) | fail)
   intro vs W2 hW2 hk;have v33:vs 33=.bool false:=hk 33 (by decide);clear hk;dsimp only [a1d,List.take,List.drop];simp only [Act.put,zF,zI,zJ];rw [v33];generalize vs 0=p0,vs 1=p1,vs 2=p2,vs 3=p3,vs 4=p4,vs 5=p5,vs 6=p6,vs 7=p7,vs 8=p8,vs 9=p9,vs 10=p10,vs 11=p11,vs 12=p12,vs 13=p13,vs 14=p14,vs 15=p15,vs 16=p16,vs 17=p17,vs 18=p18,vs 19=p19,vs 20=p20,vs 21=p21,vs 22=p22,vs 23=p23,vs 24=p24,vs 25=p25,vs 26=p26,vs 27=p27,vs 28=p28,vs 29=p29,vs 30=p30,vs 31=p31,vs 32=p32;clear v33;have dB:=hC.trans ((bR.alloc (zD _) _).trans (hW2.mono (by simp)) |>.mono hC.size);(repeat'(first|go_skip|go_guarded|go_step|go_upon));exact ⟨⟨k+1,by omega,by go_num,fun j hj=>(zU j k).elim (fun h=>HTR.out j h) (fun h=>by rw [show j=k by omega];exact HOK.out),dB⟩,by simp [intOf];omega⟩
  have i0:0 < k:=by omega
  have ey0:=hpre (by omega)
  have hyb:=hyb (by omega)
  have wk1:IntKind.wrap .i64 ((k:Int) - 1)=((k - 1:Nat):Int):=by rw [wrap_in]<;>omega
  have wxy:=zWI (x.tm - y.tm)
  have i2:k - 1 < z.trans.length:=by omega
  have i3 : ¬ ((k - 1:Nat):Int) < 0:=by omega
  by_cases hg:x.tm - y.tm < 2160
  ·have HBAD:Hid (¬ Zn.a9d z k):=zA fun h=>by have:=(HIN.out h).2.2.2 (by omega);omega
   clear ha hb hc HMK HIN
   refine a0k 34 [([],fun v _=>v=.pointer (some ⟨rb,1,none⟩)),([0],fun v _=>v=.int .i64 x.off),([1],fun v _=>v=.bool true),([2],fun v _=>v=.bool false),([3,2],fun v _=>v=.bool false),([4],fun v _=>v=.pointer (some ⟨rb,0,none⟩)),([5,4],fun v _=>v=.int .i64 x.tm),([6,4],fun v _=>v=.bool true),([7,4],fun v _=>v=.bool false),([4,8],fun v _=>v=.bool false),([9,7],fun v _=>v=.bool false),([10],fun v _=>v=.pointer (some ⟨rb,0,none⟩)),([11,10],fun v _=>v=.int .i64 x.tm),([10],fun v _=>v=.pointer (some ⟨W.heap.size,6,none⟩)),([13,10],fun v _=>v=.int .i64 z.hor),([12,14,10],fun v _=>v=.bool false),([10,15],fun v _=>v=.bool false),([16,10],fun v _=>v=.bool false),([17],fun v _=>v=.int .i64 (k:Nat)),([18,17],fun v _=>v=.bool true),([19,17],fun v _=>v=.bool true),([20],fun v _=>v=.pointer (some ⟨rb,0,none⟩)),([21,20],fun v _=>v=.int .i64 x.tm),([20],fun v _=>v=.pointer (some ⟨W.heap.size,5,none⟩)),([23,20],fun v _=>v=.slice (some ⟨tb,tof,none⟩) z.trans.length tc),([20],fun v _=>v=.int .i64 (k:Nat)),([25,20],fun v _=>v=.int .i64 ((k - 1:Nat):Int)),([24,26,20],fun v _=>v=.pointer (some ⟨tb,tof+(k - 1) * 2,none⟩)),([27,20],fun v _=>v=.pointer (some ⟨tb,tof+(k - 1) * 2,none⟩)),([28,20],fun v _=>v=.int .i64 y.tm),([22,29,20],fun v _=>v=.int .i64 (x.tm - y.tm)),([30,20],fun v _=>v=.bool true),([20,31,17],fun v _=>v=.bool true),
      ([17,32],fun v _=>v=.bool true)] (by kernel_rfl) (by kernel_rfl) (by kernel_rfl) ?st ?ob ?_
   case st => intro k v W1 W2 h hb;rcases k with _|_|_|_|_|_|_|_|_|_|_|_|_|_|_|_|_|_|_|_|_|_|_|_|_|_|_|_|_|_|_|_|_|_|k<;>first | exact h | trivial
   case ob => and_intros<;>first|exact ⟨⟩|(intro vs Wq hW hk;(have q0:=a02 (a04 k6 hW lk) 1);(have q1:=a02 (a04 k6 hW lk) 0);(have q2:=a02 (a04 kz hW lz) 6);(have q3:=a02 (a04 kz hW lz) 5);(have q4:=(a02 (a04 tw hW lt) (tof+(k - 1) * 2)).trans ey0);(try simp only [knows,Spec.at',↓zH,↓zG,yL] at hk);simp only [Spec.at',↓zH,↓zG,a00,a03,yy0,yy1,yy2,yy3];(try simp only [hk]);first | ((repeat'(first|go_skip|go_guarded|go_step|go_upon));exact a01 _ rfl (by go_simp) bR rfl) | ((have HX:=zA (HW1.out Wq));(repeat' (first | (go_at_call 57;((with_reducible refine (HX.out).mono ?_));rintro e w9 ⟨rfl,rfl⟩;dsimp only)|go_skip|go_guarded|go_step|go_upon));exact a01 _ rfl (by go_simp) bR rfl) | ((have HX:=zA (HW2.out Wq));(repeat' (first | (go_at_call 57;((with_reducible refine (HX.out).mono ?_));rintro e w9 ⟨rfl,rfl⟩;dsimp only)|go_skip|go_guarded|go_step|go_upon));exact a01 _ rfl (by go_simp) bR rfl) | fail)
   intro vs W2 hW2 hk;have v33:vs 33=.bool true:=hk 33 (by decide);clear hk;dsimp only [a1d,List.take,List.drop];simp only [Act.put,zF,zI,zJ];rw [v33];generalize vs 0=p0,vs 1=p1,vs 2=p2,vs 3=p3,vs 4=p4,vs 5=p5,vs 6=p6,vs 7=p7,vs 8=p8,vs 9=p9,vs 10=p10,vs 11=p11,vs 12=p12,vs 13=p13,vs 14=p14,vs 15=p15,vs 16=p16,vs 17=p17,vs 18=p18,vs 19=p19,vs 20=p20,vs 21=p21,vs 22=p22,vs 23=p23,vs 24=p24,vs 25=p25,vs 26=p26,vs 27=p27,vs 28=p28,vs 29=p29,vs 30=p30,vs 31=p31,vs 32=p32;clear v33;have dB:=kB.trans (hW2.mono kB.size);(repeat'(first|go_skip|go_guarded|go_step|go_upon));go_ret;exact ⟨by rw [HV1.out (fun h=>HBAD.out (h.a.tr k hlk))];rfl,dB⟩
  have HOK:Hid (Zn.a9d z k):=zA (HMK.out ha hb hc (fun h=>by omega))
  clear ha hb hc HMK HIN
  refine a0k 34 [([],fun v _=>v=.pointer (some ⟨rb,1,none⟩)),([0],fun v _=>v=.int .i64 x.off),([1],fun v _=>v=.bool true),([2],fun v _=>v=.bool false),([3,2],fun v _=>v=.bool false),([4],fun v _=>v=.pointer (some ⟨rb,0,none⟩)),([5,4],fun v _=>v=.int .i64 x.tm),([6,4],fun v _=>v=.bool true),([7,4],fun v _=>v=.bool false),([4,8],fun v _=>v=.bool false),([9,7],fun v _=>v=.bool false),([10],fun v _=>v=.pointer (some ⟨rb,0,none⟩)),([11,10],fun v _=>v=.int .i64 x.tm),([10],fun v _=>v=.pointer (some ⟨W.heap.size,6,none⟩)),([13,10],fun v _=>v=.int .i64 z.hor),([12,14,10],fun v _=>v=.bool false),([10,15],fun v _=>v=.bool false),([16,10],fun v _=>v=.bool false),([17],fun v _=>v=.int .i64 (k:Nat)),([18,17],fun v _=>v=.bool true),([19,17],fun v _=>v=.bool true),([20],fun v _=>v=.pointer (some ⟨rb,0,none⟩)),([21,20],fun v _=>v=.int .i64 x.tm),([20],fun v _=>v=.pointer (some ⟨W.heap.size,5,none⟩)),([23,20],fun v _=>v=.slice (some ⟨tb,tof,none⟩) z.trans.length tc),([20],fun v _=>v=.int .i64 (k:Nat)),([25,20],fun v _=>v=.int .i64 ((k - 1:Nat):Int)),([24,26,20],fun v _=>v=.pointer (some ⟨tb,tof+(k - 1) * 2,none⟩)),([27,20],fun v _=>v=.pointer (some ⟨tb,tof+(k - 1) * 2,none⟩)),([28,20],fun v _=>v=.int .i64 y.tm),([22,29,20],fun v _=>v=.int .i64 (x.tm - y.tm)),([30,20],fun v _=>v=.bool false),([20,31,17],fun v _=>v=.bool false),
     ([17,32],fun v _=>v=.bool false)] (by kernel_rfl) (by kernel_rfl) (by kernel_rfl) ?st ?ob ?_
  case st => intro k v W1 W2 h hb;rcases k with _|_|_|_|_|_|_|_|_|_|_|_|_|_|_|_|_|_|_|_|_|_|_|_|_|_|_|_|_|_|_|_|_|_|k<;>first | exact h | trivial
  case ob => and_intros<;>first|exact ⟨⟩|(intro vs Wq hW hk;(have q0:=a02 (a04 k6 hW lk) 1);(have q1:=a02 (a04 k6 hW lk) 0);(have q2:=a02 (a04 kz hW lz) 6);(have q3:=a02 (a04 kz hW lz) 5);(have q4:=(a02 (a04 tw hW lt) (tof+(k - 1) * 2)).trans ey0);(try simp only [knows,Spec.at',↓zH,↓zG,yL] at hk);simp only [Spec.at',↓zH,↓zG,a00,a03,yy0,yy1,yy2,yy3];(try simp only [hk]);first | ((repeat'(first|go_skip|go_guarded|go_step|go_upon));exact a01 _ rfl (by go_simp) bR rfl) | ((have HX:=zA (HW1.out Wq));(repeat' (first | (go_at_call 57;((with_reducible refine (HX.out).mono ?_));rintro e w9 ⟨rfl,rfl⟩;dsimp only)|go_skip|go_guarded|go_step|go_upon));exact a01 _ rfl (by go_simp) bR rfl) | ((have HX:=zA (HW2.out Wq));(repeat' (first | (go_at_call 57;((with_reducible refine (HX.out).mono ?_));rintro e w9 ⟨rfl,rfl⟩;dsimp only)|go_skip|go_guarded|go_step|go_upon));exact a01 _ rfl (by go_simp) bR rfl) | fail)
  intro vs W2 hW2 hk;have v33:vs 33=.bool false:=hk 33 (by decide);clear hk;dsimp only [a1d,List.take,List.drop];simp only [Act.put,zF,zI,zJ];rw [v33];generalize vs 0=p0,vs 1=p1,vs 2=p2,vs 3=p3,vs 4=p4,vs 5=p5,vs 6=p6,vs 7=p7,vs 8=p8,vs 9=p9,vs 10=p10,vs 11=p11,vs 12=p12,vs 13=p13,vs 14=p14,vs 15=p15,vs 16=p16,vs 17=p17,vs 18=p18,vs 19=p19,vs 20=p20,vs 21=p21,vs 22=p22,vs 23=p23,vs 24=p24,vs 25=p25,vs 26=p26,vs 27=p27,vs 28=p28,vs 29=p29,vs 30=p30,vs 31=p31,vs 32=p32;clear v33;have dB:=hC.trans ((bR.alloc (zD _) _).trans (hW2.mono (by simp)) |>.mono hC.size);(repeat'(first|go_skip|go_guarded|go_step|go_upon));exact ⟨⟨k+1,by omega,by go_num,fun j hj=>(zU j k).elim (fun h=>HTR.out j h) (fun h=>by rw [show j=k by omega];exact HOK.out),dB⟩,by simp [intOf];omega⟩
 have i1 : ¬ (
        k:Int) < (z.trans.length:Int):=by omega
 obtain rfl:k=z.trans.length:=by omega
 have c0:=a0a q0 hC
 have z5c:=a02 c0 5
 have hB:=qB.trans (hC.mono qB.size)
 have HVW:=zA (HV5.out.below hC)
 have apt:Hid (∀ i,i < z.trans.length→Zn.a9d z i):=zA HTR.out
 clear q0 qB hC HV5 HTR
 generalize hww:wr=w at *
 repeat'(first|go_skip|go_guarded|go_step|go_upon)
 go_loopw [5] (fun i wr2 => ∃ k:Nat,k≤z.a0b.length∧i=.int .i64 k∧(∀ j,j < k→Zn.YR.Ok z.cal (z.a0b.getD j default))∧Below w w wr2) (fun i _=>((z.a0b.length:Int) - intOf i).toNat)
 case atStart=>exact ⟨0,by omega,rfl,fun j hj=>absurd hj (yA j),zC _ _⟩
 obtain ⟨k,hk,rfl,hyr,hC⟩:=hrel
 have hyl2:z.a0b.length≤2:=by have:=ang.out;omega
 have c0w:=a0a c0 hC
 have z7:=a02 c0w 7
 by_cases hlk:k < z.a0b.length
 ·have i1:(k:Int) < (z.a0b.length:Int):=by omega
  have HYR:=zA hyr
  have hBw:=hB.trans (hC.mono hB.size)
  obtain ⟨yb,yo,a8k,YT',yfr,rfl,q1,q2⟩:=HYQ.out (by omega)
  obtain ⟨z0,k3a⟩:=q2 k hlk
  have z1:(yo+k * 5+5≤a8k.size)=True:=xN z0
  have hyb:=a04 q1 hBw (a09 q1)
  obtain ⟨r,hr⟩ : ∃ r,z.a0b.getD k default=r:=⟨_,rfl⟩
  have HRR:=zA hr
  have k3:a8k.extract (yo+k * 5) (yo+k * 5+5)=#[.int .i64 r.mon,.int .i64 r.wk,.int .i64 r.wd,.int .i64 r.mn,.int .i64 r.off]:=by
   rw [← hr];exact k3a
  clear k3a
  have aq4:ones #[r.mon,r.wk,r.wd,r.mn,r.off]=true:=by simp [ones,a0n]
  have k6:obj (wr.alloc (.cells #[r.mon,r.wk,r.wd,r.mn,r.off] 84)) wr.heap.size=some (.cells #[r.mon,r.wk,r.wd,r.mn,r.off] 84 (0,0)):=a05 _ _ _ rfl
  have kz:=a06 c0w (.cells #[r.mon,r.wk,r.wd,r.mn,r.off] 84)
  have kB:=hBw.alloc hBw.size (.cells #[r.mon,r.wk,r.wd,r.mn,r.off] 84)
  have r0:=a02 k6 0
  have r1:=a02 k6 1
  have r2:=a02 k6 2
  have r3:=a02 k6 3
  have r4:=a02 k6 4
  have zm:=a02 kz 1
  clear hr q2 z0 hyr q1
  have HW1:=zA (fun Wq:World=>a2e (W:=Wq) (n:=r.off) (l:=1080) (by omega) (by omega))
  by_cases ha : -1080≤r.off∧r.off≤1080
  ·rw [zV ha] at HW1
   by_cases t0:r.mon < 1
   ·have HBAD:Hid (¬ Zn.YR.Ok z.cal (z.a0b.getD k default)):=zA fun h=>by rw [HRR.out] at h;have h0:=h.m0;have h1:=h.m1;have h2:=h.k0;have h3:=h.k1;have h4:=h.d0;have h5:=h.d1;have h6:=h.n0;have h7:=h.n1;omega
    repeat' (first | (go_at_call 57;((with_reducible refine (HW1.out _).mono ?_));rintro e w9 ⟨rfl,rfl⟩;dsimp only)|go_skip|go_guarded|go_step|go_upon)
    go_ret;exact ⟨by rw [HV1.out (fun h=>HBAD.out (h.a.yr k hlk))];rfl,kB⟩
   ·by_cases t1:(z.cal.a0g.length:Int) < r.mon
    ·have HBAD:Hid (¬ Zn.YR.Ok z.cal (z.a0b.getD k default)):=zA fun h=>by rw [HRR.out] at h;have h0:=h.m0;have h1:=h.m1;have h2:=h.k0;have h3:=h.k1;have h4:=h.d0;have h5:=h.d1;have h6:=h.n0;have h7:=h.n1;omega
     repeat' (first | (go_at_call 57;((with_reducible refine (HW1.out _).mono ?_));rintro e w9 ⟨rfl,rfl⟩;dsimp only)|go_skip|go_guarded|go_step|go_upon)
     go_ret;exact ⟨by rw [HV1.out (fun h=>HBAD.out (h.a.yr k hlk))];rfl,kB⟩
    ·by_cases t2:r.wk < 1
     ·have HBAD:Hid (¬ Zn.YR.Ok z.cal (z.a0b.getD k default)):=zA fun h=>by rw [HRR.out] at h;have h0:=h.m0;have h1:=h.m1;have h2:=h.k0;have h3:=h.k1;have h4:=h.d0;have h5:=h.d1;have h6:=h.n0;have h7:=h.n1;omega
      repeat' (first | (go_at_call 57;((with_reducible refine (HW1.out _).mono ?_));rintro e w9 ⟨rfl,rfl⟩;dsimp only)|go_skip|go_guarded|go_step|go_upon)
      go_ret;exact ⟨by rw [HV1.out (fun h=>HBAD.out (h.a.yr k hlk))];rfl,kB⟩
     ·by_cases t3:5 < r.wk
      · have HBAD:Hid (¬ Zn.YR.Ok z.cal (z.a0b.getD k default)):=zA fun h=>by rw [HRR.out] at h;have h0:=h.m0;have h1:=h.m1;have h2:=h.k0;have h3:=h.k1;have h4:=h.d0;have h5:=h.d1;have h6:=h.n0;have h7:=h.n1;omega
        repeat' (first | (go_at_call 57;((with_reducible refine (HW1.out _).mono ?_));rintro e w9 ⟨rfl,rfl⟩;dsimp only)|go_skip|go_guarded|go_step|go_upon)
        go_ret;exact ⟨by rw [HV1.out (fun h=>HBAD.out (h.a.yr k hlk))];rfl,kB⟩
      · by_cases t4:r.wd < 0
        ·have HBAD:Hid (¬ Zn.YR.Ok z.cal (z.a0b.getD k default)):=zA fun h=>by rw [HRR.out] at h;have h0:=h.m0;have h1:=h.m1;have h2:=h.k0;have h3:=h.k1;have h4:=h.d0;have h5:=h.d1;have h6:=h.n0;have h7:=h.n1;omega
         repeat' (first | (go_at_call 57;((with_reducible refine (HW1.out _).mono ?_));rintro e w9 ⟨rfl,rfl⟩;dsimp only)|go_skip|go_guarded|go_step|go_upon)
         go_ret;exact ⟨by rw [HV1.out (fun h=>HBAD.out (h.a.yr k hlk))];rfl,kB⟩
        ·by_cases t5:6 < r.wd
         ·have HBAD:Hid (¬ Zn.YR.Ok z.cal (z.a0b.getD k default)):=zA fun h=>by rw [HRR.out] at h;have h0:=h.m0;have h1:=h.m1;have h2:=h.k0;have h3:=h.k1;have h4:=h.d0;have h5:=h.d1;have h6:=h.n0;have h7:=h.n1;omega
          repeat' (first | (go_at_call 57;((with_reducible refine (HW1.out _).mono ?_));rintro e w9 ⟨rfl,rfl⟩;dsimp only)|go_skip|go_guarded|go_step|go_upon)
          go_ret;exact ⟨by rw [HV1.out (fun h=>HBAD.out (h.a.yr k hlk))];rfl,kB⟩
         ·by_cases t6:r.mn < 0
          ·have HBAD:Hid (¬ Zn.YR.Ok z.cal (z.a0b.getD k default)):=zA fun h=>by rw [HRR.out] at h;have h0:=h.m0;have h1:=h.m1;have h2:=h.k0;have h3:=h.k1;have h4:=h.d0;have h5:=h.d1;have h6:=h.n0;have h7:=h.n1;omega
           repeat' (first | (go_at_call 57;((with_reducible refine (HW1.out _).mono ?_));rintro e w9 ⟨rfl,rfl⟩;dsimp only)|go_skip|go_guarded|go_step|go_upon)
           go_ret;exact ⟨by rw [HV1.out (fun h=>HBAD.out (h.a.yr k hlk))];rfl,kB⟩
          ·by_cases t7:1439 < r.mn
           ·have HBAD:Hid (¬ Zn.YR.Ok z.cal (z.a0b.getD k default)):=zA fun h=>by rw [HRR.out] at h;have h0:=h.m0;have h1:=h.m1;have h2:=h.k0;have h3:=h.k1;have h4:=h.d0;have h5:=h.d1;have h6:=h.n0;have h7:=h.n1;omega
            repeat' (first | (go_at_call 57;((with_reducible refine (HW1.out _).mono ?_));rintro e w9 ⟨rfl,rfl⟩;dsimp only)|go_skip|go_guarded|go_step|go_upon)
            go_ret;exact ⟨by rw [HV1.out (fun h=>HBAD.out (h.a.yr k hlk))];rfl,kB⟩
           ·have HOK:Hid (Zn.YR.Ok z.cal (z.a0b.getD k default)):=zA (by rw [HRR.out];exact ⟨ha.1,ha.2,by omega,by omega,by omega,by omega,by omega,by omega,by omega,by omega⟩)
            have dB:=hC.alloc hC.size (.cells #[r.mon,r.wk,r.wd,r.mn,r.off] 84)
            repeat' (first | (go_at_call 57;((with_reducible refine (HW1.out _).mono ?_));rintro e w9 ⟨rfl,rfl⟩;dsimp only)|go_skip|go_guarded|go_step|go_upon)
            exact ⟨⟨k+1,by omega,by go_num,fun j hj=>(zU j k).elim (fun h=>HYR.out j h) (fun h=>by rw [show j=k by omega];exact HOK.out),dB⟩,by simp [intOf];omega⟩
  ·rw [zW ha] at HW1
   have HBAD:Hid (¬ Zn.YR.Ok z.cal (z.a0b.getD k default)):=zA fun h=>by rw [HRR.out] at h;exact ha ⟨h.o0,h.o1⟩
   repeat' (first | (go_at_call 57;((with_reducible refine (HW1.out _).mono ?_));rintro e w9 ⟨rfl,rfl⟩;dsimp only)|go_skip|go_guarded|go_step|go_upon)
   go_ret;exact ⟨by rw [HV1.out (fun h=>HBAD.out (h.a.yr k hlk))];rfl,kB⟩
 have i1 : ¬ (k:Int) < (z.a0b.length:Int):=by omega
 obtain rfl:k=z.a0b.length:=by omega
 have HYR:=zA hyr
 clear hyr
 have hzk:Zn.Zok z:=⟨HGH.out.cal,ang.out,HYR.out⟩
 have kz:=a0a c0 hC
 have hB:=hB.trans (hC.mono hB.size)
 have HVW:=zA (HVW.out.below hC)
 clear hC c0
 have HYE:=zA (ae5 HVW.out hzk)
 have HGA:Hid (Zn.aea z):=zA ⟨HGH.out,apt.out,ang.out,HYR.out⟩
 repeat' ((go_not_at_region 18);(first | (go_at_call 67;((with_reducible refine (HYE.out).mono ?_));rintro e w8 ⟨⟨lv,gb,rfl,hlv,hgb⟩,hb8⟩;have kz8:=a0a kz hb8;have hB8:=hB.trans (hb8.mono hB.size);dsimp only)|go_skip|go_guarded|go_step|go_upon))
 have HV8:=zA (HVW.out.below hb8)
 clear kz hB HYE
 have kz:=kz8
 have hB:=hB8
 clear kz8 hB8 hb8 HVW
 cases gb
 ·have HNG:Hid (¬ Zn.a4e (Zn.ysT z) (Zn.a0s z)):=zA fun h=>by have:=hgb.2 h;cases this
  repeat'(first|go_skip|go_guarded|go_step|go_upon)
  go_ret
  exact ⟨by rw [HV1.out (fun h=>HNG.out h.gap)];rfl,hB⟩
 have HGP:=zA (hgb.1 rfl)
 have HCK:=zA (HGA.out.ck HGP.out)
 have HCY:=zA (fun (Wq:World) (hb:Below w8 w8 Wq)=>ab9 (HV8.out.below hb) HGH.out.cal)
 have HAF:=zA (fun (Wq:World) (hb:Below w8 w8 Wq)=>af8 (a1m.below hlv hb) HCK.out.sy HCK.out.ly HCK.out.c0 HCK.out.c1 (t:=z.hor) (by have:=HGH.out.h0;omega) (by have:=HGH.out.h1;omega) HCK.out.by_)
 have HFA:=zA (Zn.ahk HGA.out)
 have olv:=a1m.one hlv
 obtain ⟨x,bb,hxe,HAT⟩ : ∃ x bb,aha (Zn.a4w (Zn.ysT z) (Zn.a0s z) z.hor)=.tuple #[.agg #[x.tm,x.off],.bool bb]∧((bb=true→Zn.a4w (Zn.ysT z) (Zn.a0s z) z.hor=some x)∧(bb=false→Zn.a4w (Zn.ysT z) (Zn.a0s z) z.hor=none)):=by
  cases h:Zn.a4w (Zn.ysT z) (Zn.a0s z) z.hor with
  | none=>exact ⟨default,false,rfl,fun h=>(by cases h),fun _=>rfl⟩
  | some x=>exact ⟨x,true,rfl,fun _=>rfl,fun h=>(by cases h)⟩
 rw [hxe] at HAF
 clear hgb hlv hxe
 have lz:=a09 kz
 repeat' ((go_not_at_region 20);(first|go_skip|go_guarded|go_step|go_upon))
 refine aav 10 [8] [([],fun v _=>v=lv),([],fun v _=>v=.agg #[z.cal.a08,(.slice ma z.cal.a0g.length mc),z.cal.a0l,rv,z.start,(.slice ta z.trans.length tc),z.hor,(.slice ya z.a0b.length yc)]),([1],fun v _=>v=.int .i64 (Zn.a0s z)),([],fun v _=>v=.pointer (some ⟨W.heap.size,6,none⟩)),([3],fun v _=>v=.int .i64 z.hor),([0,2,4],fun v _=>v=.tuple #[.agg #[x.tm,x.off],.bool bb]),([5],fun v _=>v=.tuple #[.agg #[x.tm,x.off],.bool bb]),([6],fun v _=>v=.agg #[x.tm,x.off]),([6],fun v _=>v=.bool bb),
   ([],fun v W' => ∃ g,v=.pointer (some ⟨g,0,none⟩)∧obj W' g=some (.cells #[(0:Int),(0:Int)] 57 (0,0))∧w8.heap.size≤g)] (by kernel_rfl) (by kernel_rfl) (by kernel_rfl) (by kernel_rfl) (by kernel_rfl) ⟨?l8,trivial⟩ ?st ?ob ?_
 case l8 => intro v W h;exact ⟨_,by rw [h];rfl,rfl⟩
 case st => intro k v W1 W2 h hb;rcases k with _|_|_|_|_|_|_|_|_|_|k<;>first | exact h | trivial | (obtain ⟨g,h1,h2,h3⟩:=h;exact ⟨g,h1,a0a h2 hb,h3⟩)
 case ob =>
  and_intros<;>
  first
   | exact ⟨⟩
   | (intro vs Wq hW hk;(have q0:=a04 kz hW lz);(have q1:=a02 (a04 kz hW lz) 6);(try simp only [knows,Spec.at',↓zH,↓zG,yL] at hk);simp only [Spec.at',↓zH,↓zG,a00,a03,yy0,yy1,yy2,yy3];(try simp only [hk]);first | ((repeat'(first|go_skip|go_guarded|go_step|go_upon));exact a01 _ rfl (by go_simp) bR rfl) | ((have HX:=zA (HCY.out Wq hW));(repeat' (first | (go_at_call 49;((with_reducible refine (HX.out).mono ?_));rintro e w9 ⟨rfl,hb9⟩;dsimp only)|go_skip|go_guarded|go_step|go_upon));exact a01 _ rfl (by go_simp) hb9 rfl) | ((have HX:=zA (HAF.out Wq hW));(repeat' (first | (go_at_call 68;((with_reducible refine (HX.out).mono ?_));rintro e w9 ⟨rfl,hb9⟩;dsimp only)|go_skip|go_guarded|go_step|go_upon));exact a01 _ rfl (by go_simp) hb9 rfl) | fail)
   | (
     intro vs Wq hW hk;clear hk;change wpList _ _ _ _ (a00 _ vs [] _) _;simp only [a00]
     repeat'(first|go_skip|go_guarded|go_step|go_upon)
     exact a01 (.pointer (some ⟨Wq.heap.size,0,none⟩)) rfl (by go_simp) (bR.alloc (zD _) _) ⟨_,rfl,a05 _ _ _ rfl,hW.size⟩)
 intro vs W2 hW2 hk2
 have v7:vs 7=.agg #[x.tm,x.off]:=hk2 7 (by decide)
 have v8:vs 8=.bool bb:=hk2 8 (by decide)
 have h9:=hk2 9 (by decide)
 obtain ⟨g,v9,s9,s9b⟩:=h9
 clear hk2
 dsimp only [a1d,List.take,List.drop]
 simp only [Act.put,zF,zI,zJ]
 rw [v7,v8,v9]
 generalize vs 0=p0,vs 1=p1,vs 2=p2,vs 3=p3,vs 4=p4,vs 5=p5,vs 6=p6
 clear v7 v8 v9
 have hon5:ones #[x.tm,x.off]=true:=by simp [ones,a0n]
 have kg:obj (W2.setRow g #[.int .i64 x.tm,.int .i64 x.off]) g=some (.cells #[x.tm,x.off] 57 (0,0)):=xB _ _ _ _ _ _ s9
 have lS:=a09 kz
 have kz:=a2q (a04 kz hW2 lz) (show W.heap.size≠g by omega) #[.int .i64 x.tm,.int .i64 x.off]
 have hW3:Below w8 w8 (W2.setRow g #[.int .i64 x.tm,.int .i64 x.off]):=yX hW2 s9b _
 have HK3:=zA (And.intro kg (And.intro kz hW3))
 clear kg kz hW3
 repeat'(first|go_skip|go_guarded|go_step|go_upon)
 refine ⟨.inl rfl,?_⟩
 repeat' ((go_not_at_region 21);(first|go_skip|go_guarded|go_step|go_upon))
 obtain ⟨kg,kz,hW3⟩:=HK3.out
 clear HK3 s9
 generalize (W2.setRow g #[.int .i64 x.tm,.int .i64 x.off])=w10 at *
 have kB:=hB.trans (hW3.mono hB.size)
 have lz:=a09 kz
 have lg:=a09 kg
 cases bb
 ·have HGD:Hid (Zn.Good z):=zA ⟨HGA.out,HGP.out,fun _ x' h=>by rw [HFA.out,HAT.2 rfl] at h;cases h⟩
  refine a0k 22 [([],fun v _=>v=.bool false),([0],fun v _=>v=.bool false),([1],fun v _=>v=undef),([2,1],fun v _=>v=undef),([3,1],fun v _=>v=undef),([4,1],fun v _=>v=undef),([1,5],fun v _=>v=.bool false),([6,1],fun v _=>v=.bool false),([7],fun v _=>v=undef),([8,7],fun v _=>v=undef),([7],fun v _=>v=undef),([10,7],fun v _=>v=undef),([7],fun v _=>v=undef),([12,7],fun v _=>v=undef),([13,7],fun v _=>v=undef),([14,7],fun v _=>v=undef),([11,15,7],fun v _=>v=undef),([16,7],fun v _=>v=undef),([17,7],fun v _=>v=undef),([9,18,7],fun v _=>v=undef),([19,7],fun v _=>v=undef),
     ([7,20],fun v _=>v=.bool false)] (by kernel_rfl) (by kernel_rfl) (by kernel_rfl) ?st ?ob ?tl
  case st => intro k v W1 W2 h hb;rcases k with _|_|_|_|_|_|_|_|_|_|_|_|_|_|_|_|_|_|_|_|_|_|k<;>first | exact h | trivial
  case ob => and_intros<;>first|exact ⟨⟩|(intro vs Wq hW hk;(try simp only [knows,Spec.at',↓zH,↓zG,yL] at hk);simp only [Spec.at',↓zH,↓zG,a00,a03,yy0,yy1,yy2,yy3];(try simp only [hk]);first | ((repeat'(first|go_skip|go_guarded|go_step|go_upon));exact a01 _ rfl (by go_simp) bR rfl))
  case tl => intro vs W3 hW3 hk3;have v21:vs 21=.bool false:=hk3 21 (by decide);clear hk3;dsimp only [a1d,List.take,List.drop];simp only [Act.put,zF,zI,zJ];rw [v21];generalize vs 0=e0,vs 1=e1,vs 2=e2,vs 3=e3,vs 4=e4,vs 5=e5,vs 6=e6,vs 7=e7,vs 8=e8,vs 9=e9,vs 10=e10,vs 11=e11,vs 12=e12,vs 13=e13,vs 14=e14,vs 15=e15,vs 16=e16,vs 17=e17,vs 18=e18,vs 19=e19,vs 20=e20;clear v21;have mB:=kB.trans (hW3.mono kB.size);(repeat'(first|go_skip|go_guarded|go_step|go_upon));go_ret;exact ⟨by rw [HV0.out HGD.out];rfl,mB⟩
 by_cases hn:0 < z.trans.length;rotate_left
 ·have hn1 : ¬ (0:Int) < (z.trans.length:Int):=by omega
  have HGD:Hid (Zn.Good z):=zA ⟨HGA.out,HGP.out,fun h=>absurd h hn⟩
  refine a0k 22 [([],fun v _=>v=.bool true),([0],fun v _=>v=.bool true),([1],fun v _=>v=.pointer (some ⟨W.heap.size,5,none⟩)),([2,1],fun v _=>v=(.slice ta z.trans.length tc)),([3,1],fun v _=>v=.int .i64 (z.trans.length:Int)),([4,1],fun v _=>v=.bool false),([1,5],fun v _=>v=.bool false),([6,1],fun v _=>v=.bool false),([7],fun v _=>v=undef),([8,7],fun v _=>v=undef),([7],fun v _=>v=undef),([10,7],fun v _=>v=undef),([7],fun v _=>v=undef),([12,7],fun v _=>v=undef),([13,7],fun v _=>v=undef),([14,7],fun v _=>v=undef),([11,15,7],fun v _=>v=undef),([16,7],fun v _=>v=undef),([17,7],fun v _=>v=undef),([9,18,7],fun v _=>v=undef),([19,7],fun v _=>v=undef),
     ([7,20],fun v _=>v=.bool false)] (by kernel_rfl) (by kernel_rfl) (by kernel_rfl) ?st ?ob ?tl
  case st => intro k v W1 W2 h hb;rcases k with _|_|_|_|_|_|_|_|_|_|_|_|_|_|_|_|_|_|_|_|_|_|k<;>first | exact h | trivial
  case ob => and_intros<;>first|exact ⟨⟩|(intro vs Wq hW hk;(have q0:=a02 (a04 kz hW lz) 5);(try simp only [knows,Spec.at',↓zH,↓zG,yL] at hk);simp only [Spec.at',↓zH,↓zG,a00,a03,yy0,yy1,yy2,yy3];(try simp only [hk]);first | ((repeat'(first|go_skip|go_guarded|go_step|go_upon));exact a01 _ rfl (by go_simp) bR rfl))
  case tl => intro vs W3 hW3 hk3;have v21:vs 21=.bool false:=hk3 21 (by decide);clear hk3;dsimp only [a1d,List.take,List.drop];simp only [Act.put,zF,zI,zJ];rw [v21];generalize vs 0=e0,vs 1=e1,vs 2=e2,vs 3=e3,vs 4=e4,vs 5=e5,vs 6=e6,vs 7=e7,vs 8=e8,vs 9=e9,vs 10=e10,vs 11=e11,vs 12=e12,vs 13=e13,vs 14=e14,vs 15=e15,vs 16=e16,vs 17=e17,vs 18=e18,vs 19=e19,vs 20=e20;clear v21;have mB:=kB.trans (hW3.mono kB.size);(repeat'(first|go_skip|go_guarded|go_step|go_upon));go_ret;exact ⟨by rw [HV0.out HGD.out];rfl,mB⟩
 have hn1:(0:Int) < (z.trans.length:Int):=by omega
 obtain ⟨tb,tof,tc',a5d,TT',tfr,htv,tq1,tq2⟩:=a2b.open HV0z.out.tr hn
 obtain ⟨rfl,rfl⟩:ta=some ⟨tb,tof,none⟩∧tc=tc':=by injection htv with a b c;exact ⟨a,c⟩
 have ey0:a5d[tof+(z.trans.length - 1) * 2]? = some (.int .i64 (z.trans.getD (z.trans.length - 1) default).tm):=a0y 0 (tq2 (z.trans.length - 1) (by omega)).2 (by simp)
 obtain ⟨y,hy⟩ : ∃ y,z.trans.getD (z.trans.length - 1) default=y:=⟨_,rfl⟩
 have HYY:=zA hy
 have hyb : -2251799813685248≤y.tm∧y.tm≤2251799813685248:=by
   have:=apt.out (z.trans.length - 1) (by omega);rw [← hy];exact ⟨this.a0,this.a1⟩
 rw [hy] at ey0
 have hxb:=Zn.af1 HCK.out (show Zn.a2s z (Zn.ysT z) (Zn.a0s z) z.hor 0=some x by rw [HFA.out];exact HAT.1 rfl)
 have wn1:IntKind.wrap .i64 ((z.trans.length:Int) - 1)=((z.trans.length - 1:Nat):Int):=by have:=HGH.out.t;rw [wrap_in]<;>omega
 have wxy:=zWI (x.tm - y.tm)
 have i2:z.trans.length - 1 < z.trans.length:=by omega
 have i3 : ¬ ((z.trans.length - 1:Nat):Int) < 0:=by omega
 have tw:=a04 tq1 kB (a09 tq1)
 have lt:=a09 tw
 clear htv tq2 hy
 by_cases hg:x.tm - y.tm < 2160
 · have HNG:Hid (¬ Zn.Good z):=zA fun h=>by have:=h.j hn x (by rw [HFA.out];exact HAT.1 rfl);rw [HYY.out] at this;omega
   refine a0k 22 [([],fun v _=>v=.bool true),([0],fun v _=>v=.bool true),([1],fun v _=>v=.pointer (some ⟨W.heap.size,5,none⟩)),([2,1],fun v _=>v=.slice (some ⟨tb,tof,none⟩) z.trans.length tc),([3,1],fun v _=>v=.int .i64 (z.trans.length:Int)),([4,1],fun v _=>v=.bool true),([1,5],fun v _=>v=.bool true),([6,1],fun v _=>v=.bool true),([7],fun v _=>v=.pointer (some ⟨g,0,none⟩)),([8,7],fun v _=>v=.int .i64 x.tm),([7],fun v _=>v=.pointer (some ⟨W.heap.size,5,none⟩)),([10,7],fun v _=>v=.slice (some ⟨tb,tof,none⟩) z.trans.length tc),([7],fun v _=>v=.pointer (some ⟨W.heap.size,5,none⟩)),([12,7],fun v _=>v=.slice (some ⟨tb,tof,none⟩) z.trans.length tc),([13,7],fun v _=>v=.int .i64 (z.trans.length:Int)),([14,7],fun v _=>v=.int .i64 ((z.trans.length - 1:Nat):Int)),([11,15,7],fun v _=>v=.pointer (some ⟨tb,tof+(z.trans.length - 1) * 2,none⟩)),([16,7],fun v _=>v=.pointer (some ⟨tb,tof+(z.trans.length - 1) * 2,none⟩)),([17,7],fun v _=>v=.int .i64 y.tm),([9,18,7],fun v _=>v=.int .i64 (x.tm - y.tm)),([19,7],fun v _=>v=.bool true),
     ([7,20],fun v _=>v=.bool true)] (by kernel_rfl) (by kernel_rfl) (by kernel_rfl) ?st ?ob ?tl
   case st => intro k v W1 W2 h hb;rcases k with _|_|_|_|_|_|_|_|_|_|_|_|_|_|_|_|_|_|_|_|_|_|k<;>first | exact h | trivial
   case ob => and_intros<;>first|exact ⟨⟩|(intro vs Wq hW hk;(have q0:=a02 (a04 kz hW lz) 5);(have q1:=a02 (a04 kg hW lg) 0);(have q2:=(a02 (a04 tw hW lt) (tof+(z.trans.length - 1) * 2)).trans ey0);(try simp only [knows,Spec.at',↓zH,↓zG,yL] at hk);simp only [Spec.at',↓zH,↓zG,a00,a03,yy0,yy1,yy2,yy3];(try simp only [hk]);first | ((repeat'(first|go_skip|go_guarded|go_step|go_upon));exact a01 _ rfl (by go_simp) bR rfl))
   case tl => intro vs W3 hW3 hk3;have v21:vs 21=.bool true:=hk3 21 (by decide);clear hk3;dsimp only [a1d,List.take,List.drop];simp only [Act.put,zF,zI,zJ];rw [v21];generalize vs 0=e0,vs 1=e1,vs 2=e2,vs 3=e3,vs 4=e4,vs 5=e5,vs 6=e6,vs 7=e7,vs 8=e8,vs 9=e9,vs 10=e10,vs 11=e11,vs 12=e12,vs 13=e13,vs 14=e14,vs 15=e15,vs 16=e16,vs 17=e17,vs 18=e18,vs 19=e19,vs 20=e20;clear v21;have mB:=kB.trans (hW3.mono kB.size);(repeat'(first|go_skip|go_guarded|go_step|go_upon));go_ret;exact ⟨by rw [HV1.out (HNG.out)];rfl,mB⟩
 · have HGD:Hid (Zn.Good z):=zA ⟨HGA.out,HGP.out,fun _ x' h=>by rw [HFA.out,HAT.1 rfl] at h;cases h;rw [HYY.out];omega⟩
   refine a0k 22 [([],fun v _=>v=.bool true),([0],fun v _=>v=.bool true),([1],fun v _=>v=.pointer (some ⟨W.heap.size,5,none⟩)),([2,1],fun v _=>v=.slice (some ⟨tb,tof,none⟩) z.trans.length tc),([3,1],fun v _=>v=.int .i64 (z.trans.length:Int)),([4,1],fun v _=>v=.bool true),([1,5],fun v _=>v=.bool true),([6,1],fun v _=>v=.bool true),([7],fun v _=>v=.pointer (some ⟨g,0,none⟩)),([8,7],fun v _=>v=.int .i64 x.tm),([7],fun v _=>v=.pointer (some ⟨W.heap.size,5,none⟩)),([10,7],fun v _=>v=.slice (some ⟨tb,tof,none⟩) z.trans.length tc),([7],fun v _=>v=.pointer (some ⟨W.heap.size,5,none⟩)),([12,7],fun v _=>v=.slice (some ⟨tb,tof,none⟩) z.trans.length tc),([13,7],fun v _=>v=.int .i64 (z.trans.length:Int)),([14,7],fun v _=>v=.int .i64 ((z.trans.length - 1:Nat):Int)),([11,15,7],fun v _=>v=.pointer (some ⟨tb,tof+(z.trans.length - 1) * 2,none⟩)),([16,7],fun v _=>v=.pointer (some ⟨tb,tof+(z.trans.length - 1) * 2,none⟩)),([17,7],fun v _=>v=.int .i64 y.tm),([9,18,7],fun v _=>v=.int .i64 (x.tm - y.tm)),([19,7],fun v _=>v=.bool false),
     ([7,20],fun v _=>v=.bool false)] (by kernel_rfl) (by kernel_rfl) (by kernel_rfl) ?st ?ob ?tl
   case st => intro k v W1 W2 h hb;rcases k with _|_|_|_|_|_|_|_|_|_|_|_|_|_|_|_|_|_|_|_|_|_|k<;>first | exact h | trivial
   case ob => and_intros<;>first|exact ⟨⟩|(intro vs Wq hW hk;(have q0:=a02 (a04 kz hW lz) 5);(have q1:=a02 (a04 kg hW lg) 0);(have q2:=(a02 (a04 tw hW lt) (tof+(z.trans.length - 1) * 2)).trans ey0);(try simp only [knows,Spec.at',↓zH,↓zG,yL] at hk);simp only [Spec.at',↓zH,↓zG,a00,a03,yy0,yy1,yy2,yy3];(try simp only [hk]);first | ((repeat'(first|go_skip|go_guarded|go_step|go_upon));exact a01 _ rfl (by go_simp) bR rfl))
   case tl => intro vs W3 hW3 hk3;have v21:vs 21=.bool false:=hk3 21 (by decide);clear hk3;dsimp only [a1d,List.take,List.drop];simp only [Act.put,zF,zI,zJ];rw [v21];generalize vs 0=e0,vs 1=e1,vs 2=e2,vs 3=e3,vs 4=e4,vs 5=e5,vs 6=e6,vs 7=e7,vs 8=e8,vs 9=e9,vs 10=e10,vs 11=e11,vs 12=e12,vs 13=e13,vs 14=e14,vs 15=e15,vs 16=e16,vs 17=e17,vs 18=e18,vs 19=e19,vs 20=e20;clear v21;have mB:=kB.trans (hW3.mono kB.size);(repeat'(first|go_skip|go_guarded|go_step|go_upon));go_ret;exact ⟨by rw [HV0.out HGD.out];rfl,mB⟩
end Go.Proofs.YtppjleebbjipbaaGreat
