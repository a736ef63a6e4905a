/-
  clock.last, offset.
-/
import Derived.Test.YtppjleebbjipbaaGreatQkZnj
set_option linter.all false
namespace Go.Proofs.YtppjleebbjipbaaGreat
open Go.RowKit
set_option maxRecDepth 20000
set_option maxHeartbeats 8000000
def aha (x:Option Zn.Tr):Value:=.tuple #[.agg (a7c (x.getD default)),.bool x.isSome]
theorem abf {W:World} {g:Nat} {z:Zn.a0w} {ys:List Zn.Tr} {cyc:Int} (h:aec W g z ys cyc) (hk:Zn.Ck z ys cyc) {t:Int} (ht0 : -4503599627370496≤t) (ht1:t≤4503599627370496) :
  Calls Tryz.prog 96 #[.pointer (some ⟨g,0,none⟩),.int .i64 t] W fun e w'=>e=.returned (aha (Zn.lastT z ys cyc t))∧Below W W w':=by
 have w1B:Below W W (W.alloc (.cells #[(0:Int),(0:Int)] 57)):=bR.alloc (zD _) _
 have z1b:obj (W.alloc (.cells #[(0:Int),(0:Int)] 57)) W.heap.size=some (.cells #[(0:Int),(0:Int)] 57 (0,0)):=a05 _ _ _ rfl
 have HK:=zA hk
 have HH:=zA (h.below w1B)
 obtain ⟨mv,rv,tv,yv,sv,hg,hzv,hsv⟩:=h
 have HTV:=zA hzv
 have HSV:=zA hsv
 have g1:=a0a hg w1B
 have hgl:=a09 hg
 have h0:=hk.h0
 have h1:=hk.h1
 have c0:=hk.c0
 have c1:=hk.c1
 have hlt:=hk.lt
 have hly:=hk.ly
 obtain ⟨ys0,ysc,hsl⟩:=a2b.ajx hsv
 have c18:=a02 g1 8
 rw [hsl] at c18
 clear hg hzv hsv hk
 go_enter Tryz.func96,Tryz.ntmps96
 by_cases hyl:ys.length=0
 ·have t0 : ¬ (0:Int) < (ys.length:Int):=by omega
  have HN:Hid (Zn.a6a z ys cyc t=none):=zA (by unfold Zn.a6a;rw [zS (fun h=>h.1 hyl)])
  repeat' ((go_not_at_region 11);(first|go_skip|go_guarded|go_step|go_upon))
  clear c18 HSV hsl HH
  generalize (W.alloc (.cells #[(0:Int),(0:Int)] 57))=w1 at *
  have HBS:=zA (a6m (a1m.below HTV.out w1B) (a3l HK.out.st) (by have:=HK.out.lt;omega) (t:=t))
  have c5:=a02 g1 5
  repeat' ((go_not_at_region 12);(first | (go_at_call 138;((with_reducible refine (HBS.out).mono ?_));rintro e w8 ⟨i,hi,hlo,hhi,rfl,hb8⟩;have HLL:=zA (a6l HK.out.st hi hlo hhi none);generalize hfd:decide (i < z.trans.length∧(z.trans.getD i default).tm=t)=fd at *;have HFD:=zA hfd;clear hlo hhi hfd;dsimp only)|go_skip|go_guarded|go_step|go_upon))
  have g8:=a0a g1 hb8
  have z8:=a0a z1b hb8
  have h8:=w1B.trans (hb8.mono w1B.size)
  have ajr:=zA (a1m.below HTV.out h8)
  have c58:=a02 g8 5
  have hz8:=a09 z8
  clear hb8 HBS c5 g1 z1b
  cases fd
  ·by_cases hi0:i=0
   ·subst hi0
    have HR:Hid (Zn.lastT z ys cyc t=none):=zA (by unfold Zn.lastT;rw [HN.out];dsimp only;rw [HLL.out];simp);clear HLL
    have wm:IntKind.wrap .i64 ((0:Int) - 1) = -1:=by rw [wrap_in]<;>omega
    repeat'(first|go_skip|go_guarded|go_step|go_upon)
    refine yO (a0q rfl _ _ W.heap.size 57 _ (0,0) _ _ rfl (xB _ _ _ _ _ _ z8) Tryz.underlying57 rfl (by kernel_rfl) rfl) rfl ?_;exact ⟨by rw [HR.out];rfl,yX h8 (by omega) _⟩
   obtain ⟨m,rfl⟩ : ∃ m,i=m+1:=⟨i - 1,by omega⟩
   have HR:Hid (Zn.lastT z ys cyc t=some (z.trans.getD m default)):=zA (by unfold Zn.lastT;rw [HN.out];dsimp only;rw [HLL.out];simp)
   have wm:IntKind.wrap .i64 (((m+1:Nat):Int) - 1)=(m:Int):=by rw [wrap_in]<;>omega
   (have t1 : ¬ (m:Int) < 0:=by omega);(have t2:(m:Int) < (z.trans.length:Int):=by omega);obtain ⟨tb,tof,tc,a5d,TT',tfr,htv,tq1,tq2⟩:=a2b.open ajr.out (by omega);subst htv;obtain ⟨z0,k3⟩:=tq2 m (by omega);have z1:(tof+m * 2+2≤a5d.size)=True:=xN z0;clear tq2 z0 HLL;generalize z.trans.getD m default=x at *;have hon:ones #[x.tm,x.off]=true:=by simp [ones,a0n]
   repeat'(first|go_skip|go_guarded|go_step|go_upon)
   refine yO (a0q rfl _ _ W.heap.size 57 _ (0,0) _ _ rfl (xB _ _ _ _ _ _ z8) Tryz.underlying57 rfl (by kernel_rfl) rfl) rfl ?_;exact ⟨by rw [HR.out];rfl,yX h8 (by omega) _⟩
  have hin:i < z.trans.length:=by have:=HFD.out;simp only [zM] at this;exact this.1
  have t1 : ¬ (i:Int) < 0:=by omega
  have t2:(i:Int) < (z.trans.length:Int):=by omega
  obtain ⟨tb,tof,tc,a5d,TT',tfr,htv,tq1,tq2⟩:=a2b.open ajr.out (by omega)
  subst htv
  obtain ⟨z0,k3⟩:=tq2 i hin
  have z1:(tof+i * 2+2≤a5d.size)=True:=xN z0
  have HR:Hid (Zn.lastT z ys cyc t=some (z.trans.getD i default)):=zA (by unfold Zn.lastT;rw [HN.out];dsimp only;rw [HLL.out,zQ rfl])
  clear tq2 z0 HLL
  generalize z.trans.getD i default=x at *
  have hon:ones #[x.tm,x.off]=true:=by simp [ones,a0n]
  repeat'(first|go_skip|go_guarded|go_step|go_upon)
  refine yO (a0q rfl _ _ W.heap.size 57 _ (0,0) _ _ rfl (xB _ _ _ _ _ _ z8) Tryz.underlying57 rfl (by kernel_rfl) rfl) rfl ?_
  exact ⟨by rw [HR.out];rfl,yX h8 (by omega) _⟩
 have t0:(0:Int) < (ys.length:Int):=by omega
 have hby:=HK.out.by_ 0 (by omega)
 obtain ⟨yb,yo,yc,a8k,YT',yfr,hsv,yq1,yq2⟩:=a2b.open HSV.out (by omega)
 have e0:(W.alloc (.cells #[(0:Int),(0:Int)] 57)).cell? ⟨yb,yo,none⟩=some (.int .i64 (ys.getD 0 default).tm):=(a02 (a0a yq1 w1B) yo).trans (by have:=a0y 0 (yq2 0 (by omega)).2 (by simp);simpa using this)
 rw [hsl] at hsv
 obtain ⟨rfl,rfl⟩:ys0=some ⟨yb,yo,none⟩∧ysc=yc:=by injection hsv with a b c;exact ⟨a,c⟩
 have as4:=zA (aa1 HH.out c0 c1 (show 0 < ys.length by omega) (t:=t) (by omega) (by omega))
 clear yq1 yq2 hsv
 generalize hy0:(ys.getD 0 default).tm=y0 at *
 have HY0:=zA hy0
 clear hy0
 by_cases hty:y0≤t;rotate_left
 ·have HN:Hid (Zn.a6a z ys cyc t=none):=zA (by unfold Zn.a6a;rw [HY0.out,zS (fun h=>hty h.2)])
  repeat' ((go_not_at_region 11);(first|go_skip|go_guarded|go_step|go_upon))
  clear c18 HSV hsl HH e0 as4 hty hby
  generalize (W.alloc (.cells #[(0:Int),(0:Int)] 57))=w1 at *
  have HBS:=zA (a6m (a1m.below HTV.out w1B) (a3l HK.out.st) (by have:=HK.out.lt;omega) (t:=t))
  have c5:=a02 g1 5
  repeat' ((go_not_at_region 12);(first | (go_at_call 138;((with_reducible refine (HBS.out).mono ?_));rintro e w8 ⟨i,hi,hlo,hhi,rfl,hb8⟩;have HLL:=zA (a6l HK.out.st hi hlo hhi none);generalize hfd:decide (i < z.trans.length∧(z.trans.getD i default).tm=t)=fd at *;have HFD:=zA hfd;clear hlo hhi hfd;dsimp only)|go_skip|go_guarded|go_step|go_upon))
  have g8:=a0a g1 hb8
  have z8:=a0a z1b hb8
  have h8:=w1B.trans (hb8.mono w1B.size)
  have ajr:=zA (a1m.below HTV.out h8)
  have c58:=a02 g8 5
  have hz8:=a09 z8
  clear hb8 HBS c5 g1 z1b
  cases fd
  ·by_cases hi0:i=0
   ·subst hi0
    have HR:Hid (Zn.lastT z ys cyc t=none):=zA (by unfold Zn.lastT;rw [HN.out];dsimp only;rw [HLL.out];simp);clear HLL
    have wm:IntKind.wrap .i64 ((0:Int) - 1) = -1:=by rw [wrap_in]<;>omega
    repeat'(first|go_skip|go_guarded|go_step|go_upon)
    refine yO (a0q rfl _ _ W.heap.size 57 _ (0,0) _ _ rfl (xB _ _ _ _ _ _ z8) Tryz.underlying57 rfl (by kernel_rfl) rfl) rfl ?_;exact ⟨by rw [HR.out];rfl,yX h8 (by omega) _⟩
   obtain ⟨m,rfl⟩ : ∃ m,i=m+1:=⟨i - 1,by omega⟩
   have HR:Hid (Zn.lastT z ys cyc t=some (z.trans.getD m default)):=zA (by unfold Zn.lastT;rw [HN.out];dsimp only;rw [HLL.out];simp)
   have wm:IntKind.wrap .i64 (((m+1:Nat):Int) - 1)=(m:Int):=by rw [wrap_in]<;>omega
   (have t1 : ¬ (m:Int) < 0:=by omega);(have t2:(m:Int) < (z.trans.length:Int):=by omega);obtain ⟨tb,tof,tc,a5d,TT',tfr,htv,tq1,tq2⟩:=a2b.open ajr.out (by omega);subst htv;obtain ⟨z0,k3⟩:=tq2 m (by omega);have z1:(tof+m * 2+2≤a5d.size)=True:=xN z0;clear tq2 z0 HLL;generalize z.trans.getD m default=x at *;have hon:ones #[x.tm,x.off]=true:=by simp [ones,a0n]
   repeat'(first|go_skip|go_guarded|go_step|go_upon)
   refine yO (a0q rfl _ _ W.heap.size 57 _ (0,0) _ _ rfl (xB _ _ _ _ _ _ z8) Tryz.underlying57 rfl (by kernel_rfl) rfl) rfl ?_;exact ⟨by rw [HR.out];rfl,yX h8 (by omega) _⟩
  have hin:i < z.trans.length:=by have:=HFD.out;simp only [zM] at this;exact this.1
  have t1 : ¬ (i:Int) < 0:=by omega
  have t2:(i:Int) < (z.trans.length:Int):=by omega
  obtain ⟨tb,tof,tc,a5d,TT',tfr,htv,tq1,tq2⟩:=a2b.open ajr.out (by omega)
  subst htv
  obtain ⟨z0,k3⟩:=tq2 i hin
  have z1:(tof+i * 2+2≤a5d.size)=True:=xN z0
  have HR:Hid (Zn.lastT z ys cyc t=some (z.trans.getD i default)):=zA (by unfold Zn.lastT;rw [HN.out];dsimp only;rw [HLL.out,zQ rfl])
  clear tq2 z0 HLL
  generalize z.trans.getD i default=x at *
  have hon:ones #[x.tm,x.off]=true:=by simp [ones,a0n]
  repeat'(first|go_skip|go_guarded|go_step|go_upon)
  refine yO (a0q rfl _ _ W.heap.size 57 _ (0,0) _ _ rfl (xB _ _ _ _ _ _ z8) Tryz.underlying57 rfl (by kernel_rfl) rfl) rfl ?_
  exact ⟨by rw [HR.out];rfl,yX h8 (by omega) _⟩
 have HP:Hid (ys.length≠0∧y0≤t):=zA ⟨hyl,hty⟩
 have hb1:0≤Zn.turns y0 t cyc * (cyc * 1440)∧Zn.turns y0 t cyc * (cyc * 1440)≤t - y0:=by
  unfold Zn.turns
  rw [zS (by omega)]
  refine ⟨xX (Int.ediv_nonneg (by omega) (by omega)) (by omega),Int.ediv_mul_le _ (by omega)⟩
 obtain ⟨B,hB⟩ : ∃ B,Zn.turns y0 t cyc * (cyc * 1440)=B:=⟨_,rfl⟩
 have HB:=zA hB
 rw [hB] at hb1
 have hmin:=zA (fun n=>a2v (HH.out.drewN n) (by omega) c1)
 have wB:=zWI B
 have wtB:=zWI (t - B)
 have HBS:=zA (fun (W':World) (hb:Below W W W')=>a6m (a1m.below HSV.out hb) (a3l HK.out.sy) (by omega) (t:=t - B))
 rw [hsl] at HBS
 repeat' ((go_not_at_region 4);(first | (go_at_call 127;((with_reducible refine (as4.out).mono ?_));rintro e w2 ⟨rfl,nq,rfl⟩;have HMI:=zA (hmin.out nq);dsimp only) | (go_at_call 128;((with_reducible refine (HMI.out).mono ?_));rintro e w3 ⟨rfl,rfl⟩;dsimp only)|go_skip|go_guarded|go_step|go_upon))
 have h3:=below_drewN w1B nq
 have g3:obj ((W.alloc (.cells #[(0:Int),(0:Int)] 57)).drewN nq) g=_:=g1
 have z3:obj ((W.alloc (.cells #[(0:Int),(0:Int)] 57)).drewN nq) W.heap.size=_:=z1b
 have c38:=a02 g3 8
 rw [hsl] at c38
 have HBS3:=zA (HBS.out _ h3)
 clear HMI as4 e0 g1 z1b w1B c18 HH hmin HBS
 generalize (W.alloc (.cells #[(0:Int),(0:Int)] 57)).drewN nq=w3 at *
 repeat' ((go_not_at_region 5);(first | (go_at_call 138;((with_reducible refine (HBS3.out).mono ?_));rintro e w5 ⟨i,hi,hlo,hhi,rfl,hb5⟩;have HLL:=zA (a6l HK.out.sy hi hlo hhi none);have HI0:Hid (i=0→t - B≤y0):=zA (fun e=>by rw [← HY0.out];exact hhi 0 (by omega) (by omega));generalize hfd:decide (i < ys.length∧(ys.getD i default).tm=t - B)=fd at *;have HFD:=zA hfd;clear hlo hhi hfd;dsimp only)|go_skip|go_guarded|go_step|go_upon))
 have g5:=a0a g3 hb5
 have z5:=a0a z3 hb5
 have h5:=h3.trans (hb5.mono h3.size)
 have HSV5:=zA (a1m.below HSV.out h5)
 have c58:=a02 g5 8
 rw [hsl] at c58
 clear HBS3 c38 g3 z3 h3 hb5
 cases fd
 ·have hi0:i≠0:=by
   intro e;have h1:=HI0.out e;have h2:=HFD.out;rw [uI] at h2;refine h2 ⟨by omega,?_⟩;rw [e,HY0.out];omega
  obtain ⟨m,rfl⟩ : ∃ m,i=m+1:=⟨i - 1,by omega⟩
  have HLY:Hid (Zn.a4i ys (t - B) none=some (ys.getD m default)):=zA (by rw [HLL.out];simp)
  have wmi:IntKind.wrap .i64 (((m+1:Nat):Int) - 1)=(m:Int):=by rw [wrap_in]<;>omega
  clear HLL
  obtain ⟨yb2,yo2,yc2,a8k,YT2,yfr2,hsv,yq1,yq2⟩:=a2b.open HSV5.out (by omega)
  rw [hsl] at hsv
  obtain ⟨rfl,rfl⟩:yb=yb2∧yo=yo2:=by injection hsv with a b c;injection a with a;injection a with a b c;exact ⟨a,b⟩
  clear hsv
  obtain ⟨z0,k3⟩:=yq2 m (by omega)
  have z1:(yo+m * 2+2≤a8k.size)=True:=xN z0
  have hbx:=HK.out.by_ m (by omega)
  clear yq2 z0
  generalize ys.getD m default=x at *
  have hon:ones #[x.tm,x.off]=true:=by simp [ones,a0n]
  have t3:(m:Int) < (ys.length:Int):=by omega
  have wx:=zWI (x.tm+B)
  repeat' ((go_not_at_region 8);(first|go_skip|go_guarded|go_step|go_upon))
  have h6:=h5.alloc h5.size (.cells #[x.tm,x.off] 57)
  have b6:obj (w5.alloc (.cells #[x.tm,x.off] 57)) w5.heap.size=some (.cells #[x.tm,x.off] 57 (0,0)):=a05 _ _ _ rfl
  have g6:=a06 g5 (.cells #[x.tm,x.off] 57)
  have z6:=a06 z5 (.cells #[x.tm,x.off] 57)
  have c66:=a02 g6 6
  have c60:=a02 b6 0
  have lz5:=a09 z5
  have ne1:W.heap.size≠w5.heap.size:=by omega
  have sz5:=h5.size
  clear g5 z5 yq1 k3 z1
  generalize w5.alloc (.cells #[x.tm,x.off] 57)=w6 at *
  go_quiet (fail)
  have h7:=below_drewN h6 nq
  have b7:obj (w6.drewN nq) w5.heap.size=_:=b6
  have g7:obj (w6.drewN nq) g=_:=g6
  have z7:obj (w6.drewN nq) W.heap.size=_:=z6
  clear c66 c60 h6 b6 g6 z6
  generalize w6.drewN nq=w7 at *
  by_cases aou:z.hor≤x.tm+B
  ·have HR:Hid (Zn.lastT z ys cyc t=some ⟨x.tm+B,x.off⟩):=zA (by unfold Zn.lastT Zn.a6a;rw [HY0.out,zQ HP.out,HB.out,HLY.out];dsimp only;rw [zQ aou])
   have c70:=a02 b7 0;have f70:=a0d b7 0
   repeat'(first|go_skip|go_guarded|go_step|go_upon)
   refine yO (a0q rfl _ _ W.heap.size 57 _ (0,0) _ _ rfl (xB _ _ _ _ _ _ (a07 z7 _ ne1 _)) Tryz.underlying57 rfl (by kernel_rfl) rfl) rfl ?_;exact ⟨by rw [HR.out];rfl,yX (h7.setCell (by show W.heap.size≤w5.heap.size;omega) _) (by omega) _⟩
  have HN:Hid (Zn.a6a z ys cyc t=none):=zA (by unfold Zn.a6a;rw [HY0.out,zQ HP.out,HB.out,HLY.out];dsimp only;rw [zS aou])
  clear HP HB HLY b7
  have HBS:=zA (a6m (a1m.below HTV.out h7) (a3l HK.out.st) (by have:=HK.out.lt;omega) (t:=t))
  have c5:=a02 g7 5
  repeat' ((go_not_at_region 12);(first | (go_at_call 138;((with_reducible refine (HBS.out).mono ?_));rintro e w8 ⟨i,hi,hlo,hhi,rfl,hb8⟩;have HLL:=zA (a6l HK.out.st hi hlo hhi none);generalize hfd:decide (i < z.trans.length∧(z.trans.getD i default).tm=t)=fd at *;have HFD:=zA hfd;clear hlo hhi hfd;dsimp only)|go_skip|go_guarded|go_step|go_upon))
  have g8:=a0a g7 hb8
  have z8:=a0a z7 hb8
  have h8:=h7.trans (hb8.mono h7.size)
  have ajr:=zA (a1m.below HTV.out h8)
  have c58:=a02 g8 5
  have hz8:=a09 z8
  clear hb8 HBS c5 g7 z7
  cases fd
  ·by_cases hi0:i=0
   ·subst hi0
    have HR:Hid (Zn.lastT z ys cyc t=none):=zA (by unfold Zn.lastT;rw [HN.out];dsimp only;rw [HLL.out];simp);clear HLL
    have wm:IntKind.wrap .i64 ((0:Int) - 1) = -1:=by rw [wrap_in]<;>omega
    repeat'(first|go_skip|go_guarded|go_step|go_upon)
    refine yO (a0q rfl _ _ W.heap.size 57 _ (0,0) _ _ rfl (xB _ _ _ _ _ _ z8) Tryz.underlying57 rfl (by kernel_rfl) rfl) rfl ?_;exact ⟨by rw [HR.out];rfl,yX h8 (by omega) _⟩
   obtain ⟨m,rfl⟩ : ∃ m,i=m+1:=⟨i - 1,by omega⟩
   have HR:Hid (Zn.lastT z ys cyc t=some (z.trans.getD m default)):=zA (by unfold Zn.lastT;rw [HN.out];dsimp only;rw [HLL.out];simp)
   have wm:IntKind.wrap .i64 (((m+1:Nat):Int) - 1)=(m:Int):=by rw [wrap_in]<;>omega
   (have t1 : ¬ (m:Int) < 0:=by omega);(have t2:(m:Int) < (z.trans.length:Int):=by omega);obtain ⟨tb,tof,tc,a5d,TT',tfr,htv,tq1,tq2⟩:=a2b.open ajr.out (by omega);subst htv;obtain ⟨z0,k3⟩:=tq2 m (by omega);have z1:(tof+m * 2+2≤a5d.size)=True:=xN z0;clear tq2 z0 HLL;generalize z.trans.getD m default=x at *;have hon:ones #[x.tm,x.off]=true:=by simp [ones,a0n]
   repeat'(first|go_skip|go_guarded|go_step|go_upon)
   refine yO (a0q rfl _ _ W.heap.size 57 _ (0,0) _ _ rfl (xB _ _ _ _ _ _ z8) Tryz.underlying57 rfl (by kernel_rfl) rfl) rfl ?_;exact ⟨by rw [HR.out];rfl,yX h8 (by omega) _⟩
  have hin:i < z.trans.length:=by have:=HFD.out;simp only [zM] at this;exact this.1
  have t1 : ¬ (i:Int) < 0:=by omega
  have t2:(i:Int) < (z.trans.length:Int):=by omega
  obtain ⟨tb,tof,tc,a5d,TT',tfr,htv,tq1,tq2⟩:=a2b.open ajr.out (by omega)
  subst htv
  obtain ⟨z0,k3⟩:=tq2 i hin
  have z1:(tof+i * 2+2≤a5d.size)=True:=xN z0
  have HR:Hid (Zn.lastT z ys cyc t=some (z.trans.getD i default)):=zA (by unfold Zn.lastT;rw [HN.out];dsimp only;rw [HLL.out,zQ rfl])
  clear tq2 z0 HLL
  generalize z.trans.getD i default=x at *
  have hon:ones #[x.tm,x.off]=true:=by simp [ones,a0n]
  repeat'(first|go_skip|go_guarded|go_step|go_upon)
  refine yO (a0q rfl _ _ W.heap.size 57 _ (0,0) _ _ rfl (xB _ _ _ _ _ _ z8) Tryz.underlying57 rfl (by kernel_rfl) rfl) rfl ?_
  exact ⟨by rw [HR.out];rfl,yX h8 (by omega) _⟩
 have hin:i < ys.length:=by have:=HFD.out;simp only [zM] at this;exact this.1
 have HLY:Hid (Zn.a4i ys (t - B) none=some (ys.getD i default)):=zA (by rw [HLL.out,zQ rfl])
 clear HLL
 obtain ⟨yb2,yo2,yc2,a8k,YT2,yfr2,hsv,yq1,yq2⟩:=a2b.open HSV5.out (by omega)
 rw [hsl] at hsv
 obtain ⟨rfl,rfl⟩:yb=yb2∧yo=yo2:=by injection hsv with a b c;injection a with a;injection a with a b c;exact ⟨a,b⟩
 clear hsv
 obtain ⟨z0,k3⟩:=yq2 i (by omega)
 have z1:(yo+i * 2+2≤a8k.size)=True:=xN z0
 have hbx:=HK.out.by_ i (by omega)
 clear yq2 z0
 generalize ys.getD i default=x at *
 have hon:ones #[x.tm,x.off]=true:=by simp [ones,a0n]
 have t3:(i:Int) < (ys.length:Int):=by omega
 have wx:=zWI (x.tm+B)
 repeat' ((go_not_at_region 8);(first|go_skip|go_guarded|go_step|go_upon))
 have h6:=h5.alloc h5.size (.cells #[x.tm,x.off] 57)
 have b6:obj (w5.alloc (.cells #[x.tm,x.off] 57)) w5.heap.size=some (.cells #[x.tm,x.off] 57 (0,0)):=a05 _ _ _ rfl
 have g6:=a06 g5 (.cells #[x.tm,x.off] 57)
 have z6:=a06 z5 (.cells #[x.tm,x.off] 57)
 have c66:=a02 g6 6
 have c60:=a02 b6 0
 have lz5:=a09 z5
 have ne1:W.heap.size≠w5.heap.size:=by omega
 have sz5:=h5.size
 clear g5 z5 yq1 k3 z1
 generalize w5.alloc (.cells #[x.tm,x.off] 57)=w6 at *
 go_quiet (fail)
 have h7:=below_drewN h6 nq
 have b7:obj (w6.drewN nq) w5.heap.size=_:=b6
 have g7:obj (w6.drewN nq) g=_:=g6
 have z7:obj (w6.drewN nq) W.heap.size=_:=z6
 clear c66 c60 h6 b6 g6 z6
 generalize w6.drewN nq=w7 at *
 by_cases aou:z.hor≤x.tm+B
 ·have HR:Hid (Zn.lastT z ys cyc t=some ⟨x.tm+B,x.off⟩):=zA (by unfold Zn.lastT Zn.a6a;rw [HY0.out,zQ HP.out,HB.out,HLY.out];dsimp only;rw [zQ aou])
  have c70:=a02 b7 0
  have f70:=a0d b7 0
  repeat'(first|go_skip|go_guarded|go_step|go_upon)
  refine yO (a0q rfl _ _ W.heap.size 57 _ (0,0) _ _ rfl (xB _ _ _ _ _ _ (a07 z7 _ ne1 _)) Tryz.underlying57 rfl (by kernel_rfl) rfl) rfl ?_
  exact ⟨by rw [HR.out];rfl,yX (h7.setCell (by show W.heap.size≤w5.heap.size;omega) _) (by omega) _⟩
 have HN:Hid (Zn.a6a z ys cyc t=none):=zA (by unfold Zn.a6a;rw [HY0.out,zQ HP.out,HB.out,HLY.out];dsimp only;rw [zS aou])
 clear HP HB HLY b7
 have HBS:=zA (a6m (a1m.below HTV.out h7) (a3l HK.out.st) (by have:=HK.out.lt;omega) (t:=t))
 have c5:=a02 g7 5
 repeat' ((go_not_at_region 12);(first | (go_at_call 138;((with_reducible refine (HBS.out).mono ?_));rintro e w8 ⟨i,hi,hlo,hhi,rfl,hb8⟩;have HLL:=zA (a6l HK.out.st hi hlo hhi none);generalize hfd:decide (i < z.trans.length∧(z.trans.getD i default).tm=t)=fd at *;have HFD:=zA hfd;clear hlo hhi hfd;dsimp only)|go_skip|go_guarded|go_step|go_upon))
 have g8:=a0a g7 hb8
 have z8:=a0a z7 hb8
 have h8:=h7.trans (hb8.mono h7.size)
 have ajr:=zA (a1m.below HTV.out h8)
 have c58:=a02 g8 5
 have hz8:=a09 z8
 clear hb8 HBS c5 g7 z7
 cases fd
 ·by_cases hi0:i=0
  ·subst hi0
   have HR:Hid (Zn.lastT z ys cyc t=none):=zA (by unfold Zn.lastT;rw [HN.out];dsimp only;rw [HLL.out];simp);clear HLL
   have wm:IntKind.wrap .i64 ((0:Int) - 1) = -1:=by rw [wrap_in]<;>omega
   repeat'(first|go_skip|go_guarded|go_step|go_upon)
   refine yO (a0q rfl _ _ W.heap.size 57 _ (0,0) _ _ rfl (xB _ _ _ _ _ _ z8) Tryz.underlying57 rfl (by kernel_rfl) rfl) rfl ?_;exact ⟨by rw [HR.out];rfl,yX h8 (by omega) _⟩
  obtain ⟨m,rfl⟩ : ∃ m,i=m+1:=⟨i - 1,by omega⟩
  have HR:Hid (Zn.lastT z ys cyc t=some (z.trans.getD m default)):=zA (by unfold Zn.lastT;rw [HN.out];dsimp only;rw [HLL.out];simp)
  have wm:IntKind.wrap .i64 (((m+1:Nat):Int) - 1)=(m:Int):=by rw [wrap_in]<;>omega
  have t1 : ¬ (m:Int) < 0:=by omega
  have t2:(m:Int) < (z.trans.length:Int):=by omega
  obtain ⟨tb,tof,tc,a5d,TT',tfr,htv,tq1,tq2⟩:=a2b.open ajr.out (by omega)
  subst htv
  obtain ⟨z0,k3⟩:=tq2 m (by omega)
  have z1:(tof+m * 2+2≤a5d.size)=True:=xN z0
  clear tq2 z0 HLL
  generalize z.trans.getD m default=x at *
  have hon:ones #[x.tm,x.off]=true:=by simp [ones,a0n]
  repeat'(first|go_skip|go_guarded|go_step|go_upon)
  refine yO (a0q rfl _ _ W.heap.size 57 _ (0,0) _ _ rfl (xB _ _ _ _ _ _ z8) Tryz.underlying57 rfl (by kernel_rfl) rfl) rfl ?_
  exact ⟨by rw [HR.out];rfl,yX h8 (by omega) _⟩
 have hin:i < z.trans.length:=by have:=HFD.out;simp only [zM] at this;exact this.1
 have t1 : ¬ (i:Int) < 0:=by omega
 have t2:(i:Int) < (z.trans.length:Int):=by omega
 obtain ⟨tb,tof,tc,a5d,TT',tfr,htv,tq1,tq2⟩:=a2b.open ajr.out (by omega)
 subst htv
 obtain ⟨z0,k3⟩:=tq2 i hin
 have z1:(tof+i * 2+2≤a5d.size)=True:=xN z0
 have HR:Hid (Zn.lastT z ys cyc t=some (z.trans.getD i default)):=zA (by unfold Zn.lastT;rw [HN.out];dsimp only;rw [HLL.out,zQ rfl])
 clear tq2 z0 HLL
 generalize z.trans.getD i default=x at *
 have hon:ones #[x.tm,x.off]=true:=by simp [ones,a0n]
 repeat'(first|go_skip|go_guarded|go_step|go_upon)
 refine yO (a0q rfl _ _ W.heap.size 57 _ (0,0) _ _ rfl (xB _ _ _ _ _ _ z8) Tryz.underlying57 rfl (by kernel_rfl) rfl) rfl ?_
 exact ⟨by rw [HR.out];rfl,yX h8 (by omega) _⟩
end Go.Proofs.YtppjleebbjipbaaGreat
namespace Zn
def a5a (z:a0w) (ys:List Tr) (cyc t:Int):Int :=
 match lastT z ys cyc t with
 | some x=>x.off
 | none=>z.start
end Zn
namespace Go.Proofs.YtppjleebbjipbaaGreat
open Go.RowKit
set_option maxRecDepth 20000
set_option maxHeartbeats 8000000
theorem a96 {W:World} {g:Nat} {z:Zn.a0w} {ys:List Zn.Tr} {cyc:Int} (h:aec W g z ys cyc) (hk:Zn.Ck z ys cyc) {t:Int} (ht0 : -4503599627370496≤t) (ht1:t≤4503599627370496) :
  Calls Tryz.prog 56 #[.pointer (some ⟨g,0,none⟩),.int .i64 t] W fun e w'=>e=.returned (.int .i64 (Zn.a5a z ys cyc t))∧Below W W w':=by
 have HL:=zA (abf h hk ht0 ht1)
 obtain ⟨mv,rv,tv,yv,sv,hg,_,_⟩:=h
 unfold Zn.a5a
 unfold aha at HL
 go_enter Tryz.func56,Tryz.ntmps56
 cases hx:Zn.lastT z ys cyc t with
 | some x =>
  rw [hx] at HL
  have HLX:=zA (show Calls Tryz.prog 96 #[.pointer (some ⟨g,0,none⟩),.int .i64 t] W fun e w'=>e=.returned (.tuple #[.agg #[x.tm,x.off],.bool true])∧Below W W w' from HL.out)
  have hon:ones #[x.tm,x.off]=true:=by simp [ones,a0n]
  repeat' (first | (go_at_call 96;((with_reducible refine (HLX.out).mono ?_));rintro e w5 ⟨rfl,hb5⟩;have b5:=a0a hg hb5;have c4:=a02 (a06 b5 (.cells #[x.tm,x.off] 57)) 4;have g6:=hb5.alloc hb5.size (.cells #[x.tm,x.off] 57);dsimp only)|go_skip|go_guarded|go_step|go_upon)
  go_ret
  exact ⟨rfl,g6⟩
 | none =>
  rw [hx] at HL
  have HLX:=zA (show Calls Tryz.prog 96 #[.pointer (some ⟨g,0,none⟩),.int .i64 t] W fun e w'=>e=.returned (.tuple #[.agg #[(0:Int),(0:Int)],.bool false])∧Below W W w' from HL.out)
  repeat' (first | (go_at_call 96;((with_reducible refine (HLX.out).mono ?_));rintro e w5 ⟨rfl,hb5⟩;have b5:=a0a hg hb5;have c4:=a02 (a06 b5 (.cells #[(0:Int),(0:Int)] 57)) 4;have g6:=hb5.alloc hb5.size (.cells #[(0:Int),(0:Int)] 57);dsimp only)|go_skip|go_guarded|go_step|go_upon)
  go_ret
  exact ⟨rfl,g6⟩
end Go.Proofs.YtppjleebbjipbaaGreat
