/-
  zone.open.
-/
import Derived.Test.YtppjleebbjipbaaGreatQkZpa
import Derived.Test.YtppjleebbjipbaaGreatQkGry
set_option linter.all false
namespace Go.Proofs.YtppjleebbjipbaaGreat
open Go.RowKit Go.Shelf
attribute [local go_sem] Oper.semAt_some
set_option maxRecDepth 100000
set_option maxHeartbeats 8000000
theorem a1z {W w':World} {E:Nat→Prop} {z:Zn.a0w} {p:Option Addr} (h : ¬ Zn.Good z) (hB:Below W W w'):a3z W E z (.returned (.tuple #[.pointer p,.bool false])) w':=by
 have e:=Zn.acg h
 exact ⟨⟨p,by rw [e],fun h2=>by rw [e] at h2;cases h2⟩,hB⟩
theorem ac7 {W w':World} {E:Nat→Prop} {z:Zn.a0w} {g:Nat} (h:Zn.Good z) (hB:Below W W w') (hc:a8j w' (fun k=>E k∨W.heap.size≤k) g z (Zn.ysT z) (Zn.a0s z)) (hg:W.heap.size≤g):a3z W E z (.returned (.tuple #[.pointer (some ⟨g,0,none⟩),.bool true])) w':=by
 have e:=Zn.a0v.2 h
 exact ⟨⟨_,by rw [e],fun _=>⟨g,rfl,hc,hg⟩⟩,hB⟩
theorem InD.lt {W:World} {v:Value} {l:List Zn.Tr} {D:Nat→Prop} (h:InD D v l) (hv:a2b W v l):InD (fun k=>D k∧k < W.heap.size) v l:=fun h0 b o m c e=>⟨h h0 b o m c e,by
 subst e
 obtain ⟨a,c',e2,h2⟩:=hv
 obtain ⟨b',o',row,T,fr,e3,h4,_⟩:=h2 h0
 cases e2
 cases e3
 exact a09 h4⟩
theorem a8j.lt {W:World} {D:Nat→Prop} {g:Nat} {z:Zn.a0w} {ys:List Zn.Tr} {cyc:Int} (h:a8j W D g z ys cyc):a8j W (fun k=>D k∧k < W.heap.size) g z ys cyc:=by
 obtain ⟨mv,rv,tv,yv,sv,h1,h2,h3,h4,h5,h6⟩:=h
 exact ⟨mv,rv,tv,yv,sv,h1,h2,h3,⟨h4,a09 h1⟩,h5.lt h2,h6.lt h3⟩
theorem ak2 {W w':World} {E:Nat→Prop} {z:Zn.a0w} {e:Ending} (hz:Zn.Zok z) (hg:Zn.a4e (Zn.ysT z) (Zn.a0s z)) (h:aco W E z e w') :
  (∃ g,e=.returned (.tuple #[.pointer (some ⟨g,0,none⟩),.bool true])∧a8j w' (fun k=>E k∨W.heap.size≤k) g z (Zn.ysT z) (Zn.a0s z)∧W.heap.size≤g)∧Below W W w':=by
 obtain ⟨⟨ys,h1,h2⟩,hB⟩:=h
 have ht:=Zn.afk hz h1
 rcases h2 with ⟨h3,g,h4,h5,h6⟩ | ⟨h3,_⟩
 ·rw [ht.2 h3] at h5
  exact ⟨⟨g,h4,h5,h6⟩,hB⟩
 exact absurd (ht.1.2 hg) h3
theorem am6 {W w':World} {E:Nat→Prop} {z:Zn.a0w} {e:Ending} (hz:Zn.Zok z) (hg : ¬ Zn.a4e (Zn.ysT z) (Zn.a0s z)) (h:aco W E z e w') :
  e=.returned (.tuple #[.pointer none,.bool false])∧Below W W w':=by
 obtain ⟨⟨ys,h1,h2⟩,hB⟩:=h
 have ht:=Zn.afk hz h1
 rcases h2 with ⟨h3,_⟩ | ⟨_,h4⟩
 ·exact absurd (ht.1.1 h3) hg
 exact ⟨h4,hB⟩
theorem a0p {V:World} {g:Nat} {p q b c:Value} {T U:TypeId} (h1:obj V (g+1)=some (.cells #[p] T (0,0))) (h2:obj V (g+2)=some (.cells #[b] U (0,0))) :
  obj ((V.setCell ⟨g+1,0,none⟩ q).setCell ⟨g+2,0,none⟩ c) (g+1)=some (.cells #[q] T (0,0))∧obj ((V.setCell ⟨g+1,0,none⟩ q).setCell ⟨g+2,0,none⟩ c) (g+2)=some (.cells #[c] U (0,0)):=by
 constructor
 ·refine a07 ?_ _ (show g+1≠g+2 by omega) _
  rw [a0c,h1];rfl
 rw [a0c,a07 h2 _ (show g+2≠g+1 by omega) _];rfl
theorem a9r (HSF:acp):OpenSpec:=by
 intro W z mv rv tv yv hv hzr hzm E hE
 obtain ⟨ma,mc,rfl,_⟩:=id hv.cal.mon
 have om:=hv.cal.mon.one
 have orr:=hv.cal.rul.one
 have ot:=a1m.one hv.tr
 have oy:=a1m.one hv.yr
 obtain ⟨ta,tc,rfl⟩:=a2b.ajx hv.tr
 obtain ⟨ya,yc,rfl,hyq⟩:=id hv.yr
 have HYQ:=zA hyq
 clear hyq
 have HV0:=zA hv
 have hon:ones #[z.cal.a08,(.slice ma z.cal.a0g.length mc),z.cal.a0l,rv,z.start,(.slice ta z.trans.length tc),z.hor,(.slice ya z.a0b.length yc)]=true:=a1b om orr ot oy
 have aq5:ones #[z.cal.a08,(.slice ma z.cal.a0g.length mc),z.cal.a0l,rv]=true:=a6t om orr
 have o0:obj (((W.alloc (.cells #[z.cal.a08,(.slice ma z.cal.a0g.length mc),z.cal.a0l,rv,z.start,(.slice ta z.trans.length tc),z.hor,(.slice ya z.a0b.length yc)] 35)).alloc (.cells #[.pointer none] 96)).alloc (.cells #[.bool false] 4)) W.heap.size=some (.cells #[z.cal.a08,(.slice ma z.cal.a0g.length mc),z.cal.a0l,rv,z.start,(.slice ta z.trans.length tc),z.hor,(.slice ya z.a0b.length yc)] 35 (0,0)):=a06 (a06 (a05 _ _ _ rfl) _) _
 have o1:obj (((W.alloc (.cells #[z.cal.a08,(.slice ma z.cal.a0g.length mc),z.cal.a0l,rv,z.start,(.slice ta z.trans.length tc),z.hor,(.slice ya z.a0b.length yc)] 35)).alloc (.cells #[.pointer none] 96)).alloc (.cells #[.bool false] 4)) (W.heap.size+1)=some (.cells #[.pointer none] 96 (0,0)):=a06 (a05 _ _ _ (by simp)) _
 have o2:obj (((W.alloc (.cells #[z.cal.a08,(.slice ma z.cal.a0g.length mc),z.cal.a0l,rv,z.start,(.slice ta z.trans.length tc),z.hor,(.slice ya z.a0b.length yc)] 35)).alloc (.cells #[.pointer none] 96)).alloc (.cells #[.bool false] 4)) (W.heap.size+2)=some (.cells #[.bool false] 4 (0,0)):=a05 _ _ _ (by simp)
 have w0B:Below W W (((W.alloc (.cells #[z.cal.a08,(.slice ma z.cal.a0g.length mc),z.cal.a0l,rv,z.start,(.slice ta z.trans.length tc),z.hor,(.slice ya z.a0b.length yc)] 35)).alloc (.cells #[.pointer none] 96)).alloc (.cells #[.bool false] 4)):=((bR.alloc (zD _) _).alloc (by simp) _).alloc (by simp;omega) _
 have w0z:(((W.alloc (.cells #[z.cal.a08,(.slice ma z.cal.a0g.length mc),z.cal.a0l,rv,z.start,(.slice ta z.trans.length tc),z.hor,(.slice ya z.a0b.length yc)] 35)).alloc (.cells #[.pointer none] 96)).alloc (.cells #[.bool false] 4)).heap.size=W.heap.size+3:=by simp
 have HV:=zA (hv.below w0B)
 have hE:=zA hE
 clear hv
 refine (wW (n:=8)).1 ?_
 refine callsIn_of_wp_marks Tryz.func54 rfl trivial ?_
 simp only [Tryz.ntmps54,xJ,yS,xI,Nat.reduceAdd,Nat.reduceSub,xZ,xY,wK,wE,wO,xK]
 refine wpIn_wide.2 ?_
 repeat' ((go_not_at_region 1);(first|go_skip|go_guarded|go_step|go_upon))
 rw [show W.heap.size+1+1=W.heap.size+2 from rfl]
 generalize hV0:(((W.alloc (.cells #[z.cal.a08,(.slice ma z.cal.a0g.length mc),z.cal.a0l,rv,z.start,(.slice ta z.trans.length tc),z.hor,(.slice ya z.a0b.length yc)] 35)).alloc (.cells #[.pointer none] 96)).alloc (.cells #[.bool false] 4))=V0 at *
 clear hV0
 have z5:=a02 o0 5
 have HVC:=zA (a5q HV.out.cal hzr hzm)
 unfold a4d at HVC
 have HWS:=zA (fun Wq:World=>a1g (W:=Wq) (n:=z.start) (l:=1080) (by omega) (by omega))
 have HWH:=zA (fun Wq:World=>a1g (W:=Wq) (n:=z.hor) (l:=2251799813685248) (by omega) (by omega))
 by_cases aj8:z.trans.length≤512;rotate_left
 ·have anz:(512:Int) < (z.trans.length:Int):=by omega
  have f1:=a0d (o1) 0
  have f2:=a0d (a07 (o2) ⟨W.heap.size+1,0,none⟩ (show W.heap.size+2≠W.heap.size+1 by omega) (.pointer none)) 0
  have k1:=a02 (o1) 0
  have k2:=a02 (a07 (o2) ⟨W.heap.size+1,0,none⟩ (show W.heap.size+2≠W.heap.size+1 by omega) (.pointer none)) 0
  repeat'(first|go_skip|go_guarded|go_step|go_upon)
  refine ⟨_,a0i rfl _ _ (W.heap.size+1) (W.heap.size+2) (.pointer none) (.bool false) _ _ rfl rfl (a02 (a0p o1 o2).1 0) (a02 (a0p o1 o2).2 0) Tryz.underlying96 rfl Tryz.underlying4 rfl,a1z (fun h=>aj8 h.a.hd.t) (((w0B).setCell (by simp) _).setCell (by simp) _)⟩
 have anz : ¬ (512:Int) < (z.trans.length:Int):=by omega
 cases ajy:z.cal.ok
 ·rw [ajy] at HVC
  repeat' (first | (go_at_call 94;((with_reducible refine (HVC.out).mono ?_));rintro e w5 ⟨rfl,hB5⟩;have q0:=a0a o0 hB5;have q1:=a0a o1 hB5;have q2:=a0a o2 hB5;have qB:=w0B.trans (hB5.mono w0B.size);have z4:=a02 q0 4;have z6:=a02 q0 6;have f1:=a0d q1 0;have f2:=a0d (a07 q2 ⟨W.heap.size+1,0,none⟩ (show W.heap.size+2≠W.heap.size+1 by omega) (.pointer none)) 0;have k1:=a02 q1 0;have k2:=a02 (a07 q2 ⟨W.heap.size+1,0,none⟩ (show W.heap.size+2≠W.heap.size+1 by omega) (.pointer none)) 0;dsimp only)|go_skip|go_guarded|go_step|go_upon)
  refine ⟨_,a0i rfl _ _ (W.heap.size+1) (W.heap.size+2) (.pointer none) (.bool false) _ _ rfl rfl (a02 (a0p q1 q2).1 0) (a02 (a0p q1 q2).2 0) Tryz.underlying96 rfl Tryz.underlying4 rfl,a1z (fun h=>by have:=h.a.hd.cal;rw [ajy] at this;cases this) (((qB).setCell (by simp) _).setCell (by simp) _)⟩
 rw [ajy] at HVC
 by_cases hst : -1080≤z.start∧z.start≤1080;rotate_left
 ·rw [zW hst] at HWS
  repeat' (first | (go_at_call 94;((with_reducible refine (HVC.out).mono ?_));rintro e w5 ⟨rfl,hB5⟩;have q0:=a0a o0 hB5;have q1:=a0a o1 hB5;have q2:=a0a o2 hB5;have qB:=w0B.trans (hB5.mono w0B.size);have z4:=a02 q0 4;have z6:=a02 q0 6;have f1:=a0d q1 0;have f2:=a0d (a07 q2 ⟨W.heap.size+1,0,none⟩ (show W.heap.size+2≠W.heap.size+1 by omega) (.pointer none)) 0;have k1:=a02 q1 0;have k2:=a02 (a07 q2 ⟨W.heap.size+1,0,none⟩ (show W.heap.size+2≠W.heap.size+1 by omega) (.pointer none)) 0;dsimp only) | (go_at_call 55;((with_reducible refine (HWS.out w5).mono ?_));rintro e w6 ⟨rfl,rfl⟩;dsimp only)|go_skip|go_guarded|go_step|go_upon)
  refine ⟨_,a0i rfl _ _ (W.heap.size+1) (W.heap.size+2) (.pointer none) (.bool false) _ _ rfl rfl (a02 (a0p q1 q2).1 0) (a02 (a0p q1 q2).2 0) Tryz.underlying96 rfl Tryz.underlying4 rfl,a1z (fun h=>hst ⟨h.a.hd.s0,h.a.hd.s1⟩) (((qB).setCell (by simp) _).setCell (by simp) _)⟩
 rw [zV hst] at HWS
 by_cases hho : -2251799813685248≤z.hor∧z.hor≤2251799813685248;rotate_left
 ·rw [zW hho] at HWH
  repeat' (first | (go_at_call 94;((with_reducible refine (HVC.out).mono ?_));rintro e w5 ⟨rfl,hB5⟩;have q0:=a0a o0 hB5;have q1:=a0a o1 hB5;have q2:=a0a o2 hB5;have qB:=w0B.trans (hB5.mono w0B.size);have z4:=a02 q0 4;have z6:=a02 q0 6;have f1:=a0d q1 0;have f2:=a0d (a07 q2 ⟨W.heap.size+1,0,none⟩ (show W.heap.size+2≠W.heap.size+1 by omega) (.pointer none)) 0;have k1:=a02 q1 0;have k2:=a02 (a07 q2 ⟨W.heap.size+1,0,none⟩ (show W.heap.size+2≠W.heap.size+1 by omega) (.pointer none)) 0;dsimp only) | (go_at_call 55;((with_reducible refine (HWS.out w5).mono ?_));rintro e w6 ⟨rfl,rfl⟩;dsimp only) | (go_at_call 55;((with_reducible refine (HWH.out w5).mono ?_));rintro e w6 ⟨rfl,rfl⟩;dsimp only)|go_skip|go_guarded|go_step|go_upon)
  refine ⟨_,a0i rfl _ _ (W.heap.size+1) (W.heap.size+2) (.pointer none) (.bool false) _ _ rfl rfl (a02 (a0p q1 q2).1 0) (a02 (a0p q1 q2).2 0) Tryz.underlying96 rfl Tryz.underlying4 rfl,a1z (fun h=>hho ⟨h.a.hd.h0,h.a.hd.h1⟩) (((qB).setCell (by simp) _).setCell (by simp) _)⟩
 rw [zV hho] at HWH
 have HGH:Hid (Zn.al8 z):=zA ⟨aj8,ajy,hst.1,hst.2,hho.1,hho.2⟩
 repeat' ((go_not_at_region 3);(first | (go_at_call 94;((with_reducible refine (HVC.out).mono ?_));rintro e w5 ⟨rfl,hB5⟩;have q0:=a0a o0 hB5;have q1:=a0a o1 hB5;have q2:=a0a o2 hB5;have qB:=w0B.trans (hB5.mono w0B.size);have z4:=a02 q0 4;have z6:=a02 q0 6;have f1:=a0d q1 0;have f2:=a0d (a07 q2 ⟨W.heap.size+1,0,none⟩ (show W.heap.size+2≠W.heap.size+1 by omega) (.pointer none)) 0;have k1:=a02 q1 0;have k2:=a02 (a07 q2 ⟨W.heap.size+1,0,none⟩ (show W.heap.size+2≠W.heap.size+1 by omega) (.pointer none)) 0;dsimp only) | (go_at_call 55;((with_reducible refine (HWS.out w5).mono ?_));rintro e w6 ⟨rfl,rfl⟩;dsimp only) | (go_at_call 55;((with_reducible refine (HWH.out w5).mono ?_));rintro e w6 ⟨rfl,rfl⟩;dsimp only)|go_skip|go_guarded|go_step|go_upon))
 have HV5:=zA (HV.out.below hB5)
 have z5:=a02 q0 5
 clear HVC HWS HWH o0 o1 o2 w0B HV
 repeat'(first|go_skip|go_guarded|go_step|go_upon)
 go_loopw [37] (fun i wr => ∃ k:Nat,k≤z.trans.length∧i=.int .i64 k∧(∀ j,j < k→Zn.a9d z j)∧Below w5 w5 wr) (fun i _=>((z.trans.length:Int) - intOf i).toNat)
 case atStart=>exact ⟨0,by omega,rfl,fun j hj=>absurd hj (yA j),zC _ _⟩
 case round =>
  clear z4 z6 f1 f2 k1 k2
  obtain ⟨k,hk,rfl,htr,hC⟩:=hrel
  have HTR:=zA htr
  clear htr
  by_cases hlk:k < z.trans.length
  ·have i1:(k:Int) < (z.trans.length:Int):=by omega
   have c0w:=a0a q0 hC;have c1w:=a0a q1 hC;have c2w:=a0a q2 hC;have hBw:=qB.trans (hC.mono qB.size);have htw:=a1m.below HV5.out.tr hC;obtain ⟨tb,tof,tc',a5d,TT',tfr,htv,tq1,tq2⟩:=a2b.open htw (by omega)
   obtain ⟨rfl,rfl⟩:ta=some ⟨tb,tof,none⟩∧tc=tc':=by injection htv with a b c;exact ⟨a,c⟩
   obtain ⟨z0,k3⟩:=tq2 k hlk
   have hpre:=fun h=>a0y 0 (tq2 (k - 1) h).2 (by simp)
   have z1:(tof+k * 2+2≤a5d.size)=True:=xN z0
   obtain ⟨x,hx⟩ : ∃ x,z.trans.getD k default=x:=⟨_,rfl⟩
   obtain ⟨y,hy⟩ : ∃ y,z.trans.getD (k - 1) default=y:=⟨_,rfl⟩
   rw [hx] at k3
   have hpre:k - 1 < z.trans.length→a5d[tof+(k - 1) * 2]? = some (.int .i64 y.tm):=fun h=>by rw [← hy];exact hpre h
   have HMK:Hid ((-1080≤x.off∧x.off≤1080)→(-2251799813685248≤x.tm∧x.tm≤2251799813685248)→x.tm < z.hor→(0 < k→2160≤x.tm - y.tm)→Zn.a9d z k):=zA fun h1 h2 h3 h4=>⟨by rw [hx];exact h1.1,by rw [hx];exact h1.2,by rw [hx];exact h2.1,by rw [hx];exact h2.2,by rw [hx];exact h3,by rw [hx,hy];exact h4⟩
   have HIN:Hid (Zn.a9d z k→(-1080≤x.off∧x.off≤1080)∧(-2251799813685248≤x.tm∧x.tm≤2251799813685248)∧x.tm < z.hor∧(0 < k→2160≤x.tm - y.tm)):=zA fun h=>⟨by rw [← hx];exact ⟨h.o0,h.o1⟩,by rw [← hx];exact ⟨h.a0,h.a1⟩,by rw [← hx];exact h.h,by rw [← hx,← hy];exact h.g⟩
   have hyb:0 < k→-2251799813685248≤y.tm∧y.tm≤2251799813685248:=fun h=>by rw [← hy];exact ⟨(HTR.out (k - 1) (by omega)).a0,(HTR.out (k - 1) (by omega)).a1⟩
   (have alr:ones #[x.tm,x.off]=true:=by simp [ones,a0n]);have k6:obj (wr.alloc (.cells #[x.tm,x.off] 57)) wr.heap.size=some (.cells #[x.tm,x.off] 57 (0,0)):=a05 _ _ _ rfl;have kz:=a06 c0w (.cells #[x.tm,x.off] 57);have tw:=a06 tq1 (.cells #[x.tm,x.off] 57);have k1':=a06 c1w (.cells #[x.tm,x.off] 57);have k2':=a06 c2w (.cells #[x.tm,x.off] 57);have kB:=hBw.alloc hBw.size (.cells #[x.tm,x.off] 57);have z5w:=a02 c0w 5;clear hx hy htv tq2 z0 htw
   repeat' ((go_not_at_region 6);(first|go_skip|go_guarded|go_step|go_upon))
   clear z1 k3 z5w;have lk:=a09 k6;have lz:=a09 kz;have lt:=a09 tw;generalize hrbe:wr.heap.size=rb at *;by_cases ha : -1080≤x.off∧x.off≤1080;rotate_left
   ·have HW1:=zA (fun Wq:World=>a1g (W:=Wq) (n:=x.off) (l:=1080) (by omega) (by omega))
    rw [zW ha] at HW1
    have HBAD:Hid (¬ Zn.a9d z k):=zA fun h=>ha (HIN.out h).1
    clear ha HMK HIN
    refine a0k 34 [([],fun v _=>v=.pointer (some ⟨rb,1,none⟩)),([0],fun v _=>v=.int .i64 x.off),([1],fun v _=>v=.bool false),([2],fun v _=>v=.bool true),([3,2],fun v _=>v=.bool true),([4],fun v _=>v=undef),([5,4],fun v _=>v=undef),([6,4],fun v _=>v=undef),([7,4],fun v _=>v=undef),([4,8],fun v _=>v=.bool true),([9,7],fun v _=>v=.bool true),([10],fun v _=>v=undef),([11,10],fun v _=>v=undef),([10],fun v _=>v=undef),([13,10],fun v _=>v=undef),([12,14,10],fun v _=>v=undef),([10,15],fun v _=>v=.bool true),([16,10],fun v _=>v=.bool true),([17],fun v _=>v=undef),([18,17],fun v _=>v=undef),([19,17],fun v _=>v=undef),([20],fun v _=>v=undef),([21,20],fun v _=>v=undef),([20],fun v _=>v=undef),([23,20],fun v _=>v=undef),([20],fun v _=>v=undef),([25,20],fun v _=>v=undef),([24,26,20],fun v _=>v=undef),([27,20],fun v _=>v=undef),([28,20],fun v _=>v=undef),([22,29,20],fun v _=>v=undef),([30,20],fun v _=>v=undef),([20,31,17],fun v _=>v=undef),
      ([17,32],fun v _=>v=.bool true)] (by kernel_rfl) (by kernel_rfl) (by kernel_rfl) ?st ?ob ?_
    case st => intro k v W1 W2 h hb;rcases k with _|_|_|_|_|_|_|_|_|_|_|_|_|_|_|_|_|_|_|_|_|_|_|_|_|_|_|_|_|_|_|_|_|_|k<;>first | exact h | trivial
    case ob => and_intros<;>first|exact ⟨⟩|(intro vs Wq hW hk;(have q0:=a02 (a04 k6 hW lk) 1);(try simp only [knows,Spec.at',↓zH,↓zG,yL] at hk);simp only [Spec.at',↓zH,↓zG,a00,a03,yy0,yy1,yy2,yy3];(try simp only [hk]);first | (refine wpList_skip rfl ?_;refine wpList_nil ?_;exact a01 undef rfl (by go_simp) bR rfl) | ((repeat'(first|go_skip|go_guarded|go_step|go_upon));exact a01 _ rfl (by go_simp) bR rfl) | ((have HX:=zA (HW1.out Wq));(repeat' (first | (go_at_call 55;((with_reducible refine (HX.out).mono ?_));rintro e w9 ⟨rfl,rfl⟩;dsimp only)|go_skip|go_guarded|go_step|go_upon));exact a01 _ rfl (by go_simp) bR rfl) | fail)
    intro vs W2 hW2 hk;have v33:vs 33=.bool true:=hk 33 (by decide);clear hk;dsimp only [a1d,List.take,List.drop];simp only [Act.put,zF,zI,zJ];rw [v33];generalize vs 0=p0,vs 1=p1,vs 2=p2,vs 3=p3,vs 4=p4,vs 5=p5,vs 6=p6,vs 7=p7,vs 8=p8,vs 9=p9,vs 10=p10,vs 11=p11,vs 12=p12,vs 13=p13,vs 14=p14,vs 15=p15,vs 16=p16,vs 17=p17,vs 18=p18,vs 19=p19,vs 20=p20,vs 21=p21,vs 22=p22,vs 23=p23,vs 24=p24,vs 25=p25,vs 26=p26,vs 27=p27,vs 28=p28,vs 29=p29,vs 30=p30,vs 31=p31,vs 32=p32;clear v33;have d1:=a04 k1' hW2 (a09 k1');have d2:=a04 k2' hW2 (a09 k2');have dB:=kB.trans (hW2.mono kB.size);have f1:=a0d (d1) 0;have f2:=a0d (a07 (d2) ⟨W.heap.size+1,0,none⟩ (show W.heap.size+2≠W.heap.size+1 by omega) (.pointer none)) 0;have k1:=a02 (d1) 0;have k2:=a02 (a07 (d2) ⟨W.heap.size+1,0,none⟩ (show W.heap.size+2≠W.heap.size+1 by omega) (.pointer none)) 0;(repeat'(first|go_skip|go_guarded|go_step|go_upon));refine ⟨_,a0i rfl _ _ (W.heap.size+1) (W.heap.size+2) (.pointer none) (.bool false) _ _ rfl rfl (a02 (a0p d1 d2).1 0) (a02 (a0p d1 d2).2 0) Tryz.underlying96 rfl Tryz.underlying4 rfl,a1z (fun h=>HBAD.out (h.a.tr k hlk)) (((dB).setCell (by simp) _).setCell (by simp) _)⟩
   have HW1:=zA (fun Wq:World=>a1g (W:=Wq) (n:=x.off) (l:=1080) (by omega) (by omega));rw [zV ha] at HW1;by_cases hb : -2251799813685248≤x.tm∧x.tm≤2251799813685248;rotate_left
   ·have HW2:=zA (fun Wq:World=>a1g (W:=Wq) (n:=x.tm) (l:=2251799813685248) (by omega) (by omega))
    rw [zW hb] at HW2
    have HBAD:Hid (¬ Zn.a9d z k):=zA fun h=>hb (HIN.out h).2.1
    clear ha hb HMK HIN
    refine a0k 34 [([],fun v _=>v=.pointer (some ⟨rb,1,none⟩)),([0],fun v _=>v=.int .i64 x.off),([1],fun v _=>v=.bool true),([2],fun v _=>v=.bool false),([3,2],fun v _=>v=.bool false),([4],fun v _=>v=.pointer (some ⟨rb,0,none⟩)),([5,4],fun v _=>v=.int .i64 x.tm),([6,4],fun v _=>v=.bool false),([7,4],fun v _=>v=.bool true),([4,8],fun v _=>v=.bool true),([9,7],fun v _=>v=.bool true),([10],fun v _=>v=undef),([11,10],fun v _=>v=undef),([10],fun v _=>v=undef),([13,10],fun v _=>v=undef),([12,14,10],fun v _=>v=undef),([10,15],fun v _=>v=.bool true),([16,10],fun v _=>v=.bool true),([17],fun v _=>v=undef),([18,17],fun v _=>v=undef),([19,17],fun v _=>v=undef),([20],fun v _=>v=undef),([21,20],fun v _=>v=undef),([20],fun v _=>v=undef),([23,20],fun v _=>v=undef),([20],fun v _=>v=undef),([25,20],fun v _=>v=undef),([24,26,20],fun v _=>v=undef),([27,20],fun v _=>v=undef),([28,20],fun v _=>v=undef),([22,29,20],fun v _=>v=undef),([30,20],fun v _=>v=undef),([20,31,17],fun v _=>v=undef),
      ([17,32],fun v _=>v=.bool true)] (by kernel_rfl) (by kernel_rfl) (by kernel_rfl) ?st ?ob ?_
    case st => intro k v W1 W2 h hb;rcases k with _|_|_|_|_|_|_|_|_|_|_|_|_|_|_|_|_|_|_|_|_|_|_|_|_|_|_|_|_|_|_|_|_|_|k<;>first | exact h | trivial
    case ob => and_intros<;>first|exact ⟨⟩|(intro vs Wq hW hk;(have q0:=a02 (a04 k6 hW lk) 1);(have q1:=a02 (a04 k6 hW lk) 0);(try simp only [knows,Spec.at',↓zH,↓zG,yL] at hk);simp only [Spec.at',↓zH,↓zG,a00,a03,yy0,yy1,yy2,yy3];(try simp only [hk]);first | (refine wpList_skip rfl ?_;refine wpList_nil ?_;exact a01 undef rfl (by go_simp) bR rfl) | ((repeat'(first|go_skip|go_guarded|go_step|go_upon));exact a01 _ rfl (by go_simp) bR rfl) | ((have HX:=zA (HW1.out Wq));(repeat' (first | (go_at_call 55;((with_reducible refine (HX.out).mono ?_));rintro e w9 ⟨rfl,rfl⟩;dsimp only)|go_skip|go_guarded|go_step|go_upon));exact a01 _ rfl (by go_simp) bR rfl) | ((have HX:=zA (HW2.out Wq));(repeat' (first | (go_at_call 55;((with_reducible refine (HX.out).mono ?_));rintro e w9 ⟨rfl,rfl⟩;dsimp only)|go_skip|go_guarded|go_step|go_upon));exact a01 _ rfl (by go_simp) bR rfl) | fail)
    intro vs W2 hW2 hk;have v33:vs 33=.bool true:=hk 33 (by decide);clear hk;dsimp only [a1d,List.take,List.drop];simp only [Act.put,zF,zI,zJ];rw [v33];generalize vs 0=p0,vs 1=p1,vs 2=p2,vs 3=p3,vs 4=p4,vs 5=p5,vs 6=p6,vs 7=p7,vs 8=p8,vs 9=p9,vs 10=p10,vs 11=p11,vs 12=p12,vs 13=p13,vs 14=p14,vs 15=p15,vs 16=p16,vs 17=p17,vs 18=p18,vs 19=p19,vs 20=p20,vs 21=p21,vs 22=p22,vs 23=p23,vs 24=p24,vs 25=p25,vs 26=p26,vs 27=p27,vs 28=p28,vs 29=p29,vs 30=p30,vs 31=p31,vs 32=p32;clear v33;have d1:=a04 k1' hW2 (a09 k1');have d2:=a04 k2' hW2 (a09 k2');have dB:=kB.trans (hW2.mono kB.size);have f1:=a0d (d1) 0;have f2:=a0d (a07 (d2) ⟨W.heap.size+1,0,none⟩ (show W.heap.size+2≠W.heap.size+1 by omega) (.pointer none)) 0;have k1:=a02 (d1) 0;have k2:=a02 (a07 (d2) ⟨W.heap.size+1,0,none⟩ (show W.heap.size+2≠W.heap.size+1 by omega) (.pointer none)) 0;(repeat'(first|go_skip|go_guarded|go_step|go_upon));refine ⟨_,a0i rfl _ _ (W.heap.size+1) (W.heap.size+2) (.pointer none) (.bool false) _ _ rfl rfl (a02 (a0p d1 d2).1 0) (a02 (a0p d1 d2).2 0) Tryz.underlying96 rfl Tryz.underlying4 rfl,a1z (fun h=>HBAD.out (h.a.tr k hlk)) (((dB).setCell (by simp) _).setCell (by simp) _)⟩
   have HW2:=zA (fun Wq:World=>a1g (W:=Wq) (n:=x.tm) (l:=2251799813685248) (by omega) (by omega));rw [zV hb] at HW2;by_cases hc:x.tm < z.hor;rotate_left
   ·have hc':z.hor≤x.tm:=by omega
    have HBAD:Hid (¬ Zn.a9d z k):=zA fun h=>hc (HIN.out h).2.2.1
    clear ha hb hc HMK HIN
    refine a0k 34 [([],fun v _=>v=.pointer (some ⟨rb,1,none⟩)),([0],fun v _=>v=.int .i64 x.off),([1],fun v _=>v=.bool true),([2],fun v _=>v=.bool false),([3,2],fun v _=>v=.bool false),([4],fun v _=>v=.pointer (some ⟨rb,0,none⟩)),([5,4],fun v _=>v=.int .i64 x.tm),([6,4],fun v _=>v=.bool true),([7,4],fun v _=>v=.bool false),([4,8],fun v _=>v=.bool false),([9,7],fun v _=>v=.bool false),([10],fun v _=>v=.pointer (some ⟨rb,0,none⟩)),([11,10],fun v _=>v=.int .i64 x.tm),([10],fun v _=>v=.pointer (some ⟨W.heap.size,6,none⟩)),([13,10],fun v _=>v=.int .i64 z.hor),([12,14,10],fun v _=>v=.bool true),([10,15],fun v _=>v=.bool true),([16,10],fun v _=>v=.bool true),([17],fun v _=>v=undef),([18,17],fun v _=>v=undef),([19,17],fun v _=>v=undef),([20],fun v _=>v=undef),([21,20],fun v _=>v=undef),([20],fun v _=>v=undef),([23,20],fun v _=>v=undef),([20],fun v _=>v=undef),([25,20],fun v _=>v=undef),([24,26,20],fun v _=>v=undef),([27,20],fun v _=>v=undef),([28,20],fun v _=>v=undef),([22,29,20],fun v _=>v=undef),([30,20],fun v _=>v=undef),([20,31,17],fun v _=>v=undef),
      ([17,32],fun v _=>v=.bool true)] (by kernel_rfl) (by kernel_rfl) (by kernel_rfl) ?st ?ob ?_
    case st => intro k v W1 W2 h hb;rcases k with _|_|_|_|_|_|_|_|_|_|_|_|_|_|_|_|_|_|_|_|_|_|_|_|_|_|_|_|_|_|_|_|_|_|k<;>first | exact h | trivial
    case ob => and_intros<;>first|exact ⟨⟩|(intro vs Wq hW hk;(have q0:=a02 (a04 k6 hW lk) 1);(have q1:=a02 (a04 k6 hW lk) 0);(have q2:=a02 (a04 kz hW lz) 6);(try simp only [knows,Spec.at',↓zH,↓zG,yL] at hk);simp only [Spec.at',↓zH,↓zG,a00,a03,yy0,yy1,yy2,yy3];(try simp only [hk]);first | (refine wpList_skip rfl ?_;refine wpList_nil ?_;exact a01 undef rfl (by go_simp) bR rfl) | ((repeat'(first|go_skip|go_guarded|go_step|go_upon));exact a01 _ rfl (by go_simp) bR rfl) | ((have HX:=zA (HW1.out Wq));(repeat' (first | (go_at_call 55;((with_reducible refine (HX.out).mono ?_));rintro e w9 ⟨rfl,rfl⟩;dsimp only)|go_skip|go_guarded|go_step|go_upon));exact a01 _ rfl (by go_simp) bR rfl) | ((have HX:=zA (HW2.out Wq));(repeat' (first | (go_at_call 55;((with_reducible refine (HX.out).mono ?_));rintro e w9 ⟨rfl,rfl⟩;dsimp only)|go_skip|go_guarded|go_step|go_upon));exact a01 _ rfl (by go_simp) bR rfl) | fail)
    intro vs W2 hW2 hk;have v33:vs 33=.bool true:=hk 33 (by decide);clear hk;dsimp only [a1d,List.take,List.drop];simp only [Act.put,zF,zI,zJ];rw [v33];generalize vs 0=p0,vs 1=p1,vs 2=p2,vs 3=p3,vs 4=p4,vs 5=p5,vs 6=p6,vs 7=p7,vs 8=p8,vs 9=p9,vs 10=p10,vs 11=p11,vs 12=p12,vs 13=p13,vs 14=p14,vs 15=p15,vs 16=p16,vs 17=p17,vs 18=p18,vs 19=p19,vs 20=p20,vs 21=p21,vs 22=p22,vs 23=p23,vs 24=p24,vs 25=p25,vs 26=p26,vs 27=p27,vs 28=p28,vs 29=p29,vs 30=p30,vs 31=p31,vs 32=p32;clear v33;have d1:=a04 k1' hW2 (a09 k1');have d2:=a04 k2' hW2 (a09 k2');have dB:=kB.trans (hW2.mono kB.size);have f1:=a0d (d1) 0;have f2:=a0d (a07 (d2) ⟨W.heap.size+1,0,none⟩ (show W.heap.size+2≠W.heap.size+1 by omega) (.pointer none)) 0;have k1:=a02 (d1) 0;have k2:=a02 (a07 (d2) ⟨W.heap.size+1,0,none⟩ (show W.heap.size+2≠W.heap.size+1 by omega) (.pointer none)) 0;(repeat'(first|go_skip|go_guarded|go_step|go_upon));refine ⟨_,a0i rfl _ _ (W.heap.size+1) (W.heap.size+2) (.pointer none) (.bool false) _ _ rfl rfl (a02 (a0p d1 d2).1 0) (a02 (a0p d1 d2).2 0) Tryz.underlying96 rfl Tryz.underlying4 rfl,a1z (fun h=>HBAD.out (h.a.tr k hlk)) (((dB).setCell (by simp) _).setCell (by simp) _)⟩
   (have hc' : ¬ z.hor≤x.tm:=by omega);by_cases hk0:k=0
   ·have HOK:Hid (Zn.a9d z k):=zA (HMK.out ha hb hc (fun h=>by omega))
    (have i0 : ¬ 0 < k:=by omega);clear hk0;clear ha hb hc HMK HIN
    refine a0k 34 [([],fun v _=>v=.pointer (some ⟨rb,1,none⟩)),([0],fun v _=>v=.int .i64 x.off),([1],fun v _=>v=.bool true),([2],fun v _=>v=.bool false),([3,2],fun v _=>v=.bool false),([4],fun v _=>v=.pointer (some ⟨rb,0,none⟩)),([5,4],fun v _=>v=.int .i64 x.tm),([6,4],fun v _=>v=.bool true),([7,4],fun v _=>v=.bool false),([4,8],fun v _=>v=.bool false),([9,7],fun v _=>v=.bool false),([10],fun v _=>v=.pointer (some ⟨rb,0,none⟩)),([11,10],fun v _=>v=.int .i64 x.tm),([10],fun v _=>v=.pointer (some ⟨W.heap.size,6,none⟩)),([13,10],fun v _=>v=.int .i64 z.hor),([12,14,10],fun v _=>v=.bool false),([10,15],fun v _=>v=.bool false),([16,10],fun v _=>v=.bool false),([17],fun v _=>v=.int .i64 (k:Nat)),([18,17],fun v _=>v=.bool false),([19,17],fun v _=>v=.bool false),([20],fun v _=>v=undef),([21,20],fun v _=>v=undef),([20],fun v _=>v=undef),([23,20],fun v _=>v=undef),([20],fun v _=>v=undef),([25,20],fun v _=>v=undef),([24,26,20],fun v _=>v=undef),([27,20],fun v _=>v=undef),([28,20],fun v _=>v=undef),([22,29,20],fun v _=>v=undef),([30,20],fun v _=>v=undef),([20,31,17],fun v _=>v=.bool false),
      ([17,32],fun v _=>v=.bool false)] (by kernel_rfl) (by kernel_rfl) (by kernel_rfl) ?st ?ob ?_
    case st => intro k v W1 W2 h hb;rcases k with _|_|_|_|_|_|_|_|_|_|_|_|_|_|_|_|_|_|_|_|_|_|_|_|_|_|_|_|_|_|_|_|_|_|k<;>first | exact h | trivial
    case ob => and_intros<;>first|exact ⟨⟩|(intro vs Wq hW hk;(have q0:=a02 (a04 k6 hW lk) 1);(have q1:=a02 (a04 k6 hW lk) 0);(have q2:=a02 (a04 kz hW lz) 6);(try simp only [knows,Spec.at',↓zH,↓zG,yL] at hk);simp only [Spec.at',↓zH,↓zG,a00,a03,yy0,yy1,yy2,yy3];(try simp only [hk]);first | ((repeat'(first|go_skip|go_guarded|go_step|go_upon));exact a01 _ rfl (by go_simp) bR rfl) | ((have HX:=zA (HW1.out Wq));(repeat' (first | (go_at_call 55;((with_reducible refine (HX.out).mono ?_));rintro e w9 ⟨rfl,rfl⟩;dsimp only)|go_skip|go_guarded|go_step|go_upon));exact a01 _ rfl (by go_simp) bR rfl) | ((have HX:=zA (HW2.out Wq));(repeat' (first | (go_at_call 55;((with_reducible refine (HX.out).mono ?_));rintro e w9 ⟨rfl,rfl⟩;dsimp only)|go_skip|go_guarded|go_step|go_upon));exact a01 _ rfl (by go_simp) bR rfl) | fail)
    intro vs W2 hW2 hk;have v33:vs 33=.bool false:=hk 33 (by decide);clear hk;dsimp only [a1d,List.take,List.drop];simp only [Act.put,zF,zI,zJ];rw [v33];generalize vs 0=p0,vs 1=p1,vs 2=p2,vs 3=p3,vs 4=p4,vs 5=p5,vs 6=p6,vs 7=p7,vs 8=p8,vs 9=p9,vs 10=p10,vs 11=p11,vs 12=p12,vs 13=p13,vs 14=p14,vs 15=p15,vs 16=p16,vs 17=p17,vs 18=p18,vs 19=p19,vs 20=p20,vs 21=p21,vs 22=p22,vs 23=p23,vs 24=p24,vs 25=p25,vs 26=p26,vs 27=p27,vs 28=p28,vs 29=p29,vs 30=p30,vs 31=p31,vs 32=p32;clear v33;have dB:=hC.trans ((bR.alloc (zD _) _).trans (hW2.mono (by simp)) |>.mono hC.size);(repeat'(first|go_skip|go_guarded|go_step|go_upon));exact ⟨⟨k+1,by omega,by go_num,fun j hj=>(zU j k).elim (fun h=>HTR.out j h) (fun h=>by rw [show j=k by omega];exact HOK.out),dB⟩,by simp [intOf];omega⟩
   (have i0:0 < k:=by omega);have ey0:=hpre (by omega);have hyb:=hyb (by omega)
   have wk1:IntKind.wrap .i64 ((k:Int) - 1)=((k - 1:Nat):Int):=by rw [wrap_in]<;>omega
   have wxy:=zWI (x.tm - y.tm);(have i2:k - 1 < z.trans.length:=by omega);(have i3 : ¬ ((k - 1:Nat):Int) < 0:=by omega);by_cases hg:x.tm - y.tm < 2160
   ·have HBAD:Hid (¬ Zn.a9d z k):=zA fun h=>by have:=(HIN.out h).2.2.2 (by omega);omega
    clear ha hb hc HMK HIN
    refine a0k 34 [([],fun v _=>v=.pointer (some ⟨rb,1,none⟩)),([0],fun v _=>v=.int .i64 x.off),([1],fun v _=>v=.bool true),([2],fun v _=>v=.bool false),([3,2],fun v _=>v=.bool false),([4],fun v _=>v=.pointer (some ⟨rb,0,none⟩)),([5,4],fun v _=>v=.int .i64 x.tm),([6,4],fun v _=>v=.bool true),([7,4],fun v _=>v=.bool false),([4,8],fun v _=>v=.bool false),([9,7],fun v _=>v=.bool false),([10],fun v _=>v=.pointer (some ⟨rb,0,none⟩)),([11,10],fun v _=>v=.int .i64 x.tm),([10],fun v _=>v=.pointer (some ⟨W.heap.size,6,none⟩)),([13,10],fun v _=>v=.int .i64 z.hor),([12,14,10],fun v _=>v=.bool false),([10,15],fun v _=>v=.bool false),([16,10],fun v _=>v=.bool false),([17],fun v _=>v=.int .i64 (k:Nat)),([18,17],fun v _=>v=.bool true),([19,17],fun v _=>v=.bool true),([20],fun v _=>v=.pointer (some ⟨rb,0,none⟩)),([21,20],fun v _=>v=.int .i64 x.tm),([20],fun v _=>v=.pointer (some ⟨W.heap.size,5,none⟩)),([23,20],fun v _=>v=.slice (some ⟨tb,tof,none⟩) z.trans.length tc),([20],fun v _=>v=.int .i64 (k:Nat)),([25,20],fun v _=>v=.int .i64 ((k - 1:Nat):Int)),([24,26,20],fun v _=>v=.pointer (some ⟨tb,tof+(k - 1) * 2,none⟩)),([27,20],fun v _=>v=.pointer (some ⟨tb,tof+(k - 1) * 2,none⟩)),([28,20],fun v _=>v=.int .i64 y.tm),([22,29,20],fun v _=>v=.int .i64 (x.tm - y.tm)),([30,20],fun v _=>v=.bool true),([20,31,17],fun v _=>v=.bool true),
      ([17,32],fun v _=>v=.bool true)] (by kernel_rfl) (by kernel_rfl) (by kernel_rfl) ?st ?ob ?_
    case st => intro k v W1 W2 h hb;rcases k with _|_|_|_|_|_|_|_|_|_|_|_|_|_|_|_|_|_|_|_|_|_|_|_|_|_|_|_|_|_|_|_|_|_|k<;>first | exact h | trivial
    case ob => and_intros<;>first|exact ⟨⟩|(intro vs Wq hW hk;(have q0:=a02 (a04 k6 hW lk) 1);(have q1:=a02 (a04 k6 hW lk) 0);(have q2:=a02 (a04 kz hW lz) 6);(have q3:=a02 (a04 kz hW lz) 5);(have q4:=(a02 (a04 tw hW lt) (tof+(k - 1) * 2)).trans ey0);(try simp only [knows,Spec.at',↓zH,↓zG,yL] at hk);simp only [Spec.at',↓zH,↓zG,a00,a03,yy0,yy1,yy2,yy3];(try simp only [hk]);first | ((repeat'(first|go_skip|go_guarded|go_step|go_upon));exact a01 _ rfl (by go_simp) bR rfl) | ((have HX:=zA (HW1.out Wq));(repeat' (first | (go_at_call 55;((with_reducible refine (HX.out).mono ?_));rintro e w9 ⟨rfl,rfl⟩;dsimp only)|go_skip|go_guarded|go_step|go_upon));exact a01 _ rfl (by go_simp) bR rfl) | ((have HX:=zA (HW2.out Wq));(repeat' (first | (go_at_call 55;((with_reducible refine (HX.out).mono ?_));rintro e w9 ⟨rfl,rfl⟩;dsimp only)|go_skip|go_guarded|go_step|go_upon));exact a01 _ rfl (by go_simp) bR rfl) | fail)
    intro vs W2 hW2 hk;have v33:vs 33=.bool true:=hk 33 (by decide);clear hk;dsimp only [a1d,List.take,List.drop];simp only [Act.put,zF,zI,zJ];rw [v33];generalize vs 0=p0,vs 1=p1,vs 2=p2,vs 3=p3,vs 4=p4,vs 5=p5,vs 6=p6,vs 7=p7,vs 8=p8,vs 9=p9,vs 10=p10,vs 11=p11,vs 12=p12,vs 13=p13,vs 14=p14,vs 15=p15,vs 16=p16,vs 17=p17,vs 18=p18,vs 19=p19,vs 20=p20,vs 21=p21,vs 22=p22,vs 23=p23,vs 24=p24,vs 25=p25,vs 26=p26,vs 27=p27,vs 28=p28,vs 29=p29,vs 30=p30,vs 31=p31,vs 32=p32;clear v33;have d1:=a04 k1' hW2 (a09 k1');have d2:=a04 k2' hW2 (a09 k2');have dB:=kB.trans (hW2.mono kB.size);have f1:=a0d (d1) 0;have f2:=a0d (a07 (d2) ⟨W.heap.size+1,0,none⟩ (show W.heap.size+2≠W.heap.size+1 by omega) (.pointer none)) 0;have k1:=a02 (d1) 0;have k2:=a02 (a07 (d2) ⟨W.heap.size+1,0,none⟩ (show W.heap.size+2≠W.heap.size+1 by omega) (.pointer none)) 0;(repeat'(first|go_skip|go_guarded|go_step|go_upon));refine ⟨_,a0i rfl _ _ (W.heap.size+1) (W.heap.size+2) (.pointer none) (.bool false) _ _ rfl rfl (a02 (a0p d1 d2).1 0) (a02 (a0p d1 d2).2 0) Tryz.underlying96 rfl Tryz.underlying4 rfl,a1z (fun h=>HBAD.out (h.a.tr k hlk)) (((dB).setCell (by simp) _).setCell (by simp) _)⟩
   have HOK:Hid (Zn.a9d z k):=zA (HMK.out ha hb hc (fun h=>by omega));clear ha hb hc HMK HIN
   refine a0k 34 [([],fun v _=>v=.pointer (some ⟨rb,1,none⟩)),([0],fun v _=>v=.int .i64 x.off),([1],fun v _=>v=.bool true),([2],fun v _=>v=.bool false),([3,2],fun v _=>v=.bool false),([4],fun v _=>v=.pointer (some ⟨rb,0,none⟩)),([5,4],fun v _=>v=.int .i64 x.tm),([6,4],fun v _=>v=.bool true),([7,4],fun v _=>v=.bool false),([4,8],fun v _=>v=.bool false),([9,7],fun v _=>v=.bool false),([10],fun v _=>v=.pointer (some ⟨rb,0,none⟩)),([11,10],fun v _=>v=.int .i64 x.tm),([10],fun v _=>v=.pointer (some ⟨W.heap.size,6,none⟩)),([13,10],fun v _=>v=.int .i64 z.hor),([12,14,10],fun v _=>v=.bool false),([10,15],fun v _=>v=.bool false),([16,10],fun v _=>v=.bool false),([17],fun v _=>v=.int .i64 (k:Nat)),([18,17],fun v _=>v=.bool true),([19,17],fun v _=>v=.bool true),([20],fun v _=>v=.pointer (some ⟨rb,0,none⟩)),([21,20],fun v _=>v=.int .i64 x.tm),([20],fun v _=>v=.pointer (some ⟨W.heap.size,5,none⟩)),([23,20],fun v _=>v=.slice (some ⟨tb,tof,none⟩) z.trans.length tc),([20],fun v _=>v=.int .i64 (k:Nat)),([25,20],fun v _=>v=.int .i64 ((k - 1:Nat):Int)),([24,26,20],fun v _=>v=.pointer (some ⟨tb,tof+(k - 1) * 2,none⟩)),([27,20],fun v _=>v=.pointer (some ⟨tb,tof+(k - 1) * 2,none⟩)),([28,20],fun v _=>v=.int .i64 y.tm),([22,29,20],fun v _=>v=.int .i64 (x.tm - y.tm)),([30,20],fun v _=>v=.bool false),([20,31,17],fun v _=>v=.bool false),
     ([17,32],fun v _=>v=.bool false)] (by kernel_rfl) (by kernel_rfl) (by kernel_rfl) ?st ?ob ?_
   case st => intro k v W1 W2 h hb;rcases k with _|_|_|_|_|_|_|_|_|_|_|_|_|_|_|_|_|_|_|_|_|_|_|_|_|_|_|_|_|_|_|_|_|_|k<;>first | exact h | trivial
   case ob => and_intros<;>first|exact ⟨⟩|(intro vs Wq hW hk;(have q0:=a02 (a04 k6 hW lk) 1);(have q1:=a02 (a04 k6 hW lk) 0);(have q2:=a02 (a04 kz hW lz) 6);(have q3:=a02 (a04 kz hW lz) 5);(have q4:=(a02 (a04 tw hW lt) (tof+(k - 1) * 2)).trans ey0);(try simp only [knows,Spec.at',↓zH,↓zG,yL] at hk);simp only [Spec.at',↓zH,↓zG,a00,a03,yy0,yy1,yy2,yy3];(try simp only [hk]);first | ((repeat'(first|go_skip|go_guarded|go_step|go_upon));exact a01 _ rfl (by go_simp) bR rfl) | ((have HX:=zA (HW1.out Wq));(repeat' (first | (go_at_call 55;((with_reducible refine (HX.out).mono ?_));rintro e w9 ⟨rfl,rfl⟩;dsimp only)|go_skip|go_guarded|go_step|go_upon));exact a01 _ rfl (by go_simp) bR rfl) | ((have HX:=zA (HW2.out Wq));(repeat' (first | (go_at_call 55;((with_reducible refine (HX.out).mono ?_));rintro e w9 ⟨rfl,rfl⟩;dsimp only)|go_skip|go_guarded|go_step|go_upon));exact a01 _ rfl (by go_simp) bR rfl) | fail)
   intro vs W2 hW2 hk;have v33:vs 33=.bool false:=hk 33 (by decide);clear hk;dsimp only [a1d,List.take,List.drop];simp only [Act.put,zF,zI,zJ];rw [v33];generalize vs 0=p0,vs 1=p1,vs 2=p2,vs 3=p3,vs 4=p4,vs 5=p5,vs 6=p6,vs 7=p7,vs 8=p8,vs 9=p9,vs 10=p10,vs 11=p11,vs 12=p12,vs 13=p13,vs 14=p14,vs 15=p15,vs 16=p16,vs 17=p17,vs 18=p18,vs 19=p19,vs 20=p20,vs 21=p21,vs 22=p22,vs 23=p23,vs 24=p24,vs 25=p25,vs 26=p26,vs 27=p27,vs 28=p28,vs 29=p29,vs 30=p30,vs 31=p31,vs 32=p32;clear v33;have dB:=hC.trans ((bR.alloc (zD _) _).trans (hW2.mono (by simp)) |>.mono hC.size);(repeat'(first|go_skip|go_guarded|go_step|go_upon));exact ⟨⟨k+1,by omega,by go_num,fun j hj=>(zU j k).elim (fun h=>HTR.out j h) (fun h=>by rw [show j=k by omega];exact HOK.out),dB⟩,by simp [intOf];omega⟩
  have i1 : ¬ (k:Int) < (z.trans.length:Int):=by omega
  obtain rfl:k=z.trans.length:=by omega
  have c0:=a0a q0 hC
  have c1:=a0a q1 hC
  have c2:=a0a q2 hC
  have hB:=qB.trans (hC.mono qB.size)
  have HVW:=zA (HV5.out.below hC)
  have apt:Hid (∀ i,i < z.trans.length→Zn.a9d z i):=zA HTR.out
  clear q0 q1 q2 qB hC HV5 hB5 HTR i1 z5
  have z7:=a02 c0 7
  generalize wr=w at *
  by_cases hyl:z.a0b.length=0∨z.a0b.length=2;rotate_left
  ·have y0:(z.a0b = [])=False:=eq_false fun e=>hyl (.inl (by rw [e];rfl))
   have y2:(z.a0b.length=2)=False:=eq_false fun e=>hyl (.inr e)
   have y0b:((z.a0b.length:Int) != 0)=true:=wX.2 (by omega);have y2b:((z.a0b.length:Int) != 2)=true:=wX.2 (by omega);have HYN:=zA hyl;clear hyl;have f1:=a0d (c1) 0;have f2:=a0d (a07 (c2) ⟨W.heap.size+1,0,none⟩ (show W.heap.size+2≠W.heap.size+1 by omega) (.pointer none)) 0;have k1:=a02 (c1) 0;have k2:=a02 (a07 (c2) ⟨W.heap.size+1,0,none⟩ (show W.heap.size+2≠W.heap.size+1 by omega) (.pointer none)) 0
   repeat'(first|go_skip|go_guarded|go_step|go_upon)
   refine ⟨_,a0i rfl _ _ (W.heap.size+1) (W.heap.size+2) (.pointer none) (.bool false) _ _ rfl rfl (a02 (a0p c1 c2).1 0) (a02 (a0p c1 c2).2 0) Tryz.underlying96 rfl Tryz.underlying4 rfl,a1z (fun h=>HYN.out h.a.yl) (((hB).setCell (by simp) _).setCell (by simp) _)⟩
  repeat' ((
       go_not_at_region 9);(first|go_skip|go_guarded|go_step|go_upon))
  generalize hyv:Value.slice ya z.a0b.length yc=yvv
  have HYV:=zA hyv
  clear hyv
  go_cut [86] from 77 to 87 (fun v86 wx=>v86=.bool false∧wx=w)
  case first =>
   rcases hyl with h | h
   ·have y0:(z.a0b = [])=True:=xN (yH.1 h)
    clear h
    repeat'(first|go_skip|go_guarded|go_step|go_upon)
    go_meet;exact ⟨rfl,rfl⟩
   ·have y0:(z.a0b = [])=False:=eq_false fun e=>by rw [e] at h;cases h
    have y2:(z.a0b.length=2)=True:=xN h;have HLE:=zA h;clear h
    repeat'(first|go_skip|go_guarded|go_step|go_upon)
    go_meet;exact ⟨by rw [HLE.out];rfl,rfl⟩
  obtain ⟨rfl,hw⟩:=hcut
  obtain rfl:=hw.symm
  obtain rfl:=HYV.out
  clear HYV
  have ang:=zA hyl
  clear hyl
  repeat'(first|go_skip|go_guarded|go_step|go_upon)
  go_loopw [90] (fun i wr2 => ∃ k:Nat,k≤z.a0b.length∧i=.int .i64 k∧(∀ j,j < k→Zn.YR.Ok z.cal (z.a0b.getD j default))∧Below w w wr2) (fun i _=>((z.a0b.length:Int) - intOf i).toNat)
  case atStart=>exact ⟨0,by omega,rfl,fun j hj=>absurd hj (yA j),zC _ _⟩
  case round =>
   obtain ⟨k,hk,rfl,hyr,hC⟩:=hrel;(have hyl2:z.a0b.length≤2:=by have:=ang.out;omega);by_cases hlk:k < z.a0b.length
   ·have i1:(k:Int) < (z.a0b.length:Int):=by omega
    have HYR:=zA hyr;have c0w:=a0a c0 hC;have c1w:=a0a c1 hC;have c2w:=a0a c2 hC;have hBw:=hB.trans (hC.mono hB.size);obtain ⟨yb,yo,a8k,YT',yfr,rfl,q1,q2⟩:=HYQ.out (by omega);obtain ⟨z0,k3a⟩:=q2 k hlk;have z1:(yo+k * 5+5≤a8k.size)=True:=xN z0;have hyb:=a04 q1 hBw (a09 q1)
    obtain ⟨r,hr⟩ : ∃ r,z.a0b.getD k default=r:=⟨_,rfl⟩
    have HRR:=zA hr
    have k3:a8k.extract (yo+k * 5) (yo+k * 5+5)=#[.int .i64 r.mon,.int .i64 r.wk,.int .i64 r.wd,.int .i64 r.mn,.int .i64 r.off]:=by
     rw [← hr];exact k3a
    clear k3a;(have aq4:ones #[r.mon,r.wk,r.wd,r.mn,r.off]=true:=by simp [ones,a0n]);have k6:obj (wr.alloc (.cells #[r.mon,r.wk,r.wd,r.mn,r.off] 84)) wr.heap.size=some (.cells #[r.mon,r.wk,r.wd,r.mn,r.off] 84 (0,0)):=a05 _ _ _ rfl;have kz:=a06 c0w (.cells #[r.mon,r.wk,r.wd,r.mn,r.off] 84);have d1:=a06 c1w (.cells #[r.mon,r.wk,r.wd,r.mn,r.off] 84);have d2:=a06 c2w (.cells #[r.mon,r.wk,r.wd,r.mn,r.off] 84);have kB:=hBw.alloc hBw.size (.cells #[r.mon,r.wk,r.wd,r.mn,r.off] 84);have z7:=a02 c0w 7;have r0:=a02 k6 0;have r1:=a02 k6 1;have r2:=a02 k6 2;have r3:=a02 k6 3;have r4:=a02 k6 4;have zm:=a02 kz 1;clear hr q2 z0 hyr q1;have HW1:=zA (fun Wq:World=>a1g (W:=Wq) (n:=r.off) (l:=1080) (by omega) (by omega));by_cases ha : -1080≤r.off∧r.off≤1080
    ·rw [zV ha] at HW1
     by_cases t0:r.mon < 1
     ·have HBAD:Hid (¬ Zn.YR.Ok z.cal (z.a0b.getD k default)):=zA fun h=>by rw [HRR.out] at h;have h0:=h.m0;have h1:=h.m1;have h2:=h.k0;have h3:=h.k1;have h4:=h.d0;have h5:=h.d1;have h6:=h.n0;have h7:=h.n1;omega
      have f1:=a0d (d1) 0;have f2:=a0d (a07 (d2) ⟨W.heap.size+1,0,none⟩ (show W.heap.size+2≠W.heap.size+1 by omega) (.pointer none)) 0;have k1:=a02 (d1) 0;have k2:=a02 (a07 (d2) ⟨W.heap.size+1,0,none⟩ (show W.heap.size+2≠W.heap.size+1 by omega) (.pointer none)) 0
      as_aux_lemma =>
       repeat' (first | (go_at_call 55;((with_reducible refine (HW1.out _).mono ?_));rintro e w9 ⟨rfl,rfl⟩;dsimp only)|go_skip|go_guarded|go_step|go_upon)
       refine ⟨_,a0i rfl _ _ (W.heap.size+1) (W.heap.size+2) (.pointer none) (.bool false) _ _ rfl rfl (a02 (a0p d1 d2).1 0) (a02 (a0p d1 d2).2 0) Tryz.underlying96 rfl Tryz.underlying4 rfl,a1z (fun h=>HBAD.out (h.a.yr k hlk)) (((kB).setCell (by simp) _).setCell (by simp) _)⟩
     ·by_cases t1:(z.cal.a0g.length:Int) < r.mon
      ·have HBAD:Hid (¬ Zn.YR.Ok z.cal (z.a0b.getD k default)):=zA fun h=>by rw [HRR.out] at h;have h0:=h.m0;have h1:=h.m1;have h2:=h.k0;have h3:=h.k1;have h4:=h.d0;have h5:=h.d1;have h6:=h.n0;have h7:=h.n1;omega
       have f1:=a0d (d1) 0;have f2:=a0d (a07 (d2) ⟨W.heap.size+1,0,none⟩ (show W.heap.size+2≠W.heap.size+1 by omega) (.pointer none)) 0;have k1:=a02 (d1) 0;have k2:=a02 (a07 (d2) ⟨W.heap.size+1,0,none⟩ (show W.heap.size+2≠W.heap.size+1 by omega) (.pointer none)) 0
       as_aux_lemma =>
        repeat' (first | (go_at_call 55;((with_reducible refine (HW1.out _).mono ?_));rintro e w9 ⟨rfl,rfl⟩;dsimp only)|go_skip|go_guarded|go_step|go_upon)
        refine ⟨_,a0i rfl _ _ (W.heap.size+1) (W.heap.size+2) (.pointer none) (.bool false) _ _ rfl rfl (a02 (a0p d1 d2).1 0) (a02 (a0p d1 d2).2 0) Tryz.underlying96 rfl Tryz.underlying4 rfl,a1z (fun h=>HBAD.out (h.a.yr k hlk)) (((kB).setCell (by simp) _).setCell (by simp) _)⟩
      ·by_cases t2:r.wk < 1
       ·have HBAD:Hid (¬ Zn.YR.Ok z.cal (z.a0b.getD k default)):=zA fun h=>by rw [HRR.out] at h;have h0:=h.m0;have h1:=h.m1;have h2:=h.k0;have h3:=h.k1;have h4:=h.d0;have h5:=h.d1;have h6:=h.n0;have h7:=h.n1;omega
        have f1:=a0d (d1) 0;have f2:=a0d (a07 (d2) ⟨W.heap.size+1,0,none⟩ (show W.heap.size+2≠W.heap.size+1 by omega) (.pointer none)) 0;have k1:=a02 (d1) 0;have k2:=a02 (a07 (d2) ⟨W.heap.size+1,0,none⟩ (show W.heap.size+2≠W.heap.size+1 by omega) (.pointer none)) 0
        as_aux_lemma =>
         repeat' (first | (go_at_call 55;((with_reducible refine (HW1.out _).mono ?_));rintro e w9 ⟨rfl,rfl⟩;dsimp only)|go_skip|go_guarded|go_step|go_upon)
         refine ⟨_,a0i rfl _ _ (W.heap.size+1) (W.heap.size+2) (.pointer none) (.bool false) _ _ rfl rfl (a02 (a0p d1 d2).1 0) (a02 (a0p d1 d2).2 0) Tryz.underlying96 rfl Tryz.underlying4 rfl,a1z (fun h=>HBAD.out (h.a.yr k hlk)) (((kB).setCell (by simp) _).setCell (by simp) _)⟩
       ·by_cases t3:5 < r.wk
        ·have HBAD:Hid (¬ Zn.YR.Ok z.cal (z.a0b.getD k default)):=zA fun h=>by rw [HRR.out] at h;have h0:=h.m0;have h1:=h.m1;have h2:=h.k0;have h3:=h.k1;have h4:=h.d0;have h5:=h.d1;have h6:=h.n0;have h7:=h.n1;omega
         have f1:=a0d (d1) 0;have f2:=a0d (a07 (d2) ⟨W.heap.size+1,0,none⟩ (show W.heap.size+2≠W.heap.size+1 by omega) (.pointer none)) 0;have k1:=a02 (d1) 0;have k2:=a02 (a07 (d2) ⟨W.heap.size+1,0,none⟩ (show W.heap.size+2≠W.heap.size+1 by omega) (.pointer none)) 0
         as_aux_lemma =>
          repeat' (first | (go_at_call 55;((with_reducible refine (HW1.out _).mono ?_));rintro e w9 ⟨rfl,rfl⟩;dsimp only)|go_skip|go_guarded|go_step|go_upon)
          refine ⟨_,a0i rfl _ _ (W.heap.size+1) (W.heap.size+2) (.pointer none) (.bool false) _ _ rfl rfl (a02 (a0p d1 d2).1 0) (a02 (a0p d1 d2).2 0) Tryz.underlying96 rfl Tryz.underlying4 rfl,a1z (fun h=>HBAD.out (h.a.yr k hlk)) (((kB).setCell (by simp) _).setCell (by simp) _)⟩
        ·by_cases t4:r.wd < 0
         ·have HBAD:Hid (¬ Zn.YR.Ok z.cal (z.a0b.getD k default)):=zA fun h=>by rw [HRR.out] at h;have h0:=h.m0;have h1:=h.m1;have h2:=h.k0;have h3:=h.k1;have h4:=h.d0;have h5:=h.d1;have h6:=h.n0;have h7:=h.n1;omega
          have f1:=a0d (d1) 0;have f2:=a0d (a07 (d2) ⟨W.heap.size+1,0,none⟩ (show W.heap.size+2≠W.heap.size+1 by omega) (.pointer none)) 0;have k1:=a02 (d1) 0;have k2:=a02 (a07 (d2) ⟨W.heap.size+1,0,none⟩ (show W.heap.size+2≠W.heap.size+1 by omega) (.pointer none)) 0
          as_aux_lemma =>
           repeat' (first | (go_at_call 55;((with_reducible refine (HW1.out _).mono ?_));rintro e w9 ⟨rfl,rfl⟩;dsimp only)|go_skip|go_guarded|go_step|go_upon)
           refine ⟨_,a0i rfl _ _ (W.heap.size+1) (W.heap.size+2) (.pointer none) (.bool false) _ _ rfl rfl (a02 (a0p d1 d2).1 0) (a02 (a0p d1 d2).2 0) Tryz.underlying96 rfl Tryz.underlying4 rfl,a1z (fun h=>HBAD.out (h.a.yr k hlk)) (((kB).setCell (by simp) _).setCell (by simp) _)⟩
         ·by_cases t5:6 < r.wd
          ·have HBAD:Hid (¬ Zn.YR.Ok z.cal (z.a0b.getD k default)):=zA fun h=>by rw [HRR.out] at h;have h0:=h.m0;have h1:=h.m1;have h2:=h.k0;have h3:=h.k1;have h4:=h.d0;have h5:=h.d1;have h6:=h.n0;have h7:=h.n1;omega
           have f1:=a0d (d1) 0;have f2:=a0d (a07 (d2) ⟨W.heap.size+1,0,none⟩ (show W.heap.size+2≠W.heap.size+1 by omega) (.pointer none)) 0;have k1:=a02 (d1) 0;have k2:=a02 (a07 (d2) ⟨W.heap.size+1,0,none⟩ (show W.heap.size+2≠W.heap.size+1 by omega) (.pointer none)) 0
           as_aux_lemma =>
            repeat' (first | (go_at_call 55;((with_reducible refine (HW1.out _).mono ?_));rintro e w9 ⟨rfl,rfl⟩;dsimp only)|go_skip|go_guarded|go_step|go_upon)
            refine ⟨_,a0i rfl _ _ (W.heap.size+1) (W.heap.size+2) (.pointer none) (.bool false) _ _ rfl rfl (a02 (a0p d1 d2).1 0) (a02 (a0p d1 d2).2 0) Tryz.underlying96 rfl Tryz.underlying4 rfl,a1z (fun h=>HBAD.out (h.a.yr k hlk)) (((kB).setCell (by simp) _).setCell (by simp) _)⟩
          ·by_cases t6:r.mn < 0
           ·have HBAD:Hid (¬ Zn.YR.Ok z.cal (z.a0b.getD k default)):=zA fun h=>by rw [HRR.out] at h;have h0:=h.m0;have h1:=h.m1;have h2:=h.k0;have h3:=h.k1;have h4:=h.d0;have h5:=h.d1;have h6:=h.n0;have h7:=h.n1;omega
            have f1:=a0d (d1) 0;have f2:=a0d (a07 (d2) ⟨W.heap.size+1,0,none⟩ (show W.heap.size+2≠W.heap.size+1 by omega) (.pointer none)) 0;have k1:=a02 (d1) 0;have k2:=a02 (a07 (d2) ⟨W.heap.size+1,0,none⟩ (show W.heap.size+2≠W.heap.size+1 by omega) (.pointer none)) 0
            as_aux_lemma =>
             repeat' (first | (go_at_call 55;((with_reducible refine (HW1.out _).mono ?_));rintro e w9 ⟨rfl,rfl⟩;dsimp only)|go_skip|go_guarded|go_step|go_upon)
             refine ⟨_,a0i rfl _ _ (W.heap.size+1) (W.heap.size+2) (.pointer none) (.bool false) _ _ rfl rfl (a02 (a0p d1 d2).1 0) (a02 (a0p d1 d2).2 0) Tryz.underlying96 rfl Tryz.underlying4 rfl,a1z (fun h=>HBAD.out (h.a.yr k hlk)) (((kB).setCell (by simp) _).setCell (by simp) _)⟩
           ·by_cases t7:1440≤r.mn
            ·have HBAD:Hid (¬ Zn.YR.Ok z.cal (z.a0b.getD k default)):=zA fun h=>by rw [HRR.out] at h;have h0:=h.m0;have h1:=h.m1;have h2:=h.k0;have h3:=h.k1;have h4:=h.d0;have h5:=h.d1;have h6:=h.n0;have h7:=h.n1;omega
             have f1:=a0d (d1) 0;have f2:=a0d (a07 (d2) ⟨W.heap.size+1,0,none⟩ (show W.heap.size+2≠W.heap.size+1 by omega) (.pointer none)) 0;have k1:=a02 (d1) 0;have k2:=a02 (a07 (d2) ⟨W.heap.size+1,0,none⟩ (show W.heap.size+2≠W.heap.size+1 by omega) (.pointer none)) 0
             as_aux_lemma =>
              repeat' (first | (go_at_call 55;((with_reducible refine (HW1.out _).mono ?_));rintro e w9 ⟨rfl,rfl⟩;dsimp only)|go_skip|go_guarded|go_step|go_upon)
              refine ⟨_,a0i rfl _ _ (W.heap.size+1) (W.heap.size+2) (.pointer none) (.bool false) _ _ rfl rfl (a02 (a0p d1 d2).1 0) (a02 (a0p d1 d2).2 0) Tryz.underlying96 rfl Tryz.underlying4 rfl,a1z (fun h=>HBAD.out (h.a.yr k hlk)) (((kB).setCell (by simp) _).setCell (by simp) _)⟩
            ·have HOK:Hid (Zn.YR.Ok z.cal (z.a0b.getD k default)):=zA (by rw [HRR.out];exact ⟨ha.1,ha.2,by omega,by omega,by omega,by omega,by omega,by omega,by omega,by omega⟩)
             have dB:=hC.alloc hC.size (.cells #[r.mon,r.wk,r.wd,r.mn,r.off] 84)
             repeat' (first | (go_at_call 55;((with_reducible refine (HW1.out _).mono ?_));rintro e w9 ⟨rfl,rfl⟩;dsimp only)|go_skip|go_guarded|go_step|go_upon)
             exact ⟨⟨k+1,by omega,by go_num,fun j hj=>(zU j k).elim (fun h=>HYR.out j h) (fun h=>by rw [show j=k by omega];exact HOK.out),dB⟩,by simp [intOf];omega⟩
    ·rw [zW ha] at HW1
     have HBAD:Hid (¬ Zn.YR.Ok z.cal (z.a0b.getD k default)):=zA fun h=>by rw [HRR.out] at h;exact ha ⟨h.o0,h.o1⟩
     have f1:=a0d (d1) 0;have f2:=a0d (a07 (d2) ⟨W.heap.size+1,0,none⟩ (show W.heap.size+2≠W.heap.size+1 by omega) (.pointer none)) 0;have k1:=a02 (d1) 0;have k2:=a02 (a07 (d2) ⟨W.heap.size+1,0,none⟩ (show W.heap.size+2≠W.heap.size+1 by omega) (.pointer none)) 0
     repeat' (first | (go_at_call 55;((with_reducible refine (HW1.out _).mono ?_));rintro e w9 ⟨rfl,rfl⟩;dsimp only)|go_skip|go_guarded|go_step|go_upon)
     refine ⟨_,a0i rfl _ _ (W.heap.size+1) (W.heap.size+2) (.pointer none) (.bool false) _ _ rfl rfl (a02 (a0p d1 d2).1 0) (a02 (a0p d1 d2).2 0) Tryz.underlying96 rfl Tryz.underlying4 rfl,a1z (fun h=>HBAD.out (h.a.yr k hlk)) (((kB).setCell (by simp) _).setCell (by simp) _)⟩
   ·have i1 : ¬ (k:Int) < (z.a0b.length:Int):=by omega
    obtain rfl:k=z.a0b.length:=by omega
    repeat' ((go_not_at_region 17);(first|go_skip|go_guarded|go_step|go_upon))
    have HYR:=zA hyr;clear hyr
    have hzk:Zn.Zok z:=⟨HGH.out.cal,ang.out,HYR.out⟩
    have c0:=a0a c0 hC;have c1:=a0a c1 hC;have c2:=a0a c2 hC;have hB:=hB.trans (hC.mono hB.size);have HVW:=zA (HVW.out.below hC);clear hC;have HTC:=zA (agm HSF HVW.out hzk (hE.out.lt HV0.out.tr));have lB:=hB.size;have l3:=a09 c2;by_cases ann:Zn.a4e (Zn.ysT z) (Zn.a0s z)
    ·have HTK:=zA (HTC.out.mono fun e w' h=>ak2 hzk ann h)
     have HGA:Hid (Zn.aea z):=zA ⟨HGH.out,apt.out,ang.out,HYR.out⟩;have HCK:=zA (HGA.out.ck ann);have HGP:=zA ann;clear HTC ann hzk;have z7:=a02 c0 7
     repeat' ((go_not_at_region 20);(first | (go_at_call 95;((with_reducible refine (HTK.out).mono ?_));rintro e w7 ⟨⟨g,rfl,hck,hgg⟩,hB7⟩;have e0:=a0a c0 hB7;have e1:=a0a c1 hB7;have e2:=a0a c2 hB7;have eB:=hB.trans (hB7.mono hB.size);dsimp only)|go_skip|go_guarded|go_step|go_upon))
     have hck:=hck.lt;have l7:=hB7.size;clear c0 c1 c2 HTK z7;have A8:=((zC w7.heap.size w7).alloc (zD _) (.cells #[.pointer (some ⟨g,0,none⟩)] 96)).alloc (by simp) (.cells #[(z.trans.length:Int)] 3);have p0:=a0a e0 A8;have p1:=a0a e1 A8;have p2:=a0a e2 A8;have pB:=eB.trans (A8.mono eB.size);have pck:=hck.below A8;have p8:obj ((w7.alloc (.cells #[.pointer (some ⟨g,0,none⟩)] 96)).alloc (.cells #[(z.trans.length:Int)] 3)) w7.heap.size=some (.cells #[.pointer (some ⟨g,0,none⟩)] 96 (0,0)):=a06 (a05 _ _ _ rfl) _;have p9:obj ((w7.alloc (.cells #[.pointer (some ⟨g,0,none⟩)] 96)).alloc (.cells #[(z.trans.length:Int)] 3)) (w7.heap.size+1)=some (.cells #[(z.trans.length:Int)] 3 (0,0)):=a05 _ _ _ (by simp);have z5:=a02 (a06 e0 (.cells #[.pointer (some ⟨g,0,none⟩)] 96)) 5
     repeat' ((go_not_at_region 21);(first|go_skip|go_guarded|go_step|go_upon))
     (have V8z:((w7.alloc (.cells #[.pointer (some ⟨g,0,none⟩)] 96)).alloc (.cells #[(z.trans.length:Int)] 3)).heap.size=w7.heap.size+2:=by simp);generalize hV8:((w7.alloc (.cells #[.pointer (some ⟨g,0,none⟩)] 96)).alloc (.cells #[(z.trans.length:Int)] 3))=V8 at *;clear hV8 A8 e0 e1 e2 eB hck z5;have z9:=a02 p9 0;have z8:=a02 p8 0;by_cases hn:0 < z.trans.length
     ·have hn1:(0:Int) < (z.trans.length:Int):=by omega
      have z6:=a02 p0 6;have HFR:=zA (a6r V8 g z.hor);obtain ⟨tb,tof,tc',a5d,TT',tfr,htv,tq1,tq2⟩:=a2b.open HV0.out.tr hn
      obtain ⟨rfl,rfl⟩:ta=some ⟨tb,tof,none⟩∧tc=tc':=by injection htv with a b c;exact ⟨a,c⟩
      have ey0:a5d[tof+(z.trans.length - 1) * 2]? = some (.int .i64 (z.trans.getD (z.trans.length - 1) default).tm):=a0y 0 (tq2 (z.trans.length - 1) (by omega)).2 (by simp)
      obtain ⟨y,hy⟩ : ∃ y,z.trans.getD (z.trans.length - 1) default=y:=⟨_,rfl⟩
      have HYY:=zA hy
      have hyb : -2251799813685248≤y.tm∧y.tm≤2251799813685248:=by
       have:=apt.out (z.trans.length - 1) (by omega);rw [← hy];exact ⟨this.a0,this.a1⟩
      rw [hy] at ey0
      have wn1:IntKind.wrap .i64 ((z.trans.length:Int) - 1)=((z.trans.length - 1:Nat):Int):=by have:=HGH.out.t;rw [wrap_in]<;>omega
      have l2:=a09 p2;have HIX:Hid (z.trans.length - 1 < z.trans.length):=zA (by omega);clear htv tq2 hy
      repeat' (first | (go_at_call 86;((with_reducible refine (HFR.out).mono ?_));rintro e w9 ⟨rfl,rfl⟩;dsimp only)|go_skip|go_guarded|go_step|go_upon)
      have A9:=((zC V8.heap.size V8).alloc (zD _) (.cells #[.pointer (some ⟨g,0,none⟩)] 96)).alloc (by simp) (.cells #[z.hor] 3);have bA:obj ((V8.alloc (.cells #[.pointer (some ⟨g,0,none⟩)] 96)).alloc (.cells #[z.hor] 3)) V8.heap.size=some (.cells #[.pointer (some ⟨g,0,none⟩)] 96 (0,0)):=a06 (a05 _ _ _ rfl) _;have bB:obj ((V8.alloc (.cells #[.pointer (some ⟨g,0,none⟩)] 96)).alloc (.cells #[z.hor] 3)) (V8.heap.size+1)=some (.cells #[z.hor] 3 (0,0)):=a05 _ _ _ (by simp);have r0:=a0a p0 A9;have r1:=a0a p1 A9;have r2:=a0a p2 A9;have r8:=a0a p8 A9;have r9:=a0a p9 A9;have rB:=pB.trans (A9.mono pB.size);have rck:a8j ((V8.alloc (.cells #[.pointer (some ⟨g,0,none⟩)] 96)).alloc (.cells #[z.hor] 3)) (fun k=>((E k∧k < W.heap.size)∨wr.heap.size≤k)∧k < w7.heap.size) g z (Zn.ysT z) (Zn.a0s z):=pck.below A9;(have Uz1:w7.heap.size+4≤((V8.alloc (.cells #[.pointer (some ⟨g,0,none⟩)] 96)).alloc (.cells #[z.hor] 3)).heap.size:=by simp;omega);(have Uz2:((V8.alloc (.cells #[.pointer (some ⟨g,0,none⟩)] 96)).alloc (.cells #[z.hor] 3)).heap.size≤w7.heap.size+4:=by simp;omega);have hh0:=HGH.out.h0;have hh1:=HGH.out.h1;refine (Go.wpIn_wide (n:=8)).1 ?_;change Code.wpIn _ _ _ _ _ _ ((V8.alloc (.cells #[.pointer (some ⟨g,0,none⟩)] 96)).alloc (.cells #[z.hor] 3));generalize ((V8.alloc (.cells #[.pointer (some ⟨g,0,none⟩)] 96)).alloc (.cells #[z.hor] 3))=U at *;clear p0 p1 p2 p8 p9 pB pck A9 z5 z6 z7 z8 z9 HFR
      refine a3j (n:=8) (gf:=126) (lb:=#[.pointer (some ⟨V8.heap.size,0,none⟩),.pointer (some ⟨V8.heap.size+1,0,none⟩)]) rfl (enters_of Tryz.func126 (by kernel_rfl) rfl)
       (a9n 7 (by omega) V8.heap.size (V8.heap.size+1) (by omega) g HCK.out (by omega) (by omega) (fun k=>((E k∧k < W.heap.size)∨wr.heap.size≤k)∧k < w7.heap.size) (by show ¬ (_∧V8.heap.size < _);omega) (by show ¬ (_∧V8.heap.size+1 < _);omega) 0 (by omega) U bA bB rck)
       ?hown (fun x v W hv=>by subst hv;rfl) ?aaj (fun k=>k=W.heap.size+1∨k=W.heap.size+2) ?hR
       (fun i W'=>i=0∧(obj W' W.heap.size=some (.cells #[z.cal.a08,(.slice ma z.cal.a0g.length mc),z.cal.a0l,rv,z.start,(.slice (some ⟨tb,tof,none⟩) z.trans.length tc),z.hor,(.slice ya z.a0b.length yc)] 35 (0,0))∧obj W' (W.heap.size+1)=some (.cells #[.pointer none] 96 (0,0))∧obj W' (W.heap.size+2)=some (.cells #[.bool false] 4 (0,0)))∧obj W' w7.heap.size=some (.cells #[.pointer (some ⟨g,0,none⟩)] 96 (0,0))∧obj W' (w7.heap.size+1)=some (.cells #[(z.trans.length:Int)] 3 (0,0))∧Below W W W'∧w7.heap.size+4≤W'.heap.size∧a8j W' (fun k=>((E k∧k < W.heap.size)∨wr.heap.size≤k)∧k < w7.heap.size) g z (Zn.ysT z) (Zn.a0s z))
       (fun d W'=>d=.ret∧(∃ x:Zn.Tr,Zn.a2s z (Zn.ysT z) (Zn.a0s z) z.hor 0=some x∧obj W' (W.heap.size+1)=some (.cells #[.pointer (some ⟨g,0,none⟩)] 96 (0,0))∧obj W' (W.heap.size+2)=some (.cells #[.bool (decide (2160≤x.tm - y.tm))] 4 (0,0)))∧Below W W W'∧w7.heap.size+4≤W'.heap.size∧a8j W' (fun k=>((E k∧k < W.heap.size)∨wr.heap.size≤k)∧k < w7.heap.size) g z (Zn.ysT z) (Zn.a0s z))
       ?hI ?hIx (fun i W h=>by rw [h.1];exact zD _) ⟨rfl,⟨r0,r1,r2⟩,r8,r9,rB,by omega,rck⟩ ?round ?done ?stop
      case hown=>rintro k rfl;omega
      case aaj =>
       rintro k (rfl | rfl | h)
       ·omega
       ·omega
       ·have h:_∧k < w7.heap.size:=h
        omega
      case hR =>
       rintro k (rfl | rfl)
       ·exact ⟨by omega,by rintro (h | h | (h:((E _∧W.heap.size+1 < W.heap.size)∨wr.heap.size≤W.heap.size+1)∧W.heap.size+1 < w7.heap.size))<;>omega⟩
       ·exact ⟨by omega,by rintro (h | h | (h:((E _∧W.heap.size+2 < W.heap.size)∨wr.heap.size≤W.heap.size+2)∧W.heap.size+2 < w7.heap.size))<;>omega⟩
      case hI => rintro i A B hz hAB ⟨h1,⟨h2,h3,h4⟩,h5,h6,h7,h8,h9⟩;refine ⟨h1,⟨hAB.obj h2 (by omega) (by omega),hAB.obj h3 (by omega) (by omega),hAB.obj h4 (by omega) (by omega)⟩,hAB.obj h5 (by omega) (by omega),hAB.obj h6 (by omega) (by omega),h7.trans (hAB.below (by omega) (fun k hk=>by omega)),yG h8 hAB.size,h9.keep fun k hk hd=>hAB.block k hk ?_⟩;have hd:_∧k < w7.heap.size:=hd;omega
      case hIx => rintro d A B hz hAB ⟨h1,⟨x,hx,h3,h4⟩,h7,h8,h9⟩;refine ⟨h1,⟨x,hx,hAB.obj h3 (by omega) (by omega),hAB.obj h4 (by omega) (by omega)⟩,h7.trans (hAB.below (by omega) (fun k hk=>by omega)),yG h8 hAB.size,h9.keep fun k hk hd=>hAB.block k hk ?_⟩;have hd:_∧k < w7.heap.size:=hd;omega
      case round =>
       rintro lk i x v W1 ⟨rfl,⟨h2,h3,h4⟩,h5,h6,h7,h8,h9⟩ hx rfl hz1 hlk hlc;have HX:=zA hx;have hxb:=Zn.af1 HCK.out hx;have HLK:=zA hlk;clear hlk;(have hon3:ones #[x.tm,x.off]=true:=by simp [ones,a0n]);clear hx;have rz:a7c x=#[.int .i64 x.tm,.int .i64 x.off]:=rfl;dsimp only;rw [rz];clear rz
       gi_wp2_with fail
       refine ⟨bR.alloc (zD _) _,fun W2 hB2 hkeep hsz=>?_⟩
       have hX2:a1x W1.heap.size (fun k=>k=lk) W1 W2:=⟨hB2.os,hB2.tape,hB2.output,by have:=hB2.size;simp at this;omega,fun k hk hn=>(hkeep k (by first | omega | (simp;omega)) hn).trans (vT _ _ hk)⟩
       have hlk:=HLK.out;have k6:obj W2 W1.heap.size=some (.cells #[x.tm,x.off] 57 (0,0)):=(hkeep W1.heap.size (by simp) (by omega)).trans (a05 _ _ _ rfl);have k0:=hX2.obj h2 (by omega) (by omega);have k1:=hX2.obj h3 (by omega) (by omega);have k2:=hX2.obj h4 (by omega) (by omega);have k8:=hX2.obj h5 (by omega) (by omega);have k9:=hX2.obj h6 (by omega) (by omega);have kB:=h7.trans (hX2.below (by omega) (fun k hk=>by omega))
       have kz:w7.heap.size+5≤W2.heap.size:=by first | omega | (simp at hsz;omega)
       have kck:=h9.keep (W':=W2) fun k hk hd=>hX2.block k hk (by have hd:_∧k < w7.heap.size:=hd;omega)
       have tw:=a04 tq1 kB (a09 tq1);have ltb:=a09 tq1;have lt:=a09 tw;have l0:=a09 k0;have l1:=a09 k1;have l2:=a09 k2;have l6:=a09 k6;have l8:=a09 k8;have l9:=a09 k9;have wxy:=zWI (x.tm - y.tm);have i2:z.trans.length - 1 < z.trans.length:=HIX.out;(have i3 : ¬ ((z.trans.length - 1:Nat):Int) < 0:=by omega);clear h2 h3 h4 h5 h6 h7 h8 h9 hB2 hkeep hlc hsz hX2 hlk;generalize W1.heap.size=g6 at *
       repeat' ((fail_if_success (change Code.wpIn _ _ _ (Code.region 24 _ _) _ _ _));(first | go_values | gi_guarded | gi_step | gi_upon | gi_back))
       refine a4q 13 12 (W.heap.size+1) (fun W' => ∃ v,obj W' (W.heap.size+1)=some (.cells #[v] 96 (0,0))) (fun _ _ ⟨v,h⟩ hb=>⟨v,a0a h hb⟩) ⟨_,k1⟩ [([],fun v _=>v=.pointer (some ⟨g,0,none⟩)),([],fun v _=>v=.pointer (some ⟨g6,0,none⟩)),([1],fun v _=>v=.int .i64 x.tm),([],fun v _=>v=.pointer (some ⟨W.heap.size,5,none⟩)),([3],fun v _=>v=.slice (some ⟨tb,tof,none⟩) z.trans.length tc),([],fun v _=>v=.int .i64 (z.trans.length:Int)),([5],fun v _=>v=.int .i64 ((z.trans.length - 1:Nat):Int)),([4,6],fun v _=>v=.pointer (some ⟨tb,tof+(z.trans.length - 1) * 2,none⟩)),([7],fun v _=>v=.pointer (some ⟨tb,tof+(z.trans.length - 1) * 2,none⟩)),([8],fun v _=>v=.int .i64 y.tm),([2,9],fun v _=>v=.int .i64 (x.tm - y.tm)),([10],fun v _=>v=.bool (decide (2160≤x.tm - y.tm))),([0],fun _ Wx=>obj Wx (W.heap.size+1)=some (.cells #[.pointer (some ⟨g,0,none⟩)] 96 (0,0)))] (by kernel_rfl) (by kernel_rfl) (by kernel_rfl) (by kernel_rfl) (fun _ _ h=>h) ?st ⟨?o0,?o1,?o2,?o3,?o4,?o5,?o6,?o7,?o8,?o9,?o10,?o11,?o12,trivial⟩ ?tl
       case st =>
        intro k j v W1 W2 hkj h hb
        rcases k with _|_|_|_|_|_|_|_|_|_|_|_|_|k
        ·exact h
        ·exact h
        ·exact h
        ·exact h
        ·exact h
        ·exact h
        ·exact h
        ·exact h
        ·exact h
        ·exact h
        ·exact h
        ·exact h
        ·unfold ajf at hb;rw [zS (fun e=>hkj e.symm)] at hb;exact a0a h hb
        ·trivial
       case o0 => intro vs Wq hW hk;clear hk;change wpList _ _ _ _ (a00 _ vs [] _) _;simp only [a00];have q:=a02 (hW.1.obj k8 l8 (by omega)) 0;(repeat'(first|go_skip|go_guarded|go_step|go_upon));exact a0x (by decide) (.pointer (some ⟨g,0,none⟩)) rfl (by go_simp) bR rfl
       case o1 => intro vs Wq hW hk;clear hk;change wpList _ _ _ _ (a00 _ vs [] _) _;simp only [a00];(repeat'(first|go_skip|go_guarded|go_step|go_upon));exact a0x (by decide) (.pointer (some ⟨g6,0,none⟩)) rfl (by go_simp) bR rfl
       case o2 => intro vs Wq hW hk;have g1:vs 1=.pointer (some ⟨g6,0,none⟩):=hk.1;clear hk;change wpList _ _ _ _ (a00 _ vs [1] _) _;simp only [a00,a03,yy0,yy1,yy2,yy3];rw [g1];have q:=a02 (hW.1.obj k6 l6 (by omega)) 0;(repeat'(first|go_skip|go_guarded|go_step|go_upon));exact a0x (by decide) (.int .i64 x.tm) rfl (by go_simp) bR rfl
       case o3 => intro vs Wq hW hk;clear hk;change wpList _ _ _ _ (a00 _ vs [] _) _;simp only [a00];(repeat'(first|go_skip|go_guarded|go_step|go_upon));exact a0x (by decide) (.pointer (some ⟨W.heap.size,5,none⟩)) rfl (by go_simp) bR rfl
       case o4 => intro vs Wq hW hk;have g3:vs 3=.pointer (some ⟨W.heap.size,5,none⟩):=hk.1;clear hk;change wpList _ _ _ _ (a00 _ vs [3] _) _;simp only [a00,a03,yy0,yy1,yy2,yy3];rw [g3];have q:=a02 (hW.1.obj k0 l0 (by omega)) 5;(repeat'(first|go_skip|go_guarded|go_step|go_upon));exact a0x (by decide) (.slice (some ⟨tb,tof,none⟩) z.trans.length tc) rfl (by go_simp) bR rfl
       case o5 => intro vs Wq hW hk;clear hk;change wpList _ _ _ _ (a00 _ vs [] _) _;simp only [a00];have q:=a02 (hW.1.obj k9 l9 (by omega)) 0;(repeat'(first|go_skip|go_guarded|go_step|go_upon));exact a0x (by decide) (.int .i64 (z.trans.length:Int)) rfl (by go_simp) bR rfl
       case o6 => intro vs Wq hW hk;have g5:vs 5=.int .i64 (z.trans.length:Int):=hk.1;clear hk;change wpList _ _ _ _ (a00 _ vs [5] _) _;simp only [a00,a03,yy0,yy1,yy2,yy3];rw [g5];(repeat'(first|go_skip|go_guarded|go_step|go_upon));exact a0x (by decide) (.int .i64 ((z.trans.length - 1:Nat):Int)) rfl (by go_simp) bR rfl
       case o7 => intro vs Wq hW hk;have g4:vs 4=.slice (some ⟨tb,tof,none⟩) z.trans.length tc:=hk.1;have g6:vs 6=.int .i64 ((z.trans.length - 1:Nat):Int):=hk.2.1;clear hk;change wpList _ _ _ _ (a00 _ vs [4,6] _) _;simp only [a00,a03,yy0,yy1,yy2,yy3];rw [g4,g6];(repeat'(first|go_skip|go_guarded|go_step|go_upon));exact a0x (by decide) (.pointer (some ⟨tb,tof+(z.trans.length - 1) * 2,none⟩)) rfl (by go_simp) bR rfl
       case o8 => intro vs Wq hW hk;have g7:vs 7=.pointer (some ⟨tb,tof+(z.trans.length - 1) * 2,none⟩):=hk.1;clear hk;change wpList _ _ _ _ (a00 _ vs [7] _) _;simp only [a00,a03,yy0,yy1,yy2,yy3];rw [g7];(repeat'(first|go_skip|go_guarded|go_step|go_upon));exact a0x (by decide) (.pointer (some ⟨tb,tof+(z.trans.length - 1) * 2,none⟩)) rfl (by go_simp) bR rfl
       case o9 => intro vs Wq hW hk;have g8:vs 8=.pointer (some ⟨tb,tof+(z.trans.length - 1) * 2,none⟩):=hk.1;clear hk;change wpList _ _ _ _ (a00 _ vs [8] _) _;simp only [a00,a03,yy0,yy1,yy2,yy3];rw [g8];have q:=(a02 (hW.1.obj tw lt (by omega)) (tof+(z.trans.length - 1) * 2)).trans ey0;(repeat'(first|go_skip|go_guarded|go_step|go_upon));exact a0x (by decide) (.int .i64 y.tm) rfl (by go_simp) bR rfl
       case o10 => intro vs Wq hW hk;have g2:vs 2=.int .i64 x.tm:=hk.1;have g9:vs 9=.int .i64 y.tm:=hk.2.1;clear hk;change wpList _ _ _ _ (a00 _ vs [2,9] _) _;simp only [a00,a03,yy0,yy1,yy2,yy3];rw [g2,g9];(repeat'(first|go_skip|go_guarded|go_step|go_upon));exact a0x (by decide) (.int .i64 (x.tm - y.tm)) rfl (by go_simp) bR rfl
       case o11 => intro vs Wq hW hk;have g10:vs 10=.int .i64 (x.tm - y.tm):=hk.1;clear hk;change wpList _ _ _ _ (a00 _ vs [10] _) _;simp only [a00,a03,yy0,yy1,yy2,yy3];rw [g10];(repeat'(first|go_skip|go_guarded|go_step|go_upon));exact a0x (by decide) (.bool (decide (2160≤x.tm - y.tm))) rfl (by go_simp) bR rfl
       case o12 =>
        intro vs Wq hW hk;have g0:vs 0=.pointer (some ⟨g,0,none⟩):=hk.1;clear hk;change wpList _ _ _ _ (a00 _ vs [0,1,2,3,4,5,6,7,8,9,10,11,12] _) _;simp only [a00,a03,yy0,yy1,yy2,yy3];rw [g0];obtain ⟨v0,h1⟩:=hW.2;have f1:=a0d h1 0;have c1:=a02 h1 0
        repeat'(first|go_skip|go_guarded|go_step|go_upon)
        (have e9:obj (Wq.setCell ⟨W.heap.size+1,0,none⟩ (.pointer (some ⟨g,0,none⟩))) (W.heap.size+1)=some (.cells #[.pointer (some ⟨g,0,none⟩)] 96 (0,0)):=by rw [a0c,h1];rfl);exact adv rfl (a1x.setCell (S:=fun j=>j=W.heap.size+1) Wq rfl 0 _) ⟨_,e9⟩ (fun _=>e9)
       case tl =>
        intro vs W3 hW3 hk;have v11:vs 11=.bool (decide (2160≤x.tm - y.tm)):=hk 11 (by decide);have m1:obj W3 (W.heap.size+1)=some (.cells #[.pointer (some ⟨g,0,none⟩)] 96 (0,0)):=hk 12 (by decide);clear hk;dsimp only [a1d,List.take,List.drop];simp only [Act.put,zF,zI,zJ];rw [v11];generalize vs 0=q0,vs 1=q1,vs 2=q2,vs 3=q3,vs 4=q4,vs 5=q5,vs 6=q6,vs 7=q7,vs 8=q8,vs 9=q9,vs 10=q10;clear v11;have m2:=hW3.1.obj k2 l2 (by omega);have mB:=kB.trans (hW3.1.below (by omega) (fun k hk=>by omega));have mz:=hW3.1.size
        have mck:=kck.keep (W':=W3) fun k hk hd=>hW3.1.block k hk (by have hd:((E k∧k < W.heap.size)∨wr.heap.size≤k)∧k < w7.heap.size:=hd;omega)
        have f2:=a0d m2 0;have c2:=a02 m2 0
        repeat'(first|go_skip|go_guarded|go_step|go_upon)
        gi_wp2_with fail
        refine ⟨⟨by simp;omega,fun k hk hn=>(zO _ _ _ _ (fun e=>hn (.inl (.inr (by simpa using e))))).trans (hW3.1.block k hk (fun e=>hn (.inl (.inl e))))⟩,rfl,⟨x,HX.out,a07 m1 _ (show W.heap.size+1≠W.heap.size+2 by omega) _,by rw [a0c,m2];rfl⟩,mB.setCell (by simp) _,by simp;omega,?_⟩
        refine mck.keep fun k hk hd=>?_
        have hd:((E k∧k < W.heap.size)∨wr.heap.size≤k)∧k < w7.heap.size:=hd;exact zO _ _ _ _ (by show k≠W.heap.size+2;omega)
      case done =>
       rintro Q i W1 hx ⟨rfl,⟨h2,h3,h4⟩,h5,h6,h7,h8,h9⟩ hD hK;have HK:=zA hK;have HGD:Hid (Zn.Good z):=zA ⟨HGA.out,HGP.out,fun _ x h=>by rw [hx] at h;cases h⟩;clear hK hx;have z8:=a02 h5 0;have f1:=a0d h3 0;have k1:=a02 h3 0;have q2:=a07 h4 ⟨W.heap.size+1,0,none⟩ (show W.heap.size+2≠W.heap.size+1 by omega) (.pointer (some ⟨g,0,none⟩));have f2:=a0d q2 0;have k2:=a02 q2 0;have TC:=zA (a0p (q:=.pointer (some ⟨g,0,none⟩)) (c:=.bool true) h3 h4);have hBt:Below W W ((W1.setCell ⟨W.heap.size+1,0,none⟩ (.pointer (some ⟨g,0,none⟩))).setCell ⟨W.heap.size+2,0,none⟩ (.bool true)):=(h7.setCell (by simp) _).setCell (by simp) _;have hKs:((W1.setCell ⟨W.heap.size+1,0,none⟩ (.pointer (some ⟨g,0,none⟩))).setCell ⟨W.heap.size+2,0,none⟩ (.bool true)).heap[Q]? = some (.deferred (some [])):=(zO _ _ _ _ (show Q≠W.heap.size+2 by omega)).trans ((zO _ _ _ _ (show Q≠W.heap.size+1 by omega)).trans HK.out)
       have hct:a8j ((W1.setCell ⟨W.heap.size+1,0,none⟩ (.pointer (some ⟨g,0,none⟩))).setCell ⟨W.heap.size+2,0,none⟩ (.bool true)) (fun k=>((E k∧k < W.heap.size)∨wr.heap.size≤k)∧k < w7.heap.size) g z (Zn.ysT z) (Zn.a0s z):=h9.keep fun k hk hd=>by
        have hd:((E k∧k < W.heap.size)∨wr.heap.size≤k)∧k < w7.heap.size:=hd;exact (zO _ _ _ _ (by show k≠W.heap.size+2;omega)).trans (zO _ _ _ _ (by show k≠W.heap.size+1;omega))
       have HKS:=zA hKs;clear hKs HK;have HK:=HKS
       repeat'(first|go_skip|go_guarded|go_step|go_upon)
       refine ⟨by simp,.inl ⟨_,_,rfl,run_takeDeferred HK.out,?_⟩⟩;refine ⟨_,a0i rfl _ _ (W.heap.size+1) (W.heap.size+2) (.pointer (some ⟨g,0,none⟩)) (.bool true) _ _ rfl rfl (a02 ((World.putObj_heap_other (show W.heap.size+1≠Q by omega)).trans TC.out.1) 0) (a02 ((World.putObj_heap_other (show W.heap.size+2≠Q by omega)).trans TC.out.2) 0) Tryz.underlying96 rfl Tryz.underlying4 rfl,ac7 HGD.out (a1r hBt (by omega)) ((hct.keep fun k hk hd=>World.putObj_heap_other (by have hd:_∧k < w7.heap.size:=hd;omega)).mono fun k hd=>by have hd:((E k∧k < W.heap.size)∨wr.heap.size≤k)∧k < w7.heap.size:=hd;exact hd.1.imp (fun h=>h.1) (fun h=>by omega)) (by omega)⟩
      case stop =>
       rintro Q d W1 ⟨rfl,⟨x,hx,h3,h4⟩,h7,h8,h9⟩ hD hK;have HK:=zA hK;clear hK
       gi_wp2_with fail
       by_cases hg:2160≤x.tm - y.tm
       ·rw [zV hg] at h4
        have HGD:Hid (Zn.Good z):=zA ⟨HGA.out,HGP.out,fun _ x' h=>by rw [hx] at h;cases h;rw [HYY.out];exact hg⟩;refine ⟨by simp,.inl ⟨_,_,rfl,run_takeDeferred HK.out,?_⟩⟩;refine ⟨_,a0i rfl _ _ (W.heap.size+1) (W.heap.size+2) (.pointer (some ⟨g,0,none⟩)) (.bool true) _ _ rfl rfl (a02 ((World.putObj_heap_other (show W.heap.size+1≠Q by omega)).trans (And.intro h3 h4).1) 0) (a02 ((World.putObj_heap_other (show W.heap.size+2≠Q by omega)).trans (And.intro h3 h4).2) 0) Tryz.underlying96 rfl Tryz.underlying4 rfl,ac7 HGD.out (a1r h7 (by omega)) ((h9.keep fun k hk hd=>World.putObj_heap_other (by have hd:_∧k < w7.heap.size:=hd;omega)).mono fun k hd=>by have hd:((E k∧k < W.heap.size)∨wr.heap.size≤k)∧k < w7.heap.size:=hd;exact hd.1.imp (fun h=>h.1) (fun h=>by omega)) (by omega)⟩
       ·rw [zW hg] at h4
        have HNG:Hid (¬ Zn.Good z):=zA fun h=>hg (by have:=h.j hn x hx;rw [HYY.out] at this;exact this)
        refine ⟨by simp,.inl ⟨_,_,rfl,run_takeDeferred HK.out,?_⟩⟩;refine ⟨_,a0i rfl _ _ (W.heap.size+1) (W.heap.size+2) (.pointer (some ⟨g,0,none⟩)) (.bool false) _ _ rfl rfl (a02 ((World.putObj_heap_other (show W.heap.size+1≠Q by omega)).trans (And.intro h3 h4).1) 0) (a02 ((World.putObj_heap_other (show W.heap.size+2≠Q by omega)).trans (And.intro h3 h4).2) 0) Tryz.underlying96 rfl Tryz.underlying4 rfl,a1z HNG.out (a1r h7 (by omega))⟩
     ·have hn1 : ¬ (0:Int) < (z.trans.length:Int):=by omega
      have f1:=a0d p1 0;have k1:=a02 p1 0;have q2:=a07 p2 ⟨W.heap.size+1,0,none⟩ (show W.heap.size+2≠W.heap.size+1 by omega) (.pointer (some ⟨g,0,none⟩));have f2:=a0d q2 0;have k2:=a02 q2 0;have HGD:Hid (Zn.Good z):=zA ⟨HGA.out,HGP.out,fun h=>absurd h hn⟩
      repeat'(first|go_skip|go_guarded|go_step|go_upon)
      refine ⟨_,a0i rfl _ _ (W.heap.size+1) (W.heap.size+2) (.pointer (some ⟨g,0,none⟩)) (.bool true) _ _ rfl rfl (a02 (a0p p1 p2).1 0) (a02 (a0p p1 p2).2 0) Tryz.underlying96 rfl Tryz.underlying4 rfl,ac7 HGD.out ((pB.setCell (by simp) _).setCell (by simp) _) ?_ (by omega)⟩;have l2:=a09 p2
      refine (pck.keep fun k hk hd=>?_).mono fun k hd=>?_<;>have hd:((E k∧k < W.heap.size)∨wr.heap.size≤k)∧k < w7.heap.size:=hd
      ·exact (zO _ _ _ _ (by show k≠W.heap.size+2;omega)).trans (zO _ _ _ _ (by show k≠W.heap.size+1;omega))
      ·exact hd.1.imp (fun h=>h.1) (fun h=>by omega)
    ·have HTK:=zA (HTC.out.mono fun e w' h=>am6 hzk ann h)
     have z7:=a02 c0 7;clear HTC
     repeat' (first | (go_at_call 95;((with_reducible refine (HTK.out).mono ?_));rintro e w7 ⟨rfl,hB7⟩;have q1:=a06 (a0a c1 hB7) (.cells #[.pointer none] 96);have q2:=a06 (a0a c2 hB7) (.cells #[.pointer none] 96);have eB:=(hB.trans (hB7.mono hB.size));have eB:=eB.alloc eB.size (.cells #[.pointer none] 96);have f1:=a0d q1 0;have f2:=a0d (a07 q2 ⟨W.heap.size+1,0,none⟩ (show W.heap.size+2≠W.heap.size+1 by omega) (.pointer none)) 0;have k1:=a02 q1 0;have k2:=a02 (a07 q2 ⟨W.heap.size+1,0,none⟩ (show W.heap.size+2≠W.heap.size+1 by omega) (.pointer none)) 0;dsimp only)|go_skip|go_guarded|go_step|go_upon)
     refine ⟨_,a0i rfl _ _ (W.heap.size+1) (W.heap.size+2) (.pointer none) (.bool false) _ _ rfl rfl (a02 (a0p q1 q2).1 0) (a02 (a0p q1 q2).2 0) Tryz.underlying96 rfl Tryz.underlying4 rfl,a1z (fun h=>ann h.gap) (((eB).setCell (by simp) _).setCell (by simp) _)⟩
end Go.Proofs.YtppjleebbjipbaaGreat
