/-
  kalendsref13.after.
-/
import Derived.Test.YtppjleebbjipbaaGreatPkZnt
set_option linter.unusedSectionVars false
set_option linter.constructorNameAsVariable false
set_option linter.unusedVariables false
set_option linter.unusedSimpArgs false
namespace Zn
def a4w (l:List Tr) (cyc t:Int):Option Tr :=
 if l.length=0 then none else some (yAt l cyc (turns (l.getD 0 default).tm t cyc) (a2y l cyc (turns (l.getD 0 default).tm t cyc) t))
end Zn
namespace Go.Proofs.YtppjleebbjipbaaGreat
open Go.RowKit
set_option maxRecDepth 20000
set_option maxHeartbeats 8000000
theorem af8 {W:World} {v:Value} {l:List Zn.Tr} (hv:a2b W v l) (hs:Zn.a8u l) (hl:l.length≤10000000) {cyc t:Int} (c0:0 < cyc) (c1:cyc≤10000000) (ht0 : -9007199254740992≤t) (ht1:t≤9007199254740992)
  (hb:∀ i,i < l.length→-2199023255552≤(l.getD i default).tm∧(l.getD i default).tm≤2199023255552) :
  Calls Tryz.prog 68 #[v,.int .i64 cyc,.int .i64 t] W fun e w'=>e=.returned (aha (Zn.a4w l cyc t))∧Below W.heap.size W w':=by
 have w1B:Below W.heap.size W (W.alloc (.cells #[.int .i64 0,.int .i64 0] 57)):=(Below.refl _ _).alloc (Nat.le_refl _) _
 have z1b:obj (W.alloc (.cells #[.int .i64 0,.int .i64 0] 57)) W.heap.size=some (.cells #[.int .i64 0,.int .i64 0] 57 (0,0)):=a05 _ _ _ rfl
 have HBD:=Lib.hid hb
 obtain ⟨ta,tc,rfl⟩:=a2b.ajx hv
 go_enter Tryz.func68,Tryz.ntmps68
 by_cases hl0:l.length=0
 ·have t0:((l.length:Int) == 0)=true:=by simp [hl0]
  have HR:Hid (Zn.a4w l cyc t=none):=Lib.hid (by unfold Zn.a4w;rw [if_pos hl0])
  clear hl0
  repeat'(first|go_skip|go_guarded|go_step|go_upon)
  refine bodyPost_ret (a0q rfl _ _ W.heap.size 57 _ (0,0) _ (.bool false) rfl z1b Tryz.underlying57 rfl (by kernel_rfl) rfl) rfl ?_
  exact ⟨by rw [HR.out];rfl,w1B⟩
 ·have t0:((
        l.length:Int) == 0)=false:=by simpa using hl0
  have t1:(0:Int) < (l.length:Int):=by omega
  obtain ⟨tb,tof,tc',a5d,TT',tfr,htv,tq1,tq2⟩:=a2b.open hv (by omega)
  obtain ⟨rfl,rfl⟩:ta=some ⟨tb,tof,none⟩∧tc=tc':=by injection htv with a b c;exact ⟨a,c⟩
  have e0r:a5d[tof]? = some (.int .i64 (l.getD 0 default).tm):=by have:=a0y 0 (tq2 0 (by omega)).2 (by simp);simpa using this
  have e00:=(a02 (a0a tq1 w1B) tof).trans e0r
  have hb0:=hb 0 (by omega)
  have wcm:IntKind.wrap .i64 (cyc * 1440)=cyc * 1440:=by rw [wrap_in]<;>omega
  obtain ⟨r,hrr⟩ : ∃ r,r=Zn.turns (l.getD 0 default).tm t cyc:=⟨_,rfl⟩
  have hr0:=Zn.a2d (y0:=(l.getD 0 default).tm) (t:=t) c0
  have hrM:=Zn.a4r (y0:=(l.getD 0 default).tm) (t:=t) c0
  have hrd:r=(if t - (l.getD 0 default).tm < 0 then 0 else t - (l.getD 0 default).tm) / (cyc * 1440):=hrr
  rw [← hrr] at hr0 hrM
  have hrM2:r * (cyc * 1440)≤18014398509481984:=by split at hrM<;>omega
  have hrM0:0≤r * (cyc * 1440):=Int.mul_nonneg hr0 (by omega)
  have hrle:r≤18014398509481984:=by
   have:r * 1≤r * (cyc * 1440):=Int.mul_le_mul_of_nonneg_left (by omega) hr0
   omega
  clear htv hb
  generalize hy0:(l.getD 0 default).tm=y0 at *
  have HY0:=Lib.hid hy0
  clear hy0 hrM
  rw [← HY0.out] at hrr
  by_cases hty:y0 < t
  ·have wty:IntKind.wrap .i64 (t - y0)=t - y0:=by rw [wrap_in]<;>omega
   rw [if_neg (by omega)] at hrd
   have rz:cyc * 1440≠0:=by omega
   have rtd:Int.tdiv (t - y0) (cyc * 1440)=r:=by rw [Int.tdiv_eq_ediv_of_nonneg (by omega)];exact hrd.symm
   have wrr:IntKind.wrap .i64 r=r:=by rw [wrap_in]<;>omega
   clear hrd
   have HY:=Lib.hid (fun p=>Zn.a9t (ys:=l) hs c0 (by omega) (t:=t) hrr p)
   have hp0:=Zn.a5m l cyc r t
   have HAF:Hid (Zn.a4w l cyc t=some (Zn.yAt l cyc r (Zn.a2y l cyc r t))):=Lib.hid (by unfold Zn.a4w;rw [if_neg hl0,← hrr])
   generalize Zn.a2y l cyc r t=p0 at *
   have HRR:=Lib.hid hrr
   clear hrr
   repeat'(first|go_skip|go_guarded|go_step|go_upon)
   go_loopw [10] (fun kk wr => ∃ q:Nat,q≤1∧q * l.length≤p0∧kk=.int .i64 (r+(q:Int))∧obj wr W.heap.size=some (.cells #[.int .i64 0,.int .i64 0] 57 (0,0))∧Below W.heap.size W wr) (fun kk _=>(r+2 - intOf kk).toNat)
   case atStart=>exact ⟨0,by omega,by omega,by first | (simp;done) | (rw [HR0.out];simp;done),z1b,w1B⟩
   case round =>
    obtain ⟨q,hq,hqp,rfl,hz,hB⟩:=hrel
    repeat'(first|go_skip|go_guarded|go_step|go_upon)
    go_loopw [11] (fun i wr => ∃ k:Nat,k≤l.length∧q * l.length+k≤p0∧i=.int .i64 k∧obj wr W.heap.size=some (.cells #[.int .i64 0,.int .i64 0] 57 (0,0))∧Below W.heap.size W wr) (fun i _=>((l.length:Int) - intOf i).toNat)
    case atStart=>exact ⟨0,by omega,by omega,rfl,hz,hB⟩
    case round =>
     clear hz hB
     obtain ⟨k,hk,hkp,rfl,hz,hB⟩:=hrel
     by_cases hlk:k < l.length
     ·have i1:(k:Int) < (l.length:Int):=by omega
      have ek0:=a0y 0 (tq2 k hlk).2 (by simp)
      have ek1:=a0y 1 (tq2 k hlk).2 (by simp)
      have hxb:=HBD.out k hlk
      have tw:=a04 tq1 hB (a09 tq1)
      have lt:=a09 tw
      have lz:=a09 hz
      have HYE:=Lib.hid (ahz (ys:=l) (cyc:=cyc) (r:=r) (q:=q) (k:=k) hlk)
      have HYP:=Lib.hid (HY.out (q * l.length+k))
      rw [HYE.out] at HYP
      have hqM:0≤(q:Int) * (cyc * 1440)∧(q:Int) * (cyc * 1440)≤1 * (10000000 * 1440):=⟨Int.mul_nonneg (by omega) (by omega),Int.mul_le_mul (by omega) (by omega) (by omega) (by omega)⟩
      have hbe:(r+(q:Int)) * (cyc * 1440)=r * (cyc * 1440)+(q:Int) * (cyc * 1440):=Int.add_mul _ _ _
      generalize l.getD k default=x at *
      generalize hbb:(r+(q:Int)) * (cyc * 1440)=b at *
      have hb9:0≤b∧b≤40000000000000000:=by omega
      clear hbe hqM
      have wb:IntKind.wrap .i64 b=b:=by rw [wrap_in]<;>omega
      have wxb:IntKind.wrap .i64 (x.tm+b)=x.tm+b:=by rw [wrap_in]<;>omega
      have ek0:a5d[tof+k * 2]? = some (.int .i64 x.tm):=ek0
      have ek1:a5d[tof+k * 2+1]? = some (.int .i64 x.off):=ek1
      have e0:=(a02 tw (tof+k * 2)).trans ek0
      have hon:ones #[.int .i64 (x.tm+b),.int .i64 x.off]=true:=by simp [ones,a0n]
      by_cases hx:t≤x.tm+b
      ·have HR:Hid (Zn.a4w l cyc t=some ⟨x.tm+b,x.off⟩):=Lib.hid (by
        have h1 : ¬ q * l.length+k < p0:=fun h=>by have:=HYP.out.2 h;dsimp only at this;omega
        rw [HAF.out,show p0=q * l.length+k by omega,HYE.out])
       repeat'(first|go_skip|go_guarded|go_step|go_upon)
       refine a0k 15 [([],fun v _=>v=.slice (some ⟨tb,tof,none⟩) l.length tc),
         ([],fun v _=>v=.int .i64 (k:Nat)),
         ([0,1],fun v _=>v=.pointer (some ⟨tb,tof+k * 2,none⟩)),
         ([2],fun v _=>v=.pointer (some ⟨tb,tof+k * 2,none⟩)),
         ([3],fun v _=>v=.int .i64 x.tm),
         ([],fun v _=>v=.int .i64 (r+(q:Nat))),
         ([],fun v _=>v=.int .i64 (cyc * 1440)),
         ([5,6],fun v _=>v=.int .i64 b),
         ([4,7],fun v _=>v=.int .i64 (x.tm+b)),
         ([],fun v _=>v=.slice (some ⟨tb,tof,none⟩) l.length tc),
         ([],fun v _=>v=.int .i64 (k:Nat)),
         ([9,10],fun v _=>v=.pointer (some ⟨tb,tof+k * 2,none⟩)),
         ([11],fun v _=>v=.pointer (some ⟨tb,tof+k * 2+1,none⟩)),
         ([12],fun v _=>v=.int .i64 x.off),
         ([8,13],fun v _=>v=.agg #[.int .i64 (x.tm+b),.int .i64 x.off])] (by kernel_rfl) (by kernel_rfl) (by kernel_rfl) ?st ?ob ?tl
       case st => intro k v W1 W2 h hb;rcases k with _|_|_|_|_|_|_|_|_|_|_|_|_|_|_|k<;>first | exact h | trivial
       case ob => refine ⟨?_,?_,?_,?_,?_,?_,?_,?_,?_,?_,?_,?_,?_,?_,?_,trivial⟩<;>(intro vs Wq hW hk;(have q0:=(a02 (a04 tw hW lt) (tof+k * 2)).trans ek0);(have q1:=(a02 (a04 tw hW lt) (tof+k * 2+1)).trans ek1);(try simp only [knows,Spec.at',↓List.getD_cons_succ,↓List.getD_cons_zero,and_true] at hk);simp only [Spec.at',↓List.getD_cons_succ,↓List.getD_cons_zero,a00,a03,yy0,yy1,yy2,yy3];(try simp only [hk]);first | ((repeat'(first|go_skip|go_guarded|go_step|go_upon));exact a01 _ rfl (by go_simp) (Below.refl _ _) rfl))
       case tl => intro vs W2 hW2 hk;have v14:vs 14=.agg #[.int .i64 (x.tm+b),.int .i64 x.off]:=hk 14 (by decide);clear hk;dsimp only [a1d,List.take,List.drop];simp only [Act.put,List.setIfInBounds_toArray,List.set_cons_succ,List.set_cons_zero];rw [v14];generalize vs 0=p0,vs 1=p1,vs 2=p2,vs 3=p3,vs 4=p4,vs 5=p5,vs 6=p6,vs 7=p7,vs 8=p8,vs 9=p9,vs 10=p10,vs 11=p11,vs 12=p12,vs 13=p13;clear v14;have z2:=a04 hz hW2 lz;have h2:=hB.trans (hW2.mono hB.size);(repeat'(first|go_skip|go_guarded|go_step|go_upon));refine bodyPost_ret (a0q rfl _ _ W.heap.size 57 _ (0,0) _ (.bool true) rfl (setRow_heap _ _ _ _ _ _ z2) Tryz.underlying57 rfl (by kernel_rfl) rfl) rfl ?_;exact ⟨by rw [HR.out];rfl,below_setRow h2 (by omega) _⟩
      ·have hlt:q * l.length+k < p0:=HYP.out.1 (by dsimp only;omega)
       have HLT:=Lib.hid hlt
       clear hlt
       repeat'(first|go_skip|go_guarded|go_step|go_upon)
       exact ⟨⟨k+1,by omega,by have:=HLT.out;omega,by go_num,hz,hB⟩,by simp [intOf];omega⟩
     ·have i1 : ¬ (k:Int) < (l.length:Int):=by omega
      obtain rfl:k=l.length:=by omega
      have hq0:q=0:=by
       rcases Nat.eq_zero_or_pos q with h | h
       ·exact h
       ·have:l.length≤q * l.length:=Nat.le_mul_of_pos_left _ h
        have:1≤l.length:=by omega
        omega
      have HPP:=Lib.hid hkp
      subst hq0
      have wr1:IntKind.wrap .i64 (r+((0:Nat):Int)+1)=r+((1:Nat):Int):=by rw [wrap_in]<;>omega
      have wr2:IntKind.wrap .i64 (r+1)=r+1:=by rw [wrap_in]<;>omega
      repeat'(first|go_skip|go_guarded|go_step|go_upon)
      exact ⟨⟨1,by omega,by have:=HPP.out;omega,by simp,hz,hB⟩,by simp [intOf];omega⟩
  ·have hr00:r=0:=by
    rw [hrd]
    split
    ·exact Int.zero_ediv _
    ·rw [show t - y0=0 by omega];exact Int.zero_ediv _
   clear hrd
   have HR0:=Lib.hid hr00
   clear hr00
   have HY:=Lib.hid (fun p=>Zn.a9t (ys:=l) hs c0 (by omega) (t:=t) hrr p)
   have hp0:=Zn.a5m l cyc r t
   have HAF:Hid (Zn.a4w l cyc t=some (Zn.yAt l cyc r (Zn.a2y l cyc r t))):=Lib.hid (by unfold Zn.a4w;rw [if_neg hl0,← hrr])
   generalize Zn.a2y l cyc r t=p0 at *
   have HRR:=Lib.hid hrr
   clear hrr
   repeat'(first|go_skip|go_guarded|go_step|go_upon)
   go_loopw [10] (fun kk wr => ∃ q:Nat,q≤1∧q * l.length≤p0∧kk=.int .i64 (r+(q:Int))∧obj wr W.heap.size=some (.cells #[.int .i64 0,.int .i64 0] 57 (0,0))∧Below W.heap.size W wr) (fun kk _=>(r+2 - intOf kk).toNat)
   case atStart=>exact ⟨0,by omega,by omega,by first | (simp;done) | (rw [HR0.out];simp;done),z1b,w1B⟩
   case round =>
    obtain ⟨q,hq,hqp,rfl,hz,hB⟩:=hrel
    repeat'(first|go_skip|go_guarded|go_step|go_upon)
    go_loopw [11] (fun i wr => ∃ k:Nat,k≤l.length∧q * l.length+k≤p0∧i=.int .i64 k∧obj wr W.heap.size=some (.cells #[.int .i64 0,.int .i64 0] 57 (0,0))∧Below W.heap.size W wr) (fun i _=>((l.length:Int) - intOf i).toNat)
    case atStart=>exact ⟨0,by omega,by omega,rfl,hz,hB⟩
    case round =>
     clear hz hB
     obtain ⟨k,hk,hkp,rfl,hz,hB⟩:=hrel
     by_cases hlk:k < l.length
     ·have i1:(k:Int) < (l.length:Int):=by omega
      have ek0:=a0y 0 (tq2 k hlk).2 (by simp)
      have ek1:=a0y 1 (tq2 k hlk).2 (by simp)
      have hxb:=HBD.out k hlk
      have tw:=a04 tq1 hB (a09 tq1)
      have lt:=a09 tw
      have lz:=a09 hz
      have HYE:=Lib.hid (ahz (ys:=l) (cyc:=cyc) (r:=r) (q:=q) (k:=k) hlk)
      have HYP:=Lib.hid (HY.out (q * l.length+k))
      rw [HYE.out] at HYP
      have hqM:0≤(q:Int) * (cyc * 1440)∧(q:Int) * (cyc * 1440)≤1 * (10000000 * 1440):=⟨Int.mul_nonneg (by omega) (by omega),Int.mul_le_mul (by omega) (by omega) (by omega) (by omega)⟩
      have hbe:(r+(q:Int)) * (cyc * 1440)=r * (cyc * 1440)+(q:Int) * (cyc * 1440):=Int.add_mul _ _ _
      generalize l.getD k default=x at *
      generalize hbb:(r+(q:Int)) * (cyc * 1440)=b at *
      have hb9:0≤b∧b≤40000000000000000:=by omega
      clear hbe hqM
      have wb:IntKind.wrap .i64 b=b:=by rw [wrap_in]<;>omega
      have wxb:IntKind.wrap .i64 (x.tm+b)=x.tm+b:=by rw [wrap_in]<;>omega
      have ek0:a5d[tof+k * 2]? = some (.int .i64 x.tm):=ek0
      have ek1:a5d[tof+k * 2+1]? = some (.int .i64 x.off):=ek1
      have e0:=(a02 tw (tof+k * 2)).trans ek0
      have hon:ones #[.int .i64 (x.tm+b),.int .i64 x.off]=true:=by simp [ones,a0n]
      by_cases hx:t≤x.tm+b
      ·have HR:Hid (Zn.a4w l cyc t=some ⟨x.tm+b,x.off⟩):=Lib.hid (by
        have h1 : ¬ q * l.length+k < p0:=fun h=>by have:=HYP.out.2 h;dsimp only at this;omega
        rw [HAF.out,show p0=q * l.length+k by omega,HYE.out])
       repeat'(first|go_skip|go_guarded|go_step|go_upon)
       refine a0k 15 [([],fun v _=>v=.slice (some ⟨tb,tof,none⟩) l.length tc),
         ([],fun v _=>v=.int .i64 (k:Nat)),
         ([0,1],fun v _=>v=.pointer (some ⟨tb,tof+k * 2,none⟩)),
         ([2],fun v _=>v=.pointer (some ⟨tb,tof+k * 2,none⟩)),
         ([3],fun v _=>v=.int .i64 x.tm),
         ([],fun v _=>v=.int .i64 (r+(q:Nat))),
         ([],fun v _=>v=.int .i64 (cyc * 1440)),
         ([5,6],fun v _=>v=.int .i64 b),
         ([4,7],fun v _=>v=.int .i64 (x.tm+b)),
         ([],fun v _=>v=.slice (some ⟨tb,tof,none⟩) l.length tc),
         ([],fun v _=>v=.int .i64 (k:Nat)),
         ([9,10],fun v _=>v=.pointer (some ⟨tb,tof+k * 2,none⟩)),
         ([11],fun v _=>v=.pointer (some ⟨tb,tof+k * 2+1,none⟩)),
         ([12],fun v _=>v=.int .i64 x.off),
         ([8,13],fun v _=>v=.agg #[.int .i64 (x.tm+b),.int .i64 x.off])] (by kernel_rfl) (by kernel_rfl) (by kernel_rfl) ?st ?ob ?tl
       case st => intro k v W1 W2 h hb;rcases k with _|_|_|_|_|_|_|_|_|_|_|_|_|_|_|k<;>first | exact h | trivial
       case ob => refine ⟨?_,?_,?_,?_,?_,?_,?_,?_,?_,?_,?_,?_,?_,?_,?_,trivial⟩<;>(intro vs Wq hW hk;(have q0:=(a02 (a04 tw hW lt) (tof+k * 2)).trans ek0);(have q1:=(a02 (a04 tw hW lt) (tof+k * 2+1)).trans ek1);(try simp only [knows,Spec.at',↓List.getD_cons_succ,↓List.getD_cons_zero,and_true] at hk);simp only [Spec.at',↓List.getD_cons_succ,↓List.getD_cons_zero,a00,a03,yy0,yy1,yy2,yy3];(try simp only [hk]);first | ((repeat'(first|go_skip|go_guarded|go_step|go_upon));exact a01 _ rfl (by go_simp) (Below.refl _ _) rfl))
       case tl => intro vs W2 hW2 hk;have v14:vs 14=.agg #[.int .i64 (x.tm+b),.int .i64 x.off]:=hk 14 (by decide);clear hk;dsimp only [a1d,List.take,List.drop];simp only [Act.put,List.setIfInBounds_toArray,List.set_cons_succ,List.set_cons_zero];rw [v14];generalize vs 0=p0,vs 1=p1,vs 2=p2,vs 3=p3,vs 4=p4,vs 5=p5,vs 6=p6,vs 7=p7,vs 8=p8,vs 9=p9,vs 10=p10,vs 11=p11,vs 12=p12,vs 13=p13;clear v14;have z2:=a04 hz hW2 lz;have h2:=hB.trans (hW2.mono hB.size);(repeat'(first|go_skip|go_guarded|go_step|go_upon));refine bodyPost_ret (a0q rfl _ _ W.heap.size 57 _ (0,0) _ (.bool true) rfl (setRow_heap _ _ _ _ _ _ z2) Tryz.underlying57 rfl (by kernel_rfl) rfl) rfl ?_;exact ⟨by rw [HR.out];rfl,below_setRow h2 (by omega) _⟩
      ·have hlt:q * l.length+k < p0:=HYP.out.1 (by dsimp only;omega)
       have HLT:=Lib.hid hlt
       clear hlt
       repeat'(first|go_skip|go_guarded|go_step|go_upon)
       exact ⟨⟨k+1,by omega,by have:=HLT.out;omega,by go_num,hz,hB⟩,by simp [intOf];omega⟩
     ·have i1 : ¬ (k:Int) < (l.length:Int):=by omega
      obtain rfl:k=l.length:=by omega
      have hq0:q=0:=by
       rcases Nat.eq_zero_or_pos q with h | h
       ·exact h
       ·have:l.length≤q * l.length:=Nat.le_mul_of_pos_left _ h
        have:1≤l.length:=by omega
        omega
      have HPP:=Lib.hid hkp
      subst hq0
      have wr1:IntKind.wrap .i64 (r+((0:Nat):Int)+1)=r+((1:Nat):Int):=by rw [wrap_in]<;>omega
      have wr2:IntKind.wrap .i64 (r+1)=r+1:=by rw [wrap_in]<;>omega
      repeat'(first|go_skip|go_guarded|go_step|go_upon)
      exact ⟨⟨1,by omega,by have:=HPP.out;omega,by simp,hz,hB⟩,by simp [intOf];omega⟩
end Go.Proofs.YtppjleebbjipbaaGreat
