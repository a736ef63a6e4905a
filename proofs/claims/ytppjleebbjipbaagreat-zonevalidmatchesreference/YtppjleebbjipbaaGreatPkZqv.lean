/-
  kalendsref13.before.
-/
import Derived.Test.YtppjleebbjipbaaGreatPkZpb
import Derived.Test.YtppjleebbjipbaaGreatPkZoj
set_option linter.unusedSectionVars false
set_option linter.constructorNameAsVariable false
set_option linter.unusedVariables false
set_option linter.unusedSimpArgs false
namespace Zn
def befN (ys:List Tr) (cyc hor t r:Int):Nat→Option Tr
 | 0=>none
 | p+1=>if (yAt ys cyc r p).tm≤t∧hor≤(yAt ys cyc r p).tm then some (yAt ys cyc r p) else befN ys cyc hor t r p
theorem befN_skip {ys:List Tr} {cyc hor t r:Int} {a:Nat}:∀ d:Nat,(∀ j,a≤j→j < a+d→¬ ((yAt ys cyc r j).tm≤t∧hor≤(yAt ys cyc r j).tm))→befN ys cyc hor t r (a+d)=befN ys cyc hor t r a
 | 0,_=>rfl
 | d+1,h=>by
  show (if (yAt ys cyc r (a+d)).tm≤t∧hor≤(yAt ys cyc r (a+d)).tm then some (yAt ys cyc r (a+d)) else befN ys cyc hor t r (a+d))=_
  rw [if_neg (h (a+d) (by omega) (by omega))]
  exact befN_skip d fun j h1 h2=>h j h1 (by omega)
theorem befN_none {ys:List Tr} {cyc hor t r:Int} {a:Nat} (h:∀ j,j < a→¬ ((yAt ys cyc r j).tm≤t∧hor≤(yAt ys cyc r j).tm)):befN ys cyc hor t r a=none:=by
 have h9:=befN_skip (ys:=ys) (cyc:=cyc) (hor:=hor) (t:=t) (r:=r) (a:=0) a (fun j _ hj=>h j (by omega))
 rw [Nat.zero_add] at h9
 exact h9
theorem first_no (P:Nat→Prop) [DecidablePred P]:∀ n,∃ k,k≤n∧(∀ j,j < k→P j)∧(k < n→¬ P k)
 | 0=>⟨0,by omega,fun j h=>absurd h (Nat.not_lt_zero j),fun h=>absurd h (Nat.lt_irrefl 0)⟩
 | n+1=>by
  obtain ⟨k,h1,h2,h3⟩:=first_no P n
  by_cases hk:k < n
  ·exact ⟨k,by omega,h2,fun _=>h3 hk⟩
  ·obtain rfl:k=n:=by omega
   by_cases hp:P k
   ·refine ⟨k+1,by omega,fun j hj=>?_,fun h=>absurd h (by omega)⟩
    rcases Nat.lt_or_ge j k with h | h
    ·exact h2 j h
    ·obtain rfl:j=k:=by omega
     exact hp
   ·exact ⟨k,by omega,h2,fun _=>hp⟩
theorem lastY_bef {z:a0w} {ys:List Tr} {cyc t:Int} (hs:a8u ys) (hc:0 < cyc) (h0:ys.length≠0) (hy:(ys.getD 0 default).tm≤t)
  (hw:∀ i,i < ys.length→(ys.getD i default).tm < (ys.getD 0 default).tm+cyc * 1440) {k0:Int} {d:Nat} (hk:k0+(d:Int)=turns (ys.getD 0 default).tm t cyc) (hd:d≤1) :
  a6a z ys cyc t=befN ys cyc z.hor t k0 (d * ys.length+ys.length):=by
 have hm:=a4r (y0:=(ys.getD 0 default).tm) (t:=t) hc
 rw [if_neg (by omega)] at hm
 unfold a6a
 rw [if_pos ⟨h0,hy⟩,← hk]
 rw [← hk] at hm
 have hmono:∀ a b,a≤b→b < ys.length→(ys.getD a default).tm≤(ys.getD b default).tm:=fun a b h1 h2=>by
  rcases Nat.lt_or_ge a b with h | h
  ·have:=hs a b h h2;omega
  ·obtain rfl:a=b:=by omega
   exact Int.le_refl _
 obtain ⟨k,k1,k2,k3'⟩:=first_no (fun j=>(ys.getD j default).tm≤t - (k0+d) * (cyc * 1440)) ys.length
 have k3:∀ j,k≤j→j < ys.length→t - (k0+d) * (cyc * 1440) < (ys.getD j default).tm:=fun j h1 h2=>by
  have a1:=k3' (by omega)
  have a2:=hmono k j h1 h2
  omega
 have hk0:k≠0:=fun e=>by have:=k3 0 (by omega) (by omega);omega
 obtain ⟨i,rfl⟩ : ∃ i,k=i+1:=⟨k - 1,by omega⟩
 rw [aag ys _ none (i+1) k1 k2 k3,if_neg (by omega),Nat.add_sub_cancel]
 try dsimp only
 have hx:=Go.Proofs.YtppjleebbjipbaaGreat.ahz (ys:=ys) (cyc:=cyc) (r:=k0) (q:=d) (k:=i) (by omega)
 have hi:=k2 i (by omega)
 have e1:befN ys cyc z.hor t k0 (d * ys.length+ys.length)=befN ys cyc z.hor t k0 (d * ys.length+i+1):=by
  have h9:=befN_skip (ys:=ys) (cyc:=cyc) (hor:=z.hor) (t:=t) (r:=k0) (a:=d * ys.length+i+1) (ys.length - i - 1) (fun j h1 h2=>by
   have e:=Go.Proofs.YtppjleebbjipbaaGreat.ahz (ys:=ys) (cyc:=cyc) (r:=k0) (q:=d) (k:=j - d * ys.length) (by omega)
   rw [show d * ys.length+(j - d * ys.length)=j by omega] at e
   rw [e]
   have:=k3 (j - d * ys.length) (by omega) (by omega)
   dsimp only
   omega)
  rw [show d * ys.length+i+1+(ys.length - i - 1)=d * ys.length+ys.length by omega] at h9
  exact h9
 rw [e1]
 show _=(if (yAt ys cyc k0 (d * ys.length+i)).tm≤t∧z.hor≤(yAt ys cyc k0 (d * ys.length+i)).tm then some (yAt ys cyc k0 (d * ys.length+i)) else befN ys cyc z.hor t k0 (d * ys.length+i))
 rw [hx]
 try dsimp only
 by_cases hh:z.hor≤(ys.getD i default).tm+(k0+d) * (cyc * 1440)
 ·rw [if_pos hh,if_pos ⟨by omega,hh⟩]
 ·rw [if_neg hh,if_neg (fun h=>hh h.2),befN_none]
  intro j hj
  rcases Nat.lt_or_ge j (d * ys.length) with h | h
  ·obtain rfl:d=1:=by
    rcases Nat.eq_zero_or_pos d with h2 | h2
    ·rw [h2,Nat.zero_mul] at h;omega
    ·omega
   have e:=Go.Proofs.YtppjleebbjipbaaGreat.ahz (ys:=ys) (cyc:=cyc) (r:=k0) (q:=0) (k:=j) (by omega)
   rw [Nat.zero_mul,Nat.zero_add] at e
   rw [e]
   dsimp only
   have a1:=hw j (by omega)
   have a2:=hmono 0 i (by omega) (by omega)
   have a3:(k0+((1:Nat):Int)) * (cyc * 1440)=(k0+((0:Nat):Int)) * (cyc * 1440)+cyc * 1440:=by
    rw [Int.add_mul,Int.add_mul]
    simp
   omega
  ·have e:=Go.Proofs.YtppjleebbjipbaaGreat.ahz (ys:=ys) (cyc:=cyc) (r:=k0) (q:=d) (k:=j - d * ys.length) (by omega)
   rw [show d * ys.length+(j - d * ys.length)=j by omega] at e
   rw [e]
   dsimp only
   have a1:=hs (j - d * ys.length) i (by omega) (by omega)
   omega
end Zn
namespace Go.Proofs.YtppjleebbjipbaaGreat
open Go.RowKit
set_option maxRecDepth 20000
set_option maxHeartbeats 8000000
theorem before_calls {W:World} {v:Value} {z:Zn.a0w} {l:List Zn.Tr} (hv:a2b W v l) (hs:Zn.a8u l) (hl:l.length≤10000000) {cyc t:Int} (c0:0 < cyc) (c1:cyc≤10000000) (ht0 : -9007199254740992≤t) (ht1:t≤9007199254740992)
  (hb:∀ i,i < l.length→-2199023255552≤(l.getD i default).tm∧(l.getD i default).tm≤2199023255552) (hw:∀ i,i < l.length→(l.getD i default).tm < (l.getD 0 default).tm+cyc * 1440) :
  Calls Tryz.prog 139 #[v,.int .i64 cyc,.int .i64 z.hor,.int .i64 t] W fun e w'=>e=.returned (aha (Zn.a6a z l cyc t))∧Below W.heap.size W w':=by
 have w1B:Below W.heap.size W (W.alloc (.cells #[.int .i64 0,.int .i64 0] 57)):=(Below.refl _ _).alloc (Nat.le_refl _) _
 have z1b:obj (W.alloc (.cells #[.int .i64 0,.int .i64 0] 57)) W.heap.size=some (.cells #[.int .i64 0,.int .i64 0] 57 (0,0)):=a05 _ _ _ rfl
 have HBD:=Lib.hid hb
 obtain ⟨ta,tc,rfl⟩:=a2b.ajx hv
 go_enter Tryz.func139,Tryz.ntmps139
 by_cases hl0:l.length=0
 ·have t0:((l.length:Int) == 0)=true:=by simp [hl0]
  have HR:Hid (Zn.a6a z l cyc t=none):=Lib.hid (by unfold Zn.a6a;rw [if_neg (fun h=>h.1 hl0)])
  clear hl0 hw
  repeat'(first|go_skip|go_guarded|go_step|go_upon)
  refine bodyPost_ret (a0q rfl _ _ W.heap.size 57 _ (0,0) _ (.bool false) rfl z1b Tryz.underlying57 rfl (by kernel_rfl) rfl) rfl ?_
  exact ⟨by rw [HR.out];rfl,w1B⟩
 ·have t0:((
        l.length:Int) == 0)=false:=by simpa using hl0
  have t1:(0:Int) < (l.length:Int):=by omega
  obtain ⟨tb,tof,tc',a5d,TT',tfr,htv,tq1,tq2⟩:=a2b.open hv (by omega)
  obtain ⟨rfl,rfl⟩:ta=some ⟨tb,tof,none⟩∧tc=tc':=by injection htv with a b c;exact ⟨a,c⟩
  have e0r:a5d[tof]? = some (.int .i64 (l.getD 0 default).tm):=by have:=a0y 0 (tq2 0 (by omega)).2 (by simp);simpa using this
  have e00:=(a02 (a0a tq1 w1B) tof).trans e0r
  have hb0:=hb 0 (by omega)
  have wcm:IntKind.wrap .i64 (cyc * 1440)=cyc * 1440:=by rw [wrap_in]<;>omega
  have HW:=Lib.hid hw
  have HY0:=Lib.hid (rfl:(l.getD 0 default).tm=(l.getD 0 default).tm)
  have hr0:=Zn.a2d (y0:=(l.getD 0 default).tm) (t:=t) c0
  have hrM:=Zn.a4r (y0:=(l.getD 0 default).tm) (t:=t) c0
  have HLY:Hid (∀ k0:Int,∀ d:Nat,(l.getD 0 default).tm≤t→k0+(d:Int)=Zn.turns (l.getD 0 default).tm t cyc→d≤1→Zn.a6a z l cyc t=Zn.befN l cyc z.hor t k0 (d * l.length+l.length)):=Lib.hid fun k0 d h1 h2 h3=>Zn.lastY_bef hs c0 hl0 h1 HW.out h2 h3
  have HLN:Hid (t < (l.getD 0 default).tm→Zn.a6a z l cyc t=none):=Lib.hid fun h=>by unfold Zn.a6a;rw [if_neg (fun h2=>by have:=h2.2;omega)]
  have hrd:Zn.turns (l.getD 0 default).tm t cyc=(if t - (l.getD 0 default).tm < 0 then 0 else t - (l.getD 0 default).tm) / (cyc * 1440):=rfl
  clear htv hb hw
  generalize (l.getD 0 default).tm=y0 at *
  clear HY0
  by_cases hty:t < y0
  ·clear hrd hrM hr0
   repeat'(first|go_skip|go_guarded|go_step|go_upon)
   refine bodyPost_ret (a0q rfl _ _ W.heap.size 57 _ (0,0) _ (.bool false) rfl z1b Tryz.underlying57 rfl (by kernel_rfl) rfl) rfl ?_
   exact ⟨by rw [HLN.out hty];rfl,w1B⟩
  ·have hty2:y0≤t:=by omega
   have wty:IntKind.wrap .i64 (t - y0)=t - y0:=by rw [wrap_in]<;>omega
   rw [if_neg (by omega)] at hrd hrM
   generalize hrr:Zn.turns y0 t cyc=r at *
   have hrM0:0≤r * (cyc * 1440):=Int.mul_nonneg hr0 (by omega)
   have hrle:r≤18014398509481984:=by
    have:r * 1≤r * (cyc * 1440):=Int.mul_le_mul_of_nonneg_left (by omega) hr0
    omega
   have rz:cyc * 1440≠0:=by omega
   have rtd:Int.tdiv (t - y0) (cyc * 1440)=r:=by rw [Int.tdiv_eq_ediv_of_nonneg (by omega)];exact hrd.symm
   have wrr:IntKind.wrap .i64 r=r:=by rw [wrap_in]<;>omega
   have wr1:IntKind.wrap .i64 (r - 1)=r - 1:=by rw [wrap_in]<;>omega
   clear hrd hrr
   obtain ⟨k0,d,hmx,hkd,hd1,hk00⟩ : ∃ k0:Int,∃ d:Nat,(if r - 1 < 0 then (0:Int) else r - 1)=k0∧k0+(d:Int)=r∧d≤1∧0≤k0:=by
    by_cases h:r - 1 < 0
    ·exact ⟨0,0,if_pos h,by omega,by omega,by omega⟩
    ·exact ⟨r - 1,1,if_neg h,by omega,by omega,by omega⟩
   have HR:=Lib.hid (HLY.out k0 d hty2 hkd hd1)
   have HKD:=Lib.hid hkd
   clear hty2 HLY HLN hkd
   have w2B:Below W.heap.size W ((W.alloc (.cells #[.int .i64 0,.int .i64 0] 57)).alloc (.cells #[.int .i64 0,.int .i64 0] 57)):=w1B.alloc (by simp) _
   have z2b:obj ((W.alloc (.cells #[.int .i64 0,.int .i64 0] 57)).alloc (.cells #[.int .i64 0,.int .i64 0] 57)) W.heap.size=some (.cells #[.int .i64 0,.int .i64 0] 57 (0,0)):=a06 z1b _
   have z2c:obj ((W.alloc (.cells #[.int .i64 0,.int .i64 0] 57)).alloc (.cells #[.int .i64 0,.int .i64 0] 57)) (W.heap.size+1)=some (.cells #[.int .i64 0,.int .i64 0] 57 (0,0)):=a05 _ _ _ (by simp)
   have e02:=(a02 (a0a tq1 w2B) tof).trans e0r
   have HBF0:Hid (Zn.befN l cyc z.hor t k0 0=none):=Lib.hid rfl
   have HTQ:=Lib.hid tq2
   have HBF:Hid (∀ (q k:Nat) (x:Zn.Tr),k < l.length→l.getD k default=x→Zn.befN l cyc z.hor t k0 (q * l.length+(k+1))=if x.tm+(k0+(q:Int)) * (cyc * 1440)≤t∧z.hor≤x.tm+(k0+(q:Int)) * (cyc * 1440) then some ⟨x.tm+(k0+(q:Int)) * (cyc * 1440),x.off⟩ else Zn.befN l cyc z.hor t k0 (q * l.length+k)):=Lib.hid fun q k x hk hx=>by
    show (if (Zn.yAt l cyc k0 (q * l.length+k)).tm≤t∧z.hor≤(Zn.yAt l cyc k0 (q * l.length+k)).tm then some (Zn.yAt l cyc k0 (q * l.length+k)) else Zn.befN l cyc z.hor t k0 (q * l.length+k))=_
    rw [ahz hk,hx]
   clear tq2
   repeat'(first|go_skip|go_guarded|go_step|go_upon)
   go_loopw [12,13] (fun ff kk wr => ∃ q:Nat,q≤d+1∧kk=.int .i64 (k0+(q:Int))∧ff=.bool (Zn.befN l cyc z.hor t k0 (q * l.length)).isSome∧obj wr W.heap.size=some (.cells #[.int .i64 0,.int .i64 0] 57 (0,0))∧obj wr (W.heap.size+1)=some (.cells #[.int .i64 (Option.getD (Zn.befN l cyc z.hor t k0 (q * l.length)) default).tm,.int .i64 (Option.getD (Zn.befN l cyc z.hor t k0 (q * l.length)) default).off] 57 (0,0))∧Below W.heap.size W wr) (fun _ kk _=>(r+1 - intOf kk).toNat)
   case atStart=>exact ⟨0,by omega,by first | (simp;done) | (rw [hmx];simp;done) | (congr 1;rw [Int.max_def];split at hmx<;>split<;>omega),by rw [Nat.zero_mul];rfl,z2b,by rw [Nat.zero_mul];exact z2c,w2B⟩
   case round =>
    obtain ⟨q,hq,rfl,rfl,hz,ho,hB⟩:=hrel
    have tw:=a04 tq1 hB (a09 tq1)
    have e01:=(a02 tw tof).trans e0r
    by_cases hqd:q≤d
    ·have i1:k0+(q:Int)≤r:=by have:=HKD.out;omega
     have hqM:0≤(q:Int) * (cyc * 1440)∧(q:Int) * (cyc * 1440)≤1 * (10000000 * 1440):=⟨Int.mul_nonneg (by omega) (by omega),Int.mul_le_mul (by omega) (by omega) (by omega) (by omega)⟩
     have hbe:(k0+(q:Int)) * (cyc * 1440)≤r * (cyc * 1440):=Int.mul_le_mul_of_nonneg_right i1 (by omega)
     have hbe0:0≤(k0+(q:Int)) * (cyc * 1440):=Int.mul_nonneg (by omega) (by omega)
     have wkq:IntKind.wrap .i64 (k0+(q:Int)+1)=k0+((q+1:Nat):Int):=by rw [wrap_in]<;>omega
     have HBQ:=Lib.hid (HBF.out q)
     obtain ⟨b,hbb⟩ : ∃ b,(k0+(q:Int)) * (cyc * 1440)=b:=⟨_,rfl⟩
     have wb:IntKind.wrap .i64 ((k0+(q:Int)) * (cyc * 1440))=b:=by rw [hbb,wrap_in]<;>omega
     have hb9:0≤b∧b≤40000000000000000:=by omega
     have HBB:=Lib.hid hbb
     clear hbe hbe0 hqM hbb
     repeat'(first|go_skip|go_guarded|go_step|go_upon)
     clear e01 tw
     go_loopw [12,14] (fun ff i wr => ∃ k:Nat,k≤l.length∧i=.int .i64 k∧ff=.bool (Zn.befN l cyc z.hor t k0 (q * l.length+k)).isSome∧obj wr W.heap.size=some (.cells #[.int .i64 0,.int .i64 0] 57 (0,0))∧obj wr (W.heap.size+1)=some (.cells #[.int .i64 (Option.getD (Zn.befN l cyc z.hor t k0 (q * l.length+k)) default).tm,.int .i64 (Option.getD (Zn.befN l cyc z.hor t k0 (q * l.length+k)) default).off] 57 (0,0))∧Below W.heap.size W wr) (fun _ i _=>((l.length:Int) - intOf i).toNat)
     case atStart=>exact ⟨0,by omega,rfl,rfl,hz,ho,hB⟩
     case round =>
      clear hz ho hB
      obtain ⟨k,hk,rfl,rfl,hz,ho,hB⟩:=hrel
      by_cases hlk:k < l.length
      ·have i2:(k:Int) < (l.length:Int):=by omega
       have ek0:=a0y 0 (HTQ.out k hlk).2 (by simp)
       have ek1:=a0y 1 (HTQ.out k hlk).2 (by simp)
       have hxb:=HBD.out k hlk
       have tw:=a04 tq1 hB (a09 tq1)
       have hn:=HBQ.out k (l.getD k default) hlk rfl
       rw [HBB.out] at hn
       generalize l.getD k default=x at *
       have HN:=Lib.hid hn
       clear hn
       have ek0:a5d[tof+k * 2]? = some (.int .i64 x.tm):=ek0
       have ek1:a5d[tof+k * 2+1]? = some (.int .i64 x.off):=ek1
       have e0:=(a02 tw (tof+k * 2)).trans ek0
       have e1:=(a02 tw (tof+k * 2+1)).trans ek1
       have wxb:IntKind.wrap .i64 (x.tm+b)=x.tm+b:=by rw [wrap_in]<;>omega
       have hon:ones #[.int .i64 (x.tm+b),.int .i64 x.off]=true:=by simp [ones,a0n]
       have lz:=a09 ho
       by_cases h1:x.tm+b≤t
       ·by_cases h2:z.hor≤x.tm+b
        ·have HN1:Hid (Zn.befN l cyc z.hor t k0 (q * l.length+(k+1))=some ⟨x.tm+b,x.off⟩):=Lib.hid (by rw [HN.out,if_pos ⟨h1,h2⟩])
         have hz2:=a2q hz (show W.heap.size≠W.heap.size+1 by omega) #[.int .i64 (x.tm+b),.int .i64 x.off]
         have ho2:obj (wr.setRow (W.heap.size+1) #[.int .i64 (x.tm+b),.int .i64 x.off]) (W.heap.size+1)=some (.cells #[.int .i64 (x.tm+b),.int .i64 x.off] 57 (0,0)):=setRow_heap _ _ _ _ _ _ ho
         have HZ2:=Lib.hid (And.intro hz2 (And.intro ho2 (below_setRow hB (show W.heap.size≤W.heap.size+1 by omega) #[.int .i64 (x.tm+b),.int .i64 x.off])))
         clear hz2 ho2
         repeat'(first|go_skip|go_guarded|go_step|go_upon)
         exact ⟨⟨k+1,by omega,by go_num,by rw [HN1.out];rfl,HZ2.out.1,by rw [HN1.out];exact HZ2.out.2.1,HZ2.out.2.2⟩,by simp [intOf];omega⟩
        ·have HN1:Hid (Zn.befN l cyc z.hor t k0 (q * l.length+(k+1))=Zn.befN l cyc z.hor t k0 (q * l.length+k)):=Lib.hid (by rw [HN.out,if_neg (fun h=>h2 h.2)])
         repeat'(first|go_skip|go_guarded|go_step|go_upon)
         exact ⟨⟨k+1,by omega,by go_num,by rw [HN1.out],hz,by rw [HN1.out];exact ho,hB⟩,by simp [intOf];omega⟩
       ·have HN1:Hid (Zn.befN l cyc z.hor t k0 (q * l.length+(k+1))=Zn.befN l cyc z.hor t k0 (q * l.length+k)):=Lib.hid (by rw [HN.out,if_neg (fun h=>h1 h.1)])
        repeat'(first|go_skip|go_guarded|go_step|go_upon)
        exact ⟨⟨k+1,by omega,by go_num,by rw [HN1.out],hz,by rw [HN1.out];exact ho,hB⟩,by simp [intOf];omega⟩
      ·have i2 : ¬ (k:Int) < (l.length:Int):=by omega
       obtain rfl:k=l.length:=by omega
       have HQ1:=Lib.hid (show (q+1) * l.length=q * l.length+l.length from Nat.succ_mul _ _)
       repeat'(first|go_skip|go_guarded|go_step|go_upon)
       exact ⟨⟨q+1,by omega,by first | (simp;done) | (congr 1;omega),by rw [HQ1.out],hz,by rw [HQ1.out];exact ho,hB⟩,by have:=HKD.out;simp [intOf];omega⟩
    ·have i1 : ¬ k0+(q:Int)≤r:=by have:=HKD.out;omega
     obtain rfl:q=d+1:=by omega
     rw [show (d+1) * l.length=d * l.length+l.length from Nat.succ_mul _ _] at *
     have HR2:=HR
     clear HBF HBF0
     generalize Zn.befN l cyc z.hor t k0 (d * l.length+l.length)=o at *
     have hon:ones #[.int .i64 (o.getD default).tm,.int .i64 (o.getD default).off]=true:=by simp [ones,a0n]
     repeat'(first|go_skip|go_guarded|go_step|go_upon)
     refine bodyPost_ret (a0q rfl _ _ W.heap.size 57 _ (0,0) _ (.bool o.isSome) rfl (setRow_heap _ _ _ _ _ _ hz) Tryz.underlying57 rfl (by kernel_rfl) rfl) rfl ?_
     exact ⟨by rw [HR2.out];rfl,below_setRow hB (Nat.le_refl _) _⟩
end Go.Proofs.YtppjleebbjipbaaGreat
namespace Go.Proofs.YtppjleebbjipbaaGreat
open Go.RowKit
set_option maxRecDepth 20000
set_option maxHeartbeats 8000000
theorem rlast_calls {W:World} {z:Zn.a0w} {mv rv tv yv:Value} (hv:a1q W z mv rv tv yv) (hg:Zn.Good z) {t:Int} (ht0 : -9007199254740992≤t) (ht1:t≤9007199254740992) :
    Calls Tryz.prog 97 #[.agg #[.int .i64 z.cal.a08,mv,.int .i64 z.cal.a0l,rv,.int .i64 z.start,tv,.int .i64 z.hor,yv],.int .i64 t] W fun e w'=>e=.returned (aha (Zn.ab1 z t))∧Below W.heap.size W w':=by
  obtain ⟨ta,tc,rfl⟩:=a2b.ajx hv.tr
  have hon:ones #[.int .i64 z.cal.a08,mv,.int .i64 z.cal.a0l,rv,.int .i64 z.start,.slice ta z.trans.length tc,.int .i64 z.hor,yv]=true:=a1b hv.cal.mon.one hv.cal.rul.one (a1m.one hv.tr) (a1m.one hv.yr)
  have w1B:Below W.heap.size W (W.alloc (.cells #[.int .i64 z.cal.a08,mv,.int .i64 z.cal.a0l,rv,.int .i64 z.start,.slice ta z.trans.length tc,.int .i64 z.hor,yv] 35)):=(Below.refl _ _).alloc (Nat.le_refl _) _
  have w2B:Below W.heap.size W ((W.alloc (.cells #[.int .i64 z.cal.a08,mv,.int .i64 z.cal.a0l,rv,.int .i64 z.start,.slice ta z.trans.length tc,.int .i64 z.hor,yv] 35)).alloc (.cells #[.int .i64 0,.int .i64 0] 57)):=w1B.alloc (by simp) _
  have o0:obj ((W.alloc (.cells #[.int .i64 z.cal.a08,mv,.int .i64 z.cal.a0l,rv,.int .i64 z.start,.slice ta z.trans.length tc,.int .i64 z.hor,yv] 35)).alloc (.cells #[.int .i64 0,.int .i64 0] 57)) W.heap.size=some (.cells #[.int .i64 z.cal.a08,mv,.int .i64 z.cal.a0l,rv,.int .i64 z.start,.slice ta z.trans.length tc,.int .i64 z.hor,yv] 35 (0,0)):=a06 (a05 _ _ _ rfl) _
  have o1:obj ((W.alloc (.cells #[.int .i64 z.cal.a08,mv,.int .i64 z.cal.a0l,rv,.int .i64 z.start,.slice ta z.trans.length tc,.int .i64 z.hor,yv] 35)).alloc (.cells #[.int .i64 0,.int .i64 0] 57)) (W.heap.size+1)=some (.cells #[.int .i64 0,.int .i64 0] 57 (0,0)):=a05 _ _ _ (by simp)
  have HV:=Lib.hid (fun (Wq:World) (hq:Below W.heap.size W Wq)=>hv.below hq)
  have HYE:=Lib.hid (ae5 (hv.below w2B) hg.a.zok)
  have HTR:=Lib.hid (fun (Wq:World) (hq:Below W.heap.size W Wq)=>a1m.below hv.tr hq)
  have HCK:=Lib.hid hg.ck
  have HGD:=Lib.hid hg
  have htl:=hg.a.hd.t
  clear hv hg w1B
  go_enter Tryz.func97,Tryz.ntmps97
  repeat' ((go_not_at_region 1);(first|go_skip|go_guarded|go_step|go_upon))
  generalize ((W.alloc (.cells #[.int .i64 z.cal.a08,mv,.int .i64 z.cal.a0l,rv,.int .i64 z.start,.slice ta z.trans.length tc,.int .i64 z.hor,yv] 35)).alloc (.cells #[.int .i64 0,.int .i64 0] 57))=V at *
  repeat' ((go_not_at_region 2);(first | (go_at_call 67;((with_reducible refine (HYE.out).mono ?_));rintro e w5 ⟨⟨lv,b9,rfl,hlv,_⟩,hB5⟩;have hB:=w2B.trans (hB5.mono w2B.size);have kz:=a0a o0 hB5;have k1:=a0a o1 hB5;dsimp only)|go_skip|go_guarded|go_step|go_upon))
  have lz:=a09 kz
  have l1:=a09 k1
  have HCY:=Lib.hid (fun (Wq:World) (hq:Below w5.heap.size w5 Wq)=>ab9 (HV.out Wq (hB.trans (hq.mono hB.size))) HGD.out.a.hd.cal)
  obtain ⟨x,hx⟩ : ∃ x,x=(Zn.a6a z (Zn.ysT z) (Zn.a0s z) t).getD default:=⟨_,rfl⟩
  obtain ⟨bb,hbb⟩ : ∃ bb,bb=(Zn.a6a z (Zn.ysT z) (Zn.a0s z) t).isSome:=⟨_,rfl⟩
  have HBE:Hid (∀ Wq:World,Below w5.heap.size w5 Wq→Calls Tryz.prog 139 #[lv,.int .i64 (Zn.a0s z),.int .i64 z.hor,.int .i64 t] Wq fun e w'=>e=.returned (.tuple #[.agg #[.int .i64 x.tm,.int .i64 x.off],.bool bb])∧Below Wq.heap.size Wq w'):=Lib.hid fun Wq hq=>by
    rw [hx,hbb]
    exact before_calls (a1m.below hlv hq) HCK.out.sy HCK.out.ly HCK.out.c0 HCK.out.c1 ht0 ht1 HCK.out.by_ (fun i hi=>by have:=Zn.a3y HGD.out.gap hi;omega)
  have HSM:Hid (bb=true→Zn.a6a z (Zn.ysT z) (Zn.a0s z) t=some x):=Lib.hid fun h=>by
    rw [hbb] at h
    rw [hx]
    cases h9:Zn.a6a z (Zn.ysT z) (Zn.a0s z) t with
    | none=>rw [h9] at h;cases h
    | some y=>rfl
  have HNO:Hid (bb=false→Zn.a6a z (Zn.ysT z) (Zn.a0s z) t=none):=Lib.hid fun h=>by
    rw [hbb] at h
    cases h9:Zn.a6a z (Zn.ysT z) (Zn.a0s z) t with
    | none=>rfl
    | some y=>rw [h9] at h;cases h
  clear hx hbb HYE o0 o1 hB5 hlv
  refine aav 11 [9] [([],fun v _=>v=lv),
      ([],fun v _=>v=.agg #[.int .i64 z.cal.a08,mv,.int .i64 z.cal.a0l,rv,.int .i64 z.start,.slice ta z.trans.length tc,.int .i64 z.hor,yv]),
      ([1],fun v _=>v=.int .i64 (Zn.a0s z)),
      ([],fun v _=>v=.pointer (some ⟨W.heap.size,6,none⟩)),
      ([3],fun v _=>v=.int .i64 z.hor),
      ([],fun v _=>v=.int .i64 t),
      ([0,2,4,5],fun v _=>v=.tuple #[.agg #[.int .i64 x.tm,.int .i64 x.off],.bool bb]),
      ([6],fun v _=>v=.tuple #[.agg #[.int .i64 x.tm,.int .i64 x.off],.bool bb]),
      ([7],fun v _=>v=.agg #[.int .i64 x.tm,.int .i64 x.off]),
      ([7],fun v _=>v=.bool bb),
      ([],fun v W' => ∃ g,v=.pointer (some ⟨g,0,none⟩)∧obj W' g=some (.cells #[.int .i64 0,.int .i64 0] 57 (0,0))∧w5.heap.size≤g)] (by kernel_rfl) (by kernel_rfl) (by kernel_rfl) (by kernel_rfl) (by kernel_rfl) ⟨?l9,trivial⟩ ?st ?ob ?tl
  case l9 => intro v W h;exact ⟨_,by rw [h];rfl,rfl⟩
  case st => intro k v W1 W2 h hb;rcases k with _|_|_|_|_|_|_|_|_|_|_|k<;>first | exact h | trivial | (obtain ⟨g,h1,h2,h3⟩:=h;exact ⟨g,h1,a0a h2 hb,h3⟩)
  case ob =>
    refine ⟨?_,?_,?_,?_,?_,?_,?_,?_,?_,?_,?_,trivial⟩ <;>
    first
      | (intro vs Wq hW hk;(have q0:=a04 kz hW lz);(have q1:=a02 (a04 kz hW lz) 6);(try simp only [knows,Spec.at',↓List.getD_cons_succ,↓List.getD_cons_zero,and_true] at hk);simp only [Spec.at',↓List.getD_cons_succ,↓List.getD_cons_zero,a00,a03,yy0,yy1,yy2,yy3];(try simp only [hk]);first | ((repeat'(first|go_skip|go_guarded|go_step|go_upon));exact a01 _ rfl (by go_simp) (Below.refl _ _) rfl) | ((have HX:=Lib.hid (HCY.out Wq hW));(repeat' (first | (go_at_call 49;((with_reducible refine (HX.out).mono ?_));rintro e w9 ⟨rfl,hb9⟩;dsimp only)|go_skip|go_guarded|go_step|go_upon));exact a01 _ rfl (by go_simp) hb9 rfl) | ((have HX:=Lib.hid (HBE.out Wq hW));(repeat' (first | (go_at_call 139;((with_reducible refine (HX.out).mono ?_));rintro e w9 ⟨rfl,hb9⟩;dsimp only)|go_skip|go_guarded|go_step|go_upon));exact a01 _ rfl (by go_simp) hb9 rfl) | fail)
      | (
         intro vs Wq hW hk
         clear hk
         change wpList _ _ _ _ (a00 _ vs [] _) _
         simp only [a00]
         repeat'(first|go_skip|go_guarded|go_step|go_upon)
         exact a01 (.pointer (some ⟨Wq.heap.size,0,none⟩)) rfl (by go_simp) ((Below.refl _ _).alloc (Nat.le_refl _) _) ⟨_,rfl,a05 _ _ _ rfl,hW.size⟩)
  case tl =>
    intro vs W2 hW2 hk2
    have v8:vs 8=.agg #[.int .i64 x.tm,.int .i64 x.off]:=hk2 8 (by decide)
    have v9:vs 9=.bool bb:=hk2 9 (by decide)
    have h10:=hk2 10 (by decide)
    obtain ⟨g,v10,s9,s9b⟩:=h10
    clear hk2
    dsimp only [a1d,List.take,List.drop]
    simp only [Act.put,List.setIfInBounds_toArray,List.set_cons_succ,List.set_cons_zero]
    rw [v8,v9,v10]
    generalize vs 0=p0,vs 1=p1,vs 2=p2,vs 3=p3,vs 4=p4,vs 5=p5,vs 6=p6,vs 7=p7
    clear v8 v9 v10
    have hon5:ones #[.int .i64 x.tm,.int .i64 x.off]=true:=by simp [ones,a0n]
    have kg:obj (W2.setRow g #[.int .i64 x.tm,.int .i64 x.off]) g=some (.cells #[.int .i64 x.tm,.int .i64 x.off] 57 (0,0)):=setRow_heap _ _ _ _ _ _ s9
    have k1:=a2q (a04 k1 hW2 l1) (show W.heap.size+1≠g by omega) #[.int .i64 x.tm,.int .i64 x.off]
    have kz:=a2q (a04 kz hW2 lz) (show W.heap.size≠g by omega) #[.int .i64 x.tm,.int .i64 x.off]
    have hW3:Below w5.heap.size w5 (W2.setRow g #[.int .i64 x.tm,.int .i64 x.off]):=below_setRow hW2 s9b _
    have HK3:=Lib.hid (And.intro kg (And.intro kz (And.intro k1 hW3)))
    clear kg kz k1 hW3
    repeat'(first|go_skip|go_guarded|go_step|go_upon)
    refine ⟨.inl rfl,?_⟩
    repeat' ((go_not_at_region 3);(first|go_skip|go_guarded|go_step|go_upon))
    obtain ⟨kg,kz,k1,hW3⟩:=HK3.out
    clear HK3 s9
    generalize (W2.setRow g #[.int .i64 x.tm,.int .i64 x.off])=w10 at *
    have kB:=hB.trans (hW3.mono hB.size)
    have lz:=a09 kz
    have lg:=a09 kg
    cases bb with
    | true =>
      have HR:Hid (Zn.ab1 z t=some x):=Lib.hid (by unfold Zn.ab1 Zn.lastT;rw [HSM.out rfl])
      clear HSM HNO
      repeat'(first|go_skip|go_guarded|go_step|go_upon)
      refine bodyPost_ret (a0q rfl _ _ (W.heap.size+1) 57 _ (0,0) _ (.bool true) rfl (setRow_heap _ _ _ _ _ _ k1) Tryz.underlying57 rfl (by kernel_rfl) rfl) rfl ?_
      exact ⟨by rw [HR.out];rfl,below_setRow kB (by omega) _⟩
    | false =>
      have HR:Hid (Zn.ab1 z t=Zn.a4i z.trans t none):=Lib.hid (by unfold Zn.ab1 Zn.lastT;rw [HNO.out rfl])
      have wn1:IntKind.wrap .i64 ((z.trans.length:Int) - 1)=(z.trans.length:Int) - 1:=by rw [wrap_in]<;>omega
      clear HSM HNO kg lg
      have c5:=a02 kz 5
      repeat'(first|go_skip|go_guarded|go_step|go_upon)
      clear c5
      go_loopw [10] (fun i wr => ∃ k:Nat,∃ q:Int,k≤z.trans.length∧q=(k:Int) - 1∧i=.int .i64 q∧(∀ j,k≤j→j < z.trans.length→t < (z.trans.getD j default).tm)∧obj wr W.heap.size=some (.cells #[.int .i64 z.cal.a08,mv,.int .i64 z.cal.a0l,rv,.int .i64 z.start,.slice ta z.trans.length tc,.int .i64 z.hor,yv] 35 (0,0))∧obj wr (W.heap.size+1)=some (.cells #[.int .i64 0,.int .i64 0] 57 (0,0))∧Below W.heap.size W wr) (fun i _=>(intOf i+1).toNat)
      case atStart=>exact ⟨z.trans.length,_,Nat.le_refl _,rfl,rfl,fun j h1 h2=>absurd h1 (by omega),kz,k1,kB⟩
      case round =>
        clear kz k1 kB lz
        obtain ⟨k,q,hk,hq,rfl,hgt,kz,k1,kB⟩:=hrel
        have HGT:=Lib.hid hgt
        have lz:=a09 kz
        have c5:=a02 kz 5
        clear hgt
        rcases k with _ | m
        · obtain rfl:q = -1:=by omega
          have HF:Hid (Zn.ab1 z t=none):=Lib.hid (by rw [HR.out,Zn.aag z.trans t none 0 (Nat.zero_le _) (fun j h=>absurd h (Nat.not_lt_zero j)) (fun j _ h=>HGT.out j (Nat.zero_le _) h),if_pos rfl])
          clear hq
          repeat'(first|go_skip|go_guarded|go_step|go_upon)
          refine bodyPost_ret (a0q rfl _ _ (W.heap.size+1) 57 _ (0,0) _ (.bool false) rfl (setRow_heap _ _ _ _ _ _ k1) Tryz.underlying57 rfl (by kernel_rfl) rfl) rfl ?_
          exact ⟨by rw [HF.out];rfl,below_setRow kB (by omega) _⟩
        · obtain rfl:q=(m:Int):=by omega
          have hm:m < z.trans.length:=by omega
          have i0:(0:Int)≤(m:Int):=by omega
          have i1 : ¬ (m:Int) < 0:=by omega
          have i2:(m:Int) < (z.trans.length:Int):=by omega
          obtain ⟨tb,tof,tc',a5d,TT',tfr,htv,tq1,tq2⟩:=a2b.open (HTR.out wr kB) (by omega)
          obtain ⟨rfl,rfl⟩:ta=some ⟨tb,tof,none⟩∧tc=tc':=by injection htv with a b c;exact ⟨a,c⟩
          obtain ⟨z0,k3⟩:=tq2 m hm
          have z1:(tof+m * 2+2≤a5d.size)=True:=eq_true z0
          have ek0:=a0y 0 k3 (by simp)
          have HST:=Lib.hid (fun j (h:j < m)=>HCK.out.st j m h hm)
          have HLE:=Lib.hid (fun h1 h2=>Zn.aag z.trans t none (m+1) hm h1 h2)
          have hwm:IntKind.wrap .i64 ((m:Int) - 1)=(m:Int) - 1:=by rw [wrap_in]<;>omega
          clear hq htv tq2 z0
          obtain ⟨y,hy⟩ : ∃ y,z.trans.getD m default=y:=⟨_,rfl⟩
          have HYY:=Lib.hid hy
          rw [hy] at k3 ek0
          have k3:a5d.extract (tof+m * 2) (tof+m * 2+2)=#[.int .i64 y.tm,.int .i64 y.off]:=k3
          have e0:=(a02 tq1 (tof+m * 2)).trans (show a5d[tof+m * 2]? = some (.int .i64 y.tm) from ek0)
          have hon:ones #[.int .i64 y.tm,.int .i64 y.off]=true:=by simp [ones,a0n]
          clear hy ek0
          by_cases ht:y.tm≤t
          · have HF:Hid (Zn.ab1 z t=some y):=Lib.hid (by
              rw [HR.out,HLE.out (fun j h=>by
                rcases Nat.lt_or_ge j m with h9 | h9
                · have:=HST.out j h9;rw [HYY.out] at this;omega
                · obtain rfl:j=m:=by omega
                  rw [HYY.out];exact ht) HGT.out,if_neg (by omega),Nat.add_sub_cancel,HYY.out])
            repeat'(first|go_skip|go_guarded|go_step|go_upon)
            refine bodyPost_ret (a0q rfl _ _ (W.heap.size+1) 57 _ (0,0) _ (.bool true) rfl (setRow_heap _ _ _ _ _ _ k1) Tryz.underlying57 rfl (by kernel_rfl) rfl) rfl ?_
            exact ⟨by rw [HF.out];rfl,below_setRow kB (by omega) _⟩
          · have HNX:Hid (∀ j,m≤j→j < z.trans.length→t < (z.trans.getD j default).tm):=Lib.hid fun j h1 h2=>by
              rcases Nat.lt_or_ge m j with h | h
              · exact HGT.out j h h2
              · obtain rfl:m=j:=by omega
                rw [HYY.out];omega
            repeat'(first|go_skip|go_guarded|go_step|go_upon)
            exact ⟨⟨m,(m:Int) - 1,by omega,rfl,rfl,HNX.out,kz,k1,kB⟩,by simp [intOf]<;>omega⟩
theorem roff_calls {W:World} {z:Zn.a0w} {mv rv tv yv:Value} (hv:a1q W z mv rv tv yv) (hg:Zn.Good z) {t:Int} (ht0 : -9007199254740992≤t) (ht1:t≤9007199254740992) :
  Calls Tryz.prog 58 #[.agg #[.int .i64 z.cal.a08,mv,.int .i64 z.cal.a0l,rv,.int .i64 z.start,tv,.int .i64 z.hor,yv],.int .i64 t] W fun e w'=>e=.returned (.int .i64 (Zn.a2u z t))∧Below W.heap.size W w':=by
 have hon:ones #[.int .i64 z.cal.a08,mv,.int .i64 z.cal.a0l,rv,.int .i64 z.start,tv,.int .i64 z.hor,yv]=true:=a1b hv.cal.mon.one hv.cal.rul.one (a1m.one hv.tr) (a1m.one hv.yr)
 have o0:obj (W.alloc (.cells #[.int .i64 z.cal.a08,mv,.int .i64 z.cal.a0l,rv,.int .i64 z.start,tv,.int .i64 z.hor,yv] 35)) W.heap.size=some (.cells #[.int .i64 z.cal.a08,mv,.int .i64 z.cal.a0l,rv,.int .i64 z.start,tv,.int .i64 z.hor,yv] 35 (0,0)):=a05 _ _ _ rfl
 have w1B:Below W.heap.size W (W.alloc (.cells #[.int .i64 z.cal.a08,mv,.int .i64 z.cal.a0l,rv,.int .i64 z.start,tv,.int .i64 z.hor,yv] 35)):=(Below.refl _ _).alloc (Nat.le_refl _) _
 have HX:=Lib.hid (rlast_calls (hv.below w1B) hg ht0 ht1)
 clear hv hg
 go_enter Tryz.func58,Tryz.ntmps58
 cases hl:Zn.ab1 z t with
 | none =>
  have HR:=Lib.hid (show Zn.a2u z t=z.start by unfold Zn.a2u Zn.a5a;rw [show Zn.lastT z (Zn.ysT z) (Zn.a0s z) t=none from hl])
  rw [hl] at HX
  have HX:Hid (Calls Tryz.prog 97 #[.agg #[.int .i64 z.cal.a08,mv,.int .i64 z.cal.a0l,rv,.int .i64 z.start,tv,.int .i64 z.hor,yv],.int .i64 t] (W.alloc (.cells #[.int .i64 z.cal.a08,mv,.int .i64 z.cal.a0l,rv,.int .i64 z.start,tv,.int .i64 z.hor,yv] 35)) fun e w'=>e=.returned (.tuple #[.agg #[.int .i64 0,.int .i64 0],.bool false])∧Below (W.alloc (.cells #[.int .i64 z.cal.a08,mv,.int .i64 z.cal.a0l,rv,.int .i64 z.start,tv,.int .i64 z.hor,yv] 35)).heap.size (W.alloc (.cells #[.int .i64 z.cal.a08,mv,.int .i64 z.cal.a0l,rv,.int .i64 z.start,tv,.int .i64 z.hor,yv] 35)) w'):=HX
  have ar2:ones #[.int .i64 0,.int .i64 0]=true:=by simp [ones,a0n]
  clear hl
  repeat' ((go_not_at_region 2);(first | (go_at_call 97;((with_reducible refine (HX.out).mono ?_));rintro e w5 ⟨rfl,hB5⟩;have hB6:=w1B.trans (hB5.mono w1B.size);have kz:=a0a o0 hB5;dsimp only)|go_skip|go_guarded|go_step|go_upon))
  have A5:=(Below.refl w5.heap.size w5).alloc (Nat.le_refl _) (.cells #[.int .i64 0,.int .i64 0] 57)
  have dB:=hB6.trans (A5.mono hB6.size)
  have kz6:=a0a kz A5
  generalize (w5.alloc (.cells #[.int .i64 0,.int .i64 0] 57))=w6 at *
  have c4:=a02 kz6 4
  repeat'(first|go_skip|go_guarded|go_step|go_upon)
  go_ret
  exact ⟨by rw [HR.out];rfl,dB⟩
 | some x =>
  have HR:=Lib.hid (show Zn.a2u z t=x.off by unfold Zn.a2u Zn.a5a;rw [show Zn.lastT z (Zn.ysT z) (Zn.a0s z) t=some x from hl])
  rw [hl] at HX
  have HX:Hid (Calls Tryz.prog 97 #[.agg #[.int .i64 z.cal.a08,mv,.int .i64 z.cal.a0l,rv,.int .i64 z.start,tv,.int .i64 z.hor,yv],.int .i64 t] (W.alloc (.cells #[.int .i64 z.cal.a08,mv,.int .i64 z.cal.a0l,rv,.int .i64 z.start,tv,.int .i64 z.hor,yv] 35)) fun e w'=>e=.returned (.tuple #[.agg #[.int .i64 x.tm,.int .i64 x.off],.bool true])∧Below (W.alloc (.cells #[.int .i64 z.cal.a08,mv,.int .i64 z.cal.a0l,rv,.int .i64 z.start,tv,.int .i64 z.hor,yv] 35)).heap.size (W.alloc (.cells #[.int .i64 z.cal.a08,mv,.int .i64 z.cal.a0l,rv,.int .i64 z.start,tv,.int .i64 z.hor,yv] 35)) w'):=HX
  have honx:ones #[.int .i64 x.tm,.int .i64 x.off]=true:=by simp [ones,a0n]
  clear hl
  repeat' (first | (go_at_call 97;((with_reducible refine (HX.out).mono ?_));rintro e w5 ⟨rfl,hB5⟩;have hB6:=w1B.trans (hB5.mono w1B.size);dsimp only)|go_skip|go_guarded|go_step|go_upon)
  go_ret
  exact ⟨by rw [HR.out];rfl,hB6.alloc (by have:=hB6.size;omega) _⟩
theorem rOffset_calls {W:World} {z:Zn.a0w} {mv rv tv yv:Value} (hv:a1q W z mv rv tv yv) (hzr:z.cal.rules.length < 9223372036854775808) (hzm:z.cal.a0g.length < 9223372036854775808) (t:Int) :
  Calls Tryz.prog 19 #[.agg #[.int .i64 z.cal.a08,mv,.int .i64 z.cal.a0l,rv,.int .i64 z.start,tv,.int .i64 z.hor,yv],.int .i64 t] W fun e w'=>e=.returned (.tuple #[.int .i64 (Zn.ac8 z t).1,.int .i64 (Zn.ac8 z t).2])∧Below W.heap.size W w':=by
 have hon:ones #[.int .i64 z.cal.a08,mv,.int .i64 z.cal.a0l,rv,.int .i64 z.start,tv,.int .i64 z.hor,yv]=true:=a1b hv.cal.mon.one hv.cal.rul.one (a1m.one hv.tr) (a1m.one hv.yr)
 have o0:obj (W.alloc (.cells #[.int .i64 z.cal.a08,mv,.int .i64 z.cal.a0l,rv,.int .i64 z.start,tv,.int .i64 z.hor,yv] 35)) W.heap.size=some (.cells #[.int .i64 z.cal.a08,mv,.int .i64 z.cal.a0l,rv,.int .i64 z.start,tv,.int .i64 z.hor,yv] 35 (0,0)):=a05 _ _ _ rfl
 have w1B:Below W.heap.size W (W.alloc (.cells #[.int .i64 z.cal.a08,mv,.int .i64 z.cal.a0l,rv,.int .i64 z.start,tv,.int .i64 z.hor,yv] 35)):=(Below.refl _ _).alloc (Nat.le_refl _) _
 have HX:=Lib.hid (ae9 (hv.below w1B) hzr hzm)
 have HV:=Lib.hid (fun (Wq:World) (hq:Below W.heap.size W Wq)=>hv.below hq)
 have HWI:=Lib.hid (fun Wq:World=>a2e (W:=Wq) (n:=t) (l:=2251799813685248) (by omega) (by omega))
 clear hv
 go_enter Tryz.func19,Tryz.ntmps19
 cases hgb:Zn.a3o z with
 | false =>
  have HR:Hid (Zn.ac8 z t=(0,1)):=Lib.hid (by unfold Zn.ac8;rw [if_neg (fun h=>by rw [hgb] at h;cases h.1)])
  obtain ⟨ve,hve⟩ : ∃ ve,ve=Zn.a2l z:=⟨_,rfl⟩
  have hne:(ve != 0)=true:=by rw [hve];unfold Zn.a2l;split;rfl;rw [if_neg (by rw [hgb];decide)];rfl
  rw [← hve] at HX
  clear hve hgb
  repeat' (first | (go_at_call 29;((with_reducible refine (HX.out).mono ?_));rintro e w5 ⟨rfl,hB5⟩;have hB6:=w1B.trans (hB5.mono w1B.size);have o5:=a0a o0 hB5;dsimp only)|go_skip|go_guarded|go_step|go_upon)
  go_returns
  exact ⟨by rw [HR.out];rfl,hB6⟩
 | true =>
  have hgd:=Zn.a0v.1 hgb
  have HVE:Zn.a2l z=0:=by unfold Zn.a2l;rw [if_neg (by have:=hgd.a.hd.t;omega),if_pos hgb]
  rw [HVE] at HX
  clear HVE
  by_cases hw : -2251799813685248≤t∧t≤2251799813685248
  ·have HR:Hid (Zn.ac8 z t=(Zn.a2u z t,0)):=Lib.hid (by unfold Zn.ac8;rw [if_pos ⟨hgb,hw⟩])
   rw [decide_eq_true hw] at HWI
   have HOF:=Lib.hid (fun (Wq:World) (hq:Below W.heap.size W Wq)=>roff_calls (HV.out Wq hq) hgd (t:=t) (by omega) (by omega))
   clear hgb
   repeat' (first | (go_at_call 29;((with_reducible refine (HX.out).mono ?_));rintro e w5 ⟨rfl,hB5⟩;have hB6:=w1B.trans (hB5.mono w1B.size);have o5:=a0a o0 hB5;dsimp only) | (go_at_call 57;((with_reducible refine (HWI.out _).mono ?_));rintro e w6 ⟨rfl,rfl⟩;dsimp only) | (go_at_call 58;((with_reducible refine (HOF.out _ hB6).mono ?_));rintro e w7 ⟨rfl,hB7⟩;have hB8:=hB6.trans (hB7.mono hB6.size);dsimp only)|go_skip|go_guarded|go_step|go_upon)
   go_returns
   exact ⟨by rw [HR.out];rfl,hB8⟩
  ·have HR:Hid (Zn.ac8 z t=(0,1)):=Lib.hid (by unfold Zn.ac8;rw [if_neg (fun h=>hw h.2)])
   rw [decide_eq_false hw] at HWI
   clear hgb hw
   repeat' (first | (go_at_call 29;((with_reducible refine (HX.out).mono ?_));rintro e w5 ⟨rfl,hB5⟩;have hB6:=w1B.trans (hB5.mono w1B.size);have o5:=a0a o0 hB5;dsimp only) | (go_at_call 57;((with_reducible refine (HWI.out _).mono ?_));rintro e w6 ⟨rfl,rfl⟩;dsimp only)|go_skip|go_guarded|go_step|go_upon)
   go_returns
   exact ⟨by rw [HR.out];rfl,hB6⟩
theorem rLocal_calls {W:World} {z:Zn.a0w} {mv rv tv yv:Value} (hv:a1q W z mv rv tv yv) (hzr:z.cal.rules.length < 9223372036854775808) (hzm:z.cal.a0g.length < 9223372036854775808) (t:Int) :
  Calls Tryz.prog 21 #[.agg #[.int .i64 z.cal.a08,mv,.int .i64 z.cal.a0l,rv,.int .i64 z.start,tv,.int .i64 z.hor,yv],.int .i64 t] W fun e w'=>e=.returned (.tuple #[.int .i64 (Zn.aip z t).1,.int .i64 (Zn.aip z t).2])∧Below W.heap.size W w':=by
 have hon:ones #[.int .i64 z.cal.a08,mv,.int .i64 z.cal.a0l,rv,.int .i64 z.start,tv,.int .i64 z.hor,yv]=true:=a1b hv.cal.mon.one hv.cal.rul.one (a1m.one hv.tr) (a1m.one hv.yr)
 have o0:obj (W.alloc (.cells #[.int .i64 z.cal.a08,mv,.int .i64 z.cal.a0l,rv,.int .i64 z.start,tv,.int .i64 z.hor,yv] 35)) W.heap.size=some (.cells #[.int .i64 z.cal.a08,mv,.int .i64 z.cal.a0l,rv,.int .i64 z.start,tv,.int .i64 z.hor,yv] 35 (0,0)):=a05 _ _ _ rfl
 have w1B:Below W.heap.size W (W.alloc (.cells #[.int .i64 z.cal.a08,mv,.int .i64 z.cal.a0l,rv,.int .i64 z.start,tv,.int .i64 z.hor,yv] 35)):=(Below.refl _ _).alloc (Nat.le_refl _) _
 have HX:=Lib.hid (rOffset_calls (hv.below w1B) hzr hzm t)
 clear hv
 go_enter Tryz.func21,Tryz.ntmps21
 by_cases h:Zn.a3o z=true∧-2251799813685248≤t∧t≤2251799813685248
 ·have HR:Hid (Zn.aip z t=(t+Zn.a2u z t,0)):=Lib.hid (by unfold Zn.aip;rw [if_pos h])
  have HQ:Zn.ac8 z t=(Zn.a2u z t,0):=by unfold Zn.ac8;rw [if_pos h]
  rw [HQ] at HX
  have hoo : -1080≤Zn.a2u z t∧Zn.a2u z t≤1080:=Zn.abn (Zn.a0v.1 h.1).ck t
  clear HQ
  obtain ⟨_,h1,h2⟩:=h
  generalize Zn.a2u z t=o at *
  have wto:IntKind.wrap .i64 (t+o)=t+o:=by rw [wrap_in]<;>omega
  repeat' (first | (go_at_call 19;((with_reducible refine (HX.out).mono ?_));rintro e w5 ⟨rfl,hB5⟩;have hB6:=w1B.trans (hB5.mono w1B.size);dsimp only)|go_skip|go_guarded|go_step|go_upon)
  go_returns
  exact ⟨by rw [HR.out];rfl,hB6⟩
 ·have HR:Hid (Zn.aip z t=(0,1)):=Lib.hid (by unfold Zn.aip;rw [if_neg h])
  have HQ:Zn.ac8 z t=(0,1):=by unfold Zn.ac8;rw [if_neg h]
  rw [HQ] at HX
  clear HQ h
  repeat' (first | (go_at_call 19;((with_reducible refine (HX.out).mono ?_));rintro e w5 ⟨rfl,hB5⟩;have hB6:=w1B.trans (hB5.mono w1B.size);dsimp only)|go_skip|go_guarded|go_step|go_upon)
  go_returns
  exact ⟨by rw [HR.out];rfl,hB6⟩
end Go.Proofs.YtppjleebbjipbaaGreat
