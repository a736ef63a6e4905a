/-
  kalendsref13.before.
-/
import Derived.Test.YtppjleebbjipbaaGreatPkZpb
import Derived.Test.YtppjleebbjipbaaGreatPkZoj
import Derived.Test.YtppjleebbjipbaaGreatPkZod
import Derived.Test.YtppjleebbjipbaaGreatPkZos
import Derived.Test.YtppjleebbjipbaaGreatPkZpg
set_option linter.unusedSectionVars false
set_option linter.constructorNameAsVariable false
set_option linter.unusedVariables false
set_option linter.unusedSimpArgs false
namespace Zn
def befN (ys:List Tr) (cyc hor t r:Int):Nat→Option Tr
 | 0=>none
 | p+1=>if (yAt ys cyc r p).tm≤t∧hor≤(yAt ys cyc r p).tm then some (yAt ys cyc r p) else befN ys cyc hor t r p
theorem befN_skip {ys:List Tr} {cyc hor t r:Int} {a:Nat}:∀ d:Nat,(∀ j,a≤j→j < a+d→¬ ((yAt ys cyc r j).tm≤t∧hor≤(yAt ys cyc r j).tm))→befN ys cyc hor t r (a+d)=befN ys cyc hor t r a
 | 0,_=>rfl
 | d+1,h=>by
  show (if (yAt ys cyc r (a+d)).tm≤t∧hor≤(yAt ys cyc r (a+d)).tm then some (yAt ys cyc r (a+d)) else befN ys cyc hor t r (a+d))=_
  rw [if_neg (h (a+d) (by omega) (by omega))]
  exact befN_skip d fun j h1 h2=>h j h1 (by omega)
theorem befN_none {ys:List Tr} {cyc hor t r:Int} {a:Nat} (h:∀ j,j < a→¬ ((yAt ys cyc r j).tm≤t∧hor≤(yAt ys cyc r j).tm)):befN ys cyc hor t r a=none:=by
 have h9:=befN_skip (ys:=ys) (cyc:=cyc) (hor:=hor) (t:=t) (r:=r) (a:=0) a (fun j _ hj=>h j (by omega))
 rw [Nat.zero_add] at h9
 exact h9
theorem first_no (P:Nat→Prop) [DecidablePred P]:∀ n,∃ k,k≤n∧(∀ j,j < k→P j)∧(k < n→¬ P k)
 | 0=>⟨0,by omega,fun j h=>absurd h (Nat.not_lt_zero j),fun h=>absurd h (Nat.lt_irrefl 0)⟩
 | n+1=>by
  obtain ⟨k,h1,h2,h3⟩:=first_no P n
  by_cases hk:k < n
  ·exact ⟨k,by omega,h2,fun _=>h3 hk⟩
  ·obtain rfl:k=n:=by omega
   by_cases hp:P k
   ·refine ⟨k+1,by omega,fun j hj=>?_,fun h=>absurd h (by omega)⟩
    rcases Nat.lt_or_ge j k with h | h
    ·exact h2 j h
    ·obtain rfl:j=k:=by omega
     exact hp
   ·exact ⟨k,by omega,h2,fun _=>hp⟩
theorem lastY_bef {z:a0w} {ys:List Tr} {cyc t:Int} (hs:a8u ys) (hc:0 < cyc) (h0:ys.length≠0) (hy:(ys.getD 0 default).tm≤t)
  (hw:∀ i,i < ys.length→(ys.getD i default).tm < (ys.getD 0 default).tm+cyc * 1440) {k0:Int} {d:Nat} (hk:k0+(d:Int)=turns (ys.getD 0 default).tm t cyc) (hd:d≤1) :
  a6a z ys cyc t=befN ys cyc z.hor t k0 (d * ys.length+ys.length):=by
 have hm:=a4r (y0:=(ys.getD 0 default).tm) (t:=t) hc
 rw [if_neg (by omega)] at hm
 unfold a6a
 rw [if_pos ⟨h0,hy⟩,← hk]
 rw [← hk] at hm
 have hmono:∀ a b,a≤b→b < ys.length→(ys.getD a default).tm≤(ys.getD b default).tm:=fun a b h1 h2=>by
  rcases Nat.lt_or_ge a b with h | h
  ·have:=hs a b h h2;omega
  ·obtain rfl:a=b:=by omega
   exact Int.le_refl _
 obtain ⟨k,k1,k2,k3'⟩:=first_no (fun j=>(ys.getD j default).tm≤t - (k0+d) * (cyc * 1440)) ys.length
 have k3:∀ j,k≤j→j < ys.length→t - (k0+d) * (cyc * 1440) < (ys.getD j default).tm:=fun j h1 h2=>by
  have a1:=k3' (by omega)
  have a2:=hmono k j h1 h2
  omega
 have hk0:k≠0:=fun e=>by have:=k3 0 (by omega) (by omega);omega
 obtain ⟨i,rfl⟩ : ∃ i,k=i+1:=⟨k - 1,by omega⟩
 rw [aag ys _ none (i+1) k1 k2 k3,if_neg (by omega),Nat.add_sub_cancel]
 try dsimp only
 have hx:=Go.Proofs.YtppjleebbjipbaaGreat.ahz (ys:=ys) (cyc:=cyc) (r:=k0) (q:=d) (k:=i) (by omega)
 have hi:=k2 i (by omega)
 have e1:befN ys cyc z.hor t k0 (d * ys.length+ys.length)=befN ys cyc z.hor t k0 (d * ys.length+i+1):=by
  have h9:=befN_skip (ys:=ys) (cyc:=cyc) (hor:=z.hor) (t:=t) (r:=k0) (a:=d * ys.length+i+1) (ys.length - i - 1) (fun j h1 h2=>by
   have e:=Go.Proofs.YtppjleebbjipbaaGreat.ahz (ys:=ys) (cyc:=cyc) (r:=k0) (q:=d) (k:=j - d * ys.length) (by omega)
   rw [show d * ys.length+(j - d * ys.length)=j by omega] at e
   rw [e]
   have:=k3 (j - d * ys.length) (by omega) (by omega)
   dsimp only
   omega)
  rw [show d * ys.length+i+1+(ys.length - i - 1)=d * ys.length+ys.length by omega] at h9
  exact h9
 rw [e1]
 show _=(if (yAt ys cyc k0 (d * ys.length+i)).tm≤t∧z.hor≤(yAt ys cyc k0 (d * ys.length+i)).tm then some (yAt ys cyc k0 (d * ys.length+i)) else befN ys cyc z.hor t k0 (d * ys.length+i))
 rw [hx]
 try dsimp only
 by_cases hh:z.hor≤(ys.getD i default).tm+(k0+d) * (cyc * 1440)
 ·rw [if_pos hh,if_pos ⟨by omega,hh⟩]
 ·rw [if_neg hh,if_neg (fun h=>hh h.2),befN_none]
  intro j hj
  rcases Nat.lt_or_ge j (d * ys.length) with h | h
  ·obtain rfl:d=1:=by
    rcases Nat.eq_zero_or_pos d with h2 | h2
    ·rw [h2,Nat.zero_mul] at h;omega
    ·omega
   have e:=Go.Proofs.YtppjleebbjipbaaGreat.ahz (ys:=ys) (cyc:=cyc) (r:=k0) (q:=0) (k:=j) (by omega)
   rw [Nat.zero_mul,Nat.zero_add] at e
   rw [e]
   dsimp only
   have a1:=hw j (by omega)
   have a2:=hmono 0 i (by omega) (by omega)
   have a3:(k0+((1:Nat):Int)) * (cyc * 1440)=(k0+((0:Nat):Int)) * (cyc * 1440)+cyc * 1440:=by
    rw [Int.add_mul,Int.add_mul]
    simp
   omega
  ·have e:=Go.Proofs.YtppjleebbjipbaaGreat.ahz (ys:=ys) (cyc:=cyc) (r:=k0) (q:=d) (k:=j - d * ys.length) (by omega)
   rw [show d * ys.length+(j - d * ys.length)=j by omega] at e
   rw [e]
   dsimp only
   have a1:=hs (j - d * ys.length) i (by omega) (by omega)
   omega
end Zn
namespace Go.Proofs.YtppjleebbjipbaaGreat
open Go.RowKit
set_option maxRecDepth 20000
set_option maxHeartbeats 8000000
theorem before_calls {W:World} {v:Value} {z:Zn.a0w} {l:List Zn.Tr} (hv:a2b W v l) (hs:Zn.a8u l) (hl:l.length≤10000000) {cyc t:Int} (c0:0 < cyc) (c1:cyc≤10000000) (ht0 : -9007199254740992≤t) (ht1:t≤9007199254740992)
  (hb:∀ i,i < l.length→-2199023255552≤(l.getD i default).tm∧(l.getD i default).tm≤2199023255552) (hw:∀ i,i < l.length→(l.getD i default).tm < (l.getD 0 default).tm+cyc * 1440) :
  Calls Tryz.prog 139 #[v,.int .i64 cyc,.int .i64 z.hor,.int .i64 t] W fun e w'=>e=.returned (aha (Zn.a6a z l cyc t))∧Below W.heap.size W w':=by
 have w1B:Below W.heap.size W (W.alloc (.cells #[.int .i64 0,.int .i64 0] 57)):=(Below.refl _ _).alloc (Nat.le_refl _) _
 have z1b:obj (W.alloc (.cells #[.int .i64 0,.int .i64 0] 57)) W.heap.size=some (.cells #[.int .i64 0,.int .i64 0] 57 (0,0)):=a05 _ _ _ rfl
 have HBD:=Lib.hid hb
 obtain ⟨ta,tc,rfl⟩:=a2b.ajx hv
 go_enter Tryz.func139,Tryz.ntmps139
 by_cases hl0:l.length=0
 ·have t0:((l.length:Int) == 0)=true:=by simp [hl0]
  have HR:Hid (Zn.a6a z l cyc t=none):=Lib.hid (by unfold Zn.a6a;rw [if_neg (fun h=>h.1 hl0)])
  clear hl0 hw
  repeat'(first|go_skip|go_guarded|go_step|go_upon)
  refine bodyPost_ret (a0q rfl _ _ W.heap.size 57 _ (0,0) _ (.bool false) rfl z1b Tryz.underlying57 rfl (by kernel_rfl) rfl) rfl ?_
  exact ⟨by rw [HR.out];rfl,w1B⟩
 ·have t0:((
        l.length:Int) == 0)=false:=by simpa using hl0
  have t1:(0:Int) < (l.length:Int):=by omega
  obtain ⟨tb,tof,tc',a5d,TT',tfr,htv,tq1,tq2⟩:=a2b.open hv (by omega)
  obtain ⟨rfl,rfl⟩:ta=some ⟨tb,tof,none⟩∧tc=tc':=by injection htv with a b c;exact ⟨a,c⟩
  have e0r:a5d[tof]? = some (.int .i64 (l.getD 0 default).tm):=by have:=a0y 0 (tq2 0 (by omega)).2 (by simp);simpa using this
  have e00:=(a02 (a0a tq1 w1B) tof).trans e0r
  have hb0:=hb 0 (by omega)
  have wcm:IntKind.wrap .i64 (cyc * 1440)=cyc * 1440:=by rw [wrap_in]<;>omega
  have HW:=Lib.hid hw
  have HY0:=Lib.hid (rfl:(l.getD 0 default).tm=(l.getD 0 default).tm)
  have hr0:=Zn.a2d (y0:=(l.getD 0 default).tm) (t:=t) c0
  have hrM:=Zn.a4r (y0:=(l.getD 0 default).tm) (t:=t) c0
  have HLY:Hid (∀ k0:Int,∀ d:Nat,(l.getD 0 default).tm≤t→k0+(d:Int)=Zn.turns (l.getD 0 default).tm t cyc→d≤1→Zn.a6a z l cyc t=Zn.befN l cyc z.hor t k0 (d * l.length+l.length)):=Lib.hid fun k0 d h1 h2 h3=>Zn.lastY_bef hs c0 hl0 h1 HW.out h2 h3
  have HLN:Hid (t < (l.getD 0 default).tm→Zn.a6a z l cyc t=none):=Lib.hid fun h=>by unfold Zn.a6a;rw [if_neg (fun h2=>by have:=h2.2;omega)]
  have hrd:Zn.turns (l.getD 0 default).tm t cyc=(if t - (l.getD 0 default).tm < 0 then 0 else t - (l.getD 0 default).tm) / (cyc * 1440):=rfl
  clear htv hb hw
  generalize (l.getD 0 default).tm=y0 at *
  clear HY0
  by_cases hty:t < y0
  ·clear hrd hrM hr0
   repeat'(first|go_skip|go_guarded|go_step|go_upon)
   refine bodyPost_ret (a0q rfl _ _ W.heap.size 57 _ (0,0) _ (.bool false) rfl z1b Tryz.underlying57 rfl (by kernel_rfl) rfl) rfl ?_
   exact ⟨by rw [HLN.out hty];rfl,w1B⟩
  ·have hty2:y0≤t:=by omega
   have wty:IntKind.wrap .i64 (t - y0)=t - y0:=by rw [wrap_in]<;>omega
   rw [if_neg (by omega)] at hrd hrM
   generalize hrr:Zn.turns y0 t cyc=r at *
   have hrM0:0≤r * (cyc * 1440):=Int.mul_nonneg hr0 (by omega)
   have hrle:r≤18014398509481984:=by
    have:r * 1≤r * (cyc * 1440):=Int.mul_le_mul_of_nonneg_left (by omega) hr0
    omega
   have rz:cyc * 1440≠0:=by omega
   have rtd:Int.tdiv (t - y0) (cyc * 1440)=r:=by rw [Int.tdiv_eq_ediv_of_nonneg (by omega)];exact hrd.symm
   have wrr:IntKind.wrap .i64 r=r:=by rw [wrap_in]<;>omega
   have wr1:IntKind.wrap .i64 (r - 1)=r - 1:=by rw [wrap_in]<;>omega
   clear hrd hrr
   obtain ⟨k0,d,hmx,hkd,hd1,hk00⟩ : ∃ k0:Int,∃ d:Nat,(if r - 1 < 0 then (0:Int) else r - 1)=k0∧k0+(d:Int)=r∧d≤1∧0≤k0:=by
    by_cases h:r - 1 < 0
    ·exact ⟨0,0,if_pos h,by omega,by omega,by omega⟩
    ·exact ⟨r - 1,1,if_neg h,by omega,by omega,by omega⟩
   have HR:=Lib.hid (HLY.out k0 d hty2 hkd hd1)
   have HKD:=Lib.hid hkd
   clear hty2 HLY HLN hkd
   have w2B:Below W.heap.size W ((W.alloc (.cells #[.int .i64 0,.int .i64 0] 57)).alloc (.cells #[.int .i64 0,.int .i64 0] 57)):=w1B.alloc (by simp) _
   have z2b:obj ((W.alloc (.cells #[.int .i64 0,.int .i64 0] 57)).alloc (.cells #[.int .i64 0,.int .i64 0] 57)) W.heap.size=some (.cells #[.int .i64 0,.int .i64 0] 57 (0,0)):=a06 z1b _
   have z2c:obj ((W.alloc (.cells #[.int .i64 0,.int .i64 0] 57)).alloc (.cells #[.int .i64 0,.int .i64 0] 57)) (W.heap.size+1)=some (.cells #[.int .i64 0,.int .i64 0] 57 (0,0)):=a05 _ _ _ (by simp)
   have e02:=(a02 (a0a tq1 w2B) tof).trans e0r
   have HBF0:Hid (Zn.befN l cyc z.hor t k0 0=none):=Lib.hid rfl
   have HTQ:=Lib.hid tq2
   have HBF:Hid (∀ (q k:Nat) (x:Zn.Tr),k < l.length→l.getD k default=x→Zn.befN l cyc z.hor t k0 (q * l.length+(k+1))=if x.tm+(k0+(q:Int)) * (cyc * 1440)≤t∧z.hor≤x.tm+(k0+(q:Int)) * (cyc * 1440) then some ⟨x.tm+(k0+(q:Int)) * (cyc * 1440),x.off⟩ else Zn.befN l cyc z.hor t k0 (q * l.length+k)):=Lib.hid fun q k x hk hx=>by
    show (if (Zn.yAt l cyc k0 (q * l.length+k)).tm≤t∧z.hor≤(Zn.yAt l cyc k0 (q * l.length+k)).tm then some (Zn.yAt l cyc k0 (q * l.length+k)) else Zn.befN l cyc z.hor t k0 (q * l.length+k))=_
    rw [ahz hk,hx]
   clear tq2
   repeat'(first|go_skip|go_guarded|go_step|go_upon)
   go_loopw [12,13] (fun ff kk wr => ∃ q:Nat,q≤d+1∧kk=.int .i64 (k0+(q:Int))∧ff=.bool (Zn.befN l cyc z.hor t k0 (q * l.length)).isSome∧obj wr W.heap.size=some (.cells #[.int .i64 0,.int .i64 0] 57 (0,0))∧obj wr (W.heap.size+1)=some (.cells #[.int .i64 (Option.getD (Zn.befN l cyc z.hor t k0 (q * l.length)) default).tm,.int .i64 (Option.getD (Zn.befN l cyc z.hor t k0 (q * l.length)) default).off] 57 (0,0))∧Below W.heap.size W wr) (fun _ kk _=>(r+1 - intOf kk).toNat)
   case atStart=>exact ⟨0,by omega,by first | (simp;done) | (rw [hmx];simp;done) | (congr 1;rw [Int.max_def];split at hmx<;>split<;>omega),by rw [Nat.zero_mul];rfl,z2b,by rw [Nat.zero_mul];exact z2c,w2B⟩
   case round =>
    obtain ⟨q,hq,rfl,rfl,hz,ho,hB⟩:=hrel
    have tw:=a04 tq1 hB (a09 tq1)
    have e01:=(a02 tw tof).trans e0r
    by_cases hqd:q≤d
    ·have i1:k0+(q:Int)≤r:=by have:=HKD.out;omega
     have hqM:0≤(q:Int) * (cyc * 1440)∧(q:Int) * (cyc * 1440)≤1 * (10000000 * 1440):=⟨Int.mul_nonneg (by omega) (by omega),Int.mul_le_mul (by omega) (by omega) (by omega) (by omega)⟩
     have hbe:(k0+(q:Int)) * (cyc * 1440)≤r * (cyc * 1440):=Int.mul_le_mul_of_nonneg_right i1 (by omega)
     have hbe0:0≤(k0+(q:Int)) * (cyc * 1440):=Int.mul_nonneg (by omega) (by omega)
     have wkq:IntKind.wrap .i64 (k0+(q:Int)+1)=k0+((q+1:Nat):Int):=by rw [wrap_in]<;>omega
     have HBQ:=Lib.hid (HBF.out q)
     obtain ⟨b,hbb⟩ : ∃ b,(k0+(q:Int)) * (cyc * 1440)=b:=⟨_,rfl⟩
     have wb:IntKind.wrap .i64 ((k0+(q:Int)) * (cyc * 1440))=b:=by rw [hbb,wrap_in]<;>omega
     have hb9:0≤b∧b≤40000000000000000:=by omega
     have HBB:=Lib.hid hbb
     clear hbe hbe0 hqM hbb
     repeat'(first|go_skip|go_guarded|go_step|go_upon)
     clear e01 tw
     go_loopw [12,14] (fun ff i wr => ∃ k:Nat,k≤l.length∧i=.int .i64 k∧ff=.bool (Zn.befN l cyc z.hor t k0 (q * l.length+k)).isSome∧obj wr W.heap.size=some (.cells #[.int .i64 0,.int .i64 0] 57 (0,0))∧obj wr (W.heap.size+1)=some (.cells #[.int .i64 (Option.getD (Zn.befN l cyc z.hor t k0 (q * l.length+k)) default).tm,.int .i64 (Option.getD (Zn.befN l cyc z.hor t k0 (q * l.length+k)) default).off] 57 (0,0))∧Below W.heap.size W wr) (fun _ i _=>((l.length:Int) - intOf i).toNat)
     case atStart=>exact ⟨0,by omega,rfl,rfl,hz,ho,hB⟩
     case round =>
      clear hz ho hB
      obtain ⟨k,hk,rfl,rfl,hz,ho,hB⟩:=hrel
      by_cases hlk:k < l.length
      ·have i2:(k:Int) < (l.length:Int):=by omega
       have ek0:=a0y 0 (HTQ.out k hlk).2 (by simp)
       have ek1:=a0y 1 (HTQ.out k hlk).2 (by simp)
       have hxb:=HBD.out k hlk
       have tw:=a04 tq1 hB (a09 tq1)
       have hn:=HBQ.out k (l.getD k default) hlk rfl
       rw [HBB.out] at hn
       generalize l.getD k default=x at *
       have HN:=Lib.hid hn
       clear hn
       have ek0:a5d[tof+k * 2]? = some (.int .i64 x.tm):=ek0
       have ek1:a5d[tof+k * 2+1]? = some (.int .i64 x.off):=ek1
       have e0:=(a02 tw (tof+k * 2)).trans ek0
       have e1:=(a02 tw (tof+k * 2+1)).trans ek1
       have wxb:IntKind.wrap .i64 (x.tm+b)=x.tm+b:=by rw [wrap_in]<;>omega
       have hon:ones #[.int .i64 (x.tm+b),.int .i64 x.off]=true:=by simp [ones,a0n]
       have lz:=a09 ho
       by_cases h1:x.tm+b≤t
       ·by_cases h2:z.hor≤x.tm+b
        ·have HN1:Hid (Zn.befN l cyc z.hor t k0 (q * l.length+(k+1))=some ⟨x.tm+b,x.off⟩):=Lib.hid (by rw [HN.out,if_pos ⟨h1,h2⟩])
         have hz2:=a2q hz (show W.heap.size≠W.heap.size+1 by omega) #[.int .i64 (x.tm+b),.int .i64 x.off]
         have ho2:obj (wr.setRow (W.heap.size+1) #[.int .i64 (x.tm+b),.int .i64 x.off]) (W.heap.size+1)=some (.cells #[.int .i64 (x.tm+b),.int .i64 x.off] 57 (0,0)):=setRow_heap _ _ _ _ _ _ ho
         have HZ2:=Lib.hid (And.intro hz2 (And.intro ho2 (below_setRow hB (show W.heap.size≤W.heap.size+1 by omega) #[.int .i64 (x.tm+b),.int .i64 x.off])))
         clear hz2 ho2
         repeat'(first|go_skip|go_guarded|go_step|go_upon)
         exact ⟨⟨k+1,by omega,by go_num,by rw [HN1.out];rfl,HZ2.out.1,by rw [HN1.out];exact HZ2.out.2.1,HZ2.out.2.2⟩,by simp [intOf];omega⟩
        ·have HN1:Hid (Zn.befN l cyc z.hor t k0 (q * l.length+(k+1))=Zn.befN l cyc z.hor t k0 (q * l.length+k)):=Lib.hid (by rw [HN.out,if_neg (fun h=>h2 h.2)])
         repeat'(first|go_skip|go_guarded|go_step|go_upon)
         exact ⟨⟨k+1,by omega,by go_num,by rw [HN1.out],hz,by rw [HN1.out];exact ho,hB⟩,by simp [intOf];omega⟩
       ·have HN1:Hid (Zn.befN l cyc z.hor t k0 (q * l.length+(k+1))=Zn.befN l cyc z.hor t k0 (q * l.length+k)):=Lib.hid (by rw [HN.out,if_neg (fun h=>h1 h.1)])
        repeat'(first|go_skip|go_guarded|go_step|go_upon)
        exact ⟨⟨k+1,by omega,by go_num,by rw [HN1.out],hz,by rw [HN1.out];exact ho,hB⟩,by simp [intOf];omega⟩
      ·have i2 : ¬ (k:Int) < (l.length:Int):=by omega
       obtain rfl:k=l.length:=by omega
       have HQ1:=Lib.hid (show (q+1) * l.length=q * l.length+l.length from Nat.succ_mul _ _)
       repeat'(first|go_skip|go_guarded|go_step|go_upon)
       exact ⟨⟨q+1,by omega,by first | (simp;done) | (congr 1;omega),by rw [HQ1.out],hz,by rw [HQ1.out];exact ho,hB⟩,by have:=HKD.out;simp [intOf];omega⟩
    ·have i1 : ¬ k0+(q:Int)≤r:=by have:=HKD.out;omega
     obtain rfl:q=d+1:=by omega
     rw [show (d+1) * l.length=d * l.length+l.length from Nat.succ_mul _ _] at *
     have HR2:=HR
     clear HBF HBF0
     generalize Zn.befN l cyc z.hor t k0 (d * l.length+l.length)=o at *
     have hon:ones #[.int .i64 (o.getD default).tm,.int .i64 (o.getD default).off]=true:=by simp [ones,a0n]
     repeat'(first|go_skip|go_guarded|go_step|go_upon)
     refine bodyPost_ret (a0q rfl _ _ W.heap.size 57 _ (0,0) _ (.bool o.isSome) rfl (setRow_heap _ _ _ _ _ _ hz) Tryz.underlying57 rfl (by kernel_rfl) rfl) rfl ?_
     exact ⟨by rw [HR2.out];rfl,below_setRow hB (Nat.le_refl _) _⟩
end Go.Proofs.YtppjleebbjipbaaGreat
namespace Go.Proofs.YtppjleebbjipbaaGreat
open Go.RowKit
set_option maxRecDepth 20000
set_option maxHeartbeats 8000000
theorem rlast_calls {W:World} {z:Zn.a0w} {mv rv tv yv:Value} (hv:a1q W z mv rv tv yv) (hg:Zn.Good z) {t:Int} (ht0 : -9007199254740992≤t) (ht1:t≤9007199254740992) :
    Calls Tryz.prog 97 #[.agg #[.int .i64 z.cal.a08,mv,.int .i64 z.cal.a0l,rv,.int .i64 z.start,tv,.int .i64 z.hor,yv],.int .i64 t] W fun e w'=>e=.returned (aha (Zn.ab1 z t))∧Below W.heap.size W w':=by
  obtain ⟨ta,tc,rfl⟩:=a2b.ajx hv.tr
  have hon:ones #[.int .i64 z.cal.a08,mv,.int .i64 z.cal.a0l,rv,.int .i64 z.start,.slice ta z.trans.length tc,.int .i64 z.hor,yv]=true:=a1b hv.cal.mon.one hv.cal.rul.one (a1m.one hv.tr) (a1m.one hv.yr)
  have w1B:Below W.heap.size W (W.alloc (.cells #[.int .i64 z.cal.a08,mv,.int .i64 z.cal.a0l,rv,.int .i64 z.start,.slice ta z.trans.length tc,.int .i64 z.hor,yv] 35)):=(Below.refl _ _).alloc (Nat.le_refl _) _
  have w2B:Below W.heap.size W ((W.alloc (.cells #[.int .i64 z.cal.a08,mv,.int .i64 z.cal.a0l,rv,.int .i64 z.start,.slice ta z.trans.length tc,.int .i64 z.hor,yv] 35)).alloc (.cells #[.int .i64 0,.int .i64 0] 57)):=w1B.alloc (by simp) _
  have o0:obj ((W.alloc (.cells #[.int .i64 z.cal.a08,mv,.int .i64 z.cal.a0l,rv,.int .i64 z.start,.slice ta z.trans.length tc,.int .i64 z.hor,yv] 35)).alloc (.cells #[.int .i64 0,.int .i64 0] 57)) W.heap.size=some (.cells #[.int .i64 z.cal.a08,mv,.int .i64 z.cal.a0l,rv,.int .i64 z.start,.slice ta z.trans.length tc,.int .i64 z.hor,yv] 35 (0,0)):=a06 (a05 _ _ _ rfl) _
  have o1:obj ((W.alloc (.cells #[.int .i64 z.cal.a08,mv,.int .i64 z.cal.a0l,rv,.int .i64 z.start,.slice ta z.trans.length tc,.int .i64 z.hor,yv] 35)).alloc (.cells #[.int .i64 0,.int .i64 0] 57)) (W.heap.size+1)=some (.cells #[.int .i64 0,.int .i64 0] 57 (0,0)):=a05 _ _ _ (by simp)
  have HV:=Lib.hid (fun (Wq:World) (hq:Below W.heap.size W Wq)=>hv.below hq)
  have HYE:=Lib.hid (ae5 (hv.below w2B) hg.a.zok)
  have HTR:=Lib.hid (fun (Wq:World) (hq:Below W.heap.size W Wq)=>a1m.below hv.tr hq)
  have HCK:=Lib.hid hg.ck
  have HGD:=Lib.hid hg
  have htl:=hg.a.hd.t
  clear hv hg w1B
  go_enter Tryz.func97,Tryz.ntmps97
  repeat' ((go_not_at_region 1);(first|go_skip|go_guarded|go_step|go_upon))
  generalize ((W.alloc (.cells #[.int .i64 z.cal.a08,mv,.int .i64 z.cal.a0l,rv,.int .i64 z.start,.slice ta z.trans.length tc,.int .i64 z.hor,yv] 35)).alloc (.cells #[.int .i64 0,.int .i64 0] 57))=V at *
  repeat' ((go_not_at_region 2);(first | (go_at_call 67;((with_reducible refine (HYE.out).mono ?_));rintro e w5 ⟨⟨lv,b9,rfl,hlv,_⟩,hB5⟩;have hB:=w2B.trans (hB5.mono w2B.size);have kz:=a0a o0 hB5;have k1:=a0a o1 hB5;dsimp only)|go_skip|go_guarded|go_step|go_upon))
  have lz:=a09 kz
  have l1:=a09 k1
  have HCY:=Lib.hid (fun (Wq:World) (hq:Below w5.heap.size w5 Wq)=>ab9 (HV.out Wq (hB.trans (hq.mono hB.size))) HGD.out.a.hd.cal)
  obtain ⟨x,hx⟩ : ∃ x,x=(Zn.a6a z (Zn.ysT z) (Zn.a0s z) t).getD default:=⟨_,rfl⟩
  obtain ⟨bb,hbb⟩ : ∃ bb,bb=(Zn.a6a z (Zn.ysT z) (Zn.a0s z) t).isSome:=⟨_,rfl⟩
  have HBE:Hid (∀ Wq:World,Below w5.heap.size w5 Wq→Calls Tryz.prog 139 #[lv,.int .i64 (Zn.a0s z),.int .i64 z.hor,.int .i64 t] Wq fun e w'=>e=.returned (.tuple #[.agg #[.int .i64 x.tm,.int .i64 x.off],.bool bb])∧Below Wq.heap.size Wq w'):=Lib.hid fun Wq hq=>by
    rw [hx,hbb]
    exact before_calls (a1m.below hlv hq) HCK.out.sy HCK.out.ly HCK.out.c0 HCK.out.c1 ht0 ht1 HCK.out.by_ (fun i hi=>by have:=Zn.a3y HGD.out.gap hi;omega)
  have HSM:Hid (bb=true→Zn.a6a z (Zn.ysT z) (Zn.a0s z) t=some x):=Lib.hid fun h=>by
    rw [hbb] at h
    rw [hx]
    cases h9:Zn.a6a z (Zn.ysT z) (Zn.a0s z) t with
    | none=>rw [h9] at h;cases h
    | some y=>rfl
  have HNO:Hid (bb=false→Zn.a6a z (Zn.ysT z) (Zn.a0s z) t=none):=Lib.hid fun h=>by
    rw [hbb] at h
    cases h9:Zn.a6a z (Zn.ysT z) (Zn.a0s z) t with
    | none=>rfl
    | some y=>rw [h9] at h;cases h
  clear hx hbb HYE o0 o1 hB5 hlv
  refine aav 11 [9] [([],fun v _=>v=lv),
      ([],fun v _=>v=.agg #[.int .i64 z.cal.a08,mv,.int .i64 z.cal.a0l,rv,.int .i64 z.start,.slice ta z.trans.length tc,.int .i64 z.hor,yv]),
      ([1],fun v _=>v=.int .i64 (Zn.a0s z)),
      ([],fun v _=>v=.pointer (some ⟨W.heap.size,6,none⟩)),
      ([3],fun v _=>v=.int .i64 z.hor),
      ([],fun v _=>v=.int .i64 t),
      ([0,2,4,5],fun v _=>v=.tuple #[.agg #[.int .i64 x.tm,.int .i64 x.off],.bool bb]),
      ([6],fun v _=>v=.tuple #[.agg #[.int .i64 x.tm,.int .i64 x.off],.bool bb]),
      ([7],fun v _=>v=.agg #[.int .i64 x.tm,.int .i64 x.off]),
      ([7],fun v _=>v=.bool bb),
      ([],fun v W' => ∃ g,v=.pointer (some ⟨g,0,none⟩)∧obj W' g=some (.cells #[.int .i64 0,.int .i64 0] 57 (0,0))∧w5.heap.size≤g)] (by kernel_rfl) (by kernel_rfl) (by kernel_rfl) (by kernel_rfl) (by kernel_rfl) ⟨?l9,trivial⟩ ?st ?ob ?tl
  case l9 => intro v W h;exact ⟨_,by rw [h];rfl,rfl⟩
  case st => intro k v W1 W2 h hb;rcases k with _|_|_|_|_|_|_|_|_|_|_|k<;>first | exact h | trivial | (obtain ⟨g,h1,h2,h3⟩:=h;exact ⟨g,h1,a0a h2 hb,h3⟩)
  case ob =>
    refine ⟨?_,?_,?_,?_,?_,?_,?_,?_,?_,?_,?_,trivial⟩ <;>
    first
      | (intro vs Wq hW hk;(have q0:=a04 kz hW lz);(have q1:=a02 (a04 kz hW lz) 6);(try simp only [knows,Spec.at',↓List.getD_cons_succ,↓List.getD_cons_zero,and_true] at hk);simp only [Spec.at',↓List.getD_cons_succ,↓List.getD_cons_zero,a00,a03,yy0,yy1,yy2,yy3];(try simp only [hk]);first | ((repeat'(first|go_skip|go_guarded|go_step|go_upon));exact a01 _ rfl (by go_simp) (Below.refl _ _) rfl) | ((have HX:=Lib.hid (HCY.out Wq hW));(repeat' (first | (go_at_call 49;((with_reducible refine (HX.out).mono ?_));rintro e w9 ⟨rfl,hb9⟩;dsimp only)|go_skip|go_guarded|go_step|go_upon));exact a01 _ rfl (by go_simp) hb9 rfl) | ((have HX:=Lib.hid (HBE.out Wq hW));(repeat' (first | (go_at_call 139;((with_reducible refine (HX.out).mono ?_));rintro e w9 ⟨rfl,hb9⟩;dsimp only)|go_skip|go_guarded|go_step|go_upon));exact a01 _ rfl (by go_simp) hb9 rfl) | fail)
      | (
         intro vs Wq hW hk
         clear hk
         change wpList _ _ _ _ (a00 _ vs [] _) _
         simp only [a00]
         repeat'(first|go_skip|go_guarded|go_step|go_upon)
         exact a01 (.pointer (some ⟨Wq.heap.size,0,none⟩)) rfl (by go_simp) ((Below.refl _ _).alloc (Nat.le_refl _) _) ⟨_,rfl,a05 _ _ _ rfl,hW.size⟩)
  case tl =>
    intro vs W2 hW2 hk2
    have v8:vs 8=.agg #[.int .i64 x.tm,.int .i64 x.off]:=hk2 8 (by decide)
    have v9:vs 9=.bool bb:=hk2 9 (by decide)
    have h10:=hk2 10 (by decide)
    obtain ⟨g,v10,s9,s9b⟩:=h10
    clear hk2
    dsimp only [a1d,List.take,List.drop]
    simp only [Act.put,List.setIfInBounds_toArray,List.set_cons_succ,List.set_cons_zero]
    rw [v8,v9,v10]
    generalize vs 0=p0,vs 1=p1,vs 2=p2,vs 3=p3,vs 4=p4,vs 5=p5,vs 6=p6,vs 7=p7
    clear v8 v9 v10
    have hon5:ones #[.int .i64 x.tm,.int .i64 x.off]=true:=by simp [ones,a0n]
    have kg:obj (W2.setRow g #[.int .i64 x.tm,.int .i64 x.off]) g=some (.cells #[.int .i64 x.tm,.int .i64 x.off] 57 (0,0)):=setRow_heap _ _ _ _ _ _ s9
    have k1:=a2q (a04 k1 hW2 l1) (show W.heap.size+1≠g by omega) #[.int .i64 x.tm,.int .i64 x.off]
    have kz:=a2q (a04 kz hW2 lz) (show W.heap.size≠g by omega) #[.int .i64 x.tm,.int .i64 x.off]
    have hW3:Below w5.heap.size w5 (W2.setRow g #[.int .i64 x.tm,.int .i64 x.off]):=below_setRow hW2 s9b _
    have HK3:=Lib.hid (And.intro kg (And.intro kz (And.intro k1 hW3)))
    clear kg kz k1 hW3
    repeat'(first|go_skip|go_guarded|go_step|go_upon)
    refine ⟨.inl rfl,?_⟩
    repeat' ((go_not_at_region 3);(first|go_skip|go_guarded|go_step|go_upon))
    obtain ⟨kg,kz,k1,hW3⟩:=HK3.out
    clear HK3 s9
    generalize (W2.setRow g #[.int .i64 x.tm,.int .i64 x.off])=w10 at *
    have kB:=hB.trans (hW3.mono hB.size)
    have lz:=a09 kz
    have lg:=a09 kg
    cases bb with
    | true =>
      have HR:Hid (Zn.ab1 z t=some x):=Lib.hid (by unfold Zn.ab1 Zn.lastT;rw [HSM.out rfl])
      clear HSM HNO
      repeat'(first|go_skip|go_guarded|go_step|go_upon)
      refine bodyPost_ret (a0q rfl _ _ (W.heap.size+1) 57 _ (0,0) _ (.bool true) rfl (setRow_heap _ _ _ _ _ _ k1) Tryz.underlying57 rfl (by kernel_rfl) rfl) rfl ?_
      exact ⟨by rw [HR.out];rfl,below_setRow kB (by omega) _⟩
    | false =>
      have HR:Hid (Zn.ab1 z t=Zn.a4i z.trans t none):=Lib.hid (by unfold Zn.ab1 Zn.lastT;rw [HNO.out rfl])
      have wn1:IntKind.wrap .i64 ((z.trans.length:Int) - 1)=(z.trans.length:Int) - 1:=by rw [wrap_in]<;>omega
      clear HSM HNO kg lg
      have c5:=a02 kz 5
      repeat'(first|go_skip|go_guarded|go_step|go_upon)
      clear c5
      go_loopw [10] (fun i wr => ∃ k:Nat,∃ q:Int,k≤z.trans.length∧q=(k:Int) - 1∧i=.int .i64 q∧(∀ j,k≤j→j < z.trans.length→t < (z.trans.getD j default).tm)∧obj wr W.heap.size=some (.cells #[.int .i64 z.cal.a08,mv,.int .i64 z.cal.a0l,rv,.int .i64 z.start,.slice ta z.trans.length tc,.int .i64 z.hor,yv] 35 (0,0))∧obj wr (W.heap.size+1)=some (.cells #[.int .i64 0,.int .i64 0] 57 (0,0))∧Below W.heap.size W wr) (fun i _=>(intOf i+1).toNat)
      case atStart=>exact ⟨z.trans.length,_,Nat.le_refl _,rfl,rfl,fun j h1 h2=>absurd h1 (by omega),kz,k1,kB⟩
      case round =>
        clear kz k1 kB lz
        obtain ⟨k,q,hk,hq,rfl,hgt,kz,k1,kB⟩:=hrel
        have HGT:=Lib.hid hgt
        have lz:=a09 kz
        have c5:=a02 kz 5
        clear hgt
        rcases k with _ | m
        · obtain rfl:q = -1:=by omega
          have HF:Hid (Zn.ab1 z t=none):=Lib.hid (by rw [HR.out,Zn.aag z.trans t none 0 (Nat.zero_le _) (fun j h=>absurd h (Nat.not_lt_zero j)) (fun j _ h=>HGT.out j (Nat.zero_le _) h),if_pos rfl])
          clear hq
          repeat'(first|go_skip|go_guarded|go_step|go_upon)
          refine bodyPost_ret (a0q rfl _ _ (W.heap.size+1) 57 _ (0,0) _ (.bool false) rfl (setRow_heap _ _ _ _ _ _ k1) Tryz.underlying57 rfl (by kernel_rfl) rfl) rfl ?_
          exact ⟨by rw [HF.out];rfl,below_setRow kB (by omega) _⟩
        · obtain rfl:q=(m:Int):=by omega
          have hm:m < z.trans.length:=by omega
          have i0:(0:Int)≤(m:Int):=by omega
          have i1 : ¬ (m:Int) < 0:=by omega
          have i2:(m:Int) < (z.trans.length:Int):=by omega
          obtain ⟨tb,tof,tc',a5d,TT',tfr,htv,tq1,tq2⟩:=a2b.open (HTR.out wr kB) (by omega)
          obtain ⟨rfl,rfl⟩:ta=some ⟨tb,tof,none⟩∧tc=tc':=by injection htv with a b c;exact ⟨a,c⟩
          obtain ⟨z0,k3⟩:=tq2 m hm
          have z1:(tof+m * 2+2≤a5d.size)=True:=eq_true z0
          have ek0:=a0y 0 k3 (by simp)
          have HST:=Lib.hid (fun j (h:j < m)=>HCK.out.st j m h hm)
          have HLE:=Lib.hid (fun h1 h2=>Zn.aag z.trans t none (m+1) hm h1 h2)
          have hwm:IntKind.wrap .i64 ((m:Int) - 1)=(m:Int) - 1:=by rw [wrap_in]<;>omega
          clear hq htv tq2 z0
          obtain ⟨y,hy⟩ : ∃ y,z.trans.getD m default=y:=⟨_,rfl⟩
          have HYY:=Lib.hid hy
          rw [hy] at k3 ek0
          have k3:a5d.extract (tof+m * 2) (tof+m * 2+2)=#[.int .i64 y.tm,.int .i64 y.off]:=k3
          have e0:=(a02 tq1 (tof+m * 2)).trans (show a5d[tof+m * 2]? = some (.int .i64 y.tm) from ek0)
          have hon:ones #[.int .i64 y.tm,.int .i64 y.off]=true:=by simp [ones,a0n]
          clear hy ek0
          by_cases ht:y.tm≤t
          · have HF:Hid (Zn.ab1 z t=some y):=Lib.hid (by
              rw [HR.out,HLE.out (fun j h=>by
                rcases Nat.lt_or_ge j m with h9 | h9
                · have:=HST.out j h9;rw [HYY.out] at this;omega
                · obtain rfl:j=m:=by omega
                  rw [HYY.out];exact ht) HGT.out,if_neg (by omega),Nat.add_sub_cancel,HYY.out])
            repeat'(first|go_skip|go_guarded|go_step|go_upon)
            refine bodyPost_ret (a0q rfl _ _ (W.heap.size+1) 57 _ (0,0) _ (.bool true) rfl (setRow_heap _ _ _ _ _ _ k1) Tryz.underlying57 rfl (by kernel_rfl) rfl) rfl ?_
            exact ⟨by rw [HF.out];rfl,below_setRow kB (by omega) _⟩
          · have HNX:Hid (∀ j,m≤j→j < z.trans.length→t < (z.trans.getD j default).tm):=Lib.hid fun j h1 h2=>by
              rcases Nat.lt_or_ge m j with h | h
              · exact HGT.out j h h2
              · obtain rfl:m=j:=by omega
                rw [HYY.out];omega
            repeat'(first|go_skip|go_guarded|go_step|go_upon)
            exact ⟨⟨m,(m:Int) - 1,by omega,rfl,rfl,HNX.out,kz,k1,kB⟩,by simp [intOf]<;>omega⟩
theorem roff_calls {W:World} {z:Zn.a0w} {mv rv tv yv:Value} (hv:a1q W z mv rv tv yv) (hg:Zn.Good z) {t:Int} (ht0 : -9007199254740992≤t) (ht1:t≤9007199254740992) :
  Calls Tryz.prog 58 #[.agg #[.int .i64 z.cal.a08,mv,.int .i64 z.cal.a0l,rv,.int .i64 z.start,tv,.int .i64 z.hor,yv],.int .i64 t] W fun e w'=>e=.returned (.int .i64 (Zn.a2u z t))∧Below W.heap.size W w':=by
 have hon:ones #[.int .i64 z.cal.a08,mv,.int .i64 z.cal.a0l,rv,.int .i64 z.start,tv,.int .i64 z.hor,yv]=true:=a1b hv.cal.mon.one hv.cal.rul.one (a1m.one hv.tr) (a1m.one hv.yr)
 have o0:obj (W.alloc (.cells #[.int .i64 z.cal.a08,mv,.int .i64 z.cal.a0l,rv,.int .i64 z.start,tv,.int .i64 z.hor,yv] 35)) W.heap.size=some (.cells #[.int .i64 z.cal.a08,mv,.int .i64 z.cal.a0l,rv,.int .i64 z.start,tv,.int .i64 z.hor,yv] 35 (0,0)):=a05 _ _ _ rfl
 have w1B:Below W.heap.size W (W.alloc (.cells #[.int .i64 z.cal.a08,mv,.int .i64 z.cal.a0l,rv,.int .i64 z.start,tv,.int .i64 z.hor,yv] 35)):=(Below.refl _ _).alloc (Nat.le_refl _) _
 have HX:=Lib.hid (rlast_calls (hv.below w1B) hg ht0 ht1)
 clear hv hg
 go_enter Tryz.func58,Tryz.ntmps58
 cases hl:Zn.ab1 z t with
 | none =>
  have HR:=Lib.hid (show Zn.a2u z t=z.start by unfold Zn.a2u Zn.a5a;rw [show Zn.lastT z (Zn.ysT z) (Zn.a0s z) t=none from hl])
  rw [hl] at HX
  have HX:Hid (Calls Tryz.prog 97 #[.agg #[.int .i64 z.cal.a08,mv,.int .i64 z.cal.a0l,rv,.int .i64 z.start,tv,.int .i64 z.hor,yv],.int .i64 t] (W.alloc (.cells #[.int .i64 z.cal.a08,mv,.int .i64 z.cal.a0l,rv,.int .i64 z.start,tv,.int .i64 z.hor,yv] 35)) fun e w'=>e=.returned (.tuple #[.agg #[.int .i64 0,.int .i64 0],.bool false])∧Below (W.alloc (.cells #[.int .i64 z.cal.a08,mv,.int .i64 z.cal.a0l,rv,.int .i64 z.start,tv,.int .i64 z.hor,yv] 35)).heap.size (W.alloc (.cells #[.int .i64 z.cal.a08,mv,.int .i64 z.cal.a0l,rv,.int .i64 z.start,tv,.int .i64 z.hor,yv] 35)) w'):=HX
  have ar2:ones #[.int .i64 0,.int .i64 0]=true:=by simp [ones,a0n]
  clear hl
  repeat' ((go_not_at_region 2);(first | (go_at_call 97;((with_reducible refine (HX.out).mono ?_));rintro e w5 ⟨rfl,hB5⟩;have hB6:=w1B.trans (hB5.mono w1B.size);have kz:=a0a o0 hB5;dsimp only)|go_skip|go_guarded|go_step|go_upon))
  have A5:=(Below.refl w5.heap.size w5).alloc (Nat.le_refl _) (.cells #[.int .i64 0,.int .i64 0] 57)
  have dB:=hB6.trans (A5.mono hB6.size)
  have kz6:=a0a kz A5
  generalize (w5.alloc (.cells #[.int .i64 0,.int .i64 0] 57))=w6 at *
  have c4:=a02 kz6 4
  repeat'(first|go_skip|go_guarded|go_step|go_upon)
  go_ret
  exact ⟨by rw [HR.out];rfl,dB⟩
 | some x =>
  have HR:=Lib.hid (show Zn.a2u z t=x.off by unfold Zn.a2u Zn.a5a;rw [show Zn.lastT z (Zn.ysT z) (Zn.a0s z) t=some x from hl])
  rw [hl] at HX
  have HX:Hid (Calls Tryz.prog 97 #[.agg #[.int .i64 z.cal.a08,mv,.int .i64 z.cal.a0l,rv,.int .i64 z.start,tv,.int .i64 z.hor,yv],.int .i64 t] (W.alloc (.cells #[.int .i64 z.cal.a08,mv,.int .i64 z.cal.a0l,rv,.int .i64 z.start,tv,.int .i64 z.hor,yv] 35)) fun e w'=>e=.returned (.tuple #[.agg #[.int .i64 x.tm,.int .i64 x.off],.bool true])∧Below (W.alloc (.cells #[.int .i64 z.cal.a08,mv,.int .i64 z.cal.a0l,rv,.int .i64 z.start,tv,.int .i64 z.hor,yv] 35)).heap.size (W.alloc (.cells #[.int .i64 z.cal.a08,mv,.int .i64 z.cal.a0l,rv,.int .i64 z.start,tv,.int .i64 z.hor,yv] 35)) w'):=HX
  have honx:ones #[.int .i64 x.tm,.int .i64 x.off]=true:=by simp [ones,a0n]
  clear hl
  repeat' (first | (go_at_call 97;((with_reducible refine (HX.out).mono ?_));rintro e w5 ⟨rfl,hB5⟩;have hB6:=w1B.trans (hB5.mono w1B.size);dsimp only)|go_skip|go_guarded|go_step|go_upon)
  go_ret
  exact ⟨by rw [HR.out];rfl,hB6.alloc (by have:=hB6.size;omega) _⟩
theorem rOffset_calls {W:World} {z:Zn.a0w} {mv rv tv yv:Value} (hv:a1q W z mv rv tv yv) (hzr:z.cal.rules.length < 9223372036854775808) (hzm:z.cal.a0g.length < 9223372036854775808) (t:Int) :
  Calls Tryz.prog 19 #[.agg #[.int .i64 z.cal.a08,mv,.int .i64 z.cal.a0l,rv,.int .i64 z.start,tv,.int .i64 z.hor,yv],.int .i64 t] W fun e w'=>e=.returned (.tuple #[.int .i64 (Zn.ac8 z t).1,.int .i64 (Zn.ac8 z t).2])∧Below W.heap.size W w':=by
 have hon:ones #[.int .i64 z.cal.a08,mv,.int .i64 z.cal.a0l,rv,.int .i64 z.start,tv,.int .i64 z.hor,yv]=true:=a1b hv.cal.mon.one hv.cal.rul.one (a1m.one hv.tr) (a1m.one hv.yr)
 have o0:obj (W.alloc (.cells #[.int .i64 z.cal.a08,mv,.int .i64 z.cal.a0l,rv,.int .i64 z.start,tv,.int .i64 z.hor,yv] 35)) W.heap.size=some (.cells #[.int .i64 z.cal.a08,mv,.int .i64 z.cal.a0l,rv,.int .i64 z.start,tv,.int .i64 z.hor,yv] 35 (0,0)):=a05 _ _ _ rfl
 have w1B:Below W.heap.size W (W.alloc (.cells #[.int .i64 z.cal.a08,mv,.int .i64 z.cal.a0l,rv,.int .i64 z.start,tv,.int .i64 z.hor,yv] 35)):=(Below.refl _ _).alloc (Nat.le_refl _) _
 have HX:=Lib.hid (ae9 (hv.below w1B) hzr hzm)
 have HV:=Lib.hid (fun (Wq:World) (hq:Below W.heap.size W Wq)=>hv.below hq)
 have HWI:=Lib.hid (fun Wq:World=>a2e (W:=Wq) (n:=t) (l:=2251799813685248) (by omega) (by omega))
 clear hv
 go_enter Tryz.func19,Tryz.ntmps19
 cases hgb:Zn.a3o z with
 | false =>
  have HR:Hid (Zn.ac8 z t=(0,1)):=Lib.hid (by unfold Zn.ac8;rw [if_neg (fun h=>by rw [hgb] at h;cases h.1)])
  obtain ⟨ve,hve⟩ : ∃ ve,ve=Zn.a2l z:=⟨_,rfl⟩
  have hne:(ve != 0)=true:=by rw [hve];unfold Zn.a2l;split;rfl;rw [if_neg (by rw [hgb];decide)];rfl
  rw [← hve] at HX
  clear hve hgb
  repeat' (first | (go_at_call 29;((with_reducible refine (HX.out).mono ?_));rintro e w5 ⟨rfl,hB5⟩;have hB6:=w1B.trans (hB5.mono w1B.size);have o5:=a0a o0 hB5;dsimp only)|go_skip|go_guarded|go_step|go_upon)
  go_returns
  exact ⟨by rw [HR.out];rfl,hB6⟩
 | true =>
  have hgd:=Zn.a0v.1 hgb
  have HVE:Zn.a2l z=0:=by unfold Zn.a2l;rw [if_neg (by have:=hgd.a.hd.t;omega),if_pos hgb]
  rw [HVE] at HX
  clear HVE
  by_cases hw : -2251799813685248≤t∧t≤2251799813685248
  ·have HR:Hid (Zn.ac8 z t=(Zn.a2u z t,0)):=Lib.hid (by unfold Zn.ac8;rw [if_pos ⟨hgb,hw⟩])
   rw [decide_eq_true hw] at HWI
   have HOF:=Lib.hid (fun (Wq:World) (hq:Below W.heap.size W Wq)=>roff_calls (HV.out Wq hq) hgd (t:=t) (by omega) (by omega))
   clear hgb
   repeat' (first | (go_at_call 29;((with_reducible refine (HX.out).mono ?_));rintro e w5 ⟨rfl,hB5⟩;have hB6:=w1B.trans (hB5.mono w1B.size);have o5:=a0a o0 hB5;dsimp only) | (go_at_call 57;((with_reducible refine (HWI.out _).mono ?_));rintro e w6 ⟨rfl,rfl⟩;dsimp only) | (go_at_call 58;((with_reducible refine (HOF.out _ hB6).mono ?_));rintro e w7 ⟨rfl,hB7⟩;have hB8:=hB6.trans (hB7.mono hB6.size);dsimp only)|go_skip|go_guarded|go_step|go_upon)
   go_returns
   exact ⟨by rw [HR.out];rfl,hB8⟩
  ·have HR:Hid (Zn.ac8 z t=(0,1)):=Lib.hid (by unfold Zn.ac8;rw [if_neg (fun h=>hw h.2)])
   rw [decide_eq_false hw] at HWI
   clear hgb hw
   repeat' (first | (go_at_call 29;((with_reducible refine (HX.out).mono ?_));rintro e w5 ⟨rfl,hB5⟩;have hB6:=w1B.trans (hB5.mono w1B.size);have o5:=a0a o0 hB5;dsimp only) | (go_at_call 57;((with_reducible refine (HWI.out _).mono ?_));rintro e w6 ⟨rfl,rfl⟩;dsimp only)|go_skip|go_guarded|go_step|go_upon)
   go_returns
   exact ⟨by rw [HR.out];rfl,hB6⟩
theorem rLocal_calls {W:World} {z:Zn.a0w} {mv rv tv yv:Value} (hv:a1q W z mv rv tv yv) (hzr:z.cal.rules.length < 9223372036854775808) (hzm:z.cal.a0g.length < 9223372036854775808) (t:Int) :
  Calls Tryz.prog 21 #[.agg #[.int .i64 z.cal.a08,mv,.int .i64 z.cal.a0l,rv,.int .i64 z.start,tv,.int .i64 z.hor,yv],.int .i64 t] W fun e w'=>e=.returned (.tuple #[.int .i64 (Zn.aip z t).1,.int .i64 (Zn.aip z t).2])∧Below W.heap.size W w':=by
 have hon:ones #[.int .i64 z.cal.a08,mv,.int .i64 z.cal.a0l,rv,.int .i64 z.start,tv,.int .i64 z.hor,yv]=true:=a1b hv.cal.mon.one hv.cal.rul.one (a1m.one hv.tr) (a1m.one hv.yr)
 have o0:obj (W.alloc (.cells #[.int .i64 z.cal.a08,mv,.int .i64 z.cal.a0l,rv,.int .i64 z.start,tv,.int .i64 z.hor,yv] 35)) W.heap.size=some (.cells #[.int .i64 z.cal.a08,mv,.int .i64 z.cal.a0l,rv,.int .i64 z.start,tv,.int .i64 z.hor,yv] 35 (0,0)):=a05 _ _ _ rfl
 have w1B:Below W.heap.size W (W.alloc (.cells #[.int .i64 z.cal.a08,mv,.int .i64 z.cal.a0l,rv,.int .i64 z.start,tv,.int .i64 z.hor,yv] 35)):=(Below.refl _ _).alloc (Nat.le_refl _) _
 have HX:=Lib.hid (rOffset_calls (hv.below w1B) hzr hzm t)
 clear hv
 go_enter Tryz.func21,Tryz.ntmps21
 by_cases h:Zn.a3o z=true∧-2251799813685248≤t∧t≤2251799813685248
 ·have HR:Hid (Zn.aip z t=(t+Zn.a2u z t,0)):=Lib.hid (by unfold Zn.aip;rw [if_pos h])
  have HQ:Zn.ac8 z t=(Zn.a2u z t,0):=by unfold Zn.ac8;rw [if_pos h]
  rw [HQ] at HX
  have hoo : -1080≤Zn.a2u z t∧Zn.a2u z t≤1080:=Zn.abn (Zn.a0v.1 h.1).ck t
  clear HQ
  obtain ⟨_,h1,h2⟩:=h
  generalize Zn.a2u z t=o at *
  have wto:IntKind.wrap .i64 (t+o)=t+o:=by rw [wrap_in]<;>omega
  repeat' (first | (go_at_call 19;((with_reducible refine (HX.out).mono ?_));rintro e w5 ⟨rfl,hB5⟩;have hB6:=w1B.trans (hB5.mono w1B.size);dsimp only)|go_skip|go_guarded|go_step|go_upon)
  go_returns
  exact ⟨by rw [HR.out];rfl,hB6⟩
 ·have HR:Hid (Zn.aip z t=(0,1)):=Lib.hid (by unfold Zn.aip;rw [if_neg h])
  have HQ:Zn.ac8 z t=(0,1):=by unfold Zn.ac8;rw [if_neg h]
  rw [HQ] at HX
  clear HQ h
  repeat' (first | (go_at_call 19;((with_reducible refine (HX.out).mono ?_));rintro e w5 ⟨rfl,hB5⟩;have hB6:=w1B.trans (hB5.mono w1B.size);dsimp only)|go_skip|go_guarded|go_step|go_upon)
  go_returns
  exact ⟨by rw [HR.out];rfl,hB6⟩
end Go.Proofs.YtppjleebbjipbaaGreat
namespace Zn
theorem cov_some {z:a0w} (hg:Good z) {t s:Int} {x:Tr} (h:ab1 z t=some x) (h1:x.tm≤s) (h2:s≤t):a2u z s=x.off:=by
 rcases a3u hg t with ⟨h3,_⟩ | ⟨x',h3,_,_,h4⟩
 ·rw [h] at h3;cases h3
 ·rw [h] at h3;cases h3
  rw [a7y hg h2 (fun y hy hyt=>by have:=h4 y hy hyt;omega)]
  exact a4b h
theorem cov_none {z:a0w} (hg:Good z) {t s:Int} (h:ab1 z t=none) (h2:s≤t):a2u z s=z.start:=by
 rcases a3u hg t with ⟨_,h4⟩ | ⟨x',h3,_⟩
 ·rw [a7y hg h2 (fun y hy hyt=>by have:=h4 y hy;omega)]
  exact offZ_none h
 ·rw [h] at h3;cases h3
structure Cov (z:a0w) (loc t:Int) (l:List Int):Prop where
 all:∀ s,t < s→s≤loc+1080→a2u z s∈l
 rng:∀ o,o∈l→-1080≤o∧o≤1080
theorem Cov.some {z:a0w} (hg:Good z) {loc t:Int} {l:List Int} (h:Cov z loc t l) {x:Tr} (hx:ab1 z t=some x):Cov z loc (x.tm - 1) (l ++ [x.off]) where
 all:=fun s h1 h2=>by
  rcases Int.lt_or_le t s with h3 | h3
  ·exact List.mem_append_left _ (h.all s h3 h2)
  ·rw [cov_some hg hx (by omega) h3];simp
 rng:=fun o ho=>by
  rcases List.mem_append.1 ho with h1 | h1
  ·exact h.rng o h1
  ·rw [List.mem_singleton.1 h1,← a4b hx];exact a2a hg t
theorem Cov.none {z:a0w} (hg:Good z) {loc t:Int} {l:List Int} (h:Cov z loc t l) (hx:ab1 z t=none) {u:Int} (hu : -1080≤z.start∧z.start≤1080):Cov z loc u (l ++ [z.start]) where
 all:=fun s h1 h2=>by
  rcases Int.lt_or_le t s with h3 | h3
  ·exact List.mem_append_left _ (h.all s h3 h2)
  ·rw [cov_none hg hx h3];simp
 rng:=fun o ho=>by
  rcases List.mem_append.1 ho with h1 | h1
  ·exact h.rng o h1
  ·rw [List.mem_singleton.1 h1];exact hu
structure Fnd (z:a0w) (loc:Int) (l:List Int) (k:Nat) (o:List Int):Prop where
 nd:o.Nodup
 mem:∀ t,t∈o↔t+a2u z t=loc∧a2u z t∈l.take k
theorem Fnd.nil {z:a0w} {loc:Int} {l:List Int}:Fnd z loc l 0 []:=⟨List.nodup_nil,fun t=>by simp⟩
theorem take_mem {l:List Int} {k:Nat} (hk:k < l.length) {a:Int}:a∈l.take (k+1)↔a∈l.take k∨a=l.getD k 0:=by
 rw [List.take_add_one,List.getElem?_eq_getElem hk,List.mem_append]
 simp [List.getD_eq_getElem?_getD,List.getElem?_eq_getElem hk]
theorem Fnd.keep {z:a0w} {loc:Int} {l o:List Int} {k:Nat} (h:Fnd z loc l k o) (hk:k < l.length) (hn:a2u z (loc - l.getD k 0)≠l.getD k 0∨loc - l.getD k 0∈o):Fnd z loc l (k+1) o where
 nd:=h.nd
 mem:=fun t=>by
  rw [h.mem t,take_mem hk]
  constructor
  ·exact fun ⟨a,b⟩=>⟨a,.inl b⟩
  ·rintro ⟨a,b | b⟩
   ·exact ⟨a,b⟩
   ·have e:loc - l.getD k 0=t:=by omega
    rcases hn with h9 | h9
    ·rw [e] at h9;exact absurd b h9
    ·rw [e] at h9;exact (h.mem t).1 h9
theorem Fnd.put {z:a0w} {loc:Int} {l o:List Int} {k:Nat} (h:Fnd z loc l k o) (hk:k < l.length) (hn:a2u z (loc - l.getD k 0)=l.getD k 0) (h2:loc - l.getD k 0 ∉ o):Fnd z loc l (k+1) (o ++ [loc - l.getD k 0]) where
 nd:=by
  rw [List.nodup_append]
  refine ⟨h.nd,by simp,fun a ha b hb=>?_⟩
  rw [List.mem_singleton.1 hb]
  intro e
  exact h2 (e ▸ ha)
 mem:=fun t=>by
  rw [List.mem_append,h.mem t,take_mem hk,List.mem_singleton]
  constructor
  ·rintro (⟨a,b⟩ | rfl)
   ·exact ⟨a,.inl b⟩
   ·exact ⟨by rw [hn];omega,.inr hn⟩
  ·rintro ⟨a,b | b⟩
   ·exact .inl ⟨a,b⟩
   ·exact .inr (by omega)
theorem Fnd.len {z:a0w} {loc:Int} {l o:List Int} {k:Nat} (h:Fnd z loc l k o) (hg:Good z):o.length≤2:=by
 rcases Nat.lt_or_ge 2 o.length with hl | hl
 ·have hp:=afl h.nd
  have hle:(a2z o).length=o.length:=(a4n o).length_eq
  have hm:∀ i (hi:i < (a2z o).length),(a2z o)[i]+a2u z (a2z o)[i]=loc:=fun i hi=>((h.mem _).1 (ad5.1 (List.getElem_mem hi))).1
  rw [List.pairwise_iff_getElem] at hp
  exact (ahe hg (hm 0 (by omega)) (hm 1 (by omega)) (hm 2 (by omega)) (hp 0 1 (by omega) (by omega) (by omega)) (hp 1 2 (by omega) (by omega) (by omega))).elim
 ·exact hl
theorem sorted_eq:∀ {a b:List Int},(a.Pairwise fun x y=>x < y)→(b.Pairwise fun x y=>x < y)→(∀ t,t∈a↔t∈b)→a=b
 | [],[],_,_,_=>rfl
 | [],y :: b,_,_,h=>absurd ((h y).2 (by simp)) (by simp)
 | x :: a,[],_,_,h=>absurd ((h x).1 (by simp)) (by simp)
 | x :: a,y :: b,ha,hb,h=>by
  rw [List.pairwise_cons] at ha hb
  have hxy:x=y:=by
   rcases List.mem_cons.1 ((h x).1 (by simp)) with e | e
   ·exact e
   ·rcases List.mem_cons.1 ((h y).2 (by simp)) with e2 | e2
    ·exact e2.symm
    ·have:=hb.1 x e;have:=ha.1 y e2;omega
  subst hxy
  rw [sorted_eq ha.2 hb.2 (fun t=>?_)]
  constructor
  ·intro ht
   rcases List.mem_cons.1 ((h t).1 (List.mem_cons_of_mem _ ht)) with e | e
   ·subst e;exact absurd (ha.1 t ht) (by omega)
   ·exact e
  ·intro ht
   rcases List.mem_cons.1 ((h t).2 (List.mem_cons_of_mem _ ht)) with e | e
   ·subst e;exact absurd (hb.1 t ht) (by omega)
   ·exact e
theorem Fnd.done {z:a0w} {loc:Int} {l o:List Int} (h:Fnd z loc l l.length o) (hg:Good z) (hc:∀ s,loc - 1080≤s→s≤loc+1080→a2u z s∈l) (hs:o.Pairwise fun a b=>a < b):o=(a2w z loc).1 :=
 sorted_eq hs (acb hg loc).sorted fun t=>by
  rw [h.mem t,(acb hg loc).mem t,List.take_length]
  exact ⟨fun h=>h.1,fun h2=>⟨h2,by have:=a2a hg t;exact hc t (by omega) (by omega)⟩⟩
theorem Fnd.swap {z:a0w} {loc a b:Int} {l:List Int} {k:Nat} (h:Fnd z loc l k [a,b]):Fnd z loc l k [b,a] :=
 ⟨by have:=h.nd;simp at this ⊢;exact fun e=>this e.symm,fun t=>by rw [← h.mem t];simp [or_comm]⟩
end Zn
namespace Go.Proofs.YtppjleebbjipbaaGreat
open Go.RowKit Go.Shelf
set_option maxRecDepth 20000
set_option maxHeartbeats 8000000
theorem around_calls {W:World} {z:Zn.a0w} {mv rv tv yv:Value} (hv:a1q W z mv rv tv yv) (hg:Zn.Good z) {loc:Int} (h0 : -2251799813685248≤loc) (h1:loc≤2251799813685248) :
  Calls Tryz.prog 98 #[.agg #[.int .i64 z.cal.a08,mv,.int .i64 z.cal.a0l,rv,.int .i64 z.start,tv,.int .i64 z.hor,yv],.int .i64 loc] W fun e w'=>(∃ v l,e=.returned v∧a1s w' v l∧(∀ s,loc - 1080≤s→s≤loc+1080→Zn.a2u z s∈l)∧(∀ o,o∈l→-1080≤o∧o≤1080)∧l.length≤4000∧∀ g,v.ownBlock=some g→W.heap.size≤g)∧Below W.heap.size W w':=by
 have hon:ones #[.int .i64 z.cal.a08,mv,.int .i64 z.cal.a0l,rv,.int .i64 z.start,tv,.int .i64 z.hor,yv]=true:=a1b hv.cal.mon.one hv.cal.rul.one (a1m.one hv.tr) (a1m.one hv.yr)
 have w1B:Below W.heap.size W (W.alloc (.cells #[.int .i64 z.cal.a08,mv,.int .i64 z.cal.a0l,rv,.int .i64 z.start,tv,.int .i64 z.hor,yv] 35)):=(Below.refl _ _).alloc (Nat.le_refl _) _
 have w2B:Below W.heap.size W ((W.alloc (.cells #[.int .i64 z.cal.a08,mv,.int .i64 z.cal.a0l,rv,.int .i64 z.start,tv,.int .i64 z.hor,yv] 35)).alloc (.cells #[] 3)):=w1B.alloc w1B.size _
 have o0:obj ((W.alloc (.cells #[.int .i64 z.cal.a08,mv,.int .i64 z.cal.a0l,rv,.int .i64 z.start,tv,.int .i64 z.hor,yv] 35)).alloc (.cells #[] 3)) W.heap.size=some (.cells #[.int .i64 z.cal.a08,mv,.int .i64 z.cal.a0l,rv,.int .i64 z.start,tv,.int .i64 z.hor,yv] 35 (0,0)):=a06 (a05 _ _ _ rfl) _
 have aor:((W.alloc (.cells #[.int .i64 z.cal.a08,mv,.int .i64 z.cal.a0l,rv,.int .i64 z.start,tv,.int .i64 z.hor,yv] 35)).alloc (.cells #[] 3)).ownsRow (W.heap.size+1) 3 1 (.slice (some ⟨W.heap.size+1,0,none⟩) 0 0) 0 (a4m []):=⟨rfl,.inr ⟨_,0,#[],rfl,Nat.le_refl _,a05 _ _ _ (by simp),Nat.le_refl _,by unfold maxLen;omega,rfl,rfl⟩⟩
 have HV:=Lib.hid (fun (Wq:World) (hq:Below W.heap.size W Wq)=>hv.below hq)
 have HGD:=Lib.hid hg
 have hs:=hg.ck.s0
 have hs2:=hg.ck.s1
 clear hv hg
 have wl1:IntKind.wrap .i64 (loc+1080)=loc+1080:=by rw [wrap_in]<;>omega
 have wl2:IntKind.wrap .i64 (loc - 1080)=loc - 1080:=by rw [wrap_in]<;>omega
 go_enter Tryz.func98,Tryz.ntmps98
 repeat' ((go_not_at_region 2);(first|go_skip|go_guarded|go_step|go_upon))
 generalize ((W.alloc (.cells #[.int .i64 z.cal.a08,mv,.int .i64 z.cal.a0l,rv,.int .i64 z.start,tv,.int .i64 z.hor,yv] 35)).alloc (.cells #[] 3))=V at *
 repeat'(first|go_skip|go_guarded|go_step|go_upon)
 go_loopw [5,6] (fun lv tq wr => ∃ (t:Int) (l:List Int),tq=.int .i64 t∧wr.ownsRow (W.heap.size+1) 3 1 lv l.length (a4m l)∧Zn.Cov z loc t l∧loc - 1080≤t∧t≤loc+1080∧(l.length:Int)≤loc+1080 - t∧obj wr W.heap.size=some (.cells #[.int .i64 z.cal.a08,mv,.int .i64 z.cal.a0l,rv,.int .i64 z.start,tv,.int .i64 z.hor,yv] 35 (0,0))∧Below W.heap.size W wr) (fun _ tq _=>(intOf tq - (loc - 1090)).toNat)
 case atStart=>exact ⟨loc+1080,[],rfl,aor,⟨fun s h1 h2=>by omega,fun o h=>by simp at h⟩,by omega,by omega,by simp,o0,w2B⟩
 case round =>
  clear aor o0 w2B
  obtain ⟨t,l,rfl,how,hcov,ht0,ht1,hll,kz,hB⟩:=hrel
  have HCV:=Lib.hid hcov
  clear hcov
  have HLA:=Lib.hid (rlast_calls (HV.out wr hB) HGD.out (t:=t) (by omega) (by omega))
  have osl:=a3x how
  have hl9:l.length≤3000:=by omega
  obtain ⟨la,lc,hlv⟩:=(a2o how).2.2
  subst hlv
  cases hx:Zn.ab1 z t with
  | none =>
   have HC2:=Lib.hid (fun u=>HCV.out.none HGD.out hx (u:=u) ⟨hs,hs2⟩)
   have HLA:Hid (Calls Tryz.prog 97 #[.agg #[.int .i64 z.cal.a08,mv,.int .i64 z.cal.a0l,rv,.int .i64 z.start,tv,.int .i64 z.hor,yv],.int .i64 t] wr fun e w'=>e=.returned (.tuple #[.agg #[.int .i64 0,.int .i64 0],.bool false])∧Below wr.heap.size wr w'):=by rw [hx] at HLA;exact HLA
   have ar2:ones #[.int .i64 0,.int .i64 0]=true:=by simp [ones,a0n]
   clear hx
   repeat' ((go_not_at_region 4);(first | (go_at_call 97;((with_reducible refine (HLA.out).mono ?_));rintro e w5 ⟨rfl,an1⟩;dsimp only)|go_skip|go_guarded|go_step|go_upon))
   have dB5:=hB.trans (an1.mono hB.size)
   have A5:=(Below.refl w5.heap.size w5).alloc (Nat.le_refl _) (.cells #[.int .i64 0,.int .i64 0] 57)
   have dB:=dB5.trans (A5.mono dB5.size)
   have ow6:=a0m (a0m how an1) A5
   have kz6:=a0a (a0a kz an1) A5
   generalize (w5.alloc (.cells #[.int .i64 0,.int .i64 0] 57))=w6 at *
   have c4:=a02 kz6 4
   clear how kz hB an1 dB5 A5
   have A6:=(Below.refl w6.heap.size w6).alloc (Nat.le_refl _) (.cells #[.int .i64 z.start] 3)
   have ow7:=a0m ow6 A6
   have n6:obj (w6.alloc (.cells #[.int .i64 z.start] 3)) w6.heap.size=some (.cells #[.int .i64 z.start] 3 (0,0)):=a05 _ _ _ rfl
   have nz:=a0a kz6 A6
   have nB:=dB.trans (A6.mono dB.size)
   have nsz:=nB.size
   have nbs:(W.heap.size+1)≤(w6.alloc (.cells #[.int .i64 z.start] 3)).heap.size:=by have h1:=dB.size;have h2:=a09 kz6;simp;omega
   repeat' (first | (at_builtin;(refine a4p rfl _ _ rfl (W.heap.size+1) l.length (.slice la l.length lc) (a4m l) rfl ow7 w6.heap.size _ rfl n6 rfl (by omega) nbs ?_);intro v5 W5 a3p hg5;have hg:(w6.alloc (.cells #[.int .i64 z.start] 3)).grownBy W5 (Value.slice la l.length lc).ownBlock:=hg5;clear hg5;have ez:=a19 ow7 nz (by decide) hg;have eB:=nB.grown hg nsz (fun g q=>by have:=a1p ow7 q;omega);have alk:W5.ownsRow (W.heap.size+1) 3 1 v5 (l.length+1) (a4m (l ++ [z.start])):=(by simpa [a4m] using a3p);obtain ⟨va,vc,hv5⟩:=(a2o alk).2.2;subst hv5;dsimp only)|go_skip|go_guarded|go_step|go_upon)
   go_ret
   have hi:=a2o alk
   have HC3:=Lib.hid (HC2.out (loc - 1081))
   exact ⟨⟨_,l ++ [z.start],rfl,by simpa using hi.2.1,fun s a b=>HC3.out.all s (by omega) b,HC3.out.rng,by simp;omega,fun g e=>by have:=a1p alk e;omega⟩,eB⟩
  | some x =>
   have hxt:x.tm≤t:=Zn.akm hx
   have HC2:=Lib.hid (HCV.out.some HGD.out hx)
   have HLA:Hid (Calls Tryz.prog 97 #[.agg #[.int .i64 z.cal.a08,mv,.int .i64 z.cal.a0l,rv,.int .i64 z.start,tv,.int .i64 z.hor,yv],.int .i64 t] wr fun e w'=>e=.returned (.tuple #[.agg #[.int .i64 x.tm,.int .i64 x.off],.bool true])∧Below wr.heap.size wr w'):=by rw [hx] at HLA;exact HLA
   have honx:ones #[.int .i64 x.tm,.int .i64 x.off]=true:=by simp [ones,a0n]
   clear hx
   repeat' ((go_not_at_region 4);(first | (go_at_call 97;((with_reducible refine (HLA.out).mono ?_));rintro e w5 ⟨rfl,an1⟩;dsimp only)|go_skip|go_guarded|go_step|go_upon))
   have dB5:=hB.trans (an1.mono hB.size)
   have A5:=(Below.refl w5.heap.size w5).alloc (Nat.le_refl _) (.cells #[.int .i64 x.tm,.int .i64 x.off] 57)
   have dB:=dB5.trans (A5.mono dB5.size)
   have d8:obj (w5.alloc (.cells #[.int .i64 x.tm,.int .i64 x.off] 57)) w5.heap.size=some (.cells #[.int .i64 x.tm,.int .i64 x.off] 57 (0,0)):=a05 _ _ _ rfl
   have ow6:=a0m (a0m how an1) A5
   have kz6:=a0a (a0a kz an1) A5
   generalize (w5.alloc (.cells #[.int .i64 x.tm,.int .i64 x.off] 57))=w6 at *
   generalize w5.heap.size=b8 at *
   have c81:=a02 d8 1
   clear how kz hB an1 dB5 A5
   have A6:=(Below.refl w6.heap.size w6).alloc (Nat.le_refl _) (.cells #[.int .i64 x.off] 3)
   have ow7:=a0m ow6 A6
   have n6:obj (w6.alloc (.cells #[.int .i64 x.off] 3)) w6.heap.size=some (.cells #[.int .i64 x.off] 3 (0,0)):=a05 _ _ _ rfl
   have nz:=a0a kz6 A6
   have n8:=a0a d8 A6
   have nB:=dB.trans (A6.mono dB.size)
   have nsz:=nB.size
   have nbs:(W.heap.size+1)≤(w6.alloc (.cells #[.int .i64 x.off] 3)).heap.size:=by have h1:=dB.size;have h2:=a09 kz6;simp;omega
   repeat' ((go_not_at_region 7);(first | (at_builtin;(refine a4p rfl _ _ rfl (W.heap.size+1) l.length (.slice la l.length lc) (a4m l) rfl ow7 w6.heap.size _ rfl n6 rfl (by omega) nbs ?_);intro v5 W5 a3p hg5;have hg:(w6.alloc (.cells #[.int .i64 x.off] 3)).grownBy W5 (Value.slice la l.length lc).ownBlock:=hg5;clear hg5;have ez:=a19 ow7 nz (by decide) hg;have e8:=a19 ow7 n8 (by decide) hg;have eB:=nB.grown hg nsz (fun g q=>by have:=a1p ow7 q;omega);have alk:W5.ownsRow (W.heap.size+1) 3 1 v5 (l.length+1) (a4m (l ++ [x.off])):=(by simpa [a4m] using a3p);obtain ⟨va,vc,hv5⟩:=(a2o alk).2.2;subst hv5;dsimp only)|go_skip|go_guarded|go_step|go_upon))
   have c80:=a02 e8 0
   clear c81 kz6 nz n8 n6 d8 ow6 ow7
   by_cases hlo:x.tm≤loc - 1080
   ·repeat'(first|go_skip|go_guarded|go_step|go_upon)
    go_ret
    have hi:=a2o alk
    exact ⟨⟨_,l ++ [x.off],rfl,by simpa using hi.2.1,fun s a b=>HC2.out.all s (by omega) b,HC2.out.rng,by simp;omega,fun g e=>by have:=a1p alk e;omega⟩,eB⟩
   ·have wx1:IntKind.wrap .i64 (x.tm - 1)=x.tm - 1:=by rw [wrap_in]<;>omega
    repeat'(first|go_skip|go_guarded|go_step|go_upon)
    exact ⟨⟨x.tm - 1,l ++ [x.off],rfl,by simpa using alk,HC2.out,by omega,by omega,by simp;omega,ez,eB⟩,by simp only [intOf];omega⟩
theorem in_calls {W:World} {v:Value} {l:List Int} {n:Int} (hv:a1s W v l) (hl:l.length≤1000000000) :
  Calls Tryz.prog 99 #[v,.int .i64 n] W fun e w'=>e=.returned (.bool (decide (n∈l)))∧Below W.heap.size W w':=by
 obtain ⟨ao,c,rfl,hq⟩:=hv
 have HQ:=Lib.hid hq
 clear hq
 go_enter Tryz.func99,Tryz.ntmps99
 repeat'(first|go_skip|go_guarded|go_step|go_upon)
 go_loopw [5] (fun i wr => ∃ k:Nat,k≤l.length∧i=.int .i64 k∧n ∉ l.take k∧Below W.heap.size W wr) (fun i _=>((l.length:Int) - intOf i).toNat)
 case atStart=>exact ⟨0,Nat.zero_le _,rfl,by simp,Below.refl _ _⟩
 case round =>
  obtain ⟨k,hk,rfl,hn,hB⟩:=hrel
  have HN:=Lib.hid hn
  clear hn
  by_cases hlk:k < l.length
  ·have i1:(k:Int) < (l.length:Int):=by omega
   obtain ⟨b,o,row,T,fr,rfl,q1,q2⟩:=HQ.out (by omega)
   have e1:=(a02 (a04 q1 hB (a09 q1)) (o+k)).trans (q2 k hlk)
   have HTM:=Lib.hid (Zn.take_mem hlk (a:=n))
   obtain ⟨y,hy⟩ : ∃ y,l.getD k 0=y:=⟨_,rfl⟩
   rw [hy] at e1 HTM
   have HYI:Hid (y∈l):=Lib.hid (by rw [← hy,List.getD_eq_getElem?_getD,List.getElem?_eq_getElem hlk];exact List.getElem_mem hlk)
   clear q1 q2 hy
   by_cases hyn:y=n
   ·have e2:(y == n)=true:=beq_iff_eq.2 hyn
    have HR:Hid (decide (n∈l)=true):=Lib.hid (decide_eq_true (hyn ▸ HYI.out))
    clear hyn
    repeat'(first|go_skip|go_guarded|go_step|go_upon)
    go_ret
    exact ⟨by rw [HR.out];rfl,hB⟩
   ·have e2:(y == n)=false:=beq_eq_false_iff_ne.2 hyn
    have HNX:Hid (n ∉ l.take (k+1)):=Lib.hid (fun h=>(HTM.out.1 h).elim HN.out (fun e=>hyn e.symm))
    clear hyn
    repeat'(first|go_skip|go_guarded|go_step|go_upon)
    exact ⟨⟨k+1,by omega,by go_num,HNX.out,hB⟩,by simp [intOf];omega⟩
  ·have i1 : ¬ (k:Int) < (l.length:Int):=by omega
   have HR:Hid (decide (n∈l)=false):=Lib.hid (decide_eq_false (fun h=>HN.out (by rw [show k=l.length by omega,List.take_length];exact h)))
   repeat'(first|go_skip|go_guarded|go_step|go_upon)
   go_ret
   exact ⟨by rw [HR.out];rfl,hB⟩
theorem ints_cells2 {W:World} {v:Value} {l:List Int} (h:a2c W v l) (h0:0 < l.length) : ∃ b o c,v=.slice (some ⟨b,o,none⟩) l.length c∧∀ i,i < l.length→W.cell? ⟨b,o+i,none⟩=some (.int .i64 (l.getD i 0)):=by
 obtain ⟨ao,c,rfl,h2⟩:=h.1
 obtain ⟨b,o,row,T,fr,rfl,g2,g3⟩:=h2 h0
 exact ⟨b,o,c,rfl,fun i hi=>by rw [a02 g2 (o+i),g3 i hi]⟩
theorem owns_intsC {w:World} {base:Nat} {v:Value} {l:List Int} (h:w.ownsRow base 3 1 v l.length (a4m l)):a2c w v l:=by
 refine ⟨(a2o h).2.1,?_⟩
 rcases h.2 with ⟨rfl,h0⟩ | ⟨g,c,cur,rfl,h1,h2,h3,h4,h5,h6⟩
 ·exact ⟨none,0,by rw [h0],by omega⟩
 ·exact ⟨_,c,rfl,h3⟩
theorem exact_calls {W:World} {z:Zn.a0w} {mv rv tv yv:Value} (hv:a1q W z mv rv tv yv) (hg:Zn.Good z) {loc:Int} (h0 : -2251799813685248≤loc) (h1:loc≤2251799813685248) :
  Calls Tryz.prog 61 #[.agg #[.int .i64 z.cal.a08,mv,.int .i64 z.cal.a0l,rv,.int .i64 z.start,tv,.int .i64 z.hor,yv],.int .i64 loc] W fun e w'=>(∃ v,e=.returned v∧a2c w' v (Zn.a2w z loc).1)∧Below W.heap.size W w':=by
 have hon:ones #[.int .i64 z.cal.a08,mv,.int .i64 z.cal.a0l,rv,.int .i64 z.start,tv,.int .i64 z.hor,yv]=true:=a1b hv.cal.mon.one hv.cal.rul.one (a1m.one hv.tr) (a1m.one hv.yr)
 have w1B:Below W.heap.size W (W.alloc (.cells #[.int .i64 z.cal.a08,mv,.int .i64 z.cal.a0l,rv,.int .i64 z.start,tv,.int .i64 z.hor,yv] 35)):=(Below.refl _ _).alloc (Nat.le_refl _) _
 have w2B:Below W.heap.size W ((W.alloc (.cells #[.int .i64 z.cal.a08,mv,.int .i64 z.cal.a0l,rv,.int .i64 z.start,tv,.int .i64 z.hor,yv] 35)).alloc (.cells #[] 3)):=w1B.alloc w1B.size _
 have o0:obj ((W.alloc (.cells #[.int .i64 z.cal.a08,mv,.int .i64 z.cal.a0l,rv,.int .i64 z.start,tv,.int .i64 z.hor,yv] 35)).alloc (.cells #[] 3)) W.heap.size=some (.cells #[.int .i64 z.cal.a08,mv,.int .i64 z.cal.a0l,rv,.int .i64 z.start,tv,.int .i64 z.hor,yv] 35 (0,0)):=a06 (a05 _ _ _ rfl) _
 have aor:((W.alloc (.cells #[.int .i64 z.cal.a08,mv,.int .i64 z.cal.a0l,rv,.int .i64 z.start,tv,.int .i64 z.hor,yv] 35)).alloc (.cells #[] 3)).ownsRow (W.heap.size+1) 3 1 (.slice (some ⟨W.heap.size+1,0,none⟩) 0 0) 0 (a4m []):=⟨rfl,.inr ⟨_,0,#[],rfl,Nat.le_refl _,a05 _ _ _ (by simp),Nat.le_refl _,by unfold maxLen;omega,rfl,rfl⟩⟩
 have HV:=Lib.hid (fun (Wq:World) (hq:Below W.heap.size W Wq)=>hv.below hq)
 have HGD:=Lib.hid hg
 have hs:=hg.ck.s0
 have hs2:=hg.ck.s1
 clear hv hg
 have HOF:=Lib.hid (fun (Wq:World) (hq:Below W.heap.size W Wq) (t:Int) (a : -9007199254740992≤t) (b:t≤9007199254740992)=>roff_calls (HV.out Wq hq) HGD.out a b)
 go_enter Tryz.func61,Tryz.ntmps61
 repeat' ((go_not_at_region 2);(first|go_skip|go_guarded|go_step|go_upon))
 generalize ((W.alloc (.cells #[.int .i64 z.cal.a08,mv,.int .i64 z.cal.a0l,rv,.int .i64 z.start,tv,.int .i64 z.hor,yv] 35)).alloc (.cells #[] 3))=V at *
 have HAR:=Lib.hid (around_calls (HV.out V w2B) HGD.out h0 h1)
 have lV:=a09 o0
 have hsV:W.heap.size+1 < V.heap.size:=(aor.lt (W.heap.size+1) rfl).2
 repeat' ((go_not_at_region 3);(first | (go_at_call 98;((with_reducible refine (HAR.out).mono ?_));rintro e w5 ⟨⟨lv,L,rfl,hiv,hcov,hrng,hlen,hnew⟩,hB5⟩;have hB6:=w2B.trans (hB5.mono w2B.size);have o5:=a0a o0 hB5;have a3p:=a0m aor hB5;dsimp only)|go_skip|go_guarded|go_step|go_upon))
 have HCV:=Lib.hid hcov
 have HRG:=Lib.hid hrng
 have hL0:0 < L.length:=by
  have h:=HCV.out loc (by omega) (by omega)
  cases L with
  | nil=>simp at h
  | cons=>simp
 obtain ⟨oa,oc,rfl,hq⟩:=hiv
 obtain ⟨ob,oo,orow,oT,ofr,rfl,ko5,hcell⟩:=hq hL0
 have hob5:=hnew ob rfl
 have HCE:=Lib.hid hcell
 clear hcov hrng hq hcell hnew HAR o0 aor w2B hB5
 repeat'(first|go_skip|go_guarded|go_step|go_upon)
 go_loopw [5,7] (fun lv iv wr => ∃ (k:Nat) (o:List Int),k≤L.length∧iv=.int .i64 k∧wr.ownsRow (W.heap.size+1) 3 1 lv o.length (a4m o)∧lv.ownBlock≠some ob∧Zn.Fnd z loc L k o∧obj wr W.heap.size=some (.cells #[.int .i64 z.cal.a08,mv,.int .i64 z.cal.a0l,rv,.int .i64 z.start,tv,.int .i64 z.hor,yv] 35 (0,0))∧obj wr ob=some (.cells orow oT ofr)∧Below W.heap.size W wr) (fun _ iv _=>((L.length:Int) - intOf iv).toNat)
 case atStart=>exact ⟨0,[],Nat.zero_le _,rfl,a3p,fun e=>by have e:some (W.heap.size+1)=some ob:=e;injection e with e;omega,Zn.Fnd.nil,o5,ko5,hB6⟩
 case round =>
  clear a3p o5 ko5 hB6
  obtain ⟨k,o,hk,rfl,how,hob,hfn,kz,ko,hB⟩:=hrel
  have HFN:=Lib.hid hfn
  have hol:=hfn.len HGD.out
  have osl:=a3x how
  obtain ⟨la,lc,hlv⟩:=(a2o how).2.2
  subst hlv
  have lz:=a09 kz
  have lo:=a09 ko
  clear hfn
  by_cases hlk:k < L.length
  ·have i1:(k:Int) < (L.length:Int):=by omega
   have ey:=HCE.out k hlk
   have HKP:=Lib.hid (fun h=>HFN.out.keep hlk h)
   have HPT:=Lib.hid (fun h h2=>HFN.out.put hlk h h2)
   have hyr:=HRG.out (L.getD k 0) (by rw [List.getD_eq_getElem?_getD,List.getElem?_eq_getElem hlk];exact List.getElem_mem hlk)
   generalize L.getD k 0=y at *
   have ec:=(a02 ko (oo+k)).trans ey
   have wly:IntKind.wrap .i64 (loc - y)=loc - y:=by rw [wrap_in]<;>omega
   obtain ⟨ov,hov⟩ : ∃ ov,Zn.a2u z (loc - y)=ov:=⟨_,rfl⟩
   have HOF:=Lib.hid (fun (Wq:World) (hq:Below W.heap.size W Wq)=>show Calls Tryz.prog 58 #[.agg #[.int .i64 z.cal.a08,mv,.int .i64 z.cal.a0l,rv,.int .i64 z.start,tv,.int .i64 z.hor,yv],.int .i64 (loc - y)] Wq fun e w'=>e=.returned (.int .i64 ov)∧Below Wq.heap.size Wq w' by rw [← hov];exact HOF.out Wq hq (loc - y) (by omega) (by omega))
   have HIN0:=Lib.hid (fun (Wq:World) (hq:Below wr.heap.size wr Wq)=>in_calls (n:=loc - y) ((a2o how).2.1.below hq) (by omega))
   have HOV:=Lib.hid hov
   clear hov
   repeat' ((go_not_at_region 7);(first|go_skip|go_guarded|go_step|go_upon))
   by_cases hyo:ov=y
   ·have e1:(ov == y)=true:=beq_iff_eq.2 hyo
    by_cases hin:loc - y∈o
    ·have HNX:Hid (Zn.Fnd z loc L (k+1) o):=Lib.hid (HKP.out (.inr hin))
     have HIN:Hid (∀ Wq:World,Below wr.heap.size wr Wq→Calls Tryz.prog 99 #[.slice la o.length lc,.int .i64 (loc - y)] Wq fun e w'=>e=.returned (.bool true)∧Below Wq.heap.size Wq w'):=Lib.hid fun Wq hq=>by have h:=HIN0.out Wq hq;rw [decide_eq_true hin] at h;exact h
     clear HIN0 hin hyo
     refine a0k 14 [([],fun v _=>v=.agg #[.int .i64 z.cal.a08,mv,.int .i64 z.cal.a0l,rv,.int .i64 z.start,tv,.int .i64 z.hor,yv]),
       ([],fun v _=>v=.int .i64 (loc - y)),
       ([0,1],fun v _=>v=.int .i64 ov),
       ([],fun v _=>v=.slice (some ⟨ob,oo,none⟩) L.length oc),
       ([],fun v _=>v=.int .i64 (k:Nat)),
       ([3,4],fun v _=>v=.pointer (some ⟨ob,oo+k,none⟩)),
       ([5],fun v _=>v=.int .i64 y),
       ([2,6],fun v _=>v=.bool true),
       ([7,2],fun v _=>v=.bool true),
       ([8],fun v _=>v=.slice la o.length lc),
       ([8],fun v _=>v=.int .i64 (loc - y)),
       ([9,10,8],fun v _=>v=.bool true),
       ([11,8],fun v _=>v=.bool false),
       ([8,12],fun v _=>v=.bool false)] (by kernel_rfl) (by kernel_rfl) (by kernel_rfl) ?st ?ob ?tl
     case st => intro k v W1 W2 h hb;rcases k with _|_|_|_|_|_|_|_|_|_|_|_|_|_|k<;>first | exact h | trivial
     case ob => refine ⟨?_,?_,?_,?_,?_,?_,?_,?_,?_,?_,?_,?_,?_,?_,trivial⟩<;>(intro vs Wq hW hk;(have q0:=a04 kz hW lz);(have q1:=(a02 (a04 ko hW lo) (oo+k)).trans ey);(try simp only [knows,Spec.at',↓List.getD_cons_succ,↓List.getD_cons_zero,and_true] at hk);simp only [Spec.at',↓List.getD_cons_succ,↓List.getD_cons_zero,a00,a03,yy0,yy1,yy2,yy3];(try simp only [hk]);first | ((repeat'(first|go_skip|go_guarded|go_step|go_upon));exact a01 _ rfl (by go_simp) (Below.refl _ _) rfl) | ((have HX:=Lib.hid (HOF.out Wq (hB.trans (hW.mono hB.size))));(repeat' (first | (go_at_call 58;((with_reducible refine (HX.out).mono ?_));rintro e w9 ⟨rfl,hb9⟩;dsimp only)|go_skip|go_guarded|go_step|go_upon));exact a01 _ rfl (by go_simp) hb9 rfl) | ((have HX:=Lib.hid (HIN.out Wq hW));(repeat' (first | (go_at_call 99;((with_reducible refine (HX.out).mono ?_));rintro e w9 ⟨rfl,hb9⟩;dsimp only)|go_skip|go_guarded|go_step|go_upon));exact a01 _ rfl (by go_simp) hb9 rfl) | fail)
     case tl => intro vs W2 hW2 hk2;have v13:vs 13=.bool false:=hk2 13 (by decide);clear hk2;dsimp only [a1d,List.take,List.drop];simp only [Act.put,List.setIfInBounds_toArray,List.set_cons_succ,List.set_cons_zero];rw [v13];generalize vs 0=e0,vs 1=e1,vs 2=e2,vs 3=e3,vs 4=e4,vs 5=e5,vs 6=e6,vs 7=e7,vs 8=e8,vs 9=e9,vs 10=e10,vs 11=e11,vs 12=e12;clear v13;have how:=a0m how hW2;have kz:=a04 kz hW2 lz;have ko:=a04 ko hW2 lo;have hB:=hB.trans (hW2.mono hB.size);have lz:=a09 kz;have lo:=a09 ko;clear hW2;(repeat'(first|go_skip|go_guarded|go_step|go_upon));exact ⟨⟨k+1,o,by omega,by go_num,how,hob,HNX.out,kz,ko,hB⟩,by simp [intOf];omega⟩
    ·have HNX:Hid (Zn.Fnd z loc L (k+1) (o ++ [loc - y])):=Lib.hid (HPT.out (HOV.out.trans hyo) hin)
     have HIN:Hid (∀ Wq:World,Below wr.heap.size wr Wq→Calls Tryz.prog 99 #[.slice la o.length lc,.int .i64 (loc - y)] Wq fun e w'=>e=.returned (.bool false)∧Below Wq.heap.size Wq w'):=Lib.hid fun Wq hq=>by have h:=HIN0.out Wq hq;rw [decide_eq_false hin] at h;exact h
     clear HIN0 hin hyo
     refine a0k 14 [([],fun v _=>v=.agg #[.int .i64 z.cal.a08,mv,.int .i64 z.cal.a0l,rv,.int .i64 z.start,tv,.int .i64 z.hor,yv]),
       ([],fun v _=>v=.int .i64 (loc - y)),
       ([0,1],fun v _=>v=.int .i64 ov),
       ([],fun v _=>v=.slice (some ⟨ob,oo,none⟩) L.length oc),
       ([],fun v _=>v=.int .i64 (k:Nat)),
       ([3,4],fun v _=>v=.pointer (some ⟨ob,oo+k,none⟩)),
       ([5],fun v _=>v=.int .i64 y),
       ([2,6],fun v _=>v=.bool true),
       ([7,2],fun v _=>v=.bool true),
       ([8],fun v _=>v=.slice la o.length lc),
       ([8],fun v _=>v=.int .i64 (loc - y)),
       ([9,10,8],fun v _=>v=.bool false),
       ([11,8],fun v _=>v=.bool true),
       ([8,12],fun v _=>v=.bool true)] (by kernel_rfl) (by kernel_rfl) (by kernel_rfl) ?st ?ob ?tl
     case st => intro k v W1 W2 h hb;rcases k with _|_|_|_|_|_|_|_|_|_|_|_|_|_|k<;>first | exact h | trivial
     case ob => refine ⟨?_,?_,?_,?_,?_,?_,?_,?_,?_,?_,?_,?_,?_,?_,trivial⟩<;>(intro vs Wq hW hk;(have q0:=a04 kz hW lz);(have q1:=(a02 (a04 ko hW lo) (oo+k)).trans ey);(try simp only [knows,Spec.at',↓List.getD_cons_succ,↓List.getD_cons_zero,and_true] at hk);simp only [Spec.at',↓List.getD_cons_succ,↓List.getD_cons_zero,a00,a03,yy0,yy1,yy2,yy3];(try simp only [hk]);first | ((repeat'(first|go_skip|go_guarded|go_step|go_upon));exact a01 _ rfl (by go_simp) (Below.refl _ _) rfl) | ((have HX:=Lib.hid (HOF.out Wq (hB.trans (hW.mono hB.size))));(repeat' (first | (go_at_call 58;((with_reducible refine (HX.out).mono ?_));rintro e w9 ⟨rfl,hb9⟩;dsimp only)|go_skip|go_guarded|go_step|go_upon));exact a01 _ rfl (by go_simp) hb9 rfl) | ((have HX:=Lib.hid (HIN.out Wq hW));(repeat' (first | (go_at_call 99;((with_reducible refine (HX.out).mono ?_));rintro e w9 ⟨rfl,hb9⟩;dsimp only)|go_skip|go_guarded|go_step|go_upon));exact a01 _ rfl (by go_simp) hb9 rfl) | fail)
     case tl =>
      intro vs W2 hW2 hk2
      have v13:vs 13=.bool true:=hk2 13 (by decide)
      clear hk2
      dsimp only [a1d,List.take,List.drop]
      simp only [Act.put,List.setIfInBounds_toArray,List.set_cons_succ,List.set_cons_zero]
      rw [v13]
      generalize vs 0=e0,vs 1=e1,vs 2=e2,vs 3=e3,vs 4=e4,vs 5=e5,vs 6=e6,vs 7=e7,vs 8=e8,vs 9=e9,vs 10=e10,vs 11=e11,vs 12=e12
      clear v13
      have how:=a0m how hW2
      have kz:=a04 kz hW2 lz
      have ko:=a04 ko hW2 lo
      have hB:=hB.trans (hW2.mono hB.size)
      have lz:=a09 kz
      have lo:=a09 ko
      clear hW2
      have A6:=(Below.refl W2.heap.size W2).alloc (Nat.le_refl _) (.cells #[.int .i64 (loc - y)] 3)
      have ow7:=a0m how A6
      have n6:obj (W2.alloc (.cells #[.int .i64 (loc - y)] 3)) W2.heap.size=some (.cells #[.int .i64 (loc - y)] 3 (0,0)):=a05 _ _ _ rfl
      have nz:=a0a kz A6
      have n8:=a0a ko A6
      have nB:=hB.trans (A6.mono hB.size)
      have nsz:=nB.size
      have nbs:(W.heap.size+1)≤(W2.alloc (.cells #[.int .i64 (loc - y)] 3)).heap.size:=by have h1:=hB.size;have h2:=a09 kz;simp;omega
      repeat' ((fail_if_success (at_builtin));(first|go_skip|go_guarded|go_step|go_upon))
      (at_builtin;(refine a3r rfl _ _ rfl (W.heap.size+1) o.length (.slice la o.length lc) o rfl ow7 W2.heap.size _ rfl n6 (by omega) nbs ?_);intro v5 W5 a3p hg5 hpl;have hg:(W2.alloc (.cells #[.int .i64 (loc - y)] 3)).grownBy W5 (Value.slice la o.length lc).ownBlock:=hg5;clear hg5;have ez:=a19 ow7 nz (by decide) hg;have e8:=ahb n8 hg (fun e=>hob e.symm);have hob5:v5.ownBlock≠some ob:=(fun e=>(hpl.elim (fun h=>hob (h.symm.trans e)) (fun h=>by rw [h] at e;injection e with e;have:=a09 n8;omega)));clear hpl;have eB:=nB.grown hg nsz (fun g q=>by have:=a1p ow7 q;omega);have alk:W5.ownsRow (W.heap.size+1) 3 1 v5 (o.length+1) (a4m (o ++ [(loc - y)])):=(by simpa [a4m] using a3p);obtain ⟨va,vc,hv5⟩:=(a2o alk).2.2;subst hv5;dsimp only)
      repeat'(first|go_skip|go_guarded|go_step|go_upon)
      exact ⟨⟨k+1,o ++ [loc - y],by omega,by go_num,by simpa using alk,hob5,HNX.out,ez,e8,eB⟩,by simp [intOf];omega⟩
   ·have e1:(ov == y)=false:=beq_eq_false_iff_ne.2 hyo
    have HNX:Hid (Zn.Fnd z loc L (k+1) o):=Lib.hid (HKP.out (.inl (by rw [HOV.out];exact hyo)))
    clear HIN0 hyo
    refine a0k 14 [([],fun v _=>v=.agg #[.int .i64 z.cal.a08,mv,.int .i64 z.cal.a0l,rv,.int .i64 z.start,tv,.int .i64 z.hor,yv]),
      ([],fun v _=>v=.int .i64 (loc - y)),
      ([0,1],fun v _=>v=.int .i64 ov),
      ([],fun v _=>v=.slice (some ⟨ob,oo,none⟩) L.length oc),
      ([],fun v _=>v=.int .i64 (k:Nat)),
      ([3,4],fun v _=>v=.pointer (some ⟨ob,oo+k,none⟩)),
      ([5],fun v _=>v=.int .i64 y),
      ([2,6],fun v _=>v=.bool false),
      ([7,2],fun v _=>v=.bool false),
      ([8],fun v _=>v=undef),
      ([8],fun v _=>v=undef),
      ([9,10,8],fun v _=>v=undef),
      ([11,8],fun v _=>v=undef),
      ([8,12],fun v _=>v=.bool false)] (by kernel_rfl) (by kernel_rfl) (by kernel_rfl) ?st ?ob ?tl
    case st => intro k v W1 W2 h hb;rcases k with _|_|_|_|_|_|_|_|_|_|_|_|_|_|k<;>first | exact h | trivial
    case ob => refine ⟨?_,?_,?_,?_,?_,?_,?_,?_,?_,?_,?_,?_,?_,?_,trivial⟩<;>(intro vs Wq hW hk;(have q0:=a04 kz hW lz);(have q1:=(a02 (a04 ko hW lo) (oo+k)).trans ey);(try simp only [knows,Spec.at',↓List.getD_cons_succ,↓List.getD_cons_zero,and_true] at hk);simp only [Spec.at',↓List.getD_cons_succ,↓List.getD_cons_zero,a00,a03,yy0,yy1,yy2,yy3];(try simp only [hk]);first | ((repeat'(first|go_skip|go_guarded|go_step|go_upon));exact a01 _ rfl (by go_simp) (Below.refl _ _) rfl) | ((have HX:=Lib.hid (HOF.out Wq (hB.trans (hW.mono hB.size))));(repeat' (first | (go_at_call 58;((with_reducible refine (HX.out).mono ?_));rintro e w9 ⟨rfl,hb9⟩;dsimp only)|go_skip|go_guarded|go_step|go_upon));exact a01 _ rfl (by go_simp) hb9 rfl) | fail)
    case tl => intro vs W2 hW2 hk2;have v13:vs 13=.bool false:=hk2 13 (by decide);clear hk2;dsimp only [a1d,List.take,List.drop];simp only [Act.put,List.setIfInBounds_toArray,List.set_cons_succ,List.set_cons_zero];rw [v13];generalize vs 0=e0,vs 1=e1,vs 2=e2,vs 3=e3,vs 4=e4,vs 5=e5,vs 6=e6,vs 7=e7,vs 8=e8,vs 9=e9,vs 10=e10,vs 11=e11,vs 12=e12;clear v13;have how:=a0m how hW2;have kz:=a04 kz hW2 lz;have ko:=a04 ko hW2 lo;have hB:=hB.trans (hW2.mono hB.size);have lz:=a09 kz;have lo:=a09 ko;clear hW2;(repeat'(first|go_skip|go_guarded|go_step|go_upon));exact ⟨⟨k+1,o,by omega,by go_num,how,hob,HNX.out,kz,ko,hB⟩,by simp [intOf];omega⟩
  ·have i1 : ¬ (k:Int) < (L.length:Int):=by omega
   obtain rfl:k=L.length:=by omega
   have HDN:=Lib.hid (fun o (h:Zn.Fnd z loc L L.length o) hp=>h.done HGD.out HCV.out hp)
   have hic:=owns_intsC how
   rcases o with _ | ⟨a,_ | ⟨b,_ | ⟨c,o⟩⟩⟩
   ·have HR:Hid (([]:List Int)=(Zn.a2w z loc).1):=Lib.hid (HDN.out _ HFN.out List.Pairwise.nil)
    have hic:a2c wr (.slice la 0 lc) []:=hic
    repeat'(first|go_skip|go_guarded|go_step|go_upon)
    go_quiet (fail)
    have hBq:=below_drewN hB nq
    have hic:=hic.below (below_drewN (Below.refl _ _) nq)
    generalize wr.drewN nq=w7 at *
    repeat'(first|go_skip|go_guarded|go_step|go_upon)
    go_ret
    exact ⟨⟨_,rfl,by rw [← HR.out];exact hic⟩,hBq⟩
   ·have HR:Hid (([a]:List Int)=(Zn.a2w z loc).1):=Lib.hid (HDN.out _ HFN.out (List.pairwise_singleton _ _))
    have hic:a2c wr (.slice la 1 lc) [a]:=hic
    repeat'(first|go_skip|go_guarded|go_step|go_upon)
    go_quiet (fail)
    have hBq:=below_drewN hB nq
    have hic:=hic.below (below_drewN (Below.refl _ _) nq)
    generalize wr.drewN nq=w7 at *
    repeat'(first|go_skip|go_guarded|go_step|go_upon)
    go_ret
    exact ⟨⟨_,rfl,by rw [← HR.out];exact hic⟩,hBq⟩
   ·have hic:a2c wr (.slice la 2 lc) [a,b]:=hic
    obtain ⟨ao,c',hsl,h2⟩:=hic.1
    obtain ⟨bq,oq,row,T,fr,hao,g2,g3⟩:=h2 (by simp)
    subst hao
    injection hsl with hsa _ hsc
    subst hsa hsc
    have r0:row[oq]? = some (.int .i64 a):=g3 0 (by simp)
    have r1:row[oq+1]? = some (.int .i64 b):=g3 1 (by simp)
    have y0:=(a02 g2 oq).trans r0
    have y1:=(a02 g2 (oq+1)).trans r1
    have hab:a≠b:=fun e=>by have:=HFN.out.nd;rw [e] at this;simp at this
    by_cases hlt:b < a
    ·have HR:Hid (([b,a]:List Int)=(Zn.a2w z loc).1):=Lib.hid (HDN.out _ HFN.out.swap (by simp;exact hlt))
     repeat'(first|go_skip|go_guarded|go_step|go_upon)
     go_quiet (fail)
     have hBq:=below_drewN hB nq
     have g2:=a0a g2 (below_drewN (Below.refl wr.heap.size wr) nq)
     have y0:=(a02 g2 oq).trans r0
     have y1:=(a02 g2 (oq+1)).trans r1
     have lg:=a09 g2
     clear hic h2 g3
     generalize wr.drewN nq=w7 at *
     repeat' ((go_not_at_region 10);(first|go_skip|go_guarded|go_step|go_upon))
     refine a0k 7 [([],fun v _=>v=.slice (some ⟨bq,oq,none⟩) 2 lc),
       ([0],fun v _=>v=.pointer (some ⟨bq,oq+1,none⟩)),
       ([1],fun v _=>v=.int .i64 b),
       ([],fun v _=>v=.slice (some ⟨bq,oq,none⟩) 2 lc),
       ([3],fun v _=>v=.pointer (some ⟨bq,oq,none⟩)),
       ([4],fun v _=>v=.int .i64 a),
       ([2,5],fun v W' => ∃ g,v=.slice (some ⟨g,0,none⟩) 2 2∧obj W' g=some (.cells #[.int .i64 b,.int .i64 a] 3 (0,0)))] (by kernel_rfl) (by kernel_rfl) (by kernel_rfl) ?st ?ob ?tl
     case st => intro k v W1 W2 h hb;rcases k with _|_|_|_|_|_|_|k<;>first | exact h | trivial | (obtain ⟨g,h1,h2⟩:=h;exact ⟨g,h1,a0a h2 hb⟩)
     case ob =>
      refine ⟨?_,?_,?_,?_,?_,?_,?_,trivial⟩ <;>
      first
       | (intro vs Wq hW hk;(have q0:=(a02 (a04 g2 hW lg) (oq+1)).trans r1);(have q1:=(a02 (a04 g2 hW lg) oq).trans r0);(try simp only [knows,Spec.at',↓List.getD_cons_succ,↓List.getD_cons_zero,and_true] at hk);simp only [Spec.at',↓List.getD_cons_succ,↓List.getD_cons_zero,a00,a03,yy0,yy1,yy2,yy3];(try simp only [hk]);first | ((repeat'(first|go_skip|go_guarded|go_step|go_upon));exact a01 _ rfl (by go_simp) (Below.refl _ _) rfl) | fail)
       | (
         intro vs Wq hW hk
         have g2:vs 2=.int .i64 b:=hk.1
         have g5:vs 5=.int .i64 a:=hk.2.1
         clear hk
         change wpList _ _ _ _ (a00 _ vs [2,5] _) _
         simp only [a00,a03,yy0,yy1,yy2,yy3]
         rw [g2,g5]
         repeat'(first|go_skip|go_guarded|go_step|go_upon)
         exact a01 (.slice (some ⟨Wq.heap.size,0,none⟩) 2 2) rfl (by go_simp) ((Below.refl _ _).alloc (Nat.le_refl _) _) ⟨_,rfl,a05 _ _ _ rfl⟩)
     case tl => intro vs W2 hW2 hk2;have h6:=hk2 6 (by decide);obtain ⟨g,v6,s6⟩:=h6;clear hk2;dsimp only [a1d,List.take,List.drop];simp only [Act.put,List.setIfInBounds_toArray,List.set_cons_succ,List.set_cons_zero];rw [v6];generalize vs 0=p0,vs 1=p1,vs 2=p2,vs 3=p3,vs 4=p4,vs 5=p5;clear v6;have hB9:=hBq.trans (hW2.mono hBq.size);(repeat'(first|go_skip|go_guarded|go_step|go_upon));go_ret;exact ⟨⟨_,rfl,by rw [← HR.out];exact ⟨⟨_,2,rfl,fun _=>⟨g,0,_,_,_,rfl,s6,fun i hi=>by rcases i with _ | _ | i<;>first | rfl | (simp at hi;omega)⟩⟩,_,2,rfl,Nat.le_refl _⟩⟩,hB9⟩
    ·have HR:Hid (([a,b]:List Int)=(Zn.a2w z loc).1):=Lib.hid (HDN.out _ HFN.out (by simp;omega))
     repeat'(first|go_skip|go_guarded|go_step|go_upon)
     go_quiet (fail)
     have hBq:=below_drewN hB nq
     have hic:=hic.below (below_drewN (Below.refl _ _) nq)
     generalize wr.drewN nq=w7 at *
     repeat'(first|go_skip|go_guarded|go_step|go_upon)
     go_ret
     exact ⟨⟨_,rfl,by rw [← HR.out];exact hic⟩,hBq⟩
   ·exfalso;simp at hol
end Go.Proofs.YtppjleebbjipbaaGreat
namespace Zn
theorem gap_past {z:a0w} (hg:Good z) {loc s:Int} {x:Tr} (h:acr z loc x) (hs:x.tm≤s):loc < s+a2u z s:=by
 obtain ⟨h1,h2,h3⟩:=h
 have e0:a2u z x.tm=x.off:=a4b (a8a hg h1)
 rcases aab hg hs with e | ⟨y,hy,h4,h5⟩
 ·omega
 ·have:=a3n hg h1 hy h4
  have:=a2a hg s
  have:=a2a hg x.tm
  omega
end Zn
namespace Go.Proofs.YtppjleebbjipbaaGreat
open Go.RowKit Go.Shelf
set_option maxRecDepth 20000
set_option maxHeartbeats 8000000
theorem edge_calls {W:World} {z:Zn.a0w} {mv rv tv yv:Value} (hv:a1q W z mv rv tv yv) (hg:Zn.Good z) {loc:Int} (h0 : -2251799813685248≤loc) (h1:loc≤2251799813685248) {x0:Zn.Tr} (hx0:Zn.acr z loc x0) :
  Calls Tryz.prog 63 #[.agg #[.int .i64 z.cal.a08,mv,.int .i64 z.cal.a0l,rv,.int .i64 z.start,tv,.int .i64 z.hor,yv],.int .i64 loc] W fun e w'=>e=.returned (.tuple #[.int .i64 x0.tm,.int .i64 (Zn.a2u z (x0.tm - 1))])∧Below W.heap.size W w':=by
 have hon:ones #[.int .i64 z.cal.a08,mv,.int .i64 z.cal.a0l,rv,.int .i64 z.start,tv,.int .i64 z.hor,yv]=true:=a1b hv.cal.mon.one hv.cal.rul.one (a1m.one hv.tr) (a1m.one hv.yr)
 have o0:obj (W.alloc (.cells #[.int .i64 z.cal.a08,mv,.int .i64 z.cal.a0l,rv,.int .i64 z.start,tv,.int .i64 z.hor,yv] 35)) W.heap.size=some (.cells #[.int .i64 z.cal.a08,mv,.int .i64 z.cal.a0l,rv,.int .i64 z.start,tv,.int .i64 z.hor,yv] 35 (0,0)):=a05 _ _ _ rfl
 have w1B:Below W.heap.size W (W.alloc (.cells #[.int .i64 z.cal.a08,mv,.int .i64 z.cal.a0l,rv,.int .i64 z.start,tv,.int .i64 z.hor,yv] 35)):=(Below.refl _ _).alloc (Nat.le_refl _) _
 have HV:=Lib.hid (fun (Wq:World) (hq:Below W.heap.size W Wq)=>hv.below hq)
 have HGD:=Lib.hid hg
 have HX0:=Lib.hid hx0
 have hx1:=hx0.2.1
 have hx2:=hx0.2.2
 have hoa:=Zn.a2a hg (x0.tm - 1)
 have hob : -1080≤x0.off∧x0.off≤1080:=by have:=Zn.a2a hg x0.tm;rw [Zn.a4b (Zn.a8a hg hx0.1)] at this;exact this
 have wl1:IntKind.wrap .i64 (loc+1080)=loc+1080:=by rw [wrap_in]<;>omega
 clear hv hg hx0
 go_enter Tryz.func63,Tryz.ntmps63
 repeat' ((go_not_at_region 1);(first|go_skip|go_guarded|go_step|go_upon))
 generalize (W.alloc (.cells #[.int .i64 z.cal.a08,mv,.int .i64 z.cal.a0l,rv,.int .i64 z.start,tv,.int .i64 z.hor,yv] 35))=V at *
 repeat'(first|go_skip|go_guarded|go_step|go_upon)
 go_loopw [6] (fun tq wr => ∃ t:Int,tq=.int .i64 t∧x0.tm≤t∧t≤loc+1080∧obj wr W.heap.size=some (.cells #[.int .i64 z.cal.a08,mv,.int .i64 z.cal.a0l,rv,.int .i64 z.start,tv,.int .i64 z.hor,yv] 35 (0,0))∧Below W.heap.size W wr) (fun tq _=>(intOf tq - (loc - 1090)).toNat)
 case atStart=>exact ⟨loc+1080,rfl,by omega,by omega,o0,w1B⟩
 case round =>
  clear o0 w1B
  obtain ⟨t,rfl,ht0,ht1,kz,hB⟩:=hrel
  have HLA:=Lib.hid (rlast_calls (HV.out wr hB) HGD.out (t:=t) (by omega) (by omega))
  obtain ⟨x,hx,hxi,hxt,hxm⟩ : ∃ x,Zn.ab1 z t=some x∧Zn.IsT z x∧x.tm≤t∧∀ y,Zn.IsT z y→y.tm≤t→y.tm≤x.tm:=by
   rcases Zn.a3u HGD.out t with ⟨_,h⟩ | h
   ·have:=h x0 HX0.out.1;omega
   ·exact h
  have HLA:Hid (Calls Tryz.prog 97 #[.agg #[.int .i64 z.cal.a08,mv,.int .i64 z.cal.a0l,rv,.int .i64 z.start,tv,.int .i64 z.hor,yv],.int .i64 t] wr fun e w'=>e=.returned (.tuple #[.agg #[.int .i64 x.tm,.int .i64 x.off],.bool true])∧Below wr.heap.size wr w'):=by rw [hx] at HLA;exact HLA
  have honx:ones #[.int .i64 x.tm,.int .i64 x.off]=true:=by simp [ones,a0n]
  have hge:=hxm x0 HX0.out.1 ht0
  have HEQ:Hid (x0.tm=x.tm→x0=x):=Lib.hid (fun h=>Zn.aj0 HGD.out HX0.out.1 hxi h)
  have HPA:Hid (x0.tm≤x.tm - 1→loc < x.tm - 1+Zn.a2u z (x.tm - 1)):=Lib.hid (fun h=>Zn.gap_past HGD.out HX0.out h)
  have ho:=Zn.a2a HGD.out (x.tm - 1)
  have HOB:=Lib.hid (fun (Wq:World) (hq:Below W.heap.size W Wq)=>roff_calls (HV.out Wq hq) HGD.out (t:=x.tm - 1) (by omega) (by omega))
  obtain ⟨o,hoe⟩ : ∃ o,Zn.a2u z (x.tm - 1)=o:=⟨_,rfl⟩
  have HOE:=Lib.hid hoe
  rw [hoe] at ho HPA HOB
  have wx1:IntKind.wrap .i64 (x.tm - 1)=x.tm - 1:=by rw [wrap_in]<;>omega
  have wxo:IntKind.wrap .i64 (x.tm+o)=x.tm+o:=by rw [wrap_in]<;>omega
  clear hx hxm hxi hoe
  repeat' ((go_not_at_region 3);(first | (go_at_call 97;((with_reducible refine (HLA.out).mono ?_));rintro e w5 ⟨rfl,an1⟩;dsimp only)|go_skip|go_guarded|go_step|go_upon))
  have dB5:=hB.trans (an1.mono hB.size)
  have A5:=(Below.refl w5.heap.size w5).alloc (Nat.le_refl _) (.cells #[.int .i64 x.tm,.int .i64 x.off] 57)
  have dB:=dB5.trans (A5.mono dB5.size)
  have d8:obj (w5.alloc (.cells #[.int .i64 x.tm,.int .i64 x.off] 57)) w5.heap.size=some (.cells #[.int .i64 x.tm,.int .i64 x.off] 57 (0,0)):=a05 _ _ _ rfl
  have kz6:=a0a (a0a kz an1) A5
  generalize (w5.alloc (.cells #[.int .i64 x.tm,.int .i64 x.off] 57))=w6 at *
  generalize w5.heap.size=b8 at *
  have c80:=a02 d8 0
  have HOB:=Lib.hid (HOB.out w6 dB)
  clear kz hB an1 dB5 A5 HLA
  repeat' ((go_not_at_region 4);(first | (go_at_call 58;((with_reducible refine (HOB.out).mono ?_));rintro e w7 ⟨rfl,hb7⟩;dsimp only)|go_skip|go_guarded|go_step|go_upon))
  have d9:=a0a d8 hb7
  have kz7:=a0a kz6 hb7
  have dB7:=dB.trans (hb7.mono dB.size)
  have c90:=a02 d9 0
  clear d8 kz6 dB c80 hb7
  by_cases hle:x.tm+o≤loc
  ·have HE:Hid (x0=x):=Lib.hid (HEQ.out (by
    rcases Int.lt_or_le x0.tm x.tm with h | h
    ·have:=HPA.out (by omega);omega
    ·omega))
   repeat'(first|go_skip|go_guarded|go_step|go_upon)
   go_returns
   exact ⟨by rw [HE.out,HOE.out];rfl,dB7⟩
  ·have hlt:x0.tm≠x.tm:=fun h=>by have e:=HEQ.out h;have:=hx1;rw [e,HOE.out] at this;omega
   repeat'(first|go_skip|go_guarded|go_step|go_upon)
   exact ⟨⟨x.tm - 1,rfl,by omega,by omega,kz7,dB7⟩,by simp only [intOf];omega⟩
theorem kind_calls (W:World) {n:Nat} (h:n≤2):Calls Tryz.prog 60 #[.int .i64 (n:Nat)] W fun e w'=>e=.returned (.int .i64 (([1,0,2]:List Int).getD n 0))∧W=w':=by
 go_enter Tryz.func60,Tryz.ntmps60
 rcases (show n=0∨n=1∨n=2 by omega) with rfl | rfl | rfl
 all_goals
  repeat'(first|go_skip|go_guarded|go_step|go_upon)
  go_ret
  exact ⟨rfl,rfl⟩
theorem rKind_calls {W:World} {z:Zn.a0w} {mv rv tv yv:Value} (hv:a1q W z mv rv tv yv) (hzr:z.cal.rules.length < 9223372036854775808) (hzm:z.cal.a0g.length < 9223372036854775808) (loc:Int) :
  Calls Tryz.prog 23 #[.agg #[.int .i64 z.cal.a08,mv,.int .i64 z.cal.a0l,rv,.int .i64 z.start,tv,.int .i64 z.hor,yv],.int .i64 loc] W fun e w'=>e=.returned (.tuple #[.int .i64 (Zn.a6i z loc).1,.int .i64 (Zn.a6i z loc).2])∧Below W.heap.size W w':=by
 have hon:ones #[.int .i64 z.cal.a08,mv,.int .i64 z.cal.a0l,rv,.int .i64 z.start,tv,.int .i64 z.hor,yv]=true:=a1b hv.cal.mon.one hv.cal.rul.one (a1m.one hv.tr) (a1m.one hv.yr)
 have o0:obj (W.alloc (.cells #[.int .i64 z.cal.a08,mv,.int .i64 z.cal.a0l,rv,.int .i64 z.start,tv,.int .i64 z.hor,yv] 35)) W.heap.size=some (.cells #[.int .i64 z.cal.a08,mv,.int .i64 z.cal.a0l,rv,.int .i64 z.start,tv,.int .i64 z.hor,yv] 35 (0,0)):=a05 _ _ _ rfl
 have w1B:Below W.heap.size W (W.alloc (.cells #[.int .i64 z.cal.a08,mv,.int .i64 z.cal.a0l,rv,.int .i64 z.start,tv,.int .i64 z.hor,yv] 35)):=(Below.refl _ _).alloc (Nat.le_refl _) _
 have HV:=Lib.hid (fun (Wq:World) (hq:Below W.heap.size W Wq)=>hv.below hq)
 have HX:=Lib.hid (ae9 (hv.below w1B) hzr hzm)
 have HWI:=Lib.hid (fun Wq:World=>a2e (W:=Wq) (n:=loc) (l:=2251799813684168) (by omega) (by omega))
 clear hv
 go_enter Tryz.func23,Tryz.ntmps23
 cases hgb:Zn.a3o z with
 | false =>
  have HR:Hid (Zn.a6i z loc=(0,1)):=Lib.hid (by unfold Zn.a6i;rw [if_neg (fun h=>by rw [hgb] at h;cases h.1)])
  obtain ⟨ve,hve⟩ : ∃ ve,ve=Zn.a2l z:=⟨_,rfl⟩
  have hne:(ve != 0)=true:=by rw [hve];unfold Zn.a2l;split;rfl;rw [if_neg (by rw [hgb];decide)];rfl
  rw [← hve] at HX
  clear hve hgb
  repeat' (first | (go_at_call 29;((with_reducible refine (HX.out).mono ?_));rintro e w5 ⟨rfl,hB5⟩;have hB6:=w1B.trans (hB5.mono w1B.size);have o5:=a0a o0 hB5;dsimp only)|go_skip|go_guarded|go_step|go_upon)
  go_returns
  exact ⟨by rw [HR.out];rfl,hB6⟩
 | true =>
  have hgd:=Zn.a0v.1 hgb
  have HVE:Zn.a2l z=0:=by unfold Zn.a2l;rw [if_neg (by have:=hgd.a.hd.t;omega),if_pos hgb]
  rw [HVE] at HX
  clear HVE
  by_cases hw : -2251799813684168≤loc∧loc≤2251799813684168
  case neg => have HR:Hid (Zn.a6i z loc=(0,1)):=Lib.hid (by unfold Zn.a6i;rw [if_neg (fun h=>hw h.2)]);rw [decide_eq_false hw] at HWI;clear hgb;(repeat' (first | (go_at_call 29;((with_reducible refine (HX.out).mono ?_));rintro e w5 ⟨rfl,hB5⟩;have hB6:=w1B.trans (hB5.mono w1B.size);have o5:=a0a o0 hB5;dsimp only) | (go_at_call 57;((with_reducible refine (HWI.out _).mono ?_));rintro e w6 ⟨rfl,rfl⟩;dsimp only)|go_skip|go_guarded|go_step|go_upon));go_returns;exact ⟨by rw [HR.out];rfl,hB6⟩
  rw [decide_eq_true hw] at HWI
  have HR:Hid (Zn.a6i z loc=(([1,0,2]:List Int).getD (Zn.a2w z loc).1.length 0,0)):=Lib.hid (by unfold Zn.a6i;rw [if_pos ⟨hgb,hw⟩])
  have HEX:=Lib.hid (fun (Wq:World) (hq:Below W.heap.size W Wq)=>exact_calls (HV.out Wq hq) hgd (loc:=loc) (by omega) (by omega))
  have HKN:=Lib.hid (fun Wq:World=>kind_calls Wq (Zn.a9k hgd loc))
  clear hgb
  repeat' (first | (go_at_call 29;((with_reducible refine (HX.out).mono ?_));rintro e w5 ⟨rfl,hB5⟩;have hB6:=w1B.trans (hB5.mono w1B.size);have o5:=a0a o0 hB5;dsimp only) | (go_at_call 57;((with_reducible refine (HWI.out _).mono ?_));rintro e w6 ⟨rfl,rfl⟩;dsimp only) | (go_at_call 61;((with_reducible refine (HEX.out _ hB6).mono ?_));rintro e w7 ⟨⟨v7,rfl,hic⟩,hB7⟩;have hB8:=hB6.trans (hB7.mono hB6.size);have o7:=a0a o5 hB7;obtain ⟨va,vc,hve,hvc⟩:=hic.2;subst hve;dsimp only) | (go_at_call 60;((with_reducible refine (HKN.out _).mono ?_));rintro e w8 ⟨rfl,rfl⟩;dsimp only)|go_skip|go_guarded|go_step|go_upon)
  go_returns
  exact ⟨by rw [HR.out];rfl,hB8⟩
theorem rInstants_calls {W:World} {z:Zn.a0w} {mv rv tv yv:Value} (hv:a1q W z mv rv tv yv) (hzr:z.cal.rules.length < 9223372036854775808) (hzm:z.cal.a0g.length < 9223372036854775808) (loc gap fold:Int) :
  Calls Tryz.prog 25 #[.agg #[.int .i64 z.cal.a08,mv,.int .i64 z.cal.a0l,rv,.int .i64 z.start,tv,.int .i64 z.hor,yv],.int .i64 loc,.int .i64 gap,.int .i64 fold] W fun e w'=>(∃ v,e=.returned (.tuple #[v,.int .i64 (Zn.a4x z loc gap fold).2])∧a2c w' v (Zn.a4x z loc gap fold).1)∧Below W.heap.size W w':=by
 have hon:ones #[.int .i64 z.cal.a08,mv,.int .i64 z.cal.a0l,rv,.int .i64 z.start,tv,.int .i64 z.hor,yv]=true:=a1b hv.cal.mon.one hv.cal.rul.one (a1m.one hv.tr) (a1m.one hv.yr)
 have o0:obj (W.alloc (.cells #[.int .i64 z.cal.a08,mv,.int .i64 z.cal.a0l,rv,.int .i64 z.start,tv,.int .i64 z.hor,yv] 35)) W.heap.size=some (.cells #[.int .i64 z.cal.a08,mv,.int .i64 z.cal.a0l,rv,.int .i64 z.start,tv,.int .i64 z.hor,yv] 35 (0,0)):=a05 _ _ _ rfl
 have w1B:Below W.heap.size W (W.alloc (.cells #[.int .i64 z.cal.a08,mv,.int .i64 z.cal.a0l,rv,.int .i64 z.start,tv,.int .i64 z.hor,yv] 35)):=(Below.refl _ _).alloc (Nat.le_refl _) _
 have HV:=Lib.hid (fun (Wq:World) (hq:Below W.heap.size W Wq)=>hv.below hq)
 have HX:=Lib.hid (ae9 (hv.below w1B) hzr hzm)
 have HWI:=Lib.hid (fun Wq:World=>a2e (W:=Wq) (n:=loc) (l:=2251799813684168) (by omega) (by omega))
 clear hv
 go_enter Tryz.func25,Tryz.ntmps25
 cases hgb:Zn.a3o z with
 | false =>
  have HR:Hid (Zn.a4x z loc gap fold=([],1)):=Lib.hid (by unfold Zn.a4x;rw [if_neg (fun h=>by rw [hgb] at h;cases h.1)])
  obtain ⟨ve,hve⟩ : ∃ ve,ve=Zn.a2l z:=⟨_,rfl⟩
  have hne:(ve != 0)=true:=by rw [hve];unfold Zn.a2l;split;rfl;rw [if_neg (by rw [hgb];decide)];rfl
  rw [← hve] at HX
  clear hve hgb
  repeat' (first | (go_at_call 29;((with_reducible refine (HX.out).mono ?_));rintro e w5 ⟨rfl,hB5⟩;have hB6:=w1B.trans (hB5.mono w1B.size);have o5:=a0a o0 hB5;dsimp only)|go_skip|go_guarded|go_step|go_upon)
  go_returns
  exact ⟨⟨_,by rw [HR.out];rfl,by rw [HR.out];exact a2c.nil _⟩,hB6⟩
 | true =>
  have hgd:=Zn.a0v.1 hgb
  have HVE:Zn.a2l z=0:=by unfold Zn.a2l;rw [if_neg (by have:=hgd.a.hd.t;omega),if_pos hgb]
  rw [HVE] at HX
  clear HVE
  by_cases hw : -2251799813684168≤loc∧loc≤2251799813684168
  case neg => have HR:Hid (Zn.a4x z loc gap fold=([],1)):=Lib.hid (by unfold Zn.a4x;rw [if_neg (fun h=>hw h.2.1)]);rw [decide_eq_false hw] at HWI;clear hgb;(repeat' (first | (go_at_call 29;((with_reducible refine (HX.out).mono ?_));rintro e w5 ⟨rfl,hB5⟩;have hB6:=w1B.trans (hB5.mono w1B.size);have o5:=a0a o0 hB5;dsimp only) | (go_at_call 57;((with_reducible refine (HWI.out _).mono ?_));rintro e w6 ⟨rfl,rfl⟩;dsimp only)|go_skip|go_guarded|go_step|go_upon));go_returns;exact ⟨⟨_,by rw [HR.out];rfl,by rw [HR.out];exact a2c.nil _⟩,hB6⟩
  rw [decide_eq_true hw] at HWI
  by_cases g0:0≤gap
  case neg =>
   have HR:Hid (Zn.a4x z loc gap fold=([],1)):=Lib.hid (by unfold Zn.a4x;rw [if_neg (fun h=>g0 h.2.2.1)])
   have g0':gap < 0:=by omega
   clear hgb
   repeat' (first | (go_at_call 29;((with_reducible refine (HX.out).mono ?_));rintro e w5 ⟨rfl,hB5⟩;have hB6:=w1B.trans (hB5.mono w1B.size);have o5:=a0a o0 hB5;dsimp only) | (go_at_call 57;((with_reducible refine (HWI.out _).mono ?_));rintro e w6 ⟨rfl,rfl⟩;dsimp only)|go_skip|go_guarded|go_step|go_upon)
   go_returns
   exact ⟨⟨_,by rw [HR.out];rfl,by rw [HR.out];exact a2c.nil _⟩,hB6⟩
  have g0' : ¬ gap < 0:=by omega
  by_cases g1:gap≤2
  case neg =>
   have HR:Hid (Zn.a4x z loc gap fold=([],1)):=Lib.hid (by unfold Zn.a4x;rw [if_neg (fun h=>g1 h.2.2.2.1)])
   have g1':2 < gap:=by omega
   clear hgb
   repeat' (first | (go_at_call 29;((with_reducible refine (HX.out).mono ?_));rintro e w5 ⟨rfl,hB5⟩;have hB6:=w1B.trans (hB5.mono w1B.size);have o5:=a0a o0 hB5;dsimp only) | (go_at_call 57;((with_reducible refine (HWI.out _).mono ?_));rintro e w6 ⟨rfl,rfl⟩;dsimp only)|go_skip|go_guarded|go_step|go_upon)
   go_returns
   exact ⟨⟨_,by rw [HR.out];rfl,by rw [HR.out];exact a2c.nil _⟩,hB6⟩
  have g1' : ¬ 2 < gap:=by omega
  by_cases f0:0≤fold
  case neg =>
   have HR:Hid (Zn.a4x z loc gap fold=([],1)):=Lib.hid (by unfold Zn.a4x;rw [if_neg (fun h=>f0 h.2.2.2.2.1)])
   have f0':fold < 0:=by omega
   clear hgb
   repeat' (first | (go_at_call 29;((with_reducible refine (HX.out).mono ?_));rintro e w5 ⟨rfl,hB5⟩;have hB6:=w1B.trans (hB5.mono w1B.size);have o5:=a0a o0 hB5;dsimp only) | (go_at_call 57;((with_reducible refine (HWI.out _).mono ?_));rintro e w6 ⟨rfl,rfl⟩;dsimp only)|go_skip|go_guarded|go_step|go_upon)
   go_returns
   exact ⟨⟨_,by rw [HR.out];rfl,by rw [HR.out];exact a2c.nil _⟩,hB6⟩
  have f0' : ¬ fold < 0:=by omega
  by_cases f1:fold≤2
  case neg =>
   have HR:Hid (Zn.a4x z loc gap fold=([],1)):=Lib.hid (by unfold Zn.a4x;rw [if_neg (fun h=>f1 h.2.2.2.2.2)])
   have f1':2 < fold:=by omega
   clear hgb
   repeat' (first | (go_at_call 29;((with_reducible refine (HX.out).mono ?_));rintro e w5 ⟨rfl,hB5⟩;have hB6:=w1B.trans (hB5.mono w1B.size);have o5:=a0a o0 hB5;dsimp only) | (go_at_call 57;((with_reducible refine (HWI.out _).mono ?_));rintro e w6 ⟨rfl,rfl⟩;dsimp only)|go_skip|go_guarded|go_step|go_upon)
   go_returns
   exact ⟨⟨_,by rw [HR.out];rfl,by rw [HR.out];exact a2c.nil _⟩,hB6⟩
  have f1' : ¬ 2 < fold:=by omega
  have HR:Hid (Zn.a4x z loc gap fold=(Zn.agw (Zn.a2w z loc) loc gap fold,0)):=Lib.hid (by unfold Zn.a4x;rw [if_pos ⟨hgb,hw,g0,g1,f0,f1⟩])
  have HEX:=Lib.hid (fun (Wq:World) (hq:Below W.heap.size W Wq)=>exact_calls (HV.out Wq hq) hgd (loc:=loc) (by omega) (by omega))
  have HGD:=Lib.hid hgd
  clear hgb
  repeat' ((go_not_at_region 4);(first | (go_at_call 29;((with_reducible refine (HX.out).mono ?_));rintro e w5 ⟨rfl,hB5⟩;have hB6:=w1B.trans (hB5.mono w1B.size);have o5:=a0a o0 hB5;dsimp only) | (go_at_call 57;((with_reducible refine (HWI.out _).mono ?_));rintro e w6 ⟨rfl,rfl⟩;dsimp only) | (go_at_call 61;((with_reducible refine (HEX.out _ hB6).mono ?_));rintro e w7 ⟨⟨v7,rfl,hic⟩,hB7⟩;have hB8:=hB6.trans (hB7.mono hB6.size);have o7:=a0a o5 hB7;obtain ⟨va,vc,hve,hvc⟩:=hic.2;subst hve;dsimp only)|go_skip|go_guarded|go_step|go_upon))
  clear o5 hB6 HEX HX
  rcases Zn.a4o hgd loc with ⟨hL,x,hx,h2,h3⟩ | ⟨a,hL,_⟩ | ⟨a,b,hL,_⟩
  ·have hvl:(Zn.a2w z loc).1.length=0:=by rw [hL];rfl
   rw [hL] at hic
   have hic:a2c w7 (.slice va 0 vc) []:=hic
   rw [hvl]
   have hxr:=hx.2
   rcases (show gap=0∨gap=1∨gap=2 by omega) with rfl | rfl | rfl
   ·have HRL:Hid (Zn.agw (Zn.a2w z loc) loc 0 fold = []):=Lib.hid (by unfold Zn.agw;rw [if_pos hL,if_pos rfl])
    repeat'(first|go_skip|go_guarded|go_step|go_upon)
    go_returns
    exact ⟨⟨_,by rw [HR.out];rfl,by rw [HR.out];dsimp only;rw [HRL.out];exact hic⟩,hB8⟩
   ·have HRL:Hid (Zn.agw (Zn.a2w z loc) loc 1 fold = [loc - Zn.a2u z (x.tm - 1)]):=Lib.hid (by unfold Zn.agw;rw [if_pos hL,if_neg (by omega),if_pos rfl,h3])
    have HED:=Lib.hid (edge_calls (HV.out w7 hB8) HGD.out (loc:=loc) (by omega) (by omega) hx)
    have hob:=Zn.a2a HGD.out (x.tm - 1)
    clear hx h2 h3 hxr hL hvl
    generalize Zn.a2u z (x.tm - 1)=o at *
    have wlo:IntKind.wrap .i64 (loc - o)=loc - o:=by rw [wrap_in]<;>omega
    repeat' (first | (go_at_call 63;((with_reducible refine (HED.out).mono ?_));rintro e w9 ⟨rfl,hB9⟩;have an3:=hB8.trans (hB9.mono hB8.size);dsimp only)|go_skip|go_guarded|go_step|go_upon)
    go_returns
    exact ⟨⟨_,by rw [HR.out];rfl,by rw [HR.out];dsimp only;rw [HRL.out];exact a2c.one _ _⟩,an3.alloc an3.size _⟩
   ·have HRL:Hid (Zn.agw (Zn.a2w z loc) loc 2 fold = [x.tm]):=Lib.hid (by unfold Zn.agw;rw [if_pos hL,if_neg (by omega),if_neg (by omega),h2])
    have HED:=Lib.hid (edge_calls (HV.out w7 hB8) HGD.out (loc:=loc) (by omega) (by omega) hx)
    clear hx h2 h3 hxr hL hvl
    repeat' (first | (go_at_call 63;((with_reducible refine (HED.out).mono ?_));rintro e w9 ⟨rfl,hB9⟩;have an3:=hB8.trans (hB9.mono hB8.size);dsimp only)|go_skip|go_guarded|go_step|go_upon)
    go_returns
    exact ⟨⟨_,by rw [HR.out];rfl,by rw [HR.out];dsimp only;rw [HRL.out];exact a2c.one _ _⟩,an3.alloc an3.size _⟩
  ·have hvl:(Zn.a2w z loc).1.length=1:=by rw [hL];rfl
   rw [hL] at hic
   have hic:a2c w7 (.slice va 1 vc) [a]:=hic
   rw [hvl]
   have HRL:Hid (Zn.agw (Zn.a2w z loc) loc gap fold = [a]):=Lib.hid (by unfold Zn.agw;rw [hL,if_neg (by simp)];split;rfl;split;rfl;rfl)
   clear hL hvl
   repeat'(first|go_skip|go_guarded|go_step|go_upon)
   go_returns
   exact ⟨⟨_,by rw [HR.out];rfl,by rw [HR.out];dsimp only;rw [HRL.out];exact hic⟩,hB8⟩
  ·have hvl:(Zn.a2w z loc).1.length=2:=by rw [hL];rfl
   rw [hL] at hic
   have hic:a2c w7 (.slice va 2 vc) [a,b]:=hic
   rw [hvl]
   obtain ⟨bq,oq,cq,hsl,hcl⟩:=ints_cells2 hic (by simp)
   have y0:w7.cell? ⟨bq,oq+0,none⟩=some (.int .i64 a):=hcl 0 (by simp)
   have y1:w7.cell? ⟨bq,oq+1,none⟩=some (.int .i64 b):=hcl 1 (by simp)
   rw [Nat.add_zero] at y0
   injection hsl with hsa _ hsc
   subst hsa hsc
   rcases (show fold=0∨fold=1∨fold=2 by omega) with rfl | rfl | rfl
   ·have HRL:Hid (Zn.agw (Zn.a2w z loc) loc gap 0 = [a]):=Lib.hid (by unfold Zn.agw;rw [hL,if_neg (by simp),if_pos rfl];rfl)
    clear hL hvl
    repeat'(first|go_skip|go_guarded|go_step|go_upon)
    go_returns
    exact ⟨⟨_,by rw [HR.out];rfl,by rw [HR.out];dsimp only;rw [HRL.out];exact a2c.one _ _⟩,hB8.alloc hB8.size _⟩
   ·have HRL:Hid (Zn.agw (Zn.a2w z loc) loc gap 1 = [b]):=Lib.hid (by unfold Zn.agw;rw [hL,if_neg (by simp),if_neg (by omega),if_pos rfl];rfl)
    clear hL hvl
    repeat'(first|go_skip|go_guarded|go_step|go_upon)
    go_returns
    exact ⟨⟨_,by rw [HR.out];rfl,by rw [HR.out];dsimp only;rw [HRL.out];exact a2c.one _ _⟩,hB8.alloc hB8.size _⟩
   ·have HRL:Hid (Zn.agw (Zn.a2w z loc) loc gap 2 = [a,b]):=Lib.hid (by unfold Zn.agw;rw [hL,if_neg (by simp),if_neg (by omega),if_neg (by omega)])
    clear hL hvl
    repeat'(first|go_skip|go_guarded|go_step|go_upon)
    go_returns
    exact ⟨⟨_,by rw [HR.out];rfl,by rw [HR.out];dsimp only;rw [HRL.out];exact hic⟩,hB8⟩
end Go.Proofs.YtppjleebbjipbaaGreat
