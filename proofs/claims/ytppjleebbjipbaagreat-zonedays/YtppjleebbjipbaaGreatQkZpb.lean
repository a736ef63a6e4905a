/-
  The transitions of a valid zone as a set; the last one at or before an instant.
-/
import Derived.Test.YtppjleebbjipbaaGreatQkZsi
set_option linter.all false
namespace Zn
theorem a7j:∀ (l:List Tr) (t:Int) (a:Option Tr),l.Pairwise (fun a b=>a.tm < b.tm) →
  (a4i l t a=a∧∀ y∈l,t < y.tm)∨∃ x∈l,a4i l t a=some x∧x.tm≤t∧∀ y∈l,y.tm≤t→y.tm≤x.tm
 | [],t,a,_=>.inl ⟨rfl,fun _ h=>by cases h⟩
 | x :: xs,t,a,h=>by
  have hc:=wM.1 h
  unfold a4i
  split
  ·rename_i hx
   rcases a7j xs t (some x) hc.2 with ⟨h1,h2⟩ | ⟨y,hy,h1,h2,h3⟩
   ·refine .inr ⟨x,yV,h1,hx,fun y hy hyt=>?_⟩
    rcases yN.1 hy with rfl | hy
    ·exact yR _
    ·have:=h2 y hy;omega
   ·refine .inr ⟨y,yY _ hy,h1,h2,fun u hu hut=>?_⟩
    rcases yN.1 hu with rfl | hu
    ·have:=hc.1 y hy;omega
    ·exact h3 u hu hut
  ·rename_i hx
   refine .inl ⟨rfl,fun y hy=>?_⟩
   rcases yN.1 hy with rfl | hy
   ·omega
   ·have:=hc.1 y hy;omega
theorem aa6 {l:List Tr} (h:∀ i j,i < j→j < l.length→(l.getD i default).tm < (l.getD j default).tm):l.Pairwise fun a b=>a.tm < b.tm:=by
 rw [wH]
 intro i j hi hj hij
 have:=h i j hij hj
 rwa [getD_at hi,getD_at hj] at this
def IsT (z:a0w) (x:Tr):Prop:=x∈z.trans∨∃ i,i < (ysT z).length∧∃ k:Nat,x=⟨((ysT z).getD i default).tm+(k:Int) * (a0s z * 1440),((ysT z).getD i default).off⟩∧z.hor≤x.tm
theorem ahj {z:a0w} (hg:Good z) {i k:Nat} (hi:i < (ysT z).length) (hk:z.hor≤((ysT z).getD i default).tm+(k:Int) * (a0s z * 1440)) :
  ∃ x,a2s z (ysT z) (a0s z) z.hor 0=some x∧x.tm≤((ysT z).getD i default).tm+(k:Int) * (a0s z * 1440):=by
 have hck:=hg.ck
 have hA:a3w z z.hor = []:=by
  unfold a3w
  rw [List.filter_eq_nil_iff]
  intro y hy
  obtain ⟨q,hq,rfl⟩:=zY.1 hy
  have:=(hg.a.tr q hq).h
  rw [getD_at hq] at this
  simp;omega
 have hmx:a5l z.hor z.hor=z.hor:=by unfold a5l;split<;>rfl
 have hP:0 < a0s z * 1440:=by have:=hck.c0;omega
 refine ⟨_,by unfold a2s;rw [hA,zS (by simp),zS (by omega)],?_⟩
 rw [hmx,xI,Nat.zero_sub,uG]
 obtain ⟨r,hr⟩ : ∃ r,r=turns ((ysT z).getD 0 default).tm z.hor (a0s z):=⟨_,rfl⟩
 have hl:=a9v (y0:=((ysT z).getD 0 default).tm) (t:=z.hor) hck.c0
 have hn:=a2d (y0:=((ysT z).getD 0 default).tm) (t:=z.hor) hck.c0
 have hm:=a4r (y0:=((ysT z).getD 0 default).tm) (t:=z.hor) hck.c0
 rw [← hr] at hl hn hm ⊢
 have hY:=fun p=>a9t hck.sy hck.c0 (by omega:0 < (ysT z).length) (t:=z.hor) hr p
 obtain ⟨r',hr'⟩ : ∃ r':Nat,r=(r':Int):=⟨r.toNat,by omega⟩
 have hkr:r'≤k:=Nat.le_of_not_lt fun hlt=>by
  have h1:=a3y hg.gap hi
  have h2:((k:Int)+1) * (a0s z * 1440)≤r * (a0s z * 1440):=yP (by omega) (by omega)
  rw [wI,uF] at h2
  have h3:0≤(k:Int) * (a0s z * 1440):=xX (by omega) (by omega)
  split at hm<;>omega
 obtain ⟨d,rfl⟩ : ∃ d,k=r' + d:=⟨k - r',by omega⟩
 have e1:yAt (ysT z) (a0s z) r (d * (ysT z).length+i)=⟨((ysT z).getD i default).tm+((r' + d:Nat):Int) * (a0s z * 1440),((ysT z).getD i default).off⟩:=by
  unfold yAt
  rw [Nat.mul_add_mod',Nat.mod_eq_of_lt hi,Nat.mul_comm,Nat.mul_add_div (by omega),Nat.div_eq_of_lt hi,uG,hr']
  simp
 have h1 : ¬ (yAt (ysT z) (a0s z) r (d * (ysT z).length+i)).tm < z.hor:=by rw [e1];dsimp only;omega
 have h2:a2y (ysT z) (a0s z) r z.hor≤d * (ysT z).length+i:=Nat.le_of_not_lt fun h=>h1 ((hY _).2 h)
 have h3:(yAt (ysT z) (a0s z) r (d * (ysT z).length+i)).tm=((ysT z).getD i default).tm+((r' + d:Nat):Int) * (a0s z * 1440):=by rw [e1]
 rw [← h3]
 have hord:∀ p q,p≤q→(yAt (ysT z) (a0s z) r p).tm≤(yAt (ysT z) (a0s z) r q).tm:=by
  intro p q hpq
  have hlen:0 < (ysT z).length:=by omega
  have hp:=wJ p hlen
  have hq:=wJ q hlen
  show ((ysT z).getD (p % (ysT z).length) default).tm+(r+((p / (ysT z).length:Nat):Int)) * (a0s z * 1440)≤((ysT z).getD (q % (ysT z).length) default).tm+(r+((q / (ysT z).length:Nat):Int)) * (a0s z * 1440)
  have hd:p / (ysT z).length≤q / (ysT z).length:=Nat.div_le_div_right hpq
  rcases wL hd with h | h
  ·have g1:=a3y hg.gap hp
   have g2:(r+((p / (ysT z).length:Nat):Int)+1) * (a0s z * 1440)≤(r+((q / (ysT z).length:Nat):Int)) * (a0s z * 1440):=yP (by omega) (by omega);rw [wI _ 1,uF] at g2
   have g3:((ysT z).getD 0 default).tm≤((ysT z).getD (q % (ysT z).length) default).tm:=by
    rcases yM (q % (ysT z).length) with e | e
    ·rw [e];exact yR _
    exact wF (hck.sy _ _ e hq)
   omega
  rw [h]
  have g1:p % (ysT z).length≤q % (ysT z).length:=by
   have a1:=Nat.div_add_mod p (ysT z).length;have a2:=Nat.div_add_mod q (ysT z).length;rw [h] at a1;omega
  rcases wL g1 with e | e
  ·have:=hck.sy _ _ e hq;omega
  rw [e];exact yR _
 exact hord _ _ h2
theorem a3n {z:a0w} (hg:Good z) {x y:Tr} (hx:IsT z x) (hy:IsT z y) (h:x.tm < y.tm):x.tm+2160≤y.tm:=by
 have hck:=hg.ck
 rcases hx with hx | ⟨i,hi,k,rfl,hh⟩
 ·obtain ⟨p,hp,rfl⟩:=zY.1 hx
  rcases hy with hy | ⟨j,hj,m,rfl,hh⟩
  ·obtain ⟨q,hq,rfl⟩:=zY.1 hy
   rcases vO p q with hpq | rfl | hpq
   ·have:=abz hg.a.tr (q - p - 1) p (by omega)
    rw [show p+(q - p - 1+1)=q by omega,getD_at hp,getD_at hq] at this;exact this
   ·omega
   have:=hck.st _ _ hpq hp;rw [getD_at hp,getD_at hq] at this;omega
  obtain ⟨f,hf,hfy⟩:=ahj hg hj hh
  have h1:=hg.j (by omega) f hf
  have h2:(z.trans.getD p default).tm≤(z.trans.getD (z.trans.length - 1) default).tm:=by
   rcases wL (show p≤z.trans.length - 1 by omega) with e | e
   ·exact wF (hck.st _ _ e (by omega))
   rw [e];exact yR _
  rw [getD_at hp] at h2
  dsimp only at *
  omega
 rcases hy with hy | ⟨j,hj,m,rfl,hh2⟩
 ·obtain ⟨q,hq,rfl⟩:=zY.1 hy
  have:=(hg.a.tr q hq).h
  rw [getD_at hq] at this
  omega
 dsimp only at *
 have hP:0 < a0s z * 1440:=by have:=hck.c0;omega
 rcases vO k m with hkm | rfl | hkm
 ·have g1:=a3y hg.gap hi
  have g2:((k:Int)+1) * (a0s z * 1440)≤(m:Int) * (a0s z * 1440):=yP (by omega) (by omega)
  rw [wI,uF] at g2
  have g3:((ysT z).getD 0 default).tm≤((ysT z).getD j default).tm:=by
   rcases yM j with e | e
   ·rw [e];exact yR _
   exact wF (hck.sy _ _ e hj)
  omega
 ·rcases vO i j with hij | rfl | hij
  ·have:=aal hg.gap hij hj;omega
  ·omega
  have:=hck.sy _ _ hij hi;omega
 exfalso
 have g1:=a3y hg.gap hj
 have g2:((m:Int)+1) * (a0s z * 1440)≤(k:Int) * (a0s z * 1440):=yP (by omega) (by omega)
 rw [wI,uF] at g2
 have g3:((ysT z).getD 0 default).tm≤((ysT z).getD i default).tm:=by
  rcases yM i with e | e
  ·rw [e];exact yR _
  exact wF (hck.sy _ _ e hi)
 omega
theorem a3u {z:a0w} (hg:Good z) (t:Int):(ab1 z t=none∧∀ y,IsT z y→t < y.tm)∨∃ x,ab1 z t=some x∧IsT z x∧x.tm≤t∧∀ y,IsT z y→y.tm≤t→y.tm≤x.tm:=by
 have hck:=hg.ck
 have hP:0 < a0s z * 1440:=by have:=hck.c0;omega
 have hY:(a6a z (ysT z) (a0s z) t=none∧∀ i k:Nat,i < (ysT z).length→z.hor≤((ysT z).getD i default).tm+(k:Int) * (a0s z * 1440)→t < ((ysT z).getD i default).tm+(k:Int) * (a0s z * 1440)) ∨
   ∃ x,a6a z (ysT z) (a0s z) t=some x∧IsT z x∧x.tm≤t∧z.hor≤x.tm∧∀ i k:Nat,i < (ysT z).length→((ysT z).getD i default).tm+(k:Int) * (a0s z * 1440)≤t→((ysT z).getD i default).tm+(k:Int) * (a0s z * 1440)≤x.tm:=by
  by_cases h0:(ysT z).length≠0∧((ysT z).getD 0 default).tm≤t
  ·obtain ⟨r,hr⟩ : ∃ r,r=turns ((ysT z).getD 0 default).tm t (a0s z):=⟨_,rfl⟩
   have hl:=a9v (y0:=((ysT z).getD 0 default).tm) (t:=t) hck.c0;have hn:=a2d (y0:=((ysT z).getD 0 default).tm) (t:=t) hck.c0;have hm:=a4r (y0:=((ysT z).getD 0 default).tm) (t:=t) hck.c0;rw [← hr] at hl hn hm;rw [zS (by omega)] at hm
   obtain ⟨r',rfl⟩ : ∃ r':Nat,r=(r':Int):=⟨r.toNat,by omega⟩
   have hy0:∀ i,i < (ysT z).length→((ysT z).getD 0 default).tm≤((ysT z).getD i default).tm:=fun i hi=>by
    rcases yM i with e | e
    ·rw [e];exact yR _
    ·exact wF (hck.sy _ _ e hi)
   rcases a7j (ysT z) (t - (r':Int) * (a0s z * 1440)) none (aa6 hck.sy) with ⟨_,h2⟩ | ⟨x,hx,h1,h2,h3⟩
   ·have:=h2 _ (a2h (show 0 < (ysT z).length by omega))
    omega
   ·obtain ⟨q,hq,e⟩:=zY.1 hx
    have hmax:∀ i k:Nat,i < (ysT z).length→((ysT z).getD i default).tm+(k:Int) * (a0s z * 1440)≤t→((ysT z).getD i default).tm+(k:Int) * (a0s z * 1440)≤x.tm+(r':Int) * (a0s z * 1440):=by
     intro i k hi hk;have hxq:((ysT z).getD 0 default).tm≤x.tm:=by have:=hy0 q hq;rwa [getD_at hq,e] at this
     rcases vO k r' with hkr | rfl | hkr
     ·have g1:=a3y hg.gap hi
      have g2:((k:Int)+1) * (a0s z * 1440)≤(r':Int) * (a0s z * 1440):=yP (by omega) (by omega);rw [wI,uF] at g2;omega
     ·have:=h3 _ (a2h hi) (by omega)
      omega
     ·have g2:((r':Int)+1) * (a0s z * 1440)≤(k:Int) * (a0s z * 1440):=yP (by omega) (by omega)
      have:=hy0 i hi;omega
    by_cases hh:z.hor≤x.tm+(r':Int) * (a0s z * 1440)
    ·refine .inr ⟨⟨x.tm+(r':Int) * (a0s z * 1440),x.off⟩,by unfold a6a;rw [zQ h0,← hr,h1];dsimp only;rw [zQ hh],.inr ⟨q,hq,r',by rw [getD_at hq,e],hh⟩,by dsimp only;omega,hh,hmax⟩
    ·refine .inl ⟨by unfold a6a;rw [zQ h0,← hr,h1];dsimp only;rw [zS hh],fun i k hi hk=>Int.not_le.1 fun hle=>hh ?_⟩
     have:=hmax i k hi hle;omega
  ·refine .inl ⟨by unfold a6a;rw [zS h0],fun i k hi _=>?_⟩
   have h1:t < ((ysT z).getD 0 default).tm:=Int.not_le.1 fun h=>h0 ⟨by omega,h⟩
   have h2:((ysT z).getD 0 default).tm≤((ysT z).getD i default).tm:=by
    rcases yM i with e | e
    ·rw [e];exact yR _
    ·exact wF (hck.sy _ _ e hi)
   have h3:0≤(k:Int) * (a0s z * 1440):=xX (by omega) (by omega);omega
 have htr:∀ y∈z.trans,y.tm < z.hor:=fun y hy=>by
  obtain ⟨q,hq,rfl⟩:=zY.1 hy
  have:=(hg.a.tr q hq).h
  rwa [getD_at hq] at this
 rcases hY with ⟨e,hY⟩ | ⟨x,e,hx,hxt,hxh,hY⟩
 ·rcases a7j z.trans t none (aa6 hck.st) with ⟨h1,h2⟩ | ⟨x,hx,h1,h2,h3⟩
  ·refine .inl ⟨by unfold ab1 lastT;rw [e];exact h1,fun y hy=>?_⟩
   rcases hy with hy | ⟨i,hi,k,rfl,hh⟩
   ·exact h2 y hy
   exact hY i k hi hh
  refine .inr ⟨x,by unfold ab1 lastT;rw [e];exact h1,.inl hx,h2,fun y hy hyt=>?_⟩
  rcases hy with hy | ⟨i,hi,k,rfl,hh⟩
  ·exact h3 y hy hyt
  have:=hY i k hi hh
  dsimp only at hyt
  omega
 refine .inr ⟨x,by unfold ab1 lastT;rw [e],hx,hxt,fun y hy hyt=>?_⟩
 rcases hy with hy | ⟨i,hi,k,rfl,hh⟩
 ·have:=htr y hy;omega
 exact hY i k hi hyt
theorem aj0 {z:a0w} (hg:Good z) {x y:Tr} (hx:IsT z x) (hy:IsT z y) (h:x.tm=y.tm):x=y:=by
 have hck:=hg.ck
 rcases hx with hx | ⟨i,hi,k,rfl,hh⟩
 ·obtain ⟨p,hp,rfl⟩:=zY.1 hx
  rcases hy with hy | ⟨j,hj,m,rfl,hh⟩
  ·obtain ⟨q,hq,rfl⟩:=zY.1 hy
   rcases vO p q with hpq | rfl | hpq
   ·have:=hck.st _ _ hpq hq
    rw [getD_at hp,getD_at hq] at this;omega
   ·rfl
   have:=hck.st _ _ hpq hp;rw [getD_at hp,getD_at hq] at this;omega
  have:=(hg.a.tr p hp).h
  rw [getD_at hp] at this
  omega
 rcases hy with hy | ⟨j,hj,m,rfl,hh2⟩
 ·obtain ⟨q,hq,rfl⟩:=zY.1 hy
  have:=(hg.a.tr q hq).h
  rw [getD_at hq] at this
  omega
 dsimp only at *
 have hP:0 < a0s z * 1440:=by have:=hck.c0;omega
 have hy0:∀ i,i < (ysT z).length→((ysT z).getD 0 default).tm≤((ysT z).getD i default).tm:=fun i hi=>by
  rcases yM i with e | e
  ·rw [e];exact yR _
  ·exact wF (hck.sy _ _ e hi)
 rcases vO k m with hkm | rfl | hkm
 ·exfalso
  have g1:=a3y hg.gap hi
  have g2:((k:Int)+1) * (a0s z * 1440)≤(m:Int) * (a0s z * 1440):=yP (by omega) (by omega)
  rw [wI,uF] at g2
  have:=hy0 j hj
  omega
 ·rcases vO i j with hij | rfl | hij
  ·have:=hck.sy _ _ hij hj;omega
  ·rfl
  have:=hck.sy _ _ hij hi;omega
 exfalso
 have g1:=a3y hg.gap hj
 have g2:((m:Int)+1) * (a0s z * 1440)≤(k:Int) * (a0s z * 1440):=yP (by omega) (by omega)
 rw [wI,uF] at g2
 have:=hy0 i hi
 omega
theorem a8a {z:a0w} (hg:Good z) {x:Tr} (hx:IsT z x):ab1 z x.tm=some x:=by
 rcases a3u hg x.tm with ⟨_,h⟩ | ⟨y,h1,h2,h3,h4⟩
 ·have:=h x hx;omega
 rw [h1,aj0 hg h2 hx (Int.le_antisymm h3 (h4 x hx (yR _)))]
end Zn
namespace Zn
theorem a4b {z:a0w} {t:Int} {x:Tr} (h:ab1 z t=some x):a2u z t=x.off:=adp h
theorem offZ_none {z:a0w} {t:Int} (h:ab1 z t=none):a2u z t=z.start:=lastT_no h
theorem a2a {z:a0w} (hg:Good z) (t:Int) : -1080≤a2u z t∧a2u z t≤1080:=abn hg.ck t
theorem aiy {z:a0w} (hg:Good z) {a b:Int} (hab:a≤b) (h:∀ y,IsT z y→y.tm≤b→y.tm≤a):ab1 z a=ab1 z b:=by
 rcases a3u hg a with ⟨e1,h1⟩ | ⟨x,e1,h1,h2,h3⟩
 ·rcases a3u hg b with ⟨e2,_⟩ | ⟨y,e2,g1,g2,_⟩
  ·rw [e1,e2]
  have:=h1 y g1
  have:=h y g1 g2
  omega
 rcases a3u hg b with ⟨e2,g⟩ | ⟨y,e2,g1,g2,g3⟩
 ·have:=g x h1;omega
 have q1:=h3 y g1 (h y g1 g2)
 have q2:=g3 x h1 (by omega)
 rw [e1,e2,aj0 hg h1 g1 (Int.le_antisymm q2 q1)]
theorem a7y {z:a0w} (hg:Good z) {a b:Int} (hab:a≤b) (h:∀ y,IsT z y→y.tm≤b→y.tm≤a):a2u z a=a2u z b:=by
 have:=aiy hg hab h
 unfold a2u a5a
 unfold ab1 at this
 rw [this]
theorem aab {z:a0w} (hg:Good z) {a b:Int} (hab:a≤b):a2u z a=a2u z b∨∃ y,IsT z y∧a < y.tm∧y.tm≤b:=by
 by_cases h : ∃ y,IsT z y∧a < y.tm∧y.tm≤b
 ·exact .inr h
 exact .inl (a7y hg hab fun y h1 h2=>Int.not_lt.1 fun h3=>h ⟨y,h1,h3,h2⟩)
def acr (z:a0w) (loc:Int) (x:Tr):Prop:=IsT z x∧x.tm+a2u z (x.tm - 1)≤loc∧loc < x.tm+x.off
theorem ap0 {z:a0w} (hg:Good z) {loc:Int} {x:Tr} (h:acr z loc x) (s:Int):s+a2u z s≠loc:=by
 obtain ⟨h1,h2,h3⟩:=h
 have hx:=a4b (a8a hg h1)
 have hb:=a2a hg (x.tm - 1)
 have ho:=a2a hg x.tm
 have hs:=a2a hg s
 rw [hx] at ho
 rcases uH s x.tm with hlt | hle
 ·rcases aab hg (show s≤x.tm - 1 by omega) with e | ⟨y,hy,hy1,hy2⟩
  ·omega
  have:=a3n hg hy h1 (by omega)
  omega
 rcases aab hg hle with e | ⟨y,hy,hy1,hy2⟩
 ·omega
 have:=a3n hg h1 hy hy1
 omega
structure alv (z:a0w) (loc:Int) (r:List Int×Int×Int):Prop where
 mem:∀ t,t∈r.1↔t+a2u z t=loc
 sorted:r.1.Pairwise fun a b=>a < b
 gap:r.1 = []→∃ x,acr z loc x∧r.2.1=x.tm∧r.2.2=a2u z (x.tm - 1)
theorem afl {l:List Int} (h:l.Nodup):(a2z l).Pairwise fun a b=>a < b:=by
 have h1:(a2z l).Pairwise fun a b=>decide (a≤b)=true:=List.pairwise_mergeSort (fun a b c h1 h2=>by simp at *;omega) (fun a b=>by simp;omega) l
 have h2:(a2z l).Nodup:=(a4n l).nodup_iff.2 h
 have h3:=h1.and h2
 exact h3.imp fun {a b} ⟨q1,q2⟩=>by
  have:a≤b:=wV q1
  omega
theorem ad5 {l:List Int} {t:Int}:t∈a2z l↔t∈l:=(a4n l).mem_iff
theorem ad4 {l:List Int} (h:a2z l = []):l = []:=by
 have:=(a4n l).length_eq
 rw [h] at this
 exact yH.1 this.symm
theorem ag0 {z:a0w} (hg:Good z) {loc:Int}:∀ (f:Nat) (t:Int) (l:List Int),t - (loc - 1083)≤f→loc - 1081≤t→(∀ s,s∈l↔t < s∧s+a2u z s=loc)→l.Nodup→(l = []→loc≤t+a2u z t)→alv z loc (a6c z (ysT z) (a0s z) loc f t l)
 | 0,t,l,hf,ht,_,_,_=>by omega
 | f+1,t,l,hf,ht,hm,hn,he=>by
  have ho:=a2a hg t
  obtain ⟨o,hoe⟩ : ∃ o,o=a2u z t:=⟨_,rfl⟩
  have hnd : ¬ (loc - o)∈l∨t < loc - o:=by
   by_cases h:t < loc - o
   ·exact .inr h
   ·exact .inl fun hq=>h ((hm _).1 hq).1
  rcases a3u hg t with ⟨hx,hlo⟩ | ⟨x,hx,hT,hxt,hmx⟩
  ·have hst:=abh (loc:=loc) (f:=f) (l:=l) (show lastT z (ysT z) (a0s z) t=none from hx)
   rw [show a5a z (ysT z) (a0s z) t=o from hoe.symm] at hst
   rw [hst]
   have hoff:∀ s,s≤t→a2u z s=o:=fun s hs=>by
    rw [hoe]
    exact a7y hg hs fun y h1 h2=>by have:=hlo y h1;omega
   have hne:(if loc - o≤t then l ++ [loc - o] else l) = []→False:=fun e=>by
    split at e
    ·simp at e
    ·rename_i h
     have:=he e
     omega
   refine ⟨fun s=>?_,afl ?_,fun e=>(hne (ad4 e)).elim⟩
   ·rw [ad5]
    split
    ·rename_i h
     rw [yJ,hm,yD]
     constructor
     ·rintro (⟨_,h2⟩ | rfl)
      ·exact h2
      ·rw [hoff _ h];omega
     ·intro h2
      rcases uH t s with h3 | h3
      ·exact .inl ⟨h3,h2⟩
      ·rw [hoff s h3] at h2;exact .inr (by omega)
    ·rename_i h
     rw [hm]
     constructor
     ·exact fun h2=>h2.2
     ·intro h2
      refine ⟨Int.not_le.1 fun h3=>h ?_,h2⟩
      rw [hoff s h3] at h2
      omega
   ·split
    ·rename_i h
     exact List.nodup_append.2 ⟨hn,by simp,fun a ha b hb=>by rw [yD.1 hb];intro e;subst e;exact hnd.elim (fun q=>q ha) (fun q=>by omega)⟩
    ·exact hn
  ·have hst:=abg (loc:=loc) (f:=f) (l:=l) (show lastT z (ysT z) (a0s z) t=some x from hx)
   rw [show a5a z (ysT z) (a0s z) t=o from hoe.symm,show a5a z (ysT z) (a0s z) (x.tm - 1)=a2u z (x.tm - 1) from rfl] at hst
   rw [hst]
   have hxo:o=x.off:=by rw [hoe];exact a4b hx
   have hoff:∀ s,x.tm≤s→s≤t→a2u z s=o:=fun s h1 hs=>by
    rw [hoe]
    exact a7y hg hs fun y h2 h3=>by have:=hmx y h2 h3;omega
   obtain ⟨l',hl'⟩ : ∃ l',l' = (if loc - o≤t∧x.tm≤loc - o then l ++ [loc - o] else l):=⟨_,rfl⟩
   rw [← hl']
   have hm':∀ s,s∈l'↔x.tm≤s∧s+a2u z s=loc:=fun s=>by
    rw [hl']
    split
    ·rename_i h
     rw [yJ,hm,yD]
     constructor
     ·rintro (⟨h1,h2⟩ | rfl)
      ·exact ⟨by omega,h2⟩
      ·exact ⟨h.2,by rw [hoff _ h.2 h.1];omega⟩
     ·rintro ⟨h1,h2⟩
      rcases uH t s with h3 | h3
      ·exact .inl ⟨h3,h2⟩
      ·rw [hoff s h1 h3] at h2;exact .inr (by omega)
    ·rename_i h
     rw [hm]
     constructor
     ·exact fun h2=>⟨by omega,h2.2⟩
     ·rintro ⟨h1,h2⟩
      refine ⟨Int.not_le.1 fun h3=>h ?_,h2⟩
      rw [hoff s h1 h3] at h2
      omega
   have hn':l'.Nodup:=by
    rw [hl']
    split
    ·rename_i h
     exact List.nodup_append.2 ⟨hn,by simp,fun a ha b hb=>by rw [yD.1 hb];intro e;subst e;exact hnd.elim (fun q=>q ha) (fun q=>by omega)⟩
    ·exact hn
   have he':l' = []→loc < x.tm+o:=fun e=>by
    rw [hl'] at e
    split at e
    ·simp at e
    ·rename_i h
     have:=he e
     omega
   split
   ·rename_i hlo
    refine ⟨fun s=>?_,afl hn',fun e=>?_⟩
    ·rw [ad5,hm']
     refine ⟨fun h=>h.2,fun h=>⟨Int.not_lt.1 fun h1=>?_,h⟩⟩
     have:=a2a hg s
     omega
    ·have:=he' (ad4 e)
     omega
   ·rename_i hlo
    split
    ·rename_i hgp
     have hga:acr z loc x:=⟨hT,hgp.1,hgp.2⟩
     exact ⟨fun s=>⟨fun h=>(by cases h),fun h=>absurd h (ap0 hg hga s)⟩,List.Pairwise.nil,fun _=>⟨x,hga,rfl,rfl⟩⟩
    ·rename_i hgp
     refine ag0 hg f (x.tm - 1) l' (by omega) (by omega) (fun s=>?_) hn' (fun e=>?_)
     ·rw [hm']
      exact ⟨fun h=>⟨by omega,h.2⟩,fun h=>⟨by omega,h.2⟩⟩
     ·have h1:=he' e
      have h2 : ¬ x.tm+a2u z (x.tm - 1)≤loc:=fun h=>hgp ⟨h,by omega⟩
      omega
def a2w (z:a0w) (loc:Int):List Int×Int×Int:=a3f z (ysT z) (a0s z) loc
theorem acb {z:a0w} (hg:Good z) (loc:Int):alv z loc (a2w z loc):=by
 have ho:=a2a hg (loc+1080)
 refine ag0 hg 4000 (loc+1080) [] (by omega) (by omega) (fun s=>⟨fun h=>(by cases h),fun ⟨h1,h2⟩=>?_⟩) List.nodup_nil (fun _=>by omega)
 have:=a2a hg s
 omega
theorem ahe {z:a0w} (hg:Good z) {loc a b c:Int} (ha:a+a2u z a=loc) (hb:b+a2u z b=loc) (hc:c+a2u z c=loc) (hab:a < b) (hbc:b < c):False:=by
 have h1:=a2a hg a
 have h3:=a2a hg c
 rcases aab hg (wF hab) with e | ⟨y,hy,hy1,hy2⟩
 ·omega
 rcases aab hg (wF hbc) with e | ⟨u,hu,hu1,hu2⟩
 ·omega
 have:=a3n hg hy hu (by omega)
 omega
theorem a9k {z:a0w} (hg:Good z) (loc:Int):(a2w z loc).1.length≤2:=by
 have h:=acb hg loc
 have hs:=h.sorted
 have hm:=h.mem
 generalize (a2w z loc).1=l at *
 match l,hs,hm with
 | [],_,_=>simp
 | [_],_,_=>simp
 | [_,_],_,_=>simp
 | a :: b :: c :: r,hs,hm =>
  exfalso
  have h1:=wM.1 hs
  have h2:=wM.1 h1.2
  exact ahe hg ((hm a).1 (by simp)) ((hm b).1 (by simp)) ((hm c).1 (by simp)) (h1.1 b (by simp)) (h2.1 c (by simp))
end Zn
namespace Zn
theorem ajb {z:a0w} {ys:List Tr} {cyc:Int} (hk:Ck z ys cyc) {t:Int} (ht0 : -4503599627370496≤t) (ht1:t≤4503599627370496) {i:Nat} (hi:i≤1000000) {x:Tr} (h:a2s z ys cyc t i=some x) :
  -2251799813685248≤x.tm∧x.tm≤1152921504606846976∧-1080≤x.off∧x.off≤1080:=by
 unfold a2s at h
 split at h
 ·rename_i hl
  cases h
  have hm:(a3w z t).getD i default∈a3w z t:=a2h hl
  obtain ⟨i,hi,e⟩:=zY.1 (uJ.1 hm).1
  have h1:=hk.bt i hi
  have h2:=hk.ot i hi
  rw [getD_at hi,e] at h1 h2
  omega
 split at h
 ·cases h
 rename_i hl hy
 cases h
 have h1:=a2d (y0:=(ys.getD 0 default).tm) (t:=a5l t z.hor) hk.c0
 have h2:=a4r (y0:=(ys.getD 0 default).tm) (t:=a5l t z.hor) hk.c0
 have h3:=a5m ys cyc (turns (ys.getD 0 default).tm (a5l t z.hor) cyc) (a5l t z.hor)
 have h4:=hk.by_ 0 (by omega)
 have h5:=hk.h0
 have h6:=hk.h1
 have h7:=hk.c1
 have h8:=hk.c0
 have hT : -4503599627370496≤a5l t z.hor∧a5l t z.hor≤4503599627370496:=by unfold a5l;split<;>omega
 obtain ⟨p,hp⟩ : ∃ p,a2y ys cyc (turns (ys.getD 0 default).tm (a5l t z.hor) cyc) (a5l t z.hor)+(i - (a3w z t).length)=p:=⟨_,rfl⟩
 rw [hp]
 have hpl:p≤ys.length+1000000:=by omega
 have hq:p / ys.length≤1000001:=by
  refine Nat.div_le_of_le_mul ?_
  have:1≤ys.length:=by omega
  have h9:1000000≤ys.length * 1000000:=Nat.le_mul_of_pos_left _ (by omega)
  have h10:ys.length * 1000001=ys.length * 1000000+ys.length:=Nat.mul_succ _ _
  omega
 have hm:p % ys.length < ys.length:=wJ _ (by omega)
 have hb:=hk.by_ _ hm
 have ho:=hk.oy _ hm
 generalize turns (ys.getD 0 default).tm (a5l t z.hor) cyc=r at *
 show -2251799813685248≤(ys.getD (p % ys.length) default).tm+(r+((p / ys.length:Nat):Int)) * (cyc * 1440)∧(ys.getD (p % ys.length) default).tm+(r+((p / ys.length:Nat):Int)) * (cyc * 1440)≤1152921504606846976∧-1080≤(ys.getD (p % ys.length) default).off∧(ys.getD (p % ys.length) default).off≤1080
 generalize p / ys.length=d at *
 generalize ys.getD (p % ys.length) default=x at *
 have e1:(r+(d:Int)) * (cyc * 1440)=r * (cyc * 1440)+(d:Int) * (cyc * 1440):=wI _ _ _
 have e2:(d:Int) * (cyc * 1440)≤1000001 * (10000000 * 1440):=Int.mul_le_mul (by omega) (by omega) (by omega) (by omega)
 have e3:0≤(d:Int) * (cyc * 1440):=xX (by omega) (by omega)
 have e4:0≤r * (cyc * 1440):=xX h1 (by omega)
 have e5:r * (cyc * 1440)≤4503599627370496+2199023255552:=by
  refine Int.le_trans h2 ?_
  split<;>omega
 rw [e1]
 omega
structure Pc where
 o:Int
 uf:Int
 ut:Int
 nf:Int
 nt:Int
deriving Inhabited
def mnI (a b:Int):Int:=min a b
def mxI (a b:Int):Int:=max a b
def ank (s:Int×Int×Int) (x:Option Tr):Pc:=match x with
 | some x=>⟨s.1,s.2.1,x.tm,s.2.2,x.tm+mnI s.1 x.off⟩
 | none=>⟨s.1,s.2.1,9007199254740992,s.2.2,9007199254740992⟩
def pst (start:Int) (nx:Nat→Option Tr):Nat→Int×Int×Int
 | 0=>(start,-9007199254740992,-9007199254740992)
 | i+1=>match nx i with
  | some x=>(x.off,x.tm,x.tm+mxI (pst start nx i).1 x.off)
  | none=>pst start nx i
def pcS (start:Int) (nx:Nat→Option Tr) (e:Int):Nat→Option Pc
 | 0=>some (ank (pst start nx 0) (nx 0))
 | i+1=>match nx i with
  | none=>none
  | some y=>if e < y.tm then none else some (ank (pst start nx (i+1)) (nx (i+1)))
def pcN (z:a0w) (ys:List Tr) (cyc e:Int) (i:Nat):Option Pc:=pcS z.start (a2s z ys cyc (-2251799813685248)) e i
def pcGo (nx:Nat→Option Tr) (e:Int) (i:Nat):Prop:=i=0∨∃ y,nx (i - 1)=some y∧¬ e < y.tm
theorem alj {start:Int} {nx:Nat→Option Tr} {e:Int} {i:Nat} (h:pcGo nx e i):pcS start nx e i=some (ank (pst start nx i) (nx i)):=by
 rcases i with _ | i
 ·rfl
 rcases h with h | ⟨y,h1,h2⟩
 ·cases h
 have h1:nx i=some y:=h1
 simp only [pcS,h1,zS h2]
theorem amc {start:Int} {nx:Nat→Option Tr} {e:Int} {i:Nat} {y:Tr} (h:nx i=some y) (h2:e < y.tm):pcS start nx e (i+1)=none:=by
 simp only [pcS,h,zQ h2]
theorem ake {start:Int} {nx:Nat→Option Tr} {e:Int} {i:Nat} (h:nx i=none):pcS start nx e (i+1)=none:=by
 simp only [pcS,h]
theorem akc {start:Int} {nx:Nat→Option Tr} {i:Nat} {x:Tr} (h:nx i=some x):pst start nx (i+1)=(x.off,x.tm,x.tm+mxI (pst start nx i).1 x.off):=by
 simp only [pst,h]
theorem ac5 {start:Int} {nx:Nat→Option Tr} {N:Nat} (h0 : -1080≤start∧start≤1080) (h:∀ j x,j≤N→nx j=some x→-1080≤x.off∧x.off≤1080):∀ i,i≤N+1→-1080≤(pst start nx i).1∧(pst start nx i).1≤1080
 | 0,_=>h0
 | i+1,hi=>by
  simp only [pst]
  cases hx:nx i with
  | none=>exact ac5 h0 h i (by omega)
  | some x=>exact h i x (by omega) hx
theorem ali {start:Int} {nx:Nat→Option Tr} {N:Nat} (h0 : -1080≤start∧start≤1080) (h:∀ j x,j≤N→nx j=some x→-2251799813685248≤x.tm∧x.tm≤1152921504606846976∧-1080≤x.off∧x.off≤1080):∀ i,i≤N+1→-9007199254740992≤(pst start nx i).2.1∧(pst start nx i).2.1≤1152921504606848056∧-9007199254740992≤(pst start nx i).2.2∧(pst start nx i).2.2≤1152921504606848056
 | 0,_=>by simp [pst]
 | i+1,hi=>by
  have h1:=ac5 h0 (fun j x hj hx=>(h j x hj hx).2.2) i (by omega)
  simp only [pst]
  cases hx:nx i with
  | none=>exact ali h0 h i (by omega)
  | some x =>
   have:=h i x (by omega) hx
   simp only [mxI]
   omega
theorem aoa {z:a0w} {ys:List Tr} {cyc:Int} (hk:Ck z ys cyc) {e:Int} {i:Nat} (hi:i≤1000000) {p:Pc} (h:pcN z ys cyc e i=some p) :
  (-1080≤p.o∧p.o≤1080)∧(-9007199254740992≤p.uf∧p.uf≤1152921504606848056)∧(-9007199254740992≤p.ut∧p.ut≤1152921504606848056)∧(-9007199254740992≤p.nf∧p.nf≤1152921504606848056)∧(-9007199254740992≤p.nt∧p.nt≤1152921504606848056):=by
 unfold pcN at h
 have htm:=fun j x (hj:j≤1000000) hx=>ajb hk (t := -2251799813685248) (by omega) (by omega) (i:=j) hj (x:=x) hx
 generalize a2s z ys cyc (-2251799813685248)=nx at *
 have h1:=ali (start:=z.start) (nx:=nx) (N:=1000000) ⟨hk.s0,hk.s1⟩ htm i (by omega)
 have h2:=ac5 (start:=z.start) (nx:=nx) (N:=1000000) ⟨hk.s0,hk.s1⟩ (fun j x hj hx=>(htm j x hj hx).2.2) i (by omega)
 have hp:p=ank (pst z.start nx i) (nx i):=by
  rcases i with _ | i
  ·exact (xO h).symm
  simp only [pcS] at h
  split at h
  ·cases h
  split at h
  ·cases h
  exact (xO h).symm
 subst hp
 have h3:=htm i
 cases hx:nx i with
 | none=>simp only [ank];omega
 | some x =>
  have:=h3 x hi hx
  simp only [ank,mnI]
  omega
end Zn
