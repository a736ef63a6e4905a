/-
  The zones that Made makes are valid.
-/
import Derived.Test.YtppjleebbjipbaaGreatQkZok
import Derived.Test.YtppjleebbjipbaaGreatQkZce
set_option linter.all false
namespace Zn
theorem afm (n:Nat) : -1080≤a1c n∧a1c n≤1080:=by
 unfold a1c
 have h:n % 8 < 8:=wJ _ (by decide)
 generalize n % 8=k at *
 match k,h with
 | 0,_=>decide
 | 1,_=>decide
 | 2,_=>decide
 | 3,_=>decide
 | 4,_=>decide
 | 5,_=>decide
 | 6,_=>decide
 | 7,_=>decide
 | k+8,h=>omega
theorem ah5 (x:Raw):(a0t x).ok=true:=by
 unfold a0t
 split
 ·have:x.cal / 2 % 2 < 2:=wJ _ (by decide)
  generalize x.cal / 2 % 2=k at *
  match k,this with
  | 0,_=>decide
  | 1,_=>decide
  | k+2,h=>omega
 decide
theorem a81 (x:Raw):∀ (n i:Nat),i < n→(a1a x n).getD i default=⟨a3b x (i+1),a1c (x.a5z.getD i 0)⟩
 | n+1,i,h=>by
  show (a1a x n ++ [_]).getD i default=_
  by_cases hi:i < n
  ·rw [zB,xF (by rw [a1n];exact hi),← zB]
   exact a81 x n i hi
  ·have:i=n:=by omega
   subst this
   rw [zB,yZ (by rw [a1n];exact zD _),a1n,vC]
   rfl
theorem a7h {x:Raw}:∀ (d i:Nat),a3b x i+2160 * (d:Int)≤a3b x (i+d)
 | 0,i=>by simp
 | d+1,i=>by
  have h1:=a7h (x:=x) d i
  show _≤a3b x (i+d+1)
  simp only [a3b]
  omega
theorem a9i (x:Raw):a1j x≤3:=Nat.min_le_right _ _
theorem abe {x:Raw} (h:x.In):2160≤a3a x∧a3a x≤30000:=by
 have h1:=a6h h (a1j x)
 have h2:=a9i x
 have h3:=h.b
 unfold a3a
 omega
theorem ain {x:Raw} (h:x.In) (ys:List YR):∀ i,i < (a1a x (a1j x)).length→a9d ⟨a0t x,a1c x.start,a1a x (a1j x),a3a x,ys⟩ i:=by
 intro i hi
 rw [a1n] at hi
 have h1:=a81 x (a1j x) i hi
 have h2:=afm (x.a5z.getD i 0)
 have h3:=a6h h (i+1)
 have h4:=a9i x
 have h5:=a7h (x:=x) (a1j x - (i+1)) (i+1)
 rw [show i+1+(a1j x - (i+1))=a1j x by omega] at h5
 refine ⟨?_,?_,?_,?_,?_,fun h0=>?_⟩
 all_goals (try (rw [show (a1a x (a1j x)).getD i default=_ from h1]))
 all_goals (try dsimp only)
 ·exact h2.1
 ·exact h2.2
 ·omega
 ·omega
 ·unfold a3a;omega
 have h6:=a81 x (a1j x) (i - 1) (by omega)
 rw [h6]
 dsimp only
 rw [show i - 1+1=i by omega]
 simp only [a3b]
 omega
theorem ajd {z:a0w} (h:∀ i,i < z.trans.length→a9d z i):a3w z z.hor = []:=by
 unfold a3w
 rw [List.filter_eq_nil_iff]
 intro y hy
 obtain ⟨q,hq,rfl⟩:=zY.1 hy
 have:=(h q hq).h
 rw [getD_at hq] at this
 simp;omega
theorem amf {x:Raw} (h:x.In) (ys:List YR):al8 ⟨a0t x,a1c x.start,a1a x (a1j x),a3a x,ys⟩:=by
 have h1:=abe h
 have h2:=afm x.start
 refine ⟨?_,ah5 x,h2.1,h2.2,?_,?_⟩
 ·show (a1a x (a1j x)).length≤512
  rw [a1n]
  have:=a9i x
  omega
 ·show _≤a3a x
  omega
 show a3a x≤_
 omega
theorem ah6 {x:Raw} (h:x.In):Good (aca x):=by
 have hy:ysT (aca x) = []:=by unfold ysT;exact zQ rfl
 refine ⟨⟨amf h [],ain h [],.inl rfl,fun i hi=>absurd hi (yA i)⟩,fun i hi=>(by rw [hy] at hi;exact absurd hi (yA i)),fun _ y hy2=>?_⟩
 unfold a2s at hy2
 rw [hy,ajd (ain h []),zS (by simp),zQ xI] at hy2
 cases hy2
theorem adm {x:Raw} (h:x.In):Good (made x):=by
 unfold made
 split
 ·rename_i hc
  exact a0v.1 hc.2
 exact ah6 h
structure arz (z:a0w):Prop where
 good:Good z
 h0:2160≤z.hor
 h1:z.hor≤30000
 tl:z.trans.length≤3
 t0:∀ y∈z.trans,2160≤y.tm∧y.tm≤30000
 days:z.cal.days=13∨z.cal.days=31
theorem adn (x:Raw):(a0t x).days=13∨(a0t x).days=31:=by
 unfold a0t
 split
 ·have:x.cal / 2 % 2 < 2:=wJ _ (by decide)
  generalize x.cal / 2 % 2=k at *
  match k,this with
  | 0,_=>exact .inr (by decide)
  | 1,_=>exact .inr (by decide)
  | k+2,h=>omega
 exact .inl (by decide)
theorem made_k {x:Raw} (h:x.In):arz (made x):=by
 have hb:=abe h
 have hg:=adm h
 have h4:=a9i x
 have ht:∀ y∈a1a x (a1j x),2160≤y.tm∧y.tm≤30000:=fun y hy=>by
  obtain ⟨q,hq,rfl⟩:=zY.1 hy
  rw [a1n] at hq
  have h1:=a81 x (a1j x) q hq
  rw [getD_at (by rw [a1n];exact hq)] at h1
  rw [h1]
  have h3:=a6h h (q+1)
  have h5:=a7h (x:=x) (q+1) 0
  rw [yI] at h5
  have h6:a3b x 0=0:=rfl
  dsimp only
  omega
 have hl:(a1a x (a1j x)).length≤3:=by rw [a1n];exact h4
 have hd:=adn x
 unfold made at *
 split at hg
 ·rename_i hc
  rw [zQ hc]
  exact ⟨hg,hb.1,hb.2,hl,ht,hd⟩
 rename_i hc
 rw [zS hc]
 exact ⟨hg,hb.1,hb.2,hl,ht,hd⟩
end Zn
namespace Zn
theorem ak0 {z:a0w} (hg:Good z) (r:Int) {p q:Nat} (h:p < q) (hl:0 < (ysT z).length):(yAt (ysT z) (a0s z) r p).tm < (yAt (ysT z) (a0s z) r q).tm:=by
 have hck:=hg.ck
 have hp:=wJ p hl
 have hq:=wJ q hl
 have hP:0 < a0s z * 1440:=by have:=hck.c0;omega
 show ((ysT z).getD (p % (ysT z).length) default).tm+(r+((p / (ysT z).length:Nat):Int)) * (a0s z * 1440) < ((ysT z).getD (q % (ysT z).length) default).tm+(r+((q / (ysT z).length:Nat):Int)) * (a0s z * 1440)
 have hd:p / (ysT z).length≤q / (ysT z).length:=Nat.div_le_div_right (Nat.le_of_lt h)
 rcases wL hd with h | h
 ·have g1:=a3y hg.gap hp
  have g2:(r+((p / (ysT z).length:Nat):Int)+1) * (a0s z * 1440)≤(r+((q / (ysT z).length:Nat):Int)) * (a0s z * 1440):=yP (by omega) (by omega)
  rw [wI _ 1,uF] at g2
  have g3:((ysT z).getD 0 default).tm≤((ysT z).getD (q % (ysT z).length) default).tm:=by
   rcases yM (q % (ysT z).length) with e | e
   ·rw [e];exact yR _
   exact wF (hck.sy _ _ e hq)
  omega
 rw [h]
 have g1:p % (ysT z).length < q % (ysT z).length:=by
  have a1:=Nat.div_add_mod p (ysT z).length
  have a2:=Nat.div_add_mod q (ysT z).length
  rw [h] at a1
  omega
 have:=hck.sy _ _ g1 hq
 omega
def a4y (z:a0w) (t:Int) (i:Nat):Option Tr:=a2s z (ysT z) (a0s z) t i
theorem a6q {z:a0w} (hg:Good z) {t:Int} {i:Nat} {x:Tr} (h:a4y z t i=some x):IsT z x∧t≤x.tm:=by
 have hck:=hg.ck
 unfold a4y a2s at h
 split at h
 ·rename_i hi
  cases h
  have:=a2h hi
  unfold a3w at this ⊢
  have:=uJ.1 this
  exact ⟨.inl this.1,wV this.2⟩
 split at h
 ·cases h
 rename_i hn
 cases h
 have hl:0 < (ysT z).length:=by omega
 have hn:=a2d (y0:=((ysT z).getD 0 default).tm) (t:=a5l t z.hor) hck.c0
 obtain ⟨r,hr⟩ : ∃ r,r=turns ((ysT z).getD 0 default).tm (a5l t z.hor) (a0s z):=⟨_,rfl⟩
 rw [← hr] at hn ⊢
 obtain ⟨p,hp⟩ : ∃ p,p=a2y (ysT z) (a0s z) r (a5l t z.hor)+(i - (a3w z t).length):=⟨_,rfl⟩
 rw [← hp]
 have h1 : ¬ (yAt (ysT z) (a0s z) r p).tm < a5l t z.hor:=fun h=>by
  have:=(a9t hck.sy hck.c0 hl hr p).1 h
  omega
 have hm:t≤a5l t z.hor∧z.hor≤a5l t z.hor:=by unfold a5l;split<;>omega
 refine ⟨.inr ⟨p % (ysT z).length,wJ _ hl,r.toNat+p / (ysT z).length,?_,by omega⟩,by omega⟩
 unfold yAt
 congr 3
 omega
theorem ach {z:a0w} (hg:Good z) {t:Int} {i j:Nat} {x y:Tr} (hij:i < j) (hx:a4y z t i=some x) (hy:a4y z t j=some y):x.tm+2160≤y.tm:=by
 have hck:=hg.ck
 refine a3n hg (a6q hg hx).1 (a6q hg hy).1 ?_
 have hTx:=(a6q hg hx)
 unfold a4y a2s at hx hy
 split at hx
 ·rename_i hi
  have hmx:x∈z.trans:=by
   cases hx;have:=a2h hi;unfold a3w at this ⊢;exact (uJ.1 this).1
  split at hy
  ·rename_i hj
   cases hx;cases hy
   have hs:(a3w z t).Pairwise fun a b=>a.tm < b.tm:=(aa6 hck.st).sublist (List.filter_sublist ..)
   have:=wH.1 hs i j hi hj hij
   rwa [← getD_at hi,← getD_at hj] at this
  split at hy
  ·cases hy
  rename_i hn
  cases hy
  have hl:0 < (ysT z).length:=by omega
  obtain ⟨r,hr⟩ : ∃ r,r=turns ((ysT z).getD 0 default).tm (a5l t z.hor) (a0s z):=⟨_,rfl⟩
  rw [← hr]
  have h1 : ¬ (yAt (ysT z) (a0s z) r (a2y (ysT z) (a0s z) r (a5l t z.hor)+(j - (a3w z t).length))).tm < a5l t z.hor:=fun h=>by
   have:=(a9t hck.sy hck.c0 hl hr _).1 h;omega
  have hm:z.hor≤a5l t z.hor:=by unfold a5l;split<;>omega
  obtain ⟨q,hq,rfl⟩:=zY.1 hmx
  have:=(hg.a.tr q hq).h
  rw [getD_at hq] at this
  omega
 split at hx
 ·cases hx
 rename_i hi hn
 cases hx
 rw [zS (by omega),zS hn] at hy
 cases hy
 exact ak0 hg _ (by omega) (by omega)
theorem akx {z:a0w} (hg:Good z) {t:Int} {y:Tr} (hy:IsT z y) (ht:t≤y.tm) : ∃ i,a4y z t i=some y:=by
 have hck:=hg.ck
 rcases hy with hy | ⟨i,hi,k,e,hh⟩
 ·have:y∈a3w z t:=uJ.2 ⟨hy,zV ht⟩
  obtain ⟨q,hq,rfl⟩:=zY.1 this
  exact ⟨q,by unfold a4y a2s;rw [zQ hq,getD_at hq]⟩
 have hl:0 < (ysT z).length:=by omega
 have hP:0 < a0s z * 1440:=by have:=hck.c0;omega
 have hn:=a2d (y0:=((ysT z).getD 0 default).tm) (t:=a5l t z.hor) hck.c0
 have hm:=a4r (y0:=((ysT z).getD 0 default).tm) (t:=a5l t z.hor) hck.c0
 obtain ⟨r,hr⟩ : ∃ r,r=turns ((ysT z).getD 0 default).tm (a5l t z.hor) (a0s z):=⟨_,rfl⟩
 have hY:=fun p=>a9t hck.sy hck.c0 hl hr p
 have hmx:a5l t z.hor≤y.tm:=by unfold a5l;split<;>omega
 rw [← hr] at hn hm
 obtain ⟨r',rfl⟩ : ∃ r':Nat,r=(r':Int):=⟨r.toNat,by omega⟩
 have hkr:r'≤k:=Nat.le_of_not_lt fun hlt=>by
  have h1:=a3y hg.gap hi
  have h2:((k:Int)+1) * (a0s z * 1440)≤(r':Int) * (a0s z * 1440):=yP (by omega) (by omega)
  rw [wI,uF] at h2
  have h3:0≤(k:Int) * (a0s z * 1440):=xX (by omega) (by omega)
  have h4:y.tm=((ysT z).getD i default).tm+(k:Int) * (a0s z * 1440):=by rw [e]
  split at hm<;>omega
 obtain ⟨d,rfl⟩ : ∃ d,k=r' + d:=⟨k - r',by omega⟩
 have e1:yAt (ysT z) (a0s z) (r':Int) (d * (ysT z).length+i)=y:=by
  rw [e]
  unfold yAt
  rw [Nat.mul_add_mod',Nat.mod_eq_of_lt hi,Nat.mul_comm,Nat.mul_add_div (by omega),Nat.div_eq_of_lt hi,uG]
  simp
 have h2:a2y (ysT z) (a0s z) (r':Int) (a5l t z.hor)≤d * (ysT z).length+i:=Nat.le_of_not_lt fun h=>by
  have:=(hY _).2 h
  rw [e1] at this
  omega
 refine ⟨(a3w z t).length+(d * (ysT z).length+i - a2y (ysT z) (a0s z) (r':Int) (a5l t z.hor)),?_⟩
 unfold a4y a2s
 rw [zS (by omega),zS (by omega),← hr,Nat.add_sub_cancel_left,Nat.add_sub_cancel' h2,e1]
theorem aam {z:a0w} {t:Int} {i j:Nat} (hij:i≤j) (h : ∃ x,a4y z t j=some x) : ∃ x,a4y z t i=some x:=by
 obtain ⟨x,h⟩:=h
 unfold a4y a2s at h ⊢
 split at h
 ·exact ⟨_,zQ (by omega)⟩
 split at h
 ·cases h
 rename_i h1 h2
 by_cases hi:i < (a3w z t).length
 ·exact ⟨_,zQ hi⟩
 exact ⟨_,by rw [zS hi,zS h2]⟩
theorem aci {z:a0w} (hg:Good z) {t:Int}:∀ {i:Nat} {x:Tr},a4y z t i=some x→t+2160 * (i:Int)≤x.tm
 | 0,x,h=>by have:=(a6q hg h).2;omega
 | i+1,x,h=>by
  obtain ⟨y,hy⟩:=aam (i:=i) (by omega) ⟨x,h⟩
  have h1:=aci hg hy
  have h2:=ach hg (xU i) hy h
  omega
theorem ae2 {nx:Nat→Option Tr} {u:Int} {N:Nat} (hN:N≤4096) (he:nx N=none∨∃ x,nx N=some x∧u≤x.tm) (hlt:∀ j,j < N→∃ x,nx j=some x∧x.tm < u) :
  ∀ (f i:Nat) (l:List Tr),i≤N→N < f+i→l.length=i→(∀ j,j < i→nx j=some (l.getD j default))→∃ l',a6k nx u f i l=some l'∧l'.length=N∧∀ j,j < N→nx j=some (l'.getD j default)
 | 0,i,l,h1,h2,_,_=>by omega
 | f+1,i,l,h1,h2,h3,h4=>by
  by_cases hi:i=N
  ·subst hi
   rcases he with he | ⟨x,hx,hu⟩
   ·exact ⟨l,aap he,h3,h4⟩
   ·exact ⟨l,by rw [a7k hx,zQ hu],h3,h4⟩
  ·obtain ⟨x,hx,hu⟩:=hlt i (by omega)
   rw [a7k hx,zS (by omega),zS (by omega)]
   refine ae2 hN he hlt f (i+1) (l ++ [x]) (by omega) (by omega) (by simp [h3]) fun j hj=>?_
   by_cases hji:j < i
   ·rw [h4 j hji,zB,zB,xF (by omega)]
   ·have:j=i:=by omega
    subst this
    rw [hx,zB,yZ (by omega),h3,vC]
    rfl
theorem ajc {z:a0w} (hg:Good z) {t u:Int} : ∃ N:Nat,(N:Int) * 2160≤max (u - t+2160) 0∧(a4y z t N=none∨∃ x,a4y z t N=some x∧u≤x.tm)∧∀ j,j < N→∃ x,a4y z t j=some x∧x.tm < u:=by
 have key:∀ n:Nat,(∀ j,j < n→∃ x,a4y z t j=some x∧x.tm < u)∨∃ N,N≤n∧(a4y z t N=none∨∃ x,a4y z t N=some x∧u≤x.tm)∧∀ j,j < N→∃ x,a4y z t j=some x∧x.tm < u:=by
  intro n
  induction n with
  | zero=>exact .inl fun j hj=>by omega
  | succ n ih =>
   rcases ih with ih | ⟨N,h1,h2⟩
   ·by_cases h : ∃ x,a4y z t n=some x∧x.tm < u
    ·refine .inl fun j hj=>?_
     by_cases hjn:j < n
     ·exact ih j hjn
     rw [show j=n by omega];exact h
    refine .inr ⟨n,by omega,?_,ih⟩
    cases hx:a4y z t n with
    | none=>exact .inl rfl
    | some x=>exact .inr ⟨x,rfl,Int.not_lt.1 fun hlt=>h ⟨x,hx,hlt⟩⟩
   exact .inr ⟨N,by omega,h2⟩
 rcases key ((u - t).toNat+1) with h | ⟨N,h1,h2,h3⟩
 ·obtain ⟨x,hx,hu⟩:=h (u - t).toNat (by omega)
  have:=aci hg hx
  omega
 refine ⟨N,?_,h2,h3⟩
 rcases N with _ | N
 ·omega
 obtain ⟨x,hx,hu⟩:=h3 N (by omega)
 have:=aci hg hx
 omega
structure asa (z:a0w) (t u:Int) (l:List Tr):Prop where
 isT:∀ x∈l,IsT z x∧t≤x.tm∧x.tm < u
 all:∀ y,IsT z y→t≤y.tm→y.tm < u→y∈l
 apart:∀ i j,i < j→j < l.length→(l.getD i default).tm+2160≤(l.getD j default).tm
 len:(l.length:Int) * 2160≤max (u - t+2160) 0
theorem anr {z:a0w} (hg:Good z) {t u:Int} (htu:u - t≤8800000) : ∃ l,a2i z (ysT z) (a0s z) t u=some l∧asa z t u l:=by
 obtain ⟨N,h1,h2,h3⟩:=ajc hg (t:=t) (u:=u)
 obtain ⟨l,e,hl,hj⟩:=ae2 (nx:=a2s z (ysT z) (a0s z) t) (u:=u) (N:=N) (by omega) h2 h3 4098 0 [] (by omega) (by omega) rfl (fun j hj=>by omega)
 refine ⟨l,e,?_,?_,?_,by rw [hl];exact h1⟩
 ·intro x hx
  obtain ⟨q,hq,rfl⟩:=zY.1 hx
  have h4:=hj q (by omega)
  rw [getD_at hq] at h4
  obtain ⟨x,h5,h6⟩:=h3 q (by omega)
  have h7:some x=some l[q]:=h5.symm.trans h4
  cases h7
  have:=a6q hg h4
  exact ⟨this.1,this.2,h6⟩
 ·intro y hy hty hyu
  obtain ⟨i,hi⟩:=akx hg hy hty
  have hiN:i < N:=Nat.lt_of_not_le fun hle=>by
   obtain ⟨x,hx⟩:=aam hle ⟨y,hi⟩
   rcases h2 with h2 | ⟨x',h2,h4⟩
   ·rw [h2] at hx;cases hx
   ·rcases wL hle with h | h
    ·have:=ach hg h h2 hi;omega
    ·subst h;rw [h2] at hi;cases hi;omega
  have h4:=hj i hiN
  have h5:some y=some (l.getD i default):=hi.symm.trans h4
  cases h5
  exact a2h (by omega)
 intro i j hij hjl
 exact ach hg hij (hj i (by omega)) (hj j (by omega))
end Zn
namespace Zn
theorem aii {z:a0w} (hg:Good z) {x:Tr} (hx:IsT z x) {t:Int} (h1:x.tm≤t) (h2:t < x.tm+2160):a2u z t=x.off:=by
 rw [← a7y hg h1 (fun y hy hyt=>Int.not_lt.1 fun hlt=>by have:=a3n hg hx hy hlt;omega)]
 exact a4b (a8a hg hx)
theorem abb {z:a0w} (hg:Good z) {x:Tr} (hx:IsT z x) {t:Int} (h1:t < x.tm) (h2:x.tm - 2160≤t):a2u z t=a2u z (x.tm - 1) :=
 a7y hg (by omega) (fun y hy hyt=>Int.not_lt.1 fun hlt=>by have:=a3n hg hy hx (by omega);omega)
theorem a5u {z:a0w} (hg:Good z) {loc t:Int}:t∈(a2w z loc).1↔t+a2u z t=loc:=(acb hg loc).mem t
theorem a4o {z:a0w} (hg:Good z) (loc:Int) :
  ((a2w z loc).1 = []∧∃ x,acr z loc x∧(a2w z loc).2.1=x.tm∧(a2w z loc).2.2=a2u z (x.tm - 1))∨(∃ a,(a2w z loc).1 = [a]∧a+a2u z a=loc)∨∃ a b,(a2w z loc).1 = [a,b]∧a < b∧a+a2u z a=loc∧b+a2u z b=loc:=by
 have h:=acb hg loc
 have h2:=a9k hg loc
 have hm:=h.mem
 have hs:=h.sorted
 have he:=h.gap
 generalize (a2w z loc).1=l at *
 match l,h2,hm,hs,he with
 | [],_,_,_,he=>exact .inl ⟨rfl,he rfl⟩
 | [a],_,hm,_,_=>exact .inr (.inl ⟨a,rfl,(hm a).1 (by simp)⟩)
 | [a,b],_,hm,hs,_=>exact .inr (.inr ⟨a,b,rfl,(wM.1 hs).1 b (by simp),(hm a).1 (by simp),(hm b).1 (by simp)⟩)
 | a :: b :: c :: r,h2,_,_,_=>simp at h2
theorem aqs {z:a0w} (hg:Good z) {x0:Tr} (hx0:IsT z x0) (hh:z.hor≤x0.tm) {n:Int} (hn:x0.tm≤n):a2u z (n+a0s z * 1440)=a2u z n:=by
 have hck:=hg.ck
 have hP:0 < a0s z * 1440:=by have:=hck.c0;omega
 have htr:∀ y∈z.trans,y.tm < z.hor:=fun y hy=>by
  obtain ⟨q,hq,rfl⟩:=zY.1 hy
  have:=(hg.a.tr q hq).h
  rwa [getD_at hq] at this
 have hsh:∀ y,IsT z y→z.hor≤y.tm→IsT z ⟨y.tm+a0s z * 1440,y.off⟩:=by
  rintro y (hy | ⟨i,hi,k,e,hk⟩) hyh
  ·have:=htr y hy;omega
  refine .inr ⟨i,hi,k+1,?_,by dsimp only;omega⟩
  rw [e]
  dsimp only
  congr 1
  have:((k+1:Nat):Int) * (a0s z * 1440)=(k:Int) * (a0s z * 1440)+a0s z * 1440:=by rw [Int.natCast_add,wI];simp
  omega
 rcases a3u hg n with ⟨_,h⟩ | ⟨x,e1,h1,h2,h3⟩
 ·have:=h x0 hx0;omega
 have hx0x:=h3 x0 hx0 hn
 have hX:=hsh x h1 (by omega)
 rcases a3u hg (n+a0s z * 1440) with ⟨_,h⟩ | ⟨y,e2,g1,g2,g3⟩
 ·have:=h _ hX
  dsimp only at this
  omega
 have h5:=g3 _ hX (by dsimp only;omega)
 dsimp only at h5
 have:y.tm=x.tm+a0s z * 1440:=by
  refine Int.le_antisymm (Int.not_lt.1 fun hlt=>?_) h5
  rcases g1 with hy | ⟨i,hi,k,e,hk⟩
  ·have:=htr y hy;omega
  rcases k with _|k
  ·rcases h1 with hy | ⟨i',hi',k',e',hk'⟩
   ·have:=htr x hy;omega
   have q1:=a3y hg.gap hi
   have q2:((ysT z).getD 0 default).tm≤((ysT z).getD i' default).tm:=by
    rcases yM i' with e | e
    ·rw [e];exact yR _
    exact wF (hck.sy _ _ e hi')
   have q3:0≤(k':Int) * (a0s z * 1440):=xX (by omega) (by omega);(have q4:x.tm=((ysT z).getD i' default).tm+(k':Int) * (a0s z * 1440):=by rw [e']);(have q5:y.tm=((ysT z).getD i default).tm+((0:Nat):Int) * (a0s z * 1440):=by rw [e]);simp only [Int.ofNat_zero,Int.zero_mul,Int.add_zero] at q5;omega
  have q5:y.tm=((ysT z).getD i default).tm+((k+1:Nat):Int) * (a0s z * 1440):=by rw [e]
  have q6:((k+1:Nat):Int) * (a0s z * 1440)=(k:Int) * (a0s z * 1440)+a0s z * 1440:=by rw [Int.natCast_add,wI];simp
  have q7:IsT z ⟨((ysT z).getD i default).tm+(k:Int) * (a0s z * 1440),((ysT z).getD i default).off⟩:=.inr ⟨i,hi,k,rfl,by dsimp only;omega⟩
  have:=h3 _ q7 (by dsimp only;omega)
  dsimp only at this
  omega
 have hyx:=aj0 hg g1 hX this
 rw [a4b e2,a4b e1,hyx]
end Zn
namespace Zn
def chainB (e:Int):List Tr→Bool
 | []=>true
 | [x]=>decide (x.tm+2160≤e)
 | x :: y :: r=>decide (x.tm+2160≤y.tm)&&chainB e (y :: r)
theorem ae1 {e:Int}:∀ {l:List Tr},chainB e l=true→∀ i,i < l.length→(l.getD i default).tm+2160≤(if i+1 < l.length then (l.getD (i+1) default).tm else e)
 | [],_,i,hi=>absurd hi (yA i)
 | [x],h,i,hi=>by
  have:i=0:=by simp at hi;omega
  subst this
  simpa [chainB] using h
 | x :: y :: r,h,i,hi=>by
  simp only [chainB,zN,zM] at h
  rcases i with _ | i
  ·simpa using h.1
  ·have:=ae1 h.2 i (by simpa using hi)
   simpa using this
theorem ae0 {cyc:Int} {l:List Tr} (h:chainB ((l.getD 0 default).tm+cyc * 1440) l=true):a4e l cyc:=fun i hi=>by
 have:=ae1 h i hi
 unfold a6j
 omega
theorem aho {cyc:Int} {l:List Tr} (h:chainB ((l.getD 0 default).tm+cyc * 1440) l=true):a4t l=l:=by
 have hg:=ae0 h
 have hp:PwT l:=aic.2 fun i j hij hj=>by
  rcases wL hij with h | rfl
  ·exact wF (a6p hg i j h hj)
  ·exact yR _
 exact (aid hp (ac1 l) (a5i l).symm hg).symm
theorem agf {c:Cal} (h:c.ok=true) {j k:Nat} (hjk:j≤k):a0z c j≤a0z c k:=by
 induction k with
 | zero=>rw [Nat.le_zero.1 hjk];exact yR _
 | succ k ih =>
  rcases wL hjk with h1 | rfl
  ·have:=ih (by omega)
   have:=a5p h (k+1);show _≤a0z c k+a4f c (k+1);omega
  exact yR _
theorem alb {z:a0w} {k:Nat} (hc:z.cal.ok=true) (h2:z.a0b.length=2) (h3:a0z z.cal k < a0s z) (h4:a0s z≤a0z z.cal (k+1)) (hch:chainB (((raw z (k+1)).getD 0 default).tm+a0s z * 1440) (raw z (k+1))=true):ysT z=raw z (k+1)∧a4e (raw z (k+1)) (a0s z):=by
 have hk:kT z=k+1:=ami hc (fun j hj=>by have:=agf hc (show j≤k by omega);omega) h4
 refine ⟨?_,ae0 hch⟩
 unfold ysT
 rw [zS (by omega),hk,aho hch]
theorem a3g:a0s a15=146097:=by decide +kernel
set_option maxRecDepth 100000 in
theorem ad1:chainB (((raw a15 400).getD 0 default).tm+146097 * 1440) (raw a15 400)=true:=by decide +kernel
theorem a4s:ysT a15=raw a15 400∧a4e (raw a15 400) (a0s a15) :=
 alb (k:=399) (by decide) rfl (by rw [a3g];decide +kernel) (by rw [a3g];decide +kernel) (by rw [a3g];exact ad1)
theorem aik {z:a0w} (h:z.trans = []):∀ i,i < z.trans.length→a9d z i:=fun i hi=>by rw [h] at hi;exact absurd hi (yA i)
theorem a2n:Good a15:=by
 refine ⟨⟨⟨by decide,by decide,by decide,by decide,by decide,by decide⟩,aik rfl,.inr rfl,fun i hi=>?_⟩,by rw [a4s.1];exact a4s.2,fun h=>absurd h (yA _)⟩
 match i,hi with
 | 0,_=>exact ⟨by decide,by decide,by decide,by decide,by decide,by decide,by decide,by decide,by decide,by decide⟩
 | 1,_=>exact ⟨by decide,by decide,by decide,by decide,by decide,by decide,by decide,by decide,by decide,by decide⟩
 | i+2,h=>exact absurd h (by simp [a15])
theorem a1y:a0s small=14:=by decide +kernel
theorem a9g:ysT small = [⟨0,60⟩,⟨10020,0⟩]∧a4e (ysT small) (a0s small):=by
 have h:=alb (z:=small) (k:=0) (by decide) rfl (by rw [a1y];decide +kernel) (by rw [a1y];decide +kernel) (by rw [a1y];decide +kernel)
 have e:raw small 1 = [⟨0,60⟩,⟨10020,0⟩]:=by decide +kernel
 exact ⟨h.1.trans e,by rw [h.1];exact h.2⟩
theorem a5j:Good small:=by
 refine ⟨⟨⟨by decide,by decide,by decide,by decide,by decide,by decide⟩,aik rfl,.inr rfl,fun i hi=>?_⟩,a9g.2,fun h=>absurd h (yA _)⟩
 match i,hi with
 | 0,_=>exact ⟨by decide,by decide,by decide,by decide,by decide,by decide,by decide,by decide,by decide,by decide⟩
 | 1,_=>exact ⟨by decide,by decide,by decide,by decide,by decide,by decide,by decide,by decide,by decide,by decide⟩
 | i+2,h=>exact absurd h (by simp [small])
theorem ai6:a2l a15=0:=by
 unfold a2l
 rw [zS (by decide),zQ (a0v.2 a2n)]
theorem ama:adz a15 0 500000=([⟨129660,120⟩,⟨442140,60⟩],0):=by
 have e:a2i a15 (raw a15 400) 146097 0 500000=some [⟨129660,120⟩,⟨442140,60⟩]:=by decide +kernel
 unfold adz
 rw [zQ ⟨a0v.2 a2n,by omega,by omega,by omega⟩,a4s.1,a3g,e]
theorem ai7 {t o:Int} (h:a5a a15 (raw a15 400) 146097 t=o) (h1 : -2251799813685248≤t∧t≤2251799813685248):ac8 a15 t=(o,0):=by
 unfold ac8 a2u
 rw [zQ ⟨a0v.2 a2n,h1⟩,a4s.1,a3g,h]
theorem ak8:ac8 a15 129659=(60,0):=ai7 (by decide +kernel) (by omega)
theorem ak7:ac8 a15 129660=(120,0):=ai7 (by decide +kernel) (by omega)
theorem am9:aip a15 129690=(129810,0):=by
 have e:a5a a15 (raw a15 400) 146097 129690=120:=by decide +kernel
 unfold aip a2u
 rw [zQ ⟨a0v.2 a2n,by omega,by omega⟩,a4s.1,a3g,e]
 rfl
theorem aep {loc gap fold:Int} {l:List Int} (r:List Int×Int×Int) (h:a3f a15 (raw a15 400) 146097 loc=r) (h1 : -2251799813684168≤loc∧loc≤2251799813684168) (h2:0≤gap∧gap≤2) (h3:0≤fold∧fold≤2) (hl:agw r loc gap fold=l):a4x a15 loc gap fold=(l,0):=by
 unfold a4x a2w
 rw [zQ ⟨a0v.2 a2n,h1,h2.1,h2.2,h3.1,h3.2⟩,a4s.1,a3g,h,hl]
theorem aeq:a3f a15 (raw a15 400) 146097 129750=([],129660,60):=by decide +kernel
theorem afy {z:a0w} (hg:Good z) {loc a b:Int} (hab:a < b) (ha:a+a2u z a=loc) (hb:b+a2u z b=loc):(a2w z loc).1 = [a,b]:=by
 have h1:=(a5u hg).2 ha
 have h2:=(a5u hg).2 hb
 rcases a4o hg loc with ⟨e,_⟩ | ⟨c,e,_⟩ | ⟨c,d,e,hcd,_,_⟩
 ·rw [e] at h1;cases h1
 ·rw [e] at h1 h2;simp at h1 h2;omega
 rw [e] at h1 h2 ⊢
 simp at h1 h2
 rcases h1 with rfl | rfl<;>rcases h2 with rfl | rfl<;>first | omega | rfl
theorem ab3 {t o:Int} (h:a5a a15 (raw a15 400) 146097 t=o):a2u a15 t=o:=by
 unfold a2u
 rw [a4s.1,a3g,h]
theorem afo:(a2w a15 442230).1 = [442110,442170] :=
 afy a2n (by omega) (by rw [ab3 (t:=442110) (o:=120) (by decide +kernel)];rfl) (by rw [ab3 (t:=442170) (o:=60) (by decide +kernel)];rfl)
theorem ao6:a4x a15 129750 0 0=([],0):=aep _ aeq (by omega) (by omega) (by omega) rfl
theorem ao5:a4x a15 129750 1 0=([129690],0):=aep _ aeq (by omega) (by omega) (by omega) rfl
theorem ao4:a4x a15 129750 2 0=([129660],0):=aep _ aeq (by omega) (by omega) (by omega) rfl
theorem ao3:a4x a15 442230 0 2=([442110,442170],0):=by
 unfold a4x
 rw [zQ ⟨a0v.2 a2n,by omega,by omega,by omega,by omega,by omega⟩]
 unfold agw
 rw [afo]
 rfl
theorem ao2:a4x a15 442230 0 1=([442170],0):=by
 unfold a4x
 rw [zQ ⟨a0v.2 a2n,by omega,by omega,by omega,by omega,by omega⟩]
 unfold agw
 rw [afo]
 rfl
theorem ad6 {t o:Int} (h:a5a small [⟨0,60⟩,⟨10020,0⟩] 14 t=o):a2u small t=o:=by
 unfold a2u
 rw [a9g.1,a1y,h]
theorem ak9:a6i small 10030=(2,0):=by
 have e:(a2w small 10030).1 = [9970,10030]:=afy a5j (by omega) (by rw [ad6 (t:=9970) (o:=60) (by decide +kernel)];rfl) (by rw [ad6 (t:=10030) (o:=0) (by decide +kernel)];rfl)
 unfold a6i
 rw [zQ ⟨a0v.2 a5j,by omega,by omega⟩,e]
 rfl
def agd:a0w:=⟨⟨0,[],0,[]⟩,0,[],0,[]⟩
theorem ak6:a2l agd=1:=by
 unfold a2l
 rw [zS (by decide),zS (by rw [acg (fun h=>by have:=h.a.hd.cal;revert this;decide)];decide)]
end Zn
namespace Zn
theorem ak4 {l l':List Int} (hp:l'.Perm l) (hs:l'.Pairwise fun a b=>a < b):a2z l=l':=by
 have h1:(a2z l).Pairwise fun a b=>a≤b:=by
  have:(a2z l).Pairwise fun a b=>decide (a≤b)=true:=List.pairwise_mergeSort (fun a b c h1 h2=>by simp at *;omega) (fun a b=>by simp;omega) l
  exact this.imp fun h=>wV h
 exact List.Perm.eq_of_pairwise (le:=fun a b:Int=>a≤b) (fun _ _ _ _ h1 h2=>Int.le_antisymm h1 h2) h1 (hs.imp fun h=>wF h) ((a4n l).trans hp.symm)
def ao0 (p:Per):Nat:=((List.range (a18 p.period p.cycle).2.length).find? fun i=>a8o p (a18 p.period p.cycle).1 (a18 p.period p.cycle).2 i).getD 0
def a7s (p:Per):Per:=a7a p (ao0 p)
def akh (p:Pc):Int×Int:=(p.nf,p.nt)
def ak1 (p:Pc):Int×Int:=(p.uf,p.ut)
instance (p:Per):Decidable (ajo p):=decidable_of_iff (0≤p.from_∧p.from_≤1099511627776∧1≤p.period∧p.period≤1099511627776∧p.head.length+p.cycle.length≤1048576∧aa4 p.from_ (-1) p.head=true∧aa4 p.period (-1) p.cycle=true) ⟨fun ⟨a,b,c,d,e,f,g⟩=>⟨a,b,c,d,e,f,g⟩,fun h=>⟨h.f0,h.f1,h.p0,h.p1,h.n,h.h,h.c⟩⟩
instance (p:Per) (d:Int) (c:List Int) (i:Nat):Decidable (aq9 p d c i):=decidable_of_iff ((∀ j,j < i→a8o p d c j=false)∧a8o p d c i=true∧i < c.length) ⟨fun ⟨a,b,c⟩=>⟨a,b,c⟩,fun h=>⟨h.no,h.yes,h.lt⟩⟩
theorem a2k:fromD small=3:=by
 have e:a1w small [⟨0,60⟩,⟨10020,0⟩] 14=0:=by decide +kernel
 unfold fromD
 rw [a9g.1,a1y,e]
 rfl
theorem afn:pcZ small=pcN small [⟨0,60⟩,⟨10020,0⟩] 14 28800:=by
 unfold pcZ
 rw [a2k,a9g.1,a1y]
 rfl
theorem ab7:acv small akh 30 = [(60,[⟨1,7⟩,⟨15,17⟩]),(0,[⟨7,14⟩])]:=by
 unfold acv
 rw [afn,a2k,a1y]
 decide +kernel
theorem ab6:acv small ak1 0 = [(60,[⟨0,7⟩,⟨14,17⟩]),(0,[⟨7,14⟩])]:=by
 unfold acv
 rw [afn,a2k,a1y]
 decide +kernel
structure arx (p:Per):Prop where
 ok:ajo p
 ne:p.cycle≠[]
 one:aq9 p (a18 p.period p.cycle).1 (a18 p.period p.cycle).2 (ao0 p)
theorem set1:arx (a9y 3 14 [⟨1,7⟩,⟨15,17⟩]):=⟨by decide +kernel,by decide +kernel,by decide +kernel⟩
theorem set2:arx (a9y 3 14 [⟨7,14⟩]):=⟨by decide +kernel,by decide +kernel,by decide +kernel⟩
theorem aqh:arx (a9y 3 14 [⟨0,7⟩,⟨14,17⟩]):=⟨by decide +kernel,by decide +kernel,by decide +kernel⟩
theorem aaq {p q:Per} {i:Nat} (h1:p.head.take (p.head.length - i)=q.head) (h2:a3q p (a18 p.period p.cycle).1 (a18 p.period p.cycle).2 i=q.from_) (h3:(a18 p.period p.cycle).1=q.period)
  (h4:q.cycle.Perm ((a18 p.period p.cycle).2.map fun x=>(p.from_+x - a3q p (a18 p.period p.cycle).1 (a18 p.period p.cycle).2 i) % (a18 p.period p.cycle).1)) (h5:q.cycle.Pairwise fun a b=>a < b):a7a p i=q:=by
 unfold a7a
 rw [ak4 h4 h5,h1,h2,h3]
theorem can1:a7s (a9y 3 14 [⟨1,7⟩,⟨15,17⟩])=⟨[],0,14,[1,2,3,4,5,6]⟩:=aaq (by decide +kernel) (by decide +kernel) (by decide +kernel) (List.isPerm_iff.1 (by decide +kernel)) (by decide)
theorem can2:a7s (a9y 3 14 [⟨7,14⟩])=⟨[],0,14,[7,8,9,10,11,12,13]⟩:=aaq (by decide +kernel) (by decide +kernel) (by decide +kernel) (List.isPerm_iff.1 (by decide +kernel)) (by decide)
theorem can3:a7s (a9y 3 14 [⟨0,7⟩,⟨14,17⟩])=⟨[],0,14,[0,1,2,3,4,5,6]⟩:=aaq (by decide +kernel) (by decide +kernel) (by decide +kernel) (List.isPerm_iff.1 (by decide +kernel)) (by decide)
theorem aeo:a4c a7s small 30 akh=([(0,⟨[],0,14,[7,8,9,10,11,12,13]⟩),(60,⟨[],0,14,[1,2,3,4,5,6]⟩)],0):=by
 unfold a4c
 rw [zQ ⟨a0v.2 a5j,by omega,by omega⟩,zS (by rw [a2k];omega),ab7,zS (by decide +kernel),a2k,a1y]
 have e:resD a7s 3 14 [(60,[⟨1,7⟩,⟨15,17⟩]),(0,[⟨7,14⟩])] = [(60,⟨[],0,14,[1,2,3,4,5,6]⟩),(0,⟨[],0,14,[7,8,9,10,11,12,13]⟩)]:=by
  unfold resD
  simp only [List.map_cons,List.map_nil]
  rw [can1,can2]
 rw [e,← ac2 (l:=[(60,⟨[],0,14,[1,2,3,4,5,6]⟩),(0,⟨[],0,14,[7,8,9,10,11,12,13]⟩)]) (l':=[(0,⟨[],0,14,[7,8,9,10,11,12,13]⟩),(60,⟨[],0,14,[1,2,3,4,5,6]⟩)]) (List.Perm.swap _ _ _) (by simp) (by simp)]
theorem aen:a4c a7s small 0 ak1=([(0,⟨[],0,14,[7,8,9,10,11,12,13]⟩),(60,⟨[],0,14,[0,1,2,3,4,5,6]⟩)],0):=by
 unfold a4c
 rw [zQ ⟨a0v.2 a5j,by omega,by omega⟩,zS (by rw [a2k];omega),ab6,zS (by decide +kernel),a2k,a1y]
 have e:resD a7s 3 14 [(60,[⟨0,7⟩,⟨14,17⟩]),(0,[⟨7,14⟩])] = [(60,⟨[],0,14,[0,1,2,3,4,5,6]⟩),(0,⟨[],0,14,[7,8,9,10,11,12,13]⟩)]:=by
  unfold resD
  simp only [List.map_cons,List.map_nil]
  rw [can3,can2]
 rw [e,← ac2 (l:=[(60,⟨[],0,14,[0,1,2,3,4,5,6]⟩),(0,⟨[],0,14,[7,8,9,10,11,12,13]⟩)]) (l':=[(0,⟨[],0,14,[7,8,9,10,11,12,13]⟩),(60,⟨[],0,14,[0,1,2,3,4,5,6]⟩)]) (List.Perm.swap _ _ _) (by simp) (by simp)]
theorem adw {z:a0w} (hg:Good z) {t:Int} (hL:∀ y,IsT z y→0≤y.tm):∀ {i:Nat} {x:Tr},a4y z t i=some x→2160 * (i:Int)≤x.tm
 | 0,x,h=>by have:=hL x (a6q hg h).1;omega
 | i+1,x,h=>by
  obtain ⟨y,hy⟩:=aam (i:=i) (by omega) ⟨x,h⟩
  have h1:=adw hg hL hy
  have h2:=ach hg (xU i) hy h
  omega
theorem ao9 {z:a0w} (hg:Good z) (hL:∀ y,IsT z y→0≤y.tm) (he:(fromD z+a0s z+3) * 1440≤2000000000):afa z:=by
 intro i h
 rcases h with rfl | ⟨p,hp⟩
 ·omega
 rcases i with _ | i
 ·omega
 have hp:pcZ z i=some p:=hp
 rcases i with _ | i
 ·omega
 unfold pcZ pcN at hp
 simp only [pcS] at hp
 split at hp
 ·cases hp
 rename_i y hy
 split at hp
 ·cases hp
 have:=adw hg hL (t := -2251799813685248) (i:=i) (x:=y) hy
 omega
theorem ad7:afa small:=ao9 a5j (fun y hy=>by
 rcases hy with hy | ⟨i,_,k,e,hh⟩
 ·cases hy
 ·exact hh) (by rw [a2k,a1y];omega)
end Zn
