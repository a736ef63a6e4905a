/-
  Plain: Same tells whether the offsets are the same everywhere.
-/
import Derived.Test.YtppjleebbjipbaaGreatQkZvb
set_option linter.all false
namespace Zn
theorem from0_none {z:a0w} (h:a2s z (ysT z) (a0s z) z.hor 0=none):(ysT z).length=0:=by
 unfold a2s at h
 split at h
 ·cases h
 split at h
 ·rename_i h2;exact h2
 cases h
theorem trans_last {z:a0w} (hg:Good z) {y:Tr} (hy:y∈z.trans):0 < z.trans.length∧y.tm≤(z.trans.getD (z.trans.length - 1) default).tm:=by
 obtain ⟨q,hq,rfl⟩:=zY.1 hy
 refine ⟨by omega,?_⟩
 rw [← getD_at hq]
 rcases Nat.eq_or_lt_of_le (show q≤z.trans.length - 1 by omega) with h | h
 ·rw [h];exact yR _
 have:=abz (fun i hi=>hg.a.tr i hi) (z.trans.length - 1 - q - 1) q (by omega)
 rw [show q+(z.trans.length - 1 - q - 1+1)=z.trans.length - 1 by omega] at this
 omega
theorem settled_rep {z:a0w} (hg:Good z) {n:Int} (hn:a1w z (ysT z) (a0s z)≤n):a2u z (n+a0s z * 1440)=a2u z n:=by
 cases hx:a2s z (ysT z) (a0s z) z.hor 0 with
 | some x =>
  have h1:=a6q hg (show a4y z z.hor 0=some x from hx)
  refine aqs hg h1.1 h1.2 ?_
  have:a1w z (ysT z) (a0s z)=x.tm:=by unfold a1w;rw [hx]
  omega
 | none =>
  have h0:=from0_none hx
  have hc:=hg.ck.c0
  refine (a7y hg (by omega) (fun y hy _=>?_)).symm
  rcases hy with hy | ⟨i,hi,_⟩
  ·have h2:=trans_last hg hy
   (have:a1w z (ysT z) (a0s z)=(z.trans.getD (z.trans.length - 1) default).tm:=by unfold a1w;rw [hx];dsimp only;rw [zQ h2.1]);omega
  omega
theorem settled_reps {z:a0w} (hg:Good z) {n:Int} (hn:a1w z (ysT z) (a0s z)≤n):∀ k:Nat,a2u z (n+(k:Int) * (a0s z * 1440))=a2u z n
 | 0=>by simp
 | k+1=>by
  have hc:=hg.ck.c0
  have h0:0≤(k:Int) * (a0s z * 1440):=xX (by omega) (by omega)
  have h1:=settled_rep hg (n:=n+(k:Int) * (a0s z * 1440)) (by omega)
  have h2:=settled_reps hg hn k
  rw [show n+((k+1:Nat):Int) * (a0s z * 1440)=n+(k:Int) * (a0s z * 1440)+a0s z * 1440 by rw [Int.natCast_add,wI];omega,h1,h2]
end Zn
namespace Zn
theorem made_cal (x:Raw):(made x).cal=a0t x:=by unfold made;split<;>rfl
structure SmallC (z:a0w):Prop where
 e0:2≤z.cal.a08
 e1:z.cal.a08≤5
 m2:z.cal.a0g.length=2
 l0:∀ y,7≤a97 z.cal y 0∧a97 z.cal y 0≤8
 l1:∀ y,6≤a97 z.cal y 1∧a97 z.cal y 1≤9
theorem small_cal (x:Raw):2≤(a0t x).a08∧(a0t x).a08≤5∧(a0t x).a0g.length=2∧(∀ y,7≤a97 (a0t x) y 0∧a97 (a0t x) y 0≤8)∧(∀ y,6≤a97 (a0t x) y 1∧a97 (a0t x) y 1≤9):=by
 unfold a0t
 split
 ·refine ⟨show (2:Int)≤5 by decide,show (5:Int)≤5 by decide,rfl,fun y=>?_,fun y=>?_⟩
  ·show 7≤(7:Int)+(if _ then 1 else 0)∧(7:Int)+(if _ then 1 else 0)≤8
   split<;>omega
  show 6≤(8:Int)+(if _ then 1 else 0)∧(8:Int)+(if _ then 1 else 0)≤9
  split<;>omega
 refine ⟨by decide,by decide,rfl,fun y=>?_,fun y=>?_⟩
 ·show 7≤(7:Int)+(if _ then 1 else 0)∧(7:Int)+(if _ then 1 else 0)≤8
  split<;>omega
 show 6≤(6:Int)+(if _ then 1 else 0)∧(6:Int)+(if _ then 1 else 0)≤9
 split<;>omega
theorem made_small (x:Raw):SmallC (made x):=by
 obtain ⟨h1,h2,h3,h4,h5⟩:=small_cal x
 rw [← made_cal x] at h1 h2 h3 h4 h5
 exact ⟨h1,h2,h3,h4,h5⟩
theorem SmallC.year {z:a0w} (h:SmallC z) (y:Int):13≤a4f z.cal y∧a4f z.cal y≤17:=by
 have h0:=h.l0 y
 have h1:=h.l1 y
 have e:a4f z.cal y=0+a97 z.cal y 0+a97 z.cal y 1:=by unfold a4f;rw [h.m2];rfl
 omega
theorem SmallC.a5b {z:a0w} (h:SmallC z):∀ k:Nat,13 * (k:Int)≤a0z z.cal k
 | 0=>by simp [a0z]
 | k+1=>by
  have h1:=h.a5b k
  have h2:=h.year ((k:Int)+1)
  have e:a0z z.cal (k+1)=a0z z.cal k+a4f z.cal ((k:Int)+1):=rfl
  omega
theorem yday_yes {c:Cal} {b y:Int} {r:YR} (hw:1≤r.wk) (h:(a8x c b y r).2=true):b+a6z c y (r.mon.toNat - 1)≤(a8x c b y r).1∧(a8x c b y r).1 < b+a6z c y (r.mon.toNat - 1)+a97 c y (r.mon.toNat - 1):=by
 unfold a8x at h ⊢
 dsimp only at h ⊢
 generalize a6z c y (r.mon.toNat - 1)=s at *
 generalize a97 c y (r.mon.toNat - 1)=l at *
 split at h
 ·rename_i h5
  rw [zQ h5]
  simp only [zM] at h
  have:=wP (b+s+l - 1 - r.wd) (show (7:Int)≠0 by omega)
  dsimp only
  omega
 rename_i h5
 rw [zS h5]
 simp only [zM] at h
 have:=wP (r.wd - (b+s)) (show (7:Int)≠0 by omega)
 dsimp only
 omega
theorem rawAt_small {z:a0w} (hz:Zok z) (hs:SmallC z) (h2:z.a0b.length=2) {k j:Nat} (hj:j < 2) {x:Tr} (hx:x∈a6f z k j):(z.cal.a08+a0z z.cal k) * 1440 - 1080≤x.tm∧x.tm≤(z.cal.a08+a0z z.cal k+17) * 1440+2519:=by
 have hr:=hz.yr j (by omega)
 have ht:=hz.yr (1 - j) (by omega)
 unfold a6f at hx
 dsimp only at hx
 split at hx
 ·rename_i hy
  have h1:=yday_yes hr.k0 hy
  simp only [yD] at hx
  subst hx
  dsimp only
  have:=hr.n0;have:=hr.n1;have:=ht.o0;have:=ht.o1;have m0:=hr.m0;have m1:=hr.m1
  rw [hs.m2] at m1
  have l0:=hs.l0 ((k:Int)+1)
  have l1:=hs.l1 ((k:Int)+1)
  generalize a8x z.cal (z.cal.a08+a0z z.cal k) ((k:Int)+1) (z.a0b.getD j default)=d at *
  rcases (show (z.a0b.getD j default).mon=1∨(z.a0b.getD j default).mon=2 by omega) with h | h
  ·rw [h] at h1
   have e:a6z z.cal ((k:Int)+1) ((1:Int).toNat - 1)=0:=rfl;have e2:a97 z.cal ((k:Int)+1) ((1:Int).toNat - 1)=a97 z.cal ((k:Int)+1) 0:=rfl;rw [e,e2] at h1;omega
  rw [h] at h1
  have e:a6z z.cal ((k:Int)+1) ((2:Int).toNat - 1)=0+a97 z.cal ((k:Int)+1) 0:=rfl
  have e2:a97 z.cal ((k:Int)+1) ((2:Int).toNat - 1)=a97 z.cal ((k:Int)+1) 1:=rfl
  rw [e,e2] at h1
  omega
 cases hx
theorem raw_small {z:a0w} (hz:Zok z) (hs:SmallC z) (h2:z.a0b.length=2):∀ {k:Nat} {x:Tr},x∈raw z k→0≤x.tm∧∃ j,j < k∧x.tm≤(a0z z.cal j+22) * 1440+2519
 | 0,x,h=>by cases h
 | k+1,x,h=>by
  have he:=hs.e0
  have he1:=hs.e1
  have hy:=hs.a5b k
  rcases yJ.1 h with h | h
  ·obtain ⟨h3,j,hj,h4⟩:=raw_small hz hs h2 h
   exact ⟨h3,j,by omega,h4⟩
  ·have h9 : ∃ j,j < 2∧x∈a6f z k j:=by
    have h:x∈a6f z k 0++a6f z k 1:=h
    rcases yJ.1 h with h | h
    ·exact ⟨0,by omega,h⟩
    ·exact ⟨1,by omega,h⟩
   obtain ⟨j,hj,h⟩:=h9
   have h5:=rawAt_small hz hs h2 hj h
   exact ⟨by omega,k,by omega,by omega⟩
theorem made_cyc {z:a0w} (mk:arz z):(a0s z=1∧ysT z = [])∨(z.a0b.length=2∧(a0s z=91∨a0s z=217)):=by
 rcases mk.good.a.yl with h | h
 ·exact .inl ⟨by unfold a0s;rw [zQ h],by unfold ysT;rw [zQ h]⟩
 refine .inr ⟨h,?_⟩
 unfold a0s
 rw [zS (by omega)]
 rcases mk.days with d | d
 ·rw [d];exact .inl (by decide)
 rw [d];exact .inr (by decide)
theorem ys_small {z:a0w} (mk:arz z) (hs:SmallC z):(∀ x,x∈ysT z→0≤x.tm∧x.tm≤345239)∧13 * ((ysT z).length:Int) < 2 * a0s z+26:=by
 rcases made_cyc mk with ⟨hc,hy⟩ | ⟨h2,hc⟩
 ·rw [hy,hc]
  exact ⟨fun x h=>(by cases h),by simp⟩
 have hk:=aiz mk.good.a.hd.cal
 have hp:(ysT z).Perm (raw z (kT z)):=by unfold ysT;rw [zS (by omega)];exact a5i _
 have hle:a0s z≤217:=by omega
 refine ⟨fun x hx=>?_,?_⟩
 ·obtain ⟨h3,j,hj,h4⟩:=raw_small mk.good.a.zok hs h2 (hp.mem_iff.1 hx)
  have:=hk.1 j hj
  omega
 have h3:=a7e z (kT z)
 rw [← hp.length_eq] at h3
 rcases yM (kT z) with h0 | h0
 ·rw [h0] at h3
  omega
 have h4:=hk.1 (kT z - 1) (by omega)
 have h5:=hs.a5b (kT z - 1)
 omega
theorem made_low {z:a0w} (mk:arz z) {y:Tr} (hy:IsT z y):2160≤y.tm:=by
 rcases hy with h | ⟨i,hi,k,e,h⟩
 ·exact (mk.t0 y h).1
 have:=mk.h0
 omega
theorem settled_small {z:a0w} (mk:arz z) (hs:SmallC z):0≤a1w z (ysT z) (a0s z)∧a1w z (ysT z) (a0s z)≤345239:=by
 cases hx:a2s z (ysT z) (a0s z) z.hor 0 with
 | some x =>
  have h1:=a6q mk.good (show a4y z z.hor 0=some x from hx)
  have e:a1w z (ysT z) (a0s z)=x.tm:=by unfold a1w;rw [hx]
  rw [e]
  have h2:=made_low mk h1.1
  refine ⟨by omega,?_⟩
  rcases yM (ysT z).length with h0 | h0
  ·rcases h1.1 with h | ⟨i,hi,_⟩
   ·have:=(mk.t0 x h).2;omega
   omega
  have hy0:=(ys_small mk hs).1 ((ysT z).getD 0 default) (a2h h0)
  have hc:91≤a0s z∧a0s z≤217:=by
   rcases made_cyc mk with ⟨_,hy⟩ | ⟨_,hc⟩
   ·rw [hy] at h0;exact absurd h0 (uB 0)
   omega
  have hh:=mk.h1
  by_cases hh0:z.hor≤((ysT z).getD 0 default).tm
  ·obtain ⟨x',h3,h4⟩:=ahj mk.good (i:=0) (k:=0) h0 (by rw [show ((0:Nat):Int) * (a0s z * 1440)=0 by simp];omega)
   rw [hx] at h3;cases h3;rw [show ((0:Nat):Int) * (a0s z * 1440)=0 by simp] at h4;omega
  obtain ⟨x',h3,h4⟩:=ahj mk.good (i:=0) (k:=1) h0 (by rw [show ((1:Nat):Int) * (a0s z * 1440)=a0s z * 1440 by simp];omega)
  rw [hx] at h3
  cases h3
  rw [show ((1:Nat):Int) * (a0s z * 1440)=a0s z * 1440 by simp] at h4
  omega
 | none =>
  unfold a1w
  rw [hx]
  dsimp only
  split
  ·rename_i h0
   have:=mk.t0 _ (a2h (show z.trans.length - 1 < z.trans.length by omega));omega
  omega
end Zn
namespace Zn
theorem mem_getD_iff {l:List Int} {x:Int}:x∈l↔∃ i,i < l.length∧l.getD i 0=x:=by
 constructor
 ·intro h
  obtain ⟨i,hi,e⟩:=List.getElem_of_mem h
  exact ⟨i,hi,by rw [zB,zK hi];exact e⟩
 rintro ⟨i,hi,e⟩
 rw [← e,zB,zK hi]
 exact yT hi
theorem getD_mem0 {l:List Int} {i:Nat} (h:i < l.length):l.getD i 0∈l:=mem_getD_iff.2 ⟨i,h,rfl⟩
theorem take_getD {l:List Int} {k i:Nat} (h:i < k):(l.take k).getD i 0=l.getD i 0:=by
 rw [zB,zB,List.getElem?_take_of_lt h]
theorem drop_getD {l:List Int} {k i:Nat}:(l.drop k).getD i 0=l.getD (k+i) 0:=by
 rw [zB,zB,uN]
structure Ris (per:Int) (l:List Int):Prop where
 b:∀ x∈l,0≤x∧x < per
 s:l.Pairwise fun a b=>a < b
theorem ris_of {per:Int} {l:List Int} (h:aa4 per (-1) l=true):Ris per l:=⟨a3s h,aa3 h⟩
theorem ris_to {per:Int}:∀ {l:List Int} {last:Int},(∀ x∈l,last < x∧x < per)→l.Pairwise (fun a b=>a < b)→aa4 per last l=true
 | [],_,_,_=>rfl
 | n :: r,last,hb,hs=>by
  have h1:=hb n (yV ..)
  have h2:=wM.1 hs
  simp only [aa4,zN,zM]
  exact ⟨h1.1,h1.2,ris_to (fun x hx=>⟨h2.1 x hx,(hb x (yY _ hx)).2⟩) h2.2⟩
theorem Ris.to {per:Int} {l:List Int} (h:Ris per l):aa4 per (-1) l=true:=ris_to (fun x hx=>by have:=h.b x hx;omega) h.s
theorem Ris.lt {per:Int} {l:List Int} (h:Ris per l) {i j:Nat} (hij:i < j) (hj:j < l.length):l.getD i 0 < l.getD j 0:=risB_at h.to hij hj
theorem Ris.le {per:Int} {l:List Int} (h:Ris per l) {i j:Nat} (hij:i≤j) (hj:j < l.length):l.getD i 0≤l.getD j 0:=by
 rcases Nat.eq_or_lt_of_le hij with e | e
 ·rw [e];exact yR _
 exact wF (h.lt e hj)
theorem Ris.inj {per:Int} {l:List Int} (h:Ris per l) {i j:Nat} (hi:i < l.length) (hj:j < l.length) (e:l.getD i 0=l.getD j 0):i=j:=by
 rcases vO i j with k | k | k
 ·have:=h.lt k hj;omega
 ·exact k
 have:=h.lt k hi;omega
theorem Ris.at_ {per:Int} {l:List Int} (h:Ris per l) {i:Nat} (hi:i < l.length):0≤l.getD i 0∧l.getD i 0 < per:=h.b _ (getD_mem0 hi)
theorem srt_ext {a b:List Int} (ha:a.Pairwise fun x y=>x < y) (hb:b.Pairwise fun x y=>x < y) (h:∀ x,x∈a↔x∈b):a=b:=by
 have na:a.Nodup:=ha.imp fun h=>Int.ne_of_lt h
 have nb:b.Nodup:=hb.imp fun h=>Int.ne_of_lt h
 exact List.Perm.eq_of_pairwise (le:=fun a b:Int=>a≤b) (fun _ _ _ _ h1 h2=>Int.le_antisymm h1 h2) (ha.imp fun h=>wF h) (hb.imp fun h=>wF h) ((List.perm_ext_iff_of_nodup na nb).2 h)
theorem samA_iff {l:List Int} {d:Int} {k:Nat}:∀ {f i:Nat},alh l d k f i=true↔∀ j,i≤j→j < i+f→l.getD j 0=l.getD (j - k) 0+d
 | 0,i=>⟨fun _ j h1 h2=>by omega,fun _=>rfl⟩
 | f+1,i=>by
  unfold alh
  by_cases h:l.getD i 0=l.getD (i - k) 0+d
  ·rw [zQ h,samA_iff]
   refine ⟨fun H j h1 h2=>?_,fun H j h1 h2=>H j (by omega) (by omega)⟩
   rcases Nat.eq_or_lt_of_le h1 with e | e
   ·rw [← e];exact h
   ·exact H j e (by omega)
  ·rw [zS h]
   exact ⟨fun h'=>(by cases h'),fun H=>absurd (H i (zD _) (by omega)) h⟩
structure Fit (per:Int) (l:List Int) (q:Nat) (d:Int) (k:Nat):Prop where
 hl:l.length=q * k
 hd:per=(q:Int) * d
 s:∀ j,k≤j→j < l.length→l.getD j 0=l.getD (j - k) 0+d
 lt:l.getD (k - 1) 0 < d
theorem fit_of {per:Int} {l:List Int} {q:Nat} (h:anq per l q=true):Fit per l q (per / (q:Int)) (l.length / q):=by
 simp only [anq,aer,zN,zM,samA_iff] at h
 obtain ⟨h1,h2,h3,h4⟩:=h
 refine ⟨?_,?_,fun j a b=>h3 j a ?_,h4⟩
 ·have:=Nat.div_add_mod l.length q
  omega
 ·have:=Int.mul_ediv_add_emod per (q:Int)
  omega
 have:l.length / q≤l.length:=vY _ _
 omega
theorem Fit.anq {per:Int} {l:List Int} {q k:Nat} {d:Int} (h:Fit per l q d k) (hq:1≤q):Zn.anq per l q=true:=by
 have e1:l.length / q=k:=by rw [h.hl,Nat.mul_div_cancel_left _ hq]
 have e2:per / (q:Int)=d:=by rw [h.hd,Int.mul_ediv_cancel_left _ (by omega)]
 simp only [Zn.anq,aer,zN,zM,samA_iff,e1,e2]
 have hk:k≤l.length:=by rw [h.hl];exact Nat.le_mul_of_pos_left _ hq
 exact ⟨by rw [h.hl,Nat.mul_mod_right],by rw [h.hd,Int.mul_emod_right],fun j a b=>h.s j a (by omega),h.lt⟩
theorem Fit.at_ {per:Int} {l:List Int} {q k:Nat} {d:Int} (h:Fit per l q d k) {r:Nat}:∀ j,j * k+r < l.length→l.getD (j * k+r) 0=l.getD r 0+(j:Int) * d
 | 0,_=>by simp
 | j+1,hj=>by
  have e1:(j+1) * k=j * k+k:=Nat.succ_mul _ _
  have ih:=h.at_ (r:=r) j (by omega)
  have:=h.s ((j+1) * k+r) (by omega) hj
  rw [this,show (j+1) * k+r - k=j * k+r by omega,ih]
  have e2:((j+1:Nat):Int) * d=(j:Int) * d+d:=by rw [Int.natCast_add,wI];simp
  omega
theorem Fit.mem {per:Int} {l:List Int} {q k:Nat} {d:Int} (h:Fit per l q d k) (hr:Ris per l) (hk:1≤k) (hq:1≤q) (x:Int):x % per∈l↔x % d∈l.take k:=by
 have hkl:k≤l.length:=by rw [h.hl];exact Nat.le_mul_of_pos_left _ hq
 have hb:∀ r,r < k→0≤l.getD r 0∧l.getD r 0 < d:=fun r hr'=>by
  have h1:=hr.at_ (i:=r) (by omega)
  have h2:=hr.le (i:=r) (j:=k - 1) (by omega) (by omega)
  have:=h.lt
  omega
 have hd0:0 < d:=by have:=hb 0 (by omega);omega
 have hdv:(x % per) % d=x % d:=Int.emod_emod_of_dvd x ⟨(q:Int),by rw [h.hd,Int.mul_comm]⟩
 have hp0:0 < per:=by rw [h.hd];exact Int.mul_pos (by omega) hd0
 have hm0:=wP x (show per≠0 by omega)
 have hm1:=vJ x hp0
 constructor
 ·intro hx
  obtain ⟨i,hi,e⟩:=mem_getD_iff.1 hx
  have hir:i % k < k:=wJ _ (by omega)
  have hie:i / k * k+i % k=i:=by rw [Nat.mul_comm];exact Nat.div_add_mod i k
  have ha:=h.at_ (r:=i % k) (i / k) (by omega)
  rw [hie,e] at ha
  have hbb:=hb _ hir
  have:x % d=l.getD (i % k) 0:=by
   rw [← hdv,ha,Int.add_mul_emod_self_right,Int.emod_eq_of_lt hbb.1 hbb.2]
  rw [this]
  exact mem_getD_iff.2 ⟨i % k,by rw [wR];omega,take_getD hir⟩
 intro hx
 obtain ⟨r,hrl,e⟩:=mem_getD_iff.1 hx
 have hrk:r < k:=by rw [wR] at hrl;omega
 rw [take_getD hrk] at e
 have hbb:=hb r hrk
 have hy:=Int.mul_ediv_add_emod (x % per) d
 rw [hdv,← e] at hy
 have hj0:0≤(x % per) / d:=Int.ediv_nonneg hm0 (by omega)
 have hjq:(x % per) / d < (q:Int):=Int.ediv_lt_of_lt_mul hd0 (by rw [← h.hd];exact hm1)
 obtain ⟨j,hj⟩:=Int.eq_ofNat_of_zero_le hj0
 rw [hj] at hy hjq
 have hjq2:j+1≤q:=by omega
 have hjk:(j+1) * k≤q * k:=Nat.mul_le_mul_right _ hjq2
 have e1:(j+1) * k=j * k+k:=Nat.succ_mul _ _
 have hlen:j * k+r < l.length:=by rw [h.hl];omega
 have ha:=h.at_ (r:=r) j hlen
 refine mem_getD_iff.2 ⟨j * k+r,hlen,?_⟩
 rw [ha,← hy,Int.mul_comm]
 omega
theorem fit_one {per:Int} {l:List Int} (hr:Ris per l) (h0:l≠[]):Fit per l 1 per l.length:=⟨by simp,by simp,fun j a b=>by omega,(hr.at_ (i:=l.length - 1) (by have:=List.length_pos_iff.2 h0;omega)).2⟩
theorem shortA_fit {per:Int} {l:List Int} (hr:Ris per l) (h0:l≠[]):∀ n,n≤l.length→∃ q k d,1≤q∧1≤k∧Fit per l q d k∧a5k per l n=(d,l.take k)∧∀ m,q < m→m≤n→anq per l m=false
 | 0,_=>⟨1,l.length,per,by omega,List.length_pos_iff.2 h0,fit_one hr h0,by unfold a5k;rw [wY],fun m h1 h2=>by omega⟩
 | 1,_=>⟨1,l.length,per,by omega,List.length_pos_iff.2 h0,fit_one hr h0,by unfold a5k;rw [wY],fun m h1 h2=>by omega⟩
 | n+2,hn=>by
  by_cases hf:anq per l (n+2)=true
  ·exact ⟨n+2,l.length / (n+2),per / ((n+2:Nat):Int),by omega,(Nat.one_le_div_iff (by omega)).2 hn,fit_of hf,by unfold a5k;rw [zQ hf],fun m h1 h2=>by omega⟩
  ·obtain ⟨q,k,d,h1,h2,h3,h4,h5⟩:=shortA_fit hr h0 (n+1) (by omega)
   refine ⟨q,k,d,h1,h2,h3,by unfold a5k;rw [zS hf];exact h4,fun m a b=>?_⟩
   rcases Nat.eq_or_lt_of_le b with e | e
   ·rw [e];exact Bool.eq_false_iff.2 hf
   ·exact h5 m a (by omega)
theorem short_fit {per:Int} {l:List Int} (hr:Ris per l) (h0:l≠[]) : ∃ q k d,1≤q∧1≤k∧Fit per l q d k∧a18 per l=(d,l.take k)∧∀ m,q < m→m≤l.length→anq per l m=false:=shortA_fit hr h0 _ (zD _)
theorem inv_fit {per e:Int} {l:List Int} {n:Nat} (hr:Ris per l) (h0:l≠[]) (hn:1≤n) (hp:per=(n:Int) * e) (e0:0 < e) (hi:∀ x,x % per∈l→(x+e) % per∈l) : ∃ k,1≤k∧Fit per l n e k:=by
 have hit:∀ (m:Nat) x,x % per∈l→(x+(m:Int) * e) % per∈l:=by
  intro m
  induction m with
  | zero=>intro x hx;simpa using hx
  | succ m ih =>
   intro x hx;have:=hi _ (ih x hx);rw [show x+((m+1:Nat):Int) * e=x+(m:Int) * e+e by rw [Int.natCast_add,wI];simp;omega];exact this
 have ne:e≤(n:Int) * e:=by
  have:1 * e≤(n:Int) * e:=yP (by omega) (by omega)
  omega
 have hbk:∀ x,x % per∈l→(x - e) % per∈l:=fun x hx=>by
  have:=hit (n - 1) x hx
  rw [show x+((n - 1:Nat):Int) * e=(x - e)+per * 1 by rw [hp,show ((n - 1:Nat):Int)=(n:Int) - 1 by omega,Int.sub_mul];omega,Int.add_mul_emod_self_left] at this
  exact this
 have hmod:∀ x,0≤x→x < per→x % per=x:=fun x a b=>Int.emod_eq_of_lt a b
 have hbase:∀ r∈l,∀ j:Nat,r < e→j < n→r+(j:Int) * e∈l:=fun r h j hre hj=>by
  have hb:=hr.b r h
  have h1:((j:Int)+1) * e≤(n:Int) * e:=yP (by omega) (by omega)
  have h2:0≤(j:Int) * e:=xX (by omega) (by omega)
  rw [wI] at h1
  have:=hit j r (by rw [hmod r hb.1 hb.2];exact h)
  rwa [hmod _ (by omega) (by omega)] at this
 obtain ⟨k,hk⟩ : ∃ k,(l.filter fun x=>decide (x < e)).length=k:=⟨_,rfl⟩
 have hsplit:∀ {l:List Int} (b:Int),l.Pairwise (fun x y=>x < y)→l.filter (fun x=>decide (x < b))=l.take (l.filter fun x=>decide (x < b)).length∧l.filter (fun x=>decide (¬ x < b))=l.drop (l.filter fun x=>decide (x < b)).length:=by
  intro l b
  induction l with
  | nil=>exact fun _=>⟨rfl,rfl⟩
  | cons x r ih =>
   intro h;have h2:=wM.1 h;by_cases hx:x < b
   ·have i:=ih h2.2
    rw [List.filter_cons_of_pos (by simpa using hx),List.filter_cons_of_neg (by simpa using hx),yS,List.take_succ_cons,List.drop_succ_cons];exact ⟨by rw [← i.1],i.2⟩
   have e1:r.filter (fun x=>decide (x < b)) = []:=List.filter_eq_nil_iff.2 fun y hy=>by have:=h2.1 y hy;simp;omega
   have e2:r.filter (fun x=>decide (¬ x < b))=r:=wC.2 fun y hy=>by have:=h2.1 y hy;simp;omega
   rw [List.filter_cons_of_neg (by simpa using hx),List.filter_cons_of_pos (by simpa using hx),e1,e2];exact ⟨rfl,rfl⟩
 have s1:=hsplit e hr.s
 have s2:=hsplit (per - e) hr.s
 rw [hk] at s1
 have hmap:((l.filter fun x=>decide (x < per - e)).map fun x=>x+e)=l.drop k:=by
  rw [← s1.2]
  refine srt_ext ?_ (hr.s.filter _) fun x=>?_
  ·rw [List.pairwise_map]
   exact (hr.s.filter _).imp fun h=>by omega
  simp only [List.mem_map,uJ,zM]
  constructor
  ·rintro ⟨y,⟨hy,hlt⟩,rfl⟩
   have hb:=hr.b y hy;have:=hi y (by rw [hmod y hb.1 hb.2];exact hy);rw [hmod _ (by omega) (by omega)] at this;exact ⟨this,by omega⟩
  rintro ⟨hx,hge⟩
  have hb:=hr.b x hx
  have:=hbk x (by rw [hmod x hb.1 hb.2];exact hx)
  rw [hmod _ (by omega) (by omega)] at this
  exact ⟨x - e,⟨this,by omega⟩,by omega⟩
 have hkl:k≤l.length:=by rw [← hk];exact List.length_filter_le _ _
 have hlm:=congrArg List.length hmap
 rw [uM,List.length_drop] at hlm
 rw [s2.1,hlm] at hmap
 have hs:∀ j,k≤j→j < l.length→l.getD j 0=l.getD (j - k) 0+e:=fun j a b=>by
  have h1:(l.drop k).getD (j - k) 0=l.getD j 0:=by rw [drop_getD];congr 1;omega
  rw [← h1,← hmap,zB,xC,List.getElem?_take_of_lt (by omega),zK (by omega),zB,zK (by omega)]
  rfl
 have hlow:∀ r,r < k→l.getD r 0 < e:=fun r h=>by
  have:l.getD r 0∈l.take k:=mem_getD_iff.2 ⟨r,by rw [wR];omega,take_getD h⟩
  rw [← s1.1] at this
  simpa using (uJ.1 this).2
 have hk1:1≤k:=by
  obtain ⟨x,hx⟩:=List.exists_mem_of_ne_nil l h0
  have hb:=hr.b x hx
  have hj0:0≤x / e:=Int.ediv_nonneg hb.1 (by omega)
  have hjn:x / e < (n:Int):=Int.ediv_lt_of_lt_mul e0 (by rw [← hp];exact hb.2)
  obtain ⟨j,hj⟩:=Int.eq_ofNat_of_zero_le hj0
  have hxe:=Int.mul_ediv_add_emod x e
  have hm0:=wP x (show e≠0 by omega)
  have hm1:=vJ x e0
  rw [hj] at hxe hjn
  have:=hit (n - j) x (by rw [hmod x hb.1 hb.2];exact hx)
  rw [show x+((n - j:Nat):Int) * e=x % e+per * 1 by rw [hp,show ((n - j:Nat):Int)=(n:Int) - (j:Int) by omega,Int.sub_mul,Int.mul_comm (j:Int) e];omega,Int.add_mul_emod_self_left,hmod _ hm0 (by omega)] at this
  have h9:x % e∈l.filter fun x=>decide (x < e):=uJ.2 ⟨this,by simpa using hm1⟩
  have:=List.length_pos_of_mem h9
  omega
 have hpart:∀ r,r < k→∀ j:Nat,j * k+r < l.length→l.getD (j * k+r) 0=l.getD r 0+(j:Int) * e:=fun r h j=>by
  induction j with
  | zero=>intro _;simp
  | succ j ih =>
   intro hj;have e1:(j+1) * k=j * k+k:=Nat.succ_mul _ _;have:=hs ((j+1) * k+r) (by omega) hj;rw [this,show (j+1) * k+r - k=j * k+r by omega,ih (by omega)];(have e2:((j+1:Nat):Int) * e=(j:Int) * e+e:=by rw [Int.natCast_add,wI];simp);omega
 refine ⟨k,hk1,?_,hp,hs,hlow _ (by omega)⟩
 rcases vO l.length (n * k) with h | h | h
 ·exfalso
  obtain ⟨j,hj⟩ : ∃ j,l.length / k=j:=⟨_,rfl⟩
  obtain ⟨r,hrr⟩ : ∃ r,l.length % k=r:=⟨_,rfl⟩
  have hdm:=Nat.div_add_mod l.length k
  have hrk:r < k:=by rw [← hrr];exact wJ _ (by omega)
  have hjn:j < n:=by rw [← hj];exact (Nat.div_lt_iff_lt_mul (by omega)).2 h
  rw [hj,hrr] at hdm
  have hm:=hbase (l.getD r 0) (getD_mem0 (by omega)) j (hlow r hrk) hjn
  obtain ⟨i,hil,hie⟩:=mem_getD_iff.1 hm
  have hir:i % k < k:=wJ _ (by omega)
  have hii:i / k * k+i % k=i:=by rw [Nat.mul_comm];exact Nat.div_add_mod i k
  have hp2:=hpart (i % k) hir (i / k) (by omega)
  rw [hii,hie] at hp2
  have b1:=hlow _ hrk
  have b2:=hlow _ hir
  have b3:=(hr.at_ (i:=r) (by omega)).1
  have b4:=(hr.at_ (i:=i % k) (by omega)).1
  have q1:(l.getD r 0+(j:Int) * e) / e=j:=by rw [Int.add_mul_ediv_right _ _ (by omega),Int.ediv_eq_zero_of_lt b3 b1];omega
  have q2:(l.getD (i % k) 0+((i / k:Nat):Int) * e) / e=((i / k:Nat):Int):=by rw [Int.add_mul_ediv_right _ _ (by omega),Int.ediv_eq_zero_of_lt b4 b2];omega
  rw [hp2,q2] at q1
  rw [← q1] at hp2
  have:l.getD r 0=l.getD (i % k) 0:=by omega
  have hri:=hr.inj (by omega) (by omega) this
  have:i / k=j:=by omega
  rw [this,← hri,Nat.mul_comm] at hii
  omega
 ·exact h
 exfalso
 have h1:=hpart 0 (by omega) n (by omega)
 have h2:=(hr.at_ (i:=n * k+0) (by omega)).2
 have h3:=(hr.at_ (i:=0) (by omega)).1
 omega
end Zn
namespace Zn
theorem emod_shift {a b d:Int} (h:a % d=b % d) : ∃ t,a=b+t * d:=⟨a / d - b / d,by
 have h1:=Int.mul_ediv_add_emod a d
 have h2:=Int.mul_ediv_add_emod b d
 rw [Int.sub_mul,Int.mul_comm (a / d) d,Int.mul_comm (b / d) d]
 omega⟩
theorem rot_mem {f s d:Int} {c:List Int} (hr:Ris d c) (d0:0 < d) (y:Int):(y - s) % d∈a2z (c.map fun x=>(f+x - s) % d)↔(y - f) % d∈c:=by
 rw [ad5,List.mem_map]
 constructor
 ·rintro ⟨x,hx,e⟩
  obtain ⟨t,ht⟩:=emod_shift e
  have hb:=hr.b x hx
  have:(y - f) % d=x:=by
   rw [show y - f=x+(-t) * d by rw [Int.neg_mul];omega,Int.add_mul_emod_self_right,Int.emod_eq_of_lt hb.1 hb.2]
  rw [this]
  exact hx
 intro h
 refine ⟨_,h,?_⟩
 have h1:=Int.mul_ediv_add_emod (y - f) d
 generalize (y - f) % d=r at *
 generalize (y - f) / d=t at *
 rw [show y - s=(f+r - s)+t * d by rw [Int.mul_comm t d];omega,Int.add_mul_emod_self_right]
theorem rot_ris {f s d:Int} {c:List Int} (hr:Ris d c) (d0:0 < d):Ris d (a2z (c.map fun x=>(f+x - s) % d)):=by
 refine ⟨fun x hx=>?_,afl ?_⟩
 ·rw [ad5,List.mem_map] at hx
  obtain ⟨y,_,rfl⟩:=hx
  exact ⟨wP _ (by omega),vJ _ d0⟩
 refine List.pairwise_map.2 (hr.s.imp_of_mem fun {a b} ha hb hlt e=>?_)
 obtain ⟨t,ht⟩:=emod_shift e
 have h1:=hr.b a ha
 have h2:=hr.b b hb
 have h3:a=b+t * d:=by omega
 have h4:a % d=b % d:=by rw [h3,Int.add_mul_emod_self_right]
 rw [Int.emod_eq_of_lt h1.1 h1.2,Int.emod_eq_of_lt h2.1 h2.2] at h4
 omega
theorem sortI_len (l:List Int):(a2z l).length=l.length:=(a4n l).length_eq
theorem rot_last {f s d b:Int} {c:List Int} (hr:Ris d c) (d0:0 < d) (h0:c≠[]) (hb:(b - f) % d∈c) (hs:b < s) (hno:∀ y,b < y→y < s→(y - f) % d ∉ c) :
  s - d+(a2z (c.map fun x=>(f+x - s) % d)).getD (c.length - 1) 0=b:=by
 have hc:=List.length_pos_iff.2 h0
 have hrr:=rot_ris (f:=f) (s:=s) hr d0
 have hM:=getD_mem0 (l:=a2z (c.map fun x=>(f+x - s) % d)) (i:=c.length - 1) (by rw [sortI_len,uM];omega)
 have hmx:∀ x∈a2z (c.map fun x=>(f+x - s) % d),x≤(a2z (c.map fun x=>(f+x - s) % d)).getD (c.length - 1) 0:=fun x hx=>by
  obtain ⟨i,hi,e⟩:=mem_getD_iff.1 hx
  rw [← e]
  rw [sortI_len,uM] at hi
  exact hrr.le (by omega) (by rw [sortI_len,uM];omega)
 have hMb:=hrr.b _ hM
 have hMc:=fun y=>rot_mem (f:=f) (s:=s) hr d0 y
 generalize a2z (c.map fun x=>(f+x - s) % d)=c' at *
 generalize c'.getD (c.length - 1) 0=M at *
 have h1:(s - d+M - s) % d∈c':=by
  rw [show s - d+M - s=M+d * (-1) by omega,Int.add_mul_emod_self_left,Int.emod_eq_of_lt hMb.1 hMb.2]
  exact hM
 have h2:s - d+M≤b:=by
  rcases Decidable.em (b < s - d+M) with h | h
  ·exact absurd ((hMc _).1 h1) (hno _ h (by omega))
  omega
 have h3:=hmx _ ((hMc b).2 hb)
 rw [show b - s=(b - s+d)+d * (-1) by omega,Int.add_mul_emod_self_left,Int.emod_eq_of_lt (by omega) (by omega)] at h3
 omega
theorem Fit.ris {per:Int} {l:List Int} {q k:Nat} {d:Int} (h:Fit per l q d k) (hr:Ris per l) (hk:1≤k) (hq:1≤q):Ris d (l.take k)∧(l.take k).length=k∧0 < d∧d≤per:=by
 have hkl:k≤l.length:=by rw [h.hl];exact Nat.le_mul_of_pos_left _ hq
 have hb:∀ r,r < k→0≤l.getD r 0∧l.getD r 0 < d:=fun r hr'=>by
  have h1:=hr.at_ (i:=r) (by omega)
  have h2:=hr.le (i:=r) (j:=k - 1) (by omega) (by omega)
  have:=h.lt
  omega
 have hd0:0 < d:=by have:=hb 0 (by omega);omega
 refine ⟨⟨fun x hx=>?_,hr.s.sublist (List.take_sublist _ _)⟩,by rw [wR];omega,hd0,?_⟩
 ·obtain ⟨i,hi,e⟩:=mem_getD_iff.1 hx
  have hik:i < k:=by rw [wR] at hi;omega
  rw [take_getD hik] at e
  rw [← e]
  exact hb i hik
 rw [h.hd]
 have:1 * d≤(q:Int) * d:=yP (by omega) (by omega)
 omega
theorem short_rot {per f s:Int} {l:List Int} (hr:Ris per l) (h0:l≠[]):a18 (a18 per l).1 (a2z ((a18 per l).2.map fun x=>(f+x - s) % (a18 per l).1))=((a18 per l).1,a2z ((a18 per l).2.map fun x=>(f+x - s) % (a18 per l).1)):=by
 obtain ⟨q,k,d,hq,hk,hf,he,hno⟩:=short_fit hr h0
 obtain ⟨hrc,hlc,hd0,hdp⟩:=hf.ris hr hk hq
 rw [he]
 show a18 d (a2z ((l.take k).map fun x=>(f+x - s) % d))=(d,a2z ((l.take k).map fun x=>(f+x - s) % d))
 have hr':=rot_ris (f:=f) (s:=s) hrc hd0
 have hrm:=fun y=>rot_mem (f:=f) (s:=s) hrc hd0 y
 have hl':(a2z ((l.take k).map fun x=>(f+x - s) % d)).length=k:=by rw [sortI_len,uM,hlc]
 generalize a2z ((l.take k).map fun x=>(f+x - s) % d)=c' at *
 obtain ⟨q',k',d',hq',hk',hf',he',hno'⟩:=short_fit hr' (fun e=>by rw [e] at hl';simp at hl';omega)
 rw [he']
 rcases Nat.eq_or_lt_of_le hq' with e | e
 ·subst e
  have h1:=hf'.hl
  have h2:=hf'.hd
  rw [show k' = c'.length by omega,wY,show d' = d by omega]
 exfalso
 obtain ⟨_,_,hd0',_⟩:=hf'.ris hr' hk' hq'
 have amu:per=((q * q':Nat):Int) * d':=by rw [hf.hd,hf'.hd,Int.natCast_mul,Int.mul_assoc]
 have hinv:∀ x,x % per∈l→(x+d') % per∈l:=fun x hx=>by
  have h1:=(hf.mem hr hk hq x).1 hx
  have h2:=(hrm (x+f)).2 (by rw [show x+f - f=x by omega];exact h1)
  have h3:=(hf'.mem hr' hk' hq' _).1 h2
  rw [show (x+f - s) % d' = (x+d' + f - s) % d' by rw [show x+d' + f - s=(x+f - s)+d' * 1 by omega,Int.add_mul_emod_self_left]] at h3
  have h4:=(hrm (x+d' + f)).1 ((hf'.mem hr' hk' hq' _).2 h3)
  rw [show x+d' + f - f=x+d' by omega] at h4
  exact (hf.mem hr hk hq _).2 h4
 have hqq:q < q * q':=by
  have:q * 2≤q * q':=Nat.mul_le_mul_left _ e
  omega
 obtain ⟨k2,hk2,hf2⟩:=inv_fit hr h0 (n:=q * q') (by omega) amu hd0' hinv
 have:=hno (q * q') hqq (by rw [hf2.hl];exact Nat.le_mul_of_pos_right _ hk2)
 rw [hf2.anq (by omega)] at this
 cases this
theorem backQ_lt {p:Per} {d:Int} {c:List Int} (hr:Ris d c) (h0:c≠[]) {i j:Nat} (h:i < j):backQ p d c j < backQ p d c i:=by
 have hc:=List.length_pos_iff.2 h0
 unfold backQ
 have di:=Nat.div_add_mod i c.length
 have dj:=Nat.div_add_mod j c.length
 have mi:=wJ i hc
 have mj:=wJ j hc
 have hle:i / c.length≤j / c.length:=Nat.div_le_div_right (Nat.le_of_lt h)
 have ai:=hr.at_ (i:=c.length - 1 - i % c.length) (by omega)
 have aj:=hr.at_ (i:=c.length - 1 - j % c.length) (by omega)
 rcases Nat.eq_or_lt_of_le hle with e | e
 ·have:=hr.lt (i:=c.length - 1 - j % c.length) (j:=c.length - 1 - i % c.length) (by rw [e] at di;omega) (by omega)
  rw [e]
  omega
 have h1:(((i / c.length:Nat):Int)+1) * d+d≤(((j / c.length:Nat):Int)+1) * d:=by
  have:(((i / c.length:Nat):Int)+1+1) * d≤(((j / c.length:Nat):Int)+1) * d:=yP (by omega) (by omega)
  rw [wI _ 1 d] at this
  omega
 omega
theorem backQ_in {p:Per} {d:Int} {c:List Int} (hr:Ris d c) (h0:c≠[]) (i:Nat):(backQ p d c i - p.from_) % d∈c∧backQ p d c i < p.from_:=by
 have hc:=List.length_pos_iff.2 h0
 have mi:=wJ i hc
 have ai:=hr.at_ (i:=c.length - 1 - i % c.length) (by omega)
 have am:=getD_mem0 (l:=c) (i:=c.length - 1 - i % c.length) (by omega)
 unfold backQ
 generalize c.getD (c.length - 1 - i % c.length) 0=x at *
 have h1:0≤((i / c.length:Nat):Int) * d:=xX (Int.natCast_nonneg _) (by omega)
 constructor
 ·rw [show p.from_ - (((i / c.length:Nat):Int)+1) * d+x - p.from_=x+(-(((i / c.length:Nat):Int)+1)) * d by rw [Int.neg_mul];omega,Int.add_mul_emod_self_right,Int.emod_eq_of_lt ai.1 ai.2]
  exact am
 rw [wI,uF]
 generalize ((i / c.length:Nat):Int) * d=X at *
 omega
theorem backQ_ex {p:Per} {d:Int} {c:List Int} (hr:Ris d c) {y:Int} (hy:y < p.from_) (hm:(y - p.from_) % d∈c) : ∃ i,backQ p d c i=y:=by
 obtain ⟨r,hrl,e⟩:=mem_getD_iff.1 hm
 have hb:=hr.at_ hrl
 have hc:0 < c.length:=by omega
 have d0:0 < d:=by omega
 have h1:=Int.mul_ediv_add_emod (y - p.from_) d
 have hneg:(y - p.from_) / d < 0:=Int.ediv_neg_of_neg_of_pos (by omega) d0
 obtain ⟨t,ht⟩ : ∃ t:Nat,(y - p.from_) / d = -((t:Int)+1):=⟨(-((y - p.from_) / d) - 1).toNat,by omega⟩
 refine ⟨t * c.length+(c.length - 1 - r),?_⟩
 unfold backQ
 have q1:(t * c.length+(c.length - 1 - r)) / c.length=t:=by rw [Nat.mul_comm,Nat.mul_add_div hc,Nat.div_eq_of_lt (by omega),uG]
 have q2:(t * c.length+(c.length - 1 - r)) % c.length=c.length - 1 - r:=by rw [Nat.mul_add_mod',Nat.mod_eq_of_lt (by omega)]
 rw [q1,q2,show c.length - 1 - (c.length - 1 - r)=r by omega,e]
 rw [ht,Int.mul_comm,Int.neg_mul] at h1
 omega
end Zn
namespace Zn
structure CanK (p:Per) (d:Int) (c:List Int) (i:Nat) (s:Int):Prop where
 il:i≤p.head.length
 no:∀ j,j < i→backQ p d c j=p.head.getD (p.head.length - 1 - j) 0
 b:backQ p d c i < s
 l:a6b p i < s
 s0:0≤s
 sf:s≤p.from_
 ge:∀ j,j < i→s≤backQ p d c j
theorem canK_of {p:Per} (hp:ajo p) {d:Int} {c:List Int} (hr:Ris d c) (h0:c≠[]) {i:Nat} (hs:StopQ p d c i):CanK p d c i (startQ p d c i):=by
 have hrh:=ris_of hp.h
 have hn:=fun j hj=>stopQ_no (hs.no j hj)
 have hil:i≤p.head.length:=by
  rcases zU p.head.length i with h | h
  ·have:=(hn _ h).1;omega
  exact h
 have hno:∀ j,j < i→backQ p d c j=p.head.getD (p.head.length - 1 - j) 0:=fun j hj=>(hn j hj).2.1
 have hl:(i < p.head.length∧a6b p i=p.head.getD (p.head.length - 1 - i) 0∧0≤a6b p i∧a6b p i < p.from_)∨(i=p.head.length∧a6b p i = -1):=by
  unfold a6b
  by_cases h:i < p.head.length
  ·rw [zQ h]
   have:=hrh.at_ (i:=p.head.length - 1 - i) (by omega);exact .inl ⟨h,rfl,this.1,this.2⟩
  rw [zS h]
  exact .inr ⟨by omega,rfl⟩
 have hbf:=(backQ_in (p:=p) hr h0 i).2
 have hpos:∀ j,j < i→0≤backQ p d c j:=fun j hj=>by
  rw [hno j hj]
  exact (hrh.at_ (by omega)).1
 have hlb:∀ j,j < i→a6b p i < backQ p d c j:=fun j hj=>by
  rcases hl with ⟨h1,h2,_⟩ | ⟨_,h2⟩
  ·rw [h2,hno j hj]
   exact hrh.lt (by omega) (by omega)
  ·have:=hpos j hj;omega
 have hf:=hp.f0
 unfold startQ
 by_cases hc:backQ p d c i < 0∧a6b p i < 0
 ·rw [zQ hc]
  exact ⟨hil,hno,hc.1,hc.2,yR _,hf,hpos⟩
 rw [zS hc]
 refine ⟨hil,hno,by omega,by omega,by omega,by omega,fun j hj=>?_⟩
 have h1:=backQ_lt (p:=p) hr h0 hj
 have h2:=hlb j hj
 omega
theorem can_of {p:Per} (hp:ajo p) (hne:p.cycle≠[]) : ∃ q k d c i s,1≤q∧1≤k∧Fit p.period p.cycle q d k∧a18 p.period p.cycle=(d,c)∧c=p.cycle.take k∧StopQ p d c i∧CanK p d c i s∧s=startQ p d c i∧canonP p=⟨p.head.take (p.head.length - i),s,d,a2z (c.map fun x=>(p.from_+x - s) % d)⟩:=by
 obtain ⟨q,k,d,hq,hk,hf,he,hno⟩:=short_fit (ris_of hp.c) hne
 obtain ⟨hrc,hlc,hd0,hdp⟩:=hf.ris (ris_of hp.c) hk hq
 have hch:=(Classical.choose_spec (stopQ_ex p (a18 p.period p.cycle).1 (a18 p.period p.cycle).2)).2
 have hcp:canonP p=canonQ p (Classical.choose (stopQ_ex p (a18 p.period p.cycle).1 (a18 p.period p.cycle).2)):=by unfold canonP;rw [zS hne]
 generalize Classical.choose (stopQ_ex p (a18 p.period p.cycle).1 (a18 p.period p.cycle).2)=i at *
 rw [he] at hch
 refine ⟨q,k,d,p.cycle.take k,i,startQ p d (p.cycle.take k) i,hq,hk,hf,he,rfl,hch,canK_of hp hrc (fun e=>by rw [e] at hlc;simp at hlc;omega) hch,rfl,?_⟩
 rw [hcp]
 unfold canonQ
 rw [he]
theorem hasP_canon {p:Per} (hp:ajo p) (y:Int):hasP (canonP p) y=hasP p y:=by
 by_cases hce:p.cycle = []
 ·have h1:canonP p=⟨p.head,(if 0 < p.head.length then p.head.getD (p.head.length - 1) 0+1 else 0),1,[]⟩:=by unfold canonP;rw [zQ hce]
  have hrh:=ris_of hp.h
  have hin:∀ x∈p.head,x < (if 0 < p.head.length then p.head.getD (p.head.length - 1) 0+1 else 0)∧x < p.from_:=fun x hx=>by
   obtain ⟨i,hi,e⟩:=mem_getD_iff.1 hx;rw [zQ (by omega),← e];have:=hrh.le (i:=i) (j:=p.head.length - 1) (by omega) (by omega);have:=(hrh.at_ hi).2;omega
  rw [h1]
  unfold hasP
  rw [hce]
  generalize (if 0 < p.head.length then p.head.getD (p.head.length - 1) 0+1 else 0)=s at *
  have e:∀ P:Prop,[Decidable P]→¬ P→decide P=false:=fun P _ h=>zW h
  by_cases hy:y∈p.head
  ·have:=hin y hy
   show (if y < s then _ else _)=_;rw [zQ this.1,zQ this.2]
  show (if y < s then decide (y∈p.head) else decide ((y - s) % 1∈[]))=_
  rw [zW hy,zW (by simp : ¬ (y - s) % 1∈[]),zW (by simp : ¬ (y - p.from_) % p.period∈[])]
  simp
 obtain ⟨q,k,d,c,i,s,hq,hk,hf,he,hcc,hst,hK,hs,hcp⟩:=can_of hp hce
 obtain ⟨hrc,hlc,hd0,hdp⟩:=hf.ris (ris_of hp.c) hk hq
 rw [← hcc] at hrc hlc
 have hc0:c≠[]:=fun e=>by rw [e] at hlc;simp at hlc;omega
 have hrh:=ris_of hp.h
 have hmem:=hf.mem (ris_of hp.c) hk hq (y - p.from_)
 rw [← hcc] at hmem
 have hrot:=rot_mem (f:=p.from_) (s:=s) hrc hd0 y
 rw [hcp]
 unfold hasP
 show (if y < s then decide (y∈p.head.take (p.head.length - i)) else decide ((y - s) % d∈a2z (c.map fun x=>(p.from_+x - s) % d)))=_
 have hil:=hK.il
 have hsf:=hK.sf
 have htail:∀ t,t < p.head.length→p.head.length - i≤t→∃ j,j < i∧p.head.getD t 0=backQ p d c j:=fun t h1 h2=>⟨p.head.length - 1 - t,by omega,by rw [hK.no _ (by omega)];congr 1;omega⟩
 by_cases hys:y < s
 ·rw [zQ hys,zQ (by omega)]
  refine decide_eq_decide.2 ⟨fun h=>List.mem_of_mem_take h,fun h=>?_⟩
  obtain ⟨t,ht,e⟩:=mem_getD_iff.1 h
  rcases zU t (p.head.length - i) with h1 | h1
  ·exact mem_getD_iff.2 ⟨t,by rw [wR];omega,by rw [take_getD h1];exact e⟩
  obtain ⟨j,hj,e2⟩:=htail t ht h1
  have:=hK.ge j hj
  omega
 rw [zS hys]
 by_cases hyf:y < p.from_;rotate_left
 ·rw [zS hyf]
  exact decide_eq_decide.2 (hrot.trans hmem.symm)
 rw [zQ hyf]
 refine decide_eq_decide.2 (hrot.trans ⟨fun h=>?_,fun h=>?_⟩)
 ·obtain ⟨j,hj⟩:=backQ_ex hrc hyf h
  have hji:j < i:=by
   rcases zU j i with h1 | h1
   ·exact h1
   have hb:=hK.b
   rcases Nat.eq_or_lt_of_le h1 with h2 | h2
   ·rw [h2] at hb;omega
   have:=backQ_lt (p:=p) hrc hc0 h2;omega
  rw [← hj,hK.no j hji]
  exact getD_mem0 (by omega)
 obtain ⟨t,ht,e⟩:=mem_getD_iff.1 h
 rcases zU t (p.head.length - i) with h1 | h1
 ·exfalso
  have h2:=hrh.le (i:=t) (j:=p.head.length - 1 - i) (by omega) (by omega)
  have h3:=hK.l
  unfold a6b at h3
  rw [zQ (by omega)] at h3
  omega
 obtain ⟨j,hj,e2⟩:=htail t ht h1
 rw [← e,e2]
 exact (backQ_in hrc hc0 j).1
theorem perOk_canon {p:Per} (hp:ajo p):ajo (canonP p):=by
 by_cases hce:p.cycle = []
 ·have h1:canonP p=⟨p.head,(if 0 < p.head.length then p.head.getD (p.head.length - 1) 0+1 else 0),1,[]⟩:=by unfold canonP;rw [zQ hce]
  have hrh:=ris_of hp.h
  have hin:(∀ x∈p.head,x < (if 0 < p.head.length then p.head.getD (p.head.length - 1) 0+1 else 0))∧0≤(if 0 < p.head.length then p.head.getD (p.head.length - 1) 0+1 else 0)∧(if 0 < p.head.length then p.head.getD (p.head.length - 1) 0+1 else 0)≤p.from_:=by
   refine ⟨fun x hx=>?_,?_⟩
   ·obtain ⟨i,hi,e⟩:=mem_getD_iff.1 hx
    rw [zQ (by omega),← e];have:=hrh.le (i:=i) (j:=p.head.length - 1) (by omega) (by omega);omega
   have:=hp.f0;split
   ·have:=hrh.at_ (i:=p.head.length - 1) (by omega)
    omega
   omega
  have hn:=hp.n
  have hf1:=hp.f1
  rw [h1]
  generalize (if 0 < p.head.length then p.head.getD (p.head.length - 1) 0+1 else 0)=s at *
  exact ⟨hin.2.1,by show s≤1099511627776;omega,by show (1:Int)≤1;omega,by show (1:Int)≤1099511627776;omega,by show p.head.length+0≤1048576;omega,ris_to (fun x hx=>⟨by have:=hrh.b x hx;omega,hin.1 x hx⟩) hrh.s,rfl⟩
 obtain ⟨q,k,d,c,i,s,hq,hk,hf,he,hcc,hst,hK,hs,hcp⟩:=can_of hp hce
 obtain ⟨hrc,hlc,hd0,hdp⟩:=hf.ris (ris_of hp.c) hk hq
 rw [← hcc] at hrc hlc
 have hrh:=ris_of hp.h
 have hil:=hK.il
 have hsf:=hK.sf
 have h1:=hp.f1
 have h2:=hp.p1
 have h3:=hp.n
 have hkl:k≤p.cycle.length:=by rw [hf.hl];exact Nat.le_mul_of_pos_left _ hq
 rw [hcp]
 refine ⟨hK.s0,by show s≤_;omega,by show 1≤d;omega,by show d≤_;omega,?_,ris_to (fun x hx=>?_) (hrh.s.sublist (List.take_sublist _ _)),(rot_ris hrc hd0).to⟩
 ·show (p.head.take (p.head.length - i)).length+(a2z (c.map fun x=>(p.from_+x - s) % d)).length≤1048576
  rw [wR,sortI_len,uM,hlc]
  omega
 obtain ⟨t,ht,e⟩:=mem_getD_iff.1 hx
 have ht2:t < p.head.length - i:=by rw [wR] at ht;omega
 rw [take_getD ht2] at e
 have h4:=hrh.le (i:=t) (j:=p.head.length - 1 - i) (by omega) (by omega)
 have h5:=(hrh.at_ (i:=t) (by omega)).1
 have h6:=hK.l
 unfold a6b at h6
 rw [zQ (by omega)] at h6
 refine ⟨by omega,?_⟩
 show x < s
 omega
theorem canon_still {p:Per} (hp:ajo p):canonP (canonP p)=canonP p∧¬ NeedC (canonP p):=by
 by_cases hce:p.cycle = []
 ·have h1:canonP p=⟨p.head,(if 0 < p.head.length then p.head.getD (p.head.length - 1) 0+1 else 0),1,[]⟩:=by unfold canonP;rw [zQ hce]
  rw [h1]
  refine ⟨?_,fun h=>h.1 rfl⟩
  unfold canonP
  rw [zQ rfl]
 obtain ⟨q,k,d,c,i,s,hq,hk,hf,he,hcc,hst,hK,hs,hcp⟩:=can_of hp hce
 obtain ⟨hrc,hlc,hd0,hdp⟩:=hf.ris (ris_of hp.c) hk hq
 rw [← hcc] at hrc hlc
 have hc0:c≠[]:=fun e=>by rw [e] at hlc;simp at hlc;omega
 have hil:=hK.il
 have hsf:=hK.sf
 have hsr:=short_rot (f:=p.from_) (s:=s) (ris_of hp.c) hce
 rw [he] at hsr
 have hsr:a18 d (a2z (c.map fun x=>(p.from_+x - s) % d))=(d,a2z (c.map fun x=>(p.from_+x - s) % d)):=hsr
 have hrr:=rot_ris (f:=p.from_) (s:=s) hrc hd0
 have hlr:(a2z (c.map fun x=>(p.from_+x - s) % d)).length=k:=by rw [sortI_len,uM,hlc]
 have hlast:=rot_last (f:=p.from_) (s:=s) (b:=backQ p d c i) hrc hd0 hc0 (backQ_in hrc hc0 i).1 hK.b (fun y h1 h2 h3=>by
  obtain ⟨j,hj⟩:=backQ_ex hrc (by omega:y < p.from_) h3
  rcases zU j i with h4 | h4
  ·have:=hK.ge j h4;omega
  ·rcases Nat.eq_or_lt_of_le h4 with h5 | h5
   ·rw [h5] at h1;omega
   ·have:=backQ_lt (p:=p) hrc hc0 h5;omega)
 rw [hcp]
 generalize hcg:a2z (c.map fun x=>(p.from_+x - s) % d)=c' at *
 have hc'0:c'≠[]:=fun e=>by rw [e] at hlr;simp at hlr;omega
 obtain ⟨P,hP⟩ : ∃ P:Per,(⟨p.head.take (p.head.length - i),s,d,c'⟩:Per)=P:=⟨_,rfl⟩
 have e1:P.head=p.head.take (p.head.length - i):=by rw [← hP]
 have e2:P.from_=s:=by rw [← hP]
 have e3:P.period=d:=by rw [← hP]
 have e4:P.cycle=c':=by rw [← hP]
 have el:P.head.length=p.head.length - i:=by rw [e1,wR];omega
 have hback:backQ P d c' 0=backQ p d c i:=by
  rw [← hlast]
  unfold backQ
  rw [e2,Nat.zero_div,Nat.zero_mod,hlr,hlc]
  simp
 have hlastD:a6b P 0=a6b p i:=by
  unfold a6b
  rw [el]
  by_cases h:i < p.head.length
  ·rw [zQ (by omega),zQ h,e1,take_getD (by omega)]
   congr 1
   omega
  rw [zS (by omega),zS h]
 have hstop:stopQ P d c' 0=true:=by
  have h9:=hst.yes
  unfold stopQ at h9 ⊢
  rw [hback,hlastD]
  exact h9
 have hstart:startQ P d c' 0=s:=by
  rw [hs]
  unfold startQ
  rw [hback,hlastD]
 rw [hP]
 have hch:=(Classical.choose_spec (stopQ_ex P (a18 P.period P.cycle).1 (a18 P.period P.cycle).2)).2
 have hcp2:canonP P=canonQ P (Classical.choose (stopQ_ex P (a18 P.period P.cycle).1 (a18 P.period P.cycle).2)):=by unfold canonP;rw [zS (by rw [e4];exact hc'0)]
 obtain ⟨i',hii⟩ : ∃ i',Classical.choose (stopQ_ex P (a18 P.period P.cycle).1 (a18 P.period P.cycle).2)=i':=⟨_,rfl⟩
 rw [hii] at hch hcp2
 have hst2:a18 P.period P.cycle=(d,c'):=by rw [e3,e4];exact hsr
 rw [hst2] at hch
 have hi':i' = 0:=by
  rcases yM i' with h | h
  ·exact h
  have:=hch.no 0 h
  rw [hstop] at this
  cases this
 refine ⟨?_,fun h=>?_⟩
 rotate_left
 ·rcases h.2 with h | h
  ·rw [hii] at h
   omega
  exact h (by rw [hst2,e4])
 rw [hcp2,hi']
 unfold canonQ
 rw [hst2]
 show (⟨P.head.take (P.head.length - 0),startQ P d c' 0,d,a2z (c'.map fun x=>(P.from_+x - startQ P d c' 0) % d)⟩:Per)=P
 rw [hstart,e2,Nat.sub_zero,wY,e1,← hP]
 congr 1
 have:(c'.map fun x=>(s+x - s) % d)=c':=by
  refine (List.map_congr_left fun x hx=>?_).trans (List.map_id' c')
  have hb:=hrr.b x hx
  rw [show s+x - s=x by omega,Int.emod_eq_of_lt hb.1 hb.2]
 rw [this]
 exact ak4 (List.Perm.refl _) hrr.s
end Zn
namespace Zn
def MemG (M:List (Int×List Tr)) (o:Int) (s:Tr):Prop := ∃ g,g∈M∧g.1=o∧s∈g.2
theorem addG_mem {o:Int} {s:Tr} {o':Int} {s':Tr}:∀ {M:List (Int×List Tr)},MemG (aas M o s) o' s'↔MemG M o' s'∨(o' = o∧s' = s)
 | []=>by
  unfold MemG
  simp only [aas,yD]
  constructor
  ·rintro ⟨g,rfl,rfl,h⟩
   rw [yD] at h
   exact .inr ⟨rfl,h⟩
  ·rintro (⟨g,h,_⟩ | ⟨rfl,rfl⟩)
   ·cases h
   ·exact ⟨_,rfl,rfl,yD.2 rfl⟩
 | (k,l) :: r=>by
  by_cases hk:k=o
  ·have e:aas ((k,l) :: r) o s=(k,l ++ [s]) :: r:=by simp only [aas,zQ hk]
   rw [e]
   constructor
   ·rintro ⟨g,hg,rfl,h⟩
    rcases yN.1 hg with rfl | hg
    ·rcases yJ.1 h with h | h
     ·exact .inl ⟨_,yV ..,rfl,h⟩
     ·exact .inr ⟨hk,yD.1 h⟩
    ·exact .inl ⟨g,yY _ hg,rfl,h⟩
   ·rintro (⟨g,hg,rfl,h⟩ | ⟨rfl,rfl⟩)
    ·rcases yN.1 hg with rfl | hg
     ·exact ⟨_,yV ..,rfl,List.mem_append_left _ h⟩
     ·exact ⟨g,yY _ hg,rfl,h⟩
    ·exact ⟨_,yV ..,hk,List.mem_append_right _ (yD.2 rfl)⟩
  ·have e:aas ((k,l) :: r) o s=(k,l) :: aas r o s:=by simp only [aas,zS hk]
   have ih:=addG_mem (o:=o) (s:=s) (o':=o') (s':=s') (M:=r)
   rw [e]
   constructor
   ·rintro ⟨g,hg,rfl,h⟩
    rcases yN.1 hg with rfl | hg
    ·exact .inl ⟨_,yV ..,rfl,h⟩
    ·rcases ih.1 ⟨g,hg,rfl,h⟩ with ⟨g',a,b,c⟩ | h
     ·exact .inl ⟨g',yY _ a,b,c⟩
     ·exact .inr h
   ·rintro (⟨g,hg,rfl,h⟩ | h)
    ·rcases yN.1 hg with rfl | hg
     ·exact ⟨_,yV ..,rfl,h⟩
     ·obtain ⟨g',a,b,c⟩:=ih.2 (.inl ⟨g,hg,rfl,h⟩)
      exact ⟨g',yY _ a,b,c⟩
    ·obtain ⟨g',a,b,c⟩:=ih.2 (.inr h)
     exact ⟨g',yY _ a,b,c⟩
theorem memN_mem {pc:Nat→Option Pc} {sel:Pc→Int×Int} {m behind:Int} {o:Int} {s:Tr}:∀ n,MemG (a7g pc sel m behind n) o s↔∃ i p,i < n∧pc i=some p∧p.o=o∧s=a5e (sel p) m behind∧s.tm < s.off
 | 0=>⟨fun ⟨g,h,_⟩=>(by cases h),fun ⟨i,p,h,_⟩=>absurd h (yA i)⟩
 | n+1=>by
  have ih:=memN_mem (pc:=pc) (sel:=sel) (m:=m) (behind:=behind) (o:=o) (s:=s) n
  have up:∀ {Q:Prop},(Q→∃ i p,i < n∧pc i=some p∧p.o=o∧s=a5e (sel p) m behind∧s.tm < s.off)→Q→∃ i p,i < n+1∧pc i=some p∧p.o=o∧s=a5e (sel p) m behind∧s.tm < s.off:=fun f q=>by
   obtain ⟨i,p,h,h2⟩:=f q
   exact ⟨i,p,by omega,h2⟩
  cases hp:pc n with
  | none =>
   have e:a7g pc sel m behind (n+1)=a7g pc sel m behind n:=by simp only [a7g,hp]
   rw [e]
   refine ⟨up ih.1,?_⟩
   rintro ⟨i,p,h,h2,h3⟩
   rcases Nat.eq_or_lt_of_le (Nat.le_of_lt_succ h) with e | e
   ·rw [e,hp] at h2;cases h2
   ·exact ih.2 ⟨i,p,e,h2,h3⟩
  | some p =>
   by_cases hs:(a5e (sel p) m behind).tm < (a5e (sel p) m behind).off
   ·rw [aki hp hs,addG_mem]
    constructor
    ·rintro (h | ⟨rfl,rfl⟩)
     ·exact up ih.1 h
     ·exact ⟨n,p,by omega,hp,rfl,rfl,hs⟩
    ·rintro ⟨i,q,h,h2,h3,h4,h5⟩
     rcases Nat.eq_or_lt_of_le (Nat.le_of_lt_succ h) with e | e
     ·rw [e,hp] at h2
      injection h2 with h2
      subst h2
      exact .inr ⟨h3.symm,h4⟩
     ·exact .inl (ih.2 ⟨i,q,e,h2,h3,h4,h5⟩)
   ·rw [ame hp hs]
    refine ⟨up ih.1,?_⟩
    rintro ⟨i,q,h,h2,h3,h4,h5⟩
    rcases Nat.eq_or_lt_of_le (Nat.le_of_lt_succ h) with e | e
    ·rw [e,hp] at h2
     injection h2 with h2
     subst h2
     rw [h4] at h5
     exact absurd h5 hs
    ·exact ih.2 ⟨i,q,e,h2,h3,h4,h5⟩
def OrdG (l:List Tr):Prop:=l.Pairwise fun a b=>a.off≤b.tm
theorem addG_ord {o:Int} {s:Tr}:∀ {M:List (Int×List Tr)},(∀ g,g∈M→OrdG g.2)→(∀ g,g∈M→∀ x,x∈g.2→x.off≤s.tm)→∀ g,g∈aas M o s→OrdG g.2
 | [],_,_,g,hg=>by
  simp only [aas,yD] at hg
  subst hg
  exact List.pairwise_singleton _ _
 | (k,l) :: r,h1,h2,g,hg=>by
  simp only [aas] at hg
  split at hg
  ·rcases yN.1 hg with rfl | hg
   ·exact List.pairwise_append.2 ⟨h1 _ (yV ..),List.pairwise_singleton _ _,fun a ha b hb=>by rw [yD.1 hb];exact h2 _ (yV ..) a ha⟩
   ·exact h1 g (yY _ hg)
  ·rcases yN.1 hg with rfl | hg
   ·exact h1 _ (yV ..)
   ·exact addG_ord (fun g hg=>h1 g (yY _ hg)) (fun g hg=>h2 g (yY _ hg)) g hg
theorem ceilD_mono {a b m:Int} (h:a≤b):apq a m≤apq b m:=by unfold apq;omega
theorem ceilD_le {a m d:Int}:apq a m≤d↔a≤d * 1440+m:=by unfold apq;omega
theorem memN_ord {pc:Nat→Option Pc} {sel:Pc→Int×Int} {m behind:Int} (H:∀ i j p q,i < j→pc i=some p→pc j=some q→(sel p).2≤(sel q).1):∀ n,∀ g,g∈a7g pc sel m behind n→OrdG g.2
 | 0,g,hg=>by cases hg
 | n+1,g,hg=>by
  have ih:=memN_ord (m:=m) (behind:=behind) H n
  cases hp:pc n with
  | none =>
   have e:a7g pc sel m behind (n+1)=a7g pc sel m behind n:=by simp only [a7g,hp]
   rw [e] at hg
   exact ih g hg
  | some p =>
   by_cases hs:(a5e (sel p) m behind).tm < (a5e (sel p) m behind).off
   ·rw [aki hp hs] at hg
    refine addG_ord ih (fun g hg x hx=>?_) g hg
    obtain ⟨i,q,h1,h2,_,h4,_⟩:=(memN_mem (o:=g.1) (s:=x) n).1 ⟨g,hg,rfl,hx⟩
    have:=ceilD_mono (m:=m) (H i n q p h1 h2 hp)
    rw [h4]
    simp only [a5e]
    omega
   ·rw [ame hp hs] at hg
    exact ih g hg
theorem upto_mem {a x:Int} {n:Nat}:x∈upto a n↔a≤x∧x < a+(n:Int):=by
 unfold upto
 rw [List.mem_map]
 constructor
 ·rintro ⟨k,hk,rfl⟩
  have:=zZ.1 hk
  omega
 rintro ⟨h1,h2⟩
 exact ⟨(x - a).toNat,zZ.2 (by omega),by omega⟩
theorem dysD_mem {l:List Tr} {x:Int}:x∈akz l↔∃ s,s∈l∧s.tm≤x∧x < s.off:=by
 unfold akz
 rw [List.mem_flatMap]
 constructor
 ·rintro ⟨s,hs,h⟩
  have:=upto_mem.1 h
  exact ⟨s,hs,by omega,by omega⟩
 rintro ⟨s,hs,h1,h2⟩
 exact ⟨s,hs,upto_mem.2 ⟨h1,by omega⟩⟩
theorem dysD_srt:∀ {l:List Tr},OrdG l→(akz l).Pairwise fun a b=>a < b
 | [],_=>List.Pairwise.nil
 | s :: r,h=>by
  have h2:=wM.1 h
  have e:akz (s :: r)=upto s.tm (s.off - s.tm).toNat++akz r:=rfl
  rw [e]
  refine List.pairwise_append.2 ⟨?_,dysD_srt h2.2,fun a ha b hb=>?_⟩
  ·unfold upto
   refine List.pairwise_map.2 (List.pairwise_lt_range.imp fun h=>by omega)
  ·have h3:=upto_mem.1 ha
   obtain ⟨t,ht,h4,h5⟩:=dysD_mem.1 hb
   have:=h2.1 t ht
   omega
theorem ris_len {B:Int} {l:List Int} (h:Ris B l) (hB:0≤B):(l.length:Int)≤B:=by
 have key:∀ i:Nat,i < l.length→(i:Int)≤l.getD i 0:=by
  intro i
  induction i with
  | zero=>intro hi;exact (h.at_ hi).1
  | succ i ih =>
   intro hi;have h1:=ih (by omega);have h2:=h.lt (i:=i) (j:=i+1) (by omega) hi;omega
 rcases yM l.length with h0 | h0
 ·omega
 have h1:=key (l.length - 1) (by omega)
 have h2:=(h.at_ (i:=l.length - 1) (by omega)).2
 omega
structure GrpK (fr cyc:Int) (l:List Tr):Prop where
 ord:OrdG l
 b:∀ s,s∈l→0≤s.tm∧s.tm < s.off∧s.off≤fr+cyc
theorem GrpK.ris {fr cyc:Int} {l:List Tr} (h:GrpK fr cyc l):Ris (fr+cyc) (akz l):=⟨fun x hx=>by
 obtain ⟨s,hs,h1,h2⟩:=dysD_mem.1 hx
 have:=h.b s hs
 omega,dysD_srt h.ord⟩
theorem GrpK.per {fr cyc:Int} {l:List Tr} (h:GrpK fr cyc l) (f0:0≤fr) (c0:1≤cyc) (hB:fr+cyc≤1048576):ajo (a9y fr cyc l):=by
 have hr:=h.ris
 have h1:Ris fr (a9y fr cyc l).head:=⟨fun x hx=>by
  obtain ⟨a,b⟩:=uJ.1 hx
  have:=hr.b x a
  have:x < fr:=by simpa using b
  omega,hr.s.filter _⟩
 have h2:Ris cyc (a9y fr cyc l).cycle:=⟨fun x hx=>by
  obtain ⟨y,hy,rfl⟩:=List.mem_map.1 hx
  obtain ⟨a,b⟩:=uJ.1 hy
  have:=hr.b y a
  have : ¬ y < fr:=by simpa using b
  omega,List.pairwise_map.2 ((hr.s.filter _).imp fun h=>by omega)⟩
 have n1:=ris_len h1 f0
 have n2:=ris_len h2 (by omega)
 exact ⟨f0,by show fr≤_;omega,c0,by show cyc≤_;omega,by omega,h1.to,h2.to⟩
theorem GrpK.has {fr cyc:Int} {l:List Tr} (h:GrpK fr cyc l) (c0:1≤cyc) (d:Int):hasP (a9y fr cyc l) d=true↔∃ s,s∈l∧s.tm≤(if d < fr then d else fr+(d - fr) % cyc)∧(if d < fr then d else fr+(d - fr) % cyc) < s.off:=by
 have hf:(a9y fr cyc l).from_=fr:=rfl
 have hp:(a9y fr cyc l).period=cyc:=rfl
 unfold hasP
 rw [hf,hp,← dysD_mem]
 by_cases hd:d < fr
 ·rw [zQ hd,zQ hd,zM]
  show d∈(akz l).filter _↔_
  rw [uJ]
  simp [hd]
 rw [zS hd,zS hd,zM]
 have h1:=wP (d - fr) (show cyc≠0 by omega)
 show _∈((akz l).filter _).map _↔_
 rw [List.mem_map]
 generalize (d - fr) % cyc=r at *
 constructor
 ·rintro ⟨y,hy,e⟩
  have:=(uJ.1 hy).1
  rw [show fr+r=y by omega]
  exact this
 intro hy
 exact ⟨fr+r,uJ.2 ⟨hy,by simp;omega⟩,by omega⟩
theorem cntD_dys {l:List Tr} (h:∀ s,s∈l→s.tm < s.off):∀ k,k≤l.length→a8i (l.take k)=((akz (l.take k)).length:Int)
 | 0,_=>rfl
 | k+1,hk=>by
  have ih:=cntD_dys h k (by omega)
  have hs:=h (l.getD k default) (a2h (by omega))
  rw [a8h (by omega),ady (by omega),zX,afj,ih]
  omega
theorem GrpK.cnt {fr cyc:Int} {l:List Tr} (h:GrpK fr cyc l) (f0:0≤fr+cyc):a8i l≤fr+cyc:=by
 have h1:=cntD_dys (fun s hs=>(h.b s hs).2.1) l.length (zD _)
 rw [wY] at h1
 rw [h1]
 exact ris_len h.ris f0
end Zn
namespace Zn
def nxZ (z:a0w):Nat→Option Tr:=a4y z (-2251799813685248)
theorem off_last {z:a0w} (hg:Good z) {t:Int} {x:Tr} (hx:IsT z x) (h1:x.tm≤t) (h2:∀ y,IsT z y→y.tm≤t→y.tm≤x.tm):a2u z t=x.off:=by
 rw [← a7y hg h1 h2]
 exact a4b (a8a hg hx)
theorem off_first {z:a0w} (hg:Good z) {t:Int} (h:∀ y,IsT z y→t < y.tm):a2u z t=z.start:=by
 rcases a3u hg t with ⟨h1,_⟩ | ⟨x,_,hx,hle,_⟩
 ·exact offZ_none h1
 have:=h x hx
 omega
theorem nx_le {z:a0w} (hg:Good z) {i j:Nat} {x y:Tr} (hij:i≤j) (hx:nxZ z i=some x) (hy:nxZ z j=some y):x.tm≤y.tm:=by
 rcases Nat.eq_or_lt_of_le hij with e | e
 ·subst e
  rw [hx] at hy
  injection hy with hy
  rw [hy]
  exact yR _
 have:=ach hg e hx hy
 omega
theorem nx_all {z:a0w} (hg:Good z) (hL:∀ y,IsT z y→0≤y.tm) {y:Tr} (hy:IsT z y) : ∃ i,nxZ z i=some y:=akx hg hy (by have:=hL y hy;omega)
theorem pcZ_cases {z:a0w} {i:Nat} {p:Pc} (h:pcZ z i=some p):p=ank (pst z.start (nxZ z) i) (nxZ z i)∧(i=0∨∃ j y,i=j+1∧nxZ z j=some y∧y.tm≤(fromD z+a0s z+3) * 1440):=by
 have h':pcS z.start (nxZ z) ((fromD z+a0s z+3) * 1440) i=some p:=h
 rcases i with _ | i
 ·exact ⟨(xO h').symm,.inl rfl⟩
 simp only [pcS] at h'
 split at h'
 ·cases h'
 rename_i y hy
 split at h'
 ·cases h'
 exact ⟨(xO h').symm,.inr ⟨i,y,rfl,hy,by omega⟩⟩
theorem pcZ_at {z:a0w} {j:Nat} {y:Tr} (h:nxZ z j=some y) (hE:y.tm≤(fromD z+a0s z+3) * 1440):pcZ z (j+1)=some (ank (pst z.start (nxZ z) (j+1)) (nxZ z (j+1))):=alj (nx:=nxZ z) (e:=(fromD z+a0s z+3) * 1440) (i:=j+1) (.inr ⟨y,h,by omega⟩)
theorem pcZ_down {z:a0w} (hg:Good z) {i j:Nat} {p:Pc} (h:pcZ z i=some p) (hji:j≤i) : ∃ q,pcZ z j=some q:=by
 rcases j with _ | j
 ·exact ⟨_,rfl⟩
 rcases (pcZ_cases h).2 with e | ⟨k,y,e,hy,hE⟩
 ·omega
 obtain ⟨x,hx⟩ : ∃ x,nxZ z j=some x:=aam (by omega:j≤k) ⟨y,hy⟩
 have:=nx_le hg (by omega) hx hy
 exact ⟨_,pcZ_at hx (by omega)⟩
theorem pst_before {z:a0w} (hg:Good z) (hL:∀ y,IsT z y→0≤y.tm) {j:Nat} {x:Tr} (hx:nxZ z j=some x):(pst z.start (nxZ z) j).1=a2u z (x.tm - 1):=by
 rcases j with _ | j
 ·show z.start=_
  refine (off_first hg fun y hy=>?_).symm
  obtain ⟨k,hk⟩:=nx_all hg hL hy
  have:=nx_le hg (xG k) hx hk
  omega
 obtain ⟨w,hw⟩ : ∃ w,nxZ z j=some w:=aam (by omega:j≤j+1) ⟨x,hx⟩
 rw [akc hw]
 show w.off=_
 have hlt:=ach hg (xU j) hw hx
 refine (off_last hg (a6q hg hw).1 (by omega) fun y hy hyx=>?_).symm
 obtain ⟨k,hk⟩:=nx_all hg hL hy
 rcases zU j k with e | e
 ·have:=nx_le hg (show j+1≤k by omega) hx hk
  omega
 exact nx_le hg e hk hw
structure PcK (z:a0w) (p:Pc):Prop where
 bg:(p.uf = -9007199254740992∧p.nf = -9007199254740992∧p.o=z.start∧∀ y,IsT z y→p.ut≤y.tm)∨∃ x,IsT z x∧p.uf=x.tm∧p.o=x.off∧p.nf=x.tm+max (a2u z (x.tm - 1)) x.off∧∀ y,IsT z y→x.tm < y.tm→p.ut≤y.tm
 en:(p.ut=9007199254740992∧p.nt=9007199254740992)∨∃ y,IsT z y∧p.ut=y.tm∧p.nt=y.tm+min p.o y.off∧p.uf < y.tm
theorem pcK {z:a0w} (hg:Good z) (hL:∀ y,IsT z y→0≤y.tm) {i:Nat} {p:Pc} (h:pcZ z i=some p):PcK z p:=by
 obtain ⟨hp,hi⟩:=pcZ_cases h
 subst hp
 have hnext:∀ {k:Nat} {y:Tr},i≤k→nxZ z k=some y→(ank (pst z.start (nxZ z) i) (nxZ z i)).ut≤y.tm:=fun {k y} hk hy=>by
  obtain ⟨w,hw⟩ : ∃ w,nxZ z i=some w:=aam hk ⟨y,hy⟩
  rw [hw]
  exact nx_le hg hk hw hy
 rcases hi with rfl | ⟨j,x,rfl,hx,hE⟩
 ·refine ⟨.inl ⟨?_,?_,?_,fun y hy=>?_⟩,?_⟩
  ·cases nxZ z 0<;>rfl
  ·cases nxZ z 0<;>rfl
  ·cases nxZ z 0<;>rfl
  ·obtain ⟨k,hk⟩:=nx_all hg hL hy
   exact hnext (xG k) hk
  cases hn:nxZ z 0 with
  | none=>exact .inl ⟨rfl,rfl⟩
  | some y =>
   have hy:=a6q hg hn;have:=hL y hy.1;exact .inr ⟨y,hy.1,rfl,rfl,by show (-9007199254740992:Int) < y.tm;omega⟩
 have hxi:=a6q hg hx
 have hb:=pst_before hg hL hx
 have hps:=akc (start:=z.start) hx
 have e1:(ank (pst z.start (nxZ z) (j+1)) (nxZ z (j+1))).uf=x.tm:=by rw [hps];cases nxZ z (j+1)<;>rfl
 have e2:(ank (pst z.start (nxZ z) (j+1)) (nxZ z (j+1))).o=x.off:=by rw [hps];cases nxZ z (j+1)<;>rfl
 have e3:(ank (pst z.start (nxZ z) (j+1)) (nxZ z (j+1))).nf=x.tm+max (a2u z (x.tm - 1)) x.off:=by rw [← hb,hps];cases nxZ z (j+1)<;>rfl
 refine ⟨.inr ⟨x,hxi.1,e1,e2,e3,fun y hy hlt=>?_⟩,?_⟩
 ·obtain ⟨k,hk⟩:=nx_all hg hL hy
  refine hnext (Nat.lt_of_not_ge fun hge=>?_) hk
  have:=nx_le hg hge hk hx
  omega
 rw [e1]
 cases hn:nxZ z (j+1) with
 | none=>exact .inl ⟨rfl,rfl⟩
 | some y =>
  have:=ach hg (xU j) hx hn
  exact .inr ⟨y,(a6q hg hn).1,rfl,rfl,by omega⟩
theorem PcK.off {z:a0w} (hg:Good z) {p:Pc} (h:PcK z p) {t:Int} (h1:p.uf≤t) (h2:t < p.ut):a2u z t=p.o:=by
 rcases h.bg with ⟨_,_,ho,hn⟩ | ⟨x,hx,hu,ho,_,hn⟩
 ·rw [ho]
  exact off_first hg fun y hy=>by have:=hn y hy;omega
 rw [ho]
 refine off_last hg hx (by omega) fun y hy hyt=>Int.not_lt.1 fun hlt=>?_
 have:=hn y hy hlt
 omega
theorem piece_at {z:a0w} (hg:Good z) (hL:∀ y,IsT z y→0≤y.tm) {t:Int} (h0 : -9007199254740992≤t) (h1:t < 9007199254740992) (hE:t≤(fromD z+a0s z+3) * 1440) : ∃ i p,pcZ z i=some p∧p.uf≤t∧t < p.ut:=by
 rcases a3u hg t with ⟨_,h2⟩ | ⟨x,_,hx,hle,hmx⟩
 ·have hp:pcZ z 0=some (ank (pst z.start (nxZ z) 0) (nxZ z 0)):=rfl
  have e1:(ank (pst z.start (nxZ z) 0) (nxZ z 0)).uf = -9007199254740992:=by cases nxZ z 0<;>rfl
  refine ⟨0,_,hp,by omega,?_⟩
  rcases (pcK hg hL hp).en with ⟨e,_⟩ | ⟨y,hy,e,_⟩
  ·omega
  have:=h2 y hy
  omega
 obtain ⟨j,hj⟩:=nx_all hg hL hx
 have hp:=pcZ_at hj (by omega)
 have e1:(ank (pst z.start (nxZ z) (j+1)) (nxZ z (j+1))).uf=x.tm:=by rw [akc (start:=z.start) hj];cases nxZ z (j+1)<;>rfl
 refine ⟨j+1,_,hp,by omega,?_⟩
 rcases (pcK hg hL hp).en with ⟨e,_⟩ | ⟨y,hy,e,_,hlt⟩
 ·omega
 rw [e,e1] at *
 refine Int.not_le.1 fun hle2=>?_
 have:=hmx y hy hle2
 omega
def Uni (z:a0w) (L o:Int):Prop:=a2u z (L - o)=o∧∀ t,t+a2u z t=L→t=L - o
theorem PcK.uni {z:a0w} (hg:Good z) {p:Pc} (h:PcK z p) {L:Int} (h0 : -9000000000000000≤L) (h9:L≤9000000000000000) (h1:p.nf≤L) (h2:L < p.nt):Uni z L p.o:=by
 have hof:=fun t=>a2a hg t
 have b1:p.uf≤L - p.o∧∀ t,t < p.uf→t+a2u z t≠L:=by
  rcases h.bg with ⟨hu,_,ho,_⟩ | ⟨x,hx,hu,ho,hn,_⟩
  ·have hs:=hg.a.hd.s0
   have hs1:=hg.a.hd.s1;refine ⟨by omega,fun t ht e=>?_⟩;have:=hof t;omega
  refine ⟨by omega,fun t ht e=>?_⟩
  rcases Decidable.em (x.tm - 2160≤t) with hc | hc
  ·have:=abb hg hx (t:=t) (by omega) hc
   omega
  have h3:=hof t
  have h4:=hof (x.tm - 1)
  omega
 have b2:L - p.o < p.ut∧∀ t,p.ut≤t→t+a2u z t≠L:=by
  have ho : -1080≤p.o∧p.o≤1080:=by
   rcases h.bg with ⟨_,_,ho,_⟩ | ⟨x,hx,_,ho,_,_⟩
   ·rw [ho];exact ⟨hg.a.hd.s0,hg.a.hd.s1⟩
   have:=hof x.tm;rw [aii hg hx (yR _) (by omega)] at this;omega
  rcases h.en with ⟨hu,_⟩ | ⟨y,hy,hu,hn,_⟩
  ·refine ⟨by omega,fun t ht e=>?_⟩
   have:=hof t;omega
  refine ⟨by omega,fun t ht e=>?_⟩
  have h4:=aii hg hy (yR _) (by omega)
  rcases Decidable.em (t < y.tm+2160) with hc | hc
  ·have:=aii hg hy (t:=t) (by omega) hc
   omega
  have h3:=hof t
  have h5:=hof y.tm
  omega
 refine ⟨h.off hg b1.1 b2.1,fun t ht=>?_⟩
 rcases Decidable.em (t < p.uf) with hc | hc
 ·exact absurd ht (b1.2 t hc)
 rcases Decidable.em (p.ut≤t) with hd | hd
 ·exact absurd ht (b2.2 t hd)
 have:=h.off hg (t:=t) (by omega) (by omega)
 omega
theorem PcK.once {z:a0w} (hg:Good z) {p:Pc} (h:PcK z p) {L:Int} (h0 : -9000000000000000≤L) (h9:L≤9000000000000000) (h1:p.uf≤L - p.o) (h2:L - p.o < p.ut) (hu:Uni z L p.o):p.nf≤L∧L < p.nt:=by
 have hof:=fun t=>a2a hg t
 have ho:=h.off hg h1 h2
 have hob:=hof (L - p.o)
 constructor
 ·rcases h.bg with ⟨_,hn,_,_⟩ | ⟨x,hx,hxu,hxo,hn,_⟩
  ·omega
  refine Int.not_lt.1 fun hlt=>?_
  have h3:=hof (x.tm - 1)
  have h4:=abb hg hx (t:=L - a2u z (x.tm - 1)) (by omega) (by omega)
  have:=hu.2 (L - a2u z (x.tm - 1)) (by omega)
  omega
 rcases h.en with ⟨_,hn⟩ | ⟨y,hy,hyu,hn,_⟩
 ·omega
 refine Int.not_le.1 fun hle=>?_
 have h5:=hof y.tm
 rw [aii hg hy (yR _) (by omega)] at h5
 have h4:=aii hg hy (t:=L - y.off) (by omega) (by omega)
 have:=hu.2 (L - y.off) (by omega)
 omega
theorem lenP_ge {pc:Nat→Option Pc}:∀ {f k:Nat},k≤aol pc f k
 | 0,k=>zD _
 | f+1,k=>by
  unfold aol
  split
  ·exact zD _
  ·have:=lenP_ge (pc:=pc) (f:=f) (k:=k+1)
   omega
theorem lenP_gt {pc:Nat→Option Pc}:∀ {f k i:Nat},k≤i→i < k+f→(∀ j,k≤j→j≤i→∃ p,pc j=some p)→i < aol pc f k
 | 0,k,i,h1,h2,_=>by omega
 | f+1,k,i,h1,h2,h3=>by
  unfold aol
  obtain ⟨p,hp⟩:=h3 k (zD _) h1
  rw [hp]
  show i < aol pc f (k+1)
  rcases Nat.eq_or_lt_of_le h1 with e | e
  ·have:=lenP_ge (pc:=pc) (f:=f) (k:=k+1)
   omega
  ·exact lenP_gt e (by omega) fun j a b=>h3 j (by omega) b
theorem pcZ_in {z:a0w} (hg:Good z) (hf:afa z) {i:Nat} {p:Pc} (h:pcZ z i=some p):i < aol (pcZ z) 1000001 0:=by
 have:=hf (i+1) (.inr ⟨p,h⟩)
 exact lenP_gt (xG i) (by omega) fun j _ hj=>pcZ_down hg h hj
theorem pcZ_ordU {z:a0w} (hg:Good z) (hL:∀ y,IsT z y→0≤y.tm) (i j:Nat) (p q:Pc) (hij:i < j) (hp:pcZ z i=some p) (hq:pcZ z j=some q):p.ut≤q.uf∧p.nt≤q.nf:=by
 obtain ⟨ep,_⟩:=pcZ_cases hp
 obtain ⟨eq,hj⟩:=pcZ_cases hq
 rcases hj with e | ⟨k,x,rfl,hx,_⟩
 ·omega
 obtain ⟨w,hw⟩ : ∃ w,nxZ z i=some w:=aam (by omega:i≤k) ⟨x,hx⟩
 have hb:=pst_before hg hL hx
 have e1:q.uf=x.tm:=by rw [eq,akc (start:=z.start) hx];cases nxZ z (k+1)<;>rfl
 have e3:q.nf=x.tm+max (a2u z (x.tm - 1)) x.off:=by rw [eq,← hb,akc (start:=z.start) hx];cases nxZ z (k+1)<;>rfl
 have e4:p.ut=w.tm:=by rw [ep,hw];rfl
 have e5:p.nt=w.tm+min p.o w.off:=by rw [ep,hw];rfl
 have hwi:=(a6q hg hw).1
 have hwo:=a2a hg w.tm
 rw [aii hg hwi (yR _) (by omega)] at hwo
 have hxo:=a2a hg (x.tm - 1)
 rcases Nat.eq_or_lt_of_le (Nat.le_of_lt_succ hij) with e | e
 ·subst e
  rw [hw] at hx
  injection hx with hx
  subst hx
  exact ⟨by omega,by omega⟩
 have:=ach hg e hw hx
 exact ⟨by omega,by omega⟩
end Zn
namespace Zn
structure DaysK (z:a0w):Prop where
 g:Good z
 low:∀ y,IsT z y→0≤y.tm
 fin:afa z
 f:fromD z+a0s z≤1000
theorem daysK_made {z:a0w} (mk:arz z) (hs:SmallC z):DaysK z:=by
 have hl:∀ y,IsT z y→0≤y.tm:=fun y hy=>by have:=made_low mk hy;omega
 have h1:=settled_small mk hs
 have hc:a0s z≤217:=by
  rcases made_cyc mk with ⟨h,_⟩ | ⟨_,h⟩<;>omega
 have hf:fromD z+a0s z≤1000:=by unfold fromD;omega
 exact ⟨mk.good,hl,ao9 mk.good hl (by omega),hf⟩
theorem fromD_0 (z:a0w):0≤fromD z:=by unfold fromD;omega
def dayK (z:a0w) (d:Int):Int:=if d < fromD z then d else fromD z+(d - fromD z) % a0s z
theorem dayK_in {z:a0w} (hk:DaysK z) {d:Int} (d0:0≤d):0≤dayK z d∧dayK z d < fromD z+a0s z:=by
 have hc:=hk.g.ck.c0
 have h1:=wP (d - fromD z) (show a0s z≠0 by omega)
 have h2:=vJ (d - fromD z) (show 0 < a0s z by omega)
 have:=fromD_0 z
 unfold dayK
 split<;>omega
theorem key_inj:∀ {M:List (Int×List Tr)},(M.map (·.1)).Nodup→∀ g,g∈M→∀ h,h∈M→g.1=h.1→g=h
 | [],_,g,hg,_,_,_=>by cases hg
 | x :: r,hn,g,hg,h,hh,e=>by
  have hn2:=List.nodup_cons.1 hn
  rcases yN.1 hg with rfl | hg
  ·rcases yN.1 hh with rfl | hh
   ·rfl
   ·exact absurd (List.mem_map.2 ⟨h,hh,e.symm⟩) hn2.1
  ·rcases yN.1 hh with e2 | hh
   ·exact absurd (List.mem_map.2 ⟨g,hg,e.trans (congrArg (·.1) e2)⟩) hn2.1
   ·exact key_inj hn2.2 g hg h hh e
def InPc (z:a0w) (sel:Pc→Int×Int) (L o:Int):Prop := ∃ i p,pcZ z i=some p∧p.o=o∧(sel p).1≤L∧L < (sel p).2
theorem pc_mem {z:a0w} (hk:DaysK z) {sel:Pc→Int×Int} {m d:Int} (d0:0≤d) (d1:d < fromD z+a0s z) {o:Int} (h:InPc z sel (d * 1440+m) o) : ∃ g,g∈acv z sel m∧g.1=o∧∃ s,s∈g.2∧s.tm≤d∧d < s.off:=by
 obtain ⟨i,p,hp,ho,h1,h2⟩:=h
 have a1:=ceilD_le.2 h1
 have a2:d < apq (sel p).2 m:=Int.not_le.1 fun hle=>by have:=ceilD_le.1 hle;omega
 have hs1:(a5e (sel p) m (fromD z+a0s z)).tm≤d:=by simp only [a5e];omega
 have hs2:d < (a5e (sel p) m (fromD z+a0s z)).off:=by simp only [a5e];omega
 obtain ⟨g,hg,e,hs⟩:=(memN_mem (m:=m) (behind:=fromD z+a0s z) (o:=o) (s:=a5e (sel p) m (fromD z+a0s z)) (aol (pcZ z) 1000001 0)).2 ⟨i,p,pcZ_in hk.g hk.fin hp,hp,ho,rfl,by omega⟩
 exact ⟨g,hg,e,_,hs,hs1,hs2⟩
theorem mem_pc {z:a0w} (hk:DaysK z) {sel:Pc→Int×Int} {m d:Int} (d0:0≤d) (d1:d < fromD z+a0s z) {g:Int×List Tr} (hg:g∈acv z sel m):(∃ s,s∈g.2∧s.tm≤d∧d < s.off)↔InPc z sel (d * 1440+m) g.1:=by
 constructor
 ·rintro ⟨s,hs,h1,h2⟩
  obtain ⟨i,p,_,hp,ho,he,_⟩:=(memN_mem (o:=g.1) (s:=s) _).1 ⟨g,hg,rfl,hs⟩
  rw [he] at h1 h2
  simp only [a5e] at h1 h2
  refine ⟨i,p,hp,ho,ceilD_le.1 (by omega),Int.not_le.1 fun hle=>?_⟩
  have:=ceilD_le.2 hle
  omega
 intro h
 obtain ⟨g',hg',e,hs⟩:=pc_mem hk d0 d1 h
 have:=key_inj (adl _) g' hg' g hg e
 rw [← this]
 exact hs
theorem inU {z:a0w} (hk:DaysK z) {L o:Int} (h0:0≤L) (h1:L≤(fromD z+a0s z+1) * 1440):InPc z ak1 L o↔a2u z L=o:=by
 have:=hk.f
 constructor
 ·rintro ⟨i,p,hp,rfl,h2,h3⟩
  exact (pcK hk.g hk.low hp).off hk.g h2 h3
 intro h
 obtain ⟨i,p,hp,h2,h3⟩:=piece_at hk.g hk.low (t:=L) (by omega) (by omega) (by omega)
 exact ⟨i,p,hp,by rw [← h];exact ((pcK hk.g hk.low hp).off hk.g h2 h3).symm,h2,h3⟩
theorem inN {z:a0w} (hk:DaysK z) {L o:Int} (h0:0≤L) (h1:L≤(fromD z+a0s z+1) * 1440):InPc z akh L o↔Uni z L o:=by
 have:=hk.f
 constructor
 ·rintro ⟨i,p,hp,rfl,h2,h3⟩
  exact (pcK hk.g hk.low hp).uni hk.g (by omega) (by omega) h2 h3
 intro h
 have ho:=a2a hk.g (L - o)
 rw [h.1] at ho
 obtain ⟨i,p,hp,h2,h3⟩:=piece_at hk.g hk.low (t:=L - o) (by omega) (by omega) (by omega)
 have hK:=pcK hk.g hk.low hp
 have e:p.o=o:=by rw [← hK.off hk.g h2 h3];exact h.1
 have h4:=hK.once hk.g (L:=L) (by omega) (by omega) (by rw [e];exact h2) (by rw [e];exact h3) (by rw [e];exact h)
 exact ⟨i,p,hp,e,h4⟩
theorem dayK_shift {z:a0w} (hk:DaysK z) {d:Int} : ∃ S,0≤S∧d=dayK z d+S∧(∀ n,a1w z (ysT z) (a0s z)≤n→a2u z (n+S * 1440)=a2u z n)∧(S=0∨a1w z (ysT z) (a0s z)+2880≤dayK z d * 1440):=by
 have hc:=hk.g.ck.c0
 by_cases h:d < fromD z
 ·refine ⟨0,yR _,?_,fun n _=>by simp,.inl rfl⟩
  unfold dayK
  rw [zQ h]
  omega
 have e:=Int.mul_ediv_add_emod (d - fromD z) (a0s z)
 have h1:=wP (d - fromD z) (show a0s z≠0 by omega)
 have hq:0≤(d - fromD z) / a0s z:=Int.ediv_nonneg (by omega) (by omega)
 obtain ⟨q,hq2⟩:=Int.eq_ofNat_of_zero_le hq
 have e2:dayK z d=fromD z+(d - fromD z) % a0s z:=by unfold dayK;rw [zS h]
 rw [hq2] at e
 refine ⟨a0s z * (q:Int),xX (by omega) (by omega),by omega,fun n hn=>?_,.inr ?_⟩
 ·have:=settled_reps hk.g hn q
  rw [show a0s z * (q:Int) * 1440=(q:Int) * (a0s z * 1440) by rw [Int.mul_comm (a0s z),Int.mul_assoc]]
  exact this
 rw [e2]
 have:a1w z (ysT z) (a0s z) / 1440+3≤fromD z:=by unfold fromD;omega
 omega
theorem off_day {z:a0w} (hk:DaysK z) {m d:Int} (m0:0≤m):a2u z (d * 1440+m)=a2u z (dayK z d * 1440+m):=by
 obtain ⟨S,s0,e,hr,hs⟩:=dayK_shift hk (d:=d)
 rcases hs with rfl | hs
 ·rw [show d=dayK z d by omega] at *
  congr 1
  omega
 have:=hr (dayK z d * 1440+m) (by omega)
 rw [← this]
 congr 1
 omega
theorem uni_day {z:a0w} (hk:DaysK z) {m d o:Int} (m0:0≤m):Uni z (d * 1440+m) o↔Uni z (dayK z d * 1440+m) o:=by
 obtain ⟨S,s0,e,hr,hs⟩:=dayK_shift hk (d:=d)
 rcases hs with h0 | hs
 ·have e2:d * 1440+m=dayK z d * 1440+m:=by omega
  rw [e2]
 obtain ⟨L,hL⟩ : ∃ L,dayK z d * 1440+m=L:=⟨_,rfl⟩
 have e2:d * 1440+m=L+S * 1440:=by omega
 rw [e2,hL]
 constructor
 ·rintro ⟨h1,h2⟩
  have ho:=a2a hk.g (L+S * 1440 - o)
  rw [h1] at ho
  refine ⟨?_,fun t ht=>?_⟩
  ·rw [← hr (L - o) (by omega),show L - o+S * 1440=L+S * 1440 - o by omega]
   exact h1
  have hto:=a2a hk.g t
  have:=h2 (t+S * 1440) (by rw [hr t (by omega)];omega)
  omega
 rintro ⟨h1,h2⟩
 have ho:=a2a hk.g (L - o)
 rw [h1] at ho
 refine ⟨?_,fun t ht=>?_⟩
 ·rw [show L+S * 1440 - o=L - o+S * 1440 by omega,hr (L - o) (by omega)]
  exact h1
 have hto:=a2a hk.g t
 have h3:=hr (t - S * 1440) (by omega)
 rw [show t - S * 1440+S * 1440=t by omega] at h3
 have:=h2 (t - S * 1440) (by omega)
 omega
theorem grpN {z:a0w} (hk:DaysK z) {m:Int} {g:Int×List Tr} (hg:g∈acv z akh m):GrpK (fromD z) (a0s z) g.2:=⟨memN_ord (fun i j p q hij hp hq=>(pcZ_ordU hk.g hk.low i j p q hij hp hq).2) _ g hg,aim _ g hg⟩
theorem grpU {z:a0w} (hk:DaysK z) {m:Int} {g:Int×List Tr} (hg:g∈acv z ak1 m):GrpK (fromD z) (a0s z) g.2:=⟨memN_ord (fun i j p q hij hp hq=>(pcZ_ordU hk.g hk.low i j p q hij hp hq).1) _ g hg,aim _ g hg⟩
theorem DaysK.c0 {z:a0w} (hk:DaysK z):1≤a0s z:=by have:=hk.g.ck.c0;omega
theorem DaysK.per {z:a0w} (hk:DaysK z) {l:List Tr} (h:GrpK (fromD z) (a0s z) l):ajo (a9y (fromD z) (a0s z) l):=h.per (fromD_0 z) hk.c0 (by have:=hk.f;omega)
theorem hasN {z:a0w} (hk:DaysK z) {m d:Int} (m0:0≤m) (m1:m < 1440) (d0:0≤d) {g:Int×List Tr} (hg:g∈acv z akh m):hasP (canonP (a9y (fromD z) (a0s z) g.2)) d=true↔Uni z (d * 1440+m) g.1:=by
 have hd:=dayK_in hk d0
 rw [hasP_canon (hk.per (grpN hk hg)),(grpN hk hg).has hk.c0 d,uni_day hk m0,← inN hk (by omega) (by omega)]
 exact mem_pc hk hd.1 hd.2 hg
theorem hasU {z:a0w} (hk:DaysK z) {m d:Int} (m0:0≤m) (m1:m < 1440) (d0:0≤d) {g:Int×List Tr} (hg:g∈acv z ak1 m):hasP (canonP (a9y (fromD z) (a0s z) g.2)) d=true↔a2u z (d * 1440+m)=g.1:=by
 have hd:=dayK_in hk d0
 rw [hasP_canon (hk.per (grpU hk hg)),(grpU hk hg).has hk.c0 d,off_day hk m0,← inU hk (by omega) (by omega)]
 exact mem_pc hk hd.1 hd.2 hg
theorem exN {z:a0w} (hk:DaysK z) {m d o:Int} (m0:0≤m) (m1:m < 1440) (d0:0≤d) (h:Uni z (d * 1440+m) o) : ∃ g,g∈acv z akh m∧g.1=o:=by
 have hd:=dayK_in hk d0
 obtain ⟨g,hg,e,_⟩:=pc_mem hk hd.1 hd.2 ((inN hk (by omega) (by omega)).2 ((uni_day hk m0).1 h))
 exact ⟨g,hg,e⟩
theorem exU {z:a0w} (hk:DaysK z) {m d:Int} (m0:0≤m) (m1:m < 1440) (d0:0≤d) : ∃ g,g∈acv z ak1 m∧g.1=a2u z (d * 1440+m):=by
 have hd:=dayK_in hk d0
 obtain ⟨g,hg,e,_⟩:=pc_mem hk hd.1 hd.2 ((inU hk (by omega) (by omega)).2 (off_day hk m0).symm)
 exact ⟨g,hg,e⟩
noncomputable def dysL (z:a0w) (sel:Pc→Int×Int) (m:Int):List (Int×Per):=ai4 (resD canonP (fromD z) (a0s z) (acv z sel m))
theorem dysL_mem {z:a0w} {sel:Pc→Int×Int} {m:Int} {x:Int×Per}:x∈dysL z sel m↔∃ g,g∈acv z sel m∧x=(g.1,canonP (a9y (fromD z) (a0s z) g.2)):=by
 unfold dysL resD
 rw [(ab5 _).mem_iff,List.mem_map]
 exact ⟨fun ⟨g,a,b⟩=>⟨g,a,b.symm⟩,fun ⟨g,a,b⟩=>⟨g,a,b.symm⟩⟩
theorem dysL_lt {z:a0w} {sel:Pc→Int×Int} {m:Int}:(dysL z sel m).Pairwise fun a b=>a.1 < b.1:=by
 have h1:(dysL z sel m).Pairwise fun x y=>decide (x.1≤y.1)=true:=List.pairwise_mergeSort (fun a b c h1 h2=>by simp at *;omega) (fun a b=>by simp;omega) _
 have h2:((dysL z sel m).map (·.1)).Nodup:=by
  have hp:((dysL z sel m).map (·.1)).Perm ((acv z sel m).map (·.1)):=by
   refine ((ab5 _).map (·.1)).trans ?_;unfold resD;rw [List.map_map];exact List.Perm.refl _
  exact hp.nodup_iff.2 (adl _)
 have h3:=h1.and (List.pairwise_map.1 h2)
 exact h3.imp fun {a b} ⟨q1,q2⟩=>by
  have:a.1≤b.1:=wV q1
  omega
theorem daysR_ok {z:a0w} (hk:DaysK z) {m:Int} (m0:0≤m) (m1:m < 1440) {sel:Pc→Int×Int} (hgr:∀ g,g∈acv z sel m→GrpK (fromD z) (a0s z) g.2):a4c canonP z m sel=(dysL z sel m,0):=by
 have hf:=hk.f
 have h0:=fromD_0 z
 have hc:=hk.c0
 unfold a4c
 rw [zQ ⟨a0v.2 hk.g,m0,m1⟩,zS (by omega),zS]
 ·rfl
 unfold apr
 rw [List.any_eq_true]
 rintro ⟨g,hg,h⟩
 have h1:=(hgr g hg).cnt (by omega)
 have h2:1048576 < a8i g.2:=wV h
 omega
def cntH (l:List (Int×Per)) (d:Int):Nat→Nat
 | 0=>0
 | k+1=>cntH l d k+if hasP (l.getD k default).2 d=true then 1 else 0
theorem cntH_le1 {l:List (Int×Per)} {d:Int} (h:∀ i j,i < l.length→j < l.length→hasP (l.getD i default).2 d=true→hasP (l.getD j default).2 d=true→i=j):∀ n,n≤l.length→(cntH l d n=0∧∀ k,k < n→hasP (l.getD k default).2 d≠true)∨(cntH l d n=1∧∃ k,k < n∧hasP (l.getD k default).2 d=true)
 | 0,_=>.inl ⟨rfl,fun k hk=>absurd hk (yA k)⟩
 | n+1,hn=>by
  unfold cntH
  by_cases hc:hasP (l.getD n default).2 d=true
  ·rw [zQ hc]
   rcases cntH_le1 h n (by omega) with ⟨h1,_⟩ | ⟨h1,k,h2,h3⟩
   ·exact .inr ⟨by omega,n,by omega,hc⟩
   ·have:=h k n (by omega) (by omega) h3 hc
    omega
  ·rw [zS hc]
   rcases cntH_le1 h n (by omega) with ⟨h1,h2⟩ | ⟨h1,k,h2,h3⟩
   ·refine .inl ⟨h1,fun k hk=>?_⟩
    rcases Nat.eq_or_lt_of_le (Nat.le_of_lt_succ hk) with e | e
    ·rw [e];exact hc
    ·exact h2 k e
   ·exact .inr ⟨h1,k,by omega,h3⟩
structure LstK (l:List (Int×Per)):Prop where
 ok:∀ k,k < l.length→ajo (l.getD k default).2∧canonP (l.getD k default).2=(l.getD k default).2∧¬ NeedC (l.getD k default).2
 lt:∀ i j,i < j→j < l.length→(l.getD i default).1 < (l.getD j default).1
theorem at_mem {l:List (Int×Per)} {k:Nat} (h:k < l.length):l.getD k default∈l:=by rw [zB,zK h];exact yT h
theorem lstK {z:a0w} (hk:DaysK z) {m:Int} {sel:Pc→Int×Int} (hgr:∀ g,g∈acv z sel m→GrpK (fromD z) (a0s z) g.2):LstK (dysL z sel m):=by
 refine ⟨fun k hkl=>?_,fun i j hij hj=>?_⟩
 ·obtain ⟨g,hg,e⟩:=dysL_mem.1 (at_mem hkl)
  rw [e]
  exact ⟨perOk_canon (hk.per (hgr g hg)),canon_still (hk.per (hgr g hg))⟩
 have:=wH.1 (dysL_lt (z:=z) (sel:=sel) (m:=m)) i j (by omega) hj hij
 rw [zB,zB,zK hj,zK (by omega)]
 exact this
theorem LstK.inj {l:List (Int×Per)} (h:LstK l) {i j:Nat} (hi:i < l.length) (hj:j < l.length) (e:(l.getD i default).1=(l.getD j default).1):i=j:=by
 rcases vO i j with k | k | k
 ·have:=h.lt i j k hj;omega
 ·exact k
 have:=h.lt j i k hi;omega
theorem uni_inst {z:a0w} (hg:Good z) {L o:Int}:Uni z L o↔(a2w z L).1 = [L - o]:=by
 constructor
 ·rintro ⟨h1,h2⟩
  have hm:L - o∈(a2w z L).1:=(a5u hg).2 (by rw [h1];omega)
  rcases a4o hg L with ⟨h3,_⟩ | ⟨a,h3,h4⟩ | ⟨a,b,h3,h4,h5,h6⟩
  ·rw [h3] at hm;cases hm
  ·rw [h3,h2 a h4]
  have e1:=h2 a h5
  have e2:b+a2u z b=L:=(a5u hg).1 (by rw [h3];simp)
  have:=h2 b e2
  omega
 intro h
 have h1:L - o+a2u z (L - o)=L:=(a5u hg).1 (by rw [h];simp)
 refine ⟨by omega,fun t ht=>?_⟩
 have:=(a5u hg).2 ht
 rw [h] at this
 exact yD.1 this
theorem law_n {z:a0w} (hk:DaysK z) {m d:Int} (m0:0≤m) (m1:m < 1440) (d0:0≤d):(∀ k,k < (dysL z akh m).length→(hasP ((dysL z akh m).getD k default).2 d=true↔(a2w z (d * 1440+m)).1 = [d * 1440+m - ((dysL z akh m).getD k default).1]))∧cntH (dysL z akh m) d (dysL z akh m).length=if (a2w z (d * 1440+m)).1.length=1 then 1 else 0:=by
 have hl:=lstK hk (fun g hg=>grpN (m:=m) hk hg)
 have hh:∀ k,k < (dysL z akh m).length→(hasP ((dysL z akh m).getD k default).2 d=true↔(a2w z (d * 1440+m)).1 = [d * 1440+m - ((dysL z akh m).getD k default).1]):=fun k hkl=>by
  obtain ⟨g,hg,e⟩:=dysL_mem.1 (at_mem hkl)
  rw [e,← uni_inst hk.g]
  exact hasN hk m0 m1 d0 hg
 refine ⟨hh,?_⟩
 have hu:∀ i j,i < (dysL z akh m).length→j < (dysL z akh m).length→hasP ((dysL z akh m).getD i default).2 d=true→hasP ((dysL z akh m).getD j default).2 d=true→i=j:=fun i j hi hj h1 h2=>by
  have e1:=(hh i hi).1 h1
  have e2:=(hh j hj).1 h2
  rw [e1] at e2
  injection e2 with e2 _
  exact hl.inj hi hj (by omega)
 by_cases h1:(a2w z (d * 1440+m)).1.length=1
 ·rw [zQ h1]
  obtain ⟨a,ha⟩:=List.length_eq_one_iff.1 h1
  have hU:Uni z (d * 1440+m) (d * 1440+m - a):=(uni_inst hk.g).2 (by rw [ha];congr 1;omega)
  obtain ⟨g,hg,e⟩:=exN hk m0 m1 d0 hU
  obtain ⟨k,hkl,ek⟩:=List.getElem_of_mem (dysL_mem.2 ⟨g,hg,rfl⟩)
  have ek2:(dysL z akh m).getD k default=(g.1,canonP (a9y (fromD z) (a0s z) g.2)):=by rw [zB,zK hkl];exact ek
  rcases cntH_le1 hu _ (zD _) with ⟨_,h3⟩ | ⟨h3,_⟩
  ·exact absurd ((hh k hkl).2 (by rw [ek2,ha];congr 1;show a=_ - g.1;omega)) (h3 k hkl)
  exact h3
 rw [zS h1]
 rcases cntH_le1 hu _ (zD _) with ⟨h3,_⟩ | ⟨_,k,hkl,h3⟩
 ·exact h3
 exact absurd (by rw [(hh k hkl).1 h3];rfl) h1
theorem law_u {z:a0w} (hk:DaysK z) {m d:Int} (m0:0≤m) (m1:m < 1440) (d0:0≤d):(∀ k,k < (dysL z ak1 m).length→(hasP ((dysL z ak1 m).getD k default).2 d=true↔a2u z (d * 1440+m)=((dysL z ak1 m).getD k default).1))∧cntH (dysL z ak1 m) d (dysL z ak1 m).length=1:=by
 have hl:=lstK hk (fun g hg=>grpU (m:=m) hk hg)
 have hh:∀ k,k < (dysL z ak1 m).length→(hasP ((dysL z ak1 m).getD k default).2 d=true↔a2u z (d * 1440+m)=((dysL z ak1 m).getD k default).1):=fun k hkl=>by
  obtain ⟨g,hg,e⟩:=dysL_mem.1 (at_mem hkl)
  rw [e]
  exact hasU hk m0 m1 d0 hg
 refine ⟨hh,?_⟩
 have hu:∀ i j,i < (dysL z ak1 m).length→j < (dysL z ak1 m).length→hasP ((dysL z ak1 m).getD i default).2 d=true→hasP ((dysL z ak1 m).getD j default).2 d=true→i=j:=fun i j hi hj h1 h2=>hl.inj hi hj (((hh i hi).1 h1).symm.trans ((hh j hj).1 h2))
 obtain ⟨g,hg,e⟩:=exU hk m0 m1 d0 (m:=m) (d:=d)
 obtain ⟨k,hkl,ek⟩:=List.getElem_of_mem (dysL_mem.2 ⟨g,hg,rfl⟩)
 have ek2:(dysL z ak1 m).getD k default=(g.1,canonP (a9y (fromD z) (a0s z) g.2)):=by rw [zB,zK hkl];exact ek
 rcases cntH_le1 hu _ (zD _) with ⟨_,h3⟩ | ⟨h3,_⟩
 ·exact absurd ((hh k hkl).2 (by rw [ek2];exact e.symm)) (h3 k hkl)
 exact h3
end Zn
