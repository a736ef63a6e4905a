/-
  Plain: the pieces of a window with unlike offsets; normal lists with the same instants are equal.
-/
import Derived.Test.YtppjleebbjipbaaGreatQkZtj
set_option linter.all false
namespace Zn
theorem getD_mem {S:List Int} {i:Nat} (h:i < S.length):S.getD i 0∈S:=by rw [zB,zK h];exact yT h
theorem sI_le {S:List Int} (hs:S.Pairwise fun a b=>a≤b) {i j:Nat} (hij:i≤j) (hj:j < S.length):S.getD i 0≤S.getD j 0:=by
 rcases Nat.eq_or_lt_of_le hij with rfl | h
 ·exact yR _
 rw [zB,zB,zK hj,zK (by omega)]
 exact wH.1 hs i j (by omega) hj h
theorem sI_split {S:List Int} (hs:S.Pairwise fun a b=>a≤b) (t:Int):∀ m,m≤S.length→∃ i,i≤m∧(∀ j,j < i→S.getD j 0≤t)∧(∀ j,i≤j→j < m→t < S.getD j 0)
 | 0,_=>⟨0,zD _,fun j h=>absurd h (yA j),fun j _ h=>absurd h (yA j)⟩
 | m+1,hm=>by
  obtain ⟨i,h1,h2,h3⟩:=sI_split hs t m (by omega)
  by_cases h:t < S.getD m 0
  ·refine ⟨i,by omega,h2,fun j h4 h5=>?_⟩
   rcases zU j m with h6 | h6
   ·exact h3 j h4 h6
   ·obtain rfl:j=m:=by omega
    exact h
  ·exact ⟨m+1,zD _,fun j hj=>by have:=sI_le hs (show j≤m by omega) (by omega);omega,fun j h4 h5=>by omega⟩
theorem sortI_srt (l:List Int):(a2z l).Pairwise fun a b=>a≤b:=by
 have h:=List.pairwise_mergeSort (le:=fun x y:Int=>decide (x≤y)) (fun a b c h1 h2=>by simp only [zM] at h1 h2 ⊢;omega) (fun a b=>by simp only [yQ,zM];omega) l
 unfold a2z
 exact h.imp (fun hab=>by simpa using hab)
theorem piece_has {a b:a0w} {S:List Int} (t:Int):∀ m,hasB (pieceK a b S m) t=true↔∃ k,k < m∧a2u a (S.getD k 0)≠a2u b (S.getD k 0)∧S.getD k 0≤t∧t < S.getD (k+1) 0
 | 0=>⟨fun h=>(by cases h),fun ⟨k,h,_⟩=>absurd h (yA k)⟩
 | m+1=>by
  have ih:=piece_has (a:=a) (b:=b) (S:=S) t m
  show hasB (pieceK a b S m++_) t=true↔_
  by_cases he:a2u a (S.getD m 0)=a2u b (S.getD m 0)
  ·rw [zQ he,uA,ih]
   constructor
   ·rintro ⟨k,h1,h2⟩;exact ⟨k,by omega,h2⟩
   ·rintro ⟨k,h1,h2,h3⟩
    rcases zU k m with h4 | h4
    ·exact ⟨k,h4,h2,h3⟩
    ·obtain rfl:k=m:=by omega
     exact absurd he h2
  ·rw [zS he,hasB_snoc,ih]
   constructor
   ·rintro (⟨k,h1,h2⟩ | h2)
    ·exact ⟨k,by omega,h2⟩
    ·exact ⟨m,by omega,he,h2⟩
   ·rintro ⟨k,h1,h2,h3⟩
    rcases zU k m with h4 | h4
    ·exact .inl ⟨k,h4,h2,h3⟩
    ·obtain rfl:k=m:=by omega
     exact .inr h3
theorem cuts_mem {f u:Int} {l:List Tr} {t:Int}:t∈a2z (cutsK f u l l.length)↔t=f∨t=u∨∃ x,x∈l∧x.tm=t:=by
 rw [(a4n _).mem_iff]
 unfold cutsK
 rw [wY,yJ,List.mem_map]
 simp only [yN,xE,or_false]
 constructor
 ·rintro ((h | h) | h)
  ·exact .inl h
  ·exact .inr (.inl h)
  exact .inr (.inr h)
 rintro (h | h | h)
 ·exact .inl (.inl h)
 ·exact .inl (.inr h)
 exact .inr h
theorem at_getD {S:List Int} {t:Int} (h:t∈S) : ∃ q,q < S.length∧S.getD q 0=t:=by
 obtain ⟨q,hq,e⟩:=List.getElem_of_mem h
 exact ⟨q,hq,by rw [zB,zK hq];exact e⟩
theorem diff_has {a b:a0w} (hga:Good a) (hgb:Good b) {f u:Int} {l:List Tr} (hfu:f≤u) (hin:∀ x,x∈l→f≤x.tm∧x.tm < u) (hall:∀ y,IsT a y∨IsT b y→f≤y.tm→y.tm < u→∃ x,x∈l∧x.tm=y.tm) (t:Int) :
  hasB (pieceK a b (a2z (cutsK f u l l.length)) (l.length+1)) t=true↔f≤t∧t < u∧a2u a t≠a2u b t:=by
 have hlen:(a2z (cutsK f u l l.length)).length=l.length+2:=by rw [(a4n _).length_eq,cutsK_len f u l (zD _)]
 have hs:=sortI_srt (cutsK f u l l.length)
 have hm:∀ {t},t∈a2z (cutsK f u l l.length)↔t=f∨t=u∨∃ x,x∈l∧x.tm=t:=cuts_mem
 have hci:∀ {t},t∈a2z (cutsK f u l l.length)→f≤t∧t≤u:=fun h=>cutsK_in hfu hin h
 generalize a2z (cutsK f u l l.length)=S at *
 have key:∀ k,k+1 < S.length→S.getD k 0≤t→t < S.getD (k+1) 0→∀ y,IsT a y∨IsT b y→y.tm≤t→y.tm≤S.getD k 0:=by
  intro k hk h1 h2 y hy h3
  rcases uH (S.getD k 0) y.tm with h4 | h4
  ·have h5:=hci (getD_mem (show k < S.length by omega))
   have h6:=hci (getD_mem hk);obtain ⟨x,hx,hxy⟩:=hall y hy (by omega) (by omega);obtain ⟨q,hq,e⟩:=at_getD (hm.2 (.inr (.inr ⟨x,hx,hxy⟩)))
   rcases zU k q with h7 | h7
   ·have:=sI_le hs (show k+1≤q from h7) hq
    omega
   have:=sI_le hs h7 (by omega);omega
  exact h4
 rw [piece_has]
 constructor
 ·rintro ⟨k,h1,h2,h3,h4⟩
  have h5:=hci (getD_mem (show k < S.length by omega))
  have h6:=hci (getD_mem (show k+1 < S.length by omega))
  refine ⟨by omega,by omega,?_⟩
  rw [← a7y hga h3 (fun y hy h=>key k (by omega) h3 h4 y (.inl hy) h),← a7y hgb h3 (fun y hy h=>key k (by omega) h3 h4 y (.inr hy) h)]
  exact h2
 rintro ⟨h1,h2,h3⟩
 obtain ⟨i,i1,i2,i3⟩:=sI_split hs t S.length (zD _)
 obtain ⟨q,hq,eq⟩:=at_getD (hm.2 (.inl rfl:f=f∨_))
 obtain ⟨r,hr,er⟩:=at_getD (hm.2 (.inr (.inl rfl):u=f∨_))
 have hi0:q < i:=by
  rcases zU q i with h | h
  ·exact h
  have:=i3 q h hq;omega
 have hir:i≤r:=by
  rcases zU r i with h | h
  ·have:=i2 r h;omega
  exact h
 rcases i with _ | k
 ·omega
 have h4:=i2 k (by omega)
 have h5:=i3 (k+1) (zD _) (by omega)
 refine ⟨k,by omega,?_,h4,h5⟩
 rw [a7y hga h4 (fun y hy h=>key k (by omega) h4 h5 y (.inl hy) h),a7y hgb h4 (fun y hy h=>key k (by omega) h4 h5 y (.inr hy) h)]
 exact h3
theorem ordB_tail {x:Tr} {A:List Tr} (h:ordB (x :: A)):ordB A:=fun i hi=>by
 have:=h (i+1) (by simpa using hi)
 refine ⟨by simpa using this.1,fun h0=>?_⟩
 have h2:=this.2 (by omega)
 rw [show i+1 - 1=(i - 1)+1 by omega] at h2
 simpa using h2
theorem ordB_head {x:Tr} {A:List Tr} (h:ordB (x :: A)):x.tm < x.off:=by simpa using (h 0 (by simp)).1
theorem ordB_after:∀ {x:Tr} {A:List Tr},ordB (x :: A)→∀ s,s∈A→x.off < s.tm
 | x,[],_,s,hs=>by cases hs
 | x,y :: A,h,s,hs=>by
  have h1:x.off < y.tm:=by simpa using (h 1 (by simp)).2 (by omega)
  rcases yN.1 hs with rfl | h2
  ·exact h1
  ·have h3:=ordB_after (ordB_tail h) s h2
   have h4:=ordB_head (ordB_tail h)
   omega
theorem hasB_mem {A:List Tr} {t:Int}:hasB A t=true↔∃ s,s∈A∧s.tm≤t∧t < s.off:=by
 unfold hasB
 rw [List.any_eq_true]
 simp only [zN,zM]
theorem hasB_cons {x:Tr} {A:List Tr} {t:Int}:hasB (x :: A) t=true↔(x.tm≤t∧t < x.off)∨hasB A t=true:=by
 rw [hasB_mem,hasB_mem]
 constructor
 ·rintro ⟨s,h1,h2⟩
  rcases yN.1 h1 with rfl | h3
  ·exact .inl h2
  exact .inr ⟨s,h3,h2⟩
 rintro (h | ⟨s,h1,h2⟩)
 ·exact ⟨x,by simp,h⟩
 exact ⟨s,by simp [h1],h2⟩
theorem norm_eq:∀ {A B:List Tr},ordB A→ordB B→(∀ t,hasB A t=true↔hasB B t=true)→A=B
 | [],[],_,_,_=>rfl
 | [],y :: B,_,hb,h=>by
  have h1:=ordB_head hb
  have:=(h y.tm).2 (hasB_cons.2 (.inl ⟨yR _,h1⟩))
  cases this
 | x :: A,[],ha,_,h=>by
  have h1:=ordB_head ha
  have:=(h x.tm).1 (hasB_cons.2 (.inl ⟨yR _,h1⟩))
  cases this
 | x :: A,y :: B,ha,hb,h=>by
  have hx:=ordB_head ha
  have hy:=ordB_head hb
  have fA:=ordB_after ha
  have fB:=ordB_after hb
  have low:∀ {z:Tr} {C:List Tr},z.tm < z.off→(∀ s,s∈C→z.off < s.tm)→∀ t,hasB (z :: C) t=true→z.tm≤t:=fun hz hC t ht=>by
   rcases hasB_cons.1 ht with h1 | h1
   ·exact h1.1
   ·obtain ⟨s,h2,h3,_⟩:=hasB_mem.1 h1
    have:=hC s h2
    omega
  have e1:x.tm=y.tm:=by
   have h1:=low hy fB x.tm ((h x.tm).1 (hasB_cons.2 (.inl ⟨yR _,hx⟩)))
   have h2:=low hx fA y.tm ((h y.tm).2 (hasB_cons.2 (.inl ⟨yR _,hy⟩)))
   omega
  have end_:∀ {z w:Tr} {C D:List Tr},(∀ s,s∈C→z.off < s.tm)→z.tm=w.tm→z.tm < z.off→(∀ t,hasB (w :: D) t=true→hasB (z :: C) t=true)→w.off≤z.off:=fun {z w C D} hC he hz hh=>by
   rcases uH z.off w.off with h1 | h1
   ·have h2:=hh z.off (hasB_cons.2 (.inl ⟨by omega,h1⟩))
    rcases hasB_cons.1 h2 with h3 | h3
    ·omega
    ·obtain ⟨s,h4,h5,_⟩:=hasB_mem.1 h3
     have:=hC s h4
     omega
   ·exact h1
  have e2:x.off=y.off:=by
   have h1:=end_ fA e1 hx (fun t=>(h t).2)
   have h2:=end_ fB e1.symm hy (fun t=>(h t).1)
   omega
  have e3:x=y:=by cases x;cases y;simp only at e1 e2;rw [e1,e2]
  subst e3
  have e4:A=B:=norm_eq (ordB_tail ha) (ordB_tail hb) (fun t=>by
   have h1:=h t
   rw [hasB_cons,hasB_cons] at h1
   constructor
   ·intro h2
    rcases h1.1 (.inr h2) with h3 | h3
    ·obtain ⟨s,h4,h5,_⟩:=hasB_mem.1 h2
     have:=fA s h4
     omega
    ·exact h3
   ·intro h2
    rcases h1.2 (.inr h2) with h3 | h3
    ·obtain ⟨s,h4,h5,_⟩:=hasB_mem.1 h2
     have:=fB s h4
     omega
    ·exact h3)
  rw [e4]
end Zn
namespace Zn
theorem agree {a b:a0w} (ha:Good a) (hb:Good b) {E:Int} (hs:a.start=b.start) (la:∀ y,IsT a y→-2251799813685248≤y.tm) (lb:∀ y,IsT b y→-2251799813685248≤y.tm) (h1:sameP a b E) (h2:sameP b a E) {t:Int} (ht:t≤E):a2u a t=a2u b t:=by
 have A:∀ y,IsT a y→y.tm≤E→y.off=a2u b y.tm:=fun y hy hE=>by
  obtain ⟨i,hi⟩:=akx ha hy (la y hy)
  exact h1 i y hi hE
 have B:∀ y,IsT b y→y.tm≤E→y.off=a2u a y.tm:=fun y hy hE=>by
  obtain ⟨i,hi⟩:=akx hb hy (lb y hy)
  exact h2 i y hi hE
 rcases a3u ha t with ⟨x1,x2⟩ | ⟨x,x1,x2,x3,x4⟩
 ·rcases a3u hb t with ⟨y1,y2⟩ | ⟨y,y1,y2,y3,y4⟩
  ·rw [offZ_none x1,offZ_none y1,hs]
  rw [a4b y1,B y y2 (by omega)]
  exact (a7y ha y3 (fun w hw hwt=>by have:=x2 w hw;omega)).symm
 rcases a3u hb t with ⟨y1,y2⟩ | ⟨y,y1,y2,y3,y4⟩
 ·rw [a4b x1,A x x2 (by omega)]
  exact a7y hb x3 (fun w hw hwt=>by have:=y2 w hw;omega)
 rcases Int.le_total y.tm x.tm with h | h
 ·rw [a4b x1,A x x2 (by omega)]
  exact a7y hb x3 (fun w hw hwt=>by have:=y4 w hw hwt;omega)
 rw [a4b y1,B y y2 (by omega)]
 exact (a7y ha y3 (fun w hw hwt=>by have:=x4 w hw hwt;omega)).symm
end Zn
namespace Zn
structure SmallC (z:a0w):Prop where
 e0:2≤z.cal.a08
 e1:z.cal.a08≤5
 m2:z.cal.a0g.length=2
 l0:∀ y,7≤a97 z.cal y 0∧a97 z.cal y 0≤8
 l1:∀ y,6≤a97 z.cal y 1∧a97 z.cal y 1≤9
theorem small_cal (x:Raw):2≤(a0t x).a08∧(a0t x).a08≤5∧(a0t x).a0g.length=2∧(∀ y,7≤a97 (a0t x) y 0∧a97 (a0t x) y 0≤8)∧(∀ y,6≤a97 (a0t x) y 1∧a97 (a0t x) y 1≤9):=by
 unfold a0t
 split
 ·refine ⟨show (2:Int)≤5 by decide,show (5:Int)≤5 by decide,rfl,fun y=>?_,fun y=>?_⟩
  ·show 7≤(7:Int)+(if _ then 1 else 0)∧(7:Int)+(if _ then 1 else 0)≤8
   split<;>omega
  show 6≤(8:Int)+(if _ then 1 else 0)∧(8:Int)+(if _ then 1 else 0)≤9
  split<;>omega
 refine ⟨by decide,by decide,rfl,fun y=>?_,fun y=>?_⟩
 ·show 7≤(7:Int)+(if _ then 1 else 0)∧(7:Int)+(if _ then 1 else 0)≤8
  split<;>omega
 show 6≤(6:Int)+(if _ then 1 else 0)∧(6:Int)+(if _ then 1 else 0)≤9
 split<;>omega
theorem made_small (x:Raw):SmallC (made x):=by
 obtain ⟨h1,h2,h3,h4,h5⟩:=small_cal x
 rw [← made_cal x] at h1 h2 h3 h4 h5
 exact ⟨h1,h2,h3,h4,h5⟩
theorem SmallC.year {z:a0w} (h:SmallC z) (y:Int):13≤a4f z.cal y∧a4f z.cal y≤17:=by
 have h0:=h.l0 y
 have h1:=h.l1 y
 have e:a4f z.cal y=0+a97 z.cal y 0+a97 z.cal y 1:=by unfold a4f;rw [h.m2];rfl
 omega
theorem SmallC.a5b {z:a0w} (h:SmallC z):∀ k:Nat,13 * (k:Int)≤a0z z.cal k
 | 0=>by simp [a0z]
 | k+1=>by
  have h1:=h.a5b k
  have h2:=h.year ((k:Int)+1)
  have e:a0z z.cal (k+1)=a0z z.cal k+a4f z.cal ((k:Int)+1):=rfl
  omega
theorem yday_yes {c:Cal} {b y:Int} {r:YR} (hw:1≤r.wk) (h:(a8x c b y r).2=true):b+a6z c y (r.mon.toNat - 1)≤(a8x c b y r).1∧(a8x c b y r).1 < b+a6z c y (r.mon.toNat - 1)+a97 c y (r.mon.toNat - 1):=by
 unfold a8x at h ⊢
 dsimp only at h ⊢
 generalize a6z c y (r.mon.toNat - 1)=s at *
 generalize a97 c y (r.mon.toNat - 1)=l at *
 split at h
 ·rename_i h5
  rw [zQ h5]
  simp only [zM] at h
  have:=wP (b+s+l - 1 - r.wd) (show (7:Int)≠0 by omega)
  dsimp only
  omega
 rename_i h5
 rw [zS h5]
 simp only [zM] at h
 have:=wP (r.wd - (b+s)) (show (7:Int)≠0 by omega)
 dsimp only
 omega
theorem rawAt_small {z:a0w} (hz:Zok z) (hs:SmallC z) (h2:z.a0b.length=2) {k j:Nat} (hj:j < 2) {x:Tr} (hx:x∈a6f z k j):(z.cal.a08+a0z z.cal k) * 1440 - 1080≤x.tm∧x.tm≤(z.cal.a08+a0z z.cal k+17) * 1440+2519:=by
 have hr:=hz.yr j (by omega)
 have ht:=hz.yr (1 - j) (by omega)
 unfold a6f at hx
 dsimp only at hx
 split at hx
 ·rename_i hy
  have h1:=yday_yes hr.k0 hy
  simp only [yD] at hx
  subst hx
  dsimp only
  have:=hr.n0;have:=hr.n1;have:=ht.o0;have:=ht.o1;have m0:=hr.m0;have m1:=hr.m1
  rw [hs.m2] at m1
  have l0:=hs.l0 ((k:Int)+1)
  have l1:=hs.l1 ((k:Int)+1)
  generalize a8x z.cal (z.cal.a08+a0z z.cal k) ((k:Int)+1) (z.a0b.getD j default)=d at *
  rcases (show (z.a0b.getD j default).mon=1∨(z.a0b.getD j default).mon=2 by omega) with h | h
  ·rw [h] at h1
   have e:a6z z.cal ((k:Int)+1) ((1:Int).toNat - 1)=0:=rfl;have e2:a97 z.cal ((k:Int)+1) ((1:Int).toNat - 1)=a97 z.cal ((k:Int)+1) 0:=rfl;rw [e,e2] at h1;omega
  rw [h] at h1
  have e:a6z z.cal ((k:Int)+1) ((2:Int).toNat - 1)=0+a97 z.cal ((k:Int)+1) 0:=rfl
  have e2:a97 z.cal ((k:Int)+1) ((2:Int).toNat - 1)=a97 z.cal ((k:Int)+1) 1:=rfl
  rw [e,e2] at h1
  omega
 cases hx
theorem raw_small {z:a0w} (hz:Zok z) (hs:SmallC z) (h2:z.a0b.length=2):∀ {k:Nat} {x:Tr},x∈raw z k→0≤x.tm∧∃ j,j < k∧x.tm≤(a0z z.cal j+22) * 1440+2519
 | 0,x,h=>by cases h
 | k+1,x,h=>by
  have he:=hs.e0
  have he1:=hs.e1
  have hy:=hs.a5b k
  rcases yJ.1 h with h | h
  ·obtain ⟨h3,j,hj,h4⟩:=raw_small hz hs h2 h
   exact ⟨h3,j,by omega,h4⟩
  ·have h9 : ∃ j,j < 2∧x∈a6f z k j:=by
    have h:x∈a6f z k 0++a6f z k 1:=h
    rcases yJ.1 h with h | h
    ·exact ⟨0,by omega,h⟩
    ·exact ⟨1,by omega,h⟩
   obtain ⟨j,hj,h⟩:=h9
   have h5:=rawAt_small hz hs h2 hj h
   exact ⟨by omega,k,by omega,by omega⟩
theorem made_cyc {z:a0w} (mk:arz z):(a0s z=1∧ysT z = [])∨(z.a0b.length=2∧(a0s z=91∨a0s z=217)):=by
 rcases mk.good.a.yl with h | h
 ·exact .inl ⟨by unfold a0s;rw [zQ h],by unfold ysT;rw [zQ h]⟩
 refine .inr ⟨h,?_⟩
 unfold a0s
 rw [zS (by omega)]
 rcases mk.days with d | d
 ·rw [d];exact .inl (by decide)
 rw [d];exact .inr (by decide)
theorem ys_small {z:a0w} (mk:arz z) (hs:SmallC z):(∀ x,x∈ysT z→0≤x.tm∧x.tm≤345239)∧13 * ((ysT z).length:Int) < 2 * a0s z+26:=by
 rcases made_cyc mk with ⟨hc,hy⟩ | ⟨h2,hc⟩
 ·rw [hy,hc]
  exact ⟨fun x h=>(by cases h),by simp⟩
 have hk:=aiz mk.good.a.hd.cal
 have hp:(ysT z).Perm (raw z (kT z)):=by unfold ysT;rw [zS (by omega)];exact a5i _
 have hle:a0s z≤217:=by omega
 refine ⟨fun x hx=>?_,?_⟩
 ·obtain ⟨h3,j,hj,h4⟩:=raw_small mk.good.a.zok hs h2 (hp.mem_iff.1 hx)
  have:=hk.1 j hj
  omega
 have h3:=a7e z (kT z)
 rw [← hp.length_eq] at h3
 rcases yM (kT z) with h0 | h0
 ·rw [h0] at h3
  omega
 have h4:=hk.1 (kT z - 1) (by omega)
 have h5:=hs.a5b (kT z - 1)
 omega
theorem made_low {z:a0w} (mk:arz z) {y:Tr} (hy:IsT z y):2160≤y.tm:=by
 rcases hy with h | ⟨i,hi,k,e,h⟩
 ·exact (mk.t0 y h).1
 have:=mk.h0
 omega
theorem settled_small {z:a0w} (mk:arz z) (hs:SmallC z):0≤a1w z (ysT z) (a0s z)∧a1w z (ysT z) (a0s z)≤345239:=by
 cases hx:a2s z (ysT z) (a0s z) z.hor 0 with
 | some x =>
  have h1:=a6q mk.good (show a4y z z.hor 0=some x from hx)
  have e:a1w z (ysT z) (a0s z)=x.tm:=by unfold a1w;rw [hx]
  rw [e]
  have h2:=made_low mk h1.1
  refine ⟨by omega,?_⟩
  rcases yM (ysT z).length with h0 | h0
  ·rcases h1.1 with h | ⟨i,hi,_⟩
   ·have:=(mk.t0 x h).2;omega
   omega
  have hy0:=(ys_small mk hs).1 ((ysT z).getD 0 default) (a2h h0)
  have hc:91≤a0s z∧a0s z≤217:=by
   rcases made_cyc mk with ⟨_,hy⟩ | ⟨_,hc⟩
   ·rw [hy] at h0;exact absurd h0 (uB 0)
   omega
  have hh:=mk.h1
  by_cases hh0:z.hor≤((ysT z).getD 0 default).tm
  ·obtain ⟨x',h3,h4⟩:=ahj mk.good (i:=0) (k:=0) h0 (by rw [show ((0:Nat):Int) * (a0s z * 1440)=0 by simp];omega)
   rw [hx] at h3;cases h3;rw [show ((0:Nat):Int) * (a0s z * 1440)=0 by simp] at h4;omega
  obtain ⟨x',h3,h4⟩:=ahj mk.good (i:=0) (k:=1) h0 (by rw [show ((1:Nat):Int) * (a0s z * 1440)=a0s z * 1440 by simp];omega)
  rw [hx] at h3
  cases h3
  rw [show ((1:Nat):Int) * (a0s z * 1440)=a0s z * 1440 by simp] at h4
  omega
 | none =>
  unfold a1w
  rw [hx]
  dsimp only
  split
  ·rename_i h0
   have:=mk.t0 _ (a2h (show z.trans.length - 1 < z.trans.length by omega));omega
  omega
theorem idx_low {z:a0w} (hg:Good z) (hl:∀ y,IsT z y→0≤y.tm) {t:Int}:∀ (i:Nat) {x:Tr},a4y z t i=some x→2160 * (i:Int)≤x.tm
 | 0,x,hx=>by have:=hl x (a6q hg hx).1;omega
 | i+1,x,hx=>by
  obtain ⟨y,hy⟩:=aam (Nat.le_succ i) ⟨x,hx⟩
  have h1:=idx_low hg hl i hy
  have h2:=ach hg (xU i) hy hx
  omega
end Zn
namespace Zn
theorem cmp_diff {a b:a0w} (hga:Good a) (hgb:Good b) {f u:Int} (hfu:f≤u) {la lb:List Tr} (ha:asa a f u la) (hb:asa b f u lb):(∀ x,x∈la++lb→f≤x.tm∧x.tm < u)∧∀ t,hasB (pieceK a b (a2z (cutsK f u (la++lb) (la++lb).length)) ((la++lb).length+1)) t=true↔f≤t∧t < u∧a2u a t≠a2u b t:=by
 have hin:∀ x,x∈la++lb→f≤x.tm∧x.tm < u:=fun x hx=>by
  rcases yJ.1 hx with h | h
  ·exact (ha.isT x h).2
  ·exact (hb.isT x h).2
 refine ⟨hin,diff_has hga hgb hfu hin (fun y hy h1 h2=>?_)⟩
 rcases hy with h | h
 ·exact ⟨y,List.mem_append_left _ (ha.all y h h1 h2),rfl⟩
 exact ⟨y,List.mem_append_right _ (hb.all y h h1 h2),rfl⟩
end Zn
namespace Zn
def befN (ys:List Tr) (cyc hor t r:Int):Nat→Option Tr
 | 0=>none
 | p+1=>if (yAt ys cyc r p).tm≤t∧hor≤(yAt ys cyc r p).tm then some (yAt ys cyc r p) else befN ys cyc hor t r p
theorem befN_skip {ys:List Tr} {cyc hor t r:Int} {a:Nat}:∀ d:Nat,(∀ j,a≤j→j < a+d→¬ ((yAt ys cyc r j).tm≤t∧hor≤(yAt ys cyc r j).tm))→befN ys cyc hor t r (a+d)=befN ys cyc hor t r a
 | 0,_=>rfl
 | d+1,h=>by
  show (if (yAt ys cyc r (a+d)).tm≤t∧hor≤(yAt ys cyc r (a+d)).tm then some (yAt ys cyc r (a+d)) else befN ys cyc hor t r (a+d))=_
  rw [zS (h (a+d) (by omega) (by omega))]
  exact befN_skip d fun j h1 h2=>h j h1 (by omega)
theorem befN_none {ys:List Tr} {cyc hor t r:Int} {a:Nat} (h:∀ j,j < a→¬ ((yAt ys cyc r j).tm≤t∧hor≤(yAt ys cyc r j).tm)):befN ys cyc hor t r a=none:=by
 have h9:=befN_skip (ys:=ys) (cyc:=cyc) (hor:=hor) (t:=t) (r:=r) (a:=0) a (fun j _ hj=>h j (by omega))
 rw [yI] at h9
 exact h9
theorem first_no (P:Nat→Prop) [DecidablePred P]:∀ n,∃ k,k≤n∧(∀ j,j < k→P j)∧(k < n→¬ P k)
 | 0=>⟨0,by omega,fun j h=>absurd h (yA j),fun h=>absurd h (uB 0)⟩
 | n+1=>by
  obtain ⟨k,h1,h2,h3⟩:=first_no P n
  by_cases hk:k < n
  ·exact ⟨k,by omega,h2,fun _=>h3 hk⟩
  ·obtain rfl:k=n:=by omega
   by_cases hp:P k
   ·refine ⟨k+1,by omega,fun j hj=>?_,fun h=>absurd h (by omega)⟩
    rcases zU j k with h | h
    ·exact h2 j h
    ·obtain rfl:j=k:=by omega
     exact hp
   ·exact ⟨k,by omega,h2,fun _=>hp⟩
theorem lastY_bef {z:a0w} {ys:List Tr} {cyc t:Int} (hs:a8u ys) (hc:0 < cyc) (h0:ys.length≠0) (hy:(ys.getD 0 default).tm≤t)
  (hw:∀ i,i < ys.length→(ys.getD i default).tm < (ys.getD 0 default).tm+cyc * 1440) {k0:Int} {d:Nat} (hk:k0+(d:Int)=turns (ys.getD 0 default).tm t cyc) (hd:d≤1) :
  a6a z ys cyc t=befN ys cyc z.hor t k0 (d * ys.length+ys.length):=by
 have hm:=a4r (y0:=(ys.getD 0 default).tm) (t:=t) hc
 rw [zS (by omega)] at hm
 unfold a6a
 rw [zQ ⟨h0,hy⟩,← hk]
 rw [← hk] at hm
 have hmono:∀ a b,a≤b→b < ys.length→(ys.getD a default).tm≤(ys.getD b default).tm:=fun a b h1 h2=>by
  rcases zU a b with h | h
  ·have:=hs a b h h2;omega
  ·obtain rfl:a=b:=by omega
   exact yR _
 obtain ⟨k,k1,k2,k3'⟩:=first_no (fun j=>(ys.getD j default).tm≤t - (k0+d) * (cyc * 1440)) ys.length
 have k3:∀ j,k≤j→j < ys.length→t - (k0+d) * (cyc * 1440) < (ys.getD j default).tm:=fun j h1 h2=>by
  have a1:=k3' (by omega)
  have a2:=hmono k j h1 h2
  omega
 have hk0:k≠0:=fun e=>by have:=k3 0 (by omega) (by omega);omega
 obtain ⟨i,rfl⟩ : ∃ i,k=i+1:=⟨k - 1,by omega⟩
 rw [aag ys _ none (i+1) k1 k2 k3,zS (by omega),Nat.add_sub_cancel]
 try dsimp only
 have hx:=Go.Proofs.YtppjleebbjipbaaGreat.ahz (ys:=ys) (cyc:=cyc) (r:=k0) (q:=d) (k:=i) (by omega)
 have hi:=k2 i (by omega)
 have e1:befN ys cyc z.hor t k0 (d * ys.length+ys.length)=befN ys cyc z.hor t k0 (d * ys.length+i+1):=by
  have h9:=befN_skip (ys:=ys) (cyc:=cyc) (hor:=z.hor) (t:=t) (r:=k0) (a:=d * ys.length+i+1) (ys.length - i - 1) (fun j h1 h2=>by
   have e:=Go.Proofs.YtppjleebbjipbaaGreat.ahz (ys:=ys) (cyc:=cyc) (r:=k0) (q:=d) (k:=j - d * ys.length) (by omega);rw [show d * ys.length+(j - d * ys.length)=j by omega] at e;rw [e];have:=k3 (j - d * ys.length) (by omega) (by omega);dsimp only
   omega)
  rw [show d * ys.length+i+1+(ys.length - i - 1)=d * ys.length+ys.length by omega] at h9
  exact h9
 rw [e1]
 show _=(if (yAt ys cyc k0 (d * ys.length+i)).tm≤t∧z.hor≤(yAt ys cyc k0 (d * ys.length+i)).tm then some (yAt ys cyc k0 (d * ys.length+i)) else befN ys cyc z.hor t k0 (d * ys.length+i))
 rw [hx]
 try dsimp only
 by_cases hh:z.hor≤(ys.getD i default).tm+(k0+d) * (cyc * 1440)
 ·rw [zQ hh,zQ ⟨by omega,hh⟩]
 rw [zS hh,zS (fun h=>hh h.2),befN_none]
 intro j hj
 rcases zU j (d * ys.length) with h | h
 ·obtain rfl:d=1:=by
   rcases yM d with h2 | h2
   ·rw [h2,Nat.zero_mul] at h;omega
   ·omega
  have e:=Go.Proofs.YtppjleebbjipbaaGreat.ahz (ys:=ys) (cyc:=cyc) (r:=k0) (q:=0) (k:=j) (by omega)
  rw [Nat.zero_mul,yI] at e
  rw [e]
  dsimp only
  have a1:=hw j (by omega)
  have a2:=hmono 0 i (by omega) (by omega)
  have a3:(k0+((1:Nat):Int)) * (cyc * 1440)=(k0+((0:Nat):Int)) * (cyc * 1440)+cyc * 1440:=by
   rw [wI,wI];simp
  omega
 have e:=Go.Proofs.YtppjleebbjipbaaGreat.ahz (ys:=ys) (cyc:=cyc) (r:=k0) (q:=d) (k:=j - d * ys.length) (by omega)
 rw [show d * ys.length+(j - d * ys.length)=j by omega] at e
 rw [e]
 dsimp only
 have a1:=hs (j - d * ys.length) i (by omega) (by omega)
 omega
end Zn
namespace Go.Proofs.YtppjleebbjipbaaGreat
open Go.RowKit
set_option maxRecDepth 20000
set_option maxHeartbeats 8000000
theorem before_calls {W:World} {v:Value} {z:Zn.a0w} {l:List Zn.Tr} (hv:a2b W v l) (hs:Zn.a8u l) (hl:l.length≤10000000) {cyc t:Int} (c0:0 < cyc) (c1:cyc≤10000000) (ht0 : -9007199254740992≤t) (ht1:t≤9007199254740992)
  (hb:∀ i,i < l.length→-2199023255552≤(l.getD i default).tm∧(l.getD i default).tm≤2199023255552) (hw:∀ i,i < l.length→(l.getD i default).tm < (l.getD 0 default).tm+cyc * 1440) :
  Calls Tryz.prog 139 #[v,.int .i64 cyc,.int .i64 z.hor,.int .i64 t] W fun e w'=>e=.returned (aha (Zn.a6a z l cyc t))∧Below W W w':=by
 have w1B:Below W W (W.alloc (.cells #[(0:Int),(0:Int)] 57)):=bR.alloc (zD _) _
 have z1b:obj (W.alloc (.cells #[(0:Int),(0:Int)] 57)) W.heap.size=some (.cells #[(0:Int),(0:Int)] 57 (0,0)):=a05 _ _ _ rfl
 have HBD:=zA hb
 obtain ⟨ta,tc,rfl⟩:=a2b.ajx hv
 go_enter Tryz.func139,Tryz.ntmps139
 by_cases hl0:l.length=0
 ·have t0:((l.length:Int) == 0)=true:=by simp [hl0]
  have HR:Hid (Zn.a6a z l cyc t=none):=zA (by unfold Zn.a6a;rw [zS (fun h=>h.1 hl0)])
  clear hl0 hw
  repeat'(first|go_skip|go_guarded|go_step|go_upon)
  refine yO (a0q rfl _ _ W.heap.size 57 _ (0,0) _ (.bool false) rfl z1b Tryz.underlying57 rfl (by kernel_rfl) rfl) rfl ?_
  exact ⟨by rw [HR.out];rfl,w1B⟩
 have t0:((
       l.length:Int) == 0)=false:=by simpa using hl0
 have t1:(0:Int) < (l.length:Int):=by omega
 obtain ⟨tb,tof,tc',a5d,TT',tfr,htv,tq1,tq2⟩:=a2b.open hv (by omega)
 obtain ⟨rfl,rfl⟩:ta=some ⟨tb,tof,none⟩∧tc=tc':=by injection htv with a b c;exact ⟨a,c⟩
 have e0r:a5d[tof]? = some (.int .i64 (l.getD 0 default).tm):=by have:=a0y 0 (tq2 0 (by omega)).2 (by simp);simpa using this
 have e00:=(a02 (a0a tq1 w1B) tof).trans e0r
 have hb0:=hb 0 (by omega)
 have wcm:=zWI (cyc * 1440)
 have HW:=zA hw
 have HY0:=zA (rfl:(l.getD 0 default).tm=(l.getD 0 default).tm)
 have hr0:=Zn.a2d (y0:=(l.getD 0 default).tm) (t:=t) c0
 have hrM:=Zn.a4r (y0:=(l.getD 0 default).tm) (t:=t) c0
 have HLY:Hid (∀ k0:Int,∀ d:Nat,(l.getD 0 default).tm≤t→k0+(d:Int)=Zn.turns (l.getD 0 default).tm t cyc→d≤1→Zn.a6a z l cyc t=Zn.befN l cyc z.hor t k0 (d * l.length+l.length)):=zA fun k0 d h1 h2 h3=>Zn.lastY_bef hs c0 hl0 h1 HW.out h2 h3
 have HLN:Hid (t < (l.getD 0 default).tm→Zn.a6a z l cyc t=none):=zA fun h=>by unfold Zn.a6a;rw [zS (fun h2=>by have:=h2.2;omega)]
 have hrd:Zn.turns (l.getD 0 default).tm t cyc=(if t - (l.getD 0 default).tm < 0 then 0 else t - (l.getD 0 default).tm) / (cyc * 1440):=rfl
 clear htv hb hw
 generalize (l.getD 0 default).tm=y0 at *
 clear HY0
 by_cases hty:t < y0
 ·clear hrd hrM hr0
  repeat'(first|go_skip|go_guarded|go_step|go_upon)
  refine yO (a0q rfl _ _ W.heap.size 57 _ (0,0) _ (.bool false) rfl z1b Tryz.underlying57 rfl (by kernel_rfl) rfl) rfl ?_
  exact ⟨by rw [HLN.out hty];rfl,w1B⟩
 have hty2:y0≤t:=by omega
 have wty:=zWI (t - y0)
 rw [zS (by omega)] at hrd hrM
 generalize hrr:Zn.turns y0 t cyc=r at *
 have hrM0:0≤r * (cyc * 1440):=xX hr0 (by omega)
 have hrle:r≤18014398509481984:=by
  have:r * 1≤r * (cyc * 1440):=Int.mul_le_mul_of_nonneg_left (by omega) hr0
  omega
 have rz:cyc * 1440≠0:=by omega
 have rtd:Int.tdiv (t - y0) (cyc * 1440)=r:=by rw [xA (by omega)];exact hrd.symm
 have wrr:=zWI r
 have wr1:=zWI (r - 1)
 clear hrd hrr
 obtain ⟨k0,d,hmx,hkd,hd1,hk00⟩ : ∃ k0:Int,∃ d:Nat,(if r - 1 < 0 then (0:Int) else r - 1)=k0∧k0+(d:Int)=r∧d≤1∧0≤k0:=by
  by_cases h:r - 1 < 0
  ·exact ⟨0,0,zQ h,by omega,by omega,by omega⟩
  ·exact ⟨r - 1,1,zS h,by omega,by omega,by omega⟩
 have HR:=zA (HLY.out k0 d hty2 hkd hd1)
 have HKD:=zA hkd
 clear hty2 HLY HLN hkd
 have w2B:Below W W ((W.alloc (.cells #[(0:Int),(0:Int)] 57)).alloc (.cells #[(0:Int),(0:Int)] 57)):=w1B.alloc (by simp) _
 have z2b:obj ((W.alloc (.cells #[(0:Int),(0:Int)] 57)).alloc (.cells #[(0:Int),(0:Int)] 57)) W.heap.size=some (.cells #[(0:Int),(0:Int)] 57 (0,0)):=a06 z1b _
 have z2c:obj ((W.alloc (.cells #[(0:Int),(0:Int)] 57)).alloc (.cells #[(0:Int),(0:Int)] 57)) (W.heap.size+1)=some (.cells #[(0:Int),(0:Int)] 57 (0,0)):=a05 _ _ _ (by simp)
 have e02:=(a02 (a0a tq1 w2B) tof).trans e0r
 have HBF0:Hid (Zn.befN l cyc z.hor t k0 0=none):=zA rfl
 have HTQ:=zA tq2
 have HBF:Hid (∀ (q k:Nat) (x:Zn.Tr),k < l.length→l.getD k default=x→Zn.befN l cyc z.hor t k0 (q * l.length+(k+1))=if x.tm+(k0+(q:Int)) * (cyc * 1440)≤t∧z.hor≤x.tm+(k0+(q:Int)) * (cyc * 1440) then some ⟨x.tm+(k0+(q:Int)) * (cyc * 1440),x.off⟩ else Zn.befN l cyc z.hor t k0 (q * l.length+k)):=zA fun q k x hk hx=>by
  show (if (Zn.yAt l cyc k0 (q * l.length+k)).tm≤t∧z.hor≤(Zn.yAt l cyc k0 (q * l.length+k)).tm then some (Zn.yAt l cyc k0 (q * l.length+k)) else Zn.befN l cyc z.hor t k0 (q * l.length+k))=_
  rw [ahz hk,hx]
 clear tq2
 repeat'(first|go_skip|go_guarded|go_step|go_upon)
 go_loopw [12,13] (fun ff kk wr => ∃ q:Nat,q≤d+1∧kk=.int .i64 (k0+(q:Int))∧ff=.bool (Zn.befN l cyc z.hor t k0 (q * l.length)).isSome∧obj wr W.heap.size=some (.cells #[(0:Int),(0:Int)] 57 (0,0))∧obj wr (W.heap.size+1)=some (.cells #[.int .i64 (Option.getD (Zn.befN l cyc z.hor t k0 (q * l.length)) default).tm,.int .i64 (Option.getD (Zn.befN l cyc z.hor t k0 (q * l.length)) default).off] 57 (0,0))∧Below W W wr) (fun _ kk _=>(r+1 - intOf kk).toNat)
 case atStart=>exact ⟨0,by omega,by first | (simp;done) | (rw [hmx];simp;done) | (congr 1;rw [Int.max_def];split at hmx<;>split<;>omega),by rw [Nat.zero_mul];rfl,z2b,by rw [Nat.zero_mul];exact z2c,w2B⟩
 obtain ⟨q,hq,rfl,rfl,hz,ho,hB⟩:=hrel
 have tw:=a04 tq1 hB (a09 tq1)
 have e01:=(a02 tw tof).trans e0r
 by_cases hqd:q≤d;rotate_left
 ·have i1 : ¬ k0+(q:Int)≤r:=by have:=HKD.out;omega
  obtain rfl:q=d+1:=by omega
  rw [show (d+1) * l.length=d * l.length+l.length from Nat.succ_mul _ _] at *
  have HR2:=HR
  clear HBF HBF0
  generalize Zn.befN l cyc z.hor t k0 (d * l.length+l.length)=o at *
  have hon:ones #[.int .i64 (o.getD default).tm,.int .i64 (o.getD default).off]=true:=by simp [ones,a0n]
  repeat'(first|go_skip|go_guarded|go_step|go_upon)
  refine yO (a0q rfl _ _ W.heap.size 57 _ (0,0) _ (.bool o.isSome) rfl (xB _ _ _ _ _ _ hz) Tryz.underlying57 rfl (by kernel_rfl) rfl) rfl ?_
  exact ⟨by rw [HR2.out];rfl,yX hB (zD _) _⟩
 have i1:k0+(q:Int)≤r:=by have:=HKD.out;omega
 have hqM:0≤(q:Int) * (cyc * 1440)∧(q:Int) * (cyc * 1440)≤1 * (10000000 * 1440):=⟨xX (by omega) (by omega),Int.mul_le_mul (by omega) (by omega) (by omega) (by omega)⟩
 have hbe:(k0+(q:Int)) * (cyc * 1440)≤r * (cyc * 1440):=yP i1 (by omega)
 have hbe0:0≤(k0+(q:Int)) * (cyc * 1440):=xX (by omega) (by omega)
 have wkq:IntKind.wrap .i64 (k0+(q:Int)+1)=k0+((q+1:Nat):Int):=by rw [wrap_in]<;>omega
 have HBQ:=zA (HBF.out q)
 obtain ⟨b,hbb⟩ : ∃ b,(k0+(q:Int)) * (cyc * 1440)=b:=⟨_,rfl⟩
 have wb:IntKind.wrap .i64 ((k0+(q:Int)) * (cyc * 1440))=b:=by rw [hbb,wrap_in]<;>omega
 have hb9:0≤b∧b≤40000000000000000:=by omega
 have HBB:=zA hbb
 clear hbe hbe0 hqM hbb
 repeat'(first|go_skip|go_guarded|go_step|go_upon)
 clear e01 tw
 go_loopw [12,14] (fun ff i wr => ∃ k:Nat,k≤l.length∧i=.int .i64 k∧ff=.bool (Zn.befN l cyc z.hor t k0 (q * l.length+k)).isSome∧obj wr W.heap.size=some (.cells #[(0:Int),(0:Int)] 57 (0,0))∧obj wr (W.heap.size+1)=some (.cells #[.int .i64 (Option.getD (Zn.befN l cyc z.hor t k0 (q * l.length+k)) default).tm,.int .i64 (Option.getD (Zn.befN l cyc z.hor t k0 (q * l.length+k)) default).off] 57 (0,0))∧Below W W wr) (fun _ i _=>((l.length:Int) - intOf i).toNat)
 case atStart=>exact ⟨0,by omega,rfl,rfl,hz,ho,hB⟩
 clear hz ho hB
 obtain ⟨k,hk,rfl,rfl,hz,ho,hB⟩:=hrel
 by_cases hlk:k < l.length;rotate_left
 ·have i2 : ¬ (k:Int) < (l.length:Int):=by omega
  obtain rfl:k=l.length:=by omega
  have HQ1:=zA (show (q+1) * l.length=q * l.length+l.length from Nat.succ_mul _ _)
  repeat'(first|go_skip|go_guarded|go_step|go_upon)
  exact ⟨⟨q+1,by omega,by first | (simp;done) | (congr 1;omega),by rw [HQ1.out],hz,by rw [HQ1.out];exact ho,hB⟩,by have:=HKD.out;simp [intOf];omega⟩
 have i2:(k:Int) < (l.length:Int):=by omega
 have ek0:=a0y 0 (HTQ.out k hlk).2 (by simp)
 have ek1:=a0y 1 (HTQ.out k hlk).2 (by simp)
 have hxb:=HBD.out k hlk
 have tw:=a04 tq1 hB (a09 tq1)
 have hn:=HBQ.out k (l.getD k default) hlk rfl
 rw [HBB.out] at hn
 generalize l.getD k default=x at *
 have HN:=zA hn
 clear hn
 have ek0:a5d[tof+k * 2]? = some (.int .i64 x.tm):=ek0
 have ek1:a5d[tof+k * 2+1]? = some (.int .i64 x.off):=ek1
 have e0:=(a02 tw (tof+k * 2)).trans ek0
 have e1:=(a02 tw (tof+k * 2+1)).trans ek1
 have wxb:=zWI (x.tm+b)
 have hon:ones #[(x.tm+b:Int),x.off]=true:=by simp [ones,a0n]
 have lz:=a09 ho
 by_cases h1:x.tm+b≤t
 ·by_cases h2:z.hor≤x.tm+b
  ·have HN1:Hid (Zn.befN l cyc z.hor t k0 (q * l.length+(k+1))=some ⟨x.tm+b,x.off⟩):=zA (by rw [HN.out,zQ ⟨h1,h2⟩])
   have hz2:=a2q hz (show W.heap.size≠W.heap.size+1 by omega) #[.int .i64 (x.tm+b),.int .i64 x.off];have ho2:obj (wr.setRow (W.heap.size+1) #[.int .i64 (x.tm+b),.int .i64 x.off]) (W.heap.size+1)=some (.cells #[(x.tm+b:Int),x.off] 57 (0,0)):=xB _ _ _ _ _ _ ho;have HZ2:=zA (And.intro hz2 (And.intro ho2 (yX hB (show W.heap.size≤W.heap.size+1 by omega) #[.int .i64 (x.tm+b),.int .i64 x.off])));clear hz2 ho2
   repeat'(first|go_skip|go_guarded|go_step|go_upon)
   exact ⟨⟨k+1,by omega,by go_num,by rw [HN1.out];rfl,HZ2.out.1,by rw [HN1.out];exact HZ2.out.2.1,HZ2.out.2.2⟩,by simp [intOf];omega⟩
  ·have HN1:Hid (Zn.befN l cyc z.hor t k0 (q * l.length+(k+1))=Zn.befN l cyc z.hor t k0 (q * l.length+k)):=zA (by rw [HN.out,zS (fun h=>h2 h.2)])
   repeat'(first|go_skip|go_guarded|go_step|go_upon)
   exact ⟨⟨k+1,by omega,by go_num,by rw [HN1.out],hz,by rw [HN1.out];exact ho,hB⟩,by simp [intOf];omega⟩
 have HN1:Hid (Zn.befN l cyc z.hor t k0 (q * l.length+(k+1))=Zn.befN l cyc z.hor t k0 (q * l.length+k)):=zA (by rw [HN.out,zS (fun h=>h1 h.1)])
 repeat'(first|go_skip|go_guarded|go_step|go_upon)
 exact ⟨⟨k+1,by omega,by go_num,by rw [HN1.out],hz,by rw [HN1.out];exact ho,hB⟩,by simp [intOf];omega⟩
end Go.Proofs.YtppjleebbjipbaaGreat
namespace Go.Proofs.YtppjleebbjipbaaGreat
open Go.RowKit
set_option maxRecDepth 20000
set_option maxHeartbeats 8000000
theorem rlast_calls {W:World} {z:Zn.a0w} {mv rv tv yv:Value} (hv:a1q W z mv rv tv yv) (hg:Zn.Good z) {t:Int} (ht0 : -9007199254740992≤t) (ht1:t≤9007199254740992) :
  Calls Tryz.prog 97 #[.agg #[z.cal.a08,mv,z.cal.a0l,rv,z.start,tv,z.hor,yv],.int .i64 t] W fun e w'=>e=.returned (aha (Zn.ab1 z t))∧Below W W w':=by
 obtain ⟨ta,tc,rfl⟩:=a2b.ajx hv.tr
 have hon:ones #[z.cal.a08,mv,z.cal.a0l,rv,z.start,.slice ta z.trans.length tc,z.hor,yv]=true:=a1b hv.cal.mon.one hv.cal.rul.one (a1m.one hv.tr) (a1m.one hv.yr)
 have w1B:Below W W (W.alloc (.cells #[z.cal.a08,mv,z.cal.a0l,rv,z.start,.slice ta z.trans.length tc,z.hor,yv] 35)):=bR.alloc (zD _) _
 have w2B:Below W W ((W.alloc (.cells #[z.cal.a08,mv,z.cal.a0l,rv,z.start,.slice ta z.trans.length tc,z.hor,yv] 35)).alloc (.cells #[(0:Int),(0:Int)] 57)):=w1B.alloc (by simp) _
 have o0:obj ((W.alloc (.cells #[z.cal.a08,mv,z.cal.a0l,rv,z.start,.slice ta z.trans.length tc,z.hor,yv] 35)).alloc (.cells #[(0:Int),(0:Int)] 57)) W.heap.size=some (.cells #[z.cal.a08,mv,z.cal.a0l,rv,z.start,.slice ta z.trans.length tc,z.hor,yv] 35 (0,0)):=a06 (a05 _ _ _ rfl) _
 have o1:obj ((W.alloc (.cells #[z.cal.a08,mv,z.cal.a0l,rv,z.start,.slice ta z.trans.length tc,z.hor,yv] 35)).alloc (.cells #[(0:Int),(0:Int)] 57)) (W.heap.size+1)=some (.cells #[(0:Int),(0:Int)] 57 (0,0)):=a05 _ _ _ (by simp)
 have HV:=zA (fun (Wq:World) (hq:Below W W Wq)=>hv.below hq)
 have HYE:=zA (ae5 (hv.below w2B) hg.a.zok)
 have HTR:=zA (fun (Wq:World) (hq:Below W W Wq)=>a1m.below hv.tr hq)
 have HCK:=zA hg.ck
 have HGD:=zA hg
 have htl:=hg.a.hd.t
 clear hv hg w1B
 go_enter Tryz.func97,Tryz.ntmps97
 repeat' ((go_not_at_region 1);(first|go_skip|go_guarded|go_step|go_upon))
 generalize ((W.alloc (.cells #[z.cal.a08,mv,z.cal.a0l,rv,z.start,.slice ta z.trans.length tc,z.hor,yv] 35)).alloc (.cells #[(0:Int),(0:Int)] 57))=V at *
 repeat' ((go_not_at_region 2);(first | (go_at_call 67;((with_reducible refine (HYE.out).mono ?_));rintro e w5 ⟨⟨lv,b9,rfl,hlv,_⟩,hB5⟩;have hB:=w2B.trans (hB5.mono w2B.size);have kz:=a0a o0 hB5;have k1:=a0a o1 hB5;dsimp only)|go_skip|go_guarded|go_step|go_upon))
 have lz:=a09 kz
 have l1:=a09 k1
 have HCY:=zA (fun (Wq:World) (hq:Below w5 w5 Wq)=>ab9 (HV.out Wq (hB.trans (hq.mono hB.size))) HGD.out.a.hd.cal)
 obtain ⟨x,hx⟩ : ∃ x,x=(Zn.a6a z (Zn.ysT z) (Zn.a0s z) t).getD default:=⟨_,rfl⟩
 obtain ⟨bb,hbb⟩ : ∃ bb,bb=(Zn.a6a z (Zn.ysT z) (Zn.a0s z) t).isSome:=⟨_,rfl⟩
 have HBE:Hid (∀ Wq:World,Below w5 w5 Wq→Calls Tryz.prog 139 #[lv,.int .i64 (Zn.a0s z),.int .i64 z.hor,.int .i64 t] Wq fun e w'=>e=.returned (.tuple #[.agg #[x.tm,x.off],.bool bb])∧Below Wq Wq w'):=zA fun Wq hq=>by
  rw [hx,hbb]
  exact before_calls (a1m.below hlv hq) HCK.out.sy HCK.out.ly HCK.out.c0 HCK.out.c1 ht0 ht1 HCK.out.by_ (fun i hi=>by have:=Zn.a3y HGD.out.gap hi;omega)
 have HSM:Hid (bb=true→Zn.a6a z (Zn.ysT z) (Zn.a0s z) t=some x):=zA fun h=>by
  rw [hbb] at h
  rw [hx]
  cases h9:Zn.a6a z (Zn.ysT z) (Zn.a0s z) t with
  | none=>rw [h9] at h;cases h
  | some y=>rfl
 have HNO:Hid (bb=false→Zn.a6a z (Zn.ysT z) (Zn.a0s z) t=none):=zA fun h=>by
  rw [hbb] at h
  cases h9:Zn.a6a z (Zn.ysT z) (Zn.a0s z) t with
  | none=>rfl
  | some y=>rw [h9] at h;cases h
 clear hx hbb HYE o0 o1 hB5 hlv
 refine aav 11 [9] [([],fun v _=>v=lv),([],fun v _=>v=.agg #[z.cal.a08,mv,z.cal.a0l,rv,z.start,.slice ta z.trans.length tc,z.hor,yv]),([1],fun v _=>v=.int .i64 (Zn.a0s z)),([],fun v _=>v=.pointer (some ⟨W.heap.size,6,none⟩)),([3],fun v _=>v=.int .i64 z.hor),([],fun v _=>v=.int .i64 t),([0,2,4,5],fun v _=>v=.tuple #[.agg #[x.tm,x.off],.bool bb]),([6],fun v _=>v=.tuple #[.agg #[x.tm,x.off],.bool bb]),([7],fun v _=>v=.agg #[x.tm,x.off]),([7],fun v _=>v=.bool bb),
   ([],fun v W' => ∃ g,v=.pointer (some ⟨g,0,none⟩)∧obj W' g=some (.cells #[(0:Int),(0:Int)] 57 (0,0))∧w5.heap.size≤g)] (by kernel_rfl) (by kernel_rfl) (by kernel_rfl) (by kernel_rfl) (by kernel_rfl) ⟨?l9,trivial⟩ ?st ?ob ?_
 case l9 => intro v W h;exact ⟨_,by rw [h];rfl,rfl⟩
 case st => intro k v W1 W2 h hb;rcases k with _|_|_|_|_|_|_|_|_|_|_|k<;>first | exact h | trivial | (obtain ⟨g,h1,h2,h3⟩:=h;exact ⟨g,h1,a0a h2 hb,h3⟩)
 case ob =>
  and_intros<;>
  first
   | exact ⟨⟩
   | (intro vs Wq hW hk;(have q0:=a04 kz hW lz);(have q1:=a02 (a04 kz hW lz) 6);(try simp only [knows,Spec.at',↓zH,↓zG,yL] at hk);simp only [Spec.at',↓zH,↓zG,a00,a03,yy0,yy1,yy2,yy3];(try simp only [hk]);first | ((repeat'(first|go_skip|go_guarded|go_step|go_upon));exact a01 _ rfl (by go_simp) bR rfl) | ((have HX:=zA (HCY.out Wq hW));(repeat' (first | (go_at_call 49;((with_reducible refine (HX.out).mono ?_));rintro e w9 ⟨rfl,hb9⟩;dsimp only)|go_skip|go_guarded|go_step|go_upon));exact a01 _ rfl (by go_simp) hb9 rfl) | ((have HX:=zA (HBE.out Wq hW));(repeat' (first | (go_at_call 139;((with_reducible refine (HX.out).mono ?_));rintro e w9 ⟨rfl,hb9⟩;dsimp only)|go_skip|go_guarded|go_step|go_upon));exact a01 _ rfl (by go_simp) hb9 rfl) | fail)
   | (
     intro vs Wq hW hk;clear hk;change wpList _ _ _ _ (a00 _ vs [] _) _;simp only [a00]
     repeat'(first|go_skip|go_guarded|go_step|go_upon)
     exact a01 (.pointer (some ⟨Wq.heap.size,0,none⟩)) rfl (by go_simp) (bR.alloc (zD _) _) ⟨_,rfl,a05 _ _ _ rfl,hW.size⟩)
 intro vs W2 hW2 hk2
 have v8:vs 8=.agg #[x.tm,x.off]:=hk2 8 (by decide)
 have v9:vs 9=.bool bb:=hk2 9 (by decide)
 have h10:=hk2 10 (by decide)
 obtain ⟨g,v10,s9,s9b⟩:=h10
 clear hk2
 dsimp only [a1d,List.take,List.drop]
 simp only [Act.put,zF,zI,zJ]
 rw [v8,v9,v10]
 generalize vs 0=p0,vs 1=p1,vs 2=p2,vs 3=p3,vs 4=p4,vs 5=p5,vs 6=p6,vs 7=p7
 clear v8 v9 v10
 have hon5:ones #[x.tm,x.off]=true:=by simp [ones,a0n]
 have kg:obj (W2.setRow g #[.int .i64 x.tm,.int .i64 x.off]) g=some (.cells #[x.tm,x.off] 57 (0,0)):=xB _ _ _ _ _ _ s9
 have k1:=a2q (a04 k1 hW2 l1) (show W.heap.size+1≠g by omega) #[.int .i64 x.tm,.int .i64 x.off]
 have kz:=a2q (a04 kz hW2 lz) (show W.heap.size≠g by omega) #[.int .i64 x.tm,.int .i64 x.off]
 have hW3:Below w5 w5 (W2.setRow g #[.int .i64 x.tm,.int .i64 x.off]):=yX hW2 s9b _
 have HK3:=zA (And.intro kg (And.intro kz (And.intro k1 hW3)))
 clear kg kz k1 hW3
 repeat'(first|go_skip|go_guarded|go_step|go_upon)
 refine ⟨.inl rfl,?_⟩
 repeat' ((go_not_at_region 3);(first|go_skip|go_guarded|go_step|go_upon))
 obtain ⟨kg,kz,k1,hW3⟩:=HK3.out
 clear HK3 s9
 generalize (W2.setRow g #[.int .i64 x.tm,.int .i64 x.off])=w10 at *
 have kB:=hB.trans (hW3.mono hB.size)
 have lz:=a09 kz
 have lg:=a09 kg
 cases bb;rotate_left
 ·have HR:Hid (Zn.ab1 z t=some x):=zA (by unfold Zn.ab1 Zn.lastT;rw [HSM.out rfl])
  clear HSM HNO
  repeat'(first|go_skip|go_guarded|go_step|go_upon)
  refine yO (a0q rfl _ _ (W.heap.size+1) 57 _ (0,0) _ (.bool true) rfl (xB _ _ _ _ _ _ k1) Tryz.underlying57 rfl (by kernel_rfl) rfl) rfl ?_
  exact ⟨by rw [HR.out];rfl,yX kB (by omega) _⟩
 have HR:Hid (Zn.ab1 z t=Zn.a4i z.trans t none):=zA (by unfold Zn.ab1 Zn.lastT;rw [HNO.out rfl])
 have wn1:=zWI ((z.trans.length:Int) - 1)
 clear HSM HNO kg lg
 have c5:=a02 kz 5
 repeat'(first|go_skip|go_guarded|go_step|go_upon)
 clear c5
 go_loopw [10] (fun i wr => ∃ k:Nat,∃ q:Int,k≤z.trans.length∧q=(k:Int) - 1∧i=.int .i64 q∧(∀ j,k≤j→j < z.trans.length→t < (z.trans.getD j default).tm)∧obj wr W.heap.size=some (.cells #[z.cal.a08,mv,z.cal.a0l,rv,z.start,.slice ta z.trans.length tc,z.hor,yv] 35 (0,0))∧obj wr (W.heap.size+1)=some (.cells #[(0:Int),(0:Int)] 57 (0,0))∧Below W W wr) (fun i _=>(intOf i+1).toNat)
 case atStart=>exact ⟨z.trans.length,_,zD _,rfl,rfl,fun j h1 h2=>absurd h1 (by omega),kz,k1,kB⟩
 clear kz k1 kB lz
 obtain ⟨k,q,hk,hq,rfl,hgt,kz,k1,kB⟩:=hrel
 have HGT:=zA hgt
 have lz:=a09 kz
 have c5:=a02 kz 5
 clear hgt
 rcases k with _ | m
 · obtain rfl:q = -1:=by omega
   have HF:Hid (Zn.ab1 z t=none):=zA (by rw [HR.out,Zn.aag z.trans t none 0 (xG _) (fun j h=>absurd h (yA j)) (fun j _ h=>HGT.out j (xG _) h),zQ rfl]);clear hq
   repeat'(first|go_skip|go_guarded|go_step|go_upon)
   refine yO (a0q rfl _ _ (W.heap.size+1) 57 _ (0,0) _ (.bool false) rfl (xB _ _ _ _ _ _ k1) Tryz.underlying57 rfl (by kernel_rfl) rfl) rfl ?_;exact ⟨by rw [HF.out];rfl,yX kB (by omega) _⟩
 · obtain rfl:q=(m:Int):=by omega
   (have hm:m < z.trans.length:=by omega);(have i0:(0:Int)≤(m:Int):=by omega);(have i1 : ¬ (m:Int) < 0:=by omega);(have i2:(m:Int) < (z.trans.length:Int):=by omega);obtain ⟨tb,tof,tc',a5d,TT',tfr,htv,tq1,tq2⟩:=a2b.open (HTR.out wr kB) (by omega)
   obtain ⟨rfl,rfl⟩:ta=some ⟨tb,tof,none⟩∧tc=tc':=by injection htv with a b c;exact ⟨a,c⟩
   obtain ⟨z0,k3⟩:=tq2 m hm;have z1:(tof+m * 2+2≤a5d.size)=True:=xN z0;have ek0:=a0y 0 k3 (by simp);have HST:=zA (fun j (h:j < m)=>HCK.out.st j m h hm);have HLE:=zA (fun h1 h2=>Zn.aag z.trans t none (m+1) hm h1 h2);have hwm:=zWI ((m:Int) - 1);clear hq htv tq2 z0
   obtain ⟨y,hy⟩ : ∃ y,z.trans.getD m default=y:=⟨_,rfl⟩
   have HYY:=zA hy;rw [hy] at k3 ek0;have k3:a5d.extract (tof+m * 2) (tof+m * 2+2)=#[.int .i64 y.tm,.int .i64 y.off]:=k3;have e0:=(a02 tq1 (tof+m * 2)).trans (show a5d[tof+m * 2]? = some (.int .i64 y.tm) from ek0);(have hon:ones #[y.tm,y.off]=true:=by simp [ones,a0n]);clear hy ek0;by_cases ht:y.tm≤t
   ·have HF:Hid (Zn.ab1 z t=some y):=zA (by
     rw [HR.out,HLE.out (fun j h=>by
      rcases zU j m with h9 | h9
      ·have:=HST.out j h9;rw [HYY.out] at this;omega
      ·obtain rfl:j=m:=by omega
       rw [HYY.out];exact ht) HGT.out,zS (by omega),Nat.add_sub_cancel,HYY.out])
    repeat'(first|go_skip|go_guarded|go_step|go_upon)
    refine yO (a0q rfl _ _ (W.heap.size+1) 57 _ (0,0) _ (.bool true) rfl (xB _ _ _ _ _ _ k1) Tryz.underlying57 rfl (by kernel_rfl) rfl) rfl ?_;exact ⟨by rw [HF.out];rfl,yX kB (by omega) _⟩
   ·have HNX:Hid (∀ j,m≤j→j < z.trans.length→t < (z.trans.getD j default).tm):=zA fun j h1 h2=>by
     rcases zU m j with h | h
     ·exact HGT.out j h h2
     ·obtain rfl:m=j:=by omega
      rw [HYY.out];omega
    repeat'(first|go_skip|go_guarded|go_step|go_upon)
    exact ⟨⟨m,(m:Int) - 1,by omega,rfl,rfl,HNX.out,kz,k1,kB⟩,by simp [intOf]<;>omega⟩
theorem roff_calls {W:World} {z:Zn.a0w} {mv rv tv yv:Value} (hv:a1q W z mv rv tv yv) (hg:Zn.Good z) {t:Int} (ht0 : -9007199254740992≤t) (ht1:t≤9007199254740992) :
  Calls Tryz.prog 58 #[.agg #[z.cal.a08,mv,z.cal.a0l,rv,z.start,tv,z.hor,yv],.int .i64 t] W fun e w'=>e=.returned (.int .i64 (Zn.a2u z t))∧Below W W w':=by
 have hon:ones #[z.cal.a08,mv,z.cal.a0l,rv,z.start,tv,z.hor,yv]=true:=a1b hv.cal.mon.one hv.cal.rul.one (a1m.one hv.tr) (a1m.one hv.yr)
 have o0:obj (W.alloc (.cells #[z.cal.a08,mv,z.cal.a0l,rv,z.start,tv,z.hor,yv] 35)) W.heap.size=some (.cells #[z.cal.a08,mv,z.cal.a0l,rv,z.start,tv,z.hor,yv] 35 (0,0)):=a05 _ _ _ rfl
 have w1B:Below W W (W.alloc (.cells #[z.cal.a08,mv,z.cal.a0l,rv,z.start,tv,z.hor,yv] 35)):=bR.alloc (zD _) _
 have HX:=zA (rlast_calls (hv.below w1B) hg ht0 ht1)
 clear hv hg
 go_enter Tryz.func58,Tryz.ntmps58
 cases hl:Zn.ab1 z t with
 | none =>
  have HR:=zA (show Zn.a2u z t=z.start by unfold Zn.a2u Zn.a5a;rw [show Zn.lastT z (Zn.ysT z) (Zn.a0s z) t=none from hl])
  rw [hl] at HX
  have HX:Hid (Calls Tryz.prog 97 #[.agg #[z.cal.a08,mv,z.cal.a0l,rv,z.start,tv,z.hor,yv],.int .i64 t] (W.alloc (.cells #[z.cal.a08,mv,z.cal.a0l,rv,z.start,tv,z.hor,yv] 35)) fun e w'=>e=.returned (.tuple #[.agg #[(0:Int),(0:Int)],.bool false])∧Below (W.alloc (.cells #[z.cal.a08,mv,z.cal.a0l,rv,z.start,tv,z.hor,yv] 35)).heap.size (W.alloc (.cells #[z.cal.a08,mv,z.cal.a0l,rv,z.start,tv,z.hor,yv] 35)) w'):=HX
  have ar2:ones #[(0:Int),(0:Int)]=true:=by simp [ones,a0n]
  clear hl
  repeat' ((go_not_at_region 2);(first | (go_at_call 97;((with_reducible refine (HX.out).mono ?_));rintro e w5 ⟨rfl,hB5⟩;have hB6:=w1B.trans (hB5.mono w1B.size);have kz:=a0a o0 hB5;dsimp only)|go_skip|go_guarded|go_step|go_upon))
  have A5:=(zC w5.heap.size w5).alloc (zD _) (.cells #[(0:Int),(0:Int)] 57)
  have dB:=hB6.trans (A5.mono hB6.size)
  have kz6:=a0a kz A5
  generalize (w5.alloc (.cells #[(0:Int),(0:Int)] 57))=w6 at *
  have c4:=a02 kz6 4
  repeat'(first|go_skip|go_guarded|go_step|go_upon)
  go_ret
  exact ⟨by rw [HR.out];rfl,dB⟩
 | some x =>
  have HR:=zA (show Zn.a2u z t=x.off by unfold Zn.a2u Zn.a5a;rw [show Zn.lastT z (Zn.ysT z) (Zn.a0s z) t=some x from hl])
  rw [hl] at HX
  have HX:Hid (Calls Tryz.prog 97 #[.agg #[z.cal.a08,mv,z.cal.a0l,rv,z.start,tv,z.hor,yv],.int .i64 t] (W.alloc (.cells #[z.cal.a08,mv,z.cal.a0l,rv,z.start,tv,z.hor,yv] 35)) fun e w'=>e=.returned (.tuple #[.agg #[x.tm,x.off],.bool true])∧Below (W.alloc (.cells #[z.cal.a08,mv,z.cal.a0l,rv,z.start,tv,z.hor,yv] 35)).heap.size (W.alloc (.cells #[z.cal.a08,mv,z.cal.a0l,rv,z.start,tv,z.hor,yv] 35)) w'):=HX
  have honx:ones #[x.tm,x.off]=true:=by simp [ones,a0n]
  clear hl
  repeat' (first | (go_at_call 97;((with_reducible refine (HX.out).mono ?_));rintro e w5 ⟨rfl,hB5⟩;have hB6:=w1B.trans (hB5.mono w1B.size);dsimp only)|go_skip|go_guarded|go_step|go_upon)
  go_ret
  exact ⟨by rw [HR.out];rfl,hB6.alloc (by have:=hB6.size;omega) _⟩
end Go.Proofs.YtppjleebbjipbaaGreat
namespace Zn
theorem tr_hor {z:a0w} (hg:Good z) {y:Tr} (hy:y∈z.trans):y.tm < z.hor:=by
 obtain ⟨q,hq,rfl⟩:=zY.1 hy
 have:=(hg.a.tr q hq).h
 rwa [getD_at hq] at this
theorem after_from {z:a0w} (hg:Good z) {t:Int} (ht:z.hor≤t):a4w (ysT z) (a0s z) t=a4y z t 0:=by
 have e:a3w z t = []:=by
  unfold a3w
  rw [List.filter_eq_nil_iff]
  intro x hx
  have:=tr_hor hg hx
  simp only [zM]
  omega
 have em:a5l t z.hor=t:=by unfold a5l;split<;>omega
 unfold a4w a4y a2s
 rw [e,em]
 rfl
theorem after_some {z:a0w} (hg:Good z) {t:Int} (ht:z.hor≤t) {x:Tr} (h:a4w (ysT z) (a0s z) t=some x):IsT z x∧t≤x.tm∧∀ y,IsT z y→t≤y.tm→x.tm≤y.tm:=by
 rw [after_from hg ht] at h
 have h1:=a6q hg h
 refine ⟨h1.1,h1.2,fun y hy hty=>?_⟩
 obtain ⟨i,hi⟩:=akx hg hy hty
 rcases yM i with rfl | h0
 ·rw [h] at hi
  cases hi
  exact yR _
 have:=ach hg h0 h hi
 omega
theorem after_none {z:a0w} (hg:Good z) {t:Int} (ht:z.hor≤t) (h:a4w (ysT z) (a0s z) t=none) {y:Tr} (hy:IsT z y):y.tm < t:=by
 refine Int.not_le.1 fun hty=>?_
 rw [after_from hg ht] at h
 obtain ⟨i,hi⟩:=akx hg hy hty
 obtain ⟨x,hx⟩:=aam (xG i) ⟨y,hi⟩
 rw [h] at hx
 cases hx
theorem settled_after {z:a0w} (hg:Good z):a1w z (ysT z) (a0s z)=match a4w (ysT z) (a0s z) z.hor with | some x=>x.tm | none=>if 0 < z.trans.length then (z.trans.getD (z.trans.length - 1) default).tm else 0:=by
 rw [after_from hg (yR _)]
 rfl
theorem settled_low {z:a0w} (hg:Good z) {y:Tr} (hy:IsT z y):a1w z (ysT z) (a0s z)≤y.tm∨(0 < z.trans.length∧(z.trans.getD 0 default).tm≤y.tm):=by
 rcases hy with hm | hm
 ·obtain ⟨q,hq,rfl⟩:=zY.1 hm
  refine .inr ⟨by omega,?_⟩
  rw [← getD_at hq]
  rcases yM q with rfl | h0
  ·exact yR _
  exact wF (hg.ck.st 0 q h0 hq)
 have hy:IsT z y:=.inr hm
 obtain ⟨_,_,_,_,hh⟩:=hm
 refine .inl ?_
 rw [settled_after hg]
 cases h:a4w (ysT z) (a0s z) z.hor with
 | none=>have:=after_none hg (yR _) h hy;omega
 | some x=>exact (after_some hg (yR _) h).2.2 y hy hh
structure ChgL (z:a0w) (f u:Int) (l:List Tr):Prop where
 isT:∀ x,x∈l→IsT z x∧f≤x.tm∧x.tm < u
 all:∀ y,IsT z y→f≤y.tm→y.tm < u→y∈l
 srt:l.Pairwise fun a b=>a.tm < b.tm
theorem asa.list {z:a0w} {f u:Int} {l:List Tr} (h:asa z f u l):ChgL z f u l :=
 ⟨h.isT,h.all,aa6 fun i j hij hj=>by have:=h.apart i j hij hj;omega⟩
theorem srt_ext:∀ {A B:List Tr},(A.Pairwise fun a b=>a.tm < b.tm)→(B.Pairwise fun a b=>a.tm < b.tm)→(∀ x,x∈A↔x∈B)→A=B
 | [],[],_,_,_=>rfl
 | [],y :: B,_,_,h=>by have:=(h y).2 yV;cases this
 | x :: A,[],_,_,h=>by have:=(h x).1 yV;cases this
 | x :: A,y :: B,ha,hb,h=>by
  rw [wM] at ha hb
  have e:x=y:=by
   rcases yN.1 ((h x).1 yV) with h1 | h1
   ·exact h1
   ·rcases yN.1 ((h y).2 yV) with h2 | h2
    ·exact h2.symm
    ·have:=ha.1 y h2
     have:=hb.1 x h1
     omega
  subst e
  rw [srt_ext ha.2 hb.2 fun w=>⟨fun hw=>by
   rcases yN.1 ((h w).1 (yY _ hw)) with e | e
   ·have:=ha.1 w hw;rw [e] at this;omega
   ·exact e,fun hw=>by
   rcases yN.1 ((h w).2 (yY _ hw)) with e | e
   ·have:=hb.1 w hw;rw [e] at this;omega
   ·exact e⟩]
theorem ChgL.uniq {z:a0w} {f u:Int} {A B:List Tr} (ha:ChgL z f u A) (hb:ChgL z f u B):A=B :=
 srt_ext ha.srt hb.srt fun x=>⟨fun h=>by obtain ⟨h1,h2,h3⟩:=ha.isT x h;exact hb.all x h1 h2 h3,fun h=>by obtain ⟨h1,h2,h3⟩:=hb.isT x h;exact ha.all x h1 h2 h3⟩
structure CInv (z:a0w) (f u T:Int) (l:List Tr):Prop where
 fT:f≤T
 hT:z.hor≤T
 isT:∀ x,x∈l→IsT z x∧f≤x.tm∧x.tm < u
 low:∀ x,x∈l→x.tm < T
 all:∀ y,IsT z y→f≤y.tm→y.tm < u→y.tm < T→y∈l
 srt:l.Pairwise fun a b=>a.tm < b.tm
def inW (f u:Int) (x:Tr):Bool:=decide (f≤x.tm)&&decide (x.tm < u)
theorem CInv.init {z:a0w} (hg:Good z) (f u:Int) {T:Int} (hT:T=if f≤z.hor then z.hor else f):CInv z f u T (z.trans.filter (inW f u)):=by
 have hin:∀ x,x∈z.trans.filter (inW f u)↔x∈z.trans∧f≤x.tm∧x.tm < u:=fun x=>by
  rw [uJ]
  unfold inW
  simp only [zN,zM]
 have hTT:f≤T∧z.hor≤T∧(T=f∨T=z.hor):=by rw [hT];split<;>omega
 refine ⟨hTT.1,hTT.2.1,fun x hx=>?_,fun x hx=>?_,fun y hy h1 h2 h3=>?_,?_⟩
 ·have:=(hin x).1 hx
  exact ⟨.inl this.1,this.2⟩
 ·have:=tr_hor hg ((hin x).1 hx).1
  omega
 ·rcases hy with hm | ⟨_,_,_,_,hh⟩
  ·exact (hin y).2 ⟨hm,h1,h2⟩
  omega
 exact (aa6 hg.ck.st).filter _
theorem CInv.step {z:a0w} (hg:Good z) {f u T:Int} {l:List Tr} (h:CInv z f u T l) {x:Tr} (hx:a4w (ysT z) (a0s z) T=some x) (hu:x.tm < u):CInv z f u (x.tm+1) (l ++ [x]):=by
 obtain ⟨h1,h2,h3⟩:=after_some hg h.hT hx
 have hfT:=h.fT
 have hhT:=h.hT
 refine ⟨by omega,by omega,fun y hy=>?_,fun y hy=>?_,fun y hy a1 a2 a3=>?_,?_⟩
 ·rcases yJ.1 hy with hy | hy
  ·exact h.isT y hy
  rw [yD.1 hy];exact ⟨h1,by omega,hu⟩
 ·rcases yJ.1 hy with hy | hy
  ·have:=h.low y hy;omega
  rw [yD.1 hy];omega
 ·by_cases hyT:y.tm < T
  ·exact yJ.2 (.inl (h.all y hy a1 a2 hyT))
  have:=h3 y hy (by omega)
  rw [aj0 hg hy h1 (by omega)]
  exact yJ.2 (.inr (yD.2 rfl))
 rw [List.pairwise_append]
 refine ⟨h.srt,List.pairwise_singleton _ _,fun y hy w hw=>?_⟩
 rw [yD.1 hw]
 have:=h.low y hy
 omega
theorem CInv.stop {z:a0w} (hg:Good z) {f u T:Int} {l:List Tr} (h:CInv z f u T l) (hx:a4w (ysT z) (a0s z) T=none∨∃ x,a4w (ysT z) (a0s z) T=some x∧u≤x.tm):ChgL z f u l:=by
 refine ⟨h.isT,fun y hy a1 a2=>h.all y hy a1 a2 ?_,h.srt⟩
 rcases hx with hx | ⟨x,hx,hu⟩
 ·exact after_none hg h.hT hx hy
 refine Int.not_le.1 fun hle=>?_
 have:=(after_some hg h.hT hx).2.2 y hy hle
 omega
theorem chg_len {z:a0w} (hg:Good z) {u:Int}:∀ {l:List Tr} {f:Int},(∀ x,x∈l→IsT z x∧f≤x.tm∧x.tm < u)→(l.Pairwise fun a b=>a.tm < b.tm)→(l.length:Int) * 2160≤max (u - f+2160) 0
 | [],f,_,_=>by simp only [xI];omega
 | x :: l,f,h,hs=>by
  rw [wM] at hs
  have hx:=h x yV
  have ih:=chg_len hg (l:=l) (f:=x.tm+2160) (fun y hy=>by
   have h1:=h y (yY _ hy)
   exact ⟨h1.1,a3n hg hx.1 h1.1 (hs.1 y hy),h1.2.2⟩) hs.2
  simp only [yS]
  omega
structure DInv (a b:a0w) (f u:Int) (S:List Tr) (i:Nat) (fr:Int) (L:List Tr):Prop where
 ff:f≤fr
 fu:fr≤u
 hi:∀ j,i≤j→j < S.length→fr≤(S.getD j default).tm
 lo:∀ j,j < i→j < S.length→(S.getD j default).tm≤fr
 ord:ordB L
 has:∀ t,hasB L t=true↔f≤t∧t < fr∧a2u a t≠a2u b t
 top:∀ s,s∈L→s.off≤fr
structure CutOk (a b:a0w) (f u:Int) (S:List Tr):Prop where
 srt:PwT S
 inn:∀ j,j < S.length→f≤(S.getD j default).tm∧(S.getD j default).tm≤u
 all:∀ y,IsT a y∨IsT b y→f≤y.tm→y.tm < u→∃ j,j < S.length∧(S.getD j default).tm=y.tm
theorem DInv.init {a b:a0w} {f u:Int} (hfu:f≤u) {S:List Tr} (hS:CutOk a b f u S):DInv a b f u S 0 f [] :=
 ⟨yR _,hfu,fun j _ hj=>(hS.inn j hj).1,fun j hj=>absurd hj (yA j),fun i hi=>absurd hi (yA i),fun t=>⟨fun h=>(by cases h),fun h=>by omega⟩,fun s hs=>(by cases hs)⟩
theorem DInv.const {a b:a0w} (ha:Good a) (hb:Good b) {f u:Int} {S:List Tr} (hS:CutOk a b f u S) {i:Nat} {fr:Int} {L:List Tr} (h:DInv a b f u S i fr L) (hi:i < S.length) {t:Int} (h1:fr≤t) (h2:t < (S.getD i default).tm):a2u a t=a2u a fr∧a2u b t=a2u b fr:=by
 have hff:=h.ff
 have key:∀ y,IsT a y∨IsT b y→y.tm≤t→y.tm≤fr:=fun y hy hyt=>Int.not_lt.1 fun hlt=>by
  have hiu:=(hS.inn i hi).2
  obtain ⟨j,hj,e⟩:=hS.all y hy (by omega) (by omega)
  rcases zU j i with hji | hji
  ·have:=h.lo j hji hj;omega
  ·rcases Nat.eq_or_lt_of_le hji with rfl | hji
   ·omega
   ·have:=aic.1 hS.srt i j (by omega) hj
    omega
 exact ⟨(a7y ha h1 fun y hy=>key y (.inl hy)).symm,(a7y hb h1 fun y hy=>key y (.inr hy)).symm⟩
theorem DInv.none {a b:a0w} (ha:Good a) (hb:Good b) {f u:Int} {S:List Tr} (hS:CutOk a b f u S) {i:Nat} {fr:Int} {L:List Tr} (h:DInv a b f u S i fr L) (hi:i < S.length) {c:Int} (hc:(S.getD i default).tm=c) (hn : ¬ fr < c∨a2u a fr=a2u b fr):DInv a b f u S (i+1) c L:=by
 subst hc
 have h1:=h.hi i (zD _) hi
 have h2:=h.ff
 have h3:=(hS.inn i hi).2
 refine ⟨by omega,h3,fun j hj hjl=>aic.1 hS.srt i j (by omega) hjl,fun j hj hjl=>aic.1 hS.srt j i (by omega) hi,h.ord,fun t=>?_,fun s hs=>Int.le_trans (h.top s hs) h1⟩
 rw [h.has t]
 constructor
 ·rintro ⟨a1,a2,a3⟩
  exact ⟨a1,by omega,a3⟩
 rintro ⟨a1,a2,a3⟩
 refine ⟨a1,Int.not_le.1 fun hle=>?_,a3⟩
 have hk:=h.const ha hb hS hi hle a2
 rw [hk.1,hk.2] at a3
 rcases hn with hn | hn
 ·omega
 exact a3 hn
theorem ordB_app {L:List Tr} {x:Tr} (h:ordB L) (hx:x.tm < x.off) (ht:∀ s,s∈L→s.off < x.tm):ordB (L ++ [x]):=fun i hi=>by
 rw [zX,List.length_singleton] at hi
 rcases zU i L.length with hl | hl
 ·have e:∀ j,j < L.length→(L ++ [x]).getD j default=L.getD j default:=fun j hj=>by
   rw [zB,xF hj,← zB]
  rw [e i hl,e (i - 1) (by omega)]
  exact h i hl
 ·obtain rfl:i=L.length:=by omega
  have e:(L ++ [x]).getD L.length default=x:=by
   rw [zB,yZ (zD _),vC]
   rfl
  rw [e]
  refine ⟨hx,fun h0=>?_⟩
  rw [zB,xF (by omega),← zB]
  exact ht _ (a2h (by omega))
theorem ordB_init {L:List Tr} {x:Tr} (h:ordB (L ++ [x])):ordB L∧x.tm < x.off∧∀ s,s∈L→s.off < x.tm:=by
 have e:∀ j,j < L.length→(L ++ [x]).getD j default=L.getD j default:=fun j hj=>by
  rw [zB,xF hj,← zB]
 have e2:(L ++ [x]).getD L.length default=x:=by
  rw [zB,yZ (zD _),vC]
  rfl
 have hO:ordB L:=fun i hi=>by
  have:=h i (by rw [zX];omega)
  rwa [e i hi,e (i - 1) (by omega)] at this
 have hl:=h L.length (by rw [zX,List.length_singleton];omega)
 rw [e2] at hl
 refine ⟨hO,hl.1,fun s hs=>?_⟩
 have mono:∀ d j,j+d+1=L.length→(L.getD j default).off < x.tm:=by
  intro d
  induction d with
  | zero =>
   intro j hj;have:=hl.2 (by omega);rw [show L.length - 1=j by omega,e j (by omega)] at this;exact this
  | succ d ih =>
   intro j hj;have h1:=ih (j+1) (by omega);have h2:=hO (j+1) (by omega);have h3:=h2.2 (by omega);rw [show j+1 - 1=j by omega] at h3;omega
 obtain ⟨q,hq,rfl⟩:=zY.1 hs
 rw [← getD_at hq]
 exact mono (L.length - 1 - q) q (by omega)
theorem hasB_app {L:List Tr} {x:Tr} {t:Int}:hasB (L ++ [x]) t=true↔hasB L t=true∨(x.tm≤t∧t < x.off):=by
 rw [hasB_mem,hasB_mem]
 constructor
 ·rintro ⟨s,h1,h2⟩
  rcases yJ.1 h1 with h | h
  ·exact .inl ⟨s,h,h2⟩
  rw [yD.1 h] at h2;exact .inr h2
 rintro (⟨s,h1,h2⟩ | h)
 ·exact ⟨s,yJ.2 (.inl h1),h2⟩
 exact ⟨x,yJ.2 (.inr (yD.2 rfl)),h⟩
theorem DInv.add {a b:a0w} (ha:Good a) (hb:Good b) {f u:Int} {S:List Tr} (hS:CutOk a b f u S) {i:Nat} {fr:Int} {L:List Tr} (h:DInv a b f u S i fr L) (hi:i < S.length) {c:Int} (hc:(S.getD i default).tm=c) (hlt:fr < c) (hn:a2u a fr≠a2u b fr) (hne:∀ s,s∈L→s.off≠fr):DInv a b f u S (i+1) c (L ++ [⟨fr,c⟩]):=by
 subst hc
 have h2:=h.ff
 have h3:=(hS.inn i hi).2
 refine ⟨by omega,h3,fun j hj hjl=>aic.1 hS.srt i j (by omega) hjl,fun j hj hjl=>aic.1 hS.srt j i (by omega) hi,ordB_app h.ord hlt (fun s hs=>by have:=h.top s hs;have:=hne s hs;show s.off < fr;omega),fun t=>?_,fun s hs=>?_⟩
 ·rw [hasB_app,h.has t]
  constructor
  ·rintro (⟨a1,a2,a3⟩ | ⟨a1,a2⟩)
   ·exact ⟨a1,by omega,a3⟩
   have a1:fr≤t:=a1;have hk:=h.const ha hb hS hi a1 a2;exact ⟨by omega,a2,by rw [hk.1,hk.2];exact hn⟩
  rintro ⟨a1,a2,a3⟩
  rcases uH t fr with hl | hl
  ·exact .inl ⟨a1,hl,a3⟩
  exact .inr ⟨hl,a2⟩
 rcases yJ.1 hs with hs | hs
 ·have:=h.top s hs;omega
 rw [yD.1 hs];exact yR _
theorem DInv.more {a b:a0w} (ha:Good a) (hb:Good b) {f u:Int} {S:List Tr} (hS:CutOk a b f u S) {i:Nat} {fr:Int} {L:List Tr} {s:Tr} (h:DInv a b f u S i fr (L ++ [s])) (hi:i < S.length) {c:Int} (hc:(S.getD i default).tm=c) (hlt:fr < c) (hn:a2u a fr≠a2u b fr) (hs:s.off=fr):DInv a b f u S (i+1) c (L ++ [⟨s.tm,c⟩]):=by
 subst hc
 have h2:=h.ff
 have h3:=(hS.inn i hi).2
 obtain ⟨o1,o2,o3⟩:=ordB_init h.ord
 refine ⟨by omega,h3,fun j hj hjl=>aic.1 hS.srt i j (by omega) hjl,fun j hj hjl=>aic.1 hS.srt j i (by omega) hi,ordB_app o1 (show s.tm < (S.getD i default).tm by omega) o3,fun t=>?_,fun w hw=>?_⟩
 ·have h9:=h.has t
  rw [hasB_app] at h9 ⊢
  constructor
  ·rintro (h5 | ⟨a1,a2⟩)
   ·have:=h9.1 (.inl h5)
    exact ⟨this.1,by omega,this.2.2⟩
   have a1:s.tm≤t:=a1
   rcases uH t fr with hl | hl
   ·have:=h9.1 (.inr ⟨a1,by omega⟩)
    exact ⟨this.1,a2,this.2.2⟩
   have hk:=h.const ha hb hS hi hl a2;exact ⟨by omega,a2,by rw [hk.1,hk.2];exact hn⟩
  rintro ⟨a1,a2,a3⟩
  rcases uH t fr with hl | hl
  ·rcases h9.2 ⟨a1,hl,a3⟩ with h5 | h5
   ·exact .inl h5
   exact .inr ⟨h5.1,by show t < (S.getD i default).tm;omega⟩
  exact .inr ⟨by show s.tm≤t;omega,a2⟩
 rcases yJ.1 hw with hw | hw
 ·have:=h.top w (yJ.2 (.inl hw));omega
 rw [yD.1 hw];exact yR _
theorem cut_ok {a b:a0w} {f u:Int} (hfu:f≤u) {la lb:List Tr} (ha:ChgL a f u la) (hb:ChgL b f u lb):CutOk a b f u (a4t (la++lb) ++ [⟨u,0⟩]):=by
 have hm:∀ x,x∈a4t (la++lb)↔x∈la++lb:=fun x=>(a5i _).mem_iff
 have hin:∀ x,x∈la++lb→f≤x.tm∧x.tm < u:=fun x hx=>by
  rcases yJ.1 hx with h | h
  ·exact (ha.isT x h).2
  ·exact (hb.isT x h).2
 refine ⟨?_,fun j hj=>?_,fun y hy h1 h2=>?_⟩
 ·unfold PwT
  rw [List.pairwise_append]
  refine ⟨ac1 _,List.pairwise_singleton _ _,fun x hx y hy=>?_⟩
  rw [yD.1 hy]
  have:=hin x ((hm x).1 hx)
  exact wF this.2
 ·have h9:=a2h hj
  rcases yJ.1 h9 with h | h
  ·have:=hin _ ((hm _).1 h);omega
  rw [yD.1 h];exact ⟨hfu,yR _⟩
 have hy2:y∈a4t (la++lb) ++ [⟨u,0⟩]:=by
  refine yJ.2 (.inl ((hm y).2 (yJ.2 ?_)))
  rcases hy with h | h
  ·exact .inl (ha.all y h h1 h2)
  ·exact .inr (hb.all y h h1 h2)
 obtain ⟨q,hq,rfl⟩:=zY.1 hy2
 exact ⟨q,hq,by rw [getD_at hq]⟩
theorem DInv.done {a b:a0w} {f u fr:Int} {l L:List Tr} (h:DInv a b f u (l ++ [⟨u,0⟩]) (l.length+1) fr L):ordB L∧∀ t,hasB L t=true↔f≤t∧t < u∧a2u a t≠a2u b t:=by
 have h1:=h.lo l.length (by omega) (by simp)
 have e2:(l ++ [(⟨u,0⟩:Tr)]).getD l.length default=⟨u,0⟩:=by
  rw [zB,yZ (zD _),vC]
  rfl
 rw [e2] at h1
 have h1:u≤fr:=h1
 have h2:=h.fu
 obtain rfl:fr=u:=by omega
 exact ⟨h.ord,h.has⟩
def FolOk (z:a0w) (t r:Int):Prop:=t < r∧∀ w,IsT z w→t < w.tm→r≤w.tm
theorem FolOk.same {z:a0w} (hg:Good z) {t r s:Int} (h:FolOk z t r) (h1:t≤s) (h2:s < r):a2u z s=a2u z t :=
 (a7y hg h1 fun y hy hys=>Int.not_lt.1 fun hlt=>by have:=h.2 y hy hlt;omega).symm
theorem run_step {a b:a0w} (ha:Good a) (hb:Good b) {t0 t ra rb:Int} (h:∀ s,t0≤s→s < t→a2u a s=a2u b s) (he:a2u a t=a2u b t) (hra:FolOk a t ra) (hrb:FolOk b t rb) {r:Int} (h1:r≤ra) (h2:r≤rb):∀ s,t0≤s→s < r→a2u a s=a2u b s:=fun s h3 h4=>by
 rcases uH s t with hl | hl
 ·exact h s h3 hl
 ·rw [hra.same ha hl (by omega),hrb.same hb hl (by omega)]
  exact he
theorem run_true {a b:a0w} (ha:Good a) {t0 E:Int} (h:∀ s,t0≤s→s≤E→a2u a s=a2u b s) (hl:∀ y,IsT a y→t0≤y.tm):sameP a b E:=fun i x hx hE=>by
 have h1:=(a6q ha (show a4y a (-2251799813685248) i=some x from hx)).1
 rw [← h x.tm (hl x h1) hE]
 exact (a4b (a8a ha h1)).symm
end Zn
namespace Go.Proofs.YtppjleebbjipbaaGreat
open Go.RowKit
set_option maxRecDepth 20000
set_option maxHeartbeats 8000000
theorem zgcd_calls {W:World} {a b:Nat} (ha:a < 4611686018427387904) (hb:b < 4611686018427387904) :
  Calls Tryz.prog 87 #[.int .i64 a,.int .i64 b] W fun e w'=>e=.returned (.int .i64 (Nat.gcd a b:Nat))∧Below W W w':=by
 go_enter Tryz.func87,Tryz.ntmps87
 repeat'(first|go_skip|go_guarded|go_step|go_upon)
 go_loopw [0,1] (fun u v wr => ∃ x y:Nat,x < 4611686018427387904∧y < 4611686018427387904∧Nat.gcd x y=Nat.gcd a b∧u=.int .i64 x∧v=.int .i64 y∧Below W W wr) (fun _ v _=>(intOf v).toNat)
 case atStart=>exact ⟨a,b,ha,hb,rfl,rfl,rfl,zC _ _⟩
 obtain ⟨x,y,hx,hy,hgc,rfl,rfl,hB⟩:=hrel
 by_cases h0:y=0
 ·subst h0
  rw [Nat.gcd_zero_right] at hgc
  have HGC:=zA hgc
  clear hgc
  repeat'(first|go_skip|go_guarded|go_step|go_upon)
  go_ret
  exact ⟨by rw [← HGC.out];rfl,hB⟩
 have r0:(y:Int)≠0:=by omega
 have hlt:=wJ x (by omega:0 < y)
 have rt:Int.tmod (x:Int) (y:Int)=((x % y:Nat):Int):=by rw [yE (by omega)];omega
 have rw_:IntKind.wrap .i64 ((x % y:Nat):Int)=((x % y:Nat):Int):=wrap_in (by omega) (by omega)
 have HG:Hid (Nat.gcd y (x % y)=Nat.gcd a b):=zA (by rw [Nat.gcd_comm y,← Nat.gcd_rec,Nat.gcd_comm];exact hgc)
 generalize x % y=r at *
 repeat'(first|go_skip|go_guarded|go_step|go_upon)
 go_roundw
 case rel=>exact ⟨y,r,by omega,by omega,HG.out,rfl,rfl,hB⟩
 case measure=>simp [intOf];omega
theorem rsettled_calls {W:World} {z:Zn.a0w} {mv rv tv yv:Value} (hv:a1q W z mv rv tv yv) (hg:Zn.Good z) :
  Calls Tryz.prog 88 #[.agg #[z.cal.a08,mv,z.cal.a0l,rv,z.start,tv,z.hor,yv]] W fun e w'=>e=.returned (.int .i64 (Zn.a1w z (Zn.ysT z) (Zn.a0s z)))∧Below W W w':=by
 obtain ⟨ta,tc,rfl⟩:=a2b.ajx hv.tr
 have hon:ones #[z.cal.a08,mv,z.cal.a0l,rv,z.start,.slice ta z.trans.length tc,z.hor,yv]=true:=a1b hv.cal.mon.one hv.cal.rul.one (a1m.one hv.tr) (a1m.one hv.yr)
 have w1B:Below W W (W.alloc (.cells #[z.cal.a08,mv,z.cal.a0l,rv,z.start,.slice ta z.trans.length tc,z.hor,yv] 35)):=bR.alloc (zD _) _
 have o0:obj (W.alloc (.cells #[z.cal.a08,mv,z.cal.a0l,rv,z.start,.slice ta z.trans.length tc,z.hor,yv] 35)) W.heap.size=some (.cells #[z.cal.a08,mv,z.cal.a0l,rv,z.start,.slice ta z.trans.length tc,z.hor,yv] 35 (0,0)):=a05 _ _ _ rfl
 have HV:=zA (fun (Wq:World) (hq:Below W W Wq)=>hv.below hq)
 have HYE:=zA (fun (Wq:World) (hq:Below W W Wq)=>ae5 (hv.below hq) hg.a.zok)
 have HTR:=zA (fun (Wq:World) (hq:Below W W Wq)=>a1m.below hv.tr hq)
 have HCK:=zA hg.ck
 have HGD:=zA hg
 have htl:=hg.a.hd.t
 have hh0:=hg.a.hd.h0
 have hh1:=hg.a.hd.h1
 clear hv hg
 go_enter Tryz.func88,Tryz.ntmps88
 repeat' ((go_not_at_region 2);(first|go_skip|go_guarded|go_step|go_upon))
 generalize (W.alloc (.cells #[z.cal.a08,mv,z.cal.a0l,rv,z.start,.slice ta z.trans.length tc,z.hor,yv] 35))=V at *
 obtain ⟨s0,hs0⟩ : ∃ s0,(if 0 < z.trans.length then (z.trans.getD (z.trans.length - 1) default).tm else 0)=s0:=⟨_,rfl⟩
 have HS0:=zA hs0
 have kB0:=w1B
 have kz0:=o0
 have c5:=a02 o0 5
 by_cases h0:0 < z.trans.length
 ·have t0:(0:Int) < (z.trans.length:Int):=by omega
  obtain ⟨tb,tof,tc',a5d,TT',tfr,htv,tq1,tq2⟩:=a2b.open (HTR.out V w1B) h0
  obtain ⟨rfl,rfl⟩:ta=some ⟨tb,tof,none⟩∧tc=tc':=by injection htv with a b c;exact ⟨a,c⟩
  obtain ⟨m,hm⟩ : ∃ m,z.trans.length=m+1:=⟨z.trans.length - 1,by omega⟩
  have HM:=zA hm
  have ek:=a0y 0 (tq2 m (by omega)).2 (by simp)
  have w1:IntKind.wrap .i64 ((z.trans.length:Int) - 1)=(m:Int):=by rw [wrap_in]<;>omega
  have i1 : ¬ (m:Int) < 0:=by omega
  have i2:(m:Int) < (z.trans.length:Int):=by omega
  rw [zQ h0,hm,Nat.add_sub_cancel] at hs0
  have e0:=(a02 tq1 (tof+m * 2)).trans (show a5d[tof+m * 2]? = some (.int .i64 s0) by rw [← hs0];exact ek)
  clear hs0 hm ek tq2 htv w1B o0 h0
  repeat' ((go_not_at_region 4);(first|go_skip|go_guarded|go_step|go_upon))
  clear c5 e0 w1 i1 i2
  have HYX:=zA (HYE.out _ kB0)
  clear HYE
  repeat' ((go_not_at_region 5);(first | (go_at_call 67;((with_reducible refine (HYX.out).mono ?_));rintro e w5 ⟨⟨lv,b9,rfl,hlv,_⟩,hB5⟩;have hB:=kB0.trans (hB5.mono kB0.size);have kz:=a0a kz0 hB5;dsimp only)|go_skip|go_guarded|go_step|go_upon))
  have lz:=a09 kz
  have HCY:=zA (fun (Wq:World) (hq:Below w5 w5 Wq)=>ab9 (HV.out Wq (hB.trans (hq.mono hB.size))) HGD.out.a.hd.cal)
  obtain ⟨x,hx⟩ : ∃ x,x=(Zn.a4w (Zn.ysT z) (Zn.a0s z) z.hor).getD default:=⟨_,rfl⟩
  obtain ⟨bb,hbb⟩ : ∃ bb,bb=(Zn.a4w (Zn.ysT z) (Zn.a0s z) z.hor).isSome:=⟨_,rfl⟩
  have HAF:Hid (∀ Wq:World,Below w5 w5 Wq→Calls Tryz.prog 68 #[lv,.int .i64 (Zn.a0s z),.int .i64 z.hor] Wq fun e w'=>e=.returned (.tuple #[.agg #[x.tm,x.off],.bool bb])∧Below Wq Wq w'):=zA fun Wq hq=>by
   rw [hx,hbb];exact af8 (a1m.below hlv hq) HCK.out.sy HCK.out.ly HCK.out.c0 HCK.out.c1 (by omega) (by omega) HCK.out.by_
  have HSM:Hid (bb=true→Zn.a4w (Zn.ysT z) (Zn.a0s z) z.hor=some x):=zA fun h=>by
   rw [hbb] at h;rw [hx]
   cases h9:Zn.a4w (Zn.ysT z) (Zn.a0s z) z.hor with
   | none=>rw [h9] at h;cases h
   | some y=>rfl
  have HNO:Hid (bb=false→Zn.a4w (Zn.ysT z) (Zn.a0s z) z.hor=none):=zA fun h=>by
   rw [hbb] at h
   cases h9:Zn.a4w (Zn.ysT z) (Zn.a0s z) z.hor with
   | none=>rfl
   | some y=>rw [h9] at h;cases h
  clear hx hbb HYX hB5 hlv
  refine aav 10 [8] [([],fun v _=>v=lv),([],fun v _=>v=.agg #[z.cal.a08,mv,z.cal.a0l,rv,z.start,.slice (some ⟨tb,tof,none⟩) z.trans.length tc,z.hor,yv]),([1],fun v _=>v=.int .i64 (Zn.a0s z)),([],fun v _=>v=.pointer (some ⟨W.heap.size,6,none⟩)),([3],fun v _=>v=.int .i64 z.hor),([0,2,4],fun v _=>v=.tuple #[.agg #[x.tm,x.off],.bool bb]),([5],fun v _=>v=.tuple #[.agg #[x.tm,x.off],.bool bb]),([6],fun v _=>v=.agg #[x.tm,x.off]),([6],fun v _=>v=.bool bb),
    ([],fun v W' => ∃ g,v=.pointer (some ⟨g,0,none⟩)∧obj W' g=some (.cells #[(0:Int),(0:Int)] 57 (0,0))∧w5.heap.size≤g)] (by kernel_rfl) (by kernel_rfl) (by kernel_rfl) (by kernel_rfl) (by kernel_rfl) ⟨?l8,trivial⟩ ?st ?ob ?_
  case l8 => intro v W h;exact ⟨_,by rw [h];rfl,rfl⟩
  case st => intro k v W1 W2 h hb;rcases k with _|_|_|_|_|_|_|_|_|_|k<;>first | exact h | trivial | (obtain ⟨g,h1,h2,h3⟩:=h;exact ⟨g,h1,a0a h2 hb,h3⟩)
  case ob =>
   and_intros<;>
   first
    | exact ⟨⟩
    | (intro vs Wq hW hk;(have q0:=a04 kz hW lz);(have q1:=a02 (a04 kz hW lz) 6);(try simp only [knows,Spec.at',↓zH,↓zG,yL] at hk);simp only [Spec.at',↓zH,↓zG,a00,a03,yy0,yy1,yy2,yy3];(try simp only [hk]);first | ((repeat'(first|go_skip|go_guarded|go_step|go_upon));exact a01 _ rfl (by go_simp) bR rfl) | ((have HX:=zA (HCY.out Wq hW));(repeat' (first | (go_at_call 49;((with_reducible refine (HX.out).mono ?_));rintro e w9 ⟨rfl,hb9⟩;dsimp only)|go_skip|go_guarded|go_step|go_upon));exact a01 _ rfl (by go_simp) hb9 rfl) | ((have HX:=zA (HAF.out Wq hW));(repeat' (first | (go_at_call 68;((with_reducible refine (HX.out).mono ?_));rintro e w9 ⟨rfl,hb9⟩;dsimp only)|go_skip|go_guarded|go_step|go_upon));exact a01 _ rfl (by go_simp) hb9 rfl) | fail)
    | (
     intro vs Wq hW hk;clear hk;change wpList _ _ _ _ (a00 _ vs [] _) _;simp only [a00]
     repeat'(first|go_skip|go_guarded|go_step|go_upon)
     exact a01 (.pointer (some ⟨Wq.heap.size,0,none⟩)) rfl (by go_simp) (bR.alloc (zD _) _) ⟨_,rfl,a05 _ _ _ rfl,hW.size⟩)
  intro vs W2 hW2 hk2
  have v8:vs 7=.agg #[x.tm,x.off]:=hk2 7 (by decide)
  have v9:vs 8=.bool bb:=hk2 8 (by decide)
  have h10:=hk2 9 (by decide)
  obtain ⟨g,v10,s9,s9b⟩:=h10
  clear hk2
  dsimp only [a1d,List.take,List.drop]
  simp only [Act.put,zF,zI,zJ]
  rw [v8,v9,v10]
  generalize vs 0=p0,vs 1=p1,vs 2=p2,vs 3=p3,vs 4=p4,vs 5=p5,vs 6=p6
  clear v8 v9 v10
  have hon5:ones #[x.tm,x.off]=true:=by simp [ones,a0n]
  have kg:obj (W2.setRow g #[.int .i64 x.tm,.int .i64 x.off]) g=some (.cells #[x.tm,x.off] 57 (0,0)):=xB _ _ _ _ _ _ s9
  have hW3:Below w5 w5 (W2.setRow g #[.int .i64 x.tm,.int .i64 x.off]):=yX hW2 s9b _
  have HK3:=zA (And.intro kg hW3)
  clear kg hW3
  repeat'(first|go_skip|go_guarded|go_step|go_upon)
  refine ⟨.inl rfl,?_⟩
  repeat' ((go_not_at_region 6);(first|go_skip|go_guarded|go_step|go_upon))
  obtain ⟨kg,hW3⟩:=HK3.out
  clear HK3 s9
  generalize (W2.setRow g #[.int .i64 x.tm,.int .i64 x.off])=w10 at *
  have kB:=hB.trans (hW3.mono hB.size)
  have cg:=a02 kg 0
  cases bb
  ·have HR:Hid (Zn.a1w z (Zn.ysT z) (Zn.a0s z)=s0):=zA (by rw [Zn.settled_after HGD.out,HNO.out rfl];exact HS0.out)
   clear HSM HNO
   repeat'(first|go_skip|go_guarded|go_step|go_upon)
   go_ret;exact ⟨by rw [HR.out];rfl,kB⟩
  have HR:Hid (Zn.a1w z (Zn.ysT z) (Zn.a0s z)=x.tm):=zA (by rw [Zn.settled_after HGD.out,HSM.out rfl])
  clear HSM HNO
  repeat'(first|go_skip|go_guarded|go_step|go_upon)
  go_ret
  exact ⟨by rw [HR.out];rfl,kB⟩
 have t0 : ¬ (0:Int) < (z.trans.length:Int):=by omega
 rw [zS h0] at hs0
 subst hs0
 clear w1B o0 h0
 repeat' ((go_not_at_region 4);(first|go_skip|go_guarded|go_step|go_upon))
 clear c5
 have HYX:=zA (HYE.out _ kB0)
 clear HYE
 repeat' ((go_not_at_region 5);(first | (go_at_call 67;((with_reducible refine (HYX.out).mono ?_));rintro e w5 ⟨⟨lv,b9,rfl,hlv,_⟩,hB5⟩;have hB:=kB0.trans (hB5.mono kB0.size);have kz:=a0a kz0 hB5;dsimp only)|go_skip|go_guarded|go_step|go_upon))
 have lz:=a09 kz
 have HCY:=zA (fun (Wq:World) (hq:Below w5 w5 Wq)=>ab9 (HV.out Wq (hB.trans (hq.mono hB.size))) HGD.out.a.hd.cal)
 obtain ⟨x,hx⟩ : ∃ x,x=(Zn.a4w (Zn.ysT z) (Zn.a0s z) z.hor).getD default:=⟨_,rfl⟩
 obtain ⟨bb,hbb⟩ : ∃ bb,bb=(Zn.a4w (Zn.ysT z) (Zn.a0s z) z.hor).isSome:=⟨_,rfl⟩
 have HAF:Hid (∀ Wq:World,Below w5 w5 Wq→Calls Tryz.prog 68 #[lv,.int .i64 (Zn.a0s z),.int .i64 z.hor] Wq fun e w'=>e=.returned (.tuple #[.agg #[x.tm,x.off],.bool bb])∧Below Wq Wq w'):=zA fun Wq hq=>by
  rw [hx,hbb]
  exact af8 (a1m.below hlv hq) HCK.out.sy HCK.out.ly HCK.out.c0 HCK.out.c1 (by omega) (by omega) HCK.out.by_
 have HSM:Hid (bb=true→Zn.a4w (Zn.ysT z) (Zn.a0s z) z.hor=some x):=zA fun h=>by
  rw [hbb] at h
  rw [hx]
  cases h9:Zn.a4w (Zn.ysT z) (Zn.a0s z) z.hor with
  | none=>rw [h9] at h;cases h
  | some y=>rfl
 have HNO:Hid (bb=false→Zn.a4w (Zn.ysT z) (Zn.a0s z) z.hor=none):=zA fun h=>by
  rw [hbb] at h
  cases h9:Zn.a4w (Zn.ysT z) (Zn.a0s z) z.hor with
  | none=>rfl
  | some y=>rw [h9] at h;cases h
 clear hx hbb HYX hB5 hlv
 refine aav 10 [8] [([],fun v _=>v=lv),([],fun v _=>v=.agg #[z.cal.a08,mv,z.cal.a0l,rv,z.start,.slice ta z.trans.length tc,z.hor,yv]),([1],fun v _=>v=.int .i64 (Zn.a0s z)),([],fun v _=>v=.pointer (some ⟨W.heap.size,6,none⟩)),([3],fun v _=>v=.int .i64 z.hor),([0,2,4],fun v _=>v=.tuple #[.agg #[x.tm,x.off],.bool bb]),([5],fun v _=>v=.tuple #[.agg #[x.tm,x.off],.bool bb]),([6],fun v _=>v=.agg #[x.tm,x.off]),([6],fun v _=>v=.bool bb),
   ([],fun v W' => ∃ g,v=.pointer (some ⟨g,0,none⟩)∧obj W' g=some (.cells #[(0:Int),(0:Int)] 57 (0,0))∧w5.heap.size≤g)] (by kernel_rfl) (by kernel_rfl) (by kernel_rfl) (by kernel_rfl) (by kernel_rfl) ⟨?l8,trivial⟩ ?st ?ob ?_
 case l8 => intro v W h;exact ⟨_,by rw [h];rfl,rfl⟩
 case st => intro k v W1 W2 h hb;rcases k with _|_|_|_|_|_|_|_|_|_|k<;>first | exact h | trivial | (obtain ⟨g,h1,h2,h3⟩:=h;exact ⟨g,h1,a0a h2 hb,h3⟩)
 case ob =>
  and_intros<;>
  first
   | exact ⟨⟩
   | (intro vs Wq hW hk;(have q0:=a04 kz hW lz);(have q1:=a02 (a04 kz hW lz) 6);(try simp only [knows,Spec.at',↓zH,↓zG,yL] at hk);simp only [Spec.at',↓zH,↓zG,a00,a03,yy0,yy1,yy2,yy3];(try simp only [hk]);first | ((repeat'(first|go_skip|go_guarded|go_step|go_upon));exact a01 _ rfl (by go_simp) bR rfl) | ((have HX:=zA (HCY.out Wq hW));(repeat' (first | (go_at_call 49;((with_reducible refine (HX.out).mono ?_));rintro e w9 ⟨rfl,hb9⟩;dsimp only)|go_skip|go_guarded|go_step|go_upon));exact a01 _ rfl (by go_simp) hb9 rfl) | ((have HX:=zA (HAF.out Wq hW));(repeat' (first | (go_at_call 68;((with_reducible refine (HX.out).mono ?_));rintro e w9 ⟨rfl,hb9⟩;dsimp only)|go_skip|go_guarded|go_step|go_upon));exact a01 _ rfl (by go_simp) hb9 rfl) | fail)
   | (
    intro vs Wq hW hk;clear hk;change wpList _ _ _ _ (a00 _ vs [] _) _;simp only [a00]
    repeat'(first|go_skip|go_guarded|go_step|go_upon)
    exact a01 (.pointer (some ⟨Wq.heap.size,0,none⟩)) rfl (by go_simp) (bR.alloc (zD _) _) ⟨_,rfl,a05 _ _ _ rfl,hW.size⟩)
 intro vs W2 hW2 hk2
 have v8:vs 7=.agg #[x.tm,x.off]:=hk2 7 (by decide)
 have v9:vs 8=.bool bb:=hk2 8 (by decide)
 have h10:=hk2 9 (by decide)
 obtain ⟨g,v10,s9,s9b⟩:=h10
 clear hk2
 dsimp only [a1d,List.take,List.drop]
 simp only [Act.put,zF,zI,zJ]
 rw [v8,v9,v10]
 generalize vs 0=p0,vs 1=p1,vs 2=p2,vs 3=p3,vs 4=p4,vs 5=p5,vs 6=p6
 clear v8 v9 v10
 have hon5:ones #[x.tm,x.off]=true:=by simp [ones,a0n]
 have kg:obj (W2.setRow g #[.int .i64 x.tm,.int .i64 x.off]) g=some (.cells #[x.tm,x.off] 57 (0,0)):=xB _ _ _ _ _ _ s9
 have hW3:Below w5 w5 (W2.setRow g #[.int .i64 x.tm,.int .i64 x.off]):=yX hW2 s9b _
 have HK3:=zA (And.intro kg hW3)
 clear kg hW3
 repeat'(first|go_skip|go_guarded|go_step|go_upon)
 refine ⟨.inl rfl,?_⟩
 repeat' ((go_not_at_region 6);(first|go_skip|go_guarded|go_step|go_upon))
 obtain ⟨kg,hW3⟩:=HK3.out
 clear HK3 s9
 generalize (W2.setRow g #[.int .i64 x.tm,.int .i64 x.off])=w10 at *
 have kB:=hB.trans (hW3.mono hB.size)
 have cg:=a02 kg 0
 cases bb
 ·have HR:Hid (Zn.a1w z (Zn.ysT z) (Zn.a0s z)=0):=zA (by rw [Zn.settled_after HGD.out,HNO.out rfl];exact HS0.out)
  clear HSM HNO
  repeat'(first|go_skip|go_guarded|go_step|go_upon)
  go_ret
  exact ⟨by rw [HR.out];rfl,kB⟩
 have HR:Hid (Zn.a1w z (Zn.ysT z) (Zn.a0s z)=x.tm):=zA (by rw [Zn.settled_after HGD.out,HSM.out rfl])
 clear HSM HNO
 repeat'(first|go_skip|go_guarded|go_step|go_upon)
 go_ret
 exact ⟨by rw [HR.out];rfl,kB⟩
theorem rfollow_calls {W:World} {z:Zn.a0w} {mv rv tv yv:Value} (hv:a1q W z mv rv tv yv) (hg:Zn.Good z) {t:Int} (ht0 : -2251799813685248≤t) (ht1:t < 4503599627370496) :
  Calls Tryz.prog 89 #[.agg #[z.cal.a08,mv,z.cal.a0l,rv,z.start,tv,z.hor,yv],.int .i64 t] W fun e w'=>(∃ r,e=.returned (.int .i64 r)∧Zn.FolOk z t r∧r≤4503599627370496)∧Below W W w':=by
 obtain ⟨ta,tc,rfl⟩:=a2b.ajx hv.tr
 have hon:ones #[z.cal.a08,mv,z.cal.a0l,rv,z.start,.slice ta z.trans.length tc,z.hor,yv]=true:=a1b hv.cal.mon.one hv.cal.rul.one (a1m.one hv.tr) (a1m.one hv.yr)
 have w1B:Below W W (W.alloc (.cells #[z.cal.a08,mv,z.cal.a0l,rv,z.start,.slice ta z.trans.length tc,z.hor,yv] 35)):=bR.alloc (zD _) _
 have o0:obj (W.alloc (.cells #[z.cal.a08,mv,z.cal.a0l,rv,z.start,.slice ta z.trans.length tc,z.hor,yv] 35)) W.heap.size=some (.cells #[z.cal.a08,mv,z.cal.a0l,rv,z.start,.slice ta z.trans.length tc,z.hor,yv] 35 (0,0)):=a05 _ _ _ rfl
 have HV:=zA (fun (Wq:World) (hq:Below W W Wq)=>hv.below hq)
 have HYE:=zA (fun (Wq:World) (hq:Below W W Wq)=>ae5 (hv.below hq) hg.a.zok)
 have HTR:=zA (fun (Wq:World) (hq:Below W W Wq)=>a1m.below hv.tr hq)
 have HCK:=zA hg.ck
 have HGD:=zA hg
 have htl:=hg.a.hd.t
 have hh0:=hg.a.hd.h0
 have hh1:=hg.a.hd.h1
 clear hv hg
 have HGH:=zA (fun j (h:j < z.trans.length)=>(HGD.out.a.tr j h).a1)
 go_enter Tryz.func89,Tryz.ntmps89
 repeat' ((go_not_at_region 2);(first|go_skip|go_guarded|go_step|go_upon))
 generalize (W.alloc (.cells #[z.cal.a08,mv,z.cal.a0l,rv,z.start,.slice ta z.trans.length tc,z.hor,yv] 35))=V at *
 have c5:=a02 o0 5
 have wn1:=zWI ((z.trans.length:Int) - 1)
 repeat'(first|go_skip|go_guarded|go_step|go_upon)
 clear c5
 go_loopw [5,6] (fun o i wr => ∃ k:Nat,∃ q ov:Int,k≤z.trans.length∧q=(k:Int) - 1∧i=.int .i64 q∧o=.int .i64 ov∧t < ov∧ov≤4503599627370496∧(∀ j,k≤j→j < z.trans.length→t < (z.trans.getD j default).tm→ov≤(z.trans.getD j default).tm)∧obj wr W.heap.size=some (.cells #[z.cal.a08,mv,z.cal.a0l,rv,z.start,.slice ta z.trans.length tc,z.hor,yv] 35 (0,0))∧Below W W wr) (fun _ i _=>(intOf i+1).toNat)
 case atStart=>exact ⟨z.trans.length,_,4503599627370496,zD _,rfl,rfl,rfl,ht1,by omega,fun j h1 h2=>absurd h1 (by omega),o0,w1B⟩
 clear o0 w1B
 obtain ⟨k,q,ov,hk,hq,rfl,rfl,hto,hov,hgt,kz,kB⟩:=hrel
 have HGT:=zA hgt
 have lz:=a09 kz
 have c5:=a02 kz 5
 clear hgt
 rcases k with _ | m
 ·obtain rfl:q = -1:=by omega
  clear hq
  repeat' ((go_not_at_region 7);(first|go_skip|go_guarded|go_step|go_upon))
  clear c5 lz
  have HLO:Hid (∀ w,w∈z.trans→t < w.tm→ov≤w.tm):=zA fun w hw htw=>by
   obtain ⟨q,hq,rfl⟩:=zY.1 hw;have:=HGT.out q (xG _) hq;rw [Zn.getD_at hq] at this;exact this htw
  obtain ⟨T,hT⟩ : ∃ T,(if t+1 < z.hor then z.hor else t+1)=T:=⟨_,rfl⟩
  have hT2:max (t+1) z.hor=T:=by rw [← hT,Int.max_def];split<;>split<;>omega
  have hTb:t+1≤T∧z.hor≤T∧(T=t+1∨T=z.hor):=by rw [← hT];split<;>omega
  have wt1:=zWI (t+1)
  have kB0:=kB
  have kz0:=kz
  clear kB kz HGT
  have HYX:=zA (HYE.out _ kB0)
  clear HYE
  repeat' ((go_not_at_region 8);(first | (go_at_call 67;((with_reducible refine (HYX.out).mono ?_));rintro e w5 ⟨⟨lv,b9,rfl,hlv,_⟩,hB5⟩;have hB:=kB0.trans (hB5.mono kB0.size);have kz:=a0a kz0 hB5;dsimp only)|go_skip|go_guarded|go_step|go_upon))
  have lz:=a09 kz
  have HCY:=zA (fun (Wq:World) (hq:Below w5 w5 Wq)=>ab9 (HV.out Wq (hB.trans (hq.mono hB.size))) HGD.out.a.hd.cal)
  obtain ⟨x,hx⟩ : ∃ x,x=(Zn.a4w (Zn.ysT z) (Zn.a0s z) T).getD default:=⟨_,rfl⟩
  obtain ⟨bb,hbb⟩ : ∃ bb,bb=(Zn.a4w (Zn.ysT z) (Zn.a0s z) T).isSome:=⟨_,rfl⟩
  have HAF:Hid (∀ Wq:World,Below w5 w5 Wq→Calls Tryz.prog 68 #[lv,.int .i64 (Zn.a0s z),.int .i64 T] Wq fun e w'=>e=.returned (.tuple #[.agg #[x.tm,x.off],.bool bb])∧Below Wq Wq w'):=zA fun Wq hq=>by
   rw [hx,hbb];exact af8 (a1m.below hlv hq) HCK.out.sy HCK.out.ly HCK.out.c0 HCK.out.c1 (by omega) (by omega) HCK.out.by_
  have HSM:Hid (bb=true→Zn.a4w (Zn.ysT z) (Zn.a0s z) T=some x):=zA fun h=>by
   rw [hbb] at h;rw [hx]
   cases h9:Zn.a4w (Zn.ysT z) (Zn.a0s z) T with
   | none=>rw [h9] at h;cases h
   | some y=>rfl
  have HNO:Hid (bb=false→Zn.a4w (Zn.ysT z) (Zn.a0s z) T=none):=zA fun h=>by
   rw [hbb] at h
   cases h9:Zn.a4w (Zn.ysT z) (Zn.a0s z) T with
   | none=>rfl
   | some y=>rw [h9] at h;cases h
  clear hx hbb HYX hB5 hlv
  refine aav 13 [11] [([],fun v _=>v=lv),([],fun v _=>v=.agg #[z.cal.a08,mv,z.cal.a0l,rv,z.start,.slice ta z.trans.length tc,z.hor,yv]),([1],fun v _=>v=.int .i64 (Zn.a0s z)),([],fun v _=>v=.int .i64 t),([3],fun v _=>v=.int .i64 (t+1)),([],fun v _=>v=.pointer (some ⟨W.heap.size,6,none⟩)),([5],fun v _=>v=.int .i64 z.hor),([4,6],fun v _=>v=.int .i64 T),([0,2,7],fun v _=>v=.tuple #[.agg #[x.tm,x.off],.bool bb]),([8],fun v _=>v=.tuple #[.agg #[x.tm,x.off],.bool bb]),([9],fun v _=>v=.agg #[x.tm,x.off]),([9],fun v _=>v=.bool bb),
    ([],fun v W' => ∃ g,v=.pointer (some ⟨g,0,none⟩)∧obj W' g=some (.cells #[(0:Int),(0:Int)] 57 (0,0))∧w5.heap.size≤g)] (by kernel_rfl) (by kernel_rfl) (by kernel_rfl) (by kernel_rfl) (by kernel_rfl) ⟨?l11,trivial⟩ ?st ?ob ?_
  case l11 => intro v W h;exact ⟨_,by rw [h];rfl,rfl⟩
  case st => intro k v W1 W2 h hb;rcases k with _|_|_|_|_|_|_|_|_|_|_|_|_|k<;>first | exact h | trivial | (obtain ⟨g,h1,h2,h3⟩:=h;exact ⟨g,h1,a0a h2 hb,h3⟩)
  case ob =>
   and_intros<;>
   first
    | exact ⟨⟩
    | (intro vs Wq hW hk;(have q0:=a04 kz hW lz);(have q1:=a02 (a04 kz hW lz) 6);(try simp only [knows,Spec.at',↓zH,↓zG,yL] at hk);simp only [Spec.at',↓zH,↓zG,a00,a03,yy0,yy1,yy2,yy3];(try simp only [hk]);first | ((repeat'(first|go_skip|go_guarded|go_step|go_upon));exact a01 _ rfl (by go_simp) bR rfl) | ((have HX:=zA (HCY.out Wq hW));(repeat' (first | (go_at_call 49;((with_reducible refine (HX.out).mono ?_));rintro e w9 ⟨rfl,hb9⟩;dsimp only)|go_skip|go_guarded|go_step|go_upon));exact a01 _ rfl (by go_simp) hb9 rfl) | ((have HX:=zA (HAF.out Wq hW));(repeat' (first | (go_at_call 68;((with_reducible refine (HX.out).mono ?_));rintro e w9 ⟨rfl,hb9⟩;dsimp only)|go_skip|go_guarded|go_step|go_upon));exact a01 _ rfl (by go_simp) hb9 rfl) | fail)
    | (
      intro vs Wq hW hk;clear hk;change wpList _ _ _ _ (a00 _ vs [] _) _;simp only [a00]
      repeat'(first|go_skip|go_guarded|go_step|go_upon)
      exact a01 (.pointer (some ⟨Wq.heap.size,0,none⟩)) rfl (by go_simp) (bR.alloc (zD _) _) ⟨_,rfl,a05 _ _ _ rfl,hW.size⟩)
  intro vs W2 hW2 hk2
  have v8:vs 10=.agg #[x.tm,x.off]:=hk2 10 (by decide)
  have v9:vs 11=.bool bb:=hk2 11 (by decide)
  have h10:=hk2 12 (by decide)
  obtain ⟨g,v10,s9,s9b⟩:=h10
  clear hk2
  dsimp only [a1d,List.take,List.drop]
  simp only [Act.put,zF,zI,zJ]
  rw [v8,v9,v10]
  generalize vs 0=p0,vs 1=p1,vs 2=p2,vs 3=p3,vs 4=p4,vs 5=p5,vs 6=p6,vs 7=p7,vs 8=p8,vs 9=p9
  clear v8 v9 v10
  have hon5:ones #[x.tm,x.off]=true:=by simp [ones,a0n]
  have kg:obj (W2.setRow g #[.int .i64 x.tm,.int .i64 x.off]) g=some (.cells #[x.tm,x.off] 57 (0,0)):=xB _ _ _ _ _ _ s9
  have hW3:Below w5 w5 (W2.setRow g #[.int .i64 x.tm,.int .i64 x.off]):=yX hW2 s9b _
  have HK3:=zA (And.intro kg hW3)
  clear kg hW3
  repeat'(first|go_skip|go_guarded|go_step|go_upon)
  refine ⟨.inl rfl,?_⟩
  repeat' ((go_not_at_region 9);(first|go_skip|go_guarded|go_step|go_upon))
  obtain ⟨kg,hW3⟩:=HK3.out
  clear HK3 s9
  generalize (W2.setRow g #[.int .i64 x.tm,.int .i64 x.off])=w10 at *
  have kB:=hB.trans (hW3.mono hB.size)
  have cg:=a02 kg 0
  cases bb
  ·have HFO:Hid (Zn.FolOk z t ov):=zA ⟨by omega,fun w hw htw=>by
    rcases hw with hm | hm
    · exact HLO.out w hm htw
    · have hh:=hm
      obtain ⟨_,_,_,_,hh⟩:=hh;have:=Zn.after_none HGD.out (t:=T) (by omega) (HNO.out rfl) (y:=w) (.inr hm)
      omega⟩
   clear HSM HNO
   repeat'(first|go_skip|go_guarded|go_step|go_upon)
   go_ret;exact ⟨⟨ov,rfl,HFO.out,hov⟩,kB⟩
  have HAS:=zA (Zn.after_some HGD.out (t:=T) (by omega) (HSM.out rfl))
  clear HSM HNO
  obtain ⟨r,hr⟩ : ∃ r,(if x.tm < ov then x.tm else ov)=r:=⟨_,rfl⟩
  have hr2:min ov x.tm=r:=by rw [← hr,Int.min_def];split<;>split<;>omega
  have HFO:Hid (Zn.FolOk z t r):=zA ⟨by have:=HAS.out.2.1;rw [← hr];split<;>omega,fun w hw htw=>by
   rcases hw with hm | hm
   · have:=HLO.out w hm htw;rw [← hr];split<;>omega
   · have hh:=hm
     obtain ⟨_,_,_,_,hh⟩:=hh;have:=HAS.out.2.2 w (.inr hm) (by omega)
     rw [← hr];split<;>omega⟩
  have HRB:Hid (r≤4503599627370496):=zA (by rw [← hr];split<;>omega)
  clear HAS
  repeat'(first|go_skip|go_guarded|go_step|go_upon)
  go_ret
  exact ⟨⟨r,by first | rfl | (simp [hr,hr2];done),HFO.out,HRB.out⟩,kB⟩
 obtain rfl:q=(m:Int):=by omega
 have hm:m < z.trans.length:=by omega
 have i0:(0:Int)≤(m:Int):=by omega
 have i1 : ¬ (m:Int) < 0:=by omega
 have i2:(m:Int) < (z.trans.length:Int):=by omega
 obtain ⟨tb,tof,tc',a5d,TT',tfr,htv,tq1,tq2⟩:=a2b.open (HTR.out wr kB) (by omega)
 obtain ⟨rfl,rfl⟩:ta=some ⟨tb,tof,none⟩∧tc=tc':=by injection htv with a b c;exact ⟨a,c⟩
 have ek0:=a0y 0 (tq2 m hm).2 (by simp)
 have HST:=zA (fun j (h:m < j) (hj:j < z.trans.length)=>HCK.out.st m j h hj)
 have hyb:=HGH.out m hm
 have hwm:=zWI ((m:Int) - 1)
 clear hq htv tq2
 obtain ⟨y,hy⟩ : ∃ y,z.trans.getD m default=y:=⟨_,rfl⟩
 have HYY:=zA hy
 rw [hy] at ek0 hyb
 have e0:=(a02 tq1 (tof+m * 2)).trans (show a5d[tof+m * 2]? = some (.int .i64 y.tm) from ek0)
 clear hy ek0
 by_cases ht:t < y.tm
 ·have HNX:Hid (∀ j,m≤j→j < z.trans.length→t < (z.trans.getD j default).tm→y.tm≤(z.trans.getD j default).tm):=zA fun j h1 h2 _=>by
   rcases zU m j with h | h
   ·have:=HST.out j h h2;rw [HYY.out] at this;omega
   ·obtain rfl:m=j:=by omega
    rw [HYY.out];omega
  repeat'(first|go_skip|go_guarded|go_step|go_upon)
  exact ⟨⟨m,(m:Int) - 1,y.tm,by omega,rfl,rfl,rfl,ht,by omega,HNX.out,kz,kB⟩,by simp [intOf]<;>omega⟩
 have HNX:Hid (∀ j,m≤j→j < z.trans.length→t < (z.trans.getD j default).tm→ov≤(z.trans.getD j default).tm):=zA fun j h1 h2 h3=>by
  rcases zU m j with h | h
  ·exact HGT.out j h h2 h3
  ·obtain rfl:m=j:=by omega
   rw [HYY.out] at h3;omega
 repeat'(first|go_skip|go_guarded|go_step|go_upon)
 exact ⟨⟨m,(m:Int) - 1,ov,by omega,rfl,rfl,rfl,hto,hov,HNX.out,kz,kB⟩,by simp [intOf]<;>omega⟩
end Go.Proofs.YtppjleebbjipbaaGreat
