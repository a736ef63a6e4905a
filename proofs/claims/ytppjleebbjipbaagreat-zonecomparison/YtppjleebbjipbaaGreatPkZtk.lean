/-
  Plain: the pieces of a window with unlike offsets; normal lists with the same instants are equal.
-/
import Derived.Test.YtppjleebbjipbaaGreatPkZtj
set_option linter.all false
namespace Zn
theorem getD_mem {S:List Int} {i:Nat} (h:i < S.length):S.getD i 0∈S:=by rw [List.getD_eq_getElem?_getD,List.getElem?_eq_getElem h];exact List.getElem_mem h
theorem sI_le {S:List Int} (hs:S.Pairwise fun a b=>a≤b) {i j:Nat} (hij:i≤j) (hj:j < S.length):S.getD i 0≤S.getD j 0:=by
 rcases Nat.eq_or_lt_of_le hij with rfl | h
 ·exact Int.le_refl _
 rw [List.getD_eq_getElem?_getD,List.getD_eq_getElem?_getD,List.getElem?_eq_getElem hj,List.getElem?_eq_getElem (by omega)]
 exact List.pairwise_iff_getElem.1 hs i j (by omega) hj h
theorem sI_split {S:List Int} (hs:S.Pairwise fun a b=>a≤b) (t:Int):∀ m,m≤S.length→∃ i,i≤m∧(∀ j,j < i→S.getD j 0≤t)∧(∀ j,i≤j→j < m→t < S.getD j 0)
 | 0,_=>⟨0,Nat.le_refl _,fun j h=>absurd h (Nat.not_lt_zero j),fun j _ h=>absurd h (Nat.not_lt_zero j)⟩
 | m+1,hm=>by
  obtain ⟨i,h1,h2,h3⟩:=sI_split hs t m (by omega)
  by_cases h:t < S.getD m 0
  ·refine ⟨i,by omega,h2,fun j h4 h5=>?_⟩
   rcases Nat.lt_or_ge j m with h6 | h6
   ·exact h3 j h4 h6
   ·obtain rfl:j=m:=by omega
    exact h
  ·exact ⟨m+1,Nat.le_refl _,fun j hj=>by have:=sI_le hs (show j≤m by omega) (by omega);omega,fun j h4 h5=>by omega⟩
theorem sortI_srt (l:List Int):(a2z l).Pairwise fun a b=>a≤b:=by
 have h:=List.pairwise_mergeSort (le:=fun x y:Int=>decide (x≤y)) (fun a b c h1 h2=>by simp only [decide_eq_true_eq] at h1 h2 ⊢;omega) (fun a b=>by simp only [Bool.or_eq_true,decide_eq_true_eq];omega) l
 unfold a2z
 exact h.imp (fun hab=>by simpa using hab)
theorem piece_has {a b:a0w} {S:List Int} (t:Int):∀ m,hasB (pieceK a b S m) t=true↔∃ k,k < m∧a2u a (S.getD k 0)≠a2u b (S.getD k 0)∧S.getD k 0≤t∧t < S.getD (k+1) 0
 | 0=>⟨fun h=>(by cases h),fun ⟨k,h,_⟩=>absurd h (Nat.not_lt_zero k)⟩
 | m+1=>by
  have ih:=piece_has (a:=a) (b:=b) (S:=S) t m
  show hasB (pieceK a b S m++_) t=true↔_
  by_cases he:a2u a (S.getD m 0)=a2u b (S.getD m 0)
  ·rw [if_pos he,List.append_nil,ih]
   constructor
   ·rintro ⟨k,h1,h2⟩;exact ⟨k,by omega,h2⟩
   ·rintro ⟨k,h1,h2,h3⟩
    rcases Nat.lt_or_ge k m with h4 | h4
    ·exact ⟨k,h4,h2,h3⟩
    ·obtain rfl:k=m:=by omega
     exact absurd he h2
  ·rw [if_neg he,hasB_snoc,ih]
   constructor
   ·rintro (⟨k,h1,h2⟩ | h2)
    ·exact ⟨k,by omega,h2⟩
    ·exact ⟨m,by omega,he,h2⟩
   ·rintro ⟨k,h1,h2,h3⟩
    rcases Nat.lt_or_ge k m with h4 | h4
    ·exact .inl ⟨k,h4,h2,h3⟩
    ·obtain rfl:k=m:=by omega
     exact .inr h3
theorem cuts_mem {f u:Int} {l:List Tr} {t:Int}:t∈a2z (cutsK f u l l.length)↔t=f∨t=u∨∃ x,x∈l∧x.tm=t:=by
 rw [(a4n _).mem_iff]
 unfold cutsK
 rw [List.take_length,List.mem_append,List.mem_map]
 simp only [List.mem_cons,List.not_mem_nil,or_false]
 constructor
 ·rintro ((h | h) | h)
  ·exact .inl h
  ·exact .inr (.inl h)
  exact .inr (.inr h)
 rintro (h | h | h)
 ·exact .inl (.inl h)
 ·exact .inl (.inr h)
 exact .inr h
theorem at_getD {S:List Int} {t:Int} (h:t∈S) : ∃ q,q < S.length∧S.getD q 0=t:=by
 obtain ⟨q,hq,e⟩:=List.getElem_of_mem h
 exact ⟨q,hq,by rw [List.getD_eq_getElem?_getD,List.getElem?_eq_getElem hq];exact e⟩
theorem diff_has {a b:a0w} (hga:Good a) (hgb:Good b) {f u:Int} {l:List Tr} (hfu:f≤u) (hin:∀ x,x∈l→f≤x.tm∧x.tm < u) (hall:∀ y,IsT a y∨IsT b y→f≤y.tm→y.tm < u→∃ x,x∈l∧x.tm=y.tm) (t:Int) :
  hasB (pieceK a b (a2z (cutsK f u l l.length)) (l.length+1)) t=true↔f≤t∧t < u∧a2u a t≠a2u b t:=by
 have hlen:(a2z (cutsK f u l l.length)).length=l.length+2:=by rw [(a4n _).length_eq,cutsK_len f u l (Nat.le_refl _)]
 have hs:=sortI_srt (cutsK f u l l.length)
 have hm:∀ {t},t∈a2z (cutsK f u l l.length)↔t=f∨t=u∨∃ x,x∈l∧x.tm=t:=cuts_mem
 have hci:∀ {t},t∈a2z (cutsK f u l l.length)→f≤t∧t≤u:=fun h=>cutsK_in hfu hin h
 generalize a2z (cutsK f u l l.length)=S at *
 have key:∀ k,k+1 < S.length→S.getD k 0≤t→t < S.getD (k+1) 0→∀ y,IsT a y∨IsT b y→y.tm≤t→y.tm≤S.getD k 0:=by
  intro k hk h1 h2 y hy h3
  rcases Int.lt_or_le (S.getD k 0) y.tm with h4 | h4
  ·have h5:=hci (getD_mem (show k < S.length by omega))
   have h6:=hci (getD_mem hk);obtain ⟨x,hx,hxy⟩:=hall y hy (by omega) (by omega);obtain ⟨q,hq,e⟩:=at_getD (hm.2 (.inr (.inr ⟨x,hx,hxy⟩)))
   rcases Nat.lt_or_ge k q with h7 | h7
   ·have:=sI_le hs (show k+1≤q from h7) hq
    omega
   have:=sI_le hs h7 (by omega);omega
  exact h4
 rw [piece_has]
 constructor
 ·rintro ⟨k,h1,h2,h3,h4⟩
  have h5:=hci (getD_mem (show k < S.length by omega))
  have h6:=hci (getD_mem (show k+1 < S.length by omega))
  refine ⟨by omega,by omega,?_⟩
  rw [← a7y hga h3 (fun y hy h=>key k (by omega) h3 h4 y (.inl hy) h),← a7y hgb h3 (fun y hy h=>key k (by omega) h3 h4 y (.inr hy) h)]
  exact h2
 rintro ⟨h1,h2,h3⟩
 obtain ⟨i,i1,i2,i3⟩:=sI_split hs t S.length (Nat.le_refl _)
 obtain ⟨q,hq,eq⟩:=at_getD (hm.2 (.inl rfl:f=f∨_))
 obtain ⟨r,hr,er⟩:=at_getD (hm.2 (.inr (.inl rfl):u=f∨_))
 have hi0:q < i:=by
  rcases Nat.lt_or_ge q i with h | h
  ·exact h
  have:=i3 q h hq;omega
 have hir:i≤r:=by
  rcases Nat.lt_or_ge r i with h | h
  ·have:=i2 r h;omega
  exact h
 rcases i with _ | k
 ·omega
 have h4:=i2 k (by omega)
 have h5:=i3 (k+1) (Nat.le_refl _) (by omega)
 refine ⟨k,by omega,?_,h4,h5⟩
 rw [a7y hga h4 (fun y hy h=>key k (by omega) h4 h5 y (.inl hy) h),a7y hgb h4 (fun y hy h=>key k (by omega) h4 h5 y (.inr hy) h)]
 exact h3
theorem ordB_head {x:Tr} {A:List Tr} (h:ordB (x :: A)):x.tm < x.off:=by simpa using (h 0 (by simp)).1
theorem hasB_mem {A:List Tr} {t:Int}:hasB A t=true↔∃ s,s∈A∧s.tm≤t∧t < s.off:=by
 unfold hasB
 rw [List.any_eq_true]
 simp only [Bool.and_eq_true,decide_eq_true_eq]
theorem hasB_cons {x:Tr} {A:List Tr} {t:Int}:hasB (x :: A) t=true↔(x.tm≤t∧t < x.off)∨hasB A t=true:=by
 rw [hasB_mem,hasB_mem]
 constructor
 ·rintro ⟨s,h1,h2⟩
  rcases List.mem_cons.1 h1 with rfl | h3
  ·exact .inl h2
  exact .inr ⟨s,h3,h2⟩
 rintro (h | ⟨s,h1,h2⟩)
 ·exact ⟨x,by simp,h⟩
 exact ⟨s,by simp [h1],h2⟩
end Zn
namespace Zn
theorem from0_none {z:a0w} (h:a2s z (ysT z) (a0s z) z.hor 0=none):(ysT z).length=0:=by
 unfold a2s at h
 split at h
 ·cases h
 split at h
 ·rename_i h2;exact h2
 cases h
theorem trans_last {z:a0w} (hg:Good z) {y:Tr} (hy:y∈z.trans):0 < z.trans.length∧y.tm≤(z.trans.getD (z.trans.length - 1) default).tm:=by
 obtain ⟨q,hq,rfl⟩:=List.mem_iff_getElem.1 hy
 refine ⟨by omega,?_⟩
 rw [← getD_at hq]
 rcases Nat.eq_or_lt_of_le (show q≤z.trans.length - 1 by omega) with h | h
 ·rw [h];exact Int.le_refl _
 have:=abz (fun i hi=>hg.a.tr i hi) (z.trans.length - 1 - q - 1) q (by omega)
 rw [show q+(z.trans.length - 1 - q - 1+1)=z.trans.length - 1 by omega] at this
 omega
theorem settled_rep {z:a0w} (hg:Good z) {n:Int} (hn:a1w z (ysT z) (a0s z)≤n):a2u z (n+a0s z * 1440)=a2u z n:=by
 cases hx:a2s z (ysT z) (a0s z) z.hor 0 with
 | some x =>
  have h1:=a6q hg (show a4y z z.hor 0=some x from hx)
  refine aqs hg h1.1 h1.2 ?_
  have:a1w z (ysT z) (a0s z)=x.tm:=by unfold a1w;rw [hx]
  omega
 | none =>
  have h0:=from0_none hx
  have hc:=hg.ck.c0
  refine (a7y hg (by omega) (fun y hy _=>?_)).symm
  rcases hy with hy | ⟨i,hi,_⟩
  ·have h2:=trans_last hg hy
   (have:a1w z (ysT z) (a0s z)=(z.trans.getD (z.trans.length - 1) default).tm:=by unfold a1w;rw [hx];dsimp only;rw [if_pos h2.1]);omega
  omega
theorem settled_reps {z:a0w} (hg:Good z) {n:Int} (hn:a1w z (ysT z) (a0s z)≤n):∀ k:Nat,a2u z (n+(k:Int) * (a0s z * 1440))=a2u z n
 | 0=>by simp
 | k+1=>by
  have hc:=hg.ck.c0
  have h0:0≤(k:Int) * (a0s z * 1440):=Int.mul_nonneg (by omega) (by omega)
  have h1:=settled_rep hg (n:=n+(k:Int) * (a0s z * 1440)) (by omega)
  have h2:=settled_reps hg hn k
  rw [show n+((k+1:Nat):Int) * (a0s z * 1440)=n+(k:Int) * (a0s z * 1440)+a0s z * 1440 by rw [Int.natCast_add,Int.add_mul];omega,h1,h2]
theorem agree {a b:a0w} (ha:Good a) (hb:Good b) {E:Int} (hs:a.start=b.start) (la:∀ y,IsT a y→-2251799813685248≤y.tm) (lb:∀ y,IsT b y→-2251799813685248≤y.tm) (h1:sameP a b E) (h2:sameP b a E) {t:Int} (ht:t≤E):a2u a t=a2u b t:=by
 have A:∀ y,IsT a y→y.tm≤E→y.off=a2u b y.tm:=fun y hy hE=>by
  obtain ⟨i,hi⟩:=akx ha hy (la y hy)
  exact h1 i y hi hE
 have B:∀ y,IsT b y→y.tm≤E→y.off=a2u a y.tm:=fun y hy hE=>by
  obtain ⟨i,hi⟩:=akx hb hy (lb y hy)
  exact h2 i y hi hE
 rcases a3u ha t with ⟨x1,x2⟩ | ⟨x,x1,x2,x3,x4⟩
 ·rcases a3u hb t with ⟨y1,y2⟩ | ⟨y,y1,y2,y3,y4⟩
  ·rw [offZ_none x1,offZ_none y1,hs]
  rw [a4b y1,B y y2 (by omega)]
  exact (a7y ha y3 (fun w hw hwt=>by have:=x2 w hw;omega)).symm
 rcases a3u hb t with ⟨y1,y2⟩ | ⟨y,y1,y2,y3,y4⟩
 ·rw [a4b x1,A x x2 (by omega)]
  exact a7y hb x3 (fun w hw hwt=>by have:=y2 w hw;omega)
 rcases Int.le_total y.tm x.tm with h | h
 ·rw [a4b x1,A x x2 (by omega)]
  exact a7y hb x3 (fun w hw hwt=>by have:=y4 w hw hwt;omega)
 rw [a4b y1,B y y2 (by omega)]
 exact (a7y ha y3 (fun w hw hwt=>by have:=x4 w hw hwt;omega)).symm
theorem same_iff {a b:a0w} (ha:Good a) (hb:Good b) {E m L:Int} {ka kb:Nat} {P:Int} (la:∀ y,IsT a y→0≤y.tm) (lb:∀ y,IsT b y→0≤y.tm)
  (hma:a1w a (ysT a) (a0s a)≤m) (hmb:a1w b (ysT b) (a0s b)≤m) (hP:0 < P) (hka:(ka:Int) * (a0s a * 1440)=P) (hkb:(kb:Int) * (a0s b * 1440)=P) (hE:m+P=E) (hEL:E < L) :
  (a.start=b.start∧sameP a b E∧sameP b a E)↔∀ t,-10≤t→t < L→a2u a t=a2u b t:=by
 constructor
 ·rintro ⟨h0,h1,h2⟩ t _ _
  have hlow:∀ t,t≤E→a2u a t=a2u b t:=fun t ht=>agree ha hb h0 (fun y hy=>by have:=la y hy;omega) (fun y hy=>by have:=lb y hy;omega) h1 h2 ht
  rcases Int.lt_or_le E t with h3 | h3
  ·have hq0:0≤(t - m) / P:=Int.ediv_nonneg (by omega) (by omega)
   obtain ⟨q,hq⟩ : ∃ q:Nat,(t - m) / P=q:=⟨((t - m) / P).toNat,by omega⟩
   have hdm:=Int.mul_ediv_add_emod (t - m) P;have hr0:=Int.emod_nonneg (t - m) (show P≠0 by omega);have hr1:=Int.emod_lt_of_pos (t - m) hP;rw [hq] at hdm
   obtain ⟨n,hn⟩ : ∃ n,n=m+(t - m) % P:=⟨_,rfl⟩
   (have e1:t=n+(q:Int) * P:=by rw [Int.mul_comm] at hdm;omega);have eA:=settled_reps ha (n:=n) (by omega) (q * ka);have eB:=settled_reps hb (n:=n) (by omega) (q * kb);rw [Int.natCast_mul,Int.mul_assoc,hka,← e1] at eA;rw [Int.natCast_mul,Int.mul_assoc,hkb,← e1] at eB;rw [eA,eB];exact hlow n (by omega)
  exact hlow t h3
 intro h
 have hm10 : -10 < L:=by
  rcases Int.lt_or_le m (-10) with h3 | h3
  ·exfalso
   have:∀ {z:a0w},Good z→(∀ y,IsT z y→0≤y.tm)→0≤a1w z (ysT z) (a0s z):=fun {z} hz hl=>by
    unfold a1w;split
    ·rename_i x hx
     exact hl x (a6q hz (show a4y z z.hor 0=some x from hx)).1
    ·split
     ·rename_i h0
      exact hl _ (.inl (a2h (by omega)))
     ·exact Int.le_refl _
   have:=this ha la;omega
  omega
 have hst:∀ {z:a0w},Good z→(∀ y,IsT z y→0≤y.tm)→a2u z (-10)=z.start:=fun {z} hz hl=>by
  rcases a3u hz (-10) with ⟨x1,_⟩ | ⟨x,_,x2,x3,_⟩
  ·exact offZ_none x1
  ·have:=hl x x2;omega
 have hsp:∀ {a b:a0w},Good a→(∀ y,IsT a y→0≤y.tm)→(∀ t,-10≤t→t < L→a2u a t=a2u b t)→sameP a b E:=fun {a b} ha la h i x hx hE=>by
  have h1:=(a6q ha (show a4y a (-2251799813685248) i=some x from hx)).1
  have h2:=la x h1
  rw [← aii ha h1 (Int.le_refl _) (by omega)]
  exact h x.tm (by omega) (by omega)
 refine ⟨?_,hsp ha la h,hsp hb lb (fun t h1 h2=>(h t h1 h2).symm)⟩
 rw [← hst ha la,← hst hb lb]
 exact h (-10) (Int.le_refl _) hm10
end Zn
namespace Zn
structure SmallC (z:a0w):Prop where
 e0:2≤z.cal.a08
 e1:z.cal.a08≤5
 m2:z.cal.a0g.length=2
 l0:∀ y,7≤a97 z.cal y 0∧a97 z.cal y 0≤8
 l1:∀ y,6≤a97 z.cal y 1∧a97 z.cal y 1≤9
theorem small_cal (x:Raw):2≤(a0t x).a08∧(a0t x).a08≤5∧(a0t x).a0g.length=2∧(∀ y,7≤a97 (a0t x) y 0∧a97 (a0t x) y 0≤8)∧(∀ y,6≤a97 (a0t x) y 1∧a97 (a0t x) y 1≤9):=by
 unfold a0t
 split
 ·refine ⟨show (2:Int)≤5 by decide,show (5:Int)≤5 by decide,rfl,fun y=>?_,fun y=>?_⟩
  ·show 7≤(7:Int)+(if _ then 1 else 0)∧(7:Int)+(if _ then 1 else 0)≤8
   split<;>omega
  show 6≤(8:Int)+(if _ then 1 else 0)∧(8:Int)+(if _ then 1 else 0)≤9
  split<;>omega
 refine ⟨by decide,by decide,rfl,fun y=>?_,fun y=>?_⟩
 ·show 7≤(7:Int)+(if _ then 1 else 0)∧(7:Int)+(if _ then 1 else 0)≤8
  split<;>omega
 show 6≤(6:Int)+(if _ then 1 else 0)∧(6:Int)+(if _ then 1 else 0)≤9
 split<;>omega
theorem made_small (x:Raw):SmallC (made x):=by
 obtain ⟨h1,h2,h3,h4,h5⟩:=small_cal x
 rw [← made_cal x] at h1 h2 h3 h4 h5
 exact ⟨h1,h2,h3,h4,h5⟩
theorem SmallC.year {z:a0w} (h:SmallC z) (y:Int):13≤a4f z.cal y∧a4f z.cal y≤17:=by
 have h0:=h.l0 y
 have h1:=h.l1 y
 have e:a4f z.cal y=0+a97 z.cal y 0+a97 z.cal y 1:=by unfold a4f;rw [h.m2];rfl
 omega
theorem SmallC.a5b {z:a0w} (h:SmallC z):∀ k:Nat,13 * (k:Int)≤a0z z.cal k
 | 0=>by simp [a0z]
 | k+1=>by
  have h1:=h.a5b k
  have h2:=h.year ((k:Int)+1)
  have e:a0z z.cal (k+1)=a0z z.cal k+a4f z.cal ((k:Int)+1):=rfl
  omega
theorem yday_yes {c:Cal} {b y:Int} {r:YR} (hw:1≤r.wk) (h:(a8x c b y r).2=true):b+a6z c y (r.mon.toNat - 1)≤(a8x c b y r).1∧(a8x c b y r).1 < b+a6z c y (r.mon.toNat - 1)+a97 c y (r.mon.toNat - 1):=by
 unfold a8x at h ⊢
 dsimp only at h ⊢
 generalize a6z c y (r.mon.toNat - 1)=s at *
 generalize a97 c y (r.mon.toNat - 1)=l at *
 split at h
 ·rename_i h5
  rw [if_pos h5]
  simp only [decide_eq_true_eq] at h
  have:=Int.emod_nonneg (b+s+l - 1 - r.wd) (show (7:Int)≠0 by omega)
  dsimp only
  omega
 rename_i h5
 rw [if_neg h5]
 simp only [decide_eq_true_eq] at h
 have:=Int.emod_nonneg (r.wd - (b+s)) (show (7:Int)≠0 by omega)
 dsimp only
 omega
theorem rawAt_small {z:a0w} (hz:Zok z) (hs:SmallC z) (h2:z.a0b.length=2) {k j:Nat} (hj:j < 2) {x:Tr} (hx:x∈a6f z k j):(z.cal.a08+a0z z.cal k) * 1440 - 1080≤x.tm∧x.tm≤(z.cal.a08+a0z z.cal k+17) * 1440+2519:=by
 have hr:=hz.yr j (by omega)
 have ht:=hz.yr (1 - j) (by omega)
 unfold a6f at hx
 dsimp only at hx
 split at hx
 ·rename_i hy
  have h1:=yday_yes hr.k0 hy
  simp only [List.mem_singleton] at hx
  subst hx
  dsimp only
  have:=hr.n0;have:=hr.n1;have:=ht.o0;have:=ht.o1;have m0:=hr.m0;have m1:=hr.m1
  rw [hs.m2] at m1
  have l0:=hs.l0 ((k:Int)+1)
  have l1:=hs.l1 ((k:Int)+1)
  generalize a8x z.cal (z.cal.a08+a0z z.cal k) ((k:Int)+1) (z.a0b.getD j default)=d at *
  rcases (show (z.a0b.getD j default).mon=1∨(z.a0b.getD j default).mon=2 by omega) with h | h
  ·rw [h] at h1
   have e:a6z z.cal ((k:Int)+1) ((1:Int).toNat - 1)=0:=rfl;have e2:a97 z.cal ((k:Int)+1) ((1:Int).toNat - 1)=a97 z.cal ((k:Int)+1) 0:=rfl;rw [e,e2] at h1;omega
  rw [h] at h1
  have e:a6z z.cal ((k:Int)+1) ((2:Int).toNat - 1)=0+a97 z.cal ((k:Int)+1) 0:=rfl
  have e2:a97 z.cal ((k:Int)+1) ((2:Int).toNat - 1)=a97 z.cal ((k:Int)+1) 1:=rfl
  rw [e,e2] at h1
  omega
 cases hx
theorem raw_small {z:a0w} (hz:Zok z) (hs:SmallC z) (h2:z.a0b.length=2):∀ {k:Nat} {x:Tr},x∈raw z k→0≤x.tm∧∃ j,j < k∧x.tm≤(a0z z.cal j+22) * 1440+2519
 | 0,x,h=>by cases h
 | k+1,x,h=>by
  have he:=hs.e0
  have he1:=hs.e1
  have hy:=hs.a5b k
  rcases List.mem_append.1 h with h | h
  ·obtain ⟨h3,j,hj,h4⟩:=raw_small hz hs h2 h
   exact ⟨h3,j,by omega,h4⟩
  ·have h9 : ∃ j,j < 2∧x∈a6f z k j:=by
    have h:x∈a6f z k 0++a6f z k 1:=h
    rcases List.mem_append.1 h with h | h
    ·exact ⟨0,by omega,h⟩
    ·exact ⟨1,by omega,h⟩
   obtain ⟨j,hj,h⟩:=h9
   have h5:=rawAt_small hz hs h2 hj h
   exact ⟨by omega,k,by omega,by omega⟩
theorem made_cyc {z:a0w} (mk:arz z):(a0s z=1∧ysT z = [])∨(z.a0b.length=2∧(a0s z=91∨a0s z=217)):=by
 rcases mk.good.a.yl with h | h
 ·exact .inl ⟨by unfold a0s;rw [if_pos h],by unfold ysT;rw [if_pos h]⟩
 refine .inr ⟨h,?_⟩
 unfold a0s
 rw [if_neg (by omega)]
 rcases mk.days with d | d
 ·rw [d];exact .inl (by decide)
 rw [d];exact .inr (by decide)
theorem ys_small {z:a0w} (mk:arz z) (hs:SmallC z):(∀ x,x∈ysT z→0≤x.tm∧x.tm≤345239)∧13 * ((ysT z).length:Int) < 2 * a0s z+26:=by
 rcases made_cyc mk with ⟨hc,hy⟩ | ⟨h2,hc⟩
 ·rw [hy,hc]
  exact ⟨fun x h=>(by cases h),by simp⟩
 have hk:=aiz mk.good.a.hd.cal
 have hp:(ysT z).Perm (raw z (kT z)):=by unfold ysT;rw [if_neg (by omega)];exact a5i _
 have hle:a0s z≤217:=by omega
 refine ⟨fun x hx=>?_,?_⟩
 ·obtain ⟨h3,j,hj,h4⟩:=raw_small mk.good.a.zok hs h2 (hp.mem_iff.1 hx)
  have:=hk.1 j hj
  omega
 have h3:=a7e z (kT z)
 rw [← hp.length_eq] at h3
 rcases Nat.eq_zero_or_pos (kT z) with h0 | h0
 ·rw [h0] at h3
  omega
 have h4:=hk.1 (kT z - 1) (by omega)
 have h5:=hs.a5b (kT z - 1)
 omega
theorem made_low {z:a0w} (mk:arz z) {y:Tr} (hy:IsT z y):2160≤y.tm:=by
 rcases hy with h | ⟨i,hi,k,e,h⟩
 ·exact (mk.t0 y h).1
 have:=mk.h0
 omega
theorem settled_small {z:a0w} (mk:arz z) (hs:SmallC z):0≤a1w z (ysT z) (a0s z)∧a1w z (ysT z) (a0s z)≤345239:=by
 cases hx:a2s z (ysT z) (a0s z) z.hor 0 with
 | some x =>
  have h1:=a6q mk.good (show a4y z z.hor 0=some x from hx)
  have e:a1w z (ysT z) (a0s z)=x.tm:=by unfold a1w;rw [hx]
  rw [e]
  have h2:=made_low mk h1.1
  refine ⟨by omega,?_⟩
  rcases Nat.eq_zero_or_pos (ysT z).length with h0 | h0
  ·rcases h1.1 with h | ⟨i,hi,_⟩
   ·have:=(mk.t0 x h).2;omega
   omega
  have hy0:=(ys_small mk hs).1 ((ysT z).getD 0 default) (a2h h0)
  have hc:91≤a0s z∧a0s z≤217:=by
   rcases made_cyc mk with ⟨_,hy⟩ | ⟨_,hc⟩
   ·rw [hy] at h0;exact absurd h0 (Nat.lt_irrefl 0)
   omega
  have hh:=mk.h1
  by_cases hh0:z.hor≤((ysT z).getD 0 default).tm
  ·obtain ⟨x',h3,h4⟩:=ahj mk.good (i:=0) (k:=0) h0 (by rw [show ((0:Nat):Int) * (a0s z * 1440)=0 by simp];omega)
   rw [hx] at h3;cases h3;rw [show ((0:Nat):Int) * (a0s z * 1440)=0 by simp] at h4;omega
  obtain ⟨x',h3,h4⟩:=ahj mk.good (i:=0) (k:=1) h0 (by rw [show ((1:Nat):Int) * (a0s z * 1440)=a0s z * 1440 by simp];omega)
  rw [hx] at h3
  cases h3
  rw [show ((1:Nat):Int) * (a0s z * 1440)=a0s z * 1440 by simp] at h4
  omega
 | none =>
  unfold a1w
  rw [hx]
  dsimp only
  split
  ·rename_i h0
   have:=mk.t0 _ (a2h (show z.trans.length - 1 < z.trans.length by omega));omega
  omega
theorem idx_low {z:a0w} (hg:Good z) (hl:∀ y,IsT z y→0≤y.tm) {t:Int}:∀ (i:Nat) {x:Tr},a4y z t i=some x→2160 * (i:Int)≤x.tm
 | 0,x,hx=>by have:=hl x (a6q hg hx).1;omega
 | i+1,x,hx=>by
  obtain ⟨y,hy⟩:=aam (Nat.le_succ i) ⟨x,hx⟩
  have h1:=idx_low hg hl i hy
  have h2:=ach hg (Nat.lt_succ_self i) hy hx
  omega
theorem changes_ok2 {z:a0w} (hg:Good z) {t u:Int} (hN:∀ (i:Nat) (x:Tr),a4y z t i=some x→x.tm < u→i < 4096) : ∃ l,a2i z (ysT z) (a0s z) t u=some l∧asa z t u l:=by
 obtain ⟨N,h1,h2,h3⟩:=ajc hg (t:=t) (u:=u)
 have hN6:N≤4096:=by
  rcases Nat.lt_or_ge 4096 N with h | h
  ·obtain ⟨x,hx,hu⟩:=h3 4096 h
   exact absurd (hN 4096 x hx hu) (Nat.lt_irrefl _)
  exact h
 obtain ⟨l,e,hl,hj⟩:=ae2 (nx:=a2s z (ysT z) (a0s z) t) (u:=u) (N:=N) (by omega) h2 h3 4098 0 [] (by omega) (by omega) rfl (fun j hj=>by omega)
 refine ⟨l,e,?_,?_,?_,by rw [hl];exact h1⟩
 ·intro x hx
  obtain ⟨q,hq,rfl⟩:=List.mem_iff_getElem.1 hx
  have h4:=hj q (by omega)
  rw [getD_at hq] at h4
  obtain ⟨x,h5,h6⟩:=h3 q (by omega)
  have h7:some x=some l[q]:=h5.symm.trans h4
  cases h7
  have:=a6q hg h4
  exact ⟨this.1,this.2,h6⟩
 ·intro y hy hty hyu
  obtain ⟨i,hi⟩:=akx hg hy hty
  have hiN:i < N:=Nat.lt_of_not_le fun hle=>by
   obtain ⟨x,hx⟩:=aam hle ⟨y,hi⟩
   rcases h2 with h2 | ⟨x',h2,h4⟩
   ·rw [h2] at hx;cases hx
   ·rcases Nat.lt_or_eq_of_le hle with h | h
    ·have:=ach hg h h2 hi;omega
    ·subst h;rw [h2] at hi;cases hi;omega
  have h4:=hj i hiN
  have h5:some y=some (l.getD i default):=hi.symm.trans h4
  cases h5
  exact a2h (by omega)
 intro i j hij hjl
 exact ach hg hij (hj i (by omega)) (hj j (by omega))
theorem idx_small {z:a0w} (mk:arz z) (hs:SmallC z) (hc:a0s z=91) {t:Int} {i:Nat} {x:Tr} (hx:a4y z t i=some x) (hu:x.tm < 12323520):i < 4096:=by
 have hck:=mk.good.ck
 have hy:=ys_small mk hs
 have htl:=mk.tl
 have hfa:(a3w z t).length≤3:=Nat.le_trans (List.length_filter_le _ _) htl
 unfold a4y a2s at hx
 split at hx
 ·omega
 split at hx
 ·cases hx
 rename_i hn
 cases hx
 have hr:=a2d (y0:=((ysT z).getD 0 default).tm) (t:=a5l t z.hor) hck.c0
 generalize turns ((ysT z).getD 0 default).tm (a5l t z.hor) (a0s z)=r at *
 obtain ⟨p,hp⟩ : ∃ p,p=a2y (ysT z) (a0s z) r (a5l t z.hor)+(i - (a3w z t).length):=⟨_,rfl⟩
 rw [← hp] at hu
 have hu:((ysT z).getD (p % (ysT z).length) default).tm+(r+((p / (ysT z).length:Nat):Int)) * (a0s z * 1440) < 12323520:=hu
 have h0:=(hy.1 _ (a2h (Nat.mod_lt p (show 0 < (ysT z).length by omega)))).1
 have hl:=hy.2
 rw [hc] at hu hl
 have hq:(p / (ysT z).length:Nat) < 95:=by
  rcases Nat.lt_or_ge (p / (ysT z).length) 95 with h | h
  ·exact h
  have:(95:Int) * (91 * 1440)≤(r+((p / (ysT z).length:Nat):Int)) * (91 * 1440):=Int.mul_le_mul_of_nonneg_right (by omega) (by omega)
  omega
 have hpm:=Nat.div_add_mod p (ysT z).length
 have hml:=Nat.mod_lt p (show 0 < (ysT z).length by omega)
 have h15:(ysT z).length≤15:=by omega
 have:(ysT z).length * (p / (ysT z).length)≤15 * 94:=Nat.mul_le_mul h15 (by omega)
 omega
end Zn
namespace Zn
theorem made_changes {z:a0w} (mk:arz z) (hs:SmallC z) {u:Int} (hu:u≤8799990∨(a0s z=91∧u≤12323520)) : ∃ l,a2i z (ysT z) (a0s z) (-10) u=some l∧asa z (-10) u l∧l.length≤10000:=by
 have h : ∃ l,a2i z (ysT z) (a0s z) (-10) u=some l∧asa z (-10) u l:=by
  rcases hu with hu | ⟨hc,hu⟩
  ·exact anr mk.good (by omega)
  exact changes_ok2 mk.good (fun i x hx hlt=>idx_small mk hs hc hx (by omega))
 obtain ⟨l,h1,h2⟩:=h
 refine ⟨l,h1,h2,?_⟩
 have:=h2.len
 omega
theorem cyc_cases {a b:a0w} (ma:arz a) (mb:arz b) {ca cb:Nat} (hca:a0s a=(ca:Int)) (hcb:a0s b=(cb:Int)) (hL:ca * cb≤19723) :
  (1≤ca∧ca≤217)∧(1≤cb∧cb≤217)∧Nat.lcm ca cb≤ca * cb∧(ca * cb≤217∨(ca=91∧cb=91)):=by
 have hA:ca=1∨ca=91∨ca=217:=by rcases made_cyc ma with ⟨h,_⟩ | ⟨_,h⟩<;>omega
 have hB:cb=1∨cb=91∨cb=217:=by rcases made_cyc mb with ⟨h,_⟩ | ⟨_,h⟩<;>omega
 rcases hA with rfl | rfl | rfl<;>rcases hB with rfl | rfl | rfl<;>first | (exact absurd hL (by decide)) | decide
theorem norm_nil {l L:List Tr} (h:NormL l L):L.length=0↔∀ t,hasB l t=false:=by
 constructor
 ·intro h0 t
  rw [← h.has t,List.length_eq_zero_iff.1 h0]
  rfl
 intro h0
 rcases L with _ | ⟨x,A⟩
 ·rfl
 have h1:=ordB_head h.ord
 have h2:hasB (x :: A) x.tm=true:=hasB_cons.2 (.inl ⟨Int.le_refl _,h1⟩)
 rw [h.has,h0] at h2
 cases h2
structure CmpK (a b:a0w) (lc:Nat) (E L:Int):Prop where
 chA : ∃ l,a2i a (ysT a) (a0s a) (-10) L=some l∧asa a (-10) L l∧l.length≤10000
 chB : ∃ l,a2i b (ysT b) (a0s b) (-10) L=some l∧asa b (-10) L l∧l.length≤10000
 lc4:lc≤4194304
 hE:(if a1w a (ysT a) (a0s a) < a1w b (ysT b) (a0s b) then a1w b (ysT b) (a0s b) else a1w a (ysT a) (a0s a))+(lc:Int) * 1440=E
 nA:∀ i x,a2s a (ysT a) (a0s a) (-2251799813685248) i=some x→x.tm≤E→i < 1000000
 nB:∀ i x,a2s b (ysT b) (a0s b) (-2251799813685248) i=some x→x.tm≤E→i < 1000000
 law:(a.start=b.start∧sameP a b E∧sameP b a E)↔∀ t,-10≤t→t < L→a2u a t=a2u b t
theorem cmp_plain {a b:a0w} (ma:arz a) (mb:arz b) (sa:SmallC a) (sb:SmallC b) {ca cb:Nat} (hca:a0s a=(ca:Int)) (hcb:a0s b=(cb:Int)) (hL:ca * cb≤19723) : ∃ E,CmpK a b (Nat.lcm ca cb) E (1440 * (277+(ca:Int) * (cb:Int))):=by
 obtain ⟨h1,h2,h3,h4⟩:=cyc_cases ma mb hca hcb hL
 have tA:=settled_small ma sa
 have tB:=settled_small mb sb
 obtain ⟨m,hm⟩ : ∃ m,m=if a1w a (ysT a) (a0s a) < a1w b (ysT b) (a0s b) then a1w b (ysT b) (a0s b) else a1w a (ysT a) (a0s a):=⟨_,rfl⟩
 have hma:a1w a (ysT a) (a0s a)≤m:=by rw [hm];split<;>omega
 have hmb:a1w b (ysT b) (a0s b)≤m:=by rw [hm];split<;>omega
 have hm2:m≤345239:=by rw [hm];split<;>omega
 have hlp:0 < Nat.lcm ca cb:=Nat.lcm_pos (by omega) (by omega)
 obtain ⟨ka,hka⟩:ca ∣ Nat.lcm ca cb:=Nat.dvd_lcm_left ca cb
 obtain ⟨kb,hkb⟩:cb ∣ Nat.lcm ca cb:=Nat.dvd_lcm_right ca cb
 have hmul:(ca:Int) * (cb:Int)=((ca * cb:Nat):Int):=by rw [Int.natCast_mul]
 obtain ⟨E,hE⟩ : ∃ E,E=m+(Nat.lcm ca cb:Int) * 1440:=⟨_,rfl⟩
 have hEb:E≤30000000:=by omega
 have lowA:∀ y,IsT a y→0≤y.tm:=fun y hy=>by have:=made_low ma hy;omega
 have lowB:∀ y,IsT b y→0≤y.tm:=fun y hy=>by have:=made_low mb hy;omega
 have hu:∀ {z:a0w} {c:Nat},a0s z=(c:Int)→(c=ca∨c=cb)→(1440 * (277+(ca:Int) * (cb:Int))≤8799990∨(a0s z=91∧1440 * (277+(ca:Int) * (cb:Int))≤12323520)):=fun {z c} hz hc=>by
  rcases h4 with h | ⟨rfl,rfl⟩
  ·exact .inl (by rw [hmul];omega)
  ·exact .inr ⟨by omega,by decide⟩
 refine ⟨E,made_changes ma sa (hu hca (.inl rfl)),made_changes mb sb (hu hcb (.inr rfl)),by omega,by rw [← hm,← hE],fun i x hx hle=>?_,fun i x hx hle=>?_,?_⟩
 ·have:=idx_low ma.good lowA i (show a4y a (-2251799813685248) i=some x from hx)
  omega
 ·have:=idx_low mb.good lowB i (show a4y b (-2251799813685248) i=some x from hx)
  omega
 refine same_iff (m:=m) (ka:=ka) (kb:=kb) (P:=(Nat.lcm ca cb:Int) * 1440) ma.good mb.good lowA lowB hma hmb (by omega) ?_ ?_ hE.symm (by rw [hmul];omega)
 ·rw [hca,← Int.mul_assoc]
  congr 1
  rw [hka,Int.natCast_mul,Int.mul_comm]
 rw [hcb,← Int.mul_assoc]
 congr 1
 rw [hkb,Int.natCast_mul,Int.mul_comm]
theorem cmp_diff {a b:a0w} (hga:Good a) (hgb:Good b) {f u:Int} (hfu:f≤u) {la lb:List Tr} (ha:asa a f u la) (hb:asa b f u lb):(∀ x,x∈la++lb→f≤x.tm∧x.tm < u)∧∀ t,hasB (pieceK a b (a2z (cutsK f u (la++lb) (la++lb).length)) ((la++lb).length+1)) t=true↔f≤t∧t < u∧a2u a t≠a2u b t:=by
 have hin:∀ x,x∈la++lb→f≤x.tm∧x.tm < u:=fun x hx=>by
  rcases List.mem_append.1 hx with h | h
  ·exact (ha.isT x h).2
  ·exact (hb.isT x h).2
 refine ⟨hin,diff_has hga hgb hfu hin (fun y hy h1 h2=>?_)⟩
 rcases hy with h | h
 ·exact ⟨y,List.mem_append_left _ (ha.all y h h1 h2),rfl⟩
 exact ⟨y,List.mem_append_right _ (hb.all y h h1 h2),rfl⟩
end Zn
