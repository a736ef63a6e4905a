/-
  The yearly transitions as one list: whatever sorts them, if the gaps are good.
-/
import Derived.Test.YtppjleebbjipbaaGreatQkZns
set_option linter.all false
namespace Zn
def acd (x:Tr):List Tr→List Tr
 | []=>[x]
 | y :: ys=>if x.tm < y.tm then x :: y :: ys else y :: acd x ys
def a4t (l:List Tr):List Tr:=l.foldl (fun a x=>acd x a) []
def kTa (z:a0w):Nat→Nat→Int→Nat
 | 0,k,_=>k
 | f+1,k,s=>if a0s z≤s then k else kTa z f (k+1) (s+a4f z.cal ((k:Int)+1))
def kT (z:a0w):Nat:=kTa z (a0s z).toNat 0 0
def ysT (z:a0w):List Tr:=if z.a0b.length=0 then [] else a4t (raw z (kT z))
theorem a8c (x:Tr):∀ l:List Tr,(acd x l).Perm (x :: l)
 | []=>List.Perm.refl _
 | y :: ys=>by
  unfold acd
  split
  ·exact List.Perm.refl _
  ·exact ((a8c x ys).cons y).trans (List.Perm.swap x y ys)
theorem a6x:∀ (l a:List Tr),(l.foldl (fun a x=>acd x a) a).Perm (a++l)
 | [],a=>by simp
 | x :: xs,a=>by
  refine (a6x xs (acd x a)).trans ?_
  refine ((a8c x a).append_right xs).trans ?_
  rw [xK]
  exact List.perm_middle.symm
theorem a5i (l:List Tr):(a4t l).Perm l:=a6x l []
theorem agp (l:List Tr) (x:Tr):a4t (l ++ [x])=acd x (a4t l):=by
 unfold a4t
 rw [List.foldl_append]
 rfl
def PwT (l:List Tr):Prop:=l.Pairwise fun a b=>a.tm≤b.tm
theorem getD_at {l:List Tr} {i:Nat} (h:i < l.length):l.getD i default=l[i]:=by
 rw [zB,zK h]
 rfl
theorem aic {l:List Tr}:PwT l↔a7l l:=by
 unfold PwT a7l
 rw [wH]
 constructor
 ·intro h i j hij hj
  rw [getD_at (by omega),getD_at hj]
  rcases wL hij with h1 | rfl
  ·exact h i j _ hj h1
  exact yR _
 intro h i j hi hj hij
 have:=h i j (by omega) hj
 rwa [getD_at hi,getD_at hj] at this
theorem aj1 {x:Tr}:∀ {l:List Tr},PwT l→PwT (acd x l)
 | [],_=>by simp [acd,PwT]
 | y :: ys,h=>by
  have hc:=wM.1 h
  unfold acd
  split
  ·rename_i hx
   refine wM.2 ⟨fun z hz=>?_,h⟩
   rcases yN.1 hz with rfl | hz
   ·omega
   ·have:=hc.1 z hz
    omega
  ·rename_i hx
   refine wM.2 ⟨fun z hz=>?_,aj1 hc.2⟩
   rcases yN.1 ((a8c x ys).mem_iff.1 hz) with rfl | hz
   ·omega
   ·exact hc.1 z hz
theorem a90:∀ (l a:List Tr),PwT a→PwT (l.foldl (fun a x=>acd x a) a)
 | [],_,h=>h
 | _ :: xs,_,h=>a90 xs _ (aj1 h)
theorem ac1 (l:List Tr):PwT (a4t l):=a90 l [] List.Pairwise.nil
theorem aqe {a b:List Tr} (ha:PwT a) (hb:PwT b) (h:a.Perm b):a.map (·.tm)=b.map (·.tm):=by
 refine List.Perm.eq_of_pairwise (le:=fun a b:Int=>a≤b) (fun x y _ _ h1 h2=>Int.le_antisymm h1 h2) ?_ ?_ (h.map _)
 ·exact List.pairwise_map.2 ha
 exact List.pairwise_map.2 hb
theorem am5 {a b:List Tr} (h:a.map (·.tm)=b.map (·.tm)) (i:Nat):(a.getD i default).tm=(b.getD i default).tm:=by
 have h1:(a.map (·.tm))[i]? = (b.map (·.tm))[i]? := by rw [h]
 rw [xC,xC] at h1
 rw [zB,zB]
 cases ha:a[i]?<;>cases hb:b[i]?<;>rw [ha,hb] at h1<;>simp at h1 ⊢
 exact h1
theorem akv {a b:List Tr} {cyc:Int} (h:a.map (·.tm)=b.map (·.tm)):a4e a cyc↔a4e b cyc:=by
 have hl:a.length=b.length:=by have:=congrArg List.length h;simpa using this
 have hg:∀ i,a6j a cyc i=a6j b cyc i:=fun i=>by
  unfold a6j
  rw [am5 h i,am5 h (i+1),am5 h 0,hl]
 unfold a4e
 rw [hl]
 constructor
 ·intro h i hi;rw [← hg];exact h i hi
 intro h i hi;rw [hg];exact h i hi
theorem a9w {a:List Tr} {cyc:Int} (h:a4e a cyc):∀ (d i:Nat),i+(d+1) < a.length→(a.getD i default).tm+2160≤(a.getD (i+(d+1)) default).tm
 | 0,i,hi=>by
  have:=h i (by omega)
  unfold a6j at this
  rw [zQ (by omega)] at this
  show _≤(a.getD (i+1) default).tm
  omega
 | d+1,i,hi=>by
  have h1:=a9w h d i (by omega)
  have h2:=h (i+(d+1)) (by omega)
  unfold a6j at h2
  rw [zQ (by omega)] at h2
  rw [show i+(d+1)+1=i+(d+1+1) by omega] at h2
  omega
theorem aal {a:List Tr} {cyc:Int} (h:a4e a cyc) {i j:Nat} (hij:i < j) (hj:j < a.length):(a.getD i default).tm+2160≤(a.getD j default).tm:=by
 have:=a9w h (j - i - 1) i (by omega)
 rwa [show i+(j - i - 1+1)=j by omega] at this
theorem a6p {a:List Tr} {cyc:Int} (h:a4e a cyc):∀ i j,i < j→j < a.length→(a.getD i default).tm < (a.getD j default).tm:=fun _ _ hij hj=>by
 have:=aal h hij hj
 omega
theorem a3y {a:List Tr} {cyc:Int} (h:a4e a cyc) {i:Nat} (hi:i < a.length):(a.getD i default).tm+2160≤(a.getD 0 default).tm+cyc * 1440:=by
 have h1:=h (a.length - 1) (by omega)
 unfold a6j at h1
 rw [zS (by omega)] at h1
 by_cases hl:i=a.length - 1
 ·rw [hl];omega
 have:=aal h (i:=i) (j:=a.length - 1) (by omega) (by omega)
 omega
theorem aid {a b:List Tr} {cyc:Int} (ha:PwT a) (hb:PwT b) (h:a.Perm b) (hg:a4e a cyc):a=b:=by
 refine List.Perm.eq_of_pairwise (le:=fun a b:Tr=>a.tm≤b.tm) (fun x y hx hy h1 h2=>?_) ha hb h
 have hy:=h.mem_iff.2 hy
 obtain ⟨i,hi,rfl⟩:=zY.1 hx
 obtain ⟨j,hj,rfl⟩:=zY.1 hy
 rcases vO i j with h3 | rfl | h3
 ·have:=a6p hg i j h3 hj
  rw [getD_at hi,getD_at hj] at this
  omega
 ·rfl
 have:=a6p hg j i h3 hi
 rw [getD_at hi,getD_at hj] at this
 omega
theorem alo (z:a0w):∀ (f k:Nat) (s:Int) (m:Nat),s=a0z z.cal k→k≤m→m≤k+f→(∀ j,j < m→a0z z.cal j < a0s z)→a0s z≤a0z z.cal m→kTa z f k s=m
 | 0,k,s,m,_,h1,h2,_,_=>by unfold kTa;omega
 | f+1,k,s,m,hs,h1,h2,h3,h4=>by
  unfold kTa
  by_cases hk:k=m
  ·rw [zQ (by rw [hs,hk];exact h4)]
   exact hk
  ·rw [zS (by rw [hs];exact Int.not_le.2 (h3 k (by omega)))]
   exact alo z f (k+1) _ m (by rw [hs];rfl) (by omega) (by omega) h3 h4
theorem ami {z:a0w} (hc:z.cal.ok=true) {k:Nat} (h3:∀ j,j < k→a0z z.cal j < a0s z) (h4:a0s z≤a0z z.cal k):kT z=k:=by
 refine alo z _ 0 0 k rfl (xG _) ?_ h3 h4
 cases k with
 | zero=>omega
 | succ k =>
  have h5:=h3 k (by omega)
  have h6:=(a1v hc k).1
  omega
theorem afk {z:a0w} (hz:Zok z) {ys:List Tr} (h:al5 z ys):(a4e ys (a0s z)↔a4e (ysT z) (a0s z))∧(a4e ys (a0s z)→ys=ysT z):=by
 rcases hz.yl with h0 | h2
 ·have e:ysT z=ys:=by rw [h.emp h0];unfold ysT;rw [zQ h0]
  rw [e]
  exact ⟨Iff.rfl,fun _=>rfl⟩
 obtain ⟨k,h3,h4,hp⟩:=h.perm h2
 have e:ysT z=a4t (raw z k):=by unfold ysT;rw [zS (by omega),ami hz.cal h3 h4]
 have hq:ys.Perm (ysT z):=by rw [e];exact hp.trans (a5i _).symm
 have h5:=aic.2 h.sorted
 have h6:PwT (ysT z):=by rw [e];exact ac1 _
 exact ⟨akv (aqe h5 h6 hq),fun hg=>aid h5 h6 hq hg⟩
theorem afx (z:a0w):∀ (f k:Nat) (s:Int),s=a0z z.cal k→(∀ j,j < k→a0z z.cal j < a0s z)→a0s z≤a0z z.cal (k+f)→(∀ j,j < kTa z f k s→a0z z.cal j < a0s z)∧a0s z≤a0z z.cal (kTa z f k s)
 | 0,k,s,_,h1,h2=>⟨h1,h2⟩
 | f+1,k,s,hs,h1,h2=>by
  unfold kTa
  by_cases hk:a0s z≤s
  ·rw [zQ hk]
   exact ⟨h1,by rw [← hs];exact hk⟩
  ·rw [zS hk]
   refine afx z f (k+1) _ (by rw [hs];rfl) (fun j hj=>?_) (by rw [show k+1+f=k+(f+1) by omega];exact h2)
   rcases wL (Nat.le_of_lt_succ hj) with h | rfl
   ·exact h1 j h
   ·rw [← hs];omega
theorem aiz {z:a0w} (hc:z.cal.ok=true):(∀ j,j < kT z→a0z z.cal j < a0s z)∧a0s z≤a0z z.cal (kT z):=by
 refine afx z _ 0 0 rfl (fun j hj=>by omega) ?_
 have:=(a1v hc (0+(a0s z).toNat)).1
 omega
theorem ag7 {z:a0w} (hc:z.cal.ok=true):1≤a0s z∧a0s z≤1836800:=by
 have h0:=hc
 simp only [Cal.ok,zN,zM] at h0
 obtain ⟨n,hn⟩:=Option.isSome_iff_exists.1 h0.2.2
 have h1:=aa8 hn (by omega) (by omega)
 have h2:z.cal.a5b=n:=by unfold Cal.a5b;rw [hn];rfl
 have h3:=a1v hc n
 have h4:z.cal.days=a0z z.cal n:=by unfold Cal.days;rw [h2]
 unfold a0s
 rw [h4]
 split
 ·omega
 split<;>omega
theorem aom {z:a0w} (hc:z.cal.ok=true):kT z≤1836801:=by
 have h:=(aiz hc).1
 have h1:=ag7 (z:=z) hc
 rcases zU (kT z) 1836802 with h2 | h2
 ·omega
 have h3:=h 1836801 (by omega)
 have h4:=(a1v hc 1836801).1
 omega
theorem am4 {z:a0w} (hz:Zok z) {x:Tr} (hx:x∈ysT z):(-2199023255552≤x.tm∧x.tm≤2199023255552)∧-1080≤x.off∧x.off≤1080:=by
 unfold ysT at hx
 rcases hz.yl with h | h
 ·rw [zQ h] at hx
  cases hx
 rw [zS (by omega)] at hx
 exact afp hz h (show kT z≤2000001 by have:=aom hz.cal;omega) x ((a5i _).mem_iff.1 hx)
theorem ala {z:a0w} (hz:Zok z):(ysT z).length≤10000000:=by
 unfold ysT
 split
 ·simp
 rw [(a5i _).length_eq]
 have:=a7e z (kT z)
 have:=aom hz.cal
 omega
theorem a2h {l:List Tr} {i:Nat} (h:i < l.length):l.getD i default∈l:=by rw [getD_at h];exact yT h
structure a9d (z:a0w) (i:Nat):Prop where
 o0 : -1080≤(z.trans.getD i default).off
 o1:(z.trans.getD i default).off≤1080
 a0 : -2251799813685248≤(z.trans.getD i default).tm
 a1:(z.trans.getD i default).tm≤2251799813685248
 h:(z.trans.getD i default).tm < z.hor
 g:0 < i→2160≤(z.trans.getD i default).tm - (z.trans.getD (i - 1) default).tm
structure al8 (z:a0w):Prop where
 t:z.trans.length≤512
 cal:z.cal.ok=true
 s0 : -1080≤z.start
 s1:z.start≤1080
 h0 : -2251799813685248≤z.hor
 h1:z.hor≤2251799813685248
structure aea (z:a0w):Prop where
 hd:al8 z
 tr:∀ i,i < z.trans.length→a9d z i
 yl:z.a0b.length=0∨z.a0b.length=2
 yr:∀ i,i < z.a0b.length→YR.Ok z.cal (z.a0b.getD i default)
theorem aea.zok {z:a0w} (h:aea z):Zok z:=⟨h.hd.cal,h.yl,h.yr⟩
structure Good (z:a0w):Prop where
 a:aea z
 gap:a4e (ysT z) (a0s z)
 j:0 < z.trans.length→∀ x,a2s z (ysT z) (a0s z) z.hor 0=some x→2160≤x.tm - (z.trans.getD (z.trans.length - 1) default).tm
theorem abz {z:a0w} (h:∀ i,i < z.trans.length→a9d z i):∀ (d i:Nat),i+(d+1) < z.trans.length→(z.trans.getD i default).tm+2160≤(z.trans.getD (i+(d+1)) default).tm
 | 0,i,hi=>by
  have:=(h (i+1) (by omega)).g (by omega)
  rw [show i+1 - 1=i by omega] at this
  show _≤(z.trans.getD (i+1) default).tm
  omega
 | d+1,i,hi=>by
  have h1:=abz h d i (by omega)
  have h2:=(h (i+(d+1)+1) (by omega)).g (by omega)
  rw [show i+(d+1)+1 - 1=i+(d+1) by omega,show i+(d+1)+1=i+(d+1+1) by omega] at h2
  omega
theorem aea.ck {z:a0w} (h:aea z) (hg:a4e (ysT z) (a0s z)):Ck z (ysT z) (a0s z) where
 c0:=by have:=ag7 h.hd.cal;omega
 c1:=by have:=ag7 h.hd.cal;omega
 sy:=a6p hg
 st i j hij hj:=by
  have:=abz h.tr (j - i - 1) i (by omega)
  rw [show i+(j - i - 1+1)=j by omega] at this
  omega
 ly:=ala h.zok
 lt:=h.hd.t
 by_ i hi:=(am4 h.zok (a2h hi)).1
 bt i hi:=⟨(h.tr i hi).a0,(h.tr i hi).a1⟩
 oy i hi:=(am4 h.zok (a2h hi)).2
 ot i hi:=⟨(h.tr i hi).o0,(h.tr i hi).o1⟩
 h0:=h.hd.h0
 h1:=h.hd.h1
 s0:=h.hd.s0
 s1:=h.hd.s1
theorem af1 {z:a0w} {ys:List Tr} {cyc:Int} (hk:Ck z ys cyc) {x:Tr} (h:a2s z ys cyc z.hor 0=some x) : -2251799813685248≤x.tm∧x.tm≤4611686018427387904:=by
 unfold a2s at h
 split at h
 ·rename_i hl
  cases h
  have hm:(a3w z z.hor).getD 0 default∈a3w z z.hor:=a2h hl
  obtain ⟨i,hi,e⟩:=zY.1 (uJ.1 hm).1
  have:=hk.bt i hi
  rw [getD_at hi,e] at this
  omega
 split at h
 ·cases h
 rename_i hy
 cases h
 have hmx:a5l z.hor z.hor=z.hor:=by unfold a5l;split<;>rfl
 rw [Nat.zero_sub,uG,hmx]
 have h1:=a2d (y0:=(ys.getD 0 default).tm) (t:=z.hor) hk.c0
 have h2:=a4r (y0:=(ys.getD 0 default).tm) (t:=z.hor) hk.c0
 have h3:=a5m ys cyc (turns (ys.getD 0 default).tm z.hor cyc) z.hor
 have h4:=hk.by_ 0 (by omega)
 have h5:=hk.h0
 have h6:=hk.h1
 have h7:=hk.c1
 have h8:=hk.c0
 generalize turns (ys.getD 0 default).tm z.hor cyc=r at *
 generalize a2y ys cyc r z.hor=p at *
 have hr:r * (cyc * 1440)≤4503599627370496+4503599627370496:=by split at h2<;>omega
 have hr0:0≤r * (cyc * 1440):=xX h1 (by omega)
 have h9:=hk.by_ (p % ys.length) (wJ _ (by omega))
 have hq:p / ys.length≤1:=by
  have:=Nat.div_le_div_right (c:=ys.length) h3
  rwa [Nat.div_self (by omega)] at this
 have e:(yAt ys cyc r p).tm=(ys.getD (p % ys.length) default).tm+(r+((p / ys.length:Nat):Int)) * (cyc * 1440):=rfl
 generalize p / ys.length=q at *
 have e2:(r+((q:Nat):Int)) * (cyc * 1440)=r * (cyc * 1440)+((q:Nat):Int) * (cyc * 1440):=wI _ _ _
 have hq2:((q:Nat):Int) * (cyc * 1440)≤1 * (10000000 * 1440):=Int.mul_le_mul (by omega) (by omega) (by omega) (by omega)
 have hq3:0≤((q:Nat):Int) * (cyc * 1440):=xX (by omega) (by omega)
 omega
theorem Good.ck {z:a0w} (h:Good z):Ck z (ysT z) (a0s z):=h.a.ck h.gap
end Zn
namespace Zn
noncomputable def a3o (z:a0w):Bool:=@decide (Good z) (Classical.propDecidable _)
theorem a0v {z:a0w}:a3o z=true↔Good z:=by
 unfold a3o
 exact @decide_eq_true_iff _ (Classical.propDecidable _)
theorem acg {z:a0w} (h : ¬ Good z):a3o z=false:=by
 cases hb:a3o z with
 | false=>rfl
 | true=>exact absurd (a0v.1 hb) h
noncomputable def a2l (z:a0w):Int:=if 512 < z.trans.length then 2 else if a3o z=true then 0 else 1
def a2u (z:a0w) (t:Int):Int:=a5a z (ysT z) (a0s z) t
def ab1 (z:a0w) (t:Int):Option Tr:=lastT z (ysT z) (a0s z) t
noncomputable def ac8 (z:a0w) (t:Int):Int×Int:=if a3o z=true∧-2251799813685248≤t∧t≤2251799813685248 then (a2u z t,0) else (0,1)
noncomputable def aip (z:a0w) (t:Int):Int×Int:=if a3o z=true∧-2251799813685248≤t∧t≤2251799813685248 then (t+a2u z t,0) else (0,1)
theorem abn {z:a0w} {ys:List Tr} {cyc:Int} (hk:Ck z ys cyc) (t:Int) : -1080≤a5a z ys cyc t∧a5a z ys cyc t≤1080:=by
 have hm:∀ (l:List Tr) (a:Option Tr),(∀ i,i < l.length→-1080≤(l.getD i default).off∧(l.getD i default).off≤1080)→(∀ y,a=some y→-1080≤y.off∧y.off≤1080)→∀ u y,a4i l u a=some y→-1080≤y.off∧y.off≤1080:=by
  intro l
  induction l with
  | nil=>intro a _ ha u y hy;exact ha y hy
  | cons x xs ih =>
   intro a hl ha u y hy;unfold a4i at hy;split at hy
   ·refine ih (some x) (fun i hi=>?_) (fun y hy=>?_) u y hy
    ·have:=hl (i+1) (by simpa using hi)
     simpa using this
    cases hy;have:=hl 0 (by simp);simpa using this
   exact ha y hy
 have hl:∀ y,lastT z ys cyc t=some y→-1080≤y.off∧y.off≤1080:=by
  intro y hy
  unfold lastT at hy
  split at hy
  ·rename_i x hx
   cases hy;unfold a6a at hx;split at hx
   ·split at hx
    ·rename_i x2 hx2
     have:=hm ys none hk.oy (fun y h=>by cases h) _ _ hx2;split at hx
     ·cases hx;exact this
     cases hx
    cases hx
   cases hx
  exact hm z.trans none hk.ot (fun y h=>by cases h) _ _ hy
 unfold a5a
 split
 ·rename_i x hx
  exact hl x hx
 exact ⟨hk.s0,hk.s1⟩
end Zn
namespace Go.Proofs.YtppjleebbjipbaaGreat
open Go.RowKit Go.Shelf
def a3z (W:World) (E:Nat→Prop) (z:Zn.a0w) (e:Ending) (w':World):Prop :=
 (∃ p,e=.returned (.tuple #[.pointer p,.bool (Zn.a3o z)])∧(Zn.a3o z=true→∃ g,p=some ⟨g,0,none⟩∧a8j w' (fun k=>E k∨W.heap.size≤k) g z (Zn.ysT z) (Zn.a0s z)∧W.heap.size≤g))∧Below W W w'
def OpenSpec:Prop:=∀ {W:World} {z:Zn.a0w} {mv rv tv yv:Value} (_:a1q W z mv rv tv yv) (_:z.cal.rules.length < 9223372036854775808) (_:z.cal.a0g.length < 9223372036854775808) {E:Nat→Prop} (_:InD E tv z.trans),
 Calls Tryz.prog 54 #[.agg #[z.cal.a08,mv,z.cal.a0l,rv,z.start,tv,z.hor,yv]] W (a3z W E z)
theorem InD.all {v:Value} {l:List Zn.Tr}:InD (fun _=>True) v l:=fun _ _ _ _ _ _=>trivial
end Go.Proofs.YtppjleebbjipbaaGreat
