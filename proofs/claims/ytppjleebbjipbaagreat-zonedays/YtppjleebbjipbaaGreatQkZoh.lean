/-
  kalendsref13.insert.
-/
import Derived.Test.YtppjleebbjipbaaGreatQkZpa
set_option linter.all false
namespace Zn
theorem aev (x:Tr):∀ (l:List Tr) (k:Nat),k≤l.length→(∀ i,i < k→(l.getD i default).tm≤x.tm)→(∀ i,k≤i→i < l.length→x.tm < (l.getD i default).tm)→acd x l=l.take k++x :: l.drop k
 | [],k,hk,_,_=>by
  have:k=0:=by simpa using hk
  subst this
  rfl
 | y :: ys,0,_,_,h2=>by
  have:=h2 0 (zD _) (by simp)
  unfold acd
  rw [zQ (by simpa using this)]
  rfl
 | y :: ys,k+1,hk,h1,h2=>by
  have:=h1 0 (by omega)
  unfold acd
  rw [zS (by simp at this;omega),aev x ys k (by simpa using hk) (fun i hi=>by simpa using h1 (i+1) (by omega)) (fun i h3 h4=>by simpa using h2 (i+1) (by omega) (by simpa using h4))]
  rfl
def a6u (l:List Tr) (t:Tr) (k:Nat):List Tr:=l.take k++t :: l.drop k
theorem acf (l:List Tr) (t:Tr) {k:Nat} (hk:k≤l.length):(a6u l t k).length=l.length+1:=by
 unfold a6u
 simp
 omega
theorem amv (l:List Tr) (t:Tr) {k:Nat} (hk:k≤l.length):(a6u l t k).getD k default=t:=by
 unfold a6u
 rw [zB,yZ (by rw [wR];omega),wR,Nat.min_eq_left hk,vC]
 rfl
theorem akr (l:List Tr) (t:Tr) {k i:Nat} (hk:k≤l.length) (hi:i < k):(a6u l t k).getD i default=l.getD i default:=by
 unfold a6u
 rw [zB,zB,xF (by simp;omega),xQ,zQ hi]
theorem aj3 (l:List Tr) (t:Tr) {k:Nat} (h0:0 < k) (hk:k≤l.length):((a6u l t k).set k (l.getD (k - 1) default)).set (k - 1) t=a6u l t (k - 1):=by
 obtain ⟨j,rfl⟩ : ∃ j,k=j+1:=⟨k - 1,by omega⟩
 have hj:j < l.length:=by omega
 rw [Nat.add_sub_cancel]
 have e1:l.take (j+1)=l.take j ++ [l.getD j default]:=by rw [List.take_succ_eq_append_getElem hj,getD_at hj]
 have e2:l.drop j=l.getD j default :: l.drop (j+1):=by rw [uC hj,getD_at hj]
 have hlt:(l.take j).length=j:=by simp;omega
 unfold a6u
 rw [e1,e2,List.append_assoc,List.set_append_right _ _ (by rw [hlt];omega),hlt,show j+1 - j=1 by omega,List.set_append_right _ _ (by rw [hlt];omega),hlt,vC]
 rfl
end Zn
namespace Go.Proofs.YtppjleebbjipbaaGreat
open Go.RowKit Go.Shelf
set_option maxRecDepth 20000
set_option maxHeartbeats 8000000
structure a9e (g:Nat) (w w':World):Prop where
 os:w'.os=w.os
 tape:w'.tape=w.tape
 output:w'.output=w.output
 size:w'.heap.size=w.heap.size
 block:∀ k,k≠g→w'.heap[k]? = w.heap[k]?
theorem a9e.obj {g k:Nat} {w w':World} {o:Obj} (h:a9e g w w') (ho:obj w k=some o) (hk:k≠g):obj w' k=some o:=(h.block k hk).trans ho
theorem a1x.then {B:Nat} {S:Nat→Prop} {A W W':World} (h:a1x B S A W) (hb:Below W W W') (hB:B≤A.heap.size:=by omega):a1x B S A W' :=
 ⟨hb.os.trans h.os,hb.tape.trans h.tape,hb.output.trans h.output,yG h.size hb.size,fun k hk hn=>(hb.block k (xP hk (yG hB h.size))).trans (h.block k hk hn)⟩
theorem a1x.set {B base g:Nat} {A W W':World} (h:a1x B (fun k=>base≤k) A W) (hs:a9e g W W') (hg:base≤g):a1x B (fun k=>base≤k) A W' :=
 ⟨hs.os.trans h.os,hs.tape.trans h.tape,hs.output.trans h.output,by rw [hs.size];exact h.size,fun k hk hn=>(hs.block k (fun e=>hn (by rw [e];exact hg))).trans (h.block k hk hn)⟩
theorem afi:∀ (l:List Zn.Tr) (i:Nat) (x:Zn.Tr),i < l.length→a4g (l.set i x)=((a4g l).set (i * 2) (.int .i64 x.tm)).set (i * 2+1) (.int .i64 x.off)
 | y :: ys,0,x,_=>rfl
 | y :: ys,i+1,x,h=>by
  have:=afi ys i x (by simpa using h)
  show _ :: _ :: a4g (ys.set i x)=_
  rw [this,show (i+1) * 2=i * 2+2 by omega]
  rfl
theorem a7p {w:World} {ops:Array Oper} {rest:List Oper} {o:Oper} {a:Act} {Q:Exit→Act→World→Prop} (hgd:o.guard=none) (p v:Operand) (ho:o.op=.store 57 p v)
  (base n:Nat) (l:List Zn.Tr) (i:Nat) (x:Zn.Tr) {g c:Nat} (hown:w.ownsRow base 57 2 (.slice (some ⟨g,0,none⟩) n c) n (a4g l)) (hd:o.dst=none) (hi:i < n) (hp:a.eval p=.pointer (some ⟨g,i * 2,none⟩)) (hv:a.eval v=.agg #[x.tm,x.off])
  (h:∀ w',w'.ownsRow base 57 2 (.slice (some ⟨g,0,none⟩) n c) n (a4g (l.set i x))→a9e g w w'→wpList Tryz.prog ops Q rest (a.put o.dst undef) w'):wpList Tryz.prog ops Q (o :: rest) a w:=by
 have hl:=(a13 hown).1
 rcases hown.2 with ⟨e,_⟩ | ⟨g',c',cur,e,h1,h2,h3,h4,h5,h6⟩
 ·cases e
 cases e
 have ho2:obj w g=some (.cells cur 57 (0,0)):=h2
 have hsz:i * 2+1 < cur.size:=by rw [h5];have:=Nat.mul_le_mul_right 2 h3;omega
 refine wpList_store_mid hgd 57 p v ho g (i * 2) _ hp hv (fun j hj=>⟨?_,a0d ho2 _⟩) (by kernel_rfl) (by simp [Value.oneCell']) (h _ ⟨?_,.inr ⟨g,c,(cur.setIfInBounds (i * 2) (.int .i64 x.tm)).setIfInBounds (i * 2+1) (.int .i64 x.off),rfl,h1,?_,h3,h4,by simpa using h5,?_⟩⟩ ⟨rfl,rfl,rfl,by simp [World.setCells],fun k hk=>?_⟩)
 ·have hj2:j < 2:=hj
  rw [a02 ho2]
  rw [zT (by omega)]
  rfl
 ·rw [a9f,uK,hl]
 ·show ((w.setCell ⟨g,i * 2,none⟩ (.int .i64 x.tm)).setCell ⟨g,i * 2+1,none⟩ (.int .i64 x.off)).heap[g]? = _
  have e1:obj (w.setCell ⟨g,i * 2,none⟩ (.int .i64 x.tm)) g=some (.cells (cur.setIfInBounds (i * 2) (.int .i64 x.tm)) 57 (0,0)):=by rw [a0c,ho2];rfl
  have e2:obj ((w.setCell ⟨g,i * 2,none⟩ (.int .i64 x.tm)).setCell ⟨g,i * 2+1,none⟩ (.int .i64 x.off)) g=some (.cells ((cur.setIfInBounds (i * 2) (.int .i64 x.tm)).setIfInBounds (i * 2+1) (.int .i64 x.off)) 57 (0,0)):=by rw [a0c,e1];rfl
  exact e2
 ·rw [afi l i x (by omega),← h6]
  simp only [Array.toList_setIfInBounds,List.take_set]
 exact (zO _ _ _ _ hk).trans (zO _ _ _ _ hk)
theorem adr {W:World} {base:Nat} {v:Value} {l:List Zn.Tr} {t:Zn.Tr} (how:W.ownsRow base 57 2 v l.length (a4g l)) (hs:Zn.PwT l) (hl:l.length≤10000000) (hb:base≤W.heap.size) :
  Calls Tryz.prog 83 #[v,.agg #[t.tm,t.off]] W fun e w' => ∃ v',e=.returned v'∧w'.ownsRow base 57 2 v' (l.length+1) (a4g (Zn.acd t l))∧a1x W.heap.size (fun k=>base≤k) W w':=by
 have hon:ones #[t.tm,t.off]=true:=by simp [ones,a0n]
 obtain ⟨va,vc,hve⟩:=(a13 how).2.2.2
 subst hve
 have A1:=((zC W.heap.size W).alloc (zD _) (.cells #[t.tm,t.off] 57))
 have A2:=A1.alloc A1.size (.cells #[t.tm,t.off] 57)
 have ahg:=a0m how A2
 have n2:obj ((W.alloc (.cells #[t.tm,t.off] 57)).alloc (.cells #[t.tm,t.off] 57)) (W.heap.size+1)=some (.cells #[t.tm,t.off] 57 (0,0)):=a05 _ _ _ (by simp)
 have hX2:a1x W.heap.size (fun k=>base≤k) W ((W.alloc (.cells #[t.tm,t.off] 57)).alloc (.cells #[t.tm,t.off] 57)):=a1x.of A2 _
 have hz2:base≤((W.alloc (.cells #[t.tm,t.off] 57)).alloc (.cells #[t.tm,t.off] 57)).heap.size:=by simp;omega
 have HS:=zA (Zn.aic.1 hs)
 have HLB:=zA hl
 clear how hs hl A1 A2
 go_enter Tryz.func83,Tryz.ntmps83
 obtain ⟨n,hn⟩ : ∃ n,n=l.length:=⟨_,rfl⟩
 have HN:=zA hn
 rw [← hn] at ahg ⊢
 have hn9:n≤10000000:=by rw [hn];exact HLB.out
 clear hn
 repeat' ((go_not_at_region 2);(first | (at_builtin;(refine a2m rfl _ _ rfl base n _ l rfl ahg (W.heap.size+1) t rfl n2 (by omega) hz2 ?_);intro v5 W5 a3p hg5;have hX5:a1x W.heap.size (fun k=>base≤k) W W5:=⟨hg5.os.trans hX2.os,hg5.tape.trans hX2.tape,hg5.output.trans hX2.output,yG hX2.size hg5.size,fun k hk hn=>(hg5.block k (by simp;omega) (fun e=>hn (a1p ahg e.symm))).trans (hX2.block k hk hn)⟩;dsimp only)|go_skip|go_guarded|go_step|go_upon))
 obtain ⟨g,c,hv5⟩:=(a13 a3p).2.2.1 (by simp)
 subst hv5
 have hgb:=a3p.lt g rfl
 have wn1:IntKind.wrap .i64 (((n:Nat):Int)+1 - 1)=(n:Int):=by rw [wrap_in]<;>omega
 have e0:l ++ [t]=Zn.a6u l t n:=by unfold Zn.a6u;rw [HN.out];simp
 rw [e0] at a3p
 clear e0 ahg n2 hX2 hz2
 repeat'(first|go_skip|go_guarded|go_step|go_upon)
 go_loopw [6] (fun i wr => ∃ k:Nat,k≤n∧i=.int .i64 k∧wr.ownsRow base 57 2 (.slice (some ⟨g,0,none⟩) (n+1) c) (n+1) (a4g (Zn.a6u l t k))∧(∀ j,k≤j→j < l.length→t.tm < (l.getD j default).tm)∧a1x W.heap.size (fun k=>base≤k) W wr) (fun i _=>(intOf i).toNat)
 case atStart=>exact ⟨n,zD _,by first | rfl | simp,a3p,fun j h1 h2=>by rw [← HN.out] at h2;omega,hX5⟩
 clear a3p hX5
 obtain ⟨k,hk,rfl,how,hgt,hX⟩:=hrel
 have HGT:=zA hgt
 have hkl:k≤l.length:=by rw [← HN.out];exact hk
 obtain ⟨ao,c',hsv,hT⟩:=a7w how
 obtain ⟨b',row,T,hab,og,hq⟩:=hT (by rw [Zn.acf l t hkl];omega)
 obtain rfl:g=b':=by rw [hab] at hsv;injection hsv with e;injection e with e;injection e
 obtain ⟨zt,kt⟩:=hq k (by rw [Zn.acf l t hkl];omega)
 rw [Zn.amv l t hkl] at kt
 have HKT:=zA kt
 have lg:=a09 og
 have et0:=a0y 0 kt (by simp [a7c])
 have hXz:=hX.size
 clear hgt hsv hab hT
 simp only [yI] at zt kt et0
 replace et0:row[k * 2]? = some (.int .i64 t.tm):=et0
 replace kt:row.extract (k * 2) (k * 2+2)=#[.int .i64 t.tm,.int .i64 t.off]:=kt
 by_cases h0:0 < k;rotate_left
 ·have hk0:k=0:=by omega
  have HFI:Hid (Zn.acd t l=Zn.a6u l t k):=zA (Zn.aev t l k hkl (fun i hi=>by omega) HGT.out)
  clear hk0
  repeat' ((go_not_at_region 3);(first|go_skip|go_guarded|go_step|go_upon))
  refine a0k 16 [([],fun v _=>v=.int .i64 (k:Nat)),([0],fun v _=>v=.bool false),([1],fun v _=>v=.bool false),([2],fun v _=>v=undef),([2],fun v _=>v=undef),([4,2],fun v _=>v=undef),([3,5,2],fun v _=>v=undef),([6,2],fun v _=>v=undef),([7,2],fun v _=>v=undef),([2],fun v _=>v=undef),([2],fun v _=>v=undef),([9,10,2],fun v _=>v=undef),([11,2],fun v _=>v=undef),([12,2],fun v _=>v=undef),([8,13,2],fun v _=>v=undef),
    ([2,14],fun v _=>v=.bool false)] (by kernel_rfl) (by kernel_rfl) (by kernel_rfl) ?st ?ob ?_
  case st => intro k v W1 W2 h hb;rcases k with _|_|_|_|_|_|_|_|_|_|_|_|_|_|_|_|k<;>first | exact h | trivial
  case ob => and_intros<;>first|exact ⟨⟩|(intro vs Wq hW hk;(try simp only [knows,Spec.at',↓zH,↓zG,yL] at hk);simp only [Spec.at',↓zH,↓zG,a00,a03,yy0,yy1,yy2,yy3];(try simp only [hk]);first | ((repeat'(first|go_skip|go_guarded|go_step|go_upon));exact a01 _ rfl (by go_simp) bR rfl))
  intro vs W2 hW2 hk2
  have v15:vs 15=.bool false:=hk2 15 (by decide)
  clear hk2
  dsimp only [a1d,List.take,List.drop]
  simp only [Act.put,zF,zI,zJ]
  rw [v15]
  generalize vs 0=p0,vs 1=p1,vs 2=p2,vs 3=p3,vs 4=p4,vs 5=p5,vs 6=p6,vs 7=p7,vs 8=p8,vs 9=p9,vs 10=p10,vs 11=p11,vs 12=p12,vs 13=p13,vs 14=p14
  clear v15
  have ahg:=a0m how hW2
  have hX2:=hX.then hW2
  repeat'(first|go_skip|go_guarded|go_step|go_upon)
  go_ret
  exact ⟨_,rfl,by rw [HFI.out];exact ahg,hX2⟩
 have hy:=Zn.akr l t hkl (show k - 1 < k by omega)
 obtain ⟨zy,ky⟩:=hq (k - 1) (by rw [Zn.acf l t hkl];omega)
 rw [hy] at ky
 have as1:=zA (Zn.aj3 l t h0 hkl)
 obtain ⟨y,hyy⟩ : ∃ y,l.getD (k - 1) default=y:=⟨_,rfl⟩
 rw [hyy] at ky as1
 have HSW:Hid (((Zn.a6u l t k).set k y).set (k - 1) t=Zn.a6u l t (k - 1)):=as1
 have HYY:=zA hyy
 have ey0:=a0y 0 ky (by simp [a7c])
 simp only [yI] at zy ky ey0
 replace ey0:row[(k - 1) * 2]? = some (.int .i64 y.tm):=ey0
 replace ky:row.extract ((k - 1) * 2) ((k - 1) * 2+2)=#[.int .i64 y.tm,.int .i64 y.off]:=ky
 have wk1:IntKind.wrap .i64 ((k:Int) - 1)=((k - 1:Nat):Int):=by rw [wrap_in]<;>omega
 have i1:k < n+1:=by omega
 have i2:k - 1 < n+1:=by omega
 have i3 : ¬ ((k - 1:Nat):Int) < 0:=by omega
 clear hy hyy hq as1
 by_cases ht:t.tm < y.tm;rotate_left
 ·have HFI:Hid (Zn.acd t l=Zn.a6u l t k):=zA (Zn.aev t l k hkl (fun i hi=>by
   have:=HS.out i (k - 1) (by omega) (by omega);rw [HYY.out] at this
   omega) HGT.out)
  repeat' ((go_not_at_region 3);(first|go_skip|go_guarded|go_step|go_upon))
  refine a0k 16 [([],fun v _=>v=.int .i64 (k:Nat)),([0],fun v _=>v=.bool true),([1],fun v _=>v=.bool true),([2],fun v _=>v=.slice (some ⟨g,0,none⟩) (n+1) c),([2],fun v _=>v=.int .i64 (k:Nat)),([4,2],fun v _=>v=.int .i64 ((k - 1:Nat):Int)),([3,5,2],fun v _=>v=.pointer (some ⟨g,(k - 1) * 2,none⟩)),([6,2],fun v _=>v=.pointer (some ⟨g,(k - 1) * 2,none⟩)),([7,2],fun v _=>v=.int .i64 y.tm),([2],fun v _=>v=.slice (some ⟨g,0,none⟩) (n+1) c),([2],fun v _=>v=.int .i64 (k:Nat)),([9,10,2],fun v _=>v=.pointer (some ⟨g,k * 2,none⟩)),([11,2],fun v _=>v=.pointer (some ⟨g,k * 2,none⟩)),([12,2],fun v _=>v=.int .i64 t.tm),([8,13,2],fun v _=>v=.bool false),
    ([2,14],fun v _=>v=.bool false)] (by kernel_rfl) (by kernel_rfl) (by kernel_rfl) ?st ?ob ?tl
  case st => intro k v W1 W2 h hb;rcases k with _|_|_|_|_|_|_|_|_|_|_|_|_|_|_|_|k<;>first | exact h | trivial
  case ob => and_intros<;>first|exact ⟨⟩|(intro vs Wq hW hk;(have q0:=(a02 (a04 og hW lg) ((k - 1) * 2)).trans ey0);(have q1:=(a02 (a04 og hW lg) (k * 2)).trans et0);(try simp only [knows,Spec.at',↓zH,↓zG,yL] at hk);simp only [Spec.at',↓zH,↓zG,a00,a03,yy0,yy1,yy2,yy3];(try simp only [hk]);first | ((repeat'(first|go_skip|go_guarded|go_step|go_upon));exact a01 _ rfl (by go_simp) bR rfl))
  case tl =>
   intro vs W2 hW2 hk2;have v15:vs 15=.bool false:=hk2 15 (by decide);clear hk2;dsimp only [a1d,List.take,List.drop];simp only [Act.put,zF,zI,zJ];rw [v15];generalize vs 0=p0,vs 1=p1,vs 2=p2,vs 3=p3,vs 4=p4,vs 5=p5,vs 6=p6,vs 7=p7,vs 8=p8,vs 9=p9,vs 10=p10,vs 11=p11,vs 12=p12,vs 13=p13,vs 14=p14;clear v15;have ahg:=a0m how hW2
   have hX2:=hX.then hW2
   repeat'(first|go_skip|go_guarded|go_step|go_upon)
   go_ret;exact ⟨_,rfl,by rw [HFI.out];exact ahg,hX2⟩
 have HSL:Hid (∀ j,k - 1≤j→j < l.length→t.tm < (l.getD j default).tm):=zA fun j h1 h2=>by
  rcases zU j k with h | h
  ·rw [show j=k - 1 by omega,HYY.out];exact ht
  ·exact HGT.out j h h2
 repeat' ((go_not_at_region 3);(first|go_skip|go_guarded|go_step|go_upon))
 refine a0k 16 [([],fun v _=>v=.int .i64 (k:Nat)),([0],fun v _=>v=.bool true),([1],fun v _=>v=.bool true),([2],fun v _=>v=.slice (some ⟨g,0,none⟩) (n+1) c),([2],fun v _=>v=.int .i64 (k:Nat)),([4,2],fun v _=>v=.int .i64 ((k - 1:Nat):Int)),([3,5,2],fun v _=>v=.pointer (some ⟨g,(k - 1) * 2,none⟩)),([6,2],fun v _=>v=.pointer (some ⟨g,(k - 1) * 2,none⟩)),([7,2],fun v _=>v=.int .i64 y.tm),([2],fun v _=>v=.slice (some ⟨g,0,none⟩) (n+1) c),([2],fun v _=>v=.int .i64 (k:Nat)),([9,10,2],fun v _=>v=.pointer (some ⟨g,k * 2,none⟩)),([11,2],fun v _=>v=.pointer (some ⟨g,k * 2,none⟩)),([12,2],fun v _=>v=.int .i64 t.tm),([8,13,2],fun v _=>v=.bool true),
   ([2,14],fun v _=>v=.bool true)] (by kernel_rfl) (by kernel_rfl) (by kernel_rfl) ?st ?ob ?_
 case st => intro k v W1 W2 h hb;rcases k with _|_|_|_|_|_|_|_|_|_|_|_|_|_|_|_|k<;>first | exact h | trivial
 case ob => and_intros<;>first|exact ⟨⟩|(intro vs Wq hW hk;(have q0:=(a02 (a04 og hW lg) ((k - 1) * 2)).trans ey0);(have q1:=(a02 (a04 og hW lg) (k * 2)).trans et0);(try simp only [knows,Spec.at',↓zH,↓zG,yL] at hk);simp only [Spec.at',↓zH,↓zG,a00,a03,yy0,yy1,yy2,yy3];(try simp only [hk]);first | ((repeat'(first|go_skip|go_guarded|go_step|go_upon));exact a01 _ rfl (by go_simp) bR rfl))
 intro vs W2 hW2 hk2
 have v15:vs 15=.bool true:=hk2 15 (by decide)
 clear hk2
 dsimp only [a1d,List.take,List.drop]
 simp only [Act.put,zF,zI,zJ]
 rw [v15]
 generalize vs 0=p0,vs 1=p1,vs 2=p2,vs 3=p3,vs 4=p4,vs 5=p5,vs 6=p6,vs 7=p7,vs 8=p8,vs 9=p9,vs 10=p10,vs 11=p11,vs 12=p12,vs 13=p13,vs 14=p14
 clear v15
 have ahg:=a0m how hW2
 have hX2:=hX.then hW2
 have og2:=a04 og hW2 lg
 have hon:ones #[t.tm,t.off]=true:=by simp [ones,a0n]
 have hony:ones #[y.tm,y.off]=true:=by simp [ones,a0n]
 have zt1:(k * 2+2≤row.size)=True:=xN zt
 repeat' ((go_not_at_region 6);(first|go_skip|go_guarded|go_step|go_upon))
 have A3:=(zC W2.heap.size W2).alloc (zD _) (.cells #[t.tm,t.off] 57)
 have akq:=a0m ahg A3
 have hX3:=hX2.then A3
 have n3:obj (W2.alloc (.cells #[t.tm,t.off] 57)) W2.heap.size=some (.cells #[t.tm,t.off] 57 (0,0)):=a05 _ _ _ rfl
 have og3:=a0a og2 A3
 have hgb:=akq.lt g rfl
 have l3:=a09 og2
 have zy1:((k - 1) * 2+2≤row.size)=True:=xN zy
 have hbs:base≤W2.heap.size:=by have:=hX2.size;omega
 clear how ahg hX hX2 og og2 zt1
 generalize hV3:W2.alloc (.cells #[t.tm,t.off] 57)=V3 at *
 generalize W2.heap.size=b3 at *
 clear hV3 A3
 repeat' ((go_not_at_region 7);(first | ((refine a7p rfl (.tmp 44) (.tmp 43) rfl base (n+1) _ k y akq rfl (by omega) rfl rfl ?_);intro V4 how4 hE4;dsimp only)|go_skip|go_guarded|go_step|go_upon))
 have n4:=hE4.obj n3 (by omega)
 have hX4:=hX3.set hE4 hgb.1
 have og4:=a7w how4
 clear akq hX3 og3 n3
 repeat' ((go_not_at_region 4);(first | ((refine a7p rfl (.tmp 49) (.tmp 48) rfl base (n+1) _ (k - 1) t how4 rfl (by omega) rfl rfl ?_);intro V5 alq hE5;dsimp only)|go_skip|go_guarded|go_step|go_upon))
 have hX5:=hX4.set hE5 hgb.1
 rw [HSW.out] at alq
 repeat'(first|go_skip|go_guarded|go_step|go_upon)
 exact ⟨⟨k - 1,by omega,by go_num,alq,HSL.out,hX5⟩,by simp [intOf];omega⟩
end Go.Proofs.YtppjleebbjipbaaGreat
