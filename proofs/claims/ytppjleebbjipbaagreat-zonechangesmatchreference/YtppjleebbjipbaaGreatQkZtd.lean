/-
  span.sweep with an empty second list.
-/
import Derived.Test.YtppjleebbjipbaaGreatQkZta
import Derived.Test.YtppjleebbjipbaaGreatQkZok
import Derived.Laws.AppendOwnNone
import Derived.Lib.AppendZerosOnto
set_option linter.all false
namespace Zn
def swN (B:List Bd):Nat→Int
 | 0=>0
 | i+1=>swN B i+(B.getD i default).by_
def swStep (B:List Bd) (o:List Tr) (i:Nat):List Tr :=
 if i+1=B.length∨(B.getD (i+1) default).at_=(B.getD i default).at_∨¬ 0 < swN B (i+1) then o
 else if 0 < o.length∧(o.getD (o.length - 1) default).off=(B.getD i default).at_ then o.set (o.length - 1) ⟨(o.getD (o.length - 1) default).tm,(B.getD (i+1) default).at_⟩
 else o ++ [⟨(B.getD i default).at_,(B.getD (i+1) default).at_⟩]
def swL (B:List Bd):Nat→List Tr
 | 0=>[]
 | i+1=>swStep B (swL B i) i
theorem swL_len (B:List Bd):∀ i,(swL B i).length≤i
 | 0=>by simp [swL]
 | i+1=>by
  have h:=swL_len B i
  show (swStep B (swL B i) i).length≤i+1
  unfold swStep
  split
  ·omega
  ·split
   ·rw [uK];omega
   ·rw [zX,List.length_singleton];omega
theorem bdsOf_mem {l:List Tr} {x:Bd} (h:x∈bdsOf l) : ∃ a y,x=⟨a,0,y⟩∧(y=1∨y = -1):=by
 unfold bdsOf at h
 rw [List.mem_flatMap] at h
 obtain ⟨s,_,h⟩:=h
 split at h
 ·simp only [yN,xE,or_false] at h
  rcases h with rfl | rfl
  ·exact ⟨_,_,rfl,.inl rfl⟩
  exact ⟨_,_,rfl,.inr rfl⟩
 cases h
theorem swN_le {B:List Bd} (h:∀ i,i < B.length→∃ a y,B.getD i default=⟨a,0,y⟩∧(y=1∨y = -1)):∀ i,i≤B.length→-(i:Int)≤swN B i∧swN B i≤i
 | 0,_=>by simp [swN]
 | i+1,hi=>by
  have:=swN_le h i (by omega)
  obtain ⟨a,y,e,hy⟩:=h i (by omega)
  show -((i+1:Nat):Int)≤swN B i+(B.getD i default).by_∧swN B i+(B.getD i default).by_≤((i+1:Nat):Int)
  rw [e]
  show -((i+1:Nat):Int)≤swN B i+y∧swN B i+y≤((i+1:Nat):Int)
  omega
end Zn
namespace Go.Proofs.YtppjleebbjipbaaGreat
open Go.RowKit Go.Shelf
set_option maxRecDepth 20000
set_option maxHeartbeats 8000000
theorem valT_off:∀ (L:List Zn.Tr) (k:Nat) (z:Zn.Tr) (u:Int),k < L.length→L.getD k default=z→a4g (L.set k ⟨z.tm,u⟩)=(a4g L).set (k * 2+1) (.int .i64 u)
 | t :: L,0,z,u,_,e=>by
  have e:t=z:=e
  subst e
  rfl
 | t :: L,k+1,z,u,h,e=>by
  have q:=valT_off L k z u (by simpa using h) (by simpa using e)
  rw [show (k+1) * 2+1=(k * 2+1)+1+1 by omega]
  show a4g (t :: L.set k ⟨z.tm,u⟩)=_
  simp only [a4g,zI,q]
theorem owns_at {w:World} {base T z g n c:Nat} {xs:List Value} (h:w.ownsRow base T z (.slice (some ⟨g,0,none⟩) n c) n xs) (i:Nat) (u:Value) (hi:xs[i]? = some u):w.cell? ⟨g,i,none⟩=some u:=by
 have:=h.cells (g:=g) rfl i u hi
 by_cases h0:i=0
 ·subst h0;simpa [Addr.add] using this
 simpa [Addr.add,h0] using this
theorem owns_free {w:World} {base T z g n c:Nat} {xs:List Value} (h:w.ownsRow base T z (.slice (some ⟨g,0,none⟩) n c) n xs) (i:Nat):w.frozen? ⟨g,i,none⟩=false:=by
 rcases h.2 with ⟨e,_⟩ | ⟨g',c',cur,e,h1,h2,_⟩
 ·cases e
 cases e
 exact a0d h2 i
theorem owns_cap {w:World} {base T z n c:Nat} {a:Option Addr} {xs:List Value} (h:w.ownsRow base T z (.slice a n c) n xs):n≤c:=by
 rcases h.2 with ⟨e,h0⟩ | ⟨g',c',cur,e,h1,h2,h3,_⟩
 ·omega
 cases e
 exact h3
theorem un1_calls (W:World) (b:Bool):Calls Tryz.prog 162 #[.bool b,.bool false] W fun e w'=>e=.returned (.bool b)∧Below W W w':=by
 cases b
 ·go_enter Tryz.func162,Tryz.ntmps162
  repeat'(first|go_skip|go_guarded|go_step|go_upon)
  go_ret
  exact ⟨rfl,zC _ _⟩
 go_enter Tryz.func162,Tryz.ntmps162
 repeat'(first|go_skip|go_guarded|go_step|go_upon)
 go_ret
 exact ⟨rfl,zC _ _⟩
theorem sweep_calls {W:World} {v:Value} {l:List Zn.Tr} (hv:a2b W v l) (hl:l.length≤1000000) :
  Calls Tryz.prog 186 #[v,.slice none 0 0,.func (.func 162) #[] #[]] W fun e w'=>(∃ v' B,e=.returned v'∧a2b w' v' (Zn.swL B B.length)∧B.Perm (Zn.bdsOf l)∧(B.Pairwise fun a b=>a.at_≤b.at_))∧Below W W w':=by
 have HS:=zA (bounds_calls hv hl)
 have hbl:=Zn.bdsOf_len l
 obtain ⟨ao,c,rfl,_⟩:=hv
 obtain ⟨i0,hi,hz0,hz1,hz2⟩:=amq
 go_enter Tryz.func186,Tryz.ntmps186
 repeat' (first | (go_at_call 202;((with_reducible refine ((HS.out).mono ?_)));rintro e w3 ⟨⟨v3,B,rfl,⟨ab,bc,rfl,hq⟩,hp,hs⟩,hB3⟩;have hn:B.length≤2000000:=(by have:=hp.length_eq;omega);have HQ:=zA hq;have HP:=zA hp;have HSO:=zA hs;clear hq hp hs;dsimp only) | (at_make;refine wpList_make_own _ rfl _ _ 73 rfl w3.heap.size 77 i0 _ 2 Tryz.underlying73 hi hz0 hz1 .i64 .i64 _ B.length rfl rfl rfl (by rw [hz2];omega) (by unfold maxLen;omega) (zD _) ?_;intro w4 how hgr;have B4:=(zC w3.heap.size w3).grown hgr (zD _) (fun g q=>by cases q);clear hgr;dsimp only)|go_skip|go_guarded|go_step|go_upon)
 have A5:=(zC w4.heap.size w4).alloc (zD _) (.cells #[(0:Int),(0:Int)] 229)
 have kob:obj (w4.alloc (.cells #[(0:Int),(0:Int)] 229)) w4.heap.size=some (.cells #[(0:Int),(0:Int)] 229 (0,0)):=a05 _ _ _ rfl
 have how:=a0m how A5
 have hob:=B4.size
 have hB:=B4.trans (A5.mono B4.size)
 clear A5 B4
 generalize (w4.alloc (.cells #[(0:Int),(0:Int)] 229))=w5 at *
 generalize w4.heap.size=ob at *
 have HMEM:Hid (∀ i,i < B.length→∃ a y,B.getD i default=⟨a,0,y⟩∧(y=1∨y = -1)):=zA (fun i h=>Zn.bdsOf_mem (HP.out.mem_iff.1 (by rw [zB,zK h];exact yT h)))
 go_loopw [8,21] (fun ov iv wr => ∃ i:Nat,i≤B.length∧iv=.int .i64 i∧wr.ownsRow w3.heap.size 77 2 ov (Zn.swL B i).length (a4g (Zn.swL B i))∧obj wr ob=some (.cells #[(Zn.swN B i:Int),(0:Int)] 229 (0,0))∧Below w3 w3 wr) (fun _ iv _=>((B.length:Int) - intOf iv).toNat)
 case atStart=>exact ⟨0,xG _,rfl,how,kob,hB⟩
 clear how kob hB
 obtain ⟨i,hi',rfl,how,kob,hB⟩:=hrel
 obtain ⟨la,lc,hlv⟩:=owns_sl how
 subst hlv
 have hLl:=Zn.swL_len B i
 have HSTEP:Hid (Zn.swL B (i+1)=Zn.swStep B (Zn.swL B i) i):=zA rfl
 have hnb:=Zn.swN_le HMEM.out i hi'
 have HNS:Hid (Zn.swN B (i+1)=Zn.swN B i+(B.getD i default).by_):=zA rfl
 obtain ⟨L,hL⟩ : ∃ L,Zn.swL B i=L:=⟨_,rfl⟩
 obtain ⟨n0,hn0⟩ : ∃ n0,Zn.swN B i=n0:=⟨_,rfl⟩
 by_cases hlt:i < B.length;rotate_left
 ·have i1 : ¬ (i:Int) < (B.length:Int):=by omega
  obtain rfl:i=B.length:=by omega
  have HLX:=zA hL
  rw [hL] at how ⊢
  clear hL hn0 HNS HSTEP hLl hnb
  have HT:=(afr how).2.1
  have hcap:=owns_cap how
  repeat'(first|go_skip|go_guarded|go_step|go_upon)
  go_ret
  obtain ⟨a9,c9,e9,h9⟩:=HT
  injection e9 with e91 e92 e93
  subst e91
  exact ⟨⟨_,B,rfl,by rw [HLX.out];exact ⟨_,_,rfl,h9⟩,HP.out,HSO.out⟩,hB3.trans (hB.mono hB3.size)⟩
 rw [hL] at how hLl HSTEP ⊢
 rw [hn0] at hnb HNS kob
 clear hL hn0
 have i1:(i:Int) < (B.length:Int):=by omega
 obtain ⟨bb,bo,row,T,fr,rfl,q1,q2⟩:=HQ.out (by omega)
 obtain ⟨z0,k2⟩:=q2 i hlt
 have z1:(bo+i * 3+3≤row.size)=True:=xN z0
 have kw:=a04 q1 hB (a09 q1)
 have lq:=a09 q1
 obtain ⟨j,hj⟩ : ∃ j,j=i+1:=⟨_,rfl⟩
 have wj:IntKind.wrap .i64 ((i:Int)+1)=(j:Int):=by rw [wrap_in]<;>omega
 obtain ⟨a,y,hx,hy⟩:=HMEM.out i hlt
 have k3:row.extract (bo+i * 3) (bo+i * 3+3)=#[.int .i64 a,.int .i64 0,.int .i64 y]:=by have:=k2;dsimp only at this;rw [hx] at this;exact this
 have hon:ones #[a,(0:Int),y]=true:=by simp [ones,a0n]
 obtain ⟨n1,hn1⟩ : ∃ n1,n0+y=n1:=⟨_,rfl⟩
 have wn:IntKind.wrap .i64 (n0+y)=n1:=by rw [wrap_in]<;>omega
 have HN1:Hid (Zn.swN B j=n1):=zA (by rw [hj,HNS.out,hx];exact hn1)
 rw [← hj] at HSTEP
 have HX:=zA hx
 have HQ2:=zA q2
 have HJ:=zA hj
 have hij:(i:Int) < (j:Int):=by omega
 have hjb:j≤B.length:=by omega
 clear k2 z0 hx hn1 HNS q1 q2 hj
 have A5:=(zC wr.heap.size wr).alloc (zD _) (.cells #[a,(0:Int),y] 231)
 have dp:obj (wr.alloc (.cells #[a,(0:Int),y] 231)) wr.heap.size=some (.cells #[a,(0:Int),y] 231 (0,0)):=a05 _ _ _ rfl
 repeat' ((go_not_at_region 7);(first|go_skip|go_guarded|go_step|go_upon))
 have lo:=a09 kob
 have how:=a0m how A5
 have kob:=a0a kob A5
 have kw:=a0a kw A5
 have hB:=hB.trans (A5.mono hB.size)
 clear A5
 generalize (wr.alloc (.cells #[a,(0:Int),y] 231))=wz at *
 generalize wr.heap.size=pb at *
 have hop:pb≠ob:=by omega
 have lo:=a09 kob
 have lp:=a09 dp
 have lw:=a09 kw
 refine a0k 8 [([],fun v _=>v=.pointer (some ⟨pb,1,none⟩)),([0],fun v _=>v=.int .i64 0),([1],fun v _=>v=.pointer (some ⟨ob,0,none⟩)),([2],fun v _=>v=.int .i64 n0),([],fun v _=>v=.pointer (some ⟨pb,2,none⟩)),([4],fun v _=>v=.int .i64 y),([3,5],fun v _=>v=.int .i64 n1),
   ([1],fun v _=>v=.pointer (some ⟨ob,0,none⟩))] (by kernel_rfl) (by kernel_rfl) (by kernel_rfl) ?st ?ob ?_
 case st => intro k v W1 W2 h hb;rcases k with _|_|_|_|_|_|_|_|k<;>first | exact h | trivial
 case ob => and_intros<;>first|exact ⟨⟩|(intro vs Wq hW hk;(have q0:=a02 (a04 dp hW lp) 1);(have q1:=a02 (a04 kob hW lo) 0);(have q2:=a02 (a04 dp hW lp) 2);(try simp only [knows,Spec.at',↓zH,↓zG,yL] at hk);simp only [Spec.at',↓zH,↓zG,a00,a03,yy0,yy1,yy2,yy3];(try simp only [hk]);first | ((repeat'(first|go_skip|go_guarded|go_step|go_upon));exact a01 _ rfl (by go_simp) bR rfl))
 intro vs W2 hW2 hk2
 have v6:vs 6=.int .i64 n1:=hk2 6 (by decide)
 have v7:vs 7=.pointer (some ⟨ob,0,none⟩):=hk2 7 (by decide)
 clear hk2
 dsimp only [a1d,List.take,List.drop]
 simp only [Act.put,zF,zI,zJ]
 rw [v6,v7]
 generalize vs 0=e0,vs 1=e1,vs 2=e2,vs 3=e3,vs 4=e4,vs 5=e5
 clear v6 v7
 have how:=a0m how hW2
 have kob:=a04 kob hW2 lo
 have dp:=a04 dp hW2 lp
 have kw:=a04 kw hW2 lw
 have hB:=hB.trans (hW2.mono hB.size)
 clear hW2
 have fo:=a0d kob 0
 have co:=a02 kob 0
 repeat' ((go_not_at_region 8);(first|go_skip|go_guarded|go_step|go_upon))
 have aos:=yF how (show (Value.slice la L.length lc).ownBlock≠some (⟨ob,0,none⟩:Addr).block from a2f how kob (by decide)) (.int .i64 n1)
 have kob7:obj (W2.setCell ⟨ob,0,none⟩ (.int .i64 n1)) ob=some (.cells #[n1,(0:Int)] 229 (0,0)):=by rw [a0c,kob];rfl
 have dp:=a07 dp ⟨ob,0,none⟩ (show pb≠ob by omega) (.int .i64 n1)
 have kw:=a07 kw ⟨ob,0,none⟩ (show bb≠ob by omega) (.int .i64 n1)
 have hB:=hB.setCell (p:=⟨ob,0,none⟩) hob (.int .i64 n1)
 clear how kob fo co
 generalize W2.setCell ⟨ob,0,none⟩ (.int .i64 n1)=w7 at *
 have kob:=kob7
 clear kob7
 have lo:=a09 kob
 have lp:=a09 dp
 have lw:=a09 kw
 have how:=aos
 by_cases hjl:j=B.length
 ·have HST:Hid (Zn.swL B j=L):=zA (by rw [HSTEP.out];unfold Zn.swStep;rw [zQ ((.inl (by have:=HJ.out;omega)))])
  have i2:(j:Int)=(B.length:Int):=by omega
  refine a0k 27 [([],fun v _=>v=.int .i64 (i:Nat)),([0],fun v _=>v=.int .i64 (j:Nat)),([],fun v _=>v=.slice (some ⟨bb,bo,none⟩) B.length bc),([2],fun v _=>v=.int .i64 (B.length:Nat)),([1,3],fun v _=>v=.bool true),([4],fun v _=>v=.bool true),([5],fun v _=>v=undef),([5],fun v _=>v=undef),([7,5],fun v _=>v=undef),([6,8,5],fun v _=>v=undef),([9,5],fun v _=>v=undef),([10,5],fun v _=>v=undef),([5],fun v _=>v=undef),([12,5],fun v _=>v=undef),([11,13,5],fun v _=>v=undef),([5,14],fun v _=>v=.bool true),([15,5],fun v _=>v=.bool true),([16],fun v _=>v=undef),([16],fun v _=>v=undef),([18,16],fun v _=>v=undef),([19,16],fun v _=>v=undef),([16],fun v _=>v=undef),([21,16],fun v _=>v=undef),([22,16],fun v _=>v=undef),([17,20,23,16],fun v _=>v=undef),([24,16],fun v _=>v=undef),
    ([16,25],fun v _=>v=.bool true)] (by kernel_rfl) (by kernel_rfl) (by kernel_rfl) ?st ?ob ?_
  case st => intro k v W1 W2 h hb;rcases k with _|_|_|_|_|_|_|_|_|_|_|_|_|_|_|_|_|_|_|_|_|_|_|_|_|_|_|k<;>first | exact h | trivial
  case ob => and_intros<;>first|exact ⟨⟩|(intro vs Wq hW hk;(try simp only [knows,Spec.at',↓zH,↓zG,yL] at hk);simp only [Spec.at',↓zH,↓zG,a00,a03,yy0,yy1,yy2,yy3];(try simp only [hk]);first | ((repeat'(first|go_skip|go_guarded|go_step|go_upon));exact a01 _ rfl (by go_simp) bR rfl))
  intro vs W2 hW2 hk2;have v26:vs 26=.bool true:=hk2 26 (by decide);clear hk2;dsimp only [a1d,List.take,List.drop];simp only [Act.put,zF,zI,zJ];rw [v26];generalize vs 0=e0,vs 1=e1,vs 2=e2,vs 3=e3,vs 4=e4,vs 5=e5,vs 6=e6,vs 7=e7,vs 8=e8,vs 9=e9,vs 10=e10,vs 11=e11,vs 12=e12,vs 13=e13,vs 14=e14,vs 15=e15,vs 16=e16,vs 17=e17,vs 18=e18,vs 19=e19,vs 20=e20,vs 21=e21,vs 22=e22,vs 23=e23,vs 24=e24,vs 25=e25;clear v26;have how:=a0m how hW2;have kob:=a04 kob hW2 lo;have dp:=a04 dp hW2 lp;have kw:=a04 kw hW2 lw;have hB:=hB.trans (hW2.mono hB.size);have lo:=a09 kob;have lp:=a09 dp;have lw:=a09 kw;clear hW2;clear i2 hjl;(repeat'(first|go_skip|go_guarded|go_step|go_upon));exact ⟨⟨j,by omega,rfl,by rw [HST.out];exact how,by rw [HN1.out];exact kob,hB⟩,by simp [intOf]<;>omega⟩
 have hj2:j < B.length:=by omega
 have i2 : ¬ (j:Int)=(B.length:Int):=by omega
 have i3:(j:Int) < (B.length:Int):=by omega
 have i4:(0:Int)≤(j:Int):=by omega
 obtain ⟨a2,y2,hx2,_⟩:=HMEM.out j hj2
 obtain ⟨z2,k4⟩:=HQ2.out j hj2
 have c2:row[bo+j * 3]? = some (.int .i64 a2):=by have:=a0y 0 k4 (by dsimp only;rw [hx2];exact Nat.zero_lt_succ _);dsimp only at this;rw [hx2] at this;exact this
 have HX2:=zA hx2
 clear hx2 k4 z2
 by_cases hs2:a2=a
 ·have HST:Hid (Zn.swL B j=L):=zA (by rw [HSTEP.out];unfold Zn.swStep;rw [zQ (.inr (.inl (by rw [← HJ.out,HX2.out,HX.out];exact hs2)))])
  refine a0k 27 [([],fun v _=>v=.int .i64 (i:Nat)),([0],fun v _=>v=.int .i64 (j:Nat)),([],fun v _=>v=.slice (some ⟨bb,bo,none⟩) B.length bc),([2],fun v _=>v=.int .i64 (B.length:Nat)),([1,3],fun v _=>v=.bool false),([4],fun v _=>v=.bool false),([5],fun v _=>v=.slice (some ⟨bb,bo,none⟩) B.length bc),([5],fun v _=>v=.int .i64 (i:Nat)),([7,5],fun v _=>v=.int .i64 (j:Nat)),([6,8,5],fun v _=>v=.pointer (some ⟨bb,bo+j * 3,none⟩)),([9,5],fun v _=>v=.pointer (some ⟨bb,bo+j * 3,none⟩)),([10,5],fun v _=>v=.int .i64 a2),([5],fun v _=>v=.pointer (some ⟨pb,0,none⟩)),([12,5],fun v _=>v=.int .i64 a),([11,13,5],fun v _=>v=.bool true),([5,14],fun v _=>v=.bool true),([15,5],fun v _=>v=.bool true),([16],fun v _=>v=undef),([16],fun v _=>v=undef),([18,16],fun v _=>v=undef),([19,16],fun v _=>v=undef),([16],fun v _=>v=undef),([21,16],fun v _=>v=undef),([22,16],fun v _=>v=undef),([17,20,23,16],fun v _=>v=undef),([24,16],fun v _=>v=undef),
    ([16,25],fun v _=>v=.bool true)] (by kernel_rfl) (by kernel_rfl) (by kernel_rfl) ?st ?ob ?_
  case st => intro k v W1 W2 h hb;rcases k with _|_|_|_|_|_|_|_|_|_|_|_|_|_|_|_|_|_|_|_|_|_|_|_|_|_|_|k<;>first | exact h | trivial
  case ob => and_intros<;>first|exact ⟨⟩|(intro vs Wq hW hk;(have q0:=(a02 (a04 kw hW lw) (bo+j * 3)).trans c2);(have q1:=a02 (a04 dp hW lp) 0);(try simp only [knows,Spec.at',↓zH,↓zG,yL] at hk);simp only [Spec.at',↓zH,↓zG,a00,a03,yy0,yy1,yy2,yy3];(try simp only [hk]);first | ((repeat'(first|go_skip|go_guarded|go_step|go_upon));exact a01 _ rfl (by go_simp) bR rfl))
  intro vs W2 hW2 hk2;have v26:vs 26=.bool true:=hk2 26 (by decide);clear hk2;dsimp only [a1d,List.take,List.drop];simp only [Act.put,zF,zI,zJ];rw [v26];generalize vs 0=e0,vs 1=e1,vs 2=e2,vs 3=e3,vs 4=e4,vs 5=e5,vs 6=e6,vs 7=e7,vs 8=e8,vs 9=e9,vs 10=e10,vs 11=e11,vs 12=e12,vs 13=e13,vs 14=e14,vs 15=e15,vs 16=e16,vs 17=e17,vs 18=e18,vs 19=e19,vs 20=e20,vs 21=e21,vs 22=e22,vs 23=e23,vs 24=e24,vs 25=e25;clear v26;have how:=a0m how hW2;have kob:=a04 kob hW2 lo;have dp:=a04 dp hW2 lp;have kw:=a04 kw hW2 lw;have hB:=hB.trans (hW2.mono hB.size);have lo:=a09 kob;have lp:=a09 dp;have lw:=a09 kw;clear hW2;(repeat'(first|go_skip|go_guarded|go_step|go_upon));exact ⟨⟨j,by omega,rfl,by rw [HST.out];exact how,by rw [HN1.out];exact kob,hB⟩,by simp [intOf]<;>omega⟩
 by_cases hn1p:0 < n1;rotate_left
 ·have HST:Hid (Zn.swL B j=L):=zA (by rw [HSTEP.out];unfold Zn.swStep;rw [zQ (.inr (.inr (by rw [← HJ.out,HN1.out];exact hn1p)))])
  refine a0k 27 [([],fun v _=>v=.int .i64 (i:Nat)),([0],fun v _=>v=.int .i64 (j:Nat)),([],fun v _=>v=.slice (some ⟨bb,bo,none⟩) B.length bc),([2],fun v _=>v=.int .i64 (B.length:Nat)),([1,3],fun v _=>v=.bool false),([4],fun v _=>v=.bool false),([5],fun v _=>v=.slice (some ⟨bb,bo,none⟩) B.length bc),([5],fun v _=>v=.int .i64 (i:Nat)),([7,5],fun v _=>v=.int .i64 (j:Nat)),([6,8,5],fun v _=>v=.pointer (some ⟨bb,bo+j * 3,none⟩)),([9,5],fun v _=>v=.pointer (some ⟨bb,bo+j * 3,none⟩)),([10,5],fun v _=>v=.int .i64 a2),([5],fun v _=>v=.pointer (some ⟨pb,0,none⟩)),([12,5],fun v _=>v=.int .i64 a),([11,13,5],fun v _=>v=.bool false),([5,14],fun v _=>v=.bool false),([15,5],fun v _=>v=.bool false),([16],fun v _=>v=.func (.func 162) #[] #[]),([16],fun v _=>v=.pointer (some ⟨ob,0,none⟩)),([18,16],fun v _=>v=.int .i64 n1),([19,16],fun v _=>v=.bool false),([16],fun v _=>v=.pointer (some ⟨ob,1,none⟩)),([21,16],fun v _=>v=.int .i64 0),([22,16],fun v _=>v=.bool false),([17,20,23,16],fun v _=>v=.bool false),([24,16],fun v _=>v=.bool true),
    ([16,25],fun v _=>v=.bool true)] (by kernel_rfl) (by kernel_rfl) (by kernel_rfl) ?st ?ob ?tl
  case st => intro k v W1 W2 h hb;rcases k with _|_|_|_|_|_|_|_|_|_|_|_|_|_|_|_|_|_|_|_|_|_|_|_|_|_|_|k<;>first | exact h | trivial
  case ob => and_intros<;>first|exact ⟨⟩|(intro vs Wq hW hk;(have q0:=(a02 (a04 kw hW lw) (bo+j * 3)).trans c2);(have q1:=a02 (a04 dp hW lp) 0);(have q2:=a02 (a04 kob hW lo) 0);(have q3:=a02 (a04 kob hW lo) 1);(try simp only [knows,Spec.at',↓zH,↓zG,yL] at hk);simp only [Spec.at',↓zH,↓zG,a00,a03,yy0,yy1,yy2,yy3];(try simp only [hk]);first | ((repeat'(first|go_skip|go_guarded|go_step|go_upon));exact a01 _ rfl (by go_simp) bR rfl) | ((have HX:=zA (un1_calls Wq false));(repeat' (first | (go_at_call 162;((with_reducible refine (HX.out).mono ?_));rintro e w9 ⟨rfl,hb9⟩;dsimp only)|go_skip|go_guarded|go_step|go_upon));exact a01 _ rfl (by go_simp) hb9 rfl) | fail)
  case tl => intro vs W2 hW2 hk2;have v26:vs 26=.bool true:=hk2 26 (by decide);clear hk2;dsimp only [a1d,List.take,List.drop];simp only [Act.put,zF,zI,zJ];rw [v26];generalize vs 0=e0,vs 1=e1,vs 2=e2,vs 3=e3,vs 4=e4,vs 5=e5,vs 6=e6,vs 7=e7,vs 8=e8,vs 9=e9,vs 10=e10,vs 11=e11,vs 12=e12,vs 13=e13,vs 14=e14,vs 15=e15,vs 16=e16,vs 17=e17,vs 18=e18,vs 19=e19,vs 20=e20,vs 21=e21,vs 22=e22,vs 23=e23,vs 24=e24,vs 25=e25;clear v26;have how:=a0m how hW2;have kob:=a04 kob hW2 lo;have dp:=a04 dp hW2 lp;have kw:=a04 kw hW2 lw;have hB:=hB.trans (hW2.mono hB.size);have lo:=a09 kob;have lp:=a09 dp;have lw:=a09 kw;clear hW2;(repeat'(first|go_skip|go_guarded|go_step|go_upon));exact ⟨⟨j,by omega,rfl,by rw [HST.out];exact how,by rw [HN1.out];exact kob,hB⟩,by simp [intOf]<;>omega⟩
 clear hnb
 refine a0k 27 [([],fun v _=>v=.int .i64 (i:Nat)),([0],fun v _=>v=.int .i64 (j:Nat)),([],fun v _=>v=.slice (some ⟨bb,bo,none⟩) B.length bc),([2],fun v _=>v=.int .i64 (B.length:Nat)),([1,3],fun v _=>v=.bool false),([4],fun v _=>v=.bool false),([5],fun v _=>v=.slice (some ⟨bb,bo,none⟩) B.length bc),([5],fun v _=>v=.int .i64 (i:Nat)),([7,5],fun v _=>v=.int .i64 (j:Nat)),([6,8,5],fun v _=>v=.pointer (some ⟨bb,bo+j * 3,none⟩)),([9,5],fun v _=>v=.pointer (some ⟨bb,bo+j * 3,none⟩)),([10,5],fun v _=>v=.int .i64 a2),([5],fun v _=>v=.pointer (some ⟨pb,0,none⟩)),([12,5],fun v _=>v=.int .i64 a),([11,13,5],fun v _=>v=.bool false),([5,14],fun v _=>v=.bool false),([15,5],fun v _=>v=.bool false),([16],fun v _=>v=.func (.func 162) #[] #[]),([16],fun v _=>v=.pointer (some ⟨ob,0,none⟩)),([18,16],fun v _=>v=.int .i64 n1),([19,16],fun v _=>v=.bool true),([16],fun v _=>v=.pointer (some ⟨ob,1,none⟩)),([21,16],fun v _=>v=.int .i64 0),([22,16],fun v _=>v=.bool false),([17,20,23,16],fun v _=>v=.bool true),([24,16],fun v _=>v=.bool false),
   ([16,25],fun v _=>v=.bool false)] (by kernel_rfl) (by kernel_rfl) (by kernel_rfl) ?st ?ob ?_
 case st => intro k v W1 W2 h hb;rcases k with _|_|_|_|_|_|_|_|_|_|_|_|_|_|_|_|_|_|_|_|_|_|_|_|_|_|_|k<;>first | exact h | trivial
 case ob => and_intros<;>first|exact ⟨⟩|(intro vs Wq hW hk;(have q0:=(a02 (a04 kw hW lw) (bo+j * 3)).trans c2);(have q1:=a02 (a04 dp hW lp) 0);(have q2:=a02 (a04 kob hW lo) 0);(have q3:=a02 (a04 kob hW lo) 1);(try simp only [knows,Spec.at',↓zH,↓zG,yL] at hk);simp only [Spec.at',↓zH,↓zG,a00,a03,yy0,yy1,yy2,yy3];(try simp only [hk]);first | ((repeat'(first|go_skip|go_guarded|go_step|go_upon));exact a01 _ rfl (by go_simp) bR rfl) | ((have HX:=zA (un1_calls Wq true));(repeat' (first | (go_at_call 162;((with_reducible refine (HX.out).mono ?_));rintro e w9 ⟨rfl,hb9⟩;dsimp only)|go_skip|go_guarded|go_step|go_upon));exact a01 _ rfl (by go_simp) hb9 rfl) | fail)
 intro vs W2 hW2 hk2
 have v26:vs 26=.bool false:=hk2 26 (by decide)
 clear hk2
 dsimp only [a1d,List.take,List.drop]
 simp only [Act.put,zF,zI,zJ]
 rw [v26]
 generalize vs 0=e0,vs 1=e1,vs 2=e2,vs 3=e3,vs 4=e4,vs 5=e5,vs 6=e6,vs 7=e7,vs 8=e8,vs 9=e9,vs 10=e10,vs 11=e11,vs 12=e12,vs 13=e13,vs 14=e14,vs 15=e15,vs 16=e16,vs 17=e17,vs 18=e18,vs 19=e19,vs 20=e20,vs 21=e21,vs 22=e22,vs 23=e23,vs 24=e24,vs 25=e25
 clear v26
 have how:=a0m how hW2
 have kob:=a04 kob hW2 lo
 have dp:=a04 dp hW2 lp
 have kw:=a04 kw hW2 lw
 have hB:=hB.trans (hW2.mono hB.size)
 have lo:=a09 kob
 have lp:=a09 dp
 have lw:=a09 kw
 clear hW2
 repeat' ((go_not_at_region 10);(first|go_skip|go_guarded|go_step|go_upon))
 by_cases hL0:L.length=0
 ·have hm0 : ¬ (0:Int) < (L.length:Int):=by omega
  have HST:Hid (Zn.swL B j=L ++ [⟨a,a2⟩]):=zA (by rw [HSTEP.out];unfold Zn.swStep;rw [zS (by rw [HX.out,← HJ.out,HX2.out,HN1.out];rintro (h | h | h);(have:=HJ.out;omega);exact hs2 h;exact h hn1p),zS (by omega),HX.out,← HJ.out,HX2.out])
  refine a0k 13 [([],fun v _=>v=.int .i64 (L.length:Nat)),([0],fun v _=>v=.bool false),([1],fun v _=>v=.bool false),([2],fun v _=>v=undef),([2],fun v _=>v=undef),([4,2],fun v _=>v=undef),([3,5,2],fun v _=>v=undef),([6,2],fun v _=>v=undef),([7,2],fun v _=>v=undef),([2],fun v _=>v=undef),([9,2],fun v _=>v=undef),([8,10,2],fun v _=>v=undef),
    ([2,11],fun v _=>v=.bool false)] (by kernel_rfl) (by kernel_rfl) (by kernel_rfl) ?st ?ob ?tl
  case st => intro k v W1 W2 h hb;rcases k with _|_|_|_|_|_|_|_|_|_|_|_|_|k<;>first | exact h | trivial
  case ob => and_intros<;>first|exact ⟨⟩|(intro vs Wq hW hk;(try simp only [knows,Spec.at',↓zH,↓zG,yL] at hk);simp only [Spec.at',↓zH,↓zG,a00,a03,yy0,yy1,yy2,yy3];(try simp only [hk]);first | ((repeat'(first|go_skip|go_guarded|go_step|go_upon));exact a01 _ rfl (by go_simp) bR rfl))
  case tl =>
   intro vs W2 hW2 hk2;have v12:vs 12=.bool false:=hk2 12 (by decide);clear hk2;dsimp only [a1d,List.take,List.drop];simp only [Act.put,zF,zI,zJ];rw [v12];generalize vs 0=e0,vs 1=e1,vs 2=e2,vs 3=e3,vs 4=e4,vs 5=e5,vs 6=e6,vs 7=e7,vs 8=e8,vs 9=e9,vs 10=e10,vs 11=e11;clear v12;have how:=a0m how hW2;have kob:=a04 kob hW2 lo;have dp:=a04 dp hW2 lp;have kw:=a04 kw hW2 lw;have hB:=hB.trans (hW2.mono hB.size);have lo:=a09 kob;have lp:=a09 dp;have lw:=a09 kw;clear hW2
   repeat' ((go_not_at_region 12);(first|go_skip|go_guarded|go_step|go_upon))
   refine a0k 11 [([],fun v _=>v=.slice la L.length lc),([],fun v _=>v=.pointer (some ⟨pb,0,none⟩)),([1],fun v _=>v=.int .i64 a),([],fun v _=>v=.slice (some ⟨bb,bo,none⟩) B.length bc),([],fun v _=>v=.int .i64 (i:Nat)),([4],fun v _=>v=.int .i64 (j:Nat)),([3,5],fun v _=>v=.pointer (some ⟨bb,bo+j * 3,none⟩)),([6],fun v _=>v=.pointer (some ⟨bb,bo+j * 3,none⟩)),([7],fun v _=>v=.int .i64 a2),([2,8],fun v _=>v=.agg #[a,a2]),
     ([9],fun v W' => ∃ g,v=.slice (some ⟨g,0,none⟩) 1 1∧obj W' g=some (.cells #[a,a2] 77 (0,0)))] (by kernel_rfl) (by kernel_rfl) (by kernel_rfl) ?st ?ob ?tl
   case st => intro k v W1 W2 h hb;rcases k with _|_|_|_|_|_|_|_|_|_|_|k<;>first | exact h | trivial | (obtain ⟨g,h1,h2⟩:=h;exact ⟨g,h1,a0a h2 hb⟩)
   case ob =>
    and_intros<;>
    first
     | exact ⟨⟩
     | (intro vs Wq hW hk;(have q0:=a02 (a04 dp hW lp) 0);(have q1:=(a02 (a04 kw hW lw) (bo+j * 3)).trans c2);(try simp only [knows,Spec.at',↓zH,↓zG,yL] at hk);simp only [Spec.at',↓zH,↓zG,a00,a03,yy0,yy1,yy2,yy3];(try simp only [hk]);first | ((repeat'(first|go_skip|go_guarded|go_step|go_upon));exact a01 _ rfl (by go_simp) bR rfl) | fail)
     | (
       intro vs Wq hW hk;have g9:vs 9=.agg #[a,a2]:=hk.1;clear hk;change wpList _ _ _ _ (a00 _ vs [9] _) _;simp only [a00,a03,yy0,yy1,yy2,yy3];rw [g9]
       repeat'(first|go_skip|go_guarded|go_step|go_upon)
       exact a01 (.slice (some ⟨Wq.heap.size,0,none⟩) 1 1) rfl (by go_simp) (bR.alloc (zD _) _) ⟨_,rfl,a05 _ _ _ rfl⟩)
   case tl => intro vs W2 hW2 hk2;have v0:vs 0=.slice la L.length lc:=hk2 0 (by decide);obtain ⟨ng,v10,s10⟩:=hk2 10 (by decide);clear hk2;dsimp only [a1d,List.take,List.drop];simp only [Act.put,zF,zI,zJ];rw [v0,v10];generalize vs 1=e1,vs 2=e2,vs 3=e3,vs 4=e4,vs 5=e5,vs 6=e6,vs 7=e7,vs 8=e8,vs 9=e9;clear v0 v10;have how:=a0m how hW2;have kob:=a04 kob hW2 lo;have dp:=a04 dp hW2 lp;have kw:=a04 kw hW2 lw;have hB:=hB.trans (hW2.mono hB.size);have lo:=a09 kob;have lp:=a09 dp;have lw:=a09 kw;clear hW2;(repeat' (first | (at_builtin;(refine wpList_append_sp rfl _ _ rfl w3.heap.size L.length (.slice la L.length lc) L rfl how ng ⟨a,a2⟩ rfl s10 (by omega) hB.size ?_);intro v5 W5 a3p hg5 _;have hg:W2.grownBy W5 (Value.slice la L.length lc).ownBlock:=hg5;clear hg5;have kob5:=a19 how kob (by decide) hg;have hB5:=hB.grown hg hB.size (fun g q=>a1p how q);dsimp only)|go_skip|go_guarded|go_step|go_upon));exact ⟨⟨j,by omega,rfl,by rw [HST.out,zX];exact a3p,by rw [HN1.out];exact kob5,hB5⟩,by simp [intOf]<;>omega⟩
 have hm0:(0:Int) < (L.length:Int):=by omega
 obtain ⟨k,hk⟩ : ∃ k:Nat,(L.length:Int) - 1=(k:Int):=⟨L.length - 1,by omega⟩
 have wk:IntKind.wrap .i64 ((L.length:Int) - 1)=(k:Int):=by rw [wrap_in]<;>omega
 have hkl:k < L.length:=by omega
 have hm1:0 < L.length:=by omega
 have hk0:(0:Int)≤(k:Int):=by omega
 have hk1:(k:Int) < (L.length:Int):=by omega
 have hke:L.length - 1=k:=by omega
 obtain ⟨gl,glc,hgl⟩:=(afr how).2.2.1 (by omega)
 obtain ⟨rfl,rfl⟩:la=some ⟨gl,0,none⟩∧lc=glc:=by injection hgl with p q r;exact ⟨p,r⟩
 clear hgl
 have cz0:=(abx L k hkl).2
 obtain ⟨z,hz⟩ : ∃ z,L.getD k default=z:=⟨_,rfl⟩
 rw [hz] at cz0
 have cz:=cz0
 have HZ:=zA hz
 clear cz0 hz hk
 by_cases he:z.off=a
 ·have HST:Hid (Zn.swL B j=L.set k ⟨z.tm,a2⟩):=zA (by rw [HSTEP.out];unfold Zn.swStep;rw [zS (by rw [HX.out,← HJ.out,HX2.out,HN1.out];rintro (h | h | h);(have:=HJ.out;omega);exact hs2 h;exact h hn1p),hke,HZ.out,HX.out,zQ ⟨by omega,he⟩,← HJ.out,HX2.out])
  refine a0k 13 [([],fun v _=>v=.int .i64 (L.length:Nat)),([0],fun v _=>v=.bool true),([1],fun v _=>v=.bool true),([2],fun v _=>v=.slice (some ⟨gl,0,none⟩) L.length lc),([2],fun v _=>v=.int .i64 (L.length:Nat)),([4,2],fun v _=>v=.int .i64 (k:Nat)),([3,5,2],fun v _=>v=.pointer (some ⟨gl,k * 2,none⟩)),([6,2],fun v _=>v=.pointer (some ⟨gl,k * 2+1,none⟩)),([7,2],fun v _=>v=.int .i64 z.off),([2],fun v _=>v=.pointer (some ⟨pb,0,none⟩)),([9,2],fun v _=>v=.int .i64 a),([8,10,2],fun v _=>v=.bool true),
    ([2,11],fun v _=>v=.bool true)] (by kernel_rfl) (by kernel_rfl) (by kernel_rfl) ?st ?ob ?tl
  case st => intro k v W1 W2 h hb;rcases k with _|_|_|_|_|_|_|_|_|_|_|_|_|k<;>first | exact h | trivial
  case ob => and_intros<;>first|exact ⟨⟩|(intro vs Wq hW hk;(have q0:=owns_at (a0m how hW) (k * 2+1) _ cz);(have q1:=a02 (a04 dp hW lp) 0);(try simp only [knows,Spec.at',↓zH,↓zG,yL] at hk);simp only [Spec.at',↓zH,↓zG,a00,a03,yy0,yy1,yy2,yy3];(try simp only [hk]);first | ((repeat'(first|go_skip|go_guarded|go_step|go_upon));exact a01 _ rfl (by go_simp) bR rfl))
  case tl =>
   intro vs W2 hW2 hk2;have v12:vs 12=.bool true:=hk2 12 (by decide);clear hk2;dsimp only [a1d,List.take,List.drop];simp only [Act.put,zF,zI,zJ];rw [v12];generalize vs 0=e0,vs 1=e1,vs 2=e2,vs 3=e3,vs 4=e4,vs 5=e5,vs 6=e6,vs 7=e7,vs 8=e8,vs 9=e9,vs 10=e10,vs 11=e11;clear v12;have how:=a0m how hW2;have kob:=a04 kob hW2 lo;have dp:=a04 dp hW2 lp;have kw:=a04 kw hW2 lw;have hB:=hB.trans (hW2.mono hB.size);have lo:=a09 kob;have lp:=a09 dp;have lw:=a09 kw;clear hW2
   repeat' ((go_not_at_region 11);(first|go_skip|go_guarded|go_step|go_upon))
   have cz2:=owns_at how (k * 2+1) _ cz;have fz2:=owns_free how (k * 2+1);have cw2:=(a02 kw (bo+j * 3)).trans c2
   repeat'(first|go_skip|go_guarded|go_step|go_upon)
   have hgo:ob≠gl:=fun e=>a2f how kob (by decide) (by rw [e];rfl)
   exact ⟨⟨j,by omega,rfl,by rw [HST.out,uK,valT_off L k _ a2 hkl HZ.out];exact a95 how (k * 2+1) (.int .i64 a2) (by omega),by rw [HN1.out];exact a07 kob _ hgo _,hB.setCell (p:=⟨gl,k * 2+1,none⟩) (a1p how rfl) _⟩,by simp [intOf]<;>omega⟩
 have HST:Hid (Zn.swL B j=L ++ [⟨a,a2⟩]):=zA (by rw [HSTEP.out];unfold Zn.swStep;rw [zS (by rw [HX.out,← HJ.out,HX2.out,HN1.out];rintro (h | h | h);(have:=HJ.out;omega);exact hs2 h;exact h hn1p),hke,HZ.out,HX.out,zS (fun h=>he h.2),← HJ.out,HX2.out])
 refine a0k 13 [([],fun v _=>v=.int .i64 (L.length:Nat)),([0],fun v _=>v=.bool true),([1],fun v _=>v=.bool true),([2],fun v _=>v=.slice (some ⟨gl,0,none⟩) L.length lc),([2],fun v _=>v=.int .i64 (L.length:Nat)),([4,2],fun v _=>v=.int .i64 (k:Nat)),([3,5,2],fun v _=>v=.pointer (some ⟨gl,k * 2,none⟩)),([6,2],fun v _=>v=.pointer (some ⟨gl,k * 2+1,none⟩)),([7,2],fun v _=>v=.int .i64 z.off),([2],fun v _=>v=.pointer (some ⟨pb,0,none⟩)),([9,2],fun v _=>v=.int .i64 a),([8,10,2],fun v _=>v=.bool false),
   ([2,11],fun v _=>v=.bool false)] (by kernel_rfl) (by kernel_rfl) (by kernel_rfl) ?st ?ob ?_
 case st => intro k v W1 W2 h hb;rcases k with _|_|_|_|_|_|_|_|_|_|_|_|_|k<;>first | exact h | trivial
 case ob => and_intros<;>first|exact ⟨⟩|(intro vs Wq hW hk;(have q0:=owns_at (a0m how hW) (k * 2+1) _ cz);(have q1:=a02 (a04 dp hW lp) 0);(try simp only [knows,Spec.at',↓zH,↓zG,yL] at hk);simp only [Spec.at',↓zH,↓zG,a00,a03,yy0,yy1,yy2,yy3];(try simp only [hk]);first | ((repeat'(first|go_skip|go_guarded|go_step|go_upon));exact a01 _ rfl (by go_simp) bR rfl))
 intro vs W2 hW2 hk2
 have v12:vs 12=.bool false:=hk2 12 (by decide)
 clear hk2
 dsimp only [a1d,List.take,List.drop]
 simp only [Act.put,zF,zI,zJ]
 rw [v12]
 generalize vs 0=e0,vs 1=e1,vs 2=e2,vs 3=e3,vs 4=e4,vs 5=e5,vs 6=e6,vs 7=e7,vs 8=e8,vs 9=e9,vs 10=e10,vs 11=e11
 clear v12
 have how:=a0m how hW2
 have kob:=a04 kob hW2 lo
 have dp:=a04 dp hW2 lp
 have kw:=a04 kw hW2 lw
 have hB:=hB.trans (hW2.mono hB.size)
 have lo:=a09 kob
 have lp:=a09 dp
 have lw:=a09 kw
 clear hW2
 repeat' ((go_not_at_region 12);(first|go_skip|go_guarded|go_step|go_upon))
 refine a0k 11 [([],fun v _=>v=.slice (some ⟨gl,0,none⟩) L.length lc),([],fun v _=>v=.pointer (some ⟨pb,0,none⟩)),([1],fun v _=>v=.int .i64 a),([],fun v _=>v=.slice (some ⟨bb,bo,none⟩) B.length bc),([],fun v _=>v=.int .i64 (i:Nat)),([4],fun v _=>v=.int .i64 (j:Nat)),([3,5],fun v _=>v=.pointer (some ⟨bb,bo+j * 3,none⟩)),([6],fun v _=>v=.pointer (some ⟨bb,bo+j * 3,none⟩)),([7],fun v _=>v=.int .i64 a2),([2,8],fun v _=>v=.agg #[a,a2]),
   ([9],fun v W' => ∃ g,v=.slice (some ⟨g,0,none⟩) 1 1∧obj W' g=some (.cells #[a,a2] 77 (0,0)))] (by kernel_rfl) (by kernel_rfl) (by kernel_rfl) ?st ?ob ?_
 case st => intro k v W1 W2 h hb;rcases k with _|_|_|_|_|_|_|_|_|_|_|k<;>first | exact h | trivial | (obtain ⟨g,h1,h2⟩:=h;exact ⟨g,h1,a0a h2 hb⟩)
 case ob =>
  and_intros<;>
  first
   | exact ⟨⟩
   | (intro vs Wq hW hk;(have q0:=a02 (a04 dp hW lp) 0);(have q1:=(a02 (a04 kw hW lw) (bo+j * 3)).trans c2);(try simp only [knows,Spec.at',↓zH,↓zG,yL] at hk);simp only [Spec.at',↓zH,↓zG,a00,a03,yy0,yy1,yy2,yy3];(try simp only [hk]);first | ((repeat'(first|go_skip|go_guarded|go_step|go_upon));exact a01 _ rfl (by go_simp) bR rfl) | fail)
   | (
     intro vs Wq hW hk;have g9:vs 9=.agg #[a,a2]:=hk.1;clear hk;change wpList _ _ _ _ (a00 _ vs [9] _) _;simp only [a00,a03,yy0,yy1,yy2,yy3];rw [g9]
     repeat'(first|go_skip|go_guarded|go_step|go_upon)
     exact a01 (.slice (some ⟨Wq.heap.size,0,none⟩) 1 1) rfl (by go_simp) (bR.alloc (zD _) _) ⟨_,rfl,a05 _ _ _ rfl⟩)
 intro vs W2 hW2 hk2;have v0:vs 0=.slice (some ⟨gl,0,none⟩) L.length lc:=hk2 0 (by decide);obtain ⟨ng,v10,s10⟩:=hk2 10 (by decide);clear hk2;dsimp only [a1d,List.take,List.drop];simp only [Act.put,zF,zI,zJ];rw [v0,v10];generalize vs 1=e1,vs 2=e2,vs 3=e3,vs 4=e4,vs 5=e5,vs 6=e6,vs 7=e7,vs 8=e8,vs 9=e9;clear v0 v10;have how:=a0m how hW2;have kob:=a04 kob hW2 lo;have dp:=a04 dp hW2 lp;have kw:=a04 kw hW2 lw;have hB:=hB.trans (hW2.mono hB.size);have lo:=a09 kob;have lp:=a09 dp;have lw:=a09 kw;clear hW2;(repeat' (first | (at_builtin;(refine wpList_append_sp rfl _ _ rfl w3.heap.size L.length (.slice (some ⟨gl,0,none⟩) L.length lc) L rfl how ng ⟨a,a2⟩ rfl s10 (by omega) hB.size ?_);intro v5 W5 a3p hg5 _;have hg:W2.grownBy W5 (Value.slice (some ⟨gl,0,none⟩) L.length lc).ownBlock:=hg5;clear hg5;have kob5:=a19 how kob (by decide) hg;have hB5:=hB.grown hg hB.size (fun g q=>a1p how q);dsimp only)|go_skip|go_guarded|go_step|go_upon));exact ⟨⟨j,by omega,rfl,by rw [HST.out,zX];exact a3p,by rw [HN1.out];exact kob5,hB5⟩,by simp [intOf]<;>omega⟩
end Go.Proofs.YtppjleebbjipbaaGreat
namespace Go.Proofs.YtppjleebbjipbaaGreat
open Go.RowKit Go.Shelf
set_option maxRecDepth 20000
set_option maxHeartbeats 8000000
theorem trs_nil (W:World):a2b W (.slice none 0 0) []:=⟨none,0,rfl,fun h=>absurd h (uB 0)⟩
theorem combine_calls {W:World} {v:Value} {l:List Zn.Tr} (hv:a2b W v l) (hl:l.length≤1000000) (hr:Zn.rngB l=true) :
  Calls Tryz.prog 161 #[v,.slice none 0 0,.func (.func 162) #[] #[]] W fun e w'=>(∃ v' B,e=.returned (.tuple #[v',.int .i64 0])∧a2b w' v' (Zn.swL B B.length)∧B.Perm (Zn.bdsOf l)∧(B.Pairwise fun a b=>a.at_≤b.at_))∧Below W W w':=by
 have HR:=zA (ranged_calls hv (by omega))
 rw [hr] at HR
 have HN:=zA (fun Wq:World=>ranged_calls (trs_nil Wq) (xG _))
 have HC:=zA (fun (Wq:World) (hq:Below W W Wq)=>sweep_calls (a1m.below hv hq) hl)
 obtain ⟨ao,c,rfl,_⟩:=hv
 go_enter Tryz.func161,Tryz.ntmps161
 repeat' (first | (go_at_call 90;((with_reducible refine ((HR.out).mono ?_)));rintro e w1 ⟨rfl,hB1⟩;dsimp only) | (go_at_call 90;((with_reducible refine ((HN.out _).mono ?_)));rintro e w2 ⟨rfl,hB2⟩;have hBx:=hB1.trans (hB2.mono hB1.size);have HX:=zA (HC.out _ hBx);dsimp only) | (go_at_call 186;((with_reducible refine ((HX.out).mono ?_)));rintro e w3 ⟨⟨v3,B,rfl,⟨ab,bc,rfl,hq⟩,hp,hs⟩,hB3⟩;have hBy:=hBx.trans (hB3.mono hBx.size);dsimp only)|go_skip|go_guarded|go_step|go_upon)
 go_returns
 exact ⟨⟨_,B,rfl,⟨ab,bc,rfl,hq⟩,hp,hs⟩,hBy⟩
theorem Union_calls {W:World} {v:Value} {l:List Zn.Tr} (hv:a2b W v l) (hl:l.length≤1000000) (hr:Zn.rngB l=true) :
  Calls Tryz.prog 124 #[v,.slice none 0 0] W fun e w'=>(∃ v' B,e=.returned (.tuple #[v',.int .i64 0])∧a2b w' v' (Zn.swL B B.length)∧B.Perm (Zn.bdsOf l)∧(B.Pairwise fun a b=>a.at_≤b.at_))∧Below W W w':=by
 have HC:=zA (combine_calls hv hl hr)
 obtain ⟨ao,c,rfl,_⟩:=hv
 go_enter Tryz.func124,Tryz.ntmps124
 repeat' (first | (go_at_call 161;((with_reducible refine ((HC.out).mono ?_)));rintro e w3 ⟨⟨v3,B,rfl,⟨ab,bc,rfl,hq⟩,hp,hs⟩,hB3⟩;dsimp only)|go_skip|go_guarded|go_step|go_upon)
 go_returns
 exact ⟨⟨_,B,rfl,⟨ab,bc,rfl,hq⟩,hp,hs⟩,hB3⟩
theorem Norm_calls {W:World} {v:Value} {l:List Zn.Tr} (hv:a2b W v l) (hl:l.length≤1000000) (hr:Zn.rngB l=true) :
  Calls Tryz.prog 82 #[v] W fun e w'=>(∃ v' B,e=.returned (.tuple #[v',.int .i64 0])∧a2b w' v' (Zn.swL B B.length)∧B.Perm (Zn.bdsOf l)∧(B.Pairwise fun a b=>a.at_≤b.at_))∧Below W W w':=by
 have HC:=zA (Union_calls hv hl hr)
 obtain ⟨ao,c,rfl,_⟩:=hv
 go_enter Tryz.func82,Tryz.ntmps82
 repeat' (first | (go_at_call 124;((with_reducible refine ((HC.out).mono ?_)));rintro e w3 ⟨⟨v3,B,rfl,⟨ab,bc,rfl,hq⟩,hp,hs⟩,hB3⟩;dsimp only)|go_skip|go_guarded|go_step|go_upon)
 go_returns
 exact ⟨⟨_,B,rfl,⟨ab,bc,rfl,hq⟩,hp,hs⟩,hB3⟩
end Go.Proofs.YtppjleebbjipbaaGreat
namespace Zn
def sumB (t:Int):List Bd→Int
 | []=>0
 | b :: B=>(if b.at_≤t then b.by_ else 0)+sumB t B
theorem sumB_perm {t:Int} {A B:List Bd} (h:A.Perm B):sumB t A=sumB t B:=by
 induction h with
 | nil=>rfl
 | cons x _ ih=>simp only [sumB,ih]
 | swap x y l=>simp only [sumB];omega
 | trans _ _ h1 h2=>rw [h1,h2]
theorem sumB_app (t:Int):∀ A B:List Bd,sumB t (A++B)=sumB t A+sumB t B
 | [],B=>by simp [sumB]
 | a :: A,B=>by rw [xK];simp only [sumB];rw [sumB_app t A B];omega
theorem bdsOf_cons (s:Tr) (l:List Tr):bdsOf (s :: l)=(if s.tm < s.off then [⟨s.tm,0,1⟩,⟨s.off,0,-1⟩] else [])++bdsOf l:=by unfold bdsOf;rw [List.flatMap_cons]
theorem sumB_bds (t:Int):∀ l:List Tr,0≤sumB t (bdsOf l)∧(0 < sumB t (bdsOf l)↔hasB l t=true)
 | []=>by simp [bdsOf,sumB,hasB]
 | s :: l=>by
  obtain ⟨h1,h2⟩:=sumB_bds t l
  have e2:sumB t (if s.tm < s.off then [(⟨s.tm,0,1⟩:Bd),⟨s.off,0,-1⟩] else [])=if s.tm≤t∧t < s.off then 1 else 0:=by
   by_cases h:s.tm < s.off
   ·rw [zQ h];simp only [sumB];split<;>split<;>split<;>omega
   ·rw [zS h,zS (by omega)];rfl
  have e3:hasB (s :: l) t=((decide (s.tm≤t)&&decide (t < s.off))||hasB l t):=rfl
  rw [bdsOf_cons,sumB_app,e2,e3]
  by_cases hc:s.tm≤t∧t < s.off
  ·rw [zQ hc]
   exact ⟨by omega,fun _=>by simp [hc],fun _=>by omega⟩
  ·rw [zS hc]
   have e4:(decide (s.tm≤t)&&decide (t < s.off))=false:=by
    by_cases h5:s.tm≤t
    ·have h6 : ¬ t < s.off:=fun h=>hc ⟨h5,h⟩
     simp [h6]
    ·simp [h5]
   rw [e4,Bool.false_or,Int.zero_add]
   exact ⟨h1,h2⟩
theorem sumB_take {B:List Bd} {t:Int}:∀ i,i≤B.length→(∀ j,j < i→(B.getD j default).at_≤t)→sumB t (B.take i)=swN B i
 | 0,_,_=>by simp [sumB,swN]
 | i+1,hi,h=>by
  rw [take_snoc (show i < B.length from hi) default,sumB_app,sumB_take i (by omega) (fun j hj=>h j (by omega))]
  show swN B i+((if (B.getD i default).at_≤t then (B.getD i default).by_ else 0)+0)=swN B i+(B.getD i default).by_
  rw [zQ (h i (by omega))]
  omega
theorem sumB_zero {t:Int}:∀ {B:List Bd},(∀ b,b∈B→t < b.at_)→sumB t B=0
 | [],_=>rfl
 | b :: B,h=>by
  show (if b.at_≤t then b.by_ else 0)+sumB t B=0
  rw [zS (by have:=h b (by simp);omega),sumB_zero (fun c hc=>h c (by simp [hc]))]
  rfl
theorem sumB_at {B:List Bd} {t:Int} {i:Nat} (hi:i≤B.length) (h1:∀ j,j < i→(B.getD j default).at_≤t) (h2:∀ j,i≤j→j < B.length→t < (B.getD j default).at_):sumB t B=swN B i:=by
 have e:sumB t B=sumB t (B.take i++B.drop i):=by rw [List.take_append_drop]
 rw [e,sumB_app,sumB_take i hi h1,sumB_zero,Int.add_zero]
 intro b hb
 obtain ⟨k,hk,e2⟩:=List.getElem_of_mem hb
 rw [List.getElem_drop] at e2
 rw [List.length_drop] at hk
 have:=h2 (i+k) (by omega) (by omega)
 rw [zB,zK (by omega)] at this
 rw [← e2]
 exact this
theorem srt_le {B:List Bd} (hs:B.Pairwise fun a b=>a.at_≤b.at_) {i j:Nat} (hij:i≤j) (hj:j < B.length):(B.getD i default).at_≤(B.getD j default).at_:=by
 rcases Nat.eq_or_lt_of_le hij with rfl | h
 ·exact yR _
 rw [zB,zB,zK hj,zK (by omega)]
 exact wH.1 hs i j (by omega) hj h
theorem srt_split {B:List Bd} (hs:B.Pairwise fun a b=>a.at_≤b.at_) (t:Int):∀ m,m≤B.length→∃ i,i≤m∧(∀ j,j < i→(B.getD j default).at_≤t)∧(∀ j,i≤j→j < m→t < (B.getD j default).at_)
 | 0,_=>⟨0,zD _,fun j h=>absurd h (yA j),fun j _ h=>absurd h (yA j)⟩
 | m+1,hm=>by
  obtain ⟨i,h1,h2,h3⟩:=srt_split hs t m (by omega)
  by_cases h:t < (B.getD m default).at_
  ·refine ⟨i,by omega,h2,fun j h4 h5=>?_⟩
   rcases zU j m with h6 | h6
   ·exact h3 j h4 h6
   ·obtain rfl:j=m:=by omega
    exact h
  ·exact ⟨m+1,zD _,fun j hj=>by have:=srt_le hs (show j≤m by omega) (by omega);omega,fun j h4 h5=>by omega⟩
def kept (B:List Bd) (k:Nat) (t:Int):Prop:=k+1 < B.length∧(B.getD k default).at_≤t∧t < (B.getD (k+1) default).at_∧0 < swN B (k+1)
theorem bds_of_has {l:List Tr} {t:Int} (h:hasB l t=true) : ∃ b,b∈bdsOf l∧t < b.at_:=by
 unfold hasB at h
 rw [List.any_eq_true] at h
 obtain ⟨s,hs,hb⟩:=h
 simp only [zN,zM] at hb
 refine ⟨⟨s.off,0,-1⟩,?_,hb.2⟩
 unfold bdsOf
 rw [List.mem_flatMap]
 exact ⟨s,hs,by rw [zQ (by omega)];simp⟩
theorem kept_iff {B:List Bd} {l:List Tr} (hs:B.Pairwise fun a b=>a.at_≤b.at_) (hp:B.Perm (bdsOf l)) (t:Int):(∃ k,k < B.length∧kept B k t)↔hasB l t=true:=by
 rw [← (sumB_bds t l).2,← sumB_perm hp]
 constructor
 ·rintro ⟨k,_,h1,h2,h3,h4⟩
  rw [sumB_at (i:=k+1) (by omega) (fun j hj=>by have:=srt_le hs (show j≤k by omega) (by omega);omega) (fun j hj hn=>by have:=srt_le hs hj hn;omega)]
  exact h4
 intro h
 have h9:=h
 rw [sumB_perm hp,(sumB_bds t l).2] at h9
 obtain ⟨b,hb,hbt⟩:=bds_of_has h9
 rw [← hp.mem_iff] at hb
 obtain ⟨q,hq,e⟩:=List.getElem_of_mem hb
 obtain ⟨i,h1,h2,h3⟩:=srt_split hs t B.length (zD _)
 rw [sumB_at h1 h2 h3] at h
 have hqi:i≤q:=by
  rcases zU q i with h5 | h5
  ·have:=h2 q h5
   rw [zB,zK hq] at this;simp only [vU,e] at this;omega
  exact h5
 rcases i with _ | i
 ·exact absurd h (by simp [swN])
 exact ⟨i,by omega,by omega,h2 i (by omega),h3 (i+1) (zD _) (by omega),h⟩
theorem snoc_get (p:List Tr) (x:Tr):(p ++ [x]).getD p.length default=x:=by rw [zB,yZ (zD _),vC];rfl
theorem snoc_get' (p:List Tr) (x:Tr) {i:Nat} (h:i < p.length):(p ++ [x]).getD i default=p.getD i default:=by rw [zB,zB,xF h]
theorem ordB_snoc {p:List Tr} {x:Tr}:ordB (p ++ [x])↔ordB p∧x.tm < x.off∧(0 < p.length→(p.getD (p.length - 1) default).off < x.tm):=by
 constructor
 ·intro h
  refine ⟨fun i hi=>?_,?_,fun h0=>?_⟩
  ·have:=h i (by rw [zX];omega)
   rw [snoc_get' p x hi,snoc_get' p x (show i - 1 < p.length by omega)] at this;exact this
  ·have:=(h p.length (by simp)).1
   rw [snoc_get] at this;exact this
  have:=(h p.length (by simp)).2 h0
  rw [snoc_get,snoc_get' p x (show p.length - 1 < p.length by omega)] at this
  exact this
 rintro ⟨h1,h2,h3⟩ i hi
 rw [zX,List.length_singleton] at hi
 rcases zU i p.length with h | h
 ·rw [snoc_get' p x h,snoc_get' p x (show i - 1 < p.length by omega)]
  exact h1 i h
 obtain rfl:i=p.length:=by omega
 rw [snoc_get]
 refine ⟨h2,fun h0=>?_⟩
 rw [snoc_get' p x (show p.length - 1 < p.length by omega)]
 exact h3 h0
theorem hasB_snoc (p:List Tr) (x:Tr) (t:Int):hasB (p ++ [x]) t=true↔hasB p t=true∨(x.tm≤t∧t < x.off):=by
 unfold hasB
 rw [List.any_append]
 simp
structure SwI (B:List Bd) (i:Nat) (o:List Tr):Prop where
 ord:ordB o
 last:i < B.length→0 < o.length→(o.getD (o.length - 1) default).off≤(B.getD i default).at_
 has:∀ t,hasB o t=true↔∃ k,k < i∧kept B k t
 rng:∀ s,s∈o→∃ a b:Bd,a∈B∧b∈B∧s.tm=a.at_∧s.off=b.at_
theorem SwI.step {B:List Bd} (hs:B.Pairwise fun a b=>a.at_≤b.at_) {i:Nat} {o:List Tr} (hi:i < B.length) (h:SwI B i o):SwI B (i+1) (swStep B o i):=by
 have hm:∀ k,k < B.length→B.getD k default∈B:=fun k hk=>by rw [zB,zK hk];exact yT hk
 unfold swStep
 by_cases hc:i+1=B.length∨(B.getD (i+1) default).at_=(B.getD i default).at_∨¬ 0 < swN B (i+1)
 ·rw [zQ hc]
  refine ⟨h.ord,fun h1 h2=>Int.le_trans (h.last hi h2) (srt_le hs (Nat.le_succ i) h1),fun t=>?_,h.rng⟩
  rw [h.has]
  constructor
  ·rintro ⟨k,h1,h2⟩;exact ⟨k,by omega,h2⟩
  rintro ⟨k,h1,h2⟩
  rcases zU k i with h3 | h3
  ·exact ⟨k,h3,h2⟩
  obtain rfl:k=i:=by omega
  obtain ⟨h4,h5,h6,h7⟩:=h2
  rcases hc with h8 | h8 | h8
  ·omega
  ·omega
  exact absurd h7 h8
 rw [zS hc]
 have hn:i+1 < B.length:=by
  rcases zU (i+1) B.length with h1 | h1
  ·exact h1
  exact absurd (.inl (by omega)) hc
 have hlt:(B.getD i default).at_ < (B.getD (i+1) default).at_:=by
  have h1:=srt_le hs (Nat.le_succ i) hn
  have h2 : ¬ (B.getD (i+1) default).at_=(B.getD i default).at_:=fun e=>hc (.inr (.inl e))
  have h1:(B.getD i default).at_≤(B.getD (i+1) default).at_:=h1
  omega
 have hcnt:0 < swN B (i+1):=by
  by_cases h1:0 < swN B (i+1)
  ·exact h1
  exact absurd (.inr (.inr h1)) hc
 have hkp:∀ t,kept B i t↔(B.getD i default).at_≤t∧t < (B.getD (i+1) default).at_:=fun t=>⟨fun h=>⟨h.2.1,h.2.2.1⟩,fun h=>⟨hn,h.1,h.2,hcnt⟩⟩
 have hex:∀ t,(∃ k,k < i+1∧kept B k t)↔(hasB o t=true∨((B.getD i default).at_≤t∧t < (B.getD (i+1) default).at_)):=by
  intro t
  rw [h.has,← hkp t]
  constructor
  ·rintro ⟨k,h1,h2⟩
   rcases zU k i with h3 | h3
   ·exact .inl ⟨k,h3,h2⟩
   (obtain rfl:k=i:=by omega);exact .inr h2
  rintro (⟨k,h1,h2⟩ | h2)
  ·exact ⟨k,by omega,h2⟩
  exact ⟨i,by omega,h2⟩
 by_cases hl:0 < o.length∧(o.getD (o.length - 1) default).off=(B.getD i default).at_;rotate_left
 ·rw [zS hl]
  refine ⟨ordB_snoc.2 ⟨h.ord,hlt,fun h0=>?_⟩,fun h1 _=>?_,fun t=>?_,fun s hsm=>?_⟩
  ·have h1:=h.last hi h0
   have h2 : ¬ (o.getD (o.length - 1) default).off=(B.getD i default).at_:=fun e=>hl ⟨h0,e⟩
   show _ < (B.getD i default).at_;omega
  ·rw [show (o ++ [(⟨(B.getD i default).at_,(B.getD (i+1) default).at_⟩:Tr)]).length - 1=o.length by simp,snoc_get]
   exact yR _
  ·rw [hex,hasB_snoc]
  rw [yJ,yD] at hsm
  rcases hsm with h1 | rfl
  ·exact h.rng s h1
  exact ⟨_,_,hm i hi,hm (i+1) hn,rfl,rfl⟩
 rw [zQ hl]
 obtain ⟨hl1,hl2⟩:=hl
 have hne:o≠[]:=by intro e;rw [e] at hl1;exact absurd hl1 (uB 0)
 obtain ⟨p,z,rfl⟩ : ∃ p z,o=p ++ [z]:=⟨o.dropLast,o.getLast hne,(List.dropLast_concat_getLast hne).symm⟩
 have hlen:(p ++ [z]).length - 1=p.length:=by simp
 rw [hlen,snoc_get] at hl2 ⊢
 have hset:(p ++ [z]).set p.length ⟨z.tm,(B.getD (i+1) default).at_⟩=p ++ [⟨z.tm,(B.getD (i+1) default).at_⟩]:=by rw [List.set_append_right _ _ (zD _),vC];rfl
 rw [hset]
 obtain ⟨o1,o2,o3⟩:=ordB_snoc.1 h.ord
 refine ⟨ordB_snoc.2 ⟨o1,by show z.tm < (B.getD (i+1) default).at_;omega,o3⟩,fun h1 _=>?_,fun t=>?_,fun s hsm=>?_⟩
 ·rw [show (p ++ [(⟨z.tm,(B.getD (i+1) default).at_⟩:Tr)]).length - 1=p.length by simp,snoc_get]
  exact yR _
 ·rw [hex,hasB_snoc,hasB_snoc]
  show (_∨(z.tm≤t∧t < (B.getD (i+1) default).at_))↔_
  constructor
  ·rintro (h1 | ⟨h1,h2⟩)
   ·exact .inl (.inl h1)
   by_cases h3:t < z.off
   ·exact .inl (.inr ⟨h1,h3⟩)
   exact .inr ⟨by omega,h2⟩
  rintro ((h1 | ⟨h1,h2⟩) | ⟨h1,h2⟩)
  ·exact .inl h1
  ·exact .inr ⟨h1,by omega⟩
  exact .inr ⟨by omega,h2⟩
 rw [yJ,yD] at hsm
 rcases hsm with h1 | rfl
 ·exact h.rng s (by simp [h1])
 obtain ⟨a,b,ha,hb,e1,e2⟩:=h.rng z (by simp)
 exact ⟨a,_,ha,hm (i+1) hn,e1,rfl⟩
theorem swI_all {B:List Bd} (hs:B.Pairwise fun a b=>a.at_≤b.at_):∀ i,i≤B.length→SwI B i (swL B i)
 | 0,_=>⟨fun i h=>absurd h (yA i),fun _ h=>absurd h (uB 0),fun t=>⟨fun h=>(by cases h),fun ⟨k,h,_⟩=>absurd h (yA k)⟩,fun s h=>(by cases h)⟩
 | i+1,hi=>(swI_all hs i (by omega)).step hs hi
theorem bds_at {l:List Tr} {b:Bd} (h:b∈bdsOf l) : ∃ s,s∈l∧(b.at_=s.tm∨b.at_=s.off):=by
 unfold bdsOf at h
 rw [List.mem_flatMap] at h
 obtain ⟨s,hs,h⟩:=h
 split at h
 ·simp only [yN,xE,or_false] at h
  rcases h with rfl | rfl
  ·exact ⟨s,hs,.inl rfl⟩
  exact ⟨s,hs,.inr rfl⟩
 cases h
theorem rngB_iff {l:List Tr}:rngB l=true↔∀ s,s∈l→farB s.tm=false∧farB s.off=false:=by
 unfold rngB
 rw [vF,List.any_eq_false]
 constructor
 ·intro h s hs
  have:=h s hs
  cases h1:farB s.tm<;>cases h2:farB s.off<;>simp_all
 intro h s hs
 rw [(h s hs).1,(h s hs).2]
 exact Bool.false_ne_true
structure NormL (l L:List Tr):Prop where
 ord:ordB L
 has:∀ t,hasB L t=hasB l t
 rng:rngB l=true→rngB L=true
theorem norm_of {B:List Bd} {l:List Tr} (hs:B.Pairwise fun a b=>a.at_≤b.at_) (hp:B.Perm (bdsOf l)):NormL l (swL B B.length):=by
 have h:=swI_all hs B.length (zD _)
 refine ⟨h.ord,fun t=>Bool.eq_iff_iff.2 ((h.has t).trans (kept_iff hs hp t)),fun hr=>rngB_iff.2 fun s hsm=>?_⟩
 have hr:=rngB_iff.1 hr
 obtain ⟨a,b,ha,hb,e1,e2⟩:=h.rng s hsm
 obtain ⟨s1,h1,h2⟩:=bds_at (hp.mem_iff.1 ha)
 obtain ⟨s3,h3,h4⟩:=bds_at (hp.mem_iff.1 hb)
 refine ⟨?_,?_⟩
 ·rw [e1];rcases h2 with h2 | h2<;>rw [h2]
  ·exact (hr s1 h1).1
  exact (hr s1 h1).2
 rw [e2];rcases h4 with h4 | h4<;>rw [h4]
 ·exact (hr s3 h3).1
 exact (hr s3 h3).2
end Zn
namespace Go.Proofs.YtppjleebbjipbaaGreat
open Go.RowKit Go.Shelf Go.Lib
set_option maxRecDepth 20000
set_option maxHeartbeats 8000000
theorem run_append_none0 {P:Program} {w:World} (base:Nat) (t ty e:TypeId) (i:TypeInfo) (size:Nat) (ht:P.underlying t=some (.slice e)) (hi:P.info? e=some i)
  (v:Value) (n c:Nat) (xs:List Value) (hown:w.ownsRow base e size v n xs):(Builtin.append_ #[t,t] ty #[v,.slice none 0 c]).run P w=.ok v w:=by
 rcases hown.2 with ⟨rfl,rfl⟩ | ⟨g,cap,cur,rfl,_,_,hnc,_⟩
 ·simp [Builtin.append_,vS ht,Go.sizeOf,typeInfo,hi,Builtin.lenOf,Builtin.firstCells]
 simp [Builtin.append_,vS ht,Go.sizeOf,typeInfo,hi,Builtin.lenOf,Builtin.firstCells,hnc,storeCells]
theorem valT_two:∀ l m:List Zn.Tr,a4g (l++m)=a4g l++a4g m
 | [],m=>rfl
 | x :: l,m=>by simp only [xK,a4g,valT_two l m]
theorem wpList_append_trs {w:World} {ops:Array Oper} {rest:List Oper} {o:Oper} {a:Act} {Q:Exit→Act→World→Prop} (hgd:o.guard=none) (s x:Operand)
  (ho:o.op=.call { callee:=.builtin .append,args:=#[s,x],argTypes:=#[32,32] })
  (base k:Nat) (v:Value) (l:List Zn.Tr) (hs:a.eval s=v) (hown:w.ownsRow base 57 2 v k (a4g l))
  (u:Value) (m:List Zn.Tr) (hx:a.eval x=u) (hu:a2b w u m) (h63:k≤1000000000) (hm:m.length≤1000000000) (hb:base≤w.heap.size)
  (h:∀ v' w',w'.ownsRow base 57 2 v' (k+m.length) (a4g (l++m))→w.grownBy w' v.ownBlock→wpList Tryz.prog ops Q rest (a.put o.dst v') w'):wpList Tryz.prog ops Q (o :: rest) a w:=by
 obtain ⟨i0,hi,hz0,hz1,hz2⟩:=amo
 obtain ⟨ao,c,rfl,hq⟩:=hu
 rcases yM m.length with h0 | h0
 ·cases ao with
  | none =>
   refine wpList_plain hgd fun K hK=>?_
   rw [h0] at hx;have hrun:=run_append_none0 (P:=Tryz.prog) (w:=w) base _ o.type _ i0 2 Tryz.underlying32 hi v k c _ hown;have e0:m = []:=yH.1 h0;unfold Oper.wp;simp [execOp,ho,resolve,invoke,builtin,hs,hx,hrun,Result.andThen];exact hK _ _ (h _ _ (by rw [e0,uA];exact hown) (World.grownBy.refl w _))
  | some ad =>
   have e0:m = []:=yH.1 h0;subst e0
   exact uD w hgd s x _ ho base _ i0 _ 2 16 Tryz.underlying32 hi hz0 hz1 hz2 rfl (by decide) v k _ hs hown ad 0 c [] hx rfl (fun j q hq=>by cases hq) (fun q hq=>by cases hq) (by unfold maxLen;omega) (by omega) hb fun v' w' q1 q2 _=>h v' w' (by rw [uA] at q1 ⊢;exact q1) q2
 obtain ⟨b,off,row,T,fr,rfl,h1,h2⟩:=hq h0
 refine uD w hgd s x _ ho base _ i0 _ 2 16 Tryz.underlying32 hi hz0 hz1 hz2 rfl (by decide) v k _ hs hown ⟨b,off,none⟩ m.length c (a4g m) hx (a9f m) (fun j q hq=>?_) (fun q hq=>?_) (by unfold maxLen;omega) (by omega) hb fun v' w' q1 q2 _=>h v' w' (by rw [valT_two];exact q1) q2
 ·have hj:j < m.length * 2:=by have:=(vK.1 hq).1;rw [a9f] at this;exact this
  obtain ⟨h3,h4⟩:=h2 (j / 2) (by omega)
  have e1:(a4g m)[j]? = (a7c (m.getD (j / 2) default))[j % 2]? := by
   obtain ⟨g1,g2⟩:=abx m (j / 2) (by omega)
   rcases Nat.mod_two_eq_zero_or_one j with h5 | h5
   ·rw [show j=j / 2 * 2 by omega,g1,show j / 2 * 2 % 2=0 by omega,show j / 2 * 2 / 2=j / 2 by omega];rfl
   rw [show j=j / 2 * 2+1 by omega,g2,show (j / 2 * 2+1) % 2=1 by omega,show (j / 2 * 2+1) / 2=j / 2 by omega];rfl
  have e2:row[off+j]? = (a7c (m.getD (j / 2) default))[j % 2]? := by
   have:=a0y (j % 2) h4 (by show j % 2 < 2;omega);rw [show off+j / 2 * 2+j % 2=off+j by omega] at this;exact this
  rw [e1] at hq
  have e3:w.cell? ⟨b,off+j,none⟩=some q:=(a02 h1 (off+j)).trans (e2.trans hq)
  by_cases hj0:j=0
  ·subst hj0;simpa [Addr.add] using e3
  simpa [Addr.add,hj0] using e3
 obtain ⟨j,hj,e⟩:=List.getElem_of_mem hq
 have hj2:j < m.length * 2:=by rw [a9f] at hj;exact hj
 obtain ⟨g1,g2⟩:=abx m (j / 2) (by omega)
 have e9:(a4g m)[j]? = some q:=by rw [zK hj,e]
 rcases Nat.mod_two_eq_zero_or_one j with h5 | h5
 ·rw [show j=j / 2 * 2 by omega,g1] at e9;cases e9;rfl
 rw [show j=j / 2 * 2+1 by omega,g2] at e9;cases e9;rfl
theorem growT_calls (W:World) (n:Nat) (hn:n≤1000000000) :
  Calls Tryz.prog 121 #[.slice none 0 0,.int .i64 n] W fun e w'=>(∃ v,e=.returned v∧w'.ownsRow W.heap.size 57 2 v 0 (a4g []))∧Below W W w':=by
 obtain ⟨i0,hi,hz0,hz1,hz2⟩:=amo
 have w0 : ¬ ((n:Int) < 0):=by omega
 go_enter Tryz.func121,Tryz.ntmps121
 by_cases h0:n=0
 ·subst h0
  repeat'(first|go_skip|go_guarded|go_step|go_upon)
  go_ret
  exact ⟨⟨_,rfl,⟨rfl,.inl ⟨rfl,rfl⟩⟩⟩,zC _ _⟩
 have w1:(0:Int) < (n:Int):=by omega
 have w3:0 < n:=by omega
 have w2:IntKind.wrap .i64 (n:Int)=(n:Int):=by rw [wrap_in]<;>omega
 have hrun:∀ ty,(Builtin.append_ #[32,3] ty #[.slice none 0 0,.int .i64 (n:Int)]).run Tryz.prog W=.ok (.slice (some ⟨W.heap.size,0,none⟩) n (grownCap W n 0 57)) (W.drew.alloc (.cells (Builtin.zeroCells #[.int .i64 0,.int .i64 0] n++Builtin.zeroCells #[.int .i64 0,.int .i64 0] (grownCap W n 0 57 - n)) 57)):=fun ty=>by
  have h:=run_append_grow_zeros (P:=Tryz.prog) W 32 3 ty 57 i0 _ .i64 .i64 Tryz.underlying32 Tryz.underlying3 hi hz0 none 0 0 [] (run_firstCells_none W.drew i0.size 0 0 0) n w3 (by omega) (by omega) (by omega) (by rw [hz2];omega) (by rw [yI];exact growslice_fits (by omega) (by rw [hz2];omega))
  rw [yI] at h
  have e:∀ A:Array Value,([]:List Value).toArray++A=A:=fun A=>by simp
  rw [e] at h
  exact h
 have hGn:n≤grownCap W n 0 57:=grownCap_ge W _ _ _
 have hG63:grownCap W n 0 57≤maxLen:=grownCap_le_maxLen W n 0 57 (by unfold maxLen;omega)
 generalize grownCap W n 0 57=G at *
 repeat' (first | (at_builtin;refine wpList_append_run _ rfl _ _ _ _ rfl _ _ rfl rfl _ _ (hrun _) ?_;dsimp only)|go_skip|go_guarded|go_step|go_upon)
 go_ret
 have hsz:(Builtin.zeroCells #[.int .i64 0,.int .i64 0] n++Builtin.zeroCells #[.int .i64 0,.int .i64 0] (G - n)).size=G * 2:=by
  rw [Array.size_append,size_zeroCells,size_zeroCells]
  show n * 2+(G - n) * 2=G * 2
  omega
 exact ⟨⟨_,rfl,⟨rfl,.inr ⟨W.heap.size,G,_,rfl,zD _,a05 _ _ _ rfl,xG _,hG63,hsz,rfl⟩⟩⟩,bR.drew.alloc (zD _) _⟩
theorem concat_calls {W:World} {u1 u2:Value} {l1 l2:List Zn.Tr} (h1:a2b W u1 l1) (h2:a2b W u2 l2) (hl1:l1.length≤100000000) (hl2:l2.length≤100000000) {g:Nat} (hg:obj W g=some (.cells #[u1,u2] 32 (0,0))) :
  Calls Tryz.prog 80 #[.slice (some ⟨g,0,none⟩) 2 2] W fun e w'=>(∃ v,e=.returned v∧w'.ownsRow W.heap.size 57 2 v (l1++l2).length (a4g (l1++l2)))∧Below W W w':=by
 have HT1:=zA h1
 have HT2:=zA h2
 obtain ⟨ao1,c1,rfl,_⟩:=h1
 obtain ⟨ao2,c2,rfl,_⟩:=h2
 have lg:=a09 hg
 have HG:=zA hg
 have c0:=a02 hg 0
 have c1':=a02 hg 1
 go_enter Tryz.func80,Tryz.ntmps80
 repeat'(first|go_skip|go_guarded|go_step|go_upon)
 go_loopw [3,11] (fun sv iv wr => ∃ i n:Int,(i=0∧n=0∨i=1∧n=l1.length∨i=2∧n=(l1.length+l2.length:Nat))∧iv=.int .i64 i∧sv=.int .i64 n∧wr=W) (fun _ iv _=>(2 - intOf iv).toNat)
 case atStart=>exact ⟨0,0,.inl ⟨rfl,rfl⟩,rfl,rfl,rfl⟩
 obtain ⟨i,n,hi,rfl,rfl,hwr⟩:=hrel
 have hwr:=hwr.symm
 subst hwr
 rcases hi with ⟨rfl,rfl⟩ | ⟨rfl,rfl⟩ | ⟨rfl,rfl⟩
 ·have i1 : ¬ ((l1.length:Int) < 0):=by omega
  repeat'(first|go_skip|go_guarded|go_step|go_upon)
  exact ⟨⟨1,_,.inr (.inl ⟨rfl,rfl⟩),rfl,rfl,(by first | rfl | trivial)⟩,by simp [intOf]⟩
 ·have i1 : ¬ (((l1.length+l2.length:Nat):Int) < 0):=by omega
  have i2:IntKind.wrap .i64 ((l1.length:Int)+(l2.length:Int))=((l1.length+l2.length:Nat):Int):=by rw [wrap_in]<;>omega
  generalize hN:l1.length+l2.length=N at *
  repeat'(first|go_skip|go_guarded|go_step|go_upon)
  exact ⟨⟨2,_,.inr (.inr ⟨rfl,rfl⟩),rfl,rfl,(by first | rfl | trivial)⟩,by simp [intOf]⟩
 have HGC:=zA (growT_calls W (l1.length+l2.length) (by omega))
 generalize hN:l1.length+l2.length=N at *
 clear c0 c1'
 repeat' (first | (go_at_call 121;((with_reducible refine ((HGC.out).mono ?_)));rintro e w3 ⟨⟨v3,rfl,how⟩,hB⟩;dsimp only)|go_skip|go_guarded|go_step|go_upon)
 have kl:=a04 hg hB lg
 go_loopw [6,27] (fun ov iv wz => ∃ (i:Int) (L:List Zn.Tr),(i=0∧L = []∨i=1∧L=l1∨i=2∧L=l1++l2)∧iv=.int .i64 i∧wz.ownsRow W.heap.size 57 2 ov (L).length (a4g (L))∧obj wz g=some (.cells #[.slice ao1 l1.length c1,.slice ao2 l2.length c2] 32 (0,0))∧Below W W wz) (fun _ iv _=>(2 - intOf iv).toNat)
 case atStart=>exact ⟨0,[],.inl ⟨rfl,rfl⟩,rfl,how,kl,hB⟩
 clear how kl hB
 obtain ⟨i,L,hi,rfl,how,kl,hB⟩:=hrel
 obtain ⟨la,lc,hlv⟩:=owns_sl how
 subst hlv
 rcases hi with ⟨rfl,hL⟩ | ⟨rfl,hL⟩ | ⟨rfl,hL⟩<;>(have hL:=hL.symm;subst hL)
 ·have c0:=a02 kl 0
  have hTq:=a1m.below HT1.out hB
  repeat' (first | (at_builtin;(refine wpList_append_trs rfl _ _ rfl W.heap.size ([]).length _ ([]) rfl how _ (l1) rfl hTq (by first | omega | simp) (by omega) hB.size ?_);intro v5 W5 a3p hg5;have kl5:=a19 how kl (by decide) hg5;have hB5:=hB.grown hg5 hB.size (fun g q=>a1p how q);dsimp only)|go_skip|go_guarded|go_step|go_upon)
  exact ⟨⟨1,l1,.inr (.inl ⟨rfl,rfl⟩),rfl,by simpa using a3p,kl5,hB5⟩,by simp [intOf]⟩
 ·have c0:=a02 kl 1
  have hTq:=a1m.below HT2.out hB
  repeat' (first | (at_builtin;(refine wpList_append_trs rfl _ _ rfl W.heap.size (l1).length _ (l1) rfl how _ (l2) rfl hTq (by first | omega | simp) (by omega) hB.size ?_);intro v5 W5 a3p hg5;have kl5:=a19 how kl (by decide) hg5;have hB5:=hB.grown hg5 hB.size (fun g q=>a1p how q);dsimp only)|go_skip|go_guarded|go_step|go_upon)
  exact ⟨⟨2,l1++l2,.inr (.inr ⟨rfl,rfl⟩),rfl,by rw [zX];exact a3p,kl5,hB5⟩,by simp [intOf]⟩
 repeat'(first|go_skip|go_guarded|go_step|go_upon)
 go_ret
 exact ⟨⟨_,rfl,how⟩,hB⟩
end Go.Proofs.YtppjleebbjipbaaGreat
