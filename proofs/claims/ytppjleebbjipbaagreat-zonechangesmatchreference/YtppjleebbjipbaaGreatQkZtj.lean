/-
  A range over a function in a block: the loop's end and the break come to one continuation.
-/
import Derived.Test.YtppjleebbjipbaaGreatQkZti
import Derived.LoopN
set_option linter.all false
namespace Go.Proofs.YtppjleebbjipbaaGreat
open Go.RowKit
theorem wpIn_rangeFunc_join {α:Type} {n:Nat} {P:Program} {g:Operand} {ps:Array Tmp} {assign body:Code} {id:Nat} {K:Exit→Act→World→Prop} {a:Act} {w:World}
  {gf:Nat} {lb:Array Value} (hg:a.eval g=.func (.func gf) #[] lb) (eg:∀ args w,(callFunc gf args).run P w=.ok (.enter gf args) w)
  {V:α→Array Value→World→Prop} {own dep:Nat→Prop} {nx:Nat→Option α} {bound:Nat} (hseq:ary (n - 1) P gf lb V own dep nx bound w) (hown:∀ k,own k→k < w.heap.size)
  (hps:∀ x v W,V x v W→v.size=ps.size) (aaj:∀ k,dep k→k < w.heap.size) (R:Nat→Prop) (hR:∀ k,R k→k < w.heap.size∧¬ dep k)
  (I:Nat→World→Prop) (C R2:World→Prop) (hI:∀ i A B,w.heap.size≤A.heap.size→a1x A.heap.size (fun k=>own k∨k=w.heap.size+1) A B→I i A→I i B)
  (hC:∀ A B,w.heap.size+1 < A.heap.size→a1x A.heap.size (fun k=>k=w.heap.size+1) A B→C A→C B) (hR2:∀ A B,w.heap.size+1 < A.heap.size→a1x A.heap.size (fun k=>k=w.heap.size+1) A B→R2 A→R2 B)
  (hbd:∀ i W,I i W→i≤bound) (h0:I 0 w)
  (aai:∀ (l:Nat) (i:Nat) (x:α) (v:Array Value) (W:World),I i W→nx i=some x→V x v W→w.heap.size+2≤W.heap.size→l=w.heap.size+1→(∀ ad:Addr,ad.block=l→W.cell? ad=none) →
   assign.wpIn (Fence.wide.inRound l) (n - 1 - 1) P (Exit.then (fun a₁ W₁=>Below W W W₁∧∀ W2,Below w.heap.size W₁ W2→(∀ k,k < W₁.heap.size→k≠l→W2.heap[k]? = W₁.heap[k]?)→W2.heap.size=W₁.heap.size →
     body.wpIn (Fence.wide.inRound l) (n - 1 - 1) P (roundUp (fun k=>R k∨w.heap.size+2≤k) (I (i+1)) (fun d W=>(d=.exit id∧C W)∨(d=.ret∧R2 W)) W2) a₁ W2) (fun _ _ _=>False))
    { tmps:=(ps.zip v).foldl (fun t (p,v)=>t.setIfInBounds p v) a.tmps,defers:=[] } W)
  (hnone:∀ i W,nx i=none→I i W→C W)
  (hcont:∀ (D:Nat) (W:World),C W→w.heap.size≤D→W.heap[D]? = some (.deferred (some []))→K .normal { a with defers:={ target:=.collected D,args:=#[] } :: a.defers } W)
  (hret:∀ (D:Nat) (W:World),R2 W→w.heap.size≤D→W.heap[D]? = some (.deferred (some []))→Code.ret.wpIn Fence.wide n P (Exit.inBlock id K) { a with defers:={ target:=.collected D,args:=#[] } :: a.defers } W) :
  (Code.rangeFunc g ps assign body).wpIn Fence.wide n P (Exit.inBlock id K) a w:=by
 refine a3j hg eg hseq hown hps aaj R hR I (fun d W=>(d=.exit id∧C W)∨(d=.ret∧R2 W)) hI ?_ hbd h0 aai ?_ ?_
 ·rintro d A B hz hX (⟨h1,h2⟩ | ⟨h1,h2⟩)
  ·exact .inl ⟨h1,hC A B hz hX h2⟩
  exact .inr ⟨h1,hR2 A B hz hX h2⟩
 ·intro D i W hn hi hD hK
  exact hcont D W (hnone i W hn hi) hD hK
 rintro D d W (⟨rfl,h2⟩ | ⟨rfl,h2⟩) hD hK
 ·refine wpIn_exit ?_
  show (if id=id then K .normal _ W else _)
  rw [zQ rfl]
  exact hcont D W h2 hD hK
 exact hret D W h2 hD hK
end Go.Proofs.YtppjleebbjipbaaGreat
namespace Zn
def sameP (a b:a0w) (E:Int):Prop:=∀ i x,a2s a (ysT a) (a0s a) (-2251799813685248) i=some x→x.tm≤E→x.off=a2u b x.tm
end Zn
namespace Go.Proofs.YtppjleebbjipbaaGreat
open Go.RowKit Go.Shelf
attribute [local go_sem] Oper.semAt_some
set_option maxRecDepth 100000
set_option maxHeartbeats 8000000
theorem inD_lt {W:World} {v:Value} {l:List Zn.Tr} (h:a2b W v l):InD (fun k=>k < W.heap.size) v l:=fun hl b o m c e=>by
 obtain ⟨ao,c',e',hq⟩:=h
 obtain ⟨b',o',row,T,fr,e2,q1,_⟩:=hq hl
 rw [e',e2] at e
 cases e
 exact a09 q1
theorem _root_.Zn.fromN_none {z:Zn.a0w} {ys:List Zn.Tr} {cyc t:Int} {i j:Nat} (h:Zn.a2s z ys cyc t i=none) (hij:i≤j):Zn.a2s z ys cyc t j=none:=by
 unfold Zn.a2s at h ⊢
 by_cases h1:i < (Zn.a3w z t).length
 ·rw [zQ h1] at h;cases h
 rw [zS h1] at h
 rw [zS (by omega)]
 by_cases h2:ys.length=0
 ·rw [zQ h2]
 rw [zS h2] at h;cases h
theorem _root_.Zn.fromN_mono {z:Zn.a0w} {t:Int} (hg:Zn.Good z) {i j:Nat} {x y:Zn.Tr} (hx:Zn.a2s z (Zn.ysT z) (Zn.a0s z) t i=some x) (hy:Zn.a2s z (Zn.ysT z) (Zn.a0s z) t j=some y) (hij:i≤j):x.tm≤y.tm:=by
 rcases Nat.eq_or_lt_of_le hij with rfl | h
 ·rw [hx] at hy;cases hy;exact yR _
 have:=Zn.ach hg h hx hy
 omega
theorem keepD {w w':World} {Q:Nat} {d:Obj} (h:w.heap[Q]? = some d) (hb:Below w w w'):w'.heap[Q]? = some d:=(hb.block Q (zL.1 h).1).trans h
theorem ahc {w w':World} {Q:Nat} {d:Obj} {S:Nat→Prop} (h:w.heap[Q]? = some d) (hb:a1x w.heap.size S w w') (hS : ¬ S Q):w'.heap[Q]? = some d:=(hb.block Q (zL.1 h).1 hS).trans h
def SamePost (W:World) (a b:Zn.a0w) (E:Int) (e:Ending) (w':World):Prop:=(∃ r,e=.returned (.tuple #[.bool r,.int .i64 0])∧(r=true↔a.start=b.start∧Zn.sameP a b E∧Zn.sameP b a E))∧Below W W w'
theorem samePost_of {W w':World} {a b:Zn.a0w} {E:Int} {r:Bool} (h:r=true↔a.start=b.start∧Zn.sameP a b E∧Zn.sameP b a E) (hB:Below W W w'):SamePost W a b E (.returned (.tuple #[.bool r,.int .i64 0])) w':=⟨⟨r,rfl,h⟩,hB⟩
theorem belX_step {B:Nat} {S S':Nat→Prop} {A W X:World} (h:a1x B S A W) (h2:a1x W.heap.size S' W X) (hB:B≤A.heap.size) (hS:∀ k,k < B→S' k→S k):a1x B S A X :=
 ⟨h2.os.trans h.os,h2.tape.trans h.tape,h2.output.trans h.output,yG h.size h2.size,fun k hk hn=>(h2.block k (by have:=h.size;omega) (fun hs=>hn (hS k hk hs))).trans (h.block k hk hn)⟩
theorem Same_calls (HO:OpenSpec) {W:World} {a b:Zn.a0w} {mva rva tva yva mvb rvb tvb yvb:Value} (hva:a1q W a mva rva tva yva) (hra:a.cal.rules.length < 9223372036854775808) (hma:a.cal.a0g.length < 9223372036854775808) (hvb:a1q W b mvb rvb tvb yvb) (hrb:b.cal.rules.length < 9223372036854775808) (hmb:b.cal.a0g.length < 9223372036854775808) (hga:Zn.Good a) (hgb:Zn.Good b) {ca cb lc N:Nat} (hca:Zn.a0s a=(ca:Int)) (hcb:Zn.a0s b=(cb:Int)) (ca1:1≤ca) (ca2:ca≤1000000) (cb1:1≤cb) (cb2:cb≤1000000) (hlc:Nat.lcm ca cb=lc) (hl4:lc≤4194304)
  {sa sb E:Int} (hsa:Zn.a1w a (Zn.ysT a) (Zn.a0s a)=sa) (hsb:Zn.a1w b (Zn.ysT b) (Zn.a0s b)=sb) (sa1 : -4000000000000000≤sa) (sa2:sa≤4000000000000000) (sb1 : -4000000000000000≤sb) (sb2:sb≤4000000000000000) (hE:(if sa < sb then sb else sa)+(lc:Int) * 1440=E)
  (hN:N≤1000000) (hNa:∀ i x,Zn.a2s a (Zn.ysT a) (Zn.a0s a) (-2251799813685248) i=some x→x.tm≤E→i < N) (hNb:∀ i x,Zn.a2s b (Zn.ysT b) (Zn.a0s b) (-2251799813685248) i=some x→x.tm≤E→i < N) :
  Calls Tryz.prog 43 #[.agg #[a.cal.a08,mva,a.cal.a0l,rva,a.start,tva,a.hor,yva],.agg #[b.cal.a08,mvb,b.cal.a0l,rvb,b.start,tvb,b.hor,yvb]] W (SamePost W a b E):=by
 have hona:ones #[a.cal.a08,mva,a.cal.a0l,rva,a.start,tva,a.hor,yva]=true:=a1b hva.cal.mon.one hva.cal.rul.one (a1m.one hva.tr) (a1m.one hva.yr)
 have honb:ones #[b.cal.a08,mvb,b.cal.a0l,rvb,b.start,tvb,b.hor,yvb]=true:=a1b hvb.cal.mon.one hvb.cal.rul.one (a1m.one hvb.tr) (a1m.one hvb.yr)
 have hB0:Below W W ((((W.alloc (.cells #[a.cal.a08,mva,a.cal.a0l,rva,a.start,tva,a.hor,yva] 35)).alloc (.cells #[b.cal.a08,mvb,b.cal.a0l,rvb,b.start,tvb,b.hor,yvb] 35)).alloc (.cells #[.bool false] 4)).alloc (.cells #[(0:Int)] 38)):=((((bR.alloc (zD _) _).alloc (by simp) _).alloc (by simp;omega) _).alloc (by simp;omega) _)
 have oa:obj ((((W.alloc (.cells #[a.cal.a08,mva,a.cal.a0l,rva,a.start,tva,a.hor,yva] 35)).alloc (.cells #[b.cal.a08,mvb,b.cal.a0l,rvb,b.start,tvb,b.hor,yvb] 35)).alloc (.cells #[.bool false] 4)).alloc (.cells #[(0:Int)] 38)) W.heap.size=some (.cells #[a.cal.a08,mva,a.cal.a0l,rva,a.start,tva,a.hor,yva] 35 (0,0)):=a06 (a06 (a06 (a05 _ _ _ rfl) _) _) _
 have ob:obj ((((W.alloc (.cells #[a.cal.a08,mva,a.cal.a0l,rva,a.start,tva,a.hor,yva] 35)).alloc (.cells #[b.cal.a08,mvb,b.cal.a0l,rvb,b.start,tvb,b.hor,yvb] 35)).alloc (.cells #[.bool false] 4)).alloc (.cells #[(0:Int)] 38)) (W.heap.size+1)=some (.cells #[b.cal.a08,mvb,b.cal.a0l,rvb,b.start,tvb,b.hor,yvb] 35 (0,0)):=a06 (a06 (a05 _ _ _ (by simp)) _) _
 have o2:obj ((((W.alloc (.cells #[a.cal.a08,mva,a.cal.a0l,rva,a.start,tva,a.hor,yva] 35)).alloc (.cells #[b.cal.a08,mvb,b.cal.a0l,rvb,b.start,tvb,b.hor,yvb] 35)).alloc (.cells #[.bool false] 4)).alloc (.cells #[(0:Int)] 38)) (W.heap.size+1+1)=some (.cells #[.bool false] 4 (0,0)):=a06 (a05 _ _ _ (by simp)) _
 have o3:obj ((((W.alloc (.cells #[a.cal.a08,mva,a.cal.a0l,rva,a.start,tva,a.hor,yva] 35)).alloc (.cells #[b.cal.a08,mvb,b.cal.a0l,rvb,b.start,tvb,b.hor,yvb] 35)).alloc (.cells #[.bool false] 4)).alloc (.cells #[(0:Int)] 38)) (W.heap.size+1+2)=some (.cells #[(0:Int)] 38 (0,0)):=a05 _ _ _ (by simp)
 have z0:((((W.alloc (.cells #[a.cal.a08,mva,a.cal.a0l,rva,a.start,tva,a.hor,yva] 35)).alloc (.cells #[b.cal.a08,mvb,b.cal.a0l,rvb,b.start,tvb,b.hor,yvb] 35)).alloc (.cells #[.bool false] 4)).alloc (.cells #[(0:Int)] 38)).heap.size=W.heap.size+4:=by simp
 have HA:=zA (fun (Wq:World) (hq:Below W W Wq)=>HO (hva.below hq) hra hma (inD_lt hva.tr))
 have HB:=zA (fun (Wq:World) (hq:Below W W Wq)=>HO (hvb.below hq) hrb hmb (inD_lt hvb.tr))
 unfold a3z at HA HB
 rw [Zn.a0v.2 hga] at HA
 rw [Zn.a0v.2 hgb] at HB
 have HKA:=zA hga.ck
 have HGA:=zA hga
 have HGB:=zA hgb
 have HKB:=zA hgb.ck
 have HLC:=zA (fun Wq:World=>ajq (W:=Wq) ca1 ca2 cb1 cb2)
 rw [hlc] at HLC
 have HNA:=zA hNa
 have HNB:=zA hNb
 have HSA:=zA hsa
 have HSB:=zA hsb
 have HCYA:=zA hca
 have HCYB:=zA hcb
 have HEE:=zA hE
 have hEb:E≤4100000000000000:=by rw [← hE];split<;>omega
 clear hva hvb hga hgb hNa hNb hsa hsb hca hcb hE hlc
 refine (wW (n:=8)).1 ?_
 refine callsIn_of_wp_marks Tryz.func43 rfl trivial ?_
 refine wpIn_wide.2 ?_
 simp only [Tryz.ntmps43,xJ,yS,xI,Nat.reduceAdd,Nat.reduceSub,xZ,xY,wK,wE,wO,xK]
 repeat' ((go_not_at_region 1);(first|go_skip|go_guarded|go_step|go_upon))
 generalize ((((W.alloc (.cells #[a.cal.a08,mva,a.cal.a0l,rva,a.start,tva,a.hor,yva] 35)).alloc (.cells #[b.cal.a08,mvb,b.cal.a0l,rvb,b.start,tvb,b.hor,yvb] 35)).alloc (.cells #[.bool false] 4)).alloc (.cells #[(0:Int)] 38))=V at *
 repeat' ((go_not_at_region 2);(first | (go_at_call 54;((with_reducible refine ((HA.out _ hB0).mono ?_)));rintro e w1 ⟨⟨p1,rfl,hg1⟩,hB'⟩;obtain ⟨ga,hp1,hka,lga1⟩:=hg1 rfl;subst hp1;have hB1:=hB0.trans (hB'.mono hB0.size);have z1:=hB'.size;have oa1:=a0a oa hB';have ob1:=a0a ob hB';have q2:=a0a o2 hB';have q3:=a0a o3 hB';dsimp only)|go_skip|go_guarded|go_step|go_upon))
 clear oa ob o2 o3 hB' hg1
 repeat' ((go_not_at_region 3);(first | (go_at_call 54;((with_reducible refine ((HB.out _ hB1).mono ?_)));rintro e w2 ⟨⟨p2,rfl,hg2⟩,hB'⟩;obtain ⟨gb,hp2,hkb,lgb1⟩:=hg2 rfl;subst hp2;have hB:=hB1.trans (hB'.mono hB1.size);have z2:=hB'.size;have oa:=a0a oa1 hB';have ob:=a0a ob1 hB';have o2:=a0a q2 hB';have o3:=a0a q3 hB';dsimp only)|go_skip|go_guarded|go_step|go_upon))
 have HCA:=zA ((hka.below hB').mono (E:=fun k=>k < W.heap.size∨W.heap.size+4≤k) (fun k h=>h.imp id fun h=>by omega)).lt
 have HCB:=zA (hkb.mono (E:=fun k=>k < W.heap.size∨W.heap.size+4≤k) (fun k h=>h.imp id fun h=>by omega)).lt
 have hnc:w2.heap.size=w2.heap.size:=rfl
 generalize hncc:w2.heap.size=nC at HCA HCB hnc
 have hnC:nC≤w2.heap.size:=by omega
 have hnS:W.heap.size+4≤nC:=by omega
 clear hncc hnc
 clear hka hkb hg2 hB' oa1 ob1 q2 q3 hB0 hB1
 obtain ⟨_,_,_,_,_,kga,_⟩:=HCA.out
 obtain ⟨_,_,_,_,_,kgb,_⟩:=HCB.out
 rw [HCYA.out] at kga
 rw [HCYB.out] at kgb
 have lga:=a09 kga
 have lgb:=a09 kgb
 have i4 : ¬ (4194304:Int) < (lc:Int):=by omega
 repeat' ((go_not_at_region 5);(first|go_skip|go_guarded|go_step|go_upon))
 refine aav 12 [11] [([],fun v _=>v=.pointer (some ⟨ga,0,none⟩)),([0],fun v _=>v=.pointer (some ⟨ga,0,none⟩)),([1],fun v _=>v=.pointer (some ⟨ga,9,none⟩)),([2],fun v _=>v=.int .i64 (ca:Nat)),([],fun v _=>v=.pointer (some ⟨gb,0,none⟩)),([4],fun v _=>v=.pointer (some ⟨gb,0,none⟩)),([5],fun v _=>v=.pointer (some ⟨gb,9,none⟩)),([6],fun v _=>v=.int .i64 (cb:Nat)),([3,7],fun v _=>v=.tuple #[.int .i64 (lc:Nat),.int .i64 0]),([8],fun v _=>v=.tuple #[.int .i64 (lc:Nat),.int .i64 0]),([9],fun v _=>v=.int .i64 (lc:Nat)),
   ([9],fun v _=>v=.int .i64 0)] (by kernel_rfl) (by kernel_rfl) (by kernel_rfl) (by kernel_rfl) (by kernel_rfl) ⟨?l11,trivial⟩ ?st ?ob ?_
 case l11 => intro v W h;exact ⟨_,by rw [h];rfl,rfl⟩
 case st => intro k v W1 W2 h hb;rcases k with _|_|_|_|_|_|_|_|_|_|_|_|k<;>first | exact h | trivial
 case ob => and_intros<;>first|exact ⟨⟩|(intro vs Wq hW hk;(have q0:=a02 (a04 kga hW lga) 9);(have q1:=a02 (a04 kgb hW lgb) 9);(try simp only [knows,Spec.at',↓zH,↓zG,yL] at hk);simp only [Spec.at',↓zH,↓zG,a00,a03,yy0,yy1,yy2,yy3];(try simp only [hk]);first | ((repeat'(first|go_skip|go_guarded|go_step|go_upon));exact a01 _ rfl (by go_simp) bR rfl) | ((have HX:=zA (HLC.out Wq));(repeat' (first | (go_at_call 84;((with_reducible refine (HX.out).mono ?_));rintro e w9 ⟨rfl,hb9⟩;dsimp only)|go_skip|go_guarded|go_step|go_upon));exact a01 _ rfl (by go_simp) hb9 rfl) | fail)
 intro vs W2 hW2 hk2
 have v10:vs 10=.int .i64 (lc:Nat):=hk2 10 (by decide)
 have v11:vs 11=.int .i64 0:=hk2 11 (by decide)
 clear hk2
 dsimp only [a1d,List.take,List.drop]
 simp only [Act.put,zF,zI,zJ]
 rw [v10,v11]
 generalize vs 0=e0,vs 1=e1,vs 2=e2,vs 3=e3,vs 4=e4,vs 5=e5,vs 6=e6,vs 7=e7,vs 8=e8,vs 9=e9
 clear v10 v11
 have HCA:=zA (HCA.out.below hW2)
 have HCB:=zA (HCB.out.below hW2)
 have oa:=a0a oa hW2
 have ob:=a0a ob hW2
 have o2:=a0a o2 hW2
 have o3:=a0a o3 hW2
 have hB:=hB.trans (hW2.mono hB.size)
 have hnC:=yG hnC hW2.size
 clear hW2 kga kgb lga lgb HLC
 repeat'(first|go_skip|go_guarded|go_step|go_upon)
 refine ⟨.inl rfl,?_⟩
 repeat' ((go_not_at_region 6);(first|go_skip|go_guarded|go_step|go_upon))
 have ca4:=a02 oa 4
 have cb4:=a02 ob 4
 by_cases hst:a.start=b.start;rotate_left
 ·have f1:=a0d o2 0
  have f2:=a0d (a07 o3 ⟨W.heap.size+1+1,0,none⟩ (show W.heap.size+1+2≠W.heap.size+1+1 by omega) (.bool false)) 0
  have k1:=a02 o2 0
  have k2:=a02 (a07 o3 ⟨W.heap.size+1+1,0,none⟩ (show W.heap.size+1+2≠W.heap.size+1+1 by omega) (.bool false)) 0
  repeat'(first|go_skip|go_guarded|go_step|go_upon)
  refine ⟨_,a0i rfl _ _ (W.heap.size+1+1) (W.heap.size+1+2) (.bool false) (.int .i64 0) _ _ rfl rfl (a02 (a0p o2 o3).1 0) (a02 (a0p o2 o3).2 0) Tryz.underlying4 rfl Tryz.underlying38 rfl,samePost_of ⟨fun h=>(by cases h),fun h=>absurd h.1 hst⟩ (((hB).setCell (by simp;omega) _).setCell (by simp;omega) _)⟩
 repeat' ((
      go_not_at_region 10);(first|go_skip|go_guarded|go_step|go_upon))
 have HTA:=zA (a7t HCA.out.clk HKA.out)
 have HTB:=zA (fun (Wq:World) (hq:Below W2 W2 Wq)=>a7t (HCB.out.clk.below hq) HKB.out)
 rw [HSA.out] at HTA
 rw [HSB.out] at HTB
 have wE1:IntKind.wrap .i64 ((if sa < sb then sb else sa)+(lc:Int) * 1440)=E:=by rw [HEE.out,wrap_in]<;>rw [← HEE.out]<;>split<;>omega
 have wE2:IntKind.wrap .i64 (max sa sb+(lc:Int) * 1440)=E:=by rw [← wE1];congr 2;rw [Int.max_def];split<;>split<;>omega
 have wE3:=zWI ((lc:Int) * 1440)
 repeat' ((go_not_at_region 11);(first | (go_at_call 85;((with_reducible refine ((HTA.out).mono ?_)));rintro e w3 ⟨rfl,hB3⟩;have HTB3:=zA (HTB.out _ hB3);dsimp only) | (go_at_call 85;((with_reducible refine ((HTB3.out).mono ?_)));rintro e w4 ⟨rfl,hB4⟩;have hB24:=hB3.trans (hB4.mono hB3.size);dsimp only)|go_skip|go_guarded|go_step|go_upon))
 have A5:=(zC w4.heap.size w4).alloc (zD _) (.cells #[E] 3)
 have kE:obj (w4.alloc (.cells #[E] 3)) w4.heap.size=some (.cells #[E] 3 (0,0)):=a05 _ _ _ rfl
 have B5:=hB24.trans (A5.mono hB24.size)
 have hbE:W2.heap.size≤w4.heap.size:=hB24.size
 clear hB3 hB4 hB24 A5 HTB3 HTA HTB wE1 wE2 wE3
 generalize (w4.alloc (.cells #[E] 3))=w5 at *
 generalize w4.heap.size=bE at *
 repeat'(first|go_skip|go_guarded|go_step|go_upon)
 have A6:=(zC w5.heap.size w5).alloc (zD _) (.cells #[.pointer (some ⟨ga,0,none⟩),.pointer (some ⟨gb,0,none⟩),.pointer (some ⟨gb,0,none⟩),.pointer (some ⟨ga,0,none⟩)] 138)
 have kP:obj (w5.alloc (.cells #[.pointer (some ⟨ga,0,none⟩),.pointer (some ⟨gb,0,none⟩),.pointer (some ⟨gb,0,none⟩),.pointer (some ⟨ga,0,none⟩)] 138)) w5.heap.size=some (.cells #[.pointer (some ⟨ga,0,none⟩),.pointer (some ⟨gb,0,none⟩),.pointer (some ⟨gb,0,none⟩),.pointer (some ⟨ga,0,none⟩)] 138 (0,0)):=a05 _ _ _ rfl
 have kE:=a0a kE A6
 have B6:=B5.trans (A6.mono B5.size)
 have hbP:W2.heap.size≤w5.heap.size:=B5.size
 have lE:=a09 kE
 clear A6 B5
 generalize hw6:(w5.alloc (.cells #[.pointer (some ⟨ga,0,none⟩),.pointer (some ⟨gb,0,none⟩),.pointer (some ⟨gb,0,none⟩),.pointer (some ⟨ga,0,none⟩)] 138))=w6 at *
 have z6:w5.heap.size < w6.heap.size:=by rw [← hw6];simp
 clear hw6
 generalize w5.heap.size=bP at *
 have oa:=a0a oa B6
 have ob:=a0a ob B6
 have o2:=a0a o2 B6
 have o3:=a0a o3 B6
 have HCA:=zA (HCA.out.below B6)
 have HCB:=zA (HCB.out.below B6)
 have hB:=hB.trans (B6.mono hB.size)
 clear B6
 have p0:=a02 kP 0
 have p1:=a02 kP 1
 have p2:=a02 kP 2
 have p3:=a02 kP 3
 refine wp_loop_rounds 3 ?_
 rw [rounds_succ]
 repeat' ((go_not_at_region 14);(first|go_skip|go_guarded|go_step|go_upon))
 have A7:=(zC w6.heap.size w6).alloc (zD _) (.cells #[.pointer (some ⟨ga,0,none⟩),.pointer (some ⟨gb,0,none⟩)] 138)
 have kQ:obj (w6.alloc (.cells #[.pointer (some ⟨ga,0,none⟩),.pointer (some ⟨gb,0,none⟩)] 138)) w6.heap.size=some (.cells #[.pointer (some ⟨ga,0,none⟩),.pointer (some ⟨gb,0,none⟩)] 138 (0,0)):=a05 _ _ _ rfl
 have hbQ:nC≤w6.heap.size:=by have:=a09 kE;omega
 have o2:=a0a o2 A7
 have o3:=a0a o3 A7
 have kE:=a0a kE A7
 have kP:=a0a kP A7
 have HCA:=zA (HCA.out.below A7)
 have HCB:=zA (HCB.out.below A7)
 have hB:=hB.trans (A7.mono hB.size)
 clear A7
 generalize hw7:(w6.alloc (.cells #[.pointer (some ⟨ga,0,none⟩),.pointer (some ⟨gb,0,none⟩)] 138))=w7 at *
 have z7:w6.heap.size < w7.heap.size:=by rw [← hw7];simp
 clear hw7
 generalize w6.heap.size=bQ at *
 have q0:=a02 kQ 0
 have HFR:=zA (a6r w7 ga (-2251799813685248))
 repeat' (first | (go_at_call 86;((with_reducible refine ((HFR.out).mono ?_)));rintro e w8 ⟨rfl,rfl⟩;dsimp only)|go_skip|go_guarded|go_step|go_upon)
 have bA:obj ((w7.alloc (.cells #[.pointer (some ⟨ga,0,none⟩)] 96)).alloc (.cells #[(-2251799813685248:Int)] 3)) w7.heap.size=some (.cells #[.pointer (some ⟨ga,0,none⟩)] 96 (0,0)):=a06 (a05 _ _ _ rfl) _
 have bB:obj ((w7.alloc (.cells #[.pointer (some ⟨ga,0,none⟩)] 96)).alloc (.cells #[(-2251799813685248:Int)] 3)) (w7.heap.size+1)=some (.cells #[(-2251799813685248:Int)] 3 (0,0)):=a05 _ _ _ (by simp)
 have B8:Below w7 w7 ((w7.alloc (.cells #[.pointer (some ⟨ga,0,none⟩)] 96)).alloc (.cells #[(-2251799813685248:Int)] 3)):=(bR.alloc (zD _) _).alloc (by simp) _
 have o2:=a0a o2 B8
 have o3:=a0a o3 B8
 have kE:=a0a kE B8
 have kP:=a0a kP B8
 have HCA:=zA (HCA.out.below B8)
 have HCB:=zA (HCB.out.below B8)
 have hB:=hB.trans (B8.mono hB.size)
 have kQ:=a0a kQ B8
 clear B8 HFR q0
 generalize hw8:((w7.alloc (.cells #[.pointer (some ⟨ga,0,none⟩)] 96)).alloc (.cells #[(-2251799813685248:Int)] 3))=w8 at *
 have z8:w7.heap.size+2≤w8.heap.size:=by rw [← hw8];simp
 clear hw8
 generalize w7.heap.size=nA at *
 have lE:=a09 kE
 have lP:=a09 kP
 have HHB:=zA hB
 clear hB p0 p1 p2 p3
 refine wpIn_wide (n:=8).1 ?_
 refine wpIn_rangeFunc_join (n:=8) (gf:=126) (lb:=#[.pointer (some ⟨nA,0,none⟩),.pointer (some ⟨nA+1,0,none⟩)]) rfl (enters_of Tryz.func126 (by kernel_rfl) rfl)
  (a9n 7 (by omega) nA (nA+1) (by omega) ga HKA.out (by omega) (by omega) (fun k=>(k < W.heap.size∨W.heap.size+4≤k)∧k < nC) (by omega) (by omega) N hN w8 bA bB HCA.out)
  ?hown0 (fun x v W hv=>by subst hv;rfl) ?hdep0 (fun k=>k=W.heap.size+1+1∨k=W.heap.size+1+2) ?hR0
  (fun i W'=>i≤N∧(∀ j x,j < i→Zn.a2s a (Zn.ysT a) (Zn.a0s a) (-2251799813685248) j=some x→x.tm≤E∧x.off=Zn.a2u b x.tm)∧a1x w8.heap.size (fun k=>k=nA+1) w8 W')
  (fun W'=>Zn.sameP a b E∧a1x w8.heap.size (fun k=>k=nA+1) w8 W')
  (fun W' => ¬ Zn.sameP a b E∧obj W' (W.heap.size+1+1)=some (.cells #[.bool false] 4 (0,0))∧obj W' (W.heap.size+1+2)=some (.cells #[(0:Int)] 38 (0,0))∧a1x w8.heap.size (fun k=>k=nA+1∨k=W.heap.size+1+1∨k=W.heap.size+1+2) w8 W')
  ?hI0 ?hC0 ?hR20 (fun i W h=>h.1) ⟨xG _,fun j x h=>absurd h (yA j),a1x.of bR _⟩ ?round0 ?hnone0 ?hcont0 ?hret0
 case hown0=>rintro k rfl;omega
 case hdep0 =>
  rintro k (rfl | rfl | h)
  ·omega
  ·omega
  ·have h:=h.2
   omega
 case hR0 =>
  rintro k (rfl | rfl)
  ·exact ⟨by omega,by rintro (h | h | ⟨h,_⟩)<;>omega⟩
  ·exact ⟨by omega,by rintro (h | h | ⟨h,_⟩)<;>omega⟩
 case hI0 => rintro i A B hz hAB ⟨h1,h2,h3⟩;exact ⟨h1,h2,belX_step h3 hAB (zD _) (fun k hk hs=>by omega)⟩
 case hC0 => rintro A B hz hAB ⟨h1,h2⟩;exact ⟨h1,belX_step h2 hAB (zD _) (fun k hk hs=>by omega)⟩
 case hR20 => rintro A B hz hAB ⟨h1,h2,h3,h4⟩;exact ⟨h1,hAB.obj h2 (by omega) (by omega),hAB.obj h3 (by omega) (by omega),belX_step h4 hAB (zD _) (fun k hk hs=>by omega)⟩
 case hnone0 =>
  rintro i W1 hn ⟨h1,h2,h3⟩
  refine ⟨fun j x hj he=>?_,h3⟩
  rcases zU j i with h4 | h4
  ·exact (h2 j x h4 hj).2
  ·rw [Zn.fromN_none hn h4] at hj
   cases hj
 case round0 =>
  rintro lk i x v W1 ⟨h1,h2,h3⟩ hx rfl hz1 hlk hlc
  subst hlk
  have hon:ones #[x.tm,x.off]=true:=by simp [ones,a0n]
  have rz:a7c x=#[.int .i64 x.tm,.int .i64 x.off]:=rfl
  have H2:=zA h2
  have HX0:=zA hx
  clear h2 hx
  dsimp only
  rw [rz]
  clear rz
  gi_wp2_with fail
  refine ⟨bR.alloc (zD _) _,fun W2 hB2 hkeep hsz=>?_⟩
  have hX2:a1x W1.heap.size (fun k=>k=w8.heap.size+1) W1 W2:=⟨hB2.os,hB2.tape,hB2.output,by have:=hB2.size;simp at this;omega,fun k hk hn=>(hkeep k (by first | omega | (simp;omega)) hn).trans (vT _ _ hk)⟩
  have k6:obj W2 W1.heap.size=some (.cells #[x.tm,x.off] 57 (0,0)):=(hkeep W1.heap.size (by first | omega | simp) (by omega)).trans (a05 _ _ _ rfl)
  have hX:=belX_step h3 hX2 (zD _) (fun k hk hs=>by omega)
  have kE2:=hX.obj kE lE (by omega)
  have kQ2:=hX.obj kQ (by omega) (by omega)
  have o2':=hX.obj o2 (a09 o2) (by omega)
  have o3':=hX.obj o3 (a09 o3) (by omega)
  have HCO:=zA (HCB.out.keep (fun k hk hd=>hX.block k hk (by have:=hd.2;omega)))
  have hlx:W1.heap.size < W2.heap.size:=a09 k6
  have h8:w8.heap.size≤W1.heap.size:=h3.size
  clear h3 hX2 hB2 hkeep hlc hsz
  generalize W1.heap.size=lx at *
  have c60:=a02 k6 0
  have cE0:=a02 kE2 0
  by_cases hu:E < x.tm
  ·have HS:Hid (Zn.sameP a b E):=zA (fun j y hj he=>by
    rcases zU j i with h4 | h4
    ·exact (H2.out j y h4 hj).2
    ·have:=Zn.fromN_mono HGA.out HX0.out hj h4
     omega)
   gi_wp2_with fail
   exact ⟨a0o.refl _ _,.inl ⟨rfl,HS.out,hX⟩⟩
  ·have hiN:=HNA.out i x HX0.out (by omega)
   have hxl:=(Zn.a6q HGA.out HX0.out).2;have HOF:=zA (fun (Wq:World) (hq:Below W2 W2 Wq)=>a96 (HCO.out.clk.below hq) HKB.out (t:=x.tm) (by omega) (by omega))
   obtain ⟨fo,hfo⟩ : ∃ fo,Zn.a2u b x.tm=fo:=⟨_,rfl⟩
   have HFO:=zA hfo;rw [show Zn.a5a b (Zn.ysT b) (Zn.a0s b) x.tm=fo from hfo] at HOF;clear hfo;have lk6:=a09 k6;have lkQ:=a09 kQ2
   repeat' ((fail_if_success (change Code.wpIn _ _ _ (Code.region 17 _ _) _ _ _));(first | go_values | gi_guarded | gi_step | gi_upon | gi_back))
   by_cases hne:x.off=fo
   ·have HP1:Hid (∀ j y,j < i+1→Zn.a2s a (Zn.ysT a) (Zn.a0s a) (-2251799813685248) j=some y→y.tm≤E∧y.off=Zn.a2u b y.tm):=zA (fun j y hj he=>by
     rcases zU j i with h4 | h4
     ·exact H2.out j y h4 he
     ·obtain rfl:j=i:=by omega
      have h5:=HX0.out.symm.trans he;cases h5
      exact ⟨by omega,hne.trans HFO.out.symm⟩)
    refine a9u 8 [([],fun v _=>v=.pointer (some ⟨lx,1,none⟩)),([0],fun v _=>v=.int .i64 x.off),([],fun v _=>v=.pointer (some ⟨bQ,1,none⟩)),([2],fun v _=>v=.pointer (some ⟨gb,0,none⟩)),([],fun v _=>v=.pointer (some ⟨lx,0,none⟩)),([4],fun v _=>v=.int .i64 x.tm),([3,5],fun v _=>v=.int .i64 fo),
      ([1,6],fun v _=>v=.bool false)] (by kernel_rfl) (by kernel_rfl) (by kernel_rfl) (by kernel_rfl) (fun _ _ h=>h) ?st ?ob ?tl
    case st => intro k v W1 W2 h hb;rcases k with _|_|_|_|_|_|_|_|k<;>first | exact h | trivial
    case ob => and_intros<;>first|exact ⟨⟩|(intro vs Wq hW hk;(have q0:=a02 (a04 k6 hW lk6) 1);(have q1:=a02 (a04 kQ2 hW lkQ) 1);(have q2:=a02 (a04 k6 hW lk6) 0);(try simp only [knows,Spec.at',↓zH,↓zG,yL] at hk);simp only [Spec.at',↓zH,↓zG,a00,a03,yy0,yy1,yy2,yy3];(try simp only [hk]);first | ((repeat'(first|go_skip|go_guarded|go_step|go_upon));exact a01 _ rfl (by go_simp) bR rfl) | ((have HX:=zA (HOF.out Wq hW));(repeat' (first | (go_at_call 56;((with_reducible refine (HX.out).mono ?_));rintro e w9 ⟨rfl,hb9⟩;dsimp only)|go_skip|go_guarded|go_step|go_upon));exact a01 _ rfl (by go_simp) hb9 rfl) | fail)
    case tl => intro vs W3 hW3 hk3;have v7:vs 7=.bool false:=hk3 7 (by decide);clear hk3;dsimp only [a1d,List.take,List.drop];simp only [Act.put,zF,zI,zJ];rw [v7];generalize vs 0=e0,vs 1=e1,vs 2=e2,vs 3=e3,vs 4=e4,vs 5=e5,vs 6=e6;clear v7;(repeat'(first|go_skip|go_guarded|go_step|go_upon));gi_wp2_with fail;exact ⟨⟨hW3.size,fun k hk hn=>hW3.block k hk⟩,by omega,HP1.out,belX_step hX (a1x.of hW3 (fun _=>False)) (zD _) (fun k hk hs=>hs.elim)⟩
   ·have HNS:Hid (¬ Zn.sameP a b E):=zA (fun h=>hne ((h i x HX0.out (by omega)).trans HFO.out))
    refine a9u 8 [([],fun v _=>v=.pointer (some ⟨lx,1,none⟩)),([0],fun v _=>v=.int .i64 x.off),([],fun v _=>v=.pointer (some ⟨bQ,1,none⟩)),([2],fun v _=>v=.pointer (some ⟨gb,0,none⟩)),([],fun v _=>v=.pointer (some ⟨lx,0,none⟩)),([4],fun v _=>v=.int .i64 x.tm),([3,5],fun v _=>v=.int .i64 fo),
      ([1,6],fun v _=>v=.bool true)] (by kernel_rfl) (by kernel_rfl) (by kernel_rfl) (by kernel_rfl) (fun _ _ h=>h) ?st ?ob ?tl
    case st => intro k v W1 W2 h hb;rcases k with _|_|_|_|_|_|_|_|k<;>first | exact h | trivial
    case ob => and_intros<;>first|exact ⟨⟩|(intro vs Wq hW hk;(have q0:=a02 (a04 k6 hW lk6) 1);(have q1:=a02 (a04 kQ2 hW lkQ) 1);(have q2:=a02 (a04 k6 hW lk6) 0);(try simp only [knows,Spec.at',↓zH,↓zG,yL] at hk);simp only [Spec.at',↓zH,↓zG,a00,a03,yy0,yy1,yy2,yy3];(try simp only [hk]);first | ((repeat'(first|go_skip|go_guarded|go_step|go_upon));exact a01 _ rfl (by go_simp) bR rfl) | ((have HX:=zA (HOF.out Wq hW));(repeat' (first | (go_at_call 56;((with_reducible refine (HX.out).mono ?_));rintro e w9 ⟨rfl,hb9⟩;dsimp only)|go_skip|go_guarded|go_step|go_upon));exact a01 _ rfl (by go_simp) hb9 rfl) | fail)
    case tl => intro vs W3 hW3 hk3;have v7:vs 7=.bool true:=hk3 7 (by decide);clear hk3;dsimp only [a1d,List.take,List.drop];simp only [Act.put,zF,zI,zJ];rw [v7];generalize vs 0=e0,vs 1=e1,vs 2=e2,vs 3=e3,vs 4=e4,vs 5=e5,vs 6=e6;clear v7;have o2:=a0a o2' hW3;have o3:=a0a o3' hW3;have f1:=a0d o2 0;have f2:=a0d (a07 o3 ⟨W.heap.size+1+1,0,none⟩ (show W.heap.size+1+2≠W.heap.size+1+1 by omega) (.bool false)) 0;have k1:=a02 o2 0;have k2:=a02 (a07 o3 ⟨W.heap.size+1+1,0,none⟩ (show W.heap.size+1+2≠W.heap.size+1+1 by omega) (.bool false)) 0;(repeat'(first|go_skip|go_guarded|go_step|go_upon));gi_wp2_with fail;have hX3:=belX_step hX (a1x.of hW3 (fun _=>False)) (zD _) (fun k hk hs=>hs.elim);exact ⟨⟨by have:=hW3.size;simpa using this,fun k hk hn=>(zO _ _ _ _ (fun e=>hn (.inl (.inr e)))).trans ((zO _ _ _ _ (fun e=>hn (.inl (.inl e)))).trans (hW3.block k hk))⟩,.inr ⟨rfl,HNS.out,(a0p o2 o3).1,(a0p o2 o3).2,⟨hX3.os,hX3.tape,hX3.output,by simpa using hX3.size,fun k hk hn=>(zO _ _ _ _ (fun e=>hn (.inr (.inr e)))).trans ((zO _ _ _ _ (fun e=>hn (.inr (.inl e)))).trans (hX3.block k hk (fun h=>hn (.inl h))))⟩⟩⟩
 case hret0 => rintro Q2 W1 ⟨hns,h2,h3,hX⟩ hD hK;have HK:=zA hK;have HNS:=zA hns;have HBB:=zA (HHB.out.trans (hX.below (m:=W.heap.size) (by omega) (fun k hk=>by omega)));clear hns hK hX;gi_wp2_with fail;refine ⟨by simp,.inl ⟨_,_,rfl,run_takeDeferred HK.out,?_⟩⟩;exact ⟨_,a0i rfl _ _ (W.heap.size+1+1) (W.heap.size+1+2) (.bool false) (.int .i64 0) _ _ rfl rfl (a02 ((World.putObj_heap_other (show W.heap.size+1+1≠Q2 by omega)).trans h2) 0) (a02 ((World.putObj_heap_other (show W.heap.size+1+2≠Q2 by omega)).trans h3) 0) Tryz.underlying4 rfl Tryz.underlying38 rfl,samePost_of ⟨fun h=>(by cases h),fun h=>absurd h.2.1 HNS.out⟩ (a1r HBB.out (by omega))⟩
 rintro Q1 w6 ⟨hs,hX⟩ hD hK
 have HP0:=zA hs
 have o2:=hX.obj o2 (a09 o2) (by omega)
 have o3:=hX.obj o3 (a09 o3) (by omega)
 have kE:=hX.obj kE lE (by omega)
 have kP:=hX.obj kP lP (by omega)
 have HCA:=zA (HCA.out.keep (fun k hk hd=>hX.block k hk (by have:=hd.2;omega)))
 have HCB:=zA (HCB.out.keep (fun k hk hd=>hX.block k hk (by have:=hd.2;omega)))
 have hB:=HHB.out.trans (hX.below (by omega) (fun k hk=>by omega))
 have hzz:=hX.size
 have hD1:=hD
 have hq1:=hK
 have lq1:Q1 < w6.heap.size:=(zL.1 hq1).1
 clear hs hX hD hK kQ bA bB
 have p0:=a02 kP 0
 have p1:=a02 kP 1
 have p2:=a02 kP 2
 have p3:=a02 kP 3
 repeat'(first|go_skip|go_guarded|go_step|go_upon)
 rw [rounds_succ]
 repeat' ((go_not_at_region 14);(first|go_skip|go_guarded|go_step|go_upon))
 have A7:=(zC w6.heap.size w6).alloc (zD _) (.cells #[.pointer (some ⟨gb,0,none⟩),.pointer (some ⟨ga,0,none⟩)] 138)
 have kQ:obj (w6.alloc (.cells #[.pointer (some ⟨gb,0,none⟩),.pointer (some ⟨ga,0,none⟩)] 138)) w6.heap.size=some (.cells #[.pointer (some ⟨gb,0,none⟩),.pointer (some ⟨ga,0,none⟩)] 138 (0,0)):=a05 _ _ _ rfl
 have hbQ:nC≤w6.heap.size:=by have:=a09 kE;omega
 have o2:=a0a o2 A7
 have o3:=a0a o3 A7
 have kE:=a0a kE A7
 have kP:=a0a kP A7
 have HCA:=zA (HCA.out.below A7)
 have HCB:=zA (HCB.out.below A7)
 have hB:=hB.trans (A7.mono hB.size)
 have hq1:=keepD hq1 A7
 clear A7
 generalize hw7:(w6.alloc (.cells #[.pointer (some ⟨gb,0,none⟩),.pointer (some ⟨ga,0,none⟩)] 138))=w7 at *
 have z7:w6.heap.size < w7.heap.size:=by rw [← hw7];simp
 clear hw7
 generalize w6.heap.size=bQ at *
 have q0:=a02 kQ 0
 have HFR:=zA (a6r w7 gb (-2251799813685248))
 repeat' (first | (go_at_call 86;((with_reducible refine ((HFR.out).mono ?_)));rintro e w8 ⟨rfl,rfl⟩;dsimp only)|go_skip|go_guarded|go_step|go_upon)
 have bA:obj ((w7.alloc (.cells #[.pointer (some ⟨gb,0,none⟩)] 96)).alloc (.cells #[(-2251799813685248:Int)] 3)) w7.heap.size=some (.cells #[.pointer (some ⟨gb,0,none⟩)] 96 (0,0)):=a06 (a05 _ _ _ rfl) _
 have bB:obj ((w7.alloc (.cells #[.pointer (some ⟨gb,0,none⟩)] 96)).alloc (.cells #[(-2251799813685248:Int)] 3)) (w7.heap.size+1)=some (.cells #[(-2251799813685248:Int)] 3 (0,0)):=a05 _ _ _ (by simp)
 have B8:Below w7 w7 ((w7.alloc (.cells #[.pointer (some ⟨gb,0,none⟩)] 96)).alloc (.cells #[(-2251799813685248:Int)] 3)):=(bR.alloc (zD _) _).alloc (by simp) _
 have o2:=a0a o2 B8
 have o3:=a0a o3 B8
 have kE:=a0a kE B8
 have kP:=a0a kP B8
 have HCA:=zA (HCA.out.below B8)
 have HCB:=zA (HCB.out.below B8)
 have hB:=hB.trans (B8.mono hB.size)
 have hq1:=keepD hq1 B8
 have kQ:=a0a kQ B8
 clear B8 HFR q0
 generalize hw8:((w7.alloc (.cells #[.pointer (some ⟨gb,0,none⟩)] 96)).alloc (.cells #[(-2251799813685248:Int)] 3))=w8 at *
 have z8:w7.heap.size+2≤w8.heap.size:=by rw [← hw8];simp
 clear hw8
 generalize w7.heap.size=nA at *
 have lE:=a09 kE
 have lP:=a09 kP
 have HHB:=zA hB
 clear hB p0 p1 p2 p3
 refine wpIn_wide (n:=8).1 ?_
 refine wpIn_rangeFunc_join (n:=8) (gf:=126) (lb:=#[.pointer (some ⟨nA,0,none⟩),.pointer (some ⟨nA+1,0,none⟩)]) rfl (enters_of Tryz.func126 (by kernel_rfl) rfl)
  (a9n 7 (by omega) nA (nA+1) (by omega) gb HKB.out (by omega) (by omega) (fun k=>(k < W.heap.size∨W.heap.size+4≤k)∧k < nC) (by omega) (by omega) N hN w8 bA bB HCB.out)
  ?hown1 (fun x v W hv=>by subst hv;rfl) ?hdep1 (fun k=>k=W.heap.size+1+1∨k=W.heap.size+1+2) ?hR1
  (fun i W'=>i≤N∧(∀ j x,j < i→Zn.a2s b (Zn.ysT b) (Zn.a0s b) (-2251799813685248) j=some x→x.tm≤E∧x.off=Zn.a2u a x.tm)∧a1x w8.heap.size (fun k=>k=nA+1) w8 W')
  (fun W'=>Zn.sameP b a E∧a1x w8.heap.size (fun k=>k=nA+1) w8 W')
  (fun W' => ¬ Zn.sameP b a E∧obj W' (W.heap.size+1+1)=some (.cells #[.bool false] 4 (0,0))∧obj W' (W.heap.size+1+2)=some (.cells #[(0:Int)] 38 (0,0))∧a1x w8.heap.size (fun k=>k=nA+1∨k=W.heap.size+1+1∨k=W.heap.size+1+2) w8 W')
  ?hI1 ?hC1 ?hR21 (fun i W h=>h.1) ⟨xG _,fun j x h=>absurd h (yA j),a1x.of bR _⟩ ?round1 ?hnone1 ?hcont1 ?hret1
 case hown1=>rintro k rfl;omega
 case hdep1 =>
  rintro k (rfl | rfl | h)
  ·omega
  ·omega
  ·have h:=h.2
   omega
 case hR1 =>
  rintro k (rfl | rfl)
  ·exact ⟨by omega,by rintro (h | h | ⟨h,_⟩)<;>omega⟩
  ·exact ⟨by omega,by rintro (h | h | ⟨h,_⟩)<;>omega⟩
 case hI1 => rintro i A B hz hAB ⟨h1,h2,h3⟩;exact ⟨h1,h2,belX_step h3 hAB (zD _) (fun k hk hs=>by omega)⟩
 case hC1 => rintro A B hz hAB ⟨h1,h2⟩;exact ⟨h1,belX_step h2 hAB (zD _) (fun k hk hs=>by omega)⟩
 case hR21 => rintro A B hz hAB ⟨h1,h2,h3,h4⟩;exact ⟨h1,hAB.obj h2 (by omega) (by omega),hAB.obj h3 (by omega) (by omega),belX_step h4 hAB (zD _) (fun k hk hs=>by omega)⟩
 case hnone1 =>
  rintro i W1 hn ⟨h1,h2,h3⟩
  refine ⟨fun j x hj he=>?_,h3⟩
  rcases zU j i with h4 | h4
  ·exact (h2 j x h4 hj).2
  ·rw [Zn.fromN_none hn h4] at hj
   cases hj
 case hcont1 =>
  rintro Q2 w6 ⟨hs,hX⟩ hD hK
  have HP1:=zA hs
  have o2:=hX.obj o2 (a09 o2) (by omega)
  have o3:=hX.obj o3 (a09 o3) (by omega)
  have HQ1:=zA (ahc hq1 hX (by omega))
  have hB:=HHB.out.trans (hX.below (m:=W.heap.size) (by omega) (fun k hk=>by omega))
  have HQ2:=zA hK
  have hQQ:Q1≠Q2:=by omega
  clear hs hX hK kQ bA bB hq1
  have f1:=a0d o2 0
  have f2:=a0d (a07 o3 ⟨W.heap.size+1+1,0,none⟩ (show W.heap.size+1+2≠W.heap.size+1+1 by omega) (.bool true)) 0
  have k1:=a02 o2 0
  have k2:=a02 (a07 o3 ⟨W.heap.size+1+1,0,none⟩ (show W.heap.size+1+2≠W.heap.size+1+1 by omega) (.bool true)) 0
  repeat'(first|go_skip|go_guarded|go_step|go_upon)
  rw [rounds_succ]
  repeat'(first|go_skip|go_guarded|go_step|go_upon)
  refine ⟨by simp,.inl ⟨_,_,rfl,run_takeDeferred ((zO _ _ _ _ (show Q2≠W.heap.size+1+2 by omega)).trans ((zO _ _ _ _ (show Q2≠W.heap.size+1+1 by omega)).trans HQ2.out)),by simp,.inl ⟨_,_,rfl,run_takeDeferred ((World.putObj_heap_other hQQ).trans ((zO _ _ _ _ (show Q1≠W.heap.size+1+2 by omega)).trans ((zO _ _ _ _ (show Q1≠W.heap.size+1+1 by omega)).trans HQ1.out))),?_⟩⟩⟩
  exact ⟨_,a0i rfl _ _ (W.heap.size+1+1) (W.heap.size+1+2) (.bool true) (.int .i64 0) _ _ rfl rfl (a02 ((World.putObj_heap_other (show W.heap.size+1+1≠Q1 by omega)).trans ((World.putObj_heap_other (show W.heap.size+1+1≠Q2 by omega)).trans (a0p o2 o3).1)) 0) (a02 ((World.putObj_heap_other (show W.heap.size+1+2≠Q1 by omega)).trans ((World.putObj_heap_other (show W.heap.size+1+2≠Q2 by omega)).trans (a0p o2 o3).2)) 0) Tryz.underlying4 rfl Tryz.underlying38 rfl,samePost_of ⟨fun _=>⟨hst,HP0.out,HP1.out⟩,fun _=>rfl⟩ (a1r (a1r ((hB.setCell (by simp;omega) _).setCell (by simp;omega) _) (by omega)) (by omega))⟩
 case hret1 =>
  rintro Q2 W1 ⟨hns,h2,h3,hX⟩ hD hK
  have HK:=zA hK
  have HNS:=zA hns
  have HBB:=zA (HHB.out.trans (hX.below (m:=W.heap.size) (by omega) (fun k hk=>by omega)))
  have HQ1:=zA (ahc hq1 hX (by omega))
  have hQQ:Q1≠Q2:=by omega
  clear hns hK hX
  gi_wp2_with fail
  refine ⟨by simp,.inl ⟨_,_,rfl,run_takeDeferred HK.out,by simp,.inl ⟨_,_,rfl,run_takeDeferred ((World.putObj_heap_other hQQ).trans HQ1.out),?_⟩⟩⟩
  exact ⟨_,a0i rfl _ _ (W.heap.size+1+1) (W.heap.size+1+2) (.bool false) (.int .i64 0) _ _ rfl rfl (a02 ((World.putObj_heap_other (show W.heap.size+1+1≠Q1 by omega)).trans ((World.putObj_heap_other (show W.heap.size+1+1≠Q2 by omega)).trans h2)) 0) (a02 ((World.putObj_heap_other (show W.heap.size+1+2≠Q1 by omega)).trans ((World.putObj_heap_other (show W.heap.size+1+2≠Q2 by omega)).trans h3)) 0) Tryz.underlying4 rfl Tryz.underlying38 rfl,samePost_of ⟨fun h=>(by cases h),fun h=>absurd h.2.2 HNS.out⟩ (a1r (a1r HBB.out (by omega)) (by omega))⟩
 rintro lk i x v W1 ⟨h1,h2,h3⟩ hx rfl hz1 hlk hlc
 subst hlk
 have hon:ones #[x.tm,x.off]=true:=by simp [ones,a0n]
 have rz:a7c x=#[.int .i64 x.tm,.int .i64 x.off]:=rfl
 have H2:=zA h2
 have HX0:=zA hx
 clear h2 hx
 dsimp only
 rw [rz]
 clear rz
 gi_wp2_with fail
 refine ⟨bR.alloc (zD _) _,fun W2 hB2 hkeep hsz=>?_⟩
 have hX2:a1x W1.heap.size (fun k=>k=w8.heap.size+1) W1 W2:=⟨hB2.os,hB2.tape,hB2.output,by have:=hB2.size;simp at this;omega,fun k hk hn=>(hkeep k (by first | omega | (simp;omega)) hn).trans (vT _ _ hk)⟩
 have k6:obj W2 W1.heap.size=some (.cells #[x.tm,x.off] 57 (0,0)):=(hkeep W1.heap.size (by first | omega | simp) (by omega)).trans (a05 _ _ _ rfl)
 have hX:=belX_step h3 hX2 (zD _) (fun k hk hs=>by omega)
 have kE2:=hX.obj kE lE (by omega)
 have kQ2:=hX.obj kQ (by omega) (by omega)
 have o2':=hX.obj o2 (a09 o2) (by omega)
 have o3':=hX.obj o3 (a09 o3) (by omega)
 have HCO:=zA (HCA.out.keep (fun k hk hd=>hX.block k hk (by have:=hd.2;omega)))
 have hlx:W1.heap.size < W2.heap.size:=a09 k6
 have h8:w8.heap.size≤W1.heap.size:=h3.size
 clear h3 hX2 hB2 hkeep hlc hsz
 generalize W1.heap.size=lx at *
 have c60:=a02 k6 0
 have cE0:=a02 kE2 0
 by_cases hu:E < x.tm
 ·have HS:Hid (Zn.sameP b a E):=zA (fun j y hj he=>by
   rcases zU j i with h4 | h4
   ·exact (H2.out j y h4 hj).2
   ·have:=Zn.fromN_mono HGB.out HX0.out hj h4
    omega)
  gi_wp2_with fail
  exact ⟨a0o.refl _ _,.inl ⟨rfl,HS.out,hX⟩⟩
 have hiN:=HNB.out i x HX0.out (by omega)
 have hxl:=(Zn.a6q HGB.out HX0.out).2
 have HOF:=zA (fun (Wq:World) (hq:Below W2 W2 Wq)=>a96 (HCO.out.clk.below hq) HKA.out (t:=x.tm) (by omega) (by omega))
 obtain ⟨fo,hfo⟩ : ∃ fo,Zn.a2u a x.tm=fo:=⟨_,rfl⟩
 have HFO:=zA hfo
 rw [show Zn.a5a a (Zn.ysT a) (Zn.a0s a) x.tm=fo from hfo] at HOF
 clear hfo
 have lk6:=a09 k6
 have lkQ:=a09 kQ2
 repeat' ((fail_if_success (change Code.wpIn _ _ _ (Code.region 17 _ _) _ _ _));(first | go_values | gi_guarded | gi_step | gi_upon | gi_back))
 by_cases hne:x.off=fo
 ·have HP1:Hid (∀ j y,j < i+1→Zn.a2s b (Zn.ysT b) (Zn.a0s b) (-2251799813685248) j=some y→y.tm≤E∧y.off=Zn.a2u a y.tm):=zA (fun j y hj he=>by
   rcases zU j i with h4 | h4
   ·exact H2.out j y h4 he
   ·obtain rfl:j=i:=by omega
    have h5:=HX0.out.symm.trans he;cases h5
    exact ⟨by omega,hne.trans HFO.out.symm⟩)
  refine a9u 8 [([],fun v _=>v=.pointer (some ⟨lx,1,none⟩)),([0],fun v _=>v=.int .i64 x.off),([],fun v _=>v=.pointer (some ⟨bQ,1,none⟩)),([2],fun v _=>v=.pointer (some ⟨ga,0,none⟩)),([],fun v _=>v=.pointer (some ⟨lx,0,none⟩)),([4],fun v _=>v=.int .i64 x.tm),([3,5],fun v _=>v=.int .i64 fo),
    ([1,6],fun v _=>v=.bool false)] (by kernel_rfl) (by kernel_rfl) (by kernel_rfl) (by kernel_rfl) (fun _ _ h=>h) ?st ?ob ?tl
  case st => intro k v W1 W2 h hb;rcases k with _|_|_|_|_|_|_|_|k<;>first | exact h | trivial
  case ob => and_intros<;>first|exact ⟨⟩|(intro vs Wq hW hk;(have q0:=a02 (a04 k6 hW lk6) 1);(have q1:=a02 (a04 kQ2 hW lkQ) 1);(have q2:=a02 (a04 k6 hW lk6) 0);(try simp only [knows,Spec.at',↓zH,↓zG,yL] at hk);simp only [Spec.at',↓zH,↓zG,a00,a03,yy0,yy1,yy2,yy3];(try simp only [hk]);first | ((repeat'(first|go_skip|go_guarded|go_step|go_upon));exact a01 _ rfl (by go_simp) bR rfl) | ((have HX:=zA (HOF.out Wq hW));(repeat' (first | (go_at_call 56;((with_reducible refine (HX.out).mono ?_));rintro e w9 ⟨rfl,hb9⟩;dsimp only)|go_skip|go_guarded|go_step|go_upon));exact a01 _ rfl (by go_simp) hb9 rfl) | fail)
  case tl => intro vs W3 hW3 hk3;have v7:vs 7=.bool false:=hk3 7 (by decide);clear hk3;dsimp only [a1d,List.take,List.drop];simp only [Act.put,zF,zI,zJ];rw [v7];generalize vs 0=e0,vs 1=e1,vs 2=e2,vs 3=e3,vs 4=e4,vs 5=e5,vs 6=e6;clear v7;(repeat'(first|go_skip|go_guarded|go_step|go_upon));gi_wp2_with fail;exact ⟨⟨hW3.size,fun k hk hn=>hW3.block k hk⟩,by omega,HP1.out,belX_step hX (a1x.of hW3 (fun _=>False)) (zD _) (fun k hk hs=>hs.elim)⟩
 have HNS:Hid (¬ Zn.sameP b a E):=zA (fun h=>hne ((h i x HX0.out (by omega)).trans HFO.out))
 refine a9u 8 [([],fun v _=>v=.pointer (some ⟨lx,1,none⟩)),([0],fun v _=>v=.int .i64 x.off),([],fun v _=>v=.pointer (some ⟨bQ,1,none⟩)),([2],fun v _=>v=.pointer (some ⟨ga,0,none⟩)),([],fun v _=>v=.pointer (some ⟨lx,0,none⟩)),([4],fun v _=>v=.int .i64 x.tm),([3,5],fun v _=>v=.int .i64 fo),
   ([1,6],fun v _=>v=.bool true)] (by kernel_rfl) (by kernel_rfl) (by kernel_rfl) (by kernel_rfl) (fun _ _ h=>h) ?st ?ob ?_
 case st => intro k v W1 W2 h hb;rcases k with _|_|_|_|_|_|_|_|k<;>first | exact h | trivial
 case ob => and_intros<;>first|exact ⟨⟩|(intro vs Wq hW hk;(have q0:=a02 (a04 k6 hW lk6) 1);(have q1:=a02 (a04 kQ2 hW lkQ) 1);(have q2:=a02 (a04 k6 hW lk6) 0);(try simp only [knows,Spec.at',↓zH,↓zG,yL] at hk);simp only [Spec.at',↓zH,↓zG,a00,a03,yy0,yy1,yy2,yy3];(try simp only [hk]);first | ((repeat'(first|go_skip|go_guarded|go_step|go_upon));exact a01 _ rfl (by go_simp) bR rfl) | ((have HX:=zA (HOF.out Wq hW));(repeat' (first | (go_at_call 56;((with_reducible refine (HX.out).mono ?_));rintro e w9 ⟨rfl,hb9⟩;dsimp only)|go_skip|go_guarded|go_step|go_upon));exact a01 _ rfl (by go_simp) hb9 rfl) | fail)
 intro vs W3 hW3 hk3;have v7:vs 7=.bool true:=hk3 7 (by decide);clear hk3;dsimp only [a1d,List.take,List.drop];simp only [Act.put,zF,zI,zJ];rw [v7];generalize vs 0=e0,vs 1=e1,vs 2=e2,vs 3=e3,vs 4=e4,vs 5=e5,vs 6=e6;clear v7;have o2:=a0a o2' hW3;have o3:=a0a o3' hW3;have f1:=a0d o2 0;have f2:=a0d (a07 o3 ⟨W.heap.size+1+1,0,none⟩ (show W.heap.size+1+2≠W.heap.size+1+1 by omega) (.bool false)) 0;have k1:=a02 o2 0;have k2:=a02 (a07 o3 ⟨W.heap.size+1+1,0,none⟩ (show W.heap.size+1+2≠W.heap.size+1+1 by omega) (.bool false)) 0;(repeat'(first|go_skip|go_guarded|go_step|go_upon));gi_wp2_with fail;have hX3:=belX_step hX (a1x.of hW3 (fun _=>False)) (zD _) (fun k hk hs=>hs.elim);exact ⟨⟨by have:=hW3.size;simpa using this,fun k hk hn=>(zO _ _ _ _ (fun e=>hn (.inl (.inr e)))).trans ((zO _ _ _ _ (fun e=>hn (.inl (.inl e)))).trans (hW3.block k hk))⟩,.inr ⟨rfl,HNS.out,(a0p o2 o3).1,(a0p o2 o3).2,⟨hX3.os,hX3.tape,hX3.output,by simpa using hX3.size,fun k hk hn=>(zO _ _ _ _ (fun e=>hn (.inr (.inr e)))).trans ((zO _ _ _ _ (fun e=>hn (.inr (.inl e)))).trans (hX3.block k hk (fun h=>hn (.inl h))))⟩⟩⟩
end Go.Proofs.YtppjleebbjipbaaGreat
