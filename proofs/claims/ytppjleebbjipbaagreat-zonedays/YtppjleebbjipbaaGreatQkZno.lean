/-
  clock.from: the iterator over the transitions from an instant on.
-/
import Derived.Test.YtppjleebbjipbaaGreatQkZnm
import Derived.Test.YtppjleebbjipbaaGreatQkRngX
set_option linter.all false
namespace Zn
def a3w (z:a0w) (t:Int):List Tr:=z.trans.filter fun x=>decide (t≤x.tm)
def yAt (ys:List Tr) (cyc r:Int) (p:Nat):Tr:=⟨(ys.getD (p % ys.length) default).tm+(r+((p / ys.length:Nat):Int)) * (cyc * 1440),(ys.getD (p % ys.length) default).off⟩
def a2y (ys:List Tr) (cyc r t:Int):Nat:=(ys.takeWhile fun x=>decide (x.tm+r * (cyc * 1440) < t)).length
def a5l (a b:Int):Int:=if a < b then b else a
def a2s (z:a0w) (ys:List Tr) (cyc t:Int) (i:Nat):Option Tr :=
 if i < (a3w z t).length then some ((a3w z t).getD i default)
 else if ys.length=0 then none
 else some (yAt ys cyc (turns (ys.getD 0 default).tm (a5l t z.hor) cyc) (a2y ys cyc (turns (ys.getD 0 default).tm (a5l t z.hor) cyc) (a5l t z.hor)+(i - (a3w z t).length)))
theorem aan {l:List Tr} {f:Tr→Bool} {k:Nat} (h:k < l.length):(l.take (k+1)).filter f=(l.take k).filter f++(if f (l.getD k default)=true then [l.getD k default] else []):=by
 rw [List.take_succ_eq_append_getElem h,uO,zB,zK h]
 simp only [vU]
 by_cases hf:f l[k]=true
 ·rw [zQ hf,List.filter_cons_of_pos hf];rfl
 rw [zS hf,List.filter_cons_of_neg (by simpa using hf)];rfl
theorem aje {l:List Tr} {f:Tr→Bool} {k:Nat} (h:k < l.length) (hf:f (l.getD k default)=true):((l.take k).filter f).length < (l.filter f).length∧(l.filter f).getD ((l.take k).filter f).length default=l.getD k default:=by
 have e:l.filter f=((l.take k).filter f ++ [l.getD k default])++(l.drop (k+1)).filter f:=by
  have:=aan (f:=f) h
  rw [zQ hf] at this
  rw [← this,← uO,List.take_append_drop]
 rw [e]
 constructor
 ·simp
 rw [zB,List.append_assoc,yZ (zD _)]
 simp
theorem a9v {y0 t cyc:Int} (hc:0 < cyc):t < y0+(turns y0 t cyc+1) * (cyc * 1440):=by
 unfold turns
 obtain ⟨m,hm⟩ : ∃ m,(if t - y0 < 0 then 0 else t - y0)=m:=⟨_,rfl⟩
 have h:=Int.lt_ediv_add_one_mul_self m (show 0 < cyc * 1440 by omega)
 rw [hm]
 have:t - y0≤m:=by rw [← hm];split<;>omega
 omega
theorem a2d {y0 t cyc:Int} (hc:0 < cyc):0≤turns y0 t cyc:=by
 unfold turns
 exact Int.ediv_nonneg (by split<;>omega) (by omega)
theorem a4r {y0 t cyc:Int} (hc:0 < cyc):turns y0 t cyc * (cyc * 1440)≤(if t - y0 < 0 then 0 else t - y0):=by
 unfold turns
 exact Int.ediv_mul_le _ (by omega)
theorem aqc {l:List Tr} {f:Tr→Bool}:∀ {k:Nat},k < (l.takeWhile f).length→f (l.getD k default)=true:=by
 induction l with
 | nil=>intro k h;simp at h
 | cons x xs ih =>
  intro k h
  rw [List.takeWhile_cons] at h
  split at h
  ·rename_i hx
   cases k with
   | zero=>simpa using hx
   | succ k=>simpa using ih (by simpa using h)
  simp at h
theorem aqd {l:List Tr} {f:Tr→Bool} (h:(l.takeWhile f).length < l.length):f (l.getD (l.takeWhile f).length default)=false:=by
 induction l with
 | nil=>simp at h
 | cons x xs ih =>
  rw [List.takeWhile_cons] at h ⊢
  split
  ·rename_i hx
   rw [zQ hx] at h;simpa using ih (by simpa using h)
  rename_i hx
  simpa using hx
theorem a5m (ys:List Tr) (cyc r t:Int):a2y ys cyc r t≤ys.length:=by
 unfold a2y
 have h:=(List.takeWhile_prefix (fun x:Tr=>decide (x.tm+r * (cyc * 1440) < t)) (l:=ys)).length_le
 exact h
theorem a9t {ys:List Tr} {cyc t:Int} (hs:a8u ys) (hc:0 < cyc) (hn:0 < ys.length) {r:Int} (hr:r=turns (ys.getD 0 default).tm t cyc) (p:Nat):(yAt ys cyc r p).tm < t↔p < a2y ys cyc r t:=by
 have hle:=a5m ys cyc r t
 rcases zU p ys.length with hp | hp
 ·have e:yAt ys cyc r p=⟨(ys.getD p default).tm+r * (cyc * 1440),(ys.getD p default).off⟩:=by
   unfold yAt;rw [Nat.mod_eq_of_lt hp,Nat.div_eq_of_lt hp];simp
  rw [e]
  constructor
  ·intro h
   refine Nat.lt_of_not_ge fun hge=>?_
   have ha:=aqd (f:=fun x=>decide (x.tm+r * (cyc * 1440) < t)) (l:=ys) (by show a2y ys cyc r t < ys.length;omega);have ha2 : ¬ (ys.getD (a2y ys cyc r t) default).tm+r * (cyc * 1440) < t:=of_decide_eq_false ha
   rcases zU (a2y ys cyc r t) p with h1 | h1
   ·have:=hs _ _ h1 hp
    have h:(ys.getD p default).tm+r * (cyc * 1440) < t:=h;omega
   ·rw [show a2y ys cyc r t=p by omega] at ha2
    exact ha2 h
  ·intro h
   exact wV (aqc (f:=fun x=>decide (x.tm+r * (cyc * 1440) < t)) h)
 constructor
 ·intro h
  exfalso
  have h1:=a9v (y0:=(ys.getD 0 default).tm) (t:=t) hc
  rw [← hr] at h1
  have hq:1≤p / ys.length:=(Nat.one_le_div_iff hn).2 hp
  have hm:p % ys.length < ys.length:=wJ _ hn
  have h2:(ys.getD 0 default).tm≤(ys.getD (p % ys.length) default).tm:=by
   rcases yM (p % ys.length) with h0 | h0
   ·rw [h0];exact yR _
   exact wF (hs _ _ h0 hm)
  have h3:(r+1) * (cyc * 1440)≤(r+((p / ys.length:Nat):Int)) * (cyc * 1440):=yP (by omega) (by omega)
  have h4:(yAt ys cyc r p).tm=(ys.getD (p % ys.length) default).tm+(r+((p / ys.length:Nat):Int)) * (cyc * 1440):=rfl
  omega
 intro h;omega
end Zn
namespace Go.Proofs.YtppjleebbjipbaaGreat
open Go.RowKit Go.Shelf
attribute [local go_sem] Oper.semAt_some
set_option maxRecDepth 100000
set_option maxHeartbeats 8000000
theorem a6r (W:World) (g:Nat) (t:Int) :
  Calls Tryz.prog 86 #[.pointer (some ⟨g,0,none⟩),.int .i64 t] W fun e w'=>e=.returned (.func (.func 126) #[] #[.pointer (some ⟨W.heap.size,0,none⟩),.pointer (some ⟨W.heap.size+1,0,none⟩)])∧(W.alloc (.cells #[.pointer (some ⟨g,0,none⟩)] 96)).alloc (.cells #[t] 3)=w':=by
 have hmf:∀ (fn:Fn) (first cap:Array Value) (w:World),(Instr.makeFunc fn first cap).run Tryz.prog w=.ok (.func fn first cap) w:=fun _ _ _ _=>rfl
 go_enter Tryz.func86,Tryz.ntmps86
 repeat'(first|go_skip|go_guarded|go_step|go_upon)
 go_ret
 exact ⟨rfl,rfl⟩
structure afc (bA bB g:Nat) (u:Int) (z:Zn.a0w) (ys:List Zn.Tr) (cyc:Int) (mv rv tv yv sv:Value) (m:Nat) (wr:World):Prop where
 a:obj wr bA=some (.cells #[.pointer (some ⟨g,0,none⟩)] 96 (0,0))
 b:obj wr bB=some (.cells #[u] 3 (0,0))
 g:obj wr g=some (.cells #[z.cal.a08,mv,z.cal.a0l,rv,z.start,tv,z.hor,yv,sv,cyc] 136 (0,0))
 tr:a2b wr tv z.trans
 ys:a2b wr sv ys
 sz:m≤wr.heap.size
theorem afc.keep {D:Nat→Prop} {bA bB g:Nat} {u:Int} {z:Zn.a0w} {ys:List Zn.Tr} {cyc:Int} {mv rv tv yv sv:Value} {m:Nat} {A B:World} (h:afc bA bB g u z ys cyc mv rv tv yv sv m A)
  (hDg:D g) (hDt:InD D tv z.trans) (hDs:InD D sv ys) (hs:A.heap.size≤B.heap.size) (hk:∀ k,k < A.heap.size→k=bA∨k=bB∨D k→B.heap[k]? = A.heap[k]?):afc bA bB g u z ys cyc mv rv tv yv sv m B :=
 ⟨(hk bA (a09 h.a) (.inl rfl)).trans h.a,(hk bB (a09 h.b) (.inr (.inl rfl))).trans h.b,(hk g (a09 h.g) (.inr (.inr hDg))).trans h.g,h.tr.keep hDt (fun k h1 h2=>hk k h1 (.inr (.inr h2))),h.ys.keep hDs (fun k h1 h2=>hk k h1 (.inr (.inr h2))),yG h.sz hs⟩
theorem ahz {ys:List Zn.Tr} {cyc r:Int} {q k:Nat} (hk:k < ys.length):Zn.yAt ys cyc r (q * ys.length+k)=⟨(ys.getD k default).tm+(r+(q:Int)) * (cyc * 1440),(ys.getD k default).off⟩:=by
 have h1:(q * ys.length+k) % ys.length=k:=by rw [Nat.mul_add_mod',Nat.mod_eq_of_lt hk]
 have h2:(q * ys.length+k) / ys.length=q:=by rw [Nat.mul_comm,Nat.mul_add_div (by omega),Nat.div_eq_of_lt hk,uG]
 unfold Zn.yAt
 rw [h1,h2]
theorem a9n (
         n:Nat) (hn:4≤n) (bA bB:Nat) (hAB:bA≠bB) (g:Nat) {z:Zn.a0w} {ys:List Zn.Tr} {cyc:Int} (hk:Zn.Ck z ys cyc) {t:Int} (ht0 : -4503599627370496≤t) (ht1:t≤4503599627370496) (D:Nat→Prop) (hDA : ¬ D bA) (hDB : ¬ D bB) (bound:Nat) (hbnd:bound≤1000000) (w:World)
  (hA:obj w bA=some (.cells #[.pointer (some ⟨g,0,none⟩)] 96 (0,0))) (hB:obj w bB=some (.cells #[t] 3 (0,0))) (hc:a8j w D g z ys cyc) :
  ary n Tryz.prog 126 #[.pointer (some ⟨bA,0,none⟩),.pointer (some ⟨bB,0,none⟩)] (fun x u _=>u=#[.agg (a7c x)]) (fun k=>k=bB) (fun k=>k=bA∨k=bB∨D k) (Zn.a2s z ys cyc t) bound w:=by
 intro l R J Z W hW hR hJ hbd hY h0
 have hA0:=a0a hA hW
 have hB0:=a0a hB hW
 have hc0:=hc.below hW
 have hAR : ¬ R bA:=fun h=>hR bA h (.inl rfl)
 have hBR : ¬ R bB:=fun h=>hR bB h (.inr (.inl rfl))
 have HDR:Hid (∀ k,D k→¬ R k):=zA fun k hd h=>hR k h (.inr (.inr hd))
 have HK:=zA hk
 have hlt:=hk.lt
 have hly:=hk.ly
 have c0':=hk.c0
 have c1':=hk.c1
 clear hA hB hc hk
 refine callsIn_of_wp Tryz.func126 rfl trivial ?_ rfl
 simp only [Tryz.ntmps126,xJ,yS,xI,Nat.reduceAdd,Nat.reduceSub,xZ,xY,wK,wE,wO,xK]
 have cA:=a02 hA0 0
 obtain ⟨mv,rv,tv,yv,sv,hg0,anl,aoq,hDg,hDt,hDs⟩:=id hc0
 obtain ⟨ta,tc,htl⟩:=a2b.ajx anl
 have cg5:=a02 hg0 5
 rw [htl] at cg5
 gi_wp2_with fail
 gi_loopw [15] (fun i wr => ∃ k:Nat,k≤z.trans.length∧i=.int .i64 k∧J ((z.trans.take k).filter fun x=>decide (t≤x.tm)).length wr∧a0o R W wr) (fun i _=>((z.trans.length:Int) - intOf i).toNat)
 case atStart=>exact ⟨0,by omega,rfl,h0,a0o.refl _ _⟩
 clear h0 cA cg5
 obtain ⟨k,hk,rfl,hJk,hK⟩:=hrel
 have bA1:obj wr bA=_:=(hK.2 bA (a09 hA0) hAR).trans hA0
 have bB1:obj wr bB=_:=(hK.2 bB (a09 hB0) hBR).trans hB0
 have cB:=a02 bB1 0
 by_cases hlt':k < z.trans.length
 ·have i1:(k:Int) < (z.trans.length:Int):=by omega
  have htv1:=a2b.keep anl hDt (fun q hq hd=>hK.2 q hq (HDR.out q hd))
  obtain ⟨b,o,c,row,T,fr,htv,q1,q2⟩:=a2b.open htv1 (by omega)
  rw [htl] at htv
  obtain ⟨rfl,rfl⟩:ta=some ⟨b,o,none⟩∧tc=c:=by injection htv with a b c;exact ⟨a,c⟩
  obtain ⟨z0,k3⟩:=q2 k hlt'
  have z1:(o+k * 2+2≤row.size)=True:=xN z0
  have HFT:=zA (Zn.aan (f:=fun x:Zn.Tr=>decide (t≤x.tm)) hlt')
  have HFA:=zA (Zn.aje (f:=fun x:Zn.Tr=>decide (t≤x.tm)) hlt')
  have HYK:=zA hY
  clear htv q2 z0 hY
  generalize z.trans.getD k default=x at *
  have hon:ones #[x.tm,x.off]=true:=by simp [ones,a0n]
  by_cases hx:t≤x.tm;rotate_left
  ·have HNX:Hid (((z.trans.take (k+1)).filter fun x=>decide (t≤x.tm)).length=((z.trans.take k).filter fun x=>decide (t≤x.tm)).length):=zA (by rw [HFT.out,zS (by simpa using hx)];simp)
   have hJ2:=hJ _ _ _ hK.1 (a1x.of ((zC wr.heap.size wr).alloc (zD _) (.cells #[x.tm,x.off] 57)) (fun k=>k=bB)) hJk
   have hK2:a0o R wr (wr.alloc (.cells #[x.tm,x.off] 57)):=⟨by simp,fun q hq _=>vT wr _ hq⟩
   have cB2:=a02 (a06 bB1 (.cells #[x.tm,x.off] 57)) 0;clear HFT HFA hJk
   gi_wp2_with fail
   refine ⟨fun _ h=>(by cases h),?_⟩
   gi_wp2_with fail
   exact ⟨⟨k+1,by omega,by go_num,by rw [HNX.out];exact hJ2,hK.trans hK2⟩,by simp [intOf];omega⟩
  obtain ⟨hfl,hfg⟩:=HFA.out (zV hx)
  have hnx:Zn.a2s z ys cyc t ((z.trans.take k).filter fun x=>decide (t≤x.tm)).length=some x:=by
   unfold Zn.a2s Zn.a3w;rw [zQ hfl];exact congrArg some hfg
  have HNX:Hid (((z.trans.take (k+1)).filter fun x=>decide (t≤x.tm)).length=((z.trans.take k).filter fun x=>decide (t≤x.tm)).length+1):=zA (by rw [HFT.out,zQ (zV hx)];simp)
  clear hfl hfg HFT HFA
  have hK2:a0o R wr (wr.alloc (.cells #[x.tm,x.off] 57)):=⟨by simp,fun q hq _=>vT wr _ hq⟩
  have hJ2:=hJ _ _ _ hK.1 (a1x.of ((zC wr.heap.size wr).alloc (zD _) (.cells #[x.tm,x.off] 57)) (fun k=>k=bB)) hJk
  obtain ⟨fn,tmps,assign,body,hy,hR2⟩:=HYK.out _ _ _ _ hJ2 hnx rfl
  (try dsimp only at hy)
  have rz:a7c x=#[.int .i64 x.tm,.int .i64 x.off]:=rfl
  rw [rz] at hy
  clear rz hnx hJk
  have cB2:=a02 (a06 bB1 (.cells #[x.tm,x.off] 57)) 0
  gi_wp2_with fail
  refine ⟨fun _=>by omega,hR2.mono ?_⟩
  rintro e W5 ⟨hk5,(⟨rfl,hJ5⟩ | ⟨rfl,hZ5⟩)⟩
  ·gi_wp2_with fail
   exact ⟨⟨k+1,by omega,by go_num,by rw [HNX.out];exact hJ5,hK.trans (hK2.trans hk5)⟩,by simp [intOf];omega⟩
  gi_wp2_with fail
  refine yO (results_none rfl _ _ _) rfl ?_
  exact ⟨⟨_,rfl⟩,.inr hZ5⟩
 have i1 : ¬ (k:Int) < (z.trans.length:Int):=by omega
 have hJ0:J (Zn.a3w z t).length wr:=by
  rw [List.take_of_length_le (by omega)] at hJk
  exact hJk
 have bA0:=bA1
 have bB0:=bB1
 have hcD:=hc0.keep (fun q hq hd=>hK.2 q hq (HDR.out q hd))
 clear hJk anl aoq hg0 hDg hDt hDs htl cB
 obtain ⟨mv,rv,tv,yv,sv,hg0,anl,aoq,hDg,hDt,hDs⟩:=id hcD
 obtain ⟨ya,yc,hyl⟩:=a2b.ajx aoq
 have cg8:=a02 hg0 8
 rw [hyl] at cg8
 have cA:=a02 bA0 0
 by_cases hy0:ys.length=0
 ·have t0:((ys.length:Int) == 0)=true:=by simp [hy0]
  gi_wp2_with fail
  refine yO (results_none rfl _ _ _) rfl ?_
  exact ⟨⟨_,rfl⟩,.inl ⟨_,by unfold Zn.a2s;rw [zS (uB _),zQ hy0],hJ0⟩⟩
 have t0:((
       ys.length:Int) == 0)=false:=by simpa using hy0
 gi_wp2_with fail
 have lA:=a09 bA0
 have lB:=a09 bB0
 have lg:=a09 hg0
 have hmx:(if t < z.hor then z.hor else t)=Zn.a5l t z.hor:=rfl
 have hsW:=hK.1
 clear cA cg8 bA1 bB1
 refine a5x 7 [([],fun v _=>v=.int .i64 t),([],fun v _=>v=.pointer (some ⟨g,0,none⟩)),([1],fun v _=>v=.pointer (some ⟨g,0,none⟩)),([2],fun v _=>v=.pointer (some ⟨g,0,none⟩)),([3],fun v _=>v=.pointer (some ⟨g,6,none⟩)),([4],fun v _=>v=.int .i64 z.hor),
   ([0,5],fun v _=>v=.int .i64 (if t < z.hor then z.hor else t))] (by kernel_rfl) (by kernel_rfl) (by kernel_rfl) (by kernel_rfl) (fun _ _ h=>(by obtain ⟨⟨_,h⟩,_⟩:=h;cases h)) ?st ?ob ?_
 case st => intro k v W1 W2 h hb;rcases k with _|_|_|_|_|_|_|k<;>first | exact h | trivial
 case ob => and_intros<;>first|exact ⟨⟩|(intro vs Wq hW hk;(have q0:=a02 (a04 bB0 hW lB) 0);(have q1:=a02 (a04 bA0 hW lA) 0);(have q2:=a02 (a04 hg0 hW lg) 6);(try simp only [knows,Spec.at',↓zH,↓zG,yL] at hk);simp only [Spec.at',↓zH,↓zG,a00,a03,yy0,yy1,yy2,yy3];(try simp only [hk]);first | ((repeat'(first|go_skip|go_guarded|go_step|go_upon));exact a01 _ rfl (by go_simp) bR rfl))
 intro vs W2 hW2 hk
 have v6:vs 6=.int .i64 (if t < z.hor then z.hor else t):=hk 6 (by decide)
 clear hk
 dsimp only [a1d,List.take,List.drop]
 simp only [Act.put,zF,zI,zJ]
 rw [v6,hmx]
 generalize vs 0=p0,vs 1=p1,vs 2=p2,vs 3=p3,vs 4=p4,vs 5=p5
 clear v6
 obtain ⟨u,hu⟩ : ∃ u,Zn.a5l t z.hor=u:=⟨_,rfl⟩
 have hub : -4503599627370496≤u∧u≤4503599627370496:=by have:=HK.out.h0;have:=HK.out.h1;rw [← hu];unfold Zn.a5l;split<;>omega
 rw [hu]
 have HU:=zA hu
 clear hu hmx
 have bA2:=a04 bA0 hW2 lA
 have bB2:=a04 bB0 hW2 lB
 have hc2:=hcD.below hW2
 have hJ2:=hJ _ _ _ hsW (a1x.of hW2 (fun k=>k=bB)) hJ0
 have fB2:=a0d bB2 0
 have cB2:=a02 bB2 0
 have bA3:obj (W2.setCell ⟨bB,0,none⟩ (.int .i64 u)) bA=_:=a07 bA2 _ hAB _
 have bB3:obj (W2.setCell ⟨bB,0,none⟩ (.int .i64 u)) bB=some (.cells #[u] 3 (0,0)):=by rw [a0c,bB2];rfl
 have hc3:a8j (W2.setCell ⟨bB,0,none⟩ (.int .i64 u)) D g z ys cyc:=hc2.keep fun q _ hd=>zO _ _ q _ (fun e=>hDB (by have e:q=bB:=e;rw [← e];exact hd))
 have hJ3:=hJ _ _ _ (by have:=hW2.size;omega) (a1x.setCell W2 (S:=fun k=>k=bB) rfl 0 (.int .i64 u)) hJ2
 have hs3:W.heap.size≤(W2.setCell ⟨bB,0,none⟩ (.int .i64 u)).heap.size:=by have:=hW2.size;simp;omega
 clear bA2 hc2 hJ2 bA0 bB0 hg0 anl aoq hcD hJ0 hW2
 repeat'(first|go_skip|go_guarded|go_step|go_upon)
 gi_wp2_with fail
 clear fB2 cB2 bB2
 generalize W2.setCell ⟨bB,0,none⟩ (.int .i64 u)=w3 at *
 have hby:=HK.out.by_ 0 (by omega)
 have HRN:=zA (fun (Wq:World) (hb:Below w3 w3 Wq)=>aa1 (hc3.below hb).clk c0' c1' (by omega) (t:=u) (by omega) (by omega))
 have HMN:=zA (fun (Wq:World) (hb:Below w3 w3 Wq)=>a2v (hc3.below hb).clk (by omega) c1')
 have hr0:=Zn.a2d (y0:=(ys.getD 0 default).tm) (t:=u) c0'
 have hrM:=Zn.a4r (y0:=(ys.getD 0 default).tm) (t:=u) c0'
 have hrM2:Zn.turns (ys.getD 0 default).tm u cyc * (cyc * 1440)≤9007199254740992:=by split at hrM<;>omega
 have hrM0:0≤Zn.turns (ys.getD 0 default).tm u cyc * (cyc * 1440):=xX hr0 (by omega)
 generalize hr:Zn.turns (ys.getD 0 default).tm u cyc=r at *
 have HRR:=zA hr
 clear hr hrM
 have wrM:=zWI (r * (cyc * 1440))
 have lA:=a09 bA3
 have lB:=a09 bB3
 refine a5x 6 [([],fun v _=>v=.pointer (some ⟨g,0,none⟩)),([],fun v _=>v=.int .i64 u),([0,1],fun v _=>v=.int .i64 r),([],fun v _=>v=.pointer (some ⟨g,0,none⟩)),([3],fun v _=>v=.int .i64 (cyc * 1440)),
   ([2,4],fun v _=>v=.int .i64 (r * (cyc * 1440)))] (by kernel_rfl) (by kernel_rfl) (by kernel_rfl) (by kernel_rfl) (fun _ _ h=>(by obtain ⟨⟨_,h⟩,_⟩:=h;cases h)) ?st ?ob ?_
 case st => intro k v W1 W2 h hb;rcases k with _|_|_|_|_|_|k<;>first | exact h | trivial
 case ob => and_intros<;>first|exact ⟨⟩|(intro vs Wq hW hk;(have q0:=a02 (a04 bA3 hW lA) 0);(have q1:=a02 (a04 bB3 hW lB) 0);(try simp only [knows,Spec.at',↓zH,↓zG,yL] at hk);simp only [Spec.at',↓zH,↓zG,a00,a03,yy0,yy1,yy2,yy3];(try simp only [hk]);first | ((repeat'(first|go_skip|go_guarded|go_step|go_upon));exact a01 _ rfl (by go_simp) bR rfl) | ((have HX:=zA (HRN.out Wq hW));(repeat' (first | (go_at_call 127;((with_reducible refine (HX.out).mono ?_));rintro e w9 ⟨rfl,nq9,rfl⟩;dsimp only)|go_skip|go_guarded|go_step|go_upon));exact a01 _ rfl (by go_simp) (below_drewN bR nq9) rfl) | ((have HX:=zA (HMN.out Wq hW));(repeat' (first | (go_at_call 128;((with_reducible refine (HX.out).mono ?_));rintro e w9 ⟨rfl,rfl⟩;dsimp only)|go_skip|go_guarded|go_step|go_upon));exact a01 _ rfl (by go_simp) bR rfl) | fail)
 intro vs W4 hW4 hk
 have v5:vs 5=.int .i64 (r * (cyc * 1440)):=hk 5 (by decide)
 clear hk
 dsimp only [a1d,List.take,List.drop]
 simp only [Act.put,zF,zI,zJ]
 rw [v5]
 generalize vs 0=p0,vs 1=p1,vs 2=p2,vs 3=p3,vs 4=p4
 clear v5
 have bA4:=a04 bA3 hW4 lA
 have bB4:=a04 bB3 hW4 lB
 have hc4:=hc3.below hW4
 have hJ4:=hJ _ _ _ hs3 (a1x.of hW4 (fun k=>k=bB)) hJ3
 have hs4:W.heap.size≤W4.heap.size:=by have:=hW4.size;omega
 clear hW4 HRN HMN bA3 bB3 hc3 hJ3 lA lB hs3
 repeat'(first|go_skip|go_guarded|go_step|go_upon)
 gi_wp2_with fail
 obtain ⟨mv,rv,tv,yv,sv,hg4,htv4,aq2,hDg,hDt,hDs⟩:=id hc4
 have hF4:afc bA bB g u z ys cyc mv rv tv yv sv W.heap.size W4:=⟨bA4,bB4,hg4,htv4,aq2,hs4⟩
 have hP0:=Zn.a5m ys cyc r u
 have HYL:=zA (fun p=>Zn.a9t HK.out.sy c0' (by omega:0 < ys.length) (t:=u) (r:=r) HRR.out.symm p)
 have HNX:Hid (∀ i,(Zn.a3w z t).length≤i→Zn.a2s z ys cyc t i=some (Zn.yAt ys cyc r (Zn.a2y ys cyc r u+(i - (Zn.a3w z t).length)))):=zA fun i hi=>by
  unfold Zn.a2s
  rw [zS (by omega),zS hy0,HU.out,HRR.out]
 generalize (Zn.a3w z t).length=a0 at *
 generalize Zn.a2y ys cyc r u=p0 at *
 have hM0:0 < cyc * 1440:=by omega
 have HYK:=zA hY
 clear bA4 bB4 hg4 htv4 aq2 hs4 hc4 hY HU HRR
 gi_loopw [6] (fun b wr => ∃ q:Nat,b=.int .i64 ((r+q) * (cyc * 1440))∧J (a0+(q * ys.length - p0)) wr∧afc bA bB g u z ys cyc mv rv tv yv sv W.heap.size wr) (fun b _=>((r+bound+2) * (cyc * 1440) - intOf b).toNat)
 case atStart=>exact ⟨0,by simp,by simpa using hJ4,hF4⟩
 clear hJ4 hF4
 obtain ⟨q,rfl,hJq,hFq⟩:=hrel
 have hqb:=hbd _ _ hJq
 have hq1:q≤bound+1:=by
  have:q * ys.length≤bound+ys.length:=by omega
  have h1:1≤ys.length:=by omega
  rcases zU (bound+1) q with h | h
  ·have:=Nat.mul_le_mul (show bound+2≤q by omega) (zD ys.length)
   (have h3:(bound+2) * ys.length=bound * ys.length+ys.length+ys.length:=by rw [Nat.add_mul];omega);have h4:bound≤bound * ys.length:=Nat.le_mul_of_pos_right _ (by omega);omega
  ·exact h
 have hqM:(q:Int) * (cyc * 1440)≤1000001 * (10000000 * 1440):=Int.mul_le_mul (by omega) (by omega) (by omega) (by omega)
 have hqM0:0≤(q:Int) * (cyc * 1440):=xX (by omega) (by omega)
 have hqe:(r+(q:Int)) * (cyc * 1440)=r * (cyc * 1440)+(q:Int) * (cyc * 1440):=wI _ _ _
 have hqs:(r+((q+1:Nat):Int)) * (cyc * 1440)=(r+(q:Int)) * (cyc * 1440)+cyc * 1440:=by rw [show r+((q+1:Nat):Int)=(r+(q:Int))+1 by omega,wI,uF]
 have hqC:(r+(q:Int)) * (cyc * 1440)+cyc * 1440≤(r+(bound:Int)+2) * (cyc * 1440):=by
  rw [← hqs]
  exact yP (by omega) (by omega)
 have HQS:=zA hqs
 have HYA:=zA (fun k hk=>ahz (ys:=ys) (cyc:=cyc) (r:=r) (q:=q) (k:=k) hk)
 generalize hCC:(r+(bound:Int)+2) * (cyc * 1440)=CC at *
 generalize hbb:(r+(q:Int)) * (cyc * 1440)=b at *
 have hb0:0≤b:=by omega
 have hb1:b≤40000000000000000:=by omega
 clear hqM hqM0 hqe hqs hbb hCC
 have cA:=a02 hFq.a 0
 have cg8:=a02 hFq.g 8
 obtain ⟨yb,yo,yc,yrow0,YT0,yfr0,hsl,_,_⟩:=a2b.open hFq.ys (by omega)
 rw [hsl] at cg8
 gi_wp2_with fail
 gi_loopw [58] (fun i wr => ∃ k:Nat,k≤ys.length∧i=.int .i64 k∧J (a0+(q * ys.length+k - p0)) wr∧afc bA bB g u z ys cyc mv rv tv yv sv W.heap.size wr) (fun i _=>((ys.length:Int) - intOf i).toNat)
 case atStart=>exact ⟨0,by omega,rfl,hJq,hFq⟩
 clear hJq hFq cA cg8
 obtain ⟨k,hk,rfl,hJk,hF⟩:=hrel
 by_cases hlk:k < ys.length;rotate_left
 ·have i1 : ¬ (k:Int) < (ys.length:Int):=by omega
  obtain rfl:k=ys.length:=by omega
  have cA:=a02 hF.a 0
  have HMI:=zA (a2v (W:=wr) (g:=g) (z:=z) (ys:=ys) (cyc:=cyc) ⟨mv,rv,tv,yv,sv,hF.g,hF.tr,hF.ys⟩ (by omega) c1')
  have wbM:=zWI (b+cyc * 1440)
  have HE:=zA (show q * ys.length+ys.length=(q+1) * ys.length by rw [Nat.succ_mul])
  gi_wp2_with fail
  refine ⟨trivial,fun _=>by omega,(wW.2 HMI.out).mono ?_⟩
  rintro e w9 ⟨rfl,rfl⟩
  gi_wp2_with fail
  exact ⟨⟨q+1,by rw [HQS.out],by rw [← HE.out];exact hJk,hF⟩,by simp [intOf];omega⟩
 have i1:(k:Int) < (ys.length:Int):=by omega
 obtain ⟨yb2,yo2,yc2,a8k,YT2,yfr2,hsv,yq1,yq2⟩:=a2b.open hF.ys (by omega)
 rw [hsl] at hsv
 obtain ⟨rfl,rfl⟩:yb=yb2∧yo=yo2:=by injection hsv with a b c;injection a with a;injection a with a b c;exact ⟨a,b⟩
 obtain ⟨z0,k3⟩:=yq2 k hlk
 have z1:(yo+k * 2+2≤a8k.size)=True:=xN z0
 have HYE:=zA (HYA.out k hlk)
 have hxb:=HK.out.by_ k hlk
 clear hsv yq2 z0
 generalize ys.getD k default=x at *
 have hon:ones #[x.tm,x.off]=true:=by simp [ones,a0n]
 have wxb:=zWI (x.tm+b)
 have k9:obj (wr.alloc (.cells #[(x.tm+b:Int),x.off] 57)) wr.heap.size=some (.cells #[(x.tm+b:Int),x.off] 57 (0,0)):=a05 _ _ _ rfl
 have hF9:afc bA bB g u z ys cyc mv rv tv yv sv W.heap.size (wr.alloc (.cells #[(x.tm+b:Int),x.off] 57)):=hF.keep hDg hDt hDs (by simp) (fun k h _=>vT _ _ h)
 have hX9:a1x wr.heap.size (fun k=>k=bB) wr (wr.alloc (.cells #[(x.tm+b:Int),x.off] 57)):=a1x.of (bR.alloc (zD _) _) _
 have hJ9:=hJ _ _ _ hF.sz hX9 hJk
 have c90:=a02 k9 0
 have c9B:=a02 hF9.b 0
 have hon9:ones #[(x.tm+b:Int),x.off]=true:=by simp [ones,a0n]
 by_cases hx:u≤x.tm+b;rotate_left
 ·have hltp:q * ys.length+k < p0:=(HYL.out _).1 (by rw [HYE.out];dsimp only;omega)
  have HE:=zA (show a0+(q * ys.length+k - p0)=a0+(q * ys.length+(k+1) - p0) by omega)
  clear hJk hltp
  gi_wp2_with fail
  refine ⟨fun _ h=>(by cases h),?_⟩
  gi_wp2_with fail
  exact ⟨⟨k+1,by omega,by go_num,by rw [← HE.out];exact hJ9,hF9⟩,by simp [intOf];omega⟩
 have hge:p0≤q * ys.length+k:=Nat.le_of_not_lt fun h=>by
  have h1:=(HYL.out _).2 h
  rw [HYE.out] at h1
  dsimp only at h1
  omega
 have hnx:Zn.a2s z ys cyc t (a0+(q * ys.length+k - p0))=some ⟨x.tm+b,x.off⟩:=by
  rw [HNX.out _ (by omega),← HYE.out,show p0+(a0+(q * ys.length+k - p0) - a0)=q * ys.length+k by omega]
 obtain ⟨fn,tmps,assign,body,hy,hR2⟩:=HYK.out _ _ _ _ hJ9 hnx rfl
 (try dsimp only at hy)
 have rz:a7c ⟨x.tm+b,x.off⟩=#[.int .i64 (x.tm+b),.int .i64 x.off]:=rfl
 rw [rz] at hy
 have HE:=zA (show a0+(q * ys.length+k - p0)+1=a0+(q * ys.length+(k+1) - p0) by omega)
 clear rz hnx hJk hJ9 hge
 gi_wp2_with fail
 refine ⟨fun _=>by omega,hR2.mono ?_⟩
 rintro e W5 ⟨hk5,(⟨rfl,hJ5⟩ | ⟨rfl,hZ5⟩)⟩
 ·have hF5:=hF9.keep hDg hDt hDs hk5.1 (fun j h1 h2=>hk5.2 j h1 (fun hr=>hR j hr h2))
  gi_wp2_with fail
  exact ⟨⟨k+1,by omega,by go_num,by rw [← HE.out];exact hJ5,hF5⟩,by simp [intOf];omega⟩
 gi_wp2_with fail
 refine yO (results_none rfl _ _ _) rfl ?_
 exact ⟨⟨_,rfl⟩,.inr hZ5⟩
end Go.Proofs.YtppjleebbjipbaaGreat
namespace Zn
def a1w (z:a0w) (ys:List Tr) (cyc:Int):Int :=
 match a2s z ys cyc z.hor 0 with
 | some x=>x.tm
 | none=>if 0 < z.trans.length then (z.trans.getD (z.trans.length - 1) default).tm else 0
end Zn
namespace Go.Proofs.YtppjleebbjipbaaGreat
open Go.RowKit Go.Shelf
attribute [local go_sem] Oper.semAt_some
set_option maxRecDepth 100000
set_option maxHeartbeats 8000000
theorem a1x.below {B m:Nat} {S:Nat→Prop} {A C:World} (h:a1x B S A C) (hm:m≤B) (hS:∀ k,k < m→¬ S k):Below m A C:=⟨h.os,h.tape,h.output,h.size,fun k hk=>h.block k (by omega) (hS k hk)⟩
theorem a1x.obj {B:Nat} {S:Nat→Prop} {A C:World} (h:a1x B S A C) {g:Nat} {o:Obj} (ho:obj A g=some o) (hg:g < B) (hS : ¬ S g):obj C g=some o:=(h.block g hg hS).trans ho
theorem a7t {W:World} {g:Nat} {z:Zn.a0w} {ys:List Zn.Tr} {cyc:Int} (h:aec W g z ys cyc) (hk:Zn.Ck z ys cyc) :
  Calls Tryz.prog 85 #[.pointer (some ⟨g,0,none⟩)] W fun e w'=>e=.returned (.int .i64 (Zn.a1w z ys cyc))∧Below W W w':=by
 have hcD:=h.inD
 obtain ⟨mv,rv,tv,yv,sv,hg,htv,hsv⟩:=h
 have lg:=a09 hg
 have b0:obj (((W.alloc (.cells #[(0:Int)] 3)).alloc (.cells #[.pointer (some ⟨g,0,none⟩)] 96)).alloc (.cells #[z.hor] 3)) W.heap.size=some (.cells #[(0:Int)] 3 (0,0)):=a06 (a06 (a05 _ _ _ rfl) _) _
 have bA:obj (((W.alloc (.cells #[(0:Int)] 3)).alloc (.cells #[.pointer (some ⟨g,0,none⟩)] 96)).alloc (.cells #[z.hor] 3)) (W.heap.size+1)=some (.cells #[.pointer (some ⟨g,0,none⟩)] 96 (0,0)):=a06 (a05 _ _ _ (by simp)) _
 have bB:obj (((W.alloc (.cells #[(0:Int)] 3)).alloc (.cells #[.pointer (some ⟨g,0,none⟩)] 96)).alloc (.cells #[z.hor] 3)) (W.heap.size+2)=some (.cells #[z.hor] 3 (0,0)):=a05 _ _ _ (by simp)
 have w0B:Below W W (((W.alloc (.cells #[(0:Int)] 3)).alloc (.cells #[.pointer (some ⟨g,0,none⟩)] 96)).alloc (.cells #[z.hor] 3)):=((bR.alloc (zD _) _).alloc (by simp) _).alloc (by simp;omega) _
 have w0z:(((W.alloc (.cells #[(0:Int)] 3)).alloc (.cells #[.pointer (some ⟨g,0,none⟩)] 96)).alloc (.cells #[z.hor] 3)).heap.size=W.heap.size+3:=by simp
 have g1:=a06 hg (.cells #[(0:Int)] 3)
 have c16:=a02 g1 6
 have HFR:=zA (a6r (W.alloc (.cells #[(0:Int)] 3)) g z.hor)
 have h0':=hk.h0
 have h1':=hk.h1
 have HK0:=zA hk
 have hlt:=hk.lt
 have HW0:=zA (rfl:(((W.alloc (.cells #[(0:Int)] 3)).alloc (.cells #[.pointer (some ⟨g,0,none⟩)] 96)).alloc (.cells #[z.hor] 3))=(((W.alloc (.cells #[(0:Int)] 3)).alloc (.cells #[.pointer (some ⟨g,0,none⟩)] 96)).alloc (.cells #[z.hor] 3)))
 refine (wW (n:=8)).1 ?_
 refine callsIn_of_wp_marks Tryz.func85 rfl trivial ?_
 simp only [Tryz.ntmps85,xJ,yS,xI,Nat.reduceAdd,Nat.reduceSub,xZ,xY,wK,wE,wO,xK]
 gi_wp2_with (refine ⟨trivial,?_⟩;gi_at_call 86;refine (wW.2 HFR.out).mono ?_;rintro e w1 ⟨rfl,rfl⟩)
 change Code.wpIn _ _ _ _ _ _ (((W.alloc (.cells #[(0:Int)] 3)).alloc (.cells #[.pointer (some ⟨g,0,none⟩)] 96)).alloc (.cells #[z.hor] 3))
 have an0:=(hcD.below w0B).mono (E:=fun k=>k < W.heap.size) (fun _ h=>h)
 generalize (((W.alloc (.cells #[(0:Int)] 3)).alloc (.cells #[.pointer (some ⟨g,0,none⟩)] 96)).alloc (.cells #[z.hor] 3))=V0 at *
 clear c16 g1
 refine a3j (n:=8) (gf:=126) (lb:=#[.pointer (some ⟨W.heap.size+1,0,none⟩),.pointer (some ⟨W.heap.size+2,0,none⟩)]) rfl (enters_of Tryz.func126 (by kernel_rfl) rfl)
  (a9n 7 (by omega) (W.heap.size+1) (W.heap.size+2) (by omega) g HK0.out (by omega) (by omega) (fun k=>k < W.heap.size) (by show ¬ W.heap.size+1 < W.heap.size;omega) (by show ¬ W.heap.size+2 < W.heap.size;omega) 0 (by omega) V0 bA bB an0)
  ?hown (fun x v W hv=>by subst hv;rfl) ?aaj (fun k=>k=W.heap.size) ?hR
  (fun i W'=>i=0∧obj W' W.heap.size=some (.cells #[(0:Int)] 3 (0,0))∧Below W W W'∧W.heap.size+3≤W'.heap.size)
  (fun d W'=>d=.ret∧(∃ x,Zn.a2s z ys cyc z.hor 0=some x∧obj W' W.heap.size=some (.cells #[x.tm] 3 (0,0)))∧Below W W W'∧W.heap.size+3≤W'.heap.size)
  ?hI ?hIx (fun i W h=>by rw [h.1];exact zD _) ⟨rfl,b0,w0B,by omega⟩ ?round ?done ?stop
 case hown=>rintro k rfl;omega
 case aaj =>
  rintro k (rfl | rfl | h)
  ·omega
  ·omega
  have h:k < W.heap.size:=h
  omega
 case hR =>
  rintro k rfl
  refine ⟨by omega,?_⟩
  rintro (h | h | h)
  ·omega
  ·omega
  exact uB _ h
 case hI => rintro i A B hz hAB ⟨h1,h2,h3,h4⟩;exact ⟨h1,hAB.obj h2 (by omega) (by omega),h3.trans (hAB.below (by omega) (fun k hk=>by omega)),yG h4 hAB.size⟩
 case hIx => rintro d A B hz hAB ⟨h1,⟨x,hx,h2⟩,h3,h4⟩;exact ⟨h1,⟨x,hx,hAB.obj h2 (by omega) (by omega)⟩,h3.trans (hAB.below (by omega) (fun k hk=>by omega)),yG h4 hAB.size⟩
 case round =>
  rintro l i x v W1 ⟨rfl,h2,h3,h4⟩ hx rfl hz1 hl hlc
  have rz:a7c x=#[.int .i64 x.tm,.int .i64 x.off]:=rfl
  have hon:ones #[x.tm,x.off]=true:=by simp [ones,a0n]
  have HX:=zA hx
  clear hx
  dsimp only
  rw [rz]
  clear rz
  gi_wp2_with fail
  refine ⟨bR.alloc (zD _) _,fun W2 hB2 hkeep hsz=>?_⟩
  have k6:obj W2 W1.heap.size=some (.cells #[x.tm,x.off] 57 (0,0)):=(hkeep W1.heap.size (by simp) (by omega)).trans (a05 _ _ _ rfl)
  have k0:obj W2 W.heap.size=some (.cells #[(0:Int)] 3 (0,0)):=a04 (a06 h2 _) hB2 (by omega)
  have kB:Below W W W2:=(h3.alloc (by omega) _).trans (hB2.mono (by omega))
  have kz:W1.heap.size+1≤W2.heap.size:=by have:=hB2.size;simp at this;omega
  have c60:=a02 k6 0
  have f00:=a0d k0 0
  have c00:=a02 k0 0
  gi_wp2_with fail
  refine ⟨⟨by simp,fun k hk hn=>zO _ _ _ _ (fun e=>hn (.inl e))⟩,rfl,⟨x,HX.out,by rw [a0c,k0];rfl⟩,kB.setCell (by simp) _,by simp;omega⟩
 case stop => rintro Q d W1 ⟨rfl,⟨x,hx,h2⟩,h3,h4⟩ hD hK;have HK:=zA hK;have HR:Hid (Zn.a1w z ys cyc=x.tm):=zA (by unfold Zn.a1w;rw [hx]);clear hK hx;gi_wp2_with fail;refine ⟨by simp,.inl ⟨_,_,rfl,run_takeDeferred HK.out,?_⟩⟩;refine ⟨_,a2j rfl _ _ W.heap.size (.int .i64 x.tm) _ rfl (a02 ((World.putObj_heap_other (show W.heap.size≠Q by omega)).trans h2) 0) Tryz.underlying3 rfl,by rw [HR.out],a1r h3 (by omega)⟩
 rintro Q i W1 hx ⟨rfl,h2,h3,h4⟩ hD hK
 have HK:=zA hK
 have HX:=zA hx
 clear hK hx
 have f0:=a0d h2 0
 have c0:=a02 h2 0
 have g5:=a04 hg h3 lg
 have c5:=a02 g5 5
 obtain ⟨ta,tc,htl⟩:=a2b.ajx htv
 rw [htl] at c5
 by_cases hz0:0 < z.trans.length
 ·have i0:(0:Int) < (z.trans.length:Int):=by omega
  have w0:IntKind.wrap .i64 ((z.trans.length:Int) - 1)=((z.trans.length - 1:Nat):Int):=by rw [wrap_in]<;>omega
  have i1:((z.trans.length - 1:Nat):Int) < (z.trans.length:Int):=by omega
  have i2 : ¬ ((z.trans.length - 1:Nat):Int) < 0:=by omega
  obtain ⟨b,o,c,row,T,fr,htw,q1,q2⟩:=a2b.open htv hz0
  rw [htl] at htw
  obtain ⟨rfl,rfl⟩:ta=some ⟨b,o,none⟩∧tc=c:=by injection htw with a b c;exact ⟨a,c⟩
  have e0:=(a02 (a04 q1 h3 (a09 q1)) (o+(z.trans.length - 1) * 2)).trans (a0y 0 (q2 (z.trans.length - 1) (by omega)).2 (by simp))
  have HR:Hid (Zn.a1w z ys cyc=(z.trans.getD (z.trans.length - 1) default).tm):=zA (by unfold Zn.a1w;rw [HX.out];dsimp only;rw [zQ hz0])
  clear htw q1 q2
  generalize z.trans.getD (z.trans.length - 1) default=x at *
  generalize z.trans.length - 1=m at *
  gi_wp2_with fail
  have hBs:Below W W (W1.setCell ⟨W.heap.size,0,none⟩ (.int .i64 x.tm)):=h3.setCell (by simp) _
  have hCs:obj (W1.setCell ⟨W.heap.size,0,none⟩ (.int .i64 x.tm)) W.heap.size=some (.cells #[x.tm] 3 (0,0)):=by rw [a0c,h2];rfl
  have hKs:(W1.setCell ⟨W.heap.size,0,none⟩ (.int .i64 x.tm)).heap[Q]? = some (.deferred (some [])):=(zO _ _ _ _ (by simp;omega)).trans HK.out
  refine ⟨by simp,.inl ⟨_,_,rfl,run_takeDeferred hKs,?_⟩⟩
  refine ⟨_,a2j rfl _ _ W.heap.size (.int .i64 x.tm) _ rfl (a02 ((World.putObj_heap_other (show W.heap.size≠Q by omega)).trans hCs) 0) Tryz.underlying3 rfl,by rw [HR.out],a1r hBs (by omega)⟩
 have i0 : ¬ (0:Int) < (z.trans.length:Int):=by omega
 have HR:Hid (Zn.a1w z ys cyc=0):=zA (by unfold Zn.a1w;rw [HX.out];dsimp only;rw [zS hz0])
 gi_wp2_with fail
 have hBs:Below W W (W1.setCell ⟨W.heap.size,0,none⟩ (.int .i64 0)):=h3.setCell (by simp) _
 have hCs:obj (W1.setCell ⟨W.heap.size,0,none⟩ (.int .i64 0)) W.heap.size=some (.cells #[(0:Int)] 3 (0,0)):=by rw [a0c,h2];rfl
 have hKs:(W1.setCell ⟨W.heap.size,0,none⟩ (.int .i64 0)).heap[Q]? = some (.deferred (some [])):=(zO _ _ _ _ (by simp;omega)).trans HK.out
 refine ⟨by simp,.inl ⟨_,_,rfl,run_takeDeferred hKs,?_⟩⟩
 refine ⟨_,a2j rfl _ _ W.heap.size (.int .i64 0) _ rfl (a02 ((World.putObj_heap_other (show W.heap.size≠Q by omega)).trans hCs) 0) Tryz.underlying3 rfl,by rw [HR.out],a1r hBs (by omega)⟩
end Go.Proofs.YtppjleebbjipbaaGreat
