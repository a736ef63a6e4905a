/-
  wp_region_min for a region in which parts of a tuple are still taken out while other parts are stored already (a := f() with several results, into variables on the heap): the late operations F may come at any time ahead of what waits for them.
-/
import Derived.Test.YtppjleebbjipbaaGreatQkGrm
set_option linter.all false
namespace Go.Proofs.YtppjleebbjipbaaGreat
open Go Go.RowKit
section
variable {P:Program} {ops:Array Oper}
def Qn (Q:Exit→Act→World→Prop):Exit→Act→World→Prop:=fun e a W=>(e=.normal∨e=.outgrown)∧Q e a W
def aiw (ops:Array Oper) (n:Nat) (F:List Nat):Bool :=
 (List.range ops.size).all fun t=>decide (t < n) ||
  ((match ops[t]? with | some o=>(o.after.all fun e => !Region.binds .any e||decide (e.on < t)) | none=>false) &&
   ((t == n||Region.waitsFor .any ops t (t - 1)) &&
   (List.range n).all fun k=>Region.waitsFor .any ops t k||(F.contains k&&(!a4h ops t k&&(!(a03 ops k).isSome||a03 ops t != a03 ops k)))))
def aix (ops:Array Oper) (n:Nat) (F:List Nat) (D:List (List Nat)):Bool :=
 F.all fun k=>decide (k < n)&&(match ops[k]? with
 | some o=>o.guard.isNone&&(match o.op with
   | .extract (.tmp s) _=>(o.after.all fun e => !Region.binds .any e||(decide (e.on < n) && !F.contains e.on)) &&
    ((F.all fun j=>a03 ops j != some s)&&((D.getD k [] == [(D.getD k []).headD 0])&&((a03 ops ((D.getD k []).headD 0) == some s && !F.contains ((D.getD k []).headD 0)) &&
    (List.range ops.size).all fun t=>decide (t < n)||(Region.waitsFor .any ops t k||a03 ops t != some s))))
   | _=>false)
 | none=>false)
theorem adx {ρ:Operand→Value} {o:Oper} {x:Operand} {i:Nat} {v:Value} (hop:o.op=.extract x i) (h:Instr.extract (ρ x) i=pure v):execOp ρ o=pure (.value v):=by
 unfold execOp
 rw [hop]
 simp only []
 rw [h]
 rfl
theorem eval_put_ne {a:Act} {dst:Option Tmp} {v:Value} {s:Tmp} (h:dst≠some s):(a.put dst v).eval (.tmp s)=a.eval (.tmp s):=by
 cases dst with
 | none=>rfl
 | some d =>
  have hd:d≠s:=fun e=>h (by rw [e])
  simp only [Act.eval,Act.put]
  rw [yB,yB,Array.getElem?_setIfInBounds_ne hd]
theorem af2 {a:Act} {v:Value} {s:Tmp} (h:s < a.tmps.size):(a.put (some s) v).eval (.tmp s)=v:=by
 simp only [Act.eval,Act.put]
 rw [yB,xM,zQ h]
 rfl
theorem a5v {vs:Nat→Value} {s:Tmp}:∀ (l:List Nat) (a:Act),(∀ j∈l,a03 ops j≠some s)→(a00 ops vs l a).eval (.tmp s)=a.eval (.tmp s)
 | [],_,_=>rfl
 | j :: l,a,h=>(a5v l _ fun i hi=>h i (yY _ hi)).trans (eval_put_ne (h j yV))
theorem acm {vs:Nat→Value} {s:Tmp} {d:Nat} {l:List Nat} {a:Act} (hn:l.Nodup) (hd:d∈l) (hs:a03 ops d=some s) (hz:s < a.tmps.size) (hx:∀ j∈l,j≠d→a03 ops j≠some s):(a00 ops vs l a).eval (.tmp s)=vs d:=by
 rw [a2x vs l a hd fun j hj hjd e h1=>by rw [hs] at h1;cases h1;exact hx j hj hjd]
 rw [a5v _ _ fun j hj=>hx j (vZ hj) fun e=>by subst e;exact hn.not_mem_erase hj]
 rw [hs]
 exact af2 hz
theorem ag8 {vs:Nat→Value} {dst:Option Tmp} {v:Value}:∀ (l:List Nat) (a:Act),(∀ j∈l,(a03 ops j).isSome=true→dst≠a03 ops j)→a00 ops vs l (a.put dst v)=(a00 ops vs l a).put dst v
 | [],_,_=>rfl
 | j :: l,a,h=>by
  show a00 ops vs l ((a.put dst v).put (a03 ops j) (vs j))=(a00 ops vs l (a.put (a03 ops j) (vs j))).put dst v
  rw [← ag8 l _ fun i hi=>h i (yY _ hi)]
  rw [Act.put_comm a v (vs j) (fun d h1 h2=>h j yV (by rw [h2];rfl) (by rw [h1,h2]))]
theorem aao {vs:Nat→Value} {ds:List Deferred}:∀ (l:List Nat) (a:Act),a00 ops vs l { a with defers:=ds }={ a00 ops vs l a with defers:=ds }
 | [],_=>rfl
 | j :: l,a=>by
  show a00 ops vs l (({ a with defers:=ds }:Act).put (a03 ops j) (vs j))=_
  rw [show ({ a with defers:=ds }:Act).put (a03 ops j) (vs j)={ a.put (a03 ops j) (vs j) with defers:=ds } by cases a03 ops j<;>rfl]
  exact aao l _
theorem agl {Q:Exit→Act→World→Prop} {n:Nat} {F:List Nat} {D:List (List Nat)} {tl:List Oper} (hsel:Region.noSelect ops=true) (hT:aiw ops n F=true) (hF:aix ops n F D=true) (hdd:∀ i,i < n→∀ j,j < n→j≠i→∀ d,a03 ops i=some d→a03 ops j≠some d) (htl:∀ j,tl[j]? = ops[n+j]?) :
  ∀ (f m:Nat) (rem:List Nat) (listed:Array Bool) (a:Act) (W:World) (vs:Nat→Value),rem.length+(ops.size - n - m)=f→rem.Nodup→(∀ k∈rem,k∈F)→n+m≤ops.size→listed.size=ops.size →
   (∀ k,k < ops.size→(listed.getD k false=true↔k < n+m∧k ∉ rem)) →
   (∀ k∈rem,∀ o s x,ops[k]? = some o→o.op=.extract (.tmp s) x→Instr.extract (a.eval (.tmp s)) x=pure (vs k)) →
   wpList P ops (Qn Q) (tl.drop m) (a00 ops vs rem a) W→wpAny P .any ops Q f listed a W:=by
 simp only [aiw,yK,zZ,yQ,zN,zM] at hT
 simp only [aix,yK,zZ,zN,zM] at hF
 intro f
 induction f with
 | zero =>
  intro m rem listed a W vs hf hn hm hnm hls hl hv hw
  have hr0:rem = []:=yH.1 (by omega)
  subst hr0
  have hdr:tl.drop m = []:=by
   apply List.eq_nil_of_length_eq_zero;rw [List.length_drop]
   have:tl.length≤ops.size - n:=by
    rcases zU (ops.size - n) tl.length with h | h
    ·have h1:=htl (ops.size - n)
     rw [zK h,Array.getElem?_eq_none (by omega)] at h1;cases h1
    exact h
   omega
  rw [hdr] at hw
  refine ⟨?_,hw.2⟩
  apply List.eq_nil_iff_forall_not_mem.2
  intro i hi
  obtain ⟨hun,o,ho,_⟩:=vN.1 hi
  have hlt:i < ops.size:=(zL.1 ho).1
  have:=(hl i hlt).2 ⟨by omega,xE⟩
  rw [vX hun] at this
  cases this
 | succ f ih =>
  intro m rem listed a W vs hf hn hm hnm hls hl hv hw
  refine ⟨fun h0=>?_,fun i hi=>?_⟩
  ·exfalso
   by_cases hr:rem = []
   ·subst hr
    (have hlt:n+m < ops.size:=by simp only [xI] at hf;omega);have ht:=(hT (n+m) hlt).resolve_left (by omega)
    have:n+m∈Region.ready .any ops listed:=by
     refine vN.2 ⟨getD_in (by omega) (by
      cases h:listed.getD (n+m) false with
      | false=>rfl
      | true=>exact absurd ((hl _ hlt).1 h).1 (by omega)),ops[n+m],zT hlt,fun e he hb=>?_⟩
     have h1:=ht.1;rw [zT hlt] at h1;simp only [wS,yQ,vF,zM] at h1
     rcases h1 e he with h2 | h2
     ·rw [h2] at hb;cases hb
     exact (hl e.on (by omega)).2 ⟨h2,xE⟩
    rw [h0] at this;cases this
   obtain ⟨k,hk⟩:=List.exists_mem_of_ne_nil _ hr;obtain ⟨hkn,hk1⟩:=hF k (hm k hk);(have hlt:k < ops.size:=by omega);rw [zT hlt] at hk1;simp only [zN] at hk1;have hk2:=hk1.2;split at hk2
   ·rename_i s x hop
    simp only [zN] at hk2;have h1:=hk2.1
    have:k∈Region.ready .any ops listed:=by
     refine vN.2 ⟨getD_in (by omega) (by
      cases h:listed.getD k false with
      | false=>rfl
      | true=>exact absurd hk ((hl _ hlt).1 h).2),ops[k],zT hlt,fun e he hb=>?_⟩
     simp only [wS,yQ,zN,vF,zM] at h1
     rcases h1 e he with h2 | h2
     ·rw [h2] at hb;cases hb
     refine (hl e.on (by omega)).2 ⟨by omega,fun hq=>?_⟩;have:=hm _ hq;rw [← List.contains_iff_mem,h2.2] at this;cases this
    rw [h0] at this;cases this
   cases hk2
  obtain ⟨hun,o,ho,hall⟩:=vN.1 hi
  have hlt:i < ops.size:=(zL.1 ho).1
  have hnl : ¬ (i < n+m∧i ∉ rem):=fun h=>by
   have:=(hl i hlt).2 h;rw [vX hun] at this;cases this
  have hnw:∀ k,listed.getD k false=false→Region.waitsFor .any ops i k=false:=fun k hk=>by
   cases hw':Region.waitsFor .any ops i k with
   | false=>rfl
   | true =>
    obtain ⟨o',ho',e,he,hb,hon⟩:=Region.waitsFor_spec hw';have:o' = o:=xO (ho'.symm.trans ho);subst this;have:=hall e he hb;rw [hon,hk] at this;cases this
  have hset:∀ k,k < ops.size→((listed.setIfInBounds i true).getD k false=true↔k=i∨listed.getD k false=true):=fun k hk=>by
   by_cases hki:k=i
   ·subst hki
    exact ⟨fun _=>.inl rfl,fun _=>a1t (by omega)⟩
   ·rw [getD_set_ne false (fun e=>hki e.symm)]
    exact ⟨.inr,fun h=>h.resolve_left hki⟩
  by_cases hir:i∈rem
  ·-- a late one
   obtain ⟨hin,hk1⟩:=hF i (hm i hir);rw [ho] at hk1;simp only [zN] at hk1;obtain ⟨hg,hk2⟩:=hk1;split at hk2
   ·rename_i s x hop
    have hx:=hv i hir o s x ho hop;(have hdi:a03 ops i=o.dst:=by unfold a03;rw [ho];rfl);have hlen:(rem.erase i).length=rem.length - 1:=vP hir;have hpos:0 < rem.length:=List.length_pos_of_mem hir
    have hstep:wpAny P .any ops Q f (listed.setIfInBounds i true) (a.put o.dst (vs i)) W:=by
     refine ih m (rem.erase i) _ _ W vs (by omega) (hn.erase i) (fun k hk=>hm k (vZ hk)) hnm (by simp [hls]) (fun k hk=>?_) (fun k hk o' s' x' ho' hop'=>?_) ?_
     ·rw [hset k hk,hl k hk,hn.mem_erase_iff]
      constructor
      ·rintro (h | h)
       ·exact ⟨by omega,fun q=>q.1 h⟩
       exact ⟨h.1,fun q=>h.2 q.2⟩
      rintro ⟨h1,h2⟩;by_cases hki:k=i
      ·exact .inl hki
      exact .inr ⟨h1,fun q=>h2 ⟨hki,q⟩⟩
     ·have hk':=hF k (hm k (vZ hk))
      have hk1:=hk'.2;rw [ho'] at hk1;simp only [zN,hop'] at hk1;have h3:=hk1.2.2.1;simp only [yK,wX] at h3;rw [eval_put_ne (by rw [← hdi];exact h3 i (hm i hir))];exact hv k (vZ hk) o' s' x' ho' hop'
     rw [← hdi,← a2x vs rem a hir fun j hj hji d h1=>?_]
     ·exact hw
     exact hdd i hin j (hF j (hm j hj)).1 hji d h1
    unfold wpOp;rw [ho]
    have hwt:Region.wanted o (yielded ops a.tmps)=true:=by
     unfold Region.wanted
     cases hgg:o.guard with
     | none=>rfl
     | some g=>rw [hgg] at hg;cases hg
    simp only [hwt,if_true];refine .inl ?_;unfold Oper.wp;rw [adx hop hx];exact hstep
   cases hk2
  -- the next one of the tail
  have hge:n+m≤i:=by
   rcases zU i (n+m) with h | h
   ·exact absurd ⟨h,hir⟩ hnl
   exact h
  have him:i=n+m:=by
   rcases zU (n+m) i with h | h
   ·exfalso
    have ht:=(hT i hlt).resolve_left (by omega)
    rcases ht.2.1 with h1 | h1
    ·have:=wV (p:=i=n) (by simpa using h1);omega
    rw [hnw (i - 1) (by
     cases hq:listed.getD (i - 1) false with
     | false=>rfl
     | true=>exact absurd ((hl _ (by omega)).1 hq).1 (by omega))] at h1
    cases h1
   omega
  subst him
  have ht:=(hT (n+m) hlt).resolve_left (by omega)
  have htk:∀ k∈rem,a4h ops (n+m) k=false∧((a03 ops k).isSome=true→a03 ops (n+m)≠a03 ops k):=fun k hk=>by
   have hkn:=(hF k (hm k hk)).1
   rcases ht.2.2 k hkn with h | h
   ·rw [hnw k (by
     cases hq:listed.getD k false with
     | false=>rfl
     | true=>exact absurd hk ((hl _ (by omega)).1 hq).2)] at h
    cases h
   ·have h':=h.2
    simp only [vF,wX] at h';refine ⟨h'.1,fun hs=>h'.2.resolve_left ?_⟩;rw [hs];decide
  have hdi:a03 ops (n+m)=o.dst:=by unfold a03;rw [ho];rfl
  have hs:∀ cs b,o.op≠.select cs b:=fun cs b=>Region.noSelect_spec hsel (n+m) o cs b ho
  have hlook:∀ j∈rem,∀ d,a03 ops j=some d→d ∉ o.looksAt ops:=fun j hj d hjd=>by
   have h:=(htk j hj).1;unfold a4h at h;rw [ho,hjd] at h;simpa using h
  have hex:execOp (a00 ops vs rem a).eval o=execOp a.eval o:=a3c hs vs _ _ hlook
  have hwe:Region.wanted o (yielded ops (a00 ops vs rem a).tmps)=Region.wanted o (yielded ops a.tmps):=a1u vs _ _ hlook
  have htd:tl.drop m=o :: tl.drop (m+1):=by
   have h1:=htl m;rw [ho] at h1;obtain ⟨hml,hme⟩:=vK.1 h1;rw [uC hml,hme]
  rw [htd] at hw
  have hgo':∀ v ds W',wpList P ops (Qn Q) (tl.drop (m+1)) (({ a00 ops vs rem a with defers:=ds }:Act).put o.dst v) W'→wpAny P .any ops Q f (listed.setIfInBounds (n+m) true) (({ a with defers:=ds }:Act).put o.dst v) W':=fun v ds W' hq=>by
   refine ih (m+1) rem _ _ W' vs (by omega) hn hm (by omega) (by simp [hls]) (fun k hk=>?_) (fun k hk o' s' x' ho' hop'=>?_) ?_
   ·rw [hset k hk,hl k hk]
    constructor
    ·rintro (h | h)
     ·exact ⟨by omega,fun q=>hir (h ▸ q)⟩
     ·exact ⟨by omega,h.2⟩
    ·rintro ⟨h1,h2⟩
     by_cases hki:k=n+m
     ·exact .inl hki
     ·exact .inr ⟨by omega,h2⟩
   ·have hk':=hF k (hm k hk)
    have hk1:=hk'.2;rw [ho'] at hk1;simp only [zN,hop'] at hk1;have h3:=hk1.2.2.2.2.2;simp only [yK,zZ,yQ,zM,wX] at h3
    have hne:a03 ops (n+m)≠some s':=by
     rcases h3 (n+m) hlt with h | h
     ·omega
     ·rcases h with h | h
      ·rw [hnw k (by
        cases hq:listed.getD k false with
        | false=>rfl
        | true=>exact absurd hk ((hl _ (by omega)).1 hq).2)] at h
       cases h
      ·exact h
    rw [eval_put_ne (by rw [← hdi];exact hne)];exact hv k hk o' s' x' ho' hop'
   ·rw [ag8 rem _ fun j hj hjs=>by rw [← hdi];exact (htk j hj).2 hjs,aao]
    exact hq
  have hgo:∀ v W',wpList P ops (Qn Q) (tl.drop (m+1)) ((a00 ops vs rem a).put o.dst v) W'→wpAny P .any ops Q f (listed.setIfInBounds (n+m) true) (a.put o.dst v) W':=fun v W' hq=>hgo' v a.defers W' (by
   have:=aao (ops:=ops) (vs:=vs) (ds:=a.defers) rem a;rw [← this]
   exact hq)
  unfold wpOp
  rw [ho]
  unfold wpList at hw
  by_cases hwt:Region.wanted o (yielded ops a.tmps)=true
  case neg => rw [hwe,zS hwt] at hw;simp only [hwt];exact hgo undef W hw
  rw [hwe,zQ hwt] at hw
  simp only [hwt,if_true]
  rcases hw with hw | ⟨hask,b,W',hlets⟩
  ·refine .inl ?_
   unfold Oper.wp at hw ⊢;rw [hex] at hw;generalize (execOp a.eval o).run P W=r at *
   cases r with
   | ok nx W' =>
    cases nx<;>simp only [Oper.upon] at hw ⊢
    case value v=>exact hgo v W' hw
    case skip=>exact hgo undef W' hw
    case defer d =>
     refine hgo' undef (d :: a.defers) W' ?_;rw [a1k] at hw;exact hw
    case enter g args =>
     refine Calls.mono hw fun e W2 he=>?_
     cases e with
     | returned v=>exact hgo v W2 he
     | panicked c=>rcases he with ⟨he | he,_⟩<;>cases he
     | outgrown =>
      obtain ⟨b,W3,hl⟩:=he;exact ⟨_,_,hl.2⟩
    case row row args=>exact Rows.mono hw fun v W2 he=>hgo v W2 he
   | halt x W' =>
    cases x<;>simp only [Oper.upon] at hw ⊢
    case panic v=>rcases hw with ⟨he | he,_⟩<;>cases he
  refine .inr ⟨?_,⟨_,_,hlets.2⟩⟩
  unfold Oper.asks at hask ⊢
  rw [hex] at hask
  exact hask
def headB (ops:Array Oper) (n sz:Nat) (D:List (List Nat)):Bool :=
 Region.noSelect ops&&(decide (n < ops.size) &&
 (List.range n).all fun k=>(match ops[k]? with | some o=>(match o.dst with | some d=>decide (d < sz) | none=>false)&&(o.after.all fun e => !Region.binds .any e||decide (e.on < k)) | none=>false) &&
  (((D.getD k []).all fun d=>decide (d < n)&&Region.waitsFor .any ops k d) &&
  (List.range n).all fun j=>(Region.waitsFor .any ops k j || !a4h ops k j)&&(j == k || !(a03 ops k).isSome||a03 ops k != a03 ops j)))
def aq1 (ops:Array Oper) (k:Nat):Nat:=match ops[k]? with
 | some o=>(match o.op with | .extract _ i=>i | _=>0)
 | none=>0
def akl (ops:Array Oper) (S:Spec):List Nat→Prop
 | []=>True
 | k :: r=>(∀ v W,(S.at' ((S.at' k).1.headD 0)).2 v W→∃ x,Instr.extract v (aq1 ops k)=pure x∧(S.at' k).2 x W)∧akl ops S r
theorem afw {S:Spec}:∀ {F:List Nat} {k:Nat},akl ops S F→k∈F→∀ v W,(S.at' ((S.at' k).1.headD 0)).2 v W→∃ x,Instr.extract v (aq1 ops k)=pure x∧(S.at' k).2 x W
 | j :: r,k,h,hk=>by
  rcases yN.1 hk with rfl | hk
  ·exact h.1
  ·exact afw h.2 hk
theorem aei {Q:Exit→Act→World→Prop} {S:Spec} {n:Nat} {D:List (List Nat)} {F:List Nat} {w:World} {a0:Act} (hB:headB ops n a0.tmps.size D=true) (hT:aiw ops n F=true) (hF:aix ops n F D=true) (hD:∀ k,(S.at' k).1=D.getD k []) (hst:stays S) (hlt:akl ops S F)
  {hd tl:List Oper} (htl:∀ j,tl[j]? = ops[n+j]?) (hhd:∀ j,j < n→hd[j]? = ops[j]?)
  (hob:grows P ops Q S (fun vs=>a00 ops vs (List.range n) a0) w hd 0)
  (ht:∀ vs W,Below w w W→(∀ k,k < n→(S.at' k).2 (vs k) W)→wpList P ops (Qn Q) tl (a00 ops vs (List.range n) a0) W) :
  ∀ (f:Nat) (listed:Array Bool) (a:Act) (W:World) (us:Nat→Value),(a1l n listed).length=f→HeadInv .any ops n listed→Below w w W →
   (∀ vs,(∀ k,k < n→listed.getD k false=true→vs k=us k)→a00 ops vs (a1l n listed) a=a00 ops vs (List.range n) a0) →
   (∀ k,k < n→listed.getD k false=true→(S.at' k).2 (us k) W)→wpAny P .any ops Q (f+(ops.size - n)) listed a W:=by
 simp only [headB,zN,zM,yQ,yK,zZ] at hB
 obtain ⟨hsel,hns,hk⟩:=hB
 have hT':=hT
 have hF':=hF
 simp only [aiw,yK,zZ,yQ,zN,zM] at hT'
 simp only [aix,yK,zZ,zN,zM] at hF'
 have hdd:∀ i,i < n→∀ j,j < n→j≠i→∀ d,a03 ops i=some d→a03 ops j≠some d:=fun i hi j hj hji d h1 h2=>by
  rcases ((hk i hi).2.2 j hj).2 with (h | h) | h
  ·exact hji (by simpa using h)
  ·rw [h1] at h;cases h
  ·rw [h1,h2] at h;simp at h
 have late:∀ (f:Nat) (listed:Array Bool) (a:Act) (W:World) (us:Nat→Value),(a1l n listed).length=f→HeadInv .any ops n listed→Below w w W →
   (∀ vs,(∀ k,k < n→listed.getD k false=true→vs k=us k)→a00 ops vs (a1l n listed) a=a00 ops vs (List.range n) a0) →
   (∀ k,k < n→listed.getD k false=true→(S.at' k).2 (us k) W)→(∀ k∈a1l n listed,k∈F)→wpAny P .any ops Q (f+(ops.size - n)) listed a W:=by
  intro f listed a W us hf inv hW hag hfa hall
  have hex:∀ k,∃ x,k∈a1l n listed→(∀ o s i,ops[k]? = some o→o.op=.extract (.tmp s) i→Instr.extract (a.eval (.tmp s)) i=pure x)∧(S.at' k).2 x W:=fun k=>by
   by_cases hkr:k∈a1l n listed
   ·obtain ⟨hkn,hk1⟩:=hF' k (hall k hkr)
    (have hks:k < ops.size:=by omega);rw [zT hks] at hk1;simp only [zN] at hk1;have hk2:=hk1.2;split at hk2
    ·rename_i s x hop
     simp only [zN,beq_iff_eq,yK,wX,vF] at hk2;obtain ⟨h1,h2,h3,⟨h4,h5⟩,h6⟩:=hk2;generalize hd0:(D.getD k []).headD 0=d0 at *;have hdm:d0∈D.getD k []:=by rw [h3];exact yV
     obtain ⟨hdn,hdw⟩:=by
      have:=(hk k hkn).2.1 d0 hdm;simpa only [zN,zM] using this
     have hdF:d0 ∉ F:=fun q=>by rw [← List.contains_iff_mem,h5] at q;cases q
     have hdl:listed.getD d0 false=true:=by
      cases hq:listed.getD d0 false with
      | true=>rfl
      | false=>exact absurd (hall d0 (a1i.2 ⟨hdn,hq⟩)) hdF
     have hsz:s < a0.tmps.size:=by
      have:=(hk d0 hdn).1;(have hd0s:d0 < ops.size:=by omega);rw [zT hd0s] at this;simp only [zN] at this
      have hdst:(ops[d0]).dst=some s:=by
       have:=h4;unfold a03 at this;rw [zT hd0s] at this;exact this
      rw [hdst] at this;simpa using this.1
     have hev:a.eval (.tmp s)=us d0:=by
      have e1:=hag us fun _ _ _=>rfl
      have e2:(a00 ops us (a1l n listed) a).eval (.tmp s)=a.eval (.tmp s):=a5v _ _ fun j hj=>h2 j (hall j hj)
      have e3:(a00 ops us (List.range n) a0).eval (.tmp s)=us d0:=acm xW (zZ.2 hdn) h4 hsz fun j hj hjd=>hdd d0 hdn j (zZ.1 hj) hjd s h4
      rw [← e2,e1,e3]
     have hsp:=hfa d0 hdn hdl;obtain ⟨y,hy1,hy2⟩:=afw hlt (hall k hkr) (us d0) W (by rw [hD k,hd0];exact hsp);refine ⟨y,fun _=>⟨fun o s' i ho hop'=>?_,hy2⟩⟩;rw [zT hks] at ho;cases ho;rw [hop] at hop';cases hop';rw [hev];(have:aq1 ops k=x:=by unfold aq1;rw [zT hks];simp only [hop]);rw [this] at hy1;exact hy1
    ·cases hk2
   ·exact ⟨undef,fun h=>absurd h hkr⟩
  obtain ⟨xs,hxs⟩:=Classical.axiomOfChoice hex
  refine agl hsel hT hF hdd htl (f+(ops.size - n)) 0 (a1l n listed) listed a W (fun k=>if listed.getD k false=true then us k else xs k) (by rw [hf];omega) (List.Nodup.sublist List.filter_sublist xW) hall (by omega) inv.size (fun k hks=>?_) (fun k hkr o s x ho hop=>?_) ?_
  ·rw [a1i]
   constructor
   ·intro h
    refine ⟨?_,fun q=>by rw [q.2] at h;cases h⟩
    rcases zU k n with h1 | h1
    ·omega
    ·have:=vX (inv.tail k h1 hks)
     rw [this] at h;cases h
   ·rintro ⟨h1,h2⟩
    cases hq:listed.getD k false with
    | true=>rfl
    | false=>exact absurd ⟨by omega,hq⟩ h2
  ·have hul:=(a1i.1 hkr).2
   (try dsimp only)
   rw [zS (by rw [hul];decide)];exact (hxs k hkr).1 o s x ho hop
  ·rw [List.drop_zero,hag _ fun k hkn hkl=>zQ hkl]
   refine ht _ W hW fun k hkn=>?_
   (try dsimp only)
   by_cases hkl:listed.getD k false=true
   ·rw [zQ hkl]
    exact hfa k hkn hkl
   ·rw [zS hkl]
    exact (hxs k (a1i.2 ⟨hkn,by cases h:listed.getD k false with | true=>exact absurd h hkl | false=>rfl⟩)).2
 intro f
 induction f with
 | zero =>
  intro listed a W us hf inv hW hag hfa
  refine late 0 listed a W us hf inv hW hag hfa fun k hkr=>?_
  rw [yH.1 hf] at hkr
  cases hkr
 | succ f ih =>
  intro listed a W us hf inv hW hag hfa
  by_cases hall:∀ k∈a1l n listed,k∈F
  ·exact late (f+1) listed a W us hf inv hW hag hfa hall
  have hne : ∃ k,k∈a1l n listed∧k ∉ F:=Classical.byContradiction fun h=>hall fun k hk=>Classical.byContradiction fun h'=>h ⟨k,hk,h'⟩
  obtain ⟨k0,hk0,hk0F⟩:=hne
  have ams:∀ i∈Region.ready .any ops listed,i < n:=fun i hi=>by
   rcases zU i n with h | h
   ·exact h
   ·exfalso
    obtain ⟨_,o,ho,ar8⟩:=vN.1 hi;have hlt:i < ops.size:=(zL.1 ho).1;obtain ⟨q1,q2⟩:=a1i.1 hk0
    rcases ((hT' i hlt).resolve_left (by omega)).2.2 k0 q1 with h1 | h1
    ·obtain ⟨o',ho',e,he,hb,hon⟩:=Region.waitsFor_spec h1
     have:o' = o:=xO (ho'.symm.trans ho);subst this;have:=ar8 e he hb;rw [hon,q2] at this;cases this
    ·exact hk0F (by simpa using h1.1)
  rw [show f+1+(ops.size - n)=(f+(ops.size - n))+1 by omega]
  refine ⟨fun h0=>?_,fun i hi=>?_⟩
  ·exfalso
   have key:∀ k,k≤n→∀ j,j < k→listed.getD j false=true:=by
    intro k
    induction k with
    | zero=>intro _ j hj;omega
    | succ k ihk =>
     intro hkn j hj;have hb:=ihk (by omega)
     rcases zU j k with h | h
     ·exact hb j h
     (have hjk:j=k:=by omega);subst hjk
     cases hjf:listed.getD j false with
     | true=>rfl
     | false =>
      have h1:=(hk j (by omega)).1
      cases ho:ops[j]? with
      | none=>rw [ho] at h1;exact absurd h1 (by simp)
      | some o =>
       rw [ho] at h1;simp only [zN,wS,yQ,vF,zM] at h1;have h1:=And.intro True.intro h1.2
       have:j∈Region.ready .any ops listed:=vN.2 ⟨getD_in (by rw [inv.size];omega) hjf,o,ho,fun e he hbd=>by
        rcases h1.2 e he with h2 | h2
        ·rw [h2] at hbd;cases hbd
        ·exact hb e.on h2⟩
       rw [h0] at this;cases this
   have:=(a1i.1 hk0)
   rw [key n (zD _) k0 this.1] at this;exact absurd this.2 (by simp)
  have hin:=ams i hi
  obtain ⟨hun,o,ho,hall⟩:=vN.1 hi
  have his:i < listed.size:=by rw [inv.size];omega
  have hir:i∈a1l n listed:=a1i.2 ⟨hin,vX hun⟩
  obtain ⟨hk1,hk2,hk3⟩:=hk i hin
  rw [ho] at hk1
  simp only [zN] at hk1
  have hdd : ∃ d,o.dst=some d∧d < a0.tmps.size:=by
   have:=hk1.1
   cases hd:o.dst with
   | none=>rw [hd] at this;cases this
   | some d=>rw [hd] at this;exact ⟨d,rfl,by simpa using this⟩
  obtain ⟨d0,hd0,hd1⟩:=hdd
  have hs:∀ cs b,o.op≠.select cs b:=fun cs b=>Region.noSelect_spec hsel i o cs b ho
  have hdi:a03 ops i=o.dst:=by unfold a03;rw [ho];rfl
  have hlook:∀ j∈a1l n listed,∀ d,a03 ops j=some d→d ∉ o.looksAt ops:=fun j hj d hjd=>by
   obtain ⟨q1,q2⟩:=a1i.1 hj
   rcases (hk3 j q1).1 with h | h
   ·obtain ⟨o',ho',e,he,hb,hon⟩:=Region.waitsFor_spec h
    have:o' = o:=xO (ho'.symm.trans ho);subst this;have:=hall e he hb;rw [hon,q2] at this;cases this
   ·unfold a4h at h
    rw [ho,hjd] at h;simpa using h
  have hfr:=hag us fun _ _ _=>rfl
  have hex:execOp (a00 ops us (List.range n) a0).eval o=execOp a.eval o:=by rw [← hfr];exact a3c hs us _ _ hlook
  have hwe:Region.wanted o (yielded ops (a00 ops us (List.range n) a0).tmps)=Region.wanted o (yielded ops a.tmps):=by rw [← hfr];exact a1u us _ _ hlook
  have hsz:(a00 ops us (List.range n) a0).tmps.size=a.tmps.size:=by rw [← hfr];exact a14 us _ _
  have hkn:knows S us W (S.at' i).1:=a8b _ fun d hd=>by
   rw [hD] at hd;obtain ⟨q1,q2⟩:=hk2 d hd;obtain ⟨o',ho',e,he,hb,hon⟩:=Region.waitsFor_spec q2;have:o' = o:=xO (ho'.symm.trans ho);subst this;exact hfa d q1 (by rw [← hon];exact hall e he hb)
  have hop:=a9m hd 0 hob i o ((hhd i hin).trans ho) us W hW (by rw [yI];exact hkn)
  rw [yI] at hop
  unfold wpList at hop
  unfold wpOp
  rw [ho]
  have hgo:∀ v W',a8f Q (a00 ops us (List.range n) a0).defers o.dst (S.at' i).2 W .normal ((a00 ops us (List.range n) a0).put o.dst v) W' →
    wpAny P .any ops Q (f+(ops.size - n)) (listed.setIfInBounds i true) (a.put o.dst v) W':=fun v W' hq=>by
   rcases hq with ⟨_,_,hbW,hΦ⟩ | ⟨he,_⟩
   ·have hev:((a00 ops us (List.range n) a0).put o.dst v).eval (.tmp (o.dst.getD 0))=v:=by
     have h1:=a14 (ops:=ops) us (List.range n) a0;rw [hd0];simp only [Act.eval,Act.put,vU];rw [yB,xM,zQ (by rw [h1];exact hd1)];rfl
    rw [hev] at hΦ
    obtain ⟨v',hv'⟩ : ∃ v',v' = v:=⟨v,rfl⟩
    rw [← hv'] at hΦ ⊢;refine ih _ _ W' (fun j=>if j=i then v' else us j) (by rw [a5f his,vP hir,hf];rfl) (inv.set hi hin) (hW.trans (hbW.mono hW.size)) (fun vs hvs=>?_) (fun k hkn' hkl=>?_)
    ·have hvi:vs i=v':=(hvs i hin (a1t his)).trans (zQ rfl)
     rw [a5f his,← hvi,← hdi,← a2x vs (a1l n listed) a hir fun j hj hji d hd1 hd2=>?_]
     ·refine hag vs fun k hkn' hkl=>?_
      have hki:k≠i:=fun e=>by rw [e,vX hun] at hkl;cases hkl
      exact (hvs k hkn' (getD_set_true hkl)).trans (zS hki)
     ·rcases (hk3 j (a1i.1 hj).1).2 with (h | h) | h
      ·exact hji (by simpa using h)
      ·rw [hd1] at h;cases h
      ·rw [hd1,hd2] at h;simp at h
    ·by_cases hki:k=i
     ·subst hki
      rw [zQ rfl];exact hΦ
     ·rw [zS hki]
      rw [getD_set_ne false (fun e=>hki e.symm)] at hkl;exact hst k _ _ _ (hfa k hkn' hkl) hbW
   ·cases he
  by_cases hwt:Region.wanted o (yielded ops a.tmps)=true
  case neg => rw [hwe,zS hwt] at hop;simp only [hwt,if_false];exact hgo undef W hop
  rw [hwe,zQ hwt] at hop
  simp only [hwt,if_true]
  rcases hop with hop | ⟨hask,b,W',hlets⟩
  ·refine .inl ?_
   unfold Oper.wp at hop ⊢;rw [hex] at hop;generalize (execOp a.eval o).run P W=r at *
   cases r with
   | ok nx W' =>
    cases nx<;>simp only [Oper.upon] at hop ⊢
    case value v=>exact hgo v W' hop
    case skip=>exact hgo undef W' hop
    case defer d =>
     exfalso
     rcases hop with ⟨_,he,_⟩ | ⟨he,_⟩
     ·have h2:∀ (b:Act) dst v,(b.put dst v).defers=b.defers:=fun b dst v=>by cases dst<;>rfl
      rw [h2] at he;exact absurd (congrArg List.length he) (by simp)
     ·cases he
    case enter g args =>
     refine Calls.mono hop fun e W2 he=>?_
     cases e with
     | returned v=>exact hgo v W2 he
     | panicked c=>rcases he with ⟨he,_⟩ | ⟨he,_⟩<;>cases he
     | outgrown =>
      obtain ⟨b,W3,hl⟩:=he
      rcases hl with ⟨hl,_⟩ | ⟨_,hl⟩
      ·cases hl
      ·exact ⟨_,_,hl⟩
    case row row args=>exact Rows.mono hop fun v W2 he=>hgo v W2 he
   | halt x W' =>
    cases x<;>simp only [Oper.upon] at hop ⊢
    case panic v=>rcases hop with ⟨he,_⟩ | ⟨he,_⟩<;>cases he
  refine .inr ⟨?_,?_⟩
  ·unfold Oper.asks at hask ⊢
   rw [hex] at hask;exact hask
  rcases hlets with ⟨he,_⟩ | ⟨_,hl⟩
  ·cases he
  exact ⟨_,_,hl⟩
theorem abl {Q:Exit→Act→World→Prop} {S:Spec} {n:Nat} {D:List (List Nat)} {w:World} {a0:Act} (hB:headB ops n a0.tmps.size D=true) (hM:acu ops n D=true) (hD:∀ k,(S.at' k).1=D.getD k []) :
  ∀ (l:List Oper) (k:Nat),(∀ j,j < l.length→l[j]? = ops[k+j]?)→k+l.length≤n→a8e P ops Q S a0 w l k→grows P ops Q S (fun vs=>a00 ops vs (List.range n) a0) w l k
 | [],_,_,_,_=>trivial
 | o :: r,k,hl,hkn,hg=>by
  have hB':=hB
  simp only [headB,zN,zM,yQ,yK,zZ] at hB'
  obtain ⟨hsel,hns,hk⟩:=hB'
  simp only [acu,yK,zZ,zN,zM,yQ] at hM
  have hin:k < n:=by rw [yS] at hkn;omega
  have ho:ops[k]? = some o:=by have:=hl 0 (by simp);simpa using this.symm
  refine ⟨fun vs W hW hkn'=>?_,abl hB (by simp only [acu,yK,zZ,zN,zM,yQ];exact hM) hD r (k+1) (fun j hj=>by have:=hl (j+1) (by simp;omega);simpa [Nat.add_assoc,Nat.add_comm 1 j] using this) (by rw [yS] at hkn;omega) hg.2⟩
  obtain ⟨hk1,hk2,hk3⟩:=hk k hin
  obtain ⟨hm1,hm2⟩:=hM k hin
  rw [ho] at hk1
  simp only [zN] at hk1
  obtain ⟨d0,hd0,hd1⟩ : ∃ d,o.dst=some d∧d < a0.tmps.size:=by
   have:=hk1.1
   cases hd:o.dst with
   | none=>rw [hd] at this;cases this
   | some d=>rw [hd] at this;exact ⟨d,rfl,by simpa using this⟩
  have hs:∀ cs b,o.op≠.select cs b:=fun cs b=>Region.noSelect_spec hsel k o cs b ho
  have hdst:∀ i∈List.range n,∀ j∈List.range n,j≠i→∀ d,a03 ops i=some d→a03 ops j≠some d:=fun i hi j hj hji d h1 h2=>by
   obtain ⟨_,_,q3⟩:=hk i (zZ.1 hi)
   rcases (q3 j (zZ.1 hj)).2 with (h | h) | h
   ·exact hji (by simpa using h)
   ·rw [h1] at h;cases h
   ·rw [h1,h2] at h;simp at h
  have hsp:=a5n (ops:=ops) (vs:=vs) (D.getD k []) (List.range n) a0 hm1 (fun d hd=>zZ.2 (hk2 d hd).1) hdst xW
  have hno:∀ j∈ado (List.range n) (D.getD k []),∀ d,a03 ops j=some d→d ∉ o.looksAt ops:=fun j hj d hjd=>by
   obtain ⟨q1,q2⟩:=a7z _ _ xW hj
   rcases hm2 j (zZ.1 q1) with h | h
   ·exact absurd (by simpa using h) q2
   ·unfold a4h at h
    rw [ho,hjd] at h
    simpa using h
  have hg1:=hg.1 vs W hW hkn'
  rw [hD k] at hg1
  have hde:(a00 ops vs (List.range n) a0).defers=a0.defers:=a1k vs _ _
  show wpList P ops (a8f Q (a00 ops vs (List.range n) a0).defers o.dst (S.at' k).2 W) [o] (a00 ops vs (List.range n) a0) W
  rw [hde]
  refine a8l (A:=a00 ops vs (D.getD k []) a0) ?_ ?_ (a1k vs _ _) hde hd0 (by rw [a14];exact hd1) (by rw [a14];exact hd1) hg1
  ·rw [hsp];exact (a3c hs vs _ _ hno).symm
  ·rw [hsp];exact (a1u vs _ _ hno).symm
theorem aav {id:Nat} {Q:Exit→Act→World→Prop} {a:Act} {w:World} {l:List Oper} (n:Nat) (F:List Nat) (S:Spec) (hm:P.follows .mixedOrders=true) (hB:headB l.toArray n a.tmps.size (S.map (·.1))=true) (hT:aiw l.toArray n F=true) (hF:aix l.toArray n F (S.map (·.1))=true) (hM:acu l.toArray n (S.map (·.1))=true) (hlt:akl l.toArray S F) (hst:stays S)
  (hob:a8e P l.toArray Q S a w (l.take n) 0)
  (ht:∀ vs W,Below w w W→(∀ k,k < n→(S.at' k).2 (vs k) W)→wpList P l.toArray (Qn Q) (l.drop n) (a1d vs (l.take n) 0 a) W):(Code.region id l.toArray true).wp P Q a w:=by
 have hn:n≤l.length:=by
  have h:=hB
  simp only [headB,zN,zM] at h
  have:=h.2.1
  simp at this
  omega
 have hlen:(l.take n).length=n:=by simp;omega
 have hFF:∀ vs,a00 l.toArray vs (List.range n) a=a1d vs (l.take n) 0 a:=fun vs=>by
  have:=a2r (ops:=l.toArray) vs (l.take n) 0 a fun j hj=>by
   (have hj':j < n:=by rw [hlen] at hj;exact hj);simp [hj']
  rw [hlen] at this
  rw [vM]
  exact this
 have hD:∀ k,(S.at' k).1=(S.map (·.1)).getD k []:=fun k=>by
  unfold Spec.at'
  rw [zB,zB,xC]
  cases S[k]?<;>rfl
 have hgr:=abl (P:=P) (Q:=Q) (S:=S) (w:=w) hB hM hD (l.take n) 0 (fun j hj=>by
  have hj':j < n:=by rw [hlen] at hj;exact hj
  simp [hj']) (by omega) hob
 refine wp_region_any hm ?_
 have hs:=aei (P:=P) (Q:=Q) (S:=S) (w:=w) (a0:=a) (hd:=l.take n) (tl:=l.drop n) hB hT hF (fun k=>by
   unfold Spec.at';rw [zB,zB,xC]
   cases S[k]?<;>rfl) hst hlt (fun j=>by simp [uN]) (fun j hj=>by simp [hj])
   hgr (by simpa only [hFF] using ht) n (Array.replicate l.toArray.size false) a { w with drawn:=w.drawn+1 } (fun _=>undef)
   (by unfold a1l;rw [wC.2 (fun k _=>by rw [yC];rfl)];simp)
   ⟨by simp,fun j oj _ hl=>(by rw [yC] at hl;cases hl),fun t _ ht=>getD_in (by simpa using ht) (yC _ _)⟩
   bR.drew (fun vs _=>by unfold a1l;rw [wC.2 (fun k _=>by rw [yC];rfl)])
   (fun k _ h=>by rw [yC] at h;cases h)
 rwa [show n+(l.toArray.size - n)=l.toArray.size by simp;omega] at hs
end
end Go.Proofs.YtppjleebbjipbaaGreat
