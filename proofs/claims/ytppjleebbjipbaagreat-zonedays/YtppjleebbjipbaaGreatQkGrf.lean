/-
  wp_region_min for a region whose first operation (a move of what nobody in it changes) is waited for only behind the head: it is done first.
-/
import Derived.Test.YtppjleebbjipbaaGreatQkGrm
set_option linter.all false
namespace Go.Proofs.YtppjleebbjipbaaGreat
open Go Go.RowKit
section
variable {P:Program} {ops:Array Oper}
def ao1 (ops:Array Oper) (n:Nat):Bool :=
 (List.range n).all fun i=>i == 0||(List.range (n+1)).any fun j=>decide (i < j)&&Region.waitsFor .any ops j i
theorem ael {n:Nat} {listed:Array Bool} (h00:listed.getD 0 false=true) (hs:ao1 ops n=true) (hc:Region.chainB .any ops n=true) (hn:n < ops.size) (inv:HeadInv .any ops n listed) :
  ∀ (d i:Nat),n - i=d→i < n→listed.getD i true=false→∀ t,n≤t→t ∉ Region.ready .any ops listed:=by
 intro d
 induction d using Nat.strongRecOn with
 | _ d ih =>
  intro i hd hi hun t ht hr
  obtain ⟨_,ot,hot,hall⟩:=vN.1 hr
  have htlt:t < ops.size:=(zL.1 hot).1
  by_cases htn:t=n;rotate_left
  ·have h1:=yK.1 hc t (zZ.2 htlt)
   simp only [yQ,zM] at h1
   rcases h1 with h1 | h1
   ·omega
   obtain ⟨o',ho',e,he,hb,hon⟩:=Region.waitsFor_spec h1;have:o' = ot:=xO (ho'.symm.trans hot);subst this;have h2:=hall e he hb;rw [hon,vX (inv.tail (t - 1) (by omega) (by omega))] at h2;cases h2
  subst htn
  have h1:=yK.1 hs i (zZ.2 hi)
  have hi0:i≠0:=fun e=>by
   rw [e] at hun;rw [vX hun] at h00;cases h00
  rw [yQ] at h1
  obtain ⟨j,hj,hj2⟩:=List.any_eq_true.1 (h1.resolve_left (by simpa using hi0))
  simp only [zN,zM] at hj2
  obtain ⟨oj,hoj,e,he,hb,hon⟩:=Region.waitsFor_spec hj2.2
  have hjle:j≤t:=by have:=zZ.1 hj;omega
  by_cases hjt:j=t
  ·subst hjt
   have:oj=ot:=xO (hoj.symm.trans hot);subst this;have h2:=hall e he hb;rw [hon,vX hun] at h2;cases h2
  cases hl:listed.getD j false
  ·have hjs:j < listed.size:=by rw [inv.size];omega
   exact ih (t - j) (by omega) j rfl (by omega) (getD_in hjs hl) t (zD _) hr
  have h2:=inv.closed j oj hoj hl e he hb
  rw [hon,vX hun] at h2
  cases h2
def ahi (ops:Array Oper) (n sz:Nat) (D:List (List Nat)):Bool :=
 Region.noSelect ops&&decide (n≤ops.size)&&(decide (n=ops.size)||(ao1 ops n&&Region.chainB .any ops n)) &&
 Region.seqB .any ops (ops.size - n) n ((List.range ops.size).map fun i=>decide (i < n)).toArray &&
 (List.range n).all fun k=>(match ops[k]? with | some o=>(match o.dst with | some d=>decide (d < sz) | none=>false)&&(o.after.all fun e => !Region.binds .any e||decide (e.on < k)) | none=>false) &&
  (((D.getD k []).all fun d=>decide (d < n)&&Region.waitsFor .any ops k d) &&
  (List.range n).all fun j=>(Region.waitsFor .any ops k j || !a4h ops k j)&&(j == k || !(a03 ops k).isSome||a03 ops k != a03 ops j))
theorem aeh {Q:Exit→Act→World→Prop} {S:Spec} {n:Nat} {D:List (List Nat)} {w:World} {a0:Act} (hB:ahi ops n a0.tmps.size D=true) (hD:∀ k,(S.at' k).1=D.getD k []) (hst:stays S)
  {hd tl:List Oper} (htl:∀ j,tl[j]? = ops[n+j]?) (htn:tl.length=ops.size - n) (hhd:∀ j,j < n→hd[j]? = ops[j]?)
  (hob:grows P ops Q S (fun vs=>a00 ops vs (List.range n) a0) w hd 0)
  (ht:∀ vs W,Below w w W→(∀ k,k < n→(S.at' k).2 (vs k) W)→wpList P ops Q tl (a00 ops vs (List.range n) a0) W) :
  ∀ (f:Nat) (listed:Array Bool) (a:Act) (W:World) (us:Nat→Value),(a1l n listed).length=f→HeadInv .any ops n listed→listed.getD 0 false=true→Below w w W →
   (∀ vs,(∀ k,k < n→listed.getD k false=true→vs k=us k)→a00 ops vs (a1l n listed) a=a00 ops vs (List.range n) a0) →
   (∀ k,k < n→listed.getD k false=true→(S.at' k).2 (us k) W)→wpAny P .any ops Q (f+(ops.size - n)) listed a W:=by
 simp only [ahi,zN,zM,yQ,yK,zZ] at hB
 obtain ⟨⟨⟨⟨hsel,hns⟩,hsc⟩,hseq⟩,hk⟩:=hB
 intro f
 induction f with
 | zero =>
  intro listed a W us hf inv h00 hW hag hfa
  have hnil:a1l n listed = []:=yH.1 hf
  have hall:∀ k,k < n→listed.getD k false=true:=fun k hkn=>by
   cases h:listed.getD k false with
   | true=>rfl
   | false=>exact absurd (a1i.2 ⟨hkn,h⟩) (by rw [hnil];exact xE)
  have hl:listed=((List.range ops.size).map fun i=>decide (i < n)).toArray:=by
   apply wQ;intro j;rw [(List.getElem?_toArray:((List.range ops.size).map fun i=>decide (i < n)).toArray[j]? = _),xC];by_cases hj:j < ops.size
   ·rw [List.getElem?_range hj,zT (by rw [inv.size];exact hj)]
    by_cases hjn:j < n
    ·have:=hall j hjn
     rw [yB,zT (by rw [inv.size];exact hj)] at this;simpa [hjn] using this
    have:=inv.tail j (by omega) hj;rw [yB,zT (by rw [inv.size];exact hj)] at this;simpa [hjn] using this
   rw [Array.getElem?_eq_none (by rw [inv.size];omega),List.getElem?_eq_none (by simp;omega)];rfl
  rw [← hl] at hseq
  have h1:=hag us fun _ _ _=>rfl
  rw [hnil] at h1
  have h2:=ht us W hW fun k hkn=>hfa k hkn (hall k hkn)
  rw [← h1] at h2
  rw [yI,← htn]
  rw [← htn] at hseq
  exact wpAny_of_seq tl n listed a W htl hseq h2
 | succ f ih =>
  intro listed a W us hf inv h00 hW hag hfa
  have hne : ∃ k,k∈a1l n listed:=List.exists_mem_of_ne_nil _ (by intro h;rw [h] at hf;cases hf)
  obtain ⟨k0,hk0⟩:=hne
  have ams:∀ i∈Region.ready .any ops listed,i < n:=fun i hi=>by
   rcases zU i n with h | h
   ·exact h
   ·exfalso
    obtain ⟨_,o,ho,_⟩:=vN.1 hi;have hlt:i < ops.size:=(zL.1 ho).1
    rcases hsc with hsc | ⟨hs,hc⟩
    ·omega
    ·obtain ⟨q1,q2⟩:=a1i.1 hk0
     exact ael h00 hs hc (by omega) inv _ k0 rfl q1 (getD_in (by rw [inv.size];omega) q2) i h hi
  rw [show f+1+(ops.size - n)=(f+(ops.size - n))+1 by omega]
  refine ⟨fun h0=>?_,fun i hi=>?_⟩
  ·exfalso
   have key:∀ k,k≤n→∀ j,j < k→listed.getD j false=true:=by
    intro k
    induction k with
    | zero=>intro _ j hj;omega
    | succ k ihk =>
     intro hkn j hj;have hb:=ihk (by omega)
     rcases zU j k with h | h
     ·exact hb j h
     (have hjk:j=k:=by omega);subst hjk
     cases hjf:listed.getD j false with
     | true=>rfl
     | false =>
      have h1:=(hk j (by omega)).1
      cases ho:ops[j]? with
      | none=>rw [ho] at h1;exact absurd h1 (by simp)
      | some o =>
       rw [ho] at h1;simp only [zN,wS,yQ,vF,zM] at h1;have h1:=And.intro True.intro h1.2
       have:j∈Region.ready .any ops listed:=vN.2 ⟨getD_in (by rw [inv.size];omega) hjf,o,ho,fun e he hbd=>by
        rcases h1.2 e he with h2 | h2
        ·rw [h2] at hbd;cases hbd
        ·exact hb e.on h2⟩
       rw [h0] at this;cases this
   have:=(a1i.1 hk0)
   rw [key n (zD _) k0 this.1] at this;exact absurd this.2 (by simp)
  have hin:=ams i hi
  obtain ⟨hun,o,ho,hall⟩:=vN.1 hi
  have his:i < listed.size:=by rw [inv.size];omega
  have hir:i∈a1l n listed:=a1i.2 ⟨hin,vX hun⟩
  obtain ⟨hk1,hk2,hk3⟩:=hk i hin
  rw [ho] at hk1
  simp only [zN] at hk1
  have hdd : ∃ d,o.dst=some d∧d < a0.tmps.size:=by
   have:=hk1.1
   cases hd:o.dst with
   | none=>rw [hd] at this;cases this
   | some d=>rw [hd] at this;exact ⟨d,rfl,by simpa using this⟩
  obtain ⟨d0,hd0,hd1⟩:=hdd
  have hs:∀ cs b,o.op≠.select cs b:=fun cs b=>Region.noSelect_spec hsel i o cs b ho
  have hdi:a03 ops i=o.dst:=by unfold a03;rw [ho];rfl
  have hlook:∀ j∈a1l n listed,∀ d,a03 ops j=some d→d ∉ o.looksAt ops:=fun j hj d hjd=>by
   obtain ⟨q1,q2⟩:=a1i.1 hj
   rcases (hk3 j q1).1 with h | h
   ·obtain ⟨o',ho',e,he,hb,hon⟩:=Region.waitsFor_spec h
    have:o' = o:=xO (ho'.symm.trans ho);subst this;have:=hall e he hb;rw [hon,q2] at this;cases this
   ·unfold a4h at h
    rw [ho,hjd] at h;simpa using h
  have hfr:=hag us fun _ _ _=>rfl
  have hex:execOp (a00 ops us (List.range n) a0).eval o=execOp a.eval o:=by rw [← hfr];exact a3c hs us _ _ hlook
  have hwe:Region.wanted o (yielded ops (a00 ops us (List.range n) a0).tmps)=Region.wanted o (yielded ops a.tmps):=by rw [← hfr];exact a1u us _ _ hlook
  have hsz:(a00 ops us (List.range n) a0).tmps.size=a.tmps.size:=by rw [← hfr];exact a14 us _ _
  have hkn:knows S us W (S.at' i).1:=a8b _ fun d hd=>by
   rw [hD] at hd;obtain ⟨q1,q2⟩:=hk2 d hd;obtain ⟨o',ho',e,he,hb,hon⟩:=Region.waitsFor_spec q2;have:o' = o:=xO (ho'.symm.trans ho);subst this;exact hfa d q1 (by rw [← hon];exact hall e he hb)
  have hop:=a9m hd 0 hob i o ((hhd i hin).trans ho) us W hW (by rw [yI];exact hkn)
  rw [yI] at hop
  unfold wpList at hop
  unfold wpOp
  rw [ho]
  have hgo:∀ v W',a8f Q (a00 ops us (List.range n) a0).defers o.dst (S.at' i).2 W .normal ((a00 ops us (List.range n) a0).put o.dst v) W' →
    wpAny P .any ops Q (f+(ops.size - n)) (listed.setIfInBounds i true) (a.put o.dst v) W':=fun v W' hq=>by
   rcases hq with ⟨_,_,hbW,hΦ⟩ | ⟨he,_⟩
   ·have hev:((a00 ops us (List.range n) a0).put o.dst v).eval (.tmp (o.dst.getD 0))=v:=by
     have h1:=a14 (ops:=ops) us (List.range n) a0;rw [hd0];simp only [Act.eval,Act.put,vU];rw [yB,xM,zQ (by rw [h1];exact hd1)];rfl
    rw [hev] at hΦ
    obtain ⟨v',hv'⟩ : ∃ v',v' = v:=⟨v,rfl⟩
    rw [← hv'] at hΦ ⊢;refine ih _ _ W' (fun j=>if j=i then v' else us j) (by rw [a5f his,vP hir,hf];rfl) (inv.set hi hin) (getD_set_true h00) (hW.trans (hbW.mono hW.size)) (fun vs hvs=>?_) (fun k hkn' hkl=>?_)
    ·have hvi:vs i=v':=(hvs i hin (a1t his)).trans (zQ rfl)
     rw [a5f his,← hvi,← hdi,← a2x vs (a1l n listed) a hir fun j hj hji d hd1 hd2=>?_]
     ·refine hag vs fun k hkn' hkl=>?_
      have hki:k≠i:=fun e=>by rw [e,vX hun] at hkl;cases hkl
      exact (hvs k hkn' (getD_set_true hkl)).trans (zS hki)
     ·rcases (hk3 j (a1i.1 hj).1).2 with (h | h) | h
      ·exact hji (by simpa using h)
      ·rw [hd1] at h;cases h
      ·rw [hd1,hd2] at h;simp at h
    ·by_cases hki:k=i
     ·subst hki
      rw [zQ rfl];exact hΦ
     ·rw [zS hki]
      rw [getD_set_ne false (fun e=>hki e.symm)] at hkl;exact hst k _ _ _ (hfa k hkn' hkl) hbW
   ·cases he
  by_cases hwt:Region.wanted o (yielded ops a.tmps)=true
  case neg => rw [hwe,zS hwt] at hop;simp only [hwt,if_false];exact hgo undef W hop
  rw [hwe,zQ hwt] at hop
  simp only [hwt,if_true]
  rcases hop with hop | ⟨hask,b,W',hlets⟩
  ·refine .inl ?_
   unfold Oper.wp at hop ⊢;rw [hex] at hop;generalize (execOp a.eval o).run P W=r at *
   cases r with
   | ok nx W' =>
    cases nx<;>simp only [Oper.upon] at hop ⊢
    case value v=>exact hgo v W' hop
    case skip=>exact hgo undef W' hop
    case defer d =>
     exfalso
     rcases hop with ⟨_,he,_⟩ | ⟨he,_⟩
     ·have h2:∀ (b:Act) dst v,(b.put dst v).defers=b.defers:=fun b dst v=>by cases dst<;>rfl
      rw [h2] at he;exact absurd (congrArg List.length he) (by simp)
     ·cases he
    case enter g args =>
     refine Calls.mono hop fun e W2 he=>?_
     cases e with
     | returned v=>exact hgo v W2 he
     | panicked c=>rcases he with ⟨he,_⟩ | ⟨he,_⟩<;>cases he
     | outgrown =>
      obtain ⟨b,W3,hl⟩:=he
      rcases hl with ⟨hl,_⟩ | ⟨_,hl⟩
      ·cases hl
      ·exact ⟨_,_,hl⟩
    case row row args=>exact Rows.mono hop fun v W2 he=>hgo v W2 he
   | halt x W' =>
    cases x<;>simp only [Oper.upon] at hop ⊢
    case panic v=>rcases hop with ⟨he,_⟩ | ⟨he,_⟩<;>cases he
  refine .inr ⟨?_,?_⟩
  ·unfold Oper.asks at hask ⊢
   rw [hex] at hask;exact hask
  rcases hlets with ⟨he,_⟩ | ⟨_,hl⟩
  ·cases he
  exact ⟨_,_,hl⟩
theorem abk {Q:Exit→Act→World→Prop} {S:Spec} {n:Nat} {D:List (List Nat)} {w:World} {a0:Act} (hB:ahi ops n a0.tmps.size D=true) (hM:acu ops n D=true) (hD:∀ k,(S.at' k).1=D.getD k []) :
  ∀ (l:List Oper) (k:Nat),(∀ j,j < l.length→l[j]? = ops[k+j]?)→k+l.length≤n→a8e P ops Q S a0 w l k→grows P ops Q S (fun vs=>a00 ops vs (List.range n) a0) w l k
 | [],_,_,_,_=>trivial
 | o :: r,k,hl,hkn,hg=>by
  have hB':=hB
  simp only [ahi,zN,zM,yQ,yK,zZ] at hB'
  obtain ⟨⟨⟨⟨hsel,hns⟩,hsc⟩,hseq⟩,hk⟩:=hB'
  simp only [acu,yK,zZ,zN,zM,yQ] at hM
  have hin:k < n:=by rw [yS] at hkn;omega
  have ho:ops[k]? = some o:=by have:=hl 0 (by simp);simpa using this.symm
  refine ⟨fun vs W hW hkn'=>?_,abk hB (by simp only [acu,yK,zZ,zN,zM,yQ];exact hM) hD r (k+1) (fun j hj=>by have:=hl (j+1) (by simp;omega);simpa [Nat.add_assoc,Nat.add_comm 1 j] using this) (by rw [yS] at hkn;omega) hg.2⟩
  obtain ⟨hk1,hk2,hk3⟩:=hk k hin
  obtain ⟨hm1,hm2⟩:=hM k hin
  rw [ho] at hk1
  simp only [zN] at hk1
  obtain ⟨d0,hd0,hd1⟩ : ∃ d,o.dst=some d∧d < a0.tmps.size:=by
   have:=hk1.1
   cases hd:o.dst with
   | none=>rw [hd] at this;cases this
   | some d=>rw [hd] at this;exact ⟨d,rfl,by simpa using this⟩
  have hs:∀ cs b,o.op≠.select cs b:=fun cs b=>Region.noSelect_spec hsel k o cs b ho
  have hdst:∀ i∈List.range n,∀ j∈List.range n,j≠i→∀ d,a03 ops i=some d→a03 ops j≠some d:=fun i hi j hj hji d h1 h2=>by
   obtain ⟨_,_,q3⟩:=hk i (zZ.1 hi)
   rcases (q3 j (zZ.1 hj)).2 with (h | h) | h
   ·exact hji (by simpa using h)
   ·rw [h1] at h;cases h
   ·rw [h1,h2] at h;simp at h
  have hsp:=a5n (ops:=ops) (vs:=vs) (D.getD k []) (List.range n) a0 hm1 (fun d hd=>zZ.2 (hk2 d hd).1) hdst xW
  have hno:∀ j∈ado (List.range n) (D.getD k []),∀ d,a03 ops j=some d→d ∉ o.looksAt ops:=fun j hj d hjd=>by
   obtain ⟨q1,q2⟩:=a7z _ _ xW hj
   rcases hm2 j (zZ.1 q1) with h | h
   ·exact absurd (by simpa using h) q2
   ·unfold a4h at h
    rw [ho,hjd] at h
    simpa using h
  have hg1:=hg.1 vs W hW hkn'
  rw [hD k] at hg1
  have hde:(a00 ops vs (List.range n) a0).defers=a0.defers:=a1k vs _ _
  show wpList P ops (a8f Q (a00 ops vs (List.range n) a0).defers o.dst (S.at' k).2 W) [o] (a00 ops vs (List.range n) a0) W
  rw [hde]
  refine a8l (A:=a00 ops vs (D.getD k []) a0) ?_ ?_ (a1k vs _ _) hde hd0 (by rw [a14];exact hd1) (by rw [a14];exact hd1) hg1
  ·rw [hsp];exact (a3c hs vs _ _ hno).symm
  ·rw [hsp];exact (a1u vs _ _ hno).symm
theorem a7o {id:Nat} {Q:Exit→Act→World→Prop} {a:Act} {w:World} {l:List Oper} (n:Nat) (S:Spec) (hm:P.follows .mixedOrders=true) (hB:ahi l.toArray n a.tmps.size (S.map (·.1))=true) (hM:acu l.toArray n (S.map (·.1))=true) (hst:stays S)
  {o0:Oper} {v0:Value} (ho0:l[0]? = some o0) (hn0:0 < n) (hfr:Region.free .any l.toArray (Array.replicate l.toArray.size false) 0=true) (hrd:(Region.ready .any l.toArray (Array.replicate l.toArray.size false)).contains 0=true)
  (hy:Yields P l.toArray o0 v0 a) (hp:∀ c a' w',Q (.panic c) (a'.put o0.dst v0) w'→Q (.panic c) a' w') (hs0:∀ W,(S.at' 0).2 v0 W)
  (hob:a8e P l.toArray Q S a w (l.take n) 0)
  (ht:∀ vs W,Below w w W→(∀ k,k < n→(S.at' k).2 (vs k) W)→wpList P l.toArray Q (l.drop n) (a1d vs (l.take n) 0 a) W):(Code.region id l.toArray true).wp P Q a w:=by
 have hB':=hB
 simp only [ahi,zN,zM,yQ,yK,zZ] at hB'
 obtain ⟨⟨⟨⟨hsel,hns⟩,_⟩,_⟩,hk⟩:=hB'
 have hn:n≤l.length:=by simpa using hns
 have hlen:(l.take n).length=n:=by simp;omega
 have hF:∀ vs,a00 l.toArray vs (List.range n) a=a1d vs (l.take n) 0 a:=fun vs=>by
  have:=a2r (ops:=l.toArray) vs (l.take n) 0 a fun j hj=>by
   (have hj':j < n:=by rw [hlen] at hj;exact hj);simp [hj']
  rw [hlen] at this
  rw [vM]
  exact this
 have hD:∀ k,(S.at' k).1=(S.map (·.1)).getD k []:=fun k=>by
  unfold Spec.at'
  rw [zB,zB,xC]
  cases S[k]?<;>rfl
 have hg:=abk (P:=P) (Q:=Q) (S:=S) (w:=w) hB hM hD (l.take n) 0 (fun j hj=>by
  have hj':j < n:=by rw [hlen] at hj;exact hj
  simp [hj']) (by omega) hob
 refine wp_region_any hm ?_
 have hsz:l.toArray.size=l.length:=by simp
 have hpos:0 < (Array.replicate l.toArray.size false).size:=by simp;omega
 have hr0:a1l n (Array.replicate l.toArray.size false)=List.range n:=by unfold a1l;rw [wC.2 (fun k _=>by rw [yC];rfl)]
 have h0m:(0:Nat)∈List.range n:=zZ.2 hn0
 have hd0:a03 l.toArray 0=o0.dst:=by unfold a03;rw [show l.toArray[0]? = some o0 by simpa using ho0];rfl
 have inv0:HeadInv .any l.toArray n (Array.replicate l.toArray.size false):=⟨by simp,fun j oj _ hl=>(by rw [yC] at hl;cases hl),fun t _ ht=>getD_in (by simpa using ht) (yC _ _)⟩
 have hmem:0∈Region.ready .any l.toArray (Array.replicate l.toArray.size false):=by simpa using hrd
 have hs:=aeh (P:=P) (Q:=Q) (S:=S) (w:=w) (a0:=a) (hd:=l.take n) (tl:=l.drop n) hB hD hst (fun j=>by simp [uN]) (by simp) (fun j hj=>by simp [hj])
   hg (by simpa only [hF] using ht) (n - 1) ((Array.replicate l.toArray.size false).setIfInBounds 0 true) (a.put o0.dst v0) { w with drawn:=w.drawn+1 } (fun _=>v0)
   (by rw [a5f hpos,hr0,vP h0m,List.length_range])
   (inv0.set hmem hn0) (a1t hpos) bR.drew (fun vs hvs=>?_) (fun k hkn h=>?_)
 ·have h2:=wpAny_take (md:=.any) (P:=P) (Q:=Q) (ops:=l.toArray) (i:=0) (oi:=o0) (v:=v0) (fuel:=n - 1+(l.toArray.size - n)) (listed:=Array.replicate l.toArray.size false) (a:=a) (w:={ w with drawn:=w.drawn+1 }) (by simpa using ho0) hsel hfr hrd hp hy hs
  rwa [show n - 1+(l.toArray.size - n)+1=l.toArray.size by omega] at h2
 ·rw [a5f hpos,hr0,a2x vs (List.range n) a h0m fun j hj hji d h1 h2=>?_,hd0,hvs 0 hn0 (a1t hpos)]
  obtain ⟨_,_,q3⟩:=hk 0 hn0
  rcases (q3 j (zZ.1 hj)).2 with (h | h) | h
  ·exact hji (by simpa using h)
  ·rw [h1] at h;cases h
  rw [h1,h2] at h;simp at h
 by_cases hk0:k=0
 ·subst hk0;exact hs0 _
 rw [getD_set_ne false (fun e=>hk0 e.symm),yC] at h
 cases h
end
end Go.Proofs.YtppjleebbjipbaaGreat
