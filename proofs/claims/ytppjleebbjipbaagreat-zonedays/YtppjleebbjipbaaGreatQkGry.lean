/-
  A region that draws its order, within a round: one operation of its head is a store into a block that no other operation of it looks at; it may come at any time.
-/
import Derived.Test.YtppjleebbjipbaaGreatQkRngX
set_option linter.all false
namespace Go.Proofs.YtppjleebbjipbaaGreat
open Go Go.RowKit
section
variable {P:Program} {ops:Array Oper}
def abm (ops:Array Oper) (n sz s:Nat) (D:List (List Nat)):Bool :=
 Region.noSelect ops&&decide (n≤ops.size)&&(decide (n=ops.size)||(Region.sinkB .any ops n&&Region.chainB .any ops n)) &&
 Region.seqB .any ops (ops.size - n) n ((List.range ops.size).map fun i=>decide (i < n)).toArray &&
 (List.range n).all fun k=>(match ops[k]? with | some o=>(match o.dst with | some d=>decide (d < sz) | none=>k == s)&&(o.after.all fun e => !Region.binds .any e||decide (e.on < k)) | none=>false) &&
  (((D.getD k []).all fun d=>decide (d < n)&&Region.waitsFor .any ops k d) &&
  (List.range n).all fun j=>(Region.waitsFor .any ops k j || !a4h ops k j)&&(j == k || !(a03 ops k).isSome||a03 ops k != a03 ops j))
def ajf (s B:Nat) (I:World→Prop) (k:Nat) (W W':World):Prop:=if k=s then a1x W.heap.size (fun j=>j=B) W W'∧I W' else Below W W W'
def CY (B:Nat) (I:World→Prop) (w W:World):Prop:=a1x w.heap.size (fun k=>k=B) w W∧I W
theorem CY.eff {s B k:Nat} {I:World→Prop} (hI:∀ W W',I W→Below W W W'→I W') {w W W':World} (h:CY B I w W) (h2:ajf s B I k W W'):CY B I w W':=by
 have h3:a1x W.heap.size (fun j=>j=B) W W'∧I W':=by
  unfold ajf at h2
  split at h2
  ·exact h2
  exact ⟨a1x.of h2 _,hI _ _ h.2 h2⟩
 have h4:=h3.1
 have h5:=h.1
 exact ⟨⟨h4.os.trans h5.os,h4.tape.trans h5.tape,h4.output.trans h5.output,yG h5.size h4.size,fun k hk hn=>(h4.block k (xP hk h5.size) hn).trans (h5.block k hk hn)⟩,h3.2⟩
def a9b (Q:Exit→Act→World→Prop) (s B:Nat) (I:World→Prop) (k:Nat) (ds:List Deferred) (dst:Option Tmp) (Φ:Say) (W:World) (e:Exit) (a':Act) (W':World):Prop :=
 (e=.normal∧a'.defers=ds∧ajf s B I k W W'∧(match dst with | some d=>Φ (a'.eval (.tmp d)) W' | none=>∀ v,Φ v W'))∨(e=.outgrown∧Q .outgrown a' W')
theorem a0x {Q:Exit→Act→World→Prop} {s B k:Nat} {I:World→Prop} {ds:List Deferred} {d:Tmp} {Φ:Say} {W W':World} {a':Act} (hk:k≠s) (v:Value) (hd:a'.defers=ds) (he:a'.eval (.tmp d)=v) (hb:Below W W W') (h:Φ v W'):a9b Q s B I k ds (some d) Φ W .normal a' W' :=
 .inl ⟨rfl,hd,by unfold ajf;rw [zS hk];exact hb,by dsimp only;rw [he];exact h⟩
theorem adv {Q:Exit→Act→World→Prop} {s B:Nat} {I:World→Prop} {ds:List Deferred} {Φ:Say} {W W':World} {a':Act} (hd:a'.defers=ds) (hb:a1x W.heap.size (fun j=>j=B) W W') (hi:I W') (h:∀ v,Φ v W'):a9b Q s B I s ds none Φ W .normal a' W' :=
 .inl ⟨rfl,hd,by unfold ajf;rw [zQ rfl];exact ⟨hb,hi⟩,h⟩
def alf (S:Spec) (s B:Nat) (I:World→Prop):Prop:=∀ k j v W W',k≠j→(S.at' k).2 v W→ajf s B I j W W'→(S.at' k).2 v W'
def ag4 (P:Program) (ops:Array Oper) (Q:Exit→Act→World→Prop) (S:Spec) (F:(Nat→Value)→Act) (s B:Nat) (I:World→Prop) (w:World):List Oper→Nat→Prop
 | [],_=>True
 | o :: r,k=>(∀ vs W,CY B I w W→knows S vs W (S.at' k).1→wpList P ops (a9b Q s B I k (F vs).defers o.dst (S.at' k).2 W) [o] (F vs) W)∧ag4 P ops Q S F s B I w r (k+1)
def aj9 (P:Program) (ops:Array Oper) (Q:Exit→Act→World→Prop) (S:Spec) (a0:Act) (n s B:Nat) (I:World→Prop) (w:World):List Oper→Nat→Prop
 | [],_=>True
 | o :: r,k=>(∀ vs W,CY B I w W→knows S vs W (S.at' k).1→wpList P ops (a9b Q s B I k a0.defers o.dst (S.at' k).2 W) [o] (a00 ops vs (if k=s then List.range n else (S.at' k).1) a0) W)∧aj9 P ops Q S a0 n s B I w r (k+1)
theorem adu {Q:Exit→Act→World→Prop} {S:Spec} {F:(Nat→Value)→Act} {s B:Nat} {I:World→Prop} {w:World}:∀ (l:List Oper) (k:Nat),ag4 P ops Q S F s B I w l k→∀ j o,l[j]? = some o →
  ∀ vs W,CY B I w W→knows S vs W (S.at' (k+j)).1→wpList P ops (a9b Q s B I (k+j) (F vs).defers o.dst (S.at' (k+j)).2 W) [o] (F vs) W
 | [],_,_,j,o,h=>by simp at h
 | x :: l,k,hg,0,o,h=>by
  have:x=o:=by simpa using h
  subst this
  exact hg.1
 | x :: l,k,hg,j+1,o,h=>by
  have:=adu l (k+1) hg.2 j o (by simpa using h)
  rwa [show k+1+j=k+(j+1) by omega] at this
theorem aee {A C:Act} {o:Oper} {d0:Tmp} {Q:Exit→Act→World→Prop} {s B k:Nat} {I:World→Prop} {ds:List Deferred} {Φ:Say} {W:World} (hex:execOp A.eval o=execOp C.eval o) (hwe:Region.wanted o (yielded ops A.tmps)=Region.wanted o (yielded ops C.tmps)) (hda:A.defers=ds) (hdb:C.defers=ds) (hd0:o.dst=some d0) (hA:d0 < A.tmps.size) (hB:d0 < C.tmps.size)
  (hop:wpList P ops (a9b Q s B I k ds o.dst Φ W) [o] A W):wpList P ops (a9b Q s B I k ds o.dst Φ W) [o] C W:=by
 have hev:∀ (X:Act) (v:Value),d0 < X.tmps.size→(X.put o.dst v).eval (.tmp d0)=v:=fun X v hC=>by
  rw [hd0]
  simp only [Act.eval,Act.put,vU]
  rw [yB,xM,zQ hC]
  rfl
 have hpd:∀ (X:Act) dst v,(X.put dst v).defers=X.defers:=fun X dst v=>by cases dst<;>rfl
 have hgo:∀ v W',a9b Q s B I k ds o.dst Φ W .normal (A.put o.dst v) W'→a9b Q s B I k ds o.dst Φ W .normal (C.put o.dst v) W':=fun v W' hq=>by
  rcases hq with ⟨_,_,hbW,hΦ⟩ | ⟨he,_⟩
  ·rw [hd0] at hΦ
   dsimp only at hΦ;rw [← hd0,hev A v hA] at hΦ;refine .inl ⟨rfl,by rw [hpd,hdb],hbW,?_⟩;rw [hd0];dsimp only;rw [← hd0,hev C v hB];exact hΦ
  ·cases he
 unfold wpList at hop ⊢
 by_cases hwt:Region.wanted o (yielded ops C.tmps)=true
 case neg => rw [hwe,zS hwt] at hop;simp only [hwt,if_false];exact hgo undef W hop
 rw [hwe,zQ hwt] at hop
 simp only [hwt,if_true]
 rcases hop with hop | ⟨hask,hlets⟩
 ·refine .inl ?_
  unfold Oper.wp at hop ⊢
  rw [hex] at hop
  generalize (execOp C.eval o).run P W=r at *
  cases r with
  | ok nx W' =>
   cases nx<;>simp only [Oper.upon] at hop ⊢
   case value v=>exact hgo v W' hop
   case skip=>exact hgo undef W' hop
   case defer d =>
    exfalso
    rcases hop with ⟨_,he,_⟩ | ⟨he,_⟩
    ·rw [hpd,hda] at he
     exact absurd (congrArg List.length he) (by simp)
    ·cases he
   case enter g args =>
    refine Calls.mono hop fun e W2 he=>?_
    cases e with
    | returned v=>exact hgo v W2 he
    | panicked c=>rcases he with ⟨he,_⟩ | ⟨he,_⟩<;>cases he
    | outgrown=>exact he
   case row row args=>exact Rows.mono hop fun v W2 he=>hgo v W2 he
  | halt x W' =>
   cases x<;>simp only [Oper.upon] at hop ⊢
   case panic v=>rcases hop with ⟨he,_⟩ | ⟨he,_⟩<;>cases he
 refine .inr ⟨?_,hlets⟩
 unfold Oper.asks at hask ⊢
 rw [hex] at hask
 exact hask
theorem abj {Q:Exit→Act→World→Prop} {S:Spec} {n s B:Nat} {I:World→Prop} {D:List (List Nat)} {w:World} {a0:Act} (hB:abm ops n a0.tmps.size s D=true) (hM:acu ops n D=true) (hD:∀ k,(S.at' k).1=D.getD k []) :
  ∀ (l:List Oper) (k:Nat),(∀ j,j < l.length→l[j]? = ops[k+j]?)→k+l.length≤n→aj9 P ops Q S a0 n s B I w l k→ag4 P ops Q S (fun vs=>a00 ops vs (List.range n) a0) s B I w l k
 | [],_,_,_,_=>trivial
 | o :: r,k,hl,hkn,hg=>by
  have hB':=hB
  simp only [abm,zN,zM,yQ,yK,zZ] at hB'
  obtain ⟨⟨⟨⟨hsel,hns⟩,hsc⟩,hseq⟩,hk⟩:=hB'
  simp only [acu,yK,zZ,zN,zM,yQ] at hM
  have hin:k < n:=by rw [yS] at hkn;omega
  have ho:ops[k]? = some o:=by have:=hl 0 (by simp);simpa using this.symm
  refine ⟨fun vs W hW hkn'=>?_,abj hB (by simp only [acu,yK,zZ,zN,zM,yQ];exact hM) hD r (k+1) (fun j hj=>by have:=hl (j+1) (by simp;omega);simpa [Nat.add_assoc,Nat.add_comm 1 j] using this) (by rw [yS] at hkn;omega) hg.2⟩
  obtain ⟨hk1,hk2,hk3⟩:=hk k hin
  obtain ⟨hm1,hm2⟩:=hM k hin
  rw [ho] at hk1
  simp only [zN] at hk1
  have hs:∀ cs b,o.op≠.select cs b:=fun cs b=>Region.noSelect_spec hsel k o cs b ho
  have hdst:∀ i∈List.range n,∀ j∈List.range n,j≠i→∀ d,a03 ops i=some d→a03 ops j≠some d:=fun i hi j hj hji d h1 h2=>by
   obtain ⟨_,_,q3⟩:=hk i (zZ.1 hi)
   rcases (q3 j (zZ.1 hj)).2 with (h | h) | h
   ·exact hji (by simpa using h)
   ·rw [h1] at h;cases h
   ·rw [h1,h2] at h;simp at h
  have hsp:=a5n (ops:=ops) (vs:=vs) (D.getD k []) (List.range n) a0 hm1 (fun d hd=>zZ.2 (hk2 d hd).1) hdst xW
  have hno:∀ j∈ado (List.range n) (D.getD k []),∀ d,a03 ops j=some d→d ∉ o.looksAt ops:=fun j hj d hjd=>by
   obtain ⟨q1,q2⟩:=a7z _ _ xW hj
   rcases hm2 j (zZ.1 q1) with h | h
   ·exact absurd (by simpa using h) q2
   ·unfold a4h at h
    rw [ho,hjd] at h
    simpa using h
  have hg1:=hg.1 vs W hW hkn'
  have hde:(a00 ops vs (List.range n) a0).defers=a0.defers:=a1k vs _ _
  show wpList P ops (a9b Q s B I k (a00 ops vs (List.range n) a0).defers o.dst (S.at' k).2 W) [o] (a00 ops vs (List.range n) a0) W
  rw [hde]
  by_cases hks:k=s
  ·rw [zQ hks] at hg1
   exact hg1
  rw [zS hks,hD k] at hg1
  obtain ⟨d0,hd0,hd1⟩ : ∃ d,o.dst=some d∧d < a0.tmps.size:=by
   have:=hk1.1
   cases hd:o.dst with
   | none=>rw [hd] at this;exact absurd (by simpa using this) hks
   | some d=>rw [hd] at this;exact ⟨d,rfl,by simpa using this⟩
  refine aee (A:=a00 ops vs (D.getD k []) a0) ?_ ?_ (a1k vs _ _) hde hd0 (by rw [a14];exact hd1) (by rw [a14];exact hd1) hg1
  ·rw [hsp];exact (a3c hs vs _ _ hno).symm
  ·rw [hsp];exact (a1u vs _ _ hno).symm
theorem aeg {Q:Exit→Act→World→Prop} {S:Spec} {n s B:Nat} {I:World→Prop} {D:List (List Nat)} {w:World} {a0:Act} (hB:abm ops n a0.tmps.size s D=true) (hD:∀ k,(S.at' k).1=D.getD k []) (hI:∀ W W',I W→Below W W W'→I W') (hst:alf S s B I)
  {hd tl:List Oper} (htl:∀ j,tl[j]? = ops[n+j]?) (htn:tl.length=ops.size - n) (hhd:∀ j,j < n→hd[j]? = ops[j]?)
  (hob:ag4 P ops Q S (fun vs=>a00 ops vs (List.range n) a0) s B I w hd 0)
  (ht:∀ vs W,CY B I w W→(∀ k,k < n→(S.at' k).2 (vs k) W)→wpList P ops Q tl (a00 ops vs (List.range n) a0) W) :
  ∀ (f:Nat) (listed:Array Bool) (a:Act) (W:World) (us:Nat→Value),(a1l n listed).length=f→HeadInv .any ops n listed→CY B I w W →
   (∀ vs,(∀ k,k < n→listed.getD k false=true→vs k=us k)→a00 ops vs (a1l n listed) a=a00 ops vs (List.range n) a0) →
   (∀ k,k < n→listed.getD k false=true→(S.at' k).2 (us k) W)→wpAny P .any ops Q (f+(ops.size - n)) listed a W:=by
 simp only [abm,zN,zM,yQ,yK,zZ] at hB
 obtain ⟨⟨⟨⟨hsel,hns⟩,hsc⟩,hseq⟩,hk⟩:=hB
 intro f
 induction f with
 | zero =>
  intro listed a W us hf inv hW hag hfa
  have hnil:a1l n listed = []:=yH.1 hf
  have hall:∀ k,k < n→listed.getD k false=true:=fun k hkn=>by
   cases h:listed.getD k false with
   | true=>rfl
   | false=>exact absurd (a1i.2 ⟨hkn,h⟩) (by rw [hnil];exact xE)
  have hl:listed=((List.range ops.size).map fun i=>decide (i < n)).toArray:=by
   apply wQ;intro j;rw [(List.getElem?_toArray:((List.range ops.size).map fun i=>decide (i < n)).toArray[j]? = _),xC];by_cases hj:j < ops.size
   ·rw [List.getElem?_range hj,zT (by rw [inv.size];exact hj)]
    by_cases hjn:j < n
    ·have:=hall j hjn
     rw [yB,zT (by rw [inv.size];exact hj)] at this;simpa [hjn] using this
    have:=inv.tail j (by omega) hj;rw [yB,zT (by rw [inv.size];exact hj)] at this;simpa [hjn] using this
   rw [Array.getElem?_eq_none (by rw [inv.size];omega),List.getElem?_eq_none (by simp;omega)];rfl
  rw [← hl] at hseq
  have h1:=hag us fun _ _ _=>rfl
  rw [hnil] at h1
  have h2:=ht us W hW fun k hkn=>hfa k hkn (hall k hkn)
  rw [← h1] at h2
  rw [yI,← htn]
  rw [← htn] at hseq
  exact wpAny_of_seq tl n listed a W htl hseq h2
 | succ f ih =>
  intro listed a W us hf inv hW hag hfa
  have hne : ∃ k,k∈a1l n listed:=List.exists_mem_of_ne_nil _ (by intro h;rw [h] at hf;cases hf)
  obtain ⟨k0,hk0⟩:=hne
  have ams:∀ i∈Region.ready .any ops listed,i < n:=fun i hi=>by
   rcases zU i n with h | h
   ·exact h
   ·exfalso
    obtain ⟨_,o,ho,_⟩:=vN.1 hi;have hlt:i < ops.size:=(zL.1 ho).1
    rcases hsc with hsc | ⟨hs,hc⟩
    ·omega
    ·obtain ⟨q1,q2⟩:=a1i.1 hk0
     exact tail_waits hs hc (by omega) inv _ k0 rfl q1 (getD_in (by rw [inv.size];omega) q2) i h hi
  rw [show f+1+(ops.size - n)=(f+(ops.size - n))+1 by omega]
  refine ⟨fun h0=>?_,fun i hi=>?_⟩
  ·exfalso
   have key:∀ k,k≤n→∀ j,j < k→listed.getD j false=true:=by
    intro k
    induction k with
    | zero=>intro _ j hj;omega
    | succ k ihk =>
     intro hkn j hj;have hb:=ihk (by omega)
     rcases zU j k with h | h
     ·exact hb j h
     (have hjk:j=k:=by omega);subst hjk
     cases hjf:listed.getD j false with
     | true=>rfl
     | false =>
      have h1:=(hk j (by omega)).1
      cases ho:ops[j]? with
      | none=>rw [ho] at h1;exact absurd h1 (by simp)
      | some o =>
       rw [ho] at h1;simp only [zN,wS,yQ,vF,zM] at h1;have h1:=And.intro True.intro h1.2
       have:j∈Region.ready .any ops listed:=vN.2 ⟨getD_in (by rw [inv.size];omega) hjf,o,ho,fun e he hbd=>by
        rcases h1.2 e he with h2 | h2
        ·rw [h2] at hbd;cases hbd
        ·exact hb e.on h2⟩
       rw [h0] at this;cases this
   have:=(a1i.1 hk0)
   rw [key n (zD _) k0 this.1] at this;exact absurd this.2 (by simp)
  have hin:=ams i hi
  obtain ⟨hun,o,ho,hall⟩:=vN.1 hi
  have his:i < listed.size:=by rw [inv.size];omega
  have hir:i∈a1l n listed:=a1i.2 ⟨hin,vX hun⟩
  obtain ⟨hk1,hk2,hk3⟩:=hk i hin
  rw [ho] at hk1
  simp only [zN] at hk1
  have hdd:∀ d,o.dst=some d→d < a0.tmps.size:=fun d hd=>by
   have:=hk1.1;rw [hd] at this;simpa using this
  have hs:∀ cs b,o.op≠.select cs b:=fun cs b=>Region.noSelect_spec hsel i o cs b ho
  have hdi:a03 ops i=o.dst:=by unfold a03;rw [ho];rfl
  have hlook:∀ j∈a1l n listed,∀ d,a03 ops j=some d→d ∉ o.looksAt ops:=fun j hj d hjd=>by
   obtain ⟨q1,q2⟩:=a1i.1 hj
   rcases (hk3 j q1).1 with h | h
   ·obtain ⟨o',ho',e,he,hb,hon⟩:=Region.waitsFor_spec h
    have:o' = o:=xO (ho'.symm.trans ho);subst this;have:=hall e he hb;rw [hon,q2] at this;cases this
   ·unfold a4h at h
    rw [ho,hjd] at h;simpa using h
  have hfr:=hag us fun _ _ _=>rfl
  have hex:execOp (a00 ops us (List.range n) a0).eval o=execOp a.eval o:=by rw [← hfr];exact a3c hs us _ _ hlook
  have hwe:Region.wanted o (yielded ops (a00 ops us (List.range n) a0).tmps)=Region.wanted o (yielded ops a.tmps):=by rw [← hfr];exact a1u us _ _ hlook
  have hsz:(a00 ops us (List.range n) a0).tmps.size=a.tmps.size:=by rw [← hfr];exact a14 us _ _
  have hkn:knows S us W (S.at' i).1:=a8b _ fun d hd=>by
   rw [hD] at hd;obtain ⟨q1,q2⟩:=hk2 d hd;obtain ⟨o',ho',e,he,hb,hon⟩:=Region.waitsFor_spec q2;have:o' = o:=xO (ho'.symm.trans ho);subst this;exact hfa d q1 (by rw [← hon];exact hall e he hb)
  have hop:=adu hd 0 hob i o ((hhd i hin).trans ho) us W hW (by rw [yI];exact hkn)
  rw [yI] at hop
  unfold wpList at hop
  unfold wpOp
  rw [ho]
  have hgo:∀ v W',a9b Q s B I i (a00 ops us (List.range n) a0).defers o.dst (S.at' i).2 W .normal ((a00 ops us (List.range n) a0).put o.dst v) W' →
    wpAny P .any ops Q (f+(ops.size - n)) (listed.setIfInBounds i true) (a.put o.dst v) W':=fun v W' hq=>by
   rcases hq with ⟨_,_,hbW,hΦ⟩ | ⟨he,_⟩
   ·have hΦ:(S.at' i).2 v W':=by
     split at hΦ
     ·rename_i d0 hd0
      have hev:((a00 ops us (List.range n) a0).put o.dst v).eval (.tmp d0)=v:=by
       have h1:=a14 (ops:=ops) us (List.range n) a0;rw [hd0];simp only [Act.eval,Act.put];rw [yB,xM,zQ (by rw [h1];exact hdd d0 hd0)];rfl
      rwa [hev] at hΦ
     ·exact hΦ v
    obtain ⟨v',hv'⟩ : ∃ v',v' = v:=⟨v,rfl⟩
    rw [← hv'] at hΦ ⊢;refine ih _ _ W' (fun j=>if j=i then v' else us j) (by rw [a5f his,vP hir,hf];rfl) (inv.set hi hin) (CY.eff hI hW hbW) (fun vs hvs=>?_) (fun k hkn' hkl=>?_)
    ·have hvi:vs i=v':=(hvs i hin (a1t his)).trans (zQ rfl)
     rw [a5f his,← hvi,← hdi,← a2x vs (a1l n listed) a hir fun j hj hji d hd1 hd2=>?_]
     ·refine hag vs fun k hkn' hkl=>?_
      have hki:k≠i:=fun e=>by rw [e,vX hun] at hkl;cases hkl
      exact (hvs k hkn' (getD_set_true hkl)).trans (zS hki)
     ·rcases (hk3 j (a1i.1 hj).1).2 with (h | h) | h
      ·exact hji (by simpa using h)
      ·rw [hd1] at h;cases h
      ·rw [hd1,hd2] at h;simp at h
    ·by_cases hki:k=i
     ·subst hki
      rw [zQ rfl];exact hΦ
     ·rw [zS hki]
      rw [getD_set_ne false (fun e=>hki e.symm)] at hkl;exact hst k i _ _ _ hki (hfa k hkn' hkl) hbW
   ·cases he
  by_cases hwt:Region.wanted o (yielded ops a.tmps)=true
  case neg => rw [hwe,zS hwt] at hop;simp only [hwt,if_false];exact hgo undef W hop
  rw [hwe,zQ hwt] at hop
  simp only [hwt,if_true]
  rcases hop with hop | ⟨hask,b,W',hlets⟩
  ·refine .inl ?_
   unfold Oper.wp at hop ⊢;rw [hex] at hop;generalize (execOp a.eval o).run P W=r at *
   cases r with
   | ok nx W' =>
    cases nx<;>simp only [Oper.upon] at hop ⊢
    case value v=>exact hgo v W' hop
    case skip=>exact hgo undef W' hop
    case defer d =>
     exfalso
     rcases hop with ⟨_,he,_⟩ | ⟨he,_⟩
     ·have h2:∀ (b:Act) dst v,(b.put dst v).defers=b.defers:=fun b dst v=>by cases dst<;>rfl
      rw [h2] at he;exact absurd (congrArg List.length he) (by simp)
     ·cases he
    case enter g args =>
     refine Calls.mono hop fun e W2 he=>?_
     cases e with
     | returned v=>exact hgo v W2 he
     | panicked c=>rcases he with ⟨he,_⟩ | ⟨he,_⟩<;>cases he
     | outgrown =>
      obtain ⟨b,W3,hl⟩:=he
      rcases hl with ⟨hl,_⟩ | ⟨_,hl⟩
      ·cases hl
      ·exact ⟨_,_,hl⟩
    case row row args=>exact Rows.mono hop fun v W2 he=>hgo v W2 he
   | halt x W' =>
    cases x<;>simp only [Oper.upon] at hop ⊢
    case panic v=>rcases hop with ⟨he,_⟩ | ⟨he,_⟩<;>cases he
  refine .inr ⟨?_,?_⟩
  ·unfold Oper.asks at hask ⊢
   rw [hex] at hask;exact hask
  rcases hlets with ⟨he,_⟩ | ⟨_,hl⟩
  ·cases he
  exact ⟨_,_,hl⟩
theorem a4q {id:Nat} {Q:Exit→Act→World→Prop} {a:Act} {w:World} {l:List Oper} {ln m:Nat} (n s B:Nat) (I:World→Prop) (hI:∀ W W',I W→Below W W W'→I W') (hI0:I w) (S:Spec) (hm:P.follows .mixedOrders=true) (hd:a6g l.toArray=true) (hB:abm l.toArray n a.tmps.size s (S.map (·.1))=true) (hM:acu l.toArray n (S.map (·.1))=true) (hQ:∀ a w,¬ Q .outgrown a w) (hst:alf S s B I)
  (hob:aj9 P l.toArray Q S a n s B I w (l.take n) 0)
  (ht:∀ vs W,CY B I w W→(∀ k,k < n→(S.at' k).2 (vs k) W)→wpList P l.toArray Q (l.drop n) (a1d vs (l.take n) 0 a) W):(Code.region id l.toArray true).wpIn (Fence.wide.inRound ln) m P Q a w:=by
 have hn:n≤l.length:=by
  have h:=hB
  simp only [abm,zN,zM] at h
  simpa using h.1.1.1.2
 have hlen:(l.take n).length=n:=by simp;omega
 have hF:∀ vs,a00 l.toArray vs (List.range n) a=a1d vs (l.take n) 0 a:=fun vs=>by
  have:=a2r (ops:=l.toArray) vs (l.take n) 0 a fun j hj=>by
   (have hj':j < n:=by rw [hlen] at hj;exact hj);simp [hj']
  rw [hlen] at this
  rw [vM]
  exact this
 have hD:∀ k,(S.at' k).1=(S.map (·.1)).getD k []:=fun k=>by
  unfold Spec.at'
  rw [zB,zB,xC]
  cases S[k]?<;>rfl
 have hgr:=abj (P:=P) (Q:=Q) (S:=S) (w:=w) hB hM hD (l.take n) 0 (fun j hj=>by
  have hj':j < n:=by rw [hlen] at hj;exact hj
  simp [hj']) (by omega) hob
 refine wpIn_region_any hm (a4j hd hQ _ _ _ _ ?_)
 have hs:=aeg (I:=I) (P:=P) (Q:=Q) (S:=S) (w:=w) (a0:=a) (hd:=l.take n) (tl:=l.drop n) hB hD hI hst (fun j=>by simp [uN]) (by simp) (fun j hj=>by simp [hj])
   hgr (by simpa only [hF] using ht) n (Array.replicate l.toArray.size false) a { w with drawn:=w.drawn+1 } (fun _=>undef)
   (by unfold a1l;rw [wC.2 (fun k _=>by rw [yC];rfl)];simp)
   ⟨by simp,fun j oj _ hl=>(by rw [yC] at hl;cases hl),fun t _ ht=>getD_in (by simpa using ht) (yC _ _)⟩
   ⟨a1x.of bR.drew _,hI _ _ hI0 bR.drew⟩ (fun vs _=>by unfold a1l;rw [wC.2 (fun k _=>by rw [yC];rfl)])
   (fun k _ h=>by rw [yC] at h;cases h)
 rwa [show n+(l.toArray.size - n)=l.toArray.size by simp;omega] at hs
end
end Go.Proofs.YtppjleebbjipbaaGreat
