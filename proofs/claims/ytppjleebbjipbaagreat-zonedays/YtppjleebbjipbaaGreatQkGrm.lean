/-
  wp_region_grow where each operation of the head sees the slots of what it waits for, and no others: for regions in great frames.
-/
import Derived.Test.YtppjleebbjipbaaGreatQkGrw
import Derived.Test.YtppjleebbjipbaaGreatQkRng
import Derived.OrdersIn
import Derived.TacticsIn
set_option linter.all false
namespace Go.Proofs.YtppjleebbjipbaaGreat
open Go Go.RowKit
section
variable {P:Program} {ops:Array Oper}
def ado:List Nat→List Nat→List Nat
 | l,[]=>l
 | l,k :: ds=>ado (l.erase k) ds
theorem a7z:∀ (ds l:List Nat) {j:Nat},l.Nodup→j∈ado l ds→j∈l∧j ∉ ds
 | [],l,j,_,h=>⟨h,xE⟩
 | k :: ds,l,j,hn,h=>by
  obtain ⟨h1,h2⟩:=a7z ds (l.erase k) (hn.erase k) h
  obtain ⟨h3,h4⟩:=hn.mem_erase_iff.1 h1
  exact ⟨h4,fun q=>(yN.1 q).elim h3 h2⟩
theorem a5n {vs:Nat→Value}:∀ (ds l:List Nat) (a:Act),ds.Nodup→(∀ d∈ds,d∈l)→(∀ i∈l,∀ j∈l,j≠i→∀ d,a03 ops i=some d→a03 ops j≠some d)→l.Nodup→a00 ops vs l a=a00 ops vs (ado l ds) (a00 ops vs ds a)
 | [],l,a,_,_,_,_=>rfl
 | k :: ds,l,a,hn,hm,hd,hl=>by
  have hk:=hm k yV
  rw [a2x vs l a hk fun j hj hji d h1=>hd k hk j hj hji d h1]
  show _=a00 ops vs (ado (l.erase k) ds) _
  exact a5n ds (l.erase k) _ (List.nodup_cons.1 hn).2 (fun d hd'=>(List.mem_erase_of_ne (fun e=>(List.nodup_cons.1 hn).1 (by subst e;exact hd'))).2 (hm d (yY _ hd'))) (fun i hi j hj=>hd i (vZ hi) j (vZ hj)) (hl.erase k)
def acu (ops:Array Oper) (n:Nat) (D:List (List Nat)):Bool :=
 (List.range n).all fun k=>decide (D.getD k []).Nodup&&(List.range n).all fun j=>(D.getD k []).contains j || !a4h ops k j
theorem a1k (vs:Nat→Value):∀ (l:List Nat) (a:Act),(a00 ops vs l a).defers=a.defers
 | [],_=>rfl
 | j :: l,a=>(a1k vs l _).trans (by cases hd:a03 ops j<;>simp [Act.put,hd])
theorem a8l {A B:Act} {o:Oper} {d0:Tmp} {Q:Exit→Act→World→Prop} {ds:List Deferred} {Φ:Say} {W:World} (hex:execOp A.eval o=execOp B.eval o) (hwe:Region.wanted o (yielded ops A.tmps)=Region.wanted o (yielded ops B.tmps)) (hda:A.defers=ds) (hdb:B.defers=ds) (hd0:o.dst=some d0) (hA:d0 < A.tmps.size) (hB:d0 < B.tmps.size)
  (hop:wpList P ops (a8f Q ds o.dst Φ W) [o] A W):wpList P ops (a8f Q ds o.dst Φ W) [o] B W:=by
 have hev:∀ (C:Act) (v:Value),d0 < C.tmps.size→(C.put o.dst v).eval (.tmp (o.dst.getD 0))=v:=fun C v hC=>by
  rw [hd0]
  simp only [Act.eval,Act.put,vU]
  rw [yB,xM,zQ hC]
  rfl
 have hpd:∀ (C:Act) dst v,(C.put dst v).defers=C.defers:=fun C dst v=>by cases dst<;>rfl
 have hgo:∀ v W',a8f Q ds o.dst Φ W .normal (A.put o.dst v) W'→a8f Q ds o.dst Φ W .normal (B.put o.dst v) W':=fun v W' hq=>by
  rcases hq with ⟨_,_,hbW,hΦ⟩ | ⟨he,_⟩
  ·rw [hev A v hA] at hΦ
   exact .inl ⟨rfl,by rw [hpd,hdb],hbW,by rw [hev B v hB];exact hΦ⟩
  ·cases he
 unfold wpList at hop ⊢
 by_cases hwt:Region.wanted o (yielded ops B.tmps)=true
 case neg => rw [hwe,zS hwt] at hop;simp only [hwt,if_false];exact hgo undef W hop
 rw [hwe,zQ hwt] at hop
 simp only [hwt,if_true]
 rcases hop with hop | ⟨hask,hlets⟩
 ·refine .inl ?_
  unfold Oper.wp at hop ⊢
  rw [hex] at hop
  generalize (execOp B.eval o).run P W=r at *
  cases r with
  | ok nx W' =>
   cases nx<;>simp only [Oper.upon] at hop ⊢
   case value v=>exact hgo v W' hop
   case skip=>exact hgo undef W' hop
   case defer d =>
    exfalso
    rcases hop with ⟨_,he,_⟩ | ⟨he,_⟩
    ·rw [hpd,hda] at he
     exact absurd (congrArg List.length he) (by simp)
    ·cases he
   case enter g args =>
    refine Calls.mono hop fun e W2 he=>?_
    cases e with
    | returned v=>exact hgo v W2 he
    | panicked c=>rcases he with ⟨he,_⟩ | ⟨he,_⟩<;>cases he
    | outgrown=>exact he
   case row row args=>exact Rows.mono hop fun v W2 he=>hgo v W2 he
  | halt x W' =>
   cases x<;>simp only [Oper.upon] at hop ⊢
   case panic v=>rcases hop with ⟨he,_⟩ | ⟨he,_⟩<;>cases he
 refine .inr ⟨?_,hlets⟩
 unfold Oper.asks at hask ⊢
 rw [hex] at hask
 exact hask
def a8e (P:Program) (ops:Array Oper) (Q:Exit→Act→World→Prop) (S:Spec) (a0:Act) (w:World):List Oper→Nat→Prop
 | [],_=>True
 | o :: r,k=>(∀ vs W,Below w w W→knows S vs W (S.at' k).1→wpList P ops (a8f Q a0.defers o.dst (S.at' k).2 W) [o] (a00 ops vs (S.at' k).1 a0) W)∧a8e P ops Q S a0 w r (k+1)
theorem a8d {Q:Exit→Act→World→Prop} {S:Spec} {n:Nat} {D:List (List Nat)} {w:World} {a0:Act} (hB:a9c ops n a0.tmps.size D=true) (hM:acu ops n D=true) (hD:∀ k,(S.at' k).1=D.getD k []) :
  ∀ (l:List Oper) (k:Nat),(∀ j,j < l.length→l[j]? = ops[k+j]?)→k+l.length≤n→a8e P ops Q S a0 w l k→grows P ops Q S (fun vs=>a00 ops vs (List.range n) a0) w l k
 | [],_,_,_,_=>trivial
 | o :: r,k,hl,hkn,hg=>by
  have hB':=hB
  simp only [a9c,zN,zM,yQ,yK,zZ] at hB'
  obtain ⟨⟨⟨⟨hsel,hns⟩,hsc⟩,hseq⟩,hk⟩:=hB'
  simp only [acu,yK,zZ,zN,zM,yQ] at hM
  have hin:k < n:=by rw [yS] at hkn;omega
  have ho:ops[k]? = some o:=by have:=hl 0 (by simp);simpa using this.symm
  refine ⟨fun vs W hW hkn'=>?_,a8d hB (by simp only [acu,yK,zZ,zN,zM,yQ];exact hM) hD r (k+1) (fun j hj=>by have:=hl (j+1) (by simp;omega);simpa [Nat.add_assoc,Nat.add_comm 1 j] using this) (by rw [yS] at hkn;omega) hg.2⟩
  obtain ⟨hk1,hk2,hk3⟩:=hk k hin
  obtain ⟨hm1,hm2⟩:=hM k hin
  rw [ho] at hk1
  simp only [zN] at hk1
  obtain ⟨d0,hd0,hd1⟩ : ∃ d,o.dst=some d∧d < a0.tmps.size:=by
   have:=hk1.1
   cases hd:o.dst with
   | none=>rw [hd] at this;cases this
   | some d=>rw [hd] at this;exact ⟨d,rfl,by simpa using this⟩
  have hs:∀ cs b,o.op≠.select cs b:=fun cs b=>Region.noSelect_spec hsel k o cs b ho
  have hdst:∀ i∈List.range n,∀ j∈List.range n,j≠i→∀ d,a03 ops i=some d→a03 ops j≠some d:=fun i hi j hj hji d h1 h2=>by
   obtain ⟨_,_,q3⟩:=hk i (zZ.1 hi)
   rcases (q3 j (zZ.1 hj)).2 with (h | h) | h
   ·exact hji (by simpa using h)
   ·rw [h1] at h;cases h
   ·rw [h1,h2] at h;simp at h
  have hsp:=a5n (ops:=ops) (vs:=vs) (D.getD k []) (List.range n) a0 hm1 (fun d hd=>zZ.2 (hk2 d hd).1) hdst xW
  have hno:∀ j∈ado (List.range n) (D.getD k []),∀ d,a03 ops j=some d→d ∉ o.looksAt ops:=fun j hj d hjd=>by
   obtain ⟨q1,q2⟩:=a7z _ _ xW hj
   rcases hm2 j (zZ.1 q1) with h | h
   ·exact absurd (by simpa using h) q2
   ·unfold a4h at h
    rw [ho,hjd] at h
    simpa using h
  have hg1:=hg.1 vs W hW hkn'
  rw [hD k] at hg1
  have hde:(a00 ops vs (List.range n) a0).defers=a0.defers:=a1k vs _ _
  show wpList P ops (a8f Q (a00 ops vs (List.range n) a0).defers o.dst (S.at' k).2 W) [o] (a00 ops vs (List.range n) a0) W
  rw [hde]
  refine a8l (A:=a00 ops vs (D.getD k []) a0) ?_ ?_ (a1k vs _ _) hde hd0 (by rw [a14];exact hd1) (by rw [a14];exact hd1) hg1
  ·rw [hsp];exact (a3c hs vs _ _ hno).symm
  ·rw [hsp];exact (a1u vs _ _ hno).symm
theorem a0k {id:Nat} {Q:Exit→Act→World→Prop} {a:Act} {w:World} {l:List Oper} (n:Nat) (S:Spec) (hm:P.follows .mixedOrders=true) (hB:a9c l.toArray n a.tmps.size (S.map (·.1))=true) (hM:acu l.toArray n (S.map (·.1))=true) (hst:stays S)
  (hob:a8e P l.toArray Q S a w (l.take n) 0)
  (ht:∀ vs W,Below w w W→(∀ k,k < n→(S.at' k).2 (vs k) W)→wpList P l.toArray Q (l.drop n) (a1d vs (l.take n) 0 a) W):(Code.region id l.toArray true).wp P Q a w:=by
 have hn:n≤l.length:=by
  have h:=hB
  simp only [a9c,zN,zM] at h
  simpa using h.1.1.1.2
 have hlen:(l.take n).length=n:=by simp;omega
 have hF:∀ vs,a00 l.toArray vs (List.range n) a=a1d vs (l.take n) 0 a:=fun vs=>by
  have:=a2r (ops:=l.toArray) vs (l.take n) 0 a fun j hj=>by
   (have hj':j < n:=by rw [hlen] at hj;exact hj);simp [hj']
  rw [hlen] at this
  rw [vM]
  exact this
 have hD:∀ k,(S.at' k).1=(S.map (·.1)).getD k []:=fun k=>by
  unfold Spec.at'
  rw [zB,zB,xC]
  cases S[k]?<;>rfl
 refine aaw n S hm hB hst ?_ ht
 have:=a8d (P:=P) (Q:=Q) (S:=S) (w:=w) hB hM hD (l.take n) 0 (fun j hj=>by
  have hj':j < n:=by rw [hlen] at hj;exact hj
  simp [hj']) (by omega) hob
 simpa only [hF] using this
end
end Go.Proofs.YtppjleebbjipbaaGreat
namespace Go.Proofs.YtppjleebbjipbaaGreat
open Go Go.RowKit
section
variable {P:Program} {ops:Array Oper}
def a6g (ops:Array Oper):Bool:=ops.all fun o=>match o.op with | .defer _=>false | _=>true
theorem acw {Q:Exit→Act→World→Prop} {l n:Nat} (hd:a6g ops=true) (hQ:∀ a w,¬ Q .outgrown a w) {i:Nat} {K:Act→World→Prop} {a:Act} {w:World}
  (h:wpOp P ops Q i K a w):wpOpIn (Fence.wide.inRound l) n P ops Q i K a w:=by
 unfold wpOp at h
 unfold wpOpIn
 cases ho:ops[i]? with
 | none=>rw [ho] at h;exact h
 | some o =>
  rw [ho] at h
  dsimp only at h ⊢
  by_cases hw:Region.wanted o (yielded ops a.tmps)=true;rotate_left
  ·rw [zS hw] at h ⊢
   exact ⟨fun f _=>trivial,h⟩
  rw [zQ hw] at h ⊢
  rcases h with h | ⟨_,b,W',hb⟩
  ·have hno:∀ c,o.op≠.defer c:=fun c hc=>by
    obtain ⟨hlt,he⟩:=zL.1 ho;have:=(Array.all_eq_true.1 hd) i hlt;rw [he,hc] at this;cases this
   refine ⟨fun f _=>trivial,?_⟩;unfold Oper.wp at h;show o.uponIn _ _ _ _ _ _ ((o.semAt (some l) a.eval).run P w);rw [wU l a.eval o hno];generalize (execOp a.eval o).run P w=r at *
   cases r with
   | ok nx W' =>
    cases nx<;>simp only [Oper.upon,Oper.uponIn] at h ⊢
    case value v=>exact h
    case skip=>exact h
    case defer d=>exact h
    case enter f args=>exact ⟨fun hh=>(by cases hh),(wW.2 h).inRound l⟩
    case row row args =>
     refine ⟨fun hh=>(by cases hh),fun c cs _=>?_⟩;obtain ⟨v,w',h1,h2⟩:=h c cs;exact ⟨v,w',h1,stepsIn_wide.2 h2⟩
   | halt x W'=>cases x<;>simp only [Oper.upon,Oper.uponIn] at h ⊢;exact h
  exact absurd hb (hQ _ _)
theorem a4j {Q:Exit→Act→World→Prop} {l n:Nat} (hd:a6g ops=true) (hQ:∀ a w,¬ Q .outgrown a w):∀ (f:Nat) (listed:Array Bool) (a:Act) (w:World),
  wpAny P .any ops Q f listed a w→wpAnyIn (Fence.wide.inRound l) n P .any ops Q f listed a w
 | 0,_,_,_,h=>h
 | f+1,listed,a,w,h=>⟨h.1,fun i hi=>wpOpIn_mono (fun a w=>a4j hd hQ f _ a w) (acw hd hQ (h.2 i hi))⟩
theorem a9u {id:Nat} {Q:Exit→Act→World→Prop} {a:Act} {w:World} {l:List Oper} {ln m:Nat} (n:Nat) (S:Spec) (hm:P.follows .mixedOrders=true) (hd:a6g l.toArray=true) (hB:a9c l.toArray n a.tmps.size (S.map (·.1))=true) (hM:acu l.toArray n (S.map (·.1))=true) (hQ:∀ a w,¬ Q .outgrown a w) (hst:stays S)
  (hob:a8e P l.toArray Q S a w (l.take n) 0)
  (ht:∀ vs W,Below w w W→(∀ k,k < n→(S.at' k).2 (vs k) W)→wpList P l.toArray Q (l.drop n) (a1d vs (l.take n) 0 a) W):(Code.region id l.toArray true).wpIn (Fence.wide.inRound ln) m P Q a w:=by
 have hn:n≤l.length:=by
  have h:=hB
  simp only [a9c,zN,zM] at h
  simpa using h.1.1.1.2
 have hlen:(l.take n).length=n:=by simp;omega
 have hF:∀ vs,a00 l.toArray vs (List.range n) a=a1d vs (l.take n) 0 a:=fun vs=>by
  have:=a2r (ops:=l.toArray) vs (l.take n) 0 a fun j hj=>by
   (have hj':j < n:=by rw [hlen] at hj;exact hj);simp [hj']
  rw [hlen] at this
  rw [vM]
  exact this
 have hD:∀ k,(S.at' k).1=(S.map (·.1)).getD k []:=fun k=>by
  unfold Spec.at'
  rw [zB,zB,xC]
  cases S[k]?<;>rfl
 have hgr:=a8d (P:=P) (Q:=Q) (S:=S) (w:=w) hB hM hD (l.take n) 0 (fun j hj=>by
  have hj':j < n:=by rw [hlen] at hj;exact hj
  simp [hj']) (by omega) hob
 refine wpIn_region_any hm (a4j hd hQ _ _ _ _ ?_)
 have hs:=a8n (P:=P) (Q:=Q) (S:=S) (w:=w) (a0:=a) (hd:=l.take n) (tl:=l.drop n) hB hD hst (fun j=>by simp [uN]) (by simp) (fun j hj=>by simp [hj])
   hgr (by simpa only [hF] using ht) n (Array.replicate l.toArray.size false) a { w with drawn:=w.drawn+1 } (fun _=>undef)
   (by unfold a1l;rw [wC.2 (fun k _=>by rw [yC];rfl)];simp)
   ⟨by simp,fun j oj _ hl=>(by rw [yC] at hl;cases hl),fun t _ ht=>getD_in (by simpa using ht) (yC _ _)⟩
   bR.drew (fun vs _=>by unfold a1l;rw [wC.2 (fun k _=>by rw [yC];rfl)])
   (fun k _ h=>by rw [yC] at h;cases h)
 rwa [show n+(l.toArray.size - n)=l.toArray.size by simp;omega] at hs
end
end Go.Proofs.YtppjleebbjipbaaGreat
