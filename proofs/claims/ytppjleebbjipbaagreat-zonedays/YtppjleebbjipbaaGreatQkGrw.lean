/-
  A region that draws its order: each operation of its head says what it yields (a value and what holds of it in every later world), given what the operations say that it waits for; then every order yields the same. The tail waits for the head and goes in order.
-/
import Derived.Test.YtppjleebbjipbaaGreatQkRow
import Derived.StillTail
import Derived.KernelRfl
set_option linter.all false
namespace Go.Proofs.YtppjleebbjipbaaGreat
theorem yy0 {α} {l:List α} {i:Nat}:l.toArray[i]?=l[i]?:=List.getElem?_toArray
theorem yy1 {α} {a:α} {l:List α} {i:Nat}:(a::l)[i+1]?=l[i]?:=List.getElem?_cons_succ
theorem yy2 {α} {a:α} {l:List α}:(a::l)[0]?=some a:=List.getElem?_cons_zero
theorem yy3 {α β} (a:α) (f:α → Option β):(some a).bind f=f a:=Option.bind_some a f
open Go Go.RowKit
section
variable {P:Program} {ops:Array Oper}
abbrev Say:=Value→World→Prop
abbrev Spec:=List (List Nat×Say)
def Spec.at' (S:Spec) (k:Nat):List Nat×Say:=S.getD k ([],fun _ _=>True)
def a03 (ops:Array Oper) (k:Nat):Option Tmp:=(ops[k]?).bind (·.dst)
def a00 (ops:Array Oper) (vs:Nat→Value):List Nat→Act→Act
 | [],a=>a
 | k :: r,a=>a00 ops vs r (a.put (a03 ops k) (vs k))
def a1d (vs:Nat→Value):List Oper→Nat→Act→Act
 | [],_,a=>a
 | o :: r,k,a=>a1d vs r (k+1) (a.put o.dst (vs k))
def stays (S:Spec):Prop:=∀ k v W W',(S.at' k).2 v W→Below W W W'→(S.at' k).2 v W'
def knows (S:Spec) (vs:Nat→Value) (W:World):List Nat→Prop
 | []=>True
 | d :: r=>(S.at' d).2 (vs d) W∧knows S vs W r
def a8f (Q:Exit→Act→World→Prop) (ds:List Deferred) (dst:Option Tmp) (Φ:Say) (W:World) (e:Exit) (a':Act) (W':World):Prop :=
 (e=.normal∧a'.defers=ds∧Below W W W'∧Φ (a'.eval (.tmp (dst.getD 0))) W')∨(e=.outgrown∧Q .outgrown a' W')
theorem a01 {Q:Exit→Act→World→Prop} {ds:List Deferred} {d:Tmp} {Φ:Say} {W W':World} {a':Act} (v:Value) (hd:a'.defers=ds) (he:a'.eval (.tmp d)=v) (hb:Below W W W') (h:Φ v W'):a8f Q ds (some d) Φ W .normal a' W' :=
 .inl ⟨rfl,hd,hb,by rw [← he] at h;exact h⟩
def grows (P:Program) (ops:Array Oper) (Q:Exit→Act→World→Prop) (S:Spec) (F:(Nat→Value)→Act) (w:World):List Oper→Nat→Prop
 | [],_=>True
 | o :: r,k=>(∀ vs W,Below w w W→knows S vs W (S.at' k).1→wpList P ops (a8f Q (F vs).defers o.dst (S.at' k).2 W) [o] (F vs) W)∧grows P ops Q S F w r (k+1)
def a4h (ops:Array Oper) (k j:Nat):Bool :=
 match ops[k]?,a03 ops j with
 | some o,some d=>(o.looksAt ops).contains d
 | _,_=>false
def a9c (ops:Array Oper) (n sz:Nat) (D:List (List Nat)):Bool :=
 Region.noSelect ops&&decide (n≤ops.size)&&(decide (n=ops.size)||(Region.sinkB .any ops n&&Region.chainB .any ops n)) &&
 Region.seqB .any ops (ops.size - n) n ((List.range ops.size).map fun i=>decide (i < n)).toArray &&
 (List.range n).all fun k=>(match ops[k]? with | some o=>(match o.dst with | some d=>decide (d < sz) | none=>false)&&(o.after.all fun e => !Region.binds .any e||decide (e.on < k)) | none=>false) &&
  (((D.getD k []).all fun d=>decide (d < n)&&Region.waitsFor .any ops k d) &&
  (List.range n).all fun j=>(Region.waitsFor .any ops k j || !a4h ops k j)&&(j == k || !(a03 ops k).isSome||a03 ops k != a03 ops j))
theorem a3c {o:Oper} (hs:∀ cs b,o.op≠.select cs b) (vs:Nat→Value):∀ (l:List Nat) (a:Act),(∀ j∈l,∀ d,a03 ops j=some d→d ∉ o.looksAt ops)→execOp (a00 ops vs l a).eval o=execOp a.eval o
 | [],_,_=>rfl
 | j :: l,a,h=>(a3c hs vs l _ fun i hi=>h i (yY _ hi)).trans (execOp_put o hs a _ _ (h j yV))
theorem a1u {o:Oper} (vs:Nat→Value):∀ (l:List Nat) (a:Act),(∀ j∈l,∀ d,a03 ops j=some d→d ∉ o.looksAt ops)→Region.wanted o (yielded ops (a00 ops vs l a).tmps)=Region.wanted o (yielded ops a.tmps)
 | [],_,_=>rfl
 | j :: l,a,h=>(a1u vs l _ fun i hi=>h i (yY _ hi)).trans (wanted_put o a _ _ (h j yV))
theorem a14 (vs:Nat→Value):∀ (l:List Nat) (a:Act),(a00 ops vs l a).tmps.size=a.tmps.size
 | [],_=>rfl
 | j :: l,a=>(a14 vs l _).trans (by cases hd:a03 ops j<;>simp [Act.put,hd])
theorem a2x (vs:Nat→Value) {k:Nat}:∀ (l:List Nat) (a:Act),k∈l→(∀ j∈l,j≠k→∀ d,a03 ops k=some d→a03 ops j≠some d) →
  a00 ops vs l a=a00 ops vs (l.erase k) (a.put (a03 ops k) (vs k))
 | [],_,h,_=>absurd h xE
 | j :: l,a,h,hd=>by
  by_cases hjk:j=k
  ·subst hjk;rw [List.erase_cons_head];rfl
  ·rw [List.erase_cons_tail (by simpa using hjk)]
   have hk:k∈l:=(yN.1 h).resolve_left (fun e=>hjk e.symm)
   show a00 ops vs l (a.put _ _)=a00 ops vs (l.erase k) ((a.put _ _).put _ _)
   rw [a2x vs l _ hk fun i hi=>hd i (yY _ hi),Act.put_comm a (vs k) (vs j) (fun d h1=>hd j yV hjk d h1)]
theorem a2r (vs:Nat→Value):∀ (l:List Oper) (k:Nat) (a:Act),(∀ j,j < l.length→l[j]? = ops[k+j]?)→a00 ops vs (List.range' k l.length) a=a1d vs l k a
 | [],_,_,_=>rfl
 | o :: l,k,a,h=>by
  have h0:ops[k]? = some o:=by simpa using (h 0 (by simp)).symm
  rw [yS,List.range'_succ]
  show a00 ops vs (List.range' (k+1) l.length) _=a1d vs l (k+1) _
  rw [show a03 ops k=o.dst by unfold a03;rw [h0];rfl]
  exact a2r vs l (k+1) _ fun j hj=>by have:=h (j+1) (by simp;omega);simpa [Nat.add_assoc,Nat.add_comm 1 j] using this
theorem a9m {Q:Exit→Act→World→Prop} {S:Spec} {F:(Nat→Value)→Act} {w:World}:∀ (l:List Oper) (k:Nat),grows P ops Q S F w l k→∀ j o,l[j]? = some o →
  ∀ vs W,Below w w W→knows S vs W (S.at' (k+j)).1→wpList P ops (a8f Q (F vs).defers o.dst (S.at' (k+j)).2 W) [o] (F vs) W
 | [],_,_,j,o,h=>by simp at h
 | x :: l,k,hg,0,o,h=>by
  have:x=o:=by simpa using h
  subst this
  exact hg.1
 | x :: l,k,hg,j+1,o,h=>by
  have:=a9m l (k+1) hg.2 j o (by simpa using h)
  rwa [show k+1+j=k+(j+1) by omega] at this
theorem a8b {S:Spec} {vs:Nat→Value} {W:World}:∀ (l:List Nat),(∀ d∈l,(S.at' d).2 (vs d) W)→knows S vs W l
 | [],_=>trivial
 | d :: l,h=>⟨h d yV,a8b l fun x hx=>h x (yY _ hx)⟩
theorem a1t {listed:Array Bool} {k:Nat} (h:k < listed.size):(listed.setIfInBounds k true).getD k false=true:=by simp [h]
def a1l (n:Nat) (listed:Array Bool):List Nat:=(List.range n).filter fun k => !listed.getD k false
theorem a1i {n k:Nat} {listed:Array Bool}:k∈a1l n listed↔k < n∧listed.getD k false=false:=by
 simp [a1l]
theorem a5f {n k:Nat} {listed:Array Bool} (hk:k < listed.size):a1l n (listed.setIfInBounds k true)=(a1l n listed).erase k:=by
 have hn:(a1l n listed).Nodup:=List.Nodup.sublist List.filter_sublist xW
 rw [hn.erase_eq_filter]
 unfold a1l
 rw [List.filter_filter]
 apply List.filter_congr
 intro j _
 by_cases hj:j=k
 ·subst hj;simp [hk]
 rw [getD_set_ne false (fun e=>hj e.symm)];simp [hj]
theorem a8n {Q:Exit→Act→World→Prop} {S:Spec} {n:Nat} {D:List (List Nat)} {w:World} {a0:Act} (hB:a9c ops n a0.tmps.size D=true) (hD:∀ k,(S.at' k).1=D.getD k []) (hst:stays S)
  {hd tl:List Oper} (htl:∀ j,tl[j]? = ops[n+j]?) (htn:tl.length=ops.size - n) (hhd:∀ j,j < n→hd[j]? = ops[j]?)
  (hob:grows P ops Q S (fun vs=>a00 ops vs (List.range n) a0) w hd 0)
  (ht:∀ vs W,Below w w W→(∀ k,k < n→(S.at' k).2 (vs k) W)→wpList P ops Q tl (a00 ops vs (List.range n) a0) W) :
  ∀ (f:Nat) (listed:Array Bool) (a:Act) (W:World) (us:Nat→Value),(a1l n listed).length=f→HeadInv .any ops n listed→Below w w W →
   (∀ vs,(∀ k,k < n→listed.getD k false=true→vs k=us k)→a00 ops vs (a1l n listed) a=a00 ops vs (List.range n) a0) →
   (∀ k,k < n→listed.getD k false=true→(S.at' k).2 (us k) W)→wpAny P .any ops Q (f+(ops.size - n)) listed a W:=by
 simp only [a9c,zN,zM,yQ,yK,zZ] at hB
 obtain ⟨⟨⟨⟨hsel,hns⟩,hsc⟩,hseq⟩,hk⟩:=hB
 intro f
 induction f with
 | zero =>
  intro listed a W us hf inv hW hag hfa
  have hnil:a1l n listed = []:=yH.1 hf
  have hall:∀ k,k < n→listed.getD k false=true:=fun k hkn=>by
   cases h:listed.getD k false with
   | true=>rfl
   | false=>exact absurd (a1i.2 ⟨hkn,h⟩) (by rw [hnil];exact xE)
  have hl:listed=((List.range ops.size).map fun i=>decide (i < n)).toArray:=by
   apply wQ;intro j;rw [(List.getElem?_toArray:((List.range ops.size).map fun i=>decide (i < n)).toArray[j]? = _),xC];by_cases hj:j < ops.size
   ·rw [List.getElem?_range hj,zT (by rw [inv.size];exact hj)]
    by_cases hjn:j < n
    ·have:=hall j hjn
     rw [yB,zT (by rw [inv.size];exact hj)] at this;simpa [hjn] using this
    have:=inv.tail j (by omega) hj;rw [yB,zT (by rw [inv.size];exact hj)] at this;simpa [hjn] using this
   rw [Array.getElem?_eq_none (by rw [inv.size];omega),List.getElem?_eq_none (by simp;omega)];rfl
  rw [← hl] at hseq
  have h1:=hag us fun _ _ _=>rfl
  rw [hnil] at h1
  have h2:=ht us W hW fun k hkn=>hfa k hkn (hall k hkn)
  rw [← h1] at h2
  rw [yI,← htn]
  rw [← htn] at hseq
  exact wpAny_of_seq tl n listed a W htl hseq h2
 | succ f ih =>
  intro listed a W us hf inv hW hag hfa
  have hne : ∃ k,k∈a1l n listed:=List.exists_mem_of_ne_nil _ (by intro h;rw [h] at hf;cases hf)
  obtain ⟨k0,hk0⟩:=hne
  have ams:∀ i∈Region.ready .any ops listed,i < n:=fun i hi=>by
   rcases zU i n with h | h
   ·exact h
   ·exfalso
    obtain ⟨_,o,ho,_⟩:=vN.1 hi;have hlt:i < ops.size:=(zL.1 ho).1
    rcases hsc with hsc | ⟨hs,hc⟩
    ·omega
    ·obtain ⟨q1,q2⟩:=a1i.1 hk0
     exact tail_waits hs hc (by omega) inv _ k0 rfl q1 (getD_in (by rw [inv.size];omega) q2) i h hi
  rw [show f+1+(ops.size - n)=(f+(ops.size - n))+1 by omega]
  refine ⟨fun h0=>?_,fun i hi=>?_⟩
  ·exfalso
   have key:∀ k,k≤n→∀ j,j < k→listed.getD j false=true:=by
    intro k
    induction k with
    | zero=>intro _ j hj;omega
    | succ k ihk =>
     intro hkn j hj;have hb:=ihk (by omega)
     rcases zU j k with h | h
     ·exact hb j h
     (have hjk:j=k:=by omega);subst hjk
     cases hjf:listed.getD j false with
     | true=>rfl
     | false =>
      have h1:=(hk j (by omega)).1
      cases ho:ops[j]? with
      | none=>rw [ho] at h1;exact absurd h1 (by simp)
      | some o =>
       rw [ho] at h1;simp only [zN,wS,yQ,vF,zM] at h1;have h1:=And.intro True.intro h1.2
       have:j∈Region.ready .any ops listed:=vN.2 ⟨getD_in (by rw [inv.size];omega) hjf,o,ho,fun e he hbd=>by
        rcases h1.2 e he with h2 | h2
        ·rw [h2] at hbd;cases hbd
        ·exact hb e.on h2⟩
       rw [h0] at this;cases this
   have:=(a1i.1 hk0)
   rw [key n (zD _) k0 this.1] at this;exact absurd this.2 (by simp)
  have hin:=ams i hi
  obtain ⟨hun,o,ho,hall⟩:=vN.1 hi
  have his:i < listed.size:=by rw [inv.size];omega
  have hir:i∈a1l n listed:=a1i.2 ⟨hin,vX hun⟩
  obtain ⟨hk1,hk2,hk3⟩:=hk i hin
  rw [ho] at hk1
  simp only [zN] at hk1
  have hdd : ∃ d,o.dst=some d∧d < a0.tmps.size:=by
   have:=hk1.1
   cases hd:o.dst with
   | none=>rw [hd] at this;cases this
   | some d=>rw [hd] at this;exact ⟨d,rfl,by simpa using this⟩
  obtain ⟨d0,hd0,hd1⟩:=hdd
  have hs:∀ cs b,o.op≠.select cs b:=fun cs b=>Region.noSelect_spec hsel i o cs b ho
  have hdi:a03 ops i=o.dst:=by unfold a03;rw [ho];rfl
  have hlook:∀ j∈a1l n listed,∀ d,a03 ops j=some d→d ∉ o.looksAt ops:=fun j hj d hjd=>by
   obtain ⟨q1,q2⟩:=a1i.1 hj
   rcases (hk3 j q1).1 with h | h
   ·obtain ⟨o',ho',e,he,hb,hon⟩:=Region.waitsFor_spec h
    have:o' = o:=xO (ho'.symm.trans ho);subst this;have:=hall e he hb;rw [hon,q2] at this;cases this
   ·unfold a4h at h
    rw [ho,hjd] at h;simpa using h
  have hfr:=hag us fun _ _ _=>rfl
  have hex:execOp (a00 ops us (List.range n) a0).eval o=execOp a.eval o:=by rw [← hfr];exact a3c hs us _ _ hlook
  have hwe:Region.wanted o (yielded ops (a00 ops us (List.range n) a0).tmps)=Region.wanted o (yielded ops a.tmps):=by rw [← hfr];exact a1u us _ _ hlook
  have hsz:(a00 ops us (List.range n) a0).tmps.size=a.tmps.size:=by rw [← hfr];exact a14 us _ _
  have hkn:knows S us W (S.at' i).1:=a8b _ fun d hd=>by
   rw [hD] at hd;obtain ⟨q1,q2⟩:=hk2 d hd;obtain ⟨o',ho',e,he,hb,hon⟩:=Region.waitsFor_spec q2;have:o' = o:=xO (ho'.symm.trans ho);subst this;exact hfa d q1 (by rw [← hon];exact hall e he hb)
  have hop:=a9m hd 0 hob i o ((hhd i hin).trans ho) us W hW (by rw [yI];exact hkn)
  rw [yI] at hop
  unfold wpList at hop
  unfold wpOp
  rw [ho]
  have hgo:∀ v W',a8f Q (a00 ops us (List.range n) a0).defers o.dst (S.at' i).2 W .normal ((a00 ops us (List.range n) a0).put o.dst v) W' →
    wpAny P .any ops Q (f+(ops.size - n)) (listed.setIfInBounds i true) (a.put o.dst v) W':=fun v W' hq=>by
   rcases hq with ⟨_,_,hbW,hΦ⟩ | ⟨he,_⟩
   ·have hev:((a00 ops us (List.range n) a0).put o.dst v).eval (.tmp (o.dst.getD 0))=v:=by
     have h1:=a14 (ops:=ops) us (List.range n) a0;rw [hd0];simp only [Act.eval,Act.put,vU];rw [yB,xM,zQ (by rw [h1];exact hd1)];rfl
    rw [hev] at hΦ
    obtain ⟨v',hv'⟩ : ∃ v',v' = v:=⟨v,rfl⟩
    rw [← hv'] at hΦ ⊢;refine ih _ _ W' (fun j=>if j=i then v' else us j) (by rw [a5f his,vP hir,hf];rfl) (inv.set hi hin) (hW.trans (hbW.mono hW.size)) (fun vs hvs=>?_) (fun k hkn' hkl=>?_)
    ·have hvi:vs i=v':=(hvs i hin (a1t his)).trans (zQ rfl)
     rw [a5f his,← hvi,← hdi,← a2x vs (a1l n listed) a hir fun j hj hji d hd1 hd2=>?_]
     ·refine hag vs fun k hkn' hkl=>?_
      have hki:k≠i:=fun e=>by rw [e,vX hun] at hkl;cases hkl
      exact (hvs k hkn' (getD_set_true hkl)).trans (zS hki)
     ·rcases (hk3 j (a1i.1 hj).1).2 with (h | h) | h
      ·exact hji (by simpa using h)
      ·rw [hd1] at h;cases h
      ·rw [hd1,hd2] at h;simp at h
    ·by_cases hki:k=i
     ·subst hki
      rw [zQ rfl];exact hΦ
     ·rw [zS hki]
      rw [getD_set_ne false (fun e=>hki e.symm)] at hkl;exact hst k _ _ _ (hfa k hkn' hkl) hbW
   ·cases he
  by_cases hwt:Region.wanted o (yielded ops a.tmps)=true
  case neg => rw [hwe,zS hwt] at hop;simp only [hwt,if_false];exact hgo undef W hop
  rw [hwe,zQ hwt] at hop
  simp only [hwt,if_true]
  rcases hop with hop | ⟨hask,b,W',hlets⟩
  ·refine .inl ?_
   unfold Oper.wp at hop ⊢;rw [hex] at hop;generalize (execOp a.eval o).run P W=r at *
   cases r with
   | ok nx W' =>
    cases nx<;>simp only [Oper.upon] at hop ⊢
    case value v=>exact hgo v W' hop
    case skip=>exact hgo undef W' hop
    case defer d =>
     exfalso
     rcases hop with ⟨_,he,_⟩ | ⟨he,_⟩
     ·have h2:∀ (b:Act) dst v,(b.put dst v).defers=b.defers:=fun b dst v=>by cases dst<;>rfl
      rw [h2] at he;exact absurd (congrArg List.length he) (by simp)
     ·cases he
    case enter g args =>
     refine Calls.mono hop fun e W2 he=>?_
     cases e with
     | returned v=>exact hgo v W2 he
     | panicked c=>rcases he with ⟨he,_⟩ | ⟨he,_⟩<;>cases he
     | outgrown =>
      obtain ⟨b,W3,hl⟩:=he
      rcases hl with ⟨hl,_⟩ | ⟨_,hl⟩
      ·cases hl
      ·exact ⟨_,_,hl⟩
    case row row args=>exact Rows.mono hop fun v W2 he=>hgo v W2 he
   | halt x W' =>
    cases x<;>simp only [Oper.upon] at hop ⊢
    case panic v=>rcases hop with ⟨he,_⟩ | ⟨he,_⟩<;>cases he
  refine .inr ⟨?_,?_⟩
  ·unfold Oper.asks at hask ⊢
   rw [hex] at hask;exact hask
  rcases hlets with ⟨he,_⟩ | ⟨_,hl⟩
  ·cases he
  exact ⟨_,_,hl⟩
theorem aaw {id:Nat} {Q:Exit→Act→World→Prop} {a:Act} {w:World} {l:List Oper} (n:Nat) (S:Spec) (hm:P.follows .mixedOrders=true) (hB:a9c l.toArray n a.tmps.size (S.map (·.1))=true) (hst:stays S)
  (hob:grows P l.toArray Q S (fun vs=>a1d vs (l.take n) 0 a) w (l.take n) 0)
  (ht:∀ vs W,Below w w W→(∀ k,k < n→(S.at' k).2 (vs k) W)→wpList P l.toArray Q (l.drop n) (a1d vs (l.take n) 0 a) W):(Code.region id l.toArray true).wp P Q a w:=by
 have hn:n≤l.length:=by
  have h:=hB
  simp only [a9c,zN,zM] at h
  simpa using h.1.1.1.2
 have hlen:(l.take n).length=n:=by simp;omega
 have hF:∀ vs,a00 l.toArray vs (List.range n) a=a1d vs (l.take n) 0 a:=fun vs=>by
  have:=a2r (ops:=l.toArray) vs (l.take n) 0 a fun j hj=>by
   (have hj':j < n:=by rw [hlen] at hj;exact hj);simp [hj']
  rw [hlen] at this
  rw [vM]
  exact this
 refine wp_region_any hm ?_
 have hs:=a8n (P:=P) (Q:=Q) (S:=S) (w:=w) (a0:=a) (hd:=l.take n) (tl:=l.drop n) hB (fun k=>by
   unfold Spec.at';rw [zB,zB,xC]
   cases S[k]?<;>rfl) hst (fun j=>by simp [uN]) (by simp) (fun j hj=>by simp [hj])
   (by simpa only [hF] using hob) (by simpa only [hF] using ht) n (Array.replicate l.toArray.size false) a { w with drawn:=w.drawn+1 } (fun _=>undef)
   (by unfold a1l;rw [wC.2 (fun k _=>by rw [yC];rfl)];simp)
   ⟨by simp,fun j oj _ hl=>(by rw [yC] at hl;cases hl),fun t _ ht=>getD_in (by simpa using ht) (yC _ _)⟩
   bR.drew (fun vs _=>by unfold a1l;rw [wC.2 (fun k _=>by rw [yC];rfl)])
   (fun k _ h=>by rw [yC] at h;cases h)
 rwa [show n+(l.toArray.size - n)=l.toArray.size by simp;omega] at hs
end
end Go.Proofs.YtppjleebbjipbaaGreat
