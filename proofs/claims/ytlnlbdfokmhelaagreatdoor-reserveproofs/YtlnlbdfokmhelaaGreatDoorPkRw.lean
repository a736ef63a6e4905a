/-
  A region that draws its order: each operation of its head says what it yields (a value and what holds of it in every later world), given what the operations say that it waits for; then every order yields the same. The tail waits for the head and goes in order.
-/
import Derived.Test.YtlnlbdfokmhelaaGreatDoorPkRefB
import Derived.Test.YtlnlbdfokmhelaaGreatDoorPkRow
import Derived.Deep.MidRow
import Derived.Test.YtlnlbdfokmhelaaGreatDoorPkRv
import Derived.Test.YtlnlbdfokmhelaaGreatDoorPkRm
set_option linter.unusedSectionVars false
set_option linter.constructorNameAsVariable false
set_option linter.unusedVariables false
set_option linter.unusedSimpArgs false
namespace Go.Proofs.YtlnlbdfokmhelaaGreatDoor
open Go Go.RowKit
section
variable {P:Program} {ops:Array Oper}
abbrev Say:=Value→World→Prop
abbrev Spec:=List (List Nat×Say)
def Spec.at' (S:Spec) (k:Nat):List Nat×Say:=S.getD k ([],fun _ _=>True)
def aa9 (ops:Array Oper) (k:Nat):Option Tmp:=(ops[k]?).bind (·.dst)
def a3h (ops:Array Oper) (vs:Nat→Value):List Nat→Act→Act
 | [],a=>a
 | k :: r,a=>a3h ops vs r (a.put (aa9 ops k) (vs k))
def a9l (vs:Nat→Value):List Oper→Nat→Act→Act
 | [],_,a=>a
 | o :: r,k,a=>a9l vs r (k+1) (a.put o.dst (vs k))
def stays (S:Spec):Prop:=∀ k v W W',(S.at' k).2 v W→Below W.heap.size W W'→(S.at' k).2 v W'
def knows (S:Spec) (vs:Nat→Value) (W:World):List Nat→Prop
 | []=>True
 | d :: r=>(S.at' d).2 (vs d) W∧knows S vs W r
def aH2 (Q:Exit→Act→World→Prop) (ds:List Deferred) (dst:Option Tmp) (Φ:Say) (W:World) (e:Exit) (a':Act) (W':World):Prop :=
 (e=.normal∧a'.defers=ds∧Below W.heap.size W W'∧Φ (a'.eval (.tmp (dst.getD 0))) W')∨(e=.outgrown∧Q .outgrown a' W')
theorem a5s {Q:Exit→Act→World→Prop} {ds:List Deferred} {d:Tmp} {Φ:Say} {W W':World} {a':Act} (v:Value) (hd:a'.defers=ds) (he:a'.eval (.tmp d)=v) (hb:Below W.heap.size W W') (h:Φ v W'):aH2 Q ds (some d) Φ W .normal a' W' :=
 .inl ⟨rfl,hd,hb,by rw [← he] at h;exact h⟩
def grows (P:Program) (ops:Array Oper) (Q:Exit→Act→World→Prop) (S:Spec) (F:(Nat→Value)→Act) (w:World):List Oper→Nat→Prop
 | [],_=>True
 | o :: r,k=>(∀ vs W,Below w.heap.size w W→knows S vs W (S.at' k).1→wpList P ops (aH2 Q (F vs).defers o.dst (S.at' k).2 W) [o] (F vs) W)∧grows P ops Q S F w r (k+1)
def aM6 (ops:Array Oper) (k j:Nat):Bool :=
 match ops[k]?,aa9 ops j with
 | some o,some d=>(o.looksAt ops).contains d
 | _,_=>false
def aH3 (ops:Array Oper) (n sz:Nat) (D:List (List Nat)):Bool :=
 Region.noSelect ops&&decide (n≤ops.size)&&(decide (n=ops.size)||(Region.sinkB .any ops n&&Region.chainB .any ops n)) &&
 Region.seqB .any ops (ops.size - n) n ((List.range ops.size).map fun i=>decide (i < n)).toArray &&
 (List.range n).all fun k=>(match ops[k]? with | some o=>(match o.dst with | some d=>decide (d < sz) | none=>false)&&(o.after.all fun e => !Region.binds .any e||decide (e.on < k)) | none=>false) &&
  (((D.getD k []).all fun d=>decide (d < n)&&Region.waitsFor .any ops k d) &&
  (List.range n).all fun j=>(Region.waitsFor .any ops k j || !aM6 ops k j)&&(j == k || !(aa9 ops k).isSome||aa9 ops k != aa9 ops j))
theorem ams {o:Oper} (hs:∀ cs b,o.op≠.select cs b) (vs:Nat→Value):∀ (l:List Nat) (a:Act),(∀ j∈l,∀ d,aa9 ops j=some d→d ∉ o.looksAt ops)→execOp (a3h ops vs l a).eval o=execOp a.eval o
 | [],_,_=>rfl
 | j :: l,a,h=>(ams hs vs l _ fun i hi=>h i (List.mem_cons_of_mem _ hi)).trans (execOp_put o hs a _ _ (h j List.mem_cons_self))
theorem ag3 {o:Oper} (vs:Nat→Value):∀ (l:List Nat) (a:Act),(∀ j∈l,∀ d,aa9 ops j=some d→d ∉ o.looksAt ops)→Region.wanted o (yielded ops (a3h ops vs l a).tmps)=Region.wanted o (yielded ops a.tmps)
 | [],_,_=>rfl
 | j :: l,a,h=>(ag3 vs l _ fun i hi=>h i (List.mem_cons_of_mem _ hi)).trans (wanted_put o a _ _ (h j List.mem_cons_self))
theorem aay (vs:Nat→Value):∀ (l:List Nat) (a:Act),(a3h ops vs l a).tmps.size=a.tmps.size
 | [],_=>rfl
 | j :: l,a=>(aay vs l _).trans (by cases hd:aa9 ops j<;>simp [Act.put,hd])
theorem ai6 (vs:Nat→Value) {k:Nat}:∀ (l:List Nat) (a:Act),k∈l→(∀ j∈l,j≠k→∀ d,aa9 ops k=some d→aa9 ops j≠some d) →
  a3h ops vs l a=a3h ops vs (l.erase k) (a.put (aa9 ops k) (vs k))
 | [],_,h,_=>absurd h List.not_mem_nil
 | j :: l,a,h,hd=>by
  by_cases hjk:j=k
  ·subst hjk;rw [List.erase_cons_head];rfl
  ·rw [List.erase_cons_tail (by simpa using hjk)]
   have hk:k∈l:=(List.mem_cons.1 h).resolve_left (fun e=>hjk e.symm)
   show a3h ops vs l (a.put _ _)=a3h ops vs (l.erase k) ((a.put _ _).put _ _)
   rw [ai6 vs l _ hk fun i hi=>hd i (List.mem_cons_of_mem _ hi),Act.put_comm a (vs k) (vs j) (fun d h1=>hd j List.mem_cons_self hjk d h1)]
theorem acw {vs us:Nat→Value}:∀ (l:List Nat) (a:Act),(∀ j∈l,vs j=us j)→a3h ops vs l a=a3h ops us l a
 | [],_,_=>rfl
 | j :: l,a,h=>by
  show a3h ops vs l _=a3h ops us l _
  rw [h j List.mem_cons_self,acw l _ fun i hi=>h i (List.mem_cons_of_mem _ hi)]
theorem afr (vs:Nat→Value):∀ (l:List Oper) (k:Nat) (a:Act),(∀ j,j < l.length→l[j]? = ops[k+j]?)→a3h ops vs (List.range' k l.length) a=a9l vs l k a
 | [],_,_,_=>rfl
 | o :: l,k,a,h=>by
  have h0:ops[k]? = some o:=by simpa using (h 0 (by simp)).symm
  rw [List.length_cons,List.range'_succ]
  show a3h ops vs (List.range' (k+1) l.length) _=a9l vs l (k+1) _
  rw [show aa9 ops k=o.dst by unfold aa9;rw [h0];rfl]
  exact afr vs l (k+1) _ fun j hj=>by have:=h (j+1) (by simp;omega);simpa [Nat.add_assoc,Nat.add_comm 1 j] using this
theorem aro {Q:Exit→Act→World→Prop} {S:Spec} {F:(Nat→Value)→Act} {w:World}:∀ (l:List Oper) (k:Nat),grows P ops Q S F w l k→∀ j o,l[j]? = some o →
  ∀ vs W,Below w.heap.size w W→knows S vs W (S.at' (k+j)).1→wpList P ops (aH2 Q (F vs).defers o.dst (S.at' (k+j)).2 W) [o] (F vs) W
 | [],_,_,j,o,h=>by simp at h
 | x :: l,k,hg,0,o,h=>by
  have:x=o:=by simpa using h
  subst this
  exact hg.1
 | x :: l,k,hg,j+1,o,h=>by
  have:=aro l (k+1) hg.2 j o (by simpa using h)
  rwa [show k+1+j=k+(j+1) by omega] at this
theorem arf {S:Spec} {vs:Nat→Value} {W:World}:∀ (l:List Nat),(∀ d∈l,(S.at' d).2 (vs d) W)→knows S vs W l
 | [],_=>trivial
 | d :: l,h=>⟨h d List.mem_cons_self,arf l fun x hx=>h x (List.mem_cons_of_mem _ hx)⟩
theorem agw {listed:Array Bool} {k:Nat} (h:k < listed.size):(listed.setIfInBounds k true).getD k false=true:=by simp [h]
def aat (n:Nat) (listed:Array Bool):List Nat:=(List.range n).filter fun k => !listed.getD k false
theorem acn {n k:Nat} {listed:Array Bool}:k∈aat n listed↔k < n∧listed.getD k false=false:=by
 simp [aat]
theorem axg {n k:Nat} {listed:Array Bool} (hk:k < listed.size):aat n (listed.setIfInBounds k true)=(aat n listed).erase k:=by
 have hn:(aat n listed).Nodup:=List.Nodup.sublist List.filter_sublist List.nodup_range
 rw [hn.erase_eq_filter]
 unfold aat
 rw [List.filter_filter]
 apply List.filter_congr
 intro j _
 by_cases hj:j=k
 ·subst hj;simp [hk]
 ·rw [getD_set_ne false (fun e=>hj e.symm)];simp [hj]
theorem aso {Q:Exit→Act→World→Prop} {S:Spec} {n:Nat} {D:List (List Nat)} {w:World} {a0:Act} (hB:aH3 ops n a0.tmps.size D=true) (hD:∀ k,(S.at' k).1=D.getD k []) (hst:stays S)
  {hd tl:List Oper} (htl:∀ j,tl[j]? = ops[n+j]?) (htn:tl.length=ops.size - n) (hhd:∀ j,j < n→hd[j]? = ops[j]?)
  (hob:grows P ops Q S (fun vs=>a3h ops vs (List.range n) a0) w hd 0)
  (ht:∀ vs W,Below w.heap.size w W→(∀ k,k < n→(S.at' k).2 (vs k) W)→wpList P ops Q tl (a3h ops vs (List.range n) a0) W) :
  ∀ (f:Nat) (listed:Array Bool) (a:Act) (W:World) (us:Nat→Value),(aat n listed).length=f→HeadInv .any ops n listed→Below w.heap.size w W →
   (∀ vs,(∀ k,k < n→listed.getD k false=true→vs k=us k)→a3h ops vs (aat n listed) a=a3h ops vs (List.range n) a0) →
   (∀ k,k < n→listed.getD k false=true→(S.at' k).2 (us k) W)→wpAny P .any ops Q (f+(ops.size - n)) listed a W:=by
 simp only [aH3,Bool.and_eq_true,decide_eq_true_eq,Bool.or_eq_true,List.all_eq_true,List.mem_range] at hB
 obtain ⟨⟨⟨⟨hsel,hns⟩,hsc⟩,hseq⟩,hk⟩:=hB
 intro f
 induction f with
 | zero =>
  intro listed a W us hf inv hW hag hfa
  have hnil:aat n listed = []:=List.length_eq_zero_iff.1 hf
  have hall:∀ k,k < n→listed.getD k false=true:=fun k hkn=>by
   cases h:listed.getD k false with
   | true=>rfl
   | false=>exact absurd (acn.2 ⟨hkn,h⟩) (by rw [hnil];exact List.not_mem_nil)
  have hl:listed=((List.range ops.size).map fun i=>decide (i < n)).toArray:=by
   apply Array.ext_getElem?
   intro j
   rw [(List.getElem?_toArray:((List.range ops.size).map fun i=>decide (i < n)).toArray[j]? = _),List.getElem?_map]
   by_cases hj:j < ops.size
   ·rw [List.getElem?_range hj,Array.getElem?_eq_getElem (by rw [inv.size];exact hj)]
    by_cases hjn:j < n
    ·have:=hall j hjn
     rw [Array.getD_eq_getD_getElem?,Array.getElem?_eq_getElem (by rw [inv.size];exact hj)] at this
     simpa [hjn] using this
    ·have:=inv.tail j (by omega) hj
     rw [Array.getD_eq_getD_getElem?,Array.getElem?_eq_getElem (by rw [inv.size];exact hj)] at this
     simpa [hjn] using this
   ·rw [Array.getElem?_eq_none (by rw [inv.size];omega),List.getElem?_eq_none (by simp;omega)];rfl
  rw [← hl] at hseq
  have h1:=hag us fun _ _ _=>rfl
  rw [hnil] at h1
  have h2:=ht us W hW fun k hkn=>hfa k hkn (hall k hkn)
  rw [← h1] at h2
  rw [Nat.zero_add,← htn]
  rw [← htn] at hseq
  exact wpAny_of_seq tl n listed a W htl hseq h2
 | succ f ih =>
  intro listed a W us hf inv hW hag hfa
  have hne : ∃ k,k∈aat n listed:=List.exists_mem_of_ne_nil _ (by intro h;rw [h] at hf;cases hf)
  obtain ⟨k0,hk0⟩:=hne
  have hrlt:∀ i∈Region.ready .any ops listed,i < n:=fun i hi=>by
   rcases Nat.lt_or_ge i n with h | h
   ·exact h
   ·exfalso
    obtain ⟨_,o,ho,_⟩:=mem_ready.1 hi
    have hlt:i < ops.size:=(Array.getElem?_eq_some_iff.1 ho).1
    rcases hsc with hsc | ⟨hs,hc⟩
    ·omega
    ·obtain ⟨q1,q2⟩:=acn.1 hk0
     exact tail_waits hs hc (by omega) inv _ k0 rfl q1 (getD_in (by rw [inv.size];omega) q2) i h hi
  rw [show f+1+(ops.size - n)=(f+(ops.size - n))+1 by omega]
  refine ⟨fun h0=>?_,fun i hi=>?_⟩
  ·exfalso
   have key:∀ k,k≤n→∀ j,j < k→listed.getD j false=true:=by
    intro k
    induction k with
    | zero=>intro _ j hj;omega
    | succ k ihk =>
     intro hkn j hj
     have hb:=ihk (by omega)
     rcases Nat.lt_or_ge j k with h | h
     ·exact hb j h
     ·have hjk:j=k:=by omega
      subst hjk
      cases hjf:listed.getD j false with
      | true=>rfl
      | false =>
       have h1:=(hk j (by omega)).1
       cases ho:ops[j]? with
       | none=>rw [ho] at h1;exact absurd h1 (by simp)
       | some o =>
        rw [ho] at h1
        simp only [Bool.and_eq_true,Array.all_eq_true_iff_forall_mem,Bool.or_eq_true,Bool.not_eq_true',decide_eq_true_eq] at h1
        have h1:=And.intro True.intro h1.2
        have:j∈Region.ready .any ops listed:=mem_ready.2 ⟨getD_in (by rw [inv.size];omega) hjf,o,ho,fun e he hbd=>by
         rcases h1.2 e he with h2 | h2
         ·rw [h2] at hbd;cases hbd
         ·exact hb e.on h2⟩
        rw [h0] at this
        cases this
   have:=(acn.1 hk0)
   rw [key n (Nat.le_refl _) k0 this.1] at this
   exact absurd this.2 (by simp)
  ·have hin:=hrlt i hi
   obtain ⟨hun,o,ho,hall⟩:=mem_ready.1 hi
   have his:i < listed.size:=by rw [inv.size];omega
   have hir:i∈aat n listed:=acn.2 ⟨hin,getD_both hun⟩
   obtain ⟨hk1,hk2,hk3⟩:=hk i hin
   rw [ho] at hk1
   simp only [Bool.and_eq_true] at hk1
   have hdd : ∃ d,o.dst=some d∧d < a0.tmps.size:=by
    have:=hk1.1
    cases hd:o.dst with
    | none=>rw [hd] at this;cases this
    | some d=>rw [hd] at this;exact ⟨d,rfl,by simpa using this⟩
   obtain ⟨d0,hd0,hd1⟩:=hdd
   have hs:∀ cs b,o.op≠.select cs b:=fun cs b=>Region.noSelect_spec hsel i o cs b ho
   have hdi:aa9 ops i=o.dst:=by unfold aa9;rw [ho];rfl
   have hlook:∀ j∈aat n listed,∀ d,aa9 ops j=some d→d ∉ o.looksAt ops:=fun j hj d hjd=>by
    obtain ⟨q1,q2⟩:=acn.1 hj
    rcases (hk3 j q1).1 with h | h
    ·obtain ⟨o',ho',e,he,hb,hon⟩:=Region.waitsFor_spec h
     have:o' = o:=Option.some.inj (ho'.symm.trans ho)
     subst this
     have:=hall e he hb
     rw [hon,q2] at this
     cases this
    ·unfold aM6 at h
     rw [ho,hjd] at h
     simpa using h
   have hfr:=hag us fun _ _ _=>rfl
   have hex:execOp (a3h ops us (List.range n) a0).eval o=execOp a.eval o:=by rw [← hfr];exact ams hs us _ _ hlook
   have hwe:Region.wanted o (yielded ops (a3h ops us (List.range n) a0).tmps)=Region.wanted o (yielded ops a.tmps):=by rw [← hfr];exact ag3 us _ _ hlook
   have hsz:(a3h ops us (List.range n) a0).tmps.size=a.tmps.size:=by rw [← hfr];exact aay us _ _
   have hkn:knows S us W (S.at' i).1:=arf _ fun d hd=>by
    rw [hD] at hd
    obtain ⟨q1,q2⟩:=hk2 d hd
    obtain ⟨o',ho',e,he,hb,hon⟩:=Region.waitsFor_spec q2
    have:o' = o:=Option.some.inj (ho'.symm.trans ho)
    subst this
    exact hfa d q1 (by rw [← hon];exact hall e he hb)
   have hop:=aro hd 0 hob i o ((hhd i hin).trans ho) us W hW (by rw [Nat.zero_add];exact hkn)
   rw [Nat.zero_add] at hop
   unfold wpList at hop
   unfold wpOp
   rw [ho]
   have hgo:∀ v W',aH2 Q (a3h ops us (List.range n) a0).defers o.dst (S.at' i).2 W .normal ((a3h ops us (List.range n) a0).put o.dst v) W' →
     wpAny P .any ops Q (f+(ops.size - n)) (listed.setIfInBounds i true) (a.put o.dst v) W':=fun v W' hq=>by
    rcases hq with ⟨_,_,hbW,hΦ⟩ | ⟨he,_⟩
    ·have hev:((a3h ops us (List.range n) a0).put o.dst v).eval (.tmp (o.dst.getD 0))=v:=by
      have h1:=aay (ops:=ops) us (List.range n) a0
      rw [hd0]
      simp only [Act.eval,Act.put,Option.getD_some]
      rw [Array.getD_eq_getD_getElem?,Array.getElem?_setIfInBounds_self,if_pos (by rw [h1];exact hd1)]
      rfl
     rw [hev] at hΦ
     obtain ⟨v',hv'⟩ : ∃ v',v' = v:=⟨v,rfl⟩
     rw [← hv'] at hΦ ⊢
     refine ih _ _ W' (fun j=>if j=i then v' else us j) (by rw [axg his,List.length_erase_of_mem hir,hf];rfl) (inv.set hi hin) (hW.trans (hbW.mono hW.size)) (fun vs hvs=>?_) (fun k hkn' hkl=>?_)
     ·have hvi:vs i=v':=(hvs i hin (agw his)).trans (if_pos rfl)
      rw [axg his,← hvi,← hdi,← ai6 vs (aat n listed) a hir fun j hj hji d hd1 hd2=>?_]
      ·refine hag vs fun k hkn' hkl=>?_
       have hki:k≠i:=fun e=>by rw [e,getD_both hun] at hkl;cases hkl
       exact (hvs k hkn' (getD_set_true hkl)).trans (if_neg hki)
      ·rcases (hk3 j (acn.1 hj).1).2 with (h | h) | h
       ·exact hji (by simpa using h)
       ·rw [hd1] at h;cases h
       ·rw [hd1,hd2] at h;simp at h
     ·by_cases hki:k=i
      ·subst hki
       rw [if_pos rfl]
       exact hΦ
      ·rw [if_neg hki]
       rw [getD_set_ne false (fun e=>hki e.symm)] at hkl
       exact hst k _ _ _ (hfa k hkn' hkl) hbW
    ·cases he
   by_cases hwt:Region.wanted o (yielded ops a.tmps)=true
   case neg =>
    rw [hwe,if_neg hwt] at hop
    simp only [hwt,if_false]
    exact hgo undef W hop
   rw [hwe,if_pos hwt] at hop
   simp only [hwt,if_true]
   rcases hop with hop | ⟨hask,b,W',hlets⟩
   ·refine .inl ?_
    unfold Oper.wp at hop ⊢
    rw [hex] at hop
    generalize (execOp a.eval o).run P W=r at *
    cases r with
    | ok nx W' =>
     cases nx<;>simp only [Oper.upon] at hop ⊢
     case value v=>exact hgo v W' hop
     case skip=>exact hgo undef W' hop
     case defer d =>
      exfalso
      rcases hop with ⟨_,he,_⟩ | ⟨he,_⟩
      ·have h2:∀ (b:Act) dst v,(b.put dst v).defers=b.defers:=fun b dst v=>by cases dst<;>rfl
       rw [h2] at he
       exact absurd (congrArg List.length he) (by simp)
      ·cases he
     case enter g args =>
      refine Calls.mono hop fun e W2 he=>?_
      cases e with
      | returned v=>exact hgo v W2 he
      | panicked c=>rcases he with ⟨he,_⟩ | ⟨he,_⟩<;>cases he
      | outgrown =>
       obtain ⟨b,W3,hl⟩:=he
       rcases hl with ⟨hl,_⟩ | ⟨_,hl⟩
       ·cases hl
       ·exact ⟨_,_,hl⟩
     case row row args=>exact Rows.mono hop fun v W2 he=>hgo v W2 he
    | halt x W' =>
     cases x<;>simp only [Oper.upon] at hop ⊢
     case panic v=>rcases hop with ⟨he,_⟩ | ⟨he,_⟩<;>cases he
   ·refine .inr ⟨?_,?_⟩
    ·unfold Oper.asks at hask ⊢
     rw [hex] at hask
     exact hask
    ·rcases hlets with ⟨he,_⟩ | ⟨_,hl⟩
     ·cases he
     ·exact ⟨_,_,hl⟩
theorem agn {id:Nat} {Q:Exit→Act→World→Prop} {a:Act} {w:World} {l:List Oper} (n:Nat) (S:Spec) (hm:P.follows .mixedOrders=true) (hB:aH3 l.toArray n a.tmps.size (S.map (·.1))=true) (hst:stays S)
  (hob:grows P l.toArray Q S (fun vs=>a9l vs (l.take n) 0 a) w (l.take n) 0)
  (ht:∀ vs W,Below w.heap.size w W→(∀ k,k < n→(S.at' k).2 (vs k) W)→wpList P l.toArray Q (l.drop n) (a9l vs (l.take n) 0 a) W):(Code.region id l.toArray true).wp P Q a w:=by
 have hn:n≤l.length:=by
  have h:=hB
  simp only [aH3,Bool.and_eq_true,decide_eq_true_eq] at h
  simpa using h.1.1.1.2
 have hlen:(l.take n).length=n:=by simp;omega
 have hF:∀ vs,a3h l.toArray vs (List.range n) a=a9l vs (l.take n) 0 a:=fun vs=>by
  have:=afr (ops:=l.toArray) vs (l.take n) 0 a fun j hj=>by
   have hj':j < n:=by rw [hlen] at hj;exact hj
   simp [hj']
  rw [hlen] at this
  rw [List.range_eq_range']
  exact this
 refine wp_region_any hm ?_
 have hs:=aso (P:=P) (Q:=Q) (S:=S) (w:=w) (a0:=a) (hd:=l.take n) (tl:=l.drop n) hB (fun k=>by
   unfold Spec.at'
   rw [List.getD_eq_getElem?_getD,List.getD_eq_getElem?_getD,List.getElem?_map]
   cases S[k]?<;>rfl) hst (fun j=>by simp [List.getElem?_drop]) (by simp) (fun j hj=>by simp [hj])
   (by simpa only [hF] using hob) (by simpa only [hF] using ht) n (Array.replicate l.toArray.size false) a { w with drawn:=w.drawn+1 } (fun _=>undef)
   (by unfold aat;rw [List.filter_eq_self.2 (fun k _=>by rw [getD_replicate_false];rfl)];simp)
   ⟨by simp,fun j oj _ hl=>(by rw [getD_replicate_false] at hl;cases hl),fun t _ ht=>getD_in (by simpa using ht) (getD_replicate_false _ _)⟩
   (Below.refl _ _).drew (fun vs _=>by unfold aat;rw [List.filter_eq_self.2 (fun k _=>by rw [getD_replicate_false];rfl)])
   (fun k _ h=>by rw [getD_replicate_false] at h;cases h)
 rwa [show n+(l.toArray.size - n)=l.toArray.size by simp;omega] at hs
end
end Go.Proofs.YtlnlbdfokmhelaaGreatDoor
namespace Go.Proofs.YtlnlbdfokmhelaaGreatDoor
open Go.RowKit Go.CE.V Go.Rv
set_option maxRecDepth 20000
set_option maxHeartbeats 4000000
attribute [local irreducible] wpQuiet
theorem b2i (k f t z:Nat):((a1b k f t z).setIfInBounds 0 (.int .u8 2)).setIfInBounds 3 (.int .u8 0)=a1b 2 f t 0:=rfl
theorem a4w.keep {B:Nat} {W W':World} {v:Value} {xs:List LN} {b t:Nat} {c:Array Value} {fr:Nat×Nat} (h:a4w B W v xs) (hb:obj W b=some (.cells c t fr)) (h1:48≠t) (h2:3≠t) (hk:∀ x,x≠b→obj W' x=obj W x):a4w B W' v xs:=by
 obtain ⟨cv,q1,q2⟩:=h
 exact ⟨cv,aez q1 hb h1 hk,fun i hi=>a2m (q2 i hi) hb h2 hk⟩
theorem azo {own:List Nat} (h0:own≠[]) {gs:List LN} {c:LN} (h:GrL own own gs) : ∃ o,GrP own o ((gs ++ [c]).getD 0 a0c):=by
 have key:∀ (os:List Nat) (gs:List LN),os≠[]→GrL own os gs→∃ o,GrP own o ((gs ++ [c]).getD 0 a0c):=fun os gs hne h=>by
  cases os with
  | nil=>exact absurd rfl hne
  | cons o os =>
   cases gs with
   | nil=>exact h.elim
   | cons y gs=>exact ⟨o,h.1⟩
 exact key own gs h0 h
theorem auc {own:List Nat} (hl:own∈a2j) {me:Nat} (hme:me∈own) {W:World} {w lv:Value} {x y:LN} {o:Nat} (hw:a0h 0 W w own) (hx:a4w 0 W lv [x,y]) (hg:GrP own o x) (hY:YP own 2 0 y) (hT:Tab W) (h0w:0 < W.heap.size) :
  Calls Tryz.prog 30 #[.agg (ownRow me 4 0 90 2 w (.slice none 0 0)),lv] W fun e W' => ∃ a4m ps2,e=.returned (.agg a4m)∧a4m.size=7∧a4m.extract 0 7=a4m∧ones a4m=true∧ane W' a4m me 4 0 90 own 4 ps2∧ps2.length≤2∧ajx true own 4 0 (ps2.map (·.1))=(2,0)∧ps2.map (·.1)≠[]∧(∀ q,q∈ps2.map (·.1)→q.mtg=4∧q.cs=own)∧Below W.heap.size W W':=by
 have hok:∀ i,i < [x,y].length→ava ([x,y].getD i a0c):=fun i hi=>by
  have hi2:i < 2:=hi
  rcases (show i=0∨i=1 by omega) with rfl | rfl
  ·exact hg.any
  ·exact hY.any
 refine (amk hl hme (alh (me:=me) hw) (by simp) hx (by simp) hok hT h0w).mono fun e W' ⟨a4m,ph2,ps2,he,hP,hz,hF,hb⟩=>?_
 obtain ⟨h4,q1,q2,q3⟩:=aQg hF hg hY
 subst h4
 obtain ⟨r1,r2,r3,_⟩:=abp hP
 exact ⟨a4m,ps2,he,r1,r2,r3,hP,by simpa using hz,q1,q2,q3,hb⟩
theorem alb {n who k f t z:Nat} (hn:n < 256) (hw:who < 256) (hf:f < 256) (ht:t < 256) (hkk:k < 256) {W:World} (hT:ase W) :
  Calls Tryz.prog 10 #[.int .u8 n,.int .u8 who,.agg (a1b k f t z)] W fun e W'=>e=.returned (.bool true)∧Below W.heap.size W W':=by
 have h0w:=hT.pos
 have HTW:=Lib.hid (fun W' (hb:Below W.heap.size W W')=>And.intro (hT.below hb) (And.intro (hT.below hb).tab (hT.below hb).pos))
 have oR:=aql k f t z
 have zR:=aqk k f t z
 have aR:(a1b k f t z).extract 0 4=a1b k f t z:=extract_all _ _ rfl
 have ww:IntKind.wrap .i64 (who:Int)=(who:Int):=by rw [IntKind.wrap_i64];omega
 have b5:obj (W.alloc (.cells (a1b k f t z) 71 (0,0))) W.heap.size=some (.cells (a1b k f t z) 71 (0,0)):=a03 _ _ _ rfl
 have j0:Below W.heap.size W (W.alloc (.cells (a1b k f t z) 71 (0,0))):=(Below.refl _ _).alloc (Nat.le_refl _) _
 clear hT
 go_enter Tryz.func10,Tryz.ntmps10
 repeat' (first | go_skip | go_guarded | go_step | go_upon)
 generalize W.alloc (.cells (a1b k f t z) 71 (0,0))=w0 at *
 have HSAN:=Lib.hid (akw w0 (HTW.out w0 j0).1)
 repeat' (first | (go_at_call 27;((with_reducible refine (HSAN.out).mono ?_));rintro e w1 ⟨rfl,hb1⟩;dsimp only) | (go_at_call 28;((with_reducible refine (atr hn _).mono ?_));rintro e w2 ⟨own,v,hl,rfl,hv,hb2⟩;obtain ⟨ob,oo,oc,orow,rfl,ho1,hoc,ho2⟩:=as9 hv (a2h hl);have po:=a3c 4 0 90 (show (Value.slice (some ⟨ob,oo,none⟩) own.length oc).oneCell' = true from rfl);have h0:=a2h hl;have hlen:0 < own.length:=List.length_pos_iff.2 h0;have hl0:(own.length:Int)≠0:=(by omega);have b3o:Int.tmod (who:Int) (own.length:Int)=((who % own.length:Nat):Int):=(by rw [Int.tmod_eq_emod_of_nonneg (by omega)];rfl);have hi0:who % own.length < own.length:=Nat.mod_lt _ hlen;generalize who % own.length=fi at *;have jB:Below w0.heap.size w0 (w2.alloc (.cells (a06 4 0 90 (.slice (some ⟨ob,oo,none⟩) own.length oc)) 61 (0,0))):=(hb1.trans (hb2.mono hb1.size)).alloc (hb1.trans (hb2.mono hb1.size)).size _;have p0:obj (w2.alloc (.cells (a06 4 0 90 (.slice (some ⟨ob,oo,none⟩) own.length oc)) 61 (0,0))) w2.heap.size=some (.cells (a06 4 0 90 (.slice (some ⟨ob,oo,none⟩) own.length oc)) 61 (0,0)):=a03 _ _ _ rfl;have p3:=(a01 p0 3).trans (ads _ _ _ _);have hvw:a0h 0 (w2.alloc (.cells (a06 4 0 90 (.slice (some ⟨ob,oo,none⟩) own.length oc)) 61 (0,0))) (.slice (some ⟨ob,oo,none⟩) own.length oc) own:=hv.below ((Below.refl _ _).alloc (Nat.le_refl _) _);have HGR:=Lib.hid (ajn hl hi0 (HTW.out _ (j0.trans (jB.mono j0.size))).1 hvw);have HVW:=Lib.hid hvw;clear hv ho1 ho2 hb1 hb2 hvw;dsimp only) | (go_at_call 29;((with_reducible refine (HGR.out).mono ?_));rintro e w4 ⟨w,s,rfl,hcw,hb4⟩;have hme:own.getD fi 0∈own:=(by rw [List.getD_eq_getElem?_getD,List.getElem?_eq_getElem hi0];exact List.getElem_mem hi0);generalize own.getD fi 0=me at *;have po4:=a1y me 4 0 90 2 (a0v hcw) (show (Value.slice none 0 0).oneCell' = true from rfl);have jA:=(Below.refl w4.heap.size w4).alloc (Nat.le_refl _) (.cells (ownRow me 4 0 90 2 w (.slice none 0 0)) 28 (0,0));have t0:=a02 (a1w p0 hb4) (.cells (ownRow me 4 0 90 2 w (.slice none 0 0)) 28 (0,0));have o0:obj (w4.alloc (.cells (ownRow me 4 0 90 2 w (.slice none 0 0)) 28 (0,0))) w4.heap.size=some (.cells (ownRow me 4 0 90 2 w (.slice none 0 0)) 28 (0,0)):=a03 _ _ _ rfl;have jB4:=(a5m jB hb4).alloc (a5m jB hb4).size (.cells (ownRow me 4 0 90 2 w (.slice none 0 0)) 28 (0,0));have HV4:=Lib.hid ((HVW.out.below hb4).below jA);have HCW:=Lib.hid (hcw.below jA);have HCP:=Lib.hid (agz hl hi0 (HTW.out _ (j0.trans (jB4.mono j0.size))).1 HV4.out);clear hcw hb4 HVW HGR;dsimp only) | (go_at_call 37;((with_reducible refine (HCP.out).mono ?_));rintro e w7 ⟨lv,gs,c,rfl,hlv,hgl,hcm,hcr,hb7⟩;have t7:=a1w t0 hb7;have o7:=a1w o0 hb7;have jB7:=a5m jB4 hb7;have HV7:=Lib.hid (HV4.out.below hb7);have HCW7:=Lib.hid (HCW.out.below hb7);have HLV:=Lib.hid hlv;have HGL:=Lib.hid hgl;have HCM:=Lib.hid hcm;have HCR:=Lib.hid hcr;obtain ⟨cv,⟨la,lc,rfl,hlr⟩,hlc⟩:=hlv;clear hgl hcm hcr hlr hlc HV4 HCW HCP;dsimp only) | (go_at_call 34;((with_reducible refine (aas _).mono ?_));rintro e wk ⟨kv,rfl,hkv,hbk⟩;have tk:=a1w t7 hbk;have ok:=a1w o7 hbk;have jBk:=a5m jB7 hbk;have HVk:=Lib.hid (HV7.out.below hbk);have b0d:=Lib.hid (HCW7.out.below hbk);have b5a:=Lib.hid (HLV.out.below hbk);have HKV:=Lib.hid hkv;have b5c:=Lib.hid (aWx HGL.out HCM.out);have hown4:=(by decide:∀ l∈a2j,l.length≤4) own hl;have hLl:(gs ++ [c]).length≤5:=(by rw [List.length_append,HGL.out.len];simp;omega);have HF1:=Lib.hid (amk hl hme (alh (me:=me) b0d.out) (by simp) b5a.out (by omega) b5c.out (HTW.out _ (j0.trans (jBk.mono j0.size))).2.1 (HTW.out _ (j0.trans (jBk.mono j0.size))).2.2);have hgl1:(gs ++ [c]).length=gs.length+1:=(by simp);rw [hgl1] at HF1;have po9:=a1y me 4 0 90 2 (a0v b0d.out) (show (Value.slice none 0 0).oneCell' = true from rfl);clear hkv HV7 HCW7 HLV;dsimp only) | (go_at_call 30;((with_reducible refine (HF1.out).mono ?_));rintro e x1 ⟨aTp,ph1,ps1,rfl,P1,y1,F1,hb1⟩;obtain ⟨a7,aa,ao,a4⟩:=abp P1;have jx1:=(Below.refl x1.heap.size x1).alloc (Nat.le_refl _) (.cells aTp 28 (0,0));have jw1:=hb1.alloc hb1.size (.cells aTp 28 (0,0));have e16:obj (x1.alloc (.cells aTp 28 (0,0))) x1.heap.size=some (.cells aTp 28 (0,0)):=a03 _ _ _ rfl;have ok1:=a1w ok jw1;have tk1:=a1w tk jw1;have jB1:=a5m jBk jw1;have d5:=a1w b5 jB1;have z0:=a0t d5 0;have z3:=a0t d5 3;have c0k:=(a01 d5 0).trans (show (a1b k f t z)[0]? = some (.int .u8 k) from rfl);have c3k:=(a01 d5 3).trans (show (a1b k f t z)[3]? = some (.int .u8 z) from rfl);have HP1:=Lib.hid (P1.below jx1);have HF:=Lib.hid F1;have HLV1:=Lib.hid (b5a.out.below jw1);have HV1:=Lib.hid (HVk.out.below jw1);have HCW1:=Lib.hid (b0d.out.below jw1);have HKV1:=Lib.hid (a5h.below HKV.out jw1);clear P1 F1 y1 HF1;dsimp only) | go_skip | go_guarded | go_step | go_upon)
 generalize x1.alloc (.cells aTp 28 (0,0))=x2 at *
 generalize x1.heap.size=eb at *
 generalize w4.heap.size=ab at *
 generalize w2.heap.size=pb at *
 have nT:∀ {y:Nat} {c:Array Value} {T:TypeId} {fr:Nat×Nat},obj x2 y=some (.cells c T fr)→71≠T→y≠W.heap.size:=fun {y c T fr} h1 h2 e=>by
  rw [e] at h1
  have:=d5.symm.trans h1
  injection this with this
  injection this with _ h _
  exact h2 h
 have k0:∀ y,y≠W.heap.size→obj ((x2.setCell ⟨W.heap.size,0,none⟩ (.int .u8 2)).setCell ⟨W.heap.size,3,none⟩ (.int .u8 0)) y=obj x2 y:=fun y hy=>(heap_setCell_other _ _ _ _ hy).trans (heap_setCell_other _ _ _ _ hy)
 have a5:obj ((x2.setCell ⟨W.heap.size,0,none⟩ (.int .u8 2)).setCell ⟨W.heap.size,3,none⟩ (.int .u8 0)) W.heap.size=some (.cells (a1b 2 f t 0) 71 (0,0)):=by
  rw [a0l,a0l,d5,← b2i k f t z];rfl
 have tX:=(k0 pb (nT tk1 (by decide))).trans tk1
 have oX:=(k0 ab (nT ok1 (by decide))).trans ok1
 have eX:=(k0 eb (nT e16 (by decide))).trans e16
 have HPX:=Lib.hid (HP1.out.keep d5 (by decide) (by decide) (by decide) k0)
 have HVX:=Lib.hid (a2m HV1.out d5 (by decide) k0)
 have HCX:=Lib.hid (a2m HCW1.out d5 (by decide) k0)
 have HLX:=Lib.hid (a4w.keep HLV1.out d5 (by decide) (by decide) k0)
 have HKX:=Lib.hid (aez HKV1.out d5 (by decide) k0)
 have jW1:=j0.trans (jB1.mono j0.size)
 have jX:Below W.heap.size W ((x2.setCell ⟨W.heap.size,0,none⟩ (.int .u8 2)).setCell ⟨W.heap.size,3,none⟩ (.int .u8 0)):=(jW1.setCell (by simp) _).setCell (by simp) _
 have aBf:=Lib.hid (aAe hl HGL.out HCM.out HCR.out)
 clear z0 z3 c0k c3k d5 nT k0 tk1 ok1 e16 HP1 HV1 HCW1 HLV1 HKV1 jW1 jB1 jx1 jw1 hb1 tk ok jBk HVk b0d b5a HKV t7 o7 jB7 t0 o0 jB4 p0 p3 jB jA b5 j0 oR zR aR b3o
 generalize ((x2.setCell ⟨W.heap.size,0,none⟩ (.int .u8 2)).setCell ⟨W.heap.size,3,none⟩ (.int .u8 0))=wy at *
 obtain ⟨og,hg0⟩:=azo (c:=c) h0 HGL.out
 have hLl1:(gs ++ [c]).length=gs.length+1:=by simp
 have hlx:=HLX.out
 rw [hLl1] at hlx
 obtain ⟨cv1,⟨la',lc',e1,hlr⟩,hlc⟩:=HLX.out
 injection e1 with e1a e1b e1c
 subst e1a e1c
 obtain ⟨lb,lo,aM4,rfl,hl1,hl2⟩:=hlr (by omega)
 obtain ⟨zz,k2⟩:=hl2 0 (by omega)
 dsimp only at k2
 have hc0:=hlc 0 (by omega)
 have hXa:=b5c.out 0 (by omega)
 generalize (gs ++ [c]).getD 0 a0c=x0 at *
 generalize cv1 0=c0 at *
 rw [Nat.zero_mul,Nat.add_zero] at zz k2
 have z1:(lo+62≤aM4.size)=True:=eq_true zz
 have aZp:=(hXa 1 (by omega) (by omega)).ok.ref
 have lzx:=a0e (LN.let x0 c0) aZp
 have lax:=a15 (LN.let x0 c0) aZp
 have lOx:=a0y (LN.let x0 c0) (a0v hc0)
 have HC0:=Lib.hid hc0
 have hgl0:(0:Int) < (gs.length:Int)+1:=by omega
 have HT9:=Lib.hid (fun W' (hb:Below wy.heap.size wy W')=>HTW.out W' (jX.trans (hb.mono jX.size)))
 have HLT:=Lib.hid (fun W' (hb:Below wy.heap.size wy W')=>au7 (k:=2) (f:=f) (t:=t) (b:=0) hl (by omega) hf ht (by omega) (HVX.out.below hb))
 have HFD:=Lib.hid (fun W' lv y (hb:Below wy.heap.size wy W') (hx:a4w 0 W' lv [x0,y]) (hY:YP own 2 0 y)=>auc hl hme (HCX.out.below hb) hx hg0 hY (HT9.out W' hb).2.1 (HT9.out W' hb).2.2)
 have oR2:=aql 2 f t 0
 have zR2:=aqk 2 f t 0
 have aR2:(a1b 2 f t 0).extract 0 4=a1b 2 f t 0:=extract_all _ _ rfl
 clear hl2 hlr hlc zz hc0 hlx
 have lgo:=a04 oX
 have lgl:=a04 hl1
 have lgt:=a04 tX
 have lgr:=a04 a5
 refine agn 10 [([],fun v _=>v=.agg (ownRow me 4 0 90 2 w (.slice none 0 0))),([],fun v _=>v=.slice (some ⟨lb,lo,none⟩) (gs.length+1) lc),([1],fun v _=>v=.pointer (some ⟨lb,lo,none⟩)),
  ([2],fun v _=>v=.agg (LN.let x0 c0).row),([],fun v _=>v=.agg (a06 4 0 90 (.slice (some ⟨ob,oo,none⟩) own.length oc))),([],fun v _=>v=.agg (a1b 2 f t 0)),
  ([4,5],fun v W => ∃ y cy,v=.agg (LN.let y cy).row∧YP own 2 0 y∧a0h 0 W cy y.cs),
  ([3,6],fun v W => ∃ y,a4w 0 W v [x0,y]∧YP own 2 0 y),
  ([0,7],fun v W => ∃ a4m ps2,v=.agg a4m∧a4m.size=7∧a4m.extract 0 7=a4m∧ones a4m=true∧ane W a4m me 4 0 90 own 4 ps2∧ps2.length≤2∧ajx true own 4 0 (ps2.map (·.1))=(2,0)∧ps2.map (·.1)≠[]∧(∀ q,q∈ps2.map (·.1)→q.mtg=4∧q.cs=own)),
  ([],fun v W => ∃ g,v=.pointer (some ⟨g,0,none⟩)∧wy.heap.size≤g∧obj W g=some (.cells #[.int .i64 0,.int .i64 0,.int .i64 0,.int .i64 0,.int .i64 0,.slice none 0 0,.slice none 0 0] 28 (0,0)))] (by kernel_rfl) (by kernel_rfl) ?st ⟨?o0,?o1,?o2,?o3,?o4,?o5,?o6,?o7,?o8,?o9,trivial⟩ ?tl
 case st =>
  intro k v W1 W2 h hb
  rcases k with _ | _ | _ | _ | _ | _ | _ | _ | _ | _ | k
  ·exact h
  ·exact h
  ·exact h
  ·exact h
  ·exact h
  ·exact h
  ·obtain ⟨y,cy,h1,h2,h3⟩:=h
   exact ⟨y,cy,h1,h2,h3.below hb⟩
  ·obtain ⟨y,h1,h2⟩:=h
   exact ⟨y,h1.below hb,h2⟩
  ·obtain ⟨a4m,ps2,h1,h2,h3,h4,h5,h6⟩:=h
   exact ⟨a4m,ps2,h1,h2,h3,h4,h5.below hb,h6⟩
  ·obtain ⟨g,h1,h2,h3⟩:=h
   exact ⟨g,h1,h2,a1w h3 hb⟩
  ·trivial
 case o0 =>
  intro vs W hW hk
  dsimp only [a9l,List.take]
  have oXW:=a00 oX hW lgo
  repeat' (first | go_skip | go_guarded | go_step | go_upon)
  exact a5s (.agg (ownRow me 4 0 90 2 w (.slice none 0 0))) rfl (by go_simp) (Below.refl _ _) rfl
 case o1 =>
  intro vs W hW hk
  dsimp only [a9l,List.take]
  repeat' (first | go_skip | go_guarded | go_step | go_upon)
  exact a5s (.slice (some ⟨lb,lo,none⟩) (gs.length+1) lc) rfl (by go_simp) (Below.refl _ _) rfl
 case o2 =>
  intro vs W hW hk
  obtain ⟨h1,_⟩:=hk
  have h1:vs 1=.slice (some ⟨lb,lo,none⟩) (gs.length+1) lc:=h1
  dsimp only [a9l,List.take]
  rw [h1]
  repeat' (first | go_skip | go_guarded | go_step | go_upon)
  exact a5s (.pointer (some ⟨lb,lo,none⟩)) rfl (by go_simp) (Below.refl _ _) rfl
 case o3 =>
  intro vs W hW hk
  obtain ⟨h2,_⟩:=hk
  have h2:vs 2=.pointer (some ⟨lb,lo,none⟩):=h2
  dsimp only [a9l,List.take]
  rw [h2]
  have hlW:=a00 hl1 hW lgl
  repeat' (first | go_skip | go_guarded | go_step | go_upon)
  exact a5s (.agg (LN.let x0 c0).row) rfl (by go_simp) (Below.refl _ _) rfl
 case o4 =>
  intro vs W hW hk
  dsimp only [a9l,List.take]
  have tXW:=a00 tX hW lgt
  repeat' (first | go_skip | go_guarded | go_step | go_upon)
  exact a5s (.agg (a06 4 0 90 (.slice (some ⟨ob,oo,none⟩) own.length oc))) rfl (by go_simp) (Below.refl _ _) rfl
 case o5 =>
  intro vs W hW hk
  dsimp only [a9l,List.take]
  have a5W:=a00 a5 hW lgr
  repeat' (first | go_skip | go_guarded | go_step | go_upon)
  exact a5s (.agg (a1b 2 f t 0)) rfl (by go_simp) (Below.refl _ _) rfl
 case o6 =>
  intro vs W hW hk
  obtain ⟨h4,h5,_⟩:=hk
  have h4:vs 4=.agg (a06 4 0 90 (.slice (some ⟨ob,oo,none⟩) own.length oc)):=h4
  have h5:vs 5=.agg (a1b 2 f t 0):=h5
  dsimp only [a9l,List.take]
  rw [h4,h5]
  repeat' (first | (go_at_call 36;((with_reducible refine (HLT.out _ hW).mono ?_));rintro e w5 ⟨y,cy,rfl,hY,hcy,hb5⟩;dsimp only) | go_skip | go_guarded | go_step | go_upon)
  exact a5s (.agg (LN.let y cy).row) rfl (by go_simp) hb5 ⟨y,cy,rfl,hY,hcy⟩
 case o7 =>
  intro vs W hW hk
  obtain ⟨h3,h6,_⟩:=hk
  have h3:vs 3=.agg (LN.let x0 c0).row:=h3
  obtain ⟨y,cy,h6,hY,hcy⟩:=h6
  have h6:vs 6=.agg (LN.let y cy).row:=h6
  dsimp only [a9l,List.take]
  rw [h3,h6]
  have lzy:=a0e (LN.let y cy) hY.ok.ref
  have jx:=(Below.refl W.heap.size W).alloc (Nat.le_refl _) (.cells ((LN.let x0 c0).row++(LN.let y cy).row) 48 (0,0))
  have hL:=aBx aZp hY.ok.ref (a03 (w:=W) (.cells ((LN.let x0 c0).row++(LN.let y cy).row) 48 (0,0)) _ rfl) (HC0.out.below (hW.trans (jx.mono hW.size))) (hcy.below jx)
  repeat' (first | go_skip | go_guarded | go_step | go_upon)
  exact a5s (.slice (some ⟨W.heap.size,0,none⟩) 2 2) rfl (by go_simp) jx ⟨y,hL,hY⟩
 case o8 =>
  intro vs W hW hk
  obtain ⟨h0,h7,_⟩:=hk
  have h0':vs 0=.agg (ownRow me 4 0 90 2 w (.slice none 0 0)):=h0
  obtain ⟨y,hL,hY⟩:=h7
  dsimp only [a9l,List.take]
  rw [h0']
  generalize vs 7=v7 at *
  repeat' (first | (go_at_call 30;((with_reducible refine (HFD.out _ _ _ hW hL hY).mono ?_));rintro e w6 ⟨a4m,ps2,rfl,y7,ya,yo,P2,z2,c2,k22,cc2,hb6⟩;dsimp only) | go_skip | go_guarded | go_step | go_upon)
  exact a5s (.agg a4m) rfl (by go_simp) hb6 ⟨a4m,ps2,rfl,y7,ya,yo,P2,z2,c2,k22,cc2⟩
 case o9 =>
  intro vs W hW hk
  dsimp only [a9l,List.take]
  have jx:=(Below.refl W.heap.size W).alloc (Nat.le_refl _) (.cells #[.int .i64 0,.int .i64 0,.int .i64 0,.int .i64 0,.int .i64 0,.slice none 0 0,.slice none 0 0] 28 (0,0))
  repeat' (first | go_skip | go_guarded | go_step | go_upon)
  exact a5s (.pointer (some ⟨W.heap.size,0,none⟩)) rfl (by go_simp) jx ⟨W.heap.size,rfl,hW.size,a03 _ _ _ rfl⟩
 case tl =>
  intro vs W2 hW2 hk
  obtain ⟨a4m,ps2,h8,y7,ya,yo,P2,z2,c2,k22,cc2⟩:=hk 8 (by decide)
  obtain ⟨g,h9,hg,hgo⟩:=hk 9 (by decide)
  have h8:vs 8=.agg a4m:=h8
  have h9:vs 9=.pointer (some ⟨g,0,none⟩):=h9
  clear hk
  dsimp only [a9l,List.take,List.drop]
  rw [h8,h9]
  generalize vs 0=u0,vs 1=u1,vs 2=u2,vs 3=u3,vs 4=u4,vs 5=u5,vs 6=u6,vs 7=u7
  have HP2:=P2.keep hgo (by decide) (by decide) (by decide) (fun y hy=>setRow_other W2 g y a4m hy)
  have o2:obj (W2.setRow g a4m) g=some (.cells a4m 28 (0,0)):=by rw [a0b,hgo];rfl
  have jY:Below wy.heap.size wy (W2.setRow g a4m):=below_setRow hW2 hg a4m
  have r3:=a00 a5 jY lgr
  have e3:=a00 eX jY (a04 eX)
  have HP1:=HPX.out.below jY
  have HKV:=a5h.below HKX.out jY
  have jX3:=jX.trans (jY.mono jX.size)
  have HT3:=Lib.hid (fun W' (hb:Below (W2.setRow g a4m).heap.size (W2.setRow g a4m) W')=>(HTW.out W' (jX3.trans (hb.mono jX3.size))).2)
  simp only [Act.put,List.setIfInBounds_toArray,List.set_cons_succ,List.set_cons_zero]
  go_step
  go_step
  go_step
  clear jY hW2 P2 hgo HT9 HLT HFD HPX HKX HVX HCX HLX a5 tX oX eX lgo lgl lgt lgr hl1 z1 k2 hg0 hXa aZp lzx lax lOx HC0 hgl0 oR2 zR2 aR2 jX b5c hLl hLl1 hgl1 hbk hb7 po4 po9 po e1b hown4
  generalize W2.setRow g a4m=w3 at *
  obtain ⟨q1,q2,q3⟩:=aQj aBf.out HF.out
  subst q1
  have hK0:ps1.map (·.1)≠[]:=fun e=>by rw [e] at q2;simp at q2
  have hn0:0 < ps1.length:=by have:=List.length_pos_iff.2 hK0;simpa using this
  have hn5:ps1.length=gs.length+1:=by simpa using q2
  have hz5:ps1.length≤5:=by
   have q5:=HGL.out.len
   have q6:=(by decide:∀ l∈a2j,l.length≤4) own hl
   omega
  have hn6:gs.length+1≤ps1.length:=by omega
  clear hn5 q2
  have hKc:=abw aBf.out q3.sub
  have atu:(!own.contains 0)=true:=(by decide:∀ l∈a2j,(!l.contains 0)=true) own hl
  obtain ⟨⟨ov1,pv1,rfl,_,hpv1⟩,aWo,_,hcap1⟩:=HP1
  obtain ⟨⟨ov2,pv2,rfl,_,hpv2⟩,hpk2,_,_⟩:=HP2
  have C1:=Lib.hid (fun W' (hb:Below w3.heap.size w3 W')=>show Calls Tryz.prog 42 #[kv,.int .i64 4,.int .i64 0,pv1] W' fun e W''=>e=.returned (.tuple #[.int .i64 1,.int .i64 0])∧Below W'.heap.size W' W'' from by
   have:=ac1 hl (org:=0) (by decide) (a5h.below HKV hb) (hpv1.below hb) aWo (by omega) (HT3.out W' hb).1 (HT3.out W' hb).2 hK0 hKc
   rw [atu,aQv aBf.out q3] at this
   exact this)
  have C2:=Lib.hid (fun W' (hb:Below w3.heap.size w3 W')=>show Calls Tryz.prog 42 #[kv,.int .i64 4,.int .i64 0,pv2] W' fun e W''=>e=.returned (.tuple #[.int .i64 2,.int .i64 0])∧Below W'.heap.size W' W'' from by
   have:=ac1 hl (org:=0) (by decide) (a5h.below HKV hb) (hpv2.below hb) hpk2 (by omega) (HT3.out W' hb).1 (HT3.out W' hb).2 k22 cc2
   rw [atu,c2] at this
   exact this)
  have C4:=Lib.hid (fun W' (hb:Below w3.heap.size w3 W')=>show Calls Tryz.prog 42 #[kv,.int .i64 5,.int .i64 0,pv1] W' fun e W''=>e=.returned (.tuple #[.int .i64 0,.int .i64 11])∧Below W'.heap.size W' W'' from
   auu (own:=own) (a5h.below HKV hb) (hpv1.below hb) aWo (by omega) (HT3.out W' hb).1 (HT3.out W' hb).2 hKc)
  have C5:=Lib.hid (fun W' (hb:Below w3.heap.size w3 W')=>show Calls Tryz.prog 42 #[kv,.int .i64 4,.int .i64 4,pv1] W' fun e W''=>e=.returned (.tuple #[.int .i64 0,.int .i64 11])∧Below W'.heap.size W' W'' from by
   have:=ac1 hl (org:=4) (by decide) (a5h.below HKV hb) (hpv1.below hb) aWo (by omega) (HT3.out W' hb).1 (HT3.out W' hb).2 hK0 hKc
   rw [aQw hK0 aBf.out q3] at this
   exact this)
  have C3:=Lib.hid (fun W' (i:Nat) (hi:i < ps1.length) (v:Value) (hb:Below w3.heap.size w3 W') (hv:a6i W' v (ps1.take i++ps1.drop (i+1)))=>show Calls Tryz.prog 42 #[kv,.int .i64 4,.int .i64 0,v] W' fun e W''=>e=.returned (.tuple #[.int .i64 0,.int .i64 11])∧Below W'.heap.size W' W'' from by
   have hgl:=HGL.out.len
   have hne:(ps1.map (·.1)).take i++(ps1.map (·.1)).drop (i+1)≠[]:=fun e=>by
    have:=congrArg List.length e
    rw [List.length_append,List.length_take,List.length_drop,List.length_map,List.length_nil] at this
    have h0':=List.length_pos_iff.2 (a2h hl)
    omega
   have:=ac1 hl (org:=0) (by decide) (a5h.below HKV hb) hv (aWo.less i hi) (by simp;omega) (HT3.out W' hb).1 (HT3.out W' hb).2 (by rw [ajj];exact hne) (fun q hq=>hKc q (by
    rw [ajj] at hq
    rcases List.mem_append.1 hq with h | h
    ·exact List.mem_of_mem_take h
    ·exact List.mem_of_mem_drop h))
   rw [atu,ajj,aHu aBf.out q3 (by simpa using hi) hne] at this
   exact this)
  obtain ⟨ao1,n1,c1,rfl,hnc⟩:=hcap1 pv1 (aau _ _ _ _ _ _ _)
  obtain ⟨bv1,⟨pa,pc,e,hrow⟩,hsl⟩:=hpv1
  injection e with ea eb' ec
  subst ea eb' ec
  obtain ⟨pb1,po1,aRx,rfl,hpo,hpr⟩:=hrow (by omega)
  have HSL:=Lib.hid hsl
  have HPR:=Lib.hid hpr
  clear hsl hpr hrow hpv2 hpk2 aWo hcap1 z2 c2 k22 cc2 y7 ya yo HKV
  have hn0i:(ps1.length:Int)≠0:=by omega
  have hlz:((ps1.length:Int) == 0)=false:=by simpa using hn0i
  have hci:=Nat.mod_lt t hn0
  have b3p:Int.tmod (t:Int) (ps1.length:Int)=((t % ps1.length:Nat):Int):=by rw [Int.tmod_eq_emod_of_nonneg (by omega)];rfl
  have wwt:IntKind.wrap .i64 (t:Int)=(t:Int):=by rw [IntKind.wrap_i64];omega
  have hpl:ps1.length≤5:=by omega
  generalize t % ps1.length=ci at *
  have wci:IntKind.wrap .i64 ((ci:Int)+1)=(ci:Int)+1:=by rw [IntKind.wrap_i64];omega
  have tci:((ci:Int)+1).toNat=ci+1:=by omega
  have nci:(0:Int)≤(ci:Int)+1:=by omega
  have F:=Lib.hid (fun W' (hb:Below w3.heap.size w3 W')=>And.intro ((a01 (a1w e3 hb) 6).trans (aau _ _ _ _ _ _ _)) (And.intro ((a01 (a1w e3 hb) 4).trans (a4v _ _ _ _ _ _ _)) (And.intro ((a01 (a1w o2 hb) 6).trans (aau _ _ _ _ _ _ _)) (And.intro ((a01 (a1w o2 hb) 4).trans (a4v _ _ _ _ _ _ _)) ((a01 (a1w r3 hb) 2).trans (show (a1b 2 f t 0)[2]? = some (.int .u8 t) from rfl))))))
  have hB:=Below.refl w3.heap.size w3
  obtain ⟨f1,f2,f3,f4,f5⟩:=F.out _ hB
  clear e3 o2 r3
  by_cases hpe:ci+1=c1
  ·subst hpe
   have hdl:ps1.length - (ci+1)=0:=by omega
   have HDL:=Lib.hid hdl
   clear hdl
   repeat' (first | (go_at_call 42;((with_reducible refine (C1.out _ hB).mono ?_));rintro e wq ⟨rfl,hbq⟩;replace hB:=hB.trans (hbq.mono hB.size);clear f1 f2 f3 f4 f5;obtain ⟨f1,f2,f3,f4,f5⟩:=F.out _ hB;clear hbq;dsimp only) | (go_at_call 42;((with_reducible refine (C2.out _ hB).mono ?_));rintro e wq ⟨rfl,hbq⟩;replace hB:=hB.trans (hbq.mono hB.size);clear f1 f2 f3 f4 f5;obtain ⟨f1,f2,f3,f4,f5⟩:=F.out _ hB;clear hbq;obtain ⟨g1,_⟩:=F.out _ (hB.alloc hB.size (.cells #[] 78 (0,0)));dsimp only) | (at_builtin;refine a3n (o:=⟨some 103,_,_,_,_,_⟩) rfl (.tmp 98) (.tmp 102) rfl Tryz.underlying26 (b:=80) (z:=36) (by kernel_rfl) (by decide) (by decide) w3.heap.size 0 (.slice (some ⟨_,0,none⟩) 0 0) [] ?_ (alg hB.size (a03 _ _ _ rfl)) pb1 po1 (ci+1) ci aRx (0,0) (fun j=>(a05 (ps1.getD j (a0c,0)).1 (ps1.getD j (a0c,0)).2 (bv1 j)).row) ?_ (a02 (a1w hpo hB) _) (fun i hi=>HPR.out i (by omega)) (fun i hi=>a1k _ _ (a7s (HSL.out i (by omega)))) (by omega) (hB.alloc hB.size _).size ?_;rfl;rfl;intro v1 wa hA1 hA2;have hBa:=(hB.alloc hB.size (.cells #[] 78 (0,0))).grown hA2 (hB.alloc hB.size _).size (fun g hg=>by cases hg;exact hB.size);simp only [List.nil_append,Nat.zero_add] at hA1;have hA:=Lib.hid hA1;clear hA1 hA2;replace hB:=hBa;clear hBa g1;clear f1 f2 f3 f4 f5;obtain ⟨f1,f2,f3,f4,f5⟩:=F.out _ hB;dsimp only) | (at_builtin;refine a3n (o:=⟨some 110,_,_,_,_,_⟩) rfl (.tmp 104) (.tmp 109) rfl Tryz.underlying26 (b:=80) (z:=36) (by kernel_rfl) (by decide) (by decide) w3.heap.size ci v1 _ ?_ hA.out pb1 po1 0 0 aRx (0,0) (fun j=>(a05 (ps1.getD (ci+1+j) (a0c,0)).1 (ps1.getD (ci+1+j) (a0c,0)).2 (bv1 (ci+1+j))).row) ?_ (a1w hpo hB) (fun i hi=>absurd hi (Nat.not_lt_zero i)) (fun i hi=>absurd hi (Nat.not_lt_zero i)) (by omega) hB.size ?_;rfl;rfl;intro v2 wb hA3 hA4;have hBb:=hB.grown hA4 hB.size (fun g hg=>a1u hA.out hg);replace hB:=hBb;have HPL:=Lib.hid (ahg (bv:=bv1) hci (by rw [HDL.out];exact hA3) (fun j hj=>(HSL.out j hj).below hB));clear hA3 hA4 hBb hA;clear f1 f2 f3 f4 f5;obtain ⟨f1,f2,f3,f4,f5⟩:=F.out _ hB;dsimp only) | (go_at_call 42;((with_reducible refine (C3.out _ ci hci _ hB HPL.out).mono ?_));rintro e wq ⟨rfl,hbq⟩;replace hB:=hB.trans (hbq.mono hB.size);clear f1 f2 f3 f4 f5;obtain ⟨f1,f2,f3,f4,f5⟩:=F.out _ hB;clear hbq;dsimp only) | (go_at_call 42;((with_reducible refine (C4.out _ hB).mono ?_));rintro e wq ⟨rfl,hbq⟩;replace hB:=hB.trans (hbq.mono hB.size);clear f1 f2 f3 f4 f5;obtain ⟨f1,f2,f3,f4,f5⟩:=F.out _ hB;clear hbq;dsimp only) | (go_at_call 42;((with_reducible refine (C5.out _ hB).mono ?_));rintro e wq ⟨rfl,hbq⟩;replace hB:=hB.trans (hbq.mono hB.size);clear f1 f2 f3 f4 f5;obtain ⟨f1,f2,f3,f4,f5⟩:=F.out _ hB;clear hbq;dsimp only) | go_skip | go_guarded | go_step | go_upon)
   go_ret
   exact ⟨rfl,a5m jX3 hB⟩
  ·have HF2:=Lib.hid (show ∀ i,i < ps1.length - (ci+1)→po1+(ci+1) * 36+i * 36+36≤aRx.size∧aRx.extract (po1+(ci+1) * 36+i * 36) (po1+(ci+1) * 36+i * 36+36)=(fun j=>(a05 (ps1.getD (ci+1+j) (a0c,0)).1 (ps1.getD (ci+1+j) (a0c,0)).2 (bv1 (ci+1+j))).row) i from fun i hi=>by
    have:=HPR.out (ci+1+i) (by omega)
    rw [Nat.add_mul (ci+1) i 36,← Nat.add_assoc] at this
    exact this)
   repeat' (first | (go_at_call 42;((with_reducible refine (C1.out _ hB).mono ?_));rintro e wq ⟨rfl,hbq⟩;replace hB:=hB.trans (hbq.mono hB.size);clear f1 f2 f3 f4 f5;obtain ⟨f1,f2,f3,f4,f5⟩:=F.out _ hB;clear hbq;dsimp only) | (go_at_call 42;((with_reducible refine (C2.out _ hB).mono ?_));rintro e wq ⟨rfl,hbq⟩;replace hB:=hB.trans (hbq.mono hB.size);clear f1 f2 f3 f4 f5;obtain ⟨f1,f2,f3,f4,f5⟩:=F.out _ hB;clear hbq;obtain ⟨g1,_⟩:=F.out _ (hB.alloc hB.size (.cells #[] 78 (0,0)));dsimp only) | (at_builtin;refine a3n (o:=⟨some 103,_,_,_,_,_⟩) rfl (.tmp 98) (.tmp 102) rfl Tryz.underlying26 (b:=80) (z:=36) (by kernel_rfl) (by decide) (by decide) w3.heap.size 0 (.slice (some ⟨_,0,none⟩) 0 0) [] ?_ (alg hB.size (a03 _ _ _ rfl)) pb1 po1 c1 ci aRx (0,0) (fun j=>(a05 (ps1.getD j (a0c,0)).1 (ps1.getD j (a0c,0)).2 (bv1 j)).row) ?_ (a02 (a1w hpo hB) _) (fun i hi=>HPR.out i (by omega)) (fun i hi=>a1k _ _ (a7s (HSL.out i (by omega)))) (by omega) (hB.alloc hB.size _).size ?_;rfl;rfl;intro v1 wa hA1 hA2;have hBa:=(hB.alloc hB.size (.cells #[] 78 (0,0))).grown hA2 (hB.alloc hB.size _).size (fun g hg=>by cases hg;exact hB.size);simp only [List.nil_append,Nat.zero_add] at hA1;have hA:=Lib.hid hA1;clear hA1 hA2;replace hB:=hBa;clear hBa g1;clear f1 f2 f3 f4 f5;obtain ⟨f1,f2,f3,f4,f5⟩:=F.out _ hB;dsimp only) | (at_builtin;refine a3n (o:=⟨some 110,_,_,_,_,_⟩) rfl (.tmp 104) (.tmp 109) rfl Tryz.underlying26 (b:=80) (z:=36) (by kernel_rfl) (by decide) (by decide) w3.heap.size ci v1 _ ?_ hA.out pb1 (po1+(ci+1) * 36) (c1 - (ci+1)) (ps1.length - (ci+1)) aRx (0,0) (fun j=>(a05 (ps1.getD (ci+1+j) (a0c,0)).1 (ps1.getD (ci+1+j) (a0c,0)).2 (bv1 (ci+1+j))).row) ?_ (a1w hpo hB) HF2.out (fun i hi=>a1k _ _ (a7s (HSL.out (ci+1+i) (by omega)))) (by omega) hB.size ?_;rfl;rfl;intro v2 wb hA3 hA4;have hBb:=hB.grown hA4 hB.size (fun g hg=>a1u hA.out hg);replace hB:=hBb;have HPL:=Lib.hid (ahg hci hA3 (fun j hj=>(HSL.out j hj).below hB));clear hA3 hA4 hBb hA;clear f1 f2 f3 f4 f5;obtain ⟨f1,f2,f3,f4,f5⟩:=F.out _ hB;dsimp only) | (go_at_call 42;((with_reducible refine (C3.out _ ci hci _ hB HPL.out).mono ?_));rintro e wq ⟨rfl,hbq⟩;replace hB:=hB.trans (hbq.mono hB.size);clear f1 f2 f3 f4 f5;obtain ⟨f1,f2,f3,f4,f5⟩:=F.out _ hB;clear hbq;dsimp only) | (go_at_call 42;((with_reducible refine (C4.out _ hB).mono ?_));rintro e wq ⟨rfl,hbq⟩;replace hB:=hB.trans (hbq.mono hB.size);clear f1 f2 f3 f4 f5;obtain ⟨f1,f2,f3,f4,f5⟩:=F.out _ hB;clear hbq;dsimp only) | (go_at_call 42;((with_reducible refine (C5.out _ hB).mono ?_));rintro e wq ⟨rfl,hbq⟩;replace hB:=hB.trans (hbq.mono hB.size);clear f1 f2 f3 f4 f5;obtain ⟨f1,f2,f3,f4,f5⟩:=F.out _ hB;clear hbq;dsimp only) | go_skip | go_guarded | go_step | go_upon)
   go_ret
   exact ⟨rfl,a5m jX3 hB⟩
end Go.Proofs.YtlnlbdfokmhelaaGreatDoor
