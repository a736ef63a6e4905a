/-
  A region that draws its order, whose head only reads (calls that only read and draw are let) and whose tail waits for the head and goes in order: one walk of the order of the text.
-/
import Derived.Deep.QuietTactic
import Derived.StillTail
import Derived.KernelRfl
import Derived.Test.YtopgdlblfieljaaGreatDoorPkRefA
set_option linter.unusedSectionVars false
set_option linter.constructorNameAsVariable false
set_option linter.unusedVariables false
set_option linter.unusedSimpArgs false
namespace Go
section
variable {P:Program} {ops:Array Oper} {md:Region.Mode} {C:World→Prop}
def ael (P:Program) (md:Region.Mode) (ops:Array Oper) (C:World→Prop) (n:Nat) (L:Array Bool→Act→Prop):Nat→Array Bool→Act→Prop
 | 0,listed,a=>L listed a
 | f+1,listed,a =>
  Region.ready md ops listed≠[]∧∀ i∈Region.ready md ops listed,i < n∧qOp P ops C i (ael P md ops C n L f (listed.setIfInBounds i true)) a
theorem a7j {n g:Nat} {L:Array Bool→Act→Prop} {Q':Exit→Act→World→Prop} (hL:∀ listed a w,C w→L listed a→wpAny P md ops Q' g listed a w) :
  ∀ (f:Nat) (listed:Array Bool) (a:Act) (w:World),C w→ael P md ops C n L f listed a→wpAny P md ops Q' (f+g) listed a w
 | 0,listed,a,w,hw,h=>by rw [Nat.zero_add];exact hL _ _ _ hw h
 | f+1,listed,a,w,hw,h=>by
  rw [show f+1+g=(f+g)+1 by omega]
  exact ⟨fun h0=>absurd h0 h.1,fun i hi=>wpOp_of_qOp hw (fun a' w' hw' h'=>a7j hL f _ a' w' hw' h') (h.2 i hi).2⟩
theorem aih {n i:Nat} {oi:Oper} {v:Value} {L:Array Bool→Act→Prop} (hi:ops[i]? = some oi) (hsel:∀ (j:Nat) (o:Oper) cs b,ops[j]? = some o→o.op≠.select cs b)
  (hs:Region.sinkB md ops n=true) (hc:Region.chainB md ops n=true) (hn:n < ops.size) (hin:i < n)
  (hdone:∀ listed a,L listed a→∀ j∈Region.ready md ops listed,n≤j) :
  ∀ (f:Nat) (listed:Array Bool) (a:Act),HeadInv md ops n listed →
   (∀ j oj,ops[j]? = some oj→j≠i→listed.getD j true=false→(∀ e∈oj.after,Region.binds md e=true→e.on≠i)→oi.apart ops oj=true) →
   i∈Region.ready md ops listed→YieldsIn P ops C oi v a →
   ael P md ops C n L f (listed.setIfInBounds i true) (a.put oi.dst v)→ael P md ops C n L (f+1) listed a:=by
 intro f
 induction f with
 | zero =>
  intro listed a inv _ hr hy H
  have hun:=(mem_ready.1 hr).1
  refine ⟨fun h=>(by rw [h] at hr;cases hr),fun j hj=>?_⟩
  have hjn:j < n:=by
   rcases Nat.lt_or_ge j n with h | h
   ·exact h
   ·exact absurd hj (tail_waits hs hc hn inv _ i rfl hin hun j h)
  refine ⟨hjn,?_⟩
  by_cases hji:j=i
  ·subst hji;exact hy.qOp hi H
  ·have:=hdone _ _ H j (ready_mono hj hji)
   omega
 | succ f ih =>
  intro listed a inv hfree hr hy H
  have hun:=(mem_ready.1 hr).1
  refine ⟨fun h=>(by rw [h] at hr;cases hr),fun j hj=>?_⟩
  have hjn:j < n:=by
   rcases Nat.lt_or_ge j n with h | h
   ·exact h
   ·exact absurd hj (tail_waits hs hc hn inv _ i rfl hin hun j h)
  refine ⟨hjn,?_⟩
  by_cases hji:j=i
  ·subst hji;exact hy.qOp hi H
  ·have h1:=(H.2 j (ready_mono hj hji)).2
   obtain ⟨hjun,oj,hoj,hall⟩:=mem_ready.1 hj
   have hnot:∀ e∈oj.after,Region.binds md e=true→e.on≠i:=fun e he hb heq=>by
    have h1:=hall e he hb
    rw [heq,getD_both hun] at h1
    cases h1
   have h2:=qOp_put hoj (hfree j oj hoj hji hjun hnot) (fun cs b=>hsel i oi cs b hi) (fun cs b=>hsel j oj cs b hoj) hy h1
   have hfree':∀ k ok,ops[k]? = some ok→k≠i→(listed.setIfInBounds j true).getD k true=false →
     (∀ e∈ok.after,Region.binds md e=true→e.on≠i)→oi.apart ops ok=true:=fun k ok hk hki hun hno=>by
    refine hfree k ok hk hki ?_ hno
    by_cases hjk:j=k
    ·subst hjk;exact hjun
    ·rw [getD_set_ne true hjk] at hun;exact hun
   refine qOp_mono (fun a' h3=>ih (listed.setIfInBounds j true) a' (inv.set hj hjn) hfree' (ready_mono hr (Ne.symm hji)) h3.1 ?_) h2
   rw [Array.setIfInBounds_comm _ _ hji]
   exact h3.2
theorem aam {n g:Nat} {Lq:Act→Prop} (hsel:Region.noSelect ops=true) (hs:Region.sinkB md ops n=true) (hc:Region.chainB md ops n=true) (hn:n < ops.size) :
  ∀ (l:List Oper) (k:Nat) (listed:Array Bool) (a:Act),(∀ j,j < l.length→l[j]? = ops[k+j]?)→k+l.length=n→HeadInv md ops n listed →
  Region.lexHead md ops g l.length k listed=true→wpQuiet P ops C Lq l a →
  ael P md ops C n (fun listed' a'=>Region.seqB md ops g n listed' = true∧Lq a') l.length listed a
 | [],k,listed,a,_,hk,_,hB,h=>by
  have:k=n:=by simpa using hk
  subst this
  exact ⟨by simpa [Region.lexHead] using hB,h⟩
 | o :: l,k,listed,a,hl,hk,inv,hB,h=>by
  have h0:ops[k]? = some o:=by simpa using (hl 0 (by simp)).symm
  simp only [List.length_cons,Region.lexHead,Bool.and_eq_true] at hB
  obtain ⟨⟨hr,hf⟩,hB'⟩:=hB
  have hkn:k < n:=by simp only [List.length_cons] at hk;omega
  have hr':k∈Region.ready md ops listed:=by simpa using hr
  have hst:qOp P ops C k (wpQuiet P ops C Lq l) a:=by unfold qOp;simp only [h0];exact h
  obtain ⟨v,hy,hK⟩:=yieldsIn_of_qOp h0 hst
  exact aih h0 (Region.noSelect_spec hsel) hs hc hn hkn (fun listed' a' hL=>seqB_ready hL.1) l.length listed a inv (Region.free_spec h0 hf) hr' hy
   (aam hsel hs hc hn l (k+1) _ _ (fun j hj=>by have:=hl (j+1) (by simp;omega);simpa [Nat.add_assoc,Nat.add_comm 1 j] using this) (by simp only [List.length_cons] at hk;omega) (inv.set hr' hkn) hB' hK)
theorem aa6 {id:Nat} {Q:Exit→Act→World→Prop} {a:Act} {w:World} {l:List Oper} (n:Nat) (hm:P.follows .mixedOrders=true) (hB:Region.lexTailB .any l.toArray n=true)
  (h:wpQuiet P l.toArray (fun w' => ∃ n,w' = w.drewN n) (fun a'=>∀ w',(∃ n,w' = w.drewN n)→wpList P l.toArray Q (l.drop n) a' w') (l.take n) a):(Code.region id l.toArray true).wp P Q a w:=by
 simp only [Region.lexTailB,Bool.and_eq_true,decide_eq_true_eq] at hB
 obtain ⟨⟨⟨⟨hsel,hn⟩,hs⟩,hc⟩,hlex⟩:=hB
 have hn':n < l.length:=by simpa using hn
 have htl:(l.take n).length=n:=by simp;omega
 have hdl:(l.drop n).length=l.toArray.size - n:=by simp
 have inv0:HeadInv .any l.toArray n (Array.replicate l.toArray.size false) :=
  ⟨by simp,fun j oj _ hl=>(by rw [getD_replicate_false] at hl;cases hl),fun t _ ht=>getD_in (by simpa using ht) (getD_replicate_false _ _)⟩
 have H:=aam (md:=.any) (C:=fun w' => ∃ n,w' = w.drewN n) (g:=l.toArray.size - n) hsel hs hc hn (l.take n) 0 _ a (fun j hj=>by
  have hj':j < n:=by rw [htl] at hj;exact hj
  simp [hj']) (by simpa using htl) inv0 (by rw [htl];exact hlex) h
 refine wp_region_any hm ?_
 have:=a7j (Q':=Q) (g:=l.toArray.size - n) (fun listed a' w' hw' hL=>by
  have:=wpAny_of_seq (md:=.any) (Q':=Q) (l.drop n) n listed a' w' (fun j=>by simp [List.getElem?_drop]) (by rw [hdl];exact hL.1) (hL.2 w' hw')
  rwa [hdl] at this) _ _ _ { w with drawn:=w.drawn+1 } ⟨1,rfl⟩ H
 rw [htl,show n+(l.toArray.size - n)=l.toArray.size by omega] at this
 exact this
end
end Go
namespace Go.Proofs.YtopgdlblfieljaaGreatDoor
open Go.RowKit
theorem aBq (a b c d:Nat) (ha:a < 256) (hb:b < 256) (hc:c < 256) (hd:d < 256) :
  ((a:Int) % 4294967296 * 16777216+(b:Int) % 4294967296 * 65536+(c:Int) % 4294967296 * 256+(d:Int)) % 4294967296=((16777216 * a+65536 * b+256 * c+d:Nat):Int):=by
 omega
theorem b0t (f:Nat→Nat):z182=arr f 0:=by
 rw [aee];unfold z182;rfl
set_option maxHeartbeats 1000000 in
set_option maxRecDepth 100000 in
theorem aml (b off cap:Nat) (f:Nat→Nat) (hf:∀ j,f j < 256) (w:World) (hc:∀ j,j < 64→w.cell? ⟨b,off+j,none⟩=some (B8 (f j))) (hb:b < w.heap.size) :
  Calls Tryz.prog 137 #[.slice (some ⟨b,off,none⟩) 64 cap] w fun e w'=>e=.returned (.agg ((Sha.sch f 64).map B32).toArray)∧Below w.heap.size w w':=by
 go_enter Tryz.func137,Tryz.ntmps137
 go_wp2
 go_loopw [4] (fun i wr => ∃ k:Nat,k≤16∧i=.int .i64 k∧wr.heap[w.heap.size]? = some (.cells (arr f 0) 182 (0,0))∧wr.heap[w.heap.size+1]? = some (.cells (arr f k) 182 (0,0))∧Below w.heap.size w wr)
  (fun i _=>(16 - intOf i).toNat)
 case atStart =>
  refine ⟨0,by omega,rfl,?_,?_,?_⟩
  ·rw [heap_alloc2_old,← b0t]
  ·rw [heap_alloc2_new,aee];rfl
  ·exact ((Below.refl _ _).alloc (Nat.le_refl _) _).alloc (by simp) _
 case round =>
  obtain ⟨k,hk,rfl,h0,h1,hB⟩:=hrel
  by_cases h16:k < 16
  ·have hlt:k < 64:=by omega
   have hst:wr.drew.cell? ⟨w.heap.size+1,k,none⟩=some (B32 ((Sha.sch f k).getD k 0)):=(cell_of_row wr _ _ _ _ _ h1).trans (a6f f k k (by omega) hlt)
   have hfz:wr.drew.frozen? ⟨w.heap.size+1,k,none⟩=false:=frozen_of_row wr _ _ _ _ h1
   have h0':wr.drew.heap[w.heap.size]? = some (.cells (arr f 0) 182 (0,0)):=h0
   have h1':wr.drew.heap[w.heap.size+1]? = some (.cells (arr f k) 182 (0,0)):=h1
   have hB':=hB.drew
   have c0:wr.cell? ⟨b,off+4 * k,none⟩=some (B8 (f (4 * k))):=(hB.cell (p:=⟨b,_,none⟩) hb).trans (hc _ (by omega))
   have c1:wr.cell? ⟨b,off+(4 * k+1),none⟩=some (B8 (f (4 * k+1))):=(hB.cell (p:=⟨b,_,none⟩) hb).trans (hc _ (by omega))
   have c2:wr.cell? ⟨b,off+(4 * k+2),none⟩=some (B8 (f (4 * k+2))):=(hB.cell (p:=⟨b,_,none⟩) hb).trans (hc _ (by omega))
   have c3:wr.cell? ⟨b,off+(4 * k+3),none⟩=some (B8 (f (4 * k+3))):=(hB.cell (p:=⟨b,_,none⟩) hb).trans (hc _ (by omega))
   have e0:IntKind.i64.wrap (4 * (k:Int))=4 * (k:Int):=IntWalk.i64_in _ (by omega)
   have e1:IntKind.i64.wrap (4 * (k:Int)+1)=4 * (k:Int)+1:=IntWalk.i64_in _ (by omega)
   have e2:IntKind.i64.wrap (4 * (k:Int)+2)=4 * (k:Int)+2:=IntWalk.i64_in _ (by omega)
   have e3:IntKind.i64.wrap (4 * (k:Int)+3)=4 * (k:Int)+3:=IntWalk.i64_in _ (by omega)
   have n0:(4 * (k:Int)).toNat=4 * k:=by omega
   have n1:(4 * (k:Int)+1).toNat=4 * k+1:=by omega
   have n2:(4 * (k:Int)+2).toNat=4 * k+2:=by omega
   have n3:(4 * (k:Int)+3).toNat=4 * k+3:=by omega
   have p0:0≤4 * (k:Int):=by omega
   have p1:0≤4 * (k:Int)+1:=by omega
   have p2:0≤4 * (k:Int)+2:=by omega
   have p3:0≤4 * (k:Int)+3:=by omega
   have q0:4 * (k:Int) < 64:=by omega
   have q1:4 * (k:Int)+1 < 64:=by omega
   have q2:4 * (k:Int)+2 < 64:=by omega
   have q3:4 * (k:Int)+3 < 64:=by omega
   have q64:(k:Int) < 64:=by omega
   have HW:=Lib.hid (aBq _ _ _ _ (hf (4 * k)) (hf (4 * k+1)) (hf (4 * k+2)) (hf (4 * k+3)))
   have HA:=Lib.hid (ak5 f k hlt)
   clear hc
   repeat' (first | go_skip | go_guarded | go_step | go_upon)
   go_still_tail 35,(by kernel_rfl)
   change wpList _ _ _ _ _ wr.drew
   generalize wr.drew=w2 at *
   clear c0 c1 c2 c3 h0 h1 hB
   repeat' (first | go_skip | go_guarded | go_step | go_upon)
   rw [HW.out]
   go_roundw
   case rel =>
    refine ⟨k+1,by omega,by go_num,?_,?_,hB'.setCell (by simp) _⟩
    ·rw [heap_setCell_other _ _ _ _ (by simp)];exact h0'
    ·rw [heap_setCell_same _ _ _ _ _ _ h1']
     have:=HA.out
     rw [if_pos h16] at this
     rw [← this];rfl
   case measure=>simp [intOf];omega
  ·have h1':wr.heap[w.heap.size+1]? = some (.cells (arr f 16) 182 (0,0)):=by rw [h1,show k=16 by omega]
   clear h1
   repeat' (first | go_skip | go_guarded | go_step | go_upon)
   obtain ⟨wo,rfl⟩ : ∃ wo:World,wo=wr:=⟨_,rfl⟩
   go_loopw [5] (fun i wr => ∃ k:Nat,16≤k∧k≤64∧i=.int .i64 k∧wr.heap[w.heap.size]? = some (.cells (arr f 0) 182 (0,0))∧wr.heap[w.heap.size+1]? = some (.cells (arr f k) 182 (0,0))∧Below w.heap.size w wr)
    (fun i _=>(64 - intOf i).toNat)
   case atStart=>exact ⟨16,by omega,by omega,rfl,h0,h1',hB⟩
   case round =>
    clear h0 h1' hB
    obtain ⟨k,h16,hk,rfl,h0,h1,hB⟩:=hrel
    by_cases hlt:k < 64
    ·have hl:=Sha.a4u f k
     have c15:wr.cell? ⟨w.heap.size+1,k - 15,none⟩=some (B32 ((Sha.sch f k).getD (k - 15) 0)):=(cell_of_row wr _ _ _ _ _ h1).trans (a6f f k _ (by omega) (by omega))
     have c2:wr.cell? ⟨w.heap.size+1,k - 2,none⟩=some (B32 ((Sha.sch f k).getD (k - 2) 0)):=(cell_of_row wr _ _ _ _ _ h1).trans (a6f f k _ (by omega) (by omega))
     have c16:wr.cell? ⟨w.heap.size+1,k - 16,none⟩=some (B32 ((Sha.sch f k).getD (k - 16) 0)):=(cell_of_row wr _ _ _ _ _ h1).trans (a6f f k _ (by omega) (by omega))
     have c7:wr.cell? ⟨w.heap.size+1,k - 7,none⟩=some (B32 ((Sha.sch f k).getD (k - 7) 0)):=(cell_of_row wr _ _ _ _ _ h1).trans (a6f f k _ (by omega) (by omega))
     have cst:wr.cell? ⟨w.heap.size+1,k,none⟩=some (B32 ((Sha.sch f k).getD k 0)):=(cell_of_row wr _ _ _ _ _ h1).trans (a6f f k k (by omega) hlt)
     have cfz:wr.frozen? ⟨w.heap.size+1,k,none⟩=false:=frozen_of_row wr _ _ _ _ h1
     have l15:=aae f hf k (k - 15)
     have l2:=aae f hf k (k - 2)
     have l16:=aae f hf k (k - 16)
     have l7:=aae f hf k (k - 7)
     have HN:=Lib.hid (show Sha.next (Sha.sch f k)=((Sha.sch f k).getD (k - 16) 0+Sha.aCt ((Sha.sch f k).getD (k - 15) 0)+(Sha.sch f k).getD (k - 7) 0+Sha.aCs ((Sha.sch f k).getD (k - 2) 0)) % 4294967296 by unfold Sha.next;rw [hl])
     have HA:=Lib.hid (ak5 f k hlt)
     generalize (Sha.sch f k).getD (k - 15) 0=x15 at *
     generalize (Sha.sch f k).getD (k - 2) 0=x2 at *
     generalize (Sha.sch f k).getD (k - 16) 0=x16 at *
     generalize (Sha.sch f k).getD (k - 7) 0=x7 at *
     have e15:IntKind.i64.wrap ((k:Int) - 15)=(k:Int) - 15:=IntWalk.i64_in _ (by omega)
     have e2:IntKind.i64.wrap ((k:Int) - 2)=(k:Int) - 2:=IntWalk.i64_in _ (by omega)
     have e16:IntKind.i64.wrap ((k:Int) - 16)=(k:Int) - 16:=IntWalk.i64_in _ (by omega)
     have e7:IntKind.i64.wrap ((k:Int) - 7)=(k:Int) - 7:=IntWalk.i64_in _ (by omega)
     have n15:((k:Int) - 15).toNat=k - 15:=by omega
     have n2:((k:Int) - 2).toNat=k - 2:=by omega
     have n16:((k:Int) - 16).toNat=k - 16:=by omega
     have n7:((k:Int) - 7).toNat=k - 7:=by omega
     have p15:0≤(k:Int) - 15:=by omega
     have p2:0≤(k:Int) - 2:=by omega
     have p16:0≤(k:Int) - 16:=by omega
     have p7:0≤(k:Int) - 7:=by omega
     have r7:7≤(k:Int):=by omega
     have r15:15≤(k:Int):=by omega
     have r16:16≤(k:Int):=by omega
     have r2:2≤(k:Int):=by omega
     have q15:(k:Int) - 15 < 64:=by omega
     have q2:(k:Int) - 2 < 64:=by omega
     have q16:(k:Int) - 16 < 64:=by omega
     have q7:(k:Int) - 7 < 64:=by omega
     clear hc
     repeat' (first | go_skip | go_guarded | go_step | go_upon)
     go_quiet (fail)
     have d16:(wr.drewN nq).cell? ⟨w.heap.size+1,k - 16,none⟩=some (B32 x16):=c16
     have d7:(wr.drewN nq).cell? ⟨w.heap.size+1,k - 7,none⟩=some (B32 x7):=c7
     have dst:(wr.drewN nq).cell? ⟨w.heap.size+1,k,none⟩=some (B32 ((Sha.sch f k).getD k 0)):=cst
     have dfz:(wr.drewN nq).frozen? ⟨w.heap.size+1,k,none⟩=false:=cfz
     have g0:(wr.drewN nq).heap[w.heap.size]? = some (.cells (arr f 0) 182 (0,0)):=h0
     have g1:(wr.drewN nq).heap[w.heap.size+1]? = some (.cells (arr f k) 182 (0,0)):=h1
     have gB:Below w.heap.size w (wr.drewN nq):=⟨hB.os,hB.tape,hB.output,hB.size,hB.block⟩
     clear c15 c2 c16 c7 cst cfz h0 h1 hB
     generalize wr.drewN nq=w1 at *
     repeat' (first | go_skip | go_guarded | go_step | go_upon)
     (refine aa6 29 (by kernel_rfl) (by kernel_rfl) ?_;simp only [List.take_succ_cons,List.take_zero,List.drop_succ_cons,List.drop_zero];(repeat (quiet_step ((go_at_call 139;(first | (with_reducible exact Calls.quiet_of (a7l x15 7 7 rfl l15 (by decide) (by decide) _)) | (with_reducible exact Calls.quiet_of (a7l x15 18 18 rfl l15 (by decide) (by decide) _)) | (with_reducible exact Calls.quiet_of (a7l x2 17 17 rfl l2 (by decide) (by decide) _)) | (with_reducible exact Calls.quiet_of (a7l x2 19 19 rfl l2 (by decide) (by decide) _)))))));refine wpQuiet_nil ?_;intro _ hw';obtain ⟨nq,hw''⟩:=hw';subst hw'')
     change wpList _ _ _ _ _ (w1.drewN nq)
     rw [aqb _ l15,aqa _ l2]
     have hs0:=aie _ _ _ (a1s x15 7 l15) (a1s x15 18 l15) (ah5 x15 3 l15)
     have hs1:=aie _ _ _ (a1s x2 17 l2) (a1s x2 19 l2) (ah5 x2 10 l2)
     change Sha.aCt x15 < _ at hs0
     change Sha.aCs x2 < _ at hs1
     generalize Sha.aCt x15=y15 at *
     generalize Sha.aCs x2=y2 at *
     have dst:(w1.drewN nq).cell? ⟨w.heap.size+1,k,none⟩=some (B32 ((Sha.sch f k).getD k 0)):=dst
     have dfz:(w1.drewN nq).frozen? ⟨w.heap.size+1,k,none⟩=false:=dfz
     have g0:(w1.drewN nq).heap[w.heap.size]? = some (.cells (arr f 0) 182 (0,0)):=g0
     have g1:(w1.drewN nq).heap[w.heap.size+1]? = some (.cells (arr f k) 182 (0,0)):=g1
     have gB:Below w.heap.size w (w1.drewN nq):=⟨gB.os,gB.tape,gB.output,gB.size,gB.block⟩
     clear d16 d7
     generalize w1.drewN nq=w2 at *
     repeat' (first | go_skip | go_guarded | go_step | go_upon)
     go_roundw
     case rel =>
      have hv:((x16:Int)+y15+x7+y2) % 4294967296=((Sha.next (Sha.sch f k):Nat):Int):=by rw [HN.out];omega
      refine ⟨k+1,by omega,by omega,by go_num,?_,?_,gB.setCell (by simp) _⟩
      ·rw [heap_setCell_other _ _ _ _ (by simp)];exact g0
      ·rw [heap_setCell_same _ _ _ _ _ _ g1,hv]
       have:=HA.out
       rw [if_neg (by omega)] at this
       rw [← this]
     case measure=>simp [intOf];omega
    ·have h1':wr.heap[w.heap.size+1]? = some (.cells (arr f 64) 182 (0,0)):=by rw [h1,show k=64 by omega]
     clear hc h1
     repeat' (first | ((with_reducible refine wpList_load_row (o:=⟨some 89,_,_,_,_,_⟩) ?_ 182 (.tmp 3) ?_ (w.heap.size+1) ?_ _ _ _ _ h1' Tryz.underlying182 ?_ aia ?_);rfl;rfl;rfl;rfl) | ((with_reducible refine wpList_store_row (o:=⟨none,.store 182 (.tmp 2) (.tmp 89),_,_,_,_⟩) ?_ 182 (.tmp 2) (.tmp 89) ?_ (w.heap.size) (arr f 64) ?_ ?_ _ _ h0 aia aMn apq ?_);rfl;rfl;rfl;rfl) | go_skip | go_guarded | go_step | go_upon)
     refine bodyPost_ret (results_cell_row rfl _ _ w.heap.size 182 (arr f 64) _ _ rfl (setRow_heap _ _ _ _ _ _ h0) Tryz.underlying182 rfl aia) rfl ?_
     exact ⟨by rw [aef],below_setRow hB (Nat.le_refl _) _⟩
end Go.Proofs.YtopgdlblfieljaaGreatDoor
