/-
  A range over a function, whose body goes through every round: a law for the caller, and the form of an iterator's contract. The caller's invariant speaks of blocks below the loop's start alone; a round keeps all blocks but some of those.
-/
import Derived.Test.YtppjleebbjipbaaGreatQkRow
import Derived.RangeFuncNested
import Derived.RangeFuncBound
import Derived.RangeFuncCalls
import Derived.RangeFuncLeaves
import Derived.Shelf.Abstract
set_option linter.all false
namespace Go.Proofs.YtppjleebbjipbaaGreat
open Go.RowKit
def a0o (R:Nat→Prop) (A B:World):Prop:=A.heap.size≤B.heap.size∧∀ k,k < A.heap.size→¬ R k→B.heap[k]? = A.heap[k]?
theorem a0o.refl (R:Nat→Prop) (A:World):a0o R A A:=⟨zD _,fun _ _ _=>rfl⟩
theorem a0o.trans {R:Nat→Prop} {A B C:World} (h:a0o R A B) (k:a0o R B C):a0o R A C :=
 ⟨yG h.1 k.1,fun i hi hr=>(k.2 i (xP hi h.1) hr).trans (h.2 i hi hr)⟩
theorem a0o.mono {R R':Nat→Prop} {A B:World} (h:a0o R A B) (hr:∀ k,R k→R' k):a0o R' A B:=⟨h.1,fun i hi hn=>h.2 i hi fun hk=>hn (hr i hk)⟩
theorem a0o.putObj {R:Nat→Prop} (A:World) (l:Nat) (o:Obj) (hl:R l):a0o R A (A.putObj l o) :=
 ⟨by simp [World.putObj],fun k _ hr=>World.putObj_heap_other (fun e=>hr (e ▸ hl))⟩
end Go.Proofs.YtppjleebbjipbaaGreat
namespace Go.Proofs.YtppjleebbjipbaaGreat
open Go.RowKit
def anc {α:Type} (n:Nat) (P:Program) (gf:Nat) (lb:Array Value) (V:α→Array Value→World→Prop) (dep:Nat→Prop) (nx:Nat→Option α) (bound:Nat) (w:World):Prop :=
 ∀ (l:Nat) (R:Nat→Prop) (J:Nat→World→Prop) (Z:World→Prop) (W:World),Below w w W→(∀ k,R k→k < W.heap.size∧¬ dep k) →
  (∀ i A B,Below W.heap.size A B→J i A→J i B)→(∀ i W1,J i W1→i≤bound) →
  (∀ i x v W1,J i W1→nx i=some x→V x v W1→YieldAt Fence.wide (n - 1) P l v W1 fun e W'=>a0o R W1 W'∧(e=.returned (.bool true)∧J (i+1) W'∨e=.returned (.bool false)∧Z W')) →
  J 0 W→CallsIn Fence.wide n P gf (#[.func (.yield l) #[] #[]]++lb) W fun e W'=>(∃ v,e=.returned v)∧((∃ i,nx i=none∧J i W')∨Z W')
def roundUp (R:Nat→Prop) (I:World→Prop) (Ix:Code→World→Prop) (W:World):Exit→Act→World→Prop
 | .normal,_,W'=>a0o R W W'∧I W'
 | .ret,_,W'=>a0o R W W'∧Ix .ret W'
 | .exit id,_,W'=>a0o R W W'∧Ix (.exit id) W'
 | _,_,_=>False
theorem a5h {α:Type} {n:Nat} {P:Program} {g:Operand} {ps:Array Tmp} {assign body:Code} {Q:Exit→Act→World→Prop} {a:Act} {w:World}
  {gf:Nat} {lb:Array Value} (hg:a.eval g=.func (.func gf) #[] lb) (eg:∀ args w,(callFunc gf args).run P w=.ok (.enter gf args) w)
  {V:α→Array Value→World→Prop} {dep:Nat→Prop} {nx:Nat→Option α} {bound:Nat} (hseq:anc (n - 1) P gf lb V dep nx bound w)
  (hps:∀ x v W,V x v W→v.size=ps.size) (aaj:∀ k,dep k→k < w.heap.size) (R:Nat→Prop) (hR:∀ k,R k→k < w.heap.size∧¬ dep k)
  (I:Nat→World→Prop) (Ix:Code→World→Prop) (hI:∀ i A B,Below w.heap.size A B→I i A→I i B) (hIx:∀ c A B,Below w.heap.size A B→Ix c A→Ix c B) (hbd:∀ i W,I i W→i≤bound) (h0:I 0 w)
  (aai:∀ (l:Nat) (i:Nat) (x:α) (v:Array Value) (W:World),I i W→nx i=some x→V x v W→w.heap.size+2≤W.heap.size→l=w.heap.size+1→(∀ ad:Addr,ad.block=l→W.cell? ad=none) →
   assign.wpIn (Fence.wide.inRound l) (n - 1 - 1) P (Exit.then (fun a₁ W₁=>Below W W W₁∧∀ W2,Below w.heap.size W₁ W2→(∀ k,k < W₁.heap.size→k≠l→W2.heap[k]? = W₁.heap[k]?)→W2.heap.size=W₁.heap.size →
     body.wpIn (Fence.wide.inRound l) (n - 1 - 1) P (roundUp R (I (i+1)) Ix W2) a₁ W2) (fun _ _ _=>False))
    { tmps:=(ps.zip v).foldl (fun t (p,v)=>t.setIfInBounds p v) a.tmps,defers:=[] } W)
  (hdone:∀ (D:Nat) (i:Nat) (W:World),nx i=none→I i W→w.heap.size≤D→W.heap[D]? = some (.deferred (some []))→Q .normal { a with defers:={ target:=.collected D,args:=#[] } :: a.defers } W)
  (hstop:∀ (D:Nat) (c:Code) (W:World),Ix c W→w.heap.size≤D→W.heap[D]? = some (.deferred (some []))→c.wpIn Fence.wide n P Q { a with defers:={ target:=.collected D,args:=#[] } :: a.defers } W) :
  (Code.rangeFunc g ps assign body).wpIn Fence.wide n P Q a w:=by
 refine wpIn_rangeFunc ?_
 intro fn hfn
 show ∃ (l:Nat) (mark:List Deferred) (w₁:World) (d:Deferred) (w₁':World) (f:FuncId) (args:Array Value) (w₂:World),(Instr.enterLoop fn a.tmps ps assign body none).run P w=.ok (l,mark) w₁∧_
 obtain ⟨rec,hrec⟩ : ∃ rec:LoopState→Option Code→Loop,rec=fun st pe=>{ state:=st,pending:=pe,fn,tmps:=a.tmps,params:=ps,assign,body,defers:=w.heap.size }:=⟨_,rfl⟩
 obtain ⟨W1,hW1⟩ : ∃ W1,(w.alloc (.deferred (some []))).alloc (.loop (rec .ready none))=W1:=⟨_,rfl⟩
 have hz1:W1.heap.size=w.heap.size+2:=by rw [← hW1];simp
 have hL1:W1.heap[w.heap.size+1]? = some (.loop (rec .ready none)):=by
  rw [← hW1];have:=World.alloc_heap_new (w.alloc (.deferred (some []))) (.loop (rec .ready none));rwa [World.size_alloc] at this
 have hK1:W1.heap[w.heap.size]? = some (.deferred (some [])):=by
  rw [← hW1];exact (Below.heap_alloc _ _ _ (by simp)).trans (World.alloc_heap_new w _)
 have hb1:Below w w W1:=by
  rw [← hW1];exact ((zC _ w).alloc (zD _) _).alloc (by simp) _
 have hI1:I 0 W1:=hI _ _ _ hb1 h0
 refine ⟨w.heap.size+1,[{ target:=.collected w.heap.size,args:=#[] }],W1,{ target:=.fn (.func gf) lb,args:=#[.func (.yield (w.heap.size+1)) #[] #[]] },W1,gf,#[.func (.yield (w.heap.size+1)) #[] #[]]++lb,W1,?_,?_,?_,?_,?_,?_⟩
 ·rw [← hW1,hrec];exact run_enterLoop_outer _ _ _ _ _
 ·simp only [resolve,hg]
  simp [go_sem]
 ·intro f' _;trivial
 ·simp [invoke,go_sem,eg]
 ·intro h;cases h
 have hbp:∀ (A:World) (o:Obj),w.heap.size+1 < A.heap.size→Below w.heap.size A (A.putObj (w.heap.size+1) o):=fun A o _=>⟨rfl,rfl,rfl,by simp [World.putObj],fun k hk=>World.putObj_heap_other (by omega)⟩
 refine (hseq (w.heap.size+1) (fun k=>R k∨k=w.heap.size+1)
  (fun i W=>I i W∧W.heap[w.heap.size+1]? = some (.loop (rec .ready none))∧W.heap[w.heap.size]? = some (.deferred (some [])))
  (fun W => ∃ c,Ix c W∧W.heap[w.heap.size+1]? = some (.loop (rec .done (some c)))∧W.heap[w.heap.size]? = some (.deferred (some [])))
  W1 hb1 ?_ ?_ ?_ ?_ ⟨hI1,hL1,hK1⟩).mono ?_
 ·rintro k (hk | rfl)
  ·exact ⟨by have:=(hR k hk).1;omega,(hR k hk).2⟩
  exact ⟨by omega,fun hd=>by have:=aaj _ hd;omega⟩
 ·rintro i A B hAB ⟨hi,hl,hk⟩
  exact ⟨hI i A B (hAB.mono (by omega)) hi,(hAB.block _ (by omega)).trans hl,(hAB.block _ (by omega)).trans hk⟩
 ·rintro i W2 ⟨hi,_⟩
  exact hbd i W2 hi
 ·rintro i x v W ⟨hi,hl,hk⟩ hx hV
  have hlt:w.heap.size+1 < W.heap.size:=(zL.1 hl).1
  have hy:=run_yield (P:=P) (args:=v) hl (by rw [hrec];exact hps x v W hV)
  rw [hrec] at hy
  refine ⟨fn,_,assign,body,hy,roundIn_of_wpIn hfn (wpIn_mono (aai (w.heap.size+1) i x v W hi hx hV (by omega) rfl (fun ad had=>by unfold World.cell?;rw [had,hl])) ?_)⟩
  rintro e a₁ W₁ hp
  cases e with
  | normal =>
   obtain ⟨hB1,hp⟩:=hp;have hl1:W₁.heap[w.heap.size+1]? = some (.loop (rec .ready none)):=(hB1.block _ hlt).trans hl;have hk1:W₁.heap[w.heap.size]? = some (.deferred (some [])):=(hB1.block _ (by omega)).trans hk;have hlt1:=(zL.1 hl1).1;refine ⟨_,run_beginRound hl1 (by rw [hrec]),?_⟩;have hl2:(W₁.putObj (w.heap.size+1) (.loop { rec .ready none with state:=.busy })).heap[w.heap.size+1]? = some (.loop { rec .ready none with state:=.busy }):=World.putObj_heap_same hlt1;have hk2:(W₁.putObj (w.heap.size+1) (.loop { rec .ready none with state:=.busy })).heap[w.heap.size]? = some (.deferred (some [])):=(World.putObj_heap_other (by omega)).trans hk1;refine wpIn_mono (hp _ (hbp _ _ hlt1) (fun k _ hne=>World.putObj_heap_other (by omega)) (by simp [World.putObj])) ?_
   have hnR:∀ k,w.heap.size≤k→¬ R k:=fun k hk hr=>by have:=(hR k hr).1;omega
   have hkB:a0o (fun k=>R k∨k=w.heap.size+1) W W₁:=⟨hB1.size,fun k hk _=>hB1.block k hk⟩
   have fin:∀ (jump:Option Code) (W3:World),a0o R (W₁.putObj (w.heap.size+1) (.loop { rec .ready none with state:=.busy })) W3 →
     (Instr.endRound (w.heap.size+1) jump).run P W3=.ok (.bool jump.isNone) (W3.putObj (w.heap.size+1) (.loop (rec (if jump.isNone then .ready else .done) jump))) ∧
     (W3.putObj (w.heap.size+1) (.loop (rec (if jump.isNone then .ready else .done) jump))).heap[w.heap.size+1]? = some (.loop (rec (if jump.isNone then .ready else .done) jump)) ∧
     (W3.putObj (w.heap.size+1) (.loop (rec (if jump.isNone then .ready else .done) jump))).heap[w.heap.size]? = some (.deferred (some [])) ∧
     a0o (fun k=>R k∨k=w.heap.size+1) W (W3.putObj (w.heap.size+1) (.loop (rec (if jump.isNone then .ready else .done) jump)))∧w.heap.size+1 < W3.heap.size:=fun jump W3 hk3=>by
    have hl3:W3.heap[w.heap.size+1]? = some (.loop { rec .ready none with state:=.busy }):=(hk3.2 _ (by simp [World.putObj];omega) (hnR _ (by omega))).trans hl2;have amx:W3.heap[w.heap.size]? = some (.deferred (some [])):=(hk3.2 _ (by simp [World.putObj];omega) (hnR _ (by omega))).trans hk2;have hlt3:=(zL.1 hl3).1;have hr:=run_endRound (P:=P) jump hl3;rw [hrec] at hr ⊢;exact ⟨hr,World.putObj_heap_same hlt3,(World.putObj_heap_other (by omega)).trans amx,((hkB.trans (a0o.putObj _ _ _ (Or.inr rfl))).trans (hk3.mono fun k h=>Or.inl h)).trans (a0o.putObj _ _ _ (Or.inr rfl)),hlt3⟩
   rintro e2 a2 W3 hp2
   cases e2 with
   | normal =>
    obtain ⟨hk3,hi3⟩:=hp2;obtain ⟨hr,hl4,hk4,hkb,hlt3⟩:=fin none W3 hk3;exact ⟨_,_,hr,hkb,.inl ⟨rfl,hI _ _ _ (hbp _ _ hlt3) hi3,hl4,hk4⟩⟩
   | ret =>
    obtain ⟨hk3,hi3⟩:=hp2;obtain ⟨hr,hl4,hk4,hkb,hlt3⟩:=fin (some .ret) W3 hk3;exact ⟨_,_,hr,hkb,.inr ⟨rfl,.ret,hIx _ _ _ (hbp _ _ hlt3) hi3,hl4,hk4⟩⟩
   | exit id =>
    obtain ⟨hk3,hi3⟩:=hp2;obtain ⟨hr,hl4,hk4,hkb,hlt3⟩:=fin (some (.exit id)) W3 hk3;exact ⟨_,_,hr,hkb,.inr ⟨rfl,.exit id,hIx _ _ _ (hbp _ _ hlt3) hi3,hl4,hk4⟩⟩
   | _=>exact hp2.elim
  | _=>exact hp.elim
 rintro e W2 ⟨⟨v,rfl⟩,(⟨i,hnx,hi,hl,hk⟩ | ⟨c,hi,hl,hk⟩)⟩
 ·have hlt2:=(zL.1 hl).1
  have hr:=run_endLoop (P:=P) hl (by rw [hrec];simp)
  have hp:(rec .ready none).pending=none:=by rw [hrec]
  rw [hp] at hr
  exact ⟨none,_,hr,hdone _ i _ hnx (hI _ _ _ (hbp _ _ hlt2) hi) (zD _) ((World.putObj_heap_other (by omega)).trans hk)⟩
 have hlt2:=(zL.1 hl).1
 have hr:=run_endLoop (P:=P) hl (by rw [hrec];simp)
 have hp:(rec .done (some c)).pending=some c:=by rw [hrec]
 rw [hp] at hr
 exact ⟨some c,_,hr,hstop _ c _ (hIx _ _ _ (hbp _ _ hlt2) hi) (zD _) ((World.putObj_heap_other (by omega)).trans hk)⟩
end Go.Proofs.YtppjleebbjipbaaGreat
