/-
  The same law where the blocks that a round may change are known one by one (S: they were laid in rounds): for an iterator that keeps blocks of its own between two rounds (a range over another iterator, for instance).
-/
import Derived.Test.YtppjleebbjipbaaGreatQkRngX
set_option linter.all false
namespace Go.Proofs.YtppjleebbjipbaaGreat
open Go.RowKit
structure a6d (m:Nat) (own S:Nat→Prop) (w w':World):Prop where
 os:w'.os=w.os
 tape:w'.tape=w.tape
 output:w'.output=w.output
 size:w.heap.size≤w'.heap.size
 block:∀ k,k < w.heap.size→(k < m∧¬ own k)∨S k→w'.heap[k]? = w.heap[k]?
theorem a6d.mono {m m':Nat} {own own' S:Nat→Prop} {w w':World} (h:a6d m own S w w') (h2:∀ k,(k < m'∧¬ own' k)→k < m∧¬ own k):a6d m' own' S w w':=⟨h.os,h.tape,h.output,h.size,fun k hk hn=>h.block k hk (hn.imp (h2 k) id)⟩
theorem a6d.of {m B:Nat} {own S:Nat→Prop} {w w':World} (h:Below B w w') (hB:∀ k,k < w.heap.size→(k < m∧¬ own k)∨S k→k < B):a6d m own S w w':=⟨h.os,h.tape,h.output,h.size,fun k hk hn=>h.block k (hB k hk hn)⟩
theorem a6d.ofX {m B:Nat} {own S T:Nat→Prop} {w w':World} (h:a1x B T w w') (hB:∀ k,k < w.heap.size→(k < m∧¬ own k)∨S k→k < B∧¬ T k):a6d m own S w w':=⟨h.os,h.tape,h.output,h.size,fun k hk hn=>h.block k (hB k hk hn).1 (hB k hk hn).2⟩
theorem a6d.trans {m:Nat} {own S:Nat→Prop} {a b c:World} (h1:a6d m own S a b) (h2:a6d m own S b c):a6d m own S a c:=⟨h2.os.trans h1.os,h2.tape.trans h1.tape,h2.output.trans h1.output,yG h1.size h2.size,fun k hk hn=>(h2.block k (xP hk h1.size) hn).trans (h1.block k hk hn)⟩
theorem a6d.obj {m:Nat} {own S:Nat→Prop} {a b:World} (h:a6d m own S a b) {k:Nat} {o:Obj} (ho:obj a k=some o) (hk:(k < m∧¬ own k)∨S k):obj b k=some o:=(h.block k (zL.1 ho).1 hk).trans ho
theorem a6d.put {m:Nat} {own S:Nat→Prop} {w:World} {g:Nat} {o:Obj} (hg : ¬ ((g < m∧¬ own g)∨S g)):a6d m own S w (w.putObj g o):=⟨rfl,rfl,rfl,by simp [World.putObj],fun k _ hn=>World.putObj_heap_other (fun e=>hg (by rw [← e];exact hn))⟩
def Grown (S S':Nat→Prop) (W W':World):Prop:=∀ k,S' k→S k∨(W.heap.size≤k∧k < W'.heap.size)
def SeqY {α:Type} (n:Nat) (P:Program) (gf:Nat) (lb:Array Value) (V:α→Array Value→World→Prop) (own dep:Nat→Prop) (nx:Nat→Option α) (bound:Nat) (w:World):Prop :=
 ∀ (l:Nat) (R:Nat→Prop) (J:(Nat→Prop)→Nat→World→Prop) (Z:(Nat→Prop)→World→Prop) (W:World),Below w w W→(∀ k,R k→k < W.heap.size∧¬ dep k) →
  (∀ S i A B,W.heap.size≤A.heap.size→a6d W.heap.size own S A B→J S i A→J S i B)→(∀ S A B,W.heap.size≤A.heap.size→a6d W.heap.size own S A B→Z S A→Z S B)→(∀ S i W1,J S i W1→i≤bound) →
  (∀ S i x v W1,J S i W1→nx i=some x→V x v W1→W.heap.size≤W1.heap.size→(∀ k,S k→W.heap.size≤k∧k < W1.heap.size)→YieldAt Fence.wide (n - 1) P l v W1 fun e W' => ∃ S',Grown S S' W1 W'∧a0o (fun k=>R k∨S k) W1 W'∧(e=.returned (.bool true)∧J S' (i+1) W'∨e=.returned (.bool false)∧Z S' W')) →
  J (fun _=>False) 0 W→CallsIn Fence.wide n P gf (#[.func (.yield l) #[] #[]]++lb) W fun e W'=>(∃ v,e=.returned v)∧∃ S,(∀ k,S k→W.heap.size≤k∧k < W'.heap.size)∧((∃ i,nx i=none∧J S i W')∨Z S W')
def ao8 (R S:Nat→Prop) (I:(Nat→Prop)→World→Prop) (Ix:(Nat→Prop)→Code→World→Prop) (W0 W:World):Exit→Act→World→Prop
 | .normal,_,W' => ∃ S',Grown S S' W0 W'∧a0o (fun k=>R k∨S k∨W0.heap.size≤k) W W'∧I S' W'
 | .ret,_,W' => ∃ S',Grown S S' W0 W'∧a0o (fun k=>R k∨S k∨W0.heap.size≤k) W W'∧Ix S' .ret W'
 | .exit id,_,W' => ∃ S',Grown S S' W0 W'∧a0o (fun k=>R k∨S k∨W0.heap.size≤k) W W'∧Ix S' (.exit id) W'
 | _,_,_=>False
theorem a7q {α:Type} {n:Nat} {P:Program} {g:Operand} {ps:Array Tmp} {assign body:Code} {Q:Exit→Act→World→Prop} {a:Act} {w:World}
  {gf:Nat} {lb:Array Value} (hg:a.eval g=.func (.func gf) #[] lb) (eg:∀ args w,(callFunc gf args).run P w=.ok (.enter gf args) w)
  {V:α→Array Value→World→Prop} {own dep:Nat→Prop} {nx:Nat→Option α} {bound:Nat} (hseq:SeqY (n - 1) P gf lb V own dep nx bound w) (hown:∀ k,own k→k < w.heap.size)
  (hps:∀ x v W,V x v W→v.size=ps.size) (aaj:∀ k,dep k→k < w.heap.size) (R:Nat→Prop) (hR:∀ k,R k→k < w.heap.size∧¬ dep k)
  (I:(Nat→Prop)→Nat→World→Prop) (Ix:(Nat→Prop)→Code→World→Prop) (hI:∀ S i A B,w.heap.size≤A.heap.size→a6d w.heap.size own S A B→I S i A→I S i B) (hIx:∀ S c A B,w.heap.size≤A.heap.size→a6d w.heap.size own S A B→Ix S c A→Ix S c B) (hbd:∀ S i W,I S i W→i≤bound) (h0:I (fun _=>False) 0 w)
  (aai:∀ (l:Nat) (S:Nat→Prop) (i:Nat) (x:α) (v:Array Value) (W:World),I S i W→nx i=some x→V x v W→w.heap.size+2≤W.heap.size→(∀ k,S k→w.heap.size+2≤k∧k < W.heap.size)→l=w.heap.size+1→(∀ ad:Addr,ad.block=l→W.cell? ad=none) →
   assign.wpIn (Fence.wide.inRound l) (n - 1 - 1) P (Exit.then (fun a₁ W₁=>Below W W W₁∧∀ W2,Below w.heap.size W₁ W2→(∀ k,k < W₁.heap.size→k≠l→W2.heap[k]? = W₁.heap[k]?)→W2.heap.size=W₁.heap.size →
     body.wpIn (Fence.wide.inRound l) (n - 1 - 1) P (ao8 R S (fun S'=>I S' (i+1)) Ix W W2) a₁ W2) (fun _ _ _=>False))
    { tmps:=(ps.zip v).foldl (fun t (p,v)=>t.setIfInBounds p v) a.tmps,defers:=[] } W)
  (hdone:∀ (D:Nat) (S:Nat→Prop) (i:Nat) (W:World),nx i=none→I S i W→D=w.heap.size→W.heap[D]? = some (.deferred (some []))→Q .normal { a with defers:={ target:=.collected D,args:=#[] } :: a.defers } W)
  (hstop:∀ (D:Nat) (S:Nat→Prop) (c:Code) (W:World),Ix S c W→D=w.heap.size→W.heap[D]? = some (.deferred (some []))→c.wpIn Fence.wide n P Q { a with defers:={ target:=.collected D,args:=#[] } :: a.defers } W) :
  (Code.rangeFunc g ps assign body).wpIn Fence.wide n P Q a w:=by
 refine wpIn_rangeFunc ?_
 intro fn hfn
 show ∃ (l:Nat) (mark:List Deferred) (w₁:World) (d:Deferred) (w₁':World) (f:FuncId) (args:Array Value) (w₂:World),(Instr.enterLoop fn a.tmps ps assign body none).run P w=.ok (l,mark) w₁∧_
 obtain ⟨rec,hrec⟩ : ∃ rec:LoopState→Option Code→Loop,rec=fun st pe=>{ state:=st,pending:=pe,fn,tmps:=a.tmps,params:=ps,assign,body,defers:=w.heap.size }:=⟨_,rfl⟩
 obtain ⟨W1,hW1⟩ : ∃ W1,(w.alloc (.deferred (some []))).alloc (.loop (rec .ready none))=W1:=⟨_,rfl⟩
 have hz1:W1.heap.size=w.heap.size+2:=by rw [← hW1];simp
 have hL1:W1.heap[w.heap.size+1]? = some (.loop (rec .ready none)):=by
  rw [← hW1];have:=World.alloc_heap_new (w.alloc (.deferred (some []))) (.loop (rec .ready none));rwa [World.size_alloc] at this
 have hK1:W1.heap[w.heap.size]? = some (.deferred (some [])):=by
  rw [← hW1];exact (Below.heap_alloc _ _ _ (by simp)).trans (World.alloc_heap_new w _)
 have hb1:Below w w W1:=by
  rw [← hW1];exact ((zC _ w).alloc (zD _) _).alloc (by simp) _
 have hI1:I (fun _=>False) 0 W1:=hI _ _ _ _ (zD _) (a6d.of hb1 (fun k hk h=>h.elim (fun h=>h.1) (fun h=>h.elim))) h0
 refine ⟨w.heap.size+1,[{ target:=.collected w.heap.size,args:=#[] }],W1,{ target:=.fn (.func gf) lb,args:=#[.func (.yield (w.heap.size+1)) #[] #[]] },W1,gf,#[.func (.yield (w.heap.size+1)) #[] #[]]++lb,W1,?_,?_,?_,?_,?_,?_⟩
 ·rw [← hW1,hrec];exact run_enterLoop_outer _ _ _ _ _
 ·simp only [resolve,hg]
  simp [go_sem]
 ·intro f' _;trivial
 ·simp [invoke,go_sem,eg]
 ·intro h;cases h
 have hbp:∀ (A:World) (o:Obj),w.heap.size+1 < A.heap.size→Below w.heap.size A (A.putObj (w.heap.size+1) o):=fun A o _=>⟨rfl,rfl,rfl,by simp [World.putObj],fun k hk=>World.putObj_heap_other (by omega)⟩
 have hsp:∀ (A:World) (o:Obj) (S:Nat→Prop),(∀ k,S k→w.heap.size+2≤k)→a6d w.heap.size own S A (A.putObj (w.heap.size+1) o):=fun A o S hS=>a6d.put (fun h=>h.elim (fun h=>by omega) (fun h=>by have:=hS _ h;omega))
 have hdn:∀ {m:Nat} {S:Nat→Prop} {A B:World},w.heap.size≤m→a6d m own S A B→a6d w.heap.size own S A B:=fun hm h=>h.mono (fun k hk=>⟨by omega,hk.2⟩)
 have gsz:∀ {S S':Nat→Prop} {A B:World},(∀ k,S k→w.heap.size+2≤k∧k < A.heap.size)→w.heap.size+2≤A.heap.size→A.heap.size≤B.heap.size→Grown S S' A B→∀ k,S' k→w.heap.size+2≤k∧k < B.heap.size:=fun h1 h2 h3 h4 k hk=>by
  rcases h4 k hk with h | h
  ·have:=h1 k h;omega
  ·omega
 refine (hseq (w.heap.size+1) (fun k=>R k∨k=w.heap.size+1)
  (fun S i W=>I S i W∧W.heap[w.heap.size+1]? = some (.loop (rec .ready none))∧W.heap[w.heap.size]? = some (.deferred (some [])))
  (fun S W => ∃ c,Ix S c W∧W.heap[w.heap.size+1]? = some (.loop (rec .done (some c)))∧W.heap[w.heap.size]? = some (.deferred (some [])))
  W1 hb1 ?_ ?_ ?_ ?_ ?_ ⟨hI1,hL1,hK1⟩).mono ?_
 ·rintro k (hk | rfl)
  ·exact ⟨by have:=(hR k hk).1;omega,(hR k hk).2⟩
  exact ⟨by omega,fun hd=>by have:=aaj _ hd;omega⟩
 ·rintro S i A B hz hAB ⟨hi,hl,hk⟩
  exact ⟨hI S i A B (by omega) (hdn (by omega) hAB) hi,(hAB.block _ (by omega) (.inl ⟨by omega,fun q=>by have:=hown _ q;omega⟩)).trans hl,(hAB.block _ (by omega) (.inl ⟨by omega,fun q=>by have:=hown _ q;omega⟩)).trans hk⟩
 ·rintro S A B hz hAB ⟨c,hi,hl,hk⟩
  exact ⟨c,hIx S c A B (by omega) (hdn (by omega) hAB) hi,(hAB.block _ (by omega) (.inl ⟨by omega,fun q=>by have:=hown _ q;omega⟩)).trans hl,(hAB.block _ (by omega) (.inl ⟨by omega,fun q=>by have:=hown _ q;omega⟩)).trans hk⟩
 ·rintro S i W2 ⟨hi,_⟩
  exact hbd S i W2 hi
 ·rintro S i x v W ⟨hi,hl,hk⟩ hx hV hWz hS0
  rw [hz1] at hWz
  have hS:∀ k,S k→w.heap.size+2≤k∧k < W.heap.size:=fun k hk=>by have:=hS0 k hk;omega
  have hlt:w.heap.size+1 < W.heap.size:=(zL.1 hl).1
  have hy:=run_yield (P:=P) (args:=v) hl (by rw [hrec];exact hps x v W hV)
  rw [hrec] at hy
  refine ⟨fn,_,assign,body,hy,roundIn_of_wpIn hfn (wpIn_mono (aai (w.heap.size+1) S i x v W hi hx hV (by omega) hS rfl (fun ad had=>by unfold World.cell?;rw [had,hl])) ?_)⟩
  rintro e a₁ W₁ hp
  cases e with
  | normal =>
   obtain ⟨hB1,hp⟩:=hp;have hl1:W₁.heap[w.heap.size+1]? = some (.loop (rec .ready none)):=(hB1.block _ hlt).trans hl;have hk1:W₁.heap[w.heap.size]? = some (.deferred (some [])):=(hB1.block _ (by omega)).trans hk;have hlt1:=(zL.1 hl1).1;refine ⟨_,run_beginRound hl1 (by rw [hrec]),?_⟩;have hl2:(W₁.putObj (w.heap.size+1) (.loop { rec .ready none with state:=.busy })).heap[w.heap.size+1]? = some (.loop { rec .ready none with state:=.busy }):=World.putObj_heap_same hlt1;have hk2:(W₁.putObj (w.heap.size+1) (.loop { rec .ready none with state:=.busy })).heap[w.heap.size]? = some (.deferred (some [])):=(World.putObj_heap_other (by omega)).trans hk1;refine wpIn_mono (hp _ (hbp _ _ hlt1) (fun k _ hne=>World.putObj_heap_other (by omega)) (by simp [World.putObj])) ?_
   have hnR:∀ k,w.heap.size≤k→k < w.heap.size+2→¬ (R k∨S k∨W.heap.size≤k):=fun k hk h2 hr=>by
    rcases hr with hr | hr | hr
    ·have:=(hR k hr).1;omega
    ·have:=hS k hr;omega
    ·omega
   have hB1z:=hB1.size
   have hkB:a0o (fun k=>(R k∨k=w.heap.size+1)∨S k) W W₁:=⟨hB1.size,fun k hk _=>hB1.block k hk⟩
   have fin:∀ (jump:Option Code) (S':Nat→Prop) (W3:World),Grown S S' W W3→a0o (fun k=>R k∨S k∨W.heap.size≤k) (W₁.putObj (w.heap.size+1) (.loop { rec .ready none with state:=.busy })) W3 →
     (Instr.endRound (w.heap.size+1) jump).run P W3=.ok (.bool jump.isNone) (W3.putObj (w.heap.size+1) (.loop (rec (if jump.isNone then .ready else .done) jump))) ∧
     (W3.putObj (w.heap.size+1) (.loop (rec (if jump.isNone then .ready else .done) jump))).heap[w.heap.size+1]? = some (.loop (rec (if jump.isNone then .ready else .done) jump)) ∧
     (W3.putObj (w.heap.size+1) (.loop (rec (if jump.isNone then .ready else .done) jump))).heap[w.heap.size]? = some (.deferred (some [])) ∧
     a0o (fun k=>(R k∨k=w.heap.size+1)∨S k) W (W3.putObj (w.heap.size+1) (.loop (rec (if jump.isNone then .ready else .done) jump)))∧w.heap.size+1 < W3.heap.size∧(∀ k,S' k→w.heap.size+2≤k∧k < W3.heap.size) ∧
     Grown S S' W (W3.putObj (w.heap.size+1) (.loop (rec (if jump.isNone then .ready else .done) jump))):=fun jump S' W3 hg3 hk3=>by
    have hl3:W3.heap[w.heap.size+1]? = some (.loop { rec .ready none with state:=.busy }):=(hk3.2 _ (by simp [World.putObj];omega) (hnR _ (by omega) (by omega))).trans hl2;have amx:W3.heap[w.heap.size]? = some (.deferred (some [])):=(hk3.2 _ (by simp [World.putObj];omega) (hnR _ (by omega) (by omega))).trans hk2;have hlt3:=(zL.1 hl3).1;have hr:=run_endRound (P:=P) jump hl3;rw [hrec] at hr ⊢;(have hz3:W.heap.size≤W3.heap.size:=by have:=hk3.1;simp [World.putObj] at this;omega);refine ⟨hr,World.putObj_heap_same hlt3,(World.putObj_heap_other (by omega)).trans amx,⟨by simp [World.putObj];omega,fun k hkk hnn=>?_⟩,hlt3,gsz hS (by omega) hz3 hg3,fun k hk'=>(hg3 k hk').imp id fun h=>⟨h.1,by simpa [World.putObj] using h.2⟩⟩
    have n1:k≠w.heap.size+1:=fun e=>hnn (.inl (.inr e))
    refine (World.putObj_heap_other n1).trans ((hk3.2 k (by simp [World.putObj];omega) fun h=>?_).trans ((World.putObj_heap_other n1).trans (hB1.block k hkk)))
    rcases h with h | h | h
    ·exact hnn (.inl (.inl h))
    ·exact hnn (.inr h)
    ·omega
   rintro e2 a2 W3 hp2
   cases e2 with
   | normal =>
    obtain ⟨S',hg3,hk3,hi3⟩:=hp2;obtain ⟨hr,hl4,hk4,hkb,hlt3,hs3,hg4⟩:=fin none S' W3 hg3 hk3;exact ⟨_,_,hr,S',hg4,hkb,.inl ⟨rfl,hI _ _ _ _ (by omega) (hsp _ _ _ (fun k h=>(hs3 k h).1)) hi3,hl4,hk4⟩⟩
   | ret =>
    obtain ⟨S',hg3,hk3,hi3⟩:=hp2;obtain ⟨hr,hl4,hk4,hkb,hlt3,hs3,hg4⟩:=fin (some .ret) S' W3 hg3 hk3;exact ⟨_,_,hr,S',hg4,hkb,.inr ⟨rfl,.ret,hIx _ _ _ _ (by omega) (hsp _ _ _ (fun k h=>(hs3 k h).1)) hi3,hl4,hk4⟩⟩
   | exit id =>
    obtain ⟨S',hg3,hk3,hi3⟩:=hp2;obtain ⟨hr,hl4,hk4,hkb,hlt3,hs3,hg4⟩:=fin (some (.exit id)) S' W3 hg3 hk3;exact ⟨_,_,hr,S',hg4,hkb,.inr ⟨rfl,.exit id,hIx _ _ _ _ (by omega) (hsp _ _ _ (fun k h=>(hs3 k h).1)) hi3,hl4,hk4⟩⟩
   | _=>exact hp2.elim
  | _=>exact hp.elim
 rintro e W2 ⟨⟨v,rfl⟩,S,hS0,(⟨i,hnx,hi,hl,hk⟩ | ⟨c,hi,hl,hk⟩)⟩
 ·have hS:∀ k,S k→w.heap.size+2≤k:=fun k hk=>by have:=hS0 k hk;omega
  have hlt2:=(zL.1 hl).1
  have hr:=run_endLoop (P:=P) hl (by rw [hrec];simp)
  have hp:(rec .ready none).pending=none:=by rw [hrec]
  rw [hp] at hr
  exact ⟨none,_,hr,hdone _ S i _ hnx (hI _ _ _ _ (by omega) (hsp _ _ _ hS) hi) rfl ((World.putObj_heap_other (by omega)).trans hk)⟩
 have hS:∀ k,S k→w.heap.size+2≤k:=fun k hk=>by have:=hS0 k hk;omega
 have hlt2:=(zL.1 hl).1
 have hr:=run_endLoop (P:=P) hl (by rw [hrec];simp)
 have hp:(rec .done (some c)).pending=some c:=by rw [hrec]
 rw [hp] at hr
 exact ⟨some c,_,hr,hstop _ S c _ (hIx _ _ _ _ (by omega) (hsp _ _ _ hS) hi) rfl ((World.putObj_heap_other (by omega)).trans hk)⟩
theorem a7r {α:Type} {n:Nat} {P:Program} {g:Operand} {ps:Array Tmp} {assign body:Code} {Q:Exit→Act→World→Prop} {a:Act} {w:World}
  {gf:Nat} {lb:Array Value} (hg:a.eval g=.func (.func gf) #[] lb) (eg:∀ args w,(callFunc gf args).run P w=.ok (.enter gf args) w)
  {V:α→Array Value→World→Prop} {own dep:Nat→Prop} {nx:Nat→Option α} {bound:Nat} (hseq:ary (n - 1) P gf lb V own dep nx bound w) (hown:∀ k,own k→k < w.heap.size)
  (hps:∀ x v W,V x v W→v.size=ps.size) (aaj:∀ k,dep k→k < w.heap.size) (R:Nat→Prop) (hR:∀ k,R k→k < w.heap.size∧¬ dep k)
  (I:Nat→World→Prop) (Ix:Code→World→Prop) (hI:∀ i A B,w.heap.size≤A.heap.size→a1x A.heap.size (fun k=>own k∨k=w.heap.size+1) A B→I i A→I i B) (hIx:∀ c A B,w.heap.size+1 < A.heap.size→a1x A.heap.size (fun k=>k=w.heap.size+1) A B→Ix c A→Ix c B) (hbd:∀ i W,I i W→i≤bound) (h0:I 0 w)
  (aai:∀ (l:Nat) (i:Nat) (x:α) (v:Array Value) (W:World),I i W→nx i=some x→V x v W→w.heap.size+2≤W.heap.size→l=w.heap.size+1→(∀ ad:Addr,ad.block=l→W.cell? ad=none) →
   assign.wpIn (Fence.wide.inRound l) (n - 1 - 1) P (Exit.then (fun a₁ W₁=>Below W W W₁∧∀ W2,Below w.heap.size W₁ W2→(∀ k,k < W₁.heap.size→k≠l→W2.heap[k]? = W₁.heap[k]?)→W2.heap.size=W₁.heap.size →
     body.wpIn (Fence.wide.inRound l) (n - 1 - 1) P (roundUp (fun k=>R k∨w.heap.size+2≤k) (I (i+1)) Ix W2) a₁ W2) (fun _ _ _=>False))
    { tmps:=(ps.zip v).foldl (fun t (p,v)=>t.setIfInBounds p v) a.tmps,defers:=[] } W)
  (hdone:∀ (D:Nat) (i:Nat) (W:World),nx i=none→I i W→D=w.heap.size→W.heap[D]? = some (.deferred (some []))→Q .normal { a with defers:={ target:=.collected D,args:=#[] } :: a.defers } W)
  (hstop:∀ (D:Nat) (c:Code) (W:World),Ix c W→D=w.heap.size→W.heap[D]? = some (.deferred (some []))→c.wpIn Fence.wide n P Q { a with defers:={ target:=.collected D,args:=#[] } :: a.defers } W) :
  (Code.rangeFunc g ps assign body).wpIn Fence.wide n P Q a w:=by
 refine wpIn_rangeFunc ?_
 intro fn hfn
 show ∃ (l:Nat) (mark:List Deferred) (w₁:World) (d:Deferred) (w₁':World) (f:FuncId) (args:Array Value) (w₂:World),(Instr.enterLoop fn a.tmps ps assign body none).run P w=.ok (l,mark) w₁∧_
 obtain ⟨rec,hrec⟩ : ∃ rec:LoopState→Option Code→Loop,rec=fun st pe=>{ state:=st,pending:=pe,fn,tmps:=a.tmps,params:=ps,assign,body,defers:=w.heap.size }:=⟨_,rfl⟩
 obtain ⟨W1,hW1⟩ : ∃ W1,(w.alloc (.deferred (some []))).alloc (.loop (rec .ready none))=W1:=⟨_,rfl⟩
 have hz1:W1.heap.size=w.heap.size+2:=by rw [← hW1];simp
 have hL1:W1.heap[w.heap.size+1]? = some (.loop (rec .ready none)):=by
  rw [← hW1];have:=World.alloc_heap_new (w.alloc (.deferred (some []))) (.loop (rec .ready none));rwa [World.size_alloc] at this
 have hK1:W1.heap[w.heap.size]? = some (.deferred (some [])):=by
  rw [← hW1];exact (Below.heap_alloc _ _ _ (by simp)).trans (World.alloc_heap_new w _)
 have hb1:Below w w W1:=by
  rw [← hW1];exact ((zC _ w).alloc (zD _) _).alloc (by simp) _
 have hI1:I 0 W1:=hI _ _ _ (zD _) (a1x.of hb1 _) h0
 refine ⟨w.heap.size+1,[{ target:=.collected w.heap.size,args:=#[] }],W1,{ target:=.fn (.func gf) lb,args:=#[.func (.yield (w.heap.size+1)) #[] #[]] },W1,gf,#[.func (.yield (w.heap.size+1)) #[] #[]]++lb,W1,?_,?_,?_,?_,?_,?_⟩
 ·rw [← hW1,hrec];exact run_enterLoop_outer _ _ _ _ _
 ·simp only [resolve,hg]
  simp [go_sem]
 ·intro f' _;trivial
 ·simp [invoke,go_sem,eg]
 ·intro h;cases h
 have hbp:∀ (A:World) (o:Obj),w.heap.size+1 < A.heap.size→Below w.heap.size A (A.putObj (w.heap.size+1) o):=fun A o _=>⟨rfl,rfl,rfl,by simp [World.putObj],fun k hk=>World.putObj_heap_other (by omega)⟩
 have hxp:∀ (A:World) (o:Obj) (S:Nat→Prop),S (w.heap.size+1)→a1x A.heap.size S A (A.putObj (w.heap.size+1) o):=fun A o S hS=>⟨rfl,rfl,rfl,by simp [World.putObj],fun k hk hn=>World.putObj_heap_other (fun e=>hn (by rw [e];exact hS))⟩
 refine (hseq (w.heap.size+1) (fun k=>(R k∨w.heap.size+2≤k)∨k=w.heap.size+1)
  (fun i W=>I i W∧W.heap[w.heap.size+1]? = some (.loop (rec .ready none))∧W.heap[w.heap.size]? = some (.deferred (some [])))
  (fun W => ∃ c,Ix c W∧W.heap[w.heap.size+1]? = some (.loop (rec .done (some c)))∧W.heap[w.heap.size]? = some (.deferred (some [])))
  W1 hb1 ?_ ?_ ?_ ?_ ⟨hI1,hL1,hK1⟩).mono ?_
 ·rintro k ((hk | hk) | rfl)
  ·exact (hR k hk).2
  ·exact fun hd=>by have:=aaj _ hd;omega
  exact fun hd=>by have:=aaj _ hd;omega
 ·rintro i A B hz hAB ⟨hi,hl,hk⟩
  exact ⟨hI i A B (by omega) (hAB.mono (zD _) fun _ q=>.inl q) hi,(hAB.block _ (by omega) (fun q=>by have:=hown _ q;omega)).trans hl,(hAB.block _ (by omega) (fun q=>by have:=hown _ q;omega)).trans hk⟩
 ·rintro i W2 ⟨hi,_⟩
  exact hbd i W2 hi
 ·rintro i x v W ⟨hi,hl,hk⟩ hx hV
  have hlt:w.heap.size+1 < W.heap.size:=(zL.1 hl).1
  have hy:=run_yield (P:=P) (args:=v) hl (by rw [hrec];exact hps x v W hV)
  rw [hrec] at hy
  refine ⟨fn,_,assign,body,hy,roundIn_of_wpIn hfn (wpIn_mono (aai (w.heap.size+1) i x v W hi hx hV (by omega) rfl (fun ad had=>by unfold World.cell?;rw [had,hl])) ?_)⟩
  rintro e a₁ W₁ hp
  cases e with
  | normal =>
   obtain ⟨hB1,hp⟩:=hp;have hl1:W₁.heap[w.heap.size+1]? = some (.loop (rec .ready none)):=(hB1.block _ hlt).trans hl;have hk1:W₁.heap[w.heap.size]? = some (.deferred (some [])):=(hB1.block _ (by omega)).trans hk;have hlt1:=(zL.1 hl1).1;refine ⟨_,run_beginRound hl1 (by rw [hrec]),?_⟩;have hl2:(W₁.putObj (w.heap.size+1) (.loop { rec .ready none with state:=.busy })).heap[w.heap.size+1]? = some (.loop { rec .ready none with state:=.busy }):=World.putObj_heap_same hlt1;have hk2:(W₁.putObj (w.heap.size+1) (.loop { rec .ready none with state:=.busy })).heap[w.heap.size]? = some (.deferred (some [])):=(World.putObj_heap_other (by omega)).trans hk1;refine wpIn_mono (hp _ (hbp _ _ hlt1) (fun k _ hne=>World.putObj_heap_other (by omega)) (by simp [World.putObj])) ?_
   have hnR:∀ k,w.heap.size≤k→k < w.heap.size+2→¬ (R k∨w.heap.size+2≤k):=fun k hk h2 hr=>by
    rcases hr with hr | hr
    ·have:=(hR k hr).1;omega
    ·omega
   have hkB:a0o (fun k=>(R k∨w.heap.size+2≤k)∨k=w.heap.size+1) W W₁:=⟨hB1.size,fun k hk _=>hB1.block k hk⟩
   have fin:∀ (jump:Option Code) (W3:World),a0o (fun k=>R k∨w.heap.size+2≤k) (W₁.putObj (w.heap.size+1) (.loop { rec .ready none with state:=.busy })) W3 →
     (Instr.endRound (w.heap.size+1) jump).run P W3=.ok (.bool jump.isNone) (W3.putObj (w.heap.size+1) (.loop (rec (if jump.isNone then .ready else .done) jump))) ∧
     (W3.putObj (w.heap.size+1) (.loop (rec (if jump.isNone then .ready else .done) jump))).heap[w.heap.size+1]? = some (.loop (rec (if jump.isNone then .ready else .done) jump)) ∧
     (W3.putObj (w.heap.size+1) (.loop (rec (if jump.isNone then .ready else .done) jump))).heap[w.heap.size]? = some (.deferred (some [])) ∧
     a0o (fun k=>(R k∨w.heap.size+2≤k)∨k=w.heap.size+1) W (W3.putObj (w.heap.size+1) (.loop (rec (if jump.isNone then .ready else .done) jump)))∧w.heap.size+1 < W3.heap.size:=fun jump W3 hk3=>by
    have hl3:W3.heap[w.heap.size+1]? = some (.loop { rec .ready none with state:=.busy }):=(hk3.2 _ (by simp [World.putObj];omega) (hnR _ (by omega) (by omega))).trans hl2;have amx:W3.heap[w.heap.size]? = some (.deferred (some [])):=(hk3.2 _ (by simp [World.putObj];omega) (hnR _ (by omega) (by omega))).trans hk2;have hlt3:=(zL.1 hl3).1;have hr:=run_endRound (P:=P) jump hl3;rw [hrec] at hr ⊢;exact ⟨hr,World.putObj_heap_same hlt3,(World.putObj_heap_other (by omega)).trans amx,((hkB.trans (a0o.putObj _ _ _ (Or.inr rfl))).trans (hk3.mono fun k h=>Or.inl h)).trans (a0o.putObj _ _ _ (Or.inr rfl)),hlt3⟩
   rintro e2 a2 W3 hp2
   cases e2 with
   | normal =>
    obtain ⟨hk3,hi3⟩:=hp2;obtain ⟨hr,hl4,hk4,hkb,hlt3⟩:=fin none W3 hk3;exact ⟨_,_,hr,hkb,.inl ⟨rfl,hI _ _ _ (by omega) (hxp _ _ _ (.inr rfl)) hi3,hl4,hk4⟩⟩
   | ret =>
    obtain ⟨hk3,hi3⟩:=hp2;obtain ⟨hr,hl4,hk4,hkb,hlt3⟩:=fin (some .ret) W3 hk3;exact ⟨_,_,hr,hkb,.inr ⟨rfl,.ret,hIx _ _ _ hlt3 (hxp _ _ _ rfl) hi3,hl4,hk4⟩⟩
   | exit id =>
    obtain ⟨hk3,hi3⟩:=hp2;obtain ⟨hr,hl4,hk4,hkb,hlt3⟩:=fin (some (.exit id)) W3 hk3;exact ⟨_,_,hr,hkb,.inr ⟨rfl,.exit id,hIx _ _ _ hlt3 (hxp _ _ _ rfl) hi3,hl4,hk4⟩⟩
   | _=>exact hp2.elim
  | _=>exact hp.elim
 rintro e W2 ⟨⟨v,rfl⟩,(⟨i,hnx,hi,hl,hk⟩ | ⟨c,hi,hl,hk⟩)⟩
 ·have hlt2:=(zL.1 hl).1
  have hr:=run_endLoop (P:=P) hl (by rw [hrec];simp)
  have hp:(rec .ready none).pending=none:=by rw [hrec]
  rw [hp] at hr
  exact ⟨none,_,hr,hdone _ i _ hnx (hI _ _ _ (by omega) (hxp _ _ _ (.inr rfl)) hi) rfl ((World.putObj_heap_other (by omega)).trans hk)⟩
 have hlt2:=(zL.1 hl).1
 have hr:=run_endLoop (P:=P) hl (by rw [hrec];simp)
 have hp:(rec .done (some c)).pending=some c:=by rw [hrec]
 rw [hp] at hr
 exact ⟨some c,_,hr,hstop _ c _ (hIx _ _ _ hlt2 (hxp _ _ _ rfl) hi) rfl ((World.putObj_heap_other (by omega)).trans hk)⟩
theorem YieldAt.any {n m l':Nat} {P:Program} {l:Nat} {v:Array Value} {W:World} {R:Ending→World→Prop} (h:YieldAt Fence.wide n P l v W R):YieldAt (Fence.wide.inRound l') m P l v W R:=by
 obtain ⟨fn,tmps,assign,body,h1,h2⟩:=h
 exact ⟨fn,tmps,assign,body,h1,h2.1,fun c cs _=>h2.2 c cs (room_wide _)⟩
theorem YieldAt.wide {n m:Nat} {P:Program} {l:Nat} {v:Array Value} {W:World} {R:Ending→World→Prop} (h:YieldAt Fence.wide n P l v W R):YieldAt Fence.wide m P l v W R:=by
 obtain ⟨fn,tmps,assign,body,h1,h2⟩:=h
 exact ⟨fn,tmps,assign,body,h1,h2.1,fun c cs _=>h2.2 c cs (room_wide _)⟩
end Go.Proofs.YtppjleebbjipbaaGreat
