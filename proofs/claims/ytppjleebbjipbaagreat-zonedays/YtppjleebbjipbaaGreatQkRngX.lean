/-
  The same law for an iterator that writes blocks of its own: a range over a function whose body may leave early (break, return), over a sequence that may have no end: a law for the caller, and the form of an iterator's contract.
-/
import Derived.Test.YtppjleebbjipbaaGreatQkGrm
set_option linter.all false
namespace Go.Proofs.YtppjleebbjipbaaGreat
open Go.RowKit
structure a1x (B:Nat) (S:Nat→Prop) (w w':World):Prop where
 os:w'.os=w.os
 tape:w'.tape=w.tape
 output:w'.output=w.output
 size:w.heap.size≤w'.heap.size
 block:∀ k,k < B→¬ S k→w'.heap[k]? = w.heap[k]?
theorem a1x.of {B:Nat} {w w':World} (h:Below B w w') (S:Nat→Prop):a1x B S w w':=⟨h.os,h.tape,h.output,h.size,fun k hk _=>h.block k hk⟩
theorem a1x.mono {B B':Nat} {S S':Nat→Prop} {w w':World} (h:a1x B S w w') (hb:B'≤B) (hs:∀ k,S k→S' k):a1x B' S' w w':=⟨h.os,h.tape,h.output,h.size,fun k hk hn=>h.block k (by omega) (fun q=>hn (hs k q))⟩
theorem a1x.setCell {B:Nat} {S:Nat→Prop} (w:World) {g:Nat} (hg:S g) (i:Nat) (v:Value):a1x B S w (w.setCell ⟨g,i,none⟩ v):=⟨rfl,rfl,rfl,by simp,fun k _ hn=>zO w _ k v (fun e=>hn (by rw [e];exact hg))⟩
def ary {α:Type} (n:Nat) (P:Program) (gf:Nat) (lb:Array Value) (V:α→Array Value→World→Prop) (own dep:Nat→Prop) (nx:Nat→Option α) (bound:Nat) (w:World):Prop :=
 ∀ (l:Nat) (R:Nat→Prop) (J:Nat→World→Prop) (Z:World→Prop) (W:World),Below w w W→(∀ k,R k→¬ dep k) →
  (∀ i A B,W.heap.size≤A.heap.size→a1x A.heap.size own A B→J i A→J i B)→(∀ i W1,J i W1→i≤bound) →
  (∀ i x v W1,J i W1→nx i=some x→V x v W1→YieldAt Fence.wide (n - 1) P l v W1 fun e W'=>a0o R W1 W'∧(e=.returned (.bool true)∧J (i+1) W'∨e=.returned (.bool false)∧Z W')) →
  J 0 W→CallsIn Fence.wide n P gf (#[.func (.yield l) #[] #[]]++lb) W fun e W'=>(∃ v,e=.returned v)∧((∃ i,nx i=none∧J i W')∨Z W')
theorem a3j {α:Type} {n:Nat} {P:Program} {g:Operand} {ps:Array Tmp} {assign body:Code} {Q:Exit→Act→World→Prop} {a:Act} {w:World}
  {gf:Nat} {lb:Array Value} (hg:a.eval g=.func (.func gf) #[] lb) (eg:∀ args w,(callFunc gf args).run P w=.ok (.enter gf args) w)
  {V:α→Array Value→World→Prop} {own dep:Nat→Prop} {nx:Nat→Option α} {bound:Nat} (hseq:ary (n - 1) P gf lb V own dep nx bound w) (hown:∀ k,own k→k < w.heap.size)
  (hps:∀ x v W,V x v W→v.size=ps.size) (aaj:∀ k,dep k→k < w.heap.size) (R:Nat→Prop) (hR:∀ k,R k→k < w.heap.size∧¬ dep k)
  (I:Nat→World→Prop) (Ix:Code→World→Prop) (hI:∀ i A B,w.heap.size≤A.heap.size→a1x A.heap.size (fun k=>own k∨k=w.heap.size+1) A B→I i A→I i B) (hIx:∀ c A B,w.heap.size+1 < A.heap.size→a1x A.heap.size (fun k=>k=w.heap.size+1) A B→Ix c A→Ix c B) (hbd:∀ i W,I i W→i≤bound) (h0:I 0 w)
  (aai:∀ (l:Nat) (i:Nat) (x:α) (v:Array Value) (W:World),I i W→nx i=some x→V x v W→w.heap.size+2≤W.heap.size→l=w.heap.size+1→(∀ ad:Addr,ad.block=l→W.cell? ad=none) →
   assign.wpIn (Fence.wide.inRound l) (n - 1 - 1) P (Exit.then (fun a₁ W₁=>Below W W W₁∧∀ W2,Below w.heap.size W₁ W2→(∀ k,k < W₁.heap.size→k≠l→W2.heap[k]? = W₁.heap[k]?)→W2.heap.size=W₁.heap.size →
     body.wpIn (Fence.wide.inRound l) (n - 1 - 1) P (roundUp (fun k=>R k∨w.heap.size+2≤k) (I (i+1)) Ix W2) a₁ W2) (fun _ _ _=>False))
    { tmps:=(ps.zip v).foldl (fun t (p,v)=>t.setIfInBounds p v) a.tmps,defers:=[] } W)
  (hdone:∀ (D:Nat) (i:Nat) (W:World),nx i=none→I i W→w.heap.size≤D→W.heap[D]? = some (.deferred (some []))→Q .normal { a with defers:={ target:=.collected D,args:=#[] } :: a.defers } W)
  (hstop:∀ (D:Nat) (c:Code) (W:World),Ix c W→w.heap.size≤D→W.heap[D]? = some (.deferred (some []))→c.wpIn Fence.wide n P Q { a with defers:={ target:=.collected D,args:=#[] } :: a.defers } W) :
  (Code.rangeFunc g ps assign body).wpIn Fence.wide n P Q a w:=by
 refine wpIn_rangeFunc ?_
 intro fn hfn
 show ∃ (l:Nat) (mark:List Deferred) (w₁:World) (d:Deferred) (w₁':World) (f:FuncId) (args:Array Value) (w₂:World),(Instr.enterLoop fn a.tmps ps assign body none).run P w=.ok (l,mark) w₁∧_
 obtain ⟨rec,hrec⟩ : ∃ rec:LoopState→Option Code→Loop,rec=fun st pe=>{ state:=st,pending:=pe,fn,tmps:=a.tmps,params:=ps,assign,body,defers:=w.heap.size }:=⟨_,rfl⟩
 obtain ⟨W1,hW1⟩ : ∃ W1,(w.alloc (.deferred (some []))).alloc (.loop (rec .ready none))=W1:=⟨_,rfl⟩
 have hz1:W1.heap.size=w.heap.size+2:=by rw [← hW1];simp
 have hL1:W1.heap[w.heap.size+1]? = some (.loop (rec .ready none)):=by
  rw [← hW1];have:=World.alloc_heap_new (w.alloc (.deferred (some []))) (.loop (rec .ready none));rwa [World.size_alloc] at this
 have hK1:W1.heap[w.heap.size]? = some (.deferred (some [])):=by
  rw [← hW1];exact (Below.heap_alloc _ _ _ (by simp)).trans (World.alloc_heap_new w _)
 have hb1:Below w w W1:=by
  rw [← hW1];exact ((zC _ w).alloc (zD _) _).alloc (by simp) _
 have hI1:I 0 W1:=hI _ _ _ (zD _) (a1x.of hb1 _) h0
 refine ⟨w.heap.size+1,[{ target:=.collected w.heap.size,args:=#[] }],W1,{ target:=.fn (.func gf) lb,args:=#[.func (.yield (w.heap.size+1)) #[] #[]] },W1,gf,#[.func (.yield (w.heap.size+1)) #[] #[]]++lb,W1,?_,?_,?_,?_,?_,?_⟩
 ·rw [← hW1,hrec];exact run_enterLoop_outer _ _ _ _ _
 ·simp only [resolve,hg]
  simp [go_sem]
 ·intro f' _;trivial
 ·simp [invoke,go_sem,eg]
 ·intro h;cases h
 have hbp:∀ (A:World) (o:Obj),w.heap.size+1 < A.heap.size→Below w.heap.size A (A.putObj (w.heap.size+1) o):=fun A o _=>⟨rfl,rfl,rfl,by simp [World.putObj],fun k hk=>World.putObj_heap_other (by omega)⟩
 have hxp:∀ (A:World) (o:Obj) (S:Nat→Prop),S (w.heap.size+1)→a1x A.heap.size S A (A.putObj (w.heap.size+1) o):=fun A o S hS=>⟨rfl,rfl,rfl,by simp [World.putObj],fun k hk hn=>World.putObj_heap_other (fun e=>hn (by rw [e];exact hS))⟩
 refine (hseq (w.heap.size+1) (fun k=>(R k∨w.heap.size+2≤k)∨k=w.heap.size+1)
  (fun i W=>I i W∧W.heap[w.heap.size+1]? = some (.loop (rec .ready none))∧W.heap[w.heap.size]? = some (.deferred (some [])))
  (fun W => ∃ c,Ix c W∧W.heap[w.heap.size+1]? = some (.loop (rec .done (some c)))∧W.heap[w.heap.size]? = some (.deferred (some [])))
  W1 hb1 ?_ ?_ ?_ ?_ ⟨hI1,hL1,hK1⟩).mono ?_
 ·rintro k ((hk | hk) | rfl)
  ·exact (hR k hk).2
  ·exact fun hd=>by have:=aaj _ hd;omega
  exact fun hd=>by have:=aaj _ hd;omega
 ·rintro i A B hz hAB ⟨hi,hl,hk⟩
  exact ⟨hI i A B (by omega) (hAB.mono (zD _) fun _ q=>.inl q) hi,(hAB.block _ (by omega) (fun q=>by have:=hown _ q;omega)).trans hl,(hAB.block _ (by omega) (fun q=>by have:=hown _ q;omega)).trans hk⟩
 ·rintro i W2 ⟨hi,_⟩
  exact hbd i W2 hi
 ·rintro i x v W ⟨hi,hl,hk⟩ hx hV
  have hlt:w.heap.size+1 < W.heap.size:=(zL.1 hl).1
  have hy:=run_yield (P:=P) (args:=v) hl (by rw [hrec];exact hps x v W hV)
  rw [hrec] at hy
  refine ⟨fn,_,assign,body,hy,roundIn_of_wpIn hfn (wpIn_mono (aai (w.heap.size+1) i x v W hi hx hV (by omega) rfl (fun ad had=>by unfold World.cell?;rw [had,hl])) ?_)⟩
  rintro e a₁ W₁ hp
  cases e with
  | normal =>
   obtain ⟨hB1,hp⟩:=hp;have hl1:W₁.heap[w.heap.size+1]? = some (.loop (rec .ready none)):=(hB1.block _ hlt).trans hl;have hk1:W₁.heap[w.heap.size]? = some (.deferred (some [])):=(hB1.block _ (by omega)).trans hk;have hlt1:=(zL.1 hl1).1;refine ⟨_,run_beginRound hl1 (by rw [hrec]),?_⟩;have hl2:(W₁.putObj (w.heap.size+1) (.loop { rec .ready none with state:=.busy })).heap[w.heap.size+1]? = some (.loop { rec .ready none with state:=.busy }):=World.putObj_heap_same hlt1;have hk2:(W₁.putObj (w.heap.size+1) (.loop { rec .ready none with state:=.busy })).heap[w.heap.size]? = some (.deferred (some [])):=(World.putObj_heap_other (by omega)).trans hk1;refine wpIn_mono (hp _ (hbp _ _ hlt1) (fun k _ hne=>World.putObj_heap_other (by omega)) (by simp [World.putObj])) ?_
   have hnR:∀ k,w.heap.size≤k→k < w.heap.size+2→¬ (R k∨w.heap.size+2≤k):=fun k hk h2 hr=>by
    rcases hr with hr | hr
    ·have:=(hR k hr).1;omega
    ·omega
   have hkB:a0o (fun k=>(R k∨w.heap.size+2≤k)∨k=w.heap.size+1) W W₁:=⟨hB1.size,fun k hk _=>hB1.block k hk⟩
   have fin:∀ (jump:Option Code) (W3:World),a0o (fun k=>R k∨w.heap.size+2≤k) (W₁.putObj (w.heap.size+1) (.loop { rec .ready none with state:=.busy })) W3 →
     (Instr.endRound (w.heap.size+1) jump).run P W3=.ok (.bool jump.isNone) (W3.putObj (w.heap.size+1) (.loop (rec (if jump.isNone then .ready else .done) jump))) ∧
     (W3.putObj (w.heap.size+1) (.loop (rec (if jump.isNone then .ready else .done) jump))).heap[w.heap.size+1]? = some (.loop (rec (if jump.isNone then .ready else .done) jump)) ∧
     (W3.putObj (w.heap.size+1) (.loop (rec (if jump.isNone then .ready else .done) jump))).heap[w.heap.size]? = some (.deferred (some [])) ∧
     a0o (fun k=>(R k∨w.heap.size+2≤k)∨k=w.heap.size+1) W (W3.putObj (w.heap.size+1) (.loop (rec (if jump.isNone then .ready else .done) jump)))∧w.heap.size+1 < W3.heap.size:=fun jump W3 hk3=>by
    have hl3:W3.heap[w.heap.size+1]? = some (.loop { rec .ready none with state:=.busy }):=(hk3.2 _ (by simp [World.putObj];omega) (hnR _ (by omega) (by omega))).trans hl2;have amx:W3.heap[w.heap.size]? = some (.deferred (some [])):=(hk3.2 _ (by simp [World.putObj];omega) (hnR _ (by omega) (by omega))).trans hk2;have hlt3:=(zL.1 hl3).1;have hr:=run_endRound (P:=P) jump hl3;rw [hrec] at hr ⊢;exact ⟨hr,World.putObj_heap_same hlt3,(World.putObj_heap_other (by omega)).trans amx,((hkB.trans (a0o.putObj _ _ _ (Or.inr rfl))).trans (hk3.mono fun k h=>Or.inl h)).trans (a0o.putObj _ _ _ (Or.inr rfl)),hlt3⟩
   rintro e2 a2 W3 hp2
   cases e2 with
   | normal =>
    obtain ⟨hk3,hi3⟩:=hp2;obtain ⟨hr,hl4,hk4,hkb,hlt3⟩:=fin none W3 hk3;exact ⟨_,_,hr,hkb,.inl ⟨rfl,hI _ _ _ (by omega) (hxp _ _ _ (.inr rfl)) hi3,hl4,hk4⟩⟩
   | ret =>
    obtain ⟨hk3,hi3⟩:=hp2;obtain ⟨hr,hl4,hk4,hkb,hlt3⟩:=fin (some .ret) W3 hk3;exact ⟨_,_,hr,hkb,.inr ⟨rfl,.ret,hIx _ _ _ hlt3 (hxp _ _ _ rfl) hi3,hl4,hk4⟩⟩
   | exit id =>
    obtain ⟨hk3,hi3⟩:=hp2;obtain ⟨hr,hl4,hk4,hkb,hlt3⟩:=fin (some (.exit id)) W3 hk3;exact ⟨_,_,hr,hkb,.inr ⟨rfl,.exit id,hIx _ _ _ hlt3 (hxp _ _ _ rfl) hi3,hl4,hk4⟩⟩
   | _=>exact hp2.elim
  | _=>exact hp.elim
 rintro e W2 ⟨⟨v,rfl⟩,(⟨i,hnx,hi,hl,hk⟩ | ⟨c,hi,hl,hk⟩)⟩
 ·have hlt2:=(zL.1 hl).1
  have hr:=run_endLoop (P:=P) hl (by rw [hrec];simp)
  have hp:(rec .ready none).pending=none:=by rw [hrec]
  rw [hp] at hr
  exact ⟨none,_,hr,hdone _ i _ hnx (hI _ _ _ (by omega) (hxp _ _ _ (.inr rfl)) hi) (zD _) ((World.putObj_heap_other (by omega)).trans hk)⟩
 have hlt2:=(zL.1 hl).1
 have hr:=run_endLoop (P:=P) hl (by rw [hrec];simp)
 have hp:(rec .done (some c)).pending=some c:=by rw [hrec]
 rw [hp] at hr
 exact ⟨some c,_,hr,hstop _ c _ (hIx _ _ _ hlt2 (hxp _ _ _ rfl) hi) (zD _) ((World.putObj_heap_other (by omega)).trans hk)⟩
end Go.Proofs.YtppjleebbjipbaaGreat
namespace Go.Proofs.YtppjleebbjipbaaGreat
open Go Go.RowKit
section
variable {P:Program} {ops:Array Oper}
theorem aed {Q:Exit→Act→World→Prop} {n:Nat} (hd:a6g ops=true) (hQ:∀ a w,¬ Q .outgrown a w) {i:Nat} {K:Act→World→Prop} {a:Act} {w:World}
  (h:wpOp P ops Q i K a w):wpOpIn Fence.wide n P ops Q i K a w:=by
 unfold wpOp at h
 unfold wpOpIn
 cases ho:ops[i]? with
 | none=>rw [ho] at h;exact h
 | some o =>
  rw [ho] at h
  dsimp only at h ⊢
  by_cases hw:Region.wanted o (yielded ops a.tmps)=true;rotate_left
  ·rw [zS hw] at h ⊢
   exact ⟨fun f _=>trivial,h⟩
  rw [zQ hw] at h ⊢
  rcases h with h | ⟨_,b,W',hb⟩
  ·have hno:∀ c,o.op≠.defer c:=fun c hc=>by
    obtain ⟨hlt,he⟩:=zL.1 ho;have:=(Array.all_eq_true.1 hd) i hlt;rw [he,hc] at this;cases this
   refine ⟨fun f _=>trivial,?_⟩;unfold Oper.wp at h;show o.uponIn _ _ _ _ _ _ ((o.semAt none a.eval).run P w);rw [show o.semAt none a.eval=execOp a.eval o from rfl];generalize (execOp a.eval o).run P w=r at *
   cases r with
   | ok nx W' =>
    cases nx<;>simp only [Oper.upon,Oper.uponIn] at h ⊢
    case value v=>exact h
    case skip=>exact h
    case defer d=>exact h
    case enter f args=>exact ⟨fun hh=>(by cases hh),wW.2 h⟩
    case row row args =>
     refine ⟨fun hh=>(by cases hh),fun c cs _=>?_⟩;obtain ⟨v,w',h1,h2⟩:=h c cs;exact ⟨v,w',h1,stepsIn_wide.2 h2⟩
   | halt x W'=>cases x<;>simp only [Oper.upon,Oper.uponIn] at h ⊢;exact h
  exact absurd hb (hQ _ _)
theorem a8y {Q:Exit→Act→World→Prop} {n:Nat} (hd:a6g ops=true) (hQ:∀ a w,¬ Q .outgrown a w):∀ (f:Nat) (listed:Array Bool) (a:Act) (w:World),
  wpAny P .any ops Q f listed a w→wpAnyIn Fence.wide n P .any ops Q f listed a w
 | 0,_,_,_,h=>h
 | f+1,listed,a,w,h=>⟨h.1,fun i hi=>wpOpIn_mono (fun a w=>a8y hd hQ f _ a w) (aed hd hQ (h.2 i hi))⟩
theorem a5x {id:Nat} {Q:Exit→Act→World→Prop} {a:Act} {w:World} {l:List Oper} {m:Nat} (n:Nat) (S:Spec) (hm:P.follows .mixedOrders=true) (hd:a6g l.toArray=true) (hB:a9c l.toArray n a.tmps.size (S.map (·.1))=true) (hM:acu l.toArray n (S.map (·.1))=true) (hQ:∀ a w,¬ Q .outgrown a w) (hst:stays S)
  (hob:a8e P l.toArray Q S a w (l.take n) 0)
  (ht:∀ vs W,Below w w W→(∀ k,k < n→(S.at' k).2 (vs k) W)→wpList P l.toArray Q (l.drop n) (a1d vs (l.take n) 0 a) W):(Code.region id l.toArray true).wpIn Fence.wide m P Q a w:=by
 have hn:n≤l.length:=by
  have h:=hB
  simp only [a9c,zN,zM] at h
  simpa using h.1.1.1.2
 have hlen:(l.take n).length=n:=by simp;omega
 have hF:∀ vs,a00 l.toArray vs (List.range n) a=a1d vs (l.take n) 0 a:=fun vs=>by
  have:=a2r (ops:=l.toArray) vs (l.take n) 0 a fun j hj=>by
   (have hj':j < n:=by rw [hlen] at hj;exact hj);simp [hj']
  rw [hlen] at this
  rw [vM]
  exact this
 have hD:∀ k,(S.at' k).1=(S.map (·.1)).getD k []:=fun k=>by
  unfold Spec.at'
  rw [zB,zB,xC]
  cases S[k]?<;>rfl
 have hgr:=a8d (P:=P) (Q:=Q) (S:=S) (w:=w) hB hM hD (l.take n) 0 (fun j hj=>by
  have hj':j < n:=by rw [hlen] at hj;exact hj
  simp [hj']) (by omega) hob
 refine wpIn_region_any hm (a8y hd hQ _ _ _ _ ?_)
 have hs:=a8n (P:=P) (Q:=Q) (S:=S) (w:=w) (a0:=a) (hd:=l.take n) (tl:=l.drop n) hB hD hst (fun j=>by simp [uN]) (by simp) (fun j hj=>by simp [hj])
   hgr (by simpa only [hF] using ht) n (Array.replicate l.toArray.size false) a { w with drawn:=w.drawn+1 } (fun _=>undef)
   (by unfold a1l;rw [wC.2 (fun k _=>by rw [yC];rfl)];simp)
   ⟨by simp,fun j oj _ hl=>(by rw [yC] at hl;cases hl),fun t _ ht=>getD_in (by simpa using ht) (yC _ _)⟩
   bR.drew (fun vs _=>by unfold a1l;rw [wC.2 (fun k _=>by rw [yC];rfl)])
   (fun k _ h=>by rw [yC] at h;cases h)
 rwa [show n+(l.toArray.size - n)=l.toArray.size by simp;omega] at hs
end
end Go.Proofs.YtppjleebbjipbaaGreat
