/-
  Rows of bytes.
-/
import Derived.Test.YtopgdlblfieljaaGreatDoorPkRow
import Derived.Test.YtopgdlblfieljaaGreatDoorPkDigA
import Derived.WalkKit
import Derived.WalkSpells
import Derived.WalkLawsBesides
import Derived.Handy
import Derived.Lib.Hide
import Derived.Laws.CopyOwn
import Derived.Deep.QuietTactic
import Derived.BigQuiet
import Derived.BigRegion
import Derived.StillTailTactics
import Derived.RegionTactic
import Derived.LoopTactic
import Derived.OwnWalk
import Derived.Deep.AppendLies
import Derived.Deep.AppendSrc
import Derived.Test.YtopgdlblfieljaaGreatDoorProg
import Derived.RangeFuncNested
import Derived.RangeFuncBound
import Derived.RangeFuncCalls
import Derived.RangeFuncLeaves
import Derived.Shelf.Abstract
import Derived.Test.YtopgdlblfieljaaGreatDoorPkDigB
import Derived.Test.YtopgdlblfieljaaGreatDoorPkDig
import Derived.Test.YtopgdlblfieljaaGreatDoorPkFv
import Derived.KernelRfl
set_option linter.unusedSectionVars false
set_option linter.constructorNameAsVariable false
set_option linter.unusedVariables false
set_option linter.unusedSimpArgs false
namespace Go.Proofs.YtopgdlblfieljaaGreatDoor
open Go.RowKit
def a0i (l:List UInt8):Array Value:=(l.map fun c=>B8 c.toNat).toArray
@[go_sem] theorem a0o (l:List UInt8):(a0i l).size=l.length:=by simp [a0i]
theorem a5f (l:List UInt8) (i:Nat) (h:i < l.length):(a0i l)[i]? = some (B8 (l.getD i 0).toNat):=by
 simp only [a0i,List.getElem?_toArray,List.getElem?_map,List.getD_eq_getElem?_getD]
 rw [List.getElem?_eq_getElem h];rfl
@[go_sem] theorem a1t (l:List UInt8):ones (a0i l)=true:=by
 unfold ones
 rw [Array.all_eq_true_iff_forall_mem]
 intro x hx
 simp only [a0i,List.mem_toArray,List.mem_map] at hx
 obtain ⟨n,_,rfl⟩:=hx
 rfl
theorem a2v (l:List UInt8) (n:Nat) (h:l.length=n):(a0i l).extract 0 n=a0i l:=extract_all _ _ (by rw [a0o,h])
theorem aa4 (l:List UInt8) (i:Nat) (c:UInt8):(a0i l).setIfInBounds i (B8 c.toNat)=a0i (l.set i c):=by
 simp [a0i,List.map_set]
def u64 (n:Int):Nat:=(n % 18446744073709551616).toNat
def le8 (n:Nat):List UInt8:=(List.range 8).map fun i=>UInt8.ofNat (n >>> (8 * i))
theorem a2y (n:Nat):(le8 n).length=8:=by simp [le8]
attribute [irreducible] a0i le8
end Go.Proofs.YtopgdlblfieljaaGreatDoor
namespace Go.Proofs.YtopgdlblfieljaaGreatDoor
open Go.RowKit
theorem aax : ∃ i,Tryz.prog.info? 5=some i∧i.zero=some (.int .u8 0)∧i.size=1∧i.bytes=1 :=
 info_parts (show (Tryz.prog.info? 5).map (fun i=>(i.zero,i.size,i.bytes))=some (some (.int .u8 0),1,1) by kernel_rfl)
def a0p (l:List UInt8):List Value:=l.map fun c=>B8 c.toNat
theorem a1m (l:List UInt8):(a0p l).length=l.length:=by simp [a0p]
theorem a4a (l m:List UInt8):a0p (l++m)=a0p l++a0p m:=by simp [a0p]
theorem a81 (l:List UInt8):∀ u∈a0p l,u.oneCell' = true:=by
 intro u hu
 obtain ⟨c,_,rfl⟩:=List.mem_map.1 hu
 rfl
theorem aAz (l:List UInt8):(a0i l).toList=a0p l:=by unfold a0i a0p;rfl
theorem afc {w:World} {b:Nat} {l:List UInt8} {T:TypeId} {fr:Nat×Nat} (h:obj w b=some (.cells (a0i l) T fr)):∀ j u,(a0p l)[j]? = some u→w.cell? ((⟨b,0,none⟩:Addr).add j)=some u:=by
 rw [← aAz]
 exact World.news_of_block h
theorem ahk {w w':World} {base:Nat} {e:TypeId} {size:Nat} {v:Value} {n:Nat} {xs:List Value} {B:Nat} (h:w.ownsRow base e size v n xs) (hb:Below B w w') (hv:∀ g,v.ownBlock=some g→g < B):w'.ownsRow base e size v n xs:=by
 refine ⟨h.1,?_⟩
 rcases h.2 with hn | ⟨g,cap,cur,rfl,h1,h2,h3⟩
 ·exact .inl hn
 ·exact .inr ⟨g,cap,cur,rfl,h1,(hb.block g (hv g rfl)).trans h2,h3⟩
theorem abn {w:World} {base base':Nat} {e:TypeId} {size:Nat} {v:Value} {n:Nat} {xs:List Value} (h:w.ownsRow base e size v n xs) (hb:base'≤base):w.ownsRow base' e size v n xs:=by
 refine ⟨h.1,?_⟩
 rcases h.2 with hn | ⟨g,cap,cur,rfl,h1,h2,h3⟩
 ·exact .inl hn
 ·exact .inr ⟨g,cap,cur,rfl,Nat.le_trans hb h1,h2,h3⟩
attribute [irreducible] a0p
end Go.Proofs.YtopgdlblfieljaaGreatDoor
namespace Go.Proofs.YtopgdlblfieljaaGreatDoor
open Go.RowKit
def a4s (R:Nat→Prop) (A B:World):Prop:=A.heap.size≤B.heap.size∧∀ k,k < A.heap.size→¬ R k→B.heap[k]? = A.heap[k]?
theorem a4s.refl (R:Nat→Prop) (A:World):a4s R A A:=⟨Nat.le_refl _,fun _ _ _=>rfl⟩
theorem a4s.trans {R:Nat→Prop} {A B C:World} (h:a4s R A B) (k:a4s R B C):a4s R A C :=
 ⟨Nat.le_trans h.1 k.1,fun i hi hr=>(k.2 i (Nat.lt_of_lt_of_le hi h.1) hr).trans (h.2 i hi hr)⟩
theorem a4s.mono {R R':Nat→Prop} {A B:World} (h:a4s R A B) (hr:∀ k,R k→R' k):a4s R' A B:=⟨h.1,fun i hi hn=>h.2 i hi fun hk=>hn (hr i hk)⟩
theorem a4s.putObj {R:Nat→Prop} (A:World) (l:Nat) (o:Obj) (hl:R l):a4s R A (A.putObj l o) :=
 ⟨by simp [World.putObj],fun k _ hr=>World.putObj_heap_other (fun e=>hr (e ▸ hl))⟩
def aMo {α:Type} (n:Nat) (P:Program) (gf:Nat) (lb:Array Value) (V:α→Array Value→World→Prop) (dep:Nat→Prop) (xs:List α) (w:World):Prop :=
 ∀ (l:Nat) (R:Nat→Prop) (J:List α→World→Prop) (W:World),Below w.heap.size w W→(∀ k,R k→k < W.heap.size∧¬ dep k) →
  (∀ pre A B,Below W.heap.size A B→J pre A→J pre B) →
  (∀ pre x v W1,J pre W1→V x v W1→(∃ suf,xs=pre++x :: suf)→YieldAt Fence.wide (n - 1) P l v W1 fun e W'=>e=.returned (.bool true)∧J (pre ++ [x]) W'∧a4s R W1 W') →
  J [] W→CallsIn Fence.wide n P gf (#[.func (.yield l) #[] #[]]++lb) W fun e W'=>(∃ v,e=.returned v)∧J xs W'
def roundEnd (R:Nat→Prop) (I:World→Prop) (W:World):Exit→Act→World→Prop
 | .normal,_,W'=>a4s R W W'∧I W'
 | _,_,_=>False
theorem ab9 {α:Type} {n:Nat} {P:Program} {g:Operand} {ps:Array Tmp} {assign body:Code} {Q:Exit→Act→World→Prop} {a:Act} {w:World}
  {gf:Nat} {lb:Array Value} (hg:a.eval g=.func (.func gf) #[] lb) (eg:∀ args w,(callFunc gf args).run P w=.ok (.enter gf args) w)
  {V:α→Array Value→World→Prop} {dep:Nat→Prop} {xs:List α} (hseq:aMo (n - 1) P gf lb V dep xs w)
  (hps:∀ x v W,V x v W→v.size=ps.size) (hdep:∀ k,dep k→k < w.heap.size) (R:Nat→Prop) (hR:∀ k,R k→k < w.heap.size∧¬ dep k)
  (I:List α→World→Prop) (hI:∀ pre A B,Below w.heap.size A B→I pre A→I pre B) (h0:I [] w)
  (aWn:∀ (l:Nat) (pre:List α) (x:α) (v:Array Value) (W:World),I pre W→V x v W→(∃ suf,xs=pre++x :: suf)→w.heap.size+2≤W.heap.size→l=w.heap.size+1→(∀ ad:Addr,ad.block=l→W.cell? ad=none) →
   assign.wpIn (Fence.wide.inRound l) (n - 1 - 1) P (Exit.then (fun a₁ W₁=>W₁=W∧∀ W2,Below w.heap.size W W2→(∀ k,k < W.heap.size→k≠l→W2.heap[k]? = W.heap[k]?)→W2.heap.size=W.heap.size →
     body.wpIn (Fence.wide.inRound l) (n - 1 - 1) P (roundEnd R (I (pre ++ [x])) W2) a₁ W2) (fun _ _ _=>False))
    { tmps:=(ps.zip v).foldl (fun t (p,v)=>t.setIfInBounds p v) a.tmps,defers:=[] } W)
  (hdone:∀ (D:Nat) (W:World),I xs W→w.heap.size≤D→W.heap[D]? = some (.deferred (some []))→Q .normal { a with defers:={ target:=.collected D,args:=#[] } :: a.defers } W) :
  (Code.rangeFunc g ps assign body).wpIn Fence.wide n P Q a w:=by
 refine wpIn_rangeFunc ?_
 intro fn hfn
 show ∃ (l:Nat) (mark:List Deferred) (w₁:World) (d:Deferred) (w₁':World) (f:FuncId) (args:Array Value) (w₂:World),(Instr.enterLoop fn a.tmps ps assign body none).run P w=.ok (l,mark) w₁∧_
 obtain ⟨rec,hrec⟩ : ∃ rec:LoopState→Option Code→Loop,rec=fun st pe=>{ state:=st,pending:=pe,fn,tmps:=a.tmps,params:=ps,assign,body,defers:=w.heap.size }:=⟨_,rfl⟩
 obtain ⟨W1,hW1⟩ : ∃ W1,(w.alloc (.deferred (some []))).alloc (.loop (rec .ready none))=W1:=⟨_,rfl⟩
 have hz1:W1.heap.size=w.heap.size+2:=by rw [← hW1];simp
 have hL1:W1.heap[w.heap.size+1]? = some (.loop (rec .ready none)):=by
  rw [← hW1];have:=World.alloc_heap_new (w.alloc (.deferred (some []))) (.loop (rec .ready none));rwa [World.size_alloc] at this
 have hK1:W1.heap[w.heap.size]? = some (.deferred (some [])):=by
  rw [← hW1];exact (Below.heap_alloc _ _ _ (by simp)).trans (World.alloc_heap_new w _)
 have hb1:Below w.heap.size w W1:=by
  rw [← hW1];exact ((Below.refl _ w).alloc (Nat.le_refl _) _).alloc (by simp) _
 have hI1:I [] W1:=hI _ _ _ hb1 h0
 refine ⟨w.heap.size+1,[{ target:=.collected w.heap.size,args:=#[] }],W1,{ target:=.fn (.func gf) lb,args:=#[.func (.yield (w.heap.size+1)) #[] #[]] },W1,gf,
  #[.func (.yield (w.heap.size+1)) #[] #[]]++lb,W1,?_,?_,?_,?_,?_,?_⟩
 ·rw [← hW1,hrec];exact run_enterLoop_outer _ _ _ _ _
 ·simp only [resolve,hg]
  simp [go_sem]
 ·intro f' _;trivial
 ·simp [invoke,go_sem,eg]
 ·intro h;cases h
 ·refine (hseq (w.heap.size+1) (fun k=>R k∨k=w.heap.size+1)
   (fun pre W=>I pre W∧W.heap[w.heap.size+1]? = some (.loop (rec .ready none))∧W.heap[w.heap.size]? = some (.deferred (some [])))
   W1 hb1 ?_ ?_ ?_ ⟨hI1,hL1,hK1⟩).mono ?_
  ·rintro k (hk | rfl)
   ·exact ⟨by have:=(hR k hk).1;omega,(hR k hk).2⟩
   ·exact ⟨by omega,fun hd=>by have:=hdep _ hd;omega⟩
  ·rintro pre A B hAB ⟨hi,hl,hk⟩
   exact ⟨hI pre A B (hAB.mono (by omega)) hi,(hAB.block _ (by omega)).trans hl,(hAB.block _ (by omega)).trans hk⟩
  ·rintro pre x v W ⟨hi,hl,hk⟩ hV hsuf
   have hlt:w.heap.size+1 < W.heap.size:=(Array.getElem?_eq_some_iff.1 hl).1
   have hy:=run_yield (P:=P) (args:=v) hl (by rw [hrec];exact hps x v W hV)
   rw [hrec] at hy
   refine ⟨fn,_,assign,body,hy,roundIn_of_wpIn hfn (wpIn_mono (aWn (w.heap.size+1) pre x v W hi hV hsuf (by omega) rfl (fun ad had=>by unfold World.cell?;rw [had,hl])) ?_)⟩
   rintro e a₁ W₁ hp
   cases e with
   | normal =>
    obtain ⟨rfl,hp⟩:=hp
    refine ⟨_,run_beginRound hl (by rw [hrec]),?_⟩
    have hl2:(W₁.putObj (w.heap.size+1) (.loop { rec .ready none with state:=.busy })).heap[w.heap.size+1]? = some (.loop { rec .ready none with state:=.busy }):=World.putObj_heap_same hlt
    have hk2:(W₁.putObj (w.heap.size+1) (.loop { rec .ready none with state:=.busy })).heap[w.heap.size]? = some (.deferred (some [])):=(World.putObj_heap_other (by omega)).trans hk
    have hbp:∀ (A:World) (o:Obj),w.heap.size+1 < A.heap.size→Below w.heap.size A (A.putObj (w.heap.size+1) o):=fun A o _=>⟨rfl,rfl,rfl,by simp [World.putObj],fun k hk=>World.putObj_heap_other (by omega)⟩
    refine wpIn_mono (hp _ (hbp _ _ hlt) (fun k _ hne=>World.putObj_heap_other (by omega)) (by simp [World.putObj])) ?_
    rintro e2 a2 W3 hp2
    cases e2 with
    | normal =>
     obtain ⟨hk3,hi3⟩:=hp2
     have hnR:∀ k,w.heap.size≤k→¬ R k:=fun k hk hr=>by have:=(hR k hr).1;omega
     have hl3:W3.heap[w.heap.size+1]? = some (.loop { rec .ready none with state:=.busy }):=(hk3.2 _ (by simp [World.putObj];omega) (hnR _ (by omega))).trans hl2
     have hk3':W3.heap[w.heap.size]? = some (.deferred (some [])):=(hk3.2 _ (by simp [World.putObj];omega) (hnR _ (by omega))).trans hk2
     have hlt3:=(Array.getElem?_eq_some_iff.1 hl3).1
     have hr:=run_endRound (P:=P) none hl3
     rw [hrec] at hr
     refine ⟨_,_,hr,rfl,⟨hI _ _ _ (hbp _ _ hlt3) hi3,?_,?_⟩,?_⟩
     ·rw [hrec];exact World.putObj_heap_same hlt3
     ·exact (World.putObj_heap_other (by omega)).trans hk3'
     ·exact ((a4s.putObj _ _ _ (Or.inr rfl)).trans (hk3.mono fun k h=>Or.inl h)).trans (a4s.putObj _ _ _ (Or.inr rfl))
    | _=>exact hp2.elim
   | _=>exact hp.elim
  ·rintro e W2 ⟨⟨v,rfl⟩,hi,hl,hk⟩
   have hlt2:w.heap.size+1 < W2.heap.size:=(Array.getElem?_eq_some_iff.1 hl).1
   have hb2:∀ o:Obj,Below w.heap.size W2 (W2.putObj (w.heap.size+1) o):=fun o=>⟨rfl,rfl,rfl,by simp [World.putObj],fun k hk=>World.putObj_heap_other (by omega)⟩
   have hr:=run_endLoop (P:=P) hl (by rw [hrec];simp)
   have hp:(rec .ready none).pending=none:=by rw [hrec]
   rw [hp] at hr
   exact ⟨none,_,hr,hdone _ _ (hI _ _ _ (hb2 _) hi) (Nat.le_refl _) ((World.putObj_heap_other (by omega)).trans hk)⟩
end Go.Proofs.YtopgdlblfieljaaGreatDoor
namespace Go.Proofs.YtopgdlblfieljaaGreatDoor
open Go.RowKit
set_option maxHeartbeats 400000 in
theorem an2 (a:Option Addr) (n c:Nat) (w:World) :
  Calls Tryz.prog 142 #[.slice a n c] w fun e w'=>e=.returned (.func (.func 163) #[] #[.pointer (some ⟨w.heap.size,0,none⟩)])∧w' = w.alloc (.cells #[.slice a n c] 191):=by
 have hmf:∀ (fn:Fn) (first cap:Array Value) (w:World),(Instr.makeFunc fn first cap).run Tryz.prog w=.ok (.func fn first cap) w:=fun _ _ _ _=>rfl
 go_enter Tryz.func142,Tryz.ntmps142
 repeat' (first | go_skip | go_guarded | go_step | go_upon)
 go_ret
 exact ⟨rfl,rfl⟩
end Go.Proofs.YtopgdlblfieljaaGreatDoor
namespace Go.Proofs.YtopgdlblfieljaaGreatDoor
namespace Sha
def force {α:Type} (k:Nat→α) (n:Nat):α:=Nat.rec (motive:=fun _=>α) (k 0) (fun m _=>k (Nat.succ m)) n
theorem force_eq {α:Type} (k:Nat→α) (n:Nat):force k n=k n:=by cases n<;>rfl
def nx (r:List Nat):Nat:=(r.getD 15 0+aCt (r.getD 14 0)+r.getD 6 0+aCs (r.getD 1 0)) % 4294967296
def goR {α:Type} (k:List Nat→α) (n:Nat):List Nat→α:=Nat.rec (motive:=fun _=>List Nat→α) k (fun _ ih r=>force (fun x=>ih (x :: r)) (nx r)) n
theorem ae9 (l:List Nat) (i:Nat) (h:i < l.length):l.getD i 0=l.reverse.getD (l.length - 1 - i) 0:=by
 rw [List.getD_eq_getElem?_getD,List.getD_eq_getElem?_getD,List.getElem?_reverse (by omega)]
 congr 2
 omega
theorem aG4 (f:Nat→Nat) (k:Nat) (h:16≤k):next (sch f k)=nx (sch f k).reverse:=by
 unfold next nx
 have hl:=a4u f k
 rw [ae9 _ ((sch f k).length - 16) (by omega),ae9 _ ((sch f k).length - 15) (by omega),ae9 _ ((sch f k).length - 7) (by omega),ae9 _ ((sch f k).length - 2) (by omega),hl]
 rw [show k - 1 - (k - 16)=15 by omega,show k - 1 - (k - 15)=14 by omega,show k - 1 - (k - 7)=6 by omega,show k - 1 - (k - 2)=1 by omega]
theorem aMe {α:Type} (κ:List Nat→α) (f:Nat→Nat):∀ (n k:Nat),16≤k→goR κ n (sch f k).reverse=κ (sch f (k+n)).reverse
 | 0,k,_=>rfl
 | n+1,k,h=>by
  show force (fun x=>goR κ n (x :: (sch f k).reverse)) (nx (sch f k).reverse)=_
  rw [force_eq,← aG4 f k h]
  have e:next (sch f k) :: (sch f k).reverse=(sch f (k+1)).reverse:=by
   show _=(sch f k ++ [if k < 16 then word f k else next (sch f k)]).reverse
   rw [if_neg (by omega)]
   simp
  rw [e,aMe κ f n (k+1) (by omega),show k+1+n=k+(n+1) by omega]
abbrev K8 (α:Type):=Nat→Nat→Nat→Nat→Nat→Nat→Nat→Nat→α
def St.to {α:Type} (s:St) (κ:K8 α):α:=κ s.a s.b s.c s.d s.e s.f s.g s.h
def one {α:Type} (k w:Nat) (κ:K8 α) (a b c d e f g h:Nat):α :=
 force (fun x=>force (fun y=>force (fun z=>force (fun u=>κ z a b c u e f g) ((d+x) % 4294967296)) ((x+y) % 4294967296)) ((b4w a+((a &&& b) ^^^ (a &&& c) ^^^ (b &&& c))) % 4294967296)) ((h+b4v e+((e &&& f) ^^^ ((4294967295 - e) &&& g))+k+w) % 4294967296)
theorem aUx {α:Type} (k w:Nat) (κ:K8 α) (s:St):s.to (one k w κ)=(rnd s k w).to κ:=by
 show one k w κ s.a s.b s.c s.d s.e s.f s.g s.h=_
 unfold one
 simp only [force_eq]
 rfl
noncomputable def rds {α:Type} (κ:K8 α) (ks:List Nat):List Nat→K8 α:=List.rec (motive:=fun _=>List Nat→K8 α) (fun _=>κ) (fun k _ ih ws=>List.rec (motive:=fun _=>K8 α) κ (fun w ws _=>one k w (ih ws)) ws) ks
theorem aIt {α:Type} (κ:K8 α) (ws:List Nat) (hw:ws.length=64) (s:St):∀ (n i:Nat),i+n=64→(ac9 ws s i).to (rds κ (K.drop i) (ws.drop i))=(ac9 ws s 64).to κ
 | 0,i,h=>by
  have:i=64:=by omega
  subst this
  have hK:K.length=64:=rfl
  rw [List.drop_of_length_le (by omega)]
  generalize ac9 ws s 64=t
  rfl
 | n+1,i,h=>by
  have hK:K.length=64:=rfl
  have e1:K.drop i=K.getD i 0 :: K.drop (i+1):=by
   rw [List.drop_eq_getElem_cons (by omega),List.getD_eq_getElem?_getD,List.getElem?_eq_getElem (by omega)];rfl
  have e2:ws.drop i=ws.getD i 0 :: ws.drop (i+1):=by
   rw [List.drop_eq_getElem_cons (by omega),List.getD_eq_getElem?_getD,List.getElem?_eq_getElem (by omega)];rfl
  rw [e1,e2]
  show (ac9 ws s i).to (one (K.getD i 0) (ws.getD i 0) (rds κ (K.drop (i+1)) (ws.drop (i+1))))=_
  rw [aUx]
  exact aIt κ ws hw s n (i+1) (by omega)
theorem aO6 {α:Type} (κ:K8 α) (ws:List Nat) (hw:ws.length=64) (s:St):s.to (rds κ K ws)=(ac9 ws s 64).to κ:=aIt κ ws hw s 64 0 rfl
noncomputable def rev (l r:List Nat):List Nat:=List.rec (motive:=fun _=>List Nat→List Nat) (fun r=>r) (fun x _ ih r=>ih (x :: r)) l r
theorem rev_eq:∀ l r:List Nat,rev l r=l.reverse++r
 | [],r=>rfl
 | x :: l,r=>by show rev l (x :: r)=_;rw [rev_eq l];simp
def aQf {α:Type} (s:St) (κ:K8 α) (a b c d e f g h:Nat):α :=
 force (fun a=>force (fun b=>force (fun c=>force (fun d=>force (fun e=>force (fun f=>force (fun g=>force (fun h=>κ a b c d e f g h) ((s.h+h) % 4294967296)) ((s.g+g) % 4294967296)) ((s.f+f) % 4294967296)) ((s.e+e) % 4294967296)) ((s.d+d) % 4294967296)) ((s.c+c) % 4294967296)) ((s.b+b) % 4294967296)) ((s.a+a) % 4294967296)
theorem aQe {α:Type} (s t:St) (κ:K8 α):t.to (aQf s κ)=(s.add t).to κ:=by
 show aQf s κ t.a t.b t.c t.d t.e t.f t.g t.h=(s.add t).to κ
 unfold aQf
 simp only [force_eq]
 rfl
theorem aO5 {α:Type} (s:St) (κ:K8 α) (ws:List Nat) (hl:ws.length=64):s.to (rds (aQf s κ) K (rev ws.reverse []))=(s.add (ac9 ws s 64)).to κ:=by
 have hr:rev ws.reverse []=ws:=by rw [rev_eq,List.append_nil,List.reverse_reverse]
 rw [hr]
 exact (aO6 (aQf s κ) ws hl s).trans (aQe s (ac9 ws s 64) κ)
end Sha
end Go.Proofs.YtopgdlblfieljaaGreatDoor
namespace Go.CE
namespace V
open Go.Proofs Go.Proofs.YtopgdlblfieljaaGreatDoor Go.RowKit
variable [Sym]
def wrd:AV→Option Nat
 | .i .u32 (.ofNat n)=>match Nat.ble n 4294967295 with
  | true=>some n
  | false=>none
 | _=>none
def aRn:List AV→Option (List Nat)
 | []=>some []
 | v :: l=>match wrd v,aRn l with
  | some n,some r=>some (n :: r)
  | _,_=>none
def aq4 (n:Nat):AV:=.i .u32 (.ofNat n)
theorem aSk {v:AV} {n:Nat} (h:wrd v=some n):v=aq4 n∧n < 4294967296:=by
 unfold wrd at h
 split at h
 ·split at h
  ·rename_i hb
   cases h
   have:=a6e hb
   exact ⟨rfl,by omega⟩
  ·cases h
 ·cases h
theorem avk:∀ {l:List AV} {r:List Nat},aRn l=some r→l=r.map aq4∧∀ n∈r,n < 4294967296
 | [],r,h=>by cases h;exact ⟨rfl,fun n h=>by cases h⟩
 | v :: l,r,h=>by
  unfold aRn at h
  cases h1:wrd v with
  | none=>rw [h1] at h;cases h
  | some n =>
   cases h2:aRn l with
   | none=>rw [h1,h2] at h;cases h
   | some r' =>
    rw [h1,h2] at h
    cases h
    obtain ⟨rfl,hn⟩:=aSk h1
    obtain ⟨rfl,hr⟩:=avk h2
    refine ⟨rfl,fun m hm=>?_⟩
    rcases List.mem_cons.mp hm with rfl | hm
    ·exact hn
    ·exact hr m hm
def aRo (l:List AV):Bool:=match aRn l with
 | some r=>a7w r Sha.K
 | none=>false
theorem a6z:∀ {l:List AV} {r:List Nat},a4c l=some r→l=r.map (fun n=>AV.i .u8 (.ofNat n))∧∀ n∈r,n < 256
 | [],r,h=>by cases h;exact ⟨rfl,fun n h=>by cases h⟩
 | v :: l,r,h=>by
  cases v with
  | i k n =>
   cases k<;>first | (cases h;done) | skip
   cases n with
   | negSucc n=>cases h
   | ofNat n =>
    have h:(match Nat.ble n 255,a4c l with
     | true,some r=>some (n :: r)
     | _,_=>none)=some r:=h
    cases hb:Nat.ble n 255 with
    | false=>rw [hb] at h;cases h
    | true =>
     cases h2:a4c l with
     | none=>rw [hb,h2] at h;cases h
     | some r' =>
      rw [hb,h2] at h
      cases h
      obtain ⟨rfl,hr⟩:=a6z h2
      refine ⟨rfl,fun m hm=>?_⟩
      rcases List.mem_cons.mp hm with rfl | hm
      ·have:=a6e hb;omega
      ·exact hr m hm
  | _=>cases h
theorem a5y {k o c:Nat} {m m':Tr AB} {n n':Nat} {l l' w w':List LE} {r:List AV} (h:rdK k o c ⟨m,n,l,w⟩=some (r,⟨m',n',l',w'⟩)):m' = m∧n' = n∧∃ cs T,m.get k=some (.cells cs T)∧cut cs o c=some r:=by
 unfold rdK at h
 dsimp only at h
 split at h
 ·rename_i cs T hk
  split at h
  ·rename_i q hq
   simp only [Option.some.injEq,Prod.mk.injEq,St.mk.injEq] at h
   obtain ⟨rfl,rfl,rfl,_,_⟩:=h
   exact ⟨rfl,rfl,cs,T,hk,hq⟩
  ·cases h
 ·cases h
theorem a7o {α:Type} {o:Option α} {s s':CE.St} {a:α} (h:CE.lift o s=some (a,s')):o=some a∧s' = s:=by
 cases o with
 | none=>cases h
 | some b=>cases h;exact ⟨rfl,rfl⟩
theorem b3g (r:List AV) (h:r=Sha.K.map aq4):r.length=64:=by rw [h,List.length_map];rfl
theorem aWk:aca.size=64:=by unfold aca;simp;rfl
variable [a0n]
end V
end Go.CE
