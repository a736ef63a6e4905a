/-
  Map stores, lengths, append, copy: the abstract and the real.
-/
import Derived.Test.YtopgdlblfieljaaGreatDoorPkCeOne
import Derived.CallsIn
import Derived.OrdersIn
import Derived.RangeFuncLeaves
import Derived.RangeFuncNested
import Derived.LoopNIn
set_option linter.unusedSectionVars false
set_option linter.constructorNameAsVariable false
set_option linter.unusedVariables false
set_option linter.unusedSimpArgs false
namespace Go.CE
variable [Sym] [a0n]
open Go.RowKit
variable {P:Program} {B:Nat} {σ:Sg}

theorem SR.heap {m:Tr AB} {W W2:World} (hs:SR P B σ m W) (h:W2.heap=W.heap):SR P B σ m W2 :=
 ⟨fun k x hk=>let ⟨q,o,a,b,c⟩:=hs.mr k x hk;⟨q,o,a,by rw [h];exact b,c⟩,hs.inj,hs.ro,by rw [h];exact hs.hB⟩
theorem ax1 {d:TypeDesc} {v w:Value} (h:Instr.sameNow d v w=some true):Instr.sameBits 10000 w v=true:=by
 unfold Instr.sameNow at h
 split at h
 ·split at h
  ·rename_i hk
   simp at h
   simp [Instr.sameBits,hk,h]
  ·cases h
 ·simp only [Option.some.injEq] at h
  simp only [Instr.sameBits]
  rw [beq_toListBytes] at h ⊢
  simp at h ⊢
  exact h.symm
 ·simp at h;simp [Instr.sameBits,h]
 ·cases h
theorem aMw {d:TypeDesc} {x y:AV} {v w:Value} (hx:VR σ x v) (hy:VR σ y w) (clock:Nat):∀ {es es':List (AV×AV×Nat)} {en:List MapEntry} {c':Nat},ER σ es en→aBu (a8y d) x y clock es=some (es',c')→∀ i,
  (∃ j e u,en[j]? = some e∧Instr.findNow d v en i=some (some (i+j,u))∧Instr.sameNow d v e.key=some true∧c' = clock∧ER σ es' (en.set j { e with key:=v,val:=w })) ∨
  (Instr.findNow d v en i=some none∧c' = clock+1∧ER σ es' (en ++ [{ key:=v,val:=w,born:=clock }])):=by
 intro es
 induction es with
 | nil =>
  intro es' en c' h hu i
  cases en with
  | cons _ _=>have:=h.1;simp at this
  | nil =>
   simp only [aBu] at hu;cases hu
   refine .inr ⟨rfl,rfl,rfl,fun i a b bn e h1 h2=>?_⟩
   cases i with
   | zero=>simp at h1 h2;obtain ⟨rfl,rfl,rfl⟩:=h1;subst h2;exact ⟨hx,hy,rfl⟩
   | succ i=>simp at h1
 | cons e es ih =>
  intro es' en c' h hu i
  cases en with
  | nil=>have:=h.1;simp at this
  | cons f en =>
   obtain ⟨a,b,bn⟩:=e
   obtain ⟨h1,h2,h3⟩:=h.2 0 a b bn f rfl rfl
   simp only [aBu] at hu
   split at hu
   ·rename_i hk;cases hu
    have hs:=ae6 hk hx h1
    refine .inl ⟨0,f,f.val,rfl,?_,hs,rfl,?_⟩
    ·simp only [Instr.findNow,hs];rfl
    ·refine ⟨by have:=h.1;simpa using this,fun i a' b' bn' e' q1 q2=>?_⟩
     cases i with
     | zero=>simp at q1 q2;obtain ⟨rfl,rfl,rfl⟩:=q1;subst q2;exact ⟨hx,hy,h3⟩
     | succ i=>exact h.2 (i+1) a' b' bn' e' (by simpa using q1) (by simpa using q2)
   ·rename_i hk
    split at hu
    ·rename_i r c hr;cases hu
     have hs:=ae6 hk hx h1
     rcases ih h.tail hr (i+1) with ⟨j,e,u,p1,p2,p3,p4,p5⟩ | ⟨p1,p2,p3⟩
     ·refine .inl ⟨j+1,e,u,by simpa using p1,?_,p3,p4,?_⟩
      ·simp only [Instr.findNow,hs];rw [p2];congr 3;omega
      ·refine ⟨by have:=p5.1;simpa using this,fun i a' b' bn' e' q1 q2=>?_⟩
       cases i with
       | zero=>exact h.2 0 a' b' bn' e' (by simpa using q1) (by simpa using q2)
       | succ i=>exact p5.2 i a' b' bn' e' (by simpa using q1) (by simpa using q2)
     ·refine .inr ⟨by simp only [Instr.findNow,hs];exact p1,p2,?_⟩
      refine ⟨by have:=p3.1;simpa using this,fun i a' b' bn' e' q1 q2=>?_⟩
      cases i with
      | zero=>exact h.2 0 a' b' bn' e' (by simpa using q1) (by simpa using q2)
      | succ i=>exact p3.2 i a' b' bn' e' (by simpa using q1) (by simpa using q2)
    ·cases hu
   ·cases hu
theorem aSl {k c x x':Nat} {es:List (AV×AV×Nat)} {m m':Tr AB} {l l' w w':List LE} {u:Unit} (h:wrM k es c ⟨m,x,l,w⟩=some (u,⟨m',x',l',w'⟩)):m' = m.set k (some (.map es c))∧x' = x∧roB≤k:=by
 unfold wrM at h
 dsimp only at h
 cases hro:Nat.ble roB k with
 | false=>rw [hro] at h;cases h
 | true =>
  rw [hro] at h
  cases hm:m.get k with
  | none=>rw [hm] at h;cases h
  | some b =>
   rw [hm] at h
   cases b with
   | map _ _ =>
    simp only [Option.some.injEq,Prod.mk.injEq,St.mk.injEq] at h
    obtain ⟨-,rfl,rfl,-,-⟩:=h
    exact ⟨rfl,rfl,a6e hro⟩
   | _=>cases h
theorem ah9 {W:World} {b:Nat} {en:Array MapEntry} {c:Nat} (o:Obj) (h:W.heap[b]? = some (.map en c)):(setObj b o).run P W=.ok () { W with heap:=W.heap.setIfInBounds b o }:=by
 simp only [setObj,Sem.run,h]
theorem aEx {W:World} {b:Nat} {o o':Obj} (h:W.heap[b]? = some o):(W.heap.setIfInBounds b o')[b]? = some o':=by
 have:=(Array.getElem?_eq_some_iff.1 h).1
 rw [Array.getElem?_setIfInBounds,if_pos rfl,if_pos this]
theorem Sim.mapUpdate {t:Nat} {x y z:AV} {v w u:Value} (hx:VR σ x v) (hy:VR σ y w) (hz:VR σ z u):Sim P B σ (a3x P t x y z) (Instr.mapUpdate t v w u) fun _ _ _=>True:=by
 unfold CE.a3x
 split
 ·rename_i kt vt s b zz r hty
  obtain ⟨F⟩:=a0z hty
  have hd:=a9o (show a8y F.desc=.map kt vt from F.ed.symm)
  split
  ·rename_i tk hk
   obtain ⟨Fk⟩:=a0z hk
   intro τ m n l wl W a m' n' l' wl' hle hs hx2 hf
   obtain ⟨_,s1,h1,h2⟩:=a08 hx2
   obtain ⟨hsk,rfl⟩:=a4b h1
   obtain ⟨⟨es,clock⟩,⟨m1,n1,l1,w1⟩,h3,h4⟩:=a08 h2
   obtain ⟨rfl,rfl,hm⟩:=aIu h3
   dsimp only at hm h4
   cases hu:aBu tk.d y z clock es with
   | none=>rw [hu] at h4;cases h4
   | some ec =>
    obtain ⟨es',c'⟩:=ec
    rw [hu] at h4
    obtain ⟨rfl,rfl,hro⟩:=aSl h4
    cases hx with
    | m _ q hσ =>
     have hσ':=hle _ _ hσ
     obtain ⟨q',o,g1,g2,en,rfl,g3,g4⟩:=hs.mr r _ hm
     rw [hσ'] at g1;cases g1
     have hen:ER τ es en.toList:=⟨by simpa using g3,fun i x y bn e a b=>g4 i x y bn e a (by rw [← Array.getElem?_toList];exact b)⟩
     rw [Fk.ed] at hu
     have hB:B≤q.b:=hs.ro r q hσ' hro
     have fin:∀ (en':Array MapEntry) (c2:Nat),ER τ es' en'.toList→c2=c'→SR P B τ (m1.set r (some (.map es' c'))) { W with heap:=W.heap.setIfInBounds q.b (.map en' c2) }∧Below B W { W with heap:=W.heap.setIfInBounds q.b (.map en' c2) }:=fun en' c2 he hc=>by
      subst hc
      refine ⟨hs.written (by rw [hm];simp) hσ' (aEx g2) ⟨en',rfl,by have:=he.1;simpa using this,fun i x y bn e a b=>he.2 i x y bn e a (by rw [Array.getElem?_toList];exact b)⟩ (fun y hy=>?_) (by simp),⟨rfl,rfl,rfl,by simp,fun y hy=>?_⟩⟩
      ·show (W.heap.setIfInBounds q.b _)[y]? = _
       rw [Array.getElem?_setIfInBounds,if_neg (by omega)]
      ·show (W.heap.setIfInBounds q.b _)[y]? = _
       rw [Array.getElem?_setIfInBounds,if_neg (by omega)]
     have rk:(Instr.findKey kt w en.toList).run P W=(match Instr.findNow Fk.desc w en.toList 0 with | some r=>(Pure.pure r:Sem _) | none=>Instr.findAsking kt w en.toList).run P W:=by
      simp only [Instr.findKey,Sem.run_bind,Fk.run_underlying,Result.andThen_ok]
      cases Instr.findNow Fk.desc w en.toList 0<;>rfl
     have hget:(getObj q.b).run P W=.ok (.map en clock) W:=aha g2 (by intro c t f;simp)
     rcases aMw (hy.mono hle) (hz.mono hle) clock hen hu 0 with ⟨j,e,u',p1,p2,p3,p4,p5⟩ | ⟨p1,p2,p3⟩
     ·rw [Nat.zero_add] at p2
      have he:en[j]? = some e:=by rw [← Array.getElem?_toList];exact p1
      have hen':ER τ es' (en.modify j fun e=>{ e with key:=w,val:=u }).toList:=by
       refine ⟨by have:=p5.1;simpa using this,fun i x y bn e' a b=>p5.2 i x y bn e' a ?_⟩
       rw [Array.getElem?_toList,Array.getElem?_modify] at b
       rw [List.getElem?_set]
       by_cases hij:j=i
       ·subst hij
        rw [if_pos rfl] at b ⊢
        rw [he] at b
        have hjl:j < en.toList.length:=by have:=(Array.getElem?_eq_some_iff.1 he).1;simpa using this
        rw [if_pos hjl]
        simpa using b
       ·rw [if_neg hij] at b ⊢
        rw [Array.getElem?_toList];exact b
      obtain ⟨f1,f2⟩:=fin _ clock hen' p4.symm
      refine ⟨τ,_,(),?_,Grow.refl _ _ _,f1,trivial,f2⟩
      simp only [Instr.mapUpdate,Sem.run_bind,F.run_underlying,hd,Result.andThen_ok,hget,run_checkKey Fk hsk,rk,p2,Sem.run_pure]
      have hks:Instr.keyThatStays (((en[j]?).map (·.key)).getD w) w=Pure.pure w:=by
       rw [he];simp only [Option.map_some,Option.getD_some]
       unfold Instr.keyThatStays
       rw [if_pos (ax1 p3)]
      rw [hks]
      simp only [Sem.run_pure,Result.andThen_ok]
      exact ah9 _ g2
     ·have hen':ER τ es' (en.push { key:=w,val:=u,born:=clock }).toList:=by rw [Array.toList_push];exact p3
      obtain ⟨f1,f2⟩:=fin _ (clock+1) hen' p2.symm
      refine ⟨τ,_,(),?_,Grow.refl _ _ _,f1,trivial,f2⟩
      simp only [Instr.mapUpdate,Sem.run_bind,F.run_underlying,hd,Result.andThen_ok,hget,run_checkKey Fk hsk,rk,p1,Sem.run_pure]
      exact ah9 _ g2
  ·exact Sim.fail
 ·exact Sim.fail
theorem Sim.len {t:Nat} {x:AV} {v:Value} (hx:VR σ x v) (ts:Array Nat) (ty:Nat) (args:Array Value) (ht:ts[0]? = some t) (ha:args[0]? = some v):Sim P B σ (ayz P t x) (Builtin.len_ ts ty args) VR:=by
 unfold CE.ayz
 split
 ·exact Sim.fail
 ·rename_i tt hty
  obtain ⟨F⟩:=a0z hty
  split
  ·rename_i e0;rw [F.ed] at e0;have h0:=a8c e0
   cases hx with
   | s _ bs hb =>
    refine Sim.a7n (g:=Pure.pure (goInt bs.size)) (fun W=>?_) (Sim.ret fun τ _=>?_)
    ·simp only [Builtin.len_,ht,ha,Sem.run_bind,F.run_underlying,h0,Result.andThen_ok]
    ·have:(bs.size:Int)=Int.ofNat (List.length (bs.data.toList.map (·.toNat))):=by simp
     rw [hb,← this];exact .i _ _
  ·rename_i n e e0;rw [F.ed] at e0;have h0:=a8d e0
   refine Sim.a7n (g:=Pure.pure (goInt n)) (fun W=>?_) (Sim.ret fun τ _=>.i _ _)
   simp only [Builtin.len_,ht,ha,Sem.run_bind,F.run_underlying,h0,Result.andThen_ok]
  ·rename_i e a n c e0;rw [F.ed] at e0;have h0:=a2e e0
   obtain ⟨aa,cc,rfl⟩ : ∃ aa cc,v=.slice aa n cc:=by cases hx<;>exact ⟨_,_,rfl⟩
   refine Sim.a7n (g:=Pure.pure (goInt n)) (fun W=>?_) (Sim.ret fun τ _=>.i _ _)
   simp only [Builtin.len_,ht,ha,Sem.run_bind,F.run_underlying,h0,Result.andThen_ok]
  ·rename_i e e0;rw [F.ed] at e0;have h0:=a2e e0
   cases hx
   refine Sim.a7n (g:=Pure.pure (goInt (0:Nat))) (fun W=>?_) (Sim.ret fun τ _=>.i _ _)
   simp only [Builtin.len_,ht,ha,Sem.run_bind,F.run_underlying,h0,Result.andThen_ok]
  ·rename_i k e e0;rw [F.ed] at e0;have h0:=a9o e0
   cases hx
   refine Sim.a7n (g:=Pure.pure (goInt (0:Nat))) (fun W=>?_) (Sim.ret fun τ _=>.i _ _)
   simp only [Builtin.len_,ht,ha,Sem.run_bind,F.run_underlying,h0,Result.andThen_ok]
   rfl
  ·rename_i k e r e0;rw [F.ed] at e0;have h0:=a9o e0
   cases hx with
   | m _ q hσ =>
    refine Sim.a7n (g:=getObj q.b >>= fun o=>match o with | .map es _=>Pure.pure (goInt es.size) | _=>stuck "len: map expected") (fun W=>?_) (Sim.bnd (Loc.rdM _) (fun _=>Loc.ret _) (Sim.rdM hσ) fun τ a o _ ⟨en,ho,hen⟩=>?_)
    ·simp only [Builtin.len_,ht,ha,Sem.run_bind,F.run_underlying,h0,Result.andThen_ok]
     cases (getObj q.b).run P W with
     | halt h w=>rfl
     | ok o w=>cases o<;>rfl
    ·subst ho
     refine Sim.ret fun υ _=>?_
     have:(en.size:Int)=Int.ofNat a.1.length:=by rw [hen.1];simp
     show VR υ _ (goInt en.size)
     unfold goInt
     rw [this];exact .i _ _
  ·exact Sim.fail
end Go.CE
namespace Go.CE
variable [Sym] [a0n]
open Go.RowKit
variable {P:Program} {B:Nat} {σ:Sg}

theorem LR.take {l:List AV} {c:Array Value} (h:LR σ l c) (n:Nat):LR σ (l.take n) (c.toList.take n).toArray :=
 ⟨by simp [h.len],fun i x v h1 h2=>by
  have hi:i < n:=by have:=(List.getElem?_eq_some_iff.1 h1).1;simp at this;omega
  rw [List.getElem?_take_of_lt hi] at h1
  rw [List.getElem?_toArray,List.getElem?_take_of_lt hi,Array.getElem?_toList] at h2
  exact h.get i x v h1 h2⟩
theorem aHp {α:Type} {l r:List α} {o n:Nat} (h:cut l o n=some r) {j:Nat} (hj:j≤n):cut l o j=some (r.take j):=by
 obtain ⟨e,hl⟩:=adl h
 have:(l.drop o).take j=r.take j:=by rw [e,List.take_take,Nat.min_eq_left hj]
 unfold cut
 dsimp only
 rw [this,List.length_take,hl,Nat.min_eq_left hj,aed]
theorem src_of {size k:Nat} {x:AV} {v:Value} {new:List AV} {m m':Tr AB} {n n':Nat} {l l' w w':List LE} {W:World} (hx:VR σ x v) (hs:SR P B σ m W) (h:aBi size x ⟨m,n,l,w⟩=some ((k,new),⟨m',n',l',w'⟩)) (hlen:new.length=k * size) :
  m' = m∧n' = n∧(∀ W,(Builtin.lenOf v).run P W=.ok k W)∧∀ j,j≤k→∃ nv,LR σ (new.take (j * size)) nv∧∀ W2:World,W2.heap=W.heap→(Builtin.firstCells size j v).run P W2=.ok nv W2:=by
 unfold aBi at h
 split at h
 ·obtain ⟨h1,h2⟩:=a0k h
  cases h1;cases h2;cases hx
  exact ⟨rfl,rfl,fun W=>rfl,fun j hj=>⟨#[],by simpa using LR.nil σ,fun W2 _=>rfl⟩⟩
 ·rename_i q o n0 c0
  obtain ⟨r,⟨m1,n1,l1,w1⟩,h1,h2⟩:=a08 h
  obtain ⟨h3,h4⟩:=a0k h2
  cases h3;cases h4
  obtain ⟨rfl,rfl,cs,T,hm,hc⟩:=a5y h1
  cases hx with
  | sl _ _ _ _ c' p hσ hle hx hg =>
   refine ⟨rfl,rfl,fun W=>rfl,fun j hj=>?_⟩
   have hc2:=aHp hc (Nat.mul_le_mul_right size hj)
   obtain ⟨nv,hr,hl⟩:=hs.part (P:=P) hm hσ hc2
   exact ⟨nv,hl,fun W2 hW=>hr W2 hW⟩
 ·obtain ⟨h1,h2⟩:=a0k h
  cases h1;cases h2;cases hx
  refine ⟨rfl,rfl,fun W=>rfl,fun j hj=>⟨#[],by simpa using LR.nil σ,fun W2 _=>?_⟩⟩
  have:j=0:=by omega
  subst this
  simp [Builtin.firstCells,loadCells,loadCellsFrom]
 ·rename_i bs
  obtain ⟨h1,h2⟩:=a0k h
  cases h1;cases h2
  cases hx with
  | s _ q hq =>
   refine ⟨rfl,rfl,fun W=>?_,fun j hj=>⟨((q.extract 0 j).data.map fun b=>Value.int .u8 b.toNat),?_,fun W2 _=>rfl⟩⟩
   ·have:q.size=bs.length:=by rw [hq];simp
    simp [Builtin.lenOf,this]
   ·have e1:(q.extract 0 j).data.toList=q.data.toList.take j:=by rw [ByteArray.data_extract,Array.toList_extract];simp
    have hbl:bs.length=q.data.size:=by rw [hq];simp
    have h1:j * size=j∨bs.length=0:=by
     simp at hlen
     rcases Nat.eq_zero_or_pos bs.length with e | e
     ·exact .inr e
     ·left
      have:size=1:=by
       have h5:bs.length * 1=bs.length * size:=by rw [Nat.mul_one];exact hlen
       exact (Nat.eq_of_mul_eq_mul_left e h5).symm
      rw [this,Nat.mul_one]
    refine ⟨?_,fun i x v hx hv=>?_⟩
    ·rcases h1 with h1 | h1
     ·rw [h1,Array.size_map,← Array.length_toList,e1];simp [hbl]
     ·rw [Array.size_map,← Array.length_toList,e1]
      have:q.data.size=0:=by rw [← hbl];exact h1
      have h0:bs = []:=List.eq_nil_of_length_eq_zero h1
      simp [h0,this]
    ·have hi:i < (bs.map fun c=>AV.i .u8 (.ofNat c)).length:=by have:=(List.getElem?_eq_some_iff.1 hx).1;simp at this ⊢;omega
     have hit:i < j * size:=by have:=(List.getElem?_eq_some_iff.1 hx).1;simp at this;omega
     rw [List.getElem?_take_of_lt hit,List.getElem?_map] at hx
     rw [Array.getElem?_map,← Array.getElem?_toList,e1] at hv
     rw [hq,List.getElem?_map] at hx
     by_cases hij:i < j
     ·rw [List.getElem?_take_of_lt hij] at hv
      cases hb:q.data.toList[i]? with
      | none=>rw [hb] at hx;cases hx
      | some b=>rw [hb] at hx hv;simp at hx hv;subst hx;subst hv;exact .i _ _
     ·rw [List.getElem?_take,if_neg hij] at hv;cases hv
 ·cases h

theorem azn (newLen:Nat):∀ (r c:Nat),Builtin.growBy newLen r c≤2 ^ r * (c+768):=by
 intro r
 induction r with
 | zero=>intro c;simp [Builtin.growBy]
 | succ r ih =>
  intro c
  simp only [Builtin.growBy]
  split
  ·have:1≤2 ^ (r+1):=Nat.one_le_two_pow
   calc c≤1 * (c+768):=by omega
    _≤2 ^ (r+1) * (c+768):=Nat.mul_le_mul_right _ this
  ·refine Nat.le_trans (ih _) ?_
   rw [Nat.pow_succ,Nat.mul_assoc]
   refine Nat.mul_le_mul_left _ ?_
   omega
theorem au1 (need c:Nat) (h:c < need):Builtin.nextslicecap need c≤16 * need+16 * 768:=by
 unfold Builtin.nextslicecap
 split
 ·omega
 ·split
  ·omega
  ·have hg:Builtin.growBy need 4 c≤16 * (c+768):=azn need 4 c
   exact Nat.le_trans hg (by omega)
theorem am6 {t:Nat} (h:afn P t=false) : ∃ d,P.underlying t=some d∧∀ k,d≠.int k:=by
 unfold afn at h
 split at h
 ·cases h
 ·rename_i ty hne hty
  obtain ⟨F⟩:=a0z hty
  refine ⟨F.desc,F.hu,fun k hk=>?_⟩
  have:=F.ed
  rw [hk] at this
  obtain ⟨d,a,b,c⟩:=ty
  exact hne k a b c (by simp only [a8y] at this;rw [this])
 ·cases h
section
variable {ts:Array Nat} {ty t xt e n k:Nat} {tt te:TY} {args:Array Value} {v:Value} {base:Option Addr} {c:Nat}
theorem a8f (F:TyF P t tt) (hd:F.desc=.slice e) (Fe:TyF P e te) (hx:afn P xt=false) (h0:ts[0]? = some t) (h1:ts[1]? = some xt) (a0:args[0]? = some (.slice base n c)) (a1:args[1]? = some v)
  (hl:∀ W,(Builtin.lenOf v).run P W=.ok k W) {W:World} {new:Array Value} (hn:(Builtin.firstCells te.size k v).run P W=.ok new W) (hle:n+k≤c) :
  (Builtin.append_ ts ty args).run P W=((match base with | some a=>storeCells (a.add (n * te.size)) new.toList | none=>Pure.pure ()).run P W).andThen fun _ W'=>.ok (.slice base (n+k) c) W':=by
 obtain ⟨d,hu,hdd⟩:=am6 hx
 have hm:∀ W,(underlying xt).run P W=.ok d W:=fun W=>Go.run_underlying hu W
 simp only [Builtin.append_,h0,h1,a0,a1,Sem.run_bind,F.run_underlying,hd,Fe.a4y,Result.andThen_ok,hm,Sem.run_pure]
 cases d with
 | int k=>exact absurd rfl (hdd k)
 | _ =>
  simp only [Bool.false_eq_true,if_false,Sem.run_bind,hl,Result.andThen_ok,if_pos hle,Bool.not_false,if_true,hn]
  cases base<;>simp only [Sem.run_bind,Sem.run_pure,Result.andThen_ok]
theorem aah (F:TyF P t tt) (hd:F.desc=.slice e) (Fe:TyF P e te) (hx:afn P xt=false) (h0:ts[0]? = some t) (h1:ts[1]? = some xt) (a0:args[0]? = some (.slice base n c)) (a1:args[1]? = some v)
  (hl:∀ W,(Builtin.lenOf v).run P W=.ok k W) {W:World} {old new:Array Value} (hn:∀ W2:World,W2.heap=W.heap→(Builtin.firstCells te.size k v).run P W2=.ok new W2)
  (ho:∀ W2:World,W2.heap=W.heap→(Builtin.firstCells te.size n (.slice base n c)).run P W2=.ok old W2) (hle : ¬ n+k≤c) (hs:n+k≤1000000) (hb:te.bytes≤100000) :
  ∃ nc,n+k≤nc∧(Builtin.append_ ts ty args).run P W=.ok (.slice (some ⟨W.heap.size,0,none⟩) (n+k) nc) (({ W with drawn:=W.drawn+1 }:World).alloc (.cells (old++new++Builtin.zeroCells Fe.z.cells (nc - (n+k))) e)):=by
 obtain ⟨d,hu,hdd⟩:=am6 hx
 have hm:∀ W,(underlying xt).run P W=.ok d W:=fun W=>Go.run_underlying hu W
 have hcap : ¬ Builtin.nextslicecap (n+k) c * Fe.info.bytes > 2 ^ 48:=by
  have h1:=au1 (n+k) c (by omega)
  rw [← Fe.eb]
  have h2:Builtin.nextslicecap (n+k) c * te.bytes≤(16 * 1000000+16 * 768) * 100000:=Nat.mul_le_mul (by omega) hb
  exact Nat.not_lt.2 (Nat.le_trans h2 (by decide))
 have hbig : ¬ (((n+k:Nat):Int) > IntKind.i64.max∧(False∨Fe.info.bytes=0)):=by
  rintro ⟨h,_⟩
  simp [IntKind.max,IntKind.signed,IntKind.bits] at h
  omega
 refine ⟨(Question.appendCap (n+k) c e).cut (W.tape W.drawn (.appendCap (n+k) c e)),by simp only [Question.cut];omega,?_⟩
 simp only [Builtin.append_,h0,h1,a0,a1,Sem.run_bind,F.run_underlying,hd,Fe.a4y,Result.andThen_ok,hm,Sem.run_pure]
 have hn':=hn { W with drawn:=W.drawn+1 } rfl
 have ho':=ho { W with drawn:=W.drawn+1 } rfl
 cases d with
 | int k=>exact absurd rfl (hdd k)
 | _ =>
  simp only [Bool.false_eq_true,if_false,Sem.run_bind,hl,Result.andThen_ok,if_neg hle,Bool.not_false,if_true,Fe.a9s,Sem.run_pure]
  rw [if_neg hbig]
  simp only [Sem.run_bind,Fe.a9s,Result.andThen_ok,Sem.run_pure]
  rw [if_neg hcap]
  simp only [Sem.run_bind,Sem.run_pure,Result.andThen_ok,run_choose,Question.forced,Bool.false_eq_true,if_false,Fe.a9s,run_askRoom,ho',hn',Fe.ady]
  rfl
end
end Go.CE
namespace Go.CE
variable [Sym] [a0n]
open Go.RowKit
variable {P:Program} {B:Nat} {σ:Sg}

theorem avn {k o:Nat} {q:Pl} {vs:List AV} {c:Array Value} {m m':Tr AB} {n n':Nat} {l l' w w':List LE} {u:Unit} {W:World} (hs:SR P B σ m W) (hσ:σ k=some q) (hl:LR σ vs c) (hsc:a1f vs=true) (h:wrK k o vs ⟨m,n,l,w⟩=some (u,⟨m',n',l',w'⟩)) :
  ∃ W',(storeCells ⟨q.b,o+q.d,none⟩ c.toList).run P W=.ok () W'∧SR P B σ m' W'∧Below B W W'∧n' = n:=by
 have hn:n' = n:=by
  unfold wrK at h
  dsimp only at h
  split at h
  ·split at h
   ·simp only [Option.some.injEq,Prod.mk.injEq,St.mk.injEq] at h;exact h.2.2.1.symm
   ·cases h
  ·cases h
 subst hn
 have fr:a3q σ n' n':=fun k h1 h2=>by omega
 obtain ⟨τ,W',_,h1,h2,h3,_,h5⟩:=Sim.wrK (P:=P) (B:=B) hσ hl hsc σ m n' l w W u m' n' l' w' (Sg.le.refl _) hs h fr
 have:τ=σ:=by
  funext j
  cases e:σ j with
  | some p=>exact h2.1 _ _ e
  | none =>
   cases e2:τ j with
   | none=>rfl
   | some p=>have:=h2.2 j e (by rw [e2];simp);omega
 rw [this] at h3
 exact ⟨W',h1,h3,h5,rfl⟩
theorem arh {k n n':Nat} {m m':Tr AB} {l l' w w':List LE} {u:Unit} (h:agu k ⟨m,n,l,w⟩=some (u,⟨m',n',l',w'⟩)):m' = m.set k none∧n' = n:=by
 simp only [agu,Option.some.injEq,Prod.mk.injEq,St.mk.injEq] at h
 exact ⟨h.2.1.symm,h.2.2.1.symm⟩
theorem SR.grown {m:Tr AB} {W:World} {n e:Nat} {te:TY} (Fe:TyF P e te) (hz:Fe.z.cells.size=te.size) (hs:SR P B σ m W) (hf:a3q σ n (n+1)) {cs:List AV} {c:Array Value} (hl:LR σ cs c) {need nc:Nat} (hc:c.size=need * te.size) (hle:need≤nc) (dr:Nat) :
  ∃ τ,Grow σ τ n (n+1)∧SR P B τ (m.set (a2b true n) (some (.cells cs e))) (({ W with drawn:=dr }:World).alloc (.cells (c++Builtin.zeroCells Fe.z.cells (nc - need)) e)) ∧
   VR τ (.sl (some (a2b true n,0)) need need) (.slice (some ⟨W.heap.size,0,none⟩) need nc)∧Below B W (({ W with drawn:=dr }:World).alloc (.cells (c++Builtin.zeroCells Fe.z.cells (nc - need)) e)):=by
 have hk:σ (a2b true n)=none:=hf _ (a1a true n).1 (a1a true n).2
 have hg:gw (a2b true n)=true:=a4p true n
 let q:Pl:=⟨W.heap.size,0,nc * te.size,te.size⟩
 have hsz:(c++Builtin.zeroCells Fe.z.cells (nc - need)).size=nc * te.size:=by
  rw [Array.size_append,hc]
  simp only [Builtin.zeroCells,Array.size_map,Array.size_range,hz]
  rw [← Nat.add_mul];congr 1;omega
 have hs2:SR P B σ m ({ W with drawn:=dr }:World):=hs.heap rfl
 refine ⟨σ.add (a2b true n) q,Grow.add hk (a1a true n),hs2.fresh hk rfl ?_,?_,?_⟩
 ·refine ⟨_,rfl,(fun h=>by rw [hg] at h;cases h),(fun _=>⟨hsz,Fe.cellsOf⟩),?_,(fun i x v h1 h2=>?_)⟩
  ·rw [hsz,hl.len,hc,Nat.zero_add];exact Nat.mul_le_mul_right _ hle
  ·have hi:i < c.size:=by rw [← hl.len];exact (List.getElem?_eq_some_iff.1 h1).1
   show VR _ x v
   rw [show q.d+i=i from Nat.zero_add i,Array.getElem?_append_left hi] at h2
   exact (hl.get i x v h1 h2).mono (Sg.a6v hk)
 ·have:=VR.sl (σ:=σ.add (a2b true n) q) (a2b true n) 0 need need nc q (by simp [Sg.add]) hle (fun h=>by rw [hg] at h;cases h) fun _=>by show 0+0+nc * te.size=nc * te.size;omega
  exact this
 ·exact ⟨rfl,rfl,rfl,by simp,fun y hy=>Below.heap_alloc _ _ _ (by have:=hs.hB;exact Nat.lt_of_lt_of_le hy this)⟩
theorem Sim.append {ts:Array Nat} {ty t xt:Nat} {args:Array Value} {s x:AV} {v w:Value} (hv:VR σ s v) (hw:VR σ x w) (h0:ts[0]? = some t) (h1:ts[1]? = some xt) (a0:args[0]? = some v) (a1:args[1]? = some w) :
  Sim P B σ (a8o P t xt s x) (Builtin.append_ ts ty args) VR:=by
 unfold CE.a8o
 split
 ·rename_i e sz bz zz hty
  obtain ⟨F⟩:=a0z hty
  have hd:=a2e (show a8y F.desc=.slice e from F.ed.symm)
  split
  ·rename_i te hte
   obtain ⟨Fe⟩:=a0z hte
   refine Sim.chk fun hc=>?_
   simp only [Bool.and_eq_true,Bool.not_eq_true'] at hc
   obtain ⟨⟨hxt,hz1⟩,hb1⟩:=hc
   have hz1:=a92 hz1
   have hb1:=a6e hb1
   have hzz:Fe.z.cells.size=te.size:=by rw [← (Fe.zeros σ).len];exact hz1
   intro τ m n l wl W a m' n' l' wl' hle hs hx2 hf
   obtain ⟨⟨k,new⟩,⟨m1,n1,l1,w1⟩,g1,g2⟩:=a08 hx2
   dsimp only at g2
   obtain ⟨_,s2,g3,g4⟩:=a08 g2
   obtain ⟨hc2,rfl⟩:=a4b g3
   simp only [Bool.and_eq_true] at hc2
   obtain ⟨hsc,hnl⟩:=hc2
   have hnl:=a92 hnl
   obtain ⟨rfl,rfl,hlen,hfc⟩:=src_of (hw.mono hle) hs g1 hnl
   obtain ⟨nv,hnv,hrn⟩:=hfc k (Nat.le_refl _)
   rw [List.take_of_length_le (by omega)] at hnv
   have hnvs:nv.size=k * te.size:=by rw [← hnv.len];exact hnl
   cases s with
   | sl base nn c =>
    cases hin:Nat.ble (nn+k) c with
    | true =>
     dsimp only at g4
     rw [hin] at g4
     have hin:=a6e hin
     rcases base with _ | ⟨b,o⟩
     rotate_left
     ·cases hv with
      | sl _ _ _ _ c' q hσ hcc hx0 hg0 =>
       have hσ':=hle _ _ hσ
       have run:=a8f (P:=P) (ty:=ty) F hd Fe hxt h0 h1 a0 a1 hlen (W:=W) (new:=nv) (hrn W rfl) (show nn+k≤c' by omega)
       have hval:VR τ (.sl (some (b,o)) (nn+k) c) (.slice (some ⟨q.b,o+q.d,none⟩) (nn+k) c'):=.sl b o (nn+k) c c' q hσ' hcc hx0 hg0
       rcases new with _ | ⟨y,ys⟩
       ·obtain ⟨rfl,g5⟩:=a0k g4
        cases g5
        have hnil:nv.toList = []:=by
         have:=hnv.len;simp at this;exact List.eq_nil_of_length_eq_zero (by simpa using this.symm)
        refine ⟨τ,W,_,?_,Grow.refl _ _ _,hs,hval,Below.refl _ _⟩
        rw [run,hnil];rfl
       ·obtain ⟨_,⟨m2,n2,l2,w2⟩,g5,g6⟩:=a08 g4
        obtain ⟨rfl,g7⟩:=a0k g6
        cases g7
        obtain ⟨W',r1,r2,r3,rfl⟩:=avn hs hσ' hnv hsc g5
        refine ⟨τ,W',_,?_,Grow.refl _ _ _,r2,hval,r3⟩
        rw [run]
        dsimp only
        rw [a2w,show o+q.d+nn * te.size=o+nn * te.size+q.d by omega,r1]
        rfl
     ·cases hv with
      | sln _ _ =>
       obtain ⟨rfl,g5⟩:=a0k g4
       cases g5
       refine ⟨τ,W,.slice none (nn+k) c,?_,Grow.refl _ _ _,hs,.sln _ _,Below.refl _ _⟩
       rw [a8f (P:=P) (ty:=ty) F hd Fe hxt h0 h1 a0 a1 hlen (W:=W) (new:=nv) (hrn W rfl) hin]
       rfl
    | false =>
     dsimp only at g4
     rw [hin] at g4
     have hin:=aS9 hin
     obtain ⟨_,s3,g5,g6⟩:=a08 g4
     obtain ⟨hbig,rfl⟩:=a4b g5
     have hbig:=a6e hbig
     rcases base with _ | ⟨b,o⟩
     ·cases hv with
      | sln _ _ =>
       rcases nn with _ | nn
       ·obtain ⟨q,⟨m2,n2,l2,w2⟩,g7,g8⟩:=a08 g6
        obtain ⟨rfl,rfl,rfl⟩:=a6c g7
        obtain ⟨rfl,g9⟩:=a0k g8
        cases g9
        obtain ⟨nc,hnc,run⟩:=aah (P:=P) (ty:=ty) F hd Fe hxt h0 h1 a0 a1 hlen (W:=W) (old:=#[]) (new:=nv) hrn (fun W2 _=>rfl) (by omega) hbig hb1
        rw [Nat.zero_add] at hnc run
        obtain ⟨υ,p1,p2,p3,p4⟩:=hs.grown Fe hzz hf hnv (need:=k) hnvs hnc (W.drawn+1)
        refine ⟨υ,_,_,run,p1,?_,p3,?_⟩
        ·rw [show (#[]:Array Value)++nv=nv by simp];exact p2
        ·rw [show (#[]:Array Value)++nv=nv by simp];exact p4
       ·cases g6
     ·cases hv with
      | sl _ _ _ _ c' q hσ hcc hx0 hg0 =>
       have hσ':=hle _ _ hσ
       obtain ⟨old,⟨m2,n2,l2,w2⟩,g7,g8⟩:=a08 g6
       obtain ⟨rfl,rfl,cs,T,hm,hcut⟩:=a5y g7
       obtain ⟨ov,hov,hol⟩:=hs.part (P:=P) hm hσ' hcut
       have aGy:old.length=nn * te.size:=(adl hcut).2
       have hall:LR τ (old++new) (ov++nv):=hol.append hnv
       have hasz:(ov++nv).size=(nn+k) * te.size:=by rw [← hall.len,List.length_append,aGy,hnl,Nat.add_mul]
       have grows : ¬ nn+k≤c'→a3q τ n2 (n2+1)→∀ mm:Tr AB,SR P B τ mm W→∃ υ W' b,(Builtin.append_ ts ty args).run P W=.ok b W'∧Grow τ υ n2 (n2+1)∧SR P B υ (mm.set (a2b true n2) (some (.cells (old++new) e))) W'∧VR υ (.sl (some (a2b true n2,0)) (nn+k) (nn+k)) b∧Below B W W':=fun hno hfr mm hsm=>by
        obtain ⟨nc,hnc,run⟩:=aah (P:=P) (ty:=ty) F hd Fe hxt h0 h1 a0 a1 hlen (W:=W) (old:=ov) (new:=nv) hrn (fun W2 hW=>hov W2 hW) hno hbig hb1
        obtain ⟨υ,p1,p2,p3,p4⟩:=hsm.grown Fe hzz hfr hall (need:=nn+k) hasz hnc (W.drawn+1)
        exact ⟨υ,_,_,run,p1,p2,p3,p4⟩
       cases hgw:gw b with
       | true =>
        rw [hgw] at g8
        obtain ⟨T',⟨m3,n3,l3,w3⟩,g9,g10⟩:=a08 g8
        obtain ⟨⟨cs',hm'⟩,e1,e2⟩:=aqh g9
        dsimp only at hm' e1 e2
        subst m3;subst n3
        have hTT:T' = T:=by rw [hm] at hm';cases hm';rfl
        obtain ⟨_,s4,g11,g12⟩:=a08 g10
        obtain ⟨hTe,rfl⟩:=a4b g11
        simp only [Bool.and_eq_true] at hTe
        have hT:=a92 hTe.1
        have hro:=a6e hTe.2
        have hTe2:T=e:=hTT.symm.trans hT
        rw [hTe2] at hm
        obtain ⟨_,⟨m4,n4,l4,w4⟩,g13,g14⟩:=a08 g12
        have ek1:=(arh g13).1
        have ek2:=(arh g13).2
        subst n4;subst m4
        obtain ⟨q2,⟨m5,n5,l5,w5⟩,g15,g16⟩:=a08 g14
        obtain ⟨ek3,ek4,ek5⟩:=a6c g15
        subst q2;subst m5;subst n5
        obtain ⟨rfl,g17⟩:=a0k g16
        cases g17
        by_cases hfit:nn+k≤c'
        ·-- there was room
         obtain ⟨cc,r1,r2,r3,r4,r5⟩:=hs.cells hm hσ'
         obtain ⟨z1,z2⟩:=r3 hgw
         have hg1:=hg0 hgw
         have hsz:q.sz=te.size:=by rw [← z2];exact Fe.cellsOf
         rw [hsz] at hg1
         have hnk:(nn+k) * te.size≤c' * te.size:=Nat.mul_le_mul_right _ hfit
         rw [Nat.add_mul] at hnk
         have hone:∀ v∈nv.toList,v.oneCell' = true:=by
          have:∀ (l:List AV),a1f l=true→∀ y∈l,sc y=true:=by
           intro l
           induction l with
           | nil=>intro _ y hy;cases hy
           | cons y l ih =>
            intro h z hz
            simp only [a1f] at h
            split at h
            ·rename_i hy
             rcases List.mem_cons.1 hz with rfl | hz
             ·exact hy
             ·exact ih h z hz
            ·cases h
          intro v hv
          obtain ⟨i,hi,rfl⟩:=List.getElem_of_mem hv
          have hi':i < new.length:=by rw [hnv.len];simpa using hi
          exact (hnv.get i new[i] _ (List.getElem?_eq_getElem hi') (by rw [← Array.getElem?_toList];exact List.getElem?_eq_getElem hi)).oneCell (this new hsc _ (List.getElem_mem hi'))
         have hnl2:nv.toList.length=k * te.size:=by simpa using hnvs
         obtain ⟨W',c2,s1,s2,s3,s4,s5,s6,s7,s8,s9⟩:=aag (P:=P) q.b e nv.toList (o+q.d+nn * te.size) 0 W cc r1 hone (by rw [hnl2];omega)
         have hB:B≤q.b:=hs.ro b q hσ' hro
         have hk:τ (a2b true n2)=none:=hf _ (a1a true n2).1 (a1a true n2).2
         let q3:Pl:=⟨q.b,o+q.d,q.z,q.sz⟩
         have hle3:=Sg.a6v (q:=q3) hk
         refine ⟨τ.add (a2b true n2) q3,W',.slice (some ⟨q.b,o+q.d,none⟩) (nn+k) c',?_,Grow.add hk (a1a true n2),?_,?_,⟨s7,s8,s9,by rw [s6];exact Nat.le_refl _,fun y hy=>s5 y (by omega)⟩⟩
         ·rw [a8f (P:=P) (ty:=ty) F hd Fe hxt h0 h1 a0 a1 hlen (W:=W) (new:=nv) (hrn W rfl) hfit]
          dsimp only
          rw [a2w,s1]
          rfl
         ·have aWt:=hs.kill b
          have hbk:b≠a2b true n2:=fun e=>by rw [e,hk] at hσ';cases hσ'
          have up:∀ j,(m2.set b none).get j≠none→∃ p o',τ j=some p∧p.b≠q.b∧W.heap[p.b]? = some o':=fun j hj=>by
           have hjb:j≠b:=fun e=>by rw [e,Tr.a0u,if_pos rfl] at hj;exact hj rfl
           have hj2:m2.get j≠none:=by rw [Tr.a0u,if_neg hjb] at hj;exact hj
           obtain ⟨x,hx⟩:=Option.ne_none_iff_exists'.1 hj2
           obtain ⟨p,o',t1,t2,t3⟩:=hs.mr j x hx
           exact ⟨p,o',t1,fun e=>hjb (hs.inj j b p q hj2 (by rw [hm];simp) t1 hσ' e),t2⟩
          refine ⟨fun j y hj=>?_,fun i j p1 p2 hi hj t1 t2 he=>?_,fun j p hj hr=>?_,by rw [s6];exact hs.hB⟩
          ·rw [Tr.a0u] at hj
           by_cases hjk:j=a2b true n2
           ·subst hjk
            rw [if_pos rfl] at hj;cases hj
            refine ⟨q3,_,by simp [Sg.add],s2,c2,rfl,(fun h=>by rw [a4p] at h;cases h),(fun _=>⟨by rw [s3];exact z1,z2⟩),?_,(fun i x v h1 h2=>?_)⟩
            ·rw [s3,z1,List.length_append,aGy,hnl];show o+q.d+_≤_;omega
            ·rw [s4,hnl2,Array.getElem?_toList] at h2
             have h2:(if o+q.d+nn * te.size+0≤o+q.d+i∧o+q.d+i < o+q.d+nn * te.size+0+k * te.size then nv[o+q.d+i - (o+q.d+nn * te.size+0)]? else cc[o+q.d+i]?)=some v:=h2
             have hi:i < nn * te.size+k * te.size:=by have:=(List.getElem?_eq_some_iff.1 h1).1;rw [List.length_append,aGy,hnl] at this;exact this
             by_cases hio:i < nn * te.size
             ·rw [List.getElem?_append_left (by omega),acv hcut i hio] at h1
              rw [if_neg (by omega)] at h2
              exact (r5 (o+i) x v h1 (by rw [show q.d+(o+i)=o+q.d+i by omega];exact h2)).mono hle3
             ·rw [List.getElem?_append_right (by omega),aGy] at h1
              rw [if_pos (by omega),show o+q.d+i - (o+q.d+nn * te.size+0)=i - nn * te.size by omega] at h2
              exact (hnv.get _ x v h1 h2).mono hle3
           ·rw [if_neg hjk] at hj
            obtain ⟨p,o',t1,t2,t3⟩:=aWt.mr j y hj
            obtain ⟨p',o'',t1',t4,_⟩:=up j (by rw [hj];simp)
            rw [t1] at t1';cases t1'
            exact ⟨p,o',hle3 _ _ t1,by rw [s5 p.b t4];exact t2,t3.mono hle3⟩
          ·have key:∀ j p,((m2.set b none).set (a2b true n2) (some (AB.cells (old++new) e))).get j≠none→τ.add (a2b true n2) q3 j=some p→(j=a2b true n2∧p.b=q.b)∨(j≠a2b true n2∧(m2.set b none).get j≠none∧τ j=some p∧p.b≠q.b):=fun j p hj hσ2=>by
            rw [Tr.a0u] at hj
            unfold Sg.add at hσ2
            by_cases h:j=a2b true n2
            ·rw [if_pos h] at hσ2;cases hσ2;exact .inl ⟨h,rfl⟩
            ·rw [if_neg h] at hσ2 hj
             obtain ⟨p',o',u1,u2,_⟩:=up j hj
             rw [hσ2] at u1;cases u1
             exact .inr ⟨h,hj,hσ2,u2⟩
           rcases key i p1 hi t1 with ⟨rfl,x1⟩ | ⟨_,x1,x2,x3⟩<;>rcases key j p2 hj t2 with ⟨rfl,y1⟩ | ⟨_,y1,y2,y3⟩
           ·rfl
           ·exact absurd (he.symm.trans x1) y3
           ·exact absurd (he.trans y1) x3
           ·exact aWt.inj i j p1 p2 x1 y1 x2 y2 he
          ·unfold Sg.add at hj
           by_cases h:j=a2b true n2
           ·rw [if_pos h] at hj;cases hj;exact hB
           ·rw [if_neg h] at hj;exact hs.ro j p hj hr
         ·have:=VR.sl (σ:=τ.add (a2b true n2) q3) (a2b true n2) 0 (nn+k) (nn+k) c' q3 (by simp [Sg.add]) hfit (fun h=>by rw [a4p] at h;cases h) fun _=>by
           show 0+(o+q.d)+c' * q.sz=q.z
           rw [hsz];omega
          rw [show 0+q3.d=o+q.d from Nat.zero_add _] at this
          exact this
        ·exact grows hfit hf _ (hs.kill b)
       | false =>
        rw [hgw] at g8
        have:=hx0 hgw
        subst this
        obtain ⟨q2,⟨m5,n5,l5,w5⟩,g15,g16⟩:=a08 g8
        obtain ⟨ek3,ek4,ek5⟩:=a6c g15
        subst q2;subst m5;subst n5
        obtain ⟨rfl,g17⟩:=a0k g16
        cases g17
        exact grows (by omega) hf _ hs
   | _=>cases g4
  ·exact Sim.fail
 ·exact Sim.fail
end Go.CE
namespace Go.CE
variable [Sym] [a0n]
open Go.RowKit
variable {P:Program} {B:Nat} {σ:Sg}

theorem aiu {ts:Array Nat} {ty t e n k:Nat} {tt te:TY} {args:Array Value} {v:Value} {base:Option Addr} {c:Nat} (F:TyF P t tt) (hd:F.desc=.slice e) (Fe:TyF P e te) (h0:ts[0]? = some t) (a0:args[0]? = some (.slice base n c)) (a1:args[1]? = some v)
  (hl:∀ W,(Builtin.lenOf v).run P W=.ok k W) {W:World} {new:Array Value} (hn:(Builtin.firstCells te.size (min k n) v).run P W=.ok new W) :
  (Builtin.copy_ ts ty args).run P W=((match base with | some a=>storeCells a new.toList | none=>Pure.pure ()).run P W).andThen fun _ W'=>.ok (goInt (min k n:Nat)) W':=by
 have e1:Nat.min k n=min k n:=rfl
 simp only [Builtin.copy_,h0,a0,a1,Sem.run_bind,F.run_underlying,hd,Result.andThen_ok,hl,Fe.a4y,e1,hn]
 cases base<;>simp only [Sem.run_bind,Sem.run_pure,Result.andThen_ok]
theorem Sim.copy {ts:Array Nat} {ty t:Nat} {args:Array Value} {s x:AV} {v w:Value} (hv:VR σ s v) (hw:VR σ x w) (h0:ts[0]? = some t) (a0:args[0]? = some v) (a1:args[1]? = some w) :
  Sim P B σ (ajw P t s x) (Builtin.copy_ ts ty args) VR:=by
 unfold CE.ajw
 split
 ·rename_i e sz bz zz hty
  obtain ⟨F⟩:=a0z hty
  have hd:=a2e (show a8y F.desc=.slice e from F.ed.symm)
  split
  ·rename_i te hte
   obtain ⟨Fe⟩:=a0z hte
   intro τ m n l wl W a m' n' l' wl' hle hs hx2 hf
   obtain ⟨⟨k,cs⟩,⟨m1,n1,l1,w1⟩,g1,g2⟩:=a08 hx2
   dsimp only at g2
   obtain ⟨_,s2,g3,g4⟩:=a08 g2
   obtain ⟨hc2,rfl⟩:=a4b g3
   simp only [Bool.and_eq_true] at hc2
   obtain ⟨hsc,hnl⟩:=hc2
   have hnl:=a92 hnl
   obtain ⟨rfl,rfl,hlen,hfc⟩:=src_of (hw.mono hle) hs g1 hnl
   cases hv with
   | sln nn c =>
    cases nn with
    | succ _=>cases g4
    | zero =>
     obtain ⟨rfl,g5⟩:=a0k g4
     cases g5
     obtain ⟨nv,_,hrn⟩:=hfc 0 (Nat.zero_le _)
     refine ⟨τ,W,goInt (0:Nat),?_,Grow.refl _ _ _,hs,.i _ _,Below.refl _ _⟩
     rw [aiu (P:=P) (ty:=ty) F hd Fe h0 a0 a1 hlen (W:=W) (new:=nv) (by rw [Nat.min_zero];exact hrn W rfl),Nat.min_zero]
     rfl
   | se aa c =>
    obtain ⟨rfl,g5⟩:=a0k g4
    cases g5
    obtain ⟨nv,hnv,hrn⟩:=hfc 0 (Nat.zero_le _)
    have hnil:nv.toList = []:=by
     have:=hnv.len;simp at this;exact List.eq_nil_of_length_eq_zero (by simpa using this.symm)
    refine ⟨τ,W,goInt (0:Nat),?_,Grow.refl _ _ _,hs,.i _ _,Below.refl _ _⟩
    rw [aiu (P:=P) (ty:=ty) F hd Fe h0 a0 a1 hlen (W:=W) (new:=nv) (by rw [Nat.min_zero];exact hrn W rfl),Nat.min_zero,hnil]
    rfl
   | sl b o nn c c' q hσ hcc hx0 hg0 =>
    have hσ':=hle _ _ hσ
    dsimp only at g4
    obtain ⟨nv,hnv,hrn⟩:=hfc (min k nn) (Nat.min_le_left _ _)
    have run:=aiu (P:=P) (ty:=ty) F hd Fe h0 a0 a1 hlen (W:=W) (new:=nv) (hrn W rfl)
    cases hcut:cut cs 0 (min k nn * te.size) with
    | none=>rw [hcut] at g4;cases g4
    | some r =>
     rw [hcut] at g4
     have hr:r=cs.take (min k nn * te.size):=by have:=(adl hcut).1;simpa using this
     rw [← hr] at hnv
     cases r with
     | nil =>
      obtain ⟨rfl,g5⟩:=a0k g4
      cases g5
      have hnil:nv.toList = []:=by
       have:=hnv.len;simp at this;exact List.eq_nil_of_length_eq_zero (by simpa using this.symm)
      refine ⟨τ,W,_,by rw [run,hnil];rfl,Grow.refl _ _ _,hs,.i _ _,Below.refl _ _⟩
     | cons y ys =>
      obtain ⟨_,⟨m2,n2,l2,w2⟩,g5,g6⟩:=a08 g4
      obtain ⟨rfl,g7⟩:=a0k g6
      cases g7
      have hsc2:a1f (y :: ys)=true:=by
       have:∀ (l:List AV) (j:Nat),a1f l=true→a1f (l.take j)=true:=by
        intro l
        induction l with
        | nil=>intro j _;simp [a1f]
        | cons z l ih =>
         intro j h
         cases j with
         | zero=>simp [a1f]
         | succ j =>
          simp only [a1f] at h
          split at h
          ·rename_i hz
           rw [List.take_succ_cons];simp only [a1f,hz];exact ih j h
          ·cases h
       rw [hr];exact this _ _ hsc
      obtain ⟨W',r1,r2,r3,rfl⟩:=avn hs hσ' hnv hsc2 g5
      refine ⟨τ,W',_,by rw [run];dsimp only;rw [r1];rfl,Grow.refl _ _ _,r2,.i _ _,r3⟩
   | _=>cases g4
  ·exact Sim.fail
 ·exact Sim.fail
theorem PR.aM1 {isMax:Bool}:∀ {l:List AV} {x:AV} {v:Value} {vs:List Value},VR σ x v→LR σ l vs.toArray→PR P σ (aGb isMax x l) (vs.foldlM (if isMax then Builtin.max2 else Builtin.min2) v):=by
 intro l
 induction l with
 | nil =>
  intro x v vs hx hl r h
  have:aGb isMax x []=some x:=by cases x<;>rfl
  rw [this] at h;cases h
  have hv:vs = []:=by have:=hl.len;simp at this;exact List.eq_nil_of_length_eq_zero this.symm
  subst hv
  exact ⟨v,fun W=>rfl,hx⟩
 | cons y l ih =>
  intro x v vs hx hl r h
  cases vs with
  | nil=>have:=hl.len;simp at this
  | cons w vs =>
   have hw:=hl.get 0 y w rfl rfl
   have hl2:LR σ l vs.toArray:=⟨by have:=hl.len;simpa using this,fun i x v a b=>hl.get (i+1) x v (by simpa using a) (by simpa using b)⟩
   cases hx<;>first | (simp [aGb] at h;done) | skip
   rename_i k a
   cases hw<;>first | (simp [aGb] at h;done) | skip
   rename_i j b
   simp only [aGb] at h
   split at h
   ·rename_i hk
    obtain ⟨v',h1,h2⟩:=ih (.i k _) hl2 r h
    refine ⟨v',fun W=>?_,h2⟩
    rw [← h1 W]
    simp only [List.foldlM_cons,Sem.run_bind]
    rw [ahu]
    cases isMax
    ·simp only [Bool.false_eq_true,if_false,Builtin.min2,Sem.run_pure,Result.andThen_ok]
     by_cases hab:a≤b
     ·rw [if_neg (by omega)];simp [hab]
     ·rw [if_pos (by omega)];simp [hab]
    ·simp only [if_true,Builtin.max2,Sem.run_pure,Result.andThen_ok]
     by_cases hab:a≤b
     ·by_cases he:a=b
      ·subst he;simp
      ·simp [hab,show a < b by omega]
     ·simp [hab,show ¬ a < b by omega]
   ·cases h
end Go.CE
namespace Go.CE
variable [Sym] [a0n]
open Go.RowKit
variable {P:Program} {B:Nat} {σ:Sg}

def GS (σ:Sg):Prop:=∀ k,k < 512→∃ z s,σ (2 * k)=some ⟨k,0,z,s⟩
theorem GS.mono {τ:Sg} (h:GS σ) (hle:Sg.le σ τ):GS τ:=fun k hk=>let ⟨z,s,e⟩:=h k hk;⟨z,s,hle _ _ e⟩
theorem aav {fr:Fr} {a:Act} (hf:FR σ fr a) (hg:GS σ) (x:Operand):VR σ (a19 fr x) (a.eval x):=by
 cases x with
 | tmp t=>exact hf.1.2 t
 | const v=>exact VR.conv σ v
 | global k =>
  unfold a19
  dsimp only
  split
  ·rename_i h
   obtain ⟨z,s,e⟩:=hg k (a6e h)
   exact VR.p (2 * k) 0 ⟨k,0,z,s⟩ e
  ·exact .bad _
 | func f=>exact .f f [] [] #[] #[] rfl rfl (fun i x v h _=>by simp at h) fun i x v h _=>by simp at h
theorem ae3 {fr:Fr} {a:Act} (hf:FR σ fr a) (hg:GS σ) (xs:Array Operand):LR σ (xs.toList.map (a19 fr)) (xs.map a.eval):=by
 refine ⟨by simp,fun i x v h1 h2=>?_⟩
 rw [List.getElem?_map,Array.getElem?_toList] at h1
 rw [Array.getElem?_map] at h2
 cases hx:xs[i]? with
 | none=>rw [hx] at h1;cases h1
 | some y =>
  rw [hx] at h1 h2
  simp at h1 h2
  rw [← h1,← h2];exact aav hf hg y
theorem aqm {fr:Fr} {a:Act} (hf:FR σ fr a) (hg:GS σ) (xs:Array (Nat×Operand)):PL σ (xs.toList.map fun (j,x)=>(j,a19 fr x)) (xs.map fun (i,x)=>(i,a.eval x)).toList:=by
 refine ⟨by simp,fun i x v h1 h2=>?_⟩
 rw [List.getElem?_map,Array.getElem?_toList] at h1
 rw [Array.getElem?_toList,Array.getElem?_map] at h2
 cases hx:xs[i]? with
 | none=>rw [hx] at h1;cases h1
 | some y =>
  rw [hx] at h1 h2
  simp at h1 h2
  rw [← h1,← h2];exact ⟨rfl,aav hf hg y.2⟩
theorem aok {fr:Fr} {a:Act} (hf:FR σ fr a) (hg:GS σ) (x:Option Operand):OV σ (x.map (a19 fr)) (x.map a.eval):=by
 cases x with
 | none=>trivial
 | some x=>exact aav hf hg x
def NR (σ:Sg) (x:AV) (n:Next):Prop:=(∃ v,n=.value v∧VR σ x v)∨(n=.skip∧x=.u)
theorem Sim.v {x:X AV} {s:Sem Value} (h:Sim P B σ x s VR):Sim P B σ x (do Pure.pure (Next.value (← s))) NR:=by
 intro τ m n l w W a m' n' l' w' hle hs hx hf
 obtain ⟨υ,W',b,h1,h2,h3,h4,h5⟩:=h τ m n l w W a m' n' l' w' hle hs hx hf
 exact ⟨υ,W',.value b,by rw [Sem.run_bind,h1];rfl,h2,h3,.inl ⟨b,rfl,h4⟩,h5⟩
theorem Sim.u {x:X Unit} {s:Sem Unit} (h:Sim P B σ x s fun _ _ _=>True):Sim P B σ (CE.bnd x fun _=>CE.ret .u) (do s;Pure.pure Next.skip) NR:=by
 intro τ m n l w W a m' n' l' w' hle hs hx hf
 obtain ⟨_,s1,h1,h2⟩:=a08 hx
 obtain ⟨rfl,rfl⟩:=a0k h2
 obtain ⟨υ,W',b,h1,h2,h3,h4,h5⟩:=h τ m n l w W _ m' n' l' w' hle hs h1 hf
 exact ⟨υ,W',.skip,by rw [Sem.run_bind,h1];rfl,h2,h3,.inr ⟨rfl,rfl⟩,h5⟩
theorem Sim.makeMap (t:Nat):Sim P B σ (CE.bnd (CE.a4o false (.map [] 0)) fun k=>CE.ret (.m (some k))) (Instr.makeMap t none) VR:=by
 refine Sim.a7n (g:=Go.newObj (.map #[] 0) >>= fun b=>Pure.pure (Value.map (some b))) (fun W=>?_) (Sim.bnd (Loc.a4o _ _) (fun _=>Loc.ret _) (Sim.a4o (P:=P) (o:=.map #[] 0) 0 0 fun τ k b _ _=>⟨#[],rfl,rfl,fun i x y bn e h=>by simp at h⟩) fun τ k b _ ⟨h1,h2⟩=>Sim.ret fun υ hle=>VR.m k ⟨b,0,0,0⟩ (hle _ _ h1))
 simp only [Instr.makeMap,Sem.run_bind,Sem.run_pure]
theorem aQx {t:Nat} {x:AV} {s s':St} {u:Unit} (h:aAi P t x s=some (u,s')):s'.mem=s.mem∧s'.nx=s.nx∧∀ k o n c,x=.sl (some (k,o)) n c→gw k=true→∃ cs T e z1 z2 z3,s.mem.get k=some (.cells cs T)∧a1q P t=some ⟨.slice e,z1,z2,z3⟩∧T=e:=by
 unfold aAi at h
 cases x with
 | sl a n c =>
  cases a with
  | none=>obtain ⟨_,rfl⟩:=a0k h;exact ⟨rfl,rfl,fun k o n c h _=>by cases h⟩
  | some ko =>
   obtain ⟨k,o⟩:=ko
   dsimp only at h
   cases hg:gw k with
   | false=>rw [hg] at h;obtain ⟨_,rfl⟩:=a0k h;exact ⟨rfl,rfl,fun k' o n c h h2=>by cases h;rw [hg] at h2;cases h2⟩
   | true =>
    rw [hg] at h
    obtain ⟨T,s1,h1,h2⟩:=a08 h
    obtain ⟨⟨cs,h3⟩,h4,h5⟩:=aqh h1
    cases hty:a1q P t with
    | none=>rw [hty] at h2;cases h2
    | some ty =>
     rw [hty] at h2
     obtain ⟨d,z1,z2,z3⟩:=ty
     cases d<;>first | (cases h2;done) | skip
     rename_i e
     obtain ⟨h6,rfl⟩:=a4b h2
     refine ⟨h4,h5,fun k' o' n' c' hx _=>?_⟩
     cases hx
     exact ⟨cs,T,e,z1,z2,z3,h3,rfl,a92 h6⟩
 | _=>obtain ⟨_,rfl⟩:=a0k h;exact ⟨rfl,rfl,fun k o n c h _=>by cases h⟩
theorem Sim.slice {t:Nat} {x:AV} {v:Value} {lo hi mx:Option AV} {lo' hi' mx':Option Value} (hx:VR σ x v) (hlo:OV σ lo lo') (hhi:OV σ hi hi') (hmx:OV σ mx mx') :
  Sim P B σ (CE.bnd (aAi P t x) fun _=>CE.lift (abe P t x lo hi mx)) (Instr.sliceAt t v lo' hi' mx') VR:=by
 intro τ m n l w W a m' n' l' w' hle hs hx2 hf
 obtain ⟨_,⟨m1,n1,l1,w1⟩,h1,h2⟩:=a08 hx2
 obtain ⟨e1,e2,h3⟩:=aQx h1
 dsimp only at e1 e2 h3
 subst m1;subst n1
 have om:∀ {o:Option AV} {o':Option Value},OV σ o o'→OV τ o o':=fun {o o'} h=>by
  cases o<;>cases o'<;>first | trivial | exact h.elim | exact VR.mono hle h
 have pr:=PR.slice (P:=P) (σ:=τ) (t:=t) (hx.mono hle) (om hlo) (om hhi) (om hmx) fun k o n c q hk hg hσ ty e size hty hd hs2=>by
  obtain ⟨cs,T,e',z1,z2,z3,g1,g2,rfl⟩:=h3 k o n c hk hg
  rw [g2] at hty;cases hty
  cases hd
  obtain ⟨cc,r1,r2,r3,_⟩:=hs.cells g1 hσ
  obtain ⟨i,hi,hsz⟩:=acf hs2
  rw [← (r3 hg).2,← hsz]
  unfold Program.cellsOf;rw [hi];rfl
 exact pr.sim τ m n l1 w1 W a m' n' l' w' (Sg.le.refl _) hs h2 hf
def arl (o:Op):Bool:=match o with
 | .call c=>match c.callee with
  | .builtin _=>false
  | _=>true
 | _=>false
theorem Sim.builtin {b:Builtin} {ts:Array Nat} {ty:Nat} {consts:Array Bool} {xs:List AV} {args:Array Value} (hl:LR σ xs args):Sim P B σ (a6o P b ts.toList xs) (Go.builtin b ts ty consts args) NR:=by
 have at0:∀ x,xs[0]? = some x→∃ v,args[0]? = some v∧VR σ x v:=fun x h=>hl.at h
 have at1:∀ x,xs[1]? = some x→∃ v,args[1]? = some v∧VR σ x v:=fun x h=>hl.at h
 have tl:∀ i,ts[i]? = ts.toList[i]? := fun i=>by rw [Array.getElem?_toList]
 unfold CE.a6o
 split
 ·rename_i t r x h0
  obtain ⟨v,ha,hv⟩:=at0 x rfl
  exact Sim.v (Sim.len hv ts ty args (by rw [tl,h0];rfl) ha)
 ·rename_i t xt r s x h0
  obtain ⟨v,ha,hv⟩:=at0 s rfl
  obtain ⟨w,hb,hw⟩:=at1 x rfl
  exact Sim.v (Sim.append hv hw (by rw [tl,h0];rfl) (by rw [tl,h0];rfl) ha hb)
 ·rename_i t r d x h0
  obtain ⟨v,ha,hv⟩:=at0 d rfl
  obtain ⟨w,hb,hw⟩:=at1 x rfl
  exact Sim.v (Sim.copy hv hw (by rw [tl,h0];rfl) ha hb)
 ·rename_i x l
  refine Sim.v (PR.sim fun r h=>?_)
  cases hc:args.toList with
  | nil=>have:=hl.len;rw [← Array.length_toList,hc] at this;simp at this
  | cons v vs =>
   have hl2:LR σ l vs.toArray:=⟨by have:=hl.len;rw [← Array.length_toList,hc] at this;simpa using this,fun i x v a b=>hl.get (i+1) x v (by simpa using a) (by rw [← Array.getElem?_toList,hc];simpa using b)⟩
   have hv:VR σ x v:=hl.get 0 x v rfl (by rw [← Array.getElem?_toList,hc];rfl)
   obtain ⟨v',h1,h2⟩:=PR.aM1 (P:=P) (isMax:=true) hv hl2 r h
   refine ⟨v',fun W=>?_,h2⟩
   rw [← h1 W]
   simp only [Builtin.max_,hc,if_true]
 ·rename_i x l
  refine Sim.v (PR.sim fun r h=>?_)
  cases hc:args.toList with
  | nil=>have:=hl.len;rw [← Array.length_toList,hc] at this;simp at this
  | cons v vs =>
   have hl2:LR σ l vs.toArray:=⟨by have:=hl.len;rw [← Array.length_toList,hc] at this;simpa using this,fun i x v a b=>hl.get (i+1) x v (by simpa using a) (by rw [← Array.getElem?_toList,hc];simpa using b)⟩
   have hv:VR σ x v:=hl.get 0 x v rfl (by rw [← Array.getElem?_toList,hc];rfl)
   obtain ⟨v',h1,h2⟩:=PR.aM1 (P:=P) (isMax:=false) hv hl2 r h
   refine ⟨v',fun W=>?_,h2⟩
   rw [← h1 W]
   simp only [Builtin.min_,hc,Bool.false_eq_true,if_false]
 ·exact Sim.fail
theorem Sim.op {call yl:Nat→List AV→X AV} {fr:Fr} {a:Act} (hf:FR σ fr a) (hg:GS σ) (o:Oper) (hc:arl o.op=false):Sim P B σ (a8u P call yl fr o.op) (execOp a.eval o) NR:=by
 have ov:=aav hf hg
 obtain ⟨dst,op,oty,pos,aft,gd⟩:=o
 dsimp only at hc
 cases op<;>try exact Sim.fail
 case move x=>exact Sim.ret fun τ h=>.inl ⟨_,rfl,(ov x).mono h⟩
 case assign x=>exact Sim.ret fun τ h=>.inl ⟨_,rfl,(ov x).mono h⟩
 case pick c x y =>
  show Sim P B σ (match a19 fr c with | .b true=>CE.ret (a19 fr x) | .b false=>CE.ret (a19 fr y) | _=>CE.fail) (do Pure.pure (Next.value (if ← asBool (a.eval c) then a.eval x else a.eval y))) NR
  have hcv:=ov c
  generalize a19 fr c=oc at hcv
  generalize a.eval c=vc at hcv
  split
  ·cases hcv
   exact Sim.pre (b:=true) (fun W=>rfl) (Sim.ret fun τ h=>.inl ⟨_,rfl,(ov x).mono h⟩)
  ·cases hcv
   exact Sim.pre (b:=false) (fun W=>rfl) (Sim.ret fun τ h=>.inl ⟨_,rfl,(ov y).mono h⟩)
  ·exact Sim.fail
 case alloc t =>
  show Sim P B σ (match a1q P t with | some ty=>_ | none=>_) _ NR
  split
  ·rename_i ty hty
   obtain ⟨F⟩:=a0z hty
   exact Sim.v (Sim.alloc F _)
  ·exact Sim.fail
 case box t x=>exact Sim.v (Sim.box (ov x))
 case build t ps=>exact Sim.v (PR.build (aqm hf hg ps)).sim
 case buildSlice t n ps=>exact Sim.v (Sim.buildSlice (aqm hf hg ps))
 case load t x =>
  show Sim P B σ (match a1q P t with | some ty=>_ | none=>_) _ NR
  split
  ·rename_i ty hty
   obtain ⟨F⟩:=a0z hty
   exact Sim.v (Sim.load F (ov x))
  ·exact Sim.fail
 case store t x y =>
  show Sim P B σ (match a1q P t with | some ty=>_ | none=>_) _ NR
  split
  ·rename_i ty hty
   obtain ⟨F⟩:=a0z hty
   exact Sim.u (Sim.store F (ov x) (ov y))
  ·exact Sim.fail
 case nilCheck x =>
  show Sim P B σ (match a19 fr x with | .p (some a)=>CE.ret (.p (some a)) | .f fn a c=>CE.ret (.f fn a c) | .m r=>CE.ret (.m r) | _=>CE.fail) _ NR
  have hx:=ov x
  simp only [execOp]
  generalize a19 fr x=ox at hx
  generalize a.eval x=vx at hx
  split
  ·cases hx with
   | p k o q e=>exact Sim.ret fun τ h=>.inl ⟨_,rfl,(VR.p k o q e).mono h⟩
  ·cases hx with
   | f _ _ _ a' c' ha hc2 h1 h2=>exact Sim.ret fun τ h=>.inl ⟨_,rfl,(VR.f _ _ _ a' c' ha hc2 h1 h2).mono h⟩
  ·cases hx with
   | mn=>exact Sim.ret fun τ h=>.inl ⟨_,rfl,.mn⟩
   | m k q e=>exact Sim.ret fun τ h=>.inl ⟨_,rfl,(VR.m k q e).mono h⟩
  ·exact Sim.fail
 case binOp op t x y ty=>exact Sim.v (PR.bin (ov x) (ov y) x y).sim
 case unOp op t x=>exact Sim.v (PR.un (ov x)).sim
 case convert s d x=>exact Sim.v (Sim.convert (ov x))
 case makeFunc fn xs ys =>
  cases fn with
  | func f =>
   refine Sim.v (Sim.ret fun τ h=>?_)
   have h1:=(ae3 hf hg xs).mono h
   have h2:=(ae3 hf hg ys).mono h
   exact VR.f f _ _ _ _ h1.len h2.len h1.get h2.get
  | _=>exact Sim.fail
 case makeMap t r =>
  cases r with
  | none=>exact Sim.v (Sim.makeMap t)
  | some _=>exact Sim.fail
 case makeSlice t l c=>exact Sim.v (Sim.makeSlice (ov l) (ov c))
 case slice t x lo hi mx=>exact Sim.v (Sim.slice (ov x) (aok hf hg lo) (aok hf hg hi) (aok hf hg mx))
 case fieldAddr t x j=>exact Sim.v (PR.fieldAddr (ov x)).sim
 case field t x j=>exact Sim.v (PR.field (ov x)).sim
 case indexAddr t x i=>exact Sim.v (PR.indexAddr (ov x) (ov i)).sim
 case index t x i=>exact Sim.v (PR.index (ov x) (ov i)).sim
 case lookup t x i ok=>exact Sim.v (Sim.lookup (ov x) (ov i) ok)
 case mapUpdate t m k v =>
  refine Sim.chk fun _=>?_
  exact Sim.u (Sim.mapUpdate (ov m) (ov k) (ov v))
 case extract x j =>
  show Sim P B σ (match a19 fr x with | .t vs=>_ | _=>_) _ NR
  have hx:=ov x
  split
  ·rename_i vs he
   rw [he] at hx
   exact Sim.v (PR.extract hx j).sim
  ·exact Sim.fail
 case call c =>
  obtain ⟨cl,args,ats⟩:=c
  cases cl with
  | builtin b =>
   refine Sim.a7n (g:=Go.builtin b ats oty (args.map fun | .const _=>true | _=>false) (args.map a.eval)) (fun W=>?_) (Sim.builtin (ae3 hf hg args))
   simp only [execOp,resolve,Sem.run_bind,Sem.run_pure,Result.andThen_ok,invoke]
   rfl
  | _=>cases hc
end Go.CE
namespace Go.CE
variable [Sym] [a0n]
open Go.RowKit
variable {P:Program} {B:Nat} {σ:Sg}

abbrev FW (r:Option Nat):Fence:={ Fence.wide with round:=r }
theorem ai9 {r:Option Nat} {n:Nat} {f:FuncId} {args:Array Value} {w:World} {R:Ending→World→Prop}:CallsIn (FW r) n P f args w R↔Calls P f args w R:=callsIn_wide
def Done (P:Program) (B:Nat) (σ:Sg) (n n':Nat) (m':Tr AB) (v:AV) (W:World) (e:Ending) (W':World):Prop :=
 ∃ τ u,e=.returned u∧Grow σ τ n n'∧SR P B τ m' W'∧VR τ v u∧Below B W W'
def apw (P:Program) (call:Nat→List AV→X AV):Prop:=∀ (B:Nat) (σ:Sg) (m:Tr AB) (n:Nat) (l w:List LE) (W:World) (k:Nat) (args:List AV) (v:AV) (m':Tr AB) (n':Nat) (l' w':List LE) (vals:Array Value),
 GS σ→SR P B σ m W→LR σ args vals→call k args ⟨m,n,l,w⟩=some (v,⟨m',n',l',w'⟩)→a3q σ n n'→(callFunc k vals).run P W=.ok (.enter k vals) W∧Calls P k vals W (Done P B σ n n' m' v W)
def aSc (P:Program) (yl:Nat→List AV→X AV):Prop:=∀ (B:Nat) (σ:Sg) (m:Tr AB) (n:Nat) (l w:List LE) (W:World) (k:Nat) (args:List AV) (v:AV) (m':Tr AB) (n':Nat) (l' w':List LE) (vals:Array Value) (q:Pl),
 GS σ→SR P B σ m W→LR σ args vals→σ k=some q→yl k args ⟨m,n,l,w⟩=some (v,⟨m',n',l',w'⟩)→a3q σ n n' →
  ∃ f tmps asg body,(Instr.yield q.b vals).run P W=.ok (.round q.b f tmps asg body) W∧RoundIn Fence.wide 0 P q.b f tmps asg body W (Done P B σ n n' m' v W)
theorem VR.toList {l:List AV} {a:Array Value} (h:LR σ l a):LR σ l a.toList.toArray:=by simpa using h
theorem b2u {call yl:Nat→List AV→X AV} (hc:apw P call) (hy:aSc P yl) {fr:Fr} {a:Act} {o:Oper} {m m':Tr AB} {n n':Nat} {l l' w w':List LE} {W:World} {v:AV} {r:Option Nat} {next:Act→World→Prop} {Q:Exit→Act→World→Prop}
  (hf:FR σ fr a) (hg:GS σ) (hs:SR P B σ m W) (hx:a8u P call yl fr o.op ⟨m,n,l,w⟩=some (v,⟨m',n',l',w'⟩)) (hfr:a3q σ n n')
  (hn:∀ τ u W',Grow σ τ n n'→SR P B τ m' W'→VR τ v u→Below B W W'→next (a.put o.dst u) W'):o.wpIn (FW r) 0 P a W next Q:=by
 have hdef:∀ c,o.op≠.defer c:=fun c e=>by rw [e] at hx;cases hx
 refine ⟨fun _ _=>trivial,?_⟩
 rw [show (o.semAt (FW r).round a.eval)=execOp a.eval o from Oper.semAt_eq _ _ _ hdef]
 cases hic:arl o.op with
 | false =>
  obtain ⟨τ,W',nx,h1,h2,h3,h4,h5⟩:=Sim.op (P:=P) (B:=B) (call:=call) (yl:=yl) hf hg o hic σ m n l w W v m' n' l' w' (Sg.le.refl _) hs hx hfr
  rw [h1]
  rcases h4 with ⟨u,rfl,hu⟩ | ⟨rfl,rfl⟩
  ·exact hn τ u W' h2 h3 hu h5
  ·exact hn τ undef W' h2 h3 .u h5
 | true =>
  obtain ⟨dst,op,oty,pos,aft,gd⟩:=o
  cases op<;>first | (simp [arl] at hic;done) | skip
  rename_i c
  obtain ⟨cl,args,ats⟩:=c
  cases cl with
  | builtin b=>simp [arl] at hic
  | invoke _ _=>cases hx
  | value f =>
   have hfv:=aav hf hg f
   have hal:=ae3 hf hg args
   change (match a19 fr f with
    | .f fn a cp=>call fn (a++args.toList.map (a19 fr)++cp)
    | .y l=>yl l (args.toList.map (a19 fr))
    | _=>fail) ⟨m,n,l,w⟩=some (v,⟨m',n',l',w'⟩) at hx
   generalize hof:a19 fr f=of at hx hfv
   generalize hev:a.eval f=vf at hfv
   have hres:∀ W,(resolve a.eval ⟨.value f,args,ats⟩ oty).run P W=(Deferred.ofValue vf (args.map a.eval)).run P W:=fun W=>by simp only [resolve,hev]
   cases hfv<;>first | (cases hx;done) | skip
   case f fn xs ys xv yv h1 h2 h3 h4 =>
    have hl:LR σ (xs++args.toList.map (a19 fr)++ys) (xv++args.map a.eval++yv):=(LR.append ⟨h1,h3⟩ hal).append ⟨h2,h4⟩
    obtain ⟨e1,e2⟩:=hc B σ m n l w W fn _ v m' n' l' w' _ hg hs hl hx hfr
    have hrun:(execOp a.eval { dst:=dst,op:=.call ⟨.value f,args,ats⟩,type:=oty,pos:=pos,after:=aft,guard:=gd }).run P W=.ok (.enter fn (xv++args.map a.eval++yv)) W:=by
     simp only [execOp,Sem.run_bind,hres,Deferred.ofValue,Sem.run_pure,Result.andThen_ok,invoke]
     exact e1
    rw [hrun]
    refine ⟨fun h=>(by cases h),?_⟩
    refine ai9.2 (e2.mono fun e W' hd=>?_)
    obtain ⟨τ,u,rfl,q1,q2,q3,q4⟩:=hd
    exact hn τ u W' q1 q2 q3 q4
   case y k q hq =>
    obtain ⟨g,tmps,asg,body,e1,e2⟩:=hy B σ m n l w W k _ v m' n' l' w' _ q hg hs hal hq hx hfr
    have hrun:(execOp a.eval { dst:=dst,op:=.call ⟨.value f,args,ats⟩,type:=oty,pos:=pos,after:=aft,guard:=gd }).run P W=.ok (.round q.b g tmps asg body) W:=by
     simp only [execOp,Sem.run_bind,hres,Deferred.ofValue,Sem.run_pure,Result.andThen_ok,invoke]
     rw [show (#[]:Array Value)++args.map a.eval=args.map a.eval by simp]
     exact e1
    rw [hrun]
    refine ⟨fun h=>(by cases h),?_⟩
    refine RoundIn.mono (show RoundIn (FW r) (0 - 1) P q.b g tmps asg body W (Done P B σ n n' m' v W) from e2) fun e W' hd=>?_
    obtain ⟨τ,u,rfl,q1,q2,q3,q4⟩:=hd
    exact hn τ u W' q1 q2 q3 q4

theorem aBr {ops:Array Oper} {fr:Fr} {a:Act} {o:Oper} {b:Bool} (hf:FR σ fr a) (h:aki ops.toList fr o=some b):Region.wanted o (yielded ops a.tmps)=b:=by
 unfold aki at h
 unfold Region.wanted
 cases hg:o.guard with
 | none=>rw [hg] at h;simpa using h
 | some jw =>
  obtain ⟨j,want⟩:=jw
  rw [hg] at h
  dsimp only at h ⊢
  unfold yielded
  rw [Array.getElem?_toList] at h
  cases hq:ops[j]? with
  | none=>rw [hq] at h;cases h;rfl
  | some q =>
   rw [hq] at h
   dsimp only at h
   cases hd:q.dst with
   | none=>rw [hd] at h;cases h;simp [hd]
   | some t =>
    rw [hd] at h
    dsimp only at h
    have hv:=hf.1.2 t
    simp only [Option.bind_some,hd]
    have key:∀ v:Value,a.tmps.getD t undef=v→(∀ x,v≠.bool x)→(match (a.tmps[t]? : Option Value) with | some (.bool b)=>some b | _=>none)=none:=fun v hv hne=>by
     cases ht:a.tmps[t]? with
     | none=>rfl
     | some u =>
      have:a.tmps.getD t undef=u:=by rw [Array.getD_eq_getD_getElem?,ht];rfl
      rw [this] at hv
      subst hv
      cases u<;>first | rfl | exact absurd rfl (hne _)
    generalize hfa:fr.at t=x at h hv
    generalize hva:a.tmps.getD t undef=u at hv
    cases hv with
    | b y =>
     cases h
     cases ht:a.tmps[t]? with
     | none=>rw [Array.getD_eq_getD_getElem?,ht] at hva;simp [undef] at hva
     | some z =>
      rw [Array.getD_eq_getD_getElem?,ht] at hva
      simp at hva
      subst hva
      simp
    | bad _=>cases h
    | u=>cases h;exact (congrArg (· == some want) (key _ hva (fun x=>by simp [undef]))).trans rfl
    | _=>cases h;exact (congrArg (· == some want) (key _ hva (fun x=>by simp))).trans rfl
theorem ahv {fr fr':Fr} {d:Option Nat} {v:AV} {s s':St} (h:fr.lay d v s=some (fr',s')):s' = s∧fr'.nt=fr.nt∧fr'.mks=fr.mks∧(∀ k,d=some k→k < fr.nt)∧∀ j,fr'.at j=if d=some j then v else fr.at j:=by
 unfold Fr.lay at h
 cases d with
 | none =>
  obtain ⟨rfl,rfl⟩:=a0k h
  exact ⟨rfl,rfl,rfl,(fun k hk=>by cases hk),(fun j=>by rw [if_neg (by simp)])⟩
 | some k =>
  dsimp only at h
  cases hb:Nat.ble (k+1) fr.nt with
  | false=>rw [hb] at h;cases h
  | true =>
   rw [hb] at h
   obtain ⟨rfl,rfl⟩:=a0k h
   refine ⟨rfl,rfl,rfl,(fun j hj=>by cases hj;exact a6e hb),(fun j=>?_)⟩
   unfold Fr.at
   dsimp only
   rw [Tr.a0u]
   by_cases e:j=k
   ·subst e;simp
   ·rw [if_neg e,if_neg (by simp;omega)]
theorem FR.put {fr fr':Fr} {a:Act} {d:Option Nat} {v:AV} {u:Value} {s s':St} (hf:FR σ fr a) (h:fr.lay d v s=some (fr',s')) (hv:VR σ v u):FR σ fr' (a.put d u):=by
 obtain ⟨rfl,h1,h2,h3,h4⟩:=ahv h
 cases d with
 | none =>
  refine ⟨⟨by rw [h1];exact hf.1.1,fun k=>?_⟩,by rw [h2];exact hf.2⟩
  rw [h4,if_neg (by simp)];exact hf.1.2 k
 | some k =>
  have hk:=h3 k rfl
  refine ⟨⟨by simp only [Act.put,Array.size_setIfInBounds];rw [h1];exact hf.1.1,fun j=>?_⟩,by rw [h2];exact hf.2⟩
  rw [h4]
  simp only [Act.put]
  have hsz:=hf.1.1
  by_cases e:k=j
  ·subst e
   rw [if_pos rfl,Array.getD_eq_getD_getElem?,Array.getElem?_setIfInBounds,if_pos rfl,if_pos (by omega)]
   exact hv
  ·rw [if_neg (by simp;exact e),Array.getD_eq_getD_getElem?,Array.getElem?_setIfInBounds,if_neg e,← Array.getD_eq_getD_getElem?]
   exact hf.1.2 j
theorem aKc {call yl:Nat→List AV→X AV} (hc:apw P call) (hy:aSc P yl) {ops:Array Oper} {i:Nat} {o:Oper} (hi:ops[i]? = some o) {fr fr':Fr} {a:Act} {m m':Tr AB} {n n':Nat} {l l' w w':List LE} {W:World} {r:Option Nat} {K:Act→World→Prop} {Q:Exit→Act→World→Prop}
  (hf:FR σ fr a) (hg:GS σ) (hs:SR P B σ m W) (hx:a7d P call yl ops.toList fr o ⟨m,n,l,w⟩=some (fr',⟨m',n',l',w'⟩)) (hfr:a3q σ n n')
  (hn:∀ τ a' W',Grow σ τ n n'→SR P B τ m' W'→FR τ fr' a'→Below B W W'→K a' W'):wpOpIn (FW r) 0 P ops Q i K a W:=by
 unfold wpOpIn
 rw [hi]
 dsimp only
 unfold a7d at hx
 cases hw:aki ops.toList fr o with
 | none=>rw [hw] at hx;cases hx
 | some b =>
  rw [hw] at hx
  rw [aBr hf hw]
  cases b with
  | true =>
   rw [if_pos rfl]
   obtain ⟨v,⟨m1,n1,l1,w1⟩,h1,h2⟩:=a08 hx
   have e:=(ahv h2).1
   cases e
   refine b2u hc hy hf hg hs h1 hfr fun τ u W' q1 q2 q3 q4=>hn τ _ W' q1 q2 ?_ q4
   exact FR.put (hf.mono q1.1) h2 q3
  | false =>
   rw [if_neg (by simp)]
   have e:=(ahv hx).1
   cases e
   exact ⟨fun _ _=>trivial,hn σ _ W (Grow.refl _ _ _) hs (FR.put hf hx .u) (Below.refl _ _)⟩
theorem aUv {call yl:Nat→List AV→X AV} (hc:apw P call) (hy:aSc P yl) (lc:∀ k a,Loc (call k a)) (ly:∀ k a,Loc (yl k a)) {ops:Array Oper} {r:Option Nat} {Q:Exit→Act→World→Prop} :
  ∀ (c i:Nat) (σ:Sg) (fr fr':Fr) (a:Act) (m m':Tr AB) (n n':Nat) (l l' w w':List LE) (W:World),i+c=ops.size→FR σ fr a→GS σ→SR P B σ m W→aju P call yl ops.toList (ops.toList.drop i) fr ⟨m,n,l,w⟩=some (fr',⟨m',n',l',w'⟩)→a3q σ n n' →
   (∀ τ a' W',Grow σ τ n n'→SR P B τ m' W'→FR τ fr' a'→Below B W W'→Q .normal a' W')→wpOpsIn (FW r) 0 P ops Q (List.range' i c) a W:=by
 intro c
 induction c with
 | zero =>
  intro i σ fr fr' a m m' n n' l l' w w' W hic hf hg hs hx hfr hn
  rw [List.drop_eq_nil_of_le (by simp;omega)] at hx
  obtain ⟨rfl,e⟩:=a0k hx
  cases e
  exact hn σ a W (Grow.refl _ _ _) hs hf (Below.refl _ _)
 | succ c ih =>
  intro i σ fr fr' a m m' n n' l l' w w' W hic hf hg hs hx hfr hn
  have hi:i < ops.size:=by omega
  have ho:ops[i]? = some ops[i]:=Array.getElem?_eq_getElem hi
  have hd:ops.toList.drop i=ops[i] :: ops.toList.drop (i+1):=by
   rw [List.drop_eq_getElem_cons (by simpa using hi)];simp
  rw [hd] at hx
  obtain ⟨fr1,⟨m1,n1,l1,w1⟩,h1,h2⟩:=a08 hx
  rw [List.range'_succ,wpOpsIn_cons]
  have g1:=(Loc.a7d lc ly ops.toList fr ops[i]).mono h1
  have g2:=(Loc.aju lc ly ops.toList (ops.toList.drop (i+1)) fr1).mono h2
  dsimp only at g1 g2
  refine aKc hc hy ho hf hg hs h1 (hfr.left g2) fun τ a' W' q1 q2 q3 q4=>?_
  refine ih (i+1) τ fr1 fr' a' m1 m' n1 n' l1 l' w1 w' W' (by omega) q3 (hg.mono q1.1) q2 h2 (hfr.right q1 g1) fun υ a2 W2 p1 p2 p3 p4=>?_
  exact hn υ a2 W2 (q1.trans p1 g1 g2) p2 p3 (q4.trans p4)
end Go.CE
namespace Go.CE
variable [Sym] [a0n]
open Go.RowKit

theorem atw {fr g:Fr} {x:Operand} (h:∀ t,x=.tmp t→fr.at t=g.at t):a19 fr x=a19 g x:=by
 cases x with
 | tmp t=>exact h t rfl
 | _=>rfl
theorem a9x {fr g:Fr} (xs:Array Operand) (h:∀ x∈xs,a19 fr x=a19 g x):xs.toList.map (a19 fr)=xs.toList.map (a19 g) :=
 List.map_congr_left fun x hx=>h x (Array.mem_toList_iff.1 hx)
theorem ahr {fr g:Fr} (xs:Array (Nat×Operand)) (h:∀ x∈(xs.toList.map (·.2)).toArray,a19 fr x=a19 g x):(xs.toList.map fun (j,x)=>(j,a19 fr x))=xs.toList.map fun (j,x)=>(j,a19 g x) :=
 List.map_congr_left fun x hx=>by
  obtain ⟨j,y⟩:=x
  have:=h y (by simp;exact ⟨j,Array.mem_toList_iff.1 hx⟩)
  show (j,a19 fr y)=(j,a19 g y)
  rw [this]
theorem aco {fr g:Fr} (x:Option Operand) (h:∀ y∈x.toArray,a19 fr y=a19 g y):x.map (a19 fr)=x.map (a19 g):=by
 cases x with
 | none=>rfl
 | some y=>simp [h y (by simp)]
theorem auf {P:Program} {call yl:Nat→List AV→X AV} {fr g:Fr} (o:Op) (h:∀ x∈o.operands,a19 fr x=a19 g x):a8u P call yl fr o=a8u P call yl g o:=by
 cases o<;>simp only [Op.operands] at h<;>first | rfl | skip
 case move x=>simp only [a8u,h x (by simp)]
 case assign x=>simp only [a8u,h x (by simp)]
 case pick c x y=>simp only [a8u,h c (by simp),h x (by simp),h y (by simp)]
 case box t x=>simp only [a8u,h x (by simp)]
 case build t ps=>simp only [a8u,ahr ps h]
 case buildSlice t n ps=>simp only [a8u,ahr ps h]
 case load t x=>simp only [a8u,h x (by simp)]
 case store t x y=>simp only [a8u,h x (by simp),h y (by simp)]
 case nilCheck x=>simp only [a8u,h x (by simp)]
 case binOp op t x y ty=>simp only [a8u,h x (by simp),h y (by simp)]
 case unOp op t x=>simp only [a8u,h x (by simp)]
 case convert s d x=>simp only [a8u,h x (by simp)]
 case makeFunc fn xs ys=>simp only [a8u,a9x xs fun x hx=>h x (by simp [hx]),a9x ys fun x hx=>h x (by simp [hx])]
 case makeSlice t l c=>simp only [a8u,h l (by simp),h c (by simp)]
 case slice t x lo hi mx=>simp only [a8u,h x (by simp),aco lo fun y hy=>h y (by simp [hy]),aco hi fun y hy=>h y (by simp [hy]),aco mx fun y hy=>h y (by simp [hy])]
 case fieldAddr t x j=>simp only [a8u,h x (by simp)]
 case field t x j=>simp only [a8u,h x (by simp)]
 case indexAddr t x y=>simp only [a8u,h x (by simp),h y (by simp)]
 case index t x y=>simp only [a8u,h x (by simp),h y (by simp)]
 case lookup t x y ok=>simp only [a8u,h x (by simp),h y (by simp)]
 case mapUpdate t m k v=>simp only [a8u,h m (by simp),h k (by simp),h v (by simp)]
 case extract x j=>simp only [a8u,h x (by simp)]
 case call c =>
  obtain ⟨cl,args,ats⟩:=c
  cases cl with
  | builtin b=>simp only [a8u,a9x args fun x hx=>h x (by simp [Call.operands,hx])]
  | value f=>simp only [a8u,a9x args fun x hx=>h x (by simp [Call.operands,hx]),h f (by simp [Call.operands])]
  | invoke _ _=>rfl
def FE (fr g:Fr):Prop:=fr.nt=g.nt∧fr.mks=g.mks∧∀ k,fr.at k=g.at k
def ME (m m2:Tr AB):Prop:=∀ k,m.get k=m2.get k
theorem au3 {o:Oper} {ops:List Oper} {t:Nat} (h:Operand.tmp t∈o.op.operands):t∈tmpsOf o ops:=by
 unfold tmpsOf
 apply List.mem_append_left
 rw [List.mem_filterMap]
 exact ⟨.tmp t,Array.mem_toList_iff.2 h,rfl⟩
section
variable {P:Program} {call yl:Nat→List AV→X AV} {ops:List Oper}
theorem anl {fr g:Fr} {o:Oper} (h:∀ t∈tmpsOf o ops,fr.at t=g.at t):aki ops fr o=aki ops g o:=by
 unfold aki
 cases hg:o.guard with
 | none=>rfl
 | some jw =>
  obtain ⟨j,want⟩:=jw
  dsimp only
  cases hq:ops[j]? with
  | none=>rfl
  | some q =>
   dsimp only
   cases hd:q.dst with
   | none=>rfl
   | some t =>
    dsimp only
    rw [h t (by unfold tmpsOf;apply List.mem_append_right;rw [hg];dsimp only;rw [hq];dsimp only;rw [hd];simp)]
theorem a8j {fr fr1 g:Fr} {o:Oper} {s s1:St} (hx:a7d P call yl ops fr o s=some (fr1,s1)) (hn:g.nt=fr.nt) (h:∀ t∈tmpsOf o ops,fr.at t=g.at t) :
  ∃ v g1,a7d P call yl ops g o s=some (g1,s1)∧g1.nt=g.nt∧g1.mks=g.mks∧fr1.nt=fr.nt∧fr1.mks=fr.mks∧(∀ j,fr1.at j=if o.dst=some j then v else fr.at j)∧∀ j,g1.at j=if o.dst=some j then v else g.at j:=by
 unfold a7d at hx ⊢
 rw [anl h] at hx
 have lay:∀ v (s s1:St),fr.lay o.dst v s=some (fr1,s1)→∃ g1,g.lay o.dst v s=some (g1,s1)∧g1.nt=g.nt∧g1.mks=g.mks∧fr1.nt=fr.nt∧fr1.mks=fr.mks∧(∀ j,fr1.at j=if o.dst=some j then v else fr.at j)∧∀ j,g1.at j=if o.dst=some j then v else g.at j:=fun v s s1 hl=>by
  obtain ⟨rfl,e1,e2,e3,e4⟩:=ahv hl
  have : ∃ g1,g.lay o.dst v s1=some (g1,s1):=by
   unfold Fr.lay
   cases hd:o.dst with
   | none=>exact ⟨g,rfl⟩
   | some k =>
    dsimp only
    rw [hn,show Nat.ble (k+1) fr.nt=true from Nat.ble_eq_true_of_le (e3 k hd)]
    exact ⟨_,rfl⟩
  obtain ⟨g1,hg1⟩:=this
  obtain ⟨_,d1,d2,d3,d4⟩:=ahv hg1
  exact ⟨g1,hg1,d1,d2,e1,e2,e4,d4⟩
 cases hw:aki ops g o with
 | none=>rw [hw] at hx;cases hx
 | some b =>
  rw [hw] at hx
  cases b with
  | false=>exact ⟨.u,lay .u s s1 hx⟩
  | true =>
   obtain ⟨v,s2,h1,h2⟩:=a08 hx
   rw [auf o.op fun x hx=>atw fun t ht=>h t (au3 (ht ▸ hx))] at h1
   obtain ⟨g1,e1,rest⟩:=lay v s2 s1 h2
   refine ⟨v,g1,?_,rest⟩
   show bnd (a8u P call yl g o.op) (fun v=>g.lay o.dst v) s=_
   unfold bnd;rw [h1];exact e1
end

theorem a6p {a b:LE} (h:hits a b=false) (hk:a.k=b.k):a.wh=false∧b.wh=false∧∀ j,cov a j→¬ cov b j:=by
 unfold hits at h
 rw [hk,aed] at h
 dsimp only at h
 rw [Bool.or_eq_false_iff,Bool.or_eq_false_iff] at h
 obtain ⟨⟨h1,h2⟩,h3⟩:=h
 refine ⟨h1,h2,fun j ha hb=>?_⟩
 rcases ha with ha | ha
 ·rw [h1] at ha;cases ha
 ·rcases hb with hb | hb
  ·rw [h2] at hb;cases hb
  ·rw [Bool.and_eq_false_iff] at h3
   rcases h3 with h3 | h3
   ·have:=aS9 h3;omega
   ·have:=aS9 h3;omega
theorem a6w {a:LE}:∀ {l:List LE},ajm a l=false→∀ b∈l,hits a b=false
 | [],_,b,hb=>by cases hb
 | c :: l,h,b,hb=>by
  simp only [ajm] at h
  split at h
  ·cases h
  ·rename_i hc
   rcases List.mem_cons.1 hb with rfl | hb
   ·exact hc
   ·exact a6w h b hb
theorem a8l:∀ {w l:List LE},clear w l=true→∀ a∈w,∀ b∈l,hits a b=false
 | [],_,_,a,ha=>by cases ha
 | c :: w,l,h,a,ha=>by
  simp only [clear] at h
  split at h
  ·cases h
  ·rename_i hc
   rcases List.mem_cons.1 ha with rfl | ha
   ·exact a6w hc
   ·exact a8l h a ha
theorem aic {m m2:Tr AB} {w l:List LE} (hk:keeps m m2 w) (hc:clear w l=true):anh m m2 l:=by
 intro e he
 refine ⟨(hk e.k).1 fun a ha hak=>(a6p (a8l hc a ha e he) hak).1,fun j hj=>(hk e.k).2 j fun a ha hak hcov=>?_⟩
 exact (a6p (a8l hc a ha e he) hak).2.2 j hcov hj
theorem anh.symm {m m2:Tr AB} {l:List LE} (h:anh m m2 l):anh m2 m l:=fun e he=>⟨(h e he).1.symm,fun j hj=>((h e he).2 j hj).symm⟩
theorem aCl {m m1 m2 n1 n2:Tr AB} {lk wk li wi:List LE} (sk:∀ e∈wk,e∈lk) (si:∀ e∈wi,e∈li) (h1:keeps m m1 wk) (h2:keeps m1 m2 wi) (g1:keeps m n1 wi) (g2:keeps n1 n2 wk)
  (a1:anh m2 n1 li) (a2:anh m1 n2 lk) (c1:clear wk li=true) (c2:clear wi lk=true):ME m2 n2:=by
 intro k
 by_cases hk : ∃ e∈wk,e.k=k∧e.wh=true
 ·obtain ⟨e,he,rfl,hw⟩:=hk
  have no:∀ q∈wi,q.k≠e.k:=fun q hq hqk=>by
   have:=(a6p (a8l c1 e he q (si q hq)) hqk.symm).1
   rw [hw] at this;cases this
  have e1:m1.get e.k=m2.get e.k:=adq ((h2 e.k).1 fun q hq hqk=>absurd hqk (no q hq)) fun j=>(h2 e.k).2 j fun q hq hqk=>absurd hqk (no q hq)
  have:=a2 e (sk e he)
  have e2:m1.get e.k=n2.get e.k:=adq this.1 fun j=>this.2 j (.inl hw)
  rw [← e1,e2]
 ·by_cases hi : ∃ e∈wi,e.k=k∧e.wh=true
  ·obtain ⟨e,he,rfl,hw⟩:=hi
   have no:∀ q∈wk,q.k≠e.k:=fun q hq hqk=>by
    have:=(a6p (a8l c2 e he q (sk q hq)) hqk.symm).1
    rw [hw] at this;cases this
   have e1:n1.get e.k=n2.get e.k:=adq ((g2 e.k).1 fun q hq hqk=>absurd hqk (no q hq)) fun j=>(g2 e.k).2 j fun q hq hqk=>absurd hqk (no q hq)
   have:=a1 e (si e he)
   have e2:m2.get e.k=n1.get e.k:=adq this.1 fun j=>this.2 j (.inl hw)
   rw [e2,e1]
  ·have fk:∀ e∈wk,e.k=k→e.wh=false:=fun e he hek=>by
    cases hw:e.wh with
    | false=>rfl
    | true=>exact absurd ⟨e,he,hek,hw⟩ hk
   have fi:∀ e∈wi,e.k=k→e.wh=false:=fun e he hek=>by
    cases hw:e.wh with
    | false=>rfl
    | true=>exact absurd ⟨e,he,hek,hw⟩ hi
   refine adq ((((h1 k).1 fk).trans ((h2 k).1 fi)).symm.trans (((g1 k).1 fi).trans ((g2 k).1 fk))) fun j=>?_
   by_cases ck : ∃ e∈wk,e.k=k∧cov e j
   ·obtain ⟨e,he,rfl,hc⟩:=ck
    have x1:=(a2 e (sk e he)).2 j hc
    have x2:=(h2 e.k).2 j fun q hq hqk hcq=>(a6p (a8l c1 e he q (si q hq)) hqk.symm).2.2 j hc hcq
    rw [← x2,x1]
   ·by_cases ci : ∃ e∈wi,e.k=k∧cov e j
    ·obtain ⟨e,he,rfl,hc⟩:=ci
     have x1:=(a1 e (si e he)).2 j hc
     have x2:=(g2 e.k).2 j fun q hq hqk hcq=>(a6p (a8l c2 e he q (sk q hq)) hqk.symm).2.2 j hc hcq
     rw [x1,x2]
    ·have nk:∀ e∈wk,e.k=k→¬ cov e j:=fun e he hek hc=>ck ⟨e,he,hek,hc⟩
     have ni:∀ e∈wi,e.k=k→¬ cov e j:=fun e he hek hc=>ci ⟨e,he,hek,hc⟩
     rw [← (h2 k).2 j ni,← (h1 k).2 j nk,(g1 k).2 j ni,(g2 k).2 j nk]
theorem aD0 {m m1 n n1:Tr AB} {lg wl:List LE} (hs:∀ e∈wl,e∈lg) (h:ME m n) (h1:keeps m m1 wl) (g1:keeps n n1 wl) (a:anh m1 n1 lg):ME m1 n1:=by
 intro k
 by_cases hw:∀ e∈wl,e.k=k→e.wh=false
 ·refine adq ?_ fun j=>?_
  ·have x:=(h1 k).1 hw;have y:=(g1 k).1 hw
   rw [h k] at x
   exact x.symm.trans y
  ·by_cases hc : ∃ e∈wl,e.k=k∧cov e j
   ·obtain ⟨e,he,rfl,hc⟩:=hc
    exact (a e (hs e he)).2 j hc
   ·have no:∀ e∈wl,e.k=k→¬ cov e j:=fun e he hek hcv=>hc ⟨e,he,hek,hcv⟩
    rw [← (h1 k).2 j no,← (g1 k).2 j no,h k]
 ·obtain ⟨e,he⟩:=Classical.not_forall.1 hw
  obtain ⟨hm,h2⟩:=Classical.not_imp.1 he
  obtain ⟨rfl,h3⟩:=Classical.not_imp.1 h2
  have:=a e (hs e hm)
  exact adq this.1 fun j=>this.2 j (.inl (by simpa using h3))
end Go.CE
namespace Go.CE
variable [Sym] [a0n]
open Go.RowKit

structure It where
 i:Nat
 c:Nat
 c':Nat
 lg:List LE
 wl:List LE
section
variable {P:Program} {call yl:Nat→List AV→X AV} (lc:∀ k a,Loc (call k a)) (ly:∀ k a,Loc (yl k a)) {ops:Array Oper}
def akq (P:Program) (call yl:Nat→List AV→X AV) (ops:Array Oper) (t:It) (fr:Fr) (m:Tr AB) (fr1:Fr) (m1:Tr AB):Prop :=
 ∃ o,ops[t.i]? = some o∧a7d P call yl ops.toList fr o ⟨m,t.c,[],[]⟩=some (fr1,⟨m1,t.c',t.lg,t.wl⟩)
def aRe (P:Program) (call yl:Nat→List AV→X AV) (ops:Array Oper):List It→Fr→Tr AB→Fr→Tr AB→Prop
 | [],fr,m,fr',m'=>FE fr fr'∧ME m m'
 | t :: l,fr,m,fr',m' => ∃ fr1 m1,akq P call yl ops t fr m fr1 m1∧aRe P call yl ops l fr1 m1 fr' m'
def apI (ops:Array Oper) (p q:It):Prop:=∀ a b,ops[p.i]? = some a→ops[q.i]? = some b→age (adh ops.toList a (p.lg,p.wl)) (adh ops.toList b (q.lg,q.wl))=true
include lc ly
theorem ail {t:It} {fr fr1:Fr} {m m1:Tr AB} {o:Oper} (h:a7d P call yl ops.toList fr o ⟨m,t.c,[],[]⟩=some (fr1,⟨m1,t.c',t.lg,t.wl⟩)) :
  t.c≤t.c'∧(∀ e∈t.wl,e∈t.lg)∧keeps m m1 t.wl∧∀ m2,anh m m2 t.lg→∃ m2',a7d P call yl ops.toList fr o ⟨m2,t.c,[],[]⟩=some (fr1,⟨m2',t.c',t.lg,t.wl⟩)∧anh m1 m2' t.lg∧keeps m2 m2' t.wl:=by
 obtain ⟨g,lg,wl,e1,e2,sub,k,r⟩:=Loc.a7d lc ly ops.toList fr o _ _ _ _ _ _ _ _ _ h
 rw [List.append_nil] at e1 e2
 subst e1;subst e2
 refine ⟨g,sub,k,fun m2 hag=>?_⟩
 obtain ⟨m2',e,a,b⟩:=r m2 [] [] hag
 rw [List.append_nil,List.append_nil] at e
 exact ⟨m2',e,a,b⟩
omit lc ly in
theorem aR9 {m n:Tr AB} (h:ME m n) (l:List LE):anh m n l:=fun e _=>by
 exact ⟨by rw [h e.k];exact sameShape.refl _,fun j _=>by rw [h e.k]⟩
theorem asz {t:It} {fr fr1 g:Fr} {m m1 n:Tr AB} (h:akq P call yl ops t fr m fr1 m1) (hf:FE fr g) (hm:ME m n) : ∃ g1 n1,akq P call yl ops t g n g1 n1∧FE fr1 g1∧ME m1 n1:=by
 obtain ⟨o,ho,hx⟩:=h
 obtain ⟨_,sub,k,r⟩:=ail lc ly hx
 obtain ⟨n1,e,a,b⟩:=r n (aR9 hm _)
 obtain ⟨v,g1,e2,f1,f2,f3,f4,f5,f6⟩:=a8j e hf.1.symm fun t _=>hf.2.2 t
 refine ⟨g1,n1,⟨o,ho,e2⟩,⟨by rw [f1,f3,hf.1],by rw [f2,f4,hf.2.1],fun j=>by rw [f5,f6,hf.2.2 j]⟩,aD0 sub hm k b a⟩
theorem av8:∀ {l:List It} {fr g fr':Fr} {m n m':Tr AB},aRe P call yl ops l fr m fr' m'→FE fr g→ME m n→aRe P call yl ops l g n fr' m':=by
 intro l
 induction l with
 | nil =>
  intro fr g fr' m n m' h hf hm
  exact ⟨⟨hf.1.symm.trans h.1.1,hf.2.1.symm.trans h.1.2.1,fun k=>(hf.2.2 k).symm.trans (h.1.2.2 k)⟩,fun k=>(hm k).symm.trans (h.2 k)⟩
 | cons t l ih =>
  intro fr g fr' m n m' h hf hm
  obtain ⟨fr1,m1,h1,h2⟩:=h
  obtain ⟨g1,n1,e,ef,em⟩:=asz lc ly h1 hf hm
  exact ⟨g1,n1,e,ih h2 ef em⟩
omit lc ly in
theorem apf:∀ {l m:List Nat},apg l m=true→∀ x∈l,x ∉ m:=by
 have mem:∀ (m:List Nat) (k:Nat),aZg k m=false→k ∉ m:=by
  intro m
  induction m with
  | nil=>intro k _ h;cases h
  | cons j m ih =>
   intro k h hk
   simp only [aZg] at h
   split at h
   ·cases h
   ·rename_i hj
    rcases List.mem_cons.1 hk with rfl | hk
    ·exact ang hj rfl
    ·exact ih k h hk
 intro l
 induction l with
 | nil=>intro m _ x hx;cases hx
 | cons k l ih =>
  intro m h x hx
  simp only [apg] at h
  split at h
  ·cases h
  ·rename_i hk
   rcases List.mem_cons.1 hx with rfl | hx
   ·exact mem m x hk
   ·exact ih h x hx
theorem swap {p q:It} {fr fr1 fr2:Fr} {m m1 m2:Tr AB} (h1:akq P call yl ops p fr m fr1 m1) (h2:akq P call yl ops q fr1 m1 fr2 m2) (ha:apI ops p q) :
  ∃ g1 n1 g2 n2,akq P call yl ops q fr m g1 n1∧akq P call yl ops p g1 n1 g2 n2∧FE fr2 g2∧ME m2 n2:=by
 obtain ⟨a,hoa,x1⟩:=h1
 obtain ⟨b,hob,x2⟩:=h2
 have hap:=ha a b hoa hob
 unfold age adh at hap
 simp only [Bool.and_eq_true] at hap
 obtain ⟨⟨⟨⟨d1,d2⟩,d3⟩,c1⟩,c2⟩:=hap
 obtain ⟨_,sa,ka,ra⟩:=ail lc ly x1
 obtain ⟨_,sb,kb,rb⟩:=ail lc ly x2
 obtain ⟨va,_,_,_,_,e1,e2,e3,_⟩:=a8j x1 rfl fun t _=>rfl
 obtain ⟨n1,y1,ag1,kn1⟩:=rb m (aic ka c1).symm
 have hin:∀ t∈tmpsOf b ops.toList,fr1.at t=fr.at t:=fun t ht=>by
  rw [e3,if_neg fun hd=>apf d1 t (by rw [hd];simp) ht]
 obtain ⟨vb,g1,y2,f1,f2,f3,f4,f5,f6⟩:=a8j y1 e1.symm hin
 obtain ⟨n2,z1,ag2,kn2⟩:=ra n1 (aic kn1 c2)
 have hin2:∀ t∈tmpsOf a ops.toList,fr.at t=g1.at t:=fun t ht=>by
  rw [f6,if_neg fun hd=>apf d3 t (by rw [hd];simp) ht]
 obtain ⟨va',g2,z2,q1,q2,q3,q4,q5,q6⟩:=a8j z1 f1 hin2
 refine ⟨g1,n1,g2,n2,⟨b,hob,y2⟩,⟨a,hoa,z2⟩,⟨?_,?_,fun j=>?_⟩,aCl sa sb ka kb kn1 kn2 ag1 ag2 c1 c2⟩
 ·rw [q1,f1,f3,e1]
 ·rw [q2,f2,f4,e2]
 ·rw [f5,q6,f6]
  have hv:a.dst=some j→va=va':=fun hd=>by have x:=e3 j;have y:=q5 j;rw [if_pos hd] at x y;rw [← x,← y]
  by_cases hb:b.dst=some j
  ·rw [if_pos hb]
   by_cases ha2:a.dst=some j
   ·exact absurd (by rw [hb];simp) (apf d2 j (by rw [ha2];simp))
   ·rw [if_neg ha2,if_pos hb]
  ·rw [if_neg hb,e3]
   by_cases ha2:a.dst=some j
   ·rw [if_pos ha2,if_pos ha2,hv ha2]
   ·rw [if_neg ha2,if_neg ha2,if_neg hb]
theorem aCa:∀ {pre post:List It} {t:It} {fr fr':Fr} {m m':Tr AB},aRe P call yl ops (pre++t :: post) fr m fr' m'→(∀ p∈pre,apI ops p t)→∃ g n,akq P call yl ops t fr m g n∧aRe P call yl ops (pre++post) g n fr' m':=by
 intro pre
 induction pre with
 | nil =>
  intro post t fr fr' m m' h _
  obtain ⟨g,n,h1,h2⟩:=h
  exact ⟨g,n,h1,h2⟩
 | cons p pre ih =>
  intro post t fr fr' m m' h ha
  obtain ⟨fr1,m1,h1,h2⟩:=h
  obtain ⟨g,n,h3,h4⟩:=ih h2 fun q hq=>ha q (List.mem_cons_of_mem _ hq)
  obtain ⟨g1,n1,g2,n2,s1,s2,s3,s4⟩:=swap lc ly h1 h3 (ha p (List.mem_cons_self ..))
  exact ⟨g1,n1,s1,g2,n2,s2,av8 lc ly h4 s3 s4⟩
theorem aue:∀ (c i:Nat) (fr fr':Fr) (m m':Tr AB) (n n':Nat) (l l' w w':List LE) (ls:List (List LE×List LE)),i+c=ops.size→adi P call yl ops.toList (ops.toList.drop i) fr ⟨m,n,l,w⟩=some ((fr',ls),⟨m',n',l',w'⟩) →
  ∃ its:List It,aRe P call yl ops its fr m fr' m'∧its.map (·.i)=List.range' i c∧its.map (fun t=>(t.lg,t.wl))=ls∧n≤n'∧(∀ t∈its,n≤t.c∧t.c≤t.c'∧t.c'≤n')∧its.Pairwise (fun p q=>p.c'≤q.c):=by
 intro c
 induction c with
 | zero =>
  intro i fr fr' m m' n n' l l' w w' ls hic h
  rw [List.drop_eq_nil_of_le (by simp;omega)] at h
  obtain ⟨e1,e2⟩:=a0k h
  cases e1;cases e2
  exact ⟨[],⟨⟨rfl,rfl,fun _=>rfl⟩,fun _=>rfl⟩,rfl,rfl,Nat.le_refl _,(fun t ht=>by cases ht),List.Pairwise.nil⟩
 | succ c ih =>
  intro i fr fr' m m' n n' l l' w w' ls hic h
  have hi:i < ops.size:=by omega
  have ho:ops[i]? = some ops[i]:=Array.getElem?_eq_getElem hi
  have hd:ops.toList.drop i=ops[i] :: ops.toList.drop (i+1):=by
   rw [List.drop_eq_getElem_cons (by simpa using hi)];simp
  rw [hd] at h
  obtain ⟨⟨fr1,lg,wl⟩,⟨m1,n1,l1,w1⟩,h1,h2⟩:=a08 h
  obtain ⟨⟨fr2,ls2⟩,⟨m2,n2,l2,w2⟩,h3,h4⟩:=a08 h2
  obtain ⟨e1,e2⟩:=a0k h4
  cases e1;cases e2
  have hone:a7d P call yl ops.toList fr ops[i] ⟨m,n,[],[]⟩=some (fr1,⟨m1,n1,lg,wl⟩):=by
   unfold aCy at h1
   dsimp only at h1
   split at h1
   ·rename_i b mm nn ll ww hb
    simp only [Option.some.injEq,Prod.mk.injEq,St.mk.injEq] at h1
    obtain ⟨⟨rfl,rfl,rfl⟩,rfl,rfl,-,-⟩:=h1
    exact hb
   ·cases h1
  have g1:=(Loc.a7d lc ly ops.toList fr ops[i]).mono hone
  dsimp only at g1
  obtain ⟨its,r1,r2,r3,r4,r5,r6⟩:=ih (i+1) fr1 fr' m1 m' n1 n' l1 l' w1 w' ls2 (by omega) h3
  refine ⟨⟨i,n,n1,lg,wl⟩ :: its,⟨fr1,m1,⟨ops[i],ho,hone⟩,r1⟩,by simp [r2,List.range'_succ],by simp [r3],by omega,fun t ht=>?_,?_⟩
  ·rcases List.mem_cons.1 ht with rfl | ht
   ·exact ⟨Nat.le_refl _,g1,r4⟩
   ·have:=r5 t ht;omega
  ·exact List.Pairwise.cons (fun t ht=>(r5 t ht).1) r6
end

theorem azv {acc:List Nat} {k:Nat}:∀ (l:List Edge) (s:Nat),(l.foldl (fun s e=>match Region.binds .any e with | true=>s ||| 2 ^ e.on ||| acc.getD e.on 0 | false=>s) s).testBit k=true→s.testBit k=true∨∃ e∈l,Region.binds .any e=true∧(k=e.on∨(acc.getD e.on 0).testBit k=true):=by
 intro l
 induction l with
 | nil=>intro s h;exact .inl h
 | cons e l ih =>
  intro s h
  simp only [List.foldl_cons] at h
  rcases ih _ h with h | ⟨q,hq,h1,h2⟩
  ·split at h
   ·rename_i hb
    rw [Nat.testBit_or,Nat.testBit_or,Bool.or_eq_true,Bool.or_eq_true] at h
    rcases h with (h | h) | h
    ·exact .inl h
    ·rw [Nat.testBit_two_pow] at h
     exact .inr ⟨e,List.mem_cons_self ..,hb,.inl (by simpa using (of_decide_eq_true h).symm)⟩
    ·exact .inr ⟨e,List.mem_cons_self ..,hb,.inr h⟩
   ·exact .inl h
  ·exact .inr ⟨q,List.mem_cons_of_mem _ hq,h1,h2⟩
theorem aAx:∀ (l:List Oper) (acc:List Nat),∃ r,aSa l acc=acc++r∧r.length=l.length∧∀ (j:Nat) (o:Oper) (k:Nat),l[j]? = some o→((acc++r).getD (acc.length+j) 0).testBit k=true→∃ e∈o.after.toList,Region.binds .any e=true∧(k=e.on∨((acc++r).getD e.on 0).testBit k=true):=by
 intro l
 induction l with
 | nil=>intro acc;exact ⟨[],by simp [aSa],rfl,fun j o k h=>by simp at h⟩
 | cons o l ih =>
  intro acc
  simp only [aSa]
  generalize hx:(o.after.toList.foldl (fun s e=>match Region.binds .any e with | true=>s ||| 2 ^ e.on ||| acc.getD e.on 0 | false=>s) 0)=x
  obtain ⟨r,h1,h2,h3⟩:=ih (acc ++ [x])
  refine ⟨x :: r,by rw [h1];simp,by simp [h2],fun j o' k hj hk=>?_⟩
  have e:acc++x :: r=acc ++ [x]++r:=by simp
  cases j with
  | zero =>
   simp at hj
   subst hj
   rw [List.getD_eq_getElem?_getD,List.getElem?_append_right (by simp)] at hk
   simp at hk
   rw [← hx] at hk
   rcases azv _ _ hk with h | ⟨q,hq,b1,b2⟩
   ·simp at h
   ·refine ⟨q,hq,b1,?_⟩
    rcases b2 with b2 | b2
    ·exact .inl b2
    ·right
     by_cases hlt:q.on < acc.length
     ·rw [List.getD_eq_getElem?_getD,List.getElem?_append_left hlt,← List.getD_eq_getElem?_getD];exact b2
     ·rw [List.getD_eq_getElem?_getD,List.getElem?_eq_none (by omega)] at b2;simp at b2
  | succ j =>
   rw [e] at hk ⊢
   refine h3 j o' k (by simpa using hj) ?_
   rw [show (acc ++ [x]).length+j=acc.length+(j+1) by simp;omega]
   exact hk
theorem apr {bef:Nat} {b:aeg}:∀ {l:List aeg} {j:Nat},a8p bef b l j=true→∀ (p:Nat) (a:aeg),l[p]? = some a→bef.testBit (j+p)=true∨age a b=true:=by
 intro l
 induction l with
 | nil=>intro j _ p a h;simp at h
 | cons c l ih =>
  intro j h p a hp
  simp only [a8p] at h
  split at h
  ·rename_i hc
   cases p with
   | zero=>simp at hp;subst hp;simpa using hc
   | succ p =>
    have:=ih h p a (by simpa using hp)
    rwa [show j+1+p=j+(p+1) by omega] at this
  ·cases h
theorem an5:∀ {l pre:List aeg} {bs:List Nat},a88 pre l bs=true→∀ (p q:Nat) (a b:aeg),p < pre.length+q→(pre++l)[p]? = some a→l[q]? = some b→(bs.getD q 0).testBit p=true∨age a b=true:=by
 intro l
 induction l with
 | nil=>intro pre bs _ p q a b _ _ h;simp at h
 | cons c l ih =>
  intro pre bs h p q a b hpq hp hq
  cases bs with
  | nil=>cases h
  | cons bf bs =>
   simp only [a88] at h
   split at h
   ·rename_i hc
    cases q with
    | zero =>
     simp at hq;subst hq
     rw [List.getElem?_append_left (by simpa using hpq)] at hp
     have:=apr hc p a hp
     simpa using this
    | succ q =>
     have:=ih h p q a b (by simp;omega) (by rw [List.append_assoc];simpa using hp) (by simpa using hq)
     simpa using this
   ·cases h
theorem aug:∀ {l:List Oper} {j:Nat},acu l j=true→∀ (i:Nat) (o:Oper),l[i]? = some o→∀ e∈o.after.toList,Region.binds .any e=true→e.on < j+i:=by
 intro l
 induction l with
 | nil=>intro j _ i o h;simp at h
 | cons c l ih =>
  intro j h i o hi e he hb
  simp only [acu] at h
  split at h
  ·rename_i hc
   cases i with
   | zero =>
    simp at hi;subst hi
    have:=List.all_eq_true.1 hc e he
    rw [hb] at this
    simp at this
    omega
   | succ i =>
    have:=ih h i o (by simpa using hi) e he hb
    omega
  ·cases h
theorem arz {ops:List Oper}:∀ {l:List Oper} {ls:List (List LE×List LE)} {i:Nat} {o:Oper} {q:List LE×List LE},l[i]? = some o→ls[i]? = some q→(aS6 ops l ls)[i]? = some (adh ops o q):=by
 intro l
 induction l with
 | nil=>intro ls i o q h;simp at h
 | cons c l ih =>
  intro ls i o q h1 h2
  cases ls with
  | nil=>simp at h2
  | cons d ls =>
   cases i with
   | zero=>simp at h1 h2;subst h1;subst h2;rfl
   | succ i=>simp only [aS6,List.getElem?_cons_succ];exact ih (by simpa using h1) (by simpa using h2)
end Go.CE
namespace Go.CE
variable [Sym] [a0n]
open Go.RowKit
variable {P:Program} {B:Nat}

theorem SR.me {σ:Sg} {m m':Tr AB} {W:World} (h:SR P B σ m W) (e:ME m m'):SR P B σ m' W :=
 ⟨fun k x hk=>h.mr k x (by rw [e k];exact hk),fun k j p q hk hj=>h.inj k j p q (by rw [e k];exact hk) (by rw [e j];exact hj),h.ro,h.hB⟩
theorem FR.fe {σ:Sg} {fr g:Fr} {a:Act} (h:FR σ fr a) (e:FE fr g):FR σ g a :=
 ⟨⟨by rw [← e.1];exact h.1.1,fun k=>by rw [← e.2.2 k];exact h.1.2 k⟩,by rw [← e.2.1];exact h.2⟩
theorem mem_ready {ops:Array Oper} {listed:Array Bool} {i:Nat}:i∈Region.ready .any ops listed↔i < ops.size∧listed.getD i true=false∧∀ o,ops[i]? = some o→∀ e∈o.after.toList,Region.binds .any e=true→listed.getD e.on false=true:=by
 unfold Region.ready
 rw [List.mem_filter,List.mem_range]
 constructor
 ·rintro ⟨h1,h2⟩
  rw [Bool.and_eq_true,Bool.not_eq_true'] at h2
  refine ⟨h1,h2.1,fun o ho e he hb=>?_⟩
  rw [ho] at h2
  simp only [Option.map_some,Option.getD_some] at h2
  have:=Array.all_eq_true'.1 h2.2 e (Array.mem_toList_iff.1 he)
  rw [hb] at this
  simpa using this
 ·rintro ⟨h1,h2,h3⟩
  refine ⟨h1,?_⟩
  rw [h2]
  have ho:ops[i]? = some ops[i]:=Array.getElem?_eq_getElem h1
  rw [ho]
  simp only [Bool.not_false,Bool.true_and,Option.map_some,Option.getD_some]
  rw [Array.all_eq_true']
  intro e he
  cases hb:Region.binds .any e with
  | false=>rfl
  | true=>simpa using h3 _ ho e (Array.mem_toList_iff.2 he) hb
theorem afw {l:Array Bool} {i:Nat} (h:i < l.size) (a b:Bool):l.getD i a=l.getD i b:=by
 simp [Array.getD,h]
theorem closed {ops:Array Oper} {BF:List Nat} {listed:Array Bool} (hz:listed.size=ops.size)
  (hBF:∀ (i:Nat) (o:Oper) (k:Nat),ops[i]? = some o→(BF.getD i 0).testBit k=true→∃ e∈o.after.toList,Region.binds .any e=true∧(k=e.on∨(BF.getD e.on 0).testBit k=true))
  (hE:∀ (i:Nat) (o:Oper),ops[i]? = some o→∀ e∈o.after.toList,Region.binds .any e=true→e.on < i)
  (hD:∀ (i:Nat) (o:Oper),ops[i]? = some o→listed.getD i true=true→∀ e∈o.after.toList,Region.binds .any e=true→listed.getD e.on false=true) :
  ∀ (i:Nat) (o:Oper),ops[i]? = some o→(∀ e∈o.after.toList,Region.binds .any e=true→listed.getD e.on false=true)→∀ k,(BF.getD i 0).testBit k=true→listed.getD k false=true:=by
 intro i
 induction i using Nat.strongRecOn with
 | _ i ih =>
  intro o ho hr k hk
  obtain ⟨e,he,hb,h⟩:=hBF i o k ho hk
  have hl:=hr e he hb
  rcases h with rfl | h
  ·exact hl
  ·have hlt:=hE i o ho e he hb
   have hi:i < ops.size:=(Array.getElem?_eq_some_iff.1 ho).1
   have hon:e.on < ops.size:=by omega
   have hoe:ops[e.on]? = some ops[e.on]:=Array.getElem?_eq_getElem hon
   exact ih e.on hlt _ hoe (hD e.on _ hoe (by rw [afw (by omega) true false];exact hl)) k h
theorem aY4 {call yl:Nat→List AV→X AV} (hc:apw P call) (hy:aSc P yl) (lc:∀ k a,Loc (call k a)) (ly:∀ k a,Loc (yl k a)) {ops:Array Oper} {BF:List Nat} {all:List It} {r:Option Nat} {Q:Exit→Act→World→Prop}
  (hBF:∀ (i:Nat) (o:Oper) (k:Nat),ops[i]? = some o→(BF.getD i 0).testBit k=true→∃ e∈o.after.toList,Region.binds .any e=true∧(k=e.on∨(BF.getD e.on 0).testBit k=true))
  (hE:∀ (i:Nat) (o:Oper),ops[i]? = some o→∀ e∈o.after.toList,Region.binds .any e=true→e.on < i)
  (hA:∀ p∈all,∀ q∈all,p.i < q.i→(BF.getD q.i 0).testBit p.i=true∨apI ops p q) :
  ∀ (c:Nat) (its:List It) (listed:Array Bool) (fr fr':Fr) (m m':Tr AB) (σ:Sg) (a:Act) (W:World) (N1 N2:Nat),its.length=c→(∀ t∈its,t∈all)→listed.size=ops.size→its.Pairwise (fun p q=>p.i < q.i) →
   (∀ i,i < ops.size→(listed.getD i true=false↔∃ t∈its,t.i=i))→(∀ t∈its,t.i < ops.size) →
   (∀ (i:Nat) (o:Oper),ops[i]? = some o→listed.getD i true=true→∀ e∈o.after.toList,Region.binds .any e=true→listed.getD e.on false=true) →
   aRe P call yl ops its fr m fr' m'→FR σ fr a→GS σ→SR P B σ m W→(∀ t∈its,N1≤t.c∧t.c≤t.c'∧t.c'≤N2)→its.Pairwise (fun p q=>p.c'≤q.c)→(∀ t∈its,a3q σ t.c t.c') →
   (∀ τ a' W',Sg.le σ τ→(∀ k,σ k=none→τ k≠none→2 * N1≤k∧k < 2 * N2)→SR P B τ m' W'→FR τ fr' a'→Below B W W'→Q .normal a' W') →
   wpAnyIn (FW r) 0 P .any ops Q c listed a W:=by
 intro c
 induction c with
 | zero =>
  intro its listed fr fr' m m' σ a W N1 N2 hlen hall hz hpw hli hlt hD hrun hf hg hs hrg hpc hfr hQ
  have:its = []:=List.eq_nil_of_length_eq_zero hlen
  subst this
  refine ⟨?_,hQ σ a W (Sg.le.refl _) (fun k h1 h2=>absurd h1 h2) (hs.me hrun.2) (hf.fe hrun.1) (Below.refl _ _)⟩
  apply List.eq_nil_iff_forall_not_mem.2
  intro i hi
  obtain ⟨h1,h2,_⟩:=mem_ready.1 hi
  obtain ⟨t,ht,_⟩:=(hli i h1).1 h2
  cases ht
 | succ c ih =>
  intro its listed fr fr' m m' σ a W N1 N2 hlen hall hz hpw hli hlt hD hrun hf hg hs hrg hpc hfr hQ
  refine ⟨fun hnil=>?_,fun i hi=>?_⟩
  ·-- the first one is ready
   exfalso
   cases its with
   | nil=>simp at hlen
   | cons t rest =>
    have ht:=hlt t (List.mem_cons_self ..)
    have:t.i∈Region.ready .any ops listed:=by
     refine mem_ready.2 ⟨ht,(hli t.i ht).2 ⟨t,List.mem_cons_self ..,rfl⟩,fun o ho e he hb=>?_⟩
     have hlt2:=hE t.i o ho e he hb
     rw [afw (by omega) false true]
     cases hv:listed.getD e.on true with
     | true=>rfl
     | false =>
      obtain ⟨q,hq,hqi⟩:=(hli e.on (by omega)).1 hv
      rcases List.mem_cons.1 hq with rfl | hq
      ·omega
      ·have:=(List.pairwise_cons.1 hpw).1 q hq;omega
    rw [hnil] at this;cases this
  ·obtain ⟨h1,h2,h3⟩:=mem_ready.1 hi
   obtain ⟨t,ht,rfl⟩:=(hli i h1).1 h2
   obtain ⟨pre,post,rfl⟩:=List.append_of_mem ht
   have ho:ops[t.i]? = some ops[t.i]:=Array.getElem?_eq_getElem h1
   have hcl:=closed hz hBF hE hD t.i _ ho (h3 _ ho)
   have hpp:=List.pairwise_append.1 hpw
   have hap:∀ p∈pre,apI ops p t:=fun p hp=>by
    have hlt2:p.i < t.i:=hpp.2.2 p hp t (List.mem_cons_self ..)
    rcases hA p (hall p (by simp [hp])) t (hall t (by simp)) hlt2 with h | h
    ·have:=hcl p.i h
     have hpi:=(hli p.i (by omega)).2 ⟨p,by simp [hp],rfl⟩
     rw [afw (by omega) true false,this] at hpi
     cases hpi
    ·exact h
   obtain ⟨g,n,⟨o,ho',hx⟩,hrun2⟩:=aCa lc ly hrun hap
   have hft:=hfr t (by simp)
   have hcc:=List.pairwise_append.1 hpc
   refine aKc hc hy ho' hf hg hs hx hft fun τ a' W' q1 q2 q3 q4=>?_
   have sub:∀ q,q∈pre++post→q∈pre++t :: post:=fun q hq=>by
    rcases List.mem_append.1 hq with h | h
    ·exact List.mem_append_left _ h
    ·exact List.mem_append_right _ (List.mem_cons_of_mem _ h)
   have sl:(pre++post).Sublist (pre++t :: post):=List.Sublist.append_left (List.sublist_cons_self t post) pre
   have hne:∀ q∈pre++post,q.i≠t.i:=fun q hq=>by
    rcases List.mem_append.1 hq with h | h
    ·have:=hpp.2.2 q h t (List.mem_cons_self ..);omega
    ·have:=(List.pairwise_cons.1 hpp.2.1).1 q h;omega
   have gs:∀ j d,(listed.setIfInBounds t.i true).getD j d=if j=t.i then true else listed.getD j d:=fun j d=>by
    rw [Array.getD_eq_getD_getElem?,Array.getElem?_setIfInBounds,Array.getD_eq_getD_getElem?]
    by_cases e:j=t.i
    ·subst e;simp [hz,h1]
    ·rw [if_neg (fun h=>e h.symm),if_neg e]
   refine ih (pre++post) _ g fr' n m' τ a' W' N1 N2 (by simp at hlen ⊢;omega) (fun q hq=>hall q (sub q hq)) (by simp [hz]) (hpw.sublist sl) (fun j hj=>?_) (fun q hq=>hlt q (sub q hq)) (fun j o2 hj hl e he hb=>?_) hrun2 q3 (hg.mono q1.1) q2
    (fun q hq=>hrg q (sub q hq)) (hpc.sublist sl) (fun q hq k k1 k2=>?_) fun υ a2 W2 u1 u2 u3 u4 u5=>?_
   ·rw [gs]
    by_cases e:j=t.i
    ·rw [if_pos e]
     exact ⟨fun h=>(by cases h),fun ⟨q,hq,hqi⟩=>absurd (hqi.trans e) (hne q hq)⟩
    ·rw [if_neg e,hli j hj]
     refine ⟨fun ⟨q,hq,hqi⟩=>⟨q,?_,hqi⟩,fun ⟨q,hq,hqi⟩=>⟨q,sub q hq,hqi⟩⟩
     rcases List.mem_append.1 hq with h | h
     ·exact List.mem_append_left _ h
     ·rcases List.mem_cons.1 h with rfl | h
      ·exact absurd hqi.symm e
      ·exact List.mem_append_right _ h
   ·rw [gs]
    by_cases e2:e.on=t.i
    ·rw [if_pos e2]
    ·rw [if_neg e2]
     rw [gs] at hl
     by_cases e3:j=t.i
     ·subst e3
      exact h3 o2 hj e he hb
     ·rw [if_neg e3] at hl
      exact hD j o2 hj hl e he hb
   ·have h0:=hfr q (sub q hq) k k1 k2
    cases hk:τ k with
    | none=>rfl
    | some p =>
     have hb:=q1.2 k h0 (by rw [hk];simp)
     rcases List.mem_append.1 hq with h | h
     ·have:=hcc.2.2 q h t (List.mem_cons_self ..);omega
     ·have:=(List.pairwise_cons.1 hcc.2.1).1 q h;omega
   ·have ht2:=hrg t (by simp)
    refine hQ υ a2 W2 (q1.1.trans u1) (fun k k1 k2=>?_) u3 u4 (q4.trans u5)
    by_cases h:τ k=none
    ·exact u2 k h k2
    ·have:=q1.2 k k1 h;omega
theorem aTu {σ:Sg} {call yl:Nat→List AV→X AV} (hc:apw P call) (hy:aSc P yl) (lc:∀ k a,Loc (call k a)) (ly:∀ k a,Loc (yl k a)) {id:Nat} {ops:Array Oper} {draw:Bool} {r:Option Nat} {Q:Exit→Act→World→Prop}
  {fr fr':Fr} {a:Act} {m m':Tr AB} {n n':Nat} {l l' w w':List LE} {W:World} (hf:FR σ fr a) (hg:GS σ) (hs:SR P B σ m W) (hx:amo P call yl ops.toList draw fr ⟨m,n,l,w⟩=some (fr',⟨m',n',l',w'⟩)) (hfr:a3q σ n n')
  (hQ:∀ τ a' W',Grow σ τ n n'→SR P B τ m' W'→FR τ fr' a'→Below B W W'→Q .normal a' W'):(Code.region id ops draw).wpIn (FW r) 0 P Q a W:=by
 cases draw with
 | false =>
  refine wpIn_region ?_
  rw [List.range_eq_range']
  exact aUv hc hy lc ly ops.size 0 σ fr fr' a m m' n n' l l' w w' W (by omega) hf hg hs (by rw [List.drop_zero];exact hx) hfr hQ
 | true =>
  obtain ⟨⟨fr1,ls⟩,⟨m1,n1,l1,w1⟩,h1,h2⟩:=a08 hx
  obtain ⟨_,s2,h3,h4⟩:=a08 h2
  obtain ⟨hchk,rfl⟩:=a4b h3
  obtain ⟨rfl,e⟩:=a0k h4
  cases e
  simp only [Bool.and_eq_true] at hchk
  obtain ⟨⟨hmix,b3y⟩,hap⟩:=hchk
  obtain ⟨its,r1,r2,r3,r4,r5,r6⟩:=aue (ops:=ops) lc ly ops.size 0 fr fr' m m' n n' l l' w w' ls (by omega) (by rw [List.drop_zero];exact h1)
  obtain ⟨bf,b1,b2,b3⟩:=aAx ops.toList []
  rw [List.nil_append] at b1
  have hlen:its.length=ops.size:=by have:=congrArg List.length r2;simpa using this
  have hat:∀ t∈its,∃ j,its[j]? = some t∧t.i=j∧j < ops.size:=fun t ht=>by
   obtain ⟨j,hj,e⟩:=List.getElem_of_mem ht
   refine ⟨j,by rw [List.getElem?_eq_getElem hj,e],?_,by omega⟩
   have h5:(its.map (·.i))[j]? = some t.i:=by rw [List.getElem?_map,List.getElem?_eq_getElem hj,e];rfl
   rw [r2,List.getElem?_range' (by omega)] at h5
   simp at h5;omega
  have hat2:∀ j,j < ops.size→∃ t,its[j]? = some t∧t.i=j:=fun j hj=>by
   obtain ⟨t,ht⟩ : ∃ t,its[j]? = some t:=⟨its[j]'(by omega),List.getElem?_eq_getElem (by omega)⟩
   obtain ⟨j',h5,h6,_⟩:=hat t (List.mem_of_getElem? ht)
   refine ⟨t,ht,?_⟩
   have h7:(its.map (·.i))[j]? = some t.i:=by rw [List.getElem?_map,ht];rfl
   rw [r2,List.getElem?_range' hj] at h7
   simp at h7;omega
  refine wpIn_region_any hmix ?_
  have hs2:SR P B σ m ({ W with drawn:=W.drawn+1 }:World):=hs.heap rfl
  have pw:its.Pairwise (fun p q=>p.i < q.i):=by
   have:(its.map (·.i)).Pairwise (· < ·):=by rw [r2];exact List.pairwise_lt_range'
   exact List.pairwise_map.1 this
  have key:=aY4 (B:=B) hc hy lc ly (ops:=ops) (BF:=bf) (all:=its) (r:=r) (Q:=Q) (fun i o k ho hk=>?_) (fun i o ho e he hb=>?_) (fun p hp q hq hlt=>?_) ops.size its (Array.replicate ops.size false) fr fr' m m' σ a { W with drawn:=W.drawn+1 } n n' hlen (fun t ht=>ht) (by simp) pw
   (fun i hi=>?_) (fun t ht=>let ⟨j,_,h6,h7⟩:=hat t ht;by omega) (fun i o ho hl=>?_) r1 hf hg hs2 (fun t ht=>r5 t ht) r6 (fun t ht=>?_) fun τ a' W' q1 q2 q3 q4 q5=>?_
  ·exact key
  ·have:=b3 i o k (by rw [Array.getElem?_toList];exact ho) (by simpa using hk)
   simpa using this
  ·have:=aug b3y i o (by rw [Array.getElem?_toList];exact ho) e he hb
   omega
  ·obtain ⟨jp,p1,p2,p3⟩:=hat p hp
   obtain ⟨jq,q1,q2,q3⟩:=hat q hq
   have op:ops.toList[jp]? = some ops[jp]:=by rw [Array.getElem?_toList];exact Array.getElem?_eq_getElem p3
   have oq:ops.toList[jq]? = some ops[jq]:=by rw [Array.getElem?_toList];exact Array.getElem?_eq_getElem q3
   have lp:ls[jp]? = some (p.lg,p.wl):=by rw [← r3,List.getElem?_map,p1];rfl
   have lq:ls[jq]? = some (q.lg,q.wl):=by rw [← r3,List.getElem?_map,q1];rfl
   have:=an5 hap jp jq _ _ (by simp;omega) (by rw [List.nil_append];exact arz (ops:=ops.toList) op lp) (arz (ops:=ops.toList) oq lq)
   rw [b1] at this
   rw [q2,p2]
   rcases this with h | h
   ·exact .inl h
   ·refine .inr fun x y hx hy=>?_
    rw [p2,← Array.getElem?_toList,op] at hx
    rw [q2,← Array.getElem?_toList,oq] at hy
    cases hx;cases hy
    exact h
  ·refine ⟨fun _=>?_,fun _=>by simp [Array.getD,hi]⟩
   obtain ⟨t,t1,t2⟩:=hat2 i hi
   exact ⟨t,List.mem_of_getElem? t1,t2⟩
  ·have hi:i < ops.size:=(Array.getElem?_eq_some_iff.1 ho).1
   simp [Array.getD,hi] at hl
  ·have:=r5 t ht
   exact fun k k1 k2=>hfr k (by omega) (by omega)
  ·exact hQ τ a' W' ⟨q1,q2⟩ q3 q4 ⟨q5.os,q5.tape,q5.output,q5.size,q5.block⟩
end Go.CE
namespace Go.CE
variable [Sym] [a0n]
open Go.RowKit
variable {P:Program} {B:Nat}

def aXn:Ex→Exit
 | .normal=>.normal
 | .exit k=>.exit k
 | .ret=>.ret
def RR (σ:Sg):Option Nat→Option Nat→Prop
 | none,none=>True
 | some l,some b => ∃ q,σ l=some q∧q.b=b
 | _,_=>False
theorem RR.mono {σ τ:Sg} (h:Sg.le σ τ) {a b:Option Nat} (hr:RR σ a b):RR τ a b:=by
 cases a<;>cases b<;>first | exact hr | (obtain ⟨q,h1,h2⟩:=hr;exact ⟨q,h _ _ h1,h2⟩)
def aRl (P:Program) (ec:Option Nat→Code→Fr→X (Ex×Fr)):Prop:=∀ (rnd:Option Nat) (c:Code) (B:Nat) (σ:Sg) (fr fr':Fr) (a:Act) (m m':Tr AB) (n n':Nat) (l l' w w':List LE) (W:World) (e:Ex) (rb:Option Nat) (Q:Exit→Act→World→Prop),
 FR σ fr a→GS σ→SR P B σ m W→RR σ rnd rb→ec rnd c fr ⟨m,n,l,w⟩=some ((e,fr'),⟨m',n',l',w'⟩)→a3q σ n n' →
  (∀ τ a' W',Grow σ τ n n'→SR P B τ m' W'→FR τ fr' a'→Below B W W'→Q (aXn e) a' W')→c.wpIn (FW rb) 0 P Q a W
def aYa (P:Program) (sm:Nat→Option (List AV→X AV)):Prop:=(∀ k h,sm k=some h→∀ a,Loc (h a)) ∧
 ∀ (k:Nat) (h:List AV→X AV),sm k=some h→∀ (B:Nat) (σ:Sg) (m:Tr AB) (n:Nat) (l w:List LE) (W:World) (args:List AV) (v:AV) (m':Tr AB) (n':Nat) (l' w':List LE) (vals:Array Value),
  GS σ→SR P B σ m W→LR σ args vals→h args ⟨m,n,l,w⟩=some (v,⟨m',n',l',w'⟩)→a3q σ n n'→(callFunc k vals).run P W=.ok (.enter k vals) W∧Calls P k vals W (Done P B σ n n' m' v W)

theorem aGe {σ:Sg} {t:Nat} {ty:TY} (F:TyF P t ty) {x y:AV} {v:Value} {m m':Tr AB} {n n':Nat} {l l' w w':List LE} {W:World} (hv:VR σ x v) (hs:SR P B σ m W) (h:a9k ty x ⟨m,n,l,w⟩=some (y,⟨m',n',l',w'⟩)) :
  m' = m∧n' = n∧∃ ad u,v=.pointer (some ad)∧(loadVar t ad).run P W=.ok u W∧VR σ y u:=by
 unfold a9k at h
 cases x with
 | p o =>
  cases o with
  | none=>cases h
  | some ko =>
   obtain ⟨k,o⟩:=ko
   cases hv with
   | p _ _ q hσ =>
    dsimp only at h
    cases ha:agg ty.d with
    | true =>
     rw [ha] at h
     obtain ⟨r,⟨m1,n1,l1,w1⟩,h1,h2⟩:=a08 h
     obtain ⟨rfl,e⟩:=a0k h2
     cases e
     obtain ⟨rfl,rfl,cs,T,hm,hc⟩:=a5y h1
     obtain ⟨c,hr,hl⟩:=hs.part (P:=P) hm hσ hc
     refine ⟨rfl,rfl,_,_,rfl,?_,hl.g⟩
     rw [aaq F,if_pos ha,Sem.run_bind,hr W rfl];rfl
    | false =>
     rw [ha] at h
     obtain ⟨r,⟨m1,n1,l1,w1⟩,h1,h2⟩:=a08 h
     obtain ⟨rfl,rfl,cs,T,hm,hc⟩:=a5y h1
     unfold one1 at h2
     split at h2
     ·rename_i y'
      obtain ⟨rfl,e⟩:=a0k h2
      cases e
      obtain ⟨c,hr,hl⟩:=hs.part (P:=P) hm hσ hc
      have hr:=hr W rfl
      obtain ⟨u,hu,huv⟩:=hl.at (i:=0) (x:=y) rfl
      have hcc:c=#[u]:=by
       have h2:c.toList.length=1:=by have:=hl.len;simpa using this.symm
       apply Array.ext'
       match hc:c.toList,h2 with
       | [z],_=>rw [← Array.getElem?_toList,hc] at hu;simp at hu;rw [hu]
      rw [hcc] at hr
      simp only [loadCells,loadCellsFrom,Sem.run_bind] at hr
      rw [a2w,Nat.add_zero] at hr
      refine ⟨rfl,rfl,_,u,rfl,?_,huv⟩
      rw [aaq F,ha,if_neg (by simp)]
      cases hq:(load ⟨q.b,o+q.d,none⟩).run P W with
      | ok z W2=>rw [hq] at hr;simp at hr;rw [hr.1,hr.2]
      | halt z W2=>rw [hq] at hr;simp at hr
     ·cases h2
 | _=>cases h
def aqg (tmps:Array Value):ResultVar→Sem Value
 | .tmp t=>Pure.pure (tmps.getD t undef)
 | .cell a t=>do loadVar t (← asAddr (tmps.getD a undef))
theorem aO1 {σ:Sg} {fr:Fr} {tmps:Array Value} (ht:TR σ fr tmps):∀ {rs:List ResultVar} {vs:List AV} {m m':Tr AB} {n n':Nat} {l l' w w':List LE} {W:World},SR P B σ m W→agq P fr rs ⟨m,n,l,w⟩=some (vs,⟨m',n',l',w'⟩) →
  m' = m∧n' = n∧∃ us:List Value,(rs.mapM (aqg tmps)).run P W=.ok us W∧LR σ vs us.toArray:=by
 intro rs
 induction rs with
 | nil =>
  intro vs m m' n n' l l' w w' W hs h
  obtain ⟨rfl,e⟩:=a0k h
  cases e
  exact ⟨rfl,rfl,[],rfl,LR.nil σ⟩
 | cons r rs ih =>
  intro vs m m' n n' l l' w w' W hs h
  have cons:∀ {y:AV} {u:Value} {vs:List AV} {us:List Value},VR σ y u→LR σ vs us.toArray→LR σ (y :: vs) (u :: us).toArray:=fun hy hl=>by
   have:=LR.cons hy hl
   simpa using this
  cases r with
  | tmp t =>
   obtain ⟨q,⟨m1,n1,l1,w1⟩,h1,h2⟩:=a08 h
   obtain ⟨rfl,e⟩:=a0k h2
   cases e
   obtain ⟨rfl,rfl,us,h3,h4⟩:=ih hs h1
   refine ⟨rfl,rfl,tmps.getD t undef :: us,?_,cons (ht.2 t) h4⟩
   rw [List.mapM_cons,Sem.run_bind]
   simp only [aqg,Sem.run_pure,Result.andThen_ok,Sem.run_bind,h3]
  | cell a t =>
   unfold agq at h
   cases hty:a1q P t with
   | none=>rw [hty] at h;cases h
   | some ty =>
    rw [hty] at h
    obtain ⟨F⟩:=a0z hty
    obtain ⟨y,⟨m0,n0,l0,w0⟩,h0,h1⟩:=a08 h
    obtain ⟨q,⟨m1,n1,l1,w1⟩,h1,h2⟩:=a08 h1
    obtain ⟨rfl,e⟩:=a0k h2
    cases e
    obtain ⟨rfl,rfl,ad,u,hv,hr,hu⟩:=aGe F (ht.2 a) hs h0
    obtain ⟨rfl,rfl,us,h3,h4⟩:=ih hs h1
    refine ⟨rfl,rfl,u :: us,?_,cons hu h4⟩
    rw [List.mapM_cons,Sem.run_bind]
    simp only [aqg,hv,asAddr,Sem.run_bind,Sem.run_pure,Result.andThen_ok,hr,h3]
theorem ao9 {σ:Sg} {fr:Fr} {fn:Func} {tmps:Array Value} (ht:TR σ fr tmps) {vs:List AV} {m m':Tr AB} {n n':Nat} {l l' w w':List LE} {W:World} (hs:SR P B σ m W) (h:agq P fr fn.results.toList ⟨m,n,l,w⟩=some (vs,⟨m',n',l',w'⟩)) :
  m' = m∧n' = n∧∃ u,(results fn tmps).run P W=.ok u W∧VR σ (oneOf vs) u:=by
 obtain ⟨rfl,rfl,us,h1,h2⟩:=aO1 ht hs h
 refine ⟨rfl,rfl,(if h:us.toArray.size=1 then us.toArray[0] else .tuple us.toArray),?_,?_⟩
 ·have e:results fn tmps=(do
    let vs ← fn.results.mapM (aqg tmps)
    Pure.pure (if h:vs.size=1 then vs[0] else .tuple vs)):=by
   unfold results
   congr 1
  rw [e,Sem.run_bind,Array.mapM_eq_mapM_toList,Sem.run_map,h1]
  rfl
 ·unfold oneOf
  split
  ·rename_i v
   have hl:=h2.len
   have hsz:us.toArray.size=1:=by rw [← hl];rfl
   rw [dif_pos hsz]
   exact h2.get 0 v _ rfl (by rw [Array.getElem?_eq_getElem (by omega)])
  ·rename_i hne
   have hsz:us.toArray.size≠1:=fun e=>by
    rw [← h2.len] at e
    match vs,e with
    | [v],_=>exact hne v rfl
   rw [dif_neg hsz]
   exact h2.t

theorem ar6:∀ (l:List AV) (j k:Nat),(aG9 l j).get k=if j≤k∧k < j+l.length then l[k - j]? else none:=by
 intro l
 induction l with
 | nil=>intro j k;rw [if_neg (by simp<;>omega)];exact Tr.amb k
 | cons v l ih =>
  intro j k
  simp only [aG9]
  rw [Tr.a0u,ih]
  simp only [List.length_cons]
  by_cases h:k=j
  ·subst h;rw [if_pos rfl,if_pos (by omega)];simp
  ·rw [if_neg h]
   by_cases h2:j+1≤k∧k < j+1+l.length
   ·rw [if_pos h2,if_pos (by omega),show k - j=(k - (j+1))+1 by omega,List.getElem?_cons_succ]
   ·rw [if_neg h2,if_neg (by omega)]
theorem TR.args {σ:Sg} {args:List AV} {vals:Array Value} {nt:Nat} (hl:LR σ args vals) (hn:args.length≤nt):TR σ ⟨aG9 args 0,nt,[]⟩ (vals++Array.replicate (nt - vals.size) undef):=by
 have hsz:=hl.len
 refine ⟨by simp;omega,fun k=>?_⟩
 unfold Fr.at
 dsimp only
 rw [ar6,Nat.zero_add,Nat.sub_zero,Array.getD_eq_getD_getElem?]
 by_cases h:k < args.length
 ·rw [if_pos ⟨Nat.zero_le _,h⟩,Array.getElem?_append_left (by omega)]
  obtain ⟨v,h1,h2⟩:=hl.at (List.getElem?_eq_getElem h)
  rw [h1,List.getElem?_eq_getElem h]
  exact h2
 ·rw [if_neg (by omega),Array.getElem?_append_right (by omega)]
  cases hr:(Array.replicate (nt - vals.size) undef)[k - vals.size]? with
  | none=>exact .u
  | some v =>
   rw [Array.getElem?_replicate] at hr
   split at hr
   ·cases hr;exact .u
   ·cases hr
theorem aNn {k n n':Nat} {m m':Tr AB} {l l' w w':List LE} {u:Unit} (h:aet k ⟨m,n,l,w⟩=some (u,⟨m',n',l',w'⟩)):m' = m.set k none∧n' = n∧roB≤k∧m.get k=some .dfr:=by
 unfold aet at h
 dsimp only at h
 cases hro:Nat.ble roB k with
 | false=>rw [hro] at h;cases h
 | true =>
  rw [hro] at h
  cases hm:m.get k with
  | none=>rw [hm] at h;cases h
  | some b =>
   rw [hm] at h
   cases b with
   | dfr =>
    simp only [Option.some.injEq,Prod.mk.injEq,St.mk.injEq] at h
    obtain ⟨-,rfl,rfl,-,-⟩:=h
    exact ⟨rfl,rfl,a6e hro,rfl⟩
   | _=>cases h
theorem SR.shut {σ:Sg} {m:Tr AB} {W:World} (hs:SR P B σ m W) {k:Nat} {q:Pl} (hσ:σ k=some q) (hk:m.get k≠none) (o:Obj):SR P B σ (m.set k none) (W.putObj q.b o):=by
 have hk2:=hs.kill k
 refine ⟨fun j x hj=>?_,hk2.inj,hk2.ro,by simp;exact hs.hB⟩
 obtain ⟨p,o',h1,h2,h3⟩:=hk2.mr j x hj
 refine ⟨p,o',h1,?_,h3⟩
 have hjk:j≠k:=fun e=>by rw [e,Tr.a0u,if_pos rfl] at hj;cases hj
 have hj2:m.get j≠none:=by rw [Tr.a0u,if_neg hjk] at hj;rw [hj];simp
 rw [World.putObj_heap_other fun e=>hjk (hs.inj j k p q hj2 hk h1 hσ e)]
 exact h2
theorem a7g {W:World} {b:Nat} {o:Obj} (h:B≤b):Below B W (W.putObj b o):=⟨rfl,rfl,rfl,by simp,fun k hk=>World.putObj_heap_other (by omega)⟩
theorem leaves {σ:Sg} {fn:Func} {tmps:Array Value} {R:Ending→World→Prop}:∀ {mks:List Nat} {ds:List Deferred} {m m':Tr AB} {n n':Nat} {l l' w w':List LE} {W:World} {u:Unit},MK σ mks ds→SR P B σ m W→shutAll mks ⟨m,n,l,w⟩=some (u,⟨m',n',l',w'⟩) →
  n' = n∧∀ {F:Fence} {d:Nat},(∀ W',SR P B σ m' W'→Below B W W'→∃ v,(results fn tmps).run P W' = .ok v W'∧R (.returned v) W')→LeavesInM F d P fn tmps R ds .returning W:=by
 intro mks
 induction mks with
 | nil =>
  intro ds m m' n n' l l' w w' W u hm hs h
  obtain ⟨_,e⟩:=a0k h
  cases e
  cases hm
  exact ⟨rfl,fun hk=>hk W hs (Below.refl _ _)⟩
 | cons k mks ih =>
  intro ds m m' n n' l l' w w' W u hm hs h
  obtain ⟨_,⟨m1,n1,l1,w1⟩,h1,h2⟩:=a08 h
  obtain ⟨rfl,rfl,hro,hd⟩:=aNn h1
  cases hm with
  | cons _ q _ ds hσ hm =>
   obtain ⟨q',o,g1,g2,g3⟩:=hs.mr k _ hd
   rw [hσ] at g1;cases g1
   have g3:o=.deferred (some []):=g3
   subst g3
   have hB:=hs.ro k q hσ hro
   obtain ⟨rfl,hk⟩:=ih hm (hs.shut hσ (by rw [hd];simp) (.deferred none)) h2
   refine ⟨rfl,fun hfin=>?_⟩
   refine ⟨by simp,.inl ⟨q.b,_,rfl,run_takeDeferred g2,?_⟩⟩
   exact hk fun W' hs' hb=>hfin W' hs' ((a7g hB).trans hb)
theorem b5j {k:Nat} {c:Code} {nt:Nat} {rs:List ResultVar} (h:FT P k=some (c,nt,rs)) : ∃ fn,P.funcs[k]? = some fn∧(fn.name == "runtime.NumGoroutine")=false∧fn.body=some c∧nt=fn.ntmps∧rs=fn.results.toList:=by
 unfold FT at h
 split at h
 ·rename_i fn hfn
  split at h
  ·cases h
  ·rename_i hnm
   split at h
   ·rename_i c' hc
    cases h
    exact ⟨fn,hfn,hnm,hc,rfl,rfl⟩
   ·cases h
 ·cases h
theorem acy {sm:Nat→Option (List AV→X AV)} {ec:Option Nat→Code→Fr→X (Ex×Fr)} (hsm:aYa P sm) (hec:aRl P ec) (lec:∀ c fr,Loc (ec none c fr)):apw P (a7z P sm (ec none)):=by
 intro B σ m n l w W k args v m' n' l' w' vals hg hs hl hx hfr
 unfold a7z at hx
 cases hk:sm k with
 | some h=>rw [hk] at hx;exact hsm.2 k h hk B σ m n l w W args v m' n' l' w' vals hg hs hl hx hfr
 | none =>
  rw [hk] at hx
  cases hft:FT P k with
  | none=>rw [hft] at hx;cases hx
  | some q =>
   obtain ⟨c,nt,rs⟩:=q
   rw [hft] at hx
   obtain ⟨fn,f1,f2,f3,rfl,rfl⟩:=b5j hft
   obtain ⟨_,s1,h1,h2⟩:=a08 hx
   obtain ⟨hle,rfl⟩:=a4b h1
   have hle:=a6e hle
   obtain ⟨⟨e,fr⟩,⟨m1,n1,l1,w1⟩,h3,h4⟩:=a08 h2
   have g1:=(lec _ _).mono h3
   dsimp only at g1 h4
   refine ⟨?_,callsIn_wide.1 (callsIn_of_wp_marks (n:=0) f1 f3 trivial ?_)⟩
   ·unfold callFunc
    simp only [Sem.run_bind,run_program,Result.andThen_ok,f1,f2,f3,Option.isNone_some,Bool.false_eq_true,if_false,Sem.run_pure]
   ·have hnx:e≠.exit 0∧(∀ j,e≠.exit j)∧bnd (shutAll fr.mks) (fun _=>bnd (agq P fr fn.results.toList) fun vs=>ret (oneOf vs)) ⟨m1,n1,l1,w1⟩=some (v,⟨m',n',l',w'⟩):=by
     cases e with
     | exit j=>cases h4
     | normal=>exact ⟨by simp,by simp,h4⟩
     | ret=>exact ⟨by simp,by simp,h4⟩
    obtain ⟨-,hne,h5⟩:=hnx
    obtain ⟨_,⟨m2,n2,l2,w2⟩,h6,h7⟩:=a08 h5
    obtain ⟨vs,⟨m3,n3,l3,w3⟩,h8,h9⟩:=a08 h7
    obtain ⟨rfl,e2⟩:=a0k h9
    cases e2
    have g2:=(Loc.shutAll _).mono h6
    have g3:=(Loc.agq P fr _).mono h8
    dsimp only at g2 g3
    refine hec none c B σ _ fr _ m m1 n n1 l l1 w w1 W e none _ ⟨TR.args hl hle,.nil⟩ hg hs trivial h3 (hfr.left (by omega)) fun τ a' W' q1 q2 q3 q4=>?_
    have key:LeavesInM Fence.wide 0 P fn a'.tmps (Done P B σ n n' m' (oneOf vs) W) a'.defers .returning W':=by
     obtain ⟨rfl,hk⟩:=leaves (fn:=fn) (tmps:=a'.tmps) (R:=Done P B σ n n' m' (oneOf vs) W) q3.2 q2 h6
     refine hk fun W2 hs2 hb=>?_
     obtain ⟨rfl,rfl,u,hu,huv⟩:=ao9 (fn:=fn) q3.1 hs2 h8
     exact ⟨u,hu,τ,u,rfl,q1,hs2,huv,q4.trans hb⟩
    cases e with
    | exit j=>exact absurd rfl (hne j)
    | normal=>exact key
    | ret=>exact key
end Go.CE
namespace Go.CE
variable [Sym] [a0n]
open Go.RowKit
variable {P:Program} {B:Nat}

theorem aqj {k n n':Nat} {m m':Tr AB} {l l' w w':List LE} {q:Fr×List Nat×Code×Code×LS} (h:rdL k ⟨m,n,l,w⟩=some (q,⟨m',n',l',w'⟩)):m' = m∧n' = n∧m.get k=some (.loop q.1 q.2.1 q.2.2.1 q.2.2.2.1 q.2.2.2.2):=by
 unfold rdL at h
 dsimp only at h
 cases hm:m.get k with
 | none=>rw [hm] at h;cases h
 | some b =>
  rw [hm] at h
  cases b with
  | loop fr ps a b st =>
   simp only [Option.some.injEq,Prod.mk.injEq,St.mk.injEq] at h
   obtain ⟨rfl,rfl,rfl,-,-⟩:=h
   exact ⟨rfl,rfl,rfl⟩
  | _=>cases h
theorem avm {k n n':Nat} {st:LS} {m m':Tr AB} {l l' w w':List LE} {u:Unit} (h:wrL k st ⟨m,n,l,w⟩=some (u,⟨m',n',l',w'⟩)):n' = n∧roB≤k∧∃ fr ps a b st0,m.get k=some (.loop fr ps a b st0)∧m' = m.set k (some (.loop fr ps a b st)):=by
 unfold wrL at h
 dsimp only at h
 cases hro:Nat.ble roB k with
 | false=>rw [hro] at h;cases h
 | true =>
  rw [hro] at h
  cases hm:m.get k with
  | none=>rw [hm] at h;cases h
  | some b =>
   rw [hm] at h
   cases b with
   | loop fr ps a b st0 =>
    simp only [Option.some.injEq,Prod.mk.injEq,St.mk.injEq] at h
    obtain ⟨-,rfl,rfl,-,-⟩:=h
    exact ⟨rfl,a6e hro,fr,ps,a,b,st0,rfl,rfl⟩
   | _=>cases h
theorem SR.loop {σ:Sg} {m:Tr AB} {W:World} (hs:SR P B σ m W) {k:Nat} {q:Pl} {fr:Fr} {ps:List Nat} {a b:Code} {st:LS} (hk:m.get k=some (.loop fr ps a b st)) (hσ:σ k=some q) :
  ∃ r,W.heap[q.b]? = some (.loop r)∧r.params.toList=ps∧r.assign=a∧r.body=b∧TR σ fr r.tmps∧fr.mks = []∧LSR st r.state r.pending:=by
 obtain ⟨q',o,h1,h2,r,rfl,h3⟩:=hs.mr k _ hk
 rw [hσ] at h1;cases h1
 exact ⟨r,h2,h3⟩
theorem SR.anx {σ:Sg} {m:Tr AB} {W:World} (hs:SR P B σ m W) {k:Nat} {q:Pl} {fr:Fr} {ps:List Nat} {a b:Code} {st0 st:LS} (hk:m.get k=some (.loop fr ps a b st0)) (hσ:σ k=some q) {r:Loop} (hr:W.heap[q.b]? = some (.loop r)) (s:LoopState) (p:Option Code) (hl:LSR st s p) :
  SR P B σ (m.set k (some (.loop fr ps a b st))) (W.putObj q.b (.loop { r with state:=s,pending:=p })):=by
 obtain ⟨r',h1,h2,h3,h4,h5,h6,_⟩:=hs.loop hk hσ
 rw [hr] at h1;cases h1
 have hlt:=(Array.getElem?_eq_some_iff.1 hr).1
 exact hs.written (by rw [hk];simp) hσ (World.putObj_heap_same hlt) ⟨_,rfl,h2,h3,h4,h5,h6,hl⟩ (fun y hy=>World.putObj_heap_other hy) (by simp)
theorem az2 {σ:Sg}:∀ {ps:List Nat} {args:List AV} {vals:List Value} {fr fr':Fr} {tmps:Array Value} {s s':St},layAll ps args fr s=some (fr',s')→args.length=vals.length→(∀ (i:Nat) x v,args[i]? = some x→vals[i]? = some v→VR σ x v)→FR σ fr { tmps:=tmps,defers:=[] } →
  s' = s∧ps.length=vals.length∧FR σ fr' { tmps:=(ps.zip vals).foldl (fun t (q:Nat×Value)=>t.setIfInBounds q.1 q.2) tmps,defers:=[] }:=by
 intro ps
 induction ps with
 | nil =>
  intro args vals fr fr' tmps s s' h hl hv hf
  cases args with
  | nil =>
   obtain ⟨rfl,rfl⟩:=a0k h
   cases vals with
   | nil=>exact ⟨rfl,rfl,hf⟩
   | cons _ _=>simp at hl
  | cons _ _=>cases h
 | cons k ps ih =>
  intro args vals fr fr' tmps s s' h hl hv hf
  cases args with
  | nil=>cases h
  | cons x args =>
   cases vals with
   | nil=>simp at hl
   | cons v vals =>
    obtain ⟨fr1,s1,h1,h2⟩:=a08 h
    have hs1:=(ahv h1).1
    subst hs1
    have hf1:=FR.put (d:=some k) hf h1 (hv 0 x v rfl rfl)
    obtain ⟨rfl,e1,e2⟩:=ih (tmps:=tmps.setIfInBounds k v) h2 (by simpa using hl) (fun i x v a b=>hv (i+1) x v (by simpa using a) (by simpa using b)) hf1
    exact ⟨rfl,by simp [e1],by simpa using e2⟩
theorem ao4 {ec:Option Nat→Code→Fr→X (Ex×Fr)} (hec:aRl P ec) (lec:∀ r c fr,Loc (ec r c fr)):aSc P (a9b fun l=>ec (some l)):=by
 intro B σ m n l w W k args v m' n' l' w' vals q hg hs hl hσ hx hfr
 unfold a9b at hx
 obtain ⟨⟨fr0,ps,asg,body,st⟩,⟨m1,n1,l1,w1⟩,h1,h2⟩:=a08 hx
 obtain ⟨rfl,rfl,hm⟩:=aqj h1
 dsimp only at hm h2
 obtain ⟨r,hr,rp,ra,rb,rt,rm,_⟩:=hs.loop hm hσ
 obtain ⟨fr1,s1,h3,h4⟩:=a08 h2
 obtain ⟨rfl,hlen,hf1⟩:=az2 (σ:=σ) (tmps:=r.tmps) (vals:=vals.toList) h3 (by rw [hl.len];simp) (fun i x v a b=>hl.get i x v a (by rw [← Array.getElem?_toList];exact b)) ⟨rt,by rw [rm];exact .nil⟩
 have hsz:vals.size=r.params.size:=by rw [← rp] at hlen;simpa using hlen.symm
 refine ⟨r.fn,_,r.assign,r.body,run_yield hr hsz,?_⟩
 have etm:(r.params.zip vals).foldl (fun tmps (t,a)=>tmps.setIfInBounds t a) r.tmps=(ps.zip vals.toList).foldl (fun t (q:Nat×Value)=>t.setIfInBounds q.1 q.2) r.tmps:=by
  rw [← Array.foldl_toList,Array.toList_zip,rp]
 rw [etm]
 refine roundIn_of_wpIn (F:=Fence.wide) trivial ?_
 show r.assign.wpIn (FW (some q.b)) 0 P _ _ W
 obtain ⟨⟨e1,fr2⟩,⟨m2,n2,l2,w2⟩,h5,h6⟩:=a08 h4
 have g1:=(lec _ _ _).mono h5
 dsimp only at g1 h6
 cases e1 with
 | exit _=>cases h6
 | ret=>cases h6
 | normal =>
  dsimp only at h6
  obtain ⟨⟨fr3,ps3,asg3,body3,st3⟩,⟨m3,n3,l3,w3⟩,h7,h8⟩:=a08 h6
  obtain ⟨rfl,rfl,hm3⟩:=aqj h7
  dsimp only at hm3 h8
  cases st3 with
  | ready =>
   dsimp only at h8
   obtain ⟨_,⟨m4,n4,l4,w4⟩,h9,h10⟩:=a08 h8
   obtain ⟨rfl,hro,fr4,ps4,asg4,body4,st4,hm4,rfl⟩:=avm h9
   rw [hm3] at hm4;cases hm4
   obtain ⟨⟨e2,fr5⟩,⟨m5,n5,l5,w5⟩,h11,h12⟩:=a08 h10
   have g2:=(lec _ _ _).mono h11
   dsimp only at g2 h12
   have g3:n5≤n':=by
    cases e2 with
    | normal=>exact (Loc.bnd (Loc.wrL _ _) fun _=>Loc.ret _).mono h12
    | exit j=>exact (Loc.bnd (Loc.wrL _ _) fun _=>Loc.ret _).mono h12
    | ret=>exact (Loc.bnd (Loc.wrL _ _) fun _=>Loc.ret _).mono h12
   rw [ra]
   refine hec (some k) asg B σ fr1 fr2 _ _ _ _ _ _ _ _ _ W .normal (some q.b) _ hf1 hg hs ⟨q,hσ,rfl⟩ h5 (hfr.left (by omega)) fun τ a1 W1 p1 p2 p3 p4=>?_
   have hσ1:=p1.1 _ _ hσ
   obtain ⟨r1,hr1,_,_,rb1,rt1,rm1,hst1⟩:=p2.loop hm3 hσ1
   refine ⟨_,run_beginRound hr1 hst1.1,?_⟩
   have hB:=p2.ro k q hσ1 hro
   have hsB:SR P B τ _ (W1.putObj q.b (.loop { r1 with state:=.busy,pending:=r1.pending })):=p2.anx (st:=.busy) hm3 hσ1 hr1 .busy r1.pending ⟨rfl,hst1.2⟩
   show r.body.wpIn (FW (some q.b)) 0 P _ a1 _
   rw [rb]
   have fr12:=(hfr.left (b:=n5) (by omega)).right p1 g1
   have fin:∀ (υ:Sg) (W2:World) (st':LS) (s:LoopState) (p:Option Code) (bb:Bool),bnd (CE.wrL k st') (fun _=>CE.ret (AV.b bb)) ⟨m5,n5,l5,w5⟩=some (v,⟨m',n',l',w'⟩)→Grow τ υ _ n5→SR P B υ m5 W2→Below B (W1.putObj q.b (.loop { r1 with state:=.busy,pending:=r1.pending })) W2→LSR st' s p →
     ∃ r2,W2.heap[q.b]? = some (.loop r2)∧Done P B σ n1 n' m' v W (.returned (.bool bb)) (W2.putObj q.b (.loop { r2 with state:=s,pending:=p })):=fun υ W2 st' s p bb hw u1 u2 u4 hls=>by
    obtain ⟨_,⟨m6,n6,l6,w6⟩,z1,z2⟩:=a08 hw
    obtain ⟨rfl,z3⟩:=a0k z2
    cases z3
    obtain ⟨rfl,_,fr6,ps6,asg6,body6,st6,hm6,rfl⟩:=avm z1
    have hσ2:=u1.1 _ _ hσ1
    obtain ⟨r2,hr2,_⟩:=u2.loop hm6 hσ2
    exact ⟨r2,hr2,υ,.bool bb,rfl,p1.trans u1 g1 g2,u2.anx hm6 hσ2 hr2 s p hls,.b bb,((p4.trans (a7g hB)).trans u4).trans (a7g hB)⟩
   refine hec (some k) body B τ fr2 fr5 a1 _ _ _ _ _ _ _ _ _ e2 (some q.b) _ p3 (hg.mono p1.1) hsB ⟨q,hσ1,rfl⟩ h11 fr12 fun υ a2 W2 u1 u2 u3 u4=>?_
   cases e2 with
   | normal =>
    obtain ⟨r2,hr2,hd⟩:=fin υ W2 .ready .ready none true h12 u1 u2 u4 ⟨rfl,rfl⟩
    exact ⟨_,_,run_endRound none hr2,hd⟩
   | exit j =>
    obtain ⟨r2,hr2,hd⟩:=fin υ W2 (.done (.exit j)) .done (some (.exit j)) false h12 u1 u2 u4 ⟨rfl,rfl⟩
    exact ⟨_,_,run_endRound _ hr2,hd⟩
   | ret =>
    obtain ⟨r2,hr2,hd⟩:=fin υ W2 (.done .ret) .done (some .ret) false h12 u1 u2 u4 ⟨rfl,rfl⟩
    exact ⟨_,_,run_endRound _ hr2,hd⟩
  | _=>cases h8
theorem aHj {σ:Sg} {rnd rb:Option Nat} {fr fr':Fr} {a:Act} {ps:Array Nat} {asg body:Code} {m m':Tr AB} {n n' k:Nat} {l l' w w':List LE} {W:World} (hf:FR σ fr a) (hs:SR P B σ m W) (hr:RR σ rnd rb) (hx:a8v rnd fr ps.toList asg body ⟨m,n,l,w⟩=some ((k,fr'),⟨m',n',l',w'⟩)) (hfr:a3q σ n n') (fn:FuncId) :
  ∃ τ q mark W',(Instr.enterLoop fn a.tmps ps asg body rb).run P W=.ok (q.b,mark) W'∧Grow σ τ n n'∧SR P B τ m' W'∧τ k=some q∧Below B W W'∧FR τ fr' { a with defers:=mark++a.defers }:=by
 have lp:∀ τ k b,Sg.le σ τ→∀ d,BR P τ k ⟨b,0,0,0⟩ (.loop ⟨fr.t,fr.nt,[]⟩ ps.toList asg body .ready) (.loop { state:=.ready,pending:=none,fn:=fn,tmps:=a.tmps,params:=ps,assign:=asg,body:=body,defers:=d }):=fun τ k b hle d =>
  ⟨_,rfl,rfl,rfl,rfl,⟨hf.1.1,fun j=>(hf.1.2 j).mono hle⟩,rfl,rfl,rfl⟩
 unfold a8v at hx
 cases rnd with
 | none =>
  cases rb with
  | some _=>exact hr.elim
  | none =>
   obtain ⟨d,⟨m1,n1,l1,w1⟩,h1,h2⟩:=a08 hx
   obtain ⟨k2,⟨m2,n2,l2,w2⟩,h3,h4⟩:=a08 h2
   obtain ⟨e,e2⟩:=a0k h4
   cases e;cases e2
   obtain ⟨ed,em,en⟩:=a6c h1
   obtain ⟨ek,em2,en2⟩:=a6c h3
   subst d;subst m1;subst n1;subst k;subst m';subst n'
   have hk1:σ (a2b false n)=none:=hfr _ (a1a false n).1 (by have:=(a1a false n).2;omega)
   let q1:Pl:=⟨W.heap.size,0,0,0⟩
   have s1:SR P B (σ.add (a2b false n) q1) _ (W.alloc (.deferred (some []))):=hs.fresh (k:=a2b false n) (q:=q1) (x:=.dfr) hk1 rfl rfl
   have hk2:(σ.add (a2b false n) q1) (a2b false (n+1))=none:=by
    unfold Sg.add
    rw [if_neg (by unfold a2b;dsimp only;omega)]
    exact hfr _ (by have:=(a1a false (n+1)).1;omega) (a1a false (n+1)).2
   let q2:Pl:=⟨W.heap.size+1,0,0,0⟩
   have hle1:=Sg.a6v (q:=q1) hk1
   have hle2:=Sg.a6v (q:=q2) hk2
   have s2:=s1.fresh (k:=a2b false (n+1)) (q:=q2) (x:=.loop ⟨fr.t,fr.nt,[]⟩ ps.toList asg body .ready) hk2 (by show W.heap.size+1=_;simp) (lp _ _ _ (hle1.trans hle2) W.heap.size)
   have g1:Grow σ (σ.add (a2b false n) q1) n (n+1):=Grow.add hk1 (a1a false n)
   have g2:Grow (σ.add (a2b false n) q1) _ (n+1) (n+1+1):=Grow.add (q:=q2) hk2 (a1a false (n+1))
   refine ⟨_,q2,_,_,run_enterLoop_outer fn a.tmps ps asg body,g1.trans g2 (by omega) (by omega),s2,by simp [Sg.add],((Below.refl _ _).alloc hs.hB _).alloc (by simp;have:=hs.hB;omega) _,⟨⟨hf.1.1,fun j=>(hf.1.2 j).mono (hle1.trans hle2)⟩,?_⟩⟩
   exact .cons (a2b false n) q1 _ _ (hle2 _ _ (by simp [Sg.add])) (hf.2.mono (hle1.trans hle2))
 | some lo =>
  cases rb with
  | none=>exact hr.elim
  | some b =>
   obtain ⟨q0,hq0,rfl⟩:=hr
   obtain ⟨⟨fr0,ps0,asg0,body0,st0⟩,⟨m1,n1,l1,w1⟩,h1,h2⟩:=a08 hx
   obtain ⟨em,en,hm0⟩:=aqj h1
   subst m1;subst n1
   obtain ⟨k2,⟨m2,n2,l2,w2⟩,h3,h4⟩:=a08 h2
   obtain ⟨e,e2⟩:=a0k h4
   cases e;cases e2
   obtain ⟨ek,em2,en2⟩:=a6c h3
   subst k;subst m';subst n'
   obtain ⟨r0,hr0,_⟩:=hs.loop hm0 hq0
   have hk1:σ (a2b false n)=none:=hfr _ (a1a false n).1 (a1a false n).2
   let q1:Pl:=⟨W.heap.size,0,0,0⟩
   have hle1:=Sg.a6v (q:=q1) hk1
   have s1:=hs.fresh (k:=a2b false n) (q:=q1) (x:=.loop ⟨fr.t,fr.nt,[]⟩ ps.toList asg body .ready) hk1 rfl (lp _ _ _ hle1 r0.defers)
   refine ⟨_,q1,_,_,run_enterLoop_inner hr0 fn a.tmps ps asg body,Grow.add hk1 (a1a false n),s1,by simp [Sg.add],(Below.refl _ _).alloc hs.hB _,hf.mono hle1⟩
theorem aGh {σ:Sg} {k:Nat} {q:Pl} {e:Ex} {m m':Tr AB} {n n':Nat} {l l' w w':List LE} {W:World} (hs:SR P B σ m W) (hσ:σ k=some q) (hx:a8s k ⟨m,n,l,w⟩=some (e,⟨m',n',l',w'⟩)) :
  n' = n∧∃ W',(Instr.endLoop q.b).run P W=.ok (amn e) W'∧SR P B σ m' W'∧Below B W W':=by
 unfold a8s at hx
 obtain ⟨⟨fr,ps,asg,body,st⟩,⟨m1,n1,l1,w1⟩,h1,h2⟩:=a08 hx
 obtain ⟨em,en,hm⟩:=aqj h1
 subst m1;subst n1
 dsimp only at hm h2
 obtain ⟨r,hr,_,_,_,_,_,hst⟩:=hs.loop hm hσ
 have fin:∀ e',r.state≠.busy→r.pending=amn e'→bnd (CE.wrL k .exhausted) (fun _=>CE.ret e') ⟨m,n,l1,w1⟩=some (e,⟨m',n',l',w'⟩)→n' = n∧∃ W',(Instr.endLoop q.b).run P W=.ok (amn e) W'∧SR P B σ m' W'∧Below B W W':=fun e' hb hp h=>by
  obtain ⟨_,⟨m2,n2,l2,w2⟩,h3,h4⟩:=a08 h
  obtain ⟨e5,e6⟩:=a0k h4
  subst e;cases e6
  obtain ⟨en2,hro,fr2,ps2,asg2,body2,st2,hm2,em2⟩:=avm h3
  subst n';subst m'
  refine ⟨rfl,_,(run_endLoop hr hb).trans (by rw [hp]),hs.anx hm2 hσ hr .exhausted r.pending rfl,a7g (hs.ro k q hσ hro)⟩
 cases st with
 | ready=>exact fin .normal (by rw [hst.1];simp) (by rw [hst.2];rfl) h2
 | busy=>cases h2
 | done e'=>exact fin e' (by rw [hst.1];simp) hst.2 h2
 | exhausted=>cases h2
theorem aus {sm:Nat→Option (List AV→X AV)} (hsm:aYa P sm):∀ q:Nat,aRl P (a1x P sm q) ∧
  ∀ (rnd:Option Nat) (c:Code) (B:Nat) (σ:Sg) (fr fr':Fr) (a:Act) (m m':Tr AB) (n n':Nat) (l l' w w':List LE) (W:World) (e:Ex) (rb:Option Nat) (Q:Exit→Act→World→Prop),
   FR σ fr a→GS σ→SR P B σ m W→RR σ rnd rb→a1x P sm q rnd (.loop c) fr ⟨m,n,l,w⟩=some ((e,fr'),⟨m',n',l',w'⟩)→a3q σ n n' →
    (∀ τ a' W',Grow σ τ n n'→SR P B τ m' W'→FR τ fr' a'→Below B W W'→Q (aXn e) a' W')→Code.roundsIn (FW rb) 0 P c Q q a W:=by
 intro q
 induction q with
 | zero =>
  refine ⟨?_,?_⟩
  ·intro rnd c B σ fr fr' a m m' n n' l l' w w' W e rb Q hf hg hs hr hx;cases hx
  ·intro rnd c B σ fr fr' a m m' n n' l l' w w' W e rb Q hf hg hs hr hx;cases hx
 | succ q ih =>
  obtain ⟨ih1,ih2⟩:=ih
  have lec:=Loc.a1x (P:=P) hsm.1 q
  have rounds:∀ (rnd:Option Nat) (c:Code) (B:Nat) (σ:Sg) (fr fr':Fr) (a:Act) (m m':Tr AB) (n n':Nat) (l l' w w':List LE) (W:World) (e:Ex) (rb:Option Nat) (Q:Exit→Act→World→Prop),
   FR σ fr a→GS σ→SR P B σ m W→RR σ rnd rb→a1x P sm (q+1) rnd (.loop c) fr ⟨m,n,l,w⟩=some ((e,fr'),⟨m',n',l',w'⟩)→a3q σ n n' →
    (∀ τ a' W',Grow σ τ n n'→SR P B τ m' W'→FR τ fr' a'→Below B W W'→Q (aXn e) a' W')→Code.roundsIn (FW rb) 0 P c Q (q+1) a W:=by
   intro rnd c B σ fr fr' a m m' n n' l l' w w' W e rb Q hf hg hs hr hx hfr hQ
   rw [roundsIn_succ]
   obtain ⟨⟨e1,fr1⟩,⟨m1,n1,l1,w1⟩,h1,h2⟩:=a08 hx
   have g1:=(lec _ _ _).mono h1
   dsimp only at g1 h2
   cases e1 with
   | normal =>
    have g2:=(lec _ _ _).mono h2
    dsimp only at g2
    refine ih1 rnd c B σ fr fr1 a m m1 n n1 l l1 w w1 W .normal rb _ hf hg hs hr h1 (hfr.left g2) fun τ a1 W1 p1 p2 p3 p4=>?_
    exact ih2 rnd c B τ fr1 fr' a1 m1 m' n1 n' l1 l' w1 w' W1 e rb Q p3 (hg.mono p1.1) p2 (hr.mono p1.1) h2 (hfr.right p1 g1) fun υ a2 W2 u1 u2 u3 u4=>hQ υ a2 W2 (p1.trans u1 g1 g2) u2 u3 (p4.trans u4)
   | exit j =>
    obtain ⟨e3,e4⟩:=a0k h2
    cases e3;cases e4
    exact ih1 rnd c B σ fr fr' a m m' n n' l l' w w' W (.exit j) rb _ hf hg hs hr h1 hfr fun τ a1 W1 p1 p2 p3 p4=>hQ τ a1 W1 p1 p2 p3 p4
   | ret =>
    obtain ⟨e3,e4⟩:=a0k h2
    cases e3;cases e4
    exact ih1 rnd c B σ fr fr' a m m' n n' l l' w w' W .ret rb _ hf hg hs hr h1 hfr fun τ a1 W1 p1 p2 p3 p4=>hQ τ a1 W1 p1 p2 p3 p4
  refine ⟨?_,rounds⟩
  intro rnd c B σ fr fr' a m m' n n' l l' w w' W e rb Q hf hg hs hr hx hfr hQ
  have here:∀ e0,ret (e0,fr) ⟨m,n,l,w⟩=some ((e,fr'),⟨m',n',l',w'⟩)→Q (aXn e0) a W:=fun e0 h=>by
   obtain ⟨e3,e4⟩:=a0k h
   cases e3;cases e4
   exact hQ σ a W (Grow.refl _ _ _) hs hf (Below.refl _ _)
  cases c with
  | skip=>exact wpIn_skip (here .normal hx)
  | label _=>exact wpIn_label (here .normal hx)
  | ret=>exact wpIn_ret (here .ret hx)
  | exit k=>exact wpIn_exit (here (.exit k) hx)
  | goto _=>cases hx
  | scope _=>cases hx
  | refuse _=>cases hx
  | seq x y =>
   obtain ⟨⟨e1,fr1⟩,⟨m1,n1,l1,w1⟩,h1,h2⟩:=a08 hx
   have g1:=(lec _ _ _).mono h1
   dsimp only at g1 h2
   refine wpIn_seq ?_
   cases e1 with
   | normal =>
    have g2:=(lec _ _ _).mono h2
    dsimp only at g2
    refine ih1 rnd x B σ fr fr1 a m m1 n n1 l l1 w w1 W .normal rb _ hf hg hs hr h1 (hfr.left g2) fun τ a1 W1 p1 p2 p3 p4=>?_
    exact ih1 rnd y B τ fr1 fr' a1 m1 m' n1 n' l1 l' w1 w' W1 e rb Q p3 (hg.mono p1.1) p2 (hr.mono p1.1) h2 (hfr.right p1 g1) fun υ a2 W2 u1 u2 u3 u4=>hQ υ a2 W2 (p1.trans u1 g1 g2) u2 u3 (p4.trans u4)
   | exit j =>
    obtain ⟨e3,e4⟩:=a0k h2
    cases e3;cases e4
    exact ih1 rnd x B σ fr fr' a m m' n n' l l' w w' W (.exit j) rb _ hf hg hs hr h1 hfr fun τ a1 W1 p1 p2 p3 p4=>hQ τ a1 W1 p1 p2 p3 p4
   | ret =>
    obtain ⟨e3,e4⟩:=a0k h2
    cases e3;cases e4
    exact ih1 rnd x B σ fr fr' a m m' n n' l l' w w' W .ret rb _ hf hg hs hr h1 hfr fun τ a1 W1 p1 p2 p3 p4=>hQ τ a1 W1 p1 p2 p3 p4
  | cond x c1 c2 =>
   have hv:=aav hf hg x
   change (match a19 fr x with
    | .b true=>a1x P sm q rnd c1 fr
    | .b false=>a1x P sm q rnd c2 fr
    | _=>fail) ⟨m,n,l,w⟩=some ((e,fr'),⟨m',n',l',w'⟩) at hx
   generalize a19 fr x=ox at hv hx
   generalize hev:a.eval x=vx at hv
   cases hv<;>first | (cases hx;done) | skip
   rename_i t
   cases t with
   | true=>exact wpIn_cond_true hev (ih1 rnd c1 B σ fr fr' a m m' n n' l l' w w' W e rb Q hf hg hs hr hx hfr hQ)
   | false=>exact wpIn_cond_false hev (ih1 rnd c2 B σ fr fr' a m m' n n' l l' w w' W e rb Q hf hg hs hr hx hfr hQ)
  | block k x =>
   obtain ⟨⟨e1,fr1⟩,⟨m1,n1,l1,w1⟩,h1,h2⟩:=a08 hx
   dsimp only at h2
   refine wpIn_block ?_
   cases e1 with
   | normal =>
    obtain ⟨e3,e4⟩:=a0k h2
    cases e3;cases e4
    exact ih1 rnd x B σ fr fr' a m m' n n' l l' w w' W .normal rb _ hf hg hs hr h1 hfr fun τ a1 W1 p1 p2 p3 p4=>hQ τ a1 W1 p1 p2 p3 p4
   | ret =>
    obtain ⟨e3,e4⟩:=a0k h2
    cases e3;cases e4
    exact ih1 rnd x B σ fr fr' a m m' n n' l l' w w' W .ret rb _ hf hg hs hr h1 hfr fun τ a1 W1 p1 p2 p3 p4=>hQ τ a1 W1 p1 p2 p3 p4
   | exit j =>
    dsimp only at h2
    cases hb:Nat.beq j k with
    | true =>
     rw [hb] at h2
     obtain ⟨e3,e4⟩:=a0k h2
     cases e3;cases e4
     refine ih1 rnd x B σ fr fr' a m m' n n' l l' w w' W (.exit j) rb _ hf hg hs hr h1 hfr fun τ a1 W1 p1 p2 p3 p4=>?_
     show (if j=k then Q .normal a1 W1 else Q (.exit j) a1 W1)
     rw [if_pos (a92 hb)];exact hQ τ a1 W1 p1 p2 p3 p4
    | false =>
     rw [hb] at h2
     obtain ⟨e3,e4⟩:=a0k h2
     cases e3;cases e4
     refine ih1 rnd x B σ fr fr' a m m' n n' l l' w w' W (.exit j) rb _ hf hg hs hr h1 hfr fun τ a1 W1 p1 p2 p3 p4=>?_
     show (if j=k then Q .normal a1 W1 else Q (.exit j) a1 W1)
     rw [if_neg (ang hb)];exact hQ τ a1 W1 p1 p2 p3 p4
  | loop x=>exact wpIn_loop_rounds (q+1) (rounds rnd x B σ fr fr' a m m' n n' l l' w w' W e rb Q hf hg hs hr hx hfr hQ)
  | region id ops draw =>
   obtain ⟨fr1,⟨m1,n1,l1,w1⟩,h1,h2⟩:=a08 hx
   obtain ⟨e3,e4⟩:=a0k h2
   cases e3;cases e4
   exact aTu (acy hsm ih1 (lec none)) (ao4 ih1 lec) (fun _ _=>Loc.a7z hsm.1 (lec none) _ _) (fun _ _=>Loc.a9b (fun _=>lec _) _ _) hf hg hs h1 hfr fun τ a' W' p1 p2 p3 p4=>hQ τ a' W' p1 p2 p3 p4
  | rangeFunc g ps asg body =>
   have hv:=aav hf hg g
   change (match a19 fr g with
    | .f fn a cp=>bnd (a8v rnd fr ps.toList asg body) fun (k,fr) =>
     bnd (a7z P sm (a1x P sm q none) fn (a ++ [AV.y k]++cp)) fun _=>bnd (a8s k) fun e=>ret (e,fr)
    | _=>fail) ⟨m,n,l,w⟩=some ((e,fr'),⟨m',n',l',w'⟩) at hx
   generalize a19 fr g=og at hv hx
   generalize hev:a.eval g=vg at hv
   cases hv<;>first | (cases hx;done) | skip
   rename_i fn xs ys xv yv k1 k2 k3 k4
   obtain ⟨⟨k,fr1⟩,⟨m1,n1,l1,w1⟩,h1,h2⟩:=a08 hx
   dsimp only at h2
   obtain ⟨v,⟨m2,n2,l2,w2⟩,h3,h4⟩:=a08 h2
   obtain ⟨e1,⟨m3,n3,l3,w3⟩,h5,h6⟩:=a08 h4
   obtain ⟨e3,e4⟩:=a0k h6
   cases e3;cases e4
   have g1:=(Loc.a8v _ _ _ _ _).mono h1
   have g2:=(Loc.a7z hsm.1 (lec none) _ _).mono h3
   have g3:=(Loc.a8s _).mono h5
   dsimp only at g1 g2 g3
   refine wpIn_rangeFunc fun fnn _=>?_
   obtain ⟨τ,q1,mark,W1,r1,p1,p2,p3,p4,p5⟩:=aHj hf hs hr h1 (hfr.left (by omega)) fnn
   have hl:LR τ (xs ++ [AV.y k]++ys) (xv++#[Value.func (.yield q1.b) #[] #[]]++yv):=by
    have a1:LR τ [AV.y k] #[Value.func (.yield q1.b) #[] #[]]:=by
     have:=LR.cons (VR.y (σ:=τ) k q1 p3) (LR.nil τ)
     simpa using this
    exact ((LR.mono p1.1 ⟨k1,k3⟩).append a1).append (LR.mono p1.1 ⟨k2,k4⟩)
   obtain ⟨c1,c2⟩:=acy hsm ih1 (lec none) B τ m1 n1 l1 w1 W1 fn _ v m2 n2 l2 w2 _ (hg.mono p1.1) p2 hl h3 ((hfr.left (b:=n2) (by omega)).right p1 g1)
   refine ⟨q1.b,mark,W1,{ target:=.fn (.func fn) yv,args:=xv++#[.func (.yield q1.b) #[] #[]] },W1,fn,_,W1,r1,?_,(fun _ _=>trivial),c1,(fun h=>by cases h),?_⟩
   ·simp only [resolve,hev,Deferred.ofValue]
    simp [Act.eval]
   ·refine ai9.2 (c2.mono fun en W2 hd=>?_)
    obtain ⟨υ,u,rfl,u1,u2,u3,u4⟩:=hd
    obtain ⟨rfl,W3,z1,z2,z3⟩:=aGh u2 (u1.1 _ _ p3) h5
    refine ⟨amn e,W3,z1,?_⟩
    have fin:Q (aXn e) { a with defers:=mark++a.defers } W3:=hQ υ _ W3 (p1.trans u1 g1 g2) z2 (p5.mono u1.1) ((p4.trans u4).trans z3)
    cases e with
    | normal=>exact fin
    | exit j=>exact wpIn_exit fin
    | ret=>exact wpIn_ret fin
theorem a7h {sm:Nat→Option (List AV→X AV)} (hsm:aYa P sm) (q:Nat):apw P (a5c P sm q):=acy hsm (aus hsm q).1 (Loc.a1x hsm.1 q none)
end Go.CE
