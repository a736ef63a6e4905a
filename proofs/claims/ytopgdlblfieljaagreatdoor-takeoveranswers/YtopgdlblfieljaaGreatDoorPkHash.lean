/-
  The walk of the iterator of digest.blocks.
-/
import Derived.Test.YtopgdlblfieljaaGreatDoorPkLaw
import Derived.RangeFuncNested
import Derived.RangeFuncBound
import Derived.RangeFuncCalls
import Derived.RangeFuncLeaves
import Derived.Shelf.Abstract
import Derived.Shelf.RegionOpen
import Derived.OwnWalkIn
import Derived.TacticsInMore
import Derived.LoopNIn
import Derived.LoopIn
set_option linter.unusedSectionVars false
set_option linter.constructorNameAsVariable false
set_option linter.unusedVariables false
set_option linter.unusedSimpArgs false
namespace Go.Proofs.YtopgdlblfieljaaGreatDoor
open Go.RowKit Go.Shelf
attribute [local go_sem] Oper.semAt_some
def PartsAt (W:World) (v:Value) (ls:List (List UInt8)):Prop := ∃ pb po c,v=.slice (some ⟨pb,po,none⟩) ls.length c∧pb < W.heap.size ∧
 ∀ k (h:k < ls.length),∃ ao n c',W.cell? ⟨pb,po+k,none⟩=some (.slice ao n c')∧n=(ls[k]).length∧(ao=none→n=0∧c' = 0) ∧
  ∀ ad,ao=some ad→ad.block < W.heap.size∧∀ j u,(a0p (ls[k]))[j]? = some u→W.cell? (ad.add j)=some u
def a90 (n:Nat):Nat:=(119 - n % 64) % 64
theorem aoh (n:Nat):a90 n≤63:=by unfold a90;omega
theorem axs (n z:Nat) (h:z < a90 n):((n:Int)+1+(z:Int)) % 64≠56:=by unfold a90 at h;omega
theorem axt (n:Nat):((n:Int)+1+(a90 n:Int)) % 64=56:=by unfold a90;omega
theorem aqp (n:Nat):(n+1+a90 n+8) % 64=0:=by unfold a90;omega
def be8 (n:Nat):List UInt8:=(List.range 8).map fun i=>UInt8.ofNat (n >>> (56 - 8 * i))
def aai (m:List UInt8):List UInt8:=m ++ [128]++List.replicate (a90 m.length) 0++be8 (8 * m.length)
def adw (p:List UInt8) (i:Nat):List UInt8:=(p.drop (64 * i)).take 64
def a6d (p:List UInt8) (k:Nat):List (List UInt8):=(List.range k).map (adw p)
theorem a3v {F:Fence} {n:Nat} {w:World} {ops:Array Oper} {rest:List Oper} {o:Oper} {a:Act} {Q:Exit→Act→World→Prop} (hgd:o.guard=none) (s x:Operand)
  (ho:o.op=.call { callee:=.builtin .append,args:=#[s,x],argTypes:=#[60,60] })
  (base k:Nat) (v:Value) (xs:List Value) (hs:a.eval s=v) (hown:w.ownsRow base 5 1 v k xs)
  (ao:Option Addr) (m c:Nat) (news:List Value) (hx:a.eval x=.slice ao m c) (hl:news.length=m) (hnone:ao=none→m=0∧c=0) (hnews:∀ ad,ao=some ad→∀ j u,news[j]? = some u→w.cell? (ad.add j)=some u) (h1:∀ u∈news,u.oneCell' = true)
  (h63:k+m≤100000000000000) (hb:base≤w.heap.size)
  (h:∀ v' w',w'.ownsRow base 5 1 v' (k+m) (xs++news)→w.grownBy w' v.ownBlock→wpListIn F n Tryz.prog ops Q rest (a.put o.dst v') w'):wpListIn F n Tryz.prog ops Q (o :: rest) a w:=by
 obtain ⟨i0,hi,hz0,hz1,hz2⟩:=aax
 cases ao with
 | some ad=>exact wpListIn_append_own w hgd s x _ ho base _ i0 _ 1 1 Tryz.underlying60 hi hz0 hz1 hz2 rfl (by decide) v k xs hs hown ad m c news hx (by omega) (hnews ad rfl) h1 (by unfold maxLen;omega) (by omega) hb fun v' w' q1 q2 _=>h v' w' q1 q2
 | none =>
  obtain ⟨rfl,rfl⟩:=hnone rfl
  have hnews:news = []:=List.eq_nil_of_length_eq_zero hl
  subst hnews
  refine wpListIn_plain hgd fun K hK'=>?_
  have hrun:=run_append_owned_none (P:=Tryz.prog) w base 60 o.type 5 i0 1 Tryz.underlying60 hi v k xs hown
  unfold Oper.wpIn
  refine ⟨?_,?_⟩
  ·simp [Oper.about,ho,resolve,Target.leads,Sem.run_pure]
  ·rw [Oper.semAt_plain F _ _ (by rw [ho];intro c hc';cases hc')]
   simp [execOp,ho,resolve,invoke,builtin,hs,hx,hrun,Result.andThen]
   exact hK' _ _ (by simpa using h v w (by simpa using hown) (World.grownBy.refl _ _))
theorem a9d {W w w':World} {v:Value} {k:Nat} {xs:List Value} (hB:Below W.heap.size W w) (hown:w.ownsRow W.heap.size 5 1 v k xs) (hg:w.grownBy w' v.ownBlock):Below W.heap.size W w':=hB.grown hg hB.size fun g hk=>by
 rcases hown.2 with ⟨rfl,_⟩ | ⟨g',c,cur,rfl,h1,_⟩
 ·cases hk
 ·cases hk;exact h1
theorem abm {W w w':World} {v:Value} {k:Nat} {xs:List Value} (hB:W.heap.size≤w.heap.size) (hown:w.ownsRow W.heap.size 5 1 v k xs) (hg:w.grownBy w' v.ownBlock):Below W.heap.size w w':=⟨hg.os,hg.tape,hg.output,hg.size,fun i hi=>by
 refine hg.block i (by omega) fun e=>?_
 rcases hown.2 with ⟨rfl,_⟩ | ⟨g',c,cur,rfl,h1,_⟩
 ·cases e
 ·have:i=g':=Option.some.inj e
  omega⟩
theorem a9w (W:World) (x:Value) (T:TypeId):∀ ad,some (⟨W.heap.size,0,none⟩:Addr)=some ad→∀ j u,[x][j]? = some u→(W.alloc (.cells #[x] T (0,0))).cell? (ad.add j)=some u:=fun ad had j u hu=>by
 cases had
 have hj:j=0:=by
  have:=(List.getElem?_eq_some_iff.1 hu).1
  simpa using this
 subst hj
 rw [Addr.add_lit,cell_of_row _ _ _ #[x] T (0,0) (heap_alloc_new W _)]
 simpa using hu
def lenV:Value→Nat
 | .slice _ n _=>n
 | _=>0
@[simp] theorem a9z (a:Option Addr) (n c:Nat):lenV (.slice a n c)=n:=rfl
def anf (M:List UInt8) (z:Nat):List UInt8:=M ++ [128]++List.replicate z 0
theorem als (M:List UInt8):a0p M ++ [B8 128]=a0p (anf M 0):=by unfold anf;rw [List.replicate_zero,List.append_nil,a4a];unfold a0p;rfl
theorem alu (M:List UInt8) (z:Nat):a0p (anf M z) ++ [B8 0]=a0p (anf M (z+1)):=by
 have h:anf M (z+1)=anf M z ++ [0]:=by unfold anf;rw [List.replicate_succ'];simp only [List.append_assoc]
 rw [h,a4a];unfold a0p;rfl
def beK (N i:Nat):List UInt8:=(be8 N).take i
theorem acz (N:Nat):(be8 N).length=8:=by simp [be8]
theorem aI3 (N i:Nat) (h:i < 8):beK N i ++ [UInt8.ofNat (N >>> (56 - 8 * i))]=beK N (i+1):=by
 unfold beK
 rw [List.take_succ_eq_append_getElem (by rw [acz];exact h)]
 congr 2
 simp [be8]
theorem aMl (N i:Nat) (h:i < 8):(N:Int) / 2 ^ (56 - 8 * i) % 256=(((UInt8.ofNat (N >>> (56 - 8 * i))).toNat:Nat):Int):=by
 have h1:((N:Int) / 2 ^ (56 - 8 * i))=((N >>> (56 - 8 * i):Nat):Int):=by rw [Nat.shiftRight_eq_div_pow];simp
 rw [h1];simp
def aBj (M:List UInt8) (i:Nat):List UInt8:=anf M (a90 M.length)++beK (8 * M.length) i
theorem alv (M:List UInt8):aBj M 0=anf M (a90 M.length):=by unfold aBj beK;simp
theorem alx (M:List UInt8) (i:Nat) (h:i < 8):a0p (aBj M i) ++ [B8 (UInt8.ofNat ((8 * M.length) >>> (56 - 8 * i))).toNat]=a0p (aBj M (i+1)):=by
 unfold aBj
 rw [← aI3 _ i h,← List.append_assoc,a4a (_++_)]
 congr 1
 unfold a0p;rfl
theorem ar4 (M:List UInt8):aBj M 8=aai M:=by unfold aBj beK aai anf;rw [List.take_of_length_le (by rw [acz];omega)]
theorem a8g (M:List UInt8):(aai M).length=M.length+1+a90 M.length+8:=by unfold aai;simp [acz];omega
attribute [irreducible] anf aBj aai a90
theorem aa3 (p:List UInt8) (q:Nat):a6d p q ++ [adw p q]=a6d p (q+1):=by unfold a6d;rw [List.range_succ,List.map_append];rfl
theorem av4 (p:List UInt8) (q T:Nat) (h:q < T) : ∃ suf,a6d p T=a6d p q++adw p q :: suf:=by
 refine ⟨((List.range T).drop (q+1)).map (adw p),?_⟩
 have e:List.range T=List.range q++q :: (List.range T).drop (q+1):=by
  have h1:List.range T=(List.range T).take q++(List.range T).drop q:=(List.take_append_drop q _).symm
  have h2:(List.range T).drop q=q :: (List.range T).drop (q+1):=by
   rw [List.drop_eq_getElem_cons (by simpa using h)];simp
  rw [h2] at h1
  rw [show (List.range T).take q=List.range q by rw [List.take_range];congr 1;omega] at h1
  exact h1
 unfold a6d
 conv=>lhs;rw [e]
 rw [List.map_append,List.map_cons]
theorem ak1 (p:List UInt8) (q j:Nat) (h:j < 64):(adw p q).getD j 0=p.getD (64 * q+j) 0:=by
 unfold adw
 rw [List.getD_eq_getElem?_getD,List.getD_eq_getElem?_getD,List.getElem?_take,if_pos h,List.getElem?_drop]
theorem aqs {W:World} {base:Nat} {g n cap:Nat} {p:List UInt8} (h:W.ownsRow base 5 1 (.slice (some ⟨g,0,none⟩) n cap) n (a0p p)):base≤g∧n≤cap∧∃ cur T fr,W.heap[g]? = some (.cells cur T fr)∧∀ j,j < p.length→cur[j]? = some (B8 (p.getD j 0).toNat):=by
 rcases h.2 with ⟨h,_⟩ | ⟨g',c,cur,hv,h1,h2,h3,h4,h5,h6⟩
 ·cases h
 ·cases hv
  refine ⟨h1,h3,cur,_,_,h2,fun j hj=>?_⟩
  have hc:(a0p p)[j]? = some (B8 (p.getD j 0).toNat):=by
   unfold a0p
   rw [List.getElem?_map,List.getElem?_eq_getElem hj,List.getD_eq_getElem?_getD,List.getElem?_eq_getElem hj]
   rfl
  rw [← h6,List.getElem?_take] at hc
  split at hc
  ·simpa using hc
  ·cases hc
theorem aqr {W:World} {base:Nat} {e:TypeId} {size:Nat} {v:Value} {n:Nat} {xs:List Value} (h:W.ownsRow base e size v n xs) : ∃ ao cap,v=.slice ao n cap:=by
 rcases h.2 with ⟨rfl,rfl⟩ | ⟨g,c,cur,rfl,_⟩
 ·exact ⟨none,0,rfl⟩
 ·exact ⟨_,c,rfl⟩
def aa8 (ls:List (List UInt8)) (k:Nat):List UInt8:=(ls.take k).flatten
theorem aua (ls:List (List UInt8)) (k:Nat) (h:k < ls.length):aa8 ls k++ls[k]=aa8 ls (k+1):=by
 unfold aa8
 rw [List.take_succ_eq_append_getElem h,List.flatten_append]
 simp
theorem aGs (ls:List (List UInt8)) (k:Nat):(aa8 ls k).length≤ls.flatten.length:=by
 unfold aa8
 have h:ls.flatten=(ls.take k).flatten++(ls.drop k).flatten:=by rw [← List.flatten_append,List.take_append_drop]
 rw [h,List.length_append]
 omega
theorem az9 (ls:List (List UInt8)):aa8 ls ls.length=ls.flatten:=by unfold aa8;rw [List.take_length]
attribute [irreducible] aa8
set_option maxHeartbeats 2000000 in
set_option maxRecDepth 100000 in
theorem apn (n:Nat) (hn:2≤n) (box:Nat) (v:Value) (ls:List (List UInt8)) (hsum:ls.flatten.length≤1099511627776) (hls:ls.length≤1000000) (w:World) (hbox:obj w box=some (.cells #[v] 191 (0,0))) (hp:PartsAt w v ls) :
  aMo n Tryz.prog 163 #[.pointer (some ⟨box,0,none⟩)] (fun x v W => ∃ g o c,v=#[.slice (some ⟨g,o,none⟩) 64 c]∧g < W.heap.size∧w.heap.size≤g∧∀ j,j < 64→W.cell? ⟨g,o+j,none⟩=some (B8 (x.getD j 0).toNat)) (fun _=>False)
   (a6d (aai ls.flatten) ((aai ls.flatten).length / 64)) w:=by
 intro l R J W hW hR hJ hY h0
 obtain ⟨pb,po,pc,rfl,hpb,hparts⟩:=hp
 have hc0:W.cell? ⟨box,0,none⟩=some (.slice (some ⟨pb,po,none⟩) ls.length pc):=(hW.cell (p:=⟨box,0,none⟩) (a04 hbox)).trans ((a01 hbox 0).trans rfl)
 refine callsIn_of_wp Tryz.func163 rfl trivial ?_ rfl
 simp only [Tryz.ntmps163,List.size_toArray,List.length_cons,List.length_nil,Nat.reduceAdd,Nat.reduceSub,Array.replicate_succ,Array.replicate_zero,List.push_toArray,List.append_toArray,List.nil_append,List.cons_append]
 gi_wp2_with fail
 gi_loopw [3,10] (fun m i wr => ∃ k:Nat,k≤ls.length∧i=.int .i64 k∧wr.ownsRow W.heap.size 5 1 m (aa8 ls k).length (a0p (aa8 ls k))∧J [] wr∧Below W.heap.size W wr) (fun _ i _=>(ls.length - (intOf i).toNat))
 case atStart =>
  refine ⟨0,by omega,rfl,?_,h0,Below.refl _ _⟩
  have e0:aa8 ls 0 = []:=by unfold aa8;rfl
  rw [e0]
  exact ⟨by unfold a0p;rfl,.inl ⟨rfl,rfl⟩⟩
 case round =>
  obtain ⟨k,hk,rfl,hown,hJ1,hB⟩:=hrel
  have hk1:(k:Int)≤1000000:=by omega
  by_cases hlt:k < ls.length
  ·obtain ⟨ao,pn,c',hcell,rfl,hnone,hbytes⟩:=hparts k hlt
   have hck:wr.cell? ⟨pb,po+k,none⟩=some (.slice ao (ls[k]).length c'):=(hB.cell (p:=⟨pb,po+k,none⟩) (by have:=hW.size;exact Nat.lt_of_lt_of_le hpb this)).trans ((hW.cell (p:=⟨pb,po+k,none⟩) hpb).trans hcell)
   have hnews:∀ ad,ao=some ad→∀ j u,(a0p (ls[k]))[j]? = some u→wr.cell? (ad.add j)=some u:=fun ad had j u hu=>by
    obtain ⟨h1,h2⟩:=hbytes ad had
    have hadd:(ad.add j).block=ad.block:=by unfold Addr.add;split<;>rfl
    rw [hB.cell (p:=ad.add j) (by rw [hadd];exact Nat.lt_of_lt_of_le h1 hW.size),hW.cell (p:=ad.add j) (by rw [hadd];exact h1)]
    exact h2 j u hu
   have hle:=aGs ls (k+1)
   have HN:=Lib.hid (aua ls k hlt)
   have hlen:(aa8 ls k).length+(ls[k]).length=(aa8 ls (k+1)).length:=by rw [← HN.out,List.length_append]
   have hl1:(aa8 ls k).length+(ls[k]).length≤100000000000000:=by omega
   have hsz:=hB.size
   gi_wp2_with (gi_at_builtin;refine a3v (by rfl) _ _ (by rfl) W.heap.size (aa8 ls k).length _ _ (by rfl) hown ao (ls[k]).length c' (a0p (ls[k])) (by rfl) (a1m _) hnone hnews (a81 _) hl1 hsz ?_;intro v' w3 hown3 hgrow3)
   refine ⟨⟨k+1,by omega,by go_num,?_,hJ _ _ _ (abm hsz hown hgrow3) hJ1,a9d hB hown hgrow3⟩,?_⟩
   ·rw [hlen,← a4a,HN.out] at hown3;exact hown3
   ·simp [intOf];omega
  ·obtain rfl:k=ls.length:=by omega
   rw [az9] at hown
   have hsz:=hB.size
   have hl1:ls.flatten.length+1≤100000000000000:=by omega
   obtain ⟨M,hM⟩ : ∃ M,ls.flatten=M:=⟨_,rfl⟩
   rw [hM] at hown hsum hl1 hY
   have HM:=Lib.hid hM
   clear hM hparts hc0 hbox hls hlt
   obtain ⟨ao,cap,rfl⟩:=aqr hown
   have hm0:(M.length:Int)≤1099511627776:=by omega
   gi_wp2_with (gi_at_builtin;refine a3v (by rfl) _ _ (by rfl) W.heap.size M.length _ _ (by rfl) (hown.alloc _) (some ⟨wr.heap.size,0,none⟩) 1 1 [B8 128] (by rfl) rfl (fun h=>by cases h) (a9w wr (B8 128) _) (by intro u hu;simp at hu;subst hu;rfl) hl1 (by simp;omega) ?_;intro v' w3 hown3 hgrow3)
   have hB3:Below W.heap.size W w3:=a9d (hB.alloc hsz _) (hown.alloc _) hgrow3
   have hJ3:J [] w3:=hJ _ _ _ (((Below.refl _ wr).alloc hsz _).trans (abm (by simp;omega) (hown.alloc _) hgrow3)) hJ1
   obtain ⟨g,cap3,rfl,hg1,hg2⟩:=hown3.form (by omega)
   rw [als] at hown3
   clear hJ1 hB hsz hown hgrow3 hl1
   gi_loopw [3] (fun m wr => ∃ z:Nat,z≤a90 M.length∧∃ g cap,m=.slice (some ⟨g,0,none⟩) (M.length+1+z) cap∧wr.ownsRow W.heap.size 5 1 (.slice (some ⟨g,0,none⟩) (M.length+1+z) cap) (M.length+1+z) (a0p (anf M z))∧J [] wr∧Below W.heap.size W wr) (fun m _=>M.length+1+a90 M.length - lenV m)
   case atStart=>exact ⟨0,Nat.zero_le _,g,cap3,rfl,hown3,hJ3,hB3⟩
   case round =>
    clear hown3 hJ3 hB3 hg1 hg2
    obtain ⟨z,hz,g,cap,rfl,hown,hJ1,hB⟩:=hrel
    have hsz:=hB.size
    have hz64:z≤63:=Nat.le_trans hz (aoh _)
    by_cases hlt:z < a90 M.length
    ·have ht:=axs M.length z hlt
     have hl1:M.length+1+z+1≤100000000000000:=by omega
     gi_wp2_with (gi_at_builtin;refine a3v (by rfl) _ _ (by rfl) W.heap.size (M.length+1+z) _ _ (by rfl) (hown.alloc _) (some ⟨_,0,none⟩) 1 1 [B8 0] (by rfl) rfl (fun h=>by cases h) (a9w _ (B8 0) _) (by intro u hu;simp at hu;subst hu;rfl) hl1 (by simp;omega) ?_;intro v' w3 hown3 hgrow3)
     obtain ⟨g',cap',rfl,_,_⟩:=hown3.form (by omega)
     rw [alu] at hown3
     refine ⟨⟨z+1,by omega,g',cap',rfl,hown3,hJ _ _ _ (((Below.refl _ wr).alloc hsz _).trans (abm (by simp;omega) (hown.alloc _) hgrow3)) hJ1,a9d (hB.alloc hsz _) (hown.alloc _) hgrow3⟩,?_⟩
     simp only [a9z];omega
    ·obtain rfl:z=a90 M.length:=by omega
     have ht:=axt M.length
     rw [← alv] at hown
     have hJZ:=hJ1
     gi_wp2_with fail
     gi_loopw [3,7] (fun m t wr => ∃ i:Nat,i≤8∧t=.int .i64 (56 - 8 * (i:Int))∧∃ g cap,m=.slice (some ⟨g,0,none⟩) (M.length+1+a90 M.length+i) cap∧wr.ownsRow W.heap.size 5 1 (.slice (some ⟨g,0,none⟩) (M.length+1+a90 M.length+i) cap) (M.length+1+a90 M.length+i) (a0p (aBj M i))∧J [] wr∧Below W.heap.size W wr) (fun _ t _=>(intOf t+8).toNat)
     case atStart=>exact ⟨0,by omega,rfl,g,cap,rfl,hown,hJ1,hB⟩
     case round =>
      clear hown hJ1 hB hJZ hsz ht
      obtain ⟨i,hi,rfl,g,cap,rfl,hown,hJ1,hB⟩:=hrel
      have hsz:=hB.size
      by_cases hlt:i < 8
      ·have hv0:8 * (M.length:Int) / 2 ^ (56 - 8 * i) % 256=(((UInt8.ofNat ((8 * M.length) >>> (56 - 8 * i))).toNat:Nat):Int):=aMl (8 * M.length) i hlt
       have HV:=Lib.hid hv0
       clear hv0
       have hl1:M.length+1+a90 M.length+i+1≤100000000000000:=by omega
       gi_wp2_with (gi_at_builtin;refine a3v (by rfl) _ _ (by rfl) W.heap.size (M.length+1+a90 M.length+i) _ _ (by rfl) (hown.alloc _) (some ⟨_,0,none⟩) 1 1 [_] (by rfl) rfl (fun h=>by cases h) (a9w _ _ _) (by intro u hu;simp at hu;subst hu;rfl) hl1 (by simp;omega) ?_;intro v' w3 hown3 hgrow3)
       obtain ⟨g',cap',rfl,_,_⟩:=hown3.form (by omega)
       rw [HV.out,alx M i hlt] at hown3
       refine ⟨⟨i+1,by omega,by congr 1;omega,g',cap',rfl,hown3,hJ _ _ _ (((Below.refl _ wr).alloc hsz _).trans (abm (by simp;omega) (hown.alloc _) hgrow3)) hJ1,a9d (hB.alloc hsz _) (hown.alloc _) hgrow3⟩,?_⟩
       simp [intOf];omega
      ·obtain rfl:i=8:=by omega
       rw [ar4] at hown
       obtain ⟨T,hT⟩ : ∃ T,M.length+1+a90 M.length+8=64 * T:=⟨(M.length+1+a90 M.length+8) / 64,by have:=aqp M.length;omega⟩
       have hpl:(aai M).length=64 * T:=(a8g M).trans hT
       have hT2:(aai M).length / 64=T:=by omega
       obtain ⟨hbg,hcap,cur,TT,fr,hblk,aS4⟩:=aqs hown
       rw [hT2] at hY
       rw [hT] at hown hcap ⊢
       rw [show (56:Int) - 8 * ((8:Nat):Int) = -8 from rfl]
       have hTb:(T:Int)≤100000000000:=by omega
       clear hown hT hlt hsz hB
       gi_wp2_with fail
       gi_loopw [3] (fun m wr => ∃ q:Nat,q≤T∧∃ o c,m=.slice (some ⟨g,o,none⟩) (64 * (T - q)) c∧(q < T→o=64 * q)∧64 * (T - q)≤c∧wr.heap[g]? = some (.cells cur TT fr)∧J (a6d (aai M) q) wr) (fun m _=>lenV m)
       case atStart=>exact ⟨0,Nat.zero_le _,0,cap,by simp,fun _=>rfl,by omega,hblk,hJ1⟩
       case round =>
        clear hJ1 hcap hblk
        obtain ⟨q,hq,o,c,rfl,ho,hc,hblk,hJ1⟩:=hrel
        by_cases hlt:q < T
        ·obtain rfl:=ho hlt
         have hgl:g < wr.heap.size:=(Array.getElem?_eq_some_iff.1 hblk).1
         obtain ⟨fn,tmps,assign,body,hy,hR2⟩:=hY (a6d (aai M) q) (adw (aai M) q) #[.slice (some ⟨g,64 * q,none⟩) 64 c] wr hJ1 ⟨g,64 * q,c,rfl,hgl,Nat.le_trans hW.size hbg,fun j hj=>by
          rw [cell_of_row wr g _ cur TT fr hblk,aS4 _ (by omega),ak1 (aai M) q j hj]⟩ (av4 (aai M) q T hlt)
         have h64:(64:Int)≤64 * ((T - q:Nat):Int):=by omega
         have h64n:64≤64 * (T - q):=by omega
         have h64c:(64:Int)≤(c:Int):=by omega
         gi_wp2_with fail
         refine ⟨fun _=>by omega,hR2.mono ?_⟩
         rintro e W5 ⟨rfl,hJ5,hk5⟩
         have hblk5:W5.heap[g]? = some (.cells cur TT fr):=(hk5.2 g hgl (fun hr=>by have:=(hR g hr).1;omega)).trans hblk
         by_cases hc64:c=64
         ·gi_wp2_with fail
          refine ⟨⟨q+1,by omega,64 * q,0,by congr 1;omega,fun h=>by omega,by omega,hblk5,by rw [← aa3];exact hJ5⟩,?_⟩
          simp only [a9z];omega
         ·gi_wp2_with fail
          refine ⟨⟨q+1,by omega,64 * q+64,c - 64,by congr 1;omega,fun _=>by omega,by omega,hblk5,by rw [← aa3];exact hJ5⟩,?_⟩
          simp only [a9z];omega
        ·obtain rfl:q=T:=by omega
         have h00:64 * (q - q)=0:=by omega
         rw [h00]
         gi_wp2_with fail
         go_end0
         refine ⟨⟨_,rfl⟩,?_⟩
         rw [HM.out,hT2]
         exact hJ1
end Go.Proofs.YtopgdlblfieljaaGreatDoor
namespace Go.Proofs.YtopgdlblfieljaaGreatDoor
open Go.RowKit Go.Shelf
attribute [local go_sem] Oper.semAt_some
def agj:Sha.St:=⟨1779033703,3144134277,1013904242,2773480762,1359893119,2600822924,528734635,1541459225⟩
def aqd:Array Value:=#[.int .u32 1779033703,.int .u32 3144134277,.int .u32 1013904242,.int .u32 2773480762,.int .u32 1359893119,.int .u32 2600822924,.int .u32 528734635,.int .u32 1541459225]
theorem aqe:aqd=agj.row:=by unfold Sha.St.row agj aqd;rfl
def agk (s:Sha.St) (bs:List (List UInt8)):Sha.St:=bs.foldl (fun s b=>Sha.comp s fun j=>(b.getD j 0).toNat) s
theorem aeu (s:Sha.St) (bs:List (List UInt8)) (b:List UInt8):agk s (bs ++ [b])=Sha.comp (agk s bs) fun j=>(b.getD j 0).toNat:=by unfold agk;rw [List.foldl_append];rfl
def awz (m:List UInt8):Sha.St:=agk agj (a6d (aai m) ((aai m).length / 64))
def adu (s:Sha.St):List UInt8:=(List.range 32).map fun i=>UInt8.ofNat (s.get (i / 4) >>> (24 - 8 * (i % 4)))
def a3t (m:List UInt8):List UInt8:=adu (awz m)
theorem a6a (s:Sha.St):(adu s).length=32:=by simp [adu]
def dgK (s:Sha.St) (k:Nat):List UInt8:=(adu s).take k++List.replicate (32 - k) 0
theorem ai5 (s:Sha.St) (k:Nat) (hk:k≤32):(dgK s k).length=32:=by simp [dgK,a6a];omega
theorem as2 (s:Sha.St):dgK s 32=adu s:=by simp [dgK,a6a,List.take_of_length_le]
theorem as1 (s:Sha.St):z46=a0i (dgK s 0):=by
 have h:dgK s 0=List.replicate 32 0:=by simp [dgK]
 rw [h]
 simp [a0i,List.replicate_succ,z46]
theorem aA7 (s:Sha.St) (k:Nat) (hk:k < 32):(dgK s k).set k (UInt8.ofNat (s.get (k / 4) >>> (24 - 8 * (k % 4))))=dgK s (k+1):=by
 unfold dgK
 have h2:List.replicate (32 - k) (0:UInt8)=0 :: List.replicate (32 - (k+1)) 0:=by rw [show 32 - k=(32 - (k+1))+1 by omega,List.replicate_succ]
 have h3:(adu s)[k]'(by rw [a6a];exact hk)=UInt8.ofNat (s.get (k / 4) >>> (24 - 8 * (k % 4))):=by simp [adu]
 rw [List.take_succ_eq_append_getElem (by rw [a6a];exact hk),h3,h2,List.set_append_right _ _ (by rw [List.length_take];omega),List.length_take,a6a,show k - min k 32=0 by (rw [Nat.min_eq_left (by omega)];omega),List.set_cons_zero,List.append_assoc]
 rfl
theorem aMg (N j:Nat):(N:Int) / 2 ^ j % 256=(((UInt8.ofNat (N >>> j)).toNat:Nat):Int):=by
 have h1:((N:Int) / 2 ^ j)=((N >>> j:Nat):Int):=by rw [Nat.shiftRight_eq_div_pow];simp
 rw [h1];simp
theorem a13 (m:List UInt8):(a3t m).length=32:=by simp [a3t,adu]
theorem aip:agj.ok:=by unfold agj Sha.St.ok;decide
theorem aQt (s:Sha.St) (f:Nat→Nat):(Sha.comp s f).ok:=by
 have h:Sha.comp s f=s.add (Sha.ac9 (Sha.sch f 64) s 64):=by delta Sha.comp;exact Eq.refl _
 rw [h];exact Sha.aY8 _ _
theorem aev (s:Sha.St) (h:s.ok):∀ bs:List (List UInt8),(agk s bs).ok
 | []=>h
 | b :: bs=>aev _ (aQt _ _) bs
theorem aog {W W':World} {v:Value} {ls:List (List UInt8)} (h:PartsAt W v ls) (hB:Below W.heap.size W W'):PartsAt W' v ls:=by
 obtain ⟨pb,po,c,rfl,h1,h2⟩:=h
 refine ⟨pb,po,c,rfl,Nat.lt_of_lt_of_le h1 hB.size,fun k hk=>?_⟩
 obtain ⟨ao,n,c',q1,q2,q3,q4⟩:=h2 k hk
 refine ⟨ao,n,c',(hB.cell (p:=⟨pb,po+k,none⟩) h1).trans q1,q2,q3,fun ad had=>?_⟩
 obtain ⟨r1,r2⟩:=q4 ad had
 refine ⟨Nat.lt_of_lt_of_le r1 hB.size,fun j u hu=>?_⟩
 have hadd:(ad.add j).block=ad.block:=by unfold Addr.add;split<;>rfl
 exact (hB.cell (p:=ad.add j) (by rw [hadd];exact r1)).trans (r2 j u hu)
set_option maxHeartbeats 2000000 in
set_option maxRecDepth 100000 in
theorem a7x (v:Value) (ls:List (List UInt8)) (hsum:ls.flatten.length≤1099511627776) (hls:ls.length≤1000000) (w:World) (hp:PartsAt w v ls) (hT:Tab w) :
  Calls Tryz.prog 111 #[v] w fun e w'=>e=.returned (.agg (a0i (a3t ls.flatten)))∧Below w.heap.size w w':=by
 refine (callsIn_wide (n:=8)).1 ?_
 refine callsIn_of_wp_marks Tryz.func111 rfl trivial ?_
 simp only [Tryz.ntmps111,List.size_toArray,List.length_cons,List.length_nil,Nat.reduceAdd,Nat.reduceSub,Array.replicate_succ,Array.replicate_zero,List.push_toArray,List.append_toArray,List.nil_append,List.cons_append]
 obtain ⟨pb,po,pc,rfl,hpb,hparts⟩:=hp
 gi_wp2_with (refine ⟨trivial,?_⟩;gi_at_call 142;refine (callsIn_wide.2 (an2 _ _ _ _)).mono ?_;rintro e w1 ⟨rfl,rfl⟩)
 have b0:obj (((w.alloc (.cells z46 46 (0,0))).alloc (.cells aqd 192 (0,0))).alloc (.cells #[.slice (some ⟨pb,po,none⟩) ls.length pc] 191 (0,0))) w.heap.size=some (.cells z46 46 (0,0)):=a02 (a02 (a03 _ _ _ rfl) _) _
 have b1:obj (((w.alloc (.cells z46 46 (0,0))).alloc (.cells aqd 192 (0,0))).alloc (.cells #[.slice (some ⟨pb,po,none⟩) ls.length pc] 191 (0,0))) (w.heap.size+1)=some (.cells aqd 192 (0,0)):=a02 (a03 _ _ _ (by simp)) _
 have b2:obj (((w.alloc (.cells z46 46 (0,0))).alloc (.cells aqd 192 (0,0))).alloc (.cells #[.slice (some ⟨pb,po,none⟩) ls.length pc] 191 (0,0))) (w.heap.size+2)=some (.cells #[.slice (some ⟨pb,po,none⟩) ls.length pc] 191 (0,0)):=a03 _ _ _ (by simp)
 have bB:Below w.heap.size w (((w.alloc (.cells z46 46 (0,0))).alloc (.cells aqd 192 (0,0))).alloc (.cells #[.slice (some ⟨pb,po,none⟩) ls.length pc] 191 (0,0))):=(((Below.refl _ _).alloc (Nat.le_refl _) _).alloc (by simp) _).alloc (by simp;omega) _
 have bz:(((w.alloc (.cells z46 46 (0,0))).alloc (.cells aqd 192 (0,0))).alloc (.cells #[.slice (some ⟨pb,po,none⟩) ls.length pc] 191 (0,0))).heap.size=w.heap.size+3:=by simp
 change Code.wpIn _ _ _ _ _ _ (((w.alloc (.cells z46 46 (0,0))).alloc (.cells aqd 192 (0,0))).alloc (.cells #[.slice (some ⟨pb,po,none⟩) ls.length pc] 191 (0,0)))
 generalize (((w.alloc (.cells z46 46 (0,0))).alloc (.cells aqd 192 (0,0))).alloc (.cells #[.slice (some ⟨pb,po,none⟩) ls.length pc] 191 (0,0)))=W0 at *
 have hp0:PartsAt W0 (.slice (some ⟨pb,po,none⟩) ls.length pc) ls:=aog ⟨pb,po,pc,rfl,hpb,hparts⟩ bB
 refine ab9 (n:=8) (gf:=163) (lb:=#[.pointer (some ⟨w.heap.size+2,0,none⟩)]) rfl (enters_of Tryz.func163 (by kernel_rfl) rfl) (apn 7 (by omega) (w.heap.size+2) _ ls hsum hls W0 b2 hp0)
  (fun x v W hv=>by obtain ⟨g,o,c,rfl,_⟩:=hv;rfl) (fun _ h=>h.elim) (fun k=>k=w.heap.size+1) (fun k hk=>⟨by omega,fun h=>h⟩)
  (fun pre W=>obj W (w.heap.size+1)=some (.cells (agk agj pre).row 192 (0,0))∧obj W w.heap.size=some (.cells z46 46 (0,0))∧Below w.heap.size w W∧w.heap.size+3≤W.heap.size)
  ?hI ⟨by rw [b1,aqe];rfl,b0,bB,by omega⟩ ?round ?done
 case hI =>
  rintro pre A B hAB ⟨h1,h2,h3,h4⟩
  exact ⟨a00 h1 hAB (by omega),a00 h2 hAB (by omega),h3.trans (hAB.mono (by omega)),Nat.le_trans h4 hAB.size⟩
 case round =>
  rintro l pre x v W ⟨h1,h2,h3,h4⟩ ⟨g,o,c,rfl,hg,hg2,hx⟩ hsuf hz hl hlc
  gi_wp2_with fail
  refine ⟨trivial,fun W2 hB2 hkeep hsz=>?_⟩
  have hgl:g≠l:=fun e=>by have:=hlc ⟨g,o+0,none⟩ e;rw [hx 0 (by omega)] at this;cases this
  have k1:obj W2 (w.heap.size+1)=some (.cells (agk agj pre).row 192 (0,0)):=a00 h1 hB2 (by omega)
  have k2:obj W2 w.heap.size=some (.cells z46 46 (0,0)):=a00 h2 hB2 (by omega)
  have k3:Below w.heap.size w W2:=h3.trans (hB2.mono (by omega))
  have kx:∀ j,j < 64→W2.cell? ⟨g,o+j,none⟩=some (B8 (x.getD j 0).toNat):=fun j hj=>by
   rw [← hx j hj];unfold World.cell?;rw [hkeep g hg hgl]
  have kT:Tab W2:=hT.below k3 (by obtain ⟨cs,T,fr,q,_⟩:=hT;exact a04 q)
  clear hkeep hlc hx
  gi_wp2_with (refine ⟨trivial,?_⟩;gi_at_call 143;refine (CallsIn.inRound l (callsIn_wide.2 (aB9 (w.heap.size+1) (agk agj pre) (aev _ aip pre) g o c (fun j=>(x.getD j 0).toNat) (fun j=>by have:=(x.getD j 0).toNat_lt;omega) W2 _ kT k1 kx (by omega) (by omega) (by omega)))).mono ?_;rintro e W3 ⟨rfl,q1,q2⟩;dsimp only)
  refine ⟨⟨q1.size,fun k hk hn=>q1.block k hk (by intro e;cases e;exact hn rfl)⟩,by rw [aeu];exact q2,a0w k2 q1 (by intro e;have:=Option.some.inj e;omega),k3.grown q1 k3.size (fun g hk=>by cases hk;omega),by have:=q1.size;omega⟩
 case done =>
  rintro D W ⟨h1,h2,h3,h4⟩ hD hK
  have hK':=Lib.hid hK
  clear hK
  have hok:(awz ls.flatten).ok:=aev _ aip _
  have h1':obj W (w.heap.size+1)=some (.cells (awz ls.flatten).row 192 (0,0)):=h1
  have hE:=Lib.hid (show a3t ls.flatten=adu (awz ls.flatten) from rfl)
  clear h1
  generalize awz ls.flatten=s at *
  gi_wp2_with fail
  have g1:obj (W.alloc (.cells z46 46 (0,0))) (w.heap.size+1)=some (.cells s.row 192 (0,0)):=a02 h1' _
  have g2:obj (W.alloc (.cells z46 46 (0,0))) w.heap.size=some (.cells z46 46 (0,0)):=a02 h2 _
  have g3:Below w.heap.size w (W.alloc (.cells z46 46 (0,0))):=h3.alloc (by omega) _
  have g4:obj (W.alloc (.cells z46 46 (0,0))) W.heap.size=some (.cells (a0i (dgK s 0)) 46 (0,0)):=by rw [← as1];exact a03 _ _ _ rfl
  have g5:(W.alloc (.cells z46 46 (0,0))).heap[D]? = some (.deferred (some [])):=a02 (w:=W) hK'.out _
  have hDW:D < W.heap.size:=a04 (w:=W) hK'.out
  generalize W.alloc (.cells z46 46 (0,0))=W3 at *
  have hgM:W.heap.size≠D:=by omega
  generalize W.heap.size=M at *
  clear h1' h2 h3 hK'
  gi_loopw [13] (fun i wr => ∃ k:Nat,k≤32∧i=.int .i64 k∧obj wr M=some (.cells (a0i (dgK s k)) 46 (0,0))∧obj wr (w.heap.size+1)=some (.cells s.row 192 (0,0))∧obj wr w.heap.size=some (.cells z46 46 (0,0))∧Below w.heap.size w wr∧wr.heap[D]? = some (.deferred (some [])))
   (fun i _=>(32 - intOf i).toNat)
  case atStart=>exact ⟨0,by omega,rfl,g4,g1,g2,g3,g5⟩
  case round =>
   clear g1 g2 g3 g4 g5
   obtain ⟨k,hk,rfl,h2,h1,h0,hB,hK⟩:=hrel
   have HK:=Lib.hid hK
   clear hK
   by_cases hlt:k < 32
   ·have c1:=(a01 h1 (k / 4)).trans (ash s (k / 4) (by omega))
    have f0:=a0t h2 k
    have c2:wr.cell? ⟨M,k,none⟩=some (B8 ((dgK s k).getD k 0).toNat):=(a01 h2 k).trans (a5f _ _ (by rw [ai5 _ _ hk];exact hlt))
    have HS:=Lib.hid (aA7 s k hlt)
    have HV:=Lib.hid (aMg (s.get (k / 4)) (24 - 8 * (k % 4)))
    gi_wp2_with fail
    clear hp0 hparts b0 b1 b2 bB
    refine ⟨⟨k+1,by omega,by go_num,?_,a1c h1 _ (by simp;omega) _,a1c h0 _ (by simp;omega) _,hB.setCell (by simp;omega) _,?_⟩,by simp [intOf];omega⟩
    ·rw [a0l,h2,HV.out,← HS.out,← aa4];rfl
    ·exact (heap_setCell_other _ _ _ _ (by simp;omega)).trans HK.out
   ·have h2':obj wr M=some (.cells (a0i (a3t ls.flatten)) 46 (0,0)):=by rw [h2,show k=32 by omega,as2,hE.out]
    have r1:(a0i (a3t ls.flatten)).size=32:=by rw [a0o,a13]
    have r2:(a0i (a3t ls.flatten)).extract 0 32=a0i (a3t ls.flatten):=a2v _ _ (a13 _)
    have r3:ones (a0i (a3t ls.flatten))=true:=a1t _
    clear h2 hp0 hparts b0 b1 b2 bB hE
    generalize hR:a0i (a3t ls.flatten)=R at *
    have HR:=Lib.hid hR
    clear hR
    gi_wp2_with fail
    have e0:obj (wr.setRow w.heap.size R) w.heap.size=some (.cells R 46 (0,0)):=by rw [a0b,h0];rfl
    have eD:(wr.setRow w.heap.size R).heap[D]? = some (.deferred (some [])):=(setRow_other wr w.heap.size D R (by omega)).trans HK.out
    have eB:Below w.heap.size w (wr.setRow w.heap.size R):=below_setRow hB (Nat.le_refl _) R
    generalize wr.setRow w.heap.size R=w4 at *
    refine ⟨by simp,.inl ⟨_,_,rfl,run_takeDeferred eD,?_⟩⟩
    have hD0:w.heap.size < D:=by omega
    refine ⟨_,results_cell_row rfl _ _ w.heap.size 46 R (0,0) _ (by rfl) ((World.putObj_heap_other (by omega)).trans e0) Tryz.underlying46 rfl (by rw [r1];kernel_rfl),by rw [← HR.out],⟨eB.os,eB.tape,eB.output,by simpa [World.putObj] using eB.size,fun i hi=>(World.putObj_heap_other (by omega)).trans (eB.block i hi)⟩⟩
end Go.Proofs.YtopgdlblfieljaaGreatDoor
namespace Go.Proofs.YtopgdlblfieljaaGreatDoor
open Go.RowKit Go.Shelf
attribute [local go_sem] Oper.semAt_some
def acd (W:World) (v:Value) (b:List UInt8):Prop := ∃ ao n c',v=.slice ao n c'∧n=b.length∧(ao=none→n=0∧c' = 0) ∧
 ∀ ad,ao=some ad→ad.block < W.heap.size∧∀ (j:Nat) (u:Value),(a0p b)[j]? = some u→W.cell? (ad.add j)=some u
theorem acd.below {W W':World} {v:Value} {b:List UInt8} (h:acd W v b) (hB:Below W.heap.size W W'):acd W' v b:=by
 obtain ⟨ao,n,c',q1,q2,q3,q4⟩:=h
 refine ⟨ao,n,c',q1,q2,q3,fun ad had=>?_⟩
 obtain ⟨r1,r2⟩:=q4 ad had
 refine ⟨Nat.lt_of_lt_of_le r1 hB.size,fun j u hu=>?_⟩
 have hadd:(ad.add j).block=ad.block:=by unfold Addr.add;split<;>rfl
 exact (hB.cell (p:=ad.add j) (by rw [hadd];exact r1)).trans (r2 j u hu)
theorem aqn {W:World} {g:Nat} {T:TypeId} {fr:Nat×Nat} {cs:Array Value} {ls:List (List UInt8)} {c:Nat} (hrow:obj W g=some (.cells cs T fr)) (h:∀ k (hk:k < ls.length),∃ v,cs[k]? = some v∧acd W v ls[k]) :
  PartsAt W (.slice (some ⟨g,0,none⟩) ls.length c) ls:=by
 refine ⟨g,0,c,rfl,a04 hrow,fun k hk=>?_⟩
 obtain ⟨v,h1,ao,n,c',rfl,h2,h3,h4⟩:=h k hk
 exact ⟨ao,n,c',by rw [Nat.zero_add];exact (a01 hrow k).trans h1,h2,h3,h4⟩
theorem ae8 {W:World} {g c:Nat} {T:TypeId} {fr:Nat×Nat} {l:List UInt8} {n:Nat} (hn:n=l.length) (hrow:obj W g=some (.cells (a0i l) T fr)):acd W (.slice (some ⟨g,0,none⟩) n c) l :=
 ⟨some ⟨g,0,none⟩,n,c,rfl,hn,(fun h=>by cases h),(fun ad had=>by cases had;exact ⟨a04 hrow,afc hrow⟩)⟩
theorem alc {W:World} {g:Nat} {T:TypeId} {fr:Nat×Nat} {s t:Value} {a b:List UInt8} {c:Nat} (hrow:obj W g=some (.cells #[s,t] T fr)) (h1:acd W s a) (h2:acd W t b):PartsAt W (.slice (some ⟨g,0,none⟩) 2 c) [a,b] :=
 aqn (ls:=[a,b]) hrow fun k hk=>by
  match k,hk with
  | 0,_=>exact ⟨s,rfl,h1⟩
  | 1,_=>exact ⟨t,rfl,h2⟩
def a6l (key:List UInt8):List UInt8:=key++List.replicate 32 0
def aq0 (m:UInt8) (key:List UInt8) (k:Nat):List UInt8:=((a6l key).take k).map (· ^^^ m)++(a6l key).drop k
def ap3 (key b:List UInt8):List UInt8:=a3t ((a6l key).map (· ^^^ 0x5c)++a3t ((a6l key).map (· ^^^ 0x36)++b))
theorem a3s (key:List UInt8) (h:key.length=32):(a6l key).length=64:=by simp [a6l,h]
theorem aei (m:UInt8) (key:List UInt8) (k:Nat) (h:key.length=32) (hk:k≤64):(aq0 m key k).length=64:=by simp [aq0,a3s key h];omega
theorem akf (m:UInt8) (key:List UInt8):aq0 m key 0=a6l key:=by simp [aq0]
theorem akg (m:UInt8) (key:List UInt8) (h:key.length=32):aq0 m key 64=(a6l key).map (· ^^^ m):=by
 have h1:=a3s key h
 simp [aq0,List.take_of_length_le (Nat.le_of_eq h1),List.drop_of_length_le (Nat.le_of_eq h1)]
theorem apz (m:UInt8) (key:List UInt8) (k:Nat) (h:key.length=32) (hk:k < 64):(aq0 m key k).getD k 0=(a6l key).getD k 0:=by
 have h1:=a3s key h
 unfold aq0
 rw [List.getD_eq_getElem?_getD,List.getD_eq_getElem?_getD,List.getElem?_append_right (by simp;omega),List.getElem?_drop]
 simp [h1,show min k 64=k by omega]
theorem apy (m:UInt8) (key:List UInt8) (k:Nat) (h:key.length=32) (hk:k < 64):(aq0 m key k).set k ((a6l key).getD k 0 ^^^ m)=aq0 m key (k+1):=by
 have h1:=a3s key h
 have hk':k < (a6l key).length:=by omega
 have h3:(a6l key).getD k 0=(a6l key)[k]:=by rw [List.getD_eq_getElem?_getD,List.getElem?_eq_getElem hk'];rfl
 unfold aq0
 rw [h3,List.take_succ_eq_append_getElem hk',List.drop_eq_getElem_cons hk',List.set_append_right _ _ (by simp;omega),List.map_append,List.append_assoc]
 simp only [List.length_map,List.length_take,h1,show min k 64=k by omega,Nat.sub_self,List.set_cons_zero,List.map_cons,List.map_nil,List.cons_append,List.nil_append]
theorem aIf (x m:UInt8):bits BinOp.xor .u8 ((x.toNat:Nat):Int) ((m.toNat:Nat):Int)=(((x ^^^ m).toNat:Nat):Int):=by
 rw [apo _ _ x.toNat_lt m.toNat_lt];simp
theorem aoy (key:List UInt8) (h:key.length=32):(z164.toList.take 0++(a0p key++z164.toList.drop (0+(a0p key).length))).toArray=a0i (a6l key):=by
 have e:z164.toList=List.replicate 32 (B8 0)++List.replicate 32 (B8 0):=by simp [z164,List.replicate_succ]
 unfold a6l
 rw [e,a1m,h,List.take_zero,List.nil_append,Nat.zero_add,List.drop_left' (by simp)]
 unfold a0i a0p
 simp
attribute [irreducible] a6l aq0
set_option maxHeartbeats 2000000 in
set_option maxRecDepth 100000 in
theorem afl (key b:List UInt8) (v:Value) (hk:key.length=32) (hb:b.length≤1000000000) (w:World) (hv:acd w v b) (hT:Tab w) :
  Calls Tryz.prog 86 #[.agg (a0i key),v] w fun e w'=>e=.returned (.agg (a0i (ap3 key b)))∧Below w.heap.size w w':=by
 have r1:(a0i key).size=32:=by rw [a0o,hk]
 have r2:(a0i key).extract 0 32=a0i key:=a2v _ _ hk
 have r3:ones (a0i key)=true:=a1t _
 go_enter Tryz.func86,Tryz.ntmps86
 repeat' (first | go_skip | go_guarded | go_step | go_upon)
 have c2:obj ((((w.alloc (.cells (a0i key) 46 (0,0))).alloc (.cells z46 46 (0,0))).alloc (.cells z164 164 (0,0))).alloc (.cells z164 164 (0,0))) w.heap.size=some (.cells (a0i key) 46 (0,0)):=a02 (a02 (a02 (a03 _ _ _ rfl) _) _) _
 have c4:obj ((((w.alloc (.cells (a0i key) 46 (0,0))).alloc (.cells z46 46 (0,0))).alloc (.cells z164 164 (0,0))).alloc (.cells z164 164 (0,0))) (w.heap.size+1)=some (.cells z46 46 (0,0)):=a02 (a02 (a03 _ _ _ (by simp)) _) _
 have c5:obj ((((w.alloc (.cells (a0i key) 46 (0,0))).alloc (.cells z46 46 (0,0))).alloc (.cells z164 164 (0,0))).alloc (.cells z164 164 (0,0))) (w.heap.size+1+1)=some (.cells z164 164 (0,0)):=a02 (a03 _ _ _ (by simp)) _
 have c6:obj ((((w.alloc (.cells (a0i key) 46 (0,0))).alloc (.cells z46 46 (0,0))).alloc (.cells z164 164 (0,0))).alloc (.cells z164 164 (0,0))) (w.heap.size+1+1+1)=some (.cells z164 164 (0,0)):=a03 _ _ _ (by simp)
 have cB:Below w.heap.size w ((((w.alloc (.cells (a0i key) 46 (0,0))).alloc (.cells z46 46 (0,0))).alloc (.cells z164 164 (0,0))).alloc (.cells z164 164 (0,0))):=((((Below.refl _ _).alloc (Nat.le_refl _) _).alloc (by simp) _).alloc (by simp;omega) _).alloc (by simp;omega) _
 generalize ((((w.alloc (.cells (a0i key) 46 (0,0))).alloc (.cells z46 46 (0,0))).alloc (.cells z164 164 (0,0))).alloc (.cells z164 164 (0,0)))=w1 at *
 go_still_tail 2,(by kernel_rfl)
 change wpList _ _ _ _ _ w1.drew
 refine wpList_copy_own (by rfl) _ _ _ _ (by rfl) 5 Tryz.underlying60 (by kernel_rfl) (w.heap.size+1+1) 0 _ _ ⟨w.heap.size,0,none⟩ _ _ (by rfl) (by rfl) z164 164 c5 (a0p key) ?_ ?_ ?_ (a81 _) ?_
 ·rw [a1m,hk];rfl
 ·exact afc (b:=w.heap.size) (a3g c2)
 ·rw [a1m,hk,zs_164];decide
 rw [aoy key hk]
 have d4:=a2q (a3g c4) (show w.heap.size+1≠w.heap.size+1+1 by omega) (a0i (a6l key))
 have d6:=a2q (a3g c6) (show w.heap.size+1+1+1≠w.heap.size+1+1 by omega) (a0i (a6l key))
 have d5:obj (w1.drew.setRow (w.heap.size+1+1) (a0i (a6l key))) (w.heap.size+1+1)=some (.cells (a0i (a6l key)) 164 (0,0)):=by rw [a0b,a3g c5];rfl
 have dB:Below w.heap.size w (w1.drew.setRow (w.heap.size+1+1) (a0i (a6l key))):=below_setRow cB.drew (by omega) _
 clear c2 c4 c5 c6 cB
 generalize w1.drew.setRow (w.heap.size+1+1) (a0i (a6l key))=w2 at *
 have s1:(a0i (a6l key)).size=64:=by rw [a0o,a3s key hk]
 have s2:(a0i (a6l key)).extract 0 64=a0i (a6l key):=a2v _ _ (a3s key hk)
 have s3:ones (a0i (a6l key))=true:=a1t _
 repeat' (first | go_skip | go_guarded | go_step | go_upon)
 have e4:=a2q d4 (show w.heap.size+1≠w.heap.size+1+1+1 by omega) (a0i (a6l key))
 have e5:=a2q d5 (show w.heap.size+1+1≠w.heap.size+1+1+1 by omega) (a0i (a6l key))
 have e6:obj (w2.setRow (w.heap.size+1+1+1) (a0i (a6l key))) (w.heap.size+1+1+1)=some (.cells (a0i (a6l key)) 164 (0,0)):=by rw [a0b,d6];rfl
 have eB:Below w.heap.size w (w2.setRow (w.heap.size+1+1+1) (a0i (a6l key))):=below_setRow dB (by omega) _
 clear d4 d5 d6 dB s1 s2 s3
 generalize w2.setRow (w.heap.size+1+1+1) (a0i (a6l key))=w3 at *
 go_loopw [13] (fun i wr => ∃ k:Nat,k≤64∧i=.int .i64 k∧obj wr (w.heap.size+1+1)=some (.cells (a0i (aq0 0x36 key k)) 164 (0,0))∧obj wr (w.heap.size+1+1+1)=some (.cells (a0i (aq0 0x5c key k)) 164 (0,0))∧obj wr (w.heap.size+1)=some (.cells z46 46 (0,0))∧Below w.heap.size w wr)
  (fun i _=>(64 - intOf i).toNat)
 case atStart=>exact ⟨0,by omega,rfl,by rw [akf];exact e5,by rw [akf];exact e6,e4,eB⟩
 case round =>
  clear e4 e5 e6 eB
  obtain ⟨k,aZs,rfl,h5,h6,h4,hB⟩:=hrel
  by_cases hlt:k < 64
  ·have c5:wr.cell? ⟨w.heap.size+1+1,k,none⟩=some (B8 ((a6l key).getD k 0).toNat):=(a01 h5 k).trans (by rw [a5f _ _ (by rw [aei _ _ _ hk aZs];exact hlt),apz _ _ _ hk hlt])
   have c6:wr.cell? ⟨w.heap.size+1+1+1,k,none⟩=some (B8 ((a6l key).getD k 0).toNat):=(a01 h6 k).trans (by rw [a5f _ _ (by rw [aei _ _ _ hk aZs];exact hlt),apz _ _ _ hk hlt])
   have f5:=a0t h5 k
   have f6:=a0t h6 k
   have HX:=Lib.hid (show bits BinOp.xor .u8 ((((a6l key).getD k 0).toNat:Nat):Int) 54=((((a6l key).getD k 0) ^^^ 54).toNat:Nat) from aIf ((a6l key).getD k 0) 54)
   have HY:=Lib.hid (show bits BinOp.xor .u8 ((((a6l key).getD k 0).toNat:Nat):Int) 92=((((a6l key).getD k 0) ^^^ 92).toNat:Nat) from aIf ((a6l key).getD k 0) 92)
   have HS:=Lib.hid (apy 0x36 key k hk hlt)
   have HT:=Lib.hid (apy 0x5c key k hk hlt)
   generalize (a6l key).getD k 0=x at *
   repeat' (first | go_skip | go_guarded | go_step | go_upon)
   refine ⟨⟨k+1,by omega,by go_num,?_,?_,?_,?_⟩,by simp [intOf];omega⟩
   ·refine a1c ?_ _ (by simp) _
    rw [a0l,h5,← HS.out,← aa4,HX.out];rfl
   ·have:=a1c h6 ⟨w.heap.size+1+1,k,none⟩ (by simp) (Value.int IntKind.u8 (bits BinOp.xor IntKind.u8 (x.toNat:Int) 54))
    rw [a0l,this,← HT.out,← aa4,HY.out];rfl
   ·exact a1c (a1c h4 _ (by simp) _) _ (by simp) _
   ·exact (hB.setCell (by simp;omega) _).setCell (by simp;omega) _
  ·obtain ⟨ip,hip⟩ : ∃ ip,ip=(a6l key).map (· ^^^ 0x36):=⟨_,rfl⟩
   obtain ⟨op,hop⟩ : ∃ op,op=(a6l key).map (· ^^^ 0x5c):=⟨_,rfl⟩
   have h5':obj wr (w.heap.size+1+1)=some (.cells (a0i ip) 164 (0,0)):=by rw [h5,show k=64 by omega,akg _ _ hk,hip]
   have h6':obj wr (w.heap.size+1+1+1)=some (.cells (a0i op) 164 (0,0)):=by rw [h6,show k=64 by omega,akg _ _ hk,hop]
   have li:ip.length=64:=by rw [hip,List.length_map,a3s key hk]
   have lo:op.length=64:=by rw [hop,List.length_map,a3s key hk]
   have HE:=Lib.hid (show ap3 key b=a3t (op++a3t (ip++b)) by unfold ap3;rw [hip,hop])
   clear h5 h6 hip hop r1 r2 r3
   have hv':acd wr v b:=hv.below hB
   have hT':Tab wr:=hT.below hB (by obtain ⟨cs,T,fr,q,_⟩:=hT;exact a04 q)
   clear hv hT
   have hm:∀ o:Obj,Below wr.heap.size wr (wr.alloc o):=fun o=>(Below.refl _ _).alloc (Nat.le_refl _) o
   have hT1:∀ o:Obj,Tab (wr.alloc o):=fun o=>hT'.below (hm o) (by obtain ⟨cs,T,fr,q,_⟩:=hT';exact Nat.lt_of_le_of_lt (Nat.zero_le _) (a04 q))
   obtain ⟨ao,n,c',rfl,rfl,hn,hbytes⟩:=hv'
   have hvb:acd wr (.slice ao b.length c') b:=⟨ao,_,c',rfl,rfl,hn,hbytes⟩
   have hP:∀ T,PartsAt (wr.alloc (.cells #[Value.slice (some ⟨w.heap.size+1+1,0,none⟩) 64 64,Value.slice ao b.length c'] T (0,0))) (.slice (some ⟨wr.heap.size,0,none⟩) 2 2) [ip,b]:=fun T =>
    alc (a03 _ _ _ rfl) (ae8 li.symm (a02 h5' _)) (hvb.below (hm _))
   have hsz:[ip,b].flatten.length≤1099511627776:=by simp;omega
   have HP:=Lib.hid hP
   clear hP hvb hn hbytes
   repeat' (first | (go_at_call 111;((with_reducible refine (a7x _ [ip,b] hsz (by simp) _ (HP.out _) (hT1 _)).mono ?_));rintro r w4 ⟨rfl,hb4⟩;dsimp only) | go_skip | go_guarded | go_step | go_upon)
   have hl2:=a13 (ip++b)
   have hz4:=hb4.size
   have hm4:Below wr.heap.size wr w4:=(hm _).trans (hb4.mono (by simp))
   clear HP hT1 hb4
   have g6:obj (w4.alloc (.cells (a0i (a3t (ip++b))) 46 (0,0))) (w.heap.size+1+1+1)=some (.cells (a0i op) 164 (0,0)):=a02 (a00 h6' hm4 (a04 h6')) _
   have g4:obj (w4.alloc (.cells (a0i (a3t (ip++b))) 46 (0,0))) (w.heap.size+1)=some (.cells z46 46 (0,0)):=a02 (a00 h4 hm4 (a04 h4)) _
   have g8:obj (w4.alloc (.cells (a0i (a3t (ip++b))) 46 (0,0))) w4.heap.size=some (.cells (a0i (a3t (ip++b))) 46 (0,0)):=a03 _ _ _ rfl
   have gB:Below w.heap.size w (w4.alloc (.cells (a0i (a3t (ip++b))) 46 (0,0))):=(hB.trans (hm4.mono hB.size)).alloc (by have:=hB.size;have:=hm4.size;omega) _
   have gT:Tab (w4.alloc (.cells (a0i (a3t (ip++b))) 46 (0,0))):=hT'.below (hm4.alloc hm4.size _) (Nat.lt_of_le_of_lt (Nat.zero_le _) (a04 h4))
   generalize w4.heap.size=M at *
   generalize w4.alloc (.cells (a0i (a3t (ip++b))) 46 (0,0))=w5 at *
   have hsz2:[op,a3t (ip++b)].flatten.length≤1099511627776:=by simp;omega
   generalize hS:a3t (ip++b)=S at *
   have HS:=Lib.hid hS
   clear hS h5' h6' h4 hT' hm hm4 hsz hz4 hlt aZs
   have hm:∀ o:Obj,Below w5.heap.size w5 (w5.alloc o):=fun o=>(Below.refl _ _).alloc (Nat.le_refl _) o
   have hP:∀ T,PartsAt (w5.alloc (.cells #[Value.slice (some ⟨w.heap.size+1+1+1,0,none⟩) 64 64,Value.slice (some ⟨M,0,none⟩) 32 32] T (0,0))).drew (.slice (some ⟨w5.heap.size,0,none⟩) 2 2) [op,S]:=fun T =>
    alc (a3g (a03 _ _ _ rfl)) (ae8 lo.symm (a3g (a02 g6 _))) (ae8 hl2.symm (a3g (a02 g8 _)))
   have hT1:∀ o:Obj,Tab (w5.alloc o).drew:=fun o=>gT.below (B:=w5.heap.size) (((Below.refl _ _).alloc (Nat.le_refl _) o).drew) (Nat.lt_of_le_of_lt (Nat.zero_le _) (a04 g4))
   have HP:=Lib.hid hP
   clear hP
   have hl3:=a13 (op++S)
   go_region_law (first | ((go_simp;go_at_call 111;((with_reducible refine (a7x _ [op,S] hsz2 (by simp) _ (HP.out _) (hT1 _)).mono ?_));rintro e w6 ⟨rfl,hb6⟩;have q4:obj w6 (w.heap.size+1)=some (.cells z46 46 (0,0)):=a00 (a3g (a02 g4 _)) hb6 (by have:=a04 g4;simp;omega);have qB:Below w.heap.size w w6:=(gB.trans (((Below.refl _ _).alloc (Nat.le_refl _) _).drew.mono gB.size)).trans (hb6.mono (by have:=gB.size;simp;omega));dsimp only)))
   have z4:obj (w6.setRow (w.heap.size+1) (a0i (a3t (op++S)))) (w.heap.size+1)=some (.cells (a0i (a3t (op++S))) 46 (0,0)):=by rw [a0b,q4];rfl
   have zB:Below w.heap.size w (w6.setRow (w.heap.size+1) (a0i (a3t (op++S)))):=below_setRow qB (by omega) _
   have hz:(a0i (a3t (op++S))).size=32:=by rw [a0o,hl3]
   generalize w6.setRow (w.heap.size+1) (a0i (a3t (op++S)))=w7 at *
   generalize hR:a0i (a3t (op++S))=R at *
   have HR:Hid (a0i (ap3 key b)=R):=by rw [Lib.hid HE.out |>.out];exact Lib.hid hR
   clear hR q4 qB hb6 HP hT1 hm HS g8 g4 g6 gB gT hB HE hl3
   repeat' go_step
   refine bodyPost_ret (results_cell_row rfl _ _ (w.heap.size+1) 46 R _ _ rfl z4 Tryz.underlying46 rfl (by rw [hz];kernel_rfl)) rfl ?_
   exact ⟨by rw [← HR.out],zB⟩
end Go.Proofs.YtopgdlblfieljaaGreatDoor
namespace Go.Proofs.YtopgdlblfieljaaGreatDoor
open Go.RowKit
namespace Sha
theorem asq {f g:Nat→Nat} (h:∀ j,j < 64→f j=g j) (i:Nat) (hi:i < 16):word f i=word g i:=by
 unfold word
 rw [h (4 * i) (by omega),h (4 * i+1) (by omega),h (4 * i+2) (by omega),h (4 * i+3) (by omega)]
theorem akv {f g:Nat→Nat} (h:∀ j,j < 64→f j=g j):∀ k,sch f k=sch g k
 | 0=>rfl
 | k+1=>by
  unfold sch
  rw [akv h k]
  by_cases hk:k < 16
  ·rw [if_pos hk,if_pos hk,asq h k hk]
  ·rw [if_neg hk,if_neg hk]
theorem acw (s:St) {f g:Nat→Nat} (h:∀ j,j < 64→f j=g j):comp s f=comp s g:=by
 have e:∀ f,comp s f=s.add (ac9 (sch f 64) s 64):=fun f=>by delta comp;exact Eq.refl _
 rw [e,e,akv h]
noncomputable def cs {α:Type} (l:List Nat) (k:Nat→List Nat→α):α:=List.rec (motive:=fun _=>(Nat→List Nat→α)→α) (fun k=>k 0 []) (fun x t _ k=>k x t) l k
theorem aHr {α:Type} (l:List Nat) (k:Nat→List Nat→α):cs l k=k (l.getD 0 0) (l.drop 1):=by cases l<;>rfl
noncomputable def b0z {α:Type} (κ:List Nat→List Nat→α) (n:Nat):List Nat→List Nat→α:=Nat.rec (motive:=fun _=>List Nat→List Nat→α) (fun r l=>κ r l) (fun _ ih r l=>cs l fun a l=>cs l fun b l=>cs l fun c l=>cs l fun d l=>force (fun x=>ih (x :: r) l) (16777216 * a+65536 * b+256 * c+d)) n
theorem getD_drop (p:List Nat) (i j:Nat):(p.drop i).getD j 0=p.getD (i+j) 0:=by
 rw [List.getD_eq_getElem?_getD,List.getD_eq_getElem?_getD,List.getElem?_drop]
theorem avo {α:Type} (κ:List Nat→List Nat→α) (p:List Nat):∀ (n j:Nat),j+n≤16→b0z κ n (sch (fun i=>p.getD i 0) j).reverse (p.drop (4 * j))=κ (sch (fun i=>p.getD i 0) (j+n)).reverse (p.drop (4 * (j+n)))
 | 0,j,_=>rfl
 | n+1,j,h=>by
  show cs (p.drop (4 * j)) (fun a l=>cs l fun b l=>cs l fun c l=>cs l fun d l=>force (fun x=>b0z κ n (x :: (sch (fun i=>p.getD i 0) j).reverse) l) (16777216 * a+65536 * b+256 * c+d))=_
  rw [aHr,aHr,aHr,aHr,force_eq]
  simp only [List.drop_drop,getD_drop,Nat.add_zero]
  have e:(16777216 * p.getD (4 * j) 0+65536 * p.getD (4 * j+1) 0+256 * p.getD (4 * j+1+1) 0+p.getD (4 * j+1+1+1) 0) :: (sch (fun i=>p.getD i 0) j).reverse=(sch (fun i=>p.getD i 0) (j+1)).reverse:=by
   show _=(sch (fun i=>p.getD i 0) j ++ [if j < 16 then word (fun i=>p.getD i 0) j else next (sch (fun i=>p.getD i 0) j)]).reverse
   rw [if_pos (by omega)]
   simp [word]
  have e2:4 * j+1+1+1+1=4 * (j+1):=by omega
  rw [e,e2,avo κ p n (j+1) (by omega),show j+1+n=j+(n+1) by omega]
noncomputable def aHt {α:Type} (s:St) (p:List Nat) (κ:List Nat→K8 α):α:=b0z (fun r l=>goR (fun r=>s.to (rds (aQf s (κ l)) K (rev r []))) 48 r) 16 [] p
theorem aHs {α:Type} (s:St) (p:List Nat) (κ:List Nat→K8 α):aHt s p κ=(comp s fun i=>p.getD i 0).to (κ (p.drop 64)):=by
 unfold aHt
 have h:=avo (fun r l=>goR (fun r=>s.to (rds (aQf s (κ l)) K (rev r []))) 48 r) p 16 0 (by omega)
 rw [show (sch (fun i=>p.getD i 0) 0).reverse = [] from rfl,Nat.mul_zero,List.drop_zero] at h
 rw [h,aMe _ (fun i=>p.getD i 0) 48 (0+16) (by omega)]
 have h2:comp s (fun i=>p.getD i 0)=s.add (ac9 (sch (fun i=>p.getD i 0) 64) s 64):=by delta comp;exact Eq.refl _
 exact (aO5 s (κ (p.drop 64)) (sch (fun i=>p.getD i 0) 64) (a4u _ 64)).trans (congrArg (fun t=>t.to (κ (p.drop 64))) h2.symm)
noncomputable def aHc {α:Type} (κ:St→α) (n:Nat):List Nat→St→α:=Nat.rec (motive:=fun _=>List Nat→St→α) (fun _ s=>κ s) (fun _ ih p s=>aHt s p fun l a b c d e f g h=>ih l ⟨a,b,c,d,e,f,g,h⟩) n
noncomputable def frc {α:Type} (κ:List Nat→α) (l:List Nat):List Nat→α:=List.rec (motive:=fun _=>List Nat→α) (fun acc=>κ acc) (fun x _ ih acc=>force (fun y=>ih (y :: acc)) x) l
theorem amf {α:Type} (κ:List Nat→α):∀ l acc,frc κ l acc=κ (l.reverse++acc)
 | [],acc=>rfl
 | x :: l,acc=>by
  show force (fun y=>frc κ l (y :: acc)) x=_
  rw [force_eq,amf κ l];simp
def b2q (s:St):List Nat:=[s.h % 256,s.h >>> 8 % 256,s.h >>> 16 % 256,s.h >>> 24 % 256,s.g % 256,s.g >>> 8 % 256,s.g >>> 16 % 256,s.g >>> 24 % 256,s.f % 256,s.f >>> 8 % 256,s.f >>> 16 % 256,s.f >>> 24 % 256,s.e % 256,s.e >>> 8 % 256,s.e >>> 16 % 256,s.e >>> 24 % 256,
 s.d % 256,s.d >>> 8 % 256,s.d >>> 16 % 256,s.d >>> 24 % 256,s.c % 256,s.c >>> 8 % 256,s.c >>> 16 % 256,s.c >>> 24 % 256,s.b % 256,s.b >>> 8 % 256,s.b >>> 16 % 256,s.b >>> 24 % 256,s.a % 256,s.a >>> 8 % 256,s.a >>> 16 % 256,s.a >>> 24 % 256]
def aTd:St:=⟨1779033703,3144134277,1013904242,2773480762,1359893119,2600822924,528734635,1541459225⟩
def aRy (n:Nat):Nat:=(119 - n % 64) % 64
noncomputable def ayx (l:List Nat):Nat:=List.rec (motive:=fun _=>Nat) 0 (fun _ _ ih=>Nat.succ ih) l
noncomputable def aI4 (l r:List Nat):List Nat:=List.rec (motive:=fun _=>List Nat) r (fun x _ ih=>x :: ih) l
theorem afk:∀ l:List Nat,ayx l=l.length
 | []=>rfl
 | x :: l=>by show Nat.succ (ayx l)=_;rw [afk l];rfl
theorem agd:∀ l r:List Nat,aI4 l r=l++r
 | [],r=>rfl
 | x :: l,r=>by show x :: aI4 l r=_;rw [agd l r];rfl
def zer (n:Nat):List Nat→List Nat:=Nat.rec (motive:=fun _=>List Nat→List Nat) (fun l=>l) (fun _ ih l=>0 :: ih l) n
theorem aIc:∀ n l,zer n l=List.replicate n 0++l
 | 0,l=>rfl
 | n+1,l=>by show 0 :: zer n l=_;rw [aIc n l,List.replicate_succ];rfl
noncomputable def aNp {α:Type} (m:List Nat) (κ:List Nat→α):α :=
 force (fun n=>force (fun b=>aHc (fun s=>frc κ (b2q s) []) b (aI4 m (128 :: zer (aRy n) [(8 * n) >>> 56 % 256,(8 * n) >>> 48 % 256,(8 * n) >>> 40 % 256,(8 * n) >>> 32 % 256,(8 * n) >>> 24 % 256,(8 * n) >>> 16 % 256,(8 * n) >>> 8 % 256,(8 * n) % 256])) aTd) ((n+1+aRy n+8) / 64)) (ayx m)
end Sha
def a0j (m:List UInt8):List Nat:=m.map (·.toNat)
theorem a7k (x:Nat):(UInt8.ofNat x).toNat=x % 256:=by simp
theorem auh (s:Sha.St):a0j (adu s)=(Sha.b2q s).reverse:=by
 have h:∀ i:Nat,(UInt8.ofNat (s.get (i / 4) >>> (24 - 8 * (i % 4)))).toNat=s.get (i / 4) >>> (24 - 8 * (i % 4)) % 256:=fun i=>a7k _
 unfold a0j adu
 rw [List.map_map]
 simp only [Function.comp_def,h]
 rfl
theorem axv (n:Nat):Sha.aRy n=a90 n:=by unfold Sha.aRy a90;rfl
theorem axu (m:List UInt8):a0j (aai m)=Sha.aI4 (a0j m) (128 :: Sha.zer (Sha.aRy m.length) [(8 * m.length) >>> 56 % 256,(8 * m.length) >>> 48 % 256,(8 * m.length) >>> 40 % 256,(8 * m.length) >>> 32 % 256,(8 * m.length) >>> 24 % 256,(8 * m.length) >>> 16 % 256,(8 * m.length) >>> 8 % 256,(8 * m.length) % 256]):=by
 rw [Sha.agd,Sha.aIc,axv]
 have hb:(be8 (8 * m.length)).map (·.toNat) = [(8 * m.length) >>> 56 % 256,(8 * m.length) >>> 48 % 256,(8 * m.length) >>> 40 % 256,(8 * m.length) >>> 32 % 256,(8 * m.length) >>> 24 % 256,(8 * m.length) >>> 16 % 256,(8 * m.length) >>> 8 % 256,(8 * m.length) % 256]:=by
  unfold be8
  rw [List.map_map]
  simp only [Function.comp_def,a7k]
  rfl
 unfold a0j aai
 rw [List.map_append,List.map_append,List.map_append,hb,List.map_replicate]
 simp only [List.append_assoc,List.map_cons,List.map_nil,List.cons_append,List.nil_append]
 rfl
theorem azs (p:List UInt8) (i:Nat):(a0j p).getD i 0=(p.getD i 0).toNat:=by
 unfold a0j
 rw [List.getD_eq_getElem?_getD,List.getD_eq_getElem?_getD,List.getElem?_map]
 cases p[i]?<;>rfl
theorem arw {α:Type} (p:List UInt8) (κ:Sha.St→α):∀ n q,Sha.aHc κ n ((a0j p).drop (64 * q)) (agk agj (a6d p q))=κ (agk agj (a6d p (q+n)))
 | 0,q=>rfl
 | n+1,q=>by
  show Sha.aHt (agk agj (a6d p q)) ((a0j p).drop (64 * q)) (fun l a b c d e f g h=>Sha.aHc κ n l ⟨a,b,c,d,e,f,g,h⟩)=_
  rw [Sha.aHs]
  have hc:Sha.comp (agk agj (a6d p q)) (fun j=>((a0j p).drop (64 * q)).getD j 0)=agk agj (a6d p (q+1)):=by
   rw [← aa3,aeu]
   exact Sha.acw _ fun j hj=>by rw [Sha.getD_drop,azs,ak1 p q j hj]
  rw [hc,List.drop_drop,show 64 * q+64=64 * (q+1) by omega]
  show Sha.aHc κ n ((a0j p).drop (64 * (q+1))) (agk agj (a6d p (q+1)))=_
  rw [arw p κ n (q+1),show q+1+n=q+(n+1) by omega]
theorem acg {α:Type} (m:List UInt8) (κ:List Nat→α):Sha.aNp (a0j m) κ=κ (a0j (a3t m)):=by
 unfold Sha.aNp
 rw [Sha.force_eq,Sha.force_eq,Sha.afk]
 have hl:(a0j m).length=m.length:=by unfold a0j;rw [List.length_map]
 rw [hl,← axu]
 have h0:Sha.aTd=agk agj (a6d (aai m) 0):=by unfold agk a6d;rfl
 have h1:=arw (aai m) (fun s=>Sha.frc κ (Sha.b2q s) []) ((m.length+1+Sha.aRy m.length+8) / 64) 0
 rw [Nat.mul_zero,List.drop_zero,Nat.zero_add] at h1
 rw [h0,h1,Sha.amf,List.append_nil]
 unfold a3t
 rw [auh]
 unfold awz
 rw [a8g,axv]
noncomputable def aRm (k:Nat) (l:List Nat):List Nat:=List.rec (motive:=fun _=>List Nat) [] (fun x _ ih=>(x ^^^ k) :: ih) l
theorem ank (k:UInt8):∀ l:List UInt8,aRm k.toNat (a0j l)=a0j (l.map (· ^^^ k))
 | []=>rfl
 | x :: l=>by
  show (x.toNat ^^^ k.toNat) :: aRm k.toNat (a0j l)=_
  rw [ank k l]
  unfold a0j
  simp
def z32:List Nat:=[0,0,0,0,0,0,0,0,0,0,0,0,0,0,0,0,0,0,0,0,0,0,0,0,0,0,0,0,0,0,0,0]
noncomputable def b3f {α:Type} (key m:List Nat) (κ:List Nat→α):α :=
 Sha.frc (fun p=>Sha.aNp (Sha.aI4 p m) fun d=>Sha.frc (fun q=>Sha.aNp (Sha.aI4 q d) κ) (Sha.rev (aRm 92 (Sha.aI4 key z32)) []) []) (Sha.rev (aRm 54 (Sha.aI4 key z32)) []) []
theorem a3w (a b:List UInt8):a0j (a++b)=a0j a++a0j b:=by unfold a0j;rw [List.map_append]
theorem aPy {α:Type} (key m:List UInt8) (κ:List Nat→α):b3f (a0j key) (a0j m) κ=κ (a0j (ap3 key m)):=by
 unfold b3f
 have hz:Sha.aI4 (a0j key) z32=a0j (a6l key):=by
  rw [Sha.agd];unfold a6l;rw [a3w];rfl
 have h1:aRm 54 (a0j (a6l key))=a0j ((a6l key).map (· ^^^ 0x36)):=ank 0x36 _
 have h2:aRm 92 (a0j (a6l key))=a0j ((a6l key).map (· ^^^ 0x5c)):=ank 0x5c _
 rw [hz,h1,h2,Sha.amf,Sha.rev_eq,List.append_nil,List.append_nil,List.reverse_reverse,Sha.agd,← a3w,acg,Sha.amf,Sha.rev_eq,List.append_nil,List.append_nil,List.reverse_reverse,Sha.agd,← a3w,acg]
 rfl
noncomputable def shaV (m:List Nat):List Nat:=Sha.aNp m fun l=>l
noncomputable def keyV (k m:List Nat):List Nat:=b3f k m fun l=>l
theorem aNo (m:List UInt8):shaV (a0j m)=a0j (a3t m):=acg m _
theorem aPx (k m:List UInt8):keyV (a0j k) (a0j m)=a0j (ap3 k m):=aPy k m _
noncomputable def ake {α:Type} (l:List Nat) (κ:List Nat→α):α:=Sha.frc κ (Sha.rev l []) []
theorem a7q {α:Type} (l:List Nat) (κ:List Nat→α):ake l κ=κ l:=by
 unfold ake
 rw [Sha.amf,Sha.rev_eq,List.append_nil,List.append_nil,List.reverse_reverse]
end Go.Proofs.YtopgdlblfieljaaGreatDoor
namespace Go.CE
namespace V
open Go.Proofs Go.Proofs.YtopgdlblfieljaaGreatDoor Go.RowKit
def a5d (c:UInt8):AV:=.i .u8 (.ofNat c.toNat)
section
variable [Sym]
def aY9 (F:List UInt8→List UInt8→List UInt8) (tab:List AV→List AV→Option (List AV)):Prop:=∀ ks b rs,tab ks b=some rs →
 ∃ key msg:List UInt8,key.length=32∧msg.length≤1000000000∧ks.map den=key.map a5d∧b.map den=msg.map a5d∧rs.map den=(F key msg).map a5d
end
section
variable [Sym] [a0n]
theorem awq {P:Program} {B:Nat} {σ:Sg} {m:Tr AB} {W:World} {c0 kt:List AV} {T0:Nat} (hg:GS σ) (hs:SR P B σ m W) (k0:m.get 0=some (.cells c0 T0)) (cut0:cut c0 0 64=some kt) (htab:aRo kt=true):Tab W:=by
 obtain ⟨qc,oc,hc1,hc2,cc,rfl,hc3,_,hc5,hc6⟩:=hs.mr 0 _ k0
 obtain ⟨z,s0,hg0⟩:=hg 0 (by omega)
 rw [show 2 * 0=0 from rfl] at hg0
 rw [hg0] at hc1;cases hc1
 unfold aRo at htab
 cases hwk:aRn kt with
 | none=>rw [hwk] at htab;cases htab
 | some r =>
  rw [hwk] at htab
  dsimp only at htab
  rw [afh] at htab
  have hr:r=Sha.K:=by simpa using htab
  subst hr
  obtain ⟨hkt,-⟩:=avk hwk
  obtain ⟨hd0,hs0⟩:=hc3 rfl
  have hc0:64≤c0.length:=by
   have h1:=acv cut0 63 (by omega)
   have h2:kt[63]?≠none:=by
    have:=b3g kt hkt
    rw [List.getElem?_eq_getElem (by omega)];simp
   rw [h1,Ne,List.getElem?_eq_none_iff] at h2
   omega
  refine ⟨cc,T0,(0,0),hc2,by omega,?_⟩
  apply Array.ext_getElem?
  intro i
  by_cases hi:i < 64
  ·have h64:c0[i]? = some (aq4 (Sha.K.getD i 0)):=by
    have h1:=acv cut0 i hi
    rw [Nat.zero_add] at h1
    have hKl:Sha.K.length=64:=rfl
    rw [← h1,hkt,List.getElem?_map,List.getElem?_eq_getElem (by omega),List.getD_eq_getElem?_getD,List.getElem?_eq_getElem (by omega)]
    rfl
   have hi2:i < cc.size:=by omega
   have hv:=hc6 i _ _ h64 (by rw [show (0:Nat)+i=i by omega];exact Array.getElem?_eq_getElem hi2)
   rw [ajk i hi,Array.getElem?_extract]
   rw [if_pos (by omega),show 0+i=i by omega,Array.getElem?_eq_getElem hi2]
   generalize cc[i]=u at hv
   cases hv
   rfl
  ·have aZs:=aWk
   rw [Array.getElem?_eq_none (by rw [Array.size_extract];omega),Array.getElem?_eq_none (by omega)]
theorem az5 (vals:Array Value) (W:World):(callFunc 86 vals).run Tryz.prog W=.ok (.enter 86 vals) W:=by
 have h1:(Tryz.f86.body.isNone)=false:=by kernel_rfl
 have h2:(Tryz.f86.name == "runtime.NumGoroutine")=false:=by kernel_rfl
 unfold callFunc
 simp only [Sem.run_bind,run_program,Result.andThen_ok,Tryz.func86,h1,h2,Bool.false_eq_true,if_false,Sem.run_pure]
theorem adp {P:Program} {B:Nat} {σ:Sg} {m:Tr AB} {W W':World} (hs:SR P B σ m W) (hb:Below W.heap.size W W'):SR P B σ m W':=by
 refine ⟨fun j x hj=>?_,hs.inj,hs.ro,Nat.le_trans hs.hB hb.size⟩
 obtain ⟨q0,o,h1,h2,h3⟩:=hs.mr j x hj
 refine ⟨q0,o,h1,?_,h3⟩
 rw [hb.block q0.b (Array.getElem?_eq_some_iff.1 h2).1]
 exact h2
theorem asb {σ:Sg} {ks:List AV} {c:Array Value} {key:List UInt8} (h:LR σ ks c) (e:ks.map den=key.map a5d):c=a0i key:=by
 have hl:ks.length=key.length:=by have:=congrArg List.length e;simpa using this
 apply Array.ext_getElem?
 intro i
 by_cases hi:i < key.length
 ·have hk:ks[i]? = some (ks[i]'(by omega)):=List.getElem?_eq_getElem _
  have hc:c[i]? = some (c[i]'(by have:=h.len;omega)):=Array.getElem?_eq_getElem _
  have hi2:i < c.size:=by have:=h.len;omega
  have hv:=(h.get i _ _ hk hc).ad6
  have he:den (ks[i]'(by omega))=a5d key[i]:=by
   have:=congrArg (fun l=>l[i]?) e
   simp only [List.getElem?_map,hk,List.getElem?_eq_getElem hi,Option.map_some] at this
   exact Option.some.inj this
  rw [he] at hv
  rw [hc,a5f key i hi,List.getD_eq_getElem?_getD,List.getElem?_eq_getElem hi]
  generalize c[i]=u at hv
  cases hv
  rfl
 ·rw [Array.getElem?_eq_none (by have:=h.len;omega),Array.getElem?_eq_none (by rw [a0o];omega)]
theorem row_of {σ:Sg} {rs:List AV} {l:List UInt8} (e:rs.map den=l.map a5d):VR σ (.g rs) (.agg (a0i l)):=by
 have hl:rs.length=l.length:=by have:=congrArg List.length e;simpa using this
 refine .g _ _ (by rw [a0o];exact hl) fun i x v h1 h2=>?_
 have hi:i < l.length:=by have:=(List.getElem?_eq_some_iff.1 h1).1;omega
 rw [a5f l i hi,List.getD_eq_getElem?_getD,List.getElem?_eq_getElem hi] at h2
 have he:den x=a5d l[i]:=by
  have:=congrArg (fun l=>l[i]?) e
  simp only [List.getElem?_map,h1,List.getElem?_eq_getElem hi,Option.map_some] at this
  exact Option.some.inj this
 apply VR.alo
 rw [he,← Option.some.inj h2]
 exact .i _ _
theorem acs {P:Program} {B:Nat} {σ:Sg} {m:Tr AB} {W:World} {k2 o2 n c:Nat} {v:Value} {c2 b:List AV} {T2:Nat} {msg:List UInt8} (hs:SR P B σ m W) (hv:VR σ (.sl (some (k2,o2)) n c) v) (hk2:m.get k2=some (.cells c2 T2)) (as4:cut c2 o2 n=some b) (e:b.map den=msg.map a5d):acd W v msg:=by
 cases hv with
 | sl _ _ _ _ c' q2 hσ2 hle hx1 hx2 =>
  obtain ⟨qb,ob,hb1,hb2,cb,rfl,_,_,hb5,hb6⟩:=hs.mr k2 _ hk2
  rw [hσ2] at hb1;cases hb1
  have hbl:b.length=msg.length:=by have:=congrArg List.length e;simpa using this
  have hn:n=msg.length:=by rw [← hbl];exact ((adl as4).2).symm
  refine ⟨_,n,c',rfl,hn,(fun h=>by cases h),fun ad had=>?_⟩
  cases had
  refine ⟨(Array.getElem?_eq_some_iff.1 hb2).1,fun j u hj=>?_⟩
  have hj2:j < msg.length:=by have:=(List.getElem?_eq_some_iff.1 hj).1;rwa [a1m] at this
  have hbj:b[j]? = some (b[j]'(by omega)):=List.getElem?_eq_getElem _
  have h64:=(acv as4 j (by omega)).symm.trans hbj
  have hlen2:o2+j < c2.length:=(List.getElem?_eq_some_iff.1 h64).1
  have hi2:q2.d+(o2+j) < cb.size:=by omega
  have hv:=(hb6 (o2+j) _ _ h64 (Array.getElem?_eq_getElem hi2)).ad6
  have he:den (b[j]'(by omega))=a5d msg[j]:=by
   have:=congrArg (fun l=>l[j]?) e
   simp only [List.getElem?_map,hbj,List.getElem?_eq_getElem hj2,Option.map_some] at this
   exact Option.some.inj this
  rw [he] at hv
  rw [Addr.add_lit]
  unfold World.cell?
  dsimp only
  rw [hb2]
  dsimp only
  rw [show o2+q2.d+j=q2.d+(o2+j) by omega,Array.getElem?_eq_getElem hi2]
  unfold a0p at hj
  rw [List.getElem?_map,List.getElem?_eq_getElem hj2] at hj
  generalize cb[q2.d+(o2+j)]=u2 at hv
  cases hv
  exact hj
end
end V
end Go.CE
namespace Go.CE
namespace V
open Go.Proofs Go.Proofs.YtopgdlblfieljaaGreatDoor Go.RowKit
@[reducible] def Sn:Sym:={ val:=fun _=>0,bin:=fun _ _ _ _ _=>none,cv:=fun _ _=>none }
attribute [local instance] Sn
theorem a5k:@a0n Sn:=@a0n.mk Sn (fun _ _ _ _ _ _ h=>by cases h) (fun _ _ _ h=>by cases h) (fun _ _ _ _ _ _ h=>by cases h) (fun _ _ _ _ _ _ h=>by cases h) (fun _ _ _ h=>by cases h) (fun _ _ _ h=>by cases h) (fun _ _ _ h=>by cases h)
attribute [local instance] a5k
def gsg:Sg:=fun k=>match Nat.beq (k % 2) 0&&Nat.ble (k+1) 1024 with
 | true=>some ⟨k / 2,0,0,0⟩
 | false=>none
theorem a8t:GS gsg:=fun k hk=>⟨0,0,by
 unfold gsg
 have h1:Nat.beq (2 * k % 2) 0=true:=by rw [Nat.mul_mod_right];rfl
 have h2:Nat.ble (2 * k+1) 1024=true:=Nat.ble_eq_true_of_le (by omega)
 rw [h1,h2]
 show some (Pl.mk (2 * k / 2) 0 0 0)=_
 rw [Nat.mul_div_cancel_left k (by decide)]⟩
theorem ai1 {k:Nat} {q:Pl} (h:gsg k=some q):k < 1024:=by
 unfold gsg at h
 split at h
 ·rename_i hb
  have:=(Bool.and_eq_true _ _ ▸ hb:_∧_).2
  have:=Nat.le_of_ble_eq_true this
  omega
 ·cases h
noncomputable def fs0:QW:=⟨.e,1024,2048,[],[]⟩
noncomputable def b1v (k:Nat) (args:List FV):Ans:=evF Tryz.prog (fun _=>none) 4000 k args fs0
theorem rs0:RS 2048 ⟨.e,1024,[],[]⟩ fs0:=by
 refine RS.mk rfl rfl (Nat.le_refl _) (fun e h=>by cases h) (fun e h=>by cases h) (fun k=>?_) (fun e h=>by cases h) (fun e h=>by cases h) (fun k x h=>?_)
 ·show RB (Tr.get .e k) (getM (p4 k) .e)
  rw [adg]
  cases k<;>exact .no
 ·cases k<;>cases h
theorem sum0:av7 (fun _=>none) (fun _=>none):=fun _=>.inl ⟨rfl,rfl⟩
theorem sr0 (W:World):SR Tryz.prog W.heap.size gsg .e W:=by
 refine SR.mk (fun j x hj=>by cases j<;>cases hj) (fun i j p1 p2 hi _ _ _ _=>absurd (by cases i<;>rfl) hi) (fun j q hj hro=>?_) (Nat.le_refl _)
 have:=ai1 hj
 have:roB=2048:=rfl
 omega
theorem adn {k:Nat} {l:List FV} {a:List AV} {vals:Array Value} {v:FV} {f':QW} (hl:RVs a l) (hv:LR gsg a vals) (he:b1v k l=some (v,f')) (W:World) :
  Calls Tryz.prog k vals W fun e W' => ∃ τ u,e=.returned u∧VR τ (a2t v) u∧Below W.heap.size W W':=by
 obtain ⟨x,s',hev,⟨hx,_⟩,_⟩:=ayi (P:=Tryz.prog) sum0 (fun _ _ h=>by cases h) 4000 k rs0 hl he
 obtain ⟨m',n',l',w'⟩:=s'
 subst hx
 have hsum:aYa Tryz.prog (fun _=>none):=⟨(fun _ _ h=>by cases h),(fun _ _ h=>by cases h)⟩
 obtain ⟨_,c2⟩:=a7h hsum 4000 W.heap.size gsg .e 1024 [] [] W k a (a2t v) m' n' l' w' vals a8t (sr0 W) hv hev (fun j h1 _=>by
  cases hj:gsg j with
  | none=>rfl
  | some q=>have:=ai1 hj;omega)
 refine c2.mono fun e W' hd=>?_
 obtain ⟨τ,u,he,-,-,hv,hb⟩:=hd
 exact ⟨τ,u,he,hv,hb⟩
theorem ax2 (k1:IntKind) (n1:Nat) (k2:IntKind) (n2:Nat):RVs [AV.i k1 (.ofNat n1),AV.i k2 (.ofNat n2)] [FV.i k1 n1,FV.i k2 n2]:=⟨rfl,fun v h=>by
 simp only [List.mem_cons,List.not_mem_nil,or_false] at h
 rcases h with rfl | rfl<;>trivial⟩
theorem aM5 (k1:IntKind) (n1:Int) (k2:IntKind) (n2:Int):LR gsg [.i k1 n1,.i k2 n2] #[.int k1 n1,.int k2 n2] :=
 LR.mk rfl fun i x v h1 h2=>by
  have hi:i < 2:=(List.getElem?_eq_some_iff.1 h1).1
  have:i=0∨i=1:=by omega
  rcases this with rfl | rfl
  ·cases h1;cases h2;exact VR.i _ _
  ·cases h1;cases h2;exact VR.i _ _
end V
end Go.CE
namespace Go.Proofs.YtopgdlblfieljaaGreatDoor
open Go.RowKit Go.CE Go.CE.V
attribute [local instance] Sn a5k
set_option maxRecDepth 100000
def b1a:List Nat:=[0,1043,19,19,531,51,1923,3,40049,100417,102465,102401,102401,32769,102401,24624,122928,98316,65537]
def anp (k f:Nat):Bool:=(b1a.getD k 0).testBit f
def limL:List (Nat×Nat):=[(1,1099511627776),(1,1099511627776),(0,15),(1,64),(0,511),(0,511),(0,255),(1,3),(0,1099511627776),(0,0),(0,0),(0,2251799813685248),(0,18),(1,4),(0,0),(0,0),(0,0)]
def aWc (k f:Nat):Nat×Nat :=
 if k=1∧f=1 then (1,1) else if (k=6∨k=7)∧f=1 then (2,1099511627776) else if k=8∧f=5 then (0,63) else if k=8∧f=12 then (1,512) else if k=14∧f=12 then (0,5) else limL.getD f (0,0)
noncomputable def isB (r:Ans) (b:Bool):Bool:=match r with
 | some (.b c,_)=>c == b
 | _=>false
noncomputable def isP (r:Ans) (b:Nat×Nat):Bool:=match r with
 | some (.t t n,_)=>match a2t (.t t n) with
  | .t [.i .i64 (.ofNat x),.i .i64 (.ofNat y)]=>x == b.1&&y == b.2
  | _=>false
 | _=>false
def upK (n:Nat):List Nat:=List.range n
set_option maxRecDepth 100000 in
theorem aBt:((upK 19).all fun k=>(upK 17).all fun f=>isB (b1v 46 [.i .i64 k,.i .i64 f]) (anp k f))=true:=by decide +kernel
set_option maxRecDepth 100000 in
theorem au6:((upK 19).all fun k=>(upK 17).all fun f=>isP (b1v 71 [.i .i64 k,.i .i64 f]) (aWc k f))=true:=by decide +kernel
theorem ast (k f:Nat) (hk:k < 19) (hf:f < 17) (w:World):Calls Tryz.prog 46 #[.int .i64 (k:Int),.int .i64 (f:Int)] w fun e w'=>e=.returned (.bool (anp k f))∧Below w.heap.size w w':=by
 have h:=List.all_eq_true.1 (List.all_eq_true.1 aBt k (List.mem_range.2 hk)) f (List.mem_range.2 hf)
 unfold isB at h
 split at h
 ·rename_i c f' he
  have hc:c=anp k f:=by simpa using h
  subst hc
  refine (adn (ax2 _ _ _ _) (aM5 _ _ _ _) he w).mono fun e w' hd=>?_
  obtain ⟨τ,u,he,hv,hb⟩:=hd
  cases hv
  exact ⟨he,hb⟩
 ·cases h
theorem am0 (k f:Nat) (hk:k < 19) (hf:f < 17) (w:World):Calls Tryz.prog 71 #[.int .i64 (k:Int),.int .i64 (f:Int)] w fun e w'=>e=.returned (.tuple #[.int .i64 ((aWc k f).1:Int),.int .i64 ((aWc k f).2:Int)])∧Below w.heap.size w w':=by
 have h:=List.all_eq_true.1 (List.all_eq_true.1 au6 k (List.mem_range.2 hk)) f (List.mem_range.2 hf)
 unfold isP at h
 split at h
 ·rename_i t n f' he
  split at h
  ·rename_i x y ha
   simp only [Bool.and_eq_true,beq_iff_eq] at h
   obtain ⟨h1,h2⟩:=h
   refine (adn (ax2 _ _ _ _) (aM5 _ _ _ _) he w).mono fun e w' hd=>?_
   obtain ⟨τ,u,he,hv,hb⟩:=hd
   rw [ha] at hv
   obtain ⟨c,rfl,hc⟩:=hv.aPs
   refine ⟨?_,hb⟩
   obtain ⟨v0,e0,hv0⟩:=hc.at (i:=0) rfl
   obtain ⟨v1,e1,hv1⟩:=hc.at (i:=1) rfl
   cases hv0;cases hv1
   have hs:c.size=2:=hc.len.symm
   rw [he]
   congr 2
   apply Array.ext
   ·simpa using hs
   ·intro i h3 h4
    have:i=0∨i=1:=by omega
    rcases this with rfl | rfl
    ·have:=(Array.getElem?_eq_some_iff.1 e0).2
     rw [this,← h1];rfl
    ·have:=(Array.getElem?_eq_some_iff.1 e1).2
     rw [this,← h2];rfl
  ·cases h
 ·cases h
end Go.Proofs.YtopgdlblfieljaaGreatDoor
