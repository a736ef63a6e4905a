/-
  The walk of the iterator of digest.blocks.
-/
import Derived.Test.YtlnlbdfokmhelaaGreatDoorPkLaw
import Derived.RangeFuncNested
import Derived.RangeFuncBound
import Derived.RangeFuncCalls
import Derived.RangeFuncLeaves
import Derived.Shelf.Abstract
import Derived.Shelf.RegionOpen
import Derived.OwnWalkIn
import Derived.TacticsInMore
import Derived.LoopNIn
import Derived.LoopIn
import Derived.Laws.IdiomStrings
import Derived.Lib.BufferRead
set_option linter.unusedSectionVars false
set_option linter.constructorNameAsVariable false
set_option linter.unusedVariables false
set_option linter.unusedSimpArgs false
namespace Go.Proofs.YtlnlbdfokmhelaaGreatDoor
open Go.RowKit Go.Shelf
attribute [local go_sem] Oper.semAt_some
def PartsAt (W:World) (v:Value) (ls:List (List UInt8)):Prop := ∃ pb po c,v=.slice (some ⟨pb,po,none⟩) ls.length c∧pb < W.heap.size ∧
 ∀ k (h:k < ls.length),∃ ao n c',W.cell? ⟨pb,po+k,none⟩=some (.slice ao n c')∧n=(ls[k]).length∧(ao=none→n=0∧c' = 0) ∧
  ∀ ad,ao=some ad→ad.block < W.heap.size∧∀ j u,(avf (ls[k]))[j]? = some u→W.cell? (ad.add j)=some u
def be0 (n:Nat):Nat:=(119 - n % 64) % 64
theorem bu0 (n:Nat):be0 n≤63:=by unfold be0;omega
theorem bCu (n z:Nat) (h:z < be0 n):((n:Int)+1+(z:Int)) % 64≠56:=by unfold be0 at h;omega
theorem bCv (n:Nat):((n:Int)+1+(be0 n:Int)) % 64=56:=by unfold be0;omega
theorem bw8 (n:Nat):(n+1+be0 n+8) % 64=0:=by unfold be0;omega
def be8 (n:Nat):List UInt8:=(List.range 8).map fun i=>UInt8.ofNat (n >>> (56 - 8 * i))
def bfo (m:List UInt8):List UInt8:=m ++ [128]++List.replicate (be0 m.length) 0++be8 (8 * m.length)
def bio (p:List UInt8) (i:Nat):List UInt8:=(p.drop (64 * i)).take 64
def bbl (p:List UInt8) (k:Nat):List (List UInt8):=(List.range k).map (bio p)
theorem b9q {F:Fence} {n:Nat} {w:World} {ops:Array Oper} {rest:List Oper} {o:Oper} {a:Act} {Q:Exit→Act→World→Prop} (hgd:o.guard=none) (s x:Operand)
  (ho:o.op=.call { callee:=.builtin .append,args:=#[s,x],argTypes:=#[76,76] })
  (base k:Nat) (v:Value) (xs:List Value) (hs:a.eval s=v) (hown:w.ownsRow base 5 1 v k xs)
  (ao:Option Addr) (m c:Nat) (news:List Value) (hx:a.eval x=.slice ao m c) (hl:news.length=m) (hnone:ao=none→m=0∧c=0) (hnews:∀ ad,ao=some ad→∀ j u,news[j]? = some u→w.cell? (ad.add j)=some u) (h1:∀ u∈news,u.oneCell' = true)
  (h63:k+m≤100000000000000) (hb:base≤w.heap.size)
  (h:∀ v' w',w'.ownsRow base 5 1 v' (k+m) (xs++news)→w.grownBy w' v.ownBlock→wpListIn F n Tryz.prog ops Q rest (a.put o.dst v') w'):wpListIn F n Tryz.prog ops Q (o :: rest) a w:=by
 obtain ⟨i0,hi,hz0,hz1,hz2⟩:=bfz
 cases ao with
 | some ad=>exact wpListIn_append_own w hgd s x _ ho base _ i0 _ 1 1 Tryz.underlying76 hi hz0 hz1 hz2 rfl (by decide) v k xs hs hown ad m c news hx (by omega) (hnews ad rfl) h1 (by unfold maxLen;omega) (by omega) hb fun v' w' q1 q2 _=>h v' w' q1 q2
 | none =>
  obtain ⟨rfl,rfl⟩:=hnone rfl
  have hnews:news = []:=List.eq_nil_of_length_eq_zero hl
  subst hnews
  refine wpListIn_plain hgd fun K hK'=>?_
  have hrun:=run_append_owned_none (P:=Tryz.prog) w base 76 o.type 5 i0 1 Tryz.underlying76 hi v k xs hown
  unfold Oper.wpIn
  refine ⟨?_,?_⟩
  ·simp [Oper.about,ho,resolve,Target.leads,Sem.run_pure]
  ·rw [Oper.semAt_plain F _ _ (by rw [ho];intro c hc';cases hc')]
   simp [execOp,ho,resolve,invoke,builtin,hs,hx,hrun,Result.andThen]
   exact hK' _ _ (by simpa using h v w (by simpa using hown) (World.grownBy.refl _ _))
theorem beg {W w w':World} {v:Value} {k:Nat} {xs:List Value} (hB:Below W.heap.size W w) (hown:w.ownsRow W.heap.size 5 1 v k xs) (hg:w.grownBy w' v.ownBlock):Below W.heap.size W w':=hB.grown hg hB.size fun g hk=>by
 rcases hown.2 with ⟨rfl,_⟩ | ⟨g',c,cur,rfl,h1,_⟩
 ·cases hk
 ·cases hk;exact h1
theorem bgp {W w w':World} {v:Value} {k:Nat} {xs:List Value} (hB:W.heap.size≤w.heap.size) (hown:w.ownsRow W.heap.size 5 1 v k xs) (hg:w.grownBy w' v.ownBlock):Below W.heap.size w w':=⟨hg.os,hg.tape,hg.output,hg.size,fun i hi=>by
 refine hg.block i (by omega) fun e=>?_
 rcases hown.2 with ⟨rfl,_⟩ | ⟨g',c,cur,rfl,h1,_⟩
 ·cases e
 ·have:i=g':=Option.some.inj e
  omega⟩
theorem bf2 (W:World) (x:Value) (T:TypeId):∀ ad,some (⟨W.heap.size,0,none⟩:Addr)=some ad→∀ j u,[x][j]? = some u→(W.alloc (.cells #[x] T (0,0))).cell? (ad.add j)=some u:=fun ad had j u hu=>by
 cases had
 have hj:j=0:=by
  have:=(List.getElem?_eq_some_iff.1 hu).1
  simpa using this
 subst hj
 rw [Addr.add_lit,cell_of_row _ _ _ #[x] T (0,0) (heap_alloc_new W _)]
 simpa using hu
def lenV:Value→Nat
 | .slice _ n _=>n
 | _=>0
@[simp] theorem bf6 (a:Option Addr) (n c:Nat):lenV (.slice a n c)=n:=rfl
def bt0 (M:List UInt8) (z:Nat):List UInt8:=M ++ [128]++List.replicate z 0
theorem bqv (M:List UInt8):avf M ++ [B8 128]=avf (bt0 M 0):=by unfold bt0;rw [List.replicate_zero,List.append_nil,b9v];unfold avf;rfl
theorem bqw (M:List UInt8) (z:Nat):avf (bt0 M z) ++ [B8 0]=avf (bt0 M (z+1)):=by
 have h:bt0 M (z+1)=bt0 M z ++ [0]:=by unfold bt0;rw [List.replicate_succ'];simp only [List.append_assoc]
 rw [h,b9v];unfold avf;rfl
def beK (N i:Nat):List UInt8:=(be8 N).take i
theorem bhu (N:Nat):(be8 N).length=8:=by simp [be8]
theorem bNf (N i:Nat) (h:i < 8):beK N i ++ [UInt8.ofNat (N >>> (56 - 8 * i))]=beK N (i+1):=by
 unfold beK
 rw [List.take_succ_eq_append_getElem (by rw [bhu];exact h)]
 congr 2
 simp [be8]
theorem bRy (N i:Nat) (h:i < 8):(N:Int) / 2 ^ (56 - 8 * i) % 256=(((UInt8.ofNat (N >>> (56 - 8 * i))).toNat:Nat):Int):=by
 have h1:((N:Int) / 2 ^ (56 - 8 * i))=((N >>> (56 - 8 * i):Nat):Int):=by rw [Nat.shiftRight_eq_div_pow];simp
 rw [h1];simp
def bH5 (M:List UInt8) (i:Nat):List UInt8:=bt0 M (be0 M.length)++beK (8 * M.length) i
theorem bqx (M:List UInt8):bH5 M 0=bt0 M (be0 M.length):=by unfold bH5 beK;simp
theorem bqy (M:List UInt8) (i:Nat) (h:i < 8):avf (bH5 M i) ++ [B8 (UInt8.ofNat ((8 * M.length) >>> (56 - 8 * i))).toNat]=avf (bH5 M (i+1)):=by
 unfold bH5
 rw [← bNf _ i h,← List.append_assoc,b9v (_++_)]
 congr 1
 unfold avf;rfl
theorem bwu (M:List UInt8):bH5 M 8=bfo M:=by unfold bH5 beK bfo bt0;rw [List.take_of_length_le (by rw [bhu];omega)]
theorem bdg (M:List UInt8):(bfo M).length=M.length+1+be0 M.length+8:=by unfold bfo;simp [bhu];omega
attribute [irreducible] bt0 bH5 bfo be0
theorem bfa (p:List UInt8) (q:Nat):bbl p q ++ [bio p q]=bbl p (q+1):=by unfold bbl;rw [List.range_succ,List.map_append];rfl
theorem bA1 (p:List UInt8) (q T:Nat) (h:q < T) : ∃ suf,bbl p T=bbl p q++bio p q :: suf:=by
 refine ⟨((List.range T).drop (q+1)).map (bio p),?_⟩
 have e:List.range T=List.range q++q :: (List.range T).drop (q+1):=by
  have h1:List.range T=(List.range T).take q++(List.range T).drop q:=(List.take_append_drop q _).symm
  have h2:(List.range T).drop q=q :: (List.range T).drop (q+1):=by
   rw [List.drop_eq_getElem_cons (by simpa using h)];simp
  rw [h2] at h1
  rw [show (List.range T).take q=List.range q by rw [List.take_range];congr 1;omega] at h1
  exact h1
 unfold bbl
 conv=>lhs;rw [e]
 rw [List.map_append,List.map_cons]
theorem bp4 (p:List UInt8) (q j:Nat) (h:j < 64):(bio p q).getD j 0=p.getD (64 * q+j) 0:=by
 unfold bio
 rw [List.getD_eq_getElem?_getD,List.getD_eq_getElem?_getD,List.getElem?_take,if_pos h,List.getElem?_drop]
theorem bwa {W:World} {base:Nat} {g n cap:Nat} {p:List UInt8} (h:W.ownsRow base 5 1 (.slice (some ⟨g,0,none⟩) n cap) n (avf p)):base≤g∧n≤cap∧∃ cur T fr,W.heap[g]? = some (.cells cur T fr)∧∀ j,j < p.length→cur[j]? = some (B8 (p.getD j 0).toNat):=by
 rcases h.2 with ⟨h,_⟩ | ⟨g',c,cur,hv,h1,h2,h3,h4,h5,h6⟩
 ·cases h
 ·cases hv
  refine ⟨h1,h3,cur,_,_,h2,fun j hj=>?_⟩
  have hc:(avf p)[j]? = some (B8 (p.getD j 0).toNat):=by
   unfold avf
   rw [List.getElem?_map,List.getElem?_eq_getElem hj,List.getD_eq_getElem?_getD,List.getElem?_eq_getElem hj]
   rfl
  rw [← h6,List.getElem?_take] at hc
  split at hc
  ·simpa using hc
  ·cases hc
theorem bw9 {W:World} {base:Nat} {e:TypeId} {size:Nat} {v:Value} {n:Nat} {xs:List Value} (h:W.ownsRow base e size v n xs) : ∃ ao cap,v=.slice ao n cap:=by
 rcases h.2 with ⟨rfl,rfl⟩ | ⟨g,c,cur,rfl,_⟩
 ·exact ⟨none,0,rfl⟩
 ·exact ⟨_,c,rfl⟩
def bff (ls:List (List UInt8)) (k:Nat):List UInt8:=(ls.take k).flatten
theorem bzb (ls:List (List UInt8)) (k:Nat) (h:k < ls.length):bff ls k++ls[k]=bff ls (k+1):=by
 unfold bff
 rw [List.take_succ_eq_append_getElem h,List.flatten_append]
 simp
theorem bMa (ls:List (List UInt8)) (k:Nat):(bff ls k).length≤ls.flatten.length:=by
 unfold bff
 have h:ls.flatten=(ls.take k).flatten++(ls.drop k).flatten:=by rw [← List.flatten_append,List.take_append_drop]
 rw [h,List.length_append]
 omega
theorem bEj (ls:List (List UInt8)):bff ls ls.length=ls.flatten:=by unfold bff;rw [List.take_length]
attribute [irreducible] bff
set_option maxHeartbeats 2000000 in
set_option maxRecDepth 100000 in
theorem bv9 (n:Nat) (hn:2≤n) (box:Nat) (v:Value) (ls:List (List UInt8)) (hsum:ls.flatten.length≤1099511627776) (hls:ls.length≤1000000) (w:World) (hbox:obj w box=some (.cells #[v] 173 (0,0))) (hp:PartsAt w v ls) :
  bS3 n Tryz.prog 250 #[.pointer (some ⟨box,0,none⟩)] (fun x v W => ∃ g o c,v=#[.slice (some ⟨g,o,none⟩) 64 c]∧g < W.heap.size∧w.heap.size≤g∧∀ j,j < 64→W.cell? ⟨g,o+j,none⟩=some (B8 (x.getD j 0).toNat)) (fun _=>False)
   (bbl (bfo ls.flatten) ((bfo ls.flatten).length / 64)) w:=by
 intro l R J W hW hR hJ hY h0
 obtain ⟨pb,po,pc,rfl,hpb,hparts⟩:=hp
 have hc0:W.cell? ⟨box,0,none⟩=some (.slice (some ⟨pb,po,none⟩) ls.length pc):=(hW.cell (p:=⟨box,0,none⟩) (ah1 hbox)).trans ((abm hbox 0).trans rfl)
 refine callsIn_of_wp Tryz.func250 rfl trivial ?_ rfl
 simp only [Tryz.ntmps250,List.size_toArray,List.length_cons,List.length_nil,Nat.reduceAdd,Nat.reduceSub,Array.replicate_succ,Array.replicate_zero,List.push_toArray,List.append_toArray,List.nil_append,List.cons_append]
 gi_wp2_with fail
 gi_loopw [3,10] (fun m i wr => ∃ k:Nat,k≤ls.length∧i=.int .i64 k∧wr.ownsRow W.heap.size 5 1 m (bff ls k).length (avf (bff ls k))∧J [] wr∧Below W.heap.size W wr) (fun _ i _=>(ls.length - (intOf i).toNat))
 case atStart =>
  refine ⟨0,by omega,rfl,?_,h0,Below.refl _ _⟩
  have e0:bff ls 0 = []:=by unfold bff;rfl
  rw [e0]
  exact ⟨by unfold avf;rfl,.inl ⟨rfl,rfl⟩⟩
 case round =>
  obtain ⟨k,hk,rfl,hown,hJ1,hB⟩:=hrel
  have hk1:(k:Int)≤1000000:=by omega
  by_cases hlt:k < ls.length
  ·obtain ⟨ao,pn,c',hcell,rfl,hnone,hbytes⟩:=hparts k hlt
   have hck:wr.cell? ⟨pb,po+k,none⟩=some (.slice ao (ls[k]).length c'):=(hB.cell (p:=⟨pb,po+k,none⟩) (by have:=hW.size;exact Nat.lt_of_lt_of_le hpb this)).trans ((hW.cell (p:=⟨pb,po+k,none⟩) hpb).trans hcell)
   have hnews:∀ ad,ao=some ad→∀ j u,(avf (ls[k]))[j]? = some u→wr.cell? (ad.add j)=some u:=fun ad had j u hu=>by
    obtain ⟨h1,h2⟩:=hbytes ad had
    have hadd:(ad.add j).block=ad.block:=by unfold Addr.add;split<;>rfl
    rw [hB.cell (p:=ad.add j) (by rw [hadd];exact Nat.lt_of_lt_of_le h1 hW.size),hW.cell (p:=ad.add j) (by rw [hadd];exact h1)]
    exact h2 j u hu
   have hle:=bMa ls (k+1)
   have HN:=Lib.hid (bzb ls k hlt)
   have hlen:(bff ls k).length+(ls[k]).length=(bff ls (k+1)).length:=by rw [← HN.out,List.length_append]
   have hl1:(bff ls k).length+(ls[k]).length≤100000000000000:=by omega
   have hsz:=hB.size
   gi_wp2_with (gi_at_builtin;refine b9q (by rfl) _ _ (by rfl) W.heap.size (bff ls k).length _ _ (by rfl) hown ao (ls[k]).length c' (avf (ls[k])) (by rfl) (aSr _) hnone hnews (bd6 _) hl1 hsz ?_;intro v' w3 hown3 hgrow3)
   refine ⟨⟨k+1,by omega,by go_num,?_,hJ _ _ _ (bgp hsz hown hgrow3) hJ1,beg hB hown hgrow3⟩,?_⟩
   ·rw [hlen,← b9v,HN.out] at hown3;exact hown3
   ·simp [intOf];omega
  ·obtain rfl:k=ls.length:=by omega
   rw [bEj] at hown
   have hsz:=hB.size
   have hl1:ls.flatten.length+1≤100000000000000:=by omega
   obtain ⟨M,hM⟩ : ∃ M,ls.flatten=M:=⟨_,rfl⟩
   rw [hM] at hown hsum hl1 hY
   have HM:=Lib.hid hM
   clear hM hparts hc0 hbox hls hlt
   obtain ⟨ao,cap,rfl⟩:=bw9 hown
   have hm0:(M.length:Int)≤1099511627776:=by omega
   gi_wp2_with (gi_at_builtin;refine b9q (by rfl) _ _ (by rfl) W.heap.size M.length _ _ (by rfl) (hown.alloc _) (some ⟨wr.heap.size,0,none⟩) 1 1 [B8 128] (by rfl) rfl (fun h=>by cases h) (bf2 wr (B8 128) _) (by intro u hu;simp at hu;subst hu;rfl) hl1 (by simp;omega) ?_;intro v' w3 hown3 hgrow3)
   have hB3:Below W.heap.size W w3:=beg (hB.alloc hsz _) (hown.alloc _) hgrow3
   have hJ3:J [] w3:=hJ _ _ _ (((Below.refl _ wr).alloc hsz _).trans (bgp (by simp;omega) (hown.alloc _) hgrow3)) hJ1
   obtain ⟨g,cap3,rfl,hg1,hg2⟩:=hown3.form (by omega)
   rw [bqv] at hown3
   clear hJ1 hB hsz hown hgrow3 hl1
   gi_loopw [3] (fun m wr => ∃ z:Nat,z≤be0 M.length∧∃ g cap,m=.slice (some ⟨g,0,none⟩) (M.length+1+z) cap∧wr.ownsRow W.heap.size 5 1 (.slice (some ⟨g,0,none⟩) (M.length+1+z) cap) (M.length+1+z) (avf (bt0 M z))∧J [] wr∧Below W.heap.size W wr) (fun m _=>M.length+1+be0 M.length - lenV m)
   case atStart=>exact ⟨0,Nat.zero_le _,g,cap3,rfl,hown3,hJ3,hB3⟩
   case round =>
    clear hown3 hJ3 hB3 hg1 hg2
    obtain ⟨z,hz,g,cap,rfl,hown,hJ1,hB⟩:=hrel
    have hsz:=hB.size
    have hz64:z≤63:=Nat.le_trans hz (bu0 _)
    by_cases hlt:z < be0 M.length
    ·have ht:=bCu M.length z hlt
     have hl1:M.length+1+z+1≤100000000000000:=by omega
     gi_wp2_with (gi_at_builtin;refine b9q (by rfl) _ _ (by rfl) W.heap.size (M.length+1+z) _ _ (by rfl) (hown.alloc _) (some ⟨_,0,none⟩) 1 1 [B8 0] (by rfl) rfl (fun h=>by cases h) (bf2 _ (B8 0) _) (by intro u hu;simp at hu;subst hu;rfl) hl1 (by simp;omega) ?_;intro v' w3 hown3 hgrow3)
     obtain ⟨g',cap',rfl,_,_⟩:=hown3.form (by omega)
     rw [bqw] at hown3
     refine ⟨⟨z+1,by omega,g',cap',rfl,hown3,hJ _ _ _ (((Below.refl _ wr).alloc hsz _).trans (bgp (by simp;omega) (hown.alloc _) hgrow3)) hJ1,beg (hB.alloc hsz _) (hown.alloc _) hgrow3⟩,?_⟩
     simp only [bf6];omega
    ·obtain rfl:z=be0 M.length:=by omega
     have ht:=bCv M.length
     rw [← bqx] at hown
     have hJZ:=hJ1
     gi_wp2_with fail
     gi_loopw [3,7] (fun m t wr => ∃ i:Nat,i≤8∧t=.int .i64 (56 - 8 * (i:Int))∧∃ g cap,m=.slice (some ⟨g,0,none⟩) (M.length+1+be0 M.length+i) cap∧wr.ownsRow W.heap.size 5 1 (.slice (some ⟨g,0,none⟩) (M.length+1+be0 M.length+i) cap) (M.length+1+be0 M.length+i) (avf (bH5 M i))∧J [] wr∧Below W.heap.size W wr) (fun _ t _=>(intOf t+8).toNat)
     case atStart=>exact ⟨0,by omega,rfl,g,cap,rfl,hown,hJ1,hB⟩
     case round =>
      clear hown hJ1 hB hJZ hsz ht
      obtain ⟨i,hi,rfl,g,cap,rfl,hown,hJ1,hB⟩:=hrel
      have hsz:=hB.size
      by_cases hlt:i < 8
      ·have hv0:8 * (M.length:Int) / 2 ^ (56 - 8 * i) % 256=(((UInt8.ofNat ((8 * M.length) >>> (56 - 8 * i))).toNat:Nat):Int):=bRy (8 * M.length) i hlt
       have HV:=Lib.hid hv0
       clear hv0
       have hl1:M.length+1+be0 M.length+i+1≤100000000000000:=by omega
       gi_wp2_with (gi_at_builtin;refine b9q (by rfl) _ _ (by rfl) W.heap.size (M.length+1+be0 M.length+i) _ _ (by rfl) (hown.alloc _) (some ⟨_,0,none⟩) 1 1 [_] (by rfl) rfl (fun h=>by cases h) (bf2 _ _ _) (by intro u hu;simp at hu;subst hu;rfl) hl1 (by simp;omega) ?_;intro v' w3 hown3 hgrow3)
       obtain ⟨g',cap',rfl,_,_⟩:=hown3.form (by omega)
       rw [HV.out,bqy M i hlt] at hown3
       refine ⟨⟨i+1,by omega,by congr 1;omega,g',cap',rfl,hown3,hJ _ _ _ (((Below.refl _ wr).alloc hsz _).trans (bgp (by simp;omega) (hown.alloc _) hgrow3)) hJ1,beg (hB.alloc hsz _) (hown.alloc _) hgrow3⟩,?_⟩
       simp [intOf];omega
      ·obtain rfl:i=8:=by omega
       rw [bwu] at hown
       obtain ⟨T,hT⟩ : ∃ T,M.length+1+be0 M.length+8=64 * T:=⟨(M.length+1+be0 M.length+8) / 64,by have:=bw8 M.length;omega⟩
       have hpl:(bfo M).length=64 * T:=(bdg M).trans hT
       have hT2:(bfo M).length / 64=T:=by omega
       obtain ⟨hbg,hcap,cur,TT,fr,hblk,bXl⟩:=bwa hown
       rw [hT2] at hY
       rw [hT] at hown hcap ⊢
       rw [show (56:Int) - 8 * ((8:Nat):Int) = -8 from rfl]
       have hTb:(T:Int)≤100000000000:=by omega
       clear hown hT hlt hsz hB
       gi_wp2_with fail
       gi_loopw [3] (fun m wr => ∃ q:Nat,q≤T∧∃ o c,m=.slice (some ⟨g,o,none⟩) (64 * (T - q)) c∧(q < T→o=64 * q)∧64 * (T - q)≤c∧wr.heap[g]? = some (.cells cur TT fr)∧J (bbl (bfo M) q) wr) (fun m _=>lenV m)
       case atStart=>exact ⟨0,Nat.zero_le _,0,cap,by simp,fun _=>rfl,by omega,hblk,hJ1⟩
       case round =>
        clear hJ1 hcap hblk
        obtain ⟨q,hq,o,c,rfl,ho,hc,hblk,hJ1⟩:=hrel
        by_cases hlt:q < T
        ·obtain rfl:=ho hlt
         have hgl:g < wr.heap.size:=(Array.getElem?_eq_some_iff.1 hblk).1
         obtain ⟨fn,tmps,assign,body,hy,hR2⟩:=hY (bbl (bfo M) q) (bio (bfo M) q) #[.slice (some ⟨g,64 * q,none⟩) 64 c] wr hJ1 ⟨g,64 * q,c,rfl,hgl,Nat.le_trans hW.size hbg,fun j hj=>by
          rw [cell_of_row wr g _ cur TT fr hblk,bXl _ (by omega),bp4 (bfo M) q j hj]⟩ (bA1 (bfo M) q T hlt)
         have h64:(64:Int)≤64 * ((T - q:Nat):Int):=by omega
         have h64n:64≤64 * (T - q):=by omega
         have h64c:(64:Int)≤(c:Int):=by omega
         gi_wp2_with fail
         refine ⟨fun _=>by omega,hR2.mono ?_⟩
         rintro e W5 ⟨rfl,hJ5,hk5⟩
         have hblk5:W5.heap[g]? = some (.cells cur TT fr):=(hk5.2 g hgl (fun hr=>by have:=(hR g hr).1;omega)).trans hblk
         by_cases hc64:c=64
         ·gi_wp2_with fail
          refine ⟨⟨q+1,by omega,64 * q,0,by congr 1;omega,fun h=>by omega,by omega,hblk5,by rw [← bfa];exact hJ5⟩,?_⟩
          simp only [bf6];omega
         ·gi_wp2_with fail
          refine ⟨⟨q+1,by omega,64 * q+64,c - 64,by congr 1;omega,fun _=>by omega,by omega,hblk5,by rw [← bfa];exact hJ5⟩,?_⟩
          simp only [bf6];omega
        ·obtain rfl:q=T:=by omega
         have h00:64 * (q - q)=0:=by omega
         rw [h00]
         gi_wp2_with fail
         go_end0
         refine ⟨⟨_,rfl⟩,?_⟩
         rw [HM.out,hT2]
         exact hJ1
end Go.Proofs.YtlnlbdfokmhelaaGreatDoor
namespace Go.Proofs.YtlnlbdfokmhelaaGreatDoor
open Go.RowKit Go.Shelf
attribute [local go_sem] Oper.semAt_some
def blj:Sha.St:=⟨1779033703,3144134277,1013904242,2773480762,1359893119,2600822924,528734635,1541459225⟩
def bvy:Array Value:=#[.int .u32 1779033703,.int .u32 3144134277,.int .u32 1013904242,.int .u32 2773480762,.int .u32 1359893119,.int .u32 2600822924,.int .u32 528734635,.int .u32 1541459225]
theorem bvz:bvy=blj.row:=by unfold Sha.St.row blj bvy;rfl
def bll (s:Sha.St) (bs:List (List UInt8)):Sha.St:=bs.foldl (fun s b=>Sha.comp s fun j=>(b.getD j 0).toNat) s
theorem bjt (s:Sha.St) (bs:List (List UInt8)) (b:List UInt8):bll s (bs ++ [b])=Sha.comp (bll s bs) fun j=>(b.getD j 0).toNat:=by unfold bll;rw [List.foldl_append];rfl
def bBy (m:List UInt8):Sha.St:=bll blj (bbl (bfo m) ((bfo m).length / 64))
def bil (s:Sha.St):List UInt8:=(List.range 32).map fun i=>UInt8.ofNat (s.get (i / 4) >>> (24 - 8 * (i % 4)))
def b9o (m:List UInt8):List UInt8:=bil (bBy m)
theorem bbi (s:Sha.St):(bil s).length=32:=by simp [bil]
def dgK (s:Sha.St) (k:Nat):List UInt8:=(bil s).take k++List.replicate (32 - k) 0
theorem bn3 (s:Sha.St) (k:Nat) (hk:k≤32):(dgK s k).length=32:=by simp [dgK,bbi];omega
theorem bxm (s:Sha.St):dgK s 32=bil s:=by simp [dgK,bbi,List.take_of_length_le]
theorem bxl (s:Sha.St):z46=as3 (dgK s 0):=by
 have h:dgK s 0=List.replicate 32 0:=by simp [dgK]
 rw [h]
 simp [as3,List.replicate_succ,z46]
theorem bFx (s:Sha.St) (k:Nat) (hk:k < 32):(dgK s k).set k (UInt8.ofNat (s.get (k / 4) >>> (24 - 8 * (k % 4))))=dgK s (k+1):=by
 unfold dgK
 have h2:List.replicate (32 - k) (0:UInt8)=0 :: List.replicate (32 - (k+1)) 0:=by rw [show 32 - k=(32 - (k+1))+1 by omega,List.replicate_succ]
 have h3:(bil s)[k]'(by rw [bbi];exact hk)=UInt8.ofNat (s.get (k / 4) >>> (24 - 8 * (k % 4))):=by simp [bil]
 rw [List.take_succ_eq_append_getElem (by rw [bbi];exact hk),h3,h2,List.set_append_right _ _ (by rw [List.length_take];omega),List.length_take,bbi,show k - min k 32=0 by (rw [Nat.min_eq_left (by omega)];omega),List.set_cons_zero,List.append_assoc]
 rfl
theorem bRs (N j:Nat):(N:Int) / 2 ^ j % 256=(((UInt8.ofNat (N >>> j)).toNat:Nat):Int):=by
 have h1:((N:Int) / 2 ^ j)=((N >>> j:Nat):Int):=by rw [Nat.shiftRight_eq_div_pow];simp
 rw [h1];simp
theorem aBi (m:List UInt8):(b9o m).length=32:=by simp [b9o,bil]
theorem bno:blj.ok:=by unfold blj Sha.St.ok;decide
theorem bWc (s:Sha.St) (f:Nat→Nat):(Sha.comp s f).ok:=by
 have h:Sha.comp s f=s.add (Sha.bhc (Sha.sch f 64) s 64):=by delta Sha.comp;exact Eq.refl _
 rw [h];exact Sha.c4a _ _
theorem bju (s:Sha.St) (h:s.ok):∀ bs:List (List UInt8),(bll s bs).ok
 | []=>h
 | b :: bs=>bju _ (bWc _ _) bs
theorem btz {W W':World} {v:Value} {ls:List (List UInt8)} (h:PartsAt W v ls) (hB:Below W.heap.size W W'):PartsAt W' v ls:=by
 obtain ⟨pb,po,c,rfl,h1,h2⟩:=h
 refine ⟨pb,po,c,rfl,Nat.lt_of_lt_of_le h1 hB.size,fun k hk=>?_⟩
 obtain ⟨ao,n,c',q1,q2,q3,q4⟩:=h2 k hk
 refine ⟨ao,n,c',(hB.cell (p:=⟨pb,po+k,none⟩) h1).trans q1,q2,q3,fun ad had=>?_⟩
 obtain ⟨r1,r2⟩:=q4 ad had
 refine ⟨Nat.lt_of_lt_of_le r1 hB.size,fun j u hu=>?_⟩
 have hadd:(ad.add j).block=ad.block:=by unfold Addr.add;split<;>rfl
 exact (hB.cell (p:=ad.add j) (by rw [hadd];exact r1)).trans (r2 j u hu)
set_option maxHeartbeats 2000000 in
set_option maxRecDepth 100000 in
theorem bd3 (v:Value) (ls:List (List UInt8)) (hsum:ls.flatten.length≤1099511627776) (hls:ls.length≤1000000) (w:World) (hp:PartsAt w v ls) (hT:Tab w) :
  Calls Tryz.prog 173 #[v] w fun e w'=>e=.returned (.agg (as3 (b9o ls.flatten)))∧Below w.heap.size w w':=by
 refine (callsIn_wide (n:=8)).1 ?_
 refine callsIn_of_wp_marks Tryz.func173 rfl trivial ?_
 simp only [Tryz.ntmps173,List.size_toArray,List.length_cons,List.length_nil,Nat.reduceAdd,Nat.reduceSub,Array.replicate_succ,Array.replicate_zero,List.push_toArray,List.append_toArray,List.nil_append,List.cons_append]
 obtain ⟨pb,po,pc,rfl,hpb,hparts⟩:=hp
 gi_wp2_with (refine ⟨trivial,?_⟩;gi_at_call 208;refine (callsIn_wide.2 (bsm _ _ _ _)).mono ?_;rintro e w1 ⟨rfl,rfl⟩)
 have b0:obj (((w.alloc (.cells z46 46 (0,0))).alloc (.cells bvy 258 (0,0))).alloc (.cells #[.slice (some ⟨pb,po,none⟩) ls.length pc] 173 (0,0))) w.heap.size=some (.cells z46 46 (0,0)):=ab6 (ab6 (aff _ _ _ rfl) _) _
 have b1:obj (((w.alloc (.cells z46 46 (0,0))).alloc (.cells bvy 258 (0,0))).alloc (.cells #[.slice (some ⟨pb,po,none⟩) ls.length pc] 173 (0,0))) (w.heap.size+1)=some (.cells bvy 258 (0,0)):=ab6 (aff _ _ _ (by simp)) _
 have b2:obj (((w.alloc (.cells z46 46 (0,0))).alloc (.cells bvy 258 (0,0))).alloc (.cells #[.slice (some ⟨pb,po,none⟩) ls.length pc] 173 (0,0))) (w.heap.size+2)=some (.cells #[.slice (some ⟨pb,po,none⟩) ls.length pc] 173 (0,0)):=aff _ _ _ (by simp)
 have bB:Below w.heap.size w (((w.alloc (.cells z46 46 (0,0))).alloc (.cells bvy 258 (0,0))).alloc (.cells #[.slice (some ⟨pb,po,none⟩) ls.length pc] 173 (0,0))):=(((Below.refl _ _).alloc (Nat.le_refl _) _).alloc (by simp) _).alloc (by simp;omega) _
 have bz:(((w.alloc (.cells z46 46 (0,0))).alloc (.cells bvy 258 (0,0))).alloc (.cells #[.slice (some ⟨pb,po,none⟩) ls.length pc] 173 (0,0))).heap.size=w.heap.size+3:=by simp
 change Code.wpIn _ _ _ _ _ _ (((w.alloc (.cells z46 46 (0,0))).alloc (.cells bvy 258 (0,0))).alloc (.cells #[.slice (some ⟨pb,po,none⟩) ls.length pc] 173 (0,0)))
 generalize (((w.alloc (.cells z46 46 (0,0))).alloc (.cells bvy 258 (0,0))).alloc (.cells #[.slice (some ⟨pb,po,none⟩) ls.length pc] 173 (0,0)))=W0 at *
 have hp0:PartsAt W0 (.slice (some ⟨pb,po,none⟩) ls.length pc) ls:=btz ⟨pb,po,pc,rfl,hpb,hparts⟩ bB
 refine bga (n:=8) (gf:=250) (lb:=#[.pointer (some ⟨w.heap.size+2,0,none⟩)]) rfl (enters_of Tryz.func250 (by kernel_rfl) rfl) (bv9 7 (by omega) (w.heap.size+2) _ ls hsum hls W0 b2 hp0)
  (fun x v W hv=>by obtain ⟨g,o,c,rfl,_⟩:=hv;rfl) (fun _ h=>h.elim) (fun k=>k=w.heap.size+1) (fun k hk=>⟨by omega,fun h=>h⟩)
  (fun pre W=>obj W (w.heap.size+1)=some (.cells (bll blj pre).row 258 (0,0))∧obj W w.heap.size=some (.cells z46 46 (0,0))∧Below w.heap.size w W∧w.heap.size+3≤W.heap.size)
  ?hI ⟨by rw [b1,bvz];rfl,b0,bB,by omega⟩ ?round ?done
 case hI =>
  rintro pre A B hAB ⟨h1,h2,h3,h4⟩
  exact ⟨aa1 h1 hAB (by omega),aa1 h2 hAB (by omega),h3.trans (hAB.mono (by omega)),Nat.le_trans h4 hAB.size⟩
 case round =>
  rintro l pre x v W ⟨h1,h2,h3,h4⟩ ⟨g,o,c,rfl,hg,hg2,hx⟩ hsuf hz hl hlc
  gi_wp2_with fail
  refine ⟨trivial,fun W2 hB2 hkeep hsz=>?_⟩
  have hgl:g≠l:=fun e=>by have:=hlc ⟨g,o+0,none⟩ e;rw [hx 0 (by omega)] at this;cases this
  have k1:obj W2 (w.heap.size+1)=some (.cells (bll blj pre).row 258 (0,0)):=aa1 h1 hB2 (by omega)
  have k2:obj W2 w.heap.size=some (.cells z46 46 (0,0)):=aa1 h2 hB2 (by omega)
  have k3:Below w.heap.size w W2:=h3.trans (hB2.mono (by omega))
  have kx:∀ j,j < 64→W2.cell? ⟨g,o+j,none⟩=some (B8 (x.getD j 0).toNat):=fun j hj=>by
   rw [← hx j hj];unfold World.cell?;rw [hkeep g hg hgl]
  have kT:Tab W2:=hT.below k3 (by obtain ⟨cs,T,fr,q,_⟩:=hT;exact ah1 q)
  clear hkeep hlc hx
  gi_wp2_with (refine ⟨trivial,?_⟩;gi_at_call 209;refine (CallsIn.inRound l (callsIn_wide.2 (bGy (w.heap.size+1) (bll blj pre) (bju _ bno pre) g o c (fun j=>(x.getD j 0).toNat) (fun j=>by have:=(x.getD j 0).toNat_lt;omega) W2 _ kT k1 kx (by omega) (by omega) (by omega)))).mono ?_;rintro e W3 ⟨rfl,q1,q2⟩;dsimp only)
  refine ⟨⟨q1.size,fun k hk hn=>q1.block k hk (by intro e;cases e;exact hn rfl)⟩,by rw [bjt];exact q2,azl k2 q1 (by intro e;have:=Option.some.inj e;omega),k3.grown q1 k3.size (fun g hk=>by cases hk;omega),by have:=q1.size;omega⟩
 case done =>
  rintro D W ⟨h1,h2,h3,h4⟩ hD hK
  have hK':=Lib.hid hK
  clear hK
  have hok:(bBy ls.flatten).ok:=bju _ bno _
  have h1':obj W (w.heap.size+1)=some (.cells (bBy ls.flatten).row 258 (0,0)):=h1
  have hE:=Lib.hid (show b9o ls.flatten=bil (bBy ls.flatten) from rfl)
  clear h1
  generalize bBy ls.flatten=s at *
  gi_wp2_with fail
  have g1:obj (W.alloc (.cells z46 46 (0,0))) (w.heap.size+1)=some (.cells s.row 258 (0,0)):=ab6 h1' _
  have g2:obj (W.alloc (.cells z46 46 (0,0))) w.heap.size=some (.cells z46 46 (0,0)):=ab6 h2 _
  have g3:Below w.heap.size w (W.alloc (.cells z46 46 (0,0))):=h3.alloc (by omega) _
  have g4:obj (W.alloc (.cells z46 46 (0,0))) W.heap.size=some (.cells (as3 (dgK s 0)) 46 (0,0)):=by rw [← bxl];exact aff _ _ _ rfl
  have g5:(W.alloc (.cells z46 46 (0,0))).heap[D]? = some (.deferred (some [])):=ab6 (w:=W) hK'.out _
  have hDW:D < W.heap.size:=ah1 (w:=W) hK'.out
  generalize W.alloc (.cells z46 46 (0,0))=W3 at *
  have hgM:W.heap.size≠D:=by omega
  generalize W.heap.size=M at *
  clear h1' h2 h3 hK'
  gi_loopw [13] (fun i wr => ∃ k:Nat,k≤32∧i=.int .i64 k∧obj wr M=some (.cells (as3 (dgK s k)) 46 (0,0))∧obj wr (w.heap.size+1)=some (.cells s.row 258 (0,0))∧obj wr w.heap.size=some (.cells z46 46 (0,0))∧Below w.heap.size w wr∧wr.heap[D]? = some (.deferred (some [])))
   (fun i _=>(32 - intOf i).toNat)
  case atStart=>exact ⟨0,by omega,rfl,g4,g1,g2,g3,g5⟩
  case round =>
   clear g1 g2 g3 g4 g5
   obtain ⟨k,hk,rfl,h2,h1,h0,hB,hK⟩:=hrel
   have HK:=Lib.hid hK
   clear hK
   by_cases hlt:k < 32
   ·have c1:=(abm h1 (k / 4)).trans (bxx s (k / 4) (by omega))
    have f0:=azi h2 k
    have c2:wr.cell? ⟨M,k,none⟩=some (B8 ((dgK s k).getD k 0).toNat):=(abm h2 k).trans (bas _ _ (by rw [bn3 _ _ hk];exact hlt))
    have HS:=Lib.hid (bFx s k hlt)
    have HV:=Lib.hid (bRs (s.get (k / 4)) (24 - 8 * (k % 4)))
    gi_wp2_with fail
    clear hp0 hparts b0 b1 b2 bB
    refine ⟨⟨k+1,by omega,by go_num,?_,aRa h1 _ (by simp;omega) _,aRa h0 _ (by simp;omega) _,hB.setCell (by simp;omega) _,?_⟩,by simp [intOf];omega⟩
    ·rw [avb,h2,HV.out,← HS.out,← bfb];rfl
    ·exact (heap_setCell_other _ _ _ _ (by simp;omega)).trans HK.out
   ·have h2':obj wr M=some (.cells (as3 (b9o ls.flatten)) 46 (0,0)):=by rw [h2,show k=32 by omega,bxm,hE.out]
    have r1:(as3 (b9o ls.flatten)).size=32:=by rw [ave,aBi]
    have r2:(as3 (b9o ls.flatten)).extract 0 32=as3 (b9o ls.flatten):=b90 _ _ (aBi _)
    have r3:ones (as3 (b9o ls.flatten))=true:=aZ1 _
    clear h2 hp0 hparts b0 b1 b2 bB hE
    generalize hR:as3 (b9o ls.flatten)=R at *
    have HR:=Lib.hid hR
    clear hR
    gi_wp2_with fail
    have e0:obj (wr.setRow w.heap.size R) w.heap.size=some (.cells R 46 (0,0)):=by rw [ajb,h0];rfl
    have eD:(wr.setRow w.heap.size R).heap[D]? = some (.deferred (some [])):=(setRow_other wr w.heap.size D R (by omega)).trans HK.out
    have eB:Below w.heap.size w (wr.setRow w.heap.size R):=below_setRow hB (Nat.le_refl _) R
    generalize wr.setRow w.heap.size R=w4 at *
    refine ⟨by simp,.inl ⟨_,_,rfl,run_takeDeferred eD,?_⟩⟩
    have hD0:w.heap.size < D:=by omega
    refine ⟨_,results_cell_row rfl _ _ w.heap.size 46 R (0,0) _ (by rfl) ((World.putObj_heap_other (by omega)).trans e0) Tryz.underlying46 rfl (by rw [r1];kernel_rfl),by rw [← HR.out],⟨eB.os,eB.tape,eB.output,by simpa [World.putObj] using eB.size,fun i hi=>(World.putObj_heap_other (by omega)).trans (eB.block i hi)⟩⟩
end Go.Proofs.YtlnlbdfokmhelaaGreatDoor
namespace Go.Proofs.YtlnlbdfokmhelaaGreatDoor
open Go.RowKit Go.Shelf
attribute [local go_sem] Oper.semAt_some
def bhe (W:World) (v:Value) (b:List UInt8):Prop := ∃ ao n c',v=.slice ao n c'∧n=b.length∧(ao=none→n=0∧c' = 0) ∧
 ∀ ad,ao=some ad→ad.block < W.heap.size∧∀ (j:Nat) (u:Value),(avf b)[j]? = some u→W.cell? (ad.add j)=some u
theorem bhe.below {W W':World} {v:Value} {b:List UInt8} (h:bhe W v b) (hB:Below W.heap.size W W'):bhe W' v b:=by
 obtain ⟨ao,n,c',q1,q2,q3,q4⟩:=h
 refine ⟨ao,n,c',q1,q2,q3,fun ad had=>?_⟩
 obtain ⟨r1,r2⟩:=q4 ad had
 refine ⟨Nat.lt_of_lt_of_le r1 hB.size,fun j u hu=>?_⟩
 have hadd:(ad.add j).block=ad.block:=by unfold Addr.add;split<;>rfl
 exact (hB.cell (p:=ad.add j) (by rw [hadd];exact r1)).trans (r2 j u hu)
theorem bw6 {W:World} {g:Nat} {T:TypeId} {fr:Nat×Nat} {cs:Array Value} {ls:List (List UInt8)} {c:Nat} (hrow:obj W g=some (.cells cs T fr)) (h:∀ k (hk:k < ls.length),∃ v,cs[k]? = some v∧bhe W v ls[k]) :
  PartsAt W (.slice (some ⟨g,0,none⟩) ls.length c) ls:=by
 refine ⟨g,0,c,rfl,ah1 hrow,fun k hk=>?_⟩
 obtain ⟨v,h1,ao,n,c',rfl,h2,h3,h4⟩:=h k hk
 exact ⟨ao,n,c',by rw [Nat.zero_add];exact (abm hrow k).trans h1,h2,h3,h4⟩
theorem bj4 {W:World} {g c:Nat} {T:TypeId} {fr:Nat×Nat} {l:List UInt8} {n:Nat} (hn:n=l.length) (hrow:obj W g=some (.cells (as3 l) T fr)):bhe W (.slice (some ⟨g,0,none⟩) n c) l :=
 ⟨some ⟨g,0,none⟩,n,c,rfl,hn,(fun h=>by cases h),(fun ad had=>by cases had;exact ⟨ah1 hrow,bk9 hrow⟩)⟩
theorem bqi {W:World} {g:Nat} {T:TypeId} {fr:Nat×Nat} {s t:Value} {a b:List UInt8} {c:Nat} (hrow:obj W g=some (.cells #[s,t] T fr)) (h1:bhe W s a) (h2:bhe W t b):PartsAt W (.slice (some ⟨g,0,none⟩) 2 c) [a,b] :=
 bw6 (ls:=[a,b]) hrow fun k hk=>by
  match k,hk with
  | 0,_=>exact ⟨s,rfl,h1⟩
  | 1,_=>exact ⟨t,rfl,h2⟩
def bbt (key:List UInt8):List UInt8:=key++List.replicate 32 0
def bvl (m:UInt8) (key:List UInt8) (k:Nat):List UInt8:=((bbt key).take k).map (· ^^^ m)++(bbt key).drop k
def bun (key b:List UInt8):List UInt8:=b9o ((bbt key).map (· ^^^ 0x5c)++b9o ((bbt key).map (· ^^^ 0x36)++b))
theorem b9n (key:List UInt8) (h:key.length=32):(bbt key).length=64:=by simp [bbt,h]
theorem bjf (m:UInt8) (key:List UInt8) (k:Nat) (h:key.length=32) (hk:k≤64):(bvl m key k).length=64:=by simp [bvl,b9n key h];omega
theorem bpi (m:UInt8) (key:List UInt8):bvl m key 0=bbt key:=by simp [bvl]
theorem bpj (m:UInt8) (key:List UInt8) (h:key.length=32):bvl m key 64=(bbt key).map (· ^^^ m):=by
 have h1:=b9n key h
 simp [bvl,List.take_of_length_le (Nat.le_of_eq h1),List.drop_of_length_le (Nat.le_of_eq h1)]
theorem bvk (m:UInt8) (key:List UInt8) (k:Nat) (h:key.length=32) (hk:k < 64):(bvl m key k).getD k 0=(bbt key).getD k 0:=by
 have h1:=b9n key h
 unfold bvl
 rw [List.getD_eq_getElem?_getD,List.getD_eq_getElem?_getD,List.getElem?_append_right (by simp;omega),List.getElem?_drop]
 simp [h1,show min k 64=k by omega]
theorem bvj (m:UInt8) (key:List UInt8) (k:Nat) (h:key.length=32) (hk:k < 64):(bvl m key k).set k ((bbt key).getD k 0 ^^^ m)=bvl m key (k+1):=by
 have h1:=b9n key h
 have hk':k < (bbt key).length:=by omega
 have h3:(bbt key).getD k 0=(bbt key)[k]:=by rw [List.getD_eq_getElem?_getD,List.getElem?_eq_getElem hk'];rfl
 unfold bvl
 rw [h3,List.take_succ_eq_append_getElem hk',List.drop_eq_getElem_cons hk',List.set_append_right _ _ (by simp;omega),List.map_append,List.append_assoc]
 simp only [List.length_map,List.length_take,h1,show min k 64=k by omega,Nat.sub_self,List.set_cons_zero,List.map_cons,List.map_nil,List.cons_append,List.nil_append]
theorem bNr (x m:UInt8):bits BinOp.xor .u8 ((x.toNat:Nat):Int) ((m.toNat:Nat):Int)=(((x ^^^ m).toNat:Nat):Int):=by
 rw [bva _ _ x.toNat_lt m.toNat_lt];simp
theorem bui (key:List UInt8) (h:key.length=32):(bhy.toList.take 0++(avf key++bhy.toList.drop (0+(avf key).length))).toArray=as3 (bbt key):=by
 have e:bhy.toList=List.replicate 32 (B8 0)++List.replicate 32 (B8 0):=by simp [bhy,List.replicate_succ]
 unfold bbt
 rw [e,aSr,h,List.take_zero,List.nil_append,Nat.zero_add,List.drop_left' (by simp)]
 unfold as3 avf
 simp
attribute [irreducible] bbt bvl
set_option maxHeartbeats 2000000 in
set_option maxRecDepth 100000 in
theorem bki (key b:List UInt8) (v:Value) (hk:key.length=32) (hb:b.length≤1000000000) (w:World) (hv:bhe w v b) (hT:Tab w) :
  Calls Tryz.prog 180 #[.agg (as3 key),v] w fun e w'=>e=.returned (.agg (as3 (bun key b)))∧Below w.heap.size w w':=by
 have r1:(as3 key).size=32:=by rw [ave,hk]
 have r2:(as3 key).extract 0 32=as3 key:=b90 _ _ hk
 have r3:ones (as3 key)=true:=aZ1 _
 go_enter Tryz.func180,Tryz.ntmps180
 repeat' (first | go_skip | go_guarded | go_step | go_upon)
 have c2:obj ((((w.alloc (.cells (as3 key) 46 (0,0))).alloc (.cells z46 46 (0,0))).alloc (.cells bhy 265 (0,0))).alloc (.cells bhy 265 (0,0))) w.heap.size=some (.cells (as3 key) 46 (0,0)):=ab6 (ab6 (ab6 (aff _ _ _ rfl) _) _) _
 have c4:obj ((((w.alloc (.cells (as3 key) 46 (0,0))).alloc (.cells z46 46 (0,0))).alloc (.cells bhy 265 (0,0))).alloc (.cells bhy 265 (0,0))) (w.heap.size+1)=some (.cells z46 46 (0,0)):=ab6 (ab6 (aff _ _ _ (by simp)) _) _
 have c5:obj ((((w.alloc (.cells (as3 key) 46 (0,0))).alloc (.cells z46 46 (0,0))).alloc (.cells bhy 265 (0,0))).alloc (.cells bhy 265 (0,0))) (w.heap.size+1+1)=some (.cells bhy 265 (0,0)):=ab6 (aff _ _ _ (by simp)) _
 have c6:obj ((((w.alloc (.cells (as3 key) 46 (0,0))).alloc (.cells z46 46 (0,0))).alloc (.cells bhy 265 (0,0))).alloc (.cells bhy 265 (0,0))) (w.heap.size+1+1+1)=some (.cells bhy 265 (0,0)):=aff _ _ _ (by simp)
 have cB:Below w.heap.size w ((((w.alloc (.cells (as3 key) 46 (0,0))).alloc (.cells z46 46 (0,0))).alloc (.cells bhy 265 (0,0))).alloc (.cells bhy 265 (0,0))):=((((Below.refl _ _).alloc (Nat.le_refl _) _).alloc (by simp) _).alloc (by simp;omega) _).alloc (by simp;omega) _
 generalize ((((w.alloc (.cells (as3 key) 46 (0,0))).alloc (.cells z46 46 (0,0))).alloc (.cells bhy 265 (0,0))).alloc (.cells bhy 265 (0,0)))=w1 at *
 go_still_tail 2,(by kernel_rfl)
 change wpList _ _ _ _ _ w1.drew
 refine wpList_copy_own (by rfl) _ _ _ _ (by rfl) 5 Tryz.underlying76 (by kernel_rfl) (w.heap.size+1+1) 0 _ _ ⟨w.heap.size,0,none⟩ _ _ (by rfl) (by rfl) bhy 265 c5 (avf key) ?_ ?_ ?_ (bd6 _) ?_
 ·rw [aSr,hk];rfl
 ·exact bk9 (b:=w.heap.size) (b9d c2)
 ·rw [aSr,hk,bNn];decide
 rw [bui key hk]
 have d4:=b8u (b9d c4) (show w.heap.size+1≠w.heap.size+1+1 by omega) (as3 (bbt key))
 have d6:=b8u (b9d c6) (show w.heap.size+1+1+1≠w.heap.size+1+1 by omega) (as3 (bbt key))
 have d5:obj (w1.drew.setRow (w.heap.size+1+1) (as3 (bbt key))) (w.heap.size+1+1)=some (.cells (as3 (bbt key)) 265 (0,0)):=by rw [ajb,b9d c5];rfl
 have dB:Below w.heap.size w (w1.drew.setRow (w.heap.size+1+1) (as3 (bbt key))):=below_setRow cB.drew (by omega) _
 clear c2 c4 c5 c6 cB
 generalize w1.drew.setRow (w.heap.size+1+1) (as3 (bbt key))=w2 at *
 have s1:(as3 (bbt key)).size=64:=by rw [ave,b9n key hk]
 have s2:(as3 (bbt key)).extract 0 64=as3 (bbt key):=b90 _ _ (b9n key hk)
 have s3:ones (as3 (bbt key))=true:=aZ1 _
 repeat' (first | go_skip | go_guarded | go_step | go_upon)
 have e4:=b8u d4 (show w.heap.size+1≠w.heap.size+1+1+1 by omega) (as3 (bbt key))
 have e5:=b8u d5 (show w.heap.size+1+1≠w.heap.size+1+1+1 by omega) (as3 (bbt key))
 have e6:obj (w2.setRow (w.heap.size+1+1+1) (as3 (bbt key))) (w.heap.size+1+1+1)=some (.cells (as3 (bbt key)) 265 (0,0)):=by rw [ajb,d6];rfl
 have eB:Below w.heap.size w (w2.setRow (w.heap.size+1+1+1) (as3 (bbt key))):=below_setRow dB (by omega) _
 clear d4 d5 d6 dB s1 s2 s3
 generalize w2.setRow (w.heap.size+1+1+1) (as3 (bbt key))=w3 at *
 go_loopw [13] (fun i wr => ∃ k:Nat,k≤64∧i=.int .i64 k∧obj wr (w.heap.size+1+1)=some (.cells (as3 (bvl 0x36 key k)) 265 (0,0))∧obj wr (w.heap.size+1+1+1)=some (.cells (as3 (bvl 0x5c key k)) 265 (0,0))∧obj wr (w.heap.size+1)=some (.cells z46 46 (0,0))∧Below w.heap.size w wr)
  (fun i _=>(64 - intOf i).toNat)
 case atStart=>exact ⟨0,by omega,rfl,by rw [bpi];exact e5,by rw [bpi];exact e6,e4,eB⟩
 case round =>
  clear e4 e5 e6 eB
  obtain ⟨k,c5y,rfl,h5,h6,h4,hB⟩:=hrel
  by_cases hlt:k < 64
  ·have c5:wr.cell? ⟨w.heap.size+1+1,k,none⟩=some (B8 ((bbt key).getD k 0).toNat):=(abm h5 k).trans (by rw [bas _ _ (by rw [bjf _ _ _ hk c5y];exact hlt),bvk _ _ _ hk hlt])
   have c6:wr.cell? ⟨w.heap.size+1+1+1,k,none⟩=some (B8 ((bbt key).getD k 0).toNat):=(abm h6 k).trans (by rw [bas _ _ (by rw [bjf _ _ _ hk c5y];exact hlt),bvk _ _ _ hk hlt])
   have f5:=azi h5 k
   have f6:=azi h6 k
   have HX:=Lib.hid (show bits BinOp.xor .u8 ((((bbt key).getD k 0).toNat:Nat):Int) 54=((((bbt key).getD k 0) ^^^ 54).toNat:Nat) from bNr ((bbt key).getD k 0) 54)
   have HY:=Lib.hid (show bits BinOp.xor .u8 ((((bbt key).getD k 0).toNat:Nat):Int) 92=((((bbt key).getD k 0) ^^^ 92).toNat:Nat) from bNr ((bbt key).getD k 0) 92)
   have HS:=Lib.hid (bvj 0x36 key k hk hlt)
   have HT:=Lib.hid (bvj 0x5c key k hk hlt)
   generalize (bbt key).getD k 0=x at *
   repeat' (first | go_skip | go_guarded | go_step | go_upon)
   refine ⟨⟨k+1,by omega,by go_num,?_,?_,?_,?_⟩,by simp [intOf];omega⟩
   ·refine aRa ?_ _ (by simp) _
    rw [avb,h5,← HS.out,← bfb,HX.out];rfl
   ·have:=aRa h6 ⟨w.heap.size+1+1,k,none⟩ (by simp) (Value.int IntKind.u8 (bits BinOp.xor IntKind.u8 (x.toNat:Int) 54))
    rw [avb,this,← HT.out,← bfb,HY.out];rfl
   ·exact aRa (aRa h4 _ (by simp) _) _ (by simp) _
   ·exact (hB.setCell (by simp;omega) _).setCell (by simp;omega) _
  ·obtain ⟨ip,hip⟩ : ∃ ip,ip=(bbt key).map (· ^^^ 0x36):=⟨_,rfl⟩
   obtain ⟨op,hop⟩ : ∃ op,op=(bbt key).map (· ^^^ 0x5c):=⟨_,rfl⟩
   have h5':obj wr (w.heap.size+1+1)=some (.cells (as3 ip) 265 (0,0)):=by rw [h5,show k=64 by omega,bpj _ _ hk,hip]
   have h6':obj wr (w.heap.size+1+1+1)=some (.cells (as3 op) 265 (0,0)):=by rw [h6,show k=64 by omega,bpj _ _ hk,hop]
   have li:ip.length=64:=by rw [hip,List.length_map,b9n key hk]
   have lo:op.length=64:=by rw [hop,List.length_map,b9n key hk]
   have HE:=Lib.hid (show bun key b=b9o (op++b9o (ip++b)) by unfold bun;rw [hip,hop])
   clear h5 h6 hip hop r1 r2 r3
   have hv':bhe wr v b:=hv.below hB
   have hT':Tab wr:=hT.below hB (by obtain ⟨cs,T,fr,q,_⟩:=hT;exact ah1 q)
   clear hv hT
   have hm:∀ o:Obj,Below wr.heap.size wr (wr.alloc o):=fun o=>(Below.refl _ _).alloc (Nat.le_refl _) o
   have hT1:∀ o:Obj,Tab (wr.alloc o):=fun o=>hT'.below (hm o) (by obtain ⟨cs,T,fr,q,_⟩:=hT';exact Nat.lt_of_le_of_lt (Nat.zero_le _) (ah1 q))
   obtain ⟨ao,n,c',rfl,rfl,hn,hbytes⟩:=hv'
   have hvb:bhe wr (.slice ao b.length c') b:=⟨ao,_,c',rfl,rfl,hn,hbytes⟩
   have hP:∀ T,PartsAt (wr.alloc (.cells #[Value.slice (some ⟨w.heap.size+1+1,0,none⟩) 64 64,Value.slice ao b.length c'] T (0,0))) (.slice (some ⟨wr.heap.size,0,none⟩) 2 2) [ip,b]:=fun T =>
    bqi (aff _ _ _ rfl) (bj4 li.symm (ab6 h5' _)) (hvb.below (hm _))
   have hsz:[ip,b].flatten.length≤1099511627776:=by simp;omega
   have HP:=Lib.hid hP
   clear hP hvb hn hbytes
   repeat' (first | (go_at_call 173;((with_reducible refine (bd3 _ [ip,b] hsz (by simp) _ (HP.out _) (hT1 _)).mono ?_));rintro r w4 ⟨rfl,hb4⟩;dsimp only) | go_skip | go_guarded | go_step | go_upon)
   have hl2:=aBi (ip++b)
   have hz4:=hb4.size
   have hm4:Below wr.heap.size wr w4:=(hm _).trans (hb4.mono (by simp))
   clear HP hT1 hb4
   have g6:obj (w4.alloc (.cells (as3 (b9o (ip++b))) 46 (0,0))) (w.heap.size+1+1+1)=some (.cells (as3 op) 265 (0,0)):=ab6 (aa1 h6' hm4 (ah1 h6')) _
   have g4:obj (w4.alloc (.cells (as3 (b9o (ip++b))) 46 (0,0))) (w.heap.size+1)=some (.cells z46 46 (0,0)):=ab6 (aa1 h4 hm4 (ah1 h4)) _
   have g8:obj (w4.alloc (.cells (as3 (b9o (ip++b))) 46 (0,0))) w4.heap.size=some (.cells (as3 (b9o (ip++b))) 46 (0,0)):=aff _ _ _ rfl
   have gB:Below w.heap.size w (w4.alloc (.cells (as3 (b9o (ip++b))) 46 (0,0))):=(hB.trans (hm4.mono hB.size)).alloc (by have:=hB.size;have:=hm4.size;omega) _
   have gT:Tab (w4.alloc (.cells (as3 (b9o (ip++b))) 46 (0,0))):=hT'.below (hm4.alloc hm4.size _) (Nat.lt_of_le_of_lt (Nat.zero_le _) (ah1 h4))
   generalize w4.heap.size=M at *
   generalize w4.alloc (.cells (as3 (b9o (ip++b))) 46 (0,0))=w5 at *
   have hsz2:[op,b9o (ip++b)].flatten.length≤1099511627776:=by simp;omega
   generalize hS:b9o (ip++b)=S at *
   have HS:=Lib.hid hS
   clear hS h5' h6' h4 hT' hm hm4 hsz hz4 hlt c5y
   have hm:∀ o:Obj,Below w5.heap.size w5 (w5.alloc o):=fun o=>(Below.refl _ _).alloc (Nat.le_refl _) o
   have hP:∀ T,PartsAt (w5.alloc (.cells #[Value.slice (some ⟨w.heap.size+1+1+1,0,none⟩) 64 64,Value.slice (some ⟨M,0,none⟩) 32 32] T (0,0))).drew (.slice (some ⟨w5.heap.size,0,none⟩) 2 2) [op,S]:=fun T =>
    bqi (b9d (aff _ _ _ rfl)) (bj4 lo.symm (b9d (ab6 g6 _))) (bj4 hl2.symm (b9d (ab6 g8 _)))
   have hT1:∀ o:Obj,Tab (w5.alloc o).drew:=fun o=>gT.below (B:=w5.heap.size) (((Below.refl _ _).alloc (Nat.le_refl _) o).drew) (Nat.lt_of_le_of_lt (Nat.zero_le _) (ah1 g4))
   have HP:=Lib.hid hP
   clear hP
   have hl3:=aBi (op++S)
   go_region_law (first | ((go_simp;go_at_call 173;((with_reducible refine (bd3 _ [op,S] hsz2 (by simp) _ (HP.out _) (hT1 _)).mono ?_));rintro e w6 ⟨rfl,hb6⟩;have q4:obj w6 (w.heap.size+1)=some (.cells z46 46 (0,0)):=aa1 (b9d (ab6 g4 _)) hb6 (by have:=ah1 g4;simp;omega);have qB:Below w.heap.size w w6:=(gB.trans (((Below.refl _ _).alloc (Nat.le_refl _) _).drew.mono gB.size)).trans (hb6.mono (by have:=gB.size;simp;omega));dsimp only)))
   have z4:obj (w6.setRow (w.heap.size+1) (as3 (b9o (op++S)))) (w.heap.size+1)=some (.cells (as3 (b9o (op++S))) 46 (0,0)):=by rw [ajb,q4];rfl
   have zB:Below w.heap.size w (w6.setRow (w.heap.size+1) (as3 (b9o (op++S)))):=below_setRow qB (by omega) _
   have hz:(as3 (b9o (op++S))).size=32:=by rw [ave,hl3]
   generalize w6.setRow (w.heap.size+1) (as3 (b9o (op++S)))=w7 at *
   generalize hR:as3 (b9o (op++S))=R at *
   have HR:Hid (as3 (bun key b)=R):=by rw [Lib.hid HE.out |>.out];exact Lib.hid hR
   clear hR q4 qB hb6 HP hT1 hm HS g8 g4 g6 gB gT hB HE hl3
   repeat' go_step
   refine bodyPost_ret (results_cell_row rfl _ _ (w.heap.size+1) 46 R _ _ rfl z4 Tryz.underlying46 rfl (by rw [hz];kernel_rfl)) rfl ?_
   exact ⟨by rw [← HR.out],zB⟩
end Go.Proofs.YtlnlbdfokmhelaaGreatDoor
namespace Go.Proofs.YtlnlbdfokmhelaaGreatDoor
open Go.RowKit
namespace Sha
theorem by5 {f g:Nat→Nat} (h:∀ j,j < 64→f j=g j) (i:Nat) (hi:i < 16):word f i=word g i:=by
 unfold word
 rw [h (4 * i) (by omega),h (4 * i+1) (by omega),h (4 * i+2) (by omega),h (4 * i+3) (by omega)]
theorem bpy {f g:Nat→Nat} (h:∀ j,j < 64→f j=g j):∀ k,sch f k=sch g k
 | 0=>rfl
 | k+1=>by
  unfold sch
  rw [bpy h k]
  by_cases hk:k < 16
  ·rw [if_pos hk,if_pos hk,by5 h k hk]
  ·rw [if_neg hk,if_neg hk]
theorem bzq (s:St) {f g:Nat→Nat} (h:∀ j,j < 64→f j=g j):comp s f=comp s g:=by
 have e:∀ f,comp s f=s.add (bhc (sch f 64) s 64):=fun f=>by delta comp;exact Eq.refl _
 rw [e,e,bpy h]
noncomputable def cs {α:Type} (l:List Nat) (k:Nat→List Nat→α):α:=List.rec (motive:=fun _=>(Nat→List Nat→α)→α) (fun k=>k 0 []) (fun x t _ k=>k x t) l k
theorem bN7 {α:Type} (l:List Nat) (k:Nat→List Nat→α):cs l k=k (l.getD 0 0) (l.drop 1):=by cases l<;>rfl
noncomputable def c71 {α:Type} (κ:List Nat→List Nat→α) (n:Nat):List Nat→List Nat→α:=Nat.rec (motive:=fun _=>List Nat→List Nat→α) (fun r l=>κ r l) (fun _ ih r l=>cs l fun a l=>cs l fun b l=>cs l fun c l=>cs l fun d l=>force (fun x=>ih (x :: r) l) (16777216 * a+65536 * b+256 * c+d)) n
theorem getD_drop (p:List Nat) (i j:Nat):(p.drop i).getD j 0=p.getD (i+j) 0:=by
 rw [List.getD_eq_getElem?_getD,List.getD_eq_getElem?_getD,List.getElem?_drop]
theorem bAn {α:Type} (κ:List Nat→List Nat→α) (p:List Nat):∀ (n j:Nat),j+n≤16→c71 κ n (sch (fun i=>p.getD i 0) j).reverse (p.drop (4 * j))=κ (sch (fun i=>p.getD i 0) (j+n)).reverse (p.drop (4 * (j+n)))
 | 0,j,_=>rfl
 | n+1,j,h=>by
  show cs (p.drop (4 * j)) (fun a l=>cs l fun b l=>cs l fun c l=>cs l fun d l=>force (fun x=>c71 κ n (x :: (sch (fun i=>p.getD i 0) j).reverse) l) (16777216 * a+65536 * b+256 * c+d))=_
  rw [bN7,bN7,bN7,bN7,force_eq]
  simp only [List.drop_drop,getD_drop,Nat.add_zero]
  have e:(16777216 * p.getD (4 * j) 0+65536 * p.getD (4 * j+1) 0+256 * p.getD (4 * j+1+1) 0+p.getD (4 * j+1+1+1) 0) :: (sch (fun i=>p.getD i 0) j).reverse=(sch (fun i=>p.getD i 0) (j+1)).reverse:=by
   show _=(sch (fun i=>p.getD i 0) j ++ [if j < 16 then word (fun i=>p.getD i 0) j else next (sch (fun i=>p.getD i 0) j)]).reverse
   rw [if_pos (by omega)]
   simp [word]
  have e2:4 * j+1+1+1+1=4 * (j+1):=by omega
  rw [e,e2,bAn κ p n (j+1) (by omega),show j+1+n=j+(n+1) by omega]
noncomputable def bN9 {α:Type} (s:St) (p:List Nat) (κ:List Nat→K8 α):α:=c71 (fun r l=>goR (fun r=>s.to (rds (bW1 s (κ l)) K (rev r []))) 48 r) 16 [] p
theorem bN8 {α:Type} (s:St) (p:List Nat) (κ:List Nat→K8 α):bN9 s p κ=(comp s fun i=>p.getD i 0).to (κ (p.drop 64)):=by
 unfold bN9
 have h:=bAn (fun r l=>goR (fun r=>s.to (rds (bW1 s (κ l)) K (rev r []))) 48 r) p 16 0 (by omega)
 rw [show (sch (fun i=>p.getD i 0) 0).reverse = [] from rfl,Nat.mul_zero,List.drop_zero] at h
 rw [h,bRq _ (fun i=>p.getD i 0) 48 (0+16) (by omega)]
 have h2:comp s (fun i=>p.getD i 0)=s.add (bhc (sch (fun i=>p.getD i 0) 64) s 64):=by delta comp;exact Eq.refl _
 exact (bTk s (κ (p.drop 64)) (sch (fun i=>p.getD i 0) 64) (bah _ 64)).trans (congrArg (fun t=>t.to (κ (p.drop 64))) h2.symm)
noncomputable def bMr {α:Type} (κ:St→α) (n:Nat):List Nat→St→α:=Nat.rec (motive:=fun _=>List Nat→St→α) (fun _ s=>κ s) (fun _ ih p s=>bN9 s p fun l a b c d e f g h=>ih l ⟨a,b,c,d,e,f,g,h⟩) n
noncomputable def frc {α:Type} (κ:List Nat→α) (l:List Nat):List Nat→α:=List.rec (motive:=fun _=>List Nat→α) (fun acc=>κ acc) (fun x _ ih acc=>force (fun y=>ih (y :: acc)) x) l
theorem brf {α:Type} (κ:List Nat→α):∀ l acc,frc κ l acc=κ (l.reverse++acc)
 | [],acc=>rfl
 | x :: l,acc=>by
  show force (fun y=>frc κ l (y :: acc)) x=_
  rw [force_eq,brf κ l];simp
def c8d (s:St):List Nat:=[s.h % 256,s.h >>> 8 % 256,s.h >>> 16 % 256,s.h >>> 24 % 256,s.g % 256,s.g >>> 8 % 256,s.g >>> 16 % 256,s.g >>> 24 % 256,s.f % 256,s.f >>> 8 % 256,s.f >>> 16 % 256,s.f >>> 24 % 256,s.e % 256,s.e >>> 8 % 256,s.e >>> 16 % 256,s.e >>> 24 % 256,
 s.d % 256,s.d >>> 8 % 256,s.d >>> 16 % 256,s.d >>> 24 % 256,s.c % 256,s.c >>> 8 % 256,s.c >>> 16 % 256,s.c >>> 24 % 256,s.b % 256,s.b >>> 8 % 256,s.b >>> 16 % 256,s.b >>> 24 % 256,s.a % 256,s.a >>> 8 % 256,s.a >>> 16 % 256,s.a >>> 24 % 256]
def bYu:St:=⟨1779033703,3144134277,1013904242,2773480762,1359893119,2600822924,528734635,1541459225⟩
def bXe (n:Nat):Nat:=(119 - n % 64) % 64
noncomputable def bE7 (l:List Nat):Nat:=List.rec (motive:=fun _=>Nat) 0 (fun _ _ ih=>Nat.succ ih) l
noncomputable def bNg (l r:List Nat):List Nat:=List.rec (motive:=fun _=>List Nat) r (fun x _ ih=>x :: ih) l
theorem bkh:∀ l:List Nat,bE7 l=l.length
 | []=>rfl
 | x :: l=>by show Nat.succ (bE7 l)=_;rw [bkh l];rfl
theorem blb:∀ l r:List Nat,bNg l r=l++r
 | [],r=>rfl
 | x :: l,r=>by show x :: bNg l r=_;rw [blb l r];rfl
def zer (n:Nat):List Nat→List Nat:=Nat.rec (motive:=fun _=>List Nat→List Nat) (fun l=>l) (fun _ ih l=>0 :: ih l) n
theorem bNo:∀ n l,zer n l=List.replicate n 0++l
 | 0,l=>rfl
 | n+1,l=>by show 0 :: zer n l=_;rw [bNo n l,List.replicate_succ];rfl
noncomputable def bT5 {α:Type} (m:List Nat) (κ:List Nat→α):α :=
 force (fun n=>force (fun b=>bMr (fun s=>frc κ (c8d s) []) b (bNg m (128 :: zer (bXe n) [(8 * n) >>> 56 % 256,(8 * n) >>> 48 % 256,(8 * n) >>> 40 % 256,(8 * n) >>> 32 % 256,(8 * n) >>> 24 % 256,(8 * n) >>> 16 % 256,(8 * n) >>> 8 % 256,(8 * n) % 256])) bYu) ((n+1+bXe n+8) / 64)) (bE7 m)
end Sha
def as5 (m:List UInt8):List Nat:=m.map (·.toNat)
theorem bco (x:Nat):(UInt8.ofNat x).toNat=x % 256:=by simp
theorem bzh (s:Sha.St):as5 (bil s)=(Sha.c8d s).reverse:=by
 have h:∀ i:Nat,(UInt8.ofNat (s.get (i / 4) >>> (24 - 8 * (i % 4)))).toNat=s.get (i / 4) >>> (24 - 8 * (i % 4)) % 256:=fun i=>bco _
 unfold as5 bil
 rw [List.map_map]
 simp only [Function.comp_def,h]
 rfl
theorem bCx (n:Nat):Sha.bXe n=be0 n:=by unfold Sha.bXe be0;rfl
theorem bCw (m:List UInt8):as5 (bfo m)=Sha.bNg (as5 m) (128 :: Sha.zer (Sha.bXe m.length) [(8 * m.length) >>> 56 % 256,(8 * m.length) >>> 48 % 256,(8 * m.length) >>> 40 % 256,(8 * m.length) >>> 32 % 256,(8 * m.length) >>> 24 % 256,(8 * m.length) >>> 16 % 256,(8 * m.length) >>> 8 % 256,(8 * m.length) % 256]):=by
 rw [Sha.blb,Sha.bNo,bCx]
 have hb:(be8 (8 * m.length)).map (·.toNat) = [(8 * m.length) >>> 56 % 256,(8 * m.length) >>> 48 % 256,(8 * m.length) >>> 40 % 256,(8 * m.length) >>> 32 % 256,(8 * m.length) >>> 24 % 256,(8 * m.length) >>> 16 % 256,(8 * m.length) >>> 8 % 256,(8 * m.length) % 256]:=by
  unfold be8
  rw [List.map_map]
  simp only [Function.comp_def,bco]
  rfl
 unfold as5 bfo
 rw [List.map_append,List.map_append,List.map_append,hb,List.map_replicate]
 simp only [List.append_assoc,List.map_cons,List.map_nil,List.cons_append,List.nil_append]
 rfl
theorem bF3 (p:List UInt8) (i:Nat):(as5 p).getD i 0=(p.getD i 0).toNat:=by
 unfold as5
 rw [List.getD_eq_getElem?_getD,List.getD_eq_getElem?_getD,List.getElem?_map]
 cases p[i]?<;>rfl
theorem bxh {α:Type} (p:List UInt8) (κ:Sha.St→α):∀ n q,Sha.bMr κ n ((as5 p).drop (64 * q)) (bll blj (bbl p q))=κ (bll blj (bbl p (q+n)))
 | 0,q=>rfl
 | n+1,q=>by
  show Sha.bN9 (bll blj (bbl p q)) ((as5 p).drop (64 * q)) (fun l a b c d e f g h=>Sha.bMr κ n l ⟨a,b,c,d,e,f,g,h⟩)=_
  rw [Sha.bN8]
  have hc:Sha.comp (bll blj (bbl p q)) (fun j=>((as5 p).drop (64 * q)).getD j 0)=bll blj (bbl p (q+1)):=by
   rw [← bfa,bjt]
   exact Sha.bzq _ fun j hj=>by rw [Sha.getD_drop,bF3,bp4 p q j hj]
  rw [hc,List.drop_drop,show 64 * q+64=64 * (q+1) by omega]
  show Sha.bMr κ n ((as5 p).drop (64 * (q+1))) (bll blj (bbl p (q+1)))=_
  rw [bxh p κ n (q+1),show q+1+n=q+(n+1) by omega]
theorem bhh {α:Type} (m:List UInt8) (κ:List Nat→α):Sha.bT5 (as5 m) κ=κ (as5 (b9o m)):=by
 unfold Sha.bT5
 rw [Sha.force_eq,Sha.force_eq,Sha.bkh]
 have hl:(as5 m).length=m.length:=by unfold as5;rw [List.length_map]
 rw [hl,← bCw]
 have h0:Sha.bYu=bll blj (bbl (bfo m) 0):=by unfold bll bbl;rfl
 have h1:=bxh (bfo m) (fun s=>Sha.frc κ (Sha.c8d s) []) ((m.length+1+Sha.bXe m.length+8) / 64) 0
 rw [Nat.mul_zero,List.drop_zero,Nat.zero_add] at h1
 rw [h0,h1,Sha.brf,List.append_nil]
 unfold b9o
 rw [bzh]
 unfold bBy
 rw [bdg,bCx]
noncomputable def bX0 (k:Nat) (l:List Nat):List Nat:=List.rec (motive:=fun _=>List Nat) [] (fun x _ ih=>(x ^^^ k) :: ih) l
theorem bt5 (k:UInt8):∀ l:List UInt8,bX0 k.toNat (as5 l)=as5 (l.map (· ^^^ k))
 | []=>rfl
 | x :: l=>by
  show (x.toNat ^^^ k.toNat) :: bX0 k.toNat (as5 l)=_
  rw [bt5 k l]
  unfold as5
  simp
def z32:List Nat:=[0,0,0,0,0,0,0,0,0,0,0,0,0,0,0,0,0,0,0,0,0,0,0,0,0,0,0,0,0,0,0,0]
noncomputable def c94 {α:Type} (key m:List Nat) (κ:List Nat→α):α :=
 Sha.frc (fun p=>Sha.bT5 (Sha.bNg p m) fun d=>Sha.frc (fun q=>Sha.bT5 (Sha.bNg q d) κ) (Sha.rev (bX0 92 (Sha.bNg key z32)) []) []) (Sha.rev (bX0 54 (Sha.bNg key z32)) []) []
theorem b9r (a b:List UInt8):as5 (a++b)=as5 a++as5 b:=by unfold as5;rw [List.map_append]
theorem bVb {α:Type} (key m:List UInt8) (κ:List Nat→α):c94 (as5 key) (as5 m) κ=κ (as5 (bun key m)):=by
 unfold c94
 have hz:Sha.bNg (as5 key) z32=as5 (bbt key):=by
  rw [Sha.blb];unfold bbt;rw [b9r];rfl
 have h1:bX0 54 (as5 (bbt key))=as5 ((bbt key).map (· ^^^ 0x36)):=bt5 0x36 _
 have h2:bX0 92 (as5 (bbt key))=as5 ((bbt key).map (· ^^^ 0x5c)):=bt5 0x5c _
 rw [hz,h1,h2,Sha.brf,Sha.rev_eq,List.append_nil,List.append_nil,List.reverse_reverse,Sha.blb,← b9r,bhh,Sha.brf,Sha.rev_eq,List.append_nil,List.append_nil,List.reverse_reverse,Sha.blb,← b9r,bhh]
 rfl
noncomputable def shaV (m:List Nat):List Nat:=Sha.bT5 m fun l=>l
noncomputable def keyV (k m:List Nat):List Nat:=c94 k m fun l=>l
theorem bT4 (m:List UInt8):shaV (as5 m)=as5 (b9o m):=bhh m _
theorem bVa (k m:List UInt8):keyV (as5 k) (as5 m)=as5 (bun k m):=bVb k m _
noncomputable def bpg {α:Type} (l:List Nat) (κ:List Nat→α):α:=Sha.frc κ (Sha.rev l []) []
theorem bcv {α:Type} (l:List Nat) (κ:List Nat→α):bpg l κ=κ l:=by
 unfold bpg
 rw [Sha.brf,Sha.rev_eq,List.append_nil,List.append_nil,List.reverse_reverse]
end Go.Proofs.YtlnlbdfokmhelaaGreatDoor
namespace Go.CE
namespace V
open Go.Proofs Go.Proofs.YtlnlbdfokmhelaaGreatDoor Go.RowKit
def bao (c:UInt8):AV:=.i .u8 (.ofNat c.toNat)
section
variable [Sym]
def c4b (F:List UInt8→List UInt8→List UInt8) (tab:List AV→List AV→Option (List AV)):Prop:=∀ ks b rs,tab ks b=some rs →
 ∃ key msg:List UInt8,key.length=32∧msg.length≤1000000000∧ks.map den=key.map bao∧b.map den=msg.map bao∧rs.map den=(F key msg).map bao
end
section
variable [Sym] [avd]
theorem bBp {P:Program} {B:Nat} {σ:Sg} {m:Tr AB} {W:World} {c0 kt:List AV} {T0:Nat} (hg:GS σ) (hs:SR P B σ m W) (k0:m.get 0=some (.cells c0 T0)) (cut0:cut c0 0 64=some kt) (htab:bX3 kt=true):Tab W:=by
 obtain ⟨qc,oc,hc1,hc2,cc,rfl,hc3,_,hc5,hc6⟩:=hs.mr 0 _ k0
 obtain ⟨z,s0,hg0⟩:=hg 0 (by omega)
 rw [show 2 * 0=0 from rfl] at hg0
 rw [hg0] at hc1;cases hc1
 unfold bX3 at htab
 cases hwk:bX1 kt with
 | none=>rw [hwk] at htab;cases htab
 | some r =>
  rw [hwk] at htab
  dsimp only at htab
  rw [bke] at htab
  have hr:r=Sha.K:=by simpa using htab
  subst hr
  obtain ⟨hkt,-⟩:=bAj hwk
  obtain ⟨hd0,hs0⟩:=hc3 rfl
  have hc0:64≤c0.length:=by
   have h1:=bhr cut0 63 (by omega)
   have h2:kt[63]?≠none:=by
    have:=c95 kt hkt
    rw [List.getElem?_eq_getElem (by omega)];simp
   rw [h1,Ne,List.getElem?_eq_none_iff] at h2
   omega
  refine ⟨cc,T0,(0,0),hc2,by omega,?_⟩
  apply Array.ext_getElem?
  intro i
  by_cases hi:i < 64
  ·have h64:c0[i]? = some (bvp (Sha.K.getD i 0)):=by
    have h1:=bhr cut0 i hi
    rw [Nat.zero_add] at h1
    have hKl:Sha.K.length=64:=rfl
    rw [← h1,hkt,List.getElem?_map,List.getElem?_eq_getElem (by omega),List.getD_eq_getElem?_getD,List.getElem?_eq_getElem (by omega)]
    rfl
   have hi2:i < cc.size:=by omega
   have hv:=hc6 i _ _ h64 (by rw [show (0:Nat)+i=i by omega];exact Array.getElem?_eq_getElem hi2)
   rw [bom i hi,Array.getElem?_extract]
   rw [if_pos (by omega),show 0+i=i by omega,Array.getElem?_eq_getElem hi2]
   generalize cc[i]=u at hv
   cases hv
   rfl
  ·have c5y:=c2t
   rw [Array.getElem?_eq_none (by rw [Array.size_extract];omega),Array.getElem?_eq_none (by omega)]
theorem bEf (vals:Array Value) (W:World):(callFunc 180 vals).run Tryz.prog W=.ok (.enter 180 vals) W:=by
 have h1:(Tryz.f180.body.isNone)=false:=by kernel_rfl
 have h2:(Tryz.f180.name == "runtime.NumGoroutine")=false:=by kernel_rfl
 unfold callFunc
 simp only [Sem.run_bind,run_program,Result.andThen_ok,Tryz.func180,h1,h2,Bool.false_eq_true,if_false,Sem.run_pure]
theorem z00 {P:Program} {B:Nat} {σ:Sg} {m:Tr AB} {W W':World} (hs:SR P B σ m W) (hb:Below W.heap.size W W'):SR P B σ m W':=by
 refine ⟨fun j x hj=>?_,hs.inj,hs.ro,Nat.le_trans hs.hB hb.size⟩
 obtain ⟨q0,o,h1,h2,h3⟩:=hs.mr j x hj
 refine ⟨q0,o,h1,?_,h3⟩
 rw [hb.block q0.b (Array.getElem?_eq_some_iff.1 h2).1]
 exact h2
theorem bxu {σ:Sg} {ks:List AV} {c:Array Value} {key:List UInt8} (h:LR σ ks c) (e:ks.map den=key.map bao):c=as3 key:=by
 have hl:ks.length=key.length:=by have:=congrArg List.length e;simpa using this
 apply Array.ext_getElem?
 intro i
 by_cases hi:i < key.length
 ·have hk:ks[i]? = some (ks[i]'(by omega)):=List.getElem?_eq_getElem _
  have hc:c[i]? = some (c[i]'(by have:=h.len;omega)):=Array.getElem?_eq_getElem _
  have hi2:i < c.size:=by have:=h.len;omega
  have hv:=(h.get i _ _ hk hc).bhz
  have he:den (ks[i]'(by omega))=bao key[i]:=by
   have:=congrArg (fun l=>l[i]?) e
   simp only [List.getElem?_map,hk,List.getElem?_eq_getElem hi,Option.map_some] at this
   exact Option.some.inj this
  rw [he] at hv
  rw [hc,bas key i hi,List.getD_eq_getElem?_getD,List.getElem?_eq_getElem hi]
  generalize c[i]=u at hv
  cases hv
  rfl
 ·rw [Array.getElem?_eq_none (by have:=h.len;omega),Array.getElem?_eq_none (by rw [ave];omega)]
theorem row_of {σ:Sg} {rs:List AV} {l:List UInt8} (e:rs.map den=l.map bao):VR σ (.g rs) (.agg (as3 l)):=by
 have hl:rs.length=l.length:=by have:=congrArg List.length e;simpa using this
 refine .g _ _ (by rw [ave];exact hl) fun i x v h1 h2=>?_
 have hi:i < l.length:=by have:=(List.getElem?_eq_some_iff.1 h1).1;omega
 rw [bas l i hi,List.getD_eq_getElem?_getD,List.getElem?_eq_getElem hi] at h2
 have he:den x=bao l[i]:=by
  have:=congrArg (fun l=>l[i]?) e
  simp only [List.getElem?_map,h1,List.getElem?_eq_getElem hi,Option.map_some] at this
  exact Option.some.inj this
 apply VR.bqs
 rw [he,← Option.some.inj h2]
 exact .i _ _
theorem bhp {P:Program} {B:Nat} {σ:Sg} {m:Tr AB} {W:World} {k2 o2 n c:Nat} {v:Value} {c2 b:List AV} {T2:Nat} {msg:List UInt8} (hs:SR P B σ m W) (hv:VR σ (.sl (some (k2,o2)) n c) v) (hk2:m.get k2=some (.cells c2 T2)) (bxo:cut c2 o2 n=some b) (e:b.map den=msg.map bao):bhe W v msg:=by
 cases hv with
 | sl _ _ _ _ c' q2 hσ2 hle hx1 hx2 =>
  obtain ⟨qb,ob,hb1,hb2,cb,rfl,_,_,hb5,hb6⟩:=hs.mr k2 _ hk2
  rw [hσ2] at hb1;cases hb1
  have hbl:b.length=msg.length:=by have:=congrArg List.length e;simpa using this
  have hn:n=msg.length:=by rw [← hbl];exact ((bib bxo).2).symm
  refine ⟨_,n,c',rfl,hn,(fun h=>by cases h),fun ad had=>?_⟩
  cases had
  refine ⟨(Array.getElem?_eq_some_iff.1 hb2).1,fun j u hj=>?_⟩
  have hj2:j < msg.length:=by have:=(List.getElem?_eq_some_iff.1 hj).1;rwa [aSr] at this
  have hbj:b[j]? = some (b[j]'(by omega)):=List.getElem?_eq_getElem _
  have h64:=(bhr bxo j (by omega)).symm.trans hbj
  have hlen2:o2+j < c2.length:=(List.getElem?_eq_some_iff.1 h64).1
  have hi2:q2.d+(o2+j) < cb.size:=by omega
  have hv:=(hb6 (o2+j) _ _ h64 (Array.getElem?_eq_getElem hi2)).bhz
  have he:den (b[j]'(by omega))=bao msg[j]:=by
   have:=congrArg (fun l=>l[j]?) e
   simp only [List.getElem?_map,hbj,List.getElem?_eq_getElem hj2,Option.map_some] at this
   exact Option.some.inj this
  rw [he] at hv
  rw [Addr.add_lit]
  unfold World.cell?
  dsimp only
  rw [hb2]
  dsimp only
  rw [show o2+q2.d+j=q2.d+(o2+j) by omega,Array.getElem?_eq_getElem hi2]
  unfold avf at hj
  rw [List.getElem?_map,List.getElem?_eq_getElem hj2] at hj
  generalize cb[q2.d+(o2+j)]=u2 at hv
  cases hv
  exact hj
end
end V
end Go.CE
namespace Go.CE
namespace V
open Go.Proofs Go.Proofs.YtlnlbdfokmhelaaGreatDoor Go.RowKit
@[reducible] def Sn:Sym:={ val:=fun _=>0,bin:=fun _ _ _ _ _=>none,cv:=fun _ _=>none }
attribute [local instance] Sn
theorem bax:@avd Sn:=@avd.mk Sn (fun _ _ _ _ _ _ h=>by cases h) (fun _ _ _ h=>by cases h) (fun _ _ _ _ _ _ h=>by cases h) (fun _ _ _ _ _ _ h=>by cases h) (fun _ _ _ h=>by cases h) (fun _ _ _ h=>by cases h) (fun _ _ _ h=>by cases h)
attribute [local instance] bax
def gsg:Sg:=fun k=>match Nat.beq (k % 2) 0&&Nat.ble (k+1) 1024 with
 | true=>some ⟨k / 2,0,0,0⟩
 | false=>none
theorem bdu:GS gsg:=fun k hk=>⟨0,0,by
 unfold gsg
 have h1:Nat.beq (2 * k % 2) 0=true:=by rw [Nat.mul_mod_right];rfl
 have h2:Nat.ble (2 * k+1) 1024=true:=Nat.ble_eq_true_of_le (by omega)
 rw [h1,h2]
 show some (Pl.mk (2 * k / 2) 0 0 0)=_
 rw [Nat.mul_div_cancel_left k (by decide)]⟩
theorem bmy {k:Nat} {q:Pl} (h:gsg k=some q):k < 1024:=by
 unfold gsg at h
 split at h
 ·rename_i hb
  have:=(Bool.and_eq_true _ _ ▸ hb:_∧_).2
  have:=Nat.le_of_ble_eq_true this
  omega
 ·cases h
noncomputable def fs0:QW:=⟨.e,1024,2048,[],[]⟩
noncomputable def c7q (k:Nat) (args:List FV):Ans:=evF Tryz.prog (fun _=>none) 4000 k args fs0
theorem rs0:RS 2048 ⟨.e,1024,[],[]⟩ fs0:=by
 refine RS.mk rfl rfl (Nat.le_refl _) (fun e h=>by cases h) (fun e h=>by cases h) (fun k=>?_) (fun e h=>by cases h) (fun e h=>by cases h) (fun k x h=>?_)
 ·show RB (Tr.get .e k) (getM (p4 k) .e)
  rw [bi8]
  cases k<;>exact .no
 ·cases k<;>cases h
theorem sum0:bA4 (fun _=>none) (fun _=>none):=fun _=>.inl ⟨rfl,rfl⟩
theorem sr0 (W:World):SR Tryz.prog W.heap.size gsg .e W:=by
 refine SR.mk (fun j x hj=>by cases j<;>cases hj) (fun i j p1 p2 hi _ _ _ _=>absurd (by cases i<;>rfl) hi) (fun j q hj hro=>?_) (Nat.le_refl _)
 have:=bmy hj
 have:roB=2048:=rfl
 omega
theorem bid {k:Nat} {l:List FV} {a:List AV} {vals:Array Value} {v:FV} {f':QW} (hl:RVs a l) (hv:LR gsg a vals) (he:c7q k l=some (v,f')) (W:World) :
  Calls Tryz.prog k vals W fun e W' => ∃ τ u,e=.returned u∧VR τ (b8x v) u∧Below W.heap.size W W':=by
 obtain ⟨x,s',hev,⟨hx,_⟩,_⟩:=bDk (P:=Tryz.prog) sum0 (fun _ _ h=>by cases h) 4000 k rs0 hl he
 obtain ⟨m',n',l',w'⟩:=s'
 subst hx
 have hsum:c4c Tryz.prog (fun _=>none):=⟨(fun _ _ h=>by cases h),(fun _ _ h=>by cases h)⟩
 obtain ⟨_,c2⟩:=bcl hsum 4000 W.heap.size gsg .e 1024 [] [] W k a (b8x v) m' n' l' w' vals bdu (sr0 W) hv hev (fun j h1 _=>by
  cases hj:gsg j with
  | none=>rfl
  | some q=>have:=bmy hj;omega)
 refine c2.mono fun e W' hd=>?_
 obtain ⟨τ,u,he,-,-,hv,hb⟩:=hd
 exact ⟨τ,u,he,hv,hb⟩
theorem bC1 (k1:IntKind) (n1:Nat) (k2:IntKind) (n2:Nat):RVs [AV.i k1 (.ofNat n1),AV.i k2 (.ofNat n2)] [FV.i k1 n1,FV.i k2 n2]:=⟨rfl,fun v h=>by
 simp only [List.mem_cons,List.not_mem_nil,or_false] at h
 rcases h with rfl | rfl<;>trivial⟩
theorem bRi (k1:IntKind) (n1:Int) (k2:IntKind) (n2:Int):LR gsg [.i k1 n1,.i k2 n2] #[.int k1 n1,.int k2 n2] :=
 LR.mk rfl fun i x v h1 h2=>by
  have hi:i < 2:=(List.getElem?_eq_some_iff.1 h1).1
  have:i=0∨i=1:=by omega
  rcases this with rfl | rfl
  ·cases h1;cases h2;exact VR.i _ _
  ·cases h1;cases h2;exact VR.i _ _
end V
end Go.CE
namespace Go.Proofs.YtlnlbdfokmhelaaGreatDoor
open Go.RowKit Go.CE Go.CE.V
attribute [local instance] Sn bax
set_option maxRecDepth 100000
def c73:List Nat:=[0,1043,19,19,531,51,1923,3,40049,100417,102465,102401,102401,32769,102401,24624,122928,98316,65537]
def bta (k f:Nat):Bool:=(c73.getD k 0).testBit f
def limL:List (Nat×Nat):=[(1,1099511627776),(1,1099511627776),(0,15),(1,64),(0,511),(0,511),(0,255),(1,3),(0,1099511627776),(0,0),(0,0),(0,2251799813685248),(0,18),(1,4),(0,0),(0,0),(0,0)]
def c2i (k f:Nat):Nat×Nat :=
 if k=1∧f=1 then (1,1) else if (k=6∨k=7)∧f=1 then (2,1099511627776) else if k=8∧f=5 then (0,63) else if k=8∧f=12 then (1,512) else if k=14∧f=12 then (0,5) else limL.getD f (0,0)
noncomputable def isB (r:Ans) (b:Bool):Bool:=match r with
 | some (.b c,_)=>c == b
 | _=>false
noncomputable def isP (r:Ans) (b:Nat×Nat):Bool:=match r with
 | some (.t t n,_)=>match b8x (.t t n) with
  | .t [.i .i64 (.ofNat x),.i .i64 (.ofNat y)]=>x == b.1&&y == b.2
  | _=>false
 | _=>false
def upK (n:Nat):List Nat:=List.range n
set_option maxRecDepth 100000 in
theorem bHd:((upK 19).all fun k=>(upK 17).all fun f=>isB (c7q 79 [.i .i64 k,.i .i64 f]) (bta k f))=true:=by decide +kernel
set_option maxRecDepth 100000 in
theorem bz8:((upK 19).all fun k=>(upK 17).all fun f=>isP (c7q 139 [.i .i64 k,.i .i64 f]) (c2i k f))=true:=by decide +kernel
theorem by9 (k f:Nat) (hk:k < 19) (hf:f < 17) (w:World):Calls Tryz.prog 79 #[.int .i64 (k:Int),.int .i64 (f:Int)] w fun e w'=>e=.returned (.bool (bta k f))∧Below w.heap.size w w':=by
 have h:=List.all_eq_true.1 (List.all_eq_true.1 bHd k (List.mem_range.2 hk)) f (List.mem_range.2 hf)
 unfold isB at h
 split at h
 ·rename_i c f' he
  have hc:c=bta k f:=by simpa using h
  subst hc
  refine (bid (bC1 _ _ _ _) (bRi _ _ _ _) he w).mono fun e w' hd=>?_
  obtain ⟨τ,u,he,hv,hb⟩:=hd
  cases hv
  exact ⟨he,hb⟩
 ·cases h
theorem br1 (k f:Nat) (hk:k < 19) (hf:f < 17) (w:World):Calls Tryz.prog 139 #[.int .i64 (k:Int),.int .i64 (f:Int)] w fun e w'=>e=.returned (.tuple #[.int .i64 ((c2i k f).1:Int),.int .i64 ((c2i k f).2:Int)])∧Below w.heap.size w w':=by
 have h:=List.all_eq_true.1 (List.all_eq_true.1 bz8 k (List.mem_range.2 hk)) f (List.mem_range.2 hf)
 unfold isP at h
 split at h
 ·rename_i t n f' he
  split at h
  ·rename_i x y ha
   simp only [Bool.and_eq_true,beq_iff_eq] at h
   obtain ⟨h1,h2⟩:=h
   refine (bid (bC1 _ _ _ _) (bRi _ _ _ _) he w).mono fun e w' hd=>?_
   obtain ⟨τ,u,he,hv,hb⟩:=hd
   rw [ha] at hv
   obtain ⟨c,rfl,hc⟩:=hv.bV6
   refine ⟨?_,hb⟩
   obtain ⟨v0,e0,hv0⟩:=hc.at (i:=0) rfl
   obtain ⟨v1,e1,hv1⟩:=hc.at (i:=1) rfl
   cases hv0;cases hv1
   have hs:c.size=2:=hc.len.symm
   rw [he]
   congr 2
   apply Array.ext
   ·simpa using hs
   ·intro i h3 h4
    have:i=0∨i=1:=by omega
    rcases this with rfl | rfl
    ·have:=(Array.getElem?_eq_some_iff.1 e0).2
     rw [this,← h1];rfl
    ·have:=(Array.getElem?_eq_some_iff.1 e1).2
     rw [this,← h2];rfl
  ·cases h
 ·cases h
end Go.Proofs.YtlnlbdfokmhelaaGreatDoor
namespace Go.Proofs.YtlnlbdfokmhelaaGreatDoor
open Go.RowKit
theorem bxp {w:World} {v:Value} {a:List UInt8} (h:bhe w v a):(convert 76 9 v).run Tryz.prog w=.ok (.string ⟨a.toArray⟩) w:=by
 obtain ⟨ao,n,c,rfl,rfl,hn,hb⟩:=h
 cases ao with
 | none =>
  obtain ⟨h0,rfl⟩:=hn rfl
  obtain rfl:=List.eq_nil_of_length_eq_zero h0
  exact Lib.run_convert_nil_bytes w _ _ 5 0 Tryz.underlying76 Tryz.underlying5 Tryz.underlying9
 | some ad =>
  refine run_convert_bytes_back w _ _ 5 ad c a Tryz.underlying76 Tryz.underlying5 Tryz.underlying9 fun j hj=>?_
  refine (hb ad rfl).2 j _ ?_
  unfold avf
  rw [List.getElem?_map,List.getElem?_eq_getElem hj]
  rfl
set_option maxHeartbeats 1000000 in
theorem bv2 (a:List UInt8) (v1 v2:Value) (w:World) (h1:bhe w v1 a) (h2:bhe w v2 a):Calls Tryz.prog 230 #[v1,v2] w fun e w'=>e=.returned (.bool true)∧w' = w:=by
 have c1:=bxp h1
 have c2:=bxp h2
 clear h1 h2
 go_enter Tryz.func230,Tryz.ntmps230
 repeat' (first | go_skip | go_guarded | go_step | go_upon)
 go_ret
 exact ⟨rfl,rfl⟩
end Go.Proofs.YtlnlbdfokmhelaaGreatDoor
namespace Go.CE
namespace V
open Go.Proofs Go.Proofs.YtlnlbdfokmhelaaGreatDoor Go.RowKit
def bpz (byt:Nat→Bool):List AV→List AV→Bool
 | [],[]=>true
 | .i .u8 (.ofNat a) :: l,.i .u8 (.ofNat b) :: m=>match Nat.beq a b&&Nat.ble a 255 with
  | true=>bpz byt l m
  | false=>false
 | .x .u8 i :: l,.x .u8 j :: m=>match Nat.beq i j&&byt i with
  | true=>bpz byt l m
  | false=>false
 | _,_=>false
section
variable [Sym]
def bNm (byt:Nat→Bool):Prop:=∀ j,byt j=true→∃ c:UInt8,Sym.val j=.ofNat c.toNat
theorem bnp {byt:Nat→Bool} (hb:bNm byt):∀ l m:List AV,bpz byt l m=true→∃ msg:List UInt8,l.map den=msg.map bao∧m.map den=msg.map bao
 | [],[],_=>⟨[],rfl,rfl⟩
 | .i .u8 (.ofNat a) :: l,.i .u8 (.ofNat b) :: m,h=>by
  unfold bpz at h
  split at h
  ·rename_i g
   simp only [Bool.and_eq_true] at g
   obtain rfl:a=b:=Nat.eq_of_beq_eq_true g.1
   have g2:a≤255:=Nat.le_of_ble_eq_true g.2
   obtain ⟨msg,e1,e2⟩:=bnp hb l m h
   have ea:bao (UInt8.ofNat a)=.i .u8 (.ofNat a):=by
    unfold bao
    have:(UInt8.ofNat a).toNat=a:=by simp;omega
    rw [this]
   exact ⟨UInt8.ofNat a :: msg,by rw [List.map_cons,List.map_cons,e1,ea];rfl,by rw [List.map_cons,List.map_cons,e2,ea];rfl⟩
  ·cases h
 | .x .u8 i :: l,.x .u8 j :: m,h=>by
  unfold bpz at h
  split at h
  ·rename_i g
   simp only [Bool.and_eq_true] at g
   obtain rfl:i=j:=Nat.eq_of_beq_eq_true g.1
   obtain ⟨c,hc⟩:=hb i g.2
   obtain ⟨msg,e1,e2⟩:=bnp hb l m h
   have ea:den (.x .u8 i)=bao c:=by
    show AV.i .u8 (Sym.val i)=.i .u8 (.ofNat c.toNat)
    rw [hc]
   exact ⟨c :: msg,by rw [List.map_cons,List.map_cons,e1,ea],by rw [List.map_cons,List.map_cons,e2,ea]⟩
  ·cases h
def eqE (byt:Nat→Bool):List AV→X AV:=fun args=>match args with
 | [.sl (some (k1,o1)) n1 _,.sl (some (k2,o2)) n2 _]=>CE.bnd (rdK k1 o1 n1) fun a=>CE.bnd (rdK k2 o2 n2) fun b=>CE.bnd (CE.chk (bpz byt a b)) fun _=>CE.ret (.b true)
 | _=>CE.fail
theorem bW5 (byt:Nat→Bool) (x:List AV):Loc (eqE byt x):=by
 unfold eqE
 split
 ·exact Loc.bnd (Loc.rdK _ _ _) fun _=>Loc.bnd (Loc.rdK _ _ _) fun _=>Loc.bnd (Loc.chk _) fun _=>Loc.ret _
 ·exact Loc.fail
end
section
variable [Sym] [avd]
theorem bMw (vals:Array Value) (W:World):(callFunc 230 vals).run Tryz.prog W=.ok (.enter 230 vals) W:=by
 have h1:(Tryz.f230.body.isNone)=false:=by kernel_rfl
 have h2:(Tryz.f230.name == "runtime.NumGoroutine")=false:=by kernel_rfl
 unfold callFunc
 simp only [Sem.run_bind,run_program,Result.andThen_ok,Tryz.func230,h1,h2,Bool.false_eq_true,if_false,Sem.run_pure]
theorem bFn {byt:Nat→Bool} (hby:bNm byt) (B:Nat) (σ:Sg) (m:Tr AB) (n:Nat) (l w:List LE) (W:World) (args:List AV) (v:AV) (m':Tr AB) (n':Nat) (l' w':List LE) (vals:Array Value)
  (_:GS σ) (hs:SR Tryz.prog B σ m W) (hl:LR σ args vals) (hx:eqE byt args ⟨m,n,l,w⟩=some (v,⟨m',n',l',w'⟩)) (_:b9l σ n n') :
  (callFunc 230 vals).run Tryz.prog W=.ok (.enter 230 vals) W∧Calls Tryz.prog 230 vals W (Done Tryz.prog B σ n n' m' v W):=by
 refine ⟨bMw vals W,?_⟩
 unfold eqE at hx
 split at hx
 ·rename_i k1 o1 len1 cp1 k2 o2 len2 cp2
  obtain ⟨a,⟨m1,n1,l1,w1⟩,g1,x1⟩:=aka hx
  obtain ⟨e1,e2,c1,T1,hk1,cut1⟩:=bbg g1
  cases e1;cases e2
  obtain ⟨b,⟨m2,n2,l2,w2⟩,g2,x2⟩:=aka x1
  obtain ⟨e1,e2,c2,T2,hk2,bxo⟩:=bbg g2
  cases e1;cases e2
  obtain ⟨_,s1,g3,x3⟩:=aka x2
  obtain ⟨hsame,e1⟩:=b9x g3
  cases e1
  obtain ⟨e1,e3⟩:=as7 x3
  cases e1;cases e3
  clear hx x1 x2 x3 g1 g2 g3
  obtain ⟨msg,t1,t2⟩:=bnp hby _ _ hsame
  have hsz:vals.size=2:=hl.len.symm
  obtain ⟨v0,e0,hv0⟩:=hl.at (i:=0) rfl
  obtain ⟨v1,e1,hv1⟩:=hl.at (i:=1) rfl
  have bon:vals=#[v0,v1]:=by
   apply Array.ext
   ·simpa using hsz
   ·intro i h1 h2
    have:i=0∨i=1:=by omega
    rcases this with rfl | rfl
    ·simpa using (Array.getElem?_eq_some_iff.1 e0).2
    ·simpa using (Array.getElem?_eq_some_iff.1 e1).2
  subst bon
  refine (bv2 msg v0 v1 W (bhp hs hv0 hk1 cut1 t1) (bhp hs hv1 hk2 bxo t2)).mono fun e W' he=>?_
  obtain ⟨he,rfl⟩:=he
  exact ⟨σ,_,he,Grow.refl _ _ _,hs,.b _,Below.refl _ _⟩
 ·cases hx
noncomputable def eqQ (byt:Nat→Bool):LQ:=fun l s k=>match l with
 | [.s _ i1 o1 n1 _,.s _ i2 o2 n2 _]=>bnv (p4 i1) i1 o1 n1 s fun a s=>bnv (p4 i2) i2 o2 n2 s fun b s=>match b8x a,b8x b with
  | .g al,.g bl=>V.iff (bpz byt al bl) (k (.b true) s)
  | _,_=>none
 | _=>none
theorem c3n (byt:Nat→Bool) (B:Nat) (s:CE.St) (f:QW) (x:List AV) (l:List FV) (hs:RS B s f) (h:RVs x l):Ok B RV (eqQ byt l f) (eqE byt x s):=by
 obtain ⟨rfl,ho⟩:=h
 unfold eqQ
 split
 ·rename_i q1 i1 o1 n1 c1 q2 i2 o2 n2 c2
  have hq1:q1=p4 i1:=ho (.s q1 i1 o1 n1 c1) (by simp)
  have hq2:q2=p4 i2:=ho (.s q2 i2 o2 n2 c2) (by simp)
  show Ok B RV _ (CE.bnd (rdK i1 o1 n1) (fun a=>CE.bnd (rdK i2 o2 n2) fun b=>CE.bnd (CE.chk (bpz byt a b)) fun _=>CE.ret (.b true)) s)
  refine Ok.bnd (bd0 hs i1 o1 n1) fun a f a' s h hs=>?_
  obtain ⟨t1,rfl,rfl,ht1⟩:=h
  refine Ok.bnd (bd0 hs i2 o2 n2) fun b f b' s h hs=>?_
  obtain ⟨t2,rfl,rfl,ht2⟩:=h
  refine Ok.iff fun h5=>Ok.chk h5 ?_
  exact Ok.ret (R:=RV) (b:=.b true) (a:=.b true) ⟨rfl,trivial⟩ hs
 ·exact Ok.none
theorem bW4 {byt:Nat→Bool} (hby:bNm byt):Good Tryz.prog 230 (eqQ byt) (eqE byt):=⟨bW5 byt,bFn hby,c3n byt⟩
end
end V
end Go.CE
