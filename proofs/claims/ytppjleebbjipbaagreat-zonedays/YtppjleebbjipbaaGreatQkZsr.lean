/-
  The sort of transitions.
-/
import Derived.Test.YtppjleebbjipbaaGreatQkZos
set_option linter.all false
namespace Go.Proofs.YtppjleebbjipbaaGreat
open Go.RowKit Go.Shelf
set_option maxRecDepth 20000
set_option maxHeartbeats 8000000
def a8g (x:Zn.Tr):List Value:=[.int .i64 x.tm,.int .i64 x.off]
theorem apy (x y:Zn.Tr):ltOf (fun x y:Zn.Tr=>a9o x.tm y.tm) x y=decide (x.tm < y.tm):=by
 unfold ltOf a9o
 by_cases h1:x.tm < y.tm
 ·simp [h1]
 by_cases h2:y.tm < x.tm<;>simp [h1,h2]
theorem aqf:Go.Sort.SWO (ltOf fun x y:Zn.Tr=>a9o x.tm y.tm) where
 irrefl x:=by rw [apy];simp
 trans x y z h1 h2:=by rw [apy] at *;simp at *;omega
 ntrans x y z h1 h2:=by rw [apy] at *;simp at *;omega
theorem art (blk off size:Nat) (w:World):CmpLays Tryz.prog 136 #[] a8g 2 (fun x y:Zn.Tr=>a9o x.tm y.tm) blk off size w :=
 fun _ _ _ _ x y=>(ac0 (t:=x) (u:=y)).mono fun _ _ ⟨h1,h2⟩=>by
  subst h2
  exact ⟨h1,0,_,by rw [Go.Sort.alloc_eq_grow,Go.Sort.alloc_eq_grow,Go.Sort.grow_grow];rfl⟩
theorem div2 (i j:Nat) (h:j < 2):(i * 2+j) / 2=i∧(i * 2+j) % 2=j:=by omega
theorem ad3:acp:=by
 intro W v l hv hl
 obtain ⟨ao,c,rfl,h⟩:=hv
 by_cases h0:l.length=0
 ·have hl0:l = []:=yH.1 h0
  have hcon:=AnyF.slices_SortFunc_none Tryz.alg ao c (.func (.func 136) #[] #[]) W
  change Calls Tryz.prog 135 _ _ _ at hcon
  rw [h0]
  refine hcon.mono ?_
  rintro e w' ⟨rfl,rfl⟩
  refine ⟨rfl,[],by rw [hl0],fun i j _ hj=>by simp at hj,⟨ao,c,rfl,fun h=>by simp at h⟩,⟨rfl,rfl,rfl,zD _,fun _ _ _=>rfl⟩⟩
 obtain ⟨b,row,T,rfl,h1,h2⟩:=h (by omega)
 have lb:=a09 h1
 have hH:Go.Sort.HoldsK a8g 2 W b 0 l.toArray:=by
  intro j hj
  have hj':j < l.length * 2:=by simpa using hj
  have hq:=h2 (j / 2) (by omega)
  have hc:=a0y (j % 2) hq.2 (show j % 2 < 2 from wJ _ (by omega))
  have hcc:row[j]? = (a7c (l.getD (j / 2) default))[j % 2]? := by
   rw [← hc]
   congr 1
   omega
  refine ⟨?_,a0d h1 _⟩
  have hg:=Go.Sort.get_flatK a8g 2 l.toArray j (by simpa using hj)
  rw [a02 h1 (0+j),yI,hcc]
  show _=some (id (Go.Sort.flatK a8g 2 l.toArray)[j]!)
  rw [hg]
  have hd:l.toArray[j / 2]! = l.getD (j / 2) default:=by
   rw [zB];simp
  rw [hd]
  have hm:j % 2=0∨j % 2=1:=by omega
  rcases hm with h | h<;>rw [h]<;>rfl
 have eg:∀ args w,(callFunc 136 args).run Tryz.prog w=.ok (.enter 136 args) w:=enters_of Tryz.func136 (by kernel_rfl) rfl
 have hcon:=AnyQ.slices_SortFunc Tryz.alg 2 Tryz.isAgg57 Tryz.sizeOf57 a8g (fun _=>rfl) (fun x v hv=>by simp [a8g] at hv;rcases hv with rfl | rfl<;>rfl) (fun x y:Zn.Tr=>a9o x.tm y.tm) aqf 136 #[] b 0 c l.toArray W eg (art b 0 l.toArray.size W) hH lb (by simp;omega)
 change Calls Tryz.prog 135 _ _ _ at hcon
 rw [xJ] at hcon
 refine hcon.mono ?_
 rintro e w' ⟨rfl,d,n,os,hp,hs,rfl⟩
 have hds:d.size=l.length:=by have:=hp.1;simpa using this
 have hpm:d.toList.Perm l:=by
  have:=hp.2.2
  have e1:d.extract 0 l.length=d:=by rw [← hds];simp
  rw [e1] at this
  simpa using this
 have hb':(sortWorldK a8g 2 W b 0 n d os).heap[b]? = some (.cells (Go.Sort.putCells id 0 (Go.Sort.flatK a8g 2 d) row) T (0,0)):=by
  have e1:W.heap[b]? = some (.cells row T (0,0)):=h1
  show (Go.Sort.grow (Go.Sort.putRow id (Go.Sort.ahead W n) b 0 (Go.Sort.flatK a8g 2 d)) os).heap[b]? = _
  simp only [Go.Sort.grow,Go.Sort.putRow,Go.Sort.mapBlock,Go.Sort.ahead]
  rw [xH (by simpa using lb),xR,zQ rfl,e1]
  rfl
 refine ⟨rfl,d.toList,hpm,?_,⟨some ⟨b,0,none⟩,c,by simp [hds],fun _=>⟨b,0,_,T,(0,0),rfl,hb',fun i hi=>?_⟩⟩,?_⟩
 ·intro i j hij hj
  rcases wL hij with h | rfl
  ·have hq:=hs i j (xG _) h (by rw [← hds];simpa using hj)
   rw [apy,uI] at hq
   have e1:∀ k,d.toList.getD k default=d[k]! := fun k=>by
    rw [zB,vH,yB,yU]
   rw [e1,e1];omega
  exact yR _
 ·have hi':i < d.size:=by simpa using hi
  have hq:=h2 i (by omega)
  refine ⟨by simpa [Go.Sort.putCells] using hq.1,?_⟩
  have hcell:∀ j,j < 2→(Go.Sort.putCells id 0 (Go.Sort.flatK a8g 2 d) row)[0+i * 2+j]? = some ((a8g d[i]!)[j]!):=fun j hj=>by
   (have hr:i * 2+j < row.size:=by have:=hq.1;omega);simp only [Go.Sort.putCells,yI,Array.getElem?_mapIdx,zT hr,Option.map_some];rw [zQ ⟨xG _,by simp;omega⟩,Nat.sub_zero,Go.Sort.get_flatK _ _ _ _ (by omega),(div2 i j hj).1,(div2 i j hj).2];rfl
  have hd:d[i]! = d.toList.getD i default:=by
   rw [zB,vH,yB,yU]
  have hps:(Go.Sort.putCells id 0 (Go.Sort.flatK a8g 2 d) row).size=row.size:=by simp [Go.Sort.putCells]
  have hq1:=hq.1
  apply wQ
  intro j
  rw [wG]
  rcases j with _ | _ | j
  ·rw [zQ (by omega),hcell 0 (by omega),hd];rfl
  ·rw [zQ (by omega),hcell 1 (by omega),hd];rfl
  rw [zS (by omega)];rfl
 refine ⟨rfl,rfl,rfl,?_,fun k hk hn=>?_⟩
 ·show W.heap.size≤(Go.Sort.grow (Go.Sort.putRow id (Go.Sort.ahead W n) b 0 (Go.Sort.flatK a8g 2 d)) os).heap.size
  simp [Go.Sort.grow,Go.Sort.putRow,Go.Sort.mapBlock,Go.Sort.ahead]
 show (Go.Sort.grow (Go.Sort.putRow id (Go.Sort.ahead W n) b 0 (Go.Sort.flatK a8g 2 d)) os).heap[k]? = _
 simp only [Go.Sort.grow,Go.Sort.putRow,Go.Sort.mapBlock,Go.Sort.ahead]
 rw [xH (by simpa using hk),xR,zS (fun e=>hn (by subst e;exact ⟨0,_,_,rfl⟩))]
end Go.Proofs.YtppjleebbjipbaaGreat
namespace Go.Proofs.YtppjleebbjipbaaGreat
open Go.RowKit Go.Shelf
set_option maxRecDepth 20000
set_option maxHeartbeats 8000000
structure OdE where
 x:Int×Zn.Per
 hv:Value
 cv:Value
 h1:hv.oneCell' = true
 h2:cv.oneCell' = true
instance:Inhabited OdE:=⟨⟨default,.bool false,.bool false,rfl,rfl⟩⟩
def a4v (t:OdE):List Value:=[.int .i64 t.x.1,t.hv,.int .i64 t.x.2.from_,.int .i64 t.x.2.period,t.cv]
theorem aes {W:World} {t u:OdE}:Calls Tryz.prog 109 #[.agg #[t.x.1,t.hv,t.x.2.from_,t.x.2.period,t.cv],.agg #[u.x.1,u.hv,u.x.2.from_,u.x.2.period,u.cv]] W fun e w'=>e=.returned (.int .i64 (a9o t.x.1 u.x.1))∧w' = (W.alloc (.cells #[t.x.1,t.hv,t.x.2.from_,t.x.2.period,t.cv] 69)).alloc (.cells #[u.x.1,u.hv,u.x.2.from_,u.x.2.period,u.cv] 69):=by
 obtain ⟨⟨t0,tp⟩,th,tc,t1,t2⟩:=t
 obtain ⟨⟨uo,up⟩,uh,uc,u1,u2⟩:=u
 dsimp only
 have HC:=zA (fun Wq:World=>@a5w Wq t0 uo)
 have hon:=aet t1 t2 t0 tp.from_ tp.period
 have alr:=aet u1 u2 uo up.from_ up.period
 generalize tp.from_=tf at *
 generalize tp.period=tq at *
 generalize up.from_=uf at *
 generalize up.period=uq at *
 go_enter Tryz.func109,Tryz.ntmps109
 repeat' (first | (go_at_call 110;((with_reducible refine ((HC.out _)).mono ?_));rintro e w5 ⟨rfl,rfl⟩;dsimp only)|go_skip|go_guarded|go_step|go_upon)
 go_ret
 exact ⟨rfl,rfl⟩
theorem apz (x y:OdE):ltOf (fun x y:OdE=>a9o x.x.1 y.x.1) x y=decide (x.x.1 < y.x.1):=by
 unfold ltOf a9o
 by_cases h1:x.x.1 < y.x.1
 ·simp [h1]
 by_cases h2:y.x.1 < x.x.1<;>simp [h1,h2]
theorem aqg:Go.Sort.SWO (ltOf fun x y:OdE=>a9o x.x.1 y.x.1) where
 irrefl x:=by rw [apz];simp
 trans x y z h1 h2:=by rw [apz] at *;simp at *;omega
 ntrans x y z h1 h2:=by rw [apz] at *;simp at *;omega
theorem aru (blk off size:Nat) (w:World):CmpLays Tryz.prog 109 #[] a4v 5 (fun x y:OdE=>a9o x.x.1 y.x.1) blk off size w :=
 fun _ _ _ _ x y=>(aes (t:=x) (u:=y)).mono fun _ _ ⟨h1,h2⟩=>by
  subst h2
  exact ⟨h1,0,_,by rw [Go.Sort.alloc_eq_grow,Go.Sort.alloc_eq_grow,Go.Sort.grow_grow];rfl⟩
theorem div5 (i j:Nat) (h:j < 5):(i * 5+j) / 5=i∧(i * 5+j) % 5=j:=by omega
theorem aka {W:World} {l:List (Int×Zn.Per)} {rows:List (Array Value)} (h:a7b W l rows) : ∃ es:List OdE,es.length=l.length∧acj rows=es.flatMap a4v∧∀ i,i < l.length→(es.getD i default).x=l.getD i default∧a2t W (es.getD i default).hv (l.getD i default).2.head∧a2t W (es.getD i default).cv (l.getD i default).2.cycle:=by
 obtain ⟨h1,h2⟩:=h
 induction l generalizing rows with
 | nil=>exact ⟨[],rfl,by rw [yH.1 h1];rfl,fun i hi=>absurd hi (yA i)⟩
 | cons x l ih =>
  match rows,h1 with
  | row :: rows,h1 =>
   obtain ⟨es,e1,e2,e3⟩:=ih (rows:=rows) (by simpa using h1) (fun i hi=>by have:=h2 (i+1) (by simpa using hi);simpa using this);obtain ⟨hv,cv,q1,q2,q3⟩:=h2 0 (by simp);have q1:row=#[.int .i64 x.1,hv,.int .i64 x.2.from_,.int .i64 x.2.period,cv]:=q1;refine ⟨⟨x,hv,cv,q2.one,q3.one⟩ :: es,by simp [e1],?_,fun i hi=>?_⟩
   ·unfold acj at e2 ⊢
    rw [List.flatMap_cons,List.flatMap_cons,e2,q1];rfl
   ·rcases i with _ | i
    ·exact ⟨rfl,q2,q3⟩
    ·have:=e3 i (by simpa using hi)
     simpa using this
theorem aky (es:List OdE) (j:Nat) (hj:j < es.length * 5):(es.flatMap a4v)[j]? = (a4v (es.getD (j / 5) default))[j % 5]? := by
 induction es generalizing j with
 | nil=>simp at hj
 | cons x es ih =>
  rw [List.flatMap_cons]
  by_cases h5:j < 5
  ·rw [xF (by simpa [a4v] using h5),Nat.div_eq_of_lt h5,Nat.mod_eq_of_lt h5]
   rfl
  rw [yZ (by simp [a4v];omega)]
  have e:(a4v x).length=5:=rfl
  rw [e,ih (j - 5) (by simp at hj;omega),show j / 5=(j - 5) / 5+1 by omega,show (j - 5) % 5=j % 5 by omega]
  rfl
theorem ab4:ae7:=by
 intro W base v l rows hown hro hl
 obtain ⟨es,hes,hfl,hel⟩:=aka hro
 rcases hown.2 with ⟨rfl,h0⟩ | ⟨g,c,cur,rfl,hbg,h2,h3,h4,h5,h6⟩
 ·have hl0:l = []:=yH.1 h0
  have hcon:=AnyF.slices_SortFunc_none Tryz.ai3 none 0 (.func (.func 109) #[] #[]) W
  change Calls Tryz.prog 108 _ _ _ at hcon
  refine hcon.mono ?_
  rintro e w' ⟨rfl,rfl⟩
  exact ⟨rfl,⟨[],by rw [hl0],List.Pairwise.nil,a1f.nil _⟩,⟨rfl,rfl,rfl,zD _,fun _ _ _=>rfl⟩⟩
 by_cases hl0':l.length=0
 ·have hl0:l = []:=yH.1 hl0'
  have hcon:=AnyF.slices_SortFunc_none Tryz.ai3 (some ⟨g,0,none⟩) c (.func (.func 109) #[] #[]) W
  change Calls Tryz.prog 108 _ _ _ at hcon
  rw [hl0']
  refine hcon.mono ?_
  rintro e w' ⟨rfl,rfl⟩
  exact ⟨rfl,⟨[],by rw [hl0],List.Pairwise.nil,⟨fun _=>#[],⟨some ⟨g,0,none⟩,c,rfl,fun h=>absurd h (uB 0)⟩,fun i hi=>absurd hi (yA i)⟩⟩,⟨rfl,rfl,rfl,zD _,fun _ _ _=>rfl⟩⟩
 have h2':W.heap[g]? = some (.cells cur 69 (0,0)):=h2
 have lb:=a09 (w:=W) h2
 have hcell:∀ j,j < l.length * 5→cur[j]? = (a4v (es.getD (j / 5) default))[j % 5]? := fun j hj=>by
  rw [hfl] at h6
  rw [← aky es j (by omega),← h6,xQ,zQ hj,yU]
 have hH:Go.Sort.HoldsK a4v 5 W g 0 es.toArray:=by
  intro j hj
  have hj':j < l.length * 5:=by rw [← hes];simpa using hj
  refine ⟨?_,a0d h2 _⟩
  have hg:=Go.Sort.get_flatK a4v 5 es.toArray j (by simpa using hj)
  rw [a02 h2 (0+j),yI,hcell j hj']
  show _=some (id (Go.Sort.flatK a4v 5 es.toArray)[j]!)
  rw [hg]
  have hd:es.toArray[j / 5]! = es.getD (j / 5) default:=by
   rw [zB];simp
  rw [hd]
  have hm:j % 5 < 5:=wJ _ (by decide)
  generalize j % 5=q at *
  match q,hm with
  | 0,_=>rfl
  | 1,_=>rfl
  | 2,_=>rfl
  | 3,_=>rfl
  | 4,_=>rfl
  | q+5,h=>omega
 have eg:∀ args w,(callFunc 109 args).run Tryz.prog w=.ok (.enter 109 args) w:=enters_of Tryz.func109 (by kernel_rfl) rfl
 have hcon:=AnyQ.slices_SortFunc Tryz.ai3 5 Tryz.isAgg69 Tryz.sizeOf69 a4v (fun _=>rfl) (fun x v hv=>by simp [a4v] at hv;rcases hv with rfl | rfl | rfl | rfl | rfl;rfl;exact x.h1;rfl;rfl;exact x.h2) (fun x y:OdE=>a9o x.x.1 y.x.1) aqg 109 #[] g 0 c es.toArray W eg (aru g 0 es.toArray.size W) hH lb (by simp;omega)
 change Calls Tryz.prog 108 _ _ _ at hcon
 rw [xJ,hes] at hcon
 refine hcon.mono ?_
 rintro e w' ⟨rfl,d,n,os,hp,hs,rfl⟩
 have hds:d.size=l.length:=by have:=hp.1;rw [← hes];simpa using this
 have hpm:d.toList.Perm es:=by
  have:=hp.2.2
  have e1:d.extract 0 l.length=d:=by rw [← hds];simp
  rw [e1,← hes] at this
  simpa using this
 have hld:es.map (·.x)=l:=by
  refine List.ext_getElem (by simp [hes]) fun i h1 h2=>?_
  have:=(hel i h2).1
  rw [zB,zB,zK h2,zK (by omega)] at this
  rw [List.getElem_map]
  exact this
 have hb':(sortWorldK a4v 5 W g 0 n d os).heap[g]? = some (.cells (Go.Sort.putCells id 0 (Go.Sort.flatK a4v 5 d) cur) 69 (0,0)):=by
  show (Go.Sort.grow (Go.Sort.putRow id (Go.Sort.ahead W n) g 0 (Go.Sort.flatK a4v 5 d)) os).heap[g]? = _
  simp only [Go.Sort.grow,Go.Sort.putRow,Go.Sort.mapBlock,Go.Sort.ahead]
  rw [xH (by simpa using lb),xR,zQ rfl,h2']
  rfl
 have hko:∀ k,k < W.heap.size→k≠g→(sortWorldK a4v 5 W g 0 n d os).heap[k]? = W.heap[k]? := fun k hk hn=>by
  show (Go.Sort.grow (Go.Sort.putRow id (Go.Sort.ahead W n) g 0 (Go.Sort.flatK a4v 5 d)) os).heap[k]? = _
  simp only [Go.Sort.grow,Go.Sort.putRow,Go.Sort.mapBlock,Go.Sort.ahead]
  rw [xH (by simpa using hk),xR,zS (fun e=>hn e.symm)]
 have hks:∀ b row fr,obj W b=some (.cells row 3 fr)→obj (sortWorldK a4v 5 W g 0 n d os) b=some (.cells row 3 fr):=fun b row fr hb=>(hko b (a09 hb) (fun e=>by subst e;rw [show obj W b=_ from h2] at hb;cases hb)).trans hb
 have hdm:∀ i,i < d.size→∃ q,q < l.length∧d[i]! = es.getD q default:=fun i hi=>by
  have:d[i]!∈es:=hpm.mem_iff.1 (by rw [vH,yB,zT hi];simp)
  obtain ⟨q,hq,e⟩:=zY.1 this
  exact ⟨q,by omega,by rw [← e,zB,zK hq];rfl⟩
 refine ⟨rfl,⟨d.toList.map (·.x),?_,?_,fun i=>#[.int .i64 (d[i]!).x.1,(d[i]!).hv,.int .i64 (d[i]!).x.2.from_,.int .i64 (d[i]!).x.2.period,(d[i]!).cv],⟨some ⟨g,0,none⟩,c,by simp [hds],fun _=>⟨g,0,_,69,(0,0),rfl,hb',fun i hi=>?_⟩⟩,fun i hi=>?_⟩,?_⟩
 ·rw [← hld]
  exact hpm.map _
 ·rw [List.pairwise_map,wH]
  intro i j hi hj hij
  have hq:=hs i j (xG _) hij (by rw [← hds];simpa using hj)
  rw [apz,uI] at hq
  have e1:∀ k (hk:k < d.toList.length),d.toList[k]=d[k]! := fun k hk=>by
   rw [vH,yB,zT (by simpa using hk)];simp
  rw [e1,e1]
  omega
 ·have hi':i < d.size:=by simpa using hi
  have hps:(Go.Sort.putCells id 0 (Go.Sort.flatK a4v 5 d) cur).size=cur.size:=by simp [Go.Sort.putCells]
  have hcs:i * 5+5≤cur.size:=by rw [h5];omega
  have hcell2:∀ j,j < 5→(Go.Sort.putCells id 0 (Go.Sort.flatK a4v 5 d) cur)[0+i * 5+j]? = some ((a4v d[i]!)[j]!):=fun j hj=>by
   (have hr:i * 5+j < cur.size:=by omega);simp only [Go.Sort.putCells,yI,Array.getElem?_mapIdx,zT hr,Option.map_some];rw [zQ ⟨xG _,by simp;omega⟩,Nat.sub_zero,Go.Sort.get_flatK _ _ _ _ (by omega),(div5 i j hj).1,(div5 i j hj).2];rfl
  refine ⟨by rw [hps];omega,?_⟩
  apply wQ
  intro j
  rw [wG]
  rcases j with _ | _ | _ | _ | _ | j
  ·rw [zQ (by omega),hcell2 0 (by omega)];rfl
  ·rw [zQ (by omega),hcell2 1 (by omega)];rfl
  ·rw [zQ (by omega),hcell2 2 (by omega)];rfl
  ·rw [zQ (by omega),hcell2 3 (by omega)];rfl
  ·rw [zQ (by omega),hcell2 4 (by omega)];rfl
  rw [zS (by omega)];rfl
 ·have hi':i < d.size:=by simpa using hi
  obtain ⟨q,hq,e⟩:=hdm i hi'
  have hx:(d.toList.map (·.x)).getD i default=(d[i]!).x:=by
   rw [zB,xC,yU,zT hi',vH,yB,zT hi'];rfl
  rw [hx]
  refine ⟨(d[i]!).hv,(d[i]!).cv,rfl,?_,?_⟩
  ·have:=(hel q hq).2.1
   rw [← (hel q hq).1,← e] at this;exact this.keep hks
  have:=(hel q hq).2.2
  rw [← (hel q hq).1,← e] at this
  exact this.keep hks
 refine ⟨rfl,rfl,rfl,?_,fun k hk hn=>hko k hk (fun e=>hn (by subst e;exact hbg))⟩
 show W.heap.size≤(Go.Sort.grow (Go.Sort.putRow id (Go.Sort.ahead W n) g 0 (Go.Sort.flatK a4v 5 d)) os).heap.size
 simp [Go.Sort.grow,Go.Sort.putRow,Go.Sort.mapBlock,Go.Sort.ahead]
end Go.Proofs.YtppjleebbjipbaaGreat
