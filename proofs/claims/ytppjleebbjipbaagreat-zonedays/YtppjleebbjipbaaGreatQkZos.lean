/-
  Days in memory; what days asks of the sort and of periodic.Canon.
-/
import Derived.Test.YtppjleebbjipbaaGreatQkZpe
import Derived.Test.YtppjleebbjipbaaGreatQkZof
set_option linter.all false
namespace Go.Proofs.YtppjleebbjipbaaGreat
open Go.RowKit Go.Shelf
set_option maxRecDepth 20000
set_option maxHeartbeats 8000000
def a2t (W:World) (v:Value) (l:List Int):Prop := ∃ ao c,v=.slice ao l.length c∧(0 < l.length→∃ b o row fr,ao=some ⟨b,o,none⟩∧obj W b=some (.cells row 3 fr)∧∀ i,i < l.length→row[o+i]? = some (.int .i64 (l.getD i 0)))
theorem a2t.ints {W:World} {v:Value} {l:List Int} (h:a2t W v l):a1s W v l:=by
 obtain ⟨ao,c,h1,h2⟩:=h
 exact ⟨ao,c,h1,fun hn=>by obtain ⟨b,o,row,fr,q1,q2,q3⟩:=h2 hn;exact ⟨b,o,row,_,fr,q1,q2,q3⟩⟩
theorem a2t.keep {W W':World} {v:Value} {l:List Int} (h:a2t W v l) (hk:∀ b row fr,obj W b=some (.cells row 3 fr)→obj W' b=some (.cells row 3 fr)):a2t W' v l:=by
 obtain ⟨ao,c,h1,h2⟩:=h
 exact ⟨ao,c,h1,fun hn=>by obtain ⟨b,o,row,fr,q1,q2,q3⟩:=h2 hn;exact ⟨b,o,row,fr,q1,hk _ _ _ q2,q3⟩⟩
theorem a2t.below {W W':World} {v:Value} {l:List Int} (h:a2t W v l) (hb:Below W W W'):a2t W' v l:=h.keep fun _ _ _ q=>a0a q hb
theorem a2t.nil (W:World):a2t W (.slice none 0 0) []:=⟨none,0,rfl,fun h=>by simp at h⟩
def abu (W:World) (x:Int×Zn.Per) (row:Array Value):Prop := ∃ hv cv,row=#[.int .i64 x.1,hv,.int .i64 x.2.from_,.int .i64 x.2.period,cv]∧a2t W hv x.2.head∧a2t W cv x.2.cycle
def a1f (W:World) (v:Value) (l:List (Int×Zn.Per)):Prop := ∃ f:Nat→Array Value,a1m W v l.length 5 f∧∀ i,i < l.length→abu W (l.getD i default) (f i)
theorem a1f.nil (W:World):a1f W (.slice none 0 0) []:=⟨fun _=>#[],⟨none,0,rfl,fun h=>by simp at h⟩,fun i hi=>by simp at hi⟩
theorem a1f.below {W W':World} {v:Value} {l:List (Int×Zn.Per)} (h:a1f W v l) (hb:Below W W W'):a1f W' v l:=by
 obtain ⟨f,h1,h2⟩:=h
 refine ⟨f,h1.below hb,fun i hi=>?_⟩
 obtain ⟨hv,cv,q1,q2,q3⟩:=h2 i hi
 exact ⟨hv,cv,q1,q2.below hb,q3.below hb⟩
def acj (rows:List (Array Value)):List Value:=rows.flatMap (·.toList)
def a7b (W:World) (l:List (Int×Zn.Per)) (rows:List (Array Value)):Prop:=rows.length=l.length∧∀ i,i < l.length→abu W (l.getD i default) (rows.getD i #[])
theorem abu.keep {W W':World} {x:Int×Zn.Per} {row:Array Value} (h:abu W x row) (hk:∀ b row fr,obj W b=some (.cells row 3 fr)→obj W' b=some (.cells row 3 fr)):abu W' x row:=by
 obtain ⟨hv,cv,q1,q2,q3⟩:=h
 exact ⟨hv,cv,q1,q2.keep hk,q3.keep hk⟩
theorem a7b.keep {W W':World} {l:List (Int×Zn.Per)} {rows:List (Array Value)} (h:a7b W l rows) (hk:∀ b row fr,obj W b=some (.cells row 3 fr)→obj W' b=some (.cells row 3 fr)):a7b W' l rows:=⟨h.1,fun i hi=>(h.2 i hi).keep hk⟩
theorem a7b.snoc {W:World} {l:List (Int×Zn.Per)} {rows:List (Array Value)} (h:a7b W l rows) {x:Int×Zn.Per} {row:Array Value} (hx:abu W x row):a7b W (l ++ [x]) (rows ++ [row]):=by
 refine ⟨by simp [h.1],fun i hi=>?_⟩
 have h1:=h.1
 by_cases hil:i < l.length
 ·rw [zB,zB,xF hil,xF (by omega),← zB,← zB]
  exact h.2 i hil
 have:i=l.length:=by simp at hi;omega
 subst this
 rw [zB,zB,yZ (zD _),yZ (by omega),h1,vC]
 exact hx
def a7m (p q:Zn.Per):Prop:=∀ (W:World) (base:Nat) (hv cv:Value),W.ownsRow base 3 1 hv p.head.length (a4m p.head)→W.ownsRow base 3 1 cv p.cycle.length (a4m p.cycle) →
 Calls Tryz.prog 37 #[.agg #[hv,p.from_,p.period,cv]] W fun e w'=>(∃ hw cw u,e=.returned (.tuple #[.agg #[hw,q.from_,q.period,cw],u])∧a2t w' hw q.head∧a2t w' cw q.cycle)∧Below W W w'
def ae7:Prop:=∀ (W:World) (base:Nat) (v:Value) (l:List (Int×Zn.Per)) (rows:List (Array Value)),W.ownsRow base 69 5 v l.length (acj rows)→a7b W l rows→l.length≤10000000 →
 Calls Tryz.prog 108 #[v,.func (.func 109) #[] #[]] W fun e w'=>e=.returned (.tuple #[])∧(∃ l':List (Int×Zn.Per),l'.Perm l∧(l'.Pairwise fun a b=>a.1≤b.1)∧a1f w' v l')∧a1x W.heap.size (fun k=>base≤k) W w'
theorem Found.own {W:World} {mb base:Nat} {S:Nat→Prop} {es:Array MapEntry} {M:List (Int×List Zn.Tr)} {o:Int} {v:Value} {l:List Zn.Tr} (h:Found es M o v l) (hg:a6w W mb base S es M) {b:Nat} (hb:v.ownBlock=some b):S b:=by
 rcases h with ⟨j,e,q1,q2,_⟩ | ⟨q,_⟩
 ·exact hg.own j e b q1 (by rw [← q2];exact hb)
 rw [q] at hb
 cases hb
theorem aja {Q:Exit→Act→World→Prop} {s B:Nat} {I:World→Prop} {ds:List Deferred} {d:Tmp} {Φ:Say} {W W':World} {a':Act} (v:Value) (hd:a'.defers=ds) (he:a'.eval (.tmp d)=v) (hb:a1x W.heap.size (fun j=>j=B) W W') (hi:I W') (h:Φ v W'):a9b Q s B I s ds (some d) Φ W .normal a' W' :=
 .inl ⟨rfl,hd,by unfold ajf;rw [zQ rfl];exact ⟨hb,hi⟩,by dsimp only;rw [he];exact h⟩
theorem a3t {P:Program} {fn:Func} {p q:Tmp} (h:fn.results=#[.tmp p,.tmp q]) (tmps:Array Value) (w:World):(results fn tmps).run P w=.ok (.tuple #[tmps.getD p undef,tmps.getD q undef]) w:=by
 simp [results,h,vV,go_sem]
end Go.Proofs.YtppjleebbjipbaaGreat
namespace Go.Proofs.YtppjleebbjipbaaGreat
open Go.RowKit Go.Shelf
set_option maxRecDepth 20000
set_option maxHeartbeats 8000000
section
variable {P:Program} {w:World} {ops:Array Oper} {rest:List Oper} {o:Oper} {a:Act} {Q:Exit→Act→World→Prop}
theorem agi (hg:o.guard=none) (m:Operand) (t:TypeId) (hop:o.op=Op.range t m) {k e:TypeId} (ht:P.underlying t=some (.map k e)) (b:Nat) (es:Array MapEntry) (clock:Nat) (hm:a.eval m=.map (some b)) (hb:w.heap[b]? = some (.map es clock))
  (hK:wpList P ops Q rest (a.put o.dst (.pointer (some ⟨w.heap.size,0,none⟩))) (w.alloc (.mapIter (some b) clock #[] clock))):wpList P ops Q (o :: rest) a w:=by
 refine wpList_plain hg fun K' hK'=>?_
 unfold Oper.wp
 simp [execOp,hop,hm,run_range_map w t k e b es clock ht hb,Result.andThen]
 exact hK' _ _ hK
theorem agj (hg:o.guard=none) (it:Operand) (hop:o.op=Op.next it false) (r b since c0:Nat) (seen:Array Nat) (es:Array MapEntry) (clock:Nat) (hit:a.eval it=.pointer (some ⟨r,0,none⟩)) (hr:w.heap[r]? = some (.mapIter (some b) since seen c0)) (hb:w.heap[b]? = some (.map es clock)) (hold:∀ x∈es.toList,x.born < since) (hsc:since≤c0)
  (hDone:(leftOf es seen).size=0→wpList P ops Q rest (a.put o.dst (.tuple #[.bool false])) w)
  (hMore:∀ e∈(leftOf es seen).toList,∀ W3:World,a1x w.heap.size (fun k=>k=r) w W3→W3.heap.size=w.heap.size→W3.heap[r]? = some (.mapIter (some b) since (seen.push e.born) clock)→wpList P ops Q rest (a.put o.dst (.tuple #[.bool true,e.key,e.val])) W3) :
  wpList P ops Q (o :: rest) a w:=by
 refine wpList_plain hg fun K' hK'=>?_
 have hlt:r < w.heap.size:=(zL.1 hr).1
 unfold Oper.wp
 rcases run_next_at (P:=P) w o.type r b since c0 seen es clock hr hb hold hsc with ⟨h0,hrun⟩ | ⟨e,he,w1,hw1,hrun⟩
 ·simp [execOp,hop,hit,hrun,Result.andThen]
  exact hK' _ _ (hDone h0)
 simp [execOp,hop,hit,hrun,Result.andThen]
 have hh:w1.heap=w.heap∧w1.os=w.os∧w1.tape=w.tape∧w1.output=w.output:=by rcases hw1 with rfl | rfl<;>exact ⟨rfl,rfl,rfl,rfl⟩
 refine hK' _ _ (hMore e he _ ⟨hh.2.1,hh.2.2.1,hh.2.2.2,?_,fun k hk hn=>?_⟩ ?_ ?_)
 ·simp [Go.ChangeMaps.setBlock,hh.1]
 ·simp only [Go.ChangeMaps.setBlock,hh.1]
  rw [Array.getElem?_setIfInBounds_ne (fun e=>hn e.symm)]
 ·simp [Go.ChangeMaps.setBlock,hh.1]
 simp only [Go.ChangeMaps.setBlock,hh.1]
 rw [xM,zQ hlt]
theorem agk (hg:o.guard=none) (it:Operand) (hop:o.op=Op.entry it) (r b since:Nat) (seen:Array Nat) (es:Array MapEntry) (clock:Nat) (e:MapEntry) (hit:a.eval it=.pointer (some ⟨r,0,none⟩)) (hr:w.heap[r]? = some (.mapIter (some b) since (seen.push e.born) clock)) (hb:w.heap[b]? = some (.map es clock)) (he:e∈es.toList) (hn:(es.toList.map (·.born)).Nodup) {kk vv:Value} (hkk:e.key=kk) (hvv:e.val=vv)
  (hK:wpList P ops Q rest (a.put o.dst (.tuple #[kk,vv])) w):wpList P ops Q (o :: rest) a w:=by
 refine wpList_plain hg fun K' hK'=>?_
 unfold Oper.wp
 simp [execOp,hop,hit,run_entry_at (P:=P) w r b since seen es clock e hr hb he hn,Result.andThen]
 rw [hkk,hvv]
 exact hK' _ _ hK
end
theorem amr : ∃ i,Tryz.prog.info? 69=some i∧i.zero=some (.agg #[(0:Int),.slice none 0 0,(0:Int),(0:Int),.slice none 0 0])∧i.size=5∧i.bytes=72 :=
 info_parts (show (Tryz.prog.info? 69).map (fun i=>(i.zero,i.size,i.bytes))=some (some (.agg #[(0:Int),.slice none 0 0,(0:Int),(0:Int),.slice none 0 0]),5,72) by kernel_rfl)
theorem a9a {w:World} {ops:Array Oper} {rest:List Oper} {o:Oper} {a:Act} {Q:Exit→Act→World→Prop} (hgd:o.guard=none) (s x:Operand)
  (ho:o.op=.call { callee:=.builtin .append,args:=#[s,x],argTypes:=#[49,49] })
  (base k:Nat) (v:Value) (xs:List Value) (hs:a.eval s=v) (hown:w.ownsRow base 69 5 v k xs)
  (g:Nat) (u1 u2 u3 u4 u5:Value) (hx:a.eval x=.slice (some ⟨g,0,none⟩) 1 1) (hg:obj w g=some (.cells #[u1,u2,u3,u4,u5] 69 (0,0))) (hone:ones #[u1,u2,u3,u4,u5]=true) (h63:k≤100000000000) (hb:base≤w.heap.size)
  (h:∀ v' w',w'.ownsRow base 69 5 v' (k+1) (xs ++ [u1,u2,u3,u4,u5])→w.grownBy w' v.ownBlock→wpList Tryz.prog ops Q rest (a.put o.dst v') w'):wpList Tryz.prog ops Q (o :: rest) a w:=by
 obtain ⟨i0,hi,hz0,hz1,hz2⟩:=amr
 refine uD w hgd s x _ ho base _ i0 _ 5 72 Tryz.underlying49 hi hz0 hz1 hz2 rfl (by decide) v k _ hs hown ⟨g,0,none⟩ 1 1 [u1,u2,u3,u4,u5] hx rfl (fun j q hq=>?_) (fun q hq=>?_) (by unfold maxLen;omega) (by omega) hb fun v' w' q1 q2 _=>h v' w' q1 q2
 ·rcases j with _ | _ | _ | _ | _ | j
  ·cases hq;exact a02 hg 0
  ·cases hq;exact a02 hg 1
  ·cases hq;exact a02 hg 2
  ·cases hq;exact a02 hg 3
  ·cases hq;exact a02 hg 4
  cases hq
 simp [ones] at hone
 simp only [yN,xE,or_false] at hq
 rcases hq with rfl | rfl | rfl | rfl | rfl<;>simp [hone]
theorem a3r {w:World} {ops:Array Oper} {rest:List Oper} {o:Oper} {a:Act} {Q:Exit→Act→World→Prop} (hgd:o.guard=none) (s x:Operand)
  (ho:o.op=.call { callee:=.builtin .append,args:=#[s,x],argTypes:=#[28,28] })
  (base k:Nat) (v:Value) (l:List Int) (hs:a.eval s=v) (hown:w.ownsRow base 3 1 v k (a4m l))
  (g:Nat) (n:Int) (hx:a.eval x=.slice (some ⟨g,0,none⟩) 1 1) (hg:obj w g=some (.cells #[n] 3 (0,0))) (h63:k≤1000000000000) (hb:base≤w.heap.size)
  (h:∀ v' w',w'.ownsRow base 3 1 v' (k+1) (a4m (l ++ [n]))→w.grownBy w' v.ownBlock→(v'.ownBlock=v.ownBlock∨v'.ownBlock=some w.heap.size)→wpList Tryz.prog ops Q rest (a.put o.dst v') w'):wpList Tryz.prog ops Q (o :: rest) a w:=by
 obtain ⟨i0,hi,hz0,hz1,hz2⟩:=a9l
 refine wpList_append_own_at w hgd s x _ ho base _ i0 _ 1 8 Tryz.underlying28 hi hz0 hz1 hz2 rfl (by decide) v k _ hs hown ⟨g,0,none⟩ 1 1 [.int .i64 n] hx rfl (fun j q hq=>?_) (fun q hq=>?_) (by unfold maxLen;omega) (by omega) hb fun v' w' q1 q2 _ q3=>h v' w' (by unfold a4m at q1 ⊢;rw [List.map_append];exact q1) q2 q3
 ·rcases j with _ | j
  ·cases hq;exact a02 hg 0
  cases hq
 simp only [yN,xE,or_false] at hq
 subst hq
 rfl
theorem ahl (rows:List (Array Value)) (row:Array Value):acj (rows ++ [row])=acj rows++row.toList:=by
 unfold acj
 rw [List.flatMap_append]
 simp
theorem akk {es:Array MapEntry} {S:List Nat} (hb:∀ (i:Nat) (e:MapEntry),es[i]? = some e→e.born=i) {e:MapEntry} (he:e∈(leftOf es S.toArray).toList) : ∃ i,es[i]? = some e∧i ∉ S∧e.born=i:=by
 unfold leftOf at he
 rw [Array.mem_toList_iff,Array.mem_filter] at he
 obtain ⟨i,hi,h⟩:=Array.mem_iff_getElem.1 he.1
 have h1:es[i]? = some e:=by rw [zT hi,h]
 refine ⟨i,h1,fun hS=>?_,hb i e h1⟩
 have h2:=he.2
 rw [hb i e h1] at h2
 simp [hS] at h2
theorem ais {es:Array MapEntry} {S:List Nat} (hb:∀ (i:Nat) (e:MapEntry),es[i]? = some e→e.born=i) (h:(leftOf es S.toArray).size=0) {i:Nat} (hi:i < es.size):i∈S:=by
 have h1:=all_seen es S.toArray h es[i] (by simp)
 rw [hb i es[i] (zT hi)] at h1
 simpa using h1
theorem ait {es:Array MapEntry} {S:List Nat} {e:MapEntry} (he:e∈(leftOf es S.toArray).toList):(leftOf es (S.toArray.push e.born)).size < (leftOf es S.toArray).size:=left_shrinks es S.toArray e he
theorem ahp {es:Array MapEntry} (hb:∀ (i:Nat) (e:MapEntry),es[i]? = some e→e.born=i):(es.toList.map (·.born)).Nodup:=by
 have:es.toList.map (·.born)=List.range es.size:=by
  refine List.ext_getElem (by simp) fun i h1 h2=>?_
  rw [List.getElem_map,List.getElem_range]
  exact hb i _ (by rw [← yU,zK])
 rw [this]
 exact xW
def aiu (es:Array MapEntry) (r:Nat) (w:World):Nat:=match w.heap[r]? with
 | some (.mapIter _ _ seen _)=>(leftOf es seen).size
 | _=>0
theorem a9j {es:Array MapEntry} {r:Nat} {w:World} {m:Option Nat} {s c:Nat} {seen:Array Nat} (h:w.heap[r]? = some (.mapIter m s seen c)):aiu es r w=(leftOf es seen).size:=by
 unfold aiu
 rw [h]
theorem aba {w w':World} {base T z:Nat} {v:Value} {n:Nat} {xs:List Value} (h:w.ownsRow base T z v n xs) (hk:∀ (k:Nat) (cs:Array Value) (t:TypeId) (fr:Nat×Nat),w.heap[k]? = some (Obj.cells cs t fr)→w'.heap[k]? = w.heap[k]?):w'.ownsRow base T z v n xs :=
 ⟨h.1,h.2.imp id fun ⟨g,cap,cur,e,h1,h2,h3⟩=>⟨g,cap,cur,e,h1,(hk g _ _ _ h2).trans h2,h3⟩⟩
theorem a2t.one {W:World} {v:Value} {l:List Int} (h:a2t W v l):v.oneCell' = true:=by
 obtain ⟨_,_,rfl,_⟩:=h
 rfl
theorem a4k {h c:Value} (h1:h.oneCell' = true) (h2:c.oneCell' = true) (a b:Int):ones #[h,a,b,c]=true:=by simp [ones,a0n,h1,h2]
theorem aet {h c:Value} (h1:h.oneCell' = true) (h2:c.oneCell' = true) (o a b:Int):ones #[o,h,a,b,c]=true:=by simp [ones,a0n,h1,h2]
structure ahw (W:World) (p:Nat) (fr cyc:Int) (P:List Int) (hv cv:Value):Prop where
 row:obj W p=some (.cells #[hv,fr,cyc,cv] 65 (0,0))
 hd:W.ownsRow (p+1) 3 1 hv (Zn.hdP fr P).length (a4m (Zn.hdP fr P))
 cy:W.ownsRow (p+1) 3 1 cv (Zn.cyP fr P).length (a4m (Zn.cyP fr P))
 dis:∀ b,hv.ownBlock=some b→cv.ownBlock≠some b
theorem ahw.below {W W':World} {p:Nat} {fr cyc:Int} {P:List Int} {hv cv:Value} (h:ahw W p fr cyc P hv cv) (hb:Below W W W'):ahw W' p fr cyc P hv cv :=
 ⟨a0a h.row hb,a0m h.hd hb,a0m h.cy hb,h.dis⟩
theorem a4z {w:World} {base T z n:Nat} {v:Value} {xs:List Value} (h:w.ownsRow base T z v n xs) {p:Nat} (hp:p < base):v.ownBlock≠some p:=fun e=>by
 have:=a1p h e
 omega
theorem ahw.head {W W5:World} {p:Nat} {fr cyc:Int} {P:List Int} {hv cv v':Value} (h:ahw W p fr cyc P hv cv) {d:Int} (hd:d < fr) (h5:W5.ownsRow (p+1) 3 1 v' ((Zn.hdP fr P).length+1) (a4m (Zn.hdP fr P ++ [d])))
  (hg:W.grownBy W5 hv.ownBlock) (hat:v'.ownBlock=hv.ownBlock∨v'.ownBlock=some W.heap.size):ahw (W5.setCell ⟨p,0,none⟩ v') p fr cyc (P ++ [d]) v' cv:=by
 have hrow:obj W5 p=_:=(hg.block p (a09 h.row) (fun e=>a4z h.hd (xU p) e.symm)).trans h.row
 have hcy:W5.ownsRow (p+1) 3 1 cv (Zn.cyP fr P).length (a4m (Zn.cyP fr P)):=h.cy.kept hg (by
  cases hb:cv.ownBlock with
  | none=>exact .inl rfl
  | some b=>exact .inr fun e=>h.dis b e.symm hb)
 refine ⟨by rw [a0c,hrow];rfl,?_,?_,fun b hb hc=>?_⟩
 ·rw [Zn.amy hd,zX]
  exact yF h5 (a4z h5 (xU p)) _
 ·rw [Zn.an5 hd]
  exact yF hcy (a4z hcy (xU p)) _
 rcases hat with e | e
 ·exact h.dis b (e.symm.trans hb) hc
 rw [e] at hb
 cases hb
 have:=(afs h.cy hc).1
 omega
theorem ahw.cyc {W W5:World} {p:Nat} {fr cyc:Int} {P:List Int} {hv cv v':Value} (h:ahw W p fr cyc P hv cv) {d:Int} (hd : ¬ d < fr) (h5:W5.ownsRow (p+1) 3 1 v' ((Zn.cyP fr P).length+1) (a4m (Zn.cyP fr P ++ [d - fr])))
  (hg:W.grownBy W5 cv.ownBlock) (hat:v'.ownBlock=cv.ownBlock∨v'.ownBlock=some W.heap.size):ahw (W5.setCell ⟨p,3,none⟩ v') p fr cyc (P ++ [d]) hv v':=by
 have hrow:obj W5 p=_:=(hg.block p (a09 h.row) (fun e=>a4z h.cy (xU p) e.symm)).trans h.row
 have hhd:W5.ownsRow (p+1) 3 1 hv (Zn.hdP fr P).length (a4m (Zn.hdP fr P)):=h.hd.kept hg (by
  cases hb:hv.ownBlock with
  | none=>exact .inl rfl
  | some b=>exact .inr fun e=>h.dis b hb e.symm)
 refine ⟨by rw [a0c,hrow];rfl,?_,?_,fun b hb hc=>?_⟩
 ·rw [Zn.aov hd]
  exact yF hhd (a4z hhd (xU p)) _
 ·rw [Zn.apo hd,zX]
  exact yF h5 (a4z h5 (xU p)) _
 rcases hat with e | e
 ·exact h.dis b hb (e.symm.trans hc)
 rw [e] at hc
 cases hc
 have:=(afs h.hd hb).1
 omega
theorem a1f.put {W:World} {v:Value} {l:List (Int×Zn.Per)} (h:a1f W v l) {D:Nat} {p o:Obj} (hD:W.heap[D]? = some p) (hp:∀ r t f,p≠.cells r t f):a1f (W.putObj D o) v l:=by
 have hne:∀ {b:Nat} {row:Array Value} {t:TypeId} {fr:Nat×Nat},obj W b=some (.cells row t fr)→obj (W.putObj D o) b=some (.cells row t fr):=fun {b row t fr} q=>by
  refine (World.putObj_heap_other (fun e=>?_)).trans q
  subst e
  have q:W.heap[b]? = _:=q
  rw [hD] at q
  exact hp _ _ _ (xO q)
 obtain ⟨f,⟨ao,c,h1,h2⟩,h3⟩:=h
 refine ⟨f,⟨ao,c,h1,fun hn=>?_⟩,fun i hi=>(h3 i hi).keep fun _ _ _ q=>hne q⟩
 obtain ⟨b,o,row,T,fr,q1,q2,q3⟩:=h2 hn
 exact ⟨b,o,row,T,fr,q1,hne q2,q3⟩
end Go.Proofs.YtppjleebbjipbaaGreat
