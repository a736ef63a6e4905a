/-
  A map from numbers to lists of spans; lists of spans that grow; number.FloorDiv.
-/
import Derived.Test.YtppjleebbjipbaaGreatQkZop
import Derived.Maps.RangeRun
import Derived.Maps.AppendAt
set_option linter.all false
namespace Zn
def aas:List (Int×List Tr)→Int→Tr→List (Int×List Tr)
 | [],o,s=>[(o,[s])]
 | (k,l) :: r,o,s=>if k=o then (k,l ++ [s]) :: r else (k,l) :: aas r o s
theorem aga:∀ {M:List (Int×List Tr)} {o:Int} {s:Tr},(∀ p∈M,p.1≠o)→aas M o s=M ++ [(o,[s])]
 | [],_,_,_=>rfl
 | (k,l) :: r,o,s,h=>by
  have h1:k≠o:=h _ (yV ..)
  simp only [aas,zS h1,xK]
  rw [aga (fun p hp=>h p (yY _ hp))]
theorem ajn:∀ {M:List (Int×List Tr)} {o:Int} {s:Tr} {i:Nat} {l:List Tr},M[i]? = some (o,l)→(∀ j p,j < i→M[j]? = some p→p.1≠o)→aas M o s=M.set i (o,l ++ [s])
 | [],_,_,_,_,h,_=>by simp at h
 | (k,l) :: r,o,s,0,l',h,_=>by
  have:(k,l)=(o,l'):=by simpa using h
  cases this
  simp [aas]
 | (k,l) :: r,o,s,i+1,l',h,h2=>by
  have h1:k≠o:=h2 0 (k,l) (by omega) rfl
  simp only [aas,zS h1,zI]
  rw [ajn (by simpa using h) (fun j p hj hp=>h2 (j+1) p (by omega) (by simpa using hp))]
end Zn
namespace Go.Proofs.YtppjleebbjipbaaGreat
open Go.RowKit Go.Shelf
set_option maxRecDepth 20000
set_option maxHeartbeats 8000000
theorem a6s {W:World} {a:Int} (h0 : -4611686018427387904≤a) (h1:a≤4611686018427387904) :
  Calls Tryz.prog 106 #[.int .i64 a,.int .i64 1440] W fun e w'=>e=.returned (.tuple #[.int .i64 (a / 1440),.int .i64 0])∧W=w':=by
 have h3:=Int.tmod_eq_emod (a:=a) (b:=1440)
 have h4:=Int.tdiv_eq_ediv (a:=a) (b:=1440)
 have h5:Int.sign (1440:Int)=1:=rfl
 obtain ⟨q,hqq⟩ : ∃ q,a / 1440=q:=⟨_,rfl⟩
 rw [hqq]
 by_cases hm:Int.tmod a 1440 < 0
 ·have hn : ¬ (0≤a∨(1440:Int) ∣ a):=fun h=>by
   rw [zQ h] at h3;omega
  rw [zS hn] at h3 h4
  have ht:Int.tdiv a 1440=q+1:=by omega
  have w2:IntKind.wrap .i64 (Int.tdiv a 1440 - 1)=q:=by rw [ht,show q+1 - 1=q by omega,wrap_in]<;>omega
  have w1:=zWI (Int.tdiv a 1440)
  have w3:=zWI (Int.tmod a 1440)
  have W2:=zA w2
  clear h3 h4 hn h5 hqq ht
  go_enter Tryz.func106,Tryz.ntmps106
  repeat'(first|go_skip|go_guarded|go_step|go_upon)
  go_returns
  exact ⟨by first | rfl | (rw [← W2.out];rfl),rfl⟩
 have ht:Int.tdiv a 1440=q∧-1 < Int.tmod a 1440∧Int.tmod a 1440 < 1440:=by
  by_cases hn:0≤a∨(1440:Int) ∣ a
  ·rw [zQ hn] at h3 h4
   omega
  ·rw [zS hn] at h3 h4
   omega
 obtain ⟨ht,hr0,hr1⟩:=ht
 have w1:=zWI (Int.tdiv a 1440)
 have w3:=zWI (Int.tmod a 1440)
 have HT:=zA ht
 clear h3 h4 h5 hqq ht hr0 hr1
 go_enter Tryz.func106,Tryz.ntmps106
 repeat'(first|go_skip|go_guarded|go_step|go_upon)
 go_returns
 exact ⟨by rw [← HT.out];rfl,rfl⟩
theorem amq : ∃ i,Tryz.prog.info? 77=some i∧i.zero=some (.agg #[(0:Int),(0:Int)])∧i.size=2∧i.bytes=16 :=
 info_parts (show (Tryz.prog.info? 77).map (fun i=>(i.zero,i.size,i.bytes))=some (some (.agg #[(0:Int),(0:Int)]),2,16) by kernel_rfl)
theorem afr {w:World} {base:Nat} {v:Value} {n:Nat} {l:List Zn.Tr} (h:w.ownsRow base 77 2 v n (a4g l)):l.length=n∧a2b w v l∧(0 < l.length→∃ g c,v=.slice (some ⟨g,0,none⟩) n c)∧∃ a c,v=.slice a n c:=by
 have hl:l.length=n:=by have:=h.1;rw [a9f] at this;omega
 refine ⟨hl,?_,?_,?_⟩
 ·rcases h.2 with ⟨rfl,h0⟩ | ⟨g,c,cur,rfl,h1,h2,h3,h4,h5,h6⟩
  ·exact ⟨none,0,by rw [hl,h0],fun hn=>by omega⟩
  refine ⟨_,c,by rw [hl],fun _=>⟨g,0,cur,77,(0,0),rfl,h2,fun i hi=>?_⟩⟩
  have hg:=abx l i hi
  rw [← h6,xQ,zQ (by omega),yU,xQ,zQ (by omega),yU] at hg
  have hs:i * 2+2≤cur.size:=by
   have:=(zL.1 hg.2).1;omega
  refine ⟨by omega,?_⟩
  apply wQ
  intro j
  rw [wG]
  rcases j with _ | _ | j
  ·rw [zQ (by omega),yI,uG,hg.1];rfl
  ·rw [zQ (by omega),yI,yI,hg.2];rfl
  rw [zS (by omega)];rfl
 ·intro h0
  rcases h.2 with ⟨rfl,h1⟩ | ⟨g,c,cur,rfl,_⟩
  ·omega
  exact ⟨g,c,rfl⟩
 rcases h.2 with ⟨rfl,h0⟩ | ⟨g,c,cur,rfl,_⟩
 ·exact ⟨none,0,by rw [h0]⟩
 exact ⟨_,c,rfl⟩
theorem wpList_append_sp {w:World} {ops:Array Oper} {rest:List Oper} {o:Oper} {a:Act} {Q:Exit→Act→World→Prop} (hgd:o.guard=none) (s x:Operand)
  (ho:o.op=.call { callee:=.builtin .append,args:=#[s,x],argTypes:=#[73,73] })
  (base k:Nat) (v:Value) (l:List Zn.Tr) (hs:a.eval s=v) (hown:w.ownsRow base 77 2 v k (a4g l))
  (g:Nat) (t:Zn.Tr) (hx:a.eval x=.slice (some ⟨g,0,none⟩) 1 1) (hg:obj w g=some (.cells #[t.tm,t.off] 77 (0,0))) (h63:k≤1000000000000) (hb:base≤w.heap.size)
  (h:∀ v' w',w'.ownsRow base 77 2 v' (k+1) (a4g (l ++ [t]))→w.grownBy w' v.ownBlock→(v'.ownBlock=v.ownBlock∨v'.ownBlock=some w.heap.size)→wpList Tryz.prog ops Q rest (a.put o.dst v') w'):wpList Tryz.prog ops Q (o :: rest) a w:=by
 obtain ⟨i0,hi,hz0,hz1,hz2⟩:=amq
 refine wpList_append_own_at w hgd s x _ ho base _ i0 _ 2 16 Tryz.underlying73 hi hz0 hz1 hz2 rfl (by decide) v k _ hs hown ⟨g,0,none⟩ 1 1 [.int .i64 t.tm,.int .i64 t.off] hx rfl (fun j q hq=>?_) (fun q hq=>?_) (by unfold maxLen;omega) (by omega) hb fun v' w' q1 q2 _ q3=>h v' w' (by rw [aby];exact q1) q2 q3
 ·rcases j with _ | _ | j
  ·cases hq;exact a02 hg 0
  ·cases hq;exact a02 hg 1
  cases hq
 simp only [yN,xE,or_false] at hq
 rcases hq with rfl | rfl<;>rfl
theorem al3 {P:Program} (w:World) (base:Nat) (t ty e:TypeId) (i:TypeInfo) (z:Value) (ht:P.underlying t=some (.slice e)) (hi:P.info? e=some i) (hz:i.zero=some z)
  (v:Value) (n:Nat) (xs:List Value) (hown:w.ownsRow base e i.size v n xs) (a:Addr) (m c:Nat) (news:List Value) (hl:news.length=m * i.size) (hnews:∀ j u,news[j]? = some u→w.cell? (a.add j)=some u) (h1:∀ u∈news,u.oneCell' = true)
  (h63:n+m≤9223372036854775807) (hfit:∀ cap,cap < n+m→Builtin.nextslicecap (n+m) cap * i.bytes≤281474976710656) {v':Value} {w':World}
  (hr:(Builtin.append_ #[t,t] ty #[v,.slice (some a) m c]).run P w=.ok v' w'):w'.ownsRow base e i.size v n xs:=by
 rcases hown.2 with ⟨rfl,rfl⟩ | ⟨g,cap,cur,rfl,hbg,hg,hnc,hcm,hcs,htake⟩
 ·exact ⟨hown.1,.inl ⟨rfl,rfl⟩⟩
 by_cases hroom:n+m≤cap
 ·have ar7:n * i.size+news.length≤cur.size:=by rw [hl,hcs,← Nat.add_mul];exact Nat.mul_le_mul_right _ hroom
  rw [run_append_room (P:=P) w t ty e i ht hi g n cap cur hg a m c news hl hnews h1 hroom ar7] at hr
  cases hr
  refine ⟨hown.1,.inr ⟨g,cap,_,rfl,hbg,xB w g cur _ e _ hg,hnc,hcm,?_,?_⟩⟩
  ·simp only [xJ,zX,wR,List.length_drop,Array.length_toList]
   omega
  rw [htake,List.append_assoc,← hown.1]
  exact List.take_left
 have holds:∀ j u,xs[j]? = some u→w.cell? ((⟨g,0,none⟩:Addr).add j)=some u:=hown.cells (g:=g) rfl
 rw [run_append_grow (P:=P) w t ty e i z ht hi hz ⟨g,0,none⟩ n cap xs hown.1 holds a m c news hl hnews (by omega) (by omega) (hfit cap (by omega))] at hr
 cases hr
 exact a0m hown bR.drew |> fun h=>a0m h (bR.alloc (zD _) _)
theorem a8m {w:World} {ops:Array Oper} {rest:List Oper} {o:Oper} {a:Act} {Q:Exit→Act→World→Prop} (hgd:o.guard=none) (s x:Operand)
  (ho:o.op=.call { callee:=.builtin .append,args:=#[s,x],argTypes:=#[73,73] })
  (base k:Nat) (v:Value) (l:List Zn.Tr) (hs:a.eval s=v) (hown:w.ownsRow base 77 2 v k (a4g l))
  (g:Nat) (t:Zn.Tr) (hx:a.eval x=.slice (some ⟨g,0,none⟩) 1 1) (hg:obj w g=some (.cells #[t.tm,t.off] 77 (0,0))) (h63:k≤1000000000000) (hb:base≤w.heap.size)
  (h:∀ v' w',w'.ownsRow base 77 2 v' (k+1) (a4g (l ++ [t]))→w.grownBy w' v.ownBlock→(v'.ownBlock=v.ownBlock∨v'.ownBlock=some w.heap.size)→w'.ownsRow base 77 2 v k (a4g l)→wpList Tryz.prog ops Q rest (a.put o.dst v') w'):wpList Tryz.prog ops Q (o :: rest) a w:=by
 obtain ⟨i0,hi,hz0,hz1,hz2⟩:=amq
 have hq1:∀ (j:Nat) (u:Value),([.int .i64 t.tm,.int .i64 t.off]:List Value)[j]? = some u→w.cell? ((⟨g,0,none⟩:Addr).add j)=some u:=fun j q hq=>by
  rcases j with _ | _ | j
  ·cases hq;exact a02 hg 0
  ·cases hq;exact a02 hg 1
  ·cases hq
 have hq2:∀ u∈([.int .i64 t.tm,.int .i64 t.off]:List Value),u.oneCell' = true:=fun q hq=>by
  simp only [yN,xE,or_false] at hq
  rcases hq with rfl | rfl<;>rfl
 refine wpList_plain hgd fun K hK=>?_
 obtain ⟨v',w',hr,h2,h3,h4,h5⟩:=run_append_own_at (P:=Tryz.prog) w base 73 o.type 77 i0 _ 2 16 Tryz.underlying73 hi hz0 hz1 hz2 rfl (by decide) v k _ hown ⟨g,0,none⟩ 1 1 [.int .i64 t.tm,.int .i64 t.off] rfl hq1 hq2 (by unfold maxLen;omega) (by omega) hb
 have h6:=al3 (P:=Tryz.prog) w base 73 o.type 77 i0 _ Tryz.underlying73 hi hz0 v k _ (by rw [hz1];exact hown) ⟨g,0,none⟩ 1 1 [.int .i64 t.tm,.int .i64 t.off] (by rw [hz1];rfl) hq1 hq2 (by omega) (fun cap _=>growslice_fits (by omega) (by rw [hz2];omega)) hr
 rw [hz1] at h6
 unfold Oper.wp execOp
 simp only [ho,resolve,invoke,builtin,vV,Sem.run_pure,Result.andThen_ok,List.map_toArray,List.map_cons,List.map_nil,hs,hx,hr]
 exact hK _ _ (h v' w' (by rw [aby];exact h2) h3 h5 h6)
structure a6w (W:World) (mb base:Nat) (S:Nat→Prop) (es:Array MapEntry) (M:List (Int×List Zn.Tr)):Prop where
 map:W.heap[mb]? = some (.map es es.size)
 len:es.size=M.length
 key:∀ (i:Nat) (e:MapEntry),es[i]? = some e→e.key=.int .i64 (M.getD i default).1
 born:∀ (i:Nat) (e:MapEntry),es[i]? = some e→e.born=i
 row:∀ (i:Nat) (e:MapEntry),es[i]? = some e→W.ownsRow base 77 2 e.val (M.getD i default).2.length (a4g (M.getD i default).2)
 own:∀ (i:Nat) (e:MapEntry) (b:Nat),es[i]? = some e→e.val.ownBlock=some b→S b
 dis:∀ (i j:Nat) (e f:MapEntry) (b:Nat),es[i]? = some e→es[j]? = some f→i≠j→e.val.ownBlock=some b→f.val.ownBlock≠some b
 keys:∀ (i j:Nat),i < M.length→j < M.length→(M.getD i default).1=(M.getD j default).1→i=j
theorem a98 (d:IntKind) (o:Int):∀ (l:List MapEntry) (n:Nat),(∀ e∈l,∃ k,e.key=.int .i64 k) →
  (∃ j e,l[j]? = some e∧e.key=.int .i64 o∧Instr.findNow (.int d) (.int .i64 o) l n=some (some (n+j,e.val)))∨((∀ e∈l,e.key≠.int .i64 o)∧Instr.findNow (.int d) (.int .i64 o) l n=some none)
 | [],n,_=>.inr ⟨fun e he=>(by cases he),rfl⟩
 | x :: l,n,h=>by
  obtain ⟨k,hk⟩:=h x (yV ..)
  by_cases hko:o=k
  ·refine .inl ⟨0,x,rfl,by rw [hk,hko],?_⟩
   unfold Instr.findNow Instr.sameNow
   rw [hk]
   simp [hko]
  ·have hs:Instr.sameNow (.int d) (.int .i64 o) x.key=some false:=by
    rw [hk]
    simp [Instr.sameNow,hko]
   have e:Instr.findNow (.int d) (.int .i64 o) (x :: l) n=Instr.findNow (.int d) (.int .i64 o) l (n+1):=by
    conv=>lhs;unfold Instr.findNow
    rw [hs]
   rw [e]
   rcases a98 d o l (n+1) (fun e he=>h e (yY _ he)) with ⟨j,f,h1,h2,h3⟩ | ⟨h1,h2⟩
   ·exact .inl ⟨j+1,f,by simpa using h1,h2,by rw [h3];simp;omega⟩
   ·exact .inr ⟨fun e he=>by
     rcases yN.1 he with rfl | he
     ·rw [hk]
      intro h
      injection h with _ h
      exact hko h.symm
     ·exact h1 e he,h2⟩
theorem a6w.find {W:World} {mb base:Nat} {S:Nat→Prop} {es:Array MapEntry} {M:List (Int×List Zn.Tr)} (h:a6w W mb base S es M) (o:Int) :
  (∃ j e,es[j]? = some e∧(M.getD j default).1=o∧j < M.length∧Instr.findNow (.int .i64) (.int .i64 o) es.toList 0=some (some (j,e.val)))∨((∀ j,j < M.length→(M.getD j default).1≠o)∧Instr.findNow (.int .i64) (.int .i64 o) es.toList 0=some none):=by
 have hk:∀ e∈es.toList,∃ k,e.key=.int .i64 k:=fun e he=>by
  obtain ⟨i,hi,rfl⟩:=zY.1 he
  exact ⟨_,h.key i _ (by rw [← yU,zK hi])⟩
 rcases a98 .i64 o es.toList 0 hk with ⟨j,e,h1,h2,h3⟩ | ⟨h1,h2⟩
 ·rw [yU] at h1
  have hj:j < M.length:=by rw [← h.len];exact (zL.1 h1).1
  have:=h.key j e h1
  rw [h2] at this
  injection this with _ this
  exact .inl ⟨j,e,h1,this.symm,hj,by rw [h3,yI]⟩
 refine .inr ⟨fun j hj hjo=>?_,h2⟩
 have hj':j < es.size:=by rw [h.len];exact hj
 have hg:es[j]? = some es[j]:=zT hj'
 exact h1 es[j] (by simp) (by rw [h.key j _ hg,hjo])
theorem a6w.keep {W W':World} {mb base:Nat} {S:Nat→Prop} {es:Array MapEntry} {M:List (Int×List Zn.Tr)} (h:a6w W mb base S es M) (hm:W'.heap[mb]? = W.heap[mb]?) (hs:∀ k,S k→k < W.heap.size→W'.heap[k]? = W.heap[k]?):a6w W' mb base S es M:=by
 refine ⟨hm.trans h.map,h.len,h.key,h.born,fun i e he=>?_,h.own,h.dis,h.keys⟩
 obtain ⟨h1,h2⟩:=h.row i e he
 refine ⟨h1,h2.imp id fun ⟨g,cap,cur,q0,q1,q2,q3⟩=>⟨g,cap,cur,q0,q1,?_,q3⟩⟩
 exact (hs g (h.own i e g he (by rw [q0];rfl)) (a09 (w:=W) q2)).trans q2
theorem alz (W:World):(zeroValue 73).run Tryz.prog W=.ok (.slice none 0 0) W:=by kernel_rfl
def Found (es:Array MapEntry) (M:List (Int×List Zn.Tr)) (o:Int) (v:Value) (l:List Zn.Tr):Prop :=
 (∃ (j:Nat) (e:MapEntry),es[j]? = some e∧v=e.val∧M[j]? = some (o,l)∧Instr.findNow (.int .i64) (.int .i64 o) es.toList 0=some (some (j,e.val)))∨(v=.slice none 0 0∧l = []∧(∀ j,j < M.length→(M.getD j default).1≠o)∧Instr.findNow (.int .i64) (.int .i64 o) es.toList 0=some none)
theorem a6w.mono {W:World} {mb base:Nat} {S S':Nat→Prop} {es:Array MapEntry} {M:List (Int×List Zn.Tr)} (h:a6w W mb base S es M) (hs:∀ k,S k→S' k):a6w W mb base S' es M :=
 ⟨h.map,h.len,h.key,h.born,h.row,fun i e b h1 h2=>hs _ (h.own i e b h1 h2),h.dis,h.keys⟩
theorem a6w.lookup {W:World} {mb base:Nat} {S:Nat→Prop} {es:Array MapEntry} {M:List (Int×List Zn.Tr)} (h:a6w W mb base S es M) (o:Int) : ∃ (v:Value) (l:List Zn.Tr),
  (∀ W':World,W'.heap[mb]? = W.heap[mb]?→(Instr.lookup 154 (.map (some mb)) (.int .i64 o) false).run Tryz.prog W' = .ok v W')∧W.ownsRow base 77 2 v l.length (a4g l)∧Found es M o v l:=by
 have hd:Tryz.prog.underlying 3=some (.int .i64):=Tryz.underlying3
 have hm:Tryz.prog.underlying 154=some (.map 3 73):=Tryz.underlying154
 have hik:MapKept.IsKey (.int .i64) (.int .i64 o):=rfl
 rcases h.find o with ⟨j,e,h1,h2,h3,h4⟩ | ⟨h1,h2⟩
 ·have hr:=h.row j e h1
  refine ⟨e.val,(M.getD j default).2,fun W' hW'=>?_,hr,.inl ⟨j,e,h1,rfl,?_,h4⟩⟩
  ·simp [Instr.lookup,vS hm,MapKept.run_getObj_map (hW'.trans h.map),MapKept.run_checkKey hd hik,MapKept.run_findKey hd h4,Result.andThen]
  rw [zK h3,← h2]
  simp [h3]
 refine ⟨_,[],fun W' hW'=>?_,⟨rfl,.inl ⟨rfl,rfl⟩⟩,.inr ⟨rfl,rfl,h1,h2⟩⟩
 simp [Instr.lookup,vS hm,MapKept.run_getObj_map (hW'.trans h.map),MapKept.run_checkKey hd hik,MapKept.run_findKey hd h2,Result.andThen,alz]
theorem afs {w:World} {base T z n b:Nat} {v:Value} {xs:List Value} (h:w.ownsRow base T z v n xs) (hb:v.ownBlock=some b):b < w.heap.size∧∃ cs t fr,w.heap[b]? = some (.cells cs t fr):=by
 rcases h.2 with ⟨rfl,_⟩ | ⟨g,cap,cur,rfl,h1,h2,_⟩
 ·cases hb
 cases hb
 exact ⟨(zL.1 h2).1,_,_,_,h2⟩
theorem a6w.store {W W5:World} {mb base:Nat} {S:Nat→Prop} {es:Array MapEntry} {M:List (Int×List Zn.Tr)} (h:a6w W mb base S es M) {o:Int} {s:Zn.Tr} {v v':Value} {l:List Zn.Tr} (hf:Found es M o v l)
  (h1:W5.ownsRow base 77 2 v' (l.length+1) (a4g (l ++ [s]))) (hg:W.grownBy W5 v.ownBlock) (hat:v'.ownBlock=v.ownBlock∨∃ q,v'.ownBlock=some q∧W.heap.size≤q) (hS:∀ k,S k→k < W.heap.size) :
  ∃ es':Array MapEntry,(Instr.mapUpdate 154 (.map (some mb)) (.int .i64 o) v').run Tryz.prog W5=.ok () (W5.putObj mb (.map es' es'.size))∧a6w (W5.putObj mb (.map es' es'.size)) mb base (fun k=>S k∨(W.heap.size≤k∧k < W5.heap.size)) es' (Zn.aas M o s):=by
 have hd:Tryz.prog.underlying 3=some (.int .i64):=Tryz.underlying3
 have hm:Tryz.prog.underlying 154=some (.map 3 73):=Tryz.underlying154
 have hik:MapKept.IsKey (.int .i64) (.int .i64 o):=rfl
 have hlt:mb < W.heap.size:=(zL.1 h.map).1
 have hrow:∀ (i:Nat) (e:MapEntry),es[i]? = some e→W.ownsRow base 77 2 e.val (M.getD i default).2.length (a4g (M.getD i default).2):=h.row
 have hvb:v.ownBlock≠some mb:=fun hb=>by
  rcases hf with ⟨j,e,q1,q2,_⟩ | ⟨q,_⟩
  ·rw [q2] at hb
   obtain ⟨_,cs,t,fr,q3⟩:=afs (h.row j e q1) hb;rw [h.map] at q3;cases q3
  ·rw [q] at hb
   cases hb
 have aey:W5.heap[mb]? = some (.map es es.size):=(hg.block mb hlt (fun e=>hvb e.symm)).trans h.map
 have hlt5:mb < W5.heap.size:=(zL.1 aey).1
 have hsz:=hg.size
 have hold:∀ (i:Nat) (e:MapEntry),es[i]? = some e→(v.ownBlock=none∨e.val.ownBlock≠v.ownBlock)→∀ o2:Obj,(W5.putObj mb o2).ownsRow base 77 2 e.val (M.getD i default).2.length (a4g (M.getD i default).2):=fun i e hi hn o2=>by
  have hk:W5.ownsRow base 77 2 e.val (M.getD i default).2.length (a4g (M.getD i default).2):=(h.row i e hi).kept hg (by
   rcases hn with hn | hn
   ·cases hb:e.val.ownBlock with
    | none=>exact .inl rfl
    | some b=>exact .inr (by rw [hn];exact fun q=>by cases q)
   ·exact .inr hn)
  exact a9h hk aey (fun _ _ _ q=>by cases q)
 have hnew:∀ o2:Obj,(W5.putObj mb o2).ownsRow base 77 2 v' (l.length+1) (a4g (l ++ [s])):=fun o2=>a9h h1 aey (fun _ _ _ q=>by cases q)
 have hb':∀ b,v'.ownBlock=some b→v.ownBlock=some b∨W.heap.size≤b:=fun b hb=>by
  rcases hat with q | ⟨q,q1,q2⟩
  ·exact .inl (q.symm.trans hb)
  ·rw [q1] at hb
   cases hb;exact .inr q2
 have hS5:∀ k,S k→¬ W.heap.size≤k:=fun k hk=>by have:=hS k hk;omega
 have hn5:∀ b,v'.ownBlock=some b→b < W5.heap.size:=fun b hb=>(afs h1 hb).1
 rcases hf with ⟨j,e,q1,q2,q3,q4⟩ | ⟨q1,q2,q3,q4⟩
 ·have hjM:j < M.length:=(vK.1 q3).1
  have hjD:M.getD j default=(o,l):=by rw [zB,q3];rfl
  have hkey:e.key=.int .i64 o:=by rw [h.key j e q1,hjD]
  have hne:∀ i,i < M.length→i≠j→(M.getD i default).1≠o:=fun i hi hij ho=>hij (h.keys i j hi hjM (by rw [hjD,ho]))
  have hM:Zn.aas M o s=M.set j (o,l ++ [s]):=Zn.ajn q3 fun i p hi hp=>by
   have:=hne i (by omega) (by omega)
   rwa [zB,hp] at this
  have hD:∀ i,(M.set j (o,l ++ [s])).getD i default=if i=j then (o,l ++ [s]) else M.getD i default:=fun i=>by
   rw [zB,zB,List.getElem?_set];by_cases hij:j=i
   ·subst hij
    simp [hjM]
   ·rw [zS hij,zS (fun q=>hij q.symm)]
  obtain ⟨es',hes⟩ : ∃ es',es.modify j (fun x=>{ x with key:=.int .i64 o,val:=v' })=es':=⟨_,rfl⟩
  have hsz':es'.size=es.size:=by rw [← hes];simp
  have hat':∀ (i:Nat) (x:MapEntry),es'[i]? = some x→(i=j∧x={ e with key:=.int .i64 o,val:=v' })∨(i≠j∧es[i]? = some x):=fun i x hx=>by
   rw [← hes,xR] at hx;by_cases hij:j=i
   ·subst hij
    rw [zQ rfl,q1] at hx;exact .inl ⟨rfl,by simpa using hx.symm⟩
   ·rw [zS hij] at hx
    exact .inr ⟨fun q=>hij q.symm,hx⟩
  refine ⟨es',?_,?_⟩
  ·rw [hsz',← hes]
   simp [Instr.mapUpdate,vS hm,MapKept.run_getObj_map aey,MapKept.run_checkKey hd hik,MapKept.run_findKey hd q4,q1,hkey,MapKept.run_keyThatStays hik,MapKept.run_setObj_map _ aey,Result.andThen,World.putObj]
  rw [hM]
  refine ⟨World.putObj_heap_same hlt5,by rw [hsz',h.len,uK],fun i x hx=>?_,fun i x hx=>?_,fun i x hx=>?_,fun i x b hx hb=>?_,fun i i2 x y b hx hy hii hb hb2=>?_,fun i i2 hi hi2 hk=>?_⟩
  ·rw [hD]
   rcases hat' i x hx with ⟨rfl,rfl⟩ | ⟨hij,hx⟩
   ·rw [zQ rfl]
   rw [zS hij];exact h.key i x hx
  ·rcases hat' i x hx with ⟨rfl,rfl⟩ | ⟨hij,hx⟩
   ·exact h.born i e q1
   exact h.born i x hx
  ·rw [hD]
   rcases hat' i x hx with ⟨rfl,rfl⟩ | ⟨hij,hx⟩
   ·rw [zQ rfl]
    simpa using hnew _
   rw [zS hij];refine hold i x hx ?_ _
   cases hvo:v.ownBlock with
   | none=>exact .inl rfl
   | some b=>exact .inr (h.dis j i e x b q1 hx (fun q=>hij q.symm) (by rw [← q2];exact hvo))
  ·rcases hat' i x hx with ⟨rfl,rfl⟩ | ⟨hij,hx⟩
   ·rcases hb' b hb with hb1 | hbn
    ·exact .inl (h.own i e b q1 (by rw [← q2];exact hb1))
    exact .inr ⟨hbn,hn5 b hb⟩
   exact .inl (h.own i x b hx hb)
  ·rcases hat' i x hx with ⟨rfl,rfl⟩ | ⟨hij,hx⟩
   ·rcases hat' i2 y hy with ⟨rfl,rfl⟩ | ⟨hij2,hy⟩
    ·exact hii rfl
    rcases hb' b hb with hb1 | hbn
    ·exact h.dis i i2 e y b q1 hy hii (by rw [← q2];exact hb1) hb2
    exact hS5 _ (h.own i2 y _ hy hb2) hbn
   rcases hat' i2 y hy with ⟨rfl,rfl⟩ | ⟨hij2,hy⟩
   ·rcases hb' b hb2 with hb1 | hbn
    ·exact h.dis i i2 x e b hx q1 hii hb (by rw [← q2];exact hb1)
    exact hS5 _ (h.own i x _ hx hb) hbn
   exact h.dis i i2 x y b hx hy hii hb hb2
  rw [uK] at hi hi2
  rw [hD,hD] at hk
  refine h.keys i i2 hi hi2 ?_
  by_cases hij:i=j
  ·rw [zQ hij] at hk
   rw [hij,hjD];by_cases hij2:i2=j
   ·rw [hij2,hjD]
   rw [zS hij2] at hk;exact hk
  rw [zS hij] at hk
  by_cases hij2:i2=j
  ·rw [zQ hij2] at hk
   rw [hij2,hjD];exact hk
  rw [zS hij2] at hk;exact hk
 subst q2
 have hM:Zn.aas M o s=M ++ [(o,[s])]:=Zn.aga fun p hp=>by
  obtain ⟨i,hi,rfl⟩:=zY.1 hp
  have:=q3 i hi
  rwa [zB,zK hi] at this
 have hvn:v.ownBlock=none:=by rw [q1];rfl
 have hD:∀ i,i≤M.length→(M ++ [(o,[s])]).getD i default=if i=M.length then (o,[s]) else M.getD i default:=fun i hi=>by
  rw [zB,zB]
  by_cases hij:i=M.length
  ·subst hij
   simp
  ·rw [zS hij,xF (by omega)]
 have hat':∀ (i:Nat) (x:MapEntry),(es.push { key:=.int .i64 o,val:=v',born:=es.size })[i]? = some x→(i=M.length∧x={ key:=.int .i64 o,val:=v',born:=es.size })∨(i < M.length∧es[i]? = some x):=fun i x hx=>by
  rw [Array.getElem?_push] at hx
  by_cases hij:i=es.size
  ·rw [zQ hij] at hx
   exact .inl ⟨by rw [hij,h.len],by simpa using hx.symm⟩
  ·rw [zS hij] at hx
   exact .inr ⟨by rw [← h.len];exact (zL.1 hx).1,hx⟩
 refine ⟨es.push { key:=.int .i64 o,val:=v',born:=es.size },?_,?_⟩
 ·simp [Instr.mapUpdate,vS hm,MapKept.run_getObj_map aey,MapKept.run_checkKey hd hik,MapKept.run_findKey hd q4,MapKept.run_setObj_map _ aey,Result.andThen,World.putObj]
 rw [hM]
 refine ⟨World.putObj_heap_same hlt5,by simp [h.len],fun i x hx=>?_,fun i x hx=>?_,fun i x hx=>?_,fun i x b hx hb=>?_,fun i i2 x y b hx hy hii hb hb2=>?_,fun i i2 hi hi2 hk=>?_⟩
 ·rcases hat' i x hx with ⟨rfl,rfl⟩ | ⟨hij,hx⟩
  ·rw [hD _ (zD _),zQ rfl]
  rw [hD _ (by omega),zS (by omega)];exact h.key i x hx
 ·rcases hat' i x hx with ⟨rfl,rfl⟩ | ⟨hij,hx⟩
  ·exact h.len
  exact h.born i x hx
 ·rcases hat' i x hx with ⟨rfl,rfl⟩ | ⟨hij,hx⟩
  ·rw [hD _ (zD _),zQ rfl]
   simpa using hnew _
  rw [hD _ (by omega),zS (by omega)]
  exact hold i x hx (.inl hvn) _
 ·rcases hat' i x hx with ⟨rfl,rfl⟩ | ⟨hij,hx⟩
  ·rcases hb' b hb with hb1 | hbn
   ·rw [hvn] at hb1;cases hb1
   exact .inr ⟨hbn,hn5 b hb⟩
  exact .inl (h.own i x b hx hb)
 ·rcases hat' i x hx with ⟨rfl,rfl⟩ | ⟨hij,hx⟩
  ·rcases hat' i2 y hy with ⟨rfl,rfl⟩ | ⟨hij2,hy⟩
   ·exact hii rfl
   rcases hb' b hb with hb1 | hbn
   ·rw [hvn] at hb1;cases hb1
   exact hS5 _ (h.own i2 y _ hy hb2) hbn
  rcases hat' i2 y hy with ⟨rfl,rfl⟩ | ⟨hij2,hy⟩
  ·rcases hb' b hb2 with hb1 | hbn
   ·rw [hvn] at hb1;cases hb1
   exact hS5 _ (h.own i x _ hx hb) hbn
  exact h.dis i i2 x y b hx hy hii hb hb2
 simp only [zX,yS,xI] at hi hi2
 rw [hD _ (by omega),hD _ (by omega)] at hk
 by_cases hij:i=M.length
 ·by_cases hij2:i2=M.length
  ·omega
  rw [zQ hij,zS hij2] at hk
  exact absurd hk.symm (q3 i2 (by omega))
 by_cases hij2:i2=M.length
 ·rw [zS hij,zQ hij2] at hk
  exact absurd hk (q3 i (by omega))
 rw [zS hij,zS hij2] at hk
 exact h.keys i i2 (by omega) (by omega) hk
theorem aef {P:Program} {w:World} {ops:Array Oper} {rest:List Oper} {o:Oper} {a:Act} {Q:Exit→Act→World→Prop} (hg:o.guard=none) (m x:Operand) (t:TypeId) (hop:o.op=Op.lookup t m x false) (vm vk v:Value) (hm:a.eval m=vm) (hx:a.eval x=vk)
  (hrun:(Instr.lookup t vm vk false).run P w=.ok v w) (hK:wpList P ops Q rest (a.put o.dst v) w):wpList P ops Q (o :: rest) a w:=by
 refine wpList_plain hg fun K' hK'=>?_
 unfold Oper.wp
 simp [execOp,hop,hm,hx,hrun,Result.andThen]
 exact hK' _ _ hK
theorem agh {P:Program} {w w':World} {ops:Array Oper} {rest:List Oper} {o:Oper} {a:Act} {Q:Exit→Act→World→Prop} (hg:o.guard=none) (m x v:Operand) (t:TypeId) (hop:o.op=Op.mapUpdate t m x v) (vm vk vv:Value) (hm:a.eval m=vm) (hx:a.eval x=vk) (hv:a.eval v=vv)
  (hrun:(Instr.mapUpdate t vm vk vv).run P w=.ok () w') (hK:wpList P ops Q rest (a.put o.dst undef) w'):wpList P ops Q (o :: rest) a w:=by
 refine wpList_plain hg fun K' hK'=>?_
 unfold Oper.wp
 simp [execOp,hop,hm,hx,hv,hrun,Result.andThen]
 exact hK' _ _ hK
end Go.Proofs.YtppjleebbjipbaaGreat
