/-
  civil: open, cycle, Cycle.
-/
import Derived.Test.YtppjleebbjipbaaGreatQkZnc
import Derived.Deep.Cut
import Derived.Deep.CutRange
set_option linter.all false
namespace Go.Proofs.YtppjleebbjipbaaGreat
open Go.RowKit
set_option maxRecDepth 20000
set_option maxHeartbeats 8000000
theorem a0q {P:Program} {fn:Func} {p u:Tmp} {ty:TypeId} (h:fn.results=#[.cell p ty,.tmp u]) (tmps:Array Value) (w:World) (g:Nat) (t:TypeId) (cs:Array Value) (fr:Nat×Nat) (d:TypeDesc) (v:Value)
  (hp:tmps.getD p undef=.pointer (some ⟨g,0,none⟩)) (hg:w.heap[g]? = some (.cells cs t fr))
  (hu:P.underlying ty=some d) (hd:(match d with | .struct _ | .array _ _=>true | _=>false)=true) (hi:(P.info? ty).map (·.size)=some cs.size) (hv:tmps.getD u undef=v) :
  (results fn tmps).run P w=.ok (.tuple #[.agg cs,v]) w:=by
 rw [results_cell_tmp h,hp,hv]
 simp [asAddr,run_loadVar_row w g t ty cs fr d hg hu hd hi,Result.andThen]
theorem a9l : ∃ i,Tryz.prog.info? 3=some i∧i.zero=some (.int .i64 0)∧i.size=1∧i.bytes=8 :=
 info_parts (show (Tryz.prog.info? 3).map (fun i=>(i.zero,i.size,i.bytes))=some (some (.int .i64 0),1,8) by kernel_rfl)
theorem a4p {w:World} {ops:Array Oper} {rest:List Oper} {o:Oper} {a:Act} {Q:Exit→Act→World→Prop} (hgd:o.guard=none) (s x:Operand)
  (ho:o.op=.call { callee:=.builtin .append,args:=#[s,x],argTypes:=#[28,28] })
  (base k:Nat) (v:Value) (xs:List Value) (hs:a.eval s=v) (hown:w.ownsRow base 3 1 v k xs)
  (g:Nat) (u:Value) (hx:a.eval x=.slice (some ⟨g,0,none⟩) 1 1) (hg:obj w g=some (.cells #[u] 3 (0,0))) (h1:u.oneCell' = true) (h63:k≤1000000000000) (hb:base≤w.heap.size)
  (h:∀ v' w',w'.ownsRow base 3 1 v' (k+1) (xs ++ [u])→w.grownBy w' v.ownBlock→wpList Tryz.prog ops Q rest (a.put o.dst v') w'):wpList Tryz.prog ops Q (o :: rest) a w:=by
 obtain ⟨i0,hi,hz0,hz1,hz2⟩:=a9l
 refine uD w hgd s x _ ho base _ i0 _ 1 8 Tryz.underlying28 hi hz0 hz1 hz2 rfl (by decide) v k xs hs hown ⟨g,0,none⟩ 1 1 [u] hx rfl (fun j q hq=>?_) (fun q hq=>?_) (by unfold maxLen;omega) (by omega) hb fun v' w' q1 q2 _=>h v' w' q1 q2
 ·have hj:j=0:=by
   have:=(vK.1 hq).1;simpa using this
  subst hj
  cases hq
  exact a02 hg 0
 rw [yD.1 hq];exact h1
theorem a1p {w:World} {base T z:Nat} {v:Value} {n:Nat} {xs:List Value} (h:w.ownsRow base T z v n xs) {g:Nat} (hg:v.ownBlock=some g):base≤g:=(h.lt g hg).1
theorem a0m {w w':World} {base T z:Nat} {v:Value} {n:Nat} {xs:List Value} (h:w.ownsRow base T z v n xs) (hb:Below w w w'):w'.ownsRow base T z v n xs:=by
 refine ⟨h.1,h.2.imp id fun ⟨g,cap,cur,e,h1,h2,h3⟩=>⟨g,cap,cur,e,h1,?_,h3⟩⟩
 exact (hb.block g (a09 (w:=w) h2)).trans h2
def a4m (l:List Int):List Value:=l.map fun n=>.int .i64 n
theorem a2o {w:World} {base:Nat} {v:Value} {n:Nat} {l:List Int} (h:w.ownsRow base 3 1 v n (a4m l)):l.length=n∧a1s w v l∧∃ a c,v=.slice a n c:=by
 have hl:l.length=n:=by have:=h.1;simpa [a4m] using this
 refine ⟨hl,?_,?_⟩
 ·rcases h.2 with ⟨rfl,h0⟩ | ⟨g,c,cur,rfl,h1,h2,h3,h4,h5,h6⟩
  ·exact ⟨none,0,by rw [hl,h0],fun hn=>by omega⟩
  refine ⟨_,c,by rw [hl],fun _=>⟨g,0,cur,3,(0,0),rfl,h2,fun i hi=>?_⟩⟩
  have h7:(cur.toList.take (n * 1))[i]? = (a4m l)[i]? := by rw [h6]
  rw [xQ,zQ (by omega),yU] at h7
  rw [yI,h7,zB,zK hi]
  simp [a4m,hi]
 rcases h.2 with ⟨rfl,h0⟩ | ⟨g,c,cur,rfl,_⟩
 ·exact ⟨none,0,by rw [h0]⟩
 exact ⟨_,c,rfl⟩
def a3k (c:Zn.Cal) (n:Nat):List Int:=(List.range n).map fun i=>Zn.a0z c i
theorem amj {w:World} {v:Value} {l:List Int} (h:a1s w v l) {base n:Nat} {xs:List Value} (hown:w.ownsRow base 3 1 v n xs) {g:Nat} (hne:v.ownBlock≠some g) (cs:Array Value):a1s (w.setRow g cs) v l:=by
 obtain ⟨a,c,rfl,h⟩:=h
 refine ⟨a,c,rfl,fun hl=>?_⟩
 obtain ⟨b,o,row,T,fr,rfl,h1,h2⟩:=h hl
 rcases hown.2 with ⟨e,_⟩ | ⟨q,c',cur,e,_⟩
 ·cases e
 cases e
 exact ⟨_,_,row,T,fr,rfl,a2q h1 (fun e=>hne (by rw [← e];rfl)) _,h2⟩
theorem a5r (c:Zn.Cal) (n:Nat):(a3k c n).length=n:=by simp [a3k]
theorem ad2 (c:Zn.Cal) (n:Nat):a3k c (n+1)=a3k c n ++ [Zn.a0z c n]:=by simp [a3k,List.range_succ]
theorem a9x (c:Zn.Cal) {n i:Nat} (h:i < n):(a3k c n).getD i 0=Zn.a0z c i:=by
 rw [zB,zK (by rw [a5r];exact h)]
 simp [a3k]
theorem a19 {w w':World} {base T T' z g:Nat} {v:Value} {n:Nat} {xs:List Value} {r:Array Value} {fr:Nat×Nat} (hown:w.ownsRow base T z v n xs) (h:obj w g=some (.cells r T' fr)) (hne:T≠T') (hg:w.grownBy w' v.ownBlock):obj w' g=some (.cells r T' fr):=by
 refine ahb h hg fun e=>?_
 rcases hown.2 with ⟨rfl,_⟩ | ⟨q,c,cur,rfl,_,q2,_⟩
 ·cases e
 cases e
 have:=(show obj w _=some _ from q2).symm.trans h
 injection this with q2
 injection q2 with _ q3 _
 exact hne q3
theorem a2f {w:World} {base T T' z g:Nat} {v:Value} {n:Nat} {xs:List Value} {r:Array Value} {fr:Nat×Nat} (hown:w.ownsRow base T z v n xs) (h:obj w g=some (.cells r T' fr)) (hne:T≠T'):v.ownBlock≠some g:=by
 intro e
 rcases hown.2 with ⟨rfl,_⟩ | ⟨q,c,cur,rfl,_,q2,_⟩
 ·cases e
 cases e
 have:=(show obj w _=some _ from q2).symm.trans h
 injection this with q2
 injection q2 with _ q3 _
 exact hne q3
theorem a3x {w:World} {base T z:Nat} {v:Value} {n:Nat} {xs:List Value} (h:w.ownsRow base T z v n xs):v.oneCell' = true:=by
 rcases h.2 with ⟨rfl,_⟩ | ⟨g,c,cur,rfl,_⟩<;>rfl
theorem aln (n:Nat):(madeCells (Value.int .i64 0).cells (n+1)).size=n+1∧(madeCells (Value.int .i64 0).cells (n+1)).toList.take 1 = [.int .i64 0]:=by
 have hs:(madeCells (Value.int .i64 0).cells (n+1)).size=n+1:=size_madeCells _ _
 refine ⟨hs,?_⟩
 apply List.ext_getElem?
 intro i
 rw [xQ]
 split
 ·have hi:i=0:=by omega
  subst hi
  rw [yU,zT (by omega)]
  simp [madeCells,Value.cells]
 rw [List.getElem?_eq_none (by simp;omega)]
theorem ah2 {W:World} {c:Zn.Cal} {mv rv:Value} (hv:a8w W c mv rv) (hok:c.ok=true) :
  Calls Tryz.prog 74 #[.agg #[c.a08,mv,c.a0l,rv]] W fun e w' => ∃ sv,e=.returned (.tuple #[.agg #[c.a08,mv,c.a0l,rv,sv],.bool true])∧a1s w' sv (a3k c (c.a5b+1))∧Below W W w':=by
 obtain ⟨hd,hmo,hr,amu,hy1,hy4⟩:=a1h hok
 have h16:=hd.m16
 have h17:=hd.r16
 have hon:ones #[c.a08,mv,c.a0l,rv]=true:=a6t hv.mon.one hv.rul.one
 have orv:=hv.rul.one
 have HCV:=zA hv
 obtain ⟨mo,mc,hmv,_⟩:=hv.mon
 subst hmv
 have b1:obj ((W.alloc (.cells #[c.a08,(.slice mo c.a0g.length mc),c.a0l,rv] 31)).alloc (.cells #[(0:Int),.slice none 0 0,(0:Int),.slice none 0 0,.slice none 0 0] 124)) W.heap.size=some (.cells #[c.a08,(.slice mo c.a0g.length mc),c.a0l,rv] 31 (0,0)):=a06 (a05 _ _ _ rfl) _
 have b2:obj ((W.alloc (.cells #[c.a08,(.slice mo c.a0g.length mc),c.a0l,rv] 31)).alloc (.cells #[(0:Int),.slice none 0 0,(0:Int),.slice none 0 0,.slice none 0 0] 124)) (W.heap.size+1)=some (.cells #[(0:Int),.slice none 0 0,(0:Int),.slice none 0 0,.slice none 0 0] 124):=a05 _ _ _ (by simp)
 have w1B:Below W W ((W.alloc (.cells #[c.a08,(.slice mo c.a0g.length mc),c.a0l,rv] 31)).alloc (.cells #[(0:Int),.slice none 0 0,(0:Int),.slice none 0 0,.slice none 0 0] 124)):=(bR.alloc (zD _) _).alloc (by simp) _
 have HVD:=zA (a5q (HCV.out.below w1B) (by omega) (by omega))
 unfold a4d at HVD
 rw [hok] at HVD
 have HP:=zA (fun (W':World) (hb:Below W W W')=>a94 (HCV.out.below hb).rul (by omega))
 unfold ajw at HP
 rw [amu] at HP
 have HYR:=zA (fun (W':World) (hb:Below W W W') (s:Value) (hs:s.oneCell' = true) (y:Int)=>ab2 (HCV.out.below hb) hs hok y)
 have HSL:=zA (Zn.a1v hok)
 have HYL:=zA (Zn.a5p hok)
 have HSS:Hid (∀ k,Zn.a0z c (k+1)=Zn.a0z c k+Zn.a4f c (k+1)):=zA fun _=>rfl
 clear hd hmo hr amu hok hv
 generalize c.a5b=n at *
 obtain ⟨i0,hi,hz0,hz1,hz2⟩:=a9l
 have HMK:=zA (fun (Wq:World)=>show (Instr.makeSlice 28 (.int .i64 1) (.int .i64 ((n:Nat)+1:Int))).run Tryz.prog Wq=.ok (.slice (some ⟨Wq.heap.size,0,none⟩) 1 (n+1)) (Wq.alloc (.cells (madeCells (Value.int .i64 0).cells (n+1)) 3)) by
  have:=run_make (P:=Tryz.prog) Wq 28 3 i0 (.int .i64 0) Tryz.underlying28 hi hz0 .i64 .i64 1 ((n:Nat)+1:Int) (by omega) (by omega) (by rw [hz2];omega) (by omega)
  rw [this,hz1]
  simp)
 clear hi hz0 hz1 hz2
 have wn:=zWI ((n:Int)+1)
 go_enter Tryz.func74,Tryz.ntmps74
 repeat' ((go_not_at_region 4);(first | (go_at_call 94;((with_reducible refine (HVD.out).mono ?_));rintro e w4 ⟨rfl,hb4⟩;have b14:=a0a b1 hb4;have b24:=a0a b2 hb4;have w4B:=w1B.trans (hb4.mono w1B.size);have c43:=a02 b14 3;have HP4:=zA (HP.out _ w4B);dsimp only) | (go_at_call 114;((with_reducible refine (HP4.out).mono ?_));rintro e w5 ⟨rfl,hb5⟩;have b15:=a0a b14 hb5;have b25:=a0a b24 hb5;have w5B:=w4B.trans (hb5.mono w4B.size);dsimp only)|go_skip|go_guarded|go_step|go_upon))
 clear HVD HP HP4 b1 b2 b14 b24 c43 hb4 hb5 w4B w1B
 have b1:=b15
 have b2:=b25
 have l1:=a09 b1
 have l2:=a09 b2
 clear b15 b25
 refine a0k 6 [([],fun v _=>v=.agg #[c.a08,(.slice mo c.a0g.length mc),c.a0l,rv]),([],fun v _=>v=.int .i64 (n:Nat)),([1],fun v _=>v=.int .i64 ((n:Nat)+1:Int)),([2],fun v W' => ∃ g,v=.slice (some ⟨g,0,none⟩) 1 (n+1)∧obj W' g=some (.cells (madeCells (Value.int .i64 0).cells (n+1)) 3 (0,0))∧w5.heap.size≤g),([0,3],fun v W' => ∃ g,v=.agg #[c.a08,(.slice mo c.a0g.length mc),c.a0l,rv,.slice (some ⟨g,0,none⟩) 1 (n+1)]∧obj W' g=some (.cells (madeCells (Value.int .i64 0).cells (n+1)) 3 (0,0))∧w5.heap.size≤g),
   ([],fun v W' => ∃ g,v=.pointer (some ⟨g,0,none⟩)∧obj W' g=some (.cells #[(0:Int),.slice none 0 0,(0:Int),.slice none 0 0,.slice none 0 0] 124)∧w5.heap.size≤g)] (by kernel_rfl) (by kernel_rfl) (by kernel_rfl) ?st ?ob ?_
 case st => intro k v W1 W2 h hb;rcases k with _|_|_|_|_|_|k<;>first | exact h | trivial | (obtain ⟨g,h1,h2,h3⟩:=h;exact ⟨g,h1,a0a h2 hb,h3⟩) | (obtain ⟨g,h1,h2,h3⟩:=h;exact ⟨g,h1,a0a h2 hb,h3⟩) | (obtain ⟨g,h1,h2,h3⟩:=h;exact ⟨g,h1,a0a h2 hb,h3⟩)
 case ob =>
  and_intros<;>
  first
   | exact ⟨⟩
   | (intro vs Wq hW hk;(have q0:=a04 b1 hW l1);(try simp only [knows,Spec.at',↓zH,↓zG,yL] at hk);simp only [Spec.at',↓zH,↓zG,a00,a03,yy0,yy1,yy2,yy3];(try simp only [hk]);first | ((repeat'(first|go_skip|go_guarded|go_step|go_upon));exact a01 _ rfl (by go_simp) bR rfl) | fail)
   | (
     intro vs Wq hW hk;have g2:vs 2=.int .i64 ((n:Nat)+1:Int):=hk.1;clear hk;change wpList _ _ _ _ (a00 _ vs [2] _) _;simp only [a00,a03,yy0,yy1,yy2,yy3];rw [g2];have hmk:=HMK.out Wq
     repeat'(first|go_skip|go_guarded|go_step|go_upon)
     exact a01 (.slice (some ⟨Wq.heap.size,0,none⟩) 1 (n+1)) rfl (by go_simp) (bR.alloc (zD _) _) ⟨_,rfl,a05 _ _ _ rfl,hW.size⟩)
   | (
     intro vs Wq hW hk;have g0:vs 0=.agg #[c.a08,(.slice mo c.a0g.length mc),c.a0l,rv]:=hk.1;have g3:(fun v W' => ∃ g,v=.slice (some ⟨g,0,none⟩) 1 (n+1)∧obj W' g=some (.cells (madeCells (Value.int .i64 0).cells (n+1)) 3 (0,0))∧w5.heap.size≤g) (vs 3) Wq:=hk.2.1;have g3v:=g3.choose_spec.1;have g3c:=g3.choose_spec.2;generalize g3.choose=sg at g3v g3c;clear g3;clear hk;change wpList _ _ _ _ (a00 _ vs [0,3] _) _;simp only [a00,a03,yy0,yy1,yy2,yy3];rw [g0,g3v]
     repeat'(first|go_skip|go_guarded|go_step|go_upon)
     exact a01 (.agg #[c.a08,(.slice mo c.a0g.length mc),c.a0l,rv,.slice (some ⟨sg,0,none⟩) 1 (n+1)]) rfl (by go_simp) bR ⟨sg,rfl,g3c⟩)
   | (
     intro vs Wq hW hk;clear hk;change wpList _ _ _ _ (a00 _ vs [] _) _;simp only [a00]
     repeat'(first|go_skip|go_guarded|go_step|go_upon)
     exact a01 (.pointer (some ⟨Wq.heap.size,0,none⟩)) rfl (by go_simp) (bR.alloc (zD _) _) ⟨_,rfl,a05 _ _ _ rfl,hW.size⟩)
 intro vs W2 hW2 hk
 have h4:=hk 4 (by decide)
 have h5:=hk 5 (by decide)
 have v4:=h4.choose_spec.1
 have s4:=h4.choose_spec.2
 generalize h4.choose=sg at v4 s4
 have v5:=h5.choose_spec.1
 have s5:=h5.choose_spec.2
 generalize h5.choose=ag at v5 s5
 clear h4 h5 hk
 dsimp only [a1d,List.take,List.drop]
 simp only [Act.put,zF,zI,zJ]
 rw [v4,v5]
 generalize vs 0=q0,vs 1=q1,vs 2=q2,vs 3=q3
 clear v4 v5
 obtain ⟨s4a,s4b⟩:=s4
 obtain ⟨s5a,s5b⟩:=s5
 have hon5:ones #[c.a08,(.slice mo c.a0g.length mc),c.a0l,rv,(.slice (some ⟨sg,0,none⟩) 1 (n+1))]=true:=ah3 rfl orv rfl
 have a5:obj (W2.setRow ag #[.int .i64 c.a08,(.slice mo c.a0g.length mc),.int .i64 c.a0l,rv,(.slice (some ⟨sg,0,none⟩) 1 (n+1))]) ag=some (.cells #[c.a08,(.slice mo c.a0g.length mc),c.a0l,rv,(.slice (some ⟨sg,0,none⟩) 1 (n+1))] 124 (0,0)):=xB _ _ _ _ _ _ s5a
 have agne:sg≠ag:=fun e=>by subst e;have q:=s4a.symm.trans s5a;injection q with q;injection q with _ q _;exact absurd q (by decide)
 have a4:=a2q s4a agne #[.int .i64 c.a08,(.slice mo c.a0g.length mc),.int .i64 c.a0l,rv,(.slice (some ⟨sg,0,none⟩) 1 (n+1))]
 have bb2:=a2q (a04 b2 hW2 l2) (show W.heap.size+1≠ag by have:=l2;omega) #[.int .i64 c.a08,(.slice mo c.a0g.length mc),.int .i64 c.a0l,rv,(.slice (some ⟨sg,0,none⟩) 1 (n+1))]
 have hW3:Below w5 w5 (W2.setRow ag #[.int .i64 c.a08,(.slice mo c.a0g.length mc),.int .i64 c.a0l,rv,(.slice (some ⟨sg,0,none⟩) 1 (n+1))]):=yX hW2 s5b _
 have HK:=zA (And.intro a5 (And.intro a4 (And.intro bb2 hW3)))
 clear a5 a4 bb2 hW3 s4a
 repeat' ((go_not_at_region 5);(first|go_skip|go_guarded|go_step|go_upon))
 obtain ⟨a5,a4,bb2,hW3⟩:=HK.out
 clear HK s5a
 generalize (W2.setRow ag #[.int .i64 c.a08,(.slice mo c.a0g.length mc),.int .i64 c.a0l,rv,(.slice (some ⟨sg,0,none⟩) 1 (n+1))])=w6 at *
 repeat'(first|go_skip|go_guarded|go_step|go_upon)
 have HY:=zA (fun (W':World) (hb:Below w5 w5 W') (s:Value) (hs:s.oneCell' = true) (k:Nat)=>HYR.out W' (w5B.trans (hb.mono w5B.size)) s hs ((k:Int)+1))
 go_loopw [24] (fun i wr => ∃ (k:Nat) (sv:Value),k≤n∧i=.int .i64 k∧obj wr ag=some (.cells #[c.a08,(.slice mo c.a0g.length mc),c.a0l,rv,sv] 124 (0,0))∧obj wr (W.heap.size+1)=some (.cells #[(0:Int),.slice none 0 0,(0:Int),.slice none 0 0,.slice none 0 0] 124)∧wr.ownsRow w5.heap.size 3 1 sv (k+1) (a4m (a3k c (k+1)))∧Below w5 w5 wr) (fun i _=>((n:Int) - intOf i).toNat)
 case atStart => refine ⟨0,(.slice (some ⟨sg,0,none⟩) 1 (n+1)),by omega,rfl,a5,bb2,⟨by simp [a4m,a3k],.inr ⟨sg,n+1,_,rfl,s4b,a4,by omega,by unfold maxLen;omega,by rw [(aln n).1];omega,?_⟩⟩,hW3⟩;rw [show (0+1) * 1=1 from rfl,(aln n).2];rfl
 clear a5 a4 bb2 hW3 hon5 s4b hW2 agne
 obtain ⟨k,sv,hk,rfl,a5,bb2,hown,hC⟩:=hrel
 have la:=a09 a5
 have lb:=a09 bb2
 have osv:=a3x hown
 have hon6:ones #[c.a08,(.slice mo c.a0g.length mc),c.a0l,rv,sv]=true:=ah3 rfl orv osv
 by_cases hlt:k < n;rotate_left
 ·have i1 : ¬ (k:Int) < (n:Int):=by omega
  obtain rfl:k=n:=by omega
  obtain ⟨_,⟨_,sc,hsv,_⟩,_⟩:=a2o hown
  have hiv:=(a2o hown).2.1
  rw [a5r] at hsv
  subst hsv
  repeat' ((go_not_at_region 11);(first|go_skip|go_guarded|go_step|go_upon))
  have HC2:=zA hC
  have agb:W.heap.size+1≠ag:=by omega
  have w6B:=w5B.trans (hC.mono w5B.size)
  refine yO (a0q rfl _ _ (W.heap.size+1) 124 #[.int .i64 c.a08,(.slice mo c.a0g.length mc),.int .i64 c.a0l,rv,(.slice _ (k+1) sc)] (0,0) _ (.bool true) rfl (xB _ _ _ _ _ _ bb2) Tryz.underlying124 rfl (by kernel_rfl) rfl) rfl ?_
  refine ⟨_,rfl,amj hiv hown (a2f hown bb2 (by decide)) _,yX w6B (by omega) _⟩
 have i1:(k:Int) < (n:Int):=by omega
 obtain ⟨hll,⟨ao,sc,hsv,hsq⟩,_⟩:=a2o hown
 rw [a5r] at hsv hsq
 obtain ⟨sb,so,srow,ST,sfr,rfl,sq1,sq3⟩:=hsq (by omega)
 have sq2:=(sq3 k (by omega)).trans (by rw [a9x c (show k < k+1 by omega)])
 have lsb:=a09 sq1
 have hs1:=HSL.out k
 have hs2:=HYL.out ((k:Int)+1)
 have HQ:=zA (HSS.out k)
 clear sq3 hll
 generalize hgs:Zn.a0z c k=s at *
 generalize hgm:Zn.a4f c ((k:Int)+1)=m at *
 have HM:=zA hgm
 clear hgs hgm
 have w0:=zWI ((k:Int)+1)
 have w2:=zWI (s+m)
 subst hsv
 repeat' ((go_not_at_region 8);(first|go_skip|go_guarded|go_step|go_upon))
 refine a0k 13 [([],fun v _=>v=.pointer (some ⟨ag,4,none⟩)),([0],fun v _=>v=(.slice (some ⟨sb,so,none⟩) (k+1) sc)),([],fun v _=>v=.pointer (some ⟨ag,4,none⟩)),([2],fun v _=>v=(.slice (some ⟨sb,so,none⟩) (k+1) sc)),([],fun v _=>v=.int .i64 (k:Nat)),([3,4],fun v _=>v=.pointer (some ⟨sb,so+k,none⟩)),([5],fun v _=>v=.int .i64 s),([],fun v _=>v=.agg #[c.a08,(.slice mo c.a0g.length mc),c.a0l,rv,(.slice (some ⟨sb,so,none⟩) (k+1) sc)]),([],fun v _=>v=.int .i64 (k:Nat)),([8],fun v _=>v=.int .i64 ((k:Nat)+1:Int)),([7,9],fun v _=>v=.int .i64 m),([6,10],fun v _=>v=.int .i64 (s+m)),
    ([11],fun v W' => ∃ g,v=.slice (some ⟨g,0,none⟩) 1 1∧obj W' g=some (.cells #[(s+m:Int)] 3 (0,0))∧wr.heap.size≤g)] (by kernel_rfl) (by kernel_rfl) (by kernel_rfl) ?st ?ob ?_
 case st => intro k v W1 W2 h hb;rcases k with _|_|_|_|_|_|_|_|_|_|_|_|_|k<;>first | exact h | trivial | (obtain ⟨g,h1,h2,h3⟩:=h;exact ⟨g,h1,a0a h2 hb,h3⟩)
 case ob =>
   and_intros<;>
   first
    | exact ⟨⟩
    | (intro vs Wq hW hk;(have q0:=a02 (a04 a5 hW la) 4);(have q1:=(a02 (a04 sq1 hW lsb) (so+k)).trans sq2);(have q2:=a04 a5 hW la);(try simp only [knows,Spec.at',↓zH,↓zG,yL] at hk);simp only [Spec.at',↓zH,↓zG,a00,a03,yy0,yy1,yy2,yy3];(try simp only [hk]);first | ((repeat'(first|go_skip|go_guarded|go_step|go_upon));exact a01 _ rfl (by go_simp) bR rfl) | ((have HX:=zA (HY.out Wq (hC.trans (hW.mono hC.size)) (.slice (some ⟨sb,so,none⟩) (k+1) sc) rfl k));(rw [HM.out] at HX);(repeat' (first | (go_at_call 115;((with_reducible refine (HX.out).mono ?_));rintro e w9 ⟨rfl,hb9⟩;dsimp only)|go_skip|go_guarded|go_step|go_upon));exact a01 _ rfl (by go_simp) hb9 rfl) | fail)
    | (
     intro vs Wq hW hk;have g11:vs 11=.int .i64 (s+m):=hk.1;clear hk;change wpList _ _ _ _ (a00 _ vs [11] _) _;simp only [a00,a03,yy0,yy1,yy2,yy3];rw [g11]
     repeat'(first|go_skip|go_guarded|go_step|go_upon)
     exact a01 (.slice (some ⟨Wq.heap.size,0,none⟩) 1 1) rfl (by go_simp) (bR.alloc (zD _) _) ⟨_,rfl,a05 _ _ _ rfl,hW.size⟩)
 intro vs W2 hW2 hk2;have h1:vs 1=(.slice (some ⟨sb,so,none⟩) (k+1) sc):=hk2 1 (by decide);have h12:=hk2 12 (by decide);have v12:=h12.choose_spec.1;have s12:=h12.choose_spec.2;generalize h12.choose=ng at v12 s12;clear h12 hk2;dsimp only [a1d,List.take,List.drop];simp only [Act.put,zF,zI,zJ];rw [h1,v12];generalize vs 0=q0,vs 2=q2,vs 3=q3,vs 4=q4,vs 5=q5,vs 6=q6,vs 7=q7,vs 8=q8,vs 9=q9,vs 10=q10,vs 11=q11;clear h1 v12;have ow2:=a0m hown hW2;have a52:=a04 a5 hW2 la;have bb22:=a04 bb2 hW2 lb;have hC2:=hC.trans (hW2.mono hC.size);have hsz:=hC2.size;(repeat' ((go_not_at_region 9);(first | (at_builtin;(refine a4p rfl _ _ rfl w5.heap.size (k+1) _ _ rfl ow2 ng _ rfl s12.1 rfl (by omega) hsz ?_);intro v5 W5 a3p hg5;have hg:W2.grownBy W5 (Value.slice (some ⟨sb,so,none⟩) (k+1) sc).ownBlock:=hg5;clear hg5;have a55:=a19 ow2 a52 (by decide) hg;have bb25:=a19 ow2 bb22 (by decide) hg;have hC5:=hC2.grown hg hsz (fun g q=>a1p ow2 q);rw [show a4m (a3k c (k+1)) ++ [Value.int .i64 (s+m)]=a4m (a3k c (k+1+1)) by rw [ad2 c (k+1),HQ.out];simp [a4m]] at a3p;obtain ⟨va,vc,hv5⟩:=(a2o a3p).2.2;subst hv5;have f5:=a0d a55 4;have c5:=a02 a55 4;dsimp only)|go_skip|go_guarded|go_step|go_upon)));(repeat' ((go_not_at_region 10);(first|go_skip|go_guarded|go_step|go_upon)));have hne5:(Value.slice va (k+1+1) vc).ownBlock≠some ag:=a2f a3p a55 (by decide);refine ⟨?_,by simp [intOf];omega⟩;(repeat (apply Exists.intro));refine ⟨⟨k+1,_,by omega,by go_num,?_,a07 bb25 _ (show W.heap.size+1≠ag by omega) _,yF a3p hne5 _,hC5.setCell s5b _⟩,rfl⟩;rw [a0c,a55];rfl
end Go.Proofs.YtppjleebbjipbaaGreat
