/-
  A region in order, within a round or an iterator's body, walked as an ordinary region.
-/
import Derived.Test.YtppjleebbjipbaaGreatQkZno
set_option linter.all false
namespace Go.Proofs.YtppjleebbjipbaaGreat
open Go Go.RowKit
section
variable {P:Program} {ops:Array Oper}
theorem adk {Q:Exit→Act→World→Prop} {l n:Nat} {o:Oper} (hno:∀ c,o.op≠.defer c) {K:Act→World→Prop} {a:Act} {w:World} (h:o.wp P a w K Q):o.wpIn (Fence.wide.inRound l) n P a w K Q:=by
 refine ⟨fun f _=>trivial,?_⟩
 unfold Oper.wp at h
 show o.uponIn _ _ _ _ _ _ ((o.semAt (some l) a.eval).run P w)
 rw [wU l a.eval o hno]
 generalize (execOp a.eval o).run P w=r at *
 cases r with
 | ok nx W' =>
  cases nx<;>simp only [Oper.upon,Oper.uponIn] at h ⊢
  case value v=>exact h
  case skip=>exact h
  case defer d=>exact h
  case enter f args=>exact ⟨fun hh=>(by cases hh),(wW.2 h).inRound l⟩
  case row row args =>
   refine ⟨fun hh=>(by cases hh),fun c cs _=>?_⟩;obtain ⟨v,w',h1,h2⟩:=h c cs;exact ⟨v,w',h1,stepsIn_wide.2 h2⟩
 | halt x W'=>cases x<;>simp only [Oper.upon,Oper.uponIn] at h ⊢;exact h
theorem a5c {Q:Exit→Act→World→Prop} {l n:Nat} (hQ:∀ a w,¬ Q .outgrown a w):∀ (os:List Oper),(os.all fun o=>match o.op with | .defer _=>false | _=>true)=true→∀ (a:Act) (w:World),wpList P ops Q os a w→wpListIn (Fence.wide.inRound l) n P ops Q os a w
 | [],_,_,_,h=>h
 | o :: os,hd,a,w,h=>by
  rw [List.all_cons,zN] at hd
  have hno:∀ c,o.op≠.defer c:=fun c hc=>by have:=hd.1;rw [hc] at this;cases this
  unfold wpList at h
  unfold wpListIn
  split at h
  ·rename_i hw
   rw [zQ hw]
   rcases h with h | ⟨_,b,W',hb⟩
   ·exact Oper.wpIn_mono (fun a w=>a5c hQ os hd.2 a w) (adk hno h)
   ·exact absurd hb (hQ _ _)
  ·rename_i hw
   rw [zS hw]
   exact ⟨fun f _=>trivial,a5c hQ os hd.2 _ _ h⟩
theorem a3i {id:Nat} {Q:Exit→Act→World→Prop} {a:Act} {w:World} {l:List Oper} {ln n:Nat} (hd:(l.all fun o=>match o.op with | .defer _=>false | _=>true)=true) (hQ:∀ a w,¬ Q .outgrown a w) (h:wpList P l.toArray Q l a w):(Code.region id l.toArray false).wpIn (Fence.wide.inRound ln) n P Q a w :=
 wpIn_region_lit (a5c hQ l hd a w h)
end
end Go.Proofs.YtppjleebbjipbaaGreat
namespace Go.Proofs.YtppjleebbjipbaaGreat
open Go.RowKit
set_option maxRecDepth 20000
set_option maxHeartbeats 8000000
theorem amo : ∃ i,Tryz.prog.info? 57=some i∧i.zero=some (.agg #[(0:Int),(0:Int)])∧i.size=2∧i.bytes=16 :=
 info_parts (show (Tryz.prog.info? 57).map (fun i=>(i.zero,i.size,i.bytes))=some (some (.agg #[(0:Int),(0:Int)]),2,16) by kernel_rfl)
def a4g:List Zn.Tr→List Value
 | []=>[]
 | t :: l=>.int .i64 t.tm :: .int .i64 t.off :: a4g l
theorem a9f:∀ l:List Zn.Tr,(a4g l).length=l.length * 2
 | []=>rfl
 | t :: l=>by simp only [a4g,yS,a9f l];omega
theorem aby:∀ (l:List Zn.Tr) (t:Zn.Tr),a4g (l ++ [t])=a4g l ++ [.int .i64 t.tm,.int .i64 t.off]
 | [],t=>rfl
 | x :: l,t=>by simp only [xK,a4g,aby l t]
theorem abx:∀ (l:List Zn.Tr) (i:Nat),i < l.length→(a4g l)[i * 2]? = some (.int .i64 (l.getD i default).tm)∧(a4g l)[i * 2+1]? = some (.int .i64 (l.getD i default).off)
 | t :: l,0,_=>by simp [a4g]
 | t :: l,i+1,h=>by
  have:=abx l i (by simpa using h)
  rw [show (i+1) * 2=i * 2+2 by omega]
  simpa [a4g] using this
theorem a13 {w:World} {base:Nat} {v:Value} {n:Nat} {l:List Zn.Tr} (h:w.ownsRow base 57 2 v n (a4g l)):l.length=n∧a2b w v l∧(0 < l.length→∃ g c,v=.slice (some ⟨g,0,none⟩) n c)∧∃ a c,v=.slice a n c:=by
 have hl:l.length=n:=by have:=h.1;rw [a9f] at this;omega
 refine ⟨hl,?_,?_,?_⟩
 ·rcases h.2 with ⟨rfl,h0⟩ | ⟨g,c,cur,rfl,h1,h2,h3,h4,h5,h6⟩
  ·exact ⟨none,0,by rw [hl,h0],fun hn=>by omega⟩
  refine ⟨_,c,by rw [hl],fun _=>⟨g,0,cur,57,(0,0),rfl,h2,fun i hi=>?_⟩⟩
  have hg:=abx l i hi
  rw [← h6,xQ,zQ (by omega),yU,xQ,zQ (by omega),yU] at hg
  have hs:i * 2+2≤cur.size:=by
   have:=(zL.1 hg.2).1;omega
  refine ⟨by omega,?_⟩
  apply wQ
  intro j
  rw [wG]
  rcases j with _ | _ | j
  ·rw [zQ (by omega),yI,uG,hg.1];rfl
  ·rw [zQ (by omega),yI,yI,hg.2];rfl
  rw [zS (by omega)];rfl
 ·intro h0
  rcases h.2 with ⟨rfl,h1⟩ | ⟨g,c,cur,rfl,_⟩
  ·omega
  exact ⟨g,c,rfl⟩
 rcases h.2 with ⟨rfl,h0⟩ | ⟨g,c,cur,rfl,_⟩
 ·exact ⟨none,0,by rw [h0]⟩
 exact ⟨_,c,rfl⟩
theorem a2m {w:World} {ops:Array Oper} {rest:List Oper} {o:Oper} {a:Act} {Q:Exit→Act→World→Prop} (hgd:o.guard=none) (s x:Operand)
  (ho:o.op=.call { callee:=.builtin .append,args:=#[s,x],argTypes:=#[32,32] })
  (base k:Nat) (v:Value) (l:List Zn.Tr) (hs:a.eval s=v) (hown:w.ownsRow base 57 2 v k (a4g l))
  (g:Nat) (t:Zn.Tr) (hx:a.eval x=.slice (some ⟨g,0,none⟩) 1 1) (hg:obj w g=some (.cells #[t.tm,t.off] 57 (0,0))) (h63:k≤1000000000000) (hb:base≤w.heap.size)
  (h:∀ v' w',w'.ownsRow base 57 2 v' (k+1) (a4g (l ++ [t]))→w.grownBy w' v.ownBlock→wpList Tryz.prog ops Q rest (a.put o.dst v') w'):wpList Tryz.prog ops Q (o :: rest) a w:=by
 obtain ⟨i0,hi,hz0,hz1,hz2⟩:=amo
 refine uD w hgd s x _ ho base _ i0 _ 2 16 Tryz.underlying32 hi hz0 hz1 hz2 rfl (by decide) v k _ hs hown ⟨g,0,none⟩ 1 1 [.int .i64 t.tm,.int .i64 t.off] hx rfl (fun j q hq=>?_) (fun q hq=>?_) (by unfold maxLen;omega) (by omega) hb fun v' w' q1 q2 _=>h v' w' (by rw [aby];exact q1) q2
 ·rcases j with _ | _ | j
  ·cases hq;exact a02 hg 0
  ·cases hq;exact a02 hg 1
  cases hq
 simp only [yN,xE,or_false] at hq
 rcases hq with rfl | rfl<;>rfl
end Go.Proofs.YtppjleebbjipbaaGreat
