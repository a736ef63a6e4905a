/-
  A region that draws its order, whose operations read blocks that stay and call what only lays new blocks: one walk of the order of the text.
-/
import Derived.Test.YtppjleebbjipbaaGreatPkZl
set_option linter.unusedVariables false
namespace Go.Proofs.YtppjleebbjipbaaGreat
open Go Go.RowKit
section
variable {P:Program}
theorem wp_region_below {id:Nat} {Q:Exit→Act→World→Prop} {a:Act} {w:World} {l:List Oper} (hm:P.follows .mixedOrders=true) (hB:Region.lexB .any l.toArray=true)
  (h:wpQuiet P l.toArray (fun w'=>Below w.heap.size w w') (fun a'=>∀ w',Below w.heap.size w w'→Q .normal a' w') l a):(Code.region id l.toArray true).wp P Q a w :=
 wp_region_quiet (C:=fun w'=>Below w.heap.size w w') hm hB (Below.refl _ _).drew (by simpa using h)
theorem calls_below {f:FuncId} {args:Array Value} {w W:World} {v:Value} (hW:Below w.heap.size w W) (h:Calls P f args W fun e w'=>e=.returned v∧Below W.heap.size W w') :
  Calls P f args W fun e w''=>e=.returned v∧Below w.heap.size w w'':=h.mono fun _ _ ⟨he,hb⟩=>⟨he,hW.trans (hb.mono hW.size)⟩
end
end Go.Proofs.YtppjleebbjipbaaGreat
namespace Zn
theorem chg_ok {z:a0w} (hg:Good z) {f u:Int} (hf : -2251799813685248≤f∧f≤2251799813685248) (hu : -2251799813685248≤u∧u≤2251799813685248) (hfu:f≤u) (h:u - f≤8800000) : ∃ l,adz z f u=(l,0)∧asa z f u l:=by
 obtain ⟨l,hl,ho⟩:=anr hg h
 refine ⟨l,?_,ho⟩
 unfold adz
 rw [if_pos ⟨a0v.2 hg,hf,hu,hfu⟩,hl]
theorem rep_law {z:a0w} (hg:Good z) {x0:Tr} (hx0:IsT z x0) (hh:z.hor≤x0.tm) {d:Int} (hd:z.cal.days=d) (h7:d % 7≠0) {n:Int} (hn:x0.tm≤n):a2u z (n+d * 7 * 1440)=a2u z n:=by
 have h0:z.a0b.length≠0:=fun h0=>by
  have htr:∀ y∈z.trans,y.tm < z.hor:=fun y hy=>by
   obtain ⟨q,hq,rfl⟩:=List.mem_iff_getElem.1 hy
   have:=(hg.a.tr q hq).h
   rwa [getD_at hq] at this
  rcases hx0 with hx | ⟨i,hi,_⟩
  ·have:=htr _ hx;omega
  ·unfold ysT at hi;rw [if_pos h0] at hi;simp at hi
 have hc:a0s z=d * 7:=by
  unfold a0s
  rw [if_neg h0,hd,if_neg h7]
 rw [← hc]
 exact aqs hg hx0 hh hn
end Zn
namespace Go.Proofs.YtppjleebbjipbaaGreat
open Go.RowKit Go.Shelf
theorem chgs_l (HO:OpenSpec) {W:World} {z:Zn.a0w} {mv rv tv yv:Value} (hv:a1q W z mv rv tv yv) (hg:Zn.Good z) (hl:Zn.ane z) {f u:Int} {l:List Zn.Tr} (h:Zn.adz z f u=(l,0)) :
  Calls Tryz.prog 35 #[.agg #[.int .i64 z.cal.a08,mv,.int .i64 z.cal.a0l,rv,.int .i64 z.start,tv,.int .i64 z.hor,yv],.int .i64 f,.int .i64 u] W fun e w'=>(∃ v,e=.returned (.tuple #[v,.int .i64 0])∧a2b w' v l)∧Below W.heap.size W w':=by
 have h9:=acs HO hv hl.r hl.m f u
 rw [h] at h9
 exact h9
theorem trs_cells {W:World} {v:Value} {l:List Zn.Tr} (h:a2b W v l) : ∃ ao c,v=.slice ao l.length c∧(0 < l.length→∃ b o row T fr,ao=some ⟨b,o,none⟩∧obj W b=some (.cells row T fr)∧∀ i,i < l.length→row[o+i * 2]? = some (.int .i64 (l.getD i default).tm)∧row[o+i * 2+1]? = some (.int .i64 (l.getD i default).off)):=by
 obtain ⟨ao,c,h1,h2⟩:=h
 refine ⟨ao,c,h1,fun h0=>?_⟩
 obtain ⟨b,o,row,T,fr,q1,q2,q3⟩:=h2 h0
 refine ⟨b,o,row,T,fr,q1,q2,fun i hi=>?_⟩
 obtain ⟨q4,q5⟩:=q3 i hi
 have e0:(row.extract (o+i * 2) (o+i * 2+2))[0]? = some (.int .i64 (l.getD i default).tm):=by rw [q5];rfl
 have e1:(row.extract (o+i * 2) (o+i * 2+2))[1]? = some (.int .i64 (l.getD i default).off):=by rw [q5];rfl
 rw [Array.getElem?_extract,if_pos (by omega)] at e0 e1
 exact ⟨e0,e1⟩
end Go.Proofs.YtppjleebbjipbaaGreat
namespace Zn
def firstG (z:a0w) (n:Int):Int:=match (a2w z n).1 with | []=>n - (a2w z n).2.2 | a :: _=>a
def secondG (z:a0w) (n:Int):Int:=match (a2w z n).1 with | []=>(a2w z n).2.1 | a :: l=>l.getLastD a
theorem ins_first {z:a0w} (hg:Good z) {loc:Int} (h1 : -2251799813684168≤loc∧loc≤2251799813684168):a4x z loc 1 0=([firstG z loc],0):=by
 unfold a4x
 rw [if_pos ⟨a0v.2 hg,h1,by omega,by omega,by omega,by omega⟩]
 unfold agw firstG
 rcases a4o hg loc with ⟨h,_⟩ | ⟨a,h,_⟩ | ⟨a,b,h,_⟩<;>rw [h]<;>simp
theorem ins_second {z:a0w} (hg:Good z) {loc:Int} (h1 : -2251799813684168≤loc∧loc≤2251799813684168):a4x z loc 2 1=([secondG z loc],0):=by
 unfold a4x
 rw [if_pos ⟨a0v.2 hg,h1,by omega,by omega,by omega,by omega⟩]
 unfold agw secondG
 rcases a4o hg loc with ⟨h,_⟩ | ⟨a,h,_⟩ | ⟨a,b,h,_⟩<;>rw [h]<;>simp
theorem gap_cases {z:a0w} (hg:Good z) (n:Int) :
  ((a2w z n).1 = [firstG z n]∧secondG z n=firstG z n)∨((a2w z n).1 = [firstG z n,secondG z n]) ∨
  ((a2w z n).1 = []∧∃ e b a,secondG z n=e∧a2u z (e - 1)=b∧a2u z e=a∧firstG z n=n - b∧(n - b)+a2u z (n - b)=n+a - b∧b < a∧e+b≤n∧n < e+a∧-1080≤b∧a≤1080):=by
 unfold firstG secondG
 rcases a4o hg n with ⟨h,x,hx,h2,h3⟩ | ⟨a,h,_⟩ | ⟨a,b,h,_⟩
 ·refine .inr (.inr ⟨h,?_⟩)
  obtain ⟨q1,q2,q3⟩:=ap1 hg hx
  obtain ⟨r1,r2,r3⟩:=hx
  have b1:=a2a hg (x.tm - 1)
  have b2:=a2a hg x.tm
  rw [h]
  exact ⟨x.tm,a2u z (x.tm - 1),x.off,h2,rfl,q2,by dsimp only;rw [h3],q1,q3,by omega,by omega,b1.1,by rw [← q2];exact b2.2⟩
 ·rw [h];exact .inl ⟨rfl,rfl⟩
 ·rw [h];exact .inr (.inl rfl)
end Zn
namespace Go.Proofs.YtppjleebbjipbaaGreat
open Go.RowKit Go.Shelf
theorem inst_first (HO:OpenSpec) {W:World} {z:Zn.a0w} {mv rv tv yv:Value} (hv:a1q W z mv rv tv yv) (hg:Zn.Good z) (hl:Zn.ane z) {loc:Int} (h1 : -2251799813684168≤loc∧loc≤2251799813684168) :
  Calls Tryz.prog 24 #[.agg #[.int .i64 z.cal.a08,mv,.int .i64 z.cal.a0l,rv,.int .i64 z.start,tv,.int .i64 z.hor,yv],.int .i64 loc,.int .i64 1,.int .i64 0] W fun e w'=>(∃ v,e=.returned (.tuple #[v,.int .i64 0])∧a2c w' v [Zn.firstG z loc])∧Below W.heap.size W w':=by
 have h9:=a5g HO hv hl.r hl.m loc 1 0
 rw [Zn.ins_first hg h1] at h9
 exact h9
theorem inst_second (HO:OpenSpec) {W:World} {z:Zn.a0w} {mv rv tv yv:Value} (hv:a1q W z mv rv tv yv) (hg:Zn.Good z) (hl:Zn.ane z) {loc:Int} (h1 : -2251799813684168≤loc∧loc≤2251799813684168) :
  Calls Tryz.prog 24 #[.agg #[.int .i64 z.cal.a08,mv,.int .i64 z.cal.a0l,rv,.int .i64 z.start,tv,.int .i64 z.hor,yv],.int .i64 loc,.int .i64 2,.int .i64 1] W fun e w'=>(∃ v,e=.returned (.tuple #[v,.int .i64 0])∧a2c w' v [Zn.secondG z loc])∧Below W.heap.size W w':=by
 have h9:=a5g HO hv hl.r hl.m loc 2 1
 rw [Zn.ins_second hg h1] at h9
 exact h9
theorem kinds_v (HO:OpenSpec) {W:World} {z:Zn.a0w} {mv rv tv yv:Value} (hv:a1q W z mv rv tv yv) (hg:Zn.Good z) (hl:Zn.ane z) {t kv:Int} (h1 : -2251799813684168≤t∧t≤2251799813684168) (hk:kv=([1,0,2]:List Int).getD (Zn.a2w z t).1.length 0) :
  Calls Tryz.prog 22 #[.agg #[.int .i64 z.cal.a08,mv,.int .i64 z.cal.a0l,rv,.int .i64 z.start,tv,.int .i64 z.hor,yv],.int .i64 t] W fun e w'=>e=.returned (.tuple #[.int .i64 kv,.int .i64 0])∧Below W.heap.size W w':=by rw [hk];exact aq0 HO hv hg hl h1
theorem both_v (HO:OpenSpec) {W:World} {z:Zn.a0w} {mv rv tv yv:Value} (hv:a1q W z mv rv tv yv) (hg:Zn.Good z) (hl:Zn.ane z) {loc:Int} {L:List Int} (h1 : -2251799813684168≤loc∧loc≤2251799813684168) (h:L=(Zn.a2w z loc).1) :
  Calls Tryz.prog 24 #[.agg #[.int .i64 z.cal.a08,mv,.int .i64 z.cal.a0l,rv,.int .i64 z.start,tv,.int .i64 z.hor,yv],.int .i64 loc,.int .i64 0,.int .i64 2] W fun e w'=>(∃ v,e=.returned (.tuple #[v,.int .i64 0])∧a2c w' v L)∧Below W.heap.size W w':=by rw [h];exact aon HO hv hg hl h1
theorem first_v (HO:OpenSpec) {W:World} {z:Zn.a0w} {mv rv tv yv:Value} (hv:a1q W z mv rv tv yv) (hg:Zn.Good z) (hl:Zn.ane z) {loc F:Int} (h1 : -2251799813684168≤loc∧loc≤2251799813684168) (h:F=Zn.firstG z loc) :
  Calls Tryz.prog 24 #[.agg #[.int .i64 z.cal.a08,mv,.int .i64 z.cal.a0l,rv,.int .i64 z.start,tv,.int .i64 z.hor,yv],.int .i64 loc,.int .i64 1,.int .i64 0] W fun e w'=>(∃ v,e=.returned (.tuple #[v,.int .i64 0])∧a2c w' v [F])∧Below W.heap.size W w':=by rw [h];exact inst_first HO hv hg hl h1
theorem second_v (HO:OpenSpec) {W:World} {z:Zn.a0w} {mv rv tv yv:Value} (hv:a1q W z mv rv tv yv) (hg:Zn.Good z) (hl:Zn.ane z) {loc S:Int} (h1 : -2251799813684168≤loc∧loc≤2251799813684168) (h:S=Zn.secondG z loc) :
  Calls Tryz.prog 24 #[.agg #[.int .i64 z.cal.a08,mv,.int .i64 z.cal.a0l,rv,.int .i64 z.start,tv,.int .i64 z.hor,yv],.int .i64 loc,.int .i64 2,.int .i64 1] W fun e w'=>(∃ v,e=.returned (.tuple #[v,.int .i64 0])∧a2c w' v [S])∧Below W.heap.size W w':=by rw [h];exact inst_second HO hv hg hl h1
theorem offs_v (HO:OpenSpec) {W:World} {z:Zn.a0w} {mv rv tv yv:Value} (hv:a1q W z mv rv tv yv) (hg:Zn.Good z) (hl:Zn.ane z) {t b:Int} (h1 : -2251799813685248≤t∧t≤2251799813685248) (h:Zn.a2u z t=b) :
  Calls Tryz.prog 18 #[.agg #[.int .i64 z.cal.a08,mv,.int .i64 z.cal.a0l,rv,.int .i64 z.start,tv,.int .i64 z.hor,yv],.int .i64 t] W fun e w'=>e=.returned (.tuple #[.int .i64 b,.int .i64 0])∧Below W.heap.size W w':=by rw [← h];exact aqr HO hv hg hl h1
theorem locs_v (HO:OpenSpec) {W:World} {z:Zn.a0w} {mv rv tv yv:Value} (hv:a1q W z mv rv tv yv) (hg:Zn.Good z) (hl:Zn.ane z) {t r:Int} (h1 : -2251799813685248≤t∧t≤2251799813685248) (h:t+Zn.a2u z t=r) :
  Calls Tryz.prog 20 #[.agg #[.int .i64 z.cal.a08,mv,.int .i64 z.cal.a0l,rv,.int .i64 z.start,tv,.int .i64 z.hor,yv],.int .i64 t] W fun e w'=>e=.returned (.tuple #[.int .i64 r,.int .i64 0])∧Below W.heap.size W w':=by rw [← h];exact aqw HO hv hg hl h1
end Go.Proofs.YtppjleebbjipbaaGreat
