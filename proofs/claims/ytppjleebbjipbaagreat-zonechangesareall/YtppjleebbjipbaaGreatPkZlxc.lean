/-
  A region that draws its order, whose operations read blocks that stay and call what only lays new blocks: one walk of the order of the text.
-/
import Derived.Test.YtppjleebbjipbaaGreatPkZl
set_option linter.unusedVariables false
namespace Go.Proofs.YtppjleebbjipbaaGreat
open Go Go.RowKit
section
variable {P:Program}
theorem wp_region_below {id:Nat} {Q:Exit→Act→World→Prop} {a:Act} {w:World} {l:List Oper} (hm:P.follows .mixedOrders=true) (hB:Region.lexB .any l.toArray=true)
  (h:wpQuiet P l.toArray (fun w'=>Below w.heap.size w w') (fun a'=>∀ w',Below w.heap.size w w'→Q .normal a' w') l a):(Code.region id l.toArray true).wp P Q a w :=
 wp_region_quiet (C:=fun w'=>Below w.heap.size w w') hm hB (Below.refl _ _).drew (by simpa using h)
theorem calls_below {f:FuncId} {args:Array Value} {w W:World} {v:Value} (hW:Below w.heap.size w W) (h:Calls P f args W fun e w'=>e=.returned v∧Below W.heap.size W w') :
  Calls P f args W fun e w''=>e=.returned v∧Below w.heap.size w w'':=h.mono fun _ _ ⟨he,hb⟩=>⟨he,hW.trans (hb.mono hW.size)⟩
end
end Go.Proofs.YtppjleebbjipbaaGreat
namespace Zn
theorem chg_ok {z:a0w} (hg:Good z) {f u:Int} (hf : -2251799813685248≤f∧f≤2251799813685248) (hu : -2251799813685248≤u∧u≤2251799813685248) (hfu:f≤u) (h:u - f≤8800000) : ∃ l,adz z f u=(l,0)∧asa z f u l:=by
 obtain ⟨l,hl,ho⟩:=anr hg h
 refine ⟨l,?_,ho⟩
 unfold adz
 rw [if_pos ⟨a0v.2 hg,hf,hu,hfu⟩,hl]
theorem rep_law {z:a0w} (hg:Good z) {x0:Tr} (hx0:IsT z x0) (hh:z.hor≤x0.tm) {d:Int} (hd:z.cal.days=d) (h7:d % 7≠0) {n:Int} (hn:x0.tm≤n):a2u z (n+d * 7 * 1440)=a2u z n:=by
 have h0:z.a0b.length≠0:=fun h0=>by
  have htr:∀ y∈z.trans,y.tm < z.hor:=fun y hy=>by
   obtain ⟨q,hq,rfl⟩:=List.mem_iff_getElem.1 hy
   have:=(hg.a.tr q hq).h
   rwa [getD_at hq] at this
  rcases hx0 with hx | ⟨i,hi,_⟩
  ·have:=htr _ hx;omega
  ·unfold ysT at hi;rw [if_pos h0] at hi;simp at hi
 have hc:a0s z=d * 7:=by
  unfold a0s
  rw [if_neg h0,hd,if_neg h7]
 rw [← hc]
 exact aqs hg hx0 hh hn
end Zn
namespace Go.Proofs.YtppjleebbjipbaaGreat
open Go.RowKit Go.Shelf
theorem chgs_l (HO:OpenSpec) {W:World} {z:Zn.a0w} {mv rv tv yv:Value} (hv:a1q W z mv rv tv yv) (hg:Zn.Good z) (hl:Zn.ane z) {f u:Int} {l:List Zn.Tr} (h:Zn.adz z f u=(l,0)) :
  Calls Tryz.prog 35 #[.agg #[.int .i64 z.cal.a08,mv,.int .i64 z.cal.a0l,rv,.int .i64 z.start,tv,.int .i64 z.hor,yv],.int .i64 f,.int .i64 u] W fun e w'=>(∃ v,e=.returned (.tuple #[v,.int .i64 0])∧a2b w' v l)∧Below W.heap.size W w':=by
 have h9:=acs HO hv hl.r hl.m f u
 rw [h] at h9
 exact h9
theorem trs_cells {W:World} {v:Value} {l:List Zn.Tr} (h:a2b W v l) : ∃ ao c,v=.slice ao l.length c∧(0 < l.length→∃ b o row T fr,ao=some ⟨b,o,none⟩∧obj W b=some (.cells row T fr)∧∀ i,i < l.length→row[o+i * 2]? = some (.int .i64 (l.getD i default).tm)∧row[o+i * 2+1]? = some (.int .i64 (l.getD i default).off)):=by
 obtain ⟨ao,c,h1,h2⟩:=h
 refine ⟨ao,c,h1,fun h0=>?_⟩
 obtain ⟨b,o,row,T,fr,q1,q2,q3⟩:=h2 h0
 refine ⟨b,o,row,T,fr,q1,q2,fun i hi=>?_⟩
 obtain ⟨q4,q5⟩:=q3 i hi
 have e0:(row.extract (o+i * 2) (o+i * 2+2))[0]? = some (.int .i64 (l.getD i default).tm):=by rw [q5];rfl
 have e1:(row.extract (o+i * 2) (o+i * 2+2))[1]? = some (.int .i64 (l.getD i default).off):=by rw [q5];rfl
 rw [Array.getElem?_extract,if_pos (by omega)] at e0 e1
 exact ⟨e0,e1⟩
end Go.Proofs.YtppjleebbjipbaaGreat
namespace Zn
def wantK (z:a0w) (f:Int) (l:List Tr) (k:Nat):Int:=if k=0 then a2u z f else (l.getD (k - 1) default).off
theorem chg_mem {l:List Tr} {k:Nat} (hk:k < l.length):l.getD k default∈l:=by
 rw [List.getD_eq_getElem?_getD,List.getElem?_eq_getElem hk]
 exact List.getElem_mem hk
theorem chg_last {z:a0w} (hg:Good z) {f t:Int} (hft:f≤t) {l:List Tr} (h:asa z (f+1) (t+1) l):wantK z f l l.length=a2u z t:=by
 unfold wantK
 split
 ·rename_i h0
  refine a7y hg hft fun y hy h1=>Int.not_lt.1 fun h2=>?_
  have:=h.all y hy (by omega) (by omega)
  rw [List.length_eq_zero_iff.1 h0] at this
  cases this
 ·rename_i h0
  have hl:l.length - 1 < l.length:=by omega
  obtain ⟨hx,h1,h2⟩:=h.isT _ (chg_mem hl)
  rw [← a4b (a8a hg hx)]
  refine a7y hg (by omega) fun y hy h3=>Int.not_lt.1 fun h4=>?_
  obtain ⟨j,hj,hje⟩:=List.getElem_of_mem (h.all y hy (by omega) (by omega))
  have hj2:l.getD j default=y:=by rw [List.getD_eq_getElem?_getD,List.getElem?_eq_getElem hj];exact hje
  rcases Nat.lt_or_ge j (l.length - 1) with hlt | hge
  ·have h5:=h.apart j (l.length - 1) hlt hl
   rw [hj2] at h5
   omega
  ·have:j=l.length - 1:=by omega
   subst this
   rw [hj2] at h4
   omega
end Zn
