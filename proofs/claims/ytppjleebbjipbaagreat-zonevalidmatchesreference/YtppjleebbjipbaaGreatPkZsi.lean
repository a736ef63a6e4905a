/-
  The sort of numbers.
-/
import Derived.Test.YtppjleebbjipbaaGreatPkZsh
import Derived.Test.YtppjleebbjipbaaGreatPkZns
import Derived.Shelf.SortM.Plain
import Derived.Shelf.SortM.SortNone
import Derived.Ground.SlgmProg
set_option linter.unusedSectionVars false
set_option linter.constructorNameAsVariable false
set_option linter.unusedVariables false
set_option linter.unusedSimpArgs false
namespace Zn
def a2z (l:List Int):List Int:=l.mergeSort fun x y=>decide (x≤y)
theorem a4n (l:List Int):(a2z l).Perm l:=List.mergeSort_perm _ _
end Zn
namespace Go.Proofs.YtppjleebbjipbaaGreat
open Go.RowKit Go.Shelf
set_option maxRecDepth 20000
set_option maxHeartbeats 8000000
def a2c (W:World) (v:Value) (l:List Int):Prop:=a1s W v l∧∃ a c,v=.slice a l.length c∧l.length≤c
theorem a2c.below {W W':World} {v:Value} {l:List Int} (h:a2c W v l) (hb:Below W.heap.size W W'):a2c W' v l:=⟨h.1.below hb,h.2⟩
theorem a2c.nil (W:World):a2c W (.slice none 0 0) []:=⟨⟨none,0,rfl,fun h=>by simp at h⟩,none,0,rfl,Nat.le_refl _⟩
theorem a5t {W:World} {base:Nat} {v:Value} {l:List Int} (h:W.ownsRow base 3 1 v l.length (a4m l)) (hl:l.length≤1000000000) :
  Calls Tryz.prog 81 #[v] W fun e w'=>e=.returned (.tuple #[])∧a2c w' v (Zn.a2z l)∧a1x W.heap.size (fun k=>base≤k) W w':=by
 have hll:(Zn.a2z l).length=l.length:=(Zn.a4n l).length_eq
 rcases h.2 with ⟨rfl,h0⟩ | ⟨g,c,cur,rfl,h1,h2,h3,h4,h5,h6⟩
 ·have hl0:l = []:=List.length_eq_zero_iff.1 h0
  have hcon:=AnyM.slices_Sort_int_none Tryz.sortInt none 0 W
  change Calls Tryz.prog 81 _ _ _ at hcon
  refine hcon.mono ?_
  rintro e w' ⟨rfl,rfl⟩
  exact ⟨rfl,⟨⟨none,0,by rw [hll,h0],fun hn=>by rw [hll] at hn;omega⟩,none,0,by rw [hll,h0],by rw [hll,h0];exact Nat.le_refl _⟩,⟨rfl,rfl,rfl,Nat.le_refl _,fun _ _ _=>rfl⟩⟩
 ·have h2':W.heap[g]? = some (.cells cur 3 (0,0)):=h2
  have lb:=a09 (w:=W) h2
  have hcell:∀ j,j < l.length→cur[j]? = some (.int .i64 (l.getD j 0))∧j < cur.size:=by
   intro j hj
   have e1:(a4m l)[j]? = some (.int .i64 (l.getD j 0)):=by
    unfold a4m
    rw [List.getElem?_map,List.getD_eq_getElem?_getD,List.getElem?_eq_getElem hj]
    rfl
   rw [← h6,List.getElem?_take] at e1
   split at e1
   ·rw [Array.getElem?_toList] at e1
    exact ⟨e1,(Array.getElem?_eq_some_iff.1 e1).1⟩
   ·cases e1
  have hH:Go.Sort.Holds (Value.int .i64) W g 0 l.toArray:=by
   intro j hj
   have hj':j < l.length:=by simpa using hj
   refine ⟨?_,a0d h2 _⟩
   rw [a02 h2 (0+j),Nat.zero_add,(hcell j hj').1]
   congr 2
   rw [List.getD_eq_getElem?_getD]
   simp [hj']
  have hcon:=AnyM.slices_Sort_int Tryz.sortInt g 0 c l W hH lb (by omega)
  change Calls Tryz.prog 81 _ _ _ at hcon
  refine hcon.mono ?_
  rintro e w' ⟨rfl,n,os,rfl⟩
  have hb':(Go.Sort.grow (Go.Sort.putRow (Value.int .i64) (Go.Sort.ahead W n) g 0 (l.mergeSort fun x y=>decide (x≤y)).toArray) os).heap[g]? = some (.cells (Go.Sort.putCells (Value.int .i64) 0 (Zn.a2z l).toArray cur) 3 (0,0)):=by
   simp only [Go.Sort.grow,Go.Sort.putRow,Go.Sort.mapBlock,Go.Sort.ahead]
   rw [Array.getElem?_append_left (by simpa using lb),Array.getElem?_modify,if_pos rfl,h2']
   rfl
  refine ⟨rfl,⟨⟨some ⟨g,0,none⟩,c,by rw [hll],fun _=>⟨g,0,_,3,(0,0),rfl,hb',fun i hi=>?_⟩⟩,some ⟨g,0,none⟩,c,by rw [hll],by rw [hll];exact h3⟩,⟨rfl,rfl,rfl,?_,fun k hk hn=>?_⟩⟩
  ·rw [hll] at hi
   have hr:=(hcell i hi).2
   simp only [Go.Sort.putCells,Nat.zero_add,Array.getElem?_mapIdx,Array.getElem?_eq_getElem hr,Option.map_some]
   rw [if_pos ⟨Nat.zero_le _,by simp [hll];omega⟩,Nat.sub_zero]
   congr 2
   rw [List.getD_eq_getElem?_getD]
   simp [hll,hi]
  ·simp [Go.Sort.grow,Go.Sort.putRow,Go.Sort.mapBlock,Go.Sort.ahead]
  ·simp only [Go.Sort.grow,Go.Sort.putRow,Go.Sort.mapBlock,Go.Sort.ahead]
   rw [Array.getElem?_append_left (by simpa using hk),Array.getElem?_modify,if_neg (fun e=>hn (by subst e;exact h1))]
end Go.Proofs.YtppjleebbjipbaaGreat
