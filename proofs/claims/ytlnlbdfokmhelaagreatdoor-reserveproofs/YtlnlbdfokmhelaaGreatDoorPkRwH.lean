/-
  The walks of slices.IndexFunc and slices.ContainsFunc over letters, for the functions that stand in package reserve.
-/
import Derived.Test.YtlnlbdfokmhelaaGreatDoorPkRwA
set_option linter.unusedSectionVars false
set_option linter.constructorNameAsVariable false
set_option linter.unusedVariables false
set_option linter.unusedSimpArgs false
namespace Go.Proofs.YtlnlbdfokmhelaaGreatDoor
open Go.RowKit Go.CE.V
set_option maxRecDepth 20000
set_option maxHeartbeats 4000000
theorem getD_mem {α:Type} {l:List α} {k:Nat} {d:α} (h:k < l.length):l.getD k d∈l:=by
 rw [List.getD_eq_getElem?_getD,List.getElem?_eq_getElem h]
 exact List.getElem_mem h
theorem ajd {α:Type} {l:List α} {x:α} (d:α) (h:x∈l) : ∃ k,k < l.length∧l.getD k d=x:=by
 obtain ⟨k,hk,e⟩:=List.getElem_of_mem h
 exact ⟨k,hk,by rw [List.getD_eq_getElem?_getD,List.getElem?_eq_getElem hk];exact e⟩
theorem any_false {xs:List LN} {P:LN→Bool} (h:∀ j,j < xs.length→P (xs.getD j a0c)=false):xs.any P=false:=by
 rw [List.any_eq_false]
 intro x hx
 obtain ⟨k,hk,rfl⟩:=ajd a0c hx
 rw [h k hk]
 decide

theorem ixf1 {g:Nat} (hg:g=162∨g=93∨g=95) {B:Nat} {W:World} {v c1:Value} {xs:List LN} (hr:∀ i,i < xs.length→(xs.getD i a0c).ref.length=32) (hv:a4w B W v xs) (hz:xs.length≤1000000) {P:LN→Bool}
    (HP:∀ i,i < xs.length→∀ w c,Below W.heap.size W w→a0h B w c (xs.getD i a0c).cs→Calls Tryz.prog g #[.agg (LN.let (xs.getD i a0c) c).row,c1] w fun e w'=>e=.returned (.bool (P (xs.getD i a0c)))∧Below w.heap.size w w') :
    Calls Tryz.prog 153 #[v,.func (.func g) #[] #[c1]] W fun e W'=>((∃ k:Nat,k < xs.length∧P (xs.getD k a0c)=true∧(∀ j,j < k→P (xs.getD j a0c)=false)∧e=.returned (.int .i64 k))∨((∀ j,j < xs.length→P (xs.getD j a0c)=false)∧e=.returned (.int .i64 (-1))))∧Below W.heap.size W W':=by
  obtain ⟨cv,⟨a,cc,rfl,hrow⟩,hcv⟩:=hv
  have HPP:=Lib.hid HP
  have HR:=Lib.hid hr
  have HC:=Lib.hid hcv
  clear HP hr hcv
  rcases hg with rfl | rfl | rfl <;>
  (go_enter Tryz.func153,Tryz.ntmps153
   repeat' (first | go_skip | go_guarded | go_step | go_upon)
   go_loopw [8] (fun i wr => ∃ k:Nat,k≤xs.length∧i=.int .i64 k∧(∀ j,j < k→P (xs.getD j a0c)=false)∧Below W.heap.size W wr) (fun i _=>(xs.length - intOf i).toNat)
   case atStart=>exact ⟨0,by omega,rfl,fun j hj=>by omega,Below.refl _ _⟩
   case round =>
     obtain ⟨k,hk,rfl,hno,hB⟩:=hrel
     have HNO:=Lib.hid hno
     clear hno
     by_cases hlt:k < xs.length
     · have i1:(k:Int) < (xs.length:Int):=by omega
       obtain ⟨b,o,row,rfl,hb1,hb2⟩:=hrow (by omega)
       obtain ⟨z0,k2⟩:=hb2 k hlt
       have z1:(o+k * 62+62≤row.size)=True:=eq_true z0
       have hbw:=a00 hb1 hB (a04 hb1)
       have HK:=Lib.hid (HPP.out k hlt wr (cv k) hB ((HC.out k hlt).below hB))
       clear hrow hb1 hb2 z0
       dsimp only at k2
       generalize hx:xs.getD k a0c=x at *
       generalize hp:P x=b1 at *
       generalize (LN.let x (cv k)).row=R at *
       have HX:=Lib.hid hx
       have HPb:=Lib.hid hp
       clear hx hp
       cases b1
       · repeat' (first | ((with_reducible refine (HK.out).mono ?_);rintro r w' ⟨rfl,hb'⟩;dsimp only) | go_skip | go_guarded | go_step | go_upon)
         exact ⟨⟨k+1,by omega,by go_num,fun j hj=>by
           rcases Nat.lt_succ_iff_lt_or_eq.1 hj with h | rfl
           · exact HNO.out j h
           · rw [HX.out];exact HPb.out,hB.trans (hb'.mono hB.size)⟩,by simp [intOf];omega⟩
       · repeat' (first | ((with_reducible refine (HK.out).mono ?_);rintro r w' ⟨rfl,hb'⟩;dsimp only) | go_skip | go_guarded | go_step | go_upon)
         go_ret
         exact ⟨.inl ⟨k,hlt,by rw [HX.out];exact HPb.out,HNO.out,rfl⟩,hB.trans (hb'.mono hB.size)⟩
     · have i1 : ¬ (k:Int) < (xs.length:Int):=by omega
       have HT:=Lib.hid (show ∀ j,j < xs.length→P (xs.getD j a0c)=false from fun j hj=>HNO.out j (by omega))
       clear hrow
       repeat' (first | go_skip | go_guarded | go_step | go_upon)
       go_ret
       exact ⟨.inr ⟨HT.out,rfl⟩,hB⟩)

theorem ixf2 {g:Nat} (hg:g=152∨g=154) {B:Nat} {W:World} {v c1 c2:Value} {xs:List LN} (hr:∀ i,i < xs.length→(xs.getD i a0c).ref.length=32) (hv:a4w B W v xs) (hz:xs.length≤1000000) {P:LN→Bool}
    (HP:∀ i,i < xs.length→∀ w c,Below W.heap.size W w→a0h B w c (xs.getD i a0c).cs→Calls Tryz.prog g #[.agg (LN.let (xs.getD i a0c) c).row,c1,c2] w fun e w'=>e=.returned (.bool (P (xs.getD i a0c)))∧Below w.heap.size w w') :
    Calls Tryz.prog 153 #[v,.func (.func g) #[] #[c1,c2]] W fun e W'=>((∃ k:Nat,k < xs.length∧P (xs.getD k a0c)=true∧(∀ j,j < k→P (xs.getD j a0c)=false)∧e=.returned (.int .i64 k))∨((∀ j,j < xs.length→P (xs.getD j a0c)=false)∧e=.returned (.int .i64 (-1))))∧Below W.heap.size W W':=by
  obtain ⟨cv,⟨a,cc,rfl,hrow⟩,hcv⟩:=hv
  have HPP:=Lib.hid HP
  have HR:=Lib.hid hr
  have HC:=Lib.hid hcv
  clear HP hr hcv
  rcases hg with rfl | rfl <;>
  (go_enter Tryz.func153,Tryz.ntmps153
   repeat' (first | go_skip | go_guarded | go_step | go_upon)
   go_loopw [8] (fun i wr => ∃ k:Nat,k≤xs.length∧i=.int .i64 k∧(∀ j,j < k→P (xs.getD j a0c)=false)∧Below W.heap.size W wr) (fun i _=>(xs.length - intOf i).toNat)
   case atStart=>exact ⟨0,by omega,rfl,fun j hj=>by omega,Below.refl _ _⟩
   case round =>
     obtain ⟨k,hk,rfl,hno,hB⟩:=hrel
     have HNO:=Lib.hid hno
     clear hno
     by_cases hlt:k < xs.length
     · have i1:(k:Int) < (xs.length:Int):=by omega
       obtain ⟨b,o,row,rfl,hb1,hb2⟩:=hrow (by omega)
       obtain ⟨z0,k2⟩:=hb2 k hlt
       have z1:(o+k * 62+62≤row.size)=True:=eq_true z0
       have hbw:=a00 hb1 hB (a04 hb1)
       have HK:=Lib.hid (HPP.out k hlt wr (cv k) hB ((HC.out k hlt).below hB))
       clear hrow hb1 hb2 z0
       dsimp only at k2
       generalize hx:xs.getD k a0c=x at *
       generalize hp:P x=b1 at *
       generalize (LN.let x (cv k)).row=R at *
       have HX:=Lib.hid hx
       have HPb:=Lib.hid hp
       clear hx hp
       cases b1
       · repeat' (first | ((with_reducible refine (HK.out).mono ?_);rintro r w' ⟨rfl,hb'⟩;dsimp only) | go_skip | go_guarded | go_step | go_upon)
         exact ⟨⟨k+1,by omega,by go_num,fun j hj=>by
           rcases Nat.lt_succ_iff_lt_or_eq.1 hj with h | rfl
           · exact HNO.out j h
           · rw [HX.out];exact HPb.out,hB.trans (hb'.mono hB.size)⟩,by simp [intOf];omega⟩
       · repeat' (first | ((with_reducible refine (HK.out).mono ?_);rintro r w' ⟨rfl,hb'⟩;dsimp only) | go_skip | go_guarded | go_step | go_upon)
         go_ret
         exact ⟨.inl ⟨k,hlt,by rw [HX.out];exact HPb.out,HNO.out,rfl⟩,hB.trans (hb'.mono hB.size)⟩
     · have i1 : ¬ (k:Int) < (xs.length:Int):=by omega
       have HT:=Lib.hid (show ∀ j,j < xs.length→P (xs.getD j a0c)=false from fun j hj=>HNO.out j (by omega))
       clear hrow
       repeat' (first | go_skip | go_guarded | go_step | go_upon)
       go_ret
       exact ⟨.inr ⟨HT.out,rfl⟩,hB⟩)

theorem aQs {g:Nat} (hg:g=162∨g=93∨g=95) {B:Nat} {W:World} {v c1:Value} {xs:List LN} (hr:∀ i,i < xs.length→(xs.getD i a0c).ref.length=32) (hv:a4w B W v xs) (hz:xs.length≤1000000) {P:LN→Bool}
    (HP:∀ i,i < xs.length→∀ w c,Below W.heap.size W w→a0h B w c (xs.getD i a0c).cs→Calls Tryz.prog g #[.agg (LN.let (xs.getD i a0c) c).row,c1] w fun e w'=>e=.returned (.bool (P (xs.getD i a0c)))∧Below w.heap.size w w') :
    Calls Tryz.prog 92 #[v,.func (.func g) #[] #[c1]] W fun e W'=>e=.returned (.bool (xs.any P))∧Below W.heap.size W W':=by
  have HI:=Lib.hid (ixf1 hg hr hv hz HP)
  have HI2:Hid (Calls Tryz.prog 153 #[v,.func (.func g) #[] #[c1]] W fun e W' => ∃ i:Int,e=.returned (.int .i64 i)∧(decide (0≤i))=xs.any P∧Below W.heap.size W W'):=Lib.hid (HI.out.mono fun e W' ⟨h,hb⟩=>by
    rcases h with ⟨k,hk,hp,_,rfl⟩ | ⟨hn,rfl⟩
    · refine ⟨_,rfl,?_,hb⟩
      rw [List.any_eq_true.2 ⟨_,getD_mem hk,hp⟩]
      exact decide_eq_true (by omega)
    · refine ⟨_,rfl,?_,hb⟩
      rw [any_false hn]
      rfl)
  clear HI HP hv hr
  rcases hg with rfl | rfl | rfl <;>
  (go_enter Tryz.func92,Tryz.ntmps92
   repeat' (first | (go_at_call 153;((with_reducible refine (HI2.out).mono ?_));rintro r w' ⟨i,rfl,hi,hB⟩;dsimp only) | go_skip | go_guarded | go_step | go_upon)
   go_ret
   exact ⟨by rw [← hi];rfl,hB⟩)

theorem cxf2 {g:Nat} (hg:g=152∨g=154) {B:Nat} {W:World} {v c1 c2:Value} {xs:List LN} (hr:∀ i,i < xs.length→(xs.getD i a0c).ref.length=32) (hv:a4w B W v xs) (hz:xs.length≤1000000) {P:LN→Bool}
    (HP:∀ i,i < xs.length→∀ w c,Below W.heap.size W w→a0h B w c (xs.getD i a0c).cs→Calls Tryz.prog g #[.agg (LN.let (xs.getD i a0c) c).row,c1,c2] w fun e w'=>e=.returned (.bool (P (xs.getD i a0c)))∧Below w.heap.size w w') :
    Calls Tryz.prog 92 #[v,.func (.func g) #[] #[c1,c2]] W fun e W'=>e=.returned (.bool (xs.any P))∧Below W.heap.size W W':=by
  have HI:=Lib.hid (ixf2 hg hr hv hz HP)
  have HI2:Hid (Calls Tryz.prog 153 #[v,.func (.func g) #[] #[c1,c2]] W fun e W' => ∃ i:Int,e=.returned (.int .i64 i)∧(decide (0≤i))=xs.any P∧Below W.heap.size W W'):=Lib.hid (HI.out.mono fun e W' ⟨h,hb⟩=>by
    rcases h with ⟨k,hk,hp,_,rfl⟩ | ⟨hn,rfl⟩
    · refine ⟨_,rfl,?_,hb⟩
      rw [List.any_eq_true.2 ⟨_,getD_mem hk,hp⟩]
      exact decide_eq_true (by omega)
    · refine ⟨_,rfl,?_,hb⟩
      rw [any_false hn]
      rfl)
  clear HI HP hv hr
  rcases hg with rfl | rfl <;>
  (go_enter Tryz.func92,Tryz.ntmps92
   repeat' (first | (go_at_call 153;((with_reducible refine (HI2.out).mono ?_));rintro r w' ⟨i,rfl,hi,hB⟩;dsimp only) | go_skip | go_guarded | go_step | go_upon)
   go_ret
   exact ⟨by rw [← hi];rfl,hB⟩)
end Go.Proofs.YtlnlbdfokmhelaaGreatDoor
