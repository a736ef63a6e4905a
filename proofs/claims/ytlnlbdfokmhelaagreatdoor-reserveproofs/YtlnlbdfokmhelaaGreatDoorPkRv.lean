/-
  What the walks of the Reserve statements begin with.
-/
import Derived.Test.YtlnlbdfokmhelaaGreatDoorPkRo
import Derived.Test.YtlnlbdfokmhelaaGreatDoorPkRp
import Derived.Test.YtlnlbdfokmhelaaGreatDoorPkRm
import Derived.WalkKit
import Derived.ProofKit
import Derived.OpenShut
import Derived.Carry
import Derived.Deep.DeepHandedRow
import Derived.Deep.Slices
import Derived.Test.YtlnlbdfokmhelaaGreatDoorPkRwH
import Derived.Test.YtlnlbdfokmhelaaGreatDoorPkRwS
import Derived.Test.YtlnlbdfokmhelaaGreatDoorPkRwP
import Derived.Test.YtlnlbdfokmhelaaGreatDoorPkCn
import Derived.Great.BuildSlice
set_option linter.unusedSectionVars false
set_option linter.constructorNameAsVariable false
set_option linter.unusedVariables false
set_option linter.unusedSimpArgs false
namespace Go.Proofs.YtlnlbdfokmhelaaGreatDoor
open Go.RowKit Go.CE.V Go.Rv
set_option maxRecDepth 20000
set_option maxHeartbeats 4000000
attribute [local irreducible] wpQuiet
theorem _root_.Go.CE.V.ase.below {W W':World} (h:ase W) (hb:Below W.heap.size W W'):ase W':=by
 obtain ⟨c,h1,h2,h3⟩:=h
 exact ⟨c,(hb.block 0 (a04 (show obj W 0=some _ from h1))).trans h1,h2,h3⟩
theorem _root_.Go.CE.V.ase.pos {W:World} (h:ase W):0 < W.heap.size:=by
 obtain ⟨c,h1,_⟩:=h
 exact a04 (show obj W 0=some _ from h1)
theorem _root_.Go.CE.V.ase.tab {W:World} (h:ase W):Tab W:=by
 obtain ⟨c,h1,h2,h3⟩:=h
 refine ⟨c,_,_,h1,by omega,?_⟩
 rw [extract_all _ _ h2]
 unfold aca
 apply Array.ext_getElem?
 intro i
 by_cases hi:i < 64
 ·rw [h3 i hi,List.getElem?_toArray,List.getElem?_map,List.getD_eq_getElem?_getD]
  have hK:Sha.K.length=64:=rfl
  rw [List.getElem?_eq_getElem (by omega)]
  rfl
 ·rw [Array.getElem?_eq_none (by omega),List.getElem?_toArray,List.getElem?_eq_none (by rw [List.length_map];show Sha.K.length≤i;have hK:Sha.K.length=64:=rfl;omega)]
theorem alh {W:World} {me:Nat} {own:List Nat} {w:Value} (hv:a0h 0 W w own):ane W (ownRow me 4 0 90 2 w (.slice none 0 0)) me 4 0 90 own 2 [] :=
 ⟨⟨w,.slice none 0 0,rfl,hv,fun _=>undef,⟨none,0,rfl,fun h=>absurd rfl h⟩,fun i hi=>absurd hi (Nat.not_lt_zero i)⟩,⟨fun i hi=>absurd hi (Nat.not_lt_zero i),fun i hi=>absurd hi (Nat.not_lt_zero i)⟩,by decide,fun pv h=>by rw [aau] at h;cases h;exact ⟨none,0,0,rfl,Nat.le_refl _⟩⟩
theorem ai2 (own:List Nat):Go.Rv.Good (a2s 4 0 90 own) ⟨2,[]⟩:=by
 refine ⟨fun x hx=>absurd hx List.not_mem_nil,fun _ x hx=>absurd hx List.not_mem_nil,fun h=>absurd h (by decide),fun _=>?_⟩
 unfold a2c.a09
 split<;>rfl
end Go.Proofs.YtlnlbdfokmhelaaGreatDoor
namespace Go.Proofs.YtlnlbdfokmhelaaGreatDoor
open Go.Deep Go.ChangeShapes Go.WideShapes Go.ChangeAt Go.RowKit Go.CE.V
theorem list4 {α:Type}:∀ {l:List α},l.length=4→∃ c0 c1 c2 c3,l = [c0,c1,c2,c3]
 | [c0,c1,c2,c3],_=>⟨c0,c1,c2,c3,rfl⟩
set_option maxRecDepth 100000
theorem aHx:Tryz.prog.cellsOf 71=4:=by kernel_rfl
section
variable {H:Type} {enc:TypeId×Value→H} {W:World} {base:Nat} {spare:Nat→Bool} {held:Bool}
theorem acm {n:Int} (h:(Lit.int .u8 n).wf=true) : ∃ u:Nat,n=(u:Int)∧u < 256:=by
 simp only [Lit.wf,Bool.and_eq_true,decide_eq_true_eq] at h
 have hn:0≤n∧n≤255:=h
 exact ⟨n.toNat,by omega,by omega⟩
theorem aU1 {fuel:Nat} {cs:List Value} {x:DataW H×List MemPlace} (h:DataW.trod enc Tryz.prog W base spare held fuel 71 cs=some x) : ∃ k f t b:Nat,k < 256∧f < 256∧t < 256∧b < 256∧cs.toArray=a1b k f t b:=by
 obtain ⟨xs,n,_,rfl,hl,hlen,hf⟩:=DataW.trod_struct Tryz.underlying71 h
 rw [aHx] at hl
 obtain ⟨c0,c1,c2,c3,rfl⟩:=list4 hl
 obtain ⟨y0,y1,y2,y3,rfl⟩:=list4 (show xs.length=4 from hlen)
 have k8:Tryz.prog.cellsOf 5=1:=by kernel_rfl
 have q0:DataW.trod enc Tryz.prog W base spare held n 5 [c0]=some y0:=by
  have q:DataW.trod enc Tryz.prog W base spare held n 5 (([c0,c1,c2,c3].drop 0).take (Tryz.prog.cellsOf 5))=some y0:=hf 0 _ rfl
  rw [k8] at q
  exact q
 have q1:DataW.trod enc Tryz.prog W base spare held n 5 [c1]=some y1:=by
  have q:DataW.trod enc Tryz.prog W base spare held n 5 (([c0,c1,c2,c3].drop 1).take (Tryz.prog.cellsOf 5))=some y1:=hf 1 _ rfl
  rw [k8] at q
  exact q
 have q2:DataW.trod enc Tryz.prog W base spare held n 5 [c2]=some y2:=by
  have q:DataW.trod enc Tryz.prog W base spare held n 5 (([c0,c1,c2,c3].drop 2).take (Tryz.prog.cellsOf 5))=some y2:=hf 2 _ rfl
  rw [k8] at q
  exact q
 have q3:DataW.trod enc Tryz.prog W base spare held n 5 [c3]=some y3:=by
  have q:DataW.trod enc Tryz.prog W base spare held n 5 (([c0,c1,c2,c3].drop 3).take (Tryz.prog.cellsOf 5))=some y3:=hf 3 _ rfl
  rw [k8] at q
  exact q
 obtain ⟨n0,e0,_,w0⟩:=DataW.trod_int Tryz.underlying5 q0
 obtain ⟨n1,e1,_,w1⟩:=DataW.trod_int Tryz.underlying5 q1
 obtain ⟨n2,e2,_,w2⟩:=DataW.trod_int Tryz.underlying5 q2
 obtain ⟨n3,e3,_,w3⟩:=DataW.trod_int Tryz.underlying5 q3
 obtain ⟨u0,rfl,l0⟩:=acm w0
 obtain ⟨u1,rfl,l1⟩:=acm w1
 obtain ⟨u2,rfl,l2⟩:=acm w2
 obtain ⟨u3,rfl,l3⟩:=acm w3
 have e0:[c0] = [.int .u8 u0]:=e0
 have e1:[c1] = [.int .u8 u1]:=e1
 have e2:[c2] = [.int .u8 u2]:=e2
 have e3:[c3] = [.int .u8 u3]:=e3
 cases e0;cases e1;cases e2;cases e3
 exact ⟨u0,u1,u2,u3,l0,l1,l2,l3,rfl⟩
theorem aOb {v:Value} {d:DataW H} {p:List MemPlace} (hv:Value.okWide Tryz.prog W .any base 71 v) (h:DataW.Trod enc Tryz.prog W 0 spare held 71 v d p) : ∃ k f t b:Nat,k < 256∧f < 256∧t < 256∧b < 256∧v=.agg (a1b k f t b):=by
 obtain ⟨fuel,hf⟩:=h
 obtain ⟨cs,rfl,_⟩:=okWide_struct Tryz.underlying71 hv
 obtain ⟨k,f,t,b,l0,l1,l2,l3,e⟩:=aU1 hf
 refine ⟨k,f,t,b,l0,l1,l2,l3,?_⟩
 rw [← e]
 simp [Value.cells]
end
end Go.Proofs.YtlnlbdfokmhelaaGreatDoor
namespace Go.Proofs.YtlnlbdfokmhelaaGreatDoor
open Go.RowKit Go.CE.V
set_option maxRecDepth 20000
set_option maxHeartbeats 4000000
theorem aAh {W:World} {x:LN} {c v:Value} {b mtg org dl:Nat} {own:List Nat} (hr:x.ref.length=32) (hc:a4r W c x.cs) (hv:a4r W v own) (hz:x.cs.length≤1000000) (ho:own.length≤1000000)
    (hb:obj W b=some (.cells (a06 mtg org dl v) 144 (0,0))) :
    Calls Tryz.prog 115 #[.agg (LN.let x c).row,.pointer (some ⟨b,0,none⟩)] W fun e W'=>e=.returned (.bool (!decide (x.cs=own)))∧Below W.heap.size W W':=by
  have lz:=a0e (LN.let x c) hr
  have la:=a15 (LN.let x c) hr
  have lo:=a0y (LN.let x c) (a2o hc)
  have k1:=a02 hb (.cells (LN.let x c).row 48 (0,0))
  have k2:obj (W.alloc (.cells (LN.let x c).row 48 (0,0))) W.heap.size=some (.cells (LN.let x c).row 48 (0,0)):=a03 _ _ _ rfl
  have kB:Below W.heap.size W (W.alloc (.cells (LN.let x c).row 48 (0,0))):=(Below.refl _ _).alloc (Nat.le_refl _) _
  have n0:=(a01 k2 0).trans (a8z _)
  have n1:=(a01 k2 1).trans (ad4 _)
  have n29:=(a01 k2 29).trans (aid _)
  have np:=(a01 k1 3).trans (ads _ _ _ _)
  have HC:=Lib.hid (fun W' (hb:Below W.heap.size W W')=>adk (hc.below hb) (hv.below hb) hz)
  generalize decide (x.cs=own)=be at *
  clear hc hv hr
  cases be <;>
  (go_enter Tryz.func115,Tryz.ntmps115
   repeat' (first | (go_at_call 116;((with_reducible refine (HC.out _ kB).mono ?_));rintro r w1 ⟨rfl,hb1⟩;have mB:=kB.trans (hb1.mono kB.size);dsimp only) | go_skip | go_guarded | go_step | go_upon)
   go_ret
   exact ⟨by simp,by assumption⟩)
theorem aAg {W:World} {x:LN} {c v:Value} {b mtg org dl:Nat} {own:List Nat} (hr:x.ref.length=32) (hc:a4r W c x.cs) (hv:a4r W v own) (hz:x.cs.length≤1000000) (ho:own.length≤1000000)
    (hb:obj W b=some (.cells (a06 mtg org dl v) 144 (0,0))) :
    Calls Tryz.prog 117 #[.agg (LN.let x c).row,.pointer (some ⟨b,0,none⟩)] W fun e W'=>e=.returned (.bool (decide (x.kind=10)&&decide (x.frm∈own)))∧Below W.heap.size W W':=by
  have lz:=a0e (LN.let x c) hr
  have la:=a15 (LN.let x c) hr
  have lo:=a0y (LN.let x c) (a2o hc)
  have k1:=a02 hb (.cells (LN.let x c).row 48 (0,0))
  have k2:obj (W.alloc (.cells (LN.let x c).row 48 (0,0))) W.heap.size=some (.cells (LN.let x c).row 48 (0,0)):=a03 _ _ _ rfl
  have kB:Below W.heap.size W (W.alloc (.cells (LN.let x c).row 48 (0,0))):=(Below.refl _ _).alloc (Nat.le_refl _) _
  have n0:=(a01 k2 0).trans (a8z _)
  have n1:=(a01 k2 1).trans (ad4 _)
  have n29:=(a01 k2 29).trans (aid _)
  have np:=(a01 k1 3).trans (ads _ _ _ _)
  have HC:=Lib.hid (fun W' (hb:Below W.heap.size W W')=>a5u (hv.below hb) ho x.frm)
  have e10:((x.kind:Int) == 10)=decide (x.kind=10):=a14 x.kind 10
  generalize decide (x.kind=10)=b10 at *
  generalize decide (x.frm∈own)=be at *
  clear hc hv hr
  cases b10 <;>
  (go_enter Tryz.func117,Tryz.ntmps117
   repeat' (first | (go_at_call 118;((with_reducible refine (HC.out _ kB).mono ?_));rintro r w1 ⟨rfl,hb1⟩;have mB:=kB.trans (hb1.mono kB.size);dsimp only) | go_skip | go_guarded | go_step | go_upon)
   go_ret
   exact ⟨by simp,by assumption⟩)
theorem ixf3 {g:Nat} (hg:g=115∨g=117) {B:Nat} {W:World} {v c1:Value} {xs:List LN} (hr:∀ i,i < xs.length→(xs.getD i a0c).ref.length=32) (hv:a4w B W v xs) (hz:xs.length≤1000000) {P:LN→Bool}
    (HP:∀ i,i < xs.length→∀ w c,Below W.heap.size W w→a0h B w c (xs.getD i a0c).cs→Calls Tryz.prog g #[.agg (LN.let (xs.getD i a0c) c).row,c1] w fun e w'=>e=.returned (.bool (P (xs.getD i a0c)))∧Below w.heap.size w w') :
    Calls Tryz.prog 153 #[v,.func (.func g) #[] #[c1]] W fun e W'=>((∃ k:Nat,k < xs.length∧P (xs.getD k a0c)=true∧(∀ j,j < k→P (xs.getD j a0c)=false)∧e=.returned (.int .i64 k))∨((∀ j,j < xs.length→P (xs.getD j a0c)=false)∧e=.returned (.int .i64 (-1))))∧Below W.heap.size W W':=by
  obtain ⟨cv,⟨a,cc,rfl,hrow⟩,hcv⟩:=hv
  have HPP:=Lib.hid HP
  have HR:=Lib.hid hr
  have HC:=Lib.hid hcv
  clear HP hr hcv
  rcases hg with rfl | rfl <;>
  (go_enter Tryz.func153,Tryz.ntmps153
   repeat' (first | go_skip | go_guarded | go_step | go_upon)
   go_loopw [8] (fun i wr => ∃ k:Nat,k≤xs.length∧i=.int .i64 k∧(∀ j,j < k→P (xs.getD j a0c)=false)∧Below W.heap.size W wr) (fun i _=>(xs.length - intOf i).toNat)
   case atStart=>exact ⟨0,by omega,rfl,fun j hj=>by omega,Below.refl _ _⟩
   case round =>
     obtain ⟨k,hk,rfl,hno,hB⟩:=hrel
     have HNO:=Lib.hid hno
     clear hno
     by_cases hlt:k < xs.length
     · have i1:(k:Int) < (xs.length:Int):=by omega
       obtain ⟨b,o,row,rfl,hb1,hb2⟩:=hrow (by omega)
       obtain ⟨z0,k2⟩:=hb2 k hlt
       have z1:(o+k * 62+62≤row.size)=True:=eq_true z0
       have hbw:=a00 hb1 hB (a04 hb1)
       have HK:=Lib.hid (HPP.out k hlt wr (cv k) hB ((HC.out k hlt).below hB))
       clear hrow hb1 hb2 z0
       dsimp only at k2
       generalize hx:xs.getD k a0c=x at *
       generalize hp:P x=b1 at *
       generalize (LN.let x (cv k)).row=R at *
       have HX:=Lib.hid hx
       have HPb:=Lib.hid hp
       clear hx hp
       cases b1
       · repeat' (first | ((with_reducible refine (HK.out).mono ?_);rintro r w' ⟨rfl,hb'⟩;dsimp only) | go_skip | go_guarded | go_step | go_upon)
         exact ⟨⟨k+1,by omega,by go_num,fun j hj=>by
           rcases Nat.lt_succ_iff_lt_or_eq.1 hj with h | rfl
           · exact HNO.out j h
           · rw [HX.out];exact HPb.out,hB.trans (hb'.mono hB.size)⟩,by simp [intOf];omega⟩
       · repeat' (first | ((with_reducible refine (HK.out).mono ?_);rintro r w' ⟨rfl,hb'⟩;dsimp only) | go_skip | go_guarded | go_step | go_upon)
         go_ret
         exact ⟨.inl ⟨k,hlt,by rw [HX.out];exact HPb.out,HNO.out,rfl⟩,hB.trans (hb'.mono hB.size)⟩
     · have i1 : ¬ (k:Int) < (xs.length:Int):=by omega
       have HT:=Lib.hid (show ∀ j,j < xs.length→P (xs.getD j a0c)=false from fun j hj=>HNO.out j (by omega))
       clear hrow
       repeat' (first | go_skip | go_guarded | go_step | go_upon)
       go_ret
       exact ⟨.inr ⟨HT.out,rfl⟩,hB⟩)

theorem cxf3 {g:Nat} (hg:g=115∨g=117) {B:Nat} {W:World} {v c1:Value} {xs:List LN} (hr:∀ i,i < xs.length→(xs.getD i a0c).ref.length=32) (hv:a4w B W v xs) (hz:xs.length≤1000000) {P:LN→Bool}
    (HP:∀ i,i < xs.length→∀ w c,Below W.heap.size W w→a0h B w c (xs.getD i a0c).cs→Calls Tryz.prog g #[.agg (LN.let (xs.getD i a0c) c).row,c1] w fun e w'=>e=.returned (.bool (P (xs.getD i a0c)))∧Below w.heap.size w w') :
    Calls Tryz.prog 92 #[v,.func (.func g) #[] #[c1]] W fun e W'=>e=.returned (.bool (xs.any P))∧Below W.heap.size W W':=by
  have HI:=Lib.hid (ixf3 hg hr hv hz HP)
  have HI2:Hid (Calls Tryz.prog 153 #[v,.func (.func g) #[] #[c1]] W fun e W' => ∃ i:Int,e=.returned (.int .i64 i)∧(decide (0≤i))=xs.any P∧Below W.heap.size W W'):=Lib.hid (HI.out.mono fun e W' ⟨h,hb⟩=>by
    rcases h with ⟨k,hk,hp,_,rfl⟩ | ⟨hn,rfl⟩
    · refine ⟨_,rfl,?_,hb⟩
      rw [List.any_eq_true.2 ⟨_,getD_mem hk,hp⟩]
      exact decide_eq_true (by omega)
    · refine ⟨_,rfl,?_,hb⟩
      rw [any_false hn]
      rfl)
  clear HI HP hv hr
  rcases hg with rfl | rfl <;>
  (go_enter Tryz.func92,Tryz.ntmps92
   repeat' (first | (go_at_call 153;((with_reducible refine (HI2.out).mono ?_));rintro r w' ⟨i,rfl,hi,hB⟩;dsimp only) | go_skip | go_guarded | go_step | go_upon)
   go_ret
   exact ⟨by rw [← hi];rfl,hB⟩)

theorem amq {B:Nat} {W:World} {v c1:Value} {xs:List LN} (hr:∀ i,i < xs.length→(xs.getD i a0c).ref.length=32) (hv:a4w B W v xs) (hz:xs.length≤1000000)
  (HP:∀ i,i < xs.length→∀ w c,Below W.heap.size W w→a0h B w c (xs.getD i a0c).cs→Calls Tryz.prog 115 #[.agg (LN.let (xs.getD i a0c) c).row,c1] w fun e w'=>e=.returned (.bool ((fun _=>false) (xs.getD i a0c)))∧Below w.heap.size w w') :
  Calls Tryz.prog 114 #[v,.func (.func 115) #[] #[c1]] W fun e W'=>e=.returned v∧Below W.heap.size W W':=by
 have HI:Hid (Calls Tryz.prog 153 #[v,.func (.func 115) #[] #[c1]] W fun e W'=>e=.returned (.int .i64 (-1))∧Below W.heap.size W W'):=Lib.hid ((ixf3 (.inl rfl) (P:=fun _=>false) hr hv hz HP).mono fun e W' ⟨h,hb⟩=>by
  rcases h with ⟨k,hk,hp,_,rfl⟩ | ⟨hn,rfl⟩
  ·cases hp
  ·exact ⟨rfl,hb⟩)
 obtain ⟨cv,⟨la,lc,rfl,hlr⟩,hcv⟩:=hv
 clear HP hr hlr hcv
 go_enter Tryz.func114,Tryz.ntmps114
 repeat' (first | (go_at_call 153;((with_reducible refine (HI.out).mono ?_));rintro r w' ⟨rfl,hB⟩;dsimp only) | go_skip | go_guarded | go_step | go_upon)
 go_ret
 exact ⟨rfl,hB⟩
end Go.Proofs.YtlnlbdfokmhelaaGreatDoor
namespace Go.Proofs.YtlnlbdfokmhelaaGreatDoor
open Go.RowKit Go.CE.V
set_option maxRecDepth 20000
set_option maxHeartbeats 4000000
def ajx (b:Bool) (own:List Nat) (m org:Nat) (K:List LN):Nat×Nat :=
 if b=false then (0,11) else if (a2s m org 0 own).a09 K=true then (1,0) else if (K.any fun x=>decide (x.kind=10)&&decide (x.frm∈own))=true then (2,0) else (0,11)
theorem aut {W:World} {kv pv:Value} {ps:List (LN×Nat)} {m org:Nat} (hk:a7r W kv) (hp:a6i W pv ps) (hok:∀ i,i < ps.length→LOk (ps.getD i (a0c,0)).1 (ps.getD i (a0c,0)).2) (hz:ps.length≤1000) (hT:Tab W) (h0w:0 < W.heap.size) (hm:∀ i,i < ps.length→(ps.getD i (a0c,0)).1.mtg≠m) :
  Calls Tryz.prog 42 #[kv,.int .i64 m,.int .i64 org,pv] W fun e W'=>e=.returned (.tuple #[.int .i64 0,.int .i64 11])∧Below W.heap.size W W':=by
 obtain ⟨bv,⟨pa,pc,rfl,hrow⟩,hbv⟩:=hp
 have HK:=Lib.hid (fun W' (hb:Below W.heap.size W W')=>And.intro (hk.below hb) (hT.below hb h0w))
 have HOK:=Lib.hid hok
 have HBV:=Lib.hid hbv
 have aBe:=Lib.hid hrow
 clear hk hok hbv hT hrow
 have HM:=Lib.hid hm
 clear hm
 go_enter Tryz.func42,Tryz.ntmps42
 repeat' (first | go_skip | go_guarded | go_step | go_upon)
 go_loopw [10,18] (fun v i wr => ∃ k:Nat,k≤ps.length∧v=.slice none 0 0∧i=.int .i64 k∧Below W.heap.size W wr) (fun _ i _=>(ps.length - intOf i).toNat)
 case atStart=>exact ⟨0,by omega,rfl,rfl,Below.refl _ _⟩
 case round =>
  obtain ⟨k,hk,rfl,rfl,hB⟩:=hrel
  by_cases hlt:k < ps.length
  ·have i1:(k:Int) < (ps.length:Int):=by omega
   obtain ⟨b,o,row,rfl,hb1,hb2⟩:=aBe.out (by omega)
   obtain ⟨z0,k2⟩:=hb2 k hlt
   have z1:(o+k * 36+36≤row.size)=True:=eq_true z0
   have hbw:=a00 hb1 hB (a04 hb1)
   have hX:=HOK.out k hlt
   have hbd:=HBV.out k hlt
   dsimp only at k2
   have hmk:=HM.out k hlt
   have HXE:Hid ((ps.getD k (a0c,0))=ps.getD k (a0c,0)):=Lib.hid rfl
   generalize hxe:ps.getD k (a0c,0)=xq at k2 hX hbd hmk
   obtain ⟨x,q⟩:=xq
   have HXQ:=Lib.hid hxe
   clear hxe hb2 z0 hb1
   dsimp only at k2 hX hbd hmk
   have e3:((x.mtg:Int) == (m:Int))=false:=(a14 _ _).trans (decide_eq_false hmk)
   have hr:=a1o (a05 x q (bv k)) (a0f x q)
   have hall:=a4f (a05 x q (bv k)) (a0f x q)
   have w1B:Below W.heap.size W (wr.alloc (.cells (a05 x q (bv k)).row 78 (0,0))):=hB.alloc hB.size _
   have w1C:Below wr.heap.size wr (wr.alloc (.cells (a05 x q (bv k)).row 78 (0,0))):=(Below.refl _ _).alloc (Nat.le_refl _) _
   have HO:=Lib.hid (afa hX.ok hX.k8 hX.f5 hX.d5 hX.q (HK.out _ w1B).1 (hbd.below w1B) hX.e0 hX.e1 (HK.out _ w1B).2 (Nat.lt_of_lt_of_le h0w w1B.size))
   have hxr:=hX.ok.ref
   have hrb:=a1k x q (a7s hbd)
   clear hbd
   have hsz:=hB.size
   repeat' (first | (go_at_call 86;((with_reducible refine (HO.out).mono ?_));rintro r w2 ⟨c,rfl,hc,hb2⟩;have lz:=a0e (LN.let x c) hxr;have la:=a15 (LN.let x c) hxr;have lo:=a0y (LN.let x c) (a0v hc);have m2:=w1C.trans (hb2.mono w1C.size);have m3:=m2.alloc m2.size (.cells (LN.let x c).row 48 (0,0));have n3:=(a01 (a03 (w:=w2) (.cells (LN.let x c).row 48 (0,0)) _ rfl) 3).trans (aPv x c);dsimp only) | go_skip | go_guarded | go_step | go_upon)
   exact ⟨⟨k+1,by omega,rfl,by go_num,hB.trans (m3.mono hB.size)⟩,by simp [intOf];omega⟩
  ·have i1 : ¬ (k:Int) < (ps.length:Int):=by omega
   have hkn:k=ps.length:=by omega
   clear aBe
   repeat' (first | go_skip | go_guarded | go_step | go_upon)
   go_ret2
   exact ⟨rfl,hB⟩
theorem apk {W:World} {kv pv:Value} {ps:List (LN×Nat)} {m org:Nat} {own:List Nat} {b:Bool} (hk:a7r W kv) (hp:a6i W pv ps) (hok:∀ i,i < ps.length→LOk (ps.getD i (a0c,0)).1 (ps.getD i (a0c,0)).2) (hz:ps.length≤1000) (hT:Tab W) (h0w:0 < W.heap.size) (hne:ps≠[]) (hm:∀ i,i < ps.length→(ps.getD i (a0c,0)).1.mtg=m∧(ps.getD i (a0c,0)).1.cs=own) (h0:own≠[]) (h4:own.length≤4)
  (hgr:b=true→∀ i,i < ps.length→(ps.getD i (a0c,0)).1.kind=9→(LN.to (ps.getD i (a0c,0)).1 org).Ok∧(LN.enc (LN.to (ps.getD i (a0c,0)).1 org)).length≤1048576)
  (HV:∀ W' v,Below W.heap.size W W'→a0h 0 W' v own→Calls Tryz.prog 103 #[.agg (a06 m org 0 v)] W' fun e W''=>e=.returned (.bool b)∧Below W'.heap.size W' W'') :
  Calls Tryz.prog 42 #[kv,.int .i64 m,.int .i64 org,pv] W fun e W'=>e=.returned (.tuple #[.int .i64 (ajx b own m org (ps.map (·.1))).1,.int .i64 (ajx b own m org (ps.map (·.1))).2])∧Below W.heap.size W W':=by
 obtain ⟨bv,⟨pa,pc,rfl,hrow⟩,hbv⟩:=hp
 have HK:=Lib.hid (fun W' (hb:Below W.heap.size W W')=>And.intro (hk.below hb) (hT.below hb h0w))
 have HOK:=Lib.hid hok
 have HBV:=Lib.hid hbv
 have aBe:=Lib.hid hrow
 have HT:=Lib.hid (fun W' (hb:Below W.heap.size W W')=>And.intro (hT.below hb h0w) (Nat.lt_of_lt_of_le h0w hb.size))
 have HVD:=Lib.hid HV
 have HGR:=Lib.hid hgr
 have HM:=Lib.hid hm
 clear hk hok hbv hT hrow HV hgr hm
 have hlen:(ps.map (·.1)).length=ps.length:=List.length_map _
 go_enter Tryz.func42,Tryz.ntmps42
 repeat' (first | go_skip | go_guarded | go_step | go_upon)
 go_loopw [10,18] (fun v i wr => ∃ k:Nat,k≤ps.length∧i=.int .i64 k∧(∃ cv:Nat→Value,wr.ownsRow W.heap.size 48 62 v k (a3b (fun i=>(LN.let (ps.getD i (a0c,0)).1 (cv i)).row) k)∧∀ i,i < k→a0h W.heap.size wr (cv i) (ps.getD i (a0c,0)).1.cs)∧Below W.heap.size W wr) (fun _ i _=>(ps.length - intOf i).toNat)
 case atStart=>exact ⟨0,by omega,rfl,⟨fun _=>undef,World.ownsRow_nil _ _ _ _,fun i hi=>by omega⟩,Below.refl _ _⟩
 case round =>
  obtain ⟨k,hk,rfl,⟨cv,hown,hcv⟩,hB⟩:=hrel
  have HCV:=Lib.hid hcv
  have HOWN:=Lib.hid hown
  clear hcv hown
  by_cases hlt:k < ps.length
  ·have i1:(k:Int) < (ps.length:Int):=by omega
   obtain ⟨b,o,row,rfl,hb1,hb2⟩:=aBe.out (by omega)
   obtain ⟨z0,k2⟩:=hb2 k hlt
   have z1:(o+k * 36+36≤row.size)=True:=eq_true z0
   have hbw:=a00 hb1 hB (a04 hb1)
   have hX:=HOK.out k hlt
   have hbd:=HBV.out k hlt
   dsimp only at k2
   have hcg:Hid (∀ cw:Nat→Value,(∀ j,j < k→cw j=cv j)→wr.ownsRow W.heap.size 48 62 _ k (a3b (fun i=>(LN.let (ps.getD i (a0c,0)).1 (cw i)).row) k)):=Lib.hid fun cw hcw=>by
    rw [a3d fun i hi=>by rw [hcw i hi]]
    exact HOWN.out
   have HXE:Hid ((ps.getD k (a0c,0))=ps.getD k (a0c,0)):=Lib.hid rfl
   have hmk:=(HM.out k hlt).1
   generalize hxe:ps.getD k (a0c,0)=xq at k2 hX hbd hmk
   obtain ⟨x,q⟩:=xq
   have HXQ:=Lib.hid hxe
   clear hxe hb2 z0 hb1
   dsimp only at k2 hX hbd hmk
   have e3:((x.mtg:Int) == (m:Int))=true:=(a14 _ _).trans (decide_eq_true hmk)
   have hr:=a1o (a05 x q (bv k)) (a0f x q)
   have hall:=a4f (a05 x q (bv k)) (a0f x q)
   have w1B:Below W.heap.size W (wr.alloc (.cells (a05 x q (bv k)).row 78 (0,0))):=hB.alloc hB.size _
   have w1C:Below wr.heap.size wr (wr.alloc (.cells (a05 x q (bv k)).row 78 (0,0))):=(Below.refl _ _).alloc (Nat.le_refl _) _
   have HO:=Lib.hid (afa hX.ok hX.k8 hX.f5 hX.d5 hX.q (HK.out _ w1B).1 (hbd.below w1B) hX.e0 hX.e1 (HK.out _ w1B).2 (Nat.lt_of_lt_of_le h0w w1B.size))
   have hxr:=hX.ok.ref
   have hrb:=a1k x q (a7s hbd)
   clear hbd
   have hsz:=hB.size
   repeat' (first | (go_at_call 86;((with_reducible refine (HO.out).mono ?_));rintro r w2 ⟨c,rfl,hc,hb2⟩;have lz:=a0e (LN.let x c) hxr;have la:=a15 (LN.let x c) hxr;have lo:=a0y (LN.let x c) (a0v hc);have m2:=w1C.trans (hb2.mono w1C.size);have m3:=(m2.alloc m2.size (.cells (LN.let x c).row 48 (0,0))).alloc (by have:=m2.size;simp;omega) (.cells (LN.let x c).row 48 (0,0));have hl:=hcg.out (fun j=>if j=k then c else cv j) (fun j hj=>if_neg (by omega));have hl2:=a4i hl m3;have n3:=(a01 (a03 (w:=w2) (.cells (LN.let x c).row 48 (0,0)) _ rfl) 3).trans (aPv x c);dsimp only) | (at_builtin;(refine a2d rfl _ _ rfl Tryz.underlying30 (b:=328) (z:=62) (by kernel_rfl) (by decide) (by decide) W.heap.size k _ _ rfl hl2 (w2.heap.size+1) 1 (LN.let x c).row ?_ ?_ lz lo (by omega) ?_ ?_);(first | rfl | skip);(exact a03 _ _ _ (by simp));(have:=m3.size;omega);intro v' w' hown' hgrow') | go_skip | go_guarded | go_step | go_upon)
   have hwB:=hB.trans (m3.mono hB.size)
   have hk1:=hown'
   have hc2:=a3e hl2 (hc.below (((Below.refl _ _).alloc (Nat.le_refl _) (.cells (LN.let x c).row 48 (0,0))).alloc (by simp) (.cells (LN.let x c).row 48 (0,0)))) (by decide) hgrow'
   refine ⟨⟨k+1,by omega,by go_num,⟨fun j=>if j=k then c else cv j,?_,fun i hi=>?_⟩,hwB.grown hgrow' hwB.size (fun g hg=>a1u hl2 hg)⟩,by simp [intOf];omega⟩
   ·rw [a2z]
    have e:(LN.let (ps.getD k (a0c,0)).1 ((fun j=>if j=k then c else cv j) k)).row=(LN.let x c).row:=by simp only [HXQ.out,if_pos]
    rw [e]
    exact hk1
   ·by_cases hik:i=k
    ·subst hik
     dsimp only
     rw [if_pos rfl,HXQ.out]
     exact hc2.mono (by simp;omega)
    ·dsimp only
     rw [if_neg hik]
     exact a3e hl2 ((HCV.out i (by omega)).below m3) (by decide) hgrow'
  ·have i1 : ¬ (k:Int) < (ps.length:Int):=by omega
   have hkn:k=ps.length:=by omega
   clear aBe
   have hlo:ad2 W.heap.size wr _ (ps.map (·.1)):=⟨cv,(by
    have:=HOWN.out
    rw [hkn] at this
    rw [hlen]
    refine (congrArg (wr.ownsRow W.heap.size 48 62 _ ps.length) (a3d fun i hi=>?_)).mp this
    rw [show ((ps.map (·.1)).getD i a0c)=(ps.getD i (a0c,0)).1 from getD_map Prod.fst ps i (a0c,0)]),fun i hi=>by
    rw [hlen] at hi
    rw [show ((ps.map (·.1)).getD i a0c)=(ps.getD i (a0c,0)).1 from getD_map Prod.fst ps i (a0c,0)]
    exact HCV.out i (by omega)⟩
   have agv:∀ i,i < (ps.map (·.1)).length→((ps.map (·.1)).getD i a0c).ref.length=32:=fun i hi=>by
    rw [hlen] at hi
    rw [show ((ps.map (·.1)).getD i a0c)=(ps.getD i (a0c,0)).1 from getD_map Prod.fst ps i (a0c,0)]
    exact (HOK.out i hi).ok.ref
   have hcs:∀ i,i < (ps.map (·.1)).length→((ps.map (·.1)).getD i a0c).cs=own:=fun i hi=>by
    rw [hlen] at hi
    rw [show ((ps.map (·.1)).getD i a0c)=(ps.getD i (a0c,0)).1 from getD_map Prod.fst ps i (a0c,0)]
    exact (HM.out i hi).2
   have hg9:b=true→∀ i,i < (ps.map (·.1)).length→((ps.map (·.1)).getD i a0c).kind=9→(LN.to ((ps.map (·.1)).getD i a0c) org).Ok∧(LN.enc (LN.to ((ps.map (·.1)).getD i a0c) org)).length≤1048576:=fun hb1 i hi=>by
    rw [hlen] at hi
    rw [show ((ps.map (·.1)).getD i a0c)=(ps.getD i (a0c,0)).1 from getD_map Prod.fst ps i (a0c,0)]
    exact HGR.out hb1 i hi
   have hxz:(ps.map (·.1)).length≤1000:=by omega
   have hx0:0 < (ps.map (·.1)).length:=by rw [hlen];exact List.length_pos_iff.2 hne
   have hlv:=(hlo.lets agv).mono (Nat.zero_le _)
   clear hlo HCV HOWN HOK HM HBV HGR HK hlen hne hkn
   generalize hxs:ps.map (·.1)=xs at *
   have HXS:=Lib.hid hxs
   clear hxs
   have HLV:=Lib.hid hlv
   obtain ⟨cw,⟨la,lc,rfl,hlr⟩,hcw⟩:=hlv
   obtain ⟨lb,lo,aM4,rfl,hl1,hl2⟩:=hlr (by omega)
   obtain ⟨z0,z2⟩:=hl2 0 hx0
   have hc0:=hcw 0 hx0
   rw [hcs 0 hx0] at hc0
   dsimp only at z2
   generalize cw 0=c0 at *
   have f29:wr.cell? ⟨lb,lo+29,none⟩=some c0:=by
    rw [a01 hl1]
    have h1:(aM4.extract (lo+0 * 62) (lo+0 * 62+62))[29]? = some c0:=by rw [z2];exact arb _ _
    rw [Array.getElem?_extract,if_pos (by omega)] at h1
    rw [← h1]
   have en:((xs.length:Int) == 0)=false:=by rw [beq_eq_false_iff_ne];omega
   have HN:=a0s hc0
   have HC0:=Lib.hid hc0
   have po:=a3c m org 0 (a0v hc0)
   have hpl:=aix m org 0 c0
   have e0c:((0:Nat):Int)=0:=rfl
   rw [e0c] at hpl
   obtain ⟨oa,oc,rfl,hov⟩:=HN
   clear hov hl2 hcw hlr z0 z2 hc0 e0c
   have l1:obj (wr.alloc (.cells (a06 m org 0 (.slice oa own.length oc)) 144 (0,0))) wr.heap.size=some (.cells (a06 m org 0 (.slice oa own.length oc)) 144 (0,0)):=a03 _ _ _ rfl
   have jA:Below wr.heap.size wr (wr.alloc (.cells (a06 m org 0 (.slice oa own.length oc)) 144 (0,0))):=(Below.refl _ _).alloc (Nat.le_refl _) _
   have HLW:=Lib.hid (fun W' (hb:Below wr.heap.size wr W')=>HLV.out.below hb)
   have HNW:=Lib.hid (fun W' (hb:Below wr.heap.size wr W')=>a0s (HC0.out.below hb))
   have HC1:=Lib.hid (fun W' (hb:Below wr.heap.size wr W')=>HC0.out.below hb)
   have HBW:=Lib.hid (fun W' (hb:Below wr.heap.size wr W')=>hB.trans (hb.mono hB.size))
   generalize hw1:wr.alloc (.cells (a06 m org 0 (.slice oa own.length oc)) 144 (0,0))=w1 at *
   have HDL:=Lib.hid (fun W' (hb:Below w1.heap.size w1 W')=>amq (c1:=.pointer (some ⟨wr.heap.size,0,none⟩)) agv (HLW.out W' (jA.trans (hb.mono jA.size))) (by omega) (fun i hi w c hbw hcv=>(aAh (agv i hi) (a0s hcv) (HNW.out w ((jA.trans (hb.mono jA.size)).trans (hbw.mono (jA.trans (hb.mono jA.size)).size))) (by rw [hcs i hi];omega) (by omega) (a1w (a1w l1 hb) hbw)).mono fun e W'' ⟨q1,q2⟩=>⟨by rw [q1,hcs i hi];simp,q2⟩))
   have HVL:=Lib.hid (fun W' (hb:Below w1.heap.size w1 W')=>HVD.out W' _ (HBW.out W' (jA.trans (hb.mono jA.size))) (HC1.out W' (jA.trans (hb.mono jA.size))))
   have HCO:=Lib.hid (fun (hb1:b=true) W' (hb:Below w1.heap.size w1 W')=>a2f (mtg:=m) (dl:=0) (org:=org) agv (hg9 hb1) (HLW.out W' (jA.trans (hb.mono jA.size))) (HNW.out W' (jA.trans (hb.mono jA.size))) h0 (by omega) (by omega) (HT.out W' (HBW.out W' (jA.trans (hb.mono jA.size)))).1 (HT.out W' (HBW.out W' (jA.trans (hb.mono jA.size)))).2)
   have HCF:=Lib.hid (fun W' (hb:Below w1.heap.size w1 W')=>cxf3 (c1:=.pointer (some ⟨wr.heap.size,0,none⟩)) (P:=fun x=>decide (x.kind=10)&&decide (x.frm∈own)) (.inr rfl) agv (HLW.out W' (jA.trans (hb.mono jA.size))) (by omega) (fun i hi w c hbw hcv=>aAg (agv i hi) (a0s hcv) (HNW.out w ((jA.trans (hb.mono jA.size)).trans (hbw.mono (jA.trans (hb.mono jA.size)).size))) (by rw [hcs i hi];omega) (by omega) (a1w (a1w l1 hb) hbw)))
   have jR:=Below.refl w1.heap.size w1
   subst hw1
   clear HLW HNW HC1 HLV HC0 HVD HT
   cases b
   ·have HRX:=Lib.hid (show ajx false own m org xs=(0,11) from rfl)
    repeat' (first | (go_at_call 114;((with_reducible refine (HDL.out _ jR).mono ?_));rintro e w2 ⟨rfl,hb2⟩;have l2:=a1w l1 hb2;dsimp only) | (go_at_call 103;((with_reducible refine (HVL.out _ hb2).mono ?_));rintro e w3 ⟨rfl,hb3⟩;have l3:=a1w l2 hb3;have j3:=a5m hb2 hb3;dsimp only) | go_skip | go_guarded | go_step | go_upon)
    go_ret2
    exact ⟨by rw [HXS.out,HRX.out];rfl,HBW.out _ (jA.trans (j3.mono jA.size))⟩
   ·have HCO:=Lib.hid (HCO.out rfl)
    by_cases h1:(a2s m org 0 own).a09 xs=true
    ·rw [h1] at HCO
     have HRX:=Lib.hid (show ajx true own m org xs=(1,0) by unfold ajx;rw [if_neg (by simp),if_pos h1])
     clear h1
     repeat' (first | (go_at_call 114;((with_reducible refine (HDL.out _ jR).mono ?_));rintro e w2 ⟨rfl,hb2⟩;have l2:=a1w l1 hb2;dsimp only) | (go_at_call 103;((with_reducible refine (HVL.out _ hb2).mono ?_));rintro e w3 ⟨rfl,hb3⟩;have l3:=a1w l2 hb3;have j3:=a5m hb2 hb3;dsimp only) | (go_at_call 97;((with_reducible refine (HCO.out _ j3).mono ?_));rintro e w4 ⟨rfl,hb4⟩;have l4:=a1w l3 hb4;have j4:=a5m j3 hb4;dsimp only) | go_skip | go_guarded | go_step | go_upon)
     go_ret2
     exact ⟨by rw [HXS.out,HRX.out];rfl,HBW.out _ (jA.trans (j4.mono jA.size))⟩
    ·have h1':=eq_false_of_ne_true h1
     rw [h1'] at HCO
     cases h2:(xs.any fun x=>decide (x.kind=10)&&decide (x.frm∈own))
     all_goals rw [h2] at HCF
     case' false=>have HRX:=Lib.hid (show ajx true own m org xs=(0,11) by unfold ajx;rw [if_neg (by simp),if_neg h1,if_neg (by rw [h2];simp)])
     case' true=>have HRX:=Lib.hid (show ajx true own m org xs=(2,0) by unfold ajx;rw [if_neg (by simp),if_neg h1,if_pos h2])
     all_goals clear h2 h1 h1'
     all_goals repeat' (first | (go_at_call 114;((with_reducible refine (HDL.out _ jR).mono ?_));rintro e w2 ⟨rfl,hb2⟩;have l2:=a1w l1 hb2;dsimp only) | (go_at_call 103;((with_reducible refine (HVL.out _ hb2).mono ?_));rintro e w3 ⟨rfl,hb3⟩;have l3:=a1w l2 hb3;have j3:=a5m hb2 hb3;dsimp only) | (go_at_call 97;((with_reducible refine (HCO.out _ j3).mono ?_));rintro e w4 ⟨rfl,hb4⟩;have l4:=a1w l3 hb4;have j4:=a5m j3 hb4;dsimp only) | (go_at_call 92;((with_reducible refine (HCF.out _ j4).mono ?_));rintro e w5 ⟨rfl,hb5⟩;have j5:=a5m j4 hb5;dsimp only) | go_skip | go_guarded | go_step | go_upon)
     all_goals go_ret2
     all_goals exact ⟨by rw [HXS.out,HRX.out];rfl,HBW.out _ (jA.trans (by have:=j5;exact this.mono jA.size))⟩
end Go.Proofs.YtlnlbdfokmhelaaGreatDoor
namespace Go.Proofs.YtlnlbdfokmhelaaGreatDoor
open Go.RowKit Go.CE.V Go.Rv
theorem aGc (m org d d':Nat) (own:List Nat) (K:List LN) (os:List Nat):(a2s m org d own).marks K os=(a2s m org d' own).marks K os:=by
 induction os with
 | nil=>rfl
 | cons o os ih =>
  unfold a2c.marks
  rw [ih]
  rfl
theorem aXy (m org d d':Nat) (own:List Nat) (K:List LN):(a2s m org d own).a09 K=(a2s m org d' own).a09 K:=by
 unfold a2c.a09 a2c.aBl
 rw [show (a2s m org d own).marks K (a2s m org d own).own=(a2s m org d' own).marks K (a2s m org d' own).own from aGc m org d d' own K own]
 rfl
theorem as7 {b:Bool} {own:List Nat} {org:Nat} {K:List LN} (h0:K≠[]) (h1:∀ x,x∈K→x.mtg=4) (h2:∀ x,x∈K→x.cs=own) :
  ajx b own 4 org K=(checked (fun c=>a2s 4 org 90 c) (fun _=>b) 4 K,if checked (fun c=>a2s 4 org 90 c) (fun _=>b) 4 K=0 then 11 else 0):=by
 rw [a8m (cs:=own) h0 h1 h2]
 unfold ajx
 rw [aXy 4 org 0 90 own K]
 by_cases hb:b=false
 ·rw [if_pos hb,if_pos hb];rfl
 ·rw [if_neg hb,if_neg hb]
  by_cases hc:(a2s 4 org 90 own).a09 K=true
  ·rw [if_pos hc,if_pos hc];rfl
  ·rw [if_neg hc,if_neg hc]
   by_cases ha:(K.any fun x=>decide (x.kind=10)&&decide (x.frm∈own))=true
   ·rw [if_pos ha,if_pos ha];rfl
   ·rw [if_neg ha,if_neg ha];rfl
theorem aWx {own:List Nat} {gs:List LN} {c:LN} (hg:GrL own own gs) (hc:CmP own c):∀ i,i < (gs ++ [c]).length→ava ((gs ++ [c]).getD i a0c):=fun i hi=>by
 have hm:(gs ++ [c]).getD i a0c∈gs ++ [c]:=by rw [aaz _ hi];exact List.getElem_mem hi
 generalize (gs ++ [c]).getD i a0c=y at *
 rcases List.mem_append.1 hm with h | h
 ·obtain ⟨o,_,hp⟩:=hg.mem y h
  exact hp.any
 ·rw [List.mem_singleton.1 h];exact hc.any
theorem aQj {own:List Nat} {L:List LN} (hL:Full (a2s 4 0 90 own) L) {ph:Nat} {K:List LN} (hF:(a2s 4 0 90 own).fed ⟨2,[]⟩ L=⟨ph,K⟩):ph=3∧K.length=L.length∧a8r (a2s 4 0 90 own) L ⟨ph,K⟩:=by
 have h0:a8r (a2s 4 0 90 own) L ⟨2,[]⟩:=⟨ai2 own,.inl rfl,fun x hx=>absurd hx List.not_mem_nil,List.nodup_nil⟩
 have h1:=aHf hL h0
 have h2:=a8r.fed hL L h0 fun l hl=>.inl hl
 rw [hF] at h1 h2
 exact ⟨h1.1,h1.2,h2⟩
theorem abw {own:List Nat} {L K:List LN} (hL:Full (a2s 4 0 90 own) L) (hs:∀ x,x∈K→x∈L):∀ x,x∈K→x.mtg=4∧x.cs=own:=fun x hx=>hL.aXx (hs x hx)
theorem aQv {own:List Nat} {L K:List LN} (hL:Full (a2s 4 0 90 own) L) (hS:a8r (a2s 4 0 90 own) L ⟨3,K⟩):ajx true own 4 0 K=(1,0):=by
 have h0:K≠[]:=by
  obtain ⟨_,x,hx,_⟩:=a3z (hS.good.com rfl)
  exact List.ne_nil_of_mem hx
 have hc:=abw hL hS.sub
 rw [as7 h0 (fun x hx=>(hc x hx).1) (fun x hx=>(hc x hx).2),show checked (fun c=>a2s 4 0 90 c) (fun _=>true) 4 K=1 from ati hL hS rfl rfl fun _=>rfl]
 rfl
theorem aQw {own:List Nat} {L K:List LN} {b:Bool} (h0:K≠[]) (hL:Full (a2s 4 0 90 own) L) (hS:a8r (a2s 4 0 90 own) L ⟨3,K⟩):ajx b own 4 4 K=(0,11):=by
 have hc:=abw hL hS.sub
 rw [as7 h0 (fun x hx=>(hc x hx).1) (fun x hx=>(hc x hx).2),show checked (fun c=>a2s 4 4 90 c) (fun _=>b) 4 K=0 from atj (mk:=fun c=>a2s 4 4 90 c) hL hS (by show (4:Nat)≠0;decide)]
 rfl
theorem aHu {own:List Nat} {L K:List LN} (hL:Full (a2s 4 0 90 own) L) (hS:a8r (a2s 4 0 90 own) L ⟨3,K⟩) {i:Nat} (hi:i < K.length) (h0:K.take i++K.drop (i+1)≠[]):ajx true own 4 0 (K.take i++K.drop (i+1))=(0,11):=by
 have hc:=abw (K:=K.take i++K.drop (i+1)) hL fun x hx=>hS.sub x (by
  rcases List.mem_append.1 hx with q | q
  ·exact List.mem_of_mem_take q
  ·exact List.mem_of_mem_drop q)
 rw [as7 h0 (fun x hx=>(hc x hx).1) (fun x hx=>(hc x hx).2),show checked (fun c=>a2s 4 0 90 c) (fun _=>true) 4 (K.take i++K.drop (i+1))=0 from aoe (mk:=fun c=>a2s 4 0 90 c) hL hS (fun _=>rfl) hi]
 rfl
theorem aQg {own:List Nat} {o:Nat} {g y:LN} {ph:Nat} {K:List LN} (hF:(a2s 4 0 90 own).fed ⟨2,[]⟩ [g,y]=⟨ph,K⟩) (hg:GrP own o g) (hY:YP own 2 0 y) :
  ph=4∧ajx true own 4 0 K=(2,0)∧K≠[]∧∀ z,z∈K→z.mtg=4∧z.cs=own:=by
 obtain ⟨hk10,hf,hcs⟩:=hY.ref rfl rfl
 have hm:=hY.mtg rfl
 have ha:(a2s 4 0 90 own).answer y=true:=by
  unfold a2c.answer a2c.a6n a2s
  simp [hk10,hf,hcs,hm]
 have hG1:=(ai2 own).step g
 have h1:∀ z,z∈((a2s 4 0 90 own).step ⟨2,[]⟩ g).K→z=g:=by
  refine a9p (a2s 4 0 90 own) ⟨2,[]⟩ g (fun t=>∀ z,z∈t.K→z=g) (fun _ z hz=>?_) (fun z hz=>absurd hz List.not_mem_nil)
  rcases ae4 (s:=⟨2,[]⟩) hz with q | q
  ·exact absurd q List.not_mem_nil
  ·exact q
 have h234:=aUr (p:=a2s 4 0 90 own) (s:=⟨2,[]⟩) (.inl rfl) [g]
 have e1:(a2s 4 0 90 own).fed ⟨2,[]⟩ [g]=(a2s 4 0 90 own).step ⟨2,[]⟩ g:=rfl
 rw [e1] at h234
 have e2:(a2s 4 0 90 own).fed ⟨2,[]⟩ [g,y]=(a2s 4 0 90 own).step ((a2s 4 0 90 own).step ⟨2,[]⟩ g) y:=rfl
 rw [e2] at hF
 clear e1 e2
 generalize (a2s 4 0 90 own).step ⟨2,[]⟩ g=s1 at *
 have h24:s1.ph=2∨s1.ph=4:=by
  rcases h234 with h | h | h
  ·exact .inl h
  ·obtain ⟨_,x,hx,hk,_⟩:=a3z (hG1.com h)
   rw [h1 x hx,hg.kind] at hk
   exact absurd hk (by decide)
  ·exact .inr h
 obtain ⟨q1,q2⟩:=aD8 hG1 h24 hk10 ha
 unfold a2c.step at hF
 rw [if_pos q1] at hF
 rw [hF] at q2
 have hK:K=s1.more y:=(congrArg St.K hF).symm
 have hno:(s1.K.any fun k=>twin k y)=false:=by
  rw [List.any_eq_false]
  intro k hk
  unfold twin
  rw [if_pos (.inr hk10),h1 k hk,hg.kind,hk10]
  simp
 rw [aG7 hno] at hK
 have hmem:∀ z,z∈K→z=g∨z=y:=fun z hz=>by
  rw [hK] at hz
  rcases List.mem_append.1 hz with q | q
  ·exact .inl (h1 z q)
  ·exact .inr (List.mem_singleton.1 q)
 have hy:y∈K:=by rw [hK];exact List.mem_append_right _ (List.mem_singleton.2 rfl)
 have hc:∀ z,z∈K→z.mtg=4∧z.cs=own:=fun z hz=>by
  rcases hmem z hz with rfl | rfl
  ·exact ⟨hg.mtg,hg.cs⟩
  ·exact ⟨hm,hcs⟩
 have hk11:∀ z,z∈K→z.kind≠11:=fun z hz=>by
  rcases hmem z hz with rfl | rfl
  ·rw [hg.kind];decide
  ·rw [hk10];decide
 refine ⟨q2,?_,List.ne_nil_of_mem hy,hc⟩
 rw [as7 (List.ne_nil_of_mem hy) (fun x hx=>(hc x hx).1) (fun x hx=>(hc x hx).2),show checked (fun c=>a2s 4 0 90 c) (fun _=>true) 4 K=2 from axq (p:=a2s 4 0 90 own) (mk:=fun c=>a2s 4 0 90 c) rfl (fun z hz=>hc z hz) hk11 hy hk10 hf]
 rfl
end Go.Proofs.YtlnlbdfokmhelaaGreatDoor
namespace Go.Proofs.YtlnlbdfokmhelaaGreatDoor
open Go.RowKit Go.CE.V
set_option maxRecDepth 20000
theorem azz (f:Nat→Array Value) (a b:Nat):a3b f (a+b)=a3b f a++a3b (fun j=>f (a+j)) b:=by
 induction b with
 | zero=>simp [a3b]
 | succ b ih=>rw [← Nat.add_assoc,a2z,ih,a2z,List.append_assoc]
theorem azy {f:Nat→Array Value} {n:Nat} {u:Value} (h:u∈a3b f n) : ∃ i,i < n∧u∈(f i).toList:=by
 unfold a3b at h
 obtain ⟨i,hi,hu⟩:=List.mem_flatMap.1 h
 exact ⟨i,List.mem_range.1 hi,hu⟩
theorem a3n {w:World} {ops:Array Oper} {rest:List Oper} {o:Oper} {a:Act} {Q:Exit→Act→World→Prop} (hgd:o.guard=none) (s x:Operand) {ST T z b:Nat}
  (ho:o.op=.call { callee:=.builtin .append,args:=#[s,x],argTypes:=#[ST,ST] }) (hu:Tryz.prog.underlying ST=some (.slice T)) (hi:(Tryz.prog.info? T).map (fun i=>(i.size,i.bytes,i.zero.map (·.cells.size)))=some (z,b,some z)) (hz:0 < z) (hby:b≤1000)
  (base k:Nat) (v:Value) (xs:List Value) (hs:a.eval s=v) (hown:w.ownsRow base T z v k xs) (nb no c k2:Nat) (row:Array Value) (fr:Nat×Nat) (f:Nat→Array Value) (hx:a.eval x=.slice (some ⟨nb,no,none⟩) k2 c) (hrow:obj w nb=some (.cells row T fr)) (hf:∀ i,i < k2→no+i * z+z≤row.size∧row.extract (no+i * z) (no+i * z+z)=f i) (h1:∀ i,i < k2→ones (f i)=true)
  (hk:k+k2≤1000000) (hb:base≤w.heap.size)
  (h:∀ v' w',w'.ownsRow base T z v' (k+k2) (xs++a3b f k2)→w.grownBy w' v.ownBlock→wpList Tryz.prog ops Q rest (a.put o.dst v') w'):wpList Tryz.prog ops Q (o :: rest) a w:=by
 obtain ⟨i0,zv,hi,hz0,hz1,hz2,hzs⟩:=afo hi
 have hfz:∀ i,i < k2→(f i).size=z:=fun i hi=>by
  rw [← (hf i hi).2,Array.size_extract]
  have:=(hf i hi).1
  omega
 refine wpList_append_own w hgd s x ST ho base T i0 zv z b hu hi hz0 hz1 hz2 hzs hz v k xs hs hown ⟨nb,no,none⟩ k2 c (a3b f k2) hx (a9m hfz) (fun j u hu=>?_) (fun u hu=>?_) (by unfold maxLen;omega) ?_ hb fun v' w' q1 q2 _=>h v' w' q1 q2
 ·have hj:j < k2 * z:=by
   have:=(List.getElem?_eq_some_iff.1 hu).1
   rwa [a9m hfz] at this
  have hr:j % z < z:=Nat.mod_lt _ hz
  have hq:j / z < k2:=Nat.div_lt_of_lt_mul (by rw [Nat.mul_comm];exact hj)
  have hjj:j / z * z+j % z=j:=Nat.div_add_mod' j z
  have e:=amh hfz (j / z) hq (j % z) hr
  rw [hjj,hu] at e
  rw [Addr.add_lit,a01 hrow,e,← (hf _ hq).2,Array.getElem?_extract,if_pos (by have:=(hf _ hq).1;omega)]
  congr 1
  omega
 ·obtain ⟨i,hi,hu⟩:=azy hu
  have:=h1 i hi
  unfold ones at this
  exact (Array.all_eq_true_iff_forall_mem.1 this) u (Array.mem_toList_iff.1 hu)
 ·have:(k+k2) * b≤1000001 * 1000:=Nat.mul_le_mul (by omega) hby
  omega
theorem ahg {B:Nat} {w:World} {v:Value} {ps:List (LN×Nat)} {bv:Nat→Value} {i:Nat} (hi:i < ps.length)
  (hown:w.ownsRow B 78 36 v (i+(ps.length - (i+1))) (a3b (fun j=>(a05 (ps.getD j (a0c,0)).1 (ps.getD j (a0c,0)).2 (bv j)).row) i++a3b (fun j=>(a05 (ps.getD (i+1+j) (a0c,0)).1 (ps.getD (i+1+j) (a0c,0)).2 (bv (i+1+j))).row) (ps.length - (i+1))))
  (hsl:∀ j,j < ps.length→Sl 0 w (bv j) 5 ((LN.enc (ps.getD j (a0c,0)).1).map fun c=>B8 c.toNat)):a6i w v (ps.take i++ps.drop (i+1)):=by
 have hlen:(ps.take i++ps.drop (i+1)).length=i+(ps.length - (i+1)):=by simp;omega
 have h1:∀ j,j < i→(ps.take i++ps.drop (i+1)).getD j (a0c,0)=ps.getD j (a0c,0):=fun j hj=>by
  rw [List.getD_eq_getElem?_getD,List.getD_eq_getElem?_getD,List.getElem?_append_left (by simp;omega),List.getElem?_take,if_pos hj]
 have h2:∀ j,(ps.take i++ps.drop (i+1)).getD (i+j) (a0c,0)=ps.getD (i+1+j) (a0c,0):=fun j=>by
  have ht:(ps.take i).length=i:=by simp;omega
  rw [List.getD_eq_getElem?_getD,List.getD_eq_getElem?_getD,List.getElem?_append_right (by omega),ht,List.getElem?_drop]
  congr 2
  omega
 refine ⟨fun j=>if j < i then bv j else bv (j+1),?_,fun j hj=>?_⟩
 ·rw [hlen]
  refine aey (base:=B) (fun j hj=>?_) ?_
  ·exact a1o _ (a0f _ _)
  rw [azz]
  refine (congrArg (w.ownsRow B 78 36 v _) ?_).mp hown
  congr 1
  ·exact a3d fun j hj=>by dsimp only;rw [h1 j hj,if_pos hj]
  ·exact a3d fun j hj=>by dsimp only;rw [h2 j,if_neg (by omega),show i+1+j=i+j+1 by omega]
 ·dsimp only
  by_cases hji:j < i
  ·rw [h1 j hji,if_pos hji]
   exact hsl j (by omega)
  ·obtain ⟨d,rfl⟩:=Nat.exists_eq_add_of_le (Nat.le_of_not_lt hji)
   rw [h2 d,if_neg hji,show i+1+d=i+d+1 by omega]
   exact hsl (i+d+1) (by rw [hlen] at hj;omega)
end Go.Proofs.YtlnlbdfokmhelaaGreatDoor
namespace Go.Proofs.YtlnlbdfokmhelaaGreatDoor
open Go.RowKit Go.CE.V
set_option maxRecDepth 20000
theorem atb {P:Program} {t e z:Nat} (hu:P.underlying t=some (.slice e)) (hi:(P.info? e).map (fun i=>(i.size,(i.zero.map (·.cells.size))))=some (z,some z)) (hz:0 < z) (hz2:2 * z≤16777216) (c1 c2:Array Value) (w:World) :
  (ak0 t 2 #[(0,.agg c1),(1,.agg c2)]).run P w=if c1.size=z∧c2.size=z then .ok (.slice (some ⟨w.heap.size,0,none⟩) 2 2) (w.alloc (.cells (c1++c2) e)) else aAu P t 2 #[(0,.agg c1),(1,.agg c2)] w:=by
 split
 ·rename_i hc
  obtain ⟨h1c,h2c⟩:=hc
  obtain ⟨ie,hie,he⟩:=Option.map_eq_some_iff.1 hi
  obtain ⟨h1,h2⟩:=Prod.mk.inj he
  obtain ⟨zv,hzv,hzs⟩:=Option.map_eq_some_iff.1 h2
  have hf:=Great.fill_dense (s:=z) hz [.agg c1,.agg c2] 0 ((Array.range (2 * z)).map (zv.cells[· % zv.cells.size]!)) (fun v hv=>by
   rcases (show v=.agg c1∨v=.agg c2 by simpa using hv) with rfl | rfl
   ·exact h1c
   ·exact h2c) (by simp)
  obtain ⟨r,hr,hs,hk⟩:=hf
  have hrc:r=c1++c2:=by
   apply Array.ext_getElem?
   intro k
   rw [hk k]
   simp only [Nat.zero_mul,Nat.zero_le,true_and,List.length_cons,List.length_nil,Nat.zero_add,Nat.sub_zero]
   by_cases h:k < 2 * z
   ·rw [if_pos (by omega)]
    by_cases hz1:k < z
    ·rw [Nat.div_eq_of_lt hz1,Nat.mod_eq_of_lt hz1,Array.getElem?_append_left (by omega)]
     rfl
    ·have hd:k / z=1:=by
      rw [Nat.div_eq_iff (by omega)]
      omega
     have hm:k % z=k - z:=by
      rw [Nat.mod_eq_sub_mod (by omega),Nat.mod_eq_of_lt (by omega)]
     rw [hd,hm,Array.getElem?_append_right (by omega),h1c]
     rfl
   ·rw [if_neg (by omega),Array.getElem?_eq_none (by simp;omega),Array.getElem?_eq_none (by simp;omega)]
  rw [hrc] at hr
  refine run_buildSlice w t e 2 _ (c1++c2) ie zv hu hie hzv (by rw [h1];omega) (by rw [h1];omega) ?_
  rw [h1]
  exact hr
 ·rfl
@[go_sem] theorem aZv (c1 c2:Array Value) (w:World):(ak0 30 2 #[(0,.agg c1),(1,.agg c2)]).run Tryz.prog w=if c1.size=62∧c2.size=62 then .ok (.slice (some ⟨w.heap.size,0,none⟩) 2 2) (w.alloc (.cells (c1++c2) 48)) else aAu Tryz.prog 30 2 #[(0,.agg c1),(1,.agg c2)] w :=
 atb Tryz.underlying30 (by kernel_rfl) (by decide) (by decide) c1 c2 w
@[go_sem] theorem aZx (w:World):(ak0 26 0 #[]).run Tryz.prog w=.ok (.slice (some ⟨w.heap.size,0,none⟩) 0 0) (w.alloc (.cells #[] 78)):=by kernel_rfl
theorem aBx {W:World} {g:Nat} {x y:LN} {c d:Value} (hx:x.ref.length=32) (hy:y.ref.length=32) (h:obj W g=some (.cells ((LN.let x c).row++(LN.let y d).row) 48 (0,0))) (hc:a0h 0 W c x.cs) (hd:a0h 0 W d y.cs):a4w 0 W (.slice (some ⟨g,0,none⟩) 2 2) [x,y]:=by
 have sx:=a0e (LN.let x c) hx
 have sy:=a0e (LN.let y d) hy
 refine ⟨fun i=>if i=0 then c else d,⟨_,2,rfl,fun _=>⟨g,0,_,rfl,h,fun i hi=>?_⟩⟩,fun i hi=>?_⟩
 ·have hs:((LN.let x c).row++(LN.let y d).row).size=124:=by rw [Array.size_append,sx,sy]
  have hi2:i < 2:=hi
  rcases (show i=0∨i=1 by omega) with rfl | rfl
  ·refine ⟨by omega,?_⟩
   show ((LN.let x c).row++(LN.let y d).row).extract 0 62=(LN.let x c).row
   rw [← sx,Array.extract_append_left]
   exact extract_all _ _ rfl
  ·refine ⟨by omega,?_⟩
   show ((LN.let x c).row++(LN.let y d).row).extract 62 124=(LN.let y d).row
   apply Array.ext_getElem?
   intro k
   rw [Array.getElem?_extract]
   by_cases hk:k < 62
   ·rw [if_pos (by omega),Array.getElem?_append_right (by omega),sx]
    congr 1
    omega
   ·rw [if_neg (by omega),Array.getElem?_eq_none (by omega)]
 ·have hi2:i < 2:=hi
  rcases (show i=0∨i=1 by omega) with rfl | rfl
  ·exact hc
  ·exact hd
end Go.Proofs.YtlnlbdfokmhelaaGreatDoor
namespace Go.CE
namespace V
open Go.Proofs Go.Proofs.YtlnlbdfokmhelaaGreatDoor Go.RowKit
set_option maxRecDepth 100000
def b3l (b:Bool) (r:Ans):Bool:=match r with
 | some (.b c,_)=>c == b
 | _=>false
theorem aQ4 {b:Bool} {r:Ans} (h:b3l b r=true) : ∃ f,r=some (.b b,f):=by
 unfold b3l at h
 split at h
 ·rw [eq_of_beq h];exact ⟨_,rfl⟩
 ·cases h
def b2m (org:Nat) (l:List Nat):AV:=.g [.i .i64 (.ofNat 4),.i .i64 (.ofNat org),.i .i64 (.ofNat 0),aj1 l]
theorem aBs:[0,4].all (fun org=>a2j.all (fun l=>b3l (!l.contains org) (aD6 .e 103 [b2m org l] l)))=true:=by decide +kernel
theorem aP2 {σ:Sg} {l:List Nat} {v:Value} (org:Nat) (h:@VR S00 σ (aj1 l) v):@VR S00 σ (b2m org l) (.agg (a06 4 org 0 v)):=by
 letI:Sym:=S00
 rw [← aix]
 exact LR.g (LV.lr (σ:=σ) (l:=[.i .i64 (.ofNat 4),.i .i64 (.ofNat org),.i .i64 (.ofNat 0),aj1 l]) (m:=[.int .i64 (4:Nat),.int .i64 (org:Nat),.int .i64 (0:Nat),v]) ⟨VR.i _ _,VR.i _ _,VR.i _ _,h,trivial⟩)
theorem avp {l:List Nat} (hl:l∈a2j) {org:Nat} (ho:org∈[0,4]) {B:Nat} {W:World} {v:Value} (hv:a0h B W v l):Calls Tryz.prog 103 #[.agg (a06 4 org 0 v)] W fun e W'=>e=.returned (.bool (!l.contains org))∧Below W.heap.size W W':=by
 obtain ⟨f',hf⟩:=aQ4 (List.all_eq_true.1 (List.all_eq_true.1 aBs org ho) l hl)
 refine (af8 (t:=.e) trivial (a2h hl) hv (fun σ h=>?_) hf).mono fun e W' ⟨τ,u,s',he,_,_,_,hu,hb⟩=>?_
 ·exact @LV.lr S00 σ [b2m org l] [.agg (a06 4 org 0 v)] ⟨aP2 org h,trivial⟩
 ·cases hu
  exact ⟨he,hb⟩
end V
end Go.CE
namespace Go.Proofs.YtlnlbdfokmhelaaGreatDoor
open Go.RowKit Go.CE.V Go.Rv
set_option maxRecDepth 20000
theorem amd (ps:List (LN×Nat)) (i:Nat) (hi:i < ps.length):(ps.map (·.1)).getD i a0c=(ps.getD i (a0c,0)).1∧(ps.getD i (a0c,0)).1∈ps.map (·.1):=by
 have e:ps.getD i (a0c,0)=ps[i]:=by rw [List.getD_eq_getElem?_getD,List.getElem?_eq_getElem hi];rfl
 refine ⟨?_,by rw [e];exact List.mem_map_of_mem (List.getElem_mem hi)⟩
 rw [List.getD_eq_getElem?_getD,List.getElem?_map,List.getElem?_eq_getElem hi,e];rfl
theorem aH4 {own:List Nat} {ps:List (LN×Nat)} (h:ak9 own ps) {org:Nat} (ho:org < 16) (hn:org ∉ own) (i:Nat) (hi:i < ps.length) (hk:(ps.getD i (a0c,0)).1.kind=9) :
  (LN.to (ps.getD i (a0c,0)).1 org).Ok∧(LN.enc (LN.to (ps.getD i (a0c,0)).1 org)).length≤1048576:=by
 have hx:=h.kok i hi
 have ha:=h.ans i hi (.inl hk)
 generalize (ps.getD i (a0c,0)).1=x at *
 have q:=hx.ok
 refine ⟨⟨q.kd,q.frm,ho,fun e=>hn (by have e2:x.frm=org:=e;rw [← e2];exact ha),q.aPp,q.aM0,q.res,q.res0,q.dl,q.dl0,q.st,q.aNg,q.st0,q.cs,q.up,q.len,q.cs0,q.ref,q.aO3,q.shp⟩,?_⟩
 have he:(LN.enc (LN.to x org)).length=(LN.enc x).length:=by
  unfold LN.enc
  rw [show (LN.to x org).kind=9 from hk,hk]
  rfl
 rw [he]
 exact hx.e1
theorem ac1 {own:List Nat} (hl:own∈a2j) {org:Nat} (ho:org∈[0,4]) {W:World} {kv pv:Value} {ps:List (LN×Nat)} (hk:a7r W kv) (hp:a6i W pv ps) (hps:ak9 own ps) (hz:ps.length≤1000) (hT:Tab W) (h0w:0 < W.heap.size) (hne:ps.map (·.1)≠[]) (hc:∀ q,q∈ps.map (·.1)→q.mtg=4∧q.cs=own) :
  Calls Tryz.prog 42 #[kv,.int .i64 4,.int .i64 org,pv] W fun e W'=>e=.returned (.tuple #[.int .i64 (ajx (!own.contains org) own 4 org (ps.map (·.1))).1,.int .i64 (ajx (!own.contains org) own 4 org (ps.map (·.1))).2])∧Below W.heap.size W W':=by
 have ho16:org < 16:=by
  rcases List.mem_cons.1 ho with h | h
  ·omega
  ·have:=List.mem_singleton.1 h;omega
 refine apk (m:=4) (own:=own) (b := !own.contains org) hk hp hps.kok hz hT h0w (fun e=>hne (by rw [e];rfl)) (fun i hi=>hc _ (amd ps i hi).2) (a2h hl) ((by decide:∀ l∈a2j,l.length≤4) own hl) (fun hb i hi hk9=>?_) (fun W' v _ hv=>avp hl ho hv)
 exact aH4 hps ho16 (fun hm=>by
  have:own.contains org=true:=by simpa using hm
  rw [this] at hb;cases hb) i hi hk9
theorem auu {own:List Nat} {W:World} {kv pv:Value} {ps:List (LN×Nat)} (hk:a7r W kv) (hp:a6i W pv ps) (hps:ak9 own ps) (hz:ps.length≤1000) (hT:Tab W) (h0w:0 < W.heap.size) (hc:∀ q,q∈ps.map (·.1)→q.mtg=4∧q.cs=own) :
  Calls Tryz.prog 42 #[kv,.int .i64 5,.int .i64 0,pv] W fun e W'=>e=.returned (.tuple #[.int .i64 0,.int .i64 11])∧Below W.heap.size W W' :=
 aut (m:=5) (org:=0) hk hp hps.kok hz hT h0w fun i hi=>by
  rw [(hc _ (amd ps i hi).2).1];decide
theorem ajj (ps:List (LN×Nat)) (i:Nat):(ps.take i++ps.drop (i+1)).map (·.1)=(ps.map (·.1)).take i++(ps.map (·.1)).drop (i+1):=by
 rw [List.map_append,List.map_take,List.map_drop]
theorem ak9.less {own:List Nat} {ps:List (LN×Nat)} (h:ak9 own ps) (i:Nat) (hi:i < ps.length):ak9 own (ps.take i++ps.drop (i+1)):=by
 have key:∀ j,j < (ps.take i++ps.drop (i+1)).length→∃ k,k < ps.length∧(ps.take i++ps.drop (i+1)).getD j (a0c,0)=ps.getD k (a0c,0):=fun j hj=>by
  have ht:(ps.take i).length=i:=by simp;omega
  have hlen:(ps.take i++ps.drop (i+1)).length=i+(ps.length - (i+1)):=by simp;omega
  by_cases hji:j < i
  ·exact ⟨j,by omega,by rw [List.getD_eq_getElem?_getD,List.getD_eq_getElem?_getD,List.getElem?_append_left (by omega),List.getElem?_take,if_pos hji]⟩
  ·refine ⟨j+1,by omega,?_⟩
   rw [List.getD_eq_getElem?_getD,List.getD_eq_getElem?_getD,List.getElem?_append_right (by omega),ht,List.getElem?_drop]
   congr 2
   omega
 exact ⟨fun j hj=>by obtain ⟨k,hk,e⟩:=key j hj;rw [e];exact h.kok k hk,fun j hj=>by obtain ⟨k,hk,e⟩:=key j hj;rw [e];exact h.ans k hk⟩
theorem alg {w:World} {base g:Nat} (hg:base≤g) (h:obj w g=some (.cells #[] 78 (0,0))):w.ownsRow base 78 36 (.slice (some ⟨g,0,none⟩) 0 0) 0 [] :=
 ⟨rfl,.inr ⟨g,0,#[],rfl,hg,h,Nat.le_refl _,by unfold maxLen;omega,rfl,rfl⟩⟩
end Go.Proofs.YtlnlbdfokmhelaaGreatDoor
