/-
  What sanity does: reckoned by the kernel over the quick evaluator, and what that says of the program.
-/
import Derived.Test.YtlnlbdfokmhelaaGreatDoorPkPz
set_option linter.unusedSectionVars false
set_option linter.constructorNameAsVariable false
set_option linter.unusedVariables false
set_option linter.unusedSimpArgs false
namespace Go.CE
namespace V
open Go.Proofs Go.Proofs.YtlnlbdfokmhelaaGreatDoor Go.RowKit
noncomputable def fs1:QW:=⟨adx (p4 0) (.cells (a0r (Sha.K.map aq4)) 64 277) .e,1024,2048,[],[]⟩
def isT (r:Ans):Bool:=match r with
 | some (.b true,_)=>true
 | _=>false
theorem aWm {r:Ans} (h:isT r=true) : ∃ f,r=some (.b true,f):=by
 unfold isT at h
 split at h
 ·exact ⟨_,rfl⟩
 ·cases h
section
variable [Sym] [a0n]
noncomputable def mem1:Tr AB:=Tr.set .e 0 (some (.cells (Sha.K.map aq4) 277))
theorem abr (j:Nat):mem1.get j=if j=0 then some (.cells (Sha.K.map aq4) 277) else none:=by
 unfold mem1
 rw [Tr.a0u]
 by_cases h:j=0
 ·rw [if_pos h,if_pos h]
 ·rw [if_neg h,if_neg h,Tr.amb]
theorem rs1:RS 2048 ⟨mem1,1024,[],[]⟩ fs1:=by
 refine ⟨rfl,rfl,Nat.le_refl _,(fun e h=>by cases h),(fun e h=>by cases h),fun k=>?_,(fun e h=>by cases h),(fun e h=>by cases h),fun k x h=>?_⟩
 ·show RB (mem1.get k) (getM (p4 k) (adx (p4 0) (.cells (a0r (Sha.K.map aq4)) 64 277) .e))
  rw [abr]
  by_cases hk:k=0
  ·subst hk
   rw [if_pos rfl,ars]
   have hc:=a1g (Sha.K.map aq4) (by rfl)
   have h64:(Sha.K.map aq4).length=64:=rfl
   rw [h64] at hc
   have hb:=RB.cells (a0r (Sha.K.map aq4)) 64 277 hc.2
   rwa [show a07 (a0r (Sha.K.map aq4)) 0 64=Sha.K.map aq4 from hc.1] at hb
  ·rw [if_neg hk,afu _ _ _ _ (aFo hk),adg]
   exact .no
 ·rw [abr] at h
  by_cases hk:k=0
  ·subst hk;show 0 < 2 * 1024;omega
  ·rw [if_neg hk] at h;cases h
def ase (W:World):Prop := ∃ c:Array Value,W.heap[0]? = some (.cells c 277 (0,0))∧c.size=64∧∀ i,i < 64→c[i]? = some (B32 (Sha.K.getD i 0))
theorem sr1 {W:World} (h:ase W):SR P W.heap.size gsg mem1 W:=by
 obtain ⟨c,h1,h2,h3⟩:=h
 refine ⟨fun j x hj=>?_,fun i j p1 p2 hi hj _ _ _=>?_,fun j q hj hro=>?_,Nat.le_refl _⟩
 ·rw [abr] at hj
  by_cases hk:j=0
  ·subst hk
   rw [if_pos rfl] at hj;cases hj
   obtain ⟨z,s,hg⟩:=a8t 0 (by omega)
   refine ⟨_,_,hg,h1,c,rfl,(fun _=>⟨rfl,h2⟩),(fun h=>by cases h),(by rw [h2];exact Nat.le_refl _),fun i x v e1 e2=>?_⟩
   have hi:i < 64:=by
    have:=(List.getElem?_eq_some_iff.1 e1).1
    exact this
   rw [Nat.zero_add,h3 i hi] at e2
   rw [List.getElem?_map] at e1
   have hK:Sha.K.length=64:=rfl
   rw [List.getD_eq_getElem?_getD] at e2
   rw [List.getElem?_eq_getElem (by omega)] at e1 e2
   rw [← Option.some.inj e1,← Option.some.inj e2]
   exact .i _ _
  ·rw [if_neg hk] at hj;cases hj
 ·rw [abr] at hi hj
  by_cases h:i=0
  ·by_cases h':j=0
   ·omega
   ·rw [if_neg h'] at hj;exact absurd rfl hj
  ·rw [if_neg h] at hi;exact absurd rfl hi
 ·have:=ai1 hj
  have:roB=2048:=rfl
  omega
end
@[reducible] def S0:Sym:={ val:=fun _=>0,bin:=fun _ _ _ _ _=>none,cv:=fun _ _=>none }
theorem aMp:@a0n S0:=a5k
set_option maxRecDepth 100000 in
theorem aCz:isT (@evF S0 P (@LT.fq (@Q.tL S0)) 4000 27 [] fs1)=true:=by decide +kernel
theorem akw (W:World) (h:ase W):Calls Tryz.prog 27 #[] W fun e w'=>e=.returned (.bool true)∧Below W.heap.size W w':=by
 obtain ⟨f,hf⟩:=aWm aCz
 have hall:=@Q.allL S0 aMp
 obtain ⟨x,s',hev,⟨hx,_⟩,_⟩:=@ayi S0 aMp 2048 _ _ P _ _ (@LT.aNd S0 aMp P _ hall) (@LT.aT3 S0 aMp P _ hall).1 4000 27 [] [] _ _ (@rs1 S0 aMp) ⟨rfl,(fun _ h=>by cases h)⟩ hf
 obtain ⟨m',n',l',w'⟩:=s'
 have hxb:x=.b true:=hx
 subst hxb
 obtain ⟨_,c2⟩:=@a7h S0 aMp P _ (@LT.aT3 S0 aMp P _ hall) 4000 W.heap.size gsg mem1 1024 [] [] W 27 [] (.b true) m' n' l' w' #[] a8t (@sr1 S0 aMp W h) (@LR.nil S0 _) hev (fun j h1 _=>by
  cases hj:gsg j with
  | none=>rfl
  | some q=>have:=ai1 hj;omega)
 refine c2.mono fun e W' hd=>?_
 obtain ⟨τ,u,rfl,-,-,hv,hb⟩:=hd
 cases hv
 exact ⟨rfl,hb⟩
end V
end Go.CE
