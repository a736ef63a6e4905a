/-
  letter.Read on the encoding of every shape of a letter, reckoned by the kernel.
-/
import Derived.Test.YtlnlbdfokmhelaaGreatDoorPkShp
set_option linter.unusedSectionVars false
set_option linter.constructorNameAsVariable false
set_option linter.unusedVariables false
set_option linter.unusedSimpArgs false
namespace Go.CE
namespace V
open Go.Proofs Go.Proofs.YtlnlbdfokmhelaaGreatDoor Go.RowKit
set_option maxRecDepth 100000
theorem aT0 (rz:Bool) (num oct:Nat→Nat):isLet 8 1 (@ahc (shS 8 1 rz num oct) 193 8 1)=true:=by kernel_rfl
theorem aSz (rz:Bool) (num oct:Nat→Nat):isLet 8 2 (@ahc (shS 8 2 rz num oct) 193 8 2)=true:=by kernel_rfl
theorem aSy (rz:Bool) (num oct:Nat→Nat):isLet 8 3 (@ahc (shS 8 3 rz num oct) 193 8 3)=true:=by kernel_rfl
theorem aSx (rz:Bool) (num oct:Nat→Nat):isLet 9 0 (@ahc (shS 9 0 rz num oct) 193 9 0)=true:=by kernel_rfl
theorem aSw (rz:Bool) (num oct:Nat→Nat):isLet 9 1 (@ahc (shS 9 1 rz num oct) 193 9 1)=true:=by kernel_rfl
theorem aSv (rz:Bool) (num oct:Nat→Nat):isLet 9 2 (@ahc (shS 9 2 rz num oct) 193 9 2)=true:=by kernel_rfl
theorem aSu (rz:Bool) (num oct:Nat→Nat):isLet 9 3 (@ahc (shS 9 3 rz num oct) 193 9 3)=true:=by kernel_rfl
theorem aN9 (rz:Bool) (num oct:Nat→Nat):isLet 10 0 (@ahc (shS 10 0 rz num oct) 193 10 0)=true:=by kernel_rfl
theorem aN8 (rz:Bool) (num oct:Nat→Nat):isLet 10 1 (@ahc (shS 10 1 rz num oct) 193 10 1)=true:=by kernel_rfl
theorem aN7 (rz:Bool) (num oct:Nat→Nat):isLet 10 2 (@ahc (shS 10 2 rz num oct) 193 10 2)=true:=by kernel_rfl
theorem aN6 (rz:Bool) (num oct:Nat→Nat):isLet 10 3 (@ahc (shS 10 3 rz num oct) 193 10 3)=true:=by kernel_rfl
theorem aN5 (rz:Bool) (num oct:Nat→Nat):isLet 11 0 (@ahc (shS 11 0 rz num oct) 193 11 0)=true:=by kernel_rfl
theorem aN4 (rz:Bool) (num oct:Nat→Nat):isLet 11 1 (@ahc (shS 11 1 rz num oct) 193 11 1)=true:=by kernel_rfl
theorem aN3 (rz:Bool) (num oct:Nat→Nat):isLet 11 2 (@ahc (shS 11 2 rz num oct) 193 11 2)=true:=by kernel_rfl
theorem aN2 (rz:Bool) (num oct:Nat→Nat):isLet 11 3 (@ahc (shS 11 3 rz num oct) 193 11 3)=true:=by kernel_rfl
theorem aN1 (rz:Bool) (num oct:Nat→Nat):isLet 12 0 (@ahc (shS 12 0 rz num oct) 193 12 0)=true:=by kernel_rfl
theorem aN0 (rz:Bool) (num oct:Nat→Nat):isLet 12 1 (@ahc (shS 12 1 rz num oct) 193 12 1)=true:=by kernel_rfl
theorem aMz (rz:Bool) (num oct:Nat→Nat):isLet 12 2 (@ahc (shS 12 2 rz num oct) 193 12 2)=true:=by kernel_rfl
theorem aMy (rz:Bool) (num oct:Nat→Nat):isLet 12 3 (@ahc (shS 12 3 rz num oct) 193 12 3)=true:=by kernel_rfl
def anw:List (Nat×Nat):=[(8,1),(8,2),(8,3),(9,0),(9,1),(9,2),(9,3),(10,0),(10,1),(10,2),(10,3),(11,0),(11,1),(11,2),(11,3),(12,0),(12,1),(12,2),(12,3)]
theorem aSt {k n:Nat} (h:(k,n)∈anw) (rz:Bool) (num oct:Nat→Nat):isLet k n (@ahc (shS k n rz num oct) 193 k n)=true:=by
 simp only [anw,List.mem_cons,Prod.mk.injEq,List.not_mem_nil,or_false] at h
 rcases h with ⟨rfl,rfl⟩ | ⟨rfl,rfl⟩ | ⟨rfl,rfl⟩ | ⟨rfl,rfl⟩ | ⟨rfl,rfl⟩ | ⟨rfl,rfl⟩ | ⟨rfl,rfl⟩ | ⟨rfl,rfl⟩ | ⟨rfl,rfl⟩ | ⟨rfl,rfl⟩ | ⟨rfl,rfl⟩ | ⟨rfl,rfl⟩ | ⟨rfl,rfl⟩ | ⟨rfl,rfl⟩ | ⟨rfl,rfl⟩ | ⟨rfl,rfl⟩ | ⟨rfl,rfl⟩ | ⟨rfl,rfl⟩ | ⟨rfl,rfl⟩
 ·exact aT0 rz num oct
 ·exact aSz rz num oct
 ·exact aSy rz num oct
 ·exact aSx rz num oct
 ·exact aSw rz num oct
 ·exact aSv rz num oct
 ·exact aSu rz num oct
 ·exact aN9 rz num oct
 ·exact aN8 rz num oct
 ·exact aN7 rz num oct
 ·exact aN6 rz num oct
 ·exact aN5 rz num oct
 ·exact aN4 rz num oct
 ·exact aN3 rz num oct
 ·exact aN2 rz num oct
 ·exact aN1 rz num oct
 ·exact aN0 rz num oct
 ·exact aMz rz num oct
 ·exact aMy rz num oct
end V
end Go.CE
