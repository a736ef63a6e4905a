/-
  letter.Bytes on every shape of a letter, reckoned by the kernel.
-/
import Derived.Test.YtlnlbdfokmhelaaGreatDoorPkShp
set_option linter.unusedSectionVars false
set_option linter.constructorNameAsVariable false
set_option linter.unusedVariables false
set_option linter.unusedSimpArgs false
namespace Go.CE
namespace V
open Go.Proofs Go.Proofs.YtlnlbdfokmhelaaGreatDoor Go.RowKit
set_option maxRecDepth 100000
theorem bI5 (rz:Bool) (num oct:Nat→Nat):isBytes (bbu 8 0) (@ba1 (shS 8 0 rz num oct) 128 8 0 0)=true:=by kernel_rfl
theorem bI4 (rz:Bool) (num oct:Nat→Nat):isBytes (bbu 8 0) (@ba1 (shS 8 0 rz num oct) 128 8 1 0)=true:=by kernel_rfl
theorem bI3 (rz:Bool) (num oct:Nat→Nat):isBytes (bbu 8 1) (@ba1 (shS 8 1 rz num oct) 128 8 2 1)=true:=by kernel_rfl
theorem bI0 (rz:Bool) (num oct:Nat→Nat):isBytes (bbu 8 2) (@ba1 (shS 8 2 rz num oct) 128 8 2 2)=true:=by kernel_rfl
theorem bHz (rz:Bool) (num oct:Nat→Nat):isBytes (bbu 8 3) (@ba1 (shS 8 3 rz num oct) 128 8 2 3)=true:=by kernel_rfl
theorem bHy (rz:Bool) (num oct:Nat→Nat):isBytes (bbu 9 0) (@ba1 (shS 9 0 rz num oct) 128 9 0 0)=true:=by kernel_rfl
theorem bHx (rz:Bool) (num oct:Nat→Nat):isBytes (bbu 9 0) (@ba1 (shS 9 0 rz num oct) 128 9 1 0)=true:=by kernel_rfl
theorem bHw (rz:Bool) (num oct:Nat→Nat):isBytes (bbu 9 1) (@ba1 (shS 9 1 rz num oct) 128 9 2 1)=true:=by kernel_rfl
theorem bHv (rz:Bool) (num oct:Nat→Nat):isBytes (bbu 9 2) (@ba1 (shS 9 2 rz num oct) 128 9 2 2)=true:=by kernel_rfl
theorem bHu (rz:Bool) (num oct:Nat→Nat):isBytes (bbu 9 3) (@ba1 (shS 9 3 rz num oct) 128 9 2 3)=true:=by kernel_rfl
theorem bBo (rz:Bool) (num oct:Nat→Nat):isBytes (bbu 10 0) (@ba1 (shS 10 0 rz num oct) 128 10 0 0)=true:=by kernel_rfl
theorem bBn (rz:Bool) (num oct:Nat→Nat):isBytes (bbu 10 0) (@ba1 (shS 10 0 rz num oct) 128 10 1 0)=true:=by kernel_rfl
theorem bBm (rz:Bool) (num oct:Nat→Nat):isBytes (bbu 10 1) (@ba1 (shS 10 1 rz num oct) 128 10 2 1)=true:=by kernel_rfl
theorem bBl (rz:Bool) (num oct:Nat→Nat):isBytes (bbu 10 2) (@ba1 (shS 10 2 rz num oct) 128 10 2 2)=true:=by kernel_rfl
theorem bBk (rz:Bool) (num oct:Nat→Nat):isBytes (bbu 10 3) (@ba1 (shS 10 3 rz num oct) 128 10 2 3)=true:=by kernel_rfl
theorem bBj (rz:Bool) (num oct:Nat→Nat):isBytes (bbu 11 0) (@ba1 (shS 11 0 rz num oct) 128 11 0 0)=true:=by kernel_rfl
theorem bBi (rz:Bool) (num oct:Nat→Nat):isBytes (bbu 11 0) (@ba1 (shS 11 0 rz num oct) 128 11 1 0)=true:=by kernel_rfl
theorem bBh (rz:Bool) (num oct:Nat→Nat):isBytes (bbu 11 1) (@ba1 (shS 11 1 rz num oct) 128 11 2 1)=true:=by kernel_rfl
theorem bBg (rz:Bool) (num oct:Nat→Nat):isBytes (bbu 11 2) (@ba1 (shS 11 2 rz num oct) 128 11 2 2)=true:=by kernel_rfl
theorem bBf (rz:Bool) (num oct:Nat→Nat):isBytes (bbu 11 3) (@ba1 (shS 11 3 rz num oct) 128 11 2 3)=true:=by kernel_rfl
theorem bBe (rz:Bool) (num oct:Nat→Nat):isBytes (bbu 12 0) (@ba1 (shS 12 0 rz num oct) 128 12 0 0)=true:=by kernel_rfl
theorem bBd (rz:Bool) (num oct:Nat→Nat):isBytes (bbu 12 0) (@ba1 (shS 12 0 rz num oct) 128 12 1 0)=true:=by kernel_rfl
theorem bBc (rz:Bool) (num oct:Nat→Nat):isBytes (bbu 12 1) (@ba1 (shS 12 1 rz num oct) 128 12 2 1)=true:=by kernel_rfl
theorem bBb (rz:Bool) (num oct:Nat→Nat):isBytes (bbu 12 2) (@ba1 (shS 12 2 rz num oct) 128 12 2 2)=true:=by kernel_rfl
theorem bBa (rz:Bool) (num oct:Nat→Nat):isBytes (bbu 12 3) (@ba1 (shS 12 3 rz num oct) 128 12 2 3)=true:=by kernel_rfl
def shapes:List (Nat×Nat×Nat):=[(8,0,0),(8,0,1),(8,1,2),(8,2,2),(8,3,2),(9,0,0),(9,0,1),(9,1,2),(9,2,2),(9,3,2),(10,0,0),(10,0,1),(10,1,2),(10,2,2),(10,3,2),(11,0,0),(11,0,1),(11,1,2),(11,2,2),(11,3,2),(12,0,0),(12,0,1),(12,1,2),(12,2,2),(12,3,2)]
theorem bYi {k n f:Nat} (h:(k,n,f)∈shapes) (rz:Bool) (num oct:Nat→Nat):isBytes (bbu k n) (@ba1 (shS k n rz num oct) 128 k f n)=true:=by
 simp only [shapes,List.mem_cons,Prod.mk.injEq,List.not_mem_nil,or_false] at h
 rcases h with ⟨rfl,rfl,rfl⟩ | ⟨rfl,rfl,rfl⟩ | ⟨rfl,rfl,rfl⟩ | ⟨rfl,rfl,rfl⟩ | ⟨rfl,rfl,rfl⟩ | ⟨rfl,rfl,rfl⟩ | ⟨rfl,rfl,rfl⟩ | ⟨rfl,rfl,rfl⟩ | ⟨rfl,rfl,rfl⟩ | ⟨rfl,rfl,rfl⟩ | ⟨rfl,rfl,rfl⟩ | ⟨rfl,rfl,rfl⟩ | ⟨rfl,rfl,rfl⟩ | ⟨rfl,rfl,rfl⟩ | ⟨rfl,rfl,rfl⟩ | ⟨rfl,rfl,rfl⟩ | ⟨rfl,rfl,rfl⟩ | ⟨rfl,rfl,rfl⟩ | ⟨rfl,rfl,rfl⟩ | ⟨rfl,rfl,rfl⟩ | ⟨rfl,rfl,rfl⟩ | ⟨rfl,rfl,rfl⟩ | ⟨rfl,rfl,rfl⟩ | ⟨rfl,rfl,rfl⟩ | ⟨rfl,rfl,rfl⟩
 ·exact bI5 rz num oct
 ·exact bI4 rz num oct
 ·exact bI3 rz num oct
 ·exact bI0 rz num oct
 ·exact bHz rz num oct
 ·exact bHy rz num oct
 ·exact bHx rz num oct
 ·exact bHw rz num oct
 ·exact bHv rz num oct
 ·exact bHu rz num oct
 ·exact bBo rz num oct
 ·exact bBn rz num oct
 ·exact bBm rz num oct
 ·exact bBl rz num oct
 ·exact bBk rz num oct
 ·exact bBj rz num oct
 ·exact bBi rz num oct
 ·exact bBh rz num oct
 ·exact bBg rz num oct
 ·exact bBf rz num oct
 ·exact bBe rz num oct
 ·exact bBd rz num oct
 ·exact bBc rz num oct
 ·exact bBb rz num oct
 ·exact bBa rz num oct
end V
end Go.CE
