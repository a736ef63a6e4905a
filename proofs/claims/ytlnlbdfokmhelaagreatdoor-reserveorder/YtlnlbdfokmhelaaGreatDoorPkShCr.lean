/-
  letter.Read on the encoding of every shape of a letter, reckoned by the kernel.
-/
import Derived.Test.YtlnlbdfokmhelaaGreatDoorPkShp
set_option linter.unusedSectionVars false
set_option linter.constructorNameAsVariable false
set_option linter.unusedVariables false
set_option linter.unusedSimpArgs false
namespace Go.CE
namespace V
open Go.Proofs Go.Proofs.YtlnlbdfokmhelaaGreatDoor Go.RowKit
set_option maxRecDepth 100000
theorem bYh (rz:Bool) (num oct:Nat→Nat):isLet 8 1 (@bm9 (shS 8 1 rz num oct) 193 8 1)=true:=by kernel_rfl
theorem bYg (rz:Bool) (num oct:Nat→Nat):isLet 8 2 (@bm9 (shS 8 2 rz num oct) 193 8 2)=true:=by kernel_rfl
theorem bYf (rz:Bool) (num oct:Nat→Nat):isLet 8 3 (@bm9 (shS 8 3 rz num oct) 193 8 3)=true:=by kernel_rfl
theorem bYe (rz:Bool) (num oct:Nat→Nat):isLet 9 0 (@bm9 (shS 9 0 rz num oct) 193 9 0)=true:=by kernel_rfl
theorem bYd (rz:Bool) (num oct:Nat→Nat):isLet 9 1 (@bm9 (shS 9 1 rz num oct) 193 9 1)=true:=by kernel_rfl
theorem bYc (rz:Bool) (num oct:Nat→Nat):isLet 9 2 (@bm9 (shS 9 2 rz num oct) 193 9 2)=true:=by kernel_rfl
theorem bYb (rz:Bool) (num oct:Nat→Nat):isLet 9 3 (@bm9 (shS 9 3 rz num oct) 193 9 3)=true:=by kernel_rfl
theorem bSq (rz:Bool) (num oct:Nat→Nat):isLet 10 0 (@bm9 (shS 10 0 rz num oct) 193 10 0)=true:=by kernel_rfl
theorem bSp (rz:Bool) (num oct:Nat→Nat):isLet 10 1 (@bm9 (shS 10 1 rz num oct) 193 10 1)=true:=by kernel_rfl
theorem bSo (rz:Bool) (num oct:Nat→Nat):isLet 10 2 (@bm9 (shS 10 2 rz num oct) 193 10 2)=true:=by kernel_rfl
theorem bSn (rz:Bool) (num oct:Nat→Nat):isLet 10 3 (@bm9 (shS 10 3 rz num oct) 193 10 3)=true:=by kernel_rfl
theorem bSm (rz:Bool) (num oct:Nat→Nat):isLet 11 0 (@bm9 (shS 11 0 rz num oct) 193 11 0)=true:=by kernel_rfl
theorem bSk (rz:Bool) (num oct:Nat→Nat):isLet 11 1 (@bm9 (shS 11 1 rz num oct) 193 11 1)=true:=by kernel_rfl
theorem bSj (rz:Bool) (num oct:Nat→Nat):isLet 11 2 (@bm9 (shS 11 2 rz num oct) 193 11 2)=true:=by kernel_rfl
theorem bSi (rz:Bool) (num oct:Nat→Nat):isLet 11 3 (@bm9 (shS 11 3 rz num oct) 193 11 3)=true:=by kernel_rfl
theorem bSh (rz:Bool) (num oct:Nat→Nat):isLet 12 0 (@bm9 (shS 12 0 rz num oct) 193 12 0)=true:=by kernel_rfl
theorem bSg (rz:Bool) (num oct:Nat→Nat):isLet 12 1 (@bm9 (shS 12 1 rz num oct) 193 12 1)=true:=by kernel_rfl
theorem bSf (rz:Bool) (num oct:Nat→Nat):isLet 12 2 (@bm9 (shS 12 2 rz num oct) 193 12 2)=true:=by kernel_rfl
theorem bSe (rz:Bool) (num oct:Nat→Nat):isLet 12 3 (@bm9 (shS 12 3 rz num oct) 193 12 3)=true:=by kernel_rfl
def btg:List (Nat×Nat):=[(8,1),(8,2),(8,3),(9,0),(9,1),(9,2),(9,3),(10,0),(10,1),(10,2),(10,3),(11,0),(11,1),(11,2),(11,3),(12,0),(12,1),(12,2),(12,3)]
theorem bYa {k n:Nat} (h:(k,n)∈btg) (rz:Bool) (num oct:Nat→Nat):isLet k n (@bm9 (shS k n rz num oct) 193 k n)=true:=by
 simp only [btg,List.mem_cons,Prod.mk.injEq,List.not_mem_nil,or_false] at h
 rcases h with ⟨rfl,rfl⟩ | ⟨rfl,rfl⟩ | ⟨rfl,rfl⟩ | ⟨rfl,rfl⟩ | ⟨rfl,rfl⟩ | ⟨rfl,rfl⟩ | ⟨rfl,rfl⟩ | ⟨rfl,rfl⟩ | ⟨rfl,rfl⟩ | ⟨rfl,rfl⟩ | ⟨rfl,rfl⟩ | ⟨rfl,rfl⟩ | ⟨rfl,rfl⟩ | ⟨rfl,rfl⟩ | ⟨rfl,rfl⟩ | ⟨rfl,rfl⟩ | ⟨rfl,rfl⟩ | ⟨rfl,rfl⟩ | ⟨rfl,rfl⟩
 ·exact bYh rz num oct
 ·exact bYg rz num oct
 ·exact bYf rz num oct
 ·exact bYe rz num oct
 ·exact bYd rz num oct
 ·exact bYc rz num oct
 ·exact bYb rz num oct
 ·exact bSq rz num oct
 ·exact bSp rz num oct
 ·exact bSo rz num oct
 ·exact bSn rz num oct
 ·exact bSm rz num oct
 ·exact bSk rz num oct
 ·exact bSj rz num oct
 ·exact bSi rz num oct
 ·exact bSh rz num oct
 ·exact bSg rz num oct
 ·exact bSf rz num oct
 ·exact bSe rz num oct
end V
end Go.CE
