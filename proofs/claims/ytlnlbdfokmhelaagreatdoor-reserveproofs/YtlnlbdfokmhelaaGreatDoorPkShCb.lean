/-
  letter.Bytes on every shape of a letter, reckoned by the kernel.
-/
import Derived.Test.YtlnlbdfokmhelaaGreatDoorPkShp
set_option linter.unusedSectionVars false
set_option linter.constructorNameAsVariable false
set_option linter.unusedVariables false
set_option linter.unusedSimpArgs false
namespace Go.CE
namespace V
open Go.Proofs Go.Proofs.YtlnlbdfokmhelaaGreatDoor Go.RowKit
set_option maxRecDepth 100000
theorem aCk (rz:Bool) (num oct:Nat→Nat):isBytes (a6m 8 0) (@a4g (shS 8 0 rz num oct) 128 8 0 0)=true:=by kernel_rfl
theorem aCj (rz:Bool) (num oct:Nat→Nat):isBytes (a6m 8 0) (@a4g (shS 8 0 rz num oct) 128 8 1 0)=true:=by kernel_rfl
theorem aCi (rz:Bool) (num oct:Nat→Nat):isBytes (a6m 8 1) (@a4g (shS 8 1 rz num oct) 128 8 2 1)=true:=by kernel_rfl
theorem aCh (rz:Bool) (num oct:Nat→Nat):isBytes (a6m 8 2) (@a4g (shS 8 2 rz num oct) 128 8 2 2)=true:=by kernel_rfl
theorem aCg (rz:Bool) (num oct:Nat→Nat):isBytes (a6m 8 3) (@a4g (shS 8 3 rz num oct) 128 8 2 3)=true:=by kernel_rfl
theorem aCf (rz:Bool) (num oct:Nat→Nat):isBytes (a6m 9 0) (@a4g (shS 9 0 rz num oct) 128 9 0 0)=true:=by kernel_rfl
theorem aCe (rz:Bool) (num oct:Nat→Nat):isBytes (a6m 9 0) (@a4g (shS 9 0 rz num oct) 128 9 1 0)=true:=by kernel_rfl
theorem aCd (rz:Bool) (num oct:Nat→Nat):isBytes (a6m 9 1) (@a4g (shS 9 1 rz num oct) 128 9 2 1)=true:=by kernel_rfl
theorem aCc (rz:Bool) (num oct:Nat→Nat):isBytes (a6m 9 2) (@a4g (shS 9 2 rz num oct) 128 9 2 2)=true:=by kernel_rfl
theorem aCb (rz:Bool) (num oct:Nat→Nat):isBytes (a6m 9 3) (@a4g (shS 9 3 rz num oct) 128 9 2 3)=true:=by kernel_rfl
theorem awp (rz:Bool) (num oct:Nat→Nat):isBytes (a6m 10 0) (@a4g (shS 10 0 rz num oct) 128 10 0 0)=true:=by kernel_rfl
theorem awo (rz:Bool) (num oct:Nat→Nat):isBytes (a6m 10 0) (@a4g (shS 10 0 rz num oct) 128 10 1 0)=true:=by kernel_rfl
theorem awn (rz:Bool) (num oct:Nat→Nat):isBytes (a6m 10 1) (@a4g (shS 10 1 rz num oct) 128 10 2 1)=true:=by kernel_rfl
theorem awm (rz:Bool) (num oct:Nat→Nat):isBytes (a6m 10 2) (@a4g (shS 10 2 rz num oct) 128 10 2 2)=true:=by kernel_rfl
theorem awl (rz:Bool) (num oct:Nat→Nat):isBytes (a6m 10 3) (@a4g (shS 10 3 rz num oct) 128 10 2 3)=true:=by kernel_rfl
theorem awk (rz:Bool) (num oct:Nat→Nat):isBytes (a6m 11 0) (@a4g (shS 11 0 rz num oct) 128 11 0 0)=true:=by kernel_rfl
theorem awj (rz:Bool) (num oct:Nat→Nat):isBytes (a6m 11 0) (@a4g (shS 11 0 rz num oct) 128 11 1 0)=true:=by kernel_rfl
theorem awi (rz:Bool) (num oct:Nat→Nat):isBytes (a6m 11 1) (@a4g (shS 11 1 rz num oct) 128 11 2 1)=true:=by kernel_rfl
theorem awh (rz:Bool) (num oct:Nat→Nat):isBytes (a6m 11 2) (@a4g (shS 11 2 rz num oct) 128 11 2 2)=true:=by kernel_rfl
theorem awg (rz:Bool) (num oct:Nat→Nat):isBytes (a6m 11 3) (@a4g (shS 11 3 rz num oct) 128 11 2 3)=true:=by kernel_rfl
theorem awf (rz:Bool) (num oct:Nat→Nat):isBytes (a6m 12 0) (@a4g (shS 12 0 rz num oct) 128 12 0 0)=true:=by kernel_rfl
theorem awe (rz:Bool) (num oct:Nat→Nat):isBytes (a6m 12 0) (@a4g (shS 12 0 rz num oct) 128 12 1 0)=true:=by kernel_rfl
theorem awd (rz:Bool) (num oct:Nat→Nat):isBytes (a6m 12 1) (@a4g (shS 12 1 rz num oct) 128 12 2 1)=true:=by kernel_rfl
theorem awc (rz:Bool) (num oct:Nat→Nat):isBytes (a6m 12 2) (@a4g (shS 12 2 rz num oct) 128 12 2 2)=true:=by kernel_rfl
theorem aw9 (rz:Bool) (num oct:Nat→Nat):isBytes (a6m 12 3) (@a4g (shS 12 3 rz num oct) 128 12 2 3)=true:=by kernel_rfl
def shapes:List (Nat×Nat×Nat):=[(8,0,0),(8,0,1),(8,1,2),(8,2,2),(8,3,2),(9,0,0),(9,0,1),(9,1,2),(9,2,2),(9,3,2),(10,0,0),(10,0,1),(10,1,2),(10,2,2),(10,3,2),(11,0,0),(11,0,1),(11,1,2),(11,2,2),(11,3,2),(12,0,0),(12,0,1),(12,1,2),(12,2,2),(12,3,2)]
theorem aT1 {k n f:Nat} (h:(k,n,f)∈shapes) (rz:Bool) (num oct:Nat→Nat):isBytes (a6m k n) (@a4g (shS k n rz num oct) 128 k f n)=true:=by
 simp only [shapes,List.mem_cons,Prod.mk.injEq,List.not_mem_nil,or_false] at h
 rcases h with ⟨rfl,rfl,rfl⟩ | ⟨rfl,rfl,rfl⟩ | ⟨rfl,rfl,rfl⟩ | ⟨rfl,rfl,rfl⟩ | ⟨rfl,rfl,rfl⟩ | ⟨rfl,rfl,rfl⟩ | ⟨rfl,rfl,rfl⟩ | ⟨rfl,rfl,rfl⟩ | ⟨rfl,rfl,rfl⟩ | ⟨rfl,rfl,rfl⟩ | ⟨rfl,rfl,rfl⟩ | ⟨rfl,rfl,rfl⟩ | ⟨rfl,rfl,rfl⟩ | ⟨rfl,rfl,rfl⟩ | ⟨rfl,rfl,rfl⟩ | ⟨rfl,rfl,rfl⟩ | ⟨rfl,rfl,rfl⟩ | ⟨rfl,rfl,rfl⟩ | ⟨rfl,rfl,rfl⟩ | ⟨rfl,rfl,rfl⟩ | ⟨rfl,rfl,rfl⟩ | ⟨rfl,rfl,rfl⟩ | ⟨rfl,rfl,rfl⟩ | ⟨rfl,rfl,rfl⟩ | ⟨rfl,rfl,rfl⟩
 ·exact aCk rz num oct
 ·exact aCj rz num oct
 ·exact aCi rz num oct
 ·exact aCh rz num oct
 ·exact aCg rz num oct
 ·exact aCf rz num oct
 ·exact aCe rz num oct
 ·exact aCd rz num oct
 ·exact aCc rz num oct
 ·exact aCb rz num oct
 ·exact awp rz num oct
 ·exact awo rz num oct
 ·exact awn rz num oct
 ·exact awm rz num oct
 ·exact awl rz num oct
 ·exact awk rz num oct
 ·exact awj rz num oct
 ·exact awi rz num oct
 ·exact awh rz num oct
 ·exact awg rz num oct
 ·exact awf rz num oct
 ·exact awe rz num oct
 ·exact awd rz num oct
 ·exact awc rz num oct
 ·exact aw9 rz num oct
end V
end Go.CE
