/-
  letter.Valid on every shape of a letter, reckoned by the kernel.
-/
import Derived.Test.YtlnlbdfokmhelaaGreatDoorPkShCb
set_option linter.unusedSectionVars false
set_option linter.constructorNameAsVariable false
set_option linter.unusedVariables false
set_option linter.unusedSimpArgs false
namespace Go.CE
namespace V
open Go.Proofs Go.Proofs.YtlnlbdfokmhelaaGreatDoor Go.RowKit
set_option maxRecDepth 100000
noncomputable def isZero (r:Ans):Bool:=match r with
 | some (.i .i64 0,_)=>true
 | _=>false
theorem aC7 (rz:Bool) (num oct:Nat→Nat):isZero (@a4g (shS 8 0 rz num oct) 26 8 0 0)=true:=by kernel_rfl
theorem aC6 (rz:Bool) (num oct:Nat→Nat):isZero (@a4g (shS 8 0 rz num oct) 26 8 1 0)=true:=by kernel_rfl
theorem aC5 (rz:Bool) (num oct:Nat→Nat):isZero (@a4g (shS 8 1 rz num oct) 26 8 2 1)=true:=by kernel_rfl
theorem aC4 (rz:Bool) (num oct:Nat→Nat):isZero (@a4g (shS 8 2 rz num oct) 26 8 2 2)=true:=by kernel_rfl
theorem aC3 (rz:Bool) (num oct:Nat→Nat):isZero (@a4g (shS 8 3 rz num oct) 26 8 2 3)=true:=by kernel_rfl
theorem aC2 (rz:Bool) (num oct:Nat→Nat):isZero (@a4g (shS 9 0 rz num oct) 26 9 0 0)=true:=by kernel_rfl
theorem aC1 (rz:Bool) (num oct:Nat→Nat):isZero (@a4g (shS 9 0 rz num oct) 26 9 1 0)=true:=by kernel_rfl
theorem aC0 (rz:Bool) (num oct:Nat→Nat):isZero (@a4g (shS 9 1 rz num oct) 26 9 2 1)=true:=by kernel_rfl
theorem aBz (rz:Bool) (num oct:Nat→Nat):isZero (@a4g (shS 9 2 rz num oct) 26 9 2 2)=true:=by kernel_rfl
theorem aBy (rz:Bool) (num oct:Nat→Nat):isZero (@a4g (shS 9 3 rz num oct) 26 9 2 3)=true:=by kernel_rfl
theorem aw7 (rz:Bool) (num oct:Nat→Nat):isZero (@a4g (shS 10 0 rz num oct) 26 10 0 0)=true:=by kernel_rfl
theorem aw6 (rz:Bool) (num oct:Nat→Nat):isZero (@a4g (shS 10 0 rz num oct) 26 10 1 0)=true:=by kernel_rfl
theorem aw5 (rz:Bool) (num oct:Nat→Nat):isZero (@a4g (shS 10 1 rz num oct) 26 10 2 1)=true:=by kernel_rfl
theorem aw4 (rz:Bool) (num oct:Nat→Nat):isZero (@a4g (shS 10 2 rz num oct) 26 10 2 2)=true:=by kernel_rfl
theorem aw3 (rz:Bool) (num oct:Nat→Nat):isZero (@a4g (shS 10 3 rz num oct) 26 10 2 3)=true:=by kernel_rfl
theorem aw2 (rz:Bool) (num oct:Nat→Nat):isZero (@a4g (shS 11 0 rz num oct) 26 11 0 0)=true:=by kernel_rfl
theorem aw1 (rz:Bool) (num oct:Nat→Nat):isZero (@a4g (shS 11 0 rz num oct) 26 11 1 0)=true:=by kernel_rfl
theorem aw0 (rz:Bool) (num oct:Nat→Nat):isZero (@a4g (shS 11 1 rz num oct) 26 11 2 1)=true:=by kernel_rfl
theorem avz (rz:Bool) (num oct:Nat→Nat):isZero (@a4g (shS 11 2 rz num oct) 26 11 2 2)=true:=by kernel_rfl
theorem avy (rz:Bool) (num oct:Nat→Nat):isZero (@a4g (shS 11 3 rz num oct) 26 11 2 3)=true:=by kernel_rfl
theorem avx (rz:Bool) (num oct:Nat→Nat):isZero (@a4g (shS 12 0 rz num oct) 26 12 0 0)=true:=by kernel_rfl
theorem avw (rz:Bool) (num oct:Nat→Nat):isZero (@a4g (shS 12 0 rz num oct) 26 12 1 0)=true:=by kernel_rfl
theorem avv (rz:Bool) (num oct:Nat→Nat):isZero (@a4g (shS 12 1 rz num oct) 26 12 2 1)=true:=by kernel_rfl
theorem avu (rz:Bool) (num oct:Nat→Nat):isZero (@a4g (shS 12 2 rz num oct) 26 12 2 2)=true:=by kernel_rfl
theorem avt (rz:Bool) (num oct:Nat→Nat):isZero (@a4g (shS 12 3 rz num oct) 26 12 2 3)=true:=by kernel_rfl
theorem aSr {k n f:Nat} (h:(k,n,f)∈shapes) (rz:Bool) (num oct:Nat→Nat):isZero (@a4g (shS k n rz num oct) 26 k f n)=true:=by
 simp only [shapes,List.mem_cons,Prod.mk.injEq,List.not_mem_nil,or_false] at h
 rcases h with ⟨rfl,rfl,rfl⟩ | ⟨rfl,rfl,rfl⟩ | ⟨rfl,rfl,rfl⟩ | ⟨rfl,rfl,rfl⟩ | ⟨rfl,rfl,rfl⟩ | ⟨rfl,rfl,rfl⟩ | ⟨rfl,rfl,rfl⟩ | ⟨rfl,rfl,rfl⟩ | ⟨rfl,rfl,rfl⟩ | ⟨rfl,rfl,rfl⟩ | ⟨rfl,rfl,rfl⟩ | ⟨rfl,rfl,rfl⟩ | ⟨rfl,rfl,rfl⟩ | ⟨rfl,rfl,rfl⟩ | ⟨rfl,rfl,rfl⟩ | ⟨rfl,rfl,rfl⟩ | ⟨rfl,rfl,rfl⟩ | ⟨rfl,rfl,rfl⟩ | ⟨rfl,rfl,rfl⟩ | ⟨rfl,rfl,rfl⟩ | ⟨rfl,rfl,rfl⟩ | ⟨rfl,rfl,rfl⟩ | ⟨rfl,rfl,rfl⟩ | ⟨rfl,rfl,rfl⟩ | ⟨rfl,rfl,rfl⟩
 ·exact aC7 rz num oct
 ·exact aC6 rz num oct
 ·exact aC5 rz num oct
 ·exact aC4 rz num oct
 ·exact aC3 rz num oct
 ·exact aC2 rz num oct
 ·exact aC1 rz num oct
 ·exact aC0 rz num oct
 ·exact aBz rz num oct
 ·exact aBy rz num oct
 ·exact aw7 rz num oct
 ·exact aw6 rz num oct
 ·exact aw5 rz num oct
 ·exact aw4 rz num oct
 ·exact aw3 rz num oct
 ·exact aw2 rz num oct
 ·exact aw1 rz num oct
 ·exact aw0 rz num oct
 ·exact avz rz num oct
 ·exact avy rz num oct
 ·exact avx rz num oct
 ·exact avw rz num oct
 ·exact avv rz num oct
 ·exact avu rz num oct
 ·exact avt rz num oct
end V
end Go.CE
