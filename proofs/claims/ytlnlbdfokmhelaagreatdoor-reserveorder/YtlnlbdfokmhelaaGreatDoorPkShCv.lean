/-
  letter.Valid on every shape of a letter, reckoned by the kernel.
-/
import Derived.Test.YtlnlbdfokmhelaaGreatDoorPkShCb
set_option linter.unusedSectionVars false
set_option linter.constructorNameAsVariable false
set_option linter.unusedVariables false
set_option linter.unusedSimpArgs false
namespace Go.CE
namespace V
open Go.Proofs Go.Proofs.YtlnlbdfokmhelaaGreatDoor Go.RowKit
set_option maxRecDepth 100000
noncomputable def isZero (r:Ans):Bool:=match r with
 | some (.i .i64 0,_)=>true
 | _=>false
theorem bHq (rz:Bool) (num oct:Nat→Nat):isZero (@ba1 (shS 8 0 rz num oct) 26 8 0 0)=true:=by kernel_rfl
theorem bHp (rz:Bool) (num oct:Nat→Nat):isZero (@ba1 (shS 8 0 rz num oct) 26 8 1 0)=true:=by kernel_rfl
theorem bHo (rz:Bool) (num oct:Nat→Nat):isZero (@ba1 (shS 8 1 rz num oct) 26 8 2 1)=true:=by kernel_rfl
theorem bHn (rz:Bool) (num oct:Nat→Nat):isZero (@ba1 (shS 8 2 rz num oct) 26 8 2 2)=true:=by kernel_rfl
theorem bHm (rz:Bool) (num oct:Nat→Nat):isZero (@ba1 (shS 8 3 rz num oct) 26 8 2 3)=true:=by kernel_rfl
theorem bHl (rz:Bool) (num oct:Nat→Nat):isZero (@ba1 (shS 9 0 rz num oct) 26 9 0 0)=true:=by kernel_rfl
theorem bHk (rz:Bool) (num oct:Nat→Nat):isZero (@ba1 (shS 9 0 rz num oct) 26 9 1 0)=true:=by kernel_rfl
theorem bHj (rz:Bool) (num oct:Nat→Nat):isZero (@ba1 (shS 9 1 rz num oct) 26 9 2 1)=true:=by kernel_rfl
theorem bHi (rz:Bool) (num oct:Nat→Nat):isZero (@ba1 (shS 9 2 rz num oct) 26 9 2 2)=true:=by kernel_rfl
theorem bHh (rz:Bool) (num oct:Nat→Nat):isZero (@ba1 (shS 9 3 rz num oct) 26 9 2 3)=true:=by kernel_rfl
theorem bB8 (rz:Bool) (num oct:Nat→Nat):isZero (@ba1 (shS 10 0 rz num oct) 26 10 0 0)=true:=by kernel_rfl
theorem bB7 (rz:Bool) (num oct:Nat→Nat):isZero (@ba1 (shS 10 0 rz num oct) 26 10 1 0)=true:=by kernel_rfl
theorem bB6 (rz:Bool) (num oct:Nat→Nat):isZero (@ba1 (shS 10 1 rz num oct) 26 10 2 1)=true:=by kernel_rfl
theorem bB5 (rz:Bool) (num oct:Nat→Nat):isZero (@ba1 (shS 10 2 rz num oct) 26 10 2 2)=true:=by kernel_rfl
theorem bB4 (rz:Bool) (num oct:Nat→Nat):isZero (@ba1 (shS 10 3 rz num oct) 26 10 2 3)=true:=by kernel_rfl
theorem bB3 (rz:Bool) (num oct:Nat→Nat):isZero (@ba1 (shS 11 0 rz num oct) 26 11 0 0)=true:=by kernel_rfl
theorem bB0 (rz:Bool) (num oct:Nat→Nat):isZero (@ba1 (shS 11 0 rz num oct) 26 11 1 0)=true:=by kernel_rfl
theorem bAz (rz:Bool) (num oct:Nat→Nat):isZero (@ba1 (shS 11 1 rz num oct) 26 11 2 1)=true:=by kernel_rfl
theorem bAy (rz:Bool) (num oct:Nat→Nat):isZero (@ba1 (shS 11 2 rz num oct) 26 11 2 2)=true:=by kernel_rfl
theorem bAx (rz:Bool) (num oct:Nat→Nat):isZero (@ba1 (shS 11 3 rz num oct) 26 11 2 3)=true:=by kernel_rfl
theorem bAw (rz:Bool) (num oct:Nat→Nat):isZero (@ba1 (shS 12 0 rz num oct) 26 12 0 0)=true:=by kernel_rfl
theorem bAv (rz:Bool) (num oct:Nat→Nat):isZero (@ba1 (shS 12 0 rz num oct) 26 12 1 0)=true:=by kernel_rfl
theorem bAu (rz:Bool) (num oct:Nat→Nat):isZero (@ba1 (shS 12 1 rz num oct) 26 12 2 1)=true:=by kernel_rfl
theorem bAt (rz:Bool) (num oct:Nat→Nat):isZero (@ba1 (shS 12 2 rz num oct) 26 12 2 2)=true:=by kernel_rfl
theorem bAs (rz:Bool) (num oct:Nat→Nat):isZero (@ba1 (shS 12 3 rz num oct) 26 12 2 3)=true:=by kernel_rfl
theorem bY8 {k n f:Nat} (h:(k,n,f)∈shapes) (rz:Bool) (num oct:Nat→Nat):isZero (@ba1 (shS k n rz num oct) 26 k f n)=true:=by
 simp only [shapes,List.mem_cons,Prod.mk.injEq,List.not_mem_nil,or_false] at h
 rcases h with ⟨rfl,rfl,rfl⟩ | ⟨rfl,rfl,rfl⟩ | ⟨rfl,rfl,rfl⟩ | ⟨rfl,rfl,rfl⟩ | ⟨rfl,rfl,rfl⟩ | ⟨rfl,rfl,rfl⟩ | ⟨rfl,rfl,rfl⟩ | ⟨rfl,rfl,rfl⟩ | ⟨rfl,rfl,rfl⟩ | ⟨rfl,rfl,rfl⟩ | ⟨rfl,rfl,rfl⟩ | ⟨rfl,rfl,rfl⟩ | ⟨rfl,rfl,rfl⟩ | ⟨rfl,rfl,rfl⟩ | ⟨rfl,rfl,rfl⟩ | ⟨rfl,rfl,rfl⟩ | ⟨rfl,rfl,rfl⟩ | ⟨rfl,rfl,rfl⟩ | ⟨rfl,rfl,rfl⟩ | ⟨rfl,rfl,rfl⟩ | ⟨rfl,rfl,rfl⟩ | ⟨rfl,rfl,rfl⟩ | ⟨rfl,rfl,rfl⟩ | ⟨rfl,rfl,rfl⟩ | ⟨rfl,rfl,rfl⟩
 ·exact bHq rz num oct
 ·exact bHp rz num oct
 ·exact bHo rz num oct
 ·exact bHn rz num oct
 ·exact bHm rz num oct
 ·exact bHl rz num oct
 ·exact bHk rz num oct
 ·exact bHj rz num oct
 ·exact bHi rz num oct
 ·exact bHh rz num oct
 ·exact bB8 rz num oct
 ·exact bB7 rz num oct
 ·exact bB6 rz num oct
 ·exact bB5 rz num oct
 ·exact bB4 rz num oct
 ·exact bB3 rz num oct
 ·exact bB0 rz num oct
 ·exact bAz rz num oct
 ·exact bAy rz num oct
 ·exact bAx rz num oct
 ·exact bAw rz num oct
 ·exact bAv rz num oct
 ·exact bAu rz num oct
 ·exact bAt rz num oct
 ·exact bAs rz num oct
end V
end Go.CE
