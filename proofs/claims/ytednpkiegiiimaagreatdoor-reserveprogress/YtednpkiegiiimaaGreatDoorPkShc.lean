/-
  letter.Bytes on every shape of a letter, reckoned by the kernel.
-/
import Derived.Test.YtednpkiegiiimaaGreatDoorPkShp
set_option linter.unusedSectionVars false
set_option linter.constructorNameAsVariable false
set_option linter.unusedVariables false
set_option linter.unusedSimpArgs false
namespace Go.CE
namespace V
open Go.Proofs Go.Proofs.YtednpkiegiiimaaGreatDoor Go.RowKit
set_option maxRecDepth 100000
theorem tb_8_1_2 (rz : Bool) (num oct : Nat → Nat) : isBytes (encX 8 1) (@runL (shS 8 1 rz num oct) 59 8 2 1) = true := by kernel_rfl
theorem tb_8_2_2 (rz : Bool) (num oct : Nat → Nat) : isBytes (encX 8 2) (@runL (shS 8 2 rz num oct) 59 8 2 2) = true := by kernel_rfl
theorem tb_8_3_2 (rz : Bool) (num oct : Nat → Nat) : isBytes (encX 8 3) (@runL (shS 8 3 rz num oct) 59 8 2 3) = true := by kernel_rfl
theorem tb_9_1_2 (rz : Bool) (num oct : Nat → Nat) : isBytes (encX 9 1) (@runL (shS 9 1 rz num oct) 59 9 2 1) = true := by kernel_rfl
theorem tb_9_2_2 (rz : Bool) (num oct : Nat → Nat) : isBytes (encX 9 2) (@runL (shS 9 2 rz num oct) 59 9 2 2) = true := by kernel_rfl
theorem tb_9_3_2 (rz : Bool) (num oct : Nat → Nat) : isBytes (encX 9 3) (@runL (shS 9 3 rz num oct) 59 9 2 3) = true := by kernel_rfl
theorem tb_10_1_2 (rz : Bool) (num oct : Nat → Nat) : isBytes (encX 10 1) (@runL (shS 10 1 rz num oct) 59 10 2 1) = true := by kernel_rfl
theorem tb_10_2_2 (rz : Bool) (num oct : Nat → Nat) : isBytes (encX 10 2) (@runL (shS 10 2 rz num oct) 59 10 2 2) = true := by kernel_rfl
theorem tb_10_3_2 (rz : Bool) (num oct : Nat → Nat) : isBytes (encX 10 3) (@runL (shS 10 3 rz num oct) 59 10 2 3) = true := by kernel_rfl
theorem tb_11_1_2 (rz : Bool) (num oct : Nat → Nat) : isBytes (encX 11 1) (@runL (shS 11 1 rz num oct) 59 11 2 1) = true := by kernel_rfl
theorem tb_11_2_2 (rz : Bool) (num oct : Nat → Nat) : isBytes (encX 11 2) (@runL (shS 11 2 rz num oct) 59 11 2 2) = true := by kernel_rfl
theorem tb_11_3_2 (rz : Bool) (num oct : Nat → Nat) : isBytes (encX 11 3) (@runL (shS 11 3 rz num oct) 59 11 2 3) = true := by kernel_rfl
theorem tb_12_1_2 (rz : Bool) (num oct : Nat → Nat) : isBytes (encX 12 1) (@runL (shS 12 1 rz num oct) 59 12 2 1) = true := by kernel_rfl
theorem tb_12_2_2 (rz : Bool) (num oct : Nat → Nat) : isBytes (encX 12 2) (@runL (shS 12 2 rz num oct) 59 12 2 2) = true := by kernel_rfl
theorem tb_12_3_2 (rz : Bool) (num oct : Nat → Nat) : isBytes (encX 12 3) (@runL (shS 12 3 rz num oct) 59 12 2 3) = true := by kernel_rfl
def shapes : List (Nat × Nat × Nat) := [(8, 1, 2), (8, 2, 2), (8, 3, 2), (9, 1, 2), (9, 2, 2), (9, 3, 2), (10, 1, 2), (10, 2, 2), (10, 3, 2), (11, 1, 2), (11, 2, 2), (11, 3, 2), (12, 1, 2), (12, 2, 2), (12, 3, 2)]
theorem tb_all {k n f : Nat} (h : (k, n, f) ∈ shapes) (rz : Bool) (num oct : Nat → Nat) : isBytes (encX k n) (@runL (shS k n rz num oct) 59 k f n) = true := by
  simp only [shapes, List.mem_cons, Prod.mk.injEq, List.not_mem_nil, or_false] at h
  rcases h with ⟨rfl, rfl, rfl⟩ | ⟨rfl, rfl, rfl⟩ | ⟨rfl, rfl, rfl⟩ | ⟨rfl, rfl, rfl⟩ | ⟨rfl, rfl, rfl⟩ | ⟨rfl, rfl, rfl⟩ | ⟨rfl, rfl, rfl⟩ | ⟨rfl, rfl, rfl⟩ | ⟨rfl, rfl, rfl⟩ | ⟨rfl, rfl, rfl⟩ | ⟨rfl, rfl, rfl⟩ | ⟨rfl, rfl, rfl⟩ | ⟨rfl, rfl, rfl⟩ | ⟨rfl, rfl, rfl⟩ | ⟨rfl, rfl, rfl⟩
  · exact tb_8_1_2 rz num oct
  · exact tb_8_2_2 rz num oct
  · exact tb_8_3_2 rz num oct
  · exact tb_9_1_2 rz num oct
  · exact tb_9_2_2 rz num oct
  · exact tb_9_3_2 rz num oct
  · exact tb_10_1_2 rz num oct
  · exact tb_10_2_2 rz num oct
  · exact tb_10_3_2 rz num oct
  · exact tb_11_1_2 rz num oct
  · exact tb_11_2_2 rz num oct
  · exact tb_11_3_2 rz num oct
  · exact tb_12_1_2 rz num oct
  · exact tb_12_2_2 rz num oct
  · exact tb_12_3_2 rz num oct
end V
end Go.CE
namespace Go.CE
namespace V
open Go.Proofs Go.Proofs.YtednpkiegiiimaaGreatDoor Go.RowKit
set_option maxRecDepth 100000
theorem tr_8_1 (rz : Bool) (num oct : Nat → Nat) : isLet 8 1 (@runR (shS 8 1 rz num oct) 94 8 1) = true := by kernel_rfl
theorem tr_8_2 (rz : Bool) (num oct : Nat → Nat) : isLet 8 2 (@runR (shS 8 2 rz num oct) 94 8 2) = true := by kernel_rfl
theorem tr_8_3 (rz : Bool) (num oct : Nat → Nat) : isLet 8 3 (@runR (shS 8 3 rz num oct) 94 8 3) = true := by kernel_rfl
theorem tr_9_1 (rz : Bool) (num oct : Nat → Nat) : isLet 9 1 (@runR (shS 9 1 rz num oct) 94 9 1) = true := by kernel_rfl
theorem tr_9_2 (rz : Bool) (num oct : Nat → Nat) : isLet 9 2 (@runR (shS 9 2 rz num oct) 94 9 2) = true := by kernel_rfl
theorem tr_9_3 (rz : Bool) (num oct : Nat → Nat) : isLet 9 3 (@runR (shS 9 3 rz num oct) 94 9 3) = true := by kernel_rfl
theorem tr_10_1 (rz : Bool) (num oct : Nat → Nat) : isLet 10 1 (@runR (shS 10 1 rz num oct) 94 10 1) = true := by kernel_rfl
theorem tr_10_2 (rz : Bool) (num oct : Nat → Nat) : isLet 10 2 (@runR (shS 10 2 rz num oct) 94 10 2) = true := by kernel_rfl
theorem tr_10_3 (rz : Bool) (num oct : Nat → Nat) : isLet 10 3 (@runR (shS 10 3 rz num oct) 94 10 3) = true := by kernel_rfl
theorem tr_11_1 (rz : Bool) (num oct : Nat → Nat) : isLet 11 1 (@runR (shS 11 1 rz num oct) 94 11 1) = true := by kernel_rfl
theorem tr_11_2 (rz : Bool) (num oct : Nat → Nat) : isLet 11 2 (@runR (shS 11 2 rz num oct) 94 11 2) = true := by kernel_rfl
theorem tr_11_3 (rz : Bool) (num oct : Nat → Nat) : isLet 11 3 (@runR (shS 11 3 rz num oct) 94 11 3) = true := by kernel_rfl
theorem tr_12_1 (rz : Bool) (num oct : Nat → Nat) : isLet 12 1 (@runR (shS 12 1 rz num oct) 94 12 1) = true := by kernel_rfl
theorem tr_12_2 (rz : Bool) (num oct : Nat → Nat) : isLet 12 2 (@runR (shS 12 2 rz num oct) 94 12 2) = true := by kernel_rfl
theorem tr_12_3 (rz : Bool) (num oct : Nat → Nat) : isLet 12 3 (@runR (shS 12 3 rz num oct) 94 12 3) = true := by kernel_rfl
def shapesR : List (Nat × Nat) := [(8, 1), (8, 2), (8, 3), (9, 1), (9, 2), (9, 3), (10, 1), (10, 2), (10, 3), (11, 1), (11, 2), (11, 3), (12, 1), (12, 2), (12, 3)]
theorem tr_all {k n : Nat} (h : (k, n) ∈ shapesR) (rz : Bool) (num oct : Nat → Nat) : isLet k n (@runR (shS k n rz num oct) 94 k n) = true := by
  simp only [shapesR, List.mem_cons, Prod.mk.injEq, List.not_mem_nil, or_false] at h
  rcases h with ⟨rfl, rfl⟩ | ⟨rfl, rfl⟩ | ⟨rfl, rfl⟩ | ⟨rfl, rfl⟩ | ⟨rfl, rfl⟩ | ⟨rfl, rfl⟩ | ⟨rfl, rfl⟩ | ⟨rfl, rfl⟩ | ⟨rfl, rfl⟩ | ⟨rfl, rfl⟩ | ⟨rfl, rfl⟩ | ⟨rfl, rfl⟩ | ⟨rfl, rfl⟩ | ⟨rfl, rfl⟩ | ⟨rfl, rfl⟩
  · exact tr_8_1 rz num oct
  · exact tr_8_2 rz num oct
  · exact tr_8_3 rz num oct
  · exact tr_9_1 rz num oct
  · exact tr_9_2 rz num oct
  · exact tr_9_3 rz num oct
  · exact tr_10_1 rz num oct
  · exact tr_10_2 rz num oct
  · exact tr_10_3 rz num oct
  · exact tr_11_1 rz num oct
  · exact tr_11_2 rz num oct
  · exact tr_11_3 rz num oct
  · exact tr_12_1 rz num oct
  · exact tr_12_2 rz num oct
  · exact tr_12_3 rz num oct
end V
end Go.CE
namespace Go.CE
namespace V
open Go.Proofs Go.Proofs.YtednpkiegiiimaaGreatDoor Go.RowKit
set_option maxRecDepth 100000
noncomputable def isZero (r : Ans) : Bool := match r with
  | some (.i .i64 0, _) => true
  | _ => false
theorem tv_8_1_2 (rz : Bool) (num oct : Nat → Nat) : isZero (@runL (shS 8 1 rz num oct) 13 8 2 1) = true := by kernel_rfl
theorem tv_8_2_2 (rz : Bool) (num oct : Nat → Nat) : isZero (@runL (shS 8 2 rz num oct) 13 8 2 2) = true := by kernel_rfl
theorem tv_8_3_2 (rz : Bool) (num oct : Nat → Nat) : isZero (@runL (shS 8 3 rz num oct) 13 8 2 3) = true := by kernel_rfl
theorem tv_9_1_2 (rz : Bool) (num oct : Nat → Nat) : isZero (@runL (shS 9 1 rz num oct) 13 9 2 1) = true := by kernel_rfl
theorem tv_9_2_2 (rz : Bool) (num oct : Nat → Nat) : isZero (@runL (shS 9 2 rz num oct) 13 9 2 2) = true := by kernel_rfl
theorem tv_9_3_2 (rz : Bool) (num oct : Nat → Nat) : isZero (@runL (shS 9 3 rz num oct) 13 9 2 3) = true := by kernel_rfl
theorem tv_10_1_2 (rz : Bool) (num oct : Nat → Nat) : isZero (@runL (shS 10 1 rz num oct) 13 10 2 1) = true := by kernel_rfl
theorem tv_10_2_2 (rz : Bool) (num oct : Nat → Nat) : isZero (@runL (shS 10 2 rz num oct) 13 10 2 2) = true := by kernel_rfl
theorem tv_10_3_2 (rz : Bool) (num oct : Nat → Nat) : isZero (@runL (shS 10 3 rz num oct) 13 10 2 3) = true := by kernel_rfl
theorem tv_11_1_2 (rz : Bool) (num oct : Nat → Nat) : isZero (@runL (shS 11 1 rz num oct) 13 11 2 1) = true := by kernel_rfl
theorem tv_11_2_2 (rz : Bool) (num oct : Nat → Nat) : isZero (@runL (shS 11 2 rz num oct) 13 11 2 2) = true := by kernel_rfl
theorem tv_11_3_2 (rz : Bool) (num oct : Nat → Nat) : isZero (@runL (shS 11 3 rz num oct) 13 11 2 3) = true := by kernel_rfl
theorem tv_12_1_2 (rz : Bool) (num oct : Nat → Nat) : isZero (@runL (shS 12 1 rz num oct) 13 12 2 1) = true := by kernel_rfl
theorem tv_12_2_2 (rz : Bool) (num oct : Nat → Nat) : isZero (@runL (shS 12 2 rz num oct) 13 12 2 2) = true := by kernel_rfl
theorem tv_12_3_2 (rz : Bool) (num oct : Nat → Nat) : isZero (@runL (shS 12 3 rz num oct) 13 12 2 3) = true := by kernel_rfl
theorem tv_all {k n f : Nat} (h : (k, n, f) ∈ shapes) (rz : Bool) (num oct : Nat → Nat) : isZero (@runL (shS k n rz num oct) 13 k f n) = true := by
  simp only [shapes, List.mem_cons, Prod.mk.injEq, List.not_mem_nil, or_false] at h
  rcases h with ⟨rfl, rfl, rfl⟩ | ⟨rfl, rfl, rfl⟩ | ⟨rfl, rfl, rfl⟩ | ⟨rfl, rfl, rfl⟩ | ⟨rfl, rfl, rfl⟩ | ⟨rfl, rfl, rfl⟩ | ⟨rfl, rfl, rfl⟩ | ⟨rfl, rfl, rfl⟩ | ⟨rfl, rfl, rfl⟩ | ⟨rfl, rfl, rfl⟩ | ⟨rfl, rfl, rfl⟩ | ⟨rfl, rfl, rfl⟩ | ⟨rfl, rfl, rfl⟩ | ⟨rfl, rfl, rfl⟩ | ⟨rfl, rfl, rfl⟩
  · exact tv_8_1_2 rz num oct
  · exact tv_8_2_2 rz num oct
  · exact tv_8_3_2 rz num oct
  · exact tv_9_1_2 rz num oct
  · exact tv_9_2_2 rz num oct
  · exact tv_9_3_2 rz num oct
  · exact tv_10_1_2 rz num oct
  · exact tv_10_2_2 rz num oct
  · exact tv_10_3_2 rz num oct
  · exact tv_11_1_2 rz num oct
  · exact tv_11_2_2 rz num oct
  · exact tv_11_3_2 rz num oct
  · exact tv_12_1_2 rz num oct
  · exact tv_12_2_2 rz num oct
  · exact tv_12_3_2 rz num oct
end V
end Go.CE
