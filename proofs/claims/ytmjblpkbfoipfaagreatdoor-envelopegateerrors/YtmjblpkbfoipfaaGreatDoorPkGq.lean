/-
  An acknowledgement in an envelope, as abstract values; runs over it.
-/
import Derived.Test.YtmjblpkbfoipfaaGreatDoorPkShp
import Derived.KernelRfl
set_option linter.unusedSectionVars false
set_option linter.constructorNameAsVariable false
set_option linter.unusedVariables false
set_option linter.unusedSimpArgs false
namespace Go.CE
namespace V
open Go.Proofs Go.Proofs.YtmjblpkbfoipfaaGreatDoor Go.RowKit
def gXr (f i m : Nat) : Option Nat := match Nat.ble (32 * f) i && Nat.blt i (32 * f + 32) with
  | true => match m with
    | 54 => some (192 + (i - 32 * f))
    | 92 => some (224 + (i - 32 * f))
    | _ => none
  | false => none
def nm (a n : Nat) : List AV := (List.range n).map fun i => .x .u8 (1048576 + (a + i))
def gEq (v w : List AV) : Option Bool := match avL v (nm 96 32) && avL w (nm 128 32) with
  | true => some false
  | false => none
def gLo (s : Nat) : Nat := match Nat.ble 30 s with
  | true => 0
  | false => 1
@[reducible] def gP (f : Nat) (num oct : Nat → Nat) : Y.Pk := { num := num, lo := gLo, hi := fun _ => 1099511627776, oct := oct, ocq := fun _ _ => none, eqg := gEq, xr := gXr f }
@[reducible] def gS (f : Nat) (num oct : Nat → Nat) : Sym := (gP f num oct).sym
def gEnc (f t : Nat) : List AV := [.i .u8 (.ofNat 18), .i .u8 (.ofNat f), .i .u8 (.ofNat t)] ++ (b8 3 ++ zer32)
def le8L (n : Nat) : List AV := [.i .u8 (.ofNat n), b0, b0, b0, b0, b0, b0, b0]
def gMsg (f t : Nat) : List AV := le8L f ++ (le8L t ++ (b8 20 ++ gEnc f t))
def gLetH (f t : Nat) : List AV := [.i .i64 (.ofNat 18), .i .i64 (.ofNat f), .i .i64 (.ofNat t), .x .i64 192, zI, zI, zI, zI, zI, zI, zI, zI,
  zI, .b false, zI, zI, zI, .sl none 0 0, zI, zI, .s [], zI, zI, .sl none 0 0, zI, zI, zI, zI, zI]
def gLet (f t : Nat) : List AV := gLetH f t ++ .sl none 0 0 :: zer32
def zLet : List AV := [zI, zI, zI, zI, zI, zI, zI, zI, zI, zI, zI, zI,
  zI, .b false, zI, zI, zI, .sl none 0 0, zI, zI, .s [], zI, zI, .sl none 0 0, zI, zI, zI, zI, zI, .sl none 0 0] ++ zer32
def gEnv (f t : Nat) (right : Bool) : List AV := [.i .i64 (.ofNat f), .i .i64 (.ofNat t), .x .i64 1280, .sl (some (1027, 0)) 43 43] ++ (match right with
  | true => nm 96 32
  | false => nm 128 32)
def gKt (f t : Nat) (ks b : List AV) : Option (List AV) := match avL ks (nm (32 * f) 32) && avL b (gMsg f t) with
  | true => some (nm 96 32)
  | false => none
def gBlk (a m : Nat) : List AV := nm a 32 ++ List.replicate 32 (.i .u8 (.ofNat m))
def gSt (f t : Nat) (b : List AV) : Option (List AV) := match avL b (gBlk 192 54 ++ gMsg f t) with
  | true => some (nm 160 32)
  | false => match avL b (gBlk 224 92 ++ nm 160 32) with
    | true => some (nm 96 32)
    | false => none
noncomputable def gFm (f t : Nat) : FM := setM (p4 1029) (.cells (treeOf (nm 0 96)) 96 34) (setM (p4 1027) (.cells (treeOf (gEnc f t)) 43 5) (setM (p4 0) (.cells (treeOf (Sha.K.map u32A)) 64 123) .e))
def gByt (j : Nat) : Bool := Nat.ble 1048576 j || (Nat.ble 8 (j % 64) && Nat.blt (j % 64) 16)
section
variable [Sym]
noncomputable def tG (f t : Nat) : LT := .n 89 (eqQ gByt) (eqE gByt) (.n 60 (keyQ2 (gKt f t)) (keyE2 (gKt f t)) (.n 24 (sum2Q (gSt f t)) (sum2E (gSt f t)) tL tL) tL) tL
noncomputable def runG (g f t : Nat) (right : Bool) : Ans := evF P (LT.fq (tG f t)) 4000 g [ofV (.sl (some (1029, 0)) 3 3), ofV (.g (gEnv f t right))] ⟨gFm f t, 1024, 2048, [], []⟩
end
noncomputable def isRow (row : List AV) (e : Nat) (r : Ans) : Bool := match r with
  | some (.t t 2, _) => match getV (p4 0) t, getV (p4 1) t with
    | .g g 62, .i .i64 n => Nat.beq n e && avL (cellsV g 0 62) row
    | _, _ => false
  | _ => false
end V
end Go.CE
namespace Go.CE
namespace V
open Go.Proofs Go.Proofs.YtmjblpkbfoipfaaGreatDoor Go.RowKit
set_option maxRecDepth 100000
theorem gop_12t (num oct : Nat → Nat) : isRow (gLet 1 2) 0 (@runG (gS 1 num oct) 22 1 2 true) = true := by kernel_rfl
theorem gop_12f (num oct : Nat → Nat) : isRow zLet 8 (@runG (gS 1 num oct) 22 1 2 false) = true := by kernel_rfl
theorem gop_21t (num oct : Nat → Nat) : isRow (gLet 2 1) 0 (@runG (gS 2 num oct) 22 2 1 true) = true := by kernel_rfl
theorem gop_21f (num oct : Nat → Nat) : isRow zLet 8 (@runG (gS 2 num oct) 22 2 1 false) = true := by kernel_rfl
theorem gop_10t (num oct : Nat → Nat) : isRow (gLet 1 0) 0 (@runG (gS 1 num oct) 22 1 0 true) = true := by kernel_rfl
theorem gop_10f (num oct : Nat → Nat) : isRow zLet 8 (@runG (gS 1 num oct) 22 1 0 false) = true := by kernel_rfl
theorem gop_20t (num oct : Nat → Nat) : isRow (gLet 2 0) 0 (@runG (gS 2 num oct) 22 2 0 true) = true := by kernel_rfl
theorem gop_20f (num oct : Nat → Nat) : isRow zLet 8 (@runG (gS 2 num oct) 22 2 0 false) = true := by kernel_rfl
theorem gor_12t (num oct : Nat → Nat) : isRow (gLet 1 2) 0 (@runG (gS 1 num oct) 27 1 2 true) = true := by kernel_rfl
theorem gor_12f (num oct : Nat → Nat) : isRow zLet 8 (@runG (gS 1 num oct) 27 1 2 false) = true := by kernel_rfl
theorem gor_21t (num oct : Nat → Nat) : isRow (gLet 2 1) 0 (@runG (gS 2 num oct) 27 2 1 true) = true := by kernel_rfl
theorem gor_21f (num oct : Nat → Nat) : isRow zLet 8 (@runG (gS 2 num oct) 27 2 1 false) = true := by kernel_rfl
theorem gor_10t (num oct : Nat → Nat) : isRow (gLet 1 0) 0 (@runG (gS 1 num oct) 27 1 0 true) = true := by kernel_rfl
theorem gor_10f (num oct : Nat → Nat) : isRow zLet 8 (@runG (gS 1 num oct) 27 1 0 false) = true := by kernel_rfl
theorem gor_20t (num oct : Nat → Nat) : isRow (gLet 2 0) 0 (@runG (gS 2 num oct) 27 2 0 true) = true := by kernel_rfl
theorem gor_20f (num oct : Nat → Nat) : isRow zLet 8 (@runG (gS 2 num oct) 27 2 0 false) = true := by kernel_rfl
def pairs : List (Nat × Nat) := [(1, 2), (2, 1), (1, 0), (2, 0)]
theorem gop_allt {f t : Nat} (h : (f, t) ∈ pairs) (num oct : Nat → Nat) : isRow (gLet f t) 0 (@runG (gS f num oct) 22 f t true) = true := by
  simp only [pairs, List.mem_cons, Prod.mk.injEq, List.not_mem_nil, or_false] at h
  rcases h with ⟨rfl, rfl⟩ | ⟨rfl, rfl⟩ | ⟨rfl, rfl⟩ | ⟨rfl, rfl⟩
  · exact gop_12t num oct
  · exact gop_21t num oct
  · exact gop_10t num oct
  · exact gop_20t num oct
theorem gop_allf {f t : Nat} (h : (f, t) ∈ pairs) (num oct : Nat → Nat) : isRow zLet 8 (@runG (gS f num oct) 22 f t false) = true := by
  simp only [pairs, List.mem_cons, Prod.mk.injEq, List.not_mem_nil, or_false] at h
  rcases h with ⟨rfl, rfl⟩ | ⟨rfl, rfl⟩ | ⟨rfl, rfl⟩ | ⟨rfl, rfl⟩
  · exact gop_12f num oct
  · exact gop_21f num oct
  · exact gop_10f num oct
  · exact gop_20f num oct
theorem gor_allt {f t : Nat} (h : (f, t) ∈ pairs) (num oct : Nat → Nat) : isRow (gLet f t) 0 (@runG (gS f num oct) 27 f t true) = true := by
  simp only [pairs, List.mem_cons, Prod.mk.injEq, List.not_mem_nil, or_false] at h
  rcases h with ⟨rfl, rfl⟩ | ⟨rfl, rfl⟩ | ⟨rfl, rfl⟩ | ⟨rfl, rfl⟩
  · exact gor_12t num oct
  · exact gor_21t num oct
  · exact gor_10t num oct
  · exact gor_20t num oct
theorem gor_allf {f t : Nat} (h : (f, t) ∈ pairs) (num oct : Nat → Nat) : isRow zLet 8 (@runG (gS f num oct) 27 f t false) = true := by
  simp only [pairs, List.mem_cons, Prod.mk.injEq, List.not_mem_nil, or_false] at h
  rcases h with ⟨rfl, rfl⟩ | ⟨rfl, rfl⟩ | ⟨rfl, rfl⟩ | ⟨rfl, rfl⟩
  · exact gor_12f num oct
  · exact gor_21f num oct
  · exact gor_10f num oct
  · exact gor_20f num oct
end V
end Go.CE
