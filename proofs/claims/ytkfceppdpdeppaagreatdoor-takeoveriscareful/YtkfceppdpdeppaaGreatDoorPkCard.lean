/-
  Letters of another meeting or other owners, to others, with another Ref or state, of servers that are no owners, and forged ones are not taken: the law answers true for every input. Conditions: the package variable digest.rounds holds what the program's text lays (the card ties it).
-/
import Derived.Test.YtkfceppdpdeppaaGreatDoorPkCaseA
import Derived.Test.YtkfceppdpdeppaaGreatDoorPkCaseB
import Derived.Test.YtkfceppdpdeppaaGreatDoorPkCaseC
import Derived.Test.YtkfceppdpdeppaaGreatDoorPkCaseD
import Derived.Test.YtkfceppdpdeppaaGreatDoorPkCaseE
import Derived.Test.YtkfceppdpdeppaaGreatDoorPkCaseF
import Derived.Test.YtkfceppdpdeppaaGreatDoorPkCaseG
import Derived.Test.YtkfceppdpdeppaaGreatDoorPkCaseH
import Derived.Test.YtkfceppdpdeppaaGreatDoorPkCaseI
import Derived.Test.YtkfceppdpdeppaaGreatDoorCards
import Derived.Test.YtkfceppdpdeppaaGreatDoorTie
import Derived.WalkKit
import Derived.ProofKit
import Derived.OpenShut
import Derived.Carry
import Derived.Deep.DeepHandedRow
import Derived.Lib.LaidTab
set_option linter.unusedSectionVars false
set_option linter.constructorNameAsVariable false
set_option linter.unusedVariables false
set_option linter.unusedSimpArgs false
namespace Go.CE.V
open Go.Proofs Go.Proofs.YtkfceppdpdeppaaGreatDoor Go.RowKit
theorem law00 (s p t : Nat) (hs : s < 256) (hp : p < 256) (ha : s % 3 = 0) (hd : t % 3 = 0) (W : World) (h : TabW W) :
    Calls Tryz.prog 3 #[.int .u8 (s : Int), .int .u8 (p : Int), .int .u8 (t : Int)] W fun e w' => e = .returned (.bool true) ∧ Below W.heap.size W w' := by
  have hb : p % 7 = 0 ∨ p % 7 = 1 ∨ p % 7 = 2 ∨ p % 7 = 3 ∨ p % 7 = 4 ∨ p % 7 = 5 ∨ p % 7 = 6 := by omega
  rcases hb with hb | hb | hb | hb | hb | hb | hb
  · exact case_calls s p t 0 0 (p / 7 % 3) 0 hs hp ha hb rfl hd (case000 s p t (p / 7 % 3)) W h
  · exact case_calls s p t 0 1 (p / 7 % 3) 0 hs hp ha hb rfl hd (case010 s p t (p / 7 % 3)) W h
  · exact case_calls s p t 0 2 (p / 7 % 3) 0 hs hp ha hb rfl hd (case020 s p t (p / 7 % 3)) W h
  · exact case_calls s p t 0 3 (p / 7 % 3) 0 hs hp ha hb rfl hd (case030 s p t (p / 7 % 3)) W h
  · exact case_calls s p t 0 4 (p / 7 % 3) 0 hs hp ha hb rfl hd (case040 s p t (p / 7 % 3)) W h
  · have hc : p / 7 % 3 = 0 ∨ p / 7 % 3 = 1 ∨ p / 7 % 3 = 2 := by omega
    rcases hc with hc | hc | hc
    · exact case_calls s p t 0 5 0 0 hs hp ha hb hc hd (case050c0 s p t) W h
    · exact case_calls s p t 0 5 1 0 hs hp ha hb hc hd (case050c1 s p t) W h
    · exact case_calls s p t 0 5 2 0 hs hp ha hb hc hd (case050c2 s p t) W h
  · exact case_calls s p t 0 6 (p / 7 % 3) 0 hs hp ha hb rfl hd (case060 s p t (p / 7 % 3)) W h
theorem law01 (s p t : Nat) (hs : s < 256) (hp : p < 256) (ha : s % 3 = 0) (hd : t % 3 = 1) (W : World) (h : TabW W) :
    Calls Tryz.prog 3 #[.int .u8 (s : Int), .int .u8 (p : Int), .int .u8 (t : Int)] W fun e w' => e = .returned (.bool true) ∧ Below W.heap.size W w' := by
  have hb : p % 7 = 0 ∨ p % 7 = 1 ∨ p % 7 = 2 ∨ p % 7 = 3 ∨ p % 7 = 4 ∨ p % 7 = 5 ∨ p % 7 = 6 := by omega
  rcases hb with hb | hb | hb | hb | hb | hb | hb
  · exact case_calls s p t 0 0 (p / 7 % 3) 1 hs hp ha hb rfl hd (case001 s p t (p / 7 % 3)) W h
  · exact case_calls s p t 0 1 (p / 7 % 3) 1 hs hp ha hb rfl hd (case011 s p t (p / 7 % 3)) W h
  · exact case_calls s p t 0 2 (p / 7 % 3) 1 hs hp ha hb rfl hd (case021 s p t (p / 7 % 3)) W h
  · exact case_calls s p t 0 3 (p / 7 % 3) 1 hs hp ha hb rfl hd (case031 s p t (p / 7 % 3)) W h
  · exact case_calls s p t 0 4 (p / 7 % 3) 1 hs hp ha hb rfl hd (case041 s p t (p / 7 % 3)) W h
  · have hc : p / 7 % 3 = 0 ∨ p / 7 % 3 = 1 ∨ p / 7 % 3 = 2 := by omega
    rcases hc with hc | hc | hc
    · exact case_calls s p t 0 5 0 1 hs hp ha hb hc hd (case051c0 s p t) W h
    · exact case_calls s p t 0 5 1 1 hs hp ha hb hc hd (case051c1 s p t) W h
    · exact case_calls s p t 0 5 2 1 hs hp ha hb hc hd (case051c2 s p t) W h
  · exact case_calls s p t 0 6 (p / 7 % 3) 1 hs hp ha hb rfl hd (case061 s p t (p / 7 % 3)) W h
theorem law02 (s p t : Nat) (hs : s < 256) (hp : p < 256) (ha : s % 3 = 0) (hd : t % 3 = 2) (W : World) (h : TabW W) :
    Calls Tryz.prog 3 #[.int .u8 (s : Int), .int .u8 (p : Int), .int .u8 (t : Int)] W fun e w' => e = .returned (.bool true) ∧ Below W.heap.size W w' := by
  have hb : p % 7 = 0 ∨ p % 7 = 1 ∨ p % 7 = 2 ∨ p % 7 = 3 ∨ p % 7 = 4 ∨ p % 7 = 5 ∨ p % 7 = 6 := by omega
  rcases hb with hb | hb | hb | hb | hb | hb | hb
  · exact case_calls s p t 0 0 (p / 7 % 3) 2 hs hp ha hb rfl hd (case002 s p t (p / 7 % 3)) W h
  · exact case_calls s p t 0 1 (p / 7 % 3) 2 hs hp ha hb rfl hd (case012 s p t (p / 7 % 3)) W h
  · exact case_calls s p t 0 2 (p / 7 % 3) 2 hs hp ha hb rfl hd (case022 s p t (p / 7 % 3)) W h
  · exact case_calls s p t 0 3 (p / 7 % 3) 2 hs hp ha hb rfl hd (case032 s p t (p / 7 % 3)) W h
  · exact case_calls s p t 0 4 (p / 7 % 3) 2 hs hp ha hb rfl hd (case042 s p t (p / 7 % 3)) W h
  · have hc : p / 7 % 3 = 0 ∨ p / 7 % 3 = 1 ∨ p / 7 % 3 = 2 := by omega
    rcases hc with hc | hc | hc
    · exact case_calls s p t 0 5 0 2 hs hp ha hb hc hd (case052c0 s p t) W h
    · exact case_calls s p t 0 5 1 2 hs hp ha hb hc hd (case052c1 s p t) W h
    · exact case_calls s p t 0 5 2 2 hs hp ha hb hc hd (case052c2 s p t) W h
  · exact case_calls s p t 0 6 (p / 7 % 3) 2 hs hp ha hb rfl hd (case062 s p t (p / 7 % 3)) W h
theorem law10 (s p t : Nat) (hs : s < 256) (hp : p < 256) (ha : s % 3 = 1) (hd : t % 3 = 0) (W : World) (h : TabW W) :
    Calls Tryz.prog 3 #[.int .u8 (s : Int), .int .u8 (p : Int), .int .u8 (t : Int)] W fun e w' => e = .returned (.bool true) ∧ Below W.heap.size W w' := by
  have hb : p % 7 = 0 ∨ p % 7 = 1 ∨ p % 7 = 2 ∨ p % 7 = 3 ∨ p % 7 = 4 ∨ p % 7 = 5 ∨ p % 7 = 6 := by omega
  rcases hb with hb | hb | hb | hb | hb | hb | hb
  · exact case_calls s p t 1 0 (p / 7 % 3) 0 hs hp ha hb rfl hd (case100 s p t (p / 7 % 3)) W h
  · exact case_calls s p t 1 1 (p / 7 % 3) 0 hs hp ha hb rfl hd (case110 s p t (p / 7 % 3)) W h
  · exact case_calls s p t 1 2 (p / 7 % 3) 0 hs hp ha hb rfl hd (case120 s p t (p / 7 % 3)) W h
  · exact case_calls s p t 1 3 (p / 7 % 3) 0 hs hp ha hb rfl hd (case130 s p t (p / 7 % 3)) W h
  · exact case_calls s p t 1 4 (p / 7 % 3) 0 hs hp ha hb rfl hd (case140 s p t (p / 7 % 3)) W h
  · have hc : p / 7 % 3 = 0 ∨ p / 7 % 3 = 1 ∨ p / 7 % 3 = 2 := by omega
    rcases hc with hc | hc | hc
    · exact case_calls s p t 1 5 0 0 hs hp ha hb hc hd (case150c0 s p t) W h
    · exact case_calls s p t 1 5 1 0 hs hp ha hb hc hd (case150c1 s p t) W h
    · exact case_calls s p t 1 5 2 0 hs hp ha hb hc hd (case150c2 s p t) W h
  · exact case_calls s p t 1 6 (p / 7 % 3) 0 hs hp ha hb rfl hd (case160 s p t (p / 7 % 3)) W h
theorem law11 (s p t : Nat) (hs : s < 256) (hp : p < 256) (ha : s % 3 = 1) (hd : t % 3 = 1) (W : World) (h : TabW W) :
    Calls Tryz.prog 3 #[.int .u8 (s : Int), .int .u8 (p : Int), .int .u8 (t : Int)] W fun e w' => e = .returned (.bool true) ∧ Below W.heap.size W w' := by
  have hb : p % 7 = 0 ∨ p % 7 = 1 ∨ p % 7 = 2 ∨ p % 7 = 3 ∨ p % 7 = 4 ∨ p % 7 = 5 ∨ p % 7 = 6 := by omega
  rcases hb with hb | hb | hb | hb | hb | hb | hb
  · exact case_calls s p t 1 0 (p / 7 % 3) 1 hs hp ha hb rfl hd (case101 s p t (p / 7 % 3)) W h
  · exact case_calls s p t 1 1 (p / 7 % 3) 1 hs hp ha hb rfl hd (case111 s p t (p / 7 % 3)) W h
  · exact case_calls s p t 1 2 (p / 7 % 3) 1 hs hp ha hb rfl hd (case121 s p t (p / 7 % 3)) W h
  · exact case_calls s p t 1 3 (p / 7 % 3) 1 hs hp ha hb rfl hd (case131 s p t (p / 7 % 3)) W h
  · exact case_calls s p t 1 4 (p / 7 % 3) 1 hs hp ha hb rfl hd (case141 s p t (p / 7 % 3)) W h
  · have hc : p / 7 % 3 = 0 ∨ p / 7 % 3 = 1 ∨ p / 7 % 3 = 2 := by omega
    rcases hc with hc | hc | hc
    · exact case_calls s p t 1 5 0 1 hs hp ha hb hc hd (case151c0 s p t) W h
    · exact case_calls s p t 1 5 1 1 hs hp ha hb hc hd (case151c1 s p t) W h
    · exact case_calls s p t 1 5 2 1 hs hp ha hb hc hd (case151c2 s p t) W h
  · exact case_calls s p t 1 6 (p / 7 % 3) 1 hs hp ha hb rfl hd (case161 s p t (p / 7 % 3)) W h
theorem law12 (s p t : Nat) (hs : s < 256) (hp : p < 256) (ha : s % 3 = 1) (hd : t % 3 = 2) (W : World) (h : TabW W) :
    Calls Tryz.prog 3 #[.int .u8 (s : Int), .int .u8 (p : Int), .int .u8 (t : Int)] W fun e w' => e = .returned (.bool true) ∧ Below W.heap.size W w' := by
  have hb : p % 7 = 0 ∨ p % 7 = 1 ∨ p % 7 = 2 ∨ p % 7 = 3 ∨ p % 7 = 4 ∨ p % 7 = 5 ∨ p % 7 = 6 := by omega
  rcases hb with hb | hb | hb | hb | hb | hb | hb
  · exact case_calls s p t 1 0 (p / 7 % 3) 2 hs hp ha hb rfl hd (case102 s p t (p / 7 % 3)) W h
  · exact case_calls s p t 1 1 (p / 7 % 3) 2 hs hp ha hb rfl hd (case112 s p t (p / 7 % 3)) W h
  · exact case_calls s p t 1 2 (p / 7 % 3) 2 hs hp ha hb rfl hd (case122 s p t (p / 7 % 3)) W h
  · exact case_calls s p t 1 3 (p / 7 % 3) 2 hs hp ha hb rfl hd (case132 s p t (p / 7 % 3)) W h
  · exact case_calls s p t 1 4 (p / 7 % 3) 2 hs hp ha hb rfl hd (case142 s p t (p / 7 % 3)) W h
  · have hc : p / 7 % 3 = 0 ∨ p / 7 % 3 = 1 ∨ p / 7 % 3 = 2 := by omega
    rcases hc with hc | hc | hc
    · exact case_calls s p t 1 5 0 2 hs hp ha hb hc hd (case152c0 s p t) W h
    · exact case_calls s p t 1 5 1 2 hs hp ha hb hc hd (case152c1 s p t) W h
    · exact case_calls s p t 1 5 2 2 hs hp ha hb hc hd (case152c2 s p t) W h
  · exact case_calls s p t 1 6 (p / 7 % 3) 2 hs hp ha hb rfl hd (case162 s p t (p / 7 % 3)) W h
theorem law20 (s p t : Nat) (hs : s < 256) (hp : p < 256) (ha : s % 3 = 2) (hd : t % 3 = 0) (W : World) (h : TabW W) :
    Calls Tryz.prog 3 #[.int .u8 (s : Int), .int .u8 (p : Int), .int .u8 (t : Int)] W fun e w' => e = .returned (.bool true) ∧ Below W.heap.size W w' := by
  have hb : p % 7 = 0 ∨ p % 7 = 1 ∨ p % 7 = 2 ∨ p % 7 = 3 ∨ p % 7 = 4 ∨ p % 7 = 5 ∨ p % 7 = 6 := by omega
  rcases hb with hb | hb | hb | hb | hb | hb | hb
  · exact case_calls s p t 2 0 (p / 7 % 3) 0 hs hp ha hb rfl hd (case200 s p t (p / 7 % 3)) W h
  · exact case_calls s p t 2 1 (p / 7 % 3) 0 hs hp ha hb rfl hd (case210 s p t (p / 7 % 3)) W h
  · exact case_calls s p t 2 2 (p / 7 % 3) 0 hs hp ha hb rfl hd (case220 s p t (p / 7 % 3)) W h
  · exact case_calls s p t 2 3 (p / 7 % 3) 0 hs hp ha hb rfl hd (case230 s p t (p / 7 % 3)) W h
  · exact case_calls s p t 2 4 (p / 7 % 3) 0 hs hp ha hb rfl hd (case240 s p t (p / 7 % 3)) W h
  · have hc : p / 7 % 3 = 0 ∨ p / 7 % 3 = 1 ∨ p / 7 % 3 = 2 := by omega
    rcases hc with hc | hc | hc
    · exact case_calls s p t 2 5 0 0 hs hp ha hb hc hd (case250c0 s p t) W h
    · exact case_calls s p t 2 5 1 0 hs hp ha hb hc hd (case250c1 s p t) W h
    · exact case_calls s p t 2 5 2 0 hs hp ha hb hc hd (case250c2 s p t) W h
  · exact case_calls s p t 2 6 (p / 7 % 3) 0 hs hp ha hb rfl hd (case260 s p t (p / 7 % 3)) W h
theorem law21 (s p t : Nat) (hs : s < 256) (hp : p < 256) (ha : s % 3 = 2) (hd : t % 3 = 1) (W : World) (h : TabW W) :
    Calls Tryz.prog 3 #[.int .u8 (s : Int), .int .u8 (p : Int), .int .u8 (t : Int)] W fun e w' => e = .returned (.bool true) ∧ Below W.heap.size W w' := by
  have hb : p % 7 = 0 ∨ p % 7 = 1 ∨ p % 7 = 2 ∨ p % 7 = 3 ∨ p % 7 = 4 ∨ p % 7 = 5 ∨ p % 7 = 6 := by omega
  rcases hb with hb | hb | hb | hb | hb | hb | hb
  · exact case_calls s p t 2 0 (p / 7 % 3) 1 hs hp ha hb rfl hd (case201 s p t (p / 7 % 3)) W h
  · exact case_calls s p t 2 1 (p / 7 % 3) 1 hs hp ha hb rfl hd (case211 s p t (p / 7 % 3)) W h
  · exact case_calls s p t 2 2 (p / 7 % 3) 1 hs hp ha hb rfl hd (case221 s p t (p / 7 % 3)) W h
  · exact case_calls s p t 2 3 (p / 7 % 3) 1 hs hp ha hb rfl hd (case231 s p t (p / 7 % 3)) W h
  · exact case_calls s p t 2 4 (p / 7 % 3) 1 hs hp ha hb rfl hd (case241 s p t (p / 7 % 3)) W h
  · have hc : p / 7 % 3 = 0 ∨ p / 7 % 3 = 1 ∨ p / 7 % 3 = 2 := by omega
    rcases hc with hc | hc | hc
    · exact case_calls s p t 2 5 0 1 hs hp ha hb hc hd (case251c0 s p t) W h
    · exact case_calls s p t 2 5 1 1 hs hp ha hb hc hd (case251c1 s p t) W h
    · exact case_calls s p t 2 5 2 1 hs hp ha hb hc hd (case251c2 s p t) W h
  · exact case_calls s p t 2 6 (p / 7 % 3) 1 hs hp ha hb rfl hd (case261 s p t (p / 7 % 3)) W h
theorem law22 (s p t : Nat) (hs : s < 256) (hp : p < 256) (ha : s % 3 = 2) (hd : t % 3 = 2) (W : World) (h : TabW W) :
    Calls Tryz.prog 3 #[.int .u8 (s : Int), .int .u8 (p : Int), .int .u8 (t : Int)] W fun e w' => e = .returned (.bool true) ∧ Below W.heap.size W w' := by
  have hb : p % 7 = 0 ∨ p % 7 = 1 ∨ p % 7 = 2 ∨ p % 7 = 3 ∨ p % 7 = 4 ∨ p % 7 = 5 ∨ p % 7 = 6 := by omega
  rcases hb with hb | hb | hb | hb | hb | hb | hb
  · exact case_calls s p t 2 0 (p / 7 % 3) 2 hs hp ha hb rfl hd (case202 s p t (p / 7 % 3)) W h
  · exact case_calls s p t 2 1 (p / 7 % 3) 2 hs hp ha hb rfl hd (case212 s p t (p / 7 % 3)) W h
  · exact case_calls s p t 2 2 (p / 7 % 3) 2 hs hp ha hb rfl hd (case222 s p t (p / 7 % 3)) W h
  · exact case_calls s p t 2 3 (p / 7 % 3) 2 hs hp ha hb rfl hd (case232 s p t (p / 7 % 3)) W h
  · exact case_calls s p t 2 4 (p / 7 % 3) 2 hs hp ha hb rfl hd (case242 s p t (p / 7 % 3)) W h
  · have hc : p / 7 % 3 = 0 ∨ p / 7 % 3 = 1 ∨ p / 7 % 3 = 2 := by omega
    rcases hc with hc | hc | hc
    · exact case_calls s p t 2 5 0 2 hs hp ha hb hc hd (case252c0 s p t) W h
    · exact case_calls s p t 2 5 1 2 hs hp ha hb hc hd (case252c1 s p t) W h
    · exact case_calls s p t 2 5 2 2 hs hp ha hb hc hd (case252c2 s p t) W h
  · exact case_calls s p t 2 6 (p / 7 % 3) 2 hs hp ha hb rfl hd (case262 s p t (p / 7 % 3)) W h
theorem law_all (s p t : Nat) (hs : s < 256) (hp : p < 256) (W : World) (h : TabW W) :
    Calls Tryz.prog 3 #[.int .u8 (s : Int), .int .u8 (p : Int), .int .u8 (t : Int)] W fun e w' => e = .returned (.bool true) ∧ Below W.heap.size W w' := by
  have ha : s % 3 = 0 ∨ s % 3 = 1 ∨ s % 3 = 2 := by omega
  have hd : t % 3 = 0 ∨ t % 3 = 1 ∨ t % 3 = 2 := by omega
  rcases ha with ha | ha | ha <;> rcases hd with hd | hd | hd
  · exact law00 s p t hs hp ha hd W h
  · exact law01 s p t hs hp ha hd W h
  · exact law02 s p t hs hp ha hd W h
  · exact law10 s p t hs hp ha hd W h
  · exact law11 s p t hs hp ha hd W h
  · exact law12 s p t hs hp ha hd W h
  · exact law20 s p t hs hp ha hd W h
  · exact law21 s p t hs hp ha hd W h
  · exact law22 s p t hs hp ha hd W h
end Go.CE.V
namespace Go.Proofs.YtkfceppdpdeppaaGreatDoor.careful
open Go.ChangeShapes Go.WideShapes Go.ChangeAt Go.RowKit

theorem own : ownKnob Tryz.prog.godebug = none := by kernel_rfl
theorem gTab : Tryz.prog.globalNamed "kalends/digest.rounds" = some 0 := by kernel_rfl
theorem gTabType : (Tryz.prog.globals[0]?).map (·.type) = some 138 := by kernel_rfl
theorem cellsTab : Tryz.prog.cellsOf 138 = 64 := by kernel_rfl
theorem cellsU32 : Tryz.prog.cellsOf 117 = 1 := by kernel_rfl
theorem laidOut : laidOutB Tryz.prog = true := by kernel_rfl
def zs : List Int := Sha.K.map fun (n : Nat) => (n : Int)
theorem tab_eq : Rows.laid_kalends_digest_rounds (H := Unit) = Lib.tabData .u32 zs := by kernel_rfl
/-- What the row's list gives: the table's cells. -/
theorem table {W : World} (h : laidMetH Tryz.prog Rows.takeoverIsCarefulRow.laid W) : Lib.TabIs Tryz.prog W "kalends/digest.rounds" .u32 zs := by
  have h2 : laidMetH Tryz.prog [("kalends/digest.rounds", Rows.laid_kalends_digest_rounds)] W := h
  rw [tab_eq] at h2
  exact Lib.tabIs_of_head (rest := []) gTab gTabType Tryz.underlying138 Tryz.underlying117 cellsU32 cellsTab h2
theorem start0 : ((begin Tryz.prog (fun _ _ => 0) default).world.heap[0]?.bind Obj.row?).map (·.2) = some 138 := by kernel_rfl
theorem tabW {W : World} (h : laidMetH Tryz.prog Rows.takeoverIsCarefulRow.laid W) (hs : W.ShapedOpen Tryz.prog) : CE.V.TabW W := by
  obtain ⟨⟨zero, t⟩, hz, ht⟩ := Option.map_eq_some_iff.1 start0
  dsimp only at ht
  subst ht
  obtain ⟨cs, h0, _, _⟩ := hs.1 0 zero _ (of_decide_eq_true (by kernel_rfl)) hz
  have hv : W.var? Tryz.prog "kalends/digest.rounds" = some (zs.map fun z => Value.int .u32 z).toArray := table h
  unfold World.var? at hv
  rw [gTab] at hv
  simp only [Option.bind_some, h0, Option.some.injEq] at hv
  subst hv
  refine ⟨_, h0, rfl, fun i hi => ?_⟩
  have hK : Sha.K.length = 64 := rfl
  simp only [zs, List.getElem?_toArray, List.getElem?_map]
  rw [List.getD_eq_getElem?_getD, List.getElem?_eq_getElem (by omega)]
  rfl
section
variable {H : Type} {enc : TypeId × Value → H} {P : Program}
/-- The row's end, of a call that leaves what was there as it was. -/
theorem post_low {f : Func} {s : ChangeSpec} {apart fresh handsOn again : Bool} {W W' : World} {args : Array Value} {v : Value} {ds gs : List (DataW H)} {before : List MemPlace}
    (hW : DataW.Whole enc P f.params.toList s.vars apart W args.toList ds gs before) (hb : Below W.heap.size W W')
    (hres : ∀ (b : Nat) (sp : Nat → Bool) (hd : Bool), DataW.TrodAll enc P W' b sp hd f.resultTypes.toList (v.resultList f.resultTypes.size) (s.fn H (ds ++ gs)).results [])
    (hargs : ∀ sp : Nat → Bool, (∀ p ∈ before, sp p.block = true) → DataW.TrodAll enc P W' 0 sp true f.params.toList args.toList (s.fn H (ds ++ gs)).args before)
    (hvars : ∀ sp : Nat → Bool, DataW.TrodVars enc P W' sp s.vars (s.fn H (ds ++ gs)).vars [])
    (hok : ∀ (j : Nat) (t : TypeId) (r : Value), f.resultTypes[j]? = some t → (v.resultList f.resultTypes.size)[j]? = some r → Value.okWide P W' .any 0 t r) :
    s.post enc P f apart fresh handsOn again W args v W' := by
  have low : ∀ p ∈ before, p.block < W.heap.size := fun p hp => hW.lt p hp
  have here : ∀ p ∈ before, (fun b => decide (b < W.heap.size)) p.block = true := fun p hp => decide_eq_true (low p hp)
  have all := trodAll_append (hargs (fun _ => true) (fun _ _ => rfl)) (hres 0 (fun _ => true) true)
  refine ⟨ds, gs, before, [], before, [], hW, hres _ _ _, hargs _ here, hvars _, World.keptBut_mono (fun p hp => ⟨hp, .inr (.inl hp)⟩) (hb.frame (· ∈ before)), fun _ => ?_⟩
  obtain ⟨_, _, _, _, _, hz, hn⟩ := hW
  refine ⟨hok, _, _, ([] ++ before) ++ [], ⟨[] ++ before, [], all, hvars _, rfl, fun b off hp => ?_, fun ha => by simpa using hn ha⟩, fun p hp _ => by simpa using hp⟩
  have hin : MemPlace.cell b off ∈ before := by simpa using hp
  exact (hb.frozen (low _ hin)).trans (hz b off hin)
end
set_option maxRecDepth 100000 in
/-- What the walks give, for every argument and every world that holds the table. -/
theorem contract (H : Type) (enc : TypeId × Value → H) (W : World) (base : Nat) (args : Array Value) (ds gs : List (DataW H)) (before : List MemPlace)
    (hval : ∀ (j : Nat) t v, Tryz.f3.params[j]? = some t → args[j]? = some v → Value.okWide Tryz.prog W .any base t v)
    (hW : DataW.Whole enc Tryz.prog Tryz.f3.params.toList Rows.takeoverIsCarefulSpec.vars false W args.toList ds gs before) (hL : laidMetH Tryz.prog Rows.takeoverIsCarefulRow.laid W) (hS : W.ShapedOpen Tryz.prog) :
    Calls Tryz.prog 3 args W fun e W' => ∃ v, e = .returned v ∧ Rows.takeoverIsCarefulSpec.post enc Tryz.prog Tryz.f3 false true false false W args v W' := by
  have hW' := hW
  obtain ⟨p, q, hA0, hV, rfl, hfz, hnd⟩ := hW
  have hA : DataW.TrodAll enc Tryz.prog W 0 (fun _ => true) true Tryz.f3.params.toList args.toList ds p := hA0
  rw [Tryz.params3] at hA hval
  obtain ⟨v0, vs0, d0, ds0, p0, q0, hargs, rfl, rfl, h0, r0⟩ := trodAll_cons hA
  obtain ⟨v1, vs1, d1, ds1, p1, q1, hvs, rfl, rfl, h1, r1⟩ := trodAll_cons r0
  obtain ⟨v2, vs2, d2, ds2, p2, q2, hvs2, rfl, rfl, h2, r2⟩ := trodAll_cons r1
  obtain ⟨rfl, rfl, rfl⟩ := trodAll_nil r2
  subst hvs2
  subst hvs
  obtain rfl : args = #[v0, v1, v2] := by cases args; simp_all
  obtain ⟨rfl, rfl⟩ := trodVars_none hV
  obtain ⟨n0, rfl, rfl, rfl, hw0⟩ := open_int Tryz.underlying5 (hval 0 5 v0 rfl rfl) h0
  obtain ⟨n1, rfl, rfl, rfl, hw1⟩ := open_int Tryz.underlying5 (hval 1 5 v1 rfl rfl) h1
  obtain ⟨n2, rfl, rfl, rfl, hw2⟩ := open_int Tryz.underlying5 (hval 2 5 v2 rfl rfl) h2
  have lim : ∀ n : Int, (Lit.int .u8 n).wf = true → ∃ u : Nat, n = (u : Int) ∧ u < 256 := fun n hn => by
    simp only [Lit.wf, Bool.and_eq_true, decide_eq_true_eq] at hn
    have hn : 0 ≤ n ∧ n ≤ 255 := hn
    exact ⟨n.toNat, by omega, by omega⟩
  obtain ⟨s, rfl, hs⟩ := lim n0 hw0
  obtain ⟨p, rfl, hp⟩ := lim n1 hw1
  obtain ⟨t, rfl, ht⟩ := lim n2 hw2
  clear hA0
  have walk := CE.V.law_all s p t hs hp W (tabW hL hS)
  refine walk.mono fun e W' ⟨he, hg⟩ => ?_
  subst he
  refine ⟨_, rfl, post_low hW' hg (fun _ _ _ => trodAll_cons_mk (shut_bool Tryz.underlying4 _) trodAll_mk0) (fun sp hsp => ?_) (fun _ => rfl) (ok_one (by kernel_rfl) rfl (okWide_bool_mk Tryz.underlying4 _))⟩
  have k := trodAll_cons_mk (shut_int (enc := enc) (w := W') (base := 0) (spare := sp) (held := true) Tryz.underlying5 hw0) (trodAll_cons_mk (shut_int Tryz.underlying5 hw1) (trodAll_cons_mk (shut_int Tryz.underlying5 hw2) trodAll_mk0))
  rw [Tryz.params3]
  show DataW.TrodAll enc Tryz.prog W' 0 sp true [5, 5, 5] [.int .u8 (s : Int), .int .u8 (p : Int), .int .u8 (t : Int)] [.lit (.int .u8 (s : Int)), .lit (.int .u8 (p : Int)), .lit (.int .u8 (t : Int))] _
  simpa using k
/-- A world for the witness. -/
noncomputable def laidWorld (os : Os) : World :=
  { World.holding Tryz.prog os ⟨#[], #[], []⟩ with heap := (World.holding Tryz.prog os ⟨#[], #[], []⟩).heap.modify 0 fun
      | .cells _ t frozen => .cells kRow t frozen
      | o => o }
theorem laid_met (os : Os) : laidMet Tryz.prog Rows.takeoverIsCarefulRow.laid ((laidWorld os).forCall (fun _ _ => 0) ⟨#[], #[.int .u8 0, .int .u8 0, .int .u8 0], []⟩).memory :=
  laidMet_of_run' 8 (by kernel_rfl) (by kernel_rfl)
theorem reads (os : Os) {H : Type} (enc : TypeId × Value → H) : ∃ places, DataW.whole enc Tryz.prog ((laidWorld os).forCall (fun _ _ => 0) ⟨#[], #[.int .u8 0, .int .u8 0, .int .u8 0], []⟩).memory Tryz.f3.params.toList Rows.takeoverIsCarefulSpec.vars false #[Value.int .u8 0, Value.int .u8 0, Value.int .u8 0].toList 8 = some ([.lit (.int .u8 0), .lit (.int .u8 0), .lit (.int .u8 0)], [], places) :=
  ⟨[], by kernel_rfl⟩
set_option maxRecDepth 100000 in
theorem lifted (os : Os) (started : os.Started) (H : Type) (enc : TypeId × Value → H) (F : Stop.Interp) :
    ReturnsInHanded {} Tryz.checked os 3 .any ((OpenSpec.ofChange Rows.takeoverIsCarefulSpec).preRow enc Tryz.prog Tryz.f3 Rows.takeoverIsCarefulRow.domain false Rows.takeoverIsCarefulRow.laid) (((OpenSpec.ofChange Rows.takeoverIsCarefulSpec).at F).post enc Tryz.prog Tryz.f3 false true false false) := by
  obtain ⟨places, hx⟩ := reads os enc
  refine returnsInHanded_of_row (C := Tryz.checked) (s := OpenSpec.ofChange Rows.takeoverIsCarefulSpec) own started (by kernel_rfl) Tryz.func3
    (witness_row_at (enc := enc) (C := Tryz.checked) false (laidWorld os) #[.int .u8 0, .int .u8 0, .int .u8 0] rfl (by kernel_rfl) (by kernel_rfl) (by kernel_rfl)
      (OpenSpec.preRow_of_cond 8 hx (by kernel_rfl) (fun k hk => by cases hk) (by kernel_rfl) (laid_met os))) ?_
  intro W base args ds gs before hval hW _ _ _ hL hS _
  exact contract H enc W base args ds gs before hval hW hL hS
theorem said : Rows.TakeoverIsCarefulSaid :=
  OpenClaim.holds_of_cond 3 Tryz.f3 rfl rfl rfl rfl rfl rfl rfl ⟨rfl, rfl, rfl, rfl, rfl⟩ rfl rfl rfl rfl rfl (by kernel_rfl) Tryz.func3 (by kernel_rfl)
    (of_decide_eq_true (by kernel_rfl)) (by unfold Func.isWrapper; first | (rw [if_pos (by decide +kernel)]; kernel_rfl) | (rw [if_neg (by decide +kernel)]; exact ⟨rfl, rfl⟩))
    (fun os started H enc _ F => by rw [OpenClaim.pre_eq_preRow]; exact lifted os started H enc F)
theorem plain (f : FuncId) (fn : Func) (hf : Tryz.pinned.checked.prog.funcNamed "kalends/kalendslaw30.TakeoverIsCareful" = some f) (hfn : Tryz.pinned.checked.prog.funcs[f]? = some fn) :
    true = Tryz.pinned.checked.prog.looks [] ∧ ∀ (j : Nat) t, fn.params[j]? = some t → Tryz.pinned.checked.prog.wantsStandIn t = false := by
  obtain rfl : f = 3 := Option.some.inj ((show Tryz.prog.funcNamed "kalends/kalendslaw30.TakeoverIsCareful" = some 3 by kernel_rfl).symm.trans hf) |>.symm
  obtain rfl : fn = Tryz.f3 := (Option.some.inj (Tryz.func3.symm.trans hfn)).symm
  refine ⟨by kernel_rfl, fun j t ht => ?_⟩
  rw [Tryz.params3] at ht
  have hm : t ∈ [5, 5, 5] := by simpa using Array.mem_of_getElem? ht
  have hall : ([5, 5, 5].all fun u => !Tryz.prog.wantsStandIn u) = true := by kernel_rfl
  exact (show Tryz.prog.wantsStandIn t = false by simpa using List.all_eq_true.1 hall t hm)
/-- The card. -/
theorem card : Rows.TakeoverIsCarefulCardSaid :=
  Claim7.holds_tied_plain_at .later [] _ _ _ _ said (fun _ h => by cases h) (by kernel_rfl) (fun _ h => by cases h) takeoverIsCareful_row_tie rfl ⟨rfl, rfl⟩ (by kernel_rfl) rfl plain (by kernel_rfl)
end Go.Proofs.YtkfceppdpdeppaaGreatDoor.careful
