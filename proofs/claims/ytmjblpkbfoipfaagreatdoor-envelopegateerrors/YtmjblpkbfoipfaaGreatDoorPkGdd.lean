/-
  Deeds that were handed in.
-/
import Derived.Test.YtmjblpkbfoipfaaGreatDoorPkGw
import Derived.WalkKit
import Derived.ProofKit
import Derived.OpenShut
import Derived.Carry
import Derived.Deep.DeepHandedRow
import Derived.Deep.Slices
set_option linter.unusedSectionVars false
set_option linter.constructorNameAsVariable false
set_option linter.unusedVariables false
set_option linter.unusedSimpArgs false
namespace Go.Proofs.YtmjblpkbfoipfaaGreatDoor
open Go.Deep Go.ChangeShapes Go.WideShapes Go.ChangeAt Go.RowKit Go.CE.V
theorem list5 {α : Type} : ∀ {l : List α}, l.length = 5 → ∃ c0 c1 c2 c3 c4, l = [c0, c1, c2, c3, c4]
  | [c0, c1, c2, c3, c4], _ => ⟨c0, c1, c2, c3, c4, rfl⟩
set_option maxRecDepth 100000
theorem cellsDeed : Tryz.prog.cellsOf 40 = 5 := by kernel_rfl
section
variable {H : Type} {enc : TypeId × Value → H} {W : World} {base : Nat} {spare : Nat → Bool} {held : Bool}
theorem nat_of {k : IntKind} {n : Int} (top : Int) (hk : k.min = 0) (ht : k.max = top) (h : (Lit.int k n).wf = true) : ∃ u : Nat, n = (u : Int) ∧ (u : Int) ≤ top := by
  simp only [Lit.wf, hk, ht, Bool.and_eq_true, decide_eq_true_eq] at h
  exact ⟨n.toNat, by omega, by omega⟩
theorem deed_of {fuel : Nat} {cs : List Value} {x : DataW H × List MemPlace} (h : DataW.trod enc Tryz.prog W base spare held fuel 40 cs = some x) : ∃ d : Deed, d.Ok ∧ Value.agg cs.toArray = d.val := by
  obtain ⟨xs, n, _, rfl, hl, hlen, hf⟩ := DataW.trod_struct Tryz.underlying40 h
  rw [cellsDeed] at hl
  obtain ⟨c0, c1, c2, c3, c4, rfl⟩ := list5 hl
  obtain ⟨y0, y1, y2, y3, y4, rfl⟩ := list5 (show xs.length = 5 from hlen)
  have k8 : Tryz.prog.cellsOf 5 = 1 := by kernel_rfl
  have k16 : Tryz.prog.cellsOf 38 = 1 := by kernel_rfl
  have kb : Tryz.prog.cellsOf 4 = 1 := by kernel_rfl
  have q0 : DataW.trod enc Tryz.prog W base spare held n 5 [c0] = some y0 := by
    have q : DataW.trod enc Tryz.prog W base spare held n 5 (([c0, c1, c2, c3, c4].drop 0).take (Tryz.prog.cellsOf 5)) = some y0 := hf 0 _ rfl
    rw [k8] at q
    exact q
  have q1 : DataW.trod enc Tryz.prog W base spare held n 5 [c1] = some y1 := by
    have q : DataW.trod enc Tryz.prog W base spare held n 5 (([c0, c1, c2, c3, c4].drop 1).take (Tryz.prog.cellsOf 5)) = some y1 := hf 1 _ rfl
    rw [k8] at q
    exact q
  have q2 : DataW.trod enc Tryz.prog W base spare held n 38 [c2] = some y2 := by
    have q : DataW.trod enc Tryz.prog W base spare held n 38 (([c0, c1, c2, c3, c4].drop 2).take (Tryz.prog.cellsOf 38)) = some y2 := hf 2 _ rfl
    rw [k16] at q
    exact q
  have q3 : DataW.trod enc Tryz.prog W base spare held n 4 [c3] = some y3 := by
    have q : DataW.trod enc Tryz.prog W base spare held n 4 (([c0, c1, c2, c3, c4].drop 3).take (Tryz.prog.cellsOf 4)) = some y3 := hf 3 _ rfl
    rw [kb] at q
    exact q
  have q4 : DataW.trod enc Tryz.prog W base spare held n 4 [c4] = some y4 := by
    have q : DataW.trod enc Tryz.prog W base spare held n 4 (([c0, c1, c2, c3, c4].drop 4).take (Tryz.prog.cellsOf 4)) = some y4 := hf 4 _ rfl
    rw [kb] at q
    exact q
  obtain ⟨n0, e0, _, w0⟩ := DataW.trod_int Tryz.underlying5 q0
  obtain ⟨n1, e1, _, w1⟩ := DataW.trod_int Tryz.underlying5 q1
  obtain ⟨n2, e2, _, w2⟩ := DataW.trod_int Tryz.underlying38 q2
  obtain ⟨b3, e3, _⟩ := DataW.trod_bool Tryz.underlying4 q3
  obtain ⟨b4, e4, _⟩ := DataW.trod_bool Tryz.underlying4 q4
  obtain ⟨u0, rfl, l0⟩ := nat_of 255 rfl rfl w0
  obtain ⟨u1, rfl, l1⟩ := nat_of 255 rfl rfl w1
  obtain ⟨u2, rfl, l2⟩ := nat_of 65535 rfl rfl w2
  have e0 : [c0] = [.int .u8 u0] := e0
  have e1 : [c1] = [.int .u8 u1] := e1
  have e2 : [c2] = [.int .u16 u2] := e2
  have e3 : [c3] = [.bool b3] := e3
  have e4 : [c4] = [.bool b4] := e4
  cases e0; cases e1; cases e2; cases e3; cases e4
  exact ⟨⟨u0, u1, u2, b3, b4⟩, ⟨by show u0 < 256; omega, by show u1 < 256; omega, by show u2 < 65536; omega⟩, rfl⟩
theorem deeds_of {v : Value} {d : DataW H} {p : List MemPlace} (hv : Value.okWide Tryz.prog W .any base 22 v) (h : DataW.Trod enc Tryz.prog W 0 spare held 22 v d p) : ∃ n ds, DeedsAt W v n ds := by
  obtain ⟨fuel, hf⟩ := h
  obtain ⟨a1, len, cap, rfl⟩ := okWide_slice Tryz.underlying22 hv
  have z : ∀ i, i < 0 → ((fun _ => ⟨0, 0, 0, false, false⟩ : Nat → Deed) i).Ok := fun i hi => absurd hi (Nat.not_lt_zero i)
  rcases open_slice Tryz.underlying22 hf with ⟨hcs, hx⟩ | ⟨a, len', cap', m, n', D, Pl, hcs, hb, hlc, hm, hmm, hx, hel⟩
  · simp [Value.cells] at hcs
    obtain ⟨rfl, rfl, rfl⟩ := hcs
    exact ⟨0, _, _, _, rfl, z, fun q => absurd q (Nat.lt_irrefl 0)⟩
  · simp [Value.cells] at hcs
    obtain ⟨rfl, rfl, rfl⟩ := hcs
    obtain ⟨ab, ao, spot⟩ := a
    have hlm : len ≤ m := by rw [hmm]; split <;> omega
    have hd : ∀ i, ∃ d : Deed, i < len → d.Ok ∧ ∃ cs : List Value, cs.length = 5 ∧ (∀ j, j < 5 → W.cell? ((⟨ab, ao, spot⟩ : Addr).add (i * 5) |>.add j) = cs[j]?) ∧ Value.agg cs.toArray = d.val := fun i => by
      by_cases hi : i < len
      · obtain ⟨cs', c1, c2⟩ := hel i (by omega)
        rw [cellsDeed] at c1
        obtain ⟨_, c3, c4⟩ := World.cells?_some c1
        obtain ⟨d, hdo, hdv⟩ := deed_of c2
        exact ⟨d, fun _ => ⟨hdo, cs', c3, c4, hdv⟩⟩
      · exact ⟨⟨0, 0, 0, false, false⟩, fun q => absurd q hi⟩
    obtain ⟨ds, hds⟩ := Classical.axiomOfChoice hd
    refine ⟨len, ds, some ⟨ab, ao, spot⟩, cap, rfl, fun i hi => (hds i hi).1, fun hn => ?_⟩
    have hcell : ∀ i j, i < len → j < 5 → ∃ u, W.cell? ((⟨ab, ao, spot⟩ : Addr).add (i * 5) |>.add j) = some u := fun i j hi hj => by
      obtain ⟨_, cs, h1, h2, _⟩ := hds i hi
      exact ⟨cs[j], by rw [h2 j hj, List.getElem?_eq_getElem (by omega)]⟩
    have hspot : spot = none := by
      obtain ⟨u, hu⟩ := hcell 0 0 hn (by omega)
      simpa [Addr.add] using World.cell?_spot hu
    subst hspot
    have hrow : ∃ row T fr, obj W ab = some (.cells row T fr) := by
      obtain ⟨u, hu⟩ := hcell 0 0 hn (by omega)
      unfold World.cell? at hu
      show ∃ row T fr, W.heap[ab]? = _
      simp only [Addr.add] at hu
      split at hu
      · rename_i row T fr hq
        exact ⟨row, T, fr, hq⟩
      · cases hu
    obtain ⟨row, T, fr, hob⟩ := hrow
    refine ⟨ab, ao, row, T, fr, rfl, hob, fun i hi => ?_⟩
    obtain ⟨_, cs, h1, h2, h3⟩ := hds i hi
    have h2' : ∀ j, j < 5 → row[ao + i * 5 + j]? = cs[j]? := fun j hj => by
      have := h2 j hj
      rw [Addr.add_lit, Addr.add_lit] at this
      rw [← this, row_cells hob]
    have h4 : ao + i * 5 + 5 ≤ row.size := by
      have := h2' 4 (by omega)
      rw [List.getElem?_eq_getElem (by omega)] at this
      have := (Array.getElem?_eq_some_iff.1 this).1
      omega
    refine ⟨h4, ?_⟩
    rw [← h3]
    congr 1
    apply Array.ext_getElem?
    intro j
    rw [Array.getElem?_extract]
    by_cases hj : j < 5
    · rw [if_pos (by omega), h2' j hj]; simp
    · rw [if_neg (by omega), List.getElem?_toArray, List.getElem?_eq_none (by omega)]
end
end Go.Proofs.YtmjblpkbfoipfaaGreatDoor
