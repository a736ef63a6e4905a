/-
  Seals of deeds; keys in a slice.
-/
import Derived.Test.YtmjblpkbfoipfaaGreatDoorPkWalkc
import Derived.Test.YtmjblpkbfoipfaaGreatDoorPkWalkx
set_option linter.unusedSectionVars false
set_option linter.constructorNameAsVariable false
set_option linter.unusedVariables false
set_option linter.unusedSimpArgs false
namespace Go.Proofs.YtmjblpkbfoipfaaGreatDoor
open Go.RowKit Go.CE.V
set_option maxRecDepth 20000
def keyS (k : K3) (d : Deed) : List UInt8 := (mkAD k d []).key
theorem keyS_len {k : K3} {d : Deed} (hk : k.Ok) (hd : d.Ok) : (keyS k d).length = 32 := by
  have h := AD.key_len (mkAD_ok hk hd (diffS_len _) (diffS_ne (rightS k d)))
  exact h
theorem sealof_deed (salt : Nat) {d : Deed} (hd : d.Ok) {W : World} {kv body : Value} (hT : TabW W) (hk : SlZ 0 W kv 34 32 3 (keys3 salt).cells) (hb : Sl 0 W body 5 d.body) :
    Calls Tryz.prog 19 #[.agg (bRow (keyS (keys3 salt) d)), .agg (d.env salt body).row] W fun e W' => e = .returned (.agg (bRow (rightS (keys3 salt) d))) ∧ Below W.heap.size W W' := by
  by_cases hg : d.sgn salt = rightS (keys3 salt) d
  · have := sealof_calls (mkAD_ok (keys3_ok salt) hd (diffS_len _) (diffS_ne (rightS (keys3 salt) d))) true hT hk hb
    unfold Deed.env
    rw [hg]
    exact this
  · exact sealof_calls (mkAD_ok (keys3_ok salt) hd (d.seal_len salt hd) (fun q => hg q.symm)) false hT hk hb
theorem key_at (salt : Nat) {d : Deed} (hd : d.Ok) {B : Nat} {W : World} {kv : Value} (hk : SlZ B W kv 34 32 3 (keys3 salt).cells) :
    ∃ kb ko kc row, kv = .slice (some ⟨kb, ko, none⟩) 3 kc ∧ obj W kb = some (.cells row 34 (0, 0)) ∧ 3 ≤ kc ∧ ko + d.f * 32 + 32 ≤ row.size ∧ row.extract (ko + d.f * 32) (ko + d.f * 32 + 32) = bRow (keyS (keys3 salt) d) := by
  obtain ⟨b, o, c, row, rfl, _, h2, h3, h4, h5, h6⟩ := hk
  have hl := keyS_len (keys3_ok salt) hd
  have hf := d.f12
  have hle : 3 * 32 ≤ c * 32 := Nat.mul_le_mul_right 32 h4
  refine ⟨b, o, c, row, rfl, h2, h4, by omega, ?_⟩
  have hkc : ∀ j, j < 32 → (keys3 salt).cells[d.f * 32 + j]? = some (B8 ((keyS (keys3 salt) d).getD j 0).toNat) := fun j hj => by
    have l0 := (keys3_ok salt).k0
    have l1 := (keys3_ok salt).k1
    have l2 := (keys3_ok salt).k2
    unfold K3.cells
    rw [List.getElem?_map]
    have : ((keys3 salt).k0 ++ ((keys3 salt).k1 ++ (keys3 salt).k2))[d.f * 32 + j]? = (keyS (keys3 salt) d)[j]? := by
      unfold keyS AD.key
      rcases hf with e | e
      · rw [show (mkAD (keys3 salt) d []).f = 1 from e, e, List.getElem?_append_right (by omega), List.getElem?_append_left (by omega), l0]
        congr 1; omega
      · rw [show (mkAD (keys3 salt) d []).f = 2 from e, e, List.getElem?_append_right (by omega), List.getElem?_append_right (by omega), l0, l1]
        congr 1; omega
    rw [this, List.getElem?_eq_getElem (by omega), List.getD_eq_getElem?_getD, List.getElem?_eq_getElem (by omega)]
    rfl
  apply Array.ext_getElem?
  intro j
  rw [Array.getElem?_extract]
  by_cases hj : j < 32
  · rw [if_pos (by omega), bRow_get _ _ (by omega), show o + d.f * 32 + j = o + (d.f * 32 + j) by omega, h6 _ (by rw [h5]; omega), hkc j hj]
  · rw [if_neg (by omega), Array.getElem?_eq_none (by rw [bRow_size]; omega)]
theorem Env_sealx (e : Env) (hs : e.seal32.length = 32) : e.row.extract 4 36 = bRow e.seal32 := by
  have hl := Env_size e hs
  apply Array.ext_getElem?
  intro j
  rw [Array.getElem?_extract]
  by_cases hj : j < 32
  · rw [if_pos (by omega), ← Array.getElem?_toList, Env_list, ← bRow_list, List.getElem?_append_right (by simp), ← Array.getElem?_toList]
    congr 1
    simp
  · rw [if_neg (by omega), Array.getElem?_eq_none (by rw [bRow_size]; omega)]
structure EInv (W w : World) (salt : Nat) (kv : Value) (A : GB) (T : Nat → List Int) (k bx : Nat) (bc : Array Value) (kb : Nat) (krow : Array Value) (v : Value) (ms : List Int) : Prop where
  inv : GInv W w salt kv A (.pointer (some ⟨A.g, 0, none⟩)) T k
  box : obj w bx = some (.cells bc 40 (0, 0))
  key : obj w kb = some (.cells krow 34 (0, 0))
  mis : HasI w v ms
theorem EInv.below {W w w' : World} {salt : Nat} {kv : Value} {A : GB} {T : Nat → List Int} {k bx : Nat} {bc : Array Value} {kb : Nat} {krow : Array Value} {v : Value} {ms : List Int} (h : EInv W w salt kv A T k bx bc kb krow v ms) (hB : Below w.heap.size w w') : EInv W w' salt kv A T k bx bc kb krow v ms :=
  ⟨h.inv.below hB, keep_below h.box hB (row_lt h.box), keep_below h.key hB (row_lt h.key), h.mis.below hB⟩
theorem take_refused {W w : World} {salt k : Nat} {kv gv body : Value} {G : GB} {T : Nat → List Int} {d : Deed} (hd : d.Ok) (hI : GInv W w salt kv G gv T k) (hb : Sl 0 w body 5 d.body) {c : Int} (hc : (d.astray = true ∧ c = 1) ∨ (d.astray = false ∧ d.good salt = false ∧ c = 8)) :
    Calls Tryz.prog 11 #[gv, kv, .agg (Env.row (d.env salt body))] w fun r w' => r = .returned (.tuple #[.agg zerL.toArray, .int .i64 c]) ∧ Below w.heap.size w w' := by
  obtain ⟨N, hN, hg⟩ := hI.gate
  obtain ⟨kb, ko, kc, krow, rfl, _⟩ := id hI.keys
  rcases hc with ⟨hs, rfl⟩ | ⟨hs, hgo, rfl⟩
  · refine take_arg w G gv T N hg _ 3 kc (d.env salt body) (d.env_seal salt hd body) (.inr ?_)
    show (d.t : Int) ≠ 0
    unfold Deed.t
    rw [if_pos hs]
    have := d.f12
    omega
  · refine take_fail w G gv T N hg _ kc (d.env salt body) (d.env_seal salt hd body) ?_ zerL zerL_len zerL_ones 8 (by decide) fun w0 hB => ?_
    · show (d.t : Int) = 0
      unfold Deed.t
      rw [if_neg (by rw [hs]; decide)]; rfl
    · have := open_deed salt hd (hI.tab.below hB) ((hI.keys.lower (Nat.zero_le _)).below hB) (hb.below hB)
      rw [hgo] at this
      exact this
theorem take_two {W w : World} {salt k : Nat} {kv gv body : Value} {G : GB} {T : Nat → List Int} {d : Deed} (hd : d.Ok) (hI : GInv W w salt kv G gv T k) (ka : Option Addr) (kc : Nat) :
    Calls Tryz.prog 11 #[gv, .slice ka 2 kc, .agg (Env.row (d.env salt body))] w fun r w' => r = .returned (.tuple #[.agg zerL.toArray, .int .i64 1]) ∧ Below w.heap.size w w' := by
  obtain ⟨N, hN, hg⟩ := hI.gate
  exact take_arg w G gv T N hg ka 2 kc (d.env salt body) (d.env_seal salt hd body) (.inl (by decide))
end Go.Proofs.YtmjblpkbfoipfaaGreatDoor
