/-
  The walk of the law of the gate's order.
-/
import Derived.Test.YtmjblpkbfoipfaaGreatDoorPkWalkc
import Derived.Test.YtmjblpkbfoipfaaGreatDoorPkSan
import Derived.Deep.RegionLaw
set_option linter.unusedSectionVars false
set_option linter.constructorNameAsVariable false
set_option linter.unusedVariables false
set_option linter.unusedSimpArgs false
namespace Go.Proofs.YtmjblpkbfoipfaaGreatDoor
open Go.RowKit Go.CE.V
set_option maxRecDepth 20000
set_option maxHeartbeats 8000000
theorem order_calls (salt : Nat) (hs : salt < 256) (ds : Nat → Deed) (n : Nat) (lv : Value) (t : Nat) (ht : t < 256) (W : World) (hT : TabW W) (hD : DeedsAt W lv n ds) :
    Calls Tryz.prog 4 #[.int .u8 salt, lv, .int .u8 t] W fun e w' => e = .returned (.bool true) ∧ Below W.heap.size W w' := by
  obtain ⟨n0, hn0⟩ : ∃ n0, n0 = min n 12 := ⟨_, rfl⟩
  have hn12 : (n < 12 ∧ n0 = n) ∨ (12 ≤ n ∧ n0 = 12) := by omega
  have hD0 := hD
  obtain ⟨ao, c, rfl, hok, _⟩ := hD0
  have HD := Lib.hid hD
  have HOK := Lib.hid hok
  clear hD hok
  have hsan := Lib.hid (sanity_calls W hT)
  have HK : Hid (∀ w, Calls Tryz.prog 7 #[.int .i64 3, .int .u8 salt] w fun e w' => ∃ s, e = .returned s ∧ SlZ w.heap.size w' s 34 32 3 (keys3 salt).cells ∧ Below w.heap.size w w') := Lib.hid fun w => by
    have := keys3_calls salt hs w
    unfold keysB at this
    exact this
  have HT := Lib.hid hT
  clear hT hn0
  have hmin : (if (12 : Int) < (n : Int) then (12 : Int) else (n : Int)) = (n0 : Int) := by split <;> omega
  have hmin2 : min (n : Int) 12 = (n0 : Int) := by omega
  have hle : n0 ≤ n ∧ n0 ≤ 12 := by omega
  clear hn12
  go_enter Tryz.func4, Tryz.ntmps4
  repeat' (first | (go_at_call 6; ((with_reducible refine (hsan.out).mono ?_)); rintro r w1 ⟨rfl, hb1⟩; dsimp only) | (go_at_call 7; ((with_reducible refine (HK.out _).mono ?_)); rintro r w2 ⟨kv, rfl, hk2, hb2⟩; dsimp only) | (go_at_call 8; have hg3again := hg3; ((with_reducible refine (new_calls _).mono ?_)); rintro r w4 ⟨B, gb, rfl, hg4, hf4, hb4⟩; obtain rfl := hg4.v; dsimp only) | (go_at_call 8; ((with_reducible refine (new_calls _).mono ?_)); rintro r w3 ⟨A, ga, rfl, hg3, hf3, hb3⟩; obtain rfl := hg3.v; dsimp only) | go_skip | go_guarded | go_step | go_upon)
  have hdis : ∀ b, b ∈ A.list → b ∉ B.list := fun b h1 h2 => by
    have q1 := hg3.lt b h1
    have q2 := hf4 b h2
    omega
  have hIA := GInv.start HT.out hb1 hk2 hb2 hg3 hf3 hb3 hb4
  have hIB : GInv W w4 salt kv B (.pointer (some ⟨B.g, 0, none⟩)) (fun _ => []) 0 := { hIA with
    gate := ⟨0, Nat.le_refl _, hg4⟩
    far := fun b hb => by
      have q1 := hb1.size
      have q2 := hb2.size
      have q3 := hb3.size
      have q4 := hf4 b hb
      omega }
  have hfA := hIA.far
  have hfB := hIB.far
  have HDIS := Lib.hid hdis
  have HFA := Lib.hid hfA
  have HFB := Lib.hid hfB
  clear hdis hfA hfB hb1 hk2 hb2 hg3 hf3 hb3 hg3again hg4 hf4 hb4
  go_loopw [14, 15, 16] (fun x y i wr => ∃ (k : Nat) (T U : Nat → List Int), k ≤ n0 ∧ i = .int .i64 k ∧ x = .int .i64 (cnt T : Nat) ∧ y = .int .i64 (cnt U : Nat) ∧ GInv W wr salt kv A (.pointer (some ⟨A.g, 0, none⟩)) T k ∧ GInv W wr salt kv B (.pointer (some ⟨B.g, 0, none⟩)) U (2 * k) ∧ Took T (fun m => (ds m).strip) k ∧ Took U (fun m => (ds ((n0 - 1 - m + t) % n0)).strip) k) (fun _ _ i _ => (12 - intOf i).toNat)
  case atStart => exact ⟨0, _, _, Nat.zero_le _, rfl, rfl, rfl, hIA, hIB, Took.zero _, Took.zero _⟩
  case round =>
    clear hIA hIB
    obtain ⟨k, T, U, hkn, rfl, rfl, rfl, hA, hB, hTk, hUk⟩ := hrel
    have HTk := Lib.hid hTk
    have HUk := Lib.hid hUk
    clear hTk hUk
    by_cases hk1 : k < n0
    · have i1 : (k : Int) < (n0 : Int) := by omega
      obtain ⟨m, hm⟩ : ∃ m, m = (n0 - 1 - k + t) % n0 := ⟨_, rfl⟩
      have hmn : m < n0 := by rw [hm]; exact Nat.mod_lt _ (by omega)
      have hdk := Deed.strip_ok (HOK.out k (by omega))
      have hdm := Deed.strip_ok (HOK.out m (by omega))
      have hDw := HD.out.below hA.bel
      obtain ⟨ao', c', hv, _, hrow⟩ := hDw
      cases hv
      obtain ⟨b, off, row, TT, fr, rfl, hob, hrow⟩ := hrow (by omega)
      obtain ⟨q1, q2⟩ := hrow k (by omega)
      obtain ⟨q3, q4⟩ := hrow m (by omega)
      have z1 : (off + k * 5 + 5 ≤ row.size) = True := eq_true q1
      have z3 : (off + m * 5 + 5 ≤ row.size) = True := eq_true q3
      have z2 : row.extract (off + k * 5) (off + k * 5 + 5) = #[.int .u8 (ds k).dF, .int .u8 (ds k).dS, .int .u16 (ds k).far, .bool (ds k).forged, .bool (ds k).astray] := by
        unfold Deed.val at q2
        injection q2
      have z4 : row.extract (off + m * 5) (off + m * 5 + 5) = #[.int .u8 (ds m).dF, .int .u8 (ds m).dS, .int .u16 (ds m).far, .bool (ds m).forged, .bool (ds m).astray] := by
        unfold Deed.val at q4
        injection q4
      have cA : wr.cell? ⟨b, off + k * 5, none⟩ = some (.int .u8 (ds k).dF) := by
        rw [row_cells hob]
        have := congrArg (fun a : Array Value => a[0]?) z2
        simpa [Array.getElem?_extract, q1, show off + k * 5 < row.size by omega] using this
      have cB : wr.cell? ⟨b, off + k * 5 + 1, none⟩ = some (.int .u8 (ds k).dS) := by
        rw [row_cells hob]
        have := congrArg (fun a : Array Value => a[1]?) z2
        simpa [Array.getElem?_extract, q1, show off + k * 5 + 1 < row.size by omega] using this
      clear hrow q1 q2 q3 q4
      have ik : k < n := by omega
      have im : m < n := by omega
      have hblt := row_lt hob
      repeat' (first | go_skip | go_guarded | go_step | go_upon)
      go_region
      have hD5 : obj (wr.alloc (.cells #[.int .u8 (ds k).dF, .int .u8 (ds k).dS, .int .u16 0, .bool false, .bool false] 40 (0, 0))).drew wr.heap.size = some (.cells #[.int .u8 (ds k).dF, .int .u8 (ds k).dS, .int .u16 0, .bool false, .bool false] 40 (0, 0)) := obj_alloc_at _ _ _ rfl
      have hB5 : Below wr.heap.size wr (wr.alloc (.cells #[.int .u8 (ds k).dF, .int .u8 (ds k).dS, .int .u16 0, .bool false, .bool false] 40 (0, 0))).drew := by
        have := (Below.refl wr.heap.size wr).alloc (Nat.le_refl _) (.cells #[.int .u8 (ds k).dF, .int .u8 (ds k).dS, .int .u16 0, .bool false, .bool false] 40 (0, 0))
        exact ⟨this.os, this.tape, this.output, this.size, this.block⟩
      have hob5 := keep_below hob hB5 hblt
      have hA5 := hA.below hB5
      have hU5 := hB.below hB5
      have hlt5 := row_lt hD5
      clear cA cB hob hblt hA hB z1 z2 hB5
      generalize (wr.alloc (.cells #[.int .u8 (ds k).dF, .int .u8 (ds k).dS, .int .u16 0, .bool false, .bool false] 40 (0, 0))).drew = w5 at *
      generalize wr.heap.size = b17 at *
      have e1 : IntKind.i64.wrap ((n0 : Int) - 1) = (n0 : Int) - 1 := by rw [IntKind.wrap_i64]; omega
      have e2 : IntKind.i64.wrap ((n0 : Int) - 1 - (k : Int)) = (n0 : Int) - 1 - (k : Int) := by rw [IntKind.wrap_i64]; omega
      have e3 : IntKind.i64.wrap (t : Int) = (t : Int) := by rw [IntKind.wrap_i64]; omega
      have e4 : IntKind.i64.wrap ((n0 : Int) - 1 - (k : Int) + (t : Int)) = (n0 : Int) - 1 - (k : Int) + (t : Int) := by rw [IntKind.wrap_i64]; omega
      have e5 : ((n0 : Int) - 1 - (k : Int) + (t : Int)).tmod (n0 : Int) = (m : Int) := by
        have : (n0 : Int) - 1 - (k : Int) + (t : Int) = ((n0 - 1 - k + t : Nat) : Int) := by omega
        rw [this, hm]
        rfl
      have e6 : ((n0 : Int) - 1 - (k : Int) + (t : Int)) % (n0 : Int) = (m : Int) := by
        have : (n0 : Int) - 1 - (k : Int) + (t : Int) = ((n0 - 1 - k + t : Nat) : Int) := by omega
        rw [this, hm]
        rfl
      have nz : ¬ ((n0 : Int) = 0) := by omega
      have nz2 : ((n0 : Int) == 0) = false := beq_eq_false_iff_ne.2 nz
      have HM := Lib.hid hm
      clear hm e5
      repeat' (first | go_skip | go_guarded | go_step | go_upon)
      have hO6 : obj (w5.alloc (.cells #[.int .u8 (ds m).dF, .int .u8 (ds m).dS, .int .u16 (ds m).far, .bool (ds m).forged, .bool (ds m).astray] 40 (0, 0))) w5.heap.size = some (.cells #[.int .u8 (ds m).dF, .int .u8 (ds m).dS, .int .u16 (ds m).far, .bool (ds m).forged, .bool (ds m).astray] 40 (0, 0)) := obj_alloc_at _ _ _ rfl
      have hB6 : Below w5.heap.size w5 (w5.alloc (.cells #[.int .u8 (ds m).dF, .int .u8 (ds m).dS, .int .u16 (ds m).far, .bool (ds m).forged, .bool (ds m).astray] 40 (0, 0))) := (Below.refl _ _).alloc (Nat.le_refl _) _
      have hA6 := hA5.below hB6
      have hU6 := hU5.below hB6
      clear hA5 hU5 hB6 hob5 hD5 z3 z4 hlt5
      generalize (w5.alloc (.cells #[.int .u8 (ds m).dF, .int .u8 (ds m).dS, .int .u16 (ds m).far, .bool (ds m).forged, .bool (ds m).astray] 40 (0, 0))) = w6 at *
      generalize w5.heap.size = b18 at *
      obtain ⟨L1, hL1⟩ : ∃ L, ((ds k).strip.out salt (T (ds k).strip.f)).toArray = L := ⟨_, rfl⟩
      obtain ⟨L2, hL2⟩ : ∃ L, ((ds m).strip.out salt (U (ds m).strip.f)).toArray = L := ⟨_, rfl⟩
      obtain ⟨L3, hL3⟩ : ∃ L, ((ds m).strip.out salt ((ds m).strip.next salt U (ds m).strip.f)).toArray = L := ⟨_, rfl⟩
      have s1 : L1.size = 62 := hL1 ▸ out_size _ _ _
      have s2 : L2.size = 62 := hL2 ▸ out_size _ _ _
      have s3 : L3.size = 62 := hL3 ▸ out_size _ _ _
      have o1 : ones L1 = true := hL1 ▸ out_ones _ _ _
      have o2 : ones L2 = true := hL2 ▸ out_ones _ _ _
      have o3 : ones L3 = true := hL3 ▸ out_ones _ _ _
      have x1 := extract_all _ 62 s1
      have x2 := extract_all _ 62 s2
      have x3 := extract_all _ 62 s3
      have hc3 : (((ds m).strip.code salt ((ds m).strip.next salt U (ds m).strip.f) : Nat) : Int) = 9 := by rw [(next_again rfl).1]; rfl
      have hU'' := (next_again (salt := salt) (T := U) (d := (ds m).strip) rfl).2
      have hcA : (ds k).strip.code salt (T (ds k).strip.f) = 0 ∨ (ds k).strip.code salt (T (ds k).strip.f) = 9 := by
        rw [Deed.strip_code]; split
        · exact .inr rfl
        · exact .inl rfl
      have hcB : (ds m).strip.code salt (U (ds m).strip.f) = 0 ∨ (ds m).strip.code salt (U (ds m).strip.f) = 9 := by
        rw [Deed.strip_code]; split
        · exact .inr rfl
        · exact .inl rfl
      have hnA := next_cnt (salt := salt) (T := T) (d := (ds k).strip)
      have hnB := next_cnt (salt := salt) (T := U) (d := (ds m).strip)
      have HTk' : Took ((ds k).strip.next salt T) (fun m => (ds m).strip) (k + 1) := HTk.out.next rfl
      have HUk' : Took ((ds m).strip.next salt U) (fun m => (ds ((n0 - 1 - m + t) % n0)).strip) (k + 1) := by
        have := HUk.out.next (salt := salt) rfl
        rw [← HM.out] at this
        exact this
      have HX := Lib.hid hL1
      have HY := Lib.hid hL2
      have HZ := Lib.hid hL3
      have HC3 := Lib.hid hc3
      have HU2 := Lib.hid hU''
      have HT1 := Lib.hid HTk'
      have HU1 := Lib.hid HUk'
      clear hL1 hL2 hL3 hc3 hU'' HTk' HUk' HTk HUk
      have HDIS2 : Hid (∀ b, b ∈ B.list → b ∉ A.list) := Lib.hid fun b h1 h2 => HDIS.out b h2 h1
      have wA : IntKind.i64.wrap ((cnt T : Int) + 1) = (cnt T : Int) + 1 := by
        have q1 := hA6.len 1
        have q2 := hA6.len 2
        rw [IntKind.wrap_i64]
        unfold cnt
        omega
      have wB : IntKind.i64.wrap ((cnt U : Int) + 1) = (cnt U : Int) + 1 := by
        have q1 := hU6.len 1
        have q2 := hU6.len 2
        rw [IntKind.wrap_i64]
        unfold cnt
        omega
      rcases hcA with hcA | hcA
      · rcases hcB with hcB | hcB
        · rw [hcA, if_pos rfl] at hnA
          rw [hcB, if_pos rfl] at hnB
          have HCA : Hid ((((ds k).strip.code salt (T (ds k).strip.f) : Nat) : Int) = 0) := Lib.hid (by rw [hcA]; rfl)
          have HCB : Hid ((((ds m).strip.code salt (U (ds m).strip.f) : Nat) : Int) = 0) := Lib.hid (by rw [hcB]; rfl)
          have HNA := Lib.hid hnA
          have HNB := Lib.hid hnB
          clear hcA hcB hnA hnB
          repeat' (first | (go_at_call 10; ((with_reducible refine (arr_strip (ds k) hdk hA6).mono ?_)); rintro r w7 ⟨body, rfl, hbd, hb7⟩; have hA7 := hA6.below hb7; have hU7 := hU6.below hb7; have hO7 := keep_below hO6 hb7 (row_lt hO6); dsimp only) | (go_at_call 11; ((with_reducible refine (take_any hdk hA7 (by omega) (hbd.lower (Nat.zero_le _)) HCA.out HX.out).mono ?_)); rintro r w8 ⟨rfl, hA8, hg8, hX8⟩; have hU8 := hX8.other hg8 hU7 HFA.out HDIS.out; have hO8 := hX8.cells hg8 hO7 (by decide); have hBA : Below w8.heap.size w8 (w8.alloc (.cells L1 52 (0, 0))) := (Below.refl _ _).alloc (Nat.le_refl _) _; have hA9 := hA8.below hBA; have hU9 := hU8.below hBA; have hO9 := keep_alloc hO8 (.cells L1 52 (0, 0)); have c90 := row_cells hO9 0; have c91 := row_cells hO9 1; dsimp only) | go_skip | go_guarded | go_step | go_upon)
          clear hA6 hU6 hO6 hA7 hU7 hO7 hb7 hX8 hg8 hA8 hU8 hO8 hBA
          generalize w8.alloc (.cells L1 52 (0, 0)) = w9 at *
          generalize w8.heap.size = b19 at *
          repeat' (first | (go_at_call 10; ((with_reducible refine (arr_strip (ds m) hdm hU9).mono ?_)); rintro r w10 ⟨body2, rfl, hbd2, hb10⟩; have hA10 := hA9.below hb10; have hU10 := hU9.below hb10; have hO10 := keep_below hO9 hb10 (row_lt hO9); dsimp only) | (go_at_call 11; ((with_reducible refine (take_any hdm hU10 (by omega) (hbd2.lower (Nat.zero_le _)) HCB.out HY.out).mono ?_)); rintro r w11 ⟨rfl, hU11, hg11, hX11⟩; have hA11 := hX11.other hg11 hA10 HFB.out HDIS2.out; have hO11 := hX11.cells hg11 hO10 (by decide); have hBB : Below w11.heap.size w11 (w11.alloc (.cells L2 52 (0, 0))) := (Below.refl _ _).alloc (Nat.le_refl _) _; have hA12 := hA11.below hBB; have hU12 := hU11.below hBB; have hO12 := keep_alloc hO11 (.cells L2 52 (0, 0)); have c20 := row_cells hO12 0; have c21 := row_cells hO12 1; dsimp only) | go_skip | go_guarded | go_step | go_upon)
          clear hA9 hU9 hO9 c90 c91 hA10 hU10 hO10 hb10 hX11 hg11 hA11 hU11 hO11 hBB hbd hbd2
          generalize w11.alloc (.cells L2 52 (0, 0)) = w12 at *
          generalize w11.heap.size = b21 at *
          repeat' (first | (go_at_call 10; ((with_reducible refine (arr_strip (ds m) hdm hU12).mono ?_)); rintro r w13 ⟨body3, rfl, hbd3, hb13⟩; have hA13 := hA12.below hb13; have hU13 := hU12.below hb13; dsimp only) | (go_at_call 11; ((with_reducible refine (take_any hdm hU13 (by omega) (hbd3.lower (Nat.zero_le _)) HC3.out HZ.out).mono ?_)); rintro r w14 ⟨rfl, hU14, hg14, hX14⟩; have hA14 := hX14.other hg14 hA13 HFB.out HDIS2.out; have hBC : Below w14.heap.size w14 (w14.alloc (.cells L3 52 (0, 0))) := (Below.refl _ _).alloc (Nat.le_refl _) _; have hA15 := hA14.below hBC; have hU15 := hU14.below hBC; dsimp only) | go_skip | go_guarded | go_step | go_upon)
          rw [HU2.out] at hU15
          exact ⟨⟨k + 1, _, _, by omega, rfl, by rw [HNA.out]; rfl, by rw [HNB.out]; rfl, hA15, hU15, HT1.out, HU1.out⟩, by show (12 - ((k : Int) + 1)).toNat < (12 - (k : Int)).toNat; omega⟩
        · rw [hcA, if_pos rfl] at hnA
          rw [hcB, if_neg (by decide)] at hnB
          have HCA : Hid ((((ds k).strip.code salt (T (ds k).strip.f) : Nat) : Int) = 0) := Lib.hid (by rw [hcA]; rfl)
          have HCB : Hid ((((ds m).strip.code salt (U (ds m).strip.f) : Nat) : Int) = 9) := Lib.hid (by rw [hcB]; rfl)
          have HNA := Lib.hid hnA
          have HNB := Lib.hid hnB
          clear hcA hcB hnA hnB
          repeat' (first | (go_at_call 10; ((with_reducible refine (arr_strip (ds k) hdk hA6).mono ?_)); rintro r w7 ⟨body, rfl, hbd, hb7⟩; have hA7 := hA6.below hb7; have hU7 := hU6.below hb7; have hO7 := keep_below hO6 hb7 (row_lt hO6); dsimp only) | (go_at_call 11; ((with_reducible refine (take_any hdk hA7 (by omega) (hbd.lower (Nat.zero_le _)) HCA.out HX.out).mono ?_)); rintro r w8 ⟨rfl, hA8, hg8, hX8⟩; have hU8 := hX8.other hg8 hU7 HFA.out HDIS.out; have hO8 := hX8.cells hg8 hO7 (by decide); have hBA : Below w8.heap.size w8 (w8.alloc (.cells L1 52 (0, 0))) := (Below.refl _ _).alloc (Nat.le_refl _) _; have hA9 := hA8.below hBA; have hU9 := hU8.below hBA; have hO9 := keep_alloc hO8 (.cells L1 52 (0, 0)); have c90 := row_cells hO9 0; have c91 := row_cells hO9 1; dsimp only) | go_skip | go_guarded | go_step | go_upon)
          clear hA6 hU6 hO6 hA7 hU7 hO7 hb7 hX8 hg8 hA8 hU8 hO8 hBA
          generalize w8.alloc (.cells L1 52 (0, 0)) = w9 at *
          generalize w8.heap.size = b19 at *
          repeat' (first | (go_at_call 10; ((with_reducible refine (arr_strip (ds m) hdm hU9).mono ?_)); rintro r w10 ⟨body2, rfl, hbd2, hb10⟩; have hA10 := hA9.below hb10; have hU10 := hU9.below hb10; have hO10 := keep_below hO9 hb10 (row_lt hO9); dsimp only) | (go_at_call 11; ((with_reducible refine (take_any hdm hU10 (by omega) (hbd2.lower (Nat.zero_le _)) HCB.out HY.out).mono ?_)); rintro r w11 ⟨rfl, hU11, hg11, hX11⟩; have hA11 := hX11.other hg11 hA10 HFB.out HDIS2.out; have hO11 := hX11.cells hg11 hO10 (by decide); have hBB : Below w11.heap.size w11 (w11.alloc (.cells L2 52 (0, 0))) := (Below.refl _ _).alloc (Nat.le_refl _) _; have hA12 := hA11.below hBB; have hU12 := hU11.below hBB; have hO12 := keep_alloc hO11 (.cells L2 52 (0, 0)); have c20 := row_cells hO12 0; have c21 := row_cells hO12 1; dsimp only) | go_skip | go_guarded | go_step | go_upon)
          clear hA9 hU9 hO9 c90 c91 hA10 hU10 hO10 hb10 hX11 hg11 hA11 hU11 hO11 hBB hbd hbd2
          generalize w11.alloc (.cells L2 52 (0, 0)) = w12 at *
          generalize w11.heap.size = b21 at *
          repeat' (first | (go_at_call 10; ((with_reducible refine (arr_strip (ds m) hdm hU12).mono ?_)); rintro r w13 ⟨body3, rfl, hbd3, hb13⟩; have hA13 := hA12.below hb13; have hU13 := hU12.below hb13; dsimp only) | (go_at_call 11; ((with_reducible refine (take_any hdm hU13 (by omega) (hbd3.lower (Nat.zero_le _)) HC3.out HZ.out).mono ?_)); rintro r w14 ⟨rfl, hU14, hg14, hX14⟩; have hA14 := hX14.other hg14 hA13 HFB.out HDIS2.out; have hBC : Below w14.heap.size w14 (w14.alloc (.cells L3 52 (0, 0))) := (Below.refl _ _).alloc (Nat.le_refl _) _; have hA15 := hA14.below hBC; have hU15 := hU14.below hBC; dsimp only) | go_skip | go_guarded | go_step | go_upon)
          rw [HU2.out] at hU15
          exact ⟨⟨k + 1, _, _, by omega, rfl, by rw [HNA.out]; rfl, by rw [HNB.out]; rfl, hA15, hU15, HT1.out, HU1.out⟩, by show (12 - ((k : Int) + 1)).toNat < (12 - (k : Int)).toNat; omega⟩
      · rcases hcB with hcB | hcB
        · rw [hcA, if_neg (by decide)] at hnA
          rw [hcB, if_pos rfl] at hnB
          have HCA : Hid ((((ds k).strip.code salt (T (ds k).strip.f) : Nat) : Int) = 9) := Lib.hid (by rw [hcA]; rfl)
          have HCB : Hid ((((ds m).strip.code salt (U (ds m).strip.f) : Nat) : Int) = 0) := Lib.hid (by rw [hcB]; rfl)
          have HNA := Lib.hid hnA
          have HNB := Lib.hid hnB
          clear hcA hcB hnA hnB
          repeat' (first | (go_at_call 10; ((with_reducible refine (arr_strip (ds k) hdk hA6).mono ?_)); rintro r w7 ⟨body, rfl, hbd, hb7⟩; have hA7 := hA6.below hb7; have hU7 := hU6.below hb7; have hO7 := keep_below hO6 hb7 (row_lt hO6); dsimp only) | (go_at_call 11; ((with_reducible refine (take_any hdk hA7 (by omega) (hbd.lower (Nat.zero_le _)) HCA.out HX.out).mono ?_)); rintro r w8 ⟨rfl, hA8, hg8, hX8⟩; have hU8 := hX8.other hg8 hU7 HFA.out HDIS.out; have hO8 := hX8.cells hg8 hO7 (by decide); have hBA : Below w8.heap.size w8 (w8.alloc (.cells L1 52 (0, 0))) := (Below.refl _ _).alloc (Nat.le_refl _) _; have hA9 := hA8.below hBA; have hU9 := hU8.below hBA; have hO9 := keep_alloc hO8 (.cells L1 52 (0, 0)); have c90 := row_cells hO9 0; have c91 := row_cells hO9 1; dsimp only) | go_skip | go_guarded | go_step | go_upon)
          clear hA6 hU6 hO6 hA7 hU7 hO7 hb7 hX8 hg8 hA8 hU8 hO8 hBA
          generalize w8.alloc (.cells L1 52 (0, 0)) = w9 at *
          generalize w8.heap.size = b19 at *
          repeat' (first | (go_at_call 10; ((with_reducible refine (arr_strip (ds m) hdm hU9).mono ?_)); rintro r w10 ⟨body2, rfl, hbd2, hb10⟩; have hA10 := hA9.below hb10; have hU10 := hU9.below hb10; have hO10 := keep_below hO9 hb10 (row_lt hO9); dsimp only) | (go_at_call 11; ((with_reducible refine (take_any hdm hU10 (by omega) (hbd2.lower (Nat.zero_le _)) HCB.out HY.out).mono ?_)); rintro r w11 ⟨rfl, hU11, hg11, hX11⟩; have hA11 := hX11.other hg11 hA10 HFB.out HDIS2.out; have hO11 := hX11.cells hg11 hO10 (by decide); have hBB : Below w11.heap.size w11 (w11.alloc (.cells L2 52 (0, 0))) := (Below.refl _ _).alloc (Nat.le_refl _) _; have hA12 := hA11.below hBB; have hU12 := hU11.below hBB; have hO12 := keep_alloc hO11 (.cells L2 52 (0, 0)); have c20 := row_cells hO12 0; have c21 := row_cells hO12 1; dsimp only) | go_skip | go_guarded | go_step | go_upon)
          clear hA9 hU9 hO9 c90 c91 hA10 hU10 hO10 hb10 hX11 hg11 hA11 hU11 hO11 hBB hbd hbd2
          generalize w11.alloc (.cells L2 52 (0, 0)) = w12 at *
          generalize w11.heap.size = b21 at *
          repeat' (first | (go_at_call 10; ((with_reducible refine (arr_strip (ds m) hdm hU12).mono ?_)); rintro r w13 ⟨body3, rfl, hbd3, hb13⟩; have hA13 := hA12.below hb13; have hU13 := hU12.below hb13; dsimp only) | (go_at_call 11; ((with_reducible refine (take_any hdm hU13 (by omega) (hbd3.lower (Nat.zero_le _)) HC3.out HZ.out).mono ?_)); rintro r w14 ⟨rfl, hU14, hg14, hX14⟩; have hA14 := hX14.other hg14 hA13 HFB.out HDIS2.out; have hBC : Below w14.heap.size w14 (w14.alloc (.cells L3 52 (0, 0))) := (Below.refl _ _).alloc (Nat.le_refl _) _; have hA15 := hA14.below hBC; have hU15 := hU14.below hBC; dsimp only) | go_skip | go_guarded | go_step | go_upon)
          rw [HU2.out] at hU15
          exact ⟨⟨k + 1, _, _, by omega, rfl, by rw [HNA.out]; rfl, by rw [HNB.out]; rfl, hA15, hU15, HT1.out, HU1.out⟩, by show (12 - ((k : Int) + 1)).toNat < (12 - (k : Int)).toNat; omega⟩
        · rw [hcA, if_neg (by decide)] at hnA
          rw [hcB, if_neg (by decide)] at hnB
          have HCA : Hid ((((ds k).strip.code salt (T (ds k).strip.f) : Nat) : Int) = 9) := Lib.hid (by rw [hcA]; rfl)
          have HCB : Hid ((((ds m).strip.code salt (U (ds m).strip.f) : Nat) : Int) = 9) := Lib.hid (by rw [hcB]; rfl)
          have HNA := Lib.hid hnA
          have HNB := Lib.hid hnB
          clear hcA hcB hnA hnB
          repeat' (first | (go_at_call 10; ((with_reducible refine (arr_strip (ds k) hdk hA6).mono ?_)); rintro r w7 ⟨body, rfl, hbd, hb7⟩; have hA7 := hA6.below hb7; have hU7 := hU6.below hb7; have hO7 := keep_below hO6 hb7 (row_lt hO6); dsimp only) | (go_at_call 11; ((with_reducible refine (take_any hdk hA7 (by omega) (hbd.lower (Nat.zero_le _)) HCA.out HX.out).mono ?_)); rintro r w8 ⟨rfl, hA8, hg8, hX8⟩; have hU8 := hX8.other hg8 hU7 HFA.out HDIS.out; have hO8 := hX8.cells hg8 hO7 (by decide); have hBA : Below w8.heap.size w8 (w8.alloc (.cells L1 52 (0, 0))) := (Below.refl _ _).alloc (Nat.le_refl _) _; have hA9 := hA8.below hBA; have hU9 := hU8.below hBA; have hO9 := keep_alloc hO8 (.cells L1 52 (0, 0)); have c90 := row_cells hO9 0; have c91 := row_cells hO9 1; dsimp only) | go_skip | go_guarded | go_step | go_upon)
          clear hA6 hU6 hO6 hA7 hU7 hO7 hb7 hX8 hg8 hA8 hU8 hO8 hBA
          generalize w8.alloc (.cells L1 52 (0, 0)) = w9 at *
          generalize w8.heap.size = b19 at *
          repeat' (first | (go_at_call 10; ((with_reducible refine (arr_strip (ds m) hdm hU9).mono ?_)); rintro r w10 ⟨body2, rfl, hbd2, hb10⟩; have hA10 := hA9.below hb10; have hU10 := hU9.below hb10; have hO10 := keep_below hO9 hb10 (row_lt hO9); dsimp only) | (go_at_call 11; ((with_reducible refine (take_any hdm hU10 (by omega) (hbd2.lower (Nat.zero_le _)) HCB.out HY.out).mono ?_)); rintro r w11 ⟨rfl, hU11, hg11, hX11⟩; have hA11 := hX11.other hg11 hA10 HFB.out HDIS2.out; have hO11 := hX11.cells hg11 hO10 (by decide); have hBB : Below w11.heap.size w11 (w11.alloc (.cells L2 52 (0, 0))) := (Below.refl _ _).alloc (Nat.le_refl _) _; have hA12 := hA11.below hBB; have hU12 := hU11.below hBB; have hO12 := keep_alloc hO11 (.cells L2 52 (0, 0)); have c20 := row_cells hO12 0; have c21 := row_cells hO12 1; dsimp only) | go_skip | go_guarded | go_step | go_upon)
          clear hA9 hU9 hO9 c90 c91 hA10 hU10 hO10 hb10 hX11 hg11 hA11 hU11 hO11 hBB hbd hbd2
          generalize w11.alloc (.cells L2 52 (0, 0)) = w12 at *
          generalize w11.heap.size = b21 at *
          repeat' (first | (go_at_call 10; ((with_reducible refine (arr_strip (ds m) hdm hU12).mono ?_)); rintro r w13 ⟨body3, rfl, hbd3, hb13⟩; have hA13 := hA12.below hb13; have hU13 := hU12.below hb13; dsimp only) | (go_at_call 11; ((with_reducible refine (take_any hdm hU13 (by omega) (hbd3.lower (Nat.zero_le _)) HC3.out HZ.out).mono ?_)); rintro r w14 ⟨rfl, hU14, hg14, hX14⟩; have hA14 := hX14.other hg14 hA13 HFB.out HDIS2.out; have hBC : Below w14.heap.size w14 (w14.alloc (.cells L3 52 (0, 0))) := (Below.refl _ _).alloc (Nat.le_refl _) _; have hA15 := hA14.below hBC; have hU15 := hU14.below hBC; dsimp only) | go_skip | go_guarded | go_step | go_upon)
          rw [HU2.out] at hU15
          exact ⟨⟨k + 1, _, _, by omega, rfl, by rw [HNA.out]; rfl, by rw [HNB.out]; rfl, hA15, hU15, HT1.out, HU1.out⟩, by show (12 - ((k : Int) + 1)).toNat < (12 - (k : Int)).toNat; omega⟩
    · have i1 : ¬ ((k : Int) < (n0 : Int)) := by omega
      obtain rfl : k = n0 := by omega
      have hsame : ∀ j x, x ∈ T j ↔ x ∈ U j := took_same HTk.out HUk.out (fun q hq => by
        obtain ⟨r, hr, hr2⟩ := turned_at k t hle.2 q hq
        exact ⟨r, hr, by rw [hr2]⟩) (fun q hq => ⟨(k - 1 - q + t) % k, Nat.mod_lt _ (by omega), rfl⟩)
      have hT1 := took_cnt HTk.out (fun j x hx => (hA.el j x hx).1)
      have hU1 := took_cnt HUk.out (fun j x hx => (hB.el j x hx).1)
      rw [← mostL_eq (hsame 1), ← mostL_eq (hsame 2), ← missN_eq (hsame 1), ← missN_eq (hsame 2)] at hU1
      have hcc : cnt U = cnt T := by omega
      have hg0 := mostL_nonneg (T 1)
      have hg1 := hA.most 1
      have hg2 := mostL_nonneg (T 2)
      have hg3 := hA.most 2
      have hm1 := missN_le (T 1) (mostL (T 1)).toNat
      have hm2 := missN_le (T 2) (mostL (T 2)).toNat
      have HGB : Hid (∀ w, GInv W w salt kv B (.pointer (some ⟨B.g, 0, none⟩)) U (2 * k) → ∀ x : Int, Calls Tryz.prog 14 #[.pointer (some ⟨B.g, 0, none⟩), .int .i64 x] w fun e w' => e = .returned (.int .i64 (grt T x)) ∧ Below w.heap.size w w') := Lib.hid fun w h x => by
        rw [same_grt hsame x]; exact h.grt x
      have HMB : Hid (∀ w, GInv W w salt kv B (.pointer (some ⟨B.g, 0, none⟩)) U (2 * k) → ∀ x : Int, Calls Tryz.prog 17 #[.pointer (some ⟨B.g, 0, none⟩), .int .i64 x] w fun e w' => ∃ v, e = .returned v ∧ HasI w' v (msn T x) ∧ Below w.heap.size w w') := Lib.hid fun w h x => by
        rw [same_msn hsame x]; exact h.msn x
      rw [hcc]
      clear hcc hU1 hsame HTk HUk
      obtain ⟨cT, hcT⟩ : ∃ cT, cnt T = cT := ⟨_, rfl⟩
      rw [hcT] at hT1
      rw [hcT]
      clear hcT
      obtain ⟨g1, hG1⟩ : ∃ g : Int, mostL (T 1) = g := ⟨_, rfl⟩
      obtain ⟨g2, hG2⟩ : ∃ g : Int, mostL (T 2) = g := ⟨_, rfl⟩
      obtain ⟨m1, hM1⟩ : ∃ m : Nat, (missN (T 1) (mostL (T 1)).toNat).length = m := ⟨_, rfl⟩
      obtain ⟨m2, hM2⟩ : ∃ m : Nat, (missN (T 2) (mostL (T 2)).toNat).length = m := ⟨_, rfl⟩
      have HG1 : Hid (∀ w, GInv W w salt kv A (.pointer (some ⟨A.g, 0, none⟩)) T k → Calls Tryz.prog 14 #[.pointer (some ⟨A.g, 0, none⟩), .int .i64 1] w fun e w' => e = .returned (.int .i64 g1) ∧ Below w.heap.size w w') := Lib.hid fun w h => by
        rw [← hG1]; exact h.grt 1
      have HG2 : Hid (∀ w, GInv W w salt kv A (.pointer (some ⟨A.g, 0, none⟩)) T k → Calls Tryz.prog 14 #[.pointer (some ⟨A.g, 0, none⟩), .int .i64 2] w fun e w' => e = .returned (.int .i64 g2) ∧ Below w.heap.size w w') := Lib.hid fun w h => by
        rw [← hG2]; exact h.grt 2
      have HM1 : Hid (∀ w, GInv W w salt kv A (.pointer (some ⟨A.g, 0, none⟩)) T k → Calls Tryz.prog 17 #[.pointer (some ⟨A.g, 0, none⟩), .int .i64 1] w fun e w' => ∃ ao c, e = .returned (.slice ao m1 c) ∧ Below w.heap.size w w') := Lib.hid fun w h => (h.msn 1).mono fun e w' hp => by
        obtain ⟨v, rfl, ⟨ao, c, rfl, _⟩, hb⟩ := hp
        exact ⟨ao, c, by rw [← hM1]; rfl, hb⟩
      have HM2 : Hid (∀ w, GInv W w salt kv A (.pointer (some ⟨A.g, 0, none⟩)) T k → Calls Tryz.prog 17 #[.pointer (some ⟨A.g, 0, none⟩), .int .i64 2] w fun e w' => ∃ ao c, e = .returned (.slice ao m2 c) ∧ Below w.heap.size w w') := Lib.hid fun w h => (h.msn 2).mono fun e w' hp => by
        obtain ⟨v, rfl, ⟨ao, c, rfl, _⟩, hb⟩ := hp
        exact ⟨ao, c, by rw [← hM2]; rfl, hb⟩
      rw [hM1] at hm1 hT1
      rw [hM2] at hm2 hT1
      rw [hG1] at hT1 hg0 hg1 hm1
      rw [hG2] at hT1 hg2 hg3 hm2
      clear hG1 hG2 hM1 hM2
      have v1 : IntKind.i64.wrap (g1 - (m1 : Int)) = g1 - (m1 : Int) := by rw [IntKind.wrap_i64]; omega
      have v2 : IntKind.i64.wrap (g1 - (m1 : Int) + g2) = g1 - (m1 : Int) + g2 := by rw [IntKind.wrap_i64]; omega
      have v3 : IntKind.i64.wrap (cT : Int) = (cT : Int) := by rw [IntKind.wrap_i64]; omega
      have v4 : g1 - (m1 : Int) + g2 - (m2 : Int) = (cT : Int) := by omega
      have V := Lib.hid (And.intro v1 (And.intro v2 (And.intro v3 v4)))
      clear v1 v2 v3 v4 hT1 hg0 hg1 hg2 hg3 hm1 hm2
      repeat' (first | go_skip | go_guarded | go_step | go_upon)
      go_loopw [25] (fun i wr => ∃ (j : Int), 1 ≤ j ∧ j ≤ 3 ∧ i = .int .i64 j ∧ GInv W wr salt kv A (.pointer (some ⟨A.g, 0, none⟩)) T k ∧ GInv W wr salt kv B (.pointer (some ⟨B.g, 0, none⟩)) U (2 * k)) (fun i _ => (3 - intOf i).toNat)
      case atStart => exact ⟨1, by omega, by omega, rfl, hA, hB⟩
      case round =>
        clear hA hB
        obtain ⟨j, hj0, hj3, rfl, hA, hB⟩ := hrel
        by_cases hj : j < 3
        · have hml := msn_len hA j
          repeat' (first | (go_at_call 14; ((with_reducible refine (hA.grt j).mono ?_)); rintro r w20 ⟨rfl, hb20⟩; have hA20 := hA.below hb20; have hB20 := hB.below hb20; dsimp only) | (go_at_call 14; ((with_reducible refine (HGB.out _ hB20 j).mono ?_)); rintro r w21 ⟨rfl, hb21⟩; have hA21 := hA20.below hb21; have hB21 := hB20.below hb21; dsimp only) | (go_at_call 17; ((with_reducible refine (hA21.msn j).mono ?_)); rintro r w22 ⟨v22, rfl, hv22, hb22⟩; have hA22 := hA21.below hb22; have hB22 := hB21.below hb22; dsimp only) | (go_at_call 17; ((with_reducible refine (HMB.out _ hB22 j).mono ?_)); rintro r w23 ⟨v23, rfl, hv23, hb23⟩; have hA23 := hA22.below hb23; have hB23 := hB22.below hb23; have hw23 := hv22.below hb23; dsimp only) | (go_at_call 16; ((with_reducible refine (sameI _ hw23 hv23 hml).mono ?_)); rintro r w24 ⟨rfl, hb24⟩; have hA24 := hA23.below hb24; have hB24 := hB23.below hb24; dsimp only) | go_skip | go_guarded | go_step | go_upon)
          exact ⟨⟨j + 1, by omega, by omega, rfl, hA24, hB24⟩, by show (3 - (j + 1)).toNat < (3 - j).toNat; omega⟩
        · obtain ⟨v1, v2, v3, v4⟩ := V.out
          repeat' (first | (go_at_call 14; ((with_reducible refine (HG1.out _ hA).mono ?_)); rintro r w20 ⟨rfl, hb20⟩; have hA20 := hA.below hb20; dsimp only) | (go_at_call 17; ((with_reducible refine (HM1.out _ hA20).mono ?_)); rintro r w21 ⟨a21, c21, rfl, hb21⟩; have hA21 := hA20.below hb21; dsimp only) | (go_at_call 14; ((with_reducible refine (HG2.out _ hA21).mono ?_)); rintro r w22 ⟨rfl, hb22⟩; have hA22 := hA21.below hb22; dsimp only) | (go_at_call 17; ((with_reducible refine (HM2.out _ hA22).mono ?_)); rintro r w23 ⟨a23, c23, rfl, hb23⟩; have hA23 := hA22.below hb23; dsimp only) | go_skip | go_guarded | go_step | go_upon)
          go_ret
          exact ⟨rfl, hA23.bel⟩
end Go.Proofs.YtmjblpkbfoipfaaGreatDoor
