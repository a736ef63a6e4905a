/-
  The walk of the law of the gate's play.
-/
import Derived.Test.YtmjblpkbfoipfaaGreatDoorPkGw
import Derived.Test.YtmjblpkbfoipfaaGreatDoorPkGwr
import Derived.Test.YtmjblpkbfoipfaaGreatDoorPkSan
import Derived.Deep.RegionLaw
set_option linter.unusedSectionVars false
set_option linter.constructorNameAsVariable false
set_option linter.unusedVariables false
set_option linter.unusedSimpArgs false
namespace Go.Proofs.YtmjblpkbfoipfaaGreatDoor
open Go.RowKit Go.CE.V
set_option maxRecDepth 20000
set_option maxHeartbeats 8000000
theorem plays_calls (salt : Nat) (hs : salt < 256) (ds : Nat → Deed) (n : Nat) (lv : Value) (frm : Int) (W : World) (hT : TabW W) (hD : DeedsAt W lv n ds) :
    Calls Tryz.prog 3 #[.int .u8 salt, lv, .int .i64 frm] W fun e w' => e = .returned (.bool true) ∧ Below W.heap.size W w' := by
  have hD0 := hD
  obtain ⟨ao, c, rfl, hok, _⟩ := hD0
  have HD := Lib.hid hD
  have HOK := Lib.hid hok
  clear hD hok
  have hsan := Lib.hid (sanity_calls W hT)
  have HK : Hid (∀ w, Calls Tryz.prog 7 #[.int .i64 3, .int .u8 salt] w fun e w' => ∃ s, e = .returned s ∧ SlZ w.heap.size w' s 34 32 3 (keys3 salt).cells ∧ Below w.heap.size w w') := Lib.hid fun w => by
    have := keys3_calls salt hs w
    unfold keysB at this
    exact this
  have HT := Lib.hid hT
  clear hT
  go_enter Tryz.func3, Tryz.ntmps3
  repeat' (first | (go_at_call 6; ((with_reducible refine (hsan.out).mono ?_)); rintro r w1 ⟨rfl, hb1⟩; dsimp only) | (go_at_call 7; ((with_reducible refine (HK.out _).mono ?_)); rintro r w2 ⟨kv, rfl, hk2, hb2⟩; dsimp only) | (go_at_call 8; ((with_reducible refine (new_calls _).mono ?_)); rintro r w3 ⟨G, gv, rfl, hg3, hf3, hb3⟩; obtain rfl := hg3.v; dsimp only) | (go_at_call 9; ((with_reducible refine (rnew_calls _).mono ?_)); rintro r w4 ⟨R, rgv, rfl, hr4, hrg, hrl, hb4⟩; obtain rfl := hr4.v; dsimp only) | go_skip | go_guarded | go_step | go_upon)
  have hI0 := GInv.start HT.out hb1 hk2 hb2 hg3 hf3 hb3 hb4
  have hRl : W.heap.size ≤ R.lo := by
    have q1 := hb1.size
    have q2 := hb2.size
    have q3 := hb3.size
    omega
  clear hb1 hk2 hb2 hg3 hf3 hb3 hrg hrl
  clear hb4
  go_loopw [12] (fun i wr => ∃ (k : Nat) (T : Nat → List Int), k ≤ n ∧ k ≤ 20 ∧ i = .int .i64 k ∧ GInv W wr salt kv G (.pointer (some ⟨G.g, 0, none⟩)) T k ∧ RGateP wr R (.pointer (some ⟨R.g, 0, none⟩)) T) (fun i _ => (20 - intOf i).toNat)
  case atStart => exact ⟨0, _, Nat.zero_le _, by omega, rfl, hI0, hr4⟩
  case round =>
    clear hI0 hr4
    obtain ⟨k, T, hkn, hk20, rfl, hI, hR⟩ := hrel
    by_cases hk1 : k < n
    · by_cases hk2 : k < 20
      · have i1 : (k : Int) < (n : Int) := by omega
        have i2 : (k : Int) < 20 := by omega
        have hdk := HOK.out k hk1
        have hDw := HD.out.below hI.bel
        obtain ⟨ao', c', hv, _, hrow⟩ := hDw
        cases hv
        obtain ⟨b, off, row, TT, fr, rfl, hob, hrow⟩ := hrow (by omega)
        obtain ⟨q1, q2⟩ := hrow k hk1
        have z1 : (off + k * 5 + 5 ≤ row.size) = True := eq_true q1
        have z2 : row.extract (off + k * 5) (off + k * 5 + 5) = #[.int .u8 (ds k).dF, .int .u8 (ds k).dS, .int .u16 (ds k).far, .bool (ds k).forged, .bool (ds k).astray] := by
          unfold Deed.val at q2
          injection q2
        clear hrow q1 q2
        have HA : Hid (Calls Tryz.prog 10 #[kv, .agg #[.int .u8 (ds k).dF, .int .u8 (ds k).dS, .int .u16 (ds k).far, .bool (ds k).forged, .bool (ds k).astray]] wr fun e W' => ∃ body, e = .returned (.agg (Env.row ((ds k).env salt body))) ∧ Sl wr.heap.size W' body 5 (ds k).body ∧ Below wr.heap.size wr W') := Lib.hid (arrival_deed salt hdk hI.tab (hI.keys.lower (Nat.zero_le _)))
        repeat' (first | (go_at_call 10; ((with_reducible refine (HA.out).mono ?_)); rintro r w5 ⟨body, rfl, hbd, hb5⟩; have hI5 := hI.below hb5; have hR5 := hR.below hb5; have eS := Env_size ((ds k).env salt body) (Deed.env_seal salt hdk body); have eA := Env_all ((ds k).env salt body) (Deed.env_seal salt hdk body); have eO := Env_ones ((ds k).env salt body) (Sl_one hbd); dsimp only) | go_skip | go_guarded | go_step | go_upon)
        have hE6 : obj (w5.alloc (.cells ((ds k).env salt body).row 36 (0, 0))) w5.heap.size = some (.cells ((ds k).env salt body).row 36 (0, 0)) := obj_alloc_at _ _ _ rfl
        have hB6 : Below w5.heap.size w5 (w5.alloc (.cells ((ds k).env salt body).row 36 (0, 0))) := (Below.refl _ _).alloc (Nat.le_refl _) _
        have hI6 := hI5.below hB6
        have hR6 := hR5.below hB6
        have hbd6 := (hbd.lower (Nat.zero_le _)).below hB6
        generalize (w5.alloc (.cells ((ds k).env salt body).row 36 (0, 0))) = w6 at *
        generalize w5.heap.size = eb at *
        clear hI5 hR5 hbd hB6 hb5 hI hR HA hob z1 z2
        obtain ⟨N, hNk, hg6⟩ := hI6.gate
        have hF : (ds k).f < 3 := by have := (ds k).f12; omega
        have HTk := Lib.hid (take_deed hdk hg6 hI6.tab (hI6.keys.lower (Nat.zero_le _)) hbd6 (by omega) (fun i => by have := hI6.most i; omega))
        have oS := out_size salt (T (ds k).f) (ds k)
        have oO := out_ones salt (T (ds k).f) (ds k)
        have oE := extract_all _ 62 oS
        have HSame := Lib.hid (same_out salt (T (ds k).f) hdk)
        have hRt : ∀ w, RGateP w R (.pointer (some ⟨R.g, 0, none⟩)) T → TabW w → SlZ 0 w kv 34 32 3 (keys3 salt).cells → Sl 0 w body 5 (ds k).body → Calls Tryz.prog 12 #[.pointer (some ⟨R.g, 0, none⟩), kv, .agg ((ds k).env salt body).row] w fun r w' => r = .returned (.tuple #[.agg ((ds k).out salt (T (ds k).f)).toArray, .int .i64 ((ds k).code salt (T (ds k).f) : Nat)]) ∧ RGateP w' R (.pointer (some ⟨R.g, 0, none⟩)) ((ds k).next salt T) ∧ BelX w.heap.size (IntB w R.lo) w w' :=
          fun w a1 a2 a3 a4 => rtake_deed hdk a1 a2 a3 a4 (fun i => by have := hI6.len i; omega) (fun i => by have := hI6.most i; omega)
        have HRt := Lib.hid hRt
        clear hRt
        generalize hcode : (((ds k).code salt (T (ds k).f) : Nat) : Int) = code at *
        generalize hLA : ((ds k).out salt (T (ds k).f)).toArray = LA at *
        repeat' (first | (go_at_call 11; ((with_reducible refine (HTk.out).mono ?_)); rintro r w7 ⟨rfl, ⟨N', hN', hg7⟩, hX7⟩; have hI7 := hI6.take hdk hg6 ⟨N', by omega, hg7⟩ hX7; have hR7 := hR6.belRec hX7 (rec_only hg6 hF); have hE7 := belX_cells hE6 hX7 (off_rec hg6 hF) (by decide); have hbd7 := hbd6.belX hX7 (off_rec hg6 hF); have hBA : Below w7.heap.size w7 (w7.alloc (.cells LA 52 (0, 0))) := (Below.refl _ _).alloc (Nat.le_refl _) _; have hI8 := hI7.below hBA; have hR8 := hR7.below hBA; have hbd8 := hbd7.below hBA; have hE8 := keep_alloc hE7 (.cells LA 52 (0, 0)); have hL8 : obj (w7.alloc (.cells LA 52 (0, 0))) w7.heap.size = some (.cells LA 52 (0, 0)) := obj_alloc_at _ _ _ rfl; dsimp only) | go_skip | go_guarded | go_step | go_upon)
        generalize (w7.alloc (.cells LA 52 (0, 0))) = w8 at *
        generalize w7.heap.size = lb at *
        clear hI7 hR7 hbd7 hE7 hBA hX7 hg7 hI6 hR6 hbd6 hE6 HTk hg6
        repeat' (first | (go_at_call 12; ((with_reducible refine (HRt.out _ hR8 hI8.tab (hI8.keys.lower (Nat.zero_le _)) hbd8).mono ?_)); rintro r w9 ⟨rfl, hR9, hX9⟩; have hI9 := hI8.rtake hRl hX9; have hL9 := belX_cells hL8 hX9 (off_int _ _) (by decide); have hL9lt := row_lt hL9; have hBA : Below w9.heap.size w9 (w9.alloc (.cells LA 52 (0, 0))) := (Below.refl _ _).alloc (Nat.le_refl _) _; have hI10 := hI9.below hBA; have hR10 := hR9.below hBA; have hL10 := keep_alloc hL9 (.cells LA 52 (0, 0)); have hM10 : obj (w9.alloc (.cells LA 52 (0, 0))) w9.heap.size = some (.cells LA 52 (0, 0)) := obj_alloc_at _ _ _ rfl; dsimp only) | (go_at_call 13; ((with_reducible refine (HSame.out _).mono ?_)); rintro r w11 ⟨rfl, hb11⟩; have hI11 := hI10.below hb11; have hR11 := hR10.below hb11; dsimp only) | go_skip | go_guarded | go_step | go_upon)
        clear hI10 hR10 hI9 hR9 hX9 hL9 hL9lt hL10 hM10 hb11 hI8 hR8 hbd8 hE8 hL8
        clear HRt HSame oS oO oE eS eA eO
        generalize (ds k).next salt T = T' at *
        go_loopw [18] (fun i wr => ∃ (j : Int), -1 ≤ j ∧ j ≤ 4 ∧ i = .int .i64 j ∧ GInv W wr salt kv G (.pointer (some ⟨G.g, 0, none⟩)) T' (k + 1) ∧ RGateP wr R (.pointer (some ⟨R.g, 0, none⟩)) T') (fun i _ => (4 - intOf i).toNat)
        case atStart => exact ⟨-1, by omega, by omega, rfl, hI11, hR11⟩
        case round =>
          clear hI11 hR11
          obtain ⟨j, hj0, hj4, rfl, hI, hR⟩ := hrel
          by_cases hj : j < 4
          · have hj' : ¬ (4 ≤ j) := by omega
            have hml := msn_len hI j
            repeat' (first | (go_at_call 14; ((with_reducible refine (hI.grt j).mono ?_)); rintro r w12 ⟨rfl, hb12⟩; have hI12 := hI.below hb12; have hR12 := hR.below hb12; dsimp only) | (go_at_call 15; ((with_reducible refine (hI12.rgrt (by omega) hR12 j).mono ?_)); rintro r w13 ⟨rfl, rfl⟩; dsimp only) | (go_at_call 17; ((with_reducible refine (hI12.msn j).mono ?_)); rintro r w14 ⟨v14, rfl, hv14, hb14⟩; have hI14 := hI12.below hb14; have hR14 := hR12.below hb14; dsimp only) | (go_at_call 18; ((with_reducible refine (hI14.rmsn (by omega) hR14 j).mono ?_)); rintro r w15 ⟨v15, rfl, hv15, hb15⟩; have hI15 := hI14.below hb15; have hR15 := hR14.below hb15; have hw15 := hv14.below hb15; dsimp only) | (go_at_call 16; ((with_reducible refine (sameI _ hw15 hv15 hml).mono ?_)); rintro r w16 ⟨rfl, hb16⟩; have hI16 := hI15.below hb16; have hR16 := hR15.below hb16; dsimp only) | go_skip | go_guarded | go_step | go_upon)
            exact ⟨⟨j + 1, by omega, by omega, rfl, hI16, hR16⟩, by show (4 - (j + 1)).toNat < (4 - j).toNat; omega⟩
          · have hj' : ¬ (j < 4) := hj
            repeat' (first | go_skip | go_guarded | go_step | go_upon)
            exact ⟨⟨k + 1, T', by omega, by omega, rfl, hI, hR⟩, by show (20 - ((k : Int) + 1)).toNat < (20 - (k : Int)).toNat; omega⟩
      · have i1 : (k : Int) < (n : Int) := by omega
        have i2 : ¬ ((k : Int) < 20) := by omega
        have hml := msn_len hI frm
        repeat' (first | (go_at_call 14; ((with_reducible refine (hI.grt frm).mono ?_)); rintro r w12 ⟨rfl, hb12⟩; have hI12 := hI.below hb12; have hR12 := hR.below hb12; dsimp only) | (go_at_call 15; ((with_reducible refine (hI12.rgrt (by omega) hR12 frm).mono ?_)); rintro r w13 ⟨rfl, rfl⟩; dsimp only) | (go_at_call 17; ((with_reducible refine (hI12.msn frm).mono ?_)); rintro r w14 ⟨v14, rfl, hv14, hb14⟩; have hI14 := hI12.below hb14; have hR14 := hR12.below hb14; dsimp only) | (go_at_call 18; ((with_reducible refine (hI14.rmsn (by omega) hR14 frm).mono ?_)); rintro r w15 ⟨v15, rfl, hv15, hb15⟩; have hI15 := hI14.below hb15; have hR15 := hR14.below hb15; have hw15 := hv14.below hb15; dsimp only) | (go_at_call 16; ((with_reducible refine (sameI _ hw15 hv15 hml).mono ?_)); rintro r w16 ⟨rfl, hb16⟩; have hI16 := hI15.below hb16; have hR16 := hR15.below hb16; dsimp only) | go_skip | go_guarded | go_step | go_upon)
        go_ret
        exact ⟨rfl, hI16.bel⟩
    · have i1 : ¬ ((k : Int) < (n : Int)) := by omega
      have hml := msn_len hI frm
      repeat' (first | (go_at_call 14; ((with_reducible refine (hI.grt frm).mono ?_)); rintro r w12 ⟨rfl, hb12⟩; have hI12 := hI.below hb12; have hR12 := hR.below hb12; dsimp only) | (go_at_call 15; ((with_reducible refine (hI12.rgrt (by omega) hR12 frm).mono ?_)); rintro r w13 ⟨rfl, rfl⟩; dsimp only) | (go_at_call 17; ((with_reducible refine (hI12.msn frm).mono ?_)); rintro r w14 ⟨v14, rfl, hv14, hb14⟩; have hI14 := hI12.below hb14; have hR14 := hR12.below hb14; dsimp only) | (go_at_call 18; ((with_reducible refine (hI14.rmsn (by omega) hR14 frm).mono ?_)); rintro r w15 ⟨v15, rfl, hv15, hb15⟩; have hI15 := hI14.below hb15; have hR15 := hR14.below hb15; have hw15 := hv14.below hb15; dsimp only) | (go_at_call 16; ((with_reducible refine (sameI _ hw15 hv15 hml).mono ?_)); rintro r w16 ⟨rfl, hb16⟩; have hI16 := hI15.below hb16; have hR16 := hR15.below hb16; dsimp only) | go_skip | go_guarded | go_step | go_upon)
      go_ret
      exact ⟨rfl, hI16.bel⟩
end Go.Proofs.YtmjblpkbfoipfaaGreatDoor
