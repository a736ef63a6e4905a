/-
  The walk of the law of the gate's errors.
-/
import Derived.Test.YtmjblpkbfoipfaaGreatDoorPkWalkd
import Derived.Test.YtmjblpkbfoipfaaGreatDoorPkSan
import Derived.Deep.RegionLaw
set_option linter.unusedSectionVars false
set_option linter.constructorNameAsVariable false
set_option linter.unusedVariables false
set_option linter.unusedSimpArgs false
namespace Go.Proofs.YtmjblpkbfoipfaaGreatDoor
open Go.RowKit Go.CE.V
set_option maxRecDepth 20000
set_option maxHeartbeats 8000000
theorem errors_C (salt : Nat) (hs : salt < 256) (ds : Nat → Deed) (n : Nat) (lv : Value) (dF dS far : Nat) (forged : Bool) (hd : (⟨dF, dS, far, forged, false⟩ : Deed).Ok) (hgood : Deed.good salt ⟨dF, dS, far, true, false⟩ = false) (W : World) (hT : TabW W) (hD : DeedsAt W lv n ds) :
    Calls Tryz.prog 5 #[.int .u8 salt, lv, .agg #[.int .u8 dF, .int .u8 dS, .int .u16 far, .bool forged, .bool false]] W fun e w' => e = .returned (.bool true) ∧ Below W.heap.size W w' := by
  have HGOOD := Lib.hid hgood
  clear hgood
  have hD0 := hD
  obtain ⟨ao, c, rfl, hok, _⟩ := hD0
  have HD := Lib.hid hD
  have HOK := Lib.hid hok
  have HDO := Lib.hid hd
  clear hD hok
  have hsan := Lib.hid (sanity_calls W hT)
  have HK : Hid (∀ w, Calls Tryz.prog 7 #[.int .i64 3, .int .u8 salt] w fun e w' => ∃ s, e = .returned s ∧ SlZ w.heap.size w' s 34 32 3 (keys3 salt).cells ∧ Below w.heap.size w w') := Lib.hid fun w => by
    have := keys3_calls salt hs w
    unfold keysB at this
    exact this
  have HT := Lib.hid hT
  have hb00 : Below W.heap.size W (W.alloc (.cells #[.int .u8 dF, .int .u8 dS, .int .u16 far, .bool forged, .bool false] 40 (0, 0))) := (Below.refl _ _).alloc (Nat.le_refl _) _
  have hbx : obj (W.alloc (.cells #[.int .u8 dF, .int .u8 dS, .int .u16 far, .bool forged, .bool false] 40 (0, 0))) W.heap.size = some (.cells #[.int .u8 dF, .int .u8 dS, .int .u16 far, .bool forged, .bool false] 40 (0, 0)) := obj_alloc_at _ _ _ rfl
  have HS0 : Hid (∀ w, Below W.heap.size W w → Calls Tryz.prog 6 #[] w fun e w' => e = .returned (.bool true) ∧ Below w.heap.size w w') := Lib.hid fun w hB => sanity_calls w (hT.below hB)
  clear hT hsan
  go_enter Tryz.func5, Tryz.ntmps5
  repeat' ((fail_if_success (with_reducible refine Go.wp_block ?_)); (first | (go_at_call 6; ((with_reducible refine (HS0.out _ hb00).mono ?_)); rintro r w1 ⟨rfl, hb1⟩; dsimp only) | (go_at_call 7; ((with_reducible refine (HK.out _).mono ?_)); rintro r w2 ⟨kv, rfl, hk2, hb2⟩; dsimp only) | (go_at_call 8; ((with_reducible refine (new_calls _).mono ?_)); rintro r w3 ⟨A, ga, rfl, hg3, hf3, hb3⟩; obtain rfl := hg3.v; dsimp only) | go_skip | go_guarded | go_step | go_upon))
  have hI0 : GInv W w3 salt kv A (.pointer (some ⟨A.g, 0, none⟩)) (fun _ => []) 0 := by
    have := GInv.start HT.out (hb00.trans (hb1.mono hb00.size)) hk2 hb2 hg3 hf3 hb3 (Below.refl _ _)
    exact this
  have hx3 : obj w3 W.heap.size = some (.cells #[.int .u8 dF, .int .u8 dS, .int .u16 far, .bool forged, .bool false] 40 (0, 0)) := by
    have q0 := row_lt hbx
    have q1 := keep_below hbx hb1 q0
    have q2 := keep_below q1 hb2 (row_lt q1)
    exact keep_below q2 hb3 (row_lt q2)
  generalize hbxx : W.heap.size = bx at hx3
  have HBX := Lib.hid hbxx
  clear hbxx hbx hb00 hb1 hk2 hb2 hg3 hf3 hb3 HS0
  go_cut [11] from 24 (fun x wx => ∃ (k : Nat) (T : Nat → List Int), k ≤ n ∧ k ≤ 12 ∧ x = .int .i64 k ∧ GInv W wx salt kv A (.pointer (some ⟨A.g, 0, none⟩)) T k ∧ obj wx bx = some (.cells #[.int .u8 dF, .int .u8 dS, .int .u16 far, .bool forged, .bool false] 40 (0, 0)))
  case first =>
    repeat' (first | go_skip | go_guarded | go_step | go_upon)
    go_loopw [11] (fun i wr => ∃ (k : Nat) (T : Nat → List Int), k ≤ n ∧ k ≤ 12 ∧ i = .int .i64 k ∧ GInv W wr salt kv A (.pointer (some ⟨A.g, 0, none⟩)) T k ∧ obj wr bx = some (.cells #[.int .u8 dF, .int .u8 dS, .int .u16 far, .bool forged, .bool false] 40 (0, 0))) (fun i _ => (12 - intOf i).toNat)
    case atStart => exact ⟨0, _, Nat.zero_le _, by omega, rfl, hI0, hx3⟩
    case round =>
      clear hI0 hx3
      obtain ⟨k, T, hkn, hk12, rfl, hI, hx⟩ := hrel
      by_cases hkk : k < n ∧ k < 12
      · obtain ⟨hk1, hk2⟩ := hkk
        have i1 : (k : Int) < (n : Int) := by omega
        have i2 : (k : Int) < 12 := by omega
        have hdk := Deed.strip_ok (HOK.out k hk1)
        have hDw := HD.out.below hI.bel
        obtain ⟨ao', c', hv, _, hrow⟩ := hDw
        cases hv
        obtain ⟨b, off, row, TT, fr, rfl, hob, hrow⟩ := hrow (by omega)
        obtain ⟨q1, q2⟩ := hrow k (by omega)
        have z2 : row.extract (off + k * 5) (off + k * 5 + 5) = #[.int .u8 (ds k).dF, .int .u8 (ds k).dS, .int .u16 (ds k).far, .bool (ds k).forged, .bool (ds k).astray] := by
          unfold Deed.val at q2
          injection q2
        have cA : wr.cell? ⟨b, off + k * 5, none⟩ = some (.int .u8 (ds k).dF) := by
          rw [row_cells hob]
          have := congrArg (fun a : Array Value => a[0]?) z2
          simpa [Array.getElem?_extract, q1, show off + k * 5 < row.size by omega] using this
        have cB : wr.cell? ⟨b, off + k * 5 + 1, none⟩ = some (.int .u8 (ds k).dS) := by
          rw [row_cells hob]
          have := congrArg (fun a : Array Value => a[1]?) z2
          simpa [Array.getElem?_extract, q1, show off + k * 5 + 1 < row.size by omega] using this
        clear hrow q1 q2 z2
        have hId : GInv W wr.drew salt kv A (.pointer (some ⟨A.g, 0, none⟩)) T k := hI.below ⟨rfl, rfl, rfl, Nat.le_refl _, fun _ _ => rfl⟩
        have hxd : obj wr.drew bx = some (.cells #[.int .u8 dF, .int .u8 dS, .int .u16 far, .bool forged, .bool false] 40 (0, 0)) := hx
        obtain ⟨L1, hL1⟩ : ∃ L, ((ds k).strip.out salt (T (ds k).strip.f)).toArray = L := ⟨_, rfl⟩
        obtain ⟨c1, hc1⟩ : ∃ c : Int, (((ds k).strip.code salt (T (ds k).strip.f) : Nat) : Int) = c := ⟨_, rfl⟩
        have HX := Lib.hid hL1
        have HC := Lib.hid hc1
        clear hL1 hc1
        repeat' (first | go_skip | go_guarded | go_step | go_upon)
        go_region_law (first | (go_simp; go_at_call 10; ((with_reducible refine (arr_strip (ds k) hdk hId).mono ?_)); rintro r w7 ⟨body, rfl, hbd, hb7⟩; have hI7 := hId.below hb7; have hx7 := keep_below hxd hb7 (row_lt hxd); dsimp only) | (go_simp; go_at_call 11; ((with_reducible refine (take_any hdk hI7 (by omega) (hbd.lower (Nat.zero_le _)) HC.out HX.out).mono ?_)); rintro r w8 ⟨rfl, hI8, hg8, hX8⟩; have hx8 := hX8.cells hg8 hx7 (by decide); dsimp only))
        all_goals (repeat' (first | go_skip | go_guarded | go_step | go_upon))
        all_goals exact ⟨⟨k + 1, _, by omega, by omega, rfl, hI8, hx8⟩, by show (12 - ((k : Int) + 1)).toNat < (12 - (k : Int)).toNat; omega⟩
      · have ex : ¬ ((k : Int) < (n : Int)) ∨ ((k : Int) < (n : Int) ∧ ¬ ((k : Int) < 12)) := by omega
        rcases ex with i1 | ⟨i1, i2⟩
        · repeat' (first | go_skip | go_guarded | go_step | go_upon)
          go_meet
          exact ⟨k, T, hkn, hk12, rfl, hI, hx⟩
        · repeat' (first | go_skip | go_guarded | go_step | go_upon)
          go_meet
          exact ⟨k, T, hkn, hk12, rfl, hI, hx⟩
  case rest =>
    clear hI0 hx3
    obtain ⟨k, T, hkn, hk12, hx11, hI, hx⟩ := hcut
    subst hx11
    have hdF : dF < 256 := HDO.out.f
    have hdS : dS < 256 := HDO.out.s
    have hfar : far < 65536 := HDO.out.a
    obtain ⟨kb, ko, kc, krow, rfl, hkey, hkc, hk1, hk2⟩ := key_at salt HDO.out hI.keys
    have hfd : (Deed.f ⟨dF, dS, far, forged, false⟩) = 1 + dF % 2 := rfl
    rw [hfd] at hk1 hk2
    have hId : GInv W wc.drew salt (.slice (some ⟨kb, ko, none⟩) 3 kc) A (.pointer (some ⟨A.g, 0, none⟩)) T k := hI.below ⟨rfl, rfl, rfl, Nat.le_refl _, fun _ _ => rfl⟩
    have hxd : obj wc.drew bx = some (.cells #[.int .u8 dF, .int .u8 dS, .int .u16 far, .bool forged, .bool false] 40 (0, 0)) := hx
    have hkd : obj wc.drew kb = some (.cells krow 34 (0, 0)) := hkey
    obtain ⟨g, hg⟩ : ∃ g : Int, mostL (T (1 + dF % 2)) = g := ⟨_, rfl⟩
    obtain ⟨ms, hms⟩ : ∃ l : List Int, missN (T (1 + dF % 2)) (mostL (T (1 + dF % 2))).toNat = l := ⟨_, rfl⟩
    have hx1 : (1 : Int) + (dF : Int) % 2 = ((1 + dF % 2 : Nat) : Int) := by omega
    have HG : Hid (∀ w, GInv W w salt (.slice (some ⟨kb, ko, none⟩) 3 kc) A (.pointer (some ⟨A.g, 0, none⟩)) T k → Calls Tryz.prog 14 #[.pointer (some ⟨A.g, 0, none⟩), .int .i64 (1 + (dF : Int) % 2)] w fun e w' => e = .returned (.int .i64 g) ∧ Below w.heap.size w w') := Lib.hid fun w h => by
      have := h.grt (1 + (dF : Int) % 2)
      rw [← hg, show mostL (T (1 + dF % 2)) = grt T (1 + (dF : Int) % 2) by unfold grt; rw [if_pos (by omega), hx1, Int.toNat_natCast]]
      exact this
    have HM : Hid (∀ w, GInv W w salt (.slice (some ⟨kb, ko, none⟩) 3 kc) A (.pointer (some ⟨A.g, 0, none⟩)) T k → Calls Tryz.prog 17 #[.pointer (some ⟨A.g, 0, none⟩), .int .i64 (1 + (dF : Int) % 2)] w fun e w' => ∃ v, e = .returned v ∧ HasI w' v ms ∧ Below w.heap.size w w') := Lib.hid fun w h => by
      have := h.msn (1 + (dF : Int) % 2)
      rw [← hms, show missN (T (1 + dF % 2)) (mostL (T (1 + dF % 2))).toNat = msn T (1 + (dF : Int) % 2) by unfold msn; rw [if_pos (by omega), hx1, Int.toNat_natCast]]
      exact this
    have hml : ms.length < 1000000 := by
      rw [← hms]
      have := missN_le (T (1 + dF % 2)) (mostL (T (1 + dF % 2))).toNat
      have := hI.most (1 + dF % 2)
      omega
    have hg65 : g ≤ 65555 := by rw [← hg]; exact hI.most _
    have hg0 : 0 ≤ g := by rw [← hg]; exact mostL_nonneg _
    have HGQ := Lib.hid hg
    have HX1 := Lib.hid hx1
    clear hg hms hx1
    have y1 : IntKind.i64.wrap (dF : Int) = (dF : Int) := by rw [IntKind.wrap_i64]; omega
    have y0 : (dF : Int).tmod 2 = (dF : Int) % 2 := Int.tmod_eq_emod_of_nonneg (by omega)
    have y2 : IntKind.i64.wrap (1 + (dF : Int) % 2) = 1 + (dF : Int) % 2 := by rw [IntKind.wrap_i64]; omega
    have y3 : IntKind.i64.wrap (g + 1024) = g + 1024 := by rw [IntKind.wrap_i64]; omega
    have cx0 := row_cells hxd 0
    clear hI hx hkey
    repeat' (first | go_skip | go_guarded | go_step | go_upon)
    go_cut [12, 13] from 24 (fun x y wx => x = .int .i64 g ∧ EInv W wx salt (.slice (some ⟨kb, ko, none⟩) 3 kc) A T k bx #[.int .u8 dF, .int .u8 dS, .int .u16 far, .bool forged, .bool false] kb krow y ms)
    case first =>
      go_region_law (first | (go_simp; go_at_call 14; ((with_reducible refine (HG.out _ hId).mono ?_)); rintro r w20 ⟨rfl, hb20⟩; have hI20 := hId.below hb20; have hx20 := keep_below hxd hb20 (row_lt hxd); have hk20 := keep_below hkd hb20 (row_lt hkd); have cx20 := row_cells hx20 0; dsimp only) | (go_simp; go_at_call 17; ((with_reducible refine (HM.out _ hI20).mono ?_)); rintro r w21 ⟨v, rfl, hv, hb21⟩; have hE21 : EInv W w21 salt _ A T k bx _ kb krow v ms := EInv.mk (hI20.below hb21) (keep_below hx20 hb21 (row_lt hx20)) (keep_below hk20 hb21 (row_lt hk20)) hv; dsimp only))
      all_goals (repeat' go_step)
      all_goals (go_meet; exact ⟨rfl, hE21⟩)
    case rest =>
      obtain ⟨hx12, hE⟩ := hcut
      subst hx12
      generalize u13 = v13 at *
      generalize hff : 1 + dF % 2 = ff at *
      have HFF := Lib.hid hff
      have hff3 : ff < 3 := by omega
      have hff4 : (ff : Int) < 3 := by omega
      clear hff
      clear hId hxd hkd cx0
      have hbox := keep_alloc hE.box (.cells #[.int .u8 dF, .int .u8 dS, .int .u16 far, .bool forged, .bool false] 40 (0, 0))
      have cb4 := row_cells hbox 4
      have hE0 := hE.box
      have hn1 : obj (wc.alloc (.cells #[.int .u8 dF, .int .u8 dS, .int .u16 far, .bool forged, .bool false] 40 (0, 0))) wc.heap.size = some (.cells #[.int .u8 dF, .int .u8 dS, .int .u16 far, .bool forged, .bool false] 40 (0, 0)) := obj_alloc_at _ _ _ rfl
      have fn1 := row_free hn1 3
      have cn1 := row_cells hn1 3
      have hn2 : obj ((wc.alloc (.cells #[.int .u8 dF, .int .u8 dS, .int .u16 far, .bool forged, .bool false] 40 (0, 0))).setCell ⟨wc.heap.size, 3, none⟩ (.bool (!false))) wc.heap.size = some (.cells #[.int .u8 dF, .int .u8 dS, .int .u16 far, .bool (!false), .bool false] 40 (0, 0)) := by
        rw [obj_setCell_at, hn1]; rfl
      have hgood := HGOOD.out
      clear HGOOD
      repeat' (first | go_skip | go_guarded | go_step | go_upon)
      have hw30 : Below wc.heap.size wc (wc.alloc (.cells #[.int .u8 dF, .int .u8 dS, .int .u16 far, .bool true, .bool false] 40 (0, 0))) := (Below.refl _ _).alloc (Nat.le_refl _) _
      have hE30 := hE.below hw30
      clear hE hE0 hbox cb4 hn1 fn1 cn1 hn2 hw30
      generalize (wc.alloc (.cells #[.int .u8 dF, .int .u8 dS, .int .u16 far, .bool true, .bool false] 40 (0, 0))) = w30 at *
      generalize wc.heap.size = b14 at *
      have hDo : (⟨dF, dS, far, true, false⟩ : Deed).Ok := ⟨hdF, hdS, hfar⟩
      have HA : Hid (Calls Tryz.prog 10 #[(.slice (some ⟨kb, ko, none⟩) 3 kc), .agg #[.int .u8 dF, .int .u8 dS, .int .u16 far, .bool true, .bool false]] w30 fun e W' => ∃ body, e = .returned (.agg (Env.row ((⟨dF, dS, far, true, false⟩ : Deed).env salt body))) ∧ Sl w30.heap.size W' body 5 (⟨dF, dS, far, true, false⟩ : Deed).body ∧ Below w30.heap.size w30 W') := Lib.hid (arrival_deed salt hDo hE30.inv.tab (hE30.inv.keys.lower (Nat.zero_le _)))
      repeat' (first | (go_at_call 10; ((with_reducible refine (HA.out).mono ?_)); rintro r w31 ⟨body, rfl, hbd, hb31⟩; have eS := Env_size ((⟨dF, dS, far, true, false⟩ : Deed).env salt body) (Deed.env_seal salt hDo body); have eA := Env_all ((⟨dF, dS, far, true, false⟩ : Deed).env salt body) (Deed.env_seal salt hDo body); have eO := Env_ones ((⟨dF, dS, far, true, false⟩ : Deed).env salt body) (Sl_one hbd); dsimp only) | go_skip | go_guarded | go_step | go_upon)
      have hw32 : Below w31.heap.size w31 (w31.alloc (.cells ((⟨dF, dS, far, true, false⟩ : Deed).env salt body).row 36 (0, 0))) := (Below.refl _ _).alloc (Nat.le_refl _) _
      have he32 : obj (w31.alloc (.cells ((⟨dF, dS, far, true, false⟩ : Deed).env salt body).row 36 (0, 0))) w31.heap.size = some (.cells ((⟨dF, dS, far, true, false⟩ : Deed).env salt body).row 36 (0, 0)) := obj_alloc_at _ _ _ rfl
      have hE32 := (hE30.below hb31).below hw32
      have hbd32 := (hbd.lower (Nat.zero_le _)).below hw32
      clear hE30 hw32 hbd hb31 HA
      generalize (w31.alloc (.cells ((⟨dF, dS, far, true, false⟩ : Deed).env salt body).row 36 (0, 0))) = w32 at *
      generalize w31.heap.size = b15 at *
      have eX := Env_sealx ((⟨dF, dS, far, true, false⟩ : Deed).env salt body) (Deed.env_seal salt hDo body)
      have eF := Env_0 ((⟨dF, dS, far, true, false⟩ : Deed).env salt body)
      have eFf : ((⟨dF, dS, far, true, false⟩ : Deed).env salt body).frm = (ff : Int) := by rw [← HFF.out]; rfl
      rw [eFf] at eF
      have HSo : Hid (∀ w, EInv W w salt (.slice (some ⟨kb, ko, none⟩) 3 kc) A T k bx #[.int .u8 dF, .int .u8 dS, .int .u16 far, .bool forged, .bool false] kb krow v13 ms → Sl 0 w body 5 (⟨dF, dS, far, true, false⟩ : Deed).body → Calls Tryz.prog 19 #[.agg (bRow (keyS (keys3 salt) (⟨dF, dS, far, true, false⟩ : Deed))), .agg ((⟨dF, dS, far, true, false⟩ : Deed).env salt body).row] w fun e W' => e = .returned (.agg (bRow (rightS (keys3 salt) (⟨dF, dS, far, true, false⟩ : Deed)))) ∧ Below w.heap.size w W') := Lib.hid fun w h hb => sealof_deed salt hDo h.inv.tab (h.inv.keys.lower (Nat.zero_le _)) hb
      have HEQ : ∀ w, (Op.equalIn 10000 34 (.agg (bRow (rightS (keys3 salt) (⟨dF, dS, far, true, false⟩ : Deed)))) (.agg (bRow ((⟨dF, dS, far, true, false⟩ : Deed).env salt body).seal32))).run Tryz.prog w = .ok false w := fun w => by
        rw [eq_dig _ _ (rightS_len (keys3_ok salt) hDo) (Deed.env_seal salt hDo body)]
        refine congrArg (fun b => Result.ok b w) ?_
        exact decide_eq_false fun q => of_decide_eq_false hgood q.symm
      have hkx : krow.extract (ko + ff * 32) (ko + ff * 32 + 32) = bRow (keyS (keys3 salt) (⟨dF, dS, far, true, false⟩ : Deed)) := hk2
      clear hk2
      have HTR : Hid (∀ w, EInv W w salt (.slice (some ⟨kb, ko, none⟩) 3 kc) A T k bx #[.int .u8 dF, .int .u8 dS, .int .u16 far, .bool forged, .bool false] kb krow v13 ms → Sl 0 w body 5 (⟨dF, dS, far, true, false⟩ : Deed).body → Calls Tryz.prog 11 #[.pointer (some ⟨A.g, 0, none⟩), (.slice (some ⟨kb, ko, none⟩) 3 kc), .agg ((⟨dF, dS, far, true, false⟩ : Deed).env salt body).row] w fun r w' => r = .returned (.tuple #[.agg zerL.toArray, .int .i64 8]) ∧ Below w.heap.size w w') := Lib.hid fun w h hb => take_refused hDo h.inv hb (by exact .inr ⟨rfl, hgood, rfl⟩)
      have HT2 : Hid (∀ w, EInv W w salt (.slice (some ⟨kb, ko, none⟩) 3 kc) A T k bx #[.int .u8 dF, .int .u8 dS, .int .u16 far, .bool forged, .bool false] kb krow v13 ms → Calls Tryz.prog 11 #[.pointer (some ⟨A.g, 0, none⟩), .slice (some ⟨kb, ko, none⟩) 2 kc, .agg ((⟨dF, dS, far, true, false⟩ : Deed).env salt body).row] w fun r w' => r = .returned (.tuple #[.agg zerL.toArray, .int .i64 1]) ∧ Below w.heap.size w w') := Lib.hid fun w h => take_two hDo h.inv _ _
      clear hgood
      generalize bRow (keyS (keys3 salt) (⟨dF, dS, far, true, false⟩ : Deed)) = KA at *
      generalize bRow (rightS (keys3 salt) (⟨dF, dS, far, true, false⟩ : Deed)) = RA at *
      generalize bRow ((⟨dF, dS, far, true, false⟩ : Deed).env salt body).seal32 = SA at *
      generalize hrow : ((⟨dF, dS, far, true, false⟩ : Deed).env salt body).row = EA at *
      have HRow := Lib.hid hrow
      clear hrow
      have hE33 : EInv W w32.drew salt (.slice (some ⟨kb, ko, none⟩) 3 kc) A T k bx #[.int .u8 dF, .int .u8 dS, .int .u16 far, .bool forged, .bool false] kb krow v13 ms := hE32.below ⟨rfl, rfl, rfl, Nat.le_refl _, fun _ _ => rfl⟩
      have he33 : obj w32.drew b15 = some (.cells EA 36 (0, 0)) := he32
      have hbd33 : Sl 0 w32.drew body 5 (⟨dF, dS, far, true, false⟩ : Deed).body := hbd32.below ⟨rfl, rfl, rfl, Nat.le_refl _, fun _ _ => rfl⟩
      have hx33 := hE33.box
      have cx33 := row_cells hx33 4
      have hk33 := hE33.key
      have ce33 := (row_cells he33 0).trans eF
      have zk : (ko + ff * 32 + 32 ≤ krow.size) = True := eq_true hk1
      clear hE32 he32 hbd32
      go_cut [99] from 85 (fun x wx => x = .bool false ∧ EInv W wx salt (.slice (some ⟨kb, ko, none⟩) 3 kc) A T k bx #[.int .u8 dF, .int .u8 dS, .int .u16 far, .bool forged, .bool false] kb krow v13 ms ∧ obj wx b15 = some (.cells EA 36 (0, 0)) ∧ Sl 0 wx body 5 (⟨dF, dS, far, true, false⟩ : Deed).body)
      case first =>
        (first | go_region_law (go_simp; go_at_call 19; ((with_reducible refine (HSo.out _ hE33 hbd33).mono ?_)); rintro r w34 ⟨rfl, hb34⟩; have hE34 := hE33.below hb34; have he34 := keep_below he33 hb34 (row_lt he33); have hbd34 := hbd33.below hb34; have hx34 := hE34.box; have cx34 := row_cells hx34 4; dsimp only) | fail)
        all_goals (repeat' (first | go_skip | go_guarded | go_step))
        all_goals (go_meet; exact ⟨rfl, hE34, he34, hbd34⟩)
      case rest =>
        obtain ⟨hx99, hE, he, hbd⟩ := hcut
        subst hx99
        clear hE33 he33 hbd33 hx33 cx33 hk33 ce33 zk HSo HEQ hkx
        have zS : zerL.toArray.size = 62 := zerL_len
        have zO := zerL_ones
        have zE := extract_all _ 62 zS
        generalize zerL.toArray = ZL at *
        repeat' (first | (go_at_call 11; ((with_reducible refine (HTR.out _ hE hbd).mono ?_)); rintro r w40 ⟨rfl, hb40⟩; have he40 := keep_alloc (keep_below he hb40 (row_lt he)) (.cells ZL 52 (0, 0)); dsimp only) | go_skip | go_guarded | go_step | go_upon)
        have hw41 : Below w40.heap.size w40 (w40.alloc (.cells ZL 52 (0, 0))) := (Below.refl _ _).alloc (Nat.le_refl _) _
        have hE41 := (hE.below hb40).below hw41
        clear hE he hbd hb40 hw41 HTR
        generalize (w40.alloc (.cells ZL 52 (0, 0))) = w41 at *
        generalize w40.heap.size = b16 at *
        have hE42 : EInv W w41.drew salt (.slice (some ⟨kb, ko, none⟩) 3 kc) A T k bx #[.int .u8 dF, .int .u8 dS, .int .u16 far, .bool forged, .bool false] kb krow v13 ms := hE41.below ⟨rfl, rfl, rfl, Nat.le_refl _, fun _ _ => rfl⟩
        have he42 : obj w41.drew b15 = some (.cells EA 36 (0, 0)) := he40
        have hkc2 : (2 : Int) ≤ (kc : Int) := by omega
        have hkc3 : 2 ≤ kc := by omega
        have hE42a : ∀ o : Obj, EInv W (w41.alloc o).drew salt (.slice (some ⟨kb, ko, none⟩) 3 kc) A T k bx #[.int .u8 dF, .int .u8 dS, .int .u16 far, .bool forged, .bool false] kb krow v13 ms := fun o => hE41.below ⟨rfl, rfl, rfl, (by show _ ≤ (w41.alloc o).heap.size; simp), fun i hi => heap_alloc_old w41 o hi⟩
        have he42a : ∀ o : Obj, obj (w41.alloc o).drew b15 = some (.cells EA 36 (0, 0)) := fun o => keep_alloc he40 o
        clear hE41 he40
        go_cut [18, 19] from 109 (fun x y wx => y = .int .i64 1 ∧ EInv W wx salt (.slice (some ⟨kb, ko, none⟩) 3 kc) A T k bx #[.int .u8 dF, .int .u8 dS, .int .u16 far, .bool forged, .bool false] kb krow v13 ms)
        case first =>
          go_region_law (go_simp; go_at_call 11; ((with_reducible refine (HT2.out _ (by first | exact hE42 | exact hE42a _)).mono ?_)); rintro r w43 ⟨rfl, hb43⟩; (first | (have hE43 := hE42.below hb43; have hB43 : Below w41.heap.size w41.drew w43 := hb43) | (have hE43 := (hE42a _).below hb43; have hB43 : Below w41.heap.size w41.drew w43 := Below.trans (b := (w41.alloc (.cells z52 52 (0, 0))).drew) ⟨rfl, rfl, rfl, (by show _ ≤ (w41.alloc _).heap.size; simp), fun i hi => heap_alloc_old w41 _ hi⟩ (hb43.mono (by show _ ≤ (w41.alloc _).heap.size; simp)); have hz43 := keep_below (show obj (w41.alloc (.cells z52 52 (0, 0))).drew w41.heap.size = some _ from obj_alloc_at w41 _ w41.heap.size rfl) hb43 (by show w41.heap.size < (w41.alloc _).heap.size; simp))); dsimp only)
          all_goals (repeat' go_step)
          all_goals (go_meet; exact ⟨rfl, hE42.below (by first | exact below_setRow hB43 (Nat.le_refl _) _ | exact hB43.alloc hB43.size _)⟩)
        case rest =>
          obtain ⟨hx19, hE⟩ := hcut
          subst hx19
          clear hE42 he42 hE42a he42a HT2
          have hx44 := hE.box
          have cx0 := row_cells hx44 0
          repeat' (first | (go_at_call 14; ((with_reducible refine (HG.out _ hE.inv).mono ?_)); rintro r w45 ⟨rfl, hb45⟩; have hE45 := hE.below hb45; have hx45 := hE45.box; have cx45 := row_cells hx45 0; dsimp only) | (go_at_call 17; ((with_reducible refine (HM.out _ hE45.inv).mono ?_)); rintro r w46 ⟨v46, rfl, hv46, hb46⟩; have hE46 := hE45.below hb46; have hw46 := hE46.mis; dsimp only) | (go_at_call 16; ((with_reducible refine (sameI _ hv46 hw46 hml).mono ?_)); rintro r w47 ⟨rfl, hb47⟩; have hE47 := hE46.below hb47; have hx47 := hE47.box; have d0 := row_cells hx47 0; have d1 := row_cells hx47 1; have d2 := row_cells hx47 2; dsimp only) | go_skip | go_guarded | go_step | go_upon)
          have hRo : (⟨dF, dS, far, false, false⟩ : Deed).Ok := ⟨hdF, hdS, hfar⟩
          have HAR : Hid (Calls Tryz.prog 10 #[(.slice (some ⟨kb, ko, none⟩) 3 kc), .agg #[.int .u8 dF, .int .u8 dS, .int .u16 far, .bool false, .bool false]] w47 fun e W' => ∃ body, e = .returned (.agg (Env.row ((⟨dF, dS, far, false, false⟩ : Deed).env salt body))) ∧ Sl w47.heap.size W' body 5 (⟨dF, dS, far, false, false⟩ : Deed).body ∧ Below w47.heap.size w47 W') := Lib.hid (arrival_deed salt hRo hE47.inv.tab (hE47.inv.keys.lower (Nat.zero_le _)))
          repeat' (first | (go_at_call 10; ((with_reducible refine (HAR.out).mono ?_)); rintro r w48 ⟨body2, rfl, hbd2, hb48⟩; have fS := Env_size ((⟨dF, dS, far, false, false⟩ : Deed).env salt body2) (Deed.env_seal salt hRo body2); have fA := Env_all ((⟨dF, dS, far, false, false⟩ : Deed).env salt body2) (Deed.env_seal salt hRo body2); have fO := Env_ones ((⟨dF, dS, far, false, false⟩ : Deed).env salt body2) (Sl_one hbd2); dsimp only) | go_skip | go_guarded | go_step | go_upon)
          have hw49 : Below w48.heap.size w48 (w48.alloc (.cells ((⟨dF, dS, far, false, false⟩ : Deed).env salt body2).row 36 (0, 0))) := (Below.refl _ _).alloc (Nat.le_refl _) _
          have he49 : obj (w48.alloc (.cells ((⟨dF, dS, far, false, false⟩ : Deed).env salt body2).row 36 (0, 0))) w48.heap.size = some (.cells ((⟨dF, dS, far, false, false⟩ : Deed).env salt body2).row 36 (0, 0)) := obj_alloc_at _ _ _ rfl
          have hI49 := ((hE47.below hb48).below hw49).inv
          have hbd49 := (hbd2.lower (Nat.zero_le _)).below hw49
          clear hE47 hw49 hbd2 hb48 HAR hx47 d0 d1 d2 HG HM hE hE45 hE46 hb45 hb46 hb47 hv46 hw46 hx44 hx45 cx0 cx45
          generalize (w48.alloc (.cells ((⟨dF, dS, far, false, false⟩ : Deed).env salt body2).row 36 (0, 0))) = w49 at *
          generalize w48.heap.size = b20 at *
          have f2 := Env_2 ((⟨dF, dS, far, false, false⟩ : Deed).env salt body2)
          obtain ⟨sq, hsq⟩ : ∃ sq : Int, ((⟨dF, dS, far, false, false⟩ : Deed).env salt body2).seq = sq := ⟨_, rfl⟩
          rw [hsq] at f2
          have hcd : ∃ c : Int, ((((⟨dF, dS, far, false, false⟩ : Deed).code salt (T (⟨dF, dS, far, false, false⟩ : Deed).f) : Nat) : Int) = c) ∧ ((c = 9 ∧ sq ≤ g) ∨ (c = 2 ∧ g + 1024 < sq) ∨ (c = 0 ∧ ¬ g + 1024 < sq)) := by
            have h1 : (⟨dF, dS, far, false, false⟩ : Deed).f = ff := by rw [← HFF.out]; rfl
            have h2 : (((⟨dF, dS, far, false, false⟩ : Deed).seq : Nat) : Int) = sq := hsq
            have h3 : (⟨dF, dS, far, false, false⟩ : Deed).good salt = true := Deed.good_own salt _ rfl
            have h4 : mostL (T ff) = g := HGQ.out
            refine ⟨_, rfl, ?_⟩
            unfold Deed.code
            rw [h1, h2, h3, h4, if_neg (show ¬ (⟨dF, dS, far, false, false⟩ : Deed).astray = true from Bool.false_ne_true), if_neg (by decide)]
            by_cases q : sq ∈ T ff
            · rw [if_pos q]
              have := le_mostL q
              exact .inl ⟨rfl, by omega⟩
            · rw [if_neg q]
              by_cases q2 : g + 1024 < sq
              · rw [if_pos q2]; exact .inr (.inl ⟨rfl, q2⟩)
              · rw [if_neg q2]; exact .inr (.inr ⟨rfl, q2⟩)
          obtain ⟨L1, hL1⟩ : ∃ L, ((⟨dF, dS, far, false, false⟩ : Deed).out salt (T (⟨dF, dS, far, false, false⟩ : Deed).f)).toArray = L := ⟨_, rfl⟩
          have s1 : L1.size = 62 := hL1 ▸ out_size _ _ _
          have o1 : ones L1 = true := hL1 ▸ out_ones _ _ _
          have x1 := extract_all _ 62 s1
          obtain ⟨c1, hc1, hcd⟩ := hcd
          have HTT := Lib.hid (take_any hRo hI49 (by omega) hbd49 hc1 hL1)
          clear hL1 hc1 hsq
          generalize ((⟨dF, dS, far, false, false⟩ : Deed).env salt body2).row = EB at *
          rcases hcd with ⟨rfl, hq⟩ | ⟨rfl, hq⟩ | ⟨rfl, hq⟩
          · have n1 : ¬ (g + 1024 < sq) := by omega
            have n2 : ¬ (sq > g + 1024) := n1
            repeat' (first | (go_at_call 11; ((with_reducible refine (HTT.out).mono ?_)); rintro r w50 ⟨rfl, hI50, hg50, hX50⟩; have he50 := hX50.cells hg50 he49 (by decide); have g2 := (row_cells (keep_alloc he50 (.cells L1 52 (0, 0))) 2).trans f2; dsimp only) | go_skip | go_guarded | go_step | go_upon)
            go_ret
            exact ⟨rfl, hI50.bel.alloc hI50.bel.size _⟩
          · have n2 : sq > g + 1024 := hq
            repeat' (first | (go_at_call 11; ((with_reducible refine (HTT.out).mono ?_)); rintro r w50 ⟨rfl, hI50, hg50, hX50⟩; have he50 := hX50.cells hg50 he49 (by decide); have g2 := (row_cells (keep_alloc he50 (.cells L1 52 (0, 0))) 2).trans f2; dsimp only) | go_skip | go_guarded | go_step | go_upon)
            go_ret
            exact ⟨rfl, hI50.bel.alloc hI50.bel.size _⟩
          · have n2 : ¬ (sq > g + 1024) := hq
            repeat' (first | (go_at_call 11; ((with_reducible refine (HTT.out).mono ?_)); rintro r w50 ⟨rfl, hI50, hg50, hX50⟩; have he50 := hX50.cells hg50 he49 (by decide); have g2 := (row_cells (keep_alloc he50 (.cells L1 52 (0, 0))) 2).trans f2; dsimp only) | go_skip | go_guarded | go_step | go_upon)
            go_ret
            exact ⟨rfl, hI50.bel.alloc hI50.bel.size _⟩
end Go.Proofs.YtmjblpkbfoipfaaGreatDoor
