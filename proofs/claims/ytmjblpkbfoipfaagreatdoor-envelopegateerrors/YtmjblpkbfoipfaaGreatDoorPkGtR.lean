/-
  The walks of the gate of the reference: Greatest, Missing.
-/
import Derived.Test.YtmjblpkbfoipfaaGreatDoorPkGtF
set_option linter.unusedSectionVars false
set_option linter.constructorNameAsVariable false
set_option linter.unusedVariables false
set_option linter.unusedSimpArgs false
namespace Go.Proofs.YtmjblpkbfoipfaaGreatDoor
open Go.RowKit
def IntB (W : World) (lo b : Nat) : Prop := lo ≤ b ∧ ∃ c T fr, obj W b = some (.cells c T fr) ∧ (T = 3 ∨ T = 50)
theorem owns_valI {W : World} {base : Nat} {e : TypeId} {size : Nat} {v : Value} {n : Nat} {xs : List Value} (h : W.ownsRow base e size v n xs) : ∃ ao cap, v = .slice ao n cap := by
  rcases h.2 with ⟨rfl, rfl⟩ | ⟨g, c, cur, rfl, _⟩
  · exact ⟨none, 0, rfl⟩
  · exact ⟨_, c, rfl⟩
structure RB where
  g : Nat
  s : Nat
  lo : Nat
structure RGateP (W : World) (R : RB) (gv : Value) (T : Nat → List Int) : Prop where
  v : gv = .pointer (some ⟨R.g, 0, none⟩)
  g : ∃ c, obj W R.g = some (.cells #[.int .i64 0, .int .i64 3, .slice (some ⟨R.s, 0, none⟩) 3 c] 80 (0, 0))
  lo : R.lo ≤ R.s
  s : ∃ row, obj W R.s = some (.cells row 50 (0, 0)) ∧ (∀ i, i < 3 → ∃ v, row[i]? = some v ∧ W.ownsRow R.lo 3 1 v (T i).length (iCells (T i))) ∧ ∀ i j v u b, i < 3 → j < 3 → i ≠ j → row[i]? = some v → row[j]? = some u → v.ownBlock = some b → u.ownBlock ≠ some b
set_option maxHeartbeats 8000000
theorem mostL_take (L : List Int) (k : Nat) (hk : k < L.length) : mostL (L.take (k + 1)) = max (mostL (L.take k)) (L.getD k 0) := by
  rw [List.take_add_one, List.getElem?_eq_getElem hk, List.getD_eq_getElem?_getD, List.getElem?_eq_getElem hk]
  exact mostL_snoc _ _
theorem rgst_calls (W : World) (R : RB) (gv : Value) (T : Nat → List Int) (h : RGateP W R gv T) (x : Int) (hlen : 0 ≤ x ∧ x < 3 → (T x.toNat).length < 1000000) :
    Calls Tryz.prog 15 #[gv, .int .i64 x] W fun e w' => e = .returned (.int .i64 (if 0 ≤ x ∧ x < 3 then mostL (T x.toNat) else 0)) ∧ w' = W := by
  obtain ⟨c, hg⟩ := h.g
  obtain ⟨row, hs, hrow, _⟩ := h.s
  rw [h.v]
  clear h
  have c1 := row_cells hg 1
  have c2 := row_cells hg 2
  by_cases hx : 0 ≤ x ∧ x < 3
  · obtain ⟨v, hv, hown⟩ := hrow x.toNat (by omega)
    have hI := hasI_owns hown
    have hlen := hlen hx
    have c3 := (row_cells hs x.toNat).trans hv
    clear hrow hown hv
    simp only [if_pos hx]
    generalize T x.toNat = L at *
    obtain ⟨x0, x1⟩ := hx
    obtain ⟨n, rfl⟩ : ∃ n : Nat, x = n := ⟨x.toNat, by omega⟩
    rw [Int.toNat_natCast] at c3
    have n0 : ¬ ((n : Int) < 0) := by omega
    have n1 : ¬ ((3 : Int) ≤ (n : Int)) := by omega
    obtain ⟨ao, c4, rfl, hn, hs4⟩ := hI
    have HS := Lib.hid hs4
    have HN := Lib.hid hn
    clear hs4 hn
    go_enter Tryz.func15, Tryz.ntmps15
    repeat' (first | go_skip | go_guarded | go_step | go_upon)
    go_loopw [5, 6] (fun m i wr => ∃ k : Nat, k ≤ L.length ∧ i = .int .i64 k ∧ m = .int .i64 (mostL (L.take k)) ∧ wr = W) (fun _ i _ => ((L.length : Int) - intOf i).toNat)
    case atStart => exact ⟨0, by omega, rfl, rfl, rfl⟩
    case round =>
      obtain ⟨k, hk, rfl, rfl, rfl⟩ := hrel
      by_cases hlt : k < L.length
      · have hlt' : (k : Int) < (L.length : Int) := by omega
        obtain ⟨⟨g, off, xx⟩, rfl⟩ : ∃ a, ao = some a := by
          cases ao with
          | none => have := (HN.out rfl).1; rw [this] at hlt; simp at hlt
          | some a => exact ⟨a, rfl⟩
        obtain ⟨rfl, q2, q3, q4⟩ := HS.out g off xx rfl
        have hc := q4 k hlt
        have hm := mostL_take L k hlt
        have HM := Lib.hid hm
        clear q4 hm
        generalize L.getD k 0 = y at *
        generalize mostL (L.take k) = z at *
        repeat' (first | go_skip | go_guarded | go_step | go_upon)
        exact ⟨⟨k + 1, by omega, by go_num, by rw [HM.out]; congr 1; split <;> omega, trivial⟩, by simp [intOf]; omega⟩
      · have hk' : k = L.length := by omega
        have hge : ¬ ((k : Int) < (L.length : Int)) := by omega
        have e1 : L.take k = L := by rw [hk', List.take_length]
        rw [e1]
        repeat' (first | go_skip | go_guarded | go_step | go_upon)
        go_ret
        exact ⟨rfl, rfl⟩
  · simp only [if_neg hx]
    by_cases n0 : x < 0
    · go_enter Tryz.func15, Tryz.ntmps15
      repeat' (first | go_skip | go_guarded | go_step | go_upon)
      go_ret
      exact ⟨rfl, rfl⟩
    · have n1 : (3 : Int) ≤ x := by omega
      go_enter Tryz.func15, Tryz.ntmps15
      repeat' (first | go_skip | go_guarded | go_step | go_upon)
      go_ret
      exact ⟨rfl, rfl⟩
theorem RGateP.below {W W' : World} {R : RB} {gv : Value} {T : Nat → List Int} (h : RGateP W R gv T) (hB : Below W.heap.size W W') : RGateP W' R gv T where
  v := h.v
  lo := h.lo
  g := by
    obtain ⟨c, hg⟩ := h.g
    exact ⟨c, keep_below hg hB (row_lt' hg)⟩
  s := by
    obtain ⟨row, hs, h2, h3⟩ := h.s
    refine ⟨row, keep_below hs hB (row_lt' hs), fun i hi => ?_, h3⟩
    obtain ⟨v, hv, ho⟩ := h2 i hi
    refine ⟨v, hv, owns_belowI ho hB fun g hg => ?_⟩
    rcases ho.2 with ⟨rfl, _⟩ | ⟨g', cap, cur, rfl, _, q, _⟩
    · cases hg
    · cases hg; exact (Array.getElem?_eq_some_iff.1 q).1
theorem rmiss_calls (W : World) (R : RB) (gv : Value) (T : Nat → List Int) (h : RGateP W R gv T) (x : Int) (hlen : ∀ i, i < 3 → (T i).length < 1000000) (hm : ∀ i, i < 3 → mostL (T i) ≤ 1000000) :
    Calls Tryz.prog 18 #[gv, .int .i64 x] W fun e w' => ∃ v, e = .returned v ∧ HasI w' v (if 0 ≤ x ∧ x < 3 then missN (T x.toNat) (mostL (T x.toNat)).toNat else []) ∧ Below W.heap.size W w' := by
  have hgv := h.v
  subst hgv
  obtain ⟨L, hL, hL2⟩ : ∃ L : List Int, (if 0 ≤ x ∧ x < 3 then mostL (T x.toNat) else 0) = mostL L ∧ (0 ≤ x ∧ x < 3 → T x.toNat = L) ∧ (¬ (0 ≤ x ∧ x < 3) → L = []) := by
    by_cases hx : 0 ≤ x ∧ x < 3
    · exact ⟨T x.toNat, by rw [if_pos hx], fun _ => rfl, fun q => absurd hx q⟩
    · exact ⟨[], by rw [if_neg hx]; rfl, fun q => absurd q hx, fun _ => rfl⟩
  have hres : (if 0 ≤ x ∧ x < 3 then missN (T x.toNat) (mostL (T x.toNat)).toNat else []) = missN L (mostL L).toNat := by
    by_cases hx : 0 ≤ x ∧ x < 3
    · rw [if_pos hx, hL2.1 hx]
    · rw [if_neg hx, hL2.2 hx]; rfl
  rw [hres]
  have HM : mostL L ≤ 1000000 := by
    by_cases hx : 0 ≤ x ∧ x < 3
    · rw [← hL2.1 hx]; exact hm _ (by omega)
    · rw [hL2.2 hx]; decide
  have HG : Hid (∀ wr, Below W.heap.size W wr → Calls Tryz.prog 15 #[.pointer (some ⟨R.g, 0, none⟩), .int .i64 x] wr fun e w' => e = .returned (.int .i64 (mostL L)) ∧ w' = wr) := Lib.hid fun wr hB => by
    have := rgst_calls wr R _ T (h.below hB) x (fun hx => hlen _ (by omega))
    rw [hL] at this
    exact this
  have hx : 0 < mostL L → 0 ≤ x ∧ x < 3 := fun hp => by
    by_cases hx : 0 ≤ x ∧ x < 3
    · exact hx
    · rw [hL2.2 hx] at hp; exact absurd hp (by decide)
  have HX := Lib.hid hx
  have HL2 := Lib.hid hL2
  have HLen := Lib.hid hlen
  have HH := Lib.hid h
  clear hres hL hx hL2 hm hlen h
  go_enter Tryz.func18, Tryz.ntmps18
  repeat' (first | go_skip | go_guarded | go_step | go_upon)
  have hB0 : Below W.heap.size W (W.alloc (.cells #[] 3 (0, 0))) := (Below.refl _ _).alloc (Nat.le_refl _) _
  have ho0 : (W.alloc (.cells #[] 3 (0, 0))).ownsRow W.heap.size 3 1 (.slice (some ⟨W.heap.size, 0, none⟩) 0 0) 0 [] := ⟨rfl, Or.inr ⟨W.heap.size, 0, #[], rfl, Nat.le_refl _, heap_alloc_new W _, Nat.le_refl _, by decide, rfl, rfl⟩⟩
  go_loopw [5, 6] (fun o i wr => ∃ n : Nat, 1 ≤ n ∧ i = .int .i64 n ∧ ((n : Int) ≤ mostL L ∨ n = 1) ∧ wr.ownsRow W.heap.size 3 1 o (missN L n).length (iCells (missN L n)) ∧ Below W.heap.size W wr) (fun _ i _ => (1000001 - intOf i).toNat)
  case atStart => exact ⟨1, by omega, rfl, Or.inr rfl, by rw [missN_one L 1 (by omega)]; exact ho0, hB0⟩
  case round =>
    clear ho0 hB0
    obtain ⟨n, hn, rfl, hle, hown, hB⟩ := hrel
    have HR := HH.out.below hB
    have hl' := missN_le L n
    have hW1 := hB.size
    have HL := Lib.hid hle
    clear hle
    by_cases hlt : (n : Int) < mostL L
    · have hx := HX.out (by omega)
      obtain ⟨m, rfl⟩ : ∃ m : Nat, x = m := ⟨x.toNat, by omega⟩
      obtain ⟨c, hg⟩ := HR.g
      obtain ⟨row, hs, hrow, _⟩ := HR.s
      have hTL := HL2.out.1 hx
      rw [Int.toNat_natCast] at hTL
      obtain ⟨v, hv, hvo⟩ := hrow m (by omega)
      rw [hTL] at hvo
      have hI := hasI_owns hvo
      have hll := HLen.out m (by omega)
      rw [hTL] at hll
      have c2 := row_cells hg 2
      have c3 := (row_cells hs m).trans hv
      obtain ⟨x0, x1⟩ := hx
      clear hrow hvo hv
      have HI := Lib.hid hI
      clear hI
      by_cases hmem : (n : Int) ∈ L
      · have hc : L.contains (n : Int) = true := by simpa using hmem
        repeat' (first | (go_at_call 15; ((with_reducible refine (HG.out _ hB).mono ?_)); rintro r w' ⟨rfl, rfl⟩; dsimp only) | (go_at_call 28; ((with_reducible refine (has_calls _ L _ _ HI.out hll).mono ?_)); rintro r w' ⟨rfl, rfl⟩; dsimp only) | go_skip | go_guarded | go_step | go_upon)
        have e1 : missN L (n + 1) = missN L n := by rw [missN_succ L n hn, if_pos hmem]
        exact ⟨⟨n + 1, by omega, by go_num, Or.inl (by omega), by rw [e1]; exact hown, hB⟩, by simp [intOf]; omega⟩
      · have hc : L.contains (n : Int) = false := by simpa using hmem
        repeat' (first | (go_at_call 15; ((with_reducible refine (HG.out _ hB).mono ?_)); rintro r w' ⟨rfl, rfl⟩; dsimp only) | (go_at_call 28; ((with_reducible refine (has_calls _ L _ _ HI.out hll).mono ?_)); rintro r w' ⟨rfl, rfl⟩; dsimp only) | (at_builtin; refine wpList_append_i (by rfl) _ _ (by rfl) W.heap.size (missN L n).length _ _ (by rfl) (hown.alloc _) ⟨_, 0, none⟩ 1 1 [_] (by rfl) rfl (one_newsI _ _ _) (by intro u hu; simp at hu; subst hu; rfl) (by omega) (by simp; omega) ?_; intro v' w3 hown3 hgrow3) | go_skip | go_guarded | go_step | go_upon)
        have e1 : missN L (n + 1) = missN L n ++ [(n : Int)] := by rw [missN_succ L n hn, if_neg hmem]
        have e2 : iCells (missN L n) ++ [.int .i64 (n : Int)] = iCells (missN L (n + 1)) := by rw [e1]; simp [iCells]
        have e3 : (missN L n).length + 1 = (missN L (n + 1)).length := by rw [e1]; simp
        rw [e2, e3] at hown3
        exact ⟨⟨n + 1, by omega, by go_num, Or.inl (by omega), hown3, owns_upI (hB.alloc hW1 _) (hown.alloc _) hgrow3⟩, by simp [intOf]; omega⟩
    · repeat' (first | (go_at_call 15; ((with_reducible refine (HG.out _ hB).mono ?_)); rintro r w' ⟨rfl, rfl⟩; dsimp only) | go_skip | go_guarded | go_step | go_upon)
      go_ret
      have e1 : missN L n = missN L (mostL L).toNat := by
        rcases HL.out with q | q
        · rw [show (mostL L).toNat = n by omega]
        · subst q
          rw [missN_one L 1 (by omega), missN_one L _ (by omega)]
      rw [e1] at hown
      exact ⟨_, rfl, hasI_owns hown, hB⟩
end Go.Proofs.YtmjblpkbfoipfaaGreatDoor
namespace Go.Proofs.YtmjblpkbfoipfaaGreatDoor
open Go.RowKit
theorem owns_block {W : World} {base : Nat} {e : TypeId} {v : Value} {n : Nat} {xs : List Value} (h : W.ownsRow base e 1 v n xs) {b : Nat} (hb : v.ownBlock = some b) : ∃ cur, obj W b = some (.cells cur e (0, 0)) := by
  rcases h.2 with ⟨rfl, _⟩ | ⟨g, c, cur, rfl, _, q, _⟩
  · cases hb
  · cases hb; exact ⟨cur, q⟩
theorem owns_baseI {W : World} {base : Nat} {e : TypeId} {v : Value} {n : Nat} {xs : List Value} (h : W.ownsRow base e 1 v n xs) {b : Nat} (hb : v.ownBlock = some b) : base ≤ b := by
  rcases h.2 with ⟨rfl, _⟩ | ⟨g, c, cur, rfl, q, _⟩
  · cases hb
  · cases hb; exact q
theorem not_both {W : World} {b : Nat} {c c' : Array Value} {t t' : TypeId} (h : obj W b = some (.cells c t (0, 0))) (h' : obj W b = some (.cells c' t' (0, 0))) : t = t' := by
  rw [h] at h'
  injection h' with h'
  injection h' with _ q _
theorem rtook {W W' : World} {R : RB} (hlo : R.lo ≤ R.s) {T : Nat → List Int} {row : Array Value} {v v' : Value} {F : Nat} {seq : Int} (hF : F < 3)
    (hSs : obj W R.s = some (.cells row 50 (0, 0)))
    (hrow : ∀ i, i < 3 → ∃ v, row[i]? = some v ∧ W.ownsRow R.lo 3 1 v (T i).length (iCells (T i)))
    (hdist : ∀ i j v u b, i < 3 → j < 3 → i ≠ j → row[i]? = some v → row[j]? = some u → v.ownBlock = some b → u.ownBlock ≠ some b)
    (hv : row[F]? = some v)
    (hg : ∃ c, obj W' R.g = some (.cells #[.int .i64 0, .int .i64 3, .slice (some ⟨R.s, 0, none⟩) 3 c] 80 (0, 0)))
    (hS : obj W' R.s = some (.cells (row.setIfInBounds F v') 50 (0, 0)))
    (hown : W'.ownsRow R.lo 3 1 v' (T F ++ [seq]).length (iCells (T F ++ [seq])))
    (hkeep : ∀ k, k < W.heap.size → k ≠ R.s → v.ownBlock ≠ some k → W'.heap[k]? = W.heap[k]?)
    (hob : v'.ownBlock = v.ownBlock ∨ ∃ b, v'.ownBlock = some b ∧ W.heap.size ≤ b) :
    RGateP W' R (.pointer (some ⟨R.g, 0, none⟩)) (fun i => if i = F then T F ++ [seq] else T i) where
  v := rfl
  lo := hlo
  g := hg
  s := by
    have hFl := (Array.getElem?_eq_some_iff.1 hv).1
    have at' : ∀ i u, i ≠ F → (row.setIfInBounds F v')[i]? = some u → row[i]? = some u := fun i u hne h => by
      rw [Array.getElem?_setIfInBounds_ne (fun q => hne q.symm)] at h; exact h
    have atF : ∀ u, (row.setIfInBounds F v')[F]? = some u → u = v' := fun u h => by
      rw [Array.getElem?_setIfInBounds_self_of_lt hFl] at h; exact (Option.some.inj h).symm
    have small : ∀ i u b, i < 3 → row[i]? = some u → u.ownBlock = some b → b < W.heap.size := fun i u b hi hu hb => by
      obtain ⟨u', q1, q2⟩ := hrow i hi
      rw [hu] at q1; cases q1
      obtain ⟨cur, q3⟩ := owns_block q2 hb
      exact row_lt' q3
    refine ⟨_, hS, fun i hi => ?_, fun i j x y b hi hj hne hx hy hb => ?_⟩
    · by_cases e : i = F
      · subst e
        refine ⟨v', by rw [Array.getElem?_setIfInBounds_self_of_lt hFl], ?_⟩
        simp only [if_pos]; exact hown
      · obtain ⟨u, q1, q2⟩ := hrow i hi
        refine ⟨u, by rw [Array.getElem?_setIfInBounds_ne (fun q => e q.symm)]; exact q1, ?_⟩
        simp only [if_neg e]
        refine ⟨q2.1, ?_⟩
        rcases q2.2 with q | ⟨g, cap, cur, rfl, h1, h2, h3⟩
        · exact Or.inl q
        · refine Or.inr ⟨g, cap, cur, rfl, h1, ?_, h3⟩
          rw [hkeep g (Array.getElem?_eq_some_iff.1 h2).1 (fun q => by subst q; exact absurd (not_both hSs h2) (by decide)) (hdist i F _ _ g hi hF e q1 hv rfl)]
          exact h2
    · by_cases e1 : i = F
      · subst e1
        have := atF x hx
        subst this
        have hy' := at' j y (fun q => hne q.symm) hy
        rcases hob with q | ⟨b', q1, q2⟩
        · rw [q] at hb
          exact hdist i j _ _ b hi hj hne hv hy' hb
        · rw [q1] at hb; cases hb
          intro q
          have := small j y _ hj hy' q
          omega
      · have hx' := at' i x e1 hx
        by_cases e2 : j = F
        · subst e2
          have := atF y hy
          subst this
          rcases hob with q | ⟨b', q1, q2⟩
          · rw [q]
            exact hdist i j _ _ b hi hj hne hx' hv hb
          · rw [q1]
            intro q
            cases q
            have := small i x _ hi hx' hb
            omega
        · exact hdist i j _ _ b hi hj hne hx' (at' j y e2 hy) hb
end Go.Proofs.YtmjblpkbfoipfaaGreatDoor
