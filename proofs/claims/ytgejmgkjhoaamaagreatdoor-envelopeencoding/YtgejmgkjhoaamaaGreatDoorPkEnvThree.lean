/-
  The walk of the law of the encoding, over what sanity does.
-/
import Derived.Test.YtgejmgkjhoaamaaGreatDoorPkEnvTwo
set_option linter.unusedSectionVars false
set_option linter.constructorNameAsVariable false
set_option linter.unusedVariables false
set_option linter.unusedSimpArgs false
namespace Go.Proofs.YtgejmgkjhoaamaaGreatDoor
open Go.RowKit
set_option maxHeartbeats 2000000 in
set_option maxRecDepth 100000 in
theorem law_short (a : Option Addr) (n c : Nat) (hn : n < 56) (hc : n ≤ c) (u : Nat) (hu : u < 256) (w : World)
    (hsan : Calls Tryz.prog 4 #[] w fun e w' => e = .returned (.bool true) ∧ Below w.heap.size w w') :
    Calls Tryz.prog 3 #[.slice a n c, .int .u8 (u : Int)] w fun r w' => r = .returned (.bool true) ∧ Below w.heap.size w w' := by
  have i1 : (n : Int) ≤ 300 := by omega
  have i2 : (n : Int) ≤ (c : Int) := by omega
  have hr := Env_size (env0 0 0 0) rfl
  have hall := Env_all (env0 0 0 0) rfl
  have hone := Env_ones (env0 0 0 0) rfl
  go_enter Tryz.func3, Tryz.ntmps3
  repeat' (first | (go_at_call 4; refine hsan.mono ?_; rintro r w1 ⟨rfl, hb1⟩; dsimp only) | (go_at_call 5; ((with_reducible refine (read_short _ _ _ (by omega) _).mono ?_)); rintro r w4 ⟨rfl, hb4⟩; have h4 := keep_below (obj_alloc_at _ _ _ rfl) hb4 (by simp); have l4 := row_lt h4; have hB4 := (hB2.alloc hB2.size _).trans (hb4.mono (by have := hB2.size; simp; omega)); dsimp only) | (go_at_call 5; ((with_reducible refine (read_short a n c hn _).mono ?_)); rintro r w2 ⟨rfl, hb2⟩; have hB2 := hb1.trans (hb2.mono hb1.size); dsimp only) | (go_at_call 6; ((with_reducible refine (same_zero2 _ _ env0_lit).mono ?_)); rintro r w6 ⟨rfl, hb6⟩; dsimp only) | go_skip | go_guarded | go_step | go_upon)
  go_ret
  exact ⟨rfl, (hB4.alloc hB4.size _).trans (hb6.mono (by have := hB4.size; simp; omega))⟩
set_option maxHeartbeats 2000000 in
set_option maxRecDepth 100000 in
theorem law_bad (b off n c m : Nat) (l : List UInt8) (hl : l.length = m) (hm : (n ≤ 300 ∧ m = n) ∨ (300 < n ∧ m = 300)) (h56 : 56 ≤ m) (hnc : n ≤ c) (u : Nat) (hu : u < 256) (w : World)
    (hcell : ∀ j, j < m → w.cell? ⟨b, off + j, none⟩ = some (B8 (l.getD j 0).toNat)) (hb : b < w.heap.size) (hf : formedL l = false) (hsan : Calls Tryz.prog 4 #[] w fun e w' => e = .returned (.bool true) ∧ Below w.heap.size w w') :
    Calls Tryz.prog 3 #[.slice (some ⟨b, off, none⟩) n c, .int .u8 (u : Int)] w fun r w' => r = .returned (.bool true) ∧ Below w.heap.size w w' := by
  have i2 : (n : Int) ≤ (c : Int) := by omega
  have hr := Env_size (env0 0 0 0) rfl
  have hall := Env_all (env0 0 0 0) rfl
  have hone := Env_ones (env0 0 0 0) rfl
  have i5 : (56 : Int) ≤ (n : Int) := by omega
  rcases hm with ⟨hm, rfl⟩ | ⟨hm, rfl⟩
  · have i1 : (m : Int) ≤ 300 := by omega
    go_enter Tryz.func3, Tryz.ntmps3
    repeat' (first | (go_at_call 4; refine hsan.mono ?_; rintro r w1 ⟨rfl, hb1⟩; dsimp only) | (go_at_call 5; ((with_reducible refine (read_short _ _ _ (by omega) _).mono ?_)); rintro r w4 ⟨rfl, hb4⟩; have h4 := keep_below (obj_alloc_at _ _ _ rfl) hb4 (by simp); have l4 := row_lt h4; have hB4 := (hB2.alloc hB2.size _).trans (hb4.mono (by have := hB2.size; simp; omega)); dsimp only) | (go_at_call 5; ((with_reducible refine (read_bad b off c m l hl h56 (by omega) (by omega) _ (fun j hj => (hb1.cell (p := ⟨b, off + j, none⟩) hb).trans (hcell j hj)) (Nat.lt_of_lt_of_le hb hb1.size) hf).mono ?_)); rintro r w2 ⟨rfl, hb2⟩; have hB2 := hb1.trans (hb2.mono hb1.size); dsimp only) | (go_at_call 6; ((with_reducible refine (same_zero2 _ _ env0_lit).mono ?_)); rintro r w6 ⟨rfl, hb6⟩; dsimp only) | go_skip | go_guarded | go_step | go_upon)
    go_ret
    exact ⟨rfl, (hB4.alloc hB4.size _).trans (hb6.mono (by have := hB4.size; simp; omega))⟩
  · have i1 : 300 < (n : Int) := by omega
    have i3 : (300 : Int) ≤ (c : Int) := by omega
    go_enter Tryz.func3, Tryz.ntmps3
    repeat' (first | (go_at_call 4; refine hsan.mono ?_; rintro r w1 ⟨rfl, hb1⟩; dsimp only) | (go_at_call 5; ((with_reducible refine (read_short _ _ _ (by omega) _).mono ?_)); rintro r w4 ⟨rfl, hb4⟩; have h4 := keep_below (obj_alloc_at _ _ _ rfl) hb4 (by simp); have l4 := row_lt h4; have hB4 := (hB2.alloc hB2.size _).trans (hb4.mono (by have := hB2.size; simp; omega)); dsimp only) | (go_at_call 5; ((with_reducible refine (read_bad b off c 300 l hl h56 (by omega) (by omega) _ (fun j hj => (hb1.cell (p := ⟨b, off + j, none⟩) hb).trans (hcell j hj)) (Nat.lt_of_lt_of_le hb hb1.size) hf).mono ?_)); rintro r w2 ⟨rfl, hb2⟩; have hB2 := hb1.trans (hb2.mono hb1.size); dsimp only) | (go_at_call 6; ((with_reducible refine (same_zero2 _ _ env0_lit).mono ?_)); rintro r w6 ⟨rfl, hb6⟩; dsimp only) | go_skip | go_guarded | go_step | go_upon)
    go_ret
    exact ⟨rfl, (hB4.alloc hB4.size _).trans (hb6.mono (by have := hB4.size; simp; omega))⟩
end Go.Proofs.YtgejmgkjhoaamaaGreatDoor
namespace Go.Proofs.YtgejmgkjhoaamaaGreatDoor
open Go.RowKit
theorem owns_cells {w : World} {base g n cap : Nat} {xs : List Value} (h : w.ownsRow base 5 1 (.slice (some ⟨g, 0, none⟩) n cap) n xs) : ∀ j u, xs[j]? = some u → w.cell? ((⟨g, 0, none⟩ : Addr).add j) = some u := fun j u hj => by
  rcases h.2 with ⟨h, _⟩ | ⟨g', c', cur, hv, h1, h2, h3, h4, h5, h6⟩
  · cases h
  · cases hv
    rw [Addr.add_lit, Nat.zero_add, row_cells h2]
    rw [← h6, List.getElem?_take] at hj
    split at hj
    · simpa using hj
    · cases hj
/-- The body over the second Read. -/
theorem owns_step {w2 w4 : World} {base g n cap : Nat} {xs : List Value} {o : Obj} (h : w2.ownsRow base 5 1 (.slice (some ⟨g, 0, none⟩) n cap) n xs) (hb4 : Below (w2.alloc o).heap.size (w2.alloc o) w4) :
    w4.ownsRow base 5 1 (.slice (some ⟨g, 0, none⟩) n cap) n xs := by
  have hlt := (owns_cap h).2.1
  dsimp only at hlt
  refine owns_of_block h fun g' hg' => ?_
  cases hg'
  rw [hb4.block g (by simp; omega)]
  exact heap_alloc_old w2 o hlt
theorem bytes_at (l : List UInt8) (g cap : Nat) (hs : (envAt l g cap).seal32.length = 32) (w : World) {base : Nat} (h56 : 56 ≤ l.length) (h : w.ownsRow base 5 1 (.slice (some ⟨g, 0, none⟩) (l.length - 56) cap) (l.length - 56) (bCells (l.drop 56))) (hf : formedL l = true) :
    Calls Tryz.prog 7 #[.agg (envAt l g cap).row] w fun r w' => ∃ g6 cap6, r = .returned (.tuple #[.slice (some ⟨g6, 0, none⟩) l.length cap6, .int .i64 0]) ∧ w'.ownsRow w.heap.size 5 1 (.slice (some ⟨g6, 0, none⟩) l.length cap6) l.length (bCells l) ∧ Below w.heap.size w w' := by
  have hd : (l.drop 56).length = l.length - 56 := by simp
  refine (bytes_calls (envAt l g cap) hs ⟨g, 0, none⟩ cap (l.drop 56) (by rw [hd]; rfl) w (owns_cells h) (owns_cap h).2.1 (by rw [hd]; exact hf)).mono fun r w' hp => ?_
  obtain ⟨v, rfl, ho, hb⟩ := hp
  rw [env_back l g cap h56, hd, show 56 + (l.length - 56) = l.length by omega] at ho
  obtain ⟨g6, cap6, rfl, _, _⟩ := ho.form (by omega)
  exact ⟨g6, cap6, rfl, ho, hb⟩
theorem conv_x {b off m c : Nat} {l : List UInt8} {w w' : World} {B : Nat} (hl : l.length = m) (hcell : ∀ j, j < m → w.cell? ⟨b, off + j, none⟩ = some (B8 (l.getD j 0).toNat)) (hb : b < B) (hB : Below B w w') :
    (convert 22 9 (.slice (some ⟨b, off, none⟩) m c)).run Tryz.prog w' = .ok (.string ⟨l.toArray⟩) w' := by
  subst hl
  refine run_convert_bytes_back w' _ _ 5 ⟨b, off, none⟩ c l Tryz.underlying22 Tryz.underlying5 Tryz.underlying9 fun j hj => ?_
  rw [Addr.add_lit, hB.cell (p := ⟨b, off + j, none⟩) hb, hcell j hj, List.getD_eq_getElem?_getD, List.getElem?_eq_getElem hj]
  rfl
theorem conv_y {g n cap base : Nat} {l : List UInt8} {w : World} (hl : l.length = n) (h : w.ownsRow base 5 1 (.slice (some ⟨g, 0, none⟩) l.length cap) l.length (bCells l)) :
    (convert 22 9 (.slice (some ⟨g, 0, none⟩) n cap)).run Tryz.prog w = .ok (.string ⟨l.toArray⟩) w := by
  subst hl
  refine run_convert_bytes_back w _ _ 5 ⟨g, 0, none⟩ cap l Tryz.underlying22 Tryz.underlying5 Tryz.underlying9 fun j hj => ?_
  refine owns_cells h j _ ?_
  unfold bCells
  rw [List.getElem?_map, List.getElem?_eq_getElem hj]
  rfl
set_option maxHeartbeats 2000000 in
set_option maxRecDepth 100000 in
theorem law_good (b off n c m : Nat) (l : List UInt8) (hl : l.length = m) (hm : (n ≤ 300 ∧ m = n) ∨ (300 < n ∧ m = 300)) (h56 : 56 ≤ m) (hnc : n ≤ c) (u : Nat) (hu : u < 256) (w : World)
    (hcell : ∀ j, j < m → w.cell? ⟨b, off + j, none⟩ = some (B8 (l.getD j 0).toNat)) (hb : b < w.heap.size) (hf : formedL l = true) (hsan : Calls Tryz.prog 4 #[] w fun e w' => e = .returned (.bool true) ∧ Below w.heap.size w w') :
    Calls Tryz.prog 3 #[.slice (some ⟨b, off, none⟩) n c, .int .u8 (u : Int)] w fun r w' => r = .returned (.bool true) ∧ Below w.heap.size w w' := by
  have i2 : (n : Int) ≤ (c : Int) := by omega
  have i5 : (56 : Int) ≤ (n : Int) := by omega
  have hs32 : ∀ g cap, (envAt l g cap).seal32.length = 32 := fun g cap => by unfold envAt; simp; omega
  have HC := Lib.hid hcell
  have HL := Lib.hid hl
  clear hcell hl
  rcases hm with ⟨hm, rfl⟩ | ⟨hm, rfl⟩
  · have i1 : (m : Int) ≤ 300 := by omega
    have hrz := Env_size (env0 0 0 0) rfl
    have hallz := Env_all (env0 0 0 0) rfl
    have honez := Env_ones (env0 0 0 0) rfl
    go_enter Tryz.func3, Tryz.ntmps3
    repeat' (first | (go_at_call 4; refine hsan.mono ?_; rintro r w1 ⟨rfl, hb1⟩; dsimp only) | (go_at_call 5; ((with_reducible refine (read_short _ _ _ (by omega) _).mono ?_)); rintro r w4 ⟨rfl, hb4⟩; have h4 := keep_below (obj_alloc_at _ _ _ rfl) hb4 (by simp); have l4 := row_lt h4; have hB4 := (hB2.alloc hB2.size _).trans (hb4.mono (by have := hB2.size; simp; omega)); have hB5 := hB4.alloc hB4.size (.cells (env0 0 0 0).row 27 (0, 0)); have hown5 := owns_below (owns_step hown hb4) ((Below.refl _ w4).alloc (Nat.le_refl _) (.cells (env0 0 0 0).row 27 (0, 0))) (fun g hg => by cases hg; exact (owns_cap (owns_step hown hb4)).2.1); dsimp only) | (go_at_call 5; ((with_reducible refine (read_good b off c m l HL.out h56 (by omega) (by omega) _ (fun j hj => (hb1.cell (p := ⟨b, off + j, none⟩) hb).trans (HC.out j hj)) (Nat.lt_of_lt_of_le hb hb1.size) hf).mono ?_)); rintro r w2 ⟨g, cap, rfl, hown, hb2⟩; have hB2 := hb1.trans (hb2.mono hb1.size); have hr := Env_size (envAt l g cap) (hs32 _ _); have hall := Env_all (envAt l g cap) (hs32 _ _); have hone := Env_ones (envAt l g cap) rfl; dsimp only) | (go_at_call 7; ((with_reducible refine (bytes_at l g cap (hs32 _ _) _ (by rw [HL.out]; exact h56) hown5 hf).mono ?_)); rintro r w6 ⟨g6, cap6, rfl, hown6, hb6⟩; have hB6 := hB5.trans (hb6.mono hB5.size); have hcx : (convert 22 9 (.slice (some ⟨b, off, none⟩) m c)).run Tryz.prog w6 = .ok (.string ⟨l.toArray⟩) w6 := conv_x HL.out HC.out hb hB6; have hcy : (convert 22 9 (.slice (some ⟨g6, 0, none⟩) l.length cap6)).run Tryz.prog w6 = .ok (.string ⟨l.toArray⟩) w6 := conv_y rfl hown6; dsimp only) | go_skip | go_guarded | go_step | go_upon)
    go_ret
    exact ⟨rfl, hB6⟩
  · have i1 : 300 < (n : Int) := by omega
    have i3 : (300 : Int) ≤ (c : Int) := by omega
    have hrz := Env_size (env0 0 0 0) rfl
    have hallz := Env_all (env0 0 0 0) rfl
    have honez := Env_ones (env0 0 0 0) rfl
    go_enter Tryz.func3, Tryz.ntmps3
    repeat' (first | (go_at_call 4; refine hsan.mono ?_; rintro r w1 ⟨rfl, hb1⟩; dsimp only) | (go_at_call 5; ((with_reducible refine (read_short _ _ _ (by omega) _).mono ?_)); rintro r w4 ⟨rfl, hb4⟩; have h4 := keep_below (obj_alloc_at _ _ _ rfl) hb4 (by simp); have l4 := row_lt h4; have hB4 := (hB2.alloc hB2.size _).trans (hb4.mono (by have := hB2.size; simp; omega)); have hB5 := hB4.alloc hB4.size (.cells (env0 0 0 0).row 27 (0, 0)); have hown5 := owns_below (owns_step hown hb4) ((Below.refl _ w4).alloc (Nat.le_refl _) (.cells (env0 0 0 0).row 27 (0, 0))) (fun g hg => by cases hg; exact (owns_cap (owns_step hown hb4)).2.1); dsimp only) | (go_at_call 5; ((with_reducible refine (read_good b off c 300 l HL.out h56 (by omega) (by omega) _ (fun j hj => (hb1.cell (p := ⟨b, off + j, none⟩) hb).trans (HC.out j hj)) (Nat.lt_of_lt_of_le hb hb1.size) hf).mono ?_)); rintro r w2 ⟨g, cap, rfl, hown, hb2⟩; have hB2 := hb1.trans (hb2.mono hb1.size); have hr := Env_size (envAt l g cap) (hs32 _ _); have hall := Env_all (envAt l g cap) (hs32 _ _); have hone := Env_ones (envAt l g cap) rfl; dsimp only) | (go_at_call 7; ((with_reducible refine (bytes_at l g cap (hs32 _ _) _ (by rw [HL.out]; exact h56) hown5 hf).mono ?_)); rintro r w6 ⟨g6, cap6, rfl, hown6, hb6⟩; have hB6 := hB5.trans (hb6.mono hB5.size); have hcx : (convert 22 9 (.slice (some ⟨b, off, none⟩) 300 c)).run Tryz.prog w6 = .ok (.string ⟨l.toArray⟩) w6 := conv_x HL.out HC.out hb hB6; have hcy : (convert 22 9 (.slice (some ⟨g6, 0, none⟩) l.length cap6)).run Tryz.prog w6 = .ok (.string ⟨l.toArray⟩) w6 := conv_y rfl hown6; dsimp only) | go_skip | go_guarded | go_step | go_upon)
    go_ret
    exact ⟨rfl, hB6⟩
end Go.Proofs.YtgejmgkjhoaamaaGreatDoor
