/-
  The walk of the reference's step.
-/
import Derived.Test.YtmjblpkbfoipfaaGreatDoorPkRefB
import Derived.Test.YtmjblpkbfoipfaaGreatDoorPkRefA
set_option linter.unusedSectionVars false
set_option linter.constructorNameAsVariable false
set_option linter.unusedVariables false
set_option linter.unusedSimpArgs false
namespace Go.Proofs.YtmjblpkbfoipfaaGreatDoor
open Go.RowKit
theorem expand_calls' (b off cap : Nat) (f : Nat → Nat) (hf : ∀ j, f j < 256) (w : World) (hc : ∀ j, j < 64 → w.cell? ⟨b, off + j, none⟩ = some (B8 (f j))) (hb : b < w.heap.size) :
    Calls Tryz.prog 64 #[.slice (some ⟨b, off, none⟩) 64 cap] w fun e w' => e = .returned (.agg (schRow f)) ∧ Below w.heap.size w w' :=
  (expand_calls b off cap f hf w hc hb).mono fun _ _ h => ⟨by rw [h.1]; unfold schRow; rfl, h.2⟩
@[go_sem] theorem kRow_size : kRow.size = 64 := rfl
@[go_sem] theorem kRow_all : kRow.extract 0 64 = kRow := extract_all _ _ kRow_size
@[go_sem] theorem kRow_one : ones kRow = true := by decide +kernel
attribute [local irreducible] kRow
theorem st_hi {s : Sha.St} : (Tryz.prog.info? 101).map (·.size) = some s.row.size := by rw [St_size]; kernel_rfl
theorem St_comm (s t : Sha.St) : s.add t = t.add s := by simp only [Sha.St.add, Nat.add_comm]
theorem rx_val2 (t : Sha.St) (h : t.ok) (kk ww : Nat) : (((t.h : Int) + bits BinOp.xor .u32 (bits BinOp.xor .u32 ((Sha.rotr t.e 6 : Nat) : Int) ((Sha.rotr t.e 11 : Nat) : Int)) ((Sha.rotr t.e 25 : Nat) : Int) +
    bits BinOp.xor .u32 (bits BinOp.and .u32 (t.e : Int) (t.f : Int)) (bits BinOp.and .u32 (4294967295 - (t.e : Int)) (t.g : Int)) + (kk : Int)) % 4294967296 + (ww : Int)) % 4294967296 = ((Sha.rx t kk ww : Nat) : Int) := by
  have e : (4294967295 - (t.e : Int)) = ((4294967295 - t.e : Nat) : Int) := by have := h.2.2.2.2.1; omega
  rw [e, ← not_u32 _ h.2.2.2.2.1]
  exact rx_val t h kk ww
set_option maxHeartbeats 1000000 in
set_option maxRecDepth 100000 in
theorem step_calls (s : Sha.St) (hs : s.ok) (b off cap : Nat) (f : Nat → Nat) (hf : ∀ j, f j < 256) (w : World)
    (hc : ∀ j, j < 64 → w.cell? ⟨b, off + j, none⟩ = some (B8 (f j))) (hb : b < w.heap.size) :
    Calls Tryz.prog 43 #[.agg s.row, .slice (some ⟨b, off, none⟩) 64 cap] w fun e w' =>
      e = .returned (.agg (Sha.comp s f).row) ∧ Below w.heap.size w w' := by
  have HC := Lib.hid hc
  clear hc
  go_enter Tryz.func43, Tryz.ntmps43
  repeat' (first | go_skip | go_guarded | go_step | go_upon)
  have r0 : obj ((w.alloc (.cells s.row 101 (0, 0))).alloc (.cells #[B32 0, B32 0, B32 0, B32 0, B32 0, B32 0, B32 0, B32 0] 101 (0, 0))) w.heap.size = some (.cells s.row 101 (0, 0)) := by go_simp
  have r1 : obj ((w.alloc (.cells s.row 101 (0, 0))).alloc (.cells #[B32 0, B32 0, B32 0, B32 0, B32 0, B32 0, B32 0, B32 0] 101 (0, 0))) (w.heap.size + 1) = some (.cells #[B32 0, B32 0, B32 0, B32 0, B32 0, B32 0, B32 0, B32 0] 101 (0, 0)) := by go_simp
  have rB : Below w.heap.size w ((w.alloc (.cells s.row 101 (0, 0))).alloc (.cells #[B32 0, B32 0, B32 0, B32 0, B32 0, B32 0, B32 0, B32 0] 101 (0, 0))) := ((Below.refl _ _).alloc (Nat.le_refl _) _).alloc (by simp) _
  have rz : ((w.alloc (.cells s.row 101 (0, 0))).alloc (.cells #[B32 0, B32 0, B32 0, B32 0, B32 0, B32 0, B32 0, B32 0] 101 (0, 0))).heap.size = w.heap.size + 2 := by simp
  generalize (w.alloc (.cells s.row 101 (0, 0))).alloc (.cells #[B32 0, B32 0, B32 0, B32 0, B32 0, B32 0, B32 0, B32 0] 101 (0, 0)) = wa at *
  refine (expand_calls' b off cap f hf _ (fun j hj => (rB.cell (p := ⟨b, off + j, none⟩) hb).trans (HC.out j hj)) (by omega)).mono ?_
  rintro e w1 ⟨rfl, hb1⟩
  have s0 := keep_below r0 hb1 (by omega)
  have s1 := keep_below r1 hb1 (by omega)
  have sB := rB.trans (hb1.mono (by omega))
  have sz := hb1.size
  clear r0 r1 rB hb1
  dsimp only
  repeat' (first | go_skip | go_guarded | go_step | go_upon)
  refine (rounds_calls _).mono ?_
  rintro e w2 ⟨rfl, hb2⟩
  have t0 := keep_below s0 hb2 (by omega)
  have t1 := keep_below s1 hb2 (by omega)
  have tB := sB.trans (hb2.mono (by omega))
  have tz := hb2.size
  clear s0 s1 sB hb2
  dsimp only
  have hn0 : w.heap.size ≠ w2.heap.size := by omega
  have hn1 : w.heap.size ≠ w2.heap.size + 1 := by omega
  have hn2 : w.heap.size ≠ w2.heap.size + 2 := by omega
  have hl0 : w.heap.size < w2.heap.size := by omega
  have hl1 : w.heap.size + 1 < w2.heap.size := by omega
  repeat' (first | go_skip | go_guarded | go_step | go_upon)
  have a5 : obj (((w2.alloc (.cells (schRow f) 123 (0, 0))).alloc (.cells kRow 123 (0, 0))).alloc (.cells s.row 101 (0, 0))) w2.heap.size = some (.cells (schRow f) 123 (0, 0)) := by go_simp
  have a6 : obj (((w2.alloc (.cells (schRow f) 123 (0, 0))).alloc (.cells kRow 123 (0, 0))).alloc (.cells s.row 101 (0, 0))) (w2.heap.size + 1) = some (.cells kRow 123 (0, 0)) := by go_simp
  have a7 : obj (((w2.alloc (.cells (schRow f) 123 (0, 0))).alloc (.cells kRow 123 (0, 0))).alloc (.cells s.row 101 (0, 0))) (w2.heap.size + 1 + 1) = some (.cells s.row 101 (0, 0)) := by go_simp
  have a2 : obj (((w2.alloc (.cells (schRow f) 123 (0, 0))).alloc (.cells kRow 123 (0, 0))).alloc (.cells s.row 101 (0, 0))) w.heap.size = some (.cells s.row 101 (0, 0)) := keep_alloc (keep_alloc (keep_alloc t0 _) _) _
  have a4 := keep_alloc (keep_alloc (keep_alloc t1 (.cells (schRow f) 123 (0, 0))) (.cells kRow 123 (0, 0))) (.cells s.row 101 (0, 0))
  have aB : Below w.heap.size w (((w2.alloc (.cells (schRow f) 123 (0, 0))).alloc (.cells kRow 123 (0, 0))).alloc (.cells s.row 101 (0, 0))) := ((tB.alloc (by omega) _).alloc (by simp; omega) _).alloc (by simp; omega) _
  generalize ((w2.alloc (.cells (schRow f) 123 (0, 0))).alloc (.cells kRow 123 (0, 0))).alloc (.cells s.row 101 (0, 0)) = w3 at *
  clear t0 t1 tB
  have hq5 : w2.heap.size ≠ w2.heap.size + 1 + 1 := by omega
  have hq6 : w2.heap.size + 1 ≠ w2.heap.size + 1 + 1 := by omega
  generalize hB5 : w2.heap.size = b5 at *
  go_loopw [8] (fun i wr => ∃ k : Nat, k ≤ 64 ∧ i = .int .i64 k ∧ obj wr b5 = some (.cells (schRow f) 123 (0, 0)) ∧ obj wr (b5 + 1) = some (.cells kRow 123 (0, 0)) ∧ obj wr (b5 + 1 + 1) = some (.cells (Sha.rnds (Sha.sch f 64) s k).row 101 (0, 0)) ∧ obj wr w.heap.size = some (.cells s.row 101 (0, 0)) ∧ obj wr (w.heap.size + 1) = some (.cells #[B32 0, B32 0, B32 0, B32 0, B32 0, B32 0, B32 0, B32 0] 101 (0, 0)) ∧ Below w.heap.size w wr)
    (fun i _ => (64 - intOf i).toNat)
  case atStart => exact ⟨0, by omega, rfl, a5, a6, a7, a2, a4, aB⟩
  case round =>
    clear a5 a6 a7 a2 a4 aB
    obtain ⟨k, hk, rfl, a5, a6, a7, a2, a4, aB⟩ := hrel
    by_cases hlt : k < 64
    · have hok := Sha.rnds_ok (Sha.sch f 64) s hs k
      have HOK := Lib.hid hok
      have HS := Lib.hid (show Sha.rnds (Sha.sch f 64) s (k + 1) = Sha.rnd (Sha.rnds (Sha.sch f 64) s k) (Sha.K.getD k 0) ((Sha.sch f 64).getD k 0) from rfl)
      have c5 : wr.cell? ⟨b5, k, none⟩ = some (B32 ((Sha.sch f 64).getD k 0)) := (row_cells a5 k).trans (schRow_get f k hlt)
      have c6 : wr.cell? ⟨b5 + 1, k, none⟩ = some (B32 (Sha.K.getD k 0)) := (row_cells a6 k).trans (kRow_get k hlt)
      have c7 := row_cells a7
      have lk := K_lt k
      have lw := sch_lt f hf 64 k
      generalize Sha.rnds (Sha.sch f 64) s k = t at *
      generalize Sha.K.getD k 0 = kk at *
      generalize (Sha.sch f 64).getD k 0 = ww at *
      obtain ⟨l1, l2, l3, l4, l5, l6, l7, l8⟩ := hok
      repeat' (first | go_skip | go_guarded | go_step | go_upon)
      go_quiet (fail)
      have a5 : obj (wr.drewN nq) b5 = some (.cells (schRow f) 123 (0, 0)) := a5
      have a6 : obj (wr.drewN nq) (b5 + 1) = some (.cells kRow 123 (0, 0)) := a6
      have a7 : obj (wr.drewN nq) (b5 + 1 + 1) = some (.cells t.row 101 (0, 0)) := a7
      have a2 : obj (wr.drewN nq) w.heap.size = some (.cells s.row 101 (0, 0)) := a2
      have a4 : obj (wr.drewN nq) (w.heap.size + 1) = some (.cells #[B32 0, B32 0, B32 0, B32 0, B32 0, B32 0, B32 0, B32 0] 101 (0, 0)) := a4
      have aB : Below w.heap.size w (wr.drewN nq) := ⟨aB.os, aB.tape, aB.output, aB.size, aB.block⟩
      have c5 : (wr.drewN nq).cell? ⟨b5, k, none⟩ = some (B32 ww) := c5
      have c6 : (wr.drewN nq).cell? ⟨b5 + 1, k, none⟩ = some (B32 kk) := c6
      have c7 := row_cells a7
      generalize wr.drewN nq = x1 at *
      repeat' (first | go_skip | go_guarded | go_step | go_upon)
      go_quiet ((go_at_call 66; (first | (with_reducible exact Calls.quiet_of (turn_at t.e 6 6 rfl l5 (by decide) (by decide) _)) | (with_reducible exact Calls.quiet_of (turn_at t.e 11 11 rfl l5 (by decide) (by decide) _)) | (with_reducible exact Calls.quiet_of (turn_at t.e 25 25 rfl l5 (by decide) (by decide) _)))))
      rw [rx_val2 t HOK.out kk ww]
      have lx := rx_lt t kk ww
      generalize hrx : Sha.rx t kk ww = x at *
      have HX := Lib.hid hrx
      clear hrx
      have a5 : obj (x1.drewN nq) b5 = some (.cells (schRow f) 123 (0, 0)) := a5
      have a6 : obj (x1.drewN nq) (b5 + 1) = some (.cells kRow 123 (0, 0)) := a6
      have a7 : obj (x1.drewN nq) (b5 + 1 + 1) = some (.cells t.row 101 (0, 0)) := a7
      have a2 : obj (x1.drewN nq) w.heap.size = some (.cells s.row 101 (0, 0)) := a2
      have a4 : obj (x1.drewN nq) (w.heap.size + 1) = some (.cells #[B32 0, B32 0, B32 0, B32 0, B32 0, B32 0, B32 0, B32 0] 101 (0, 0)) := a4
      have aB : Below w.heap.size w (x1.drewN nq) := ⟨aB.os, aB.tape, aB.output, aB.size, aB.block⟩
      have c7 := row_cells a7
      clear c5 c6
      generalize x1.drewN nq = x2 at *
      repeat' (first | go_skip | go_guarded | go_step | go_upon)
      go_quiet ((go_at_call 66; (first | (with_reducible exact Calls.quiet_of (turn_at t.a 2 2 rfl l1 (by decide) (by decide) _)) | (with_reducible exact Calls.quiet_of (turn_at t.a 13 13 rfl l1 (by decide) (by decide) _)) | (with_reducible exact Calls.quiet_of (turn_at t.a 22 22 rfl l1 (by decide) (by decide) _)))))
      rw [ry_val t HOK.out]
      have hy := ry_lt t
      generalize hry : Sha.ry t = y at *
      have HY := Lib.hid hry
      clear hry
      have a5 : obj (x2.drewN nq) b5 = some (.cells (schRow f) 123 (0, 0)) := a5
      have a6 : obj (x2.drewN nq) (b5 + 1) = some (.cells kRow 123 (0, 0)) := a6
      have a7 : obj (x2.drewN nq) (b5 + 1 + 1) = some (.cells t.row 101 (0, 0)) := a7
      have a2 : obj (x2.drewN nq) w.heap.size = some (.cells s.row 101 (0, 0)) := a2
      have a4 : obj (x2.drewN nq) (w.heap.size + 1) = some (.cells #[B32 0, B32 0, B32 0, B32 0, B32 0, B32 0, B32 0, B32 0] 101 (0, 0)) := a4
      have aB : Below w.heap.size w (x2.drewN nq) := ⟨aB.os, aB.tape, aB.output, aB.size, aB.block⟩
      have c7 := row_cells a7
      generalize x2.drewN nq = x3 at *
      repeat' (first | go_skip | go_guarded | go_step | go_upon)
      go_roundw
      case rel =>
        refine ⟨k + 1, by omega, by go_num, keep_setRow a5 (by omega) _, keep_setRow a6 (by omega) _, ?_, keep_setRow a2 (by omega) _, keep_setRow a4 (by omega) _, below_setRow aB (by omega) _⟩
        have e1 : ((x : Int) + (y : Int)) % 4294967296 = (((x + y) % 4294967296 : Nat) : Int) := by omega
        have e2 : ((t.d : Int) + (x : Int)) % 4294967296 = (((t.d + x) % 4294967296 : Nat) : Int) := by omega
        rw [HS.out, obj_setRow_at, a7, e1, e2]
        simp only [Option.map_some, withCells_cells, Sha.rnd, HX.out, HY.out, St_mk]
      case measure => simp [intOf]; omega
    · have a7' : obj wr (b5 + 1 + 1) = some (.cells (mixRow (Sha.rnds (Sha.sch f 64) s 64) s 0) 101 (0, 0)) := by rw [mix_zero, a7, show k = 64 by omega]
      have HE := Lib.hid (show Sha.comp s f = s.add (Sha.rnds (Sha.sch f 64) s 64) from rfl)
      clear a5 a6 a7
      generalize Sha.rnds (Sha.sch f 64) s 64 = t at *
      repeat' (first | go_skip | go_guarded | go_step | go_upon)
      obtain ⟨wo, rfl⟩ : ∃ wo : World, wo = wr := ⟨_, rfl⟩
      go_loopw [13] (fun i wr => ∃ j : Nat, j ≤ 8 ∧ i = .int .i64 j ∧ obj wr (b5 + 1 + 1) = some (.cells (mixRow t s j) 101 (0, 0)) ∧ obj wr w.heap.size = some (.cells s.row 101 (0, 0)) ∧ obj wr (w.heap.size + 1) = some (.cells #[B32 0, B32 0, B32 0, B32 0, B32 0, B32 0, B32 0, B32 0] 101 (0, 0)) ∧ Below w.heap.size w wr)
        (fun i _ => (8 - intOf i).toNat)
      case atStart => exact ⟨0, by omega, rfl, a7', a2, a4, aB⟩
      case round =>
        clear a7' a2 a4 aB
        obtain ⟨j, hj, rfl, a7, a2, a4, aB⟩ := hrel
        by_cases hlt8 : j < 8
        · have c7 : wr.cell? ⟨b5 + 1 + 1, j, none⟩ = some (B32 (t.get j)) := (row_cells a7 j).trans (mix_get t s j hlt8)
          have c2 : wr.cell? ⟨w.heap.size, j, none⟩ = some (B32 (s.get j)) := (row_cells a2 j).trans (St_get s j hlt8)
          have a7' : obj wr.drew (b5 + 1 + 1) = some (.cells (mixRow t s j) 101 (0, 0)) := a7
          have a2' : obj wr.drew w.heap.size = some (.cells s.row 101 (0, 0)) := a2
          have a4' : obj wr.drew (w.heap.size + 1) = some (.cells #[B32 0, B32 0, B32 0, B32 0, B32 0, B32 0, B32 0, B32 0] 101 (0, 0)) := a4
          have aB' := aB.drew
          have c7' : wr.drew.cell? ⟨b5 + 1 + 1, j, none⟩ = some (B32 (t.get j)) := c7
          have f7' : wr.drew.frozen? ⟨b5 + 1 + 1, j, none⟩ = false := row_free a7 j
          have HM := Lib.hid (mix_set t s j hlt8)
          generalize s.get j = sj at *
          generalize t.get j = tj at *
          repeat' (first | go_skip | go_guarded | go_step | go_upon)
          go_still_tail 9, (by kernel_rfl)
          change wpList _ _ _ _ _ wr.drew
          clear c7 c2 a7 a2 a4 aB
          generalize wr.drew = w4 at *
          repeat' (first | go_skip | go_guarded | go_step | go_upon)
          go_roundw
          case rel =>
            refine ⟨j + 1, by omega, by go_num, ?_, keep_setCell a2' _ (by simp; omega) _, keep_setCell a4' _ (by simp; omega) _, aB'.setCell (by simp; omega) _⟩
            rw [obj_setCell_at, a7', ← HM.out, show ((tj : Int) + (sj : Int)) % 4294967296 = (((tj + sj) % 4294967296 : Nat) : Int) by omega]; rfl
          case measure => simp [intOf]; omega
        · have a7' : obj wr (b5 + 1 + 1) = some (.cells (Sha.comp s f).row 101 (0, 0)) := by rw [a7, show j = 8 by omega, mix_full, HE.out, St_comm]
          clear a7
          repeat' (first | go_skip | go_guarded | go_step | go_upon)
          refine bodyPost_ret (results_cell_row rfl _ _ (w.heap.size + 1) 101 (Sha.comp s f).row _ _ rfl (setRow_heap _ _ _ _ _ _ a4) Tryz.underlying101 rfl st_hi) rfl ?_
          exact ⟨rfl, below_setRow aB (by omega) _⟩
end Go.Proofs.YtmjblpkbfoipfaaGreatDoor
