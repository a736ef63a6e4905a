/-
  Rows of bytes.
-/
import Derived.Test.YtgejmgkjhoaamaaGreatDoorPkTy
import Derived.Test.YtgejmgkjhoaamaaGreatDoorPkDigA
import Derived.Test.YtgejmgkjhoaamaaGreatDoorProg
import Derived.WalkKit
import Derived.WalkSpells
import Derived.WalkLawsBesides
import Derived.Handy
import Derived.Lib.Hide
import Derived.Laws.CopyOwn
import Derived.Deep.QuietTactic
import Derived.BigQuiet
import Derived.BigRegion
import Derived.StillTailTactics
import Derived.RegionTactic
import Derived.LoopTactic
import Derived.OwnWalk
import Derived.Deep.AppendLies
import Derived.Deep.AppendSrc
import Derived.Deep.RegionLaw
set_option linter.unusedSectionVars false
set_option linter.constructorNameAsVariable false
set_option linter.unusedVariables false
set_option linter.unusedSimpArgs false
namespace Go.Proofs.YtgejmgkjhoaamaaGreatDoor
open Go.RowKit
/-- A list of bytes as cells. -/
def bRow (l : List UInt8) : Array Value := (l.map fun c => B8 c.toNat).toArray
@[go_sem] theorem bRow_size (l : List UInt8) : (bRow l).size = l.length := by simp [bRow]
theorem bRow_get (l : List UInt8) (i : Nat) (h : i < l.length) : (bRow l)[i]? = some (B8 (l.getD i 0).toNat) := by
  simp only [bRow, List.getElem?_toArray, List.getElem?_map, List.getD_eq_getElem?_getD]
  rw [List.getElem?_eq_getElem h]; rfl
@[go_sem] theorem bRow_ones (l : List UInt8) : ones (bRow l) = true := by
  unfold ones
  rw [Array.all_eq_true_iff_forall_mem]
  intro x hx
  simp only [bRow, List.mem_toArray, List.mem_map] at hx
  obtain ⟨n, _, rfl⟩ := hx
  rfl
theorem bRow_all (l : List UInt8) (n : Nat) (h : l.length = n) : (bRow l).extract 0 n = bRow l := extract_all _ _ (by rw [bRow_size, h])
theorem bRow_set (l : List UInt8) (i : Nat) (c : UInt8) : (bRow l).setIfInBounds i (B8 c.toNat) = bRow (l.set i c) := by
  simp [bRow, List.map_set]
theorem bRow_append (l m : List UInt8) : bRow (l ++ m) = bRow l ++ bRow m := by simp [bRow]
/-- The 64 bits of an int as a number. -/
def u64 (n : Int) : Nat := (n % 18446744073709551616).toNat
theorem u64_wrap (n : Int) : IntKind.u64.wrap n = ((u64 n : Nat) : Int) := by rw [IntKind.wrap_u64]; unfold u64; omega
theorem u64_lt (n : Int) : u64 n < 18446744073709551616 := by unfold u64; omega
/-- Eight bytes of a number, the least significant first. -/
def le8 (n : Nat) : List UInt8 := (List.range 8).map fun i => UInt8.ofNat (n >>> (8 * i))
theorem le8_length (n : Nat) : (le8 n).length = 8 := by simp [le8]
theorem le8_get (n i : Nat) (h : i < 8) : (le8 n).getD i 0 = UInt8.ofNat (n >>> (8 * i)) := by
  simp only [le8, List.getD_eq_getElem?_getD, List.getElem?_map, List.getElem?_range h]; rfl
theorem byte_val (n i : Nat) : IntKind.u8.wrap ((n : Int) / 2 ^ (8 * i)) = (((UInt8.ofNat (n >>> (8 * i))).toNat : Nat) : Int) := by
  have h : ((n : Int) / 2 ^ (8 * i)) = ((n >>> (8 * i) : Nat) : Int) := by rw [Nat.shiftRight_eq_div_pow]; simp
  rw [h, wrap_u8_nat]; simp
theorem byte_val' (n i : Nat) : (n : Int) / 2 ^ (8 * i) % 256 = (((UInt8.ofNat (n >>> (8 * i))).toNat : Nat) : Int) := by
  rw [← byte_val, IntKind.wrap_u8]
/-- The first k bytes laid, the others still 0. -/
def leK (n k : Nat) : List UInt8 := (le8 n).take k ++ List.replicate (8 - k) 0
theorem leK_length (n k : Nat) (hk : k ≤ 8) : (leK n k).length = 8 := by simp [leK, le8_length]; omega
theorem leK_full (n : Nat) : leK n 8 = le8 n := by simp [leK, le8_length, List.take_of_length_le]
theorem leK_set (n k : Nat) (hk : k < 8) : (leK n k).set k (UInt8.ofNat (n >>> (8 * k))) = leK n (k + 1) := by
  have hl := le8_length n
  have h1 : (le8 n).take (k + 1) = (le8 n).take k ++ [UInt8.ofNat (n >>> (8 * k))] := by
    rw [List.take_succ_eq_append_getElem (by omega)]
    congr 2
    have := le8_get n k hk
    rw [List.getD_eq_getElem?_getD, List.getElem?_eq_getElem (by omega)] at this
    simpa using this
  have h2 : 8 - k = (8 - (k + 1)) + 1 := by omega
  simp only [leK, h1]
  rw [h2, List.replicate_succ, List.set_append_right _ _ (by simp; omega)]
  simp [hl, Nat.min_eq_left (by omega : k ≤ 8)]
theorem bRow_leK_zero (n : Nat) : bRow (leK n 0) = #[.int .u8 0, .int .u8 0, .int .u8 0, .int .u8 0, .int .u8 0, .int .u8 0, .int .u8 0, .int .u8 0] := by
  simp [leK, bRow, List.replicate_succ]
attribute [irreducible] bRow leK le8
end Go.Proofs.YtgejmgkjhoaamaaGreatDoor
namespace Go.Proofs.YtgejmgkjhoaamaaGreatDoor
open Go.RowKit
set_option maxHeartbeats 400000 in
theorem number_calls (n : Int) (w : World) :
    Calls Tryz.prog 31 #[.int .i64 n] w fun e w' => ∃ b, e = .returned (.slice (some ⟨b, 0, none⟩) 8 8) ∧ w.heap.size ≤ b ∧ obj w' b = some (.cells (bRow (le8 (u64 n))) 103 (0, 0)) ∧ Below w.heap.size w w' := by
  have hw := Lib.hid (u64_wrap n)
  have hu := u64_lt n
  generalize u64 n = N at *
  go_enter Tryz.func31, Tryz.ntmps31
  repeat' (first | go_skip | go_guarded | go_step | go_upon)
  go_loopw [5] (fun i wr => ∃ k : Nat, k ≤ 8 ∧ i = .int .i64 k ∧ obj wr w.heap.size = some (.cells (bRow (leK N k)) 103 (0, 0)) ∧ Below w.heap.size w wr)
    (fun i _ => (8 - intOf i).toNat)
  case atStart =>
    refine ⟨0, by omega, rfl, ?_, (Below.refl _ _).alloc (Nat.le_refl _) _⟩
    rw [obj_alloc_at _ _ _ rfl, bRow_leK_zero]
  case round =>
    obtain ⟨k, hk, rfl, h1, hB⟩ := hrel
    have c := row_cells h1
    by_cases hlt : k < 8
    · have c0 : wr.cell? ⟨w.heap.size, k, none⟩ = some (B8 ((leK N k).getD k 0).toNat) := (c k).trans (bRow_get _ _ (by rw [leK_length _ _ hk]; exact hlt))
      have f0 := row_free h1 k
      have HV := Lib.hid (byte_val' N k)
      have HS := Lib.hid (leK_set N k hlt)
      have p0 : 0 ≤ 8 * (k : Int) := by omega
      have p1 : 8 * (k : Int) ≤ 64 := by omega
      have n0 : (8 * (k : Int)).toNat = 8 * k := by omega
      clear c
      repeat' (first | go_skip | go_guarded | go_step | go_upon)
      go_roundw
      case rel =>
        refine ⟨k + 1, by omega, by go_num, ?_, hB.setCell (by simp) _⟩
        rw [obj_setCell_at, h1, hw.out, HV.out, ← HS.out, ← bRow_set]; rfl
      case measure => simp [intOf]; omega
    · have h1' : obj wr w.heap.size = some (.cells (bRow (le8 N)) 103 (0, 0)) := by rw [h1, show k = 8 by omega, leK_full]
      repeat' (first | go_skip | go_guarded | go_step | go_upon)
      go_ret
      exact ⟨_, rfl, Nat.le_refl _, h1', hB⟩
def isSrv (n : Int) : Bool := decide (0 ≤ n) && decide (n < 16)
set_option maxHeartbeats 400000 in
theorem isServer_calls (n : Int) (w : World) : Calls Tryz.prog 30 #[.int .i64 n] w fun e w' => e = .returned (.bool (isSrv n)) ∧ w' = w := by
  by_cases h : 0 ≤ n
  · go_enter Tryz.func30, Tryz.ntmps30
    repeat' (first | go_skip | go_guarded | go_step | go_upon)
    go_ret
    exact ⟨by simp [isSrv, h], rfl⟩
  · go_enter Tryz.func30, Tryz.ntmps30
    repeat' (first | go_skip | go_guarded | go_step | go_upon)
    go_ret
    exact ⟨by simp [isSrv, h], rfl⟩
/-- The number of eight bytes. -/
def val8 (l : List UInt8) : Nat → Nat
  | 0 => 0
  | k + 1 => (val8 l k * 256 + (l.getD (7 - k) 0).toNat) % 18446744073709551616
set_option maxHeartbeats 400000 in
theorem value_calls (b off n cap : Nat) (l : List UInt8) (hl : l.length = 8) (hn : 8 ≤ n) (w : World) (hc : ∀ j, j < 8 → w.cell? ⟨b, off + j, none⟩ = some (B8 (l.getD j 0).toNat)) :
    Calls Tryz.prog 16 #[.slice (some ⟨b, off, none⟩) n cap] w fun e w' => e = .returned (.int .i64 (IntKind.i64.wrap (val8 l 8 : Nat))) ∧ w' = w := by
  go_enter Tryz.func16, Tryz.ntmps16
  repeat' (first | go_skip | go_guarded | go_step | go_upon)
  go_loop [3, 4] (fun v i => ∃ k : Nat, k ≤ 8 ∧ i = .int .i64 (7 - (k : Int)) ∧ v = .int .u64 (val8 l k : Nat)) (fun _ i => (intOf i + 1).toNat)
  case atStart => exact ⟨0, by omega, rfl, rfl⟩
  case round =>
    obtain ⟨k, hk, rfl, rfl⟩ := hrel
    by_cases hlt : k < 8
    · have c := hc (7 - k) (by omega)
      have p0 : 0 ≤ 7 - (k : Int) := by omega
      have p1 : 7 - (k : Int) < n := by omega
      have n0 : (7 - (k : Int)).toNat = 7 - k := by omega
      have HV := Lib.hid (shift_in (val8 l k) (l.getD (7 - k) 0).toNat (by have := (l.getD (7 - k) 0).toNat_lt; omega))
      repeat' (first | go_skip | go_guarded | go_step | go_upon)
      go_round
      case rel => exact ⟨k + 1, by omega, by congr 1; omega, by rw [← List.getD_eq_getElem?_getD, HV.out]; rfl⟩
      case measure => simp [intOf]; omega
    · repeat' (first | go_skip | go_guarded | go_step | go_upon)
      go_ret
      exact ⟨by rw [show k = 8 by omega, IntWalk.i64_left]; rfl, rfl⟩
end Go.Proofs.YtgejmgkjhoaamaaGreatDoor
namespace Go.Proofs.YtgejmgkjhoaamaaGreatDoor
open Go.RowKit
/-- An envelope: its numbers, its body as a slice value, the 32 bytes at its end. -/
structure Env where
  frm : Int
  dst : Int
  seq : Int
  body : Value
  seal32 : List UInt8
def Env.row (e : Env) : Array Value := #[.int .i64 e.frm, .int .i64 e.dst, .int .i64 e.seq, e.body] ++ bRow e.seal32
theorem Env_size (e : Env) (h : e.seal32.length = 32) : e.row.size = 36 := by simp [Env.row, bRow_size, h]
theorem Env_all (e : Env) (h : e.seal32.length = 32) : e.row.extract 0 36 = e.row := extract_all _ _ (Env_size e h)
theorem Env_seal (e : Env) (h : e.seal32.length = 32) : e.row.extract 4 36 = bRow e.seal32 := by
  apply Array.ext'
  simp [Env.row, Array.toList_extract]
  apply List.take_of_length_le
  simp [bRow_size, h]
@[go_sem] theorem Env_0 (e : Env) : e.row[0]? = some (.int .i64 e.frm) := by simp [Env.row, Array.getElem?_append]
@[go_sem] theorem Env_1 (e : Env) : e.row[1]? = some (.int .i64 e.dst) := by simp [Env.row, Array.getElem?_append]
@[go_sem] theorem Env_2 (e : Env) : e.row[2]? = some (.int .i64 e.seq) := by simp [Env.row, Array.getElem?_append]
@[go_sem] theorem Env_3 (e : Env) : e.row[3]? = some e.body := by simp [Env.row, Array.getElem?_append]
attribute [irreducible] Env.row
def formedB (e : Env) (n : Nat) : Bool := isSrv e.frm && isSrv e.dst && (e.frm != e.dst) && decide (1 ≤ e.seq) && decide (e.seq ≤ 1099511627776) && decide (n ≤ 1048576)
set_option maxHeartbeats 1000000 in
theorem formed_calls (e : Env) (a : Option Addr) (n c : Nat) (he : e.body = .slice a n c) (w : World) :
    Calls Tryz.prog 17 #[.agg e.row] w fun r w' => r = .returned (.bool (formedB e n)) ∧ Below w.heap.size w w' := by
  have h3 : e.row[3]? = some (.slice a n c) := by rw [Env_3, he]
  clear he
  cases b1 : isSrv e.frm
  · go_enter Tryz.func17, Tryz.ntmps17
    repeat' (first | (go_at_call 30; ((with_reducible refine (isServer_calls _ _).mono ?_)); rintro r w' ⟨rfl, rfl⟩; dsimp only) | go_skip | go_guarded | go_step | go_upon)
    go_ret
    exact ⟨by first | (simp [formedB, b1]; done) | (simp [formedB, b1]; rfl), (Below.refl _ _).alloc (Nat.le_refl _) _⟩
  · cases b2 : isSrv e.dst
    · go_enter Tryz.func17, Tryz.ntmps17
      repeat' (first | (go_at_call 30; ((with_reducible refine (isServer_calls _ _).mono ?_)); rintro r w' ⟨rfl, rfl⟩; dsimp only) | go_skip | go_guarded | go_step | go_upon)
      go_ret
      exact ⟨by first | (simp [formedB, b1, b2]; done) | (simp [formedB, b1, b2]; rfl), (Below.refl _ _).alloc (Nat.le_refl _) _⟩
    · cases b3 : (e.frm != e.dst)
      · go_enter Tryz.func17, Tryz.ntmps17
        repeat' (first | (go_at_call 30; ((with_reducible refine (isServer_calls _ _).mono ?_)); rintro r w' ⟨rfl, rfl⟩; dsimp only) | go_skip | go_guarded | go_step | go_upon)
        go_ret
        exact ⟨by first | (simp [formedB, b1, b2, b3]; done) | (simp [formedB, b1, b2, b3]; rfl), (Below.refl _ _).alloc (Nat.le_refl _) _⟩
      · by_cases b4 : 1 ≤ e.seq
        rotate_left
        · go_enter Tryz.func17, Tryz.ntmps17
          repeat' (first | (go_at_call 30; ((with_reducible refine (isServer_calls _ _).mono ?_)); rintro r w' ⟨rfl, rfl⟩; dsimp only) | go_skip | go_guarded | go_step | go_upon)
          go_ret
          exact ⟨by first | (simp [formedB, b1, b2, b3, b4]; done) | (simp [formedB, b1, b2, b3, b4]; rfl), (Below.refl _ _).alloc (Nat.le_refl _) _⟩
        · by_cases b5 : e.seq ≤ 1099511627776
          rotate_left
          · go_enter Tryz.func17, Tryz.ntmps17
            repeat' (first | (go_at_call 30; ((with_reducible refine (isServer_calls _ _).mono ?_)); rintro r w' ⟨rfl, rfl⟩; dsimp only) | go_skip | go_guarded | go_step | go_upon)
            go_ret
            exact ⟨by first | (simp [formedB, b1, b2, b3, b4, b5]; done) | (simp [formedB, b1, b2, b3, b4, b5]; rfl), (Below.refl _ _).alloc (Nat.le_refl _) _⟩
          · go_enter Tryz.func17, Tryz.ntmps17
            repeat' (first | (go_at_call 30; ((with_reducible refine (isServer_calls _ _).mono ?_)); rintro r w' ⟨rfl, rfl⟩; dsimp only) | go_skip | go_guarded | go_step | go_upon)
            go_ret
            exact ⟨by first | (simp [formedB, b1, b2, b3, b4, b5]; done) | (simp [formedB, b1, b2, b3, b4, b5]; omega), (Below.refl _ _).alloc (Nat.le_refl _) _⟩
end Go.Proofs.YtgejmgkjhoaamaaGreatDoor
namespace Go.Proofs.YtgejmgkjhoaamaaGreatDoor
open Go.RowKit
theorem info_u8 : ∃ i, Tryz.prog.info? 5 = some i ∧ i.zero = some (.int .u8 0) ∧ i.size = 1 ∧ i.bytes = 1 :=
  info_parts (show (Tryz.prog.info? 5).map (fun i => (i.zero, i.size, i.bytes)) = some (some (.int .u8 0), 1, 1) by kernel_rfl)
/-- Bytes as cells. -/
def bCells (l : List UInt8) : List Value := l.map fun c => B8 c.toNat
theorem bCells_length (l : List UInt8) : (bCells l).length = l.length := by simp [bCells]
theorem bCells_append (l m : List UInt8) : bCells (l ++ m) = bCells l ++ bCells m := by simp [bCells]
theorem bCells_one (l : List UInt8) : ∀ u ∈ bCells l, u.oneCell' = true := by
  intro u hu
  obtain ⟨c, _, rfl⟩ := List.mem_map.1 hu
  rfl
theorem bRow_list (l : List UInt8) : (bRow l).toList = bCells l := by unfold bRow bCells; rfl
theorem news_bRow {w : World} {b : Nat} {l : List UInt8} {T : TypeId} {fr : Nat × Nat} (h : obj w b = some (.cells (bRow l) T fr)) : ∀ j u, (bCells l)[j]? = some u → w.cell? ((⟨b, 0, none⟩ : Addr).add j) = some u := by
  rw [← bRow_list]
  exact World.news_of_block h
theorem owns_below {w w' : World} {base : Nat} {e : TypeId} {size : Nat} {v : Value} {n : Nat} {xs : List Value} {B : Nat} (h : w.ownsRow base e size v n xs) (hb : Below B w w') (hv : ∀ g, v.ownBlock = some g → g < B) : w'.ownsRow base e size v n xs := by
  refine ⟨h.1, ?_⟩
  rcases h.2 with hn | ⟨g, cap, cur, rfl, h1, h2, h3⟩
  · exact .inl hn
  · exact .inr ⟨g, cap, cur, rfl, h1, (hb.block g (hv g rfl)).trans h2, h3⟩
theorem owns_base {w : World} {base base' : Nat} {e : TypeId} {size : Nat} {v : Value} {n : Nat} {xs : List Value} (h : w.ownsRow base e size v n xs) (hb : base' ≤ base) : w.ownsRow base' e size v n xs := by
  refine ⟨h.1, ?_⟩
  rcases h.2 with hn | ⟨g, cap, cur, rfl, h1, h2, h3⟩
  · exact .inl hn
  · exact .inr ⟨g, cap, cur, rfl, Nat.le_trans hb h1, h2, h3⟩
/-- The header's numbers, the first k of them. -/
def hdrK (e : Env) : Nat → List UInt8
  | 0 => []
  | 1 => le8 (u64 e.frm)
  | 2 => le8 (u64 e.frm) ++ le8 (u64 e.dst)
  | _ => le8 (u64 e.frm) ++ le8 (u64 e.dst) ++ le8 (u64 e.seq)
def fldK (e : Env) : Nat → Int
  | 0 => e.frm
  | 1 => e.dst
  | _ => e.seq
theorem hdrK_next (e : Env) (k : Nat) (h : k < 3) : hdrK e k ++ le8 (u64 (fldK e k)) = hdrK e (k + 1) := by
  have : k = 0 ∨ k = 1 ∨ k = 2 := by omega
  rcases this with rfl | rfl | rfl <;> simp [hdrK, fldK]
theorem fldK_at (e : Env) (k : Nat) (h : k < 3) : (#[Value.int .i64 e.frm, .int .i64 e.dst, .int .i64 e.seq] : Array Value)[k]? = some (.int .i64 (fldK e k)) := by
  have : k = 0 ∨ k = 1 ∨ k = 2 := by omega
  rcases this with rfl | rfl | rfl <;> rfl
def hdr (e : Env) : List UInt8 := hdrK e 3
theorem hdr_length (e : Env) : (hdr e).length = 24 := by simp [hdr, hdrK, le8_length]
theorem index_fld (e : Env) (k : Nat) (h : k < 3) (w : World) : (Instr.index 86 (.agg #[.int .i64 e.frm, .int .i64 e.dst, .int .i64 e.seq]) (.int .i64 (k : Int))).run Tryz.prog w = .ok (.int .i64 (fldK e k)) w := by
  have : k = 0 ∨ k = 1 ∨ k = 2 := by omega
  rcases this with rfl | rfl | rfl <;> (show _ = _; kernel_rfl)
attribute [irreducible] hdrK fldK hdr bCells
set_option maxHeartbeats 1000000 in
set_option maxRecDepth 100000 in
theorem header_calls (e : Env) (w : World) :
    Calls Tryz.prog 18 #[.agg e.row] w fun r w' => ∃ v, r = .returned v ∧ w'.ownsRow w.heap.size 5 1 v 24 (bCells (hdr e)) ∧ Below w.heap.size w w' := by
  obtain ⟨i0, hi, hz0, hz1, hz2⟩ := info_u8
  go_enter Tryz.func18, Tryz.ntmps18
  repeat' (first | (at_make; refine wpList_make_own _ rfl _ _ 22 rfl (w.heap.size + 1) 5 i0 _ 1 Tryz.underlying22 hi hz0 hz1 .i64 .i64 24 24 rfl rfl rfl (by omega) (by unfold maxLen; omega) (by simp) ?_; intro w1 hown hgrow; have h0 : obj w1 w.heap.size = some (.cells e.row 27 (0, 0)) := keep_grown (obj_alloc_at _ _ _ rfl) hgrow (by simp); have hB : Below w.heap.size w w1 := ((Below.refl _ _).alloc (Nat.le_refl _) _).grown hgrow (by simp) (by simp); have hz := hgrow.size; have hs : (w.alloc (.cells e.row 27 (0, 0))).heap.size = w.heap.size + 1 := (by simp); rw [hs] at hz hown; clear hgrow hs; have c0 := (row_cells h0 0).trans (Env_0 e); have c1 := (row_cells h0 1).trans (Env_1 e); have c2 := (row_cells h0 2).trans (Env_2 e); clear h0) | go_skip | go_guarded | go_step | go_upon)
  clear c0 c1 c2
  go_loopw [3, 14] (fun v i wr => ∃ k : Nat, k ≤ 3 ∧ i = .int .i64 k ∧ v = .slice (some ⟨w.heap.size + 1, 0, none⟩) (8 * k) 24 ∧ wr.ownsRow (w.heap.size + 1) 5 1 (.slice (some ⟨w.heap.size + 1, 0, none⟩) (8 * k) 24) (8 * k) (bCells (hdrK e k)) ∧ Below w.heap.size w wr ∧ w.heap.size + 1 < wr.heap.size)
    (fun _ i _ => (3 - intOf i).toNat)
  case atStart =>
    refine ⟨0, by omega, rfl, rfl, ?_, hB, ?_⟩
    · have e0 : bCells (hdrK e 0) = [] := by unfold bCells hdrK; rfl
      rw [e0]; exact hown
    · rcases hown.2 with ⟨h, _⟩ | ⟨g, cap, cur, hv, _, hg, _⟩
      · cases h
      · cases hv; exact (Array.getElem?_eq_some_iff.1 hg).1
  case round =>
    obtain ⟨k, hk, rfl, rfl, hown, hB, hlt0⟩ := hrel
    by_cases hlt : k < 3
    · have hix := index_fld e k hlt wr
      have HN := Lib.hid (hdrK_next e k hlt)
      repeat' (first | (go_at_call 31; ((with_reducible refine (number_calls _ _).mono ?_)); rintro r w2 ⟨b, rfl, hbw, hbo, hbB⟩; dsimp only) | (at_builtin; refine wpList_append_fits _ rfl _ _ 22 rfl (w.heap.size + 1) 5 i0 1 Tryz.underlying22 hi hz1 (w.heap.size + 1) (8 * k) 24 (bCells (hdrK e k)) rfl (owns_below hown hbB (fun g hg => by cases hg; omega)) ⟨b, 0, none⟩ 8 8 (bCells (le8 (u64 (fldK e k)))) rfl (by rw [bCells_length, le8_length]) (news_bRow hbo) (bCells_one _) (by omega) ?_; intro w3 hown3 hgrow3) | go_skip | go_guarded | go_step | go_upon)
      go_roundw
      case rel =>
        refine ⟨k + 1, by omega, by go_num, by congr 1, ?_, (hB.trans (hbB.mono (by omega))).grown hgrow3 (by have := hbB.size; omega) (fun g hg => by cases hg; omega), ?_⟩
        · rw [← bCells_append, HN.out] at hown3; exact hown3
        · have := hbB.size; have := hgrow3.size; omega
      case measure => simp [intOf]; omega
    · have hown' : wr.ownsRow w.heap.size 5 1 (.slice (some ⟨w.heap.size + 1, 0, none⟩) 24 24) 24 (bCells (hdr e)) := by
        have h3 : k = 3 := by omega
        subst h3
        unfold hdr
        exact owns_base hown (by omega)
      have h24 : 8 * k = 24 := by omega
      rw [h24]
      clear hown h24
      repeat' (first | go_skip | go_guarded | go_step | go_upon)
      go_ret
      exact ⟨_, rfl, hown', hB⟩
end Go.Proofs.YtgejmgkjhoaamaaGreatDoor
namespace Go.Proofs.YtgejmgkjhoaamaaGreatDoor
open Go.RowKit
theorem owns_cap {w : World} {base : Nat} {e : TypeId} {size : Nat} {ad : Addr} {n cap : Nat} {xs : List Value} (h : w.ownsRow base e size (.slice (some ad) n cap) n xs) : n ≤ cap ∧ ad.block < w.heap.size ∧ base ≤ ad.block := by
  rcases h.2 with ⟨h, _⟩ | ⟨g, c, cur, hv, h1, h2, h3, _⟩
  · cases h
  · cases hv; exact ⟨h3, (Array.getElem?_eq_some_iff.1 h2).1, h1⟩
/-- append of bytes, whether something is appended or not. -/
theorem wpList_append_b {w : World} {ops : Array Oper} {rest : List Oper} {o : Oper} {a : Act} {Q : Exit → Act → World → Prop} (hgd : o.guard = none) (s x : Operand)
    (ho : o.op = .call { callee := .builtin .append, args := #[s, x], argTypes := #[22, 22] })
    (base g n cap : Nat) (xs : List Value) (hs : a.eval s = .slice (some ⟨g, 0, none⟩) n cap) (hown : w.ownsRow base 5 1 (.slice (some ⟨g, 0, none⟩) n cap) n xs)
    (ad : Addr) (m c : Nat) (news : List Value) (hx : a.eval x = .slice (some ad) m c) (hl : news.length = m) (hnews : ∀ j u, news[j]? = some u → w.cell? (ad.add j) = some u) (h1 : ∀ u ∈ news, u.oneCell' = true)
    (h63 : n + m ≤ 1000000000)
    (h : ∀ g' cap' w', w'.ownsRow base 5 1 (.slice (some ⟨g', 0, none⟩) (n + m) cap') (n + m) (xs ++ news) → w.grownBy w' (some g) → (g' = g ∨ g' = w.heap.size) → wpList Tryz.prog ops Q rest (a.put o.dst (.slice (some ⟨g', 0, none⟩) (n + m) cap')) w') : wpList Tryz.prog ops Q (o :: rest) a w := by
  obtain ⟨i0, hi, hz0, hz1, hz2⟩ := info_u8
  obtain ⟨k1, k2, k3⟩ := owns_cap hown
  by_cases hm : m = 0
  · exact wpList_append_fits w hgd s x _ ho base _ i0 1 Tryz.underlying22 hi hz1 g n cap xs hs hown ad m c news hx (by omega) hnews h1 (by omega) fun w' q1 q2 => h g cap w' q1 q2 (.inl rfl)
  · exact wpList_append_lies w hgd s x _ ho base _ i0 _ 1 1 Tryz.underlying22 hi hz0 hz1 hz2 rfl (by decide) _ n xs hs hown ad m c news hx (by omega) hnews h1 (by omega) (by unfold maxLen; omega) (by omega) (by dsimp only at k2 k3; omega) _ rfl fun g' cap' w' q1 q2 q3 _ => h g' cap' w' q1 q2 (by rcases q3 with e | e; exact .inl (by simpa [Value.ownBlock] using e.symm); exact .inr e)
theorem bRow_sub (w : World) (b off : Nat) (l : List UInt8) (cs : Array Value) (T : TypeId) (fr : Nat × Nat) (h : obj w b = some (.cells cs T fr)) (hx : cs.extract off (off + l.length) = bRow l) : ∀ j u, (bCells l)[j]? = some u → w.cell? ((⟨b, off, none⟩ : Addr).add j) = some u := fun j u hu => by
  rw [Addr.add_lit, row_cells h]
  have hj : j < l.length := by
    have := (List.getElem?_eq_some_iff.1 hu).1
    rwa [bCells_length] at this
  have h2 : (bRow l)[j]? = some u := by rw [← Array.getElem?_toList, bRow_list]; exact hu
  rw [← hx, Array.getElem?_extract] at h2
  split at h2
  · exact h2
  · cases h2
set_option maxHeartbeats 2000000 in
set_option maxRecDepth 100000 in
theorem bytes_calls (e : Env) (hs : e.seal32.length = 32) (ad : Addr) (c : Nat) (body : List UInt8) (he : e.body = .slice (some ad) body.length c) (w : World) (hb : ∀ j u, (bCells body)[j]? = some u → w.cell? (ad.add j) = some u) (hla : ad.block < w.heap.size) (hf : formedB e body.length = true) :
    Calls Tryz.prog 7 #[.agg e.row] w fun r w' => ∃ v, r = .returned (.tuple #[v, .int .i64 0]) ∧ w'.ownsRow w.heap.size 5 1 v (56 + body.length) (bCells (hdr e ++ e.seal32 ++ body)) ∧ Below w.heap.size w w' := by
  obtain ⟨i0, hi, hz0, hz1, hz2⟩ := info_u8
  have hr := Env_size e hs
  have hall := Env_all e hs
  go_enter Tryz.func7, Tryz.ntmps7
  repeat' (first | (go_at_call 17; ((with_reducible refine (formed_calls e _ body.length c he _).mono ?_)); rintro r w1 ⟨rfl, hb1⟩; dsimp only) | go_skip | go_guarded | go_step | go_upon)
  have h0 : obj w1.drew w.heap.size = some (.cells e.row 27 (0, 0)) := keep_drew (keep_below (obj_alloc_at _ _ _ rfl) hb1 (by simp))
  have hB1 : Below w.heap.size w w1.drew := (((Below.refl _ _).alloc (Nat.le_refl _) _).trans (hb1.mono (by simp))).drew
  have hz1' : w.heap.size + 1 ≤ w1.heap.size := by have := hb1.size; simpa using this
  clear hb1
  go_region_law (first | ((go_simp; go_at_call 18; ((with_reducible refine (header_calls e _).mono ?_)); rintro r w2 ⟨v, rfl, hown, hb2⟩; obtain ⟨g, cap, rfl, hg1, hg2⟩ := hown.form (by decide); have h2 := keep_below h0 hb2 (by simp; omega); dsimp only)) | ((refine step_append_lies _ (by rfl) _ _ _ (by rfl) w.heap.size 5 i0 _ 1 1 Tryz.underlying22 hi hz0 hz1 hz2 rfl (by decide) _ _ _ (by rfl) (owns_base hown (by simp; omega)) ⟨w.heap.size, 4, none⟩ 32 32 (bCells e.seal32) (by rfl) (by rw [bCells_length, hs]) (bRow_sub _ _ 4 e.seal32 _ _ _ h2 (by rw [hs]; exact Env_seal e hs)) (bCells_one _) (by decide) (by unfold maxLen; decide) (by decide) (by have := hb2.size; simp at this; omega) _ rfl ?_; intro g3 cap3 w3 hown3 hgrow3 hat3 hlt3)))
  have hd : w1.drew.heap.size = w1.heap.size := rfl
  have hne : w.heap.size ≠ g := by omega
  have h3 := keep_grown h2 hgrow3 (by simp [Value.ownBlock]; exact hne)
  have c3 := (row_cells h3 3).trans ((Env_3 e).trans (congrArg some he))
  have hB2 := hB1.trans (hb2.mono (by simp; omega))
  have hB3 := hB2.grown hgrow3 (by have := hB2.size; omega) (fun k hk => by cases hk; show _ ≤ g; omega)
  have hl56 : body.length ≤ 1048576 := by
    unfold formedB at hf
    simp only [Bool.and_eq_true, decide_eq_true_eq] at hf
    exact hf.2
  have hb3 : ∀ j u, (bCells body)[j]? = some u → w3.cell? (ad.add j) = some u := fun j u hu => by
    rw [hB3.cell (p := ad.add j) (by unfold Addr.add; split <;> exact hla)]
    exact hb j u hu
  clear h0 hB1 hb2 hown h2 hgrow3 hat3 h3 hB2 hg1 hg2 he hf hb hd hne
  repeat' (first | (at_builtin; refine wpList_append_b (by rfl) _ _ (by rfl) w.heap.size g3 56 cap3 _ (by rfl) hown3 ad body.length c (bCells body) (by rfl) (bCells_length body) hb3 (bCells_one _) (by omega) ?_; intro g4 cap4 w4 hown4 hgrow4 hat4) | go_skip | go_guarded | go_step | go_upon)
  go_ret2
  refine ⟨_, rfl, ?_, hB3.grown hgrow4 (by have := hB3.size; omega) (fun k hk => by cases hk; exact (owns_cap hown3).2.2)⟩
  rw [bCells_append, bCells_append]
  exact hown4
/-- Not formed: nothing. -/
theorem bytes_none (e : Env) (hs : e.seal32.length = 32) (a : Option Addr) (n c : Nat) (he : e.body = .slice a n c) (w : World) (hf : formedB e n = false) :
    Calls Tryz.prog 7 #[.agg e.row] w fun r w' => r = .returned (.tuple #[.slice none 0 0, .int .i64 1]) ∧ Below w.heap.size w w' := by
  have hr := Env_size e hs
  have hall := Env_all e hs
  go_enter Tryz.func7, Tryz.ntmps7
  repeat' (first | (go_at_call 17; ((with_reducible refine (formed_calls e a n c he _).mono ?_)); rintro r w1 ⟨rfl, hb1⟩; dsimp only) | go_skip | go_guarded | go_step | go_upon)
  go_ret2
  exact ⟨rfl, ((Below.refl _ _).alloc (Nat.le_refl _) _).trans (hb1.mono (by simp))⟩
end Go.Proofs.YtgejmgkjhoaamaaGreatDoor
