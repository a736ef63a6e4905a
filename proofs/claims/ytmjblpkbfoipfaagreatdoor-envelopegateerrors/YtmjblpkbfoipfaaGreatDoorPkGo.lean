/-
  Envelopes as rows; the walk of envelope.formed.
-/
import Derived.Test.YtmjblpkbfoipfaaGreatDoorProg
import Derived.WalkKit
import Derived.WalkSpells
import Derived.WalkLawsBesides
import Derived.Handy
import Derived.Lib.Hide
import Derived.Laws.CopyOwn
import Derived.Deep.QuietTactic
import Derived.BigQuiet
import Derived.BigRegion
import Derived.StillTailTactics
import Derived.RegionTactic
import Derived.LoopTactic
import Derived.Test.YtmjblpkbfoipfaaGreatDoorPkTab
import Derived.Test.YtmjblpkbfoipfaaGreatDoorPkShp
import Derived.Test.YtmjblpkbfoipfaaGreatDoorPkGq
set_option linter.unusedSectionVars false
set_option linter.constructorNameAsVariable false
set_option linter.unusedVariables false
set_option linter.unusedSimpArgs false
namespace Go.Proofs.YtmjblpkbfoipfaaGreatDoor
open Go.RowKit
structure Env where
  frm : Int
  dst : Int
  seq : Int
  body : Value
  seal32 : List UInt8
def Env.row (e : Env) : Array Value := #[.int .i64 e.frm, .int .i64 e.dst, .int .i64 e.seq, e.body] ++ bRow e.seal32
theorem Env_size (e : Env) (h : e.seal32.length = 32) : e.row.size = 36 := by simp [Env.row, bRow_size, h]
theorem Env_all (e : Env) (h : e.seal32.length = 32) : e.row.extract 0 36 = e.row := extract_all _ _ (Env_size e h)
theorem Env_seal (e : Env) (h : e.seal32.length = 32) : e.row.extract 4 36 = bRow e.seal32 := by
  apply Array.ext'
  simp [Env.row, Array.toList_extract]
  apply List.take_of_length_le
  simp [bRow_size, h]
@[go_sem] theorem Env_0 (e : Env) : e.row[0]? = some (.int .i64 e.frm) := by simp [Env.row, Array.getElem?_append]
@[go_sem] theorem Env_1 (e : Env) : e.row[1]? = some (.int .i64 e.dst) := by simp [Env.row, Array.getElem?_append]
@[go_sem] theorem Env_2 (e : Env) : e.row[2]? = some (.int .i64 e.seq) := by simp [Env.row, Array.getElem?_append]
@[go_sem] theorem Env_3 (e : Env) : e.row[3]? = some e.body := by simp [Env.row, Array.getElem?_append]
attribute [irreducible] Env.row
def formedB (e : Env) (n : Nat) : Bool := isSrv e.frm && isSrv e.dst && (e.frm != e.dst) && decide (1 ≤ e.seq) && decide (e.seq ≤ 1099511627776) && decide (n ≤ 1048576)
set_option maxHeartbeats 1000000 in
theorem formed_calls (e : Env) (a : Option Addr) (n c : Nat) (he : e.body = .slice a n c) (w : World) :
    Calls Tryz.prog 40 #[.agg e.row] w fun r w' => r = .returned (.bool (formedB e n)) ∧ Below w.heap.size w w' := by
  have h3 : e.row[3]? = some (.slice a n c) := by rw [Env_3, he]
  clear he
  cases b1 : isSrv e.frm
  · go_enter Tryz.func40, Tryz.ntmps40
    repeat' (first | (go_at_call 62; ((with_reducible refine (isServer_calls _ _).mono ?_)); rintro r w' ⟨rfl, rfl⟩; dsimp only) | go_skip | go_guarded | go_step | go_upon)
    go_ret
    exact ⟨by first | (simp [formedB, b1]; done) | (simp [formedB, b1]; rfl), (Below.refl _ _).alloc (Nat.le_refl _) _⟩
  · cases b2 : isSrv e.dst
    · go_enter Tryz.func40, Tryz.ntmps40
      repeat' (first | (go_at_call 62; ((with_reducible refine (isServer_calls _ _).mono ?_)); rintro r w' ⟨rfl, rfl⟩; dsimp only) | go_skip | go_guarded | go_step | go_upon)
      go_ret
      exact ⟨by first | (simp [formedB, b1, b2]; done) | (simp [formedB, b1, b2]; rfl), (Below.refl _ _).alloc (Nat.le_refl _) _⟩
    · cases b3 : (e.frm != e.dst)
      · go_enter Tryz.func40, Tryz.ntmps40
        repeat' (first | (go_at_call 62; ((with_reducible refine (isServer_calls _ _).mono ?_)); rintro r w' ⟨rfl, rfl⟩; dsimp only) | go_skip | go_guarded | go_step | go_upon)
        go_ret
        exact ⟨by first | (simp [formedB, b1, b2, b3]; done) | (simp [formedB, b1, b2, b3]; rfl), (Below.refl _ _).alloc (Nat.le_refl _) _⟩
      · by_cases b4 : 1 ≤ e.seq
        rotate_left
        · go_enter Tryz.func40, Tryz.ntmps40
          repeat' (first | (go_at_call 62; ((with_reducible refine (isServer_calls _ _).mono ?_)); rintro r w' ⟨rfl, rfl⟩; dsimp only) | go_skip | go_guarded | go_step | go_upon)
          go_ret
          exact ⟨by first | (simp [formedB, b1, b2, b3, b4]; done) | (simp [formedB, b1, b2, b3, b4]; rfl), (Below.refl _ _).alloc (Nat.le_refl _) _⟩
        · by_cases b5 : e.seq ≤ 1099511627776
          rotate_left
          · go_enter Tryz.func40, Tryz.ntmps40
            repeat' (first | (go_at_call 62; ((with_reducible refine (isServer_calls _ _).mono ?_)); rintro r w' ⟨rfl, rfl⟩; dsimp only) | go_skip | go_guarded | go_step | go_upon)
            go_ret
            exact ⟨by first | (simp [formedB, b1, b2, b3, b4, b5]; done) | (simp [formedB, b1, b2, b3, b4, b5]; rfl), (Below.refl _ _).alloc (Nat.le_refl _) _⟩
          · go_enter Tryz.func40, Tryz.ntmps40
            repeat' (first | (go_at_call 62; ((with_reducible refine (isServer_calls _ _).mono ?_)); rintro r w' ⟨rfl, rfl⟩; dsimp only) | go_skip | go_guarded | go_step | go_upon)
            go_ret
            exact ⟨by first | (simp [formedB, b1, b2, b3, b4, b5]; done) | (simp [formedB, b1, b2, b3, b4, b5]; omega), (Below.refl _ _).alloc (Nat.le_refl _) _⟩
end Go.Proofs.YtmjblpkbfoipfaaGreatDoor
namespace Go.CE
namespace V
open Go.Proofs Go.Proofs.YtmjblpkbfoipfaaGreatDoor Go.RowKit
structure LN where
  kind : Nat
  frm : Nat
  dst : Nat
  mtg : Nat
  res : Nat
  dl : Nat
  st : Nat
  cs : List Nat
  ref : List UInt8
def zref : List UInt8 := List.replicate 32 0
def LN.num (x : LN) : Nat → Int
  | 0 => x.mtg
  | 6 => x.res
  | 11 => x.dl
  | 12 => x.st
  | _ => 0
def LN.let (x : LN) (v : Value) : Let := ⟨x.kind, x.frm, x.dst, x.num, v, x.ref⟩
structure LN.Ok (x : LN) : Prop where
  kd : x.kind = 8 ∨ x.kind = 9 ∨ x.kind = 10 ∨ x.kind = 11 ∨ x.kind = 12 ∨ x.kind = 13 ∨ x.kind = 14 ∨ x.kind = 18
  frm : x.frm < 16
  dst : x.dst < 16
  ne : x.frm ≠ x.dst
  mtg0 : 1 ≤ x.mtg
  mtg1 : x.mtg ≤ 1099511627776
  res : x.res ≤ 255
  res0 : x.kind ≠ 9 → x.kind ≠ 10 → x.res = 0
  dl : x.dl ≤ 2251799813685248
  dl0 : x.kind ≠ 8 → x.kind ≠ 9 → x.dl = 0
  st : x.st ≤ 18
  st14 : x.kind = 14 → x.st ≤ 5
  st0 : x.kind = 8 ∨ x.kind = 9 ∨ x.kind = 13 ∨ x.kind = 18 → x.st = 0
  cs : ∀ c ∈ x.cs, c < 16
  up : x.cs.Pairwise (· < ·)
  len : x.cs.length ≤ 4
  cs0 : x.kind = 18 → x.cs = []
  ref : x.ref.length = 32
  ref0 : x.kind = 8 ∨ x.kind = 13 → x.ref = zref
  shp : shB x.kind x.cs.length = true
def LN.at (x : LN) : Nat → Nat
  | 0 => 0
  | 1 => x.frm
  | 2 => x.dst
  | 3 => x.mtg
  | 4 => x.res
  | 5 => x.dl
  | 6 => x.st
  | 7 => 0
  | s + 8 => x.cs.getD s 0
def LN.oct (x : LN) (i : Nat) : Nat := (x.ref.getD i 0).toNat
@[reducible] def LN.rz (x : LN) : Bool := decide (x.ref = zref)
@[reducible] def LN.P (x : LN) : Y.Pk := shP x.kind x.cs.length x.rz x.at x.oct
@[reducible] def LN.S (x : LN) : Sym := shS x.kind x.cs.length x.rz x.at x.oct
theorem getD_lt {l : List Nat} {i b : Nat} (h : ∀ c ∈ l, c < b) (hb : 0 < b) : l.getD i 0 < b := by
  rw [List.getD_eq_getElem?_getD]
  cases e : l[i]? with
  | none => exact hb
  | some c => exact h c (List.mem_of_getElem? e)
theorem LN.pk_ok {x : LN} (h : x.Ok) : x.P.Ok := by
  have hcs : ∀ s, x.cs.getD s 0 < 16 := fun s => getD_lt h.cs (by decide)
  refine ⟨fun s => ?_, fun s => ?_, fun s => ?_, fun i => (x.ref.getD i 0).toNat_lt, (fun _ _ _ e => by cases e), fun s t e => ?_, fun s t e => ?_, fun s e => ?_, (fun _ _ _ e => by cases e)⟩
  · show shLo s ≤ x.at s
    match s with
    | 0 => exact Nat.zero_le _
    | 1 => exact Nat.zero_le _
    | 2 => exact Nat.zero_le _
    | 3 => exact h.mtg0
    | s + 4 => exact Nat.zero_le _
  · show x.at s ≤ shHi x.kind s
    match s with
    | 0 => exact Nat.zero_le _
    | 1 => exact Nat.le_of_lt_succ h.frm
    | 2 => exact Nat.le_of_lt_succ h.dst
    | 3 => exact h.mtg1
    | 4 => exact h.res
    | 5 => exact h.dl
    | 6 =>
      show x.st ≤ (match x.kind with | 14 => 5 | _ => 18)
      split
      · rename_i e; exact h.st14 e
      · exact h.st
    | 7 => exact Nat.zero_le _
    | s + 8 => exact Nat.le_of_lt_succ (hcs s)
  · show shHi x.kind s < 9223372036854775808
    unfold shHi
    split <;> first | decide | (split <;> decide)
  · have e : (Nat.ble 8 s && Nat.blt s t && Nat.blt t (8 + x.cs.length)) = true := e
    simp only [Bool.and_eq_true] at e
    have e1 : 8 ≤ s := Nat.le_of_ble_eq_true e.1.1
    have e2 : s < t := Nat.le_of_ble_eq_true e.1.2
    have e3 : t < 8 + x.cs.length := Nat.le_of_ble_eq_true e.2
    obtain ⟨a, rfl⟩ : ∃ a, s = a + 8 := ⟨s - 8, by omega⟩
    obtain ⟨b, rfl⟩ : ∃ b, t = b + 8 := ⟨t - 8, by omega⟩
    show x.cs.getD a 0 < x.cs.getD b 0
    rw [List.getD_eq_getElem?_getD, List.getD_eq_getElem?_getD, List.getElem?_eq_getElem (by omega), List.getElem?_eq_getElem (by omega)]
    exact List.pairwise_iff_getElem.1 h.up a b (by omega) (by omega) (by omega)
  · show x.at s ≠ x.at t
    have e : shNe s t = true := e
    unfold shNe at e
    split at e
    · exact h.ne
    · exact h.ne.symm
    · cases e
  · show x.at s < 256
    have e : shOne s = true := e
    match s with
    | 0 => cases e
    | 1 => have := h.frm; show x.frm < 256; omega
    | 2 => have := h.dst; show x.dst < 256; omega
    | 3 => cases e
    | 4 => cases e
    | 5 => cases e
    | 6 => cases e
    | 7 => cases e
    | s + 8 => have := hcs s; show x.cs.getD s 0 < 256; omega
theorem LN.val_at (x : LN) (s : Nat) (hs : s < 16384) : @Sym.val x.S (64 * s) = Int.ofNat (x.at s) := by
  show Int.ofNat (x.P.nat (64 * s)) = _
  rw [show 64 * s = 64 * s + 0 by omega, Y.nat_num x.P s 0 (by omega) (by have : Y.ob = 1048576 := rfl; omega), Y.nv_a _ _ (by omega), Nat.pow_zero, Nat.div_one]
theorem LN.val_byte (x : LN) (s i : Nat) (hs : s < 16384) (hi : i < 8) : @Sym.val x.S (64 * s + 8 + i) = Int.ofNat ((UInt8.ofNat (x.at s >>> (8 * i))).toNat) := by
  show Int.ofNat (x.P.nat (64 * s + 8 + i)) = _
  rw [show 64 * s + 8 + i = 64 * s + (i + 8) by omega, Y.nat_num x.P s (i + 8) (by omega) (by have : Y.ob = 1048576 := rfl; omega), Y.nv_b _ _ hi]
  congr 1
  rw [Nat.shiftRight_eq_div_pow, Nat.pow_mul]
  simp
theorem LN.val_oct (x : LN) (i : Nat) : @Sym.val x.S (1048576 + i) = Int.ofNat (x.ref.getD i 0).toNat := by
  show Int.ofNat (x.P.nat (1048576 + i)) = _
  rw [Y.nat_oct (p := x.P) (show Y.ob ≤ 1048576 + i by have : Y.ob = 1048576 := rfl; omega)]
  show Int.ofNat (x.oct (1048576 + i - 1048576)) = _
  rw [Nat.add_sub_cancel_left]
  rfl
theorem LN.refX_vals {x : LN} (h : x.ref.length = 32) : refX.map (@valX x.S) = x.ref.map fun c => B8 c.toNat := by
  apply List.ext_getElem?
  intro i
  simp only [refX, List.map_map, List.getElem?_map]
  by_cases hi : i < 32
  · rw [List.getElem?_range hi, List.getElem?_eq_getElem (by omega)]
    show some (Value.int .u8 (@Sym.val x.S (1048576 + i))) = _
    rw [LN.val_oct, List.getD_eq_getElem?_getD, List.getElem?_eq_getElem (by omega)]
    rfl
  · rw [List.getElem?_eq_none (by simp; omega), List.getElem?_eq_none (by omega)]; rfl
theorem LN.eqg_ok {x : LN} (h : x.ref.length = 32) (v w : List AV) (r : Bool) (e : x.P.eqg v w = some r) : ∃ (k : IntKind) (a b : List Int), v.map (@den x.S) = a.map (AV.i k) ∧ w.map (@den x.S) = b.map (AV.i k) ∧ decide (a = b) = r := by
  have e : shEq x.rz v w = some r := e
  unfold shEq at e
  split at e
  · rename_i g
    simp only [Bool.and_eq_true] at g
    obtain rfl := avL_eq g.1
    obtain rfl := avL_eq g.2
    cases e
    refine ⟨.u8, x.ref.map fun c => Int.ofNat c.toNat, List.replicate 32 0, ?_, by simp [zer32, den], ?_⟩
    · apply List.ext_getElem?
      intro i
      simp only [refX, List.map_map, List.getElem?_map]
      by_cases hi : i < 32
      · rw [List.getElem?_range hi, List.getElem?_eq_getElem (by omega)]
        show some (AV.i .u8 (@Sym.val x.S (1048576 + i))) = _
        rw [LN.val_oct, List.getD_eq_getElem?_getD, List.getElem?_eq_getElem (by omega)]
        rfl
      · rw [List.getElem?_eq_none (by simp; omega), List.getElem?_eq_none (by omega)]; rfl
    · refine decide_eq_decide.2 ⟨fun q => ?_, fun q => by rw [q]; simp [zref]⟩
      apply List.ext_getElem (by simp [zref, h])
      intro i h1 h2
      have := congrArg (fun l => l[i]?) q
      simp only [List.getElem?_map, List.getElem?_eq_getElem h1, Option.map_some] at this
      rw [List.getElem?_eq_getElem (by simp; omega)] at this
      simp only [List.getElem_replicate, Option.some.injEq] at this
      simp only [zref, List.getElem_replicate]
      exact UInt8.toNat_inj.1 (by have : (x.ref[i].toNat : Int) = 0 := this; simpa using this)
  · cases e
theorem LN.sym_ok {x : LN} (h : x.Ok) : @SymOk x.S := Y.sym_ok (LN.pk_ok h) (LN.eqg_ok h.ref)
def cl8 (cs : List Nat) : List UInt8 := [UInt8.ofNat cs.length, 0, 0, 0] ++ cs.map UInt8.ofNat
def z8b : List UInt8 := [0, 0, 0, 0, 0, 0, 0, 0]
def LN.hd (x : LN) : List UInt8 := [UInt8.ofNat x.kind, UInt8.ofNat x.frm, UInt8.ofNat x.dst] ++ le8 x.mtg
def LN.enc (x : LN) : List UInt8 := match x.kind with
  | 8 => x.hd ++ (z8b ++ (z8b ++ (z8b ++ ([0, 0, 0, 0] ++ (le8 x.dl ++ (z8b ++ cl8 x.cs))))))
  | 9 => x.hd ++ (le8 x.res ++ (le8 x.dl ++ (cl8 x.cs ++ x.ref)))
  | 10 => x.hd ++ (le8 x.res ++ (le8 x.st ++ (cl8 x.cs ++ x.ref)))
  | 13 => x.hd ++ cl8 x.cs
  | 18 => x.hd ++ x.ref
  | _ => x.hd ++ (le8 x.st ++ (cl8 x.cs ++ x.ref))
theorem consE {α : Type} {a b : α} {l m : List α} (h : a = b) (k : l = m) : a :: l = b :: m := by rw [h, k]
theorem LN.b8_vals (x : LN) (s : Nat) (hs : s < 16384) : (b8 s).map (@valX x.S) = (le8 (x.at s)).map fun c => B8 c.toNat := by
  have key : ∀ i, i < 8 → @valX x.S (.x .u8 (64 * s + 8 + i)) = B8 (UInt8.ofNat (x.at s >>> (8 * i))).toNat := fun i hi => by
    show Value.int .u8 (@Sym.val x.S (64 * s + 8 + i)) = _
    rw [LN.val_byte x s i hs hi]; rfl
  unfold le8 b8
  simp only [List.map_cons, List.map_nil, List.map_map]
  exact consE (key 0 (by omega)) (consE (key 1 (by omega)) (consE (key 2 (by omega)) (consE (key 3 (by omega)) (consE (key 4 (by omega)) (consE (key 5 (by omega)) (consE (key 6 (by omega)) (consE (key 7 (by omega)) (rfl))))))))
theorem LN.cl_vals {x : LN} (h : x.Ok) : (clX x.cs.length).map (@valX x.S) = (cl8 x.cs).map fun c => B8 c.toNat := by
  unfold clX cl8
  rw [List.map_append, List.map_append]
  congr 1
  · have hl := h.len
    simp only [List.map_cons, List.map_nil, b0, valX]
    congr 1
    show Value.int .u8 (Int.ofNat x.cs.length) = Value.int .u8 (Int.ofNat (UInt8.ofNat x.cs.length).toNat)
    congr 2
    simp; omega
  · apply List.ext_getElem?
    intro i
    simp only [List.map_map, List.getElem?_map]
    by_cases hi : i < x.cs.length
    · rw [List.getElem?_range hi, List.getElem?_eq_getElem hi]
      show some (Value.int .u8 (@Sym.val x.S (64 * (8 + i)))) = some (Value.int .u8 (Int.ofNat (UInt8.ofNat x.cs[i]).toNat))
      rw [LN.val_at x (8 + i) (by have := h.len; omega), Nat.add_comm 8 i]
      have hc := h.cs x.cs[i] (List.getElem_mem hi)
      have : x.at (i + 8) = x.cs[i] := by
        show x.cs.getD i 0 = _
        rw [List.getD_eq_getElem?_getD, List.getElem?_eq_getElem hi]; rfl
      rw [this]
      congr 3
      simp; omega
    · rw [List.getElem?_eq_none (by simp; omega), List.getElem?_eq_none (by omega)]; rfl
theorem LN.hd_vals {x : LN} (h : x.Ok) : (hdX x.kind).map (@valX x.S) = x.hd.map fun c => B8 c.toNat := by
  unfold hdX LN.hd
  rw [List.map_append, List.map_append, LN.b8_vals x 3 (by omega)]
  congr 1
  have h1 := h.frm
  have h2 := h.dst
  have h3 : x.kind < 256 := by rcases h.kd with e | e | e | e | e | e | e | e <;> omega
  show [Value.int .u8 (Int.ofNat x.kind), Value.int .u8 (@Sym.val x.S (64 * 1)), Value.int .u8 (@Sym.val x.S (64 * 2))] = [Value.int .u8 (Int.ofNat (UInt8.ofNat x.kind).toNat), Value.int .u8 (Int.ofNat (UInt8.ofNat x.frm).toNat), Value.int .u8 (Int.ofNat (UInt8.ofNat x.dst).toNat)]
  rw [LN.val_at x 1 (by omega), LN.val_at x 2 (by omega)]
  have e : ∀ n : Nat, n < 256 → (UInt8.ofNat n).toNat = n := fun n hn => by simp; omega
  rw [e _ h3, e _ (by omega), e _ (by omega)]
  rfl
theorem LN.enc_vals {x : LN} (h : x.Ok) : (encX x.kind x.cs.length).map (@valX x.S) = x.enc.map fun c => B8 c.toNat := by
  have e4 : x.at 4 = x.res := rfl
  have e5 : x.at 5 = x.dl := rfl
  have e6 : x.at 6 = x.st := rfl
  have hz : z8.map (@valX x.S) = z8b.map fun c => B8 c.toNat := rfl
  have hz4 : ([b0, b0, b0, b0] : List AV).map (@valX x.S) = ([0, 0, 0, 0] : List UInt8).map fun c => B8 c.toNat := rfl
  have hh := LN.hd_vals h
  have hc := LN.cl_vals h
  have hr := LN.refX_vals h.ref
  have h4 := LN.b8_vals x 4 (by omega)
  have h5 := LN.b8_vals x 5 (by omega)
  have h6 := LN.b8_vals x 6 (by omega)
  rw [e4] at h4; rw [e5] at h5; rw [e6] at h6
  unfold encX LN.enc
  rcases h.kd with e | e | e | e | e | e | e | e <;> simp only [e] at hh ⊢ <;> simp only [List.map_append, hh, hc, hr, h4, h5, h6, hz, hz4]
theorem enc_ix (k n : Nat) (hk : k = 8 ∨ k = 9 ∨ k = 10 ∨ k = 11 ∨ k = 12 ∨ k = 13 ∨ k = 14 ∨ k = 18) (hn : n ≤ 4) : (encX k n).all isIX = true ∧ allsc (encX k n) = true := by
  have : n = 0 ∨ n = 1 ∨ n = 2 ∨ n = 3 ∨ n = 4 := by omega
  rcases hk with rfl | rfl | rfl | rfl | rfl | rfl | rfl | rfl <;> rcases this with rfl | rfl | rfl | rfl | rfl <;> exact ⟨by decide, by decide⟩
end V
end Go.CE
namespace Go.CE
namespace V
open Go.Proofs Go.Proofs.YtmjblpkbfoipfaaGreatDoor Go.RowKit
structure AD where
  f : Nat
  t : Nat
  mtg : Nat
  seq : Nat
  k0 : List UInt8
  k1 : List UInt8
  k2 : List UInt8
  other : List UInt8
  dF : Nat := 0
  dS : Nat := 0
  far : Nat := 0
def AD.key (x : AD) : List UInt8 := match x.f with
  | 0 => x.k0
  | 1 => x.k1
  | _ => x.k2
def ackB (f t mtg : Nat) : List UInt8 := [18, UInt8.ofNat f, UInt8.ofNat t] ++ (le8 mtg ++ zref)
def ackM (f t mtg seq : Nat) : List UInt8 := le8 f ++ (le8 t ++ (le8 seq ++ ackB f t mtg))
def AD.msg (x : AD) : List UInt8 := ackM x.f x.t x.mtg x.seq
def AD.right (x : AD) : List UInt8 := keyB x.key x.msg
def AD.inner (x : AD) : List UInt8 := shaB ((kpad x.key).map (· ^^^ 0x36) ++ x.msg)
def AD.B (x : AD) : List UInt8 := x.k0 ++ (x.k1 ++ (x.k2 ++ (x.right ++ (x.other ++ (x.inner ++ (x.key.map (· ^^^ 0x36) ++ x.key.map (· ^^^ 0x5c)))))))
structure AD.Ok (x : AD) : Prop where
  pr : (x.f, x.t) ∈ pairs
  m0 : 1 ≤ x.mtg
  m1 : x.mtg ≤ 1099511627776
  s0 : 1 ≤ x.seq
  s1 : x.seq ≤ 1099511627776
  k0 : x.k0.length = 32
  k1 : x.k1.length = 32
  k2 : x.k2.length = 32
  o : x.other.length = 32
  ne : x.right ≠ x.other
  d1 : x.dF < 256
  d2 : x.dS < 256
  d3 : x.far < 65536
def AD.num (x : AD) (s : Nat) : Nat := if s = 3 then x.mtg else if s = 20 then x.seq else if s = 30 then x.dF else if s = 31 then x.dS else if s = 32 then x.far else if s = 33 then 1 + x.dS % 20 else if s = 34 then x.dS % 20 else 1
def AD.oct (x : AD) (i : Nat) : Nat := (x.B.getD i 0).toNat
@[reducible] def AD.P (x : AD) : Y.Pk := gP x.f x.num x.oct
@[reducible] def AD.S (x : AD) : Sym := gS x.f x.num x.oct
section
variable {x : AD} (h : x.Ok)
include h
theorem AD.f3 : x.f = 1 ∨ x.f = 2 := by
  have := h.pr
  simp only [pairs, List.mem_cons, Prod.mk.injEq, List.not_mem_nil, or_false] at this
  omega
theorem AD.t3 : x.t < 3 := by
  have := h.pr
  simp only [pairs, List.mem_cons, Prod.mk.injEq, List.not_mem_nil, or_false] at this
  omega
theorem AD.key_len : x.key.length = 32 := by
  unfold AD.key
  rcases AD.f3 h with e | e <;> rw [e]
  · exact h.k1
  · exact h.k2
theorem AD.lens : x.right.length = 32 ∧ x.inner.length = 32 ∧ (x.key.map (· ^^^ 0x36)).length = 32 ∧ (x.key.map (· ^^^ 0x5c)).length = 32 := by
  have hk := AD.key_len h
  refine ⟨?_, ?_, by rw [List.length_map]; exact hk, by rw [List.length_map]; exact hk⟩
  · unfold AD.right keyB; exact shaB_length _
  · unfold AD.inner; exact shaB_length _
theorem AD.parts : (x.B.drop (32 * x.f)).take 32 = x.key ∧ (x.B.drop 96).take 32 = x.right ∧ (x.B.drop 128).take 32 = x.other ∧ (x.B.drop 160).take 32 = x.inner ∧ (x.B.drop 192).take 32 = x.key.map (· ^^^ 0x36) ∧ (x.B.drop 224).take 32 = x.key.map (· ^^^ 0x5c) ∧ (x.B.drop 0).take 96 = x.k0 ++ (x.k1 ++ x.k2) := by
  obtain ⟨l1, l2, l3, l4⟩ := AD.lens h
  have h0 := h.k0
  have h1 := h.k1
  have h2 := h.k2
  have h3 := h.o
  have cut : ∀ (a b c : List UInt8) (n : Nat), a.length = n → b.length = 32 → ((a ++ (b ++ c)).drop n).take 32 = b := fun a b c n ha hb => by
    rw [← ha, List.drop_left, ← hb, List.take_left]
  have e1 := cut x.k0 x.k1 (x.k2 ++ (x.right ++ (x.other ++ (x.inner ++ (x.key.map (· ^^^ 0x36) ++ x.key.map (· ^^^ 0x5c)))))) 32 h0 h1
  have e2 := cut (x.k0 ++ x.k1) x.k2 (x.right ++ (x.other ++ (x.inner ++ (x.key.map (· ^^^ 0x36) ++ x.key.map (· ^^^ 0x5c))))) 64 (by simp [h0, h1]) h2
  have e3 := cut (x.k0 ++ (x.k1 ++ x.k2)) x.right (x.other ++ (x.inner ++ (x.key.map (· ^^^ 0x36) ++ x.key.map (· ^^^ 0x5c)))) 96 (by simp [h0, h1, h2]) l1
  have e4 := cut (x.k0 ++ (x.k1 ++ (x.k2 ++ x.right))) x.other (x.inner ++ (x.key.map (· ^^^ 0x36) ++ x.key.map (· ^^^ 0x5c))) 128 (by simp [h0, h1, h2, l1]) h3
  have e5 := cut (x.k0 ++ (x.k1 ++ (x.k2 ++ (x.right ++ x.other)))) x.inner (x.key.map (· ^^^ 0x36) ++ x.key.map (· ^^^ 0x5c)) 160 (by simp [h0, h1, h2, l1, h3]) l2
  have e6 := cut (x.k0 ++ (x.k1 ++ (x.k2 ++ (x.right ++ (x.other ++ x.inner))))) (x.key.map (· ^^^ 0x36)) (x.key.map (· ^^^ 0x5c)) 192 (by simp [h0, h1, h2, l1, h3, l2]) l3
  have e7 := cut (x.k0 ++ (x.k1 ++ (x.k2 ++ (x.right ++ (x.other ++ (x.inner ++ x.key.map (· ^^^ 0x36))))))) (x.key.map (· ^^^ 0x5c)) [] 224 (by simp [h0, h1, h2, l1, h3, l2, AD.key_len h]) l4
  have e8 : ((x.k0 ++ (x.k1 ++ x.k2)) ++ (x.right ++ (x.other ++ (x.inner ++ (x.key.map (· ^^^ 0x36) ++ x.key.map (· ^^^ 0x5c)))))).take 96 = x.k0 ++ (x.k1 ++ x.k2) := by
    have : 96 = (x.k0 ++ (x.k1 ++ x.k2)).length := by simp [h0, h1, h2]
    rw [this, List.take_left]
  simp only [List.append_assoc, List.append_nil] at e1 e2 e3 e4 e5 e6 e7 e8
  refine ⟨?_, e3, e4, e5, e6, e7, ?_⟩
  · unfold AD.key
    rcases AD.f3 h with e | e <;> rw [e]
    · exact e1
    · exact e2
  · rw [List.drop_zero]; exact e8
omit h in
theorem AD.val_oct (x : AD) (i : Nat) : @Sym.val x.S (1048576 + i) = Int.ofNat (x.B.getD i 0).toNat := by
  show Int.ofNat (x.P.nat (1048576 + i)) = _
  rw [Y.nat_oct (p := x.P) (show Y.ob ≤ 1048576 + i by have : Y.ob = 1048576 := rfl; omega)]
  show Int.ofNat (x.oct (1048576 + i - 1048576)) = _
  rw [Nat.add_sub_cancel_left]
  rfl
theorem AD.B_len : x.B.length = 256 := by
  obtain ⟨l1, l2, l3, l4⟩ := AD.lens h
  unfold AD.B
  simp only [List.length_append, l1, l2, l3, l4, h.k0, h.k1, h.k2, h.o]
theorem AD.nm_den (a n : Nat) (ha : a + n ≤ 256) : (nm a n).map (@den x.S) = ((x.B.drop a).take n).map byteA := by
  apply List.ext_getElem?
  intro i
  simp only [nm, List.map_map, List.getElem?_map]
  have hl := AD.B_len h
  by_cases hi : i < n
  · rw [List.getElem?_range hi, List.getElem?_take, if_pos hi, List.getElem?_drop, List.getElem?_eq_getElem (by omega)]
    show some (AV.i .u8 (@Sym.val x.S (1048576 + (a + i)))) = _
    rw [AD.val_oct, List.getD_eq_getElem?_getD, List.getElem?_eq_getElem (by omega)]
    rfl
  · rw [List.getElem?_eq_none (by simp; omega), List.getElem?_take, if_neg hi]; rfl
theorem AD.nm_val (a n : Nat) (ha : a + n ≤ 256) : (nm a n).map (@valX x.S) = ((x.B.drop a).take n).map fun c => B8 c.toNat := by
  apply List.ext_getElem?
  intro i
  simp only [nm, List.map_map, List.getElem?_map]
  have hl := AD.B_len h
  by_cases hi : i < n
  · rw [List.getElem?_range hi, List.getElem?_take, if_pos hi, List.getElem?_drop, List.getElem?_eq_getElem (by omega)]
    show some (Value.int .u8 (@Sym.val x.S (1048576 + (a + i)))) = _
    rw [AD.val_oct, List.getD_eq_getElem?_getD, List.getElem?_eq_getElem (by omega)]
    rfl
  · rw [List.getElem?_eq_none (by simp; omega), List.getElem?_take, if_neg hi]; rfl
omit h in
theorem part_get {B L : List UInt8} {a j : Nat} (e : (B.drop a).take 32 = L) (hj : j < 32) : B.getD (a + j) 0 = L.getD j 0 := by
  rw [← e, List.getD_eq_getElem?_getD, List.getD_eq_getElem?_getD, List.getElem?_take, if_pos hj, List.getElem?_drop]
omit h in
theorem xor_get (l : List UInt8) (m : UInt8) (j : Nat) (hj : j < l.length) : ((l.map (· ^^^ m)).getD j 0).toNat = (l.getD j 0).toNat ^^^ m.toNat := by
  rw [List.getD_eq_getElem?_getD, List.getD_eq_getElem?_getD, List.getElem?_map, List.getElem?_eq_getElem hj]
  simp
theorem AD.pk_ok : x.P.Ok := by
  obtain ⟨p1, p2, p3, p4, p5, p6, p7⟩ := AD.parts h
  have hk := AD.key_len h
  have hn : ∀ s, gLo s ≤ x.num s ∧ x.num s ≤ 1099511627776 := fun s => by
    have h1 := h.m0; have h2 := h.m1; have h3 := h.s0; have h4 := h.s1; have h5 := h.d1; have h6 := h.d2; have h7 := h.d3
    have hl : gLo s ≤ 1 := by unfold gLo; split <;> omega
    unfold AD.num
    split
    · omega
    · split
      · omega
      · have hl : 30 ≤ s → gLo s = 0 := fun q => by unfold gLo; rw [Nat.ble_eq_true_of_le q]
        split
        · have := hl (by omega); omega
        · split
          · have := hl (by omega); omega
          · split
            · have := hl (by omega); omega
            · split
              · have := hl (by omega); omega
              · split
                · have := hl (by omega); omega
                · omega
  refine { lo := fun s => (hn s).1, hi := fun s => (hn s).2, top := fun s => (by show (1099511627776 : Nat) < 9223372036854775808; decide), oct := fun i => (x.B.getD i 0).toNat_lt, ocq := fun _ _ _ e => (by cases e), xr := fun i m n e => ?_ }
  have e : gXr x.f i m = some n := e
  unfold gXr at e
  split at e
  · rename_i g
    simp only [Bool.and_eq_true] at g
    have g1 : 32 * x.f ≤ i := Nat.le_of_ble_eq_true g.1
    have g2 : i < 32 * x.f + 32 := Nat.le_of_ble_eq_true g.2
    obtain ⟨j, rfl⟩ : ∃ j, i = 32 * x.f + j := ⟨i - 32 * x.f, by omega⟩
    have hj : j < 32 := by omega
    have a0 := part_get p1 hj
    have a1 := part_get p5 hj
    have a2 := part_get p6 hj
    rw [Nat.add_sub_cancel_left] at e
    split at e
    · cases e
      refine ⟨by decide, ?_⟩
      show (x.B.getD (192 + j) 0).toNat = (x.B.getD (32 * x.f + j) 0).toNat ^^^ 54
      rw [a0, a1, xor_get _ _ _ (by omega)]
      rfl
    · cases e
      refine ⟨by decide, ?_⟩
      show (x.B.getD (224 + j) 0).toNat = (x.B.getD (32 * x.f + j) 0).toNat ^^^ 92
      rw [a0, a2, xor_get _ _ _ (by omega)]
      rfl
    · cases e
  · cases e
theorem AD.eqg_ok (v w : List AV) (r : Bool) (e : x.P.eqg v w = some r) : ∃ (k : IntKind) (a b : List Int), v.map (@den x.S) = a.map (AV.i k) ∧ w.map (@den x.S) = b.map (AV.i k) ∧ decide (a = b) = r := by
  have e : gEq v w = some r := e
  unfold gEq at e
  split at e
  · rename_i g
    simp only [Bool.and_eq_true] at g
    obtain rfl := avL_eq g.1
    obtain rfl := avL_eq g.2
    cases e
    obtain ⟨p1, p2, p3, p4, p5, p6, p7⟩ := AD.parts h
    have d1 := AD.nm_den h 96 32 (by omega)
    have d2 := AD.nm_den h 128 32 (by omega)
    rw [p2] at d1
    rw [p3] at d2
    refine ⟨.u8, x.right.map fun c => Int.ofNat c.toNat, x.other.map fun c => Int.ofNat c.toNat, by rw [d1, List.map_map]; rfl, by rw [d2, List.map_map]; rfl, decide_eq_false fun q => h.ne ?_⟩
    have inj : ∀ l m : List UInt8, l.map (fun c => Int.ofNat c.toNat) = m.map (fun c => Int.ofNat c.toNat) → l = m := by
      intro l
      induction l with
      | nil => intro m e; cases m with
        | nil => rfl
        | cons b m => simp at e
      | cons a l ih => intro m e; cases m with
        | nil => simp at e
        | cons b m =>
          simp only [List.map_cons, List.cons.injEq] at e
          have e1 : a.toNat = b.toNat := Int.ofNat.inj e.1
          rw [UInt8.toNat_inj.1 e1, ih m e.2]
    exact inj _ _ q
  · cases e
theorem AD.sym_ok : @SymOk x.S := Y.sym_ok (AD.pk_ok h) (AD.eqg_ok h)
theorem AD.val_at (s : Nat) (hs : s < 16384) : @Sym.val x.S (64 * s) = Int.ofNat (x.num s) := by
  show Int.ofNat (x.P.nat (64 * s)) = _
  rw [show 64 * s = 64 * s + 0 by omega, Y.nat_num x.P s 0 (by omega) (by have : Y.ob = 1048576 := rfl; omega), Y.nv_a _ _ (by omega), Nat.pow_zero, Nat.div_one]
omit h in
theorem AD.val_byte (x : AD) (s i : Nat) (hs : s < 16384) (hi : i < 8) : @Sym.val x.S (64 * s + 8 + i) = Int.ofNat ((UInt8.ofNat (x.num s >>> (8 * i))).toNat) := by
  show Int.ofNat (x.P.nat (64 * s + 8 + i)) = _
  rw [show 64 * s + 8 + i = 64 * s + (i + 8) by omega, Y.nat_num x.P s (i + 8) (by omega) (by have : Y.ob = 1048576 := rfl; omega), Y.nv_b _ _ hi]
  congr 1
  rw [Nat.shiftRight_eq_div_pow, Nat.pow_mul]
  simp
omit h in
theorem AD.b8_den (x : AD) (s : Nat) (hs : s < 16384) : (b8 s).map (@den x.S) = (le8 (x.num s)).map byteA := by
  have key : ∀ i, i < 8 → @den x.S (.x .u8 (64 * s + 8 + i)) = byteA (UInt8.ofNat (x.num s >>> (8 * i))) := fun i hi => by
    show AV.i .u8 (@Sym.val x.S (64 * s + 8 + i)) = _
    rw [AD.val_byte x s i hs hi]; rfl
  unfold le8 b8
  simp only [List.map_cons, List.map_nil, List.map_map]
  exact consE (key 0 (by omega)) (consE (key 1 (by omega)) (consE (key 2 (by omega)) (consE (key 3 (by omega)) (consE (key 4 (by omega)) (consE (key 5 (by omega)) (consE (key 6 (by omega)) (consE (key 7 (by omega)) rfl)))))))
omit h in
theorem le8L_den [Sym] (n : Nat) (hn : n < 3) : (le8L n).map den = (le8 n).map byteA := by
  have : n = 0 ∨ n = 1 ∨ n = 2 := by omega
  rcases this with rfl | rfl | rfl <;> (unfold le8; rfl)
theorem AD.enc_den : (gEnc x.f x.t).map (@den x.S) = (ackB x.f x.t x.mtg).map byteA := by
  unfold gEnc ackB
  rw [List.map_append, List.map_append, List.map_append, List.map_append, AD.b8_den x 3 (by omega)]
  have e3 : x.num 3 = x.mtg := rfl
  have ez : zer32.map (@den x.S) = zref.map byteA := rfl
  rw [e3, ez]
  congr 1
  have hf := AD.f3 h
  have ht := AD.t3 h
  have ht' : x.t = 0 ∨ x.t = 1 ∨ x.t = 2 := by omega
  rcases hf with e | e <;> rcases ht' with e' | e' | e' <;> rw [e, e'] <;> rfl
theorem AD.msg_den : (gMsg x.f x.t).map (@den x.S) = x.msg.map byteA := by
  unfold gMsg AD.msg ackM
  have e20 : x.num 20 = x.seq := rfl
  have hf := AD.f3 h
  have ht := AD.t3 h
  rw [List.map_append, List.map_append, List.map_append, List.map_append, List.map_append, List.map_append, @le8L_den x.S x.f (by omega), @le8L_den x.S x.t ht, AD.b8_den x 20 (by omega), e20, AD.enc_den h]
theorem AD.kt_ok : @TabOk x.S keyB (gKt x.f x.t) := by
  intro ks b rs e
  unfold gKt at e
  split at e
  · rename_i g
    simp only [Bool.and_eq_true] at g
    obtain rfl := avL_eq g.1
    obtain rfl := avL_eq g.2
    cases e
    obtain ⟨p1, p2, p3, p4, p5, p6, p7⟩ := AD.parts h
    have d0 := AD.nm_den h (32 * x.f) 32 (by have := AD.f3 h; omega)
    have d1 := AD.nm_den h 96 32 (by omega)
    rw [p1] at d0
    rw [p2] at d1
    refine ⟨x.key, x.msg, AD.key_len h, ?_, d0, AD.msg_den h, d1⟩
    unfold AD.msg ackM ackB
    simp [le8_length, zref]
  · cases e
theorem AD.st_ok : @TabOk1 x.S shaB (gSt x.f x.t) := by
  obtain ⟨p1, p2, p3, p4, p5, p6, p7⟩ := AD.parts h
  have hml : x.msg.length ≤ 1000 := by
    unfold AD.msg ackM ackB
    simp [le8_length, zref]
  have rep : ∀ m : Nat, (List.replicate 32 (AV.i .u8 (.ofNat m))).map (@den x.S) = List.replicate 32 (AV.i .u8 (.ofNat m)) := fun m => by simp [den]
  have kx : ∀ m : UInt8, (kpad x.key).map (· ^^^ m) = x.key.map (· ^^^ m) ++ List.replicate 32 m := fun m => by
    unfold kpad
    rw [List.map_append]
    simp
  intro b rs e
  unfold gSt at e
  split at e
  · rename_i g
    obtain rfl := avL_eq g
    cases e
    have d4 := AD.nm_den h 160 32 (by omega)
    have d5 := AD.nm_den h 192 32 (by omega)
    rw [p4] at d4
    rw [p5] at d5
    refine ⟨(kpad x.key).map (· ^^^ 0x36) ++ x.msg, ?_, ?_, d4⟩
    · rw [List.length_append, List.length_map, kpad_length _ (AD.key_len h)]; omega
    · rw [List.map_append, List.map_append, AD.msg_den h, kx]
      congr 1
      unfold gBlk
      rw [List.map_append, List.map_append, d5, rep]
      rfl
  · split at e
    · rename_i g
      obtain rfl := avL_eq g
      cases e
      have d4 := AD.nm_den h 160 32 (by omega)
      have d6 := AD.nm_den h 224 32 (by omega)
      have d2 := AD.nm_den h 96 32 (by omega)
      rw [p4] at d4
      rw [p6] at d6
      rw [p2] at d2
      refine ⟨(kpad x.key).map (· ^^^ 0x5c) ++ x.inner, ?_, ?_, d2⟩
      · rw [List.length_append, List.length_map, kpad_length _ (AD.key_len h), (AD.lens h).2.1]; omega
      · rw [List.map_append, List.map_append, d4, kx]
        congr 1
        unfold gBlk
        rw [List.map_append, List.map_append, d6, rep]
        rfl
    · cases e
theorem AD.byt_ok : @BytOk x.S gByt := by
  intro j hj
  unfold gByt at hj
  by_cases ho : 1048576 ≤ j
  · obtain ⟨i, rfl⟩ : ∃ i, j = 1048576 + i := ⟨j - 1048576, by omega⟩
    exact ⟨_, AD.val_oct x i⟩
  · simp only [Bool.or_eq_true, Bool.and_eq_true] at hj
    rcases hj with hj | hj
    · exact absurd (Nat.le_of_ble_eq_true hj) ho
    · have h1 : 8 ≤ j % 64 := Nat.le_of_ble_eq_true hj.1
      have h2 : j % 64 < 16 := Nat.le_of_ble_eq_true hj.2
      obtain ⟨s, i, rfl, hi⟩ : ∃ s i, j = 64 * s + 8 + i ∧ i < 8 := ⟨j / 64, j % 64 - 8, by omega, by omega⟩
      exact ⟨_, AD.val_byte x s i (by omega) hi⟩
theorem AD.all : (@tG x.S x.f x.t).all (@Good x.S (AD.sym_ok h) Tryz.prog) := by
  letI : Sym := x.S
  haveI : SymOk := AD.sym_ok h
  exact ⟨eq_good (AD.byt_ok h), ⟨⟨keyE2_loc _, keyE2_sound (AD.kt_ok h), keyQ2_ok _⟩, ⟨⟨sum2E_loc _, sum2E_sound (enters _ ⟨_, Tryz.func24, by kernel_rfl, by kernel_rfl⟩) (fun M v w h1 h2 => rsum_calls M v h1 w h2) (AD.st_ok h), sum2Q_ok _⟩, allL, allL⟩, allL⟩, allL⟩
end
def TabW (W : World) : Prop := ∃ c : Array Value, W.heap[0]? = some (.cells c 123 (0, 0)) ∧ c.size = 64 ∧ ∀ i, i < 64 → c[i]? = some (B32 (Sha.K.getD i 0))
theorem TabW.below {W W' : World} (h : TabW W) (hb : Below W.heap.size W W') : TabW W' := by
  obtain ⟨c, h1, h2, h3⟩ := h
  exact ⟨c, (hb.block 0 (Array.getElem?_eq_some_iff.1 h1).1).trans h1, h2, h3⟩
section
variable [Sym] [SymOk]
noncomputable def memT : Tr AB := Tr.set .e 0 (some (.cells (Sha.K.map u32A) 123))
theorem memT_get (j : Nat) : memT.get j = if j = 0 then some (.cells (Sha.K.map u32A) 123) else none := by
  unfold memT
  rw [Tr.get_set]
  by_cases h : j = 0
  · rw [if_pos h, if_pos h]
  · rw [if_neg h, if_neg h, Tr.get_e]
theorem srT {W : World} (h : TabW W) : SR Tryz.prog W.heap.size gsg memT W := by
  obtain ⟨c, h1, h2, h3⟩ := h
  refine ⟨fun j x hj => ?_, fun i j p1 p2 hi hj _ _ _ => ?_, fun j q hj hro => ?_, Nat.le_refl _⟩
  · rw [memT_get] at hj
    by_cases hk : j = 0
    · subst hk
      rw [if_pos rfl] at hj; cases hj
      obtain ⟨z, s, hg⟩ := gsg_gs 0 (by omega)
      refine ⟨_, _, hg, h1, c, rfl, (fun _ => ⟨rfl, h2⟩), (fun h => by cases h), (by rw [h2]; exact Nat.le_refl _), fun i x v e1 e2 => ?_⟩
      have hi : i < 64 := by
        have := (List.getElem?_eq_some_iff.1 e1).1
        exact this
      rw [Nat.zero_add, h3 i hi] at e2
      rw [List.getElem?_map] at e1
      have hK : Sha.K.length = 64 := rfl
      rw [List.getD_eq_getElem?_getD] at e2
      rw [List.getElem?_eq_getElem (by omega)] at e1 e2
      rw [← Option.some.inj e1, ← Option.some.inj e2]
      exact .i _ _
    · rw [if_neg hk] at hj; cases hj
  · rw [memT_get] at hi hj
    by_cases h : i = 0
    · by_cases h' : j = 0
      · omega
      · rw [if_neg h'] at hj; exact absurd rfl hj
    · rw [if_neg h] at hi; exact absurd rfl hi
  · have := gsg_lt hj
    have : roB = 2048 := rfl
    omega
theorem ne_type {P : Program} {B : Nat} {σ : Sg} {m : Tr AB} {W : World} {T : Nat} (hs : SR P B σ m W) (hty : ∀ j x, m.get j = some x → ∃ cs U, x = .cells cs U ∧ U ≠ T) : ∀ b row, W.heap[b]? = some (.cells row T (0, 0)) → ∀ j p, m.get j ≠ none → σ j = some p → p.b ≠ b := by
  intro b row hb j p hj hp e
  obtain ⟨x, hx⟩ := Option.ne_none_iff_exists'.1 hj
  obtain ⟨cs, U, rfl, hU⟩ := hty j x hx
  obtain ⟨q, o, hq, ho, c, hc, _⟩ := hs.mr j _ hx
  rw [hp] at hq; cases hq
  rw [e, hb] at ho
  cases ho
  cases hc
  exact hU rfl
end
theorem den_val [Sym] {l : List AV} {m : List UInt8} (h : l.map den = m.map byteA) : l.map valX = m.map (fun c => B8 c.toNat) ∧ l.all isIX = true := by
  induction l generalizing m with
  | nil => cases m with
    | nil => exact ⟨rfl, rfl⟩
    | cons b m => simp at h
  | cons a l ih => cases m with
    | nil => simp at h
    | cons b m =>
      simp only [List.map_cons, List.cons.injEq] at h
      obtain ⟨e1, e2⟩ := ih h.2
      have h1 := h.1
      unfold byteA at h1
      cases a <;> simp only [den] at h1 <;> first | (cases h1; done) | skip
      · cases h1
        exact ⟨by rw [List.map_cons, List.map_cons, e1]; rfl, by rw [List.all_cons, e2]; rfl⟩
      · injection h1 with q1 q2
        subst q1
        refine ⟨?_, by rw [List.all_cons, e2]; rfl⟩
        rw [List.map_cons, List.map_cons, e1]
        show Value.int .u8 (Sym.val _) :: _ = _
        rw [q2]
        rfl
def ackL (f t mtg : Nat) : List Value := [.int .i64 18, .int .i64 f, .int .i64 t, .int .i64 mtg, .int .i64 0, .int .i64 0, .int .i64 0, .int .i64 0, .int .i64 0, .int .i64 0, .int .i64 0, .int .i64 0,
  .int .i64 0, .bool false, .int .i64 0, .int .i64 0, .int .i64 0, .slice none 0 0, .int .i64 0, .int .i64 0, .string ByteArray.empty, .int .i64 0, .int .i64 0, .slice none 0 0, .int .i64 0, .int .i64 0, .int .i64 0, .int .i64 0, .int .i64 0, .slice none 0 0] ++ List.replicate 32 (.int .u8 0)
def zerL : List Value := [.int .i64 0, .int .i64 0, .int .i64 0, .int .i64 0, .int .i64 0, .int .i64 0, .int .i64 0, .int .i64 0, .int .i64 0, .int .i64 0, .int .i64 0, .int .i64 0,
  .int .i64 0, .bool false, .int .i64 0, .int .i64 0, .int .i64 0, .slice none 0 0, .int .i64 0, .int .i64 0, .string ByteArray.empty, .int .i64 0, .int .i64 0, .slice none 0 0, .int .i64 0, .int .i64 0, .int .i64 0, .int .i64 0, .int .i64 0, .slice none 0 0] ++ List.replicate 32 (.int .u8 0)
section
variable {x : AD} (h : x.Ok)
include h
theorem AD.vx (σ : Sg) {s : Nat} {n : Nat} (hn : x.num s = n) (hs : s < 16384) : @VR x.S σ (.x .i64 (64 * s)) (.int .i64 (n : Int)) := by
  have := @VR.x x.S σ .i64 (64 * s)
  rw [AD.val_at h s hs, hn] at this
  exact this
theorem AD.z_lv (σ : Sg) : @LV x.S σ zer32 (List.replicate 32 (.int .u8 0)) := by
  have := @LV.vals x.S σ zer32 (by decide)
  exact this
theorem AD.ack_lv (σ : Sg) : @LV x.S σ (gLet x.f x.t) (ackL x.f x.t x.mtg) := by
  have z : @VR x.S σ zI (.int .i64 0) := @VR.i x.S σ .i64 0
  have hh : @LV x.S σ (gLetH x.f x.t) [.int .i64 18, .int .i64 x.f, .int .i64 x.t, .int .i64 x.mtg, .int .i64 0, .int .i64 0, .int .i64 0, .int .i64 0, .int .i64 0, .int .i64 0, .int .i64 0, .int .i64 0,
    .int .i64 0, .bool false, .int .i64 0, .int .i64 0, .int .i64 0, .slice none 0 0, .int .i64 0, .int .i64 0, .string ByteArray.empty, .int .i64 0, .int .i64 0, .slice none 0 0, .int .i64 0, .int .i64 0, .int .i64 0, .int .i64 0, .int .i64 0] :=
    ⟨@VR.i x.S σ _ _, @VR.i x.S σ _ _, @VR.i x.S σ _ _, AD.vx h σ (s := 3) rfl (by omega), z, z, z, z, z, z, z, z, z, @VR.b x.S σ _, z, z, z, @VR.sln x.S σ _ _, z, z, @VR.s x.S σ _ _ rfl, z, z, @VR.sln x.S σ _ _, z, z, z, z, z, trivial⟩
  have ht : @LV x.S σ (.sl none 0 0 :: zer32) (.slice none 0 0 :: List.replicate 32 (.int .u8 0)) := ⟨@VR.sln x.S σ 0 0, AD.z_lv h σ⟩
  have hg := @LV.app x.S σ _ _ _ _ hh ht
  exact hg
theorem AD.zer_lv (σ : Sg) : @LV x.S σ zLet zerL := by
  have z : @VR x.S σ zI (.int .i64 0) := @VR.i x.S σ .i64 0
  have hh : @LV x.S σ [zI, zI, zI, zI, zI, zI, zI, zI, zI, zI, zI, zI, zI, .b false, zI, zI, zI, .sl none 0 0, zI, zI, .s [], zI, zI, .sl none 0 0, zI, zI, zI, zI, zI, .sl none 0 0] [.int .i64 0, .int .i64 0, .int .i64 0, .int .i64 0, .int .i64 0, .int .i64 0, .int .i64 0, .int .i64 0, .int .i64 0, .int .i64 0, .int .i64 0, .int .i64 0,
    .int .i64 0, .bool false, .int .i64 0, .int .i64 0, .int .i64 0, .slice none 0 0, .int .i64 0, .int .i64 0, .string ByteArray.empty, .int .i64 0, .int .i64 0, .slice none 0 0, .int .i64 0, .int .i64 0, .int .i64 0, .int .i64 0, .int .i64 0, .slice none 0 0] :=
    ⟨z, z, z, z, z, z, z, z, z, z, z, z, z, @VR.b x.S σ _, z, z, z, @VR.sln x.S σ _ _, z, z, @VR.s x.S σ _ _ rfl, z, z, @VR.sln x.S σ _ _, z, z, z, z, z, @VR.sln x.S σ _ _, trivial⟩
  exact @LV.app x.S σ _ _ _ _ hh (AD.z_lv h σ)
theorem AD.lay {W : World} {kv body : Value} (hT : TabW W) (hk : SlZ 0 W kv 34 32 3 ((x.k0 ++ (x.k1 ++ x.k2)).map fun c => B8 c.toNat)) (hb : Sl 0 W body 5 ((ackB x.f x.t x.mtg).map fun c => B8 c.toNat)) :
    ∃ σ m, GS σ ∧ (∀ j, 2048 ≤ j → σ j = none) ∧ @SR x.S Tryz.prog W.heap.size σ m W ∧ @RS 2048 ⟨m, 1024, [], []⟩ ⟨gFm x.f x.t, 1024, 2048, [], []⟩ ∧ @VR x.S σ (.sl (some (1029, 0)) 3 3) kv ∧ @VR x.S σ (.sl (some (1027, 0)) 43 43) body := by
  letI : Sym := x.S
  haveI hok : SymOk := AD.sym_ok h
  obtain ⟨p1, p2, p3, p4, p5, p6, p7⟩ := AD.parts h
  have n0 := AD.nm_val h 0 96 (by omega)
  rw [p7] at n0
  rw [← n0] at hk
  obtain ⟨e1, eix⟩ := den_val (AD.enc_den h)
  rw [← e1] at hb
  have hl43 : (gEnc x.f x.t).length = 43 := rfl
  have ty1 : ∀ j y, memT.get j = some y → ∃ cs U, y = .cells cs U ∧ U ≠ 5 := fun j y hj => by
    rw [memT_get] at hj
    by_cases e : j = 0
    · rw [if_pos e] at hj; cases hj; exact ⟨_, _, rfl, by decide⟩
    · rw [if_neg e] at hj; cases hj
  obtain ⟨b0, o0, c0, row0, hv0, _, hh0, _⟩ := id hb
  obtain ⟨q1, s1, v1⟩ := sl_lay (B := W.heap.size) cells_u8 (srT hT) hb eix (k := 1027) (gsg_none (by omega)) (by omega) rfl (fun b o n c hv j p hj hp => by
    rw [hv0] at hv
    injection hv with hv
    injection hv with hv
    injection hv with hv
    subst hv
    exact ne_type (srT hT) ty1 b0 row0 hh0 j p hj hp)
  have hn1 : (gsg.add 1027 q1) 1029 = none := add_none (by omega) (gsg_none (by omega))
  have ty2 : ∀ j y, (memT.set 1027 (some (.cells (gEnc x.f x.t) 5))).get j = some y → ∃ cs U, y = .cells cs U ∧ U ≠ 34 := fun j y hj => by
    rw [Tr.get_set] at hj
    by_cases e : j = 1027
    · rw [if_pos e] at hj; cases hj; exact ⟨_, _, rfl, by decide⟩
    · rw [if_neg e, memT_get] at hj
      by_cases e : j = 0
      · rw [if_pos e] at hj; cases hj; exact ⟨_, _, rfl, by decide⟩
      · rw [if_neg e] at hj; cases hj
  have nix : (nm 0 96).all isIX = true := by decide
  obtain ⟨q2, s2, v2, _⟩ := slz_lay (B := W.heap.size) (n := 3) (z := 32) (k := 1029) (by kernel_rfl) s1 hk nix hn1 (by omega) rfl (ne_type s1 ty2)
  refine ⟨(gsg.add 1027 q1).add 1029 q2, _, (gsg_gs.mono (Sg.le_add (gsg_none (by omega)))).mono (Sg.le_add hn1), fun j hj => add_none (by omega) (add_none (by omega) (gsg_none (by omega))), s2, ?_, v2, (v1.mono (Sg.le_add hn1))⟩
  have r0 := rs_lay rs_e 0 123 (Sha.K.map u32A) (by omega) (by rfl)
  have hK : (Sha.K.map u32A).length = 64 := rfl
  rw [hK] at r0
  have r1 := rs_lay r0 1027 5 (gEnc x.f x.t) (by omega) (by rfl)
  rw [hl43] at r1
  have r2 := rs_lay r1 1029 34 (nm 0 96) (by omega) (by decide)
  exact r2
end
end V
end Go.CE
namespace Go.CE
namespace V
open Go.Proofs Go.Proofs.YtmjblpkbfoipfaaGreatDoor Go.RowKit
theorem row_det [Sym] [SymOk] {σ : Sg} {l : List AV} {m : List Value} {v : Value} (h1 : VR σ (.g l) v) (h2 : LV σ l m) (hy : l.all isY = true) : v = .agg m.toArray := by
  obtain ⟨a, rfl, ha⟩ := h1.lr_g
  congr 1
  exact agg_det ha h2.lr fun i x hx => .inl (List.all_eq_true.1 hy x (List.mem_of_getElem? hx))
section
variable {x : AD} (h : x.Ok)
include h
theorem AD.env_vr {W : World} {body : Value} {σ : Sg} (right : Bool) (hb : @VR x.S σ (.sl (some (1027, 0)) 43 43) body) :
    @VR x.S σ (.g (gEnv x.f x.t right)) (.agg (Env.row ⟨x.f, x.t, x.seq, body, if right then x.right else x.other⟩)) := by
  letI : Sym := x.S
  haveI hok : SymOk := AD.sym_ok h
  obtain ⟨p1, p2, p3, p4, p5, p6, p7⟩ := AD.parts h
  have n2 := AD.nm_val h 96 32 (by omega)
  have n3 := AD.nm_val h 128 32 (by omega)
  rw [p2] at n2
  rw [p3] at n3
  have v20 : VR σ (.x .i64 1280) (.int .i64 x.seq) := AD.vx h σ (s := 20) (n := x.seq) rfl (by omega)
  have hs : LV σ (match right with | true => nm 96 32 | false => nm 128 32) ((if right then x.right else x.other).map fun c => B8 c.toNat) := by
    cases right
    · show LV σ (nm 128 32) (x.other.map fun c => B8 c.toNat)
      rw [← n3]; exact LV.vals (by decide)
    · show LV σ (nm 96 32) (x.right.map fun c => B8 c.toNat)
      rw [← n2]; exact LV.vals (by decide)
  have hh : LV σ [.i .i64 (.ofNat x.f), .i .i64 (.ofNat x.t), .x .i64 1280, .sl (some (1027, 0)) 43 43] [.int .i64 x.f, .int .i64 x.t, .int .i64 x.seq, body] := ⟨.i _ _, .i _ _, v20, hb, trivial⟩
  have hg := LR.g (LV.lr (LV.app hh hs))
  have e : Env.row ⟨x.f, x.t, x.seq, body, if right then x.right else x.other⟩ = ([.int .i64 x.f, .int .i64 x.t, .int .i64 x.seq, body] ++ (if right then x.right else x.other).map fun c => B8 c.toNat : List Value).toArray := by
    unfold Env.row bRow
    simp
  rw [e]
  exact hg
theorem AD.open_run {g : Nat} {right : Bool} {row : List AV} {rowL : List Value} {en : Nat} (hrun : isRow row en (@runG x.S g x.f x.t right) = true) (hy : row.all isY = true) (hlv : ∀ σ, @LV x.S σ row rowL) {W : World} {kv body : Value} (hT : TabW W) (hk : SlZ 0 W kv 34 32 3 ((x.k0 ++ (x.k1 ++ x.k2)).map fun c => B8 c.toNat)) (hb : Sl 0 W body 5 ((ackB x.f x.t x.mtg).map fun c => B8 c.toNat)) :
    Calls Tryz.prog g #[kv, .agg (Env.row ⟨x.f, x.t, x.seq, body, if right then x.right else x.other⟩)] W fun e W' => e = .returned (.tuple #[.agg rowL.toArray, .int .i64 (en : Int)]) ∧ Below W.heap.size W W' := by
  letI : Sym := x.S
  haveI hok : SymOk := AD.sym_ok h
  obtain ⟨σ, m, hg, hfr, hsr, hrs, hkv, hbv⟩ := AD.lay h hT hk hb
  have hev := AD.env_vr (W := W) h right hbv
  unfold isRow at hrun
  split at hrun
  · rename_i t f' he
    split at hrun
    · rename_i gg nn hg0 hg1
      simp only [Bool.and_eq_true] at hrun
      have r1 := Nat.eq_of_beq_eq_true hrun.1
      have r2 := avL_eq hrun.2
      subst r1
      have hl : LR σ [.sl (some (1029, 0)) 3 3, .g (gEnv x.f x.t right)] #[kv, .agg (Env.row ⟨x.f, x.t, x.seq, body, if right then x.right else x.other⟩)] := by
        have := LV.lr (σ := σ) (l := [.sl (some (1029, 0)) 3 3, .g (gEnv x.f x.t right)]) (m := [kv, .agg (Env.row ⟨x.f, x.t, x.seq, body, if right then x.right else x.other⟩)]) ⟨hkv, hev, trivial⟩
        simpa using this
      refine (run_calls (AD.all h) hrs hg hsr hfr (rvs_of _) hl he).mono fun e W' hd => ?_
      obtain ⟨τ, u, s', rfl, hov, hrs', _, hsr', hvu, hbel⟩ := hd
      have ha : absV (FV.t t 2) = .t [.g row, .i .i64 (.ofNat nn)] := by
        show AV.t ((List.range 2).map fun j => absG (getV (p4 j) t)) = _
        simp only [show List.range 2 = [0, 1] from rfl, List.map_cons, List.map_nil, hg0, hg1]
        show AV.t [.g (cellsV gg 0 62), .i .i64 (.ofNat nn)] = _
        rw [r2]
      rw [ha] at hvu
      obtain ⟨cc, rfl, hcc⟩ := hvu.lr_t
      obtain ⟨v0, e0, hv0⟩ := hcc.at (i := 0) rfl
      obtain ⟨v1, e1, hv1⟩ := hcc.at (i := 1) rfl
      have hcs : cc = #[v0, v1] := by
        have hs : cc.size = 2 := hcc.len.symm
        apply Array.ext
        · simpa using hs
        · intro i h3 h4
          have : i = 0 ∨ i = 1 := by omega
          rcases this with rfl | rfl
          · simpa using (Array.getElem?_eq_some_iff.1 e0).2
          · simpa using (Array.getElem?_eq_some_iff.1 e1).2
      subst hcs
      cases hv1
      obtain rfl := row_det hv0 (hlv τ) hy
      exact ⟨rfl, hbel⟩
    · cases hrun
  · cases hrun
omit h in
theorem gLet_y (f t : Nat) : (gLet f t).all isY = true := rfl
omit h in
theorem zLet_y : zLet.all isY = true := rfl
theorem open_right {W : World} {kv body : Value} (hT : TabW W) (hk : SlZ 0 W kv 34 32 3 ((x.k0 ++ (x.k1 ++ x.k2)).map fun c => B8 c.toNat)) (hb : Sl 0 W body 5 ((ackB x.f x.t x.mtg).map fun c => B8 c.toNat)) :
    Calls Tryz.prog 22 #[kv, .agg (Env.row ⟨x.f, x.t, x.seq, body, x.right⟩)] W fun e W' => e = .returned (.tuple #[.agg (ackL x.f x.t x.mtg).toArray, .int .i64 0]) ∧ Below W.heap.size W W' :=
  AD.open_run (right := true) h (gop_allt h.pr x.num x.oct) (gLet_y _ _) (AD.ack_lv h) hT hk hb
theorem open_wrong {W : World} {kv body : Value} (hT : TabW W) (hk : SlZ 0 W kv 34 32 3 ((x.k0 ++ (x.k1 ++ x.k2)).map fun c => B8 c.toNat)) (hb : Sl 0 W body 5 ((ackB x.f x.t x.mtg).map fun c => B8 c.toNat)) :
    Calls Tryz.prog 22 #[kv, .agg (Env.row ⟨x.f, x.t, x.seq, body, x.other⟩)] W fun e W' => e = .returned (.tuple #[.agg zerL.toArray, .int .i64 8]) ∧ Below W.heap.size W W' :=
  AD.open_run (right := false) h (gop_allf h.pr x.num x.oct) zLet_y (AD.zer_lv h) hT hk hb
theorem ropen_right {W : World} {kv body : Value} (hT : TabW W) (hk : SlZ 0 W kv 34 32 3 ((x.k0 ++ (x.k1 ++ x.k2)).map fun c => B8 c.toNat)) (hb : Sl 0 W body 5 ((ackB x.f x.t x.mtg).map fun c => B8 c.toNat)) :
    Calls Tryz.prog 27 #[kv, .agg (Env.row ⟨x.f, x.t, x.seq, body, x.right⟩)] W fun e W' => e = .returned (.tuple #[.agg (ackL x.f x.t x.mtg).toArray, .int .i64 0]) ∧ Below W.heap.size W W' :=
  AD.open_run (right := true) h (gor_allt h.pr x.num x.oct) (gLet_y _ _) (AD.ack_lv h) hT hk hb
theorem ropen_wrong {W : World} {kv body : Value} (hT : TabW W) (hk : SlZ 0 W kv 34 32 3 ((x.k0 ++ (x.k1 ++ x.k2)).map fun c => B8 c.toNat)) (hb : Sl 0 W body 5 ((ackB x.f x.t x.mtg).map fun c => B8 c.toNat)) :
    Calls Tryz.prog 27 #[kv, .agg (Env.row ⟨x.f, x.t, x.seq, body, x.other⟩)] W fun e W' => e = .returned (.tuple #[.agg zerL.toArray, .int .i64 8]) ∧ Below W.heap.size W W' :=
  AD.open_run (right := false) h (gor_allf h.pr x.num x.oct) zLet_y (AD.zer_lv h) hT hk hb
end
end V
end Go.CE
