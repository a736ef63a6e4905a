/-
  The envelope of a deed, and the right seal of an envelope: reckoned by the kernel.
-/
import Derived.Test.YtmjblpkbfoipfaaGreatDoorPkGs
set_option linter.unusedSectionVars false
set_option linter.constructorNameAsVariable false
set_option linter.unusedVariables false
set_option linter.unusedSimpArgs false
namespace Go.CE
namespace V
open Go.Proofs Go.Proofs.YtmjblpkbfoipfaaGreatDoor Go.RowKit
set_option maxRecDepth 100000
def vBin (f : Nat) (base : BinOp → IntKind → Nat → IntKind → Int → Option AV) (op : BinOp) (k : IntKind) (j : Nat) (k' : IntKind) (b : Int) : Option AV := match op with
  | .rem => match ikEq k .i64 && ikEq k' .i64, b with
    | true, .ofNat n => match Nat.beq j 1920 && Nat.beq n 2 with
      | true => some (.i .i64 (.ofNat (f - 1)))
      | false => match Nat.beq j 1984 && Nat.beq n 20 with
        | true => some (.x .i64 2176)
        | false => none
    | _, _ => none
  | op => base op k j k' b
def vBin2 (base : BinOp → IntKind → Nat → IntKind → Nat → Option AV) (op : BinOp) (k : IntKind) (i : Nat) (k' : IntKind) (j : Nat) : Option AV := match ikEq k .i64 && ikEq k' .i64 && Nat.beq i 2112 && Nat.beq j 2048, op with
  | true, .add => some (.x .i64 1280)
  | _, op => base op k i k' j
def vBinL (base : BinOp → IntKind → Int → IntKind → Nat → Option AV) (op : BinOp) (k : IntKind) (a : Int) (k' : IntKind) (j : Nat) : Option AV := match ikEq k .i64 && ikEq k' .i64 && eqI a 1, op with
  | true, .add => match Nat.beq j 1984 with
    | true => some (.x .i64 192)
    | false => match Nat.beq j 2176 with
      | true => some (.x .i64 2112)
      | false => none
  | _, op => base op k a k' j
@[reducible] def vS (f : Nat) (num oct : Nat → Nat) : Sym where
  val j := .ofNat ((gP f num oct).nat j)
  bin := vBin f (gP f num oct).bin
  cv := (gP f num oct).cv
  bin2 := vBin2 (gP f num oct).bin2
  binL := vBinL (gP f num oct).binL
  eqx := (gP f num oct).same
  eqc := (gP f num oct).eqc
  eqg := (gP f num oct).eqg
def fSt (f t : Nat) (b : List AV) : Option (List AV) := match avL b [.i .u8 (.ofNat 0), .i .u8 (.ofNat 77)] with
  | true => some (nm 0 32)
  | false => match avL b [.i .u8 (.ofNat 1), .i .u8 (.ofNat 77)] with
    | true => some (nm 32 32)
    | false => match avL b [.i .u8 (.ofNat 2), .i .u8 (.ofNat 77)] with
      | true => some (nm 64 32)
      | false => gSt f t b
noncomputable def fFk : FM := setM (p4 1029) (.cells .e 0 34) (setM (p4 0) (.cells (treeOf (Sha.K.map u32A)) 64 123) .e)
def deedA (forged astray : Bool) : AV := .g [.x .u8 1920, .x .u8 1984, .x .u16 2048, .b forged, .b astray]
section
variable [Sym]
noncomputable def tF (f t : Nat) : LT := .n 24 (sum2Q (fSt f t)) (sum2E (fSt f t)) tL tL
noncomputable def runAr (f t : Nat) (astray : Bool) : Ans := evF P (LT.fq (tG f t)) 4000 10 [ofV (.sl (some (1029, 0)) 3 3), ofV (deedA false astray)] ⟨gFk, 1024, 2048, [], []⟩
noncomputable def runAf (f t : Nat) (astray : Bool) : Ans := evF P (LT.fq (tF f t)) 4000 10 [ofV (.sl (some (1029, 0)) 3 3), ofV (deedA true astray)] ⟨fFk, 1024, 2048, [], []⟩
noncomputable def runSo (f t : Nat) (right : Bool) : Ans := evF P (LT.fq (tG f t)) 4000 19 [ofV (.g (nm (32 * f) 32)), ofV (.g (gEnv f t right))] ⟨gFm f t, 1024, 2048, [], []⟩
end
noncomputable def isDg (r : Ans) : Bool := match r with
  | some (.g g 32, _) => avL (cellsV g 0 32) (nm 96 32)
  | _ => false
noncomputable def isEn1 (f t : Nat) (r : Ans) : Bool := match r with
  | some (.g g 36, w) => avL (cellsV g 0 3) [.i .i64 (.ofNat f), .i .i64 (.ofNat t), .x .i64 1280] && avL (cellsV g 4 32) (nm 96 32) && (match getV (p4 3) g with
      | .s q k o n _ => Nat.beq n 43 && Nat.ble 2048 k && gw k && optL (blkL 5 (getM q w.m) o n) (gEnc f t)
      | _ => false)
  | _ => false
theorem gar_12 (num oct : Nat → Nat) : isEn1 1 2 (@runAr (vS 1 num oct) 1 2 true) = true := by kernel_rfl
theorem gar_21 (num oct : Nat → Nat) : isEn1 2 1 (@runAr (vS 2 num oct) 2 1 true) = true := by kernel_rfl
theorem gar_10 (num oct : Nat → Nat) : isEn1 1 0 (@runAr (vS 1 num oct) 1 0 false) = true := by kernel_rfl
theorem gar_20 (num oct : Nat → Nat) : isEn1 2 0 (@runAr (vS 2 num oct) 2 0 false) = true := by kernel_rfl
theorem gaf_12 (num oct : Nat → Nat) : isEn1 1 2 (@runAf (vS 1 num oct) 1 2 true) = true := by kernel_rfl
theorem gaf_21 (num oct : Nat → Nat) : isEn1 2 1 (@runAf (vS 2 num oct) 2 1 true) = true := by kernel_rfl
theorem gaf_10 (num oct : Nat → Nat) : isEn1 1 0 (@runAf (vS 1 num oct) 1 0 false) = true := by kernel_rfl
theorem gaf_20 (num oct : Nat → Nat) : isEn1 2 0 (@runAf (vS 2 num oct) 2 0 false) = true := by kernel_rfl
theorem gso_12 (num oct : Nat → Nat) : isDg (@runSo (gS 1 num oct) 1 2 true) = true ∧ isDg (@runSo (gS 1 num oct) 1 2 false) = true := ⟨by kernel_rfl, by kernel_rfl⟩
theorem gso_21 (num oct : Nat → Nat) : isDg (@runSo (gS 2 num oct) 2 1 true) = true ∧ isDg (@runSo (gS 2 num oct) 2 1 false) = true := ⟨by kernel_rfl, by kernel_rfl⟩
theorem gso_10 (num oct : Nat → Nat) : isDg (@runSo (gS 1 num oct) 1 0 true) = true ∧ isDg (@runSo (gS 1 num oct) 1 0 false) = true := ⟨by kernel_rfl, by kernel_rfl⟩
theorem gso_20 (num oct : Nat → Nat) : isDg (@runSo (gS 2 num oct) 2 0 true) = true ∧ isDg (@runSo (gS 2 num oct) 2 0 false) = true := ⟨by kernel_rfl, by kernel_rfl⟩
def astr (t : Nat) : Bool := match t with
  | 0 => false
  | _ => true
theorem gar_all {f t : Nat} (h : (f, t) ∈ pairs) (num oct : Nat → Nat) : isEn1 f t (@runAr (vS f num oct) f t (astr t)) = true := by
  simp only [pairs, List.mem_cons, Prod.mk.injEq, List.not_mem_nil, or_false] at h
  rcases h with ⟨rfl, rfl⟩ | ⟨rfl, rfl⟩ | ⟨rfl, rfl⟩ | ⟨rfl, rfl⟩
  · exact gar_12 num oct
  · exact gar_21 num oct
  · exact gar_10 num oct
  · exact gar_20 num oct
theorem gaf_all {f t : Nat} (h : (f, t) ∈ pairs) (num oct : Nat → Nat) : isEn1 f t (@runAf (vS f num oct) f t (astr t)) = true := by
  simp only [pairs, List.mem_cons, Prod.mk.injEq, List.not_mem_nil, or_false] at h
  rcases h with ⟨rfl, rfl⟩ | ⟨rfl, rfl⟩ | ⟨rfl, rfl⟩ | ⟨rfl, rfl⟩
  · exact gaf_12 num oct
  · exact gaf_21 num oct
  · exact gaf_10 num oct
  · exact gaf_20 num oct
theorem gso_all {f t : Nat} (h : (f, t) ∈ pairs) (num oct : Nat → Nat) (right : Bool) : isDg (@runSo (gS f num oct) f t right) = true := by
  simp only [pairs, List.mem_cons, Prod.mk.injEq, List.not_mem_nil, or_false] at h
  rcases h with ⟨rfl, rfl⟩ | ⟨rfl, rfl⟩ | ⟨rfl, rfl⟩ | ⟨rfl, rfl⟩ <;> cases right
  · exact (gso_12 num oct).2
  · exact (gso_12 num oct).1
  · exact (gso_21 num oct).2
  · exact (gso_21 num oct).1
  · exact (gso_10 num oct).2
  · exact (gso_10 num oct).1
  · exact (gso_20 num oct).2
  · exact (gso_20 num oct).1
end V
end Go.CE
namespace Go.CE
namespace V
open Go.Proofs Go.Proofs.YtmjblpkbfoipfaaGreatDoor Go.RowKit
set_option maxRecDepth 100000
structure AD.Dd (x : AD) : Prop where
  f : x.f = 1 + x.dF % 2
  mtg : x.mtg = 1 + x.dS
  seq : x.seq = 1 + x.dS % 20 + x.far
@[reducible] def AD.V (x : AD) : Sym := vS x.f x.num x.oct
theorem ikI {k : IntKind} (h : ikEq k .i64 = true) : k = .i64 := Y.ikT h
theorem wrapN (n : Nat) (h : n < 9223372036854775808) : wrapA .i64 (.ofNat n) = .ofNat n := Y.wrap_ok (k := .i64) rfl n h
theorem binN_sym (S1 S2 : Sym) (P : Program) (op : BinOp) (t : Nat) (k k' : IntKind) (a b : Int) : @binN S1 P op t (.i k a) (.i k' b) = @binN S2 P op t (.i k a) (.i k' b) := by cases op <;> rfl
theorem den_sym (S1 S2 : Sym) (e : S1.val = S2.val) (r : AV) : @den S1 r = @den S2 r := by
  cases r <;> first | rfl | skip
  unfold den
  show AV.i _ (S1.val _) = AV.i _ (S2.val _)
  rw [e]
section
variable {x : AD} (h : x.Ok) (g : x.Dd)
include h
theorem AD.vv (s : Nat) (hs : s < 16384) : @Sym.val x.V (64 * s) = Int.ofNat (x.num s) := AD.val_at h s hs
include g
theorem AD.v_ok : @SymOk x.V := by
  have B := AD.sym_ok h
  have d1 := h.d1
  have d2 := h.d2
  have d3 := h.d3
  have v30 : @Sym.val x.V 1920 = Int.ofNat x.dF := AD.vv h 30 (by omega)
  have v31 : @Sym.val x.V 1984 = Int.ofNat x.dS := AD.vv h 31 (by omega)
  have v32 : @Sym.val x.V 2048 = Int.ofNat x.far := AD.vv h 32 (by omega)
  have v33 : @Sym.val x.V 2112 = Int.ofNat (1 + x.dS % 20) := AD.vv h 33 (by omega)
  have v34 : @Sym.val x.V 2176 = Int.ofNat (x.dS % 20) := AD.vv h 34 (by omega)
  have v3 : @Sym.val x.V 192 = Int.ofNat x.mtg := AD.vv h 3 (by omega)
  have v20 : @Sym.val x.V 1280 = Int.ofNat x.seq := AD.vv h 20 (by omega)
  refine @SymOk.mk x.V (fun op k j k' b r e P t => ?_) (fun k j r e => (den_sym x.V x.S rfl r).trans (B.cv k j r e)) (fun op k i k' j r e P t => ?_) (fun op k a k' j r e P t => ?_) B.eqx B.eqc (fun v w r e => ?_)
  · replace e : vBin x.f x.P.bin op k j k' b = some r := e
    unfold vBin at e
    split at e
    · split at e
      · rename_i n gk
        simp only [Bool.and_eq_true] at gk
        obtain rfl := ikI gk.1
        obtain rfl := ikI gk.2
        split at e
        · rename_i gj
          simp only [Bool.and_eq_true] at gj
          obtain rfl := Y.bqT gj.1
          obtain rfl := Y.bqT gj.2
          cases e
          show some (AV.i .i64 ((@Sym.val x.V 1920).tmod (Int.ofNat 2))) = some (AV.i .i64 (Int.ofNat (x.f - 1)))
          rw [v30, g.f, show 1 + x.dF % 2 - 1 = x.dF % 2 by omega]
          rfl
        · split at e
          · rename_i gj
            simp only [Bool.and_eq_true] at gj
            obtain rfl := Y.bqT gj.1
            obtain rfl := Y.bqT gj.2
            cases e
            show some (AV.i .i64 ((@Sym.val x.V 1984).tmod (Int.ofNat 20))) = some (AV.i .i64 (@Sym.val x.V 2176))
            rw [v31, v34]
            rfl
          · cases e
      · cases e
    · exact (binN_sym x.V x.S P op t k k' _ b).trans ((B.bin op k j k' b r e P t).trans (congrArg some (den_sym x.S x.V rfl r)))
  · replace e : vBin2 x.P.bin2 op k i k' j = some r := e
    unfold vBin2 at e
    split at e
    · rename_i gk
      simp only [Bool.and_eq_true] at gk
      obtain ⟨⟨⟨gk1, gk2⟩, gk3⟩, gk4⟩ := gk
      obtain rfl := ikI gk1
      obtain rfl := ikI gk2
      obtain rfl := Y.bqT gk3
      obtain rfl := Y.bqT gk4
      cases e
      show some (AV.i .i64 (wrapA .i64 (@Sym.val x.V 2112 + @Sym.val x.V 2048))) = some (AV.i .i64 (@Sym.val x.V 1280))
      rw [v33, v32, v20, g.seq]
      show some (AV.i .i64 (wrapA .i64 (.ofNat (1 + x.dS % 20 + x.far)))) = _
      rw [wrapN _ (by omega)]
    · exact (binN_sym x.V x.S P _ t k k' _ _).trans ((B.bin2 _ k i k' j r e P t).trans (congrArg some (den_sym x.S x.V rfl r)))
  · replace e : vBinL x.P.binL op k a k' j = some r := e
    unfold vBinL at e
    split at e
    · rename_i gk
      simp only [Bool.and_eq_true] at gk
      obtain ⟨⟨gk1, gk2⟩, gk3⟩ := gk
      obtain rfl := ikI gk1
      obtain rfl := ikI gk2
      have ga : a = 1 := by
        rw [Y.eqE] at gk3
        exact eq_of_beq gk3
      subst ga
      split at e
      · rename_i gj
        obtain rfl := Y.bqT gj
        cases e
        show some (AV.i .i64 (wrapA .i64 (1 + @Sym.val x.V 1984))) = some (AV.i .i64 (@Sym.val x.V 192))
        rw [v31, v3, g.mtg]
        show some (AV.i .i64 (wrapA .i64 (.ofNat (1 + x.dS)))) = _
        rw [wrapN _ (by omega)]
      · split at e
        · rename_i gj
          obtain rfl := Y.bqT gj
          cases e
          show some (AV.i .i64 (wrapA .i64 (1 + @Sym.val x.V 2176))) = some (AV.i .i64 (@Sym.val x.V 2112))
          rw [v34, v33]
          show some (AV.i .i64 (wrapA .i64 (.ofNat (1 + x.dS % 20)))) = _
          rw [wrapN _ (by omega)]
        · cases e
    · exact (binN_sym x.V x.S P _ t k k' a _).trans ((B.binL _ k a k' j r e P t).trans (congrArg some (den_sym x.S x.V rfl r)))
  · obtain ⟨kk, a, b, h1, h2, h3⟩ := B.eqg v w r e
    exact ⟨kk, a, b, (List.map_congr_left fun y _ => den_sym x.V x.S rfl y).trans h1, (List.map_congr_left fun y _ => den_sym x.V x.S rfl y).trans h2, h3⟩
theorem AD.v_all : (@tG x.V x.f x.t).all (@Good x.V (AD.v_ok h g) Tryz.prog) := by
  letI : Sym := x.V
  haveI : SymOk := AD.v_ok h g
  exact ⟨eq_good (AD.byt_ok h), ⟨⟨keyE2_loc _, keyE2_sound (AD.kt_ok h), keyQ2_ok _⟩, ⟨⟨sum2E_loc _, sum2E_sound (enters _ ⟨_, Tryz.func24, by kernel_rfl, by kernel_rfl⟩) (fun M v w h1 h2 => rsum_calls M v h1 w h2) (AD.st_ok h), sum2Q_ok _⟩, allL, allL⟩, allL⟩, allL⟩
theorem AD.en_out {tr : LT} (hall : tr.all (@Good x.V (AD.v_ok h g) Tryz.prog)) {W : World} {σ : Sg} {m : Tr AB} {fm : FM} {fn : Nat} {args : List AV} {vals : Array Value}
    (hrs : RS 2048 ⟨m, 1024, [], []⟩ ⟨fm, 1024, 2048, [], []⟩) (hg : GS σ) (hsr : @SR x.V Tryz.prog W.heap.size σ m W) (hfr : ∀ j, 2048 ≤ j → σ j = none) (hl : @LR x.V σ args vals)
    (hrun : isEn1 x.f x.t (@evF x.V V.P (LT.fq tr) 4000 fn (args.map ofV) ⟨fm, 1024, 2048, [], []⟩) = true) :
    Calls Tryz.prog fn vals W fun e W' => ∃ body, e = .returned (.agg (Env.row ⟨x.f, x.t, x.seq, body, x.right⟩)) ∧ Sl W.heap.size W' body 5 ((ackB x.f x.t x.mtg).map fun c => B8 c.toNat) ∧ Below W.heap.size W W' := by
  letI : Sym := x.V
  haveI hok : SymOk := AD.v_ok h g
  have p2 := (AD.parts h).2.1
  have n2 := AD.nm_val h 96 32 (by omega)
  rw [p2] at n2
  have ed : (gEnc x.f x.t).map den = (ackB x.f x.t x.mtg).map byteA := (List.map_congr_left fun y _ => den_sym x.V x.S rfl y).trans (AD.enc_den h)
  obtain ⟨e1, eix⟩ := den_val ed
  unfold isEn1 at hrun
  split at hrun
  · rename_i gg f' he
    simp only [Bool.and_eq_true] at hrun
    obtain ⟨⟨r1, r2⟩, r3⟩ := hrun
    have r1 := avL_eq r1
    have r2 := avL_eq r2
    split at r3
    · rename_i q k o n c hg3
      simp only [Bool.and_eq_true] at r3
      obtain ⟨⟨⟨z1, z2⟩, z3⟩, z4⟩ := r3
      have z1 := Nat.eq_of_beq_eq_true z1
      have z2 : 2048 ≤ k := Nat.le_of_ble_eq_true z2
      unfold optL at z4
      split at z4
      · rename_i mm hb
        obtain rfl := avL_eq z4
        refine (run_calls hall hrs hg hsr hfr (rvs_of _) hl he).mono fun e W' hd => ?_
        obtain ⟨τ, u, s', rfl, hov, hrs', _, hsr', hvu, hbel⟩ := hd
        have hgok : allOk gg 36 := hov
        have hq : q = p4 k := by
          have := hgok 3 (by omega)
          rw [hg3] at this; exact this
        have ha : absV (.g gg 36) = .g ([.i .i64 (.ofNat x.f), .i .i64 (.ofNat x.t), .x .i64 1280] ++ .sl (some (k, o)) n c :: nm 96 32) := by
          show AV.g (cellsV gg 0 36) = _
          have : cellsV gg 0 36 = cellsV gg 0 3 ++ abs0 (getV (p4 3) gg) :: cellsV gg 4 32 := by
            apply List.ext_getElem?
            intro i
            by_cases h1 : i < 3
            · rw [List.getElem?_append_left (by rw [len_cellsV]; exact h1), get_cellsV, get_cellsV, if_pos (by omega), if_pos h1]
            · rw [List.getElem?_append_right (by rw [len_cellsV]; omega), len_cellsV]
              by_cases h2 : i = 3
              · subst h2; rw [get_cellsV, if_pos (by omega)]; rfl
              · obtain ⟨j, rfl⟩ : ∃ j, i = j + 4 := ⟨i - 4, by omega⟩
                rw [show j + 4 - 3 = j + 1 by omega, List.getElem?_cons_succ, get_cellsV, get_cellsV]
                by_cases h3 : j < 32
                · rw [if_pos (by omega), if_pos h3, show 0 + (j + 4) = 4 + j by omega]
                · rw [if_neg (by omega), if_neg h3]
          rw [this, r1, r2, hg3]
          rfl
        rw [ha] at hvu
        obtain ⟨arr, rfl, harr⟩ := hvu.lr_g
        obtain ⟨body, hbd, hbv⟩ := harr.at (i := 3) rfl
        have v20 : VR τ (.x .i64 1280) (.int .i64 x.seq) := by
          have := VR.x (σ := τ) .i64 1280
          rw [show Sym.val 1280 = Int.ofNat x.seq from AD.val_at h 20 (by omega)] at this; exact this
        have hs2 : LV τ (nm 96 32) (x.right.map fun c => B8 c.toNat) := by
          have n2' : (nm 96 32).map valX = x.right.map fun c => B8 c.toNat := n2
          rw [← n2']; exact LV.vals (by decide)
        have hh : LV τ [.i .i64 (.ofNat x.f), .i .i64 (.ofNat x.t), .x .i64 1280] [.int .i64 x.f, .int .i64 x.t, .int .i64 x.seq] := ⟨.i _ _, .i _ _, v20, trivial⟩
        have ht : LV τ (.sl (some (k, o)) n c :: nm 96 32) (body :: x.right.map fun c => B8 c.toNat) := ⟨hbv, hs2⟩
        have hrow := (LV.app hh ht).lr
        have er : Env.row ⟨x.f, x.t, x.seq, body, x.right⟩ = ([.int .i64 x.f, .int .i64 x.t, .int .i64 x.seq] ++ body :: x.right.map fun c => B8 c.toNat : List Value).toArray := by
          unfold Env.row bRow
          simp
        rw [← er] at hrow
        have earr : arr = Env.row ⟨x.f, x.t, x.seq, body, x.right⟩ := by
          refine agg_det harr hrow fun i a hi => ?_
          by_cases e : i = 3
          · subst e; right; rw [hbd]; exact (Env_3 ⟨x.f, x.t, x.seq, body, x.right⟩).symm
          · left
            by_cases h1 : i < 3
            · rw [List.getElem?_append_left (by exact h1)] at hi
              exact List.all_eq_true.1 (show ([.i .i64 (.ofNat x.f), .i .i64 (.ofNat x.t), .x .i64 1280] : List AV).all isY = true from rfl) a (List.mem_of_getElem? hi)
            · obtain ⟨j, rfl⟩ : ∃ j, i = j + 4 := ⟨i - 4, by omega⟩
              rw [List.getElem?_append_right (by show 3 ≤ j + 4; omega)] at hi
              have hi : (AV.sl (some (k, o)) n c :: nm 96 32)[j + 4 - 3]? = some a := hi
              rw [show j + 4 - 3 = j + 1 by omega, List.getElem?_cons_succ] at hi
              exact List.all_eq_true.1 (show (nm 96 32).all isY = true by decide) a (List.mem_of_getElem? hi)
        subst earr
        have hl43 : (gEnc x.f x.t).length = 43 := rfl
        have hsl := sl_of (B := W.heap.size) cells_u8 hrs' hsr' hq z2 z3 (by rw [hl43]; exact z1) hb eix hbv
        have e1' : (gEnc x.f x.t).map valX = (ackB x.f x.t x.mtg).map fun c => B8 c.toNat := e1
        rw [e1'] at hsl
        exact ⟨body, rfl, hsl, hbel⟩
      · cases z4
    · cases r3
  · cases hrun
theorem AD.lay2v {W : World} {kv : Value} (hT : TabW W) (hk : SlZ 0 W kv 34 32 3 ((x.k0 ++ (x.k1 ++ x.k2)).map fun c => B8 c.toNat)) :
    ∃ σ m, GS σ ∧ (∀ j, 2048 ≤ j → σ j = none) ∧ @SR x.V Tryz.prog W.heap.size σ m W ∧ RS 2048 ⟨m, 1024, [], []⟩ ⟨gFk, 1024, 2048, [], []⟩ ∧ @VR x.V σ (.sl (some (1029, 0)) 3 3) kv := by
  letI : Sym := x.V
  haveI hok : SymOk := AD.v_ok h g
  obtain ⟨p1, p2, p3, p4, p5, p6, p7⟩ := AD.parts h
  have n0 : (nm 0 96).map valX = _ := AD.nm_val h 0 96 (by omega)
  rw [p7] at n0
  rw [← n0] at hk
  have hn1 : gsg 1029 = none := gsg_none (by omega)
  have ty2 : ∀ j y, memT.get j = some y → ∃ cs U, y = .cells cs U ∧ U ≠ 34 := fun j y hj => by
    rw [memT_get] at hj
    by_cases e : j = 0
    · rw [if_pos e] at hj; cases hj; exact ⟨_, _, rfl, by decide⟩
    · rw [if_neg e] at hj; cases hj
  have nix : (nm 0 96).all isIX = true := by decide
  obtain ⟨q2, s2, v2, _⟩ := slz_lay (B := W.heap.size) (n := 3) (z := 32) (k := 1029) (by kernel_rfl) (srT hT) hk nix hn1 (by omega) rfl (ne_type (srT hT) ty2)
  refine ⟨gsg.add 1029 q2, _, gsg_gs.mono (Sg.le_add hn1), fun j hj => add_none (by omega) (gsg_none (by omega)), s2, ?_, v2⟩
  have r0 := rs_lay rs_e 0 123 (Sha.K.map u32A) (by omega) (by rfl)
  have hK : (Sha.K.map u32A).length = 64 := rfl
  rw [hK] at r0
  have r2 := rs_lay r0 1029 34 (nm 0 96) (by omega) (by decide)
  exact r2
theorem AD.lay0v {W : World} {kv : Value} {vs : List Value} (hT : TabW W) (hk : SlZ 0 W kv 34 32 3 vs) :
    ∃ σ m, GS σ ∧ (∀ j, 2048 ≤ j → σ j = none) ∧ @SR x.V Tryz.prog W.heap.size σ m W ∧ RS 2048 ⟨m, 1024, [], []⟩ ⟨fFk, 1024, 2048, [], []⟩ ∧ @VR x.V σ (.sl (some (1029, 0)) 3 3) kv := by
  letI : Sym := x.V
  haveI hok : SymOk := AD.v_ok h g
  have hn1 : gsg 1029 = none := gsg_none (by omega)
  have ty2 : ∀ j y, memT.get j = some y → ∃ cs U, y = .cells cs U ∧ U ≠ 34 := fun j y hj => by
    rw [memT_get] at hj
    by_cases e : j = 0
    · rw [if_pos e] at hj; cases hj; exact ⟨_, _, rfl, by decide⟩
    · rw [if_neg e] at hj; cases hj
  obtain ⟨b, o, c, row, rfl, _, h2, h3, h4, h5, h6⟩ := hk
  have hcell : Tryz.prog.cellsOf 34 = 32 := by kernel_rfl
  have s2 : SR Tryz.prog W.heap.size (gsg.add 1029 ⟨b, o, row.size, 32⟩) (memT.set 1029 (some (.cells [] 34))) W := sr_lay (srT hT) hn1 (by omega) h2 ⟨row, rfl, (fun h => by cases h), (fun _ => ⟨rfl, hcell⟩), by show o + 0 ≤ row.size; omega, fun i x v e1 e2 => by simp at e1⟩ (ne_type (srT hT) ty2 b row h2)
  refine ⟨gsg.add 1029 ⟨b, o, row.size, 32⟩, _, gsg_gs.mono (Sg.le_add hn1), fun j hj => add_none (by omega) (gsg_none (by omega)), s2, ?_, ?_⟩
  · have r0 := rs_lay rs_e 0 123 (Sha.K.map u32A) (by omega) (by rfl)
    have hK : (Sha.K.map u32A).length = 64 := rfl
    rw [hK] at r0
    have r2 := rs_lay r0 1029 34 [] (by omega) (by decide)
    exact r2
  · have := VR.sl (σ := gsg.add 1029 ⟨b, o, row.size, 32⟩) 1029 0 3 3 c ⟨b, o, row.size, 32⟩ (by simp [Sg.add]) h4 (fun h => by cases h) (fun _ => by show 0 + o + c * 32 = row.size; omega)
    simpa using this
omit g in
theorem AD.deed_lr {σ : Sg} {kv : Value} (forged astray : Bool) (hkv : @VR x.V σ (.sl (some (1029, 0)) 3 3) kv) :
    @LR x.V σ [.sl (some (1029, 0)) 3 3, deedA forged astray] #[kv, .agg #[.int .u8 x.dF, .int .u8 x.dS, .int .u16 x.far, .bool forged, .bool astray]] := by
  letI : Sym := x.V
  have v30 : VR σ (.x .u8 1920) (.int .u8 x.dF) := by
    have := VR.x (σ := σ) .u8 1920
    rw [show Sym.val 1920 = Int.ofNat x.dF from AD.val_at h 30 (by omega)] at this; exact this
  have v31 : VR σ (.x .u8 1984) (.int .u8 x.dS) := by
    have := VR.x (σ := σ) .u8 1984
    rw [show Sym.val 1984 = Int.ofNat x.dS from AD.val_at h 31 (by omega)] at this; exact this
  have v32 : VR σ (.x .u16 2048) (.int .u16 x.far) := by
    have := VR.x (σ := σ) .u16 2048
    rw [show Sym.val 2048 = Int.ofNat x.far from AD.val_at h 32 (by omega)] at this; exact this
  have hd : LV σ [.x .u8 1920, .x .u8 1984, .x .u16 2048, .b forged, .b astray] [.int .u8 x.dF, .int .u8 x.dS, .int .u16 x.far, .bool forged, .bool astray] := ⟨v30, v31, v32, .b _, .b _, trivial⟩
  have := LV.lr (σ := σ) (l := [.sl (some (1029, 0)) 3 3, deedA forged astray]) (m := [kv, .agg #[.int .u8 x.dF, .int .u8 x.dS, .int .u16 x.far, .bool forged, .bool astray]]) ⟨hkv, hd.lr.g, trivial⟩
  simpa using this
theorem arrival_right {W : World} {kv : Value} (hT : TabW W) (hk : SlZ 0 W kv 34 32 3 ((x.k0 ++ (x.k1 ++ x.k2)).map fun c => B8 c.toNat)) :
    Calls Tryz.prog 10 #[kv, .agg #[.int .u8 x.dF, .int .u8 x.dS, .int .u16 x.far, .bool false, .bool (astr x.t)]] W fun e W' => ∃ body, e = .returned (.agg (Env.row ⟨x.f, x.t, x.seq, body, x.right⟩)) ∧ Sl W.heap.size W' body 5 ((ackB x.f x.t x.mtg).map fun c => B8 c.toNat) ∧ Below W.heap.size W W' := by
  obtain ⟨σ, m, hg, hfr, hsr, hrs, hkv⟩ := AD.lay2v h g hT hk
  exact AD.en_out h g (AD.v_all h g) hrs hg hsr hfr (AD.deed_lr h false _ hkv) (gar_all h.pr x.num x.oct)
theorem arrival_forged {W : World} {kv : Value} {vs : List Value} (hT : TabW W) (hk : SlZ 0 W kv 34 32 3 vs) (e0 : shaB [UInt8.ofNat 0, UInt8.ofNat 77] = x.k0) (e1 : shaB [UInt8.ofNat 1, UInt8.ofNat 77] = x.k1) (e2 : shaB [UInt8.ofNat 2, UInt8.ofNat 77] = x.k2) :
    Calls Tryz.prog 10 #[kv, .agg #[.int .u8 x.dF, .int .u8 x.dS, .int .u16 x.far, .bool true, .bool (astr x.t)]] W fun e W' => ∃ body, e = .returned (.agg (Env.row ⟨x.f, x.t, x.seq, body, x.right⟩)) ∧ Sl W.heap.size W' body 5 ((ackB x.f x.t x.mtg).map fun c => B8 c.toNat) ∧ Below W.heap.size W W' := by
  obtain ⟨σ, m, hg, hfr, hsr, hrs, hkv⟩ := AD.lay0v h g hT hk
  have hlen := AD.B_len h
  have l0 := h.k0
  have l1 := h.k1
  have l2 := h.k2
  have cut : ∀ (a b c : List UInt8) (n : Nat), a.length = n → b.length = 32 → ((a ++ (b ++ c)).drop n).take 32 = b := fun a b c n ha hb => by
    rw [← ha, List.drop_left, ← hb, List.take_left]
  have c0 : (x.B.drop 0).take 32 = x.k0 := cut [] x.k0 _ 0 rfl l0
  have c1 : (x.B.drop 32).take 32 = x.k1 := cut x.k0 x.k1 _ 32 l0 l1
  have c2 : (x.B.drop 64).take 32 = x.k2 := by
    have := cut (x.k0 ++ x.k1) x.k2 (x.right ++ (x.other ++ (x.inner ++ (x.key.map (· ^^^ 0x36) ++ x.key.map (· ^^^ 0x5c))))) 64 (by simp [l0, l1]) l2
    simp only [List.append_assoc] at this
    exact this
  have dm : ∀ i : Nat, i < 3 → ([AV.i .u8 (.ofNat i), AV.i .u8 (.ofNat 77)] : List AV).map (@den x.V) = ([UInt8.ofNat i, UInt8.ofNat 77] : List UInt8).map byteA := fun i hi => by
    have : i = 0 ∨ i = 1 ∨ i = 2 := by omega
    rcases this with rfl | rfl | rfl <;> rfl
  have ht : @TabOk1 x.V shaB (fSt x.f x.t) := by
    intro b rs e
    unfold fSt at e
    split at e
    · rename_i q
      obtain rfl := avL_eq q
      cases e
      refine ⟨[UInt8.ofNat 0, UInt8.ofNat 77], by simp, dm 0 (by omega), ?_⟩
      rw [e0, ← c0]; exact AD.nm_den h 0 32 (by omega)
    · split at e
      · rename_i q
        obtain rfl := avL_eq q
        cases e
        refine ⟨[UInt8.ofNat 1, UInt8.ofNat 77], by simp, dm 1 (by omega), ?_⟩
        rw [e1, ← c1]; exact AD.nm_den h 32 32 (by omega)
      · split at e
        · rename_i q
          obtain rfl := avL_eq q
          cases e
          refine ⟨[UInt8.ofNat 2, UInt8.ofNat 77], by simp, dm 2 (by omega), ?_⟩
          rw [e2, ← c2]; exact AD.nm_den h 64 32 (by omega)
        · exact AD.st_ok h b rs e
  have hall : (@tF x.V x.f x.t).all (@Good x.V (AD.v_ok h g) Tryz.prog) := by
    letI : Sym := x.V
    haveI : SymOk := AD.v_ok h g
    exact ⟨⟨sum2E_loc _, sum2E_sound (enters _ ⟨_, Tryz.func24, by kernel_rfl, by kernel_rfl⟩) (fun M v w h1 h2 => rsum_calls M v h1 w h2) ht, sum2Q_ok _⟩, allL, allL⟩
  exact AD.en_out h g hall hrs hg hsr hfr (AD.deed_lr h true _ hkv) (gaf_all h.pr x.num x.oct)
omit g in
theorem sealof_calls {W : World} {kv body : Value} (right : Bool) (hT : TabW W) (hk : SlZ 0 W kv 34 32 3 ((x.k0 ++ (x.k1 ++ x.k2)).map fun c => B8 c.toNat)) (hb : Sl 0 W body 5 ((ackB x.f x.t x.mtg).map fun c => B8 c.toNat)) :
    Calls Tryz.prog 19 #[.agg (bRow x.key), .agg (Env.row ⟨x.f, x.t, x.seq, body, if right then x.right else x.other⟩)] W fun e W' => e = .returned (.agg (bRow x.right)) ∧ Below W.heap.size W W' := by
  letI : Sym := x.S
  haveI hok : SymOk := AD.sym_ok h
  obtain ⟨σ, m, hg, hfr, hsr, hrs, hkv, hbv⟩ := AD.lay h hT hk hb
  have hev := AD.env_vr (W := W) h right hbv
  have p1 := (AD.parts h).1
  have p2 := (AD.parts h).2.1
  have n1 := AD.nm_val h (32 * x.f) 32 (by have := AD.f3 h; omega)
  have n2 := AD.nm_val h 96 32 (by omega)
  rw [p1] at n1
  rw [p2] at n2
  have nixk : (nm (32 * x.f) 32).all isIX = true := by rcases AD.f3 h with e | e <;> rw [e] <;> decide
  have hkey : LV σ (nm (32 * x.f) 32) (x.key.map fun c => B8 c.toNat) := by rw [← n1]; exact LV.vals nixk
  have hrun := gso_all h.pr x.num x.oct right
  unfold isDg at hrun
  split at hrun
  · rename_i gg f' he
    have r1 := avL_eq hrun
    have hl : LR σ [.g (nm (32 * x.f) 32), .g (gEnv x.f x.t right)] #[.agg (bRow x.key), .agg (Env.row ⟨x.f, x.t, x.seq, body, if right then x.right else x.other⟩)] := by
      have hk' : VR σ (.g (nm (32 * x.f) 32)) (.agg (bRow x.key)) := by unfold bRow; exact LR.g hkey.lr
      have := LV.lr (σ := σ) (l := [.g (nm (32 * x.f) 32), .g (gEnv x.f x.t right)]) (m := [.agg (bRow x.key), .agg (Env.row ⟨x.f, x.t, x.seq, body, if right then x.right else x.other⟩)]) ⟨hk', hev, trivial⟩
      simpa using this
    refine (run_calls (AD.all h) hrs hg hsr hfr (rvs_of _) hl he).mono fun e W' hd => ?_
    obtain ⟨τ, u, s', rfl, hov, hrs', _, hsr', hvu, hbel⟩ := hd
    have ha : absV (.g gg 32) = .g (nm 96 32) := by
      show AV.g (cellsV gg 0 32) = _
      rw [r1]
    rw [ha] at hvu
    have hs2 : VR τ (.g (nm 96 32)) (.agg (bRow x.right)) := by
      have : LV τ (nm 96 32) (x.right.map fun c => B8 c.toNat) := by rw [← n2]; exact LV.vals (by decide)
      unfold bRow
      exact LR.g this.lr
    obtain ⟨arr, rfl, harr⟩ := hvu.lr_g
    obtain ⟨arr2, e2, harr2⟩ := hs2.lr_g
    have : arr = arr2 := agg_det harr harr2 fun i a hi => .inl (List.all_eq_true.1 (show (nm 96 32).all isY = true by decide) a (List.mem_of_getElem? hi))
    rw [this, ← e2]
    exact ⟨rfl, hbel⟩
  · cases hrun
end
end V
end Go.CE
