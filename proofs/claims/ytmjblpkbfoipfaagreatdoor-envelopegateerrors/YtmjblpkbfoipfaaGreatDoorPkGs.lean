/-
  Sealing an acknowledgement, the keys, equal letters: reckoned by the kernel.
-/
import Derived.Test.YtmjblpkbfoipfaaGreatDoorPkGo
set_option linter.unusedSectionVars false
set_option linter.constructorNameAsVariable false
set_option linter.unusedVariables false
set_option linter.unusedSimpArgs false
namespace Go.CE
namespace V
open Go.Proofs Go.Proofs.YtmjblpkbfoipfaaGreatDoor Go.RowKit
set_option maxRecDepth 100000
noncomputable def gFk : FM := setM (p4 1029) (.cells (treeOf (nm 0 96)) 96 34) (setM (p4 0) (.cells (treeOf (Sha.K.map u32A)) 64 123) .e)
noncomputable def runSl [Sym] (f t : Nat) : Ans := evF P (LT.fq (tG f t)) 4000 25 [ofV (.sl (some (1029, 0)) 3 3), ofV (.g (.x .i64 1280 :: gLet f t))] ⟨gFk, 1024, 2048, [], []⟩
noncomputable def isEnv (f t : Nat) (r : Ans) : Bool := match r with
  | some (.t t1 2, w) => match getV (p4 0) t1, getV (p4 1) t1 with
    | .g g 36, .i .i64 0 => avL (cellsV g 0 3) [.i .i64 (.ofNat f), .i .i64 (.ofNat t), .x .i64 1280] && avL (cellsV g 4 32) (nm 96 32) && (match getV (p4 3) g with
      | .s q k o n _ => Nat.beq n 43 && Nat.ble 2048 k && gw k && optL (blkL 5 (getM q w.m) o n) (gEnc f t)
      | _ => false)
    | _, _ => false
  | _ => false
noncomputable def isB1 (r : Ans) : Bool := match r with
  | some (.b true, _) => true
  | _ => false
noncomputable def runSame [Sym] (a b : List AV) : Ans := evF P (LT.fq tL) 4000 13 [ofV (.g a), ofV (.g b)] ⟨.e, 1024, 2048, [], []⟩
theorem gs_12 (num oct : Nat → Nat) : isEnv 1 2 (@runSl (gS 1 num oct) 1 2) = true := by kernel_rfl
theorem ga_12 (num oct : Nat → Nat) : isB1 (@runSame (gS 1 num oct) (gLet 1 2) (gLet 1 2)) = true := by kernel_rfl
theorem gs_21 (num oct : Nat → Nat) : isEnv 2 1 (@runSl (gS 2 num oct) 2 1) = true := by kernel_rfl
theorem ga_21 (num oct : Nat → Nat) : isB1 (@runSame (gS 2 num oct) (gLet 2 1) (gLet 2 1)) = true := by kernel_rfl
theorem gs_10 (num oct : Nat → Nat) : isEnv 1 0 (@runSl (gS 1 num oct) 1 0) = true := by kernel_rfl
theorem ga_10 (num oct : Nat → Nat) : isB1 (@runSame (gS 1 num oct) (gLet 1 0) (gLet 1 0)) = true := by kernel_rfl
theorem gs_20 (num oct : Nat → Nat) : isEnv 2 0 (@runSl (gS 2 num oct) 2 0) = true := by kernel_rfl
theorem ga_20 (num oct : Nat → Nat) : isB1 (@runSame (gS 2 num oct) (gLet 2 0) (gLet 2 0)) = true := by kernel_rfl
theorem gz (f : Nat) (num oct : Nat → Nat) : isB1 (@runSame (gS f num oct) zLet zLet) = true := by kernel_rfl
theorem gs_all {f t : Nat} (h : (f, t) ∈ pairs) (num oct : Nat → Nat) : isEnv f t (@runSl (gS f num oct) f t) = true := by
  simp only [pairs, List.mem_cons, Prod.mk.injEq, List.not_mem_nil, or_false] at h
  rcases h with ⟨rfl, rfl⟩ | ⟨rfl, rfl⟩ | ⟨rfl, rfl⟩ | ⟨rfl, rfl⟩
  · exact gs_12 num oct
  · exact gs_21 num oct
  · exact gs_10 num oct
  · exact gs_20 num oct
theorem ga_all {f t : Nat} (h : (f, t) ∈ pairs) (num oct : Nat → Nat) : isB1 (@runSame (gS f num oct) (gLet f t) (gLet f t)) = true := by
  simp only [pairs, List.mem_cons, Prod.mk.injEq, List.not_mem_nil, or_false] at h
  rcases h with ⟨rfl, rfl⟩ | ⟨rfl, rfl⟩ | ⟨rfl, rfl⟩ | ⟨rfl, rfl⟩
  · exact ga_12 num oct
  · exact ga_21 num oct
  · exact ga_10 num oct
  · exact ga_20 num oct
@[reducible] def hP (num oct : Nat → Nat) : Y.Pk := { num := num, lo := fun _ => 0, hi := fun _ => 1099511627776, oct := oct, ocq := fun _ _ => none }
@[reducible] def hS (num oct : Nat → Nat) : Sym := (hP num oct).sym
def hSt (b : List AV) : Option (List AV) := match avL b [.i .u8 (.ofNat 0), .x .u8 1344] with
  | true => some (nm 0 32)
  | false => match avL b [.i .u8 (.ofNat 1), .x .u8 1344] with
    | true => some (nm 32 32)
    | false => match avL b [.i .u8 (.ofNat 2), .x .u8 1344] with
      | true => some (nm 64 32)
      | false => none
noncomputable def tH : LT := .n 24 (sum2Q hSt) (sum2E hSt) .e .e
noncomputable def runH [Sym] : Ans := evF P (LT.fq tH) 4000 7 [ofV (.i .i64 (.ofNat 3)), ofV (.x .u8 1344)] ⟨.e, 1024, 2048, [], []⟩
noncomputable def isKs (r : Ans) : Bool := match r with
  | some (.s q k o 3 _, f) => Nat.ble 2048 k && gw k && optL (blkL 34 (getM q f.m) o 96) (nm 0 96)
  | _ => false
theorem gh (num oct : Nat → Nat) : isKs (@runH (hS num oct)) = true := by kernel_rfl
end V
end Go.CE
namespace Go.CE
namespace V
open Go.Proofs Go.Proofs.YtmjblpkbfoipfaaGreatDoor Go.RowKit
set_option maxRecDepth 100000
section
variable {x : AD} (h : x.Ok)
include h
theorem AD.lay2 {W : World} {kv : Value} (hT : TabW W) (hk : SlZ 0 W kv 34 32 3 ((x.k0 ++ (x.k1 ++ x.k2)).map fun c => B8 c.toNat)) :
    ∃ σ m, GS σ ∧ (∀ j, 2048 ≤ j → σ j = none) ∧ @SR x.S Tryz.prog W.heap.size σ m W ∧ @RS 2048 ⟨m, 1024, [], []⟩ ⟨gFk, 1024, 2048, [], []⟩ ∧ @VR x.S σ (.sl (some (1029, 0)) 3 3) kv := by
  letI : Sym := x.S
  haveI hok : SymOk := AD.sym_ok h
  obtain ⟨p1, p2, p3, p4, p5, p6, p7⟩ := AD.parts h
  have n0 := AD.nm_val h 0 96 (by omega)
  rw [p7] at n0
  rw [← n0] at hk
  have hn1 : gsg 1029 = none := gsg_none (by omega)
  have ty2 : ∀ j y, memT.get j = some y → ∃ cs U, y = .cells cs U ∧ U ≠ 34 := fun j y hj => by
    rw [memT_get] at hj
    by_cases e : j = 0
    · rw [if_pos e] at hj; cases hj; exact ⟨_, _, rfl, by decide⟩
    · rw [if_neg e] at hj; cases hj
  have nix : (nm 0 96).all isIX = true := by decide
  obtain ⟨q2, s2, v2, _⟩ := slz_lay (B := W.heap.size) (n := 3) (z := 32) (k := 1029) (by kernel_rfl) (srT hT) hk nix hn1 (by omega) rfl (ne_type (srT hT) ty2)
  refine ⟨gsg.add 1029 q2, _, gsg_gs.mono (Sg.le_add hn1), fun j hj => add_none (by omega) (gsg_none (by omega)), s2, ?_, v2⟩
  have r0 := rs_lay rs_e 0 123 (Sha.K.map u32A) (by omega) (by rfl)
  have hK : (Sha.K.map u32A).length = 64 := rfl
  rw [hK] at r0
  have r2 := rs_lay r0 1029 34 (nm 0 96) (by omega) (by decide)
  exact r2
theorem AD.parcel_lv (σ : Sg) : @LV x.S σ (.x .i64 1280 :: gLet x.f x.t) (.int .i64 x.seq :: ackL x.f x.t x.mtg) := ⟨AD.vx h σ (s := 20) (n := x.seq) rfl (by omega), AD.ack_lv h σ⟩
theorem seal_calls {W : World} {kv : Value} (hT : TabW W) (hk : SlZ 0 W kv 34 32 3 ((x.k0 ++ (x.k1 ++ x.k2)).map fun c => B8 c.toNat)) :
    Calls Tryz.prog 25 #[kv, .agg (.int .i64 x.seq :: ackL x.f x.t x.mtg).toArray] W fun e W' => ∃ body, e = .returned (.tuple #[.agg (Env.row ⟨x.f, x.t, x.seq, body, x.right⟩), .int .i64 0]) ∧ Sl W.heap.size W' body 5 ((ackB x.f x.t x.mtg).map fun c => B8 c.toNat) ∧ Below W.heap.size W W' := by
  letI : Sym := x.S
  haveI hok : SymOk := AD.sym_ok h
  obtain ⟨σ, m, hg, hfr, hsr, hrs, hkv⟩ := AD.lay2 h hT hk
  have p2 := (AD.parts h).2.1
  have n2 := AD.nm_val h 96 32 (by omega)
  rw [p2] at n2
  obtain ⟨e1, eix⟩ := den_val (AD.enc_den h)
  have hrun := gs_all h.pr x.num x.oct
  unfold isEnv at hrun
  split at hrun
  · rename_i t f' he
    split at hrun
    · rename_i gg hg0 hg1
      simp only [Bool.and_eq_true] at hrun
      obtain ⟨⟨r1, r2⟩, r3⟩ := hrun
      have r1 := avL_eq r1
      have r2 := avL_eq r2
      split at r3
      · rename_i q k o n c hg3
        simp only [Bool.and_eq_true] at r3
        obtain ⟨⟨⟨z1, z2⟩, z3⟩, z4⟩ := r3
        have z1 := Nat.eq_of_beq_eq_true z1
        have z2 : 2048 ≤ k := Nat.le_of_ble_eq_true z2
        unfold optL at z4
        split at z4
        · rename_i mm hb
          obtain rfl := avL_eq z4
          have hl : LR σ [.sl (some (1029, 0)) 3 3, .g (.x .i64 1280 :: gLet x.f x.t)] #[kv, .agg (.int .i64 x.seq :: ackL x.f x.t x.mtg).toArray] := by
            have := LV.lr (σ := σ) (l := [.sl (some (1029, 0)) 3 3, .g (.x .i64 1280 :: gLet x.f x.t)]) (m := [kv, .agg (.int .i64 x.seq :: ackL x.f x.t x.mtg).toArray]) ⟨hkv, (AD.parcel_lv h σ).lr.g, trivial⟩
            simpa using this
          refine (run_calls (AD.all h) hrs hg hsr hfr (rvs_of _) hl he).mono fun e W' hd => ?_
          obtain ⟨τ, u, s', rfl, hov, hrs', _, hsr', hvu, hbel⟩ := hd
          have hgok : allOk gg 36 := by
            have := hov 0 (by omega)
            rw [hg0] at this; exact this
          have hq : q = p4 k := by
            have := hgok 3 (by omega)
            rw [hg3] at this; exact this
          have ha : absV (FV.t t 2) = .t [.g ([.i .i64 (.ofNat x.f), .i .i64 (.ofNat x.t), .x .i64 1280] ++ .sl (some (k, o)) n c :: nm 96 32), .i .i64 (.ofNat 0)] := by
            show AV.t ((List.range 2).map fun j => absG (getV (p4 j) t)) = _
            simp only [show List.range 2 = [0, 1] from rfl, List.map_cons, List.map_nil, hg0, hg1]
            show AV.t [.g (cellsV gg 0 36), .i .i64 (.ofNat 0)] = _
            have : cellsV gg 0 36 = cellsV gg 0 3 ++ abs0 (getV (p4 3) gg) :: cellsV gg 4 32 := by
              apply List.ext_getElem?
              intro i
              by_cases h1 : i < 3
              · rw [List.getElem?_append_left (by rw [len_cellsV]; exact h1), get_cellsV, get_cellsV, if_pos (by omega), if_pos h1]
              · rw [List.getElem?_append_right (by rw [len_cellsV]; omega), len_cellsV]
                by_cases h2 : i = 3
                · subst h2; rw [get_cellsV, if_pos (by omega)]; rfl
                · obtain ⟨j, rfl⟩ : ∃ j, i = j + 4 := ⟨i - 4, by omega⟩
                  rw [show j + 4 - 3 = j + 1 by omega, List.getElem?_cons_succ, get_cellsV, get_cellsV]
                  by_cases h3 : j < 32
                  · rw [if_pos (by omega), if_pos h3, show 0 + (j + 4) = 4 + j by omega]
                  · rw [if_neg (by omega), if_neg h3]
            rw [this, r1, r2, hg3]
            rfl
          rw [ha] at hvu
          obtain ⟨cc, rfl, hcc⟩ := hvu.lr_t
          obtain ⟨v0, e0, hv0⟩ := hcc.at (i := 0) rfl
          obtain ⟨v1, e1', hv1⟩ := hcc.at (i := 1) rfl
          have hcs : cc = #[v0, v1] := by
            have hs : cc.size = 2 := hcc.len.symm
            apply Array.ext
            · simpa using hs
            · intro i h3 h4
              have : i = 0 ∨ i = 1 := by omega
              rcases this with rfl | rfl
              · simpa using (Array.getElem?_eq_some_iff.1 e0).2
              · simpa using (Array.getElem?_eq_some_iff.1 e1').2
          subst hcs
          cases hv1
          obtain ⟨arr, rfl, harr⟩ := hv0.lr_g
          obtain ⟨body, hbd, hbv⟩ := harr.at (i := 3) rfl
          have v20 : VR τ (.x .i64 1280) (.int .i64 x.seq) := AD.vx h τ (s := 20) (n := x.seq) rfl (by omega)
          have hs2 : LV τ (nm 96 32) (x.right.map fun c => B8 c.toNat) := by rw [← n2]; exact LV.vals (by decide)
          have hh : LV τ [.i .i64 (.ofNat x.f), .i .i64 (.ofNat x.t), .x .i64 1280] [.int .i64 x.f, .int .i64 x.t, .int .i64 x.seq] := ⟨.i _ _, .i _ _, v20, trivial⟩
          have ht : LV τ (.sl (some (k, o)) n c :: nm 96 32) (body :: x.right.map fun c => B8 c.toNat) := ⟨hbv, hs2⟩
          have hrow := (LV.app hh ht).lr
          have er : Env.row ⟨x.f, x.t, x.seq, body, x.right⟩ = ([.int .i64 x.f, .int .i64 x.t, .int .i64 x.seq] ++ body :: x.right.map fun c => B8 c.toNat : List Value).toArray := by
            unfold Env.row bRow
            simp
          rw [← er] at hrow
          have earr : arr = Env.row ⟨x.f, x.t, x.seq, body, x.right⟩ := by
            refine agg_det harr hrow fun i a hi => ?_
            by_cases e : i = 3
            · subst e; right; rw [hbd]; exact (Env_3 ⟨x.f, x.t, x.seq, body, x.right⟩).symm
            · left
              by_cases h1 : i < 3
              · rw [List.getElem?_append_left (by exact h1)] at hi
                exact List.all_eq_true.1 (show ([.i .i64 (.ofNat x.f), .i .i64 (.ofNat x.t), .x .i64 1280] : List AV).all isY = true from rfl) a (List.mem_of_getElem? hi)
              · obtain ⟨j, rfl⟩ : ∃ j, i = j + 4 := ⟨i - 4, by omega⟩
                rw [List.getElem?_append_right (by show 3 ≤ j + 4; omega)] at hi
                have hi : (AV.sl (some (k, o)) n c :: nm 96 32)[j + 4 - 3]? = some a := hi
                rw [show j + 4 - 3 = j + 1 by omega, List.getElem?_cons_succ] at hi
                exact List.all_eq_true.1 (show (nm 96 32).all isY = true by decide) a (List.mem_of_getElem? hi)
          subst earr
          have hl43 : (gEnc x.f x.t).length = 43 := rfl
          have hsl := sl_of (B := W.heap.size) cells_u8 hrs' hsr' hq z2 z3 (by rw [hl43]; exact z1) hb eix hbv
          rw [e1] at hsl
          exact ⟨body, rfl, hsl, hbel⟩
        · cases z4
      · cases r3
    · cases hrun
  · cases hrun
theorem same_ack {W : World} : Calls Tryz.prog 13 #[.agg (ackL x.f x.t x.mtg).toArray, .agg (ackL x.f x.t x.mtg).toArray] W fun e W' => e = .returned (.bool true) ∧ Below W.heap.size W W' := by
  letI : Sym := x.S
  haveI hok : SymOk := AD.sym_ok h
  have hrun := ga_all h.pr x.num x.oct
  unfold isB1 at hrun
  split at hrun
  · rename_i f' he
    have hl : LR gsg [.g (gLet x.f x.t), .g (gLet x.f x.t)] #[.agg (ackL x.f x.t x.mtg).toArray, .agg (ackL x.f x.t x.mtg).toArray] := by
      have := LV.lr (σ := gsg) (l := [.g (gLet x.f x.t), .g (gLet x.f x.t)]) (m := [.agg (ackL x.f x.t x.mtg).toArray, .agg (ackL x.f x.t x.mtg).toArray]) ⟨(AD.ack_lv h gsg).lr.g, (AD.ack_lv h gsg).lr.g, trivial⟩
      simpa using this
    refine (run_calls allL rs_e gsg_gs (sr_e W) (fun j hj => gsg_none (by omega)) (rvs_of _) hl he).mono fun e W' hd => ?_
    obtain ⟨τ, u, s', rfl, hov, hrs', _, hsr', hvu, hbel⟩ := hd
    cases hvu
    exact ⟨rfl, hbel⟩
  · cases hrun
theorem same_zero {W : World} : Calls Tryz.prog 13 #[.agg zerL.toArray, .agg zerL.toArray] W fun e W' => e = .returned (.bool true) ∧ Below W.heap.size W W' := by
  letI : Sym := x.S
  haveI hok : SymOk := AD.sym_ok h
  have hrun := gz x.f x.num x.oct
  unfold isB1 at hrun
  split at hrun
  · rename_i f' he
    have hl : LR gsg [.g zLet, .g zLet] #[.agg zerL.toArray, .agg zerL.toArray] := by
      have := LV.lr (σ := gsg) (l := [.g zLet, .g zLet]) (m := [.agg zerL.toArray, .agg zerL.toArray]) ⟨(AD.zer_lv h gsg).lr.g, (AD.zer_lv h gsg).lr.g, trivial⟩
      simpa using this
    refine (run_calls allL rs_e gsg_gs (sr_e W) (fun j hj => gsg_none (by omega)) (rvs_of _) hl he).mono fun e W' hd => ?_
    obtain ⟨τ, u, s', rfl, hov, hrs', _, hsr', hvu, hbel⟩ := hd
    cases hvu
    exact ⟨rfl, hbel⟩
  · cases hrun
end
def keyN (i salt : Nat) : List UInt8 := shaB [UInt8.ofNat i, UInt8.ofNat salt]
def keysB (salt : Nat) : List UInt8 := keyN 0 salt ++ (keyN 1 salt ++ keyN 2 salt)
theorem keyN_len (i salt : Nat) : (keyN i salt).length = 32 := shaB_length _
theorem keys3_of (salt : Nat) (hs : salt < 256) (k0 k1 k2 B : List UInt8) (hBe : B = k0 ++ (k1 ++ k2)) (e0 : shaB [UInt8.ofNat 0, UInt8.ofNat salt] = k0) (e1 : shaB [UInt8.ofNat 1, UInt8.ofNat salt] = k1) (e2 : shaB [UInt8.ofNat 2, UInt8.ofNat salt] = k2) (W : World) : Calls Tryz.prog 7 #[.int .i64 3, .int .u8 salt] W fun e W' => ∃ s, e = .returned s ∧ SlZ W.heap.size W' s 34 32 3 (B.map fun c => B8 c.toNat) ∧ Below W.heap.size W W' := by
  have l0 : k0.length = 32 := by rw [← e0]; exact shaB_length _
  have l1 : k1.length = 32 := by rw [← e1]; exact shaB_length _
  have l2 : k2.length = 32 := by rw [← e2]; exact shaB_length _
  have hB : B.length = 96 := by rw [hBe]; simp [l0, l1, l2]
  have hpk : (hP (fun _ => salt) (fun i => (B.getD i 0).toNat)).Ok := { lo := fun _ => Nat.zero_le _, hi := fun _ => (by show salt ≤ 1099511627776; omega), top := fun _ => (by show (1099511627776 : Nat) < 9223372036854775808; decide), oct := fun i => (B.getD i 0).toNat_lt, ocq := fun _ _ _ e => (by cases e) }
  letI S : Sym := hS (fun _ => salt) (fun i => (B.getD i 0).toNat)
  haveI hok : SymOk := Y.sym_ok hpk (fun _ _ _ e => by cases e)
  have v21 : Sym.val 1344 = Int.ofNat salt := by
    show Int.ofNat ((hP (fun _ => salt) (fun i => (B.getD i 0).toNat)).nat (64 * 21 + 0)) = _
    rw [Y.nat_num _ 21 0 (by omega) (by have : Y.ob = 1048576 := rfl; omega), Y.nv_a _ _ (by omega), Nat.pow_zero, Nat.div_one]
  have voct : ∀ i, Sym.val (1048576 + i) = Int.ofNat (B.getD i 0).toNat := fun i => by
    show Int.ofNat ((hP (fun _ => salt) (fun i => (B.getD i 0).toNat)).nat (1048576 + i)) = _
    rw [Y.nat_oct (show Y.ob ≤ 1048576 + i by have : Y.ob = 1048576 := rfl; omega)]
    show Int.ofNat ((B.getD (1048576 + i - 1048576) 0).toNat) = _
    rw [Nat.add_sub_cancel_left]
  have dnm : ∀ a n, a + n ≤ 96 → (nm a n).map den = ((B.drop a).take n).map byteA := fun a n ha => by
    apply List.ext_getElem?
    intro i
    simp only [nm, List.map_map, List.getElem?_map]
    by_cases hi : i < n
    · rw [List.getElem?_range hi, List.getElem?_take, if_pos hi, List.getElem?_drop, List.getElem?_eq_getElem (by omega)]
      show some (AV.i .u8 (Sym.val (1048576 + (a + i)))) = _
      rw [voct, List.getD_eq_getElem?_getD, List.getElem?_eq_getElem (by omega)]
      rfl
    · rw [List.getElem?_eq_none (by simp; omega), List.getElem?_take, if_neg hi]; rfl
  have cut : ∀ (a b c : List UInt8) (n : Nat), a.length = n → b.length = 32 → ((a ++ (b ++ c)).drop n).take 32 = b := fun a b c n ha hb => by
    rw [← ha, List.drop_left, ← hb, List.take_left]
  have c0 : (B.drop 0).take 32 = k0 := by rw [hBe]; exact cut [] (k0) (k1 ++ k2) 0 rfl l0
  have c1 : (B.drop 32).take 32 = k1 := by rw [hBe]; exact cut (k0) (k1) (k2) 32 l0 l1
  have c2 : (B.drop 64).take 32 = k2 := by
    rw [hBe]
    have := cut (k0 ++ k1) (k2) [] 64 (by simp [l0, l1]) l2
    simp only [List.append_assoc, List.append_nil] at this
    exact this
  have call : (B.drop 0).take 96 = B := by rw [List.drop_zero, List.take_of_length_le (by omega)]
  have dm : ∀ i : Nat, i < 3 → ([AV.i .u8 (.ofNat i), .x .u8 1344] : List AV).map den = ([UInt8.ofNat i, UInt8.ofNat salt] : List UInt8).map byteA := fun i hi => by
    show [AV.i .u8 (.ofNat i), AV.i .u8 (Sym.val 1344)] = [AV.i .u8 (.ofNat (UInt8.ofNat i).toNat), AV.i .u8 (.ofNat (UInt8.ofNat salt).toNat)]
    rw [v21, show (UInt8.ofNat i).toNat = i by simp; omega, show (UInt8.ofNat salt).toNat = salt by simp; omega]
  have ht : TabOk1 shaB hSt := by
    intro b rs e
    unfold hSt at e
    split at e
    · rename_i g
      obtain rfl := avL_eq g
      cases e
      refine ⟨[UInt8.ofNat 0, UInt8.ofNat salt], by simp, dm 0 (by omega), ?_⟩
      rw [dnm 0 32 (by omega), c0, e0]
    · split at e
      · rename_i g
        obtain rfl := avL_eq g
        cases e
        refine ⟨[UInt8.ofNat 1, UInt8.ofNat salt], by simp, dm 1 (by omega), ?_⟩
        rw [dnm 32 32 (by omega), c1, e1]
      · split at e
        · rename_i g
          obtain rfl := avL_eq g
          cases e
          refine ⟨[UInt8.ofNat 2, UInt8.ofNat salt], by simp, dm 2 (by omega), ?_⟩
          rw [dnm 64 32 (by omega), c2, e2]
        · cases e
  have hall : tH.all (Good Tryz.prog) := ⟨⟨sum2E_loc _, sum2E_sound (enters _ ⟨_, Tryz.func24, by kernel_rfl, by kernel_rfl⟩) (fun M v w h1 h2 => rsum_calls M v h1 w h2) ht, sum2Q_ok _⟩, trivial, trivial⟩
  have hrun := gh (fun _ => salt) (fun i => (B.getD i 0).toNat)
  unfold isKs at hrun
  split at hrun
  · rename_i q k o c f' he
    simp only [Bool.and_eq_true] at hrun
    obtain ⟨⟨r1, r2⟩, r3⟩ := hrun
    have r1 : 2048 ≤ k := Nat.le_of_ble_eq_true r1
    unfold optL at r3
    split at r3
    · rename_i mm hb
      obtain rfl := avL_eq r3
      have hl : LR gsg [.i .i64 (.ofNat 3), .x .u8 1344] #[.int .i64 3, .int .u8 salt] := by
        have hv : VR gsg (.x .u8 1344) (.int .u8 salt) := by
          have := VR.x (σ := gsg) .u8 1344
          rw [v21] at this; exact this
        have := LV.lr (σ := gsg) (l := [.i .i64 (.ofNat 3), .x .u8 1344]) (m := [.int .i64 3, .int .u8 salt]) ⟨.i _ _, hv, trivial⟩
        simpa using this
      refine (run_calls hall rs_e gsg_gs (sr_e W) (fun j hj => gsg_none (by omega)) (rvs_of _) hl he).mono fun e W' hd => ?_
      obtain ⟨τ, u, s', rfl, hov, hrs', _, hsr', hvu, hbel⟩ := hd
      have hq : q = p4 k := hov
      have h96 : (nm 0 96).length = 96 := rfl
      have := slz_of (B := W.heap.size) (l := nm 0 96) (z := 32) (n := 3) (by decide) (by kernel_rfl) hrs' hsr' hq r1 r2 (by decide) hb (by decide) hvu
      refine ⟨u, rfl, ?_, hbel⟩
      have d := den_val (dnm 0 96 (by omega))
      rw [call] at d
      rw [d.1] at this
      exact this
    · cases r3
  · cases hrun
theorem keys3_calls (salt : Nat) (hs : salt < 256) (W : World) : Calls Tryz.prog 7 #[.int .i64 3, .int .u8 salt] W fun e W' => ∃ s, e = .returned s ∧ SlZ W.heap.size W' s 34 32 3 ((keysB salt).map fun c => B8 c.toNat) ∧ Below W.heap.size W W' := keys3_of salt hs (keyN 0 salt) (keyN 1 salt) (keyN 2 salt) (keysB salt) rfl rfl rfl rfl W
attribute [irreducible] keyN keysB
end V
end Go.CE
