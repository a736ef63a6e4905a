/-
  Deeds: what their envelopes are, and what both gates do with them.
-/
import Derived.Test.YtmjblpkbfoipfaaGreatDoorPkGv
import Derived.Test.YtmjblpkbfoipfaaGreatDoorPkGtN
import Derived.Test.YtmjblpkbfoipfaaGreatDoorPkGtF
import Derived.Test.YtmjblpkbfoipfaaGreatDoorPkGtA
set_option linter.unusedSectionVars false
set_option linter.constructorNameAsVariable false
set_option linter.unusedVariables false
set_option linter.unusedSimpArgs false
namespace Go.Proofs.YtmjblpkbfoipfaaGreatDoor
open Go.RowKit Go.CE.V
set_option maxRecDepth 20000
structure K3 where
  k0 : List UInt8
  k1 : List UInt8
  k2 : List UInt8
structure K3.Ok (k : K3) : Prop where
  k0 : k.k0.length = 32
  k1 : k.k1.length = 32
  k2 : k.k2.length = 32
def K3.cells (k : K3) : List Value := (k.k0 ++ (k.k1 ++ k.k2)).map fun c => B8 c.toNat
def keys3 (salt : Nat) : K3 := ⟨keyN 0 salt, keyN 1 salt, keyN 2 salt⟩
theorem keys3_ok (salt : Nat) : (keys3 salt).Ok := ⟨keyN_len 0 salt, keyN_len 1 salt, keyN_len 2 salt⟩
structure Deed where
  dF : Nat
  dS : Nat
  far : Nat
  forged : Bool
  astray : Bool
structure Deed.Ok (d : Deed) : Prop where
  f : d.dF < 256
  s : d.dS < 256
  a : d.far < 65536
def Deed.f (d : Deed) : Nat := 1 + d.dF % 2
def Deed.t (d : Deed) : Nat := if d.astray then 3 - d.f else 0
def Deed.mtg (d : Deed) : Nat := 1 + d.dS
def Deed.seq (d : Deed) : Nat := 1 + d.dS % 20 + d.far
def Deed.val (d : Deed) : Value := .agg #[.int .u8 d.dF, .int .u8 d.dS, .int .u16 d.far, .bool d.forged, .bool d.astray]
theorem Deed.f12 (d : Deed) : d.f = 1 ∨ d.f = 2 := by unfold Deed.f; omega
theorem Deed.pr (d : Deed) : (d.f, d.t) ∈ pairs := by
  simp only [pairs, List.mem_cons, Prod.mk.injEq, List.not_mem_nil, or_false]
  unfold Deed.t
  have := d.f12
  split <;> omega
theorem Deed.astr (d : Deed) : astr d.t = d.astray := by
  unfold Deed.t
  cases h : d.astray
  · rfl
  · rcases d.f12 with e | e <;> rw [e] <;> rfl
def diffS (l : List UInt8) : List UInt8 := if l = List.replicate 32 0 then List.replicate 32 1 else List.replicate 32 0
theorem diffS_len (l : List UInt8) : (diffS l).length = 32 := by unfold diffS; split <;> simp
theorem diffS_ne (l : List UInt8) : l ≠ diffS l := by
  unfold diffS
  split
  · rename_i h; rw [h]; decide
  · assumption
def mkAD (k : K3) (d : Deed) (o : List UInt8) : AD := { f := d.f, t := d.t, mtg := d.mtg, seq := d.seq, k0 := k.k0, k1 := k.k1, k2 := k.k2, other := o, dF := d.dF, dS := d.dS, far := d.far }
def rightS (k : K3) (d : Deed) : List UInt8 := (mkAD k d []).right
theorem mkAD_right (k : K3) (d : Deed) (o : List UInt8) : (mkAD k d o).right = rightS k d := rfl
theorem mkAD_ok {k : K3} {d : Deed} {o : List UInt8} (hk : k.Ok) (hd : d.Ok) (ho : o.length = 32) (hne : rightS k d ≠ o) : (mkAD k d o).Ok := by
  have h1 := hd.f
  have h2 := hd.s
  have h3 := hd.a
  exact { pr := d.pr, m0 := (by show 1 ≤ d.mtg; unfold Deed.mtg; omega), m1 := (by show d.mtg ≤ _; unfold Deed.mtg; omega), s0 := (by show 1 ≤ d.seq; unfold Deed.seq; omega), s1 := (by show d.seq ≤ _; unfold Deed.seq; omega), k0 := hk.k0, k1 := hk.k1, k2 := hk.k2, o := ho, ne := hne, d1 := h1, d2 := h2, d3 := h3 }
theorem mkAD_dd (k : K3) (d : Deed) (o : List UInt8) : (mkAD k d o).Dd := ⟨rfl, rfl, rfl⟩
theorem rightS_len {k : K3} {d : Deed} (hk : k.Ok) (hd : d.Ok) : (rightS k d).length = 32 := (AD.lens (mkAD_ok hk hd (diffS_len _) (diffS_ne (rightS k d)))).1
def Deed.sgn (salt : Nat) (d : Deed) : List UInt8 := rightS (keys3 (if d.forged then 77 else salt)) d
theorem Deed.seal_len (salt : Nat) {d : Deed} (hd : d.Ok) : (d.sgn salt).length = 32 := rightS_len (keys3_ok _) hd
def Deed.good (salt : Nat) (d : Deed) : Bool := decide (d.sgn salt = rightS (keys3 salt) d)
theorem Deed.good_own (salt : Nat) (d : Deed) (h : d.forged = false) : d.good salt = true := by
  unfold Deed.good Deed.sgn
  rw [h]
  exact decide_eq_true rfl
def Deed.env (salt : Nat) (d : Deed) (body : Value) : Env := ⟨d.f, d.t, d.seq, body, d.sgn salt⟩
def Deed.body (d : Deed) : List Value := (ackB d.f d.t d.mtg).map fun c => B8 c.toNat
theorem keyN_of (i salt : Nat) : keyN i salt = shaB [UInt8.ofNat i, UInt8.ofNat salt] := by unfold keyN; rfl
theorem arrival_deed (salt : Nat) {d : Deed} (hd : d.Ok) {W : World} {kv : Value} (hT : TabW W) (hk : SlZ 0 W kv 34 32 3 (keys3 salt).cells) :
    Calls Tryz.prog 10 #[kv, d.val] W fun e W' => ∃ body, e = .returned (.agg (Env.row (d.env salt body))) ∧ Sl W.heap.size W' body 5 d.body ∧ Below W.heap.size W W' := by
  obtain ⟨dF, dS, far, forged, astray⟩ := d
  have ha := Deed.astr ⟨dF, dS, far, forged, astray⟩
  cases forged
  · have hok := mkAD_ok (keys3_ok salt) hd (diffS_len _) (diffS_ne (rightS (keys3 salt) ⟨dF, dS, far, false, astray⟩))
    have := arrival_right hok (mkAD_dd _ _ _) hT hk
    rw [show astr (mkAD (keys3 salt) ⟨dF, dS, far, false, astray⟩ (diffS (rightS (keys3 salt) ⟨dF, dS, far, false, astray⟩))).t = astray from ha] at this
    exact this
  · have hok := mkAD_ok (keys3_ok 77) hd (diffS_len _) (diffS_ne (rightS (keys3 77) ⟨dF, dS, far, true, astray⟩))
    have := arrival_forged hok (mkAD_dd _ _ _) hT hk (keyN_of 0 77).symm (keyN_of 1 77).symm (keyN_of 2 77).symm
    rw [show astr (mkAD (keys3 77) ⟨dF, dS, far, true, astray⟩ (diffS (rightS (keys3 77) ⟨dF, dS, far, true, astray⟩))).t = astray from ha] at this
    exact this
theorem _root_.Go.CE.V.SlZ.below {B : Nat} {W W' : World} {v : Value} {T z n : Nat} {vs : List Value} (h : SlZ B W v T z n vs) (hb : Below W.heap.size W W') : SlZ B W' v T z n vs := by
  obtain ⟨b, o, c, row, h1, h0, h2, h3⟩ := h
  exact ⟨b, o, c, row, h1, h0, (hb.block b (Array.getElem?_eq_some_iff.1 h2).1).trans h2, h3⟩
theorem _root_.Go.CE.V.Sl.lower {B B' : Nat} {W : World} {v : Value} {T : Nat} {vs : List Value} (h : Sl B W v T vs) (hb : B' ≤ B) : Sl B' W v T vs := by
  obtain ⟨b, o, c, row, h1, h0, h2⟩ := h
  exact ⟨b, o, c, row, h1, Nat.le_trans hb h0, h2⟩
theorem _root_.Go.CE.V.SlZ.lower {B B' : Nat} {W : World} {v : Value} {T z n : Nat} {vs : List Value} (h : SlZ B W v T z n vs) (hb : B' ≤ B) : SlZ B' W v T z n vs := by
  obtain ⟨b, o, c, row, h1, h0, h2⟩ := h
  exact ⟨b, o, c, row, h1, Nat.le_trans hb h0, h2⟩
def openCode (good : Bool) : Nat := if good then 0 else 8
def openLet (good : Bool) (d : Deed) : List Value := if good then ackL d.f d.t d.mtg else zerL
theorem open_deed (salt : Nat) {d : Deed} (hd : d.Ok) {W : World} {kv body : Value} (hT : TabW W) (hk : SlZ 0 W kv 34 32 3 (keys3 salt).cells) (hb : Sl 0 W body 5 d.body) :
    Calls Tryz.prog 22 #[kv, .agg (d.env salt body).row] W fun e W' => e = .returned (.tuple #[.agg (openLet (d.good salt) d).toArray, .int .i64 (openCode (d.good salt) : Nat)]) ∧ Below W.heap.size W W' := by
  unfold openLet openCode
  by_cases hg : d.sgn salt = rightS (keys3 salt) d
  · have e1 : d.good salt = true := decide_eq_true hg
    rw [e1]
    have := open_right (mkAD_ok (keys3_ok salt) hd (diffS_len _) (diffS_ne (rightS (keys3 salt) d))) hT hk hb
    unfold Deed.env
    rw [hg]
    exact this
  · have e1 : d.good salt = false := decide_eq_false hg
    rw [e1]
    exact open_wrong (mkAD_ok (keys3_ok salt) hd (d.seal_len salt hd) (fun q => hg q.symm)) hT hk hb
theorem ropen_deed (salt : Nat) {d : Deed} (hd : d.Ok) {W : World} {kv body : Value} (hT : TabW W) (hk : SlZ 0 W kv 34 32 3 (keys3 salt).cells) (hb : Sl 0 W body 5 d.body) :
    Calls Tryz.prog 27 #[kv, .agg (d.env salt body).row] W fun e W' => e = .returned (.tuple #[.agg (openLet (d.good salt) d).toArray, .int .i64 (openCode (d.good salt) : Nat)]) ∧ Below W.heap.size W W' := by
  unfold openLet openCode
  by_cases hg : d.sgn salt = rightS (keys3 salt) d
  · have e1 : d.good salt = true := decide_eq_true hg
    rw [e1]
    have := ropen_right (mkAD_ok (keys3_ok salt) hd (diffS_len _) (diffS_ne (rightS (keys3 salt) d))) hT hk hb
    unfold Deed.env
    rw [hg]
    exact this
  · have e1 : d.good salt = false := decide_eq_false hg
    rw [e1]
    exact ropen_wrong (mkAD_ok (keys3_ok salt) hd (d.seal_len salt hd) (fun q => hg q.symm)) hT hk hb
def Deed.code (salt : Nat) (L : List Int) (d : Deed) : Nat := if d.astray then 1 else if d.good salt = false then 8 else if (d.seq : Int) ∈ L then 9 else if mostL L + 1024 < (d.seq : Int) then 2 else 0
def Deed.out (salt : Nat) (L : List Int) (d : Deed) : List Value := if d.code salt L = 0 then ackL d.f d.t d.mtg else zerL
def Deed.next (salt : Nat) (T : Nat → List Int) (d : Deed) : Nat → List Int := if d.code salt (T d.f) = 0 then (fun i => if i = d.f then T d.f ++ [(d.seq : Int)] else T i) else T
theorem zerL_len : zerL.length = 62 := rfl
theorem ackL_len (f t m : Nat) : (ackL f t m).length = 62 := rfl
theorem zerL_ones : ones zerL.toArray = true := by kernel_rfl
theorem ackL_ones (f t m : Nat) : ones (ackL f t m).toArray = true := by kernel_rfl
theorem Deed.env_seal (salt : Nat) {d : Deed} (hd : d.Ok) (body : Value) : (d.env salt body).seal32.length = 32 := d.seal_len salt hd
section
variable {salt : Nat} {d : Deed} {W : World} {T : Nat → List Int} {kv body : Value}
theorem take_deed {G : GB} {gv : Value} {N : Nat} (hd : d.Ok) (h : GateP W G gv T N) (hT : TabW W) (hk : SlZ 0 W kv 34 32 3 (keys3 salt).cells) (hb : Sl 0 W body 5 d.body) (hN : N ≤ 1000) (hmm : ∀ i, mostL (T i) ≤ 1000000) :
    Calls Tryz.prog 11 #[gv, kv, .agg (d.env salt body).row] W fun r w' => r = .returned (.tuple #[.agg (d.out salt (T d.f)).toArray, .int .i64 (d.code salt (T d.f) : Nat)]) ∧ (∃ N', N' ≤ N + 1 ∧ GateP w' G gv (d.next salt T) N') ∧ BelX W.heap.size (fun b => b = G.r d.f ∨ b = G.m d.f) W w' := by
  have HO : ∀ w0, Below W.heap.size W w0 → Calls Tryz.prog 22 #[kv, .agg (d.env salt body).row] w0 fun e W' => e = .returned (.tuple #[.agg (openLet (d.good salt) d).toArray, .int .i64 (openCode (d.good salt) : Nat)]) ∧ Below w0.heap.size w0 W' := fun w0 hB => open_deed salt hd (hT.below hB) (hk.below hB) (hb.below hB)
  obtain ⟨kb, ko, kc, krow, rfl, _⟩ := id hk
  have low : ∀ w', Below W.heap.size W w' → (∃ N', N' ≤ N + 1 ∧ GateP w' G gv T N') ∧ BelX W.heap.size (fun b => b = G.r d.f ∨ b = G.m d.f) W w' := fun w' hB => ⟨⟨N, Nat.le_succ N, h.below (BelX.of hB (fun _ => False)) (fun _ _ q => q)⟩, BelX.of hB _⟩
  have hsl := d.env_seal salt hd body
  have hsq : (d.env salt body).seq = (d.seq : Int) := rfl
  have hq : 1 ≤ (d.seq : Int) ∧ (d.seq : Int) ≤ 1000000 := by
    have := hd.s
    have := hd.a
    unfold Deed.seq
    omega
  by_cases hs : d.astray = true
  · have hc : d.code salt (T d.f) = 1 := by unfold Deed.code; rw [if_pos hs]
    have hn : d.next salt T = T := by unfold Deed.next; rw [hc]; rfl
    have ho : d.out salt (T d.f) = zerL := by unfold Deed.out; rw [hc]; rfl
    rw [hc, hn, ho]
    have hdst : (d.env salt body).dst ≠ 0 := by
      show (d.t : Int) ≠ 0
      unfold Deed.t
      rw [if_pos hs]
      have := d.f12
      omega
    exact (take_arg W G gv T N h _ 3 kc (d.env salt body) hsl (.inr hdst)).mono fun r w' hp => ⟨hp.1, low w' hp.2⟩
  · have hs' : d.astray = false := by simpa using hs
    have hdst : (d.env salt body).dst = 0 := by
      show (d.t : Int) = 0
      unfold Deed.t
      rw [if_neg hs]; rfl
    cases hg : d.good salt
    · have hc : d.code salt (T d.f) = 8 := by unfold Deed.code; rw [if_neg hs, if_pos hg]
      have hn : d.next salt T = T := by unfold Deed.next; rw [hc]; rfl
      have ho : d.out salt (T d.f) = zerL := by unfold Deed.out; rw [hc]; rfl
      rw [hc, hn, ho]
      rw [hg] at HO
      exact (take_fail W G gv T N h _ kc (d.env salt body) hsl hdst zerL zerL_len zerL_ones 8 (by decide) HO).mono fun r w' hp => ⟨hp.1, low w' hp.2⟩
    · rw [hg] at HO
      have hng : ¬ d.good salt = false := by rw [hg]; decide
      have HO0 : ∀ w0, Below W.heap.size W w0 → Calls Tryz.prog 22 #[.slice (some ⟨kb, ko, none⟩) 3 kc, .agg (d.env salt body).row] w0 fun e W' => e = .returned (.tuple #[.agg (ackL d.f d.t d.mtg).toArray, .int .i64 0]) ∧ Below w0.heap.size w0 W' := HO
      by_cases hm : (d.seq : Int) ∈ T d.f
      · have hc : d.code salt (T d.f) = 9 := by unfold Deed.code; rw [if_neg hs, if_neg hng, if_pos hm]
        have hn : d.next salt T = T := by unfold Deed.next; rw [hc]; rfl
        have ho : d.out salt (T d.f) = zerL := by unfold Deed.out; rw [hc]; rfl
        rw [hc, hn, ho]
        rcases d.f12 with e | e
        · rw [e] at hm
          exact (take_old1 W G gv T N h _ kc (d.env salt body) hsl hdst (ackL d.f d.t d.mtg) (ackL_len _ _ _) (ackL_ones _ _ _) (by show (d.f : Int) = 1; omega) _ hsq hq hm HO0).mono fun r w' hp => ⟨hp.1, low w' hp.2⟩
        · rw [e] at hm
          exact (take_old2 W G gv T N h _ kc (d.env salt body) hsl hdst (ackL d.f d.t d.mtg) (ackL_len _ _ _) (ackL_ones _ _ _) (by show (d.f : Int) = 2; omega) _ hsq hq hm HO0).mono fun r w' hp => ⟨hp.1, low w' hp.2⟩
      · by_cases hbg : mostL (T d.f) + 1024 < (d.seq : Int)
        · have hc : d.code salt (T d.f) = 2 := by unfold Deed.code; rw [if_neg hs, if_neg hng, if_neg hm, if_pos hbg]
          have hn : d.next salt T = T := by unfold Deed.next; rw [hc]; rfl
          have ho : d.out salt (T d.f) = zerL := by unfold Deed.out; rw [hc]; rfl
          rw [hc, hn, ho]
          rcases d.f12 with e | e
          · rw [e] at hm hbg
            exact (take_big1 W G gv T N h _ kc (d.env salt body) hsl hdst (ackL d.f d.t d.mtg) (ackL_len _ _ _) (ackL_ones _ _ _) (by show (d.f : Int) = 1; omega) _ hsq hq hm hbg HO0).mono fun r w' hp => ⟨hp.1, low w' hp.2⟩
          · rw [e] at hm hbg
            exact (take_big2 W G gv T N h _ kc (d.env salt body) hsl hdst (ackL d.f d.t d.mtg) (ackL_len _ _ _) (ackL_ones _ _ _) (by show (d.f : Int) = 2; omega) _ hsq hq hm hbg HO0).mono fun r w' hp => ⟨hp.1, low w' hp.2⟩
        · have hc : d.code salt (T d.f) = 0 := by unfold Deed.code; rw [if_neg hs, if_neg hng, if_neg hm, if_neg hbg]
          have hn : d.next salt T = fun i => if i = d.f then T d.f ++ [(d.seq : Int)] else T i := by unfold Deed.next; rw [if_pos hc]
          have ho : d.out salt (T d.f) = ackL d.f d.t d.mtg := by unfold Deed.out; rw [if_pos hc]
          rw [hc, hn, ho]
          have hbg' : (d.seq : Int) ≤ mostL (T d.f) + 1024 := by omega
          rcases d.f12 with e | e
          · rw [e] at hm hbg' ⊢
            exact (take_ok1 W G gv T N h _ kc (d.env salt body) hsl hdst (ackL 1 d.t d.mtg) (ackL_len _ _ _) (ackL_ones _ _ _) (by show (d.f : Int) = 1; omega) _ hsq hq hm hbg' hN (hmm 1) (by rw [← e]; exact HO0)).mono fun r w' hp => ⟨hp.1, ⟨N + 1, Nat.le_refl _, hp.2.1⟩, hp.2.2⟩
          · rw [e] at hm hbg' ⊢
            exact (take_ok2 W G gv T N h _ kc (d.env salt body) hsl hdst (ackL 2 d.t d.mtg) (ackL_len _ _ _) (ackL_ones _ _ _) (by show (d.f : Int) = 2; omega) _ hsq hq hm hbg' hN (hmm 2) (by rw [← e]; exact HO0)).mono fun r w' hp => ⟨hp.1, ⟨N + 1, Nat.le_refl _, hp.2.1⟩, hp.2.2⟩
end
end Go.Proofs.YtmjblpkbfoipfaaGreatDoor
namespace Go.Proofs.YtmjblpkbfoipfaaGreatDoor
open Go.RowKit
theorem foldl_max_le (L : List Int) : ∀ (a b : Int), L.foldl max a ≤ b ↔ a ≤ b ∧ ∀ x, x ∈ L → x ≤ b := by
  induction L with
  | nil => intro a b; simp
  | cons y L ih =>
    intro a b
    rw [List.foldl_cons, ih]
    constructor
    · rintro ⟨h1, h2⟩
      refine ⟨by omega, fun x hx => ?_⟩
      rcases List.mem_cons.1 hx with rfl | hx
      · omega
      · exact h2 x hx
    · rintro ⟨h1, h2⟩
      refine ⟨?_, fun x hx => h2 x (List.mem_cons_of_mem _ hx)⟩
      have := h2 y (List.mem_cons_self ..)
      omega
theorem mostL_le (L : List Int) (b : Int) : mostL L ≤ b ↔ 0 ≤ b ∧ ∀ x, x ∈ L → x ≤ b := foldl_max_le L 0 b
theorem le_mostL {L : List Int} {x : Int} (h : x ∈ L) : x ≤ mostL L := ((mostL_le L (mostL L)).1 (Int.le_refl _)).2 x h
theorem mostL_eq {L M : List Int} (h : ∀ x, x ∈ L ↔ x ∈ M) : mostL L = mostL M := by
  have h1 : mostL L ≤ mostL M := (mostL_le L _).2 ⟨mostL_nonneg M, fun x hx => le_mostL ((h x).1 hx)⟩
  have h2 : mostL M ≤ mostL L := (mostL_le M _).2 ⟨mostL_nonneg L, fun x hx => le_mostL ((h x).2 hx)⟩
  omega
theorem missN_eq {L M : List Int} (h : ∀ x, x ∈ L ↔ x ∈ M) (n : Nat) : missN L n = missN M n := by
  unfold missN
  congr 1
  funext i
  have : L.contains i = M.contains i := by
    rw [Bool.eq_iff_iff]
    simp only [List.contains_iff_mem]
    exact h i
  rw [this]
theorem mostL_mem : ∀ {L : List Int}, L ≠ [] → (∀ x, x ∈ L → 1 ≤ x) → mostL L ∈ L := by
  have key : ∀ (L : List Int) (a : Int), L.foldl max a = a ∨ L.foldl max a ∈ L := by
    intro L
    induction L with
    | nil => intro a; exact .inl rfl
    | cons y L ih =>
      intro a
      rw [List.foldl_cons]
      rcases ih (max a y) with h | h
      · by_cases q : a ≤ y
        · rw [Int.max_eq_right q] at h ⊢
          exact .inr (by rw [h]; exact List.mem_cons_self ..)
        · rw [Int.max_eq_left (by omega)] at h ⊢
          exact .inl h
      · exact .inr (List.mem_cons_of_mem _ h)
  intro L hne h1
  rcases key L 0 with h | h
  · exfalso
    obtain ⟨x, hx⟩ := List.exists_mem_of_ne_nil L hne
    have := h1 x hx
    have := le_mostL hx
    have h : mostL L = 0 := h
    omega
  · exact h
theorem countle_at (L : List Int) (hn : L.Nodup) (n : Int) : (L.filter fun x => decide (x ≤ n + 1)).length = (L.filter fun x => decide (x ≤ n)).length + if n + 1 ∈ L then 1 else 0 := by
  induction L with
  | nil => simp
  | cons y L ih =>
    have hn' := List.nodup_cons.1 hn
    have ih := ih hn'.2
    by_cases e : y = n + 1
    · subst e
      have : ¬ (n + 1 ∈ L) := hn'.1
      rw [if_neg this] at ih
      rw [if_pos (List.mem_cons_self ..), List.filter_cons_of_pos (by simp), List.filter_cons_of_neg (by simp; omega), List.length_cons, ih]
    · have e' : (n + 1 ∈ y :: L) ↔ n + 1 ∈ L := by
        rw [List.mem_cons]
        constructor
        · rintro (h | h)
          · exact absurd h.symm e
          · exact h
        · intro h; exact .inr h
      have : (if n + 1 ∈ y :: L then 1 else 0) = if n + 1 ∈ L then 1 else 0 := by simp only [e']
      rw [this]
      by_cases q : y ≤ n
      · rw [List.filter_cons_of_pos (by simp; omega), List.filter_cons_of_pos (by simpa using q), List.length_cons, List.length_cons, ih]
        omega
      · rw [List.filter_cons_of_neg (by simp; omega), List.filter_cons_of_neg (by simpa using q), ih]
theorem miss_count (L : List Int) (hn : L.Nodup) (h1 : ∀ x, x ∈ L → 1 ≤ x) : ∀ n : Nat, (missN L (n + 1)).length + (L.filter fun x => decide (x ≤ (n : Int))).length = n := by
  intro n
  induction n with
  | zero =>
    rw [missN_one L 1 (Nat.le_refl _)]
    have : (L.filter fun x => decide (x ≤ ((0 : Nat) : Int))) = [] := by
      rw [List.filter_eq_nil_iff]
      intro x hx
      have := h1 x hx
      simp; omega
    rw [this]; rfl
  | succ n ih =>
    have hc := countle_at L hn n
    rw [missN_succ L (n + 1) (by omega)]
    have ec : ((n + 1 : Nat) : Int) = (n : Int) + 1 := by omega
    rw [ec]
    by_cases q : (n : Int) + 1 ∈ L
    · rw [if_pos q] at hc ⊢
      rw [hc]; omega
    · rw [if_neg q] at hc ⊢
      rw [hc, List.length_append, List.length_singleton]; omega
theorem taken_count (L : List Int) (hn : L.Nodup) (h1 : ∀ x, x ∈ L → 1 ≤ x) : (L.length : Int) = mostL L - ((missN L (mostL L).toNat).length : Int) := by
  by_cases e : L = []
  · subst e; rfl
  · have hm := mostL_mem e h1
    have h0 := h1 _ hm
    obtain ⟨m, hm'⟩ : ∃ m : Nat, mostL L = (m : Int) := ⟨(mostL L).toNat, by omega⟩
    have hc := miss_count L hn h1 m
    have hall : (L.filter fun x => decide (x ≤ (m : Int))) = L := by
      rw [List.filter_eq_self]
      intro x hx
      have := le_mostL hx
      rw [hm'] at this
      simpa using this
    rw [hall, missN_succ L m (by omega), if_pos (by rw [← hm']; exact hm)] at hc
    rw [hm', Int.toNat_natCast]
    omega
theorem turned_at (n t : Nat) (hn : n ≤ 12) (m : Nat) (hm : m < n) : ∃ k, k < n ∧ (n - 1 - k + t) % n = m := by
  refine ⟨(n - 1 + t + (n - m)) % n, Nat.mod_lt _ (by omega), ?_⟩
  rcases (show n = 1 ∨ n = 2 ∨ n = 3 ∨ n = 4 ∨ n = 5 ∨ n = 6 ∨ n = 7 ∨ n = 8 ∨ n = 9 ∨ n = 10 ∨ n = 11 ∨ n = 12 by omega) with rfl | rfl | rfl | rfl | rfl | rfl | rfl | rfl | rfl | rfl | rfl | rfl <;> omega
end Go.Proofs.YtmjblpkbfoipfaaGreatDoor
namespace Go.Proofs.YtmjblpkbfoipfaaGreatDoor
open Go.RowKit Go.CE.V
set_option maxRecDepth 20000
def OffT (S : Nat → Prop) (w : World) : Prop := ∀ b, S b → ∀ c T fr, obj w b = some (.cells c T fr) → T = 75 ∨ T = 3 ∨ T = 50
theorem off_int (w : World) (lo : Nat) : OffT (IntB w lo) w := fun b hb c T fr h => by
  obtain ⟨_, c', T', fr', h1, h2⟩ := hb
  rw [h] at h1
  injection h1 with h1
  injection h1 with _ q _
  subst q
  exact .inr h2
theorem off_rec {w : World} {G : GB} {gv : Value} {T : Nat → List Int} {N F : Nat} (h : GateP w G gv T N) (hF : F < 3) : OffT (fun b => b = G.r F ∨ b = G.m F) w := fun b hb c T' fr h1 => by
  rcases hb with rfl | rfl
  · have := h.r F hF
    rw [h1] at this
    injection this with this
    injection this with _ q _
    exact .inl q
  · obtain ⟨D, hD, _⟩ := h.m F hF
    obtain ⟨es, clock, q, _⟩ := hD
    rw [show w.heap[G.m F]? = some _ from h1] at q
    cases q
theorem _root_.Go.CE.V.TabW.belX {w w' : World} {S : Nat → Prop} (h : TabW w) (hX : BelX w.heap.size S w w') (hS : OffT S w) : TabW w' := by
  obtain ⟨c, h1, h2, h3⟩ := h
  refine ⟨c, (hX.block 0 (Array.getElem?_eq_some_iff.1 h1).1 fun q => ?_).trans h1, h2, h3⟩
  rcases hS 0 q c _ _ h1 with e | e | e <;> exact absurd e (by decide)
theorem _root_.Go.CE.V.SlZ.belX {w w' : World} {S : Nat → Prop} {B z n : Nat} {v : Value} {vs : List Value} (h : SlZ B w v 34 z n vs) (hX : BelX w.heap.size S w w') (hS : OffT S w) : SlZ B w' v 34 z n vs := by
  obtain ⟨b, o, c, row, h1, h0, h2, h3⟩ := h
  refine ⟨b, o, c, row, h1, h0, (hX.block b (Array.getElem?_eq_some_iff.1 h2).1 fun q => ?_).trans h2, h3⟩
  rcases hS b q row _ _ h2 with e | e | e <;> exact absurd e (by decide)
theorem _root_.Go.CE.V.Sl.belX {w w' : World} {S : Nat → Prop} {B : Nat} {v : Value} {vs : List Value} (h : Sl B w v 5 vs) (hX : BelX w.heap.size S w w') (hS : OffT S w) : Sl B w' v 5 vs := by
  obtain ⟨b, o, c, row, h1, h0, h2, h3⟩ := h
  refine ⟨b, o, c, row, h1, h0, (hX.block b (Array.getElem?_eq_some_iff.1 h2).1 fun q => ?_).trans h2, h3⟩
  rcases hS b q row _ _ h2 with e | e | e <;> exact absurd e (by decide)
theorem GateP.belInt {w w' : World} {lo : Nat} {G : GB} {gv : Value} {T : Nat → List Int} {N : Nat} (h : GateP w G gv T N) (hX : BelX w.heap.size (IntB w lo) w w') : GateP w' G gv T N := by
  refine h.below hX fun b hb q => ?_
  obtain ⟨_, c', T', fr', h1, h2⟩ := q
  have no : ∀ {c : Array Value} {t : TypeId}, obj w b = some (.cells c t (0, 0)) → t = 3 ∨ t = 50 := fun {c t} q => by
    rw [h1] at q
    injection q with q
    injection q with _ q _
    subst q
    exact h2
  have nm : ∀ i, i < 3 → b ≠ G.m i := fun i hi e => by
    obtain ⟨D, hD, _⟩ := h.m i hi
    obtain ⟨es, clock, q, _⟩ := hD
    rw [← e, show w.heap[b]? = some _ from h1] at q
    cases q
  have nr : ∀ i, i < 3 → b ≠ G.r i := fun i hi e => by
    have := h.r i hi
    rw [← e] at this
    rcases no this with q | q <;> exact absurd q (by decide)
  simp only [List.mem_cons, List.not_mem_nil, or_false] at hb
  rcases hb with e | e | e | e | e | e | e | e
  · obtain ⟨c, q⟩ := h.g
    rw [← e] at q
    rcases no q with q | q <;> exact absurd q (by decide)
  · obtain ⟨row, q, _⟩ := h.s
    rw [← e] at q
    rcases no q with q | q <;> exact absurd q (by decide)
  · exact nr 0 (by omega) e
  · exact nr 1 (by omega) e
  · exact nr 2 (by omega) e
  · exact nm 0 (by omega) e
  · exact nm 1 (by omega) e
  · exact nm 2 (by omega) e
theorem RGateP.belRec {w w' : World} {S : Nat → Prop} {R : RB} {gv : Value} {T : Nat → List Int} (h : RGateP w R gv T) (hX : BelX w.heap.size S w w') (hS : ∀ b, S b → ∀ c T' fr, obj w b = some (.cells c T' fr) → T' = 75) : RGateP w' R gv T where
  v := h.v
  lo := h.lo
  g := by
    obtain ⟨c, hg⟩ := h.g
    exact ⟨c, belX_obj hX hg (row_lt' hg) fun q => absurd (hS _ q _ _ _ hg) (by decide)⟩
  s := by
    obtain ⟨row, hs, h2, h3⟩ := h.s
    refine ⟨row, belX_obj hX hs (row_lt' hs) (fun q => absurd (hS _ q _ _ _ hs) (by decide)), fun i hi => ?_, h3⟩
    obtain ⟨v, hv, ho⟩ := h2 i hi
    refine ⟨v, hv, ho.1, ?_⟩
    rcases ho.2 with q | ⟨g, cap, cur, q0, q1, q2, q3⟩
    · exact .inl q
    · exact .inr ⟨g, cap, cur, q0, q1, (hX.block g (Array.getElem?_eq_some_iff.1 q2).1 fun q => absurd (hS _ q _ _ _ q2) (by decide)).trans q2, q3⟩
theorem rec_only {w : World} {G : GB} {gv : Value} {T : Nat → List Int} {N F : Nat} (h : GateP w G gv T N) (hF : F < 3) : ∀ b, (b = G.r F ∨ b = G.m F) → ∀ c T' fr, obj w b = some (.cells c T' fr) → T' = 75 := fun b hb c T' fr h1 => by
  rcases hb with rfl | rfl
  · have := h.r F hF
    rw [h1] at this
    injection this with this
    injection this with _ q _
  · obtain ⟨D, hD, _⟩ := h.m F hF
    obtain ⟨es, clock, q, _⟩ := hD
    rw [show w.heap[G.m F]? = some _ from h1] at q
    cases q
def DeedsAt (W : World) (v : Value) (n : Nat) (ds : Nat → Deed) : Prop := ∃ ao c, v = .slice ao n c ∧ (∀ i, i < n → (ds i).Ok) ∧ (0 < n → ∃ b off row T fr, ao = some ⟨b, off, none⟩ ∧ obj W b = some (.cells row T fr) ∧ ∀ i, i < n → off + i * 5 + 5 ≤ row.size ∧ Value.agg (row.extract (off + i * 5) (off + i * 5 + 5)) = (ds i).val)
theorem DeedsAt.below {W w : World} {v : Value} {n : Nat} {ds : Nat → Deed} (h : DeedsAt W v n ds) (hB : Below W.heap.size W w) : DeedsAt w v n ds := by
  obtain ⟨ao, c, h1, h2, h3⟩ := h
  refine ⟨ao, c, h1, h2, fun hn => ?_⟩
  obtain ⟨b, off, row, T, fr, q1, q2, q3⟩ := h3 hn
  exact ⟨b, off, row, T, fr, q1, keep_below q2 hB (row_lt q2), q3⟩
structure GInv (W w : World) (salt : Nat) (kv : Value) (G : GB) (gv : Value) (T : Nat → List Int) (k : Nat) : Prop where
  tab : TabW w
  keys : SlZ W.heap.size w kv 34 32 3 (keys3 salt).cells
  gate : ∃ N, N ≤ k ∧ GateP w G gv T N
  far : ∀ b, b ∈ [G.g, G.s, G.r 0, G.r 1, G.r 2, G.m 0, G.m 1, G.m 2] → W.heap.size ≤ b
  bel : Below W.heap.size W w
  len : ∀ i, (T i).length ≤ k
  el : ∀ i x, x ∈ T i → 1 ≤ x ∧ x ≤ 65555
theorem GInv.most {W w : World} {salt : Nat} {kv : Value} {G : GB} {gv : Value} {T : Nat → List Int} {k : Nat} (h : GInv W w salt kv G gv T k) (i : Nat) : mostL (T i) ≤ 65555 := (mostL_le _ _).2 ⟨by omega, fun x hx => (h.el i x hx).2⟩
theorem GInv.below {W w w' : World} {salt : Nat} {kv : Value} {G : GB} {gv : Value} {T : Nat → List Int} {k : Nat} (h : GInv W w salt kv G gv T k) (hB : Below w.heap.size w w') : GInv W w' salt kv G gv T k where
  tab := h.tab.below hB
  keys := h.keys.below hB
  gate := by
    obtain ⟨N, q, hg⟩ := h.gate
    exact ⟨N, q, hg.below (BelX.of hB (fun _ => False)) (fun _ _ q => q)⟩
  far := h.far
  bel := h.bel.trans (hB.mono h.bel.size)
  len := h.len
  el := h.el
theorem far_r {W : World} {G : GB} (h : ∀ b, b ∈ [G.g, G.s, G.r 0, G.r 1, G.r 2, G.m 0, G.m 1, G.m 2] → W.heap.size ≤ b) {F : Nat} (hF : F < 3) : W.heap.size ≤ G.r F ∧ W.heap.size ≤ G.m F := by
  rcases (show F = 0 ∨ F = 1 ∨ F = 2 by omega) with rfl | rfl | rfl <;> exact ⟨h _ (by simp), h _ (by simp)⟩
theorem next_len {salt : Nat} {T : Nat → List Int} {d : Deed} {k : Nat} (h : ∀ i, (T i).length ≤ k) (i : Nat) : (d.next salt T i).length ≤ k + 1 := by
  unfold Deed.next
  split
  · dsimp only
    split
    · rw [List.length_append, List.length_singleton]; exact Nat.succ_le_succ (h d.f)
    · exact Nat.le_succ_of_le (h i)
  · exact Nat.le_succ_of_le (h i)
theorem next_el {salt : Nat} {T : Nat → List Int} {d : Deed} (hd : d.Ok) (h : ∀ i x, x ∈ T i → 1 ≤ x ∧ x ≤ 65555) (i : Nat) (x : Int) (hx : x ∈ d.next salt T i) : 1 ≤ x ∧ x ≤ 65555 := by
  unfold Deed.next at hx
  have h1 := hd.s
  have h2 := hd.a
  split at hx
  · dsimp only at hx
    split at hx
    · rcases List.mem_append.1 hx with q | q
      · exact h _ _ q
      · rw [List.mem_singleton] at q
        subst q
        unfold Deed.seq
        omega
    · exact h _ _ hx
  · exact h _ _ hx
theorem GInv.take {W w w' : World} {salt : Nat} {kv : Value} {G : GB} {gv : Value} {T : Nat → List Int} {k : Nat} {d : Deed} (h : GInv W w salt kv G gv T k) (hd : d.Ok) {N : Nat} (hg : GateP w G gv T N)
    (hN : ∃ N', N' ≤ k + 1 ∧ GateP w' G gv (d.next salt T) N') (hX : BelX w.heap.size (fun b => b = G.r d.f ∨ b = G.m d.f) w w') : GInv W w' salt kv G gv (d.next salt T) (k + 1) := by
  have hF : d.f < 3 := by have := d.f12; omega
  have ho := off_rec hg hF
  obtain ⟨f1, f2⟩ := far_r h.far hF
  exact {
    tab := h.tab.belX hX ho
    keys := h.keys.belX hX ho
    gate := hN
    far := h.far
    bel := ⟨hX.os.trans h.bel.os, hX.tape.trans h.bel.tape, hX.output.trans h.bel.output, Nat.le_trans h.bel.size hX.size, fun i hi => (hX.block i (Nat.lt_of_lt_of_le hi h.bel.size) (by omega)).trans (h.bel.block i hi)⟩
    len := next_len h.len
    el := next_el hd h.el }
theorem GInv.rtake {W w w' : World} {salt : Nat} {kv : Value} {G : GB} {gv : Value} {T : Nat → List Int} {k lo : Nat} (h : GInv W w salt kv G gv T k) (hlo : W.heap.size ≤ lo) (hX : BelX w.heap.size (IntB w lo) w w') : GInv W w' salt kv G gv T k where
  tab := h.tab.belX hX (off_int w lo)
  keys := h.keys.belX hX (off_int w lo)
  gate := by
    obtain ⟨N, q, hg⟩ := h.gate
    exact ⟨N, q, hg.belInt hX⟩
  far := h.far
  bel := ⟨hX.os.trans h.bel.os, hX.tape.trans h.bel.tape, hX.output.trans h.bel.output, Nat.le_trans h.bel.size hX.size, fun i hi => (hX.block i (Nat.lt_of_lt_of_le hi h.bel.size) (fun q => by have := q.1; omega)).trans (h.bel.block i hi)⟩
  len := h.len
  el := h.el
theorem GInv.start {W w1 w2 w3 w4 : World} {salt : Nat} {kv : Value} {G : GB} {gv : Value} (hT : TabW W) (h1 : Below W.heap.size W w1) (hk : SlZ w1.heap.size w2 kv 34 32 3 (keys3 salt).cells) (h2 : Below w1.heap.size w1 w2) (hg : GateP w3 G gv (fun _ => []) 0)
    (hf : ∀ b, b ∈ [G.g, G.s, G.r 0, G.r 1, G.r 2, G.m 0, G.m 1, G.m 2] → w2.heap.size ≤ b) (h3 : Below w2.heap.size w2 w3) (h4 : Below w3.heap.size w3 w4) : GInv W w4 salt kv G gv (fun _ => []) 0 := by
  have h12 : Below W.heap.size W w2 := h1.trans (h2.mono h1.size)
  have h13 : Below W.heap.size W w3 := h12.trans (h3.mono h12.size)
  have h14 : Below W.heap.size W w4 := h13.trans (h4.mono h13.size)
  have h24 : Below w2.heap.size w2 w4 := h3.trans (h4.mono h3.size)
  exact {
    tab := hT.below h14
    keys := (hk.below h24).lower h1.size
    gate := ⟨0, Nat.le_refl _, hg.below (BelX.of h4 (fun _ => False)) (fun _ _ q => q)⟩
    far := fun b hb => Nat.le_trans h12.size (hf b hb)
    bel := h14
    len := fun i => Nat.le_refl _
    el := fun i x hx => by cases hx }
theorem Env_list (e : Env) : e.row.toList = [.int .i64 e.frm, .int .i64 e.dst, .int .i64 e.seq, e.body] ++ bCells e.seal32 := by
  rw [← bRow_list]
  unfold Env.row
  simp
theorem Env_ones (e : Env) (hb : e.body.oneCell' = true) : ones e.row = true := by
  unfold ones
  rw [Array.all_eq_true_iff_forall_mem]
  intro v hv
  rw [← Array.mem_toList_iff, Env_list] at hv
  simp only [List.cons_append, List.nil_append, List.mem_cons] at hv
  rcases hv with rfl | rfl | rfl | rfl | hv
  · rfl
  · rfl
  · rfl
  · exact hb
  · exact bCells_one _ _ hv
theorem Sl_one {B : Nat} {w : World} {v : Value} {T : Nat} {vs : List Value} (h : Sl B w v T vs) : v.oneCell' = true := by
  obtain ⟨b, o, c, row, rfl, _⟩ := h
  rfl
theorem out_size (salt : Nat) (L : List Int) (d : Deed) : (d.out salt L).toArray.size = 62 := by
  unfold Deed.out
  split
  · exact ackL_len _ _ _
  · exact zerL_len
theorem out_ones (salt : Nat) (L : List Int) (d : Deed) : ones (d.out salt L).toArray = true := by
  unfold Deed.out
  split
  · exact ackL_ones _ _ _
  · exact zerL_ones
theorem belX_cells {w w' : World} {S : Nat → Prop} {b : Nat} {c : Array Value} {T : TypeId} {fr : Nat × Nat} (h : obj w b = some (.cells c T fr)) (hX : BelX w.heap.size S w w') (hS : OffT S w) (hT : T ≠ 75 ∧ T ≠ 3 ∧ T ≠ 50) : obj w' b = some (.cells c T fr) :=
  belX_obj hX h (row_lt h) fun q => by
    rcases hS b q c T fr h with e | e | e
    · exact hT.1 e
    · exact hT.2.1 e
    · exact hT.2.2 e
theorem same_out (salt : Nat) (L : List Int) {d : Deed} (hd : d.Ok) (W : World) : Calls Tryz.prog 13 #[.agg (d.out salt L).toArray, .agg (d.out salt L).toArray] W fun e W' => e = .returned (.bool true) ∧ Below W.heap.size W W' := by
  have hok := mkAD_ok (keys3_ok salt) hd (diffS_len _) (diffS_ne (rightS (keys3 salt) d))
  unfold Deed.out
  split
  · exact same_ack hok
  · exact same_zero hok
def grt (T : Nat → List Int) (x : Int) : Int := if 0 ≤ x ∧ x < 3 then mostL (T x.toNat) else 0
def msn (T : Nat → List Int) (x : Int) : List Int := if 0 ≤ x ∧ x < 3 then missN (T x.toNat) (mostL (T x.toNat)).toNat else []
section
variable {W w : World} {salt k : Nat} {kv gv rgv : Value} {G : GB} {R : RB} {T : Nat → List Int}
theorem GInv.grt (h : GInv W w salt kv G gv T k) (x : Int) : Calls Tryz.prog 14 #[gv, .int .i64 x] w fun e w' => e = .returned (.int .i64 (grt T x)) ∧ Below w.heap.size w w' := by
  obtain ⟨N, _, hg⟩ := h.gate
  exact gst_calls w G gv T N hg x
theorem GInv.rgrt (h : GInv W w salt kv G gv T k) (hk : k ≤ 100) (hr : RGateP w R rgv T) (x : Int) : Calls Tryz.prog 15 #[rgv, .int .i64 x] w fun e w' => e = .returned (.int .i64 (Go.Proofs.YtmjblpkbfoipfaaGreatDoor.grt T x)) ∧ w' = w :=
  rgst_calls w R rgv T hr x fun _ => by have := h.len x.toNat; omega
theorem msn_len (h : GInv W w salt kv G gv T k) (x : Int) : (msn T x).length < 1000000 := by
  unfold msn
  split
  · have := h.most x.toNat
    have := missN_le (T x.toNat) (mostL (T x.toNat)).toNat
    omega
  · decide
theorem GInv.msn (h : GInv W w salt kv G gv T k) (x : Int) : Calls Tryz.prog 17 #[gv, .int .i64 x] w fun e w' => ∃ v, e = .returned v ∧ HasI w' v (msn T x) ∧ Below w.heap.size w w' := by
  obtain ⟨N, _, hg⟩ := h.gate
  exact miss_calls w G gv T N hg x fun _ => by have := h.most x.toNat; omega
theorem GInv.rmsn (h : GInv W w salt kv G gv T k) (hk : k ≤ 100) (hr : RGateP w R rgv T) (x : Int) : Calls Tryz.prog 18 #[rgv, .int .i64 x] w fun e w' => ∃ v, e = .returned v ∧ HasI w' v (Go.Proofs.YtmjblpkbfoipfaaGreatDoor.msn T x) ∧ Below w.heap.size w w' :=
  rmiss_calls w R rgv T hr x (fun i _ => by have := h.len i; omega) fun i _ => by have := h.most i; omega
theorem sameI (w : World) {u v : Value} {l : List Int} (hu : HasI w u l) (hv : HasI w v l) (h1 : l.length < 1000000) : Calls Tryz.prog 16 #[u, v] w fun e w' => e = .returned (.bool true) ∧ Below w.heap.size w w' := by
  have := sameInts_calls u v l l w hu hv h1 h1
  rw [decide_eq_true rfl] at this
  exact this
end
def Deed.arr (d : Deed) : Array Value := #[.int .u8 d.dF, .int .u8 d.dS, .int .u16 d.far, .bool d.forged, .bool d.astray]
end Go.Proofs.YtmjblpkbfoipfaaGreatDoor
