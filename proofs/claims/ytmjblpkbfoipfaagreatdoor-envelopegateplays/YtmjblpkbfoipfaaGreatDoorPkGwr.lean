/-
  What the reference's gate does with a deed.
-/
import Derived.Test.YtmjblpkbfoipfaaGreatDoorPkGw
import Derived.Test.YtmjblpkbfoipfaaGreatDoorPkGtT
set_option linter.unusedSectionVars false
set_option linter.constructorNameAsVariable false
set_option linter.unusedVariables false
set_option linter.unusedSimpArgs false
namespace Go.Proofs.YtmjblpkbfoipfaaGreatDoor
open Go.RowKit Go.CE.V
set_option maxRecDepth 20000
section
variable {salt : Nat} {d : Deed} {W : World} {T : Nat → List Int} {kv body : Value}
theorem rtake_deed {R : RB} {gv : Value} (hd : d.Ok) (h : RGateP W R gv T) (hT : TabW W) (hk : SlZ 0 W kv 34 32 3 (keys3 salt).cells) (hb : Sl 0 W body 5 d.body) (hlen : ∀ i, (T i).length < 100000) (hmm : ∀ i, mostL (T i) ≤ 1000000) :
    Calls Tryz.prog 12 #[gv, kv, .agg (d.env salt body).row] W fun r w' => r = .returned (.tuple #[.agg (d.out salt (T d.f)).toArray, .int .i64 (d.code salt (T d.f) : Nat)]) ∧ RGateP w' R gv (d.next salt T) ∧ BelX W.heap.size (IntB W R.lo) W w' := by
  have HO : ∀ w0, Below W.heap.size W w0 → Calls Tryz.prog 27 #[kv, .agg (d.env salt body).row] w0 fun e W' => e = .returned (.tuple #[.agg (openLet (d.good salt) d).toArray, .int .i64 (openCode (d.good salt) : Nat)]) ∧ Below w0.heap.size w0 W' := fun w0 hB => ropen_deed salt hd (hT.below hB) (hk.below hB) (hb.below hB)
  obtain ⟨kb, ko, kc, krow, rfl, _⟩ := id hk
  have low : ∀ w', Below W.heap.size W w' → RGateP w' R gv T ∧ BelX W.heap.size (IntB W R.lo) W w' := fun w' hB => ⟨h.below hB, BelX.of hB _⟩
  have hsl := d.env_seal salt hd body
  have hsq : (d.env salt body).seq = (d.seq : Int) := rfl
  have hq : 1 ≤ (d.seq : Int) ∧ (d.seq : Int) ≤ 1000000 := by
    have := hd.s
    have := hd.a
    unfold Deed.seq
    omega
  by_cases hs : d.astray = true
  · have hc : d.code salt (T d.f) = 1 := by unfold Deed.code; rw [if_pos hs]
    have hn : d.next salt T = T := by unfold Deed.next; rw [hc]; rfl
    have ho : d.out salt (T d.f) = zerL := by unfold Deed.out; rw [hc]; rfl
    rw [hc, hn, ho]
    have hdst : (d.env salt body).dst ≠ 0 := by
      show (d.t : Int) ≠ 0
      unfold Deed.t
      rw [if_pos hs]
      have := d.f12
      omega
    exact (rtake_arg W R gv T h _ 3 kc (d.env salt body) hsl (.inr hdst)).mono fun r w' hp => ⟨hp.1, low w' hp.2⟩
  · have hs' : d.astray = false := by simpa using hs
    have hdst : (d.env salt body).dst = 0 := by
      show (d.t : Int) = 0
      unfold Deed.t
      rw [if_neg hs]; rfl
    cases hg : d.good salt
    · have hc : d.code salt (T d.f) = 8 := by unfold Deed.code; rw [if_neg hs, if_pos hg]
      have hn : d.next salt T = T := by unfold Deed.next; rw [hc]; rfl
      have ho : d.out salt (T d.f) = zerL := by unfold Deed.out; rw [hc]; rfl
      rw [hc, hn, ho]
      rw [hg] at HO
      exact (rtake_fail W R gv T h _ kc (d.env salt body) hsl hdst zerL zerL_len zerL_ones 8 (by decide) HO).mono fun r w' hp => ⟨hp.1, low w' hp.2⟩
    · rw [hg] at HO
      have hng : ¬ d.good salt = false := by rw [hg]; decide
      have HO0 : ∀ w0, Below W.heap.size W w0 → Calls Tryz.prog 27 #[.slice (some ⟨kb, ko, none⟩) 3 kc, .agg (d.env salt body).row] w0 fun e W' => e = .returned (.tuple #[.agg (ackL d.f d.t d.mtg).toArray, .int .i64 0]) ∧ Below w0.heap.size w0 W' := HO
      by_cases hm : (d.seq : Int) ∈ T d.f
      · have hc : d.code salt (T d.f) = 9 := by unfold Deed.code; rw [if_neg hs, if_neg hng, if_pos hm]
        have hn : d.next salt T = T := by unfold Deed.next; rw [hc]; rfl
        have ho : d.out salt (T d.f) = zerL := by unfold Deed.out; rw [hc]; rfl
        rw [hc, hn, ho]
        rcases d.f12 with e | e
        · rw [e] at hm
          exact (rtake_old1 W R gv T h (hlen 1) _ kc (d.env salt body) hsl hdst (ackL d.f d.t d.mtg) (ackL_len _ _ _) (ackL_ones _ _ _) (by show (d.f : Int) = 1; omega) _ hsq hq hm HO0).mono fun r w' hp => ⟨hp.1, low w' hp.2⟩
        · rw [e] at hm
          exact (rtake_old2 W R gv T h (hlen 2) _ kc (d.env salt body) hsl hdst (ackL d.f d.t d.mtg) (ackL_len _ _ _) (ackL_ones _ _ _) (by show (d.f : Int) = 2; omega) _ hsq hq hm HO0).mono fun r w' hp => ⟨hp.1, low w' hp.2⟩
      · by_cases hbg : mostL (T d.f) + 1024 < (d.seq : Int)
        · have hc : d.code salt (T d.f) = 2 := by unfold Deed.code; rw [if_neg hs, if_neg hng, if_neg hm, if_pos hbg]
          have hn : d.next salt T = T := by unfold Deed.next; rw [hc]; rfl
          have ho : d.out salt (T d.f) = zerL := by unfold Deed.out; rw [hc]; rfl
          rw [hc, hn, ho]
          rcases d.f12 with e | e
          · rw [e] at hm hbg
            exact (rtake_big1 W R gv T h (hlen 1) _ kc (d.env salt body) hsl hdst (ackL d.f d.t d.mtg) (ackL_len _ _ _) (ackL_ones _ _ _) (by show (d.f : Int) = 1; omega) _ hsq hq hm hbg HO0).mono fun r w' hp => ⟨hp.1, low w' hp.2⟩
          · rw [e] at hm hbg
            exact (rtake_big2 W R gv T h (hlen 2) _ kc (d.env salt body) hsl hdst (ackL d.f d.t d.mtg) (ackL_len _ _ _) (ackL_ones _ _ _) (by show (d.f : Int) = 2; omega) _ hsq hq hm hbg HO0).mono fun r w' hp => ⟨hp.1, low w' hp.2⟩
        · have hc : d.code salt (T d.f) = 0 := by unfold Deed.code; rw [if_neg hs, if_neg hng, if_neg hm, if_neg hbg]
          have hn : d.next salt T = fun i => if i = d.f then T d.f ++ [(d.seq : Int)] else T i := by unfold Deed.next; rw [if_pos hc]
          have ho : d.out salt (T d.f) = ackL d.f d.t d.mtg := by unfold Deed.out; rw [if_pos hc]
          rw [hc, hn, ho]
          have hbg' : (d.seq : Int) ≤ mostL (T d.f) + 1024 := by omega
          rcases d.f12 with e | e
          · rw [e] at hm hbg' ⊢
            exact rtake_ok1 W R gv T h (hlen 1) _ kc (d.env salt body) hsl hdst (ackL 1 d.t d.mtg) (ackL_len _ _ _) (ackL_ones _ _ _) (by show (d.f : Int) = 1; omega) _ hsq hq hm hbg' (hmm 1) (by rw [← e]; exact HO0)
          · rw [e] at hm hbg' ⊢
            exact rtake_ok2 W R gv T h (hlen 2) _ kc (d.env salt body) hsl hdst (ackL 2 d.t d.mtg) (ackL_len _ _ _) (ackL_ones _ _ _) (by show (d.f : Int) = 2; omega) _ hsq hq hm hbg' (hmm 2) (by rw [← e]; exact HO0)
end
end Go.Proofs.YtmjblpkbfoipfaaGreatDoor
