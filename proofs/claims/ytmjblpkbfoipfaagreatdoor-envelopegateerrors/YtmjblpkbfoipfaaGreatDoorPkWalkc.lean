/-
  Deeds that are neither forged nor astray nor far; two gates.
-/
import Derived.Test.YtmjblpkbfoipfaaGreatDoorPkGw
set_option linter.unusedSectionVars false
set_option linter.constructorNameAsVariable false
set_option linter.unusedVariables false
set_option linter.unusedSimpArgs false
namespace Go.Proofs.YtmjblpkbfoipfaaGreatDoor
open Go.RowKit Go.CE.V
set_option maxRecDepth 20000
def Deed.strip (d : Deed) : Deed := ⟨d.dF, d.dS, 0, false, false⟩
theorem Deed.strip_ok {d : Deed} (h : d.Ok) : d.strip.Ok := ⟨h.f, h.s, by show 0 < 65536; omega⟩
theorem Deed.strip_seq (d : Deed) : 1 ≤ d.strip.seq ∧ d.strip.seq ≤ 20 := by unfold Deed.seq Deed.strip; dsimp only; omega
theorem Deed.strip_code (salt : Nat) (L : List Int) (d : Deed) : d.strip.code salt L = if (d.strip.seq : Int) ∈ L then 9 else 0 := by
  have h1 := d.strip_seq
  have h2 := mostL_nonneg L
  have hg : d.strip.good salt = true := d.strip.good_own salt rfl
  unfold Deed.code
  rw [if_neg (show ¬ d.strip.astray = true from Bool.false_ne_true), if_neg (by rw [hg]; decide)]
  split
  · rfl
  · rw [if_neg (by omega)]
structure Took (T : Nat → List Int) (f : Nat → Deed) (i : Nat) : Prop where
  mem : ∀ j x, x ∈ T j ↔ ∃ m, m < i ∧ (f m).f = j ∧ ((f m).seq : Int) = x
  nd : ∀ j, (T j).Nodup
theorem Took.zero (f : Nat → Deed) : Took (fun _ => []) f 0 := ⟨fun j x => ⟨(fun h => by cases h), fun ⟨m, h, _⟩ => absurd h (Nat.not_lt_zero m)⟩, fun _ => List.nodup_nil⟩
theorem next_mem {salt : Nat} {T : Nat → List Int} {d : Deed} (hs : d = d.strip) (j : Nat) (x : Int) : x ∈ d.next salt T j ↔ x ∈ T j ∨ (d.f = j ∧ (d.seq : Int) = x) := by
  have hc := Deed.strip_code salt (T d.f) d
  rw [← hs] at hc
  unfold Deed.next
  rw [hc]
  by_cases hm : (d.seq : Int) ∈ T d.f
  · rw [if_pos hm, if_neg (by decide)]
    constructor
    · exact .inl
    · rintro (h | ⟨rfl, rfl⟩)
      · exact h
      · exact hm
  · rw [if_neg hm, if_pos rfl]
    by_cases e : j = d.f
    · subst e
      rw [if_pos rfl, List.mem_append, List.mem_singleton]
      constructor
      · rintro (h | h)
        · exact .inl h
        · exact .inr ⟨rfl, h.symm⟩
      · rintro (h | h)
        · exact .inl h
        · exact .inr h.2.symm
    · rw [if_neg e]
      constructor
      · exact .inl
      · rintro (h | h)
        · exact h
        · exact absurd h.1.symm e
theorem next_nd {salt : Nat} {T : Nat → List Int} {d : Deed} (hs : d = d.strip) (h : ∀ j, (T j).Nodup) (j : Nat) : (d.next salt T j).Nodup := by
  have hc := Deed.strip_code salt (T d.f) d
  rw [← hs] at hc
  unfold Deed.next
  rw [hc]
  by_cases hm : (d.seq : Int) ∈ T d.f
  · rw [if_pos hm, if_neg (by decide)]; exact h j
  · rw [if_neg hm, if_pos rfl]
    split
    · rw [List.nodup_append]
      refine ⟨h d.f, by simp, fun a ha b hb => ?_⟩
      rw [List.mem_singleton] at hb
      subst hb
      exact fun e => hm (e ▸ ha)
    · exact h j
theorem Took.next {salt : Nat} {T : Nat → List Int} {f : Nat → Deed} {i : Nat} (h : Took T f i) (hs : f i = (f i).strip) : Took ((f i).next salt T) f (i + 1) := by
  refine ⟨fun j x => ?_, next_nd hs h.nd⟩
  rw [next_mem hs, h.mem]
  constructor
  · rintro (⟨m, h1, h2⟩ | h2)
    · exact ⟨m, by omega, h2⟩
    · exact ⟨i, by omega, h2⟩
  · rintro ⟨m, h1, h2⟩
    rcases Nat.lt_succ_iff_lt_or_eq.1 h1 with q | rfl
    · exact .inl ⟨m, q, h2⟩
    · exact .inr h2
theorem next_again {salt : Nat} {T : Nat → List Int} {d : Deed} (hs : d = d.strip) : d.code salt (d.next salt T d.f) = 9 ∧ d.next salt (d.next salt T) = d.next salt T := by
  have hm : (d.seq : Int) ∈ d.next salt T d.f := (next_mem hs _ _).2 (.inr ⟨rfl, rfl⟩)
  have hc := Deed.strip_code salt (d.next salt T d.f) d
  rw [← hs, if_pos hm] at hc
  refine ⟨hc, ?_⟩
  have : ∀ T', d.code salt (T' d.f) = 9 → d.next salt T' = T' := fun T' q => by unfold Deed.next; rw [q]; rfl
  exact this _ hc
def cnt (T : Nat → List Int) : Nat := (T 1).length + (T 2).length
theorem next_cnt {salt : Nat} {T : Nat → List Int} {d : Deed} : cnt (d.next salt T) = cnt T + if d.code salt (T d.f) = 0 then 1 else 0 := by
  unfold Deed.next
  split
  · unfold cnt
    rcases d.f12 with e | e <;> rw [e] <;> simp <;> omega
  · rfl
theorem took_cnt {T : Nat → List Int} {f : Nat → Deed} {i : Nat} (h : Took T f i) (h1 : ∀ j x, x ∈ T j → 1 ≤ x) : (cnt T : Int) = mostL (T 1) - ((missN (T 1) (mostL (T 1)).toNat).length : Int) + mostL (T 2) - ((missN (T 2) (mostL (T 2)).toNat).length : Int) := by
  have a1 := taken_count (T 1) (h.nd 1) (h1 1)
  have a2 := taken_count (T 2) (h.nd 2) (h1 2)
  unfold cnt
  omega
theorem took_same {T U : Nat → List Int} {f g : Nat → Deed} {n : Nat} (hT : Took T f n) (hU : Took U g n) (h1 : ∀ m, m < n → ∃ k, k < n ∧ g k = f m) (h2 : ∀ m, m < n → ∃ k, k < n ∧ f k = g m) (j : Nat) (x : Int) : x ∈ T j ↔ x ∈ U j := by
  rw [hT.mem, hU.mem]
  constructor
  · rintro ⟨m, q, q2⟩
    obtain ⟨k, q3, q4⟩ := h1 m q
    exact ⟨k, q3, by rw [q4]; exact q2⟩
  · rintro ⟨m, q, q2⟩
    obtain ⟨k, q3, q4⟩ := h2 m q
    exact ⟨k, q3, by rw [q4]; exact q2⟩
theorem same_grt {T U : Nat → List Int} (h : ∀ j x, x ∈ T j ↔ x ∈ U j) (x : Int) : grt T x = grt U x := by
  unfold grt
  rw [mostL_eq (h x.toNat)]
theorem same_msn {T U : Nat → List Int} (h : ∀ j x, x ∈ T j ↔ x ∈ U j) (x : Int) : msn T x = msn U x := by
  unfold msn
  rw [mostL_eq (h x.toNat), missN_eq (h x.toNat)]
def GB.list (G : GB) : List Nat := [G.g, G.s, G.r 0, G.r 1, G.r 2, G.m 0, G.m 1, G.m 2]
theorem GB.in_r (G : GB) {F : Nat} (hF : F < 3) : G.r F ∈ G.list ∧ G.m F ∈ G.list := by
  unfold GB.list
  rcases (show F = 0 ∨ F = 1 ∨ F = 2 by omega) with rfl | rfl | rfl <;> simp
theorem GateP.lt {W : World} {G : GB} {gv : Value} {T : Nat → List Int} {N : Nat} (h : GateP W G gv T N) : ∀ b, b ∈ G.list → b < W.heap.size := by
  intro b hb
  unfold GB.list at hb
  have hm : ∀ i, i < 3 → G.m i < W.heap.size := fun i hi => by
    obtain ⟨D, hD, _⟩ := h.m i hi
    exact hD.lt
  have hr : ∀ i, i < 3 → G.r i < W.heap.size := fun i hi => row_lt (h.r i hi)
  simp only [List.mem_cons, List.not_mem_nil, or_false] at hb
  rcases hb with rfl | rfl | rfl | rfl | rfl | rfl | rfl | rfl
  · obtain ⟨c, q⟩ := h.g; exact row_lt q
  · obtain ⟨c, q, _⟩ := h.s; exact row_lt q
  · exact hr 0 (by omega)
  · exact hr 1 (by omega)
  · exact hr 2 (by omega)
  · exact hm 0 (by omega)
  · exact hm 1 (by omega)
  · exact hm 2 (by omega)
theorem GInv.keep {W w w' : World} {salt : Nat} {kv : Value} {A B : GB} {gv ga : Value} {T TA : Nat → List Int} {k N : Nat} {F : Nat} (h : GInv W w salt kv B gv T k) (hF : F < 3) (hA : GateP w A ga TA N) (hfar : ∀ b, b ∈ A.list → W.heap.size ≤ b) (hdis : ∀ b, b ∈ A.list → b ∉ B.list)
    (hX : BelX w.heap.size (fun b => b = A.r F ∨ b = A.m F) w w') : GInv W w' salt kv B gv T k := by
  have ho := off_rec hA hF
  obtain ⟨i1, i2⟩ := A.in_r hF
  have f1 := hfar _ i1
  have f2 := hfar _ i2
  exact {
    tab := h.tab.belX hX ho
    keys := h.keys.belX hX ho
    gate := by
      obtain ⟨N', q, hg⟩ := h.gate
      refine ⟨N', q, hg.below hX fun b hb q => ?_⟩
      rcases q with rfl | rfl
      · exact hdis _ i1 hb
      · exact hdis _ i2 hb
    far := h.far
    bel := ⟨hX.os.trans h.bel.os, hX.tape.trans h.bel.tape, hX.output.trans h.bel.output, Nat.le_trans h.bel.size hX.size, fun i hi => (hX.block i (Nat.lt_of_lt_of_le hi h.bel.size) (by omega)).trans (h.bel.block i hi)⟩
    len := h.len
    el := h.el }
section
variable {W w : World} {salt k : Nat} {kv gv body : Value} {G : GB} {T : Nat → List Int}
theorem arr_strip (d : Deed) (hd : d.strip.Ok) (hI : GInv W w salt kv G gv T k) : Calls Tryz.prog 10 #[kv, .agg #[.int .u8 d.dF, .int .u8 d.dS, .int .u16 0, .bool false, .bool false]] w fun e w' => ∃ body, e = .returned (.agg (Env.row (d.strip.env salt body))) ∧ Sl w.heap.size w' body 5 d.strip.body ∧ Below w.heap.size w w' :=
  arrival_deed salt hd hI.tab (hI.keys.lower (Nat.zero_le _))
theorem take_any {d : Deed} (hd : d.Ok) (hI : GInv W w salt kv G gv T k) (hk : k ≤ 900) (hb : Sl 0 w body 5 d.body) {c : Int} {LA : Array Value} (hc : ((d.code salt (T d.f) : Nat) : Int) = c) (hLA : (d.out salt (T d.f)).toArray = LA) :
    Calls Tryz.prog 11 #[gv, kv, .agg (Env.row (d.env salt body))] w fun r w' => r = .returned (.tuple #[.agg LA, .int .i64 c]) ∧ GInv W w' salt kv G gv (d.next salt T) (k + 1) ∧ (∃ N, GateP w G gv T N) ∧ BelX w.heap.size (fun b => b = G.r d.f ∨ b = G.m d.f) w w' := by
  obtain ⟨N, hN, hg⟩ := hI.gate
  refine (take_deed hd hg hI.tab (hI.keys.lower (Nat.zero_le _)) hb (by omega) (fun i => by have := hI.most i; omega)).mono fun r w' hp => ?_
  obtain ⟨rfl, ⟨N', hN', hg'⟩, hX⟩ := hp
  subst hc
  subst hLA
  exact ⟨rfl, hI.take hd hg ⟨N', by omega, hg'⟩ hX, ⟨N, hg⟩, hX⟩
end
theorem BelX.cells {w w' : World} {G : GB} {gv : Value} {T : Nat → List Int} {d : Deed} {b : Nat} {c : Array Value} {t : TypeId} {fr : Nat × Nat} (hX : BelX w.heap.size (fun b => b = G.r d.f ∨ b = G.m d.f) w w') (hg : ∃ N, GateP w G gv T N) (h : obj w b = some (.cells c t fr)) (ht : t ≠ 75 ∧ t ≠ 3 ∧ t ≠ 50) : obj w' b = some (.cells c t fr) := by
  obtain ⟨N, hg⟩ := hg
  exact belX_cells h hX (off_rec hg (by have := d.f12; omega)) ht
theorem BelX.other {W w w' : World} {salt : Nat} {kv : Value} {A B : GB} {gv ga : Value} {T TA : Nat → List Int} {k : Nat} {d : Deed} (hX : BelX w.heap.size (fun b => b = A.r d.f ∨ b = A.m d.f) w w') (hA : ∃ N, GateP w A ga TA N) (h : GInv W w salt kv B gv T k) (hfar : ∀ b, b ∈ A.list → W.heap.size ≤ b) (hdis : ∀ b, b ∈ A.list → b ∉ B.list) : GInv W w' salt kv B gv T k := by
  obtain ⟨N, hg⟩ := hA
  exact h.keep (by have := d.f12; omega) hg hfar hdis hX
end Go.Proofs.YtmjblpkbfoipfaaGreatDoor
