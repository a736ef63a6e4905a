/-
  The walk of the iterator of digest.blocks.
-/
import Derived.Test.YtmjblpkbfoipfaaGreatDoorPkByte
import Derived.RangeFuncNested
import Derived.RangeFuncBound
import Derived.RangeFuncCalls
import Derived.RangeFuncLeaves
import Derived.Shelf.Abstract
import Derived.Shelf.RegionOpen
import Derived.OwnWalkIn
import Derived.TacticsInMore
import Derived.LoopNIn
import Derived.LoopIn
import Derived.Test.YtmjblpkbfoipfaaGreatDoorPkLaw
set_option linter.unusedSectionVars false
set_option linter.constructorNameAsVariable false
set_option linter.unusedVariables false
set_option linter.unusedSimpArgs false
namespace Go.Proofs.YtmjblpkbfoipfaaGreatDoor
open Go.RowKit Go.Shelf
attribute [local go_sem] Oper.semAt_some
def PartsAt (W : World) (v : Value) (ls : List (List UInt8)) : Prop := ∃ pb po c, v = .slice (some ⟨pb, po, none⟩) ls.length c ∧ pb < W.heap.size ∧
  ∀ k (h : k < ls.length), ∃ ao n c', W.cell? ⟨pb, po + k, none⟩ = some (.slice ao n c') ∧ n = (ls[k]).length ∧ (ao = none → n = 0 ∧ c' = 0) ∧
    ∀ ad, ao = some ad → ad.block < W.heap.size ∧ ∀ j u, (bCells (ls[k]))[j]? = some u → W.cell? (ad.add j) = some u
def padZ (n : Nat) : Nat := (119 - n % 64) % 64
theorem padZ_le (n : Nat) : padZ n ≤ 63 := by unfold padZ; omega
theorem padZ_ne (n z : Nat) (h : z < padZ n) : ((n : Int) + 1 + (z : Int)) % 64 ≠ 56 := by unfold padZ at h; omega
theorem padZ_is (n : Nat) : ((n : Int) + 1 + (padZ n : Int)) % 64 = 56 := by unfold padZ; omega
theorem padZ_mod (n : Nat) : (n + 1 + padZ n + 8) % 64 = 0 := by unfold padZ; omega
def be8 (n : Nat) : List UInt8 := (List.range 8).map fun i => UInt8.ofNat (n >>> (56 - 8 * i))
def padS (m : List UInt8) : List UInt8 := m ++ [128] ++ List.replicate (padZ m.length) 0 ++ be8 (8 * m.length)
def blkS (p : List UInt8) (i : Nat) : List UInt8 := (p.drop (64 * i)).take 64
def blksS (p : List UInt8) (k : Nat) : List (List UInt8) := (List.range k).map (blkS p)
theorem wpListIn_append_b {F : Fence} {n : Nat} {w : World} {ops : Array Oper} {rest : List Oper} {o : Oper} {a : Act} {Q : Exit → Act → World → Prop} (hgd : o.guard = none) (s x : Operand)
    (ho : o.op = .call { callee := .builtin .append, args := #[s, x], argTypes := #[32, 32] })
    (base k : Nat) (v : Value) (xs : List Value) (hs : a.eval s = v) (hown : w.ownsRow base 5 1 v k xs)
    (ao : Option Addr) (m c : Nat) (news : List Value) (hx : a.eval x = .slice ao m c) (hl : news.length = m) (hnone : ao = none → m = 0 ∧ c = 0) (hnews : ∀ ad, ao = some ad → ∀ j u, news[j]? = some u → w.cell? (ad.add j) = some u) (h1 : ∀ u ∈ news, u.oneCell' = true)
    (h63 : k + m ≤ 100000000000000) (hb : base ≤ w.heap.size)
    (h : ∀ v' w', w'.ownsRow base 5 1 v' (k + m) (xs ++ news) → w.grownBy w' v.ownBlock → wpListIn F n Tryz.prog ops Q rest (a.put o.dst v') w') : wpListIn F n Tryz.prog ops Q (o :: rest) a w := by
  obtain ⟨i0, hi, hz0, hz1, hz2⟩ := info_u8
  cases ao with
  | some ad => exact wpListIn_append_own w hgd s x _ ho base _ i0 _ 1 1 Tryz.underlying32 hi hz0 hz1 hz2 rfl (by decide) v k xs hs hown ad m c news hx (by omega) (hnews ad rfl) h1 (by unfold maxLen; omega) (by omega) hb fun v' w' q1 q2 _ => h v' w' q1 q2
  | none =>
    obtain ⟨rfl, rfl⟩ := hnone rfl
    have hnews : news = [] := List.eq_nil_of_length_eq_zero hl
    subst hnews
    refine wpListIn_plain hgd fun K hK' => ?_
    have hrun := run_append_owned_none (P := Tryz.prog) w base 32 o.type 5 i0 1 Tryz.underlying32 hi v k xs hown
    unfold Oper.wpIn
    refine ⟨?_, ?_⟩
    · simp [Oper.about, ho, resolve, Target.leads, Sem.run_pure]
    · rw [Oper.semAt_plain F _ _ (by rw [ho]; intro c hc'; cases hc')]
      simp [execOp, ho, resolve, invoke, builtin, hs, hx, hrun, Result.andThen]
      exact hK' _ _ (by simpa using h v w (by simpa using hown) (World.grownBy.refl _ _))
theorem owns_up {W w w' : World} {v : Value} {k : Nat} {xs : List Value} (hB : Below W.heap.size W w) (hown : w.ownsRow W.heap.size 5 1 v k xs) (hg : w.grownBy w' v.ownBlock) : Below W.heap.size W w' := hB.grown hg hB.size fun g hk => by
  rcases hown.2 with ⟨rfl, _⟩ | ⟨g', c, cur, rfl, h1, _⟩
  · cases hk
  · cases hk; exact h1
theorem owns_down {W w w' : World} {v : Value} {k : Nat} {xs : List Value} (hB : W.heap.size ≤ w.heap.size) (hown : w.ownsRow W.heap.size 5 1 v k xs) (hg : w.grownBy w' v.ownBlock) : Below W.heap.size w w' := ⟨hg.os, hg.tape, hg.output, hg.size, fun i hi => by
  refine hg.block i (by omega) fun e => ?_
  rcases hown.2 with ⟨rfl, _⟩ | ⟨g', c, cur, rfl, h1, _⟩
  · cases e
  · have : i = g' := Option.some.inj e
    omega⟩
theorem one_news (W : World) (x : Value) (T : TypeId) : ∀ ad, some (⟨W.heap.size, 0, none⟩ : Addr) = some ad → ∀ j u, [x][j]? = some u → (W.alloc (.cells #[x] T (0, 0))).cell? (ad.add j) = some u := fun ad had j u hu => by
  cases had
  have hj : j = 0 := by
    have := (List.getElem?_eq_some_iff.1 hu).1
    simpa using this
  subst hj
  rw [Addr.add_lit, cell_of_row _ _ _ #[x] T (0, 0) (heap_alloc_new W _)]
  simpa using hu
def lenV : Value → Nat
  | .slice _ n _ => n
  | _ => 0
@[simp] theorem lenV_slice (a : Option Addr) (n c : Nat) : lenV (.slice a n c) = n := rfl
def msgZ (M : List UInt8) (z : Nat) : List UInt8 := M ++ [128] ++ List.replicate z 0
theorem msgZ_zero (M : List UInt8) : bCells M ++ [B8 128] = bCells (msgZ M 0) := by unfold msgZ; rw [List.replicate_zero, List.append_nil, bCells_append]; unfold bCells; rfl
theorem msgZ_next (M : List UInt8) (z : Nat) : bCells (msgZ M z) ++ [B8 0] = bCells (msgZ M (z + 1)) := by
  have h : msgZ M (z + 1) = msgZ M z ++ [0] := by unfold msgZ; rw [List.replicate_succ']; simp only [List.append_assoc]
  rw [h, bCells_append]; unfold bCells; rfl
def beK (N i : Nat) : List UInt8 := (be8 N).take i
theorem be8_length (N : Nat) : (be8 N).length = 8 := by simp [be8]
theorem beK_next (N i : Nat) (h : i < 8) : beK N i ++ [UInt8.ofNat (N >>> (56 - 8 * i))] = beK N (i + 1) := by
  unfold beK
  rw [List.take_succ_eq_append_getElem (by rw [be8_length]; exact h)]
  congr 2
  simp [be8]
theorem be_val (N i : Nat) (h : i < 8) : (N : Int) / 2 ^ (56 - 8 * i) % 256 = (((UInt8.ofNat (N >>> (56 - 8 * i))).toNat : Nat) : Int) := by
  have h1 : ((N : Int) / 2 ^ (56 - 8 * i)) = ((N >>> (56 - 8 * i) : Nat) : Int) := by rw [Nat.shiftRight_eq_div_pow]; simp
  rw [h1]; simp
def msgB (M : List UInt8) (i : Nat) : List UInt8 := msgZ M (padZ M.length) ++ beK (8 * M.length) i
theorem msgB_zero (M : List UInt8) : msgB M 0 = msgZ M (padZ M.length) := by unfold msgB beK; simp
theorem msgB_next (M : List UInt8) (i : Nat) (h : i < 8) : bCells (msgB M i) ++ [B8 (UInt8.ofNat ((8 * M.length) >>> (56 - 8 * i))).toNat] = bCells (msgB M (i + 1)) := by
  unfold msgB
  rw [← beK_next _ i h, ← List.append_assoc, bCells_append (_ ++ _)]
  congr 1
  unfold bCells; rfl
theorem msgB_all (M : List UInt8) : msgB M 8 = padS M := by unfold msgB beK padS msgZ; rw [List.take_of_length_le (by rw [be8_length]; omega)]
theorem padS_length (M : List UInt8) : (padS M).length = M.length + 1 + padZ M.length + 8 := by unfold padS; simp [be8_length]; omega
theorem padS_mod (M : List UInt8) : (padS M).length % 64 = 0 := by rw [padS_length]; exact padZ_mod _
attribute [irreducible] msgZ msgB padS padZ
theorem blksS_next (p : List UInt8) (q : Nat) : blksS p q ++ [blkS p q] = blksS p (q + 1) := by unfold blksS; rw [List.range_succ, List.map_append]; rfl
theorem blksS_part (p : List UInt8) (q T : Nat) (h : q < T) : ∃ suf, blksS p T = blksS p q ++ blkS p q :: suf := by
  refine ⟨((List.range T).drop (q + 1)).map (blkS p), ?_⟩
  have e : List.range T = List.range q ++ q :: (List.range T).drop (q + 1) := by
    have h1 : List.range T = (List.range T).take q ++ (List.range T).drop q := (List.take_append_drop q _).symm
    have h2 : (List.range T).drop q = q :: (List.range T).drop (q + 1) := by
      rw [List.drop_eq_getElem_cons (by simpa using h)]; simp
    rw [h2] at h1
    rw [show (List.range T).take q = List.range q by rw [List.take_range]; congr 1; omega] at h1
    exact h1
  unfold blksS
  conv => lhs; rw [e]
  rw [List.map_append, List.map_cons]
theorem blkS_get (p : List UInt8) (q j : Nat) (h : j < 64) : (blkS p q).getD j 0 = p.getD (64 * q + j) 0 := by
  unfold blkS
  rw [List.getD_eq_getElem?_getD, List.getD_eq_getElem?_getD, List.getElem?_take, if_pos h, List.getElem?_drop]
theorem owns_row {W : World} {base : Nat} {g n cap : Nat} {p : List UInt8} (h : W.ownsRow base 5 1 (.slice (some ⟨g, 0, none⟩) n cap) n (bCells p)) : base ≤ g ∧ n ≤ cap ∧ ∃ cur T fr, W.heap[g]? = some (.cells cur T fr) ∧ ∀ j, j < p.length → cur[j]? = some (B8 (p.getD j 0).toNat) := by
  rcases h.2 with ⟨h, _⟩ | ⟨g', c, cur, hv, h1, h2, h3, h4, h5, h6⟩
  · cases h
  · cases hv
    refine ⟨h1, h3, cur, _, _, h2, fun j hj => ?_⟩
    have hc : (bCells p)[j]? = some (B8 (p.getD j 0).toNat) := by
      unfold bCells
      rw [List.getElem?_map, List.getElem?_eq_getElem hj, List.getD_eq_getElem?_getD, List.getElem?_eq_getElem hj]
      rfl
    rw [← h6, List.getElem?_take] at hc
    split at hc
    · simpa using hc
    · cases hc
theorem owns_val {W : World} {base : Nat} {e : TypeId} {size : Nat} {v : Value} {n : Nat} {xs : List Value} (h : W.ownsRow base e size v n xs) : ∃ ao cap, v = .slice ao n cap := by
  rcases h.2 with ⟨rfl, rfl⟩ | ⟨g, c, cur, rfl, _⟩
  · exact ⟨none, 0, rfl⟩
  · exact ⟨_, c, rfl⟩
def joinK (ls : List (List UInt8)) (k : Nat) : List UInt8 := (ls.take k).flatten
theorem joinK_next (ls : List (List UInt8)) (k : Nat) (h : k < ls.length) : joinK ls k ++ ls[k] = joinK ls (k + 1) := by
  unfold joinK
  rw [List.take_succ_eq_append_getElem h, List.flatten_append]
  simp
theorem joinK_le (ls : List (List UInt8)) (k : Nat) : (joinK ls k).length ≤ ls.flatten.length := by
  unfold joinK
  have h : ls.flatten = (ls.take k).flatten ++ (ls.drop k).flatten := by rw [← List.flatten_append, List.take_append_drop]
  rw [h, List.length_append]
  omega
theorem joinK_all (ls : List (List UInt8)) : joinK ls ls.length = ls.flatten := by unfold joinK; rw [List.take_length]
attribute [irreducible] joinK
set_option maxHeartbeats 2000000 in
set_option maxRecDepth 100000 in
theorem blocks1_seq (n : Nat) (hn : 2 ≤ n) (box : Nat) (v : Value) (ls : List (List UInt8)) (hsum : ls.flatten.length ≤ 1099511627776) (hls : ls.length ≤ 1000000) (w : World) (hbox : obj w box = some (.cells #[v] 172 (0, 0))) (hp : PartsAt w v ls) :
    SeqAll n Tryz.prog 139 #[.pointer (some ⟨box, 0, none⟩)] (fun x v W => ∃ g o c, v = #[.slice (some ⟨g, o, none⟩) 64 c] ∧ g < W.heap.size ∧ w.heap.size ≤ g ∧ ∀ j, j < 64 → W.cell? ⟨g, o + j, none⟩ = some (B8 (x.getD j 0).toNat)) (fun _ => False)
      (blksS (padS ls.flatten) ((padS ls.flatten).length / 64)) w := by
  intro l R J W hW hR hJ hY h0
  obtain ⟨pb, po, pc, rfl, hpb, hparts⟩ := hp
  have hc0 : W.cell? ⟨box, 0, none⟩ = some (.slice (some ⟨pb, po, none⟩) ls.length pc) := (hW.cell (p := ⟨box, 0, none⟩) (row_lt hbox)).trans ((row_cells hbox 0).trans rfl)
  refine callsIn_of_wp Tryz.func139 rfl trivial ?_ rfl
  simp only [Tryz.ntmps139, List.size_toArray, List.length_cons, List.length_nil, Nat.reduceAdd, Nat.reduceSub, Array.replicate_succ, Array.replicate_zero, List.push_toArray, List.append_toArray, List.nil_append, List.cons_append]
  gi_wp2_with fail
  gi_loopw [3, 10] (fun m i wr => ∃ k : Nat, k ≤ ls.length ∧ i = .int .i64 k ∧ wr.ownsRow W.heap.size 5 1 m (joinK ls k).length (bCells (joinK ls k)) ∧ J [] wr ∧ Below W.heap.size W wr) (fun _ i _ => (ls.length - (intOf i).toNat))
  case atStart =>
    refine ⟨0, by omega, rfl, ?_, h0, Below.refl _ _⟩
    have e0 : joinK ls 0 = [] := by unfold joinK; rfl
    rw [e0]
    exact ⟨by unfold bCells; rfl, .inl ⟨rfl, rfl⟩⟩
  case round =>
    obtain ⟨k, hk, rfl, hown, hJ1, hB⟩ := hrel
    have hk1 : (k : Int) ≤ 1000000 := by omega
    by_cases hlt : k < ls.length
    · obtain ⟨ao, pn, c', hcell, rfl, hnone, hbytes⟩ := hparts k hlt
      have hck : wr.cell? ⟨pb, po + k, none⟩ = some (.slice ao (ls[k]).length c') := (hB.cell (p := ⟨pb, po + k, none⟩) (by have := hW.size; exact Nat.lt_of_lt_of_le hpb this)).trans ((hW.cell (p := ⟨pb, po + k, none⟩) hpb).trans hcell)
      have hnews : ∀ ad, ao = some ad → ∀ j u, (bCells (ls[k]))[j]? = some u → wr.cell? (ad.add j) = some u := fun ad had j u hu => by
        obtain ⟨h1, h2⟩ := hbytes ad had
        have hadd : (ad.add j).block = ad.block := by unfold Addr.add; split <;> rfl
        rw [hB.cell (p := ad.add j) (by rw [hadd]; exact Nat.lt_of_lt_of_le h1 hW.size), hW.cell (p := ad.add j) (by rw [hadd]; exact h1)]
        exact h2 j u hu
      have hle := joinK_le ls (k + 1)
      have HN := Lib.hid (joinK_next ls k hlt)
      have hlen : (joinK ls k).length + (ls[k]).length = (joinK ls (k + 1)).length := by rw [← HN.out, List.length_append]
      have hl1 : (joinK ls k).length + (ls[k]).length ≤ 100000000000000 := by omega
      have hsz := hB.size
      gi_wp2_with (gi_at_builtin; refine wpListIn_append_b (by rfl) _ _ (by rfl) W.heap.size (joinK ls k).length _ _ (by rfl) hown ao (ls[k]).length c' (bCells (ls[k])) (by rfl) (bCells_length _) hnone hnews (bCells_one _) hl1 hsz ?_; intro v' w3 hown3 hgrow3)
      refine ⟨⟨k + 1, by omega, by go_num, ?_, hJ _ _ _ (owns_down hsz hown hgrow3) hJ1, owns_up hB hown hgrow3⟩, ?_⟩
      · rw [hlen, ← bCells_append, HN.out] at hown3; exact hown3
      · simp [intOf]; omega
    · obtain rfl : k = ls.length := by omega
      rw [joinK_all] at hown
      have hsz := hB.size
      have hl1 : ls.flatten.length + 1 ≤ 100000000000000 := by omega
      obtain ⟨M, hM⟩ : ∃ M, ls.flatten = M := ⟨_, rfl⟩
      rw [hM] at hown hsum hl1 hY
      have HM := Lib.hid hM
      clear hM hparts hc0 hbox hls hlt
      obtain ⟨ao, cap, rfl⟩ := owns_val hown
      have hm0 : (M.length : Int) ≤ 1099511627776 := by omega
      gi_wp2_with (gi_at_builtin; refine wpListIn_append_b (by rfl) _ _ (by rfl) W.heap.size M.length _ _ (by rfl) (hown.alloc _) (some ⟨wr.heap.size, 0, none⟩) 1 1 [B8 128] (by rfl) rfl (fun h => by cases h) (one_news wr (B8 128) _) (by intro u hu; simp at hu; subst hu; rfl) hl1 (by simp; omega) ?_; intro v' w3 hown3 hgrow3)
      have hB3 : Below W.heap.size W w3 := owns_up (hB.alloc hsz _) (hown.alloc _) hgrow3
      have hJ3 : J [] w3 := hJ _ _ _ (((Below.refl _ wr).alloc hsz _).trans (owns_down (by simp; omega) (hown.alloc _) hgrow3)) hJ1
      obtain ⟨g, cap3, rfl, hg1, hg2⟩ := hown3.form (by omega)
      rw [msgZ_zero] at hown3
      clear hJ1 hB hsz hown hgrow3 hl1
      gi_loopw [3] (fun m wr => ∃ z : Nat, z ≤ padZ M.length ∧ ∃ g cap, m = .slice (some ⟨g, 0, none⟩) (M.length + 1 + z) cap ∧ wr.ownsRow W.heap.size 5 1 (.slice (some ⟨g, 0, none⟩) (M.length + 1 + z) cap) (M.length + 1 + z) (bCells (msgZ M z)) ∧ J [] wr ∧ Below W.heap.size W wr) (fun m _ => M.length + 1 + padZ M.length - lenV m)
      case atStart => exact ⟨0, Nat.zero_le _, g, cap3, rfl, hown3, hJ3, hB3⟩
      case round =>
        clear hown3 hJ3 hB3 hg1 hg2
        obtain ⟨z, hz, g, cap, rfl, hown, hJ1, hB⟩ := hrel
        have hsz := hB.size
        have hz64 : z ≤ 63 := Nat.le_trans hz (padZ_le _)
        by_cases hlt : z < padZ M.length
        · have ht := padZ_ne M.length z hlt
          have hl1 : M.length + 1 + z + 1 ≤ 100000000000000 := by omega
          gi_wp2_with (gi_at_builtin; refine wpListIn_append_b (by rfl) _ _ (by rfl) W.heap.size (M.length + 1 + z) _ _ (by rfl) (hown.alloc _) (some ⟨_, 0, none⟩) 1 1 [B8 0] (by rfl) rfl (fun h => by cases h) (one_news _ (B8 0) _) (by intro u hu; simp at hu; subst hu; rfl) hl1 (by simp; omega) ?_; intro v' w3 hown3 hgrow3)
          obtain ⟨g', cap', rfl, _, _⟩ := hown3.form (by omega)
          rw [msgZ_next] at hown3
          refine ⟨⟨z + 1, by omega, g', cap', rfl, hown3, hJ _ _ _ (((Below.refl _ wr).alloc hsz _).trans (owns_down (by simp; omega) (hown.alloc _) hgrow3)) hJ1, owns_up (hB.alloc hsz _) (hown.alloc _) hgrow3⟩, ?_⟩
          simp only [lenV_slice]; omega
        · obtain rfl : z = padZ M.length := by omega
          have ht := padZ_is M.length
          rw [← msgB_zero] at hown
          have hJZ := hJ1
          gi_wp2_with fail
          gi_loopw [3, 7] (fun m t wr => ∃ i : Nat, i ≤ 8 ∧ t = .int .i64 (56 - 8 * (i : Int)) ∧ ∃ g cap, m = .slice (some ⟨g, 0, none⟩) (M.length + 1 + padZ M.length + i) cap ∧ wr.ownsRow W.heap.size 5 1 (.slice (some ⟨g, 0, none⟩) (M.length + 1 + padZ M.length + i) cap) (M.length + 1 + padZ M.length + i) (bCells (msgB M i)) ∧ J [] wr ∧ Below W.heap.size W wr) (fun _ t _ => (intOf t + 8).toNat)
          case atStart => exact ⟨0, by omega, rfl, g, cap, rfl, hown, hJ1, hB⟩
          case round =>
            clear hown hJ1 hB hJZ hsz ht
            obtain ⟨i, hi, rfl, g, cap, rfl, hown, hJ1, hB⟩ := hrel
            have hsz := hB.size
            by_cases hlt : i < 8
            · have hv0 : 8 * (M.length : Int) / 2 ^ (56 - 8 * i) % 256 = (((UInt8.ofNat ((8 * M.length) >>> (56 - 8 * i))).toNat : Nat) : Int) := be_val (8 * M.length) i hlt
              have HV := Lib.hid hv0
              clear hv0
              have hl1 : M.length + 1 + padZ M.length + i + 1 ≤ 100000000000000 := by omega
              gi_wp2_with (gi_at_builtin; refine wpListIn_append_b (by rfl) _ _ (by rfl) W.heap.size (M.length + 1 + padZ M.length + i) _ _ (by rfl) (hown.alloc _) (some ⟨_, 0, none⟩) 1 1 [_] (by rfl) rfl (fun h => by cases h) (one_news _ _ _) (by intro u hu; simp at hu; subst hu; rfl) hl1 (by simp; omega) ?_; intro v' w3 hown3 hgrow3)
              obtain ⟨g', cap', rfl, _, _⟩ := hown3.form (by omega)
              rw [HV.out, msgB_next M i hlt] at hown3
              refine ⟨⟨i + 1, by omega, by congr 1; omega, g', cap', rfl, hown3, hJ _ _ _ (((Below.refl _ wr).alloc hsz _).trans (owns_down (by simp; omega) (hown.alloc _) hgrow3)) hJ1, owns_up (hB.alloc hsz _) (hown.alloc _) hgrow3⟩, ?_⟩
              simp [intOf]; omega
            · obtain rfl : i = 8 := by omega
              rw [msgB_all] at hown
              obtain ⟨T, hT⟩ : ∃ T, M.length + 1 + padZ M.length + 8 = 64 * T := ⟨(M.length + 1 + padZ M.length + 8) / 64, by have := padZ_mod M.length; omega⟩
              have hpl : (padS M).length = 64 * T := (padS_length M).trans hT
              have hT2 : (padS M).length / 64 = T := by omega
              obtain ⟨hbg, hcap, cur, TT, fr, hblk, hcur⟩ := owns_row hown
              rw [hT2] at hY
              rw [hT] at hown hcap ⊢
              rw [show (56 : Int) - 8 * ((8 : Nat) : Int) = -8 from rfl]
              have hTb : (T : Int) ≤ 100000000000 := by omega
              clear hown hT hlt hsz hB
              gi_wp2_with fail
              gi_loopw [3] (fun m wr => ∃ q : Nat, q ≤ T ∧ ∃ o c, m = .slice (some ⟨g, o, none⟩) (64 * (T - q)) c ∧ (q < T → o = 64 * q) ∧ 64 * (T - q) ≤ c ∧ wr.heap[g]? = some (.cells cur TT fr) ∧ J (blksS (padS M) q) wr) (fun m _ => lenV m)
              case atStart => exact ⟨0, Nat.zero_le _, 0, cap, by simp, fun _ => rfl, by omega, hblk, hJ1⟩
              case round =>
                clear hJ1 hcap hblk
                obtain ⟨q, hq, o, c, rfl, ho, hc, hblk, hJ1⟩ := hrel
                by_cases hlt : q < T
                · obtain rfl := ho hlt
                  have hgl : g < wr.heap.size := (Array.getElem?_eq_some_iff.1 hblk).1
                  obtain ⟨fn, tmps, assign, body, hy, hR2⟩ := hY (blksS (padS M) q) (blkS (padS M) q) #[.slice (some ⟨g, 64 * q, none⟩) 64 c] wr hJ1 ⟨g, 64 * q, c, rfl, hgl, Nat.le_trans hW.size hbg, fun j hj => by
                    rw [cell_of_row wr g _ cur TT fr hblk, hcur _ (by omega), blkS_get (padS M) q j hj]⟩ (blksS_part (padS M) q T hlt)
                  have h64 : (64 : Int) ≤ 64 * ((T - q : Nat) : Int) := by omega
                  have h64n : 64 ≤ 64 * (T - q) := by omega
                  have h64c : (64 : Int) ≤ (c : Int) := by omega
                  gi_wp2_with fail
                  refine ⟨fun _ => by omega, hR2.mono ?_⟩
                  rintro e W5 ⟨rfl, hJ5, hk5⟩
                  have hblk5 : W5.heap[g]? = some (.cells cur TT fr) := (hk5.2 g hgl (fun hr => by have := (hR g hr).1; omega)).trans hblk
                  by_cases hc64 : c = 64
                  · gi_wp2_with fail
                    refine ⟨⟨q + 1, by omega, 64 * q, 0, by congr 1; omega, fun h => by omega, by omega, hblk5, by rw [← blksS_next]; exact hJ5⟩, ?_⟩
                    simp only [lenV_slice]; omega
                  · gi_wp2_with fail
                    refine ⟨⟨q + 1, by omega, 64 * q + 64, c - 64, by congr 1; omega, fun _ => by omega, by omega, hblk5, by rw [← blksS_next]; exact hJ5⟩, ?_⟩
                    simp only [lenV_slice]; omega
                · obtain rfl : q = T := by omega
                  have h00 : 64 * (q - q) = 0 := by omega
                  rw [h00]
                  gi_wp2_with fail
                  go_end0
                  refine ⟨⟨_, rfl⟩, ?_⟩
                  rw [HM.out, hT2]
                  exact hJ1
end Go.Proofs.YtmjblpkbfoipfaaGreatDoor
namespace Go.Proofs.YtmjblpkbfoipfaaGreatDoor
open Go.RowKit Go.Shelf
attribute [local go_sem] Oper.semAt_some
def shaI : Sha.St := ⟨1779033703, 3144134277, 1013904242, 2773480762, 1359893119, 2600822924, 528734635, 1541459225⟩
def shaL : Array Value := #[.int .u32 1779033703, .int .u32 3144134277, .int .u32 1013904242, .int .u32 2773480762, .int .u32 1359893119, .int .u32 2600822924, .int .u32 528734635, .int .u32 1541459225]
theorem shaI_row : shaL = shaI.row := by unfold Sha.St.row shaI shaL; rfl
def shaF (s : Sha.St) (bs : List (List UInt8)) : Sha.St := bs.foldl (fun s b => Sha.comp s fun j => (b.getD j 0).toNat) s
theorem shaF_snoc (s : Sha.St) (bs : List (List UInt8)) (b : List UInt8) : shaF s (bs ++ [b]) = Sha.comp (shaF s bs) fun j => (b.getD j 0).toNat := by unfold shaF; rw [List.foldl_append]; rfl
def shaW (m : List UInt8) : Sha.St := shaF shaI (blksS (padS m) ((padS m).length / 64))
def dig32 (s : Sha.St) : List UInt8 := (List.range 32).map fun i => UInt8.ofNat (s.get (i / 4) >>> (24 - 8 * (i % 4)))
def shaB (m : List UInt8) : List UInt8 := dig32 (shaW m)
theorem dig32_length (s : Sha.St) : (dig32 s).length = 32 := by simp [dig32]
def dgK (s : Sha.St) (k : Nat) : List UInt8 := (dig32 s).take k ++ List.replicate (32 - k) 0
theorem dgK_length (s : Sha.St) (k : Nat) (hk : k ≤ 32) : (dgK s k).length = 32 := by simp [dgK, dig32_length]; omega
theorem dgK_full (s : Sha.St) : dgK s 32 = dig32 s := by simp [dgK, dig32_length, List.take_of_length_le]
theorem dgK_zero (s : Sha.St) : z34 = bRow (dgK s 0) := by
  have h : dgK s 0 = List.replicate 32 0 := by simp [dgK]
  rw [h]
  simp [bRow, List.replicate_succ, z34]
theorem dgK_set (s : Sha.St) (k : Nat) (hk : k < 32) : (dgK s k).set k (UInt8.ofNat (s.get (k / 4) >>> (24 - 8 * (k % 4)))) = dgK s (k + 1) := by
  unfold dgK
  have h2 : List.replicate (32 - k) (0 : UInt8) = 0 :: List.replicate (32 - (k + 1)) 0 := by rw [show 32 - k = (32 - (k + 1)) + 1 by omega, List.replicate_succ]
  have h3 : (dig32 s)[k]'(by rw [dig32_length]; exact hk) = UInt8.ofNat (s.get (k / 4) >>> (24 - 8 * (k % 4))) := by simp [dig32]
  rw [List.take_succ_eq_append_getElem (by rw [dig32_length]; exact hk), h3, h2, List.set_append_right _ _ (by rw [List.length_take]; omega), List.length_take, dig32_length, show k - min k 32 = 0 by (rw [Nat.min_eq_left (by omega)]; omega), List.set_cons_zero, List.append_assoc]
  rfl
theorem dg_val (N j : Nat) : (N : Int) / 2 ^ j % 256 = (((UInt8.ofNat (N >>> j)).toNat : Nat) : Int) := by
  have h1 : ((N : Int) / 2 ^ j) = ((N >>> j : Nat) : Int) := by rw [Nat.shiftRight_eq_div_pow]; simp
  rw [h1]; simp
theorem shaB_length (m : List UInt8) : (shaB m).length = 32 := by simp [shaB, dig32]
theorem shaI_ok : shaI.ok := by unfold shaI Sha.St.ok; decide
theorem comp_ok (s : Sha.St) (f : Nat → Nat) : (Sha.comp s f).ok := by
  have h : Sha.comp s f = s.add (Sha.rnds (Sha.sch f 64) s 64) := by delta Sha.comp; exact Eq.refl _
  rw [h]; exact Sha.add_ok _ _
theorem shaF_ok (s : Sha.St) (h : s.ok) : ∀ bs : List (List UInt8), (shaF s bs).ok
  | [] => h
  | b :: bs => shaF_ok _ (comp_ok _ _) bs
theorem parts_below {W W' : World} {v : Value} {ls : List (List UInt8)} (h : PartsAt W v ls) (hB : Below W.heap.size W W') : PartsAt W' v ls := by
  obtain ⟨pb, po, c, rfl, h1, h2⟩ := h
  refine ⟨pb, po, c, rfl, Nat.lt_of_lt_of_le h1 hB.size, fun k hk => ?_⟩
  obtain ⟨ao, n, c', q1, q2, q3, q4⟩ := h2 k hk
  refine ⟨ao, n, c', (hB.cell (p := ⟨pb, po + k, none⟩) h1).trans q1, q2, q3, fun ad had => ?_⟩
  obtain ⟨r1, r2⟩ := q4 ad had
  refine ⟨Nat.lt_of_lt_of_le r1 hB.size, fun j u hu => ?_⟩
  have hadd : (ad.add j).block = ad.block := by unfold Addr.add; split <;> rfl
  exact (hB.cell (p := ad.add j) (by rw [hadd]; exact r1)).trans (r2 j u hu)
set_option maxHeartbeats 2000000 in
set_option maxRecDepth 100000 in
theorem hash_calls (v : Value) (ls : List (List UInt8)) (hsum : ls.flatten.length ≤ 1099511627776) (hls : ls.length ≤ 1000000) (w : World) (hp : PartsAt w v ls) (hT : Tab w) :
    Calls Tryz.prog 81 #[v] w fun e w' => e = .returned (.agg (bRow (shaB ls.flatten))) ∧ Below w.heap.size w w' := by
  refine (callsIn_wide (n := 8)).1 ?_
  refine callsIn_of_wp_marks Tryz.func81 rfl trivial ?_
  simp only [Tryz.ntmps81, List.size_toArray, List.length_cons, List.length_nil, Nat.reduceAdd, Nat.reduceSub, Array.replicate_succ, Array.replicate_zero, List.push_toArray, List.append_toArray, List.nil_append, List.cons_append]
  obtain ⟨pb, po, pc, rfl, hpb, hparts⟩ := hp
  gi_wp2_with (refine ⟨trivial, ?_⟩; gi_at_call 113; refine (callsIn_wide.2 (blocks_calls _ _ _ _)).mono ?_; rintro e w1 ⟨rfl, rfl⟩)
  have b0 : obj (((w.alloc (.cells z34 34 (0, 0))).alloc (.cells shaL 173 (0, 0))).alloc (.cells #[.slice (some ⟨pb, po, none⟩) ls.length pc] 172 (0, 0))) w.heap.size = some (.cells z34 34 (0, 0)) := keep_alloc (keep_alloc (obj_alloc_at _ _ _ rfl) _) _
  have b1 : obj (((w.alloc (.cells z34 34 (0, 0))).alloc (.cells shaL 173 (0, 0))).alloc (.cells #[.slice (some ⟨pb, po, none⟩) ls.length pc] 172 (0, 0))) (w.heap.size + 1) = some (.cells shaL 173 (0, 0)) := keep_alloc (obj_alloc_at _ _ _ (by simp)) _
  have b2 : obj (((w.alloc (.cells z34 34 (0, 0))).alloc (.cells shaL 173 (0, 0))).alloc (.cells #[.slice (some ⟨pb, po, none⟩) ls.length pc] 172 (0, 0))) (w.heap.size + 2) = some (.cells #[.slice (some ⟨pb, po, none⟩) ls.length pc] 172 (0, 0)) := obj_alloc_at _ _ _ (by simp)
  have bB : Below w.heap.size w (((w.alloc (.cells z34 34 (0, 0))).alloc (.cells shaL 173 (0, 0))).alloc (.cells #[.slice (some ⟨pb, po, none⟩) ls.length pc] 172 (0, 0))) := (((Below.refl _ _).alloc (Nat.le_refl _) _).alloc (by simp) _).alloc (by simp; omega) _
  have bz : (((w.alloc (.cells z34 34 (0, 0))).alloc (.cells shaL 173 (0, 0))).alloc (.cells #[.slice (some ⟨pb, po, none⟩) ls.length pc] 172 (0, 0))).heap.size = w.heap.size + 3 := by simp
  change Code.wpIn _ _ _ _ _ _ (((w.alloc (.cells z34 34 (0, 0))).alloc (.cells shaL 173 (0, 0))).alloc (.cells #[.slice (some ⟨pb, po, none⟩) ls.length pc] 172 (0, 0)))
  generalize (((w.alloc (.cells z34 34 (0, 0))).alloc (.cells shaL 173 (0, 0))).alloc (.cells #[.slice (some ⟨pb, po, none⟩) ls.length pc] 172 (0, 0))) = W0 at *
  have hp0 : PartsAt W0 (.slice (some ⟨pb, po, none⟩) ls.length pc) ls := parts_below ⟨pb, po, pc, rfl, hpb, hparts⟩ bB
  refine wpIn_rangeFunc_all (n := 8) (gf := 139) (lb := #[.pointer (some ⟨w.heap.size + 2, 0, none⟩)]) rfl (enters_of Tryz.func139 (by kernel_rfl) rfl) (blocks1_seq 7 (by omega) (w.heap.size + 2) _ ls hsum hls W0 b2 hp0)
    (fun x v W hv => by obtain ⟨g, o, c, rfl, _⟩ := hv; rfl) (fun _ h => h.elim) (fun k => k = w.heap.size + 1) (fun k hk => ⟨by omega, fun h => h⟩)
    (fun pre W => obj W (w.heap.size + 1) = some (.cells (shaF shaI pre).row 173 (0, 0)) ∧ obj W w.heap.size = some (.cells z34 34 (0, 0)) ∧ Below w.heap.size w W ∧ w.heap.size + 3 ≤ W.heap.size)
    ?hI ⟨by rw [b1, shaI_row]; rfl, b0, bB, by omega⟩ ?round ?done
  case hI =>
    rintro pre A B hAB ⟨h1, h2, h3, h4⟩
    exact ⟨keep_below h1 hAB (by omega), keep_below h2 hAB (by omega), h3.trans (hAB.mono (by omega)), Nat.le_trans h4 hAB.size⟩
  case round =>
    rintro l pre x v W ⟨h1, h2, h3, h4⟩ ⟨g, o, c, rfl, hg, hg2, hx⟩ hsuf hz hl hlc
    gi_wp2_with fail
    refine ⟨trivial, fun W2 hB2 hkeep hsz => ?_⟩
    have hgl : g ≠ l := fun e => by have := hlc ⟨g, o + 0, none⟩ e; rw [hx 0 (by omega)] at this; cases this
    have k1 : obj W2 (w.heap.size + 1) = some (.cells (shaF shaI pre).row 173 (0, 0)) := keep_below h1 hB2 (by omega)
    have k2 : obj W2 w.heap.size = some (.cells z34 34 (0, 0)) := keep_below h2 hB2 (by omega)
    have k3 : Below w.heap.size w W2 := h3.trans (hB2.mono (by omega))
    have kx : ∀ j, j < 64 → W2.cell? ⟨g, o + j, none⟩ = some (B8 (x.getD j 0).toNat) := fun j hj => by
      rw [← hx j hj]; unfold World.cell?; rw [hkeep g hg hgl]
    have kT : Tab W2 := hT.below k3 (by obtain ⟨cs, T, fr, q, _⟩ := hT; exact row_lt q)
    clear hkeep hlc hx
    gi_wp2_with (refine ⟨trivial, ?_⟩; gi_at_call 114; refine (CallsIn.inRound l (callsIn_wide.2 (add_calls (w.heap.size + 1) (shaF shaI pre) (shaF_ok _ shaI_ok pre) g o c (fun j => (x.getD j 0).toNat) (fun j => by have := (x.getD j 0).toNat_lt; omega) W2 _ kT k1 kx (by omega) (by omega) (by omega)))).mono ?_; rintro e W3 ⟨rfl, q1, q2⟩; dsimp only)
    refine ⟨⟨q1.size, fun k hk hn => q1.block k hk (by intro e; cases e; exact hn rfl)⟩, by rw [shaF_snoc]; exact q2, keep_grown k2 q1 (by intro e; have := Option.some.inj e; omega), k3.grown q1 k3.size (fun g hk => by cases hk; omega), by have := q1.size; omega⟩
  case done =>
    rintro D W ⟨h1, h2, h3, h4⟩ hD hK
    have hK' := Lib.hid hK
    clear hK
    have hok : (shaW ls.flatten).ok := shaF_ok _ shaI_ok _
    have h1' : obj W (w.heap.size + 1) = some (.cells (shaW ls.flatten).row 173 (0, 0)) := h1
    have hE := Lib.hid (show shaB ls.flatten = dig32 (shaW ls.flatten) from rfl)
    clear h1
    generalize shaW ls.flatten = s at *
    gi_wp2_with fail
    have g1 : obj (W.alloc (.cells z34 34 (0, 0))) (w.heap.size + 1) = some (.cells s.row 173 (0, 0)) := keep_alloc h1' _
    have g2 : obj (W.alloc (.cells z34 34 (0, 0))) w.heap.size = some (.cells z34 34 (0, 0)) := keep_alloc h2 _
    have g3 : Below w.heap.size w (W.alloc (.cells z34 34 (0, 0))) := h3.alloc (by omega) _
    have g4 : obj (W.alloc (.cells z34 34 (0, 0))) W.heap.size = some (.cells (bRow (dgK s 0)) 34 (0, 0)) := by rw [← dgK_zero]; exact obj_alloc_at _ _ _ rfl
    have g5 : (W.alloc (.cells z34 34 (0, 0))).heap[D]? = some (.deferred (some [])) := keep_alloc (w := W) hK'.out _
    have hDW : D < W.heap.size := row_lt (w := W) hK'.out
    generalize W.alloc (.cells z34 34 (0, 0)) = W3 at *
    have hgM : W.heap.size ≠ D := by omega
    generalize W.heap.size = M at *
    clear h1' h2 h3 hK'
    gi_loopw [13] (fun i wr => ∃ k : Nat, k ≤ 32 ∧ i = .int .i64 k ∧ obj wr M = some (.cells (bRow (dgK s k)) 34 (0, 0)) ∧ obj wr (w.heap.size + 1) = some (.cells s.row 173 (0, 0)) ∧ obj wr w.heap.size = some (.cells z34 34 (0, 0)) ∧ Below w.heap.size w wr ∧ wr.heap[D]? = some (.deferred (some [])))
      (fun i _ => (32 - intOf i).toNat)
    case atStart => exact ⟨0, by omega, rfl, g4, g1, g2, g3, g5⟩
    case round =>
      clear g1 g2 g3 g4 g5
      obtain ⟨k, hk, rfl, h2, h1, h0, hB, hK⟩ := hrel
      have HK := Lib.hid hK
      clear hK
      by_cases hlt : k < 32
      · have c1 := (row_cells h1 (k / 4)).trans (St_get s (k / 4) (by omega))
        have f0 := row_free h2 k
        have c2 : wr.cell? ⟨M, k, none⟩ = some (B8 ((dgK s k).getD k 0).toNat) := (row_cells h2 k).trans (bRow_get _ _ (by rw [dgK_length _ _ hk]; exact hlt))
        have HS := Lib.hid (dgK_set s k hlt)
        have HV := Lib.hid (dg_val (s.get (k / 4)) (24 - 8 * (k % 4)))
        gi_wp2_with fail
        clear hp0 hparts b0 b1 b2 bB
        refine ⟨⟨k + 1, by omega, by go_num, ?_, keep_setCell h1 _ (by simp; omega) _, keep_setCell h0 _ (by simp; omega) _, hB.setCell (by simp; omega) _, ?_⟩, by simp [intOf]; omega⟩
        · rw [obj_setCell_at, h2, HV.out, ← HS.out, ← bRow_set]; rfl
        · exact (heap_setCell_other _ _ _ _ (by simp; omega)).trans HK.out
      · have h2' : obj wr M = some (.cells (bRow (shaB ls.flatten)) 34 (0, 0)) := by rw [h2, show k = 32 by omega, dgK_full, hE.out]
        have r1 : (bRow (shaB ls.flatten)).size = 32 := by rw [bRow_size, shaB_length]
        have r2 : (bRow (shaB ls.flatten)).extract 0 32 = bRow (shaB ls.flatten) := bRow_all _ _ (shaB_length _)
        have r3 : ones (bRow (shaB ls.flatten)) = true := bRow_ones _
        clear h2 hp0 hparts b0 b1 b2 bB hE
        generalize hR : bRow (shaB ls.flatten) = R at *
        have HR := Lib.hid hR
        clear hR
        gi_wp2_with fail
        have e0 : obj (wr.setRow w.heap.size R) w.heap.size = some (.cells R 34 (0, 0)) := by rw [obj_setRow_at, h0]; rfl
        have eD : (wr.setRow w.heap.size R).heap[D]? = some (.deferred (some [])) := (setRow_other wr w.heap.size D R (by omega)).trans HK.out
        have eB : Below w.heap.size w (wr.setRow w.heap.size R) := below_setRow hB (Nat.le_refl _) R
        generalize wr.setRow w.heap.size R = w4 at *
        refine ⟨by simp, .inl ⟨_, _, rfl, run_takeDeferred eD, ?_⟩⟩
        have hD0 : w.heap.size < D := by omega
        refine ⟨_, results_cell_row rfl _ _ w.heap.size 34 R (0, 0) _ (by rfl) ((World.putObj_heap_other (by omega)).trans e0) Tryz.underlying34 rfl (by rw [r1]; kernel_rfl), by rw [← HR.out], ⟨eB.os, eB.tape, eB.output, by simpa [World.putObj] using eB.size, fun i hi => (World.putObj_heap_other (by omega)).trans (eB.block i hi)⟩⟩
end Go.Proofs.YtmjblpkbfoipfaaGreatDoor
namespace Go.Proofs.YtmjblpkbfoipfaaGreatDoor
open Go.RowKit Go.Shelf
attribute [local go_sem] Oper.semAt_some
def HasB (W : World) (v : Value) (b : List UInt8) : Prop := ∃ ao n c', v = .slice ao n c' ∧ n = b.length ∧ (ao = none → n = 0 ∧ c' = 0) ∧
  ∀ ad, ao = some ad → ad.block < W.heap.size ∧ ∀ (j : Nat) (u : Value), (bCells b)[j]? = some u → W.cell? (ad.add j) = some u
theorem HasB.below {W W' : World} {v : Value} {b : List UInt8} (h : HasB W v b) (hB : Below W.heap.size W W') : HasB W' v b := by
  obtain ⟨ao, n, c', q1, q2, q3, q4⟩ := h
  refine ⟨ao, n, c', q1, q2, q3, fun ad had => ?_⟩
  obtain ⟨r1, r2⟩ := q4 ad had
  refine ⟨Nat.lt_of_lt_of_le r1 hB.size, fun j u hu => ?_⟩
  have hadd : (ad.add j).block = ad.block := by unfold Addr.add; split <;> rfl
  exact (hB.cell (p := ad.add j) (by rw [hadd]; exact r1)).trans (r2 j u hu)
theorem parts_of {W : World} {g : Nat} {T : TypeId} {fr : Nat × Nat} {cs : Array Value} {ls : List (List UInt8)} {c : Nat} (hrow : obj W g = some (.cells cs T fr)) (h : ∀ k (hk : k < ls.length), ∃ v, cs[k]? = some v ∧ HasB W v ls[k]) :
    PartsAt W (.slice (some ⟨g, 0, none⟩) ls.length c) ls := by
  refine ⟨g, 0, c, rfl, row_lt hrow, fun k hk => ?_⟩
  obtain ⟨v, h1, ao, n, c', rfl, h2, h3, h4⟩ := h k hk
  exact ⟨ao, n, c', by rw [Nat.zero_add]; exact (row_cells hrow k).trans h1, h2, h3, h4⟩
theorem hasB_row {W : World} {g c : Nat} {T : TypeId} {fr : Nat × Nat} {l : List UInt8} {n : Nat} (hn : n = l.length) (hrow : obj W g = some (.cells (bRow l) T fr)) : HasB W (.slice (some ⟨g, 0, none⟩) n c) l :=
  ⟨some ⟨g, 0, none⟩, n, c, rfl, hn, (fun h => by cases h), (fun ad had => by cases had; exact ⟨row_lt hrow, news_bRow hrow⟩)⟩
theorem parts_two {W : World} {g : Nat} {T : TypeId} {fr : Nat × Nat} {s t : Value} {a b : List UInt8} {c : Nat} (hrow : obj W g = some (.cells #[s, t] T fr)) (h1 : HasB W s a) (h2 : HasB W t b) : PartsAt W (.slice (some ⟨g, 0, none⟩) 2 c) [a, b] :=
  parts_of (ls := [a, b]) hrow fun k hk => by
    match k, hk with
    | 0, _ => exact ⟨s, rfl, h1⟩
    | 1, _ => exact ⟨t, rfl, h2⟩
def kpad (key : List UInt8) : List UInt8 := key ++ List.replicate 32 0
def xorK (m : UInt8) (key : List UInt8) (k : Nat) : List UInt8 := ((kpad key).take k).map (· ^^^ m) ++ (kpad key).drop k
def keyB (key b : List UInt8) : List UInt8 := shaB ((kpad key).map (· ^^^ 0x5c) ++ shaB ((kpad key).map (· ^^^ 0x36) ++ b))
theorem kpad_length (key : List UInt8) (h : key.length = 32) : (kpad key).length = 64 := by simp [kpad, h]
theorem xorK_length (m : UInt8) (key : List UInt8) (k : Nat) (h : key.length = 32) (hk : k ≤ 64) : (xorK m key k).length = 64 := by simp [xorK, kpad_length key h]; omega
theorem xorK_zero (m : UInt8) (key : List UInt8) : xorK m key 0 = kpad key := by simp [xorK]
theorem xorK_full (m : UInt8) (key : List UInt8) (h : key.length = 32) : xorK m key 64 = (kpad key).map (· ^^^ m) := by
  have h1 := kpad_length key h
  simp [xorK, List.take_of_length_le (Nat.le_of_eq h1), List.drop_of_length_le (Nat.le_of_eq h1)]
theorem xorK_get (m : UInt8) (key : List UInt8) (k : Nat) (h : key.length = 32) (hk : k < 64) : (xorK m key k).getD k 0 = (kpad key).getD k 0 := by
  have h1 := kpad_length key h
  unfold xorK
  rw [List.getD_eq_getElem?_getD, List.getD_eq_getElem?_getD, List.getElem?_append_right (by simp; omega), List.getElem?_drop]
  simp [h1, show min k 64 = k by omega]
theorem xorK_set (m : UInt8) (key : List UInt8) (k : Nat) (h : key.length = 32) (hk : k < 64) : (xorK m key k).set k ((kpad key).getD k 0 ^^^ m) = xorK m key (k + 1) := by
  have h1 := kpad_length key h
  have hk' : k < (kpad key).length := by omega
  have h3 : (kpad key).getD k 0 = (kpad key)[k] := by rw [List.getD_eq_getElem?_getD, List.getElem?_eq_getElem hk']; rfl
  unfold xorK
  rw [h3, List.take_succ_eq_append_getElem hk', List.drop_eq_getElem_cons hk', List.set_append_right _ _ (by simp; omega), List.map_append, List.append_assoc]
  simp only [List.length_map, List.length_take, h1, show min k 64 = k by omega, Nat.sub_self, List.set_cons_zero, List.map_cons, List.map_nil, List.cons_append, List.nil_append]
theorem xor_u8 (x m : UInt8) : bits BinOp.xor .u8 ((x.toNat : Nat) : Int) ((m.toNat : Nat) : Int) = (((x ^^^ m).toNat : Nat) : Int) := by
  rw [bits_xor_u8 _ _ x.toNat_lt m.toNat_lt]; simp
theorem kpad_splice (key : List UInt8) (h : key.length = 32) : (z145.toList.take 0 ++ (bCells key ++ z145.toList.drop (0 + (bCells key).length))).toArray = bRow (kpad key) := by
  have e : z145.toList = List.replicate 32 (B8 0) ++ List.replicate 32 (B8 0) := by simp [z145, List.replicate_succ]
  unfold kpad
  rw [e, bCells_length, h, List.take_zero, List.nil_append, Nat.zero_add, List.drop_left' (by simp)]
  unfold bRow bCells
  simp
attribute [irreducible] kpad xorK
set_option maxHeartbeats 2000000 in
set_option maxRecDepth 100000 in
theorem keyed_calls (key b : List UInt8) (v : Value) (hk : key.length = 32) (hb : b.length ≤ 1000000000) (w : World) (hv : HasB w v b) (hT : Tab w) :
    Calls Tryz.prog 60 #[.agg (bRow key), v] w fun e w' => e = .returned (.agg (bRow (keyB key b))) ∧ Below w.heap.size w w' := by
  have r1 : (bRow key).size = 32 := by rw [bRow_size, hk]
  have r2 : (bRow key).extract 0 32 = bRow key := bRow_all _ _ hk
  have r3 : ones (bRow key) = true := bRow_ones _
  go_enter Tryz.func60, Tryz.ntmps60
  repeat' (first | go_skip | go_guarded | go_step | go_upon)
  have c2 : obj ((((w.alloc (.cells (bRow key) 34 (0, 0))).alloc (.cells z34 34 (0, 0))).alloc (.cells z145 145 (0, 0))).alloc (.cells z145 145 (0, 0))) w.heap.size = some (.cells (bRow key) 34 (0, 0)) := keep_alloc (keep_alloc (keep_alloc (obj_alloc_at _ _ _ rfl) _) _) _
  have c4 : obj ((((w.alloc (.cells (bRow key) 34 (0, 0))).alloc (.cells z34 34 (0, 0))).alloc (.cells z145 145 (0, 0))).alloc (.cells z145 145 (0, 0))) (w.heap.size + 1) = some (.cells z34 34 (0, 0)) := keep_alloc (keep_alloc (obj_alloc_at _ _ _ (by simp)) _) _
  have c5 : obj ((((w.alloc (.cells (bRow key) 34 (0, 0))).alloc (.cells z34 34 (0, 0))).alloc (.cells z145 145 (0, 0))).alloc (.cells z145 145 (0, 0))) (w.heap.size + 1 + 1) = some (.cells z145 145 (0, 0)) := keep_alloc (obj_alloc_at _ _ _ (by simp)) _
  have c6 : obj ((((w.alloc (.cells (bRow key) 34 (0, 0))).alloc (.cells z34 34 (0, 0))).alloc (.cells z145 145 (0, 0))).alloc (.cells z145 145 (0, 0))) (w.heap.size + 1 + 1 + 1) = some (.cells z145 145 (0, 0)) := obj_alloc_at _ _ _ (by simp)
  have cB : Below w.heap.size w ((((w.alloc (.cells (bRow key) 34 (0, 0))).alloc (.cells z34 34 (0, 0))).alloc (.cells z145 145 (0, 0))).alloc (.cells z145 145 (0, 0))) := ((((Below.refl _ _).alloc (Nat.le_refl _) _).alloc (by simp) _).alloc (by simp; omega) _).alloc (by simp; omega) _
  generalize ((((w.alloc (.cells (bRow key) 34 (0, 0))).alloc (.cells z34 34 (0, 0))).alloc (.cells z145 145 (0, 0))).alloc (.cells z145 145 (0, 0))) = w1 at *
  go_still_tail 2, (by kernel_rfl)
  change wpList _ _ _ _ _ w1.drew
  refine wpList_copy_own (by rfl) _ _ _ _ (by rfl) 5 Tryz.underlying32 (by kernel_rfl) (w.heap.size + 1 + 1) 0 _ _ ⟨w.heap.size, 0, none⟩ _ _ (by rfl) (by rfl) z145 145 c5 (bCells key) ?_ ?_ ?_ (bCells_one _) ?_
  · rw [bCells_length, hk]; rfl
  · exact news_bRow (b := w.heap.size) (keep_drew c2)
  · rw [bCells_length, hk, zs_145]; decide
  rw [kpad_splice key hk]
  have d4 := keep_setRow (keep_drew c4) (show w.heap.size + 1 ≠ w.heap.size + 1 + 1 by omega) (bRow (kpad key))
  have d6 := keep_setRow (keep_drew c6) (show w.heap.size + 1 + 1 + 1 ≠ w.heap.size + 1 + 1 by omega) (bRow (kpad key))
  have d5 : obj (w1.drew.setRow (w.heap.size + 1 + 1) (bRow (kpad key))) (w.heap.size + 1 + 1) = some (.cells (bRow (kpad key)) 145 (0, 0)) := by rw [obj_setRow_at, keep_drew c5]; rfl
  have dB : Below w.heap.size w (w1.drew.setRow (w.heap.size + 1 + 1) (bRow (kpad key))) := below_setRow cB.drew (by omega) _
  clear c2 c4 c5 c6 cB
  generalize w1.drew.setRow (w.heap.size + 1 + 1) (bRow (kpad key)) = w2 at *
  have s1 : (bRow (kpad key)).size = 64 := by rw [bRow_size, kpad_length key hk]
  have s2 : (bRow (kpad key)).extract 0 64 = bRow (kpad key) := bRow_all _ _ (kpad_length key hk)
  have s3 : ones (bRow (kpad key)) = true := bRow_ones _
  repeat' (first | go_skip | go_guarded | go_step | go_upon)
  have e4 := keep_setRow d4 (show w.heap.size + 1 ≠ w.heap.size + 1 + 1 + 1 by omega) (bRow (kpad key))
  have e5 := keep_setRow d5 (show w.heap.size + 1 + 1 ≠ w.heap.size + 1 + 1 + 1 by omega) (bRow (kpad key))
  have e6 : obj (w2.setRow (w.heap.size + 1 + 1 + 1) (bRow (kpad key))) (w.heap.size + 1 + 1 + 1) = some (.cells (bRow (kpad key)) 145 (0, 0)) := by rw [obj_setRow_at, d6]; rfl
  have eB : Below w.heap.size w (w2.setRow (w.heap.size + 1 + 1 + 1) (bRow (kpad key))) := below_setRow dB (by omega) _
  clear d4 d5 d6 dB s1 s2 s3
  generalize w2.setRow (w.heap.size + 1 + 1 + 1) (bRow (kpad key)) = w3 at *
  go_loopw [13] (fun i wr => ∃ k : Nat, k ≤ 64 ∧ i = .int .i64 k ∧ obj wr (w.heap.size + 1 + 1) = some (.cells (bRow (xorK 0x36 key k)) 145 (0, 0)) ∧ obj wr (w.heap.size + 1 + 1 + 1) = some (.cells (bRow (xorK 0x5c key k)) 145 (0, 0)) ∧ obj wr (w.heap.size + 1) = some (.cells z34 34 (0, 0)) ∧ Below w.heap.size w wr)
    (fun i _ => (64 - intOf i).toNat)
  case atStart => exact ⟨0, by omega, rfl, by rw [xorK_zero]; exact e5, by rw [xorK_zero]; exact e6, e4, eB⟩
  case round =>
    clear e4 e5 e6 eB
    obtain ⟨k, hk64, rfl, h5, h6, h4, hB⟩ := hrel
    by_cases hlt : k < 64
    · have c5 : wr.cell? ⟨w.heap.size + 1 + 1, k, none⟩ = some (B8 ((kpad key).getD k 0).toNat) := (row_cells h5 k).trans (by rw [bRow_get _ _ (by rw [xorK_length _ _ _ hk hk64]; exact hlt), xorK_get _ _ _ hk hlt])
      have c6 : wr.cell? ⟨w.heap.size + 1 + 1 + 1, k, none⟩ = some (B8 ((kpad key).getD k 0).toNat) := (row_cells h6 k).trans (by rw [bRow_get _ _ (by rw [xorK_length _ _ _ hk hk64]; exact hlt), xorK_get _ _ _ hk hlt])
      have f5 := row_free h5 k
      have f6 := row_free h6 k
      have HX := Lib.hid (show bits BinOp.xor .u8 ((((kpad key).getD k 0).toNat : Nat) : Int) 54 = ((((kpad key).getD k 0) ^^^ 54).toNat : Nat) from xor_u8 ((kpad key).getD k 0) 54)
      have HY := Lib.hid (show bits BinOp.xor .u8 ((((kpad key).getD k 0).toNat : Nat) : Int) 92 = ((((kpad key).getD k 0) ^^^ 92).toNat : Nat) from xor_u8 ((kpad key).getD k 0) 92)
      have HS := Lib.hid (xorK_set 0x36 key k hk hlt)
      have HT := Lib.hid (xorK_set 0x5c key k hk hlt)
      generalize (kpad key).getD k 0 = x at *
      repeat' (first | go_skip | go_guarded | go_step | go_upon)
      refine ⟨⟨k + 1, by omega, by go_num, ?_, ?_, ?_, ?_⟩, by simp [intOf]; omega⟩
      · refine keep_setCell ?_ _ (by simp) _
        rw [obj_setCell_at, h5, ← HS.out, ← bRow_set, HX.out]; rfl
      · have := keep_setCell h6 ⟨w.heap.size + 1 + 1, k, none⟩ (by simp) (Value.int IntKind.u8 (bits BinOp.xor IntKind.u8 (x.toNat : Int) 54))
        rw [obj_setCell_at, this, ← HT.out, ← bRow_set, HY.out]; rfl
      · exact keep_setCell (keep_setCell h4 _ (by simp) _) _ (by simp) _
      · exact (hB.setCell (by simp; omega) _).setCell (by simp; omega) _
    · obtain ⟨ip, hip⟩ : ∃ ip, ip = (kpad key).map (· ^^^ 0x36) := ⟨_, rfl⟩
      obtain ⟨op, hop⟩ : ∃ op, op = (kpad key).map (· ^^^ 0x5c) := ⟨_, rfl⟩
      have h5' : obj wr (w.heap.size + 1 + 1) = some (.cells (bRow ip) 145 (0, 0)) := by rw [h5, show k = 64 by omega, xorK_full _ _ hk, hip]
      have h6' : obj wr (w.heap.size + 1 + 1 + 1) = some (.cells (bRow op) 145 (0, 0)) := by rw [h6, show k = 64 by omega, xorK_full _ _ hk, hop]
      have li : ip.length = 64 := by rw [hip, List.length_map, kpad_length key hk]
      have lo : op.length = 64 := by rw [hop, List.length_map, kpad_length key hk]
      have HE := Lib.hid (show keyB key b = shaB (op ++ shaB (ip ++ b)) by unfold keyB; rw [hip, hop])
      clear h5 h6 hip hop r1 r2 r3
      have hv' : HasB wr v b := hv.below hB
      have hT' : Tab wr := hT.below hB (by obtain ⟨cs, T, fr, q, _⟩ := hT; exact row_lt q)
      clear hv hT
      have hm : ∀ o : Obj, Below wr.heap.size wr (wr.alloc o) := fun o => (Below.refl _ _).alloc (Nat.le_refl _) o
      have hT1 : ∀ o : Obj, Tab (wr.alloc o) := fun o => hT'.below (hm o) (by obtain ⟨cs, T, fr, q, _⟩ := hT'; exact Nat.lt_of_le_of_lt (Nat.zero_le _) (row_lt q))
      obtain ⟨ao, n, c', rfl, rfl, hn, hbytes⟩ := hv'
      have hvb : HasB wr (.slice ao b.length c') b := ⟨ao, _, c', rfl, rfl, hn, hbytes⟩
      have hP : ∀ T, PartsAt (wr.alloc (.cells #[Value.slice (some ⟨w.heap.size + 1 + 1, 0, none⟩) 64 64, Value.slice ao b.length c'] T (0, 0))) (.slice (some ⟨wr.heap.size, 0, none⟩) 2 2) [ip, b] := fun T =>
        parts_two (obj_alloc_at _ _ _ rfl) (hasB_row li.symm (keep_alloc h5' _)) (hvb.below (hm _))
      have hsz : [ip, b].flatten.length ≤ 1099511627776 := by simp; omega
      have HP := Lib.hid hP
      clear hP hvb hn hbytes
      repeat' (first | (go_at_call 81; ((with_reducible refine (hash_calls _ [ip, b] hsz (by simp) _ (HP.out _) (hT1 _)).mono ?_)); rintro r w4 ⟨rfl, hb4⟩; dsimp only) | go_skip | go_guarded | go_step | go_upon)
      have hl2 := shaB_length (ip ++ b)
      have hz4 := hb4.size
      have hm4 : Below wr.heap.size wr w4 := (hm _).trans (hb4.mono (by simp))
      clear HP hT1 hb4
      have g6 : obj (w4.alloc (.cells (bRow (shaB (ip ++ b))) 34 (0, 0))) (w.heap.size + 1 + 1 + 1) = some (.cells (bRow op) 145 (0, 0)) := keep_alloc (keep_below h6' hm4 (row_lt h6')) _
      have g4 : obj (w4.alloc (.cells (bRow (shaB (ip ++ b))) 34 (0, 0))) (w.heap.size + 1) = some (.cells z34 34 (0, 0)) := keep_alloc (keep_below h4 hm4 (row_lt h4)) _
      have g8 : obj (w4.alloc (.cells (bRow (shaB (ip ++ b))) 34 (0, 0))) w4.heap.size = some (.cells (bRow (shaB (ip ++ b))) 34 (0, 0)) := obj_alloc_at _ _ _ rfl
      have gB : Below w.heap.size w (w4.alloc (.cells (bRow (shaB (ip ++ b))) 34 (0, 0))) := (hB.trans (hm4.mono hB.size)).alloc (by have := hB.size; have := hm4.size; omega) _
      have gT : Tab (w4.alloc (.cells (bRow (shaB (ip ++ b))) 34 (0, 0))) := hT'.below (hm4.alloc hm4.size _) (Nat.lt_of_le_of_lt (Nat.zero_le _) (row_lt h4))
      generalize w4.heap.size = M at *
      generalize w4.alloc (.cells (bRow (shaB (ip ++ b))) 34 (0, 0)) = w5 at *
      have hsz2 : [op, shaB (ip ++ b)].flatten.length ≤ 1099511627776 := by simp; omega
      generalize hS : shaB (ip ++ b) = S at *
      have HS := Lib.hid hS
      clear hS h5' h6' h4 hT' hm hm4 hsz hz4 hlt hk64
      have hm : ∀ o : Obj, Below w5.heap.size w5 (w5.alloc o) := fun o => (Below.refl _ _).alloc (Nat.le_refl _) o
      have hP : ∀ T, PartsAt (w5.alloc (.cells #[Value.slice (some ⟨w.heap.size + 1 + 1 + 1, 0, none⟩) 64 64, Value.slice (some ⟨M, 0, none⟩) 32 32] T (0, 0))).drew (.slice (some ⟨w5.heap.size, 0, none⟩) 2 2) [op, S] := fun T =>
        parts_two (keep_drew (obj_alloc_at _ _ _ rfl)) (hasB_row lo.symm (keep_drew (keep_alloc g6 _))) (hasB_row hl2.symm (keep_drew (keep_alloc g8 _)))
      have hT1 : ∀ o : Obj, Tab (w5.alloc o).drew := fun o => gT.below (B := w5.heap.size) (((Below.refl _ _).alloc (Nat.le_refl _) o).drew) (Nat.lt_of_le_of_lt (Nat.zero_le _) (row_lt g4))
      have HP := Lib.hid hP
      clear hP
      have hl3 := shaB_length (op ++ S)
      go_region_law (first | ((go_simp; go_at_call 81; ((with_reducible refine (hash_calls _ [op, S] hsz2 (by simp) _ (HP.out _) (hT1 _)).mono ?_)); rintro e w6 ⟨rfl, hb6⟩; have q4 : obj w6 (w.heap.size + 1) = some (.cells z34 34 (0, 0)) := keep_below (keep_drew (keep_alloc g4 _)) hb6 (by have := row_lt g4; simp; omega); have qB : Below w.heap.size w w6 := (gB.trans (((Below.refl _ _).alloc (Nat.le_refl _) _).drew.mono gB.size)).trans (hb6.mono (by have := gB.size; simp; omega)); dsimp only)))
      have z4 : obj (w6.setRow (w.heap.size + 1) (bRow (shaB (op ++ S)))) (w.heap.size + 1) = some (.cells (bRow (shaB (op ++ S))) 34 (0, 0)) := by rw [obj_setRow_at, q4]; rfl
      have zB : Below w.heap.size w (w6.setRow (w.heap.size + 1) (bRow (shaB (op ++ S)))) := below_setRow qB (by omega) _
      have hz : (bRow (shaB (op ++ S))).size = 32 := by rw [bRow_size, hl3]
      generalize w6.setRow (w.heap.size + 1) (bRow (shaB (op ++ S))) = w7 at *
      generalize hR : bRow (shaB (op ++ S)) = R at *
      have HR : Hid (bRow (keyB key b) = R) := by rw [Lib.hid HE.out |>.out]; exact Lib.hid hR
      clear hR q4 qB hb6 HP hT1 hm HS g8 g4 g6 gB gT hB HE hl3
      repeat' go_step
      refine bodyPost_ret (results_cell_row rfl _ _ (w.heap.size + 1) 34 R _ _ rfl z4 Tryz.underlying34 rfl (by rw [hz]; kernel_rfl)) rfl ?_
      exact ⟨by rw [← HR.out], zB⟩
end Go.Proofs.YtmjblpkbfoipfaaGreatDoor
namespace Go.Proofs.YtmjblpkbfoipfaaGreatDoor
open Go.RowKit
namespace Sha
theorem word_congr {f g : Nat → Nat} (h : ∀ j, j < 64 → f j = g j) (i : Nat) (hi : i < 16) : word f i = word g i := by
  unfold word
  rw [h (4 * i) (by omega), h (4 * i + 1) (by omega), h (4 * i + 2) (by omega), h (4 * i + 3) (by omega)]
theorem sch_congr {f g : Nat → Nat} (h : ∀ j, j < 64 → f j = g j) : ∀ k, sch f k = sch g k
  | 0 => rfl
  | k + 1 => by
    unfold sch
    rw [sch_congr h k]
    by_cases hk : k < 16
    · rw [if_pos hk, if_pos hk, word_congr h k hk]
    · rw [if_neg hk, if_neg hk]
theorem comp_congr (s : St) {f g : Nat → Nat} (h : ∀ j, j < 64 → f j = g j) : comp s f = comp s g := by
  have e : ∀ f, comp s f = s.add (rnds (sch f 64) s 64) := fun f => by delta comp; exact Eq.refl _
  rw [e, e, sch_congr h]
noncomputable def cs {α : Type} (l : List Nat) (k : Nat → List Nat → α) : α := List.rec (motive := fun _ => (Nat → List Nat → α) → α) (fun k => k 0 []) (fun x t _ k => k x t) l k
theorem cs_eq {α : Type} (l : List Nat) (k : Nat → List Nat → α) : cs l k = k (l.getD 0 0) (l.drop 1) := by cases l <;> rfl
noncomputable def w16L {α : Type} (κ : List Nat → List Nat → α) (n : Nat) : List Nat → List Nat → α := Nat.rec (motive := fun _ => List Nat → List Nat → α) (fun r l => κ r l) (fun _ ih r l => cs l fun a l => cs l fun b l => cs l fun c l => cs l fun d l => force (fun x => ih (x :: r) l) (16777216 * a + 65536 * b + 256 * c + d)) n
theorem getD_drop (p : List Nat) (i j : Nat) : (p.drop i).getD j 0 = p.getD (i + j) 0 := by
  rw [List.getD_eq_getElem?_getD, List.getD_eq_getElem?_getD, List.getElem?_drop]
theorem w16L_eq {α : Type} (κ : List Nat → List Nat → α) (p : List Nat) : ∀ (n j : Nat), j + n ≤ 16 → w16L κ n (sch (fun i => p.getD i 0) j).reverse (p.drop (4 * j)) = κ (sch (fun i => p.getD i 0) (j + n)).reverse (p.drop (4 * (j + n)))
  | 0, j, _ => rfl
  | n + 1, j, h => by
    show cs (p.drop (4 * j)) (fun a l => cs l fun b l => cs l fun c l => cs l fun d l => force (fun x => w16L κ n (x :: (sch (fun i => p.getD i 0) j).reverse) l) (16777216 * a + 65536 * b + 256 * c + d)) = _
    rw [cs_eq, cs_eq, cs_eq, cs_eq, force_eq]
    simp only [List.drop_drop, getD_drop, Nat.add_zero]
    have e : (16777216 * p.getD (4 * j) 0 + 65536 * p.getD (4 * j + 1) 0 + 256 * p.getD (4 * j + 1 + 1) 0 + p.getD (4 * j + 1 + 1 + 1) 0) :: (sch (fun i => p.getD i 0) j).reverse = (sch (fun i => p.getD i 0) (j + 1)).reverse := by
      show _ = (sch (fun i => p.getD i 0) j ++ [if j < 16 then word (fun i => p.getD i 0) j else next (sch (fun i => p.getD i 0) j)]).reverse
      rw [if_pos (by omega)]
      simp [word]
    have e2 : 4 * j + 1 + 1 + 1 + 1 = 4 * (j + 1) := by omega
    rw [e, e2, w16L_eq κ p n (j + 1) (by omega), show j + 1 + n = j + (n + 1) by omega]
noncomputable def compL {α : Type} (s : St) (p : List Nat) (κ : List Nat → K8 α) : α := w16L (fun r l => goR (fun r => s.to (rds (fin8 s (κ l)) K (rev r []))) 48 r) 16 [] p
theorem compL_eq {α : Type} (s : St) (p : List Nat) (κ : List Nat → K8 α) : compL s p κ = (comp s fun i => p.getD i 0).to (κ (p.drop 64)) := by
  unfold compL
  have h := w16L_eq (fun r l => goR (fun r => s.to (rds (fin8 s (κ l)) K (rev r []))) 48 r) p 16 0 (by omega)
  rw [show (sch (fun i => p.getD i 0) 0).reverse = [] from rfl, Nat.mul_zero, List.drop_zero] at h
  rw [h, goR_eq _ (fun i => p.getD i 0) 48 (0 + 16) (by omega)]
  have h2 : comp s (fun i => p.getD i 0) = s.add (rnds (sch (fun i => p.getD i 0) 64) s 64) := by delta comp; exact Eq.refl _
  exact (rds_rev s (κ (p.drop 64)) (sch (fun i => p.getD i 0) 64) (sch_length _ 64)).trans (congrArg (fun t => t.to (κ (p.drop 64))) h2.symm)
noncomputable def foldN {α : Type} (κ : St → α) (n : Nat) : List Nat → St → α := Nat.rec (motive := fun _ => List Nat → St → α) (fun _ s => κ s) (fun _ ih p s => compL s p fun l a b c d e f g h => ih l ⟨a, b, c, d, e, f, g, h⟩) n
noncomputable def frc {α : Type} (κ : List Nat → α) (l : List Nat) : List Nat → α := List.rec (motive := fun _ => List Nat → α) (fun acc => κ acc) (fun x _ ih acc => force (fun y => ih (y :: acc)) x) l
theorem frc_eq {α : Type} (κ : List Nat → α) : ∀ l acc, frc κ l acc = κ (l.reverse ++ acc)
  | [], acc => rfl
  | x :: l, acc => by
    show force (fun y => frc κ l (y :: acc)) x = _
    rw [force_eq, frc_eq κ l]; simp
def outR (s : St) : List Nat := [s.h % 256, s.h >>> 8 % 256, s.h >>> 16 % 256, s.h >>> 24 % 256, s.g % 256, s.g >>> 8 % 256, s.g >>> 16 % 256, s.g >>> 24 % 256, s.f % 256, s.f >>> 8 % 256, s.f >>> 16 % 256, s.f >>> 24 % 256, s.e % 256, s.e >>> 8 % 256, s.e >>> 16 % 256, s.e >>> 24 % 256,
  s.d % 256, s.d >>> 8 % 256, s.d >>> 16 % 256, s.d >>> 24 % 256, s.c % 256, s.c >>> 8 % 256, s.c >>> 16 % 256, s.c >>> 24 % 256, s.b % 256, s.b >>> 8 % 256, s.b >>> 16 % 256, s.b >>> 24 % 256, s.a % 256, s.a >>> 8 % 256, s.a >>> 16 % 256, s.a >>> 24 % 256]
def shaI0 : St := ⟨1779033703, 3144134277, 1013904242, 2773480762, 1359893119, 2600822924, 528734635, 1541459225⟩
def padM (n : Nat) : Nat := (119 - n % 64) % 64
noncomputable def lenN (l : List Nat) : Nat := List.rec (motive := fun _ => Nat) 0 (fun _ _ ih => Nat.succ ih) l
noncomputable def appN (l r : List Nat) : List Nat := List.rec (motive := fun _ => List Nat) r (fun x _ ih => x :: ih) l
theorem lenN_eq : ∀ l : List Nat, lenN l = l.length
  | [] => rfl
  | x :: l => by show Nat.succ (lenN l) = _; rw [lenN_eq l]; rfl
theorem appN_eq : ∀ l r : List Nat, appN l r = l ++ r
  | [], r => rfl
  | x :: l, r => by show x :: appN l r = _; rw [appN_eq l r]; rfl
def zer (n : Nat) : List Nat → List Nat := Nat.rec (motive := fun _ => List Nat → List Nat) (fun l => l) (fun _ ih l => 0 :: ih l) n
theorem zer_eq : ∀ n l, zer n l = List.replicate n 0 ++ l
  | 0, l => rfl
  | n + 1, l => by show 0 :: zer n l = _; rw [zer_eq n l, List.replicate_succ]; rfl
noncomputable def shaK {α : Type} (m : List Nat) (κ : List Nat → α) : α :=
  force (fun n => force (fun b => foldN (fun s => frc κ (outR s) []) b (appN m (128 :: zer (padM n) [(8 * n) >>> 56 % 256, (8 * n) >>> 48 % 256, (8 * n) >>> 40 % 256, (8 * n) >>> 32 % 256, (8 * n) >>> 24 % 256, (8 * n) >>> 16 % 256, (8 * n) >>> 8 % 256, (8 * n) % 256])) shaI0) ((n + 1 + padM n + 8) / 64)) (lenN m)
end Sha
def natsOf (m : List UInt8) : List Nat := m.map (·.toNat)
theorem u8_ofNat_toNat (x : Nat) : (UInt8.ofNat x).toNat = x % 256 := by simp
theorem dig32_nats (s : Sha.St) : natsOf (dig32 s) = (Sha.outR s).reverse := by
  have h : ∀ i : Nat, (UInt8.ofNat (s.get (i / 4) >>> (24 - 8 * (i % 4)))).toNat = s.get (i / 4) >>> (24 - 8 * (i % 4)) % 256 := fun i => u8_ofNat_toNat _
  unfold natsOf dig32
  rw [List.map_map]
  simp only [Function.comp_def, h]
  rfl
theorem padM_eq (n : Nat) : Sha.padM n = padZ n := by unfold Sha.padM padZ; rfl
theorem padS_nats (m : List UInt8) : natsOf (padS m) = Sha.appN (natsOf m) (128 :: Sha.zer (Sha.padM m.length) [(8 * m.length) >>> 56 % 256, (8 * m.length) >>> 48 % 256, (8 * m.length) >>> 40 % 256, (8 * m.length) >>> 32 % 256, (8 * m.length) >>> 24 % 256, (8 * m.length) >>> 16 % 256, (8 * m.length) >>> 8 % 256, (8 * m.length) % 256]) := by
  rw [Sha.appN_eq, Sha.zer_eq, padM_eq]
  have hb : (be8 (8 * m.length)).map (·.toNat) = [(8 * m.length) >>> 56 % 256, (8 * m.length) >>> 48 % 256, (8 * m.length) >>> 40 % 256, (8 * m.length) >>> 32 % 256, (8 * m.length) >>> 24 % 256, (8 * m.length) >>> 16 % 256, (8 * m.length) >>> 8 % 256, (8 * m.length) % 256] := by
    unfold be8
    rw [List.map_map]
    simp only [Function.comp_def, u8_ofNat_toNat]
    rfl
  unfold natsOf padS
  rw [List.map_append, List.map_append, List.map_append, hb, List.map_replicate]
  simp only [List.append_assoc, List.map_cons, List.map_nil, List.cons_append, List.nil_append]
  rfl
theorem getD_nats (p : List UInt8) (i : Nat) : (natsOf p).getD i 0 = (p.getD i 0).toNat := by
  unfold natsOf
  rw [List.getD_eq_getElem?_getD, List.getD_eq_getElem?_getD, List.getElem?_map]
  cases p[i]? <;> rfl
theorem foldN_eq {α : Type} (p : List UInt8) (κ : Sha.St → α) : ∀ n q, Sha.foldN κ n ((natsOf p).drop (64 * q)) (shaF shaI (blksS p q)) = κ (shaF shaI (blksS p (q + n)))
  | 0, q => rfl
  | n + 1, q => by
    show Sha.compL (shaF shaI (blksS p q)) ((natsOf p).drop (64 * q)) (fun l a b c d e f g h => Sha.foldN κ n l ⟨a, b, c, d, e, f, g, h⟩) = _
    rw [Sha.compL_eq]
    have hc : Sha.comp (shaF shaI (blksS p q)) (fun j => ((natsOf p).drop (64 * q)).getD j 0) = shaF shaI (blksS p (q + 1)) := by
      rw [← blksS_next, shaF_snoc]
      exact Sha.comp_congr _ fun j hj => by rw [Sha.getD_drop, getD_nats, blkS_get p q j hj]
    rw [hc, List.drop_drop, show 64 * q + 64 = 64 * (q + 1) by omega]
    show Sha.foldN κ n ((natsOf p).drop (64 * (q + 1))) (shaF shaI (blksS p (q + 1))) = _
    rw [foldN_eq p κ n (q + 1), show q + 1 + n = q + (n + 1) by omega]
theorem shaK_eq {α : Type} (m : List UInt8) (κ : List Nat → α) : Sha.shaK (natsOf m) κ = κ (natsOf (shaB m)) := by
  unfold Sha.shaK
  rw [Sha.force_eq, Sha.force_eq, Sha.lenN_eq]
  have hl : (natsOf m).length = m.length := by unfold natsOf; rw [List.length_map]
  rw [hl, ← padS_nats]
  have h0 : Sha.shaI0 = shaF shaI (blksS (padS m) 0) := by unfold shaF blksS; rfl
  have h1 := foldN_eq (padS m) (fun s => Sha.frc κ (Sha.outR s) []) ((m.length + 1 + Sha.padM m.length + 8) / 64) 0
  rw [Nat.mul_zero, List.drop_zero, Nat.zero_add] at h1
  rw [h0, h1, Sha.frc_eq, List.append_nil]
  unfold shaB
  rw [dig32_nats]
  unfold shaW
  rw [padS_length, padM_eq]
noncomputable def xorN (k : Nat) (l : List Nat) : List Nat := List.rec (motive := fun _ => List Nat) [] (fun x _ ih => (x ^^^ k) :: ih) l
theorem xorN_eq (k : UInt8) : ∀ l : List UInt8, xorN k.toNat (natsOf l) = natsOf (l.map (· ^^^ k))
  | [] => rfl
  | x :: l => by
    show (x.toNat ^^^ k.toNat) :: xorN k.toNat (natsOf l) = _
    rw [xorN_eq k l]
    unfold natsOf
    simp
def z32 : List Nat := [0, 0, 0, 0, 0, 0, 0, 0, 0, 0, 0, 0, 0, 0, 0, 0, 0, 0, 0, 0, 0, 0, 0, 0, 0, 0, 0, 0, 0, 0, 0, 0]
noncomputable def keyK {α : Type} (key m : List Nat) (κ : List Nat → α) : α :=
  Sha.frc (fun p => Sha.shaK (Sha.appN p m) fun d => Sha.frc (fun q => Sha.shaK (Sha.appN q d) κ) (Sha.rev (xorN 92 (Sha.appN key z32)) []) []) (Sha.rev (xorN 54 (Sha.appN key z32)) []) []
theorem natsOf_app (a b : List UInt8) : natsOf (a ++ b) = natsOf a ++ natsOf b := by unfold natsOf; rw [List.map_append]
theorem keyK_eq {α : Type} (key m : List UInt8) (κ : List Nat → α) : keyK (natsOf key) (natsOf m) κ = κ (natsOf (keyB key m)) := by
  unfold keyK
  have hz : Sha.appN (natsOf key) z32 = natsOf (kpad key) := by
    rw [Sha.appN_eq]; unfold kpad; rw [natsOf_app]; rfl
  have h1 : xorN 54 (natsOf (kpad key)) = natsOf ((kpad key).map (· ^^^ 0x36)) := xorN_eq 0x36 _
  have h2 : xorN 92 (natsOf (kpad key)) = natsOf ((kpad key).map (· ^^^ 0x5c)) := xorN_eq 0x5c _
  rw [hz, h1, h2, Sha.frc_eq, Sha.rev_eq, List.append_nil, List.append_nil, List.reverse_reverse, Sha.appN_eq, ← natsOf_app, shaK_eq, Sha.frc_eq, Sha.rev_eq, List.append_nil, List.append_nil, List.reverse_reverse, Sha.appN_eq, ← natsOf_app, shaK_eq]
  rfl
noncomputable def shaV (m : List Nat) : List Nat := Sha.shaK m fun l => l
noncomputable def keyV (k m : List Nat) : List Nat := keyK k m fun l => l
theorem shaV_eq (m : List UInt8) : shaV (natsOf m) = natsOf (shaB m) := shaK_eq m _
theorem keyV_eq (k m : List UInt8) : keyV (natsOf k) (natsOf m) = natsOf (keyB k m) := keyK_eq k m _
noncomputable def allN {α : Type} (l : List Nat) (κ : List Nat → α) : α := Sha.frc κ (Sha.rev l []) []
theorem allN_eq {α : Type} (l : List Nat) (κ : List Nat → α) : allN l κ = κ l := by
  unfold allN
  rw [Sha.frc_eq, Sha.rev_eq, List.append_nil, List.append_nil, List.reverse_reverse]
end Go.Proofs.YtmjblpkbfoipfaaGreatDoor
