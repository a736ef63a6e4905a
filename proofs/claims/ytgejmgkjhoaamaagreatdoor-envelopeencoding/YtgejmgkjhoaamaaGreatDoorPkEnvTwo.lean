/-
  The walk of envelope.Read.
-/
import Derived.Test.YtgejmgkjhoaamaaGreatDoorPkEnvOne
import Derived.Laws.ResultCell
import Derived.Deep.Cut
import Derived.Deep.CutRange
import Derived.Deep.DeepCutAuto
import Derived.Laws.IdiomStrings
import Derived.Lib.BufferRead
set_option linter.unusedSectionVars false
set_option linter.constructorNameAsVariable false
set_option linter.unusedVariables false
set_option linter.unusedSimpArgs false
namespace Go.Proofs.YtgejmgkjhoaamaaGreatDoor
open Go.RowKit
/-- Eight bytes of a list, from k on, as value reads them. -/
def numAt (l : List UInt8) (k : Nat) : Int := IntKind.i64.wrap (val8 (l.drop k) 8 : Nat)
/-- The envelope that bytes hold. -/
def envOf (l : List UInt8) (body : Value) : Env := ⟨numAt l 0, numAt l 8, numAt l 16, body, (l.drop 24).take 32⟩
def env0 (x y z : Int) : Env := ⟨x, y, z, .slice none 0 0, List.replicate 32 0⟩
theorem env0_row (x y z : Int) : (env0 x y z).row = #[.int .i64 x, .int .i64 y, .int .i64 z, .slice none 0 0, B8 0, B8 0, B8 0, B8 0, B8 0, B8 0, B8 0, B8 0, B8 0, B8 0, B8 0, B8 0, B8 0, B8 0, B8 0, B8 0, B8 0, B8 0, B8 0, B8 0, B8 0, B8 0, B8 0, B8 0, B8 0, B8 0, B8 0, B8 0, B8 0, B8 0, B8 0, B8 0] := by
  simp [Env.row, env0, bRow, List.replicate_succ]
theorem Env_list (e : Env) : e.row.toList = [.int .i64 e.frm, .int .i64 e.dst, .int .i64 e.seq, e.body] ++ bCells e.seal32 := by
  rw [← bRow_list]
  simp [Env.row]
theorem env0_splice (x y z : Int) (s : List UInt8) (hs : s.length = 32) : (splice (env0 x y z).row.toList 4 (bCells s)).toArray = (Env.mk x y z (.slice none 0 0) s).row := by
  apply Array.ext'
  rw [List.toList_toArray, Env_list, Env_list]
  unfold splice
  have h1 : ([Value.int .i64 (env0 x y z).frm, .int .i64 (env0 x y z).dst, .int .i64 (env0 x y z).seq, (env0 x y z).body] ++ bCells (env0 x y z).seal32).take 4 = [.int .i64 x, .int .i64 y, .int .i64 z, .slice none 0 0] := rfl
  have h2 : ([Value.int .i64 (env0 x y z).frm, .int .i64 (env0 x y z).dst, .int .i64 (env0 x y z).seq, (env0 x y z).body] ++ bCells (env0 x y z).seal32).drop (4 + (bCells s).length) = [] := by
    apply List.drop_of_length_le
    simp [bCells_length, hs, env0]
  rw [h1, h2, List.append_nil]
@[go_sem] theorem Env_set3 (x y z : Int) (b v : Value) (s : List UInt8) : (Env.mk x y z b s).row.setIfInBounds 3 v = (Env.mk x y z v s).row := by
  unfold Env.row
  simp [Array.setIfInBounds_append_left]
theorem Env_ones (e : Env) (hb : e.body.oneCell' = true) : ones e.row = true := by
  unfold ones
  rw [Array.all_eq_true_iff_forall_mem]
  intro v hv
  rw [← Array.mem_toList_iff, Env_list] at hv
  simp only [List.cons_append, List.nil_append, List.mem_cons] at hv
  rcases hv with rfl | rfl | rfl | rfl | hv
  · rfl
  · rfl
  · rfl
  · exact hb
  · exact bCells_one _ _ hv
theorem results_row_tmp {P : Program} {fn : Func} {p u : Tmp} {ty : TypeId} (h : fn.results = #[.cell p ty, .tmp u]) (tmps : Array Value) (w : World) (g : Nat) (t : TypeId) (cs : Array Value) (fr : Nat × Nat) (d : TypeDesc) (v : Value)
    (hp : tmps.getD p undef = .pointer (some ⟨g, 0, none⟩)) (hg : w.heap[g]? = some (.cells cs t fr))
    (hu : P.underlying ty = some d) (hd : (match d with | .struct _ | .array _ _ => true | _ => false) = true) (hi : (P.info? ty).map (·.size) = some cs.size) (hv : tmps.getD u undef = v) :
    (results fn tmps).run P w = .ok (.tuple #[.agg cs, v]) w := by
  rw [results_cell_tmp h, hp, hv]
  simp [asAddr, run_loadVar_row w g t ty cs fr d hg hu hd hi, Result.andThen]
theorem val8_take (l : List UInt8) (m k : Nat) (hm : 8 ≤ m) (hk : k ≤ 8) : val8 (l.take m) k = val8 l k := by
  induction k with
  | zero => rfl
  | succ k ih =>
    unfold val8
    rw [ih (by omega)]
    congr 3
    rw [List.getD_eq_getElem?_getD, List.getD_eq_getElem?_getD, List.getElem?_take, if_pos (by omega)]
theorem value_at (b off n cap k : Nat) (l : List UInt8) (hl : 8 + k ≤ l.length) (hn : 8 ≤ n) (w : World) (hc : ∀ j, j < l.length → w.cell? ⟨b, off + j, none⟩ = some (B8 (l.getD j 0).toNat)) (o : Nat) (ho : o = off + k) :
    Calls Tryz.prog 16 #[.slice (some ⟨b, o, none⟩) n cap] w fun e w' => e = .returned (.int .i64 (numAt l k)) ∧ w' = w := by
  subst ho
  have h := value_calls b (off + k) n cap ((l.drop k).take 8) (by simp; omega) hn w (fun j hj => by
    rw [Nat.add_assoc, hc (k + j) (by omega)]
    congr 3
    rw [List.getD_eq_getElem?_getD, List.getD_eq_getElem?_getD, List.getElem?_take, if_pos hj, List.getElem?_drop])
  rw [val8_take _ 8 8 (by omega) (by omega)] at h
  exact h
theorem value_at0 (b off n cap : Nat) (l : List UInt8) (hl : 8 ≤ l.length) (hn : 8 ≤ n) (w : World) (hc : ∀ j, j < l.length → w.cell? ⟨b, off + j, none⟩ = some (B8 (l.getD j 0).toNat)) :
    Calls Tryz.prog 16 #[.slice (some ⟨b, off, none⟩) n cap] w fun e w' => e = .returned (.int .i64 (numAt l 0)) ∧ w' = w := value_at b off n cap 0 l hl hn w hc off rfl
theorem read_mid {w w4 w5 : World} {E : Env} {g5 : Nat} (hgrow : (w4.alloc (.cells #[] 5 (0, 0))).grownBy w5 (some w4.heap.size)) (h4 : w4.heap[w.heap.size + 1]? = some (.cells E.row 27 (0, 0)))
    (k0 : obj w4 w.heap.size = some (.cells z27 27 (0, 0))) (hB : Below w.heap.size w w4) (hat : g5 = w4.heap.size ∨ g5 = (w4.alloc (.cells #[] 5 (0, 0))).heap.size) (hz : w.heap.size + 2 ≤ w4.heap.size) :
    obj w5 (w.heap.size + 1) = some (.cells E.row 27 (0, 0)) ∧ obj w5 w.heap.size = some (.cells z27 27 (0, 0)) ∧ Below w.heap.size w w5 ∧ w.heap.size + 2 ≤ g5 ∧ w.heap.size + 3 ≤ w5.heap.size ∧ w5.cell? ⟨w.heap.size + 1, 3, none⟩ = some E.body ∧ w5.frozen? ⟨w.heap.size + 1, 3, none⟩ = false := by
  have e : (w4.alloc (.cells #[] 5 (0, 0))).heap.size = w4.heap.size + 1 := by simp
  have h5 : obj w5 (w.heap.size + 1) = some (.cells E.row 27 (0, 0)) := keep_grown (keep_alloc h4 _) hgrow (by simp; omega)
  refine ⟨h5, keep_grown (keep_alloc k0 _) hgrow (by simp; omega), (hB.alloc (by omega) _).grown hgrow (by omega) (fun k hk => by cases hk; omega), by omega, by have := hgrow.size; omega, (row_cells h5 3).trans (Env_3 E), row_free h5 3⟩
theorem owns_of_block {w w' : World} {base : Nat} {e : TypeId} {size : Nat} {v : Value} {n : Nat} {xs : List Value} (h : w.ownsRow base e size v n xs) (hv : ∀ g, v.ownBlock = some g → w'.heap[g]? = w.heap[g]?) : w'.ownsRow base e size v n xs := by
  refine ⟨h.1, ?_⟩
  rcases h.2 with hn | ⟨g, cap, cur, rfl, h1, h2, h3⟩
  · exact .inl hn
  · exact .inr ⟨g, cap, cur, rfl, h1, (hv g rfl).trans h2, h3⟩
theorem read_cells {b off B : Nat} {l : List UInt8} {w w' : World} (h56 : 56 ≤ l.length) (HC : Hid (∀ j, j < l.length → w.cell? ⟨b, off + j, none⟩ = some (B8 (l.getD j 0).toNat))) (hb : b < B) (hB : Below B w w') :
    ∀ j u, (bCells (l.drop 56))[j]? = some u → w'.cell? ((⟨b, off + 56, none⟩ : Addr).add j) = some u := fun j u hj => by
  have hj2 : j < l.length - 56 := by
    have := (List.getElem?_eq_some_iff.1 hj).1
    simpa [bCells_length] using this
  rw [Addr.add_lit, Nat.add_assoc]
  have := (hB.cell (p := ⟨b, off + (56 + j), none⟩) hb).trans (HC.out (56 + j) (by omega))
  rw [this]
  unfold bCells at hj
  rw [List.getElem?_map, List.getElem?_drop] at hj
  rw [List.getD_eq_getElem?_getD, List.getElem?_eq_getElem (by omega)]
  rw [List.getElem?_eq_getElem (by omega)] at hj
  exact hj
theorem read_fin {w w5 w7 : World} {x y z : Int} {bd v : Value} {s : List UInt8} {g5 n cap : Nat} {xs : List Value} (h5 : obj w5 (w.heap.size + 1) = some (.cells (Env.mk x y z bd s).row 27 (0, 0)))
    (k5 : obj w5 w.heap.size = some (.cells z27 27 (0, 0))) (hB : Below w.heap.size w w5) (hs : w.heap.size + 3 ≤ w5.heap.size) (hg : w.heap.size + 2 ≤ g5)
    (hown : w5.ownsRow w.heap.size 5 1 (.slice (some ⟨g5, 0, none⟩) n cap) n xs) (hb7 : Below (w5.setCell ⟨w.heap.size + 1, 3, none⟩ v).heap.size (w5.setCell ⟨w.heap.size + 1, 3, none⟩ v) w7) :
    obj w7 (w.heap.size + 1) = some (.cells (Env.mk x y z v s).row 27 (0, 0)) ∧ obj w7 w.heap.size = some (.cells z27 27 (0, 0)) ∧ Below w.heap.size w w7 ∧ w7.ownsRow w.heap.size 5 1 (.slice (some ⟨g5, 0, none⟩) n cap) n xs ∧ w.heap.size + 3 ≤ w7.heap.size := by
  have e : (w5.setCell ⟨w.heap.size + 1, 3, none⟩ v).heap.size = w5.heap.size := by simp
  have hlt := (owns_cap hown).2.1
  dsimp only at hlt
  have h6 : obj (w5.setCell ⟨w.heap.size + 1, 3, none⟩ v) (w.heap.size + 1) = some (.cells (Env.mk x y z v s).row 27 (0, 0)) := by
    rw [obj_setCell_at, h5, ← Env_set3 x y z bd v s]; rfl
  refine ⟨keep_below h6 hb7 (by omega), keep_below (keep_setCell k5 _ (by simp) _) hb7 (by omega), (hB.setCell (by simp) _).trans (hb7.mono (by omega)), owns_of_block hown fun g hg' => ?_, by have := hb7.size; omega⟩
  cases hg'
  rw [hb7.block g5 (by omega)]
  exact heap_setCell_other w5 _ g5 v (by simp; omega)
/-- Do the bytes hold a well-formed envelope? -/
def formedL (l : List UInt8) : Bool := formedB ⟨numAt l 0, numAt l 8, numAt l 16, .slice none 0 0, (l.drop 24).take 32⟩ (l.length - 56)
def envAt (l : List UInt8) (g cap : Nat) : Env := ⟨numAt l 0, numAt l 8, numAt l 16, .slice (some ⟨g, 0, none⟩) (l.length - 56) cap, (l.drop 24).take 32⟩
def ReadPost (l : List UInt8) (w : World) (r : Ending) (w' : World) : Prop :=
  Below w.heap.size w w' ∧ ((formedL l = true ∧ ∃ g cap, r = .returned (.tuple #[.agg (envAt l g cap).row, .int .i64 0]) ∧ w'.ownsRow w.heap.size 5 1 (.slice (some ⟨g, 0, none⟩) (l.length - 56) cap) (l.length - 56) (bCells (l.drop 56))) ∨
    (formedL l = false ∧ r = .returned (.tuple #[.agg (env0 0 0 0).row, .int .i64 3])))
theorem env_hi (e : Env) (h : e.seal32.length = 32) : (Tryz.prog.info? 27).map (·.size) = some e.row.size := by rw [Env_size e h]; kernel_rfl
set_option maxHeartbeats 2000000 in
set_option maxRecDepth 100000 in
theorem read_calls (b off c : Nat) (l : List UInt8) (h56 : 56 ≤ l.length) (h300 : l.length ≤ 300) (hlc : l.length ≤ c) (w : World) (hc : ∀ j, j < l.length → w.cell? ⟨b, off + j, none⟩ = some (B8 (l.getD j 0).toNat)) (hb : b < w.heap.size) :
    Calls Tryz.prog 5 #[.slice (some ⟨b, off, none⟩) l.length c] w (ReadPost l w) := by
  have i1 : ¬ (l.length : Int) < 56 := by omega
  have HC := Lib.hid hc
  clear hc
  have c8 : c ≠ 8 := by omega
  have c16 : c ≠ 16 := by omega
  have p8 : (8 : Int) ≤ (l.length : Int) := by omega
  have p16 : (16 : Int) ≤ (l.length : Int) := by omega
  have c24 : c ≠ 24 := by omega
  have p24 : (24 : Int) ≤ (l.length : Int) := by omega
  have q : (l.length : Int) ≤ (c : Int) := by omega
  go_enter Tryz.func5, Tryz.ntmps5
  repeat' (first | go_skip | go_guarded | go_step | go_upon)
  have hc0 : ∀ j, j < l.length → (w.alloc (.cells z27 27 (0, 0))).drew.cell? ⟨b, off + j, none⟩ = some (B8 (l.getD j 0).toNat) := fun j hj => by
    have := HC.out j hj
    go_simp
  have hc1 : ∀ j, j < l.length → ((w.alloc (.cells z27 27 (0, 0))).alloc (.cells z27 27 (0, 0))).drew.cell? ⟨b, off + j, none⟩ = some (B8 (l.getD j 0).toNat) := fun j hj => by
    have hz : b < (w.alloc (.cells z27 27 (0, 0))).heap.size := by simp; omega
    have := HC.out j hj
    go_simp
  have HC0 := Lib.hid hc0
  have HC1 := Lib.hid hc1
  clear hc0 hc1
  go_cut [4] (fun s4 wx => s4 = .pointer (some ⟨w.heap.size + 1, 0, none⟩) ∧ wx.heap.size = w.heap.size + 2 ∧ obj wx w.heap.size = some (.cells z27 27 (0, 0)) ∧ obj wx (w.heap.size + 1) = some (.cells (env0 (numAt l 0) (numAt l 8) (numAt l 16)).row 27 (0, 0)) ∧ Below w.heap.size w wx)
  case first =>
    go_region_law (((go_simp; go_at_call 16; (first | ((with_reducible refine (value_at0 b off _ _ l (by omega) (by omega) _ HC0.out).mono ?_)) | ((with_reducible refine (value_at b off _ _ 8 l (by omega) (by omega) _ HC0.out _ rfl).mono ?_)) | ((with_reducible refine (value_at b off _ _ 16 l (by omega) (by omega) _ HC0.out _ rfl).mono ?_)) | ((with_reducible refine (value_at0 b off _ _ l (by omega) (by omega) _ HC1.out).mono ?_)) | ((with_reducible refine (value_at b off _ _ 8 l (by omega) (by omega) _ HC1.out _ rfl).mono ?_)) | ((with_reducible refine (value_at b off _ _ 16 l (by omega) (by omega) _ HC1.out _ rfl).mono ?_))); rintro r w2 ⟨rfl, rfl⟩; dsimp only)))
    all_goals repeat' (first | go_skip | go_guarded | go_step | go_upon)
    all_goals (go_meet; exact ⟨rfl, by simp, keep_drew (keep_alloc (obj_alloc_at _ _ _ rfl) _), by rw [env0_row]; exact keep_drew (obj_alloc_at _ _ _ (by simp)), (((Below.refl _ _).alloc (Nat.le_refl _) _).alloc (by simp) _).drew⟩)
  case rest =>
    clear HC0 HC1
    obtain ⟨rfl, hz, h0, h1, hB⟩ := hcut
    repeat' (first | go_skip | go_guarded | go_step | go_upon)
    go_still_tail 4, (by kernel_rfl)
    change wpList _ _ _ _ _ wc.drew
    have hs32 : ((l.drop 24).take 32).length = 32 := by simp; omega
    refine wpList_copy_splice (by rfl) _ _ _ _ (by rfl) 5 Tryz.underlying22 (by kernel_rfl) _ _ _ _ _ _ (by rfl) (by rfl) (w.heap.size + 1) 4 (env0 (numAt l 0) (numAt l 8) (numAt l 16)).row.toList 27 h1 (bCells ((l.drop 24).take 32)) ?_ ?_ ?_ (bCells_one _) (w.heap.size + 1) wc.drew (Below.refl _ _) (Nat.le_refl _) ?_
    · rw [bCells_length, hs32]; symm; apply Nat.min_eq_right; omega
    · intro _
      refine ⟨rfl, _, rfl, fun j v hj => ?_⟩
      have hj32 : j < 32 := by
        have := (List.getElem?_eq_some_iff.1 hj).1
        rwa [bCells_length, hs32] at this
      rw [Addr.add_lit, Nat.add_assoc]
      have := (hB.drew.cell (p := ⟨b, off + (24 + j), none⟩) hb).trans (HC.out (24 + j) (by omega))
      rw [this]
      unfold bCells at hj
      rw [List.getElem?_map, List.getElem?_take, if_pos hj32, List.getElem?_drop] at hj
      rw [List.getD_eq_getElem?_getD, List.getElem?_eq_getElem (by omega)]
      rw [List.getElem?_eq_getElem (by omega)] at hj
      exact hj
    · rw [bCells_length, hs32, Env_list]; simp [bCells_length, env0]
    intro w4 hg4 hb4
    have h4 := hg4.out
    rw [env0_splice _ _ _ _ hs32] at h4
    have k0 := keep_below (keep_drew h0) hb4 (by omega)
    have hz4 := hb4.size
    have hB4 := hB.drew.trans (hb4.mono (by omega))
    clear hg4 h0 h1 hb4 hB
    have hz4' : w.heap.size + 2 ≤ w4.heap.size := by have : wc.drew.heap.size = wc.heap.size := rfl; omega
    have hown0 : (w4.alloc (.cells #[] 5 (0, 0))).ownsRow w.heap.size 5 1 (.slice (some ⟨w4.heap.size, 0, none⟩) 0 0) 0 [] := ⟨rfl, .inr ⟨w4.heap.size, 0, #[], rfl, by omega, heap_alloc_new _ _, Nat.le_refl _, Nat.zero_le _, rfl, rfl⟩⟩
    by_cases hf : formedB ⟨numAt l 0, numAt l 8, numAt l 16, .slice none 0 0, (l.drop 24).take 32⟩ (l.length - 56) = true
    · by_cases hc56 : c = 56
      · have hcell : ∀ j u, (bCells (l.drop 56))[j]? = some u → (w4.alloc (.cells #[] 5 (0, 0))).cell? ((⟨b, off, none⟩ : Addr).add j) = some u := fun j u hj => by
          have := (List.getElem?_eq_some_iff.1 hj).1
          rw [bCells_length, List.length_drop] at this
          omega
        repeat' (first | (go_at_call 17; ((with_reducible refine (formed_calls ⟨numAt l 0, numAt l 8, numAt l 16, .slice (some ⟨g5, 0, none⟩) (l.length - 56) cap5, (l.drop 24).take 32⟩ _ (l.length - 56) cap5 rfl _).mono ?_)); rintro r w7 ⟨rfl, hb7⟩; obtain ⟨h7, k7, hB7, hown7, hs7⟩ := read_fin h5 k5 hB5 hs5 hg5 hown5 hb7; dsimp only) | (at_builtin; refine wpList_append_b (by rfl) _ _ (by rfl) w.heap.size w4.heap.size 0 0 [] (by rfl) hown0 ⟨b, off, none⟩ (l.length - 56) 0 (bCells (l.drop 56)) (by rfl) (by simp [bCells_length]) hcell (bCells_one _) (by omega) ?_; intro g5 cap5 w5 hown5 hgrow5 hat5; obtain ⟨h5, k5, hB5, hg5, hs5, c3, f3⟩ := read_mid hgrow5 h4 k0 hB4 hat5 hz4'; have hr := Env_size ⟨numAt l 0, numAt l 8, numAt l 16, .slice (some ⟨g5, 0, none⟩) (l.length - 56) cap5, (l.drop 24).take 32⟩ hs32; have hall := Env_all ⟨numAt l 0, numAt l 8, numAt l 16, .slice (some ⟨g5, 0, none⟩) (l.length - 56) cap5, (l.drop 24).take 32⟩ hs32; have hone := Env_ones ⟨numAt l 0, numAt l 8, numAt l 16, .slice (some ⟨g5, 0, none⟩) (l.length - 56) cap5, (l.drop 24).take 32⟩ rfl; have hF : formedB ⟨numAt l 0, numAt l 8, numAt l 16, .slice (some ⟨g5, 0, none⟩) (l.length - 56) cap5, (l.drop 24).take 32⟩ (l.length - 56) = true := hf) | go_skip | go_guarded | go_step | go_upon)
        refine bodyPost_ret (results_row_tmp rfl _ _ w.heap.size 27 (envAt l g5 cap5).row _ _ (.int .i64 0) rfl (setRow_heap _ _ _ _ _ _ k7) Tryz.underlying27 rfl (env_hi _ hs32) rfl) rfl ?_
        refine ⟨below_setRow hB7 (Nat.le_refl _) _, .inl ⟨hf, g5, cap5, rfl, ?_⟩⟩
        rw [Nat.zero_add, List.nil_append] at hown7
        refine owns_of_block hown7 fun g hg => ?_
        cases hg
        exact setRow_other w7 w.heap.size g5 _ (by omega)
      · have hcell := read_cells (B := w.heap.size) h56 HC hb (hB4.alloc (by omega) (.cells #[] 5 (0, 0)))
        repeat' (first | (go_at_call 17; ((with_reducible refine (formed_calls ⟨numAt l 0, numAt l 8, numAt l 16, .slice (some ⟨g5, 0, none⟩) (l.length - 56) cap5, (l.drop 24).take 32⟩ _ (l.length - 56) cap5 rfl _).mono ?_)); rintro r w7 ⟨rfl, hb7⟩; obtain ⟨h7, k7, hB7, hown7, hs7⟩ := read_fin h5 k5 hB5 hs5 hg5 hown5 hb7; dsimp only) | (at_builtin; refine wpList_append_b (by rfl) _ _ (by rfl) w.heap.size w4.heap.size 0 0 [] (by rfl) hown0 ⟨b, off + 56, none⟩ (l.length - 56) (c - 56) (bCells (l.drop 56)) (by rfl) (by simp [bCells_length]) hcell (bCells_one _) (by omega) ?_; intro g5 cap5 w5 hown5 hgrow5 hat5; obtain ⟨h5, k5, hB5, hg5, hs5, c3, f3⟩ := read_mid hgrow5 h4 k0 hB4 hat5 hz4'; have hr := Env_size ⟨numAt l 0, numAt l 8, numAt l 16, .slice (some ⟨g5, 0, none⟩) (l.length - 56) cap5, (l.drop 24).take 32⟩ hs32; have hall := Env_all ⟨numAt l 0, numAt l 8, numAt l 16, .slice (some ⟨g5, 0, none⟩) (l.length - 56) cap5, (l.drop 24).take 32⟩ hs32; have hone := Env_ones ⟨numAt l 0, numAt l 8, numAt l 16, .slice (some ⟨g5, 0, none⟩) (l.length - 56) cap5, (l.drop 24).take 32⟩ rfl; have hF : formedB ⟨numAt l 0, numAt l 8, numAt l 16, .slice (some ⟨g5, 0, none⟩) (l.length - 56) cap5, (l.drop 24).take 32⟩ (l.length - 56) = true := hf) | go_skip | go_guarded | go_step | go_upon)
        refine bodyPost_ret (results_row_tmp rfl _ _ w.heap.size 27 (envAt l g5 cap5).row _ _ (.int .i64 0) rfl (setRow_heap _ _ _ _ _ _ k7) Tryz.underlying27 rfl (env_hi _ hs32) rfl) rfl ?_
        refine ⟨below_setRow hB7 (Nat.le_refl _) _, .inl ⟨hf, g5, cap5, rfl, ?_⟩⟩
        rw [Nat.zero_add, List.nil_append] at hown7
        refine owns_of_block hown7 fun g hg => ?_
        cases hg
        exact setRow_other w7 w.heap.size g5 _ (by omega)
    · have hf : formedB ⟨numAt l 0, numAt l 8, numAt l 16, .slice none 0 0, (l.drop 24).take 32⟩ (l.length - 56) = false := by simpa using hf
      by_cases hc56 : c = 56
      · have hcell : ∀ j u, (bCells (l.drop 56))[j]? = some u → (w4.alloc (.cells #[] 5 (0, 0))).cell? ((⟨b, off, none⟩ : Addr).add j) = some u := fun j u hj => by
          have := (List.getElem?_eq_some_iff.1 hj).1
          rw [bCells_length, List.length_drop] at this
          omega
        repeat' (first | (go_at_call 17; ((with_reducible refine (formed_calls ⟨numAt l 0, numAt l 8, numAt l 16, .slice (some ⟨g5, 0, none⟩) (l.length - 56) cap5, (l.drop 24).take 32⟩ _ (l.length - 56) cap5 rfl _).mono ?_)); rintro r w7 ⟨rfl, hb7⟩; obtain ⟨h7, k7, hB7, hown7, hs7⟩ := read_fin h5 k5 hB5 hs5 hg5 hown5 hb7; dsimp only) | (at_builtin; refine wpList_append_b (by rfl) _ _ (by rfl) w.heap.size w4.heap.size 0 0 [] (by rfl) hown0 ⟨b, off, none⟩ (l.length - 56) 0 (bCells (l.drop 56)) (by rfl) (by simp [bCells_length]) hcell (bCells_one _) (by omega) ?_; intro g5 cap5 w5 hown5 hgrow5 hat5; obtain ⟨h5, k5, hB5, hg5, hs5, c3, f3⟩ := read_mid hgrow5 h4 k0 hB4 hat5 hz4'; have hr := Env_size ⟨numAt l 0, numAt l 8, numAt l 16, .slice (some ⟨g5, 0, none⟩) (l.length - 56) cap5, (l.drop 24).take 32⟩ hs32; have hall := Env_all ⟨numAt l 0, numAt l 8, numAt l 16, .slice (some ⟨g5, 0, none⟩) (l.length - 56) cap5, (l.drop 24).take 32⟩ hs32; have hone := Env_ones ⟨numAt l 0, numAt l 8, numAt l 16, .slice (some ⟨g5, 0, none⟩) (l.length - 56) cap5, (l.drop 24).take 32⟩ rfl; have hF : formedB ⟨numAt l 0, numAt l 8, numAt l 16, .slice (some ⟨g5, 0, none⟩) (l.length - 56) cap5, (l.drop 24).take 32⟩ (l.length - 56) = false := hf) | go_skip | go_guarded | go_step | go_upon)
        refine bodyPost_ret (results_row_tmp rfl _ _ w.heap.size 27 _ _ _ (.int .i64 3) rfl (setRow_heap _ _ _ _ _ _ k7) Tryz.underlying27 rfl (by kernel_rfl) rfl) rfl ?_
        exact ⟨below_setRow hB7 (Nat.le_refl _) _, .inr ⟨hf, by rw [env0_row]; rfl⟩⟩
      · have hcell := read_cells (B := w.heap.size) h56 HC hb (hB4.alloc (by omega) (.cells #[] 5 (0, 0)))
        repeat' (first | (go_at_call 17; ((with_reducible refine (formed_calls ⟨numAt l 0, numAt l 8, numAt l 16, .slice (some ⟨g5, 0, none⟩) (l.length - 56) cap5, (l.drop 24).take 32⟩ _ (l.length - 56) cap5 rfl _).mono ?_)); rintro r w7 ⟨rfl, hb7⟩; obtain ⟨h7, k7, hB7, hown7, hs7⟩ := read_fin h5 k5 hB5 hs5 hg5 hown5 hb7; dsimp only) | (at_builtin; refine wpList_append_b (by rfl) _ _ (by rfl) w.heap.size w4.heap.size 0 0 [] (by rfl) hown0 ⟨b, off + 56, none⟩ (l.length - 56) (c - 56) (bCells (l.drop 56)) (by rfl) (by simp [bCells_length]) hcell (bCells_one _) (by omega) ?_; intro g5 cap5 w5 hown5 hgrow5 hat5; obtain ⟨h5, k5, hB5, hg5, hs5, c3, f3⟩ := read_mid hgrow5 h4 k0 hB4 hat5 hz4'; have hr := Env_size ⟨numAt l 0, numAt l 8, numAt l 16, .slice (some ⟨g5, 0, none⟩) (l.length - 56) cap5, (l.drop 24).take 32⟩ hs32; have hall := Env_all ⟨numAt l 0, numAt l 8, numAt l 16, .slice (some ⟨g5, 0, none⟩) (l.length - 56) cap5, (l.drop 24).take 32⟩ hs32; have hone := Env_ones ⟨numAt l 0, numAt l 8, numAt l 16, .slice (some ⟨g5, 0, none⟩) (l.length - 56) cap5, (l.drop 24).take 32⟩ rfl; have hF : formedB ⟨numAt l 0, numAt l 8, numAt l 16, .slice (some ⟨g5, 0, none⟩) (l.length - 56) cap5, (l.drop 24).take 32⟩ (l.length - 56) = false := hf) | go_skip | go_guarded | go_step | go_upon)
        refine bodyPost_ret (results_row_tmp rfl _ _ w.heap.size 27 _ _ _ (.int .i64 3) rfl (setRow_heap _ _ _ _ _ _ k7) Tryz.underlying27 rfl (by kernel_rfl) rfl) rfl ?_
        exact ⟨below_setRow hB7 (Nat.le_refl _) _, .inr ⟨hf, by rw [env0_row]; rfl⟩⟩
/-- By the length's own name, and by what comes out. -/
theorem read_bad (b off c n : Nat) (l : List UInt8) (hl : l.length = n) (h56 : 56 ≤ n) (h300 : n ≤ 300) (hlc : n ≤ c) (w : World) (hc : ∀ j, j < n → w.cell? ⟨b, off + j, none⟩ = some (B8 (l.getD j 0).toNat)) (hb : b < w.heap.size) (hf : formedL l = false) :
    Calls Tryz.prog 5 #[.slice (some ⟨b, off, none⟩) n c] w fun r w' => r = .returned (.tuple #[.agg (env0 0 0 0).row, .int .i64 3]) ∧ Below w.heap.size w w' := by
  subst hl
  refine (read_calls b off c l h56 h300 hlc w hc hb).mono fun r w' h => ?_
  obtain ⟨hB, ⟨h, _⟩ | ⟨_, h⟩⟩ := h
  · rw [hf] at h; cases h
  · exact ⟨h, hB⟩
theorem read_good (b off c n : Nat) (l : List UInt8) (hl : l.length = n) (h56 : 56 ≤ n) (h300 : n ≤ 300) (hlc : n ≤ c) (w : World) (hc : ∀ j, j < n → w.cell? ⟨b, off + j, none⟩ = some (B8 (l.getD j 0).toNat)) (hb : b < w.heap.size) (hf : formedL l = true) :
    Calls Tryz.prog 5 #[.slice (some ⟨b, off, none⟩) n c] w fun r w' => ∃ g cap, r = .returned (.tuple #[.agg (envAt l g cap).row, .int .i64 0]) ∧ w'.ownsRow w.heap.size 5 1 (.slice (some ⟨g, 0, none⟩) (l.length - 56) cap) (l.length - 56) (bCells (l.drop 56)) ∧ Below w.heap.size w w' := by
  subst hl
  refine (read_calls b off c l h56 h300 hlc w hc hb).mono fun r w' h => ?_
  obtain ⟨hB, ⟨_, g, cap, h1, h2⟩ | ⟨h, _⟩⟩ := h
  · exact ⟨g, cap, h1, h2, hB⟩
  · rw [hf] at h; cases h
/-- Too short a beginning. -/
theorem read_short (a : Option Addr) (n c : Nat) (h : n < 56) (w : World) :
    Calls Tryz.prog 5 #[.slice a n c] w fun r w' => r = .returned (.tuple #[.agg (env0 0 0 0).row, .int .i64 3]) ∧ Below w.heap.size w w' := by
  have i1 : (n : Int) < 56 := by omega
  go_enter Tryz.func5, Tryz.ntmps5
  repeat' (first | go_skip | go_guarded | go_step | go_upon)
  refine bodyPost_ret (results_row_tmp rfl _ _ w.heap.size 27 _ _ _ (.int .i64 3) rfl (heap_alloc_new w _) Tryz.underlying27 rfl (by kernel_rfl) rfl) rfl ?_
  exact ⟨by rw [env0_row]; rfl, (Below.refl _ _).alloc (Nat.le_refl _) _⟩
end Go.Proofs.YtgejmgkjhoaamaaGreatDoor
namespace Go.Proofs.YtgejmgkjhoaamaaGreatDoor
open Go.RowKit
theorem env0_lit : (#[.int .i64 0, .int .i64 0, .int .i64 0, .slice none 0 0, .int .u8 0, .int .u8 0, .int .u8 0, .int .u8 0, .int .u8 0, .int .u8 0, .int .u8 0, .int .u8 0, .int .u8 0, .int .u8 0, .int .u8 0, .int .u8 0, .int .u8 0, .int .u8 0, .int .u8 0, .int .u8 0, .int .u8 0, .int .u8 0, .int .u8 0, .int .u8 0, .int .u8 0, .int .u8 0, .int .u8 0, .int .u8 0, .int .u8 0, .int .u8 0, .int .u8 0, .int .u8 0, .int .u8 0, .int .u8 0, .int .u8 0, .int .u8 0] : Array Value) = (env0 0 0 0).row := by rw [env0_row]; rfl
set_option maxHeartbeats 2000000 in
set_option maxRecDepth 100000 in
theorem same_zero (w : World) :
    Calls Tryz.prog 6 #[.agg (env0 0 0 0).row, .agg (env0 0 0 0).row] w fun r w' => r = .returned (.bool true) ∧ Below w.heap.size w w' := by
  have hr := Env_size (env0 0 0 0) rfl
  have hall := Env_all (env0 0 0 0) rfl
  have g0 : ∀ h, (env0 0 0 0).row[0]'h = .int .i64 0 := fun h => Option.some.inj ((Array.getElem?_eq_getElem h).symm.trans (Env_0 _))
  have g1 : ∀ h, (env0 0 0 0).row[1]'h = .int .i64 0 := fun h => Option.some.inj ((Array.getElem?_eq_getElem h).symm.trans (Env_1 _))
  have g2 : ∀ h, (env0 0 0 0).row[2]'h = .int .i64 0 := fun h => Option.some.inj ((Array.getElem?_eq_getElem h).symm.trans (Env_2 _))
  have g3 : ∀ h, (env0 0 0 0).row[3]'h = .slice none 0 0 := fun h => Option.some.inj ((Array.getElem?_eq_getElem h).symm.trans (Env_3 _))
  have hcv : ∀ W, (convert 22 9 (.slice none 0 0)).run Tryz.prog W = .ok (.string ⟨#[]⟩) W := fun W => Lib.run_convert_nil_bytes W _ _ 5 0 Tryz.underlying22 Tryz.underlying5 Tryz.underlying9
  have hs4 := Env_seal (env0 0 0 0) rfl
  have heq : ∀ W, (Op.equalIn 10000 25 (.agg (bRow (env0 0 0 0).seal32)) (.agg (bRow (env0 0 0 0).seal32))).run Tryz.prog W = .ok true W := fun W => by kernel_rfl
  go_enter Tryz.func6, Tryz.ntmps6
  repeat' (first | go_skip | go_guarded | go_step | go_upon)
  go_ret
  exact ⟨rfl, ((Below.refl _ _).alloc (Nat.le_refl _) _).alloc (by simp) _⟩
theorem same_zero2 (w : World) (cs : Array Value) (h : cs = (env0 0 0 0).row) :
    Calls Tryz.prog 6 #[.agg (env0 0 0 0).row, .agg cs] w fun r w' => r = .returned (.bool true) ∧ Below w.heap.size w w' := by
  subst h; exact same_zero w
end Go.Proofs.YtgejmgkjhoaamaaGreatDoor
namespace Go.Proofs.YtgejmgkjhoaamaaGreatDoor
open Go.RowKit
theorem val8_lt (l : List UInt8) : ∀ k, k ≤ 8 → val8 l k < 256 ^ k
  | 0, _ => by simp [val8]
  | k + 1, h => by
    have ih := val8_lt l k (by omega)
    have hb := (l.getD (7 - k) 0).toNat_lt
    unfold val8
    refine Nat.lt_of_le_of_lt (Nat.mod_le _ _) ?_
    rw [Nat.pow_succ]
    omega
theorem val8_succ (l : List UInt8) (k : Nat) (h : k < 8) : val8 l (k + 1) = val8 l k * 256 + (l.getD (7 - k) 0).toNat := by
  have ih := val8_lt l k (by omega)
  have hb := (l.getD (7 - k) 0).toNat_lt
  have h1 : val8 l (k + 1) = (val8 l k * 256 + (l.getD (7 - k) 0).toNat) % 18446744073709551616 := by conv => lhs; unfold val8
  rw [h1]
  apply Nat.mod_eq_of_lt
  have h2 : 256 ^ (k + 1) ≤ 256 ^ 8 := Nat.pow_le_pow_right (by decide) (by omega)
  have h3 : (256 : Nat) ^ 8 = 18446744073709551616 := by decide
  rw [Nat.pow_succ] at h2
  omega
theorem val8_div (l : List UInt8) : ∀ i, i ≤ 8 → val8 l 8 / 256 ^ i = val8 l (8 - i)
  | 0, _ => by simp
  | i + 1, h => by
    rw [Nat.pow_succ, ← Nat.div_div_eq_div_mul, val8_div l i (by omega)]
    have hs := val8_succ l (7 - i) (by omega)
    have hb := (l.getD (7 - (7 - i)) 0).toNat_lt
    rw [show 7 - i + 1 = 8 - i by omega] at hs
    rw [show 8 - (i + 1) = 7 - i by omega]
    omega
theorem le8_val8 (l : List UInt8) (h : 8 ≤ l.length) : le8 (val8 l 8) = l.take 8 := by
  apply List.ext_getElem?
  intro i
  by_cases hi : i < 8
  · have h1 : (le8 (val8 l 8))[i]? = some (UInt8.ofNat (val8 l 8 >>> (8 * i))) := by
      have h2 := le8_get (val8 l 8) i hi
      rw [List.getD_eq_getElem?_getD, List.getElem?_eq_getElem (by rw [le8_length]; exact hi)] at h2
      rw [List.getElem?_eq_getElem (by rw [le8_length]; exact hi)]
      exact congrArg some h2
    rw [h1, List.getElem?_take, if_pos hi, List.getElem?_eq_getElem (by omega)]
    congr 1
    have e1 : val8 l 8 >>> (8 * i) = val8 l (8 - i) := by
      rw [Nat.shiftRight_eq_div_pow, Nat.pow_mul]
      exact val8_div l i (by omega)
    have e2 := val8_succ l (7 - i) (by omega)
    rw [show 7 - i + 1 = 8 - i by omega, show 7 - (7 - i) = i by omega, List.getD_eq_getElem?_getD, List.getElem?_eq_getElem (by omega)] at e2
    rw [e1, e2]
    apply UInt8.toNat_inj.1
    have := (l[i]'(by omega)).toNat_lt
    simp only [Option.getD_some, UInt8.toNat_ofNat']
    omega
  · rw [List.getElem?_eq_none (by rw [le8_length]; omega), List.getElem?_eq_none (by simp; omega)]
theorem u64_num (l : List UInt8) (k : Nat) : u64 (numAt l k) = val8 (l.drop k) 8 := by
  have h := val8_lt (l.drop k) 8 (by omega)
  have h3 : (256 : Nat) ^ 8 = 18446744073709551616 := by decide
  rw [h3] at h
  unfold u64 numAt
  generalize val8 (l.drop k) 8 = x at *
  rw [IntKind.wrap_i64]
  omega
theorem le8_num (l : List UInt8) (k : Nat) (h : k + 8 ≤ l.length) : le8 (u64 (numAt l k)) = (l.drop k).take 8 := by
  rw [u64_num, le8_val8 _ (by simp; omega)]
/-- The encoding of what the bytes hold is the bytes. -/
theorem env_back (l : List UInt8) (g cap : Nat) (h : 56 ≤ l.length) : hdr (envAt l g cap) ++ (envAt l g cap).seal32 ++ l.drop 56 = l := by
  have e : hdr (envAt l g cap) = l.take 24 := by
    unfold hdr hdrK envAt
    dsimp only
    rw [le8_num l 0 (by omega), le8_num l 8 (by omega), le8_num l 16 (by omega)]
    rw [List.drop_zero]
    have h1 : l.take 16 = l.take 8 ++ (l.drop 8).take 8 := by rw [← List.take_add]
    have h2 : l.take 24 = l.take 16 ++ (l.drop 16).take 8 := by rw [← List.take_add]
    rw [h2, h1]; rfl
  have e2 : (envAt l g cap).seal32 = (l.drop 24).take 32 := rfl
  rw [e, e2, ← List.take_add, List.take_append_drop]
end Go.Proofs.YtgejmgkjhoaamaaGreatDoor
