/-
  The laws of letter.Bytes, letter.Read, letter.Valid on known letters without a series.
-/
import Derived.Test.YtednpkiegiiimaaGreatDoorPkLn
import Derived.Test.YtednpkiegiiimaaGreatDoorPkTab
set_option linter.unusedSectionVars false
set_option linter.constructorNameAsVariable false
set_option linter.unusedVariables false
set_option linter.unusedSimpArgs false
namespace Go.CE
namespace V
open Go.Proofs Go.Proofs.YtednpkiegiiimaaGreatDoor Go.RowKit
/-- A letter, by numbers. -/
structure NL where
  kind : Nat
  frm : Nat
  dst : Nat
  mtg : Nat
  res : Nat
  dl : Nat
  st : Nat
  cs : List Nat
  ref : List Nat
def NL.ln (x : NL) : LN := ⟨x.kind, x.frm, x.dst, x.mtg, x.res, x.dl, x.st, x.cs, x.ref.map UInt8.ofNat⟩
def risB : List Nat → Bool
  | [] => true
  | a :: l => (match l with
    | [] => true
    | b :: _ => Nat.blt a b) && risB l
def allLt (b : Nat) : List Nat → Bool
  | [] => true
  | a :: l => Nat.blt a b && allLt b l
def allZ : List Nat → Bool
  | [] => true
  | a :: l => Nat.beq a 0 && allZ l
def lenB : List Nat → Nat → Bool
  | [], n => Nat.beq n 0
  | _ :: l, n => match n with
    | 0 => false
    | n + 1 => lenB l n
def NL.kOk (x : NL) : Bool := match x.kind with
  | 8 => Nat.beq x.res 0 && (Nat.beq x.st 0 && allZ x.ref)
  | 9 => Nat.beq x.st 0
  | 10 => Nat.beq x.dl 0
  | 11 => Nat.beq x.res 0 && Nat.beq x.dl 0
  | 12 => Nat.beq x.res 0 && Nat.beq x.dl 0
  | 13 => Nat.beq x.res 0 && (Nat.beq x.dl 0 && (Nat.beq x.st 0 && allZ x.ref))
  | 14 => Nat.beq x.res 0 && (Nat.beq x.dl 0 && Nat.ble x.st 5)
  | 18 => Nat.beq x.res 0 && (Nat.beq x.dl 0 && (Nat.beq x.st 0 && lenB x.cs 0))
  | _ => false
def NL.ok (x : NL) : Bool := x.kOk && (Nat.blt x.frm 16 && (Nat.blt x.dst 16 && (!Nat.beq x.frm x.dst && (Nat.ble 1 x.mtg && (Nat.ble x.mtg 1099511627776 && (Nat.ble x.res 255 && (Nat.ble x.dl 2251799813685248 && (Nat.ble x.st 18 && (allLt 16 x.cs && (risB x.cs && (Nat.ble (lenN' x.cs) 4 && (lenB x.ref 32 && (allLt 256 x.ref && shB x.kind (lenN' x.cs))))))))))))))
where lenN' : List Nat → Nat
  | [] => 0
  | _ :: l => lenN' l + 1
theorem lenN'_eq : ∀ l, NL.ok.lenN' l = l.length
  | [] => rfl
  | _ :: l => by simp [NL.ok.lenN', lenN'_eq l]
theorem lenB_eq : ∀ {l : List Nat} {n : Nat}, lenB l n = true → l.length = n
  | [], n, h => (Nat.eq_of_beq_eq_true h).symm
  | _ :: l, 0, h => by simp [lenB] at h
  | _ :: l, n + 1, h => by simp [lenB_eq (l := l) (n := n) h]
theorem allLt_of {b : Nat} : ∀ {l : List Nat}, allLt b l = true → ∀ c ∈ l, c < b
  | [], _, c, h => by cases h
  | a :: l, h, c, hc => by
    simp only [allLt, Bool.and_eq_true] at h
    rcases List.mem_cons.1 hc with rfl | hc
    · exact Nat.le_of_ble_eq_true h.1
    · exact allLt_of h.2 c hc
theorem allZ_of : ∀ {l : List Nat}, allZ l = true → l = List.replicate l.length 0
  | [], _ => rfl
  | a :: l, h => by
    simp only [allZ, Bool.and_eq_true] at h
    have := Nat.eq_of_beq_eq_true h.1
    subst this
    rw [List.length_cons, List.replicate_succ, ← allZ_of h.2]
theorem risB_of : ∀ {l : List Nat}, risB l = true → l.Pairwise (· < ·)
  | [], _ => .nil
  | a :: l, h => by
    simp only [risB, Bool.and_eq_true] at h
    have ih := risB_of h.2
    refine .cons (fun c hc => ?_) ih
    cases l with
    | nil => cases hc
    | cons b l =>
      have h1 : a < b := Nat.le_of_ble_eq_true h.1
      rcases List.mem_cons.1 hc with rfl | hc
      · exact h1
      · exact Nat.lt_trans h1 ((List.pairwise_cons.1 ih).1 c hc)
theorem NL.ln_ok {x : NL} (h : x.ok = true) : x.ln.Ok ∧ ∀ n ∈ x.ref, n < 256 := by
  unfold NL.ok at h
  simp only [Bool.and_eq_true] at h
  obtain ⟨hk, h1, h2, h3, h4, h5, h6, h7, h8, h9, h10, h11, h12, h13, h14⟩ := h
  have hlen : x.ref.length = 32 := lenB_eq h12
  have hz : allZ x.ref = true → x.ln.ref = zref := fun e => by
    show x.ref.map UInt8.ofNat = zref
    rw [allZ_of e, hlen]
    rfl
  have hh : (x.kind = 8 ∨ x.kind = 9 ∨ x.kind = 10 ∨ x.kind = 11 ∨ x.kind = 12 ∨ x.kind = 13 ∨ x.kind = 14 ∨ x.kind = 18) ∧ (x.kind ≠ 9 → x.kind ≠ 10 → x.res = 0) ∧ (x.kind ≠ 8 → x.kind ≠ 9 → x.dl = 0) ∧ (x.kind = 14 → x.st ≤ 5) ∧ (x.kind = 8 ∨ x.kind = 9 ∨ x.kind = 13 ∨ x.kind = 18 → x.st = 0) ∧ (x.kind = 18 → x.cs = []) ∧ (x.kind = 8 ∨ x.kind = 13 → allZ x.ref = true) := by
    unfold NL.kOk at hk
    split at hk <;> first | (cases hk; done) | skip
    all_goals
      rename_i e
      try simp only [Bool.and_eq_true] at hk
      rw [e]
    · exact ⟨by decide, fun _ _ => Nat.eq_of_beq_eq_true hk.1, fun q => absurd rfl q, (fun q => absurd q (by decide)), fun _ => Nat.eq_of_beq_eq_true hk.2.1, (fun q => absurd q (by decide)), fun _ => hk.2.2⟩
    · exact ⟨by decide, fun q => absurd rfl q, fun _ q => absurd rfl q, (fun q => absurd q (by decide)), fun _ => Nat.eq_of_beq_eq_true hk, (fun q => absurd q (by decide)), (fun q => absurd q (by decide))⟩
    · exact ⟨by decide, fun _ q => absurd rfl q, fun _ _ => Nat.eq_of_beq_eq_true hk, (fun q => absurd q (by decide)), (fun q => absurd q (by decide)), (fun q => absurd q (by decide)), (fun q => absurd q (by decide))⟩
    · exact ⟨by decide, fun _ _ => Nat.eq_of_beq_eq_true hk.1, fun _ _ => Nat.eq_of_beq_eq_true hk.2, (fun q => absurd q (by decide)), (fun q => absurd q (by decide)), (fun q => absurd q (by decide)), (fun q => absurd q (by decide))⟩
    · exact ⟨by decide, fun _ _ => Nat.eq_of_beq_eq_true hk.1, fun _ _ => Nat.eq_of_beq_eq_true hk.2, (fun q => absurd q (by decide)), (fun q => absurd q (by decide)), (fun q => absurd q (by decide)), (fun q => absurd q (by decide))⟩
    · exact ⟨by decide, fun _ _ => Nat.eq_of_beq_eq_true hk.1, fun _ _ => Nat.eq_of_beq_eq_true hk.2.1, (fun q => absurd q (by decide)), fun _ => Nat.eq_of_beq_eq_true hk.2.2.1, (fun q => absurd q (by decide)), fun _ => hk.2.2.2⟩
    · exact ⟨by decide, fun _ _ => Nat.eq_of_beq_eq_true hk.1, fun _ _ => Nat.eq_of_beq_eq_true hk.2.1, fun _ => Nat.le_of_ble_eq_true hk.2.2, (fun q => absurd q (by decide)), (fun q => absurd q (by decide)), (fun q => absurd q (by decide))⟩
    · exact ⟨by decide, fun _ _ => Nat.eq_of_beq_eq_true hk.1, fun _ _ => Nat.eq_of_beq_eq_true hk.2.1, (fun q => absurd q (by decide)), fun _ => Nat.eq_of_beq_eq_true hk.2.2.1, fun _ => List.eq_nil_of_length_eq_zero (lenB_eq hk.2.2.2), (fun q => absurd q (by decide))⟩
  obtain ⟨q1, q2, q3, q4, q5, q6, q7⟩ := hh
  refine ⟨⟨q1, Nat.le_of_ble_eq_true h1, Nat.le_of_ble_eq_true h2, fun e => ?_, Nat.le_of_ble_eq_true h4, Nat.le_of_ble_eq_true h5, Nat.le_of_ble_eq_true h6, q2, Nat.le_of_ble_eq_true h7, q3, Nat.le_of_ble_eq_true h8, q4, q5, allLt_of h9, risB_of h10, ?_, q6, ?_, fun e => hz (q7 e), by rw [lenN'_eq] at h14; exact h14⟩, allLt_of h13⟩
  · have e : x.frm = x.dst := e
    rw [e, Nat.beq_refl] at h3; cases h3
  · have := Nat.le_of_ble_eq_true h11
    rw [lenN'_eq] at this; exact this
  · show (x.ref.map UInt8.ofNat).length = 32
    rw [List.length_map]; exact hlen
/- ### The encoding, by numbers -/
def NL.hd (x : NL) : List Nat := x.kind :: x.frm :: x.dst :: le8N x.mtg
def NL.cl (x : NL) : List Nat := NL.ok.lenN' x.cs :: 0 :: 0 :: 0 :: x.cs
def z8N : List Nat := [0, 0, 0, 0, 0, 0, 0, 0]
def NL.enc (x : NL) : List Nat := match x.kind with
  | 8 => x.hd ++ (z8N ++ (z8N ++ (z8N ++ ([0, 0, 0, 0] ++ (le8N x.dl ++ (z8N ++ x.cl))))))
  | 9 => x.hd ++ (le8N x.res ++ (le8N x.dl ++ (x.cl ++ x.ref)))
  | 10 => x.hd ++ (le8N x.res ++ (le8N x.st ++ (x.cl ++ x.ref)))
  | 13 => x.hd ++ x.cl
  | 18 => x.hd ++ x.ref
  | _ => x.hd ++ (le8N x.st ++ (x.cl ++ x.ref))
theorem natsOf_app (l m : List UInt8) : natsOf (l ++ m) = natsOf l ++ natsOf m := by simp [natsOf]
theorem NL.enc_nats {x : NL} (h : x.ok = true) : natsOf x.ln.enc = x.enc := by
  obtain ⟨hok, hr⟩ := NL.ln_ok h
  have hb : ∀ n : Nat, n < 256 → (UInt8.ofNat n).toNat = n := fun n hn => by simp; omega
  have hk : x.kind < 256 := by have : x.ln.kind < 256 := (by rcases hok.kd with e | e | e | e | e | e | e | e <;> omega); exact this
  have h1 : x.frm < 16 := hok.frm
  have h2 : x.dst < 16 := hok.dst
  have h3 : x.cs.length ≤ 4 := hok.len
  have e1 : natsOf x.ln.hd = x.hd := by
    unfold LN.hd NL.hd
    rw [natsOf_app, le8_nats]
    show [(UInt8.ofNat x.kind).toNat, (UInt8.ofNat x.frm).toNat, (UInt8.ofNat x.dst).toNat] ++ le8N x.mtg = _
    rw [hb _ hk, hb _ (by omega), hb _ (by omega)]
    rfl
  have e2 : natsOf (cl8 x.ln.cs) = x.cl := by
    unfold cl8 NL.cl
    rw [natsOf_app]
    show [(UInt8.ofNat x.cs.length).toNat, 0, 0, 0] ++ natsOf (x.cs.map UInt8.ofNat) = _
    rw [hb _ (by omega), nats_back x.cs (fun n hn => by have : n < 16 := hok.cs n hn; omega), lenN'_eq]
    rfl
  have e3 : natsOf x.ln.ref = x.ref := nats_back x.ref hr
  have e4 : natsOf z8b = z8N := rfl
  have e5 : natsOf [0, 0, 0, 0] = [0, 0, 0, 0] := rfl
  have ek : x.ln.kind = x.kind := rfl
  have er : x.ln.res = x.res := rfl
  have ed : x.ln.dl = x.dl := rfl
  have es : x.ln.st = x.st := rfl
  unfold LN.enc NL.enc
  rw [ek]
  have hkd : x.kind = 8 ∨ x.kind = 9 ∨ x.kind = 10 ∨ x.kind = 11 ∨ x.kind = 12 ∨ x.kind = 13 ∨ x.kind = 14 ∨ x.kind = 18 := hok.kd
  rcases hkd with e | e | e | e | e | e | e | e <;> simp only [e] <;> simp only [natsOf_app, e1, e2, e3, e4, e5, le8_nats, er, ed, es]
/- ### The row, by numbers -/
def tmpl : List Nat := [1, 1, 1, 1, 0, 0, 0, 0, 0, 1, 0, 0, 0, 2, 0, 0, 0, 3, 0, 0, 4, 0, 0, 3, 1, 1, 0, 0, 0]
def rowN : List Nat → List AV → Option (List Nat)
  | [], _ => some []
  | 0 :: t, .i .i64 (.ofNat 0) :: l => rowN t l
  | 1 :: t, .i .i64 (.ofNat n) :: l => match rowN t l with
    | some r => some (n :: r)
    | none => none
  | 2 :: t, .b false :: l => rowN t l
  | 3 :: t, .sl none 0 0 :: l => rowN t l
  | 4 :: t, .s [] :: l => rowN t l
  | _, _ => none
def fillN : List Nat → List Nat → List AV
  | [], _ => []
  | 0 :: t, r => .i .i64 (.ofNat 0) :: fillN t r
  | 1 :: t, r => .i .i64 (.ofNat (r.getD 0 0)) :: fillN t (r.drop 1)
  | 2 :: t, r => .b false :: fillN t r
  | 3 :: t, r => .sl none 0 0 :: fillN t r
  | _ :: t, r => .s [] :: fillN t r
theorem rowN_fill : ∀ (t : List Nat) (l : List AV) (r : List Nat), rowN t l = some r → l.take t.length = fillN t r := by
  intro t
  induction t with
  | nil => intro l r _; rfl
  | cons a t ih =>
    intro l r h
    unfold rowN at h
    split at h
    · rename_i heq
      cases heq
    · rename_i t' l' heq
      cases heq
      simp only [List.length_cons, List.take_succ_cons, fillN, ih _ _ h]
    · rename_i t' n l' heq
      cases heq
      split at h
      · rename_i r' hr
        cases h
        simp only [List.length_cons, List.take_succ_cons, fillN, ih _ _ hr, List.getD_cons_zero, List.drop_succ_cons, List.drop_zero]
      · cases h
    · rename_i t' l' heq
      cases heq
      simp only [List.length_cons, List.take_succ_cons, fillN, ih _ _ h]
    · rename_i t' l' heq
      cases heq
      simp only [List.length_cons, List.take_succ_cons, fillN, ih _ _ h]
    · rename_i t' l' heq
      cases heq
      simp only [List.length_cons, List.take_succ_cons, fillN, ih _ _ h]
    · cases h
end V
end Go.CE
namespace Go.CE
namespace V
open Go.Proofs Go.Proofs.YtednpkiegiiimaaGreatDoor Go.RowKit
section
variable [Sym]
def intsA : List AV → Option (List Nat)
  | [] => some []
  | .i .i64 (.ofNat n) :: l => match intsA l with
    | some r => some (n :: r)
    | none => none
  | _ => none
def intN (n : Nat) : AV := .i .i64 (.ofNat n)
theorem intsA_of : ∀ {l : List AV} {r : List Nat}, intsA l = some r → l = r.map intN := by
  intro l
  induction l with
  | nil => intro r h; cases h; rfl
  | cons a l ih =>
    intro r h
    unfold intsA at h
    split at h
    · rename_i heq; cases heq
    · rename_i n l' heq
      cases heq
      split at h
      · rename_i r' hr
        cases h
        rw [ih hr]; rfl
      · cases h
    · cases h
/-- A letter out of its row and its cells. -/
def nlA (cs : List AV) (l : List AV) : Option NL := match rowN tmpl cs, intsA l, bytesA (cs.drop 30) with
  | some [kd, fr, ds, mt, rs, dl, st], some c, some b => some ⟨kd, fr, ds, mt, rs, dl, st, c, b⟩
  | _, _, _ => none
def rowX (x : NL) (c : AV) : List AV := fillN tmpl [x.kind, x.frm, x.dst, x.mtg, x.res, x.dl, x.st] ++ c :: x.ref.map byteN
theorem nlA_of {cs l : List AV} {x : NL} {c : AV} (h : nlA cs l = some x) (hc : cs[29]? = some c) : cs = rowX x c ∧ l = x.cs.map intN ∧ ∀ n ∈ x.ref, n < 256 := by
  unfold nlA at h
  split at h
  · rename_i kd fr ds mt rs dl st cc b h1 h2 h3
    cases h
    have e1 := rowN_fill tmpl cs _ h1
    have e2 := intsA_of h2
    obtain ⟨e3, e4⟩ := bytesA_of h3
    refine ⟨?_, e2, e4⟩
    have hlt : 29 < cs.length := (List.getElem?_eq_some_iff.1 hc).1
    have hg : cs[29] = c := (List.getElem?_eq_some_iff.1 hc).2
    have e5 : cs = cs.take 29 ++ cs[29] :: cs.drop 30 := by
      rw [← List.drop_eq_getElem_cons hlt, List.take_append_drop]
    rw [e5, hg, e3]
    show cs.take 29 ++ _ = _
    have e1 : cs.take 29 = fillN tmpl [kd, fr, ds, mt, rs, dl, st] := e1
    rw [e1]
    rfl
  · cases h
/-- The cells of a letter's slice. -/
def cellV : AV → X (List AV)
  | .sl none n c => CE.bnd (CE.chk (Nat.beq n 0 && Nat.beq c 0)) fun _ => CE.ret []
  | .se => CE.ret []
  | .sl (some (k, o)) n _ => CE.bnd (CE.chk (gw k && Nat.ble 1 n)) fun _ => CE.bnd (rdT k) fun T => CE.bnd (CE.chk (Nat.beq T 3)) fun _ => rdK k o n
  | _ => CE.fail
def cellE (cs : List AV) : X (List AV) := CE.bnd (CE.lift (cs[29]? : Option AV)) cellV
theorem cellV_loc (v : AV) : Loc (cellV v) := by
  unfold cellV
  split
  · exact Loc.bnd (Loc.chk _) fun _ => Loc.ret _
  · exact Loc.ret _
  · exact Loc.bnd (Loc.chk _) fun _ => Loc.bnd (Loc.rdT _) fun _ => Loc.bnd (Loc.chk _) fun _ => Loc.rdK _ _ _
  · exact Loc.fail
theorem cellE_loc (cs : List AV) : Loc (cellE cs) := Loc.bnd (Loc.lift _) fun _ => cellV_loc _
def bytesE : List AV → X AV := fun args => match args with
  | [.g cs] => CE.bnd (cellE cs) fun l => CE.bnd (CE.lift (nlA cs l)) fun x => CE.bnd (CE.chk x.ok) fun _ => CE.bnd (newB true (.cells (x.enc.map byteN) 5)) fun k => CE.ret (.t [.sl (some (k, 0)) x.enc.length x.enc.length, .i .i64 (.ofNat 0)])
  | _ => CE.fail
def validE : List AV → X AV := fun args => match args with
  | [.g cs] => CE.bnd (cellE cs) fun l => CE.bnd (CE.lift (nlA cs l)) fun x => CE.bnd (CE.chk x.ok) fun _ => CE.ret (.i .i64 (.ofNat 0))
  | _ => CE.fail
theorem bytesE_loc (x : List AV) : Loc (bytesE x) := by
  unfold bytesE
  split
  · exact Loc.bnd (cellE_loc _) fun _ => Loc.bnd (Loc.lift _) fun _ => Loc.bnd (Loc.chk _) fun _ => Loc.bnd (Loc.newB _ _) fun _ => Loc.ret _
  · exact Loc.fail
theorem validE_loc (x : List AV) : Loc (validE x) := by
  unfold validE
  split
  · exact Loc.bnd (cellE_loc _) fun _ => Loc.bnd (Loc.lift _) fun _ => Loc.bnd (Loc.chk _) fun _ => Loc.ret _
  · exact Loc.fail
/- ### Reading: a letter out of bytes -/
def at8 (l : List Nat) : Nat := l.getD 0 0 + 256 * (l.getD 1 0 + 256 * (l.getD 2 0 + 256 * (l.getD 3 0 + 256 * (l.getD 4 0 + 256 * (l.getD 5 0 + 256 * (l.getD 6 0 + 256 * l.getD 7 0))))))
def decL (l : List Nat) : NL := match l.getD 0 0 with
  | 8 => ⟨8, l.getD 1 0, l.getD 2 0, at8 (l.drop 3), 0, at8 (l.drop 39), 0, (l.drop 59).take (l.getD 55 0), List.replicate 32 0⟩
  | 9 => ⟨9, l.getD 1 0, l.getD 2 0, at8 (l.drop 3), at8 (l.drop 11), at8 (l.drop 19), 0, (l.drop 31).take (l.getD 27 0), l.drop (31 + l.getD 27 0)⟩
  | 10 => ⟨10, l.getD 1 0, l.getD 2 0, at8 (l.drop 3), at8 (l.drop 11), 0, at8 (l.drop 19), (l.drop 31).take (l.getD 27 0), l.drop (31 + l.getD 27 0)⟩
  | 13 => ⟨13, l.getD 1 0, l.getD 2 0, at8 (l.drop 3), 0, 0, 0, (l.drop 15).take (l.getD 11 0), List.replicate 32 0⟩
  | 18 => ⟨18, l.getD 1 0, l.getD 2 0, at8 (l.drop 3), 0, 0, 0, [], l.drop 11⟩
  | k => ⟨k, l.getD 1 0, l.getD 2 0, at8 (l.drop 3), 0, 0, at8 (l.drop 11), (l.drop 23).take (l.getD 19 0), l.drop (23 + l.getD 19 0)⟩
def NL.rdOk (x : NL) : Bool := match x.kind, x.cs with
  | 8, [] => false
  | 13, [] => false
  | _, _ => true
/-- Is it the letter with these bytes? -/
def NL.isOf (x : NL) (bs : List Nat) : Bool := listEq x.enc bs && (x.ok && x.rdOk)
def readE : List AV → X AV := fun args => match args with
  | [.sl (some (k, o)) n _] => CE.bnd (CE.chk (gw k)) fun _ => CE.bnd (rdT k) fun T => CE.bnd (CE.chk (Nat.beq T 5)) fun _ => CE.bnd (rdK k o n) fun l => CE.bnd (CE.lift (bytesA l)) fun bs => CE.bnd (CE.chk ((decL bs).isOf bs)) fun _ => match (decL bs).cs with
    | [] => CE.ret (.t [.g (rowX (decL bs) (.sl none 0 0)), .i .i64 (.ofNat 0)])
    | _ :: _ => CE.bnd (newB true (.cells ((decL bs).cs.map intN) 3)) fun q => CE.ret (.t [.g (rowX (decL bs) (.sl (some (q, 0)) (decL bs).cs.length (decL bs).cs.length)), .i .i64 (.ofNat 0)])
  | _ => CE.fail
theorem readE_loc (x : List AV) : Loc (readE x) := by
  unfold readE
  split
  · refine Loc.bnd (Loc.chk _) fun _ => Loc.bnd (Loc.rdT _) fun _ => Loc.bnd (Loc.chk _) fun _ => Loc.bnd (Loc.rdK _ _ _) fun _ => Loc.bnd (Loc.lift _) fun bs => Loc.bnd (Loc.chk _) fun _ => ?_
    split
    · exact Loc.ret _
    · exact Loc.bnd (Loc.newB _ _) fun _ => Loc.ret _
  · exact Loc.fail
end
section
variable [Sym] [SymOk]
theorem cut_of {cs l : List AV} {o n : Nat} (h : cut cs o n = some l) : l.length = n ∧ ∀ i, i < n → cs[o + i]? = l[i]? := by
  unfold cut at h
  dsimp only at h
  split at h
  · rename_i hb
    cases h
    have hb := Nat.eq_of_beq_eq_true hb
    refine ⟨hb, fun i hi => ?_⟩
    rw [List.getElem?_take, if_pos hi, List.getElem?_drop]
  · cases h
/-- A slice that the evaluator knows. -/
theorem sl_from {T B k o n c : Nat} {P : Program} {σ : Sg} {m : Tr AB} {W : World} {cs l : List AV} {v : Value} (hT : P.cellsOf T = 1) (hs : SR P B σ m W) (hm : m.get k = some (.cells cs T)) (hcut : cut cs o n = some l) (hgw : gw k = true) (hix : l.all isIX = true) (hv : VR σ (.sl (some (k, o)) n c) v) : Sl 0 W v T (l.map valX) := by
  obtain ⟨hn, hg⟩ := cut_of hcut
  obtain ⟨Q, ob, hQ, hh, row, hrow, _, h2, h3, h4⟩ := hs.mr k _ hm
  obtain ⟨h2a, h2b⟩ := h2 hgw
  cases hv with
  | sl _ _ _ _ c' Q' hQ' hcle _ hz =>
    rw [hQ] at hQ'; cases hQ'
    have hz := hz hgw
    rw [← h2b, hT, Nat.mul_one] at hz
    have hol : n = 0 ∨ o + n ≤ cs.length := by
      by_cases e : n = 0
      · exact .inl e
      · have := hg (n - 1) (by omega)
        rw [List.getElem?_eq_getElem (show n - 1 < l.length by omega)] at this
        have := (List.getElem?_eq_some_iff.1 this).1
        exact .inr (by omega)
    refine ⟨Q.b, o + Q.d, c', row, by rw [List.length_map, hn], Nat.zero_le _, by rw [hh, hrow], by omega, ?_, fun i hi => ?_⟩
    · rw [List.length_map, hn]
      rcases hol with e | e
      · omega
      · omega
    · rw [List.length_map] at hi
      have hx := hg i (by omega)
      rw [List.getElem?_eq_getElem hi] at hx
      have hol : o + n ≤ cs.length := by rcases hol with e | e <;> omega
      have hlt : Q.d + (o + i) < row.size := by omega
      have hvr := h4 (o + i) _ row[Q.d + (o + i)] hx (Array.getElem?_eq_getElem hlt)
      have := vr_valX hvr (List.all_eq_true.1 hix _ (List.getElem_mem _))
      rw [show o + Q.d + i = Q.d + (o + i) by omega, Array.getElem?_eq_getElem hlt, this]
      rw [List.getElem?_map, List.getElem?_eq_getElem hi]
      rfl
theorem agg_det {σ : Sg} {l : List AV} {a b : Array Value} (h1 : LR σ l a) (h2 : LR σ l b) (hy : ∀ (i : Nat) (x : AV), l[i]? = some x → isY x = true ∨ a[i]? = b[i]?) : a = b := by
  apply Array.ext_getElem?
  intro i
  by_cases hi : i < l.length
  · rcases hy i _ (List.getElem?_eq_getElem hi) with e | e
    · obtain ⟨v1, q1, r1⟩ := h1.at (List.getElem?_eq_getElem hi)
      obtain ⟨v2, q2, r2⟩ := h2.at (List.getElem?_eq_getElem hi)
      rw [q1, q2, vr_det e r1 r2]
    · exact e
  · rw [Array.getElem?_eq_none (by rw [← h1.len]; omega), Array.getElem?_eq_none (by rw [← h2.len]; omega)]
theorem ref_lvN {σ : Sg} : ∀ {b : List Nat}, (∀ n ∈ b, n < 256) → LV σ (b.map byteN) ((b.map UInt8.ofNat).map fun c => B8 c.toNat)
  | [], _ => trivial
  | n :: b, h => by
    refine ⟨?_, ref_lvN (b := b) fun m hm => h m (by simp [hm])⟩
    have hn := h n (by simp)
    have : (UInt8.ofNat n).toNat = n := by simp; omega
    show VR σ (.i .u8 (.ofNat n)) (Value.int .u8 (Int.ofNat (UInt8.ofNat n).toNat))
    rw [this]; exact .i _ _
theorem lit_row {σ : Sg} {x : NL} (hr : ∀ n ∈ x.ref, n < 256) {c : AV} {u : Value} (hc : VR σ c u) : VR σ (.g (rowX x c)) (.agg (x.ln.let u).row) := by
  rw [row_list]
  have z : VR σ (.i .i64 (.ofNat 0)) (.int .i64 0) := .i .i64 0
  have hh : LV σ (fillN tmpl [x.kind, x.frm, x.dst, x.mtg, x.res, x.dl, x.st]) [.int .i64 x.kind, .int .i64 x.frm, .int .i64 x.dst, .int .i64 x.mtg, .int .i64 0, .int .i64 0, .int .i64 0, .int .i64 0, .int .i64 0, .int .i64 x.res, .int .i64 0, .int .i64 0,
    .int .i64 0, .bool false, .int .i64 0, .int .i64 0, .int .i64 0, .slice none 0 0, .int .i64 0, .int .i64 0, .string ByteArray.empty, .int .i64 0, .int .i64 0, .slice none 0 0, .int .i64 x.dl, .int .i64 x.st, .int .i64 0, .int .i64 0, .int .i64 0] :=
    ⟨.i _ _, .i _ _, .i _ _, .i _ _, z, z, z, z, z, .i _ _, z, z, z, .b _, z, z, z, .sln _ _, z, z, .s _ _ rfl, z, z, .sln _ _, .i _ _, .i _ _, z, z, z, trivial⟩
  have ht : LV σ (c :: x.ref.map byteN) (u :: x.ln.ref.map fun c => B8 c.toNat) := ⟨hc, ref_lvN hr⟩
  have hg := LR.g (LV.lr (LV.app hh ht))
  exact hg
theorem rowX_y (x : NL) (c : AV) (i : Nat) (hi : i ≠ 29) (a : AV) (h : (rowX x c)[i]? = some a) : isY a = true := by
  unfold rowX at h
  have hH : (fillN tmpl [x.kind, x.frm, x.dst, x.mtg, x.res, x.dl, x.st]).length = 29 := rfl
  by_cases h1 : i < 29
  · rw [List.getElem?_append_left (by omega)] at h
    have hm := List.mem_of_getElem? h
    simp only [tmpl, fillN, List.mem_cons, List.not_mem_nil, or_false] at hm
    rcases hm with rfl | rfl | rfl | rfl | rfl | rfl | rfl | rfl | rfl | rfl | rfl | rfl | rfl | rfl | rfl | rfl | rfl | rfl | rfl | rfl | rfl | rfl | rfl | rfl | rfl | rfl | rfl | rfl | rfl <;> rfl
  · rw [List.getElem?_append_right (by omega), hH] at h
    obtain ⟨j, rfl⟩ : ∃ j, i = j + 30 := ⟨i - 30, by omega⟩
    rw [show j + 30 - 29 = j + 1 by omega, List.getElem?_cons_succ] at h
    have hm := List.mem_of_getElem? h
    obtain ⟨n, _, rfl⟩ := List.mem_map.1 hm
    rfl
theorem rowX_29 (x : NL) (c : AV) : (rowX x c)[29]? = some c := rfl
theorem one_val {σ : Sg} {x : AV} {vals : Array Value} (hl : LR σ [x] vals) : ∃ v0, vals = #[v0] ∧ VR σ x v0 := by
  have hsz : vals.size = 1 := hl.len.symm
  obtain ⟨v0, e0, hv0⟩ := hl.at (i := 0) rfl
  refine ⟨v0, ?_, hv0⟩
  apply Array.ext
  · simpa using hsz
  · intro i h1 h2
    have : i = 0 := by omega
    subst this
    simpa using (Array.getElem?_eq_some_iff.1 e0).2
/-- The argument of a call, as a letter. -/
theorem let_arg {B : Nat} {σ : Sg} {m m1 : Tr AB} {n n1 : Nat} {l w l1 w1 : List LE} {W : World} {cs lst : List AV} {x : NL} {vals : Array Value} (hs : SR Tryz.prog B σ m W) (hl : LR σ [.g cs] vals) (hc : cellE cs ⟨m, n, l, w⟩ = some (lst, ⟨m1, n1, l1, w1⟩)) (hx : nlA cs lst = some x) :
    m1 = m ∧ n1 = n ∧ ∃ u, vals = #[.agg (x.ln.let u).row] ∧ CellV 0 W u x.cs := by
  obtain ⟨v0, rfl, hv⟩ := one_val hl
  obtain ⟨arr, rfl, ha⟩ := hv.lr_g
  have fin : ∀ c u, cs[29]? = some c → arr[29]? = some u → VR σ c u → arr = (x.ln.let u).row := fun c u h1 h2 h3 => by
    obtain ⟨e1, e2, e3⟩ := nlA_of hx h1
    obtain ⟨arr2, q1, q2⟩ := (lit_row (σ := σ) e3 h3).lr_g
    cases q1
    rw [← e1] at q2
    refine agg_det ha q2 fun i a hi => ?_
    by_cases e : i = 29
    · subst e; right; rw [h2]; exact (Let_29 (x.ln.let u)).symm
    · left; rw [e1] at hi; exact rowX_y x c i e a hi
  unfold cellE at hc
  obtain ⟨c0, s0, g0, hc⟩ := bnd_of hc
  obtain ⟨h29, e0⟩ := lift_of g0
  cases e0
  obtain ⟨u, hu, hvu⟩ := ha.at h29
  obtain ⟨q1, q2, q3⟩ := nlA_of hx h29
  cases c0 <;> first | (cases hc; done) | skip
  · rename_i a0 nn cc
    rcases a0 with _ | ⟨k, o⟩
    · obtain ⟨_, s1, g1, x1⟩ := bnd_of hc
      obtain ⟨hch, e1⟩ := chk_of g1
      cases e1
      simp only [Bool.and_eq_true] at hch
      obtain rfl := Nat.eq_of_beq_eq_true hch.1
      obtain rfl := Nat.eq_of_beq_eq_true hch.2
      obtain ⟨e1, e3⟩ := ret_of x1
      cases e1; cases e3
      have hcs : x.cs = [] := List.map_eq_nil_iff.1 q2.symm
      refine ⟨rfl, rfl, u, by rw [fin _ _ h29 hu hvu], .inl ⟨hcs, ?_⟩⟩
      cases hvu; exact .inl rfl
    · obtain ⟨_, s1, g1, x1⟩ := bnd_of hc
      obtain ⟨hch, e1⟩ := chk_of g1
      cases e1
      simp only [Bool.and_eq_true] at hch
      obtain ⟨T, ⟨m2, n2, l2, w2⟩, g2, x2⟩ := bnd_of x1
      obtain ⟨⟨c1, hk1⟩, e1, e2⟩ := rdT_of g2
      dsimp only at e1 e2 hk1
      subst e1; subst e2
      obtain ⟨_, s1, g3, x3⟩ := bnd_of x2
      obtain ⟨hT, e1⟩ := chk_of g3
      cases e1
      have hT := Nat.eq_of_beq_eq_true hT
      subst hT
      obtain ⟨e1, e2, c2, T2, hk2, hcut⟩ := rdK_of x3
      cases e1; cases e2
      rw [hk1] at hk2; cases hk2
      have hix : lst.all isIX = true := by
        rw [q2, List.all_eq_true]
        intro a ha
        obtain ⟨n, _, rfl⟩ := List.mem_map.1 ha
        rfl
      have hsl := sl_from cells_int hs hk1 hcut hch.1 hix hvu
      have hlen := (cut_of hcut).1
      refine ⟨rfl, rfl, u, by rw [fin _ _ h29 hu hvu], .inr ⟨fun e => ?_, ?_⟩⟩
      · rw [e] at q2; rw [q2] at hlen
        have : 1 ≤ nn := Nat.le_of_ble_eq_true hch.2
        simp at hlen; omega
      · have : lst.map valX = x.cs.map fun (c : Nat) => Value.int .i64 (c : Int) := by rw [q2, List.map_map]; rfl
        rwa [this] at hsl
  · obtain ⟨e1, e3⟩ := ret_of hc
    cases e1; cases e3
    have hcs : x.cs = [] := List.map_eq_nil_iff.1 q2.symm
    refine ⟨rfl, rfl, u, by rw [fin _ _ h29 hu hvu], .inl ⟨hcs, ?_⟩⟩
    cases hvu; exact .inr ⟨_, _, rfl⟩
theorem bytesE_sound (B : Nat) (σ : Sg) (m : Tr AB) (n : Nat) (l w : List LE) (W : World) (args : List AV) (v : AV) (m' : Tr AB) (n' : Nat) (l' w' : List LE) (vals : Array Value)
    (_ : GS σ) (hs : SR Tryz.prog B σ m W) (hl : LR σ args vals) (hx : bytesE args ⟨m, n, l, w⟩ = some (v, ⟨m', n', l', w'⟩)) (hfr : Fresh σ n n') :
    (callFunc 59 vals).run Tryz.prog W = .ok (.enter 59 vals) W ∧ Calls Tryz.prog 59 vals W (Done Tryz.prog B σ n n' m' v W) := by
  refine ⟨enters _ ⟨_, Tryz.func59, by kernel_rfl, by kernel_rfl⟩ vals W, ?_⟩
  unfold bytesE at hx
  split at hx
  · rename_i cs
    obtain ⟨lst, ⟨m1, n1, l1, w1⟩, g1, x1⟩ := bnd_of hx
    obtain ⟨x, s2, g2, x2⟩ := bnd_of x1
    obtain ⟨hx0, e2⟩ := lift_of g2
    cases e2
    obtain ⟨rfl, rfl, u, rfl, hcell⟩ := let_arg hs hl g1 hx0
    obtain ⟨_, s1, g3, x3⟩ := bnd_of x2
    obtain ⟨hok, e1⟩ := chk_of g3
    cases e1
    obtain ⟨k, ⟨m4, n4, l4, w4⟩, g4, x4⟩ := bnd_of x3
    obtain ⟨rfl, rfl, rfl⟩ := newB_of g4
    obtain ⟨e1, e3⟩ := ret_of x4
    cases e1; cases e3
    obtain ⟨hln, hr⟩ := NL.ln_ok hok
    have hk : σ (idOf true n1) = none := hfr _ (idOf_lo true n1).1 (idOf_lo true n1).2
    refine (bytes_calls hln hcell).mono fun e W' he => ?_
    obtain ⟨s, he, hsl, hB⟩ := he
    obtain ⟨b, o, c, row, rfl, hbb, ho, hoc, hlc, hge⟩ := hsl
    have hen : x.enc = natsOf x.ln.enc := (NL.enc_nats hok).symm
    have hlen : x.enc.length = x.ln.enc.length := by rw [hen]; simp [natsOf]
    rw [List.length_map] at hlc hge
    have hbr : BR Tryz.prog (σ.add (idOf true n1) ⟨b, o, row.size, 1⟩) (idOf true n1) ⟨b, o, row.size, 1⟩ (.cells (x.enc.map byteN) 5) (.cells row 5 (0, 0)) := by
      refine ⟨row, rfl, (fun h => by rw [gw_idOf] at h; cases h), (fun _ => ⟨rfl, cells_u8⟩), by rw [List.length_map]; show o + x.enc.length ≤ row.size; omega, fun i a v e1 e2 => ?_⟩
      rw [hen, List.getElem?_map] at e1
      have e2 : row[o + i]? = some v := e2
      cases hi : (natsOf x.ln.enc)[i]? with
      | none => rw [hi] at e1; cases e1
      | some q =>
        rw [hi] at e1; cases e1
        have hil : i < x.ln.enc.length := by
          have := (List.getElem?_eq_some_iff.1 hi).1
          simpa [natsOf] using this
        rw [hge i hil, List.getElem?_map, List.getElem?_eq_getElem hil] at e2
        cases e2
        unfold natsOf at hi
        rw [List.getElem?_map, List.getElem?_eq_getElem hil] at hi
        cases hi
        exact .i _ _
    have hS := SR.freshW hs hB hk hbb ho hbr
    refine ⟨σ.add (idOf true n1) ⟨b, o, row.size, 1⟩, _, he, Grow.add hk (idOf_lo true n1), hS, ?_, hB.mono hs.hB⟩
    have hv0 : VR (σ.add (idOf true n1) ⟨b, o, row.size, 1⟩) (.sl (some (idOf true n1, 0)) x.enc.length x.enc.length) (.slice (some ⟨b, o, none⟩) x.ln.enc.length c) := by
      have := VR.sl (σ := σ.add (idOf true n1) ⟨b, o, row.size, 1⟩) (idOf true n1) 0 x.enc.length x.enc.length c ⟨b, o, row.size, 1⟩ (by simp [Sg.add]) (by omega) (fun h => by rw [gw_idOf] at h; cases h) (fun _ => by show 0 + o + c * 1 = row.size; omega)
      rw [hlen] at this ⊢
      simpa using this
    have hl2 := LR.t (LV.lr (σ := σ.add (idOf true n1) ⟨b, o, row.size, 1⟩) (l := [.sl (some (idOf true n1, 0)) x.enc.length x.enc.length, .i .i64 (.ofNat 0)]) (m := [.slice (some ⟨b, o, none⟩) x.ln.enc.length c, .int .i64 0]) ⟨hv0, .i _ _, trivial⟩)
    simpa using hl2
  · cases hx
theorem validE_sound (B : Nat) (σ : Sg) (m : Tr AB) (n : Nat) (l w : List LE) (W : World) (args : List AV) (v : AV) (m' : Tr AB) (n' : Nat) (l' w' : List LE) (vals : Array Value)
    (_ : GS σ) (hs : SR Tryz.prog B σ m W) (hl : LR σ args vals) (hx : validE args ⟨m, n, l, w⟩ = some (v, ⟨m', n', l', w'⟩)) (_ : Fresh σ n n') :
    (callFunc 13 vals).run Tryz.prog W = .ok (.enter 13 vals) W ∧ Calls Tryz.prog 13 vals W (Done Tryz.prog B σ n n' m' v W) := by
  refine ⟨enters _ ⟨_, Tryz.func13, by kernel_rfl, by kernel_rfl⟩ vals W, ?_⟩
  unfold validE at hx
  split at hx
  · rename_i cs
    obtain ⟨lst, ⟨m1, n1, l1, w1⟩, g1, x1⟩ := bnd_of hx
    obtain ⟨x, s2, g2, x2⟩ := bnd_of x1
    obtain ⟨hx0, e2⟩ := lift_of g2
    cases e2
    obtain ⟨rfl, rfl, u, rfl, hcell⟩ := let_arg hs hl g1 hx0
    obtain ⟨_, s1, g3, x3⟩ := bnd_of x2
    obtain ⟨hok, e1⟩ := chk_of g3
    cases e1
    obtain ⟨e1, e3⟩ := ret_of x3
    cases e1; cases e3
    obtain ⟨hln, hr⟩ := NL.ln_ok hok
    refine (valid_calls hln hcell).mono fun e W' he => ?_
    obtain ⟨he, hB⟩ := he
    exact ⟨σ, _, he, Grow.refl _ _ _, belowS hs hB, .i _ _, hB.mono hs.hB⟩
  · cases hx
end
end V
end Go.CE
namespace Go.CE
namespace V
open Go.Proofs Go.Proofs.YtednpkiegiiimaaGreatDoor Go.RowKit
section
variable [Sym] [SymOk]
theorem listEq_of : ∀ {l m : List Nat}, listEq l m = true → l = m
  | [], [], _ => rfl
  | [], _ :: _, h => by cases h
  | _ :: _, [], h => by cases h
  | a :: l, b :: m, h => by
    unfold listEq at h
    split at h
    · rename_i hb
      rw [Nat.eq_of_beq_eq_true hb, listEq_of h]
    · cases h
theorem rdOk_of {x : NL} (h : x.rdOk = true) : x.ln.kind = 8 ∨ x.ln.kind = 13 → x.ln.cs ≠ [] := by
  intro e hc
  have e : x.kind = 8 ∨ x.kind = 13 := e
  have hc : x.cs = [] := hc
  unfold NL.rdOk at h
  rw [hc] at h
  rcases e with e | e <;> (rw [e] at h; cases h)
/-- New cells of a slice that reaches to its block's end. -/
theorem new_sl {B : Nat} {σ : Sg} {m : Tr AB} {n1 : Nat} {W W' : World} {T : Nat} {l : List AV} {s : Value} (hT : Tryz.prog.cellsOf T = 1) (hs : SR Tryz.prog B σ m W) (hB : Below W.heap.size W W') (hk : σ (idOf true n1) = none) (hix : l.all isIX = true) (hsl : Sl W.heap.size W' s T (l.map valX)) :
    ∃ q, SR Tryz.prog B (σ.add (idOf true n1) q) (m.set (idOf true n1) (some (.cells l T))) W' ∧ VR (σ.add (idOf true n1) q) (.sl (some (idOf true n1, 0)) l.length l.length) s := by
  obtain ⟨b, o, c, row, rfl, hbb, ho, hoc, hlc, hge⟩ := hsl
  rw [List.length_map] at hlc hge
  refine ⟨⟨b, o, row.size, 1⟩, SR.freshW hs hB hk hbb ho ⟨row, rfl, (fun h => by rw [gw_idOf] at h; cases h), (fun _ => ⟨rfl, hT⟩), by show o + l.length ≤ row.size; omega, fun i a v e1 e2 => ?_⟩, ?_⟩
  · have hi : i < l.length := (List.getElem?_eq_some_iff.1 e1).1
    have e2 : row[o + i]? = some v := e2
    rw [hge i hi, List.getElem?_map, e1] at e2
    cases e2
    exact valX_vr _ (List.all_eq_true.1 hix a (List.mem_of_getElem? e1))
  · rw [List.length_map]
    have := VR.sl (σ := σ.add (idOf true n1) ⟨b, o, row.size, 1⟩) (idOf true n1) 0 l.length l.length c ⟨b, o, row.size, 1⟩ (by simp [Sg.add]) hlc (fun h => by rw [gw_idOf] at h; cases h) (fun _ => by show 0 + o + c * 1 = row.size; omega)
    simpa using this
theorem readE_sound (B : Nat) (σ : Sg) (m : Tr AB) (n : Nat) (l w : List LE) (W : World) (args : List AV) (v : AV) (m' : Tr AB) (n' : Nat) (l' w' : List LE) (vals : Array Value)
    (_ : GS σ) (hs : SR Tryz.prog B σ m W) (hl : LR σ args vals) (hx : readE args ⟨m, n, l, w⟩ = some (v, ⟨m', n', l', w'⟩)) (hfr : Fresh σ n n') :
    (callFunc 94 vals).run Tryz.prog W = .ok (.enter 94 vals) W ∧ Calls Tryz.prog 94 vals W (Done Tryz.prog B σ n n' m' v W) := by
  refine ⟨enters _ ⟨_, Tryz.func94, by kernel_rfl, by kernel_rfl⟩ vals W, ?_⟩
  unfold readE at hx
  split at hx
  · rename_i k o nn cc
    obtain ⟨v0, rfl, hv⟩ := one_val hl
    obtain ⟨_, s1, g1, x1⟩ := bnd_of hx
    obtain ⟨hgw, e1⟩ := chk_of g1
    cases e1
    obtain ⟨T, ⟨m2, n2, l2, w2⟩, g2, x2⟩ := bnd_of x1
    obtain ⟨⟨c1, hk1⟩, e1, e2⟩ := rdT_of g2
    dsimp only at e1 e2 hk1
    subst e1; subst e2
    obtain ⟨_, s1, g3, x3⟩ := bnd_of x2
    obtain ⟨hT, e1⟩ := chk_of g3
    cases e1
    obtain rfl := Nat.eq_of_beq_eq_true hT
    obtain ⟨lst, ⟨m3, n3, l3, w3⟩, g4, x4⟩ := bnd_of x3
    obtain ⟨e1, e2, c2, T2, hk2, hcut⟩ := rdK_of g4
    cases e1; cases e2
    rw [hk1] at hk2; cases hk2
    obtain ⟨bs, s5, g5, x5⟩ := bnd_of x4
    obtain ⟨hbs, e5⟩ := lift_of g5
    cases e5
    obtain ⟨_, s6, g6, x6⟩ := bnd_of x5
    obtain ⟨hof, e6⟩ := chk_of g6
    cases e6
    generalize decL bs = x at hof x6
    unfold NL.isOf at hof
    simp only [Bool.and_eq_true] at hof
    obtain ⟨h1, h2, h3⟩ := hof
    have h1 := listEq_of h1
    obtain ⟨hln, hr⟩ := NL.ln_ok h2
    obtain ⟨b1, b2⟩ := bytesA_of hbs
    have hix : lst.all isIX = true := by
      rw [b1, List.all_eq_true]
      intro a ha
      obtain ⟨n, _, rfl⟩ := List.mem_map.1 ha
      rfl
    have hsl := sl_from cells_u8 hs hk1 hcut hgw hix hv
    have hvals : lst.map valX = x.ln.enc.map fun c => B8 c.toNat := by
      rw [b1, ← h1, ← NL.enc_nats h2]
      unfold natsOf
      rw [List.map_map, List.map_map]
      rfl
    rw [hvals] at hsl
    refine (read_calls hln (rdOk_of h3) hsl).mono fun e W' he => ?_
    obtain ⟨c, he, hcell, hnil, hB⟩ := he
    cases hcs : x.cs with
    | nil =>
      rw [hcs] at x6
      obtain ⟨e1, e3⟩ := ret_of x6
      cases e1; cases e3
      have hc0 : c = .slice none 0 0 := hnil hcs
      subst hc0
      refine ⟨σ, _, he, Grow.refl _ _ _, belowS hs hB, ?_, hB.mono hs.hB⟩
      have hr := lit_row (σ := σ) hr (VR.sln 0 0)
      have hl2 := LR.t (LV.lr (σ := σ) (l := [.g (rowX x (.sl none 0 0)), .i .i64 (.ofNat 0)]) (m := [.agg (x.ln.let (.slice none 0 0)).row, .int .i64 0]) ⟨hr, .i _ _, trivial⟩)
      simpa using hl2
    | cons a0 tl =>
      rw [hcs] at x6
      dsimp only at x6
      rw [← hcs] at x6
      obtain ⟨q, ⟨m7, n7, l7, w7⟩, g7, x7⟩ := bnd_of x6
      obtain ⟨rfl, rfl, rfl⟩ := newB_of g7
      obtain ⟨e1, e3⟩ := ret_of x7
      cases e1; cases e3
      have hk : σ (idOf true n2) = none := hfr _ (idOf_lo true n2).1 (idOf_lo true n2).2
      rcases hcell with ⟨h0, _⟩ | ⟨_, hcl⟩
      · have h0 : x.cs = [] := h0
        rw [hcs] at h0; cases h0
      · have hcl : Sl W.heap.size W' c 3 ((x.cs.map intN).map valX) := by
          have : (x.cs.map intN).map valX = x.ln.cs.map fun (c : Nat) => Value.int .i64 (c : Int) := by rw [List.map_map]; rfl
          rw [this]; exact hcl
        obtain ⟨q, hS, hvc⟩ := new_sl cells_int hs hB hk (by
          rw [List.all_eq_true]
          intro a ha
          obtain ⟨n, _, rfl⟩ := List.mem_map.1 ha
          rfl) hcl
        rw [List.length_map] at hvc
        refine ⟨σ.add (idOf true n2) q, _, he, Grow.add hk (idOf_lo true n2), hS, ?_, hB.mono hs.hB⟩
        have hr := lit_row (σ := σ.add (idOf true n2) q) hr hvc
        have hl2 := LR.t (LV.lr (σ := σ.add (idOf true n2) q) (l := [.g (rowX x (.sl (some (idOf true n2, 0)) x.cs.length x.cs.length)), .i .i64 (.ofNat 0)]) (m := [.agg (x.ln.let c).row, .int .i64 0]) ⟨hr, .i _ _, trivial⟩)
        simpa using hl2
  · cases hx
/- ### The quick sides -/
noncomputable def cellQ (v : FV) (s : QW) (k : List AV → QW → Ans) : Ans := match v with
  | .o (.sl none 0 0) => k [] s
  | .o .se => k [] s
  | .s _ i o n _ => V.iff (gw i && Nat.ble 1 n) (rdTC (p4 i) i s fun T s => V.iff (Nat.beq T 3) (rdnC (p4 i) i o n s fun a s => match absV a with
    | .g l => k l s
    | _ => none))
  | _ => none
theorem cellQ_ok {B : Nat} {s : CE.St} {f : QW} (hs : RS B s f) {v : FV} (hv : cellOk v) : Ok B (fun (a b : List AV) => a = b) (cellQ v f) (cellV (abs0 v) s) := by
  unfold cellQ
  split
  · show Ok B _ _ (some ([], s))
    exact Ok.ret (R := fun (a b : List AV) => a = b) rfl hs
  · show Ok B _ _ (some ([], s))
    exact Ok.ret (R := fun (a b : List AV) => a = b) rfl hs
  · rename_i q i o n c
    show Ok B _ _ (CE.bnd (CE.chk (gw i && Nat.ble 1 n)) (fun _ => CE.bnd (rdT i) fun T => CE.bnd (CE.chk (Nat.beq T 3)) fun _ => rdK i o n) s)
    refine Ok.iff fun h5 => Ok.chk h5 ?_
    refine Ok.bnd (ok_rdT hs i) fun T f T' s hT hs => ?_
    subst hT
    refine Ok.iff fun h5 => Ok.chk h5 ?_
    intro k r hk
    obtain ⟨a, f1, l1, s1, e1, ⟨t, rfl, rfl, ht⟩, h2, h3⟩ := ok_rdn hs i o n _ r hk
    exact ⟨cellsV t 0 n, f1, cellsV t 0 n, s1, e1, rfl, h2, h3⟩
  · exact Ok.none
/-- The letter of a row. -/
noncomputable def nlQ (t : FV) (s : QW) (k : NL → QW → Ans) : Ans := cellQ (getV (p4 29) t) s fun l s => match absV (.g t 62) with
  | .g cs => V.opt (nlA cs l) fun x => V.iff x.ok (k x s)
  | _ => none
noncomputable def bytesQ : LQ := fun l s k => match l with
  | [.g t 62] => nlQ t s fun x s => allN x.enc fun es => Sha.force (fun n => newC true (.cells (treeOf (es.map byteN)) n 5) s fun q i s => k (.t (mkT [.s q i 0 n n, .i .i64 0] 0) 2) s) (Sha.lenN es)
  | _ => none
noncomputable def validQ : LQ := fun l s k => match l with
  | [.g t 62] => nlQ t s fun _ s => k (.i .i64 0) s
  | _ => none
theorem cells29 (t : FV) : (cellsV t 0 62)[29]? = some (abs0 (getV (p4 29) t)) := by rw [get_cellsV, if_pos (by omega)]
theorem validQ_ok (B : Nat) (s : CE.St) (f : QW) (x : List AV) (l : List FV) (hs : RS B s f) (h : RVs x l) : Ok B RV (validQ l f) (validE x s) := by
  obtain ⟨rfl, ho⟩ := h
  unfold validQ
  split
  · rename_i t
    have hg : allOk t 62 := ho (.g t 62) (by simp)
    show Ok B RV _ (CE.bnd (cellE (cellsV t 0 62)) (fun l => CE.bnd (CE.lift (nlA (cellsV t 0 62) l)) fun x => CE.bnd (CE.chk x.ok) fun _ => CE.ret (.i .i64 (.ofNat 0))) s)
    have e : cellE (cellsV t 0 62) s = cellV (abs0 (getV (p4 29) t)) s := by unfold cellE; rw [cells29]; rfl
    refine Ok.bnd (R := fun (a b : List AV) => a = b) (x := cellQ (getV (p4 29) t) f) (g := fun (l : List AV) (s : QW) (k : FV → QW → Ans) => match absV (.g t 62) with
      | .g cs => V.opt (nlA cs l) fun x => V.iff x.ok (k (.i .i64 0) s)
      | _ => none) ?_ fun b f a s hab hs => ?_
    · rw [e]; exact cellQ_ok hs (hg 29 (by omega))
    · subst hab
      show Ok B RV (fun (k : FV → QW → Ans) => V.opt (nlA (cellsV t 0 62) a) fun x => V.iff x.ok (k (.i .i64 0) f)) _
      refine Ok.opt fun x hx => Ok.lift hx ?_
      refine Ok.iff fun h5 => Ok.chk h5 ?_
      exact Ok.ret (R := RV) (b := .i .i64 0) (a := .i .i64 (.ofNat 0)) ⟨rfl, trivial⟩ hs
  · exact Ok.none
theorem allsc_bytes (l : List Nat) : allsc (l.map byteN) = true := by
  induction l with
  | nil => rfl
  | cons a l ih => exact ih
theorem allsc_ints (l : List Nat) : allsc (l.map intN) = true := by
  induction l with
  | nil => rfl
  | cons a l ih => exact ih
theorem rv_pair {a b : AV} {x y : FV} (h1 : absG x = a ∧ okG x) (h2 : absG y = b ∧ okG y) : RV (.t [a, b]) (.t (mkT [x, y] 0) 2) := by
  have := tup_mk [x, y] (fun v hv => by
    simp only [List.mem_cons, List.not_mem_nil, or_false] at hv
    rcases hv with rfl | rfl
    · exact h1.2
    · exact h2.2)
  refine ⟨?_, this.2⟩
  have e := this.1
  simp only [List.map_cons, List.map_nil, h1.1, h2.1] at e
  exact e.symm
theorem bytesQ_ok (B : Nat) (s : CE.St) (f : QW) (x : List AV) (l : List FV) (hs : RS B s f) (h : RVs x l) : Ok B RV (bytesQ l f) (bytesE x s) := by
  obtain ⟨rfl, ho⟩ := h
  unfold bytesQ
  split
  · rename_i t
    have hg : allOk t 62 := ho (.g t 62) (by simp)
    show Ok B RV _ (CE.bnd (cellE (cellsV t 0 62)) (fun l => CE.bnd (CE.lift (nlA (cellsV t 0 62) l)) fun x => CE.bnd (CE.chk x.ok) fun _ => CE.bnd (newB true (.cells (x.enc.map byteN) 5)) fun k => CE.ret (.t [.sl (some (k, 0)) x.enc.length x.enc.length, .i .i64 (.ofNat 0)])) s)
    have e : cellE (cellsV t 0 62) s = cellV (abs0 (getV (p4 29) t)) s := by unfold cellE; rw [cells29]; rfl
    refine Ok.bnd (R := fun (a b : List AV) => a = b) (x := cellQ (getV (p4 29) t) f) (g := fun (l : List AV) (s : QW) (k : FV → QW → Ans) => match absV (.g t 62) with
      | .g cs => V.opt (nlA cs l) fun x => V.iff x.ok (allN x.enc fun es => Sha.force (fun n => newC true (.cells (treeOf (es.map byteN)) n 5) s fun q i s => k (.t (mkT [.s q i 0 n n, .i .i64 0] 0) 2) s) (Sha.lenN es))
      | _ => none) ?_ fun b f a s hab hs => ?_
    · rw [e]; exact cellQ_ok hs (hg 29 (by omega))
    · subst hab
      show Ok B RV (fun (k : FV → QW → Ans) => V.opt (nlA (cellsV t 0 62) a) fun x => V.iff x.ok (allN x.enc fun es => Sha.force (fun n => newC true (.cells (treeOf (es.map byteN)) n 5) f fun q i s => k (.t (mkT [.s q i 0 n n, .i .i64 0] 0) 2) s) (Sha.lenN es))) _
      refine Ok.opt fun x hx => Ok.lift hx ?_
      refine Ok.iff fun h5 => Ok.chk h5 ?_
      simp only [allN_eq, Sha.force_eq, Sha.lenN_eq]
      have hc := cells_tree (x.enc.map byteN) (allsc_bytes _)
      rw [List.length_map] at hc
      exact ok_newCells hs true 5 hc.1 hc.2 (R := RV) (x := fun q i s (k : FV → QW → Ans) => k (FV.t (mkT [.s q i 0 x.enc.length x.enc.length, .i .i64 0] 0) 2) s) (y := fun k => CE.ret (.t [.sl (some (k, 0)) x.enc.length x.enc.length, .i .i64 (.ofNat 0)])) fun i f s hs =>
        Ok.ret (R := RV) (b := .t (mkT [.s (p4 i) i 0 x.enc.length x.enc.length, .i .i64 0] 0) 2) (a := .t [.sl (some (i, 0)) x.enc.length x.enc.length, .i .i64 (.ofNat 0)]) (rv_pair ⟨rfl, rfl⟩ ⟨rfl, trivial⟩) hs
  · exact Ok.none
/-- Reading: the letter's parts reckoned first. -/
noncomputable def frcNL (x : NL) (k : NL → Ans) : Ans := Sha.force (fun a => Sha.force (fun b => Sha.force (fun c => Sha.force (fun d => Sha.force (fun e => Sha.force (fun g => Sha.force (fun h => allN x.cs fun cs => allN x.ref fun ref => k ⟨a, b, c, d, e, g, h, cs, ref⟩) x.st) x.dl) x.res) x.mtg) x.dst) x.frm) x.kind
theorem frcNL_eq (x : NL) (k : NL → Ans) : frcNL x k = k x := by
  unfold frcNL
  simp only [Sha.force_eq, allN_eq]
noncomputable def readQ : LQ := fun l s k => match l with
  | [.s _ i o n _] => V.iff (gw i) (rdTC (p4 i) i s fun T s => V.iff (Nat.beq T 5) (rdnC (p4 i) i o n s fun a s => match absV a with
    | .g al => V.opt (bytesA al) fun bs => allN bs fun bs => frcNL (decL bs) fun x => V.iff (x.isOf bs) (match x.cs with
      | [] => k (.t (mkT [.g (treeOf (rowX x (.sl none 0 0))) 62, .i .i64 0] 0) 2) s
      | _ :: _ => Sha.force (fun n => newC true (.cells (treeOf (x.cs.map intN)) n 3) s fun q i s => k (.t (mkT [.g (treeOf (rowX x (.sl (some (i, 0)) n n))) 62, .i .i64 0] 0) 2) s) (Sha.lenN x.cs))
    | _ => none))
  | _ => none
theorem row_len {x : NL} (h : x.ok = true) (c : AV) : (rowX x c).length = 62 := by
  obtain ⟨hok, _⟩ := NL.ln_ok h
  have hr := hok.ref
  have hr : (x.ref.map UInt8.ofNat).length = 32 := hr
  rw [List.length_map] at hr
  unfold rowX
  rw [List.length_append, List.length_cons, List.length_map, hr]
  rfl
theorem row_sc (x : NL) {c : AV} (hc : sc c = true) : allsc (rowX x c) = true := by
  refine mem_allsc fun a ha => ?_
  obtain ⟨i, hi, e⟩ := List.mem_iff_getElem.1 ha
  by_cases h : i = 29
  · subst h
    have := rowX_29 x c
    rw [List.getElem?_eq_getElem hi] at this
    rw [← e, Option.some.inj this]; exact hc
  · have := rowX_y x c i h a (by rw [List.getElem?_eq_getElem hi, e])
    unfold isY at this
    split at this <;> first | rfl | cases this
theorem row_g {x : NL} (h : x.ok = true) {c : AV} (hc : sc c = true) : absG (.g (treeOf (rowX x c)) 62) = .g (rowX x c) ∧ okG (.g (treeOf (rowX x c)) 62) := by
  have hl := row_len h c
  have hg := cells_tree (rowX x c) (row_sc x hc)
  rw [hl] at hg
  exact ⟨by show AV.g (cellsV (treeOf (rowX x c)) 0 62) = _; rw [show cellsV (treeOf (rowX x c)) 0 62 = rowX x c from hg.1], hg.2⟩
theorem readQ_ok (B : Nat) (s : CE.St) (f : QW) (x : List AV) (l : List FV) (hs : RS B s f) (h : RVs x l) : Ok B RV (readQ l f) (readE x s) := by
  obtain ⟨rfl, ho⟩ := h
  unfold readQ
  split
  · rename_i q i o n c
    show Ok B RV _ (CE.bnd (CE.chk (gw i)) (fun _ => CE.bnd (rdT i) fun T => CE.bnd (CE.chk (Nat.beq T 5)) fun _ => CE.bnd (rdK i o n) fun l => CE.bnd (CE.lift (bytesA l)) fun bs => CE.bnd (CE.chk ((decL bs).isOf bs)) fun _ => match (decL bs).cs with
      | [] => CE.ret (.t [.g (rowX (decL bs) (.sl none 0 0)), .i .i64 (.ofNat 0)])
      | _ :: _ => CE.bnd (newB true (.cells ((decL bs).cs.map intN) 3)) fun q => CE.ret (.t [.g (rowX (decL bs) (.sl (some (q, 0)) (decL bs).cs.length (decL bs).cs.length)), .i .i64 (.ofNat 0)])) s)
    refine Ok.iff fun h5 => Ok.chk h5 ?_
    refine Ok.bnd (ok_rdT hs i) fun T f T' s hT hs => ?_
    subst hT
    refine Ok.iff fun h5 => Ok.chk h5 ?_
    refine Ok.bnd (ok_rdn hs i o n) fun a f a' s h hs => ?_
    obtain ⟨t, rfl, rfl, ht⟩ := h
    show Ok B RV (fun (k : FV → QW → Ans) => V.opt (bytesA (cellsV t 0 n)) fun bs => allN bs fun bs => frcNL (decL bs) fun x => V.iff (x.isOf bs) (match x.cs with
      | [] => k (.t (mkT [.g (treeOf (rowX x (.sl none 0 0))) 62, .i .i64 0] 0) 2) f
      | _ :: _ => Sha.force (fun n => newC true (.cells (treeOf (x.cs.map intN)) n 3) f fun q i s => k (.t (mkT [.g (treeOf (rowX x (.sl (some (i, 0)) n n))) 62, .i .i64 0] 0) 2) s) (Sha.lenN x.cs))) _
    refine Ok.opt fun bs hbs => Ok.lift hbs ?_
    simp only [allN_eq, frcNL_eq, Sha.force_eq, Sha.lenN_eq]
    generalize decL bs = x
    refine Ok.iff fun h5 => Ok.chk h5 ?_
    have hok : x.ok = true := by
      unfold NL.isOf at h5
      simp only [Bool.and_eq_true] at h5
      exact h5.2.1
    cases hcs : x.cs with
    | nil =>
      exact Ok.ret (R := RV) (b := .t (mkT [.g (treeOf (rowX x (.sl none 0 0))) 62, .i .i64 0] 0) 2) (a := .t [.g (rowX x (.sl none 0 0)), .i .i64 (.ofNat 0)]) (rv_pair (row_g hok rfl) ⟨rfl, trivial⟩) hs
    | cons a0 tl =>
      have hc := cells_tree ((a0 :: tl).map intN) (allsc_ints _)
      rw [List.length_map] at hc
      exact ok_newCells hs true 3 hc.1 hc.2 (R := RV) (x := fun q i s (k : FV → QW → Ans) => k (FV.t (mkT [.g (treeOf (rowX x (.sl (some (i, 0)) (a0 :: tl).length (a0 :: tl).length))) 62, .i .i64 0] 0) 2) s) (y := fun k => CE.ret (.t [.g (rowX x (.sl (some (k, 0)) (a0 :: tl).length (a0 :: tl).length)), .i .i64 (.ofNat 0)])) fun i f s hs =>
        Ok.ret (R := RV) (b := .t (mkT [.g (treeOf (rowX x (.sl (some (i, 0)) (a0 :: tl).length (a0 :: tl).length))) 62, .i .i64 0] 0) 2) (a := .t [.g (rowX x (.sl (some (i, 0)) (a0 :: tl).length (a0 :: tl).length)), .i .i64 (.ofNat 0)]) (rv_pair (row_g hok rfl) ⟨rfl, trivial⟩) hs
  · exact Ok.none
theorem lbytes_good : Good Tryz.prog 59 bytesQ bytesE := ⟨bytesE_loc, bytesE_sound, bytesQ_ok⟩
theorem lread_good : Good Tryz.prog 94 readQ readE := ⟨readE_loc, readE_sound, readQ_ok⟩
theorem lvalid_good : Good Tryz.prog 13 validQ validE := ⟨validE_loc, validE_sound, validQ_ok⟩
end
end V
end Go.CE
