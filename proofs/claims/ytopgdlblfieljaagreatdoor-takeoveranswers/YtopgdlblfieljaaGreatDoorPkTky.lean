/-
  takeover.Answer: another owner's inquiry.
-/
import Derived.Test.YtopgdlblfieljaaGreatDoorPkTke
set_option linter.unusedSectionVars false
set_option linter.constructorNameAsVariable false
set_option linter.unusedVariables false
set_option linter.unusedSimpArgs false
namespace Go.Proofs.YtopgdlblfieljaaGreatDoor
open Go.RowKit Go.CE.V
set_option maxRecDepth 20000
set_option maxHeartbeats 8000000
theorem tanswer_yes {l:List Nat} (hl:l∈tLs) {me:Nat} (hm:me∈l) {ph:Nat} (hp:ph∈phs) {W:World} {ov vx:Value} {a:Nat} (ha:a∈l) (hne:a≠me) (hT:ase W) (hv:a0h 0 W ov l) (hvx:a0h 0 W vx l):Calls Tryz.prog 12 #[.agg (ownRow me 4 0 90 ph ov (.slice none 0 0)),.agg (LN.let (inqL l a me) vx).row] W fun e W' => ∃ ow pw cv,e=.returned (.tuple #[.agg (ownRow me 4 0 90 (bar ph) ow pw),.agg (LN.let (repL l a me (bar ph)) cv).row,.int .i64 0])∧a0h 0 W' ow l∧EmpV pw∧a0h W.heap.size W' cv l∧Below W.heap.size W W':=by
 have HT:=Lib.hid hT
 have HT0:=HT
 have hf:=tLs_le hl ha
 have HO:Hid (oth me l a=true):=Lib.hid (by simp [oth,hne,ha])
 clear hT
 have po:=a1y me 4 0 90 ph (a0v hv) (show (Value.slice none 0 0).oneCell' = true from rfl)
 have lz:=a0e (LN.let (inqL l a me) vx) (show asj.length=32 from by decide)
 have la:=a15 (LN.let (inqL l a me) vx) (show asj.length=32 from by decide)
 have lo:=a0y (LN.let (inqL l a me) vx) (a0v hvx)
 have HCF:=Lib.hid (show ∀ W',obj W' (W.heap.size+1)=some (.cells (LN.let (inqL l a me) vx).row 48 (0,0))→W'.cell? ⟨(W.heap.size+1),1,none⟩=some (.int .i64 a) from fun W' h=>(a01 h 1).trans (by rw [CE.V.a1i];rfl))
 have HXR:Hid ((LN.let (inqL l a me) vx).row=(LN.let (inqL l a me) vx).row):=Lib.hid rfl
 generalize hxr:(LN.let (inqL l a me) vx).row=XR at lz la lo HCF
 have HXR:=Lib.hid hxr
 have b2:obj ((((W.alloc (.cells (ownRow me 4 0 90 ph ov (.slice none 0 0)) 28 (0,0))).alloc (.cells XR 48 (0,0))).alloc (.cells #[.int .i64 0,.int .i64 0,.int .i64 0,.int .i64 0,.int .i64 0,.slice none 0 0,.slice none 0 0] 28 (0,0))).alloc (.cells z48 48 (0,0))) W.heap.size=some (.cells (ownRow me 4 0 90 ph ov (.slice none 0 0)) 28 (0,0)):=a02 (a02 (a02 (a03 _ _ _ rfl) _) _) _
 have b3:obj ((((W.alloc (.cells (ownRow me 4 0 90 ph ov (.slice none 0 0)) 28 (0,0))).alloc (.cells XR 48 (0,0))).alloc (.cells #[.int .i64 0,.int .i64 0,.int .i64 0,.int .i64 0,.int .i64 0,.slice none 0 0,.slice none 0 0] 28 (0,0))).alloc (.cells z48 48 (0,0))) (W.heap.size+1)=some (.cells XR 48 (0,0)):=a02 (a02 (a03 _ _ _ (by simp)) _) _
 have z4:obj ((((W.alloc (.cells (ownRow me 4 0 90 ph ov (.slice none 0 0)) 28 (0,0))).alloc (.cells XR 48 (0,0))).alloc (.cells #[.int .i64 0,.int .i64 0,.int .i64 0,.int .i64 0,.int .i64 0,.slice none 0 0,.slice none 0 0] 28 (0,0))).alloc (.cells z48 48 (0,0))) (W.heap.size+2)=some (.cells #[.int .i64 0,.int .i64 0,.int .i64 0,.int .i64 0,.int .i64 0,.slice none 0 0,.slice none 0 0] 28 (0,0)):=a02 (a03 _ _ _ (by simp)) _
 have z5:obj ((((W.alloc (.cells (ownRow me 4 0 90 ph ov (.slice none 0 0)) 28 (0,0))).alloc (.cells XR 48 (0,0))).alloc (.cells #[.int .i64 0,.int .i64 0,.int .i64 0,.int .i64 0,.int .i64 0,.slice none 0 0,.slice none 0 0] 28 (0,0))).alloc (.cells z48 48 (0,0))) (W.heap.size+3)=some (.cells z48 48 (0,0)):=a03 _ _ _ (by simp)
 have w1B:Below W.heap.size W ((((W.alloc (.cells (ownRow me 4 0 90 ph ov (.slice none 0 0)) 28 (0,0))).alloc (.cells XR 48 (0,0))).alloc (.cells #[.int .i64 0,.int .i64 0,.int .i64 0,.int .i64 0,.int .i64 0,.slice none 0 0,.slice none 0 0] 28 (0,0))).alloc (.cells z48 48 (0,0))):=((((Below.refl _ _).alloc (Nat.le_refl _) _).alloc (by simp) _).alloc (by simp;omega) _).alloc (by simp;omega) _
 have hv1:=Lib.hid (hv.below w1B)
 have hvx1:=Lib.hid (hvx.below w1B)
 clear hv hvx hxr
 go_enter Tryz.func12,Tryz.ntmps12
 repeat' (first | go_skip | go_guarded | go_step | go_upon)
 generalize ((((W.alloc (.cells (ownRow me 4 0 90 ph ov (.slice none 0 0)) 28 (0,0))).alloc (.cells XR 48 (0,0))).alloc (.cells #[.int .i64 0,.int .i64 0,.int .i64 0,.int .i64 0,.int .i64 0,.slice none 0 0,.slice none 0 0] 28 (0,0))).alloc (.cells z48 48 (0,0)))=w1 at *
 have lb2:=a04 b2
 have lb3:=a04 b3
 have lb4:=a04 z4
 have lb5:=a04 z5
 refine agn 21 [([],fun v _=>v=.agg (ownRow me 4 0 90 ph ov (.slice none 0 0))),
   ([0],fun v _=>v=.bool true),
   ([1],fun v _=>v=.bool false),
   ([2],fun v _=>v=.bool false),
   ([3],fun v _=>v=.agg (ownRow me 4 0 90 ph ov (.slice none 0 0))),
   ([3],fun v _=>v=.pointer (some ⟨(W.heap.size+1),1,none⟩)),
   ([3,5],fun v _=>v=.int .i64 a),
   ([3,4,6],fun v _=>v=.bool true),
   ([3,7],fun v _=>v=.bool false),
   ([3,8],fun v _=>v=.bool false),
   ([9],fun v _=>v=.bool false),
   ([10],fun v _=>v=.agg XR),
   ([10],fun v _=>v=.agg (ownRow me 4 0 90 ph ov (.slice none 0 0))),
   ([10],fun v _=>v=.pointer (some ⟨(W.heap.size+1),1,none⟩)),
   ([10,13],fun v _=>v=.int .i64 a),
   ([10],fun v _=>v=.pointer (some ⟨W.heap.size,0,none⟩)),
   ([10,15],fun v _=>v=.int .i64 me),
   ([10,12,14,16],fun v W' => ∃ cv,v=.agg (LN.let (inqL l a me) cv).row∧a0h w1.heap.size W' cv l),
   ([10,11,17],fun v _=>v=.bool true),
   ([10,18],fun v _=>v=.bool false),
   ([10,19],fun v _=>v=.bool false)] (by kernel_rfl) (by kernel_rfl) ?st ⟨?o0,?o1,?o2,?o3,?o4,?o5,?o6,?o7,?o8,?o9,?o10,?o11,?o12,?o13,?o14,?o15,?o16,?o17,?o18,?o19,?o20,trivial⟩ ?tl
 case st =>
  intro k v W1 W2 h hb
  rcases k with _ | _ | _ | _ | _ | _ | _ | _ | _ | _ | _ | _ | _ | _ | _ | _ | _ | _ | _ | _ | _ | k
  ·exact h
  ·exact h
  ·exact h
  ·exact h
  ·exact h
  ·exact h
  ·exact h
  ·exact h
  ·exact h
  ·exact h
  ·exact h
  ·exact h
  ·exact h
  ·exact h
  ·exact h
  ·exact h
  ·exact h
  ·obtain ⟨cv,h1,h2⟩:=h;exact ⟨cv,h1,h2.below hb⟩
  ·exact h
  ·exact h
  ·exact h
  ·trivial
 case o0 =>
  intro vs Wq hW hk
  clear hk
  dsimp only [a9l,List.take]
  simp only [Act.put,List.setIfInBounds_toArray,List.set_cons_succ,List.set_cons_zero]
  have b2W:=a00 b2 hW lb2
  repeat' (first | go_skip | go_guarded | go_step | go_upon)
  exact a5s (.agg (ownRow me 4 0 90 ph ov (.slice none 0 0))) rfl (by go_simp) (Below.refl _ _) rfl
 case o1 =>
  intro vs Wq hW hk
  have g0:vs 0=.agg (ownRow me 4 0 90 ph ov (.slice none 0 0)):=hk.1
  clear hk
  dsimp only [a9l,List.take]
  simp only [Act.put,List.setIfInBounds_toArray,List.set_cons_succ,List.set_cons_zero]
  rw [g0]
  have HX:=Lib.hid (tvalid_calls hl hm hp (hv1.out.below hW))
  repeat' (first | (go_at_call 24;((with_reducible refine (HX.out).mono ?_));rintro e w7 ⟨rfl,hb7⟩;dsimp only) | go_skip | go_guarded | go_step | go_upon)
  exact a5s (.bool true) rfl (by go_simp) hb7 rfl
 case o2 =>
  intro vs Wq hW hk
  have g1:vs 1=.bool true:=hk.1
  clear hk
  dsimp only [a9l,List.take]
  simp only [Act.put,List.setIfInBounds_toArray,List.set_cons_succ,List.set_cons_zero]
  rw [g1]
  repeat' (first | go_skip | go_guarded | go_step | go_upon)
  exact a5s (.bool false) rfl (by go_simp) (Below.refl _ _) rfl
 case o3 =>
  intro vs Wq hW hk
  have g2:vs 2=.bool false:=hk.1
  clear hk
  dsimp only [a9l,List.take]
  simp only [Act.put,List.setIfInBounds_toArray,List.set_cons_succ,List.set_cons_zero]
  rw [g2]
  repeat' (first | go_skip | go_guarded | go_step | go_upon)
  exact a5s (.bool false) rfl (by go_simp) (Below.refl _ _) rfl
 case o4 =>
  intro vs Wq hW hk
  have g3:vs 3=.bool false:=hk.1
  clear hk
  dsimp only [a9l,List.take]
  simp only [Act.put,List.setIfInBounds_toArray,List.set_cons_succ,List.set_cons_zero]
  rw [g3]
  have b2W:=a00 b2 hW lb2
  repeat' (first | go_skip | go_guarded | go_step | go_upon)
  exact a5s (.agg (ownRow me 4 0 90 ph ov (.slice none 0 0))) rfl (by go_simp) (Below.refl _ _) rfl
 case o5 =>
  intro vs Wq hW hk
  have g3:vs 3=.bool false:=hk.1
  clear hk
  dsimp only [a9l,List.take]
  simp only [Act.put,List.setIfInBounds_toArray,List.set_cons_succ,List.set_cons_zero]
  rw [g3]
  repeat' (first | go_skip | go_guarded | go_step | go_upon)
  exact a5s (.pointer (some ⟨(W.heap.size+1),1,none⟩)) rfl (by go_simp) (Below.refl _ _) rfl
 case o6 =>
  intro vs Wq hW hk
  have g3:vs 3=.bool false:=hk.1
  have g5:vs 5=.pointer (some ⟨(W.heap.size+1),1,none⟩):=hk.2.1
  clear hk
  dsimp only [a9l,List.take]
  simp only [Act.put,List.setIfInBounds_toArray,List.set_cons_succ,List.set_cons_zero]
  rw [g3,g5]
  have cF:=HCF.out _ (a00 b3 hW lb3)
  repeat' (first | go_skip | go_guarded | go_step | go_upon)
  exact a5s (.int .i64 a) rfl (by go_simp) (Below.refl _ _) rfl
 case o7 =>
  intro vs Wq hW hk
  have g3:vs 3=.bool false:=hk.1
  have g4:vs 4=.agg (ownRow me 4 0 90 ph ov (.slice none 0 0)):=hk.2.1
  have g6:vs 6=.int .i64 a:=hk.2.2.1
  clear hk
  dsimp only [a9l,List.take]
  simp only [Act.put,List.setIfInBounds_toArray,List.set_cons_succ,List.set_cons_zero]
  rw [g3,g4,g6]
  have ho':=HO.out
  have HX:=Lib.hid (tother_calls hl hm hp (hv1.out.below hW) hf)
  repeat' (first | (go_at_call 35;((with_reducible refine (HX.out).mono ?_));rintro e w7 ⟨h7,hb7⟩;rw [ho'] at h7;subst h7;dsimp only) | go_skip | go_guarded | go_step | go_upon)
  exact a5s (.bool true) rfl (by go_simp) hb7 rfl
 case o8 =>
  intro vs Wq hW hk
  have g3:vs 3=.bool false:=hk.1
  have g7:vs 7=.bool true:=hk.2.1
  clear hk
  dsimp only [a9l,List.take]
  simp only [Act.put,List.setIfInBounds_toArray,List.set_cons_succ,List.set_cons_zero]
  rw [g3,g7]
  repeat' (first | go_skip | go_guarded | go_step | go_upon)
  exact a5s (.bool false) rfl (by go_simp) (Below.refl _ _) rfl
 case o9 =>
  intro vs Wq hW hk
  have g3:vs 3=.bool false:=hk.1
  have g8:vs 8=.bool false:=hk.2.1
  clear hk
  dsimp only [a9l,List.take]
  simp only [Act.put,List.setIfInBounds_toArray,List.set_cons_succ,List.set_cons_zero]
  rw [g3,g8]
  repeat' (first | go_skip | go_guarded | go_step | go_upon)
  exact a5s (.bool false) rfl (by go_simp) (Below.refl _ _) rfl
 case o10 =>
  intro vs Wq hW hk
  have g9:vs 9=.bool false:=hk.1
  clear hk
  dsimp only [a9l,List.take]
  simp only [Act.put,List.setIfInBounds_toArray,List.set_cons_succ,List.set_cons_zero]
  rw [g9]
  repeat' (first | go_skip | go_guarded | go_step | go_upon)
  exact a5s (.bool false) rfl (by go_simp) (Below.refl _ _) rfl
 case o11 =>
  intro vs Wq hW hk
  have g10:vs 10=.bool false:=hk.1
  clear hk
  dsimp only [a9l,List.take]
  simp only [Act.put,List.setIfInBounds_toArray,List.set_cons_succ,List.set_cons_zero]
  rw [g10]
  have b3W:=a00 b3 hW lb3
  repeat' (first | go_skip | go_guarded | go_step | go_upon)
  exact a5s (.agg XR) rfl (by go_simp) (Below.refl _ _) rfl
 case o12 =>
  intro vs Wq hW hk
  have g10:vs 10=.bool false:=hk.1
  clear hk
  dsimp only [a9l,List.take]
  simp only [Act.put,List.setIfInBounds_toArray,List.set_cons_succ,List.set_cons_zero]
  rw [g10]
  have b2W:=a00 b2 hW lb2
  repeat' (first | go_skip | go_guarded | go_step | go_upon)
  exact a5s (.agg (ownRow me 4 0 90 ph ov (.slice none 0 0))) rfl (by go_simp) (Below.refl _ _) rfl
 case o13 =>
  intro vs Wq hW hk
  have g10:vs 10=.bool false:=hk.1
  clear hk
  dsimp only [a9l,List.take]
  simp only [Act.put,List.setIfInBounds_toArray,List.set_cons_succ,List.set_cons_zero]
  rw [g10]
  repeat' (first | go_skip | go_guarded | go_step | go_upon)
  exact a5s (.pointer (some ⟨(W.heap.size+1),1,none⟩)) rfl (by go_simp) (Below.refl _ _) rfl
 case o14 =>
  intro vs Wq hW hk
  have g10:vs 10=.bool false:=hk.1
  have g13:vs 13=.pointer (some ⟨(W.heap.size+1),1,none⟩):=hk.2.1
  clear hk
  dsimp only [a9l,List.take]
  simp only [Act.put,List.setIfInBounds_toArray,List.set_cons_succ,List.set_cons_zero]
  rw [g10,g13]
  have cF:=HCF.out _ (a00 b3 hW lb3)
  repeat' (first | go_skip | go_guarded | go_step | go_upon)
  exact a5s (.int .i64 a) rfl (by go_simp) (Below.refl _ _) rfl
 case o15 =>
  intro vs Wq hW hk
  have g10:vs 10=.bool false:=hk.1
  clear hk
  dsimp only [a9l,List.take]
  simp only [Act.put,List.setIfInBounds_toArray,List.set_cons_succ,List.set_cons_zero]
  rw [g10]
  repeat' (first | go_skip | go_guarded | go_step | go_upon)
  exact a5s (.pointer (some ⟨W.heap.size,0,none⟩)) rfl (by go_simp) (Below.refl _ _) rfl
 case o16 =>
  intro vs Wq hW hk
  have g10:vs 10=.bool false:=hk.1
  have g15:vs 15=.pointer (some ⟨W.heap.size,0,none⟩):=hk.2.1
  clear hk
  dsimp only [a9l,List.take]
  simp only [Act.put,List.setIfInBounds_toArray,List.set_cons_succ,List.set_cons_zero]
  rw [g10,g15]
  have cO0:=(a01 (a00 b2 hW lb2) 0).trans (aFq _ _ _ _ _ _ _)
  repeat' (first | go_skip | go_guarded | go_step | go_upon)
  exact a5s (.int .i64 me) rfl (by go_simp) (Below.refl _ _) rfl
 case o17 =>
  intro vs Wq hW hk
  have g10:vs 10=.bool false:=hk.1
  have g12:vs 12=.agg (ownRow me 4 0 90 ph ov (.slice none 0 0)):=hk.2.1
  have g14:vs 14=.int .i64 a:=hk.2.2.1
  have g16:vs 16=.int .i64 me:=hk.2.2.2.1
  clear hk
  dsimp only [a9l,List.take]
  simp only [Act.put,List.setIfInBounds_toArray,List.set_cons_succ,List.set_cons_zero]
  rw [g10,g12,g14,g16]
  have HX:=Lib.hid (tinquiry_calls (me:=me) (ph:=ph) (pv:=.slice none 0 0) (tLs_ne hl) (by have:=(by decide:∀ l∈tLs,l.length≤4) l hl;omega) (hv1.out.below hW) rfl a me)
  repeat' (first | (go_at_call 26;((with_reducible refine (HX.out).mono ?_));rintro e w7 ⟨cv,rfl,hcv,hb7⟩;dsimp only) | go_skip | go_guarded | go_step | go_upon)
  exact a5s (.agg (LN.let (inqL l a me) cv).row) rfl (by go_simp) hb7 ⟨cv,rfl,hcv.mono hW.size⟩
 case o18 =>
  intro vs Wq hW hk
  have g10:vs 10=.bool false:=hk.1
  have g11:vs 11=.agg XR:=hk.2.1
  have g17:(fun v W' => ∃ cv,v=.agg (LN.let (inqL l a me) cv).row∧a0h w1.heap.size W' cv l) (vs 17) Wq:=hk.2.2.1
  have g17v:=g17.choose_spec.1;have g17c:=g17.choose_spec.2;generalize g17.choose=cv at g17v g17c;clear g17
  clear hk
  dsimp only [a9l,List.take]
  simp only [Act.put,List.setIfInBounds_toArray,List.set_cons_succ,List.set_cons_zero]
  rw [g10,g11,g17v]
  have HX:=Lib.hid (same_apart (inq_sz hl hm hf) (inq_sz hl hm hf) ath aTs (hvx1.out.below hW) (g17c.mono (Nat.zero_le _)) (apart_lay hvx1.out g17c (Nat.le_refl _)))
  rw [HXR.out] at HX
  repeat' (first | (go_at_call 36;((with_reducible refine (HX.out).mono ?_));rintro e w7 ⟨h7a,h7b,hb7⟩;have h7:=h7a rfl;clear h7a h7b;subst h7;dsimp only) | go_skip | go_guarded | go_step | go_upon)
  exact a5s (.bool true) rfl (by go_simp) hb7 rfl
 case o19 =>
  intro vs Wq hW hk
  have g10:vs 10=.bool false:=hk.1
  have g18:vs 18=.bool true:=hk.2.1
  clear hk
  dsimp only [a9l,List.take]
  simp only [Act.put,List.setIfInBounds_toArray,List.set_cons_succ,List.set_cons_zero]
  rw [g10,g18]
  repeat' (first | go_skip | go_guarded | go_step | go_upon)
  exact a5s (.bool false) rfl (by go_simp) (Below.refl _ _) rfl
 case o20 =>
  intro vs Wq hW hk
  have g10:vs 10=.bool false:=hk.1
  have g19:vs 19=.bool false:=hk.2.1
  clear hk
  dsimp only [a9l,List.take]
  simp only [Act.put,List.setIfInBounds_toArray,List.set_cons_succ,List.set_cons_zero]
  rw [g10,g19]
  repeat' (first | go_skip | go_guarded | go_step | go_upon)
  exact a5s (.bool false) rfl (by go_simp) (Below.refl _ _) rfl
 case tl =>
  intro vs W2 hW2 hk
  have h20:vs 20=.bool false:=hk 20 (by decide)
  clear hk
  dsimp only [a9l,List.take,List.drop]
  simp only [Act.put,List.setIfInBounds_toArray,List.set_cons_succ,List.set_cons_zero]
  rw [h20]
  generalize vs 0=u0,vs 1=u1,vs 2=u2,vs 3=u3,vs 4=u4,vs 5=u5,vs 6=u6,vs 7=u7,vs 8=u8,vs 9=u9,vs 10=u10,vs 11=u11,vs 12=u12,vs 13=u13,vs 14=u14,vs 15=u15,vs 16=u16,vs 17=u17,vs 18=u18,vs 19=u19
  have jB:=w1B.trans (hW2.mono w1B.size)
  have b22:=a00 b2 hW2 lb2
  have b32:=a00 b3 hW2 lb3
  have z4W:=a00 z4 hW2 lb4
  have z5W:=a00 z5 hW2 lb5
  have hv2:=Lib.hid (hv1.out.below hW2)
  have hvx2:=Lib.hid (hvx1.out.below hW2)
  have hT2:=Lib.hid (HT.out.below jB)
  clear hv1 hvx1 HT
  have HB:=Lib.hid (bar_calls bar_runs hl hm hp hv2.out)
  repeat' (first | (go_at_call 27;((with_reducible refine (HB.out).mono ?_));rintro e w7 ⟨ow,pw,rfl,hw7,hpw,hb7⟩;have b27:=a1w b22 hb7;have po7:=a1y me 4 0 90 (bar ph) (a0v hw7) hpw.one;dsimp only) | go_skip | go_guarded | go_step | go_upon)
  have b28:obj (w7.setRow W.heap.size (ownRow me 4 0 90 (bar ph) ow pw)) W.heap.size=some (.cells (ownRow me 4 0 90 (bar ph) ow pw) 28 (0,0)):=setRow_heap _ _ _ _ _ _ b27
  have b38:=a2q (a1w b32 hb7) (show (W.heap.size+1)≠W.heap.size by omega) (ownRow me 4 0 90 (bar ph) ow pw)
  have zz4:=a2q (a1w z4W hb7) (show (W.heap.size+2)≠W.heap.size by omega) (ownRow me 4 0 90 (bar ph) ow pw)
  have zz5:=a2q (a1w z5W hb7) (show (W.heap.size+3)≠W.heap.size by omega) (ownRow me 4 0 90 (bar ph) ow pw)
  have jB8:Below W.heap.size W (w7.setRow W.heap.size (ownRow me 4 0 90 (bar ph) ow pw)):=below_setRow (jB.trans (hb7.mono jB.size)) (Nat.le_refl _) _
  have hw8:=Lib.hid (a2m hw7 b27 (by decide) (fun y hy=>setRow_other _ W.heap.size _ (ownRow me 4 0 90 (bar ph) ow pw) hy))
  have hvx8:=Lib.hid (a2m (hvx2.out.below hb7) b27 (by decide) (fun y hy=>setRow_other _ W.heap.size _ (ownRow me 4 0 90 (bar ph) ow pw) hy))
  have hT8:=Lib.hid (HT0.out.below jB8)
  generalize (w7.setRow W.heap.size (ownRow me 4 0 90 (bar ph) ow pw))=w8 at *
  clear hv2 hvx2 hT2 HB
  have lb28:=a04 b28
  have lb38:=a04 b38
  have lb48:=a04 zz4
  have lb58:=a04 zz5
  refine agn 5 [([],fun v _=>v=.agg (ownRow me 4 0 90 (bar ph) ow pw)),
    ([],fun v _=>v=.agg XR),
    ([],fun v _=>v=.pointer (some ⟨W.heap.size,4,none⟩)),
    ([2],fun v _=>v=.int .i64 (bar ph)),
    ([1,3],fun v W' => ∃ cv,v=.agg (LN.let (repL l a me (bar ph)) cv).row∧a0h w8.heap.size W' cv l)] (by kernel_rfl) (by kernel_rfl) ?st ⟨?o0,?o1,?o2,?o3,?o4,trivial⟩ ?tl
  case st =>
   intro k v W1 W2 h hb
   rcases k with _ | _ | _ | _ | _ | k
   ·exact h
   ·exact h
   ·exact h
   ·exact h
   ·obtain ⟨cv,h1,h2⟩:=h;exact ⟨cv,h1,h2.below hb⟩
   ·trivial
  case o0 =>
   intro vs Wq hW hk
   clear hk
   dsimp only [a9l,List.take]
   simp only [Act.put,List.setIfInBounds_toArray,List.set_cons_succ,List.set_cons_zero]
   have b2W:=a00 b28 hW lb28
   repeat' (first | go_skip | go_guarded | go_step | go_upon)
   exact a5s (.agg (ownRow me 4 0 90 (bar ph) ow pw)) rfl (by go_simp) (Below.refl _ _) rfl
  case o1 =>
   intro vs Wq hW hk
   clear hk
   dsimp only [a9l,List.take]
   simp only [Act.put,List.setIfInBounds_toArray,List.set_cons_succ,List.set_cons_zero]
   have b3W:=a00 b38 hW lb38
   repeat' (first | go_skip | go_guarded | go_step | go_upon)
   exact a5s (.agg XR) rfl (by go_simp) (Below.refl _ _) rfl
  case o2 =>
   intro vs Wq hW hk
   clear hk
   dsimp only [a9l,List.take]
   simp only [Act.put,List.setIfInBounds_toArray,List.set_cons_succ,List.set_cons_zero]
   repeat' (first | go_skip | go_guarded | go_step | go_upon)
   exact a5s (.pointer (some ⟨W.heap.size,4,none⟩)) rfl (by go_simp) (Below.refl _ _) rfl
  case o3 =>
   intro vs Wq hW hk
   have g2:vs 2=.pointer (some ⟨W.heap.size,4,none⟩):=hk.1
   clear hk
   dsimp only [a9l,List.take]
   simp only [Act.put,List.setIfInBounds_toArray,List.set_cons_succ,List.set_cons_zero]
   rw [g2]
   have cP:=(a01 (a00 b28 hW lb28) 4).trans (a4v _ _ _ _ _ _ _)
   repeat' (first | go_skip | go_guarded | go_step | go_upon)
   exact a5s (.int .i64 (bar ph)) rfl (by go_simp) (Below.refl _ _) rfl
  case o4 =>
   intro vs Wq hW hk
   have g1:vs 1=.agg XR:=hk.1
   have g3:vs 3=.int .i64 (bar ph):=hk.2.1
   clear hk
   dsimp only [a9l,List.take]
   simp only [Act.put,List.setIfInBounds_toArray,List.set_cons_succ,List.set_cons_zero]
   rw [g1,g3]
   have HX:=Lib.hid (treply_calls hl ha hm hne (hT8.out.below hW) (hvx8.out.below hW) (bar ph))
   rw [HXR.out] at HX
   repeat' (first | (go_at_call 37;((with_reducible refine (HX.out).mono ?_));rintro e w7 ⟨cv,rfl,hcv,hb7⟩;dsimp only) | go_skip | go_guarded | go_step | go_upon)
   exact a5s (.agg (LN.let (repL l a me (bar ph)) cv).row) rfl (by go_simp) hb7 ⟨cv,rfl,hcv.mono hW.size⟩
  case tl =>
   intro vs W3 hW3 hk
   have h0:vs 0=.agg (ownRow me 4 0 90 (bar ph) ow pw):=hk 0 (by decide)
   have h4:=hk 4 (by decide)
   have h4e:=h4.choose_spec.1
   have h4c:=h4.choose_spec.2
   generalize h4.choose=cv at h4e h4c
   clear h4 hk
   dsimp only [a9l,List.take,List.drop]
   simp only [Act.put,List.setIfInBounds_toArray,List.set_cons_succ,List.set_cons_zero]
   rw [h0,h4e]
   generalize vs 1=u1,vs 2=u2,vs 3=u3
   clear h0 h4e
   have z43:=a00 zz4 hW3 lb48
   have z53:=a00 zz5 hW3 lb58
   have lz3:=a0e (LN.let (repL l a me (bar ph)) cv) (a13 _)
   have lo3:=a0y (LN.let (repL l a me (bar ph)) cv) (a0v h4c)
   have jB3:=jB8.trans (hW3.mono jB8.size)
   generalize hrow3:(LN.let (repL l a me (bar ph)) cv).row=ROW3 at *
   repeat' (first | go_skip | go_guarded | go_step | go_upon)
   have y4:obj (W3.setRow (W.heap.size+2) (ownRow me 4 0 90 (bar ph) ow pw)) (W.heap.size+2)=some (.cells (ownRow me 4 0 90 (bar ph) ow pw) 28 (0,0)):=setRow_heap _ _ _ _ _ _ z43
   have y5:obj (W3.setRow (W.heap.size+2) (ownRow me 4 0 90 (bar ph) ow pw)) (W.heap.size+3)=some (.cells z48 48 (0,0)):=a2q z53 (by omega) _
   have x4:obj ((W3.setRow (W.heap.size+2) (ownRow me 4 0 90 (bar ph) ow pw)).setRow (W.heap.size+3) ROW3) (W.heap.size+2)=some (.cells (ownRow me 4 0 90 (bar ph) ow pw) 28 (0,0)):=a2q y4 (by omega) _
   have x5:obj ((W3.setRow (W.heap.size+2) (ownRow me 4 0 90 (bar ph) ow pw)).setRow (W.heap.size+3) ROW3) (W.heap.size+3)=some (.cells ROW3 48 (0,0)):=setRow_heap _ _ _ _ _ _ y5
   have HB5:Below W.heap.size W ((W3.setRow (W.heap.size+2) (ownRow me 4 0 90 (bar ph) ow pw)).setRow (W.heap.size+3) ROW3):=below_setRow (below_setRow jB3 (by omega) _) (by omega) _
   have HWn:a0h 0 ((W3.setRow (W.heap.size+2) (ownRow me 4 0 90 (bar ph) ow pw)).setRow (W.heap.size+3) ROW3) ow l:=a2m (a2m (hw8.out.below hW3) z43 (by decide) (fun y hy=>setRow_other _ _ _ _ hy)) y5 (by decide) (fun y hy=>setRow_other _ _ _ _ hy)
   have HCV:a0h W.heap.size ((W3.setRow (W.heap.size+2) (ownRow me 4 0 90 (bar ph) ow pw)).setRow (W.heap.size+3) ROW3) cv l:=(a2m (a2m h4c z43 (by decide) (fun y hy=>setRow_other _ _ _ _ hy)) y5 (by decide) (fun y hy=>setRow_other _ _ _ _ hy)).mono jB8.size
   refine bodyPost_ret (results_row_row_tmp rfl _ _ (W.heap.size+2) (W.heap.size+3) 28 48 _ _ _ _ _ _ _ rfl x4 Tryz.underlying28 rfl (by kernel_rfl) rfl x5 Tryz.underlying48 rfl (by rw [lz3];kernel_rfl) rfl) rfl ?_
   subst hrow3
   exact ⟨ow,pw,cv,rfl,HWn,hpw,HCV,HB5⟩
end Go.Proofs.YtopgdlblfieljaaGreatDoor
