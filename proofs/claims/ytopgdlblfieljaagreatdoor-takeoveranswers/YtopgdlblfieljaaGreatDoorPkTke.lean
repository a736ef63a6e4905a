/-
  takeover.Answer.
-/
import Derived.Test.YtopgdlblfieljaaGreatDoorPkTkc
set_option linter.unusedSectionVars false
set_option linter.constructorNameAsVariable false
set_option linter.unusedVariables false
set_option linter.unusedSimpArgs false
namespace Go.Proofs.YtopgdlblfieljaaGreatDoor
open Go.RowKit Go.CE.V
set_option maxRecDepth 20000
set_option maxHeartbeats 8000000
theorem tLs_le {l:List Nat} (hl:l∈tLs) {n:Nat} (hn:n∈l):n < 5:=(by decide:∀ l∈tLs,∀ n∈l,n < 5) l hl n hn
theorem inq_sz {l:List Nat} (hl:l∈tLs) {me:Nat} (hm:me∈l) {a:Nat} (ha:a < 5):(inqL l a me).Sz:=by
 have h5:=tLs_le hl hm
 have hc:∀ c∈l,c≤1099511627776:=fun c hc=>by have:=tLs_le hl hc;omega
 exact ⟨by show 13≤_;omega,by show a≤_;omega,by show me≤_;omega,by show 4≤_;omega,by show 0≤_;omega,by show 0≤_;omega,by show 0≤_;omega,hc,(by decide:∀ l∈tLs,l.length≤4) l hl,by show asj.length=32;decide⟩
theorem tanswer_no1 {l:List Nat} (hl:l∈tLs) {me:Nat} (hm:me∈l) {ph:Nat} (hp:ph∈phs) {W:World} {ov vx:Value} {x:LN} (hx:x.Sz) (hf:x.frm < 5) (hv:a0h 0 W ov l) (hvx:a0h 0 W vx x.cs) (ho:oth me l x.frm=false):Calls Tryz.prog 12 #[.agg (ownRow me 4 0 90 ph ov (.slice none 0 0)),.agg (LN.let x vx).row] W fun e W'=>e=.returned (.tuple #[.agg #[.int .i64 0,.int .i64 0,.int .i64 0,.int .i64 0,.int .i64 0,.slice none 0 0,.slice none 0 0],.agg z48,.int .i64 1])∧Below W.heap.size W W':=by
 have HO:=Lib.hid ho
 clear ho
 have po:=a1y me 4 0 90 ph (a0v hv) (show (Value.slice none 0 0).oneCell' = true from rfl)
 have lz:=a0e (LN.let x vx) hx.ref
 have la:=a15 (LN.let x vx) hx.ref
 have lo:=a0y (LN.let x vx) (a0v hvx)
 have HCF:=Lib.hid (show ∀ W',obj W' (W.heap.size+1)=some (.cells (LN.let x vx).row 48 (0,0))→W'.cell? ⟨(W.heap.size+1),1,none⟩=some (.int .i64 x.frm) from fun W' h=>(a01 h 1).trans (by rw [CE.V.a1i];rfl))
 have HXR:Hid ((LN.let x vx).row=(LN.let x vx).row):=Lib.hid rfl
 generalize hxr:(LN.let x vx).row=XR at lz la lo HCF
 have HXR:=Lib.hid hxr
 have b2:obj ((((W.alloc (.cells (ownRow me 4 0 90 ph ov (.slice none 0 0)) 28 (0,0))).alloc (.cells XR 48 (0,0))).alloc (.cells #[.int .i64 0,.int .i64 0,.int .i64 0,.int .i64 0,.int .i64 0,.slice none 0 0,.slice none 0 0] 28 (0,0))).alloc (.cells z48 48 (0,0))) W.heap.size=some (.cells (ownRow me 4 0 90 ph ov (.slice none 0 0)) 28 (0,0)):=a02 (a02 (a02 (a03 _ _ _ rfl) _) _) _
 have b3:obj ((((W.alloc (.cells (ownRow me 4 0 90 ph ov (.slice none 0 0)) 28 (0,0))).alloc (.cells XR 48 (0,0))).alloc (.cells #[.int .i64 0,.int .i64 0,.int .i64 0,.int .i64 0,.int .i64 0,.slice none 0 0,.slice none 0 0] 28 (0,0))).alloc (.cells z48 48 (0,0))) (W.heap.size+1)=some (.cells XR 48 (0,0)):=a02 (a02 (a03 _ _ _ (by simp)) _) _
 have z4:obj ((((W.alloc (.cells (ownRow me 4 0 90 ph ov (.slice none 0 0)) 28 (0,0))).alloc (.cells XR 48 (0,0))).alloc (.cells #[.int .i64 0,.int .i64 0,.int .i64 0,.int .i64 0,.int .i64 0,.slice none 0 0,.slice none 0 0] 28 (0,0))).alloc (.cells z48 48 (0,0))) (W.heap.size+2)=some (.cells #[.int .i64 0,.int .i64 0,.int .i64 0,.int .i64 0,.int .i64 0,.slice none 0 0,.slice none 0 0] 28 (0,0)):=a02 (a03 _ _ _ (by simp)) _
 have z5:obj ((((W.alloc (.cells (ownRow me 4 0 90 ph ov (.slice none 0 0)) 28 (0,0))).alloc (.cells XR 48 (0,0))).alloc (.cells #[.int .i64 0,.int .i64 0,.int .i64 0,.int .i64 0,.int .i64 0,.slice none 0 0,.slice none 0 0] 28 (0,0))).alloc (.cells z48 48 (0,0))) (W.heap.size+3)=some (.cells z48 48 (0,0)):=a03 _ _ _ (by simp)
 have w1B:Below W.heap.size W ((((W.alloc (.cells (ownRow me 4 0 90 ph ov (.slice none 0 0)) 28 (0,0))).alloc (.cells XR 48 (0,0))).alloc (.cells #[.int .i64 0,.int .i64 0,.int .i64 0,.int .i64 0,.int .i64 0,.slice none 0 0,.slice none 0 0] 28 (0,0))).alloc (.cells z48 48 (0,0))):=((((Below.refl _ _).alloc (Nat.le_refl _) _).alloc (by simp) _).alloc (by simp;omega) _).alloc (by simp;omega) _
 have hv1:=Lib.hid (hv.below w1B)
 have hvx1:=Lib.hid (hvx.below w1B)
 clear hv hvx hxr
 go_enter Tryz.func12,Tryz.ntmps12
 repeat' (first | go_skip | go_guarded | go_step | go_upon)
 generalize ((((W.alloc (.cells (ownRow me 4 0 90 ph ov (.slice none 0 0)) 28 (0,0))).alloc (.cells XR 48 (0,0))).alloc (.cells #[.int .i64 0,.int .i64 0,.int .i64 0,.int .i64 0,.int .i64 0,.slice none 0 0,.slice none 0 0] 28 (0,0))).alloc (.cells z48 48 (0,0)))=w1 at *
 have lb2:=a04 b2
 have lb3:=a04 b3
 have lb4:=a04 z4
 have lb5:=a04 z5
 refine agn 21 [([],fun v _=>v=.agg (ownRow me 4 0 90 ph ov (.slice none 0 0))),
   ([0],fun v _=>v=.bool true),
   ([1],fun v _=>v=.bool false),
   ([2],fun v _=>v=.bool false),
   ([3],fun v _=>v=.agg (ownRow me 4 0 90 ph ov (.slice none 0 0))),
   ([3],fun v _=>v=.pointer (some ⟨(W.heap.size+1),1,none⟩)),
   ([3,5],fun v _=>v=.int .i64 x.frm),
   ([3,4,6],fun v _=>v=.bool false),
   ([3,7],fun v _=>v=.bool true),
   ([3,8],fun v _=>v=.bool true),
   ([9],fun v _=>v=.bool true),
   ([10],fun v _=>v=undef),
   ([10],fun v _=>v=undef),
   ([10],fun v _=>v=undef),
   ([10],fun v _=>v=undef),
   ([10],fun v _=>v=undef),
   ([10],fun v _=>v=undef),
   ([10],fun v _=>v=undef),
   ([10],fun v _=>v=undef),
   ([10],fun v _=>v=undef),
   ([10],fun v _=>v=.bool true)] (by kernel_rfl) (by kernel_rfl) ?st ⟨?o0,?o1,?o2,?o3,?o4,?o5,?o6,?o7,?o8,?o9,?o10,?o11,?o12,?o13,?o14,?o15,?o16,?o17,?o18,?o19,?o20,trivial⟩ ?tl
 case st =>
  intro k v W1 W2 h hb
  rcases k with _ | _ | _ | _ | _ | _ | _ | _ | _ | _ | _ | _ | _ | _ | _ | _ | _ | _ | _ | _ | _ | k
  ·exact h
  ·exact h
  ·exact h
  ·exact h
  ·exact h
  ·exact h
  ·exact h
  ·exact h
  ·exact h
  ·exact h
  ·exact h
  ·exact h
  ·exact h
  ·exact h
  ·exact h
  ·exact h
  ·exact h
  ·exact h
  ·exact h
  ·exact h
  ·exact h
  ·trivial
 case o0 =>
  intro vs Wq hW hk
  clear hk
  dsimp only [a9l,List.take]
  simp only [Act.put,List.setIfInBounds_toArray,List.set_cons_succ,List.set_cons_zero]
  have b2W:=a00 b2 hW lb2
  repeat' (first | go_skip | go_guarded | go_step | go_upon)
  exact a5s (.agg (ownRow me 4 0 90 ph ov (.slice none 0 0))) rfl (by go_simp) (Below.refl _ _) rfl
 case o1 =>
  intro vs Wq hW hk
  have g0:vs 0=.agg (ownRow me 4 0 90 ph ov (.slice none 0 0)):=hk.1
  clear hk
  dsimp only [a9l,List.take]
  simp only [Act.put,List.setIfInBounds_toArray,List.set_cons_succ,List.set_cons_zero]
  rw [g0]
  have HX:=Lib.hid (tvalid_calls hl hm hp (hv1.out.below hW))
  repeat' (first | (go_at_call 24;((with_reducible refine (HX.out).mono ?_));rintro e w7 ⟨rfl,hb7⟩;dsimp only) | go_skip | go_guarded | go_step | go_upon)
  exact a5s (.bool true) rfl (by go_simp) hb7 rfl
 case o2 =>
  intro vs Wq hW hk
  have g1:vs 1=.bool true:=hk.1
  clear hk
  dsimp only [a9l,List.take]
  simp only [Act.put,List.setIfInBounds_toArray,List.set_cons_succ,List.set_cons_zero]
  rw [g1]
  repeat' (first | go_skip | go_guarded | go_step | go_upon)
  exact a5s (.bool false) rfl (by go_simp) (Below.refl _ _) rfl
 case o3 =>
  intro vs Wq hW hk
  have g2:vs 2=.bool false:=hk.1
  clear hk
  dsimp only [a9l,List.take]
  simp only [Act.put,List.setIfInBounds_toArray,List.set_cons_succ,List.set_cons_zero]
  rw [g2]
  repeat' (first | go_skip | go_guarded | go_step | go_upon)
  exact a5s (.bool false) rfl (by go_simp) (Below.refl _ _) rfl
 case o4 =>
  intro vs Wq hW hk
  have g3:vs 3=.bool false:=hk.1
  clear hk
  dsimp only [a9l,List.take]
  simp only [Act.put,List.setIfInBounds_toArray,List.set_cons_succ,List.set_cons_zero]
  rw [g3]
  have b2W:=a00 b2 hW lb2
  repeat' (first | go_skip | go_guarded | go_step | go_upon)
  exact a5s (.agg (ownRow me 4 0 90 ph ov (.slice none 0 0))) rfl (by go_simp) (Below.refl _ _) rfl
 case o5 =>
  intro vs Wq hW hk
  have g3:vs 3=.bool false:=hk.1
  clear hk
  dsimp only [a9l,List.take]
  simp only [Act.put,List.setIfInBounds_toArray,List.set_cons_succ,List.set_cons_zero]
  rw [g3]
  repeat' (first | go_skip | go_guarded | go_step | go_upon)
  exact a5s (.pointer (some ⟨(W.heap.size+1),1,none⟩)) rfl (by go_simp) (Below.refl _ _) rfl
 case o6 =>
  intro vs Wq hW hk
  have g3:vs 3=.bool false:=hk.1
  have g5:vs 5=.pointer (some ⟨(W.heap.size+1),1,none⟩):=hk.2.1
  clear hk
  dsimp only [a9l,List.take]
  simp only [Act.put,List.setIfInBounds_toArray,List.set_cons_succ,List.set_cons_zero]
  rw [g3,g5]
  have cF:=HCF.out _ (a00 b3 hW lb3)
  repeat' (first | go_skip | go_guarded | go_step | go_upon)
  exact a5s (.int .i64 x.frm) rfl (by go_simp) (Below.refl _ _) rfl
 case o7 =>
  intro vs Wq hW hk
  have g3:vs 3=.bool false:=hk.1
  have g4:vs 4=.agg (ownRow me 4 0 90 ph ov (.slice none 0 0)):=hk.2.1
  have g6:vs 6=.int .i64 x.frm:=hk.2.2.1
  clear hk
  dsimp only [a9l,List.take]
  simp only [Act.put,List.setIfInBounds_toArray,List.set_cons_succ,List.set_cons_zero]
  rw [g3,g4,g6]
  have ho':=HO.out
  have HX:=Lib.hid (tother_calls hl hm hp (hv1.out.below hW) hf)
  repeat' (first | (go_at_call 35;((with_reducible refine (HX.out).mono ?_));rintro e w7 ⟨h7,hb7⟩;rw [ho'] at h7;subst h7;dsimp only) | go_skip | go_guarded | go_step | go_upon)
  exact a5s (.bool false) rfl (by go_simp) hb7 rfl
 case o8 =>
  intro vs Wq hW hk
  have g3:vs 3=.bool false:=hk.1
  have g7:vs 7=.bool false:=hk.2.1
  clear hk
  dsimp only [a9l,List.take]
  simp only [Act.put,List.setIfInBounds_toArray,List.set_cons_succ,List.set_cons_zero]
  rw [g3,g7]
  repeat' (first | go_skip | go_guarded | go_step | go_upon)
  exact a5s (.bool true) rfl (by go_simp) (Below.refl _ _) rfl
 case o9 =>
  intro vs Wq hW hk
  have g3:vs 3=.bool false:=hk.1
  have g8:vs 8=.bool true:=hk.2.1
  clear hk
  dsimp only [a9l,List.take]
  simp only [Act.put,List.setIfInBounds_toArray,List.set_cons_succ,List.set_cons_zero]
  rw [g3,g8]
  repeat' (first | go_skip | go_guarded | go_step | go_upon)
  exact a5s (.bool true) rfl (by go_simp) (Below.refl _ _) rfl
 case o10 =>
  intro vs Wq hW hk
  have g9:vs 9=.bool true:=hk.1
  clear hk
  dsimp only [a9l,List.take]
  simp only [Act.put,List.setIfInBounds_toArray,List.set_cons_succ,List.set_cons_zero]
  rw [g9]
  repeat' (first | go_skip | go_guarded | go_step | go_upon)
  exact a5s (.bool true) rfl (by go_simp) (Below.refl _ _) rfl
 case o11 =>
  intro vs Wq hW hk
  have g10:vs 10=.bool true:=hk.1
  clear hk
  dsimp only [a9l,List.take]
  simp only [Act.put,List.setIfInBounds_toArray,List.set_cons_succ,List.set_cons_zero]
  rw [g10]
  repeat' (first | go_skip | go_guarded | go_step | go_upon)
  exact a5s undef rfl (by go_simp) (Below.refl _ _) rfl
 case o12 =>
  intro vs Wq hW hk
  have g10:vs 10=.bool true:=hk.1
  clear hk
  dsimp only [a9l,List.take]
  simp only [Act.put,List.setIfInBounds_toArray,List.set_cons_succ,List.set_cons_zero]
  rw [g10]
  repeat' (first | go_skip | go_guarded | go_step | go_upon)
  exact a5s undef rfl (by go_simp) (Below.refl _ _) rfl
 case o13 =>
  intro vs Wq hW hk
  have g10:vs 10=.bool true:=hk.1
  clear hk
  dsimp only [a9l,List.take]
  simp only [Act.put,List.setIfInBounds_toArray,List.set_cons_succ,List.set_cons_zero]
  rw [g10]
  repeat' (first | go_skip | go_guarded | go_step | go_upon)
  exact a5s undef rfl (by go_simp) (Below.refl _ _) rfl
 case o14 =>
  intro vs Wq hW hk
  have g10:vs 10=.bool true:=hk.1
  clear hk
  dsimp only [a9l,List.take]
  simp only [Act.put,List.setIfInBounds_toArray,List.set_cons_succ,List.set_cons_zero]
  rw [g10]
  repeat' (first | go_skip | go_guarded | go_step | go_upon)
  exact a5s undef rfl (by go_simp) (Below.refl _ _) rfl
 case o15 =>
  intro vs Wq hW hk
  have g10:vs 10=.bool true:=hk.1
  clear hk
  dsimp only [a9l,List.take]
  simp only [Act.put,List.setIfInBounds_toArray,List.set_cons_succ,List.set_cons_zero]
  rw [g10]
  repeat' (first | go_skip | go_guarded | go_step | go_upon)
  exact a5s undef rfl (by go_simp) (Below.refl _ _) rfl
 case o16 =>
  intro vs Wq hW hk
  have g10:vs 10=.bool true:=hk.1
  clear hk
  dsimp only [a9l,List.take]
  simp only [Act.put,List.setIfInBounds_toArray,List.set_cons_succ,List.set_cons_zero]
  rw [g10]
  repeat' (first | go_skip | go_guarded | go_step | go_upon)
  exact a5s undef rfl (by go_simp) (Below.refl _ _) rfl
 case o17 =>
  intro vs Wq hW hk
  have g10:vs 10=.bool true:=hk.1
  clear hk
  dsimp only [a9l,List.take]
  simp only [Act.put,List.setIfInBounds_toArray,List.set_cons_succ,List.set_cons_zero]
  rw [g10]
  repeat' (first | go_skip | go_guarded | go_step | go_upon)
  exact a5s undef rfl (by go_simp) (Below.refl _ _) rfl
 case o18 =>
  intro vs Wq hW hk
  have g10:vs 10=.bool true:=hk.1
  clear hk
  dsimp only [a9l,List.take]
  simp only [Act.put,List.setIfInBounds_toArray,List.set_cons_succ,List.set_cons_zero]
  rw [g10]
  repeat' (first | go_skip | go_guarded | go_step | go_upon)
  exact a5s undef rfl (by go_simp) (Below.refl _ _) rfl
 case o19 =>
  intro vs Wq hW hk
  have g10:vs 10=.bool true:=hk.1
  clear hk
  dsimp only [a9l,List.take]
  simp only [Act.put,List.setIfInBounds_toArray,List.set_cons_succ,List.set_cons_zero]
  rw [g10]
  repeat' (first | go_skip | go_guarded | go_step | go_upon)
  exact a5s undef rfl (by go_simp) (Below.refl _ _) rfl
 case o20 =>
  intro vs Wq hW hk
  have g10:vs 10=.bool true:=hk.1
  clear hk
  dsimp only [a9l,List.take]
  simp only [Act.put,List.setIfInBounds_toArray,List.set_cons_succ,List.set_cons_zero]
  rw [g10]
  repeat' (first | go_skip | go_guarded | go_step | go_upon)
  exact a5s (.bool true) rfl (by go_simp) (Below.refl _ _) rfl
 case tl =>
  intro vs W2 hW2 hk
  have h20:vs 20=.bool true:=hk 20 (by decide)
  clear hk
  dsimp only [a9l,List.take,List.drop]
  simp only [Act.put,List.setIfInBounds_toArray,List.set_cons_succ,List.set_cons_zero]
  rw [h20]
  generalize vs 0=u0,vs 1=u1,vs 2=u2,vs 3=u3,vs 4=u4,vs 5=u5,vs 6=u6,vs 7=u7,vs 8=u8,vs 9=u9,vs 10=u10,vs 11=u11,vs 12=u12,vs 13=u13,vs 14=u14,vs 15=u15,vs 16=u16,vs 17=u17,vs 18=u18,vs 19=u19
  have jB:=w1B.trans (hW2.mono w1B.size)
  have z4W:=a00 z4 hW2 lb4
  have z5W:=a00 z5 hW2 lb5
  repeat' (first | go_skip | go_guarded | go_step | go_upon)
  refine bodyPost_ret (results_row_row_tmp rfl _ _ (W.heap.size+2) (W.heap.size+3) 28 48 _ _ _ _ _ _ _ rfl (a2q (setRow_heap _ _ _ _ _ _ z4W) (by omega) _) Tryz.underlying28 rfl (by kernel_rfl) rfl (setRow_heap _ _ _ _ _ _ (a2q z5W (by omega) _)) Tryz.underlying48 rfl (by kernel_rfl) rfl) rfl ?_
  exact ⟨by first | rfl | (unfold z48;rfl),below_setRow (below_setRow jB (by omega) _) (by omega) _⟩
end Go.Proofs.YtopgdlblfieljaaGreatDoor
