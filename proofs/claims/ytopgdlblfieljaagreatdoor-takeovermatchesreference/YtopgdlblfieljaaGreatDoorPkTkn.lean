/-
  kalendsref30.IsAnswer.
-/
import Derived.Test.YtopgdlblfieljaaGreatDoorPkTkq
import Derived.Test.YtopgdlblfieljaaGreatDoorPkTkz
set_option linter.unusedSectionVars false
set_option linter.constructorNameAsVariable false
set_option linter.unusedVariables false
set_option linter.unusedSimpArgs false
namespace Go.Proofs.YtopgdlblfieljaaGreatDoor
open Go.RowKit Go.CE.V
set_option maxRecDepth 20000
set_option maxHeartbeats 8000000
theorem rans_no0 {l:List Nat} (hl:l∈tLs) {me:Nat} (hm:me∈l) {ph:Nat} (hp:ph∈phs) {W:World} {ov vx:Value} {x:LN} (hx:x.Sz) (hf:x.frm < 5) (hT:ase W) (hv:a0h 0 W ov l) (hvx:a0h 0 W vx x.cs) (hap:Apart vx ov∨vx=ov) (ho:oth me l x.frm=false):Calls Tryz.prog 41 #[.agg (ownRow me 4 0 90 ph ov (.slice none 0 0)),.agg (LN.let x vx).row] W fun e W'=>e=.returned (.bool false)∧Below W.heap.size W W':=by
 have n3:True:=trivial
 have n4:=n3
 have n5:=n3
 have HO:=Lib.hid ho
 clear ho
 have HT0:=Lib.hid hT
 have po:=a1y me 4 0 90 ph (a0v hv) (show (Value.slice none 0 0).oneCell' = true from rfl)
 have lz:=a0e (LN.let x vx) hx.ref
 have la:=a15 (LN.let x vx) hx.ref
 have lo:=a0y (LN.let x vx) (a0v hvx)
 have HCF:=Lib.hid (show ∀ W',obj W' (W.heap.size+1)=some (.cells (LN.let x vx).row 48 (0,0))→W'.cell? ⟨(W.heap.size+1),1,none⟩=some (.int .i64 x.frm) from fun W' h=>(a01 h 1).trans (by rw [CE.V.a1i];rfl))
 have HCS:=Lib.hid (show ∀ W',obj W' (W.heap.size+1)=some (.cells (LN.let x vx).row 48 (0,0))→W'.cell? ⟨(W.heap.size+1),25,none⟩=some (.int .i64 x.st) from fun W' h=>(a01 h 25).trans (by rw [CE.V.a1i];rfl))
 generalize hks:(x.st:Int)=ks at HCS
 have HKS:=Lib.hid hks
 have HXR0:Hid ((LN.let x vx).row=(LN.let x vx).row):=Lib.hid rfl
 generalize hxr:(LN.let x vx).row=XR at lz la lo HCF HCS
 have HXR:=Lib.hid hxr
 have b2:obj ((W.alloc (.cells (ownRow me 4 0 90 ph ov (.slice none 0 0)) 28 (0,0))).alloc (.cells XR 48 (0,0))) W.heap.size=some (.cells (ownRow me 4 0 90 ph ov (.slice none 0 0)) 28 (0,0)):=a02 (a03 _ _ _ rfl) _
 have b3:obj ((W.alloc (.cells (ownRow me 4 0 90 ph ov (.slice none 0 0)) 28 (0,0))).alloc (.cells XR 48 (0,0))) (W.heap.size+1)=some (.cells XR 48 (0,0)):=a03 _ _ _ (by simp)
 have w1B:Below W.heap.size W ((W.alloc (.cells (ownRow me 4 0 90 ph ov (.slice none 0 0)) 28 (0,0))).alloc (.cells XR 48 (0,0))):=((Below.refl _ _).alloc (Nat.le_refl _) _).alloc (by simp) _
 have hv1:=Lib.hid (hv.below w1B)
 have hvx1:=Lib.hid (hvx.below w1B)
 have hT1:=Lib.hid (HT0.out.below w1B)
 clear hv hvx hT HT0 hks
 have cS0:=HCS.out _ b3
 have cF0:=HCF.out _ b3
 have HX0:=Lib.hid (rother_calls hl hm hp hv1.out hf)
 go_enter Tryz.func41,Tryz.ntmps41
 repeat' (first | (go_at_call 38;((with_reducible refine (HX0.out).mono ?_));rintro e w7 ⟨h7,hb7⟩;rw [HO.out] at h7;subst h7;have cS7:=HCS.out _ (a1w b3 hb7);dsimp only) | go_skip | go_guarded | go_step | go_upon)
 exact bodyPost_ret (results_tmp rfl _ _ _) rfl ⟨rfl,w1B.trans (hb7.mono w1B.size)⟩
theorem rans_no1 {l:List Nat} (hl:l∈tLs) {me:Nat} (hm:me∈l) {ph:Nat} (hp:ph∈phs) {W:World} {ov vx:Value} {x:LN} (hx:x.Sz) (hf:x.frm < 5) (hT:ase W) (hv:a0h 0 W ov l) (hvx:a0h 0 W vx x.cs) (hap:Apart vx ov∨vx=ov) (n3:(x.st:Int)≠3) (n4:(x.st:Int)≠4) (n5:(x.st:Int)≠5) (ho:oth me l x.frm=true):Calls Tryz.prog 41 #[.agg (ownRow me 4 0 90 ph ov (.slice none 0 0)),.agg (LN.let x vx).row] W fun e W'=>e=.returned (.bool false)∧Below W.heap.size W W':=by
 have HO:=Lib.hid ho
 clear ho
 have HT0:=Lib.hid hT
 have po:=a1y me 4 0 90 ph (a0v hv) (show (Value.slice none 0 0).oneCell' = true from rfl)
 have lz:=a0e (LN.let x vx) hx.ref
 have la:=a15 (LN.let x vx) hx.ref
 have lo:=a0y (LN.let x vx) (a0v hvx)
 have HCF:=Lib.hid (show ∀ W',obj W' (W.heap.size+1)=some (.cells (LN.let x vx).row 48 (0,0))→W'.cell? ⟨(W.heap.size+1),1,none⟩=some (.int .i64 x.frm) from fun W' h=>(a01 h 1).trans (by rw [CE.V.a1i];rfl))
 have HCS:=Lib.hid (show ∀ W',obj W' (W.heap.size+1)=some (.cells (LN.let x vx).row 48 (0,0))→W'.cell? ⟨(W.heap.size+1),25,none⟩=some (.int .i64 x.st) from fun W' h=>(a01 h 25).trans (by rw [CE.V.a1i];rfl))
 generalize hks:(x.st:Int)=ks at HCS n3 n4 n5
 have HKS:=Lib.hid hks
 have p3 : ¬ ks=3:=n3
 have p4 : ¬ ks=4:=n4
 have p5 : ¬ ks=5:=n5
 have q3:(ks != 3)=true:=by simpa using n3
 have q4:(ks != 4)=true:=by simpa using n4
 have q5:(ks != 5)=true:=by simpa using n5
 clear n3 n4 n5
 have e3:(ks == 3)=false:=by simpa using p3
 have e4:(ks == 4)=false:=by simpa using p4
 have e5:(ks == 5)=false:=by simpa using p5
 have HXR0:Hid ((LN.let x vx).row=(LN.let x vx).row):=Lib.hid rfl
 generalize hxr:(LN.let x vx).row=XR at lz la lo HCF HCS
 have HXR:=Lib.hid hxr
 have b2:obj ((W.alloc (.cells (ownRow me 4 0 90 ph ov (.slice none 0 0)) 28 (0,0))).alloc (.cells XR 48 (0,0))) W.heap.size=some (.cells (ownRow me 4 0 90 ph ov (.slice none 0 0)) 28 (0,0)):=a02 (a03 _ _ _ rfl) _
 have b3:obj ((W.alloc (.cells (ownRow me 4 0 90 ph ov (.slice none 0 0)) 28 (0,0))).alloc (.cells XR 48 (0,0))) (W.heap.size+1)=some (.cells XR 48 (0,0)):=a03 _ _ _ (by simp)
 have w1B:Below W.heap.size W ((W.alloc (.cells (ownRow me 4 0 90 ph ov (.slice none 0 0)) 28 (0,0))).alloc (.cells XR 48 (0,0))):=((Below.refl _ _).alloc (Nat.le_refl _) _).alloc (by simp) _
 have hv1:=Lib.hid (hv.below w1B)
 have hvx1:=Lib.hid (hvx.below w1B)
 have hT1:=Lib.hid (HT0.out.below w1B)
 clear hv hvx hT HT0 hks
 have cS0:=HCS.out _ b3
 have cF0:=HCF.out _ b3
 have HX0:=Lib.hid (rother_calls hl hm hp hv1.out hf)
 go_enter Tryz.func41,Tryz.ntmps41
 repeat' (first | (go_at_call 38;((with_reducible refine (HX0.out).mono ?_));rintro e w7 ⟨h7,hb7⟩;rw [HO.out] at h7;subst h7;have cS7:=HCS.out _ (a1w b3 hb7);dsimp only) | go_skip | go_guarded | go_step | go_upon)
 exact bodyPost_ret (results_tmp rfl _ _ _) rfl ⟨rfl,w1B.trans (hb7.mono w1B.size)⟩
theorem rans_no3 {l:List Nat} (hl:l∈tLs) {me:Nat} (hm:me∈l) {ph:Nat} (hp:ph∈phs) {W:World} {ov vx:Value} {x:LN} (hx:x.Sz) (hf:x.frm < 5) (hT:ase W) (hv:a0h 0 W ov l) (hvx:a0h 0 W vx x.cs) (hap:Apart vx ov∨vx=ov) (hk:x.st=3∨x.st=4∨x.st=5) (ho:oth me l x.frm=true) (hq:x≠repL l me x.frm x.st):Calls Tryz.prog 41 #[.agg (ownRow me 4 0 90 ph ov (.slice none 0 0)),.agg (LN.let x vx).row] W fun e W'=>e=.returned (.bool false)∧Below W.heap.size W W':=by
 have HO:=Lib.hid ho
 have HQ:=Lib.hid hq
 have hfl:=(oth_mem ho).1
 have hnm:=(oth_mem ho).2
 have hst:x.st < 256:=by omega
 clear hq ho
 have HT0:=Lib.hid hT
 have po:=a1y me 4 0 90 ph (a0v hv) (show (Value.slice none 0 0).oneCell' = true from rfl)
 have lz:=a0e (LN.let x vx) hx.ref
 have la:=a15 (LN.let x vx) hx.ref
 have lo:=a0y (LN.let x vx) (a0v hvx)
 have HCF:=Lib.hid (show ∀ W',obj W' (W.heap.size+1)=some (.cells (LN.let x vx).row 48 (0,0))→W'.cell? ⟨(W.heap.size+1),1,none⟩=some (.int .i64 x.frm) from fun W' h=>(a01 h 1).trans (by rw [CE.V.a1i];rfl))
 have HCS:=Lib.hid (show ∀ W',obj W' (W.heap.size+1)=some (.cells (LN.let x vx).row 48 (0,0))→W'.cell? ⟨(W.heap.size+1),25,none⟩=some (.int .i64 x.st) from fun W' h=>(a01 h 25).trans (by rw [CE.V.a1i];rfl))
 have E:(x.st:Int)=3∨(x.st:Int)=4∨(x.st:Int)=5:=by omega
 clear hk
 generalize hks:(x.st:Int)=ks at HCS E
 have HKS:=Lib.hid hks
 have HXR0:Hid ((LN.let x vx).row=(LN.let x vx).row):=Lib.hid rfl
 generalize hxr:(LN.let x vx).row=XR at lz la lo HCF HCS
 have HXR:=Lib.hid hxr
 have b2:obj ((W.alloc (.cells (ownRow me 4 0 90 ph ov (.slice none 0 0)) 28 (0,0))).alloc (.cells XR 48 (0,0))) W.heap.size=some (.cells (ownRow me 4 0 90 ph ov (.slice none 0 0)) 28 (0,0)):=a02 (a03 _ _ _ rfl) _
 have b3:obj ((W.alloc (.cells (ownRow me 4 0 90 ph ov (.slice none 0 0)) 28 (0,0))).alloc (.cells XR 48 (0,0))) (W.heap.size+1)=some (.cells XR 48 (0,0)):=a03 _ _ _ (by simp)
 have w1B:Below W.heap.size W ((W.alloc (.cells (ownRow me 4 0 90 ph ov (.slice none 0 0)) 28 (0,0))).alloc (.cells XR 48 (0,0))):=((Below.refl _ _).alloc (Nat.le_refl _) _).alloc (by simp) _
 have hv1:=Lib.hid (hv.below w1B)
 have hvx1:=Lib.hid (hvx.below w1B)
 have hT1:=Lib.hid (HT0.out.below w1B)
 clear hv hvx hT HT0 hks
 have cF0:=HCF.out _ b3
 have HX0:=Lib.hid (rother_calls hl hm hp hv1.out hf)
 have HCT:=HCS
 rcases E with E | E | E
 all_goals
  rw [E] at HCT
  clear E
  have cS0:=HCT.out _ b3
  go_enter Tryz.func41,Tryz.ntmps41
  repeat' (first | (go_at_call 38;((with_reducible refine (HX0.out).mono ?_));rintro e w7 ⟨h7,hb7⟩;rw [HO.out] at h7;subst h7;have cS7:=HCT.out _ (a1w b3 hb7);have hv7:=Lib.hid (hv1.out.below hb7);have hvx7:=Lib.hid (hvx1.out.below hb7);have hT7:=Lib.hid (hT1.out.below hb7);have b27:=a1w b2 hb7;have b37:=a1w b3 hb7;have w7B:=w1B.trans (hb7.mono w1B.size);dsimp only) | go_skip | go_guarded | go_step | go_upon)
  clear hv1 hvx1 hT1 b2 b3 w1B HX0 hb7 cS0 cF0 cS7
  have hv1:=hv7
  have hvx1:=hvx7
  have hT1:=hT7
  have b2:=b27
  have b3:=b37
  have w1B:=w7B
  clear hv7 hvx7 hT7 b27 b37 w7B
  have lb2:=a04 b2
  have lb3:=a04 b3
  refine agn 11 [([],fun v _=>v=.agg XR),
    ([],fun v _=>v=.agg (ownRow me 4 0 90 ph ov (.slice none 0 0))),
    ([],fun v _=>v=.pointer (some ⟨W.heap.size,0,none⟩)),
    ([2],fun v _=>v=.int .i64 me),
    ([],fun v _=>v=.pointer (some ⟨(W.heap.size+1),1,none⟩)),
    ([4],fun v _=>v=.int .i64 x.frm),
    ([1,3,5],fun v _=>v=.agg (LN.let (inqL l me x.frm) ov).row),
    ([],fun v _=>v=.pointer (some ⟨(W.heap.size+1),25,none⟩)),
    ([7],fun v _=>v=.int .i64 ks),
    ([6,8],fun v _=>v=.agg (LN.let (repL l me x.frm x.st) ov).row),
    ([0,9],fun v _=>v=.bool false)] (by kernel_rfl) (by kernel_rfl) ?st ⟨?o0,?o1,?o2,?o3,?o4,?o5,?o6,?o7,?o8,?o9,?o10,trivial⟩ ?tl
  case st =>
   intro k v W1 W2 h hb
   rcases k with _ | _ | _ | _ | _ | _ | _ | _ | _ | _ | _ | k
   ·exact h
   ·exact h
   ·exact h
   ·exact h
   ·exact h
   ·exact h
   ·exact h
   ·exact h
   ·exact h
   ·exact h
   ·exact h
   ·trivial
  case o0 =>
   intro vs Wq hW hk
   clear hk
   dsimp only [a9l,List.take]
   simp only [Act.put,List.setIfInBounds_toArray,List.set_cons_succ,List.set_cons_zero]
   have b3W:=a00 b3 hW lb3
   repeat' (first | go_skip | go_guarded | go_step | go_upon)
   exact a5s (.agg XR) rfl (by go_simp) (Below.refl _ _) rfl
  case o1 =>
   intro vs Wq hW hk
   clear hk
   dsimp only [a9l,List.take]
   simp only [Act.put,List.setIfInBounds_toArray,List.set_cons_succ,List.set_cons_zero]
   have b2W:=a00 b2 hW lb2
   repeat' (first | go_skip | go_guarded | go_step | go_upon)
   exact a5s (.agg (ownRow me 4 0 90 ph ov (.slice none 0 0))) rfl (by go_simp) (Below.refl _ _) rfl
  case o2 =>
   intro vs Wq hW hk
   clear hk
   dsimp only [a9l,List.take]
   simp only [Act.put,List.setIfInBounds_toArray,List.set_cons_succ,List.set_cons_zero]
   repeat' (first | go_skip | go_guarded | go_step | go_upon)
   exact a5s (.pointer (some ⟨W.heap.size,0,none⟩)) rfl (by go_simp) (Below.refl _ _) rfl
  case o3 =>
   intro vs Wq hW hk
   have g2:vs 2=.pointer (some ⟨W.heap.size,0,none⟩):=hk.1
   clear hk
   dsimp only [a9l,List.take]
   simp only [Act.put,List.setIfInBounds_toArray,List.set_cons_succ,List.set_cons_zero]
   rw [g2]
   have cO0:=(a01 (a00 b2 hW lb2) 0).trans (aFq _ _ _ _ _ _ _)
   repeat' (first | go_skip | go_guarded | go_step | go_upon)
   exact a5s (.int .i64 me) rfl (by go_simp) (Below.refl _ _) rfl
  case o4 =>
   intro vs Wq hW hk
   clear hk
   dsimp only [a9l,List.take]
   simp only [Act.put,List.setIfInBounds_toArray,List.set_cons_succ,List.set_cons_zero]
   repeat' (first | go_skip | go_guarded | go_step | go_upon)
   exact a5s (.pointer (some ⟨(W.heap.size+1),1,none⟩)) rfl (by go_simp) (Below.refl _ _) rfl
  case o5 =>
   intro vs Wq hW hk
   have g4:vs 4=.pointer (some ⟨(W.heap.size+1),1,none⟩):=hk.1
   clear hk
   dsimp only [a9l,List.take]
   simp only [Act.put,List.setIfInBounds_toArray,List.set_cons_succ,List.set_cons_zero]
   rw [g4]
   have cF:=HCF.out _ (a00 b3 hW lb3)
   repeat' (first | go_skip | go_guarded | go_step | go_upon)
   exact a5s (.int .i64 x.frm) rfl (by go_simp) (Below.refl _ _) rfl
  case o6 =>
   intro vs Wq hW hk
   have g1:vs 1=.agg (ownRow me 4 0 90 ph ov (.slice none 0 0)):=hk.1
   have g3:vs 3=.int .i64 me:=hk.2.1
   have g5:vs 5=.int .i64 x.frm:=hk.2.2.1
   clear hk
   dsimp only [a9l,List.take]
   simp only [Act.put,List.setIfInBounds_toArray,List.set_cons_succ,List.set_cons_zero]
   rw [g1,g3,g5]
   have HX:=Lib.hid (rinquiry_calls (me:=me) (ph:=ph) (pv:=.slice none 0 0) (tLs_ne hl) (hv1.out.below hW) rfl me x.frm)
   repeat' (first | (go_at_call 16;((with_reducible refine (HX.out).mono ?_));rintro e w7 ⟨rfl,hb7⟩;dsimp only) | go_skip | go_guarded | go_step | go_upon)
   exact a5s (.agg (LN.let (inqL l me x.frm) ov).row) rfl (by go_simp) hb7 rfl
  case o7 =>
   intro vs Wq hW hk
   clear hk
   dsimp only [a9l,List.take]
   simp only [Act.put,List.setIfInBounds_toArray,List.set_cons_succ,List.set_cons_zero]
   repeat' (first | go_skip | go_guarded | go_step | go_upon)
   exact a5s (.pointer (some ⟨(W.heap.size+1),25,none⟩)) rfl (by go_simp) (Below.refl _ _) rfl
  case o8 =>
   intro vs Wq hW hk
   have g7:vs 7=.pointer (some ⟨(W.heap.size+1),25,none⟩):=hk.1
   clear hk
   dsimp only [a9l,List.take]
   simp only [Act.put,List.setIfInBounds_toArray,List.set_cons_succ,List.set_cons_zero]
   rw [g7]
   have cS:=HCS.out _ (a00 b3 hW lb3)
   repeat' (first | go_skip | go_guarded | go_step | go_upon)
   exact a5s (.int .i64 ks) rfl (by go_simp) (Below.refl _ _) rfl
  case o9 =>
   intro vs Wq hW hk
   have g6:vs 6=.agg (LN.let (inqL l me x.frm) ov).row:=hk.1
   have g8:vs 8=.int .i64 ks:=hk.2.1
   clear hk
   dsimp only [a9l,List.take]
   simp only [Act.put,List.setIfInBounds_toArray,List.set_cons_succ,List.set_cons_zero]
   rw [g6,g8]
   have HX:=Lib.hid (rreply_calls hl hm hfl hnm (hT1.out.below hW) (hv1.out.below hW) x.st)
   rw [HKS.out] at HX
   repeat' (first | (go_at_call 39;((with_reducible refine (HX.out).mono ?_));rintro e w7 ⟨rfl,hb7⟩;dsimp only) | go_skip | go_guarded | go_step | go_upon)
   exact a5s (.agg (LN.let (repL l me x.frm x.st) ov).row) rfl (by go_simp) hb7 rfl
  case o10 =>
   intro vs Wq hW hk
   have g0:vs 0=.agg XR:=hk.1
   have g9:vs 9=.agg (LN.let (repL l me x.frm x.st) ov).row:=hk.2.1
   clear hk
   dsimp only [a9l,List.take]
   simp only [Act.put,List.setIfInBounds_toArray,List.set_cons_succ,List.set_cons_zero]
   rw [g0,g9]
   have HX:=Lib.hid (rsame_any hx (rep_sz hl hm hfl hst) (hvx1.out.below hW) (hv1.out.below hW) hap)
   rw [HXR.out] at HX
   repeat' (first | (go_at_call 10;((with_reducible refine (HX.out).mono ?_));rintro e w7 ⟨h7a,h7b,hb7⟩;have h7:=h7b HQ.out;clear h7a h7b;subst h7;dsimp only) | go_skip | go_guarded | go_step | go_upon)
   exact a5s (.bool false) rfl (by go_simp) hb7 rfl
  case tl =>
   intro vs W2 hW2 hk
   have hz:vs 10=.bool false:=hk 10 (by decide)
   clear hk
   dsimp only [a9l,List.take,List.drop]
   simp only [Act.put,List.setIfInBounds_toArray,List.set_cons_succ,List.set_cons_zero]
   rw [hz]
   generalize vs 0=u0,vs 1=u1,vs 2=u2,vs 3=u3,vs 4=u4,vs 5=u5,vs 6=u6,vs 7=u7,vs 8=u8,vs 9=u9
   repeat' (first | go_skip | go_guarded | go_step | go_upon)
   exact bodyPost_ret (results_tmp rfl _ _ _) rfl ⟨rfl,w1B.trans (hW2.mono w1B.size)⟩
theorem rans_yes {l:List Nat} (hl:l∈tLs) {me:Nat} (hm:me∈l) {ph:Nat} (hp:ph∈phs) {W:World} {ov vx:Value} {x:LN} (hx:x.Sz) (hf:x.frm < 5) (hT:ase W) (hv:a0h 0 W ov l) (hvx:a0h 0 W vx x.cs) (hap:Apart vx ov∨vx=ov) (hk:x.st=3∨x.st=4∨x.st=5) (ho:oth me l x.frm=true) (hq:x=repL l me x.frm x.st):Calls Tryz.prog 41 #[.agg (ownRow me 4 0 90 ph ov (.slice none 0 0)),.agg (LN.let x vx).row] W fun e W'=>e=.returned (.bool true)∧Below W.heap.size W W':=by
 have HO:=Lib.hid ho
 have HQ:=Lib.hid hq
 have hfl:=(oth_mem ho).1
 have hnm:=(oth_mem ho).2
 have hst:x.st < 256:=by omega
 clear hq ho
 have HT0:=Lib.hid hT
 have po:=a1y me 4 0 90 ph (a0v hv) (show (Value.slice none 0 0).oneCell' = true from rfl)
 have lz:=a0e (LN.let x vx) hx.ref
 have la:=a15 (LN.let x vx) hx.ref
 have lo:=a0y (LN.let x vx) (a0v hvx)
 have HCF:=Lib.hid (show ∀ W',obj W' (W.heap.size+1)=some (.cells (LN.let x vx).row 48 (0,0))→W'.cell? ⟨(W.heap.size+1),1,none⟩=some (.int .i64 x.frm) from fun W' h=>(a01 h 1).trans (by rw [CE.V.a1i];rfl))
 have HCS:=Lib.hid (show ∀ W',obj W' (W.heap.size+1)=some (.cells (LN.let x vx).row 48 (0,0))→W'.cell? ⟨(W.heap.size+1),25,none⟩=some (.int .i64 x.st) from fun W' h=>(a01 h 25).trans (by rw [CE.V.a1i];rfl))
 have E:(x.st:Int)=3∨(x.st:Int)=4∨(x.st:Int)=5:=by omega
 clear hk
 generalize hks:(x.st:Int)=ks at HCS E
 have HKS:=Lib.hid hks
 have HXR0:Hid ((LN.let x vx).row=(LN.let x vx).row):=Lib.hid rfl
 generalize hxr:(LN.let x vx).row=XR at lz la lo HCF HCS
 have HXR:=Lib.hid hxr
 have b2:obj ((W.alloc (.cells (ownRow me 4 0 90 ph ov (.slice none 0 0)) 28 (0,0))).alloc (.cells XR 48 (0,0))) W.heap.size=some (.cells (ownRow me 4 0 90 ph ov (.slice none 0 0)) 28 (0,0)):=a02 (a03 _ _ _ rfl) _
 have b3:obj ((W.alloc (.cells (ownRow me 4 0 90 ph ov (.slice none 0 0)) 28 (0,0))).alloc (.cells XR 48 (0,0))) (W.heap.size+1)=some (.cells XR 48 (0,0)):=a03 _ _ _ (by simp)
 have w1B:Below W.heap.size W ((W.alloc (.cells (ownRow me 4 0 90 ph ov (.slice none 0 0)) 28 (0,0))).alloc (.cells XR 48 (0,0))):=((Below.refl _ _).alloc (Nat.le_refl _) _).alloc (by simp) _
 have hv1:=Lib.hid (hv.below w1B)
 have hvx1:=Lib.hid (hvx.below w1B)
 have hT1:=Lib.hid (HT0.out.below w1B)
 clear hv hvx hT HT0 hks
 have cF0:=HCF.out _ b3
 have HX0:=Lib.hid (rother_calls hl hm hp hv1.out hf)
 have HCT:=HCS
 rcases E with E | E | E
 all_goals
  rw [E] at HCT
  clear E
  have cS0:=HCT.out _ b3
  go_enter Tryz.func41,Tryz.ntmps41
  repeat' (first | (go_at_call 38;((with_reducible refine (HX0.out).mono ?_));rintro e w7 ⟨h7,hb7⟩;rw [HO.out] at h7;subst h7;have cS7:=HCT.out _ (a1w b3 hb7);have hv7:=Lib.hid (hv1.out.below hb7);have hvx7:=Lib.hid (hvx1.out.below hb7);have hT7:=Lib.hid (hT1.out.below hb7);have b27:=a1w b2 hb7;have b37:=a1w b3 hb7;have w7B:=w1B.trans (hb7.mono w1B.size);dsimp only) | go_skip | go_guarded | go_step | go_upon)
  clear hv1 hvx1 hT1 b2 b3 w1B HX0 hb7 cS0 cF0 cS7
  have hv1:=hv7
  have hvx1:=hvx7
  have hT1:=hT7
  have b2:=b27
  have b3:=b37
  have w1B:=w7B
  clear hv7 hvx7 hT7 b27 b37 w7B
  have lb2:=a04 b2
  have lb3:=a04 b3
  refine agn 11 [([],fun v _=>v=.agg XR),
    ([],fun v _=>v=.agg (ownRow me 4 0 90 ph ov (.slice none 0 0))),
    ([],fun v _=>v=.pointer (some ⟨W.heap.size,0,none⟩)),
    ([2],fun v _=>v=.int .i64 me),
    ([],fun v _=>v=.pointer (some ⟨(W.heap.size+1),1,none⟩)),
    ([4],fun v _=>v=.int .i64 x.frm),
    ([1,3,5],fun v _=>v=.agg (LN.let (inqL l me x.frm) ov).row),
    ([],fun v _=>v=.pointer (some ⟨(W.heap.size+1),25,none⟩)),
    ([7],fun v _=>v=.int .i64 ks),
    ([6,8],fun v _=>v=.agg (LN.let (repL l me x.frm x.st) ov).row),
    ([0,9],fun v _=>v=.bool true)] (by kernel_rfl) (by kernel_rfl) ?st ⟨?o0,?o1,?o2,?o3,?o4,?o5,?o6,?o7,?o8,?o9,?o10,trivial⟩ ?tl
  case st =>
   intro k v W1 W2 h hb
   rcases k with _ | _ | _ | _ | _ | _ | _ | _ | _ | _ | _ | k
   ·exact h
   ·exact h
   ·exact h
   ·exact h
   ·exact h
   ·exact h
   ·exact h
   ·exact h
   ·exact h
   ·exact h
   ·exact h
   ·trivial
  case o0 =>
   intro vs Wq hW hk
   clear hk
   dsimp only [a9l,List.take]
   simp only [Act.put,List.setIfInBounds_toArray,List.set_cons_succ,List.set_cons_zero]
   have b3W:=a00 b3 hW lb3
   repeat' (first | go_skip | go_guarded | go_step | go_upon)
   exact a5s (.agg XR) rfl (by go_simp) (Below.refl _ _) rfl
  case o1 =>
   intro vs Wq hW hk
   clear hk
   dsimp only [a9l,List.take]
   simp only [Act.put,List.setIfInBounds_toArray,List.set_cons_succ,List.set_cons_zero]
   have b2W:=a00 b2 hW lb2
   repeat' (first | go_skip | go_guarded | go_step | go_upon)
   exact a5s (.agg (ownRow me 4 0 90 ph ov (.slice none 0 0))) rfl (by go_simp) (Below.refl _ _) rfl
  case o2 =>
   intro vs Wq hW hk
   clear hk
   dsimp only [a9l,List.take]
   simp only [Act.put,List.setIfInBounds_toArray,List.set_cons_succ,List.set_cons_zero]
   repeat' (first | go_skip | go_guarded | go_step | go_upon)
   exact a5s (.pointer (some ⟨W.heap.size,0,none⟩)) rfl (by go_simp) (Below.refl _ _) rfl
  case o3 =>
   intro vs Wq hW hk
   have g2:vs 2=.pointer (some ⟨W.heap.size,0,none⟩):=hk.1
   clear hk
   dsimp only [a9l,List.take]
   simp only [Act.put,List.setIfInBounds_toArray,List.set_cons_succ,List.set_cons_zero]
   rw [g2]
   have cO0:=(a01 (a00 b2 hW lb2) 0).trans (aFq _ _ _ _ _ _ _)
   repeat' (first | go_skip | go_guarded | go_step | go_upon)
   exact a5s (.int .i64 me) rfl (by go_simp) (Below.refl _ _) rfl
  case o4 =>
   intro vs Wq hW hk
   clear hk
   dsimp only [a9l,List.take]
   simp only [Act.put,List.setIfInBounds_toArray,List.set_cons_succ,List.set_cons_zero]
   repeat' (first | go_skip | go_guarded | go_step | go_upon)
   exact a5s (.pointer (some ⟨(W.heap.size+1),1,none⟩)) rfl (by go_simp) (Below.refl _ _) rfl
  case o5 =>
   intro vs Wq hW hk
   have g4:vs 4=.pointer (some ⟨(W.heap.size+1),1,none⟩):=hk.1
   clear hk
   dsimp only [a9l,List.take]
   simp only [Act.put,List.setIfInBounds_toArray,List.set_cons_succ,List.set_cons_zero]
   rw [g4]
   have cF:=HCF.out _ (a00 b3 hW lb3)
   repeat' (first | go_skip | go_guarded | go_step | go_upon)
   exact a5s (.int .i64 x.frm) rfl (by go_simp) (Below.refl _ _) rfl
  case o6 =>
   intro vs Wq hW hk
   have g1:vs 1=.agg (ownRow me 4 0 90 ph ov (.slice none 0 0)):=hk.1
   have g3:vs 3=.int .i64 me:=hk.2.1
   have g5:vs 5=.int .i64 x.frm:=hk.2.2.1
   clear hk
   dsimp only [a9l,List.take]
   simp only [Act.put,List.setIfInBounds_toArray,List.set_cons_succ,List.set_cons_zero]
   rw [g1,g3,g5]
   have HX:=Lib.hid (rinquiry_calls (me:=me) (ph:=ph) (pv:=.slice none 0 0) (tLs_ne hl) (hv1.out.below hW) rfl me x.frm)
   repeat' (first | (go_at_call 16;((with_reducible refine (HX.out).mono ?_));rintro e w7 ⟨rfl,hb7⟩;dsimp only) | go_skip | go_guarded | go_step | go_upon)
   exact a5s (.agg (LN.let (inqL l me x.frm) ov).row) rfl (by go_simp) hb7 rfl
  case o7 =>
   intro vs Wq hW hk
   clear hk
   dsimp only [a9l,List.take]
   simp only [Act.put,List.setIfInBounds_toArray,List.set_cons_succ,List.set_cons_zero]
   repeat' (first | go_skip | go_guarded | go_step | go_upon)
   exact a5s (.pointer (some ⟨(W.heap.size+1),25,none⟩)) rfl (by go_simp) (Below.refl _ _) rfl
  case o8 =>
   intro vs Wq hW hk
   have g7:vs 7=.pointer (some ⟨(W.heap.size+1),25,none⟩):=hk.1
   clear hk
   dsimp only [a9l,List.take]
   simp only [Act.put,List.setIfInBounds_toArray,List.set_cons_succ,List.set_cons_zero]
   rw [g7]
   have cS:=HCS.out _ (a00 b3 hW lb3)
   repeat' (first | go_skip | go_guarded | go_step | go_upon)
   exact a5s (.int .i64 ks) rfl (by go_simp) (Below.refl _ _) rfl
  case o9 =>
   intro vs Wq hW hk
   have g6:vs 6=.agg (LN.let (inqL l me x.frm) ov).row:=hk.1
   have g8:vs 8=.int .i64 ks:=hk.2.1
   clear hk
   dsimp only [a9l,List.take]
   simp only [Act.put,List.setIfInBounds_toArray,List.set_cons_succ,List.set_cons_zero]
   rw [g6,g8]
   have HX:=Lib.hid (rreply_calls hl hm hfl hnm (hT1.out.below hW) (hv1.out.below hW) x.st)
   rw [HKS.out] at HX
   repeat' (first | (go_at_call 39;((with_reducible refine (HX.out).mono ?_));rintro e w7 ⟨rfl,hb7⟩;dsimp only) | go_skip | go_guarded | go_step | go_upon)
   exact a5s (.agg (LN.let (repL l me x.frm x.st) ov).row) rfl (by go_simp) hb7 rfl
  case o10 =>
   intro vs Wq hW hk
   have g0:vs 0=.agg XR:=hk.1
   have g9:vs 9=.agg (LN.let (repL l me x.frm x.st) ov).row:=hk.2.1
   clear hk
   dsimp only [a9l,List.take]
   simp only [Act.put,List.setIfInBounds_toArray,List.set_cons_succ,List.set_cons_zero]
   rw [g0,g9]
   have HX:=Lib.hid (rsame_any hx (rep_sz hl hm hfl hst) (hvx1.out.below hW) (hv1.out.below hW) hap)
   rw [HXR.out] at HX
   repeat' (first | (go_at_call 10;((with_reducible refine (HX.out).mono ?_));rintro e w7 ⟨h7a,h7b,hb7⟩;have h7:=h7a HQ.out;clear h7a h7b;subst h7;dsimp only) | go_skip | go_guarded | go_step | go_upon)
   exact a5s (.bool true) rfl (by go_simp) hb7 rfl
  case tl =>
   intro vs W2 hW2 hk
   have hz:vs 10=.bool true:=hk 10 (by decide)
   clear hk
   dsimp only [a9l,List.take,List.drop]
   simp only [Act.put,List.setIfInBounds_toArray,List.set_cons_succ,List.set_cons_zero]
   rw [hz]
   generalize vs 0=u0,vs 1=u1,vs 2=u2,vs 3=u3,vs 4=u4,vs 5=u5,vs 6=u6,vs 7=u7,vs 8=u8,vs 9=u9
   repeat' (first | go_skip | go_guarded | go_step | go_upon)
   exact bodyPost_ret (results_tmp rfl _ _ _) rfl ⟨rfl,w1B.trans (hW2.mono w1B.size)⟩
theorem rans_calls {l:List Nat} (hl:l∈tLs) {me:Nat} (hm:me∈l) {ph:Nat} (hp:ph∈phs) {W:World} {ov vx:Value} {x:LN} (hx:x.Sz) (hf:x.frm < 5) (hT:ase W) (hv:a0h 0 W ov l) (hvx:a0h 0 W vx x.cs) (hap:Apart vx ov∨vx=ov) :
  Calls Tryz.prog 41 #[.agg (ownRow me 4 0 90 ph ov (.slice none 0 0)),.agg (LN.let x vx).row] W fun e W'=>(ansB l me x→e=.returned (.bool true))∧(¬ ansB l me x→e=.returned (.bool false))∧Below W.heap.size W W':=by
 cases ho:oth me l x.frm with
 | false =>
  have hn : ¬ ansB l me x:=fun h=>absurd (h.2.1.symm.trans ho) (by decide)
  exact (rans_no0 hl hm hp hx hf hT hv hvx hap ho).mono fun e W' h=>⟨fun q=>absurd q hn,fun _=>h.1,h.2⟩
 | true =>
  by_cases hs:x.st=3∨x.st=4∨x.st=5
  ·by_cases hq:x=repL l me x.frm x.st
   ·have hn:ansB l me x:=⟨hs,ho,hq⟩
    exact (rans_yes hl hm hp hx hf hT hv hvx hap hs ho hq).mono fun e W' h=>⟨fun _=>h.1,fun q=>absurd hn q,h.2⟩
   ·have hn : ¬ ansB l me x:=fun h=>hq h.2.2
    exact (rans_no3 hl hm hp hx hf hT hv hvx hap hs ho hq).mono fun e W' h=>⟨fun q=>absurd q hn,fun _=>h.1,h.2⟩
  ·have hn : ¬ ansB l me x:=fun h=>hs h.1
   have h3:(x.st:Int)≠3:=by omega
   have h4:(x.st:Int)≠4:=by omega
   have h5:(x.st:Int)≠5:=by omega
   exact (rans_no1 hl hm hp hx hf hT hv hvx hap h3 h4 h5 ho).mono fun e W' h=>⟨fun q=>absurd q hn,fun _=>h.1,h.2⟩
end Go.Proofs.YtopgdlblfieljaaGreatDoor
