/-
  takeover.answers.
-/
import Derived.Test.YtopgdlblfieljaaGreatDoorPkTky
set_option linter.unusedSectionVars false
set_option linter.constructorNameAsVariable false
set_option linter.unusedVariables false
set_option linter.unusedSimpArgs false
namespace Go.Proofs.YtopgdlblfieljaaGreatDoor
open Go.RowKit Go.CE.V
set_option maxRecDepth 20000
set_option maxHeartbeats 8000000
theorem rep_sz {l:List Nat} (hl:l∈tLs) {a:Nat} (ha:a∈l) {b:Nat} (hb:b∈l) {st:Nat} (hs:st < 256):(repL l a b st).Sz:=by
 have h5:=tLs_le hl ha
 have h6:=tLs_le hl hb
 have hc:∀ c∈l,c≤1099511627776:=fun c hc=>by have:=tLs_le hl hc;omega
 exact ⟨by show 14≤_;omega,by show b≤_;omega,by show a≤_;omega,by show 4≤_;omega,by show 0≤_;omega,by show 0≤_;omega,by show st≤_;omega,hc,(by decide:∀ l∈tLs,l.length≤4) l hl,a13 _⟩
def ansB (l:List Nat) (me:Nat) (x:LN):Prop:=(x.st=3∨x.st=4∨x.st=5)∧oth me l x.frm=true∧x=repL l me x.frm x.st
theorem oth_mem {me:Nat} {l:List Nat} {n:Nat} (h:oth me l n=true):n∈l∧me≠n:=by
 simp only [oth,Bool.and_eq_true,bne_iff_ne,ne_eq,List.contains_iff_mem] at h
 exact ⟨h.2,fun e=>h.1 e.symm⟩
theorem tans_no1 {l:List Nat} (hl:l∈tLs) {me:Nat} (hm:me∈l) {ph:Nat} (hp:ph∈phs) {W:World} {ov vx:Value} {x:LN} (hx:x.Sz) (hf:x.frm < 5) (hT:ase W) (hv:a0h 0 W ov l) (hvx:a0h 0 W vx x.cs) (e3:((x.st:Int) == 3)=false) (e4:((x.st:Int) == 4)=false) (e5:((x.st:Int) == 5)=false):Calls Tryz.prog 40 #[.agg (ownRow me 4 0 90 ph ov (.slice none 0 0)),.agg (LN.let x vx).row] W fun e W'=>e=.returned (.bool false)∧Below W.heap.size W W':=by
 have HT0:=Lib.hid hT
 have po:=a1y me 4 0 90 ph (a0v hv) (show (Value.slice none 0 0).oneCell' = true from rfl)
 have lz:=a0e (LN.let x vx) hx.ref
 have la:=a15 (LN.let x vx) hx.ref
 have lo:=a0y (LN.let x vx) (a0v hvx)
 have HCF:=Lib.hid (show ∀ W',obj W' (W.heap.size+1)=some (.cells (LN.let x vx).row 48 (0,0))→W'.cell? ⟨(W.heap.size+1),1,none⟩=some (.int .i64 x.frm) from fun W' h=>(a01 h 1).trans (by rw [CE.V.a1i];rfl))
 have HCS:=Lib.hid (show ∀ W',obj W' (W.heap.size+1)=some (.cells (LN.let x vx).row 48 (0,0))→W'.cell? ⟨(W.heap.size+1),25,none⟩=some (.int .i64 x.st) from fun W' h=>(a01 h 25).trans (by rw [CE.V.a1i];rfl))
 generalize hks:(x.st:Int)=ks at HCS e3 e4 e5
 have HKS:=Lib.hid hks
 have HXR0:Hid ((LN.let x vx).row=(LN.let x vx).row):=Lib.hid rfl
 generalize hxr:(LN.let x vx).row=XR at lz la lo HCF HCS
 have HXR:=Lib.hid hxr
 have b2:obj ((W.alloc (.cells (ownRow me 4 0 90 ph ov (.slice none 0 0)) 28 (0,0))).alloc (.cells XR 48 (0,0))) W.heap.size=some (.cells (ownRow me 4 0 90 ph ov (.slice none 0 0)) 28 (0,0)):=a02 (a03 _ _ _ rfl) _
 have b3:obj ((W.alloc (.cells (ownRow me 4 0 90 ph ov (.slice none 0 0)) 28 (0,0))).alloc (.cells XR 48 (0,0))) (W.heap.size+1)=some (.cells XR 48 (0,0)):=a03 _ _ _ (by simp)
 have w1B:Below W.heap.size W ((W.alloc (.cells (ownRow me 4 0 90 ph ov (.slice none 0 0)) 28 (0,0))).alloc (.cells XR 48 (0,0))):=((Below.refl _ _).alloc (Nat.le_refl _) _).alloc (by simp) _
 have hv1:=Lib.hid (hv.below w1B)
 have hvx1:=Lib.hid (hvx.below w1B)
 have hT1:=Lib.hid (HT0.out.below w1B)
 clear hv hvx hT HT0 hks
 have cS0:=HCS.out _ b3
 have cF0:=HCF.out _ b3
 go_enter Tryz.func40,Tryz.ntmps40
 repeat' (first | go_skip | go_guarded | go_step | go_upon)
 exact bodyPost_ret (results_tmp rfl _ _ _) rfl ⟨rfl,w1B⟩
theorem tans_no2 {l:List Nat} (hl:l∈tLs) {me:Nat} (hm:me∈l) {ph:Nat} (hp:ph∈phs) {W:World} {ov vx:Value} {x:LN} (hx:x.Sz) (hf:x.frm < 5) (hT:ase W) (hv:a0h 0 W ov l) (hvx:a0h 0 W vx x.cs) (E:(((x.st:Int) == 3)=true∧((x.st:Int) == 4)=false∧((x.st:Int) == 5)=false∨((x.st:Int) == 3)=false∧((x.st:Int) == 4)=true∧((x.st:Int) == 5)=false∨((x.st:Int) == 3)=false∧((x.st:Int) == 4)=false∧((x.st:Int) == 5)=true)) (ho:oth me l x.frm=false):Calls Tryz.prog 40 #[.agg (ownRow me 4 0 90 ph ov (.slice none 0 0)),.agg (LN.let x vx).row] W fun e W'=>e=.returned (.bool false)∧Below W.heap.size W W':=by
 have HO:=Lib.hid ho
 clear ho
 have HT0:=Lib.hid hT
 have po:=a1y me 4 0 90 ph (a0v hv) (show (Value.slice none 0 0).oneCell' = true from rfl)
 have lz:=a0e (LN.let x vx) hx.ref
 have la:=a15 (LN.let x vx) hx.ref
 have lo:=a0y (LN.let x vx) (a0v hvx)
 have HCF:=Lib.hid (show ∀ W',obj W' (W.heap.size+1)=some (.cells (LN.let x vx).row 48 (0,0))→W'.cell? ⟨(W.heap.size+1),1,none⟩=some (.int .i64 x.frm) from fun W' h=>(a01 h 1).trans (by rw [CE.V.a1i];rfl))
 have HCS:=Lib.hid (show ∀ W',obj W' (W.heap.size+1)=some (.cells (LN.let x vx).row 48 (0,0))→W'.cell? ⟨(W.heap.size+1),25,none⟩=some (.int .i64 x.st) from fun W' h=>(a01 h 25).trans (by rw [CE.V.a1i];rfl))
 generalize hks:(x.st:Int)=ks at HCS E
 have HKS:=Lib.hid hks
 have HXR0:Hid ((LN.let x vx).row=(LN.let x vx).row):=Lib.hid rfl
 generalize hxr:(LN.let x vx).row=XR at lz la lo HCF HCS
 have HXR:=Lib.hid hxr
 have b2:obj ((W.alloc (.cells (ownRow me 4 0 90 ph ov (.slice none 0 0)) 28 (0,0))).alloc (.cells XR 48 (0,0))) W.heap.size=some (.cells (ownRow me 4 0 90 ph ov (.slice none 0 0)) 28 (0,0)):=a02 (a03 _ _ _ rfl) _
 have b3:obj ((W.alloc (.cells (ownRow me 4 0 90 ph ov (.slice none 0 0)) 28 (0,0))).alloc (.cells XR 48 (0,0))) (W.heap.size+1)=some (.cells XR 48 (0,0)):=a03 _ _ _ (by simp)
 have w1B:Below W.heap.size W ((W.alloc (.cells (ownRow me 4 0 90 ph ov (.slice none 0 0)) 28 (0,0))).alloc (.cells XR 48 (0,0))):=((Below.refl _ _).alloc (Nat.le_refl _) _).alloc (by simp) _
 have hv1:=Lib.hid (hv.below w1B)
 have hvx1:=Lib.hid (hvx.below w1B)
 have hT1:=Lib.hid (HT0.out.below w1B)
 clear hv hvx hT HT0 hks
 have cS0:=HCS.out _ b3
 have cF0:=HCF.out _ b3
 rcases E with ⟨e3,e4,e5⟩ | ⟨e3,e4,e5⟩ | ⟨e3,e4,e5⟩
 all_goals
  go_enter Tryz.func40,Tryz.ntmps40
  repeat' (first | go_skip | go_guarded | go_step | go_upon)
  generalize ((W.alloc (.cells (ownRow me 4 0 90 ph ov (.slice none 0 0)) 28 (0,0))).alloc (.cells XR 48 (0,0)))=w1 at *
  have lb2:=a04 b2
  have lb3:=a04 b3
  refine agn 17 [([],fun v _=>v=.agg (ownRow me 4 0 90 ph ov (.slice none 0 0))),
    ([],fun v _=>v=.pointer (some ⟨(W.heap.size+1),1,none⟩)),
    ([1],fun v _=>v=.int .i64 x.frm),
    ([0,2],fun v _=>v=.bool false),
    ([3],fun v _=>v=.bool false),
    ([4],fun v _=>v=undef),
    ([4],fun v _=>v=undef),
    ([4],fun v _=>v=undef),
    ([4],fun v _=>v=undef),
    ([4],fun v _=>v=undef),
    ([4],fun v _=>v=undef),
    ([4],fun v _=>v=undef),
    ([4],fun v _=>v=undef),
    ([4],fun v _=>v=undef),
    ([4],fun v _=>v=undef),
    ([4],fun v _=>v=undef),
    ([4],fun v _=>v=.bool false)] (by kernel_rfl) (by kernel_rfl) ?st ⟨?o0,?o1,?o2,?o3,?o4,?o5,?o6,?o7,?o8,?o9,?o10,?o11,?o12,?o13,?o14,?o15,?o16,trivial⟩ ?tl
  case st =>
   intro k v W1 W2 h hb
   rcases k with _ | _ | _ | _ | _ | _ | _ | _ | _ | _ | _ | _ | _ | _ | _ | _ | _ | k
   ·exact h
   ·exact h
   ·exact h
   ·exact h
   ·exact h
   ·exact h
   ·exact h
   ·exact h
   ·exact h
   ·exact h
   ·exact h
   ·exact h
   ·exact h
   ·exact h
   ·exact h
   ·exact h
   ·exact h
   ·trivial
  case o0 =>
   intro vs Wq hW hk
   clear hk
   dsimp only [a9l,List.take]
   simp only [Act.put,List.setIfInBounds_toArray,List.set_cons_succ,List.set_cons_zero]
   have b2W:=a00 b2 hW lb2
   repeat' (first | go_skip | go_guarded | go_step | go_upon)
   exact a5s (.agg (ownRow me 4 0 90 ph ov (.slice none 0 0))) rfl (by go_simp) (Below.refl _ _) rfl
  case o1 =>
   intro vs Wq hW hk
   clear hk
   dsimp only [a9l,List.take]
   simp only [Act.put,List.setIfInBounds_toArray,List.set_cons_succ,List.set_cons_zero]
   repeat' (first | go_skip | go_guarded | go_step | go_upon)
   exact a5s (.pointer (some ⟨(W.heap.size+1),1,none⟩)) rfl (by go_simp) (Below.refl _ _) rfl
  case o2 =>
   intro vs Wq hW hk
   have g1:vs 1=.pointer (some ⟨(W.heap.size+1),1,none⟩):=hk.1
   clear hk
   dsimp only [a9l,List.take]
   simp only [Act.put,List.setIfInBounds_toArray,List.set_cons_succ,List.set_cons_zero]
   rw [g1]
   have cF:=HCF.out _ (a00 b3 hW lb3)
   repeat' (first | go_skip | go_guarded | go_step | go_upon)
   exact a5s (.int .i64 x.frm) rfl (by go_simp) (Below.refl _ _) rfl
  case o3 =>
   intro vs Wq hW hk
   have g0:vs 0=.agg (ownRow me 4 0 90 ph ov (.slice none 0 0)):=hk.1
   have g2:vs 2=.int .i64 x.frm:=hk.2.1
   clear hk
   dsimp only [a9l,List.take]
   simp only [Act.put,List.setIfInBounds_toArray,List.set_cons_succ,List.set_cons_zero]
   rw [g0,g2]
   have ho':=HO.out
   have HX:=Lib.hid (tother_calls hl hm hp (hv1.out.below hW) hf)
   repeat' (first | (go_at_call 35;((with_reducible refine (HX.out).mono ?_));rintro e w7 ⟨h7,hb7⟩;rw [ho'] at h7;subst h7;dsimp only) | go_skip | go_guarded | go_step | go_upon)
   exact a5s (.bool false) rfl (by go_simp) hb7 rfl
  case o4 =>
   intro vs Wq hW hk
   have g3:vs 3=.bool false:=hk.1
   clear hk
   dsimp only [a9l,List.take]
   simp only [Act.put,List.setIfInBounds_toArray,List.set_cons_succ,List.set_cons_zero]
   rw [g3]
   repeat' (first | go_skip | go_guarded | go_step | go_upon)
   exact a5s (.bool false) rfl (by go_simp) (Below.refl _ _) rfl
  case o5 =>
   intro vs Wq hW hk
   have g4:vs 4=.bool false:=hk.1
   clear hk
   dsimp only [a9l,List.take]
   simp only [Act.put,List.setIfInBounds_toArray,List.set_cons_succ,List.set_cons_zero]
   rw [g4]
   repeat' (first | go_skip | go_guarded | go_step | go_upon)
   exact a5s undef rfl (by go_simp) (Below.refl _ _) rfl
  case o6 =>
   intro vs Wq hW hk
   have g4:vs 4=.bool false:=hk.1
   clear hk
   dsimp only [a9l,List.take]
   simp only [Act.put,List.setIfInBounds_toArray,List.set_cons_succ,List.set_cons_zero]
   rw [g4]
   repeat' (first | go_skip | go_guarded | go_step | go_upon)
   exact a5s undef rfl (by go_simp) (Below.refl _ _) rfl
  case o7 =>
   intro vs Wq hW hk
   have g4:vs 4=.bool false:=hk.1
   clear hk
   dsimp only [a9l,List.take]
   simp only [Act.put,List.setIfInBounds_toArray,List.set_cons_succ,List.set_cons_zero]
   rw [g4]
   repeat' (first | go_skip | go_guarded | go_step | go_upon)
   exact a5s undef rfl (by go_simp) (Below.refl _ _) rfl
  case o8 =>
   intro vs Wq hW hk
   have g4:vs 4=.bool false:=hk.1
   clear hk
   dsimp only [a9l,List.take]
   simp only [Act.put,List.setIfInBounds_toArray,List.set_cons_succ,List.set_cons_zero]
   rw [g4]
   repeat' (first | go_skip | go_guarded | go_step | go_upon)
   exact a5s undef rfl (by go_simp) (Below.refl _ _) rfl
  case o9 =>
   intro vs Wq hW hk
   have g4:vs 4=.bool false:=hk.1
   clear hk
   dsimp only [a9l,List.take]
   simp only [Act.put,List.setIfInBounds_toArray,List.set_cons_succ,List.set_cons_zero]
   rw [g4]
   repeat' (first | go_skip | go_guarded | go_step | go_upon)
   exact a5s undef rfl (by go_simp) (Below.refl _ _) rfl
  case o10 =>
   intro vs Wq hW hk
   have g4:vs 4=.bool false:=hk.1
   clear hk
   dsimp only [a9l,List.take]
   simp only [Act.put,List.setIfInBounds_toArray,List.set_cons_succ,List.set_cons_zero]
   rw [g4]
   repeat' (first | go_skip | go_guarded | go_step | go_upon)
   exact a5s undef rfl (by go_simp) (Below.refl _ _) rfl
  case o11 =>
   intro vs Wq hW hk
   have g4:vs 4=.bool false:=hk.1
   clear hk
   dsimp only [a9l,List.take]
   simp only [Act.put,List.setIfInBounds_toArray,List.set_cons_succ,List.set_cons_zero]
   rw [g4]
   repeat' (first | go_skip | go_guarded | go_step | go_upon)
   exact a5s undef rfl (by go_simp) (Below.refl _ _) rfl
  case o12 =>
   intro vs Wq hW hk
   have g4:vs 4=.bool false:=hk.1
   clear hk
   dsimp only [a9l,List.take]
   simp only [Act.put,List.setIfInBounds_toArray,List.set_cons_succ,List.set_cons_zero]
   rw [g4]
   repeat' (first | go_skip | go_guarded | go_step | go_upon)
   exact a5s undef rfl (by go_simp) (Below.refl _ _) rfl
  case o13 =>
   intro vs Wq hW hk
   have g4:vs 4=.bool false:=hk.1
   clear hk
   dsimp only [a9l,List.take]
   simp only [Act.put,List.setIfInBounds_toArray,List.set_cons_succ,List.set_cons_zero]
   rw [g4]
   repeat' (first | go_skip | go_guarded | go_step | go_upon)
   exact a5s undef rfl (by go_simp) (Below.refl _ _) rfl
  case o14 =>
   intro vs Wq hW hk
   have g4:vs 4=.bool false:=hk.1
   clear hk
   dsimp only [a9l,List.take]
   simp only [Act.put,List.setIfInBounds_toArray,List.set_cons_succ,List.set_cons_zero]
   rw [g4]
   repeat' (first | go_skip | go_guarded | go_step | go_upon)
   exact a5s undef rfl (by go_simp) (Below.refl _ _) rfl
  case o15 =>
   intro vs Wq hW hk
   have g4:vs 4=.bool false:=hk.1
   clear hk
   dsimp only [a9l,List.take]
   simp only [Act.put,List.setIfInBounds_toArray,List.set_cons_succ,List.set_cons_zero]
   rw [g4]
   repeat' (first | go_skip | go_guarded | go_step | go_upon)
   exact a5s undef rfl (by go_simp) (Below.refl _ _) rfl
  case o16 =>
   intro vs Wq hW hk
   have g4:vs 4=.bool false:=hk.1
   clear hk
   dsimp only [a9l,List.take]
   simp only [Act.put,List.setIfInBounds_toArray,List.set_cons_succ,List.set_cons_zero]
   rw [g4]
   repeat' (first | go_skip | go_guarded | go_step | go_upon)
   exact a5s (.bool false) rfl (by go_simp) (Below.refl _ _) rfl
  case tl =>
   intro vs W2 hW2 hk
   have hz:vs 16=.bool false:=hk 16 (by decide)
   clear hk
   dsimp only [a9l,List.take,List.drop]
   simp only [Act.put,List.setIfInBounds_toArray,List.set_cons_succ,List.set_cons_zero]
   rw [hz]
   generalize vs 0=u0,vs 1=u1,vs 2=u2,vs 3=u3,vs 4=u4,vs 5=u5,vs 6=u6,vs 7=u7,vs 8=u8,vs 9=u9,vs 10=u10,vs 11=u11,vs 12=u12,vs 13=u13,vs 14=u14,vs 15=u15
   repeat' (first | go_skip | go_guarded | go_step | go_upon)
   exact bodyPost_ret (results_tmp rfl _ _ _) rfl ⟨rfl,w1B.trans (hW2.mono w1B.size)⟩
theorem tans_no3 {l:List Nat} (hl:l∈tLs) {me:Nat} (hm:me∈l) {ph:Nat} (hp:ph∈phs) {W:World} {ov vx:Value} {x:LN} (hx:x.Sz) (hf:x.frm < 5) (hT:ase W) (hv:a0h 0 W ov l) (hvx:a0h 0 W vx x.cs) (E:(((x.st:Int) == 3)=true∧((x.st:Int) == 4)=false∧((x.st:Int) == 5)=false∨((x.st:Int) == 3)=false∧((x.st:Int) == 4)=true∧((x.st:Int) == 5)=false∨((x.st:Int) == 3)=false∧((x.st:Int) == 4)=false∧((x.st:Int) == 5)=true)) (ho:oth me l x.frm=true) (hq:x≠repL l me x.frm x.st):Calls Tryz.prog 40 #[.agg (ownRow me 4 0 90 ph ov (.slice none 0 0)),.agg (LN.let x vx).row] W fun e W'=>e=.returned (.bool false)∧Below W.heap.size W W':=by
 have HO:=Lib.hid ho
 have HQ:=Lib.hid hq
 have hfl:=(oth_mem ho).1
 have hnm:=(oth_mem ho).2
 have hst:x.st < 256:=by rcases E with ⟨h,_⟩ | ⟨_,h,_⟩ | ⟨_,_,h⟩<;>(simp at h;omega)
 clear hq
 clear ho
 have HT0:=Lib.hid hT
 have po:=a1y me 4 0 90 ph (a0v hv) (show (Value.slice none 0 0).oneCell' = true from rfl)
 have lz:=a0e (LN.let x vx) hx.ref
 have la:=a15 (LN.let x vx) hx.ref
 have lo:=a0y (LN.let x vx) (a0v hvx)
 have HCF:=Lib.hid (show ∀ W',obj W' (W.heap.size+1)=some (.cells (LN.let x vx).row 48 (0,0))→W'.cell? ⟨(W.heap.size+1),1,none⟩=some (.int .i64 x.frm) from fun W' h=>(a01 h 1).trans (by rw [CE.V.a1i];rfl))
 have HCS:=Lib.hid (show ∀ W',obj W' (W.heap.size+1)=some (.cells (LN.let x vx).row 48 (0,0))→W'.cell? ⟨(W.heap.size+1),25,none⟩=some (.int .i64 x.st) from fun W' h=>(a01 h 25).trans (by rw [CE.V.a1i];rfl))
 generalize hks:(x.st:Int)=ks at HCS E
 have HKS:=Lib.hid hks
 have HXR0:Hid ((LN.let x vx).row=(LN.let x vx).row):=Lib.hid rfl
 generalize hxr:(LN.let x vx).row=XR at lz la lo HCF HCS
 have HXR:=Lib.hid hxr
 have b2:obj ((W.alloc (.cells (ownRow me 4 0 90 ph ov (.slice none 0 0)) 28 (0,0))).alloc (.cells XR 48 (0,0))) W.heap.size=some (.cells (ownRow me 4 0 90 ph ov (.slice none 0 0)) 28 (0,0)):=a02 (a03 _ _ _ rfl) _
 have b3:obj ((W.alloc (.cells (ownRow me 4 0 90 ph ov (.slice none 0 0)) 28 (0,0))).alloc (.cells XR 48 (0,0))) (W.heap.size+1)=some (.cells XR 48 (0,0)):=a03 _ _ _ (by simp)
 have w1B:Below W.heap.size W ((W.alloc (.cells (ownRow me 4 0 90 ph ov (.slice none 0 0)) 28 (0,0))).alloc (.cells XR 48 (0,0))):=((Below.refl _ _).alloc (Nat.le_refl _) _).alloc (by simp) _
 have hv1:=Lib.hid (hv.below w1B)
 have hvx1:=Lib.hid (hvx.below w1B)
 have hT1:=Lib.hid (HT0.out.below w1B)
 clear hv hvx hT HT0 hks
 have cS0:=HCS.out _ b3
 have cF0:=HCF.out _ b3
 rcases E with ⟨e3,e4,e5⟩ | ⟨e3,e4,e5⟩ | ⟨e3,e4,e5⟩
 all_goals
  go_enter Tryz.func40,Tryz.ntmps40
  repeat' (first | go_skip | go_guarded | go_step | go_upon)
  generalize ((W.alloc (.cells (ownRow me 4 0 90 ph ov (.slice none 0 0)) 28 (0,0))).alloc (.cells XR 48 (0,0)))=w1 at *
  have lb2:=a04 b2
  have lb3:=a04 b3
  refine agn 17 [([],fun v _=>v=.agg (ownRow me 4 0 90 ph ov (.slice none 0 0))),
    ([],fun v _=>v=.pointer (some ⟨(W.heap.size+1),1,none⟩)),
    ([1],fun v _=>v=.int .i64 x.frm),
    ([0,2],fun v _=>v=.bool true),
    ([3],fun v _=>v=.bool true),
    ([4],fun v _=>v=.agg XR),
    ([4],fun v _=>v=.agg (ownRow me 4 0 90 ph ov (.slice none 0 0))),
    ([4],fun v _=>v=.pointer (some ⟨W.heap.size,0,none⟩)),
    ([4,7],fun v _=>v=.int .i64 me),
    ([4],fun v _=>v=.pointer (some ⟨(W.heap.size+1),1,none⟩)),
    ([4,9],fun v _=>v=.int .i64 x.frm),
    ([4,6,8,10],fun v W' => ∃ cv,v=.agg (LN.let (inqL l me x.frm) cv).row∧a0h w1.heap.size W' cv l),
    ([4],fun v _=>v=.pointer (some ⟨(W.heap.size+1),25,none⟩)),
    ([4,12],fun v _=>v=.int .i64 ks),
    ([4,11,13],fun v W' => ∃ cv,v=.agg (LN.let (repL l me x.frm x.st) cv).row∧a0h w1.heap.size W' cv l),
    ([4,5,14],fun v _=>v=.bool false),
    ([4,15],fun v _=>v=.bool false)] (by kernel_rfl) (by kernel_rfl) ?st ⟨?o0,?o1,?o2,?o3,?o4,?o5,?o6,?o7,?o8,?o9,?o10,?o11,?o12,?o13,?o14,?o15,?o16,trivial⟩ ?tl
  case st =>
   intro k v W1 W2 h hb
   rcases k with _ | _ | _ | _ | _ | _ | _ | _ | _ | _ | _ | _ | _ | _ | _ | _ | _ | k
   ·exact h
   ·exact h
   ·exact h
   ·exact h
   ·exact h
   ·exact h
   ·exact h
   ·exact h
   ·exact h
   ·exact h
   ·exact h
   ·obtain ⟨cv,h1,h2⟩:=h;exact ⟨cv,h1,h2.below hb⟩
   ·exact h
   ·exact h
   ·obtain ⟨cv,h1,h2⟩:=h;exact ⟨cv,h1,h2.below hb⟩
   ·exact h
   ·exact h
   ·trivial
  case o0 =>
   intro vs Wq hW hk
   clear hk
   dsimp only [a9l,List.take]
   simp only [Act.put,List.setIfInBounds_toArray,List.set_cons_succ,List.set_cons_zero]
   have b2W:=a00 b2 hW lb2
   repeat' (first | go_skip | go_guarded | go_step | go_upon)
   exact a5s (.agg (ownRow me 4 0 90 ph ov (.slice none 0 0))) rfl (by go_simp) (Below.refl _ _) rfl
  case o1 =>
   intro vs Wq hW hk
   clear hk
   dsimp only [a9l,List.take]
   simp only [Act.put,List.setIfInBounds_toArray,List.set_cons_succ,List.set_cons_zero]
   repeat' (first | go_skip | go_guarded | go_step | go_upon)
   exact a5s (.pointer (some ⟨(W.heap.size+1),1,none⟩)) rfl (by go_simp) (Below.refl _ _) rfl
  case o2 =>
   intro vs Wq hW hk
   have g1:vs 1=.pointer (some ⟨(W.heap.size+1),1,none⟩):=hk.1
   clear hk
   dsimp only [a9l,List.take]
   simp only [Act.put,List.setIfInBounds_toArray,List.set_cons_succ,List.set_cons_zero]
   rw [g1]
   have cF:=HCF.out _ (a00 b3 hW lb3)
   repeat' (first | go_skip | go_guarded | go_step | go_upon)
   exact a5s (.int .i64 x.frm) rfl (by go_simp) (Below.refl _ _) rfl
  case o3 =>
   intro vs Wq hW hk
   have g0:vs 0=.agg (ownRow me 4 0 90 ph ov (.slice none 0 0)):=hk.1
   have g2:vs 2=.int .i64 x.frm:=hk.2.1
   clear hk
   dsimp only [a9l,List.take]
   simp only [Act.put,List.setIfInBounds_toArray,List.set_cons_succ,List.set_cons_zero]
   rw [g0,g2]
   have ho':=HO.out
   have HX:=Lib.hid (tother_calls hl hm hp (hv1.out.below hW) hf)
   repeat' (first | (go_at_call 35;((with_reducible refine (HX.out).mono ?_));rintro e w7 ⟨h7,hb7⟩;rw [ho'] at h7;subst h7;dsimp only) | go_skip | go_guarded | go_step | go_upon)
   exact a5s (.bool true) rfl (by go_simp) hb7 rfl
  case o4 =>
   intro vs Wq hW hk
   have g3:vs 3=.bool true:=hk.1
   clear hk
   dsimp only [a9l,List.take]
   simp only [Act.put,List.setIfInBounds_toArray,List.set_cons_succ,List.set_cons_zero]
   rw [g3]
   repeat' (first | go_skip | go_guarded | go_step | go_upon)
   exact a5s (.bool true) rfl (by go_simp) (Below.refl _ _) rfl
  case o5 =>
   intro vs Wq hW hk
   have g4:vs 4=.bool true:=hk.1
   clear hk
   dsimp only [a9l,List.take]
   simp only [Act.put,List.setIfInBounds_toArray,List.set_cons_succ,List.set_cons_zero]
   rw [g4]
   have b3W:=a00 b3 hW lb3
   repeat' (first | go_skip | go_guarded | go_step | go_upon)
   exact a5s (.agg XR) rfl (by go_simp) (Below.refl _ _) rfl
  case o6 =>
   intro vs Wq hW hk
   have g4:vs 4=.bool true:=hk.1
   clear hk
   dsimp only [a9l,List.take]
   simp only [Act.put,List.setIfInBounds_toArray,List.set_cons_succ,List.set_cons_zero]
   rw [g4]
   have b2W:=a00 b2 hW lb2
   repeat' (first | go_skip | go_guarded | go_step | go_upon)
   exact a5s (.agg (ownRow me 4 0 90 ph ov (.slice none 0 0))) rfl (by go_simp) (Below.refl _ _) rfl
  case o7 =>
   intro vs Wq hW hk
   have g4:vs 4=.bool true:=hk.1
   clear hk
   dsimp only [a9l,List.take]
   simp only [Act.put,List.setIfInBounds_toArray,List.set_cons_succ,List.set_cons_zero]
   rw [g4]
   repeat' (first | go_skip | go_guarded | go_step | go_upon)
   exact a5s (.pointer (some ⟨W.heap.size,0,none⟩)) rfl (by go_simp) (Below.refl _ _) rfl
  case o8 =>
   intro vs Wq hW hk
   have g4:vs 4=.bool true:=hk.1
   have g7:vs 7=.pointer (some ⟨W.heap.size,0,none⟩):=hk.2.1
   clear hk
   dsimp only [a9l,List.take]
   simp only [Act.put,List.setIfInBounds_toArray,List.set_cons_succ,List.set_cons_zero]
   rw [g4,g7]
   have cO0:=(a01 (a00 b2 hW lb2) 0).trans (aFq _ _ _ _ _ _ _)
   repeat' (first | go_skip | go_guarded | go_step | go_upon)
   exact a5s (.int .i64 me) rfl (by go_simp) (Below.refl _ _) rfl
  case o9 =>
   intro vs Wq hW hk
   have g4:vs 4=.bool true:=hk.1
   clear hk
   dsimp only [a9l,List.take]
   simp only [Act.put,List.setIfInBounds_toArray,List.set_cons_succ,List.set_cons_zero]
   rw [g4]
   repeat' (first | go_skip | go_guarded | go_step | go_upon)
   exact a5s (.pointer (some ⟨(W.heap.size+1),1,none⟩)) rfl (by go_simp) (Below.refl _ _) rfl
  case o10 =>
   intro vs Wq hW hk
   have g4:vs 4=.bool true:=hk.1
   have g9:vs 9=.pointer (some ⟨(W.heap.size+1),1,none⟩):=hk.2.1
   clear hk
   dsimp only [a9l,List.take]
   simp only [Act.put,List.setIfInBounds_toArray,List.set_cons_succ,List.set_cons_zero]
   rw [g4,g9]
   have cF:=HCF.out _ (a00 b3 hW lb3)
   repeat' (first | go_skip | go_guarded | go_step | go_upon)
   exact a5s (.int .i64 x.frm) rfl (by go_simp) (Below.refl _ _) rfl
  case o11 =>
   intro vs Wq hW hk
   have g4:vs 4=.bool true:=hk.1
   have g6:vs 6=.agg (ownRow me 4 0 90 ph ov (.slice none 0 0)):=hk.2.1
   have g8:vs 8=.int .i64 me:=hk.2.2.1
   have g10:vs 10=.int .i64 x.frm:=hk.2.2.2.1
   clear hk
   dsimp only [a9l,List.take]
   simp only [Act.put,List.setIfInBounds_toArray,List.set_cons_succ,List.set_cons_zero]
   rw [g4,g6,g8,g10]
   have HX:=Lib.hid (tinquiry_calls (me:=me) (ph:=ph) (pv:=.slice none 0 0) (tLs_ne hl) (by have:=(by decide:∀ l∈tLs,l.length≤4) l hl;omega) (hv1.out.below hW) rfl me x.frm)
   repeat' (first | (go_at_call 26;((with_reducible refine (HX.out).mono ?_));rintro e w7 ⟨cv,rfl,hcv,hb7⟩;dsimp only) | go_skip | go_guarded | go_step | go_upon)
   exact a5s (.agg (LN.let (inqL l me x.frm) cv).row) rfl (by go_simp) hb7 ⟨cv,rfl,hcv.mono hW.size⟩
  case o12 =>
   intro vs Wq hW hk
   have g4:vs 4=.bool true:=hk.1
   clear hk
   dsimp only [a9l,List.take]
   simp only [Act.put,List.setIfInBounds_toArray,List.set_cons_succ,List.set_cons_zero]
   rw [g4]
   repeat' (first | go_skip | go_guarded | go_step | go_upon)
   exact a5s (.pointer (some ⟨(W.heap.size+1),25,none⟩)) rfl (by go_simp) (Below.refl _ _) rfl
  case o13 =>
   intro vs Wq hW hk
   have g4:vs 4=.bool true:=hk.1
   have g12:vs 12=.pointer (some ⟨(W.heap.size+1),25,none⟩):=hk.2.1
   clear hk
   dsimp only [a9l,List.take]
   simp only [Act.put,List.setIfInBounds_toArray,List.set_cons_succ,List.set_cons_zero]
   rw [g4,g12]
   have cS:=HCS.out _ (a00 b3 hW lb3)
   repeat' (first | go_skip | go_guarded | go_step | go_upon)
   exact a5s (.int .i64 ks) rfl (by go_simp) (Below.refl _ _) rfl
  case o14 =>
   intro vs Wq hW hk
   have g4:vs 4=.bool true:=hk.1
   have g11:(fun v W' => ∃ cv,v=.agg (LN.let (inqL l me x.frm) cv).row∧a0h w1.heap.size W' cv l) (vs 11) Wq:=hk.2.1
   have g11v:=g11.choose_spec.1;have g11c:=g11.choose_spec.2;generalize g11.choose=cv at g11v g11c;clear g11
   have g13:vs 13=.int .i64 ks:=hk.2.2.1
   clear hk
   dsimp only [a9l,List.take]
   simp only [Act.put,List.setIfInBounds_toArray,List.set_cons_succ,List.set_cons_zero]
   rw [g4,g11v,g13]
   have HX:=Lib.hid (treply_calls hl hm hfl hnm (hT1.out.below hW) (g11c.mono (Nat.zero_le _)) x.st)
   rw [HKS.out] at HX
   repeat' (first | (go_at_call 37;((with_reducible refine (HX.out).mono ?_));rintro e w7 ⟨cv2,rfl,hcv,hb7⟩;dsimp only) | go_skip | go_guarded | go_step | go_upon)
   exact a5s (.agg (LN.let (repL l me x.frm x.st) cv2).row) rfl (by go_simp) hb7 ⟨cv2,rfl,hcv.mono hW.size⟩
  case o15 =>
   intro vs Wq hW hk
   have g4:vs 4=.bool true:=hk.1
   have g5:vs 5=.agg XR:=hk.2.1
   have g14:(fun v W' => ∃ cv,v=.agg (LN.let (repL l me x.frm x.st) cv).row∧a0h w1.heap.size W' cv l) (vs 14) Wq:=hk.2.2.1
   have g14v:=g14.choose_spec.1;have g14c:=g14.choose_spec.2;generalize g14.choose=cv at g14v g14c;clear g14
   clear hk
   dsimp only [a9l,List.take]
   simp only [Act.put,List.setIfInBounds_toArray,List.set_cons_succ,List.set_cons_zero]
   rw [g4,g5,g14v]
   have HX:=Lib.hid (same_apart hx (rep_sz hl hm hfl hst) ath aTs (hvx1.out.below hW) (g14c.mono (Nat.zero_le _)) (apart_lay hvx1.out g14c (Nat.le_refl _)))
   rw [HXR.out] at HX
   repeat' (first | (go_at_call 36;((with_reducible refine (HX.out).mono ?_));rintro e w7 ⟨h7a,h7b,hb7⟩;have h7:=h7b HQ.out;clear h7a h7b;subst h7;dsimp only) | go_skip | go_guarded | go_step | go_upon)
   exact a5s (.bool false) rfl (by go_simp) hb7 rfl
  case o16 =>
   intro vs Wq hW hk
   have g4:vs 4=.bool true:=hk.1
   have g15:vs 15=.bool false:=hk.2.1
   clear hk
   dsimp only [a9l,List.take]
   simp only [Act.put,List.setIfInBounds_toArray,List.set_cons_succ,List.set_cons_zero]
   rw [g4,g15]
   repeat' (first | go_skip | go_guarded | go_step | go_upon)
   exact a5s (.bool false) rfl (by go_simp) (Below.refl _ _) rfl
  case tl =>
   intro vs W2 hW2 hk
   have hz:vs 16=.bool false:=hk 16 (by decide)
   clear hk
   dsimp only [a9l,List.take,List.drop]
   simp only [Act.put,List.setIfInBounds_toArray,List.set_cons_succ,List.set_cons_zero]
   rw [hz]
   generalize vs 0=u0,vs 1=u1,vs 2=u2,vs 3=u3,vs 4=u4,vs 5=u5,vs 6=u6,vs 7=u7,vs 8=u8,vs 9=u9,vs 10=u10,vs 11=u11,vs 12=u12,vs 13=u13,vs 14=u14,vs 15=u15
   repeat' (first | go_skip | go_guarded | go_step | go_upon)
   exact bodyPost_ret (results_tmp rfl _ _ _) rfl ⟨rfl,w1B.trans (hW2.mono w1B.size)⟩
theorem tans_yes {l:List Nat} (hl:l∈tLs) {me:Nat} (hm:me∈l) {ph:Nat} (hp:ph∈phs) {W:World} {ov vx:Value} {x:LN} (hx:x.Sz) (hf:x.frm < 5) (hT:ase W) (hv:a0h 0 W ov l) (hvx:a0h 0 W vx x.cs) (E:(((x.st:Int) == 3)=true∧((x.st:Int) == 4)=false∧((x.st:Int) == 5)=false∨((x.st:Int) == 3)=false∧((x.st:Int) == 4)=true∧((x.st:Int) == 5)=false∨((x.st:Int) == 3)=false∧((x.st:Int) == 4)=false∧((x.st:Int) == 5)=true)) (ho:oth me l x.frm=true) (hq:x=repL l me x.frm x.st):Calls Tryz.prog 40 #[.agg (ownRow me 4 0 90 ph ov (.slice none 0 0)),.agg (LN.let x vx).row] W fun e W'=>e=.returned (.bool true)∧Below W.heap.size W W':=by
 have HO:=Lib.hid ho
 have HQ:=Lib.hid hq
 have hfl:=(oth_mem ho).1
 have hnm:=(oth_mem ho).2
 have hst:x.st < 256:=by rcases E with ⟨h,_⟩ | ⟨_,h,_⟩ | ⟨_,_,h⟩<;>(simp at h;omega)
 clear hq
 clear ho
 have HT0:=Lib.hid hT
 have po:=a1y me 4 0 90 ph (a0v hv) (show (Value.slice none 0 0).oneCell' = true from rfl)
 have lz:=a0e (LN.let x vx) hx.ref
 have la:=a15 (LN.let x vx) hx.ref
 have lo:=a0y (LN.let x vx) (a0v hvx)
 have HCF:=Lib.hid (show ∀ W',obj W' (W.heap.size+1)=some (.cells (LN.let x vx).row 48 (0,0))→W'.cell? ⟨(W.heap.size+1),1,none⟩=some (.int .i64 x.frm) from fun W' h=>(a01 h 1).trans (by rw [CE.V.a1i];rfl))
 have HCS:=Lib.hid (show ∀ W',obj W' (W.heap.size+1)=some (.cells (LN.let x vx).row 48 (0,0))→W'.cell? ⟨(W.heap.size+1),25,none⟩=some (.int .i64 x.st) from fun W' h=>(a01 h 25).trans (by rw [CE.V.a1i];rfl))
 generalize hks:(x.st:Int)=ks at HCS E
 have HKS:=Lib.hid hks
 have HXR0:Hid ((LN.let x vx).row=(LN.let x vx).row):=Lib.hid rfl
 generalize hxr:(LN.let x vx).row=XR at lz la lo HCF HCS
 have HXR:=Lib.hid hxr
 have b2:obj ((W.alloc (.cells (ownRow me 4 0 90 ph ov (.slice none 0 0)) 28 (0,0))).alloc (.cells XR 48 (0,0))) W.heap.size=some (.cells (ownRow me 4 0 90 ph ov (.slice none 0 0)) 28 (0,0)):=a02 (a03 _ _ _ rfl) _
 have b3:obj ((W.alloc (.cells (ownRow me 4 0 90 ph ov (.slice none 0 0)) 28 (0,0))).alloc (.cells XR 48 (0,0))) (W.heap.size+1)=some (.cells XR 48 (0,0)):=a03 _ _ _ (by simp)
 have w1B:Below W.heap.size W ((W.alloc (.cells (ownRow me 4 0 90 ph ov (.slice none 0 0)) 28 (0,0))).alloc (.cells XR 48 (0,0))):=((Below.refl _ _).alloc (Nat.le_refl _) _).alloc (by simp) _
 have hv1:=Lib.hid (hv.below w1B)
 have hvx1:=Lib.hid (hvx.below w1B)
 have hT1:=Lib.hid (HT0.out.below w1B)
 clear hv hvx hT HT0 hks
 have cS0:=HCS.out _ b3
 have cF0:=HCF.out _ b3
 rcases E with ⟨e3,e4,e5⟩ | ⟨e3,e4,e5⟩ | ⟨e3,e4,e5⟩
 all_goals
  go_enter Tryz.func40,Tryz.ntmps40
  repeat' (first | go_skip | go_guarded | go_step | go_upon)
  generalize ((W.alloc (.cells (ownRow me 4 0 90 ph ov (.slice none 0 0)) 28 (0,0))).alloc (.cells XR 48 (0,0)))=w1 at *
  have lb2:=a04 b2
  have lb3:=a04 b3
  refine agn 17 [([],fun v _=>v=.agg (ownRow me 4 0 90 ph ov (.slice none 0 0))),
    ([],fun v _=>v=.pointer (some ⟨(W.heap.size+1),1,none⟩)),
    ([1],fun v _=>v=.int .i64 x.frm),
    ([0,2],fun v _=>v=.bool true),
    ([3],fun v _=>v=.bool true),
    ([4],fun v _=>v=.agg XR),
    ([4],fun v _=>v=.agg (ownRow me 4 0 90 ph ov (.slice none 0 0))),
    ([4],fun v _=>v=.pointer (some ⟨W.heap.size,0,none⟩)),
    ([4,7],fun v _=>v=.int .i64 me),
    ([4],fun v _=>v=.pointer (some ⟨(W.heap.size+1),1,none⟩)),
    ([4,9],fun v _=>v=.int .i64 x.frm),
    ([4,6,8,10],fun v W' => ∃ cv,v=.agg (LN.let (inqL l me x.frm) cv).row∧a0h w1.heap.size W' cv l),
    ([4],fun v _=>v=.pointer (some ⟨(W.heap.size+1),25,none⟩)),
    ([4,12],fun v _=>v=.int .i64 ks),
    ([4,11,13],fun v W' => ∃ cv,v=.agg (LN.let (repL l me x.frm x.st) cv).row∧a0h w1.heap.size W' cv l),
    ([4,5,14],fun v _=>v=.bool true),
    ([4,15],fun v _=>v=.bool true)] (by kernel_rfl) (by kernel_rfl) ?st ⟨?o0,?o1,?o2,?o3,?o4,?o5,?o6,?o7,?o8,?o9,?o10,?o11,?o12,?o13,?o14,?o15,?o16,trivial⟩ ?tl
  case st =>
   intro k v W1 W2 h hb
   rcases k with _ | _ | _ | _ | _ | _ | _ | _ | _ | _ | _ | _ | _ | _ | _ | _ | _ | k
   ·exact h
   ·exact h
   ·exact h
   ·exact h
   ·exact h
   ·exact h
   ·exact h
   ·exact h
   ·exact h
   ·exact h
   ·exact h
   ·obtain ⟨cv,h1,h2⟩:=h;exact ⟨cv,h1,h2.below hb⟩
   ·exact h
   ·exact h
   ·obtain ⟨cv,h1,h2⟩:=h;exact ⟨cv,h1,h2.below hb⟩
   ·exact h
   ·exact h
   ·trivial
  case o0 =>
   intro vs Wq hW hk
   clear hk
   dsimp only [a9l,List.take]
   simp only [Act.put,List.setIfInBounds_toArray,List.set_cons_succ,List.set_cons_zero]
   have b2W:=a00 b2 hW lb2
   repeat' (first | go_skip | go_guarded | go_step | go_upon)
   exact a5s (.agg (ownRow me 4 0 90 ph ov (.slice none 0 0))) rfl (by go_simp) (Below.refl _ _) rfl
  case o1 =>
   intro vs Wq hW hk
   clear hk
   dsimp only [a9l,List.take]
   simp only [Act.put,List.setIfInBounds_toArray,List.set_cons_succ,List.set_cons_zero]
   repeat' (first | go_skip | go_guarded | go_step | go_upon)
   exact a5s (.pointer (some ⟨(W.heap.size+1),1,none⟩)) rfl (by go_simp) (Below.refl _ _) rfl
  case o2 =>
   intro vs Wq hW hk
   have g1:vs 1=.pointer (some ⟨(W.heap.size+1),1,none⟩):=hk.1
   clear hk
   dsimp only [a9l,List.take]
   simp only [Act.put,List.setIfInBounds_toArray,List.set_cons_succ,List.set_cons_zero]
   rw [g1]
   have cF:=HCF.out _ (a00 b3 hW lb3)
   repeat' (first | go_skip | go_guarded | go_step | go_upon)
   exact a5s (.int .i64 x.frm) rfl (by go_simp) (Below.refl _ _) rfl
  case o3 =>
   intro vs Wq hW hk
   have g0:vs 0=.agg (ownRow me 4 0 90 ph ov (.slice none 0 0)):=hk.1
   have g2:vs 2=.int .i64 x.frm:=hk.2.1
   clear hk
   dsimp only [a9l,List.take]
   simp only [Act.put,List.setIfInBounds_toArray,List.set_cons_succ,List.set_cons_zero]
   rw [g0,g2]
   have ho':=HO.out
   have HX:=Lib.hid (tother_calls hl hm hp (hv1.out.below hW) hf)
   repeat' (first | (go_at_call 35;((with_reducible refine (HX.out).mono ?_));rintro e w7 ⟨h7,hb7⟩;rw [ho'] at h7;subst h7;dsimp only) | go_skip | go_guarded | go_step | go_upon)
   exact a5s (.bool true) rfl (by go_simp) hb7 rfl
  case o4 =>
   intro vs Wq hW hk
   have g3:vs 3=.bool true:=hk.1
   clear hk
   dsimp only [a9l,List.take]
   simp only [Act.put,List.setIfInBounds_toArray,List.set_cons_succ,List.set_cons_zero]
   rw [g3]
   repeat' (first | go_skip | go_guarded | go_step | go_upon)
   exact a5s (.bool true) rfl (by go_simp) (Below.refl _ _) rfl
  case o5 =>
   intro vs Wq hW hk
   have g4:vs 4=.bool true:=hk.1
   clear hk
   dsimp only [a9l,List.take]
   simp only [Act.put,List.setIfInBounds_toArray,List.set_cons_succ,List.set_cons_zero]
   rw [g4]
   have b3W:=a00 b3 hW lb3
   repeat' (first | go_skip | go_guarded | go_step | go_upon)
   exact a5s (.agg XR) rfl (by go_simp) (Below.refl _ _) rfl
  case o6 =>
   intro vs Wq hW hk
   have g4:vs 4=.bool true:=hk.1
   clear hk
   dsimp only [a9l,List.take]
   simp only [Act.put,List.setIfInBounds_toArray,List.set_cons_succ,List.set_cons_zero]
   rw [g4]
   have b2W:=a00 b2 hW lb2
   repeat' (first | go_skip | go_guarded | go_step | go_upon)
   exact a5s (.agg (ownRow me 4 0 90 ph ov (.slice none 0 0))) rfl (by go_simp) (Below.refl _ _) rfl
  case o7 =>
   intro vs Wq hW hk
   have g4:vs 4=.bool true:=hk.1
   clear hk
   dsimp only [a9l,List.take]
   simp only [Act.put,List.setIfInBounds_toArray,List.set_cons_succ,List.set_cons_zero]
   rw [g4]
   repeat' (first | go_skip | go_guarded | go_step | go_upon)
   exact a5s (.pointer (some ⟨W.heap.size,0,none⟩)) rfl (by go_simp) (Below.refl _ _) rfl
  case o8 =>
   intro vs Wq hW hk
   have g4:vs 4=.bool true:=hk.1
   have g7:vs 7=.pointer (some ⟨W.heap.size,0,none⟩):=hk.2.1
   clear hk
   dsimp only [a9l,List.take]
   simp only [Act.put,List.setIfInBounds_toArray,List.set_cons_succ,List.set_cons_zero]
   rw [g4,g7]
   have cO0:=(a01 (a00 b2 hW lb2) 0).trans (aFq _ _ _ _ _ _ _)
   repeat' (first | go_skip | go_guarded | go_step | go_upon)
   exact a5s (.int .i64 me) rfl (by go_simp) (Below.refl _ _) rfl
  case o9 =>
   intro vs Wq hW hk
   have g4:vs 4=.bool true:=hk.1
   clear hk
   dsimp only [a9l,List.take]
   simp only [Act.put,List.setIfInBounds_toArray,List.set_cons_succ,List.set_cons_zero]
   rw [g4]
   repeat' (first | go_skip | go_guarded | go_step | go_upon)
   exact a5s (.pointer (some ⟨(W.heap.size+1),1,none⟩)) rfl (by go_simp) (Below.refl _ _) rfl
  case o10 =>
   intro vs Wq hW hk
   have g4:vs 4=.bool true:=hk.1
   have g9:vs 9=.pointer (some ⟨(W.heap.size+1),1,none⟩):=hk.2.1
   clear hk
   dsimp only [a9l,List.take]
   simp only [Act.put,List.setIfInBounds_toArray,List.set_cons_succ,List.set_cons_zero]
   rw [g4,g9]
   have cF:=HCF.out _ (a00 b3 hW lb3)
   repeat' (first | go_skip | go_guarded | go_step | go_upon)
   exact a5s (.int .i64 x.frm) rfl (by go_simp) (Below.refl _ _) rfl
  case o11 =>
   intro vs Wq hW hk
   have g4:vs 4=.bool true:=hk.1
   have g6:vs 6=.agg (ownRow me 4 0 90 ph ov (.slice none 0 0)):=hk.2.1
   have g8:vs 8=.int .i64 me:=hk.2.2.1
   have g10:vs 10=.int .i64 x.frm:=hk.2.2.2.1
   clear hk
   dsimp only [a9l,List.take]
   simp only [Act.put,List.setIfInBounds_toArray,List.set_cons_succ,List.set_cons_zero]
   rw [g4,g6,g8,g10]
   have HX:=Lib.hid (tinquiry_calls (me:=me) (ph:=ph) (pv:=.slice none 0 0) (tLs_ne hl) (by have:=(by decide:∀ l∈tLs,l.length≤4) l hl;omega) (hv1.out.below hW) rfl me x.frm)
   repeat' (first | (go_at_call 26;((with_reducible refine (HX.out).mono ?_));rintro e w7 ⟨cv,rfl,hcv,hb7⟩;dsimp only) | go_skip | go_guarded | go_step | go_upon)
   exact a5s (.agg (LN.let (inqL l me x.frm) cv).row) rfl (by go_simp) hb7 ⟨cv,rfl,hcv.mono hW.size⟩
  case o12 =>
   intro vs Wq hW hk
   have g4:vs 4=.bool true:=hk.1
   clear hk
   dsimp only [a9l,List.take]
   simp only [Act.put,List.setIfInBounds_toArray,List.set_cons_succ,List.set_cons_zero]
   rw [g4]
   repeat' (first | go_skip | go_guarded | go_step | go_upon)
   exact a5s (.pointer (some ⟨(W.heap.size+1),25,none⟩)) rfl (by go_simp) (Below.refl _ _) rfl
  case o13 =>
   intro vs Wq hW hk
   have g4:vs 4=.bool true:=hk.1
   have g12:vs 12=.pointer (some ⟨(W.heap.size+1),25,none⟩):=hk.2.1
   clear hk
   dsimp only [a9l,List.take]
   simp only [Act.put,List.setIfInBounds_toArray,List.set_cons_succ,List.set_cons_zero]
   rw [g4,g12]
   have cS:=HCS.out _ (a00 b3 hW lb3)
   repeat' (first | go_skip | go_guarded | go_step | go_upon)
   exact a5s (.int .i64 ks) rfl (by go_simp) (Below.refl _ _) rfl
  case o14 =>
   intro vs Wq hW hk
   have g4:vs 4=.bool true:=hk.1
   have g11:(fun v W' => ∃ cv,v=.agg (LN.let (inqL l me x.frm) cv).row∧a0h w1.heap.size W' cv l) (vs 11) Wq:=hk.2.1
   have g11v:=g11.choose_spec.1;have g11c:=g11.choose_spec.2;generalize g11.choose=cv at g11v g11c;clear g11
   have g13:vs 13=.int .i64 ks:=hk.2.2.1
   clear hk
   dsimp only [a9l,List.take]
   simp only [Act.put,List.setIfInBounds_toArray,List.set_cons_succ,List.set_cons_zero]
   rw [g4,g11v,g13]
   have HX:=Lib.hid (treply_calls hl hm hfl hnm (hT1.out.below hW) (g11c.mono (Nat.zero_le _)) x.st)
   rw [HKS.out] at HX
   repeat' (first | (go_at_call 37;((with_reducible refine (HX.out).mono ?_));rintro e w7 ⟨cv2,rfl,hcv,hb7⟩;dsimp only) | go_skip | go_guarded | go_step | go_upon)
   exact a5s (.agg (LN.let (repL l me x.frm x.st) cv2).row) rfl (by go_simp) hb7 ⟨cv2,rfl,hcv.mono hW.size⟩
  case o15 =>
   intro vs Wq hW hk
   have g4:vs 4=.bool true:=hk.1
   have g5:vs 5=.agg XR:=hk.2.1
   have g14:(fun v W' => ∃ cv,v=.agg (LN.let (repL l me x.frm x.st) cv).row∧a0h w1.heap.size W' cv l) (vs 14) Wq:=hk.2.2.1
   have g14v:=g14.choose_spec.1;have g14c:=g14.choose_spec.2;generalize g14.choose=cv at g14v g14c;clear g14
   clear hk
   dsimp only [a9l,List.take]
   simp only [Act.put,List.setIfInBounds_toArray,List.set_cons_succ,List.set_cons_zero]
   rw [g4,g5,g14v]
   have HX:=Lib.hid (same_apart hx (rep_sz hl hm hfl hst) ath aTs (hvx1.out.below hW) (g14c.mono (Nat.zero_le _)) (apart_lay hvx1.out g14c (Nat.le_refl _)))
   rw [HXR.out] at HX
   repeat' (first | (go_at_call 36;((with_reducible refine (HX.out).mono ?_));rintro e w7 ⟨h7a,h7b,hb7⟩;have h7:=h7a HQ.out;clear h7a h7b;subst h7;dsimp only) | go_skip | go_guarded | go_step | go_upon)
   exact a5s (.bool true) rfl (by go_simp) hb7 rfl
  case o16 =>
   intro vs Wq hW hk
   have g4:vs 4=.bool true:=hk.1
   have g15:vs 15=.bool true:=hk.2.1
   clear hk
   dsimp only [a9l,List.take]
   simp only [Act.put,List.setIfInBounds_toArray,List.set_cons_succ,List.set_cons_zero]
   rw [g4,g15]
   repeat' (first | go_skip | go_guarded | go_step | go_upon)
   exact a5s (.bool true) rfl (by go_simp) (Below.refl _ _) rfl
  case tl =>
   intro vs W2 hW2 hk
   have hz:vs 16=.bool true:=hk 16 (by decide)
   clear hk
   dsimp only [a9l,List.take,List.drop]
   simp only [Act.put,List.setIfInBounds_toArray,List.set_cons_succ,List.set_cons_zero]
   rw [hz]
   generalize vs 0=u0,vs 1=u1,vs 2=u2,vs 3=u3,vs 4=u4,vs 5=u5,vs 6=u6,vs 7=u7,vs 8=u8,vs 9=u9,vs 10=u10,vs 11=u11,vs 12=u12,vs 13=u13,vs 14=u14,vs 15=u15
   repeat' (first | go_skip | go_guarded | go_step | go_upon)
   exact bodyPost_ret (results_tmp rfl _ _ _) rfl ⟨rfl,w1B.trans (hW2.mono w1B.size)⟩
theorem tans_calls {l:List Nat} (hl:l∈tLs) {me:Nat} (hm:me∈l) {ph:Nat} (hp:ph∈phs) {W:World} {ov vx:Value} {x:LN} (hx:x.Sz) (hf:x.frm < 5) (hT:ase W) (hv:a0h 0 W ov l) (hvx:a0h 0 W vx x.cs) :
  Calls Tryz.prog 40 #[.agg (ownRow me 4 0 90 ph ov (.slice none 0 0)),.agg (LN.let x vx).row] W fun e W'=>(ansB l me x→e=.returned (.bool true))∧(¬ ansB l me x→e=.returned (.bool false))∧Below W.heap.size W W':=by
 by_cases hs:x.st=3∨x.st=4∨x.st=5
 ·cases ho:oth me l x.frm with
  | false =>
   have hn : ¬ ansB l me x:=fun h=>absurd (h.2.1.symm.trans ho) (by decide)
   rcases hs with hs | hs | hs
   ·exact (tans_no2 hl hm hp hx hf hT hv hvx (.inl ⟨by rw [hs];rfl,by rw [hs];rfl,by rw [hs];rfl⟩) ho).mono fun e W' h=>⟨fun q=>absurd q hn,fun _=>h.1,h.2⟩
   ·exact (tans_no2 hl hm hp hx hf hT hv hvx (.inr (.inl ⟨by rw [hs];rfl,by rw [hs];rfl,by rw [hs];rfl⟩)) ho).mono fun e W' h=>⟨fun q=>absurd q hn,fun _=>h.1,h.2⟩
   ·exact (tans_no2 hl hm hp hx hf hT hv hvx (.inr (.inr ⟨by rw [hs];rfl,by rw [hs];rfl,by rw [hs];rfl⟩)) ho).mono fun e W' h=>⟨fun q=>absurd q hn,fun _=>h.1,h.2⟩
  | true =>
   by_cases hq:x=repL l me x.frm x.st
   ·have hn:ansB l me x:=⟨hs,ho,hq⟩
    rcases hs with hs | hs | hs
    ·exact (tans_yes hl hm hp hx hf hT hv hvx (.inl ⟨by rw [hs];rfl,by rw [hs];rfl,by rw [hs];rfl⟩) ho hq).mono fun e W' h=>⟨fun _=>h.1,fun q=>absurd hn q,h.2⟩
    ·exact (tans_yes hl hm hp hx hf hT hv hvx (.inr (.inl ⟨by rw [hs];rfl,by rw [hs];rfl,by rw [hs];rfl⟩)) ho hq).mono fun e W' h=>⟨fun _=>h.1,fun q=>absurd hn q,h.2⟩
    ·exact (tans_yes hl hm hp hx hf hT hv hvx (.inr (.inr ⟨by rw [hs];rfl,by rw [hs];rfl,by rw [hs];rfl⟩)) ho hq).mono fun e W' h=>⟨fun _=>h.1,fun q=>absurd hn q,h.2⟩
   ·have hn : ¬ ansB l me x:=fun h=>hq h.2.2
    rcases hs with hs | hs | hs
    ·exact (tans_no3 hl hm hp hx hf hT hv hvx (.inl ⟨by rw [hs];rfl,by rw [hs];rfl,by rw [hs];rfl⟩) ho hq).mono fun e W' h=>⟨fun q=>absurd q hn,fun _=>h.1,h.2⟩
    ·exact (tans_no3 hl hm hp hx hf hT hv hvx (.inr (.inl ⟨by rw [hs];rfl,by rw [hs];rfl,by rw [hs];rfl⟩)) ho hq).mono fun e W' h=>⟨fun q=>absurd q hn,fun _=>h.1,h.2⟩
    ·exact (tans_no3 hl hm hp hx hf hT hv hvx (.inr (.inr ⟨by rw [hs];rfl,by rw [hs];rfl,by rw [hs];rfl⟩)) ho hq).mono fun e W' h=>⟨fun q=>absurd q hn,fun _=>h.1,h.2⟩
 ·have hn : ¬ ansB l me x:=fun h=>hs h.1
  have h3:((x.st:Int) == 3)=false:=by simp;omega
  have h4:((x.st:Int) == 4)=false:=by simp;omega
  have h5:((x.st:Int) == 5)=false:=by simp;omega
  exact (tans_no1 hl hm hp hx hf hT hv hvx h3 h4 h5).mono fun e W' h=>⟨fun q=>absurd q hn,fun _=>h.1,h.2⟩
end Go.Proofs.YtopgdlblfieljaaGreatDoor
