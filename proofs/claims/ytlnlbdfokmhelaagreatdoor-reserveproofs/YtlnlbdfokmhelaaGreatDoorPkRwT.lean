/-
  The walk of reserve.owner.
-/
import Derived.Test.YtlnlbdfokmhelaaGreatDoorPkRwS
import Derived.Test.YtlnlbdfokmhelaaGreatDoorPkRwH
import Derived.Test.YtlnlbdfokmhelaaGreatDoorPkRwP
set_option linter.unusedSectionVars false
set_option linter.constructorNameAsVariable false
set_option linter.unusedVariables false
set_option linter.unusedSimpArgs false
namespace Go.Proofs.YtlnlbdfokmhelaaGreatDoor
open Go.RowKit Go.CE.V
set_option maxRecDepth 20000
set_option maxHeartbeats 4000000
attribute [local irreducible] wpQuiet
def ownRow (self mtg org dl ph:Nat) (ov pv:Value):Array Value:=#[.int .i64 self,.int .i64 mtg,.int .i64 org,.int .i64 dl,.int .i64 ph,ov,pv]
theorem a3p (self mtg org dl ph:Nat) (ov pv:Value):(ownRow self mtg org dl ph ov pv).size=7:=rfl
theorem axy (self mtg org dl ph:Nat) (ov pv:Value):(ownRow self mtg org dl ph ov pv).extract 0 7=ownRow self mtg org dl ph ov pv:=extract_all _ _ rfl
theorem aFq (self mtg org dl ph:Nat) (ov pv:Value):(ownRow self mtg org dl ph ov pv)[0]? = some (.int .i64 self):=rfl
theorem b2p (self mtg org dl ph:Nat) (ov pv:Value):(ownRow self mtg org dl ph ov pv)[1]? = some (.int .i64 mtg):=rfl
theorem b2o (self mtg org dl ph:Nat) (ov pv:Value):(ownRow self mtg org dl ph ov pv)[2]? = some (.int .i64 org):=rfl
theorem b2n (self mtg org dl ph:Nat) (ov pv:Value):(ownRow self mtg org dl ph ov pv)[3]? = some (.int .i64 dl):=rfl
theorem a4v (self mtg org dl ph:Nat) (ov pv:Value):(ownRow self mtg org dl ph ov pv)[4]? = some (.int .i64 ph):=rfl
theorem aoj (self mtg org dl ph:Nat) (ov pv:Value):(ownRow self mtg org dl ph ov pv)[5]? = some ov:=rfl
theorem aau (self mtg org dl ph:Nat) (ov pv:Value):(ownRow self mtg org dl ph ov pv)[6]? = some pv:=rfl
theorem a1y (self mtg org dl ph:Nat) {ov pv:Value} (h:ov.oneCell' = true) (h':pv.oneCell' = true):ones (ownRow self mtg org dl ph ov pv)=true:=by
 unfold ownRow
 simp [ones,ack,h,h']
theorem a9v (self mtg org dl ph ph':Nat) (ov pv:Value):(ownRow self mtg org dl ph ov pv).setIfInBounds 4 (.int .i64 ph')=ownRow self mtg org dl ph' ov pv:=rfl
theorem aFp (self mtg org dl ph:Nat) (ov ov' pv:Value):(ownRow self mtg org dl ph ov pv).setIfInBounds 5 ov' = ownRow self mtg org dl ph ov' pv:=rfl
theorem aqt (self mtg org dl ph:Nat) (ov pv pv':Value):(ownRow self mtg org dl ph ov pv).setIfInBounds 6 pv' = ownRow self mtg org dl ph ov pv':=rfl
attribute [go_sem] a3p axy aFq b2p b2o b2n a4v aoj aau
attribute [irreducible] ownRow
theorem aix (mtg org dl:Nat) (v:Value):(#[.int .i64 (mtg:Int),.int .i64 (org:Int),.int .i64 (dl:Int),v]:Array Value)=a06 mtg org dl v:=by
 unfold a06
 rfl
theorem af7 {W:World} {self mtg org dl ph:Nat} {own:List Nat} {ov pv:Value} (hv:a4r W ov own) (hz:own.length≤1000) (hp:pv.oneCell' = true) (hph:ph∈[0,2,3,4,5]) (hs:self∈own)
  (HV:∀ W',Below W.heap.size W W'→Calls Tryz.prog 103 #[.agg (a06 mtg org dl ov)] W' fun e w'=>e=.returned (.bool true)∧Below W'.heap.size W' w') :
  Calls Tryz.prog 87 #[.agg (ownRow self mtg org dl ph ov pv)] W fun e W'=>e=.returned (.tuple #[.agg (a06 mtg org dl ov),.bool true])∧Below W.heap.size W W':=by
 have HVV:=Lib.hid HV
 have HNV:=Lib.hid hv
 have hov:=a2o hv
 obtain ⟨oa,oc,rfl,_⟩:=hv
 have oo:=a1y self mtg org dl ph hov hp
 have po:=a3c mtg org dl hov
 have hlit:=aix mtg org dl (.slice oa own.length oc)
 clear HV
 go_enter Tryz.func87,Tryz.ntmps87
 repeat' (first | go_skip | go_guarded | go_step | go_upon)
 have j0:obj ((((W.alloc (.cells (ownRow self mtg org dl ph (.slice oa own.length oc) pv) 28 (0,0))).alloc (.cells #[.int .i64 0,.int .i64 0,.int .i64 0,.slice none 0 0] 144 (0,0))).alloc (.cells (a06 mtg org dl (.slice oa own.length oc)) 144 (0,0))).alloc (.cells #[.int .i64 0,.int .i64 2,.int .i64 3,.int .i64 4,.int .i64 5] 3 (0,0))) W.heap.size=some (.cells (ownRow self mtg org dl ph (.slice oa own.length oc) pv) 28 (0,0)):=a02 (a02 (a02 (a03 _ _ _ rfl) _) _) _
 have j1:obj ((((W.alloc (.cells (ownRow self mtg org dl ph (.slice oa own.length oc) pv) 28 (0,0))).alloc (.cells #[.int .i64 0,.int .i64 0,.int .i64 0,.slice none 0 0] 144 (0,0))).alloc (.cells (a06 mtg org dl (.slice oa own.length oc)) 144 (0,0))).alloc (.cells #[.int .i64 0,.int .i64 2,.int .i64 3,.int .i64 4,.int .i64 5] 3 (0,0))) (W.heap.size+1)=some (.cells #[.int .i64 0,.int .i64 0,.int .i64 0,.slice none 0 0] 144 (0,0)):=a02 (a02 (a03 _ _ _ (by simp)) _) _
 have j2:obj ((((W.alloc (.cells (ownRow self mtg org dl ph (.slice oa own.length oc) pv) 28 (0,0))).alloc (.cells #[.int .i64 0,.int .i64 0,.int .i64 0,.slice none 0 0] 144 (0,0))).alloc (.cells (a06 mtg org dl (.slice oa own.length oc)) 144 (0,0))).alloc (.cells #[.int .i64 0,.int .i64 2,.int .i64 3,.int .i64 4,.int .i64 5] 3 (0,0))) (W.heap.size+1+1)=some (.cells (a06 mtg org dl (.slice oa own.length oc)) 144 (0,0)):=a02 (a03 _ _ _ (by simp)) _
 have j3:obj ((((W.alloc (.cells (ownRow self mtg org dl ph (.slice oa own.length oc) pv) 28 (0,0))).alloc (.cells #[.int .i64 0,.int .i64 0,.int .i64 0,.slice none 0 0] 144 (0,0))).alloc (.cells (a06 mtg org dl (.slice oa own.length oc)) 144 (0,0))).alloc (.cells #[.int .i64 0,.int .i64 2,.int .i64 3,.int .i64 4,.int .i64 5] 3 (0,0))) (W.heap.size+1+1+1)=some (.cells #[.int .i64 0,.int .i64 2,.int .i64 3,.int .i64 4,.int .i64 5] 3 (0,0)):=a03 _ _ _ (by simp)
 have jB:Below W.heap.size W ((((W.alloc (.cells (ownRow self mtg org dl ph (.slice oa own.length oc) pv) 28 (0,0))).alloc (.cells #[.int .i64 0,.int .i64 0,.int .i64 0,.slice none 0 0] 144 (0,0))).alloc (.cells (a06 mtg org dl (.slice oa own.length oc)) 144 (0,0))).alloc (.cells #[.int .i64 0,.int .i64 2,.int .i64 3,.int .i64 4,.int .i64 5] 3 (0,0))):=((((Below.refl _ _).alloc (Nat.le_refl _) _).alloc (by simp) _).alloc (by simp;omega) _).alloc (by simp;omega) _
 generalize ((((W.alloc (.cells (ownRow self mtg org dl ph (.slice oa own.length oc) pv) 28 (0,0))).alloc (.cells #[.int .i64 0,.int .i64 0,.int .i64 0,.slice none 0 0] 144 (0,0))).alloc (.cells (a06 mtg org dl (.slice oa own.length oc)) 144 (0,0))).alloc (.cells #[.int .i64 0,.int .i64 2,.int .i64 3,.int .i64 4,.int .i64 5] 3 (0,0)))=W4 at *
 have HV4:=Lib.hid (fun W' (hb:Below W4.heap.size W4 W')=>HVV.out W' (jB.trans (hb.mono jB.size)))
 have HC4:Hid (∀ W',Below W4.heap.size W4 W'→Calls Tryz.prog 118 #[.slice (some ⟨W.heap.size+1+1+1,0,none⟩) 5 5,.int .i64 (ph:Nat)] W' fun e w'=>e=.returned (.bool true)∧Below W'.heap.size W' w'):=Lib.hid fun W' hb=>by
  have hn:a4r W' (.slice (some ⟨W.heap.size+1+1+1,0,none⟩) 5 5) [0,2,3,4,5]:=⟨_,5,rfl,fun _=>⟨_,0,_,rfl,a00 j3 hb (a04 j3),fun i hi=>by
   rcases (show i=0∨i=1∨i=2∨i=3∨i=4 by simp at hi;omega) with rfl | rfl | rfl | rfl | rfl<;>rfl⟩⟩
  have:=a5u hn (by decide) ph
  rwa [decide_eq_true hph] at this
 have HS4:Hid (∀ W',Below W4.heap.size W4 W'→Calls Tryz.prog 118 #[.slice oa own.length oc,.int .i64 (self:Nat)] W' fun e w'=>e=.returned (.bool true)∧Below W'.heap.size W' w'):=Lib.hid fun W' hb=>by
  have:=a5u (HNV.out.below (jB.trans (hb.mono jB.size))) (by omega) self
  rwa [decide_eq_true hs] at this
 have lt0:=a04 j0
 have lt2:=a04 j2
 clear HVV HNV hph hs
 have p0:obj W4.drew W.heap.size=_:=j0
 have p2:obj W4.drew (W.heap.size+1+1)=_:=j2
 have p1:obj W4.drew (W.heap.size+1)=_:=j1
 have n0:=(a01 p0 0).trans (aFq _ _ _ _ _ _ _)
 have n4:=(a01 p0 4).trans (a4v _ _ _ _ _ _ _)
 have n5:=(a01 p0 5).trans (aoj _ _ _ _ _ _ _)
 have jD:Below W4.heap.size W4 W4.drew:=(Below.refl _ _).drew
 go_cut [3] from 16 to 32 (fun v wx=>v=.bool true∧obj wx (W.heap.size+1)=some (.cells (a06 mtg org dl (.slice oa own.length oc)) 144 (0,0))∧Below W.heap.size W wx)
 case first =>
  go_region_law (first | ((go_simp;go_at_call 103;((with_reducible refine (HV4.out _ (by assumption)).mono ?_));rintro e w1 ⟨rfl,hb1⟩;have jE:=jD.trans (hb1.mono jD.size);have r0:=a00 p0 hb1 (a04 p0);have r2:=a00 p2 hb1 (a04 p2);have r1:=a00 p1 hb1 (a04 p1);have rn0:=(a01 r0 0).trans (aFq _ _ _ _ _ _ _);have rn4:=(a01 r0 4).trans (a4v _ _ _ _ _ _ _);have rn5:=(a01 r0 5).trans (aoj _ _ _ _ _ _ _);dsimp only)) | ((go_simp;go_at_call 118;((with_reducible refine (HC4.out _ (by assumption)).mono ?_));rintro e w2 ⟨rfl,hb2⟩;have jF:=jE.trans (hb2.mono jE.size);have s0:=a00 r0 hb2 (a04 r0);have s2:=a00 r2 hb2 (a04 r2);have s1:=a00 r1 hb2 (a04 r1);have sn0:=(a01 s0 0).trans (aFq _ _ _ _ _ _ _);have sn5:=(a01 s0 5).trans (aoj _ _ _ _ _ _ _);dsimp only)) | ((go_simp;go_at_call 118;((with_reducible refine (HS4.out _ (by assumption)).mono ?_));rintro e w3 ⟨rfl,hb3⟩;have jG:=jF.trans (hb3.mono jF.size);have t2:=a00 s2 hb3 (a04 s2);have t1:=a00 s1 hb3 (a04 s1);dsimp only)))
  all_goals (repeat' go_step)
  all_goals go_meet
  all_goals exact ⟨rfl,by rw [a0b,t1];rfl,below_setRow (jB.trans (jG.mono jB.size)) (by omega) _⟩
 case rest =>
  obtain ⟨rfl,q1,qB⟩:=hcut
  repeat' (first | go_skip | go_guarded | go_step | go_upon)
  refine bodyPost_ret (a0d rfl _ _ (W.heap.size+1) 144 _ _ _ (.bool true) rfl q1 Tryz.underlying144 rfl (by kernel_rfl) rfl) rfl ?_
  exact ⟨rfl,qB⟩
end Go.Proofs.YtlnlbdfokmhelaaGreatDoor
