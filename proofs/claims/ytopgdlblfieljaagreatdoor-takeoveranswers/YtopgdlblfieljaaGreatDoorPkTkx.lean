/-
  Verdicts in every phase.
-/
import Derived.Test.YtopgdlblfieljaaGreatDoorPkTkw
set_option linter.unusedSectionVars false
set_option linter.constructorNameAsVariable false
set_option linter.unusedVariables false
set_option linter.unusedSimpArgs false
namespace Go.Proofs.YtopgdlblfieljaaGreatDoor
open Go.RowKit Go.CE.V
set_option maxRecDepth 20000
set_option maxHeartbeats 8000000
noncomputable def verdN (l:List Nat) (me ph:Nat) (xs:List LN):Int:=if ph=5 then (tkT l me xs xs.length).out (l.length - 1) else if ph=3 then 1 else if ph=4 then 2 else 0
theorem tverd0_calls {l:List Nat} (hl:l∈tLs) {me:Nat} (hm:me∈l) {W:World} {ov v:Value} (hv:a0h 0 W ov l) :
  Calls Tryz.prog 14 #[.agg (ownRow me 4 0 90 0 ov (.slice none 0 0)),v] W fun e W'=>e=.returned (.int .i64 0)∧Below W.heap.size W W':=by
 have po:=a1y me 4 0 90 0 (a0v hv) (show (Value.slice none 0 0).oneCell' = true from rfl)
 have b2:obj (W.alloc (.cells (ownRow me 4 0 90 0 ov (.slice none 0 0)) 28 (0,0))) W.heap.size=some (.cells (ownRow me 4 0 90 0 ov (.slice none 0 0)) 28 (0,0)):=a03 _ _ _ rfl
 have w1B:Below W.heap.size W (W.alloc (.cells (ownRow me 4 0 90 0 ov (.slice none 0 0)) 28 (0,0))):=(Below.refl _ _).alloc (Nat.le_refl _) _
 have HVC:=Lib.hid (tvalid_calls hl hm (show 0∈phs from by decide) (hv.below w1B))
 clear hv
 go_enter Tryz.func14,Tryz.ntmps14
 repeat' (first | (go_at_call 24;((with_reducible refine (HVC.out).mono ?_));rintro e w2 ⟨rfl,hb2⟩;have b22:=a1w b2 hb2;have c42:=(a01 b22 4).trans (a4v _ _ _ _ _ _ _);have w2B:=w1B.trans (hb2.mono w1B.size);dsimp only) | go_skip | go_guarded | go_step | go_upon)
 go_ret
 exact ⟨rfl,w2B⟩
theorem tverd2_calls {l:List Nat} (hl:l∈tLs) {me:Nat} (hm:me∈l) {W:World} {ov v:Value} (hv:a0h 0 W ov l) :
  Calls Tryz.prog 14 #[.agg (ownRow me 4 0 90 2 ov (.slice none 0 0)),v] W fun e W'=>e=.returned (.int .i64 0)∧Below W.heap.size W W':=by
 have po:=a1y me 4 0 90 2 (a0v hv) (show (Value.slice none 0 0).oneCell' = true from rfl)
 have b2:obj (W.alloc (.cells (ownRow me 4 0 90 2 ov (.slice none 0 0)) 28 (0,0))) W.heap.size=some (.cells (ownRow me 4 0 90 2 ov (.slice none 0 0)) 28 (0,0)):=a03 _ _ _ rfl
 have w1B:Below W.heap.size W (W.alloc (.cells (ownRow me 4 0 90 2 ov (.slice none 0 0)) 28 (0,0))):=(Below.refl _ _).alloc (Nat.le_refl _) _
 have HVC:=Lib.hid (tvalid_calls hl hm (show 2∈phs from by decide) (hv.below w1B))
 clear hv
 go_enter Tryz.func14,Tryz.ntmps14
 repeat' (first | (go_at_call 24;((with_reducible refine (HVC.out).mono ?_));rintro e w2 ⟨rfl,hb2⟩;have b22:=a1w b2 hb2;have c42:=(a01 b22 4).trans (a4v _ _ _ _ _ _ _);have w2B:=w1B.trans (hb2.mono w1B.size);dsimp only) | go_skip | go_guarded | go_step | go_upon)
 go_ret
 exact ⟨rfl,w2B⟩
theorem tverd3_calls {l:List Nat} (hl:l∈tLs) {me:Nat} (hm:me∈l) {W:World} {ov v:Value} (hv:a0h 0 W ov l) :
  Calls Tryz.prog 14 #[.agg (ownRow me 4 0 90 3 ov (.slice none 0 0)),v] W fun e W'=>e=.returned (.int .i64 1)∧Below W.heap.size W W':=by
 have po:=a1y me 4 0 90 3 (a0v hv) (show (Value.slice none 0 0).oneCell' = true from rfl)
 have b2:obj (W.alloc (.cells (ownRow me 4 0 90 3 ov (.slice none 0 0)) 28 (0,0))) W.heap.size=some (.cells (ownRow me 4 0 90 3 ov (.slice none 0 0)) 28 (0,0)):=a03 _ _ _ rfl
 have w1B:Below W.heap.size W (W.alloc (.cells (ownRow me 4 0 90 3 ov (.slice none 0 0)) 28 (0,0))):=(Below.refl _ _).alloc (Nat.le_refl _) _
 have HVC:=Lib.hid (tvalid_calls hl hm (show 3∈phs from by decide) (hv.below w1B))
 clear hv
 go_enter Tryz.func14,Tryz.ntmps14
 repeat' (first | (go_at_call 24;((with_reducible refine (HVC.out).mono ?_));rintro e w2 ⟨rfl,hb2⟩;have b22:=a1w b2 hb2;have c42:=(a01 b22 4).trans (a4v _ _ _ _ _ _ _);have w2B:=w1B.trans (hb2.mono w1B.size);dsimp only) | go_skip | go_guarded | go_step | go_upon)
 go_ret
 exact ⟨rfl,w2B⟩
theorem tverd4_calls {l:List Nat} (hl:l∈tLs) {me:Nat} (hm:me∈l) {W:World} {ov v:Value} (hv:a0h 0 W ov l) :
  Calls Tryz.prog 14 #[.agg (ownRow me 4 0 90 4 ov (.slice none 0 0)),v] W fun e W'=>e=.returned (.int .i64 2)∧Below W.heap.size W W':=by
 have po:=a1y me 4 0 90 4 (a0v hv) (show (Value.slice none 0 0).oneCell' = true from rfl)
 have b2:obj (W.alloc (.cells (ownRow me 4 0 90 4 ov (.slice none 0 0)) 28 (0,0))) W.heap.size=some (.cells (ownRow me 4 0 90 4 ov (.slice none 0 0)) 28 (0,0)):=a03 _ _ _ rfl
 have w1B:Below W.heap.size W (W.alloc (.cells (ownRow me 4 0 90 4 ov (.slice none 0 0)) 28 (0,0))):=(Below.refl _ _).alloc (Nat.le_refl _) _
 have HVC:=Lib.hid (tvalid_calls hl hm (show 4∈phs from by decide) (hv.below w1B))
 clear hv
 go_enter Tryz.func14,Tryz.ntmps14
 repeat' (first | (go_at_call 24;((with_reducible refine (HVC.out).mono ?_));rintro e w2 ⟨rfl,hb2⟩;have b22:=a1w b2 hb2;have c42:=(a01 b22 4).trans (a4v _ _ _ _ _ _ _);have w2B:=w1B.trans (hb2.mono w1B.size);dsimp only) | go_skip | go_guarded | go_step | go_upon)
 go_ret
 exact ⟨rfl,w2B⟩
theorem tverd_calls {l:List Nat} (hl:l∈tLs) {me:Nat} (hm:me∈l) {ph:Nat} (hp:ph∈phs) {W:World} {ov v:Value} {xs:List LN} (hn:xs.length≤8) (hx:∀ i,i < xs.length→LetB (xs.getD i a0c)) (hT:ase W) (hv:a0h 0 W ov l) (hL:LetsT W v ov xs) :
  Calls Tryz.prog 14 #[.agg (ownRow me 4 0 90 ph ov (.slice none 0 0)),v] W fun e W'=>e=.returned (.int .i64 (verdN l me ph xs))∧Below W.heap.size W W':=by
 simp only [phs,List.mem_cons,List.not_mem_nil,or_false] at hp
 rcases hp with rfl | rfl | rfl | rfl | rfl
 ·exact tverd0_calls hl hm hv
 ·exact tverd2_calls hl hm hv
 ·exact tverd3_calls hl hm hv
 ·exact tverd4_calls hl hm hv
 ·exact tverd5_calls hl hm hn hx hT hv hL
end Go.Proofs.YtopgdlblfieljaaGreatDoor
namespace Go.CE
namespace V
open Go.Proofs Go.Proofs.YtopgdlblfieljaaGreatDoor Go.RowKit
set_option maxRecDepth 100000
noncomputable def isOwr (l:List Nat) (me ph:Nat) (r:Ans):Bool:=match r with
 | some (.g g 7,f)=>avL (a07 g 0 5) [.i .i64 (.ofNat me),.i .i64 (.ofNat 4),.i .i64 (.ofNat 0),.i .i64 (.ofNat 90),.i .i64 (.ofNat ph)]&&ark l (a1d (p4 5) g) f&&avB (a6g (a1d (p4 6) g)) (.sl none 0 0)
 | _=>false
noncomputable def runE (f:Nat) (a:List AV):Ans:=@evF S00 P (LT.fq LT.e) 4000 f (a.map ofV) ⟨.e,1024,2048,[],[]⟩
theorem rown_runs:allO (fun l me ph=>isOwr l me ph (runE 18 [.i .i64 (.ofNat l.length),.i .i64 (.ofNat me),.i .i64 (.ofNat ph)]))=true:=by decide +kernel
theorem rown_calls {l:List Nat} (hl:l∈tLs) {me:Nat} (hm:me∈l) {ph:Nat} (hp:ph∈phs) {W:World} :
  Calls Tryz.prog 18 #[.int .i64 l.length,.int .i64 me,.int .i64 ph] W fun e W' => ∃ w,e=.returned (.agg (ownRow me 4 0 90 ph w (.slice none 0 0)))∧a0h 0 W' w l∧Below W.heap.size W W':=by
 have h0:=allO_of rown_runs hl hm hp
 unfold isOwr at h0
 split at h0
 ·rename_i g f' he
  simp only [Bool.and_eq_true] at h0
  obtain ⟨⟨h1,h2⟩,h3⟩:=h0
  refine (@a3r S00 a5k .e trivial 4000 _ _ [.i .i64 (.ofNat l.length),.i .i64 (.ofNat me),.i .i64 (.ofNat ph)] _ _ _ f' gsg W #[.int .i64 l.length,.int .i64 me,.int .i64 ph] (@aIp S00 a5k) a8t (@aIj S00 a5k W) (fun j hj=>a2a (by omega)) (@aaf S00 a5k _) (@LV.lr S00 gsg [.i .i64 (.ofNat l.length),.i .i64 (.ofNat me),.i .i64 (.ofNat ph)] [.int .i64 l.length,.int .i64 me,.int .i64 ph] ⟨@VR.i S00 gsg _ _,@VR.i S00 gsg _ _,@VR.i S00 gsg _ _,trivial⟩) he).mono fun e W' ⟨τ,u,s',hu0,hok,hrs,_,hsr,hu,hb⟩=>?_
  obtain ⟨w,p,rfl,hw,hpv⟩:=@own_row2 S00 τ g me ph u h1 _ _ rfl rfl hu
  rw [agb h3] at hpv
  cases hpv
  exact ⟨w,hu0,axz h2 (tLs_ne hl) (hok 5 (by omega)) hrs hsr hw,hb⟩
 ·cases h0
end V
end Go.CE
namespace Go.Proofs.YtopgdlblfieljaaGreatDoor
open Go.RowKit Go.CE.V
set_option maxRecDepth 20000
set_option maxHeartbeats 8000000
theorem phases_at {W:World} {g:Nat} (h:obj W g=some (.cells #[.int .i64 0,.int .i64 2,.int .i64 3,.int .i64 4,.int .i64 5] 3 (0,0))) {j:Nat} (hj:j < 5):W.cell? ⟨g,j,none⟩=some (.int .i64 (phs.getD j 0:Nat)):=by
 rw [a01 h]
 rcases (show j=0∨j=1∨j=2∨j=3∨j=4 by omega) with rfl | rfl | rfl | rfl | rfl<;>rfl
theorem phases_calls {W:World}:Calls Tryz.prog 23 #[] W fun e W'=>e=.returned (.slice (some ⟨W.heap.size,0,none⟩) 5 5)∧W' = W.alloc (.cells #[.int .i64 0,.int .i64 2,.int .i64 3,.int .i64 4,.int .i64 5] 3 (0,0)):=by
 go_enter Tryz.func23,Tryz.ntmps23
 repeat' (first | go_skip | go_guarded | go_step | go_upon)
 go_ret
 exact ⟨rfl,rfl⟩
end Go.Proofs.YtopgdlblfieljaaGreatDoor
namespace Go.Proofs.YtopgdlblfieljaaGreatDoor
open Go.RowKit Go.CE.V
set_option maxRecDepth 20000
set_option maxHeartbeats 8000000
theorem af7 {W:World} {a b c:Nat} (ha:a < 256) (hb:b < 256) (hc:c < 256) :
  Calls Tryz.prog 6 #[.agg #[.int .u8 a,.int .u8 b,.int .u8 c]] W fun e W' => ∃ l me ph w,l∈tLs∧me∈l∧ph∈phs∧e=.returned (.agg (ownRow me 4 0 90 ph w (.slice none 0 0)))∧a0h 0 W' w l∧Below W.heap.size W W':=by
 obtain ⟨l,hl,hlen,hmem⟩ : ∃ l∈tLs,l.length=2+a % 3∧∀ j,j < l.length→1+j∈l:=by
  rcases (show a % 3=0∨a % 3=1∨a % 3=2 by omega) with h | h | h<;>rw [h]
  ·exact ⟨[1,2],by decide,rfl,by decide⟩
  ·exact ⟨[1,2,3],by decide,rfl,by decide⟩
  ·exact ⟨[1,2,3,4],by decide,rfl,by decide⟩
 have hl4:2≤l.length∧l.length≤4:=by omega
 have hbl:b % l.length < l.length:=Nat.mod_lt _ (by omega)
 have hm:=hmem (b % l.length) (Nat.mod_lt _ (by omega))
 have hph:phs.getD (c % 5) 0∈phs:=by
  have:c % 5 < 5:=Nat.mod_lt _ (by decide)
  rcases (show c % 5=0∨c % 5=1∨c % 5=2∨c % 5=3∨c % 5=4 by omega) with h | h | h | h | h<;>rw [h]<;>decide
 have ra:(a:Int) % 3=((a % 3:Nat):Int):=by omega
 have rat:Int.tmod (a:Int) 3=((a % 3:Nat):Int):=by rw [Int.tmod_eq_emod_of_nonneg (by omega)];omega
 have wa:IntKind.wrap .i64 ((a % 3:Nat):Int)=((a % 3:Nat):Int):=by rw [IntKind.wrap_i64];omega
 have wl:IntKind.wrap .i64 (2+((a % 3:Nat):Int))=(l.length:Int):=by rw [IntKind.wrap_i64];omega
 have wb:IntKind.wrap .i64 (b:Int)=(b:Int):=by rw [IntKind.wrap_i64];omega
 have rb:(b:Int) % (l.length:Int)=((b % l.length:Nat):Int):=by omega
 have rbt:Int.tmod (b:Int) (l.length:Int)=((b % l.length:Nat):Int):=by rw [Int.tmod_eq_emod_of_nonneg (by omega)];omega
 have wm:IntKind.wrap .i64 (1+((b % l.length:Nat):Int))=((1+b % l.length:Nat):Int):=by rw [IntKind.wrap_i64];omega
 have l0:(l.length:Int)≠0:=by omega
 have rc:(c:Int) % 5=((c % 5:Nat):Int):=by omega
 have rct:Int.tmod (c:Int) 5=((c % 5:Nat):Int):=by rw [Int.tmod_eq_emod_of_nonneg (by omega)];omega
 have HCM:=Lib.hid (show c % 5 < 5 from Nat.mod_lt _ (by decide))
 have hc5:((c % 5:Nat):Int) < 5:=by omega
 have HL:=Lib.hid hlen
 clear hmem hlen hbl
 generalize a % 3=am at *
 generalize hbm:b % l.length=bm at *
 generalize hme:1+bm=me at *
 generalize c % 5=cm at *
 clear hbm hme
 generalize hst:phs.getD cm 0=st at *
 have HST:=Lib.hid hst
 clear hst
 have pn:ones #[.int .u8 a,.int .u8 b,.int .u8 c]=true:=by simp [ones,ack]
 have b1:obj ((W.alloc (.cells #[.int .u8 a,.int .u8 b,.int .u8 c] 22 (0,0))).alloc (.cells #[.int .i64 0,.int .i64 0,.int .i64 0,.int .i64 0,.int .i64 0,.slice none 0 0,.slice none 0 0] 28 (0,0))) W.heap.size=some (.cells #[.int .u8 a,.int .u8 b,.int .u8 c] 22 (0,0)):=a02 (a03 _ _ _ rfl) _
 have z2:obj ((W.alloc (.cells #[.int .u8 a,.int .u8 b,.int .u8 c] 22 (0,0))).alloc (.cells #[.int .i64 0,.int .i64 0,.int .i64 0,.int .i64 0,.int .i64 0,.slice none 0 0,.slice none 0 0] 28 (0,0))) (W.heap.size+1)=some (.cells #[.int .i64 0,.int .i64 0,.int .i64 0,.int .i64 0,.int .i64 0,.slice none 0 0,.slice none 0 0] 28 (0,0)):=a03 _ _ _ (by simp)
 have w1B:Below W.heap.size W ((W.alloc (.cells #[.int .u8 a,.int .u8 b,.int .u8 c] 22 (0,0))).alloc (.cells #[.int .i64 0,.int .i64 0,.int .i64 0,.int .i64 0,.int .i64 0,.slice none 0 0,.slice none 0 0] 28 (0,0))):=((Below.refl _ _).alloc (Nat.le_refl _) _).alloc (by simp) _
 have n0:=a01 b1 0
 go_enter Tryz.func6,Tryz.ntmps6
 repeat' (first | go_skip | go_guarded | go_step | go_upon)
 clear n0
 generalize ((W.alloc (.cells #[.int .u8 a,.int .u8 b,.int .u8 c] 22 (0,0))).alloc (.cells #[.int .i64 0,.int .i64 0,.int .i64 0,.int .i64 0,.int .i64 0,.slice none 0 0,.slice none 0 0] 28 (0,0)))=w1 at *
 have lb1:=a04 b1
 refine agn 14 [([],fun v _=>v=.int .i64 l.length),
   ([],fun v _=>v=.pointer (some ⟨W.heap.size,1,none⟩)),
   ([1],fun v _=>v=.int .u8 b),
   ([2],fun v _=>v=.int .i64 b),
   ([],fun v _=>v=.int .i64 l.length),
   ([3,4],fun v _=>v=.int .i64 bm),
   ([5],fun v _=>v=.int .i64 me),
   ([],fun v W' => ∃ g,v=.slice (some ⟨g,0,none⟩) 5 5∧obj W' g=some (.cells #[.int .i64 0,.int .i64 2,.int .i64 3,.int .i64 4,.int .i64 5] 3 (0,0))),
   ([],fun v _=>v=.pointer (some ⟨W.heap.size,2,none⟩)),
   ([8],fun v _=>v=.int .u8 c),
   ([9],fun v _=>v=.int .u8 cm),
   ([7,10],fun v W' => ∃ g,v=.pointer (some ⟨g,cm,none⟩)∧obj W' g=some (.cells #[.int .i64 0,.int .i64 2,.int .i64 3,.int .i64 4,.int .i64 5] 3 (0,0))),
   ([11],fun v _=>v=.int .i64 st),
   ([0,6,12],fun v W' => ∃ w,v=.agg (ownRow me 4 0 90 st w (.slice none 0 0))∧a0h 0 W' w l)] (by kernel_rfl) (by kernel_rfl) ?st ⟨?o0,?o1,?o2,?o3,?o4,?o5,?o6,?o7,?o8,?o9,?o10,?o11,?o12,?o13,trivial⟩ ?tl
 case st =>
  intro k v W1 W2 h hb
  rcases k with _ | _ | _ | _ | _ | _ | _ | _ | _ | _ | _ | _ | _ | _ | k
  ·exact h
  ·exact h
  ·exact h
  ·exact h
  ·exact h
  ·exact h
  ·exact h
  ·obtain ⟨g,h1,h2⟩:=h;exact ⟨g,h1,a1w h2 hb⟩
  ·exact h
  ·exact h
  ·exact h
  ·obtain ⟨g,h1,h2⟩:=h;exact ⟨g,h1,a1w h2 hb⟩
  ·exact h
  ·obtain ⟨w,h1,h2⟩:=h;exact ⟨w,h1,h2.below hb⟩
  ·trivial
 case o0 =>
  intro vs Wq hW hk
  clear hk
  dsimp only [a9l,List.take]
  simp only [Act.put,List.setIfInBounds_toArray,List.set_cons_succ,List.set_cons_zero]
  repeat' (first | go_skip | go_guarded | go_step | go_upon)
  exact a5s (.int .i64 l.length) rfl (by go_simp) (Below.refl _ _) rfl
 case o1 =>
  intro vs Wq hW hk
  clear hk
  dsimp only [a9l,List.take]
  simp only [Act.put,List.setIfInBounds_toArray,List.set_cons_succ,List.set_cons_zero]
  repeat' (first | go_skip | go_guarded | go_step | go_upon)
  exact a5s (.pointer (some ⟨W.heap.size,1,none⟩)) rfl (by go_simp) (Below.refl _ _) rfl
 case o2 =>
  intro vs Wq hW hk
  have g1:vs 1=.pointer (some ⟨W.heap.size,1,none⟩):=hk.1
  clear hk
  dsimp only [a9l,List.take]
  simp only [Act.put,List.setIfInBounds_toArray,List.set_cons_succ,List.set_cons_zero]
  rw [g1]
  have cN:=a01 (a00 b1 hW lb1) 1
  repeat' (first | go_skip | go_guarded | go_step | go_upon)
  exact a5s (.int .u8 b) rfl (by go_simp) (Below.refl _ _) rfl
 case o3 =>
  intro vs Wq hW hk
  have g2:vs 2=.int .u8 b:=hk.1
  clear hk
  dsimp only [a9l,List.take]
  simp only [Act.put,List.setIfInBounds_toArray,List.set_cons_succ,List.set_cons_zero]
  rw [g2]
  repeat' (first | go_skip | go_guarded | go_step | go_upon)
  exact a5s (.int .i64 b) rfl (by go_simp) (Below.refl _ _) rfl
 case o4 =>
  intro vs Wq hW hk
  clear hk
  dsimp only [a9l,List.take]
  simp only [Act.put,List.setIfInBounds_toArray,List.set_cons_succ,List.set_cons_zero]
  repeat' (first | go_skip | go_guarded | go_step | go_upon)
  exact a5s (.int .i64 l.length) rfl (by go_simp) (Below.refl _ _) rfl
 case o5 =>
  intro vs Wq hW hk
  have g3:vs 3=.int .i64 b:=hk.1
  have g4:vs 4=.int .i64 l.length:=hk.2.1
  clear hk
  dsimp only [a9l,List.take]
  simp only [Act.put,List.setIfInBounds_toArray,List.set_cons_succ,List.set_cons_zero]
  rw [g3,g4]
  repeat' (first | go_skip | go_guarded | go_step | go_upon)
  exact a5s (.int .i64 bm) rfl (by go_simp) (Below.refl _ _) rfl
 case o6 =>
  intro vs Wq hW hk
  have g5:vs 5=.int .i64 bm:=hk.1
  clear hk
  dsimp only [a9l,List.take]
  simp only [Act.put,List.setIfInBounds_toArray,List.set_cons_succ,List.set_cons_zero]
  rw [g5]
  repeat' (first | go_skip | go_guarded | go_step | go_upon)
  exact a5s (.int .i64 me) rfl (by go_simp) (Below.refl _ _) rfl
 case o7 =>
  intro vs Wq hW hk
  clear hk
  dsimp only [a9l,List.take]
  simp only [Act.put,List.setIfInBounds_toArray,List.set_cons_succ,List.set_cons_zero]
  repeat' (first | (go_at_call 23;((with_reducible refine (phases_calls).mono ?_));rintro e w7 ⟨rfl,rfl⟩;dsimp only) | go_skip | go_guarded | go_step | go_upon)
  exact a5s (.slice (some ⟨Wq.heap.size,0,none⟩) 5 5) rfl (by go_simp) ((Below.refl _ _).alloc (Nat.le_refl _) _) ⟨_,rfl,a03 _ _ _ rfl⟩
 case o8 =>
  intro vs Wq hW hk
  clear hk
  dsimp only [a9l,List.take]
  simp only [Act.put,List.setIfInBounds_toArray,List.set_cons_succ,List.set_cons_zero]
  repeat' (first | go_skip | go_guarded | go_step | go_upon)
  exact a5s (.pointer (some ⟨W.heap.size,2,none⟩)) rfl (by go_simp) (Below.refl _ _) rfl
 case o9 =>
  intro vs Wq hW hk
  have g8:vs 8=.pointer (some ⟨W.heap.size,2,none⟩):=hk.1
  clear hk
  dsimp only [a9l,List.take]
  simp only [Act.put,List.setIfInBounds_toArray,List.set_cons_succ,List.set_cons_zero]
  rw [g8]
  have cN:=a01 (a00 b1 hW lb1) 2
  repeat' (first | go_skip | go_guarded | go_step | go_upon)
  exact a5s (.int .u8 c) rfl (by go_simp) (Below.refl _ _) rfl
 case o10 =>
  intro vs Wq hW hk
  have g9:vs 9=.int .u8 c:=hk.1
  clear hk
  dsimp only [a9l,List.take]
  simp only [Act.put,List.setIfInBounds_toArray,List.set_cons_succ,List.set_cons_zero]
  rw [g9]
  repeat' (first | go_skip | go_guarded | go_step | go_upon)
  exact a5s (.int .u8 cm) rfl (by go_simp) (Below.refl _ _) rfl
 case o11 =>
  intro vs Wq hW hk
  have g7:(fun v W' => ∃ g,v=.slice (some ⟨g,0,none⟩) 5 5∧obj W' g=some (.cells #[.int .i64 0,.int .i64 2,.int .i64 3,.int .i64 4,.int .i64 5] 3 (0,0))) (vs 7) Wq:=hk.1
  have g7v:=g7.choose_spec.1;have g7c:=g7.choose_spec.2;generalize g7.choose=pg at g7v g7c;clear g7
  have g10:vs 10=.int .u8 cm:=hk.2.1
  clear hk
  dsimp only [a9l,List.take]
  simp only [Act.put,List.setIfInBounds_toArray,List.set_cons_succ,List.set_cons_zero]
  rw [g7v,g10]
  repeat' (first | go_skip | go_guarded | go_step | go_upon)
  exact a5s (.pointer (some ⟨pg,cm,none⟩)) rfl (by go_simp) (Below.refl _ _) ⟨pg,rfl,g7c⟩
 case o12 =>
  intro vs Wq hW hk
  have g11:(fun v W' => ∃ g,v=.pointer (some ⟨g,cm,none⟩)∧obj W' g=some (.cells #[.int .i64 0,.int .i64 2,.int .i64 3,.int .i64 4,.int .i64 5] 3 (0,0))) (vs 11) Wq:=hk.1
  have g11v:=g11.choose_spec.1;have g11c:=g11.choose_spec.2;generalize g11.choose=pg at g11v g11c;clear g11
  clear hk
  dsimp only [a9l,List.take]
  simp only [Act.put,List.setIfInBounds_toArray,List.set_cons_succ,List.set_cons_zero]
  rw [g11v]
  have hPH:=phases_at g11c HCM.out
  rw [HST.out] at hPH
  repeat' (first | go_skip | go_guarded | go_step | go_upon)
  exact a5s (.int .i64 st) rfl (by go_simp) (Below.refl _ _) rfl
 case o13 =>
  intro vs Wq hW hk
  have g0:vs 0=.int .i64 l.length:=hk.1
  have g6:vs 6=.int .i64 me:=hk.2.1
  have g12:vs 12=.int .i64 st:=hk.2.2.1
  clear hk
  dsimp only [a9l,List.take]
  simp only [Act.put,List.setIfInBounds_toArray,List.set_cons_succ,List.set_cons_zero]
  rw [g0,g6,g12]
  repeat' (first | (go_at_call 18;((with_reducible refine (rown_calls hl hm hph).mono ?_));rintro e w7 ⟨w,rfl,hw,hb7⟩;dsimp only) | go_skip | go_guarded | go_step | go_upon)
  exact a5s (.agg (ownRow me 4 0 90 st w (.slice none 0 0))) rfl (by go_simp) hb7 ⟨w,rfl,hw⟩
 case tl =>
  intro vs W2 hW2 hk
  have h13:=hk 13 (by decide)
  have hv:=h13.choose_spec.1
  have hc:=h13.choose_spec.2
  generalize h13.choose=ow at hv hc
  clear h13 hk
  dsimp only [a9l,List.take,List.drop]
  simp only [Act.put,List.setIfInBounds_toArray,List.set_cons_succ,List.set_cons_zero]
  rw [hv]
  generalize vs 0=u0,vs 1=u1,vs 2=u2,vs 3=u3,vs 4=u4,vs 5=u5,vs 6=u6,vs 7=u7,vs 8=u8,vs 9=u9,vs 10=u10,vs 11=u11,vs 12=u12
  clear hv
  have z22:=a00 z2 hW2 (a04 z2)
  have jB:=w1B.trans (hW2.mono w1B.size)
  have po:=a1y me 4 0 90 st (a0v hc) (show (Value.slice none 0 0).oneCell' = true from rfl)
  repeat' (first | go_skip | go_guarded | go_step | go_upon)
  refine bodyPost_ret (results_cell_row rfl _ _ (W.heap.size+1) 28 (ownRow me 4 0 90 st ow (.slice none 0 0)) _ _ rfl (setRow_heap _ _ _ _ _ _ z22) Tryz.underlying28 rfl (by kernel_rfl)) rfl ?_
  exact ⟨l,me,_,ow,hl,hm,hph,rfl,a2m hc z22 (by decide) (fun y hy=>setRow_other _ _ _ _ hy),below_setRow jB (by omega) _⟩
end Go.Proofs.YtopgdlblfieljaaGreatDoor
