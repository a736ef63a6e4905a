/-
  ReserveRefusals walked.
-/
import Derived.Test.YtlnlbdfokmhelaaGreatDoorPkGr
set_option linter.unusedSectionVars false
set_option linter.constructorNameAsVariable false
set_option linter.unusedVariables false
set_option linter.unusedSimpArgs false
namespace Go.Proofs.YtlnlbdfokmhelaaGreatDoor
open Go.RowKit Go.CE.V Go.Rv
set_option maxRecDepth 20000
set_option maxHeartbeats 4000000
attribute [local irreducible] wpQuiet
theorem boz {W:World} {kv:Value} {row:Array Value} {me:Nat} {own:List Nat} {ph:Nat} {ps:List (LN×Nat)} {x:LN} {q:Nat} {body:Value} (hl:own∈b95) (hme:me∈own) (ho:bip W row me 4 0 90 own ph ps) (hz:ps.length≤900) (hk:bcf W kv) (hx:LOk x q) (hbd:Sl 0 W body 5 ((LN.enc x).map fun c=>B8 c.toNat)) (hT:Tab W) (h0w:0 < W.heap.size)
  (hY:YP own 2 0 x) (hG:Go.Rv.Good (bb7 4 0 90 own) ⟨ph,ps.map (·.1)⟩) (hp:ph=2∨ph=4) :
  Calls Tryz.prog 33 #[.agg row,kv,.agg (aj7 x q body).row] W fun e W' => ∃ b94 ps2,e=.returned (.tuple #[.agg b94,.int .i64 0])∧b94.size=7∧b94.extract 0 7=b94∧ones b94=true∧bip W' b94 me 4 0 90 own 4 ps2∧ps2.length≤ps.length+1∧Below W.heap.size W W':=by
 obtain ⟨hk10,hf,hc⟩:=hY.ref rfl rfl
 have hm:=hY.mtg rfl
 have ha:(bb7 4 0 90 own).answer x=true:=by
  unfold b9c.answer b9c.bh2 bb7
  simp [hk10,hf,hc,hm]
 obtain ⟨h1,h2⟩:=bIq (p:=bb7 4 0 90 own) (s:=⟨ph,ps.map (·.1)⟩) hG hp hk10 ha
 refine (bn4 hl hme ho hz hk hx hbd hT h0w).mono fun e W' ⟨b94,m2,he,r1,r2,r3,hd,hb⟩=>?_
 rcases hd with ⟨rfl,ph',ps',q1,q2,_,q4⟩ | ⟨_,q,_⟩
 ·unfold b9c.step at q4
  rw [if_pos h1] at q4
  rw [q4] at h2
  dsimp only at h2
  subst h2
  exact ⟨b94,ps',he,r1,r2,r3,q1,q2,hb⟩
 ·exact absurd h1 q
theorem bMv {W:World} {row:Array Value} {lv:Value} {me:Nat} {own:List Nat} {ps:List (LN×Nat)} {xs:List LN} (hl:own∈b95) (hme:me∈own) (ho:bip W row me 4 0 90 own 4 ps) (hz:ps.length≤400) (hx:b9w 0 W lv xs) (hxz:xs.length≤400) (hok:∀ i,i < xs.length→bg7 (xs.getD i aum)) (hT:Tab W) (h0w:0 < W.heap.size) :
  Calls Tryz.prog 30 #[.agg row,lv] W fun e W' => ∃ row',e=.returned (.agg row')∧row'.size=7∧row'.extract 0 7=row'∧ones row' = true∧row'[4]? = some (.int .i64 4)∧Below W.heap.size W W':=by
 refine (bca hl hme ho hz hx hxz hok hT h0w).mono fun e W' ⟨row',ph',ps',he,hP,_,hF,hb⟩=>?_
 have h4:=c3i (p:=bb7 4 0 90 own) (s:=⟨4,ps.map (·.1)⟩) rfl xs
 rw [hF] at h4
 dsimp only at h4
 subst h4
 obtain ⟨q1,q2,q3,q4⟩:=b8z hP
 exact ⟨row',he,q1,q2,q3,q4,hb⟩
theorem raw2 (k f t z:Nat):((aBl k f t z).setIfInBounds 0 (.int .u8 2)).setIfInBounds 3 (.int .u8 0)=aBl 2 f t 0:=rfl
theorem bny (k f t z:Nat):(aBl k f t z)[1]? = some (.int .u8 f):=rfl
theorem bnu {n k f t z:Nat} (hn:n < 256) (hf:f < 256) (ht:t < 256) {W:World} {av bv:Value} {m n2:Nat} (hR0:bhw W av m) (hR1:bhw W bv n2) (hT:bph W) :
  Calls Tryz.prog 6 #[.int .u8 n,.agg #[av,bv],.agg (aBl k f t z)] W fun e W'=>e=.returned (.bool true)∧Below W.heap.size W W':=by
 have h0w:=hT.pos
 have HR0:=Lib.hid hR0
 have HR1:=Lib.hid hR1
 have HTW:=Lib.hid (fun W' (hb:Below W.heap.size W W')=>And.intro (hT.below hb) (And.intro (hT.below hb).tab (hT.below hb).pos))
 obtain ⟨_,ra,rc,rfl,_,_⟩:=hR0
 obtain ⟨_,sa,sc,rfl,_,_⟩:=hR1
 have oR:=bnx k f t z
 have zR:=bnw k f t z
 have aR:(aBl k f t z).extract 0 4=aBl k f t z:=extract_all _ _ rfl
 have ww:IntKind.wrap .i64 (f:Int)=(f:Int):=by rw [IntKind.wrap_i64];omega
 have b4:obj ((W.alloc (.cells #[.slice ra m rc,.slice sa n2 sc] 69 (0,0))).alloc (.cells (aBl k f t z) 71 (0,0))) W.heap.size=some (.cells #[.slice ra m rc,.slice sa n2 sc] 69 (0,0)):=ab6 (aff _ _ _ rfl) _
 have b5:obj ((W.alloc (.cells #[.slice ra m rc,.slice sa n2 sc] 69 (0,0))).alloc (.cells (aBl k f t z) 71 (0,0))) (W.heap.size+1)=some (.cells (aBl k f t z) 71 (0,0)):=aff _ _ _ (by simp)
 have j0:Below W.heap.size W ((W.alloc (.cells #[.slice ra m rc,.slice sa n2 sc] 69 (0,0))).alloc (.cells (aBl k f t z) 71 (0,0))):=((Below.refl _ _).alloc (Nat.le_refl _) _).alloc (by simp) _
 clear hT
 go_enter Tryz.func6,Tryz.ntmps6
 repeat' (first | go_skip | go_guarded | go_step | go_upon)
 generalize ((W.alloc (.cells #[.slice ra m rc,.slice sa n2 sc] 69 (0,0))).alloc (.cells (aBl k f t z) 71 (0,0)))=w0 at *
 have bS6:=Lib.hid (be9 w0 (HTW.out w0 j0).1)
 repeat' (first | (go_at_call 27;((with_reducible refine (bS6.out).mono ?_));rintro e w1 ⟨rfl,hb1⟩;dsimp only) | (go_at_call 28;((with_reducible refine (bhk hn _).mono ?_));rintro e w2 ⟨own,v,hl,rfl,hv,hb2⟩;obtain ⟨ob,oo,oc,c5d,rfl,ho1,hoc,ho2⟩:=bj7 hv (aZ2 hl);have HV:=Lib.hid hv;clear hv ho2;have po:=b8r 4 0 90 (show (Value.slice (some ⟨ob,oo,none⟩) own.length oc).oneCell' = true from rfl);dsimp only) | go_skip | go_guarded | go_step | go_upon)
 have h0:=aZ2 hl
 have hlen:0 < own.length:=List.length_pos_iff.2 h0
 have jB0:Below w0.heap.size w0 (w2.alloc (.cells (ah6 4 0 90 (.slice (some ⟨ob,oo,none⟩) own.length oc)) 61 (0,0))):=(hb1.trans (hb2.mono hb1.size)).alloc (hb1.trans (hb2.mono hb1.size)).size _
 have p0:obj (w2.alloc (.cells (ah6 4 0 90 (.slice (some ⟨ob,oo,none⟩) own.length oc)) 61 (0,0))) w2.heap.size=some (.cells (ah6 4 0 90 (.slice (some ⟨ob,oo,none⟩) own.length oc)) 61 (0,0)):=aff _ _ _ rfl
 have hvw:as1 0 (w2.alloc (.cells (ah6 4 0 90 (.slice (some ⟨ob,oo,none⟩) own.length oc)) 61 (0,0))) (.slice (some ⟨ob,oo,none⟩) own.length oc) own:=HV.out.below ((Below.refl _ _).alloc (Nat.le_refl _) _)
 clear HV ho1 hb1 hb2 bS6
 generalize w2.alloc (.cells (ah6 4 0 90 (.slice (some ⟨ob,oo,none⟩) own.length oc)) 61 (0,0))=w3 at *
 generalize w2.heap.size=pb at *
 have HVW:=Lib.hid hvw
 clear hvw
 have jB:=j0.trans (jB0.mono j0.size)
 have q4:obj w3 W.heap.size=some (.cells #[.slice ra m rc,.slice sa n2 sc] 69 (0,0)):=aq7 b4 jB0
 have q5:obj w3 (W.heap.size+1)=some (.cells (aBl k f t z) 71 (0,0)):=aq7 b5 jB0
 clear b4 b5 jB0 j0
 have c30:Int.tmod (f:Int) (own.length:Int)=((f % own.length:Nat):Int):=by
  rw [Int.tmod_eq_emod_of_nonneg (by omega)];rfl
 have hi0:f % own.length < own.length:=Nat.mod_lt _ hlen
 generalize f % own.length=fi at *
 have hl0:(own.length:Int)≠0:=by omega
 have hme:own.getD fi 0∈own:=by rw [List.getD_eq_getElem?_getD,List.getElem?_eq_getElem hi0];exact List.getElem_mem hi0
 have HG:=Lib.hid (fun W' (hb:Below w3.heap.size w3 W')=>bdk hl hi0 (HTW.out W' (jB.trans (hb.mono jB.size))).1 (HVW.out.below hb))
 generalize own.getD fi 0=me at *
 have q0:obj w3.drew pb=_:=p0
 have q3:=(abm q0 3).trans (bcz _ _ _ _)
 have r0:=ab6 q0 (.cells #[.int .i64 0,.int .i64 0,.int .i64 0,.int .i64 0,.int .i64 0,.slice none 0 0,.slice none 0 0] 28 (0,0))
 have r0':=ab6 p0 (.cells #[.int .i64 0,.int .i64 0,.int .i64 0,.int .i64 0,.int .i64 0,.slice none 0 0,.slice none 0 0] 28 (0,0))
 have r3:=(abm r0 3).trans (bcz _ _ _ _)
 have r3':=(abm r0' 3).trans (bcz _ _ _ _)
 have y0:obj w3.drew (W.heap.size+1)=_:=q5
 have y1:=(abm y0 1).trans (bny _ _ _ _)
 have y2:=(abm (ab6 y0 (.cells #[.int .i64 0,.int .i64 0,.int .i64 0,.int .i64 0,.int .i64 0,.slice none 0 0,.slice none 0 0] 28 (0,0))) 1).trans (bny _ _ _ _)
 have y3:=(abm (ab6 q5 (.cells #[.int .i64 0,.int .i64 0,.int .i64 0,.int .i64 0,.int .i64 0,.slice none 0 0,.slice none 0 0] 28 (0,0))) 1).trans (bny _ _ _ _)
 have jD:Below w3.heap.size w3 w3.drew:=(Below.refl _ _).drew
 have jD2:=jD.alloc jD.size (.cells #[.int .i64 0,.int .i64 0,.int .i64 0,.int .i64 0,.int .i64 0,.slice none 0 0,.slice none 0 0] 28 (0,0))
 have nz:obj (w3.drew.alloc (.cells #[.int .i64 0,.int .i64 0,.int .i64 0,.int .i64 0,.int .i64 0,.slice none 0 0,.slice none 0 0] 28 (0,0))) w3.heap.size=some (.cells #[.int .i64 0,.int .i64 0,.int .i64 0,.int .i64 0,.int .i64 0,.slice none 0 0,.slice none 0 0] 28 (0,0)):=aff _ _ _ rfl
 have lp:=ah1 p0
 have r4:obj (w3.alloc (.cells #[.int .i64 0,.int .i64 0,.int .i64 0,.int .i64 0,.int .i64 0,.slice none 0 0,.slice none 0 0] 28 (0,0))).drew pb=some (.cells (ah6 4 0 90 (.slice (some ⟨ob,oo,none⟩) own.length oc)) 61 (0,0)):=r0'
 have y4:obj (w3.alloc (.cells #[.int .i64 0,.int .i64 0,.int .i64 0,.int .i64 0,.int .i64 0,.slice none 0 0,.slice none 0 0] 28 (0,0))).drew (W.heap.size+1)=some (.cells (aBl k f t z) 71 (0,0)):=ab6 q5 (.cells #[.int .i64 0,.int .i64 0,.int .i64 0,.int .i64 0,.int .i64 0,.slice none 0 0,.slice none 0 0] 28 (0,0))
 have y5:=(abm y4 1).trans (bny _ _ _ _)
 have nz4:obj (w3.alloc (.cells #[.int .i64 0,.int .i64 0,.int .i64 0,.int .i64 0,.int .i64 0,.slice none 0 0,.slice none 0 0] 28 (0,0))).drew w3.heap.size=some (.cells #[.int .i64 0,.int .i64 0,.int .i64 0,.int .i64 0,.int .i64 0,.slice none 0 0,.slice none 0 0] 28 (0,0)):=aff _ _ _ rfl
 have jD4:Below w3.heap.size w3 (w3.alloc (.cells #[.int .i64 0,.int .i64 0,.int .i64 0,.int .i64 0,.int .i64 0,.slice none 0 0,.slice none 0 0] 28 (0,0))).drew:=((Below.refl _ _).alloc (Nat.le_refl _) (.cells #[.int .i64 0,.int .i64 0,.int .i64 0,.int .i64 0,.int .i64 0,.slice none 0 0,.slice none 0 0] 28 (0,0))).drew
 clear y0 y4
 go_cut [9,10,11] from 18 to 30 (fun v9 v10 v11 wx => ∃ g w,v9=.pointer (some ⟨g,0,none⟩)∧v11=.bool true∧obj wx g=some (.cells (ownRow me 4 0 90 2 w (.slice none 0 0)) 28 (0,0))∧as1 0 wx w own∧obj wx pb=some (.cells (ah6 4 0 90 (.slice (some ⟨ob,oo,none⟩) own.length oc)) 61 (0,0))∧Below w3.heap.size w3 wx)
 case first =>
  go_region_law ((go_simp;go_at_call 29;((with_reducible refine (HG.out _ (by assumption)).mono ?_));rintro e w4 ⟨w,s,rfl,hcw,hb4⟩;have t0:obj w4 pb=some (.cells (ah6 4 0 90 (.slice (some ⟨ob,oo,none⟩) own.length oc)) 61 (0,0)):=aq7 (by assumption) hb4;have jE:Below w3.heap.size w3 w4:=b8o (by assumption) hb4;have po4:=aRj me 4 0 90 2 (azh hcw) (show (Value.slice none 0 0).oneCell' = true from rfl);(try have n14:=aq7 nz hb4);(try have n14:=aq7 nz4 hb4);have HCW:=Lib.hid hcw;clear hcw;dsimp only))
  all_goals (repeat' go_step)
  all_goals go_meet
  all_goals first
   | exact ⟨_,w,rfl,rfl,aff _ _ _ rfl,HCW.out.below ((Below.refl _ _).alloc (Nat.le_refl _) _),ab6 t0 _,jE.alloc jE.size _⟩
   | exact ⟨_,w,rfl,rfl,(by rw [ajb,n14];rfl),aZ3 HCW.out n14 (by decide) (fun y hy=>setRow_other _ _ _ _ hy),(setRow_other _ _ _ _ (by omega)).trans t0,below_setRow jE (by omega) _⟩
 case rest =>
  obtain ⟨g,w,rfl,rfl,e0,hcw,e1,jx⟩:=hcut
  have jW:=jB.trans (jx.mono jB.size)
  have HOW:=Lib.hid (bk5 (me:=me) hcw)
  have HRW:=Lib.hid (fun W' (hb:Below wc.heap.size wc W')=>bba hl ((HVW.out.below jx).below hb) (HR0.out.below (jW.trans (hb.mono jW.size))))
  have HTX:=Lib.hid (fun W' (hb:Below wc.heap.size wc W')=>HTW.out W' (jW.trans (hb.mono jW.size)))
  have HFD:=Lib.hid (fun W' lv ys (hb:Below wc.heap.size wc W') (hx:b9w 0 W' lv ys) (hz:ys.length≤10) (hok:∀ i,i < ys.length→bg7 (ys.getD i aum))=>bca hl hme (HOW.out.below hb) (by simp) hx (by omega) hok (HTX.out W' hb).2.1 (HTX.out W' hb).2.2)
  have po2:=aRj me 4 0 90 2 (azh hcw) (show (Value.slice none 0 0).oneCell' = true from rfl)
  have e4:=aq7 q4 jx
  have e5:=aq7 q5 jx
  have HV4:=Lib.hid (HVW.out.below jx)
  clear hcw HG q3 r3 r3' q0 r0 r0' r4 nz nz4 jD jD2 jD4 y1 y2 y3 y5 q4 q5
  repeat' (first | go_skip | go_guarded | go_step | go_upon)
  have q0:obj wc.drew g=_:=e0
  have q1:obj wc.drew pb=_:=e1
  have q4:obj wc.drew W.heap.size=_:=e4
  have r0:=ab6 q0 (.cells #[.int .i64 0,.int .i64 0,.int .i64 0,.int .i64 0,.int .i64 0,.slice none 0 0,.slice none 0 0] 28 (0,0))
  have r1:=ab6 q1 (.cells #[.int .i64 0,.int .i64 0,.int .i64 0,.int .i64 0,.int .i64 0,.slice none 0 0,.slice none 0 0] 28 (0,0))
  have x0:=(abm q4 0).trans (show (#[Value.slice ra m rc,.slice sa n2 sc]:Array Value)[0]? = some (.slice ra m rc) from rfl)
  have x1:=(abm (ab6 q4 (.cells #[.int .i64 0,.int .i64 0,.int .i64 0,.int .i64 0,.int .i64 0,.slice none 0 0,.slice none 0 0] 28 (0,0))) 0).trans (show (#[Value.slice ra m rc,.slice sa n2 sc]:Array Value)[0]? = some (.slice ra m rc) from rfl)
  have x2:=(abm (ab6 e4 (.cells #[.int .i64 0,.int .i64 0,.int .i64 0,.int .i64 0,.int .i64 0,.slice none 0 0,.slice none 0 0] 28 (0,0))) 0).trans (show (#[Value.slice ra m rc,.slice sa n2 sc]:Array Value)[0]? = some (.slice ra m rc) from rfl)
  have r0':obj (wc.alloc (.cells #[.int .i64 0,.int .i64 0,.int .i64 0,.int .i64 0,.int .i64 0,.slice none 0 0,.slice none 0 0] 28 (0,0))).drew g=_:=ab6 e0 (.cells #[.int .i64 0,.int .i64 0,.int .i64 0,.int .i64 0,.int .i64 0,.slice none 0 0,.slice none 0 0] 28 (0,0))
  have r1':obj (wc.alloc (.cells #[.int .i64 0,.int .i64 0,.int .i64 0,.int .i64 0,.int .i64 0,.slice none 0 0,.slice none 0 0] 28 (0,0))).drew pb=_:=ab6 e1 (.cells #[.int .i64 0,.int .i64 0,.int .i64 0,.int .i64 0,.int .i64 0,.slice none 0 0,.slice none 0 0] 28 (0,0))
  have x3':obj (wc.alloc (.cells #[.int .i64 0,.int .i64 0,.int .i64 0,.int .i64 0,.int .i64 0,.slice none 0 0,.slice none 0 0] 28 (0,0))).drew W.heap.size=_:=ab6 e4 (.cells #[.int .i64 0,.int .i64 0,.int .i64 0,.int .i64 0,.int .i64 0,.slice none 0 0,.slice none 0 0] 28 (0,0))
  have x3:=(abm x3' 0).trans (show (#[Value.slice ra m rc,.slice sa n2 sc]:Array Value)[0]? = some (.slice ra m rc) from rfl)
  have bCp:=ab6 e0 (.cells #[.int .i64 0,.int .i64 0,.int .i64 0,.int .i64 0,.int .i64 0,.slice none 0 0,.slice none 0 0] 28 (0,0))
  have bCo:=ab6 e1 (.cells #[.int .i64 0,.int .i64 0,.int .i64 0,.int .i64 0,.int .i64 0,.slice none 0 0,.slice none 0 0] 28 (0,0))
  have jD:Below wc.heap.size wc wc.drew:=(Below.refl _ _).drew
  have jD2:=jD.alloc jD.size (.cells #[.int .i64 0,.int .i64 0,.int .i64 0,.int .i64 0,.int .i64 0,.slice none 0 0,.slice none 0 0] 28 (0,0))
  have jD4:Below wc.heap.size wc (wc.alloc (.cells #[.int .i64 0,.int .i64 0,.int .i64 0,.int .i64 0,.int .i64 0,.slice none 0 0,.slice none 0 0] 28 (0,0))).drew:=((Below.refl _ _).alloc (Nat.le_refl _) (.cells #[.int .i64 0,.int .i64 0,.int .i64 0,.int .i64 0,.int .i64 0,.slice none 0 0,.slice none 0 0] 28 (0,0))).drew
  have nz:obj (wc.drew.alloc (.cells #[.int .i64 0,.int .i64 0,.int .i64 0,.int .i64 0,.int .i64 0,.slice none 0 0,.slice none 0 0] 28 (0,0))) wc.heap.size=some (.cells #[.int .i64 0,.int .i64 0,.int .i64 0,.int .i64 0,.int .i64 0,.slice none 0 0,.slice none 0 0] 28 (0,0)):=aff _ _ _ rfl
  have nz4:obj (wc.alloc (.cells #[.int .i64 0,.int .i64 0,.int .i64 0,.int .i64 0,.int .i64 0,.slice none 0 0,.slice none 0 0] 28 (0,0))).drew wc.heap.size=some (.cells #[.int .i64 0,.int .i64 0,.int .i64 0,.int .i64 0,.int .i64 0,.slice none 0 0,.slice none 0 0] 28 (0,0)):=aff _ _ _ rfl
  have lg:=ah1 e0
  have lp2:=ah1 e1
  clear q4 x3'
  go_cut [12] from 31 to 36 (fun v12 wx => ∃ g2 b94 ph2 ps2 ys,v12=.pointer (some ⟨g2,0,none⟩)∧wc.heap.size≤g2∧obj wx g2=some (.cells b94 28 (0,0))∧bip wx b94 me 4 0 90 own ph2 ps2∧ps2.length≤10∧(bb7 4 0 90 own).fed ⟨2,[]⟩ ys=⟨ph2,ps2.map (·.1)⟩∧obj wx pb=some (.cells (ah6 4 0 90 (.slice (some ⟨ob,oo,none⟩) own.length oc)) 61 (0,0))∧Below wc.heap.size wc wx)
  case first =>
   go_region_law (first | ((go_simp;go_at_call 31;((with_reducible refine (HRW.out _ (by assumption)).mono ?_));rintro e w5 ⟨lv,ys,rfl,hlv,hyz,hyo,hb5⟩;have s0:obj w5 g=some (.cells (ownRow me 4 0 90 2 w (.slice none 0 0)) 28 (0,0)):=aq7 (by assumption) hb5;have s1:obj w5 pb=some (.cells (ah6 4 0 90 (.slice (some ⟨ob,oo,none⟩) own.length oc)) 61 (0,0)):=aq7 (by assumption) hb5;have jF:Below wc.heap.size wc w5:=b8o (by assumption) hb5;have u0:=ab6 s0 (.cells #[.int .i64 0,.int .i64 0,.int .i64 0,.int .i64 0,.int .i64 0,.slice none 0 0,.slice none 0 0] 28 (0,0));have u1:=ab6 s1 (.cells #[.int .i64 0,.int .i64 0,.int .i64 0,.int .i64 0,.int .i64 0,.slice none 0 0,.slice none 0 0] 28 (0,0));have jF2:=jF.alloc jF.size (.cells #[.int .i64 0,.int .i64 0,.int .i64 0,.int .i64 0,.int .i64 0,.slice none 0 0,.slice none 0 0] 28 (0,0));have hlv2:b9w 0 (w5.alloc (.cells #[.int .i64 0,.int .i64 0,.int .i64 0,.int .i64 0,.int .i64 0,.slice none 0 0,.slice none 0 0] 28 (0,0))) lv ys:=hlv.below ((Below.refl _ _).alloc (Nat.le_refl _) (.cells #[.int .i64 0,.int .i64 0,.int .i64 0,.int .i64 0,.int .i64 0,.slice none 0 0,.slice none 0 0] 28 (0,0)));have n5:obj (w5.alloc (.cells #[.int .i64 0,.int .i64 0,.int .i64 0,.int .i64 0,.int .i64 0,.slice none 0 0,.slice none 0 0] 28 (0,0))) w5.heap.size=some (.cells #[.int .i64 0,.int .i64 0,.int .i64 0,.int .i64 0,.int .i64 0,.slice none 0 0,.slice none 0 0] 28 (0,0)):=aff _ _ _ rfl;(try have n15:=aq7 nz hb5);(try have n15:=aq7 nz4 hb5);dsimp only)) | ((go_simp;go_at_call 30;((with_reducible refine (HFD.out _ _ _ (by assumption) (by assumption) hyz hyo).mono ?_));rintro e w6 ⟨b94,ph2,ps2,rfl,hP2,hz2,hF2,hb6⟩;obtain ⟨y7,ya,yo,y4⟩:=b8z hP2;have v1:obj w6 pb=some (.cells (ah6 4 0 90 (.slice (some ⟨ob,oo,none⟩) own.length oc)) 61 (0,0)):=aq7 (by assumption) hb6;have jG:Below wc.heap.size wc w6:=b8o (by assumption) hb6;(try have n56:=aq7 n5 hb6);(try have n156:=aq7 n15 hb6);have HP:=Lib.hid hP2;have HF:=Lib.hid hF2;have HZ:ps2.length≤10:=(by simp at hz2;omega);clear hP2 hF2 hz2 y4;dsimp only)))
   all_goals (repeat' go_step)
   all_goals go_meet
   all_goals first
    | exact ⟨_,b94,ph2,ps2,ys,rfl,jG.size,aff _ _ _ rfl,HP.out.below ((Below.refl _ _).alloc (Nat.le_refl _) _),HZ,HF.out,ab6 v1 _,jG.alloc jG.size _⟩
    | exact ⟨_,b94,ph2,ps2,ys,rfl,jF.size,(by rw [ajb,n56];rfl),HP.out.keep n56 (by decide) (by decide) (by decide) (fun y hy=>setRow_other _ _ _ _ hy),HZ,HF.out,(setRow_other _ _ _ _ (by have:=ah1 s1;omega)).trans v1,below_setRow jG (by have:=jF.size;omega) _⟩
    | exact ⟨_,b94,ph2,ps2,ys,rfl,Nat.le_refl _,(by rw [ajb,n156];rfl),HP.out.keep n156 (by decide) (by decide) (by decide) (fun y hy=>setRow_other _ _ _ _ hy),HZ,HF.out,(setRow_other _ _ _ _ (by omega)).trans v1,below_setRow jG (by omega) _⟩
  case rest =>
   have jB2:=jW
   clear q0 q1 r0 r1 r0' r1' bCp bCo jD jD2 jD4 nz nz4 e0 e1 HOW HRW HFD po2 x0 x1 x2 x3
   obtain ⟨g2,b94,ph2,ps2,ys,rfl,hg2,e0,hP,hz2,hF,e1,jy⟩:=hcut
   have hgW:W.heap.size < g2:=Nat.lt_of_lt_of_le (ah1 e4) hg2
   clear hg2
   rename World=>wx
   have hG:=(bmz own).fed ys
   have bVu:=Go.Rv.bCs (p:=bb7 4 0 90 own) (s:=⟨2,[]⟩) (.inl rfl) ys
   rw [hF] at hG bVu
   obtain ⟨r7,ro,rn,r4⟩:=b8z hP
   have f4:=(abm e0 4).trans r4
   have jB3:=jB2.trans (jy.mono jB2.size)
   have d4:=aq7 e4 jy
   have d5:=aq7 e5 jy
   have hv5:=HV4.out.below jy
   dsimp only at bVu
   have hdec:ph2=3∨(ph2=2∨ph2=4):=by omega
   clear hF bVu e4 e5 HV4 HVW jx jy jW
   rcases hdec with rfl | h24
   ·repeat' (first | go_skip | go_guarded | go_step | go_upon)
    go_ret
    exact ⟨rfl,jB3⟩
   ·have hne3:((ph2:Int) == 3)=false:=by
     rcases h24 with rfl | rfl<;>rfl
    have n1:g2≠W.heap.size+1:=fun e=>by
     rw [e] at e0
     have:=e0.symm.trans d5
     injection this with this
     injection this with _ h _
     exact absurd h (by decide)
    have n2':pb≠W.heap.size+1:=fun e=>by
     rw [e] at e1
     have:=e1.symm.trans d5
     injection this with this
     injection this with _ h _
     exact absurd h (by decide)
    have n3:pb≠g2:=fun e=>by
     rw [e] at e1
     have:=e1.symm.trans e0
     injection this with this
     injection this with _ h _
     exact absurd h (by decide)
    have n6:W.heap.size≠g2:=by omega
    have n7:W.heap.size≤g2:=by omega
    have z0:=azi d5 0
    have z3:=azi d5 3
    have c0k:=(abm d5 0).trans (show (aBl k f t z)[0]? = some (.int .u8 k) from rfl)
    have c3k:=(abm d5 3).trans (show (aBl k f t z)[3]? = some (.int .u8 z) from rfl)
    repeat' (first | go_skip | go_guarded | go_step | go_upon)
    have k0:∀ y,y≠W.heap.size+1→obj ((wx.setCell ⟨W.heap.size+1,0,none⟩ (.int .u8 2)).setCell ⟨W.heap.size+1,3,none⟩ (.int .u8 0)) y=obj wx y:=fun y hy=>(heap_setCell_other _ _ _ _ hy).trans (heap_setCell_other _ _ _ _ hy)
    have a5:obj ((wx.setCell ⟨W.heap.size+1,0,none⟩ (.int .u8 2)).setCell ⟨W.heap.size+1,3,none⟩ (.int .u8 0)) (W.heap.size+1)=some (.cells (aBl 2 f t 0) 71 (0,0)):=by
     rw [avb,avb,d5,← raw2 k f t z];rfl
    have a0:=(k0 g2 n1).trans e0
    have a1:=(k0 pb n2').trans e1
    have a4:=(k0 W.heap.size (by omega)).trans d4
    have aP:=hP.keep d5 (by decide) (by decide) (by decide) k0
    have aV:=aZ3 hv5 d5 (by decide) k0
    have aB:Below W.heap.size W ((wx.setCell ⟨W.heap.size+1,0,none⟩ (.int .u8 2)).setCell ⟨W.heap.size+1,3,none⟩ (.int .u8 0)):=(jB3.setCell (by simp) _).setCell (by simp) _
    clear f4 k0 z0 z3 c0k c3k e0 e1 d4 d5 hP hv5 jB3 hne3 r4
    generalize (wx.setCell ⟨W.heap.size+1,0,none⟩ (.int .u8 2)).setCell ⟨W.heap.size+1,3,none⟩ (.int .u8 0)=wy at *
    have HP:=Lib.hid aP
    have HV:=Lib.hid aV
    have HGD:=Lib.hid hG
    have H24:=Lib.hid h24
    have HT9:=Lib.hid (fun W' (hb:Below wy.heap.size wy W')=>HTW.out W' (aB.trans (hb.mono aB.size)))
    have HLT:=Lib.hid (fun W' (hb:Below wy.heap.size wy W')=>bmp (k:=2) (f:=f) (t:=t) (b:=0) hl (by omega) hf ht (by omega) (HV.out.below hb))
    have HSL:=Lib.hid (fun W' y c (hY:YP own 2 0 y) (hc:as1 0 W' c y.cs) (hb:Below wy.heap.size wy W')=>show Calls Tryz.prog 35 #[.agg (LN.let y c).row,.int .i64 50] W' (fun r W'' => ∃ body,r=.returned (.agg (aj7 y 50 body).row)∧Sl 0 W'' body 5 ((LN.enc y).map fun c=>B8 c.toNat)∧Below W'.heap.size W' W'') from bi1 (q:=50) (hY.any 50 (by omega) (by omega)) hc (HT9.out W' hb).2.1 (HT9.out W' hb).2.2)
    have HDC:=Lib.hid (fun W' kv y body (hb:Below wy.heap.size wy W') (hY:YP own 2 0 y) (hk:bcf W' kv) (hbd:Sl 0 W' body 5 ((LN.enc y).map fun c=>B8 c.toNat))=>boz (q:=50) hl hme (HP.out.below hb) (by omega) hk (hY.any 50 (by omega) (by omega)) hbd (HT9.out W' hb).2.1 (HT9.out W' hb).2.2 hY HGD.out H24.out)
    have oR2:=bnx 2 f t 0
    have zR2:=bnw 2 f t 0
    have aR2:(aBl 2 f t 0).extract 0 4=aBl 2 f t 0:=extract_all _ _ rfl
    have q0:obj wy.drew g2=_:=a0
    have q1:obj wy.drew pb=_:=a1
    have q5:obj wy.drew (W.heap.size+1)=_:=a5
    have jD:Below wy.heap.size wy wy.drew:=(Below.refl _ _).drew
    have lg2:=ah1 a0
    have lpb:=ah1 a1
    clear hG h24 aP aV oR zR aR
    go_cut [13] from 50 to 59 (fun v13 wz => ∃ row3 ps3,v13=.int .i64 0∧obj wz g2=some (.cells row3 28 (0,0))∧bip wz row3 me 4 0 90 own 4 ps3∧ps3.length≤11∧obj wz pb=some (.cells (ah6 4 0 90 (.slice (some ⟨ob,oo,none⟩) own.length oc)) 61 (0,0))∧obj wz W.heap.size=some (.cells #[.slice ra m rc,.slice sa n2 sc] 69 (0,0))∧as1 0 wz (.slice (some ⟨ob,oo,none⟩) own.length oc) own∧Below W.heap.size W wz)
    case first =>
     go_region_law (first | ((go_simp;go_at_call 34;((with_reducible refine (bdf _).mono ?_));rintro e w4 ⟨kv,rfl,hkv,hb4⟩;have m0:obj w4 g2=some (.cells b94 28 (0,0)):=aq7 (by assumption) hb4;have m1:obj w4 pb=some (.cells (ah6 4 0 90 (.slice (some ⟨ob,oo,none⟩) own.length oc)) 61 (0,0)):=aq7 (by assumption) hb4;have m5:obj w4 (W.heap.size+1)=some (.cells (aBl 2 f t 0) 71 (0,0)):=aq7 (by assumption) hb4;have jE:Below wy.heap.size wy w4:=b8o (by assumption) hb4;dsimp only)) | ((go_simp;go_at_call 36;((with_reducible refine (HLT.out _ (by assumption)).mono ?_));rintro e w5 ⟨x,c,rfl,hY,hc,hb5⟩;have s0:obj w5 g2=some (.cells b94 28 (0,0)):=aq7 (by assumption) hb5;have jF:Below wy.heap.size wy w5:=b8o (by assumption) hb5;have c9k:bcf w5 kv:=bbp.below hkv hb5;dsimp only)) | ((go_simp;go_at_call 35;((with_reducible refine (HSL.out _ _ _ hY hc jF).mono ?_));rintro e w6 ⟨body,rfl,hbd,hb6⟩;have u0:obj w6 g2=some (.cells b94 28 (0,0)):=aq7 (by assumption) hb6;have jG:Below wy.heap.size wy w6:=b8o (by assumption) hb6;have hkv6:bcf w6 kv:=bbp.below c9k hb6;dsimp only)) | ((go_simp;go_at_call 33;((with_reducible refine (HDC.out _ _ _ _ jG hY hkv6 hbd).mono ?_));rintro e w7 ⟨row3,ps3,rfl,y7,ya,yo,hP3,hz3,hb7⟩;have v0:obj w7 g2=some (.cells b94 28 (0,0)):=aq7 (by assumption) hb7;have jH:Below wy.heap.size wy w7:=b8o (by assumption) hb7;have HP3:=Lib.hid hP3;clear hP3;dsimp only)))
     all_goals (repeat' go_step)
     all_goals go_meet
     all_goals exact ⟨row3,ps3,rfl,(by rw [ajb,v0];rfl),HP3.out.keep v0 (by decide) (by decide) (by decide) (fun y hy=>setRow_other _ _ _ _ hy),(by omega),(setRow_other _ _ _ _ (by assumption)).trans (aq7 a1 jH),(setRow_other _ _ _ _ (by assumption)).trans (aq7 a4 jH),aZ3 (HV.out.below jH) v0 (by decide) (fun y hy=>setRow_other _ _ _ _ hy),below_setRow (aB.trans (jH.mono aB.size)) (by assumption) _⟩
    case rest =>
     obtain ⟨row3,ps3,rfl,e0,hP3,hz3,e1,e4,hcv,jz⟩:=hcut
     rename World=>wz
     obtain ⟨r7',ro',rn',r4'⟩:=b8z hP3
     have HP3:=Lib.hid hP3
     have HV9:=Lib.hid hcv
     have HRW:=Lib.hid (fun W' (hb:Below wz.heap.size wz W')=>bba hl (HV9.out.below hb) (HR1.out.below (jz.trans (hb.mono jz.size))))
     have HTX:=Lib.hid (fun W' (hb:Below wz.heap.size wz W')=>HTW.out W' (jz.trans (hb.mono jz.size)))
     have HFD:=Lib.hid (fun W' lv ys (hb:Below wz.heap.size wz W') (hx:b9w 0 W' lv ys) (hz:ys.length≤10) (hok:∀ i,i < ys.length→bg7 (ys.getD i aum))=>bMv hl hme (HP3.out.below hb) (by omega) hx (by omega) hok (HTX.out W' hb).2.1 (HTX.out W' hb).2.2)
     clear HP HV HGD H24 HT9 HLT HSL HDC q0 q1 q5 jD a0 a1 a4 a5 hP3 hcv r7 ro rn lg2 lpb
     repeat' (first | go_skip | go_guarded | go_step | go_upon)
     have q0:obj wz.drew g2=_:=e0
     have q1:obj wz.drew pb=_:=e1
     have q4:obj wz.drew W.heap.size=_:=e4
     have r0:=ab6 q0 (.cells #[.int .i64 0,.int .i64 0,.int .i64 0,.int .i64 0,.int .i64 0,.slice none 0 0,.slice none 0 0] 28 (0,0))
     have r1:=ab6 q1 (.cells #[.int .i64 0,.int .i64 0,.int .i64 0,.int .i64 0,.int .i64 0,.slice none 0 0,.slice none 0 0] 28 (0,0))
     have x0:=(abm q4 1).trans (show (#[Value.slice ra m rc,.slice sa n2 sc]:Array Value)[1]? = some (.slice sa n2 sc) from rfl)
     have x1:=(abm (ab6 q4 (.cells #[.int .i64 0,.int .i64 0,.int .i64 0,.int .i64 0,.int .i64 0,.slice none 0 0,.slice none 0 0] 28 (0,0))) 1).trans (show (#[Value.slice ra m rc,.slice sa n2 sc]:Array Value)[1]? = some (.slice sa n2 sc) from rfl)
     have x2:=(abm (ab6 e4 (.cells #[.int .i64 0,.int .i64 0,.int .i64 0,.int .i64 0,.int .i64 0,.slice none 0 0,.slice none 0 0] 28 (0,0))) 1).trans (show (#[Value.slice ra m rc,.slice sa n2 sc]:Array Value)[1]? = some (.slice sa n2 sc) from rfl)
     have r0':obj (wz.alloc (.cells #[.int .i64 0,.int .i64 0,.int .i64 0,.int .i64 0,.int .i64 0,.slice none 0 0,.slice none 0 0] 28 (0,0))).drew g2=_:=ab6 e0 (.cells #[.int .i64 0,.int .i64 0,.int .i64 0,.int .i64 0,.int .i64 0,.slice none 0 0,.slice none 0 0] 28 (0,0))
     have r1':obj (wz.alloc (.cells #[.int .i64 0,.int .i64 0,.int .i64 0,.int .i64 0,.int .i64 0,.slice none 0 0,.slice none 0 0] 28 (0,0))).drew pb=_:=ab6 e1 (.cells #[.int .i64 0,.int .i64 0,.int .i64 0,.int .i64 0,.int .i64 0,.slice none 0 0,.slice none 0 0] 28 (0,0))
     have x3':obj (wz.alloc (.cells #[.int .i64 0,.int .i64 0,.int .i64 0,.int .i64 0,.int .i64 0,.slice none 0 0,.slice none 0 0] 28 (0,0))).drew W.heap.size=_:=ab6 e4 (.cells #[.int .i64 0,.int .i64 0,.int .i64 0,.int .i64 0,.int .i64 0,.slice none 0 0,.slice none 0 0] 28 (0,0))
     have x3:=(abm x3' 1).trans (show (#[Value.slice ra m rc,.slice sa n2 sc]:Array Value)[1]? = some (.slice sa n2 sc) from rfl)
     have bCp:=ab6 e0 (.cells #[.int .i64 0,.int .i64 0,.int .i64 0,.int .i64 0,.int .i64 0,.slice none 0 0,.slice none 0 0] 28 (0,0))
     have bCo:=ab6 e1 (.cells #[.int .i64 0,.int .i64 0,.int .i64 0,.int .i64 0,.int .i64 0,.slice none 0 0,.slice none 0 0] 28 (0,0))
     have jD:Below wz.heap.size wz wz.drew:=(Below.refl _ _).drew
     have jD2:=jD.alloc jD.size (.cells #[.int .i64 0,.int .i64 0,.int .i64 0,.int .i64 0,.int .i64 0,.slice none 0 0,.slice none 0 0] 28 (0,0))
     have jD4:Below wz.heap.size wz (wz.alloc (.cells #[.int .i64 0,.int .i64 0,.int .i64 0,.int .i64 0,.int .i64 0,.slice none 0 0,.slice none 0 0] 28 (0,0))).drew:=((Below.refl _ _).alloc (Nat.le_refl _) (.cells #[.int .i64 0,.int .i64 0,.int .i64 0,.int .i64 0,.int .i64 0,.slice none 0 0,.slice none 0 0] 28 (0,0))).drew
     have nz:obj (wz.drew.alloc (.cells #[.int .i64 0,.int .i64 0,.int .i64 0,.int .i64 0,.int .i64 0,.slice none 0 0,.slice none 0 0] 28 (0,0))) wz.heap.size=some (.cells #[.int .i64 0,.int .i64 0,.int .i64 0,.int .i64 0,.int .i64 0,.slice none 0 0,.slice none 0 0] 28 (0,0)):=aff _ _ _ rfl
     have nz4:obj (wz.alloc (.cells #[.int .i64 0,.int .i64 0,.int .i64 0,.int .i64 0,.int .i64 0,.slice none 0 0,.slice none 0 0] 28 (0,0))).drew wz.heap.size=some (.cells #[.int .i64 0,.int .i64 0,.int .i64 0,.int .i64 0,.int .i64 0,.slice none 0 0,.slice none 0 0] 28 (0,0)):=aff _ _ _ rfl
     have lg:=ah1 e0
     clear q4 x3'
     go_cut [14] from 60 to 65 (fun v14 wq => ∃ g3 row4,v14=.pointer (some ⟨g3,0,none⟩)∧obj wq g3=some (.cells row4 28 (0,0))∧row4[4]? = some (.int .i64 4)∧obj wq g2=some (.cells row3 28 (0,0))∧Below wz.heap.size wz wq)
     case first =>
      go_region_law (first | ((go_simp;go_at_call 31;((with_reducible refine (HRW.out _ (by assumption)).mono ?_));rintro e w5 ⟨lv,ys,rfl,hlv,hyz,hyo,hb5⟩;have s0:obj w5 g2=some (.cells row3 28 (0,0)):=aq7 (by assumption) hb5;have jF:Below wz.heap.size wz w5:=b8o (by assumption) hb5;have u0:=ab6 s0 (.cells #[.int .i64 0,.int .i64 0,.int .i64 0,.int .i64 0,.int .i64 0,.slice none 0 0,.slice none 0 0] 28 (0,0));have jF2:=jF.alloc jF.size (.cells #[.int .i64 0,.int .i64 0,.int .i64 0,.int .i64 0,.int .i64 0,.slice none 0 0,.slice none 0 0] 28 (0,0));have hlv2:b9w 0 (w5.alloc (.cells #[.int .i64 0,.int .i64 0,.int .i64 0,.int .i64 0,.int .i64 0,.slice none 0 0,.slice none 0 0] 28 (0,0))) lv ys:=hlv.below ((Below.refl _ _).alloc (Nat.le_refl _) (.cells #[.int .i64 0,.int .i64 0,.int .i64 0,.int .i64 0,.int .i64 0,.slice none 0 0,.slice none 0 0] 28 (0,0)));have n5:obj (w5.alloc (.cells #[.int .i64 0,.int .i64 0,.int .i64 0,.int .i64 0,.int .i64 0,.slice none 0 0,.slice none 0 0] 28 (0,0))) w5.heap.size=some (.cells #[.int .i64 0,.int .i64 0,.int .i64 0,.int .i64 0,.int .i64 0,.slice none 0 0,.slice none 0 0] 28 (0,0)):=aff _ _ _ rfl;(try have n15:=aq7 nz hb5);(try have n15:=aq7 nz4 hb5);dsimp only)) | ((go_simp;go_at_call 30;((with_reducible refine (HFD.out _ _ _ (by assumption) (by assumption) hyz hyo).mono ?_));rintro e w6 ⟨row4,rfl,y7,ya,yo,y4,hb6⟩;have v0:obj w6 g2=some (.cells row3 28 (0,0)):=aq7 (by assumption) hb6;have jG:Below wz.heap.size wz w6:=b8o (by assumption) hb6;(try have n56:=aq7 n5 hb6);(try have n156:=aq7 n15 hb6);have Y4:=Lib.hid y4;clear y4;dsimp only)))
      all_goals (repeat' go_step)
      all_goals go_meet
      all_goals first
       | exact ⟨_,row4,rfl,aff _ _ _ rfl,Y4.out,ab6 v0 _,jG.alloc jG.size _⟩
       | exact ⟨_,row4,rfl,(by rw [ajb,n56];rfl),Y4.out,(setRow_other _ _ _ _ (by have:=ah1 s0;omega)).trans v0,below_setRow jG (by have:=jF.size;omega) _⟩
       | exact ⟨_,row4,rfl,(by rw [ajb,n156];rfl),Y4.out,(setRow_other _ _ _ _ (by omega)).trans v0,below_setRow jG (by omega) _⟩
     case rest =>
      clear q0 q1 r0 r1 r0' r1' bCp bCo jD jD2 jD4 nz nz4 x0 x1 x2 x3 e0 e1 e4 HFD HRW HTX
      obtain ⟨g3,row4,rfl,e0,c4,e1,jq⟩:=hcut
      have f0:=(abm e0 4).trans c4
      have f1:=(abm e1 4).trans r4'
      have jE:=jz.trans (jq.mono jz.size)
      repeat' (first | go_skip | go_guarded | go_step | go_upon)
      go_ret
      exact ⟨rfl,jE⟩
end Go.Proofs.YtlnlbdfokmhelaaGreatDoor
