/-
  ReserveAllOrNone walked.
-/
import Derived.Test.YtlnlbdfokmhelaaGreatDoorPkGr
import Derived.Test.YtlnlbdfokmhelaaGreatDoorPkRm
set_option linter.unusedSectionVars false
set_option linter.constructorNameAsVariable false
set_option linter.unusedVariables false
set_option linter.unusedSimpArgs false
namespace Go.Proofs.YtlnlbdfokmhelaaGreatDoor
open Go.RowKit Go.CE.V Go.Rv
set_option maxRecDepth 20000
set_option maxHeartbeats 4000000
attribute [local irreducible] wpQuiet
theorem bG4 {own:List Nat} {ph:Nat} {ps:List (LN×Nat)} (h:Go.Rv.Good (bb7 4 0 90 own) ⟨ph,ps.map (·.1)⟩) (hp:ph=3):(∀ o∈own,ps.any (bth 9 o)=true)∧ps.any (bth 11 0)=true:=by
 obtain ⟨h1,h2⟩:=bp1 (h.com hp)
 have key:∀ kd fr:Nat,(∃ x,x∈ps.map (·.1)∧x.kind=kd∧x.frm=fr)→ps.any (bth kd fr)=true:=fun kd fr ⟨x,hx,e1,e2⟩=>by
  obtain ⟨p,hp,rfl⟩:=List.mem_map.1 hx
  refine List.any_eq_true.2 ⟨p,hp,?_⟩
  unfold bth
  rw [decide_eq_true e1,decide_eq_true e2];rfl
 have h2' : ∃ x,x∈ps.map (·.1)∧x.kind=11∧x.frm=0:=h2
 exact ⟨fun o ho=>key 9 o (h1 o ho),key 11 0 h2'⟩
theorem bGq {n who:Nat} (hn:n < 256) (hw:who < 256) {W:World} {rv:Value} {m:Nat} (hR:bhw W rv m) (hT:bph W) :
  Calls Tryz.prog 5 #[.int .u8 n,.int .u8 who,rv] W fun e W'=>e=.returned (.bool true)∧Below W.heap.size W W':=by
 have h0w:=hT.pos
 have bS6:=Lib.hid (be9 W hT)
 have HR:=Lib.hid hR
 have HTW:=Lib.hid (fun W' (hb:Below W.heap.size W W')=>And.intro (hT.below hb) (And.intro (hT.below hb).tab (hT.below hb).pos))
 clear hR hT
 have ww:IntKind.wrap .i64 (who:Int)=(who:Int):=by rw [IntKind.wrap_i64];omega
 go_enter Tryz.func5,Tryz.ntmps5
 repeat' (first | (go_at_call 27;((with_reducible refine (bS6.out).mono ?_));rintro e w1 ⟨rfl,hb1⟩;dsimp only) | (go_at_call 28;((with_reducible refine (bhk hn _).mono ?_));rintro e w2 ⟨own,v,hl,rfl,hv,hb2⟩;obtain ⟨ob,oo,oc,c5d,rfl,ho1,hoc,ho2⟩:=bj7 hv (aZ2 hl);have HV:=Lib.hid hv;have HO2:=Lib.hid ho2;clear hv ho2;have po:=b8r 4 0 90 (show (Value.slice (some ⟨ob,oo,none⟩) own.length oc).oneCell' = true from rfl);dsimp only) | go_skip | go_guarded | go_step | go_upon)
 have h0:=aZ2 hl
 have hlen:0 < own.length:=List.length_pos_iff.2 h0
 have jB:Below W.heap.size W (w2.alloc (.cells (ah6 4 0 90 (.slice (some ⟨ob,oo,none⟩) own.length oc)) 61 (0,0))):=(hb1.trans (hb2.mono hb1.size)).alloc (hb1.trans (hb2.mono hb1.size)).size _
 have p0:obj (w2.alloc (.cells (ah6 4 0 90 (.slice (some ⟨ob,oo,none⟩) own.length oc)) 61 (0,0))) w2.heap.size=some (.cells (ah6 4 0 90 (.slice (some ⟨ob,oo,none⟩) own.length oc)) 61 (0,0)):=aff _ _ _ rfl
 have hvw:as1 0 (w2.alloc (.cells (ah6 4 0 90 (.slice (some ⟨ob,oo,none⟩) own.length oc)) 61 (0,0))) (.slice (some ⟨ob,oo,none⟩) own.length oc) own:=HV.out.below ((Below.refl _ _).alloc (Nat.le_refl _) _)
 have ho1':=ab6 ho1 (.cells (ah6 4 0 90 (.slice (some ⟨ob,oo,none⟩) own.length oc)) 61 (0,0))
 clear HV ho1 hb1 hb2 bS6
 generalize w2.alloc (.cells (ah6 4 0 90 (.slice (some ⟨ob,oo,none⟩) own.length oc)) 61 (0,0))=w3 at *
 generalize w2.heap.size=pb at *
 have HVW:=Lib.hid hvw
 clear hvw
 have c30:Int.tmod (who:Int) (own.length:Int)=((who % own.length:Nat):Int):=by
  rw [Int.tmod_eq_emod_of_nonneg (by omega)];rfl
 have hi0:who % own.length < own.length:=Nat.mod_lt _ hlen
 generalize who % own.length=fi at *
 have hl0:(own.length:Int)≠0:=by omega
 have hme:own.getD fi 0∈own:=by rw [List.getD_eq_getElem?_getD,List.getElem?_eq_getElem hi0];exact List.getElem_mem hi0
 have HG:=Lib.hid (fun W' (hb:Below w3.heap.size w3 W')=>bdk hl hi0 (HTW.out W' (jB.trans (hb.mono jB.size))).1 (HVW.out.below hb))
 generalize own.getD fi 0=me at *
 have q0:obj w3.drew pb=_:=p0
 have q3:=(abm q0 3).trans (bcz _ _ _ _)
 have r0:=ab6 q0 (.cells #[.int .i64 0,.int .i64 0,.int .i64 0,.int .i64 0,.int .i64 0,.slice none 0 0,.slice none 0 0] 28 (0,0))
 have r0':=ab6 p0 (.cells #[.int .i64 0,.int .i64 0,.int .i64 0,.int .i64 0,.int .i64 0,.slice none 0 0,.slice none 0 0] 28 (0,0))
 have r3:=(abm r0 3).trans (bcz _ _ _ _)
 have r3':=(abm r0' 3).trans (bcz _ _ _ _)
 have jD:Below w3.heap.size w3 w3.drew:=(Below.refl _ _).drew
 have jD2:=jD.alloc jD.size (.cells #[.int .i64 0,.int .i64 0,.int .i64 0,.int .i64 0,.int .i64 0,.slice none 0 0,.slice none 0 0] 28 (0,0))
 have nz:obj (w3.drew.alloc (.cells #[.int .i64 0,.int .i64 0,.int .i64 0,.int .i64 0,.int .i64 0,.slice none 0 0,.slice none 0 0] 28 (0,0))) w3.heap.size=some (.cells #[.int .i64 0,.int .i64 0,.int .i64 0,.int .i64 0,.int .i64 0,.slice none 0 0,.slice none 0 0] 28 (0,0)):=aff _ _ _ rfl
 have lp:=ah1 p0
 have r4:obj (w3.alloc (.cells #[.int .i64 0,.int .i64 0,.int .i64 0,.int .i64 0,.int .i64 0,.slice none 0 0,.slice none 0 0] 28 (0,0))).drew pb=some (.cells (ah6 4 0 90 (.slice (some ⟨ob,oo,none⟩) own.length oc)) 61 (0,0)):=r0'
 have nz4:obj (w3.alloc (.cells #[.int .i64 0,.int .i64 0,.int .i64 0,.int .i64 0,.int .i64 0,.slice none 0 0,.slice none 0 0] 28 (0,0))).drew w3.heap.size=some (.cells #[.int .i64 0,.int .i64 0,.int .i64 0,.int .i64 0,.int .i64 0,.slice none 0 0,.slice none 0 0] 28 (0,0)):=aff _ _ _ rfl
 have jD4:Below w3.heap.size w3 (w3.alloc (.cells #[.int .i64 0,.int .i64 0,.int .i64 0,.int .i64 0,.int .i64 0,.slice none 0 0,.slice none 0 0] 28 (0,0))).drew:=((Below.refl _ _).alloc (Nat.le_refl _) (.cells #[.int .i64 0,.int .i64 0,.int .i64 0,.int .i64 0,.int .i64 0,.slice none 0 0,.slice none 0 0] 28 (0,0))).drew
 go_cut [9,10,11] from 17 to 28 (fun v9 v10 v11 wx => ∃ g w,v9=.pointer (some ⟨g,0,none⟩)∧v11=.bool true∧obj wx g=some (.cells (ownRow me 4 0 90 2 w (.slice none 0 0)) 28 (0,0))∧as1 0 wx w own∧obj wx pb=some (.cells (ah6 4 0 90 (.slice (some ⟨ob,oo,none⟩) own.length oc)) 61 (0,0))∧Below w3.heap.size w3 wx)
 case first =>
  go_region_law ((go_simp;go_at_call 29;((with_reducible refine (HG.out _ (by assumption)).mono ?_));rintro e w4 ⟨w,s,rfl,hcw,hb4⟩;have t0:obj w4 pb=some (.cells (ah6 4 0 90 (.slice (some ⟨ob,oo,none⟩) own.length oc)) 61 (0,0)):=aq7 (by assumption) hb4;have jE:Below w3.heap.size w3 w4:=b8o (by assumption) hb4;have po4:=aRj me 4 0 90 2 (azh hcw) (show (Value.slice none 0 0).oneCell' = true from rfl);(try have n14:=aq7 nz hb4);(try have n14:=aq7 nz4 hb4);have HCW:=Lib.hid hcw;clear hcw;dsimp only))
  all_goals (repeat' go_step)
  all_goals go_meet
  all_goals first
   | exact ⟨_,w,rfl,rfl,aff _ _ _ rfl,HCW.out.below ((Below.refl _ _).alloc (Nat.le_refl _) _),ab6 t0 _,jE.alloc jE.size _⟩
   | exact ⟨_,w,rfl,rfl,(by rw [ajb,n14];rfl),aZ3 HCW.out n14 (by decide) (fun y hy=>setRow_other _ _ _ _ hy),(setRow_other _ _ _ _ (by omega)).trans t0,below_setRow jE (by omega) _⟩
 case rest =>
  obtain ⟨g,w,rfl,rfl,e0,hcw,e1,jx⟩:=hcut
  have HOW:=Lib.hid (bk5 (me:=me) hcw)
  have HRW:=Lib.hid (fun W' (hb:Below wc.heap.size wc W')=>bba hl ((HVW.out.below jx).below hb) (HR.out.below ((jB.trans (jx.mono jB.size)).trans (hb.mono (jB.trans (jx.mono jB.size)).size))))
  have HTX:=Lib.hid (fun W' (hb:Below wc.heap.size wc W')=>HTW.out W' ((jB.trans (jx.mono jB.size)).trans (hb.mono (jB.trans (jx.mono jB.size)).size)))
  have HFD:=Lib.hid (fun W' lv ys (hb:Below wc.heap.size wc W') (hx:b9w 0 W' lv ys) (hz:ys.length≤10) (hok:∀ i,i < ys.length→bg7 (ys.getD i aum))=>bca hl hme (HOW.out.below hb) (by simp) hx (by omega) hok (HTX.out W' hb).2.1 (HTX.out W' hb).2.2)
  have po2:=aRj me 4 0 90 2 (azh hcw) (show (Value.slice none 0 0).oneCell' = true from rfl)
  clear hcw HG q3 r3 r3' q0 r0 r0' r4 nz nz4 jD jD2 jD4
  repeat' (first | go_skip | go_guarded | go_step | go_upon)
  have q0:obj wc.drew g=_:=e0
  have q1:obj wc.drew pb=_:=e1
  have r0:=ab6 q0 (.cells #[.int .i64 0,.int .i64 0,.int .i64 0,.int .i64 0,.int .i64 0,.slice none 0 0,.slice none 0 0] 28 (0,0))
  have r1:=ab6 q1 (.cells #[.int .i64 0,.int .i64 0,.int .i64 0,.int .i64 0,.int .i64 0,.slice none 0 0,.slice none 0 0] 28 (0,0))
  have r0':obj (wc.alloc (.cells #[.int .i64 0,.int .i64 0,.int .i64 0,.int .i64 0,.int .i64 0,.slice none 0 0,.slice none 0 0] 28 (0,0))).drew g=_:=ab6 e0 (.cells #[.int .i64 0,.int .i64 0,.int .i64 0,.int .i64 0,.int .i64 0,.slice none 0 0,.slice none 0 0] 28 (0,0))
  have r1':obj (wc.alloc (.cells #[.int .i64 0,.int .i64 0,.int .i64 0,.int .i64 0,.int .i64 0,.slice none 0 0,.slice none 0 0] 28 (0,0))).drew pb=_:=ab6 e1 (.cells #[.int .i64 0,.int .i64 0,.int .i64 0,.int .i64 0,.int .i64 0,.slice none 0 0,.slice none 0 0] 28 (0,0))
  have bCp:=ab6 e0 (.cells #[.int .i64 0,.int .i64 0,.int .i64 0,.int .i64 0,.int .i64 0,.slice none 0 0,.slice none 0 0] 28 (0,0))
  have bCo:=ab6 e1 (.cells #[.int .i64 0,.int .i64 0,.int .i64 0,.int .i64 0,.int .i64 0,.slice none 0 0,.slice none 0 0] 28 (0,0))
  have jD:Below wc.heap.size wc wc.drew:=(Below.refl _ _).drew
  have jD2:=jD.alloc jD.size (.cells #[.int .i64 0,.int .i64 0,.int .i64 0,.int .i64 0,.int .i64 0,.slice none 0 0,.slice none 0 0] 28 (0,0))
  have jD4:Below wc.heap.size wc (wc.alloc (.cells #[.int .i64 0,.int .i64 0,.int .i64 0,.int .i64 0,.int .i64 0,.slice none 0 0,.slice none 0 0] 28 (0,0))).drew:=((Below.refl _ _).alloc (Nat.le_refl _) (.cells #[.int .i64 0,.int .i64 0,.int .i64 0,.int .i64 0,.int .i64 0,.slice none 0 0,.slice none 0 0] 28 (0,0))).drew
  have nz:obj (wc.drew.alloc (.cells #[.int .i64 0,.int .i64 0,.int .i64 0,.int .i64 0,.int .i64 0,.slice none 0 0,.slice none 0 0] 28 (0,0))) wc.heap.size=some (.cells #[.int .i64 0,.int .i64 0,.int .i64 0,.int .i64 0,.int .i64 0,.slice none 0 0,.slice none 0 0] 28 (0,0)):=aff _ _ _ rfl
  have nz4:obj (wc.alloc (.cells #[.int .i64 0,.int .i64 0,.int .i64 0,.int .i64 0,.int .i64 0,.slice none 0 0,.slice none 0 0] 28 (0,0))).drew wc.heap.size=some (.cells #[.int .i64 0,.int .i64 0,.int .i64 0,.int .i64 0,.int .i64 0,.slice none 0 0,.slice none 0 0] 28 (0,0)):=aff _ _ _ rfl
  have lg:=ah1 e0
  have lp2:=ah1 e1
  go_cut [12] from 29 to 33 (fun v12 wx => ∃ g2 b94 ph2 ps2 ys,v12=.pointer (some ⟨g2,0,none⟩)∧obj wx g2=some (.cells b94 28 (0,0))∧bip wx b94 me 4 0 90 own ph2 ps2∧ps2.length≤10∧(bb7 4 0 90 own).fed ⟨2,[]⟩ ys=⟨ph2,ps2.map (·.1)⟩∧obj wx pb=some (.cells (ah6 4 0 90 (.slice (some ⟨ob,oo,none⟩) own.length oc)) 61 (0,0))∧Below wc.heap.size wc wx)
  case first =>
   go_region_law (first | ((go_simp;go_at_call 31;((with_reducible refine (HRW.out _ (by assumption)).mono ?_));rintro e w5 ⟨lv,ys,rfl,hlv,hyz,hyo,hb5⟩;have s0:obj w5 g=some (.cells (ownRow me 4 0 90 2 w (.slice none 0 0)) 28 (0,0)):=aq7 (by assumption) hb5;have s1:obj w5 pb=some (.cells (ah6 4 0 90 (.slice (some ⟨ob,oo,none⟩) own.length oc)) 61 (0,0)):=aq7 (by assumption) hb5;have jF:Below wc.heap.size wc w5:=b8o (by assumption) hb5;have u0:=ab6 s0 (.cells #[.int .i64 0,.int .i64 0,.int .i64 0,.int .i64 0,.int .i64 0,.slice none 0 0,.slice none 0 0] 28 (0,0));have u1:=ab6 s1 (.cells #[.int .i64 0,.int .i64 0,.int .i64 0,.int .i64 0,.int .i64 0,.slice none 0 0,.slice none 0 0] 28 (0,0));have jF2:=jF.alloc jF.size (.cells #[.int .i64 0,.int .i64 0,.int .i64 0,.int .i64 0,.int .i64 0,.slice none 0 0,.slice none 0 0] 28 (0,0));have hlv2:b9w 0 (w5.alloc (.cells #[.int .i64 0,.int .i64 0,.int .i64 0,.int .i64 0,.int .i64 0,.slice none 0 0,.slice none 0 0] 28 (0,0))) lv ys:=hlv.below ((Below.refl _ _).alloc (Nat.le_refl _) (.cells #[.int .i64 0,.int .i64 0,.int .i64 0,.int .i64 0,.int .i64 0,.slice none 0 0,.slice none 0 0] 28 (0,0)));have n5:obj (w5.alloc (.cells #[.int .i64 0,.int .i64 0,.int .i64 0,.int .i64 0,.int .i64 0,.slice none 0 0,.slice none 0 0] 28 (0,0))) w5.heap.size=some (.cells #[.int .i64 0,.int .i64 0,.int .i64 0,.int .i64 0,.int .i64 0,.slice none 0 0,.slice none 0 0] 28 (0,0)):=aff _ _ _ rfl;(try have n15:=aq7 nz hb5);(try have n15:=aq7 nz4 hb5);dsimp only)) | ((go_simp;go_at_call 30;((with_reducible refine (HFD.out _ _ _ (by assumption) (by assumption) hyz hyo).mono ?_));rintro e w6 ⟨b94,ph2,ps2,rfl,hP2,hz2,hF2,hb6⟩;obtain ⟨y7,ya,yo,y4⟩:=b8z hP2;have v1:obj w6 pb=some (.cells (ah6 4 0 90 (.slice (some ⟨ob,oo,none⟩) own.length oc)) 61 (0,0)):=aq7 (by assumption) hb6;have jG:Below wc.heap.size wc w6:=b8o (by assumption) hb6;(try have n56:=aq7 n5 hb6);(try have n156:=aq7 n15 hb6);have HP:=Lib.hid hP2;have HF:=Lib.hid hF2;have HZ:ps2.length≤10:=(by simp at hz2;omega);clear hP2 hF2 hz2 y4;dsimp only)))
   all_goals (repeat' go_step)
   all_goals go_meet
   all_goals first
    | exact ⟨_,b94,ph2,ps2,ys,rfl,aff _ _ _ rfl,HP.out.below ((Below.refl _ _).alloc (Nat.le_refl _) _),HZ,HF.out,ab6 v1 _,jG.alloc jG.size _⟩
    | exact ⟨_,b94,ph2,ps2,ys,rfl,(by rw [ajb,n56];rfl),HP.out.keep n56 (by decide) (by decide) (by decide) (fun y hy=>setRow_other _ _ _ _ hy),HZ,HF.out,(setRow_other _ _ _ _ (by have:=ah1 s1;omega)).trans v1,below_setRow jG (by have:=jF.size;omega) _⟩
    | exact ⟨_,b94,ph2,ps2,ys,rfl,(by rw [ajb,n156];rfl),HP.out.keep n156 (by decide) (by decide) (by decide) (fun y hy=>setRow_other _ _ _ _ hy),HZ,HF.out,(setRow_other _ _ _ _ (by omega)).trans v1,below_setRow jG (by omega) _⟩
  case rest =>
   have jB2:=jB.trans (jx.mono jB.size)
   clear q0 q1 r0 r1 r0' r1' bCp bCo jD jD2 jD4 nz nz4 e0 e1 HOW HRW HFD po2
   obtain ⟨g2,b94,ph2,ps2,ys,rfl,e0,hP,hz2,hF,e1,jy⟩:=hcut
   rename World=>wx
   have hG:=(bmz own).fed ys
   have bVu:=Go.Rv.bCs (p:=bb7 4 0 90 own) (s:=⟨2,[]⟩) (.inl rfl) ys
   rw [hF] at hG bVu
   have HX3:=Lib.hid (fun W' (hb:Below wx.heap.size wx W')=>HTX.out W' (jy.trans (hb.mono jy.size)))
   obtain ⟨r7,ra,ro,r4⟩:=b8z hP
   have f4:=(abm e0 4).trans r4
   have jB3:=jB2.trans (jy.mono jB2.size)
   have HO3:=Lib.hid (fun W' (hb:Below wx.heap.size wx W') k (hk:k < own.length)=>(abm (aq7 (aq7 (aq7 ho1' jx) jy) hb) (oo+k)).trans (HO2.out k hk))
   obtain ⟨ov,pv,rfl,hov,hpv⟩:=hP.form
   have hok:=hP.ok.kok
   clear hP hF HO2 HVW r4
   dsimp only at bVu
   rcases bVu with rfl | rfl | rfl
   ·repeat' (first | go_skip | go_guarded | go_step | go_upon)
    go_ret
    exact ⟨rfl,jB3⟩
   ·have hcs:=bG4 hG rfl
    have HPV:=Lib.hid hpv
    obtain ⟨bv,⟨pa,pc,rfl,c9f⟩,hbv⟩:=hpv
    have HS9:=Lib.hid (fun W' (hb:Below wx.heap.size wx W') k (hk:k < own.length)=>show Calls Tryz.prog 32 #[.slice pa ps2.length pc,.int .i64 9,.int .i64 (own.getD k 0:Nat)] W' (fun e W''=>e=.returned (.bool true)∧Below W'.heap.size W' W'') from
     (bjs (kd:=9) (fr:=own.getD k 0) (HPV.out.below hb) hok (by omega) (HX3.out W' hb).2.1 (HX3.out W' hb).2.2).mono fun e W'' ⟨h1,h2⟩=>⟨by rw [h1,hcs.1 _ (by rw [List.getD_eq_getElem?_getD,List.getElem?_eq_getElem hk];exact List.getElem_mem hk)],h2⟩)
    have HS11:=Lib.hid (fun W' (hb:Below wx.heap.size wx W')=>show Calls Tryz.prog 32 #[.slice pa ps2.length pc,.int .i64 11,.int .i64 0] W' (fun e W''=>e=.returned (.bool true)∧Below W'.heap.size W' W'') from
     (bjs (kd:=11) (fr:=0) (HPV.out.below hb) hok (by omega) (HX3.out W' hb).2.1 (HX3.out W' hb).2.2).mono fun e W'' ⟨h1,h2⟩=>⟨by rw [h1,hcs.2],h2⟩)
    clear c9f hbv hok hcs hG HX3
    repeat' (first | go_skip | go_guarded | go_step | go_upon)
    go_loopw [13] (fun i wr => ∃ k:Nat,k≤own.length∧i=.int .i64 k∧Below wx.heap.size wx wr) (fun i _=>(own.length - intOf i).toNat)
    case atStart=>exact ⟨0,by omega,rfl,Below.refl _ _⟩
    case round =>
     obtain ⟨k,hk,rfl,hB⟩:=hrel
     have p3:=(abm (aq7 e1 hB) 3).trans (bcz _ _ _ _)
     by_cases hlt:k < own.length
     ·have i1:(k:Int) < (own.length:Int):=by omega
      have f6:=(abm (aq7 e0 hB) 6).trans (bij _ _ _ _ _ _ _)
      have fo:=HO3.out _ hB k hlt
      have hlen4:own.length≤4:=(by decide:∀ l∈b95,l.length≤4) own hl
      have jd:Below wr.heap.size wr wr.drew:=(Below.refl _ _).drew
      have HS:=Lib.hid (HS9.out _ (hB.trans (jd.mono hB.size)) k hlt)
      generalize own.getD k 0=ok at *
      repeat' ((fail_if_success (with_reducible refine Go.wp_block ?_));(first | go_skip | go_guarded | go_step | go_upon))
      go_step
      go_step
      go_cut [70] from 62 to 69 (fun v70 wz=>v70=.bool false∧Below wr.heap.size wr wz)
      case first =>
       go_region_law ((go_simp;go_at_call 32;((with_reducible refine (HS.out).mono ?_));rintro e w7 ⟨rfl,hb7⟩;have jw:Below wr.heap.size wr w7:=b8o jd hb7;dsimp only))
       all_goals (repeat' go_step)
       all_goals go_meet
       all_goals exact ⟨rfl,jw⟩
      case rest =>
       obtain ⟨rfl,jz⟩:=hcut
       have hB2:=hB.trans (jz.mono hB.size)
       repeat' (first | go_skip | go_guarded | go_step | go_upon)
       go_roundw
       case rel=>exact ⟨k+1,by omega,by go_num,hB2⟩
       case measure=>simp [intOf];omega
     ·have i1 : ¬ (k:Int) < (own.length:Int):=by omega
      have f6:=(abm (aq7 e0 hB) 6).trans (bij _ _ _ _ _ _ _)
      repeat' (first | (go_at_call 32;((with_reducible refine (HS11.out _ (by assumption)).mono ?_));rintro e w9 ⟨rfl,hb9⟩;dsimp only) | go_skip | go_guarded | go_step | go_upon)
      go_ret
      have hB9:=jB3.trans (hB.mono jB3.size)
      exact ⟨rfl,b8o hB9 (by assumption)⟩
   ·repeat' (first | go_skip | go_guarded | go_step | go_upon)
    go_ret
    exact ⟨rfl,jB3⟩
end Go.Proofs.YtlnlbdfokmhelaaGreatDoor
