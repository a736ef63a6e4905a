/-
  ReserveKeepsPromises walked.
-/
import Derived.Test.YtlnlbdfokmhelaaGreatDoorPkGr
import Derived.Test.YtlnlbdfokmhelaaGreatDoorPkCn
set_option linter.unusedSectionVars false
set_option linter.constructorNameAsVariable false
set_option linter.unusedVariables false
set_option linter.unusedSimpArgs false
namespace Go.Proofs.YtlnlbdfokmhelaaGreatDoor
open Go.RowKit Go.CE.V Go.Rv
set_option maxRecDepth 20000
set_option maxHeartbeats 4000000
attribute [local irreducible] wpQuiet
theorem byx {W:World} {me:Nat} {own:List Nat} {w:Value} (hv:as1 0 W w own):bip W (ownRow me 4 0 90 5 w (.slice none 0 0)) me 4 0 90 own 5 [] :=
 ⟨⟨w,.slice none 0 0,rfl,hv,fun _=>undef,⟨none,0,rfl,fun h=>absurd rfl h⟩,fun i hi=>absurd hi (Nat.not_lt_zero i)⟩,⟨fun i hi=>absurd hi (Nat.not_lt_zero i),fun i hi=>absurd hi (Nat.not_lt_zero i)⟩,by decide⟩
theorem bux (own:List Nat):Go.Rv.Good (bb7 4 0 90 own) ⟨5,[]⟩:=by
 refine ⟨fun x hx=>absurd hx List.not_mem_nil,fun _ x hx=>absurd hx List.not_mem_nil,fun h=>absurd h (by decide),fun h=>absurd h (by decide)⟩
theorem bWk (me:Nat) (v p:Value):(ownRow me 4 0 90 2 v p).setIfInBounds 4 (.int .i64 5)=ownRow me 4 0 90 5 v p:=by
 unfold ownRow
 simp
theorem c3e {own:List Nat} {gs:List LN} {c:LN} (hg:GrL own own gs) (hc:CmP own c):∀ i,i < (gs ++ [c]).length→bg7 ((gs ++ [c]).getD i aum):=fun i hi=>by
 have hm:(gs ++ [c]).getD i aum∈gs ++ [c]:=by rw [bdl _ hi];exact List.getElem_mem hi
 generalize (gs ++ [c]).getD i aum=y at *
 rcases List.mem_append.1 hm with h | h
 ·obtain ⟨o,_,hp⟩:=hg.mem y h
  exact hp.any
 ·rw [List.mem_singleton.1 h];exact hc.any
theorem bVv {own:List Nat} {gs:List LN} {c:LN} (hg:GrL own own gs) (hc:CmP own c):∀ l,l∈gs ++ [c]→l.kind≠10:=fun y hm=>by
 rcases List.mem_append.1 hm with h | h
 ·obtain ⟨o,_,hp⟩:=hg.mem y h
  rw [hp.kind];decide
 ·rw [List.mem_singleton.1 h,hc.kind];decide
theorem blq {n who:Nat} (hn:n < 256) (hw:who < 256) {W:World} {av bv:Value} {m n2:Nat} (hR0:bhw W av m) (hR1:bhw W bv n2) (hT:bph W) :
  Calls Tryz.prog 8 #[.int .u8 n,.int .u8 who,.agg #[av,bv]] W fun e W'=>e=.returned (.bool true)∧Below W.heap.size W W':=by
 have h0w:=hT.pos
 have HR0:=Lib.hid hR0
 have HR1:=Lib.hid hR1
 have HTW:=Lib.hid (fun W' (hb:Below W.heap.size W W')=>And.intro (hT.below hb) (And.intro (hT.below hb).tab (hT.below hb).pos))
 obtain ⟨_,ra,rc,rfl,_,_⟩:=hR0
 obtain ⟨_,sa,sc,rfl,_,_⟩:=hR1
 have ww:IntKind.wrap .i64 (who:Int)=(who:Int):=by rw [IntKind.wrap_i64];omega
 have b4:obj (W.alloc (.cells #[.slice ra m rc,.slice sa n2 sc] 69 (0,0))) W.heap.size=some (.cells #[.slice ra m rc,.slice sa n2 sc] 69 (0,0)):=aff _ _ _ rfl
 have j0:Below W.heap.size W (W.alloc (.cells #[.slice ra m rc,.slice sa n2 sc] 69 (0,0))):=(Below.refl _ _).alloc (Nat.le_refl _) _
 clear hT
 go_enter Tryz.func8,Tryz.ntmps8
 repeat' (first | go_skip | go_guarded | go_step | go_upon)
 generalize (W.alloc (.cells #[.slice ra m rc,.slice sa n2 sc] 69 (0,0)))=w0 at *
 have bS6:=Lib.hid (be9 w0 (HTW.out w0 j0).1)
 repeat' (first | (go_at_call 27;((with_reducible refine (bS6.out).mono ?_));rintro e w1 ⟨rfl,hb1⟩;dsimp only) | (go_at_call 28;((with_reducible refine (bhk hn _).mono ?_));rintro e w2 ⟨own,v,hl,rfl,hv,hb2⟩;obtain ⟨ob,oo,oc,c5d,rfl,ho1,hoc,ho2⟩:=bj7 hv (aZ2 hl);have HV:=Lib.hid hv;clear hv ho2;have po:=b8r 4 0 90 (show (Value.slice (some ⟨ob,oo,none⟩) own.length oc).oneCell' = true from rfl);dsimp only) | go_skip | go_guarded | go_step | go_upon)
 have h0:=aZ2 hl
 have hlen:0 < own.length:=List.length_pos_iff.2 h0
 have jB0:Below w0.heap.size w0 (w2.alloc (.cells (ah6 4 0 90 (.slice (some ⟨ob,oo,none⟩) own.length oc)) 61 (0,0))):=(hb1.trans (hb2.mono hb1.size)).alloc (hb1.trans (hb2.mono hb1.size)).size _
 have p0:obj (w2.alloc (.cells (ah6 4 0 90 (.slice (some ⟨ob,oo,none⟩) own.length oc)) 61 (0,0))) w2.heap.size=some (.cells (ah6 4 0 90 (.slice (some ⟨ob,oo,none⟩) own.length oc)) 61 (0,0)):=aff _ _ _ rfl
 have hvw:as1 0 (w2.alloc (.cells (ah6 4 0 90 (.slice (some ⟨ob,oo,none⟩) own.length oc)) 61 (0,0))) (.slice (some ⟨ob,oo,none⟩) own.length oc) own:=HV.out.below ((Below.refl _ _).alloc (Nat.le_refl _) _)
 clear HV ho1 hb1 hb2 bS6
 generalize w2.alloc (.cells (ah6 4 0 90 (.slice (some ⟨ob,oo,none⟩) own.length oc)) 61 (0,0))=w3 at *
 generalize w2.heap.size=pb at *
 have HVW:=Lib.hid hvw
 clear hvw
 have jB:=j0.trans (jB0.mono j0.size)
 have q4:obj w3 W.heap.size=some (.cells #[.slice ra m rc,.slice sa n2 sc] 69 (0,0)):=aq7 b4 jB0
 clear b4 jB0 j0
 have c30:Int.tmod (who:Int) (own.length:Int)=((who % own.length:Nat):Int):=by
  rw [Int.tmod_eq_emod_of_nonneg (by omega)];rfl
 have hi0:who % own.length < own.length:=Nat.mod_lt _ hlen
 generalize who % own.length=fi at *
 have hl0:(own.length:Int)≠0:=by omega
 have hme:own.getD fi 0∈own:=by rw [List.getD_eq_getElem?_getD,List.getElem?_eq_getElem hi0];exact List.getElem_mem hi0
 have HG:=Lib.hid (fun W' (hb:Below w3.heap.size w3 W')=>bdk hl hi0 (HTW.out W' (jB.trans (hb.mono jB.size))).1 (HVW.out.below hb))
 generalize own.getD fi 0=me at *
 have q0:obj w3.drew pb=_:=p0
 have q3:=(abm q0 3).trans (bcz _ _ _ _)
 have r0:=ab6 q0 (.cells #[.int .i64 0,.int .i64 0,.int .i64 0,.int .i64 0,.int .i64 0,.slice none 0 0,.slice none 0 0] 28 (0,0))
 have r0':=ab6 p0 (.cells #[.int .i64 0,.int .i64 0,.int .i64 0,.int .i64 0,.int .i64 0,.slice none 0 0,.slice none 0 0] 28 (0,0))
 have r3:=(abm r0 3).trans (bcz _ _ _ _)
 have r3':=(abm r0' 3).trans (bcz _ _ _ _)
 have jD:Below w3.heap.size w3 w3.drew:=(Below.refl _ _).drew
 have jD2:=jD.alloc jD.size (.cells #[.int .i64 0,.int .i64 0,.int .i64 0,.int .i64 0,.int .i64 0,.slice none 0 0,.slice none 0 0] 28 (0,0))
 have nz:obj (w3.drew.alloc (.cells #[.int .i64 0,.int .i64 0,.int .i64 0,.int .i64 0,.int .i64 0,.slice none 0 0,.slice none 0 0] 28 (0,0))) w3.heap.size=some (.cells #[.int .i64 0,.int .i64 0,.int .i64 0,.int .i64 0,.int .i64 0,.slice none 0 0,.slice none 0 0] 28 (0,0)):=aff _ _ _ rfl
 have lp:=ah1 p0
 have r4:obj (w3.alloc (.cells #[.int .i64 0,.int .i64 0,.int .i64 0,.int .i64 0,.int .i64 0,.slice none 0 0,.slice none 0 0] 28 (0,0))).drew pb=some (.cells (ah6 4 0 90 (.slice (some ⟨ob,oo,none⟩) own.length oc)) 61 (0,0)):=r0'
 have nz4:obj (w3.alloc (.cells #[.int .i64 0,.int .i64 0,.int .i64 0,.int .i64 0,.int .i64 0,.slice none 0 0,.slice none 0 0] 28 (0,0))).drew w3.heap.size=some (.cells #[.int .i64 0,.int .i64 0,.int .i64 0,.int .i64 0,.int .i64 0,.slice none 0 0,.slice none 0 0] 28 (0,0)):=aff _ _ _ rfl
 have jD4:Below w3.heap.size w3 (w3.alloc (.cells #[.int .i64 0,.int .i64 0,.int .i64 0,.int .i64 0,.int .i64 0,.slice none 0 0,.slice none 0 0] 28 (0,0))).drew:=((Below.refl _ _).alloc (Nat.le_refl _) (.cells #[.int .i64 0,.int .i64 0,.int .i64 0,.int .i64 0,.int .i64 0,.slice none 0 0,.slice none 0 0] 28 (0,0))).drew
 go_cut [9,10,11] from 23 to 34 (fun v9 v10 v11 wx => ∃ g w,v9=.pointer (some ⟨g,0,none⟩)∧v11=.bool true∧obj wx g=some (.cells (ownRow me 4 0 90 2 w (.slice none 0 0)) 28 (0,0))∧as1 0 wx w own∧obj wx pb=some (.cells (ah6 4 0 90 (.slice (some ⟨ob,oo,none⟩) own.length oc)) 61 (0,0))∧Below w3.heap.size w3 wx)
 case first =>
  go_region_law ((go_simp;go_at_call 29;((with_reducible refine (HG.out _ (by assumption)).mono ?_));rintro e w4 ⟨w,s,rfl,hcw,hb4⟩;have t0:obj w4 pb=some (.cells (ah6 4 0 90 (.slice (some ⟨ob,oo,none⟩) own.length oc)) 61 (0,0)):=aq7 (by assumption) hb4;have jE:Below w3.heap.size w3 w4:=b8o (by assumption) hb4;have po4:=aRj me 4 0 90 2 (azh hcw) (show (Value.slice none 0 0).oneCell' = true from rfl);(try have n14:=aq7 nz hb4);(try have n14:=aq7 nz4 hb4);have HCW:=Lib.hid hcw;clear hcw;dsimp only))
  all_goals (repeat' go_step)
  all_goals go_meet
  all_goals first
   | exact ⟨_,w,rfl,rfl,aff _ _ _ rfl,HCW.out.below ((Below.refl _ _).alloc (Nat.le_refl _) _),ab6 t0 _,jE.alloc jE.size _⟩
   | exact ⟨_,w,rfl,rfl,(by rw [ajb,n14];rfl),aZ3 HCW.out n14 (by decide) (fun y hy=>setRow_other _ _ _ _ hy),(setRow_other _ _ _ _ (by omega)).trans t0,below_setRow jE (by omega) _⟩
 case rest =>
  obtain ⟨ag,w,rfl,rfl,e0,hcw,e1,jx⟩:=hcut
  have jW:=jB.trans (jx.mono jB.size)
  have po2:=aRj me 4 0 90 2 (azh hcw) (show (Value.slice none 0 0).oneCell' = true from rfl)
  have e4:=aq7 q4 jx
  have hv:=HVW.out.below jx
  clear HG q3 r3 r3' q0 r0 r0' r4 nz nz4 jD jD2 jD4 q4 HVW jB jx p0 lp
  rename World=>wa
  have lag:=ah1 e0
  repeat' (first | go_skip | go_guarded | go_step | go_upon)
  have bk7:obj (wa.alloc (.cells ((ownRow me 4 0 90 2 w (.slice none 0 0)).setIfInBounds 4 (.int .i64 5)) 28 (0,0))) wa.heap.size=some (.cells (ownRow me 4 0 90 5 w (.slice none 0 0)) 28 (0,0)):=by
   rw [bWk];exact aff _ _ _ rfl
  have jx:Below wa.heap.size wa (wa.alloc (.cells ((ownRow me 4 0 90 2 w (.slice none 0 0)).setIfInBounds 4 (.int .i64 5)) 28 (0,0))):=(Below.refl _ _).alloc (Nat.le_refl _) _
  generalize (wa.alloc (.cells ((ownRow me 4 0 90 2 w (.slice none 0 0)).setIfInBounds 4 (.int .i64 5)) 28 (0,0)))=wb at *
  have po5:=aRj me 4 0 90 5 (azh hcw) (show (Value.slice none 0 0).oneCell' = true from rfl)
  have HCW:=Lib.hid hcw
  have hbw:=hcw.below (show Below wa.heap.size wa wb from jx)
  have bVi:Below wa.heap.size wa wb:=jx
  have buq:=jW.trans (jx.mono jW.size)
  have bFu:=aq7 e1 jx
  have bFr:=aq7 e4 jx
  have bVo:=hv.below jx
  have bDu:=aq7 e0 jx
  clear jW e0 e1 e4 hv hcw jx lag
  have HBG : ∃ bg,bg=wa.heap.size:=⟨_,rfl⟩
  obtain ⟨bg,hbg⟩:=HBG
  rw [← hbg] at bk7
  simp only [← hbg]
  clear hbg
  have HOW:=Lib.hid (byx (me:=me) hbw)
  have HRW:=Lib.hid (fun W' (hb:Below wb.heap.size wb W')=>bba hl (bVo.below hb) (HR0.out.below (buq.trans (hb.mono buq.size))))
  have HTX:=Lib.hid (fun W' (hb:Below wb.heap.size wb W')=>HTW.out W' (buq.trans (hb.mono buq.size)))
  have HFD:=Lib.hid (fun W' lv ys (hb:Below wb.heap.size wb W') (hx:b9w 0 W' lv ys) (hz:ys.length≤10) (hok:∀ i,i < ys.length→bg7 (ys.getD i aum))=>bca hl hme (HOW.out.below hb) (by first | omega | (simp;done)) hx (by omega) hok (HTX.out W' hb).2.1 (HTX.out W' hb).2.2)
  repeat' (first | go_skip | go_guarded | go_step | go_upon)
  have q0:obj wb.drew bg=_:=bk7
  have q1:obj wb.drew pb=_:=bFu
  have q4:obj wb.drew W.heap.size=_:=bFr
  have r0:=ab6 q0 (.cells #[.int .i64 0,.int .i64 0,.int .i64 0,.int .i64 0,.int .i64 0,.slice none 0 0,.slice none 0 0] 28 (0,0))
  have r1:=ab6 q1 (.cells #[.int .i64 0,.int .i64 0,.int .i64 0,.int .i64 0,.int .i64 0,.slice none 0 0,.slice none 0 0] 28 (0,0))
  have x0:=(abm q4 0).trans (show (#[Value.slice ra m rc,.slice sa n2 sc]:Array Value)[0]? = some (.slice ra m rc) from rfl)
  have x1:=(abm (ab6 q4 (.cells #[.int .i64 0,.int .i64 0,.int .i64 0,.int .i64 0,.int .i64 0,.slice none 0 0,.slice none 0 0] 28 (0,0))) 0).trans (show (#[Value.slice ra m rc,.slice sa n2 sc]:Array Value)[0]? = some (.slice ra m rc) from rfl)
  have x2:=(abm (ab6 bFr (.cells #[.int .i64 0,.int .i64 0,.int .i64 0,.int .i64 0,.int .i64 0,.slice none 0 0,.slice none 0 0] 28 (0,0))) 0).trans (show (#[Value.slice ra m rc,.slice sa n2 sc]:Array Value)[0]? = some (.slice ra m rc) from rfl)
  have r0':obj (wb.alloc (.cells #[.int .i64 0,.int .i64 0,.int .i64 0,.int .i64 0,.int .i64 0,.slice none 0 0,.slice none 0 0] 28 (0,0))).drew bg=_:=ab6 bk7 (.cells #[.int .i64 0,.int .i64 0,.int .i64 0,.int .i64 0,.int .i64 0,.slice none 0 0,.slice none 0 0] 28 (0,0))
  have r1':obj (wb.alloc (.cells #[.int .i64 0,.int .i64 0,.int .i64 0,.int .i64 0,.int .i64 0,.slice none 0 0,.slice none 0 0] 28 (0,0))).drew pb=_:=ab6 bFu (.cells #[.int .i64 0,.int .i64 0,.int .i64 0,.int .i64 0,.int .i64 0,.slice none 0 0,.slice none 0 0] 28 (0,0))
  have x3':obj (wb.alloc (.cells #[.int .i64 0,.int .i64 0,.int .i64 0,.int .i64 0,.int .i64 0,.slice none 0 0,.slice none 0 0] 28 (0,0))).drew W.heap.size=_:=ab6 bFr (.cells #[.int .i64 0,.int .i64 0,.int .i64 0,.int .i64 0,.int .i64 0,.slice none 0 0,.slice none 0 0] 28 (0,0))
  have x3:=(abm x3' 0).trans (show (#[Value.slice ra m rc,.slice sa n2 sc]:Array Value)[0]? = some (.slice ra m rc) from rfl)
  have bCp:=ab6 bk7 (.cells #[.int .i64 0,.int .i64 0,.int .i64 0,.int .i64 0,.int .i64 0,.slice none 0 0,.slice none 0 0] 28 (0,0))
  have bCo:=ab6 bFu (.cells #[.int .i64 0,.int .i64 0,.int .i64 0,.int .i64 0,.int .i64 0,.slice none 0 0,.slice none 0 0] 28 (0,0))
  have jD:Below wb.heap.size wb wb.drew:=(Below.refl _ _).drew
  have jD2:=jD.alloc jD.size (.cells #[.int .i64 0,.int .i64 0,.int .i64 0,.int .i64 0,.int .i64 0,.slice none 0 0,.slice none 0 0] 28 (0,0))
  have jD4:Below wb.heap.size wb (wb.alloc (.cells #[.int .i64 0,.int .i64 0,.int .i64 0,.int .i64 0,.int .i64 0,.slice none 0 0,.slice none 0 0] 28 (0,0))).drew:=((Below.refl _ _).alloc (Nat.le_refl _) (.cells #[.int .i64 0,.int .i64 0,.int .i64 0,.int .i64 0,.int .i64 0,.slice none 0 0,.slice none 0 0] 28 (0,0))).drew
  have nz:obj (wb.drew.alloc (.cells #[.int .i64 0,.int .i64 0,.int .i64 0,.int .i64 0,.int .i64 0,.slice none 0 0,.slice none 0 0] 28 (0,0))) wb.heap.size=some (.cells #[.int .i64 0,.int .i64 0,.int .i64 0,.int .i64 0,.int .i64 0,.slice none 0 0,.slice none 0 0] 28 (0,0)):=aff _ _ _ rfl
  have nz4:obj (wb.alloc (.cells #[.int .i64 0,.int .i64 0,.int .i64 0,.int .i64 0,.int .i64 0,.slice none 0 0,.slice none 0 0] 28 (0,0))).drew wb.heap.size=some (.cells #[.int .i64 0,.int .i64 0,.int .i64 0,.int .i64 0,.int .i64 0,.slice none 0 0,.slice none 0 0] 28 (0,0)):=aff _ _ _ rfl
  have lg:=ah1 bk7
  clear q4 x3'
  go_cut [13] from 37 to 42 (fun v wx => ∃ g2 b94 ph2 ps2 ys,v=.pointer (some ⟨g2,0,none⟩)∧obj wx g2=some (.cells b94 28 (0,0))∧bip wx b94 me 4 0 90 own ph2 ps2∧ps2.length≤10∧(bb7 4 0 90 own).fed ⟨5,[]⟩ ys=⟨ph2,ps2.map (·.1)⟩∧Below wb.heap.size wb wx)
  case first =>
   go_region_law (first | ((go_simp;go_at_call 31;((with_reducible refine (HRW.out _ (by assumption)).mono ?_));rintro e w5 ⟨lv,ys,rfl,hlv,hyz,hyo,hb5⟩;have s0:obj w5 bg=some (.cells (ownRow me 4 0 90 5 w (.slice none 0 0)) 28 (0,0)):=aq7 (by assumption) hb5;have jF:Below wb.heap.size wb w5:=b8o (by assumption) hb5;have u0:=ab6 s0 (.cells #[.int .i64 0,.int .i64 0,.int .i64 0,.int .i64 0,.int .i64 0,.slice none 0 0,.slice none 0 0] 28 (0,0));have jF2:=jF.alloc jF.size (.cells #[.int .i64 0,.int .i64 0,.int .i64 0,.int .i64 0,.int .i64 0,.slice none 0 0,.slice none 0 0] 28 (0,0));have hlv2:b9w 0 (w5.alloc (.cells #[.int .i64 0,.int .i64 0,.int .i64 0,.int .i64 0,.int .i64 0,.slice none 0 0,.slice none 0 0] 28 (0,0))) lv ys:=hlv.below ((Below.refl _ _).alloc (Nat.le_refl _) (.cells #[.int .i64 0,.int .i64 0,.int .i64 0,.int .i64 0,.int .i64 0,.slice none 0 0,.slice none 0 0] 28 (0,0)));have n5:obj (w5.alloc (.cells #[.int .i64 0,.int .i64 0,.int .i64 0,.int .i64 0,.int .i64 0,.slice none 0 0,.slice none 0 0] 28 (0,0))) w5.heap.size=some (.cells #[.int .i64 0,.int .i64 0,.int .i64 0,.int .i64 0,.int .i64 0,.slice none 0 0,.slice none 0 0] 28 (0,0)):=aff _ _ _ rfl;(try have n15:=aq7 nz hb5);(try have n15:=aq7 nz4 hb5);dsimp only)) | ((go_simp;go_at_call 30;((with_reducible refine (HFD.out _ _ _ (by assumption) (by assumption) hyz hyo).mono ?_));rintro e w6 ⟨b94,ph2,ps2,rfl,hP2,hz2,hF2,hb6⟩;obtain ⟨y7,ya,yo,y4⟩:=b8z hP2;have jG:Below wb.heap.size wb w6:=b8o (by assumption) hb6;(try have n56:=aq7 n5 hb6);(try have n156:=aq7 n15 hb6);have HP:=Lib.hid hP2;have HF:=Lib.hid hF2;have HZ:ps2.length≤10:=(by first | omega | (simp at hz2;omega));clear hP2 hF2 hz2 y4;dsimp only)))
   all_goals (repeat' go_step)
   all_goals go_meet
   all_goals first
    | exact ⟨_,b94,ph2,ps2,ys,rfl,aff _ _ _ rfl,HP.out.below ((Below.refl _ _).alloc (Nat.le_refl _) _),HZ,HF.out,jG.alloc jG.size _⟩
    | exact ⟨_,b94,ph2,ps2,ys,rfl,(by rw [ajb,n56];rfl),HP.out.keep n56 (by decide) (by decide) (by decide) (fun y hy=>setRow_other _ _ _ _ hy),HZ,HF.out,below_setRow jG (by have:=jF.size;omega) _⟩
    | exact ⟨_,b94,ph2,ps2,ys,rfl,(by rw [ajb,n156];rfl),HP.out.keep n156 (by decide) (by decide) (by decide) (fun y hy=>setRow_other _ _ _ _ hy),HZ,HF.out,below_setRow jG (by omega) _⟩
  case rest =>
   clear q0 q1 r0 r1 r0' r1' bCp bCo jD jD2 jD4 nz nz4 x0 x1 x2 x3 lg HOW HRW HTX HFD
   obtain ⟨bqg,bqrow,bqph,bqps,bqys,rfl,bwr,bqP,bqz,bqF,jy⟩:=hcut
   rename World=>wc
   have bEl:=buq.trans (jy.mono buq.size)
   have bVh:=bVi.trans (jy.mono bVi.size)
   have bW7:=aq7 bFu jy
   have c3t:=aq7 bFr jy
   have bVn:=bVo.below jy
   have bDt:=aq7 bDu jy
   clear buq bVi bFu bFr bVo bDu
   obtain ⟨bq7,bqa,bqo,bq4⟩:=b8z bqP
   clear jy
   have xG:=(bux own).fed bqys
   have x45:=Go.Rv.c89 (p:=bb7 4 0 90 own) (s:=⟨5,[]⟩) (.inr rfl) bqys
   rw [bqF] at xG x45
   dsimp only at x45
   clear bqF hbw po5
   have HC7:=Lib.hid (fun W' (hb:Below wc.heap.size wc W')=>blw hl hi0 (HTW.out W' (bEl.trans (hb.mono bEl.size))).1 (bVn.below hb))
   have XG:=Lib.hid xG
   have BP:=Lib.hid bqP
   clear xG
   repeat' (first | go_skip | go_guarded | go_step | go_upon)
   have q1:obj wc.drew pb=_:=bW7
   have q3:=(abm q1 3).trans (bcz _ _ _ _)
   have jD:Below wc.heap.size wc wc.drew:=(Below.refl _ _).drew
   go_cut [14,15] from 43 to 53 (fun v14 v15 wx => ∃ gs c,v15=.bool true∧b9w 0 wx v14 (gs ++ [c])∧GrL own own gs∧CmP own c∧Below wc.heap.size wc wx)
   case first =>
    go_region_law ((go_simp;go_at_call 37;((with_reducible refine (HC7.out _ (by assumption)).mono ?_));rintro e w7 ⟨lv,gs,c,rfl,hlv,hg,hc,_,hb7⟩;have jE:Below wc.heap.size wc w7:=b8o (by assumption) hb7;have HLV:=Lib.hid hlv;have HGS:=Lib.hid hg;have HCM:=Lib.hid hc;clear hlv hg hc;dsimp only))
    all_goals (repeat' go_step)
    all_goals go_meet
    all_goals exact ⟨gs,c,rfl,HLV.out,HGS.out,HCM.out,jE⟩
   case rest =>
    clear q1 q3 jD HC7
    obtain ⟨gs,c,rfl,hlv,hg,hc,jy⟩:=hcut
    rename World=>wd
    have bEk:=bEl.trans (jy.mono bEl.size)
    have bVg:=bVh.trans (jy.mono bVh.size)
    have c3u:=aq7 bW7 jy
    have c3s:=aq7 c3t jy
    have c2y:=bVn.below jy
    have bDs:=aq7 bDt jy
    have bwq:=aq7 bwr jy
    clear bEl bVh bW7 c3t bVn bDt bwr
    have c38:(gs ++ [c]).length≤400:=by rw [List.length_append,hg.len];have:=(by decide:∀ l∈b95,l.length≤4) own hl;simp;omega
    have HF8:=Lib.hid (bca hl hme (BP.out.below jy) (by omega) hlv c38 (c3e hg hc) (HTW.out wd bEk).2.1 (HTW.out wd bEk).2.2)
    have HSM:=Lib.hid (Go.Rv.bMu XG.out x45 (gs ++ [c]) (bVv hg hc))
    clear jy hlv hg hc c38 XG BP
    repeat' (first | (go_at_call 30;((with_reducible refine (HF8.out).mono ?_));rintro e w8 ⟨c60,cph,cps,rfl,cP,cz,cF,hb8⟩;obtain ⟨c7,ca,co,c4⟩:=b8z cP;have CF:=Lib.hid cF;clear cF cz cP;dsimp only) | go_skip | go_guarded | go_step | go_upon)
    have hcph:cph=bqph:=by
     have:=HSM.out
     rw [CF.out] at this
     exact this
    subst hcph
    have jy:=hb8.alloc hb8.size (.cells c60 28 (0,0))
    have bDr:obj (w8.alloc (.cells c60 28 (0,0))) w8.heap.size=some (.cells c60 28 (0,0)):=aff _ _ _ rfl
    generalize w8.alloc (.cells c60 28 (0,0))=we at *
    generalize w8.heap.size=cg at *
    clear hb8 HSM CF HF8
    have bup:=bEk.trans (jy.mono bEk.size)
    have bMb:=bVg.trans (jy.mono bVg.size)
    have bFt:=aq7 c3u jy
    have bFq:=aq7 c3s jy
    have bVm:=c2y.below jy
    have boa:=aq7 bDs jy
    have bwp:=aq7 bwq jy
    clear bEk bVg c3u c3s c2y bDs bwq
    clear jy
    have HOW:=Lib.hid (bk5 (me:=me) (HCW.out.below bMb))
    have HRW:=Lib.hid (fun W' (hb:Below we.heap.size we W')=>bba hl (bVm.below hb) (HR0.out.below (bup.trans (hb.mono bup.size))))
    have HTX:=Lib.hid (fun W' (hb:Below we.heap.size we W')=>HTW.out W' (bup.trans (hb.mono bup.size)))
    have HFD:=Lib.hid (fun W' lv ys (hb:Below we.heap.size we W') (hx:b9w 0 W' lv ys) (hz:ys.length≤10) (hok:∀ i,i < ys.length→bg7 (ys.getD i aum))=>bca hl hme (HOW.out.below hb) (by first | omega | (simp;done)) hx (by omega) hok (HTX.out W' hb).2.1 (HTX.out W' hb).2.2)
    repeat' (first | go_skip | go_guarded | go_step | go_upon)
    have q0:obj we.drew ag=_:=boa
    have q1:obj we.drew pb=_:=bFt
    have q4:obj we.drew W.heap.size=_:=bFq
    have r0:=ab6 q0 (.cells #[.int .i64 0,.int .i64 0,.int .i64 0,.int .i64 0,.int .i64 0,.slice none 0 0,.slice none 0 0] 28 (0,0))
    have r1:=ab6 q1 (.cells #[.int .i64 0,.int .i64 0,.int .i64 0,.int .i64 0,.int .i64 0,.slice none 0 0,.slice none 0 0] 28 (0,0))
    have x0:=(abm q4 0).trans (show (#[Value.slice ra m rc,.slice sa n2 sc]:Array Value)[0]? = some (.slice ra m rc) from rfl)
    have x1:=(abm (ab6 q4 (.cells #[.int .i64 0,.int .i64 0,.int .i64 0,.int .i64 0,.int .i64 0,.slice none 0 0,.slice none 0 0] 28 (0,0))) 0).trans (show (#[Value.slice ra m rc,.slice sa n2 sc]:Array Value)[0]? = some (.slice ra m rc) from rfl)
    have x2:=(abm (ab6 bFq (.cells #[.int .i64 0,.int .i64 0,.int .i64 0,.int .i64 0,.int .i64 0,.slice none 0 0,.slice none 0 0] 28 (0,0))) 0).trans (show (#[Value.slice ra m rc,.slice sa n2 sc]:Array Value)[0]? = some (.slice ra m rc) from rfl)
    have r0':obj (we.alloc (.cells #[.int .i64 0,.int .i64 0,.int .i64 0,.int .i64 0,.int .i64 0,.slice none 0 0,.slice none 0 0] 28 (0,0))).drew ag=_:=ab6 boa (.cells #[.int .i64 0,.int .i64 0,.int .i64 0,.int .i64 0,.int .i64 0,.slice none 0 0,.slice none 0 0] 28 (0,0))
    have r1':obj (we.alloc (.cells #[.int .i64 0,.int .i64 0,.int .i64 0,.int .i64 0,.int .i64 0,.slice none 0 0,.slice none 0 0] 28 (0,0))).drew pb=_:=ab6 bFt (.cells #[.int .i64 0,.int .i64 0,.int .i64 0,.int .i64 0,.int .i64 0,.slice none 0 0,.slice none 0 0] 28 (0,0))
    have x3':obj (we.alloc (.cells #[.int .i64 0,.int .i64 0,.int .i64 0,.int .i64 0,.int .i64 0,.slice none 0 0,.slice none 0 0] 28 (0,0))).drew W.heap.size=_:=ab6 bFq (.cells #[.int .i64 0,.int .i64 0,.int .i64 0,.int .i64 0,.int .i64 0,.slice none 0 0,.slice none 0 0] 28 (0,0))
    have x3:=(abm x3' 0).trans (show (#[Value.slice ra m rc,.slice sa n2 sc]:Array Value)[0]? = some (.slice ra m rc) from rfl)
    have bCp:=ab6 boa (.cells #[.int .i64 0,.int .i64 0,.int .i64 0,.int .i64 0,.int .i64 0,.slice none 0 0,.slice none 0 0] 28 (0,0))
    have bCo:=ab6 bFt (.cells #[.int .i64 0,.int .i64 0,.int .i64 0,.int .i64 0,.int .i64 0,.slice none 0 0,.slice none 0 0] 28 (0,0))
    have jD:Below we.heap.size we we.drew:=(Below.refl _ _).drew
    have jD2:=jD.alloc jD.size (.cells #[.int .i64 0,.int .i64 0,.int .i64 0,.int .i64 0,.int .i64 0,.slice none 0 0,.slice none 0 0] 28 (0,0))
    have jD4:Below we.heap.size we (we.alloc (.cells #[.int .i64 0,.int .i64 0,.int .i64 0,.int .i64 0,.int .i64 0,.slice none 0 0,.slice none 0 0] 28 (0,0))).drew:=((Below.refl _ _).alloc (Nat.le_refl _) (.cells #[.int .i64 0,.int .i64 0,.int .i64 0,.int .i64 0,.int .i64 0,.slice none 0 0,.slice none 0 0] 28 (0,0))).drew
    have nz:obj (we.drew.alloc (.cells #[.int .i64 0,.int .i64 0,.int .i64 0,.int .i64 0,.int .i64 0,.slice none 0 0,.slice none 0 0] 28 (0,0))) we.heap.size=some (.cells #[.int .i64 0,.int .i64 0,.int .i64 0,.int .i64 0,.int .i64 0,.slice none 0 0,.slice none 0 0] 28 (0,0)):=aff _ _ _ rfl
    have nz4:obj (we.alloc (.cells #[.int .i64 0,.int .i64 0,.int .i64 0,.int .i64 0,.int .i64 0,.slice none 0 0,.slice none 0 0] 28 (0,0))).drew we.heap.size=some (.cells #[.int .i64 0,.int .i64 0,.int .i64 0,.int .i64 0,.int .i64 0,.slice none 0 0,.slice none 0 0] 28 (0,0)):=aff _ _ _ rfl
    have lg:=ah1 boa
    clear q4 x3'
    go_cut [17] from 57 to 62 (fun v wx => ∃ g2 b94 ph2 ps2 ys,v=.pointer (some ⟨g2,0,none⟩)∧obj wx g2=some (.cells b94 28 (0,0))∧bip wx b94 me 4 0 90 own ph2 ps2∧ps2.length≤10∧(bb7 4 0 90 own).fed ⟨2,[]⟩ ys=⟨ph2,ps2.map (·.1)⟩∧Below we.heap.size we wx)
    case first =>
     go_region_law (first | ((go_simp;go_at_call 31;((with_reducible refine (HRW.out _ (by assumption)).mono ?_));rintro e w5 ⟨lv,ys,rfl,hlv,hyz,hyo,hb5⟩;have s0:obj w5 ag=some (.cells (ownRow me 4 0 90 2 w (.slice none 0 0)) 28 (0,0)):=aq7 (by assumption) hb5;have jF:Below we.heap.size we w5:=b8o (by assumption) hb5;have u0:=ab6 s0 (.cells #[.int .i64 0,.int .i64 0,.int .i64 0,.int .i64 0,.int .i64 0,.slice none 0 0,.slice none 0 0] 28 (0,0));have jF2:=jF.alloc jF.size (.cells #[.int .i64 0,.int .i64 0,.int .i64 0,.int .i64 0,.int .i64 0,.slice none 0 0,.slice none 0 0] 28 (0,0));have hlv2:b9w 0 (w5.alloc (.cells #[.int .i64 0,.int .i64 0,.int .i64 0,.int .i64 0,.int .i64 0,.slice none 0 0,.slice none 0 0] 28 (0,0))) lv ys:=hlv.below ((Below.refl _ _).alloc (Nat.le_refl _) (.cells #[.int .i64 0,.int .i64 0,.int .i64 0,.int .i64 0,.int .i64 0,.slice none 0 0,.slice none 0 0] 28 (0,0)));have n5:obj (w5.alloc (.cells #[.int .i64 0,.int .i64 0,.int .i64 0,.int .i64 0,.int .i64 0,.slice none 0 0,.slice none 0 0] 28 (0,0))) w5.heap.size=some (.cells #[.int .i64 0,.int .i64 0,.int .i64 0,.int .i64 0,.int .i64 0,.slice none 0 0,.slice none 0 0] 28 (0,0)):=aff _ _ _ rfl;(try have n15:=aq7 nz hb5);(try have n15:=aq7 nz4 hb5);dsimp only)) | ((go_simp;go_at_call 30;((with_reducible refine (HFD.out _ _ _ (by assumption) (by assumption) hyz hyo).mono ?_));rintro e w6 ⟨b94,ph2,ps2,rfl,hP2,hz2,hF2,hb6⟩;obtain ⟨y7,ya,yo,y4⟩:=b8z hP2;have jG:Below we.heap.size we w6:=b8o (by assumption) hb6;(try have n56:=aq7 n5 hb6);(try have n156:=aq7 n15 hb6);have HP:=Lib.hid hP2;have HF:=Lib.hid hF2;have HZ:ps2.length≤10:=(by first | omega | (simp at hz2;omega));clear hP2 hF2 hz2 y4;dsimp only)))
     all_goals (repeat' go_step)
     all_goals go_meet
     all_goals first
      | exact ⟨_,b94,ph2,ps2,ys,rfl,aff _ _ _ rfl,HP.out.below ((Below.refl _ _).alloc (Nat.le_refl _) _),HZ,HF.out,jG.alloc jG.size _⟩
      | exact ⟨_,b94,ph2,ps2,ys,rfl,(by rw [ajb,n56];rfl),HP.out.keep n56 (by decide) (by decide) (by decide) (fun y hy=>setRow_other _ _ _ _ hy),HZ,HF.out,below_setRow jG (by have:=jF.size;omega) _⟩
      | exact ⟨_,b94,ph2,ps2,ys,rfl,(by rw [ajb,n156];rfl),HP.out.keep n156 (by decide) (by decide) (by decide) (fun y hy=>setRow_other _ _ _ _ hy),HZ,HF.out,below_setRow jG (by omega) _⟩
    case rest =>
     clear q0 q1 r0 r1 r0' r1' bCp bCo jD jD2 jD4 nz nz4 x0 x1 x2 x3 lg HOW HRW HTX HFD
     obtain ⟨oqg,c8e,c0e,c8f,oqys,rfl,bf3,oqP,oqz,oqF,jy⟩:=hcut
     rename World=>wf
     have buo:=bup.trans (jy.mono bup.size)
     have bVf:=bMb.trans (jy.mono bMb.size)
     have bFs:=aq7 bFt jy
     have bFp:=aq7 bFq jy
     have bVl:=bVm.below jy
     have bwo:=aq7 bwp jy
     have bDq:=aq7 bDr jy
     clear bup bMb bFt bFq bVm bwp bDr
     obtain ⟨oq7,oqa,oqo,oq4⟩:=b8z oqP
     clear jy
     have c8r:=Go.Rv.bCs (p:=bb7 4 0 90 own) (s:=⟨2,[]⟩) (.inl rfl) oqys
     rw [oqF] at c8r
     dsimp only at c8r
     clear oqF po2 HCW
     have HOW:=Lib.hid oqP
     have HRW:=Lib.hid (fun W' (hb:Below wf.heap.size wf W')=>bba hl (bVl.below hb) (HR1.out.below (buo.trans (hb.mono buo.size))))
     have HTX:=Lib.hid (fun W' (hb:Below wf.heap.size wf W')=>HTW.out W' (buo.trans (hb.mono buo.size)))
     have HFD:=Lib.hid (fun W' lv ys (hb:Below wf.heap.size wf W') (hx:b9w 0 W' lv ys) (hz:ys.length≤10) (hok:∀ i,i < ys.length→bg7 (ys.getD i aum))=>bca hl hme (HOW.out.below hb) (by first | omega | (simp;done)) hx (by omega) hok (HTX.out W' hb).2.1 (HTX.out W' hb).2.2)
     repeat' (first | go_skip | go_guarded | go_step | go_upon)
     have q0:obj wf.drew oqg=_:=bf3
     have q1:obj wf.drew pb=_:=bFs
     have q4:obj wf.drew W.heap.size=_:=bFp
     have r0:=ab6 q0 (.cells #[.int .i64 0,.int .i64 0,.int .i64 0,.int .i64 0,.int .i64 0,.slice none 0 0,.slice none 0 0] 28 (0,0))
     have r1:=ab6 q1 (.cells #[.int .i64 0,.int .i64 0,.int .i64 0,.int .i64 0,.int .i64 0,.slice none 0 0,.slice none 0 0] 28 (0,0))
     have x0:=(abm q4 1).trans (show (#[Value.slice ra m rc,.slice sa n2 sc]:Array Value)[1]? = some (.slice sa n2 sc) from rfl)
     have x1:=(abm (ab6 q4 (.cells #[.int .i64 0,.int .i64 0,.int .i64 0,.int .i64 0,.int .i64 0,.slice none 0 0,.slice none 0 0] 28 (0,0))) 1).trans (show (#[Value.slice ra m rc,.slice sa n2 sc]:Array Value)[1]? = some (.slice sa n2 sc) from rfl)
     have x2:=(abm (ab6 bFp (.cells #[.int .i64 0,.int .i64 0,.int .i64 0,.int .i64 0,.int .i64 0,.slice none 0 0,.slice none 0 0] 28 (0,0))) 1).trans (show (#[Value.slice ra m rc,.slice sa n2 sc]:Array Value)[1]? = some (.slice sa n2 sc) from rfl)
     have r0':obj (wf.alloc (.cells #[.int .i64 0,.int .i64 0,.int .i64 0,.int .i64 0,.int .i64 0,.slice none 0 0,.slice none 0 0] 28 (0,0))).drew oqg=_:=ab6 bf3 (.cells #[.int .i64 0,.int .i64 0,.int .i64 0,.int .i64 0,.int .i64 0,.slice none 0 0,.slice none 0 0] 28 (0,0))
     have r1':obj (wf.alloc (.cells #[.int .i64 0,.int .i64 0,.int .i64 0,.int .i64 0,.int .i64 0,.slice none 0 0,.slice none 0 0] 28 (0,0))).drew pb=_:=ab6 bFs (.cells #[.int .i64 0,.int .i64 0,.int .i64 0,.int .i64 0,.int .i64 0,.slice none 0 0,.slice none 0 0] 28 (0,0))
     have x3':obj (wf.alloc (.cells #[.int .i64 0,.int .i64 0,.int .i64 0,.int .i64 0,.int .i64 0,.slice none 0 0,.slice none 0 0] 28 (0,0))).drew W.heap.size=_:=ab6 bFp (.cells #[.int .i64 0,.int .i64 0,.int .i64 0,.int .i64 0,.int .i64 0,.slice none 0 0,.slice none 0 0] 28 (0,0))
     have x3:=(abm x3' 1).trans (show (#[Value.slice ra m rc,.slice sa n2 sc]:Array Value)[1]? = some (.slice sa n2 sc) from rfl)
     have bCp:=ab6 bf3 (.cells #[.int .i64 0,.int .i64 0,.int .i64 0,.int .i64 0,.int .i64 0,.slice none 0 0,.slice none 0 0] 28 (0,0))
     have bCo:=ab6 bFs (.cells #[.int .i64 0,.int .i64 0,.int .i64 0,.int .i64 0,.int .i64 0,.slice none 0 0,.slice none 0 0] 28 (0,0))
     have jD:Below wf.heap.size wf wf.drew:=(Below.refl _ _).drew
     have jD2:=jD.alloc jD.size (.cells #[.int .i64 0,.int .i64 0,.int .i64 0,.int .i64 0,.int .i64 0,.slice none 0 0,.slice none 0 0] 28 (0,0))
     have jD4:Below wf.heap.size wf (wf.alloc (.cells #[.int .i64 0,.int .i64 0,.int .i64 0,.int .i64 0,.int .i64 0,.slice none 0 0,.slice none 0 0] 28 (0,0))).drew:=((Below.refl _ _).alloc (Nat.le_refl _) (.cells #[.int .i64 0,.int .i64 0,.int .i64 0,.int .i64 0,.int .i64 0,.slice none 0 0,.slice none 0 0] 28 (0,0))).drew
     have nz:obj (wf.drew.alloc (.cells #[.int .i64 0,.int .i64 0,.int .i64 0,.int .i64 0,.int .i64 0,.slice none 0 0,.slice none 0 0] 28 (0,0))) wf.heap.size=some (.cells #[.int .i64 0,.int .i64 0,.int .i64 0,.int .i64 0,.int .i64 0,.slice none 0 0,.slice none 0 0] 28 (0,0)):=aff _ _ _ rfl
     have nz4:obj (wf.alloc (.cells #[.int .i64 0,.int .i64 0,.int .i64 0,.int .i64 0,.int .i64 0,.slice none 0 0,.slice none 0 0] 28 (0,0))).drew wf.heap.size=some (.cells #[.int .i64 0,.int .i64 0,.int .i64 0,.int .i64 0,.int .i64 0,.slice none 0 0,.slice none 0 0] 28 (0,0)):=aff _ _ _ rfl
     have lg:=ah1 bf3
     clear q4 x3'
     go_cut [18] from 63 to 68 (fun v wx => ∃ g2 b94 ph2 ps2 ys,v=.pointer (some ⟨g2,0,none⟩)∧obj wx g2=some (.cells b94 28 (0,0))∧bip wx b94 me 4 0 90 own ph2 ps2∧ps2.length≤20∧(bb7 4 0 90 own).fed ⟨c0e,(c8f.map (·.1))⟩ ys=⟨ph2,ps2.map (·.1)⟩∧Below wf.heap.size wf wx)
     case first =>
      go_region_law (first | ((go_simp;go_at_call 31;((with_reducible refine (HRW.out _ (by assumption)).mono ?_));rintro e w5 ⟨lv,ys,rfl,hlv,hyz,hyo,hb5⟩;have s0:obj w5 oqg=some (.cells c8e 28 (0,0)):=aq7 (by assumption) hb5;have jF:Below wf.heap.size wf w5:=b8o (by assumption) hb5;have u0:=ab6 s0 (.cells #[.int .i64 0,.int .i64 0,.int .i64 0,.int .i64 0,.int .i64 0,.slice none 0 0,.slice none 0 0] 28 (0,0));have jF2:=jF.alloc jF.size (.cells #[.int .i64 0,.int .i64 0,.int .i64 0,.int .i64 0,.int .i64 0,.slice none 0 0,.slice none 0 0] 28 (0,0));have hlv2:b9w 0 (w5.alloc (.cells #[.int .i64 0,.int .i64 0,.int .i64 0,.int .i64 0,.int .i64 0,.slice none 0 0,.slice none 0 0] 28 (0,0))) lv ys:=hlv.below ((Below.refl _ _).alloc (Nat.le_refl _) (.cells #[.int .i64 0,.int .i64 0,.int .i64 0,.int .i64 0,.int .i64 0,.slice none 0 0,.slice none 0 0] 28 (0,0)));have n5:obj (w5.alloc (.cells #[.int .i64 0,.int .i64 0,.int .i64 0,.int .i64 0,.int .i64 0,.slice none 0 0,.slice none 0 0] 28 (0,0))) w5.heap.size=some (.cells #[.int .i64 0,.int .i64 0,.int .i64 0,.int .i64 0,.int .i64 0,.slice none 0 0,.slice none 0 0] 28 (0,0)):=aff _ _ _ rfl;(try have n15:=aq7 nz hb5);(try have n15:=aq7 nz4 hb5);dsimp only)) | ((go_simp;go_at_call 30;((with_reducible refine (HFD.out _ _ _ (by assumption) (by assumption) hyz hyo).mono ?_));rintro e w6 ⟨b94,ph2,ps2,rfl,hP2,hz2,hF2,hb6⟩;obtain ⟨y7,ya,yo,y4⟩:=b8z hP2;have jG:Below wf.heap.size wf w6:=b8o (by assumption) hb6;(try have n56:=aq7 n5 hb6);(try have n156:=aq7 n15 hb6);have HP:=Lib.hid hP2;have HF:=Lib.hid hF2;have HZ:ps2.length≤20:=(by first | omega | (simp at hz2;omega));clear hP2 hF2 hz2 y4;dsimp only)))
      all_goals (repeat' go_step)
      all_goals go_meet
      all_goals first
       | exact ⟨_,b94,ph2,ps2,ys,rfl,aff _ _ _ rfl,HP.out.below ((Below.refl _ _).alloc (Nat.le_refl _) _),HZ,HF.out,jG.alloc jG.size _⟩
       | exact ⟨_,b94,ph2,ps2,ys,rfl,(by rw [ajb,n56];rfl),HP.out.keep n56 (by decide) (by decide) (by decide) (fun y hy=>setRow_other _ _ _ _ hy),HZ,HF.out,below_setRow jG (by have:=jF.size;omega) _⟩
       | exact ⟨_,b94,ph2,ps2,ys,rfl,(by rw [ajb,n156];rfl),HP.out.keep n156 (by decide) (by decide) (by decide) (fun y hy=>setRow_other _ _ _ _ hy),HZ,HF.out,below_setRow jG (by omega) _⟩
     case rest =>
      clear q0 q1 r0 r1 r0' r1' bCp bCo jD jD2 jD4 nz nz4 x0 x1 x2 x3 lg HOW HRW HTX HFD
      obtain ⟨mqg,mqrow,mqph,mqps,mqys,rfl,bwm,mqP,mqz,mqF,jy⟩:=hcut
      rename World=>wg
      have c96:=buo.trans (jy.mono buo.size)
      have jA_wg:=bVf.trans (jy.mono bVf.size)
      have ca5:=aq7 bFs jy
      have ca4:=aq7 bFp jy
      have c9d:=bVl.below jy
      have bwn:=aq7 bwo jy
      have bDp:=aq7 bDq jy
      have bwl:=aq7 bf3 jy
      clear buo bVf bFs bFp bVl bwo bDq bf3
      obtain ⟨mq7,mqa,mqo,mq4⟩:=b8z mqP
      clear jy
      have m3:c0e=3→mqph=3:=fun e=>by
       have:=Go.Rv.c9u (p:=bb7 4 0 90 own) (s:=⟨c0e,c8f.map (·.1)⟩) e mqys
       rw [mqF] at this
       exact this
      have m4:c0e=4→mqph=4:=fun e=>by
       have:=Go.Rv.c3i (p:=bb7 4 0 90 own) (s:=⟨c0e,c8f.map (·.1)⟩) e mqys
       rw [mqF] at this
       exact this
      have f13:=(abm bwn 4).trans bq4
      have f16:=(abm bDp 4).trans c4
      have f17:=(abm bwl 4).trans oq4
      have f18:=(abm bwm 4).trans mq4
      clear mqF bwn bDp bwl bwm ca5 ca4 c9d bqP oqP mqP bq4 c4 oq4 mq4 HR0 HR1 HTW
      rcases x45 with rfl | rfl<;>rcases c8r with rfl | rfl | rfl
      all_goals (try obtain rfl:=m3 rfl)
      all_goals (try obtain rfl:=m4 rfl)
      all_goals clear m3 m4
      all_goals (repeat' (first | go_skip | go_guarded | go_step | go_upon))
      all_goals go_ret
      all_goals exact ⟨rfl,c96⟩
end Go.Proofs.YtlnlbdfokmhelaaGreatDoor
