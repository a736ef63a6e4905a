/-
  An owner fed with letters.
-/
import Derived.Test.YtlnlbdfokmhelaaGreatDoorPkRm
set_option linter.unusedSectionVars false
set_option linter.constructorNameAsVariable false
set_option linter.unusedVariables false
set_option linter.unusedSimpArgs false
namespace Go.Proofs.YtlnlbdfokmhelaaGreatDoor
open Go.RowKit Go.CE.V Go.Rv
set_option maxRecDepth 20000
set_option maxHeartbeats 4000000
attribute [local irreducible] wpQuiet
theorem aHe {p:a2c} {s:St} {xs:List LN} {k:Nat} (hk:k < xs.length):p.fed s (xs.take (k+1))=p.step (p.fed s (xs.take k)) (xs.getD k a0c):=by
 unfold a2c.fed
 rw [List.take_add_one,List.foldl_append,List.getElem?_eq_getElem hk,List.getD_eq_getElem?_getD,List.getElem?_eq_getElem hk]
 rfl
theorem abp {W:World} {row:Array Value} {me mtg org dl ph:Nat} {own:List Nat} {ps:List (LN×Nat)} (h:ane W row me mtg org dl own ph ps):row.size=7∧row.extract 0 7=row∧ones row=true∧row[4]? = some (.int .i64 ph):=by
 obtain ⟨⟨ov,pv,e,h1,h2⟩,_,_⟩:=h
 subst e
 obtain ⟨bv,⟨pa,pc,e,_⟩,_⟩:=h2
 subst e
 exact ⟨a3p _ _ _ _ _ _ _,axy _ _ _ _ _ _ _,a1y me mtg org dl ph (a0v h1) rfl,a4v _ _ _ _ _ _ _⟩
theorem ane.keep {W W':World} {row c:Array Value} {me mtg org dl b t:Nat} {fr:Nat×Nat} {own:List Nat} {ph:Nat} {ps:List (LN×Nat)} (h:ane W row me mtg org dl own ph ps) (hb:obj W b=some (.cells c t fr)) (h1:3≠t) (h2:78≠t) (h3:5≠t) (hk:∀ x,x≠b→obj W' x=obj W x):ane W' row me mtg org dl own ph ps:=by
 obtain ⟨⟨ov,pv,e,q1,bv,q2,q3⟩,q4,q5⟩:=h
 exact ⟨⟨ov,pv,e,a2m q1 hb h1 hk,bv,aez q2 hb h2 hk,fun i hi=>a96 (q3 i hi) hb h3 hk⟩,q4,q5⟩
def aMr (W:World) (me:Nat) (own:List Nat) (ph:Nat) (ps:List (LN×Nat)) (x:LN) (a4m:Array Value) (n2:Nat):Prop :=
 (n2=0∧∃ ph' ps',ane W a4m me 4 0 90 own ph' ps'∧ps'.length≤ps.length+1∧(a2s 4 0 90 own).admit ⟨ph,ps.map (·.1)⟩ x=0∧(a2s 4 0 90 own).step ⟨ph,ps.map (·.1)⟩ x=⟨ph',ps'.map (·.1)⟩)∨(n2≠0∧(a2s 4 0 90 own).admit ⟨ph,ps.map (·.1)⟩ x≠0∧(a2s 4 0 90 own).step ⟨ph,ps.map (·.1)⟩ x=⟨ph,ps.map (·.1)⟩)
theorem aMr.below {W W':World} {me:Nat} {own:List Nat} {ph:Nat} {ps:List (LN×Nat)} {x:LN} {a4m:Array Value} {n2:Nat} (h:aMr W me own ph ps x a4m n2) (hb:Below W.heap.size W W'):aMr W' me own ph ps x a4m n2:=by
 rcases h with ⟨e,ph',ps',h1,h2⟩ | h
 ·exact .inl ⟨e,ph',ps',h1.below hb,h2⟩
 ·exact .inr h
theorem aMr.keep {W W':World} {me b t:Nat} {c:Array Value} {fr:Nat×Nat} {own:List Nat} {ph:Nat} {ps:List (LN×Nat)} {x:LN} {a4m:Array Value} {n2:Nat} (h:aMr W me own ph ps x a4m n2) (hb:obj W b=some (.cells c t fr)) (h1:3≠t) (h2:78≠t) (h3:5≠t) (hk:∀ x,x≠b→obj W' x=obj W x):aMr W' me own ph ps x a4m n2:=by
 rcases h with ⟨e,ph',ps',q1,q2⟩ | h
 ·exact .inl ⟨e,ph',ps',q1.keep hb h1 h2 h3 hk,q2⟩
 ·exact .inr h
theorem auj {W:World} {kv:Value} {row:Array Value} {me:Nat} {own:List Nat} {ph:Nat} {ps:List (LN×Nat)} {x:LN} {q:Nat} {body:Value} (hl:own∈a2j) (hme:me∈own) (ho:ane W row me 4 0 90 own ph ps) (hz:ps.length≤900) (hk:a7r W kv) (hx:LOk x q) (hbd:Sl 0 W body 5 ((LN.enc x).map fun c=>B8 c.toNat)) (hT:Tab W) (h0w:0 < W.heap.size) :
  Calls Tryz.prog 33 #[.agg row,kv,.agg (a05 x q body).row] W fun e W' => ∃ a4m n2,e=.returned (.tuple #[.agg a4m,.int .i64 (n2:Nat)])∧a4m.size=7∧a4m.extract 0 7=a4m∧ones a4m=true∧aMr W' me own ph ps x a4m n2∧Below W.heap.size W W':=by
 have hn:NumP me 4 0 90 own:=⟨a2h hl,(by decide:∀ l∈a2j,l.length≤4) own hl,hme,by decide,(by decide:∀ l∈a2j,∀ o∈l,o≠0) own hl⟩
 refine (api hn ho hz hk hx hbd hT h0w fun W' v _ hv=>akj hl hv).mono fun e W' ⟨h,hb⟩=>?_
 rcases h with ⟨ha,a4m,ph2,ps2,he,h1,h2,h3⟩ | ⟨ha,a4m,n2,h1,h2,h3,he⟩
 ·obtain ⟨r1,r2,r3,_⟩:=abp h1
  exact ⟨a4m,0,he,r1,r2,r3,.inl ⟨rfl,ph2,ps2,h1,h2,ha,by unfold a2c.step;rw [if_pos ha];exact h3⟩,hb⟩
 ·exact ⟨a4m,n2,he,h1,extract_all _ _ h1,h2,.inr ⟨h3,ha,by unfold a2c.step;rw [if_neg ha]⟩,hb⟩
theorem amk {W:World} {row:Array Value} {lv:Value} {me:Nat} {own:List Nat} {ph:Nat} {ps:List (LN×Nat)} {xs:List LN} (hl:own∈a2j) (hme:me∈own) (ho:ane W row me 4 0 90 own ph ps) (hz:ps.length≤400) (hx:a4w 0 W lv xs) (hxz:xs.length≤400) (hok:∀ i,i < xs.length→ava (xs.getD i a0c)) (hT:Tab W) (h0w:0 < W.heap.size) :
  Calls Tryz.prog 30 #[.agg row,lv] W fun e W' => ∃ row' ph' ps',e=.returned (.agg row')∧ane W' row' me 4 0 90 own ph' ps'∧ps'.length≤ps.length+xs.length∧(a2s 4 0 90 own).fed ⟨ph,ps.map (·.1)⟩ xs=⟨ph',ps'.map (·.1)⟩∧Below W.heap.size W W':=by
 obtain ⟨cv,⟨la,lc,rfl,hlr⟩,hcv⟩:=hx
 have HCV:=Lib.hid hcv
 have HLR:=Lib.hid hlr
 have HOK:=Lib.hid hok
 have HT:=Lib.hid (fun W' (hb:Below W.heap.size W W')=>And.intro (hT.below hb h0w) (Nat.lt_of_lt_of_le h0w hb.size))
 obtain ⟨r7,ra,ro,r4⟩:=abp ho
 have HO:=Lib.hid ho
 clear hcv hlr hok hT r4 ho
 go_enter Tryz.func30,Tryz.ntmps30
 repeat' (first | go_skip | go_guarded | go_step | go_upon)
 go_loopw [5] (fun i wr => ∃ (k:Nat) (row':Array Value) (ph':Nat) (ps':List (LN×Nat)),k≤xs.length∧i=.int .i64 k∧obj wr W.heap.size=some (.cells row' 28 (0,0))∧ane wr row' me 4 0 90 own ph' ps'∧ps'.length≤ps.length+k∧(a2s 4 0 90 own).fed ⟨ph,ps.map (·.1)⟩ (xs.take k)=⟨ph',ps'.map (·.1)⟩∧obj wr (W.heap.size+1)=some (.cells #[.int .i64 0,.int .i64 0,.int .i64 0,.int .i64 0,.int .i64 0,.slice none 0 0,.slice none 0 0] 28 (0,0))∧Below W.heap.size W wr) (fun i _=>(xs.length - intOf i).toNat)
 case atStart =>
  have b2:Below W.heap.size W ((W.alloc (.cells row 28 (0,0))).alloc (.cells #[.int .i64 0,.int .i64 0,.int .i64 0,.int .i64 0,.int .i64 0,.slice none 0 0,.slice none 0 0] 28 (0,0))):=((Below.refl _ _).alloc (Nat.le_refl _) _).alloc (by simp) _
  exact ⟨0,row,ph,ps,by omega,rfl,a02 (a03 _ _ _ rfl) _,HO.out.below b2,by omega,by rw [List.take_zero];rfl,a03 _ _ _ (by simp),b2⟩
 case round =>
  obtain ⟨k,row',ph',ps',hk,rfl,h0,hP,hPz,hF,h1,hB⟩:=hrel
  obtain ⟨s7,sa,so,s4⟩:=abp hP
  have HP:=Lib.hid hP
  have HF:=Lib.hid hF
  clear hF s4
  by_cases hlt:k < xs.length
  ·have i1:(k:Int) < (xs.length:Int):=by omega
   obtain ⟨lb,lo,aM4,rfl,hl1,hl2⟩:=HLR.out (by omega)
   obtain ⟨z0,k2⟩:=hl2 k hlt
   dsimp only at k2
   have z1:(lo+k * 62+62≤aM4.size)=True:=eq_true z0
   have hl:=a00 hl1 hB (a04 hl1)
   have hX:=HOK.out k hlt (1+k) (by omega) (by omega)
   have hc:=(HCV.out k hlt).below hB
   have wq:IntKind.wrap .i64 (1+(k:Int))=1+(k:Int):=by rw [IntKind.wrap_i64];omega
   have e1k:((1+k:Nat):Int)=1+(k:Int):=by omega
   have HST:=Lib.hid (aHe (p:=a2s 4 0 90 own) (s:=⟨ph,ps.map (·.1)⟩) hlt)
   generalize xs.getD k a0c=x at *
   generalize cv k=c at *
   clear hl2 z0 hl1
   have HT2:=Lib.hid (fun (W':World) (hb:Below wr.heap.size wr W')=>HT.out W' (hB.trans (hb.mono hB.size)))
   have HS:=Lib.hid (fun (W':World) (hb:Below wr.heap.size wr W')=>aku (q:=1+k) hX (hc.below hb) (HT2.out W' hb).1 (HT2.out W' hb).2)
   rw [e1k] at HS
   clear e1k
   have HD:=Lib.hid (fun (W':World) kv body (hb:Below wr.heap.size wr W') (hk:a7r W' kv) (hbd:Sl 0 W' body 5 ((LN.enc x).map fun c=>B8 c.toNat))=>auj (q:=1+k) (by assumption) hme (HP.out.below hb) (by omega) hk hX hbd (HT2.out W' hb).1 (HT2.out W' hb).2)
   have lz:=a0e (LN.let x c) hX.ok.ref
   have la:=a15 (LN.let x c) hX.ok.ref
   have lO:=a0y (LN.let x c) (a0v hc)
   have p0:obj wr.drew W.heap.size=_:=h0
   have p1:obj wr.drew (W.heap.size+1)=_:=h1
   have pl:obj wr.drew lb=_:=hl
   have jD:Below wr.heap.size wr wr.drew:=(Below.refl _ _).drew
   have q0:=a02 p0 (.cells #[.int .i64 0,.int .i64 0,.int .i64 0,.int .i64 0,.int .i64 0,.slice none 0 0,.slice none 0 0] 28 (0,0))
   have q1:=a02 p1 (.cells #[.int .i64 0,.int .i64 0,.int .i64 0,.int .i64 0,.int .i64 0,.slice none 0 0,.slice none 0 0] 28 (0,0))
   have ql:=a02 pl (.cells #[.int .i64 0,.int .i64 0,.int .i64 0,.int .i64 0,.int .i64 0,.slice none 0 0,.slice none 0 0] 28 (0,0))
   have q0':=a02 h0 (.cells #[.int .i64 0,.int .i64 0,.int .i64 0,.int .i64 0,.int .i64 0,.slice none 0 0,.slice none 0 0] 28 (0,0))
   have q1':=a02 h1 (.cells #[.int .i64 0,.int .i64 0,.int .i64 0,.int .i64 0,.int .i64 0,.slice none 0 0,.slice none 0 0] 28 (0,0))
   have ql':=a02 hl (.cells #[.int .i64 0,.int .i64 0,.int .i64 0,.int .i64 0,.int .i64 0,.slice none 0 0,.slice none 0 0] 28 (0,0))
   have jD2:=jD.alloc jD.size (.cells #[.int .i64 0,.int .i64 0,.int .i64 0,.int .i64 0,.int .i64 0,.slice none 0 0,.slice none 0 0] 28 (0,0))
   have nz:obj (wr.drew.alloc (.cells #[.int .i64 0,.int .i64 0,.int .i64 0,.int .i64 0,.int .i64 0,.slice none 0 0,.slice none 0 0] 28 (0,0))) wr.heap.size=some (.cells #[.int .i64 0,.int .i64 0,.int .i64 0,.int .i64 0,.int .i64 0,.slice none 0 0,.slice none 0 0] 28 (0,0)):=a03 _ _ _ rfl
   have lt0:=a04 h0
   have lt1:=a04 h1
   repeat' ((fail_if_success (with_reducible refine Go.wp_block ?_));(first | go_skip | go_guarded | go_step | go_upon))
   go_step
   go_step
   go_cut [6,7] from 14 to 26 (fun v6 v7 wx => ∃ n a4m n2,v6=.pointer (some ⟨n,0,none⟩)∧v7=.int .i64 (n2:Nat)∧obj wx n=some (.cells a4m 28 (0,0))∧a4m.size=7∧a4m.extract 0 7=a4m∧ones a4m=true∧aMr wx me own ph' ps' x a4m n2∧obj wx W.heap.size=some (.cells row' 28 (0,0))∧obj wx (W.heap.size+1)=some (.cells #[.int .i64 0,.int .i64 0,.int .i64 0,.int .i64 0,.int .i64 0,.slice none 0 0,.slice none 0 0] 28 (0,0))∧n≠W.heap.size∧n≠W.heap.size+1∧Below wr.heap.size wr wx)
   case first =>
    go_region_law (first | ((go_simp;go_at_call 34;((with_reducible refine (aas _).mono ?_));rintro e w4 ⟨kv,rfl,hkv,hb4⟩;have r0:obj w4 W.heap.size=some (.cells row' 28 (0,0)):=a1w (by assumption) hb4;have r1:obj w4 (W.heap.size+1)=some (.cells #[.int .i64 0,.int .i64 0,.int .i64 0,.int .i64 0,.int .i64 0,.slice none 0 0,.slice none 0 0] 28 (0,0)):=a1w (by assumption) hb4;have rl:obj w4 lb=some (.cells aM4 48 (0,0)):=a1w (by assumption) hb4;have jE:Below wr.heap.size wr w4:=a5m (by assumption) hb4;have t0:=a02 r0 (.cells #[.int .i64 0,.int .i64 0,.int .i64 0,.int .i64 0,.int .i64 0,.slice none 0 0,.slice none 0 0] 28 (0,0));have t1:=a02 r1 (.cells #[.int .i64 0,.int .i64 0,.int .i64 0,.int .i64 0,.int .i64 0,.slice none 0 0,.slice none 0 0] 28 (0,0));have tl:=a02 rl (.cells #[.int .i64 0,.int .i64 0,.int .i64 0,.int .i64 0,.int .i64 0,.slice none 0 0,.slice none 0 0] 28 (0,0));have jE2:=jE.alloc jE.size (.cells #[.int .i64 0,.int .i64 0,.int .i64 0,.int .i64 0,.int .i64 0,.slice none 0 0,.slice none 0 0] 28 (0,0));have hkv2:a7r (w4.alloc (.cells #[.int .i64 0,.int .i64 0,.int .i64 0,.int .i64 0,.int .i64 0,.slice none 0 0,.slice none 0 0] 28 (0,0))) kv:=a5h.below hkv ((Below.refl _ _).alloc (Nat.le_refl _) (.cells #[.int .i64 0,.int .i64 0,.int .i64 0,.int .i64 0,.int .i64 0,.slice none 0 0,.slice none 0 0] 28 (0,0)));have n4:obj (w4.alloc (.cells #[.int .i64 0,.int .i64 0,.int .i64 0,.int .i64 0,.int .i64 0,.slice none 0 0,.slice none 0 0] 28 (0,0))) w4.heap.size=some (.cells #[.int .i64 0,.int .i64 0,.int .i64 0,.int .i64 0,.int .i64 0,.slice none 0 0,.slice none 0 0] 28 (0,0)):=a03 _ _ _ rfl;(try have n14:=a1w nz hb4);dsimp only)) | ((go_simp;go_at_call 35;((with_reducible refine (HS.out _ (by assumption)).mono ?_));rintro e w5 ⟨body,rfl,hbd,hb5⟩;have s0:obj w5 W.heap.size=some (.cells row' 28 (0,0)):=a1w (by assumption) hb5;have s1:obj w5 (W.heap.size+1)=some (.cells #[.int .i64 0,.int .i64 0,.int .i64 0,.int .i64 0,.int .i64 0,.slice none 0 0,.slice none 0 0] 28 (0,0)):=a1w (by assumption) hb5;have jF:Below wr.heap.size wr w5:=a5m (by assumption) hb5;have hkv5:a7r w5 kv:=a5h.below (show a7r _ kv by assumption) hb5;have u0:=a02 s0 (.cells #[.int .i64 0,.int .i64 0,.int .i64 0,.int .i64 0,.int .i64 0,.slice none 0 0,.slice none 0 0] 28 (0,0));have u1:=a02 s1 (.cells #[.int .i64 0,.int .i64 0,.int .i64 0,.int .i64 0,.int .i64 0,.slice none 0 0,.slice none 0 0] 28 (0,0));have jF2:=jF.alloc jF.size (.cells #[.int .i64 0,.int .i64 0,.int .i64 0,.int .i64 0,.int .i64 0,.slice none 0 0,.slice none 0 0] 28 (0,0));have hkv6:a7r (w5.alloc (.cells #[.int .i64 0,.int .i64 0,.int .i64 0,.int .i64 0,.int .i64 0,.slice none 0 0,.slice none 0 0] 28 (0,0))) kv:=a5h.below hkv5 ((Below.refl _ _).alloc (Nat.le_refl _) (.cells #[.int .i64 0,.int .i64 0,.int .i64 0,.int .i64 0,.int .i64 0,.slice none 0 0,.slice none 0 0] 28 (0,0)));have hbd2:=hbd.below ((Below.refl _ _).alloc (Nat.le_refl _) (.cells #[.int .i64 0,.int .i64 0,.int .i64 0,.int .i64 0,.int .i64 0,.slice none 0 0,.slice none 0 0] 28 (0,0)));have n5:obj (w5.alloc (.cells #[.int .i64 0,.int .i64 0,.int .i64 0,.int .i64 0,.int .i64 0,.slice none 0 0,.slice none 0 0] 28 (0,0))) w5.heap.size=some (.cells #[.int .i64 0,.int .i64 0,.int .i64 0,.int .i64 0,.int .i64 0,.slice none 0 0,.slice none 0 0] 28 (0,0)):=a03 _ _ _ rfl;(try have n15:=a1w n14 hb5);(try have n45:=a1w n4 hb5);dsimp only)) | ((go_simp;go_at_call 33;((with_reducible refine (HD.out _ _ _ (by assumption) (by assumption) (by assumption)).mono ?_));rintro e w6 ⟨a4m,n2,rfl,y7,ya,yo,hdr,hb6⟩;have v0:obj w6 W.heap.size=some (.cells row' 28 (0,0)):=a1w (by assumption) hb6;have v1:obj w6 (W.heap.size+1)=some (.cells #[.int .i64 0,.int .i64 0,.int .i64 0,.int .i64 0,.int .i64 0,.slice none 0 0,.slice none 0 0] 28 (0,0)):=a1w (by assumption) hb6;have jG:Below wr.heap.size wr w6:=a5m (by assumption) hb6;(try have n156:=a1w n15 hb6);(try have n456:=a1w n45 hb6);(try have n56:=a1w n5 hb6);have HDR:=Lib.hid hdr;clear hdr;dsimp only)))
    all_goals (repeat' go_step)
    all_goals go_meet
    all_goals first
     | exact ⟨_,a4m,n2,rfl,rfl,a03 _ _ _ rfl,y7,ya,yo,HDR.out.below ((Below.refl _ _).alloc (Nat.le_refl _) _),a02 v0 _,a02 v1 _,(by have:=a04 v0;omega),(by have:=a04 v1;omega),jG.alloc jG.size _⟩
     | exact ⟨_,a4m,n2,rfl,rfl,(by rw [a0b,n56];rfl),y7,ya,yo,HDR.out.keep n56 (by decide) (by decide) (by decide) (fun y hy=>setRow_other _ _ _ _ hy),(setRow_other _ _ _ _ (by have:=a04 s0;omega)).trans v0,(setRow_other _ _ _ _ (by have:=a04 s1;omega)).trans v1,(by have:=a04 s0;omega),(by have:=a04 s1;omega),below_setRow jG (by have:=jF.size;omega) _⟩
     | exact ⟨_,a4m,n2,rfl,rfl,(by rw [a0b,n456];rfl),y7,ya,yo,HDR.out.keep n456 (by decide) (by decide) (by decide) (fun y hy=>setRow_other _ _ _ _ hy),(setRow_other _ _ _ _ (by have:=a04 r0;omega)).trans v0,(setRow_other _ _ _ _ (by have:=a04 r1;omega)).trans v1,(by have:=a04 r0;omega),(by have:=a04 r1;omega),below_setRow jG (by have:=jE.size;omega) _⟩
     | exact ⟨_,a4m,n2,rfl,rfl,(by rw [a0b,n156];rfl),y7,ya,yo,HDR.out.keep n156 (by decide) (by decide) (by decide) (fun y hy=>setRow_other _ _ _ _ hy),(setRow_other _ _ _ _ (by omega)).trans v0,(setRow_other _ _ _ _ (by omega)).trans v1,(by omega),(by omega),below_setRow jG (by omega) _⟩
   case rest =>
    obtain ⟨n,a4m,n2,rfl,rfl,e0,e7,ea,eo,hdr,f0,f1,g0,g1,jx⟩:=hcut
    rcases hdr with ⟨rfl,ph2,ps2,hP2,hz2,_,hst⟩ | ⟨hne,_,hst⟩
    ·repeat' (first | go_skip | go_guarded | go_step | go_upon)
     go_roundw
     case rel =>
      refine ⟨k+1,a4m,ph2,ps2,by omega,by go_num,by rw [a0b,f0];rfl,hP2.keep f0 (by decide) (by decide) (by decide) (fun y hy=>setRow_other _ _ _ _ hy),by omega,?_,(setRow_other _ _ _ _ (by omega)).trans f1,below_setRow (hB.trans (jx.mono hB.size)) (by omega) _⟩
      rw [HST.out,HF.out,hst]
     case measure=>simp [intOf];omega
    ·have hn2:((n2:Int) == 0)=false:=by simp;omega
     repeat' (first | go_skip | go_guarded | go_step | go_upon)
     go_roundw
     case rel =>
      refine ⟨k+1,row',ph',ps',by omega,by go_num,f0,HP.out.below jx,by omega,?_,f1,hB.trans (jx.mono hB.size)⟩
      rw [HST.out,HF.out,hst]
     case measure=>simp [intOf];omega
  ·have i1 : ¬ (k:Int) < (xs.length:Int):=by omega
   have hkn:k=xs.length:=by omega
   clear HLR
   repeat' (first | go_skip | go_guarded | go_step | go_upon)
   refine bodyPost_ret (results_cell_row rfl _ _ (W.heap.size+1) 28 _ _ _ rfl (setRow_heap _ _ _ _ _ _ h1) Tryz.underlying28 rfl (by rw [s7];kernel_rfl)) rfl ?_
   refine ⟨row',ph',ps',rfl,HP.out.keep h1 (by decide) (by decide) (by decide) (fun y hy=>setRow_other _ _ _ _ hy),by omega,?_,below_setRow hB (by omega) _⟩
   have:=HF.out
   rwa [hkn,List.take_length] at this
end Go.Proofs.YtlnlbdfokmhelaaGreatDoor
