/-
  The law TakeoverMatchesReference.
-/
import Derived.Test.YtopgdlblfieljaaGreatDoorPkTki
import Derived.Test.YtopgdlblfieljaaGreatDoorPkTkz
import Derived.Test.YtopgdlblfieljaaGreatDoorPkTky
import Derived.Test.YtopgdlblfieljaaGreatDoorPkGrw
set_option linter.unusedSectionVars false
set_option linter.constructorNameAsVariable false
set_option linter.unusedVariables false
set_option linter.unusedSimpArgs false
namespace Go.Proofs.YtopgdlblfieljaaGreatDoor
open Go.RowKit Go.CE.V
set_option maxRecDepth 100000
set_option maxHeartbeats 16000000
theorem rows_up {W W':World} {a:Option Addr} {T z n:Nat} {f:Nat→Array Value} (h:n≠0→∃ b o row,a=some ⟨b,o,none⟩∧obj W b=some (.cells row T (0,0))∧∀ i,i < n→o+i * z+z≤row.size∧row.extract (o+i * z) (o+i * z+z)=f i) (hn:n≠0) (hb:Below W.heap.size W W') : ∃ b o row,a=some ⟨b,o,none⟩∧obj W' b=some (.cells row T (0,0))∧∀ i,i < n→o+i * z+z≤row.size∧row.extract (o+i * z) (o+i * z+z)=f i:=by
 obtain ⟨b,o,row,e1,e2,e3⟩:=h hn
 exact ⟨b,o,row,e1,a1w e2 hb,e3⟩
theorem apart_same {u v w:Value} (h:Apart u v) (e : ∃ b o n c c',v=.slice (some ⟨b,o,none⟩) n c∧w=.slice (some ⟨b,o,none⟩) n c'):Apart u w:=by
 obtain ⟨b,o,n,c,c',rfl,rfl⟩:=e
 exact apart_cap h
theorem tanswer_no {l:List Nat} (hl:l∈tLs) {me:Nat} (hm:me∈l) {ph:Nat} (hp:ph∈phs) {W:World} {ov vx:Value} {x:LN} (hx:x.Sz) (hf:x.frm < 5) (hv:a0h 0 W ov l) (hvx:a0h 0 W vx x.cs) (hn : ¬ (oth me l x.frm=true∧x=inqL l x.frm me)) :
  Calls Tryz.prog 12 #[.agg (ownRow me 4 0 90 ph ov (.slice none 0 0)),.agg (LN.let x vx).row] W fun e W'=>e=.returned (.tuple #[.agg #[.int .i64 0,.int .i64 0,.int .i64 0,.int .i64 0,.int .i64 0,.slice none 0 0,.slice none 0 0],.agg z48,.int .i64 1])∧Below W.heap.size W W':=by
 cases ho:oth me l x.frm with
 | false=>exact tanswer_no1 hl hm hp hx hf hv hvx ho
 | true=>exact tanswer_no2 hl hm hp hx hf hv hvx ho fun e=>hn ⟨ho,e⟩
theorem ranswer_no {l:List Nat} (hl:l∈tLs) {me:Nat} (hm:me∈l) {ph:Nat} (hp:ph∈phs) {W:World} {ov vx:Value} {x:LN} (hx:x.Sz) (hf:x.frm < 5) (hv:a0h 0 W ov l) (hvx:a0h 0 W vx x.cs) (hap:Apart vx ov∨vx=ov) (hn : ¬ (oth me l x.frm=true∧x=inqL l x.frm me)) :
  Calls Tryz.prog 13 #[.agg (ownRow me 4 0 90 ph ov (.slice none 0 0)),.agg (LN.let x vx).row] W fun e W'=>e=.returned (.tuple #[.agg #[.int .i64 0,.int .i64 0,.int .i64 0,.int .i64 0,.int .i64 0,.slice none 0 0,.slice none 0 0],.agg z48,.int .i64 1])∧Below W.heap.size W W':=by
 cases ho:oth me l x.frm with
 | false=>exact ranswer_no1 hl hm hp hx hf hv hvx hap ho
 | true=>exact ranswer_no2 hl hm hp hx hf hv hvx hap ho fun e=>hn ⟨ho,e⟩
theorem zown_calls (W:World):Calls Tryz.prog 9 #[.agg #[.int .i64 0,.int .i64 0,.int .i64 0,.int .i64 0,.int .i64 0,.slice none 0 0,.slice none 0 0],.agg #[.int .i64 0,.int .i64 0,.int .i64 0,.int .i64 0,.int .i64 0,.slice none 0 0,.slice none 0 0]] W fun e W'=>e=.returned (.bool true)∧Below W.heap.size W W':=by
 have e:(#[.int .i64 0,.int .i64 0,.int .i64 0,.int .i64 0,.int .i64 0,.slice none 0 0,.slice none 0 0]:Array Value)=ownRow 0 0 0 0 0 (.slice none 0 0) (.slice none 0 0):=by unfold ownRow;rfl
 rw [e]
 exact rsame30_calls (nats_nil W) (nats_nil W) (by decide) ⟨none,0,rfl⟩ ⟨none,0,rfl⟩
theorem zlet_calls (W:World):Calls Tryz.prog 10 #[.agg z48,.agg z48] W fun e W'=>e=.returned (.bool true)∧Below W.heap.size W W':=by
 rw [z_row]
 exact (rsame_any zLN_sz zLN_sz (zLN_cell W) (zLN_cell W) (.inr rfl)).mono fun e W' h=>⟨h.1 rfl,h.2.2⟩
theorem match_calls (hsan:∀ W,ase W→Calls Tryz.prog 5 #[] W fun e w'=>e=.returned (.bool true)∧Below W.heap.size W w')
  {W:World} {na nb nc:Nat} (hna:na < 256) (hnb:nb < 256) (hnc:nc < 256) {sv:Value} {n:Nat} (hS:SaysV W sv n) (hT:ase W) :
  Calls Tryz.prog 3 #[.agg #[.int .u8 na,.int .u8 nb,.int .u8 nc],sv] W fun e W'=>e=.returned (.bool true)∧Below W.heap.size W W':=by
 obtain ⟨sg,sa,sc,rfl,hsrow,hsg⟩:=hS
 have HSR:=Lib.hid hsrow
 have HSG:=Lib.hid hsg
 have HT:=Lib.hid hT
 have HOW:=Lib.hid (fun (W':World)=>af7 (W:=W') hna hnb hnc)
 clear hsrow hsg hT hna hnb hnc
 have pn:ones #[.int .u8 na,.int .u8 nb,.int .u8 nc]=true:=by simp [ones,ack]
 have b0:obj (W.alloc (.cells #[.int .u8 na,.int .u8 nb,.int .u8 nc] 22 (0,0))) W.heap.size=some (.cells #[.int .u8 na,.int .u8 nb,.int .u8 nc] 22 (0,0)):=a03 _ _ _ rfl
 have w1B:Below W.heap.size W (W.alloc (.cells #[.int .u8 na,.int .u8 nb,.int .u8 nc] 22 (0,0))):=(Below.refl _ _).alloc (Nat.le_refl _) _
 have HSN:=Lib.hid (hsan _ (HT.out.below w1B))
 clear hsan
 go_enter Tryz.func3,Tryz.ntmps3
 repeat' ((fail_if_success (with_reducible refine Go.wp_block ?_));(first | (go_at_call 5;((with_reducible refine (HSN.out).mono ?_));rintro e w2 ⟨rfl,hb2⟩;have b02:=a1w b0 hb2;have w2B:=w1B.trans (hb2.mono w1B.size);dsimp only) | (go_at_call 6;((with_reducible refine (HOW.out _).mono ?_));rintro e w3 ⟨l,me,ph,ov,hl,hm,hp,rfl,hv3,hb3⟩;have po:=a1y me 4 0 90 ph (a0v hv3) (show (Value.slice none 0 0).oneCell' = true from rfl);have w3B:=w2B.trans (hb3.mono w2B.size);have w4B:=w3B.alloc w3B.size (.cells (ownRow me 4 0 90 ph ov (.slice none 0 0)) 28 (0,0));have o4:obj (w3.alloc (.cells (ownRow me 4 0 90 ph ov (.slice none 0 0)) 28 (0,0))) w3.heap.size=some (.cells (ownRow me 4 0 90 ph ov (.slice none 0 0)) 28 (0,0)):=a03 _ _ _ rfl;have HV4:=Lib.hid (hv3.below ((Below.refl w3.heap.size w3).alloc (Nat.le_refl _) (.cells (ownRow me 4 0 90 ph ov (.slice none 0 0)) 28 (0,0))));have HI1:=Lib.hid (tinq_calls hl hm hp HV4.out);clear hv3;dsimp only) | (go_at_call 7;((with_reducible refine (HI1.out).mono ?_));rintro e w5 ⟨ow1,pw1,s1,cv1,rfl,hc1,he1,hr1,hq1,hb5⟩;have aB:=(Below.refl w5.heap.size w5).alloc (Nat.le_refl _) (.cells (ownRow me 4 0 90 (bar ph) ow1 pw1) 28 (0,0));obtain ⟨sa1,sc1,rfl,hrow1⟩:=a5h.below hr1 aB;have HROW1:=Lib.hid hrow1;have po1:=a1y me 4 0 90 (bar ph) (a0v hc1) he1.one;have w5B:=w4B.trans (hb5.mono w4B.size);have w6B:=w5B.alloc w5B.size (.cells (ownRow me 4 0 90 (bar ph) ow1 pw1) 28 (0,0));have o6:obj (w5.alloc (.cells (ownRow me 4 0 90 (bar ph) ow1 pw1) 28 (0,0))) w5.heap.size=some (.cells (ownRow me 4 0 90 (bar ph) ow1 pw1) 28 (0,0)):=a03 _ _ _ rfl;have o46:=a02 (a1w o4 hb5) (.cells (ownRow me 4 0 90 (bar ph) ow1 pw1) 28 (0,0));have HV6:=Lib.hid ((HV4.out.below hb5).below aB);have HC1:=Lib.hid (hc1.below aB);have HE1:=Lib.hid he1;have HQ1:=Lib.hid (fun (i:Nat) (hi:i < (othL me l).length)=>And.intro ((hq1 i hi).1.below aB) (apart_lay HV4.out (hq1 i hi).2 (Nat.le_refl _)).symm);have HI2:=Lib.hid (rinq_calls hl hm hp HV6.out);clear hc1 hq1 hr1 hrow1 he1 aB;dsimp only) | (go_at_call 8;((with_reducible refine (HI2.out).mono ?_));rintro e w7 ⟨ow2,pw2,s2,cv2,rfl,hc2,he2,hr2,hq2,hb7⟩;have aB:=(Below.refl w7.heap.size w7).alloc (Nat.le_refl _) (.cells (ownRow me 4 0 90 (bar ph) ow2 pw2) 28 (0,0));obtain ⟨sa2,sc2,rfl,hrow2⟩:=a5h.below hr2 aB;have HROW2:=Lib.hid hrow2;have po2:=a1y me 4 0 90 (bar ph) (a0v hc2) he2.one;have w7B:=w6B.trans (hb7.mono w6B.size);have w8B:=w7B.alloc w7B.size (.cells (ownRow me 4 0 90 (bar ph) ow2 pw2) 28 (0,0));have o8:obj (w7.alloc (.cells (ownRow me 4 0 90 (bar ph) ow2 pw2) 28 (0,0))) w7.heap.size=some (.cells (ownRow me 4 0 90 (bar ph) ow2 pw2) 28 (0,0)):=a03 _ _ _ rfl;have o48:=a02 (a1w o46 hb7) (.cells (ownRow me 4 0 90 (bar ph) ow2 pw2) 28 (0,0));have o68:=a02 (a1w o6 hb7) (.cells (ownRow me 4 0 90 (bar ph) ow2 pw2) 28 (0,0));have a7B:=hb7.trans (aB.mono hb7.size);have HV8:=Lib.hid (HV6.out.below a7B);have HR1:=Lib.hid (fun (hne:(othL me l).length≠0)=>rows_up HROW1.out hne a7B);have HQ:=Lib.hid (fun (i:Nat) (hi:i < (othL me l).length)=>And.intro ((HQ1.out i hi).1.below a7B) (And.intro ((hq2 i hi).1.below aB) (apart_same (HQ1.out i hi).2 (hq2 i hi).2)));have HS:=Lib.hid (rsame30_calls (s:=me) (m:=4) (o:=0) (d:=90) (p:=bar ph) (a0s (HC1.out.below a7B)) (a0s (hc2.below aB)) (show l.length < 1000000 by have:=(by decide:∀ l∈tLs,l.length≤4) l hl;omega) HE1.out he2);clear hc2 hq2 hr2 hrow2 he2 aB a7B;dsimp only) | (go_at_call 9;((with_reducible refine (HS.out).mono ?_));rintro e w9 ⟨rfl,hb9⟩;have o49:=a1w o48 hb9;have w9B:=w8B.trans (hb9.mono w8B.size);dsimp only) | go_skip | go_guarded | go_step | go_upon))
 clear HSN HOW HI1 HI2 HS b0 b02 o4 o46 o48 o6 o68 o8 w1B w2B w3B w4B w5B w6B w7B hb2 hb3 hb5 hb7 HROW1 HC1 HE1 HQ1 pn
 have hol:(othL me l).length≤4:=Nat.le_trans (List.length_filter_le _ _) ((by decide:∀ l∈tLs,l.length≤4) l hl)
 go_cut [13] from 54 to 69 (fun _ wx=>Below w9.heap.size w9 wx)
 case first =>
  repeat' (first | go_skip | go_guarded | go_step | go_upon)
  go_loopw [13] (fun i wr => ∃ k:Nat,k≤(othL me l).length∧i=.int .i64 k∧Below w9.heap.size w9 wr) (fun i _=>((othL me l).length - intOf i).toNat)
  case atStart=>exact ⟨0,by omega,rfl,Below.refl _ _⟩
  case round =>
   obtain ⟨k,hk,rfl,hB⟩:=hrel
   by_cases hlt:k < (othL me l).length
   ·have i1:(k:Int) < ((othL me l).length:Int):=by omega
    have hB9:=hb9.trans (hB.mono hb9.size)
    obtain ⟨b1,p1,aTp,rfl,r1a,r1b⟩:=rows_up HR1.out (by omega) hB9
    obtain ⟨b2,p2,a4m,rfl,r2a,r2b⟩:=rows_up HROW2.out (by omega) hB9
    obtain ⟨z1,k1⟩:=r1b k hlt
    obtain ⟨z2,k2⟩:=r2b k hlt
    have e1:(p1+k * 62+62≤aTp.size)=True:=eq_true z1
    have e2:(p2+k * 62+62≤a4m.size)=True:=eq_true z2
    obtain ⟨cc1,cc2,hap⟩:=HQ.out k hlt
    obtain ⟨hsz,hcs⟩:=inqLs_at hl hm hlt
    have l1w:=a04 r1a
    have l2w:=a04 r2a
    (try dsimp only at k1 k2)
    clear r1b r2b z1 z2
    generalize hy:(inqLs l me).getD k a0c=y at *
    clear hy
    generalize cv1 k=v1 at *
    generalize cv2 k=v2 at *
    have lz1:=a0e (LN.let y v1) hsz.ref
    have la1:=a15 (LN.let y v1) hsz.ref
    have lz2:=a0e (LN.let y v2) hsz.ref
    have la2:=a15 (LN.let y v2) hsz.ref
    generalize hx1:(LN.let y v1).row=X1 at *
    generalize hx2:(LN.let y v2).row=X2 at *
    have HX1:=Lib.hid hx1
    have HX2:=Lib.hid hx2
    clear hx1 hx2
    repeat' (first | go_skip | go_guarded | go_step | go_upon)
    refine agn 10 [([],fun v _=>v=.slice (some ⟨b1,p1,none⟩) (othL me l).length sc1),
      ([],fun v _=>v=.int .i64 (k:Nat)),
      ([0,1],fun v _=>v=.pointer (some ⟨b1,p1+k * 62,none⟩)),
      ([2],fun v _=>v=.agg X1),
      ([],fun v _=>v=.slice (some ⟨b2,p2,none⟩) (othL me l).length sc2),
      ([],fun v _=>v=.int .i64 (k:Nat)),
      ([4,5],fun v _=>v=.pointer (some ⟨b2,p2+k * 62,none⟩)),
      ([6],fun v _=>v=.agg X2),
      ([3,7],fun v _=>v=.bool true),
      ([8],fun v _=>v=.bool false)] (by kernel_rfl) (by kernel_rfl) ?st ⟨?o0,?o1,?o2,?o3,?o4,?o5,?o6,?o7,?o8,?o9,trivial⟩ ?tl
    case st =>
     intro k v W1 W2 h hb
     rcases k with _ | _ | _ | _ | _ | _ | _ | _ | _ | _ | k
     ·exact h
     ·exact h
     ·exact h
     ·exact h
     ·exact h
     ·exact h
     ·exact h
     ·exact h
     ·exact h
     ·exact h
     ·trivial
    case o0 =>
     intro vs Wq hW hk
     clear hk
     dsimp only [a9l,List.take]
     repeat' (first | go_skip | go_guarded | go_step | go_upon)
     exact a5s (.slice (some ⟨b1,p1,none⟩) (othL me l).length sc1) rfl (by go_simp) (Below.refl _ _) rfl
    case o1 =>
     intro vs Wq hW hk
     clear hk
     dsimp only [a9l,List.take]
     repeat' (first | go_skip | go_guarded | go_step | go_upon)
     exact a5s (.int .i64 (k:Nat)) rfl (by go_simp) (Below.refl _ _) rfl
    case o2 =>
     intro vs Wq hW hk
     have g0:vs 0=.slice (some ⟨b1,p1,none⟩) (othL me l).length sc1:=hk.1
     have g1:vs 1=.int .i64 (k:Nat):=hk.2.1
     clear hk
     dsimp only [a9l,List.take]
     rw [g0,g1]
     repeat' (first | go_skip | go_guarded | go_step | go_upon)
     exact a5s (.pointer (some ⟨b1,p1+k * 62,none⟩)) rfl (by go_simp) (Below.refl _ _) rfl
    case o3 =>
     intro vs Wq hW hk
     have g2:vs 2=.pointer (some ⟨b1,p1+k * 62,none⟩):=hk.1
     clear hk
     dsimp only [a9l,List.take]
     rw [g2]
     have bbW:=a00 r1a hW l1w
     repeat' (first | go_skip | go_guarded | go_step | go_upon)
     exact a5s (.agg X1) rfl (by go_simp) (Below.refl _ _) rfl
    case o4 =>
     intro vs Wq hW hk
     clear hk
     dsimp only [a9l,List.take]
     repeat' (first | go_skip | go_guarded | go_step | go_upon)
     exact a5s (.slice (some ⟨b2,p2,none⟩) (othL me l).length sc2) rfl (by go_simp) (Below.refl _ _) rfl
    case o5 =>
     intro vs Wq hW hk
     clear hk
     dsimp only [a9l,List.take]
     repeat' (first | go_skip | go_guarded | go_step | go_upon)
     exact a5s (.int .i64 (k:Nat)) rfl (by go_simp) (Below.refl _ _) rfl
    case o6 =>
     intro vs Wq hW hk
     have g4:vs 4=.slice (some ⟨b2,p2,none⟩) (othL me l).length sc2:=hk.1
     have g5:vs 5=.int .i64 (k:Nat):=hk.2.1
     clear hk
     dsimp only [a9l,List.take]
     rw [g4,g5]
     repeat' (first | go_skip | go_guarded | go_step | go_upon)
     exact a5s (.pointer (some ⟨b2,p2+k * 62,none⟩)) rfl (by go_simp) (Below.refl _ _) rfl
    case o7 =>
     intro vs Wq hW hk
     have g6:vs 6=.pointer (some ⟨b2,p2+k * 62,none⟩):=hk.1
     clear hk
     dsimp only [a9l,List.take]
     rw [g6]
     have bbW:=a00 r2a hW l2w
     repeat' (first | go_skip | go_guarded | go_step | go_upon)
     exact a5s (.agg X2) rfl (by go_simp) (Below.refl _ _) rfl
    case o8 =>
     intro vs Wq hW hk
     have g3:vs 3=.agg X1:=hk.1
     have g7:vs 7=.agg X2:=hk.2.1
     clear hk
     dsimp only [a9l,List.take]
     rw [g3,g7]
     have HX:=Lib.hid (rsame_any hsz hsz (by rw [hcs];exact cc1.below (hB9.trans (hW.mono hB9.size))) (by rw [hcs];exact cc2.below (hB9.trans (hW.mono hB9.size))) (.inl hap))
     rw [HX1.out,HX2.out] at HX
     repeat' (first | (go_at_call 10;((with_reducible refine (HX.out).mono ?_));rintro e w5 ⟨h7a,_,hb5⟩;have h7:=h7a rfl;clear h7a;subst h7;dsimp only) | go_skip | go_guarded | go_step | go_upon)
     exact a5s (.bool true) rfl (by go_simp) hb5 rfl
    case o9 =>
     intro vs Wq hW hk
     have g8:vs 8=.bool true:=hk.1
     clear hk
     dsimp only [a9l,List.take]
     rw [g8]
     repeat' (first | go_skip | go_guarded | go_step | go_upon)
     exact a5s (.bool false) rfl (by go_simp) (Below.refl _ _) rfl
    case tl =>
     intro vs W2 hW2 hk2
     have h9:vs 9=.bool false:=hk2 9 (by decide)
     clear hk2
     dsimp only [a9l,List.take,List.drop]
     simp only [Act.put,List.setIfInBounds_toArray,List.set_cons_succ,List.set_cons_zero]
     rw [h9]
     generalize vs 0=g0,vs 1=g1,vs 2=g2,vs 3=g3,vs 4=g4,vs 5=g5,vs 6=g6,vs 7=g7,vs 8=g8
     have hB2:=hB.trans (hW2.mono hB.size)
     repeat' (first | go_skip | go_guarded | go_step | go_upon)
     refine ⟨⟨k+1,by omega,by go_num,hB2⟩,by simp [intOf];omega⟩
   ·have i1 : ¬ (k:Int) < ((othL me l).length:Int):=by omega
    repeat' (first | go_skip | go_guarded | go_step | go_upon)
    go_meet
    exact hB
 case rest =>
  clear HR1 HROW2 HQ po1 po2
  have HTV:=Lib.hid (fun (W':World) (hb:Below w9.heap.size w9 W')=>And.intro (HT.out.below (w9B.trans (hb.mono w9B.size))) (HV8.out.below (hb9.trans (hb.mono hb9.size))))
  clear HV8 hb9 HV4 HV6 w8B
  repeat' (first | go_skip | go_guarded | go_step | go_upon)
  go_loopw [14,15] (fun v i wr => ∃ ys:List LN,ys.length≤n∧ys.length≤8∧i=.int .i64 ys.length∧LsT w9.heap.size wr v ov ys∧Below w9.heap.size w9 wr) (fun _ i _=>(8 - intOf i).toNat)
  case atStart=>exact ⟨[],by simp,by simp,rfl,LsT.nil hcut.size rfl ov,hcut.alloc hcut.size _⟩
  case round =>
   clear hcut
   obtain ⟨ys,h1,h2,rfl,hL,hB⟩:=hrel
   have ooR:=a00 o49 hB (a04 o49)
   have hBW:=w9B.trans (hB.mono w9B.size)
   by_cases hlt:ys.length < n
   ·have i1:(ys.length:Int) < (n:Int):=by omega
    by_cases hl8:ys.length < 8
    ·have i2:(ys.length:Int) < 8:=by omega
     obtain ⟨sb,so,srow,T0,fr0,rfl,sr1,sr2⟩:=HSR.out (by omega)
     obtain ⟨z1,k1⟩:=sr2 ys.length hlt
     have srw:=a00 sr1 hBW (a04 sr1)
     obtain ⟨f1,f2,f3,f4⟩:=HSG.out ys.length hlt
     have e1:(so+ys.length * 4+4≤srow.size)=True:=eq_true z1
     clear sr2 z1 sr1
     generalize sg ys.length=D at *
     obtain ⟨q1,q2,q3,q4⟩:=D
     dsimp only at k1 f1 f2 f3 f4
     generalize hsx:sayRow q1 q2 q3 q4=SX at *
     have HSX:Hid (SX=#[.int .u8 (q1:Nat),.int .u8 (q2:Nat),.int .u8 (q3:Nat),.int .u8 (q4:Nat)]):=Lib.hid (by rw [← hsx];rfl)
     have sxs:SX.size=4:=by rw [← hsx];rfl
     clear hsx
     have lw1:=a04 ooR
     have lws:=a04 srw
     have HLO:Hid (∃ cv:Nat→Value,wr.ownsRow w9.heap.size 48 62 u14 ys.length (a3b (fun i=>(LN.let (ys.getD i a0c) (cv i)).row) ys.length)):=Lib.hid (by obtain ⟨cv,h,_⟩:=hL;exact ⟨cv,h⟩)
     repeat' (first | go_skip | go_guarded | go_step | go_upon)
     refine agn 7 [([],fun v _=>v=.agg (ownRow me 4 0 90 ph ov (.slice none 0 0))),
       ([],fun v _=>v=.slice (some ⟨sb,so,none⟩) n sc),
       ([],fun v _=>v=.int .i64 (ys.length:Nat)),
       ([1,2],fun v _=>v=.pointer (some ⟨sb,so+ys.length * 4,none⟩)),
       ([3],fun v _=>v=.agg SX),
       ([0,4],fun v W' => ∃ x vx,v=.agg (LN.let x vx).row∧LetB x∧a0h 0 W' vx x.cs∧(Apart vx ov∨vx=ov)),
       ([],fun v W' => ∃ g,v=.pointer (some ⟨g,0,none⟩)∧obj W' g=some (.cells z48 48 (0,0))∧wr.heap.size≤g)] (by kernel_rfl) (by kernel_rfl) ?st ⟨?o0,?o1,?o2,?o3,?o4,?o5,?o6,trivial⟩ ?tl
     case st =>
      intro k v W1 W2 h hb
      rcases k with _ | _ | _ | _ | _ | _ | _ | k
      ·exact h
      ·exact h
      ·exact h
      ·exact h
      ·exact h
      ·obtain ⟨x,vx,h1,h2,h3,h4⟩:=h;exact ⟨x,vx,h1,h2,h3.below hb,h4⟩
      ·obtain ⟨g,h1,h2,h3⟩:=h;exact ⟨g,h1,a1w h2 hb,h3⟩
      ·trivial
     case o0 =>
      intro vs Wq hW hk
      clear hk
      dsimp only [a9l,List.take]
      have ooW:=a00 ooR hW lw1
      repeat' (first | go_skip | go_guarded | go_step | go_upon)
      exact a5s (.agg (ownRow me 4 0 90 ph ov (.slice none 0 0))) rfl (by go_simp) (Below.refl _ _) rfl
     case o1 =>
      intro vs Wq hW hk
      clear hk
      dsimp only [a9l,List.take]
      repeat' (first | go_skip | go_guarded | go_step | go_upon)
      exact a5s (.slice (some ⟨sb,so,none⟩) n sc) rfl (by go_simp) (Below.refl _ _) rfl
     case o2 =>
      intro vs Wq hW hk
      clear hk
      dsimp only [a9l,List.take]
      repeat' (first | go_skip | go_guarded | go_step | go_upon)
      exact a5s (.int .i64 (ys.length:Nat)) rfl (by go_simp) (Below.refl _ _) rfl
     case o3 =>
      intro vs Wq hW hk
      have g1:vs 1=.slice (some ⟨sb,so,none⟩) n sc:=hk.1
      have g2:vs 2=.int .i64 (ys.length:Nat):=hk.2.1
      clear hk
      dsimp only [a9l,List.take]
      rw [g1,g2]
      repeat' (first | go_skip | go_guarded | go_step | go_upon)
      exact a5s (.pointer (some ⟨sb,so+ys.length * 4,none⟩)) rfl (by go_simp) (Below.refl _ _) rfl
     case o4 =>
      intro vs Wq hW hk
      have g3:vs 3=.pointer (some ⟨sb,so+ys.length * 4,none⟩):=hk.1
      clear hk
      dsimp only [a9l,List.take]
      rw [g3]
      have swW:=a00 srw hW lws
      repeat' (first | go_skip | go_guarded | go_step | go_upon)
      exact a5s (.agg SX) rfl (by go_simp) (Below.refl _ _) rfl
     case o5 =>
      intro vs Wq hW hk
      have g0:vs 0=.agg (ownRow me 4 0 90 ph ov (.slice none 0 0)):=hk.1
      have g4:vs 4=.agg SX:=hk.2.1
      clear hk
      dsimp only [a9l,List.take]
      rw [g0,g4]
      have HX:=Lib.hid (say_calls (ph:=ph) hl hm f1 f2 f3 f4 ((HTV.out _ hB).1.below hW) ((HTV.out _ hB).2.below hW))
      rw [← HSX.out] at HX
      repeat' (first | (go_at_call 11;((with_reducible refine (HX.out).mono ?_));rintro e w7 ⟨x,vx,rfl,hx,hc,ha,hb7⟩;dsimp only) | go_skip | go_guarded | go_step | go_upon)
      exact a5s (.agg (LN.let x vx).row) rfl (by go_simp) hb7 ⟨x,vx,rfl,hx,hc,ha⟩
     case o6 =>
      intro vs Wq hW hk
      clear hk
      dsimp only [a9l,List.take]
      repeat' (first | go_skip | go_guarded | go_step | go_upon)
      exact a5s (.pointer (some ⟨Wq.heap.size,0,none⟩)) rfl (by go_simp) ((Below.refl _ _).alloc (Nat.le_refl _) _) ⟨_,rfl,a03 _ _ _ rfl,hW.size⟩
     case tl =>
      intro vs W2 hW2 hk2
      have h5:=hk2 5 (by decide)
      have h6:=hk2 6 (by decide)
      have hv5:=h5.choose_spec.choose_spec.1
      have hxB:=h5.choose_spec.choose_spec.2.1
      have hxc:=h5.choose_spec.choose_spec.2.2.1
      have hxa:=h5.choose_spec.choose_spec.2.2.2
      generalize h5.choose_spec.choose=vx at hv5 hxB hxc hxa
      generalize h5.choose=x at hv5 hxB hxc hxa
      have hv6:=h6.choose_spec.1
      have hyA:=h6.choose_spec.2.1
      have hga:=h6.choose_spec.2.2
      generalize h6.choose=ga at hv6 hyA hga
      clear h5 h6 hk2
      dsimp only [a9l,List.take,List.drop]
      simp only [Act.put,List.setIfInBounds_toArray,List.set_cons_succ,List.set_cons_zero]
      rw [hv5,hv6]
      generalize vs 0=u0,vs 1=u1,vs 2=u2,vs 3=u3,vs 4=u4
      clear hv5 hv6
      have lz:=a0e (LN.let x vx) hxB.1.ref
      have la:=a15 (LN.let x vx) hxB.1.ref
      have lo:=a0y (LN.let x vx) (a0v hxc)
      have c3:a0h 0 (W2.setRow ga (LN.let x vx).row) vx x.cs:=a2m hxc hyA (by decide) (fun y hy=>setRow_other _ _ _ _ hy)
      generalize hX:(LN.let x vx).row=X at *
      have HX:=Lib.hid hX
      clear hX
      have hW3:Below wr.heap.size wr (W2.setRow ga X):=below_setRow hW2 hga _
      have y3:obj (W2.setRow ga X) ga=some (.cells X 48 (0,0)):=setRow_heap _ _ _ _ _ _ hyA
      have oo3:=a00 ooR hW3 (a04 ooR)
      obtain ⟨lcv,le1,le2⟩:=hL.below hW3
      have hB3:=hB.trans (hW3.mono hB.size)
      have aB4:Below (W2.setRow ga X).heap.size (W2.setRow ga X) ((W2.setRow ga X).alloc (.cells X 48 (0,0))):=(Below.refl _ _).alloc (Nat.le_refl _) _
      have HSZ3:=Lib.hid (show (W2.setRow ga X).heap.size=W2.heap.size by simp [World.setRow])
      have own4:=a4i le1 aB4
      have y4:=a1w y3 aB4
      have oo4:=a1w oo3 aB4
      have c4:=c3.below aB4
      have hB4:=hB3.trans (aB4.mono hB3.size)
      have le24:=Lib.hid (fun (i:Nat) (hi:i < ys.length)=>And.intro (le2 i hi).1 (And.intro ((le2 i hi).2.1.below aB4) (le2 i hi).2.2))
      have hgb:u14.ownBlock≠some ga:=fun q=>by obtain ⟨cv,h⟩:=HLO.out;have:=aP3 h q;omega
      have HLE:=Lib.hid le2
      clear le2 le1 hxc c3
      have HAP:=Lib.hid hxa
      have HXB:=Lib.hid hxB
      repeat' (first | (at_builtin;(refine a2d rfl _ _ rfl Tryz.underlying30 (b:=328) (z:=62) (by kernel_rfl) (by decide) (by decide) w9.heap.size ys.length _ _ rfl own4 W2.heap.size 1 X ?_ ?_ lz lo (by omega) ?_ ?_);(first | rfl | skip);(exact a03 _ _ _ HSZ3.out.symm);(have:=hB4.size;omega);intro v5 W5 own5 hg5;have hg:((W2.setRow ga X).alloc (.cells X 48 (0,0))).grownBy W5 u14.ownBlock:=hg5;clear hg5;rw [← HX.out] at own5;have L5:=Lib.hid (LsT.push own4 le24.out hg hxB c4 hxa own5);have y5:=a0w y4 hg (fun q=>hgb q.symm);have oo5:=objT_grown own4 oo4 (by decide) hg;have c5:=a3e own4 c4 (by decide) hg;have hB5:=hB4.grown hg hB4.size (fun g q=>a1u own4 q);clear own5 hg;dsimp only) | go_skip | go_guarded | go_step | go_upon)
      by_cases hyes:oth me l x.frm=true∧x=inqL l x.frm me
      ·have HME:=Lib.hid (And.intro (oth_mem hyes.1).1 (Ne.symm (oth_mem hyes.1).2))
       have HCS:Hid (x.cs=l):=Lib.hid (by rw [hyes.2];rfl)
       have HXI:Hid ((LN.let (inqL l x.frm me) vx).row=X):=Lib.hid (by have:=HX.out;rw [hyes.2] at this;exact this)
       clear hyes
       have HA1:=Lib.hid (tanswer_yes hl hm hp HME.out.1 HME.out.2 (HTV.out _ hB5).1 (HTV.out _ hB5).2 (show a0h 0 W5 vx l from HCS.out ▸ c5))
       rw [HXI.out] at HA1
       refine (HA1.out).mono ?_
       rintro e w6 ⟨owA,pwA,cvA,rfl,hwA,hpA,hcA,hb6⟩
       have lzA:=a0e (LN.let (repL l x.frm me (bar ph)) cvA) (a13 _)
       have laA:=a15 (LN.let (repL l x.frm me (bar ph)) cvA) (a13 _)
       have loA:=a0y (LN.let (repL l x.frm me (bar ph)) cvA) (a0v hcA)
       generalize hXA:(LN.let (repL l x.frm me (bar ph)) cvA).row=XA at lzA laA loA ⊢
       have HXA:=Lib.hid hXA
       clear hXA
       have poA:=a1y me 4 0 90 (bar ph) (a0v hwA) hpA.one
       have aB:=((Below.refl w6.heap.size w6).alloc (Nat.le_refl _) (.cells (ownRow me 4 0 90 (bar ph) owA pwA) 28 (0,0))).alloc (by simp) (.cells XA 48 (0,0))
       have aB5:=hb6.trans (aB.mono hb6.size)
       have o17:obj ((w6.alloc (.cells (ownRow me 4 0 90 (bar ph) owA pwA) 28 (0,0))).alloc (.cells XA 48 (0,0))) w6.heap.size=some (.cells (ownRow me 4 0 90 (bar ph) owA pwA) 28 (0,0)):=a02 (a03 _ _ _ rfl) _
       have o18:obj ((w6.alloc (.cells (ownRow me 4 0 90 (bar ph) owA pwA) 28 (0,0))).alloc (.cells XA 48 (0,0))) (w6.heap.size+1)=some (.cells XA 48 (0,0)):=a03 _ _ _ (by simp)
       have oo7:=a1w oo5 aB5
       have y7:=a1w y5 aB5
       have c7:=c5.below aB5
       have hB7:=hB5.trans (aB5.mono hB5.size)
       have L7:=Lib.hid (L5.out.below aB5)
       have HC7:=Lib.hid (And.intro (hwA.below aB) (And.intro (hcA.mono (Nat.zero_le _) |>.below aB) (apart_lay (show a0h 0 W5 vx l from HCS.out ▸ c5) hcA (Nat.le_refl _)).symm))
       have HPA:=Lib.hid hpA
       clear hwA hcA hpA
       have HA2:=Lib.hid (ranswer_yes hl hm hp HME.out.1 HME.out.2 (HTV.out _ hB7).1 (HTV.out _ hB7).2 (show a0h 0 _ vx l from HCS.out ▸ c7) HAP.out)
       rw [HXI.out] at HA2
       clear oo5 y5 L5 hB5 aB HA1
       dsimp only
       repeat' (first | (go_at_call 13;((with_reducible refine (HA2.out).mono ?_));rintro e w8 ⟨owB,pwB,rfl,hwB,hpB,hb8⟩;have lzB:=a0e (LN.let (repL l x.frm me (bar ph)) vx) (a13 _);have laB:=a15 (LN.let (repL l x.frm me (bar ph)) vx) (a13 _);have loB:=a0y (LN.let (repL l x.frm me (bar ph)) vx) (a0v c7);generalize hXB:(LN.let (repL l x.frm me (bar ph)) vx).row=XB at lzB laB loB ⊢;have HXBr:=Lib.hid hXB;clear hXB;have poB:=a1y me 4 0 90 (bar ph) (a0v hwB) hpB.one;have aB:=((Below.refl w8.heap.size w8).alloc (Nat.le_refl _) (.cells (ownRow me 4 0 90 (bar ph) owB pwB) 28 (0,0))).alloc (by simp) (.cells XB 48 (0,0));have aB7:=hb8.trans (aB.mono hb8.size);have o20:obj ((w8.alloc (.cells (ownRow me 4 0 90 (bar ph) owB pwB) 28 (0,0))).alloc (.cells XB 48 (0,0))) w8.heap.size=some (.cells (ownRow me 4 0 90 (bar ph) owB pwB) 28 (0,0)):=a02 (a03 _ _ _ rfl) _;have o21:obj ((w8.alloc (.cells (ownRow me 4 0 90 (bar ph) owB pwB) 28 (0,0))).alloc (.cells XB 48 (0,0))) (w8.heap.size+1)=some (.cells XB 48 (0,0)):=a03 _ _ _ (by simp);have o177:=a1w o17 aB7;have o187:=a1w o18 aB7;have oo9:=a1w oo7 aB7;have c9:=c7.below aB7;have hB9':=hB7.trans (aB7.mono hB7.size);have L9:=Lib.hid (L7.out.below aB7);have HC9:=Lib.hid (And.intro (HC7.out.1.below aB7) (And.intro (HC7.out.2.1.below aB7) (hwB.below aB)));have HPB:=Lib.hid hpB;clear hwB hpB;clear oo7 y7 L7 hB7 aB HA2;dsimp only) | go_skip | go_guarded | go_step | go_upon)
       have hbar:bar ph < 256:=by have:=(bar_phs hp).2;omega
       have HO:=Lib.hid (fun (W':World) (hb:Below ((w8.alloc (.cells (ownRow me 4 0 90 (bar ph) owB pwB) 28 (0,0))).alloc (.cells XB 48 (0,0))).heap.size ((w8.alloc (.cells (ownRow me 4 0 90 (bar ph) owB pwB) 28 (0,0))).alloc (.cells XB 48 (0,0))) W')=>rsame30_calls (s:=me) (m:=4) (o:=0) (d:=90) (p:=bar ph) (a0s (HC9.out.1.below hb)) (a0s (HC9.out.2.2.below hb)) (show l.length < 1000000 by have:=(by decide:∀ l∈tLs,l.length≤4) l hl;omega) HPA.out HPB.out)
       have HLS:=Lib.hid (fun (W':World) (hb:Below ((w8.alloc (.cells (ownRow me 4 0 90 (bar ph) owB pwB) 28 (0,0))).alloc (.cells XB 48 (0,0))).heap.size ((w8.alloc (.cells (ownRow me 4 0 90 (bar ph) owB pwB) 28 (0,0))).alloc (.cells XB 48 (0,0))) W')=>rsame_any (a:=repL l x.frm me (bar ph)) (b:=repL l x.frm me (bar ph)) (rep_sz hl HME.out.1 hm hbar) (rep_sz hl HME.out.1 hm hbar) (show a0h 0 W' cvA l from HC9.out.2.1.below hb) (show a0h 0 W' vx l from HCS.out ▸ (c9.below hb)) (.inl HC7.out.2.2))
       have hlen:(ys ++ [x]).length≤8:=by simp;omega
       have HV1:=Lib.hid (fun (W':World) (hb:Below ((w8.alloc (.cells (ownRow me 4 0 90 (bar ph) owB pwB) 28 (0,0))).alloc (.cells XB 48 (0,0))).heap.size ((w8.alloc (.cells (ownRow me 4 0 90 (bar ph) owB pwB) 28 (0,0))).alloc (.cells XB 48 (0,0))) W')=>tverd_calls hl hm hp hlen L9.out.all (HTV.out _ (hB9'.trans (hb.mono hB9'.size))).1 (HTV.out _ (hB9'.trans (hb.mono hB9'.size))).2 (L9.out.below hb).lets)
       have HV2:=Lib.hid (fun (W':World) (hb:Below ((w8.alloc (.cells (ownRow me 4 0 90 (bar ph) owB pwB) 28 (0,0))).alloc (.cells XB 48 (0,0))).heap.size ((w8.alloc (.cells (ownRow me 4 0 90 (bar ph) owB pwB) 28 (0,0))).alloc (.cells XB 48 (0,0))) W')=>rverd_calls hl hm hp hlen L9.out.all (HTV.out _ (hB9'.trans (hb.mono hB9'.size))).1 (HTV.out _ (hB9'.trans (hb.mono hB9'.size))).2 (L9.out.below hb).lets)
       generalize verdN l me ph (ys ++ [x])=vd at *
       have z17:=a04 o177
       have z18:=a04 o187
       have z20:=a04 o20
       have z21:=a04 o21
       have zo:=a04 oo9
       clear hW3 y3 oo3 aB4 own4 y4 oo4 c4 hB4 le24 HLE c5 c7 c9 aB5 aB7 o17 o18 hb6 hb8 hga hxa lw1 lws k1 e1 srw sxs HLO HSX hgb hW2
       clear HC7 HC9 HPA HPB poA poB loA loB
       generalize ((w8.alloc (.cells (ownRow me 4 0 90 (bar ph) owB pwB) 28 (0,0))).alloc (.cells XB 48 (0,0)))=w20 at *
       refine wp_region_min 24 [([],fun v _=>v=.agg (ownRow me 4 0 90 (bar ph) owA pwA)),
         ([],fun v _=>v=.agg (ownRow me 4 0 90 (bar ph) owB pwB)),
         ([0,1],fun v _=>v=.bool true),
         ([2],fun v _=>v=.bool false),
         ([3],fun v _=>v=.bool false),
         ([4],fun v _=>v=.agg XA),
         ([4],fun v _=>v=.agg XB),
         ([4,5,6],fun v _=>v=.bool true),
         ([4,7],fun v _=>v=.bool false),
         ([4,8],fun v _=>v=.bool false),
         ([9],fun v _=>v=.bool false),
         ([10],fun v _=>v=.int .i64 0),
         ([10],fun v _=>v=.int .i64 0),
         ([10,11,12],fun v _=>v=.bool false),
         ([10,13],fun v _=>v=.bool false),
         ([14],fun v _=>v=.bool false),
         ([15],fun v _=>v=.agg (ownRow me 4 0 90 ph ov (.slice none 0 0))),
         ([15],fun v _=>v=v5),
         ([15,16,17],fun v _=>v=.int .i64 vd),
         ([15],fun v _=>v=.agg (ownRow me 4 0 90 ph ov (.slice none 0 0))),
         ([15],fun v _=>v=v5),
         ([15,19,20],fun v _=>v=.int .i64 vd),
         ([15,18,21],fun v _=>v=.bool false),
         ([15,22],fun v _=>v=.bool false)] (by kernel_rfl) (by kernel_rfl) (by kernel_rfl) ?st ⟨?o0,?o1,?o2,?o3,?o4,?o5,?o6,?o7,?o8,?o9,?o10,?o11,?o12,?o13,?o14,?o15,?o16,?o17,?o18,?o19,?o20,?o21,?o22,?o23,trivial⟩ ?tl
       case st =>
        intro k v W1 W2 h hb
        rcases k with _ | _ | _ | _ | _ | _ | _ | _ | _ | _ | _ | _ | _ | _ | _ | _ | _ | _ | _ | _ | _ | _ | _ | _ | k
        ·exact h
        ·exact h
        ·exact h
        ·exact h
        ·exact h
        ·exact h
        ·exact h
        ·exact h
        ·exact h
        ·exact h
        ·exact h
        ·exact h
        ·exact h
        ·exact h
        ·exact h
        ·exact h
        ·exact h
        ·exact h
        ·exact h
        ·exact h
        ·exact h
        ·exact h
        ·exact h
        ·exact h
        ·trivial
       case o0 =>
        intro vs Wq hW hk
        clear hk
        change wpList _ _ _ _ (a3h _ vs [] _) _
        simp only [a3h]
        have q:=a00 o177 hW z17
        repeat' (first | go_skip | go_guarded | go_step | go_upon)
        exact a5s (.agg (ownRow me 4 0 90 (bar ph) owA pwA)) rfl (by go_simp) (Below.refl _ _) rfl
       case o1 =>
        intro vs Wq hW hk
        clear hk
        change wpList _ _ _ _ (a3h _ vs [] _) _
        simp only [a3h]
        have q:=a00 o20 hW z20
        repeat' (first | go_skip | go_guarded | go_step | go_upon)
        exact a5s (.agg (ownRow me 4 0 90 (bar ph) owB pwB)) rfl (by go_simp) (Below.refl _ _) rfl
       case o2 =>
        intro vs Wq hW hk
        have g0:vs 0=.agg (ownRow me 4 0 90 (bar ph) owA pwA):=hk.1
        have g1:vs 1=.agg (ownRow me 4 0 90 (bar ph) owB pwB):=hk.2.1
        clear hk
        change wpList _ _ _ _ (a3h _ vs [0,1] _) _
        simp only [a3h,aa9,List.getElem?_toArray,List.getElem?_cons_succ,List.getElem?_cons_zero,Option.bind_some]
        rw [g0,g1]
        have HX2:=Lib.hid (HO.out Wq hW)
        repeat' (first | (go_at_call 9;((with_reducible refine (HX2.out).mono ?_));rintro e w5 ⟨rfl,hb5⟩;dsimp only) | go_skip | go_guarded | go_step | go_upon)
        exact a5s (.bool true) rfl (by go_simp) hb5 rfl
       case o3 =>
        intro vs Wq hW hk
        have g2:vs 2=.bool true:=hk.1
        clear hk
        change wpList _ _ _ _ (a3h _ vs [2] _) _
        simp only [a3h,aa9,List.getElem?_toArray,List.getElem?_cons_succ,List.getElem?_cons_zero,Option.bind_some]
        rw [g2]
        repeat' (first | go_skip | go_guarded | go_step | go_upon)
        exact a5s (.bool false) rfl (by go_simp) (Below.refl _ _) rfl
       case o4 =>
        intro vs Wq hW hk
        have g3:vs 3=.bool false:=hk.1
        clear hk
        change wpList _ _ _ _ (a3h _ vs [3] _) _
        simp only [a3h,aa9,List.getElem?_toArray,List.getElem?_cons_succ,List.getElem?_cons_zero,Option.bind_some]
        rw [g3]
        repeat' (first | go_skip | go_guarded | go_step | go_upon)
        exact a5s (.bool false) rfl (by go_simp) (Below.refl _ _) rfl
       case o5 =>
        intro vs Wq hW hk
        have g4:vs 4=.bool false:=hk.1
        clear hk
        change wpList _ _ _ _ (a3h _ vs [4] _) _
        simp only [a3h,aa9,List.getElem?_toArray,List.getElem?_cons_succ,List.getElem?_cons_zero,Option.bind_some]
        rw [g4]
        have q:=a00 o187 hW z18
        repeat' (first | go_skip | go_guarded | go_step | go_upon)
        exact a5s (.agg XA) rfl (by go_simp) (Below.refl _ _) rfl
       case o6 =>
        intro vs Wq hW hk
        have g4:vs 4=.bool false:=hk.1
        clear hk
        change wpList _ _ _ _ (a3h _ vs [4] _) _
        simp only [a3h,aa9,List.getElem?_toArray,List.getElem?_cons_succ,List.getElem?_cons_zero,Option.bind_some]
        rw [g4]
        have q:=a00 o21 hW z21
        repeat' (first | go_skip | go_guarded | go_step | go_upon)
        exact a5s (.agg XB) rfl (by go_simp) (Below.refl _ _) rfl
       case o7 =>
        intro vs Wq hW hk
        have g4:vs 4=.bool false:=hk.1
        have g5:vs 5=.agg XA:=hk.2.1
        have g6:vs 6=.agg XB:=hk.2.2.1
        clear hk
        change wpList _ _ _ _ (a3h _ vs [4,5,6] _) _
        simp only [a3h,aa9,List.getElem?_toArray,List.getElem?_cons_succ,List.getElem?_cons_zero,Option.bind_some]
        rw [g4,g5,g6]
        have HX2:=Lib.hid (HLS.out Wq hW)
        rw [HXA.out,HXBr.out] at HX2
        repeat' (first | (go_at_call 10;((with_reducible refine (HX2.out).mono ?_));rintro e w5 ⟨h7a,_,hb5⟩;have h7:=h7a rfl;clear h7a;subst h7;dsimp only) | go_skip | go_guarded | go_step | go_upon)
        exact a5s (.bool true) rfl (by go_simp) hb5 rfl
       case o8 =>
        intro vs Wq hW hk
        have g4:vs 4=.bool false:=hk.1
        have g7:vs 7=.bool true:=hk.2.1
        clear hk
        change wpList _ _ _ _ (a3h _ vs [4,7] _) _
        simp only [a3h,aa9,List.getElem?_toArray,List.getElem?_cons_succ,List.getElem?_cons_zero,Option.bind_some]
        rw [g4,g7]
        repeat' (first | go_skip | go_guarded | go_step | go_upon)
        exact a5s (.bool false) rfl (by go_simp) (Below.refl _ _) rfl
       case o9 =>
        intro vs Wq hW hk
        have g4:vs 4=.bool false:=hk.1
        have g8:vs 8=.bool false:=hk.2.1
        clear hk
        change wpList _ _ _ _ (a3h _ vs [4,8] _) _
        simp only [a3h,aa9,List.getElem?_toArray,List.getElem?_cons_succ,List.getElem?_cons_zero,Option.bind_some]
        rw [g4,g8]
        repeat' (first | go_skip | go_guarded | go_step | go_upon)
        exact a5s (.bool false) rfl (by go_simp) (Below.refl _ _) rfl
       case o10 =>
        intro vs Wq hW hk
        have g9:vs 9=.bool false:=hk.1
        clear hk
        change wpList _ _ _ _ (a3h _ vs [9] _) _
        simp only [a3h,aa9,List.getElem?_toArray,List.getElem?_cons_succ,List.getElem?_cons_zero,Option.bind_some]
        rw [g9]
        repeat' (first | go_skip | go_guarded | go_step | go_upon)
        exact a5s (.bool false) rfl (by go_simp) (Below.refl _ _) rfl
       case o11 =>
        intro vs Wq hW hk
        have g10:vs 10=.bool false:=hk.1
        clear hk
        change wpList _ _ _ _ (a3h _ vs [10] _) _
        simp only [a3h,aa9,List.getElem?_toArray,List.getElem?_cons_succ,List.getElem?_cons_zero,Option.bind_some]
        rw [g10]
        repeat' (first | go_skip | go_guarded | go_step | go_upon)
        exact a5s (.int .i64 0) rfl (by go_simp) (Below.refl _ _) rfl
       case o12 =>
        intro vs Wq hW hk
        have g10:vs 10=.bool false:=hk.1
        clear hk
        change wpList _ _ _ _ (a3h _ vs [10] _) _
        simp only [a3h,aa9,List.getElem?_toArray,List.getElem?_cons_succ,List.getElem?_cons_zero,Option.bind_some]
        rw [g10]
        repeat' (first | go_skip | go_guarded | go_step | go_upon)
        exact a5s (.int .i64 0) rfl (by go_simp) (Below.refl _ _) rfl
       case o13 =>
        intro vs Wq hW hk
        have g10:vs 10=.bool false:=hk.1
        have g11:vs 11=.int .i64 0:=hk.2.1
        have g12:vs 12=.int .i64 0:=hk.2.2.1
        clear hk
        change wpList _ _ _ _ (a3h _ vs [10,11,12] _) _
        simp only [a3h,aa9,List.getElem?_toArray,List.getElem?_cons_succ,List.getElem?_cons_zero,Option.bind_some]
        rw [g10,g11,g12]
        repeat' (first | go_skip | go_guarded | go_step | go_upon)
        exact a5s (.bool false) rfl (by go_simp) (Below.refl _ _) rfl
       case o14 =>
        intro vs Wq hW hk
        have g10:vs 10=.bool false:=hk.1
        have g13:vs 13=.bool false:=hk.2.1
        clear hk
        change wpList _ _ _ _ (a3h _ vs [10,13] _) _
        simp only [a3h,aa9,List.getElem?_toArray,List.getElem?_cons_succ,List.getElem?_cons_zero,Option.bind_some]
        rw [g10,g13]
        repeat' (first | go_skip | go_guarded | go_step | go_upon)
        exact a5s (.bool false) rfl (by go_simp) (Below.refl _ _) rfl
       case o15 =>
        intro vs Wq hW hk
        have g14:vs 14=.bool false:=hk.1
        clear hk
        change wpList _ _ _ _ (a3h _ vs [14] _) _
        simp only [a3h,aa9,List.getElem?_toArray,List.getElem?_cons_succ,List.getElem?_cons_zero,Option.bind_some]
        rw [g14]
        repeat' (first | go_skip | go_guarded | go_step | go_upon)
        exact a5s (.bool false) rfl (by go_simp) (Below.refl _ _) rfl
       case o16 =>
        intro vs Wq hW hk
        have g15:vs 15=.bool false:=hk.1
        clear hk
        change wpList _ _ _ _ (a3h _ vs [15] _) _
        simp only [a3h,aa9,List.getElem?_toArray,List.getElem?_cons_succ,List.getElem?_cons_zero,Option.bind_some]
        rw [g15]
        have q:=a00 oo9 hW zo
        repeat' (first | go_skip | go_guarded | go_step | go_upon)
        exact a5s (.agg (ownRow me 4 0 90 ph ov (.slice none 0 0))) rfl (by go_simp) (Below.refl _ _) rfl
       case o17 =>
        intro vs Wq hW hk
        have g15:vs 15=.bool false:=hk.1
        clear hk
        change wpList _ _ _ _ (a3h _ vs [15] _) _
        simp only [a3h,aa9,List.getElem?_toArray,List.getElem?_cons_succ,List.getElem?_cons_zero,Option.bind_some]
        rw [g15]
        repeat' (first | go_skip | go_guarded | go_step | go_upon)
        exact a5s (v5) rfl (by go_simp) (Below.refl _ _) rfl
       case o18 =>
        intro vs Wq hW hk
        have g15:vs 15=.bool false:=hk.1
        have g16:vs 16=.agg (ownRow me 4 0 90 ph ov (.slice none 0 0)):=hk.2.1
        have g17:vs 17=v5:=hk.2.2.1
        clear hk
        change wpList _ _ _ _ (a3h _ vs [15,16,17] _) _
        simp only [a3h,aa9,List.getElem?_toArray,List.getElem?_cons_succ,List.getElem?_cons_zero,Option.bind_some]
        rw [g15,g16,g17]
        have HX2:=Lib.hid (HV1.out _ hW)
        repeat' (first | (go_at_call 14;((with_reducible refine (HX2.out).mono ?_));rintro e w5 ⟨rfl,hb5⟩;dsimp only) | go_skip | go_guarded | go_step | go_upon)
        exact a5s (.int .i64 vd) rfl (by go_simp) hb5 rfl
       case o19 =>
        intro vs Wq hW hk
        have g15:vs 15=.bool false:=hk.1
        clear hk
        change wpList _ _ _ _ (a3h _ vs [15] _) _
        simp only [a3h,aa9,List.getElem?_toArray,List.getElem?_cons_succ,List.getElem?_cons_zero,Option.bind_some]
        rw [g15]
        have q:=a00 oo9 hW zo
        repeat' (first | go_skip | go_guarded | go_step | go_upon)
        exact a5s (.agg (ownRow me 4 0 90 ph ov (.slice none 0 0))) rfl (by go_simp) (Below.refl _ _) rfl
       case o20 =>
        intro vs Wq hW hk
        have g15:vs 15=.bool false:=hk.1
        clear hk
        change wpList _ _ _ _ (a3h _ vs [15] _) _
        simp only [a3h,aa9,List.getElem?_toArray,List.getElem?_cons_succ,List.getElem?_cons_zero,Option.bind_some]
        rw [g15]
        repeat' (first | go_skip | go_guarded | go_step | go_upon)
        exact a5s (v5) rfl (by go_simp) (Below.refl _ _) rfl
       case o21 =>
        intro vs Wq hW hk
        have g15:vs 15=.bool false:=hk.1
        have g19:vs 19=.agg (ownRow me 4 0 90 ph ov (.slice none 0 0)):=hk.2.1
        have g20:vs 20=v5:=hk.2.2.1
        clear hk
        change wpList _ _ _ _ (a3h _ vs [15,19,20] _) _
        simp only [a3h,aa9,List.getElem?_toArray,List.getElem?_cons_succ,List.getElem?_cons_zero,Option.bind_some]
        rw [g15,g19,g20]
        have HX2:=Lib.hid (HV2.out _ hW)
        repeat' (first | (go_at_call 15;((with_reducible refine (HX2.out).mono ?_));rintro e w5 ⟨rfl,hb5⟩;dsimp only) | go_skip | go_guarded | go_step | go_upon)
        exact a5s (.int .i64 vd) rfl (by go_simp) hb5 rfl
       case o22 =>
        intro vs Wq hW hk
        have g15:vs 15=.bool false:=hk.1
        have g18:vs 18=.int .i64 vd:=hk.2.1
        have g21:vs 21=.int .i64 vd:=hk.2.2.1
        clear hk
        change wpList _ _ _ _ (a3h _ vs [15,18,21] _) _
        simp only [a3h,aa9,List.getElem?_toArray,List.getElem?_cons_succ,List.getElem?_cons_zero,Option.bind_some]
        rw [g15,g18,g21]
        repeat' (first | go_skip | go_guarded | go_step | go_upon)
        exact a5s (.bool false) rfl (by go_simp) (Below.refl _ _) rfl
       case o23 =>
        intro vs Wq hW hk
        have g15:vs 15=.bool false:=hk.1
        have g22:vs 22=.bool false:=hk.2.1
        clear hk
        change wpList _ _ _ _ (a3h _ vs [15,22] _) _
        simp only [a3h,aa9,List.getElem?_toArray,List.getElem?_cons_succ,List.getElem?_cons_zero,Option.bind_some]
        rw [g15,g22]
        repeat' (first | go_skip | go_guarded | go_step | go_upon)
        exact a5s (.bool false) rfl (by go_simp) (Below.refl _ _) rfl
       case tl =>
        intro vs W21 hW21 hk
        have h23:vs 23=.bool false:=hk 23 (by decide)
        clear hk
        dsimp only [a9l,List.take,List.drop]
        simp only [Act.put,List.setIfInBounds_toArray,List.set_cons_succ,List.set_cons_zero]
        rw [h23]
        generalize vs 0=g0,vs 1=g1,vs 2=g2,vs 3=g3,vs 4=g4,vs 5=g5,vs 6=g6,vs 7=g7,vs 8=g8,vs 9=g9,vs 10=g10,vs 11=g11,vs 12=g12,vs 13=g13,vs 14=g14,vs 15=g15,vs 16=g16,vs 17=g17,vs 18=g18,vs 19=g19,vs 20=g20,vs 21=g21,vs 22=g22
        clear h23
        have hBn:=hB9'.trans (hW21.mono hB9'.size)
        have Ln:=L9.out.below hW21
        repeat' (first | go_skip | go_guarded | go_step | go_upon)
        have e9:(ys ++ [x]).length=ys.length+1:=by simp
        refine ⟨⟨ys ++ [x],by omega,by omega,?_,Ln,hBn⟩,by simp [intOf];omega⟩
        rw [e9];go_num
      ·have HNO:=Lib.hid hyes
       clear hyes
       have HA1:=Lib.hid (tanswer_no hl hm hp HXB.out.1 HXB.out.2.1 (HTV.out _ hB5).2 c5 HNO.out)
       rw [HX.out] at HA1
       refine (HA1.out).mono ?_
       rintro e w6 ⟨rfl,hb6⟩
       have aB:=((Below.refl w6.heap.size w6).alloc (Nat.le_refl _) (.cells #[.int .i64 0,.int .i64 0,.int .i64 0,.int .i64 0,.int .i64 0,.slice none 0 0,.slice none 0 0] 28 (0,0))).alloc (by simp) (.cells z48 48 (0,0))
       have aB5:=hb6.trans (aB.mono hb6.size)
       have o17:obj ((w6.alloc (.cells #[.int .i64 0,.int .i64 0,.int .i64 0,.int .i64 0,.int .i64 0,.slice none 0 0,.slice none 0 0] 28 (0,0))).alloc (.cells z48 48 (0,0))) w6.heap.size=some (.cells #[.int .i64 0,.int .i64 0,.int .i64 0,.int .i64 0,.int .i64 0,.slice none 0 0,.slice none 0 0] 28 (0,0)):=a02 (a03 _ _ _ rfl) _
       have o18:obj ((w6.alloc (.cells #[.int .i64 0,.int .i64 0,.int .i64 0,.int .i64 0,.int .i64 0,.slice none 0 0,.slice none 0 0] 28 (0,0))).alloc (.cells z48 48 (0,0))) (w6.heap.size+1)=some (.cells z48 48 (0,0)):=a03 _ _ _ (by simp)
       have oo7:=a1w oo5 aB5
       have y7:=a1w y5 aB5
       have c7:=c5.below aB5
       have hB7:=hB5.trans (aB5.mono hB5.size)
       have L7:=Lib.hid (L5.out.below aB5)
       have HA2:=Lib.hid (ranswer_no hl hm hp HXB.out.1 HXB.out.2.1 (HTV.out _ hB7).2 c7 HAP.out HNO.out)
       rw [HX.out] at HA2
       clear oo5 y5 L5 hB5 aB HA1
       dsimp only
       repeat' (first | (go_at_call 13;((with_reducible refine (HA2.out).mono ?_));rintro e w8 ⟨rfl,hb8⟩;have aB:=((Below.refl w8.heap.size w8).alloc (Nat.le_refl _) (.cells #[.int .i64 0,.int .i64 0,.int .i64 0,.int .i64 0,.int .i64 0,.slice none 0 0,.slice none 0 0] 28 (0,0))).alloc (by simp) (.cells z48 48 (0,0));have aB7:=hb8.trans (aB.mono hb8.size);have o20:obj ((w8.alloc (.cells #[.int .i64 0,.int .i64 0,.int .i64 0,.int .i64 0,.int .i64 0,.slice none 0 0,.slice none 0 0] 28 (0,0))).alloc (.cells z48 48 (0,0))) w8.heap.size=some (.cells #[.int .i64 0,.int .i64 0,.int .i64 0,.int .i64 0,.int .i64 0,.slice none 0 0,.slice none 0 0] 28 (0,0)):=a02 (a03 _ _ _ rfl) _;have o21:obj ((w8.alloc (.cells #[.int .i64 0,.int .i64 0,.int .i64 0,.int .i64 0,.int .i64 0,.slice none 0 0,.slice none 0 0] 28 (0,0))).alloc (.cells z48 48 (0,0))) (w8.heap.size+1)=some (.cells z48 48 (0,0)):=a03 _ _ _ (by simp);have o177:=a1w o17 aB7;have o187:=a1w o18 aB7;have oo9:=a1w oo7 aB7;have c9:=c7.below aB7;have hB9':=hB7.trans (aB7.mono hB7.size);have L9:=Lib.hid (L7.out.below aB7);clear oo7 y7 L7 hB7 aB HA2;dsimp only) | go_skip | go_guarded | go_step | go_upon)
       have HO:=Lib.hid (fun (W':World) (_:True)=>zown_calls W')
       have HLS:=Lib.hid (fun (W':World) (_:True)=>zlet_calls W')
       have hlen:(ys ++ [x]).length≤8:=by simp;omega
       have HV1:=Lib.hid (fun (W':World) (hb:Below ((w8.alloc (.cells #[.int .i64 0,.int .i64 0,.int .i64 0,.int .i64 0,.int .i64 0,.slice none 0 0,.slice none 0 0] 28 (0,0))).alloc (.cells z48 48 (0,0))).heap.size ((w8.alloc (.cells #[.int .i64 0,.int .i64 0,.int .i64 0,.int .i64 0,.int .i64 0,.slice none 0 0,.slice none 0 0] 28 (0,0))).alloc (.cells z48 48 (0,0))) W')=>tverd_calls hl hm hp hlen L9.out.all (HTV.out _ (hB9'.trans (hb.mono hB9'.size))).1 (HTV.out _ (hB9'.trans (hb.mono hB9'.size))).2 (L9.out.below hb).lets)
       have HV2:=Lib.hid (fun (W':World) (hb:Below ((w8.alloc (.cells #[.int .i64 0,.int .i64 0,.int .i64 0,.int .i64 0,.int .i64 0,.slice none 0 0,.slice none 0 0] 28 (0,0))).alloc (.cells z48 48 (0,0))).heap.size ((w8.alloc (.cells #[.int .i64 0,.int .i64 0,.int .i64 0,.int .i64 0,.int .i64 0,.slice none 0 0,.slice none 0 0] 28 (0,0))).alloc (.cells z48 48 (0,0))) W')=>rverd_calls hl hm hp hlen L9.out.all (HTV.out _ (hB9'.trans (hb.mono hB9'.size))).1 (HTV.out _ (hB9'.trans (hb.mono hB9'.size))).2 (L9.out.below hb).lets)
       generalize verdN l me ph (ys ++ [x])=vd at *
       have z17:=a04 o177
       have z18:=a04 o187
       have z20:=a04 o20
       have z21:=a04 o21
       have zo:=a04 oo9
       clear hW3 y3 oo3 aB4 own4 y4 oo4 c4 hB4 le24 HLE c5 c7 c9 aB5 aB7 o17 o18 hb6 hb8 hga hxa lw1 lws k1 e1 srw sxs HLO HSX hgb hW2
       generalize ((w8.alloc (.cells #[.int .i64 0,.int .i64 0,.int .i64 0,.int .i64 0,.int .i64 0,.slice none 0 0,.slice none 0 0] 28 (0,0))).alloc (.cells z48 48 (0,0)))=w20 at *
       refine wp_region_min 24 [([],fun v _=>v=.agg #[.int .i64 0,.int .i64 0,.int .i64 0,.int .i64 0,.int .i64 0,.slice none 0 0,.slice none 0 0]),
         ([],fun v _=>v=.agg #[.int .i64 0,.int .i64 0,.int .i64 0,.int .i64 0,.int .i64 0,.slice none 0 0,.slice none 0 0]),
         ([0,1],fun v _=>v=.bool true),
         ([2],fun v _=>v=.bool false),
         ([3],fun v _=>v=.bool false),
         ([4],fun v _=>v=.agg z48),
         ([4],fun v _=>v=.agg z48),
         ([4,5,6],fun v _=>v=.bool true),
         ([4,7],fun v _=>v=.bool false),
         ([4,8],fun v _=>v=.bool false),
         ([9],fun v _=>v=.bool false),
         ([10],fun v _=>v=.int .i64 1),
         ([10],fun v _=>v=.int .i64 1),
         ([10,11,12],fun v _=>v=.bool false),
         ([10,13],fun v _=>v=.bool false),
         ([14],fun v _=>v=.bool false),
         ([15],fun v _=>v=.agg (ownRow me 4 0 90 ph ov (.slice none 0 0))),
         ([15],fun v _=>v=v5),
         ([15,16,17],fun v _=>v=.int .i64 vd),
         ([15],fun v _=>v=.agg (ownRow me 4 0 90 ph ov (.slice none 0 0))),
         ([15],fun v _=>v=v5),
         ([15,19,20],fun v _=>v=.int .i64 vd),
         ([15,18,21],fun v _=>v=.bool false),
         ([15,22],fun v _=>v=.bool false)] (by kernel_rfl) (by kernel_rfl) (by kernel_rfl) ?st ⟨?o0,?o1,?o2,?o3,?o4,?o5,?o6,?o7,?o8,?o9,?o10,?o11,?o12,?o13,?o14,?o15,?o16,?o17,?o18,?o19,?o20,?o21,?o22,?o23,trivial⟩ ?tl
       case st =>
        intro k v W1 W2 h hb
        rcases k with _ | _ | _ | _ | _ | _ | _ | _ | _ | _ | _ | _ | _ | _ | _ | _ | _ | _ | _ | _ | _ | _ | _ | _ | k
        ·exact h
        ·exact h
        ·exact h
        ·exact h
        ·exact h
        ·exact h
        ·exact h
        ·exact h
        ·exact h
        ·exact h
        ·exact h
        ·exact h
        ·exact h
        ·exact h
        ·exact h
        ·exact h
        ·exact h
        ·exact h
        ·exact h
        ·exact h
        ·exact h
        ·exact h
        ·exact h
        ·exact h
        ·trivial
       case o0 =>
        intro vs Wq hW hk
        clear hk
        change wpList _ _ _ _ (a3h _ vs [] _) _
        simp only [a3h]
        have q:=a00 o177 hW z17
        repeat' (first | go_skip | go_guarded | go_step | go_upon)
        exact a5s (.agg #[.int .i64 0,.int .i64 0,.int .i64 0,.int .i64 0,.int .i64 0,.slice none 0 0,.slice none 0 0]) rfl (by go_simp) (Below.refl _ _) rfl
       case o1 =>
        intro vs Wq hW hk
        clear hk
        change wpList _ _ _ _ (a3h _ vs [] _) _
        simp only [a3h]
        have q:=a00 o20 hW z20
        repeat' (first | go_skip | go_guarded | go_step | go_upon)
        exact a5s (.agg #[.int .i64 0,.int .i64 0,.int .i64 0,.int .i64 0,.int .i64 0,.slice none 0 0,.slice none 0 0]) rfl (by go_simp) (Below.refl _ _) rfl
       case o2 =>
        intro vs Wq hW hk
        have g0:vs 0=.agg #[.int .i64 0,.int .i64 0,.int .i64 0,.int .i64 0,.int .i64 0,.slice none 0 0,.slice none 0 0]:=hk.1
        have g1:vs 1=.agg #[.int .i64 0,.int .i64 0,.int .i64 0,.int .i64 0,.int .i64 0,.slice none 0 0,.slice none 0 0]:=hk.2.1
        clear hk
        change wpList _ _ _ _ (a3h _ vs [0,1] _) _
        simp only [a3h,aa9,List.getElem?_toArray,List.getElem?_cons_succ,List.getElem?_cons_zero,Option.bind_some]
        rw [g0,g1]
        have HX2:=Lib.hid (HO.out Wq trivial)
        repeat' (first | (go_at_call 9;((with_reducible refine (HX2.out).mono ?_));rintro e w5 ⟨rfl,hb5⟩;dsimp only) | go_skip | go_guarded | go_step | go_upon)
        exact a5s (.bool true) rfl (by go_simp) hb5 rfl
       case o3 =>
        intro vs Wq hW hk
        have g2:vs 2=.bool true:=hk.1
        clear hk
        change wpList _ _ _ _ (a3h _ vs [2] _) _
        simp only [a3h,aa9,List.getElem?_toArray,List.getElem?_cons_succ,List.getElem?_cons_zero,Option.bind_some]
        rw [g2]
        repeat' (first | go_skip | go_guarded | go_step | go_upon)
        exact a5s (.bool false) rfl (by go_simp) (Below.refl _ _) rfl
       case o4 =>
        intro vs Wq hW hk
        have g3:vs 3=.bool false:=hk.1
        clear hk
        change wpList _ _ _ _ (a3h _ vs [3] _) _
        simp only [a3h,aa9,List.getElem?_toArray,List.getElem?_cons_succ,List.getElem?_cons_zero,Option.bind_some]
        rw [g3]
        repeat' (first | go_skip | go_guarded | go_step | go_upon)
        exact a5s (.bool false) rfl (by go_simp) (Below.refl _ _) rfl
       case o5 =>
        intro vs Wq hW hk
        have g4:vs 4=.bool false:=hk.1
        clear hk
        change wpList _ _ _ _ (a3h _ vs [4] _) _
        simp only [a3h,aa9,List.getElem?_toArray,List.getElem?_cons_succ,List.getElem?_cons_zero,Option.bind_some]
        rw [g4]
        have q:=a00 o187 hW z18
        repeat' (first | go_skip | go_guarded | go_step | go_upon)
        exact a5s (.agg z48) rfl (by go_simp) (Below.refl _ _) rfl
       case o6 =>
        intro vs Wq hW hk
        have g4:vs 4=.bool false:=hk.1
        clear hk
        change wpList _ _ _ _ (a3h _ vs [4] _) _
        simp only [a3h,aa9,List.getElem?_toArray,List.getElem?_cons_succ,List.getElem?_cons_zero,Option.bind_some]
        rw [g4]
        have q:=a00 o21 hW z21
        repeat' (first | go_skip | go_guarded | go_step | go_upon)
        exact a5s (.agg z48) rfl (by go_simp) (Below.refl _ _) rfl
       case o7 =>
        intro vs Wq hW hk
        have g4:vs 4=.bool false:=hk.1
        have g5:vs 5=.agg z48:=hk.2.1
        have g6:vs 6=.agg z48:=hk.2.2.1
        clear hk
        change wpList _ _ _ _ (a3h _ vs [4,5,6] _) _
        simp only [a3h,aa9,List.getElem?_toArray,List.getElem?_cons_succ,List.getElem?_cons_zero,Option.bind_some]
        rw [g4,g5,g6]
        have HX2:=Lib.hid (HLS.out Wq trivial)
        repeat' (first | (go_at_call 10;((with_reducible refine (HX2.out).mono ?_));rintro e w5 ⟨rfl,hb5⟩;dsimp only) | go_skip | go_guarded | go_step | go_upon)
        exact a5s (.bool true) rfl (by go_simp) hb5 rfl
       case o8 =>
        intro vs Wq hW hk
        have g4:vs 4=.bool false:=hk.1
        have g7:vs 7=.bool true:=hk.2.1
        clear hk
        change wpList _ _ _ _ (a3h _ vs [4,7] _) _
        simp only [a3h,aa9,List.getElem?_toArray,List.getElem?_cons_succ,List.getElem?_cons_zero,Option.bind_some]
        rw [g4,g7]
        repeat' (first | go_skip | go_guarded | go_step | go_upon)
        exact a5s (.bool false) rfl (by go_simp) (Below.refl _ _) rfl
       case o9 =>
        intro vs Wq hW hk
        have g4:vs 4=.bool false:=hk.1
        have g8:vs 8=.bool false:=hk.2.1
        clear hk
        change wpList _ _ _ _ (a3h _ vs [4,8] _) _
        simp only [a3h,aa9,List.getElem?_toArray,List.getElem?_cons_succ,List.getElem?_cons_zero,Option.bind_some]
        rw [g4,g8]
        repeat' (first | go_skip | go_guarded | go_step | go_upon)
        exact a5s (.bool false) rfl (by go_simp) (Below.refl _ _) rfl
       case o10 =>
        intro vs Wq hW hk
        have g9:vs 9=.bool false:=hk.1
        clear hk
        change wpList _ _ _ _ (a3h _ vs [9] _) _
        simp only [a3h,aa9,List.getElem?_toArray,List.getElem?_cons_succ,List.getElem?_cons_zero,Option.bind_some]
        rw [g9]
        repeat' (first | go_skip | go_guarded | go_step | go_upon)
        exact a5s (.bool false) rfl (by go_simp) (Below.refl _ _) rfl
       case o11 =>
        intro vs Wq hW hk
        have g10:vs 10=.bool false:=hk.1
        clear hk
        change wpList _ _ _ _ (a3h _ vs [10] _) _
        simp only [a3h,aa9,List.getElem?_toArray,List.getElem?_cons_succ,List.getElem?_cons_zero,Option.bind_some]
        rw [g10]
        repeat' (first | go_skip | go_guarded | go_step | go_upon)
        exact a5s (.int .i64 1) rfl (by go_simp) (Below.refl _ _) rfl
       case o12 =>
        intro vs Wq hW hk
        have g10:vs 10=.bool false:=hk.1
        clear hk
        change wpList _ _ _ _ (a3h _ vs [10] _) _
        simp only [a3h,aa9,List.getElem?_toArray,List.getElem?_cons_succ,List.getElem?_cons_zero,Option.bind_some]
        rw [g10]
        repeat' (first | go_skip | go_guarded | go_step | go_upon)
        exact a5s (.int .i64 1) rfl (by go_simp) (Below.refl _ _) rfl
       case o13 =>
        intro vs Wq hW hk
        have g10:vs 10=.bool false:=hk.1
        have g11:vs 11=.int .i64 1:=hk.2.1
        have g12:vs 12=.int .i64 1:=hk.2.2.1
        clear hk
        change wpList _ _ _ _ (a3h _ vs [10,11,12] _) _
        simp only [a3h,aa9,List.getElem?_toArray,List.getElem?_cons_succ,List.getElem?_cons_zero,Option.bind_some]
        rw [g10,g11,g12]
        repeat' (first | go_skip | go_guarded | go_step | go_upon)
        exact a5s (.bool false) rfl (by go_simp) (Below.refl _ _) rfl
       case o14 =>
        intro vs Wq hW hk
        have g10:vs 10=.bool false:=hk.1
        have g13:vs 13=.bool false:=hk.2.1
        clear hk
        change wpList _ _ _ _ (a3h _ vs [10,13] _) _
        simp only [a3h,aa9,List.getElem?_toArray,List.getElem?_cons_succ,List.getElem?_cons_zero,Option.bind_some]
        rw [g10,g13]
        repeat' (first | go_skip | go_guarded | go_step | go_upon)
        exact a5s (.bool false) rfl (by go_simp) (Below.refl _ _) rfl
       case o15 =>
        intro vs Wq hW hk
        have g14:vs 14=.bool false:=hk.1
        clear hk
        change wpList _ _ _ _ (a3h _ vs [14] _) _
        simp only [a3h,aa9,List.getElem?_toArray,List.getElem?_cons_succ,List.getElem?_cons_zero,Option.bind_some]
        rw [g14]
        repeat' (first | go_skip | go_guarded | go_step | go_upon)
        exact a5s (.bool false) rfl (by go_simp) (Below.refl _ _) rfl
       case o16 =>
        intro vs Wq hW hk
        have g15:vs 15=.bool false:=hk.1
        clear hk
        change wpList _ _ _ _ (a3h _ vs [15] _) _
        simp only [a3h,aa9,List.getElem?_toArray,List.getElem?_cons_succ,List.getElem?_cons_zero,Option.bind_some]
        rw [g15]
        have q:=a00 oo9 hW zo
        repeat' (first | go_skip | go_guarded | go_step | go_upon)
        exact a5s (.agg (ownRow me 4 0 90 ph ov (.slice none 0 0))) rfl (by go_simp) (Below.refl _ _) rfl
       case o17 =>
        intro vs Wq hW hk
        have g15:vs 15=.bool false:=hk.1
        clear hk
        change wpList _ _ _ _ (a3h _ vs [15] _) _
        simp only [a3h,aa9,List.getElem?_toArray,List.getElem?_cons_succ,List.getElem?_cons_zero,Option.bind_some]
        rw [g15]
        repeat' (first | go_skip | go_guarded | go_step | go_upon)
        exact a5s (v5) rfl (by go_simp) (Below.refl _ _) rfl
       case o18 =>
        intro vs Wq hW hk
        have g15:vs 15=.bool false:=hk.1
        have g16:vs 16=.agg (ownRow me 4 0 90 ph ov (.slice none 0 0)):=hk.2.1
        have g17:vs 17=v5:=hk.2.2.1
        clear hk
        change wpList _ _ _ _ (a3h _ vs [15,16,17] _) _
        simp only [a3h,aa9,List.getElem?_toArray,List.getElem?_cons_succ,List.getElem?_cons_zero,Option.bind_some]
        rw [g15,g16,g17]
        have HX2:=Lib.hid (HV1.out _ hW)
        repeat' (first | (go_at_call 14;((with_reducible refine (HX2.out).mono ?_));rintro e w5 ⟨rfl,hb5⟩;dsimp only) | go_skip | go_guarded | go_step | go_upon)
        exact a5s (.int .i64 vd) rfl (by go_simp) hb5 rfl
       case o19 =>
        intro vs Wq hW hk
        have g15:vs 15=.bool false:=hk.1
        clear hk
        change wpList _ _ _ _ (a3h _ vs [15] _) _
        simp only [a3h,aa9,List.getElem?_toArray,List.getElem?_cons_succ,List.getElem?_cons_zero,Option.bind_some]
        rw [g15]
        have q:=a00 oo9 hW zo
        repeat' (first | go_skip | go_guarded | go_step | go_upon)
        exact a5s (.agg (ownRow me 4 0 90 ph ov (.slice none 0 0))) rfl (by go_simp) (Below.refl _ _) rfl
       case o20 =>
        intro vs Wq hW hk
        have g15:vs 15=.bool false:=hk.1
        clear hk
        change wpList _ _ _ _ (a3h _ vs [15] _) _
        simp only [a3h,aa9,List.getElem?_toArray,List.getElem?_cons_succ,List.getElem?_cons_zero,Option.bind_some]
        rw [g15]
        repeat' (first | go_skip | go_guarded | go_step | go_upon)
        exact a5s (v5) rfl (by go_simp) (Below.refl _ _) rfl
       case o21 =>
        intro vs Wq hW hk
        have g15:vs 15=.bool false:=hk.1
        have g19:vs 19=.agg (ownRow me 4 0 90 ph ov (.slice none 0 0)):=hk.2.1
        have g20:vs 20=v5:=hk.2.2.1
        clear hk
        change wpList _ _ _ _ (a3h _ vs [15,19,20] _) _
        simp only [a3h,aa9,List.getElem?_toArray,List.getElem?_cons_succ,List.getElem?_cons_zero,Option.bind_some]
        rw [g15,g19,g20]
        have HX2:=Lib.hid (HV2.out _ hW)
        repeat' (first | (go_at_call 15;((with_reducible refine (HX2.out).mono ?_));rintro e w5 ⟨rfl,hb5⟩;dsimp only) | go_skip | go_guarded | go_step | go_upon)
        exact a5s (.int .i64 vd) rfl (by go_simp) hb5 rfl
       case o22 =>
        intro vs Wq hW hk
        have g15:vs 15=.bool false:=hk.1
        have g18:vs 18=.int .i64 vd:=hk.2.1
        have g21:vs 21=.int .i64 vd:=hk.2.2.1
        clear hk
        change wpList _ _ _ _ (a3h _ vs [15,18,21] _) _
        simp only [a3h,aa9,List.getElem?_toArray,List.getElem?_cons_succ,List.getElem?_cons_zero,Option.bind_some]
        rw [g15,g18,g21]
        repeat' (first | go_skip | go_guarded | go_step | go_upon)
        exact a5s (.bool false) rfl (by go_simp) (Below.refl _ _) rfl
       case o23 =>
        intro vs Wq hW hk
        have g15:vs 15=.bool false:=hk.1
        have g22:vs 22=.bool false:=hk.2.1
        clear hk
        change wpList _ _ _ _ (a3h _ vs [15,22] _) _
        simp only [a3h,aa9,List.getElem?_toArray,List.getElem?_cons_succ,List.getElem?_cons_zero,Option.bind_some]
        rw [g15,g22]
        repeat' (first | go_skip | go_guarded | go_step | go_upon)
        exact a5s (.bool false) rfl (by go_simp) (Below.refl _ _) rfl
       case tl =>
        intro vs W21 hW21 hk
        have h23:vs 23=.bool false:=hk 23 (by decide)
        clear hk
        dsimp only [a9l,List.take,List.drop]
        simp only [Act.put,List.setIfInBounds_toArray,List.set_cons_succ,List.set_cons_zero]
        rw [h23]
        generalize vs 0=g0,vs 1=g1,vs 2=g2,vs 3=g3,vs 4=g4,vs 5=g5,vs 6=g6,vs 7=g7,vs 8=g8,vs 9=g9,vs 10=g10,vs 11=g11,vs 12=g12,vs 13=g13,vs 14=g14,vs 15=g15,vs 16=g16,vs 17=g17,vs 18=g18,vs 19=g19,vs 20=g20,vs 21=g21,vs 22=g22
        clear h23
        have hBn:=hB9'.trans (hW21.mono hB9'.size)
        have Ln:=L9.out.below hW21
        repeat' (first | go_skip | go_guarded | go_step | go_upon)
        have e9:(ys ++ [x]).length=ys.length+1:=by simp
        refine ⟨⟨ys ++ [x],by omega,by omega,?_,Ln,hBn⟩,by simp [intOf];omega⟩
        rw [e9];go_num
    ·have i2 : ¬ (ys.length:Int) < 8:=by omega
     repeat' (first | go_skip | go_guarded | go_step | go_upon)
     go_ret
     exact ⟨rfl,hBW⟩
   ·have i1 : ¬ (ys.length:Int) < (n:Int):=by omega
    repeat' (first | go_skip | go_guarded | go_step | go_upon)
    go_ret
    exact ⟨rfl,hBW⟩
end Go.Proofs.YtopgdlblfieljaaGreatDoor
