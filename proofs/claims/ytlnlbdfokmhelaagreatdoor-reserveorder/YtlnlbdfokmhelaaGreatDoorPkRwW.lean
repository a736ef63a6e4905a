/-
  The walk of reserve.Decide: a letter that is taken.
-/
import Derived.Test.YtlnlbdfokmhelaaGreatDoorPkRwV
set_option linter.unusedSectionVars false
set_option linter.constructorNameAsVariable false
set_option linter.unusedVariables false
set_option linter.unusedSimpArgs false
namespace Go.Proofs.YtlnlbdfokmhelaaGreatDoor
open Go.RowKit Go.CE.V
set_option maxRecDepth 20000
set_option maxHeartbeats 8000000
attribute [local irreducible] wpQuiet
theorem bzi {W:World} {kv:Value} {self mtg org dl ph:Nat} {own:List Nat} {ov pv:Value} {ps:List (LN×Nat)} {x:LN} {q:Nat} {body:Value} (h:bWy W kv self mtg org dl ph own ov pv ps x q body)
  (HV:∀ W',Below W.heap.size W W'→Calls Tryz.prog 103 #[.agg (ah6 mtg org dl ov)] W' fun e w'=>e=.returned (.bool true)∧Below W'.heap.size W' w')
  (hn:baz mtg org dl own ph (ps.map (·.1)) x=0) :
  Calls Tryz.prog 33 #[.agg (ownRow self mtg org dl ph ov pv),kv,.agg (aj7 x q body).row] W fun e W' => ∃ v5 v7,e=.returned (.tuple #[.agg (ownRow self mtg org dl (bqt mtg org dl own ph ((bfp ps x q).map (·.1))) v5 v7),.int .i64 0])∧as1 0 W' v5 own∧bd8 W' v7 (bfp ps x q)∧Below W.heap.size W W':=by
 have H:=Lib.hid h
 have bVq:=azh h.cov
 have hpv1:pv.oneCell' = true:=by
  obtain ⟨bv,⟨a,c,rfl,_⟩,_⟩:=h.cpv
  rfl
 have oo:=aRj self mtg org dl ph bVq hpv1
 have po:=b8r mtg org dl bVq
 have er:=b2n (aj7 x q body) (as6 x q)
 have ea:=baf (aj7 x q body) (as6 x q)
 have eo:=b8t x q (bgf h.bd)
 have hxr:=h.xo.ok.ref
 have k0:obj (((W.alloc (.cells (ownRow self mtg org dl ph ov pv) 28 (0,0))).alloc (.cells (aj7 x q body).row 78 (0,0))).alloc (.cells #[.int .i64 0,.int .i64 0,.int .i64 0,.int .i64 0,.int .i64 0,.slice none 0 0,.slice none 0 0] 28 (0,0))) W.heap.size=some (.cells (ownRow self mtg org dl ph ov pv) 28 (0,0)):=ab6 (ab6 (aff _ _ _ rfl) _) _
 have k1:obj (((W.alloc (.cells (ownRow self mtg org dl ph ov pv) 28 (0,0))).alloc (.cells (aj7 x q body).row 78 (0,0))).alloc (.cells #[.int .i64 0,.int .i64 0,.int .i64 0,.int .i64 0,.int .i64 0,.slice none 0 0,.slice none 0 0] 28 (0,0))) (W.heap.size+1)=some (.cells (aj7 x q body).row 78 (0,0)):=ab6 (aff _ _ _ (by simp)) _
 have k2:obj (((W.alloc (.cells (ownRow self mtg org dl ph ov pv) 28 (0,0))).alloc (.cells (aj7 x q body).row 78 (0,0))).alloc (.cells #[.int .i64 0,.int .i64 0,.int .i64 0,.int .i64 0,.int .i64 0,.slice none 0 0,.slice none 0 0] 28 (0,0))) (W.heap.size+1+1)=some (.cells #[.int .i64 0,.int .i64 0,.int .i64 0,.int .i64 0,.int .i64 0,.slice none 0 0,.slice none 0 0] 28 (0,0)):=aff _ _ _ (by simp)
 have kB:Below W.heap.size W (((W.alloc (.cells (ownRow self mtg org dl ph ov pv) 28 (0,0))).alloc (.cells (aj7 x q body).row 78 (0,0))).alloc (.cells #[.int .i64 0,.int .i64 0,.int .i64 0,.int .i64 0,.int .i64 0,.slice none 0 0,.slice none 0 0] 28 (0,0))):=(((Below.refl _ _).alloc (Nat.le_refl _) _).alloc (by simp) _).alloc (by simp;omega) _
 have HOW:=Lib.hid (bk4 (aAb (h.cov.below kB)) (by have:=h.bo2;omega) hpv1 h.cph h.c3w (fun W' hb=>HV W' (kB.trans (hb.mono kB.size))))
 clear h HV
 have HNN:=Lib.hid hn
 clear hn
 go_enter Tryz.func33,Tryz.ntmps33
 repeat' (first | (go_at_call 87;((with_reducible refine (HOW.out).mono ?_));rintro r w1 ⟨rfl,hb1⟩;have B1:=kB.trans (hb1.mono kB.size);have a0:=ab6 (aa1 k0 hb1 (ah1 k0)) (.cells (ah6 mtg org dl ov) 144 (0,0));have a1:=ab6 (aa1 k1 hb1 (ah1 k1)) (.cells (ah6 mtg org dl ov) 144 (0,0));have a2:=ab6 (aa1 k2 hb1 (ah1 k2)) (.cells (ah6 mtg org dl ov) 144 (0,0));have s1:W.heap.size+1+1 < w1.heap.size:=ah1 (aa1 k2 hb1 (ah1 k2));have a3:obj (w1.alloc (.cells (ah6 mtg org dl ov) 144 (0,0))) w1.heap.size=some (.cells (ah6 mtg org dl ov) 144 (0,0)):=aff _ _ _ rfl;have B1':=B1.alloc B1.size (.cells (ah6 mtg org dl ov) 144 (0,0));have HOP:=Lib.hid (bo5 H.out.xo.ok H.out.xo.k8 H.out.xo.f5 H.out.xo.d5 H.out.xo.q (H.out.keys.below B1') (H.out.bd.below B1') H.out.xo.e0 H.out.xo.e1 (H.out.tab.below B1' H.out.h0) (Nat.lt_of_lt_of_le H.out.h0 B1'.size));dsimp only) | (go_at_call 86;((with_reducible refine (HOP.out).mono ?_));rintro r w2 ⟨c,rfl,hc,hb2⟩;have lz:=as4 (LN.let x c) hxr;have la:=aI7 (LN.let x c) hxr;have lo:=aBk (LN.let x c) (azh hc);have B2:=B1'.trans (hb2.mono B1'.size);have b0:=ab6 (aa1 a0 hb2 (ah1 a0)) (.cells (LN.let x c).row 48 (0,0));have b1:=ab6 (aa1 a1 hb2 (ah1 a1)) (.cells (LN.let x c).row 48 (0,0));have b2:=ab6 (aa1 a2 hb2 (ah1 a2)) (.cells (LN.let x c).row 48 (0,0));have b3:=ab6 (aa1 a3 hb2 (ah1 a3)) (.cells (LN.let x c).row 48 (0,0));have b4:obj (w2.alloc (.cells (LN.let x c).row 48 (0,0))) w2.heap.size=some (.cells (LN.let x c).row 48 (0,0)):=aff _ _ _ rfl;have b06:=(abm b0 6).trans (bij _ _ _ _ _ _ _);have B2':=B2.alloc B2.size (.cells (LN.let x c).row 48 (0,0));have s2:w1.heap.size < w2.heap.size:=ah1 (aa1 a3 hb2 (ah1 a3));have HCX:=Lib.hid hc;have hc2:=hc.below ((Below.refl w2.heap.size w2).alloc (Nat.le_refl _) (.cells (LN.let x c).row 48 (0,0)));have HCT:=Lib.hid (bfq (H.out.keys.below B2') (H.out.cpv.below B2') H.out.kok (by have:=H.out.len;omega) (H.out.tab.below B2' H.out.h0) (Nat.lt_of_lt_of_le H.out.h0 B2'.size));dsimp only) | (go_at_call 88;((with_reducible refine (HCT.out).mono ?_));rintro r w3 ⟨kw,rfl,hlo,hb3⟩;have B3:=B2'.trans (hb3.mono B2'.size);have c0:=aa1 b0 hb3 (ah1 b0);have c1:=aa1 b1 hb3 (ah1 b1);have c2:=aa1 b2 hb3 (ah1 b2);have c3:=aa1 b3 hb3 (ah1 b3);have c4:=aa1 b4 hb3 (ah1 b4);have hc3:=hc2.below hb3;have HLO:=Lib.hid hlo;have HAD:=Lib.hid (blg (self:=self) (ph:=ph) (ov:=ov) (pv:=pv) (mtg:=mtg) (dl:=dl) (aAb (H.out.cov.below B3)) (by have:=H.out.bo2;omega) hpv1 bVq H.out.refs (fun i hi e=>H.out.bLt i hi (.inr e)) (hlo.lets H.out.refs) (by rw [List.length_map];have:=H.out.len;omega) hxr (aAb hc3) (by have:=H.out.xo.ok.len;omega) (H.out.tab.below B3 H.out.h0) (Nat.lt_of_lt_of_le H.out.h0 B3.size));rw [HNN.out,show ((0:Nat):Int)=0 from rfl] at HAD;clear hlo;dsimp only) | (go_at_call 89;((with_reducible refine (HAD.out).mono ?_));rintro r w4 ⟨rfl,hb4⟩;have B4:=B3.trans (hb4.mono B3.size);have d0:=aa1 c0 hb4 (ah1 c0);have d1:=aa1 c1 hb4 (ah1 c1);have d2:=aa1 c2 hb4 (ah1 c2);have d3:=aa1 c3 hb4 (ah1 c3);have d4:=aa1 c4 hb4 (ah1 c4);dsimp only) | go_skip | go_guarded | go_step | go_upon)
 have x0:obj w4.drew W.heap.size=_:=d0
 have jD:Below w4.heap.size w4 w4.drew:=(Below.refl _ _).drew
 have x5:=(abm x0 5).trans (bu2 _ _ _ _ _ _ _)
 have x6:=(abm x0 6).trans (bij _ _ _ _ _ _ _)
 have HCL:=Lib.hid (fun W' (hb:Below w4.heap.size w4 W')=>bsf H.out.bL9 (by have:=H.out.bo2;omega) (H.out.cov.below (B4.trans (hb.mono B4.size))))
 have HCP:=Lib.hid (fun W' (hb:Below w4.heap.size w4 W')=>bic (H.out.cpv.below (B4.trans (hb.mono B4.size))) H.out.kok (by have:=H.out.len;omega))
 go_cut [12] from 47 to 55 (fun v wx=>v=kw∧∃ v5 v6,obj wx W.heap.size=some (.cells (ownRow self mtg org dl ph v5 v6) 28 (0,0))∧as1 w4.heap.size wx v5 own∧b8w w4.heap.size wx v6 ps∧bd9 W.heap.size w4 wx∧Below W.heap.size W wx∧w4.heap.size≤wx.heap.size)
 case first =>
  go_region_law (first | ((go_simp;go_at_call 90;((with_reducible refine (HCL.out _ (by assumption)).mono ?_));rintro e w5 ⟨v5,rfl,hv5,hb5⟩;obtain ⟨ca,cn,cc,rfl⟩:=bzv hv5;have y0:obj w5 W.heap.size=some (.cells (ownRow self mtg org dl ph ov pv) 28 (0,0)):=aa1 (by assumption) hb5 (ah1 (by assumption));have y5:=(abm y0 5).trans (bu2 _ _ _ _ _ _ _);have y6:=(abm y0 6).trans (bij _ _ _ _ _ _ _);have yf5:=azi y0 5;have yf6:=azi y0 6;have yB:Below w4.heap.size w4 w5:=bRx (by assumption) hb5;dsimp only)) | ((go_simp;go_at_call 91;((with_reducible refine (HCP.out _ (by assumption)).mono ?_));rintro e w6 ⟨v6,rfl,hv6,hb6⟩;obtain ⟨pa,pn,pc,rfl⟩:=hv6.slice;have z0:obj w6 W.heap.size=some (.cells (ownRow self mtg org dl ph ov pv) 28 (0,0)):=aa1 (by assumption) hb6 (ah1 (by assumption));have z5:=(abm z0 5).trans (bu2 _ _ _ _ _ _ _);have z6:=(abm z0 6).trans (bij _ _ _ _ _ _ _);have zf5:=azi z0 5;have zf6:=azi z0 6;have zB:Below w4.heap.size w4 w6:=bRx (by assumption) hb6;dsimp only)))
  all_goals (repeat' go_step)
  all_goals go_meet
  all_goals
   first
    | exact ⟨rfl,_,_,bFz z0 ((hv5.below hb6).mono (Nat.le_refl _)) (hv6.mono yB.size) zB B4 (Nat.le_refl _) B4.size⟩
    | exact ⟨rfl,_,_,bFz y0 (hv5.mono zB.size) ((hv6.below hb5).mono (Nat.le_refl _)) yB B4 (Nat.le_refl _) B4.size⟩
 case rest =>
  obtain ⟨rfl,v5,v6,e0,hv5,hv6,hK,B5,hsz⟩:=hcut
  have s4:=ah1 d4
  have e1:=hK.obj d1 (show W.heap.size+1≠W.heap.size by omega)
  have e2:=hK.obj d2 (show W.heap.size+1+1≠W.heap.size by omega)
  have e3:=hK.obj d3 (show w1.heap.size≠W.heap.size by omega)
  have e4:=hK.obj d4 (show w2.heap.size≠W.heap.size by omega)
  have c36:=(HLO.out.below hb4).keep d0 (by decide) (by decide) hK
  have hc5:=bGa (hc3.below hb4) d0 (by decide) hK
  have hPK:bA7 own ps:=⟨H.out.kok,H.out.ans⟩
  have hKl0:(ps.map (·.1)).length≤100000:=by rw [List.length_map];have:=H.out.len;omega
  have bXu:Hid (Calls Tryz.prog 92 #[u12,.func (.func 93) #[] #[.pointer (some ⟨w2.heap.size,0,none⟩)]] wc fun e W'=>e=.returned (.bool ((ps.map (·.1)).any fun k=>bjl k x))∧Below wc.heap.size wc W'):=Lib.hid (bWb (.inr (.inl rfl)) hPK.refs (c36.lets hPK.refs) (by omega) (fun i hi w c' hbw hc'=>by
   have hi':=hi
   rw [List.length_map] at hi'
   have hq:=hPK.kok i hi'
   rw [bhn] at hc' ⊢
   exact bzj (c7b (c0n hq.ok hq.dls) (by have:=H.out.xo.d5;omega)) (c0n H.out.xo.ok H.out.xo.dls) (hc'.mono (Nat.zero_le _)) ((hc5.below hbw).mono (Nat.zero_le _)) (bh7 hc' HCX.out (by simp)) (aa1 e4 hbw (ah1 e4))))
  have hp2:((ph:Int) == 2)=decide (ph=2):=aBg ph 2
  have hp5:((ph:Int) == 5)=decide (ph=5):=aBg ph 5
  have HNH:=Lib.hid (show ∀ K,bqt mtg org dl own ph K=(if (ph=2∨ph=5)∧(K.any fun x=>decide (x.kind=10)&&bcd mtg dl own x)=true then 4 else if ph=2∧(bb7 mtg org dl own).azj K=true then 3 else ph) from fun K=>rfl)
  have hz5:=azh hv5
  have hne2:W.heap.size+1+1≠W.heap.size:=by omega
  by_cases ht:((ps.map (·.1)).any fun k=>bjl k x)=true
  ·have hps:bfp ps x q=ps:=if_pos ht
   have HPS:=Lib.hid hps
   rw [ht] at bXu
   clear ht hps
   have hz7:v6.oneCell' = true:=by obtain ⟨a,n,c,rfl⟩:=hv6.slice;rfl
   have ho0:=aRj self mtg org dl ph hz5 hz7
   have bct:=hPK
   have hKl:=hKl0
   have c9g:ph=2∨ph=5∨(ph≠2∧ph≠5):=by omega
   rcases c9g with hph | hph | ⟨hph,bVp⟩
   ·rw [decide_eq_true hph] at hp2
    have HPE:=Lib.hid hph
    clear hph
    repeat' (first | (go_at_call 92;((with_reducible refine (bXu.out).mono ?_));rintro r w7 ⟨rfl,hb7⟩;have f0:=aa1 e0 hb7 (ah1 e0);have f1:=aa1 e1 hb7 (ah1 e1);have f2:=aa1 e2 hb7 (ah1 e2);have f3:=aa1 e3 hb7 (ah1 e3);have f4:=aa1 e4 hb7 (ah1 e4);have g4:=(abm f0 4).trans (bav _ _ _ _ _ _ _);dsimp only) | go_skip | go_guarded | go_step | go_upon)
    have hvS:=hv5.below hb7
    have hpS:=hv6.below hb7
    have bmw:=c36.below hb7
    have BS:=B5.trans (hb7.mono B5.size)
    have HRF:Hid (Calls Tryz.prog 92 #[u12,.func (.func 95) #[] #[.pointer (some ⟨w1.heap.size,0,none⟩)]] w7 fun e W'=>e=.returned (.bool ((ps.map (·.1)).any fun x=>decide (x.kind=10)&&bcd mtg dl own x))∧Below w7.heap.size w7 W'):=Lib.hid (bWb (.inr (.inr rfl)) bct.refs (bmw.lets bct.refs) (by omega) (fun i hi w c' hbw hc'=>bby (bct.refs i hi) (aAb hc') (aAb (H.out.cov.below (BS.trans (hbw.mono BS.size)))) (by have:=bct.csz i hi;omega) (by have:=H.out.bo2;omega) (aa1 f3 hbw (ah1 f3))))
    have HCM:Hid (∀ W',Below w7.heap.size w7 W'→Calls Tryz.prog 97 #[.agg (ah6 mtg org dl ov),u12] W' fun e W''=>e=.returned (.bool ((bb7 mtg org dl own).azj (ps.map (·.1))))∧Below W'.heap.size W' W''):=Lib.hid fun W' hb=>b97 bct.refs (fun i hi e=>bct.bLt H.out.bo4 H.out.bgq i hi (.inl e)) ((bmw.below hb).lets bct.refs) (aAb (H.out.cov.below (BS.trans (hb.mono BS.size)))) H.out.bL9 (by have:=H.out.bo2;omega) (by omega) (H.out.tab.below (BS.trans (hb.mono BS.size)) H.out.h0) (Nat.lt_of_lt_of_le H.out.h0 (BS.trans (hb.mono BS.size)).size)
    have HPH:=Lib.hid (HNH.out (ps.map (·.1)))
    generalize ((ps.map (·.1)).any fun x=>decide (x.kind=10)&&bcd mtg dl own x)=br at HRF HPH
    generalize (bb7 mtg org dl own).azj (ps.map (·.1))=bc at HCM HPH
    refine (HRF.out).mono ?_
    rintro r w8 ⟨rfl,hb8⟩
    dsimp only
    have h0:=aa1 f0 hb8 (ah1 f0)
    have h2:=aa1 f2 hb8 (ah1 f2)
    have h3:=aa1 f3 hb8 (ah1 f3)
    have h4:=(abm h0 4).trans (bav _ _ _ _ _ _ _)
    have hf4:=azi h0 4
    have h8v:=hvS.below hb8
    have h8p:=hpS.below hb8
    have h8B:=BS.trans (hb8.mono BS.size)
    clear HRF f0 f2 f3
    cases br
    ·cases bc
     ·repeat' (first | (go_at_call 97;((with_reducible refine (HCM.out _ hb8).mono ?_));rintro r w9 ⟨rfl,hb9⟩;have i0:=aa1 h0 hb9 (ah1 h0);have i2:=aa1 h2 hb9 (ah1 h2);have i4:=(abm i0 4).trans (bav _ _ _ _ _ _ _);have if4:=azi i0 4;have iv:=h8v.below hb9;have ip:=h8p.below hb9;have iB:=h8B.trans (hb9.mono h8B.size);dsimp only) | go_skip | go_guarded | go_step | go_upon)
      refine bodyPost_ret (aq1 rfl _ _ (W.heap.size+1+1) 28 _ _ _ (.int .i64 0) rfl (setRow_heap _ _ _ _ _ _ i2) Tryz.underlying28 rfl (by rw [b9k];kernel_rfl) rfl) rfl ?_
      refine ⟨v5,v6,?_,?_⟩
      ·rw [HPS.out,HPH.out]
       simp [HPE.out]
      ·rw [HPS.out]
       exact bdn i2 iv ip iB (by omega)
     ·have hs4:(ownRow self mtg org dl ph v5 v6).setIfInBounds 4 (.int .i64 3)=ownRow self mtg org dl 3 v5 v6:=bf1 self mtg org dl ph 3 v5 v6
      have ho4:=aRj self mtg org dl 3 hz5 hz7
      repeat' (first | (go_at_call 97;((with_reducible refine (HCM.out _ hb8).mono ?_));rintro r w9 ⟨rfl,hb9⟩;have i0:=aa1 h0 hb9 (ah1 h0);have i2:=aa1 h2 hb9 (ah1 h2);have i4:=(abm i0 4).trans (bav _ _ _ _ _ _ _);have if4:=azi i0 4;have iv:=h8v.below hb9;have ip:=h8p.below hb9;have iB:=h8B.trans (hb9.mono h8B.size);dsimp only) | go_skip | go_guarded | go_step | go_upon)
      have hend:=bf7 (k:=4) (u:=.int .i64 3) (R:=(ownRow self mtg org dl 3 v5 v6)) i0 i2 hne2 iv ip iB (by omega)
      refine bodyPost_ret (aq1 rfl _ _ (W.heap.size+1+1) 28 _ _ _ (.int .i64 0) rfl (setRow_heap _ _ _ _ _ _ hend.1) Tryz.underlying28 rfl (by rw [b9k];kernel_rfl) rfl) rfl ?_
      refine ⟨v5,v6,?_,?_⟩
      ·rw [HPS.out,HPH.out]
       simp [HPE.out]
      ·rw [HPS.out]
       exact hend.2
    ·have hs4:(ownRow self mtg org dl ph v5 v6).setIfInBounds 4 (.int .i64 4)=ownRow self mtg org dl 4 v5 v6:=bf1 self mtg org dl ph 4 v5 v6
     have ho4:=aRj self mtg org dl 4 hz5 hz7
     repeat' (first | go_skip | go_guarded | go_step | go_upon)
     have hend:=bf7 (k:=4) (u:=.int .i64 4) (R:=(ownRow self mtg org dl 4 v5 v6)) h0 h2 hne2 h8v h8p h8B (by omega)
     refine bodyPost_ret (aq1 rfl _ _ (W.heap.size+1+1) 28 _ _ _ (.int .i64 0) rfl (setRow_heap _ _ _ _ _ _ hend.1) Tryz.underlying28 rfl (by rw [b9k];kernel_rfl) rfl) rfl ?_
     refine ⟨v5,v6,?_,?_⟩
     ·rw [HPS.out,HPH.out]
      simp [HPE.out]
     ·rw [HPS.out]
      exact hend.2
   ·rw [decide_eq_false (by omega : ¬ ph=2)] at hp2
    rw [decide_eq_true hph] at hp5
    have HPE:=Lib.hid hph
    clear hph
    repeat' (first | (go_at_call 92;((with_reducible refine (bXu.out).mono ?_));rintro r w7 ⟨rfl,hb7⟩;have f0:=aa1 e0 hb7 (ah1 e0);have f1:=aa1 e1 hb7 (ah1 e1);have f2:=aa1 e2 hb7 (ah1 e2);have f3:=aa1 e3 hb7 (ah1 e3);have f4:=aa1 e4 hb7 (ah1 e4);have g4:=(abm f0 4).trans (bav _ _ _ _ _ _ _);dsimp only) | go_skip | go_guarded | go_step | go_upon)
    have hvS:=hv5.below hb7
    have hpS:=hv6.below hb7
    have bmw:=c36.below hb7
    have BS:=B5.trans (hb7.mono B5.size)
    have HRF:Hid (Calls Tryz.prog 92 #[u12,.func (.func 95) #[] #[.pointer (some ⟨w1.heap.size,0,none⟩)]] w7 fun e W'=>e=.returned (.bool ((ps.map (·.1)).any fun x=>decide (x.kind=10)&&bcd mtg dl own x))∧Below w7.heap.size w7 W'):=Lib.hid (bWb (.inr (.inr rfl)) bct.refs (bmw.lets bct.refs) (by omega) (fun i hi w c' hbw hc'=>bby (bct.refs i hi) (aAb hc') (aAb (H.out.cov.below (BS.trans (hbw.mono BS.size)))) (by have:=bct.csz i hi;omega) (by have:=H.out.bo2;omega) (aa1 f3 hbw (ah1 f3))))
    have HCM:Hid (∀ W',Below w7.heap.size w7 W'→Calls Tryz.prog 97 #[.agg (ah6 mtg org dl ov),u12] W' fun e W''=>e=.returned (.bool ((bb7 mtg org dl own).azj (ps.map (·.1))))∧Below W'.heap.size W' W''):=Lib.hid fun W' hb=>b97 bct.refs (fun i hi e=>bct.bLt H.out.bo4 H.out.bgq i hi (.inl e)) ((bmw.below hb).lets bct.refs) (aAb (H.out.cov.below (BS.trans (hb.mono BS.size)))) H.out.bL9 (by have:=H.out.bo2;omega) (by omega) (H.out.tab.below (BS.trans (hb.mono BS.size)) H.out.h0) (Nat.lt_of_lt_of_le H.out.h0 (BS.trans (hb.mono BS.size)).size)
    have HPH:=Lib.hid (HNH.out (ps.map (·.1)))
    generalize ((ps.map (·.1)).any fun x=>decide (x.kind=10)&&bcd mtg dl own x)=br at HRF HPH
    generalize (bb7 mtg org dl own).azj (ps.map (·.1))=bc at HCM HPH
    refine (HRF.out).mono ?_
    rintro r w8 ⟨rfl,hb8⟩
    dsimp only
    have h0:=aa1 f0 hb8 (ah1 f0)
    have h2:=aa1 f2 hb8 (ah1 f2)
    have h3:=aa1 f3 hb8 (ah1 f3)
    have h4:=(abm h0 4).trans (bav _ _ _ _ _ _ _)
    have hf4:=azi h0 4
    have h8v:=hvS.below hb8
    have h8p:=hpS.below hb8
    have h8B:=BS.trans (hb8.mono BS.size)
    clear HRF f0 f2 f3
    cases br
    ·repeat' (first | go_skip | go_guarded | go_step | go_upon)
     refine bodyPost_ret (aq1 rfl _ _ (W.heap.size+1+1) 28 _ _ _ (.int .i64 0) rfl (setRow_heap _ _ _ _ _ _ h2) Tryz.underlying28 rfl (by rw [b9k];kernel_rfl) rfl) rfl ?_
     refine ⟨v5,v6,?_,?_⟩
     ·rw [HPS.out,HPH.out]
      simp [HPE.out]
     ·rw [HPS.out]
      exact bdn h2 h8v h8p h8B (by omega)
    ·have hs4:(ownRow self mtg org dl ph v5 v6).setIfInBounds 4 (.int .i64 4)=ownRow self mtg org dl 4 v5 v6:=bf1 self mtg org dl ph 4 v5 v6
     have ho4:=aRj self mtg org dl 4 hz5 hz7
     repeat' (first | go_skip | go_guarded | go_step | go_upon)
     have hend:=bf7 (k:=4) (u:=.int .i64 4) (R:=(ownRow self mtg org dl 4 v5 v6)) h0 h2 hne2 h8v h8p h8B (by omega)
     refine bodyPost_ret (aq1 rfl _ _ (W.heap.size+1+1) 28 _ _ _ (.int .i64 0) rfl (setRow_heap _ _ _ _ _ _ hend.1) Tryz.underlying28 rfl (by rw [b9k];kernel_rfl) rfl) rfl ?_
     refine ⟨v5,v6,?_,?_⟩
     ·rw [HPS.out,HPH.out]
      simp [HPE.out]
     ·rw [HPS.out]
      exact hend.2
   ·rw [decide_eq_false hph] at hp2
    rw [decide_eq_false bVp] at hp5
    have HPE:=Lib.hid hph
    have cb5:=Lib.hid bVp
    clear hph bVp
    repeat' (first | (go_at_call 92;((with_reducible refine (bXu.out).mono ?_));rintro r w7 ⟨rfl,hb7⟩;have f0:=aa1 e0 hb7 (ah1 e0);have f1:=aa1 e1 hb7 (ah1 e1);have f2:=aa1 e2 hb7 (ah1 e2);have f3:=aa1 e3 hb7 (ah1 e3);have f4:=aa1 e4 hb7 (ah1 e4);have g4:=(abm f0 4).trans (bav _ _ _ _ _ _ _);dsimp only) | go_skip | go_guarded | go_step | go_upon)
    have hvS:=hv5.below hb7
    have hpS:=hv6.below hb7
    have bmw:=c36.below hb7
    have BS:=B5.trans (hb7.mono B5.size)
    have HRF:Hid (Calls Tryz.prog 92 #[u12,.func (.func 95) #[] #[.pointer (some ⟨w1.heap.size,0,none⟩)]] w7 fun e W'=>e=.returned (.bool ((ps.map (·.1)).any fun x=>decide (x.kind=10)&&bcd mtg dl own x))∧Below w7.heap.size w7 W'):=Lib.hid (bWb (.inr (.inr rfl)) bct.refs (bmw.lets bct.refs) (by omega) (fun i hi w c' hbw hc'=>bby (bct.refs i hi) (aAb hc') (aAb (H.out.cov.below (BS.trans (hbw.mono BS.size)))) (by have:=bct.csz i hi;omega) (by have:=H.out.bo2;omega) (aa1 f3 hbw (ah1 f3))))
    have HCM:Hid (∀ W',Below w7.heap.size w7 W'→Calls Tryz.prog 97 #[.agg (ah6 mtg org dl ov),u12] W' fun e W''=>e=.returned (.bool ((bb7 mtg org dl own).azj (ps.map (·.1))))∧Below W'.heap.size W' W''):=Lib.hid fun W' hb=>b97 bct.refs (fun i hi e=>bct.bLt H.out.bo4 H.out.bgq i hi (.inl e)) ((bmw.below hb).lets bct.refs) (aAb (H.out.cov.below (BS.trans (hb.mono BS.size)))) H.out.bL9 (by have:=H.out.bo2;omega) (by omega) (H.out.tab.below (BS.trans (hb.mono BS.size)) H.out.h0) (Nat.lt_of_lt_of_le H.out.h0 (BS.trans (hb.mono BS.size)).size)
    have HPH:=Lib.hid (HNH.out (ps.map (·.1)))
    generalize ((ps.map (·.1)).any fun x=>decide (x.kind=10)&&bcd mtg dl own x)=br at HRF HPH
    generalize (bb7 mtg org dl own).azj (ps.map (·.1))=bc at HCM HPH
    refine (HRF.out).mono ?_
    rintro r w8 ⟨rfl,hb8⟩
    dsimp only
    have h0:=aa1 f0 hb8 (ah1 f0)
    have h2:=aa1 f2 hb8 (ah1 f2)
    have h3:=aa1 f3 hb8 (ah1 f3)
    have h4:=(abm h0 4).trans (bav _ _ _ _ _ _ _)
    have hf4:=azi h0 4
    have h8v:=hvS.below hb8
    have h8p:=hpS.below hb8
    have h8B:=BS.trans (hb8.mono BS.size)
    clear HRF f0 f2 f3
    repeat' (first | go_skip | go_guarded | go_step | go_upon)
    refine bodyPost_ret (aq1 rfl _ _ (W.heap.size+1+1) 28 _ _ _ (.int .i64 0) rfl (setRow_heap _ _ _ _ _ _ h2) Tryz.underlying28 rfl (by rw [b9k];kernel_rfl) rfl) rfl ?_
    refine ⟨v5,v6,?_,?_⟩
    ·rw [HPS.out,HPH.out]
     simp [HPE.out,cb5.out]
    ·rw [HPS.out]
     exact bdn h2 h8v h8p h8B (by omega)
  ·have hps:bfp ps x q=ps ++ [(x,q)]:=if_neg ht
   have HPS:=Lib.hid hps
   rw [Bool.not_eq_true] at ht
   rw [ht] at bXu
   clear ht hps
   have hz7:v6.oneCell' = true:=by obtain ⟨a,n,c,rfl⟩:=hv6.slice;rfl
   obtain ⟨pa,pn,pc,rfl⟩:=hv6.slice
   have ho0:=aRj self mtg org dl ph hz5 hz7
   repeat' (first | (go_at_call 92;((with_reducible refine (bXu.out).mono ?_));rintro r w7 ⟨rfl,hb7⟩;have f0:=aa1 e0 hb7 (ah1 e0);have f1:=aa1 e1 hb7 (ah1 e1);have f2:=aa1 e2 hb7 (ah1 e2);have f3:=aa1 e3 hb7 (ah1 e3);have f4:=aa1 e4 hb7 (ah1 e4);have g4:=(abm f0 4).trans (bav _ _ _ _ _ _ _);dsimp only) | go_skip | go_guarded | go_step | go_upon)
   have hc7:=hc5.below hb7
   have hp7:=hv6.below hb7
   have hlo7:=c36.below hb7
   have hv7:=hv5.below hb7
   have B7:=B5.trans (hb7.mono B5.size)
   have S7:w4.heap.size≤w7.heap.size:=Nat.le_trans hsz hb7.size
   obtain ⟨bv,lo1,lo2⟩:=hp7
   have LO2:=Lib.hid lo2
   obtain ⟨i0,zv,hif,hz0,hz1,hz2,hzs⟩:=bkl (P:=Tryz.prog) (e:=78) (sz:=36) (b:=80) (by kernel_rfl)
   have x0:obj w7.drew W.heap.size=_:=f0
   have x1:obj w7.drew (W.heap.size+1)=_:=f1
   have x2:obj w7.drew (W.heap.size+1+1)=_:=f2
   have x6:=(abm x0 6).trans (bij _ _ _ _ _ _ _)
   have xl0:=ah1 x0
   have X0:obj (w7.alloc (.cells (aj7 x q body).row 78 (0,0))).drew W.heap.size=some (.cells (ownRow self mtg org dl ph v5 (.slice pa pn pc)) 28 (0,0)):=ab6 f0 (.cells (aj7 x q body).row 78 (0,0))
   have X6:=(abm X0 6).trans (bij _ _ _ _ _ _ _)
   have HCP2:Hid (∀ g W',obj W' g=some (.cells (aj7 x q body).row 78 (0,0))→Below W.heap.size W W'→Calls Tryz.prog 91 #[.slice (some ⟨g,0,none⟩) 1 1] W' fun e W'' => ∃ v,e=.returned v∧b8w W'.heap.size W'' v [(x,q)]∧Below W'.heap.size W' W''):=Lib.hid fun g W' hg hb=>bic (bCr hg (H.out.bd.below hb)) (fun i hi=>by
    obtain rfl:i=0:=by simpa using hi
    exact H.out.xo) (by simp)
   have c9j:ps.length≤900:=H.out.len
   have HT1:=Lib.hid (HCP2.out w7.heap.size (w7.alloc (.cells (aj7 x q body).row 78 (0,0))).drew (show obj (w7.alloc (.cells (aj7 x q body).row 78 (0,0))) w7.heap.size=some (.cells (aj7 x q body).row 78 (0,0)) from aff _ _ _ rfl) (B7.alloc B7.size (.cells (aj7 x q body).row 78 (0,0))).drew)
   clear lo2 x2 f1
   go_cut [12] from 59 to 66 (fun v wx=>v=u12∧∃ v7,obj wx W.heap.size=some (.cells (ownRow self mtg org dl ph v5 v7) 28 (0,0))∧b8w w4.heap.size wx v7 (ps ++ [(x,q)])∧bfj w7 wx∧obj wx (W.heap.size+1+1)=some (.cells #[.int .i64 0,.int .i64 0,.int .i64 0,.int .i64 0,.int .i64 0,.slice none 0 0,.slice none 0 0] 28 (0,0))∧Below W.heap.size W wx)
   case first =>
    go_region_law (first | ((go_simp;go_at_call 91;((with_reducible refine (HT1.out).mono ?_));rintro e w5 ⟨vc,rfl,hvc,hb5⟩;obtain ⟨g,gc,cur,bd2,rfl,hg1,hg2,hg3,hg4⟩:=hvc.one;have y0:=aa1 (show obj (w7.alloc (.cells (aj7 x q body).row 78 (0,0))).drew W.heap.size=some (.cells (ownRow self mtg org dl ph v5 (.slice pa pn pc)) 28 (0,0)) from ab6 f0 (.cells (aj7 x q body).row 78 (0,0))) hb5 (by have:=ah1 f0;simp;omega);have y2:=aa1 (show obj (w7.alloc (.cells (aj7 x q body).row 78 (0,0))).drew (W.heap.size+1+1)=some (.cells #[.int .i64 0,.int .i64 0,.int .i64 0,.int .i64 0,.int .i64 0,.slice none 0 0,.slice none 0 0] 28 (0,0)) from ab6 f2 (.cells (aj7 x q body).row 78 (0,0))) hb5 (by have:=ah1 f2;simp;omega);have y6:=(abm y0 6).trans (bij _ _ _ _ _ _ _);have yB:Below w7.heap.size w7 w5:=((Below.refl w7.heap.size w7).alloc (Nat.le_refl _) (.cells (aj7 x q body).row 78 (0,0))).drew.trans (hb5.mono (by simp));have lo5:=ba3 lo1 yB;have hnews:∀ j u,((aj7 x q bd2).row.toList)[j]? = some u→w5.cell? ((⟨g,0,none⟩:Addr).add j)=some u:=(fun j u hu=>by rw [Addr.add_lit,abm hg2,Nat.zero_add];have hj:j < 36:=(by have:=(List.getElem?_eq_some_iff.1 hu).1;rw [Array.length_toList,b2n _ (as6 x q)] at this;exact this);rw [hg3 j hj,← Array.getElem?_toList];exact hu);have hone:∀ u∈(aj7 x q bd2).row.toList,u.oneCell' = true:=(fun u hu=>by have h1:=b8t x q (bgf hg4);unfold ones at h1;exact (Array.all_eq_true_iff_forall_mem.1 h1) u (Array.mem_toList_iff.1 hu));have hgs:=hb5.size;dsimp only)) | ((refine step_append_lies _ (by rfl) _ _ _ (by rfl) w4.heap.size 78 i0 zv 36 80 Tryz.underlying26 hif hz0 hz1 hz2 hzs (by decide) _ _ _ (by rfl) lo5 ⟨g,0,none⟩ 1 gc ((aj7 x q bd2).row.toList) (by rfl) (by rw [Array.length_toList,b2n _ (as6 x q)]) hnews hone (by omega) (by unfold maxLen;omega) (by omega) (by have:=yB.size;omega) _ rfl ?_;intro g3 cap3 w8 c9h bEu hat8 bRp;have p0:=azl y0 bEu (fun e=>by have:=b7j lo5 e.symm;omega);have p2:=azl y2 bEu (fun e=>by have:=b7j lo5 e.symm;omega);have p6:=(abm p0 6).trans (bij _ _ _ _ _ _ _);have pf6:=azi p0 6;dsimp only)))
    all_goals (repeat' go_step)
    all_goals go_meet
    all_goals exact ⟨rfl,_,bWa lo5 (fun i hi=>(LO2.out i hi).below yB) c9h bEu hg4 p0 p2 hne2 yB B7 B7.size (by omega)⟩
   case rest =>
    obtain ⟨rfl,v7,g0,hp8,hKT,g2,B8⟩:=hcut
    have t3:=hKT _ _ _ _ f3 (by decide) (by decide)
    have t4:=hKT _ _ _ _ f4 (by decide) (by decide)
    have hlo8:=bfj.lets hlo7 hKT
    have hc8:=bfj.cell hc7 hKT
    have hv8:=bfj.cell hv7 hKT
    have hz8:v7.oneCell' = true:=by obtain ⟨a,n,c,rfl⟩:=hp8.slice;rfl
    have ho8:=aRj self mtg org dl ph hz5 hz8
    obtain ⟨cv,so1,so2⟩:=hlo8
    have SO2:=Lib.hid so2
    have wB:=(Below.refl wc.heap.size wc).alloc (Nat.le_refl _) (.cells (LN.let x c).row 48 (0,0))
    have hle1:(w1.alloc (.cells (ah6 mtg org dl ov) 144 (0,0))).heap.size≤(w2.alloc (.cells (LN.let x c).row 48 (0,0))).heap.size:=by simp;omega
    have so3:=beh (ba3 so1 wB) hle1
    have cb6:=Lib.hid hle1
    clear hle1
    obtain ⟨bs,c9r,kn,hkn,fl,hfl,so4⟩ : ∃ bs,bs=(w1.alloc (.cells (ah6 mtg org dl ov) 144 (0,0))).heap.size∧∃ kn,kn=(ps.map (·.1)).length∧∃ fl,fl=ba4 (fun i=>(LN.let ((ps.map (·.1)).getD i aum) (cv i)).row) (ps.map (·.1)).length∧(wc.alloc (.cells (LN.let x c).row 48 (0,0))).ownsRow bs 48 62 u12 kn fl:=⟨_,rfl,_,rfl,_,rfl,so3⟩
    have HFL:=Lib.hid hfl
    have HKN:=Lib.hid hkn
    have HBS:=Lib.hid c9r
    have hbs:(w1.alloc (.cells (ah6 mtg org dl ov) 144 (0,0))).heap.size=w1.heap.size+1:=by simp
    have hkn9:kn≤900:=by rw [hkn,List.length_map];exact c9j
    have hbs1:bs=w1.heap.size+1:=by rw [c9r,hbs]
    clear hfl hkn c9r hbs so3 so1
    have hB8s:=ah1 t4
    have hz7:=hz8
    have bct:=hPK.push H.out.xo (bsv HNN.out)
    have hKl:((ps ++ [(x,q)]).map (·.1)).length≤100000:=by rw [List.length_map,List.length_append];simp;omega
    have hKE:(ps ++ [(x,q)]).map (·.1)=ps.map (·.1) ++ [x]:=by rw [List.map_append];rfl
    have HKE:=Lib.hid hKE
    clear so2 hKE x0 x1 x6 X0 X6
    have c9g:ph=2∨ph=5∨(ph≠2∧ph≠5):=by
     clear hkn9 hbs1
     omega
    rcases c9g with hph | hph | ⟨hph,bVp⟩
    ·rw [decide_eq_true hph] at hp2
     have HPE:=Lib.hid hph
     clear hph
     clear f0 f2 f3 f4
     repeat' (first | (at_builtin;(refine b93 rfl _ _ rfl Tryz.underlying30 (b:=328) (z:=62) (by kernel_rfl) (by decide) (by decide) bs kn _ fl rfl so4 wc.heap.size 1 (LN.let x c).row ?_ ?_ lz lo (by omega) ?_ ?_);(first | rfl | skip);(exact aff _ _ _ rfl);(simp;omega);intro v' w' hown' hgrow';have f0:=azl (ab6 g0 (.cells (LN.let x c).row 48 (0,0))) hgrow' (fun e=>by have:=b7j so4 e.symm;omega);have g4:=(abm f0 4).trans (bav _ _ _ _ _ _ _)) | go_skip | go_guarded | go_step | go_upon)
     have f2:=azl (ab6 g2 (.cells (LN.let x c).row 48 (0,0))) hgrow' (fun e=>by have:=b7j so4 e.symm;omega)
     have f3:=azl (ab6 t3 (.cells (LN.let x c).row 48 (0,0))) hgrow' (fun e=>by have:=b7j so4 e.symm;omega)
     have hvS:=b9a so4 (hv8.below wB) (by decide) hgrow'
     have hpS:=(hp8.below wB).grown so4 (by decide) (by decide) hgrow'
     have BS:=(B8.alloc B8.size (.cells (LN.let x c).row 48 (0,0))).grown hgrow' (by have:=B8.size;simp;omega) (fun g hg=>by have:=b7j so4 hg;omega)
     rw [HBS.out,HKN.out,HFL.out] at hown' so4
     have bmw:=bkg so4 (fun i hi=>((SO2.out i hi).below wB).mono cb6.out) hgrow' (hc8.below wB) hown'
     rw [← HKE.out] at bmw
     have HRF:Hid (Calls Tryz.prog 92 #[v',.func (.func 95) #[] #[.pointer (some ⟨w1.heap.size,0,none⟩)]] w' fun e W'=>e=.returned (.bool (((ps ++ [(x,q)]).map (·.1)).any fun x=>decide (x.kind=10)&&bcd mtg dl own x))∧Below w'.heap.size w' W'):=Lib.hid (bWb (.inr (.inr rfl)) bct.refs (bmw.lets bct.refs) (by omega) (fun i hi w c' hbw hc'=>bby (bct.refs i hi) (aAb hc') (aAb (H.out.cov.below (BS.trans (hbw.mono BS.size)))) (by have:=bct.csz i hi;omega) (by have:=H.out.bo2;omega) (aa1 f3 hbw (ah1 f3))))
     have HCM:Hid (∀ W',Below w'.heap.size w' W'→Calls Tryz.prog 97 #[.agg (ah6 mtg org dl ov),v'] W' fun e W''=>e=.returned (.bool ((bb7 mtg org dl own).azj ((ps ++ [(x,q)]).map (·.1))))∧Below W'.heap.size W' W''):=Lib.hid fun W' hb=>b97 bct.refs (fun i hi e=>bct.bLt H.out.bo4 H.out.bgq i hi (.inl e)) ((bmw.below hb).lets bct.refs) (aAb (H.out.cov.below (BS.trans (hb.mono BS.size)))) H.out.bL9 (by have:=H.out.bo2;omega) (by omega) (H.out.tab.below (BS.trans (hb.mono BS.size)) H.out.h0) (Nat.lt_of_lt_of_le H.out.h0 (BS.trans (hb.mono BS.size)).size)
     have HPH:=Lib.hid (HNH.out ((ps ++ [(x,q)]).map (·.1)))
     generalize (((ps ++ [(x,q)]).map (·.1)).any fun x=>decide (x.kind=10)&&bcd mtg dl own x)=br at HRF HPH
     generalize (bb7 mtg org dl own).azj ((ps ++ [(x,q)]).map (·.1))=bc at HCM HPH
     refine (HRF.out).mono ?_
     rintro r w8 ⟨rfl,hb8⟩
     dsimp only
     have h0:=aa1 f0 hb8 (ah1 f0)
     have h2:=aa1 f2 hb8 (ah1 f2)
     have h3:=aa1 f3 hb8 (ah1 f3)
     have h4:=(abm h0 4).trans (bav _ _ _ _ _ _ _)
     have hf4:=azi h0 4
     have h8v:=hvS.below hb8
     have h8p:=hpS.below hb8
     have h8B:=BS.trans (hb8.mono BS.size)
     clear HRF f0 f2 f3
     cases br
     ·cases bc
      ·repeat' (first | (go_at_call 97;((with_reducible refine (HCM.out _ hb8).mono ?_));rintro r w9 ⟨rfl,hb9⟩;have i0:=aa1 h0 hb9 (ah1 h0);have i2:=aa1 h2 hb9 (ah1 h2);have i4:=(abm i0 4).trans (bav _ _ _ _ _ _ _);have if4:=azi i0 4;have iv:=h8v.below hb9;have ip:=h8p.below hb9;have iB:=h8B.trans (hb9.mono h8B.size);dsimp only) | go_skip | go_guarded | go_step | go_upon)
       refine bodyPost_ret (aq1 rfl _ _ (W.heap.size+1+1) 28 _ _ _ (.int .i64 0) rfl (setRow_heap _ _ _ _ _ _ i2) Tryz.underlying28 rfl (by rw [b9k];kernel_rfl) rfl) rfl ?_
       refine ⟨v5,v7,?_,?_⟩
       ·rw [HPS.out,HPH.out]
        simp [HPE.out]
       ·rw [HPS.out]
        exact bdn i2 iv ip iB (by omega)
      ·have hs4:(ownRow self mtg org dl ph v5 v7).setIfInBounds 4 (.int .i64 3)=ownRow self mtg org dl 3 v5 v7:=bf1 self mtg org dl ph 3 v5 v7
       have ho4:=aRj self mtg org dl 3 hz5 hz7
       repeat' (first | (go_at_call 97;((with_reducible refine (HCM.out _ hb8).mono ?_));rintro r w9 ⟨rfl,hb9⟩;have i0:=aa1 h0 hb9 (ah1 h0);have i2:=aa1 h2 hb9 (ah1 h2);have i4:=(abm i0 4).trans (bav _ _ _ _ _ _ _);have if4:=azi i0 4;have iv:=h8v.below hb9;have ip:=h8p.below hb9;have iB:=h8B.trans (hb9.mono h8B.size);dsimp only) | go_skip | go_guarded | go_step | go_upon)
       have hend:=bf7 (k:=4) (u:=.int .i64 3) (R:=(ownRow self mtg org dl 3 v5 v7)) i0 i2 hne2 iv ip iB (by omega)
       refine bodyPost_ret (aq1 rfl _ _ (W.heap.size+1+1) 28 _ _ _ (.int .i64 0) rfl (setRow_heap _ _ _ _ _ _ hend.1) Tryz.underlying28 rfl (by rw [b9k];kernel_rfl) rfl) rfl ?_
       refine ⟨v5,v7,?_,?_⟩
       ·rw [HPS.out,HPH.out]
        simp [HPE.out]
       ·rw [HPS.out]
        exact hend.2
     ·have hs4:(ownRow self mtg org dl ph v5 v7).setIfInBounds 4 (.int .i64 4)=ownRow self mtg org dl 4 v5 v7:=bf1 self mtg org dl ph 4 v5 v7
      have ho4:=aRj self mtg org dl 4 hz5 hz7
      repeat' (first | go_skip | go_guarded | go_step | go_upon)
      have hend:=bf7 (k:=4) (u:=.int .i64 4) (R:=(ownRow self mtg org dl 4 v5 v7)) h0 h2 hne2 h8v h8p h8B (by omega)
      refine bodyPost_ret (aq1 rfl _ _ (W.heap.size+1+1) 28 _ _ _ (.int .i64 0) rfl (setRow_heap _ _ _ _ _ _ hend.1) Tryz.underlying28 rfl (by rw [b9k];kernel_rfl) rfl) rfl ?_
      refine ⟨v5,v7,?_,?_⟩
      ·rw [HPS.out,HPH.out]
       simp [HPE.out]
      ·rw [HPS.out]
       exact hend.2
    ·rw [decide_eq_false (by omega : ¬ ph=2)] at hp2
     rw [decide_eq_true hph] at hp5
     have HPE:=Lib.hid hph
     clear hph
     clear f0 f2 f3 f4
     repeat' (first | (at_builtin;(refine b93 rfl _ _ rfl Tryz.underlying30 (b:=328) (z:=62) (by kernel_rfl) (by decide) (by decide) bs kn _ fl rfl so4 wc.heap.size 1 (LN.let x c).row ?_ ?_ lz lo (by omega) ?_ ?_);(first | rfl | skip);(exact aff _ _ _ rfl);(simp;omega);intro v' w' hown' hgrow';have f0:=azl (ab6 g0 (.cells (LN.let x c).row 48 (0,0))) hgrow' (fun e=>by have:=b7j so4 e.symm;omega);have g4:=(abm f0 4).trans (bav _ _ _ _ _ _ _)) | go_skip | go_guarded | go_step | go_upon)
     have f2:=azl (ab6 g2 (.cells (LN.let x c).row 48 (0,0))) hgrow' (fun e=>by have:=b7j so4 e.symm;omega)
     have f3:=azl (ab6 t3 (.cells (LN.let x c).row 48 (0,0))) hgrow' (fun e=>by have:=b7j so4 e.symm;omega)
     have hvS:=b9a so4 (hv8.below wB) (by decide) hgrow'
     have hpS:=(hp8.below wB).grown so4 (by decide) (by decide) hgrow'
     have BS:=(B8.alloc B8.size (.cells (LN.let x c).row 48 (0,0))).grown hgrow' (by have:=B8.size;simp;omega) (fun g hg=>by have:=b7j so4 hg;omega)
     rw [HBS.out,HKN.out,HFL.out] at hown' so4
     have bmw:=bkg so4 (fun i hi=>((SO2.out i hi).below wB).mono cb6.out) hgrow' (hc8.below wB) hown'
     rw [← HKE.out] at bmw
     have HRF:Hid (Calls Tryz.prog 92 #[v',.func (.func 95) #[] #[.pointer (some ⟨w1.heap.size,0,none⟩)]] w' fun e W'=>e=.returned (.bool (((ps ++ [(x,q)]).map (·.1)).any fun x=>decide (x.kind=10)&&bcd mtg dl own x))∧Below w'.heap.size w' W'):=Lib.hid (bWb (.inr (.inr rfl)) bct.refs (bmw.lets bct.refs) (by omega) (fun i hi w c' hbw hc'=>bby (bct.refs i hi) (aAb hc') (aAb (H.out.cov.below (BS.trans (hbw.mono BS.size)))) (by have:=bct.csz i hi;omega) (by have:=H.out.bo2;omega) (aa1 f3 hbw (ah1 f3))))
     have HCM:Hid (∀ W',Below w'.heap.size w' W'→Calls Tryz.prog 97 #[.agg (ah6 mtg org dl ov),v'] W' fun e W''=>e=.returned (.bool ((bb7 mtg org dl own).azj ((ps ++ [(x,q)]).map (·.1))))∧Below W'.heap.size W' W''):=Lib.hid fun W' hb=>b97 bct.refs (fun i hi e=>bct.bLt H.out.bo4 H.out.bgq i hi (.inl e)) ((bmw.below hb).lets bct.refs) (aAb (H.out.cov.below (BS.trans (hb.mono BS.size)))) H.out.bL9 (by have:=H.out.bo2;omega) (by omega) (H.out.tab.below (BS.trans (hb.mono BS.size)) H.out.h0) (Nat.lt_of_lt_of_le H.out.h0 (BS.trans (hb.mono BS.size)).size)
     have HPH:=Lib.hid (HNH.out ((ps ++ [(x,q)]).map (·.1)))
     generalize (((ps ++ [(x,q)]).map (·.1)).any fun x=>decide (x.kind=10)&&bcd mtg dl own x)=br at HRF HPH
     generalize (bb7 mtg org dl own).azj ((ps ++ [(x,q)]).map (·.1))=bc at HCM HPH
     refine (HRF.out).mono ?_
     rintro r w8 ⟨rfl,hb8⟩
     dsimp only
     have h0:=aa1 f0 hb8 (ah1 f0)
     have h2:=aa1 f2 hb8 (ah1 f2)
     have h3:=aa1 f3 hb8 (ah1 f3)
     have h4:=(abm h0 4).trans (bav _ _ _ _ _ _ _)
     have hf4:=azi h0 4
     have h8v:=hvS.below hb8
     have h8p:=hpS.below hb8
     have h8B:=BS.trans (hb8.mono BS.size)
     clear HRF f0 f2 f3
     cases br
     ·repeat' (first | go_skip | go_guarded | go_step | go_upon)
      refine bodyPost_ret (aq1 rfl _ _ (W.heap.size+1+1) 28 _ _ _ (.int .i64 0) rfl (setRow_heap _ _ _ _ _ _ h2) Tryz.underlying28 rfl (by rw [b9k];kernel_rfl) rfl) rfl ?_
      refine ⟨v5,v7,?_,?_⟩
      ·rw [HPS.out,HPH.out]
       simp [HPE.out]
      ·rw [HPS.out]
       exact bdn h2 h8v h8p h8B (by omega)
     ·have hs4:(ownRow self mtg org dl ph v5 v7).setIfInBounds 4 (.int .i64 4)=ownRow self mtg org dl 4 v5 v7:=bf1 self mtg org dl ph 4 v5 v7
      have ho4:=aRj self mtg org dl 4 hz5 hz7
      repeat' (first | go_skip | go_guarded | go_step | go_upon)
      have hend:=bf7 (k:=4) (u:=.int .i64 4) (R:=(ownRow self mtg org dl 4 v5 v7)) h0 h2 hne2 h8v h8p h8B (by omega)
      refine bodyPost_ret (aq1 rfl _ _ (W.heap.size+1+1) 28 _ _ _ (.int .i64 0) rfl (setRow_heap _ _ _ _ _ _ hend.1) Tryz.underlying28 rfl (by rw [b9k];kernel_rfl) rfl) rfl ?_
      refine ⟨v5,v7,?_,?_⟩
      ·rw [HPS.out,HPH.out]
       simp [HPE.out]
      ·rw [HPS.out]
       exact hend.2
    ·rw [decide_eq_false hph] at hp2
     rw [decide_eq_false bVp] at hp5
     have HPE:=Lib.hid hph
     have cb5:=Lib.hid bVp
     clear hph bVp
     clear f0 f2 f3 f4
     repeat' (first | (at_builtin;(refine b93 rfl _ _ rfl Tryz.underlying30 (b:=328) (z:=62) (by kernel_rfl) (by decide) (by decide) bs kn _ fl rfl so4 wc.heap.size 1 (LN.let x c).row ?_ ?_ lz lo (by omega) ?_ ?_);(first | rfl | skip);(exact aff _ _ _ rfl);(simp;omega);intro v' w' hown' hgrow';have f0:=azl (ab6 g0 (.cells (LN.let x c).row 48 (0,0))) hgrow' (fun e=>by have:=b7j so4 e.symm;omega);have g4:=(abm f0 4).trans (bav _ _ _ _ _ _ _)) | go_skip | go_guarded | go_step | go_upon)
     have f2:=azl (ab6 g2 (.cells (LN.let x c).row 48 (0,0))) hgrow' (fun e=>by have:=b7j so4 e.symm;omega)
     have f3:=azl (ab6 t3 (.cells (LN.let x c).row 48 (0,0))) hgrow' (fun e=>by have:=b7j so4 e.symm;omega)
     have hvS:=b9a so4 (hv8.below wB) (by decide) hgrow'
     have hpS:=(hp8.below wB).grown so4 (by decide) (by decide) hgrow'
     have BS:=(B8.alloc B8.size (.cells (LN.let x c).row 48 (0,0))).grown hgrow' (by have:=B8.size;simp;omega) (fun g hg=>by have:=b7j so4 hg;omega)
     rw [HBS.out,HKN.out,HFL.out] at hown' so4
     have bmw:=bkg so4 (fun i hi=>((SO2.out i hi).below wB).mono cb6.out) hgrow' (hc8.below wB) hown'
     rw [← HKE.out] at bmw
     have HRF:Hid (Calls Tryz.prog 92 #[v',.func (.func 95) #[] #[.pointer (some ⟨w1.heap.size,0,none⟩)]] w' fun e W'=>e=.returned (.bool (((ps ++ [(x,q)]).map (·.1)).any fun x=>decide (x.kind=10)&&bcd mtg dl own x))∧Below w'.heap.size w' W'):=Lib.hid (bWb (.inr (.inr rfl)) bct.refs (bmw.lets bct.refs) (by omega) (fun i hi w c' hbw hc'=>bby (bct.refs i hi) (aAb hc') (aAb (H.out.cov.below (BS.trans (hbw.mono BS.size)))) (by have:=bct.csz i hi;omega) (by have:=H.out.bo2;omega) (aa1 f3 hbw (ah1 f3))))
     have HCM:Hid (∀ W',Below w'.heap.size w' W'→Calls Tryz.prog 97 #[.agg (ah6 mtg org dl ov),v'] W' fun e W''=>e=.returned (.bool ((bb7 mtg org dl own).azj ((ps ++ [(x,q)]).map (·.1))))∧Below W'.heap.size W' W''):=Lib.hid fun W' hb=>b97 bct.refs (fun i hi e=>bct.bLt H.out.bo4 H.out.bgq i hi (.inl e)) ((bmw.below hb).lets bct.refs) (aAb (H.out.cov.below (BS.trans (hb.mono BS.size)))) H.out.bL9 (by have:=H.out.bo2;omega) (by omega) (H.out.tab.below (BS.trans (hb.mono BS.size)) H.out.h0) (Nat.lt_of_lt_of_le H.out.h0 (BS.trans (hb.mono BS.size)).size)
     have HPH:=Lib.hid (HNH.out ((ps ++ [(x,q)]).map (·.1)))
     generalize (((ps ++ [(x,q)]).map (·.1)).any fun x=>decide (x.kind=10)&&bcd mtg dl own x)=br at HRF HPH
     generalize (bb7 mtg org dl own).azj ((ps ++ [(x,q)]).map (·.1))=bc at HCM HPH
     refine (HRF.out).mono ?_
     rintro r w8 ⟨rfl,hb8⟩
     dsimp only
     have h0:=aa1 f0 hb8 (ah1 f0)
     have h2:=aa1 f2 hb8 (ah1 f2)
     have h3:=aa1 f3 hb8 (ah1 f3)
     have h4:=(abm h0 4).trans (bav _ _ _ _ _ _ _)
     have hf4:=azi h0 4
     have h8v:=hvS.below hb8
     have h8p:=hpS.below hb8
     have h8B:=BS.trans (hb8.mono BS.size)
     clear HRF f0 f2 f3
     repeat' (first | go_skip | go_guarded | go_step | go_upon)
     refine bodyPost_ret (aq1 rfl _ _ (W.heap.size+1+1) 28 _ _ _ (.int .i64 0) rfl (setRow_heap _ _ _ _ _ _ h2) Tryz.underlying28 rfl (by rw [b9k];kernel_rfl) rfl) rfl ?_
     refine ⟨v5,v7,?_,?_⟩
     ·rw [HPS.out,HPH.out]
      simp [HPE.out,cb5.out]
     ·rw [HPS.out]
      exact bdn h2 h8v h8p h8B (by omega)
end Go.Proofs.YtlnlbdfokmhelaaGreatDoor
