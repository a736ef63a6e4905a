/-
  The walk of reserve.Decide: a letter that is refused.
-/
import Derived.Test.YtlnlbdfokmhelaaGreatDoorPkRwU
import Derived.Test.YtlnlbdfokmhelaaGreatDoorPkRwP
import Derived.Test.YtlnlbdfokmhelaaGreatDoorPkRwS
import Derived.Test.YtlnlbdfokmhelaaGreatDoorPkSm
set_option linter.unusedSectionVars false
set_option linter.constructorNameAsVariable false
set_option linter.unusedVariables false
set_option linter.unusedSimpArgs false
namespace Go.Proofs.YtlnlbdfokmhelaaGreatDoor
open Go.RowKit Go.CE.V
set_option maxRecDepth 20000
set_option maxHeartbeats 4000000
attribute [local irreducible] wpQuiet
structure bWy (W:World) (kv:Value) (me mtg org dl ph:Nat) (own:List Nat) (ov pv:Value) (ps:List (LN×Nat)) (x:LN) (q:Nat) (body:Value):Prop where
 keys:bcf W kv
 cov:as1 0 W ov own
 cpv:bd8 W pv ps
 kok:∀ i,i < ps.length→LOk (ps.getD i (aum,0)).1 (ps.getD i (aum,0)).2
 xo:LOk x q
 bd:Sl 0 W body 5 ((LN.enc x).map fun c=>B8 c.toNat)
 tab:Tab W
 h0:0 < W.heap.size
 bL9:own≠[]
 bo2:own.length≤4
 cph:ph∈[0,2,3,4,5]
 c3w:me∈own
 len:ps.length≤900
 bo4:org < 16
 bgq:∀ o∈own,o≠org
 ans:∀ i,i < ps.length→(ps.getD i (aum,0)).1.kind=9∨(ps.getD i (aum,0)).1.kind=10→(ps.getD i (aum,0)).1.frm∈own
theorem bUn {x:LN} {d:Nat} (h:x.Ok) (hd:d < 16) (hne:x.frm≠d):(LN.to x d).Ok:=⟨h.kd,h.frm,hd,hne,h.bXi,h.bV3,h.res,h.res0,h.dl,h.dl0,h.st,h.bX5,h.st0,h.cs,h.up,h.len,h.cs0,h.ref,h.bXc,h.shp⟩
theorem bn2 {x:LN} (h:x.Ok) (d:Nat):(LN.enc (LN.to x d)).length=(LN.enc x).length:=by
 rcases h.kd with e | e | e | e | e | e | e | e<;>simp [LN.enc,LN.to,LN.hd,e]
theorem bhn (ps:List (LN×Nat)) (i:Nat):(ps.map (·.1)).getD i aum=(ps.getD i (aum,0)).1:=getD_map Prod.fst ps i (aum,0)
theorem bWy.bLt {W:World} {kv:Value} {self mtg org dl ph:Nat} {own:List Nat} {ov pv:Value} {ps:List (LN×Nat)} {x:LN} {q:Nat} {body:Value} (h:bWy W kv self mtg org dl ph own ov pv ps x q body) :
  ∀ i,i < (ps.map (·.1)).length→((ps.map (·.1)).getD i aum).kind=9∨((ps.map (·.1)).getD i aum).kind=10→(LN.to ((ps.map (·.1)).getD i aum) org).Ok∧(LN.enc (LN.to ((ps.map (·.1)).getD i aum) org)).length≤1048576:=fun i hi hk=>by
 rw [List.length_map] at hi
 rw [bhn] at hk ⊢
 have ho:=h.kok i hi
 exact ⟨bUn ho.ok h.bo4 (h.bgq _ (h.ans i hi hk)),by rw [bn2 ho.ok];exact ho.e1⟩
theorem bWy.refs {W:World} {kv:Value} {self mtg org dl ph:Nat} {own:List Nat} {ov pv:Value} {ps:List (LN×Nat)} {x:LN} {q:Nat} {body:Value} (h:bWy W kv self mtg org dl ph own ov pv ps x q body) :
  ∀ i,i < (ps.map (·.1)).length→((ps.map (·.1)).getD i aum).ref.length=32:=fun i hi=>by
 rw [List.length_map] at hi
 rw [bhn]
 exact (h.kok i hi).ok.ref
theorem bFy {W:World} {kv:Value} {self mtg org dl ph:Nat} {own:List Nat} {ov pv:Value} {ps:List (LN×Nat)} {x:LN} {q:Nat} {body:Value} (h:bWy W kv self mtg org dl ph own ov pv ps x q body)
  (HV:∀ W',Below W.heap.size W W'→Calls Tryz.prog 103 #[.agg (ah6 mtg org dl ov)] W' fun e w'=>e=.returned (.bool true)∧Below W'.heap.size W' w')
  (hn:baz mtg org dl own ph (ps.map (·.1)) x≠0) :
  Calls Tryz.prog 33 #[.agg (ownRow self mtg org dl ph ov pv),kv,.agg (aj7 x q body).row] W fun e W'=>e=.returned (.tuple #[.agg #[.int .i64 0,.int .i64 0,.int .i64 0,.int .i64 0,.int .i64 0,.slice none 0 0,.slice none 0 0],.int .i64 (baz mtg org dl own ph (ps.map (·.1)) x)])∧Below W.heap.size W W':=by
 have H:=Lib.hid h
 have bVq:=azh h.cov
 have hpv1:pv.oneCell' = true:=by
  obtain ⟨bv,⟨a,c,rfl,_⟩,_⟩:=h.cpv
  rfl
 have oo:=aRj self mtg org dl ph bVq hpv1
 have po:=b8r mtg org dl bVq
 have er:=b2n (aj7 x q body) (as6 x q)
 have ea:=baf (aj7 x q body) (as6 x q)
 have eo:=b8t x q (bgf h.bd)
 have hxr:=h.xo.ok.ref
 have k0:obj (((W.alloc (.cells (ownRow self mtg org dl ph ov pv) 28 (0,0))).alloc (.cells (aj7 x q body).row 78 (0,0))).alloc (.cells #[.int .i64 0,.int .i64 0,.int .i64 0,.int .i64 0,.int .i64 0,.slice none 0 0,.slice none 0 0] 28 (0,0))) W.heap.size=some (.cells (ownRow self mtg org dl ph ov pv) 28 (0,0)):=ab6 (ab6 (aff _ _ _ rfl) _) _
 have k1:obj (((W.alloc (.cells (ownRow self mtg org dl ph ov pv) 28 (0,0))).alloc (.cells (aj7 x q body).row 78 (0,0))).alloc (.cells #[.int .i64 0,.int .i64 0,.int .i64 0,.int .i64 0,.int .i64 0,.slice none 0 0,.slice none 0 0] 28 (0,0))) (W.heap.size+1)=some (.cells (aj7 x q body).row 78 (0,0)):=ab6 (aff _ _ _ (by simp)) _
 have k2:obj (((W.alloc (.cells (ownRow self mtg org dl ph ov pv) 28 (0,0))).alloc (.cells (aj7 x q body).row 78 (0,0))).alloc (.cells #[.int .i64 0,.int .i64 0,.int .i64 0,.int .i64 0,.int .i64 0,.slice none 0 0,.slice none 0 0] 28 (0,0))) (W.heap.size+1+1)=some (.cells #[.int .i64 0,.int .i64 0,.int .i64 0,.int .i64 0,.int .i64 0,.slice none 0 0,.slice none 0 0] 28 (0,0)):=aff _ _ _ (by simp)
 have kB:Below W.heap.size W (((W.alloc (.cells (ownRow self mtg org dl ph ov pv) 28 (0,0))).alloc (.cells (aj7 x q body).row 78 (0,0))).alloc (.cells #[.int .i64 0,.int .i64 0,.int .i64 0,.int .i64 0,.int .i64 0,.slice none 0 0,.slice none 0 0] 28 (0,0))):=(((Below.refl _ _).alloc (Nat.le_refl _) _).alloc (by simp) _).alloc (by simp;omega) _
 have HOW:=Lib.hid (bk4 (aAb (h.cov.below kB)) (by have:=h.bo2;omega) hpv1 h.cph h.c3w (fun W' hb=>HV W' (kB.trans (hb.mono kB.size))))
 clear h HV
 generalize hN:baz mtg org dl own ph (ps.map (·.1)) x=n at *
 have HNN:=Lib.hid hN
 clear hN
 have hn1:((n:Int) == 0)=false:=by simp;omega
 have hn2:((n:Int) != 0)=true:=by simp;omega
 go_enter Tryz.func33,Tryz.ntmps33
 repeat' (first | (go_at_call 87;((with_reducible refine (HOW.out).mono ?_));rintro r w1 ⟨rfl,hb1⟩;have B1:=kB.trans (hb1.mono kB.size);have a0:=ab6 (aa1 k0 hb1 (ah1 k0)) (.cells (ah6 mtg org dl ov) 144 (0,0));have a1:=ab6 (aa1 k1 hb1 (ah1 k1)) (.cells (ah6 mtg org dl ov) 144 (0,0));have a2:=ab6 (aa1 k2 hb1 (ah1 k2)) (.cells (ah6 mtg org dl ov) 144 (0,0));have s1:W.heap.size+1+1 < w1.heap.size:=ah1 (aa1 k2 hb1 (ah1 k2));have a3:obj (w1.alloc (.cells (ah6 mtg org dl ov) 144 (0,0))) w1.heap.size=some (.cells (ah6 mtg org dl ov) 144 (0,0)):=aff _ _ _ rfl;have B1':=B1.alloc B1.size (.cells (ah6 mtg org dl ov) 144 (0,0));have HOP:=Lib.hid (bo5 H.out.xo.ok H.out.xo.k8 H.out.xo.f5 H.out.xo.d5 H.out.xo.q (H.out.keys.below B1') (H.out.bd.below B1') H.out.xo.e0 H.out.xo.e1 (H.out.tab.below B1' H.out.h0) (Nat.lt_of_lt_of_le H.out.h0 B1'.size));dsimp only) | (go_at_call 86;((with_reducible refine (HOP.out).mono ?_));rintro r w2 ⟨c,rfl,hc,hb2⟩;have lz:=as4 (LN.let x c) hxr;have la:=aI7 (LN.let x c) hxr;have lo:=aBk (LN.let x c) (azh hc);have B2:=B1'.trans (hb2.mono B1'.size);have b0:=ab6 (aa1 a0 hb2 (ah1 a0)) (.cells (LN.let x c).row 48 (0,0));have b1:=ab6 (aa1 a1 hb2 (ah1 a1)) (.cells (LN.let x c).row 48 (0,0));have b2:=ab6 (aa1 a2 hb2 (ah1 a2)) (.cells (LN.let x c).row 48 (0,0));have b3:=ab6 (aa1 a3 hb2 (ah1 a3)) (.cells (LN.let x c).row 48 (0,0));have b4:obj (w2.alloc (.cells (LN.let x c).row 48 (0,0))) w2.heap.size=some (.cells (LN.let x c).row 48 (0,0)):=aff _ _ _ rfl;have b06:=(abm b0 6).trans (bij _ _ _ _ _ _ _);have B2':=B2.alloc B2.size (.cells (LN.let x c).row 48 (0,0));have s2:w1.heap.size < w2.heap.size:=ah1 (aa1 a3 hb2 (ah1 a3));have HCX:=Lib.hid hc;have hc2:=hc.below ((Below.refl w2.heap.size w2).alloc (Nat.le_refl _) (.cells (LN.let x c).row 48 (0,0)));have HCT:=Lib.hid (bfq (H.out.keys.below B2') (H.out.cpv.below B2') H.out.kok (by have:=H.out.len;omega) (H.out.tab.below B2' H.out.h0) (Nat.lt_of_lt_of_le H.out.h0 B2'.size));dsimp only) | (go_at_call 88;((with_reducible refine (HCT.out).mono ?_));rintro r w3 ⟨kw,rfl,hlo,hb3⟩;have B3:=B2'.trans (hb3.mono B2'.size);have c0:=aa1 b0 hb3 (ah1 b0);have c1:=aa1 b1 hb3 (ah1 b1);have c2:=aa1 b2 hb3 (ah1 b2);have c3:=aa1 b3 hb3 (ah1 b3);have c4:=aa1 b4 hb3 (ah1 b4);have hc3:=hc2.below hb3;have HLO:=Lib.hid hlo;have HAD:=Lib.hid (blg (self:=self) (ph:=ph) (ov:=ov) (pv:=pv) (mtg:=mtg) (dl:=dl) (aAb (H.out.cov.below B3)) (by have:=H.out.bo2;omega) hpv1 bVq H.out.refs (fun i hi e=>H.out.bLt i hi (.inr e)) (hlo.lets H.out.refs) (by rw [List.length_map];have:=H.out.len;omega) hxr (aAb hc3) (by have:=H.out.xo.ok.len;omega) (H.out.tab.below B3 H.out.h0) (Nat.lt_of_lt_of_le H.out.h0 B3.size));rw [HNN.out] at HAD;clear hlo;dsimp only) | (go_at_call 89;((with_reducible refine (HAD.out).mono ?_));rintro r w4 ⟨rfl,hb4⟩;have B4:=B3.trans (hb4.mono B3.size);have d0:=aa1 c0 hb4 (ah1 c0);have d1:=aa1 c1 hb4 (ah1 c1);have d2:=aa1 c2 hb4 (ah1 c2);have d3:=aa1 c3 hb4 (ah1 c3);have d4:=aa1 c4 hb4 (ah1 c4);dsimp only) | go_skip | go_guarded | go_step | go_upon)
 refine bodyPost_ret (aq1 rfl _ _ (W.heap.size+1+1) 28 _ _ _ (.int .i64 n) rfl (setRow_heap _ _ _ _ _ _ d2) Tryz.underlying28 rfl (by kernel_rfl) rfl) rfl ?_
 exact ⟨rfl,below_setRow B4 (by omega) _⟩
end Go.Proofs.YtlnlbdfokmhelaaGreatDoor
namespace Go.Proofs.YtlnlbdfokmhelaaGreatDoor
open Go.RowKit Go.CE.V
set_option maxRecDepth 20000
theorem bRx {w0 w1 w2:World} (h:Below w0.heap.size w0 w1) (hb:Below w1.heap.size w1 w2):Below w0.heap.size w0 w2:=h.trans (hb.mono h.size)
def bd9 (b:Nat) (W W':World):Prop:=∀ x,x < W.heap.size→x≠b→obj W' x=obj W x
theorem bd9.trans {b:Nat} {W W' W'':World} (h:bd9 b W W') (hs:W.heap.size≤W'.heap.size) (h':bd9 b W' W''):bd9 b W W'':=fun x hx hn=>(h' x (by omega) hn).trans (h x hx hn)
theorem bd9.of_below {b:Nat} {W W':World} (h:Below W.heap.size W W'):bd9 b W W':=fun x hx _=>h.block x hx
theorem bd9.obj {b g:Nat} {W W':World} {o:Obj} (h:bd9 b W W') (hg:obj W g=some o) (hn:g≠b):obj W' g=some o:=(h g (ah1 hg) hn).trans hg
theorem slK {B:Nat} {W W':World} {v:Value} {T:Nat} {l:List Value} {b t:Nat} {c:Array Value} {fr:Nat×Nat} (h:Sl B W v T l) (hb:obj W b=some (.cells c t fr)) (hne:T≠t) (hk:bd9 b W W'):Sl B W' v T l:=by
 obtain ⟨g,o,cc,row,h1,h2,h3,h4⟩:=h
 refine ⟨g,o,cc,row,h1,h2,(hk g (ah1 (show Go.Proofs.YtlnlbdfokmhelaaGreatDoor.obj W g=some _ from h3)) fun e=>?_).trans h3,h4⟩
 subst e
 have:=(show Go.Proofs.YtlnlbdfokmhelaaGreatDoor.obj W g=some _ from h3).symm.trans hb
 injection this with this
 injection this with e1 e2 e3
 exact hne e2
theorem bGa {B:Nat} {W W':World} {v:Value} {l:List Nat} {b t:Nat} {c:Array Value} {fr:Nat×Nat} (h:as1 B W v l) (hb:obj W b=some (.cells c t fr)) (hne:3≠t) (hk:bd9 b W W'):as1 B W' v l:=by
 rcases h with h | ⟨h0,h1⟩
 ·exact .inl h
 ·exact .inr ⟨h0,slK h1 hb hne hk⟩
theorem c09 {W W':World} {base T z:Nat} {v:Value} {n:Nat} {xs:List Value} {b t:Nat} {c:Array Value} {fr:Nat×Nat} (h:W.ownsRow base T z v n xs) (hb:obj W b=some (.cells c t fr)) (hne:T≠t) (hk:bd9 b W W'):W'.ownsRow base T z v n xs:=by
 refine ⟨h.1,?_⟩
 rcases h.2 with q | ⟨g,cap,cur,rfl,h1,h2,h3⟩
 ·exact .inl q
 ·refine .inr ⟨g,cap,cur,rfl,h1,(hk g (ah1 (show Go.Proofs.YtlnlbdfokmhelaaGreatDoor.obj W g=some _ from h2)) fun e=>?_).trans h2,h3⟩
  subst e
  have:=(show Go.Proofs.YtlnlbdfokmhelaaGreatDoor.obj W g=some _ from h2).symm.trans hb
  injection this with this
  injection this with e1 e2 e3
  exact hne e2
theorem biq.keep {B:Nat} {W W':World} {v:Value} {xs:List LN} {b t:Nat} {c:Array Value} {fr:Nat×Nat} (h:biq B W v xs) (hb:obj W b=some (.cells c t fr)) (h1:48≠t) (h2:3≠t) (hk:bd9 b W W'):biq B W' v xs:=by
 obtain ⟨cv,e1,e2⟩:=h
 exact ⟨cv,c09 e1 hb h1 hk,fun i hi=>bGa (e2 i hi) hb h2 hk⟩
theorem biq.below {B:Nat} {W W':World} {v:Value} {xs:List LN} (h:biq B W v xs) (hb:Below W.heap.size W W'):biq B W' v xs:=by
 obtain ⟨cv,e1,e2⟩:=h
 exact ⟨cv,ba3 e1 hb,fun i hi=>(e2 i hi).below hb⟩
theorem b8w.keep {B:Nat} {W W':World} {v:Value} {ps:List (LN×Nat)} {b t:Nat} {c:Array Value} {fr:Nat×Nat} (h:b8w B W v ps) (hb:obj W b=some (.cells c t fr)) (h1:78≠t) (h2:5≠t) (hk:bd9 b W W'):b8w B W' v ps:=by
 obtain ⟨bv,e1,e2⟩:=h
 exact ⟨bv,c09 e1 hb h1 hk,fun i hi=>slK (e2 i hi) hb h2 hk⟩
theorem b8w.below {B:Nat} {W W':World} {v:Value} {ps:List (LN×Nat)} (h:b8w B W v ps) (hb:Below W.heap.size W W'):b8w B W' v ps:=by
 obtain ⟨bv,e1,e2⟩:=h
 exact ⟨bv,ba3 e1 hb,fun i hi=>(e2 i hi).below hb⟩
theorem b8w.mono {B B':Nat} {W:World} {v:Value} {ps:List (LN×Nat)} (h:b8w B W v ps) (hb:B'≤B):b8w B' W v ps:=by
 obtain ⟨bv,e1,e2⟩:=h
 exact ⟨bv,beh e1 hb,e2⟩
theorem b8w.slice {B:Nat} {W:World} {v:Value} {ps:List (LN×Nat)} (h:b8w B W v ps) : ∃ a n c,v=.slice a n c:=by
 obtain ⟨bv,e1,e2⟩:=h
 rcases e1.2 with ⟨rfl,_⟩ | ⟨g,cap,cur,rfl,_⟩<;>exact ⟨_,_,_,rfl⟩
theorem bzv {B:Nat} {W:World} {v:Value} {l:List Nat} (h:as1 B W v l) : ∃ a n c,v=.slice a n c:=by
 rcases h with ⟨_,rfl | ⟨a,c,rfl⟩⟩ | ⟨_,b,o,c,row,rfl,_⟩<;>exact ⟨_,_,_,rfl⟩
theorem bFz {W w4 wl:World} {B n self mtg org dl ph:Nat} {ov pv v5 v6:Value} {own:List Nat} {ps:List (LN×Nat)} (h0:obj wl n=some (.cells (ownRow self mtg org dl ph ov pv) 28 (0,0))) (hc:as1 w4.heap.size wl v5 own) (hp:b8w w4.heap.size wl v6 ps) (hb:Below w4.heap.size w4 wl) (hB:Below B W w4) (hn:B≤n) (hBs:B≤w4.heap.size) :
  obj ((wl.setCell ⟨n,5,none⟩ v5).setCell ⟨n,6,none⟩ v6) n=some (.cells (ownRow self mtg org dl ph v5 v6) 28 (0,0))∧as1 w4.heap.size ((wl.setCell ⟨n,5,none⟩ v5).setCell ⟨n,6,none⟩ v6) v5 own∧b8w w4.heap.size ((wl.setCell ⟨n,5,none⟩ v5).setCell ⟨n,6,none⟩ v6) v6 ps∧bd9 n w4 ((wl.setCell ⟨n,5,none⟩ v5).setCell ⟨n,6,none⟩ v6)∧Below B W ((wl.setCell ⟨n,5,none⟩ v5).setCell ⟨n,6,none⟩ v6)∧w4.heap.size≤((wl.setCell ⟨n,5,none⟩ v5).setCell ⟨n,6,none⟩ v6).heap.size:=by
 have hk:bd9 n wl ((wl.setCell ⟨n,5,none⟩ v5).setCell ⟨n,6,none⟩ v6):=fun x _ hx=>(aRd _ _ _ _ hx).trans (aRd _ _ _ _ hx)
 refine ⟨?_,bGa hc h0 (by decide) hk,hp.keep h0 (by decide) (by decide) hk,(bd9.of_below hb).trans hb.size hk,((hB.trans (hb.mono hBs)).setCell hn _).setCell hn _,?_⟩
 ·rw [avb,avb,h0]
  show some (Obj.cells (((ownRow self mtg org dl ph ov pv).setIfInBounds 5 v5).setIfInBounds 6 v6) _ _)=_
  rw [bL7,bwb]
 ·have:=hb.size
  simpa [World.setCell] using this
def bfj (W W':World):Prop:=∀ x c t fr,obj W x=some (.cells c t fr)→t≠28→t≠78→obj W' x=some (.cells c t fr)
theorem bfj.sl {B:Nat} {W W':World} {v:Value} {T:Nat} {l:List Value} (h:Sl B W v T l) (hk:bfj W W') (h1:T≠28) (h2:T≠78):Sl B W' v T l:=by
 obtain ⟨g,o,cc,row,e1,e2,e3,e4⟩:=h
 exact ⟨g,o,cc,row,e1,e2,hk g _ _ _ e3 h1 h2,e4⟩
theorem bfj.cell {B:Nat} {W W':World} {v:Value} {l:List Nat} (h:as1 B W v l) (hk:bfj W W'):as1 B W' v l:=by
 rcases h with h | ⟨h0,h1⟩
 ·exact .inl h
 ·exact .inr ⟨h0,bfj.sl h1 hk (by decide) (by decide)⟩
theorem bfj.owns {W W':World} {base T z:Nat} {v:Value} {n:Nat} {xs:List Value} (h:W.ownsRow base T z v n xs) (hk:bfj W W') (h1:T≠28) (h2:T≠78):W'.ownsRow base T z v n xs:=by
 refine ⟨h.1,?_⟩
 rcases h.2 with q | ⟨g,cap,cur,rfl,e1,e2,e3⟩
 ·exact .inl q
 ·exact .inr ⟨g,cap,cur,rfl,e1,hk g _ _ _ e2 h1 h2,e3⟩
theorem bfj.lets {B:Nat} {W W':World} {v:Value} {xs:List LN} (h:biq B W v xs) (hk:bfj W W'):biq B W' v xs:=by
 obtain ⟨cv,e1,e2⟩:=h
 exact ⟨cv,bfj.owns e1 hk (by decide) (by decide),fun i hi=>bfj.cell (e2 i hi) hk⟩
theorem c0n {x:LN} (h:x.Ok) (hd:x.dl≤1099511627776):x.Sz:=by
 have hk:=h.kd
 have h1:=h.frm
 have h2:=h.dst
 have h3:=h.res
 have h4:=h.st
 exact ⟨by omega,by omega,by omega,h.bV3,by omega,hd,by omega,fun c hc=>by have:=h.cs c hc;omega,h.len,h.ref⟩
theorem c7b {x:LN} (h:x.Sz) {d:Nat} (hd:d≤1099511627776):(LN.to x d).Sz:=⟨h.kind,h.frm,hd,h.mtg,h.res,h.dl,h.st,h.cs,h.len,h.ref⟩
theorem bh7 {B B':Nat} {W W2:World} {u v:Value} {a b:List Nat} (h1:as1 B W u a) (h2:as1 B' W2 v b) (hs:W2.heap.size≤B):Apart u v:=by
 intro g o n c g' o' n' c' e1 e2 hn hn'
 rcases h1 with ⟨_,rfl | ⟨x,y,rfl⟩⟩ | ⟨_,q,o1,c1,row,rfl,hq,_⟩
 ·cases e1
 ·cases e1;omega
 ·rcases h2 with ⟨_,rfl | ⟨x,y,rfl⟩⟩ | ⟨_,q2,o2,c2,b94,rfl,_,hq2,_⟩
  ·cases e2
  ·cases e2;omega
  ·cases e1;cases e2
   have:=ah1 (show obj W2 g' = some _ from hq2)
   omega
theorem bc8 {α:Type} {l m:List α} {d:α} {i:Nat} (h:i < l.length):(l++m).getD i d=l.getD i d:=by
 rw [List.getD_eq_getElem?_getD,List.getElem?_append_left h,List.getD_eq_getElem?_getD]
theorem bc9 {α:Type} {l:List α} {a d:α}:(l ++ [a]).getD l.length d=a:=by
 rw [List.getD_eq_getElem?_getD,List.getElem?_append_right (Nat.le_refl _)]
 simp
theorem bkg {B:Nat} {W W':World} {v v':Value} {xs:List LN} {x:LN} {c:Value} {cv:Nat→Value} (e1:W.ownsRow B 48 62 v xs.length (ba4 (fun i=>(LN.let (xs.getD i aum) (cv i)).row) xs.length)) (e2:∀ i,i < xs.length→as1 B W (cv i) (xs.getD i aum).cs) (hg:W.grownBy W' v.ownBlock) (hc:as1 B W c x.cs)
  (e3:W'.ownsRow B 48 62 v' (xs.length+1) (ba4 (fun i=>(LN.let (xs.getD i aum) (cv i)).row) xs.length++(LN.let x c).row.toList)):biq B W' v' (xs ++ [x]):=by
 have hlen:(xs ++ [x]).length=xs.length+1:=by simp
 refine ⟨fun j=>if j=xs.length then c else cv j,?_,fun i hi=>?_⟩
 ·rw [hlen,b9u]
  have ea:ba4 (fun i=>(LN.let ((xs ++ [x]).getD i aum) (if i=xs.length then c else cv i)).row) xs.length=ba4 (fun i=>(LN.let (xs.getD i aum) (cv i)).row) xs.length:=bb9 fun i hi=>by rw [bc8 hi,if_neg (by omega)]
  have eb:(LN.let ((xs ++ [x]).getD xs.length aum) (if xs.length=xs.length then c else cv xs.length)).row=(LN.let x c).row:=by rw [bc9,if_pos rfl]
  rw [ea,eb]
  exact e3
 ·rw [hlen] at hi
  by_cases hi2:i=xs.length
  ·subst hi2
   dsimp only
   rw [bc9,if_pos rfl]
   exact b9a e1 hc (by decide) hg
  ·dsimp only
   rw [bc8 (by omega),if_neg hi2]
   exact b9a e1 (e2 i (by omega)) (by decide) hg
theorem byp {B:Nat} {W W':World} {v v':Value} {ps:List (LN×Nat)} {x:LN} {q:Nat} {body:Value} {bv:Nat→Value} (e1:W.ownsRow B 78 36 v ps.length (ba4 (fun i=>(aj7 (ps.getD i (aum,0)).1 (ps.getD i (aum,0)).2 (bv i)).row) ps.length)) (e2:∀ i,i < ps.length→Sl 0 W (bv i) 5 ((LN.enc (ps.getD i (aum,0)).1).map fun c=>B8 c.toNat)) (hg:W.grownBy W' v.ownBlock) (hc:Sl 0 W body 5 ((LN.enc x).map fun c=>B8 c.toNat))
  (e3:W'.ownsRow B 78 36 v' (ps.length+1) (ba4 (fun i=>(aj7 (ps.getD i (aum,0)).1 (ps.getD i (aum,0)).2 (bv i)).row) ps.length++(aj7 x q body).row.toList)):b8w B W' v' (ps ++ [(x,q)]):=by
 have hlen:(ps ++ [(x,q)]).length=ps.length+1:=by simp
 refine ⟨fun j=>if j=ps.length then body else bv j,?_,fun i hi=>?_⟩
 ·rw [hlen,b9u]
  have ea:ba4 (fun i=>(aj7 ((ps ++ [(x,q)]).getD i (aum,0)).1 ((ps ++ [(x,q)]).getD i (aum,0)).2 (if i=ps.length then body else bv i)).row) ps.length=ba4 (fun i=>(aj7 (ps.getD i (aum,0)).1 (ps.getD i (aum,0)).2 (bv i)).row) ps.length:=bb9 fun i hi=>by rw [bc8 hi,if_neg (by omega)]
  have eb:(aj7 ((ps ++ [(x,q)]).getD ps.length (aum,0)).1 ((ps ++ [(x,q)]).getD ps.length (aum,0)).2 (if ps.length=ps.length then body else bv ps.length)).row=(aj7 x q body).row:=by rw [bc9,if_pos rfl]
  rw [ea,eb]
  exact e3
 ·rw [hlen] at hi
  by_cases hi2:i=ps.length
  ·subst hi2
   dsimp only
   rw [bc9,if_pos rfl]
   exact bev e1 hc (by decide) hg
  ·dsimp only
   rw [bc8 (by omega),if_neg hi2]
   exact bev e1 (e2 i (by omega)) (by decide) hg
theorem bCr {W:World} {g:Nat} {x:LN} {q:Nat} {body:Value} (h:obj W g=some (.cells (aj7 x q body).row 78 (0,0))) (hb:Sl 0 W body 5 ((LN.enc x).map fun c=>B8 c.toNat)):bd8 W (.slice (some ⟨g,0,none⟩) 1 1) [(x,q)] :=
 ⟨fun _=>body,⟨_,1,rfl,fun _=>⟨g,0,_,rfl,h,fun i hi=>by
  obtain rfl:i=0:=by simpa using hi
  have:=b2n (aj7 x q body) (as6 x q)
  exact ⟨by omega,baf (aj7 x q body) (as6 x q)⟩⟩⟩,fun i hi=>by
  obtain rfl:i=0:=by simpa using hi
  exact hb⟩
theorem b8w.one {B:Nat} {W:World} {v:Value} {x:LN} {q:Nat} (h:b8w B W v [(x,q)]) : ∃ g c cur body,v=.slice (some ⟨g,0,none⟩) 1 c∧B≤g∧obj W g=some (.cells cur 78 (0,0))∧(∀ j,j < 36→cur[j]? = (aj7 x q body).row[j]?)∧Sl 0 W body 5 ((LN.enc x).map fun c=>B8 c.toNat):=by
 obtain ⟨bv,e1,e2⟩:=h
 rcases e1.2 with ⟨_,h0⟩ | ⟨g,c,cur,rfl,q1,q2,q3,q4,q5,q6⟩
 ·simp at h0
 ·refine ⟨g,c,cur,bv 0,rfl,q1,q2,fun j hj=>?_,e2 0 (by simp)⟩
  have:ba4 (fun i=>(aj7 ([(x,q)].getD i (aum,0)).1 ([(x,q)].getD i (aum,0)).2 (bv i)).row) [(x,q)].length=(aj7 x q (bv 0)).row.toList:=by simp [ba4]
  rw [this] at q6
  rw [← Array.getElem?_toList,← Array.getElem?_toList,← q6,List.getElem?_take,if_pos (by simpa using hj)]
def bfp (ps:List (LN×Nat)) (x:LN) (q:Nat):List (LN×Nat):=if ((ps.map (·.1)).any fun k=>bjl k x)=true then ps else ps ++ [(x,q)]
def bqt (mtg org dl:Nat) (own:List Nat) (ph:Nat) (K:List LN):Nat:=if (ph=2∨ph=5)∧(K.any fun x=>decide (x.kind=10)&&bcd mtg dl own x)=true then 4 else if ph=2∧(bb7 mtg org dl own).azj K=true then 3 else ph
structure bA7 (own:List Nat) (ps:List (LN×Nat)):Prop where
 kok:∀ i,i < ps.length→LOk (ps.getD i (aum,0)).1 (ps.getD i (aum,0)).2
 ans:∀ i,i < ps.length→(ps.getD i (aum,0)).1.kind=9∨(ps.getD i (aum,0)).1.kind=10→(ps.getD i (aum,0)).1.frm∈own
theorem bA7.push {own:List Nat} {ps:List (LN×Nat)} (h:bA7 own ps) {x:LN} {q:Nat} (hx:LOk x q) (ha:x.kind=9∨x.kind=10→x.frm∈own):bA7 own (ps ++ [(x,q)]):=by
 refine ⟨fun i hi=>?_,fun i hi=>?_⟩ <;>
 (rw [List.length_append,List.length_singleton] at hi
  by_cases hi2:i=ps.length
  ·subst hi2
   rw [bc9]
   first | exact hx | exact ha
  ·rw [bc8 (by omega)]
   first | exact h.kok i (by omega) | exact h.ans i (by omega))
theorem bA7.refs {own:List Nat} {ps:List (LN×Nat)} (h:bA7 own ps):∀ i,i < (ps.map (·.1)).length→((ps.map (·.1)).getD i aum).ref.length=32:=fun i hi=>by
 rw [List.length_map] at hi
 rw [bhn]
 exact (h.kok i hi).ok.ref
theorem bA7.bLt {own:List Nat} {ps:List (LN×Nat)} {org:Nat} (h:bA7 own ps) (h16:org < 16) (ho:∀ o∈own,o≠org):∀ i,i < (ps.map (·.1)).length→((ps.map (·.1)).getD i aum).kind=9∨((ps.map (·.1)).getD i aum).kind=10→(LN.to ((ps.map (·.1)).getD i aum) org).Ok∧(LN.enc (LN.to ((ps.map (·.1)).getD i aum) org)).length≤1048576:=fun i hi hk=>by
 rw [List.length_map] at hi
 rw [bhn] at hk ⊢
 have hq:=h.kok i hi
 exact ⟨bUn hq.ok h16 (ho _ (h.ans i hi hk)),by rw [bn2 hq.ok];exact hq.e1⟩
theorem bA7.csz {own:List Nat} {ps:List (LN×Nat)} (h:bA7 own ps):∀ i,i < (ps.map (·.1)).length→((ps.map (·.1)).getD i aum).cs.length≤4:=fun i hi=>by
 rw [List.length_map] at hi
 rw [bhn]
 exact (h.kok i hi).ok.len
theorem bsv {mtg org dl:Nat} {own:List Nat} {ph:Nat} {K:List LN} {x:LN} (h:baz mtg org dl own ph K x=0) (hk:x.kind=9∨x.kind=10):x.frm∈own:=by
 unfold baz at h
 rw [if_neg (by omega),if_neg (by omega)] at h
 cases e:bcd mtg dl own x
 ·rw [if_pos e] at h;cases h
 ·unfold bcd at e
  simp only [Bool.and_eq_true,decide_eq_true_eq] at e
  exact e.2
theorem byw {w w':World} {base T z base' T' z':Nat} {v u:Value} {n m:Nat} {xs ys:List Value} (hown:w.ownsRow base T z v n xs) (h:w.ownsRow base' T' z' u m ys) (hne:T≠T') (hg:w.grownBy w' v.ownBlock):w'.ownsRow base' T' z' u m ys:=by
 refine ⟨h.1,?_⟩
 rcases h.2 with q | ⟨g,cap,cur,rfl,e1,e2,e3⟩
 ·exact .inl q
 ·refine .inr ⟨g,cap,cur,rfl,e1,azl e2 hg fun e=>?_,e3⟩
  rcases hown.2 with ⟨rfl,_⟩ | ⟨q,c,cur2,rfl,_,q2,_⟩
  ·cases e
  ·cases e
   rw [q2] at e2
   injection e2 with e2
   injection e2 with _ e4 _
   exact hne e4
theorem b8w.grown {w w':World} {base T z B:Nat} {v u:Value} {n:Nat} {xs:List Value} {ps:List (LN×Nat)} (hown:w.ownsRow base T z v n xs) (h:b8w B w u ps) (h1:T≠78) (h2:T≠5) (hg:w.grownBy w' v.ownBlock):b8w B w' u ps:=by
 obtain ⟨bv,e1,e2⟩:=h
 exact ⟨bv,byw hown e1 h1 hg,fun i hi=>bev hown (e2 i hi) h2 hg⟩
theorem bWa {W w7 w5 w8:World} {n m base self mtg org dl ph q:Nat} {v5 v6 v8 bd:Value} {OZ:Array Value} {ps:List (LN×Nat)} {x:LN} {bv:Nat→Value}
  (e1:w5.ownsRow base 78 36 v6 ps.length (ba4 (fun i=>(aj7 (ps.getD i (aum,0)).1 (ps.getD i (aum,0)).2 (bv i)).row) ps.length)) (e2:∀ i,i < ps.length→Sl 0 w5 (bv i) 5 ((LN.enc (ps.getD i (aum,0)).1).map fun c=>B8 c.toNat))
  (e3:w8.ownsRow base 78 36 v8 (ps.length+1) (ba4 (fun i=>(aj7 (ps.getD i (aum,0)).1 (ps.getD i (aum,0)).2 (bv i)).row) ps.length++(aj7 x q bd).row.toList)) (hg:w5.grownBy w8 v6.ownBlock) (hbd:Sl 0 w5 bd 5 ((LN.enc x).map fun c=>B8 c.toNat))
  (h0:obj w8 n=some (.cells (ownRow self mtg org dl ph v5 v6) 28 (0,0))) (h2:obj w8 m=some (.cells OZ 28 (0,0))) (hmn:m≠n) (h7:Below w7.heap.size w7 w5) (hB:Below n W w7) (hn7:n≤w7.heap.size) (hnb:n≤base) :
  obj (w8.setCell ⟨n,6,none⟩ v8) n=some (.cells (ownRow self mtg org dl ph v5 v8) 28 (0,0))∧b8w base (w8.setCell ⟨n,6,none⟩ v8) v8 (ps ++ [(x,q)])∧bfj w7 (w8.setCell ⟨n,6,none⟩ v8)∧obj (w8.setCell ⟨n,6,none⟩ v8) m=some (.cells OZ 28 (0,0))∧Below n W (w8.setCell ⟨n,6,none⟩ v8):=by
 have hk:bd9 n w8 (w8.setCell ⟨n,6,none⟩ v8):=fun x _ hx=>aRd _ _ _ _ hx
 refine ⟨?_,(byp e1 e2 hg hbd e3).keep h0 (by decide) (by decide) hk,fun y c t fr hy t1 t2=>?_,aRa h2 _ hmn _,?_⟩
 ·rw [avb,h0]
  show some (Obj.cells ((ownRow self mtg org dl ph v5 v6).setIfInBounds 6 v8) _ _)=_
  rw [bwb]
 ·have y5:=aa1 hy h7 (ah1 hy)
  have y5':w5.heap[y]? = some (.cells c t fr):=y5
  have y8:obj w8 y=some (.cells c t fr):=azl y5 hg fun e=>by
   rcases e1.2 with ⟨rfl,_⟩ | ⟨g,cc,cur,rfl,_,q2,_⟩
   ·cases e
   ·cases e
    rw [q2] at y5'
    injection y5' with q2
    injection q2 with _ q3 _
    exact t2 q3.symm
  refine aRa y8 _ (fun e=>?_) _
  have e:y=n:=e
  subst e
  rw [h0] at y8
  injection y8 with y8
  injection y8 with _ q3 _
  exact t1 q3.symm
 ·exact (((hB.trans (h7.mono hn7)).grown hg (Nat.le_trans hn7 h7.size) (fun g hg=>Nat.le_trans hnb (b7j e1 hg)))).setCell (Nat.le_refl _) _
theorem bdn {W w8:World} {n m B:Nat} {R OZ:Array Value} {v5 v7:Value} {own:List Nat} {ps:List (LN×Nat)} (f2:obj w8 m=some (.cells OZ 28 (0,0))) (hc:as1 B w8 v5 own) (hp:b8w B w8 v7 ps) (hB:Below n W w8) (hm:n≤m) :
  as1 0 (w8.setRow m R) v5 own∧bd8 (w8.setRow m R) v7 ps∧Below n W (w8.setRow m R):=by
 have hk:bd9 m w8 (w8.setRow m R):=fun x _ hx=>setRow_other _ _ _ _ hx
 exact ⟨(bGa hc f2 (by decide) hk).mono (Nat.zero_le _),(hp.keep f2 (by decide) (by decide) hk).proof,below_setRow hB hm _⟩
theorem bf7 {W w8:World} {n m B:Nat} {R OZ R0:Array Value} {v5 v7 u:Value} {own:List Nat} {ps:List (LN×Nat)} {k:Nat} (f0:obj w8 n=some (.cells R0 28 (0,0))) (f2:obj w8 m=some (.cells OZ 28 (0,0))) (hmn:m≠n) (hc:as1 B w8 v5 own) (hp:b8w B w8 v7 ps) (hB:Below n W w8) (hm:n≤m) :
  obj (w8.setCell ⟨n,k,none⟩ u) m=some (.cells OZ 28 (0,0))∧as1 0 ((w8.setCell ⟨n,k,none⟩ u).setRow m R) v5 own∧bd8 ((w8.setCell ⟨n,k,none⟩ u).setRow m R) v7 ps∧Below n W ((w8.setCell ⟨n,k,none⟩ u).setRow m R):=by
 have hk:bd9 n w8 (w8.setCell ⟨n,k,none⟩ u):=fun x _ hx=>aRd _ _ _ _ hx
 have f2':=aRa f2 ⟨n,k,none⟩ hmn u
 exact ⟨f2',bdn f2' (bGa hc f0 (by decide) hk) (hp.keep f0 (by decide) (by decide) hk) (hB.setCell (Nat.le_refl _) _) hm⟩
end Go.Proofs.YtlnlbdfokmhelaaGreatDoor
