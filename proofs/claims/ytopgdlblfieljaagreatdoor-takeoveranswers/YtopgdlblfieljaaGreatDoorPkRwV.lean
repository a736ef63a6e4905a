/-
  What stays of an owner's things when a call goes on; lists that grow by one.
-/
import Derived.Test.YtopgdlblfieljaaGreatDoorPkRwP
import Derived.Test.YtopgdlblfieljaaGreatDoorPkSm
import Derived.Test.YtopgdlblfieljaaGreatDoorPkKs
set_option linter.unusedSectionVars false
set_option linter.constructorNameAsVariable false
set_option linter.unusedVariables false
set_option linter.unusedSimpArgs false
namespace Go.Proofs.YtopgdlblfieljaaGreatDoor
open Go.RowKit Go.CE.V
set_option maxRecDepth 20000
def a8a (b:Nat) (W W':World):Prop:=∀ x,x < W.heap.size→x≠b→obj W' x=obj W x
theorem a8a.trans {b:Nat} {W W' W'':World} (h:a8a b W W') (hs:W.heap.size≤W'.heap.size) (h':a8a b W' W''):a8a b W W'':=fun x hx hn=>(h' x (by omega) hn).trans (h x hx hn)
theorem a8a.obj {b g:Nat} {W W':World} {o:Obj} (h:a8a b W W') (hg:obj W g=some o) (hn:g≠b):obj W' g=some o:=(h g (a04 hg) hn).trans hg
theorem slK {B:Nat} {W W':World} {v:Value} {T:Nat} {l:List Value} {b t:Nat} {c:Array Value} {fr:Nat×Nat} (h:Sl B W v T l) (hb:obj W b=some (.cells c t fr)) (hne:T≠t) (hk:a8a b W W'):Sl B W' v T l:=by
 obtain ⟨g,o,cc,row,h1,h2,h3,h4⟩:=h
 refine ⟨g,o,cc,row,h1,h2,(hk g (a04 (show Go.Proofs.YtopgdlblfieljaaGreatDoor.obj W g=some _ from h3)) fun e=>?_).trans h3,h4⟩
 subst e
 have:=(show Go.Proofs.YtopgdlblfieljaaGreatDoor.obj W g=some _ from h3).symm.trans hb
 injection this with this
 injection this with e1 e2 e3
 exact hne e2
theorem aAl {B:Nat} {W W':World} {v:Value} {l:List Nat} {b t:Nat} {c:Array Value} {fr:Nat×Nat} (h:a0h B W v l) (hb:obj W b=some (.cells c t fr)) (hne:3≠t) (hk:a8a b W W'):a0h B W' v l:=by
 rcases h with h | ⟨h0,h1⟩
 ·exact .inl h
 ·exact .inr ⟨h0,slK h1 hb hne hk⟩
theorem aUs {W W':World} {base T z:Nat} {v:Value} {n:Nat} {xs:List Value} {b t:Nat} {c:Array Value} {fr:Nat×Nat} (h:W.ownsRow base T z v n xs) (hb:obj W b=some (.cells c t fr)) (hne:T≠t) (hk:a8a b W W'):W'.ownsRow base T z v n xs:=by
 refine ⟨h.1,?_⟩
 rcases h.2 with q | ⟨g,cap,cur,rfl,h1,h2,h3⟩
 ·exact .inl q
 ·refine .inr ⟨g,cap,cur,rfl,h1,(hk g (a04 (show Go.Proofs.YtopgdlblfieljaaGreatDoor.obj W g=some _ from h2)) fun e=>?_).trans h2,h3⟩
  subst e
  have:=(show Go.Proofs.YtopgdlblfieljaaGreatDoor.obj W g=some _ from h2).symm.trans hb
  injection this with this
  injection this with e1 e2 e3
  exact hne e2
theorem ad2.keep {B:Nat} {W W':World} {v:Value} {xs:List LN} {b t:Nat} {c:Array Value} {fr:Nat×Nat} (h:ad2 B W v xs) (hb:obj W b=some (.cells c t fr)) (h1:48≠t) (h2:3≠t) (hk:a8a b W W'):ad2 B W' v xs:=by
 obtain ⟨cv,e1,e2⟩:=h
 exact ⟨cv,aUs e1 hb h1 hk,fun i hi=>aAl (e2 i hi) hb h2 hk⟩
theorem ad2.below {B:Nat} {W W':World} {v:Value} {xs:List LN} (h:ad2 B W v xs) (hb:Below W.heap.size W W'):ad2 B W' v xs:=by
 obtain ⟨cv,e1,e2⟩:=h
 exact ⟨cv,a4i e1 hb,fun i hi=>(e2 i hi).below hb⟩
theorem a2l.keep {B:Nat} {W W':World} {v:Value} {ps:List (LN×Nat)} {b t:Nat} {c:Array Value} {fr:Nat×Nat} (h:a2l B W v ps) (hb:obj W b=some (.cells c t fr)) (h1:62≠t) (h2:5≠t) (hk:a8a b W W'):a2l B W' v ps:=by
 obtain ⟨bv,e1,e2⟩:=h
 exact ⟨bv,aUs e1 hb h1 hk,fun i hi=>slK (e2 i hi) hb h2 hk⟩
theorem a2l.below {B:Nat} {W W':World} {v:Value} {ps:List (LN×Nat)} (h:a2l B W v ps) (hb:Below W.heap.size W W'):a2l B W' v ps:=by
 obtain ⟨bv,e1,e2⟩:=h
 exact ⟨bv,a4i e1 hb,fun i hi=>(e2 i hi).below hb⟩
theorem a2l.mono {B B':Nat} {W:World} {v:Value} {ps:List (LN×Nat)} (h:a2l B W v ps) (hb:B'≤B):a2l B' W v ps:=by
 obtain ⟨bv,e1,e2⟩:=h
 exact ⟨bv,abn e1 hb,e2⟩
theorem a2l.slice {B:Nat} {W:World} {v:Value} {ps:List (LN×Nat)} (h:a2l B W v ps) : ∃ a n c,v=.slice a n c:=by
 obtain ⟨bv,e1,e2⟩:=h
 rcases e1.2 with ⟨rfl,_⟩ | ⟨g,cap,cur,rfl,_⟩<;>exact ⟨_,_,_,rfl⟩
def aad (W W':World):Prop:=∀ x c t fr,obj W x=some (.cells c t fr)→t≠28→t≠62→obj W' x=some (.cells c t fr)
theorem aad.sl {B:Nat} {W W':World} {v:Value} {T:Nat} {l:List Value} (h:Sl B W v T l) (hk:aad W W') (h1:T≠28) (h2:T≠62):Sl B W' v T l:=by
 obtain ⟨g,o,cc,row,e1,e2,e3,e4⟩:=h
 exact ⟨g,o,cc,row,e1,e2,hk g _ _ _ e3 h1 h2,e4⟩
theorem aad.cell {B:Nat} {W W':World} {v:Value} {l:List Nat} (h:a0h B W v l) (hk:aad W W'):a0h B W' v l:=by
 rcases h with h | ⟨h0,h1⟩
 ·exact .inl h
 ·exact .inr ⟨h0,aad.sl h1 hk (by decide) (by decide)⟩
theorem aad.owns {W W':World} {base T z:Nat} {v:Value} {n:Nat} {xs:List Value} (h:W.ownsRow base T z v n xs) (hk:aad W W') (h1:T≠28) (h2:T≠62):W'.ownsRow base T z v n xs:=by
 refine ⟨h.1,?_⟩
 rcases h.2 with q | ⟨g,cap,cur,rfl,e1,e2,e3⟩
 ·exact .inl q
 ·exact .inr ⟨g,cap,cur,rfl,e1,hk g _ _ _ e2 h1 h2,e3⟩
theorem aad.lets {B:Nat} {W W':World} {v:Value} {xs:List LN} (h:ad2 B W v xs) (hk:aad W W'):ad2 B W' v xs:=by
 obtain ⟨cv,e1,e2⟩:=h
 exact ⟨cv,aad.owns e1 hk (by decide) (by decide),fun i hi=>aad.cell (e2 i hi) hk⟩
theorem a6x {α:Type} {l m:List α} {d:α} {i:Nat} (h:i < l.length):(l++m).getD i d=l.getD i d:=by
 rw [List.getD_eq_getElem?_getD,List.getElem?_append_left h,List.getD_eq_getElem?_getD]
theorem a6y {α:Type} {l:List α} {a d:α}:(l ++ [a]).getD l.length d=a:=by
 rw [List.getD_eq_getElem?_getD,List.getElem?_append_right (Nat.le_refl _)]
 simp
theorem a2l.one {B:Nat} {W:World} {v:Value} {x:LN} {q:Nat} (h:a2l B W v [(x,q)]) : ∃ g c cur body,v=.slice (some ⟨g,0,none⟩) 1 c∧B≤g∧obj W g=some (.cells cur 62 (0,0))∧(∀ j,j < 36→cur[j]? = (a05 x q body).row[j]?)∧Sl 0 W body 5 ((LN.enc x).map fun c=>B8 c.toNat):=by
 obtain ⟨bv,e1,e2⟩:=h
 rcases e1.2 with ⟨_,h0⟩ | ⟨g,c,cur,rfl,q1,q2,q3,q4,q5,q6⟩
 ·simp at h0
 ·refine ⟨g,c,cur,bv 0,rfl,q1,q2,fun j hj=>?_,e2 0 (by simp)⟩
  have:a3b (fun i=>(a05 ([(x,q)].getD i (a0c,0)).1 ([(x,q)].getD i (a0c,0)).2 (bv i)).row) [(x,q)].length=(a05 x q (bv 0)).row.toList:=by simp [a3b]
  rw [this] at q6
  rw [← Array.getElem?_toList,← Array.getElem?_toList,← q6,List.getElem?_take,if_pos (by simpa using hj)]
structure ak9 (own:List Nat) (ps:List (LN×Nat)):Prop where
 kok:∀ i,i < ps.length→LOk (ps.getD i (a0c,0)).1 (ps.getD i (a0c,0)).2
 ans:∀ i,i < ps.length→(ps.getD i (a0c,0)).1.kind=9∨(ps.getD i (a0c,0)).1.kind=10→(ps.getD i (a0c,0)).1.frm∈own
theorem ak9.push {own:List Nat} {ps:List (LN×Nat)} (h:ak9 own ps) {x:LN} {q:Nat} (hx:LOk x q) (ha:x.kind=9∨x.kind=10→x.frm∈own):ak9 own (ps ++ [(x,q)]):=by
 refine ⟨fun i hi=>?_,fun i hi=>?_⟩ <;>
 (rw [List.length_append,List.length_singleton] at hi
  by_cases hi2:i=ps.length
  ·subst hi2
   rw [a6y]
   first | exact hx | exact ha
  ·rw [a6x (by omega)]
   first | exact h.kok i (by omega) | exact h.ans i (by omega))
theorem att {w w':World} {base T z base' T' z':Nat} {v u:Value} {n m:Nat} {xs ys:List Value} (hown:w.ownsRow base T z v n xs) (h:w.ownsRow base' T' z' u m ys) (hne:T≠T') (hg:w.grownBy w' v.ownBlock):w'.ownsRow base' T' z' u m ys:=by
 refine ⟨h.1,?_⟩
 rcases h.2 with q | ⟨g,cap,cur,rfl,e1,e2,e3⟩
 ·exact .inl q
 ·refine .inr ⟨g,cap,cur,rfl,e1,a0w e2 hg fun e=>?_,e3⟩
  rcases hown.2 with ⟨rfl,_⟩ | ⟨q,c,cur2,rfl,_,q2,_⟩
  ·cases e
  ·cases e
   rw [q2] at e2
   injection e2 with e2
   injection e2 with _ e4 _
   exact hne e4
theorem a2l.grown {w w':World} {base T z B:Nat} {v u:Value} {n:Nat} {xs:List Value} {ps:List (LN×Nat)} (hown:w.ownsRow base T z v n xs) (h:a2l B w u ps) (h1:T≠62) (h2:T≠5) (hg:w.grownBy w' v.ownBlock):a2l B w' u ps:=by
 obtain ⟨bv,e1,e2⟩:=h
 exact ⟨bv,att hown e1 h1 hg,fun i hi=>a9q hown (e2 i hi) h2 hg⟩
def b5o (v:Value):Prop := ∃ ao n c,v=.slice ao n c∧n≤c
theorem a2l.cap {B:Nat} {W:World} {v:Value} {ps:List (LN×Nat)} (h:a2l B W v ps):b5o v:=by
 obtain ⟨bv,h1,_⟩:=h
 rcases h1.2 with ⟨rfl,_⟩ | ⟨g,c,cur,rfl,_,_,hc,_⟩
 ·exact ⟨none,0,0,rfl,Nat.le_refl _⟩
 ·exact ⟨_,_,c,rfl,hc⟩
end Go.Proofs.YtopgdlblfieljaaGreatDoor
namespace Go.Proofs.YtopgdlblfieljaaGreatDoor
open Go.RowKit Go.CE.V
set_option maxRecDepth 20000
structure ane (W:World) (row:Array Value) (me mtg org dl:Nat) (own:List Nat) (ph:Nat) (ps:List (LN×Nat)):Prop where
 form : ∃ ov pv,row=ownRow me mtg org dl ph ov pv∧a0h 0 W ov own∧a6i W pv ps
 ok:ak9 own ps
 ph5:ph∈[0,2,3,4,5]∧∀ pv,row[6]? = some pv→b5o pv
theorem ane.below {W W':World} {row:Array Value} {me mtg org dl:Nat} {own:List Nat} {ph:Nat} {ps:List (LN×Nat)} (h:ane W row me mtg org dl own ph ps) (hb:Below W.heap.size W W'):ane W' row me mtg org dl own ph ps:=by
 obtain ⟨⟨ov,pv,e,h1,h2⟩,h3,h4⟩:=h
 exact ⟨⟨ov,pv,e,h1.below hb,h2.below hb⟩,h3,h4⟩
end Go.Proofs.YtopgdlblfieljaaGreatDoor
namespace Go.CE
namespace V
open Go.Proofs Go.Proofs.YtopgdlblfieljaaGreatDoor Go.RowKit
set_option maxRecDepth 100000
def agl (l:List Nat):List AV:=l.map fun n=>AV.i .i64 (.ofNat n)
noncomputable def memO (l:List Nat):FM:=adx (p4 1025) (.cells (a0r (agl l)) (agl l).length 3) .e
noncomputable def aD6 (t:LT) (f:Nat) (a:List AV) (l:List Nat):Ans:=@evF S00 Tryz.prog (LT.fq t) 4000 f (a.map ofV) ⟨memO l,1024,2048,[],[]⟩
def aj1 (l:List Nat):AV:=.sl (some (1025,0)) l.length l.length
theorem a9e (l:List Nat):(agl l).map (@aa7 S00)=l.map fun (c:Nat)=>Value.int .i64 (c:Int):=by
 unfold agl
 rw [List.map_map]
 rfl
theorem af9 (l:List Nat):(agl l).all ahy=true:=by
 unfold agl
 rw [List.all_map]
 exact List.all_eq_true.2 fun _ _=>rfl
theorem ay0 (l:List Nat):a1f (agl l)=true:=@aib S00 a5k l
theorem aP4 {l:List Nat} (h0:l≠[]) {B:Nat} {W:World} {v:Value} (hv:a0h B W v l) : ∃ σ m,GS σ∧(∀ j,2048≤j→σ j=none)∧@SR S00 Tryz.prog W.heap.size σ m W∧@RS 2048 ⟨m,1024,[],[]⟩ ⟨memO l,1024,2048,[],[]⟩∧@VR S00 σ (aj1 l) v:=by
 letI:Sym:=S00
 haveI hok:a0n:=a5k
 rcases hv with ⟨e,_⟩ | ⟨_,hs⟩
 ·exact absurd e h0
 ·rw [← a9e l] at hs
  obtain ⟨q,h1,h2⟩:=@aks S00 hok Tryz.prog W.heap.size B gsg .e W 3 (agl l) v 1025 a4k (@aIj S00 hok W) hs (af9 l) (a2a (by omega)) (by omega) rfl (fun b o n c _ j p hj=>absurd (by cases j<;>rfl) hj)
  refine ⟨gsg.add 1025 q,_,a8t.mono (Sg.a6v (a2a (by omega))),fun j hj=>a2w (by omega) (a2a (by omega)),h1,@al1 S00 hok .e .e (@aIp S00 hok) 1025 3 (agl l) (by omega) (ay0 l),?_⟩
  rw [show (agl l).length=l.length from List.length_map _] at h2
  exact h2
theorem af8 {t:LT} (hall:@LT.all (@Good S00 a5k Tryz.prog) t) {l:List Nat} (h0:l≠[]) {B:Nat} {W:World} {v:Value} (hv:a0h B W v l) {f:Nat} {a:List AV} {vals:Array Value} {r:FV} {f':QW}
  (hl:∀ σ,@VR S00 σ (aj1 l) v→@LR S00 σ a vals) (he:aD6 t f a l=some (r,f')) :
  Calls Tryz.prog f vals W fun e W' => ∃ τ u s',e=.returned u∧okV r∧@RS 2048 s' f'∧@SR S00 Tryz.prog W.heap.size τ s'.mem W'∧@VR S00 τ (a2t r) u∧Below W.heap.size W W':=by
 obtain ⟨σ,m,hg,hfr,hsr,hrs,hvr⟩:=aP4 h0 hv
 refine (@a3r S00 a5k t hall 4000 f _ a m _ r f' σ W vals hrs hg hsr hfr (@aaf S00 a5k _) (hl σ hvr) he).mono fun e W' hd=>?_
 obtain ⟨τ,u,s',h1,h2,h3,_,h5,h6,h7⟩:=hd
 exact ⟨τ,u,s',h1,h2,h3,h5,h6,h7⟩
end V
end Go.CE
