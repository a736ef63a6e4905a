/-
  reserve.Decide as a step of the plain owner.
-/
import Derived.Test.YtlnlbdfokmhelaaGreatDoorPkRwW
import Derived.Test.YtlnlbdfokmhelaaGreatDoorPkKs
set_option linter.unusedSectionVars false
set_option linter.constructorNameAsVariable false
set_option linter.unusedVariables false
set_option linter.unusedSimpArgs false
namespace Go.Proofs.YtlnlbdfokmhelaaGreatDoor
open Go.RowKit Go.CE.V
set_option maxRecDepth 20000
theorem bV4 (ph:Nat) (ps:List (LN×Nat)) (x:LN) (q:Nat):(⟨ph,ps.map (·.1)⟩:Go.Rv.St).more x=(bfp ps x q).map (·.1):=by
 show (if ((ps.map (·.1)).any fun k=>bjl k x)=true then ps.map (·.1) else ps.map (·.1) ++ [x])=(if ((ps.map (·.1)).any fun k=>bjl k x)=true then ps else ps ++ [(x,q)]).map (·.1)
 by_cases h:((ps.map (·.1)).any fun k=>bjl k x)=true
 ·rw [if_pos h,if_pos h]
 ·rw [if_neg h,if_neg h,List.map_append];rfl
theorem bV1 (mtg org dl:Nat) (own:List Nat) (ph:Nat) (ps:List (LN×Nat)) (x:LN) (q:Nat):(bb7 mtg org dl own).next ⟨ph,ps.map (·.1)⟩ x=⟨bqt mtg org dl own ph ((bfp ps x q).map (·.1)),(bfp ps x q).map (·.1)⟩:=by
 unfold Go.Rv.b9c.next
 rw [bV4 ph ps x q]
 rfl
theorem bDw {own:List Nat} {ps:List (LN×Nat)} (h:bA7 own ps) {x:LN} {q:Nat} (hx:LOk x q) {mtg org dl ph:Nat} (ha:baz mtg org dl own ph (ps.map (·.1)) x=0):bA7 own (bfp ps x q)∧(bfp ps x q).length≤ps.length+1:=by
 unfold bfp
 split
 ·exact ⟨h,by omega⟩
 ·exact ⟨h.push hx (bsv ha),by simp⟩
structure bip (W:World) (row:Array Value) (me mtg org dl:Nat) (own:List Nat) (ph:Nat) (ps:List (LN×Nat)):Prop where
 form : ∃ ov pv,row=ownRow me mtg org dl ph ov pv∧as1 0 W ov own∧bd8 W pv ps
 ok:bA7 own ps
 ph5:ph∈[0,2,3,4,5]
theorem bip.below {W W':World} {row:Array Value} {me mtg org dl:Nat} {own:List Nat} {ph:Nat} {ps:List (LN×Nat)} (h:bip W row me mtg org dl own ph ps) (hb:Below W.heap.size W W'):bip W' row me mtg org dl own ph ps:=by
 obtain ⟨⟨ov,pv,e,h1,h2⟩,h3,h4⟩:=h
 exact ⟨⟨ov,pv,e,h1.below hb,h2.below hb⟩,h3,h4⟩
structure NumP (me mtg org dl:Nat) (own:List Nat):Prop where
 bL9:own≠[]
 bo2:own.length≤4
 inn:me∈own
 bo4:org < 16
 bgq:∀ o∈own,o≠org
theorem bLo {mtg org dl:Nat} {own:List Nat} {ph:Nat} {K:List LN} (h:ph∈[0,2,3,4,5]):bqt mtg org dl own ph K∈[0,2,3,4,5]:=by
 unfold bqt
 split
 ·decide
 ·split
  ·decide
  ·exact h
theorem bv6 {W:World} {kv:Value} {row:Array Value} {me mtg org dl:Nat} {own:List Nat} {ph:Nat} {ps:List (LN×Nat)} {x:LN} {q:Nat} {body:Value} (hn:NumP me mtg org dl own) (ho:bip W row me mtg org dl own ph ps) (hl:ps.length≤900) (hk:bcf W kv) (hx:LOk x q) (hbd:Sl 0 W body 5 ((LN.enc x).map fun c=>B8 c.toNat)) (hT:Tab W) (h0w:0 < W.heap.size)
  (HV:∀ W' v,Below W.heap.size W W'→as1 0 W' v own→Calls Tryz.prog 103 #[.agg (ah6 mtg org dl v)] W' fun e w'=>e=.returned (.bool true)∧Below W'.heap.size W' w') :
  Calls Tryz.prog 33 #[.agg row,kv,.agg (aj7 x q body).row] W fun e W'=>(((bb7 mtg org dl own).admit ⟨ph,ps.map (·.1)⟩ x=0∧∃ row' ph' ps',e=.returned (.tuple #[.agg row',.int .i64 0])∧bip W' row' me mtg org dl own ph' ps'∧ps'.length≤ps.length+1∧(bb7 mtg org dl own).next ⟨ph,ps.map (·.1)⟩ x=⟨ph',ps'.map (·.1)⟩)∨((bb7 mtg org dl own).admit ⟨ph,ps.map (·.1)⟩ x≠0∧∃ (row':Array Value) (n:Nat),row'.size=7∧ones row' = true∧n≠0∧e=.returned (.tuple #[.agg row',.int .i64 n])))∧Below W.heap.size W W':=by
 obtain ⟨⟨ov,pv,rfl,h1,h2⟩,h3,h4⟩:=ho
 have hD:bWy W kv me mtg org dl ph own ov pv ps x q body:=⟨hk,h1,h2,h3.kok,hx,hbd,hT,h0w,hn.bL9,hn.bo2,h4,hn.inn,hl,hn.bo4,hn.bgq,h3.ans⟩
 by_cases ha:baz mtg org dl own ph (ps.map (·.1)) x=0
 ·refine (bzi hD (fun W' hb=>HV W' ov hb (h1.below hb)) ha).mono fun e W' ⟨v5,v7,he,hc,hp,hb⟩=>⟨.inl ⟨ha,_,_,_,he,⟨⟨v5,v7,rfl,hc,hp⟩,(bDw h3 hx ha).1,bLo h4⟩,(bDw h3 hx ha).2,bV1 _ _ _ _ _ _ _ _⟩,hb⟩
 ·refine (bFy hD (fun W' hb=>HV W' ov hb (h1.below hb)) ha).mono fun e W' ⟨he,hb⟩=>⟨.inr ⟨ha,_,_,rfl,by simp [ones,bhl,bD7],ha,he⟩,hb⟩
end Go.Proofs.YtlnlbdfokmhelaaGreatDoor
namespace Go.CE
namespace V
open Go.Proofs Go.Proofs.YtlnlbdfokmhelaaGreatDoor Go.RowKit
set_option maxRecDepth 100000
def b95:List (List Nat):=[[1],[2],[3],[4],[1,2],[1,3],[1,4],[2,3],[2,4],[3,4],[1,2,3],[1,2,4],[1,3,4],[2,3,4]]
def blm (l:List Nat):List AV:=l.map fun n=>AV.i .i64 (.ofNat n)
noncomputable def memO (l:List Nat):FM:=bir (p4 1025) (.cells (azg (blm l)) (blm l).length 3) .e
noncomputable def bO1 (t:LT) (f:Nat) (a:List AV) (l:List Nat):Ans:=@evF S00 Tryz.prog (LT.fq t) 4000 f (a.map ofV) ⟨memO l,1024,2048,[],[]⟩
def bsz (l:List Nat):AV:=.sl (some (1025,0)) l.length l.length
theorem bei (l:List Nat):(blm l).map (@bfe S00)=l.map fun (c:Nat)=>Value.int .i64 (c:Int):=by
 unfold blm
 rw [List.map_map]
 rfl
theorem bk6 (l:List Nat):(blm l).all bmv=true:=by
 unfold blm
 rw [List.all_map]
 exact List.all_eq_true.2 fun _ _=>rfl
theorem bD2 (l:List Nat):aRg (blm l)=true:=@bn9 S00 bax l
theorem bUi {l:List Nat} (h0:l≠[]) {B:Nat} {W:World} {v:Value} (hv:as1 B W v l) : ∃ σ m,GS σ∧(∀ j,2048≤j→σ j=none)∧@SR S00 Tryz.prog W.heap.size σ m W∧@RS 2048 ⟨m,1024,[],[]⟩ ⟨memO l,1024,2048,[],[]⟩∧@VR S00 σ (bsz l) v:=by
 letI:Sym:=S00
 haveI hok:avd:=bax
 rcases hv with ⟨e,_⟩ | ⟨_,hs⟩
 ·exact absurd e h0
 ·rw [← bei l] at hs
  obtain ⟨q,h1,h2⟩:=@bpw S00 hok Tryz.prog W.heap.size B gsg .e W 3 (blm l) v 1025 ba6 (@bNv S00 hok W) hs (bk6 l) (b5v (by omega)) (by omega) rfl (fun b o n c _ j p hj=>absurd (by cases j<;>rfl) hj)
  refine ⟨gsg.add 1025 q,_,bdu.mono (Sg.bc6 (b5v (by omega))),fun j hj=>b91 (by omega) (b5v (by omega)),h1,@bq3 S00 hok .e .e (@bO2 S00 hok) 1025 3 (blm l) (by omega) (bD2 l),?_⟩
  rw [show (blm l).length=l.length from List.length_map _] at h2
  exact h2
theorem bo3 {t:LT} (hall:@LT.all (@Good S00 bax Tryz.prog) t) {l:List Nat} (h0:l≠[]) {B:Nat} {W:World} {v:Value} (hv:as1 B W v l) {f:Nat} {a:List AV} {vals:Array Value} {r:FV} {f':QW}
  (hl:∀ σ,@VR S00 σ (bsz l) v→@LR S00 σ a vals) (he:bO1 t f a l=some (r,f')) :
  Calls Tryz.prog f vals W fun e W' => ∃ τ u s',e=.returned u∧okV r∧@RS 2048 s' f'∧@SR S00 Tryz.prog W.heap.size τ s'.mem W'∧@VR S00 τ (b8x r) u∧Below W.heap.size W W':=by
 obtain ⟨σ,m,hg,hfr,hsr,hrs,hvr⟩:=bUi h0 hv
 refine (@b9m S00 bax t hall 4000 f _ a m _ r f' σ W vals hrs hg hsr hfr (@bfl S00 bax _) (hl σ hvr) he).mono fun e W' hd=>?_
 obtain ⟨τ,u,s',h1,h2,h3,_,h5,h6,h7⟩:=hd
 exact ⟨τ,u,s',h1,h2,h3,h5,h6,h7⟩
def bVj (r:Ans):Bool:=match r with
 | some (.b true,_)=>true
 | _=>false
theorem bMc {r:Ans} (h:bVj r=true) : ∃ f,r=some (.b true,f):=by
 unfold bVj at h
 split at h
 ·exact ⟨_,rfl⟩
 ·cases h
theorem aZ2 {l:List Nat} (h:l∈b95):l≠[]:=by
 have:∀ l∈b95,l≠[]:=by decide
 exact this l h
def biy (l:List Nat):AV:=.g [.i .i64 (.ofNat 4),.i .i64 (.ofNat 0),.i .i64 (.ofNat 90),bsz l]
theorem by6:b95.all (fun l=>bVj (bO1 .e 103 [biy l] l))=true:=by decide +kernel
theorem bo0 {σ:Sg} {l:List Nat} {v:Value} (h:@VR S00 σ (bsz l) v):@VR S00 σ (biy l) (.agg (ah6 4 0 90 v)):=by
 letI:Sym:=S00
 rw [← bCt]
 exact LR.g (LV.lr (σ:=σ) (l:=[.i .i64 (.ofNat 4),.i .i64 (.ofNat 0),.i .i64 (.ofNat 90),bsz l]) (m:=[.int .i64 (4:Nat),.int .i64 (0:Nat),.int .i64 (90:Nat),v]) ⟨VR.i _ _,VR.i _ _,VR.i _ _,h,trivial⟩)
theorem bpm {l:List Nat} (hl:l∈b95) {B:Nat} {W:World} {v:Value} (hv:as1 B W v l):Calls Tryz.prog 103 #[.agg (ah6 4 0 90 v)] W fun e W'=>e=.returned (.bool true)∧Below W.heap.size W W':=by
 obtain ⟨f',hf⟩:=bMc (List.all_eq_true.1 by6 l hl)
 refine (bo3 (t:=.e) trivial (aZ2 hl) hv (fun σ h=>?_) hf).mono fun e W' ⟨τ,u,s',he,_,_,_,hu,hb⟩=>?_
 ·exact @LV.lr S00 σ [biy l] [.agg (ah6 4 0 90 v)] ⟨bo0 h,trivial⟩
 ·cases hu
  exact ⟨he,hb⟩
end V
end Go.CE
