/-
  reserve.Decide as a step of the plain owner.
-/
import Derived.Test.YtlnlbdfokmhelaaGreatDoorPkRwW
import Derived.Test.YtlnlbdfokmhelaaGreatDoorPkKs
set_option linter.unusedSectionVars false
set_option linter.constructorNameAsVariable false
set_option linter.unusedVariables false
set_option linter.unusedSimpArgs false
namespace Go.Proofs.YtlnlbdfokmhelaaGreatDoor
open Go.RowKit Go.CE.V
set_option maxRecDepth 20000
theorem aPq (ph:Nat) (ps:List (LN×Nat)) (x:LN) (q:Nat):(⟨ph,ps.map (·.1)⟩:Go.Rv.St).more x=(aaj ps x q).map (·.1):=by
 show (if ((ps.map (·.1)).any fun k=>aeo k x)=true then ps.map (·.1) else ps.map (·.1) ++ [x])=(if ((ps.map (·.1)).any fun k=>aeo k x)=true then ps else ps ++ [(x,q)]).map (·.1)
 by_cases h:((ps.map (·.1)).any fun k=>aeo k x)=true
 ·rw [if_pos h,if_pos h]
 ·rw [if_neg h,if_neg h,List.map_append];rfl
theorem aPn (mtg org dl:Nat) (own:List Nat) (ph:Nat) (ps:List (LN×Nat)) (x:LN) (q:Nat):(a2s mtg org dl own).next ⟨ph,ps.map (·.1)⟩ x=⟨alq mtg org dl own ph ((aaj ps x q).map (·.1)),(aaj ps x q).map (·.1)⟩:=by
 unfold Go.Rv.a2c.next
 rw [aPq ph ps x q]
 rfl
theorem ayn {own:List Nat} {ps:List (LN×Nat)} (h:ak9 own ps) {x:LN} {q:Nat} (hx:LOk x q) {mtg org dl ph:Nat} (ha:a5n mtg org dl own ph (ps.map (·.1)) x=0):ak9 own (aaj ps x q)∧(aaj ps x q).length≤ps.length+1:=by
 unfold aaj
 split
 ·exact ⟨h,by omega⟩
 ·exact ⟨h.push hx (an9 ha),by simp⟩
structure ane (W:World) (row:Array Value) (me mtg org dl:Nat) (own:List Nat) (ph:Nat) (ps:List (LN×Nat)):Prop where
 form : ∃ ov pv,row=ownRow me mtg org dl ph ov pv∧a0h 0 W ov own∧a6i W pv ps
 ok:ak9 own ps
 ph5:ph∈[0,2,3,4,5]∧∀ pv,row[6]? = some pv→b5o pv
theorem ane.below {W W':World} {row:Array Value} {me mtg org dl:Nat} {own:List Nat} {ph:Nat} {ps:List (LN×Nat)} (h:ane W row me mtg org dl own ph ps) (hb:Below W.heap.size W W'):ane W' row me mtg org dl own ph ps:=by
 obtain ⟨⟨ov,pv,e,h1,h2⟩,h3,h4⟩:=h
 exact ⟨⟨ov,pv,e,h1.below hb,h2.below hb⟩,h3,h4⟩
structure NumP (me mtg org dl:Nat) (own:List Nat):Prop where
 atu:own≠[]
 aj0:own.length≤4
 inn:me∈own
 aj2:org < 16
 abo:∀ o∈own,o≠org
theorem aG5 {mtg org dl:Nat} {own:List Nat} {ph:Nat} {K:List LN} (h:ph∈[0,2,3,4,5]):alq mtg org dl own ph K∈[0,2,3,4,5]:=by
 unfold alq
 split
 ·decide
 ·split
  ·decide
  ·exact h
theorem api {W:World} {kv:Value} {row:Array Value} {me mtg org dl:Nat} {own:List Nat} {ph:Nat} {ps:List (LN×Nat)} {x:LN} {q:Nat} {body:Value} (hn:NumP me mtg org dl own) (ho:ane W row me mtg org dl own ph ps) (hl:ps.length≤900) (hk:a7r W kv) (hx:LOk x q) (hbd:Sl 0 W body 5 ((LN.enc x).map fun c=>B8 c.toNat)) (hT:Tab W) (h0w:0 < W.heap.size)
  (HV:∀ W' v,Below W.heap.size W W'→a0h 0 W' v own→Calls Tryz.prog 103 #[.agg (a06 mtg org dl v)] W' fun e w'=>e=.returned (.bool true)∧Below W'.heap.size W' w') :
  Calls Tryz.prog 33 #[.agg row,kv,.agg (a05 x q body).row] W fun e W'=>(((a2s mtg org dl own).admit ⟨ph,ps.map (·.1)⟩ x=0∧∃ row' ph' ps',e=.returned (.tuple #[.agg row',.int .i64 0])∧ane W' row' me mtg org dl own ph' ps'∧ps'.length≤ps.length+1∧(a2s mtg org dl own).next ⟨ph,ps.map (·.1)⟩ x=⟨ph',ps'.map (·.1)⟩)∨((a2s mtg org dl own).admit ⟨ph,ps.map (·.1)⟩ x≠0∧∃ (row':Array Value) (n:Nat),row'.size=7∧ones row' = true∧n≠0∧e=.returned (.tuple #[.agg row',.int .i64 n])))∧Below W.heap.size W W':=by
 obtain ⟨⟨ov,pv,rfl,h1,h2⟩,h3,h4⟩:=ho
 have hD:aRk W kv me mtg org dl ph own ov pv ps x q body:=⟨hk,h1,h2,h3.kok,hx,hbd,hT,h0w,hn.atu,hn.aj0,h4.1,hn.inn,hl,hn.aj2,hn.abo,h3.ans⟩
 by_cases ha:a5n mtg org dl own ph (ps.map (·.1)) x=0
 ·refine (aui hD (fun W' hb=>HV W' ov hb (h1.below hb)) ha).mono fun e W' ⟨v5,v7,he,hc,hp,hb⟩=>⟨.inl ⟨ha,_,_,_,he,⟨⟨v5,v7,rfl,hc,hp.1⟩,(ayn h3 hx ha).1,aG5 h4.1,fun pv h=>by rw [aau] at h;cases h;exact hp.2⟩,(ayn h3 hx ha).2,aPn _ _ _ _ _ _ _ _⟩,hb⟩
 ·refine (aA8 hD (fun W' hb=>HV W' ov hb (h1.below hb)) ha).mono fun e W' ⟨he,hb⟩=>⟨.inr ⟨ha,_,_,rfl,by simp [ones,ack,ay5],ha,he⟩,hb⟩
end Go.Proofs.YtlnlbdfokmhelaaGreatDoor
namespace Go.CE
namespace V
open Go.Proofs Go.Proofs.YtlnlbdfokmhelaaGreatDoor Go.RowKit
set_option maxRecDepth 100000
def a2j:List (List Nat):=[[1],[2],[3],[4],[1,2],[1,3],[1,4],[2,3],[2,4],[3,4],[1,2,3],[1,2,4],[1,3,4],[2,3,4]]
def agl (l:List Nat):List AV:=l.map fun n=>AV.i .i64 (.ofNat n)
noncomputable def memO (l:List Nat):FM:=adx (p4 1025) (.cells (a0r (agl l)) (agl l).length 3) .e
noncomputable def aD6 (t:LT) (f:Nat) (a:List AV) (l:List Nat):Ans:=@evF S00 Tryz.prog (LT.fq t) 4000 f (a.map ofV) ⟨memO l,1024,2048,[],[]⟩
def aj1 (l:List Nat):AV:=.sl (some (1025,0)) l.length l.length
theorem a9e (l:List Nat):(agl l).map (@aa7 S00)=l.map fun (c:Nat)=>Value.int .i64 (c:Int):=by
 unfold agl
 rw [List.map_map]
 rfl
theorem af9 (l:List Nat):(agl l).all ahy=true:=by
 unfold agl
 rw [List.all_map]
 exact List.all_eq_true.2 fun _ _=>rfl
theorem ay0 (l:List Nat):a1f (agl l)=true:=@aib S00 a5k l
theorem aP4 {l:List Nat} (h0:l≠[]) {B:Nat} {W:World} {v:Value} (hv:a0h B W v l) : ∃ σ m,GS σ∧(∀ j,2048≤j→σ j=none)∧@SR S00 Tryz.prog W.heap.size σ m W∧@RS 2048 ⟨m,1024,[],[]⟩ ⟨memO l,1024,2048,[],[]⟩∧@VR S00 σ (aj1 l) v:=by
 letI:Sym:=S00
 haveI hok:a0n:=a5k
 rcases hv with ⟨e,_⟩ | ⟨_,hs⟩
 ·exact absurd e h0
 ·rw [← a9e l] at hs
  obtain ⟨q,h1,h2⟩:=@aks S00 hok Tryz.prog W.heap.size B gsg .e W 3 (agl l) v 1025 a4k (@aIj S00 hok W) hs (af9 l) (a2a (by omega)) (by omega) rfl (fun b o n c _ j p hj=>absurd (by cases j<;>rfl) hj)
  refine ⟨gsg.add 1025 q,_,a8t.mono (Sg.a6v (a2a (by omega))),fun j hj=>a2w (by omega) (a2a (by omega)),h1,@al1 S00 hok .e .e (@aIp S00 hok) 1025 3 (agl l) (by omega) (ay0 l),?_⟩
  rw [show (agl l).length=l.length from List.length_map _] at h2
  exact h2
theorem af8 {t:LT} (hall:@LT.all (@Good S00 a5k Tryz.prog) t) {l:List Nat} (h0:l≠[]) {B:Nat} {W:World} {v:Value} (hv:a0h B W v l) {f:Nat} {a:List AV} {vals:Array Value} {r:FV} {f':QW}
  (hl:∀ σ,@VR S00 σ (aj1 l) v→@LR S00 σ a vals) (he:aD6 t f a l=some (r,f')) :
  Calls Tryz.prog f vals W fun e W' => ∃ τ u s',e=.returned u∧okV r∧@RS 2048 s' f'∧@SR S00 Tryz.prog W.heap.size τ s'.mem W'∧@VR S00 τ (a2t r) u∧Below W.heap.size W W':=by
 obtain ⟨σ,m,hg,hfr,hsr,hrs,hvr⟩:=aP4 h0 hv
 refine (@a3r S00 a5k t hall 4000 f _ a m _ r f' σ W vals hrs hg hsr hfr (@aaf S00 a5k _) (hl σ hvr) he).mono fun e W' hd=>?_
 obtain ⟨τ,u,s',h1,h2,h3,_,h5,h6,h7⟩:=hd
 exact ⟨τ,u,s',h1,h2,h3,h5,h6,h7⟩
def aQ2 (r:Ans):Bool:=match r with
 | some (.b true,_)=>true
 | _=>false
theorem aGt {r:Ans} (h:aQ2 r=true) : ∃ f,r=some (.b true,f):=by
 unfold aQ2 at h
 split at h
 ·exact ⟨_,rfl⟩
 ·cases h
theorem a2h {l:List Nat} (h:l∈a2j):l≠[]:=by
 have:∀ l∈a2j,l≠[]:=by decide
 exact this l h
def ae2 (l:List Nat):AV:=.g [.i .i64 (.ofNat 4),.i .i64 (.ofNat 0),.i .i64 (.ofNat 90),aj1 l]
theorem asr:a2j.all (fun l=>aQ2 (aD6 .e 103 [ae2 l] l))=true:=by decide +kernel
theorem aiy {σ:Sg} {l:List Nat} {v:Value} (h:@VR S00 σ (aj1 l) v):@VR S00 σ (ae2 l) (.agg (a06 4 0 90 v)):=by
 letI:Sym:=S00
 rw [← aix]
 exact LR.g (LV.lr (σ:=σ) (l:=[.i .i64 (.ofNat 4),.i .i64 (.ofNat 0),.i .i64 (.ofNat 90),aj1 l]) (m:=[.int .i64 (4:Nat),.int .i64 (0:Nat),.int .i64 (90:Nat),v]) ⟨VR.i _ _,VR.i _ _,VR.i _ _,h,trivial⟩)
theorem akj {l:List Nat} (hl:l∈a2j) {B:Nat} {W:World} {v:Value} (hv:a0h B W v l):Calls Tryz.prog 103 #[.agg (a06 4 0 90 v)] W fun e W'=>e=.returned (.bool true)∧Below W.heap.size W W':=by
 obtain ⟨f',hf⟩:=aGt (List.all_eq_true.1 asr l hl)
 refine (af8 (t:=.e) trivial (a2h hl) hv (fun σ h=>?_) hf).mono fun e W' ⟨τ,u,s',he,_,_,_,hu,hb⟩=>?_
 ·exact @LV.lr S00 σ [ae2 l] [.agg (a06 4 0 90 v)] ⟨aiy h,trivial⟩
 ·cases hu
  exact ⟨he,hb⟩
end V
end Go.CE
