/-
  What granted yields, reckoned by the kernel over the lists of owners.
-/
import Derived.Test.YtlnlbdfokmhelaaGreatDoorPkRm
import Derived.Test.YtlnlbdfokmhelaaGreatDoorPkSan
set_option linter.unusedSectionVars false
set_option linter.constructorNameAsVariable false
set_option linter.unusedVariables false
set_option linter.unusedSimpArgs false
namespace Go.CE
namespace V
open Go.Proofs Go.Proofs.YtlnlbdfokmhelaaGreatDoor Go.RowKit
set_option maxRecDepth 100000
noncomputable def fsT (l:List Nat):QW:=⟨adx (p4 1025) (.cells (a0r (agl l)) (agl l).length 3) (adx (p4 0) (.cells (a0r (Sha.K.map aq4)) 64 277) .e),1024,2048,[],[]⟩
noncomputable def runT (f:Nat) (a:List AV) (l:List Nat):Ans:=@evF S00 P (@LT.fq (@Q.tL S00)) 4000 f (a.map ofV) (fsT l)
noncomputable def aZo (own:List Nat) (i:Nat) (r:Ans):Bool:=match r with
 | some (.t t 3,f)=>(match a1d (p4 0) t with
  | .g g 7=>avL (a07 g 0 5) [.i .i64 (.ofNat (own.getD i 0)),.i .i64 (.ofNat 4),.i .i64 (.ofNat 0),.i .i64 (.ofNat 90),.i .i64 (.ofNat 2)]&&ark own (a1d (p4 5) g) f&&avB (a6g (a1d (p4 6) g)) (.sl none 0 0)
  | _=>false)&&avB (a6g (a1d (p4 2) t)) (.b true)
 | _=>false
theorem aH6:(a2j.take 10).all (fun own=>(List.range own.length).all fun i=>aZo own i (runT 29 [ae2 own,.i .i64 (.ofNat i)] own))=true:=by decide +kernel
theorem aH5:(a2j.drop 10).all (fun own=>(List.range own.length).all fun i=>aZo own i (runT 29 [ae2 own,.i .i64 (.ofNat i)] own))=true:=by decide +kernel
theorem aQa {own:List Nat} (hl:own∈a2j) {i:Nat} (hi:i < own.length):aZo own i (runT 29 [ae2 own,.i .i64 (.ofNat i)] own)=true:=by
 rw [← List.take_append_drop 10 a2j,List.mem_append] at hl
 rcases hl with hl | hl
 ·exact List.all_eq_true.1 (List.all_eq_true.1 aH6 own hl) i (List.mem_range.2 hi)
 ·exact List.all_eq_true.1 (List.all_eq_true.1 aH5 own hl) i (List.mem_range.2 hi)
theorem aqu {l:List Nat} (h0:l≠[]) {B:Nat} {W:World} {v:Value} (hT:ase W) (hv:a0h B W v l) : ∃ σ m,GS σ∧(∀ j,2048≤j→σ j=none)∧@SR S00 P W.heap.size σ m W∧@RS 2048 ⟨m,1024,[],[]⟩ (fsT l)∧@VR S00 σ (aj1 l) v:=by
 letI:Sym:=S00
 haveI hok:a0n:=a5k
 rcases hv with ⟨e,_⟩ | ⟨_,hs⟩
 ·exact absurd e h0
 ·rw [← a9e l] at hs
  have hs':=hs
  obtain ⟨b',o',c',row',e1,_,e2,_⟩:=hs'
  obtain ⟨q,h1,h2⟩:=@aks S00 hok P W.heap.size B gsg mem1 W 3 (agl l) v 1025 a4k (@sr1 S00 hok W hT) hs (af9 l) (a2a (by omega)) (by omega) rfl (fun b o n c hvv j p hj hp hpb=>by
   rw [abr] at hj
   by_cases hj0:j=0
   ·subst hj0
    have hp0:p.b=0:=by cases hp;rfl
    rw [e1] at hvv
    injection hvv with hvv
    injection hvv with hvv
    injection hvv with hb
    obtain ⟨c0,t1,_⟩:=hT
    rw [hp0] at hpb
    rw [hb,← hpb,t1] at e2
    injection e2 with e2
    injection e2 with _ e2
    revert e2
    decide
   ·rw [if_neg hj0] at hj
    exact hj rfl)
  refine ⟨gsg.add 1025 q,_,a8t.mono (Sg.a6v (a2a (by omega))),fun j hj=>a2w (by omega) (a2a (by omega)),h1,@al1 S00 hok mem1 _ (@rs1 S00 hok) 1025 3 (agl l) (by omega) (ay0 l),?_⟩
  rw [show (agl l).length=l.length from List.length_map _] at h2
  exact h2
theorem ajn {own:List Nat} (hl:own∈a2j) {i:Nat} (hi:i < own.length) {B:Nat} {W:World} {v:Value} (hT:ase W) (hv:a0h B W v own) :
  Calls Tryz.prog 29 #[.agg (a06 4 0 90 v),.int .i64 i] W fun e W' => ∃ w s,e=.returned (.tuple #[.agg (ownRow (own.getD i 0) 4 0 90 2 w (.slice none 0 0)),s,.bool true])∧a0h 0 W' w own∧Below W.heap.size W W':=by
 have h0:=aQa hl hi
 unfold aZo at h0
 split at h0
 ·rename_i t f' he
  simp only [Bool.and_eq_true] at h0
  obtain ⟨h1,h3⟩:=h0
  split at h1
  ·rename_i g hg
   simp only [Bool.and_eq_true] at h1
   obtain ⟨⟨h11,h12⟩,h13⟩:=h1
   obtain ⟨σ,m,hgs,hfr,hsr,hrs,hvr⟩:=aqu (a2h hl) hT hv
   refine (@a3r S00 a5k (@Q.tL S00) (@Q.allL S00 a5k) 4000 29 _ [ae2 own,.i .i64 (.ofNat i)] m _ _ f' σ W #[.agg (a06 4 0 90 v),.int .i64 i] hrs hgs hsr hfr (@aaf S00 a5k _) (@LV.lr S00 σ [ae2 own,.i .i64 (.ofNat i)] [.agg (a06 4 0 90 v),.int .i64 i] ⟨aiy hvr,@VR.i S00 σ _ _,trivial⟩) he).mono fun e W' hd=>?_
   obtain ⟨τ,u,s',hu0,hok,am9,_,ap6,hu,hb⟩:=hd
   obtain ⟨v0,v1,v2,rfl,q0,q1,q2⟩:=@tup3 S00 τ t u hu
   have hok0:=hok 0 (by omega)
   rw [hg] at q0 hok0
   obtain ⟨w,rfl,hw⟩:=@axx S00 τ g own (own.getD i 0) 2 v0 h11 _ rfl h13 q0
   have hb2:v2=.bool true:=by
    have e:=agb h3
    have ha:aa5 (a1d (p4 2) t)=a6g (a1d (p4 2) t):=by
     cases hx:a1d (p4 2) t<;>first | rfl | (rw [hx] at e;simp [a6g] at e)
    rw [ha,e] at q2
    cases q2
    rfl
   subst hb2
   exact ⟨w,v1,hu0,axz h12 (a2h hl) (hok0 5 (by omega)) am9 ap6 hw,hb⟩
  ·cases h1
 ·cases h0
end V
end Go.CE
namespace Go.CE
namespace V
open Go.Proofs Go.Proofs.YtlnlbdfokmhelaaGreatDoor Go.RowKit
set_option maxRecDepth 100000
noncomputable def ari (own:List Nat) (f:QW):AV→Bool
 | .sl (some (k,o)) n _=>gw k&&Nat.beq n own.length&&atv (akd 3 (getM (p4 k) f.m) o n) (agl own)
 | _=>false
theorem aP5 {own:List Nat} {a:AV} {f':QW} {B:Nat} {τ:Sg} {s':CE.St} {W':World} {u:Value} (h:ari own f' a=true) (h0:own≠[]) (hrs:@RS 2048 s' f') (hsr:@SR S00 Tryz.prog B τ s'.mem W') (hv:@VR S00 τ a u):a0h 0 W' u own:=by
 letI:Sym:=S00
 haveI hok':a0n:=a5k
 unfold ari at h
 split at h
 ·rename_i k o n c
  simp only [Bool.and_eq_true] at h
  obtain ⟨⟨h1,h2⟩,h3⟩:=h
  have h2:=Nat.eq_of_beq_eq_true h2
  unfold atv at h3
  split at h3
  ·rename_i mm hb2
   obtain rfl:=a6h h3
   have:=awu (B:=B) (l:=agl own) a4k hrs hsr rfl h1 (h2.trans (List.length_map _).symm) hb2 (af9 own) hv
   rw [a9e] at this
   exact .inr ⟨h0,this⟩
  ·cases h3
 ·cases h
noncomputable def aHm (own:List Nat) (f:QW):Nat→List AV→Option (List (NL×AV))
 | 0,[]=>some []
 | 0,_=>none
 | n+1,l=>match (l.take 62)[29]? with
  | some a=>match ari own f a with
   | true=>match nlA (l.take 62) (own.map ap4) with
    | some x=>match aHm own f n (l.drop 62) with
     | some xs=>some ((x,a) :: xs)
     | none=>none
    | none=>none
   | false=>none
  | none=>none
theorem aHl {own:List Nat} {f:QW}:∀ {n:Nat} {l:List AV} {xs:List (NL×AV)},aHm own f n l=some xs→xs.length=n∧l=(xs.flatMap fun p=>a7c p.1 p.2)∧∀ p∈xs,p.1.cs=own∧ari own f p.2=true:=by
 intro n
 induction n with
 | zero =>
  intro l xs h
  cases l with
  | nil=>cases h;exact ⟨rfl,rfl,fun x hx=>by cases hx⟩
  | cons _ _=>cases h
 | succ n ih =>
  intro l xs h
  unfold aHm at h
  split at h
  ·rename_i a ha
   split at h
   ·rename_i hs
    split at h
    ·rename_i x hx
     split at h
     ·rename_i xs' hxs
      cases h
      obtain ⟨e1,e2,e3⟩:=ih hxs
      obtain ⟨q1,q2,_⟩:=@ar2 S00 _ _ _ _ hx ha
      refine ⟨by rw [List.length_cons,e1],?_,fun y hy=>?_⟩
      ·rw [List.flatMap_cons]
       show l=a7c x a++_
       rw [← q1,← e2,List.take_append_drop]
      ·rcases List.mem_cons.1 hy with rfl | hy
       ·exact ⟨(arn q2).symm,hs⟩
       ·exact e3 y hy
     ·cases h
    ·cases h
   ·cases h
  ·cases h
theorem aGf [Sym] [a0n] {xs:List (NL×AV)} (hx:∀ p∈xs,p.1.ok=true) {B:Nat} {τ:Sg} {s':CE.St} {f':QW} {W':World} {q:P4} {k o n cc:Nat} {u:Value} (hrs:RS 2048 s' f') (hsr:SR Tryz.prog B τ s'.mem W') (hq:q=p4 k) (hn:n=xs.length)
  (hb:akd 48 (getM q f'.m) o (xs.length * 62)=some (xs.flatMap fun p=>a7c p.1 p.2)) (hv:VR τ (.sl (some (k,o)) n cc) u) :
  ∃ cv:Nat→Value,a5h W' u 48 62 xs.length (fun i=>((xs.map fun p=>p.1.ln).getD i a0c |>.let (cv i)).row)∧∀ i (h:i < xs.length),VR τ (xs[i]'h).2 (cv i):=by
 subst hq
 unfold akd at hb
 split at hb
 ·rename_i t m U hm
  split at hb
  ·rename_i hc
   simp only [Bool.and_eq_true] at hc
   have hle:o+xs.length * 62≤m:=Nat.le_of_ble_eq_true hc.1
   have hU:48=U:=Nat.eq_of_beq_eq_true hc.2
   subst hU
   have hl:a07 t o (xs.length * 62)=xs.flatMap fun p=>a7c p.1 p.2:=Option.some.inj hb
   have hR:=hrs.m k
   rw [hm] at hR
   generalize hg:s'.mem.get k=y at hR
   cases hR
   obtain ⟨Q,ob,hQ,hh,cs,hcs,_,h2,h3,h4⟩:=hsr.mr k _ hg
   have h3':Q.d+m≤cs.size:=by simpa [a0q] using h3
   have hz:∀ p∈xs,(a7c p.1 p.2).length=62:=fun p h=>aar (hx p h) p.2
   cases hv with
   | sl _ _ _ _ c' Q' hQ' aWu _ _ =>
    rw [hQ] at hQ';cases hQ'
    have key:∀ i,(hi:i < xs.length)→∃ w,cs.extract (o+Q.d+i * 62) (o+Q.d+i * 62+62)=((xs.map fun p=>p.1.ln).getD i a0c |>.let w).row∧VR τ (xs[i]'hi).2 w:=fun i hi=>by
     have b3u:i * 62+62≤xs.length * 62:=by rw [← Nat.succ_mul];exact Nat.mul_le_mul_right 62 hi
     have hxi:=hx xs[i] (List.getElem_mem hi)
     have hln:(xs.map fun p=>p.1.ln).getD i a0c=xs[i].1.ln:=by rw [List.getD_eq_getElem?_getD,List.getElem?_map,List.getElem?_eq_getElem hi];rfl
     rw [hln]
     refine aIq (NL.adt hxi).2 ⟨?_,fun j a v e1 e2=>?_⟩
     ·rw [aar hxi,Array.size_extract]
      omega
     ·have hj:j < 62:=by
       have:=(List.getElem?_eq_some_iff.1 e1).1
       rwa [aar hxi] at this
      rw [Array.getElem?_extract,if_pos (by omega)] at e2
      refine h4 (o+(i * 62+j)) a v ?_ (by rw [← e2];congr 1;omega)
      rw [a7y t m o (xs.length * 62) (i * 62+j) (by omega) hle,hl,aA0 hz i hi j hj]
      exact e1
    refine ⟨fun i=>if h:i < xs.length then Classical.choose (key i h) else undef,⟨_,c',by rw [hn],fun _=>⟨Q.b,o+Q.d,cs,rfl,by show W'.heap[Q.b]? = _;rw [hh,hcs],fun i hi=>?_⟩⟩,fun i hi=>?_⟩
    ·have b3u:i * 62+62≤xs.length * 62:=by rw [← Nat.succ_mul];exact Nat.mul_le_mul_right 62 hi
     refine ⟨by omega,?_⟩
     dsimp only
     rw [dif_pos hi]
     exact (Classical.choose_spec (key i hi)).1
    ·dsimp only
     rw [dif_pos hi]
     exact (Classical.choose_spec (key i hi)).2
  ·cases hb
 ·cases hb
structure GrP (own:List Nat) (o:Nat) (x:LN):Prop where
 ok:x.Ok
 kind:x.kind=9
 frm:x.frm=o
 mtg:x.mtg=4
 dl:x.dl=90
 cs:x.cs=own
 f5:x.frm < 5
 d5:x.dst < 5
structure CmP (own:List Nat) (x:LN):Prop where
 ok:x.Ok
 kind:x.kind=11
 frm:x.frm=0
 mtg:x.mtg=4
 dl:x.dl=0
 st:x.st=1
 cs:x.cs=own
 d5:x.dst < 5
def GrL (own:List Nat):List Nat→List LN→Prop
 | [],[]=>True
 | o :: os,x :: xs=>GrP own o x∧GrL own os xs
 | _,_=>False
def grB (o:Nat) (x:NL):Bool:=x.ok&&(Nat.beq x.kind 9&&Nat.beq x.frm o&&Nat.beq x.mtg 4&&Nat.beq x.dl 90&&Nat.blt x.frm 5&&Nat.blt x.dst 5&&NL.ok { x with dst:=0 })
def cmB (x:NL):Bool:=x.ok&&(Nat.beq x.kind 11&&Nat.beq x.frm 0&&Nat.beq x.mtg 4&&Nat.beq x.dl 0&&Nat.beq x.st 1&&Nat.blt x.dst 5)
noncomputable def alB:List Nat→List NL→List Nat→Bool
 | [],xs,ms=>match xs with
  | [c]=>cmB c&&Sha.aNp ms fun d=>a7w c.ref d
  | _=>false
 | o :: os,xs,ms=>match xs with
  | x :: xs=>match grB o x with
   | true=>Sha.aNp (NL.enc { x with dst:=0 }) fun d=>alB os xs (ms++(am4 32++d))
   | false=>false
  | []=>false
theorem aWy {own:List Nat} {o:Nat} {x:NL} (h:grB o x=true) (hc:x.cs=own):GrP own o x.ln:=by
 unfold grB at h
 simp only [Bool.and_eq_true] at h
 obtain ⟨h0,⟨⟨⟨⟨⟨⟨h1,h2⟩,h3⟩,h4⟩,h5⟩,h6⟩,h7⟩⟩:=h
 exact ⟨(NL.adt h0).1,Nat.eq_of_beq_eq_true h1,Nat.eq_of_beq_eq_true h2,Nat.eq_of_beq_eq_true h3,Nat.eq_of_beq_eq_true h4,hc,Nat.le_of_ble_eq_true h5,Nat.le_of_ble_eq_true h6⟩
theorem aXz {own:List Nat} {x:NL} (h:cmB x=true) (hc:x.cs=own):CmP own x.ln:=by
 unfold cmB at h
 simp only [Bool.and_eq_true] at h
 obtain ⟨h0,⟨⟨⟨⟨⟨h1,h2⟩,h3⟩,h4⟩,h5⟩,h6⟩⟩:=h
 exact ⟨(NL.adt h0).1,Nat.eq_of_beq_eq_true h1,Nat.eq_of_beq_eq_true h2,Nat.eq_of_beq_eq_true h3,Nat.eq_of_beq_eq_true h4,Nat.eq_of_beq_eq_true h5,hc,Nat.le_of_ble_eq_true h6⟩
theorem au2 (D:List UInt8):(a0j D).map UInt8.ofNat=D:=by
 unfold a0j
 rw [List.map_map]
 conv=>rhs;rw [← List.map_id D]
 exact List.map_congr_left fun a _=>by simp
theorem ai4 {o:Nat} {x:NL} (h:grB o x=true):NL.enc { x with dst:=0 }=a0j (LN.enc (LN.to x.ln 0)):=by
 unfold grB at h
 simp only [Bool.and_eq_true] at h
 exact (NL.aea h.2.2).symm
theorem aY6 {own:List Nat}:∀ {os:List Nat} {xs:List NL} {ms:List Nat} {M:List UInt8},alB os xs ms=true→ms=a0j M→(∀ x∈xs,x.cs=own)→∃ gs c,xs.map NL.ln=gs ++ [c]∧GrL own os gs∧CmP own c∧c.ref=a3t (M++(ajs (gs.map (a2k 0))).flatten):=by
 intro os
 induction os with
 | nil =>
  intro xs ms M h hm hc
  unfold alB at h
  split at h
  ·rename_i c
   rw [Bool.and_eq_true,hm,acg] at h
   have hr:=@afg S00 a5k _ _ h.2
   refine ⟨[],c.ln,rfl,trivial,aXz h.1 (hc c (List.mem_cons_self ..)),?_⟩
   show c.ref.map UInt8.ofNat=_
   rw [hr,au2]
   simp [ajs]
  ·cases h
 | cons o os ih =>
  intro xs ms M h hm hc
  unfold alB at h
  split at h
  ·rename_i x xs
   split at h
   ·rename_i hg
    rw [ai4 hg,acg] at h
    obtain ⟨gs,c,e1,e2,e3,e4⟩:=ih (M:=M++(le8 32++a2k 0 x.ln)) h (by rw [hm,a3w,a3w,ae5];rfl) (fun y hy=>hc y (List.mem_cons_of_mem _ hy))
    refine ⟨x.ln :: gs,c,by rw [List.map_cons,e1];rfl,⟨aWy hg (hc x (List.mem_cons_self ..)),e2⟩,e3,?_⟩
    rw [e4]
    congr 1
    have hl:(a2k 0 x.ln).length=32:=a4n _ _
    simp only [ajs,List.map_cons,List.flatMap_cons,List.flatten_append,List.flatten_cons,List.flatten_nil,hl,List.append_assoc,List.append_nil]
   ·cases h
  ·cases h
theorem aY5:∀ {os:List Nat} {xs:List NL} {ms:List Nat},alB os xs ms=true→∀ x∈xs,x.ok=true:=by
 intro os
 induction os with
 | nil =>
  intro xs ms h x hx
  unfold alB at h
  split at h
  ·rename_i c
   rw [Bool.and_eq_true] at h
   have h:=h.1
   unfold cmB at h
   rw [Bool.and_eq_true] at h
   rw [List.mem_singleton.1 hx]
   exact h.1
  ·cases h
 | cons o os ih =>
  intro xs ms h y hy
  unfold alB at h
  split at h
  ·rename_i x xs
   split at h
   ·rename_i hg
    rw [ai4 hg,acg] at h
    rcases List.mem_cons.1 hy with rfl | hy
    ·unfold grB at hg
     rw [Bool.and_eq_true] at hg
     exact hg.1
    ·exact ih h y hy
   ·cases h
  ·cases h
noncomputable def isComp (own:List Nat) (r:Ans):Bool:=match r with
 | some (.t t 2,f)=>avB (a6g (a1d (p4 1) t)) (.b true)&&(match a1d (p4 0) t with
  | .s q _ o n _=>Nat.beq n (own.length+1)&&(match akd 48 (getM q f.m) o ((own.length+1) * 62) with
   | some l=>match aHm own f (own.length+1) l with
    | some xs=>alB own (xs.map (·.1)) []
    | none=>false
   | none=>false)
  | _=>false)
 | _=>false
end V
end Go.CE
