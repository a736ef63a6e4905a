/-
  complete reckoned by the kernel.
-/
import Derived.Test.YtlnlbdfokmhelaaGreatDoorPkRo
import Derived.Test.YtlnlbdfokmhelaaGreatDoorPkCqA
set_option linter.unusedSectionVars false
set_option linter.constructorNameAsVariable false
set_option linter.unusedVariables false
set_option linter.unusedSimpArgs false
namespace Go.CE
namespace V
open Go.Proofs Go.Proofs.YtlnlbdfokmhelaaGreatDoor Go.RowKit
set_option maxRecDepth 100000
theorem auo:([[1,2,3]]:List (List Nat)).all (fun own=>(List.range own.length).all fun i=>isComp own (runT 37 [ae2 own,.i .i64 (.ofNat i)] own))=true:=by decide +kernel
end V
end Go.CE
namespace Go.CE
namespace V
open Go.Proofs Go.Proofs.YtlnlbdfokmhelaaGreatDoor Go.RowKit
set_option maxRecDepth 100000
theorem aun:([[1,2,4]]:List (List Nat)).all (fun own=>(List.range own.length).all fun i=>isComp own (runT 37 [ae2 own,.i .i64 (.ofNat i)] own))=true:=by decide +kernel
end V
end Go.CE
namespace Go.CE
namespace V
open Go.Proofs Go.Proofs.YtlnlbdfokmhelaaGreatDoor Go.RowKit
set_option maxRecDepth 100000
theorem aum:([[1,3,4]]:List (List Nat)).all (fun own=>(List.range own.length).all fun i=>isComp own (runT 37 [ae2 own,.i .i64 (.ofNat i)] own))=true:=by decide +kernel
end V
end Go.CE
namespace Go.CE
namespace V
open Go.Proofs Go.Proofs.YtlnlbdfokmhelaaGreatDoor Go.RowKit
set_option maxRecDepth 100000
theorem aul:([[2,3,4]]:List (List Nat)).all (fun own=>(List.range own.length).all fun i=>isComp own (runT 37 [ae2 own,.i .i64 (.ofNat i)] own))=true:=by decide +kernel
end V
end Go.CE
namespace Go.CE
namespace V
open Go.Proofs Go.Proofs.YtlnlbdfokmhelaaGreatDoor Go.RowKit
theorem aAd {own:List Nat} (hl:own∈a2j) {i:Nat} (hi:i < own.length):isComp own (runT 37 [ae2 own,.i .i64 (.ofNat i)] own)=true:=by
 have key:∀ (s:List (List Nat)),s.all (fun own=>(List.range own.length).all fun i=>isComp own (runT 37 [ae2 own,.i .i64 (.ofNat i)] own))=true→own∈s→isComp own (runT 37 [ae2 own,.i .i64 (.ofNat i)] own)=true:=fun s h hm =>
  List.all_eq_true.1 (List.all_eq_true.1 h own hm) i (List.mem_range.2 hi)
 have hm:own∈([[1],[2],[3],[4],[1,2]]:List (List Nat))∨own∈([[1,3],[1,4],[2,3]]:List (List Nat))∨own∈([[2,4],[3,4]]:List (List Nat))∨own∈([[1,2,3]]:List (List Nat))∨own∈([[1,2,4]]:List (List Nat))∨own∈([[1,3,4]]:List (List Nat))∨own∈([[2,3,4]]:List (List Nat)):=(by decide:∀ l∈a2j,l∈([[1],[2],[3],[4],[1,2]]:List (List Nat))∨l∈([[1,3],[1,4],[2,3]]:List (List Nat))∨l∈([[2,4],[3,4]]:List (List Nat))∨l∈([[1,2,3]]:List (List Nat))∨l∈([[1,2,4]]:List (List Nat))∨l∈([[1,3,4]]:List (List Nat))∨l∈([[2,3,4]]:List (List Nat))) own hl
 rcases hm with h | h | h | h | h | h | h
 ·exact key _ auq h
 ·exact key _ aup h
 ·exact key _ comp_runs7 h
 ·exact key _ auo h
 ·exact key _ aun h
 ·exact key _ aum h
 ·exact key _ aul h
end V
end Go.CE
namespace Go.CE
namespace V
open Go.Proofs Go.Proofs.YtlnlbdfokmhelaaGreatDoor Go.RowKit
set_option maxRecDepth 100000
theorem GrL.len {own:List Nat}:∀ {os:List Nat} {gs:List LN},GrL own os gs→gs.length=os.length
 | [],[],_=>rfl
 | [],_ :: _,h=>h.elim
 | _ :: _,[],h=>h.elim
 | _ :: os,_ :: gs,h=>by simp [GrL.len (os:=os) (gs:=gs) h.2]
theorem GrL.mem {own:List Nat}:∀ {os:List Nat} {gs:List LN},GrL own os gs→∀ x∈gs,∃ o∈os,GrP own o x
 | [],[],_,x,hx=>by cases hx
 | [],_ :: _,h,_,_=>h.elim
 | _ :: _,[],h,_,_=>h.elim
 | o :: os,y :: gs,h,x,hx=>by
  rcases List.mem_cons.1 hx with rfl | hx
  ·exact ⟨o,List.mem_cons_self ..,h.1⟩
  ·obtain ⟨o',h1,h2⟩:=GrL.mem (os:=os) (gs:=gs) h.2 x hx
   exact ⟨o',List.mem_cons_of_mem _ h1,h2⟩
theorem GrL.has {own:List Nat}:∀ {os:List Nat} {gs:List LN},GrL own os gs→∀ o∈os,∃ x∈gs,GrP own o x
 | [],[],_,o,ho=>by cases ho
 | [],_ :: _,h,_,_=>h.elim
 | _ :: _,[],h,_,_=>h.elim
 | q :: os,y :: gs,h,o,ho=>by
  rcases List.mem_cons.1 ho with rfl | ho
  ·exact ⟨y,List.mem_cons_self ..,h.1⟩
  ·obtain ⟨x,h1,h2⟩:=GrL.has (os:=os) (gs:=gs) h.2 o ho
   exact ⟨x,List.mem_cons_of_mem _ h1,h2⟩
theorem GrL.one {own:List Nat}:∀ {os:List Nat} {gs:List LN},GrL own os gs→os.Nodup→∀ a b,a∈gs→b∈gs→a.frm=b.frm→a=b
 | [],[],_,_,a,b,ha,_,_=>by cases ha
 | [],_ :: _,h,_,_,_,_,_,_=>h.elim
 | _ :: _,[],h,_,_,_,_,_,_=>h.elim
 | q :: os,y :: gs,h,hn,a,b,ha,hb,e=>by
  have hn':=List.nodup_cons.1 hn
  rcases List.mem_cons.1 ha with ea | ha'
  ·rcases List.mem_cons.1 hb with eb | hb'
   ·rw [ea,eb]
   ·obtain ⟨o,ho,hp⟩:=GrL.mem (os:=os) (gs:=gs) h.2 b hb'
    exact absurd (show q∈os from by rw [← h.1.frm,← ea,e,hp.frm];exact ho) hn'.1
  ·rcases List.mem_cons.1 hb with eb | hb'
   ·obtain ⟨o,ho,hp⟩:=GrL.mem (os:=os) (gs:=gs) h.2 a ha'
    exact absurd (show q∈os from by rw [← h.1.frm,← eb,← e,hp.frm];exact ho) hn'.1
   ·exact GrL.one (os:=os) (gs:=gs) h.2 hn'.2 a b ha' hb' e
theorem GrL.nd {own:List Nat}:∀ {os:List Nat} {gs:List LN},GrL own os gs→os.Nodup→gs.Nodup
 | [],[],_,_=>List.nodup_nil
 | [],_ :: _,h,_=>h.elim
 | _ :: _,[],h,_=>h.elim
 | q :: os,y :: gs,h,hn=>by
  have hn':=List.nodup_cons.1 hn
  refine List.nodup_cons.2 ⟨fun hy=>?_,GrL.nd (os:=os) (gs:=gs) h.2 hn'.2⟩
  obtain ⟨o,ho,hp⟩:=GrL.mem h.2 y hy
  exact hn'.1 (by rw [← h.1.frm,hp.frm];exact ho)
theorem aly {own:List Nat} {p:Go.Rv.a2c} {K:List LN} (hK:∀ x∈K,x.kind=9→∀ o,∀ y,y∈K→GrP own o y→x.frm=o→x=y):∀ {os:List Nat} {gs:List LN},GrL own os gs→(∀ g∈gs,g∈K)→p.marks K os=some (gs.map p.mark)
 | [],[],_,_=>rfl
 | [],_ :: _,h,_=>h.elim
 | _ :: _,[],h,_=>h.elim
 | o :: os,y :: gs,h,hm=>by
  have hy:=hm y (List.mem_cons_self ..)
  have ih:=aly (p:=p) hK (os:=os) (gs:=gs) h.2 fun g hg=>hm g (List.mem_cons_of_mem _ hg)
  have hf:Go.Rv.a2c.first K o=some y:=by
   unfold Go.Rv.a2c.first
   cases hq:K.find? fun x=>decide (x.kind=9)&&decide (x.frm=o) with
   | none =>
    have:=List.find?_eq_none.1 hq y hy
    simp [h.1.kind,h.1.frm] at this
   | some z =>
    have h3:=List.find?_some hq
    have h4:=List.mem_of_find?_eq_some hq
    simp only [Bool.and_eq_true,decide_eq_true_eq] at h3
    rw [hK z h4 h3.1 o y hy h.1 h3.2]
  show (match Go.Rv.a2c.first K o,p.marks K os with
   | some x,some r=>some (p.mark x :: r)
   | _,_=>none)=_
  rw [hf,ih]
  rfl
theorem aAe {own:List Nat} (hl:own∈a2j) {gs:List LN} {c:LN} (hg:GrL own own gs) (hc:CmP own c) (hr:c.ref=agx (gs.map (a2k 0))):Go.Rv.Full (a2s 4 0 90 own) (gs ++ [c]):=by
 have hnd:own.Nodup:=(by decide:∀ l∈a2j,l.Nodup) own hl
 have hmem:∀ l,l∈gs ++ [c]→(∃ o∈own,GrP own o l∧l∈gs)∨l=c:=fun l h=>by
  rcases List.mem_append.1 h with h | h
  ·obtain ⟨o,ho,hp⟩:=hg.mem l h
   exact .inl ⟨o,ho,hp,h⟩
  ·exact .inr (List.mem_singleton.1 h)
 refine ⟨fun l h=>?_,fun l h hk=>?_,fun l h hk=>?_,fun o ho=>?_,fun a b ha hb ka kb e=>?_,fun a b ha hb ka kb=>?_,⟨c,by simp,hc.kind⟩,fun d hd hk=>?_,?_⟩
 ·rcases hmem l h with ⟨o,_,hp,_⟩ | rfl
  ·exact .inl hp.kind
  ·exact .inr hc.kind
 ·rcases hmem l h with ⟨o,ho,hp,_⟩ | rfl
  ·unfold Go.Rv.a2c.answer Go.Rv.a2c.a6n a2s
   simp [hp.kind,hp.mtg,hp.cs,hp.dl,hp.frm,ho]
  ·exact absurd (hc.kind.symm.trans hk) (by decide)
 ·rcases hmem l h with ⟨o,ho,hp,_⟩ | rfl
  ·exact absurd (hp.kind.symm.trans hk) (by decide)
  ·refine ⟨hc.frm,?_⟩
   unfold Go.Rv.a2c.a6n a2s
   simp [hc.kind,hc.mtg,hc.cs]
 ·obtain ⟨x,hx,hp⟩:=hg.has o ho
  exact ⟨x,List.mem_append_left _ hx,hp.kind,hp.frm⟩
 ·rcases hmem a ha with ⟨o,_,hp,h1⟩ | rfl
  ·rcases hmem b hb with ⟨o',_,hp',h2⟩ | rfl
   ·exact hg.one hnd a b h1 h2 e
   ·exact absurd (hc.kind.symm.trans kb) (by decide)
  ·exact absurd (hc.kind.symm.trans ka) (by decide)
 ·rcases hmem a ha with ⟨o,_,hp,h1⟩ | rfl
  ·exact absurd (hp.kind.symm.trans ka) (by decide)
  ·rcases hmem b hb with ⟨o',_,hp',h2⟩ | rfl
   ·exact absurd (hp'.kind.symm.trans kb) (by decide)
   ·rfl
 ·rcases hmem d hd with ⟨o,_,hp,h1⟩ | rfl
  ·exact absurd (hp.kind.symm.trans hk) (by decide)
  ·refine ⟨hc.st,fun K hK hKg=>?_⟩
   unfold Go.Rv.a2c.aBl
   have:=aly (own:=own) (p:=a2s 4 0 90 own) (K:=K) (fun x hx hk9 o y hy hp e=>?_) hg (fun g h=>hKg g (List.mem_append_left _ h) (by obtain ⟨o,_,hp⟩:=hg.mem g h;exact hp.kind))
   ·show ((a2s 4 0 90 own).marks K own).map _=_
    rw [this,hr]
    rfl
   ·have hx':=hmem x (hK x hx)
    have hy':=hmem y (hK y hy)
    rcases hx' with ⟨o1,_,hp1,h1⟩ | rfl
    ·rcases hy' with ⟨o2,_,hp2,h2⟩ | rfl
     ·exact hg.one hnd x y h1 h2 (e.trans hp.frm.symm)
     ·exact absurd (hc.kind.symm.trans hp.kind) (by decide)
    ·exact absurd (hc.kind.symm.trans hk9) (by decide)
 ·refine List.nodup_append.2 ⟨hg.nd hnd,List.nodup_cons.2 ⟨List.not_mem_nil,List.nodup_nil⟩,fun a ha b hb e=>?_⟩
  obtain ⟨o,_,hp⟩:=hg.mem a ha
  rw [e,List.mem_singleton.1 hb] at hp
  exact absurd (hp.kind.symm.trans hc.kind) (by decide)
theorem GrP.any {own:List Nat} {o:Nat} {y:LN} (h:GrP own o y):ava y:=fun q h1 h2=>by
 have hr:=h.ok.ref
 have hln:=h.ok.len
 have e:=h.kind
 have he:0 < (LN.enc y).length∧(LN.enc y).length≤1048576:=by
  unfold LN.enc;rw [e];simp [LN.hd,a2y,cl8,hr];try omega
 exact ⟨h.ok,fun e=>by omega,h.f5,h.d5,⟨h1,h2⟩,he.1,he.2,by have:=h.dl;omega⟩
theorem CmP.any {own:List Nat} {y:LN} (h:CmP own y):ava y:=fun q h1 h2=>by
 have hr:=h.ok.ref
 have hln:=h.ok.len
 have e:=h.kind
 have he:0 < (LN.enc y).length∧(LN.enc y).length≤1048576:=by
  unfold LN.enc;rw [e];simp [LN.hd,a2y,cl8,hr];try omega
 exact ⟨h.ok,fun e=>by omega,by have:=h.frm;omega,h.d5,⟨h1,h2⟩,he.1,he.2,by have:=h.dl;omega⟩
theorem agz {own:List Nat} (hl:own∈a2j) {i:Nat} (hi:i < own.length) {B:Nat} {W:World} {v:Value} (hT:ase W) (hv:a0h B W v own) :
  Calls Tryz.prog 37 #[.agg (a06 4 0 90 v),.int .i64 i] W fun e W' => ∃ lv gs c,e=.returned (.tuple #[lv,.bool true])∧a4w 0 W' lv (gs ++ [c])∧GrL own own gs∧CmP own c∧c.ref=agx (gs.map (a2k 0))∧Below W.heap.size W W':=by
 have h0:=aAd hl hi
 unfold isComp at h0
 split at h0
 ·rename_i t f' he
  rw [Bool.and_eq_true] at h0
  obtain ⟨h1,h2⟩:=h0
  split at h2
  ·rename_i q k o n cc hs
   rw [Bool.and_eq_true] at h2
   obtain ⟨h3,h4⟩:=h2
   split at h4
   ·rename_i l hb
    split at h4
    ·rename_i xs hxs
     obtain ⟨e1,e2,e3⟩:=aHl hxs
     have hxc:∀ x∈xs.map (·.1),x.cs=own:=fun x hx=>by
      obtain ⟨p,hp,rfl⟩:=List.mem_map.1 hx
      exact (e3 p hp).1
     have hxo:∀ p∈xs,p.1.ok=true:=fun p hp=>aY5 h4 p.1 (List.mem_map.2 ⟨p,hp,rfl⟩)
     obtain ⟨gs,c,g1,g2,g3,g4⟩:=aY6 (M:=[]) h4 rfl hxc
     obtain ⟨σ,m,hgs,hfr,hsr,hrs,hvr⟩:=aqu (a2h hl) hT hv
     refine (@a3r S00 a5k (@Q.tL S00) (@Q.allL S00 a5k) 4000 37 _ [ae2 own,.i .i64 (.ofNat i)] m _ _ f' σ W #[.agg (a06 4 0 90 v),.int .i64 i] hrs hgs hsr hfr (@aaf S00 a5k _) (@LV.lr S00 σ [ae2 own,.i .i64 (.ofNat i)] [.agg (a06 4 0 90 v),.int .i64 i] ⟨aiy hvr,@VR.i S00 σ _ _,trivial⟩) he).mono fun e W' hd=>?_
     obtain ⟨τ,u,s',hu0,hok,am9,_,ap6,hu,hbl⟩:=hd
     obtain ⟨v0,v1,rfl,q0,q1⟩:=@aSs S00 τ t u hu
     have hok0:=hok 0 (by omega)
     rw [hs] at q0 hok0
     have hb1:v1=.bool true:=by
      have e:=agb h1
      have ha:aa5 (a1d (p4 1) t)=a6g (a1d (p4 1) t):=by
       cases hx:a1d (p4 1) t<;>first | rfl | (rw [hx] at e;simp [a6g] at e)
      rw [ha,e] at q1
      cases q1
      rfl
     subst hb1
     have hn:=Nat.eq_of_beq_eq_true h3
     have hq:q=p4 k:=hok0
     rw [← e1,e2] at hb
     obtain ⟨cv,r1,r2⟩:=@aGf S00 a5k xs hxo W.heap.size τ s' f' W' q k o n cc v0 am9 ap6 hq (hn.trans e1.symm) hb q0
     have hm:(xs.map fun p=>p.1.ln)=gs ++ [c]:=by rw [← g1,List.map_map];rfl
     have hlen:xs.length=(gs ++ [c]).length:=by rw [← hm,List.length_map]
     rw [hm,hlen] at r1
     refine ⟨v0,gs,c,hu0,⟨cv,r1,fun j hj=>?_⟩,g2,g3,?_,hbl⟩
     ·have hjx:j < xs.length:=by omega
      have hcs:((gs ++ [c]).getD j a0c).cs=own:=by
       rw [← hm,List.getD_eq_getElem?_getD,List.getElem?_map,List.getElem?_eq_getElem hjx]
       exact (e3 _ (List.getElem_mem hjx)).1
      rw [hcs]
      exact aP5 (B:=W.heap.size) (e3 _ (List.getElem_mem hjx)).2 (a2h hl) am9 ap6 (r2 j hjx)
     ·rw [g4,List.nil_append]
      unfold agx
      rfl
    ·cases h4
   ·cases h4
  ·cases h2
 ·cases h0
end V
end Go.CE
