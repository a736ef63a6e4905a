/-
  Letters of another reservation: Hold, Refuse and Right for the meeting 5, reckoned by the kernel over the lists of owners.
-/
import Derived.Test.YtlnlbdfokmhelaaGreatDoorPkRm
set_option linter.unusedSectionVars false
set_option linter.constructorNameAsVariable false
set_option linter.unusedVariables false
set_option linter.unusedSimpArgs false
namespace Go.CE
namespace V
namespace M5
open Go.Proofs Go.Proofs.YtlnlbdfokmhelaaGreatDoor Go.RowKit
set_option maxRecDepth 100000
def pctA5 (l:List Nat):AV:=.g [.i .i64 (.ofNat 5),.i .i64 (.ofNat 0),.i .i64 (.ofNat 90),bsz l]
theorem pctA_vr5 {σ:Sg} {l:List Nat} {v:Value} (h:@VR S00 σ (bsz l) v):@VR S00 σ (pctA5 l) (.agg (ah6 5 0 90 v)):=by
 letI:Sym:=S00
 rw [← bCt]
 exact LR.g (LV.lr (σ:=σ) (l:=[.i .i64 (.ofNat 5),.i .i64 (.ofNat 0),.i .i64 (.ofNat 90),bsz l]) (m:=[.int .i64 (5:Nat),.int .i64 (0:Nat),.int .i64 (90:Nat),v]) ⟨VR.i _ _,VR.i _ _,VR.i _ _,h,trivial⟩)
def holdNL5 (own:List Nat) (me:Nat):NL:=⟨8,0,me,5,0,90,0,own,List.replicate 32 0⟩
structure LP5 (kind me:Nat) (own:List Nat) (x:LN):Prop where
 ok:x.Ok
 kind:x.kind=kind
 frm:x.frm=me
 dst:x.dst < 5
 mtg:x.mtg=5
 cs:x.cs=own
 dl:x.dl≤90
def lpB5 (kind me:Nat) (x:NL):Bool:=x.ok&&(Nat.beq x.kind kind&&Nat.beq x.frm me&&Nat.blt x.dst 5&&Nat.beq x.mtg 5&&Nat.ble x.dl 90)
theorem lpB_of5 {kind me:Nat} {own:List Nat} {x:NL} (h:lpB5 kind me x=true) (hc:x.cs=own):LP5 kind me own x.ln:=by
 unfold lpB5 at h
 simp only [Bool.and_eq_true] at h
 obtain ⟨h0,⟨⟨⟨h1,h2⟩,h3⟩,h4⟩,h5⟩:=h
 exact ⟨(NL.bik h0).1,Nat.eq_of_beq_eq_true h1,Nat.eq_of_beq_eq_true h2,Nat.le_of_ble_eq_true h3,Nat.eq_of_beq_eq_true h4,hc,Nat.le_of_ble_eq_true h5⟩
noncomputable def isLts5 (kind me:Nat) (own:List Nat) (v:FV) (f:QW):Bool:=match v with
 | .s q _ o n _=>Nat.beq n own.length&&byy (bpf 3 (getM (p4 1025) f.m) 0 own.length) (blm own)&&(match bpf 48 (getM q f.m) o (own.length * 62) with
  | some l=>match bN4 own own.length l with
   | some xs=>xs.all (lpB5 kind me)
   | none=>false
  | none=>false)
 | _=>false
theorem lts_of5 {kind me:Nat} {own:List Nat} {v:FV} {f':QW} {B:Nat} {τ:Sg} {s':CE.St} {W':World} {u:Value} (h:isLts5 kind me own v f' = true) (hok:okG v) (h0:own≠[]) (hrs:@RS 2048 s' f') (hsr:@SR S00 Tryz.prog B τ s'.mem W') (hv:@VR S00 τ (bfc v) u) :
  ∃ (g:Nat→LN) (cv:Nat→Value),bbp W' u 48 62 own.length (fun i=>((g i).let (cv i)).row)∧(∀ i,i < own.length→LP5 kind me own (g i))∧∀ i,i < own.length→as1 0 W' (cv i) own:=by
 letI:Sym:=S00
 haveI hok':avd:=bax
 unfold isLts5 at h
 split at h
 ·rename_i q k o n c
  simp only [Bool.and_eq_true] at h
  obtain ⟨⟨h1,h2⟩,h3⟩:=h
  have h1:=Nat.eq_of_beq_eq_true h1
  unfold byy at h2
  split at h2
  ·rename_i mm hb2
   obtain rfl:=bbq h2
   split at h3
   ·rename_i l hb
    split at h3
    ·rename_i xs hxs
     obtain ⟨e1,e2,e3⟩:=bN3 hxs
     subst e2
     have hx:∀ x∈xs,lpB5 kind me x=true:=fun x hx=>List.all_eq_true.1 h3 x hx
     have hq:q=p4 k:=hok
     rw [← e1] at hb
     obtain ⟨cv,q1,q2⟩:=bV8 (B:=B) (c:=bsz own) (u:=u) (cc:=c) (fun x h=>by
      have:=hx x h
      unfold lpB5 at this
      rw [Bool.and_eq_true] at this
      exact this.1) hrs hsr hq (h1.trans e1.symm) hb hv
     rw [e1] at q1 q2
     refine ⟨fun i=>(xs.map NL.ln).getD i aum,cv,q1,fun i hi=>?_,fun i hi=>.inr ⟨h0,?_⟩⟩
     ·have hi':i < xs.length:=by omega
      have:(xs.map NL.ln).getD i aum=xs[i].ln:=by rw [List.getD_eq_getElem?_getD,List.getElem?_map,List.getElem?_eq_getElem hi'];rfl
      dsimp only
      rw [this]
      exact lpB_of5 (hx _ (List.getElem_mem hi')) (e3 _ (List.getElem_mem hi'))
     ·have:=bBt (B:=B) (l:=blm own) ba6 hrs hsr rfl (rfl:gw 1025=true) (show own.length=(blm own).length from (List.length_map _).symm) hb2 (bk6 own) (q2 i hi)
      rwa [bei] at this
    ·cases h3
   ·cases h3
  ·cases h2
 ·cases h
noncomputable def isHold5 (own:List Nat) (me:Nat) (r:Ans):Bool:=match r with
 | some (.t t 3,f)=>(match aRb (p4 0) t with
  | .g g 7=>avL (ajn g 0 5) [.i .i64 (.ofNat me),.i .i64 (.ofNat 5),.i .i64 (.ofNat 0),.i .i64 (.ofNat 90),.i .i64 (.ofNat 2)]&&bx6 own (bbo (aRb (p4 5) g))&&avB (bbo (aRb (p4 6) g)) (.sl none 0 0)
  | _=>false)&&isLts5 9 me own (aRb (p4 1) t) f&&avB (bbo (aRb (p4 2) t)) (.i .i64 (.ofNat 0))
 | _=>false
theorem hold_runs5:b95.all (fun own=>own.all fun me=>isHold5 own me (bO1 tQ 99 [.i .i64 (.ofNat me),.g (bcg (holdNL5 own me) (bsz own))] own))=true:=by decide +kernel
theorem own_row5 [Sym] {τ:Sg} {g:FV} {own:List Nat} {me ph:Nat} {u:Value} (h1:avL (ajn g 0 5) [.i .i64 (.ofNat me),.i .i64 (.ofNat 5),.i .i64 (.ofNat 0),.i .i64 (.ofNat 90),.i .i64 (.ofNat ph)]=true) {c:AV} (h2:bbo (aRb (p4 5) g)=c) (h3:avB (bbo (aRb (p4 6) g)) (.sl none 0 0)=true) (hv:VR τ (bfc (.g g 7)) u) :
  ∃ w,u=.agg (ownRow me 5 0 90 ph w (.slice none 0 0))∧VR τ c w:=by
 have e1:=bbq h1
 have e3:=bl9 h3
 have ha:bfc (FV.g g 7)=.g ([.i .i64 (.ofNat me),.i .i64 (.ofNat 5),.i .i64 (.ofNat 0),.i .i64 (.ofNat 90),.i .i64 (.ofNat ph)] ++ [c,.sl none 0 0]):=by
  rw [← e1,← h2,← e3]
  rfl
 rw [ha] at hv
 obtain ⟨cc,rfl,hcc⟩:=hv.buc
 obtain ⟨v0,e0,hv0⟩:=hcc.at (i:=0) rfl
 obtain ⟨v1,e1,hv1⟩:=hcc.at (i:=1) rfl
 obtain ⟨v2,e2,hv2⟩:=hcc.at (i:=2) rfl
 obtain ⟨v3,e3,hv3⟩:=hcc.at (i:=3) rfl
 obtain ⟨v4,e4,hv4⟩:=hcc.at (i:=4) rfl
 obtain ⟨v5,e5,hv5⟩:=hcc.at (i:=5) rfl
 obtain ⟨v6,e6,hv6⟩:=hcc.at (i:=6) rfl
 cases hv0;cases hv1;cases hv2;cases hv3;cases hv4;cases hv6
 refine ⟨v5,?_,hv5⟩
 have hs:cc.size=7:=hcc.len.symm
 unfold ownRow
 congr 1
 apply Array.ext
 ·simpa using hs
 ·intro i h3 h4
  rcases (show i=0∨i=1∨i=2∨i=3∨i=4∨i=5∨i=6 by omega) with rfl | rfl | rfl | rfl | rfl | rfl | rfl
  ·simpa using (Array.getElem?_eq_some_iff.1 e0).2
  ·simpa using (Array.getElem?_eq_some_iff.1 e1).2
  ·simpa using (Array.getElem?_eq_some_iff.1 e2).2
  ·simpa using (Array.getElem?_eq_some_iff.1 e3).2
  ·simpa using (Array.getElem?_eq_some_iff.1 e4).2
  ·simpa using (Array.getElem?_eq_some_iff.1 e5).2
  ·simpa using (Array.getElem?_eq_some_iff.1 e6).2
def holdLN5 (own:List Nat) (me:Nat):LN:=⟨8,0,me,5,0,90,0,own,by0⟩
theorem hold_ln5 (own:List Nat) (me:Nat):(holdNL5 own me).ln=holdLN5 own me:=by
 unfold NL.ln holdNL5 holdLN5 by0
 rw [List.map_replicate]
 rfl
theorem hold_vr5 {σ:Sg} {own:List Nat} {me:Nat} {v:Value} (h:@VR S00 σ (bsz own) v):@VR S00 σ (.g (bcg (holdNL5 own me) (bsz own))) (.agg (LN.let (holdLN5 own me) v).row):=by
 rw [← hold_ln5]
 exact @bkc S00 bax σ (holdNL5 own me) (fun n hn=>by
  rw [List.eq_of_mem_replicate hn];decide) (bsz own) v h
theorem hold_calls5 {own:List Nat} (hl:own∈b95) {me:Nat} (hm:me∈own) {B:Nat} {W:World} {v:Value} (hv:as1 B W v own) :
  Calls Tryz.prog 99 #[.int .i64 me,.agg (LN.let (holdLN5 own me) v).row] W fun e W' => ∃ w s,e=.returned (.tuple #[.agg (ownRow me 5 0 90 2 w (.slice none 0 0)),s,.int .i64 0])∧w.oneCell' = true∧(∃ (g:Nat→LN) (cv:Nat→Value),bbp W' s 48 62 own.length (fun i=>((g i).let (cv i)).row)∧(∀ i,i < own.length→LP5 9 me own (g i))∧∀ i,i < own.length→as1 0 W' (cv i) own)∧Below W.heap.size W W':=by
 have h0:=List.all_eq_true.1 (List.all_eq_true.1 hold_runs5 own hl) me hm
 unfold isHold5 at h0
 split at h0
 ·rename_i t f' he
  simp only [Bool.and_eq_true] at h0
  obtain ⟨⟨h1,h2⟩,h3⟩:=h0
  split at h1
  ·rename_i g hg
   simp only [Bool.and_eq_true] at h1
   obtain ⟨⟨h11,h12⟩,h13⟩:=h1
   refine (bo3 (@cao S00 bax) (aZ2 hl) hv (fun σ h=>?_) he).mono fun e W' ⟨τ,u,s',hu0,hok,hrs,hsr,hu,hb⟩=>?_
   ·exact @LV.lr S00 σ [.i .i64 (.ofNat me),.g (bcg (holdNL5 own me) (bsz own))] [.int .i64 me,.agg (LN.let (holdLN5 own me) v).row] ⟨@VR.i S00 σ _ _,hold_vr5 h,trivial⟩
   ·obtain ⟨v0,v1,v2,rfl,q0,q1,q2⟩:=@tup3 S00 τ t u hu
    rw [hg] at q0
    obtain ⟨w,rfl,hw⟩:=@own_row5 S00 τ g own me 2 v0 h11 _ (br6 h12) h13 q0
    obtain rfl:=@bH0 S00 τ _ _ _ _ h3 (bsy h3) q2
    refine ⟨w,v1,hu0,?_,lts_of5 h2 (hok 1 (by omega)) (aZ2 hl) hrs hsr q1,hb⟩
    cases hw
    rfl
  ·cases h1
 ·cases h0
noncomputable def isRef5 (own:List Nat) (me:Nat) (r:Ans):Bool:=match r with
 | some (.t t 2,f)=>isLts5 10 me own (aRb (p4 0) t) f&&avB (bbo (aRb (p4 1) t)) (.i .i64 (.ofNat 0))
 | _=>false
theorem refuse_runs5:b95.all (fun own=>own.all fun me=>isRef5 own me (bO1 tQ 100 [.i .i64 (.ofNat me),.g (bcg (holdNL5 own me) (bsz own)),.i .i64 (.ofNat 15)] own))=true:=by decide +kernel
theorem refuse_calls5 {own:List Nat} (hl:own∈b95) {me:Nat} (hm:me∈own) {B:Nat} {W:World} {v:Value} (hv:as1 B W v own) :
  Calls Tryz.prog 100 #[.int .i64 me,.agg (LN.let (holdLN5 own me) v).row,.int .i64 15] W fun e W' => ∃ s,e=.returned (.tuple #[s,.int .i64 0])∧(∃ (g:Nat→LN) (cv:Nat→Value),bbp W' s 48 62 own.length (fun i=>((g i).let (cv i)).row)∧(∀ i,i < own.length→LP5 10 me own (g i))∧∀ i,i < own.length→as1 0 W' (cv i) own)∧Below W.heap.size W W':=by
 have h0:=List.all_eq_true.1 (List.all_eq_true.1 refuse_runs5 own hl) me hm
 unfold isRef5 at h0
 split at h0
 ·rename_i t f' he
  simp only [Bool.and_eq_true] at h0
  obtain ⟨h2,h3⟩:=h0
  refine (bo3 (@cao S00 bax) (aZ2 hl) hv (fun σ h=>?_) he).mono fun e W' ⟨τ,u,s',hu0,hok,hrs,hsr,hu,hb⟩=>?_
  ·exact @LV.lr S00 σ [.i .i64 (.ofNat me),.g (bcg (holdNL5 own me) (bsz own)),.i .i64 (.ofNat 15)] [.int .i64 me,.agg (LN.let (holdLN5 own me) v).row,.int .i64 15] ⟨@VR.i S00 σ _ _,hold_vr5 h,@VR.i S00 σ _ _,trivial⟩
  ·obtain ⟨v0,v1,rfl,q0,q1⟩:=@bY9 S00 τ t u hu
   obtain rfl:=@bH0 S00 τ _ _ _ _ h3 (bsy h3) q1
   exact ⟨v0,hu0,lts_of5 h2 (hok 0 (by omega)) (aZ2 hl) hrs hsr q0,hb⟩
 ·cases h0
theorem right_runs15:b95.all (fun own => !Nat.beq own.length 1||bEn (bO1 tQ 101 [pctA5 own] own))=true:=by decide +kernel
theorem right_runs25:b95.all (fun own => !Nat.beq own.length 2||bEn (bO1 tQ 101 [pctA5 own] own))=true:=by decide +kernel
theorem right_runs35:b95.all (fun own => !Nat.beq own.length 3||bEn (bO1 tQ 101 [pctA5 own] own))=true:=by decide +kernel
theorem right_of5 {own:List Nat} (hl:own∈b95) : ∃ r:List UInt8,r.length=32∧∀ (B:Nat) (W:World) (v:Value),as1 B W v own→Calls Tryz.prog 101 #[.agg (ah6 5 0 90 v)] W fun e W'=>e=.returned (.agg (as3 r))∧Below W.heap.size W W':=by
 have h:bEn (bO1 tQ 101 [pctA5 own] own)=true:=by
  have h123:∀ l∈b95,l.length=1∨l.length=2∨l.length=3:=by decide
  have q1:=List.all_eq_true.1 right_runs15 own hl
  have q2:=List.all_eq_true.1 right_runs25 own hl
  have q3:=List.all_eq_true.1 right_runs35 own hl
  rcases h123 own hl with e | e | e
  ·rw [e] at q1;exact q1
  ·rw [e] at q2;exact q2
  ·rw [e] at q3;exact q3
 unfold bEn at h
 split at h
 ·rename_i g f' he
  split at h
  ·rename_i bs hb
   have hd:=@bgy S00 _ _ hb
   have hlen:bs.length=32:=by
    have:=(@bcb S00 _ _ hb).1
    have h2:=congrArg List.length this
    have h3:32=bs.length:=by simpa [ajn] using h2
    exact h3.symm
   refine ⟨bs.map UInt8.ofNat,by rw [List.length_map];exact hlen,fun B W v hv=>?_⟩
   refine (bo3 (@cao S00 bax) (aZ2 hl) hv (fun σ h=>?_) he).mono fun e W' ⟨τ,u,s',hu0,hok,hrs,hsr,hu,hb⟩=>⟨?_,hb⟩
   ·exact @LV.lr S00 σ [pctA5 own] [.agg (ah6 5 0 90 v)] ⟨pctA_vr5 h,trivial⟩
   ·have ha:b8x (FV.g g 32)=.g (ajn g 0 32):=rfl
    rw [ha] at hu
    obtain ⟨cc,rfl,hcc⟩:=@VR.buc S00 _ _ _ hu
    rw [hu0,@bxu S00 bax _ _ _ _ hcc hd.1]
  ·cases h
 ·cases h
end M5
end V
end Go.CE
namespace Go.Proofs.YtlnlbdfokmhelaaGreatDoor
namespace M5
open Go.RowKit Go.CE.V
set_option maxRecDepth 20000
set_option maxHeartbeats 4000000
attribute [local irreducible] wpQuiet
structure YP5 (own:List Nat) (k b:Nat) (y:LN):Prop where
 ok:y.Ok
 f5:y.frm < 5
 d5:y.dst < 5
 dls:y.dl≤1000
 kd:9≤y.kind
 k12:y.kind≤12
 mtg:b=0→y.mtg=5
 ref:b=0→k % 6=2→y.kind=10∧y.frm∈own∧y.cs=own
theorem hold_lit5 (own:List Nat) (me:Nat) (v:Value):(#[.int .i64 8,.int .i64 0,.int .i64 me,.int .i64 5,.int .i64 0,.int .i64 0,.int .i64 0,.int .i64 0,.int .i64 0,.int .i64 0,.int .i64 0,.int .i64 0,.int .i64 0,.bool false,.int .i64 0,.int .i64 0,.int .i64 0,.slice none 0 0,.int .i64 0,.int .i64 0,.string ⟨#[]⟩,.int .i64 0,.int .i64 0,.slice none 0 0,.int .i64 90,.int .i64 0,.int .i64 0,.int .i64 0,.int .i64 0,v,.int .u8 0,.int .u8 0,.int .u8 0,.int .u8 0,.int .u8 0,.int .u8 0,.int .u8 0,.int .u8 0,.int .u8 0,.int .u8 0,.int .u8 0,.int .u8 0,.int .u8 0,.int .u8 0,.int .u8 0,.int .u8 0,.int .u8 0,.int .u8 0,.int .u8 0,.int .u8 0,.int .u8 0,.int .u8 0,.int .u8 0,.int .u8 0,.int .u8 0,.int .u8 0,.int .u8 0,.int .u8 0,.int .u8 0,.int .u8 0,.int .u8 0,.int .u8 0]:Array Value)=(LN.let (CE.V.M5.holdLN5 own me) v).row:=by
 rw [CE.V.aRc]
 rfl
theorem holdLN_ok5 {own:List Nat} (hl:own∈b95) {me:Nat} (hm:me∈own):(CE.V.M5.holdLN5 own me).ref.length=32:=by
 unfold CE.V.M5.holdLN5 by0
 simp
def decLN5 (own:List Nat) (me kd st:Nat) (r:List UInt8):LN:=⟨kd,0,me,5,0,0,st,own,r⟩
theorem com_fold5 (own:List Nat) (me:Nat) (v:Value) (r:List UInt8) (h:r.length=32):Array.foldl (fun cs (x:Value×Nat)=>cs.setIfInBounds (30+x.snd) x.fst) (#[.int .i64 11,.int .i64 0,.int .i64 me,.int .i64 5,.int .i64 0,.int .i64 0,.int .i64 0,.int .i64 0,.int .i64 0,.int .i64 0,.int .i64 0,.int .i64 0,.int .i64 0,.bool false,.int .i64 0,.int .i64 0,.int .i64 0,.slice none 0 0,.int .i64 0,.int .i64 0,.string ⟨#[]⟩,.int .i64 0,.int .i64 0,.slice none 0 0,.int .i64 0,.int .i64 1,.int .i64 0,.int .i64 0,.int .i64 0,v,.int .u8 0,.int .u8 0,.int .u8 0,.int .u8 0,.int .u8 0,.int .u8 0,.int .u8 0,.int .u8 0,.int .u8 0,.int .u8 0,.int .u8 0,.int .u8 0,.int .u8 0,.int .u8 0,.int .u8 0,.int .u8 0,.int .u8 0,.int .u8 0,.int .u8 0,.int .u8 0,.int .u8 0,.int .u8 0,.int .u8 0,.int .u8 0,.int .u8 0,.int .u8 0,.int .u8 0,.int .u8 0,.int .u8 0,.int .u8 0,.int .u8 0,.int .u8 0]:Array Value) (as3 r).zipIdx 0 32=(LN.let (decLN5 own me 11 1 r) v).row:=by
 rw [CE.V.aRc]
 obtain ⟨b0,b1,b2,b3,b4,b5,b6,b7,b8,b9,b10,b11,b12,b13,b14,b15,b16,b17,b18,b19,b20,b21,b22,b23,b24,b25,b26,b27,b28,b29,b30,b31,e⟩:=bRt r h
 subst e
 kernel_rfl
theorem abt_fold5 (own:List Nat) (me:Nat) (v:Value) (r:List UInt8) (h:r.length=32):Array.foldl (fun cs (x:Value×Nat)=>cs.setIfInBounds (30+x.snd) x.fst) (#[.int .i64 12,.int .i64 0,.int .i64 me,.int .i64 5,.int .i64 0,.int .i64 0,.int .i64 0,.int .i64 0,.int .i64 0,.int .i64 0,.int .i64 0,.int .i64 0,.int .i64 0,.bool false,.int .i64 0,.int .i64 0,.int .i64 0,.slice none 0 0,.int .i64 0,.int .i64 0,.string ⟨#[]⟩,.int .i64 0,.int .i64 0,.slice none 0 0,.int .i64 0,.int .i64 15,.int .i64 0,.int .i64 0,.int .i64 0,v,.int .u8 0,.int .u8 0,.int .u8 0,.int .u8 0,.int .u8 0,.int .u8 0,.int .u8 0,.int .u8 0,.int .u8 0,.int .u8 0,.int .u8 0,.int .u8 0,.int .u8 0,.int .u8 0,.int .u8 0,.int .u8 0,.int .u8 0,.int .u8 0,.int .u8 0,.int .u8 0,.int .u8 0,.int .u8 0,.int .u8 0,.int .u8 0,.int .u8 0,.int .u8 0,.int .u8 0,.int .u8 0,.int .u8 0,.int .u8 0,.int .u8 0,.int .u8 0]:Array Value) (as3 r).zipIdx 0 32=(LN.let (decLN5 own me 12 15 r) v).row:=by
 rw [CE.V.aRc]
 obtain ⟨b0,b1,b2,b3,b4,b5,b6,b7,b8,b9,b10,b11,b12,b13,b14,b15,b16,b17,b18,b19,b20,b21,b22,b23,b24,b25,b26,b27,b28,b29,b30,b31,e⟩:=bRt r h
 subst e
 kernel_rfl
theorem dec_ok5 {own:List Nat} (hl:own∈b95) {me:Nat} (hm:me∈own) {kd st:Nat} (hk:kd=11∨kd=12) (hs:st≤18) {r:List UInt8} (hr:r.length=32):(decLN5 own me kd st r).Ok:=by
 have h1:∀ l∈b95,∀ m∈l,m < 16∧m≠0:=by decide
 have h2:∀ l∈b95,(∀ c∈l,c < 16)∧l.Pairwise (· < ·)∧l.length≤4∧CE.V.shB 11 l.length=true∧CE.V.shB 12 l.length=true:=by decide
 obtain ⟨q1,q2,q3,q4,q5⟩:=h2 own hl
 obtain ⟨m1,m2⟩:=h1 own hl me hm
 refine ⟨by show kd=8∨kd=9∨kd=10∨kd=11∨kd=12∨kd=13∨kd=14∨kd=18;omega,by show 0 < 16;omega,m1,fun e=>m2 e.symm,by show 1≤5;omega,by show 5≤1099511627776;omega,by show 0≤255;omega,fun _ _=>rfl,by show 0≤2251799813685248;omega,fun _ _=>rfl,hs,?_,?_,q1,q2,q3,?_,hr,?_,?_⟩
 ·intro e
  have e:kd=14:=e
  omega
 ·intro e
  have e:kd=8∨kd=9∨kd=13∨kd=18:=e
  omega
 ·intro e
  have e:kd=18:=e
  omega
 ·intro e
  have e:kd=8∨kd=13:=e
  omega
 ·show CE.V.shB kd own.length=true
  rcases hk with rfl | rfl
  ·exact q4
  ·exact q5
theorem letter_calls5 {own:List Nat} (hl:own∈b95) {W:World} {v:Value} {k f t:Nat} (hk:k < 256) (hf:f < 256) (ht:t < 256) (hv:as1 0 W v own)
  {r:List UInt8} (bxa:r.length=32) (HR:∀ W' w,Below W.heap.size W W'→as1 0 W' w own→Calls Tryz.prog 101 #[.agg (ah6 5 0 90 w)] W' fun e W''=>e=.returned (.agg (as3 r))∧Below W'.heap.size W' W'') :
  Calls Tryz.prog 36 #[.agg (ah6 5 0 90 v),.agg (aBl k f t 0)] W fun e W' => ∃ y c,e=.returned (.agg (LN.let y c).row)∧YP5 own k 0 y∧as1 0 W' c y.cs∧Below W.heap.size W W':=by
 have h0:=aZ2 hl
 have hlen:0 < own.length:=List.length_pos_iff.2 h0
 have hlen3:own.length≤3:=(by decide:∀ l∈b95,l.length≤3) own hl
 have HV:=Lib.hid hv
 obtain ⟨oa,oc,rfl,hov⟩:=aAb hv
 obtain ⟨ob,oo,c5d,rfl,ho1,ho2⟩:=hov h0
 have po:=b8r 5 0 90 (show (Value.slice (some ⟨ob,oo,none⟩) own.length oc).oneCell' = true from rfl)
 clear hov
 have hro:ones (aBl k f t 0)=true:=by unfold aBl;simp [ones,bhl]
 have hrz:(aBl k f t 0).size=4:=rfl
 have hra:(aBl k f t 0).extract 0 4=aBl k f t 0:=extract_all _ _ rfl
 have j0:obj (((W.alloc (.cells (ah6 5 0 90 (.slice (some ⟨ob,oo,none⟩) own.length oc)) 61 (0,0))).alloc (.cells (aBl k f t 0) 71 (0,0))).alloc (.cells z48 48 (0,0))) W.heap.size=some (.cells (ah6 5 0 90 (.slice (some ⟨ob,oo,none⟩) own.length oc)) 61 (0,0)):=ab6 (ab6 (aff _ _ _ rfl) _) _
 have j1:obj (((W.alloc (.cells (ah6 5 0 90 (.slice (some ⟨ob,oo,none⟩) own.length oc)) 61 (0,0))).alloc (.cells (aBl k f t 0) 71 (0,0))).alloc (.cells z48 48 (0,0))) (W.heap.size+1)=some (.cells (aBl k f t 0) 71 (0,0)):=ab6 (aff _ _ _ (by simp)) _
 have j2:obj (((W.alloc (.cells (ah6 5 0 90 (.slice (some ⟨ob,oo,none⟩) own.length oc)) 61 (0,0))).alloc (.cells (aBl k f t 0) 71 (0,0))).alloc (.cells z48 48 (0,0))) (W.heap.size+1+1)=some (.cells z48 48 (0,0)):=aff _ _ _ (by simp)
 have jB:Below W.heap.size W (((W.alloc (.cells (ah6 5 0 90 (.slice (some ⟨ob,oo,none⟩) own.length oc)) 61 (0,0))).alloc (.cells (aBl k f t 0) 71 (0,0))).alloc (.cells z48 48 (0,0))):=(((Below.refl _ _).alloc (Nat.le_refl _) _).alloc (by simp) _).alloc (by simp;omega) _
 have rm:∀ n:Nat,Int.tmod (n:Int) (own.length:Int)=((n % own.length:Nat):Int):=fun n=>by
  rw [Int.tmod_eq_emod_of_nonneg (by omega)];rfl
 have hremf:=rm f
 have hremt:=rm t
 have hi0:f % own.length < own.length:=Nat.mod_lt _ hlen
 have ht0:t % own.length < own.length:=Nat.mod_lt _ hlen
 have hoi:=ho2 (f % own.length) hi0
 have hme:own.getD (f % own.length) 0∈own:=by rw [List.getD_eq_getElem?_getD,List.getElem?_eq_getElem hi0];exact List.getElem_mem hi0
 have HO2:=Lib.hid ho2
 clear ho2 rm
 have wf:IntKind.wrap .i64 (f:Int)=(f:Int):=by rw [IntKind.wrap_i64];omega
 have wt:IntKind.wrap .i64 (t:Int)=(t:Int):=by rw [IntKind.wrap_i64];omega
 have hl0:(own.length:Int)≠0:=by omega
 have HIF:=Lib.hid hi0
 generalize hme0:own.getD (f % own.length) 0=me at hoi hme
 clear hme0
 generalize hfi:f % own.length=fi at *
 clear hfi
 generalize hti:t % own.length=ti at *
 clear hti
 have hib:(fi:Int) < (own.length:Int):=by omega
 have htb:(ti:Int) < (own.length:Int):=by omega
 go_enter Tryz.func36,Tryz.ntmps36
 repeat' (first | go_skip | go_guarded | go_step | go_upon)
 generalize (((W.alloc (.cells (ah6 5 0 90 (.slice (some ⟨ob,oo,none⟩) own.length oc)) 61 (0,0))).alloc (.cells (aBl k f t 0) 71 (0,0))).alloc (.cells z48 48 (0,0)))=w3 at *
 have lt0:=ah1 j0
 have lt1:=ah1 j1
 have ltb:=ah1 ho1
 (refine b92 (by kernel_rfl) (by kernel_rfl) ?_;(repeat (refine wpQuiet_step (fun K hK=>?_);go_simp;first | (refine hK _ ?_;clear hK K) | (apply Exists.intro;refine ⟨fun W hW=>?_,hK _ ?_⟩;(focus ((first | (with_reducible exact rfl) | ((have p0:=aa1 j0 hW lt0;have p1:=aa1 j1 hW lt1;have po1:=aa1 ho1 (jB.trans (hW.mono jB.size)) ltb;have c3:=(abm p0 3).trans (bcz _ _ _ _);have r1:=(abm p1 1).trans (show (aBl k f t 0)[1]? = some (.int .u8 f) from rfl);have co:=(abm po1 (oo+fi)).trans hoi);(try go_simp);first | done | (with_reducible exact rfl) | (with_reducible exact ⟨rfl,rfl⟩) | (skip)));done));clear hK K)));refine wpQuiet_nil ?_;intro W2 hW2)
 have p0:=aa1 j0 hW2 lt0
 have p1:=aa1 j1 hW2 lt1
 have p2:=aa1 j2 hW2 (ah1 j2)
 have pB:=jB.trans (hW2.mono jB.size)
 have c0:=(abm p0 0).trans (byr _ _ _ _)
 have c2:=(abm p0 2).trans (bL5 _ _ _ _)
 have c3:=(abm p0 3).trans (bcz _ _ _ _)
 have hlit:=hold_lit5 own me (.slice (some ⟨ob,oo,none⟩) own.length oc)
 have hhr:=holdLN_ok5 hl hme
 have lz:=as4 (LN.let (CE.V.M5.holdLN5 own me) (.slice (some ⟨ob,oo,none⟩) own.length oc)) hhr
 have la:=aI7 (LN.let (CE.V.M5.holdLN5 own me) (.slice (some ⟨ob,oo,none⟩) own.length oc)) hhr
 have lo:=aBk (LN.let (CE.V.M5.holdLN5 own me) (.slice (some ⟨ob,oo,none⟩) own.length oc)) rfl
 have HH:=Lib.hid (fun W' (hb:Below W.heap.size W W')=>CE.V.M5.hold_calls5 hl hme (HV.out.below hb))
 have HF:=Lib.hid (fun W' (hb:Below W.heap.size W W')=>CE.V.M5.refuse_calls5 hl hme (HV.out.below hb))
 have q6:obj (W2.alloc (.cells (LN.let (CE.V.M5.holdLN5 own me) (.slice (some ⟨ob,oo,none⟩) own.length oc)).row 48 (0,0))) W2.heap.size=some (.cells (LN.let (CE.V.M5.holdLN5 own me) (.slice (some ⟨ob,oo,none⟩) own.length oc)).row 48 (0,0)):=aff _ _ _ rfl
 have q0:=ab6 p0 (.cells (LN.let (CE.V.M5.holdLN5 own me) (.slice (some ⟨ob,oo,none⟩) own.length oc)).row 48 (0,0))
 have q1:=ab6 p1 (.cells (LN.let (CE.V.M5.holdLN5 own me) (.slice (some ⟨ob,oo,none⟩) own.length oc)).row 48 (0,0))
 have q2:=ab6 p2 (.cells (LN.let (CE.V.M5.holdLN5 own me) (.slice (some ⟨ob,oo,none⟩) own.length oc)).row 48 (0,0))
 have qB:=pB.alloc pB.size (.cells (LN.let (CE.V.M5.holdLN5 own me) (.slice (some ⟨ob,oo,none⟩) own.length oc)).row 48 (0,0))
 clear j0 j1 j2 jB hW2
 repeat' ((fail_if_success (with_reducible refine Go.wp_block ?_));(first | (go_at_call 99;((with_reducible refine (HH.out _ qB).mono ?_));rintro r w5 ⟨ow,s,rfl,hw1,hgr,hb5⟩;have oo5:=aRj me 5 0 90 2 hw1 (show (Value.slice none 0 0).oneCell' = true from rfl);have s6:=aa1 q6 hb5 (ah1 q6);have s0:=aa1 q0 hb5 (ah1 q0);have s1:=aa1 q1 hb5 (ah1 q1);have s2:=aa1 q2 hb5 (ah1 q2);have sB:=qB.trans (hb5.mono qB.size);have t6:=ab6 s6 (.cells (ownRow me 5 0 90 2 ow (.slice none 0 0)) 28 (0,0));have t0:=ab6 s0 (.cells (ownRow me 5 0 90 2 ow (.slice none 0 0)) 28 (0,0));have t1:=ab6 s1 (.cells (ownRow me 5 0 90 2 ow (.slice none 0 0)) 28 (0,0));have t2:=ab6 s2 (.cells (ownRow me 5 0 90 2 ow (.slice none 0 0)) 28 (0,0));have tB:=sB.alloc sB.size (.cells (ownRow me 5 0 90 2 ow (.slice none 0 0)) 28 (0,0));have HGR:=Lib.hid hgr;clear hgr;dsimp only) | (go_at_call 100;((with_reducible refine (HF.out _ tB).mono ?_));rintro r w7 ⟨s',rfl,hgr2,hb7⟩;have HG2:=Lib.hid hgr2;clear hgr2;have u0:=aa1 t0 hb7 (ah1 t0);have u1:=aa1 t1 hb7 (ah1 t1);have u2:=aa1 t2 hb7 (ah1 t2);have uB:=tB.trans (hb7.mono tB.size);have u10:=(abm u1 0).trans (show (aBl k f t 0)[0]? = some (.int .u8 k) from rfl);have u12:=(abm u1 2).trans (show (aBl k f t 0)[2]? = some (.int .u8 t) from rfl);obtain ⟨g1,cv1,⟨sa,sc,hse,hsr⟩,hlp1,hcv1⟩:=HGR.out;obtain ⟨sb1,so1,c7e,hsa,hs1,hs2⟩:=hsr (by omega);subst hsa;subst hse;obtain ⟨z0,z2⟩:=hs2 ti ht0;have z1:(so1+ti * 62+62≤c7e.size)=True:=eq_true z0;have us:=aa1 (ab6 hs1 (.cells (ownRow me 5 0 90 2 ow (.slice none 0 0)) 28 (0,0))) hb7 (ah1 (ab6 hs1 (.cells (ownRow me 5 0 90 2 ow (.slice none 0 0)) 28 (0,0))));have hl1:=hlp1 ti ht0;have lz1:=as4 (LN.let (g1 ti) (cv1 ti)) hl1.ok.ref;have la1:=aI7 (LN.let (g1 ti) (cv1 ti)) hl1.ok.ref;have lo1:=aBk (LN.let (g1 ti) (cv1 ti)) (azh (hcv1 ti ht0));have hc1:=(hcv1 ti ht0).below (((Below.refl _ _).alloc (Nat.le_refl _) (.cells (ownRow me 5 0 90 2 ow (.slice none 0 0)) 28 (0,0))).trans (hb7.mono (by simp)));have x0:=ab6 u0 (.cells (LN.let (g1 ti) (cv1 ti)).row 48 (0,0));have x1:=ab6 u1 (.cells (LN.let (g1 ti) (cv1 ti)).row 48 (0,0));have x2:=ab6 u2 (.cells (LN.let (g1 ti) (cv1 ti)).row 48 (0,0));have x12:obj (w7.alloc (.cells (LN.let (g1 ti) (cv1 ti)).row 48 (0,0))) w7.heap.size=some (.cells (LN.let (g1 ti) (cv1 ti)).row 48 (0,0)):=aff _ _ _ rfl;have xB:=uB.alloc uB.size (.cells (LN.let (g1 ti) (cv1 ti)).row 48 (0,0));have xc:=hc1.below ((Below.refl _ _).alloc (Nat.le_refl _) (.cells (LN.let (g1 ti) (cv1 ti)).row 48 (0,0)));have HGX:=Lib.hid HG2.out;have x10:=(abm x1 0).trans (show (aBl k f t 0)[0]? = some (.int .u8 k) from rfl);clear hsr hs2 hlp1 hcv1 HGR z0;dsimp only at z2;dsimp only) | go_skip | go_guarded | go_step | go_upon))
 have HG3:Hid (∃ (g:Nat→LN) (cv:Nat→Value),bbp (w7.alloc (.cells (LN.let (g1 ti) (cv1 ti)).row 48 (0,0))) s' 48 62 own.length (fun i=>((g i).let (cv i)).row)∧(∀ i,i < own.length→CE.V.M5.LP5 10 me own (g i))∧∀ i,i < own.length→as1 0 (w7.alloc (.cells (LN.let (g1 ti) (cv1 ti)).row 48 (0,0))) (cv i) own):=Lib.hid (by
  obtain ⟨g,cv,q1,q2,q3⟩:=HG2.out
  exact ⟨g,cv,q1.below ((Below.refl _ _).alloc (Nat.le_refl _) _),q2,fun i hi=>(q3 i hi).below ((Below.refl _ _).alloc (Nat.le_refl _) _)⟩)
 have s12:=ah1 u2
 have hl1c:=hl1.cs
 rw [← hl1c] at xc
 clear HG2 HGX u0 u1 u2 u10 u12 us z1 z2 hc1 HH HF
 generalize w7.alloc (.cells (LN.let (g1 ti) (cv1 ti)).row 48 (0,0))=w8 at *
 generalize g1 ti=y1 at *
 generalize cv1 ti=c1 at *
 have hk6:k % 6 < 6:=Nat.mod_lt _ (by decide)
 generalize hkk:k % 6=k6 at *
 have HK6:=Lib.hid hkk
 clear hkk
 go_cut [12] from 54 (fun v wx=>v=.pointer (some ⟨w7.heap.size,0,none⟩)∧∃ y c,obj wx w7.heap.size=some (.cells (LN.let y c).row 48 (0,0))∧as1 0 wx c y.cs∧y.Ok∧y.frm < 5∧y.dst < 5∧y.dl≤90∧9≤y.kind∧y.kind≤12∧y.mtg=5∧y.cs=own∧(k6=2→y.kind=10∧y.frm∈own)∧obj wx (W.heap.size+1)=some (.cells (aBl k f t 0) 71 (0,0))∧obj wx (W.heap.size+1+1)=some (.cells z48 48 (0,0))∧Below W.heap.size W wx)
 case first =>
  have me5:me < 5:=(by decide:∀ l∈b95,∀ m∈l,m < 5) own hl me hme
  rcases (show k6=0∨k6=1∨k6=2∨k6=3∨k6=4∨k6=5 by omega) with rfl | rfl | rfl | rfl | rfl | rfl
  ·have hkm:(k:Int) % 6=0:=by have:=HK6.out;omega
   repeat' (first | go_skip | go_guarded | go_step | go_upon)
   go_meet
   exact ⟨rfl,y1,c1,x12,xc,hl1.ok,by rw [hl1.frm];exact me5,hl1.dst,hl1.dl,by rw [hl1.kind];decide,by rw [hl1.kind];decide,hl1.mtg,hl1.cs,fun e=>by omega,x1,x2,xB⟩
  ·have hkm:(k:Int) % 6=1:=by have:=HK6.out;omega
   repeat' (first | go_skip | go_guarded | go_step | go_upon)
   go_meet
   exact ⟨rfl,y1,c1,x12,xc,hl1.ok,by rw [hl1.frm];exact me5,hl1.dst,hl1.dl,by rw [hl1.kind];decide,by rw [hl1.kind];decide,hl1.mtg,hl1.cs,fun e=>by omega,x1,x2,xB⟩
  ·have hkm:(k:Int) % 6=2:=by have:=HK6.out;omega
   obtain ⟨g2,cv2,⟨sa,sc2,rfl,hsr⟩,c35,hcv2⟩:=HG3.out
   obtain ⟨sb2,so2,bSx,rfl,hs1,hs2⟩:=hsr (by omega)
   obtain ⟨z0,z2⟩:=hs2 ti ht0
   dsimp only at z2
   have z1:(so2+ti * 62+62≤bSx.size)=True:=eq_true z0
   have hl2:=c35 ti ht0
   have hc2:=hcv2 ti ht0
   have x12b:=(abm x1 2).trans (show (aBl k f t 0)[2]? = some (.int .u8 t) from rfl)
   rw [← hl2.cs] at hc2
   generalize g2 ti=y2 at *
   generalize cv2 ti=c2 at *
   have lz2:=as4 (LN.let y2 c2) hl2.ok.ref
   have la2:=aI7 (LN.let y2 c2) hl2.ok.ref
   have lo2:=aBk (LN.let y2 c2) (azh hc2)
   clear hsr hs2 c35 hcv2 z0
   repeat' (first | go_skip | go_guarded | go_step | go_upon)
   go_meet
   have hY1:obj (w8.setRow w7.heap.size (LN.let y2 c2).row) w7.heap.size=some (.cells (LN.let y2 c2).row 48 (0,0)):=by rw [ajb,x12];rfl
   have hYk:∀ x,x≠w7.heap.size→obj (w8.setRow w7.heap.size (LN.let y2 c2).row) x=obj w8 x:=fun x hx=>setRow_other _ _ _ _ hx
   exact ⟨rfl,y2,c2,hY1,aZ3 hc2 x12 (by decide) hYk,hl2.ok,by rw [hl2.frm];exact me5,hl2.dst,hl2.dl,by rw [hl2.kind];decide,by rw [hl2.kind];decide,hl2.mtg,hl2.cs,fun _=>⟨hl2.kind,by rw [hl2.frm];exact hme⟩,(hYk _ (by omega)).trans x1,(hYk _ (by omega)).trans x2,below_setRow xB (by omega) _⟩
  ·have hkm:(k:Int) % 6=3:=by have:=HK6.out;omega
   have hfo:=com_fold5 own me (.slice (some ⟨ob,oo,none⟩) own.length oc) r bxa
   have hz9:=as4 (LN.let (decLN5 own me 11 1 r) (.slice (some ⟨ob,oo,none⟩) own.length oc)) bxa
   have ho9:=aBk (LN.let (decLN5 own me 11 1 r) (.slice (some ⟨ob,oo,none⟩) own.length oc)) rfl
   have HRR:=Lib.hid (fun W' (hb:Below w8.heap.size w8 W')=>HR W' _ (xB.trans (hb.mono xB.size)) (HV.out.below (xB.trans (hb.mono xB.size))))
   have ly0:=ah1 x0
   repeat' (first | go_skip | go_guarded | go_step | go_upon)
   (refine b8y 8 (by kernel_rfl) (by kernel_rfl) ?_;simp only [List.take_succ_cons,List.take_zero,List.drop_succ_cons,List.drop_zero];(repeat (refine wpQuiet_step (fun K hK=>?_);go_simp;first | (refine hK _ ?_;clear hK K) | (apply Exists.intro;refine ⟨fun W hW=>?_,hK _ ?_⟩;(focus ((first | (with_reducible exact rfl) | ((have n0:=aa1 x0 hW ly0;have n00:=(abm n0 0).trans (byr _ _ _ _);have n03:=(abm n0 3).trans (bcz _ _ _ _));(try go_simp);first | done | (with_reducible exact rfl) | (with_reducible exact ⟨rfl,rfl⟩) | ((with_reducible exact bac hW (HRR.out W hW)))));done));clear hK K)));refine wpQuiet_nil ?_;intro W2 hW2)
   have n0:=aa1 x0 hW2 (ah1 x0)
   have n1:=aa1 x1 hW2 (ah1 x1)
   have n2:=aa1 x2 hW2 (ah1 x2)
   have n12:=aa1 x12 hW2 (ah1 x12)
   have nB:=xB.trans (hW2.mono xB.size)
   repeat' (first | go_skip | go_guarded | go_step | go_upon)
   go_meet
   have hYk:∀ x,x≠w7.heap.size→obj (W2.setRow w7.heap.size (LN.let (decLN5 own me 11 1 r) (.slice (some ⟨ob,oo,none⟩) own.length oc)).row) x=obj W2 x:=fun x hx=>setRow_other _ _ _ _ hx
   exact ⟨rfl,decLN5 own me 11 1 r,(.slice (some ⟨ob,oo,none⟩) own.length oc),by rw [ajb,n12];rfl,aZ3 (HV.out.below nB) n12 (by decide) hYk,dec_ok5 hl hme (.inl rfl) (by decide) bxa,by show 0 < 5;omega,me5,by show 0≤90;omega,by show 9≤11;omega,by show 11≤12;omega,rfl,rfl,fun e=>by omega,(hYk _ (by omega)).trans n1,(hYk _ (by omega)).trans n2,below_setRow nB (by omega) _⟩
  ·have hkm:(k:Int) % 6=4:=by have:=HK6.out;omega
   have hfo:=com_fold5 own me (.slice (some ⟨ob,oo,none⟩) own.length oc) r bxa
   have hz9:=as4 (LN.let (decLN5 own me 11 1 r) (.slice (some ⟨ob,oo,none⟩) own.length oc)) bxa
   have ho9:=aBk (LN.let (decLN5 own me 11 1 r) (.slice (some ⟨ob,oo,none⟩) own.length oc)) rfl
   have HRR:=Lib.hid (fun W' (hb:Below w8.heap.size w8 W')=>HR W' _ (xB.trans (hb.mono xB.size)) (HV.out.below (xB.trans (hb.mono xB.size))))
   have ly0:=ah1 x0
   repeat' (first | go_skip | go_guarded | go_step | go_upon)
   (refine b8y 8 (by kernel_rfl) (by kernel_rfl) ?_;simp only [List.take_succ_cons,List.take_zero,List.drop_succ_cons,List.drop_zero];(repeat (refine wpQuiet_step (fun K hK=>?_);go_simp;first | (refine hK _ ?_;clear hK K) | (apply Exists.intro;refine ⟨fun W hW=>?_,hK _ ?_⟩;(focus ((first | (with_reducible exact rfl) | ((have n0:=aa1 x0 hW ly0;have n00:=(abm n0 0).trans (byr _ _ _ _);have n03:=(abm n0 3).trans (bcz _ _ _ _));(try go_simp);first | done | (with_reducible exact rfl) | (with_reducible exact ⟨rfl,rfl⟩) | ((with_reducible exact bac hW (HRR.out W hW)))));done));clear hK K)));refine wpQuiet_nil ?_;intro W2 hW2)
   have n0:=aa1 x0 hW2 (ah1 x0)
   have n1:=aa1 x1 hW2 (ah1 x1)
   have n2:=aa1 x2 hW2 (ah1 x2)
   have n12:=aa1 x12 hW2 (ah1 x12)
   have nB:=xB.trans (hW2.mono xB.size)
   repeat' (first | go_skip | go_guarded | go_step | go_upon)
   go_meet
   have hYk:∀ x,x≠w7.heap.size→obj (W2.setRow w7.heap.size (LN.let (decLN5 own me 11 1 r) (.slice (some ⟨ob,oo,none⟩) own.length oc)).row) x=obj W2 x:=fun x hx=>setRow_other _ _ _ _ hx
   exact ⟨rfl,decLN5 own me 11 1 r,(.slice (some ⟨ob,oo,none⟩) own.length oc),by rw [ajb,n12];rfl,aZ3 (HV.out.below nB) n12 (by decide) hYk,dec_ok5 hl hme (.inl rfl) (by decide) bxa,by show 0 < 5;omega,me5,by show 0≤90;omega,by show 9≤11;omega,by show 11≤12;omega,rfl,rfl,fun e=>by omega,(hYk _ (by omega)).trans n1,(hYk _ (by omega)).trans n2,below_setRow nB (by omega) _⟩
  ·have hkm:(k:Int) % 6=5:=by have:=HK6.out;omega
   obtain ⟨g2,cv2,⟨sa,sc2,rfl,hsr⟩,c35,hcv2⟩:=HG3.out
   obtain ⟨sb2,so2,bSx,rfl,hs1,hs2⟩:=hsr (by omega)
   obtain ⟨z0,z2⟩:=hs2 0 hlen
   dsimp only at z2
   rw [Nat.zero_mul,Nat.add_zero] at z0 z2
   have z1:(so2+62≤bSx.size)=True:=eq_true z0
   have hl2:=c35 0 hlen
   have hc2:=hcv2 0 hlen
   rw [← hl2.cs] at hc2
   generalize g2 0=y2 at *
   generalize cv2 0=c2 at *
   have me0:me≠0:=(by decide:∀ l∈b95,∀ m∈l,m≠0) own hl me hme
   have henc:(LN.enc (LN.to y2 0)).length≤1048576:=by
    have h1:=hl2.ok.len
    have h2:=hl2.ok.ref
    rw [bn2 hl2.ok]
    unfold LN.enc
    rw [hl2.kind]
    simp [LN.hd,b96,cl8,h2]
    omega
   have lz2:=as4 (LN.let y2 c2) hl2.ok.ref
   have la2:=aI7 (LN.let y2 c2) hl2.ok.ref
   have HMK:=Lib.hid (fun W' (hb:Below w8.heap.size w8 W')=>bto (mtg:=5) (org:=0) (dl:=90) (W:=W') (u:=(.slice (some ⟨ob,oo,none⟩) own.length oc)) (v:=c2) (bUn hl2.ok (by omega) (by rw [hl2.frm];exact me0)) (.inr (.inr hl2.kind)) (by rw [hl2.cs];exact h0) (by rw [hl2.cs];exact hlen3) (hc2.below hb) henc rfl)
   have bxa:=ba8 0 y2
   have hfo:=abt_fold5 own me (.slice (some ⟨ob,oo,none⟩) own.length oc) (b8p 0 y2) bxa
   have hz9:=as4 (LN.let (decLN5 own me 12 15 (b8p 0 y2)) (.slice (some ⟨ob,oo,none⟩) own.length oc)) bxa
   have ho9:=aBk (LN.let (decLN5 own me 12 15 (b8p 0 y2)) (.slice (some ⟨ob,oo,none⟩) own.length oc)) rfl
   clear hsr hs2 c35 hcv2 z0
   have ly0:=ah1 x0
   have lys:=ah1 hs1
   repeat' (first | go_skip | go_guarded | go_step | go_upon)
   (refine b8y 11 (by kernel_rfl) (by kernel_rfl) ?_;simp only [List.take_succ_cons,List.take_zero,List.drop_succ_cons,List.drop_zero];(repeat (refine wpQuiet_step (fun K hK=>?_);go_simp;first | (refine hK _ ?_;clear hK K) | (apply Exists.intro;refine ⟨fun W hW=>?_,hK _ ?_⟩;(focus ((first | (with_reducible exact rfl) | ((have n0:=aa1 x0 hW ly0;have ns:=aa1 hs1 hW lys;have n00:=(abm n0 0).trans (byr _ _ _ _);have n03:=(abm n0 3).trans (bcz _ _ _ _));(try go_simp);first | done | (with_reducible exact rfl) | (with_reducible exact ⟨rfl,rfl⟩) | ((with_reducible exact bac hW (HMK.out W hW)))));done));clear hK K)));refine wpQuiet_nil ?_;intro W2 hW2)
   have n0:=aa1 x0 hW2 (ah1 x0)
   have n1:=aa1 x1 hW2 (ah1 x1)
   have n2:=aa1 x2 hW2 (ah1 x2)
   have n12:=aa1 x12 hW2 (ah1 x12)
   have nB:=xB.trans (hW2.mono xB.size)
   repeat' (first | go_skip | go_guarded | go_step | go_upon)
   go_meet
   have hYk:∀ x,x≠w7.heap.size→obj (W2.setRow w7.heap.size (LN.let (decLN5 own me 12 15 (b8p 0 y2)) (.slice (some ⟨ob,oo,none⟩) own.length oc)).row) x=obj W2 x:=fun x hx=>setRow_other _ _ _ _ hx
   exact ⟨rfl,decLN5 own me 12 15 (b8p 0 y2),(.slice (some ⟨ob,oo,none⟩) own.length oc),by rw [ajb,n12];rfl,aZ3 (HV.out.below nB) n12 (by decide) hYk,dec_ok5 hl hme (.inr rfl) (by decide) bxa,by show 0 < 5;omega,me5,by show 0≤90;omega,by show 9≤12;omega,by show 12≤12;omega,rfl,rfl,fun e=>by omega,(hYk _ (by omega)).trans n1,(hYk _ (by omega)).trans n2,below_setRow nB (by omega) _⟩
 case rest =>
  obtain ⟨rfl,y,c,y0,hc,hok,hf5,hd5,hdl,hk9,hk12,hmt,hcs,hk2,y1,y2,yB⟩:=hcut
  have yr3:=(abm y1 3).trans (show (aBl k f t 0)[3]? = some (.int .u8 0) from rfl)
  have HK2:=Lib.hid hk2
  clear hk2
  repeat' ((fail_if_success (with_reducible refine Go.wp_block ?_));(first | go_skip | go_guarded | go_step | go_upon))
  go_cut [12] from 92 (fun v wx=>v=.pointer (some ⟨w7.heap.size,0,none⟩)∧∃ y c,obj wx w7.heap.size=some (.cells (LN.let y c).row 48 (0,0))∧as1 0 wx c y.cs∧YP5 own k 0 y∧obj wx (W.heap.size+1+1)=some (.cells z48 48 (0,0))∧Below W.heap.size W wx)
  case rest =>
   obtain ⟨rfl,y,c,y0,hc,hY,y2,yB⟩:=hcut
   have lz:=as4 (LN.let y c) hY.ok.ref
   have la:=aI7 (LN.let y c) hY.ok.ref
   have lo:=aBk (LN.let y c) (azh hc)
   repeat' (first | go_skip | go_guarded | go_step | go_upon)
   refine bodyPost_ret (results_cell_row rfl _ _ (W.heap.size+1+1) 48 _ _ _ rfl (setRow_heap _ _ _ _ _ _ y2) Tryz.underlying48 rfl (by rw [lz];kernel_rfl)) rfl ?_
   exact ⟨y,c,rfl,hY,aZ3 hc y2 (by decide) (fun x hx=>setRow_other _ _ _ _ hx),below_setRow yB (by omega) _⟩
  case first =>
  have g0:=(abm y0 0).trans (c2n y c)
  have g3:=(abm y0 3).trans (c8y y c)
  have g24:=(abm y0 24).trans (c2l y c)
  have g30:=(abm y0 30).trans (c2j y c hok.ref)
  have g25:=(abm y0 25).trans (c2k y c)
  have f3:=azi y0 3
  have f24:=azi y0 24
  have f25:=azi y0 25
  have f29:=azi y0 29
  have f30:=azi y0 30
  have wm:IntKind.wrap .i64 ((y.mtg:Int)+1)=((y.mtg+1:Nat):Int):=by rw [IntKind.wrap_i64];omega
  have wd:IntKind.wrap .i64 ((y.dl:Int)+1)=((y.dl+1:Nat):Int):=by rw [IntKind.wrap_i64];omega
  have KS:∀ (o:Nat) (u:Value) (y':LN) (c':Value),(LN.let y c).row.setIfInBounds o u=(LN.let y' c').row→as1 0 wc c' y'.cs→YP5 own k 0 y'→(∃ y c,obj (wc.setCell ⟨w7.heap.size,o,none⟩ u) w7.heap.size=some (.cells (LN.let y c).row 48 (0,0))∧as1 0 (wc.setCell ⟨w7.heap.size,o,none⟩ u) c y.cs∧YP5 own k 0 y∧obj (wc.setCell ⟨w7.heap.size,o,none⟩ u) (W.heap.size+1+1)=some (.cells z48 48 (0,0))∧Below W.heap.size W (wc.setCell ⟨w7.heap.size,o,none⟩ u)):=fun o u y' c' he hcv hY =>
   have hk:∀ x,x≠w7.heap.size→obj (wc.setCell ⟨w7.heap.size,o,none⟩ u) x=obj wc x:=fun x hx=>aRd _ _ _ _ hx
   ⟨y',c',by rw [avb,y0];exact congrArg (fun r=>some (Obj.cells r 48 (0,0))) he,aZ3 hcv y0 (by decide) hk,hY,(hk _ (by omega)).trans y2,yB.setCell (by show W.heap.size≤w7.heap.size;omega) _⟩
  have HKS:=Lib.hid KS
  clear KS
  ·repeat' (first | go_skip | go_guarded | go_step | go_upon)
   go_meet
   exact ⟨rfl,y,c,y0,hc,⟨hok,hf5,hd5,by omega,hk9,hk12,fun _=>hmt,fun _ hk=>(by obtain ⟨p,q⟩:=HK2.out (HK6.out.symm.trans hk);exact ⟨p,q,hcs⟩)⟩,y2,yB⟩
theorem letter_any5 {own:List Nat} (hl:own∈b95) {W:World} {v:Value} {k f t:Nat} (hk:k < 256) (hf:f < 256) (ht:t < 256) (hv:as1 0 W v own) :
  Calls Tryz.prog 36 #[.agg (ah6 5 0 90 v),.agg (aBl k f t 0)] W fun e W' => ∃ y c,e=.returned (.agg (LN.let y c).row)∧bg7 y∧y.mtg=5∧as1 0 W' c y.cs∧Below W.heap.size W W':=by
 obtain ⟨r,hr,HR⟩:=CE.V.M5.right_of5 hl
 refine (letter_calls5 hl hk hf ht hv hr fun W' w _ hw=>HR 0 W' w hw).mono fun e W' ⟨y,c,he,hy,hc,hb⟩=>⟨y,c,he,fun q h1 h2=>?_,hy.mtg rfl,hc,hb⟩
 have hk:=hy.kd
 have hk2:=hy.k12
 have hr:=hy.ok.ref
 have hl:=hy.ok.len
 have he:0 < (LN.enc y).length∧(LN.enc y).length≤1048576:=by
  rcases (show y.kind=9∨y.kind=10∨y.kind=11∨y.kind=12 by omega) with e | e | e | e<;>(unfold LN.enc;rw [e];simp [LN.hd,b96,cl8,hr];try omega)
 exact ⟨hy.ok,fun e=>by omega,hy.f5,hy.d5,⟨h1,h2⟩,he.1,he.2,by have:=hy.dls;omega⟩
end M5
end Go.Proofs.YtlnlbdfokmhelaaGreatDoor
