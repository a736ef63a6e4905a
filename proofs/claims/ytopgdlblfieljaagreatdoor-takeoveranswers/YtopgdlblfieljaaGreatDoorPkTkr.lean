/-
  The marks of inquiries, reckoned by the kernel over the lists of owners.
-/
import Derived.Test.YtopgdlblfieljaaGreatDoorPkTka
import Derived.Test.YtopgdlblfieljaaGreatDoorPkRi
import Derived.Test.YtopgdlblfieljaaGreatDoorPkTab
set_option linter.unusedSectionVars false
set_option linter.constructorNameAsVariable false
set_option linter.unusedVariables false
set_option linter.unusedSimpArgs false
namespace Go.CE
namespace V
open Go.Proofs Go.Proofs.YtopgdlblfieljaaGreatDoor Go.RowKit
set_option maxRecDepth 100000
section
variable [Sym] [a0n]
noncomputable def tD:LT:=.n 71 (atq afi) (aiz afi) (.n 46 (atq avs) (aiz avs) .e .e) (.n 79 (asy a5l) (aik a5l) .e (.n 95 (aZ2 a5l) (aNe a5l) .e .e))
theorem allD:tD.all (Good P):=⟨aov,⟨avr,trivial,trivial⟩,⟨ach,trivial,⟨aA5,trivial,trivial⟩⟩⟩
end
noncomputable def runD (f:Nat) (a:List AV) (l:List Nat):Ans:=@evF S00 P (LT.fq tD) 4000 f (a.map ofV) (fsT l)
theorem own_runD {l:List Nat} (h0:l≠[]) {B:Nat} {W:World} {v:Value} (hT:ase W) (hv:a0h B W v l) {f:Nat} {a:List AV} {vals:Array Value} {r:FV} {f':QW}
  (hl:∀ σ,@VR S00 σ (aj1 l) v→@LR S00 σ a vals) (he:runD f a l=some (r,f')) :
  Calls Tryz.prog f vals W fun e W' => ∃ τ u s',e=.returned u∧okV r∧@RS 2048 s' f'∧@SR S00 Tryz.prog W.heap.size τ s'.mem W'∧@VR S00 τ (a2t r) u∧Below W.heap.size W W':=by
 obtain ⟨σ,m,hg,hfr,hsr,hrs,hvr⟩:=aqu h0 hT hv
 refine (@a3r S00 a5k tD (@allD S00 a5k) 4000 f _ a m _ r f' σ W vals hrs hg hsr hfr (@aaf S00 a5k _) (hl σ hvr) he).mono fun e W' hd=>?_
 obtain ⟨τ,u,s',h1,h2,h3,_,h5,h6,h7⟩:=hd
 exact ⟨τ,u,s',h1,h2,h3,h5,h6,h7⟩
theorem bytes_back [Sym] {τ:Sg} {l:List UInt8} {u:Value} (h:VR τ (.g (l.map a5d)) u):u=.agg (a0i l):=by
 obtain ⟨cc,rfl,hcc⟩:=h.aot
 congr 1
 have hs:cc.size=l.length:=by rw [← hcc.len,List.length_map]
 apply Array.ext
 ·rw [hs,a0o]
 ·intro i h1 h2
  have hi:i < l.length:=by omega
  obtain ⟨v,e,hv⟩:=hcc.at (i:=i) (x:=a5d l[i]) (by simp [hi])
  have e1:=(Array.getElem?_eq_some_iff.1 e).2
  rw [e1]
  cases hv
  simp [a0i]
def inqNL (l:List Nat) (a b:Nat):NL:=⟨13,a,b,4,0,0,0,l,List.replicate 32 0⟩
theorem inq_ln (l:List Nat) (a b:Nat):(inqNL l a b).ln=inqL l a b:=by
 unfold NL.ln inqNL inqL asj
 rw [List.map_replicate]
 rfl
theorem inq_vr {σ:Sg} {l:List Nat} {a b:Nat} {v:Value} (h:@VR S00 σ (aj1 l) v):@VR S00 σ (.g (a7c (inqNL l a b) (aj1 l))) (.agg (LN.let (inqL l a b) v).row):=by
 rw [← inq_ln]
 exact @aff S00 a5k σ (inqNL l a b) (fun n hn=>by
  rw [List.eq_of_mem_replicate hn];decide) (aj1 l) v h
def allP (p:List Nat→Nat→Nat→Bool):Bool:=tLs.all fun l=>l.all fun a=>l.all fun b=>a == b||p l a b
theorem allP_of {p:List Nat→Nat→Nat→Bool} (h:allP p=true) {l:List Nat} (hl:l∈tLs) {a:Nat} (ha:a∈l) {b:Nat} (hb:b∈l) (hne:a≠b):p l a b=true:=by
 have:=List.all_eq_true.1 (List.all_eq_true.1 (List.all_eq_true.1 h l hl) a ha) b hb
 simpa [hne] using this
noncomputable def isMk (l:List Nat) (a b:Nat) (r:Ans):Bool:=match r with
 | some (.t t 2,_)=>(match a1d (p4 0) t with
  | .g g 32=>avL (a07 g 0 32) ((shaV (a0j (LN.enc (inqL l a b)))).map a3m)
  | _=>false)&&avB (a6g (a1d (p4 1) t)) (.i .i64 (.ofNat 0))
 | _=>false
theorem mk_runs:allP (fun l a b=>isMk l a b (runD 70 [.g (a7c (inqNL l a b) (aj1 l))] l))=true:=by decide +kernel
theorem rmk_runs:allP (fun l a b=>isMk l a b (runD 50 [.g (a7c (inqNL l a b) (aj1 l))] l))=true:=by decide +kernel
theorem mk_calls {f:Nat} (hr:allP (fun l a b=>isMk l a b (runD f [.g (a7c (inqNL l a b) (aj1 l))] l))=true) {l:List Nat} (hl:l∈tLs) {a:Nat} (ha:a∈l) {b:Nat} (hb:b∈l) (hne:a≠b) {B:Nat} {W:World} {v:Value} (hT:ase W) (hv:a0h B W v l) :
  Calls Tryz.prog f #[.agg (LN.let (inqL l a b) v).row] W fun e W'=>e=.returned (.tuple #[.agg (a0i (a3t (LN.enc (inqL l a b)))),.int .i64 0])∧Below W.heap.size W W':=by
 have h0:=allP_of hr hl ha hb hne
 unfold isMk at h0
 split at h0
 ·rename_i t f' he
  simp only [Bool.and_eq_true] at h0
  obtain ⟨h1,h2⟩:=h0
  split at h1
  ·rename_i g hg
   refine (own_runD (tLs_ne hl) hT hv (fun σ h=>?_) he).mono fun e W' ⟨τ,u,s',hu0,hok,hrs,hsr,hu,hb⟩=>?_
   ·exact @LV.lr S00 σ [.g (a7c (inqNL l a b) (aj1 l))] [.agg (LN.let (inqL l a b) v).row] ⟨inq_vr h,trivial⟩
   ·obtain ⟨v0,v1,rfl,q0,q1⟩:=@aSs S00 τ t u hu
    obtain rfl:=@aBb S00 τ _ _ _ _ h2 (anc h2) q1
    rw [hg] at q0
    have e1:=a6h h1
    rw [aNo,aa2] at e1
    have q2:@VR S00 τ (.g (a07 g 0 32)) v0:=q0
    rw [e1] at q2
    rw [@bytes_back S00 τ _ v0 q2] at hu0
    exact ⟨hu0,hb⟩
  ·cases h1
 ·cases h0
end V
end Go.CE
