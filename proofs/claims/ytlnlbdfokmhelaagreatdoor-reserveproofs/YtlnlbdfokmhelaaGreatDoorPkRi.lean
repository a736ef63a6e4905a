/-
  Contracts of the reference's Hold and Refuse; of a reservation's numbers.
-/
import Derived.Test.YtlnlbdfokmhelaaGreatDoorPkRz
import Derived.Test.YtlnlbdfokmhelaaGreatDoorPkRefE
set_option linter.unusedSectionVars false
set_option linter.constructorNameAsVariable false
set_option linter.unusedVariables false
set_option linter.unusedSimpArgs false
namespace Go.CE
namespace V
open Go.Proofs Go.Proofs.YtlnlbdfokmhelaaGreatDoor Go.RowKit
set_option maxRecDepth 100000
theorem tup3 [Sym] {τ:Sg} {t:FV} {u:Value} (h:VR τ (a2t (.t t 3)) u) : ∃ v0 v1 v2,u=.tuple #[v0,v1,v2]∧VR τ (aa5 (a1d (p4 0) t)) v0∧VR τ (aa5 (a1d (p4 1) t)) v1∧VR τ (aa5 (a1d (p4 2) t)) v2:=by
 have ha:a2t (FV.t t 3)=.t [aa5 (a1d (p4 0) t),aa5 (a1d (p4 1) t),aa5 (a1d (p4 2) t)]:=rfl
 rw [ha] at h
 obtain ⟨cc,rfl,hcc⟩:=h.aPs
 obtain ⟨v0,e0,hv0⟩:=hcc.at (i:=0) rfl
 obtain ⟨v1,e1,hv1⟩:=hcc.at (i:=1) rfl
 obtain ⟨v2,e2,hv2⟩:=hcc.at (i:=2) rfl
 refine ⟨v0,v1,v2,?_,hv0,hv1,hv2⟩
 have hs:cc.size=3:=hcc.len.symm
 congr 1
 apply Array.ext
 ·simpa using hs
 ·intro i h3 h4
  rcases (show i=0∨i=1∨i=2 by omega) with rfl | rfl | rfl
  ·simpa using (Array.getElem?_eq_some_iff.1 e0).2
  ·simpa using (Array.getElem?_eq_some_iff.1 e1).2
  ·simpa using (Array.getElem?_eq_some_iff.1 e2).2
theorem aSs [Sym] {τ:Sg} {t:FV} {u:Value} (h:VR τ (a2t (.t t 2)) u) : ∃ v0 v1,u=.tuple #[v0,v1]∧VR τ (aa5 (a1d (p4 0) t)) v0∧VR τ (aa5 (a1d (p4 1) t)) v1:=by
 have ha:a2t (FV.t t 2)=.t [aa5 (a1d (p4 0) t),aa5 (a1d (p4 1) t)]:=rfl
 rw [ha] at h
 obtain ⟨cc,rfl,hcc⟩:=h.aPs
 obtain ⟨v0,e0,hv0⟩:=hcc.at (i:=0) rfl
 obtain ⟨v1,e1,hv1⟩:=hcc.at (i:=1) rfl
 refine ⟨v0,v1,?_,hv0,hv1⟩
 have hs:cc.size=2:=hcc.len.symm
 congr 1
 apply Array.ext
 ·simpa using hs
 ·intro i h3 h4
  rcases (show i=0∨i=1 by omega) with rfl | rfl
  ·simpa using (Array.getElem?_eq_some_iff.1 e0).2
  ·simpa using (Array.getElem?_eq_some_iff.1 e1).2
theorem aBb [Sym] {τ:Sg} {x:FV} {k:IntKind} {n:Nat} {u:Value} (h:avB (a6g x) (.i k (.ofNat n))=true) (ha:aa5 x=a6g x) (hv:VR τ (aa5 x) u):u=.int k n:=by
 rw [ha,agb h] at hv
 cases hv
 rfl
theorem anc {x:FV} {k:IntKind} {n:Nat} (h:avB (a6g x) (.i k (.ofNat n))=true):aa5 x=a6g x:=by
 have:=agb h
 cases x<;>first | rfl | (simp [a6g] at this)
theorem axx [Sym] {τ:Sg} {g:FV} {own:List Nat} {me ph:Nat} {u:Value} (h1:avL (a07 g 0 5) [.i .i64 (.ofNat me),.i .i64 (.ofNat 4),.i .i64 (.ofNat 0),.i .i64 (.ofNat 90),.i .i64 (.ofNat ph)]=true) {c:AV} (h2:a6g (a1d (p4 5) g)=c) (h3:avB (a6g (a1d (p4 6) g)) (.sl none 0 0)=true) (hv:VR τ (aa5 (.g g 7)) u) :
  ∃ w,u=.agg (ownRow me 4 0 90 ph w (.slice none 0 0))∧VR τ c w:=by
 have e1:=a6h h1
 have e3:=agb h3
 have ha:aa5 (FV.g g 7)=.g ([.i .i64 (.ofNat me),.i .i64 (.ofNat 4),.i .i64 (.ofNat 0),.i .i64 (.ofNat 90),.i .i64 (.ofNat ph)] ++ [c,.sl none 0 0]):=by
  rw [← e1,← h2,← e3]
  rfl
 rw [ha] at hv
 obtain ⟨cc,rfl,hcc⟩:=hv.aot
 obtain ⟨v0,e0,hv0⟩:=hcc.at (i:=0) rfl
 obtain ⟨v1,e1,hv1⟩:=hcc.at (i:=1) rfl
 obtain ⟨v2,e2,hv2⟩:=hcc.at (i:=2) rfl
 obtain ⟨v3,e3,hv3⟩:=hcc.at (i:=3) rfl
 obtain ⟨v4,e4,hv4⟩:=hcc.at (i:=4) rfl
 obtain ⟨v5,e5,hv5⟩:=hcc.at (i:=5) rfl
 obtain ⟨v6,e6,hv6⟩:=hcc.at (i:=6) rfl
 cases hv0;cases hv1;cases hv2;cases hv3;cases hv4;cases hv6
 refine ⟨v5,?_,hv5⟩
 have hs:cc.size=7:=hcc.len.symm
 unfold ownRow
 congr 1
 apply Array.ext
 ·simpa using hs
 ·intro i h3 h4
  rcases (show i=0∨i=1∨i=2∨i=3∨i=4∨i=5∨i=6 by omega) with rfl | rfl | rfl | rfl | rfl | rfl | rfl
  ·simpa using (Array.getElem?_eq_some_iff.1 e0).2
  ·simpa using (Array.getElem?_eq_some_iff.1 e1).2
  ·simpa using (Array.getElem?_eq_some_iff.1 e2).2
  ·simpa using (Array.getElem?_eq_some_iff.1 e3).2
  ·simpa using (Array.getElem?_eq_some_iff.1 e4).2
  ·simpa using (Array.getElem?_eq_some_iff.1 e5).2
  ·simpa using (Array.getElem?_eq_some_iff.1 e6).2
def a5b (own:List Nat) (me:Nat):LN:=⟨8,0,me,4,0,90,0,own,asj⟩
theorem aQ7 (own:List Nat) (me:Nat):(ade own me).ln=a5b own me:=by
 unfold NL.ln ade a5b asj
 rw [List.map_replicate]
 rfl
theorem azf {σ:Sg} {own:List Nat} {me:Nat} {v:Value} (h:@VR S00 σ (aj1 own) v):@VR S00 σ (.g (a7c (ade own me) (aj1 own))) (.agg (LN.let (a5b own me) v).row):=by
 rw [← aQ7]
 exact @aff S00 a5k σ (ade own me) (fun n hn=>by
  rw [List.eq_of_mem_replicate hn];decide) (aj1 own) v h
theorem aub {own:List Nat} (hl:own∈a2j) {me:Nat} (hm:me∈own) {B:Nat} {W:World} {v:Value} (hv:a0h B W v own) :
  Calls Tryz.prog 99 #[.int .i64 me,.agg (LN.let (a5b own me) v).row] W fun e W' => ∃ w s,e=.returned (.tuple #[.agg (ownRow me 4 0 90 2 w (.slice none 0 0)),s,.int .i64 0])∧w.oneCell' = true∧(∃ (g:Nat→LN) (cv:Nat→Value),a5h W' s 48 62 own.length (fun i=>((g i).let (cv i)).row)∧(∀ i,i < own.length→LP 9 me own (g i))∧∀ i,i < own.length→a0h 0 W' (cv i) own)∧Below W.heap.size W W':=by
 have h0:=List.all_eq_true.1 (List.all_eq_true.1 azg own hl) me hm
 unfold aMb at h0
 split at h0
 ·rename_i t f' he
  simp only [Bool.and_eq_true] at h0
  obtain ⟨⟨h1,h2⟩,h3⟩:=h0
  split at h1
  ·rename_i g hg
   simp only [Bool.and_eq_true] at h1
   obtain ⟨⟨h11,h12⟩,h13⟩:=h1
   refine (af8 (@b4y S00 a5k) (a2h hl) hv (fun σ h=>?_) he).mono fun e W' ⟨τ,u,s',hu0,hok,hrs,hsr,hu,hb⟩=>?_
   ·exact @LV.lr S00 σ [.i .i64 (.ofNat me),.g (a7c (ade own me) (aj1 own))] [.int .i64 me,.agg (LN.let (a5b own me) v).row] ⟨@VR.i S00 σ _ _,azf h,trivial⟩
   ·obtain ⟨v0,v1,v2,rfl,q0,q1,q2⟩:=@tup3 S00 τ t u hu
    rw [hg] at q0
    obtain ⟨w,rfl,hw⟩:=@axx S00 τ g own me 2 v0 h11 _ (am5 h12) h13 q0
    obtain rfl:=@aBb S00 τ _ _ _ _ h3 (anc h3) q2
    refine ⟨w,v1,hu0,?_,aM3 h2 (hok 1 (by omega)) (a2h hl) hrs hsr q1,hb⟩
    cases hw
    rfl
  ·cases h1
 ·cases h0
noncomputable def isRef (own:List Nat) (me:Nat) (r:Ans):Bool:=match r with
 | some (.t t 2,f)=>aGu 10 me own (a1d (p4 0) t) f&&avB (a6g (a1d (p4 1) t)) (.i .i64 (.ofNat 0))
 | _=>false
theorem aoa:a2j.all (fun own=>own.all fun me=>isRef own me (aD6 tQ 100 [.i .i64 (.ofNat me),.g (a7c (ade own me) (aj1 own)),.i .i64 (.ofNat 15)] own))=true:=by decide +kernel
theorem al7 {own:List Nat} (hl:own∈a2j) {me:Nat} (hm:me∈own) {B:Nat} {W:World} {v:Value} (hv:a0h B W v own) :
  Calls Tryz.prog 100 #[.int .i64 me,.agg (LN.let (a5b own me) v).row,.int .i64 15] W fun e W' => ∃ s,e=.returned (.tuple #[s,.int .i64 0])∧(∃ (g:Nat→LN) (cv:Nat→Value),a5h W' s 48 62 own.length (fun i=>((g i).let (cv i)).row)∧(∀ i,i < own.length→LP 10 me own (g i))∧∀ i,i < own.length→a0h 0 W' (cv i) own)∧Below W.heap.size W W':=by
 have h0:=List.all_eq_true.1 (List.all_eq_true.1 aoa own hl) me hm
 unfold isRef at h0
 split at h0
 ·rename_i t f' he
  simp only [Bool.and_eq_true] at h0
  obtain ⟨h2,h3⟩:=h0
  refine (af8 (@b4y S00 a5k) (a2h hl) hv (fun σ h=>?_) he).mono fun e W' ⟨τ,u,s',hu0,hok,hrs,hsr,hu,hb⟩=>?_
  ·exact @LV.lr S00 σ [.i .i64 (.ofNat me),.g (a7c (ade own me) (aj1 own)),.i .i64 (.ofNat 15)] [.int .i64 me,.agg (LN.let (a5b own me) v).row,.int .i64 15] ⟨@VR.i S00 σ _ _,azf h,@VR.i S00 σ _ _,trivial⟩
  ·obtain ⟨v0,v1,rfl,q0,q1⟩:=@aSs S00 τ t u hu
   obtain rfl:=@aBb S00 τ _ _ _ _ h3 (anc h3) q1
   exact ⟨v0,hu0,aM3 h2 (hok 0 (by omega)) (a2h hl) hrs hsr q0,hb⟩
 ·cases h0
end V
end Go.CE
namespace Go.CE
namespace V
open Go.Proofs Go.Proofs.YtlnlbdfokmhelaaGreatDoor Go.RowKit
set_option maxRecDepth 100000
noncomputable def azb (r:Ans):Bool:=match r with
 | some (.g g 32,_)=>match a4c (a07 g 0 32) with
  | some _=>true
  | none=>false
 | _=>false
theorem ao8:a2j.all (fun own => !Nat.beq own.length 1||azb (aD6 tQ 101 [ae2 own] own))=true:=by decide +kernel
end V
end Go.CE
namespace Go.CE
namespace V
open Go.Proofs Go.Proofs.YtlnlbdfokmhelaaGreatDoor Go.RowKit
set_option maxRecDepth 100000

theorem ao7:a2j.all (fun own => !Nat.beq own.length 2||azb (aD6 tQ 101 [ae2 own] own))=true:=by decide +kernel
end V
end Go.CE
namespace Go.CE
namespace V
open Go.Proofs Go.Proofs.YtlnlbdfokmhelaaGreatDoor Go.RowKit
set_option maxRecDepth 100000

theorem ao6:a2j.all (fun own => !Nat.beq own.length 3||azb (aD6 tQ 101 [ae2 own] own))=true:=by decide +kernel
end V
end Go.CE
namespace Go.Proofs.YtlnlbdfokmhelaaGreatDoor
open Go.RowKit Go.CE.V
set_option maxRecDepth 20000
set_option maxHeartbeats 4000000
theorem aGg (x:LN) (v:Value) (m:Nat):(LN.let x v).row.setIfInBounds 3 (.int .i64 m)=(LN.let { x with mtg:=m } v).row:=by
 rw [CE.V.a1i,CE.V.a1i];simp
theorem ayw (x:LN) (v:Value) (m:Nat):(LN.let x v).row.setIfInBounds 24 (.int .i64 m)=(LN.let { x with dl:=m } v).row:=by
 rw [CE.V.a1i,CE.V.a1i];simp
theorem ayv (x:LN) (v:Value) (m:Nat):(LN.let x v).row.setIfInBounds 25 (.int .i64 m)=(LN.let { x with st:=m } v).row:=by
 rw [CE.V.a1i,CE.V.a1i];simp
theorem am2 (x:LN) (v w:Value) (l:List Nat):(LN.let x v).row.setIfInBounds 29 w=(LN.let { x with cs:=l } w).row:=by
 rw [CE.V.a1i,CE.V.a1i];simp
theorem ayu (x:LN) (v:Value) (b:UInt8) (h:x.ref.length=32):(LN.let x v).row.setIfInBounds 30 (.int .u8 b.toNat)=(LN.let { x with ref:=x.ref.set 0 b } v).row:=by
 rw [CE.V.a1i,CE.V.a1i]
 obtain ⟨a,l,e⟩ : ∃ a l,x.ref=a :: l:=by
  cases hr:x.ref with
  | nil=>rw [hr] at h;cases h
  | cons a l=>exact ⟨a,l,rfl⟩
 simp [e]
theorem aWd (x:LN) (v:Value) (h:x.ref.length=32):(LN.let x v).row[30]? = some (.int .u8 ((x.ref.getD 0 0).toNat:Nat)):=by
 rw [CE.V.a1i]
 obtain ⟨a,l,e⟩ : ∃ a l,x.ref=a :: l:=by
  cases hr:x.ref with
  | nil=>rw [hr] at h;cases h
  | cons a l=>exact ⟨a,l,rfl⟩
 simp [e]
theorem a4j {l:List UInt8} {n:Nat} (h:l.length=n+1) : ∃ a m,l=a :: m∧m.length=n:=by
 cases l with
 | nil=>simp at h
 | cons a m=>exact ⟨a,m,rfl,by simpa using h⟩
theorem aMh (r:List UInt8) (h:r.length=32) : ∃ b0 b1 b2 b3 b4 b5 b6 b7 b8 b9 b10 b11 b12 b13 b14 b15 b16 b17 b18 b19 b20 b21 b22 b23 b24 b25 b26 b27 b28 b29 b30 b31,r = [b0,b1,b2,b3,b4,b5,b6,b7,b8,b9,b10,b11,b12,b13,b14,b15,b16,b17,b18,b19,b20,b21,b22,b23,b24,b25,b26,b27,b28,b29,b30,b31]:=by
 obtain ⟨b0,m0,e0,h0⟩:=a4j h
 obtain ⟨b1,m1,e1,h1⟩:=a4j h0
 obtain ⟨b2,m2,e2,h2⟩:=a4j h1
 obtain ⟨b3,m3,e3,h3⟩:=a4j h2
 obtain ⟨b4,m4,e4,h4⟩:=a4j h3
 obtain ⟨b5,m5,e5,h5⟩:=a4j h4
 obtain ⟨b6,m6,e6,h6⟩:=a4j h5
 obtain ⟨b7,m7,e7,h7⟩:=a4j h6
 obtain ⟨b8,m8,e8,h8⟩:=a4j h7
 obtain ⟨b9,m9,e9,h9⟩:=a4j h8
 obtain ⟨b10,m10,e10,h10⟩:=a4j h9
 obtain ⟨b11,m11,e11,h11⟩:=a4j h10
 obtain ⟨b12,m12,e12,h12⟩:=a4j h11
 obtain ⟨b13,m13,e13,h13⟩:=a4j h12
 obtain ⟨b14,m14,e14,h14⟩:=a4j h13
 obtain ⟨b15,m15,e15,h15⟩:=a4j h14
 obtain ⟨b16,m16,e16,h16⟩:=a4j h15
 obtain ⟨b17,m17,e17,h17⟩:=a4j h16
 obtain ⟨b18,m18,e18,h18⟩:=a4j h17
 obtain ⟨b19,m19,e19,h19⟩:=a4j h18
 obtain ⟨b20,m20,e20,h20⟩:=a4j h19
 obtain ⟨b21,m21,e21,h21⟩:=a4j h20
 obtain ⟨b22,m22,e22,h22⟩:=a4j h21
 obtain ⟨b23,m23,e23,h23⟩:=a4j h22
 obtain ⟨b24,m24,e24,h24⟩:=a4j h23
 obtain ⟨b25,m25,e25,h25⟩:=a4j h24
 obtain ⟨b26,m26,e26,h26⟩:=a4j h25
 obtain ⟨b27,m27,e27,h27⟩:=a4j h26
 obtain ⟨b28,m28,e28,h28⟩:=a4j h27
 obtain ⟨b29,m29,e29,h29⟩:=a4j h28
 obtain ⟨b30,m30,e30,h30⟩:=a4j h29
 obtain ⟨b31,m31,e31,h31⟩:=a4j h30
 obtain rfl:=List.eq_nil_of_length_eq_zero h31
 exact ⟨b0,b1,b2,b3,b4,b5,b6,b7,b8,b9,b10,b11,b12,b13,b14,b15,b16,b17,b18,b19,b20,b21,b22,b23,b24,b25,b26,b27,b28,b29,b30,b31,by rw [e0,e1,e2,e3,e4,e5,e6,e7,e8,e9,e10,e11,e12,e13,e14,e15,e16,e17,e18,e19,e20,e21,e22,e23,e24,e25,e26,e27,e28,e29,e30,e31]⟩
def ab1 (own:List Nat) (me kd st:Nat) (r:List UInt8):LN:=⟨kd,0,me,4,0,0,st,own,r⟩
theorem as6 (own:List Nat) (me:Nat) (v:Value) (r:List UInt8) (h:r.length=32):Array.foldl (fun cs (x:Value×Nat)=>cs.setIfInBounds (30+x.snd) x.fst) (#[.int .i64 11,.int .i64 0,.int .i64 me,.int .i64 4,.int .i64 0,.int .i64 0,.int .i64 0,.int .i64 0,.int .i64 0,.int .i64 0,.int .i64 0,.int .i64 0,.int .i64 0,.bool false,.int .i64 0,.int .i64 0,.int .i64 0,.slice none 0 0,.int .i64 0,.int .i64 0,.string ⟨#[]⟩,.int .i64 0,.int .i64 0,.slice none 0 0,.int .i64 0,.int .i64 1,.int .i64 0,.int .i64 0,.int .i64 0,v,.int .u8 0,.int .u8 0,.int .u8 0,.int .u8 0,.int .u8 0,.int .u8 0,.int .u8 0,.int .u8 0,.int .u8 0,.int .u8 0,.int .u8 0,.int .u8 0,.int .u8 0,.int .u8 0,.int .u8 0,.int .u8 0,.int .u8 0,.int .u8 0,.int .u8 0,.int .u8 0,.int .u8 0,.int .u8 0,.int .u8 0,.int .u8 0,.int .u8 0,.int .u8 0,.int .u8 0,.int .u8 0,.int .u8 0,.int .u8 0,.int .u8 0,.int .u8 0]:Array Value) (a0i r).zipIdx 0 32=(LN.let (ab1 own me 11 1 r) v).row:=by
 rw [CE.V.a1i]
 obtain ⟨b0,b1,b2,b3,b4,b5,b6,b7,b8,b9,b10,b11,b12,b13,b14,b15,b16,b17,b18,b19,b20,b21,b22,b23,b24,b25,b26,b27,b28,b29,b30,b31,e⟩:=aMh r h
 subst e
 kernel_rfl
theorem aI6 (own:List Nat) (me:Nat) (v:Value) (r:List UInt8) (h:r.length=32):Array.foldl (fun cs (x:Value×Nat)=>cs.setIfInBounds (30+x.snd) x.fst) (#[.int .i64 12,.int .i64 0,.int .i64 me,.int .i64 4,.int .i64 0,.int .i64 0,.int .i64 0,.int .i64 0,.int .i64 0,.int .i64 0,.int .i64 0,.int .i64 0,.int .i64 0,.bool false,.int .i64 0,.int .i64 0,.int .i64 0,.slice none 0 0,.int .i64 0,.int .i64 0,.string ⟨#[]⟩,.int .i64 0,.int .i64 0,.slice none 0 0,.int .i64 0,.int .i64 15,.int .i64 0,.int .i64 0,.int .i64 0,v,.int .u8 0,.int .u8 0,.int .u8 0,.int .u8 0,.int .u8 0,.int .u8 0,.int .u8 0,.int .u8 0,.int .u8 0,.int .u8 0,.int .u8 0,.int .u8 0,.int .u8 0,.int .u8 0,.int .u8 0,.int .u8 0,.int .u8 0,.int .u8 0,.int .u8 0,.int .u8 0,.int .u8 0,.int .u8 0,.int .u8 0,.int .u8 0,.int .u8 0,.int .u8 0,.int .u8 0,.int .u8 0,.int .u8 0,.int .u8 0,.int .u8 0,.int .u8 0]:Array Value) (a0i r).zipIdx 0 32=(LN.let (ab1 own me 12 15 r) v).row:=by
 rw [CE.V.a1i]
 obtain ⟨b0,b1,b2,b3,b4,b5,b6,b7,b8,b9,b10,b11,b12,b13,b14,b15,b16,b17,b18,b19,b20,b21,b22,b23,b24,b25,b26,b27,b28,b29,b30,b31,e⟩:=aMh r h
 subst e
 kernel_rfl
theorem aAa {own:List Nat} (hl:own∈a2j) {me:Nat} (hm:me∈own) {kd st:Nat} (hk:kd=11∨kd=12) (hs:st≤18) {r:List UInt8} (hr:r.length=32):(ab1 own me kd st r).Ok:=by
 have h1:∀ l∈a2j,∀ m∈l,m < 16∧m≠0:=by decide
 have h2:∀ l∈a2j,(∀ c∈l,c < 16)∧l.Pairwise (· < ·)∧l.length≤4∧CE.V.shB 11 l.length=true∧CE.V.shB 12 l.length=true:=by decide
 obtain ⟨q1,q2,q3,q4,q5⟩:=h2 own hl
 obtain ⟨m1,m2⟩:=h1 own hl me hm
 refine ⟨by show kd=8∨kd=9∨kd=10∨kd=11∨kd=12∨kd=13∨kd=14∨kd=18;omega,by show 0 < 16;omega,m1,fun e=>m2 e.symm,by show 1≤4;omega,by show 4≤1099511627776;omega,by show 0≤255;omega,fun _ _=>rfl,by show 0≤2251799813685248;omega,fun _ _=>rfl,hs,?_,?_,q1,q2,q3,?_,hr,?_,?_⟩
 ·intro e
  have e:kd=14:=e
  omega
 ·intro e
  have e:kd=8∨kd=9∨kd=13∨kd=18:=e
  omega
 ·intro e
  have e:kd=18:=e
  omega
 ·intro e
  have e:kd=8∨kd=13:=e
  omega
 ·show CE.V.shB kd own.length=true
  rcases hk with rfl | rfl
  ·exact q4
  ·exact q5
theorem atc {W:World} {x:LN} {v:Value} (hx:x.Ok) (hk:x.kind=8∨x.kind=9∨x.kind=10) (hn:x.cs≠[]) (h3:x.cs.length≤3) (hv:a0h 0 W v x.cs) (h1:(LN.enc x).length≤1048576) :
  Calls Tryz.prog 127 #[.agg (LN.let x v).row] W fun r W'=>r=.returned (.tuple #[.agg (a0i (a3t (LN.enc x))),.int .i64 0])∧Below W.heap.size W W':=by
 have lz:=a0e (LN.let x v) hx.ref
 have la:=a15 (LN.let x v) hx.ref
 have HB:=Lib.hid (fun w' (hb:Below W.heap.size W w')=>ad9 hx hk hn h3 (hv.below hb))
 have r1:(a0i (a3t (LN.enc x))).size=32:=by rw [a0o,a13]
 have r2:(a0i (a3t (LN.enc x))).extract 0 32=a0i (a3t (LN.enc x)):=a2v _ _ (a13 _)
 have r3:ones (a0i (a3t (LN.enc x)))=true:=a1t _
 have HS:=Lib.hid (fun w' v' (hv':acd w' v' (LN.enc x))=>ahd (LN.enc x) v' (by omega) w' hv')
 generalize a0i (a3t (LN.enc x))=R at *
 have k0:Below W.heap.size W ((W.alloc (.cells (LN.let x v).row 48 (0,0))).alloc (.cells z46 46 (0,0))):=((Below.refl _ _).alloc (Nat.le_refl _) _).alloc (by simp) _
 have k2:obj ((W.alloc (.cells (LN.let x v).row 48 (0,0))).alloc (.cells z46 46 (0,0))) (W.heap.size+1)=some (.cells z46 46 (0,0)):=a03 _ _ _ (by simp)
 go_enter Tryz.func127,Tryz.ntmps127
 repeat' (first | (go_at_call 169;((with_reducible refine (HB.out _ k0).mono ?_));rintro r w1 ⟨s,rfl,hs,hb1⟩;have m2:=a00 k2 hb1 (a04 k2);have mB:=k0.trans (hb1.mono k0.size);have hs1:=awv hs;dsimp only) | (go_at_call 155;((with_reducible refine (HS.out _ _ hs1).mono ?_));rintro r w2 ⟨rfl,hb2⟩;have p2:=a00 m2 hb2 (a04 m2);have pB:=mB.trans (hb2.mono mB.size);dsimp only) | go_skip | go_guarded | go_step | go_upon)
 refine bodyPost_ret (a0d rfl _ _ (W.heap.size+1) 46 R _ _ (.int .i64 0) rfl (setRow_heap _ _ _ _ _ _ p2) Tryz.underlying46 rfl (by rw [r1];kernel_rfl) rfl) rfl ?_
 exact ⟨rfl,below_setRow pB (by omega) _⟩
theorem ao5 {W:World} {x:LN} {v u:Value} {mtg org dl:Nat} (hx:(LN.to x org).Ok) (hk:x.kind=8∨x.kind=9∨x.kind=10) (hn:x.cs≠[]) (h3:x.cs.length≤3) (hv:a0h 0 W v x.cs) (h1:(LN.enc (LN.to x org)).length≤1048576) (hu:u.oneCell' = true) :
  Calls Tryz.prog 102 #[.agg (a06 mtg org dl u),.agg (LN.let x v).row] W fun r W'=>r=.returned (.agg (a0i (a2k org x)))∧Below W.heap.size W W':=by
 have lz:=a0e (LN.let x v) hx.ref
 have la:=a15 (LN.let x v) hx.ref
 have lz2:=a0e (LN.let (LN.to x org) v) hx.ref
 have la2:=a15 (LN.let (LN.to x org) v) hx.ref
 have hset:=ajg x v org
 have b3s:=a3c mtg org dl hu
 have r1:(a0i (a2k org x)).size=32:=by rw [a0o,a4n]
 have r2:(a0i (a2k org x)).extract 0 32=a0i (a2k org x):=a2v _ _ (a4n _ _)
 have r3:ones (a0i (a2k org x))=true:=a1t _
 have HR:=Lib.hid (fun w' (hb:Below W.heap.size W w')=>atc hx hk hn h3 (hv.below hb) h1)
 rw [show a3t (LN.enc (LN.to x org))=a2k org x from rfl] at HR
 have k1:obj (((W.alloc (.cells (a06 mtg org dl u) 61 (0,0))).alloc (.cells (LN.let x v).row 48 (0,0))).alloc (.cells z46 46 (0,0))) W.heap.size=some (.cells (a06 mtg org dl u) 61 (0,0)):=a02 (a02 (a03 _ _ _ rfl) _) _
 have k2:obj (((W.alloc (.cells (a06 mtg org dl u) 61 (0,0))).alloc (.cells (LN.let x v).row 48 (0,0))).alloc (.cells z46 46 (0,0))) (W.heap.size+1)=some (.cells (LN.let x v).row 48 (0,0)):=a02 (a03 _ _ _ (by simp)) _
 have k3:obj (((W.alloc (.cells (a06 mtg org dl u) 61 (0,0))).alloc (.cells (LN.let x v).row 48 (0,0))).alloc (.cells z46 46 (0,0))) (W.heap.size+1+1)=some (.cells z46 46 (0,0)):=a03 _ _ _ (by simp)
 have kB:Below W.heap.size W (((W.alloc (.cells (a06 mtg org dl u) 61 (0,0))).alloc (.cells (LN.let x v).row 48 (0,0))).alloc (.cells z46 46 (0,0))):=(((Below.refl _ _).alloc (Nat.le_refl _) _).alloc (by simp) _).alloc (by simp;omega) _
 have c1:=(a01 k1 1).trans (aof _ _ _ _)
 have q3:obj (((W.alloc (.cells (a06 mtg org dl u) 61 (0,0))).alloc (.cells (LN.let (LN.to x org) v).row 48 (0,0))).alloc (.cells z46 46 (0,0))) (W.heap.size+1+1)=some (.cells z46 46 (0,0)):=a03 _ _ _ (by simp)
 have qB:Below W.heap.size W (((W.alloc (.cells (a06 mtg org dl u) 61 (0,0))).alloc (.cells (LN.let (LN.to x org) v).row 48 (0,0))).alloc (.cells z46 46 (0,0))):=(((Below.refl _ _).alloc (Nat.le_refl _) _).alloc (by simp) _).alloc (by simp;omega) _
 have hv2:x.cs=(LN.to x org).cs:=rfl
 clear hv
 generalize a0i (a2k org x)=R at *
 go_enter Tryz.func102,Tryz.ntmps102
 repeat' (first | (go_at_call 127;((with_reducible refine (HR.out _ qB).mono ?_));rintro r w1 ⟨rfl,hb1⟩;have m3:=a00 q3 hb1 (by simp);have mB:=qB.trans (hb1.mono qB.size);have p3:=a02 m3 (.cells R 46 (0,0));have pB:=mB.alloc mB.size (.cells R 46 (0,0));dsimp only) | go_skip | go_guarded | go_step | go_upon)
 refine bodyPost_ret (results_cell_row rfl _ _ (W.heap.size+1+1) 46 R _ _ rfl (setRow_heap _ _ _ _ _ _ p3) Tryz.underlying46 rfl (by rw [r1];kernel_rfl)) rfl ?_
 exact ⟨rfl,below_setRow pB (by omega) _⟩
end Go.Proofs.YtlnlbdfokmhelaaGreatDoor
