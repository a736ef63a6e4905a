/-
  Contracts of the reference's Hold and Refuse; of a reservation's numbers.
-/
import Derived.Test.YtlnlbdfokmhelaaGreatDoorPkRz
import Derived.Test.YtlnlbdfokmhelaaGreatDoorPkRefE
set_option linter.unusedSectionVars false
set_option linter.constructorNameAsVariable false
set_option linter.unusedVariables false
set_option linter.unusedSimpArgs false
namespace Go.CE
namespace V
open Go.Proofs Go.Proofs.YtlnlbdfokmhelaaGreatDoor Go.RowKit
set_option maxRecDepth 100000
theorem tup3 [Sym] {τ:Sg} {t:FV} {u:Value} (h:VR τ (b8x (.t t 3)) u) : ∃ v0 v1 v2,u=.tuple #[v0,v1,v2]∧VR τ (bfc (aRb (p4 0) t)) v0∧VR τ (bfc (aRb (p4 1) t)) v1∧VR τ (bfc (aRb (p4 2) t)) v2:=by
 have ha:b8x (FV.t t 3)=.t [bfc (aRb (p4 0) t),bfc (aRb (p4 1) t),bfc (aRb (p4 2) t)]:=rfl
 rw [ha] at h
 obtain ⟨cc,rfl,hcc⟩:=h.bV6
 obtain ⟨v0,e0,hv0⟩:=hcc.at (i:=0) rfl
 obtain ⟨v1,e1,hv1⟩:=hcc.at (i:=1) rfl
 obtain ⟨v2,e2,hv2⟩:=hcc.at (i:=2) rfl
 refine ⟨v0,v1,v2,?_,hv0,hv1,hv2⟩
 have hs:cc.size=3:=hcc.len.symm
 congr 1
 apply Array.ext
 ·simpa using hs
 ·intro i h3 h4
  rcases (show i=0∨i=1∨i=2 by omega) with rfl | rfl | rfl
  ·simpa using (Array.getElem?_eq_some_iff.1 e0).2
  ·simpa using (Array.getElem?_eq_some_iff.1 e1).2
  ·simpa using (Array.getElem?_eq_some_iff.1 e2).2
theorem bY9 [Sym] {τ:Sg} {t:FV} {u:Value} (h:VR τ (b8x (.t t 2)) u) : ∃ v0 v1,u=.tuple #[v0,v1]∧VR τ (bfc (aRb (p4 0) t)) v0∧VR τ (bfc (aRb (p4 1) t)) v1:=by
 have ha:b8x (FV.t t 2)=.t [bfc (aRb (p4 0) t),bfc (aRb (p4 1) t)]:=rfl
 rw [ha] at h
 obtain ⟨cc,rfl,hcc⟩:=h.bV6
 obtain ⟨v0,e0,hv0⟩:=hcc.at (i:=0) rfl
 obtain ⟨v1,e1,hv1⟩:=hcc.at (i:=1) rfl
 refine ⟨v0,v1,?_,hv0,hv1⟩
 have hs:cc.size=2:=hcc.len.symm
 congr 1
 apply Array.ext
 ·simpa using hs
 ·intro i h3 h4
  rcases (show i=0∨i=1 by omega) with rfl | rfl
  ·simpa using (Array.getElem?_eq_some_iff.1 e0).2
  ·simpa using (Array.getElem?_eq_some_iff.1 e1).2
theorem bH0 [Sym] {τ:Sg} {x:FV} {k:IntKind} {n:Nat} {u:Value} (h:avB (bbo x) (.i k (.ofNat n))=true) (ha:bfc x=bbo x) (hv:VR τ (bfc x) u):u=.int k n:=by
 rw [ha,bl9 h] at hv
 cases hv
 rfl
theorem bsy {x:FV} {k:IntKind} {n:Nat} (h:avB (bbo x) (.i k (.ofNat n))=true):bfc x=bbo x:=by
 have:=bl9 h
 cases x<;>first | rfl | (simp [bbo] at this)
theorem bCz [Sym] {τ:Sg} {g:FV} {own:List Nat} {me ph:Nat} {u:Value} (h1:avL (ajn g 0 5) [.i .i64 (.ofNat me),.i .i64 (.ofNat 4),.i .i64 (.ofNat 0),.i .i64 (.ofNat 90),.i .i64 (.ofNat ph)]=true) {c:AV} (h2:bbo (aRb (p4 5) g)=c) (h3:avB (bbo (aRb (p4 6) g)) (.sl none 0 0)=true) (hv:VR τ (bfc (.g g 7)) u) :
  ∃ w,u=.agg (ownRow me 4 0 90 ph w (.slice none 0 0))∧VR τ c w:=by
 have e1:=bbq h1
 have e3:=bl9 h3
 have ha:bfc (FV.g g 7)=.g ([.i .i64 (.ofNat me),.i .i64 (.ofNat 4),.i .i64 (.ofNat 0),.i .i64 (.ofNat 90),.i .i64 (.ofNat ph)] ++ [c,.sl none 0 0]):=by
  rw [← e1,← h2,← e3]
  rfl
 rw [ha] at hv
 obtain ⟨cc,rfl,hcc⟩:=hv.buc
 obtain ⟨v0,e0,hv0⟩:=hcc.at (i:=0) rfl
 obtain ⟨v1,e1,hv1⟩:=hcc.at (i:=1) rfl
 obtain ⟨v2,e2,hv2⟩:=hcc.at (i:=2) rfl
 obtain ⟨v3,e3,hv3⟩:=hcc.at (i:=3) rfl
 obtain ⟨v4,e4,hv4⟩:=hcc.at (i:=4) rfl
 obtain ⟨v5,e5,hv5⟩:=hcc.at (i:=5) rfl
 obtain ⟨v6,e6,hv6⟩:=hcc.at (i:=6) rfl
 cases hv0;cases hv1;cases hv2;cases hv3;cases hv4;cases hv6
 refine ⟨v5,?_,hv5⟩
 have hs:cc.size=7:=hcc.len.symm
 unfold ownRow
 congr 1
 apply Array.ext
 ·simpa using hs
 ·intro i h3 h4
  rcases (show i=0∨i=1∨i=2∨i=3∨i=4∨i=5∨i=6 by omega) with rfl | rfl | rfl | rfl | rfl | rfl | rfl
  ·simpa using (Array.getElem?_eq_some_iff.1 e0).2
  ·simpa using (Array.getElem?_eq_some_iff.1 e1).2
  ·simpa using (Array.getElem?_eq_some_iff.1 e2).2
  ·simpa using (Array.getElem?_eq_some_iff.1 e3).2
  ·simpa using (Array.getElem?_eq_some_iff.1 e4).2
  ·simpa using (Array.getElem?_eq_some_iff.1 e5).2
  ·simpa using (Array.getElem?_eq_some_iff.1 e6).2
end V
end Go.CE
namespace Go.CE
namespace V
open Go.Proofs Go.Proofs.YtlnlbdfokmhelaaGreatDoor Go.RowKit
set_option maxRecDepth 100000
noncomputable def bEn (r:Ans):Bool:=match r with
 | some (.g g 32,_)=>match b9y (ajn g 0 32) with
  | some _=>true
  | none=>false
 | _=>false
end V
end Go.CE
namespace Go.Proofs.YtlnlbdfokmhelaaGreatDoor
open Go.RowKit Go.CE.V
set_option maxRecDepth 20000
set_option maxHeartbeats 4000000
theorem c2j (x:LN) (v:Value) (h:x.ref.length=32):(LN.let x v).row[30]? = some (.int .u8 ((x.ref.getD 0 0).toNat:Nat)):=by
 rw [CE.V.aRc]
 obtain ⟨a,l,e⟩ : ∃ a l,x.ref=a :: l:=by
  cases hr:x.ref with
  | nil=>rw [hr] at h;cases h
  | cons a l=>exact ⟨a,l,rfl⟩
 simp [e]
theorem ba5 {l:List UInt8} {n:Nat} (h:l.length=n+1) : ∃ a m,l=a :: m∧m.length=n:=by
 cases l with
 | nil=>simp at h
 | cons a m=>exact ⟨a,m,rfl,by simpa using h⟩
theorem bRt (r:List UInt8) (h:r.length=32) : ∃ b0 b1 b2 b3 b4 b5 b6 b7 b8 b9 b10 b11 b12 b13 b14 b15 b16 b17 b18 b19 b20 b21 b22 b23 b24 b25 b26 b27 b28 b29 b30 b31,r = [b0,b1,b2,b3,b4,b5,b6,b7,b8,b9,b10,b11,b12,b13,b14,b15,b16,b17,b18,b19,b20,b21,b22,b23,b24,b25,b26,b27,b28,b29,b30,b31]:=by
 obtain ⟨b0,m0,e0,h0⟩:=ba5 h
 obtain ⟨b1,m1,e1,h1⟩:=ba5 h0
 obtain ⟨b2,m2,e2,h2⟩:=ba5 h1
 obtain ⟨b3,m3,e3,h3⟩:=ba5 h2
 obtain ⟨b4,m4,e4,h4⟩:=ba5 h3
 obtain ⟨b5,m5,e5,h5⟩:=ba5 h4
 obtain ⟨b6,m6,e6,h6⟩:=ba5 h5
 obtain ⟨b7,m7,e7,h7⟩:=ba5 h6
 obtain ⟨b8,m8,e8,h8⟩:=ba5 h7
 obtain ⟨b9,m9,e9,h9⟩:=ba5 h8
 obtain ⟨b10,m10,e10,h10⟩:=ba5 h9
 obtain ⟨b11,m11,e11,h11⟩:=ba5 h10
 obtain ⟨b12,m12,e12,h12⟩:=ba5 h11
 obtain ⟨b13,m13,e13,h13⟩:=ba5 h12
 obtain ⟨b14,m14,e14,h14⟩:=ba5 h13
 obtain ⟨b15,m15,e15,h15⟩:=ba5 h14
 obtain ⟨b16,m16,e16,h16⟩:=ba5 h15
 obtain ⟨b17,m17,e17,h17⟩:=ba5 h16
 obtain ⟨b18,m18,e18,h18⟩:=ba5 h17
 obtain ⟨b19,m19,e19,h19⟩:=ba5 h18
 obtain ⟨b20,m20,e20,h20⟩:=ba5 h19
 obtain ⟨b21,m21,e21,h21⟩:=ba5 h20
 obtain ⟨b22,m22,e22,h22⟩:=ba5 h21
 obtain ⟨b23,m23,e23,h23⟩:=ba5 h22
 obtain ⟨b24,m24,e24,h24⟩:=ba5 h23
 obtain ⟨b25,m25,e25,h25⟩:=ba5 h24
 obtain ⟨b26,m26,e26,h26⟩:=ba5 h25
 obtain ⟨b27,m27,e27,h27⟩:=ba5 h26
 obtain ⟨b28,m28,e28,h28⟩:=ba5 h27
 obtain ⟨b29,m29,e29,h29⟩:=ba5 h28
 obtain ⟨b30,m30,e30,h30⟩:=ba5 h29
 obtain ⟨b31,m31,e31,h31⟩:=ba5 h30
 obtain rfl:=List.eq_nil_of_length_eq_zero h31
 exact ⟨b0,b1,b2,b3,b4,b5,b6,b7,b8,b9,b10,b11,b12,b13,b14,b15,b16,b17,b18,b19,b20,b21,b22,b23,b24,b25,b26,b27,b28,b29,b30,b31,by rw [e0,e1,e2,e3,e4,e5,e6,e7,e8,e9,e10,e11,e12,e13,e14,e15,e16,e17,e18,e19,e20,e21,e22,e23,e24,e25,e26,e27,e28,e29,e30,e31]⟩
theorem byj {W:World} {x:LN} {v:Value} (hx:x.Ok) (hk:x.kind=8∨x.kind=9∨x.kind=10) (hn:x.cs≠[]) (h3:x.cs.length≤3) (hv:as1 0 W v x.cs) (h1:(LN.enc x).length≤1048576) :
  Calls Tryz.prog 127 #[.agg (LN.let x v).row] W fun r W'=>r=.returned (.tuple #[.agg (as3 (b9o (LN.enc x))),.int .i64 0])∧Below W.heap.size W W':=by
 have lz:=as4 (LN.let x v) hx.ref
 have la:=aI7 (LN.let x v) hx.ref
 have HB:=Lib.hid (fun w' (hb:Below W.heap.size W w')=>bi3 hx hk hn h3 (hv.below hb))
 have r1:(as3 (b9o (LN.enc x))).size=32:=by rw [ave,aBi]
 have r2:(as3 (b9o (LN.enc x))).extract 0 32=as3 (b9o (LN.enc x)):=b90 _ _ (aBi _)
 have r3:ones (as3 (b9o (LN.enc x)))=true:=aZ1 _
 have HS:=Lib.hid (fun w' v' (hv':bhe w' v' (LN.enc x))=>bma (LN.enc x) v' (by omega) w' hv')
 generalize as3 (b9o (LN.enc x))=R at *
 have k0:Below W.heap.size W ((W.alloc (.cells (LN.let x v).row 48 (0,0))).alloc (.cells z46 46 (0,0))):=((Below.refl _ _).alloc (Nat.le_refl _) _).alloc (by simp) _
 have k2:obj ((W.alloc (.cells (LN.let x v).row 48 (0,0))).alloc (.cells z46 46 (0,0))) (W.heap.size+1)=some (.cells z46 46 (0,0)):=aff _ _ _ (by simp)
 go_enter Tryz.func127,Tryz.ntmps127
 repeat' (first | (go_at_call 169;((with_reducible refine (HB.out _ k0).mono ?_));rintro r w1 ⟨s,rfl,hs,hb1⟩;have m2:=aa1 k2 hb1 (ah1 k2);have mB:=k0.trans (hb1.mono k0.size);have hs1:=bBu hs;dsimp only) | (go_at_call 155;((with_reducible refine (HS.out _ _ hs1).mono ?_));rintro r w2 ⟨rfl,hb2⟩;have p2:=aa1 m2 hb2 (ah1 m2);have pB:=mB.trans (hb2.mono mB.size);dsimp only) | go_skip | go_guarded | go_step | go_upon)
 refine bodyPost_ret (aq1 rfl _ _ (W.heap.size+1) 46 R _ _ (.int .i64 0) rfl (setRow_heap _ _ _ _ _ _ p2) Tryz.underlying46 rfl (by rw [r1];kernel_rfl) rfl) rfl ?_
 exact ⟨rfl,below_setRow pB (by omega) _⟩
theorem bto {W:World} {x:LN} {v u:Value} {mtg org dl:Nat} (hx:(LN.to x org).Ok) (hk:x.kind=8∨x.kind=9∨x.kind=10) (hn:x.cs≠[]) (h3:x.cs.length≤3) (hv:as1 0 W v x.cs) (h1:(LN.enc (LN.to x org)).length≤1048576) (hu:u.oneCell' = true) :
  Calls Tryz.prog 102 #[.agg (ah6 mtg org dl u),.agg (LN.let x v).row] W fun r W'=>r=.returned (.agg (as3 (b8p org x)))∧Below W.heap.size W W':=by
 have lz:=as4 (LN.let x v) hx.ref
 have la:=aI7 (LN.let x v) hx.ref
 have lz2:=as4 (LN.let (LN.to x org) v) hx.ref
 have la2:=aI7 (LN.let (LN.to x org) v) hx.ref
 have hset:=boi x v org
 have c9i:=b8r mtg org dl hu
 have r1:(as3 (b8p org x)).size=32:=by rw [ave,ba8]
 have r2:(as3 (b8p org x)).extract 0 32=as3 (b8p org x):=b90 _ _ (ba8 _ _)
 have r3:ones (as3 (b8p org x))=true:=aZ1 _
 have HR:=Lib.hid (fun w' (hb:Below W.heap.size W w')=>byj hx hk hn h3 (hv.below hb) h1)
 rw [show b9o (LN.enc (LN.to x org))=b8p org x from rfl] at HR
 have k1:obj (((W.alloc (.cells (ah6 mtg org dl u) 61 (0,0))).alloc (.cells (LN.let x v).row 48 (0,0))).alloc (.cells z46 46 (0,0))) W.heap.size=some (.cells (ah6 mtg org dl u) 61 (0,0)):=ab6 (ab6 (aff _ _ _ rfl) _) _
 have k2:obj (((W.alloc (.cells (ah6 mtg org dl u) 61 (0,0))).alloc (.cells (LN.let x v).row 48 (0,0))).alloc (.cells z46 46 (0,0))) (W.heap.size+1)=some (.cells (LN.let x v).row 48 (0,0)):=ab6 (aff _ _ _ (by simp)) _
 have k3:obj (((W.alloc (.cells (ah6 mtg org dl u) 61 (0,0))).alloc (.cells (LN.let x v).row 48 (0,0))).alloc (.cells z46 46 (0,0))) (W.heap.size+1+1)=some (.cells z46 46 (0,0)):=aff _ _ _ (by simp)
 have kB:Below W.heap.size W (((W.alloc (.cells (ah6 mtg org dl u) 61 (0,0))).alloc (.cells (LN.let x v).row 48 (0,0))).alloc (.cells z46 46 (0,0))):=(((Below.refl _ _).alloc (Nat.le_refl _) _).alloc (by simp) _).alloc (by simp;omega) _
 have c1:=(abm k1 1).trans (bty _ _ _ _)
 have q3:obj (((W.alloc (.cells (ah6 mtg org dl u) 61 (0,0))).alloc (.cells (LN.let (LN.to x org) v).row 48 (0,0))).alloc (.cells z46 46 (0,0))) (W.heap.size+1+1)=some (.cells z46 46 (0,0)):=aff _ _ _ (by simp)
 have qB:Below W.heap.size W (((W.alloc (.cells (ah6 mtg org dl u) 61 (0,0))).alloc (.cells (LN.let (LN.to x org) v).row 48 (0,0))).alloc (.cells z46 46 (0,0))):=(((Below.refl _ _).alloc (Nat.le_refl _) _).alloc (by simp) _).alloc (by simp;omega) _
 have hv2:x.cs=(LN.to x org).cs:=rfl
 clear hv
 generalize as3 (b8p org x)=R at *
 go_enter Tryz.func102,Tryz.ntmps102
 repeat' (first | (go_at_call 127;((with_reducible refine (HR.out _ qB).mono ?_));rintro r w1 ⟨rfl,hb1⟩;have m3:=aa1 q3 hb1 (by simp);have mB:=qB.trans (hb1.mono qB.size);have p3:=ab6 m3 (.cells R 46 (0,0));have pB:=mB.alloc mB.size (.cells R 46 (0,0));dsimp only) | go_skip | go_guarded | go_step | go_upon)
 refine bodyPost_ret (results_cell_row rfl _ _ (W.heap.size+1+1) 46 R _ _ rfl (setRow_heap _ _ _ _ _ _ p3) Tryz.underlying46 rfl (by rw [r1];kernel_rfl)) rfl ?_
 exact ⟨rfl,below_setRow pB (by omega) _⟩
end Go.Proofs.YtlnlbdfokmhelaaGreatDoor
