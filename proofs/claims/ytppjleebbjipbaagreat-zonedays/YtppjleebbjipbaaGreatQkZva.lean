/-
  periodic.shorten, of a list whose capacity is told only where it is shortened.
-/
import Derived.Test.YtppjleebbjipbaaGreatQkZce
set_option linter.all false
namespace Go.Proofs.YtppjleebbjipbaaGreat
open Go.RowKit Go.Shelf
set_option maxRecDepth 20000
set_option maxHeartbeats 8000000
theorem a1s.take {W:World} {ao:Option Addr} {c:Nat} {l:List Int} (h:a1s W (.slice ao l.length c) l) {k:Nat} (hk:k≤l.length):a1s W (.slice ao k c) (l.take k):=by
 obtain ⟨ao',c',h1,h2⟩:=h
 injection h1 with e1 _ e2
 subst e1 e2
 have hl:(l.take k).length=k:=by simp;omega
 refine ⟨_,_,by rw [hl],fun hn=>?_⟩
 obtain ⟨b,o,row,T,fr,q1,q2,q3⟩:=h2 (by omega)
 refine ⟨b,o,row,T,fr,q1,q2,fun i hi=>?_⟩
 rw [hl] at hi
 rw [q3 i (by omega),zB,zB,xQ,zQ hi]
theorem shortenZ_calls {W:World} {cv:Value} {l:List Int} {period:Int} (hv:a1s W cv l) (hcp:(Zn.a18 period l).2≠l→a2c W cv l) (p0:1≤period) (p1:period≤1099511627776) (hl:l.length≤1048576) (hb:∀ x∈l,0≤x∧x < period) :
  Calls Tryz.prog 118 #[.int .i64 period,cv] W fun e w'=>(∃ v,e=.returned (.tuple #[.int .i64 (Zn.a18 period l).1,v])∧a1s w' v (Zn.a18 period l).2)∧Below W W w':=by
 obtain ⟨ao,c,rfl,_⟩:=id hv
 have hcap:(Zn.a18 period l).2≠l→l.length≤c:=fun h=>by
  obtain ⟨_,a,c',e,h2⟩:=hcp h
  injection e with _ _ e
  omega
 have HCP:=zA hcap
 clear hcap hcp
 have o0:obj (((W.alloc (.cells #[period] 3)).alloc (.cells #[.slice ao l.length c] 28)).alloc (.cells #[(l.length:Int)] 3)) W.heap.size=some (.cells #[period] 3 (0,0)):=a06 (a06 (a05 _ _ _ rfl) _) _
 have o1:obj (((W.alloc (.cells #[period] 3)).alloc (.cells #[.slice ao l.length c] 28)).alloc (.cells #[(l.length:Int)] 3)) (W.heap.size+1)=some (.cells #[.slice ao l.length c] 28 (0,0)):=a06 (a05 _ _ _ (by simp)) _
 have o2:obj (((W.alloc (.cells #[period] 3)).alloc (.cells #[.slice ao l.length c] 28)).alloc (.cells #[(l.length:Int)] 3)) (W.heap.size+2)=some (.cells #[(l.length:Int)] 3 (0,0)):=a05 _ _ _ (by simp)
 have hB:Below W W (((W.alloc (.cells #[period] 3)).alloc (.cells #[.slice ao l.length c] 28)).alloc (.cells #[(l.length:Int)] 3)):=((bR.alloc (zD _) _).alloc (by simp) _).alloc (by simp;omega) _
 have hmf:∀ (fn:Fn) (first cap:Array Value) (w:World),(Instr.makeFunc fn first cap).run Tryz.prog w=.ok (.func fn first cap) w:=fun _ _ _ _=>rfl
 go_enter Tryz.func118,Tryz.ntmps118
 repeat'(first|go_skip|go_guarded|go_step|go_upon)
 have hv2:=hv.below hB
 clear hv
 generalize ((W.alloc (.cells #[period] 3)).alloc (.cells #[.slice ao l.length c] 28)).alloc (.cells #[(l.length:Int)] 3)=V at *
 have HSM:=zA (fun (n parts:Nat) (h2:2≤parts) (hk:1≤l.length / parts) (hpl:parts≤l.length)=>agt (W:=V.drewN n) (bp:=W.heap.size) (bn:=W.heap.size+2) (bc:=W.heap.size+1) o0 o2 o1 hv2 p0 p1 hl hb (parts:=parts) h2 hk hpl)
 have HV2:=zA hv2
 have c0:=a02 o0 0
 have c1:=a02 o1 0
 have c2:=a02 o2 0
 clear hv2 hmf hb
 go_loopw [8] (fun iv wr => ∃ parts n:Nat,parts≤l.length∧iv=.int .i64 parts∧Zn.a18 period l=Zn.a5k period l parts∧wr=V.drewN n) (fun iv _=>(intOf iv).toNat)
 case atStart=>exact ⟨l.length,0,zD _,rfl,rfl,rfl⟩
 obtain ⟨parts,n,hpl,rfl,hS,rfl⟩:=hrel
 have HS:=zA hS
 clear hS
 have HBn:=zA (below_drewN hB n)
 by_cases hgt:1 < parts;rotate_left
 ·have i1 : ¬ (1:Int) < (parts:Int):=by omega
  have ajt:Hid (Zn.a18 period l=(period,l)):=zA (by
   rw [HS.out]
   rcases parts with _ | _ | parts
   ·rfl
   ·rfl
   ·omega)
  repeat'(first|go_skip|go_guarded|go_step|go_upon)
  go_quiet (fail)
  repeat'(first|go_skip|go_guarded|go_step|go_upon)
  go_returns
  exact ⟨⟨_,by rw [ajt.out];rfl,by rw [ajt.out];exact HV2.out.below (below_drewN (below_drewN bR n) nq)⟩,below_drewN HBn.out nq⟩
 have i1:(1:Int) < (parts:Int):=by omega
 have hk:1≤l.length / parts:=(Nat.one_le_div_iff (by omega)).2 hpl
 have HC:=zA (HSM.out n parts (by omega) hk hpl)
 have hst:Zn.a5k period l parts=if Zn.anq period l parts=true then (period / (parts:Int),l.take (l.length / parts)) else Zn.a5k period l (parts - 1):=by
  obtain ⟨q,rfl⟩ : ∃ q,parts=q+2:=⟨parts - 2,by omega⟩
  rfl
 have HST:=zA hst
 have e1:Int.tmod (l.length:Int) (parts:Int)=((l.length % parts:Nat):Int):=by rw [yE (by omega)];rfl
 have e2:Int.tmod period (parts:Int)=period % (parts:Int):=yE (by omega)
 have z0:((parts:Int) == 0)=false:=by simp;omega
 have m1:(0:Int)≤period % (parts:Int):=wP _ (by omega)
 have m2:period % (parts:Int) < (parts:Int):=vJ _ (by omega)
 have m3:l.length % parts < parts:=wJ _ (by omega)
 have w1:IntKind.wrap .i64 ((l.length % parts:Nat):Int)=((l.length % parts:Nat):Int):=by rw [wrap_in]<;>omega
 have w2:=zWI (period % (parts:Int))
 have w3:=zWI ((parts:Int) - 1)
 have HF:Hid (Zn.anq period l parts=(decide (l.length % parts=0)&&(decide (period % (parts:Int)=0)&&Zn.aer period l parts))):=zA rfl
 have fin:Zn.anq period l parts=false→Zn.a18 period l=Zn.a5k period l (parts - 1):=fun h=>by rw [HS.out,HST.out,zS (by rw [h];decide)]
 have FIN:=zA fin
 have hp1:((parts - 1:Nat):Int)=(parts:Int) - 1:=by omega
 have HP1:=zA hp1
 clear hst m2 hp1 fin
 generalize hmn:l.length % parts=mn at *
 generalize hmp:period % (parts:Int)=mp at *
 clear hmn hmp
 by_cases ha:mn=0;rotate_left
 ·have t1:((mn:Int) == 0)=false:=by simp;exact ha
  have ajt:=zA (FIN.out (by rw [HF.out,zW ha,Bool.false_and]))
  clear HF HST FIN
  repeat'(first|go_skip|go_guarded|go_step|go_upon)
  exact ⟨⟨parts - 1,n,by omega,by rw [HP1.out],ajt.out,rfl⟩,by simp [intOf];omega⟩
 have t1:((mn:Int) == 0)=true:=by simp;exact ha
 by_cases hp:mp=0;rotate_left
 ·have t2:(mp == 0)=false:=by simpa using hp
  have ajt:=zA (FIN.out (by rw [HF.out,zW hp,Bool.false_and,Bool.and_false]))
  clear HF HST FIN
  repeat'(first|go_skip|go_guarded|go_step|go_upon)
  exact ⟨⟨parts - 1,n,by omega,by rw [HP1.out],ajt.out,rfl⟩,by simp [intOf];omega⟩
 have t2:(mp == 0)=true:=by simpa using hp
 rw [zV ha,zV hp,Bool.true_and,Bool.true_and] at HF
 rw [← HF.out] at HC
 clear ha hp
 cases hf:Zn.anq period l parts
 ·have ajt:=zA (FIN.out hf)
  rw [hf] at HC
  clear hf HF HST FIN
  repeat' (first | (go_at_call 147;((with_reducible refine (HC.out).mono ?_));rintro e w5 ⟨rfl,⟨n5,rfl⟩⟩;dsimp only)|go_skip|go_guarded|go_step|go_upon)
  exact ⟨⟨parts - 1,n+n5,by omega,by rw [HP1.out],ajt.out,by first | rfl | rw [World.drewN_drewN]⟩,by simp [intOf];omega⟩
 have ajt:Hid (Zn.a18 period l=(period / (parts:Int),l.take (l.length / parts))):=zA (by rw [HS.out,HST.out,zQ hf])
 rw [hf] at HC
 have e3:Int.tdiv period (parts:Int)=period / (parts:Int):=xA (by omega)
 have e4:Int.tdiv (l.length:Int) (parts:Int)=((l.length / parts:Nat):Int):=by rw [xA (by omega)];rfl
 have hd0:0≤period / (parts:Int):=Int.ediv_nonneg (by omega) (by omega)
 have hd1:period / (parts:Int)≤period:=Int.ediv_le_self _ (by omega)
 have hkl:l.length / parts≤l.length:=vY _ _
 have hcap:=HCP.out (by rw [ajt.out];intro e;have e:=congrArg List.length e;have h9:l.length / parts < l.length:=Nat.div_lt_self (by omega) (by omega);dsimp only at e;rw [wR] at e;omega)
 have HTK:=zA (fun Wq (hq:Below V V Wq)=>(HV2.out.below hq).take hkl)
 generalize period / (parts:Int)=d at *
 generalize l.length / parts=k at *
 have w4:=zWI d
 have w5:IntKind.wrap .i64 (k:Int)=(k:Int):=by rw [wrap_in]<;>omega
 have k1:(k:Int)≤(c:Int):=by omega
 have k0:(0:Int)≤(k:Int):=by omega
 have k2 : ¬ (k:Int) < 0:=by omega
 have k3 : ¬ (c:Int) < (k:Int):=by omega
 clear hf HF HST FIN
 repeat' (first | (go_at_call 147;((with_reducible refine (HC.out).mono ?_));rintro e w5 ⟨rfl,⟨n5,rfl⟩⟩;dsimp only)|go_skip|go_guarded|go_step|go_upon)
 go_quiet (fail)
 repeat'(first|go_skip|go_guarded|go_step|go_upon)
 go_returns
 exact ⟨⟨_,by rw [ajt.out];rfl,by rw [ajt.out];exact HTK.out _ (below_drewN (below_drewN bR (n+n5)) nq)⟩,below_drewN (below_drewN hB (n+n5)) nq⟩
end Go.Proofs.YtppjleebbjipbaaGreat
namespace Zn
def backQ (p:Per) (d:Int) (c:List Int) (i:Nat):Int:=p.from_ - (((i / c.length:Nat):Int)+1) * d+c.getD (c.length - 1 - i % c.length) 0
def stopQ (p:Per) (d:Int) (c:List Int) (i:Nat):Bool:=decide (backQ p d c i < 0∧a6b p i < 0)||decide (backQ p d c i≠a6b p i)
def startQ (p:Per) (d:Int) (c:List Int) (i:Nat):Int:=if backQ p d c i < 0∧a6b p i < 0 then 0 else max (backQ p d c i) (a6b p i)+1
def canonQ (p:Per) (i:Nat):Per:=⟨p.head.take (p.head.length - i),startQ p (a18 p.period p.cycle).1 (a18 p.period p.cycle).2 i,(a18 p.period p.cycle).1,a2z ((a18 p.period p.cycle).2.map fun x=>(p.from_+x - startQ p (a18 p.period p.cycle).1 (a18 p.period p.cycle).2 i) % (a18 p.period p.cycle).1)⟩
structure StopQ (p:Per) (d:Int) (c:List Int) (i:Nat):Prop where
 no:∀ j,j < i→stopQ p d c j=false
 yes:stopQ p d c i=true
theorem stopQ_no {p:Per} {d:Int} {c:List Int} {j:Nat} (h:stopQ p d c j=false):j < p.head.length∧backQ p d c j=p.head.getD (p.head.length - 1 - j) 0∧a6b p j=p.head.getD (p.head.length - 1 - j) 0∧¬ (backQ p d c j < 0∧a6b p j < 0):=by
 unfold stopQ at h
 simp only [Bool.or_eq_false_iff,uI,ne_eq,Decidable.not_not] at h
 have hl:a6b p j=if j < p.head.length then p.head.getD (p.head.length - 1 - j) 0 else -1:=rfl
 by_cases hj:j < p.head.length
 ·rw [zQ hj] at hl
  exact ⟨hj,h.2.trans hl,hl,h.1⟩
 rw [zS hj] at hl
 exact absurd ⟨by omega,by omega⟩ h.1
theorem startQ_in {p:Per} {d:Int} {c:List Int} {i:Nat} (hh:aa4 p.from_ (-1) p.head=true) (f0:0≤p.from_) (hc:∀ x∈c,0≤x∧x < d) (hcl:0 < c.length):0≤startQ p d c i∧startQ p d c i≤p.from_:=by
 have hb:=a3s hh
 have hl : -1≤a6b p i∧(a6b p i < p.from_)∨(a6b p i = -1):=by
  unfold a6b
  split
  ·left
   have:=hb (p.head.getD (p.head.length - 1 - i) 0) (by rw [zB,zK (by omega)];exact yT _);omega
  right;rfl
 have hm:=wJ i hcl
 have hcx:=hc (c.getD (c.length - 1 - i % c.length) 0) (by rw [zB,zK (Nat.lt_of_le_of_lt (Nat.sub_le _ _) (by omega))];exact yT _)
 have hn:backQ p d c i < p.from_:=by
  unfold backQ
  have h1:0≤((i / c.length:Nat):Int) * d:=xX (Int.natCast_nonneg _) (by omega)
  rw [wI,uF]
  generalize ((i / c.length:Nat):Int) * d=X at *
  omega
 unfold startQ
 split
 ·omega
 rename_i hnn
 omega
theorem stopQ_ex (p:Per) (d:Int) (c:List Int) : ∃ i,i≤p.head.length∧StopQ p d c i:=by
 have hend:stopQ p d c p.head.length=true:=by
  unfold stopQ
  have hl:a6b p p.head.length = -1:=by unfold a6b;rw [zS (by omega)]
  rw [hl]
  by_cases h:backQ p d c p.head.length < 0
  ·rw [zV ⟨h,by omega⟩];rfl
  rw [zV (p:=backQ p d c p.head.length≠-1) (by omega),Bool.or_true]
 have key:∀ n,n≤p.head.length+1→(∀ j,j < n→stopQ p d c j=false)∨∃ i,i < n∧StopQ p d c i:=by
  intro n
  induction n with
  | zero=>exact fun _=>.inl fun j h=>absurd h (yA j)
  | succ n ih =>
   intro hn
   rcases ih (by omega) with h | ⟨i,h1,h2⟩
   ·rcases Bool.eq_false_or_eq_true (stopQ p d c n) with hs | hs
    ·exact .inr ⟨n,by omega,h,hs⟩
    exact .inl fun j hj=>by
     rcases zU j n with hl | hl
     ·exact h j hl
     ·rw [show j=n by omega];exact hs
   exact .inr ⟨i,by omega,h2⟩
 rcases key (p.head.length+1) (zD _) with h | ⟨i,h1,h2⟩
 ·have:=h p.head.length (by omega)
  rw [hend] at this
  cases this
 exact ⟨i,by omega,h2⟩
end Zn
namespace Go.Proofs.YtppjleebbjipbaaGreat
open Go.RowKit Go.Shelf
attribute [local go_sem] Oper.semAt_some
set_option maxRecDepth 100000
set_option maxHeartbeats 8000000
def mkD (D:Nat):Deferred:={ target:=.collected D,args:=#[] }
def CI (p1 p2 p3 v5 v6 p7:Value) (R:Nat→Nat→List Nat→World→Prop) (a:Act) (w:World):Prop :=
 ∃ (us:Nat→Value) (q nb:Nat) (Ds:List Nat),a={ tmps:=#[us 0,p1,p2,p3,us 4,v5,v6,p7,(.pointer (some ⟨nb,0,none⟩)),us 9,us 10,us 11,us 12,us 13,us 14,us 15,us 16,us 17,us 18,us 19,us 20,us 21,us 22,us 23,us 24,us 25,us 26,us 27,us 28,us 29,us 30,us 31,us 32,us 33,us 34,us 35,us 36,us 37,us 38,us 39,us 40,us 41,us 42,us 43,us 44,us 45,us 46,us 47,us 48,us 49,us 50,us 51,us 52,us 53,us 54,us 55,us 56,us 57,us 58,us 59,us 60,us 61,us 62,us 63,us 64,us 65,us 66,us 67,us 68,us 69,us 70,us 71,us 72,us 73,us 74,us 75,us 76,us 77,us 78,us 79,us 80,us 81,us 82,us 83,us 84,us 85,us 86,us 87,us 88,us 89,us 90,us 91,us 92,us 93,us 94,us 95,us 96,us 97,us 98,us 99,us 100,us 101,us 102,us 103,us 104,us 105,us 106,us 107,us 108,us 109,us 110,us 111,us 112,us 113,us 114,us 115,us 116,us 117],defers:=Ds.map mkD }∧R q nb Ds w
theorem CI.mk {p1 p2 p3 v5 v6 p7:Value} {R:Nat→Nat→List Nat→World→Prop} {T:Array Value} {w:World} (q nb:Nat) (Ds:List Nat) (h:T=#[T.getD 0 undef,p1,p2,p3,T.getD 4 undef,v5,v6,p7,(.pointer (some ⟨nb,0,none⟩)),T.getD 9 undef,T.getD 10 undef,T.getD 11 undef,T.getD 12 undef,T.getD 13 undef,T.getD 14 undef,T.getD 15 undef,T.getD 16 undef,T.getD 17 undef,T.getD 18 undef,T.getD 19 undef,T.getD 20 undef,T.getD 21 undef,T.getD 22 undef,T.getD 23 undef,T.getD 24 undef,T.getD 25 undef,T.getD 26 undef,T.getD 27 undef,T.getD 28 undef,T.getD 29 undef,T.getD 30 undef,T.getD 31 undef,T.getD 32 undef,T.getD 33 undef,T.getD 34 undef,T.getD 35 undef,T.getD 36 undef,T.getD 37 undef,T.getD 38 undef,T.getD 39 undef,T.getD 40 undef,T.getD 41 undef,T.getD 42 undef,T.getD 43 undef,T.getD 44 undef,T.getD 45 undef,T.getD 46 undef,T.getD 47 undef,T.getD 48 undef,T.getD 49 undef,T.getD 50 undef,T.getD 51 undef,T.getD 52 undef,T.getD 53 undef,T.getD 54 undef,T.getD 55 undef,T.getD 56 undef,T.getD 57 undef,T.getD 58 undef,T.getD 59 undef,T.getD 60 undef,T.getD 61 undef,T.getD 62 undef,T.getD 63 undef,T.getD 64 undef,T.getD 65 undef,T.getD 66 undef,T.getD 67 undef,T.getD 68 undef,T.getD 69 undef,T.getD 70 undef,T.getD 71 undef,T.getD 72 undef,T.getD 73 undef,T.getD 74 undef,T.getD 75 undef,T.getD 76 undef,T.getD 77 undef,T.getD 78 undef,T.getD 79 undef,T.getD 80 undef,T.getD 81 undef,T.getD 82 undef,T.getD 83 undef,T.getD 84 undef,T.getD 85 undef,T.getD 86 undef,T.getD 87 undef,T.getD 88 undef,T.getD 89 undef,T.getD 90 undef,T.getD 91 undef,T.getD 92 undef,T.getD 93 undef,T.getD 94 undef,T.getD 95 undef,T.getD 96 undef,T.getD 97 undef,T.getD 98 undef,T.getD 99 undef,T.getD 100 undef,T.getD 101 undef,T.getD 102 undef,T.getD 103 undef,T.getD 104 undef,T.getD 105 undef,T.getD 106 undef,T.getD 107 undef,T.getD 108 undef,T.getD 109 undef,T.getD 110 undef,T.getD 111 undef,T.getD 112 undef,T.getD 113 undef,T.getD 114 undef,T.getD 115 undef,T.getD 116 undef,T.getD 117 undef]) (hr:R q nb Ds w):CI p1 p2 p3 v5 v6 p7 R { tmps:=T,defers:=Ds.map mkD } w :=
 ⟨fun i=>T.getD i undef,q,nb,Ds,congrArg (fun t=>({ tmps:=t,defers:=Ds.map mkD }:Act)) h,hr⟩
def ciM (K:Int) (a:Act) (w:World):Nat:=match a.tmps.getD 8 undef with
 | .pointer (some ad)=>(intOf ((w.cell? ad).getD undef)+K).toNat
 | _=>0
theorem ciM_at {K x:Int} {T:Array Value} {ds:List Deferred} {w:World} {nb:Nat} (h8:T.getD 8 undef=.pointer (some ⟨nb,0,none⟩)) (h:obj w nb=some (.cells #[x] 3 (0,0))):ciM K { tmps:=T,defers:=ds } w=(x+K).toNat:=by
 unfold ciM
 rw [h8]
 show (intOf ((w.cell? ⟨nb,0,none⟩).getD undef)+K).toNat=_
 rw [a02 h 0]
 rfl
theorem leaves_marks {F:Fence} {n:Nat} {fn:Func} {tmps:Array Value} {R:Ending→World→Prop}:∀ (Ds:List Nat) (w:World),(∀ D,D∈Ds→w.heap[D]? = some (.deferred (some [])))→Ds.Nodup →
  (∀ w',w'.os=w.os→w'.tape=w.tape→w'.output=w.output→w'.heap.size=w.heap.size→(∀ k,k ∉ Ds→w'.heap[k]? = w.heap[k]?)→LeavesIn F n Tryz.prog fn tmps R [] .returning w')→LeavesInM F n Tryz.prog fn tmps R (Ds.map mkD) .returning w
 | [],w,_,_,h=>h w rfl rfl rfl rfl fun _ _=>rfl
 | D :: Ds,w,hd,hn,h=>by
  rw [List.nodup_cons] at hn
  have h0:=hd D yV
  refine ⟨by simp,.inl ⟨D,_,rfl,run_takeDeferred h0,?_⟩⟩
  refine leaves_marks Ds _ (fun D' hD'=>(World.putObj_heap_other (fun e=>by subst e;exact hn.1 hD')).trans (hd D' (yY _ hD'))) hn.2 fun w' e1 e2 e3 e4 e5=>?_
  refine h w' e1 e2 e3 (by rw [e4];simp) fun k hk=>?_
  rw [yN,not_or] at hk
  exact (e5 k hk.2).trans (World.putObj_heap_other hk.1)
theorem canonQ_calls {W:World} {hv cv:Value} {p:Zn.Per} (hp:Zn.ajo p) (hne:p.cycle≠[]) {i0:Nat} (h1:Zn.StopQ p (Zn.a18 p.period p.cycle).1 (Zn.a18 p.period p.cycle).2 i0) (hh:a1s W hv p.head) (hhc:0 < i0→a2c W hv p.head) (hc:a1s W cv p.cycle) (hcc:(Zn.a18 p.period p.cycle).2≠p.cycle→a2c W cv p.cycle) :
  Calls Tryz.prog 77 #[.agg #[hv,p.from_,p.period,cv]] W fun e w'=>(∃ hw cw,e=.returned (.agg #[hw,.int .i64 (Zn.canonQ p i0).from_,.int .i64 (Zn.canonQ p i0).period,cw])∧a2t w' hw (Zn.canonQ p i0).head∧a2t w' cw (Zn.canonQ p i0).cycle)∧Below W W w':=by
 obtain ⟨f0,f1,p0,p1,hn,hhr,hcr⟩:=hp
 obtain ⟨ah,ch,rfl,_⟩:=id hh
 have hah:0 < i0→p.head.length≤ch:=fun h=>by
  obtain ⟨_,a,c',e,h2⟩:=hhc h
  injection e with _ _ e
  omega
 obtain ⟨ac,cc,rfl,_⟩:=id hc
 have hon:=a4k (h:=.slice ah p.head.length ch) (c:=.slice ac p.cycle.length cc) rfl rfl p.from_ p.period
 have hsi:=Zn.ak5 hcr hne p0
 have hlc:0 < p.cycle.length:=List.length_pos_iff.2 hne
 have tl0:((p.cycle.length:Int) == 0)=false:=by simp;omega
 have o0:obj (((W.alloc (.cells #[.slice ah p.head.length ch,p.from_,p.period,.slice ac p.cycle.length cc] 65)).alloc (.cells #[.slice none 0 0,(0:Int),(0:Int),.slice none 0 0] 65)).alloc (.cells #[.slice ah p.head.length ch] 28)) W.heap.size=some (.cells #[.slice ah p.head.length ch,p.from_,p.period,.slice ac p.cycle.length cc] 65 (0,0)):=a06 (a06 (a05 _ _ _ rfl) _) _
 have o1:obj (((W.alloc (.cells #[.slice ah p.head.length ch,p.from_,p.period,.slice ac p.cycle.length cc] 65)).alloc (.cells #[.slice none 0 0,(0:Int),(0:Int),.slice none 0 0] 65)).alloc (.cells #[.slice ah p.head.length ch] 28)) (W.heap.size+1)=some (.cells #[.slice none 0 0,(0:Int),(0:Int),.slice none 0 0] 65 (0,0)):=a06 (a05 _ _ _ (by simp)) _
 have o2:obj (((W.alloc (.cells #[.slice ah p.head.length ch,p.from_,p.period,.slice ac p.cycle.length cc] 65)).alloc (.cells #[.slice none 0 0,(0:Int),(0:Int),.slice none 0 0] 65)).alloc (.cells #[.slice ah p.head.length ch] 28)) (W.heap.size+2)=some (.cells #[.slice ah p.head.length ch] 28 (0,0)):=a05 _ _ _ (by simp)
 have hB3:Below W W (((W.alloc (.cells #[.slice ah p.head.length ch,p.from_,p.period,.slice ac p.cycle.length cc] 65)).alloc (.cells #[.slice none 0 0,(0:Int),(0:Int),.slice none 0 0] 65)).alloc (.cells #[.slice ah p.head.length ch] 28)):=((bR.alloc (zD _) _).alloc (by simp) _).alloc (by simp;omega) _
 have hh3:=hh.below hB3
 have hc3:=hc.below hB3
 have HSH:=zA (shortenZ_calls hc3 (fun h=>(hcc h).below hB3) p0 p1 (by omega) (Zn.a3s hcr))
 have HH1:=zA h1
 have HCN:Hid (Zn.canonQ p i0=⟨p.head.take (p.head.length - i0),Zn.startQ p (Zn.a18 p.period p.cycle).1 (Zn.a18 p.period p.cycle).2 i0,(Zn.a18 p.period p.cycle).1,Zn.a2z ((Zn.a18 p.period p.cycle).2.map fun x=>(p.from_+x - Zn.startQ p (Zn.a18 p.period p.cycle).1 (Zn.a18 p.period p.cycle).2 i0) % (Zn.a18 p.period p.cycle).1)⟩):=zA rfl
 have HHR:=zA hhr
 have HHD:=zA hh
 have HCAP:=zA hah
 clear hh hc hhc hcc h1 hcr hhr hne
 generalize Zn.a18 p.period p.cycle=dc at *
 obtain ⟨d,c⟩:=dc
 dsimp only at *
 obtain ⟨ce,cne,cl,d1,d2⟩:=hsi
 have HCE:=zA ce
 have cne9:c≠[]:=cne
 clear ce cne
 refine (wW (n:=8)).1 ?_
 refine callsIn_of_wp_marks Tryz.func77 rfl trivial ?_
 refine wpIn_wide.2 ?_
 simp only [Tryz.ntmps77,xJ,yS,xI,Nat.reduceAdd,Nat.reduceSub,xZ,xY,wK,wE,wO,xK]
 have c0:=a02 o0 0
 have c1:=a02 o0 1
 have c2:=a02 o0 2
 have c3:=a02 o0 3
 repeat'(first|go_skip|go_guarded|go_step|go_upon)
 refine wp_scope_straight ?_
 repeat' (first | (go_at_call 118;((with_reducible refine (HSH.out).mono ?_));rintro e w5 ⟨⟨v5,rfl,hv5⟩,hB5⟩;have b0:=a0a o0 hB5;have b1:=a0a o1 hB5;have b2o:=a0a o2 hB5;have e1:=a02 b0 1;dsimp only)|go_skip|go_guarded|go_step|go_upon)
 refine wp_label ?_
 have hz5:=hB5.size
 have hz3:(((W.alloc (.cells #[.slice ah p.head.length ch,p.from_,p.period,.slice ac p.cycle.length cc] 65)).alloc (.cells #[.slice none 0 0,(0:Int),(0:Int),.slice none 0 0] 65)).alloc (.cells #[.slice ah p.head.length ch] 28)).heap.size=W.heap.size+3:=by simp
 have wb:=zWI (p.from_ - d)
 have hhw:=hh3.below hB5
 have hBW:=hB3.trans (hB5.mono (by omega))
 obtain ⟨av,cv5,rfl,_⟩:=id hv5
 clear hh3 hc3 o0 o1 o2 c0 c1 c2 c3 hB3 hB5 HSH hah
 have hS7:w5.heap.size=w5.heap.size:=rfl
 have A6:=((zC w5.heap.size w5).alloc (zD _) (.cells #[(0:Int)] 3)).alloc (by simp) (.cells #[(p.from_ - d:Int)] 3)
 have n0:=a0a b0 A6
 have n1:=a0a b1 A6
 have n2:=a0a b2o A6
 have nv:=hv5.below A6
 have nh:=hhw.below A6
 have n7:obj ((w5.alloc (.cells #[(0:Int)] 3)).alloc (.cells #[(p.from_ - d:Int)] 3)) w5.heap.size=some (.cells #[(0:Int)] 3 (0,0)):=a06 (a05 _ _ _ rfl) _
 have n8:obj ((w5.alloc (.cells #[(0:Int)] 3)).alloc (.cells #[(p.from_ - d:Int)] 3)) (w5.heap.size+1)=some (.cells #[(p.from_ - d:Int)] 3 (0,0)):=a05 _ _ _ (by simp)
 have hBN:=hBW.trans (A6.mono (by omega))
 have hzN:((w5.alloc (.cells #[(0:Int)] 3)).alloc (.cells #[(p.from_ - d:Int)] 3)).heap.size=w5.heap.size+2:=by simp
 have e1:=a02 (a06 b0 (.cells #[(0:Int)] 3)) 1
 obtain ⟨bs,hbs⟩ : ∃ bs,w5.heap.size=bs:=⟨_,rfl⟩
 obtain ⟨b2,hb2⟩ : ∃ b2,W.heap.size+2=b2:=⟨_,rfl⟩
 have hz5':W.heap.size+3≤bs:=by omega
 have hcl:0 < c.length:=List.length_pos_iff.2 cne9
 have hi0h:i0≤p.head.length:=by
  rcases yM i0 with h | h
  ·omega
  have:=(Zn.stopQ_no (HH1.out.no (i0 - 1) (by omega))).1
  omega
 have amw:∀ b o m c',Value.slice av c.length cv5=.slice (some ⟨b,o,none⟩) m c'→b < w5.heap.size∧b≠W.heap.size+2:=fun b o m c' e=>by
  injection e with e1 _ _
  obtain ⟨ao,c2,q0,q1⟩:=hv5
  injection q0 with q0 _ _
  obtain ⟨b',o',row,T,fr,r1,r2,r3⟩:=q1 (by omega)
  rw [e1,r1] at q0
  cases q0
  refine ⟨a09 r2,fun e=>?_⟩
  subst e
  rw [show obj w5 (W.heap.size+2)=_ from b2o] at r2
  cases r2
  have:=r3 0 (by omega)
  rw [uG] at this
  rcases o with _ | o
  ·cases this
  ·simp at this
 repeat' ((fail_if_success (with_reducible refine Go.wp_block ?_));(first|go_skip|go_guarded|go_step|go_upon))
 refine Go.wp_block ?_
 rw [show W.heap.size+1+1=b2 by omega]
 rw [hbs] at n7 n8 amw hzN ⊢
 rw [hb2] at n2 amw
 generalize ((w5.alloc (.cells #[(0:Int)] 3)).alloc (.cells #[(p.from_ - d:Int)] 3))=V0 at *
 refine wp_loop (CI (.pointer (some ⟨W.heap.size,0,none⟩)) (.pointer (some ⟨W.heap.size+1,0,none⟩)) (.pointer (some ⟨b2,0,none⟩)) (.int .i64 d) (.slice av c.length cv5) (.pointer (some ⟨bs,0,none⟩)) (fun q nb Ds wr=>Hid (q * c.length≤i0)∧bs < nb∧obj wr nb=some (.cells #[(p.from_ - ((q:Int)+1) * d:Int)] 3 (0,0))∧obj wr b2=some (.cells #[.slice ah (p.head.length - q * c.length) ch] 28 (0,0))∧obj wr bs=some (.cells #[(0:Int)] 3 (0,0))∧a0o (fun k=>k=b2∨k=bs) V0 wr∧Below W W wr∧(∀ D,D∈Ds→bs < D∧wr.heap[D]? = some (.deferred (some [])))∧Ds.Nodup)) (ciM (((p.head.length:Int)+3) * d)) ?start ?pass
 case start=>exact CI.mk 0 (bs+1) [] (by kernel_rfl) ⟨zA (by omega),by omega,by simpa using n8,by simpa using n2,n7,a0o.refl _ _,hBN,fun D h=>(by cases h),List.nodup_nil⟩
 rintro a wr ⟨us,q,nb,Ds,rfl,hq,hnb,v8,h2,h3,h4,h5,hds,hnd⟩
 have HQ:=zA hq.out
 have hql:q≤p.head.length:=yG (Nat.le_mul_of_pos_right q hcl) (yG hq.out hi0h)
 obtain ⟨bse,hbse⟩ : ∃ b,p.from_ - ((q:Int)+1) * d=b:=⟨_,rfl⟩
 have hbb : -2305843009213693952≤bse∧bse≤1099511627776:=by
  have h1:((q:Int)+1) * d≤1048577 * 1099511627776:=Int.mul_le_mul (by omega) (by omega) (by omega) (by omega)
  have h2:0≤((q:Int)+1) * d:=xX (by omega) (by omega)
  omega
 rw [hbse] at v8
 have HBS:=zA hbse
 have HRW:Hid (p.from_ - (((q+1:Nat):Int)+1) * d=bse - d):=zA (by
  have e9:(((q+1:Nat):Int)+1) * d=((q:Int)+1) * d+d:=by rw [show (((q+1:Nat):Int)+1)=((q:Int)+1)+1 by omega,wI _ 1 d,uF]
  rw [e9,← hbse];omega)
 have hmu:=fun (T:Array Value) (ds:List Deferred) (h:T.getD 8 undef=.pointer (some ⟨nb,0,none⟩))=>ciM_at (K:=((p.head.length:Int)+3) * d) (ds:=ds) h v8
 rw [hmu _ _ (by kernel_rfl)]
 have hmuK:bse+(((p.head.length:Int)+3) * d) - d≥1:=by
  have h1:((q:Int)+1) * d≤((p.head.length:Int)+1) * d:=yP (by omega) (by omega)
  have h2:=hbse
  simp only [wI,uF] at h1 h2 ⊢
  omega
 obtain ⟨K,hK⟩ : ∃ K,((p.head.length:Int)+3) * d=K:=⟨_,rfl⟩
 rw [hK] at hmuK ⊢
 clear hmu hbse hK
 have vv0:a1s wr (.slice av c.length cv5) c:=by
  obtain ⟨ao,c',e1,e2⟩:=nv
  refine ⟨ao,c',e1,fun hn=>?_⟩
  obtain ⟨b,o,row,T,fr,rfl,r1,r2⟩:=e2 hn
  have:=amw b o _ _ e1
  exact ⟨b,o,row,T,fr,rfl,(h4.2 b (a09 r1) (by omega)).trans r1,r2⟩
 have HBK:=zA (aex av c.length cv5 wr)
 have A7:=(zC wr.heap.size wr).alloc (zD _) (.cells #[.slice av c.length cv5] 28)
 have hz4:=h4.1
 have v9:obj (wr.alloc (.cells #[.slice av c.length cv5] 28)) wr.heap.size=some (.cells #[.slice av c.length cv5] 28 (0,0)):=a05 _ _ _ rfl
 have v0:=a06 (show obj wr W.heap.size=_ from (h4.2 _ (a09 n0) (by omega)).trans n0) (.cells #[.slice av c.length cv5] 28)
 have v1:=a06 (show obj wr (W.heap.size+1)=_ from (h4.2 _ (a09 n1) (by omega)).trans n1) (.cells #[.slice av c.length cv5] 28)
 have v2:=a06 h2 (.cells #[.slice av c.length cv5] 28)
 have v7:=a06 h3 (.cells #[.slice av c.length cv5] 28)
 have v8:=a06 v8 (.cells #[.slice av c.length cv5] 28)
 have vv:=vv0.below A7
 have vB:=h5.trans (A7.mono (by have:=h5.size;omega))
 have vz:(wr.alloc (.cells #[.slice av c.length cv5] 28)).heap.size=wr.heap.size+1:=by simp
 have vKq:a0o (fun k=>k=b2∨k=bs) V0 (wr.alloc (.cells #[.slice av c.length cv5] 28)):=⟨yG h4.1 A7.size,fun k hk hn=>(A7.block k (by omega)).trans (h4.2 k hk hn)⟩
 have hds':∀ D,D∈Ds→(wr.alloc (.cells #[.slice av c.length cv5] 28)).heap[D]? = some (.deferred (some [])):=fun D hD=>(A7.block D ((zL.1 (hds D hD).2).1)).trans (hds D hD).2
 have hdlt:∀ D,D∈Ds→D < (wr.alloc (.cells #[.slice av c.length cv5] 28)).heap.size:=fun D hD=>(zL.1 (hds' D hD)).1
 have hdb:∀ D,D∈Ds→bs < D:=fun D hD=>(hds D hD).1
 have HND:=zA hnd
 have HDS:=zA (And.intro hds' (And.intro hdlt hdb))
 have lb2:=a09 h2
 have lbs:=a09 h3
 clear hds hds' hdlt hdb hnd h2 h3 h4 h5 A7 vv0 hq
 repeat' (first | (go_at_call 119;((with_reducible refine (HBK.out).mono ?_));rintro e w6 ⟨rfl,rfl⟩;dsimp only)|go_skip|go_guarded|go_step|go_upon)
 refine (wpIn_wide (n:=8)).1 ?_
 have HSQ:=zA (aj2 7 (by omega) wr.heap.size (.slice av c.length cv5) c (by omega) _ v9 vv)
 generalize (wr.alloc (.cells #[.slice av c.length cv5] 28))=V at *
 generalize wr.heap.size=mb at *
 have lnb:=a09 v8
 refine a5h (n:=8) (gf:=148) (lb:=#[.pointer (some ⟨mb,0,none⟩)]) rfl (enters_of Tryz.func148 (by kernel_rfl) rfl)
  HSQ.out (fun x v W hv=>by subst hv;rfl) ?aaj (fun k=>k=b2∨k=bs) ?hR
  (fun j W'=>Hid (q * c.length+j≤i0∧j≤c.length)∧obj W' b2=some (.cells #[.slice ah (p.head.length - (q * c.length+j)) ch] 28 (0,0))∧obj W' bs=some (.cells #[(0:Int)] 3 (0,0))∧a0o (fun k=>k=b2∨k=bs) V W'∧Below W W W')
  (fun e W'=>e=.exit 0∧obj W' b2=some (.cells #[.slice ah (p.head.length - i0) ch] 28 (0,0))∧obj W' bs=some (.cells #[(Zn.startQ p d c i0:Int)] 3 (0,0))∧a0o (fun k=>k=b2∨k=bs) V W'∧Below W W W')
  ?hI ?hIx (fun i W h=>h.1.out.2) ⟨zA ⟨by have:=HQ.out;omega,xG _⟩,v2,v7,a0o.refl _ _,vB⟩ ?round ?done ?_
 case aaj =>
  rintro k (h | ⟨_,b,o,m,c',e,h⟩)
  ·omega
  have:=(amw b o m c' e).1
  omega
 case hR =>
  rintro k (rfl | rfl)
  ·refine ⟨by omega,?_⟩
   rintro (h | ⟨_,b,o,m,c',e,h⟩)
   ·omega
   exact (amw b o m c' e).2 h.symm
  refine ⟨by omega,?_⟩
  rintro (h | ⟨_,b,o,m,c',e,h⟩)
  ·omega
  have:=(amw b o m c' e).1
  omega
 case hI => rintro i A B hAB ⟨h1,h2,h3,h4,h5⟩;have hz:=h4.1;have hz9:=h5.size;exact ⟨h1,a04 h2 hAB (by omega),a04 h3 hAB (by omega),⟨yG h4.1 hAB.size,fun k hk hn=>(hAB.block k hk).trans (h4.2 k hk hn)⟩,h5.trans (hAB.mono (by omega))⟩
 case hIx => rintro e A B hAB ⟨h1,h2,h3,h4,h5⟩;exact ⟨h1,a04 h2 hAB (by omega),a04 h3 hAB (by omega),⟨yG h4.1 hAB.size,fun k hk hn=>(hAB.block k hk).trans (h4.2 k hk hn)⟩,h5.trans (hAB.mono (by omega))⟩
 case round =>
  rintro lk j x v W1 ⟨hjj,h2,h3,h4,h5⟩ hx rfl hz1 rfl hlc
  have hjc:j < c.length:=by
   unfold ads at hx;split at hx
   ·assumption
   cases hx
  obtain ⟨i,hi⟩ : ∃ i,q * c.length+j=i:=⟨_,rfl⟩
  have hi0:i≤i0:=by have:=hjj.out.1;omega
  have hdiv:i / c.length=q:=by rw [← hi,Nat.mul_comm,Nat.mul_add_div (by omega),Nat.div_eq_of_lt hjc,uG]
  have hmod:i % c.length=j:=by rw [← hi,Nat.mul_add_mod',Nat.mod_eq_of_lt hjc]
  have HII:=zA hi
  rw [hi] at h2
  have HJ1:Hid (i+1≤i0→(q * c.length+(j+1)≤i0∧j+1≤c.length)):=zA (fun h=>by rw [← hi] at h;omega)
  have HJ2:Hid (q * c.length+(j+1)=i+1):=zA (by omega)
  clear hjj
  have hxe:x=(((c.length - 1 - j:Nat):Int),c.getD (c.length - 1 - j) 0):=by
   unfold ads at hx;rw [zQ hjc] at hx;exact (xO hx).symm
  subst hxe
  have hce:=HCE.out (c.getD (c.length - 1 - j) 0) (by rw [zB,zK (by omega)];exact yT _)
  have HBD:Hid (Zn.backQ p d c i=bse+c.getD (c.length - 1 - j) 0):=zA (by unfold Zn.backQ;rw [hdiv,hmod,HBS.out])
  clear hdiv hmod hi
  have HST:=zA (fun (h:Zn.stopQ p d c i=true)=>show i=i0 from Nat.le_antisymm hi0 (Nat.le_of_not_lt fun hl=>by have:=HH1.out.no i hl;rw [h] at this;cases this))
  have HNO:=zA (fun (h:Zn.stopQ p d c i=false)=>show i+1≤i0 from Nat.lt_of_le_of_ne hi0 (fun e=>by subst e;have:=HH1.out.yes;rw [h] at this;cases this))
  have HLD:Hid (Zn.a6b p i=if i < p.head.length then p.head.getD (p.head.length - 1 - i) 0 else -1):=zA rfl
  have HSB:Hid (Zn.stopQ p d c i=(decide (Zn.backQ p d c i < 0∧Zn.a6b p i < 0)||decide (Zn.backQ p d c i≠Zn.a6b p i))):=zA rfl
  have HSD:Hid (Zn.startQ p d c i=if Zn.backQ p d c i < 0∧Zn.a6b p i < 0 then 0 else max (Zn.backQ p d c i) (Zn.a6b p i)+1):=zA rfl
  have m8:obj W1 nb=some (.cells #[bse] 3 (0,0)):=(h4.2 _ (a09 v8) (by omega)).trans v8
  have hK4:=h4
  generalize c.getD (c.length - 1 - j) 0=cx at *
  generalize c.length - 1 - j=ci at *
  have hz14:=h4.1
  dsimp only
  gi_wp2_with fail
  refine ⟨zC _ _,fun W2 hB2 hkeep hsz=>?_⟩
  have hX2:a1x W1.heap.size (fun k=>k=V.heap.size+1) W1 W2:=⟨hB2.os,hB2.tape,hB2.output,hB2.size,fun k hk hn=>hkeep k hk (by omega)⟩
  have k2:=hX2.obj h2 (a09 h2) (by omega)
  have k7:=hX2.obj h3 (a09 h3) (by omega)
  have k8:=hX2.obj m8 (a09 m8) (by omega)
  have ano:Below W W W2:=h5.trans (hX2.below (by omega) (fun k hk=>by omega))
  have hK2:a0o (fun k=>k=b2∨k=bs) V W2:=⟨yG h4.1 hX2.size,fun k hk hn=>(hX2.block k (by omega) (by omega)).trans (h4.2 k hk hn)⟩
  clear h2 h3 m8 h4 h5 hX2 hB2 hkeep hsz hlc hK4 hx
  have wn:=zWI (bse+cx)
  have q2:=a02 k2 0
  have q7:=a02 k7 0
  have f7:=a0d k7 0
  have f2:=a0d k2 0
  have q8:=a02 k8 0
  generalize hnn:bse+cx=nn at *
  by_cases hih:i < p.head.length;rotate_left
  ·have t0 : ¬ (0:Int) < ((p.head.length - i:Nat):Int):=by omega
   have hst:Zn.stopQ p d c i=true:=by
    rw [HSB.out,HBD.out,HLD.out,zS hih];by_cases h:nn < 0
    ·rw [zV ⟨h,by omega⟩];rfl
    rw [zV (p:=nn≠-1) (by omega),Bool.or_true]
   have hie:=HST.out hst;subst hie;by_cases hn0:nn < 0
   ·have HS0:Hid (Zn.startQ p d c i=0):=zA (by rw [HSD.out,HBD.out,HLD.out,zS hih,zQ ⟨hn0,by omega⟩])
    gi_wp2_with fail
    exact ⟨a0o.refl _ _,rfl,k2,by rw [HS0.out];exact k7,hK2,ano⟩
   (have t1:(nn == -1)=false:=by simp;omega);have wm:=zWI (max nn (-1)+1);have HS0:Hid (Zn.startQ p d c i=max nn (-1)+1):=zA (by rw [HSD.out,HBD.out,HLD.out,zS hih,zS (fun h=>hn0 h.1)])
   gi_wp2_with fail
   exact ⟨⟨by simp,fun k hk hn=>zO _ _ _ _ (fun e=>hn (.inr e))⟩,rfl,a07 k2 _ (show b2≠bs by omega) _,by rw [a0c,k7,HS0.out];rfl,⟨by simpa using hK2.1,fun k hk hn=>(zO _ _ _ _ (fun e=>hn (.inr e))).trans (hK2.2 k hk hn)⟩,ano.setCell (show W.heap.size≤bs by omega) _⟩
  have t0:(0:Int) < ((p.head.length - i:Nat):Int):=by omega
  have hcap:=HCAP.out
  obtain ⟨ao,c',e1,e2⟩:=HHD.out
  injection e1 with e1 _ e3
  subst e1 e3
  obtain ⟨hb,ho,hrow,T,fr,rfl,r1,r2⟩:=e2 (by omega)
  have cm:=(a02 (a0a r1 ano) (ho+(p.head.length - 1 - i))).trans (r2 _ (by omega))
  have hlb:=Zn.a3s HHR.out (p.head.getD (p.head.length - 1 - i) 0) (by rw [zB,zK (by omega)];exact yT _)
  rw [zQ hih] at HLD
  clear r1 r2 e2
  generalize p.head.getD (p.head.length - 1 - i) 0=lv at *
  have wi:IntKind.wrap .i64 (((p.head.length - i:Nat):Int) - 1)=((p.head.length - 1 - i:Nat):Int):=by rw [wrap_in]<;>omega
  have hi1:((p.head.length - 1 - i:Nat):Int) < ((p.head.length - i:Nat):Int):=by omega
  have he:p.head.length - 1 - i=p.head.length - (i+1):=by omega
  have HE:=zA he
  clear he
  have tl : ¬ lv < 0:=by omega
  by_cases hnl:nn=lv
  ·have hst:Zn.stopQ p d c i=false:=by
    rw [HSB.out,HBD.out,HLD.out,zW (fun h=>tl h.2),zW (fun h=>h hnl)];rfl
   have hie:=HNO.out hst;(have hi2:((p.head.length - 1 - i:Nat):Int)≤(ch:Int):=by omega);(have hi3 : ¬ (ch:Int) < ((p.head.length - 1 - i:Nat):Int):=by omega);(have t1:(nn == lv)=true:=by simpa using hnl);(have t2 : ¬ nn < 0:=by omega);clear hnl hst
   gi_wp2_with fail
   exact ⟨⟨by simp,fun k hk hn=>zO _ _ _ _ (fun e=>hn (.inl e))⟩,zA (HJ1.out hie),by rw [HJ2.out,a0c,k2,HE.out];rfl,a07 k7 _ (show bs≠b2 by omega) _,⟨by simpa using hK2.1,fun k hk hn=>(zO _ _ _ _ (fun e=>hn (.inl e))).trans (hK2.2 k hk hn)⟩,ano.setCell (show W.heap.size≤b2 by omega) _⟩
  have hst:Zn.stopQ p d c i=true:=by
   rw [HSB.out,HBD.out,HLD.out,zV (p:=nn≠lv) hnl,Bool.or_true]
  have hie:=HST.out hst
  subst hie
  have t1:(nn == lv)=false:=by simpa using hnl
  have wm:=zWI (max nn lv+1)
  have HS0:Hid (Zn.startQ p d c i=max nn lv+1):=zA (by rw [HSD.out,HBD.out,HLD.out,zS (fun h=>tl h.2)])
  clear hnl hst
  by_cases hn0:nn < 0
  ·gi_wp2_with fail
   exact ⟨⟨by simp,fun k hk hn=>zO _ _ _ _ (fun e=>hn (.inr e))⟩,rfl,a07 k2 _ (show b2≠bs by omega) _,by rw [a0c,k7,HS0.out];rfl,⟨by simpa using hK2.1,fun k hk hn=>(zO _ _ _ _ (fun e=>hn (.inr e))).trans (hK2.2 k hk hn)⟩,ano.setCell (show W.heap.size≤bs by omega) _⟩
  gi_wp2_with fail
  exact ⟨⟨by simp,fun k hk hn=>zO _ _ _ _ (fun e=>hn (.inr e))⟩,rfl,a07 k2 _ (show b2≠bs by omega) _,by rw [a0c,k7,HS0.out];rfl,⟨by simpa using hK2.1,fun k hk hn=>(zO _ _ _ _ (fun e=>hn (.inr e))).trans (hK2.2 k hk hn)⟩,ano.setCell (show W.heap.size≤bs by omega) _⟩
 case done =>
  rintro D j W1 hx ⟨hjj,h2,h3,h4,h5⟩ hD hK
  have hjl:j=c.length:=by
   have h1:=hjj.out.2;unfold ads at hx;split at hx
   ·cases hx
   omega
  have m8:obj W1 nb=some (.cells #[bse] 3 (0,0)):=(h4.2 _ (a09 v8) (by omega)).trans v8
  have q8:=a02 m8 0
  have wbd:=zWI (bse - d)
  simp only [Exit.inBlock,Exit.then]
  gi_step
  repeat'(first|go_skip|go_guarded|go_step|go_upon)
  have A9:=(zC W1.heap.size W1).alloc (zD _) (.cells #[(bse - d:Int)] 3)
  have hz41:=h4.1
  have hz5:=h5.size
  obtain ⟨hds',hdlt,hdb⟩:=HDS.out
  have lD:=(zL.1 hK).1
  have hqj:(q+1) * c.length=q * c.length+j:=by rw [hjl,Nat.add_mul,Nat.one_mul]
  refine ⟨CI.mk (q+1) W1.heap.size (D :: Ds) (by kernel_rfl) ⟨zA (by rw [hqj];exact hjj.out.1),by omega,by rw [HRW.out];exact a05 _ _ _ rfl,by rw [hqj];exact a06 h2 _,a06 h3 _,⟨by have:=vKq.1;have:=A9.size;omega,fun k hk hn=>(A9.block k (by have:=vKq.1;omega)).trans ((h4.2 k (by have:=vKq.1;omega) hn).trans (vKq.2 k hk hn))⟩,h5.trans (A9.mono hz5),fun D' hD'=>?_,?_⟩,?_⟩
  ·rcases yN.1 hD' with rfl | hD'
   ·exact ⟨by omega,(A9.block _ lD).trans hK⟩
   have h8:=hdlt D' hD';have h9:=hdb D' hD';exact ⟨h9,(A9.block D' (by omega)).trans ((h4.2 D' h8 (by omega)).trans (hds' D' hD'))⟩
  ·exact List.nodup_cons.2 ⟨fun h=>by have:=hdlt D h;omega,HND.out⟩
  rw [ciM_at (x:=bse - d) (nb:=W1.heap.size) (by kernel_rfl) (a05 _ _ _ rfl)]
  omega
 rintro D e W1 ⟨rfl,h2,h3,h4,h5⟩ hD hK
 gi_step
 gi_step
 have m0:obj W1 W.heap.size=_:=(h4.2 _ (a09 v0) (by omega)).trans v0
 have m1:obj W1 (W.heap.size+1)=_:=(h4.2 _ (a09 v1) (by omega)).trans v1
 have hz41:=h4.1
 have HDW:=zA (fun D' (hD':D'∈Ds)=>And.intro (HDS.out.2.2 D' hD') (And.intro (xP (HDS.out.2.1 D' hD') hz41) (And.intro (xP (HDS.out.2.1 D' hD') hD) ((h4.2 D' (HDS.out.2.1 D' hD') (by have:=HDS.out.2.2 D' hD';omega)).trans (HDS.out.1 D' hD')))))
 have mh:=HHD.out.below h5
 have mv:a1s W1 (.slice av c.length cv5) c:=by
  obtain ⟨ao,c',e1,e2⟩:=vv
  refine ⟨ao,c',e1,fun hn=>?_⟩
  obtain ⟨b,o,row,T,fr,rfl,r1,r2⟩:=e2 hn
  have:=amw b o _ _ e1
  exact ⟨b,o,row,T,fr,rfl,(h4.2 b (a09 r1) (by omega)).trans r1,r2⟩
 have hK1:=zA hK
 have hD1:=hD
 clear v0 v1 v2 v7 v8 v9 vv vB amw h4 HSQ hK
 simp +zetaDelta only [Exit.then,Exit.inBlock,↓reduceIte]
 gi_step
 have l2:=a09 h2
 have l3:=a09 h3
 have mht:=a1s.take (ao:=ah) (c:=ch) mh (k:=p.head.length - i0) (by omega)
 have hhl:(p.head.take (p.head.length - i0)).length≤1048576:=by simp;omega
 have hsti:=Zn.startQ_in (c:=c) (d:=d) (i:=i0) HHR.out f0 HCE.out hcl
 have hst2:0≤Zn.startQ p d c i0∧Zn.startQ p d c i0≤p.from_:=by omega
 have hvb0:∀ b o,av=some ⟨b,o,none⟩→b < W1.heap.size:=fun b o e=>by
  obtain ⟨ao,c',q1,q2⟩:=mv
  injection q1 with q1 _ _
  have hlt:=hcl
  obtain ⟨b',o',row,T,fr,r1,r2,_⟩:=q2 (by omega)
  rw [e,r1] at q1
  cases q1
  exact a09 r2
 generalize hst:Zn.startQ p d c i0=st at *
 repeat' ((go_not_at_region 23);(first|go_skip|go_guarded|go_step|go_upon))
 refine a0k 6 [([],fun v _=>v=.slice ah (p.head.length - i0) ch),([0],fun v Wx=>a2t Wx v (p.head.take (p.head.length - i0))),([],fun v _=>v=.int .i64 st),([],fun v _=>v=.int .i64 d),([1,2,3],fun v Wx => ∃ hw,v=.agg #[hw,st,d,.slice none 0 0]∧a2t Wx hw (p.head.take (p.head.length - i0))),
   ([],fun v Wx => ∃ b,v=.pointer (some ⟨b,0,none⟩)∧W1.heap.size≤b∧obj Wx b=some (.cells #[.slice none 0 0,(0:Int),(0:Int),.slice none 0 0] 65 (0,0)))] (by kernel_rfl) (by kernel_rfl) (by kernel_rfl) ?st ?ob ?_
 case st => intro k v W1 W2 h hb;rcases k with _|_|_|_|_|_|k<;>first | exact h | trivial | (exact a2t.below h hb) | (obtain ⟨hw,h1,h2⟩:=h;exact ⟨hw,h1,h2.below hb⟩) | (obtain ⟨b,h1,h2,h3⟩:=h;exact ⟨b,h1,h2,a0a h3 hb⟩)
 case ob =>
  and_intros<;>
  first
   | exact ⟨⟩
   | (intro vs Wq hW hk;(have q0:=a02 (a04 h2 hW l2) 0);(have q1:=a02 (a04 h3 hW l3) 0);(try simp only [knows,Spec.at',↓zH,↓zG,yL] at hk);simp only [Spec.at',↓zH,↓zG,a00,a03,yy0,yy1,yy2,yy3];(try simp only [hk]);first | ((repeat'(first|go_skip|go_guarded|go_step|go_upon));exact a01 _ rfl (by go_simp) bR rfl) | fail)
   | (
     intro vs Wq hW hk;have g0:vs 0=.slice ah (p.head.length - i0) ch:=hk.1;clear hk;change wpList _ _ _ _ (a00 _ vs [0] _) _;simp only [a00,a03,yy0,yy1,yy2,yy3];rw [g0];have HX:=zA (af6 (mht.below hW) (by omega))
     repeat' (first | (go_at_call 117;((with_reducible refine (HX.out).mono ?_));rintro e w7 ⟨⟨v7,rfl,hv7⟩,hB7⟩;dsimp only)|go_skip|go_guarded|go_step|go_upon)
     exact a01 v7 rfl (by go_simp) hB7 hv7)
   | (
     intro vs Wq hW hk;have g1:(fun v Wx=>a2t Wx v (p.head.take (p.head.length - i0))) (vs 1) Wq:=hk.1;have g2:vs 2=.int .i64 st:=hk.2.1;have g3:vs 3=.int .i64 d:=hk.2.2.1;clear hk;change wpList _ _ _ _ (a00 _ vs [1,2,3] _) _;simp only [a00,a03,yy0,yy1,yy2,yy3];rw [g2,g3];generalize vs 1=hw1 at *;have g1:a2t Wq hw1 (p.head.take (p.head.length - i0)):=g1;obtain ⟨xa,xc,hx1,_⟩:=id g1;subst hx1
     repeat'(first|go_skip|go_guarded|go_step|go_upon)
     exact a01 (.agg #[.slice xa (p.head.take (p.head.length - i0)).length xc,st,d,.slice none 0 0]) rfl (by go_simp) bR ⟨_,rfl,g1⟩)
   | (
     intro vs Wq hW hk;clear hk;change wpList _ _ _ _ (a00 _ vs [] _) _;simp only [a00];have hz:=hW.size
     repeat'(first|go_skip|go_guarded|go_step|go_upon)
     exact a01 (.pointer (some ⟨Wq.heap.size,0,none⟩)) rfl (by go_simp) (bR.alloc (zD _) _) ⟨Wq.heap.size,rfl,hz,a05 _ _ _ rfl⟩)
 intro vs Wx hWx hk
 have v4:=hk 4 (by decide)
 have v5:=hk 5 (by decide)
 clear hk
 have v4 : ∃ hw,vs 4=.agg #[hw,st,d,.slice none 0 0]∧a2t Wx hw (p.head.take (p.head.length - i0)):=v4
 have v5 : ∃ b,vs 5=.pointer (some ⟨b,0,none⟩)∧W1.heap.size≤b∧obj Wx b=some (.cells #[.slice none 0 0,(0:Int),(0:Int),.slice none 0 0] 65 (0,0)):=v5
 obtain ⟨hw,v4,hhw⟩:=v4
 obtain ⟨pb,v5,hpb,opb⟩:=v5
 dsimp only [a1d,List.take,List.drop]
 simp only [Act.put,zF,zI,zJ]
 rw [v4,v5]
 generalize vs 0=q0,vs 1=q1,vs 2=q2,vs 3=q3
 clear v4 v5
 have alr:=a4k (h:=hw) (c:=.slice none 0 0) hhw.one rfl st d
 have hz1:=hWx.size
 have c13:obj (Wx.setRow pb #[hw,.int .i64 st,.int .i64 d,.slice none 0 0]) pb=some (.cells #[hw,st,d,.slice none 0 0] 65 (0,0)):=by rw [a2g,opb];rfl
 have B13:Below W1 W1 (Wx.setRow pb #[hw,.int .i64 st,.int .i64 d,.slice none 0 0]):=⟨hWx.os,hWx.tape,hWx.output,by simp;omega,fun k hk=>(wZ _ _ _ _ (by omega)).trans (hWx.block k hk)⟩
 have hhw2:a2t (Wx.setRow pb #[hw,.int .i64 st,.int .i64 d,.slice none 0 0]) hw (p.head.take (p.head.length - i0)):=hhw.keep fun b row fr hb=>(wZ _ _ _ _ (fun e=>by subst e;rw [opb] at hb;cases hb)).trans hb
 repeat'(first|go_skip|go_guarded|go_step|go_upon)
 clear hhw opb
 generalize Wx.setRow pb #[hw,.int .i64 st,.int .i64 d,.slice none 0 0]=WL at *
 have n0:=a0a m0 B13
 have n1:=a0a m1 B13
 have n3:=a0a h3 B13
 have nv:=a1s.below mv B13
 have nB:=h5.trans (B13.mono (by omega))
 have nz:=B13.size
 have lpb:=a09 c13
 have nD:=(B13.block D (zL.1 hK1.out).1).trans hK1.out
 have lD:=(zL.1 hK1.out).1
 have HF:Hid (Zn.a2z (c.map fun x=>(p.from_+x - st) % d)=Zn.a2z (c.map fun x=>(p.from_+x - st) % d)):=zA rfl
 go_loopw [96] (fun iv wr => ∃ (k:Nat) (cw:Value),k≤c.length∧iv=.int .i64 k∧obj wr pb=some (.cells #[hw,st,d,cw] 65 (0,0))∧wr.ownsRow WL.heap.size 3 1 cw k (a4m ((c.take k).map fun x=>(p.from_+x - st) % d))∧a1x WL.heap.size (fun k=>k=pb) WL wr) (fun iv _=>((c.length:Int) - intOf iv).toNat)
 case atStart=>exact ⟨0,_,by omega,rfl,c13,⟨rfl,.inl ⟨rfl,rfl⟩⟩,a1x.of bR _⟩
 obtain ⟨k,cw,hk,rfl,hpr,how,hX⟩:=hrel
 have x0:=hX.obj n0 (a09 n0) (by omega)
 have x3:=hX.obj n3 (a09 n3) (by omega)
 have hXz:=hX.size
 by_cases hlt:k < c.length;rotate_left
 ·have hkl:k=c.length:=by omega
  subst hkl
  rw [wY] at how
  have HSO:=zA (amk (W:=wr) (base:=WL.heap.size) (v:=cw) (l:=c.map fun x=>(p.from_+x - st) % d) (by rw [uM];exact how) (by rw [uM];omega))
  have x1:=hX.obj n1 (a09 n1) (by omega)
  have hhw3:a2t wr hw (p.head.take (p.head.length - i0)):=hhw2.keep fun b row fr hb=>hX.obj hb (a09 hb) (fun e=>by subst e;rw [c13] at hb;cases hb)
  have lWL:∀ b row fr,obj WL b=some (.cells row 3 fr)→b < WL.heap.size∧b≠pb:=fun b row fr hb=>⟨a09 hb,fun e=>by subst e;rw [c13] at hb;cases hb⟩
  have pr3:=a02 hpr 3
  repeat' ((go_not_at_region 30);(first | (go_at_call 81;((with_reducible refine (HSO.out).mono ?_));rintro e w8 ⟨rfl,hcw8,hX8⟩;have hp8:=hX8.obj hpr (a09 hpr) (by omega);have y1:=hX8.obj x1 (a09 x1) (by omega);dsimp only)|go_skip|go_guarded|go_step|go_upon))
  have hh8:a2t w8 hw (p.head.take (p.head.length - i0)):=hhw2.keep fun b row fr hb=>hX8.obj (hX.obj hb (lWL b row fr hb).1 (lWL b row fr hb).2) (xP (lWL b row fr hb).1 hXz) (by have:=(lWL b row fr hb).1;omega)
  have hon8:=a4k hh8.one hcw8.one st d
  have hD8:=(hX8.block D (by omega) (by omega)).trans ((hX.block D (by omega) (fun e=>by subst e;rw [show WL.heap[D]? = _ from c13] at nD;cases nD)).trans nD)
  have hB8:Below W W w8:=⟨hX8.os.trans (hX.os.trans nB.os),hX8.tape.trans (hX.tape.trans nB.tape),hX8.output.trans (hX.output.trans nB.output),by have:=hX8.size;have:=nB.size;omega,fun j hj=>(hX8.block j (by omega) (by omega)).trans ((hX.block j (by omega) (by omega)).trans (nB.block j hj))⟩
  have f1:=a0d y1 0
  repeat'(first|go_skip|go_guarded|go_step|go_upon)
  have hpne:pb≠W.heap.size+1:=by omega
  have z1:obj (w8.setRow (W.heap.size+1) #[hw,.int .i64 st,.int .i64 d,cw]) (W.heap.size+1)=some (.cells #[hw,st,d,cw] 65 (0,0)):=by rw [a2g,y1];rfl
  have hDr:(w8.setRow (W.heap.size+1) #[hw,.int .i64 st,.int .i64 d,cw]).heap[D]? = some (.deferred (some [])):=(wZ _ _ _ _ (by omega)).trans hD8
  have hki:∀ b row fr,obj w8 b=some (.cells row 3 fr)→obj ((w8.setRow (W.heap.size+1) #[hw,.int .i64 st,.int .i64 d,cw]).putObj D (.deferred none)) b=some (.cells row 3 fr):=fun b row fr hb=>(World.putObj_heap_other (fun e=>by subst e;rw [show obj w8 b=_ from hD8] at hb;cases hb)).trans ((wZ _ _ _ _ (fun e=>by subst e;rw [y1] at hb;cases hb)).trans hb)
  have z2:((w8.setRow (W.heap.size+1) #[hw,.int .i64 st,.int .i64 d,cw]).putObj D (.deferred none)).heap[W.heap.size+1]? = some (.cells #[hw,st,d,cw] 65 (0,0)):=(World.putObj_heap_other (by omega)).trans z1
  have hBr:Below W W ((w8.setRow (W.heap.size+1) #[hw,.int .i64 st,.int .i64 d,cw]).putObj D (.deferred none)):=a1r ⟨hB8.os,hB8.tape,hB8.output,by simpa using hB8.size,fun k hk=>(wZ _ _ _ _ (by omega)).trans (hB8.block k hk)⟩ (by omega)
  refine ⟨by simp,.inl ⟨_,_,rfl,run_takeDeferred hDr,?_⟩⟩
  have hDs8:∀ D',D'∈Ds→w8.heap[D']? = some (.deferred (some [])):=fun D' hD'=>by
    have h9:=HDW.out D' hD';exact (hX8.block D' (by omega) (by omega)).trans ((hX.block D' (by omega) (by omega)).trans ((B13.block D' h9.2.1).trans h9.2.2.2))
  refine leaves_marks Ds _ (fun D' hD'=>(World.putObj_heap_other (by have:=HDW.out D' hD';omega)).trans ((wZ _ _ _ _ (by have:=HDW.out D' hD';omega)).trans (hDs8 D' hD'))) HND.out ?_
  intro w9 e1 e2 e3 e4 e5
  have hn1:W.heap.size+1 ∉ Ds:=fun h=>by have:=(HDW.out _ h).1;omega
  have hki9:∀ b row fr,obj w8 b=some (.cells row 3 fr)→obj w9 b=some (.cells row 3 fr):=fun b row fr hb=>(e5 b (fun h=>by rw [show obj w8 b=_ from hDs8 b h] at hb;cases hb)).trans (hki b row fr hb)
  have hBr9:Below W W w9:=⟨e1.trans hBr.os,e2.trans hBr.tape,e3.trans hBr.output,by rw [e4];exact hBr.size,fun k hk=>(e5 k (fun h=>by have:=(HDW.out _ h).1;omega)).trans (hBr.block k hk)⟩
  refine ⟨_,a1e rfl _ _ (W.heap.size+1) 65 _ (0,0) _ rfl ((e5 _ hn1).trans z2) Tryz.underlying65 rfl (by kernel_rfl),⟨hw,cw,by rw [HCN.out],?_,?_⟩,hBr9⟩
  · rw [HCN.out];exact hh8.keep hki9
  · rw [HCN.out];exact hcw8.keep hki9
 have i1:(k:Int) < (c.length:Int):=by omega
 obtain ⟨ao,c',e1,e2⟩:=nv
 injection e1 with e1 _ e3
 subst e1 e3
 obtain ⟨vb,vo,vrow,T,fr,rfl,r1,r2⟩:=e2 (by omega)
 have r1':=hX.obj r1 (a09 r1) (fun e=>by have:=hvb0 vb vo rfl;omega)
 have cm:=(a02 r1' (vo+k)).trans (r2 k hlt)
 have hce:=HCE.out (c.getD k 0) (by rw [zB,zK hlt];exact yT _)
 have HTK:Hid (((c.take (k+1)).map fun x=>(p.from_+x - st) % d)=((c.take k).map fun x=>(p.from_+x - st) % d) ++ [(p.from_+c.getD k 0 - st) % d]):=zA (by rw [Zn.take_snoc hlt 0,List.map_append];rfl)
 have hml:((c.take k).map fun x=>(p.from_+x - st) % d).length=k:=by simp;omega
 clear r1 r2 e2
 generalize ((c.take k).map fun x=>(p.from_+x - st) % d)=LL at *
 generalize c.getD k 0=x at *
 have w1:=zWI (p.from_+x)
 have w2:=zWI (p.from_+x - st)
 have e5:Int.tmod (p.from_+x - st) d=(p.from_+x - st) % d:=yE (by omega)
 have z0:(d == 0)=false:=by simp;omega
 have m1':(0:Int)≤(p.from_+x - st) % d:=wP _ (by omega)
 have m2':(p.from_+x - st) % d < d:=vJ _ (by omega)
 generalize hmm:(p.from_+x - st) % d=mm at *
 have w3:=zWI mm
 have lx0:=a09 x0
 have lx3:=a09 x3
 have lpr:=a09 hpr
 clear hmm
 repeat' ((go_not_at_region 27);(first|go_skip|go_guarded|go_step|go_upon))
 refine a0k 11 [([],fun v _=>v=.pointer (some ⟨pb,3,none⟩)),([0],fun v _=>v=cw),([],fun v _=>v=.pointer (some ⟨W.heap.size,1,none⟩)),([2],fun v _=>v=.int .i64 p.from_),([],fun v _=>v=.int .i64 x),([3,4],fun v _=>v=.int .i64 (p.from_+x)),([],fun v _=>v=.int .i64 st),([5,6],fun v _=>v=.int .i64 (p.from_+x - st)),([],fun v _=>v=.int .i64 d),([7,8],fun v _=>v=.int .i64 mm),
    ([9],fun v Wx => ∃ b,v=.slice (some ⟨b,0,none⟩) 1 1∧wr.heap.size≤b∧obj Wx b=some (.cells #[mm] 3 (0,0)))] (by kernel_rfl) (by kernel_rfl) (by kernel_rfl) ?st ?ob ?_
 case st => intro k v W1 W2 h hb;rcases k with _|_|_|_|_|_|_|_|_|_|_|k<;>first | exact h | trivial | (obtain ⟨b,h1,h2,h3⟩:=h;exact ⟨b,h1,h2,a0a h3 hb⟩)
 case ob =>
   and_intros<;>
   first
    | exact ⟨⟩
    | (intro vs Wq hW hk;(have q0:=a02 (a04 hpr hW lpr) 3);(have q1:=a02 (a04 x0 hW lx0) 1);(have q2:=a02 (a04 x3 hW lx3) 0);(try simp only [knows,Spec.at',↓zH,↓zG,yL] at hk);simp only [Spec.at',↓zH,↓zG,a00,a03,yy0,yy1,yy2,yy3];(try simp only [hk]);first | ((repeat'(first|go_skip|go_guarded|go_step|go_upon));exact a01 _ rfl (by go_simp) bR rfl) | fail)
    | (
     intro vs Wq hW hk;have g9:vs 9=.int .i64 mm:=hk.1;clear hk;change wpList _ _ _ _ (a00 _ vs [9] _) _;simp only [a00,a03,yy0,yy1,yy2,yy3];rw [g9];have hz:=hW.size
     repeat'(first|go_skip|go_guarded|go_step|go_upon)
     exact a01 (.slice (some ⟨Wq.heap.size,0,none⟩) 1 1) rfl (by go_simp) (bR.alloc (zD _) _) ⟨Wq.heap.size,rfl,hz,a05 _ _ _ rfl⟩)
 intro vs Wx hWx hk
 have v1:=hk 1 (by decide)
 have v10:=hk 10 (by decide)
 clear hk
 have v1:vs 1=cw:=v1
 have v10 : ∃ b,vs 10=.slice (some ⟨b,0,none⟩) 1 1∧wr.heap.size≤b∧obj Wx b=some (.cells #[mm] 3 (0,0)):=v10
 obtain ⟨nb,v10,hnb,onb⟩:=v10
 dsimp only [a1d,List.take,List.drop]
 simp only [Act.put,zF,zI,zJ]
 rw [v1,v10]
 generalize vs 0=q0,vs 2=q2,vs 3=q3,vs 4=q4,vs 5=q5,vs 6=q6,vs 7=q7,vs 8=q8,vs 9=q9
 clear v1 v10
 have owx:=a0m how hWx
 have prx:=a0a hpr hWx
 have hwz:=hWx.size
 repeat' (first | (at_builtin;(refine a3r rfl _ _ rfl WL.heap.size k cw LL rfl owx nb mm rfl onb (by omega) (by omega) ?_);intro v5 W5 a3p hg5 als;have pr5:=a19 owx prx (by decide) hg5;have f5:=a0d pr5 3;have c5:=a02 pr5 3;obtain ⟨va5,vc5,hv5⟩:=(a2o a3p).2.2;subst hv5;dsimp only)|go_skip|go_guarded|go_step|go_upon)
 have alk:=yF a3p (a:=⟨pb,3,none⟩) (a2f a3p pr5 (by decide)) (.slice va5 (k+1) vc5)
 have pr6:obj (W5.setCell ⟨pb,3,none⟩ (.slice va5 (k+1) vc5)) pb=some (.cells #[hw,st,d,.slice va5 (k+1) vc5] 65 (0,0)):=by rw [a0c,pr5];rfl
 have hX6:a1x WL.heap.size (fun k=>k=pb) WL (W5.setCell ⟨pb,3,none⟩ (.slice va5 (k+1) vc5)):=⟨hg5.os.trans (hWx.os.trans hX.os),hg5.tape.trans (hWx.tape.trans hX.tape),hg5.output.trans (hWx.output.trans hX.output),by have:=hg5.size;simp;omega,fun j hj hn=>(zO _ _ _ _ hn).trans ((hg5.block j (by omega) (fun e=>by have:=a1p owx e.symm;omega)).trans ((hWx.block j (by omega)).trans (hX.block j hj hn)))⟩
 exact ⟨⟨k+1,_,by omega,by go_num,pr6,by rw [HTK.out];exact alk,hX6⟩,by simp [intOf];omega⟩
end Go.Proofs.YtppjleebbjipbaaGreat
