/-
  periodic: rising, Valid.
-/
import Derived.Test.YtppjleebbjipbaaGreatQkZos
import Derived.Lib.SliceRun
set_option linter.all false
namespace Zn
def aa4 (lim:Int):Int→List Int→Bool
 | _,[]=>true
 | last,n :: r=>decide (last < n)&&(decide (n < lim)&&aa4 lim n r)
structure ajo (p:Per):Prop where
 f0:0≤p.from_
 f1:p.from_≤1099511627776
 p0:1≤p.period
 p1:p.period≤1099511627776
 n:p.head.length+p.cycle.length≤1048576
 h:aa4 p.from_ (-1) p.head=true
 c:aa4 p.period (-1) p.cycle=true
theorem ai8 {lim last:Int} {l:List Int} {k:Nat} (h:k < l.length):aa4 lim last (l.drop k)=(decide (last < l.getD k 0)&&(decide (l.getD k 0 < lim)&&aa4 lim (l.getD k 0) (l.drop (k+1)))):=by
 rw [uC h,zB,zK h]
 rfl
theorem a8p {lim:Int}:∀ {l:List Int} {last:Int},aa4 lim last l=true→∀ x∈l,last < x∧x < lim
 | [],_,_,x,hx=>by cases hx
 | n :: r,last,h,x,hx=>by
  simp only [aa4,zN,zM] at h
  rcases yN.1 hx with rfl | hx
  ·exact ⟨h.1,h.2.1⟩
  ·have:=a8p h.2.2 x hx
   omega
end Zn
namespace Go.Proofs.YtppjleebbjipbaaGreat
open Go.RowKit Go.Shelf
set_option maxRecDepth 20000
set_option maxHeartbeats 8000000
theorem a92 {W:World} {v:Value} {l:List Int} (hv:a1s W v l) (hl:l.length≤4611686018427387904) (lim:Int) :
  Calls Tryz.prog 116 #[v,.int .i64 lim] W fun e w'=>e=.returned (.bool (Zn.aa4 lim (-1) l))∧W=w':=by
 obtain ⟨ao,c,rfl,hs⟩:=hv
 have HS:=zA hs
 clear hs
 go_enter Tryz.func116,Tryz.ntmps116
 repeat'(first|go_skip|go_guarded|go_step|go_upon)
 go_loopw [5,10] (fun y i wr => ∃ (k:Nat) (last:Int),k≤l.length∧y=.int .i64 last∧i=.int .i64 k∧Zn.aa4 lim (-1) l=Zn.aa4 lim last (l.drop k)∧W=wr) (fun _ i _=>((l.length:Int) - intOf i).toNat)
 case atStart=>exact ⟨0,-1,by omega,rfl,rfl,rfl,rfl⟩
 obtain ⟨k,last,hk,rfl,rfl,hR,rfl⟩:=hrel
 by_cases hlt:k < l.length;rotate_left
 ·have i1 : ¬ (k:Int) < (l.length:Int):=by omega
  have HR2:Hid (Zn.aa4 lim (-1) l=true):=zA (by rw [hR,List.drop_of_length_le (by omega)];rfl)
  clear hR
  repeat'(first|go_skip|go_guarded|go_step|go_upon)
  go_returns
  exact ⟨by rw [HR2.out];rfl,rfl⟩
 have i1:(k:Int) < (l.length:Int):=by omega
 obtain ⟨b,o,row,T,fr,rfl,q1,q2⟩:=HS.out (by omega)
 have cm:=(a02 q1 (o+k)).trans (q2 k hlt)
 rw [Zn.ai8 hlt] at hR
 have HR:=zA hR
 clear q1 q2 hR
 generalize l.getD k 0=n at *
 by_cases h1:last < n
 ·have t1 : ¬ n≤last:=by omega
  by_cases h2:n < lim
  ·have t2 : ¬ lim≤n:=by omega
   have HR2:Hid (Zn.aa4 lim (-1) l=Zn.aa4 lim n (l.drop (k+1))):=zA (by rw [HR.out,zV h1,zV h2];rfl);clear h1 h2 HR
   repeat'(first|go_skip|go_guarded|go_step|go_upon)
   exact ⟨⟨k+1,n,by omega,rfl,by go_num,HR2.out,trivial⟩,by simp [intOf];omega⟩
  have t2:lim≤n:=by omega
  have HR2:Hid (Zn.aa4 lim (-1) l=false):=zA (by rw [HR.out,zV h1,zW h2];rfl)
  clear h1 h2 HR
  repeat'(first|go_skip|go_guarded|go_step|go_upon)
  go_returns
  exact ⟨by rw [HR2.out];rfl,rfl⟩
 have t1:n≤last:=by omega
 have HR2:Hid (Zn.aa4 lim (-1) l=false):=zA (by rw [HR.out,zW h1];rfl)
 clear h1 HR
 repeat'(first|go_skip|go_guarded|go_step|go_upon)
 go_returns
 exact ⟨by rw [HR2.out];rfl,rfl⟩
theorem adf {W:World} {hv cv:Value} {p:Zn.Per} (hp:Zn.ajo p) (hh:a1s W hv p.head) (hc:a1s W cv p.cycle) :
  Calls Tryz.prog 76 #[.agg #[hv,p.from_,p.period,cv]] W fun e w'=>e=.returned (.bool true)∧Below W W w':=by
 obtain ⟨f0,f1,p0,p1,n,h,c⟩:=hp
 have hon:=a4k hh.one hc.one p.from_ p.period
 have A1:=(zC W.heap.size W).alloc (zD _) (.cells #[hv,p.from_,p.period,cv] 65)
 have H1:=zA (a92 (hh.below A1) (by omega) p.from_)
 have H2:=zA (a92 (hc.below A1) (by omega) p.period)
 rw [h] at H1
 rw [c] at H2
 obtain ⟨ah,ch,rfl,_⟩:=hh
 obtain ⟨ac,cc,rfl,_⟩:=hc
 have w1:=zWI ((p.head.length:Int)+(p.cycle.length:Int))
 have t1:(p.head.length:Int)+(p.cycle.length:Int)≤1048576:=by omega
 have t2:(0:Int)≤p.from_:=f0
 clear h c n
 generalize p.from_=pf at *
 generalize p.period=pp at *
 go_enter Tryz.func76,Tryz.ntmps76
 repeat' (first | (go_at_call 116;((with_reducible refine (H1.out).mono ?_));rintro e w5 ⟨rfl,rfl⟩;dsimp only) | (go_at_call 116;((with_reducible refine (H2.out).mono ?_));rintro e w5 ⟨rfl,rfl⟩;dsimp only)|go_skip|go_guarded|go_step|go_upon)
 go_ret
 exact ⟨rfl,A1⟩
end Go.Proofs.YtppjleebbjipbaaGreat
namespace Zn
def alh (l:List Int) (d:Int) (k:Nat):Nat→Nat→Bool
 | 0,_=>true
 | f+1,i=>if l.getD i 0=l.getD (i - k) 0+d then alh l d k f (i+1) else false
def aer (period:Int) (l:List Int) (parts:Nat):Bool:=alh l (period / (parts:Int)) (l.length / parts) (l.length - l.length / parts) (l.length / parts)&&decide (l.getD (l.length / parts - 1) 0 < period / (parts:Int))
def anq (period:Int) (l:List Int) (parts:Nat):Bool:=decide (l.length % parts=0)&&(decide (period % (parts:Int)=0)&&aer period l parts)
def a5k (period:Int) (l:List Int):Nat→Int×List Int
 | 0=>(period,l)
 | 1=>(period,l)
 | parts+2=>if anq period l (parts+2)=true then (period / ((parts+2:Nat):Int),l.take (l.length / (parts+2))) else a5k period l (parts+1)
def a18 (period:Int) (l:List Int):Int×List Int:=a5k period l l.length
theorem an4 {l:List Int} {b:Int} (h:∀ x∈l,0≤x∧x < b) {i:Nat} (hi:i < l.length):0≤l.getD i 0∧l.getD i 0 < b:=h _ (by rw [zB,zK hi];exact yT hi)
end Zn
namespace Go.Proofs.YtppjleebbjipbaaGreat
open Go.RowKit Go.Shelf
set_option maxRecDepth 20000
set_option maxHeartbeats 8000000
theorem agt {W:World} {bp bn bc:Nat} {cv:Value} {l:List Int} {period:Int} (hp:obj W bp=some (.cells #[period] 3 (0,0))) (hn:obj W bn=some (.cells #[(l.length:Int)] 3 (0,0))) (hc:obj W bc=some (.cells #[cv] 28 (0,0))) (hv:a1s W cv l)
  (p0:1≤period) (p1:period≤1099511627776) (hl:l.length≤1048576) (hb:∀ x∈l,0≤x∧x < period) {parts:Nat} (h2:2≤parts) (hk:1≤l.length / parts) (hpl:parts≤l.length) :
  Calls Tryz.prog 147 #[.int .i64 (parts:Int),.pointer (some ⟨bp,0,none⟩),.pointer (some ⟨bn,0,none⟩),.pointer (some ⟨bc,0,none⟩)] W fun e w'=>e=.returned (.bool (Zn.aer period l parts))∧∃ n,w' = W.drewN n:=by
 have cp:=a02 hp 0
 have cn:=a02 hn 0
 have cc:=a02 hc 0
 obtain ⟨ao,cap,rfl,hs⟩:=hv
 have hd0:0≤period / (parts:Int):=Int.ediv_nonneg (by omega) (by omega)
 have hd1:period / (parts:Int)≤period:=Int.ediv_le_self _ (by omega)
 have e1:Int.tdiv period (parts:Int)=period / (parts:Int):=xA (by omega)
 have e2:Int.tdiv (l.length:Int) (parts:Int)=((l.length / parts:Nat):Int):=by rw [xA (by omega)];rfl
 have HB:=zA (fun i hi=>Zn.an4 hb (i:=i) hi)
 have hkl:l.length / parts < l.length:=Nat.div_lt_self (by omega) (by omega)
 have HR:Hid (Zn.aer period l parts=(Zn.alh l (period / (parts:Int)) (l.length / parts) (l.length - l.length / parts) (l.length / parts)&&decide (l.getD (l.length / parts - 1) 0 < period / (parts:Int)))):=zA rfl
 have z0:((parts:Int) == 0)=false:=by simp;omega
 generalize hd:period / (parts:Int)=d at *
 generalize hkk:l.length / parts=k at *
 clear hd hkk
 have w1:=zWI d
 have w2:IntKind.wrap .i64 (k:Int)=(k:Int):=by rw [wrap_in]<;>omega
 obtain ⟨b,o,row,T,fr,rfl,q1,q2⟩:=hs (by omega)
 have HC:=zA (fun i (hi:i < l.length)=>(a02 q1 (o+i)).trans (q2 i hi))
 have HP:=zA cp
 have HN:=zA cn
 have HCC:=zA cc
 clear q1 q2 hs hp hn hc hb
 go_enter Tryz.func147,Tryz.ntmps147
 repeat'(first|go_skip|go_guarded|go_step|go_upon)
 go_quiet (fail)
 have cn':(W.drewN nq).cell? ⟨bn,0,none⟩=_:=cn
 clear cp cn cc e1 e2
 repeat'(first|go_skip|go_guarded|go_step|go_upon)
 go_loopw [8] (fun iv wr => ∃ i:Nat,k≤i∧i≤l.length∧iv=.int .i64 i∧Zn.alh l d k (l.length - k) k=Zn.alh l d k (l.length - i) i∧∃ n,wr=W.drewN n) (fun iv _=>((l.length:Int) - intOf iv).toNat)
 case atStart=>exact ⟨k,zD _,by omega,rfl,rfl,nq,rfl⟩
 obtain ⟨i,hki,hil,rfl,hS,n,rfl⟩:=hrel
 have cn2:=HN.out
 have cc2:=HCC.out
 have cn3:(W.drewN n).cell? ⟨bn,0,none⟩=_:=HN.out
 have cc3:(W.drewN n).cell? ⟨bc,0,none⟩=_:=HCC.out
 clear cn'
 have HSA:=zA hS
 clear hS
 by_cases hlt:i < l.length;rotate_left
 ·have i1 : ¬ (i:Int) < (l.length:Int):=by omega
  have hie:i=l.length:=by omega
  subst hie
  have HS1:Hid (Zn.alh l d k (l.length - l.length) l.length=true):=zA (by rw [vC];rfl)
  have ck:(W.drewN n).cell? ⟨b,o+(k - 1),none⟩=_:=HC.out (k - 1) (by omega)
  have w4:IntKind.wrap .i64 ((k:Int) - 1)=((k - 1:Nat):Int):=by rw [wrap_in]<;>omega
  have hk1:((k - 1:Nat):Int) < (l.length:Int):=by omega
  generalize l.getD (k - 1) 0=x at *
  repeat'(first|go_skip|go_guarded|go_step|go_upon)
  go_returns
  exact ⟨by rw [HR.out,HSA.out,HS1.out];rfl,n,rfl⟩
 have i1:(i:Int) < (l.length:Int):=by omega
 have ci:=HC.out i hlt
 have cj:=HC.out (i - k) (by omega)
 have bi:=HB.out i hlt
 have bj:=HB.out (i - k) (by omega)
 have HS1:Hid (Zn.alh l d k (l.length - i) i=if l.getD i 0=l.getD (i - k) 0+d then Zn.alh l d k (l.length - (i+1)) (i+1) else false):=zA (by rw [show l.length - i=(l.length - (i+1))+1 by omega];rfl)
 generalize l.getD i 0=x at *
 generalize l.getD (i - k) 0=y at *
 have w3:=zWI (y+d)
 have w4:IntKind.wrap .i64 ((i:Int) - (k:Int))=((i - k:Nat):Int):=by rw [wrap_in]<;>omega
 by_cases hx:x=y+d
 ·have t1:(x == y+d)=true:=by simpa using hx
  rw [zQ hx] at HS1
  repeat'(first|go_skip|go_guarded|go_step|go_upon)
  go_quiet (fail)
  repeat'(first|go_skip|go_guarded|go_step|go_upon)
  exact ⟨⟨i+1,by omega,by omega,by go_num,by rw [HSA.out,HS1.out],n+nq,by first | rfl | rw [World.drewN_drewN]⟩,by simp [intOf];omega⟩
 have t1:(x == y+d)=false:=by simpa using hx
 rw [zS hx] at HS1
 clear hx
 repeat'(first|go_skip|go_guarded|go_step|go_upon)
 go_quiet (fail)
 repeat'(first|go_skip|go_guarded|go_step|go_upon)
 go_returns
 exact ⟨by rw [HR.out,HSA.out,HS1.out];rfl,n+nq,by first | rfl | rw [World.drewN_drewN]⟩
end Go.Proofs.YtppjleebbjipbaaGreat
namespace Go.Proofs.YtppjleebbjipbaaGreat
open Go.RowKit Go.Shelf
set_option maxRecDepth 20000
set_option maxHeartbeats 8000000
theorem a2c.take {W:World} {ao:Option Addr} {c:Nat} {l:List Int} (h:a2c W (.slice ao l.length c) l) {k:Nat} (hk:k≤l.length):a2c W (.slice ao k c) (l.take k):=by
 obtain ⟨⟨ao',c',h1,h2⟩,a2,c2,h3,h4⟩:=h
 injection h1 with e1 _ e2
 injection h3 with e3 _ e4
 subst e1 e2
 subst e3 e4
 have hl:(l.take k).length=k:=by simp;omega
 refine ⟨⟨_,_,by rw [hl],fun hn=>?_⟩,_,_,by rw [hl],by rw [hl];omega⟩
 obtain ⟨b,o,row,T,fr,q1,q2,q3⟩:=h2 (by omega)
 refine ⟨b,o,row,T,fr,q1,q2,fun i hi=>?_⟩
 rw [hl] at hi
 rw [q3 i (by omega),zB,zB,xQ,zQ hi]
theorem ac3 {W:World} {cv:Value} {l:List Int} {period:Int} (hv:a2c W cv l) (p0:1≤period) (p1:period≤1099511627776) (hl:l.length≤1048576) (hb:∀ x∈l,0≤x∧x < period) :
  Calls Tryz.prog 118 #[.int .i64 period,cv] W fun e w'=>(∃ v,e=.returned (.tuple #[.int .i64 (Zn.a18 period l).1,v])∧a2c w' v (Zn.a18 period l).2)∧Below W W w':=by
 obtain ⟨ao,c,rfl,hcap⟩:=hv.2
 have o0:obj (((W.alloc (.cells #[period] 3)).alloc (.cells #[.slice ao l.length c] 28)).alloc (.cells #[(l.length:Int)] 3)) W.heap.size=some (.cells #[period] 3 (0,0)):=a06 (a06 (a05 _ _ _ rfl) _) _
 have o1:obj (((W.alloc (.cells #[period] 3)).alloc (.cells #[.slice ao l.length c] 28)).alloc (.cells #[(l.length:Int)] 3)) (W.heap.size+1)=some (.cells #[.slice ao l.length c] 28 (0,0)):=a06 (a05 _ _ _ (by simp)) _
 have o2:obj (((W.alloc (.cells #[period] 3)).alloc (.cells #[.slice ao l.length c] 28)).alloc (.cells #[(l.length:Int)] 3)) (W.heap.size+2)=some (.cells #[(l.length:Int)] 3 (0,0)):=a05 _ _ _ (by simp)
 have hB:Below W W (((W.alloc (.cells #[period] 3)).alloc (.cells #[.slice ao l.length c] 28)).alloc (.cells #[(l.length:Int)] 3)):=((bR.alloc (zD _) _).alloc (by simp) _).alloc (by simp;omega) _
 have hmf:∀ (fn:Fn) (first cap:Array Value) (w:World),(Instr.makeFunc fn first cap).run Tryz.prog w=.ok (.func fn first cap) w:=fun _ _ _ _=>rfl
 go_enter Tryz.func118,Tryz.ntmps118
 repeat'(first|go_skip|go_guarded|go_step|go_upon)
 have hv2:=hv.below hB
 clear hv
 generalize ((W.alloc (.cells #[period] 3)).alloc (.cells #[.slice ao l.length c] 28)).alloc (.cells #[(l.length:Int)] 3)=V at *
 have HSM:=zA (fun (n parts:Nat) (h2:2≤parts) (hk:1≤l.length / parts) (hpl:parts≤l.length)=>agt (W:=V.drewN n) (bp:=W.heap.size) (bn:=W.heap.size+2) (bc:=W.heap.size+1) o0 o2 o1 hv2.1 p0 p1 hl hb (parts:=parts) h2 hk hpl)
 have HV2:=zA hv2
 have c0:=a02 o0 0
 have c1:=a02 o1 0
 have c2:=a02 o2 0
 clear hv2 hmf hb
 go_loopw [8] (fun iv wr => ∃ parts n:Nat,parts≤l.length∧iv=.int .i64 parts∧Zn.a18 period l=Zn.a5k period l parts∧wr=V.drewN n) (fun iv _=>(intOf iv).toNat)
 case atStart=>exact ⟨l.length,0,zD _,rfl,rfl,rfl⟩
 obtain ⟨parts,n,hpl,rfl,hS,rfl⟩:=hrel
 have HS:=zA hS
 clear hS
 have HBn:=zA (below_drewN hB n)
 by_cases hgt:1 < parts;rotate_left
 ·have i1 : ¬ (1:Int) < (parts:Int):=by omega
  have ajt:Hid (Zn.a18 period l=(period,l)):=zA (by
   rw [HS.out]
   rcases parts with _ | _ | parts
   ·rfl
   ·rfl
   ·omega)
  repeat'(first|go_skip|go_guarded|go_step|go_upon)
  go_quiet (fail)
  repeat'(first|go_skip|go_guarded|go_step|go_upon)
  go_returns
  exact ⟨⟨_,by rw [ajt.out];rfl,by rw [ajt.out];exact HV2.out.below (below_drewN (below_drewN bR n) nq)⟩,below_drewN HBn.out nq⟩
 have i1:(1:Int) < (parts:Int):=by omega
 have hk:1≤l.length / parts:=(Nat.one_le_div_iff (by omega)).2 hpl
 have HC:=zA (HSM.out n parts (by omega) hk hpl)
 have hst:Zn.a5k period l parts=if Zn.anq period l parts=true then (period / (parts:Int),l.take (l.length / parts)) else Zn.a5k period l (parts - 1):=by
  obtain ⟨q,rfl⟩ : ∃ q,parts=q+2:=⟨parts - 2,by omega⟩
  rfl
 have HST:=zA hst
 have e1:Int.tmod (l.length:Int) (parts:Int)=((l.length % parts:Nat):Int):=by rw [yE (by omega)];rfl
 have e2:Int.tmod period (parts:Int)=period % (parts:Int):=yE (by omega)
 have z0:((parts:Int) == 0)=false:=by simp;omega
 have m1:(0:Int)≤period % (parts:Int):=wP _ (by omega)
 have m2:period % (parts:Int) < (parts:Int):=vJ _ (by omega)
 have m3:l.length % parts < parts:=wJ _ (by omega)
 have w1:IntKind.wrap .i64 ((l.length % parts:Nat):Int)=((l.length % parts:Nat):Int):=by rw [wrap_in]<;>omega
 have w2:=zWI (period % (parts:Int))
 have w3:=zWI ((parts:Int) - 1)
 have HF:Hid (Zn.anq period l parts=(decide (l.length % parts=0)&&(decide (period % (parts:Int)=0)&&Zn.aer period l parts))):=zA rfl
 have fin:Zn.anq period l parts=false→Zn.a18 period l=Zn.a5k period l (parts - 1):=fun h=>by rw [HS.out,HST.out,zS (by rw [h];decide)]
 have FIN:=zA fin
 have hp1:((parts - 1:Nat):Int)=(parts:Int) - 1:=by omega
 have HP1:=zA hp1
 clear hst m2 hp1 fin
 generalize hmn:l.length % parts=mn at *
 generalize hmp:period % (parts:Int)=mp at *
 clear hmn hmp
 by_cases ha:mn=0;rotate_left
 ·have t1:((mn:Int) == 0)=false:=by simp;exact ha
  have ajt:=zA (FIN.out (by rw [HF.out,zW ha,Bool.false_and]))
  clear HF HST FIN
  repeat'(first|go_skip|go_guarded|go_step|go_upon)
  exact ⟨⟨parts - 1,n,by omega,by rw [HP1.out],ajt.out,rfl⟩,by simp [intOf];omega⟩
 have t1:((mn:Int) == 0)=true:=by simp;exact ha
 by_cases hp:mp=0;rotate_left
 ·have t2:(mp == 0)=false:=by simpa using hp
  have ajt:=zA (FIN.out (by rw [HF.out,zW hp,Bool.false_and,Bool.and_false]))
  clear HF HST FIN
  repeat'(first|go_skip|go_guarded|go_step|go_upon)
  exact ⟨⟨parts - 1,n,by omega,by rw [HP1.out],ajt.out,rfl⟩,by simp [intOf];omega⟩
 have t2:(mp == 0)=true:=by simpa using hp
 rw [zV ha,zV hp,Bool.true_and,Bool.true_and] at HF
 rw [← HF.out] at HC
 clear ha hp
 cases hf:Zn.anq period l parts
 ·have ajt:=zA (FIN.out hf)
  rw [hf] at HC
  clear hf HF HST FIN
  repeat' (first | (go_at_call 147;((with_reducible refine (HC.out).mono ?_));rintro e w5 ⟨rfl,⟨n5,rfl⟩⟩;dsimp only)|go_skip|go_guarded|go_step|go_upon)
  exact ⟨⟨parts - 1,n+n5,by omega,by rw [HP1.out],ajt.out,by first | rfl | rw [World.drewN_drewN]⟩,by simp [intOf];omega⟩
 have ajt:Hid (Zn.a18 period l=(period / (parts:Int),l.take (l.length / parts))):=zA (by rw [HS.out,HST.out,zQ hf])
 rw [hf] at HC
 have e3:Int.tdiv period (parts:Int)=period / (parts:Int):=xA (by omega)
 have e4:Int.tdiv (l.length:Int) (parts:Int)=((l.length / parts:Nat):Int):=by rw [xA (by omega)];rfl
 have hd0:0≤period / (parts:Int):=Int.ediv_nonneg (by omega) (by omega)
 have hd1:period / (parts:Int)≤period:=Int.ediv_le_self _ (by omega)
 have hkl:l.length / parts≤l.length:=vY _ _
 have HTK:=zA (fun Wq (hq:Below V V Wq)=>(HV2.out.below hq).take hkl)
 generalize period / (parts:Int)=d at *
 generalize l.length / parts=k at *
 have w4:=zWI d
 have w5:IntKind.wrap .i64 (k:Int)=(k:Int):=by rw [wrap_in]<;>omega
 have k1:(k:Int)≤(c:Int):=by omega
 have k0:(0:Int)≤(k:Int):=by omega
 have k2 : ¬ (k:Int) < 0:=by omega
 have k3 : ¬ (c:Int) < (k:Int):=by omega
 clear hf HF HST FIN
 repeat' (first | (go_at_call 147;((with_reducible refine (HC.out).mono ?_));rintro e w5 ⟨rfl,⟨n5,rfl⟩⟩;dsimp only)|go_skip|go_guarded|go_step|go_upon)
 go_quiet (fail)
 repeat'(first|go_skip|go_guarded|go_step|go_upon)
 go_returns
 exact ⟨⟨_,by rw [ajt.out];rfl,by rw [ajt.out];exact HTK.out _ (below_drewN (below_drewN bR (n+n5)) nq)⟩,below_drewN (below_drewN hB (n+n5)) nq⟩
end Go.Proofs.YtppjleebbjipbaaGreat
namespace Go.Proofs.YtppjleebbjipbaaGreat
open Go.RowKit Go.Shelf
attribute [local go_sem] Oper.semAt_some
set_option maxRecDepth 100000
set_option maxHeartbeats 8000000
theorem aex (a:Option Addr) (n c:Nat) (w:World) :
  Calls Tryz.prog 119 #[.slice a n c] w fun e w'=>e=.returned (.func (.func 148) #[] #[.pointer (some ⟨w.heap.size,0,none⟩)])∧w.alloc (.cells #[.slice a n c] 28)=w':=by
 have hmf:∀ (fn:Fn) (first cap:Array Value) (w:World),(Instr.makeFunc fn first cap).run Tryz.prog w=.ok (.func fn first cap) w:=fun _ _ _ _=>rfl
 go_enter Tryz.func119,Tryz.ntmps119
 repeat'(first|go_skip|go_guarded|go_step|go_upon)
 go_ret
 exact ⟨rfl,rfl⟩
def ads (rs:List Int) (i:Nat):Option (Int×Int):=if i < rs.length then some (((rs.length - 1 - i:Nat):Int),rs.getD (rs.length - 1 - i) 0) else none
theorem aj2 (n:Nat) (hn:2≤n) (box:Nat) (v:Value) (rs:List Int) (hz:rs.length≤1000000000) (w:World) (hbox:obj w box=some (.cells #[v] 28 (0,0))) (hv:a1s w v rs) :
  anc n Tryz.prog 148 #[.pointer (some ⟨box,0,none⟩)] (fun x u _=>u=#[.int .i64 x.1,.int .i64 x.2]) (fun k=>k=box∨(0 < rs.length∧∃ b o m c,v=.slice (some ⟨b,o,none⟩) m c∧k=b)) (ads rs) rs.length w:=by
 intro l R J Z W hW hR hJ hbd hY h0
 have aez:=a0a hbox hW
 have hv0:=hv.below hW
 obtain ⟨ao,c,rfl,hs⟩:=hv0
 have HS:=zA hs
 clear hs hv hbox
 have an2 : ¬ R box:=fun h=>(hR box h).2 (.inl rfl)
 refine callsIn_of_wp Tryz.func148 rfl trivial ?_ rfl
 simp only [Tryz.ntmps148,xJ,yS,xI,Nat.reduceAdd,Nat.reduceSub,xZ,xY,wK,wE,wO,xK]
 have w0:IntKind.wrap .i64 ((rs.length:Int) - 1)=(rs.length:Int) - 1:=wrap_in (by omega) (by omega)
 have c0:=a02 aez 0
 gi_wp2_with fail
 gi_loopw [3] (fun i wr => ∃ k:Nat,k≤rs.length∧i=.int .i64 ((rs.length:Int) - 1 - k)∧J k wr∧a0o R W wr) (fun i _=>(intOf i+1).toNat)
 case atStart=>exact ⟨0,by omega,by simp,h0,a0o.refl _ _⟩
 clear c0 h0
 obtain ⟨k,hk,rfl,hJk,hK⟩:=hrel
 have bx:obj wr box=some (.cells #[.slice ao rs.length c] 28 (0,0)):=(hK.2 box (a09 aez) an2).trans aez
 have c0:=a02 bx 0
 by_cases hlt:k < rs.length;rotate_left
 ·have hkl:k=rs.length:=by omega
  have i1:((rs.length:Int) - 1 - (k:Int)) < 0:=by omega
  gi_wp2_with fail
  go_end0
  exact ⟨⟨_,rfl⟩,.inl ⟨k,by unfold ads;rw [zS hlt],hJk⟩⟩
 obtain ⟨b,o,row,T,fr,rfl,q1,q2⟩:=HS.out (by omega)
 have k2:=q2 (rs.length - 1 - k) (by omega)
 have hbR : ¬ R b:=fun h=>(hR b h).2 (.inr ⟨by omega,b,o,rs.length,c,rfl,rfl⟩)
 have q1':obj wr b=some (.cells row T fr):=(hK.2 b (a09 q1) hbR).trans q1
 have ck:=(a02 q1' (o+(rs.length - 1 - k))).trans k2
 clear k2 q2
 have hi:((rs.length:Int) - 1 - (k:Int))=((rs.length - 1 - k:Nat):Int):=by omega
 rw [hi]
 have hnx:ads rs k=some (((rs.length - 1 - k:Nat):Int),rs.getD (rs.length - 1 - k) 0):=zQ hlt
 obtain ⟨fn,tmps,assign,body,hy,hR2⟩:=hY k _ _ wr hJk hnx rfl
 (try dsimp only at hy)
 have hm:rs.length - 1 - k < rs.length:=by omega
 have HM:=zA (show rs.length - 1 - k+1+k=rs.length by omega)
 clear hnx hi
 generalize rs.getD (rs.length - 1 - k) 0=r at *
 generalize hM:rs.length - 1 - k=m at *
 clear hM
 have i0 : ¬ (m:Int) < 0:=by omega
 have i1:(m:Int) < (rs.length:Int):=by omega
 have w1:IntKind.wrap .i64 ((m:Int) - 1)=(m:Int) - 1:=wrap_in (by omega) (by omega)
 gi_wp2_with fail
 refine ⟨fun _=>by omega,hR2.mono ?_⟩
 rintro e W5 ⟨hk5,(⟨rfl,hJ5⟩ | ⟨rfl,hZ5⟩)⟩
 ·gi_wp2_with fail
  refine ⟨⟨k+1,by omega,?_,hJ5,hK.trans hk5⟩,by simp [intOf]<;>omega⟩
  have:=HM.out
  congr 1
  omega
 gi_wp2_with fail
 refine yO (results_none rfl _ _ _) rfl ?_
 exact ⟨⟨_,rfl⟩,.inr hZ5⟩
theorem acx {w:World} {ops:Array Oper} {rest:List Oper} {o:Oper} {a:Act} {Q:Exit→Act→World→Prop} (hgd:o.guard=none) (s x:Operand)
  (ho:o.op=.call { callee:=.builtin .append,args:=#[s,x],argTypes:=#[28,28] }) {l:List Int} (hl:l.length≤1000000000) (b0:Nat) (hs:a.eval s=.slice (some ⟨b0,0,none⟩) 0 0) {ad:Addr} {c:Nat} (hx:a.eval x=.slice (some ad) l.length c) (hv:a1s w (.slice (some ad) l.length c) l)
  (hK:∀ v' w',a2t w' v' l→Below w w w'→wpList Tryz.prog ops Q rest (a.put o.dst v') w'):wpList Tryz.prog ops Q (o :: rest) a w:=by
 obtain ⟨i0,hi,hz0,hz1,hz2⟩:=a9l
 have hsrc:∀ (m:Nat),m=l.length→Src Tryz.prog i0.size 28 (.slice (some ad) m c) m (a4m l) w:=fun m hm=>by
  rw [hz1]
  refine Src.ofSlice w Tryz.underlying28 ad m c (a4m l) (by simp [a4m,hm]) (fun j u hj=>?_) (fun u hu=>?_)
  ·obtain ⟨ao,c',h1,h2⟩:=hv
   (have hjl:j < l.length:=by have:=(vK.1 hj).1;simpa [a4m] using this);obtain ⟨b,off,row,T,fr,q1,q2,q3⟩:=h2 (by omega)
   injection h1 with h1 _ _
   rw [q1] at h1;cases h1;(have:(a4m l)[j]? = some (.int .i64 (l.getD j 0)):=by unfold a4m;rw [xC,zK hjl,zB,zK hjl];rfl);rw [this] at hj;cases hj;have h9:=(a02 q2 (off+j)).trans (q3 j hjl);rw [Addr.add_lit];exact h9
  ·unfold a4m at hu
   obtain ⟨n,_,rfl⟩:=List.mem_map.1 hu;rfl
 refine wpList_plain hgd fun K hK'=>?_
 by_cases hl0:l.length=0
 ·have hle:l = []:=yH.1 hl0
  have hr:=run_append_room_src (P:=Tryz.prog) w 28 28 o.type 3 i0 Tryz.underlying28 hi b0 0 0 0 (.slice (some ad) l.length c) l.length (a4m l) (hsrc _ rfl) (by omega) (fun j hj=>by rw [hle] at hj;simp [a4m] at hj) (fun j hj=>by rw [hle] at hj;simp [a4m] at hj)
  unfold Oper.wp execOp
  simp only [ho,resolve,invoke,builtin,vV,Sem.run_pure,Result.andThen_ok,List.map_toArray,List.map_cons,List.map_nil,hs,hx,hr]
  refine hK' _ _ (hK _ _ ⟨some ⟨b0,0,none⟩,0,by rw [hl0],fun h=>by omega⟩ ?_)
  rw [hle]
  exact zC _ _
 have hr:=run_append_grow_src (P:=Tryz.prog) w 28 28 o.type 3 i0 _ Tryz.underlying28 hi hz0 (some ⟨b0,0,none⟩) 0 0 [] (run_firstCells_some w.drew i0.size 0 ⟨b0,0,none⟩ 0 0 [] (by simp) (fun j u hj=>by simp at hj)) (.slice (some ad) l.length c) l.length (a4m l) (hsrc _ rfl) (by omega) (by omega) (growslice_fits (by omega) (by rw [hz2];omega))
 unfold Oper.wp execOp
 simp only [ho,resolve,invoke,builtin,vV,Sem.run_pure,Result.andThen_ok,List.map_toArray,List.map_cons,List.map_nil,hs,hx,hr]
 refine hK' _ _ (hK _ _ ⟨_,_,by rw [yI],fun _=>⟨w.heap.size,0,_,(0,0),rfl,World.alloc_heap_new w.drew _,fun i hi'=>?_⟩⟩ (bR.drew.alloc (zD _) _))
 rw [yI]
 simp only [wO]
 rw [xH (by simp [a4m];omega),List.getElem?_toArray]
 unfold a4m
 rw [yI,xC,zK hi',zB,zK hi']
 rfl
theorem af6 {W:World} {v:Value} {l:List Int} (hv:a1s W v l) (hl:l.length≤1000000000) :
  Calls Tryz.prog 117 #[v] W fun e w'=>(∃ v',e=.returned v'∧a2t w' v' l)∧Below W W w':=by
 obtain ⟨ao,c,rfl,hs⟩:=id hv
 cases ao with
 | none =>
  have hl0:l.length=0:=Nat.eq_zero_of_not_pos fun h=>by obtain ⟨b,o,row,T,fr,q,_⟩:=hs h;cases q
  have hle:l = []:=yH.1 hl0
  subst hle
  clear hs hv
  have heq:=fun Wq:World=>Lib.run_eql_slice_nil (P:=Tryz.prog) Wq 28 3 none 0 c 0 0 Tryz.underlying28
  go_enter Tryz.func117,Tryz.ntmps117
  repeat'(first|go_skip|go_guarded|go_step|go_upon)
  go_ret
  exact ⟨⟨_,rfl,a2t.nil _⟩,zC _ _⟩
 | some ad =>
  clear hs
  have heq:=fun Wq:World=>Lib.run_eql_slice_nil (P:=Tryz.prog) Wq 28 3 (some ad) l.length c 0 0 Tryz.underlying28
  have A1:=(zC W.heap.size W).alloc (zD _) (.cells #[] 3)
  go_enter Tryz.func117,Tryz.ntmps117
  have hv1:=hv.below A1
  repeat' (first | (at_builtin;(refine acx rfl _ _ rfl hl W.heap.size rfl rfl hv1 ?_);intro v5 W5 hv5 hB5;dsimp only)|go_skip|go_guarded|go_step|go_upon)
  go_ret
  exact ⟨⟨_,rfl,hv5⟩,A1.trans (hB5.mono (by simp))⟩
end Go.Proofs.YtppjleebbjipbaaGreat
