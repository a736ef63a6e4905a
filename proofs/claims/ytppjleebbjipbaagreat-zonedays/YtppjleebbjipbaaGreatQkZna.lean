/-
  Numbers: remainders, the greatest common divisor, the least common multiple.
-/
import Derived.Test.YtppjleebbjipbaaGreatQkGrw
import Derived.Test.YtppjleebbjipbaaGreatQkZnA
import Derived.Test.YtppjleebbjipbaaGreatQkTy
set_option linter.all false
namespace Go.Proofs.YtppjleebbjipbaaGreat
open Go.RowKit
set_option maxRecDepth 20000
set_option maxHeartbeats 8000000
theorem wrap_in {x:Int} (h1 : -9223372036854775808≤x) (h2:x < 9223372036854775808):IntKind.wrap .i64 x=x:=by
 rw [IntKind.wrap_i64];omega
theorem a99 {a b:Int} (hb:0 < b):a % b=if Int.tmod a b < 0 then Int.tmod a b+b else Int.tmod a b:=by
 have h1:=wP a (show b≠0 by omega)
 have h2:=vJ a hb
 rw [Int.tmod_eq_emod]
 by_cases hd:0≤a∨b ∣ a
 ·rw [zQ hd,zS (by omega)];omega
 rw [zS hd,zQ (by omega)];omega
theorem ah4 {W:World} {a b:Int} (hb:0 < b) (hb2:b < 4611686018427387904) :
  Calls Tryz.prog 211 #[.int .i64 a,.int .i64 b] W fun e w'=>e=.returned (.int .i64 (a % b))∧W=w':=by
 have h0:b≠0:=by omega
 have hm:=@a99 a b hb
 have hl:=Int.tmod_lt_of_pos a hb
 have hg : -b≤Int.tmod a b:=by
  have h1:=wP a h0
  rw [hm] at h1
  split at h1<;>omega
 have HM:=zA hm
 clear hm
 have hw0:IntKind.wrap .i64 (Int.tmod a b)=Int.tmod a b:=wrap_in (by omega) (by omega)
 generalize hr:Int.tmod a b=r at *
 have HR:=zA hr
 clear hr
 have hw:IntKind.wrap .i64 (r+b)=r+b:=wrap_in (by omega) (by omega)
 by_cases hn:r < 0
 ·have he:a % b=r+b:=by rw [HM.out,zQ hn]
  rw [he]
  go_enter Tryz.func211,Tryz.ntmps211
  rw [← HR.out] at hn hw0 hw ⊢
  repeat'(first|go_skip|go_guarded|go_step|go_upon)
  go_ret
  exact ⟨by first | rfl | (rw [hw]),rfl⟩
 have he:a % b=r:=by rw [HM.out,zS hn]
 rw [he]
 go_enter Tryz.func211,Tryz.ntmps211
 rw [← HR.out] at hn hw0 hw ⊢
 repeat'(first|go_skip|go_guarded|go_step|go_upon)
 go_ret
 exact ⟨rfl,rfl⟩
theorem ahr {W:World} {a b:Int} (hb:0 < b) (hb2:b < 4611686018427387904) :
  Calls Tryz.prog 203 #[.int .i64 a,.int .i64 b] W fun e w'=>e=.returned (.tuple #[.int .i64 (a % b),.int .i64 0])∧W=w':=by
 have HM:=zA (@ah4 W a b hb hb2)
 have h1 : ¬ b < 1:=by omega
 clear hb2
 go_enter Tryz.func203,Tryz.ntmps203
 repeat' (first | (go_at_call 211;((with_reducible refine (HM.out).mono ?_));rintro e w5 ⟨rfl,rfl⟩;dsimp only)|go_skip|go_guarded|go_step|go_upon)
 go_returns
 exact ⟨rfl,rfl⟩
theorem abp {W:World} {a b:Int} (hb:0 < b) (hb2:b < 4611686018427387904) :
  Calls Tryz.prog 187 #[.int .i64 a,.int .i64 b] W fun e w'=>e=.returned (.int .i64 (a % b))∧W=w':=by
 have HM:=zA (@ahr W a b hb hb2)
 clear hb hb2
 go_enter Tryz.func187,Tryz.ntmps187
 repeat' (first | (go_at_call 203;((with_reducible refine (HM.out).mono ?_));rintro e w5 ⟨rfl,rfl⟩;dsimp only)|go_skip|go_guarded|go_step|go_upon)
 go_ret
 exact ⟨rfl,rfl⟩
theorem abw {W:World} {a:Int} :
  Calls Tryz.prog 165 #[.int .i64 a] W fun e w'=>e=.returned (.int .i64 (a % 7))∧W=w':=by
 have HM:=zA (@abp W a 7 (by omega) (by omega))
 go_enter Tryz.func165,Tryz.ntmps165
 repeat' (first | (go_at_call 187;((with_reducible refine (HM.out).mono ?_));rintro e w5 ⟨rfl,rfl⟩;dsimp only)|go_skip|go_guarded|go_step|go_upon)
 go_ret
 exact ⟨rfl,rfl⟩
theorem abd {W:World} {a:Nat} (h:a < 9223372036854775808) :
  Calls Tryz.prog 163 #[.int .i64 a] W fun e w'=>e=.returned (.int .u64 a)∧W=w':=by
 have h0 : ¬ (a:Int) < 0:=by omega
 have hw:IntKind.wrap .u64 (a:Int)=(a:Int):=by rw [IntKind.wrap_u64];omega
 go_enter Tryz.func163,Tryz.ntmps163
 repeat'(first|go_skip|go_guarded|go_step|go_upon)
 go_ret
 exact ⟨rfl,rfl⟩
theorem aju {W:World} {a b:Nat} (ha:a < 4611686018427387904) (hb:b < 4611686018427387904) :
  Calls Tryz.prog 125 #[.int .i64 a,.int .i64 b] W fun e w'=>e=.returned (.int .i64 (Nat.gcd a b:Nat))∧Below W W w':=by
 have HA:=zA (@abd W a (by omega))
 have HB:=zA (@abd W b (by omega))
 go_enter Tryz.func125,Tryz.ntmps125
 repeat' (first | (go_at_call 163;((with_reducible refine (HA.out).mono ?_));rintro e w5 ⟨rfl,rfl⟩;dsimp only) | (go_at_call 163;((with_reducible refine (HB.out).mono ?_));rintro e w5 ⟨rfl,rfl⟩;dsimp only)|go_skip|go_guarded|go_step|go_upon)
 go_loopw [5,6] (fun u v wr => ∃ x y:Nat,x < 4611686018427387904∧y < 4611686018427387904∧Nat.gcd x y=Nat.gcd a b∧u=.int .u64 x∧v=.int .u64 y∧Below W W wr) (fun _ v _=>(intOf v).toNat)
 case atStart=>exact ⟨a,b,ha,hb,rfl,rfl,rfl,zC _ _⟩
 obtain ⟨x,y,hx,hy,hgc,rfl,rfl,hB⟩:=hrel
 by_cases h0:y=0
 ·subst h0
  rw [Nat.gcd_zero_right] at hgc
  have HGC:=zA hgc
  clear hgc
  have w1:IntKind.wrap .i64 (x:Int)=(x:Int):=wrap_in (by omega) (by omega)
  have w2 : ¬ (9223372036854775807:Int) < (x:Int):=by omega
  repeat'(first|go_skip|go_guarded|go_step|go_upon)
  go_ret
  exact ⟨by rw [← HGC.out];rfl,hB⟩
 have r0:(y:Int)≠0:=by omega
 have hlt:=wJ x (by omega:0 < y)
 have rt:Int.tmod (x:Int) (y:Int)=((x % y:Nat):Int):=by rw [yE (by omega)];omega
 repeat'(first|go_skip|go_guarded|go_step|go_upon)
 go_quiet (fail)
 have hB':Below W W (wr.drewN nq):=⟨hB.os,hB.tape,hB.output,hB.size,hB.block⟩
 generalize wr.drewN nq=w2 at *
 repeat'(first|go_skip|go_guarded|go_step|go_upon)
 exact ⟨⟨y,x % y,by omega,by omega,by rw [Nat.gcd_comm y,← Nat.gcd_rec,Nat.gcd_comm];exact hgc,rfl,rfl,hB'⟩,by simp [intOf];omega⟩
theorem ajq {W:World} {a b:Nat} (ha:1≤a) (ha2:a≤1000000) (hb:1≤b) (hb2:b≤1000000) :
  Calls Tryz.prog 84 #[.int .i64 a,.int .i64 b] W fun e w'=>e=.returned (.tuple #[.int .i64 (Nat.lcm a b:Nat),.int .i64 0])∧Below W W w':=by
 have HG:=zA (@aju W a b (by omega) (by omega))
 have hg1:1≤Nat.gcd a b:=Nat.gcd_pos_of_pos_left b (by omega)
 have hga:Nat.gcd a b≤a:=Nat.gcd_le_left b (by omega)
 have hl:Nat.lcm a b=a / Nat.gcd a b * b:=by unfold Nat.lcm;rw [Nat.div_mul_right_comm (Nat.gcd_dvd_left a b)]
 have hd:a / Nat.gcd a b≤a:=vY _ _
 have HL:=zA hl
 clear hl
 generalize Nat.gcd a b=g at *
 obtain ⟨r,hr⟩ : ∃ r,a / g=r:=⟨_,rfl⟩
 rw [hr] at hd HL
 have t1:Int.tdiv (a:Int) (g:Int)=(r:Int):=by rw [xA (by omega),← hr];rfl
 have w1:IntKind.wrap .i64 (r:Int)=(r:Int):=wrap_in (by omega) (by omega)
 have g0:(g:Int)≠0:=by omega
 have b0:(b:Int)≠0:=by omega
 have a1 : ¬ (a:Int) < 1:=by omega
 have b1 : ¬ (b:Int) < 1:=by omega
 clear hr
 have hq:1099511≤1099511627776 / b:=(Nat.le_div_iff_mul_le (by omega)).2 (by omega)
 have hq2:1099511627776 / b≤1099511627776:=vY _ _
 obtain ⟨q,hqq⟩ : ∃ q,1099511627776 / b=q:=⟨_,rfl⟩
 rw [hqq] at hq hq2
 have t2:Int.tdiv (1099511627776:Int) (b:Int)=(q:Int):=by rw [xA (by omega),← hqq];rfl
 have w2:IntKind.wrap .i64 (q:Int)=(q:Int):=wrap_in (by omega) (by omega)
 clear hqq
 have c1 : ¬ (q:Int) < (r:Int):=by omega
 have hm:r * b≤1000000 * 1000000:=Nat.mul_le_mul (by omega) hb2
 have w3:IntKind.wrap .i64 ((r:Int) * (b:Int))=((r * b:Nat):Int):=by rw [wrap_in]<;>push_cast<;>omega
 have HLL:=HL
 clear HL
 clear hm hq hq2
 go_enter Tryz.func84,Tryz.ntmps84
 repeat' (first | (go_at_call 125;((with_reducible refine (HG.out).mono ?_));rintro e w5 ⟨rfl,hb5⟩;dsimp only)|go_skip|go_guarded|go_step|go_upon)
 go_returns
 exact ⟨by rw [HLL.out];rfl,hb5⟩
theorem agv {W:World} {a b:Int} (hb:0 < b) (hb2:b < 4611686018427387904) :
  Calls Tryz.prog 111 #[.int .i64 a,.int .i64 b] W fun e w'=>e=.returned (.int .i64 (a % b))∧W=w':=by
 have h0:b≠0:=by omega
 have hm:=@a99 a b hb
 have hl:=Int.tmod_lt_of_pos a hb
 have hg : -b≤Int.tmod a b:=by
  have h1:=wP a h0
  rw [hm] at h1
  split at h1<;>omega
 have HM:=zA hm
 clear hm
 have hw0:IntKind.wrap .i64 (Int.tmod a b)=Int.tmod a b:=wrap_in (by omega) (by omega)
 have hw:IntKind.wrap .i64 (Int.tmod a b+b)=Int.tmod a b+b:=wrap_in (by omega) (by omega)
 by_cases hn:Int.tmod a b < 0
 ·have he:a % b=Int.tmod a b+b:=by rw [HM.out,zQ hn]
  rw [he]
  go_enter Tryz.func111,Tryz.ntmps111
  repeat'(first|go_skip|go_guarded|go_step|go_upon)
  go_ret
  exact ⟨rfl,rfl⟩
 have he:a % b=Int.tmod a b:=by rw [HM.out,zS hn]
 rw [he]
 go_enter Tryz.func111,Tryz.ntmps111
 repeat'(first|go_skip|go_guarded|go_step|go_upon)
 go_ret
 exact ⟨rfl,rfl⟩
theorem agu {W:World} {a b:Nat} (ha:a < 4611686018427387904) (hb:b < 4611686018427387904) :
  Calls Tryz.prog 65 #[.int .i64 a,.int .i64 b] W fun e w'=>e=.returned (.int .i64 (Nat.gcd a b:Nat))∧Below W W w':=by
 go_enter Tryz.func65,Tryz.ntmps65
 repeat'(first|go_skip|go_guarded|go_step|go_upon)
 go_loopw [0,1] (fun u v wr => ∃ x y:Nat,x < 4611686018427387904∧y < 4611686018427387904∧Nat.gcd x y=Nat.gcd a b∧u=.int .i64 x∧v=.int .i64 y∧Below W W wr) (fun _ v _=>(intOf v).toNat)
 case atStart=>exact ⟨a,b,ha,hb,rfl,rfl,rfl,zC _ _⟩
 obtain ⟨x,y,hx,hy,hgc,rfl,rfl,hB⟩:=hrel
 by_cases h0:y=0
 ·subst h0
  rw [Nat.gcd_zero_right] at hgc
  have HGC:=zA hgc
  clear hgc
  repeat'(first|go_skip|go_guarded|go_step|go_upon)
  go_ret
  exact ⟨by rw [← HGC.out];rfl,hB⟩
 have r0:(y:Int)≠0:=by omega
 have hlt:=wJ x (by omega:0 < y)
 have rt:Int.tmod (x:Int) (y:Int)=((x % y:Nat):Int):=by rw [yE (by omega)];omega
 have rw_:IntKind.wrap .i64 ((x % y:Nat):Int)=((x % y:Nat):Int):=wrap_in (by omega) (by omega)
 have HG:Hid (Nat.gcd y (x % y)=Nat.gcd a b):=zA (by rw [Nat.gcd_comm y,← Nat.gcd_rec,Nat.gcd_comm];exact hgc)
 generalize x % y=r at *
 repeat'(first|go_skip|go_guarded|go_step|go_upon)
 go_roundw
 case rel=>exact ⟨y,r,by omega,by omega,HG.out,rfl,rfl,hB⟩
 case measure=>simp [intOf];omega
end Go.Proofs.YtppjleebbjipbaaGreat
namespace Go.Proofs.YtppjleebbjipbaaGreat
open Go.RowKit
set_option maxRecDepth 20000
set_option maxHeartbeats 8000000
theorem a0a {w w':World} {g:Nat} {x:Obj} (h:obj w g=some x) (hb:Below w w w'):obj w' g=some x:=a04 h hb (a09 h)
def a1s (W:World) (v:Value) (l:List Int):Prop := ∃ ao c,v=.slice ao l.length c∧(0 < l.length→∃ b o row T fr,ao=some ⟨b,o,none⟩∧obj W b=some (.cells row T fr)∧∀ i,i < l.length→row[o+i]? = some (.int .i64 (l.getD i 0)))
def a1m (W:World) (v:Value) (n z:Nat) (f:Nat→Array Value):Prop := ∃ ao c,v=.slice ao n c∧(0 < n→∃ b o row T fr,ao=some ⟨b,o,none⟩∧obj W b=some (.cells row T fr)∧∀ i,i < n→o+i * z+z≤row.size∧row.extract (o+i * z) (o+i * z+z)=f i)
theorem a1s.below {W W':World} {v:Value} {l:List Int} (h:a1s W v l) (hb:Below W W W'):a1s W' v l:=by
 obtain ⟨ao,c,h1,h2⟩:=h
 refine ⟨ao,c,h1,fun hn=>?_⟩
 obtain ⟨b,o,row,T,fr,q1,q2,q3⟩:=h2 hn
 exact ⟨b,o,row,T,fr,q1,a0a q2 hb,q3⟩
theorem a1m.below {W W':World} {v:Value} {n z:Nat} {f:Nat→Array Value} (h:a1m W v n z f) (hb:Below W W W'):a1m W' v n z f:=by
 obtain ⟨ao,c,h1,h2⟩:=h
 refine ⟨ao,c,h1,fun hn=>?_⟩
 obtain ⟨b,o,row,T,fr,q1,q2,q3⟩:=h2 hn
 exact ⟨b,o,row,T,fr,q1,a0a q2 hb,q3⟩
theorem a1s.one {W:World} {v:Value} {l:List Int} (h:a1s W v l):v.oneCell' = true:=by
 obtain ⟨ao,c,rfl,_⟩:=h;rfl
theorem a1m.one {W:World} {v:Value} {n z:Nat} {f:Nat→Array Value} (h:a1m W v n z f):v.oneCell' = true:=by
 obtain ⟨ao,c,rfl,_⟩:=h;rfl
def aa0 (r:Zn.LR):Array Value:=#[.int .i64 r.every,.int .i64 r.rest,.bool r.yes]
def agc (W:World) (v:Value) (rs:List Zn.LR):Prop:=a1m W v rs.length 3 fun i=>aa0 (rs.getD i default)
theorem all_false {ms:List Int} {k:Nat} (h:k < ms.length) (hn:Zn.a2p (ms.getD k 0)=false):ms.all Zn.a2p=false:=by
 rw [List.all_eq_false]
 refine ⟨ms.getD k 0,?_,by rw [hn];decide⟩
 rw [zB,zK h]
 exact yT h
theorem all_true {ms:List Int} (h:∀ j,j < ms.length→Zn.a2p (ms.getD j 0)=true):ms.all Zn.a2p=true:=by
 rw [yK]
 intro x hx
 obtain ⟨j,hj,rfl⟩:=List.getElem_of_mem hx
 have:=h j hj
 rwa [zB,zK hj] at this
theorem a8s {α:Type} {l:List α} {k:Nat} (h:k < l.length) (d:α):l.drop k=l.getD k d :: l.drop (k+1):=by
 rw [uC h,zB,zK h]
 rfl
def ajw (rs:List Zn.LR):Value:=.tuple #[.int .i64 (((Zn.period 1 rs).getD 0:Nat):Int),.bool (Zn.period 1 rs).isSome]
theorem a94 {W:World} {v:Value} {rs:List Zn.LR} (hv:agc W v rs) (hz:rs.length≤1000000) :
  Calls Tryz.prog 114 #[v] W fun e w'=>e=.returned (ajw rs)∧Below W W w':=by
 obtain ⟨ao,c,rfl,hs⟩:=hv
 have HS:=zA hs
 clear hs
 go_enter Tryz.func114,Tryz.ntmps114
 repeat'(first|go_skip|go_guarded|go_step|go_upon)
 go_loopw [4,11] (fun y i wr => ∃ k Y:Nat,k≤rs.length∧y=.int .i64 Y∧i=.int .i64 k∧1≤Y∧Y≤400∧Zn.period 1 rs=Zn.period Y (rs.drop k)∧Below W W wr) (fun _ i _=>((rs.length:Int) - intOf i).toNat)
 case atStart=>exact ⟨0,1,by omega,rfl,rfl,by omega,by omega,rfl,zC _ _⟩
 obtain ⟨k,Y,hk,rfl,rfl,y1,y4,hP,hB⟩:=hrel
 by_cases hlt:k < rs.length;rotate_left
 ·have i1 : ¬ (k:Int) < (rs.length:Int):=by omega
  have HN:Hid (Zn.period 1 rs=some Y):=zA (by rw [hP,List.drop_eq_nil_of_le (by omega)];rfl)
  clear hP
  repeat'(first|go_skip|go_guarded|go_step|go_upon)
  go_returns
  exact ⟨by unfold ajw;rw [HN.out];rfl,hB⟩
 have i1:(k:Int) < (rs.length:Int):=by omega
 obtain ⟨b,o,row,T,fr,rfl,q1,q2⟩:=HS.out (by omega)
 obtain ⟨z0,k2⟩:=q2 k hlt
 have z1:(o+k * 3+3≤row.size)=True:=xN z0
 have hbw:=a04 q1 hB (a09 q1)
 clear q1 q2 z0
 dsimp only at k2
 rw [a8s hlt default] at hP
 have HP:=zA hP
 clear hP
 generalize rs.getD k default=r at *
 have k3:row.extract (o+k * 3) (o+k * 3+3)=#[.int .i64 r.every,.int .i64 r.rest,.bool r.yes]:=k2
 clear k2
 have hB2:=hB.alloc hB.size (.cells #[r.every,r.rest,.bool r.yes] 95)
 by_cases hok:r.ok=true
 ·have ho:=hok
  simp only [Zn.LR.ok,zN,zM] at ho
  obtain ⟨o1,o2,o3,o4⟩:=ho
  obtain ⟨re,rr,ry⟩:=r
  dsimp only at o1 o2 o3 o4
  obtain ⟨E,rfl⟩ : ∃ E:Nat,re=(E:Int):=⟨re.toNat,by omega⟩
  have t1 : ¬ (E:Int) < 1:=by omega
  have t2 : ¬ (400:Int) < (E:Int):=by omega
  have t3 : ¬ rr < 0:=by omega
  have t4 : ¬ (E:Int)≤rr:=by omega
  have HL:=zA (@ajq (wr.alloc (.cells #[(E:Int),rr,.bool ry] 95)) Y E y1 (by omega) (by omega) (by omega))
  have HQ:=zA (Zn.a3e Y ⟨(E:Int),rr,ry⟩ (rs.drop (k+1)))
  have hE:((⟨(E:Int),rr,ry⟩:Zn.LR).every.toNat)=E:=Int.toNat_natCast E
  rw [hE] at HQ
  have hl1:1≤Nat.lcm Y E:=Nat.lcm_pos y1 (by omega)
  clear hE o1 o2 o3 o4
  by_cases hl:Nat.lcm Y E≤400
  ·have HN:Hid (Zn.period 1 rs=Zn.period (Nat.lcm Y E) (rs.drop (k+1))):=zA (by rw [HP.out,HQ.out,zQ ⟨hok,hl⟩])
   clear HQ HP;generalize Nat.lcm Y E=M at *;have t5 : ¬ (400:Int) < (M:Int):=by omega
   repeat' (first | (go_at_call 84;((with_reducible refine (HL.out).mono ?_));rintro e w5 ⟨rfl,hb5⟩;have hB5:=hB2.trans (hb5.mono hB2.size);dsimp only)|go_skip|go_guarded|go_step|go_upon)
   exact ⟨⟨k+1,M,by omega,rfl,by go_num,hl1,hl,HN.out,hB5⟩,by simp [intOf];omega⟩
  have HN:Hid (Zn.period 1 rs=none):=zA (by rw [HP.out,HQ.out,zS (fun h=>hl h.2)])
  clear HQ HP
  generalize Nat.lcm Y E=M at *
  have t5:(400:Int) < (M:Int):=by omega
  repeat' (first | (go_at_call 84;((with_reducible refine (HL.out).mono ?_));rintro e w5 ⟨rfl,hb5⟩;have hB5:=hB2.trans (hb5.mono hB2.size);dsimp only)|go_skip|go_guarded|go_step|go_upon)
  go_returns
  exact ⟨by unfold ajw;rw [HN.out];rfl,hB5⟩
 have HN:Hid (Zn.period 1 rs=none):=zA (by rw [HP.out,Zn.a3e,zS (fun h=>hok h.1)])
 obtain ⟨re,rr,ry⟩:=r
 have hok':re < 1∨400 < re∨rr < 0∨re≤rr:=by
  simp only [Zn.LR.ok,zN,zM] at hok
  omega
 clear HP hok
 by_cases c1:re < 1
 ·repeat'(first|go_skip|go_guarded|go_step|go_upon)
  go_returns
  exact ⟨by unfold ajw;rw [HN.out];rfl,hB2⟩
 by_cases c2:400 < re
 ·repeat'(first|go_skip|go_guarded|go_step|go_upon)
  go_returns
  exact ⟨by unfold ajw;rw [HN.out];rfl,hB2⟩
 by_cases c3:rr < 0
 ·repeat'(first|go_skip|go_guarded|go_step|go_upon)
  go_returns
  exact ⟨by unfold ajw;rw [HN.out];rfl,hB2⟩
 have c4:re≤rr:=by omega
 repeat'(first|go_skip|go_guarded|go_step|go_upon)
 go_returns
 exact ⟨by unfold ajw;rw [HN.out];rfl,hB2⟩
def a4d (c:Zn.Cal) (mv rv:Value):Array Value:=#[.int .i64 c.a08,mv,.int .i64 c.a0l,rv]
structure a8w (W:World) (c:Zn.Cal) (mv rv:Value):Prop where
 mon:a1s W mv c.a0g
 rul:agc W rv c.rules
theorem a8w.below {W W':World} {c:Zn.Cal} {mv rv:Value} (h:a8w W c mv rv) (hb:Below W W W'):a8w W' c mv rv:=⟨h.mon.below hb,h.rul.below hb⟩
theorem a5q {W:World} {c:Zn.Cal} {mv rv:Value} (hv:a8w W c mv rv) (hz:c.rules.length < 9223372036854775808) (hm:c.a0g.length < 9223372036854775808) :
  Calls Tryz.prog 94 #[.agg (a4d c mv rv)] W fun e w'=>e=.returned (.bool c.ok)∧Below W W w':=by
 have hw1:=hv.below ((zC W.heap.size W).alloc (zD _) (.cells (a4d c mv rv) 31))
 have HPR:=zA (fun (W':World) (hb:Below (W.alloc (.cells (a4d c mv rv) 31)).heap.size (W.alloc (.cells (a4d c mv rv) 31)) W') (h:c.rules.length≤1000000)=>a94 (hw1.below hb).rul h)
 obtain ⟨⟨mo,mc,rfl,hms⟩,⟨ro,rc,rfl,_⟩⟩:=hv
 have HM:=zA hms
 clear hms hw1
 obtain ⟨ep,ms,lp,rs⟩:=c
 dsimp only at HM hz hm
 have b1:obj (W.alloc (.cells #[ep,.slice mo ms.length mc,lp,.slice ro rs.length rc] 31)) W.heap.size=some (.cells #[ep,.slice mo ms.length mc,lp,.slice ro rs.length rc] 31 (0,0)):=a05 _ _ _ rfl
 have w1B:Below W W (W.alloc (.cells #[ep,.slice mo ms.length mc,lp,.slice ro rs.length rc] 31)):=bR.alloc (zD _) _
 have hcr:a4d ⟨ep,ms,lp,rs⟩ (.slice mo ms.length mc) (.slice ro rs.length rc)=#[.int .i64 ep,.slice mo ms.length mc,.int .i64 lp,.slice ro rs.length rc]:=rfl
 have HOK:Hid ((⟨ep,ms,lp,rs⟩:Zn.Cal).ok=(decide (Zn.Cal.Hd ⟨ep,ms,lp,rs⟩)&&(ms.all Zn.a2p&&(Zn.period 1 rs).isSome))):=zA rfl
 rw [hcr] at HPR ⊢
 clear hcr
 by_cases hd:Zn.Cal.Hd ⟨ep,ms,lp,rs⟩;rotate_left
 ·have hdf:decide (Zn.Cal.Hd ⟨ep,ms,lp,rs⟩)=false:=zW hd
  have HF:Hid ((⟨ep,ms,lp,rs⟩:Zn.Cal).ok=false):=zA (by rw [HOK.out,hdf];rfl)
  have hbad:ep < 0∨1048576 < ep∨(ms.length:Int) < 1∨16 < (ms.length:Int)∨lp < -1∨(ms.length:Int)≤lp∨16 < (rs.length:Int)∨(lp = -1∧0 < (rs.length:Int)):=by
   refine Classical.byContradiction fun h=>hd ?_
   simp only [not_or,not_and,Int.not_lt,Int.not_le] at h;obtain ⟨h1,h2,h3,h4,h5,h6,h7,h8⟩:=h;exact ⟨h1,h2,by show 1≤ms.length;omega,by show ms.length≤16;omega,h5,h6,by show rs.length≤16;omega,fun e=>by have:=h8 e;show rs.length=0;omega⟩
  clear HOK hdf hd
  go_enter Tryz.func94,Tryz.ntmps94
  by_cases c1:ep < 0
  ·repeat'(first|go_skip|go_guarded|go_step|go_upon)
   go_returns;exact ⟨by rw [HF.out];rfl,w1B⟩
  skip
  by_cases c2:1048576 < ep
  ·repeat'(first|go_skip|go_guarded|go_step|go_upon)
   go_returns;exact ⟨by rw [HF.out];rfl,w1B⟩
  skip
  by_cases c3:(ms.length:Int) < 1
  ·repeat'(first|go_skip|go_guarded|go_step|go_upon)
   go_returns;exact ⟨by rw [HF.out];rfl,w1B⟩
  skip
  by_cases c4:16 < (ms.length:Int)
  ·repeat'(first|go_skip|go_guarded|go_step|go_upon)
   go_returns;exact ⟨by rw [HF.out];rfl,w1B⟩
  skip
  by_cases c5:lp < -1
  ·repeat'(first|go_skip|go_guarded|go_step|go_upon)
   go_returns;exact ⟨by rw [HF.out];rfl,w1B⟩
  skip
  by_cases c6:(ms.length:Int)≤lp
  ·repeat'(first|go_skip|go_guarded|go_step|go_upon)
   go_returns;exact ⟨by rw [HF.out];rfl,w1B⟩
  skip
  by_cases c7:16 < (rs.length:Int)
  ·repeat'(first|go_skip|go_guarded|go_step|go_upon)
   go_returns;exact ⟨by rw [HF.out];rfl,w1B⟩
  skip
  have c8:lp = -1∧0 < (rs.length:Int):=by omega
  obtain ⟨c8,c9⟩:=c8
  have t8:(lp == -1)=true:=by simp [c8]
  clear c8 hbad
  repeat'(first|go_skip|go_guarded|go_step|go_upon)
  go_returns
  exact ⟨by rw [HF.out];rfl,w1B⟩
 obtain ⟨e0,e1,m1,m16,l0,l1,r16,lr⟩:=hd
 have hdt:decide (Zn.Cal.Hd ⟨ep,ms,lp,rs⟩)=true:=zV ⟨e0,e1,m1,m16,l0,l1,r16,lr⟩
 dsimp only at e0 e1 m1 m16 l0 l1 r16 lr
 have afb:Hid ((⟨ep,ms,lp,rs⟩:Zn.Cal).ok=(ms.all Zn.a2p&&(Zn.period 1 rs).isSome)):=zA (by rw [HOK.out,hdt];rfl)
 have t1 : ¬ ep < 0:=by omega
 have t2 : ¬ 1048576 < ep:=by omega
 have t3 : ¬ (ms.length:Int) < 1:=by omega
 have t4 : ¬ (16:Int) < (ms.length:Int):=by omega
 have t5 : ¬ lp < -1:=by omega
 have t6 : ¬ (ms.length:Int)≤lp:=by omega
 have t7 : ¬ (16:Int) < (rs.length:Int):=by omega
 have HLR:=zA lr
 clear HOK hdt lr e0 e1 m1 l0 l1
 have tail:∀ (X:Prop),X→X:=fun _ h=>h
 clear tail
 go_enter Tryz.func94,Tryz.ntmps94
 by_cases hlp:lp = -1
 ·have t8:(lp == -1)=true:=by simp [hlp]
  have t9 : ¬ (0:Int) < (rs.length:Int):=by have:=HLR.out hlp;omega
  clear hlp HLR
  repeat'(first|go_skip|go_guarded|go_step|go_upon)
  go_loopw [52] (fun i wr => ∃ k:Nat,k≤ms.length∧i=.int .i64 k∧(∀ j,j < k→Zn.a2p (ms.getD j 0)=true)∧Below (W.alloc (.cells #[ep,.slice mo ms.length mc,lp,.slice ro rs.length rc] 31)).heap.size (W.alloc (.cells #[ep,.slice mo ms.length mc,lp,.slice ro rs.length rc] 31)) wr) (fun i _=>((ms.length:Int) - intOf i).toNat)
  case atStart=>exact ⟨0,by omega,rfl,fun j hj=>absurd hj (yA j),zC _ _⟩
  obtain ⟨k,hk,rfl,hM,hC⟩:=hrel
  have hB:=w1B.trans (hC.mono w1B.size)
  have HMM:=zA hM
  clear hM
  by_cases hlt:k < ms.length
  ·have i1:(k:Int) < (ms.length:Int):=by omega
   obtain ⟨b,o,row,T,fr,rfl,q1,q2⟩:=HM.out (by omega);have cm:=(a02 (a04 q1 hB (a09 q1)) (o+k)).trans (q2 k hlt);clear q1 q2;generalize hn:ms.getD k 0=n at *;have HN:=zA hn;clear hn;by_cases c1:n < 1
   ·repeat'(first|go_skip|go_guarded|go_step|go_upon)
    go_returns;exact ⟨by rw [afb.out,all_false hlt (by rw [HN.out];simp [Zn.a2p];omega)];rfl,hB⟩
   by_cases c2:40 < n
   ·repeat'(first|go_skip|go_guarded|go_step|go_upon)
    go_returns;exact ⟨by rw [afb.out,all_false hlt (by rw [HN.out];simp [Zn.a2p];omega)];rfl,hB⟩
   repeat'(first|go_skip|go_guarded|go_step|go_upon)
   exact ⟨⟨k+1,by omega,by go_num,fun j hj=>(zU j k).elim (fun h=>HMM.out j h) (fun h=>by rw [show j=k by omega,HN.out];simp [Zn.a2p];omega),hC⟩,by simp [intOf];omega⟩
  have i1 : ¬ (k:Int) < (ms.length:Int):=by omega
  have bb:=a0a b1 hC
  have c3:=a02 bb 3
  have HP:=zA (HPR.out wr hC (by show rs.length≤1000000;omega))
  have hall:Hid (ms.all Zn.a2p=true):=zA (all_true fun j hj=>HMM.out j (by omega))
  unfold ajw at HP
  repeat' (first | (go_at_call 114;((with_reducible refine (HP.out).mono ?_));rintro e w5 ⟨rfl,hb5⟩;have hB5:=hB.trans (hb5.mono hB.size);dsimp only)|go_skip|go_guarded|go_step|go_upon)
  go_returns
  exact ⟨by rw [afb.out,hall.out];rfl,hB5⟩
 have t8:(lp == -1)=false:=by simpa using hlp
 clear hlp HLR
 repeat'(first|go_skip|go_guarded|go_step|go_upon)
 go_loopw [52] (fun i wr => ∃ k:Nat,k≤ms.length∧i=.int .i64 k∧(∀ j,j < k→Zn.a2p (ms.getD j 0)=true)∧Below (W.alloc (.cells #[ep,.slice mo ms.length mc,lp,.slice ro rs.length rc] 31)).heap.size (W.alloc (.cells #[ep,.slice mo ms.length mc,lp,.slice ro rs.length rc] 31)) wr) (fun i _=>((ms.length:Int) - intOf i).toNat)
 case atStart=>exact ⟨0,by omega,rfl,fun j hj=>absurd hj (yA j),zC _ _⟩
 obtain ⟨k,hk,rfl,hM,hC⟩:=hrel
 have hB:=w1B.trans (hC.mono w1B.size)
 have HMM:=zA hM
 clear hM
 by_cases hlt:k < ms.length
 ·have i1:(k:Int) < (ms.length:Int):=by omega
  obtain ⟨b,o,row,T,fr,rfl,q1,q2⟩:=HM.out (by omega)
  have cm:=(a02 (a04 q1 hB (a09 q1)) (o+k)).trans (q2 k hlt)
  clear q1 q2
  generalize hn:ms.getD k 0=n at *
  have HN:=zA hn
  clear hn
  by_cases c1:n < 1
  ·repeat'(first|go_skip|go_guarded|go_step|go_upon)
   go_returns;exact ⟨by rw [afb.out,all_false hlt (by rw [HN.out];simp [Zn.a2p];omega)];rfl,hB⟩
  by_cases c2:40 < n
  ·repeat'(first|go_skip|go_guarded|go_step|go_upon)
   go_returns;exact ⟨by rw [afb.out,all_false hlt (by rw [HN.out];simp [Zn.a2p];omega)];rfl,hB⟩
  repeat'(first|go_skip|go_guarded|go_step|go_upon)
  exact ⟨⟨k+1,by omega,by go_num,fun j hj=>(zU j k).elim (fun h=>HMM.out j h) (fun h=>by rw [show j=k by omega,HN.out];simp [Zn.a2p];omega),hC⟩,by simp [intOf];omega⟩
 have i1 : ¬ (k:Int) < (ms.length:Int):=by omega
 have bb:=a0a b1 hC
 have c3:=a02 bb 3
 have HP:=zA (HPR.out wr hC (by show rs.length≤1000000;omega))
 have hall:Hid (ms.all Zn.a2p=true):=zA (all_true fun j hj=>HMM.out j (by omega))
 unfold ajw at HP
 repeat' (first | (go_at_call 114;((with_reducible refine (HP.out).mono ?_));rintro e w5 ⟨rfl,hb5⟩;have hB5:=hB.trans (hb5.mono hB.size);dsimp only)|go_skip|go_guarded|go_step|go_upon)
 go_returns
 exact ⟨by rw [afb.out,hall.out];rfl,hB5⟩
end Go.Proofs.YtppjleebbjipbaaGreat
