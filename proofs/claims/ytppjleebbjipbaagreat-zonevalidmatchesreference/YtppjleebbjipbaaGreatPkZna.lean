/-
  Numbers: remainders, the greatest common divisor, the least common multiple.
-/
import Derived.Test.YtppjleebbjipbaaGreatPkRow
import Derived.Test.YtppjleebbjipbaaGreatPkGrw
set_option linter.unusedSectionVars false
set_option linter.constructorNameAsVariable false
set_option linter.unusedVariables false
set_option linter.unusedSimpArgs false
namespace Go.Proofs.YtppjleebbjipbaaGreat
open Go.RowKit
set_option maxRecDepth 20000
set_option maxHeartbeats 8000000
theorem wrap_in {x:Int} (h1 : -9223372036854775808≤x) (h2:x < 9223372036854775808):IntKind.wrap .i64 x=x:=by
 rw [IntKind.wrap_i64];omega
theorem a99 {a b:Int} (hb:0 < b):a % b=if Int.tmod a b < 0 then Int.tmod a b+b else Int.tmod a b:=by
 have h1:=Int.emod_nonneg a (show b≠0 by omega)
 have h2:=Int.emod_lt_of_pos a hb
 rw [Int.tmod_eq_emod]
 by_cases hd:0≤a∨b ∣ a
 ·rw [if_pos hd,if_neg (by omega)];omega
 ·rw [if_neg hd,if_pos (by omega)];omega
theorem ah4 {W:World} {a b:Int} (hb:0 < b) (hb2:b < 4611686018427387904) :
  Calls Tryz.prog 211 #[.int .i64 a,.int .i64 b] W fun e w'=>e=.returned (.int .i64 (a % b))∧W=w':=by
 have h0:b≠0:=by omega
 have hm:=@a99 a b hb
 have hl:=Int.tmod_lt_of_pos a hb
 have hg : -b≤Int.tmod a b:=by
  have h1:=Int.emod_nonneg a h0
  rw [hm] at h1
  split at h1<;>omega
 have HM:=Lib.hid hm
 clear hm
 have hw0:IntKind.wrap .i64 (Int.tmod a b)=Int.tmod a b:=wrap_in (by omega) (by omega)
 generalize hr:Int.tmod a b=r at *
 have HR:=Lib.hid hr
 clear hr
 have hw:IntKind.wrap .i64 (r+b)=r+b:=wrap_in (by omega) (by omega)
 by_cases hn:r < 0
 ·have he:a % b=r+b:=by rw [HM.out,if_pos hn]
  rw [he]
  go_enter Tryz.func211,Tryz.ntmps211
  rw [← HR.out] at hn hw0 hw ⊢
  repeat'(first|go_skip|go_guarded|go_step|go_upon)
  go_ret
  exact ⟨by first | rfl | (rw [hw]),rfl⟩
 ·have he:a % b=r:=by rw [HM.out,if_neg hn]
  rw [he]
  go_enter Tryz.func211,Tryz.ntmps211
  rw [← HR.out] at hn hw0 hw ⊢
  repeat'(first|go_skip|go_guarded|go_step|go_upon)
  go_ret
  exact ⟨rfl,rfl⟩
theorem ahr {W:World} {a b:Int} (hb:0 < b) (hb2:b < 4611686018427387904) :
  Calls Tryz.prog 203 #[.int .i64 a,.int .i64 b] W fun e w'=>e=.returned (.tuple #[.int .i64 (a % b),.int .i64 0])∧W=w':=by
 have HM:=Lib.hid (@ah4 W a b hb hb2)
 have h1 : ¬ b < 1:=by omega
 clear hb2
 go_enter Tryz.func203,Tryz.ntmps203
 repeat' (first | (go_at_call 211;((with_reducible refine (HM.out).mono ?_));rintro e w5 ⟨rfl,rfl⟩;dsimp only)|go_skip|go_guarded|go_step|go_upon)
 go_returns
 exact ⟨rfl,rfl⟩
theorem abp {W:World} {a b:Int} (hb:0 < b) (hb2:b < 4611686018427387904) :
  Calls Tryz.prog 187 #[.int .i64 a,.int .i64 b] W fun e w'=>e=.returned (.int .i64 (a % b))∧W=w':=by
 have HM:=Lib.hid (@ahr W a b hb hb2)
 clear hb hb2
 go_enter Tryz.func187,Tryz.ntmps187
 repeat' (first | (go_at_call 203;((with_reducible refine (HM.out).mono ?_));rintro e w5 ⟨rfl,rfl⟩;dsimp only)|go_skip|go_guarded|go_step|go_upon)
 go_ret
 exact ⟨rfl,rfl⟩
theorem abw {W:World} {a:Int} :
  Calls Tryz.prog 165 #[.int .i64 a] W fun e w'=>e=.returned (.int .i64 (a % 7))∧W=w':=by
 have HM:=Lib.hid (@abp W a 7 (by omega) (by omega))
 go_enter Tryz.func165,Tryz.ntmps165
 repeat' (first | (go_at_call 187;((with_reducible refine (HM.out).mono ?_));rintro e w5 ⟨rfl,rfl⟩;dsimp only)|go_skip|go_guarded|go_step|go_upon)
 go_ret
 exact ⟨rfl,rfl⟩
theorem abd {W:World} {a:Nat} (h:a < 9223372036854775808) :
  Calls Tryz.prog 163 #[.int .i64 a] W fun e w'=>e=.returned (.int .u64 a)∧W=w':=by
 have h0 : ¬ (a:Int) < 0:=by omega
 have hw:IntKind.wrap .u64 (a:Int)=(a:Int):=by rw [IntKind.wrap_u64];omega
 go_enter Tryz.func163,Tryz.ntmps163
 repeat'(first|go_skip|go_guarded|go_step|go_upon)
 go_ret
 exact ⟨rfl,rfl⟩
theorem aju {W:World} {a b:Nat} (ha:a < 4611686018427387904) (hb:b < 4611686018427387904) :
  Calls Tryz.prog 125 #[.int .i64 a,.int .i64 b] W fun e w'=>e=.returned (.int .i64 (Nat.gcd a b:Nat))∧Below W.heap.size W w':=by
 have HA:=Lib.hid (@abd W a (by omega))
 have HB:=Lib.hid (@abd W b (by omega))
 go_enter Tryz.func125,Tryz.ntmps125
 repeat' (first | (go_at_call 163;((with_reducible refine (HA.out).mono ?_));rintro e w5 ⟨rfl,rfl⟩;dsimp only) | (go_at_call 163;((with_reducible refine (HB.out).mono ?_));rintro e w5 ⟨rfl,rfl⟩;dsimp only)|go_skip|go_guarded|go_step|go_upon)
 go_loopw [5,6] (fun u v wr => ∃ x y:Nat,x < 4611686018427387904∧y < 4611686018427387904∧Nat.gcd x y=Nat.gcd a b∧u=.int .u64 x∧v=.int .u64 y∧Below W.heap.size W wr) (fun _ v _=>(intOf v).toNat)
 case atStart=>exact ⟨a,b,ha,hb,rfl,rfl,rfl,Below.refl _ _⟩
 case round =>
  obtain ⟨x,y,hx,hy,hgc,rfl,rfl,hB⟩:=hrel
  by_cases h0:y=0
  ·subst h0
   rw [Nat.gcd_zero_right] at hgc
   have HGC:=Lib.hid hgc
   clear hgc
   have w1:IntKind.wrap .i64 (x:Int)=(x:Int):=wrap_in (by omega) (by omega)
   have w2 : ¬ (9223372036854775807:Int) < (x:Int):=by omega
   repeat'(first|go_skip|go_guarded|go_step|go_upon)
   go_ret
   exact ⟨by rw [← HGC.out];rfl,hB⟩
  ·have r0:(y:Int)≠0:=by omega
   have hlt:=Nat.mod_lt x (by omega:0 < y)
   have rt:Int.tmod (x:Int) (y:Int)=((x % y:Nat):Int):=by rw [Int.tmod_eq_emod_of_nonneg (by omega)];omega
   repeat'(first|go_skip|go_guarded|go_step|go_upon)
   go_quiet (fail)
   have hB':Below W.heap.size W (wr.drewN nq):=⟨hB.os,hB.tape,hB.output,hB.size,hB.block⟩
   generalize wr.drewN nq=w2 at *
   repeat'(first|go_skip|go_guarded|go_step|go_upon)
   exact ⟨⟨y,x % y,by omega,by omega,by rw [Nat.gcd_comm y,← Nat.gcd_rec,Nat.gcd_comm];exact hgc,rfl,rfl,hB'⟩,by simp [intOf];omega⟩
theorem ajq {W:World} {a b:Nat} (ha:1≤a) (ha2:a≤1000000) (hb:1≤b) (hb2:b≤1000000) :
  Calls Tryz.prog 84 #[.int .i64 a,.int .i64 b] W fun e w'=>e=.returned (.tuple #[.int .i64 (Nat.lcm a b:Nat),.int .i64 0])∧Below W.heap.size W w':=by
 have HG:=Lib.hid (@aju W a b (by omega) (by omega))
 have hg1:1≤Nat.gcd a b:=Nat.gcd_pos_of_pos_left b (by omega)
 have hga:Nat.gcd a b≤a:=Nat.gcd_le_left b (by omega)
 have hl:Nat.lcm a b=a / Nat.gcd a b * b:=by unfold Nat.lcm;rw [Nat.div_mul_right_comm (Nat.gcd_dvd_left a b)]
 have hd:a / Nat.gcd a b≤a:=Nat.div_le_self _ _
 have HL:=Lib.hid hl
 clear hl
 generalize Nat.gcd a b=g at *
 obtain ⟨r,hr⟩ : ∃ r,a / g=r:=⟨_,rfl⟩
 rw [hr] at hd HL
 have t1:Int.tdiv (a:Int) (g:Int)=(r:Int):=by rw [Int.tdiv_eq_ediv_of_nonneg (by omega),← hr];rfl
 have w1:IntKind.wrap .i64 (r:Int)=(r:Int):=wrap_in (by omega) (by omega)
 have g0:(g:Int)≠0:=by omega
 have b0:(b:Int)≠0:=by omega
 have a1 : ¬ (a:Int) < 1:=by omega
 have b1 : ¬ (b:Int) < 1:=by omega
 clear hr
 have hq:1099511≤1099511627776 / b:=(Nat.le_div_iff_mul_le (by omega)).2 (by omega)
 have hq2:1099511627776 / b≤1099511627776:=Nat.div_le_self _ _
 obtain ⟨q,hqq⟩ : ∃ q,1099511627776 / b=q:=⟨_,rfl⟩
 rw [hqq] at hq hq2
 have t2:Int.tdiv (1099511627776:Int) (b:Int)=(q:Int):=by rw [Int.tdiv_eq_ediv_of_nonneg (by omega),← hqq];rfl
 have w2:IntKind.wrap .i64 (q:Int)=(q:Int):=wrap_in (by omega) (by omega)
 clear hqq
 have c1 : ¬ (q:Int) < (r:Int):=by omega
 have hm:r * b≤1000000 * 1000000:=Nat.mul_le_mul (by omega) hb2
 have w3:IntKind.wrap .i64 ((r:Int) * (b:Int))=((r * b:Nat):Int):=by rw [wrap_in]<;>push_cast<;>omega
 have HLL:=HL
 clear HL
 clear hm hq hq2
 go_enter Tryz.func84,Tryz.ntmps84
 repeat' (first | (go_at_call 125;((with_reducible refine (HG.out).mono ?_));rintro e w5 ⟨rfl,hb5⟩;dsimp only)|go_skip|go_guarded|go_step|go_upon)
 go_returns
 exact ⟨by rw [HLL.out];rfl,hb5⟩
theorem agv {W:World} {a b:Int} (hb:0 < b) (hb2:b < 4611686018427387904) :
  Calls Tryz.prog 111 #[.int .i64 a,.int .i64 b] W fun e w'=>e=.returned (.int .i64 (a % b))∧W=w':=by
 have h0:b≠0:=by omega
 have hm:=@a99 a b hb
 have hl:=Int.tmod_lt_of_pos a hb
 have hg : -b≤Int.tmod a b:=by
  have h1:=Int.emod_nonneg a h0
  rw [hm] at h1
  split at h1<;>omega
 have HM:=Lib.hid hm
 clear hm
 have hw0:IntKind.wrap .i64 (Int.tmod a b)=Int.tmod a b:=wrap_in (by omega) (by omega)
 have hw:IntKind.wrap .i64 (Int.tmod a b+b)=Int.tmod a b+b:=wrap_in (by omega) (by omega)
 by_cases hn:Int.tmod a b < 0
 ·have he:a % b=Int.tmod a b+b:=by rw [HM.out,if_pos hn]
  rw [he]
  go_enter Tryz.func111,Tryz.ntmps111
  repeat'(first|go_skip|go_guarded|go_step|go_upon)
  go_ret
  exact ⟨rfl,rfl⟩
 ·have he:a % b=Int.tmod a b:=by rw [HM.out,if_neg hn]
  rw [he]
  go_enter Tryz.func111,Tryz.ntmps111
  repeat'(first|go_skip|go_guarded|go_step|go_upon)
  go_ret
  exact ⟨rfl,rfl⟩
theorem agu {W:World} {a b:Nat} (ha:a < 4611686018427387904) (hb:b < 4611686018427387904) :
  Calls Tryz.prog 65 #[.int .i64 a,.int .i64 b] W fun e w'=>e=.returned (.int .i64 (Nat.gcd a b:Nat))∧Below W.heap.size W w':=by
 go_enter Tryz.func65,Tryz.ntmps65
 repeat'(first|go_skip|go_guarded|go_step|go_upon)
 go_loopw [0,1] (fun u v wr => ∃ x y:Nat,x < 4611686018427387904∧y < 4611686018427387904∧Nat.gcd x y=Nat.gcd a b∧u=.int .i64 x∧v=.int .i64 y∧Below W.heap.size W wr) (fun _ v _=>(intOf v).toNat)
 case atStart=>exact ⟨a,b,ha,hb,rfl,rfl,rfl,Below.refl _ _⟩
 case round =>
  obtain ⟨x,y,hx,hy,hgc,rfl,rfl,hB⟩:=hrel
  by_cases h0:y=0
  ·subst h0
   rw [Nat.gcd_zero_right] at hgc
   have HGC:=Lib.hid hgc
   clear hgc
   repeat'(first|go_skip|go_guarded|go_step|go_upon)
   go_ret
   exact ⟨by rw [← HGC.out];rfl,hB⟩
  ·have r0:(y:Int)≠0:=by omega
   have hlt:=Nat.mod_lt x (by omega:0 < y)
   have rt:Int.tmod (x:Int) (y:Int)=((x % y:Nat):Int):=by rw [Int.tmod_eq_emod_of_nonneg (by omega)];omega
   have rw_:IntKind.wrap .i64 ((x % y:Nat):Int)=((x % y:Nat):Int):=wrap_in (by omega) (by omega)
   have HG:Hid (Nat.gcd y (x % y)=Nat.gcd a b):=Lib.hid (by rw [Nat.gcd_comm y,← Nat.gcd_rec,Nat.gcd_comm];exact hgc)
   generalize x % y=r at *
   repeat'(first|go_skip|go_guarded|go_step|go_upon)
   go_roundw
   case rel=>exact ⟨y,r,by omega,by omega,HG.out,rfl,rfl,hB⟩
   case measure=>simp [intOf];omega
end Go.Proofs.YtppjleebbjipbaaGreat
