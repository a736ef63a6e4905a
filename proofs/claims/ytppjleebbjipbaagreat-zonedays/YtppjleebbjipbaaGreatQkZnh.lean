/-
  kalendsref02: Leap, common, YearLength, MonthLength.
-/
import Derived.Test.YtppjleebbjipbaaGreatQkZnf
set_option linter.all false
namespace Go.Proofs.YtppjleebbjipbaaGreat
open Go.RowKit
set_option maxRecDepth 20000
set_option maxHeartbeats 8000000
theorem a0y {row r:Array Value} {a b:Nat} (j:Nat) (h:row.extract a b=r) (hj:j < r.size):row[a+j]? = r[j]? := by
 subst h
 rw [Array.size_extract] at hj
 rw [wG,zQ (by omega)]
end Go.Proofs.YtppjleebbjipbaaGreat
namespace Zn
def ag9 (c:Cal):Nat→Int
 | 0=>0
 | m+1=>ag9 c m+c.a0g.getD m 0
theorem af5 {c:Cal} (h:c.a0g.all a2p=true):∀ (m:Nat),m≤c.a0g.length→(m:Int)≤ag9 c m∧ag9 c m≤40 * m
 | 0,_=>by simp [ag9]
 | m+1,hm=>by
  have h1:=af5 h m (by omega)
  have h2:=yK.1 h (c.a0g.getD m 0) (by rw [zB,zK (by omega:m < c.a0g.length)];exact yT _)
  simp only [a2p,zN,zM] at h2
  unfold ag9
  omega
theorem afu (c:Cal) (y:Int):∀ (m:Nat),a6z c y m=ag9 c m+(if (0≤c.a0l∧c.a0l < (m:Int))∧a3m c.rules y=true then 1 else 0)
 | 0=>by
  rw [zS (by omega)]
  rfl
 | m+1=>by
  have h1:=afu c y m
  unfold a6z ag9 a97
  rw [h1]
  by_cases hl:a3m c.rules y=true
  ·simp only [hl,yL]
   split<;>split<;>split<;>omega
  ·simp only [hl]
   simp
theorem ahx {c:Cal} (hd:c.Hd) (y:Int):a4f c y=ag9 c c.a0g.length+(if a3m c.rules y=true then 1 else 0):=by
 unfold a4f
 rw [afu]
 have h0:=hd.l0
 have h1:=hd.l1
 by_cases hl:a3m c.rules y=true
 ·have hn:c.a0l≠-1:=by
   intro e;have:=hd.lr e;rw [yH.1 this] at hl;simp [a3m] at hl
  rw [zQ hl,zQ ⟨by omega,hl⟩]
 rw [zS hl,zS fun h=>hl h.2]
end Zn
namespace Go.Proofs.YtppjleebbjipbaaGreat
open Go.RowKit
theorem aa2 {W:World} {c:Zn.Cal} {mv rv:Value} (hv:a8w W c mv rv) (hok:c.ok=true) (y:Int) :
  Calls Tryz.prog 103 #[.agg #[c.a08,mv,c.a0l,rv],.int .i64 y] W fun e w'=>e=.returned (.bool (Zn.a3m c.rules y))∧Below W W w':=by
 obtain ⟨hd,hmo,hr,_⟩:=a1h hok
 have h16:=hd.m16
 have anm:=hd.r16
 have ag2:=hv.mon.one
 have ag1:=hv.rul.one
 have hon:ones #[c.a08,mv,c.a0l,rv]=true:=a6t ag2 ag1
 have b1:obj (W.alloc (.cells #[c.a08,mv,c.a0l,rv] 31)) W.heap.size=some (.cells #[c.a08,mv,c.a0l,rv] 31 (0,0)):=a05 _ _ _ rfl
 have w1B:Below W W (W.alloc (.cells #[c.a08,mv,c.a0l,rv] 31)):=bR.alloc (zD _) _
 have HVW:=zA (fun (W':World) (hb:Below (W.alloc (.cells #[c.a08,mv,c.a0l,rv] 31)).heap.size (W.alloc (.cells #[c.a08,mv,c.a0l,rv] 31)) W')=>hv.below (w1B.trans (hb.mono w1B.size)))
 have HV:=zA (a3h (hv.below w1B) (by omega) (by omega))
 unfold a4d at HV
 rw [hok] at HV
 obtain ⟨ro,rc,hrv,hrs⟩:=hv.rul
 have HS:=zA hrs
 have HR:=zA hr
 clear hrs hr hmo hok hv hd ag1
 subst hrv
 go_enter Tryz.func103,Tryz.ntmps103
 repeat' (first | (go_at_call 64;((with_reducible refine (HV.out).mono ?_));rintro e w3 ⟨rfl,hb3⟩;have b3:=a0a b1 hb3;have w3B:=w1B.trans (hb3.mono w1B.size);dsimp only)|go_skip|go_guarded|go_step|go_upon)
 go_loopw [5,6] (fun z i wr => ∃ k:Nat,k≤c.rules.length∧z=.bool (Zn.a3m (c.rules.take k) y)∧i=.int .i64 k∧Below w3 w3 wr) (fun _ i _=>((c.rules.length:Int) - intOf i).toNat)
 case atStart=>exact ⟨0,by omega,rfl,rfl,zC _ _⟩
 obtain ⟨k,hk,rfl,rfl,hC⟩:=hrel
 have bb:=a0a b3 hC
 have bb3:=a02 bb 3
 have hB:=w3B.trans (hC.mono w3B.size)
 by_cases hlt:k < c.rules.length;rotate_left
 ·have i1 : ¬ (k:Int) < (c.rules.length:Int):=by omega
  have HL:Hid (Zn.a3m (c.rules.take k) y=Zn.a3m c.rules y):=zA (by rw [List.take_of_length_le (by omega)])
  repeat'(first|go_skip|go_guarded|go_step|go_upon)
  go_returns
  exact ⟨by rw [← HL.out];rfl,hB⟩
 have i1:(k:Int) < (c.rules.length:Int):=by omega
 obtain ⟨b,o,row,T,fr,rfl,q1,q2⟩:=HS.out (by omega)
 obtain ⟨z0,k2⟩:=q2 k hlt
 have hbw:=a04 q1 hB (a09 q1)
 have HL:=zA (a8r hlt y)
 have ho:=HR.out (c.rules.getD k default) (by rw [zB,zK hlt];exact yT hlt)
 clear q1 q2 z0
 try dsimp only at k2
 generalize c.rules.getD k default=r at *
 simp only [Zn.LR.ok,zN,zM] at ho
 have HM:=zA (fun Wq:World=>@agv Wq y r.every (by omega) (by omega))
 have k3:row.extract (o+k * 3) (o+k * 3+3)=#[.int .i64 r.every,.int .i64 r.rest,.bool r.yes]:=k2
 have e0:=(a02 hbw (o+k * 3)).trans (a0y 0 k3 (by simp))
 have e1:=(a02 hbw (o+k * 3+1)).trans (a0y 1 k3 (by simp))
 have e2:=(a02 hbw (o+k * 3+2)).trans (a0y 2 k3 (by simp))
 clear k2 ho
 repeat'(first|go_skip|go_guarded|go_step|go_upon)
 go_quiet ((go_at_call 111;refine vW ((HM.out _).mono fun _ _ h=>⟨h.1,h.2.symm⟩)))
 have hCq:=below_drewN hC nq
 have hBq:=below_drewN hB nq
 have bbq:obj (wr.drewN nq) W.heap.size=_:=bb
 have e2q:(wr.drewN nq).cell? ⟨b,o+k * 3+2,none⟩=_:=e2
 have bq3:=a02 bbq 3
 clear e0 e1 e2 bb bb3 hC hB hbw
 generalize wr.drewN nq=w4 at *
 by_cases hx:y % r.every=r.rest
 ·have ht:(y % r.every == r.rest)=true:=by simpa using hx
  rw [zQ hx] at HL
  clear hx
  repeat'(first|go_skip|go_guarded|go_step|go_upon)
  exact ⟨⟨k+1,by omega,by rw [HL.out],by go_num,hCq⟩,by simp [intOf];omega⟩
 have ht:(y % r.every == r.rest)=false:=by simpa using hx
 rw [zS hx] at HL
 clear hx
 repeat'(first|go_skip|go_guarded|go_step|go_upon)
 exact ⟨⟨k+1,by omega,by rw [HL.out],by go_num,hCq⟩,by simp [intOf];omega⟩
theorem ac4 {W:World} {c:Zn.Cal} {mv rv:Value} (hv:a8w W c mv rv) (hok:c.ok=true) :
  Calls Tryz.prog 104 #[.agg #[c.a08,mv,c.a0l,rv]] W fun e w'=>e=.returned (.int .i64 (Zn.ag9 c c.a0g.length))∧Below W W w':=by
 obtain ⟨hd,hmo,hr,_⟩:=a1h hok
 have h16:=hd.m16
 have anm:=hd.r16
 have ag2:=hv.mon.one
 have ag1:=hv.rul.one
 have hon:ones #[c.a08,mv,c.a0l,rv]=true:=a6t ag2 ag1
 have b1:obj (W.alloc (.cells #[c.a08,mv,c.a0l,rv] 31)) W.heap.size=some (.cells #[c.a08,mv,c.a0l,rv] 31 (0,0)):=a05 _ _ _ rfl
 have w1B:Below W W (W.alloc (.cells #[c.a08,mv,c.a0l,rv] 31)):=bR.alloc (zD _) _
 have HVW:=zA (fun (W':World) (hb:Below (W.alloc (.cells #[c.a08,mv,c.a0l,rv] 31)).heap.size (W.alloc (.cells #[c.a08,mv,c.a0l,rv] 31)) W')=>hv.below (w1B.trans (hb.mono w1B.size)))
 have HV:=zA (a3h (hv.below w1B) (by omega) (by omega))
 unfold a4d at HV
 rw [hok] at HV
 obtain ⟨mo,mc,hmv,hms⟩:=hv.mon
 have HS:=zA hms
 have HC:=zA (fun m=>Zn.af5 hmo (m:=m))
 have HT:Hid (∀ m,Zn.ag9 c (m+1)=Zn.ag9 c m+c.a0g.getD m 0):=zA fun _=>rfl
 clear hms hr hmo hok hv hd ag2 HV HVW
 subst hmv
 go_enter Tryz.func104,Tryz.ntmps104
 repeat'(first|go_skip|go_guarded|go_step|go_upon)
 go_loopw [3,4] (fun z i wr => ∃ k:Nat,k≤c.a0g.length∧z=.int .i64 (Zn.ag9 c k)∧i=.int .i64 k∧Below W W wr∧obj wr W.heap.size=some (.cells #[c.a08,.slice mo c.a0g.length mc,c.a0l,rv] 31 (0,0))) (fun _ i _=>((c.a0g.length:Int) - intOf i).toNat)
 case atStart=>exact ⟨0,by omega,rfl,rfl,w1B,b1⟩
 clear b1 w1B
 obtain ⟨k,hk,rfl,rfl,hB,bb⟩:=hrel
 have bb1:=a02 bb 1
 by_cases hlt:k < c.a0g.length
 ·have i1:(k:Int) < (c.a0g.length:Int):=by omega
  obtain ⟨b,o,row,T,fr,rfl,q1,q2⟩:=HS.out (by omega)
  have cm:=(a02 (a04 q1 hB (a09 q1)) (o+k)).trans (q2 k hlt)
  have hs:=HC.out k (by omega)
  have ht:=HC.out (k+1) (by omega)
  have HQ:=zA (HT.out k)
  rw [HT.out k] at ht
  clear q1 q2
  generalize Zn.ag9 c k=s at *
  generalize c.a0g.getD k 0=n at *
  have w0:=zWI (s+n)
  repeat'(first|go_skip|go_guarded|go_step|go_upon)
  exact ⟨⟨k+1,by omega,by rw [HQ.out],by go_num,hB,bb⟩,by simp [intOf];omega⟩
 have i1 : ¬ (k:Int) < (c.a0g.length:Int):=by omega
 have HL:Hid (k=c.a0g.length):=zA (by omega)
 repeat'(first|go_skip|go_guarded|go_step|go_upon)
 go_returns
 exact ⟨by rw [← HL.out];rfl,hB⟩
theorem a9z {W:World} {c:Zn.Cal} {mv rv:Value} (hv:a8w W c mv rv) (hok:c.ok=true) (y:Int) :
  Calls Tryz.prog 66 #[.agg #[c.a08,mv,c.a0l,rv],.int .i64 y] W fun e w'=>e=.returned (.int .i64 (Zn.a4f c y))∧Below W W w':=by
 obtain ⟨hd,hmo,hr,_⟩:=a1h hok
 have h16:=hd.m16
 have anm:=hd.r16
 have ag2:=hv.mon.one
 have ag1:=hv.rul.one
 have hon:ones #[c.a08,mv,c.a0l,rv]=true:=a6t ag2 ag1
 have b1:obj (W.alloc (.cells #[c.a08,mv,c.a0l,rv] 31)) W.heap.size=some (.cells #[c.a08,mv,c.a0l,rv] 31 (0,0)):=a05 _ _ _ rfl
 have w1B:Below W W (W.alloc (.cells #[c.a08,mv,c.a0l,rv] 31)):=bR.alloc (zD _) _
 have HVW:=zA (fun (W':World) (hb:Below (W.alloc (.cells #[c.a08,mv,c.a0l,rv] 31)).heap.size (W.alloc (.cells #[c.a08,mv,c.a0l,rv] 31)) W')=>hv.below (w1B.trans (hb.mono w1B.size)))
 have HV:=zA (a3h (hv.below w1B) (by omega) (by omega))
 unfold a4d at HV
 rw [hok] at HV
 have HL:=zA (fun (W':World) (hb:Below (W.alloc (.cells #[c.a08,mv,c.a0l,rv] 31)).heap.size (W.alloc (.cells #[c.a08,mv,c.a0l,rv] 31)) W')=>aa2 (HVW.out W' hb) hok y)
 have HC:=zA (fun (W':World) (hb:Below (W.alloc (.cells #[c.a08,mv,c.a0l,rv] 31)).heap.size (W.alloc (.cells #[c.a08,mv,c.a0l,rv] 31)) W')=>ac4 (HVW.out W' hb) hok)
 have HY:=zA (Zn.ahx hd y)
 have hb:=Zn.af5 hmo c.a0g.length (zD _)
 clear hr hmo hok hv hd HVW
 generalize Zn.a4f c y=L at *
 generalize Zn.ag9 c c.a0g.length=s at *
 have w0:=zWI (s+1)
 go_enter Tryz.func66,Tryz.ntmps66
 by_cases hl:Zn.a3m c.rules y=true
 ·rw [zQ hl] at HY
  rw [hl] at HL
  clear hl
  repeat' (first | (go_at_call 64;((with_reducible refine (HV.out).mono ?_));rintro e w3 ⟨rfl,hb3⟩;have b3:=a0a b1 hb3;have w3B:=w1B.trans (hb3.mono w1B.size);have HL3:=zA (HL.out _ hb3);dsimp only) | (go_at_call 103;((with_reducible refine (HL3.out).mono ?_));rintro e w5 ⟨rfl,hb5⟩;have HC5:=zA (HC.out _ (hb3.trans (hb5.mono hb3.size)));have b5:=a0a b3 hb5;have w5B:=w3B.trans (hb5.mono w3B.size);dsimp only) | (go_at_call 104;((with_reducible refine (HC5.out).mono ?_));rintro e w6 ⟨rfl,hb6⟩;have w6B:=w5B.trans (hb6.mono w5B.size);dsimp only)|go_skip|go_guarded|go_step|go_upon)
  go_returns
  exact ⟨by rw [HY.out];rfl,w6B⟩
 rw [zS hl] at HY
 rw [Bool.not_eq_true] at hl
 rw [hl] at HL
 clear hl
 repeat' (first | (go_at_call 64;((with_reducible refine (HV.out).mono ?_));rintro e w3 ⟨rfl,hb3⟩;have b3:=a0a b1 hb3;have w3B:=w1B.trans (hb3.mono w1B.size);have HL3:=zA (HL.out _ hb3);dsimp only) | (go_at_call 103;((with_reducible refine (HL3.out).mono ?_));rintro e w5 ⟨rfl,hb5⟩;have HC5:=zA (HC.out _ (hb3.trans (hb5.mono hb3.size)));have b5:=a0a b3 hb5;have w5B:=w3B.trans (hb5.mono w3B.size);dsimp only) | (go_at_call 104;((with_reducible refine (HC5.out).mono ?_));rintro e w6 ⟨rfl,hb6⟩;have w6B:=w5B.trans (hb6.mono w5B.size);dsimp only)|go_skip|go_guarded|go_step|go_upon)
 go_returns
 exact ⟨by rw [HY.out];simp,w6B⟩
end Go.Proofs.YtppjleebbjipbaaGreat
namespace Go.Proofs.YtppjleebbjipbaaGreat
open Go.RowKit
set_option maxRecDepth 20000
set_option maxHeartbeats 8000000
theorem adb {W:World} {c:Zn.Cal} {mv rv:Value} (hv:a8w W c mv rv) (hok:c.ok=true) (y:Int) {k:Nat} (hk:k < c.a0g.length) :
  Calls Tryz.prog 140 #[.agg #[c.a08,mv,c.a0l,rv],.int .i64 y,.int .i64 ((k:Int)+1)] W fun e w'=>e=.returned (.int .i64 (Zn.a97 c y k))∧Below W W w':=by
 obtain ⟨hd,hmo,hr,_⟩:=a1h hok
 have h16:=hd.m16
 have anm:=hd.r16
 have ag2:=hv.mon.one
 have ag1:=hv.rul.one
 have hon:ones #[c.a08,mv,c.a0l,rv]=true:=a6t ag2 ag1
 have b1:obj (W.alloc (.cells #[c.a08,mv,c.a0l,rv] 31)) W.heap.size=some (.cells #[c.a08,mv,c.a0l,rv] 31 (0,0)):=a05 _ _ _ rfl
 have w1B:Below W W (W.alloc (.cells #[c.a08,mv,c.a0l,rv] 31)):=bR.alloc (zD _) _
 have HVW:=zA (fun (W':World) (hb:Below (W.alloc (.cells #[c.a08,mv,c.a0l,rv] 31)).heap.size (W.alloc (.cells #[c.a08,mv,c.a0l,rv] 31)) W')=>hv.below (w1B.trans (hb.mono w1B.size)))
 have HV:=zA (a3h (hv.below w1B) (by omega) (by omega))
 unfold a4d at HV
 rw [hok] at HV
 have HL:=zA (fun (W':World) (hb:Below (W.alloc (.cells #[c.a08,mv,c.a0l,rv] 31)).heap.size (W.alloc (.cells #[c.a08,mv,c.a0l,rv] 31)) W')=>aa2 (HVW.out W' hb) hok y)
 obtain ⟨mo,mc,hmv,hms⟩:=hv.mon
 obtain ⟨b,o,row,T,fr,ar5,hq,q2⟩:=hms (by omega)
 subst ar5
 have hc:=q2 k hk
 have hlen : ¬ (c.a0g.length:Int) < (k:Int)+1:=by omega
 have hlen2:(k:Int) < (c.a0g.length:Int):=by omega
 have hlen1 : ¬ (k:Int)+1 < 1:=by omega
 have w0:IntKind.wrap .i64 ((k:Int)+1 - 1)=(k:Int):=by rw [wrap_in]<;>omega
 have hmb:=Zn.a5s hmo y hk
 have hvl:Zn.a97 c y k=c.a0g.getD k 0+(if (k:Int)=c.a0l∧Zn.a3m c.rules y=true then 1 else 0):=rfl
 have hm2:0≤c.a0g.getD k 0∧c.a0g.getD k 0≤41:=by
  rw [hvl] at hmb
  split at hmb<;>omega
 have HX:=zA hvl
 clear hvl hmb hms hr hmo hok hv hd HVW q2 ag2
 generalize Zn.a97 c y k=L at *
 generalize c.a0g.getD k 0=n at *
 have w1:=zWI (n+1)
 subst hmv
 go_enter Tryz.func140,Tryz.ntmps140
 by_cases he:(k:Int)=c.a0l
 ·have te:((k:Int) == c.a0l)=true:=by simp [he]
  by_cases hl:Zn.a3m c.rules y=true
  ·rw [zQ ⟨he,hl⟩] at HX
   rw [hl] at HL;clear hl he
   repeat' (first | (go_at_call 64;((with_reducible refine (HV.out).mono ?_));rintro e w3 ⟨rfl,hb3⟩;have b3:=a0a b1 hb3;have w3B:=w1B.trans (hb3.mono w1B.size);have HL3:=zA (HL.out _ hb3);have b31:=a02 b3 1;have b32:=a02 b3 2;dsimp only) | (go_at_call 103;((with_reducible refine (HL3.out).mono ?_));rintro e w5 ⟨rfl,hb5⟩;have b5:=a0a b3 hb5;have w5B:=w3B.trans (hb5.mono w3B.size);have b51:=a02 b5 1;have HM5:=(a02 (a0a hq w5B) (o+k)).trans hc;dsimp only)|go_skip|go_guarded|go_step|go_upon)
   go_returns;exact ⟨by rw [HX.out];rfl,w5B⟩
  rw [zS (fun h=>hl h.2)] at HX
  rw [Bool.not_eq_true] at hl
  rw [hl] at HL
  clear hl he
  repeat' (first | (go_at_call 64;((with_reducible refine (HV.out).mono ?_));rintro e w3 ⟨rfl,hb3⟩;have b3:=a0a b1 hb3;have w3B:=w1B.trans (hb3.mono w1B.size);have HL3:=zA (HL.out _ hb3);have b31:=a02 b3 1;have b32:=a02 b3 2;dsimp only) | (go_at_call 103;((with_reducible refine (HL3.out).mono ?_));rintro e w5 ⟨rfl,hb5⟩;have b5:=a0a b3 hb5;have w5B:=w3B.trans (hb5.mono w3B.size);have b51:=a02 b5 1;have HM5:=(a02 (a0a hq w5B) (o+k)).trans hc;dsimp only)|go_skip|go_guarded|go_step|go_upon)
  go_returns
  exact ⟨by rw [HX.out];simp,w5B⟩
 have te:((k:Int) == c.a0l)=false:=by simpa using he
 rw [zS (fun h=>he h.1)] at HX
 clear he
 repeat' (first | (go_at_call 64;((with_reducible refine (HV.out).mono ?_));rintro e w3 ⟨rfl,hb3⟩;have b3:=a0a b1 hb3;have w3B:=w1B.trans (hb3.mono w1B.size);have b32:=a02 b3 2;have b31:=a02 b3 1;have HM3:=(a02 (a0a hq w3B) (o+k)).trans hc;dsimp only)|go_skip|go_guarded|go_step|go_upon)
 go_returns
 exact ⟨by rw [HX.out];simp,w3B⟩
theorem ai9 {W:World} {a b:Nat} (ha:a < 4611686018427387904) (hb:b < 4611686018427387904) :
  Calls Tryz.prog 65 #[.int .i64 a,.int .i64 b] W fun e w'=>e=.returned (.int .i64 (Nat.gcd a b:Nat))∧W=w':=by
 go_enter Tryz.func65,Tryz.ntmps65
 repeat'(first|go_skip|go_guarded|go_step|go_upon)
 go_loopw [0,1] (fun u v wr => ∃ x y:Nat,x < 4611686018427387904∧y < 4611686018427387904∧Nat.gcd x y=Nat.gcd a b∧u=.int .i64 x∧v=.int .i64 y∧W=wr) (fun _ v _=>(intOf v).toNat)
 case atStart=>exact ⟨a,b,ha,hb,rfl,rfl,rfl,by trivial⟩
 obtain ⟨x,y,hx,hy,hgc,rfl,rfl,rfl⟩:=hrel
 by_cases h0:y=0
 ·subst h0
  rw [Nat.gcd_zero_right] at hgc
  have HGC:=zA hgc
  clear hgc
  repeat'(first|go_skip|go_guarded|go_step|go_upon)
  go_ret
  exact ⟨by rw [← HGC.out];rfl,by trivial⟩
 have r0:(y:Int)≠0:=by omega
 have hlt:=wJ x (by omega:0 < y)
 have rt:Int.tmod (x:Int) (y:Int)=((x % y:Nat):Int):=by rw [yE (by omega)];omega
 have rw_:IntKind.wrap .i64 ((x % y:Nat):Int)=((x % y:Nat):Int):=wrap_in (by omega) (by omega)
 have HG:Hid (Nat.gcd y (x % y)=Nat.gcd a b):=zA (by rw [Nat.gcd_comm y,← Nat.gcd_rec,Nat.gcd_comm];exact hgc)
 generalize x % y=r at *
 repeat'(first|go_skip|go_guarded|go_step|go_upon)
 go_roundw
 case rel=>exact ⟨y,r,by omega,by omega,HG.out,rfl,rfl,by trivial⟩
 case measure=>simp [intOf];omega
theorem ade {W:World} {c:Zn.Cal} {mv rv:Value} (hv:a8w W c mv rv) (hok:c.ok=true) :
  Calls Tryz.prog 28 #[.agg #[c.a08,mv,c.a0l,rv]] W fun e w'=>e=.returned (.tuple #[.int .i64 c.a5b,.int .i64 c.days,.int .i64 0])∧Below W W w':=by
 have amu:=(a1h hok).2.2.2.1
 have hy1:=(a1h hok).2.2.2.2.1
 have hy4:=(a1h hok).2.2.2.2.2
 obtain ⟨hd,hmo,hr,_⟩:=a1h hok
 have h16:=hd.m16
 have anm:=hd.r16
 have ag2:=hv.mon.one
 have ag1:=hv.rul.one
 have hon:ones #[c.a08,mv,c.a0l,rv]=true:=a6t ag2 ag1
 have b1:obj (W.alloc (.cells #[c.a08,mv,c.a0l,rv] 31)) W.heap.size=some (.cells #[c.a08,mv,c.a0l,rv] 31 (0,0)):=a05 _ _ _ rfl
 have w1B:Below W W (W.alloc (.cells #[c.a08,mv,c.a0l,rv] 31)):=bR.alloc (zD _) _
 have HVW:=zA (fun (W':World) (hb:Below (W.alloc (.cells #[c.a08,mv,c.a0l,rv] 31)).heap.size (W.alloc (.cells #[c.a08,mv,c.a0l,rv] 31)) W')=>hv.below (w1B.trans (hb.mono w1B.size)))
 have HV:=zA (a3h (hv.below w1B) (by omega) (by omega))
 unfold a4d at HV
 rw [hok] at HV
 have HY:=zA (fun (W':World) (hb:Below (W.alloc (.cells #[c.a08,mv,c.a0l,rv] 31)).heap.size (W.alloc (.cells #[c.a08,mv,c.a0l,rv] 31)) W') (y:Int)=>a9z (HVW.out W' hb) hok y)
 have HYS:=zA (fun n=>Zn.a1v hok n)
 have HYL:=zA (fun n=>Zn.a5p hok n)
 have HD:Hid (c.days=Zn.a0z c c.a5b):=zA rfl
 obtain ⟨ro,rc,hrv,hrs⟩:=hv.rul
 have HS:=zA hrs
 clear hrs hr hmo hok hv hd ag1
 subst hrv
 have HP0:=zA amu
 clear amu
 generalize c.a5b=N at *
 go_enter Tryz.func28,Tryz.ntmps28
 repeat' (first | (go_at_call 64;((with_reducible refine (HV.out).mono ?_));rintro e w3 ⟨rfl,hb3⟩;have b3:=a0a b1 hb3;have w3B:=w1B.trans (hb3.mono w1B.size);dsimp only)|go_skip|go_guarded|go_step|go_upon)
 go_loopw [5,6] (fun z i wr => ∃ k Y:Nat,k≤c.rules.length∧z=.int .i64 Y∧i=.int .i64 k∧1≤Y∧Y≤400∧Zn.period Y (c.rules.drop k)=some N∧Below w3 w3 wr) (fun _ i _=>((c.rules.length:Int) - intOf i).toNat)
 case atStart=>exact ⟨0,1,by omega,rfl,rfl,by omega,by omega,HP0.out,zC _ _⟩
 obtain ⟨k,Y,hk,rfl,rfl,y1,y4,hP,hC⟩:=hrel
 have bb:=a0a b3 hC
 have bb3:=a02 bb 3
 have hB:=w3B.trans (hC.mono w3B.size)
 by_cases hlt:k < c.rules.length;rotate_left
 ·have i1 : ¬ (k:Int) < (c.rules.length:Int):=by omega
  rw [List.drop_eq_nil_of_le (by omega)] at hP
  obtain rfl:Y=N:=by injection hP
  clear hP
  repeat'(first|go_skip|go_guarded|go_step|go_upon)
  have hC0:=hC
  clear hC hB bb bb3
  go_loopw [7,8] (fun z i wr => ∃ j:Nat,j≤Y∧z=.int .i64 (Zn.a0z c j)∧i=.int .i64 ((j:Int)+1)∧Below w3 w3 wr) (fun _ i _=>((Y:Int)+1 - intOf i).toNat)
  case atStart=>exact ⟨0,by omega,rfl,rfl,hC0⟩
  clear hC0
  obtain ⟨j,hj,rfl,rfl,hC⟩:=hrel
  have bb:=a0a b3 hC
  have hB:=w3B.trans (hC.mono w3B.size)
  by_cases hlj:j < Y
  ·have i2:(j:Int)+1≤(Y:Int):=by omega
   have h1:=HYS.out j;have h2:=HYL.out ((j:Int)+1);have HX:=zA (HY.out _ (hb3.trans (hC.mono hb3.size)) ((j:Int)+1));have HQ:Hid (Zn.a0z c (j+1)=Zn.a0z c j+Zn.a4f c ((j:Int)+1)):=zA rfl;generalize Zn.a0z c j=s at *;generalize Zn.a4f c ((j:Int)+1)=m at *;have w2:=zWI (s+m);have w3':=zWI ((j:Int)+1+1)
   repeat' (first | (go_at_call 66;((with_reducible refine (HX.out).mono ?_));rintro e w5 ⟨rfl,hb5⟩;have hC5:=hC.trans (hb5.mono hC.size);dsimp only)|go_skip|go_guarded|go_step|go_upon)
   exact ⟨⟨j+1,by omega,by rw [HQ.out],by simp,hC5⟩,by simp [intOf];omega⟩
  have i2 : ¬ (j:Int)+1≤(Y:Int):=by omega
  obtain rfl:j=Y:=by omega
  repeat'(first|go_skip|go_guarded|go_step|go_upon)
  go_returns
  exact ⟨by rw [HD.out];rfl,hB⟩
 have i1:(k:Int) < (c.rules.length:Int):=by omega
 obtain ⟨b,o,row,T,fr,rfl,q1,q2⟩:=HS.out (by omega)
 obtain ⟨z0,k2⟩:=q2 k hlt
 have hbw:=a04 q1 hB (a09 q1)
 rw [a8s hlt default,Zn.a3e] at hP
 clear q1 q2 z0
 try dsimp only at k2
 generalize c.rules.getD k default=r at *
 split at hP
 rotate_left
 ·cases hP
 rename_i hcc
 obtain ⟨hok,hl⟩:=hcc
 obtain ⟨re,rr,ry⟩:=r
 simp only [Zn.LR.ok,zN,zM] at hok
 obtain ⟨o1,o2,o3,o4⟩:=hok
 dsimp only at o1 o2 o3 o4 hl hP
 obtain ⟨E,rfl⟩ : ∃ E:Nat,re=(E:Int):=⟨re.toNat,by omega⟩
 have k3:row.extract (o+k * 3) (o+k * 3+3)=#[.int .i64 (E:Int),.int .i64 rr,.bool ry]:=k2
 have e0:=(a02 hbw (o+k * 3)).trans (a0y 0 k3 (by simp))
 rw [Int.toNat_natCast] at hl hP
 have HG:=zA (fun Wq:World=>@ai9 Wq Y E (by omega) (by omega))
 have hl1:1≤Nat.lcm Y E:=Nat.lcm_pos y1 (by omega)
 have hg1:1≤Nat.gcd Y E:=Nat.gcd_pos_of_pos_left E (by omega)
 have hga:Nat.gcd Y E≤Y:=Nat.gcd_le_left E (by omega)
 have hll:Nat.lcm Y E=Y / Nat.gcd Y E * E:=by unfold Nat.lcm;rw [Nat.div_mul_right_comm (Nat.gcd_dvd_left Y E)]
 have hdl:Y / Nat.gcd Y E≤Y:=vY _ _
 obtain ⟨D,hD⟩ : ∃ D,Y / Nat.gcd Y E=D:=⟨_,rfl⟩
 have HP:=zA hP
 generalize Nat.lcm Y E=M at *
 generalize Nat.gcd Y E=G at *
 have r0:(G:Int)≠0:=by omega
 have r1:Int.tdiv (Y:Int) (G:Int)=(D:Int):=by rw [xA (by omega),← hD];rfl
 have r2:IntKind.wrap .i64 (D:Int)=(D:Int):=wrap_in (by omega) (by omega)
 have r3:(D:Int) * (E:Int)=(M:Int):=by rw [hll,hD];simp
 have r4:IntKind.wrap .i64 (M:Int)=(M:Int):=wrap_in (by omega) (by omega)
 clear k2 k3 o1 o2 o3 o4 hll hD hga hdl hg1 hP
 repeat'(first|go_skip|go_guarded|go_step|go_upon)
 go_quiet ((go_at_call 65;refine vW ((HG.out _).mono fun _ _ h=>⟨h.1,h.2.symm⟩)))
 have hCq:=below_drewN hC nq
 clear e0 bb bb3 hC hB hbw
 generalize wr.drewN nq=w4 at *
 repeat'(first|go_skip|go_guarded|go_step|go_upon)
 exact ⟨⟨k+1,M,by omega,rfl,by go_num,hl1,hl,HP.out,hCq⟩,by simp [intOf];omega⟩
end Go.Proofs.YtppjleebbjipbaaGreat
