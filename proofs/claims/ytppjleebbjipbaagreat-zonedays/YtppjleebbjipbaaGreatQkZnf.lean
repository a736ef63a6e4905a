/-
  civil: cycle, Cycle.
-/
import Derived.Test.YtppjleebbjipbaaGreatQkZne
set_option linter.all false
namespace Go.Proofs.YtppjleebbjipbaaGreat
open Go.RowKit
set_option maxRecDepth 20000
set_option maxHeartbeats 8000000
theorem below_drewN {n:Nat} {W W':World} (h:Below n W W') (k:Nat):Below n W (W'.drewN k):=⟨h.os,h.tape,h.output,h.size,h.block⟩
theorem af4 {W:World} {c:Zn.Cal} {mv rv sv:Value} {n:Nat} (hm:mv.oneCell' = true) (hr:rv.oneCell' = true) (hs:a1s W sv (a3k c (n+1))) (hn:n≤400) :
  Calls Tryz.prog 75 #[.agg #[c.a08,mv,c.a0l,rv,sv]] W fun e w'=>e=.returned (.tuple #[.int .i64 n,.int .i64 (Zn.a0z c n)])∧Below W W w':=by
 obtain ⟨a,sc,rfl,hq⟩:=hs
 rw [a5r] at hq ⊢
 obtain ⟨sb,so,srow,ST,sfr,rfl,sq1,sq3⟩:=hq (by omega)
 have sq2:=(sq3 n (by omega)).trans (by rw [a9x c (show n < n+1 by omega)])
 clear sq3 hq
 generalize Zn.a0z c n=s at *
 have hon:ones #[c.a08,mv,c.a0l,rv,.slice (some ⟨sb,so,none⟩) (n+1) sc]=true:=ah3 hm hr rfl
 have w1B:Below W W (W.alloc (.cells #[c.a08,mv,c.a0l,rv,.slice (some ⟨sb,so,none⟩) (n+1) sc] 124)):=bR.alloc (zD _) _
 have b1:obj (W.alloc (.cells #[c.a08,mv,c.a0l,rv,.slice (some ⟨sb,so,none⟩) (n+1) sc] 124)) W.heap.size=some (.cells #[c.a08,mv,c.a0l,rv,.slice (some ⟨sb,so,none⟩) (n+1) sc] 124 (0,0)):=a05 _ _ _ rfl
 have c1:=a02 b1 4
 have sqa:=a0a sq1 w1B
 have sqc:=(a02 sqa (so+n)).trans sq2
 have wn:IntKind.wrap .i64 (((n:Nat)+1:Int) - 1)=n:=by rw [wrap_in]<;>omega
 have t0 : ¬ ((n:Nat):Int) < 0:=by omega
 go_enter Tryz.func75,Tryz.ntmps75
 repeat'(first|go_skip|go_guarded|go_step|go_upon)
 go_quiet (fail)
 have w2B:=below_drewN w1B nq
 generalize ((W.alloc (.cells #[c.a08,mv,c.a0l,rv,.slice (some ⟨sb,so,none⟩) (n+1) sc] 124)).drewN nq)=w2 at *
 repeat'(first|go_skip|go_guarded|go_step|go_upon)
 go_returns
 exact ⟨rfl,w2B⟩
theorem afd {W:World} {c:Zn.Cal} {mv rv:Value} (hv:a8w W c mv rv) (hok:c.ok=true) :
  Calls Tryz.prog 36 #[.agg #[c.a08,mv,c.a0l,rv]] W fun e w'=>e=.returned (.tuple #[.int .i64 c.a5b,.int .i64 c.days,.int .i64 0])∧Below W W w':=by
 obtain ⟨hd,hmo,hr,amu,hy1,hy4⟩:=a1h hok
 have hon:ones #[c.a08,mv,c.a0l,rv]=true:=a6t hv.mon.one hv.rul.one
 have ag2:=hv.mon.one
 have ag1:=hv.rul.one
 have w1B:Below W W (W.alloc (.cells #[c.a08,mv,c.a0l,rv] 31)):=bR.alloc (zD _) _
 have b1:obj (W.alloc (.cells #[c.a08,mv,c.a0l,rv] 31)) W.heap.size=some (.cells #[c.a08,mv,c.a0l,rv] 31 (0,0)):=a05 _ _ _ rfl
 have HO:=zA (ah2 (hv.below w1B) hok)
 have HY:=zA (fun (W':World) (sv:Value) (h:a1s W' sv (a3k c (c.a5b+1)))=>af4 (W:=W') ag2 ag1 h hy4)
 have HD:Hid (c.days=Zn.a0z c c.a5b):=zA rfl
 clear hd hmo hr amu hok
 generalize c.a5b=n at *
 go_enter Tryz.func36,Tryz.ntmps36
 repeat' (first | (go_at_call 74;((with_reducible refine (HO.out).mono ?_));rintro e w3 ⟨sv,rfl,hsv,hb3⟩;have w3B:=w1B.trans (hb3.mono w1B.size);have b3:=a0a b1 hb3;have osv:=a1s.one hsv;have on5:=ah3 ag2 ag1 osv (a:=c.a08) (b:=c.a0l);have aq2:=hsv.below ((zC w3.heap.size w3).alloc (zD _) (.cells #[c.a08,mv,c.a0l,rv,sv] 124));have w4B:=w3B.trans (((zC w3.heap.size w3).alloc (zD _) (.cells #[c.a08,mv,c.a0l,rv,sv] 124)).mono w3B.size);have HY3:=zA (HY.out _ _ aq2);dsimp only) | (go_at_call 75;((with_reducible refine (HY3.out).mono ?_));rintro e w5 ⟨rfl,hb5⟩;have w5B:=w4B.trans (hb5.mono w4B.size);dsimp only)|go_skip|go_guarded|go_step|go_upon)
 go_returns
 exact ⟨by rw [HD.out];rfl,w5B⟩
end Go.Proofs.YtppjleebbjipbaaGreat
namespace Go.Proofs.YtppjleebbjipbaaGreat
open Go.RowKit
set_option maxRecDepth 20000
set_option maxHeartbeats 8000000
theorem a3h {W:World} {c:Zn.Cal} {mv rv:Value} (hv:a8w W c mv rv) (hz:c.rules.length < 9223372036854775808) (hm:c.a0g.length < 9223372036854775808) :
  Calls Tryz.prog 64 #[.agg (a4d c mv rv)] W fun e w'=>e=.returned (.bool c.ok)∧Below W W w':=by
 obtain ⟨⟨mo,mc,rfl,hms⟩,⟨ro,rc,rfl,hrs⟩⟩:=hv
 have HM:=zA hms
 have HS:=zA hrs
 clear hms hrs
 obtain ⟨ep,ms,lp,rs⟩:=c
 dsimp only at HM HS hz hm
 have b1:obj (W.alloc (.cells #[ep,.slice mo ms.length mc,lp,.slice ro rs.length rc] 31)) W.heap.size=some (.cells #[ep,.slice mo ms.length mc,lp,.slice ro rs.length rc] 31 (0,0)):=a05 _ _ _ rfl
 have w1B:Below W W (W.alloc (.cells #[ep,.slice mo ms.length mc,lp,.slice ro rs.length rc] 31)):=bR.alloc (zD _) _
 have hcr:a4d ⟨ep,ms,lp,rs⟩ (.slice mo ms.length mc) (.slice ro rs.length rc)=#[.int .i64 ep,.slice mo ms.length mc,.int .i64 lp,.slice ro rs.length rc]:=rfl
 have HOK:Hid ((⟨ep,ms,lp,rs⟩:Zn.Cal).ok=(decide (Zn.Cal.Hd ⟨ep,ms,lp,rs⟩)&&(ms.all Zn.a2p&&(Zn.period 1 rs).isSome))):=zA rfl
 rw [hcr]
 clear hcr
 by_cases hd:Zn.Cal.Hd ⟨ep,ms,lp,rs⟩;rotate_left
 ·have hdf:decide (Zn.Cal.Hd ⟨ep,ms,lp,rs⟩)=false:=zW hd
  have HF:Hid ((⟨ep,ms,lp,rs⟩:Zn.Cal).ok=false):=zA (by rw [HOK.out,hdf];rfl)
  have hbad:ep < 0∨1048576 < ep∨(ms.length:Int) < 1∨16 < (ms.length:Int)∨lp < -1∨(ms.length:Int)≤lp∨16 < (rs.length:Int)∨(lp = -1∧0 < (rs.length:Int)):=by
   refine Classical.byContradiction fun h=>hd ?_
   simp only [not_or,not_and,Int.not_lt,Int.not_le] at h;obtain ⟨h1,h2,h3,h4,h5,h6,h7,h8⟩:=h;exact ⟨h1,h2,by show 1≤ms.length;omega,by show ms.length≤16;omega,h5,h6,by show rs.length≤16;omega,fun e=>by have:=h8 e;show rs.length=0;omega⟩
  clear HOK hdf hd
  go_enter Tryz.func64,Tryz.ntmps64
  by_cases c1:ep < 0
  ·repeat'(first|go_skip|go_guarded|go_step|go_upon)
   go_returns;exact ⟨by rw [HF.out];rfl,w1B⟩
  skip
  by_cases c2:1048576 < ep
  ·repeat'(first|go_skip|go_guarded|go_step|go_upon)
   go_returns;exact ⟨by rw [HF.out];rfl,w1B⟩
  skip
  by_cases c3:(ms.length:Int) < 1
  ·repeat'(first|go_skip|go_guarded|go_step|go_upon)
   go_returns;exact ⟨by rw [HF.out];rfl,w1B⟩
  skip
  by_cases c4:16 < (ms.length:Int)
  ·repeat'(first|go_skip|go_guarded|go_step|go_upon)
   go_returns;exact ⟨by rw [HF.out];rfl,w1B⟩
  skip
  by_cases c7:16 < (rs.length:Int)
  ·repeat'(first|go_skip|go_guarded|go_step|go_upon)
   go_returns;exact ⟨by rw [HF.out];rfl,w1B⟩
  skip
  by_cases c5:lp < -1
  ·repeat'(first|go_skip|go_guarded|go_step|go_upon)
   go_returns;exact ⟨by rw [HF.out];rfl,w1B⟩
  skip
  by_cases c6:(ms.length:Int)≤lp
  ·repeat'(first|go_skip|go_guarded|go_step|go_upon)
   go_returns;exact ⟨by rw [HF.out];rfl,w1B⟩
  skip
  have c8:lp = -1∧0 < (rs.length:Int):=by omega
  obtain ⟨c8,c9⟩:=c8
  have t8:(lp == -1)=true:=by simp [c8]
  clear c8 hbad
  repeat'(first|go_skip|go_guarded|go_step|go_upon)
  go_returns
  exact ⟨by rw [HF.out];rfl,w1B⟩
 obtain ⟨e0,e1,m1,m16,l0,l1,r16,lr⟩:=hd
 have hdt:decide (Zn.Cal.Hd ⟨ep,ms,lp,rs⟩)=true:=zV ⟨e0,e1,m1,m16,l0,l1,r16,lr⟩
 dsimp only at e0 e1 m1 m16 l0 l1 r16 lr
 have afb:Hid ((⟨ep,ms,lp,rs⟩:Zn.Cal).ok=(ms.all Zn.a2p&&(Zn.period 1 rs).isSome)):=zA (by rw [HOK.out,hdt];rfl)
 have t1 : ¬ ep < 0:=by omega
 have t2 : ¬ 1048576 < ep:=by omega
 have t3 : ¬ (ms.length:Int) < 1:=by omega
 have t4 : ¬ (16:Int) < (ms.length:Int):=by omega
 have t5 : ¬ lp < -1:=by omega
 have t6 : ¬ (ms.length:Int)≤lp:=by omega
 have t7 : ¬ (16:Int) < (rs.length:Int):=by omega
 have HLR:=zA lr
 clear HOK hdt lr e0 e1 m1 l0 l1
 go_enter Tryz.func64,Tryz.ntmps64
 by_cases hlp:lp = -1
 ·have t8:(lp == -1)=true:=by simp [hlp]
  have t9 : ¬ (0:Int) < (rs.length:Int):=by have:=HLR.out hlp;omega
  clear hlp HLR
  repeat'(first|go_skip|go_guarded|go_step|go_upon)
  go_loopw [3] (fun i wr => ∃ k:Nat,k≤ms.length∧i=.int .i64 k∧(∀ j,j < k→Zn.a2p (ms.getD j 0)=true)∧Below (W.alloc (.cells #[ep,.slice mo ms.length mc,lp,.slice ro rs.length rc] 31)).heap.size (W.alloc (.cells #[ep,.slice mo ms.length mc,lp,.slice ro rs.length rc] 31)) wr) (fun i _=>((ms.length:Int) - intOf i).toNat)
  case atStart=>exact ⟨0,by omega,rfl,fun j hj=>absurd hj (yA j),zC _ _⟩
  obtain ⟨k,hk,rfl,hM,hC⟩:=hrel
  have hB:=w1B.trans (hC.mono w1B.size)
  have HMM:=zA hM
  clear hM
  have bb0:=a0a b1 hC
  have bb1:=a02 bb0 1
  by_cases hlt:k < ms.length
  ·have i1:(k:Int) < (ms.length:Int):=by omega
   obtain ⟨b,o,row,T,fr,rfl,q1,q2⟩:=HM.out (by omega);have cm:=(a02 (a04 q1 hB (a09 q1)) (o+k)).trans (q2 k hlt);clear q1 q2;generalize hn:ms.getD k 0=n at *;have HN:=zA hn;clear hn;by_cases c1:n < 1
   ·repeat'(first|go_skip|go_guarded|go_step|go_upon)
    go_returns;exact ⟨by rw [afb.out,all_false hlt (by rw [HN.out];simp [Zn.a2p];omega)];rfl,hB⟩
   by_cases c2:40 < n
   ·repeat'(first|go_skip|go_guarded|go_step|go_upon)
    go_returns;exact ⟨by rw [afb.out,all_false hlt (by rw [HN.out];simp [Zn.a2p];omega)];rfl,hB⟩
   repeat'(first|go_skip|go_guarded|go_step|go_upon)
   exact ⟨⟨k+1,by omega,by go_num,fun j hj=>(zU j k).elim (fun h=>HMM.out j h) (fun h=>by rw [show j=k by omega,HN.out];simp [Zn.a2p];omega),hC⟩,by simp [intOf];omega⟩
  have i1 : ¬ (k:Int) < (ms.length:Int):=by omega
  have hall:Hid (ms.all Zn.a2p=true):=zA (all_true fun j hj=>HMM.out j (by omega))
  have aly:Hid ((⟨ep,ms,lp,rs⟩:Zn.Cal).ok=(Zn.period 1 rs).isSome):=zA (by rw [afb.out,hall.out];rfl)
  clear hall HMM afb
  repeat'(first|go_skip|go_guarded|go_step|go_upon)
  clear hB
  have hC0:=hC
  clear hC
  go_loopw [4,5] (fun y i wr => ∃ k Y:Nat,k≤rs.length∧y=.int .i64 Y∧i=.int .i64 k∧1≤Y∧Y≤400∧Zn.period 1 rs=Zn.period Y (rs.drop k)∧Below (W.alloc (.cells #[ep,.slice mo ms.length mc,lp,.slice ro rs.length rc] 31)).heap.size (W.alloc (.cells #[ep,.slice mo ms.length mc,lp,.slice ro rs.length rc] 31)) wr) (fun _ i _=>((rs.length:Int) - intOf i).toNat)
  case atStart=>exact ⟨0,1,by omega,rfl,rfl,by omega,by omega,rfl,hC0⟩
  clear hC0
  obtain ⟨k,Y,hk,rfl,rfl,y1,y4,hP,hC⟩:=hrel
  have hB:=w1B.trans (hC.mono w1B.size)
  have bb:=a0a b1 hC
  have bb3:=a02 bb 3
  by_cases hlt:k < rs.length
  ·exact absurd hlt (by omega)
  have i1 : ¬ (k:Int) < (rs.length:Int):=by omega
  have HN:Hid (Zn.period 1 rs=some Y):=zA (by rw [hP,List.drop_eq_nil_of_le (by omega)];rfl)
  clear hP
  repeat'(first|go_skip|go_guarded|go_step|go_upon)
  go_returns
  exact ⟨by rw [aly.out,HN.out];rfl,hB⟩
 have t8:(lp == -1)=false:=by simpa using hlp
 clear hlp HLR
 repeat'(first|go_skip|go_guarded|go_step|go_upon)
 go_loopw [3] (fun i wr => ∃ k:Nat,k≤ms.length∧i=.int .i64 k∧(∀ j,j < k→Zn.a2p (ms.getD j 0)=true)∧Below (W.alloc (.cells #[ep,.slice mo ms.length mc,lp,.slice ro rs.length rc] 31)).heap.size (W.alloc (.cells #[ep,.slice mo ms.length mc,lp,.slice ro rs.length rc] 31)) wr) (fun i _=>((ms.length:Int) - intOf i).toNat)
 case atStart=>exact ⟨0,by omega,rfl,fun j hj=>absurd hj (yA j),zC _ _⟩
 obtain ⟨k,hk,rfl,hM,hC⟩:=hrel
 have hB:=w1B.trans (hC.mono w1B.size)
 have HMM:=zA hM
 clear hM
 have bb0:=a0a b1 hC
 have bb1:=a02 bb0 1
 by_cases hlt:k < ms.length
 ·have i1:(k:Int) < (ms.length:Int):=by omega
  obtain ⟨b,o,row,T,fr,rfl,q1,q2⟩:=HM.out (by omega)
  have cm:=(a02 (a04 q1 hB (a09 q1)) (o+k)).trans (q2 k hlt)
  clear q1 q2
  generalize hn:ms.getD k 0=n at *
  have HN:=zA hn
  clear hn
  by_cases c1:n < 1
  ·repeat'(first|go_skip|go_guarded|go_step|go_upon)
   go_returns;exact ⟨by rw [afb.out,all_false hlt (by rw [HN.out];simp [Zn.a2p];omega)];rfl,hB⟩
  by_cases c2:40 < n
  ·repeat'(first|go_skip|go_guarded|go_step|go_upon)
   go_returns;exact ⟨by rw [afb.out,all_false hlt (by rw [HN.out];simp [Zn.a2p];omega)];rfl,hB⟩
  repeat'(first|go_skip|go_guarded|go_step|go_upon)
  exact ⟨⟨k+1,by omega,by go_num,fun j hj=>(zU j k).elim (fun h=>HMM.out j h) (fun h=>by rw [show j=k by omega,HN.out];simp [Zn.a2p];omega),hC⟩,by simp [intOf];omega⟩
 have i1 : ¬ (k:Int) < (ms.length:Int):=by omega
 have hall:Hid (ms.all Zn.a2p=true):=zA (all_true fun j hj=>HMM.out j (by omega))
 have aly:Hid ((⟨ep,ms,lp,rs⟩:Zn.Cal).ok=(Zn.period 1 rs).isSome):=zA (by rw [afb.out,hall.out];rfl)
 clear hall HMM afb
 repeat'(first|go_skip|go_guarded|go_step|go_upon)
 clear hB
 have hC0:=hC
 clear hC
 go_loopw [4,5] (fun y i wr => ∃ k Y:Nat,k≤rs.length∧y=.int .i64 Y∧i=.int .i64 k∧1≤Y∧Y≤400∧Zn.period 1 rs=Zn.period Y (rs.drop k)∧Below (W.alloc (.cells #[ep,.slice mo ms.length mc,lp,.slice ro rs.length rc] 31)).heap.size (W.alloc (.cells #[ep,.slice mo ms.length mc,lp,.slice ro rs.length rc] 31)) wr) (fun _ i _=>((rs.length:Int) - intOf i).toNat)
 case atStart=>exact ⟨0,1,by omega,rfl,rfl,by omega,by omega,rfl,hC0⟩
 clear hC0
 obtain ⟨k,Y,hk,rfl,rfl,y1,y4,hP,hC⟩:=hrel
 have hB:=w1B.trans (hC.mono w1B.size)
 have bb:=a0a b1 hC
 have bb3:=a02 bb 3
 by_cases hlt:k < rs.length;rotate_left
 ·have i1 : ¬ (k:Int) < (rs.length:Int):=by omega
  have HN:Hid (Zn.period 1 rs=some Y):=zA (by rw [hP,List.drop_eq_nil_of_le (by omega)];rfl)
  clear hP
  repeat'(first|go_skip|go_guarded|go_step|go_upon)
  go_returns
  exact ⟨by rw [aly.out,HN.out];rfl,hB⟩
 have i1:(k:Int) < (rs.length:Int):=by omega
 obtain ⟨b,o,row,T,fr,rfl,q1,q2⟩:=HS.out (by omega)
 obtain ⟨z0,k2⟩:=q2 k hlt
 have z1:(o+k * 3+3≤row.size)=True:=xN z0
 have hbw:=a04 q1 hB (a09 q1)
 clear q1 q2 z0
 try dsimp only at k2
 rw [a8s hlt default] at hP
 have HP:=zA hP
 clear hP
 generalize rs.getD k default=r at *
 have k3:row.extract (o+k * 3) (o+k * 3+3)=#[.int .i64 r.every,.int .i64 r.rest,.bool r.yes]:=k2
 clear k2
 by_cases hok:r.ok=true;rotate_left
 ·have HN:Hid (Zn.period 1 rs=none):=zA (by rw [HP.out,Zn.a3e,zS (fun h=>hok h.1)])
  have hB2:=hB.alloc hB.size (.cells #[r.every,r.rest,.bool r.yes] 95)
  obtain ⟨re,rr,ry⟩:=r
  have hok':re < 1∨400 < re∨rr < 0∨re≤rr:=by
   simp only [Zn.LR.ok,zN,zM] at hok;omega
  clear HP hok
  by_cases c1:re < 1
  ·repeat'(first|go_skip|go_guarded|go_step|go_upon)
   go_returns;exact ⟨by rw [aly.out,HN.out];rfl,hB2⟩
  by_cases c2:400 < re
  ·repeat'(first|go_skip|go_guarded|go_step|go_upon)
   go_returns;exact ⟨by rw [aly.out,HN.out];rfl,hB2⟩
  by_cases c3:rr < 0
  ·repeat'(first|go_skip|go_guarded|go_step|go_upon)
   go_returns;exact ⟨by rw [aly.out,HN.out];rfl,hB2⟩
  have c4:re≤rr:=by omega
  repeat'(first|go_skip|go_guarded|go_step|go_upon)
  go_returns
  exact ⟨by rw [aly.out,HN.out];rfl,hB2⟩
 have ho:=hok
 simp only [Zn.LR.ok,zN,zM] at ho
 obtain ⟨o1,o2,o3,o4⟩:=ho
 obtain ⟨re,rr,ry⟩:=r
 dsimp only at o1 o2 o3 o4
 obtain ⟨E,rfl⟩ : ∃ E:Nat,re=(E:Int):=⟨re.toNat,by omega⟩
 have hC7:=hC.alloc hC.size (.cells #[(E:Int),rr,.bool ry] 95)
 have b7:obj (wr.alloc (.cells #[(E:Int),rr,.bool ry] 95)) wr.heap.size=some (.cells #[(E:Int),rr,.bool ry] 95 (0,0)):=a05 _ _ _ rfl
 have t1 : ¬ (E:Int) < 1:=by omega
 have t2 : ¬ (400:Int) < (E:Int):=by omega
 have t3 : ¬ rr < 0:=by omega
 have t4 : ¬ (E:Int)≤rr:=by omega
 have HG:=zA (fun Wq:World=>@agu Wq Y E (by omega) (by omega))
 have HQ:=zA (Zn.a3e Y ⟨(E:Int),rr,ry⟩ (rs.drop (k+1)))
 have hE:((⟨(E:Int),rr,ry⟩:Zn.LR).every.toNat)=E:=Int.toNat_natCast E
 rw [hE] at HQ
 have hl1:1≤Nat.lcm Y E:=Nat.lcm_pos y1 (by omega)
 have hg1:1≤Nat.gcd Y E:=Nat.gcd_pos_of_pos_left E (by omega)
 have hga:Nat.gcd Y E≤Y:=Nat.gcd_le_left E (by omega)
 have hll:Nat.lcm Y E=Y / Nat.gcd Y E * E:=by unfold Nat.lcm;rw [Nat.div_mul_right_comm (Nat.gcd_dvd_left Y E)]
 have hdl:Y / Nat.gcd Y E≤Y:=vY _ _
 obtain ⟨D,hD⟩ : ∃ D,Y / Nat.gcd Y E=D:=⟨_,rfl⟩
 have hM3:Nat.lcm Y E≤400 * 400:=by rw [hll,hD];exact Nat.mul_le_mul (by omega) (by omega)
 generalize hM:Nat.lcm Y E=M at *
 generalize Nat.gcd Y E=G at *
 have r0:(G:Int)≠0:=by omega
 have r1:Int.tdiv (Y:Int) (G:Int)=(D:Int):=by rw [xA (by omega),← hD];rfl
 have r2:IntKind.wrap .i64 (D:Int)=(D:Int):=wrap_in (by omega) (by omega)
 have r3:(D:Int) * (E:Int)=(M:Int):=by rw [hll,hD];simp
 have r4:IntKind.wrap .i64 (M:Int)=(M:Int):=wrap_in (by omega) (by omega)
 clear hE o1 o2 o3 o4 hM hll hD hga hdl hM3 hg1
 have l7:wr.heap.size < (wr.alloc (.cells #[(E:Int),rr,.bool ry] 95)).heap.size:=a09 b7
 by_cases hl:M≤400
 ·have HN:Hid (Zn.period 1 rs=Zn.period M (rs.drop (k+1))):=zA (by rw [HP.out,HQ.out,zQ ⟨hok,hl⟩])
  clear HQ HP
  have t5 : ¬ (400:Int) < (M:Int):=by omega
  repeat'(first|go_skip|go_guarded|go_step|go_upon)
  generalize (wr.alloc (.cells #[(E:Int),rr,.bool ry] 95))=w7 at *
  refine a0k 9 [([],fun v _=>v=.int .i64 (Y:Int)),([],fun v _=>v=.int .i64 (Y:Int)),([],fun v _=>v=(.pointer (some ⟨wr.heap.size,0,none⟩))),([2],fun v _=>v=.int .i64 (E:Int)),([1,3],fun v _=>v=.int .i64 (G:Int)),([0,4],fun v _=>v=.int .i64 (D:Int)),([],fun v _=>v=(.pointer (some ⟨wr.heap.size,0,none⟩))),([6],fun v _=>v=.int .i64 (E:Int)),
    ([5,7],fun v _=>v=.int .i64 (M:Int))] (by kernel_rfl) (by kernel_rfl) (by kernel_rfl) ?st ?ob ?_
  case st => intro k v W1 W2 h hb;rcases k with _|_|_|_|_|_|_|_|_|k<;>first | exact h | trivial
  case ob => and_intros<;>first|exact ⟨⟩|(intro vs Wq hW hk;(have q0:=a02 (a04 b7 hW l7) 0);(try simp only [knows,Spec.at',↓zH,↓zG,yL] at hk);simp only [Spec.at',↓zH,↓zG,a00,a03,yy0,yy1,yy2,yy3];(try simp only [hk]);first | ((repeat'(first|go_skip|go_guarded|go_step|go_upon));exact a01 _ rfl (by go_simp) bR rfl) | ((have HX:=zA (HG.out Wq));(repeat' (first | (go_at_call 65;((with_reducible refine (HX.out).mono ?_));rintro e w9 ⟨rfl,hb9⟩;dsimp only)|go_skip|go_guarded|go_step|go_upon));exact a01 _ rfl (by go_simp) hb9 rfl) | fail)
  intro vs W2 hW2 hk;have v8:vs 8=.int .i64 (M:Int):=hk 8 (by decide);clear hk;dsimp only [a1d,List.take,List.drop];simp only [Act.put,zF,zI,zJ];rw [v8];generalize vs 0=q0,vs 1=q1,vs 2=q2,vs 3=q3,vs 4=q4,vs 5=q5,vs 6=q6,vs 7=q7;clear v8;have hC8:=hC7.trans (hW2.mono hC7.size);(repeat'(first|go_skip|go_guarded|go_step|go_upon));exact ⟨⟨k+1,M,by omega,rfl,by go_num,hl1,hl,HN.out,hC8⟩,by simp [intOf];omega⟩
 have HN:Hid (Zn.period 1 rs=none):=zA (by rw [HP.out,HQ.out,zS (fun h=>hl h.2)])
 clear HQ HP
 have t5:(400:Int) < (M:Int):=by omega
 repeat'(first|go_skip|go_guarded|go_step|go_upon)
 generalize (wr.alloc (.cells #[(E:Int),rr,.bool ry] 95))=w7 at *
 refine a0k 9 [([],fun v _=>v=.int .i64 (Y:Int)),([],fun v _=>v=.int .i64 (Y:Int)),([],fun v _=>v=(.pointer (some ⟨wr.heap.size,0,none⟩))),([2],fun v _=>v=.int .i64 (E:Int)),([1,3],fun v _=>v=.int .i64 (G:Int)),([0,4],fun v _=>v=.int .i64 (D:Int)),([],fun v _=>v=(.pointer (some ⟨wr.heap.size,0,none⟩))),([6],fun v _=>v=.int .i64 (E:Int)),
   ([5,7],fun v _=>v=.int .i64 (M:Int))] (by kernel_rfl) (by kernel_rfl) (by kernel_rfl) ?st ?ob ?_
 case st => intro k v W1 W2 h hb;rcases k with _|_|_|_|_|_|_|_|_|k<;>first | exact h | trivial
 case ob => and_intros<;>first|exact ⟨⟩|(intro vs Wq hW hk;(have q0:=a02 (a04 b7 hW l7) 0);(try simp only [knows,Spec.at',↓zH,↓zG,yL] at hk);simp only [Spec.at',↓zH,↓zG,a00,a03,yy0,yy1,yy2,yy3];(try simp only [hk]);first | ((repeat'(first|go_skip|go_guarded|go_step|go_upon));exact a01 _ rfl (by go_simp) bR rfl) | ((have HX:=zA (HG.out Wq));(repeat' (first | (go_at_call 65;((with_reducible refine (HX.out).mono ?_));rintro e w9 ⟨rfl,hb9⟩;dsimp only)|go_skip|go_guarded|go_step|go_upon));exact a01 _ rfl (by go_simp) hb9 rfl) | fail)
 intro vs W2 hW2 hk;have v8:vs 8=.int .i64 (M:Int):=hk 8 (by decide);clear hk;dsimp only [a1d,List.take,List.drop];simp only [Act.put,zF,zI,zJ];rw [v8];generalize vs 0=q0,vs 1=q1,vs 2=q2,vs 3=q3,vs 4=q4,vs 5=q5,vs 6=q6,vs 7=q7;clear v8;have hC8:=hC7.trans (hW2.mono hC7.size);(repeat'(first|go_skip|go_guarded|go_step|go_upon));go_returns;exact ⟨by rw [aly.out,HN.out];rfl,w1B.trans (hC8.mono w1B.size)⟩
end Go.Proofs.YtppjleebbjipbaaGreat
