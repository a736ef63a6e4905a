/-
  kalendsref13: within, Cycle.
-/
import Derived.Test.YtppjleebbjipbaaGreatQkZns
set_option linter.all false
namespace Go.Proofs.YtppjleebbjipbaaGreat
open Go.RowKit
set_option maxRecDepth 20000
set_option maxHeartbeats 8000000
theorem a2e {W:World} {n l:Int} (h0:0≤l) (h1:l < 4611686018427387904) :
  Calls Tryz.prog 57 #[.int .i64 n,.int .i64 l] W fun e w'=>e=.returned (.bool (decide (-l≤n∧n≤l)))∧W=w':=by
 have w0:=zWI (-l)
 go_enter Tryz.func57,Tryz.ntmps57
 by_cases a : -l≤n
 ·by_cases b:n≤l
  ·have hx:decide (-l≤n∧n≤l)=true:=zV ⟨a,b⟩
   rw [hx]
   repeat'(first|go_skip|go_guarded|go_step|go_upon)
   go_ret;exact ⟨rfl,rfl⟩
  have hx:decide (-l≤n∧n≤l)=false:=zW (fun h=>b h.2)
  rw [hx]
  repeat'(first|go_skip|go_guarded|go_step|go_upon)
  go_ret
  exact ⟨rfl,rfl⟩
 have hx:decide (-l≤n∧n≤l)=false:=zW (fun h=>a h.1)
 rw [hx]
 repeat'(first|go_skip|go_guarded|go_step|go_upon)
 go_ret
 exact ⟨rfl,rfl⟩
theorem ab9 {W:World} {z:Zn.a0w} {mv rv tv yv:Value} (hv:a1q W z mv rv tv yv) (hok:z.cal.ok=true) :
  Calls Tryz.prog 49 #[.agg #[z.cal.a08,mv,z.cal.a0l,rv,z.start,tv,z.hor,yv]] W fun e w'=>e=.returned (.int .i64 (Zn.a0s z))∧Below W W w':=by
 have om:=hv.cal.mon.one
 have orr:=hv.cal.rul.one
 have ot:=a1m.one hv.tr
 have oy:=a1m.one hv.yr
 have hon:ones #[z.cal.a08,mv,z.cal.a0l,rv,z.start,tv,z.hor,yv]=true:=a1b om orr ot oy
 have aq5:ones #[z.cal.a08,mv,z.cal.a0l,rv]=true:=a6t om orr
 have b1:obj (W.alloc (.cells #[z.cal.a08,mv,z.cal.a0l,rv,z.start,tv,z.hor,yv] 35)) W.heap.size=some (.cells #[z.cal.a08,mv,z.cal.a0l,rv,z.start,tv,z.hor,yv] 35 (0,0)):=a05 _ _ _ rfl
 have w1B:Below W W (W.alloc (.cells #[z.cal.a08,mv,z.cal.a0l,rv,z.start,tv,z.hor,yv] 35)):=bR.alloc (zD _) _
 have HCY:=zA (ade (hv.cal.below w1B) hok)
 have hds:=Zn.a1v hok z.cal.a5b
 have hy4:=(a1h hok).2.2.2.2
 have hd1:0≤z.cal.days∧z.cal.days≤262400:=by
  have h:z.cal.days=Zn.a0z z.cal z.cal.a5b:=rfl
  omega
 have hdm:Int.tmod z.cal.days 7=z.cal.days % 7:=yE (by omega)
 have wm7:=zWI (z.cal.days % 7)
 have wd7:=zWI (7 * z.cal.days)
 obtain ⟨ya,yc,hyv,_⟩:=hv.yr
 have HC:Hid (Zn.a0s z=if z.a0b.length=0 then 1 else if z.cal.days % 7=0 then z.cal.days else z.cal.days * 7):=zA rfl
 clear hv hok hds hy4
 subst hyv
 go_enter Tryz.func49,Tryz.ntmps49
 by_cases hy0:z.a0b.length=0
 ·have t0:((z.a0b.length:Int) == 0)=true:=by simp [hy0]
  rw [zQ hy0] at HC
  clear hy0
  repeat'(first|go_skip|go_guarded|go_step|go_upon)
  go_ret
  exact ⟨by rw [HC.out];rfl,w1B⟩
 have t0:((z.a0b.length:Int) == 0)=false:=by simpa using hy0
 rw [zS hy0] at HC
 clear hy0
 by_cases h7:z.cal.days % 7=0
 ·have t7:(z.cal.days % 7 == 0)=true:=by simp [h7]
  rw [zQ h7] at HC
  clear h7
  repeat' (first | (go_at_call 28;((with_reducible refine (HCY.out).mono ?_));rintro e w3 ⟨rfl,hb3⟩;have w3B:=w1B.trans (hb3.mono w1B.size);dsimp only)|go_skip|go_guarded|go_step|go_upon)
  go_ret
  exact ⟨by rw [HC.out];rfl,w3B⟩
 have t7:(z.cal.days % 7 == 0)=false:=by simpa using h7
 rw [zS h7] at HC
 clear h7
 repeat' (first | (go_at_call 28;((with_reducible refine (HCY.out).mono ?_));rintro e w3 ⟨rfl,hb3⟩;have w3B:=w1B.trans (hb3.mono w1B.size);dsimp only)|go_skip|go_guarded|go_step|go_upon)
 go_ret
 exact ⟨by rw [HC.out,Int.mul_comm];rfl,w3B⟩
end Go.Proofs.YtppjleebbjipbaaGreat
namespace Go.Proofs.YtppjleebbjipbaaGreat
open Go.RowKit
set_option maxRecDepth 20000
set_option maxHeartbeats 8000000
theorem ahm {W:World} {c:Zn.Cal} {mv rv:Value} (hv:a8w W c mv rv) (hok:c.ok=true) {b y:Int} (hb0:0≤b) (hb1:b≤4000000000) {r:Zn.YR} {m:Nat} (hm:r.mon=(m:Int)+1) (hmc:m < c.a0g.length) (hw0:1≤r.wk) (hw1:r.wk≤5) (hd0:0≤r.wd) (hd1:r.wd≤6) :
  Calls Tryz.prog 105 #[.agg #[c.a08,mv,c.a0l,rv],.int .i64 b,.int .i64 y,.agg #[r.mon,r.wk,r.wd,r.mn,r.off]] W fun e w'=>(∃ d,e=.returned (.tuple #[.int .i64 d,.bool (Zn.a8x c b y r).2])∧((Zn.a8x c b y r).2=true→d=(Zn.a8x c b y r).1))∧Below W W w':=by
 have hmo:=(a1h hok).2.1
 have h16:=(a1h hok).1.m16
 have hon:ones #[c.a08,mv,c.a0l,rv]=true:=a6t hv.mon.one hv.rul.one
 have hy5:ones #[r.mon,r.wk,r.wd,r.mn,r.off]=true:=by simp [ones,a0n]
 have HE:=zA (fun (f e:Int) hf he=>ahy (c:=c) (b:=b) (y:=y) hm (f:=f) (e:=e) hf he)
 have b1:obj ((W.alloc (.cells #[c.a08,mv,c.a0l,rv] 31)).alloc (.cells #[r.mon,r.wk,r.wd,r.mn,r.off] 84)) W.heap.size=some (.cells #[c.a08,mv,c.a0l,rv] 31 (0,0)):=a06 (a05 _ _ _ rfl) _
 have b2:obj ((W.alloc (.cells #[c.a08,mv,c.a0l,rv] 31)).alloc (.cells #[r.mon,r.wk,r.wd,r.mn,r.off] 84)) (W.heap.size+1)=some (.cells #[r.mon,r.wk,r.wd,r.mn,r.off] 84 (0,0)):=a05 _ _ _ (by simp)
 have w2B:Below W W ((W.alloc (.cells #[c.a08,mv,c.a0l,rv] 31)).alloc (.cells #[r.mon,r.wk,r.wd,r.mn,r.off] 84)):=(bR.alloc (zD _) _).alloc (by simp) _
 have HML:=zA (fun (W':World) (hb:Below W W W') (k:Nat) (hk:k < c.a0g.length)=>adb (hv.below hb) hok y hk)
 have HS:=zA (Zn.a8q hmo y)
 have HP:=zA (fun m hm=>Zn.a5s hmo y (m:=m) hm)
 have HN:Hid (∀ m,Zn.a6z c y (m+1)=Zn.a6z c y m+Zn.a97 c y m):=zA fun _=>rfl
 have HM0:=zA hm
 clear hmo hok hv hm
 go_enter Tryz.func105,Tryz.ntmps105
 repeat'(first|go_skip|go_guarded|go_step|go_upon)
 go_loopw [10,11] (fun x i wr => ∃ k:Nat,k≤m∧x=.int .i64 (b+Zn.a6z c y k)∧i=.int .i64 ((k:Int)+1)∧Below ((W.alloc (.cells #[c.a08,mv,c.a0l,rv] 31)).alloc (.cells #[r.mon,r.wk,r.wd,r.mn,r.off] 84)).heap.size ((W.alloc (.cells #[c.a08,mv,c.a0l,rv] 31)).alloc (.cells #[r.mon,r.wk,r.wd,r.mn,r.off] 84)) wr) (fun _ i _=>((m:Int)+1 - intOf i).toNat)
 case atStart=>exact ⟨0,by omega,by simp [Zn.a6z],rfl,zC _ _⟩
 obtain ⟨k,hk,rfl,rfl,hC⟩:=hrel
 have hB:=w2B.trans (hC.mono w2B.size)
 have c1:=a0a b1 hC
 have c2:=a0a b2 hC
 have c20:=a02 c2 0
 have hs:=HS.out k (by omega)
 have hp:=HP.out k (by omega)
 have HX:=zA (HML.out _ hB k (by omega))
 have HQ:=zA (HN.out k)
 by_cases hlt:k < m
 ·have i1:(k:Int)+1 < r.mon:=by have:=HM0.out;omega
  generalize Zn.a6z c y k=s at *
  generalize Zn.a97 c y k=l at *
  have t1:=zWI (b+s+l)
  have t2:=zWI ((k:Int)+1+1)
  repeat' (first | (go_at_call 140;((with_reducible refine (HX.out).mono ?_));rintro e w5 ⟨rfl,hb5⟩;have hC5:=hC.trans (hb5.mono hC.size);have c52:=a02 (a0a c2 hb5) 2;have c51:=a02 (a0a c2 hb5) 1;dsimp only)|go_skip|go_guarded|go_step|go_upon)
  exact ⟨⟨k+1,by omega,by rw [HQ.out,Int.add_assoc],by simp,hC5⟩,by simp [intOf];omega⟩
 have i1 : ¬ (k:Int)+1 < r.mon:=by have:=HM0.out;omega
 obtain rfl:k=m:=by omega
 obtain ⟨f,hf⟩ : ∃ f,f=b+Zn.a6z c y k:=⟨_,rfl⟩
 obtain ⟨e,he⟩ : ∃ e,e=f+Zn.a97 c y k:=⟨_,rfl⟩
 have HZ:=zA (HE.out f e hf he)
 rw [← hf]
 generalize Zn.a6z c y k=s at *
 generalize hll:Zn.a97 c y k=l at *
 have t0:f+l=e:=he.symm
 have hfb:0≤f∧f≤5000000000:=by omega
 have hef:f+1≤e∧e≤f+41:=by omega
 have t1:=zWI e
 have HLL:=zA hll
 have HC0:=zA hC
 clear hf he hs hp HX HQ hB hll
 repeat'(first|go_skip|go_guarded|go_step|go_upon)
 clear i1 c1 c2 c20 hC
 go_loopw [12,13,14] (fun n l d wr => ∃ (q:Nat) (dl dd:Int),n=.int .i64 q∧l=.int .i64 dl∧d=.int .i64 dd∧f≤dd∧dd≤e∧(q=0→dd≤f+(r.wd - f) % 7∧dl = -1)∧(0 < q→dl=f+(r.wd - f) % 7+7 * ((q:Int) - 1)∧dl < dd∧dd≤dl+7)∧(r.wk < 5→(q:Int) < r.wk)∧Below ((W.alloc (.cells #[c.a08,mv,c.a0l,rv] 31)).alloc (.cells #[r.mon,r.wk,r.wd,r.mn,r.off] 84)).heap.size ((W.alloc (.cells #[c.a08,mv,c.a0l,rv] 31)).alloc (.cells #[r.mon,r.wk,r.wd,r.mn,r.off] 84)) wr) (fun _ _ d _=>(e - intOf d).toNat)
 case atStart=>exact ⟨0,-1,f,rfl,rfl,rfl,by omega,by omega,fun _=>⟨by omega,rfl⟩,fun h=>absurd h (by omega),fun _=>by omega,HC0.out⟩
 obtain ⟨q,dl,dd,rfl,rfl,rfl,hd1',hd2',hq0,hqp,hqw,hC⟩:=hrel
 have hB:=w2B.trans (hC.mono w2B.size)
 have c1:=a0a b1 hC
 have c2:=a0a b2 hC
 have c20:=a02 c2 0
 have HX:=zA (HML.out _ hB k (by omega))
 rw [HLL.out,← HM0.out] at HX
 have hq6:(q:Int)≤7:=by
  rcases yM q with h | h
  ·omega
  have:=hqp h;omega
 have HQ:=zA (And.intro hq0 (And.intro hqp hqw))
 by_cases hlt:dd < e
 ·have wdt:Int.tmod dd 7=dd % 7:=yE (by omega)
  have wdm:=zWI (dd % 7)
  have wdd:=zWI (dd+1)
  have wqq:IntKind.wrap .i64 ((q:Int)+1)=((q+1:Nat):Int):=by rw [wrap_in]<;>omega
  by_cases hhit:dd % 7=r.wd;rotate_left
  ·have th:(dd % 7 == r.wd)=false:=by simpa using hhit
   have HHIT:=zA hhit;clear hhit hq0 hqp hqw
   repeat' (first | (go_at_call 140;((with_reducible refine (HX.out).mono ?_));rintro e w5 ⟨rfl,hb5⟩;have hC5:=hC.trans (hb5.mono hC.size);have c52:=a02 (a0a c2 hb5) 2;have c51:=a02 (a0a c2 hb5) 1;dsimp only)|go_skip|go_guarded|go_step|go_upon)
   exact ⟨⟨q,dl,dd+1,rfl,rfl,rfl,by omega,by omega,fun h=>⟨by have:=(HQ.out.1 h).1;have:=HHIT.out;omega,(HQ.out.1 h).2⟩,fun h=>⟨(HQ.out.2.1 h).1,by have:=(HQ.out.2.1 h).2.1;omega,by have:=HQ.out.2.1 h;have:=HHIT.out;omega⟩,HQ.out.2.2,hC5⟩,by simp [intOf];omega⟩
  have th:(dd % 7 == r.wd)=true:=by simp [hhit]
  have hnx:dd=f+(r.wd - f) % 7+7 * (q:Int):=by
   rcases yM q with h | h
   ·have:=hq0 h;omega
   have:=hqp h;omega
  have HNX:=zA hnx
  clear hnx hhit hq0 hqp hqw
  by_cases hwk:((q+1:Nat):Int)=r.wk
  ·have tw:(((q+1:Nat):Int) == r.wk)=true:=by simp [hwk]
   have HWK:=zA hwk;clear hwk;by_cases h5:r.wk < 5
   ·have HYD:Hid (Zn.a8x c b y r=(dd,true)):=zA (by
     have h1:=HNX.out;have h2:=HWK.out
     rw [HZ.out,zS (by omega),show f+(r.wd - f) % 7+7 * (r.wk - 1)=dd by omega,zV hlt])
    repeat' (first | (go_at_call 140;((with_reducible refine (HX.out).mono ?_));rintro e w5 ⟨rfl,hb5⟩;have hC5:=hC.trans (hb5.mono hC.size);have c52:=a02 (a0a c2 hb5) 2;have c51:=a02 (a0a c2 hb5) 1;dsimp only)|go_skip|go_guarded|go_step|go_upon)
    go_returns;exact ⟨⟨dd,by rw [HYD.out];rfl,fun _=>by rw [HYD.out]⟩,w2B.trans (hC5.mono w2B.size)⟩
   repeat' (first | (go_at_call 140;((with_reducible refine (HX.out).mono ?_));rintro e w5 ⟨rfl,hb5⟩;have hC5:=hC.trans (hb5.mono hC.size);have c52:=a02 (a0a c2 hb5) 2;have c51:=a02 (a0a c2 hb5) 1;dsimp only)|go_skip|go_guarded|go_step|go_upon)
   refine ⟨⟨q+1,dd,dd+1,?_,rfl,rfl,by omega,by omega,fun h=>absurd h (by omega),fun _=>⟨by have:=HNX.out;omega,by omega,by omega⟩,fun h=>absurd h h5,hC5⟩,by simp [intOf];omega⟩
   first | rfl | (rw [HWK.out];rfl) | (congr 1;exact HWK.out.symm) | (simp;done) | (have:=HWK.out;congr 1;omega)
  have tw:(((q+1:Nat):Int) == r.wk)=false:=by simpa using hwk
  have HWK:=zA hwk
  clear hwk
  repeat' (first | (go_at_call 140;((with_reducible refine (HX.out).mono ?_));rintro e w5 ⟨rfl,hb5⟩;have hC5:=hC.trans (hb5.mono hC.size);have c52:=a02 (a0a c2 hb5) 2;have c51:=a02 (a0a c2 hb5) 1;dsimp only)|go_skip|go_guarded|go_step|go_upon)
  refine ⟨⟨q+1,dd,dd+1,?_,rfl,rfl,by omega,by omega,fun h=>absurd h (by omega),fun _=>⟨by have:=HNX.out;omega,by omega,by omega⟩,fun h=>by have:=HWK.out;have:=HQ.out.2.2 h;omega,hC5⟩,by simp [intOf];omega⟩
  first | rfl | go_num | (simp;done)
 obtain rfl:dd=e:=by omega
 clear hq0 hqp hqw
 by_cases h5:r.wk=5;rotate_left
 ·have tw:(r.wk == 5)=false:=by simpa using h5
  have HYD:Hid ((Zn.a8x c b y r).2=false):=zA (by
   have h1:=HQ.out.2.2 (by omega);rw [HZ.out,zS h5];refine zW ?_
   rcases yM q with h | h
   ·have:=HQ.out.1 h;omega
   ·have:=HQ.out.2.1 h;omega)
  clear h5
  repeat' (first | (go_at_call 140;((with_reducible refine (HX.out).mono ?_));rintro e w5 ⟨rfl,hb5⟩;have hC5:=hC.trans (hb5.mono hC.size);have c52:=a02 (a0a c2 hb5) 2;have c51:=a02 (a0a c2 hb5) 1;dsimp only)|go_skip|go_guarded|go_step|go_upon)
  go_returns
  exact ⟨⟨dl,by rw [HYD.out];rfl,fun h=>by rw [HYD.out] at h;cases h⟩,w2B.trans (hC5.mono w2B.size)⟩
 have tw:(r.wk == 5)=true:=by simp [h5]
 by_cases hl0:0≤dl
 ·have HYD:Hid (Zn.a8x c b y r=(dl,true)):=zA (by
   have hq:0 < q:=by
    rcases yM q with h | h
    ·have:=HQ.out.1 h;omega
    ·exact h
   have h1:=HQ.out.2.1 hq
   rw [HZ.out,zQ h5,show dd - 1 - (dd - 1 - r.wd) % 7=dl by omega,zV (by omega)])
  clear h5
  repeat' (first | (go_at_call 140;((with_reducible refine (HX.out).mono ?_));rintro e w5 ⟨rfl,hb5⟩;have hC5:=hC.trans (hb5.mono hC.size);have c52:=a02 (a0a c2 hb5) 2;have c51:=a02 (a0a c2 hb5) 1;dsimp only)|go_skip|go_guarded|go_step|go_upon)
  go_returns
  exact ⟨⟨dl,by rw [HYD.out];rfl,fun _=>by rw [HYD.out]⟩,w2B.trans (hC5.mono w2B.size)⟩
 have HYD:Hid ((Zn.a8x c b y r).2=false):=zA (by
  have hq:q=0:=by
   rcases yM q with h | h
   ·exact h
   ·have:=HQ.out.2.1 h;omega
  have h1:=HQ.out.1 hq
  rw [HZ.out,zQ h5]
  exact zW (by omega))
 clear h5
 repeat' (first | (go_at_call 140;((with_reducible refine (HX.out).mono ?_));rintro e w5 ⟨rfl,hb5⟩;have hC5:=hC.trans (hb5.mono hC.size);have c52:=a02 (a0a c2 hb5) 2;have c51:=a02 (a0a c2 hb5) 1;dsimp only)|go_skip|go_guarded|go_step|go_upon)
 go_returns
 exact ⟨⟨dl,by rw [HYD.out];rfl,fun h=>by rw [HYD.out] at h;cases h⟩,w2B.trans (hC5.mono w2B.size)⟩
end Go.Proofs.YtppjleebbjipbaaGreat
namespace Zn
def a1c (n:Nat):Int:=[0,60,120,-90,30,1080,-1080,90].getD (n % 8) 0
end Zn
namespace Go.Proofs.YtppjleebbjipbaaGreat
open Go.RowKit
set_option maxRecDepth 20000
set_option maxHeartbeats 8000000
theorem a6o {W:World} {n:Nat} (hn:n < 256) :
  Calls Tryz.prog 53 #[.int .u8 n] W fun e w'=>e=.returned (.int .i64 (Zn.a1c n))∧Below W W w':=by
 have w1B:Below W W (W.alloc (.cells #[(0:Int),(60:Int),(120:Int),(-90:Int),(30:Int),(1080:Int),(-1080:Int),(90:Int)] 3)):=bR.alloc (zD _) _
 have rt:Int.tmod (n:Int) 8=((n % 8:Nat):Int):=by rw [yE (by omega)];omega
 have wr:IntKind.wrap .u8 ((n % 8:Nat):Int)=((n % 8:Nat):Int):=by rw [vI];omega
 unfold Zn.a1c
 have hm:n % 8 < 8:=wJ _ (by omega)
 generalize n % 8=m at *
 have e:(W.alloc (.cells #[(0:Int),(60:Int),(120:Int),(-90:Int),(30:Int),(1080:Int),(-1080:Int),(90:Int)] 3)).cell? ⟨W.heap.size,m,none⟩=some (.int .i64 ([0,60,120,-90,30,1080,-1080,90].getD m 0)):=by
  refine (a02 (a05 _ _ _ rfl) m).trans ?_
  rcases m with _ | _ | _ | _ | _ | _ | _ | _ | m<;>first | rfl | omega
 have i1:(m:Int) < 8:=by omega
 have i2 : ¬ (m:Int) < 0:=by omega
 generalize [0,60,120,-90,30,1080,-1080,90].getD m (0:Int)=v at *
 go_enter Tryz.func53,Tryz.ntmps53
 repeat'(first|go_skip|go_guarded|go_step|go_upon)
 go_ret
 exact ⟨rfl,w1B⟩
end Go.Proofs.YtppjleebbjipbaaGreat
namespace Zn
def a4w (l:List Tr) (cyc t:Int):Option Tr :=
 if l.length=0 then none else some (yAt l cyc (turns (l.getD 0 default).tm t cyc) (a2y l cyc (turns (l.getD 0 default).tm t cyc) t))
end Zn
namespace Go.Proofs.YtppjleebbjipbaaGreat
open Go.RowKit
set_option maxRecDepth 20000
set_option maxHeartbeats 8000000
theorem af8 {W:World} {v:Value} {l:List Zn.Tr} (hv:a2b W v l) (hs:Zn.a8u l) (hl:l.length≤10000000) {cyc t:Int} (c0:0 < cyc) (c1:cyc≤10000000) (ht0 : -9007199254740992≤t) (ht1:t≤9007199254740992)
  (hb:∀ i,i < l.length→-2199023255552≤(l.getD i default).tm∧(l.getD i default).tm≤2199023255552) :
  Calls Tryz.prog 68 #[v,.int .i64 cyc,.int .i64 t] W fun e w'=>e=.returned (aha (Zn.a4w l cyc t))∧Below W W w':=by
 have w1B:Below W W (W.alloc (.cells #[(0:Int),(0:Int)] 57)):=bR.alloc (zD _) _
 have z1b:obj (W.alloc (.cells #[(0:Int),(0:Int)] 57)) W.heap.size=some (.cells #[(0:Int),(0:Int)] 57 (0,0)):=a05 _ _ _ rfl
 have HBD:=zA hb
 obtain ⟨ta,tc,rfl⟩:=a2b.ajx hv
 go_enter Tryz.func68,Tryz.ntmps68
 by_cases hl0:l.length=0
 ·have t0:((l.length:Int) == 0)=true:=by simp [hl0]
  have HR:Hid (Zn.a4w l cyc t=none):=zA (by unfold Zn.a4w;rw [zQ hl0])
  clear hl0
  repeat'(first|go_skip|go_guarded|go_step|go_upon)
  refine yO (a0q rfl _ _ W.heap.size 57 _ (0,0) _ (.bool false) rfl z1b Tryz.underlying57 rfl (by kernel_rfl) rfl) rfl ?_
  exact ⟨by rw [HR.out];rfl,w1B⟩
 have t0:((
       l.length:Int) == 0)=false:=by simpa using hl0
 have t1:(0:Int) < (l.length:Int):=by omega
 obtain ⟨tb,tof,tc',a5d,TT',tfr,htv,tq1,tq2⟩:=a2b.open hv (by omega)
 obtain ⟨rfl,rfl⟩:ta=some ⟨tb,tof,none⟩∧tc=tc':=by injection htv with a b c;exact ⟨a,c⟩
 have e0r:a5d[tof]? = some (.int .i64 (l.getD 0 default).tm):=by have:=a0y 0 (tq2 0 (by omega)).2 (by simp);simpa using this
 have e00:=(a02 (a0a tq1 w1B) tof).trans e0r
 have hb0:=hb 0 (by omega)
 have wcm:=zWI (cyc * 1440)
 obtain ⟨r,hrr⟩ : ∃ r,r=Zn.turns (l.getD 0 default).tm t cyc:=⟨_,rfl⟩
 have hr0:=Zn.a2d (y0:=(l.getD 0 default).tm) (t:=t) c0
 have hrM:=Zn.a4r (y0:=(l.getD 0 default).tm) (t:=t) c0
 have hrd:r=(if t - (l.getD 0 default).tm < 0 then 0 else t - (l.getD 0 default).tm) / (cyc * 1440):=hrr
 rw [← hrr] at hr0 hrM
 have hrM2:r * (cyc * 1440)≤18014398509481984:=by split at hrM<;>omega
 have hrM0:0≤r * (cyc * 1440):=xX hr0 (by omega)
 have hrle:r≤18014398509481984:=by
  have:r * 1≤r * (cyc * 1440):=Int.mul_le_mul_of_nonneg_left (by omega) hr0
  omega
 clear htv hb
 generalize hy0:(l.getD 0 default).tm=y0 at *
 have HY0:=zA hy0
 clear hy0 hrM
 rw [← HY0.out] at hrr
 by_cases hty:y0 < t
 ·have wty:=zWI (t - y0)
  rw [zS (by omega)] at hrd
  have rz:cyc * 1440≠0:=by omega
  have rtd:Int.tdiv (t - y0) (cyc * 1440)=r:=by rw [xA (by omega)];exact hrd.symm
  have wrr:=zWI r
  clear hrd
  have HY:=zA (fun p=>Zn.a9t (ys:=l) hs c0 (by omega) (t:=t) hrr p)
  have hp0:=Zn.a5m l cyc r t
  have HAF:Hid (Zn.a4w l cyc t=some (Zn.yAt l cyc r (Zn.a2y l cyc r t))):=zA (by unfold Zn.a4w;rw [zS hl0,← hrr])
  generalize Zn.a2y l cyc r t=p0 at *
  have HRR:=zA hrr
  clear hrr
  repeat'(first|go_skip|go_guarded|go_step|go_upon)
  go_loopw [10] (fun kk wr => ∃ q:Nat,q≤1∧q * l.length≤p0∧kk=.int .i64 (r+(q:Int))∧obj wr W.heap.size=some (.cells #[(0:Int),(0:Int)] 57 (0,0))∧Below W W wr) (fun kk _=>(r+2 - intOf kk).toNat)
  case atStart=>exact ⟨0,by omega,by omega,by first | (simp;done) | (rw [HR0.out];simp;done),z1b,w1B⟩
  case round =>
   obtain ⟨q,hq,hqp,rfl,hz,hB⟩:=hrel
   repeat'(first|go_skip|go_guarded|go_step|go_upon)
   go_loopw [11] (fun i wr => ∃ k:Nat,k≤l.length∧q * l.length+k≤p0∧i=.int .i64 k∧obj wr W.heap.size=some (.cells #[(0:Int),(0:Int)] 57 (0,0))∧Below W W wr) (fun i _=>((l.length:Int) - intOf i).toNat)
   case atStart=>exact ⟨0,by omega,by omega,rfl,hz,hB⟩
   case round =>
    clear hz hB;obtain ⟨k,hk,hkp,rfl,hz,hB⟩:=hrel;by_cases hlk:k < l.length
    ·have i1:(k:Int) < (l.length:Int):=by omega
     have ek0:=a0y 0 (tq2 k hlk).2 (by simp);have ek1:=a0y 1 (tq2 k hlk).2 (by simp);have hxb:=HBD.out k hlk;have tw:=a04 tq1 hB (a09 tq1);have lt:=a09 tw;have lz:=a09 hz;have HYE:=zA (ahz (ys:=l) (cyc:=cyc) (r:=r) (q:=q) (k:=k) hlk);have HYP:=zA (HY.out (q * l.length+k));rw [HYE.out] at HYP
     have hqM:0≤(q:Int) * (cyc * 1440)∧(q:Int) * (cyc * 1440)≤1 * (10000000 * 1440):=⟨xX (by omega) (by omega),Int.mul_le_mul (by omega) (by omega) (by omega) (by omega)⟩
     have hbe:(r+(q:Int)) * (cyc * 1440)=r * (cyc * 1440)+(q:Int) * (cyc * 1440):=wI _ _ _;generalize l.getD k default=x at *;generalize hbb:(r+(q:Int)) * (cyc * 1440)=b at *;(have hb9:0≤b∧b≤40000000000000000:=by omega);clear hbe hqM;have wb:=zWI b;have wxb:=zWI (x.tm+b);have ek0:a5d[tof+k * 2]? = some (.int .i64 x.tm):=ek0;have ek1:a5d[tof+k * 2+1]? = some (.int .i64 x.off):=ek1;have e0:=(a02 tw (tof+k * 2)).trans ek0;(have hon:ones #[(x.tm+b:Int),x.off]=true:=by simp [ones,a0n]);by_cases hx:t≤x.tm+b
     ·have HR:Hid (Zn.a4w l cyc t=some ⟨x.tm+b,x.off⟩):=zA (by
       have h1 : ¬ q * l.length+k < p0:=fun h=>by have:=HYP.out.2 h;dsimp only at this;omega
       rw [HAF.out,show p0=q * l.length+k by omega,HYE.out])
      repeat'(first|go_skip|go_guarded|go_step|go_upon)
      refine a0k 15 [([],fun v _=>v=.slice (some ⟨tb,tof,none⟩) l.length tc),([],fun v _=>v=.int .i64 (k:Nat)),([0,1],fun v _=>v=.pointer (some ⟨tb,tof+k * 2,none⟩)),([2],fun v _=>v=.pointer (some ⟨tb,tof+k * 2,none⟩)),([3],fun v _=>v=.int .i64 x.tm),([],fun v _=>v=.int .i64 (r+(q:Nat))),([],fun v _=>v=.int .i64 (cyc * 1440)),([5,6],fun v _=>v=.int .i64 b),([4,7],fun v _=>v=.int .i64 (x.tm+b)),([],fun v _=>v=.slice (some ⟨tb,tof,none⟩) l.length tc),([],fun v _=>v=.int .i64 (k:Nat)),([9,10],fun v _=>v=.pointer (some ⟨tb,tof+k * 2,none⟩)),([11],fun v _=>v=.pointer (some ⟨tb,tof+k * 2+1,none⟩)),([12],fun v _=>v=.int .i64 x.off),
        ([8,13],fun v _=>v=.agg #[(x.tm+b:Int),x.off])] (by kernel_rfl) (by kernel_rfl) (by kernel_rfl) ?st ?ob ?tl
      case st => intro k v W1 W2 h hb;rcases k with _|_|_|_|_|_|_|_|_|_|_|_|_|_|_|k<;>first | exact h | trivial
      case ob => and_intros<;>first|exact ⟨⟩|(intro vs Wq hW hk;(have q0:=(a02 (a04 tw hW lt) (tof+k * 2)).trans ek0);(have q1:=(a02 (a04 tw hW lt) (tof+k * 2+1)).trans ek1);(try simp only [knows,Spec.at',↓zH,↓zG,yL] at hk);simp only [Spec.at',↓zH,↓zG,a00,a03,yy0,yy1,yy2,yy3];(try simp only [hk]);first | ((repeat'(first|go_skip|go_guarded|go_step|go_upon));exact a01 _ rfl (by go_simp) bR rfl))
      case tl => intro vs W2 hW2 hk;have v14:vs 14=.agg #[(x.tm+b:Int),x.off]:=hk 14 (by decide);clear hk;dsimp only [a1d,List.take,List.drop];simp only [Act.put,zF,zI,zJ];rw [v14];generalize vs 0=p0,vs 1=p1,vs 2=p2,vs 3=p3,vs 4=p4,vs 5=p5,vs 6=p6,vs 7=p7,vs 8=p8,vs 9=p9,vs 10=p10,vs 11=p11,vs 12=p12,vs 13=p13;clear v14;have z2:=a04 hz hW2 lz;have h2:=hB.trans (hW2.mono hB.size);(repeat'(first|go_skip|go_guarded|go_step|go_upon));refine yO (a0q rfl _ _ W.heap.size 57 _ (0,0) _ (.bool true) rfl (xB _ _ _ _ _ _ z2) Tryz.underlying57 rfl (by kernel_rfl) rfl) rfl ?_;exact ⟨by rw [HR.out];rfl,yX h2 (by omega) _⟩
     ·have hlt:q * l.length+k < p0:=HYP.out.1 (by dsimp only;omega)
      have HLT:=zA hlt;clear hlt
      repeat'(first|go_skip|go_guarded|go_step|go_upon)
      exact ⟨⟨k+1,by omega,by have:=HLT.out;omega,by go_num,hz,hB⟩,by simp [intOf];omega⟩
    ·have i1 : ¬ (k:Int) < (l.length:Int):=by omega
     obtain rfl:k=l.length:=by omega
     have hq0:q=0:=by
      rcases yM q with h | h
      ·exact h
      ·have:l.length≤q * l.length:=Nat.le_mul_of_pos_left _ h
       (have:1≤l.length:=by omega);omega
     have HPP:=zA hkp;subst hq0
     have wr1:IntKind.wrap .i64 (r+((0:Nat):Int)+1)=r+((1:Nat):Int):=by rw [wrap_in]<;>omega
     have wr2:=zWI (r+1)
     repeat'(first|go_skip|go_guarded|go_step|go_upon)
     exact ⟨⟨1,by omega,by have:=HPP.out;omega,by simp,hz,hB⟩,by simp [intOf];omega⟩
 have hr00:r=0:=by
  rw [hrd]
  split
  ·exact Int.zero_ediv _
  ·rw [show t - y0=0 by omega];exact Int.zero_ediv _
 clear hrd
 have HR0:=zA hr00
 clear hr00
 have HY:=zA (fun p=>Zn.a9t (ys:=l) hs c0 (by omega) (t:=t) hrr p)
 have hp0:=Zn.a5m l cyc r t
 have HAF:Hid (Zn.a4w l cyc t=some (Zn.yAt l cyc r (Zn.a2y l cyc r t))):=zA (by unfold Zn.a4w;rw [zS hl0,← hrr])
 generalize Zn.a2y l cyc r t=p0 at *
 have HRR:=zA hrr
 clear hrr
 repeat'(first|go_skip|go_guarded|go_step|go_upon)
 go_loopw [10] (fun kk wr => ∃ q:Nat,q≤1∧q * l.length≤p0∧kk=.int .i64 (r+(q:Int))∧obj wr W.heap.size=some (.cells #[(0:Int),(0:Int)] 57 (0,0))∧Below W W wr) (fun kk _=>(r+2 - intOf kk).toNat)
 case atStart=>exact ⟨0,by omega,by omega,by first | (simp;done) | (rw [HR0.out];simp;done),z1b,w1B⟩
 obtain ⟨q,hq,hqp,rfl,hz,hB⟩:=hrel
 repeat'(first|go_skip|go_guarded|go_step|go_upon)
 go_loopw [11] (fun i wr => ∃ k:Nat,k≤l.length∧q * l.length+k≤p0∧i=.int .i64 k∧obj wr W.heap.size=some (.cells #[(0:Int),(0:Int)] 57 (0,0))∧Below W W wr) (fun i _=>((l.length:Int) - intOf i).toNat)
 case atStart=>exact ⟨0,by omega,by omega,rfl,hz,hB⟩
 clear hz hB
 obtain ⟨k,hk,hkp,rfl,hz,hB⟩:=hrel
 by_cases hlk:k < l.length;rotate_left
 ·have i1 : ¬ (k:Int) < (l.length:Int):=by omega
  obtain rfl:k=l.length:=by omega
  have hq0:q=0:=by
   rcases yM q with h | h
   ·exact h
   ·have:l.length≤q * l.length:=Nat.le_mul_of_pos_left _ h
    (have:1≤l.length:=by omega);omega
  have HPP:=zA hkp
  subst hq0
  have wr1:IntKind.wrap .i64 (r+((0:Nat):Int)+1)=r+((1:Nat):Int):=by rw [wrap_in]<;>omega
  have wr2:=zWI (r+1)
  repeat'(first|go_skip|go_guarded|go_step|go_upon)
  exact ⟨⟨1,by omega,by have:=HPP.out;omega,by simp,hz,hB⟩,by simp [intOf];omega⟩
 have i1:(k:Int) < (l.length:Int):=by omega
 have ek0:=a0y 0 (tq2 k hlk).2 (by simp)
 have ek1:=a0y 1 (tq2 k hlk).2 (by simp)
 have hxb:=HBD.out k hlk
 have tw:=a04 tq1 hB (a09 tq1)
 have lt:=a09 tw
 have lz:=a09 hz
 have HYE:=zA (ahz (ys:=l) (cyc:=cyc) (r:=r) (q:=q) (k:=k) hlk)
 have HYP:=zA (HY.out (q * l.length+k))
 rw [HYE.out] at HYP
 have hqM:0≤(q:Int) * (cyc * 1440)∧(q:Int) * (cyc * 1440)≤1 * (10000000 * 1440):=⟨xX (by omega) (by omega),Int.mul_le_mul (by omega) (by omega) (by omega) (by omega)⟩
 have hbe:(r+(q:Int)) * (cyc * 1440)=r * (cyc * 1440)+(q:Int) * (cyc * 1440):=wI _ _ _
 generalize l.getD k default=x at *
 generalize hbb:(r+(q:Int)) * (cyc * 1440)=b at *
 have hb9:0≤b∧b≤40000000000000000:=by omega
 clear hbe hqM
 have wb:=zWI b
 have wxb:=zWI (x.tm+b)
 have ek0:a5d[tof+k * 2]? = some (.int .i64 x.tm):=ek0
 have ek1:a5d[tof+k * 2+1]? = some (.int .i64 x.off):=ek1
 have e0:=(a02 tw (tof+k * 2)).trans ek0
 have hon:ones #[(x.tm+b:Int),x.off]=true:=by simp [ones,a0n]
 by_cases hx:t≤x.tm+b
 ·have HR:Hid (Zn.a4w l cyc t=some ⟨x.tm+b,x.off⟩):=zA (by
   have h1 : ¬ q * l.length+k < p0:=fun h=>by have:=HYP.out.2 h;dsimp only at this;omega
   rw [HAF.out,show p0=q * l.length+k by omega,HYE.out])
  repeat'(first|go_skip|go_guarded|go_step|go_upon)
  refine a0k 15 [([],fun v _=>v=.slice (some ⟨tb,tof,none⟩) l.length tc),([],fun v _=>v=.int .i64 (k:Nat)),([0,1],fun v _=>v=.pointer (some ⟨tb,tof+k * 2,none⟩)),([2],fun v _=>v=.pointer (some ⟨tb,tof+k * 2,none⟩)),([3],fun v _=>v=.int .i64 x.tm),([],fun v _=>v=.int .i64 (r+(q:Nat))),([],fun v _=>v=.int .i64 (cyc * 1440)),([5,6],fun v _=>v=.int .i64 b),([4,7],fun v _=>v=.int .i64 (x.tm+b)),([],fun v _=>v=.slice (some ⟨tb,tof,none⟩) l.length tc),([],fun v _=>v=.int .i64 (k:Nat)),([9,10],fun v _=>v=.pointer (some ⟨tb,tof+k * 2,none⟩)),([11],fun v _=>v=.pointer (some ⟨tb,tof+k * 2+1,none⟩)),([12],fun v _=>v=.int .i64 x.off),
    ([8,13],fun v _=>v=.agg #[(x.tm+b:Int),x.off])] (by kernel_rfl) (by kernel_rfl) (by kernel_rfl) ?st ?ob ?tl
  case st => intro k v W1 W2 h hb;rcases k with _|_|_|_|_|_|_|_|_|_|_|_|_|_|_|k<;>first | exact h | trivial
  case ob => and_intros<;>first|exact ⟨⟩|(intro vs Wq hW hk;(have q0:=(a02 (a04 tw hW lt) (tof+k * 2)).trans ek0);(have q1:=(a02 (a04 tw hW lt) (tof+k * 2+1)).trans ek1);(try simp only [knows,Spec.at',↓zH,↓zG,yL] at hk);simp only [Spec.at',↓zH,↓zG,a00,a03,yy0,yy1,yy2,yy3];(try simp only [hk]);first | ((repeat'(first|go_skip|go_guarded|go_step|go_upon));exact a01 _ rfl (by go_simp) bR rfl))
  case tl => intro vs W2 hW2 hk;have v14:vs 14=.agg #[(x.tm+b:Int),x.off]:=hk 14 (by decide);clear hk;dsimp only [a1d,List.take,List.drop];simp only [Act.put,zF,zI,zJ];rw [v14];generalize vs 0=p0,vs 1=p1,vs 2=p2,vs 3=p3,vs 4=p4,vs 5=p5,vs 6=p6,vs 7=p7,vs 8=p8,vs 9=p9,vs 10=p10,vs 11=p11,vs 12=p12,vs 13=p13;clear v14;have z2:=a04 hz hW2 lz;have h2:=hB.trans (hW2.mono hB.size);(repeat'(first|go_skip|go_guarded|go_step|go_upon));refine yO (a0q rfl _ _ W.heap.size 57 _ (0,0) _ (.bool true) rfl (xB _ _ _ _ _ _ z2) Tryz.underlying57 rfl (by kernel_rfl) rfl) rfl ?_;exact ⟨by rw [HR.out];rfl,yX h2 (by omega) _⟩
 have hlt:q * l.length+k < p0:=HYP.out.1 (by dsimp only;omega)
 have HLT:=zA hlt
 clear hlt
 repeat'(first|go_skip|go_guarded|go_step|go_upon)
 exact ⟨⟨k+1,by omega,by have:=HLT.out;omega,by go_num,hz,hB⟩,by simp [intOf];omega⟩
end Go.Proofs.YtppjleebbjipbaaGreat
