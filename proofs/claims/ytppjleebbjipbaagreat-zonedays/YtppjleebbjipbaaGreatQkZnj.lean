/-
  Zones in memory; zone.within, yearDay.
-/
import Derived.Test.YtppjleebbjipbaaGreatQkZnh
set_option linter.all false
namespace Zn
def a8x (c:Cal) (b y:Int) (r:YR):Int×Bool :=
 let f:=b+a6z c y (r.mon.toNat - 1)
 let e:=f+a97 c y (r.mon.toNat - 1)
 if r.wk=5 then (e - 1 - (e - 1 - r.wd) % 7,decide (f≤e - 1 - (e - 1 - r.wd) % 7))
 else (f+(r.wd - f) % 7+7 * (r.wk - 1),decide (f+(r.wd - f) % 7+7 * (r.wk - 1) < e))
end Zn
namespace Go.Proofs.YtppjleebbjipbaaGreat
open Go.RowKit
set_option maxRecDepth 20000
set_option maxHeartbeats 8000000
def a7c (t:Zn.Tr):Array Value:=#[.int .i64 t.tm,.int .i64 t.off]
def age (r:Zn.YR):Array Value:=#[.int .i64 r.mon,.int .i64 r.wk,.int .i64 r.wd,.int .i64 r.mn,.int .i64 r.off]
def a2b (W:World) (v:Value) (l:List Zn.Tr):Prop:=a1m W v l.length 2 fun i=>a7c (l.getD i default)
def arw (W:World) (v:Value) (l:List Zn.YR):Prop:=a1m W v l.length 5 fun i=>age (l.getD i default)
structure a1q (W:World) (z:Zn.a0w) (mv rv tv yv:Value):Prop where
 cal:a8w W z.cal mv rv
 tr:a2b W tv z.trans
 yr:arw W yv z.a0b
theorem a1q.below {W W':World} {z:Zn.a0w} {mv rv tv yv:Value} (h:a1q W z mv rv tv yv) (hb:Below W W W'):a1q W' z mv rv tv yv:=⟨h.cal.below hb,a1m.below h.tr hb,a1m.below h.yr hb⟩
theorem a1g {W:World} {n l:Int} (h0:0≤l) (h1:l < 4611686018427387904) :
  Calls Tryz.prog 55 #[.int .i64 n,.int .i64 l] W fun e w'=>e=.returned (.bool (decide (-l≤n∧n≤l)))∧W=w':=by
 have w0:=zWI (-l)
 go_enter Tryz.func55,Tryz.ntmps55
 by_cases a : -l≤n
 ·by_cases b:n≤l
  ·have hx:decide (-l≤n∧n≤l)=true:=zV ⟨a,b⟩
   rw [hx]
   repeat'(first|go_skip|go_guarded|go_step|go_upon)
   go_ret;exact ⟨rfl,rfl⟩
  have hx:decide (-l≤n∧n≤l)=false:=zW (fun h=>b h.2)
  rw [hx]
  repeat'(first|go_skip|go_guarded|go_step|go_upon)
  go_ret
  exact ⟨rfl,rfl⟩
 have hx:decide (-l≤n∧n≤l)=false:=zW (fun h=>a h.1)
 rw [hx]
 repeat'(first|go_skip|go_guarded|go_step|go_upon)
 go_ret
 exact ⟨rfl,rfl⟩
theorem ahy {c:Zn.Cal} {b y:Int} {r:Zn.YR} {m:Nat} (hm:r.mon=(m:Int)+1) {f e:Int} (hf:f=b+Zn.a6z c y m) (he:e=f+Zn.a97 c y m) :
  Zn.a8x c b y r=if r.wk=5 then (e - 1 - (e - 1 - r.wd) % 7,decide (f≤e - 1 - (e - 1 - r.wd) % 7)) else (f+(r.wd - f) % 7+7 * (r.wk - 1),decide (f+(r.wd - f) % 7+7 * (r.wk - 1) < e)):=by
 have:r.mon.toNat - 1=m:=by omega
 unfold Zn.a8x
 rw [this,he,hf]
theorem a7n {W:World} {c:Zn.Cal} {mv rv:Value} (hv:a8w W c mv rv) (hok:c.ok=true) {b y:Int} (hb0:0≤b) (hb1:b≤4000000000) {r:Zn.YR} {m:Nat} (hm:r.mon=(m:Int)+1) (hmc:m < c.a0g.length) (hw0:1≤r.wk) (hw1:r.wk≤5) (hd0:0≤r.wd) (hd1:r.wd≤6) :
  Calls Tryz.prog 133 #[.agg #[c.a08,mv,c.a0l,rv],.int .i64 b,.int .i64 y,.agg #[r.mon,r.wk,r.wd,r.mn,r.off]] W fun e w'=>e=.returned (.tuple #[.int .i64 (Zn.a8x c b y r).1,.bool (Zn.a8x c b y r).2])∧Below W W w':=by
 have hmo:=(a1h hok).2.1
 have h16:=(a1h hok).1.m16
 have hon:ones #[c.a08,mv,c.a0l,rv]=true:=a6t hv.mon.one hv.rul.one
 have hy5:ones #[r.mon,r.wk,r.wd,r.mn,r.off]=true:=by simp [ones,a0n]
 have HE:=zA (fun (f e:Int) hf he=>ahy (c:=c) (b:=b) (y:=y) hm (f:=f) (e:=e) hf he)
 have b1:obj ((W.alloc (.cells #[c.a08,mv,c.a0l,rv] 31)).alloc (.cells #[r.mon,r.wk,r.wd,r.mn,r.off] 84)) W.heap.size=some (.cells #[c.a08,mv,c.a0l,rv] 31 (0,0)):=a06 (a05 _ _ _ rfl) _
 have b2:obj ((W.alloc (.cells #[c.a08,mv,c.a0l,rv] 31)).alloc (.cells #[r.mon,r.wk,r.wd,r.mn,r.off] 84)) (W.heap.size+1)=some (.cells #[r.mon,r.wk,r.wd,r.mn,r.off] 84 (0,0)):=a05 _ _ _ (by simp)
 have w2B:Below W W ((W.alloc (.cells #[c.a08,mv,c.a0l,rv] 31)).alloc (.cells #[r.mon,r.wk,r.wd,r.mn,r.off] 84)):=(bR.alloc (zD _) _).alloc (by simp) _
 have HML:=zA (fun (W':World) (hb:Below W W W') (k:Nat) (hk:k < c.a0g.length)=>a8v (hv.below hb) hok y hk)
 have HS:=zA (Zn.a8q hmo y)
 have HP:=zA (fun m hm=>Zn.a5s hmo y (m:=m) hm)
 have HN:Hid (∀ m,Zn.a6z c y (m+1)=Zn.a6z c y m+Zn.a97 c y m):=zA fun _=>rfl
 have HW:=zA (fun (Wq:World) (n:Int)=>@abw Wq n)
 have HM0:=zA hm
 clear hmo hok hv hm
 go_enter Tryz.func133,Tryz.ntmps133
 repeat'(first|go_skip|go_guarded|go_step|go_upon)
 go_loopw [1,10] (fun x i wr => ∃ k:Nat,k≤m∧x=.int .i64 (b+Zn.a6z c y k)∧i=.int .i64 ((k:Int)+1)∧Below ((W.alloc (.cells #[c.a08,mv,c.a0l,rv] 31)).alloc (.cells #[r.mon,r.wk,r.wd,r.mn,r.off] 84)).heap.size ((W.alloc (.cells #[c.a08,mv,c.a0l,rv] 31)).alloc (.cells #[r.mon,r.wk,r.wd,r.mn,r.off] 84)) wr) (fun _ i _=>((m:Int)+1 - intOf i).toNat)
 case atStart=>exact ⟨0,by omega,by simp [Zn.a6z],rfl,zC _ _⟩
 obtain ⟨k,hk,rfl,rfl,hC⟩:=hrel
 have hB:=w2B.trans (hC.mono w2B.size)
 have c1:=a0a b1 hC
 have c2:=a0a b2 hC
 have c20:=a02 c2 0
 have hs:=HS.out k (by omega)
 have hp:=HP.out k (by omega)
 have HX:=zA (HML.out _ hB k (by omega))
 have HQ:=zA (HN.out k)
 by_cases hlt:k < m
 ·have i1:(k:Int)+1 < r.mon:=by have:=HM0.out;omega
  generalize Zn.a6z c y k=s at *
  generalize Zn.a97 c y k=l at *
  have t1:=zWI (b+s+l)
  have t2:=zWI ((k:Int)+1+1)
  repeat' (first | (go_at_call 164;((with_reducible refine (HX.out).mono ?_));rintro e w5 ⟨rfl,hb5⟩;have hC5:=hC.trans (hb5.mono hC.size);dsimp only)|go_skip|go_guarded|go_step|go_upon)
  exact ⟨⟨k+1,by omega,by rw [HQ.out,Int.add_assoc],by simp,hC5⟩,by simp [intOf];omega⟩
 have i1 : ¬ (k:Int)+1 < r.mon:=by have:=HM0.out;omega
 obtain rfl:k=m:=by omega
 obtain ⟨f,hf⟩ : ∃ f,f=b+Zn.a6z c y k:=⟨_,rfl⟩
 obtain ⟨e,he⟩ : ∃ e,e=f+Zn.a97 c y k:=⟨_,rfl⟩
 have HZ:=zA (HE.out f e hf he)
 have HHE:=zA he
 rw [← hf]
 generalize Zn.a6z c y k=s at *
 generalize Zn.a97 c y k=l at *
 have t0:f+l=e:=he.symm
 have t1:=zWI e
 have t2:=zWI (r.wd - f)
 have hq1:0≤(r.wd - f) % 7∧(r.wd - f) % 7 < 7:=⟨wP _ (by omega),vJ _ (by omega)⟩
 have t3:=zWI (f+(r.wd - f) % 7)
 have t4:=zWI (e - 1)
 have t5:=zWI (e - 1 - r.wd)
 have hq2:0≤(e - 1 - r.wd) % 7∧(e - 1 - r.wd) % 7 < 7:=⟨wP _ (by omega),vJ _ (by omega)⟩
 have t6:=zWI (e - 1 - (e - 1 - r.wd) % 7)
 have t7:=zWI (r.wk - 1)
 have t8:=zWI (7 * (r.wk - 1))
 have t9:=zWI (f+(r.wd - f) % 7+7 * (r.wk - 1))
 have hmk:=HM0.out
 clear hf he hs hp hq1 hq2
 by_cases h5:r.wk=5
 ·have tw:(r.wk == 5)=true:=by simp [h5]
  rw [zQ h5] at HZ
  clear h5
  by_cases hx:f≤e - 1 - (e - 1 - r.wd) % 7
  ·rw [zV hx] at HZ
   repeat' (first | (go_at_call 164;((with_reducible refine (HX.out).mono ?_));rintro e w5 ⟨rfl,hb5⟩;have hC5:=hB.trans (hb5.mono hB.size);have c5:=a02 (a0a c2 hb5) 2;have c51:=a02 (a0a c2 hb5) 1;have HWA:=zA (HW.out w5 (r.wd - f));have HWB:=zA (HW.out w5 (e - 1 - r.wd));dsimp only) | (go_at_call 165;((with_reducible refine (HWA.out).mono ?_));rintro e w6 ⟨rfl,rfl⟩;dsimp only) | (go_at_call 165;((with_reducible refine (HWB.out).mono ?_));rintro e w7 ⟨rfl,rfl⟩;dsimp only)|go_skip|go_guarded|go_step|go_upon)
   go_returns;exact ⟨by rw [HZ.out];rfl,hC5⟩
  rw [zW hx] at HZ
  repeat' (first | (go_at_call 164;((with_reducible refine (HX.out).mono ?_));rintro e w5 ⟨rfl,hb5⟩;have hC5:=hB.trans (hb5.mono hB.size);have c5:=a02 (a0a c2 hb5) 2;have c51:=a02 (a0a c2 hb5) 1;have HWA:=zA (HW.out w5 (r.wd - f));have HWB:=zA (HW.out w5 (e - 1 - r.wd));dsimp only) | (go_at_call 165;((with_reducible refine (HWA.out).mono ?_));rintro e w6 ⟨rfl,rfl⟩;dsimp only) | (go_at_call 165;((with_reducible refine (HWB.out).mono ?_));rintro e w7 ⟨rfl,rfl⟩;dsimp only)|go_skip|go_guarded|go_step|go_upon)
  go_returns
  exact ⟨by rw [HZ.out];rfl,hC5⟩
 have tw:(r.wk == 5)=false:=by simpa using h5
 rw [zS h5] at HZ
 clear h5
 by_cases hx:f+(r.wd - f) % 7+7 * (r.wk - 1) < e
 ·rw [zV hx] at HZ
  repeat' (first | (go_at_call 164;((with_reducible refine (HX.out).mono ?_));rintro e w5 ⟨rfl,hb5⟩;have hC5:=hB.trans (hb5.mono hB.size);have c5:=a02 (a0a c2 hb5) 2;have c51:=a02 (a0a c2 hb5) 1;have HWA:=zA (HW.out w5 (r.wd - f));have HWB:=zA (HW.out w5 (e - 1 - r.wd));dsimp only) | (go_at_call 165;((with_reducible refine (HWA.out).mono ?_));rintro e w6 ⟨rfl,rfl⟩;dsimp only) | (go_at_call 165;((with_reducible refine (HWB.out).mono ?_));rintro e w7 ⟨rfl,rfl⟩;dsimp only)|go_skip|go_guarded|go_step|go_upon)
  go_returns
  exact ⟨by rw [HZ.out];rfl,hC5⟩
 rw [zW hx] at HZ
 repeat' (first | (go_at_call 164;((with_reducible refine (HX.out).mono ?_));rintro e w5 ⟨rfl,hb5⟩;have hC5:=hB.trans (hb5.mono hB.size);have c5:=a02 (a0a c2 hb5) 2;have c51:=a02 (a0a c2 hb5) 1;have HWA:=zA (HW.out w5 (r.wd - f));have HWB:=zA (HW.out w5 (e - 1 - r.wd));dsimp only) | (go_at_call 165;((with_reducible refine (HWA.out).mono ?_));rintro e w6 ⟨rfl,rfl⟩;dsimp only) | (go_at_call 165;((with_reducible refine (HWB.out).mono ?_));rintro e w7 ⟨rfl,rfl⟩;dsimp only)|go_skip|go_guarded|go_step|go_upon)
 go_returns
 exact ⟨by rw [HZ.out];rfl,hC5⟩
end Go.Proofs.YtppjleebbjipbaaGreat
namespace Go.Proofs.YtppjleebbjipbaaGreat
open Go.RowKit
set_option maxRecDepth 20000
set_option maxHeartbeats 8000000
def aec (W:World) (g:Nat) (z:Zn.a0w) (ys:List Zn.Tr) (cyc:Int):Prop :=
 ∃ mv rv tv yv sv,obj W g=some (.cells #[z.cal.a08,mv,z.cal.a0l,rv,z.start,tv,z.hor,yv,sv,cyc] 136 (0,0))∧a2b W tv z.trans∧a2b W sv ys
def InD (D:Nat→Prop) (v:Value) (l:List Zn.Tr):Prop:=0 < l.length→∀ b o m c,v=.slice (some ⟨b,o,none⟩) m c→D b
def a8j (W:World) (D:Nat→Prop) (g:Nat) (z:Zn.a0w) (ys:List Zn.Tr) (cyc:Int):Prop :=
 ∃ mv rv tv yv sv,obj W g=some (.cells #[z.cal.a08,mv,z.cal.a0l,rv,z.start,tv,z.hor,yv,sv,cyc] 136 (0,0))∧a2b W tv z.trans∧a2b W sv ys∧D g∧InD D tv z.trans∧InD D sv ys
theorem a8j.clk {W:World} {D:Nat→Prop} {g:Nat} {z:Zn.a0w} {ys:List Zn.Tr} {cyc:Int} (h:a8j W D g z ys cyc):aec W g z ys cyc:=by
 obtain ⟨mv,rv,tv,yv,sv,h1,h2,h3,_⟩:=h
 exact ⟨mv,rv,tv,yv,sv,h1,h2,h3⟩
theorem aec.inD {W:World} {g:Nat} {z:Zn.a0w} {ys:List Zn.Tr} {cyc:Int} (h:aec W g z ys cyc):a8j W (fun k=>k < W.heap.size) g z ys cyc:=by
 obtain ⟨mv,rv,tv,yv,sv,h1,h2,h3⟩:=h
 refine ⟨mv,rv,tv,yv,sv,h1,h2,h3,a09 h1,fun hl b o m c e=>?_,fun hl b o m c e=>?_⟩
 ·subst e
  obtain ⟨a,c',e,h⟩:=h2
  obtain ⟨b',o',row,T,fr,e2,h4,_⟩:=h hl
  injection e with e
  rw [e2] at e
  cases e
  exact a09 h4
 subst e
 obtain ⟨a,c',e,h⟩:=h3
 obtain ⟨b',o',row,T,fr,e2,h4,_⟩:=h hl
 injection e with e
 rw [e2] at e
 cases e
 exact a09 h4
theorem a2b.keep {W W':World} {D:Nat→Prop} {v:Value} {l:List Zn.Tr} (h:a2b W v l) (hd:InD D v l) (hk:∀ k,k < W.heap.size→D k→W'.heap[k]? = W.heap[k]?):a2b W' v l:=by
 obtain ⟨a,c,rfl,h⟩:=h
 refine ⟨a,c,rfl,fun hl=>?_⟩
 obtain ⟨b,o,row,T,fr,rfl,h1,h2⟩:=h hl
 exact ⟨b,o,row,T,fr,rfl,(hk b (a09 h1) (hd hl b o _ c rfl)).trans h1,h2⟩
theorem a8j.keep {W W':World} {D:Nat→Prop} {g:Nat} {z:Zn.a0w} {ys:List Zn.Tr} {cyc:Int} (h:a8j W D g z ys cyc) (hk:∀ k,k < W.heap.size→D k→W'.heap[k]? = W.heap[k]?):a8j W' D g z ys cyc:=by
 obtain ⟨mv,rv,tv,yv,sv,h1,h2,h3,h4,h5,h6⟩:=h
 exact ⟨mv,rv,tv,yv,sv,(hk g (a09 h1) h4).trans h1,h2.keep h5 hk,h3.keep h6 hk,h4,h5,h6⟩
theorem a8j.below {W W':World} {D:Nat→Prop} {g:Nat} {z:Zn.a0w} {ys:List Zn.Tr} {cyc:Int} (h:a8j W D g z ys cyc) (hb:Below W W W'):a8j W' D g z ys cyc:=h.keep fun k hk _=>hb.block k hk
theorem a8j.mono {W:World} {D E:Nat→Prop} {g:Nat} {z:Zn.a0w} {ys:List Zn.Tr} {cyc:Int} (h:a8j W D g z ys cyc) (he:∀ k,D k→E k):a8j W E g z ys cyc:=by
 obtain ⟨mv,rv,tv,yv,sv,h1,h2,h3,h4,h5,h6⟩:=h
 exact ⟨mv,rv,tv,yv,sv,h1,h2,h3,he _ h4,fun hl b o m c e=>he _ (h5 hl b o m c e),fun hl b o m c e=>he _ (h6 hl b o m c e)⟩
theorem aec.below {W W':World} {g:Nat} {z:Zn.a0w} {ys:List Zn.Tr} {cyc:Int} (h:aec W g z ys cyc) (hb:Below W W W'):aec W' g z ys cyc:=by
 obtain ⟨mv,rv,tv,yv,sv,h1,h2,h3⟩:=h
 exact ⟨mv,rv,tv,yv,sv,a0a h1 hb,a1m.below h2 hb,a1m.below h3 hb⟩
theorem aec.drewN {W:World} {g:Nat} {z:Zn.a0w} {ys:List Zn.Tr} {cyc:Int} (h:aec W g z ys cyc) (n:Nat):aec (W.drewN n) g z ys cyc:=h.below (below_drewN bR n)
theorem aah {W:World} {a:Int}:Calls Tryz.prog 143 #[.int .i64 a] W fun e w'=>e=.returned (.bool false)∧W=w':=by
 have h:(a == a)=true:=by simp
 go_enter Tryz.func143,Tryz.ntmps143
 repeat'(first|go_skip|go_guarded|go_step|go_upon)
 go_ret
 exact ⟨rfl,rfl⟩
def a9o (a b:Int):Int:=if a < b then -1 else if b < a then 1 else 0
theorem a5w {W:World} {a b:Int}:Calls Tryz.prog 110 #[.int .i64 a,.int .i64 b] W fun e w'=>e=.returned (.int .i64 (a9o a b))∧W=w':=by
 have HA:=zA (@aah W a)
 have HB:=zA (@aah W b)
 go_enter Tryz.func110,Tryz.ntmps110
 unfold a9o
 by_cases h1:a < b
 ·rw [zQ h1]
  repeat' (first | (go_at_call 143;((with_reducible refine (HA.out).mono ?_));rintro e w5 ⟨rfl,rfl⟩;dsimp only) | (go_at_call 143;((with_reducible refine (HB.out).mono ?_));rintro e w5 ⟨rfl,rfl⟩;dsimp only)|go_skip|go_guarded|go_step|go_upon)
  go_ret
  exact ⟨rfl,rfl⟩
 rw [zS h1]
 by_cases h2:b < a
 ·rw [zQ h2]
  repeat' (first | (go_at_call 143;((with_reducible refine (HA.out).mono ?_));rintro e w5 ⟨rfl,rfl⟩;dsimp only) | (go_at_call 143;((with_reducible refine (HB.out).mono ?_));rintro e w5 ⟨rfl,rfl⟩;dsimp only)|go_skip|go_guarded|go_step|go_upon)
  go_ret
  exact ⟨rfl,rfl⟩
 rw [zS h2]
 repeat' (first | (go_at_call 143;((with_reducible refine (HA.out).mono ?_));rintro e w5 ⟨rfl,rfl⟩;dsimp only) | (go_at_call 143;((with_reducible refine (HB.out).mono ?_));rintro e w5 ⟨rfl,rfl⟩;dsimp only)|go_skip|go_guarded|go_step|go_upon)
 go_ret
 exact ⟨rfl,rfl⟩
theorem a88 {W:World} {t:Zn.Tr} {b:Int}:Calls Tryz.prog 137 #[.agg #[t.tm,t.off],.int .i64 b] W fun e w'=>e=.returned (.int .i64 (a9o t.tm b))∧w' = W.alloc (.cells #[t.tm,t.off] 57):=by
 have HC:=zA (fun Wq:World=>@a5w Wq t.tm b)
 have hon:ones #[t.tm,t.off]=true:=by simp [ones,a0n]
 go_enter Tryz.func137,Tryz.ntmps137
 repeat' (first | (go_at_call 110;((with_reducible refine ((HC.out _)).mono ?_));rintro e w5 ⟨rfl,rfl⟩;dsimp only)|go_skip|go_guarded|go_step|go_upon)
 go_ret
 exact ⟨rfl,rfl⟩
theorem ac0 {W:World} {t u:Zn.Tr}:Calls Tryz.prog 136 #[.agg #[t.tm,t.off],.agg #[u.tm,u.off]] W fun e w'=>e=.returned (.int .i64 (a9o t.tm u.tm))∧w' = (W.alloc (.cells #[t.tm,t.off] 57)).alloc (.cells #[u.tm,u.off] 57):=by
 have HC:=zA (fun Wq:World=>@a5w Wq t.tm u.tm)
 have hon:ones #[t.tm,t.off]=true:=by simp [ones,a0n]
 have alr:ones #[u.tm,u.off]=true:=by simp [ones,a0n]
 go_enter Tryz.func136,Tryz.ntmps136
 repeat' (first | (go_at_call 110;((with_reducible refine ((HC.out _)).mono ?_));rintro e w5 ⟨rfl,rfl⟩;dsimp only)|go_skip|go_guarded|go_step|go_upon)
 go_ret
 exact ⟨rfl,rfl⟩
theorem a2v {W:World} {g:Nat} {z:Zn.a0w} {ys:List Zn.Tr} {cyc:Int} (h:aec W g z ys cyc) (h0:0≤cyc) (h1:cyc≤10000000) :
  Calls Tryz.prog 128 #[.pointer (some ⟨g,0,none⟩)] W fun e w'=>e=.returned (.int .i64 (cyc * 1440))∧W=w':=by
 obtain ⟨mv,rv,tv,yv,sv,hg,_,_⟩:=h
 have c9:=a02 hg 9
 have w0:=zWI (cyc * 1440)
 go_enter Tryz.func128,Tryz.ntmps128
 repeat'(first|go_skip|go_guarded|go_step|go_upon)
 go_ret
 exact ⟨rfl,rfl⟩
theorem a2b.open {W:World} {v:Value} {l:List Zn.Tr} (h:a2b W v l) (h0:0 < l.length) :
  ∃ b o c row T fr,v=.slice (some ⟨b,o,none⟩) l.length c∧obj W b=some (.cells row T fr)∧∀ i,i < l.length→o+i * 2+2≤row.size∧row.extract (o+i * 2) (o+i * 2+2)=#[.int .i64 (l.getD i default).tm,.int .i64 (l.getD i default).off]:=by
 obtain ⟨a,c,rfl,h⟩:=h
 obtain ⟨b,o,row,T,fr,rfl,h1,h2⟩:=h h0
 exact ⟨b,o,c,row,T,fr,rfl,h1,h2⟩
theorem a2b.ajx {W:World} {v:Value} {l:List Zn.Tr} (h:a2b W v l) : ∃ a c,v=.slice a l.length c:=by
 obtain ⟨a,c,rfl,h⟩:=h
 exact ⟨a,c,rfl⟩
def _root_.Zn.turns (y0 t cyc:Int):Int:=(if t - y0 < 0 then 0 else t - y0) / (cyc * 1440)
theorem aa1 {W:World} {g:Nat} {z:Zn.a0w} {ys:List Zn.Tr} {cyc:Int} (h:aec W g z ys cyc) (h0:0 < cyc) (h1:cyc≤10000000) (hl:0 < ys.length) {t:Int}
  (ht : -9007199254740992≤t∧t≤9007199254740992) (hy : -9007199254740992≤(ys.getD 0 default).tm∧(ys.getD 0 default).tm≤9007199254740992) :
  Calls Tryz.prog 127 #[.pointer (some ⟨g,0,none⟩),.int .i64 t] W fun e w'=>e=.returned (.int .i64 (Zn.turns (ys.getD 0 default).tm t cyc))∧∃ n,w' = W.drewN n:=by
 have HM:=zA (fun n=>a2v (h.drewN n) (by omega) h1)
 obtain ⟨mv,rv,tv,yv,sv,hg,_,hs⟩:=h
 obtain ⟨b,o,c,row,T,fr,rfl,hb,hx⟩:=hs.open hl
 have k3:=(hx 0 hl).2
 have e0:W.cell? ⟨b,o,none⟩=some (.int .i64 (ys.getD 0 default).tm):=(a02 hb o).trans (by have:=a0y 0 k3 (by simp);simpa using this)
 clear hx k3
 unfold Zn.turns
 generalize (ys.getD 0 default).tm=y at *
 generalize ys.length=n at *
 have hlt:0 < n:=hl
 have c8:=a02 hg 8
 have w0:=zWI (t - y)
 have r0:cyc * 1440≠0:=by omega
 have hd1:0≤(if t - y < 0 then 0 else t - y) / (cyc * 1440):=Int.ediv_nonneg (by split<;>omega) (by omega)
 have hd2:(if t - y < 0 then 0 else t - y) / (cyc * 1440)≤(if t - y < 0 then 0 else t - y):=Int.ediv_le_self _ (by split<;>omega)
 have hd3:(if t - y < 0 then 0 else t - y)≤18014398509481984:=by split<;>omega
 have w1:=zWI ((if t - y < 0 then 0 else t - y) / (cyc * 1440))
 have rt:Int.tdiv (if t - y < 0 then 0 else t - y) (cyc * 1440)=(if t - y < 0 then 0 else t - y) / (cyc * 1440):=xA (by split<;>omega)
 go_enter Tryz.func127,Tryz.ntmps127
 repeat'(first|go_skip|go_guarded|go_step|go_upon)
 go_quiet ((go_at_call 128;refine vW ((HM.out _).mono fun _ _ h=>⟨h.1,h.2.symm⟩)))
 obtain ⟨w2,hw2⟩ : ∃ w2,W.drewN nq=w2:=⟨_,rfl⟩
 rw [hw2]
 have HW2:=zA hw2
 clear hw2
 repeat'(first|go_skip|go_guarded|go_step|go_upon)
 go_ret
 exact ⟨rfl,nq,HW2.out.symm⟩
end Go.Proofs.YtppjleebbjipbaaGreat
namespace Go.Proofs.YtppjleebbjipbaaGreat
open Go.RowKit
set_option maxRecDepth 20000
set_option maxHeartbeats 8000000
def a7l (l:List Zn.Tr):Prop:=∀ i j,i≤j→j < l.length→(l.getD i default).tm≤(l.getD j default).tm
theorem a6m {W:World} {v:Value} {l:List Zn.Tr} {t:Int} (hv:a2b W v l) (hs:a7l l) (hl:l.length≤1000000000) :
  Calls Tryz.prog 138 #[v,.int .i64 t,.func (.func 137) #[] #[]] W fun e w' => ∃ i:Nat,i≤l.length∧(∀ j,j < i→(l.getD j default).tm < t)∧(∀ j,i≤j→j < l.length→t≤(l.getD j default).tm) ∧
   e=.returned (.tuple #[.int .i64 i,.bool (decide (i < l.length∧(l.getD i default).tm=t))])∧Below W W w':=by
 obtain ⟨a,c,rfl,hq⟩:=hv
 have HQ:=zA hq
 have HS:=zA hs
 clear hq hs
 go_enter Tryz.func138,Tryz.ntmps138
 repeat'(first|go_skip|go_guarded|go_step|go_upon)
 go_loopw [9,10] (fun x y wr => ∃ i j:Nat,i≤j∧j≤l.length∧x=.int .i64 i∧y=.int .i64 j∧(∀ q,q < i→(l.getD q default).tm < t)∧(∀ q,j≤q→q < l.length→t≤(l.getD q default).tm)∧Below W W wr) (fun x y _=>(intOf y - intOf x).toNat)
 case atStart=>exact ⟨0,l.length,by omega,by omega,rfl,rfl,fun q hq=>absurd hq (yA q),fun q h1 h2=>absurd h1 (by omega),zC _ _⟩
 obtain ⟨i,j,hij,hj,rfl,rfl,hlo,hhi,hB⟩:=hrel
 have HLO:=zA hlo
 have HHI:=zA hhi
 clear hlo hhi
 by_cases hlt:i < j
 ·have i1:(i:Int) < (j:Int):=by omega
  obtain ⟨m,hm⟩ : ∃ m,(i+j) / 2=m:=⟨_,rfl⟩
  have hm1:i≤m:=by omega
  have hm2:m < j:=by omega
  have w0:=zWI ((i:Int)+(j:Int))
  have w1:IntKind.wrap .u64 ((i:Int)+(j:Int))=(i:Int)+(j:Int):=by rw [IntKind.wrap_u64];omega
  obtain ⟨b,o,row,T,fr,rfl,q1,q2⟩:=HQ.out (by omega)
  obtain ⟨z0,k2⟩:=q2 m (by omega)
  have z1:(o+m * 2+2≤row.size)=True:=xN z0
  have hbw:=a04 q1 hB (a09 q1)
  clear q1 q2 z0
  try dsimp only at k2
  have HML:=zA (fun q (h:q≤m)=>HS.out q m h (by omega))
  have HMH:=zA (fun q (h:m≤q) (h2:q < l.length)=>HS.out m q h h2)
  generalize l.getD m default=x at *
  have k3:row.extract (o+m * 2) (o+m * 2+2)=#[.int .i64 x.tm,.int .i64 x.off]:=k2
  clear k2
  have hon:ones #[x.tm,x.off]=true:=by simp [ones,a0n]
  have HC:=zA (@a88 wr x t)
  have hBc:=hB.alloc hB.size (.cells #[x.tm,x.off] 57)
  have hm3:((i:Int)+(j:Int)) / 2=(m:Int):=by omega
  by_cases hx:x.tm < t
  ·have ct:a9o x.tm t < 0:=by unfold a9o;rw [zQ hx];decide
   have HX:=zA hx;clear hx;generalize a9o x.tm t=cx at *
   repeat' (first | (go_at_call 137;((with_reducible refine (HC.out).mono ?_));rintro e w5 ⟨rfl,rfl⟩;dsimp only)|go_skip|go_guarded|go_step|go_upon)
   exact ⟨⟨m+1,j,by omega,by omega,by simp,rfl,fun q hq=>by have:=HML.out q (by omega);have:=HX.out;omega,HHI.out,hBc⟩,by simp [intOf];omega⟩
  have ct : ¬ a9o x.tm t < 0:=by unfold a9o;rw [zS hx];split<;>decide
  have HX:=zA hx
  clear hx
  generalize a9o x.tm t=cx at *
  repeat' (first | (go_at_call 137;((with_reducible refine (HC.out).mono ?_));rintro e w5 ⟨rfl,rfl⟩;dsimp only)|go_skip|go_guarded|go_step|go_upon)
  exact ⟨⟨i,m,by omega,by omega,rfl,rfl,HLO.out,fun q h1 h2=>by have:=HMH.out q h1 h2;have:=HX.out;omega,hBc⟩,by simp [intOf];omega⟩
 have i1 : ¬ (i:Int) < (j:Int):=by omega
 obtain rfl:i=j:=by omega
 by_cases hin:i < l.length;rotate_left
 ·have i2 : ¬ (i:Int) < (l.length:Int):=by omega
  have HD:Hid (decide (i < l.length∧(l.getD i default).tm=t)=false):=zA (zW (fun h=>hin h.1))
  repeat'(first|go_skip|go_guarded|go_step|go_upon)
  go_returns
  exact ⟨i,hj,HLO.out,HHI.out,by rw [HD.out];rfl,hB⟩
 have i2:(i:Int) < (l.length:Int):=by omega
 obtain ⟨b,o,row,T,fr,rfl,q1,q2⟩:=HQ.out (by omega)
 obtain ⟨z0,k2⟩:=q2 i (by omega)
 have z1:(o+i * 2+2≤row.size)=True:=xN z0
 have hbw:=a04 q1 hB (a09 q1)
 clear q1 q2 z0
 try dsimp only at k2
 have HIX:Hid (i < l.length):=zA hin
 have HD:Hid (decide (i < l.length∧(l.getD i default).tm=t)=decide ((l.getD i default).tm=t)):=zA (by simp [hin])
 generalize hgx:l.getD i default=x at *
 have HGX:=zA hgx
 clear hgx
 have k3:row.extract (o+i * 2) (o+i * 2+2)=#[.int .i64 x.tm,.int .i64 x.off]:=k2
 clear k2
 have hon:ones #[x.tm,x.off]=true:=by simp [ones,a0n]
 have HC:=zA (@a88 wr x t)
 have hBc:=hB.alloc hB.size (.cells #[x.tm,x.off] 57)
 have HE:Hid ((a9o x.tm t == 0)=decide (x.tm=t)):=zA (by
  unfold a9o
  by_cases h1:x.tm < t
  ·rw [zQ h1,zW (by omega)];rfl
  ·rw [zS h1]
   by_cases h2:t < x.tm
   ·rw [zQ h2,zW (by omega)];rfl
   ·rw [zS h2,zV (by omega)];rfl)
 generalize a9o x.tm t=cx at *
 repeat' (first | (go_at_call 137;((with_reducible refine (HC.out).mono ?_));rintro e w5 ⟨rfl,rfl⟩;dsimp only)|go_skip|go_guarded|go_step|go_upon)
 go_returns
 exact ⟨i,hj,HLO.out,HHI.out,by rw [HGX.out,HD.out,← HE.out];rfl,hBc⟩
end Go.Proofs.YtppjleebbjipbaaGreat
namespace Zn
def a4i:List Tr→Int→Option Tr→Option Tr
 | [],_,a=>a
 | x :: xs,t,a=>if x.tm≤t then a4i xs t (some x) else a
theorem aag:∀ (l:List Tr) (t:Int) (a:Option Tr) (k:Nat),k≤l.length→(∀ j,j < k→(l.getD j default).tm≤t)→(∀ j,k≤j→j < l.length→t < (l.getD j default).tm)→a4i l t a=if k=0 then a else some (l.getD (k - 1) default)
 | [],t,a,k,hk,_,_=>by
  rw [zQ (by simpa using hk)]
  rfl
 | x :: xs,t,a,0,_,_,h2=>by
  have h:=h2 0 (zD _) (by simp)
  have hx : ¬ x.tm≤t:=by simpa using h
  unfold a4i
  rw [zS hx,zQ rfl]
 | x :: xs,t,a,k+1,hk,h1,h2=>by
  have hx:x.tm≤t:=by simpa using h1 0 (by omega)
  unfold a4i
  rw [zQ hx,aag xs t (some x) k (by simpa using hk) (fun j hj=>by simpa using h1 (j+1) (by omega)) (fun j h3 h4=>by simpa using h2 (j+1) (by omega) (by simpa using h4))]
  cases k with
  | zero=>rw [zQ rfl,zS (by omega)];rfl
  | succ k=>rw [zS (by omega),zS (by omega)];simp
def a6a (z:a0w) (ys:List Tr) (cyc t:Int):Option Tr :=
 if ys.length≠0∧(ys.getD 0 default).tm≤t then
  match a4i ys (t - turns (ys.getD 0 default).tm t cyc * (cyc * 1440)) none with
  | some x=>if z.hor≤x.tm+turns (ys.getD 0 default).tm t cyc * (cyc * 1440) then some ⟨x.tm+turns (ys.getD 0 default).tm t cyc * (cyc * 1440),x.off⟩ else none
  | none=>none
 else none
def lastT (z:a0w) (ys:List Tr) (cyc t:Int):Option Tr :=
 match a6a z ys cyc t with
 | some x=>some x
 | none=>a4i z.trans t none
def a8u (l:List Tr):Prop:=∀ i j,i < j→j < l.length→(l.getD i default).tm < (l.getD j default).tm
structure Ck (z:a0w) (ys:List Tr) (cyc:Int):Prop where
 c0:0 < cyc
 c1:cyc≤10000000
 sy:a8u ys
 st:a8u z.trans
 ly:ys.length≤10000000
 lt:z.trans.length≤512
 by_:∀ i,i < ys.length→-2199023255552≤(ys.getD i default).tm∧(ys.getD i default).tm≤2199023255552
 bt:∀ i,i < z.trans.length→-2251799813685248≤(z.trans.getD i default).tm∧(z.trans.getD i default).tm≤2251799813685248
 oy:∀ i,i < ys.length→-1080≤(ys.getD i default).off∧(ys.getD i default).off≤1080
 ot:∀ i,i < z.trans.length→-1080≤(z.trans.getD i default).off∧(z.trans.getD i default).off≤1080
 h0 : -2251799813685248≤z.hor
 h1:z.hor≤2251799813685248
 s0 : -1080≤z.start
 s1:z.start≤1080
end Zn
namespace Go.Proofs.YtppjleebbjipbaaGreat
open Go.RowKit
theorem a3l {l:List Zn.Tr} (h:Zn.a8u l):a7l l:=fun i j hij hj=>by
 rcases zU i j with h1 | h1
 ·exact wF (h i j h1 hj)
 ·rw [show i=j by omega];exact yR _
theorem a6l {l:List Zn.Tr} (hs:Zn.a8u l) {t:Int} {i:Nat} (hi:i≤l.length) (h1:∀ j,j < i→(l.getD j default).tm < t) (h2:∀ j,i≤j→j < l.length→t≤(l.getD j default).tm) (a:Option Zn.Tr) :
  Zn.a4i l t a=if decide (i < l.length∧(l.getD i default).tm=t)=true then some (l.getD i default) else if i=0 then a else some (l.getD (i - 1) default):=by
 by_cases hf:i < l.length∧(l.getD i default).tm=t
 ·rw [zQ (zV hf),Zn.aag l t a (i+1) (by omega) (fun j hj=>?_) (fun j h3 h4=>?_),zS (by omega)]
  ·rfl
  ·rcases zU j i with h | h
   ·exact wF (h1 j h)
   rw [show j=i by omega,hf.2];exact yR _
  have:=hs i j (by omega) h4
  omega
 rw [zS (by simpa using hf),Zn.aag l t a i hi (fun j hj=>wF (h1 j hj)) (fun j h3 h4=>?_)]
 have h5:=h2 j h3 h4
 rcases zU i j with h | h
 ·have:=hs i j h h4
  have:=h2 i (zD _) (by omega)
  omega
 obtain rfl:i=j:=by omega
 have h6:(l.getD i default).tm≠t:=fun e=>hf ⟨h4,e⟩
 omega
end Go.Proofs.YtppjleebbjipbaaGreat
