/-
  The contracts of package zone, with the row's numbers and the answer given by equations.
-/
import Derived.Test.YtppjleebbjipbaaGreatQkZcg
set_option linter.all false
namespace Go.Proofs.YtppjleebbjipbaaGreat
open Go.RowKit Go.Shelf
theorem afe (HO:OpenSpec) {W:World} {z:Zn.a0w} {mv rv tv yv:Value} (hv:a1q W z mv rv tv yv) (hzr:z.cal.rules.length < 9223372036854775808) (hzm:z.cal.a0g.length < 9223372036854775808) (f u:Int) {e l s h:Int} (he:z.cal.a08=e) (hl:z.cal.a0l=l) (hs:z.start=s) (hh:z.hor=h) {rl:List Zn.Tr} {rc:Int} (hr:Zn.adz z f u=(rl,rc)):Calls Tryz.prog 35 #[.agg #[e,mv,l,rv,s,tv,h,yv],.int .i64 f,.int .i64 u] W fun e w'=>(∃ v,e=.returned (.tuple #[v,.int .i64 rc])∧a2b w' v rl)∧Below W W w':=by
 subst he hl hs hh
 have h9:=acs HO hv hzr hzm f u
 rw [hr] at h9
 exact h9
theorem abq (HO:OpenSpec) {W:World} {z:Zn.a0w} {mv rv tv yv:Value} (hv:a1q W z mv rv tv yv) (hzr:z.cal.rules.length < 9223372036854775808) (hzm:z.cal.a0g.length < 9223372036854775808) (t:Int) {e l s h:Int} (he:z.cal.a08=e) (hl:z.cal.a0l=l) (hs:z.start=s) (hh:z.hor=h) {r1 r2:Int} (hr:Zn.ac8 z t=(r1,r2)):Calls Tryz.prog 18 #[.agg #[e,mv,l,rv,s,tv,h,yv],.int .i64 t] W fun e w'=>e=.returned (.tuple #[.int .i64 r1,.int .i64 r2])∧Below W W w':=by
 subst he hl hs hh
 have h9:=a6n HO hv hzr hzm t
 rw [hr] at h9
 exact h9
theorem ajp (HO:OpenSpec) {W:World} {z:Zn.a0w} {mv rv tv yv:Value} (hv:a1q W z mv rv tv yv) (hzr:z.cal.rules.length < 9223372036854775808) (hzm:z.cal.a0g.length < 9223372036854775808) (t:Int) {e l s h:Int} (he:z.cal.a08=e) (hl:z.cal.a0l=l) (hs:z.start=s) (hh:z.hor=h) {r1 r2:Int} (hr:Zn.aip z t=(r1,r2)):Calls Tryz.prog 20 #[.agg #[e,mv,l,rv,s,tv,h,yv],.int .i64 t] W fun e w'=>e=.returned (.tuple #[.int .i64 r1,.int .i64 r2])∧Below W W w':=by
 subst he hl hs hh
 have h9:=aau HO hv hzr hzm t
 rw [hr] at h9
 exact h9
theorem al6 (HO:OpenSpec) {W:World} {z:Zn.a0w} {mv rv tv yv:Value} (hv:a1q W z mv rv tv yv) (hzr:z.cal.rules.length < 9223372036854775808) (hzm:z.cal.a0g.length < 9223372036854775808) (t:Int) {e l s h:Int} (he:z.cal.a08=e) (hl:z.cal.a0l=l) (hs:z.start=s) (hh:z.hor=h) {r1 r2:Int} (hr:Zn.a6i z t=(r1,r2)):Calls Tryz.prog 22 #[.agg #[e,mv,l,rv,s,tv,h,yv],.int .i64 t] W fun e w'=>e=.returned (.tuple #[.int .i64 r1,.int .i64 r2])∧Below W W w':=by
 subst he hl hs hh
 have h9:=abr HO hv hzr hzm t
 rw [hr] at h9
 exact h9
theorem ae6 (HO:OpenSpec) {W:World} {z:Zn.a0w} {mv rv tv yv:Value} (hv:a1q W z mv rv tv yv) (hzr:z.cal.rules.length < 9223372036854775808) (hzm:z.cal.a0g.length < 9223372036854775808)  {e l s h:Int} (he:z.cal.a08=e) (hl:z.cal.a0l=l) (hs:z.start=s) (hh:z.hor=h) {r1:Int} (hr:Zn.a2l z=r1):Calls Tryz.prog 26 #[.agg #[e,mv,l,rv,s,tv,h,yv]] W fun e w'=>e=.returned (.int .i64 r1)∧Below W W w':=by
 subst he hl hs hh
 have h9:=af9 HO hv hzr hzm
 rw [hr] at h9
 exact h9
theorem al9 (HO:OpenSpec) {W:World} {z:Zn.a0w} {mv rv tv yv:Value} (hv:a1q W z mv rv tv yv) (hzr:z.cal.rules.length < 9223372036854775808) (hzm:z.cal.a0g.length < 9223372036854775808) (m:Int) (C:Zn.Per→Zn.Per) (HCN:∀ g∈Zn.acv z Zn.akh m,a7m (Zn.a9y (Zn.fromD z) (Zn.a0s z) g.2) (C (Zn.a9y (Zn.fromD z) (Zn.a0s z) g.2))) (hfin:Zn.a3o z=true→Zn.afa z) {e l s h:Int} (he:z.cal.a08=e) (hl:z.cal.a0l=l) (hs:z.start=s) (hh:z.hor=h) {rl:List (Int×Zn.Per)} {rc:Int} (hr:Zn.a4c C z m Zn.akh=(rl,rc)):Calls Tryz.prog 30 #[.agg #[e,mv,l,rv,s,tv,h,yv],.int .i64 m] W fun e w'=>(∃ v,e=.returned (.tuple #[v,.int .i64 rc])∧a1f w' v rl)∧Below W W w':=by
 subst he hl hs hh
 have h9:=aht HO hv hzr hzm m C HCN hfin
 rw [hr] at h9
 exact h9
theorem acn (HO:OpenSpec) {W:World} {z:Zn.a0w} {mv rv tv yv:Value} (hv:a1q W z mv rv tv yv) (hzr:z.cal.rules.length < 9223372036854775808) (hzm:z.cal.a0g.length < 9223372036854775808) (m:Int) (C:Zn.Per→Zn.Per) (HCN:∀ g∈Zn.acv z Zn.ak1 m,a7m (Zn.a9y (Zn.fromD z) (Zn.a0s z) g.2) (C (Zn.a9y (Zn.fromD z) (Zn.a0s z) g.2))) (hfin:Zn.a3o z=true→Zn.afa z) {e l s h:Int} (he:z.cal.a08=e) (hl:z.cal.a0l=l) (hs:z.start=s) (hh:z.hor=h) {rl:List (Int×Zn.Per)} {rc:Int} (hr:Zn.a4c C z m Zn.ak1=(rl,rc)):Calls Tryz.prog 32 #[.agg #[e,mv,l,rv,s,tv,h,yv],.int .i64 m] W fun e w'=>(∃ v,e=.returned (.tuple #[v,.int .i64 rc])∧a1f w' v rl)∧Below W W w':=by
 subst he hl hs hh
 have h9:=aat HO hv hzr hzm m C HCN hfin
 rw [hr] at h9
 exact h9
end Go.Proofs.YtppjleebbjipbaaGreat
namespace Go.Proofs.YtppjleebbjipbaaGreat
open Go.RowKit Go.Shelf
set_option maxRecDepth 20000
set_option maxHeartbeats 8000000
theorem nilV (W:World):a1s W (.slice none 0 0) []:=(a2c.nil W).1
theorem aqp (W:World) (a:Int):a1s (W.alloc (.cells #[a] 3)) (.slice (some ⟨W.heap.size,0,none⟩) 1 1) [a]:=(a2c.one W a).1
theorem twoV (W:World) (a b:Int):a1s (W.alloc (.cells #[a,b] 3)) (.slice (some ⟨W.heap.size,0,none⟩) 2 2) [a,b]:=aml (a05 _ _ _ rfl)
theorem aak (HO:OpenSpec) {W:World} {va:Value} {a:List Int} (ha:a1s W va a) (hal:a.length < 4611686018427387904) {loc gap fold:Int} (h:Zn.a4x Zn.a15 loc gap fold=(a,0)):Calls Tryz.prog 52 #[.int .i64 loc,.int .i64 gap,.int .i64 fold,va] W fun e w'=>e=.returned (.bool true)∧Below W W w':=by
 have h9:=af0 HO ha hal loc gap fold
 rw [zV h] at h9
 exact h9
theorem adq {W:World} {b:Nat} {l:List Int} {row:Array Value} {n:Nat} (h:obj W b=some (.cells row 3 (0,0))) (hr:row=(l.map (Value.int .i64)).toArray) (hn:l.length=n):a2t W (.slice (some ⟨b,0,none⟩) n n) l:=by
 subst hr hn
 exact ⟨_,_,rfl,fun _=>⟨b,0,_,_,rfl,h,fun i hi=>by simp [zB,hi]⟩⟩
theorem ag6 {W:World} {b1 b2 b3:Nat} {l1 l2:List Int} {r1 r2:Array Value} {n1 n2:Nat} (h1:obj W b1=some (.cells r1 3 (0,0))) (e1:r1=(l1.map (Value.int .i64)).toArray) (m1:l1.length=n1) (h2:obj W b2=some (.cells r2 3 (0,0))) (e2:r2=(l2.map (Value.int .i64)).toArray) (m2:l2.length=n2) (h3:obj W b3=some (.cells #[(0:Int),.slice none 0 0,(0:Int),(14:Int),.slice (some ⟨b1,0,none⟩) n1 n1,(60:Int),.slice none 0 0,(0:Int),(14:Int),.slice (some ⟨b2,0,none⟩) n2 n2] 69 (0,0))):a1f W (.slice (some ⟨b3,0,none⟩) 2 2) [(0,⟨[],0,14,l1⟩),(60,⟨[],0,14,l2⟩)]:=by
 have z:a2t W (.slice none 0 0) []:=⟨none,0,rfl,fun h=>by simp at h⟩
 refine ⟨fun i=>if i=0 then #[.int .i64 0,.slice none 0 0,.int .i64 0,.int .i64 14,.slice (some ⟨b1,0,none⟩) n1 n1] else #[.int .i64 60,.slice none 0 0,.int .i64 0,.int .i64 14,.slice (some ⟨b2,0,none⟩) n2 n2],⟨_,2,rfl,fun _=>⟨b3,0,_,_,_,rfl,h3,fun i hi=>?_⟩⟩,fun i hi=>?_⟩
 ·have hi2:i < 2:=hi
  rcases i with _ | _ | i
  ·exact ⟨by simp,rfl⟩
  ·exact ⟨by simp,rfl⟩
  omega
 have hi2:i < 2:=hi
 rcases i with _ | _ | i
 ·exact ⟨_,_,rfl,z,adq h1 e1 m1⟩
 ·exact ⟨_,_,rfl,z,adq h2 e2 m2⟩
 omega
abbrev W1 (W:World):World:=(((W.alloc (.cells #[(7:Int),(8:Int),(9:Int),(10:Int),(11:Int),(12:Int),(13:Int)] 3)).alloc (.cells #[.slice none 0 0,(0:Int),(14:Int),.slice (some ⟨W.heap.size,0,none⟩) 7 7] 65)).alloc (.cells #[(1:Int),(2:Int),(3:Int),(4:Int),(5:Int),(6:Int)] 3)).alloc (.cells #[(0:Int),.slice none 0 0,(0:Int),(14:Int),.slice (some ⟨W.heap.size,0,none⟩) 7 7,(60:Int),.slice none 0 0,(0:Int),(14:Int),.slice (some ⟨W.heap.size+1+1,0,none⟩) 6 6] 69)
theorem aqj {W:World} {dv:Value} (hd:a1f W dv [(0,⟨[],0,14,[7,8,9,10,11,12,13]⟩),(60,⟨[],0,14,[1,2,3,4,5,6]⟩)]) :
  Calls Tryz.prog 34 #[dv,.slice (some ⟨W.heap.size+1+1+1,0,none⟩) 2 2] (W1 W) fun e w'=>e=.returned (.bool true)∧obj w' W.heap.size=some (.cells #[(7:Int),(8:Int),(9:Int),(10:Int),(11:Int),(12:Int),(13:Int)] 3 (0,0))∧obj w' (W.heap.size+1)=some (.cells #[.slice none 0 0,(0:Int),(14:Int),.slice (some ⟨W.heap.size,0,none⟩) 7 7] 65 (0,0))∧Below W W w':=by
 have c0:obj (W1 W) W.heap.size=some (.cells #[(7:Int),(8:Int),(9:Int),(10:Int),(11:Int),(12:Int),(13:Int)] 3 (0,0)):=a06 (a06 (a06 (a05 _ _ _ rfl) _) _) _
 have c1:obj (W1 W) (W.heap.size+1)=some (.cells #[.slice none 0 0,(0:Int),(14:Int),.slice (some ⟨W.heap.size,0,none⟩) 7 7] 65 (0,0)):=a06 (a06 (a05 _ _ _ (by simp)) _) _
 have c2:obj (W1 W) (W.heap.size+1+1)=some (.cells #[(1:Int),(2:Int),(3:Int),(4:Int),(5:Int),(6:Int)] 3 (0,0)):=a06 (a05 _ _ _ (by simp)) _
 have c3:obj (W1 W) (W.heap.size+1+1+1)=some (.cells #[(0:Int),.slice none 0 0,(0:Int),(14:Int),.slice (some ⟨W.heap.size,0,none⟩) 7 7,(60:Int),.slice none 0 0,(0:Int),(14:Int),.slice (some ⟨W.heap.size+1+1,0,none⟩) 6 6] 69 (0,0)):=a05 _ _ _ (by simp)
 have hB:Below W W (W1 W):=(((bR.alloc (zD _) _).alloc (by simp) _).alloc (by simp;omega) _).alloc (by simp;omega) _
 refine (a6y (hd.below hB) (ag6 c0 rfl rfl c2 rfl rfl c3) (by decide) (by decide)).mono ?_
 rintro e w' ⟨rfl,hq⟩
 exact ⟨rfl,a0a c0 hq,a0a c1 hq,hB.trans (hq.mono hB.size)⟩
abbrev W2 (W:World) (bp:Nat):World:=(W.alloc (.cells #[(0:Int),(1:Int),(2:Int),(3:Int),(4:Int),(5:Int),(6:Int)] 3)).alloc (.cells #[(0:Int),.slice none 0 0,(0:Int),(14:Int),.slice (some ⟨bp,0,none⟩) 7 7,(60:Int),.slice none 0 0,(0:Int),(14:Int),.slice (some ⟨W.heap.size,0,none⟩) 7 7] 69)
theorem aer {W:World} {dv:Value} {bp:Nat} (hd:a1f W dv [(0,⟨[],0,14,[7,8,9,10,11,12,13]⟩),(60,⟨[],0,14,[0,1,2,3,4,5,6]⟩)]) (hp:obj W bp=some (.cells #[(7:Int),(8:Int),(9:Int),(10:Int),(11:Int),(12:Int),(13:Int)] 3 (0,0))) :
  Calls Tryz.prog 34 #[dv,.slice (some ⟨W.heap.size+1,0,none⟩) 2 2] (W2 W bp) fun e w'=>e=.returned (.bool true)∧Below W W w':=by
 have c2:obj (W2 W bp) W.heap.size=some (.cells #[(0:Int),(1:Int),(2:Int),(3:Int),(4:Int),(5:Int),(6:Int)] 3 (0,0)):=a06 (a05 _ _ _ rfl) _
 have c3:obj (W2 W bp) (W.heap.size+1)=some (.cells #[(0:Int),.slice none 0 0,(0:Int),(14:Int),.slice (some ⟨bp,0,none⟩) 7 7,(60:Int),.slice none 0 0,(0:Int),(14:Int),.slice (some ⟨W.heap.size,0,none⟩) 7 7] 69 (0,0)):=a05 _ _ _ (by simp)
 have hB:Below W W (W2 W bp):=(bR.alloc (zD _) _).alloc (by simp) _
 refine (a6y (hd.below hB) (ag6 (a0a hp hB) rfl rfl c2 rfl rfl c3) (by decide) (by decide)).mono ?_
 rintro e w' ⟨rfl,hq⟩
 exact ⟨rfl,hB.trans (hq.mono hB.size)⟩
theorem aqi {W:World} {tv:Value} (ht:a2b W tv [⟨129660,120⟩,⟨442140,60⟩]) :
  Calls Tryz.prog 45 #[tv,.slice (some ⟨W.heap.size,0,none⟩) 2 2] (W.alloc (.cells #[(129660:Int),(120:Int),(442140:Int),(60:Int)] 57)) fun e w'=>e=.returned (.bool true)∧Below W W w':=by
 have c3:obj (W.alloc (.cells #[(129660:Int),(120:Int),(442140:Int),(60:Int)] 57)) W.heap.size=some (.cells #[(129660:Int),(120:Int),(442140:Int),(60:Int)] 57 (0,0)):=a05 _ _ _ rfl
 have hB:Below W W (W.alloc (.cells #[(129660:Int),(120:Int),(442140:Int),(60:Int)] 57)):=bR.alloc (zD _) _
 have h2:a2b (W.alloc (.cells #[(129660:Int),(120:Int),(442140:Int),(60:Int)] 57)) (.slice (some ⟨W.heap.size,0,none⟩) 2 2) [⟨129660,120⟩,⟨442140,60⟩] :=
  ⟨_,2,rfl,fun _=>⟨W.heap.size,0,_,57,(0,0),rfl,c3,fun i hi=>by
   have hi2:i < 2:=hi
   rcases i with _ | _ | i
   ·exact ⟨by simp,rfl⟩
   ·exact ⟨by simp,rfl⟩
   ·omega⟩⟩
 refine (ae8 (a1m.below ht hB) h2 (by decide) (by decide)).mono ?_
 rintro e w' ⟨rfl,hq⟩
 exact ⟨by rw [zV rfl],hB.trans (hq.mono hB.size)⟩
theorem zeroV (W:World):a1q W Zn.agd (.slice none 0 0) (.slice none 0 0) (.slice none 0 0) (.slice none 0 0) :=
 ⟨⟨⟨none,0,rfl,fun h=>by simp [Zn.agd] at h⟩,⟨none,0,rfl,fun h=>by simp [Zn.agd] at h⟩⟩,⟨none,0,rfl,fun h=>by simp [Zn.agd] at h⟩,⟨none,0,rfl,fun h=>by simp [Zn.agd] at h⟩⟩
theorem sameD (HO:OpenSpec) (W:World):Calls Tryz.prog 26 #[.agg #[(0:Int),.slice none 0 0,(0:Int),.slice none 0 0,(0:Int),.slice none 0 0,(0:Int),.slice none 0 0]] W fun e w'=>e=.returned (.int .i64 1)∧Below W W w' :=
 ae6 HO (zeroV W) (by decide) (by decide) (e:=0) (l:=0) (s:=0) (h:=0) rfl rfl rfl rfl Zn.ak6
theorem ada (W:World):Calls Tryz.prog 15 #[] W fun e w'=>e=.returned (.bool true)∧Below W W w':=by
 have HO:OpenSpec:=a9r ad3
 have HSU:=zA (a8z W)
 have HSM6:=zA (fun (Wq:World) (m y:Value) (h:a1q Wq Zn.small m (.slice none 0 0) (.slice none 0 0) y)=>al9 HO h (by decide) (by decide) 30 Zn.a7s (fun g hg=>by
  rw [Zn.ab7] at hg
  rw [Zn.a2k,Zn.a1y]
  rcases yN.1 hg with rfl | hg
  ·exact a9p Zn.set1.ok Zn.set1.ne Zn.set1.one
  ·rw [yD.1 hg]
   exact a9p Zn.set2.ok Zn.set2.ne Zn.set2.one) (fun _=>Zn.ad7) (e:=0) (l := -1) (s:=0) (h:=0) rfl rfl rfl rfl Zn.aeo)
 have HSM8:=zA (fun (Wq:World) (m y:Value) (h:a1q Wq Zn.small m (.slice none 0 0) (.slice none 0 0) y)=>acn HO h (by decide) (by decide) 0 Zn.a7s (fun g hg=>by
  rw [Zn.ab6] at hg
  rw [Zn.a2k,Zn.a1y]
  rcases yN.1 hg with rfl | hg
  ·exact a9p Zn.aqh.ok Zn.aqh.ne Zn.aqh.one
  ·rw [yD.1 hg]
   exact a9p Zn.set2.ok Zn.set2.ne Zn.set2.one) (fun _=>Zn.ad7) (e:=0) (l := -1) (s:=0) (h:=0) rfl rfl rfl rfl Zn.aen)
 have as2:=zA (fun (Wq:World) (m y:Value) (h:a1q Wq Zn.small m (.slice none 0 0) (.slice none 0 0) y)=>al6 HO h (by decide) (by decide) 10030 (e:=0) (l := -1) (s:=0) (h:=0) rfl rfl rfl rfl Zn.ak9)
 go_enter Tryz.func15,Tryz.ntmps15
 repeat' ((go_not_at_region 2);(first | (go_at_call 50;((with_reducible refine ((HSU.out).mono ?_)));rintro e w1 ⟨⟨mv,rv,yv,rfl,hzs⟩,hBs⟩;have hon:=a1b hzs.cal.mon.one hzs.cal.rul.one (a1m.one hzs.tr) (a1m.one hzs.yr) (a:=7) (b:=1) (c:=60) (d:=10080);dsimp only)|go_skip|go_guarded|go_step|go_upon))
 have A1:=(zC w1.heap.size w1).alloc (zD _) (.cells #[(7:Int),mv,(1:Int),rv,(60:Int),.slice none 0 0,(10080:Int),yv] 35)
 have oz:obj (w1.alloc (.cells #[(7:Int),mv,(1:Int),rv,(60:Int),.slice none 0 0,(10080:Int),yv] 35)) w1.heap.size=some (.cells #[(7:Int),mv,(1:Int),rv,(60:Int),.slice none 0 0,(10080:Int),yv] 35 (0,0)):=a05 _ _ _ rfl
 have hzv:=hzs.below A1
 have hBV:=hBs.trans (A1.mono hBs.size)
 generalize w1.alloc (.cells #[(7:Int),mv,(1:Int),rv,(60:Int),.slice none 0 0,(10080:Int),yv] 35)=V at *
 generalize w1.heap.size=bz at *
 have HZV:=zA (fun (Wq:World) (hq:Below V V Wq)=>hzv.below hq)
 have hB0:=zC V.heap.size V
 have HCH:=zA (fun (Wq:World) (hq:Below V V Wq)=>afe HO (HZV.out Wq hq) (by decide) (by decide) 0 500000 (e:=7) (l:=1) (s:=60) (h:=10080) rfl rfl rfl rfl Zn.ama)
 have HO1:=zA (fun (Wq:World) (hq:Below V V Wq)=>abq HO (HZV.out Wq hq) (by decide) (by decide) 129659 (e:=7) (l:=1) (s:=60) (h:=10080) rfl rfl rfl rfl Zn.ak8)
 have HO2:=zA (fun (Wq:World) (hq:Below V V Wq)=>abq HO (HZV.out Wq hq) (by decide) (by decide) 129660 (e:=7) (l:=1) (s:=60) (h:=10080) rfl rfl rfl rfl Zn.ak7)
 have HLO:=zA (fun (Wq:World) (hq:Below V V Wq)=>ajp HO (HZV.out Wq hq) (by decide) (by decide) 129690 (e:=7) (l:=1) (s:=60) (h:=10080) rfl rfl rfl rfl Zn.am9)
 have HVA:=zA (fun (Wq:World) (hq:Below V V Wq)=>ae6 HO (HZV.out Wq hq) (by decide) (by decide) (e:=7) (l:=1) (s:=60) (h:=10080) rfl rfl rfl rfl Zn.ai6)
 clear hzv hzs A1 hBs
 repeat' ((go_not_at_region 6);(first | (go_at_call 35;((with_reducible refine ((HCH.out _ hB0).mono ?_)));rintro e w2 ⟨⟨tv2,rfl,ht2⟩,hB'⟩;have hB2:=hB0.trans (hB'.mono hB0.size);have oz2:=a0a oz hB2;dsimp only) | (go_at_call 18;((with_reducible refine ((HO1.out _ hB2).mono ?_)));rintro e w3 ⟨rfl,hB'⟩;have hB3:=hB2.trans (hB'.mono hB2.size);have oz3:=a0a oz hB3;have ht2:a2b w3 tv2 _:=a1m.below (ht2) hB';dsimp only) | (go_at_call 18;((with_reducible refine ((HO2.out _ hB3).mono ?_)));rintro e w4 ⟨rfl,hB'⟩;have hB4:=hB3.trans (hB'.mono hB3.size);have oz4:=a0a oz hB4;have ht2:a2b w4 tv2 _:=a1m.below (ht2) hB';dsimp only) | (go_at_call 20;((with_reducible refine ((HLO.out _ hB4).mono ?_)));rintro e w5 ⟨rfl,hB'⟩;have hB5:=hB4.trans (hB'.mono hB4.size);have oz5:=a0a oz hB5;have ht2:a2b w5 tv2 _:=a1m.below (ht2) hB';dsimp only)|go_skip|go_guarded|go_step|go_upon))
 repeat' ((go_not_at_region 9);(first | (go_at_call 51;((with_reducible refine ((a7d _).mono ?_)));rintro e w6 ⟨⟨m6,y6,rfl,hs6⟩,hB'⟩;have hB6:=hB5.trans (hB'.mono hB5.size);have oz6:=a0a oz hB6;have HS6:=zA (HSM6.out _ _ _ hs6);have ht2:a2b w6 tv2 _:=a1m.below (ht2) hB';dsimp only) | (go_at_call 30;((with_reducible refine ((HS6.out).mono ?_)));rintro e w7 ⟨⟨dv7,rfl,hd7⟩,hB'⟩;have hB7:=hB6.trans (hB'.mono hB6.size);have oz7:=a0a oz hB7;have ht2:a2b w7 tv2 _:=a1m.below (ht2) hB';dsimp only) | (go_at_call 51;((with_reducible refine ((a7d _).mono ?_)));rintro e w8 ⟨⟨m8,y8,rfl,hs8⟩,hB'⟩;have hB8:=hB7.trans (hB'.mono hB7.size);have oz8:=a0a oz hB8;have HS8:=zA (HSM8.out _ _ _ hs8);have ht2:a2b w8 tv2 _:=a1m.below (ht2) hB';have hd7:a1f w8 dv7 _:=a1f.below hd7 hB';dsimp only) | (go_at_call 32;((with_reducible refine ((HS8.out).mono ?_)));rintro e w9 ⟨⟨dv9,rfl,hd9⟩,hB'⟩;have hB9:=hB8.trans (hB'.mono hB8.size);have oz9:=a0a oz hB9;have ht2:a2b w9 tv2 _:=a1m.below (ht2) hB';have hd7:a1f w9 dv7 _:=a1f.below hd7 hB';dsimp only) | (go_at_call 51;((with_reducible refine ((a7d _).mono ?_)));rintro e w10 ⟨⟨m10,y10,rfl,hs10⟩,hB'⟩;have an3:=hB9.trans (hB'.mono hB9.size);have oz10:=a0a oz an3;have HS10:=zA (as2.out _ _ _ hs10);have ht2:a2b w10 tv2 _:=a1m.below (ht2) hB';have hd7:a1f w10 dv7 _:=a1f.below hd7 hB';have hd9:a1f w10 dv9 _:=a1f.below hd9 hB';dsimp only) | (go_at_call 22;((with_reducible refine ((HS10.out).mono ?_)));rintro e w11 ⟨rfl,hB'⟩;have arf:=an3.trans (hB'.mono an3.size);have oz11:=a0a oz arf;have ht2:a2b w11 tv2 _:=a1m.below (ht2) hB';have hd7:a1f w11 dv7 _:=a1f.below hd7 hB';have hd9:a1f w11 dv9 _:=a1f.below hd9 hB';dsimp only)|go_skip|go_guarded|go_step|go_upon))
 repeat' ((go_not_at_region 10);(first | (go_at_call 52;((with_reducible refine ((aak HO (nilV _) (by decide) Zn.ao6).mono ?_)));rintro e w12 ⟨rfl,hB'⟩;have alu:=arf.trans (hB'.mono (arf).size);have oz12:=a0a oz alu;have ht2:a2b w12 tv2 _:=a1m.below (ht2) hB';have hd7:a1f w12 dv7 _:=a1f.below hd7 hB';have hd9:a1f w12 dv9 _:=a1f.below hd9 hB';dsimp only) | (go_at_call 52;((with_reducible refine ((aak HO (aqp _ _) (by decide) Zn.ao5).mono ?_)));rintro e w13 ⟨rfl,hB'⟩;have aoz:=(alu.alloc alu.size _).trans (hB'.mono ((alu.alloc alu.size _)).size);have oz13:=a0a oz aoz;have ht2:a2b w13 tv2 _:=a1m.below (a1m.below ht2 (bR.alloc (zD _) _)) hB';have hd7:a1f w13 dv7 _:=a1f.below (hd7.below (bR.alloc (zD _) _)) hB';have hd9:a1f w13 dv9 _:=a1f.below (hd9.below (bR.alloc (zD _) _)) hB';dsimp only) | (go_at_call 52;((with_reducible refine ((aak HO (aqp _ _) (by decide) Zn.ao4).mono ?_)));rintro e w14 ⟨rfl,hB'⟩;have aoy:=(aoz.alloc aoz.size _).trans (hB'.mono ((aoz.alloc aoz.size _)).size);have oz14:=a0a oz aoy;have ht2:a2b w14 tv2 _:=a1m.below (a1m.below ht2 (bR.alloc (zD _) _)) hB';have hd7:a1f w14 dv7 _:=a1f.below (hd7.below (bR.alloc (zD _) _)) hB';have hd9:a1f w14 dv9 _:=a1f.below (hd9.below (bR.alloc (zD _) _)) hB';dsimp only) | (go_at_call 52;((with_reducible refine ((aak HO (twoV _ _ _) (by decide) Zn.ao3).mono ?_)));rintro e w15 ⟨rfl,hB'⟩;have aox:=(aoy.alloc aoy.size _).trans (hB'.mono ((aoy.alloc aoy.size _)).size);have oz15:=a0a oz aox;have ht2:a2b w15 tv2 _:=a1m.below (a1m.below ht2 (bR.alloc (zD _) _)) hB';have hd7:a1f w15 dv7 _:=a1f.below (hd7.below (bR.alloc (zD _) _)) hB';have hd9:a1f w15 dv9 _:=a1f.below (hd9.below (bR.alloc (zD _) _)) hB';dsimp only) | (go_at_call 52;((with_reducible refine ((aak HO (aqp _ _) (by decide) Zn.ao2).mono ?_)));rintro e w16 ⟨rfl,hB'⟩;have ard:=(aox.alloc aox.size _).trans (hB'.mono ((aox.alloc aox.size _)).size);have oz16:=a0a oz ard;have ht2:a2b w16 tv2 _:=a1m.below (a1m.below ht2 (bR.alloc (zD _) _)) hB';have hd7:a1f w16 dv7 _:=a1f.below (hd7.below (bR.alloc (zD _) _)) hB';have hd9:a1f w16 dv9 _:=a1f.below (hd9.below (bR.alloc (zD _) _)) hB';dsimp only)|go_skip|go_guarded|go_step|go_upon))
 repeat' ((go_not_at_region 4);(first | (go_at_call 34;((with_reducible refine ((aqj hd7).mono ?_)));rintro e w17 ⟨rfl,oI,oP,hB'⟩;have arc:=ard.trans (hB'.mono ard.size);have oz17:=a0a oz arc;have ht2:a2b w17 tv2 _:=a1m.below ht2 hB';have hd9:a1f w17 dv9 _:=a1f.below hd9 hB';dsimp only) | (go_at_call 34;((with_reducible refine ((aer hd9 oI).mono ?_)));rintro e w18 ⟨rfl,hB'⟩;have aq8:=arc.trans (hB'.mono arc.size);have oz18:=a0a oz aq8;have ht2:a2b w18 tv2 _:=a1m.below ht2 hB';dsimp only) | (go_at_call 26;((with_reducible refine ((HVA.out _ aq8).mono ?_)));rintro e w19 ⟨rfl,hB'⟩;have arb:=aq8.trans (hB'.mono aq8.size);have oz19:=a0a oz arb;have ht2:a2b w19 tv2 _:=a1m.below ht2 hB';dsimp only) | (go_at_call 45;((with_reducible refine ((aqi ht2).mono ?_)));rintro e w20 ⟨rfl,hB'⟩;have hB20:=arb.trans (hB'.mono arb.size);dsimp only) | (go_at_call 26;((with_reducible refine ((sameD HO _).mono ?_)));rintro e w21 ⟨rfl,hB'⟩;have hB21:=hB20.trans (hB'.mono hB20.size);dsimp only)|go_skip|go_guarded|go_step|go_upon))
 go_returns
 exact ⟨rfl,hBV.trans (hB21.mono hBV.size)⟩
end Go.Proofs.YtppjleebbjipbaaGreat
