/-
  zone: Kind, policies, Instants, Changes.
-/
import Derived.Test.YtppjleebbjipbaaGreatQkZob
import Derived.Test.YtppjleebbjipbaaGreatQkZpb
set_option linter.all false
namespace Zn
noncomputable def a6i (z:a0w) (loc:Int):Int×Int:=if a3o z=true∧-2251799813684168≤loc∧loc≤2251799813684168 then (([1,0,2]:List Int).getD (a2w z loc).1.length 0,0) else (0,1)
def agw (r:List Int×Int×Int) (loc gap fold:Int):List Int :=
 if r.1 = [] then (if gap=0 then [] else if gap=1 then [loc - r.2.2] else [r.2.1])
 else if fold=0 then r.1.take 1 else if fold=1 then r.1.drop (r.1.length - 1) else r.1
noncomputable def a4x (z:a0w) (loc gap fold:Int):List Int×Int:=if a3o z=true∧(-2251799813684168≤loc∧loc≤2251799813684168)∧0≤gap∧gap≤2∧0≤fold∧fold≤2 then (agw (a2w z loc) loc gap fold,0) else ([],1)
noncomputable def adz (z:a0w) (f u:Int):List Tr×Int :=
 if a3o z=true∧(-2251799813685248≤f∧f≤2251799813685248)∧(-2251799813685248≤u∧u≤2251799813685248)∧f≤u then
  (match a2i z (ysT z) (a0s z) f u with | some l=>(l,0) | none=>([],2)) else ([],1)
end Zn
namespace Go.Proofs.YtppjleebbjipbaaGreat
open Go.RowKit Go.Shelf
set_option maxRecDepth 20000
set_option maxHeartbeats 8000000
theorem ajg {l:List Int} {n:Nat} (h:n=l.length) (h1:1≤n):l.drop (n - 1) = [l.getD (n - 1) 0]:=by
 subst h
 rw [uC (by omega),List.drop_of_length_le (by omega),zB,zK (by omega)]
 rfl
theorem a2c.one (W:World) (n:Int):a2c (W.alloc (.cells #[n] 3)) (.slice (some ⟨W.heap.size,0,none⟩) 1 1) [n] :=
 ⟨⟨some ⟨W.heap.size,0,none⟩,1,rfl,fun _=>⟨W.heap.size,0,_,3,(0,0),rfl,a05 _ _ _ rfl,fun i hi=>by
  have:i=0:=by simpa using hi
  subst this
  rfl⟩⟩,some ⟨W.heap.size,0,none⟩,1,rfl,zD _⟩
theorem a1e {P:Program} {fn:Func} {p:Tmp} {ty:TypeId} (h:fn.results=#[.cell p ty]) (tmps:Array Value) (w:World) (g:Nat) (t:TypeId) (cs:Array Value) (fr:Nat×Nat) (d:TypeDesc)
  (hp:tmps.getD p undef=.pointer (some ⟨g,0,none⟩)) (hg:w.heap[g]? = some (.cells cs t fr))
  (hu:P.underlying ty=some d) (hd:(match d with | .struct _ | .array _ _=>true | _=>false)=true) (hi:(P.info? ty).map (·.size)=some cs.size) :
  (results fn tmps).run P w=.ok (.agg cs) w:=by
 have hp':tmps[p]?.getD undef=.pointer (some ⟨g,0,none⟩):=by simpa using hp
 simp [results,h,hp',asAddr,run_loadVar_row w g t ty cs fr d hg hu hd hi,Result.andThen,vV]
theorem agz (W:World) (a b c:Int):Calls Tryz.prog 100 #[.int .i64 a,.int .i64 b,.int .i64 c] W fun e w'=>e=.returned (.slice none 0 0)∧W=w':=by
 go_enter Tryz.func100,Tryz.ntmps100
 repeat'(first|go_skip|go_guarded|go_step|go_upon)
 go_ret
 exact ⟨rfl,rfl⟩
theorem agy (W:World) (a b c:Int) (hw:IntKind.wrap .i64 (a - c)=a - c):Calls Tryz.prog 101 #[.int .i64 a,.int .i64 b,.int .i64 c] W fun e w'=>e=.returned (.slice (some ⟨W.heap.size,0,none⟩) 1 1)∧W.alloc (.cells #[(a - c:Int)] 3)=w':=by
 go_enter Tryz.func101,Tryz.ntmps101
 repeat'(first|go_skip|go_guarded|go_step|go_upon)
 go_ret
 exact ⟨rfl,rfl⟩
theorem agx (W:World) (a b c:Int):Calls Tryz.prog 102 #[.int .i64 a,.int .i64 b,.int .i64 c] W fun e w'=>e=.returned (.slice (some ⟨W.heap.size,0,none⟩) 1 1)∧W.alloc (.cells #[b] 3)=w':=by
 go_enter Tryz.func102,Tryz.ntmps102
 repeat'(first|go_skip|go_guarded|go_step|go_upon)
 go_ret
 exact ⟨rfl,rfl⟩
theorem aay (W:World):Calls Tryz.prog 62 #[] W fun e w'=>e=.returned (.agg #[.func (.func 100) #[] #[],.func (.func 101) #[] #[],.func (.func 102) #[] #[]])∧W.alloc (.cells #[.func (.func 100) #[] #[],.func (.func 101) #[] #[],.func (.func 102) #[] #[]] 106)=w':=by
 have hon:ones #[.func (.func 100) #[] #[],.func (.func 101) #[] #[],.func (.func 102) #[] #[]]=true:=by simp [ones,Value.oneCell']
 go_enter Tryz.func62,Tryz.ntmps62
 repeat'(first|go_skip|go_guarded|go_step|go_upon)
 refine yO (a1e rfl _ _ W.heap.size 106 _ (0,0) _ rfl (a05 _ _ _ rfl) Tryz.underlying106 rfl (by kernel_rfl)) rfl ?_
 exact ⟨rfl,rfl⟩
theorem abr (HO:OpenSpec) {W:World} {z:Zn.a0w} {mv rv tv yv:Value} (hv:a1q W z mv rv tv yv) (hzr:z.cal.rules.length < 9223372036854775808) (hzm:z.cal.a0g.length < 9223372036854775808) (loc:Int) :
  Calls Tryz.prog 22 #[.agg #[z.cal.a08,mv,z.cal.a0l,rv,z.start,tv,z.hor,yv],.int .i64 loc] W fun e w'=>e=.returned (.tuple #[.int .i64 (Zn.a6i z loc).1,.int .i64 (Zn.a6i z loc).2])∧Below W W w':=by
 have om:=hv.cal.mon.one
 have orr:=hv.cal.rul.one
 have ot:=a1m.one hv.tr
 have oy:=a1m.one hv.yr
 have hon:ones #[z.cal.a08,mv,z.cal.a0l,rv,z.start,tv,z.hor,yv]=true:=a1b om orr ot oy
 have o0:obj (W.alloc (.cells #[z.cal.a08,mv,z.cal.a0l,rv,z.start,tv,z.hor,yv] 35)) W.heap.size=some (.cells #[z.cal.a08,mv,z.cal.a0l,rv,z.start,tv,z.hor,yv] 35 (0,0)):=a05 _ _ _ rfl
 have w1B:Below W W (W.alloc (.cells #[z.cal.a08,mv,z.cal.a0l,rv,z.start,tv,z.hor,yv] 35)):=bR.alloc (zD _) _
 have HX:=zA (HO (hv.below w1B) hzr hzm (InD.all (v:=tv) (l:=z.trans)))
 have HWI:=zA (fun Wq:World=>a1g (W:=Wq) (n:=loc) (l:=2251799813684168) (by omega) (by omega))
 clear hv
 go_enter Tryz.func22,Tryz.ntmps22
 unfold a3z at HX
 cases hgb:Zn.a3o z
 ·have HR:Hid (Zn.a6i z loc=(0,1)):=zA (by unfold Zn.a6i;rw [zS (fun h=>by rw [hgb] at h;cases h.1)])
  rw [hgb] at HX
  repeat' (first | (go_at_call 54;((with_reducible refine (HX.out).mono ?_));rintro e w5 ⟨⟨p,rfl,hg⟩,hB5⟩;have hB6:=w1B.trans (hB5.mono w1B.size);dsimp only)|go_skip|go_guarded|go_step|go_upon)
  go_returns
  exact ⟨by rw [HR.out];rfl,hB6⟩
 rw [hgb] at HX
 have HG:=zA (Zn.a0v.1 hgb).ck
 by_cases hw : -2251799813684168≤loc∧loc≤2251799813684168;rotate_left
 ·have HR:Hid (Zn.a6i z loc=(0,1)):=zA (by unfold Zn.a6i;rw [zS (fun h=>hw h.2)])
  rw [zW hw] at HWI
  clear hgb
  repeat' (first | (go_at_call 54;((with_reducible refine (HX.out).mono ?_));rintro e w5 ⟨⟨p,rfl,hg⟩,hB5⟩;have hB6:=w1B.trans (hB5.mono w1B.size);dsimp only) | (go_at_call 55;((with_reducible refine (HWI.out _).mono ?_));rintro e w6 ⟨rfl,rfl⟩;dsimp only)|go_skip|go_guarded|go_step|go_upon)
  go_returns
  exact ⟨by rw [HR.out];rfl,hB6⟩
 rw [zV hw] at HWI
 have HGB:=zA hgb
 have HWL:=zA hw
 clear hgb
 repeat' ((go_not_at_region 5);(first | (go_at_call 54;((with_reducible refine (HX.out).mono ?_));rintro e w5 ⟨⟨p,rfl,hg⟩,hB5⟩;have hB6:=w1B.trans (hB5.mono w1B.size);obtain ⟨g,hpg,hck,hgg⟩:=hg rfl;subst hpg;have HIN:=zA (a3v hck.clk HG.out (loc:=loc) (by omega) (by omega));dsimp only) | (go_at_call 55;((with_reducible refine (HWI.out _).mono ?_));rintro e w6 ⟨rfl,rfl⟩;dsimp only) | (go_at_call 59;((with_reducible refine (HIN.out).mono ?_));rintro e w7 ⟨⟨v,rfl,hiv⟩,hB7⟩;have hB8:=hB6.trans (hB7.mono hB6.size);dsimp only)|go_skip|go_guarded|go_step|go_upon))
 have hle:=Zn.a9k (Zn.a0v.1 HGB.out) loc
 unfold Zn.a2w at hle
 obtain ⟨⟨sa,sc,hsv,_⟩,_⟩:=hiv
 subst hsv
 obtain ⟨n,hn⟩ : ∃ n,n=(Zn.a3f z (Zn.ysT z) (Zn.a0s z) loc).1.length:=⟨_,rfl⟩
 rw [← hn] at hle ⊢
 have hcs:n=0∨n=1∨n=2:=by omega
 rcases hcs with rfl | rfl | rfl
 ·have HR:Hid (Zn.a6i z loc=(1,0)):=zA (by unfold Zn.a6i;rw [zQ ⟨HGB.out,HWL.out⟩];unfold Zn.a2w;rw [show (Zn.a3f z (Zn.ysT z) (Zn.a0s z) loc).1.length=0 by omega];rfl)
  clear hn
  have hix:∀ w,(Instr.index 103 (.agg #[(1:Int),(0:Int),(2:Int)]) (.int .i64 0)).run Tryz.prog w=.ok (.int .i64 1) w:=fun w=>ace (i:=0) (k:=1) rfl w
  repeat'(first|go_skip|go_guarded|go_step|go_upon)
  go_returns
  exact ⟨by rw [HR.out];rfl,hB8⟩
 ·have HR:Hid (Zn.a6i z loc=(0,0)):=zA (by unfold Zn.a6i;rw [zQ ⟨HGB.out,HWL.out⟩];unfold Zn.a2w;rw [show (Zn.a3f z (Zn.ysT z) (Zn.a0s z) loc).1.length=1 by omega];rfl)
  clear hn
  have hix:∀ w,(Instr.index 103 (.agg #[(1:Int),(0:Int),(2:Int)]) (.int .i64 1)).run Tryz.prog w=.ok (.int .i64 0) w:=fun w=>ace (i:=1) (k:=0) rfl w
  repeat'(first|go_skip|go_guarded|go_step|go_upon)
  go_returns
  exact ⟨by rw [HR.out];rfl,hB8⟩
 have HR:Hid (Zn.a6i z loc=(2,0)):=zA (by unfold Zn.a6i;rw [zQ ⟨HGB.out,HWL.out⟩];unfold Zn.a2w;rw [show (Zn.a3f z (Zn.ysT z) (Zn.a0s z) loc).1.length=2 by omega];rfl)
 clear hn
 have hix:∀ w,(Instr.index 103 (.agg #[(1:Int),(0:Int),(2:Int)]) (.int .i64 2)).run Tryz.prog w=.ok (.int .i64 2) w:=fun w=>ace (i:=2) (k:=2) rfl w
 repeat'(first|go_skip|go_guarded|go_step|go_upon)
 go_returns
 exact ⟨by rw [HR.out];rfl,hB8⟩
theorem a5g (HO:OpenSpec) {W:World} {z:Zn.a0w} {mv rv tv yv:Value} (hv:a1q W z mv rv tv yv) (hzr:z.cal.rules.length < 9223372036854775808) (hzm:z.cal.a0g.length < 9223372036854775808) (loc gap fold:Int) :
  Calls Tryz.prog 24 #[.agg #[z.cal.a08,mv,z.cal.a0l,rv,z.start,tv,z.hor,yv],.int .i64 loc,.int .i64 gap,.int .i64 fold] W fun e w'=>(∃ v,e=.returned (.tuple #[v,.int .i64 (Zn.a4x z loc gap fold).2])∧a2c w' v (Zn.a4x z loc gap fold).1)∧Below W W w':=by
 have om:=hv.cal.mon.one
 have orr:=hv.cal.rul.one
 have ot:=a1m.one hv.tr
 have oy:=a1m.one hv.yr
 have hon:ones #[z.cal.a08,mv,z.cal.a0l,rv,z.start,tv,z.hor,yv]=true:=a1b om orr ot oy
 have o0:obj (W.alloc (.cells #[z.cal.a08,mv,z.cal.a0l,rv,z.start,tv,z.hor,yv] 35)) W.heap.size=some (.cells #[z.cal.a08,mv,z.cal.a0l,rv,z.start,tv,z.hor,yv] 35 (0,0)):=a05 _ _ _ rfl
 have w1B:Below W W (W.alloc (.cells #[z.cal.a08,mv,z.cal.a0l,rv,z.start,tv,z.hor,yv] 35)):=bR.alloc (zD _) _
 have HX:=zA (HO (hv.below w1B) hzr hzm (InD.all (v:=tv) (l:=z.trans)))
 have HWI:=zA (fun Wq:World=>a1g (W:=Wq) (n:=loc) (l:=2251799813684168) (by omega) (by omega))
 clear hv
 go_enter Tryz.func24,Tryz.ntmps24
 unfold a3z at HX
 cases hgb:Zn.a3o z
 ·have HR:Hid (Zn.a4x z loc gap fold=([],1)):=zA (by unfold Zn.a4x;rw [zS (fun h=>by rw [hgb] at h;cases h.1)])
  rw [hgb] at HX
  repeat' (first | (go_at_call 54;((with_reducible refine (HX.out).mono ?_));rintro e w5 ⟨⟨p,rfl,hg⟩,hB5⟩;have hB6:=w1B.trans (hB5.mono w1B.size);dsimp only)|go_skip|go_guarded|go_step|go_upon)
  go_returns
  exact ⟨⟨_,by rw [HR.out];rfl,by rw [HR.out];exact a2c.nil _⟩,hB6⟩
 rw [hgb] at HX
 have HG:=zA (Zn.a0v.1 hgb).ck
 by_cases hw : -2251799813684168≤loc∧loc≤2251799813684168;rotate_left
 ·have HR:Hid (Zn.a4x z loc gap fold=([],1)):=zA (by unfold Zn.a4x;rw [zS (fun h=>hw h.2.1)])
  rw [zW hw] at HWI
  clear hgb
  repeat' (first | (go_at_call 54;((with_reducible refine (HX.out).mono ?_));rintro e w5 ⟨⟨p,rfl,hg⟩,hB5⟩;have hB6:=w1B.trans (hB5.mono w1B.size);dsimp only) | (go_at_call 55;((with_reducible refine (HWI.out _).mono ?_));rintro e w6 ⟨rfl,rfl⟩;dsimp only)|go_skip|go_guarded|go_step|go_upon)
  go_returns
  exact ⟨⟨_,by rw [HR.out];rfl,by rw [HR.out];exact a2c.nil _⟩,hB6⟩
 rw [zV hw] at HWI
 have HWL:=zA hw
 by_cases t0:gap < 0
 ·have HR:Hid (Zn.a4x z loc gap fold=([],1)):=zA (by unfold Zn.a4x;rw [zS (fun h=>by have:=h.2;omega)])
  clear hgb
  repeat' (first | (go_at_call 54;((with_reducible refine (HX.out).mono ?_));rintro e w5 ⟨⟨p,rfl,hg⟩,hB5⟩;have hB6:=w1B.trans (hB5.mono w1B.size);obtain ⟨g,hpg,hck,hgg⟩:=hg rfl;subst hpg;have HIN:=zA (a3v hck.clk HG.out (loc:=loc) (by omega) (by omega));dsimp only) | (go_at_call 55;((with_reducible refine (HWI.out _).mono ?_));rintro e w6 ⟨rfl,rfl⟩;dsimp only)|go_skip|go_guarded|go_step|go_upon)
  go_returns
  exact ⟨⟨_,by rw [HR.out];rfl,by rw [HR.out];exact a2c.nil _⟩,hB6⟩
 by_cases t1:2 < gap
 ·have HR:Hid (Zn.a4x z loc gap fold=([],1)):=zA (by unfold Zn.a4x;rw [zS (fun h=>by have:=h.2;omega)])
  clear hgb
  repeat' (first | (go_at_call 54;((with_reducible refine (HX.out).mono ?_));rintro e w5 ⟨⟨p,rfl,hg⟩,hB5⟩;have hB6:=w1B.trans (hB5.mono w1B.size);obtain ⟨g,hpg,hck,hgg⟩:=hg rfl;subst hpg;have HIN:=zA (a3v hck.clk HG.out (loc:=loc) (by omega) (by omega));dsimp only) | (go_at_call 55;((with_reducible refine (HWI.out _).mono ?_));rintro e w6 ⟨rfl,rfl⟩;dsimp only)|go_skip|go_guarded|go_step|go_upon)
  go_returns
  exact ⟨⟨_,by rw [HR.out];rfl,by rw [HR.out];exact a2c.nil _⟩,hB6⟩
 by_cases t2:fold < 0
 ·have HR:Hid (Zn.a4x z loc gap fold=([],1)):=zA (by unfold Zn.a4x;rw [zS (fun h=>by have:=h.2;omega)])
  clear hgb
  repeat' (first | (go_at_call 54;((with_reducible refine (HX.out).mono ?_));rintro e w5 ⟨⟨p,rfl,hg⟩,hB5⟩;have hB6:=w1B.trans (hB5.mono w1B.size);obtain ⟨g,hpg,hck,hgg⟩:=hg rfl;subst hpg;have HIN:=zA (a3v hck.clk HG.out (loc:=loc) (by omega) (by omega));dsimp only) | (go_at_call 55;((with_reducible refine (HWI.out _).mono ?_));rintro e w6 ⟨rfl,rfl⟩;dsimp only)|go_skip|go_guarded|go_step|go_upon)
  go_returns
  exact ⟨⟨_,by rw [HR.out];rfl,by rw [HR.out];exact a2c.nil _⟩,hB6⟩
 by_cases t3:2 < fold
 ·have HR:Hid (Zn.a4x z loc gap fold=([],1)):=zA (by unfold Zn.a4x;rw [zS (fun h=>by have:=h.2;omega)])
  clear hgb
  repeat' (first | (go_at_call 54;((with_reducible refine (HX.out).mono ?_));rintro e w5 ⟨⟨p,rfl,hg⟩,hB5⟩;have hB6:=w1B.trans (hB5.mono w1B.size);obtain ⟨g,hpg,hck,hgg⟩:=hg rfl;subst hpg;have HIN:=zA (a3v hck.clk HG.out (loc:=loc) (by omega) (by omega));dsimp only) | (go_at_call 55;((with_reducible refine (HWI.out _).mono ?_));rintro e w6 ⟨rfl,rfl⟩;dsimp only)|go_skip|go_guarded|go_step|go_upon)
  go_returns
  exact ⟨⟨_,by rw [HR.out];rfl,by rw [HR.out];exact a2c.nil _⟩,hB6⟩
 have HGB:=zA hgb
 clear hgb
 repeat' ((go_not_at_region 5);(first | (go_at_call 54;((with_reducible refine (HX.out).mono ?_));rintro e w5 ⟨⟨p,rfl,hg⟩,hB5⟩;have hB6:=w1B.trans (hB5.mono w1B.size);obtain ⟨g,hpg,hck,hgg⟩:=hg rfl;subst hpg;have HIN:=zA (a3v hck.clk HG.out (loc:=loc) (by omega) (by omega));dsimp only) | (go_at_call 55;((with_reducible refine (HWI.out _).mono ?_));rintro e w6 ⟨rfl,rfl⟩;dsimp only) | (go_at_call 59;((with_reducible refine (HIN.out).mono ?_));rintro e w7 ⟨⟨v,rfl,hiv⟩,hB7⟩;have hB8:=hB6.trans (hB7.mono hB6.size);dsimp only)|go_skip|go_guarded|go_step|go_upon))
 obtain ⟨r,hre⟩ : ∃ r,r=Zn.a3f z (Zn.ysT z) (Zn.a0s z) loc:=⟨_,rfl⟩
 have hle:=Zn.a9k (Zn.a0v.1 HGB.out) loc
 have hgp:=(Zn.acb (Zn.a0v.1 HGB.out) loc).gap
 unfold Zn.a2w at hle hgp
 rw [← hre] at hle hiv hgp ⊢
 have HRE:=zA hre
 clear hre
 obtain ⟨l,edge,before⟩:=r
 dsimp only at hle hiv hgp ⊢
 obtain ⟨⟨sa,sc,hsv,hsq⟩,sa',sc',aeb,hcap⟩:=hiv
 subst hsv
 obtain ⟨rfl,rfl⟩:sa=sa'∧sc=sc':=by injection aeb with a b c;exact ⟨a,c⟩
 clear aeb
 have HSQ:=zA hsq
 have HGP:=zA hgp
 have HPO:=zA (fun Wq:World=>aay Wq)
 clear hsq hgp
 match l,hle,hcap,HSQ,HGP,HRE with
 | [],hle,hcap,HSQ,HGP,HRE =>
  have hbf : -1080≤before∧before≤1080:=by
   obtain ⟨x,_,_,h3⟩:=HGP.out rfl;have:=Zn.a2a (Zn.a0v.1 HGB.out) (x.tm - 1);rw [h3];exact this
  have wlb:=zWI (loc - before)
  have hg3:gap=0∨gap=1∨gap=2:=by omega
  have HP1:=zA (fun Wq:World=>agz Wq loc edge before)
  have HP2:=zA (fun Wq:World=>agy Wq loc edge before wlb)
  have HP3:=zA (fun Wq:World=>agx Wq loc edge before)
  rcases hg3 with rfl | rfl | rfl
  ·have HR:Hid (Zn.a4x z loc 0 fold=([],0)):=zA (by unfold Zn.a4x;rw [zQ ⟨HGB.out,by have:=HWL.out;omega⟩];unfold Zn.agw Zn.a2w;rw [← HRE.out];simp)
   have hix:∀ w,(Instr.index 106 (.agg #[.func (.func 100) #[] #[],.func (.func 101) #[] #[],.func (.func 102) #[] #[]]) (.int .i64 0)).run Tryz.prog w=.ok (.func (.func 100) #[] #[]) w:=fun w=>aew (i:=0) rfl w
   repeat' (first | (go_at_call 62;((with_reducible refine (HPO.out _).mono ?_));rintro e w9 ⟨rfl,rfl⟩;dsimp only) | (go_at_call 100;((with_reducible refine (HP1.out _).mono ?_));rintro e w10 ⟨rfl,rfl⟩;have hB9:=hB8.alloc hB8.size (.cells #[.func (.func 100) #[] #[],.func (.func 101) #[] #[],.func (.func 102) #[] #[]] 106);dsimp only)|go_skip|go_guarded|go_step|go_upon)
   go_returns;exact ⟨⟨_,by rw [HR.out];rfl,by rw [HR.out];exact a2c.nil _⟩,hB9⟩
  ·have HR:Hid (Zn.a4x z loc 1 fold=([loc - before],0)):=zA (by unfold Zn.a4x;rw [zQ ⟨HGB.out,by have:=HWL.out;omega⟩];unfold Zn.agw Zn.a2w;rw [← HRE.out];simp)
   have hix:∀ w,(Instr.index 106 (.agg #[.func (.func 100) #[] #[],.func (.func 101) #[] #[],.func (.func 102) #[] #[]]) (.int .i64 1)).run Tryz.prog w=.ok (.func (.func 101) #[] #[]) w:=fun w=>aew (i:=1) rfl w
   repeat' (first | (go_at_call 62;((with_reducible refine (HPO.out _).mono ?_));rintro e w9 ⟨rfl,rfl⟩;dsimp only) | (go_at_call 101;((with_reducible refine (HP2.out _).mono ?_));rintro e w10 ⟨rfl,rfl⟩;have hB9:=hB8.alloc hB8.size (.cells #[.func (.func 100) #[] #[],.func (.func 101) #[] #[],.func (.func 102) #[] #[]] 106);have an3:=hB9.alloc hB9.size (.cells #[(loc - before:Int)] 3);dsimp only)|go_skip|go_guarded|go_step|go_upon)
   go_returns;exact ⟨⟨_,by rw [HR.out];rfl,by rw [HR.out];exact a2c.one _ _⟩,an3⟩
  ·have HR:Hid (Zn.a4x z loc 2 fold=([edge],0)):=zA (by unfold Zn.a4x;rw [zQ ⟨HGB.out,by have:=HWL.out;omega⟩];unfold Zn.agw Zn.a2w;rw [← HRE.out];simp)
   have hix:∀ w,(Instr.index 106 (.agg #[.func (.func 100) #[] #[],.func (.func 101) #[] #[],.func (.func 102) #[] #[]]) (.int .i64 2)).run Tryz.prog w=.ok (.func (.func 102) #[] #[]) w:=fun w=>aew (i:=2) rfl w
   repeat' (first | (go_at_call 62;((with_reducible refine (HPO.out _).mono ?_));rintro e w9 ⟨rfl,rfl⟩;dsimp only) | (go_at_call 102;((with_reducible refine (HP3.out _).mono ?_));rintro e w10 ⟨rfl,rfl⟩;have hB9:=hB8.alloc hB8.size (.cells #[.func (.func 100) #[] #[],.func (.func 101) #[] #[],.func (.func 102) #[] #[]] 106);have an3:=hB9.alloc hB9.size (.cells #[edge] 3);dsimp only)|go_skip|go_guarded|go_step|go_upon)
   go_returns;exact ⟨⟨_,by rw [HR.out];rfl,by rw [HR.out];exact a2c.one _ _⟩,an3⟩
 | x :: xs,hle,hcap,HSQ,HGP,HRE =>
  have hn1:1≤(x :: xs).length:=by simp
  obtain ⟨n,hn⟩ : ∃ n,n=(x :: xs).length:=⟨_,rfl⟩
  have HNN:=zA hn
  rw [← hn] at hle hcap hn1 ⊢
  clear hn
  have hn0:((n:Int) == 0)=false:=vG.2 (by omega)
  have hn0':(n=0)=False:=eq_false (by omega)
  by_cases hf0:fold=0
  ·subst hf0
   have HR:Hid (Zn.a4x z loc gap 0=([x],0)):=zA (by unfold Zn.a4x;rw [zQ ⟨HGB.out,by have:=HWL.out;omega⟩];unfold Zn.agw Zn.a2w;rw [← HRE.out];simp)
   repeat'(first|go_skip|go_guarded|go_step|go_upon)
   go_returns;refine ⟨⟨.slice sa 1 sc,by rw [HR.out];rfl,?_⟩,hB8⟩;rw [HR.out];obtain ⟨b,o,row,T,fr,rfl,q1,q2⟩:=HSQ.out (by simp);refine ⟨⟨_,_,rfl,fun _=>⟨b,o,row,T,fr,rfl,q1,fun i hi=>?_⟩⟩,_,_,rfl,by show 1≤sc;omega⟩;(obtain rfl:i=0:=by simpa using hi);exact q2 0 (by simp)
  ·by_cases hf1:fold=1
   ·subst hf1
    have HR:Hid (Zn.a4x z loc gap 1=((x :: xs).drop (n - 1),0)):=zA (by unfold Zn.a4x;rw [zQ ⟨HGB.out,by have:=HWL.out;omega⟩];unfold Zn.agw Zn.a2w;rw [← HRE.out,HNN.out];simp)
    have wn1:IntKind.wrap .i64 ((n:Int) - 1)=((n - 1:Nat):Int):=by rw [wrap_in]<;>omega
    repeat'(first|go_skip|go_guarded|go_step|go_upon)
    go_returns;have hdl:=ajg HNN.out hn1;have HQ1:=zA (show n - (n - 1)=1 by omega);refine ⟨⟨.slice (Option.map (fun a=>a.add (n - 1)) sa) (n - (n - 1)) (sc - (n - 1)),by rw [HR.out];rfl,?_⟩,hB8⟩;rw [HR.out,hdl,HQ1.out];obtain ⟨b,o,row,T,fr,rfl,q1,q2⟩:=HSQ.out (by simp);refine ⟨⟨_,_,rfl,fun _=>⟨b,o+(n - 1),row,T,fr,by simp [Addr.add],q1,fun i hi=>?_⟩⟩,_,_,rfl,by show 1≤sc - (n - 1);omega⟩;(obtain rfl:i=0:=by simpa using hi);exact q2 (n - 1) (by rw [← HNN.out];omega)
   ·obtain rfl:fold=2:=by omega
    clear hf0 hf1;have HR:Hid (Zn.a4x z loc gap 2=(x :: xs,0)):=zA (by unfold Zn.a4x;rw [zQ ⟨HGB.out,by have:=HWL.out;omega⟩];unfold Zn.agw Zn.a2w;rw [← HRE.out];simp)
    repeat'(first|go_skip|go_guarded|go_step|go_upon)
    go_returns;refine ⟨⟨_,by rw [HR.out];rfl,?_⟩,hB8⟩;rw [HR.out];exact ⟨⟨sa,sc,by rw [HNN.out];rfl,HSQ.out⟩,sa,sc,by rw [HNN.out];rfl,by rw [← HNN.out];exact hcap⟩
end Go.Proofs.YtppjleebbjipbaaGreat
