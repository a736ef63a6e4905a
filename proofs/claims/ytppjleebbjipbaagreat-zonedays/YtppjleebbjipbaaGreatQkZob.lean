/-
  zone: Valid, Offset, Local.
-/
import Derived.Test.YtppjleebbjipbaaGreatQkZpa
set_option linter.all false
namespace Go.Proofs.YtppjleebbjipbaaGreat
open Go.RowKit Go.Shelf
set_option maxRecDepth 20000
set_option maxHeartbeats 8000000
theorem af9 (HO:OpenSpec) {W:World} {z:Zn.a0w} {mv rv tv yv:Value} (hv:a1q W z mv rv tv yv) (hzr:z.cal.rules.length < 9223372036854775808) (hzm:z.cal.a0g.length < 9223372036854775808) :
  Calls Tryz.prog 26 #[.agg #[z.cal.a08,mv,z.cal.a0l,rv,z.start,tv,z.hor,yv]] W fun e w'=>e=.returned (.int .i64 (Zn.a2l z))∧Below W W w':=by
 have om:=hv.cal.mon.one
 have orr:=hv.cal.rul.one
 have ot:=a1m.one hv.tr
 have oy:=a1m.one hv.yr
 have hon:ones #[z.cal.a08,mv,z.cal.a0l,rv,z.start,tv,z.hor,yv]=true:=a1b om orr ot oy
 have o0:obj (W.alloc (.cells #[z.cal.a08,mv,z.cal.a0l,rv,z.start,tv,z.hor,yv] 35)) W.heap.size=some (.cells #[z.cal.a08,mv,z.cal.a0l,rv,z.start,tv,z.hor,yv] 35 (0,0)):=a05 _ _ _ rfl
 have w1B:Below W W (W.alloc (.cells #[z.cal.a08,mv,z.cal.a0l,rv,z.start,tv,z.hor,yv] 35)):=bR.alloc (zD _) _
 have HX:=zA (HO (hv.below w1B) hzr hzm (InD.all (v:=tv) (l:=z.trans)))
 obtain ⟨ta,tc,htl⟩:=a2b.ajx hv.tr
 subst htl
 have c2:=a02 o0 5
 clear hv
 go_enter Tryz.func26,Tryz.ntmps26
 by_cases aj8:512 < z.trans.length
 ·have anz:(512:Int) < (z.trans.length:Int):=by omega
  have HR:Hid (Zn.a2l z=2):=zA (by unfold Zn.a2l;rw [zQ aj8])
  clear aj8
  repeat'(first|go_skip|go_guarded|go_step|go_upon)
  go_ret
  exact ⟨by rw [HR.out];rfl,w1B⟩
 have anz : ¬ (512:Int) < (z.trans.length:Int):=by omega
 cases hgb:Zn.a3o z
 ·have HR:Hid (Zn.a2l z=1):=zA (by unfold Zn.a2l;rw [zS aj8,zS (by rw [hgb];decide)])
  clear aj8
  unfold a3z at HX
  rw [hgb] at HX
  repeat' (first | (go_at_call 54;((with_reducible refine (HX.out).mono ?_));rintro e w5 ⟨⟨p,rfl,hg⟩,hB5⟩;have hB6:=w1B.trans (hB5.mono w1B.size);dsimp only)|go_skip|go_guarded|go_step|go_upon)
  go_ret
  exact ⟨by rw [HR.out];rfl,hB6⟩
 have HR:Hid (Zn.a2l z=0):=zA (by unfold Zn.a2l;rw [zS aj8,zQ hgb])
 clear aj8
 unfold a3z at HX
 rw [hgb] at HX
 repeat' (first | (go_at_call 54;((with_reducible refine (HX.out).mono ?_));rintro e w5 ⟨⟨p,rfl,hg⟩,hB5⟩;have hB6:=w1B.trans (hB5.mono w1B.size);dsimp only)|go_skip|go_guarded|go_step|go_upon)
 go_ret
 exact ⟨by rw [HR.out];rfl,hB6⟩
theorem a6n (HO:OpenSpec) {W:World} {z:Zn.a0w} {mv rv tv yv:Value} (hv:a1q W z mv rv tv yv) (hzr:z.cal.rules.length < 9223372036854775808) (hzm:z.cal.a0g.length < 9223372036854775808) (t:Int) :
  Calls Tryz.prog 18 #[.agg #[z.cal.a08,mv,z.cal.a0l,rv,z.start,tv,z.hor,yv],.int .i64 t] W fun e w'=>e=.returned (.tuple #[.int .i64 (Zn.ac8 z t).1,.int .i64 (Zn.ac8 z t).2])∧Below W W w':=by
 have om:=hv.cal.mon.one
 have orr:=hv.cal.rul.one
 have ot:=a1m.one hv.tr
 have oy:=a1m.one hv.yr
 have hon:ones #[z.cal.a08,mv,z.cal.a0l,rv,z.start,tv,z.hor,yv]=true:=a1b om orr ot oy
 have o0:obj (W.alloc (.cells #[z.cal.a08,mv,z.cal.a0l,rv,z.start,tv,z.hor,yv] 35)) W.heap.size=some (.cells #[z.cal.a08,mv,z.cal.a0l,rv,z.start,tv,z.hor,yv] 35 (0,0)):=a05 _ _ _ rfl
 have w1B:Below W W (W.alloc (.cells #[z.cal.a08,mv,z.cal.a0l,rv,z.start,tv,z.hor,yv] 35)):=bR.alloc (zD _) _
 have HX:=zA (HO (hv.below w1B) hzr hzm (InD.all (v:=tv) (l:=z.trans)))
 have HWI:=zA (fun Wq:World=>a1g (W:=Wq) (n:=t) (l:=2251799813685248) (by omega) (by omega))
 clear hv
 go_enter Tryz.func18,Tryz.ntmps18
 unfold a3z at HX
 cases hgb:Zn.a3o z
 ·have HR:Hid (Zn.ac8 z t=(0,1)):=zA (by unfold Zn.ac8;rw [zS (fun h=>by rw [hgb] at h;cases h.1)])
  rw [hgb] at HX
  repeat' (first | (go_at_call 54;((with_reducible refine (HX.out).mono ?_));rintro e w5 ⟨⟨p,rfl,hg⟩,hB5⟩;have hB6:=w1B.trans (hB5.mono w1B.size);dsimp only)|go_skip|go_guarded|go_step|go_upon)
  go_returns
  exact ⟨by rw [HR.out];rfl,hB6⟩
 rw [hgb] at HX
 have HG:=zA (Zn.a0v.1 hgb).ck
 by_cases hw : -2251799813685248≤t∧t≤2251799813685248
 ·have HR:Hid (Zn.ac8 z t=(Zn.a2u z t,0)):=zA (by unfold Zn.ac8;rw [zQ ⟨hgb,hw⟩])
  rw [zV hw] at HWI
  clear hgb
  repeat' (first | (go_at_call 54;((with_reducible refine (HX.out).mono ?_));rintro e w5 ⟨⟨p,rfl,hg⟩,hB5⟩;have hB6:=w1B.trans (hB5.mono w1B.size);obtain ⟨g,hpg,hck,hgg⟩:=hg rfl;subst hpg;have HOF:=zA (a96 hck.clk HG.out (t:=t) (by omega) (by omega));dsimp only) | (go_at_call 55;((with_reducible refine (HWI.out _).mono ?_));rintro e w6 ⟨rfl,rfl⟩;dsimp only) | (go_at_call 56;((with_reducible refine (HOF.out).mono ?_));rintro e w7 ⟨rfl,hB7⟩;have hB8:=hB6.trans (hB7.mono hB6.size);dsimp only)|go_skip|go_guarded|go_step|go_upon)
  go_returns
  exact ⟨by rw [HR.out];rfl,hB8⟩
 have HR:Hid (Zn.ac8 z t=(0,1)):=zA (by unfold Zn.ac8;rw [zS (fun h=>hw h.2)])
 rw [zW hw] at HWI
 clear hgb
 repeat' (first | (go_at_call 54;((with_reducible refine (HX.out).mono ?_));rintro e w5 ⟨⟨p,rfl,hg⟩,hB5⟩;have hB6:=w1B.trans (hB5.mono w1B.size);dsimp only) | (go_at_call 55;((with_reducible refine (HWI.out _).mono ?_));rintro e w6 ⟨rfl,rfl⟩;dsimp only)|go_skip|go_guarded|go_step|go_upon)
 go_returns
 exact ⟨by rw [HR.out];rfl,hB6⟩
theorem aau (HO:OpenSpec) {W:World} {z:Zn.a0w} {mv rv tv yv:Value} (hv:a1q W z mv rv tv yv) (hzr:z.cal.rules.length < 9223372036854775808) (hzm:z.cal.a0g.length < 9223372036854775808) (t:Int) :
  Calls Tryz.prog 20 #[.agg #[z.cal.a08,mv,z.cal.a0l,rv,z.start,tv,z.hor,yv],.int .i64 t] W fun e w'=>e=.returned (.tuple #[.int .i64 (Zn.aip z t).1,.int .i64 (Zn.aip z t).2])∧Below W W w':=by
 have om:=hv.cal.mon.one
 have orr:=hv.cal.rul.one
 have ot:=a1m.one hv.tr
 have oy:=a1m.one hv.yr
 have hon:ones #[z.cal.a08,mv,z.cal.a0l,rv,z.start,tv,z.hor,yv]=true:=a1b om orr ot oy
 have o0:obj (W.alloc (.cells #[z.cal.a08,mv,z.cal.a0l,rv,z.start,tv,z.hor,yv] 35)) W.heap.size=some (.cells #[z.cal.a08,mv,z.cal.a0l,rv,z.start,tv,z.hor,yv] 35 (0,0)):=a05 _ _ _ rfl
 have w1B:Below W W (W.alloc (.cells #[z.cal.a08,mv,z.cal.a0l,rv,z.start,tv,z.hor,yv] 35)):=bR.alloc (zD _) _
 have HX:=zA (a6n HO (hv.below w1B) hzr hzm t)
 clear hv
 go_enter Tryz.func20,Tryz.ntmps20
 by_cases h:Zn.a3o z=true∧-2251799813685248≤t∧t≤2251799813685248
 ·have HR:Hid (Zn.aip z t=(t+Zn.a2u z t,0)):=zA (by unfold Zn.aip;rw [zQ h])
  have HQ:Zn.ac8 z t=(Zn.a2u z t,0):=by unfold Zn.ac8;rw [zQ h]
  rw [HQ] at HX
  have hoo : -1080≤Zn.a2u z t∧Zn.a2u z t≤1080:=Zn.abn (Zn.a0v.1 h.1).ck t
  clear HQ
  obtain ⟨_,h1,h2⟩:=h
  generalize Zn.a2u z t=o at *
  have wto:=zWI (t+o)
  repeat' (first | (go_at_call 18;((with_reducible refine (HX.out).mono ?_));rintro e w5 ⟨rfl,hB5⟩;have hB6:=w1B.trans (hB5.mono w1B.size);dsimp only)|go_skip|go_guarded|go_step|go_upon)
  go_returns
  exact ⟨by rw [HR.out];rfl,hB6⟩
 have HR:Hid (Zn.aip z t=(0,1)):=zA (by unfold Zn.aip;rw [zS h])
 have HQ:Zn.ac8 z t=(0,1):=by unfold Zn.ac8;rw [zS h]
 rw [HQ] at HX
 clear HQ h
 repeat' (first | (go_at_call 18;((with_reducible refine (HX.out).mono ?_));rintro e w5 ⟨rfl,hB5⟩;have hB6:=w1B.trans (hB5.mono w1B.size);dsimp only)|go_skip|go_guarded|go_step|go_upon)
 go_returns
 exact ⟨by rw [HR.out];rfl,hB6⟩
end Go.Proofs.YtppjleebbjipbaaGreat
namespace Go.Proofs.YtppjleebbjipbaaGreat
open Go.RowKit Go.Shelf
set_option maxRecDepth 20000
theorem a7u {t e:TypeId} {n:Nat} {cs:Array Value} {i:Nat} {v:Value} (hu:Tryz.prog.underlying t=some (.array n e)) (hi:i < n) (hz:∀ w,(Go.sizeOf e).run Tryz.prog w=.ok 1 w) (ha:∀ w,(isAgg e).run Tryz.prog w=.ok false w) (hv:cs[i]? = some v) (w:World) :
  (Instr.index t (.agg cs) (.int .i64 (i:Int))).run Tryz.prog w=.ok v w:=by
 have hi2:(i:Int) < (n:Int):=by omega
 simp [Instr.index,asIntOf,vV,vS hu,Result.andThen,part,hz,ha,hi,hv]
theorem ace {i:Nat} {k:Int} (h:([1,0,2]:List Int)[i]? = some k) (w:World):(Instr.index 103 (.agg #[(1:Int),(0:Int),(2:Int)]) (.int .i64 (i:Int))).run Tryz.prog w=.ok (.int .i64 k) w:=by
 have hi:i < 3:=(vK.1 h).1
 refine a7u Tryz.underlying103 hi Tryz.sizeOf3 Tryz.isAgg3 ?_ w
 match i,h with
 | 0,h=>cases h;rfl
 | 1,h=>cases h;rfl
 | 2,h=>cases h;rfl
theorem aew {i:Nat} {v:Value} (h:(#[.func (.func 100) #[] #[],.func (.func 101) #[] #[],.func (.func 102) #[] #[]]:Array Value)[i]? = some v) (w:World) :
  (Instr.index 106 (.agg #[.func (.func 100) #[] #[],.func (.func 101) #[] #[],.func (.func 102) #[] #[]]) (.int .i64 (i:Int))).run Tryz.prog w=.ok v w:=by
 have hi:i < 3:=(zL.1 h).1
 exact a7u Tryz.underlying106 hi Tryz.sizeOf105 Tryz.isAgg105 h w
end Go.Proofs.YtppjleebbjipbaaGreat
