/-
  zone.Changes.
-/
import Derived.Test.YtppjleebbjipbaaGreatQkZod
set_option linter.all false
namespace Go.Proofs.YtppjleebbjipbaaGreat
open Go.RowKit Go.Shelf
set_option maxRecDepth 20000
set_option maxHeartbeats 8000000
theorem acs (HO:OpenSpec) {W:World} {z:Zn.a0w} {mv rv tv yv:Value} (hv:a1q W z mv rv tv yv) (hzr:z.cal.rules.length < 9223372036854775808) (hzm:z.cal.a0g.length < 9223372036854775808) (f u:Int) :
  Calls Tryz.prog 35 #[.agg #[z.cal.a08,mv,z.cal.a0l,rv,z.start,tv,z.hor,yv],.int .i64 f,.int .i64 u] W fun e w'=>(∃ v,e=.returned (.tuple #[v,.int .i64 (Zn.adz z f u).2])∧a2b w' v (Zn.adz z f u).1)∧Below W W w':=by
 have om:=hv.cal.mon.one
 have orr:=hv.cal.rul.one
 have ot:=a1m.one hv.tr
 have oy:=a1m.one hv.yr
 have hon:ones #[z.cal.a08,mv,z.cal.a0l,rv,z.start,tv,z.hor,yv]=true:=a1b om orr ot oy
 have o0:obj (W.alloc (.cells #[z.cal.a08,mv,z.cal.a0l,rv,z.start,tv,z.hor,yv] 35)) W.heap.size=some (.cells #[z.cal.a08,mv,z.cal.a0l,rv,z.start,tv,z.hor,yv] 35 (0,0)):=a05 _ _ _ rfl
 have w1B:Below W W (W.alloc (.cells #[z.cal.a08,mv,z.cal.a0l,rv,z.start,tv,z.hor,yv] 35)):=bR.alloc (zD _) _
 have HX:=zA (HO (hv.below w1B) hzr hzm (InD.all (v:=tv) (l:=z.trans)))
 have HW1:=zA (fun Wq:World=>a1g (W:=Wq) (n:=f) (l:=2251799813685248) (by omega) (by omega))
 have HW2:=zA (fun Wq:World=>a1g (W:=Wq) (n:=u) (l:=2251799813685248) (by omega) (by omega))
 clear hv
 go_enter Tryz.func35,Tryz.ntmps35
 unfold a3z at HX
 cases hgb:Zn.a3o z
 ·rw [hgb] at HX
  have HR:Hid (Zn.adz z f u=([],1)):=zA (by unfold Zn.adz;rw [zS (fun h=>by rw [hgb] at h;cases h.1)])
  repeat' (first | (go_at_call 54;((with_reducible refine (HX.out).mono ?_));rintro e w5 ⟨⟨p,rfl,hg⟩,hB5⟩;have hB6:=w1B.trans (hB5.mono w1B.size);dsimp only)|go_skip|go_guarded|go_step|go_upon)
  go_returns
  exact ⟨⟨_,by rw [HR.out];rfl,by rw [HR.out];exact ⟨none,0,rfl,fun h=>(by simp at h)⟩⟩,hB6⟩
 rw [hgb] at HX
 have HG:=zA (Zn.a0v.1 hgb).ck
 by_cases hw : -2251799813685248≤f∧f≤2251799813685248;rotate_left
 ·rw [zW hw] at HW1
  have HR:Hid (Zn.adz z f u=([],1)):=zA (by unfold Zn.adz;rw [zS (fun h=>hw h.2.1)])
  repeat' (first | (go_at_call 54;((with_reducible refine (HX.out).mono ?_));rintro e w5 ⟨⟨p,rfl,hg⟩,hB5⟩;have hB6:=w1B.trans (hB5.mono w1B.size);obtain ⟨g,hpg,hck,hgg⟩:=hg rfl;subst hpg;dsimp only) | (go_at_call 55;((with_reducible refine (HW1.out _).mono ?_));rintro e w6 ⟨rfl,rfl⟩;dsimp only)|go_skip|go_guarded|go_step|go_upon)
  go_returns
  exact ⟨⟨_,by rw [HR.out];rfl,by rw [HR.out];exact ⟨none,0,rfl,fun h=>(by simp at h)⟩⟩,hB6⟩
 rw [zV hw] at HW1
 by_cases hu : -2251799813685248≤u∧u≤2251799813685248;rotate_left
 ·rw [zW hu] at HW2
  have HR:Hid (Zn.adz z f u=([],1)):=zA (by unfold Zn.adz;rw [zS (fun h=>hu h.2.2.1)])
  repeat' (first | (go_at_call 54;((with_reducible refine (HX.out).mono ?_));rintro e w5 ⟨⟨p,rfl,hg⟩,hB5⟩;have hB6:=w1B.trans (hB5.mono w1B.size);obtain ⟨g,hpg,hck,hgg⟩:=hg rfl;subst hpg;have HCH:=zA (a4l hck.clk HG.out (t:=f) (u:=u) (by omega) (by omega));dsimp only) | (go_at_call 55;((with_reducible refine (HW1.out _).mono ?_));rintro e w6 ⟨rfl,rfl⟩;dsimp only) | (go_at_call 55;((with_reducible refine (HW2.out _).mono ?_));rintro e w7 ⟨rfl,rfl⟩;dsimp only)|go_skip|go_guarded|go_step|go_upon)
  go_returns
  exact ⟨⟨_,by rw [HR.out];rfl,by rw [HR.out];exact ⟨none,0,rfl,fun h=>(by simp at h)⟩⟩,hB6⟩
 rw [zV hu] at HW2
 by_cases hfu:u < f
 ·have HR:Hid (Zn.adz z f u=([],1)):=zA (by unfold Zn.adz;rw [zS (fun h=>by have:=h.2.2.2;omega)])
  repeat' (first | (go_at_call 54;((with_reducible refine (HX.out).mono ?_));rintro e w5 ⟨⟨p,rfl,hg⟩,hB5⟩;have hB6:=w1B.trans (hB5.mono w1B.size);obtain ⟨g,hpg,hck,hgg⟩:=hg rfl;subst hpg;have HCH:=zA (a4l hck.clk HG.out (t:=f) (u:=u) (by omega) (by omega));dsimp only) | (go_at_call 55;((with_reducible refine (HW1.out _).mono ?_));rintro e w6 ⟨rfl,rfl⟩;dsimp only) | (go_at_call 55;((with_reducible refine (HW2.out _).mono ?_));rintro e w7 ⟨rfl,rfl⟩;dsimp only)|go_skip|go_guarded|go_step|go_upon)
  go_returns
  exact ⟨⟨_,by rw [HR.out];rfl,by rw [HR.out];exact ⟨none,0,rfl,fun h=>(by simp at h)⟩⟩,hB6⟩
 cases hcs:Zn.a2i z (Zn.ysT z) (Zn.a0s z) f u with
 | none =>
  have HR:Hid (Zn.adz z f u=([],2)):=zA (by unfold Zn.adz;rw [zQ ⟨hgb,hw,hu,by omega⟩,hcs])
  have HCS:=zA hcs
  clear hgb
  repeat' (first | (go_at_call 54;((with_reducible refine (HX.out).mono ?_));rintro e w5 ⟨⟨p,rfl,hg⟩,hB5⟩;have hB6:=w1B.trans (hB5.mono w1B.size);obtain ⟨g,hpg,hck,hgg⟩:=hg rfl;subst hpg;have HCH:=zA (a4l hck.clk HG.out (t:=f) (u:=u) (by omega) (by omega));rw [HCS.out] at HCH;dsimp only) | (go_at_call 55;((with_reducible refine (HW1.out _).mono ?_));rintro e w6 ⟨rfl,rfl⟩;dsimp only) | (go_at_call 55;((with_reducible refine (HW2.out _).mono ?_));rintro e w7 ⟨rfl,rfl⟩;dsimp only) | (go_at_call 73;((with_reducible refine (HCH.out).mono ?_));rintro e w8 ⟨⟨v,rfl,htv,_⟩,hB8⟩;have hB9:=hB6.trans (hB8.mono hB6.size);dsimp only)|go_skip|go_guarded|go_step|go_upon)
  go_returns
  exact ⟨⟨_,by rw [HR.out];rfl,by rw [HR.out];exact ⟨none,0,rfl,fun h=>(by simp at h)⟩⟩,hB9⟩
 | some l =>
  have HR:Hid (Zn.adz z f u=(l,0)):=zA (by unfold Zn.adz;rw [zQ ⟨hgb,hw,hu,by omega⟩,hcs])
  have HCS:=zA hcs
  clear hgb
  repeat' (first | (go_at_call 54;((with_reducible refine (HX.out).mono ?_));rintro e w5 ⟨⟨p,rfl,hg⟩,hB5⟩;have hB6:=w1B.trans (hB5.mono w1B.size);obtain ⟨g,hpg,hck,hgg⟩:=hg rfl;subst hpg;have HCH:=zA (a4l hck.clk HG.out (t:=f) (u:=u) (by omega) (by omega));rw [HCS.out] at HCH;dsimp only) | (go_at_call 55;((with_reducible refine (HW1.out _).mono ?_));rintro e w6 ⟨rfl,rfl⟩;dsimp only) | (go_at_call 55;((with_reducible refine (HW2.out _).mono ?_));rintro e w7 ⟨rfl,rfl⟩;dsimp only) | (go_at_call 73;((with_reducible refine (HCH.out).mono ?_));rintro e w8 ⟨⟨v,rfl,htv,_⟩,hB8⟩;have hB9:=hB6.trans (hB8.mono hB6.size);dsimp only)|go_skip|go_guarded|go_step|go_upon)
  go_returns
  exact ⟨⟨_,by rw [HR.out];rfl,by rw [HR.out];exact htv⟩,hB9⟩
end Go.Proofs.YtppjleebbjipbaaGreat
namespace Zn
def greg:Cal:=⟨7,[31,28,31,30,31,30,31,31,30,31,30,31],1,[⟨4,0,true⟩,⟨100,0,false⟩,⟨400,0,true⟩]⟩
def a15:a0w:=⟨greg,60,[],10080,[⟨3,5,6,120,120⟩,⟨10,5,6,180,60⟩]⟩
def small:a0w:=⟨⟨0,[7,7],-1,[]⟩,0,[],0,[⟨1,1,0,0,60⟩,⟨2,1,0,0,0⟩]⟩
end Zn
namespace Go.Proofs.YtppjleebbjipbaaGreat
open Go.RowKit Go.Shelf
set_option maxRecDepth 20000
set_option maxHeartbeats 8000000
theorem aem (W:World):Calls Tryz.prog 132 #[] W fun e w'=>e=.returned (.slice (some ⟨W.heap.size,0,none⟩) 12 12)∧W.alloc (.cells #[(31:Int),(28:Int),(31:Int),(30:Int),(31:Int),(30:Int),(31:Int),(31:Int),(30:Int),(31:Int),(30:Int),(31:Int)] 3)=w':=by
 go_enter Tryz.func132,Tryz.ntmps132
 repeat'(first|go_skip|go_guarded|go_step|go_upon)
 go_ret
 exact ⟨rfl,rfl⟩
theorem aku {W:World} {m r:Nat} (hm:obj W m=some (.cells #[(31:Int),(28:Int),(31:Int),(30:Int),(31:Int),(30:Int),(31:Int),(31:Int),(30:Int),(31:Int),(30:Int),(31:Int)] 3 (0,0))) (hr:obj W r=some (.cells #[(4:Int),(0:Int),.bool true,(100:Int),(0:Int),.bool false,(400:Int),(0:Int),.bool true] 95 (0,0))):a8w W Zn.greg (.slice (some ⟨m,0,none⟩) 12 12) (.slice (some ⟨r,0,none⟩) 3 3):=by
 refine ⟨⟨_,12,rfl,fun _=>⟨m,0,_,_,_,rfl,hm,fun i hi=>?_⟩⟩,⟨_,3,rfl,fun _=>⟨r,0,_,_,_,rfl,hr,fun i hi=>?_⟩⟩⟩
 ·have hi2:i < 12:=hi
  rcases i with _ | _ | _ | _ | _ | _ | _ | _ | _ | _ | _ | _ | i
  all_goals first | rfl | omega
 have hi2:i < 3:=hi
 rcases i with _ | _ | _ | i
 ·exact ⟨(by decide:3≤9),rfl⟩
 ·exact ⟨(by decide:6≤9),rfl⟩
 ·exact ⟨(by decide:9≤9),rfl⟩
 omega
theorem aeu (W:World):Calls Tryz.prog 93 #[.int .i64 0] W fun e w'=>(∃ m r,e=.returned (.tuple #[.agg #[(7:Int),.slice (some ⟨m,0,none⟩) 12 12,(1:Int),.slice (some ⟨r,0,none⟩) 3 3],.int .i64 0])∧W.heap.size < m∧W.heap.size < r∧obj w' m=some (.cells #[(31:Int),(28:Int),(31:Int),(30:Int),(31:Int),(30:Int),(31:Int),(31:Int),(30:Int),(31:Int),(30:Int),(31:Int)] 3 (0,0))∧obj w' r=some (.cells #[(4:Int),(0:Int),.bool true,(100:Int),(0:Int),.bool false,(400:Int),(0:Int),.bool true] 95 (0,0)))∧Below W W w':=by
 have c0:obj (((W.alloc (.cells #[(7:Int),.slice (some ⟨(W.heap.size+1),0,none⟩) 12 12,(1:Int),.slice (some ⟨(W.heap.size+1+1),0,none⟩) 3 3] 31)).alloc (.cells #[(31:Int),(28:Int),(31:Int),(30:Int),(31:Int),(30:Int),(31:Int),(31:Int),(30:Int),(31:Int),(30:Int),(31:Int)] 3)).alloc (.cells #[(4:Int),(0:Int),.bool true,(100:Int),(0:Int),.bool false,(400:Int),(0:Int),.bool true] 95)) W.heap.size=some (.cells #[(7:Int),.slice (some ⟨(W.heap.size+1),0,none⟩) 12 12,(1:Int),.slice (some ⟨(W.heap.size+1+1),0,none⟩) 3 3] 31 (0,0)):=a06 (a06 (a05 _ _ _ rfl) _) _
 have c1:obj (((W.alloc (.cells #[(7:Int),.slice (some ⟨(W.heap.size+1),0,none⟩) 12 12,(1:Int),.slice (some ⟨(W.heap.size+1+1),0,none⟩) 3 3] 31)).alloc (.cells #[(31:Int),(28:Int),(31:Int),(30:Int),(31:Int),(30:Int),(31:Int),(31:Int),(30:Int),(31:Int),(30:Int),(31:Int)] 3)).alloc (.cells #[(4:Int),(0:Int),.bool true,(100:Int),(0:Int),.bool false,(400:Int),(0:Int),.bool true] 95)) (W.heap.size+1)=some (.cells #[(31:Int),(28:Int),(31:Int),(30:Int),(31:Int),(30:Int),(31:Int),(31:Int),(30:Int),(31:Int),(30:Int),(31:Int)] 3 (0,0)):=a06 (a05 _ _ _ (by simp)) _
 have c2:obj (((W.alloc (.cells #[(7:Int),.slice (some ⟨(W.heap.size+1),0,none⟩) 12 12,(1:Int),.slice (some ⟨(W.heap.size+1+1),0,none⟩) 3 3] 31)).alloc (.cells #[(31:Int),(28:Int),(31:Int),(30:Int),(31:Int),(30:Int),(31:Int),(31:Int),(30:Int),(31:Int),(30:Int),(31:Int)] 3)).alloc (.cells #[(4:Int),(0:Int),.bool true,(100:Int),(0:Int),.bool false,(400:Int),(0:Int),.bool true] 95)) (W.heap.size+2)=some (.cells #[(4:Int),(0:Int),.bool true,(100:Int),(0:Int),.bool false,(400:Int),(0:Int),.bool true] 95 (0,0)):=a05 _ _ _ (by simp)
 have hB:Below W W (((W.alloc (.cells #[(7:Int),.slice (some ⟨(W.heap.size+1),0,none⟩) 12 12,(1:Int),.slice (some ⟨(W.heap.size+1+1),0,none⟩) 3 3] 31)).alloc (.cells #[(31:Int),(28:Int),(31:Int),(30:Int),(31:Int),(30:Int),(31:Int),(31:Int),(30:Int),(31:Int),(30:Int),(31:Int)] 3)).alloc (.cells #[(4:Int),(0:Int),.bool true,(100:Int),(0:Int),.bool false,(400:Int),(0:Int),.bool true] 95)):=((bR.alloc (zD _) _).alloc (by simp) _).alloc (by simp;omega) _
 have hon:ones #[(7:Int),.slice (some ⟨(W.heap.size+1),0,none⟩) 12 12,(1:Int),.slice (some ⟨(W.heap.size+1+1),0,none⟩) 3 3]=true:=by simp [ones,a0n,Value.oneCell']
 have HSO:=zA (fun Wq:World=>aem Wq)
 go_enter Tryz.func93,Tryz.ntmps93
 repeat' (first | (go_at_call 132;((with_reducible refine (HSO.out _).mono ?_));rintro e w5 ⟨rfl,rfl⟩;dsimp only)|go_skip|go_guarded|go_step|go_upon)
 refine yO (a0q rfl _ _ W.heap.size 31 _ (0,0) _ (.int .i64 0) rfl c0 Tryz.underlying31 rfl (by kernel_rfl) rfl) rfl ?_
 exact ⟨⟨_,_,rfl,by omega,by omega,c1,c2⟩,hB⟩
theorem aac (W:World) (z:Nat) (f:Nat→Array Value):a1m W (.slice none 0 0) 0 z f:=⟨none,0,rfl,fun h=>(by omega)⟩
theorem ai2 {W:World} {b:Nat} {row:Array Value} {x y:Zn.YR} (h:obj W b=some (.cells row 84 (0,0))) (hs:row.size=10) (h0:row.extract 0 5=age x) (h1:row.extract 5 10=age y):arw W (.slice (some ⟨b,0,none⟩) 2 2) [x,y] :=
 ⟨_,2,rfl,fun _=>⟨b,0,row,84,(0,0),rfl,h,fun i hi=>by
  have hi2:i < 2:=hi
  rcases i with _ | _ | i
  ·exact ⟨by omega,h0⟩
  ·exact ⟨by omega,h1⟩
  ·omega⟩⟩
theorem a8z (W:World):Calls Tryz.prog 50 #[] W fun e w'=>(∃ mv rv yv,e=.returned (.agg #[(7:Int),mv,(1:Int),rv,(60:Int),.slice none 0 0,(10080:Int),yv])∧a1q w' Zn.a15 mv rv (.slice none 0 0) yv)∧Below W W w':=by
 have HKN:=zA (fun Wq:World=>aeu Wq)
 have b1:obj (W.alloc (.cells #[(0:Int),.slice none 0 0,(0:Int),.slice none 0 0,(0:Int),.slice none 0 0,(0:Int),.slice none 0 0] 35)) W.heap.size=some (.cells #[(0:Int),.slice none 0 0,(0:Int),.slice none 0 0,(0:Int),.slice none 0 0,(0:Int),.slice none 0 0] 35 (0,0)):=a05 _ _ _ rfl
 have w1B:Below W W (W.alloc (.cells #[(0:Int),.slice none 0 0,(0:Int),.slice none 0 0,(0:Int),.slice none 0 0,(0:Int),.slice none 0 0] 35)):=bR.alloc (zD _) _
 go_enter Tryz.func50,Tryz.ntmps50
 repeat' (first | (go_at_call 93;((with_reducible refine (HKN.out _).mono ?_));rintro e w5 ⟨⟨m,r,rfl,hm,hr,hcm,hcr⟩,hB⟩;have b5:=a0a b1 hB;have w5B:=w1B.trans (hB.mono w1B.size);have c5:obj ((w5.alloc (.cells #[(7:Int),.slice (some ⟨m,0,none⟩) 12 12,(1:Int),.slice (some ⟨r,0,none⟩) 3 3] 31)).alloc (.cells #[(3:Int),(5:Int),(6:Int),(120:Int),(120:Int),(10:Int),(5:Int),(6:Int),(180:Int),(60:Int)] 84)) W.heap.size=some (.cells #[(0:Int),.slice none 0 0,(0:Int),.slice none 0 0,(0:Int),.slice none 0 0,(0:Int),.slice none 0 0] 35 (0,0)):=a06 (a06 b5 _) _;have y5:obj ((w5.alloc (.cells #[(7:Int),.slice (some ⟨m,0,none⟩) 12 12,(1:Int),.slice (some ⟨r,0,none⟩) 3 3] 31)).alloc (.cells #[(3:Int),(5:Int),(6:Int),(120:Int),(120:Int),(10:Int),(5:Int),(6:Int),(180:Int),(60:Int)] 84)) (w5.heap.size+1)=some (.cells #[(3:Int),(5:Int),(6:Int),(120:Int),(120:Int),(10:Int),(5:Int),(6:Int),(180:Int),(60:Int)] 84 (0,0)):=a05 _ _ _ (by simp);have wB5:Below W W ((w5.alloc (.cells #[(7:Int),.slice (some ⟨m,0,none⟩) 12 12,(1:Int),.slice (some ⟨r,0,none⟩) 3 3] 31)).alloc (.cells #[(3:Int),(5:Int),(6:Int),(120:Int),(120:Int),(10:Int),(5:Int),(6:Int),(180:Int),(60:Int)] 84)):=(w5B.alloc w5B.size _).alloc (yG w5B.size (by simp)) _;dsimp only)|go_skip|go_guarded|go_step|go_upon)
 have hne:w5.heap.size+1≠W.heap.size:=by have h1:=w5B.size;omega
 have hw1:(W.alloc (.cells #[(0:Int),.slice none 0 0,(0:Int),.slice none 0 0,(0:Int),.slice none 0 0,(0:Int),.slice none 0 0] 35)).heap.size=W.heap.size+1:=by simp
 refine yO (a1e rfl _ _ W.heap.size 35 _ (0,0) _ rfl (xB _ _ _ _ _ _ c5) Tryz.underlying35 rfl (by kernel_rfl)) rfl ?_
 exact ⟨⟨_,_,_,rfl,aku (a2q (a06 (a06 hcm _) _) (by omega) _) (a2q (a06 (a06 hcr _) _) (by omega) _),aac _ _ _,ai2 (a2q y5 hne _) rfl rfl rfl⟩,yX wB5 (zD _) _⟩
theorem a7d (W:World):Calls Tryz.prog 51 #[] W fun e w'=>(∃ mv yv,e=.returned (.agg #[(0:Int),mv,(-1:Int),.slice none 0 0,(0:Int),.slice none 0 0,(0:Int),yv])∧a1q w' Zn.small mv (.slice none 0 0) (.slice none 0 0) yv)∧Below W W w':=by
 have c0:obj ((((W.alloc (.cells #[(0:Int),.slice (some ⟨W.heap.size+1,0,none⟩) 2 2,(-1:Int),.slice none 0 0,(0:Int),.slice none 0 0,(0:Int),.slice (some ⟨W.heap.size+1+1+1,0,none⟩) 2 2] 35)).alloc (.cells #[(7:Int),(7:Int)] 3)).alloc (.cells #[(0:Int),.slice (some ⟨W.heap.size+1,0,none⟩) 2 2,(-1:Int),.slice none 0 0] 31)).alloc (.cells #[(1:Int),(1:Int),(0:Int),(0:Int),(60:Int),(2:Int),(1:Int),(0:Int),(0:Int),(0:Int)] 84)) W.heap.size=some (.cells #[(0:Int),.slice (some ⟨W.heap.size+1,0,none⟩) 2 2,(-1:Int),.slice none 0 0,(0:Int),.slice none 0 0,(0:Int),.slice (some ⟨W.heap.size+1+1+1,0,none⟩) 2 2] 35 (0,0)):=a06 (a06 (a06 (a05 _ _ _ rfl) _) _) _
 have c1:obj ((((W.alloc (.cells #[(0:Int),.slice (some ⟨W.heap.size+1,0,none⟩) 2 2,(-1:Int),.slice none 0 0,(0:Int),.slice none 0 0,(0:Int),.slice (some ⟨W.heap.size+1+1+1,0,none⟩) 2 2] 35)).alloc (.cells #[(7:Int),(7:Int)] 3)).alloc (.cells #[(0:Int),.slice (some ⟨W.heap.size+1,0,none⟩) 2 2,(-1:Int),.slice none 0 0] 31)).alloc (.cells #[(1:Int),(1:Int),(0:Int),(0:Int),(60:Int),(2:Int),(1:Int),(0:Int),(0:Int),(0:Int)] 84)) (W.heap.size+1)=some (.cells #[(7:Int),(7:Int)] 3 (0,0)):=a06 (a06 (a05 _ _ _ (by simp)) _) _
 have c3:obj ((((W.alloc (.cells #[(0:Int),.slice (some ⟨W.heap.size+1,0,none⟩) 2 2,(-1:Int),.slice none 0 0,(0:Int),.slice none 0 0,(0:Int),.slice (some ⟨W.heap.size+1+1+1,0,none⟩) 2 2] 35)).alloc (.cells #[(7:Int),(7:Int)] 3)).alloc (.cells #[(0:Int),.slice (some ⟨W.heap.size+1,0,none⟩) 2 2,(-1:Int),.slice none 0 0] 31)).alloc (.cells #[(1:Int),(1:Int),(0:Int),(0:Int),(60:Int),(2:Int),(1:Int),(0:Int),(0:Int),(0:Int)] 84)) (W.heap.size+1+1+1)=some (.cells #[(1:Int),(1:Int),(0:Int),(0:Int),(60:Int),(2:Int),(1:Int),(0:Int),(0:Int),(0:Int)] 84 (0,0)):=a05 _ _ _ (by simp)
 have hB:Below W W ((((W.alloc (.cells #[(0:Int),.slice (some ⟨W.heap.size+1,0,none⟩) 2 2,(-1:Int),.slice none 0 0,(0:Int),.slice none 0 0,(0:Int),.slice (some ⟨W.heap.size+1+1+1,0,none⟩) 2 2] 35)).alloc (.cells #[(7:Int),(7:Int)] 3)).alloc (.cells #[(0:Int),.slice (some ⟨W.heap.size+1,0,none⟩) 2 2,(-1:Int),.slice none 0 0] 31)).alloc (.cells #[(1:Int),(1:Int),(0:Int),(0:Int),(60:Int),(2:Int),(1:Int),(0:Int),(0:Int),(0:Int)] 84)):=(((bR.alloc (zD _) _).alloc (by simp) _).alloc (by simp;omega) _).alloc (by simp;omega) _
 go_enter Tryz.func51,Tryz.ntmps51
 repeat'(first|go_skip|go_guarded|go_step|go_upon)
 refine yO (a1e rfl _ _ W.heap.size 35 _ (0,0) _ rfl c0 Tryz.underlying35 rfl (by kernel_rfl)) rfl ?_
 exact ⟨⟨_,_,rfl,⟨⟨_,2,rfl,fun _=>⟨_,0,_,_,_,rfl,c1,fun i hi=>by
  have hi2:i < 2:=hi
  rcases i with _ | _ | i
  ·rfl
  ·rfl
  ·omega⟩⟩,aac _ _ _⟩,aac _ _ _,ai2 c3 rfl rfl rfl⟩,hB⟩
end Go.Proofs.YtppjleebbjipbaaGreat
namespace Go.Proofs.YtppjleebbjipbaaGreat
open Go.RowKit Go.Shelf
set_option maxRecDepth 20000
set_option maxHeartbeats 8000000
theorem ac9 {W:World} {va vb:Value} {a b:List Int} (ha:a1s W va a) (hb:a1s W vb b) (hal:a.length < 4611686018427387904) (hbl:b.length < 4611686018427387904) :
  Calls Tryz.prog 27 #[va,vb] W fun e w'=>e=.returned (.bool (decide (a=b)))∧Below W W w':=by
 have HA:=zA ha
 have HB:=zA hb
 obtain ⟨ao,ac,rfl⟩ : ∃ ao ac,va=.slice ao a.length ac:=by obtain ⟨x,y,h,_⟩:=ha;exact ⟨x,y,h⟩
 obtain ⟨bo,bc,rfl⟩ : ∃ bo bc,vb=.slice bo b.length bc:=by obtain ⟨x,y,h,_⟩:=hb;exact ⟨x,y,h⟩
 clear ha hb
 go_enter Tryz.func27,Tryz.ntmps27
 by_cases hl:a.length=b.length;rotate_left
 ·have e0:((a.length:Int) != (b.length:Int))=true:=wX.2 (by omega)
  have hd:Hid (decide (a=b)=false):=zA (zW (fun h=>hl (by rw [h])))
  repeat'(first|go_skip|go_guarded|go_step|go_upon)
  go_ret
  exact ⟨by rw [hd.out];rfl,zC _ _⟩
 have e0:((a.length:Int) != (b.length:Int))=false:=by rw [hl];exact bne_self_eq_false _
 repeat'(first|go_skip|go_guarded|go_step|go_upon)
 go_loopw [5] (fun i wr => ∃ k:Nat,k≤a.length∧i=.int .i64 k∧(∀ j,j < k→a.getD j 0=b.getD j 0)∧Below W W wr) (fun i _=>((a.length:Int) - intOf i).toNat)
 case atStart=>exact ⟨0,by omega,rfl,fun j hj=>absurd hj (yA j),zC _ _⟩
 obtain ⟨k,hk,rfl,hpre,hC⟩:=hrel
 have alx:=zA hpre
 clear hpre
 by_cases hlk:k < a.length;rotate_left
 ·have i1 : ¬ (k:Int) < (a.length:Int):=by omega
  have hab:a=b:=List.ext_getElem hl fun j h1 h2=>by
   have:=alx.out j (by omega)
   rwa [zB,zB,zK h1,zK h2] at this
  repeat'(first|go_skip|go_guarded|go_step|go_upon)
  go_ret
  exact ⟨by rw [zV hab];rfl,hC⟩
 have i1:(k:Int) < (a.length:Int):=by omega
 have hlkb:k < b.length:=by omega
 have i2:(k:Int) < (b.length:Int):=by omega
 have i3 : ¬ (k:Int) < 0:=by omega
 obtain ⟨b1,o1,aql,T1,fr1,q1⟩ : ∃ bq oq row T fr,ao=some ⟨bq,oq,none⟩∧obj wr bq=some (.cells row T fr)∧row[oq+k]? = some (.int .i64 (a.getD k 0)):=by
  obtain ⟨ao',c',h1,h2⟩:=a1s.below HA.out hC
  obtain ⟨b',o',row',T',fr',g1,g2,g3⟩:=h2 (by omega)
  injection h1 with ha hb hc
  exact ⟨b',o',row',T',fr',by rw [ha,g1],g2,g3 k (by omega)⟩
 obtain ⟨rfl,g1,k1⟩:=q1
 obtain ⟨x,hx1⟩ : ∃ x,a.getD k 0=x:=⟨_,rfl⟩
 rw [hx1] at k1
 have HXE:=zA hx1
 have c1:=a02 g1 (o1+k)
 rw [k1] at c1
 clear hx1 k1
 obtain ⟨b2,o2,aqk,T2,fr2,q2⟩ : ∃ bq oq row T fr,bo=some ⟨bq,oq,none⟩∧obj wr bq=some (.cells row T fr)∧row[oq+k]? = some (.int .i64 (b.getD k 0)):=by
  obtain ⟨ao',c',h1,h2⟩:=a1s.below HB.out hC
  obtain ⟨b',o',row',T',fr',g1,g2,g3⟩:=h2 (by omega)
  injection h1 with ha hb hc
  exact ⟨b',o',row',T',fr',by rw [ha,g1],g2,g3 k (by omega)⟩
 obtain ⟨rfl,g2,k2⟩:=q2
 obtain ⟨y,hx2⟩ : ∃ y,b.getD k 0=y:=⟨_,rfl⟩
 rw [hx2] at k2
 have HYE:=zA hx2
 have c2:=a02 g2 (o2+k)
 rw [k2] at c2
 clear hx2 k2
 by_cases hxy:x=y
 ·have e1:(x != y)=false:=by rw [hxy];exact bne_self_eq_false _
  repeat'(first|go_skip|go_guarded|go_step|go_upon)
  go_quiet (fail)
  have hC2:=below_drewN hC nq
  generalize wr.drewN nq=w9 at *
  repeat'(first|go_skip|go_guarded|go_step|go_upon)
  exact ⟨⟨k+1,by omega,by simp,fun j hj=>(zU j k).elim (fun h=>alx.out j h) (fun h=>by rw [show j=k by omega,HXE.out,HYE.out];exact hxy),hC2⟩,by simp only [intOf];omega⟩
 have e1:(x != y)=true:=wX.2 hxy
 repeat'(first|go_skip|go_guarded|go_step|go_upon)
 go_quiet (fail)
 have hC2:=below_drewN hC nq
 generalize wr.drewN nq=w9 at *
 repeat'(first|go_skip|go_guarded|go_step|go_upon)
 go_ret
 exact ⟨by rw [zW (fun h=>hxy (by rw [← HXE.out,← HYE.out,h]))];rfl,hC2⟩

@[go_sem] theorem aoe (w:World) (n g:Nat):obj (w.drewN n) g=obj w g:=rfl
theorem ako (z:Zn.a0w) (loc gap fold:Int):(Zn.a4x z loc gap fold).1.length≤2:=by
 unfold Zn.a4x
 split
 ·rename_i h
  have hl:=Zn.a9k (Zn.a0v.1 h.1) loc
  unfold Zn.agw
  dsimp only
  repeat' split
  all_goals first | (simp only [xI,yS,wR,List.length_drop];omega) | omega
 simp
theorem af0 (HO:OpenSpec) {W:World} {va:Value} {a:List Int} (ha:a1s W va a) (hal:a.length < 4611686018427387904) (loc gap fold:Int) :
  Calls Tryz.prog 52 #[.int .i64 loc,.int .i64 gap,.int .i64 fold,va] W fun e w'=>e=.returned (.bool (decide (Zn.a4x Zn.a15 loc gap fold=(a,0))))∧Below W W w':=by
 have HSU:=zA (fun Wq:World=>a8z Wq)
 have HIN:Hid (∀ (Wq:World) (mv rv yv:Value) (hv:a1q Wq Zn.a15 mv rv (.slice none 0 0) yv),Calls Tryz.prog 24 #[.agg #[(7:Int),mv,(1:Int),rv,(60:Int),.slice none 0 0,(10080:Int),yv],.int .i64 loc,.int .i64 gap,.int .i64 fold] Wq fun e w'=>(∃ v,e=.returned (.tuple #[v,.int .i64 (Zn.a4x Zn.a15 loc gap fold).2])∧a2c w' v (Zn.a4x Zn.a15 loc gap fold).1)∧Below Wq Wq w'):=zA (fun Wq mv rv yv hv=>a5g HO hv (by decide) (by decide) loc gap fold)
 have HA:=zA ha
 have HNU:=zA (fun (Wq:World) (vb:Value) (l:List Int) (h1:a1s Wq vb l) (h2:a1s Wq va a) (hl:l.length < 4611686018427387904)=>ac9 h1 h2 hl hal)
 clear ha
 have hlen:=ako Zn.a15 loc gap fold
 generalize Zn.a4x Zn.a15 loc gap fold=r at *
 obtain ⟨l,e0⟩:=r
 dsimp only at hlen HIN
 have HLE:=zA hlen
 clear hlen
 go_enter Tryz.func52,Tryz.ntmps52
 by_cases he:e0=0
 ·subst he
  have hd:Hid (decide ((l,(0:Int))=(a,0))=decide (l=a)):=zA (by simp)
  repeat' (first | (go_at_call 50;((with_reducible refine (HSU.out _).mono ?_));rintro e w5 ⟨⟨mv,rv,yv,rfl,hz⟩,hB5⟩;have HI:=zA (HIN.out _ _ _ _ hz);dsimp only) | (go_at_call 24;((with_reducible refine (HI.out).mono ?_));rintro e w6 ⟨⟨v,rfl,hiv⟩,hB6⟩;have hB6:=hB5.trans (hB6.mono hB5.size);have HN6:=zA (HNU.out _ _ _ hiv.1 (HA.out.below hB6) (by have:=HLE.out;omega));dsimp only) | (go_at_call 27;((with_reducible refine (HN6.out).mono ?_));rintro e w7 ⟨rfl,hB7⟩;have hB8:=hB6.trans (hB7.mono hB6.size);dsimp only)|go_skip|go_guarded|go_step|go_upon)
  go_ret
  exact ⟨by rw [hd.out];rfl,hB8⟩
 have hd:Hid (decide ((l,e0)=(a,0))=false):=zA (zW (fun h=>he (by injection h)))
 have he1:(e0 == 0)=false:=vG.2 he
 repeat' (first | (go_at_call 50;((with_reducible refine (HSU.out _).mono ?_));rintro e w5 ⟨⟨mv,rv,yv,rfl,hz⟩,hB5⟩;have HI:=zA (HIN.out _ _ _ _ hz);dsimp only) | (go_at_call 24;((with_reducible refine (HI.out).mono ?_));rintro e w6 ⟨⟨v,rfl,hiv⟩,hB6⟩;have hB6:=hB5.trans (hB6.mono hB5.size);dsimp only)|go_skip|go_guarded|go_step|go_upon)
 go_ret
 exact ⟨by rw [hd.out];rfl,hB6⟩
theorem ae8 {W:World} {va vb:Value} {a b:List Zn.Tr} (ha:a2b W va a) (hb:a2b W vb b) (hal:a.length < 4611686018427387904) (hbl:b.length < 4611686018427387904) :
  Calls Tryz.prog 45 #[va,vb] W fun e w'=>e=.returned (.bool (decide (a=b)))∧Below W W w':=by
 have HA:=zA ha
 have HB:=zA hb
 obtain ⟨ao,ac,rfl⟩ : ∃ ao ac,va=.slice ao a.length ac:=by obtain ⟨x,y,h,_⟩:=ha;exact ⟨x,y,h⟩
 obtain ⟨bo,bc,rfl⟩ : ∃ bo bc,vb=.slice bo b.length bc:=by obtain ⟨x,y,h,_⟩:=hb;exact ⟨x,y,h⟩
 clear ha hb
 go_enter Tryz.func45,Tryz.ntmps45
 by_cases hl:a.length=b.length;rotate_left
 ·have e0:((a.length:Int) != (b.length:Int))=true:=wX.2 (by omega)
  have hd:Hid (decide (a=b)=false):=zA (zW (fun h=>hl (by rw [h])))
  repeat'(first|go_skip|go_guarded|go_step|go_upon)
  go_ret
  exact ⟨by rw [hd.out];rfl,zC _ _⟩
 have e0:((a.length:Int) != (b.length:Int))=false:=by rw [hl];exact bne_self_eq_false _
 repeat'(first|go_skip|go_guarded|go_step|go_upon)
 go_loopw [5] (fun i wr => ∃ k:Nat,k≤a.length∧i=.int .i64 k∧(∀ j,j < k→a.getD j default=b.getD j default)∧Below W W wr) (fun i _=>((a.length:Int) - intOf i).toNat)
 case atStart=>exact ⟨0,by omega,rfl,fun j hj=>absurd hj (yA j),zC _ _⟩
 obtain ⟨k,hk,rfl,hpre,hC⟩:=hrel
 have alx:=zA hpre
 clear hpre
 by_cases hlk:k < a.length;rotate_left
 ·have i1 : ¬ (k:Int) < (a.length:Int):=by omega
  have hab:a=b:=List.ext_getElem hl fun j h1 h2=>by
   have:=alx.out j (by omega)
   rwa [zB,zB,zK h1,zK h2] at this
  repeat'(first|go_skip|go_guarded|go_step|go_upon)
  go_ret
  exact ⟨by rw [zV hab];rfl,hC⟩
 have i1:(k:Int) < (a.length:Int):=by omega
 have hlkb:k < b.length:=by omega
 have i2:(k:Int) < (b.length:Int):=by omega
 have i3 : ¬ (k:Int) < 0:=by omega
 obtain ⟨b1,o1,cc1,aql,T1,fr1,hv1,g1,q1⟩:=a2b.open (a1m.below HA.out hC) (by omega)
 obtain ⟨rfl,hcc1⟩:ao=some ⟨b1,o1,none⟩∧ac=cc1:=by injection hv1 with a b c;exact ⟨a,c⟩
 obtain ⟨z1,k1⟩:=q1 k (by omega)
 obtain ⟨x,hx1⟩ : ∃ x,a.getD k default=x:=⟨_,rfl⟩
 rw [hx1] at k1
 have HXE:=zA hx1
 have zz1:(o1+k * 2+2≤aql.size)=True:=xN z1
 clear hx1 q1 hv1 z1
 obtain ⟨b2,o2,cc2,aqk,T2,fr2,hv2,g2,q2⟩:=a2b.open (a1m.below HB.out hC) (by omega)
 obtain ⟨rfl,hcc2⟩:bo=some ⟨b2,o2,none⟩∧bc=cc2:=by injection hv2 with a b c;exact ⟨a,c⟩
 obtain ⟨z2,k2⟩:=q2 k (by omega)
 obtain ⟨y,hx2⟩ : ∃ y,b.getD k default=y:=⟨_,rfl⟩
 rw [hx2] at k2
 have HYE:=zA hx2
 have zz2:(o2+k * 2+2≤aqk.size)=True:=xN z2
 clear hx2 q2 hv2 z2
 by_cases hxy:x=y
 ·have e1:(x=y):=hxy
  subst hxy
  repeat'(first|go_skip|go_guarded|go_step|go_upon)
  go_quiet (fail)
  have hC2:=below_drewN hC nq
  generalize wr.drewN nq=w9 at *
  repeat'(first|go_skip|go_guarded|go_step|go_upon)
  exact ⟨⟨k+1,by omega,by simp,fun j hj=>(zU j k).elim (fun h=>alx.out j h) (fun h=>by rw [show j=k by omega,HXE.out,HYE.out]),hC2⟩,by simp only [intOf];omega⟩
 by_cases ht:x.tm=y.tm
 ·have ho:x.off≠y.off:=fun h=>hxy (by cases x;cases y;cases ht;cases h;rfl)
  have e1:(x.tm == y.tm)=true:=beq_iff_eq.2 ht
  have e2:(x.off == y.off)=false:=vG.2 ho
  repeat'(first|go_skip|go_guarded|go_step|go_upon)
  go_quiet (fail)
  have hC2:=below_drewN hC nq
  generalize wr.drewN nq=w9 at *
  repeat'(first|go_skip|go_guarded|go_step|go_upon)
  go_ret
  exact ⟨by rw [zW (fun h=>hxy (by rw [← HXE.out,← HYE.out,h]))];rfl,hC2⟩
 have e1:(x.tm == y.tm)=false:=vG.2 ht
 repeat'(first|go_skip|go_guarded|go_step|go_upon)
 go_quiet (fail)
 have hC2:=below_drewN hC nq
 generalize wr.drewN nq=w9 at *
 repeat'(first|go_skip|go_guarded|go_step|go_upon)
 go_ret
 exact ⟨by rw [zW (fun h=>hxy (by rw [← HXE.out,← HYE.out,h]))];rfl,hC2⟩

end Go.Proofs.YtppjleebbjipbaaGreat
