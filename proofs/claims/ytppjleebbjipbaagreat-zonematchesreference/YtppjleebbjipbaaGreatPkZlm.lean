/-
  The law ZoneMatchesReference.
-/
import Derived.Test.YtppjleebbjipbaaGreatPkZl
import Derived.Test.YtppjleebbjipbaaGreatPkZqm
set_option linter.unusedSectionVars false
set_option linter.constructorNameAsVariable false
set_option linter.unusedVariables false
set_option linter.unusedSimpArgs false
namespace Go.Proofs.YtppjleebbjipbaaGreat
open Go.RowKit Go.Shelf
set_option maxRecDepth 20000
set_option maxHeartbeats 8000000
theorem near_calls (W:World) (t:Int):Calls Tryz.prog 17 #[.int .i64 t] W fun e w'=>(∃ r:Int,e=.returned (.int .i64 r))∧Below W.heap.size W w':=by
 go_enter Tryz.func17,Tryz.ntmps17
 by_cases h1:400000 < t
 ·by_cases h2:t≤2251799813685248
  ·have rt:Int.tmod t 400000=t % 400000:=Int.tmod_eq_emod_of_nonneg (by omega)
   have wr:IntKind.wrap .i64 (t % 400000)=t % 400000:=by rw [wrap_in]<;>omega
   repeat'(first|go_skip|go_guarded|go_step|go_upon)
   go_ret
   exact ⟨⟨_,rfl⟩,Below.refl _ _⟩
  ·have h3 : ¬ t < -20000:=by omega
   repeat'(first|go_skip|go_guarded|go_step|go_upon)
   go_ret
   exact ⟨⟨_,rfl⟩,Below.refl _ _⟩
 ·by_cases h3:t < -20000
  ·by_cases h4 : -2251799813685248≤t
   ·repeat'(first|go_skip|go_guarded|go_step|go_upon)
    go_ret
    exact ⟨⟨_,rfl⟩,Below.refl _ _⟩
   ·repeat'(first|go_skip|go_guarded|go_step|go_upon)
    go_ret
    exact ⟨⟨_,rfl⟩,Below.refl _ _⟩
  ·repeat'(first|go_skip|go_guarded|go_step|go_upon)
   go_ret
   exact ⟨⟨_,rfl⟩,Below.refl _ _⟩
theorem zoneMatchesReference_calls {W:World} {x:Zn.Raw} {gv ov:Value} (hx:x.In) (hgv:U8V W gv x.a6v) (hov:U8V W ov x.a5z) (t:Int) {p:Nat} (hp:p < 256) :
  Calls Tryz.prog 3 #[.agg #[.int .u8 (x.start:Nat),gv,ov,.int .u8 (x.behind:Nat),.int .u8 (x.y0:Nat),.int .u8 (x.y1:Nat),.int .u8 (x.y2:Nat),.int .u8 (x.y3:Nat),.int .u8 (x.y4:Nat),.int .u8 (x.y5:Nat),.int .u8 (x.y6:Nat),.int .u8 (x.y7:Nat),.int .u8 (x.cal:Nat),.bool x.rules],.int .i64 t,.int .u8 (p:Nat)] W fun e w'=>e=.returned (.bool true)∧Below W.heap.size W w':=by
 have HO:OpenSpec:=a9r ad3
 have HGV:=Lib.hid hgv
 have HOV:=Lib.hid hov
 obtain ⟨ga,gc,rfl⟩ : ∃ a c,gv=.slice a x.a6v.length c:=by obtain ⟨a,c,h,_⟩:=hgv;exact ⟨a,c,h⟩
 obtain ⟨oa,oc,rfl⟩ : ∃ a c,ov=.slice a x.a5z.length c:=by obtain ⟨a,c,h,_⟩:=hov;exact ⟨a,c,h⟩
 clear hgv hov
 have hon:ones #[.int .u8 (x.start:Nat),.slice ga x.a6v.length gc,.slice oa x.a5z.length oc,.int .u8 (x.behind:Nat),.int .u8 (x.y0:Nat),.int .u8 (x.y1:Nat),.int .u8 (x.y2:Nat),.int .u8 (x.y3:Nat),.int .u8 (x.y4:Nat),.int .u8 (x.y5:Nat),.int .u8 (x.y6:Nat),.int .u8 (x.y7:Nat),.int .u8 (x.cal:Nat),.bool x.rules]=true:=by simp [ones,a0n,Value.oneCell']
 have wVB:Below W.heap.size W (W.alloc (.cells #[.int .u8 (x.start:Nat),.slice ga x.a6v.length gc,.slice oa x.a5z.length oc,.int .u8 (x.behind:Nat),.int .u8 (x.y0:Nat),.int .u8 (x.y1:Nat),.int .u8 (x.y2:Nat),.int .u8 (x.y3:Nat),.int .u8 (x.y4:Nat),.int .u8 (x.y5:Nat),.int .u8 (x.y6:Nat),.int .u8 (x.y7:Nat),.int .u8 (x.cal:Nat),.bool x.rules] 26)):=(Below.refl _ _).alloc (Nat.le_refl _) _
 have o0:=a05 (w:=W) (.cells #[.int .u8 (x.start:Nat),.slice ga x.a6v.length gc,.slice oa x.a5z.length oc,.int .u8 (x.behind:Nat),.int .u8 (x.y0:Nat),.int .u8 (x.y1:Nat),.int .u8 (x.y2:Nat),.int .u8 (x.y3:Nat),.int .u8 (x.y4:Nat),.int .u8 (x.y5:Nat),.int .u8 (x.y6:Nat),.int .u8 (x.y7:Nat),.int .u8 (x.cal:Nat),.bool x.rules] 26) W.heap.size rfl
 obtain ⟨z,hz⟩ : ∃ z,z=Zn.made x:=⟨_,rfl⟩
 have HZ:=Lib.hid hz
 have hgd:Zn.Good z:=hz ▸ Zn.adm hx
 have hlk:Zn.ane z:=hz ▸ Zn.akj x
 have HX:=Lib.hid hx
 clear hz hx
 go_enter Tryz.func3,Tryz.ntmps3
 repeat' ((go_not_at_region 1);(first|go_skip|go_guarded|go_step|go_upon))
 generalize (W.alloc (.cells #[.int .u8 (x.start:Nat),.slice ga x.a6v.length gc,.slice oa x.a5z.length oc,.int .u8 (x.behind:Nat),.int .u8 (x.y0:Nat),.int .u8 (x.y1:Nat),.int .u8 (x.y2:Nat),.int .u8 (x.y3:Nat),.int .u8 (x.y4:Nat),.int .u8 (x.y5:Nat),.int .u8 (x.y6:Nat),.int .u8 (x.y7:Nat),.int .u8 (x.cal:Nat),.bool x.rules] 26))=V at *
 repeat' ((go_not_at_region 2);(first | (go_at_call 15;((with_reducible refine ((ada _).mono ?_)));rintro e w2 ⟨rfl,hB'⟩;have hB2:=wVB.trans (hB'.mono wVB.size);have p0:=a0a o0 hB';dsimp only)|go_skip|go_guarded|go_step|go_upon))
 have HMD:=Lib.hid (aoh HZ.out HX.out (HGV.out.below hB2) (HOV.out.below hB2))
 repeat' ((go_not_at_region 3);(first | (go_at_call 16;((with_reducible refine ((HMD.out).mono ?_)));rintro e w3 ⟨⟨mv,rv,tv,yv,rfl,hzs⟩,hB'⟩;have hB3:=hB2.trans (hB'.mono hB2.size);have q0:=a0a p0 hB';have ar2:=a1b hzs.cal.mon.one hzs.cal.rul.one (a1m.one hzs.tr) (a1m.one hzs.yr) (a:=z.cal.a08) (b:=z.cal.a0l) (c:=z.start) (d:=z.hor);dsimp only)|go_skip|go_guarded|go_step|go_upon))
 have A1:=(Below.refl w3.heap.size w3).alloc (Nat.le_refl _) (.cells #[.int .i64 z.cal.a08,mv,.int .i64 z.cal.a0l,rv,.int .i64 z.start,tv,.int .i64 z.hor,yv] 35)
 have oz:obj (w3.alloc (.cells #[.int .i64 z.cal.a08,mv,.int .i64 z.cal.a0l,rv,.int .i64 z.start,tv,.int .i64 z.hor,yv] 35)) w3.heap.size=some (.cells #[.int .i64 z.cal.a08,mv,.int .i64 z.cal.a0l,rv,.int .i64 z.start,tv,.int .i64 z.hor,yv] 35 (0,0)):=a05 _ _ _ rfl
 have s0:=a0a q0 A1
 have hzv:=hzs.below A1
 have aoo:=hzv
 have hBV:=hB3.trans (A1.mono hB3.size)
 generalize hU:w3.alloc (.cells #[.int .i64 z.cal.a08,mv,.int .i64 z.cal.a0l,rv,.int .i64 z.start,tv,.int .i64 z.hor,yv] 35)=U at *
 generalize w3.heap.size=bz at *
 have HZV:=Lib.hid (fun (Wq:World) (hq:Below U.heap.size U Wq)=>hzv.below hq)
 have hb0:=Below.refl U.heap.size U
 clear HMD HGV HOV hon ar2 hzs hzv A1 hU hB3 hB2 wVB
 repeat' ((go_not_at_region 4);(first | (go_at_call 17;((with_reducible refine (near_calls _ _).mono ?_));rintro e u0 ⟨⟨n,rfl⟩,hB'⟩;have hb00:=hb0.trans (hB'.mono hb0.size);have oz0:=a0a oz hB';dsimp only)|go_skip|go_guarded|go_step|go_upon))
 have hb0:=hb00
 have rt1:Int.tmod (p:Int) 8=((p % 8:Nat):Int):=by rw [Int.tmod_eq_emod_of_nonneg (by omega)];omega
 have wr1:IntKind.wrap .u8 ((p % 8:Nat):Int)=((p % 8:Nat):Int):=by rw [IntKind.wrap_u8];omega
 have wr2:IntKind.wrap .i64 ((p % 8:Nat):Int)=((p % 8:Nat):Int):=by rw [wrap_in]<;>omega
 have wr3:IntKind.wrap .i64 (((p % 8:Nat):Int) - 2)=((p % 8:Nat):Int) - 2:=by rw [wrap_in]<;>omega
 have rt4:Int.tdiv (p:Int) 8=((p / 8:Nat):Int):=by rw [Int.tdiv_eq_ediv_of_nonneg (by omega)];omega
 have wr4:IntKind.wrap .u8 ((p / 8:Nat):Int)=((p / 8:Nat):Int):=by rw [IntKind.wrap_u8];omega
 have rt5:Int.tmod ((p / 8:Nat):Int) 8=((p / 8 % 8:Nat):Int):=by rw [Int.tmod_eq_emod_of_nonneg (by omega)];omega
 have wr5:IntKind.wrap .u8 ((p / 8 % 8:Nat):Int)=((p / 8 % 8:Nat):Int):=by rw [IntKind.wrap_u8];omega
 have wr6:IntKind.wrap .i64 ((p / 8 % 8:Nat):Int)=((p / 8 % 8:Nat):Int):=by rw [wrap_in]<;>omega
 have wr7:IntKind.wrap .i64 (((p / 8 % 8:Nat):Int) - 2)=((p / 8 % 8:Nat):Int) - 2:=by rw [wrap_in]<;>omega
 repeat' ((go_not_at_region 6);(first|go_skip|go_guarded|go_step|go_upon))
 clear rt1 wr1 wr2 wr3 rt4 wr4 rt5 wr5 wr6 wr7
 obtain ⟨gp,hgp⟩ : ∃ g:Int,g=(p:Int) % 8 - 2:=⟨_,rfl⟩
 obtain ⟨fo,hfo⟩ : ∃ g:Int,g=(p:Int) / 8 % 8 - 2:=⟨_,rfl⟩
 rw [← hgp,← hfo]
 clear hgp hfo
 obtain ⟨a,ha⟩ : ∃ a,a=(Zn.ac8 z n).1:=⟨_,rfl⟩
 obtain ⟨b,hb⟩ : ∃ b,b=(Zn.ac8 z n).2:=⟨_,rfl⟩
 obtain ⟨c,hc⟩ : ∃ b,b=(Zn.aip z n).1:=⟨_,rfl⟩
 obtain ⟨d,hd⟩ : ∃ b,b=(Zn.aip z n).2:=⟨_,rfl⟩
 obtain ⟨k,hk⟩ : ∃ b,b=(Zn.a6i z n).1:=⟨_,rfl⟩
 obtain ⟨l,hl⟩ : ∃ b,b=(Zn.a6i z n).2:=⟨_,rfl⟩
 obtain ⟨L,hL⟩ : ∃ b,b=(Zn.a4x z n gp fo).1:=⟨_,rfl⟩
 obtain ⟨j,hj⟩ : ∃ b,b=(Zn.a4x z n gp fo).2:=⟨_,rfl⟩
 have hL2:L.length≤2:=by rw [hL];exact ako z n gp fo
 have HOA:=Lib.hid (fun (Wq:World) (hq:Below U.heap.size U Wq)=>a6n HO (HZV.out Wq hq) hlk.r hlk.m n)
 have HOB:=Lib.hid (fun (Wq:World) (hq:Below U.heap.size U Wq)=>rOffset_calls (HZV.out Wq hq) hlk.r hlk.m n)
 have HLA:=Lib.hid (fun (Wq:World) (hq:Below U.heap.size U Wq)=>aau HO (HZV.out Wq hq) hlk.r hlk.m n)
 have HLB:=Lib.hid (fun (Wq:World) (hq:Below U.heap.size U Wq)=>rLocal_calls (HZV.out Wq hq) hlk.r hlk.m n)
 have HKA:=Lib.hid (fun (Wq:World) (hq:Below U.heap.size U Wq)=>abr HO (HZV.out Wq hq) hlk.r hlk.m n)
 have HKB:=Lib.hid (fun (Wq:World) (hq:Below U.heap.size U Wq)=>rKind_calls (HZV.out Wq hq) hlk.r hlk.m n)
 have HIA:=Lib.hid (fun (Wq:World) (hq:Below U.heap.size U Wq)=>a5g HO (HZV.out Wq hq) hlk.r hlk.m n gp fo)
 have HIB:=Lib.hid (fun (Wq:World) (hq:Below U.heap.size U Wq)=>rInstants_calls (HZV.out Wq hq) hlk.r hlk.m n gp fo)
 have HVE:Zn.a2l z=0:=by unfold Zn.a2l;rw [if_neg (by have:=hgd.a.hd.t;omega),if_pos (Zn.a0v.2 hgd)]
 have HVA:=Lib.hid (fun (Wq:World) (hq:Below U.heap.size U Wq)=>af9 HO (HZV.out Wq hq) hlk.r hlk.m)
 rw [HVE] at HVA
 rw [← ha,← hb] at HOA HOB
 rw [← hc,← hd] at HLA HLB
 rw [← hk,← hl] at HKA HKB
 rw [← hL,← hj] at HIA HIB
 clear ha hb hc hd hk hl hL hj HVE
 repeat' ((go_not_at_region 7);(first | (go_at_call 18;((with_reducible refine ((HOA.out _ hb0).mono ?_)));rintro e u1 ⟨rfl,hB'⟩;have hb1:=hb0.trans (hB'.mono hb0.size);have oz1:=a0a oz0 hB';dsimp only)|go_skip|go_guarded|go_step|go_upon))
 repeat' ((go_not_at_region 8);(first | (go_at_call 19;((with_reducible refine ((HOB.out _ hb1).mono ?_)));rintro e u2 ⟨rfl,hB'⟩;have hb2:=hb1.trans (hB'.mono hb1.size);have oz2:=a0a oz1 hB';dsimp only)|go_skip|go_guarded|go_step|go_upon))
 repeat' ((go_not_at_region 9);(first | (go_at_call 20;((with_reducible refine ((HLA.out _ hb2).mono ?_)));rintro e u3 ⟨rfl,hB'⟩;have hb3:=hb2.trans (hB'.mono hb2.size);have oz3:=a0a oz2 hB';dsimp only)|go_skip|go_guarded|go_step|go_upon))
 repeat' ((go_not_at_region 10);(first | (go_at_call 21;((with_reducible refine ((HLB.out _ hb3).mono ?_)));rintro e u4 ⟨rfl,hB'⟩;have hb4:=hb3.trans (hB'.mono hb3.size);have oz4:=a0a oz3 hB';dsimp only)|go_skip|go_guarded|go_step|go_upon))
 repeat' ((go_not_at_region 11);(first | (go_at_call 22;((with_reducible refine ((HKA.out _ hb4).mono ?_)));rintro e u5 ⟨rfl,hB'⟩;have hb5:=hb4.trans (hB'.mono hb4.size);have oz5:=a0a oz4 hB';dsimp only)|go_skip|go_guarded|go_step|go_upon))
 repeat' ((go_not_at_region 12);(first | (go_at_call 23;((with_reducible refine ((HKB.out _ hb5).mono ?_)));rintro e u6 ⟨rfl,hB'⟩;have hb6:=hb5.trans (hB'.mono hb5.size);have oz6:=a0a oz5 hB';dsimp only)|go_skip|go_guarded|go_step|go_upon))
 repeat' ((go_not_at_region 13);(first | (go_at_call 24;((with_reducible refine ((HIA.out _ hb6).mono ?_)));rintro e u7 ⟨⟨v1,rfl,hv1⟩,hB'⟩;have hb7:=hb6.trans (hB'.mono hb6.size);have oz7:=a0a oz6 hB';dsimp only)|go_skip|go_guarded|go_step|go_upon))
 repeat' ((go_not_at_region 14);(first | (go_at_call 25;((with_reducible refine ((HIB.out _ hb7).mono ?_)));rintro e u8 ⟨⟨v2,rfl,hv2⟩,hB'⟩;have hb8:=hb7.trans (hB'.mono hb7.size);have oz8:=a0a oz7 hB';have hv1:=a2c.below hv1 hB';dsimp only)|go_skip|go_guarded|go_step|go_upon))
 have HNM:=Lib.hid (fun (Wq:World) (hq:Below u8.heap.size u8 Wq)=>show Calls Tryz.prog 27 #[v1,v2] Wq fun e w'=>e=.returned (.bool true)∧Below Wq.heap.size Wq w' by have h9:=ac9 (hv1.1.below hq) (hv2.1.below hq) (by omega) (by omega);rw [decide_eq_true rfl] at h9;exact h9)
 have hB:=hb8
 have oz:=oz8
 have lz:=a09 oz
 repeat' (first | (go_at_call 26;((with_reducible refine ((HVA.out _ hb8).mono ?_)));rintro e u9 ⟨rfl,hB'⟩;have hb9:=hb8.trans (hB'.mono hb8.size);have oz9:=a0a oz8 hB';have hx9:=hB';dsimp only) | (go_at_call 27;((with_reducible refine ((HNM.out _ hx9).mono ?_)));rintro e u10 ⟨rfl,hB'⟩;have hb10:=hb9.trans (hB'.mono hb9.size);have oz10:=a0a oz9 hB';dsimp only)|go_skip|go_guarded|go_step|go_upon)
 go_ret
 exact ⟨rfl,hBV.trans (hb10.mono hBV.size)⟩
end Go.Proofs.YtppjleebbjipbaaGreat
