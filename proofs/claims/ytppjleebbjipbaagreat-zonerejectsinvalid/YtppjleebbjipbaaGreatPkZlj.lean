/-
  The law ZoneRejectsInvalid.
-/
import Derived.Test.YtppjleebbjipbaaGreatPkZl
import Derived.Test.YtppjleebbjipbaaGreatPkZra
set_option linter.unusedSectionVars false
set_option linter.constructorNameAsVariable false
set_option linter.unusedVariables false
set_option linter.unusedSimpArgs false
namespace Go.Proofs.YtppjleebbjipbaaGreat
open Go.RowKit Go.Shelf
set_option maxRecDepth 20000
set_option maxHeartbeats 8000000
theorem a8w.grow {W W':World} {c:Zn.Cal} {mv rv:Value} {r:Option Nat} (h:a8w W c mv rv) (hg:W.grownBy W' r) (h1:∀ g,r=some g→a5o mv g∧a5o rv g):a8w W' c mv rv:=by
 refine ⟨?_,?_⟩
 ·obtain ⟨ao,cc,e,h⟩:=h.mon
  refine ⟨ao,cc,e,fun hl=>?_⟩
  obtain ⟨b,o,row,T,fr,q1,q2,q3⟩:=h hl
  exact ⟨b,o,row,T,fr,q1,ahb q2 hg (fun e2=>(h1 b e2.symm).1 o _ _ (by rw [e,q1])),q3⟩
 ·obtain ⟨ao,cc,e,h⟩:=h.rul
  refine ⟨ao,cc,e,fun hl=>?_⟩
  obtain ⟨b,o,row,T,fr,q1,q2,q3⟩:=h hl
  exact ⟨b,o,row,T,fr,q1,ahb q2 hg (fun e2=>(h1 b e2.symm).2 o _ _ (by rw [e,q1])),q3⟩
theorem zoneRejectsInvalid_calls {W:World} {x:Zn.Raw} {gv ov:Value} (hx:x.In) (hgv:U8V W gv x.a6v) (hov:U8V W ov x.a5z) {sp:Nat} (hsp:sp < 256) (n:Int) :
  Calls Tryz.prog 13 #[.agg #[.int .u8 (x.start:Nat),gv,ov,.int .u8 (x.behind:Nat),.int .u8 (x.y0:Nat),.int .u8 (x.y1:Nat),.int .u8 (x.y2:Nat),.int .u8 (x.y3:Nat),.int .u8 (x.y4:Nat),.int .u8 (x.y5:Nat),.int .u8 (x.y6:Nat),.int .u8 (x.y7:Nat),.int .u8 (x.cal:Nat),.bool x.rules],.int .u8 (sp:Nat),.int .i64 n] W fun e w'=>e=.returned (.bool true)∧Below W.heap.size W w':=by
 have HO:OpenSpec:=a9r ad3
 have HGV:=Lib.hid hgv
 have HOV:=Lib.hid hov
 obtain ⟨ga,gc,rfl⟩ : ∃ a c,gv=.slice a x.a6v.length c:=by obtain ⟨a,c,h,_⟩:=hgv;exact ⟨a,c,h⟩
 obtain ⟨oa,oc,rfl⟩ : ∃ a c,ov=.slice a x.a5z.length c:=by obtain ⟨a,c,h,_⟩:=hov;exact ⟨a,c,h⟩
 clear hgv hov
 have hon:ones #[.int .u8 (x.start:Nat),.slice ga x.a6v.length gc,.slice oa x.a5z.length oc,.int .u8 (x.behind:Nat),.int .u8 (x.y0:Nat),.int .u8 (x.y1:Nat),.int .u8 (x.y2:Nat),.int .u8 (x.y3:Nat),.int .u8 (x.y4:Nat),.int .u8 (x.y5:Nat),.int .u8 (x.y6:Nat),.int .u8 (x.y7:Nat),.int .u8 (x.cal:Nat),.bool x.rules]=true:=by simp [ones,a0n,Value.oneCell']
 have wVB:Below W.heap.size W (W.alloc (.cells #[.int .u8 (x.start:Nat),.slice ga x.a6v.length gc,.slice oa x.a5z.length oc,.int .u8 (x.behind:Nat),.int .u8 (x.y0:Nat),.int .u8 (x.y1:Nat),.int .u8 (x.y2:Nat),.int .u8 (x.y3:Nat),.int .u8 (x.y4:Nat),.int .u8 (x.y5:Nat),.int .u8 (x.y6:Nat),.int .u8 (x.y7:Nat),.int .u8 (x.cal:Nat),.bool x.rules] 26)):=(Below.refl _ _).alloc (Nat.le_refl _) _
 have o0:=a05 (w:=W) (.cells #[.int .u8 (x.start:Nat),.slice ga x.a6v.length gc,.slice oa x.a5z.length oc,.int .u8 (x.behind:Nat),.int .u8 (x.y0:Nat),.int .u8 (x.y1:Nat),.int .u8 (x.y2:Nat),.int .u8 (x.y3:Nat),.int .u8 (x.y4:Nat),.int .u8 (x.y5:Nat),.int .u8 (x.y6:Nat),.int .u8 (x.y7:Nat),.int .u8 (x.cal:Nat),.bool x.rules] 26) W.heap.size rfl
 obtain ⟨z,hz⟩ : ∃ z,z=Zn.made x:=⟨_,rfl⟩
 have HZ:=Lib.hid hz
 have HGD:Hid (Zn.Good z):=Lib.hid (hz ▸ Zn.adm hx)
 have HLK:Hid (Zn.ane z):=Lib.hid (hz ▸ Zn.akj x)
 have HT3:Hid (z.trans.length≤3):=Lib.hid (by rw [hz];exact Zn.made_tl x)
 have HTL:Hid (z.trans.length≤512):=Lib.hid HGD.out.a.hd.t
 have HTH:Hid (-2251799813685248≤z.hor∧z.hor≤2251799813685248):=Lib.hid ⟨HGD.out.a.hd.h0,HGD.out.a.hd.h1⟩
 have HCL:Hid (z.cal=Zn.a0t x):=Lib.hid (by rw [hz];exact Zn.made_cal x)
 have HX:=Lib.hid hx
 clear hz hx
 go_enter Tryz.func13,Tryz.ntmps13
 repeat' ((go_not_at_region 1);(first|go_skip|go_guarded|go_step|go_upon))
 generalize (W.alloc (.cells #[.int .u8 (x.start:Nat),.slice ga x.a6v.length gc,.slice oa x.a5z.length oc,.int .u8 (x.behind:Nat),.int .u8 (x.y0:Nat),.int .u8 (x.y1:Nat),.int .u8 (x.y2:Nat),.int .u8 (x.y3:Nat),.int .u8 (x.y4:Nat),.int .u8 (x.y5:Nat),.int .u8 (x.y6:Nat),.int .u8 (x.y7:Nat),.int .u8 (x.cal:Nat),.bool x.rules] 26))=V at *
 repeat' ((go_not_at_region 2);(first | (go_at_call 15;((with_reducible refine ((ada _).mono ?_)));rintro e w2 ⟨rfl,hB'⟩;have hB2:=wVB.trans (hB'.mono wVB.size);have p0:=a0a o0 hB';dsimp only)|go_skip|go_guarded|go_step|go_upon))
 have HMD:=Lib.hid (aoh HZ.out HX.out (HGV.out.below hB2) (HOV.out.below hB2))
 repeat' ((go_not_at_region 3);(first | (go_at_call 16;((with_reducible refine ((HMD.out).mono ?_)));rintro e w3 ⟨⟨mvg,rvg,tvg,yvg,rfl,hzg⟩,hB'⟩;have hB3:=hB2.trans (hB'.mono hB2.size);have q0:=a0a p0 hB';have hong:=a1b hzg.cal.mon.one hzg.cal.rul.one (a1m.one hzg.tr) (a1m.one hzg.yr) (a:=z.cal.a08) (b:=z.cal.a0l) (c:=z.start) (d:=z.hor);dsimp only)|go_skip|go_guarded|go_step|go_upon))
 have A1:=(Below.refl w3.heap.size w3).alloc (Nat.le_refl _) (.cells #[.int .i64 z.cal.a08,mvg,.int .i64 z.cal.a0l,rvg,.int .i64 z.start,tvg,.int .i64 z.hor,yvg] 35)
 have og1:obj (w3.alloc (.cells #[.int .i64 z.cal.a08,mvg,.int .i64 z.cal.a0l,rvg,.int .i64 z.start,tvg,.int .i64 z.hor,yvg] 35)) w3.heap.size=some (.cells #[.int .i64 z.cal.a08,mvg,.int .i64 z.cal.a0l,rvg,.int .i64 z.start,tvg,.int .i64 z.hor,yvg] 35 (0,0)):=a05 _ _ _ rfl
 have s0:=a0a q0 A1
 have HZG:=Lib.hid (fun (Wq:World) (hq:Below w3.heap.size w3 Wq)=>hzg.below hq)
 have hB5:=hB3.trans (A1.mono hB3.size)
 have hsz1:w3.heap.size+1≤(w3.alloc (.cells #[.int .i64 z.cal.a08,mvg,.int .i64 z.cal.a0l,rvg,.int .i64 z.start,tvg,.int .i64 z.hor,yvg] 35)).heap.size:=by simp
 clear p0 q0 HMD hzg
 generalize (w3.alloc (.cells #[.int .i64 z.cal.a08,mvg,.int .i64 z.cal.a0l,rvg,.int .i64 z.start,tvg,.int .i64 z.hor,yvg] 35))=U1 at *
 have HMO:=Lib.hid (Made_own HX.out (HGV.out.below hB5) (HOV.out.below hB5))
 rw [← HZ.out] at HMO
 repeat' ((go_not_at_region 4);(first | (go_at_call 16;((with_reducible refine ((HMO.out).mono ?_)));rintro e w4 ⟨⟨mv,rv,tv,yv,rfl,hzs,hown⟩,hB'⟩;have hB6:=hB5.trans (hB'.mono hB5.size);have og2:=a0a og1 hB';have hA6:=A1.trans (hB'.mono A1.size);have hsz4:=hB'.size;have hons:=a1b hzs.cal.mon.one hzs.cal.rul.one (a1m.one hzs.tr) (a1m.one hzs.yr) (a:=z.cal.a08) (b:=z.cal.a0l) (c:=z.start) (d:=z.hor);dsimp only)|go_skip|go_guarded|go_step|go_upon))
 obtain ⟨ta,tc,rfl⟩:=a2b.ajx hzs.tr
 have A2:=(Below.refl w4.heap.size w4).alloc (Nat.le_refl _) (.cells #[.int .i64 z.cal.a08,mv,.int .i64 z.cal.a0l,rv,.int .i64 z.start,.slice ta z.trans.length tc,.int .i64 z.hor,yv] 35)
 have oz:obj (w4.alloc (.cells #[.int .i64 z.cal.a08,mv,.int .i64 z.cal.a0l,rv,.int .i64 z.start,.slice ta z.trans.length tc,.int .i64 z.hor,yv] 35)) w4.heap.size=some (.cells #[.int .i64 z.cal.a08,mv,.int .i64 z.cal.a0l,rv,.int .i64 z.start,.slice ta z.trans.length tc,.int .i64 z.hor,yv] 35 (0,0)):=a05 _ _ _ rfl
 have og:=a0a og2 A2
 have HZ4:=Lib.hid (fun (Wq:World) (hq:Below w4.heap.size w4 Wq)=>hzs.below hq)
 have HOW:=Lib.hid hown
 have hq4:=A2
 have hq3:=hA6.trans (A2.mono hA6.size)
 have hBU:=hB6.trans (A2.mono hB6.size)
 have hbgz:w3.heap.size < w4.heap.size:=by omega
 have hU3:w3.heap.size≤(w4.alloc (.cells #[.int .i64 z.cal.a08,mv,.int .i64 z.cal.a0l,rv,.int .i64 z.start,.slice ta z.trans.length tc,.int .i64 z.hor,yv] 35)).heap.size:=hq3.size
 have hU4:w4.heap.size≤(w4.alloc (.cells #[.int .i64 z.cal.a08,mv,.int .i64 z.cal.a0l,rv,.int .i64 z.start,.slice ta z.trans.length tc,.int .i64 z.hor,yv] 35)).heap.size:=hq4.size
 have hWz:=hB6.size
 have hWg:=hB3.size
 have rt:Int.tmod (sp:Int) 8=((sp % 8:Nat):Int):=by rw [Int.tmod_eq_emod_of_nonneg (by omega)];omega
 have wrt:IntKind.wrap .u8 ((sp % 8:Nat):Int)=((sp % 8:Nat):Int):=by rw [IntKind.wrap_u8];omega
 clear hzs hown A1 A2 og1 og2 s0 o0 hB2 hB3 wVB HGV HOV HMO hA6 hB5 hB6 hsz4 hB'
 repeat' ((fail_if_success (with_reducible refine Go.wp_block ?_));(first|go_skip|go_guarded|go_step|go_upon))
 generalize (w4.alloc (.cells #[.int .i64 z.cal.a08,mv,.int .i64 z.cal.a0l,rv,.int .i64 z.start,.slice ta z.trans.length tc,.int .i64 z.hor,yv] 35))=U at *
 generalize hbz:w4.heap.size=bz at *
 generalize w3.heap.size=bg at *
 obtain ⟨m8,hm8⟩ : ∃ m:Int,m=(sp:Int) % 8:=⟨_,rfl⟩
 rw [← hm8]
 go_cut [35] from 36 to 95 (fun _ wx => ∃ (z':Zn.a0w) (mv' rv' tv' yv':Value),obj wx bz=some (.cells #[.int .i64 z'.cal.a08,mv',.int .i64 z'.cal.a0l,rv',.int .i64 z'.start,tv',.int .i64 z'.hor,yv'] 35 (0,0))∧obj wx bg=some (.cells #[.int .i64 z.cal.a08,mvg,.int .i64 z.cal.a0l,rvg,.int .i64 z.start,tvg,.int .i64 z.hor,yvg] 35 (0,0))∧a1q wx z' mv' rv' tv' yv'∧a1q wx z mvg rvg tvg yvg∧Below W.heap.size W wx∧Zn.a3o z' = false∧z'.trans.length≤512∧z'.cal.rules.length < 9223372036854775808∧z'.cal.a0g.length < 9223372036854775808)
 case first =>
  rcases (show m8=0∨m8=1∨m8=2∨m8=3∨m8=4∨m8=5∨m8=6∨m8=7 by omega) with h8 | h8 | h8 | h8 | h8 | h8 | h8 | h8
  ·subst h8
   have HM8:=Lib.hid hm8
   clear hm8 rt wrt
   have f1:=a0d oz 4
   have k1:=a02 oz 4
   have w1:IntKind.wrap .i64 (sp:Int)=(sp:Int):=by rw [wrap_in]<;>omega
   have w2:IntKind.wrap .i64 (1081+(sp:Int))=1081+(sp:Int):=by rw [wrap_in]<;>omega
   have HE:=Lib.hid (show obj (U.setCell ⟨bz,4,none⟩ (.int .i64 (1081+(sp:Int)))) bz=some (.cells _ 35 (0,0)) by rw [a0c,oz];rfl)
   have HGX:=Lib.hid (a07 og ⟨bz,4,none⟩ (show bg≠bz by omega) (.int .i64 (1081+(sp:Int))))
   have HQ3:Hid (Below bg w3 (U.setCell ⟨bz,4,none⟩ (.int .i64 (1081+(sp:Int))))):=Lib.hid (hq3.setCell (by show bg≤bz;omega) _)
   have HBX:Hid (Below W.heap.size W (U.setCell ⟨bz,4,none⟩ (.int .i64 (1081+(sp:Int))))):=Lib.hid (hBU.setCell (by show W.heap.size≤bz;omega) _)
   have HZX:Hid (a1q (U.setCell ⟨bz,4,none⟩ (.int .i64 (1081+(sp:Int)))) { z with start:=1081+(sp:Int) } (mv) (rv) (.slice ta z.trans.length tc) (yv)):=Lib.hid (by have h:=HZ4.out (U.setCell ⟨bz,4,none⟩ (.int .i64 (1081+(sp:Int)))) (hq4.setCell (Nat.le_refl _) _);exact ⟨h.cal,h.tr,h.yr⟩)
   repeat'(first|go_skip|go_guarded|go_step|go_upon)
   go_meet
   exact ⟨{ z with start:=1081+(sp:Int) },mv,rv,.slice ta z.trans.length tc,yv,HE.out,HGX.out,HZX.out,HZG.out _ HQ3.out,HBX.out,Zn.bad_start (by omega),HTL.out,HLK.out.r,HLK.out.m⟩
  ·subst h8
   have HM8:=Lib.hid hm8
   clear hm8 rt wrt
   have f1:=a0d oz 6
   have k1:=a02 oz 6
   have w1:IntKind.wrap .i64 (sp:Int)=(sp:Int):=by rw [wrap_in]<;>omega
   have w2:IntKind.wrap .i64 (2251799813685249+(sp:Int))=2251799813685249+(sp:Int):=by rw [wrap_in]<;>omega
   have HE:=Lib.hid (show obj (U.setCell ⟨bz,6,none⟩ (.int .i64 (2251799813685249+(sp:Int)))) bz=some (.cells _ 35 (0,0)) by rw [a0c,oz];rfl)
   have HGX:=Lib.hid (a07 og ⟨bz,6,none⟩ (show bg≠bz by omega) (.int .i64 (2251799813685249+(sp:Int))))
   have HQ3:Hid (Below bg w3 (U.setCell ⟨bz,6,none⟩ (.int .i64 (2251799813685249+(sp:Int))))):=Lib.hid (hq3.setCell (by show bg≤bz;omega) _)
   have HBX:Hid (Below W.heap.size W (U.setCell ⟨bz,6,none⟩ (.int .i64 (2251799813685249+(sp:Int))))):=Lib.hid (hBU.setCell (by show W.heap.size≤bz;omega) _)
   have HZX:Hid (a1q (U.setCell ⟨bz,6,none⟩ (.int .i64 (2251799813685249+(sp:Int)))) { z with hor:=2251799813685249+(sp:Int) } (mv) (rv) (.slice ta z.trans.length tc) (yv)):=Lib.hid (by have h:=HZ4.out (U.setCell ⟨bz,6,none⟩ (.int .i64 (2251799813685249+(sp:Int)))) (hq4.setCell (Nat.le_refl _) _);exact ⟨h.cal,h.tr,h.yr⟩)
   repeat'(first|go_skip|go_guarded|go_step|go_upon)
   go_meet
   exact ⟨{ z with hor:=2251799813685249+(sp:Int) },mv,rv,.slice ta z.trans.length tc,yv,HE.out,HGX.out,HZX.out,HZG.out _ HQ3.out,HBX.out,Zn.bad_hor (by omega),HTL.out,HLK.out.r,HLK.out.m⟩
  ·subst h8
   have HM8:=Lib.hid hm8
   clear hm8 rt wrt
   have A9:=(Below.refl U.heap.size U).alloc (Nat.le_refl _) (.cells #[.int .i64 (z.hor+(sp:Int) / 8),.int .i64 0] 57)
   have oz9:=a0a oz A9
   have og9:=a0a og A9
   have n9:obj (U.alloc (.cells #[.int .i64 (z.hor+(sp:Int) / 8),.int .i64 0] 57)) U.heap.size=some (.cells #[.int .i64 (z.hor+(sp:Int) / 8),.int .i64 0] 57 (0,0)):=a05 _ _ _ rfl
   have hbzU:=a09 oz
   have c5:=a02 oz 5
   have c6:=a02 oz 6
   have hh:=HTH.out
   have rt2:Int.tdiv (sp:Int) 8=((sp / 8:Nat):Int):=by rw [Int.tdiv_eq_ediv_of_nonneg (by omega)];omega
   have wrt2:IntKind.wrap .u8 ((sp / 8:Nat):Int)=((sp / 8:Nat):Int):=by rw [IntKind.wrap_u8];omega
   have wrt4:IntKind.wrap .i64 ((sp / 8:Nat):Int)=((sp / 8:Nat):Int):=by rw [wrap_in]<;>omega
   have wrt5:IntKind.wrap .i64 (z.hor+((sp / 8:Nat):Int))=z.hor+((sp / 8:Nat):Int):=by rw [wrap_in]<;>omega
   obtain ⟨n1,hn1,hn2,how,hoy,hav⟩:=HOW.out
   have hq4':Below w4.heap.size w4 U:=by rw [hbz];exact hq4
   have ow2:=a0m (a0m how hq4') A9
   have oy2:=a0m (a0m hoy hq4') A9
   have hlt:=HT3.out
   have hnz:n1≤(U.alloc (.cells #[.int .i64 (z.hor+(sp:Int) / 8),.int .i64 0] 57)).heap.size:=by have:=hq4'.size;simp;omega
   have hqz:=hq4.size
   have HAV:=Lib.hid hav
   have HOY:=Lib.hid oy2
   clear how hoy hav oy2 hq4'
   repeat' (first | (at_builtin;(refine a2m rfl _ _ rfl n1 z.trans.length (.slice ta z.trans.length tc) z.trans rfl ow2 U.heap.size (⟨z.hor+(sp:Int) / 8,0⟩:Zn.Tr) rfl n9 (by omega) hnz ?_);intro v5 W5 a3p hg5;have hg:(U.alloc (.cells #[.int .i64 (z.hor+(sp:Int) / 8),.int .i64 0] 57)).grownBy W5 (Value.slice ta z.trans.length tc).ownBlock:=hg5;clear hg5;have ez:=a19 ow2 oz9 (by decide) hg;have f1:=a0d ez 5;have k1:=a02 ez 5;obtain ⟨va,vc,hv5⟩:=(a13 a3p).2.2.2;subst hv5;dsimp only)|go_skip|go_guarded|go_step|go_upon)
   go_meet
   have eg:=a19 ow2 og9 (by decide) hg
   have oy5:=aif HOY.out ow2 (by decide) hg
   have oy6:=ownsRow_setCell_other oy5 (a2f oy5 ez (by decide)) (a:=⟨bz,5,none⟩) (.slice va (z.trans.length+1) vc)
   have ot6:=ownsRow_setCell_other a3p (a2f a3p ez (by decide)) (a:=⟨bz,5,none⟩) (.slice va (z.trans.length+1) vc)
   have hz2:=HZ4.out (U.alloc (.cells #[.int .i64 (z.hor+(sp:Int) / 8),.int .i64 0] 57)) (hq4.alloc hU4 _)
   have hc5:=hz2.cal.grow hg (fun g e=>HAV.out g (a1p ow2 e))
   have havz:=HAV.out bz (by omega)
   have hc6:=hc5.ahc havz.1 havz.2 (a4a W5 bz 5 (.slice va (z.trans.length+1) vc)).belX
   have hge:∀ g,(Value.slice ta z.trans.length tc).ownBlock=some g→U1.heap.size≤g:=fun g e=>Nat.le_trans hn1 (a1p ow2 e)
   have q3:Below bg w3 (W5.setCell ⟨bz,5,none⟩ (.slice va (z.trans.length+1) vc)):=((hq3.alloc hU3 (.cells #[.int .i64 (z.hor+(sp:Int) / 8),.int .i64 0] 57)).grown hg (by simp;omega) (fun g e=>by have:=hge g e;omega)).setCell (by show bg≤bz;omega) _
   have qB:Below W.heap.size W (W5.setCell ⟨bz,5,none⟩ (.slice va (z.trans.length+1) vc)):=((hBU.alloc hBU.size (.cells #[.int .i64 (z.hor+(sp:Int) / 8),.int .i64 0] 57)).grown hg (by have:=hBU.size;simp;omega) (fun g e=>by have:=hge g e;omega)).setCell (by show W.heap.size≤bz;omega) _
   exact ⟨{ z with trans:=z.trans ++ [⟨z.hor+(sp:Int) / 8,0⟩] },mv,rv,.slice va (z.trans.length+1) vc,yv,by rw [a0c,ez];rfl,a07 eg _ (show bg≠bz by omega) _,⟨hc6,(a13 ot6).2.1,(ac6 oy6).2.1⟩,HZG.out _ q3,qB,Zn.bad_snoc (by show z.hor≤z.hor+(sp:Int) / 8;omega),by simp;omega,HLK.out.r,HLK.out.m⟩
  ·subst h8
   have HM8:=Lib.hid hm8
   clear hm8 rt wrt
   have A9:=(Below.refl U.heap.size U).alloc (Nat.le_refl _) (.cells #[.int .i64 1,.int .i64 1,.int .i64 0,.int .i64 0,.int .i64 0] 84)
   have oz9:=a0a oz A9
   have og9:=a0a og A9
   have n9:obj (U.alloc (.cells #[.int .i64 1,.int .i64 1,.int .i64 0,.int .i64 0,.int .i64 0] 84)) U.heap.size=some (.cells #[.int .i64 1,.int .i64 1,.int .i64 0,.int .i64 0,.int .i64 0] 84 (0,0)):=a05 _ _ _ rfl
   have hbzU:=a09 oz
   have f1:=a0d oz9 7
   have k1:=a02 oz9 7
   have HE:Hid (obj ((U.setCell ⟨bz,7,none⟩ (.slice (some ⟨U.heap.size,0,none⟩) 1 1)).alloc (.cells #[.int .i64 1,.int .i64 1,.int .i64 0,.int .i64 0,.int .i64 0] 84)) bz=some (.cells _ 35 (0,0))):=Lib.hid (a06 (show obj (U.setCell ⟨bz,7,none⟩ (.slice (some ⟨U.heap.size,0,none⟩) 1 1)) bz=some (.cells _ 35 (0,0)) by rw [a0c,oz];rfl) _)
   have HNW:Hid (obj ((U.setCell ⟨bz,7,none⟩ (.slice (some ⟨U.heap.size,0,none⟩) 1 1)).alloc (.cells #[.int .i64 1,.int .i64 1,.int .i64 0,.int .i64 0,.int .i64 0] 84)) U.heap.size=some (.cells #[.int .i64 1,.int .i64 1,.int .i64 0,.int .i64 0,.int .i64 0] 84 (0,0))):=Lib.hid (a05 _ _ _ (by simp))
   have HGX:Hid (obj ((U.setCell ⟨bz,7,none⟩ (.slice (some ⟨U.heap.size,0,none⟩) 1 1)).alloc (.cells #[.int .i64 1,.int .i64 1,.int .i64 0,.int .i64 0,.int .i64 0] 84)) bg=some (.cells #[.int .i64 z.cal.a08,mvg,.int .i64 z.cal.a0l,rvg,.int .i64 z.start,tvg,.int .i64 z.hor,yvg] 35 (0,0))):=Lib.hid (a06 (a07 og ⟨bz,7,none⟩ (show bg≠bz by omega) (.slice (some ⟨U.heap.size,0,none⟩) 1 1)) _)
   have HQ3:Hid (Below bg w3 ((U.setCell ⟨bz,7,none⟩ (.slice (some ⟨U.heap.size,0,none⟩) 1 1)).alloc (.cells #[.int .i64 1,.int .i64 1,.int .i64 0,.int .i64 0,.int .i64 0] 84))):=Lib.hid ((hq3.setCell (by show bg≤bz;omega) _).alloc (by simp;omega) _)
   have HBX:Hid (Below W.heap.size W ((U.setCell ⟨bz,7,none⟩ (.slice (some ⟨U.heap.size,0,none⟩) 1 1)).alloc (.cells #[.int .i64 1,.int .i64 1,.int .i64 0,.int .i64 0,.int .i64 0] 84))):=Lib.hid ((hBU.setCell (by show W.heap.size≤bz;omega) _).alloc (by have:=hBU.size;simp;omega) _)
   have HZX:Hid (a1q ((U.setCell ⟨bz,7,none⟩ (.slice (some ⟨U.heap.size,0,none⟩) 1 1)).alloc (.cells #[.int .i64 1,.int .i64 1,.int .i64 0,.int .i64 0,.int .i64 0] 84)) { z with a0b:=[⟨1,1,0,0,0⟩] } (mv) (rv) (.slice ta z.trans.length tc) (.slice (some ⟨U.heap.size,0,none⟩) 1 1)):=Lib.hid (by have h:=HZ4.out ((U.setCell ⟨bz,7,none⟩ (.slice (some ⟨U.heap.size,0,none⟩) 1 1)).alloc (.cells #[.int .i64 1,.int .i64 1,.int .i64 0,.int .i64 0,.int .i64 0] 84)) ((hq4.setCell (Nat.le_refl _) _).alloc (by simp;omega) _);exact ⟨h.cal,h.tr,⟨some ⟨U.heap.size,0,none⟩,1,rfl,fun _=>⟨U.heap.size,0,_,_,_,rfl,HNW.out,fun i hi=>by rcases i with _ | i<;>first | exact ⟨by simp,rfl⟩ | (exfalso;simp at hi;omega) | (exfalso;simp at hi)⟩⟩⟩)
   clear oz9 og9 n9 A9
   repeat'(first|go_skip|go_guarded|go_step|go_upon)
   go_meet
   exact ⟨{ z with a0b:=[⟨1,1,0,0,0⟩] },mv,rv,.slice ta z.trans.length tc,.slice (some ⟨U.heap.size,0,none⟩) 1 1,HE.out,HGX.out,HZX.out,HZG.out _ HQ3.out,HBX.out,Zn.bad_one,HTL.out,HLK.out.r,HLK.out.m⟩
  ·subst h8
   have HM8:=Lib.hid hm8
   clear hm8 rt wrt
   have A9:=(Below.refl U.heap.size U).alloc (Nat.le_refl _) (.cells #[.int .i64 1,.int .i64 1,.int .i64 0,.int .i64 0,.int .i64 0,.int .i64 1,.int .i64 1,.int .i64 0,.int .i64 5,.int .i64 0] 84)
   have oz9:=a0a oz A9
   have og9:=a0a og A9
   have n9:obj (U.alloc (.cells #[.int .i64 1,.int .i64 1,.int .i64 0,.int .i64 0,.int .i64 0,.int .i64 1,.int .i64 1,.int .i64 0,.int .i64 5,.int .i64 0] 84)) U.heap.size=some (.cells #[.int .i64 1,.int .i64 1,.int .i64 0,.int .i64 0,.int .i64 0,.int .i64 1,.int .i64 1,.int .i64 0,.int .i64 5,.int .i64 0] 84 (0,0)):=a05 _ _ _ rfl
   have hbzU:=a09 oz
   have f1:=a0d oz9 7
   have k1:=a02 oz9 7
   have HE:Hid (obj ((U.setCell ⟨bz,7,none⟩ (.slice (some ⟨U.heap.size,0,none⟩) 2 2)).alloc (.cells #[.int .i64 1,.int .i64 1,.int .i64 0,.int .i64 0,.int .i64 0,.int .i64 1,.int .i64 1,.int .i64 0,.int .i64 5,.int .i64 0] 84)) bz=some (.cells _ 35 (0,0))):=Lib.hid (a06 (show obj (U.setCell ⟨bz,7,none⟩ (.slice (some ⟨U.heap.size,0,none⟩) 2 2)) bz=some (.cells _ 35 (0,0)) by rw [a0c,oz];rfl) _)
   have HNW:Hid (obj ((U.setCell ⟨bz,7,none⟩ (.slice (some ⟨U.heap.size,0,none⟩) 2 2)).alloc (.cells #[.int .i64 1,.int .i64 1,.int .i64 0,.int .i64 0,.int .i64 0,.int .i64 1,.int .i64 1,.int .i64 0,.int .i64 5,.int .i64 0] 84)) U.heap.size=some (.cells #[.int .i64 1,.int .i64 1,.int .i64 0,.int .i64 0,.int .i64 0,.int .i64 1,.int .i64 1,.int .i64 0,.int .i64 5,.int .i64 0] 84 (0,0))):=Lib.hid (a05 _ _ _ (by simp))
   have HGX:Hid (obj ((U.setCell ⟨bz,7,none⟩ (.slice (some ⟨U.heap.size,0,none⟩) 2 2)).alloc (.cells #[.int .i64 1,.int .i64 1,.int .i64 0,.int .i64 0,.int .i64 0,.int .i64 1,.int .i64 1,.int .i64 0,.int .i64 5,.int .i64 0] 84)) bg=some (.cells #[.int .i64 z.cal.a08,mvg,.int .i64 z.cal.a0l,rvg,.int .i64 z.start,tvg,.int .i64 z.hor,yvg] 35 (0,0))):=Lib.hid (a06 (a07 og ⟨bz,7,none⟩ (show bg≠bz by omega) (.slice (some ⟨U.heap.size,0,none⟩) 2 2)) _)
   have HQ3:Hid (Below bg w3 ((U.setCell ⟨bz,7,none⟩ (.slice (some ⟨U.heap.size,0,none⟩) 2 2)).alloc (.cells #[.int .i64 1,.int .i64 1,.int .i64 0,.int .i64 0,.int .i64 0,.int .i64 1,.int .i64 1,.int .i64 0,.int .i64 5,.int .i64 0] 84))):=Lib.hid ((hq3.setCell (by show bg≤bz;omega) _).alloc (by simp;omega) _)
   have HBX:Hid (Below W.heap.size W ((U.setCell ⟨bz,7,none⟩ (.slice (some ⟨U.heap.size,0,none⟩) 2 2)).alloc (.cells #[.int .i64 1,.int .i64 1,.int .i64 0,.int .i64 0,.int .i64 0,.int .i64 1,.int .i64 1,.int .i64 0,.int .i64 5,.int .i64 0] 84))):=Lib.hid ((hBU.setCell (by show W.heap.size≤bz;omega) _).alloc (by have:=hBU.size;simp;omega) _)
   have HZX:Hid (a1q ((U.setCell ⟨bz,7,none⟩ (.slice (some ⟨U.heap.size,0,none⟩) 2 2)).alloc (.cells #[.int .i64 1,.int .i64 1,.int .i64 0,.int .i64 0,.int .i64 0,.int .i64 1,.int .i64 1,.int .i64 0,.int .i64 5,.int .i64 0] 84)) { z with a0b:=[⟨1,1,0,0,0⟩,⟨1,1,0,5,0⟩] } (mv) (rv) (.slice ta z.trans.length tc) (.slice (some ⟨U.heap.size,0,none⟩) 2 2)):=Lib.hid (by have h:=HZ4.out ((U.setCell ⟨bz,7,none⟩ (.slice (some ⟨U.heap.size,0,none⟩) 2 2)).alloc (.cells #[.int .i64 1,.int .i64 1,.int .i64 0,.int .i64 0,.int .i64 0,.int .i64 1,.int .i64 1,.int .i64 0,.int .i64 5,.int .i64 0] 84)) ((hq4.setCell (Nat.le_refl _) _).alloc (by simp;omega) _);exact ⟨h.cal,h.tr,⟨some ⟨U.heap.size,0,none⟩,2,rfl,fun _=>⟨U.heap.size,0,_,_,_,rfl,HNW.out,fun i hi=>by rcases i with _ | _ | i<;>first | exact ⟨by simp,rfl⟩ | (exfalso;simp at hi;omega) | (exfalso;simp at hi)⟩⟩⟩)
   clear oz9 og9 n9 A9
   repeat'(first|go_skip|go_guarded|go_step|go_upon)
   go_meet
   exact ⟨{ z with a0b:=[⟨1,1,0,0,0⟩,⟨1,1,0,5,0⟩] },mv,rv,.slice ta z.trans.length tc,.slice (some ⟨U.heap.size,0,none⟩) 2 2,HE.out,HGX.out,HZX.out,HZG.out _ HQ3.out,HBX.out,Zn.bad_same HCL.out,HTL.out,HLK.out.r,HLK.out.m⟩
  ·subst h8
   have HM8:=Lib.hid hm8
   clear hm8 rt wrt
   have A9:=(Below.refl U.heap.size U).alloc (Nat.le_refl _) (.cells #[.int .i64 1,.int .i64 (1+5 * ((sp:Int) / 8 % 2)),.int .i64 7,.int .i64 0,.int .i64 0,.int .i64 2,.int .i64 1,.int .i64 0,.int .i64 0,.int .i64 0] 84)
   have oz9:=a0a oz A9
   have og9:=a0a og A9
   have n9:obj (U.alloc (.cells #[.int .i64 1,.int .i64 (1+5 * ((sp:Int) / 8 % 2)),.int .i64 7,.int .i64 0,.int .i64 0,.int .i64 2,.int .i64 1,.int .i64 0,.int .i64 0,.int .i64 0] 84)) U.heap.size=some (.cells #[.int .i64 1,.int .i64 (1+5 * ((sp:Int) / 8 % 2)),.int .i64 7,.int .i64 0,.int .i64 0,.int .i64 2,.int .i64 1,.int .i64 0,.int .i64 0,.int .i64 0] 84 (0,0)):=a05 _ _ _ rfl
   have hbzU:=a09 oz
   have f1:=a0d oz9 7
   have k1:=a02 oz9 7
   have rt2:Int.tdiv (sp:Int) 8=((sp / 8:Nat):Int):=by rw [Int.tdiv_eq_ediv_of_nonneg (by omega)];omega
   have wrt2:IntKind.wrap .u8 ((sp / 8:Nat):Int)=((sp / 8:Nat):Int):=by rw [IntKind.wrap_u8];omega
   have rt3:Int.tmod ((sp / 8:Nat):Int) 2=((sp / 8 % 2:Nat):Int):=by rw [Int.tmod_eq_emod_of_nonneg (by omega)];omega
   have wrt3:IntKind.wrap .u8 ((sp / 8 % 2:Nat):Int)=((sp / 8 % 2:Nat):Int):=by rw [IntKind.wrap_u8];omega
   have wrt4:IntKind.wrap .i64 ((sp / 8 % 2:Nat):Int)=((sp / 8 % 2:Nat):Int):=by rw [wrap_in]<;>omega
   have wrt5:IntKind.wrap .i64 (5 * ((sp / 8 % 2:Nat):Int))=5 * ((sp / 8 % 2:Nat):Int):=by rw [wrap_in]<;>omega
   have wrt6:IntKind.wrap .i64 (1+5 * ((sp / 8 % 2:Nat):Int))=1+5 * ((sp / 8 % 2:Nat):Int):=by rw [wrap_in]<;>omega
   have HE:Hid (obj ((U.setCell ⟨bz,7,none⟩ (.slice (some ⟨U.heap.size,0,none⟩) 2 2)).alloc (.cells #[.int .i64 1,.int .i64 (1+5 * ((sp:Int) / 8 % 2)),.int .i64 7,.int .i64 0,.int .i64 0,.int .i64 2,.int .i64 1,.int .i64 0,.int .i64 0,.int .i64 0] 84)) bz=some (.cells _ 35 (0,0))):=Lib.hid (a06 (show obj (U.setCell ⟨bz,7,none⟩ (.slice (some ⟨U.heap.size,0,none⟩) 2 2)) bz=some (.cells _ 35 (0,0)) by rw [a0c,oz];rfl) _)
   have HNW:Hid (obj ((U.setCell ⟨bz,7,none⟩ (.slice (some ⟨U.heap.size,0,none⟩) 2 2)).alloc (.cells #[.int .i64 1,.int .i64 (1+5 * ((sp:Int) / 8 % 2)),.int .i64 7,.int .i64 0,.int .i64 0,.int .i64 2,.int .i64 1,.int .i64 0,.int .i64 0,.int .i64 0] 84)) U.heap.size=some (.cells #[.int .i64 1,.int .i64 (1+5 * ((sp:Int) / 8 % 2)),.int .i64 7,.int .i64 0,.int .i64 0,.int .i64 2,.int .i64 1,.int .i64 0,.int .i64 0,.int .i64 0] 84 (0,0))):=Lib.hid (a05 _ _ _ (by simp))
   have HGX:Hid (obj ((U.setCell ⟨bz,7,none⟩ (.slice (some ⟨U.heap.size,0,none⟩) 2 2)).alloc (.cells #[.int .i64 1,.int .i64 (1+5 * ((sp:Int) / 8 % 2)),.int .i64 7,.int .i64 0,.int .i64 0,.int .i64 2,.int .i64 1,.int .i64 0,.int .i64 0,.int .i64 0] 84)) bg=some (.cells #[.int .i64 z.cal.a08,mvg,.int .i64 z.cal.a0l,rvg,.int .i64 z.start,tvg,.int .i64 z.hor,yvg] 35 (0,0))):=Lib.hid (a06 (a07 og ⟨bz,7,none⟩ (show bg≠bz by omega) (.slice (some ⟨U.heap.size,0,none⟩) 2 2)) _)
   have HQ3:Hid (Below bg w3 ((U.setCell ⟨bz,7,none⟩ (.slice (some ⟨U.heap.size,0,none⟩) 2 2)).alloc (.cells #[.int .i64 1,.int .i64 (1+5 * ((sp:Int) / 8 % 2)),.int .i64 7,.int .i64 0,.int .i64 0,.int .i64 2,.int .i64 1,.int .i64 0,.int .i64 0,.int .i64 0] 84))):=Lib.hid ((hq3.setCell (by show bg≤bz;omega) _).alloc (by simp;omega) _)
   have HBX:Hid (Below W.heap.size W ((U.setCell ⟨bz,7,none⟩ (.slice (some ⟨U.heap.size,0,none⟩) 2 2)).alloc (.cells #[.int .i64 1,.int .i64 (1+5 * ((sp:Int) / 8 % 2)),.int .i64 7,.int .i64 0,.int .i64 0,.int .i64 2,.int .i64 1,.int .i64 0,.int .i64 0,.int .i64 0] 84))):=Lib.hid ((hBU.setCell (by show W.heap.size≤bz;omega) _).alloc (by have:=hBU.size;simp;omega) _)
   have HZX:Hid (a1q ((U.setCell ⟨bz,7,none⟩ (.slice (some ⟨U.heap.size,0,none⟩) 2 2)).alloc (.cells #[.int .i64 1,.int .i64 (1+5 * ((sp:Int) / 8 % 2)),.int .i64 7,.int .i64 0,.int .i64 0,.int .i64 2,.int .i64 1,.int .i64 0,.int .i64 0,.int .i64 0] 84)) { z with a0b:=[⟨1,(1+5 * ((sp:Int) / 8 % 2)),7,0,0⟩,⟨2,1,0,0,0⟩] } (mv) (rv) (.slice ta z.trans.length tc) (.slice (some ⟨U.heap.size,0,none⟩) 2 2)):=Lib.hid (by have h:=HZ4.out ((U.setCell ⟨bz,7,none⟩ (.slice (some ⟨U.heap.size,0,none⟩) 2 2)).alloc (.cells #[.int .i64 1,.int .i64 (1+5 * ((sp:Int) / 8 % 2)),.int .i64 7,.int .i64 0,.int .i64 0,.int .i64 2,.int .i64 1,.int .i64 0,.int .i64 0,.int .i64 0] 84)) ((hq4.setCell (Nat.le_refl _) _).alloc (by simp;omega) _);exact ⟨h.cal,h.tr,⟨some ⟨U.heap.size,0,none⟩,2,rfl,fun _=>⟨U.heap.size,0,_,_,_,rfl,HNW.out,fun i hi=>by rcases i with _ | _ | i<;>first | exact ⟨by simp,rfl⟩ | (exfalso;simp at hi;omega) | (exfalso;simp at hi)⟩⟩⟩)
   clear oz9 og9 n9 A9
   repeat'(first|go_skip|go_guarded|go_step|go_upon)
   go_meet
   exact ⟨{ z with a0b:=[⟨1,(1+5 * ((sp:Int) / 8 % 2)),7,0,0⟩,⟨2,1,0,0,0⟩] },mv,rv,.slice ta z.trans.length tc,.slice (some ⟨U.heap.size,0,none⟩) 2 2,HE.out,HGX.out,HZX.out,HZG.out _ HQ3.out,HBX.out,Zn.bad_day (by show (6:Int) < 7;omega),HTL.out,HLK.out.r,HLK.out.m⟩
  ·subst h8
   have HM8:=Lib.hid hm8
   clear hm8 rt wrt
   have f1:=a0d oz 1
   have k1:=a02 oz 1
   have HE:=Lib.hid (show obj (U.setCell ⟨bz,1,none⟩ (.slice none 0 0)) bz=some (.cells _ 35 (0,0)) by rw [a0c,oz];rfl)
   have HGX:=Lib.hid (a07 og ⟨bz,1,none⟩ (show bg≠bz by omega) (.slice none 0 0))
   have HQ3:Hid (Below bg w3 (U.setCell ⟨bz,1,none⟩ (.slice none 0 0))):=Lib.hid (hq3.setCell (by show bg≤bz;omega) _)
   have HBX:Hid (Below W.heap.size W (U.setCell ⟨bz,1,none⟩ (.slice none 0 0))):=Lib.hid (hBU.setCell (by show W.heap.size≤bz;omega) _)
   have HZX:Hid (a1q (U.setCell ⟨bz,1,none⟩ (.slice none 0 0)) { z with cal:={ z.cal with a0g:=[] } } (.slice none 0 0) (rv) (.slice ta z.trans.length tc) (yv)):=Lib.hid (by have h:=HZ4.out (U.setCell ⟨bz,1,none⟩ (.slice none 0 0)) (hq4.setCell (Nat.le_refl _) _);exact ⟨⟨⟨none,0,rfl,fun h=>absurd h (by simp)⟩,h.cal.rul⟩,h.tr,h.yr⟩)
   repeat'(first|go_skip|go_guarded|go_step|go_upon)
   go_meet
   exact ⟨{ z with cal:={ z.cal with a0g:=[] } },.slice none 0 0,rv,.slice ta z.trans.length tc,yv,HE.out,HGX.out,HZX.out,HZG.out _ HQ3.out,HBX.out,Zn.bad_months,HTL.out,HLK.out.r,(by simp)⟩
  ·subst h8
   have HM8:=Lib.hid hm8
   clear hm8 rt wrt
   have A9:=(Below.refl U.heap.size U).alloc (Nat.le_refl _) (.cells #[.int .i64 (-5000),.int .i64 0,.int .i64 (-2841),.int .i64 0] 57)
   have oz9:=a0a oz A9
   have og9:=a0a og A9
   have n9:obj (U.alloc (.cells #[.int .i64 (-5000),.int .i64 0,.int .i64 (-2841),.int .i64 0] 57)) U.heap.size=some (.cells #[.int .i64 (-5000),.int .i64 0,.int .i64 (-2841),.int .i64 0] 57 (0,0)):=a05 _ _ _ rfl
   have hbzU:=a09 oz
   have f1:=a0d oz9 5
   have k1:=a02 oz9 5
   have HE:Hid (obj ((U.setCell ⟨bz,5,none⟩ (.slice (some ⟨U.heap.size,0,none⟩) 2 2)).alloc (.cells #[.int .i64 (-5000),.int .i64 0,.int .i64 (-2841),.int .i64 0] 57)) bz=some (.cells _ 35 (0,0))):=Lib.hid (a06 (show obj (U.setCell ⟨bz,5,none⟩ (.slice (some ⟨U.heap.size,0,none⟩) 2 2)) bz=some (.cells _ 35 (0,0)) by rw [a0c,oz];rfl) _)
   have HNW:Hid (obj ((U.setCell ⟨bz,5,none⟩ (.slice (some ⟨U.heap.size,0,none⟩) 2 2)).alloc (.cells #[.int .i64 (-5000),.int .i64 0,.int .i64 (-2841),.int .i64 0] 57)) U.heap.size=some (.cells #[.int .i64 (-5000),.int .i64 0,.int .i64 (-2841),.int .i64 0] 57 (0,0))):=Lib.hid (a05 _ _ _ (by simp))
   have HGX:Hid (obj ((U.setCell ⟨bz,5,none⟩ (.slice (some ⟨U.heap.size,0,none⟩) 2 2)).alloc (.cells #[.int .i64 (-5000),.int .i64 0,.int .i64 (-2841),.int .i64 0] 57)) bg=some (.cells #[.int .i64 z.cal.a08,mvg,.int .i64 z.cal.a0l,rvg,.int .i64 z.start,tvg,.int .i64 z.hor,yvg] 35 (0,0))):=Lib.hid (a06 (a07 og ⟨bz,5,none⟩ (show bg≠bz by omega) (.slice (some ⟨U.heap.size,0,none⟩) 2 2)) _)
   have HQ3:Hid (Below bg w3 ((U.setCell ⟨bz,5,none⟩ (.slice (some ⟨U.heap.size,0,none⟩) 2 2)).alloc (.cells #[.int .i64 (-5000),.int .i64 0,.int .i64 (-2841),.int .i64 0] 57))):=Lib.hid ((hq3.setCell (by show bg≤bz;omega) _).alloc (by simp;omega) _)
   have HBX:Hid (Below W.heap.size W ((U.setCell ⟨bz,5,none⟩ (.slice (some ⟨U.heap.size,0,none⟩) 2 2)).alloc (.cells #[.int .i64 (-5000),.int .i64 0,.int .i64 (-2841),.int .i64 0] 57))):=Lib.hid ((hBU.setCell (by show W.heap.size≤bz;omega) _).alloc (by have:=hBU.size;simp;omega) _)
   have HZX:Hid (a1q ((U.setCell ⟨bz,5,none⟩ (.slice (some ⟨U.heap.size,0,none⟩) 2 2)).alloc (.cells #[.int .i64 (-5000),.int .i64 0,.int .i64 (-2841),.int .i64 0] 57)) { z with trans:=[⟨-5000,0⟩,⟨-2841,0⟩] } (mv) (rv) (.slice (some ⟨U.heap.size,0,none⟩) 2 2) (yv)):=Lib.hid (by have h:=HZ4.out ((U.setCell ⟨bz,5,none⟩ (.slice (some ⟨U.heap.size,0,none⟩) 2 2)).alloc (.cells #[.int .i64 (-5000),.int .i64 0,.int .i64 (-2841),.int .i64 0] 57)) ((hq4.setCell (Nat.le_refl _) _).alloc (by simp;omega) _);exact ⟨h.cal,⟨some ⟨U.heap.size,0,none⟩,2,rfl,fun _=>⟨U.heap.size,0,_,_,_,rfl,HNW.out,fun i hi=>by rcases i with _ | _ | i<;>first | exact ⟨by simp,rfl⟩ | (exfalso;simp at hi;omega) | (exfalso;simp at hi)⟩⟩,h.yr⟩)
   clear oz9 og9 n9 A9
   repeat'(first|go_skip|go_guarded|go_step|go_upon)
   go_meet
   exact ⟨{ z with trans:=[⟨-5000,0⟩,⟨-2841,0⟩] },mv,rv,.slice (some ⟨U.heap.size,0,none⟩) 2 2,yv,HE.out,HGX.out,HZX.out,HZG.out _ HQ3.out,HBX.out,Zn.bad_near (by decide),(by simp),HLK.out.r,HLK.out.m⟩
 case rest =>
  obtain ⟨z',mv',rv',tv',yv',oz,og,hz',hg',hB,hbad,aj8,hr',hm'⟩:=hcut
  have hvE:=Zn.validE_bad hbad aj8
  have hgE:Zn.a2l z=0:=by unfold Zn.a2l;rw [if_neg (by have:=HTL.out;omega),if_pos (Zn.a0v.2 HGD.out)]
  have h1:Zn.ac8 z' n=(0,1):=by unfold Zn.ac8;rw [if_neg (fun h=>by rw [hbad] at h;cases h.1)]
  have h2:Zn.aip z' n=(0,1):=by unfold Zn.aip;rw [if_neg (fun h=>by rw [hbad] at h;cases h.1)]
  have h3:Zn.a6i z' n=(0,1):=by unfold Zn.a6i;rw [if_neg (fun h=>by rw [hbad] at h;cases h.1)]
  have h4:Zn.a4x z' n 0 0=([],1):=by unfold Zn.a4x;rw [if_neg (fun h=>by rw [hbad] at h;cases h.1)]
  have h5:Zn.adz z' 0 1=([],1):=by unfold Zn.adz;rw [if_neg (fun h=>by rw [hbad] at h;cases h.1)]
  have HO1:=Lib.hid (fun (Wq:World) (hq:Below wc.heap.size wc Wq)=>a6n HO (hz'.below hq) hr' hm' n)
  have HO2:=Lib.hid (fun (Wq:World) (hq:Below wc.heap.size wc Wq)=>aau HO (hz'.below hq) hr' hm' n)
  have HO3:=Lib.hid (fun (Wq:World) (hq:Below wc.heap.size wc Wq)=>abr HO (hz'.below hq) hr' hm' n)
  have HO4:=Lib.hid (fun (Wq:World) (hq:Below wc.heap.size wc Wq)=>a5g HO (hz'.below hq) hr' hm' n 0 0)
  have HO5:=Lib.hid (fun (Wq:World) (hq:Below wc.heap.size wc Wq)=>acs HO (hz'.below hq) hr' hm' 0 1)
  have HO6:=Lib.hid (fun (Wq:World) (hq:Below wc.heap.size wc Wq)=>Diff_bad HO (hg'.below hq) HLK.out.r HLK.out.m (hz'.below hq) hr' hm' hbad)
  have HO7:=Lib.hid (fun (Wq:World) (hq:Below wc.heap.size wc Wq)=>Same_bad HO (hz'.below hq) hr' hm' (hg'.below hq) HLK.out.r HLK.out.m hbad)
  have HO8:=Lib.hid (fun (Wq:World) (hq:Below wc.heap.size wc Wq)=>Days_bad HO (hz'.below hq) hr' hm' hbad 5)
  have HO9:=Lib.hid (fun (Wq:World) (hq:Below wc.heap.size wc Wq)=>Universal_bad HO (hz'.below hq) hr' hm' hbad 5)
  have HOV:=Lib.hid (fun (Wq:World) (hq:Below wc.heap.size wc Wq)=>af9 HO (hz'.below hq) hr' hm')
  have HOG:=Lib.hid (fun (Wq:World) (hq:Below wc.heap.size wc Wq)=>af9 HO (hg'.below hq) HLK.out.r HLK.out.m)
  rw [h1] at HO1
  rw [h2] at HO2
  rw [h3] at HO3
  rw [h4] at HO4
  rw [h5] at HO5
  rw [hvE] at HOV
  rw [hgE] at HOG
  have hon':=a1b hz'.cal.mon.one hz'.cal.rul.one (a1m.one hz'.tr) (a1m.one hz'.yr) (a:=z'.cal.a08) (b:=z'.cal.a0l) (c:=z'.start) (d:=z'.hor)
  have hong:=a1b hg'.cal.mon.one hg'.cal.rul.one (a1m.one hg'.tr) (a1m.one hg'.yr) (a:=z.cal.a08) (b:=z.cal.a0l) (c:=z.start) (d:=z.hor)
  have hons:ones #[.int .i64 0,.int .i64 0]=true:=by simp [ones,a0n]
  have hb0:=Below.refl wc.heap.size wc
  have oz0:=oz
  have og0:=og
  clear hz' hg' hbad aj8 hr' hm' hvE hgE h1 h2 h3 h4 h5 HZ4 HZG HOW HTL HTH HT3 HCL HX HZ
  repeat' ((go_not_at_region 22);(first | (go_at_call 18;((with_reducible refine ((HO1.out _ hb0).mono ?_)));rintro e u1 ⟨rfl,hB'⟩;have hb1:=hb0.trans (hB'.mono hb0.size);have oz1:=a0a oz0 hB';have og1:=a0a og0 hB';dsimp only)|go_skip|go_guarded|go_step|go_upon))
  repeat' ((go_not_at_region 23);(first | (go_at_call 20;((with_reducible refine ((HO2.out _ hb1).mono ?_)));rintro e u2 ⟨rfl,hB'⟩;have hb2:=hb1.trans (hB'.mono hb1.size);have oz2:=a0a oz1 hB';have og2:=a0a og1 hB';dsimp only)|go_skip|go_guarded|go_step|go_upon))
  repeat' ((go_not_at_region 24);(first | (go_at_call 22;((with_reducible refine ((HO3.out _ hb2).mono ?_)));rintro e u3 ⟨rfl,hB'⟩;have hb3:=hb2.trans (hB'.mono hb2.size);have oz3:=a0a oz2 hB';have og3:=a0a og2 hB';dsimp only)|go_skip|go_guarded|go_step|go_upon))
  repeat' ((go_not_at_region 25);(first | (go_at_call 24;((with_reducible refine ((HO4.out _ hb3).mono ?_)));rintro e u4 ⟨⟨v4,rfl,⟨⟨a4,c4,h4,_⟩,_⟩⟩,hB'⟩;have hb4:=hb3.trans (hB'.mono hb3.size);have oz4:=a0a oz3 hB';have og4:=a0a og3 hB';have h4:v4=.slice a4 0 c4:=h4;subst h4;dsimp only)|go_skip|go_guarded|go_step|go_upon))
  repeat' ((go_not_at_region 26);(first | (go_at_call 35;((with_reducible refine ((HO5.out _ hb4).mono ?_)));rintro e u5 ⟨⟨v5,rfl,⟨a5,c5,h5,_⟩⟩,hB'⟩;have hb5:=hb4.trans (hB'.mono hb4.size);have oz5:=a0a oz4 hB';have og5:=a0a og4 hB';have h5:v5=.slice a5 0 c5:=h5;subst h5;dsimp only)|go_skip|go_guarded|go_step|go_upon))
  repeat' ((go_not_at_region 27);(first | (go_at_call 41;((with_reducible refine ((HO6.out _ hb5).mono ?_)));rintro e u6 ⟨rfl,hB'⟩;have hb6:=hb5.trans (hB'.mono hb5.size);have oz6:=a0a oz5 hB';have og6:=a0a og5 hB';dsimp only)|go_skip|go_guarded|go_step|go_upon))
  repeat' ((go_not_at_region 28);(first | (go_at_call 43;((with_reducible refine ((HO7.out _ hb6).mono ?_)));rintro e u7 ⟨rfl,hB'⟩;have hb7:=hb6.trans (hB'.mono hb6.size);have oz7:=a0a oz6 hB';have og7:=a0a og6 hB';dsimp only)|go_skip|go_guarded|go_step|go_upon))
  repeat' ((go_not_at_region 29);(first | (go_at_call 30;((with_reducible refine ((HO8.out _ hb7).mono ?_)));rintro e u8 ⟨rfl,hB'⟩;have hb8:=hb7.trans (hB'.mono hb7.size);have oz8:=a0a oz7 hB';have og8:=a0a og7 hB';dsimp only)|go_skip|go_guarded|go_step|go_upon))
  repeat' ((go_not_at_region 30);(first | (go_at_call 32;((with_reducible refine ((HO9.out _ hb8).mono ?_)));rintro e u9 ⟨rfl,hB'⟩;have hb9:=hb8.trans (hB'.mono hb8.size);have oz9:=a0a oz8 hB';have og9:=a0a og8 hB';dsimp only)|go_skip|go_guarded|go_step|go_upon))
  repeat' (first | (go_at_call 26;((with_reducible refine ((HOV.out _ hb9).mono ?_)));rintro e u10 ⟨rfl,hB'⟩;have hb10:=hb9.trans (hB'.mono hb9.size);have oz10:=a0a oz9 hB';have og10:=a0a og9 hB';dsimp only) | (go_at_call 26;((with_reducible refine ((HOG.out _ hb10).mono ?_)));rintro e u11 ⟨rfl,hB'⟩;have hb11:=hb10.trans (hB'.mono hb10.size);have oz11:=a0a oz10 hB';have og11:=a0a og10 hB';dsimp only)|go_skip|go_guarded|go_step|go_upon)
  go_ret
  exact ⟨rfl,hB.trans (hb11.mono hB.size)⟩
end Go.Proofs.YtppjleebbjipbaaGreat
