/-
  The law ZoneValidMatchesReference.
-/
import Derived.Test.YtppjleebbjipbaaGreatPkZqv
import Derived.Test.YtppjleebbjipbaaGreatPkZch
set_option linter.unusedSectionVars false
set_option linter.constructorNameAsVariable false
set_option linter.unusedVariables false
set_option linter.unusedSimpArgs false
namespace Go.Proofs.YtppjleebbjipbaaGreat
open Go.RowKit Go.Shelf
set_option maxRecDepth 20000
set_option maxHeartbeats 8000000
theorem zoneValid_calls {W:World} {z:Zn.a0w} {mv rv tv yv:Value} (hv:a1q W z mv rv tv yv) (hzr:z.cal.rules.length < 9223372036854775808) (hzm:z.cal.a0g.length < 9223372036854775808) (t:Int) :
  Calls Tryz.prog 4 #[.agg #[.int .i64 z.cal.a08,mv,.int .i64 z.cal.a0l,rv,.int .i64 z.start,tv,.int .i64 z.hor,yv],.int .i64 t] W fun e w'=>e=.returned (.bool true)∧Below W.heap.size W w':=by
 have HO:OpenSpec:=a9r ad3
 obtain ⟨ta,tc,rfl⟩:=a2b.ajx hv.tr
 have hon:ones #[.int .i64 z.cal.a08,mv,.int .i64 z.cal.a0l,rv,.int .i64 z.start,.slice ta z.trans.length tc,.int .i64 z.hor,yv]=true:=a1b hv.cal.mon.one hv.cal.rul.one (a1m.one hv.tr) (a1m.one hv.yr)
 have oz1:obj (W.alloc (.cells #[.int .i64 z.cal.a08,mv,.int .i64 z.cal.a0l,rv,.int .i64 z.start,.slice ta z.trans.length tc,.int .i64 z.hor,yv] 35)) W.heap.size=some (.cells #[.int .i64 z.cal.a08,mv,.int .i64 z.cal.a0l,rv,.int .i64 z.start,.slice ta z.trans.length tc,.int .i64 z.hor,yv] 35 (0,0)):=a05 _ _ _ rfl
 have hB1:Below W.heap.size W (W.alloc (.cells #[.int .i64 z.cal.a08,mv,.int .i64 z.cal.a0l,rv,.int .i64 z.start,.slice ta z.trans.length tc,.int .i64 z.hor,yv] 35)):=(Below.refl _ _).alloc (Nat.le_refl _) _
 have HZV:=Lib.hid (fun (Wq:World) (hq:Below W.heap.size W Wq)=>hv.below hq)
 obtain ⟨yy,dd,ee,HCY⟩ : ∃ yy dd ee:Int,Hid (∀ Wq:World,Below W.heap.size W Wq→Calls Tryz.prog 28 #[.agg #[.int .i64 z.cal.a08,mv,.int .i64 z.cal.a0l,rv]] Wq fun e w'=>e=.returned (.tuple #[.int .i64 yy,.int .i64 dd,.int .i64 ee])∧Below Wq.heap.size Wq w'):=by
  cases hok:z.cal.ok with
  | true=>exact ⟨_,_,_,Lib.hid fun Wq hq=>ade (HZV.out Wq hq).cal hok⟩
  | false=>exact ⟨_,_,_,Lib.hid fun Wq hq=>rCycle_bad (HZV.out Wq hq).cal hok hzr hzm⟩
 obtain ⟨a,ha⟩ : ∃ a,a=(Zn.ac8 z t).1:=⟨_,rfl⟩
 obtain ⟨b,hb⟩ : ∃ b,b=(Zn.ac8 z t).2:=⟨_,rfl⟩
 obtain ⟨ve,hve⟩ : ∃ ve,ve=Zn.a2l z:=⟨_,rfl⟩
 have HOA:=Lib.hid (fun (Wq:World) (hq:Below W.heap.size W Wq)=>a6n HO (HZV.out Wq hq) hzr hzm t)
 have HOB:=Lib.hid (fun (Wq:World) (hq:Below W.heap.size W Wq)=>rOffset_calls (HZV.out Wq hq) hzr hzm t)
 have HVA:=Lib.hid (fun (Wq:World) (hq:Below W.heap.size W Wq)=>af9 HO (HZV.out Wq hq) hzr hzm)
 have HVB:=Lib.hid (fun (Wq:World) (hq:Below W.heap.size W Wq)=>ae9 (HZV.out Wq hq) hzr hzm)
 rw [← ha,← hb] at HOA HOB
 rw [← hve] at HVA HVB
 clear ha hb hve hv
 go_enter Tryz.func4,Tryz.ntmps4
 repeat' ((go_not_at_region 1);(first|go_skip|go_guarded|go_step|go_upon))
 generalize (W.alloc (.cells #[.int .i64 z.cal.a08,mv,.int .i64 z.cal.a0l,rv,.int .i64 z.start,.slice ta z.trans.length tc,.int .i64 z.hor,yv] 35))=V1 at *
 repeat' ((go_not_at_region 2);(first | (go_at_call 15;((with_reducible refine ((ada _).mono ?_)));rintro e w2 ⟨rfl,hB'⟩;have hB2:=hB1.trans (hB'.mono hB1.size);have oz2:=a0a oz1 hB';dsimp only)|go_skip|go_guarded|go_step|go_upon))
 repeat' ((go_not_at_region 3);(first | (go_at_call 28;((with_reducible refine ((HCY.out _ hB2).mono ?_)));rintro e w3 ⟨rfl,hB'⟩;have hB3:=hB2.trans (hB'.mono hB2.size);have oz3:=a0a oz2 hB';dsimp only)|go_skip|go_guarded|go_step|go_upon))
 have c5:=a02 oz3 5
 by_cases h6:600 < z.trans.length
 ·have i6:(600:Int) < (z.trans.length:Int):=by omega
  repeat'(first|go_skip|go_guarded|go_step|go_upon)
  go_ret
  exact ⟨rfl,hB3⟩
 have i6 : ¬ (600:Int) < (z.trans.length:Int):=by omega
 by_cases h30:30 < yy
 ·repeat'(first|go_skip|go_guarded|go_step|go_upon)
  go_ret
  exact ⟨rfl,hB3⟩
 repeat' ((go_not_at_region 6);(first | (go_at_call 18;((with_reducible refine ((HOA.out _ hB3).mono ?_)));rintro e w4 ⟨rfl,hB'⟩;have hB4:=hB3.trans (hB'.mono hB3.size);have oz4:=a0a oz3 hB';dsimp only)|go_skip|go_guarded|go_step|go_upon))
 repeat' ((go_not_at_region 7);(first | (go_at_call 19;((with_reducible refine ((HOB.out _ hB4).mono ?_)));rintro e w5 ⟨rfl,hB'⟩;have hB5:=hB4.trans (hB'.mono hB4.size);have oz5:=a0a oz4 hB';dsimp only)|go_skip|go_guarded|go_step|go_upon))
 have hB:=hB5
 have oz:=oz5
 have lz:=a09 oz
 refine a0k 18 [([],fun v _=>v=.bool true),
   ([0],fun v _=>v=.bool true),
   ([1],fun v _=>v=.agg #[.int .i64 z.cal.a08,mv,.int .i64 z.cal.a0l,rv,.int .i64 z.start,.slice ta z.trans.length tc,.int .i64 z.hor,yv]),
   ([2,1],fun v _=>v=.int .i64 ve),
   ([1],fun v _=>v=.agg #[.int .i64 z.cal.a08,mv,.int .i64 z.cal.a0l,rv,.int .i64 z.start,.slice ta z.trans.length tc,.int .i64 z.hor,yv]),
   ([4,3,1],fun v _=>v=.int .i64 ve),
   ([3,5,1],fun v _=>v=.bool true),
   ([1,6],fun v _=>v=.bool true),
   ([7,5],fun v _=>v=.bool true),
   ([8],fun v _=>v=.int .i64 a),
   ([8],fun v _=>v=.int .i64 a),
   ([9,10,8],fun v _=>v=.bool true),
   ([8,11],fun v _=>v=.bool true),
   ([12,8],fun v _=>v=.bool true),
   ([13],fun v _=>v=.int .i64 b),
   ([13],fun v _=>v=.int .i64 b),
   ([14,15,13],fun v _=>v=.bool true),
   ([13,16],fun v _=>v=.bool true)] (by kernel_rfl) (by kernel_rfl) (by kernel_rfl) ?st ?ob ?tl
 case st => intro k v W1 W2 h hb;rcases k with _|_|_|_|_|_|_|_|_|_|_|_|_|_|_|_|_|_|k<;>first | exact h | trivial
 case ob => refine ⟨?_,?_,?_,?_,?_,?_,?_,?_,?_,?_,?_,?_,?_,?_,?_,?_,?_,?_,trivial⟩<;>(intro vs Wq hW hk;(have q0:=a04 oz hW lz);(try simp only [knows,Spec.at',↓List.getD_cons_succ,↓List.getD_cons_zero,and_true] at hk);simp only [Spec.at',↓List.getD_cons_succ,↓List.getD_cons_zero,a00,a03,yy0,yy1,yy2,yy3];(try simp only [hk]);first | ((repeat'(first|go_skip|go_guarded|go_step|go_upon));exact a01 _ rfl (by go_simp) (Below.refl _ _) rfl) | ((have HX:=Lib.hid (HVA.out Wq (hB.trans (hW.mono hB.size))));(repeat' (first | (go_at_call 26;((with_reducible refine (HX.out).mono ?_));rintro e w9 ⟨rfl,hb9⟩;dsimp only)|go_skip|go_guarded|go_step|go_upon));exact a01 _ rfl (by go_simp) hb9 rfl) | ((have HX:=Lib.hid (HVB.out Wq (hB.trans (hW.mono hB.size))));(repeat' (first | (go_at_call 29;((with_reducible refine (HX.out).mono ?_));rintro e w9 ⟨rfl,hb9⟩;dsimp only)|go_skip|go_guarded|go_step|go_upon));exact a01 _ rfl (by go_simp) hb9 rfl) | fail)
 case tl => intro vs W2 hW2 hk2;have vl:vs 17=.bool true:=hk2 17 (by decide);clear hk2;dsimp only [a1d,List.take,List.drop];simp only [Act.put,List.setIfInBounds_toArray,List.set_cons_succ,List.set_cons_zero];rw [vl];generalize vs 0=e0,vs 1=e1,vs 2=e2,vs 3=e3,vs 4=e4,vs 5=e5,vs 6=e6,vs 7=e7,vs 8=e8,vs 9=e9,vs 10=e10,vs 11=e11,vs 12=e12,vs 13=e13,vs 14=e14,vs 15=e15,vs 16=e16;clear vl;have hB9:=hB.trans (hW2.mono hB.size);(repeat'(first|go_skip|go_guarded|go_step|go_upon));go_ret;exact ⟨rfl,hB9⟩
end Go.Proofs.YtppjleebbjipbaaGreat
