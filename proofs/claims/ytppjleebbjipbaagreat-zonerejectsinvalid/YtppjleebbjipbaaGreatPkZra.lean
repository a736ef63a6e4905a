/-
  zone.Diff, Same, Days, Universal of a zone that is not valid.
-/
import Derived.Test.YtppjleebbjipbaaGreatPkZof
import Derived.Test.YtppjleebbjipbaaGreatPkZor
import Derived.Test.YtppjleebbjipbaaGreatPkZpg
set_option linter.unusedSectionVars false
set_option linter.constructorNameAsVariable false
set_option linter.unusedVariables false
set_option linter.unusedSimpArgs false
namespace Go.Proofs.YtppjleebbjipbaaGreat
open Go.RowKit Go.Shelf
set_option maxRecDepth 100000
set_option maxHeartbeats 8000000
theorem Diff_bad (HO:OpenSpec) {W:World} {a b:Zn.a0w} {mva rva tva yva mvb rvb tvb yvb:Value} (hva:a1q W a mva rva tva yva) (hra:a.cal.rules.length < 9223372036854775808) (hma:a.cal.a0g.length < 9223372036854775808) (hvb:a1q W b mvb rvb tvb yvb) (hrb:b.cal.rules.length < 9223372036854775808) (hmb:b.cal.a0g.length < 9223372036854775808) (hb:Zn.a3o b=false) :
  Calls Tryz.prog 41 #[.agg #[.int .i64 a.cal.a08,mva,.int .i64 a.cal.a0l,rva,.int .i64 a.start,tva,.int .i64 a.hor,yva],.agg #[.int .i64 b.cal.a08,mvb,.int .i64 b.cal.a0l,rvb,.int .i64 b.start,tvb,.int .i64 b.hor,yvb],.agg #[.int .i64 0,.int .i64 0]] W fun e w'=>e=.returned (.tuple #[.slice none 0 0,.int .i64 1])∧Below W.heap.size W w':=by
 have hona:ones #[.int .i64 a.cal.a08,mva,.int .i64 a.cal.a0l,rva,.int .i64 a.start,tva,.int .i64 a.hor,yva]=true:=a1b hva.cal.mon.one hva.cal.rul.one (a1m.one hva.tr) (a1m.one hva.yr)
 have honb:ones #[.int .i64 b.cal.a08,mvb,.int .i64 b.cal.a0l,rvb,.int .i64 b.start,tvb,.int .i64 b.hor,yvb]=true:=a1b hvb.cal.mon.one hvb.cal.rul.one (a1m.one hvb.tr) (a1m.one hvb.yr)
 have hons:ones #[.int .i64 0,.int .i64 0]=true:=by simp [ones,a0n]
 have hB0:Below W.heap.size W (((W.alloc (.cells #[.int .i64 a.cal.a08,mva,.int .i64 a.cal.a0l,rva,.int .i64 a.start,tva,.int .i64 a.hor,yva] 35)).alloc (.cells #[.int .i64 b.cal.a08,mvb,.int .i64 b.cal.a0l,rvb,.int .i64 b.start,tvb,.int .i64 b.hor,yvb] 35)).alloc (.cells #[.int .i64 0,.int .i64 0] 77)):=((((Below.refl _ _).alloc (Nat.le_refl _) _).alloc (by simp) _).alloc (by simp;omega) _)
 have oa:obj (((W.alloc (.cells #[.int .i64 a.cal.a08,mva,.int .i64 a.cal.a0l,rva,.int .i64 a.start,tva,.int .i64 a.hor,yva] 35)).alloc (.cells #[.int .i64 b.cal.a08,mvb,.int .i64 b.cal.a0l,rvb,.int .i64 b.start,tvb,.int .i64 b.hor,yvb] 35)).alloc (.cells #[.int .i64 0,.int .i64 0] 77)) W.heap.size=some (.cells #[.int .i64 a.cal.a08,mva,.int .i64 a.cal.a0l,rva,.int .i64 a.start,tva,.int .i64 a.hor,yva] 35 (0,0)):=a06 (a06 (a05 _ _ _ rfl) _) _
 have ob:obj (((W.alloc (.cells #[.int .i64 a.cal.a08,mva,.int .i64 a.cal.a0l,rva,.int .i64 a.start,tva,.int .i64 a.hor,yva] 35)).alloc (.cells #[.int .i64 b.cal.a08,mvb,.int .i64 b.cal.a0l,rvb,.int .i64 b.start,tvb,.int .i64 b.hor,yvb] 35)).alloc (.cells #[.int .i64 0,.int .i64 0] 77)) (W.heap.size+1)=some (.cells #[.int .i64 b.cal.a08,mvb,.int .i64 b.cal.a0l,rvb,.int .i64 b.start,tvb,.int .i64 b.hor,yvb] 35 (0,0)):=a06 (a05 _ _ _ (by simp)) _
 have os:obj (((W.alloc (.cells #[.int .i64 a.cal.a08,mva,.int .i64 a.cal.a0l,rva,.int .i64 a.start,tva,.int .i64 a.hor,yva] 35)).alloc (.cells #[.int .i64 b.cal.a08,mvb,.int .i64 b.cal.a0l,rvb,.int .i64 b.start,tvb,.int .i64 b.hor,yvb] 35)).alloc (.cells #[.int .i64 0,.int .i64 0] 77)) (W.heap.size+2)=some (.cells #[.int .i64 0,.int .i64 0] 77 (0,0)):=a05 _ _ _ (by simp)
 have HA:=Lib.hid (fun (Wq:World) (hq:Below W.heap.size W Wq)=>acs HO (hva.below hq) hra hma 0 0)
 have HB:=Lib.hid (fun (Wq:World) (hq:Below W.heap.size W Wq)=>acs HO (hvb.below hq) hrb hmb 0 0)
 have hcb:Zn.adz b 0 0=([],1):=by unfold Zn.adz;rw [if_neg (fun h=>by rw [hb] at h;cases h.1)]
 rw [hcb] at HB
 obtain ⟨ea,hea⟩ : ∃ ea,ea=(Zn.adz a 0 0).2:=⟨_,rfl⟩
 rw [← hea] at HA
 clear hva hvb hcb hea hb
 go_enter Tryz.func41,Tryz.ntmps41
 repeat' ((go_not_at_region 1);(first|go_skip|go_guarded|go_step|go_upon))
 generalize (((W.alloc (.cells #[.int .i64 a.cal.a08,mva,.int .i64 a.cal.a0l,rva,.int .i64 a.start,tva,.int .i64 a.hor,yva] 35)).alloc (.cells #[.int .i64 b.cal.a08,mvb,.int .i64 b.cal.a0l,rvb,.int .i64 b.start,tvb,.int .i64 b.hor,yvb] 35)).alloc (.cells #[.int .i64 0,.int .i64 0] 77))=V at *
 have s0:=a02 os 0
 have s1:=a02 os 1
 repeat' ((go_not_at_region 2);(first | (go_at_call 35;((with_reducible refine ((HA.out _ hB0).mono ?_)));rintro e w1 ⟨⟨v1,rfl,_⟩,hB'⟩;have hB1:=hB0.trans (hB'.mono hB0.size);have ob1:=a0a ob hB';have os1:=a0a os hB';have t0:=a02 os1 0;have t1:=a02 os1 1;dsimp only)|go_skip|go_guarded|go_step|go_upon))
 repeat' ((go_not_at_region 3);(first | (go_at_call 35;((with_reducible refine ((HB.out _ hB1).mono ?_)));rintro e w2 ⟨⟨v2,rfl,_⟩,hB'⟩;have hB2:=hB1.trans (hB'.mono hB1.size);dsimp only)|go_skip|go_guarded|go_step|go_upon))
 by_cases h1:ea=1
 ·have e1:(ea == 1)=true:=beq_iff_eq.2 h1
  clear h1
  repeat'(first|go_skip|go_guarded|go_step|go_upon)
  go_returns
  exact ⟨rfl,hB2⟩
 ·have e1:(ea == 1)=false:=beq_eq_false_iff_ne.2 h1
  clear h1
  repeat'(first|go_skip|go_guarded|go_step|go_upon)
  go_returns
  exact ⟨rfl,hB2⟩
theorem Same_bad (HO:OpenSpec) {W:World} {a b:Zn.a0w} {mva rva tva yva mvb rvb tvb yvb:Value} (hva:a1q W a mva rva tva yva) (hra:a.cal.rules.length < 9223372036854775808) (hma:a.cal.a0g.length < 9223372036854775808) (hvb:a1q W b mvb rvb tvb yvb) (hrb:b.cal.rules.length < 9223372036854775808) (hmb:b.cal.a0g.length < 9223372036854775808) (hb:Zn.a3o a=false) :
  Calls Tryz.prog 43 #[.agg #[.int .i64 a.cal.a08,mva,.int .i64 a.cal.a0l,rva,.int .i64 a.start,tva,.int .i64 a.hor,yva],.agg #[.int .i64 b.cal.a08,mvb,.int .i64 b.cal.a0l,rvb,.int .i64 b.start,tvb,.int .i64 b.hor,yvb]] W fun e w'=>e=.returned (.tuple #[.bool false,.int .i64 1])∧Below W.heap.size W w':=by
 have hona:ones #[.int .i64 a.cal.a08,mva,.int .i64 a.cal.a0l,rva,.int .i64 a.start,tva,.int .i64 a.hor,yva]=true:=a1b hva.cal.mon.one hva.cal.rul.one (a1m.one hva.tr) (a1m.one hva.yr)
 have honb:ones #[.int .i64 b.cal.a08,mvb,.int .i64 b.cal.a0l,rvb,.int .i64 b.start,tvb,.int .i64 b.hor,yvb]=true:=a1b hvb.cal.mon.one hvb.cal.rul.one (a1m.one hvb.tr) (a1m.one hvb.yr)
 have hB0:Below W.heap.size W ((((W.alloc (.cells #[.int .i64 a.cal.a08,mva,.int .i64 a.cal.a0l,rva,.int .i64 a.start,tva,.int .i64 a.hor,yva] 35)).alloc (.cells #[.int .i64 b.cal.a08,mvb,.int .i64 b.cal.a0l,rvb,.int .i64 b.start,tvb,.int .i64 b.hor,yvb] 35)).alloc (.cells #[.bool false] 4)).alloc (.cells #[.int .i64 0] 38)):=(((((Below.refl _ _).alloc (Nat.le_refl _) _).alloc (by simp) _).alloc (by simp;omega) _).alloc (by simp;omega) _)
 have oa:obj ((((W.alloc (.cells #[.int .i64 a.cal.a08,mva,.int .i64 a.cal.a0l,rva,.int .i64 a.start,tva,.int .i64 a.hor,yva] 35)).alloc (.cells #[.int .i64 b.cal.a08,mvb,.int .i64 b.cal.a0l,rvb,.int .i64 b.start,tvb,.int .i64 b.hor,yvb] 35)).alloc (.cells #[.bool false] 4)).alloc (.cells #[.int .i64 0] 38)) W.heap.size=some (.cells #[.int .i64 a.cal.a08,mva,.int .i64 a.cal.a0l,rva,.int .i64 a.start,tva,.int .i64 a.hor,yva] 35 (0,0)):=a06 (a06 (a06 (a05 _ _ _ rfl) _) _) _
 have ob:obj ((((W.alloc (.cells #[.int .i64 a.cal.a08,mva,.int .i64 a.cal.a0l,rva,.int .i64 a.start,tva,.int .i64 a.hor,yva] 35)).alloc (.cells #[.int .i64 b.cal.a08,mvb,.int .i64 b.cal.a0l,rvb,.int .i64 b.start,tvb,.int .i64 b.hor,yvb] 35)).alloc (.cells #[.bool false] 4)).alloc (.cells #[.int .i64 0] 38)) (W.heap.size+1)=some (.cells #[.int .i64 b.cal.a08,mvb,.int .i64 b.cal.a0l,rvb,.int .i64 b.start,tvb,.int .i64 b.hor,yvb] 35 (0,0)):=a06 (a06 (a05 _ _ _ (by simp)) _) _
 have o2:obj ((((W.alloc (.cells #[.int .i64 a.cal.a08,mva,.int .i64 a.cal.a0l,rva,.int .i64 a.start,tva,.int .i64 a.hor,yva] 35)).alloc (.cells #[.int .i64 b.cal.a08,mvb,.int .i64 b.cal.a0l,rvb,.int .i64 b.start,tvb,.int .i64 b.hor,yvb] 35)).alloc (.cells #[.bool false] 4)).alloc (.cells #[.int .i64 0] 38)) (W.heap.size+1+1)=some (.cells #[.bool false] 4 (0,0)):=a06 (a05 _ _ _ (by simp)) _
 have o3:obj ((((W.alloc (.cells #[.int .i64 a.cal.a08,mva,.int .i64 a.cal.a0l,rva,.int .i64 a.start,tva,.int .i64 a.hor,yva] 35)).alloc (.cells #[.int .i64 b.cal.a08,mvb,.int .i64 b.cal.a0l,rvb,.int .i64 b.start,tvb,.int .i64 b.hor,yvb] 35)).alloc (.cells #[.bool false] 4)).alloc (.cells #[.int .i64 0] 38)) (W.heap.size+1+2)=some (.cells #[.int .i64 0] 38 (0,0)):=a05 _ _ _ (by simp)
 have HA:=Lib.hid (fun (Wq:World) (hq:Below W.heap.size W Wq)=>HO (hva.below hq) hra hma (InD.all (v:=tva) (l:=a.trans)))
 have HB:=Lib.hid (fun (Wq:World) (hq:Below W.heap.size W Wq)=>HO (hvb.below hq) hrb hmb (InD.all (v:=tvb) (l:=b.trans)))
 unfold a3z at HA HB
 rw [hb] at HA
 obtain ⟨gb,hgb⟩ : ∃ gb,gb=Zn.a3o b:=⟨_,rfl⟩
 rw [← hgb] at HB
 clear hva hvb hgb hb
 refine (callsIn_wide (n:=8)).1 ?_
 refine callsIn_of_wp_marks Tryz.func43 rfl trivial ?_
 refine wpIn_wide.2 ?_
 simp only [Tryz.ntmps43,List.size_toArray,List.length_cons,List.length_nil,Nat.reduceAdd,Nat.reduceSub,Array.replicate_succ,Array.replicate_zero,List.push_toArray,List.append_toArray,List.nil_append,List.cons_append]
 repeat' ((go_not_at_region 1);(first|go_skip|go_guarded|go_step|go_upon))
 generalize ((((W.alloc (.cells #[.int .i64 a.cal.a08,mva,.int .i64 a.cal.a0l,rva,.int .i64 a.start,tva,.int .i64 a.hor,yva] 35)).alloc (.cells #[.int .i64 b.cal.a08,mvb,.int .i64 b.cal.a0l,rvb,.int .i64 b.start,tvb,.int .i64 b.hor,yvb] 35)).alloc (.cells #[.bool false] 4)).alloc (.cells #[.int .i64 0] 38))=V at *
 repeat' ((go_not_at_region 2);(first | (go_at_call 54;((with_reducible refine ((HA.out _ hB0).mono ?_)));rintro e w1 ⟨⟨p1,rfl,_⟩,hB'⟩;have hB1:=hB0.trans (hB'.mono hB0.size);have ob1:=a0a ob hB';have q2:=a0a o2 hB';have q3:=a0a o3 hB';dsimp only)|go_skip|go_guarded|go_step|go_upon))
 repeat' ((go_not_at_region 3);(first | (go_at_call 54;((with_reducible refine ((HB.out _ hB1).mono ?_)));rintro e w2 ⟨⟨p2,rfl,_⟩,hB'⟩;have hB2:=hB1.trans (hB'.mono hB1.size);have r2:=a0a q2 hB';have r3:=a0a q3 hB';dsimp only)|go_skip|go_guarded|go_step|go_upon))
 have f1:=a0d r2 0
 have f2:=a0d (a07 r3 ⟨W.heap.size+1+1,0,none⟩ (show W.heap.size+1+2≠W.heap.size+1+1 by omega) (.bool false)) 0
 have k1:=a02 r2 0
 have k2:=a02 (a07 r3 ⟨W.heap.size+1+1,0,none⟩ (show W.heap.size+1+2≠W.heap.size+1+1 by omega) (.bool false)) 0
 repeat'(first|go_skip|go_guarded|go_step|go_upon)
 refine ⟨_,a0i rfl _ _ (W.heap.size+1+1) (W.heap.size+1+2) (.bool false) (.int .i64 1) _ _ rfl rfl (a02 (a0p r2 r3).1 0) (a02 (a0p r2 r3).2 0) Tryz.underlying4 rfl Tryz.underlying38 rfl,rfl,((hB2).setCell (by simp;omega) _).setCell (by simp;omega) _⟩
theorem days_bad (HO:OpenSpec) {W:World} {a:Zn.a0w} {mva rva tva yva:Value} (hva:a1q W a mva rva tva yva) (hra:a.cal.rules.length < 9223372036854775808) (hma:a.cal.a0g.length < 9223372036854775808) (hb:Zn.a3o a=false) (m:Int) (fn:Nat) :
  Calls Tryz.prog 69 #[.agg #[.int .i64 a.cal.a08,mva,.int .i64 a.cal.a0l,rva,.int .i64 a.start,tva,.int .i64 a.hor,yva],.int .i64 m,.func (.func fn) #[] #[]] W fun e w'=>e=.returned (.tuple #[.slice none 0 0,.int .i64 1])∧Below W.heap.size W w':=by
 have hona:ones #[.int .i64 a.cal.a08,mva,.int .i64 a.cal.a0l,rva,.int .i64 a.start,tva,.int .i64 a.hor,yva]=true:=a1b hva.cal.mon.one hva.cal.rul.one (a1m.one hva.tr) (a1m.one hva.yr)
 have w3B:Below W.heap.size W ((((W.alloc (.cells #[.int .i64 a.cal.a08,mva,.int .i64 a.cal.a0l,rva,.int .i64 a.start,tva,.int .i64 a.hor,yva] 35))).alloc (.cells #[.int .i64 m] 3)).alloc (.cells #[.func (.func fn) #[] #[]] 120)):=(((Below.refl _ _).alloc (Nat.le_refl _) _).alloc (by simp) _).alloc (by simp;omega) _
 have HX:=Lib.hid (HO (hva.below w3B) hra hma (InD.all (v:=tva) (l:=a.trans)))
 unfold a3z at HX
 rw [hb] at HX
 clear hva hb
 refine (callsIn_wide (n:=8)).1 ?_
 refine callsIn_of_wp_marks Tryz.func69 rfl trivial ?_
 refine wpIn_wide.2 ?_
 simp only [Tryz.ntmps69,List.size_toArray,List.length_cons,List.length_nil,Nat.reduceAdd,Nat.reduceSub,Array.replicate_succ,Array.replicate_zero,List.push_toArray,List.append_toArray,List.nil_append,List.cons_append]
 repeat' (first | (go_at_call 54;((with_reducible refine (HX.out).mono ?_));rintro e w5 ⟨⟨p,rfl,_⟩,hB5⟩;have hB6:=w3B.trans (hB5.mono w3B.size);dsimp only)|go_skip|go_guarded|go_step|go_upon)
 exact ⟨_,a3t rfl _ _,rfl,hB6⟩
theorem Days_bad (HO:OpenSpec) {W:World} {a:Zn.a0w} {mva rva tva yva:Value} (hva:a1q W a mva rva tva yva) (hra:a.cal.rules.length < 9223372036854775808) (hma:a.cal.a0g.length < 9223372036854775808) (hb:Zn.a3o a=false) (m:Int) :
  Calls Tryz.prog 30 #[.agg #[.int .i64 a.cal.a08,mva,.int .i64 a.cal.a0l,rva,.int .i64 a.start,tva,.int .i64 a.hor,yva],.int .i64 m] W fun e w'=>e=.returned (.tuple #[.slice none 0 0,.int .i64 1])∧Below W.heap.size W w':=by
 have hona:ones #[.int .i64 a.cal.a08,mva,.int .i64 a.cal.a0l,rva,.int .i64 a.start,tva,.int .i64 a.hor,yva]=true:=a1b hva.cal.mon.one hva.cal.rul.one (a1m.one hva.tr) (a1m.one hva.yr)
 have A1:=(Below.refl W.heap.size W).alloc (Nat.le_refl _) (.cells #[.int .i64 a.cal.a08,mva,.int .i64 a.cal.a0l,rva,.int .i64 a.start,tva,.int .i64 a.hor,yva] 35)
 have HD:=Lib.hid (days_bad HO (hva.below A1) hra hma hb m 70)
 clear hva
 go_enter Tryz.func30,Tryz.ntmps30
 repeat' (first | (go_at_call 69;((with_reducible refine (HD.out).mono ?_));rintro e w5 ⟨rfl,hB5⟩;have hB6:=A1.trans (hB5.mono A1.size);dsimp only)|go_skip|go_guarded|go_step|go_upon)
 go_returns
 exact ⟨rfl,hB6⟩
theorem Universal_bad (HO:OpenSpec) {W:World} {a:Zn.a0w} {mva rva tva yva:Value} (hva:a1q W a mva rva tva yva) (hra:a.cal.rules.length < 9223372036854775808) (hma:a.cal.a0g.length < 9223372036854775808) (hb:Zn.a3o a=false) (m:Int) :
  Calls Tryz.prog 32 #[.agg #[.int .i64 a.cal.a08,mva,.int .i64 a.cal.a0l,rva,.int .i64 a.start,tva,.int .i64 a.hor,yva],.int .i64 m] W fun e w'=>e=.returned (.tuple #[.slice none 0 0,.int .i64 1])∧Below W.heap.size W w':=by
 have hona:ones #[.int .i64 a.cal.a08,mva,.int .i64 a.cal.a0l,rva,.int .i64 a.start,tva,.int .i64 a.hor,yva]=true:=a1b hva.cal.mon.one hva.cal.rul.one (a1m.one hva.tr) (a1m.one hva.yr)
 have A1:=(Below.refl W.heap.size W).alloc (Nat.le_refl _) (.cells #[.int .i64 a.cal.a08,mva,.int .i64 a.cal.a0l,rva,.int .i64 a.start,tva,.int .i64 a.hor,yva] 35)
 have HD:=Lib.hid (days_bad HO (hva.below A1) hra hma hb m 72)
 clear hva
 go_enter Tryz.func32,Tryz.ntmps32
 repeat' (first | (go_at_call 69;((with_reducible refine (HD.out).mono ?_));rintro e w5 ⟨rfl,hB5⟩;have hB6:=A1.trans (hB5.mono A1.size);dsimp only)|go_skip|go_guarded|go_step|go_upon)
 go_returns
 exact ⟨rfl,hB6⟩
end Go.Proofs.YtppjleebbjipbaaGreat
namespace Zn
theorem validE_bad {z:a0w} (h:a3o z=false) (h2:z.trans.length≤512):a2l z=1:=by
 unfold a2l
 rw [if_neg (by omega),if_neg (by rw [h];decide)]
theorem raw_zero {z:a0w} {x:Tr} (hx:x∈a0u z 0 2):∀ k,0 < k→x∈raw z k
 | 0,h=>absurd h (by omega)
 | 1,_=>by
  show x∈raw z 0++a0u z 0 2
  exact List.mem_append_right _ hx
 | k+2,_=>by
  show x∈raw z (k+1)++a0u z (k+1) 2
  exact List.mem_append_left _ (raw_zero hx (k+1) (by omega))
theorem bad_start {z:a0w} {n:Int} (h:1080 < n):a3o { z with start:=n }=false:=acg fun g=>by have:=g.a.hd.s1;dsimp only at this;omega
theorem bad_hor {z:a0w} {n:Int} (h:2251799813685248 < n):a3o { z with hor:=n }=false:=acg fun g=>by have:=g.a.hd.h1;dsimp only at this;omega
theorem bad_snoc {z:a0w} {t:Tr} (h:z.hor≤t.tm):a3o { z with trans:=z.trans ++ [t] }=false:=acg fun g=>by
 have:=(g.a.tr z.trans.length (by simp)).h
 simp [List.getD_eq_getElem?_getD] at this
 omega
theorem bad_one {z:a0w} {r:YR}:a3o { z with a0b:=[r] }=false:=acg fun g=>by
 have:=g.a.yl
 simp at this
theorem bad_day {z:a0w} {r s:YR} (h:6 < r.wd):a3o { z with a0b:=[r,s] }=false:=acg fun g=>by
 have:=(g.a.yr 0 (by simp)).d1
 simp at this
 omega
theorem bad_months {z:a0w}:a3o { z with cal:={ z.cal with a0g:=[] } }=false:=acg fun g=>by
 have h:=g.a.hd.cal
 simp only [Cal.ok,Bool.and_eq_true,decide_eq_true_eq] at h
 have:=h.1.m1
 simp at this
theorem bad_near {z:a0w} {a b:Tr} (h:b.tm - a.tm < 2160):a3o { z with trans:=[a,b] }=false:=acg fun g=>by
 have:=(g.a.tr 1 (by simp)).g (by omega)
 simp at this
 omega
theorem cal_day (x:Raw):a8x (a0t x) ((a0t x).a08+a0z (a0t x) 0) (((0:Nat):Int)+1) ⟨1,1,0,0,0⟩=(7,true)∧a8x (a0t x) ((a0t x).a08+a0z (a0t x) 0) (((0:Nat):Int)+1) ⟨1,1,0,5,0⟩=(7,true):=by
 unfold a0t
 split<;>exact ⟨by simp [a8x,a0z,a6z,a97],by simp [a8x,a0z,a6z,a97]⟩
theorem bad_same {z:a0w} {x:Raw} (hc:z.cal=a0t x):a3o { z with a0b:=[⟨1,1,0,0,0⟩,⟨1,1,0,5,0⟩] }=false:=acg fun g=>by
 have ajy:=g.a.hd.cal
 obtain ⟨d1,d2⟩:=cal_day x
 rw [← hc] at d1 d2
 have h1:(⟨10080,0⟩:Tr)∈a0u { z with a0b:=[⟨1,1,0,0,0⟩,⟨1,1,0,5,0⟩] } 0 2:=by
  show _∈([]++a6f _ 0 0)++a6f _ 0 1
  refine List.mem_append_left _ (List.mem_append_right _ ?_)
  change _∈(if (a8x z.cal (z.cal.a08+a0z z.cal 0) (((0:Nat):Int)+1) ⟨1,1,0,0,0⟩).2=true then [(⟨(a8x z.cal (z.cal.a08+a0z z.cal 0) (((0:Nat):Int)+1) ⟨1,1,0,0,0⟩).1 * 1440+0 - 0,0⟩:Tr)] else [])
  rw [d1]
  simp
 have h2:(⟨10085,0⟩:Tr)∈a0u { z with a0b:=[⟨1,1,0,0,0⟩,⟨1,1,0,5,0⟩] } 0 2:=by
  show _∈([]++a6f _ 0 0)++a6f _ 0 1
  refine List.mem_append_right _ ?_
  change _∈(if (a8x z.cal (z.cal.a08+a0z z.cal 0) (((0:Nat):Int)+1) ⟨1,1,0,5,0⟩).2=true then [(⟨(a8x z.cal (z.cal.a08+a0z z.cal 0) (((0:Nat):Int)+1) ⟨1,1,0,5,0⟩).1 * 1440+5 - 0,0⟩:Tr)] else [])
  rw [d2]
  simp
 obtain ⟨z',hz'⟩ : ∃ z':a0w,z' = { z with a0b:=[⟨1,1,0,0,0⟩,⟨1,1,0,5,0⟩] }:=⟨_,rfl⟩
 have hy:z'.a0b.length≠0:=by rw [hz'];simp
 rw [← hz'] at h1 h2 ajy g
 have hk:0 < kT z':=by
  have e:=(aiz (z:=z') ajy).2
  have c:=ag7 (z:=z') ajy
  rcases Nat.eq_zero_or_pos (kT z') with h | h
  ·rw [h] at e
   have e:a0s z'≤0:=e
   omega
  ·exact h
 have e:ysT z' = a4t (raw z' (kT z')):=by unfold ysT;rw [if_neg hy]
 have m1:(⟨10080,0⟩:Tr)∈ysT z':=by rw [e];exact (a5i _).mem_iff.2 (raw_zero h1 _ hk)
 have m2:(⟨10085,0⟩:Tr)∈ysT z':=by rw [e];exact (a5i _).mem_iff.2 (raw_zero h2 _ hk)
 obtain ⟨i,hi,ei⟩:=List.getElem_of_mem m1
 obtain ⟨j,hj,ej⟩:=List.getElem_of_mem m2
 have gi:=getD_at hi
 have gj:=getD_at hj
 rw [ei] at gi
 rw [ej] at gj
 rcases Nat.lt_trichotomy i j with h | h | h
 ·have:=aal g.gap h hj
  rw [gi,gj] at this
  dsimp only at this
  omega
 ·subst h
  rw [gi] at gj
  cases gj
 ·have:=aal g.gap h hi
  rw [gi,gj] at this
  dsimp only at this
  omega
theorem made_cal (x:Raw):(made x).cal=a0t x:=by unfold made;split<;>rfl
theorem made_tl (x:Raw):(made x).trans.length≤3:=by
 unfold made
 split
 ·show (a1a x (a1j x)).length≤3
  rw [a1n];unfold a1j;omega
 ·show (a1a x (a1j x)).length≤3
  rw [a1n];unfold a1j;omega
end Zn
