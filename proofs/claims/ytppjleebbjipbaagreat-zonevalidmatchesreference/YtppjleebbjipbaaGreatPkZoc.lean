/-
  clock.instants.
-/
import Derived.Test.YtppjleebbjipbaaGreatPkZpa
import Derived.Test.YtppjleebbjipbaaGreatPkZsi
set_option linter.unusedSectionVars false
set_option linter.constructorNameAsVariable false
set_option linter.unusedVariables false
set_option linter.unusedSimpArgs false
namespace Zn
def a6c (z:a0w) (ys:List Tr) (cyc loc:Int):Nat→Int→List Int→List Int×Int×Int
 | 0,_,l=>(l,0,0)
 | f+1,t,l =>
  let l':=if loc - a5a z ys cyc t≤t∧(∀ x,lastT z ys cyc t=some x→x.tm≤loc - a5a z ys cyc t) then l ++ [loc - a5a z ys cyc t] else l
  match lastT z ys cyc t with
  | none=>(a2z l',0,0)
  | some x=>if x.tm < loc - 1080 then (a2z l',0,0)
   else if x.tm+a5a z ys cyc (x.tm - 1)≤loc∧loc < x.tm+x.off then ([],x.tm,a5a z ys cyc (x.tm - 1))
   else a6c z ys cyc loc f (x.tm - 1) l'
instance {p:Tr→Prop} [DecidablePred p] (o:Option Tr):Decidable (∀ x,o=some x→p x) :=
 match o with
 | none=>isTrue (fun _ h=>by cases h)
 | some y=>if h:p y then isTrue (fun x e=>by cases e;exact h) else isFalse (fun g=>h (g y rfl))
def a3f (z:a0w) (ys:List Tr) (cyc loc:Int):List Int×Int×Int:=a6c z ys cyc loc 4000 (loc+1080) []
theorem abh {z:a0w} {ys:List Tr} {cyc loc t:Int} {f:Nat} {l:List Int} (h:lastT z ys cyc t=none) :
  a6c z ys cyc loc (f+1) t l=(a2z (if loc - a5a z ys cyc t≤t then l ++ [loc - a5a z ys cyc t] else l),0,0):=by
 unfold a6c
 rw [h]
 simp
theorem abg {z:a0w} {ys:List Tr} {cyc loc t:Int} {f:Nat} {l:List Int} {x:Tr} (h:lastT z ys cyc t=some x) :
  a6c z ys cyc loc (f+1) t l=if x.tm < loc - 1080 then (a2z (if loc - a5a z ys cyc t≤t∧x.tm≤loc - a5a z ys cyc t then l ++ [loc - a5a z ys cyc t] else l),0,0)
   else if x.tm+a5a z ys cyc (x.tm - 1)≤loc∧loc < x.tm+x.off then ([],x.tm,a5a z ys cyc (x.tm - 1))
   else a6c z ys cyc loc f (x.tm - 1) (if loc - a5a z ys cyc t≤t∧x.tm≤loc - a5a z ys cyc t then l ++ [loc - a5a z ys cyc t] else l):=by
 conv=>lhs;unfold a6c
 rw [h]
 simp
theorem aaf:∀ (l:List Tr) (a:Option Tr) (t:Int) (x:Tr),(∀ y,a=some y→y.tm≤t)→a4i l t a=some x→x.tm≤t
 | [],a,t,x,ha,h=>ha x h
 | y :: ys,a,t,x,ha,h=>by
  unfold a4i at h
  split at h
  ·rename_i hy
   exact aaf ys (some y) t x (fun z e=>by cases e;exact hy) h
  ·exact ha x h
theorem akm {z:a0w} {ys:List Tr} {cyc t:Int} {x:Tr} (h:lastT z ys cyc t=some x):x.tm≤t:=by
 unfold lastT at h
 split at h
 ·rename_i y hy
  cases h
  unfold a6a at hy
  split at hy
  ·split at hy
   ·rename_i u hu
    have:=aaf _ none _ _ (fun _ e=>by cases e) hu
    split at hy
    ·cases hy
     dsimp only
     omega
    ·cases hy
   ·cases hy
  ·cases hy
 ·exact aaf _ none _ _ (fun _ e=>by cases e) h
theorem adp {z:a0w} {ys:List Tr} {cyc t:Int} {x:Tr} (h:lastT z ys cyc t=some x):a5a z ys cyc t=x.off:=by
 unfold a5a
 rw [h]
theorem lastT_no {z:a0w} {ys:List Tr} {cyc t:Int} (h:lastT z ys cyc t=none):a5a z ys cyc t=z.start:=by
 unfold a5a
 rw [h]
end Zn
namespace Go.Proofs.YtppjleebbjipbaaGreat
open Go.RowKit Go.Shelf
set_option maxRecDepth 20000
set_option maxHeartbeats 8000000
theorem a3v {W:World} {g:Nat} {z:Zn.a0w} {ys:List Zn.Tr} {cyc:Int} (h:aec W g z ys cyc) (hk:Zn.Ck z ys cyc) {loc:Int} (h0 : -2251799813685248≤loc) (h1:loc≤2251799813685248) :
  Calls Tryz.prog 59 #[.pointer (some ⟨g,0,none⟩),.int .i64 loc] W fun e w'=>(∃ v,e=.returned (.tuple #[v,.int .i64 (Zn.a3f z ys cyc loc).2.1,.int .i64 (Zn.a3f z ys cyc loc).2.2])∧a2c w' v (Zn.a3f z ys cyc loc).1)∧Below W.heap.size W w':=by
 have HK:=Lib.hid hk
 have HLS:=Lib.hid (fun (Wq:World) (hb:Below W.heap.size W Wq) (t:Int) (a : -4503599627370496≤t) (b:t≤4503599627370496)=>abf (h.below hb) hk a b)
 have HOF:=Lib.hid (fun (Wq:World) (hb:Below W.heap.size W Wq) (t:Int) (a : -4503599627370496≤t) (b:t≤4503599627370496)=>a96 (h.below hb) hk a b)
 clear h hk
 have wl1:IntKind.wrap .i64 (loc+1080)=loc+1080:=by rw [wrap_in]<;>omega
 have wl2:IntKind.wrap .i64 (loc - 1080)=loc - 1080:=by rw [wrap_in]<;>omega
 go_enter Tryz.func59,Tryz.ntmps59
 repeat'(first|go_skip|go_guarded|go_step|go_upon)
 go_loopw [4,7] (fun lv tv wr => ∃ (f:Nat) (t:Int) (l:List Int),tv=.int .i64 t∧wr.ownsRow W.heap.size 3 1 lv l.length (a4m l)∧Zn.a3f z ys cyc loc=Zn.a6c z ys cyc loc (f+1) t l∧t≤loc+1080∧loc - 1081≤t∧t - (loc - 1083)≤f∧l.length+f≤3999∧Below W.heap.size W wr) (fun _ tv _=>(intOf tv - (loc - 1090)).toNat)
 case atStart=>exact ⟨3999,loc+1080,[],rfl,⟨rfl,.inl ⟨rfl,rfl⟩⟩,rfl,by omega,by omega,by omega,by simp,Below.refl _ _⟩
 case round =>
  obtain ⟨f,t,l,rfl,how,hit,ht1,ht0,hf,hll,hB⟩:=hrel
  have HIT:=Lib.hid hit
  clear hit
  have HLA:=Lib.hid (HLS.out wr hB t (by omega) (by omega))
  have hoo:=Zn.abn HK.out t
  have osl:=a3x how
  obtain ⟨la,lc,hlv⟩:=(a2o how).2.2
  subst hlv
  cases hx:Zn.lastT z ys cyc t with
  | none =>
   have HST:Hid (Zn.a3f z ys cyc loc=(Zn.a2z (if loc - Zn.a5a z ys cyc t≤t then l ++ [loc - Zn.a5a z ys cyc t] else l),0,0)):=Lib.hid (by rw [HIT.out,Zn.abh hx])
   rw [hx] at HLA
   unfold aha at HLA
   simp only [Option.getD_none,Option.isSome_none] at HLA
   have rz:a7c (default:Zn.Tr)=#[.int .i64 0,.int .i64 0]:=rfl
   rw [rz] at HLA
   have hon:ones #[.int .i64 0,.int .i64 0]=true:=by simp [ones,a0n]
   clear hx rz
   have HOA:=Lib.hid (fun (Wq:World) (hb:Below W.heap.size W Wq)=>HOF.out Wq hb t (by omega) (by omega))
   generalize Zn.a5a z ys cyc t=o at *
   have wlo:IntKind.wrap .i64 (loc - o)=loc - o:=by rw [wrap_in]<;>omega
   repeat' ((go_not_at_region 3);(first | (go_at_call 96;((with_reducible refine (HLA.out).mono ?_));rintro e w5 ⟨rfl,an1⟩;dsimp only)|go_skip|go_guarded|go_step|go_upon))
   have dB5:=hB.trans (an1.mono hB.size)
   have A5:=(Below.refl w5.heap.size w5).alloc (Nat.le_refl _) (.cells #[.int .i64 0,.int .i64 0] 57)
   have dB5:=dB5.trans (A5.mono dB5.size)
   have d85:obj (w5.alloc (.cells #[.int .i64 0,.int .i64 0] 57)) w5.heap.size=some (.cells #[.int .i64 0,.int .i64 0] 57 (0,0)):=a05 _ _ _ rfl
   have alq:=a0m (a0m how an1) A5
   have HOA:=Lib.hid (HOA.out _ dB5)
   repeat' ((go_not_at_region 4);(first | (go_at_call 56;((with_reducible refine (HOA.out).mono ?_));rintro e w6 ⟨rfl,akt⟩;dsimp only)|go_skip|go_guarded|go_step|go_upon))
   have d8:=a0a d85 akt
   have dB:=dB5.trans (akt.mono dB5.size)
   have ow6:=a0m alq akt
   generalize w5.heap.size=b8 at *
   clear how alq d85 dB5 A5 an1 akt HOA HLA
   by_cases ha:loc - o≤t
   ·have as3:Hid (Zn.a3f z ys cyc loc=(Zn.a2z (l ++ [loc - o]),0,0)):=Lib.hid (by rw [HST.out,if_pos ha])
    clear HST
    repeat' ((go_not_at_region 6);(first|go_skip|go_guarded|go_step|go_upon))
    have A6:=(Below.refl w6.heap.size w6).alloc (Nat.le_refl _) (.cells #[.int .i64 (loc - o)] 3)
    have ow7:=a0m ow6 A6
    have n6:obj (w6.alloc (.cells #[.int .i64 (loc - o)] 3)) w6.heap.size=some (.cells #[.int .i64 (loc - o)] 3 (0,0)):=a05 _ _ _ rfl
    have n8:=a0a d8 A6
    have nB:=dB.trans (A6.mono dB.size)
    have nsz:=nB.size
    repeat' ((go_not_at_region 7);(first | (at_builtin;(refine a4p rfl _ _ rfl W.heap.size l.length (.slice la l.length lc) (a4m l) rfl ow7 w6.heap.size _ rfl n6 rfl (by omega) nsz ?_);intro v5 W5 a3p hg5;have hg:(w6.alloc (.cells #[.int .i64 (loc - o)] 3)).grownBy W5 (Value.slice la l.length lc).ownBlock:=hg5;clear hg5;have e8:=a19 ow7 n8 (by decide) hg;have eB:=nB.grown hg nsz (fun g q=>a1p ow7 q);have alk:W5.ownsRow W.heap.size 3 1 v5 (l.length+1) (a4m (l ++ [loc - o])):=(by simpa [a4m] using a3p);obtain ⟨va,vc,hv5⟩:=(a2o alk).2.2;subst hv5;dsimp only)|go_skip|go_guarded|go_step|go_upon))
    have HSR:=Lib.hid (a5t (l:=l ++ [loc - o]) (show World.ownsRow _ _ _ _ (.slice va (l.length+1) vc) _ _ from by simpa using alk) (by simp;omega))
    have HRS:Hid (Zn.a3f z ys cyc loc=(Zn.a2z (l ++ [loc - o]),0,0)):=Lib.hid (as3.out)
    repeat' (first | (go_at_call 81;((with_reducible refine (HSR.out).mono ?_));rintro e w8 ⟨rfl,hiv,hbx⟩;have hB8:=(eB).trans (hbx.below (eB).size (fun k hk h=>by have h:W.heap.size≤k:=h;omega));dsimp only)|go_skip|go_guarded|go_step|go_upon)
    go_returns
    exact ⟨⟨_,by rw [HRS.out];rfl,by rw [HRS.out];exact hiv⟩,hB8⟩
   ·have as3:Hid (Zn.a3f z ys cyc loc=(Zn.a2z l,0,0)):=Lib.hid (by rw [HST.out,if_neg ha])
    clear HST
    have HSR:=Lib.hid (a5t (l:=l) (ow6) (by omega))
    have HRS:Hid (Zn.a3f z ys cyc loc=(Zn.a2z (l),0,0)):=Lib.hid (as3.out)
    repeat' (first | (go_at_call 81;((with_reducible refine (HSR.out).mono ?_));rintro e w8 ⟨rfl,hiv,hbx⟩;have hB8:=(dB).trans (hbx.below (dB).size (fun k hk h=>by have h:W.heap.size≤k:=h;omega));dsimp only)|go_skip|go_guarded|go_step|go_upon)
    go_returns
    exact ⟨⟨_,by rw [HRS.out];rfl,by rw [HRS.out];exact hiv⟩,hB8⟩
  | some x =>
   have hxt:=Zn.akm hx
   have hxo:=Zn.adp hx
   have hst:=Zn.abg (loc:=loc) (f:=f) (l:=l) hx
   rw [← HIT.out] at hst
   have ant:=Lib.hid hst
   rw [hx] at HLA
   unfold aha at HLA
   simp only [Option.getD_some,Option.isSome_some] at HLA
   unfold a7c at HLA
   have hon:ones #[.int .i64 x.tm,.int .i64 x.off]=true:=by simp [ones,a0n]
   clear hst hx
   have HOA:=Lib.hid (fun (Wq:World) (hb:Below W.heap.size W Wq)=>HOF.out Wq hb t (by omega) (by omega))
   have HXO:=Lib.hid hxo
   clear hxo
   generalize Zn.a5a z ys cyc t=o at *
   have wlo:IntKind.wrap .i64 (loc - o)=loc - o:=by rw [wrap_in]<;>omega
   repeat' ((go_not_at_region 3);(first | (go_at_call 96;((with_reducible refine (HLA.out).mono ?_));rintro e w5 ⟨rfl,an1⟩;dsimp only)|go_skip|go_guarded|go_step|go_upon))
   have dB5:=hB.trans (an1.mono hB.size)
   have A5:=(Below.refl w5.heap.size w5).alloc (Nat.le_refl _) (.cells #[.int .i64 x.tm,.int .i64 x.off] 57)
   have dB5:=dB5.trans (A5.mono dB5.size)
   have d85:obj (w5.alloc (.cells #[.int .i64 x.tm,.int .i64 x.off] 57)) w5.heap.size=some (.cells #[.int .i64 x.tm,.int .i64 x.off] 57 (0,0)):=a05 _ _ _ rfl
   have alq:=a0m (a0m how an1) A5
   have HOA:=Lib.hid (HOA.out _ dB5)
   repeat' ((go_not_at_region 4);(first | (go_at_call 56;((with_reducible refine (HOA.out).mono ?_));rintro e w6 ⟨rfl,akt⟩;dsimp only)|go_skip|go_guarded|go_step|go_upon))
   have d8:=a0a d85 akt
   have dB:=dB5.trans (akt.mono dB5.size)
   have ow6:=a0m alq akt
   have dc:=a02 d8 0
   generalize w5.heap.size=b8 at *
   clear how alq d85 dB5 A5 an1 akt HOA HLA
   by_cases ha:loc - o≤t
   ·by_cases hb:x.tm≤loc - o
    ·have HST:Hid (Zn.a3f z ys cyc loc=if x.tm < loc - 1080 then (Zn.a2z (l ++ [loc - o]),0,0) else if x.tm+Zn.a5a z ys cyc (x.tm - 1)≤loc∧loc < x.tm+x.off then ([],x.tm,Zn.a5a z ys cyc (x.tm - 1)) else Zn.a6c z ys cyc loc f (x.tm - 1) (l ++ [loc - o])):=Lib.hid (by rw [ant.out];simp only [if_pos (show loc - o≤t∧x.tm≤loc - o from ⟨ha,hb⟩)])
     clear ant
     repeat' ((go_not_at_region 6);(first|go_skip|go_guarded|go_step|go_upon))
     have A6:=(Below.refl w6.heap.size w6).alloc (Nat.le_refl _) (.cells #[.int .i64 (loc - o)] 3)
     have ow7:=a0m ow6 A6
     have n6:obj (w6.alloc (.cells #[.int .i64 (loc - o)] 3)) w6.heap.size=some (.cells #[.int .i64 (loc - o)] 3 (0,0)):=a05 _ _ _ rfl
     have n8:=a0a d8 A6
     have nB:=dB.trans (A6.mono dB.size)
     have nsz:=nB.size
     repeat' ((go_not_at_region 7);(first | (at_builtin;(refine a4p rfl _ _ rfl W.heap.size l.length (.slice la l.length lc) (a4m l) rfl ow7 w6.heap.size _ rfl n6 rfl (by omega) nsz ?_);intro v5 W5 a3p hg5;have hg:(w6.alloc (.cells #[.int .i64 (loc - o)] 3)).grownBy W5 (Value.slice la l.length lc).ownBlock:=hg5;clear hg5;have e8:=a19 ow7 n8 (by decide) hg;have eB:=nB.grown hg nsz (fun g q=>a1p ow7 q);have alk:W5.ownsRow W.heap.size 3 1 v5 (l.length+1) (a4m (l ++ [loc - o])):=(by simpa [a4m] using a3p);obtain ⟨va,vc,hv5⟩:=(a2o alk).2.2;subst hv5;dsimp only)|go_skip|go_guarded|go_step|go_upon))
     have c8:=a02 e8 0
     have c81:=a02 e8 1
     by_cases hlo:x.tm < loc - 1080
     ·have HSR:=Lib.hid (a5t (l:=l ++ [loc - o]) (show World.ownsRow _ _ _ _ (.slice va (l.length+1) vc) _ _ from by simpa using alk) (by simp;omega))
      have HRS:Hid (Zn.a3f z ys cyc loc=(Zn.a2z (l ++ [loc - o]),0,0)):=Lib.hid (by rw [HST.out,if_pos hlo])
      repeat' (first | (go_at_call 81;((with_reducible refine (HSR.out).mono ?_));rintro e w8 ⟨rfl,hiv,hbx⟩;have hB8:=(eB).trans (hbx.below (eB).size (fun k hk h=>by have h:W.heap.size≤k:=h;omega));dsimp only)|go_skip|go_guarded|go_step|go_upon)
      go_returns
      exact ⟨⟨_,by rw [HRS.out];rfl,by rw [HRS.out];exact hiv⟩,hB8⟩
     ·have hb1:loc - 1080≤x.tm:=by omega
      have wx1:IntKind.wrap .i64 (x.tm - 1)=x.tm - 1:=by rw [wrap_in]<;>omega
      have HOB:=Lib.hid (HOF.out W5 (eB) (x.tm - 1) (by omega) (by omega))
      have hob:=Zn.abn HK.out (x.tm - 1)
      have hst2:=HST.out
      rw [if_neg hlo] at hst2
      have ajs:=Lib.hid hst2
      clear hst2 hlo
      generalize Zn.a5a z ys cyc (x.tm - 1)=b at *
      have wxb:IntKind.wrap .i64 (x.tm+b)=x.tm+b:=by rw [wrap_in]<;>omega
      have wxo:IntKind.wrap .i64 (x.tm+x.off)=x.tm+x.off:=by have:=HXO.out;rw [wrap_in]<;>omega
      repeat' ((go_not_at_region 9);(first | (go_at_call 56;((with_reducible refine (HOB.out).mono ?_));rintro e w7 ⟨rfl,aj6⟩;dsimp only)|go_skip|go_guarded|go_step|go_upon))
      have m8:=a0a e8 aj6
      have mo:=a0m alk aj6
      have mB:=(eB).trans (aj6.mono (eB).size)
      have c9:=a02 m8 0
      have c91:=a02 m8 1
      clear c8 c81
      by_cases hg1:x.tm+b≤loc
      ·by_cases hg2:loc < x.tm+x.off
       ·have HRS:Hid (Zn.a3f z ys cyc loc=([],x.tm,b)):=Lib.hid (by rw [ajs.out,if_pos ⟨hg1,hg2⟩])
        repeat'(first|go_skip|go_guarded|go_step|go_upon)
        go_quiet (fail)
        have mB9:=below_drewN mB nq
        generalize w7.drewN nq=w9 at *
        repeat'(first|go_skip|go_guarded|go_step|go_upon)
        go_returns
        exact ⟨⟨_,by rw [HRS.out];rfl,by rw [HRS.out];exact a2c.nil _⟩,mB9⟩
       ·have HRS:Hid (Zn.a3f z ys cyc loc=Zn.a6c z ys cyc loc f (x.tm - 1) (l ++ [loc - o])):=Lib.hid (by rw [ajs.out,if_neg (fun h=>hg2 h.2)])
        repeat'(first|go_skip|go_guarded|go_step|go_upon)
        exact ⟨⟨f - 1,x.tm - 1,l ++ [loc - o],rfl,by simpa using mo,by rw [HRS.out,show f - 1+1=f by omega],by omega,by omega,by omega,by simp;omega,mB⟩,by simp only [intOf];omega⟩
      ·have HRS:Hid (Zn.a3f z ys cyc loc=Zn.a6c z ys cyc loc f (x.tm - 1) (l ++ [loc - o])):=Lib.hid (by rw [ajs.out,if_neg (fun h=>hg1 h.1)])
       repeat'(first|go_skip|go_guarded|go_step|go_upon)
       exact ⟨⟨f - 1,x.tm - 1,l ++ [loc - o],rfl,by simpa using mo,by rw [HRS.out,show f - 1+1=f by omega],by omega,by omega,by omega,by simp;omega,mB⟩,by simp only [intOf];omega⟩
    ·have HST:Hid (Zn.a3f z ys cyc loc=if x.tm < loc - 1080 then (Zn.a2z l,0,0) else if x.tm+Zn.a5a z ys cyc (x.tm - 1)≤loc∧loc < x.tm+x.off then ([],x.tm,Zn.a5a z ys cyc (x.tm - 1)) else Zn.a6c z ys cyc loc f (x.tm - 1) l):=Lib.hid (by rw [ant.out];simp only [if_neg (show ¬ (loc - o≤t∧x.tm≤loc - o) from fun h=>hb h.2)])
     clear ant
     repeat' ((go_not_at_region 7);(first|go_skip|go_guarded|go_step|go_upon))
     have c8:=a02 d8 0
     have c81:=a02 d8 1
     by_cases hlo:x.tm < loc - 1080
     ·exfalso;omega
     ·have hb1:loc - 1080≤x.tm:=by omega
      have wx1:IntKind.wrap .i64 (x.tm - 1)=x.tm - 1:=by rw [wrap_in]<;>omega
      have HOB:=Lib.hid (HOF.out w6 (dB) (x.tm - 1) (by omega) (by omega))
      have hob:=Zn.abn HK.out (x.tm - 1)
      have hst2:=HST.out
      rw [if_neg hlo] at hst2
      have ajs:=Lib.hid hst2
      clear hst2 hlo
      generalize Zn.a5a z ys cyc (x.tm - 1)=b at *
      have wxb:IntKind.wrap .i64 (x.tm+b)=x.tm+b:=by rw [wrap_in]<;>omega
      have wxo:IntKind.wrap .i64 (x.tm+x.off)=x.tm+x.off:=by have:=HXO.out;rw [wrap_in]<;>omega
      repeat' ((go_not_at_region 9);(first | (go_at_call 56;((with_reducible refine (HOB.out).mono ?_));rintro e w7 ⟨rfl,aj6⟩;dsimp only)|go_skip|go_guarded|go_step|go_upon))
      have m8:=a0a d8 aj6
      have mo:=a0m ow6 aj6
      have mB:=(dB).trans (aj6.mono (dB).size)
      have c9:=a02 m8 0
      have c91:=a02 m8 1
      clear c8 c81
      by_cases hg1:x.tm+b≤loc
      ·by_cases hg2:loc < x.tm+x.off
       ·have HRS:Hid (Zn.a3f z ys cyc loc=([],x.tm,b)):=Lib.hid (by rw [ajs.out,if_pos ⟨hg1,hg2⟩])
        repeat'(first|go_skip|go_guarded|go_step|go_upon)
        go_quiet (fail)
        have mB9:=below_drewN mB nq
        generalize w7.drewN nq=w9 at *
        repeat'(first|go_skip|go_guarded|go_step|go_upon)
        go_returns
        exact ⟨⟨_,by rw [HRS.out];rfl,by rw [HRS.out];exact a2c.nil _⟩,mB9⟩
       ·have HRS:Hid (Zn.a3f z ys cyc loc=Zn.a6c z ys cyc loc f (x.tm - 1) (l)):=Lib.hid (by rw [ajs.out,if_neg (fun h=>hg2 h.2)])
        repeat'(first|go_skip|go_guarded|go_step|go_upon)
        exact ⟨⟨f - 1,x.tm - 1,l,rfl,mo,by rw [HRS.out,show f - 1+1=f by omega],by omega,by omega,by omega,by omega,mB⟩,by simp only [intOf];omega⟩
      ·have HRS:Hid (Zn.a3f z ys cyc loc=Zn.a6c z ys cyc loc f (x.tm - 1) (l)):=Lib.hid (by rw [ajs.out,if_neg (fun h=>hg1 h.1)])
       repeat'(first|go_skip|go_guarded|go_step|go_upon)
       exact ⟨⟨f - 1,x.tm - 1,l,rfl,mo,by rw [HRS.out,show f - 1+1=f by omega],by omega,by omega,by omega,by omega,mB⟩,by simp only [intOf];omega⟩
   ·have HST:Hid (Zn.a3f z ys cyc loc=if x.tm < loc - 1080 then (Zn.a2z l,0,0) else if x.tm+Zn.a5a z ys cyc (x.tm - 1)≤loc∧loc < x.tm+x.off then ([],x.tm,Zn.a5a z ys cyc (x.tm - 1)) else Zn.a6c z ys cyc loc f (x.tm - 1) l):=Lib.hid (by rw [ant.out];simp only [if_neg (show ¬ (loc - o≤t∧x.tm≤loc - o) from fun h=>ha h.1)])
    clear ant
    repeat' ((go_not_at_region 7);(first|go_skip|go_guarded|go_step|go_upon))
    have c8:=a02 d8 0
    have c81:=a02 d8 1
    by_cases hlo:x.tm < loc - 1080
    ·have HSR:=Lib.hid (a5t (l:=l) (ow6) (by omega))
     have HRS:Hid (Zn.a3f z ys cyc loc=(Zn.a2z (l),0,0)):=Lib.hid (by rw [HST.out,if_pos hlo])
     repeat' (first | (go_at_call 81;((with_reducible refine (HSR.out).mono ?_));rintro e w8 ⟨rfl,hiv,hbx⟩;have hB8:=(dB).trans (hbx.below (dB).size (fun k hk h=>by have h:W.heap.size≤k:=h;omega));dsimp only)|go_skip|go_guarded|go_step|go_upon)
     go_returns
     exact ⟨⟨_,by rw [HRS.out];rfl,by rw [HRS.out];exact hiv⟩,hB8⟩
    ·have hb1:loc - 1080≤x.tm:=by omega
     have wx1:IntKind.wrap .i64 (x.tm - 1)=x.tm - 1:=by rw [wrap_in]<;>omega
     have HOB:=Lib.hid (HOF.out w6 (dB) (x.tm - 1) (by omega) (by omega))
     have hob:=Zn.abn HK.out (x.tm - 1)
     have hst2:=HST.out
     rw [if_neg hlo] at hst2
     have ajs:=Lib.hid hst2
     clear hst2 hlo
     generalize Zn.a5a z ys cyc (x.tm - 1)=b at *
     have wxb:IntKind.wrap .i64 (x.tm+b)=x.tm+b:=by rw [wrap_in]<;>omega
     have wxo:IntKind.wrap .i64 (x.tm+x.off)=x.tm+x.off:=by have:=HXO.out;rw [wrap_in]<;>omega
     repeat' ((go_not_at_region 9);(first | (go_at_call 56;((with_reducible refine (HOB.out).mono ?_));rintro e w7 ⟨rfl,aj6⟩;dsimp only)|go_skip|go_guarded|go_step|go_upon))
     have m8:=a0a d8 aj6
     have mo:=a0m ow6 aj6
     have mB:=(dB).trans (aj6.mono (dB).size)
     have c9:=a02 m8 0
     have c91:=a02 m8 1
     clear c8 c81
     by_cases hg1:x.tm+b≤loc
     ·by_cases hg2:loc < x.tm+x.off
      ·have HRS:Hid (Zn.a3f z ys cyc loc=([],x.tm,b)):=Lib.hid (by rw [ajs.out,if_pos ⟨hg1,hg2⟩])
       repeat'(first|go_skip|go_guarded|go_step|go_upon)
       go_quiet (fail)
       have mB9:=below_drewN mB nq
       generalize w7.drewN nq=w9 at *
       repeat'(first|go_skip|go_guarded|go_step|go_upon)
       go_returns
       exact ⟨⟨_,by rw [HRS.out];rfl,by rw [HRS.out];exact a2c.nil _⟩,mB9⟩
      ·have HRS:Hid (Zn.a3f z ys cyc loc=Zn.a6c z ys cyc loc f (x.tm - 1) (l)):=Lib.hid (by rw [ajs.out,if_neg (fun h=>hg2 h.2)])
       repeat'(first|go_skip|go_guarded|go_step|go_upon)
       exact ⟨⟨f - 1,x.tm - 1,l,rfl,mo,by rw [HRS.out,show f - 1+1=f by omega],by omega,by omega,by omega,by omega,mB⟩,by simp only [intOf];omega⟩
     ·have HRS:Hid (Zn.a3f z ys cyc loc=Zn.a6c z ys cyc loc f (x.tm - 1) (l)):=Lib.hid (by rw [ajs.out,if_neg (fun h=>hg1 h.1)])
      repeat'(first|go_skip|go_guarded|go_step|go_upon)
      exact ⟨⟨f - 1,x.tm - 1,l,rfl,mo,by rw [HRS.out,show f - 1+1=f by omega],by omega,by omega,by omega,by omega,mB⟩,by simp only [intOf];omega⟩
end Go.Proofs.YtppjleebbjipbaaGreat
