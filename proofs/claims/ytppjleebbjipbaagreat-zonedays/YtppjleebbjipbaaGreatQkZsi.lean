/-
  The sort of numbers.
-/
import Derived.Test.YtppjleebbjipbaaGreatQkZsh
import Derived.Test.YtppjleebbjipbaaGreatQkZpa
set_option linter.all false
namespace Zn
def a2z (l:List Int):List Int:=l.mergeSort fun x y=>decide (x≤y)
theorem a4n (l:List Int):(a2z l).Perm l:=List.mergeSort_perm _ _
end Zn
namespace Go.Proofs.YtppjleebbjipbaaGreat
open Go.RowKit Go.Shelf
set_option maxRecDepth 20000
set_option maxHeartbeats 8000000
def a2c (W:World) (v:Value) (l:List Int):Prop:=a1s W v l∧∃ a c,v=.slice a l.length c∧l.length≤c
theorem a2c.below {W W':World} {v:Value} {l:List Int} (h:a2c W v l) (hb:Below W W W'):a2c W' v l:=⟨h.1.below hb,h.2⟩
theorem a2c.nil (W:World):a2c W (.slice none 0 0) []:=⟨⟨none,0,rfl,fun h=>by simp at h⟩,none,0,rfl,zD _⟩
theorem a5t {W:World} {base:Nat} {v:Value} {l:List Int} (h:W.ownsRow base 3 1 v l.length (a4m l)) (hl:l.length≤1000000000) :
  Calls Tryz.prog 81 #[v] W fun e w'=>e=.returned (.tuple #[])∧a2c w' v (Zn.a2z l)∧a1x W.heap.size (fun k=>base≤k) W w':=by
 have hll:(Zn.a2z l).length=l.length:=(Zn.a4n l).length_eq
 rcases h.2 with ⟨rfl,h0⟩ | ⟨g,c,cur,rfl,h1,h2,h3,h4,h5,h6⟩
 ·have hl0:l = []:=yH.1 h0
  have hcon:=AnyM.slices_Sort_int_none Tryz.sortInt none 0 W
  change Calls Tryz.prog 81 _ _ _ at hcon
  refine hcon.mono ?_
  rintro e w' ⟨rfl,rfl⟩
  exact ⟨rfl,⟨⟨none,0,by rw [hll,h0],fun hn=>by rw [hll] at hn;omega⟩,none,0,by rw [hll,h0],by rw [hll,h0];exact zD _⟩,⟨rfl,rfl,rfl,zD _,fun _ _ _=>rfl⟩⟩
 have h2':W.heap[g]? = some (.cells cur 3 (0,0)):=h2
 have lb:=a09 (w:=W) h2
 have hcell:∀ j,j < l.length→cur[j]? = some (.int .i64 (l.getD j 0))∧j < cur.size:=by
  intro j hj
  have e1:(a4m l)[j]? = some (.int .i64 (l.getD j 0)):=by
   unfold a4m;rw [xC,zB,zK hj];rfl
  rw [← h6,xQ] at e1
  split at e1
  ·rw [yU] at e1
   exact ⟨e1,(zL.1 e1).1⟩
  cases e1
 have hH:Go.Sort.Holds (Value.int .i64) W g 0 l.toArray:=by
  intro j hj
  have hj':j < l.length:=by simpa using hj
  refine ⟨?_,a0d h2 _⟩
  rw [a02 h2 (0+j),yI,(hcell j hj').1]
  congr 2
  rw [zB]
  simp [hj']
 have hcon:=AnyM.slices_Sort_int Tryz.sortInt g 0 c l W hH lb (by omega)
 change Calls Tryz.prog 81 _ _ _ at hcon
 refine hcon.mono ?_
 rintro e w' ⟨rfl,n,os,rfl⟩
 have hb':(Go.Sort.grow (Go.Sort.putRow (Value.int .i64) (Go.Sort.ahead W n) g 0 (l.mergeSort fun x y=>decide (x≤y)).toArray) os).heap[g]? = some (.cells (Go.Sort.putCells (Value.int .i64) 0 (Zn.a2z l).toArray cur) 3 (0,0)):=by
  simp only [Go.Sort.grow,Go.Sort.putRow,Go.Sort.mapBlock,Go.Sort.ahead]
  rw [xH (by simpa using lb),xR,zQ rfl,h2']
  rfl
 refine ⟨rfl,⟨⟨some ⟨g,0,none⟩,c,by rw [hll],fun _=>⟨g,0,_,3,(0,0),rfl,hb',fun i hi=>?_⟩⟩,some ⟨g,0,none⟩,c,by rw [hll],by rw [hll];exact h3⟩,⟨rfl,rfl,rfl,?_,fun k hk hn=>?_⟩⟩
 ·rw [hll] at hi
  have hr:=(hcell i hi).2
  simp only [Go.Sort.putCells,yI,Array.getElem?_mapIdx,zT hr,Option.map_some]
  rw [zQ ⟨xG _,by simp [hll];omega⟩,Nat.sub_zero]
  congr 2
  rw [zB]
  simp [hll,hi]
 ·simp [Go.Sort.grow,Go.Sort.putRow,Go.Sort.mapBlock,Go.Sort.ahead]
 simp only [Go.Sort.grow,Go.Sort.putRow,Go.Sort.mapBlock,Go.Sort.ahead]
 rw [xH (by simpa using hk),xR,zS (fun e=>hn (by subst e;exact h1))]
end Go.Proofs.YtppjleebbjipbaaGreat
namespace Zn
def a6c (z:a0w) (ys:List Tr) (cyc loc:Int):Nat→Int→List Int→List Int×Int×Int
 | 0,_,l=>(l,0,0)
 | f+1,t,l =>
  let l':=if loc - a5a z ys cyc t≤t∧(∀ x,lastT z ys cyc t=some x→x.tm≤loc - a5a z ys cyc t) then l ++ [loc - a5a z ys cyc t] else l
  match lastT z ys cyc t with
  | none=>(a2z l',0,0)
  | some x=>if x.tm < loc - 1080 then (a2z l',0,0)
   else if x.tm+a5a z ys cyc (x.tm - 1)≤loc∧loc < x.tm+x.off then ([],x.tm,a5a z ys cyc (x.tm - 1))
   else a6c z ys cyc loc f (x.tm - 1) l'
instance {p:Tr→Prop} [DecidablePred p] (o:Option Tr):Decidable (∀ x,o=some x→p x) :=
 match o with
 | none=>isTrue (fun _ h=>by cases h)
 | some y=>if h:p y then isTrue (fun x e=>by cases e;exact h) else isFalse (fun g=>h (g y rfl))
def a3f (z:a0w) (ys:List Tr) (cyc loc:Int):List Int×Int×Int:=a6c z ys cyc loc 4000 (loc+1080) []
theorem abh {z:a0w} {ys:List Tr} {cyc loc t:Int} {f:Nat} {l:List Int} (h:lastT z ys cyc t=none) :
  a6c z ys cyc loc (f+1) t l=(a2z (if loc - a5a z ys cyc t≤t then l ++ [loc - a5a z ys cyc t] else l),0,0):=by
 unfold a6c
 rw [h]
 simp
theorem abg {z:a0w} {ys:List Tr} {cyc loc t:Int} {f:Nat} {l:List Int} {x:Tr} (h:lastT z ys cyc t=some x) :
  a6c z ys cyc loc (f+1) t l=if x.tm < loc - 1080 then (a2z (if loc - a5a z ys cyc t≤t∧x.tm≤loc - a5a z ys cyc t then l ++ [loc - a5a z ys cyc t] else l),0,0)
   else if x.tm+a5a z ys cyc (x.tm - 1)≤loc∧loc < x.tm+x.off then ([],x.tm,a5a z ys cyc (x.tm - 1))
   else a6c z ys cyc loc f (x.tm - 1) (if loc - a5a z ys cyc t≤t∧x.tm≤loc - a5a z ys cyc t then l ++ [loc - a5a z ys cyc t] else l):=by
 conv=>lhs;unfold a6c
 rw [h]
 simp
theorem aaf:∀ (l:List Tr) (a:Option Tr) (t:Int) (x:Tr),(∀ y,a=some y→y.tm≤t)→a4i l t a=some x→x.tm≤t
 | [],a,t,x,ha,h=>ha x h
 | y :: ys,a,t,x,ha,h=>by
  unfold a4i at h
  split at h
  ·rename_i hy
   exact aaf ys (some y) t x (fun z e=>by cases e;exact hy) h
  ·exact ha x h
theorem akm {z:a0w} {ys:List Tr} {cyc t:Int} {x:Tr} (h:lastT z ys cyc t=some x):x.tm≤t:=by
 unfold lastT at h
 split at h
 ·rename_i y hy
  cases h
  unfold a6a at hy
  split at hy
  ·split at hy
   ·rename_i u hu
    have:=aaf _ none _ _ (fun _ e=>by cases e) hu;split at hy
    ·cases hy
     dsimp only;omega
    cases hy
   cases hy
  cases hy
 exact aaf _ none _ _ (fun _ e=>by cases e) h
theorem adp {z:a0w} {ys:List Tr} {cyc t:Int} {x:Tr} (h:lastT z ys cyc t=some x):a5a z ys cyc t=x.off:=by
 unfold a5a
 rw [h]
theorem lastT_no {z:a0w} {ys:List Tr} {cyc t:Int} (h:lastT z ys cyc t=none):a5a z ys cyc t=z.start:=by
 unfold a5a
 rw [h]
end Zn
namespace Go.Proofs.YtppjleebbjipbaaGreat
open Go.RowKit Go.Shelf
set_option maxRecDepth 20000
set_option maxHeartbeats 8000000
theorem a3v {W:World} {g:Nat} {z:Zn.a0w} {ys:List Zn.Tr} {cyc:Int} (h:aec W g z ys cyc) (hk:Zn.Ck z ys cyc) {loc:Int} (h0 : -2251799813685248≤loc) (h1:loc≤2251799813685248) :
  Calls Tryz.prog 59 #[.pointer (some ⟨g,0,none⟩),.int .i64 loc] W fun e w'=>(∃ v,e=.returned (.tuple #[v,.int .i64 (Zn.a3f z ys cyc loc).2.1,.int .i64 (Zn.a3f z ys cyc loc).2.2])∧a2c w' v (Zn.a3f z ys cyc loc).1)∧Below W W w':=by
 have HK:=zA hk
 have HLS:=zA (fun (Wq:World) (hb:Below W W Wq) (t:Int) (a : -4503599627370496≤t) (b:t≤4503599627370496)=>abf (h.below hb) hk a b)
 have HOF:=zA (fun (Wq:World) (hb:Below W W Wq) (t:Int) (a : -4503599627370496≤t) (b:t≤4503599627370496)=>a96 (h.below hb) hk a b)
 clear h hk
 have wl1:=zWI (loc+1080)
 have wl2:=zWI (loc - 1080)
 go_enter Tryz.func59,Tryz.ntmps59
 repeat'(first|go_skip|go_guarded|go_step|go_upon)
 go_loopw [4,7] (fun lv tv wr => ∃ (f:Nat) (t:Int) (l:List Int),tv=.int .i64 t∧wr.ownsRow W.heap.size 3 1 lv l.length (a4m l)∧Zn.a3f z ys cyc loc=Zn.a6c z ys cyc loc (f+1) t l∧t≤loc+1080∧loc - 1081≤t∧t - (loc - 1083)≤f∧l.length+f≤3999∧Below W W wr) (fun _ tv _=>(intOf tv - (loc - 1090)).toNat)
 case atStart=>exact ⟨3999,loc+1080,[],rfl,⟨rfl,.inl ⟨rfl,rfl⟩⟩,rfl,by omega,by omega,by omega,by simp,zC _ _⟩
 obtain ⟨f,t,l,rfl,how,hit,ht1,ht0,hf,hll,hB⟩:=hrel
 have HIT:=zA hit
 clear hit
 have HLA:=zA (HLS.out wr hB t (by omega) (by omega))
 have hoo:=Zn.abn HK.out t
 have osl:=a3x how
 obtain ⟨la,lc,hlv⟩:=(a2o how).2.2
 subst hlv
 cases hx:Zn.lastT z ys cyc t with
 | none =>
  have HST:Hid (Zn.a3f z ys cyc loc=(Zn.a2z (if loc - Zn.a5a z ys cyc t≤t then l ++ [loc - Zn.a5a z ys cyc t] else l),0,0)):=zA (by rw [HIT.out,Zn.abh hx])
  rw [hx] at HLA
  unfold aha at HLA
  simp only [Option.getD_none,Option.isSome_none] at HLA
  have rz:a7c (default:Zn.Tr)=#[.int .i64 0,.int .i64 0]:=rfl
  rw [rz] at HLA
  have hon:ones #[(0:Int),(0:Int)]=true:=by simp [ones,a0n]
  clear hx rz
  have HOA:=zA (fun (Wq:World) (hb:Below W W Wq)=>HOF.out Wq hb t (by omega) (by omega))
  generalize Zn.a5a z ys cyc t=o at *
  have wlo:=zWI (loc - o)
  repeat' ((go_not_at_region 3);(first | (go_at_call 96;((with_reducible refine (HLA.out).mono ?_));rintro e w5 ⟨rfl,an1⟩;dsimp only)|go_skip|go_guarded|go_step|go_upon))
  have dB5:=hB.trans (an1.mono hB.size)
  have A5:=(zC w5.heap.size w5).alloc (zD _) (.cells #[(0:Int),(0:Int)] 57)
  have dB5:=dB5.trans (A5.mono dB5.size)
  have d85:obj (w5.alloc (.cells #[(0:Int),(0:Int)] 57)) w5.heap.size=some (.cells #[(0:Int),(0:Int)] 57 (0,0)):=a05 _ _ _ rfl
  have alq:=a0m (a0m how an1) A5
  have HOA:=zA (HOA.out _ dB5)
  repeat' ((go_not_at_region 4);(first | (go_at_call 56;((with_reducible refine (HOA.out).mono ?_));rintro e w6 ⟨rfl,akt⟩;dsimp only)|go_skip|go_guarded|go_step|go_upon))
  have d8:=a0a d85 akt
  have dB:=dB5.trans (akt.mono dB5.size)
  have ow6:=a0m alq akt
  generalize w5.heap.size=b8 at *
  clear how alq d85 dB5 A5 an1 akt HOA HLA
  by_cases ha:loc - o≤t
  ·have as3:Hid (Zn.a3f z ys cyc loc=(Zn.a2z (l ++ [loc - o]),0,0)):=zA (by rw [HST.out,zQ ha])
   clear HST
   repeat' ((go_not_at_region 6);(first|go_skip|go_guarded|go_step|go_upon))
   have A6:=(zC w6.heap.size w6).alloc (zD _) (.cells #[(loc - o:Int)] 3);have ow7:=a0m ow6 A6;have n6:obj (w6.alloc (.cells #[(loc - o:Int)] 3)) w6.heap.size=some (.cells #[(loc - o:Int)] 3 (0,0)):=a05 _ _ _ rfl;have n8:=a0a d8 A6;have nB:=dB.trans (A6.mono dB.size);have nsz:=nB.size
   repeat' ((go_not_at_region 7);(first | (at_builtin;(refine a4p rfl _ _ rfl W.heap.size l.length (.slice la l.length lc) (a4m l) rfl ow7 w6.heap.size _ rfl n6 rfl (by omega) nsz ?_);intro v5 W5 a3p hg5;have hg:(w6.alloc (.cells #[(loc - o:Int)] 3)).grownBy W5 (Value.slice la l.length lc).ownBlock:=hg5;clear hg5;have e8:=a19 ow7 n8 (by decide) hg;have eB:=nB.grown hg nsz (fun g q=>a1p ow7 q);have alk:W5.ownsRow W.heap.size 3 1 v5 (l.length+1) (a4m (l ++ [loc - o])):=(by simpa [a4m] using a3p);obtain ⟨va,vc,hv5⟩:=(a2o alk).2.2;subst hv5;dsimp only)|go_skip|go_guarded|go_step|go_upon))
   have HSR:=zA (a5t (l:=l ++ [loc - o]) (show World.ownsRow _ _ _ _ (.slice va (l.length+1) vc) _ _ from by simpa using alk) (by simp;omega));have HRS:Hid (Zn.a3f z ys cyc loc=(Zn.a2z (l ++ [loc - o]),0,0)):=zA (as3.out)
   repeat' (first | (go_at_call 81;((with_reducible refine (HSR.out).mono ?_));rintro e w8 ⟨rfl,hiv,hbx⟩;have hB8:=(eB).trans (hbx.below (eB).size (fun k hk h=>by have h:W.heap.size≤k:=h;omega));dsimp only)|go_skip|go_guarded|go_step|go_upon)
   go_returns;exact ⟨⟨_,by rw [HRS.out];rfl,by rw [HRS.out];exact hiv⟩,hB8⟩
  have as3:Hid (Zn.a3f z ys cyc loc=(Zn.a2z l,0,0)):=zA (by rw [HST.out,zS ha])
  clear HST
  have HSR:=zA (a5t (l:=l) (ow6) (by omega))
  have HRS:Hid (Zn.a3f z ys cyc loc=(Zn.a2z (l),0,0)):=zA (as3.out)
  repeat' (first | (go_at_call 81;((with_reducible refine (HSR.out).mono ?_));rintro e w8 ⟨rfl,hiv,hbx⟩;have hB8:=(dB).trans (hbx.below (dB).size (fun k hk h=>by have h:W.heap.size≤k:=h;omega));dsimp only)|go_skip|go_guarded|go_step|go_upon)
  go_returns
  exact ⟨⟨_,by rw [HRS.out];rfl,by rw [HRS.out];exact hiv⟩,hB8⟩
 | some x =>
  have hxt:=Zn.akm hx
  have hxo:=Zn.adp hx
  have hst:=Zn.abg (loc:=loc) (f:=f) (l:=l) hx
  rw [← HIT.out] at hst
  have ant:=zA hst
  rw [hx] at HLA
  unfold aha at HLA
  simp only [vU,Option.isSome_some] at HLA
  unfold a7c at HLA
  have hon:ones #[x.tm,x.off]=true:=by simp [ones,a0n]
  clear hst hx
  have HOA:=zA (fun (Wq:World) (hb:Below W W Wq)=>HOF.out Wq hb t (by omega) (by omega))
  have HXO:=zA hxo
  clear hxo
  generalize Zn.a5a z ys cyc t=o at *
  have wlo:=zWI (loc - o)
  repeat' ((go_not_at_region 3);(first | (go_at_call 96;((with_reducible refine (HLA.out).mono ?_));rintro e w5 ⟨rfl,an1⟩;dsimp only)|go_skip|go_guarded|go_step|go_upon))
  have dB5:=hB.trans (an1.mono hB.size)
  have A5:=(zC w5.heap.size w5).alloc (zD _) (.cells #[x.tm,x.off] 57)
  have dB5:=dB5.trans (A5.mono dB5.size)
  have d85:obj (w5.alloc (.cells #[x.tm,x.off] 57)) w5.heap.size=some (.cells #[x.tm,x.off] 57 (0,0)):=a05 _ _ _ rfl
  have alq:=a0m (a0m how an1) A5
  have HOA:=zA (HOA.out _ dB5)
  repeat' ((go_not_at_region 4);(first | (go_at_call 56;((with_reducible refine (HOA.out).mono ?_));rintro e w6 ⟨rfl,akt⟩;dsimp only)|go_skip|go_guarded|go_step|go_upon))
  have d8:=a0a d85 akt
  have dB:=dB5.trans (akt.mono dB5.size)
  have ow6:=a0m alq akt
  have dc:=a02 d8 0
  generalize w5.heap.size=b8 at *
  clear how alq d85 dB5 A5 an1 akt HOA HLA
  by_cases ha:loc - o≤t;rotate_left
  ·have HST:Hid (Zn.a3f z ys cyc loc=if x.tm < loc - 1080 then (Zn.a2z l,0,0) else if x.tm+Zn.a5a z ys cyc (x.tm - 1)≤loc∧loc < x.tm+x.off then ([],x.tm,Zn.a5a z ys cyc (x.tm - 1)) else Zn.a6c z ys cyc loc f (x.tm - 1) l):=zA (by rw [ant.out];simp only [zS (show ¬ (loc - o≤t∧x.tm≤loc - o) from fun h=>ha h.1)])
   clear ant
   repeat' ((go_not_at_region 7);(first|go_skip|go_guarded|go_step|go_upon))
   have c8:=a02 d8 0;have c81:=a02 d8 1;by_cases hlo:x.tm < loc - 1080
   ·have HSR:=zA (a5t (l:=l) (ow6) (by omega))
    have HRS:Hid (Zn.a3f z ys cyc loc=(Zn.a2z (l),0,0)):=zA (by rw [HST.out,zQ hlo])
    repeat' (first | (go_at_call 81;((with_reducible refine (HSR.out).mono ?_));rintro e w8 ⟨rfl,hiv,hbx⟩;have hB8:=(dB).trans (hbx.below (dB).size (fun k hk h=>by have h:W.heap.size≤k:=h;omega));dsimp only)|go_skip|go_guarded|go_step|go_upon)
    go_returns;exact ⟨⟨_,by rw [HRS.out];rfl,by rw [HRS.out];exact hiv⟩,hB8⟩
   (have hb1:loc - 1080≤x.tm:=by omega);have wx1:=zWI (x.tm - 1);have HOB:=zA (HOF.out w6 (dB) (x.tm - 1) (by omega) (by omega));have hob:=Zn.abn HK.out (x.tm - 1);have hst2:=HST.out;rw [zS hlo] at hst2;have ajs:=zA hst2;clear hst2 hlo;generalize Zn.a5a z ys cyc (x.tm - 1)=b at *;have wxb:=zWI (x.tm+b)
   have wxo:IntKind.wrap .i64 (x.tm+x.off)=x.tm+x.off:=by have:=HXO.out;rw [wrap_in]<;>omega
   repeat' ((go_not_at_region 9);(first | (go_at_call 56;((with_reducible refine (HOB.out).mono ?_));rintro e w7 ⟨rfl,aj6⟩;dsimp only)|go_skip|go_guarded|go_step|go_upon))
   have m8:=a0a d8 aj6;have mo:=a0m ow6 aj6;have mB:=(dB).trans (aj6.mono (dB).size);have c9:=a02 m8 0;have c91:=a02 m8 1;clear c8 c81;by_cases hg1:x.tm+b≤loc
   ·by_cases hg2:loc < x.tm+x.off
    ·have HRS:Hid (Zn.a3f z ys cyc loc=([],x.tm,b)):=zA (by rw [ajs.out,zQ ⟨hg1,hg2⟩])
     repeat'(first|go_skip|go_guarded|go_step|go_upon)
     go_quiet (fail);have mB9:=below_drewN mB nq;generalize w7.drewN nq=w9 at *
     repeat'(first|go_skip|go_guarded|go_step|go_upon)
     go_returns;exact ⟨⟨_,by rw [HRS.out];rfl,by rw [HRS.out];exact a2c.nil _⟩,mB9⟩
    have HRS:Hid (Zn.a3f z ys cyc loc=Zn.a6c z ys cyc loc f (x.tm - 1) (l)):=zA (by rw [ajs.out,zS (fun h=>hg2 h.2)])
    repeat'(first|go_skip|go_guarded|go_step|go_upon)
    exact ⟨⟨f - 1,x.tm - 1,l,rfl,mo,by rw [HRS.out,show f - 1+1=f by omega],by omega,by omega,by omega,by omega,mB⟩,by simp only [intOf];omega⟩
   have HRS:Hid (Zn.a3f z ys cyc loc=Zn.a6c z ys cyc loc f (x.tm - 1) (l)):=zA (by rw [ajs.out,zS (fun h=>hg1 h.1)])
   repeat'(first|go_skip|go_guarded|go_step|go_upon)
   exact ⟨⟨f - 1,x.tm - 1,l,rfl,mo,by rw [HRS.out,show f - 1+1=f by omega],by omega,by omega,by omega,by omega,mB⟩,by simp only [intOf];omega⟩
  by_cases hb:x.tm≤loc - o
  ·have HST:Hid (Zn.a3f z ys cyc loc=if x.tm < loc - 1080 then (Zn.a2z (l ++ [loc - o]),0,0) else if x.tm+Zn.a5a z ys cyc (x.tm - 1)≤loc∧loc < x.tm+x.off then ([],x.tm,Zn.a5a z ys cyc (x.tm - 1)) else Zn.a6c z ys cyc loc f (x.tm - 1) (l ++ [loc - o])):=zA (by rw [ant.out];simp only [zQ (show loc - o≤t∧x.tm≤loc - o from ⟨ha,hb⟩)])
   clear ant
   repeat' ((go_not_at_region 6);(first|go_skip|go_guarded|go_step|go_upon))
   have A6:=(zC w6.heap.size w6).alloc (zD _) (.cells #[(loc - o:Int)] 3);have ow7:=a0m ow6 A6;have n6:obj (w6.alloc (.cells #[(loc - o:Int)] 3)) w6.heap.size=some (.cells #[(loc - o:Int)] 3 (0,0)):=a05 _ _ _ rfl;have n8:=a0a d8 A6;have nB:=dB.trans (A6.mono dB.size);have nsz:=nB.size
   repeat' ((go_not_at_region 7);(first | (at_builtin;(refine a4p rfl _ _ rfl W.heap.size l.length (.slice la l.length lc) (a4m l) rfl ow7 w6.heap.size _ rfl n6 rfl (by omega) nsz ?_);intro v5 W5 a3p hg5;have hg:(w6.alloc (.cells #[(loc - o:Int)] 3)).grownBy W5 (Value.slice la l.length lc).ownBlock:=hg5;clear hg5;have e8:=a19 ow7 n8 (by decide) hg;have eB:=nB.grown hg nsz (fun g q=>a1p ow7 q);have alk:W5.ownsRow W.heap.size 3 1 v5 (l.length+1) (a4m (l ++ [loc - o])):=(by simpa [a4m] using a3p);obtain ⟨va,vc,hv5⟩:=(a2o alk).2.2;subst hv5;dsimp only)|go_skip|go_guarded|go_step|go_upon))
   have c8:=a02 e8 0;have c81:=a02 e8 1;by_cases hlo:x.tm < loc - 1080
   ·have HSR:=zA (a5t (l:=l ++ [loc - o]) (show World.ownsRow _ _ _ _ (.slice va (l.length+1) vc) _ _ from by simpa using alk) (by simp;omega))
    have HRS:Hid (Zn.a3f z ys cyc loc=(Zn.a2z (l ++ [loc - o]),0,0)):=zA (by rw [HST.out,zQ hlo])
    repeat' (first | (go_at_call 81;((with_reducible refine (HSR.out).mono ?_));rintro e w8 ⟨rfl,hiv,hbx⟩;have hB8:=(eB).trans (hbx.below (eB).size (fun k hk h=>by have h:W.heap.size≤k:=h;omega));dsimp only)|go_skip|go_guarded|go_step|go_upon)
    go_returns;exact ⟨⟨_,by rw [HRS.out];rfl,by rw [HRS.out];exact hiv⟩,hB8⟩
   (have hb1:loc - 1080≤x.tm:=by omega);have wx1:=zWI (x.tm - 1);have HOB:=zA (HOF.out W5 (eB) (x.tm - 1) (by omega) (by omega));have hob:=Zn.abn HK.out (x.tm - 1);have hst2:=HST.out;rw [zS hlo] at hst2;have ajs:=zA hst2;clear hst2 hlo;generalize Zn.a5a z ys cyc (x.tm - 1)=b at *;have wxb:=zWI (x.tm+b)
   have wxo:IntKind.wrap .i64 (x.tm+x.off)=x.tm+x.off:=by have:=HXO.out;rw [wrap_in]<;>omega
   repeat' ((go_not_at_region 9);(first | (go_at_call 56;((with_reducible refine (HOB.out).mono ?_));rintro e w7 ⟨rfl,aj6⟩;dsimp only)|go_skip|go_guarded|go_step|go_upon))
   have m8:=a0a e8 aj6;have mo:=a0m alk aj6;have mB:=(eB).trans (aj6.mono (eB).size);have c9:=a02 m8 0;have c91:=a02 m8 1;clear c8 c81;by_cases hg1:x.tm+b≤loc
   ·by_cases hg2:loc < x.tm+x.off
    ·have HRS:Hid (Zn.a3f z ys cyc loc=([],x.tm,b)):=zA (by rw [ajs.out,zQ ⟨hg1,hg2⟩])
     repeat'(first|go_skip|go_guarded|go_step|go_upon)
     go_quiet (fail);have mB9:=below_drewN mB nq;generalize w7.drewN nq=w9 at *
     repeat'(first|go_skip|go_guarded|go_step|go_upon)
     go_returns;exact ⟨⟨_,by rw [HRS.out];rfl,by rw [HRS.out];exact a2c.nil _⟩,mB9⟩
    have HRS:Hid (Zn.a3f z ys cyc loc=Zn.a6c z ys cyc loc f (x.tm - 1) (l ++ [loc - o])):=zA (by rw [ajs.out,zS (fun h=>hg2 h.2)])
    repeat'(first|go_skip|go_guarded|go_step|go_upon)
    exact ⟨⟨f - 1,x.tm - 1,l ++ [loc - o],rfl,by simpa using mo,by rw [HRS.out,show f - 1+1=f by omega],by omega,by omega,by omega,by simp;omega,mB⟩,by simp only [intOf];omega⟩
   have HRS:Hid (Zn.a3f z ys cyc loc=Zn.a6c z ys cyc loc f (x.tm - 1) (l ++ [loc - o])):=zA (by rw [ajs.out,zS (fun h=>hg1 h.1)])
   repeat'(first|go_skip|go_guarded|go_step|go_upon)
   exact ⟨⟨f - 1,x.tm - 1,l ++ [loc - o],rfl,by simpa using mo,by rw [HRS.out,show f - 1+1=f by omega],by omega,by omega,by omega,by simp;omega,mB⟩,by simp only [intOf];omega⟩
  have HST:Hid (Zn.a3f z ys cyc loc=if x.tm < loc - 1080 then (Zn.a2z l,0,0) else if x.tm+Zn.a5a z ys cyc (x.tm - 1)≤loc∧loc < x.tm+x.off then ([],x.tm,Zn.a5a z ys cyc (x.tm - 1)) else Zn.a6c z ys cyc loc f (x.tm - 1) l):=zA (by rw [ant.out];simp only [zS (show ¬ (loc - o≤t∧x.tm≤loc - o) from fun h=>hb h.2)])
  clear ant
  repeat' ((go_not_at_region 7);(first|go_skip|go_guarded|go_step|go_upon))
  have c8:=a02 d8 0
  have c81:=a02 d8 1
  by_cases hlo:x.tm < loc - 1080
  ·exfalso;omega
  have hb1:loc - 1080≤x.tm:=by omega
  have wx1:=zWI (x.tm - 1)
  have HOB:=zA (HOF.out w6 (dB) (x.tm - 1) (by omega) (by omega))
  have hob:=Zn.abn HK.out (x.tm - 1)
  have hst2:=HST.out
  rw [zS hlo] at hst2
  have ajs:=zA hst2
  clear hst2 hlo
  generalize Zn.a5a z ys cyc (x.tm - 1)=b at *
  have wxb:=zWI (x.tm+b)
  have wxo:IntKind.wrap .i64 (x.tm+x.off)=x.tm+x.off:=by have:=HXO.out;rw [wrap_in]<;>omega
  repeat' ((go_not_at_region 9);(first | (go_at_call 56;((with_reducible refine (HOB.out).mono ?_));rintro e w7 ⟨rfl,aj6⟩;dsimp only)|go_skip|go_guarded|go_step|go_upon))
  have m8:=a0a d8 aj6
  have mo:=a0m ow6 aj6
  have mB:=(dB).trans (aj6.mono (dB).size)
  have c9:=a02 m8 0
  have c91:=a02 m8 1
  clear c8 c81
  by_cases hg1:x.tm+b≤loc
  ·by_cases hg2:loc < x.tm+x.off
   ·have HRS:Hid (Zn.a3f z ys cyc loc=([],x.tm,b)):=zA (by rw [ajs.out,zQ ⟨hg1,hg2⟩])
    repeat'(first|go_skip|go_guarded|go_step|go_upon)
    go_quiet (fail);have mB9:=below_drewN mB nq;generalize w7.drewN nq=w9 at *
    repeat'(first|go_skip|go_guarded|go_step|go_upon)
    go_returns;exact ⟨⟨_,by rw [HRS.out];rfl,by rw [HRS.out];exact a2c.nil _⟩,mB9⟩
   have HRS:Hid (Zn.a3f z ys cyc loc=Zn.a6c z ys cyc loc f (x.tm - 1) (l)):=zA (by rw [ajs.out,zS (fun h=>hg2 h.2)])
   repeat'(first|go_skip|go_guarded|go_step|go_upon)
   exact ⟨⟨f - 1,x.tm - 1,l,rfl,mo,by rw [HRS.out,show f - 1+1=f by omega],by omega,by omega,by omega,by omega,mB⟩,by simp only [intOf];omega⟩
  have HRS:Hid (Zn.a3f z ys cyc loc=Zn.a6c z ys cyc loc f (x.tm - 1) (l)):=zA (by rw [ajs.out,zS (fun h=>hg1 h.1)])
  repeat'(first|go_skip|go_guarded|go_step|go_upon)
  exact ⟨⟨f - 1,x.tm - 1,l,rfl,mo,by rw [HRS.out,show f - 1+1=f by omega],by omega,by omega,by omega,by omega,mB⟩,by simp only [intOf];omega⟩
end Go.Proofs.YtppjleebbjipbaaGreat
