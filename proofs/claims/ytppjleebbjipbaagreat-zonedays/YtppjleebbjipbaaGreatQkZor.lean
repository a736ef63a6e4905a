/-
  A region that draws and only reads, within a round of a range over a function.
-/
import Derived.Test.YtppjleebbjipbaaGreatQkZos
set_option linter.all false
namespace Go.Proofs.YtppjleebbjipbaaGreat
open Go Go.RowKit
variable {P:Program}
theorem wpIn_region_quiet {id:Nat} {Q:Exit→Act→World→Prop} {a:Act} {w:World} {l:List Oper} {ln m:Nat} (hm:P.follows .mixedOrders=true) (hd:a6g l.toArray=true) (hB:Region.lexB .any l.toArray=true) (hQ:∀ a w,¬ Q .outgrown a w)
  (h:wpQuiet P l.toArray (fun w' => ∃ n,w' = w.drewN n) (fun a'=>∀ w',(∃ n,w' = w.drewN n)→Q .normal a' w') l a):(Code.region id l.toArray true).wpIn (Fence.wide.inRound ln) m P Q a w:=by
 simp only [Region.lexB,zN] at hB
 refine wpIn_region_any hm (a4j hd hQ _ _ _ _ (wpAny_of_quiet (C:=fun w' => ∃ n,w' = w.drewN n) (Q:=fun a'=>∀ w',(∃ n,w' = w.drewN n)→Q .normal a' w') (fun _ w' hw' h=>h w' hw') _ _ _ _ ⟨1,rfl⟩ ?_))
 have:=wpAnyQ_lex (C:=fun w' => ∃ n,w' = w.drewN n) (md:=.any) hB.1 l 0 (Array.replicate l.toArray.size false) a (by simp) (by simpa using hB.2) h
 simpa using this
end Go.Proofs.YtppjleebbjipbaaGreat
namespace Go.Proofs.YtppjleebbjipbaaGreat
open Go.RowKit Go.Shelf
attribute [local go_sem] Oper.semAt_some
set_option maxRecDepth 100000
set_option maxHeartbeats 8000000
theorem abo (
          HO:OpenSpec) {W:World} {z:Zn.a0w} {mv rv tv yv:Value} (hv:a1q W z mv rv tv yv) (hzr:z.cal.rules.length < 9223372036854775808) (hzm:z.cal.a0g.length < 9223372036854775808) (m:Int) (fn:Nat) (sel:Zn.Pc→Int×Int) (C:Zn.Per→Zn.Per) (HCN:∀ g∈Zn.acv z sel m,a7m (Zn.a9y (Zn.fromD z) (Zn.a0s z) g.2) (C (Zn.a9y (Zn.fromD z) (Zn.a0s z) g.2))) (HSD:ae7)
  (hsel:∀ (Wq:World) (p:Zn.Pc),Calls Tryz.prog fn #[.agg (aa9 p)] Wq fun e w'=>e=.returned (.agg #[.int .i64 (sel p).1,.int .i64 (sel p).2])∧Below Wq Wq w') (hs2:∀ p,sel p=(p.uf,p.ut)∨sel p=(p.nf,p.nt)) (eg:∀ args w,(callFunc fn args).run Tryz.prog w=.ok (.enter fn args) w) (hfin:Zn.a3o z=true→Zn.afa z) :
  Calls Tryz.prog 69 #[.agg #[z.cal.a08,mv,z.cal.a0l,rv,z.start,tv,z.hor,yv],.int .i64 m,.func (.func fn) #[] #[]] W fun e w'=>(∃ v,e=.returned (.tuple #[v,.int .i64 (Zn.a4c C z m sel).2])∧a1f w' v (Zn.a4c C z m sel).1)∧Below W W w':=by
 have om:=hv.cal.mon.one
 have orr:=hv.cal.rul.one
 have ot:=a1m.one hv.tr
 have oy:=a1m.one hv.yr
 have hon:ones #[z.cal.a08,mv,z.cal.a0l,rv,z.start,tv,z.hor,yv]=true:=a1b om orr ot oy
 have o0:obj (((W.alloc (.cells #[z.cal.a08,mv,z.cal.a0l,rv,z.start,tv,z.hor,yv] 35)).alloc (.cells #[m] 3)).alloc (.cells #[.func (.func fn) #[] #[]] 120)) W.heap.size=some (.cells #[z.cal.a08,mv,z.cal.a0l,rv,z.start,tv,z.hor,yv] 35 (0,0)):=a06 (a06 (a05 _ _ _ rfl) _) _
 have o1:obj (((W.alloc (.cells #[z.cal.a08,mv,z.cal.a0l,rv,z.start,tv,z.hor,yv] 35)).alloc (.cells #[m] 3)).alloc (.cells #[.func (.func fn) #[] #[]] 120)) (W.heap.size+1)=some (.cells #[m] 3 (0,0)):=a06 (a05 _ _ _ (by simp)) _
 have o2:obj (((W.alloc (.cells #[z.cal.a08,mv,z.cal.a0l,rv,z.start,tv,z.hor,yv] 35)).alloc (.cells #[m] 3)).alloc (.cells #[.func (.func fn) #[] #[]] 120)) (W.heap.size+2)=some (.cells #[.func (.func fn) #[] #[]] 120 (0,0)):=a05 _ _ _ (by simp)
 have w3B:Below W W (((W.alloc (.cells #[z.cal.a08,mv,z.cal.a0l,rv,z.start,tv,z.hor,yv] 35)).alloc (.cells #[m] 3)).alloc (.cells #[.func (.func fn) #[] #[]] 120)):=((bR.alloc (zD _) _).alloc (by simp) _).alloc (by simp;omega) _
 have HX:=zA (HO (hv.below w3B) hzr hzm (InD.all (v:=tv) (l:=z.trans)))
 have c10:=a02 o1 0
 clear hv
 unfold a3z at HX
 refine (wW (n:=8)).1 ?_
 refine callsIn_of_wp_marks Tryz.func69 rfl trivial ?_
 refine wpIn_wide.2 ?_
 simp only [Tryz.ntmps69,xJ,yS,xI,Nat.reduceAdd,Nat.reduceSub,xZ,xY,wK,wE,wO,xK]
 cases hgb:Zn.a3o z
 ·rw [hgb] at HX
  have HR:Hid (Zn.a4c C z m sel=([],1)):=zA (by unfold Zn.a4c;rw [zS (fun h=>by rw [hgb] at h;cases h.1)])
  repeat' (first | (go_at_call 54;((with_reducible refine (HX.out).mono ?_));rintro e w5 ⟨⟨p,rfl,hg⟩,hB5⟩;have hB6:=w3B.trans (hB5.mono w3B.size);have anp:=hB5;have o1w:=a0a o1 hB5;have o2w:=a0a o2 hB5;have c1w:=a02 o1w 0;dsimp only)|go_skip|go_guarded|go_step|go_upon)
  exact ⟨_,a3t rfl _ _,⟨_,by rw [HR.out];rfl,by rw [HR.out];exact a1f.nil _⟩,hB6⟩
 rw [hgb] at HX
 have HG:=zA (Zn.a0v.1 hgb).ck
 have as9:=zA (hfin hgb)
 have HGB:=zA hgb
 by_cases hm0:m < 0
 ·have HR:Hid (Zn.a4c C z m sel=([],1)):=zA (by unfold Zn.a4c;rw [zS (fun h=>by have:=h.2.1;omega)])
  clear hgb
  repeat' (first | (go_at_call 54;((with_reducible refine (HX.out).mono ?_));rintro e w5 ⟨⟨p,rfl,hg⟩,hB5⟩;have hB6:=w3B.trans (hB5.mono w3B.size);have anp:=hB5;have o1w:=a0a o1 hB5;have o2w:=a0a o2 hB5;have c1w:=a02 o1w 0;dsimp only)|go_skip|go_guarded|go_step|go_upon)
  exact ⟨_,a3t rfl _ _,⟨_,by rw [HR.out];rfl,by rw [HR.out];exact a1f.nil _⟩,hB6⟩
 by_cases hm1:1440≤m
 ·have HR:Hid (Zn.a4c C z m sel=([],1)):=zA (by unfold Zn.a4c;rw [zS (fun h=>by have:=h.2.2;omega)])
  clear hgb
  repeat' (first | (go_at_call 54;((with_reducible refine (HX.out).mono ?_));rintro e w5 ⟨⟨p,rfl,hg⟩,hB5⟩;have hB6:=w3B.trans (hB5.mono w3B.size);have anp:=hB5;have o1w:=a0a o1 hB5;have o2w:=a0a o2 hB5;have c1w:=a02 o1w 0;dsimp only)|go_skip|go_guarded|go_step|go_upon)
  exact ⟨_,a3t rfl _ _,⟨_,by rw [HR.out];rfl,by rw [HR.out];exact a1f.nil _⟩,hB6⟩
 have HST:=zA (Zn.agr HG.out)
 have HFD:Hid (Zn.fromD z=max (Zn.a1w z (Zn.ysT z) (Zn.a0s z) / 1440+3) 0):=zA rfl
 have hc0:=HG.out.c0
 have hc1:=HG.out.c1
 clear hgb hfin
 have hs0:=HST.out.1
 have hs1:=HST.out.2
 have HSEQ:Hid (∀ Wq:World,Zn.a1w z (Zn.ysT z) (Zn.a0s z)=Zn.a1w z (Zn.ysT z) (Zn.a0s z)):=zA (fun _=>rfl)
 obtain ⟨st,hst⟩ : ∃ st,Zn.a1w z (Zn.ysT z) (Zn.a0s z)=st:=⟨_,rfl⟩
 have HSS:=zA hst
 rw [hst] at hs0 hs1 HFD
 have ws3:=zWI (st / 1440+3)
 obtain ⟨fd,hfd⟩ : ∃ fd,max (st / 1440+3) 0=fd:=⟨_,rfl⟩
 rw [hfd] at HFD
 have hfd0:0≤fd:=by omega
 clear hst HSEQ HST
 by_cases hbig:1099511627776 < fd
 ·have HR:Hid (Zn.a4c C z m sel=([],2)):=zA (by unfold Zn.a4c;rw [zQ ⟨HGB.out,by omega,by omega⟩,zQ (by rw [HFD.out];exact hbig)])
  repeat' (first | (go_at_call 54;((with_reducible refine (HX.out).mono ?_));rintro e w5 ⟨⟨p,rfl,hg⟩,hB5⟩;have hB6:=w3B.trans (hB5.mono w3B.size);have anp:=hB5;have o1w:=a0a o1 hB5;have o2w:=a0a o2 hB5;have c1w:=a02 o1w 0;obtain ⟨g,hpg,hck,hgg⟩:=hg rfl;subst hpg;have HSE:=zA (a7t hck.clk HG.out);dsimp only) | (go_at_call 85;((with_reducible refine (HSE.out).mono ?_));rintro e w6 ⟨he6,aj7⟩;rw [HSS.out] at he6;subst he6;have hB7:=hB6.trans (aj7.mono hB6.size);dsimp only) | (go_at_call 106;((with_reducible refine ((a6s hs0 hs1)).mono ?_));rintro e w7 ⟨rfl,rfl⟩;dsimp only)|go_skip|go_guarded|go_step|go_upon)
  exact ⟨_,a3t rfl _ _,⟨_,by rw [HR.out];rfl,by rw [HR.out];exact a1f.nil _⟩,hB7⟩
 obtain ⟨cyc,hcy⟩ : ∃ cyc,Zn.a0s z=cyc:=⟨_,rfl⟩
 have HCY:=zA hcy
 rw [hcy] at hc0 hc1
 have wfc:=zWI (fd+cyc)
 have wfc3:=zWI (fd+cyc+3)
 have wfcm:=zWI ((fd+cyc+3) * 1440)
 have hmm:=@run_makeMap Tryz.prog
 clear hcy
 repeat' (first | (go_at_call 54;((with_reducible refine (HX.out).mono ?_));rintro e w5 ⟨⟨p,rfl,hg⟩,hB5⟩;have hB6:=w3B.trans (hB5.mono w3B.size);have anp:=hB5;have o1w:=a0a o1 hB5;have o2w:=a0a o2 hB5;have c1w:=a02 o1w 0;obtain ⟨g,hpg,hck,hgg⟩:=hg rfl;subst hpg;have HSE:=zA (a7t hck.clk HG.out);obtain ⟨kmv,krv,ktv,kyv,ksv,hkg,hkt,hks⟩:=id hck.clk;rw [HCY.out] at hkg;dsimp only) | (go_at_call 85;((with_reducible refine (HSE.out).mono ?_));rintro e w6 ⟨he6,aj7⟩;rw [HSS.out] at he6;subst he6;have hB7:=hB6.trans (aj7.mono hB6.size);have aq6:=a0a hkg aj7;have cg9:=a02 aq6 9;have hkt6:=a1m.below hkt aj7;have hks6:=a1m.below hks aj7;have o1x:=a0a o1w aj7;have o2x:=a0a o2w aj7;have HPI:=zA (adg (((w6.alloc (.cells #[(fd+cyc:Int)] 3)).alloc (.map #[] 0)).alloc (.cells #[.map (some (w6.heap.size+1))] 154)) g ((fd+cyc+3) * 1440));rw [show (((w6.alloc (.cells #[(fd+cyc:Int)] 3)).alloc (.map #[] 0)).alloc (.cells #[.map (some (w6.heap.size+1))] 154)).heap.size=w6.heap.size+3 by simp] at HPI;dsimp only) | (go_at_call 106;((with_reducible refine ((a6s hs0 hs1)).mono ?_));rintro e w7 ⟨rfl,rfl⟩;dsimp only) | (go_at_call 107;((with_reducible refine (HPI.out).mono ?_));rintro e w8 ⟨rfl,rfl⟩;dsimp only)|go_skip|go_guarded|go_step|go_upon)
 refine (wpIn_wide (n:=8)).1 ?_
 have hw6:W.heap.size+3≤w6.heap.size:=by have h1:=anp.size;have h2:=aj7.size;simp at h1;omega
 have v0B:Below w6 w6 (((((w6.alloc (.cells #[(fd+cyc:Int)] 3)).alloc (.map #[] 0)).alloc (.cells #[.map (some (w6.heap.size+1))] 154)).alloc (.cells #[.pointer (some ⟨g,0,none⟩)] 96)).alloc (.cells #[((fd+cyc+3) * 1440:Int)] 3)):=((((bR.alloc (zD _) _).alloc (by simp) _).alloc (by simp;omega) _).alloc (by simp;omega) _).alloc (by simp;omega) _
 have b13:obj (((((w6.alloc (.cells #[(fd+cyc:Int)] 3)).alloc (.map #[] 0)).alloc (.cells #[.map (some (w6.heap.size+1))] 154)).alloc (.cells #[.pointer (some ⟨g,0,none⟩)] 96)).alloc (.cells #[((fd+cyc+3) * 1440:Int)] 3)) w6.heap.size=some (.cells #[(fd+cyc:Int)] 3 (0,0)):=a06 (a06 (a06 (a06 (a05 _ _ _ rfl) _) _) _) _
 have bmap:obj (((((w6.alloc (.cells #[(fd+cyc:Int)] 3)).alloc (.map #[] 0)).alloc (.cells #[.map (some (w6.heap.size+1))] 154)).alloc (.cells #[.pointer (some ⟨g,0,none⟩)] 96)).alloc (.cells #[((fd+cyc+3) * 1440:Int)] 3)) (w6.heap.size+1)=some (.map #[] 0):=a06 (a06 (a06 (a05 _ _ _ (by simp)) _) _) _
 have b14:obj (((((w6.alloc (.cells #[(fd+cyc:Int)] 3)).alloc (.map #[] 0)).alloc (.cells #[.map (some (w6.heap.size+1))] 154)).alloc (.cells #[.pointer (some ⟨g,0,none⟩)] 96)).alloc (.cells #[((fd+cyc+3) * 1440:Int)] 3)) (w6.heap.size+2)=some (.cells #[.map (some (w6.heap.size+1))] 154 (0,0)):=a06 (a06 (a05 _ _ _ (by simp)) _) _
 have bC:obj (((((w6.alloc (.cells #[(fd+cyc:Int)] 3)).alloc (.map #[] 0)).alloc (.cells #[.map (some (w6.heap.size+1))] 154)).alloc (.cells #[.pointer (some ⟨g,0,none⟩)] 96)).alloc (.cells #[((fd+cyc+3) * 1440:Int)] 3)) (w6.heap.size+3)=some (.cells #[.pointer (some ⟨g,0,none⟩)] 96 (0,0)):=a06 (a05 _ _ _ (by simp)) _
 have bE:obj (((((w6.alloc (.cells #[(fd+cyc:Int)] 3)).alloc (.map #[] 0)).alloc (.cells #[.map (some (w6.heap.size+1))] 154)).alloc (.cells #[.pointer (some ⟨g,0,none⟩)] 96)).alloc (.cells #[((fd+cyc+3) * 1440:Int)] 3)) (w6.heap.size+4)=some (.cells #[((fd+cyc+3) * 1440:Int)] 3 (0,0)):=a05 _ _ _ (by simp)
 have v0z:(((((w6.alloc (.cells #[(fd+cyc:Int)] 3)).alloc (.map #[] 0)).alloc (.cells #[.map (some (w6.heap.size+1))] 154)).alloc (.cells #[.pointer (some ⟨g,0,none⟩)] 96)).alloc (.cells #[((fd+cyc+3) * 1440:Int)] 3)).heap.size=w6.heap.size+5:=by simp
 have vck:a8j (((((w6.alloc (.cells #[(fd+cyc:Int)] 3)).alloc (.map #[] 0)).alloc (.cells #[.map (some (w6.heap.size+1))] 154)).alloc (.cells #[.pointer (some ⟨g,0,none⟩)] 96)).alloc (.cells #[((fd+cyc+3) * 1440:Int)] 3)) (fun k=>k < w6.heap.size) g z (Zn.ysT z) (Zn.a0s z):=((hck.clk.below aj7).inD.below v0B).mono (fun _ h=>h)
 have d1:=a04 o1x v0B (by omega)
 have d2:=a04 o2x v0B (by omega)
 have d8:=a04 aq6 v0B (a09 aq6)
 have dB:=hB7.trans (v0B.mono (by omega))
 have HPQ:Hid (Zn.pcN z (Zn.ysT z) (Zn.a0s z) ((fd+cyc+3) * 1440)=Zn.pcZ z):=zA (by unfold Zn.pcZ;rw [HFD.out,HCY.out])
 clear hkg hkt hks aq6 hkt6 hks6 cg9 o1x o2x o1w o2w c1w hck v0B HPI anp aj7 hB7 hB6 hgg
 generalize (((((w6.alloc (.cells #[(fd+cyc:Int)] 3)).alloc (.map #[] 0)).alloc (.cells #[.map (some (w6.heap.size+1))] 154)).alloc (.cells #[.pointer (some ⟨g,0,none⟩)] 96)).alloc (.cells #[((fd+cyc+3) * 1440:Int)] 3))=V0 at *
 have HSQ:=zA (ah0 7 (by omega) (w6.heap.size+3) (w6.heap.size+4) g HG.out ((fd+cyc+3) * 1440) (fun k=>k < w6.heap.size) 1000000 (by omega) V0 bC bE vck)
 have HPI:=zA (fun i p (hi:i≤1000000) hp=>Zn.aoa HG.out (e:=(fd+cyc+3) * 1440) hi (p:=p) hp)
 rw [HPQ.out] at HSQ HPI
 have hbase:w6.heap.size+7=V0.heap.size+2:=by omega
 refine a7q (n:=8) (gf:=141) (lb:=#[.pointer (some ⟨w6.heap.size+3,0,none⟩),.pointer (some ⟨w6.heap.size+4,0,none⟩)]) rfl (enters_of Tryz.func141 (by kernel_rfl) rfl)
  HSQ.out ?hown (fun x v W hv=>by subst hv;rfl) ?aaj (fun k=>k=w6.heap.size+1) ?hR
  (fun T i W' => ∃ es,a6w W' (w6.heap.size+1) (w6.heap.size+7) T es (Zn.a7g (Zn.pcZ z) sel m (fd+cyc) i)∧(∀ j,j < i→∃ p,Zn.pcZ z j=some p)∧a0o (fun k=>k=w6.heap.size+1) V0 W'∧Below W W W')
  (fun _ _ _=>False)
  ?hI (fun _ _ _ _ _ _ h=>h.elim) (fun T i W h=>by obtain ⟨es,_,h,_⟩:=h;exact as9.out i (by rcases i with _ | i;exact .inl rfl;exact .inr (h i (xU i)))) ⟨#[],⟨bmap,rfl,fun i e h=>by simp at h,fun i e h=>by simp at h,fun i e h=>by simp at h,fun i e b h=>by simp at h,fun i j e f b h=>by simp at h,fun i j h=>absurd h (yA _)⟩,(fun j hj=>absurd hj (yA j)),a0o.refl _ _,dB⟩ ?round ?done (fun _ _ _ _ h=>h.elim)
 case hown=>intro k h;exact h.elim
 case aaj =>
  rintro k (rfl | rfl | h)
  ·omega
  ·omega
  have h:k < w6.heap.size:=h
  omega
 case hR => rintro k rfl;exact ⟨by omega,by rintro (h | h | (h:_ < w6.heap.size))<;>omega⟩
 case hI => rintro T i A C hz hAC ⟨es,h1,h2,h3,h4⟩;exact ⟨es,h1.keep (hAC.block _ (xP (by omega) hz) (.inl ⟨by omega,fun h=>h⟩)) (fun k hk hk2=>hAC.block k hk2 (.inr hk)),h2,⟨yG h3.1 hAC.size,fun k hk hn=>(hAC.block k (xP hk hz) (.inl ⟨hk,fun h=>h⟩)).trans (h3.2 k hk hn)⟩,h4.trans ⟨hAC.os,hAC.tape,hAC.output,hAC.size,fun k hk=>hAC.block k (by omega) (.inl ⟨by omega,fun h=>h⟩)⟩⟩
 case round =>
  rintro lk T i x v W1 ⟨es,h1,h2,h3,h4⟩ hx rfl hz1 hT rfl hlc
  have hib:i≤1000000:=as9.out i (by rcases i with _ | i;exact .inl rfl;exact .inr (h2 i (xU i)))
  have hxin:=HPI.out i x hib hx
  have m1:obj W1 (W.heap.size+1)=some (.cells #[m] 3 (0,0)):=(h3.2 _ (by omega) (by omega)).trans d1
  have m2:obj W1 (W.heap.size+2)=some (.cells #[.func (.func fn) #[] #[]] 120 (0,0)):=(h3.2 _ (by omega) (by omega)).trans d2
  have m13:obj W1 w6.heap.size=some (.cells #[(fd+cyc:Int)] 3 (0,0)):=(h3.2 _ (by omega) (by omega)).trans b13
  have m14:obj W1 (w6.heap.size+2)=some (.cells #[.map (some (w6.heap.size+1))] 154 (0,0)):=(h3.2 _ (by omega) (by omega)).trans b14
  have hsx:=hsel
  have hse:=hs2 x
  have HMY:Hid ((Zn.a5e (sel x) m (fd+cyc)).tm < (Zn.a5e (sel x) m (fd+cyc)).off→Zn.a7g (Zn.pcZ z) sel m (fd+cyc) (i+1)=Zn.aas (Zn.a7g (Zn.pcZ z) sel m (fd+cyc) i) x.o (Zn.a5e (sel x) m (fd+cyc))):=zA fun h=>Zn.aki hx h
  have HMN:Hid ((Zn.a5e (sel x) m (fd+cyc)).off≤(Zn.a5e (sel x) m (fd+cyc)).tm→Zn.a7g (Zn.pcZ z) sel m (fd+cyc) (i+1)=Zn.a7g (Zn.pcZ z) sel m (fd+cyc) i):=zA fun h=>Zn.ame hx (Int.not_lt.2 h)
  have HH2:Hid (∀ j,j < i+1→∃ p,Zn.pcZ z j=some p):=zA fun j hj=>by
   by_cases hji:j < i
   ·exact h2 j hji
   ·exact ⟨x,by rw [show j=i by omega];exact hx⟩
  have HSL:=zA (fun Wq=>hsel Wq x)
  have hkk:=hbase
  obtain ⟨sf,su,hsq⟩ : ∃ sf su,sel x=(sf,su):=⟨_,_,rfl⟩
  have hsb:(-9007199254740992≤sf∧sf≤1152921504606848056)∧(-9007199254740992≤su∧su≤1152921504606848056):=by
   rw [hsq] at hse
   rcases hse with e | e<;>(cases e;exact ⟨by omega,by omega⟩)
  rw [hsq] at HSL HMY HMN
  clear hse hsq h2 hsx hx
  have hon:ones (aa9 x)=true:=by simp [aa9,ones,a0n]
  obtain ⟨xo,xuf,xut,xnf,xnt⟩:=x
  have rz:aa9 ⟨xo,xuf,xut,xnf,xnt⟩=#[.int .i64 xo,.int .i64 xuf,.int .i64 xut,.int .i64 xnf,.int .i64 xnt]:=rfl
  dsimp only at hxin HMY
  dsimp only
  rw [rz] at hon HSL
  rw [rz]
  clear rz
  gi_wp2_with fail
  refine ⟨bR.alloc (zD _) _,fun W2 hB2 hkeep hsz=>?_⟩
  have hX2:a1x W1.heap.size (fun k=>k=w6.heap.size+5+1) W1 W2:=⟨hB2.os,hB2.tape,hB2.output,by have:=hB2.size;simp at this;omega,fun k hk hn=>(hkeep k (by first | omega | (simp;omega)) hn).trans (vT _ _ hk)⟩
  have k6:obj W2 W1.heap.size=some (.cells #[xo,xuf,xut,xnf,xnt] 119 (0,0)):=(hkeep W1.heap.size (by simp) (by omega)).trans (a05 _ _ _ rfl)
  have k1:=hX2.obj m1 (by omega) (by omega)
  have k2:=hX2.obj m2 (by omega) (by omega)
  have k13:=hX2.obj m13 (by omega) (by omega)
  have k14:=hX2.obj m14 (by omega) (by omega)
  have g2:a6w W2 (w6.heap.size+1) (w6.heap.size+7) T es (Zn.a7g (Zn.pcZ z) sel m (fd+cyc) i):=h1.keep (hX2.block _ (by omega) (by omega)) (fun k hk hk2=>hX2.block k hk2 (by have:=hT k hk;omega))
  have hKB:a0o (fun k=>k=w6.heap.size+1∨T k∨W1.heap.size≤k) W2 W2:=a0o.refl _ _
  have h3':a0o (fun k=>k=w6.heap.size+1) V0 W2:=⟨yG h3.1 hX2.size,fun k hk hn=>(hX2.block k (by omega) (by omega)).trans (h3.2 k hk hn)⟩
  have h4':Below W W W2:=h4.trans (hX2.below (by omega) (fun k hk=>by omega))
  have hz2:W1.heap.size < W2.heap.size:=a09 k6
  clear m1 m2 m13 m14 h1 h3 h4 hX2 hB2 hkeep hsz hlc
  have HK0:=zA h3'
  have HB0:=zA h4'
  clear h3' h4' hKB
  repeat' ((fail_if_success (change Code.wpIn _ _ _ (Code.region 12 _ _) _ _ _));(first | go_values | gi_guarded | gi_step | gi_upon | gi_back))
  refine a3i (by kernel_rfl) (fun _ _ h=>h) ?_
  have c2:=a02 (show obj W2 (W.heap.size+1+1)=_ from k2) 0
  have l6:=a02 k6 0
  have hss:ones #[sf,su]=true:=by simp [ones,a0n]
  repeat' (first | ((with_reducible refine (HSL.out _).mono ?_);rintro e w3 ⟨rfl,hB3⟩;dsimp only)|go_skip|go_guarded|go_step|go_upon)
  have A4:=hB3.trans ((zC w3.heap.size w3).alloc (zD _) (.cells #[sf,su] 77) |>.mono hB3.size)
  have n16:obj (w3.alloc (.cells #[sf,su] 77)) w3.heap.size=some (.cells #[sf,su] 77 (0,0)):=a05 _ _ _ rfl
  have n1:=a0a k1 A4
  have n6:=a0a k6 A4
  have n13:=a0a k13 A4
  have n14:=a0a k14 A4
  have hz4:=hB3.size
  have l16:=a09 n16
  have l15:=a09 n6
  clear k1 k2 k6 k13 k14 c2 l6 hB3
  generalize w3.alloc (.cells #[sf,su] 77)=w4 at *
  generalize w3.heap.size=b16 at *
  generalize hb15:W1.heap.size=b15 at *
  have c16:=a02 n16 0
  have c17:=a02 n16 1
  have c1:=a02 n1 0
  have ws1:=zWI (sf - m)
  have ws2:=zWI (sf - m+1440)
  have ws3:=zWI (sf - m+1440 - 1)
  have wu1:=zWI (su - m)
  have wu2:=zWI (su - m+1440)
  have wu3:=zWI (su - m+1440 - 1)
  repeat' ((fail_if_success (change Code.wpIn _ _ _ (Code.region 13 _ _) _ _ _));(first | go_values | gi_guarded | gi_step | gi_upon | gi_back))
  refine a3i (by kernel_rfl) (fun _ _ h=>h) ?_
  repeat' (first | (go_at_call 106;((with_reducible refine (a6s (a:=sf - m+1440 - 1) (by omega) (by omega)).mono ?_));rintro e w7 ⟨rfl,rfl⟩;dsimp only)|go_skip|go_guarded|go_step|go_upon)
  repeat' ((fail_if_success (change Code.wpIn _ _ _ (Code.region 14 _ _) _ _ _));(first | go_values | gi_guarded | gi_step | gi_upon | gi_back))
  refine a3i (by kernel_rfl) (fun _ _ h=>h) ?_
  repeat' (first | (go_at_call 106;((with_reducible refine (a6s (a:=su - m+1440 - 1) (by omega) (by omega)).mono ?_));rintro e w7 ⟨rfl,rfl⟩;dsimp only)|go_skip|go_guarded|go_step|go_upon)
  have c13:=a02 n13 0
  repeat' ((fail_if_success (change Code.wpIn _ _ _ (Code.region 15 _ _) _ _ _));(first | go_values | gi_guarded | gi_step | gi_upon | gi_back))
  refine wpIn_region_quiet (by kernel_rfl) (by kernel_rfl) (by kernel_rfl) (fun _ _ h=>h) ?_
  (repeat (quiet_step (fail)))
  refine wpQuiet_nil ?_
  intro _ hw'
  obtain ⟨nq,hw''⟩:=hw'
  subst hw''
  have p6:obj (w4.drewN nq) b15=_:=n6
  have p13:obj (w4.drewN nq) w6.heap.size=_:=n13
  have p14:obj (w4.drewN nq) (w6.heap.size+2)=_:=n14
  have hzq:(w4.drewN nq).heap.size=w4.heap.size:=rfl
  have A5:Below W2 W2 (w4.drewN nq):=below_drewN A4 nq
  clear n1 n6 n13 n14 n16 c16 c17 c1 c13 ws1 ws2 ws3 wu1 wu2 wu3 A4
  generalize w4.drewN nq=w5 at *
  have as5:Hid (max ((sf - m+1440 - 1) / 1440) 0 < min ((su - m+1440 - 1) / 1440) (fd+cyc)→Zn.a7g (Zn.pcZ z) sel m (fd+cyc) (i+1)=Zn.aas (Zn.a7g (Zn.pcZ z) sel m (fd+cyc) i) xo ⟨max ((sf - m+1440 - 1) / 1440) 0,min ((su - m+1440 - 1) / 1440) (fd+cyc)⟩):=zA HMY.out
  have as6:Hid (min ((su - m+1440 - 1) / 1440) (fd+cyc)≤max ((sf - m+1440 - 1) / 1440) 0→Zn.a7g (Zn.pcZ z) sel m (fd+cyc) (i+1)=Zn.a7g (Zn.pcZ z) sel m (fd+cyc) i):=zA HMN.out
  clear HMY HMN
  generalize max ((sf - m+1440 - 1) / 1440) 0=fi at *
  generalize min ((su - m+1440 - 1) / 1440) (fd+cyc)=en at *
  by_cases hlt:fi < en;rotate_left
  ·have HME:=zA (as6.out (Int.not_lt.1 hlt))
   clear as5 as6
   gi_wp2_with fail
   refine ⟨T,fun k h=>.inl h,⟨A5.size,fun k hk _=>A5.block k hk⟩,⟨es,?_⟩,HH2.out,⟨yG HK0.out.1 A5.size,fun k hk hn=>(A5.block k (xP hk HK0.out.1)).trans (HK0.out.2 k hk hn)⟩,HB0.out.trans (A5.mono HB0.out.size)⟩;rw [← hkk,HME.out];exact g2.keep (A5.block _ (by omega)) (fun k hk hk2=>A5.block k hk2)
  have HME:=zA (as5.out hlt)
  clear as5 as6
  have g5:=g2.keep (A5.block (w6.heap.size+1) (by omega)) (fun k hk hk2=>A5.block k hk2)
  obtain ⟨lv,ll,hlook,hown,ag3⟩:=g5.lookup xo
  have l14:=a09 p14
  have l15':=a09 p6
  have lmb:w6.heap.size+1 < w5.heap.size:=by omega
  have HLK:=zA hlook
  have HFO:=zA ag3
  have HOW:=zA hown
  have HG5:=zA g5
  have hll:ll.length≤1000000:=by
   rcases ag3 with ⟨j,e,_,_,q3,_⟩ | ⟨_,q2,_⟩
   ·have:=Zn.aae i _ (List.mem_of_getElem? q3)
    dsimp only at this;omega
   rw [q2];simp
  have hsp:ones #[fi,en]=true:=by simp [ones,a0n]
  have hvo:∀ b,lv.ownBlock=some b→T b:=fun b hb=>ag3.own g5 hb
  have hTz:∀ k,T k→k < w5.heap.size:=fun k hk=>by have:=hT k hk;omega
  have hBl:lv.ownBlock.getD 0 < w5.heap.size:=by
   cases hb:lv.ownBlock with
   | none=>simp;omega
   | some b=>exact hTz b (hvo b hb)
  clear hlook ag3 hown g5 g2
  gi_wp2_with fail
  repeat' ((fail_if_success (change Code.wpIn _ _ _ (Code.region 17 _ _) _ _ _));(first | go_values | gi_guarded | gi_step | gi_upon | gi_back))
  refine a4q 12 11 (lv.ownBlock.getD 0) (fun W'=>W'.ownsRow (w6.heap.size+7) 77 2 lv ll.length (a4g ll)∧w5.heap.size≤W'.heap.size∧∀ b,lv.ownBlock≠some b→b < w5.heap.size→W'.heap[b]? = w5.heap[b]?) (fun _ _ h hb=>⟨a0m h.1 hb,yG h.2.1 hb.size,fun b h1 h2=>(hb.block b (xP h2 h.2.1)).trans (h.2.2 b h1 h2)⟩) ⟨HOW.out,zD _,fun _ _ _=>rfl⟩ [([],fun v _=>v=.map (some (w6.heap.size+1))),([],fun v _=>v=.pointer (some ⟨b15,0,none⟩)),([1],fun v _=>v=.int .i64 xo),([],fun v _=>v=.map (some (w6.heap.size+1))),([],fun v _=>v=.pointer (some ⟨b15,0,none⟩)),([4],fun v _=>v=.int .i64 xo),([3,5],fun v _=>v=lv),([],fun v _=>v=.int .i64 fi),([],fun v _=>v=.int .i64 en),([7,8],fun v _=>v=.agg #[fi,en]),([9],fun v Wx => ∃ b,v=.slice (some ⟨b,0,none⟩) 1 1∧w5.heap.size≤b∧obj Wx b=some (.cells #[fi,en] 77 (0,0))),([6,10],fun v Wx=>Wx.ownsRow (w6.heap.size+7) 77 2 v (ll.length+1) (a4g (ll ++ [⟨fi,en⟩]))∧(v.ownBlock=lv.ownBlock∨∃ q,v.ownBlock=some q∧w5.heap.size≤q))] (by kernel_rfl) (by kernel_rfl) (by kernel_rfl) (by kernel_rfl) (fun _ _ h=>h) ?st ⟨?o0,?o1,?o2,?o3,?o4,?o5,?o6,?o7,?o8,?o9,?o10,?o11,trivial⟩ ?_
  case st =>
   intro k j v W1 W2 hkj h hb
   rcases k with _|_|_|_|_|_|_|_|_|_|_|_|k
   ·exact h
   ·exact h
   ·exact h
   ·exact h
   ·exact h
   ·exact h
   ·exact h
   ·exact h
   ·exact h
   ·exact h
   ·obtain ⟨b,h1,h2,h3⟩:=h;unfold ajf at hb;split at hb;exact ⟨b,h1,h2,hb.1.obj h3 (a09 h3) (fun e=>by omega)⟩;exact ⟨b,h1,h2,a0a h3 hb⟩
   ·unfold ajf at hb;rw [zS (fun e=>hkj e.symm)] at hb;exact ⟨a0m h.1 hb,h.2⟩
   trivial
  case o0 => intro vs Wq hW hk;clear hk;change wpList _ _ _ _ (a00 _ vs [] _) _;simp only [a00];have q:=a02 (show obj Wq (w6.heap.size+1+1)=_ from (hW.2.2.2 (w6.heap.size+2) (fun e=>by have:=hT _ (hvo _ e);omega) l14).trans p14) 0;(repeat'(first|go_skip|go_guarded|go_step|go_upon));exact a0x (by decide) (.map (some (w6.heap.size+1))) rfl (by go_simp) bR rfl
  case o1 => intro vs Wq hW hk;clear hk;change wpList _ _ _ _ (a00 _ vs [] _) _;simp only [a00];(repeat'(first|go_skip|go_guarded|go_step|go_upon));exact a0x (by decide) (.pointer (some ⟨b15,0,none⟩)) rfl (by go_simp) bR rfl
  case o2 => intro vs Wq hW hk;have g1:vs 1=.pointer (some ⟨b15,0,none⟩):=hk.1;clear hk;change wpList _ _ _ _ (a00 _ vs [1] _) _;simp only [a00,a03,yy0,yy1,yy2,yy3];rw [g1];have q:=a02 (show obj Wq b15=_ from (hW.2.2.2 b15 (fun e=>by have:=hT _ (hvo _ e);omega) l15').trans p6) 0;(repeat'(first|go_skip|go_guarded|go_step|go_upon));exact a0x (by decide) (.int .i64 xo) rfl (by go_simp) bR rfl
  case o3 => intro vs Wq hW hk;clear hk;change wpList _ _ _ _ (a00 _ vs [] _) _;simp only [a00];have q:=a02 (show obj Wq (w6.heap.size+1+1)=_ from (hW.2.2.2 (w6.heap.size+2) (fun e=>by have:=hT _ (hvo _ e);omega) l14).trans p14) 0;(repeat'(first|go_skip|go_guarded|go_step|go_upon));exact a0x (by decide) (.map (some (w6.heap.size+1))) rfl (by go_simp) bR rfl
  case o4 => intro vs Wq hW hk;clear hk;change wpList _ _ _ _ (a00 _ vs [] _) _;simp only [a00];(repeat'(first|go_skip|go_guarded|go_step|go_upon));exact a0x (by decide) (.pointer (some ⟨b15,0,none⟩)) rfl (by go_simp) bR rfl
  case o5 => intro vs Wq hW hk;have g4:vs 4=.pointer (some ⟨b15,0,none⟩):=hk.1;clear hk;change wpList _ _ _ _ (a00 _ vs [4] _) _;simp only [a00,a03,yy0,yy1,yy2,yy3];rw [g4];have q:=a02 (show obj Wq b15=_ from (hW.2.2.2 b15 (fun e=>by have:=hT _ (hvo _ e);omega) l15').trans p6) 0;(repeat'(first|go_skip|go_guarded|go_step|go_upon));exact a0x (by decide) (.int .i64 xo) rfl (by go_simp) bR rfl
  case o6 => intro vs Wq hW hk;have g3:vs 3=.map (some (w6.heap.size+1)):=hk.1;have g5:vs 5=.int .i64 xo:=hk.2.1;clear hk;change wpList _ _ _ _ (a00 _ vs [3,5] _) _;simp only [a00,a03,yy0,yy1,yy2,yy3];rw [g3,g5];refine aef rfl _ _ _ rfl (.map (some (w6.heap.size+1))) (.int .i64 xo) lv rfl rfl (HLK.out Wq (hW.2.2.2 _ (fun e=>by have:=hT _ (hvo _ e);omega) lmb)) ?_;refine wpList_nil ?_;exact a0x (by decide) (lv) rfl (by go_simp) bR rfl
  case o7 => intro vs Wq hW hk;clear hk;change wpList _ _ _ _ (a00 _ vs [] _) _;simp only [a00];(repeat'(first|go_skip|go_guarded|go_step|go_upon));exact a0x (by decide) (.int .i64 fi) rfl (by go_simp) bR rfl
  case o8 => intro vs Wq hW hk;clear hk;change wpList _ _ _ _ (a00 _ vs [] _) _;simp only [a00];(repeat'(first|go_skip|go_guarded|go_step|go_upon));exact a0x (by decide) (.int .i64 en) rfl (by go_simp) bR rfl
  case o9 => intro vs Wq hW hk;have g7:vs 7=.int .i64 fi:=hk.1;have g8:vs 8=.int .i64 en:=hk.2.1;clear hk;change wpList _ _ _ _ (a00 _ vs [7,8] _) _;simp only [a00,a03,yy0,yy1,yy2,yy3];rw [g7,g8];(repeat'(first|go_skip|go_guarded|go_step|go_upon));exact a0x (by decide) (.agg #[fi,en]) rfl (by go_simp) bR rfl
  case o10 => intro vs Wq hW hk;have g9:vs 9=.agg #[fi,en]:=hk.1;clear hk;change wpList _ _ _ _ (a00 _ vs [9] _) _;simp only [a00,a03,yy0,yy1,yy2,yy3];rw [g9];have hz:=hW.1.size;(repeat'(first|go_skip|go_guarded|go_step|go_upon));exact a0x (by decide) (.slice (some ⟨Wq.heap.size,0,none⟩) 1 1) rfl (by go_simp) (bR.alloc (zD _) _) ⟨Wq.heap.size,rfl,hz,a05 _ _ _ rfl⟩
  case o11 =>
   intro vs Wq hW hk;have g6:vs 6=lv:=hk.1;have g10:(fun v Wx => ∃ b,v=.slice (some ⟨b,0,none⟩) 1 1∧w5.heap.size≤b∧obj Wx b=some (.cells #[fi,en] 77 (0,0))) (vs 10) Wq:=hk.2.1;obtain ⟨nb,g10v,hnb,onb⟩:=g10;clear hk;change wpList _ _ _ _ (a00 _ vs [0,1,2,3,4,5,6,7,8,9,10,11] _) _;simp only [a00,a03,yy0,yy1,yy2,yy3];rw [g6,g10v];have hz:=hW.1.size;simp only [Act.put,zF,zI,zJ];refine a8m rfl _ _ rfl (w6.heap.size+7) ll.length lv ll rfl hW.2.1 nb ⟨fi,en⟩ rfl onb (by omega) (by omega) ?_;intro v5 W5 a3p hg5 als hkp5;refine wpList_nil ?_
   have hbx:a1x Wq.heap.size (fun j=>j=lv.ownBlock.getD 0) Wq W5:=⟨hg5.os,hg5.tape,hg5.output,hg5.size,fun k hk hn=>hg5.block k hk (fun e=>hn (by rw [← e];rfl))⟩
   have hix:W5.ownsRow (w6.heap.size+7) 77 2 lv ll.length (a4g ll)∧w5.heap.size≤W5.heap.size∧∀ b,lv.ownBlock≠some b→b < w5.heap.size→W5.heap[b]? = w5.heap[b]? := ⟨hkp5,yG hz hg5.size,fun b hb hlt=>(hg5.block b (xP hlt hz) (fun e=>hb e.symm)).trans (hW.2.2.2 b hb hlt)⟩
   have hph:W5.ownsRow (w6.heap.size+7) 77 2 v5 (ll.length+1) (a4g (ll ++ [⟨fi,en⟩]))∧(v5.ownBlock=lv.ownBlock∨∃ q,v5.ownBlock=some q∧w5.heap.size≤q):=⟨a3p,als.imp id fun e=>⟨_,e,hz⟩⟩
   exact aja (s:=11) v5 rfl (by go_simp) hbx hix hph
  intro vs Wx hWx hk
  have v0:=hk 0 (by decide)
  have v2:=hk 2 (by decide)
  have v11:=hk 11 (by decide)
  clear hk
  have v0:vs 0=.map (some (w6.heap.size+1)):=v0
  have v2:vs 2=.int .i64 xo:=v2
  have v11:Wx.ownsRow (w6.heap.size+7) 77 2 (vs 11) (ll.length+1) (a4g (ll ++ [⟨fi,en⟩]))∧((vs 11).ownBlock=lv.ownBlock∨∃ q,(vs 11).ownBlock=some q∧w5.heap.size≤q):=v11
  obtain ⟨a3p,als⟩:=v11
  dsimp only [a1d,List.take,List.drop]
  simp only [Act.put,zF,zI,zJ]
  rw [v0,v2]
  generalize vs 11=v5 at *
  generalize vs 1=q1,vs 3=q3,vs 4=q4,vs 5=q5,vs 6=q6,vs 7=q7,vs 8=q8,vs 9=q9,vs 10=q10
  clear v0 v2
  have hg5:w5.grownBy Wx lv.ownBlock:=⟨hWx.1.os,hWx.1.tape,hWx.1.output,hWx.1.size,fun k hk hne=>hWx.2.2.2 k (fun e=>hne e.symm) hk⟩
  have hz5:=hg5.size
  obtain ⟨es2,hrun,g6⟩:=HG5.out.store HFO.out a3p hg5 als hTz
  refine agh rfl _ _ _ _ rfl (.map (some (w6.heap.size+1))) (.int .i64 xo) v5 rfl rfl rfl hrun ?_
  refine wpList_nil ?_
  have k0:∀ k,k < W2.heap.size→k≠w6.heap.size+1→¬ T k→(Wx.putObj (w6.heap.size+1) (.map es2 es2.size)).heap[k]? = W2.heap[k]? := fun k hk hn hnt=>(World.putObj_heap_other hn).trans ((hg5.block k (by omega) (fun e=>hnt (hvo k e.symm))).trans (A5.block k hk))
  have hz6:(Wx.putObj (w6.heap.size+1) (.map es2 es2.size)).heap.size=Wx.heap.size:=by simp [World.putObj]
  have hWB:=HB0.out
  have hWz:=hWB.size
  refine ⟨fun k=>T k∨(w5.heap.size≤k∧k < Wx.heap.size),fun k h=>h.imp id (fun h=>⟨by omega,by rw [hz6];exact h.2⟩),⟨by rw [hz6];omega,fun k hk hn=>k0 k hk (fun e=>hn (.inl e)) (fun h=>hn (.inr (.inl h)))⟩,⟨es2,by rw [← hkk,HME.out];exact g6⟩,HH2.out,⟨by have:=HK0.out.1;rw [hz6];omega,fun k hk hn=>(k0 k (by have:=HK0.out.1;omega) hn (fun h=>by have:=hT k h;omega)).trans (HK0.out.2 k hk hn)⟩,?_⟩
  exact ⟨hg5.os.trans (A5.os.trans hWB.os),hg5.tape.trans (A5.tape.trans hWB.tape),hg5.output.trans (A5.output.trans hWB.output),by rw [hz6];omega,fun k hk=>(k0 k (by omega) (by omega) (fun h=>by have:=hT k h;omega)).trans (hWB.block k hk)⟩
 rintro D T i Wd hx ⟨es,h1,h2,h3,h4⟩ hD hK
 have hDe:D=w6.heap.size+5:=by omega
 subst hDe
 clear hD
 have hib:i≤1000000:=as9.out i (by rcases i with _ | i;exact .inl rfl;exact .inr (h2 i (xU i)))
 have hM:Zn.a7g (Zn.pcZ z) sel m (fd+cyc) i=Zn.acv z sel m:=by
  unfold Zn.acv
  rw [Zn.air (f:=1000001) (k:=0) (i:=i) (xG _) (by omega) h2 hx,HFD.out,HCY.out]
 have hMI:∀ g∈Zn.acv z sel m,∀ s∈g.2,0≤s.tm∧s.tm < s.off∧s.off≤fd+cyc:=by rw [← hM];exact Zn.aim i
 have hMK:((Zn.acv z sel m).map (·.1)).Nodup:=by rw [← hM];exact Zn.adl i
 have hML:(Zn.acv z sel m).length≤1000000:=by rw [← hM];have:=Zn.afv (pc:=Zn.pcZ z) (sel:=sel) (m:=m) (behind:=fd+cyc) i;omega
 have hMS:∀ g∈Zn.acv z sel m,g.2.length≤1000000:=by rw [← hM];intro g hg;have:=Zn.aae (pc:=Zn.pcZ z) (sel:=sel) (m:=m) (behind:=fd+cyc) i g hg;omega
 rw [hM] at h1
 simp only [Exit.inBlock,Exit.then]
 gi_step
 have m14:obj Wd (w6.heap.size+1+1)=some (.cells #[.map (some (w6.heap.size+1))] 154 (0,0)):=(h3.2 _ (by omega) (by omega)).trans b14
 have mg:obj Wd g=_:=(h3.2 g (a09 d8) (by have:=a09 d8;intro e;subst e;rw [show obj V0 (w6.heap.size+1)=_ from bmap] at d8;cases d8)).trans d8
 have HH1:=zA h1
 have hmap:=h1.map
 have hesz:=h1.len
 have hborn:=h1.born
 have HBO:=zA hborn
 have HMI:=zA hMI
 have HMS:=zA hMS
 have HMK:=zA hMK
 have hzd:=h3.1
 have HK3:=zA h3
 have HB4:=zA h4
 have HKD:=zA hK
 have cm14:=a02 m14 0
 clear h1 h2 h3 h4 hx hM hMI hMK hMS hK hborn
 obtain ⟨M,hMe⟩ : ∃ M,Zn.acv z sel m=M:=⟨_,rfl⟩
 have HME:=zA hMe
 rw [hMe] at HH1 hesz HMI HMS HMK hML
 clear hMe
 obtain ⟨mb,hmb⟩ : ∃ mb,w6.heap.size+1=mb:=⟨_,rfl⟩
 rw [hmb] at cm14 m14 hmap HH1
 rw [hmb]
 repeat' ((fail_if_success (with_reducible refine Go.wp_block ?_));(first | (at_range;(with_reducible refine agi rfl _ _ rfl Tryz.underlying154 mb es es.size rfl hmap ?_))|go_skip|go_guarded|go_step|go_upon))
 go_frame
 have hL:Below Wd Wd (Wd.alloc (.mapIter (some mb) es.size #[] es.size)):=bR.alloc (zD _) _
 have hrL:(Wd.alloc (.mapIter (some mb) es.size #[] es.size)).heap[Wd.heap.size]? = some (.mapIter (some mb) es.size #[] es.size):=World.alloc_heap_new _ _
 have hzL:(Wd.alloc (.mapIter (some mb) es.size #[] es.size)).heap.size=Wd.heap.size+1:=by simp
 have lmb:mb < Wd.heap.size:=(zL.1 hmap).1
 have lg:=a09 mg
 have HGL:=zA (HH1.out.keep (hL.block mb lmb) (fun k hk hk2=>hL.block k hk2))
 have ar6:=(hL.block mb lmb).trans hmap
 have mgL:=a0a mg hL
 have HBL:=zA (HB4.out.trans (hL.mono HB4.out.size))
 have lD:w6.heap.size+5 < Wd.heap.size:=(zL.1 HKD.out).1
 have HKL:=zA ((hL.block _ lD).trans HKD.out)
 have hzW:=HB4.out.size
 clear hmap mg m14 cm14 HH1 hL
 generalize Wd.alloc (.mapIter (some mb) es.size #[] es.size)=WL at *
 generalize Wd.heap.size=r at *
 refine Go.wp_block ?_
 go_loopw [21] (fun ov wr => ∃ (Sn:List Nat) (rows:List (Array Value)),Sn.Nodup∧(∀ i∈Sn,i < M.length)∧(∀ i∈Sn,¬ 1048576 < Zn.a8i (M.getD i default).2)∧wr.heap[r]? = some (.mapIter (some mb) es.size Sn.toArray es.size)∧wr.ownsRow (r+1) 69 5 ov Sn.length (acj rows)∧a7b wr (Zn.seenD C fd cyc M Sn) rows∧a1x (r+1) (fun k=>k=r) WL wr) (fun _ wr=>aiu es r wr)
 case atStart=>exact ⟨[],[],List.nodup_nil,fun i hi=>(by cases hi),fun i hi=>(by cases hi),hrL,⟨rfl,.inl ⟨rfl,rfl⟩⟩,⟨rfl,fun i hi=>absurd hi (yA i)⟩,a1x.of bR _⟩
 obtain ⟨Sn,rows,hS1,hS2,hS3,hr,how,hro,hX⟩:=hrel
 have hzw:=hX.size
 have hmw:wr.heap[mb]? = some (.map es es.size):=(hX.block mb (by omega) (by omega)).trans ar6
 have hbl:∀ x∈es.toList,x.born < es.size:=fun x hx=>by
  obtain ⟨i,hi,rfl⟩:=zY.1 hx
  rw [HBO.out i _ (by rw [← yU,zK hi])]
  simpa using hi
 repeat' (first | (at_next;(with_reducible refine agj rfl _ rfl r mb es.size es.size Sn.toArray es es.size rfl hr hmw hbl (zD _) ?_ ?_))|go_skip|go_guarded|go_step|go_upon)
 ·intro h0
  have hall:∀ i,i < M.length→i∈Sn:=fun i hi=>ais HBO.out h0 (by omega)
  have hsl:(Zn.seenD C fd cyc M Sn).length=Sn.length:=by unfold Zn.seenD;rw [uM]
  have hSl:Sn.length≤1000000:=by
   have:=(Zn.ad9 (C:=C) (fr:=fd) (cyc:=cyc) hS1 hS2 hall).length_eq;unfold Zn.resD at this;rw [hsl,uM] at this;omega
  have HS:=zA (HSD wr (r+1) u21 (Zn.seenD C fd cyc M Sn) rows (by rw [hsl];exact how) hro (by omega))
  have HR:Hid (∀ l',l'.Perm (Zn.seenD C fd cyc M Sn)→(l'.Pairwise fun a b=>a.1≤b.1)→Zn.a4c C z m sel=(l',0)):=zA fun l' hp hs=>by
   unfold Zn.a4c;rw [zQ ⟨HGB.out,by omega,by omega⟩,zS (by rw [HFD.out];exact hbig),HME.out,Zn.an9 (fun i hi=>hS3 i (hall i hi)),zS (by decide),HFD.out,HCY.out];rw [Zn.ac2 (l:=Zn.resD C fd cyc M) (hp.trans (Zn.ad9 hS1 hS2 hall)) hs (by rw [Zn.aia];exact HMK.out)]
  clear hall hS1 hS2 hS3 hro how h0
  repeat' (first | (go_at_call 108;((with_reducible refine (HS.out).mono ?_));rintro e w9 ⟨rfl,⟨l',hp,hs,hdv⟩,hX9⟩;dsimp only)|go_skip|go_guarded|go_step|go_upon)
  have hK9:w9.heap[w6.heap.size+5]? = some (.deferred (some [])):=by
   exact (hX9.block _ (by omega) (by omega)).trans ((hX.block _ (by omega) (by omega)).trans HKL.out)
  have hB9:Below W W w9:=⟨hX9.os.trans (hX.os.trans HBL.out.os),hX9.tape.trans (hX.tape.trans HBL.out.tape),hX9.output.trans (hX.output.trans HBL.out.output),by have:=hX9.size;omega,fun k hk=>(hX9.block k (by omega) (by omega)).trans ((hX.block k (by omega) (by omega)).trans (HBL.out.block k hk))⟩
  refine ⟨by simp,.inl ⟨_,_,rfl,run_takeDeferred hK9,?_⟩⟩
  refine ⟨_,a3t rfl _ _,⟨_,by rw [HR.out l' hp hs];rfl,?_⟩,a1r hB9 (by omega)⟩
  rw [HR.out l' hp hs]
  exact hdv.put hK9 (fun _ _ _ e=>by cases e)
 intro e he W3 hX3 hz3 hr3
 obtain ⟨ix,hix,hnS,hbo⟩:=akk HBO.out he
 have aks:ix < M.length:=by rw [← hesz];exact (zL.1 hix).1
 have hkey:=HGL.out.key ix e hix
 have hrow:=HGL.out.row ix e hix
 have hmem:e∈es.toList:=Array.mem_toList_iff.2 (Array.mem_of_getElem? hix)
 have hnod:=ahp HBO.out
 have hLT:=zA (ait he)
 have hm3:W3.heap[mb]? = some (.map es es.size):=(hX3.block mb (by omega) (by omega)).trans hmw
 have hold:∀ k,k < r+1→k≠r→W3.heap[k]? = WL.heap[k]? := fun k hk hn=>(hX3.block k (by omega) hn).trans (hX.block k hk hn)
 have hcl:∀ (k:Nat) (cs:Array Value) (t:TypeId) (fr:Nat×Nat),WL.heap[k]? = some (Obj.cells cs t fr)→W3.heap[k]? = WL.heap[k]? := fun k cs t fr hc=>hold k (by have:=a09 (w:=WL) hc;omega) (fun e=>by subst e;rw [hrL] at hc;cases hc)
 have hrow3:=aba hrow hcl
 have akq:=aba how (fun k cs t fr hc=>hX3.block k (a09 (w:=wr) hc) (fun e=>by subst e;rw [hr] at hc;cases hc))
 have hro3:=hro.keep (fun b row fr hc=>(hX3.block b (a09 hc) (fun e=>by subst e;rw [show obj wr b=_ from hr] at hc;cases hc)).trans hc)
 have mg3:obj W3 g=_:=(hcl g _ _ _ mgL).trans mgL
 have HIL:=zA (HMI.out (M.getD ix default) (by rw [zB,zK aks];exact yT aks))
 have hls:=HMS.out (M.getD ix default) (by rw [zB,zK aks];exact yT aks)
 have HBG:Hid (1048576 < Zn.a8i (M.getD ix default).2→Zn.a4c C z m sel=([],2)):=zA fun hb=>by
  unfold Zn.a4c
  rw [zQ ⟨HGB.out,by omega,by omega⟩,zS (by rw [HFD.out];exact hbig),HME.out,Zn.ana aks hb,zQ rfl]
 have HSN:Hid (Zn.seenD C fd cyc M (Sn ++ [ix])=Zn.seenD C fd cyc M Sn ++ [((M.getD ix default).1,C (Zn.a9y fd cyc (M.getD ix default).2))]):=zA (Zn.seenD_snoc C fd cyc M Sn ix)
 have HCG:Hid (a7m (Zn.a9y fd cyc (M.getD ix default).2) (C (Zn.a9y fd cyc (M.getD ix default).2))):=zA (by
  have:=HCN (M.getD ix default) (by rw [HME.out,zB,zK aks];exact yT aks)
  rw [HFD.out,HCY.out] at this
  exact this)
 have HS3:Hid (¬ 1048576 < Zn.a8i (M.getD ix default).2→∀ i∈Sn ++ [ix],¬ 1048576 < Zn.a8i (M.getD i default).2):=zA fun hn i hi=>by
  rcases yJ.1 hi with h | h
  ·exact hS3 i h
  ·rw [yD.1 h];exact hn
 have HS1:Hid ((Sn ++ [ix]).Nodup∧∀ i∈Sn ++ [ix],i < M.length):=zA ⟨List.nodup_append.2 ⟨hS1,by simp,fun a ha b hb=>by rw [yD.1 hb];intro e;subst e;exact hnS ha⟩,fun i hi=>by
  rcases yJ.1 hi with h | h
  ·exact hS2 i h
  ·rw [yD.1 h];exact aks⟩
 have hsl:Sn.length≤1000000:=by
  have h1:=Zn.ail hS1 hS2
  omega
 have alp:W3.heap[r]? = some (.mapIter (some mb) es.size (Sn ++ [ix]).toArray es.size):=by
  rw [hr3,hbo]
  simp
 have HRP:=zA alp
 have hX3':a1x (r+1) (fun k=>k=r) WL W3:=⟨hX3.os.trans hX.os,hX3.tape.trans hX.tape,hX3.output.trans hX.output,yG hX.size hX3.size,hold⟩
 have HX3:=zA hX3'
 have HOW3:=zA akq
 have HRO3:=zA hro3
 have as7:Hid (aiu es r W3 < aiu es r wr):=zA (by rw [a9j hr3,a9j hr];exact hLT.out)
 have hz33:r+1≤W3.heap.size:=by omega
 have HNE:=zA hkey
 obtain ⟨_,hval,_⟩:=afr hrow3
 obtain ⟨va,vc,hve⟩:=(afr hrow3).2.2.2
 have HCT:=zA (fun k (hk:k < (M.getD ix default).2.length)=>Zn.a8h hk)
 have HCI:=zA (Zn.ajj (show (0:Int)≤fd+cyc by omega) HIL.out)
 have HDL:=zA (Zn.ag5 HIL.out)
 have HDT:=zA (fun k (hk:k < (M.getD ix default).2.length)=>Zn.ady hk)
 have hmv:(M.getD ix default).1=(M.getD ix default).1:=rfl
 rw [hve] at hval
 have HMEM:=zA hmem
 have HNOD:=zA hnod
 have HV:=zA hval
 clear hmv hval hrow hrow3 hX3' hold hcl hro3 akq hX3 hz3 hX hro how hnod hS1 hS2 hS3 hr hmw hbl hnS aks hLT he hmem alp hkey
 generalize hl0:(M.getD ix default).2=l at *
 generalize ho0:(M.getD ix default).1=ko at *
 rw [HNE.out,hve]
 repeat' (first | ((with_reducible refine agk rfl _ rfl r mb es.size Sn.toArray es es.size e rfl hr3 hm3 HMEM.out HNOD.out HNE.out hve ?_))|go_skip|go_guarded|go_step|go_upon)
 go_loopw [24,122] (fun cv iv wr1 => ∃ k:Nat,k≤l.length∧cv=.int .i64 (Zn.a8i (l.take k))∧iv=.int .i64 k∧Below W3 W3 wr1) (fun _ iv _=>((l.length:Int) - intOf iv).toNat)
 case atStart=>exact ⟨0,by omega,rfl,rfl,zC _ _⟩
 obtain ⟨k,hk,rfl,rfl,hB1⟩:=hrel
 by_cases hlt:k < l.length
 ·have i1:(k:Int) < (l.length:Int):=by omega
  have hcq:=HCI.out k hk
  have hub:(k:Int) * (fd+cyc)≤1000000 * (fd+cyc):=yP (by omega) (by omega)
  have HCQ:=zA (HCT.out k hlt)
  obtain ⟨ao,c0,hs0,hs1⟩:=HV.out
  injection hs0 with hs0 _ _
  subst hs0
  obtain ⟨b,ofs,row,TT,fr,rfl,q1,q2⟩:=hs1 (by omega)
  obtain ⟨z0,k2⟩:=q2 k hlt
  have z1:(ofs+k * 2+2≤row.size)=True:=xN z0
  have hbw:=a04 q1 hB1 (a09 q1)
  have hsi:=HIL.out (l.getD k default) (Zn.a2h hlt)
  clear q1 q2 z0 hs1
  try dsimp only at k2
  generalize Zn.a8i (l.take k)=cn at *
  generalize l.getD k default=sp at *
  have k3:row.extract (ofs+k * 2) (ofs+k * 2+2)=#[.int .i64 sp.tm,.int .i64 sp.off]:=k2
  clear k2
  have w1:=zWI (sp.off - sp.tm)
  have w2:=zWI (cn+(sp.off - sp.tm))
  have alr:ones #[sp.tm,sp.off]=true:=by simp [ones,a0n]
  have hB2:=hB1.alloc hB1.size (.cells #[sp.tm,sp.off] 77)
  repeat'(first|go_skip|go_guarded|go_step|go_upon)
  exact ⟨⟨k+1,by omega,by rw [HCQ.out],by go_num,hB2⟩,by simp [intOf];omega⟩
 have hkl:k=l.length:=by omega
 subst hkl
 have hce:Zn.a8i (l.take l.length)=Zn.a8i l:=by rw [wY]
 have hdl:=HDL.out l.length (zD _)
 rw [hce] at hdl
 rw [hce]
 have HKE:Hid (∀ W9:World,Below W3 W3 W9→W9.heap[w6.heap.size+5]? = some (.deferred (some []))∧Below W W W9):=zA fun W9 hb=>by
  have hX:=HX3.out
  refine ⟨(hb.block _ (by omega)).trans ((hX.block _ (by omega) (by omega)).trans HKL.out),⟨hb.os.trans (hX.os.trans HBL.out.os),hb.tape.trans (hX.tape.trans HBL.out.tape),hb.output.trans (hX.output.trans HBL.out.output),by have:=hb.size;omega,fun k hk=>(hb.block k (by omega)).trans ((hX.block k (by omega) (by omega)).trans (HBL.out.block k hk))⟩⟩
 by_cases hbg:1048576 < Zn.a8i l
 ·have HR:=zA (HBG.out hbg)
  repeat'(first|go_skip|go_guarded|go_step|go_upon)
  obtain ⟨hK9,hB9⟩:=HKE.out wr hB1
  refine ⟨by simp,.inl ⟨_,_,rfl,run_takeDeferred hK9,?_⟩⟩
  exact ⟨_,a3t rfl _ _,⟨_,by rw [HR.out];rfl,by rw [HR.out];exact a1f.nil _⟩,a1r hB9 (by omega)⟩
 have mg1:=a0a mg3 hB1
 have cg9:=a02 mg1 9
 have ar4:ones #[.slice none 0 0,fd,cyc,.slice none 0 0]=true:=by simp [ones,a0n];rfl
 have HZ1:=hB1.size
 have hS0:ahw (wr.alloc (.cells #[.slice none 0 0,fd,cyc,.slice none 0 0] 65)) wr.heap.size fd cyc [] (.slice none 0 0) (.slice none 0 0):=⟨a05 _ _ _ rfl,⟨rfl,.inl ⟨rfl,rfl⟩⟩,⟨rfl,.inl ⟨rfl,rfl⟩⟩,fun b hb=>by cases hb⟩
 have hB2:=(zC wr.heap.size wr).alloc (zD _) (.cells #[.slice none 0 0,fd,cyc,.slice none 0 0] 65)
 have HB1:=zA hB1
 have HV1:Hid (∀ Wq,Below wr wr Wq→a2b Wq (.slice va l.length vc) l):=zA fun Wq hb=>(a1m.below HV.out hB1).below hb
 clear HV hB1 hce
 repeat'(first|go_skip|go_guarded|go_step|go_upon)
 have HCA:=zA (fun k (hk:k≤l.length)=>Zn.al0 HIL.out hk)
 obtain ⟨wA,rfl⟩ : ∃ wA,wA=wr:=⟨_,rfl⟩
 obtain ⟨p,hp⟩ : ∃ p,wA.heap.size=p:=⟨_,rfl⟩
 have hpA:=hp
 rw [hp] at hS0 hB2 HV1 HZ1
 rw [hp]
 clear cg9 ar4 hp
 go_loopw [144] (fun iv wrx => ∃ (k:Nat) (hv cv:Value),k≤l.length∧iv=.int .i64 k∧ahw wrx p fd cyc (Zn.akz (l.take k)) hv cv∧Below p wA wrx) (fun iv _=>((l.length:Int) - intOf iv).toNat)
 case atStart=>exact ⟨0,_,_,by omega,rfl,hS0,hB2⟩
 obtain ⟨k,hv,cv,hk,rfl,hS,hB⟩:=hrel
 clear hS0 hB2
 by_cases hlt:k < l.length;rotate_left
 ·have hkl:k=l.length:=by omega
  subst hkl
  rw [wY] at hS
  have HSR:=zA hS
  have hB3:=hB.trans bR
  have c0:=hS.row
  have hpz:=hB.size
  have hov:hv.oneCell' = true:=a3x hS.hd
  have hoc:cv.oneCell' = true:=a3x hS.cy
  have hCN:Calls Tryz.prog 37 #[.agg #[hv,fd,cyc,cv]] wr _:=HCG.out wr (p+1) hv cv hS.hd hS.cy
  have HCN2:=zA hCN
  generalize C (Zn.a9y fd cyc l)=qq at *
  have hW3:Below W3 W3 wr:=HB1.out.trans (hB.mono (by omega))
  have lp:=a09 c0
  have HW3:=zA hW3
  clear hS hCN hB hB3 HV1 HCA HCT HDT HDL
  repeat' ((go_not_at_region 42);(first | (go_at_call 37;((with_reducible refine (HCN2.out).mono ?_));rintro e7 w7 ⟨⟨hw,cw,uu,rfl,hhw,hcw⟩,hB7⟩;have c7:=a0a c0 hB7;have hoh:=a4k hhw.one hcw.one qq.from_ qq.period;have hod:=aet hhw.one hcw.one ko qq.from_ qq.period;dsimp only)|go_skip|go_guarded|go_step|go_upon))
  have c8:obj (w7.setRow p #[hw,.int .i64 qq.from_,.int .i64 qq.period,cw]) p=some (.cells #[hw,qq.from_,qq.period,cw] 65 (0,0)):=by rw [a2g,c7];rfl
  have hz7:=hB7.size
  have h38:Below W3 W3 (w7.setRow p #[hw,.int .i64 qq.from_,.int .i64 qq.period,cw]):=⟨hB7.os.trans HW3.out.os,hB7.tape.trans HW3.out.tape,hB7.output.trans HW3.out.output,by have:=HW3.out.size;simp;omega,fun k hk=>(wZ _ _ _ _ (by omega)).trans ((hB7.block k (by have:=HW3.out.size;omega)).trans (HW3.out.block k hk))⟩
  have hk8:∀ b row fr,obj w7 b=some (.cells row 3 fr)→obj (w7.setRow p #[hw,.int .i64 qq.from_,.int .i64 qq.period,cw]) b=some (.cells row 3 fr):=fun b row fr hb=>(wZ _ _ _ _ (fun e=>by subst e;rw [c7] at hb;cases hb)).trans hb
  have hh8:=hhw.keep hk8
  have hc8:=hcw.keep hk8
  clear c7 hk8 hhw hcw c0
  generalize w7.setRow p #[hw,.int .i64 qq.from_,.int .i64 qq.period,cw]=w8 at *
  have A9:=(zC w8.heap.size w8).alloc (zD _) (.cells #[ko,hw,qq.from_,qq.period,cw] 69)
  have n9:obj (w8.alloc (.cells #[ko,hw,qq.from_,qq.period,cw] 69)) w8.heap.size=some (.cells #[ko,hw,qq.from_,qq.period,cw] 69 (0,0)):=a05 _ _ _ rfl
  have hz8:=h38.size
  have h39:Below W3 W3 (w8.alloc (.cells #[ko,hw,qq.from_,qq.period,cw] 69)):=h38.trans (A9.mono hz8)
  have ow9:=a0m HOW3.out h39
  have ro9:=HRO3.out.keep (fun b row fr hb=>a0a hb h39)
  have hh9:=hh8.below A9
  have hc9:=hc8.below A9
  have hz9:r+1≤(w8.alloc (.cells #[ko,hw,qq.from_,qq.period,cw] 69)).heap.size:=by simp;omega
  have hone9:=a3x ow9
  repeat' (first | (at_builtin;(refine a9a rfl _ _ rfl (r+1) Sn.length u21 (acj rows) rfl ow9 w8.heap.size _ _ _ _ _ rfl n9 hod (by omega) hz9 ?_);intro v5 W5 a3p hg5;dsimp only)|go_skip|go_guarded|go_step|go_upon)
  have hr9:(w8.alloc (.cells #[ko,hw,qq.from_,qq.period,cw] 69)).heap[r]? = _:=(h39.block r (by omega)).trans HRP.out
  generalize w8.alloc (.cells #[ko,hw,qq.from_,qq.period,cw] 69)=w9 at *
  have hni:∀ b row fr,obj w9 b=some (.cells row 3 fr)→obj W5 b=some (.cells row 3 fr):=fun b row fr hb=>a19 ow9 hb (by decide) hg5
  have hur:u21.ownBlock≠some r:=fun e=>by have:=a1p ow9 e;omega
  have hr5:W5.heap[r]? = _:=(hg5.block r (by omega) (fun e=>hur e.symm)).trans hr9
  have hwx:a1x (r+1) (fun k=>k=r) WL W5:=⟨hg5.os.trans (h39.os.trans HX3.out.os),hg5.tape.trans (h39.tape.trans HX3.out.tape),hg5.output.trans (h39.output.trans HX3.out.output),by have:=hg5.size;have:=h39.size;have:=HX3.out.size;omega,fun k hk hn=>(hg5.block k (by omega) (fun e=>by have:=a1p ow9 e.symm;omega)).trans ((h39.block k (by omega)).trans (HX3.out.block k hk hn))⟩
  have hro5:a7b W5 (Zn.seenD C fd cyc M (Sn ++ [ix])) (rows ++ [#[.int .i64 ko,hw,.int .i64 qq.from_,.int .i64 qq.period,cw]]):=by
   rw [HSN.out];exact (ro9.keep hni).snoc ⟨hw,cw,rfl,hh9.keep hni,hc9.keep hni⟩
  have hown:W5.ownsRow (r+1) 69 5 v5 (Sn ++ [ix]).length (acj (rows ++ [#[.int .i64 ko,hw,.int .i64 qq.from_,.int .i64 qq.period,cw]])):=by
   rw [ahl,zX];exact a3p
  refine ⟨?_,by rw [a9j hr5];have:=as7.out;rwa [a9j HRP.out] at this⟩
  exact ⟨Sn ++ [ix],rows ++ [#[.int .i64 ko,hw,.int .i64 qq.from_,.int .i64 qq.period,cw]],HS1.out.1,HS1.out.2,HS3.out hbg,hr5,hown,hro5,hwx⟩
 have i1:(k:Int) < (l.length:Int):=by omega
 have hcq:=HDL.out k hk
 have hct:=HCT.out k hlt
 have hca:=HCA.out (k+1) (by omega)
 have HDQ:=zA (HDT.out k hlt)
 obtain ⟨ao,c0,hs0,hs1⟩:=HV1.out wr hB
 injection hs0 with hs0 _ hs2
 subst hs0
 subst hs2
 obtain ⟨b,ofs,row,TT,fr,rfl,q1,q2⟩:=hs1 (by omega)
 obtain ⟨z0,k2⟩:=q2 k hlt
 have z1:(ofs+k * 2+2≤row.size)=True:=xN z0
 have hbw:=q1
 have hsi:=HIL.out (l.getD k default) (Zn.a2h hlt)
 clear q1 q2 z0 hs1
 try dsimp only at k2
 generalize Zn.akz (l.take k)=P0 at *
 generalize Zn.a8i (l.take (k+1))=cn1 at *
 generalize Zn.a8i (l.take k)=cn at *
 generalize Zn.a8i l=cl at *
 generalize l.getD k default=sp at *
 have k3:row.extract (ofs+k * 2) (ofs+k * 2+2)=#[.int .i64 sp.tm,.int .i64 sp.off]:=k2
 clear k2
 have alr:ones #[sp.tm,sp.off]=true:=by simp [ones,a0n]
 have A1:=(zC wr.heap.size wr).alloc (zD _) (.cells #[sp.tm,sp.off] 77)
 have hSz:=hB.size
 have hS1:=hS.below A1
 have hB1:=hB.trans (A1.mono (by omega))
 have o29:obj (wr.alloc (.cells #[sp.tm,sp.off] 77)) wr.heap.size=some (.cells #[sp.tm,sp.off] 77 (0,0)):=a05 _ _ _ rfl
 repeat'(first|go_skip|go_guarded|go_step|go_upon)
 obtain ⟨q29,ar1⟩ : ∃ q,wr.heap.size=q:=⟨_,rfl⟩
 have hq0:p < q29:=by rw [← ar1];have:=a09 hS.row;omega
 rw [ar1] at o29
 rw [ar1]
 clear hbw k3 z1 hS A1 HV1
 go_loopw [30] (fun iv wrx => ∃ (j:Nat) (hv cv:Value),(j:Int)≤sp.off - sp.tm∧iv=.int .i64 (sp.tm+(j:Int))∧ahw wrx p fd cyc (P0++Zn.upto sp.tm j) hv cv∧Below p wA wrx∧obj wrx q29=some (.cells #[sp.tm,sp.off] 77 (0,0))) (fun iv _=>(sp.off - intOf iv).toNat)
 case atStart=>exact ⟨0,hv,cv,by omega,by simp,by simpa [Zn.upto] using hS1,hB1,o29⟩
 obtain ⟨j,hv,cv,hj,rfl,hS,hB,o29⟩:=hrel
 clear hS1 hB1
 have hSz2:=hB.size
 have c29:=a02 o29 1
 have l29:=a09 o29
 by_cases hjl:sp.tm+(j:Int) < sp.off;rotate_left
 ·have hje:(sp.off - sp.tm).toNat=j:=by omega
  rw [hje] at HDQ
  repeat'(first|go_skip|go_guarded|go_step|go_upon)
  exact ⟨⟨k+1,hv,cv,by omega,by go_num,by rw [HDQ.out];exact hS,hB⟩,by simp [intOf];omega⟩
 have hPl:(P0++Zn.upto sp.tm j).length≤1048576:=by rw [zX,Zn.afj];omega
 have HP1:Hid (P0++Zn.upto sp.tm (j+1)=(P0++Zn.upto sp.tm j) ++ [sp.tm+(j:Int)]):=zA (by rw [Zn.ai1,List.append_assoc])
 generalize P0++Zn.upto sp.tm j=P at *
 have w1:=zWI (sp.tm+(j:Int)+1)
 have HI1:Hid (sp.tm+((j+1:Nat):Int)=sp.tm+(j:Int)+1):=zA (by omega)
 obtain ⟨dj,hdj⟩ : ∃ dj,sp.tm+(j:Int)=dj:=⟨_,rfl⟩
 rw [hdj] at hjl w1 HP1 HI1
 rw [hdj]
 by_cases hd:dj < fd
 ·have A2:=(zC wr.heap.size wr).alloc (zD _) (.cells #[dj] 3)
  have hS2:=hS.below A2
  have n6:obj (wr.alloc (.cells #[dj] 3)) wr.heap.size=some (.cells #[dj] 3 (0,0)):=a05 _ _ _ rfl
  have aqv:=a0a o29 A2
  have c0:=a02 hS.row 0
  have hB2:=hB.trans (A2.mono (by omega))
  have hzz:p+1≤(wr.alloc (.cells #[dj] 3)).heap.size:=by simp;omega
  have hln:(Zn.hdP fd P).length≤1000000000000:=by have:=Zn.amz fd P;omega
  repeat' (first | (at_builtin;(refine a3r rfl _ _ rfl (p+1) _ hv (Zn.hdP fd P) rfl hS2.hd wr.heap.size dj rfl n6 hln hzz ?_);intro v5 W5 a3p hg5 als;have q4:obj W5 p=_:=(hg5.block p (a09 hS2.row) (fun e=>a4z hS2.hd (xU p) e.symm)).trans hS2.row;have f0:=a0d q4 0;have e0:=a02 q4 0;obtain ⟨va5,vc5,hv5⟩:=(a2o a3p).2.2;subst hv5;dsimp only)|go_skip|go_guarded|go_step|go_upon)
  have aqu:=a19 hS2.hd aqv (by decide) hg5
  have hzw:(wr.alloc (.cells #[dj] 3)).heap.size=wr.heap.size+1:=by simp
  have hSn:=hS2.head hd a3p hg5 als
  rw [← HP1.out] at hSn
  have hBn:Below p wA (W5.setCell ⟨p,0,none⟩ (.slice va5 ((Zn.hdP fd P).length+1) vc5)):=(hB2.grown hg5 (by omega) (fun k e=>by have:=a1p hS2.hd e;omega)).setCell (zD _) _
  have aqt:obj (W5.setCell ⟨p,0,none⟩ (.slice va5 ((Zn.hdP fd P).length+1) vc5)) q29=some (.cells #[sp.tm,sp.off] 77 (0,0)):=a07 aqu _ (show q29≠p by omega) _
  exact ⟨⟨j+1,_,_,by omega,by rw [HI1.out],hSn,hBn,aqt⟩,by simp [intOf];omega⟩
 have w2:=zWI (dj - fd)
 have A2:=(zC wr.heap.size wr).alloc (zD _) (.cells #[(dj - fd:Int)] 3)
 have hS2:=hS.below A2
 have n6:obj (wr.alloc (.cells #[(dj - fd:Int)] 3)) wr.heap.size=some (.cells #[(dj - fd:Int)] 3 (0,0)):=a05 _ _ _ rfl
 have aqv:=a0a o29 A2
 have c0:=a02 hS.row 3
 have hB2:=hB.trans (A2.mono (by omega))
 have hzz:p+1≤(wr.alloc (.cells #[(dj - fd:Int)] 3)).heap.size:=by simp;omega
 have hln:(Zn.cyP fd P).length≤1000000000000:=by have:=Zn.an6 fd P;omega
 repeat' (first | (at_builtin;(refine a3r rfl _ _ rfl (p+1) _ cv (Zn.cyP fd P) rfl hS2.cy wr.heap.size (dj - fd) rfl n6 hln hzz ?_);intro v5 W5 a3p hg5 als;have q4:obj W5 p=_:=(hg5.block p (a09 hS2.row) (fun e=>a4z hS2.cy (xU p) e.symm)).trans hS2.row;have f0:=a0d q4 3;have e0:=a02 q4 3;obtain ⟨va5,vc5,hv5⟩:=(a2o a3p).2.2;subst hv5;dsimp only)|go_skip|go_guarded|go_step|go_upon)
 have aqu:=a19 hS2.cy aqv (by decide) hg5
 have hzw:(wr.alloc (.cells #[(dj - fd:Int)] 3)).heap.size=wr.heap.size+1:=by simp
 have hSn:=hS2.cyc hd a3p hg5 als
 rw [← HP1.out] at hSn
 have hBn:Below p wA (W5.setCell ⟨p,3,none⟩ (.slice va5 ((Zn.cyP fd P).length+1) vc5)):=(hB2.grown hg5 (by omega) (fun k e=>by have:=a1p hS2.cy e;omega)).setCell (zD _) _
 have aqt:obj (W5.setCell ⟨p,3,none⟩ (.slice va5 ((Zn.cyP fd P).length+1) vc5)) q29=some (.cells #[sp.tm,sp.off] 77 (0,0)):=a07 aqu _ (show q29≠p by omega) _
 exact ⟨⟨j+1,_,_,by omega,by rw [HI1.out],hSn,hBn,aqt⟩,by simp [intOf];omega⟩
end Go.Proofs.YtppjleebbjipbaaGreat
