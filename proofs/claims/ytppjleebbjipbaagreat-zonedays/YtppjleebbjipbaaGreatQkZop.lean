/-
  clock.pieces: the iterator.
-/
import Derived.Test.YtppjleebbjipbaaGreatQkZpb
import Derived.Test.YtppjleebbjipbaaGreatQkZoa
import Derived.Test.YtppjleebbjipbaaGreatQkRngY
set_option linter.all false
namespace Go.Proofs.YtppjleebbjipbaaGreat
open Go.RowKit Go.Shelf
attribute [local go_sem] Oper.semAt_some
set_option maxRecDepth 100000
set_option maxHeartbeats 8000000
def aa9 (p:Zn.Pc):Array Value:=#[.int .i64 p.o,.int .i64 p.uf,.int .i64 p.ut,.int .i64 p.nf,.int .i64 p.nt]
theorem adg (W:World) (g:Nat) (e:Int) :
  Calls Tryz.prog 107 #[.pointer (some ⟨g,0,none⟩),.int .i64 e] W fun r w'=>r=.returned (.func (.func 141) #[] #[.pointer (some ⟨W.heap.size,0,none⟩),.pointer (some ⟨W.heap.size+1,0,none⟩)])∧(W.alloc (.cells #[.pointer (some ⟨g,0,none⟩)] 96)).alloc (.cells #[e] 3)=w':=by
 have hmf:∀ (fn:Fn) (first cap:Array Value) (w:World),(Instr.makeFunc fn first cap).run Tryz.prog w=.ok (.func fn first cap) w:=fun _ _ _ _=>rfl
 go_enter Tryz.func107,Tryz.ntmps107
 repeat'(first|go_skip|go_guarded|go_step|go_upon)
 go_ret
 exact ⟨rfl,rfl⟩
theorem ah0 (n:Nat) (hn:5≤n) (bC bE g:Nat) {z:Zn.a0w} {ys:List Zn.Tr} {cyc:Int} (hk:Zn.Ck z ys cyc) (e:Int) (D:Nat→Prop) (bound:Nat) (hbnd:bound≤1000000) (w:World)
  (hC:obj w bC=some (.cells #[.pointer (some ⟨g,0,none⟩)] 96 (0,0))) (hE:obj w bE=some (.cells #[e] 3 (0,0))) (hc:a8j w D g z ys cyc) :
  SeqY n Tryz.prog 141 #[.pointer (some ⟨bC,0,none⟩),.pointer (some ⟨bE,0,none⟩)] (fun x u _=>u=#[.agg (aa9 x)]) (fun _=>False) (fun k=>k=bC∨k=bE∨D k) (Zn.pcN z ys cyc e) bound w:=by
 intro l R J Z W hW hR hJ hZ hbd hY h0
 have hC0:=a0a hC hW
 have hE0:=a0a hE hW
 have hc0:=(hc.below hW).lt
 have hCR : ¬ R bC:=fun h=>(hR bC h).2 (.inl rfl)
 have hER : ¬ R bE:=fun h=>(hR bE h).2 (.inr (.inl rfl))
 have HDR:Hid (∀ k,D k→¬ R k):=zA fun k hd h=>(hR k h).2 (.inr (.inr hd))
 have HK:=zA hk
 clear hC hE hc hk hW
 have lC:=a09 hC0
 have lE:=a09 hE0
 have cC:=a02 hC0 0
 obtain ⟨mv,rv,tv,yv,sv,hg0,anl,aoq,hDg,hDt,hDs⟩:=id hc0
 have cg4:=a02 hg0 4
 have HFR:=zA (a6r ((W.alloc (.cells #[.func (.yield l) #[] #[]] 185)).alloc (.cells #[z.start,(-9007199254740992:Int),(0:Int),(-9007199254740992:Int),(0:Int)] 119)) g (-2251799813685248))
 have o0:obj ((((W.alloc (.cells #[.func (.yield l) #[] #[]] 185)).alloc (.cells #[z.start,(-9007199254740992:Int),(0:Int),(-9007199254740992:Int),(0:Int)] 119)).alloc (.cells #[.pointer (some ⟨g,0,none⟩)] 96)).alloc (.cells #[(-2251799813685248:Int)] 3)) W.heap.size=some (.cells #[.func (.yield l) #[] #[]] 185 (0,0)):=a06 (a06 (a06 (a05 _ _ _ rfl) _) _) _
 have o1:obj ((((W.alloc (.cells #[.func (.yield l) #[] #[]] 185)).alloc (.cells #[z.start,(-9007199254740992:Int),(0:Int),(-9007199254740992:Int),(0:Int)] 119)).alloc (.cells #[.pointer (some ⟨g,0,none⟩)] 96)).alloc (.cells #[(-2251799813685248:Int)] 3)) (W.heap.size+1)=some (.cells #[z.start,(-9007199254740992:Int),(0:Int),(-9007199254740992:Int),(0:Int)] 119 (0,0)):=a06 (a06 (a05 _ _ _ (by simp)) _) _
 have bA:obj ((((W.alloc (.cells #[.func (.yield l) #[] #[]] 185)).alloc (.cells #[z.start,(-9007199254740992:Int),(0:Int),(-9007199254740992:Int),(0:Int)] 119)).alloc (.cells #[.pointer (some ⟨g,0,none⟩)] 96)).alloc (.cells #[(-2251799813685248:Int)] 3)) (W.heap.size+2)=some (.cells #[.pointer (some ⟨g,0,none⟩)] 96 (0,0)):=a06 (a05 _ _ _ (by simp)) _
 have bB:obj ((((W.alloc (.cells #[.func (.yield l) #[] #[]] 185)).alloc (.cells #[z.start,(-9007199254740992:Int),(0:Int),(-9007199254740992:Int),(0:Int)] 119)).alloc (.cells #[.pointer (some ⟨g,0,none⟩)] 96)).alloc (.cells #[(-2251799813685248:Int)] 3)) (W.heap.size+3)=some (.cells #[(-2251799813685248:Int)] 3 (0,0)):=a05 _ _ _ (by simp)
 have w0B:Below W W ((((W.alloc (.cells #[.func (.yield l) #[] #[]] 185)).alloc (.cells #[z.start,(-9007199254740992:Int),(0:Int),(-9007199254740992:Int),(0:Int)] 119)).alloc (.cells #[.pointer (some ⟨g,0,none⟩)] 96)).alloc (.cells #[(-2251799813685248:Int)] 3)):=(((bR.alloc (zD _) _).alloc (by simp) _).alloc (by simp;omega) _).alloc (by simp;omega) _
 have w0z:((((W.alloc (.cells #[.func (.yield l) #[] #[]] 185)).alloc (.cells #[z.start,(-9007199254740992:Int),(0:Int),(-9007199254740992:Int),(0:Int)] 119)).alloc (.cells #[.pointer (some ⟨g,0,none⟩)] 96)).alloc (.cells #[(-2251799813685248:Int)] 3)).heap.size=W.heap.size+4:=by simp
 have hon:ones #[z.start,(-9007199254740992:Int),(0:Int),(-9007199254740992:Int),(0:Int)]=true:=by simp [ones,a0n]
 refine callsIn_of_wp_marks Tryz.func141 rfl trivial ?_
 simp only [Tryz.ntmps141,xJ,yS,xI,Nat.reduceAdd,Nat.reduceSub,xZ,xY,wK,wE,wO,xK]
 gi_wp2_with fail
 refine ⟨trivial,fun _=>by omega,(wW.2 HFR.out).mono ?_⟩
 rintro r w1 ⟨rfl,rfl⟩
 gi_wp2_with fail
 change Code.wpIn _ _ _ _ _ _ ((((W.alloc (.cells #[.func (.yield l) #[] #[]] 185)).alloc (.cells #[z.start,(-9007199254740992:Int),(0:Int),(-9007199254740992:Int),(0:Int)] 119)).alloc (.cells #[.pointer (some ⟨g,0,none⟩)] 96)).alloc (.cells #[(-2251799813685248:Int)] 3))
 have an0:=hc0.below w0B
 have hJ0:J (fun _=>False) 0 ((((W.alloc (.cells #[.func (.yield l) #[] #[]] 185)).alloc (.cells #[z.start,(-9007199254740992:Int),(0:Int),(-9007199254740992:Int),(0:Int)] 119)).alloc (.cells #[.pointer (some ⟨g,0,none⟩)] 96)).alloc (.cells #[(-2251799813685248:Int)] 3)):=hJ _ _ _ _ (zD _) (a6d.of w0B (fun k hk h=>h.elim (fun h=>h.1) (fun h=>h.elim))) h0
 have ara:a0o R W ((((W.alloc (.cells #[.func (.yield l) #[] #[]] 185)).alloc (.cells #[z.start,(-9007199254740992:Int),(0:Int),(-9007199254740992:Int),(0:Int)] 119)).alloc (.cells #[.pointer (some ⟨g,0,none⟩)] 96)).alloc (.cells #[(-2251799813685248:Int)] 3)):=⟨w0B.size,fun k hk _=>w0B.block k hk⟩
 obtain ⟨nx,hnx⟩ : ∃ nx,(Zn.a2s z ys cyc (-2251799813685248))=nx:=⟨_,rfl⟩
 have HNX:=zA hnx
 have HPC:Hid (∀ i,Zn.pcN z ys cyc e i=Zn.pcS z.start nx e i):=zA fun i=>by unfold Zn.pcN;rw [hnx]
 have HSQ:=zA (a9n (n - 1) (by omega) (W.heap.size+2) (W.heap.size+3) (by omega) g HK.out (t:=(-2251799813685248)) (by omega) (by omega) (fun k=>D k∧k < W.heap.size) (by show ¬ (D (W.heap.size+2)∧W.heap.size+2 < W.heap.size);omega) (by show ¬ (D (W.heap.size+3)∧W.heap.size+3 < W.heap.size);omega) bound hbnd ((((W.alloc (.cells #[.func (.yield l) #[] #[]] 185)).alloc (.cells #[z.start,(-9007199254740992:Int),(0:Int),(-9007199254740992:Int),(0:Int)] 119)).alloc (.cells #[.pointer (some ⟨g,0,none⟩)] 96)).alloc (.cells #[(-2251799813685248:Int)] 3)) bA bB an0)
 have HTM:=zA (fun i x hi h=>Zn.ajb HK.out (t:=(-2251799813685248)) (by omega) (by omega) (i:=i) hi (x:=x) h)
 rw [hnx] at HSQ HTM
 have HOB:=zA (Zn.ac5 (start:=z.start) (nx:=nx) (N:=1000000) ⟨HK.out.s0,HK.out.s1⟩ (fun j x hj h=>(HTM.out j x hj h).2.2))
 have hin:Zn.pst z.start nx 0=(z.start,-9007199254740992,-9007199254740992):=rfl
 clear cC cg4 hnx w0B
 generalize ((((W.alloc (.cells #[.func (.yield l) #[] #[]] 185)).alloc (.cells #[z.start,(-9007199254740992:Int),(0:Int),(-9007199254740992:Int),(0:Int)] 119)).alloc (.cells #[.pointer (some ⟨g,0,none⟩)] 96)).alloc (.cells #[(-2251799813685248:Int)] 3))=V0 at *
 refine a7r (n:=n) (gf:=126) (lb:=#[.pointer (some ⟨W.heap.size+2,0,none⟩),.pointer (some ⟨W.heap.size+3,0,none⟩)]) rfl (enters_of Tryz.func126 (by kernel_rfl) rfl)
  HSQ.out ?hown (fun x v W hv=>by subst hv;rfl) ?aaj (fun k=>R k∨k=W.heap.size+1) ?hR
  (fun i W' => ∃ T,J T i W'∧(∀ k,T k→W.heap.size+6≤k∧k < W'.heap.size)∧Zn.pcGo nx e i∧W.heap.size+4≤W'.heap.size∧a0o R W W'∧obj W' W.heap.size=some (.cells #[.func (.yield l) #[] #[]] 185 (0,0))∧obj W' (W.heap.size+1)=some (.cells #[.int .i64 (Zn.pst z.start nx i).1,.int .i64 (Zn.pst z.start nx i).2.1,(0:Int),.int .i64 (Zn.pst z.start nx i).2.2,(0:Int)] 119 (0,0)))
  (fun d W'=>d=.ret∧W.heap.size+6≤W'.heap.size∧∃ T,(∀ k,T k→W.heap.size+6≤k∧k < W'.heap.size)∧((∃ i,Zn.pcN z ys cyc e i=none∧J T i W')∨Z T W'))
  ?hI ?hIx (fun i W h=>by obtain ⟨T,h,_⟩:=h;exact hbd T i W h) ⟨fun _=>False,hJ0,fun k h=>h.elim,.inl rfl,by omega,ara,o0,o1⟩ ?round ?done ?stop
 case hown=>rintro k rfl;omega
 case aaj =>
  rintro k (rfl | rfl | h)
  ·omega
  ·omega
  have h:=h.2
  omega
 case hR =>
  rintro k (h | rfl)
  ·have h1:=hR k h
   exact ⟨by omega,by
    rintro (h2 | h2 | h2)
    ·omega
    ·omega
    ·exact HDR.out k h2.1 h⟩
  exact ⟨by omega,by
   rintro (h2 | h2 | h2)
   ·omega
   ·omega
   ·have h2:=h2.2
    omega⟩
 case hI =>
  rintro i A C hz hAC ⟨T,h1,h2,h3,hh,h4,h5,h6⟩
  refine ⟨T,hJ _ _ _ _ (by omega) (a6d.ofX hAC (fun k hk h=>⟨hk,fun q=>?_⟩)) h1,fun k hk=>⟨(h2 k hk).1,xP (h2 k hk).2 hAC.size⟩,h3,yG hh hAC.size,⟨yG h4.1 hAC.size,fun k hk hn=>(hAC.block k (by omega) (by omega)).trans (h4.2 k hk hn)⟩,hAC.obj h5 (by omega) (by omega),hAC.obj h6 (by omega) (by omega)⟩
  rcases h with h | h
  ·have:=h.1
   omega
  have:=h2 k h
  omega
 case hIx =>
  rintro d A C hz hAC ⟨h0,hz2,T,h2,h3⟩
  have hb:a6d W.heap.size (fun _=>False) T A C:=a6d.ofX hAC (fun k hk h=>⟨hk,fun q=>by
   rcases h with h | h
   ·have:=h.1
    omega
   ·have:=h2 k h
    omega⟩)
  exact ⟨h0,yG hz2 hAC.size,T,fun k hk=>⟨(h2 k hk).1,xP (h2 k hk).2 hAC.size⟩,h3.imp (fun ⟨i,q1,q2⟩=>⟨i,q1,hJ _ _ _ _ (by omega) hb q2⟩) (fun q=>hZ _ _ _ (by omega) hb q)⟩
 case done =>
  rintro Q i W1 hx ⟨T,h1,h2,h3,hh,h4,h5,h6⟩ hD hK
  obtain rfl:Q=W.heap.size+4:=by omega
  have hib:=hbd _ _ _ h1
  obtain ⟨o,uf,nf,hst⟩ : ∃ o uf nf,Zn.pst z.start nx i=(o,uf,nf):=⟨_,_,_,rfl⟩
  have HX:=zA hx
  have HK9:=zA hK
  rw [hst] at h6
  dsimp only at h6
  have hpc:Zn.pcN z ys cyc e i=some ⟨o,uf,9007199254740992,nf,9007199254740992⟩:=by rw [HPC.out,Zn.alj h3,hx,hst];rfl
  have f2:=a0d h6 2
  have c2:=a02 h6 2
  have m1:obj (W1.setCell ⟨W.heap.size+1,2,none⟩ (.int .i64 9007199254740992)) (W.heap.size+1)=some (.cells #[o,uf,(9007199254740992:Int),nf,(0:Int)] 119 (0,0)):=by rw [a0c,h6];rfl
  have f4:=a0d m1 4
  have c4:=a02 m1 4
  have m2:obj ((W1.setCell ⟨W.heap.size+1,2,none⟩ (.int .i64 9007199254740992)).setCell ⟨W.heap.size+1,4,none⟩ (.int .i64 9007199254740992)) (W.heap.size+1)=some (.cells #[o,uf,(9007199254740992:Int),nf,(9007199254740992:Int)] 119 (0,0)):=by rw [a0c,m1];rfl
  have m0:obj ((W1.setCell ⟨W.heap.size+1,2,none⟩ (.int .i64 9007199254740992)).setCell ⟨W.heap.size+1,4,none⟩ (.int .i64 9007199254740992)) W.heap.size=some (.cells #[.func (.yield l) #[] #[]] 185 (0,0)):=a07 (a07 h5 _ (show W.heap.size≠W.heap.size+1 by omega) _) _ (show W.heap.size≠W.heap.size+1 by omega) _
  have c0:=a02 m0 0
  have hz9:((W1.setCell ⟨W.heap.size+1,2,none⟩ (.int .i64 9007199254740992)).setCell ⟨W.heap.size+1,4,none⟩ (.int .i64 9007199254740992)).heap.size=W1.heap.size:=by simp
  have hk9:∀ k,k≠W.heap.size+1→((W1.setCell ⟨W.heap.size+1,2,none⟩ (.int .i64 9007199254740992)).setCell ⟨W.heap.size+1,4,none⟩ (.int .i64 9007199254740992)).heap[k]? = W1.heap[k]? := fun k hk=>(zO _ _ _ _ (by simpa using hk)).trans (zO _ _ _ _ (by simpa using hk))
  have hJ9:=hJ T i W1 ((W1.setCell ⟨W.heap.size+1,2,none⟩ (.int .i64 9007199254740992)).setCell ⟨W.heap.size+1,4,none⟩ (.int .i64 9007199254740992)) (by omega) ⟨rfl,rfl,rfl,by rw [hz9];exact zD _,fun k hk h=>hk9 k (by
   rcases h with h | h
   ·have:=h.1;omega
   ·have:=h2 k h;omega)⟩ h1
  obtain ⟨fn,tmps,assign,body,hy,hR2⟩:=hY T i _ _ _ hJ9 hpc rfl (by rw [hz9];omega) (fun k hk=>by rw [hz9];have:=h2 k hk;omega)
  (try dsimp only [aa9] at hy)
  clear hx hst h0 hJ0 ara o0 o1 bA bB an0 hK m1
  gi_wp2_with fail
  refine ⟨fun _=>by omega,hR2.mono ?_⟩
  rintro r W5 ⟨T',hg5,hk5,hr5⟩
  have hQ:W5.heap[(W.heap.size+4)]? = some (.deferred (some [])):=(hk5.2 (W.heap.size+4) (by rw [hz9];exact (zL.1 HK9.out).1) (fun h=>by
   rcases h with h | h
   ·have:=(hR (W.heap.size+4) h).1;omega
   ·have:=h2 (W.heap.size+4) h;omega)).trans ((hk9 (W.heap.size+4) (by omega)).trans HK9.out)
  have hz5:=hk5.1
  rw [hz9] at hz5
  have hQ1:(W.heap.size+4) < W1.heap.size:=(zL.1 HK9.out).1
  have hT5:∀ k,T' k→W.heap.size+5≤k∧k < W5.heap.size:=fun k hk=>by
   rcases hg5 k hk with h | h
   ·have:=h2 k h;omega
   ·rw [hz9] at h
    omega
  have hb:a6d W.heap.size (fun _=>False) T' W5 (W5.putObj (W.heap.size+4) (.deferred none)):=a6d.put (fun h=>by
   rcases h with h | h
   ·have:=h.1;omega
   ·have:=hT5 (W.heap.size+4) h;omega)
  have hend : ∃ S',(∀ k,S' k→W.heap.size≤k∧k < (W5.putObj (W.heap.size+4) (.deferred none)).heap.size)∧((∃ i,Zn.pcN z ys cyc e i=none∧J S' i (W5.putObj (W.heap.size+4) (.deferred none)))∨Z S' (W5.putObj (W.heap.size+4) (.deferred none))):=⟨T',fun k hk=>by have:=hT5 k hk;simp [World.putObj];omega,hr5.imp (fun ⟨_,q⟩=>⟨i+1,by rw [HPC.out];exact Zn.ake HX.out,hJ _ _ _ _ (by omega) hb q⟩) (fun ⟨_,q⟩=>hZ _ _ _ (by omega) hb q)⟩
  rcases hr5 with ⟨rfl,_⟩ | ⟨rfl,_⟩
  ·gi_wp2_with fail
   refine ⟨by simp,.inl ⟨_,_,rfl,run_takeDeferred hQ,?_⟩⟩;exact ⟨_,results_none rfl _ _ _,⟨_,rfl⟩,hend⟩
  gi_wp2_with fail
  refine ⟨by simp,.inl ⟨_,_,rfl,run_takeDeferred hQ,?_⟩⟩
  exact ⟨_,results_none rfl _ _ _,⟨_,rfl⟩,hend⟩
 case stop =>
  rintro Q d W1 ⟨rfl,hz2,T,h2,h3⟩ hD hK
  obtain rfl:Q=W.heap.size+4:=by omega
  have HK9:=zA hK
  clear hK
  gi_wp2_with fail
  refine ⟨by simp,.inl ⟨_,_,rfl,run_takeDeferred HK9.out,?_⟩⟩
  have hb:a6d W.heap.size (fun _=>False) T W1 (W1.putObj (W.heap.size+4) (.deferred none)):=a6d.put (fun h=>by
   rcases h with h | h
   ·have:=h.1;omega
   ·have:=h2 (W.heap.size+4) h;omega)
  exact ⟨_,results_none rfl _ _ _,⟨_,rfl⟩,T,fun k hk=>by have:=h2 k hk;simp [World.putObj];omega,h3.imp (fun ⟨i,q1,q2⟩=>⟨i,q1,hJ T i W1 _ (by omega) hb q2⟩) (fun q=>hZ _ _ _ (by omega) hb q)⟩
 rintro lk i x v W1 ⟨T,h1,h2,h3,hh,h4,h5,h6⟩ hx rfl hz1 hlk hlc
 have hib:=hbd _ _ _ h1
 have hxb:=HTM.out i x (by omega) hx
 obtain ⟨o,uf,nf,hst⟩ : ∃ o uf nf,Zn.pst z.start nx i=(o,uf,nf):=⟨_,_,_,rfl⟩
 have HX:=zA hx
 have HST:=zA hst
 rw [hst] at h6
 dsimp only at h6
 have hon:ones #[x.tm,x.off]=true:=by simp [ones,a0n]
 clear hx hst h0 hJ0 ara o0 o1 bA bB an0
 have rz:a7c x=#[.int .i64 x.tm,.int .i64 x.off]:=rfl
 dsimp only
 rw [rz]
 clear rz
 gi_wp2_with fail
 refine ⟨bR.alloc (zD _) _,fun W2 hB2 hkeep hsz=>?_⟩
 have hX2:a1x W1.heap.size (fun k=>k=lk) W1 W2:=⟨hB2.os,hB2.tape,hB2.output,by have:=hB2.size;simp at this;omega,fun k hk hn=>(hkeep k (by simp;omega) hn).trans (vT _ _ hk)⟩
 have k6:obj W2 W1.heap.size=some (.cells #[x.tm,x.off] 57 (0,0)):=(hkeep W1.heap.size (by simp) (by omega)).trans (a05 _ _ _ rfl)
 have k0:=hX2.obj h5 (by omega) (by omega)
 have k1:=hX2.obj h6 (by omega) (by omega)
 have l6:=a09 k6
 have l0:=a09 k0
 have l1:=a09 k1
 obtain ⟨q6,hq6⟩ : ∃ q6,W1.heap.size=q6:=⟨_,rfl⟩
 rw [hq6] at k6 l6
 have hoB : -1080≤o∧o≤1080:=by have:=HOB.out i (by omega);rw [HST.out] at this;exact this
 have wxm:=zWI (x.tm+(min o x.off))
 gi_wp2_with fail
 refine a4q 13 12 (W.heap.size+1) (fun W' => ∃ a,obj W' (W.heap.size+1)=some (.cells #[o,uf,a,nf,(0:Int)] 119 (0,0))) (fun _ _ ⟨v,h⟩ hb=>⟨v,a0a h hb⟩) ⟨_,k1⟩ [([],fun v _=>v=.pointer (some ⟨q6,0,none⟩)),([0],fun v _=>v=.int .i64 x.tm),([],fun v _=>v=.pointer (some ⟨q6,0,none⟩)),([2],fun v _=>v=.int .i64 x.tm),([],fun v _=>v=.pointer (some ⟨(W.heap.size+1),0,none⟩)),([4],fun v _=>v=.int .i64 o),([],fun v _=>v=.pointer (some ⟨q6,1,none⟩)),([6],fun v _=>v=.int .i64 x.off),([5,7],fun v _=>v=.int .i64 (min o x.off)),([3,8],fun v _=>v=.int .i64 (x.tm+(min o x.off))),([],fun v _=>v=.pointer (some ⟨(W.heap.size+1),1,none⟩)),([10],fun v _=>v=.pointer (some ⟨(W.heap.size+1),2,none⟩)),([11,1],fun _ Wx=>obj Wx (W.heap.size+1)=some (.cells #[o,uf,x.tm,nf,(0:Int)] 119 (0,0)))] (by kernel_rfl) (by kernel_rfl) (by kernel_rfl) (by kernel_rfl) (fun _ _ h=>h) ?st ⟨?o0,?o1,?o2,?o3,?o4,?o5,?o6,?o7,?o8,?o9,?o10,?o11,?o12,trivial⟩ ?_
 case st =>
  intro k j v W1 W2 hkj h hb
  rcases k with _|_|_|_|_|_|_|_|_|_|_|_|_|k
  ·exact h
  ·exact h
  ·exact h
  ·exact h
  ·exact h
  ·exact h
  ·exact h
  ·exact h
  ·exact h
  ·exact h
  ·exact h
  ·exact h
  ·unfold ajf at hb;rw [zS (fun e=>hkj e.symm)] at hb;exact a0a h hb
  trivial
 case o0 => intro vs Wq hW hk;clear hk;change wpList _ _ _ _ (a00 _ vs [] _) _;simp only [a00];(repeat'(first|go_skip|go_guarded|go_step|go_upon));exact a0x (by decide) (.pointer (some ⟨q6,0,none⟩)) rfl (by go_simp) bR rfl
 case o1 => intro vs Wq hW hk;have g0:vs 0=.pointer (some ⟨q6,0,none⟩):=hk.1;clear hk;change wpList _ _ _ _ (a00 _ vs [0] _) _;simp only [a00,a03,yy0,yy1,yy2,yy3];rw [g0];have q:=a02 (hW.1.obj k6 l6 (by omega)) 0;(repeat'(first|go_skip|go_guarded|go_step|go_upon));exact a0x (by decide) (.int .i64 x.tm) rfl (by go_simp) bR rfl
 case o2 => intro vs Wq hW hk;clear hk;change wpList _ _ _ _ (a00 _ vs [] _) _;simp only [a00];(repeat'(first|go_skip|go_guarded|go_step|go_upon));exact a0x (by decide) (.pointer (some ⟨q6,0,none⟩)) rfl (by go_simp) bR rfl
 case o3 => intro vs Wq hW hk;have g2:vs 2=.pointer (some ⟨q6,0,none⟩):=hk.1;clear hk;change wpList _ _ _ _ (a00 _ vs [2] _) _;simp only [a00,a03,yy0,yy1,yy2,yy3];rw [g2];have q:=a02 (hW.1.obj k6 l6 (by omega)) 0;(repeat'(first|go_skip|go_guarded|go_step|go_upon));exact a0x (by decide) (.int .i64 x.tm) rfl (by go_simp) bR rfl
 case o4 => intro vs Wq hW hk;clear hk;change wpList _ _ _ _ (a00 _ vs [] _) _;simp only [a00];(repeat'(first|go_skip|go_guarded|go_step|go_upon));exact a0x (by decide) (.pointer (some ⟨(W.heap.size+1),0,none⟩)) rfl (by go_simp) bR rfl
 case o5 => intro vs Wq hW hk;have g4:vs 4=.pointer (some ⟨(W.heap.size+1),0,none⟩):=hk.1;clear hk;change wpList _ _ _ _ (a00 _ vs [4] _) _;simp only [a00,a03,yy0,yy1,yy2,yy3];rw [g4];obtain ⟨a0,h1⟩:=hW.2;have q:=a02 h1 0;(repeat'(first|go_skip|go_guarded|go_step|go_upon));exact a0x (by decide) (.int .i64 o) rfl (by go_simp) bR rfl
 case o6 => intro vs Wq hW hk;clear hk;change wpList _ _ _ _ (a00 _ vs [] _) _;simp only [a00];(repeat'(first|go_skip|go_guarded|go_step|go_upon));exact a0x (by decide) (.pointer (some ⟨q6,1,none⟩)) rfl (by go_simp) bR rfl
 case o7 => intro vs Wq hW hk;have g6:vs 6=.pointer (some ⟨q6,1,none⟩):=hk.1;clear hk;change wpList _ _ _ _ (a00 _ vs [6] _) _;simp only [a00,a03,yy0,yy1,yy2,yy3];rw [g6];have q:=a02 (hW.1.obj k6 l6 (by omega)) 1;(repeat'(first|go_skip|go_guarded|go_step|go_upon));exact a0x (by decide) (.int .i64 x.off) rfl (by go_simp) bR rfl
 case o8 => intro vs Wq hW hk;have g5:vs 5=.int .i64 o:=hk.1;have g7:vs 7=.int .i64 x.off:=hk.2.1;clear hk;change wpList _ _ _ _ (a00 _ vs [5,7] _) _;simp only [a00,a03,yy0,yy1,yy2,yy3];rw [g5,g7];(repeat'(first|go_skip|go_guarded|go_step|go_upon));exact a0x (by decide) (.int .i64 (min o x.off)) rfl (by go_simp) bR rfl
 case o9 => intro vs Wq hW hk;have g3:vs 3=.int .i64 x.tm:=hk.1;have g8:vs 8=.int .i64 (min o x.off):=hk.2.1;clear hk;change wpList _ _ _ _ (a00 _ vs [3,8] _) _;simp only [a00,a03,yy0,yy1,yy2,yy3];rw [g3,g8];(repeat'(first|go_skip|go_guarded|go_step|go_upon));exact a0x (by decide) (.int .i64 (x.tm+(min o x.off))) rfl (by go_simp) bR rfl
 case o10 => intro vs Wq hW hk;clear hk;change wpList _ _ _ _ (a00 _ vs [] _) _;simp only [a00];(repeat'(first|go_skip|go_guarded|go_step|go_upon));exact a0x (by decide) (.pointer (some ⟨(W.heap.size+1),1,none⟩)) rfl (by go_simp) bR rfl
 case o11 => intro vs Wq hW hk;have g10:vs 10=.pointer (some ⟨(W.heap.size+1),1,none⟩):=hk.1;clear hk;change wpList _ _ _ _ (a00 _ vs [10] _) _;simp only [a00,a03,yy0,yy1,yy2,yy3];rw [g10];(repeat'(first|go_skip|go_guarded|go_step|go_upon));exact a0x (by decide) (.pointer (some ⟨(W.heap.size+1),2,none⟩)) rfl (by go_simp) bR rfl
 case o12 =>
  intro vs Wq hW hk
  have g11:vs 11=.pointer (some ⟨(W.heap.size+1),2,none⟩):=hk.1
  have g1:vs 1=.int .i64 x.tm:=hk.2.1
  clear hk
  change wpList _ _ _ _ (a00 _ vs [0,1,2,3,4,5,6,7,8,9,10,11,12] _) _
  simp only [a00,a03,yy0,yy1,yy2,yy3]
  rw [g11,g1]
  obtain ⟨a0,h1⟩:=hW.2
  have f1:=a0d h1 2
  have c1:=a02 h1 2
  repeat'(first|go_skip|go_guarded|go_step|go_upon)
  have e9:obj (Wq.setCell ⟨W.heap.size+1,2,none⟩ (.int .i64 x.tm)) (W.heap.size+1)=some (.cells #[o,uf,x.tm,nf,(0:Int)] 119 (0,0)):=by rw [a0c,h1];rfl
  exact adv rfl (a1x.setCell (S:=fun j=>j=W.heap.size+1) Wq rfl 2 _) ⟨_,e9⟩ (fun _=>e9)
 intro vs W3 hW3 hk
 have v9:vs 9=.int .i64 (x.tm+(min o x.off)):=hk 9 (by decide)
 have m1:obj W3 (W.heap.size+1)=some (.cells #[o,uf,x.tm,nf,(0:Int)] 119 (0,0)):=hk 12 (by decide)
 clear hk
 dsimp only [a1d,List.take,List.drop]
 simp only [Act.put,zF,zI,zJ]
 rw [v9]
 generalize vs 0=q0,vs 1=q1,vs 2=q2,vs 3=q3,vs 4=q4,vs 5=q5,vs 6=qq6,vs 7=q7,vs 8=q8,vs 10=q10,vs 11=q11
 clear v9
 have f1:=a0d m1 4
 have c1:=a02 m1 4
 have e4:obj (W3.setCell ⟨W.heap.size+1,4,none⟩ (.int .i64 (x.tm+(min o x.off)))) (W.heap.size+1)=some (.cells #[o,uf,x.tm,nf,(x.tm+(min o x.off):Int)] 119 (0,0)):=by rw [a0c,m1];rfl
 have X4:a1x W2.heap.size (fun k=>k=W.heap.size+1) W2 (W3.setCell ⟨W.heap.size+1,4,none⟩ (.int .i64 (x.tm+(min o x.off)))):=⟨hW3.1.os,hW3.1.tape,hW3.1.output,by simp;exact hW3.1.size,fun k hk hn=>(zO _ _ _ _ (by simpa using hn)).trans (hW3.1.block k hk hn)⟩
 repeat'(first|go_skip|go_guarded|go_step|go_upon)
 have hz4:W2.heap.size≤(W3.setCell ⟨W.heap.size+1,4,none⟩ (.int .i64 (x.tm+min o x.off))).heap.size:=X4.size
 clear f1 c1 hW3 m1
 generalize W3.setCell ⟨W.heap.size+1,4,none⟩ (.int .i64 (x.tm+min o x.off))=w4 at *
 have hT:∀ k,T k→W.heap.size+6≤k∧k < q6:=fun k hk=>by have:=h2 k hk;omega
 have alu:a6d W.heap.size (fun _=>False) T W1 W2:=a6d.ofX hX2 (fun k hk h=>⟨hk,fun q=>by
  rcases h with h | h
  ·have:=h.1;omega
  ·have:=hT k h;omega⟩)
 have hB24:a6d W.heap.size (fun _=>False) T W2 w4:=a6d.ofX X4 (fun k hk h=>⟨hk,fun q=>by
  rcases h with h | h
  ·have:=h.1;omega
  ·have:=hT k h;omega⟩)
 have hJ4:=hJ _ _ _ _ (by omega) (alu.trans hB24) h1
 have hK4:a0o R W w4:=⟨by omega,fun k hk hn=>((X4.block k (by omega) (by omega)).trans (hX2.block k (by omega) (by omega))).trans (h4.2 k hk hn)⟩
 have hpc:Zn.pcN z ys cyc e i=some ⟨o,uf,x.tm,nf,x.tm+min o x.off⟩:=by rw [HPC.out,Zn.alj h3,HX.out,HST.out];rfl
 have n6:=X4.obj k6 l6 (by omega)
 have n0:=X4.obj k0 l0 (by omega)
 obtain ⟨fn,tmps,assign,body,hy,hR2⟩:=YieldAt.any (l':=lk) (m:=n - 1 - 1 - 1) (hY T i _ _ w4 hJ4 hpc rfl (by omega) (fun k hk=>by have:=hT k hk;omega))
 (try dsimp only [aa9] at hy)
 have hX24:=X4
 clear hX2 k6 k0 k1 alu hB24 hJ4 h1 h2 h4 h5 h6 X4 hlc hkeep hB2
 have c40:=a02 n0 0
 gi_wp2_with fail
 refine ⟨fun h=>(by cases h),hR2.mono ?_⟩
 have ar9:∀ {W5:World},a0o (fun k=>R k∨T k) w4 W5→a0o (fun k=>(R k∨k=W.heap.size+1)∨V0.heap.size+2≤k) W2 W5:=fun hk5=>⟨by have:=hk5.1;omega,fun k hk hn=>(hk5.2 k (by omega) (fun h=>hn (by
  rcases h with h | h
  ·exact .inl (.inl h)
  ·have:=hT k h
   exact .inr (by omega)))).trans (hX24.block k hk (fun q=>hn (.inl (.inr q))))⟩
 rintro r W5 ⟨T',hg5,hk5,(⟨rfl,hJ5⟩ | ⟨rfl,hZ5⟩)⟩
 ·have hnR:∀ k,W.heap.size≤k→k < W.heap.size+6∨q6≤k→¬ (R k∨T k):=fun k h1 h2 h=>by
   rcases h with h | h
   ·have:=(hR k h).1;omega
   ·have:=hT k h;omega
  have p6:=(hk5.2 q6 (a09 n6) (hnR q6 (by omega) (by omega))).trans n6
  have p0:=(hk5.2 _ (a09 n0) (hnR _ (by omega) (by omega))).trans n0
  have p1:=(hk5.2 _ (a09 e4) (hnR _ (by omega) (by omega))).trans e4
  have z5:=hk5.1
  have hT5:∀ k,T' k→W.heap.size+6≤k∧k < W5.heap.size:=fun k hk=>by
   rcases hg5 k hk with h | h
   ·have:=hT k h;omega
   ·omega
  have hK5:a0o R W W5:=⟨by omega,fun k hk hn=>(hk5.2 k (by omega) (fun h=>by
   rcases h with h | h
   ·exact hn h
   ·have:=hT k h;omega)).trans (hK4.2 k hk hn)⟩
  have pE:obj W5 bE=some (.cells #[e] 3 (0,0)):=(hK5.2 bE lE hER).trans hE0
  have c60:=a02 (show obj W5 q6=_ from p6) 0
  have c61:=a02 (show obj W5 q6=_ from p6) 1
  have cE0:=a02 pE 0
  have c10:=a02 (show obj W5 (W.heap.size+1)=_ from p1) 0
  have p1':obj W5 (W.heap.size+1)=_:=p1
  have p0':obj W5 W.heap.size=_:=p0
  have hKB:=ar9 hk5
  clear p6 p0 p1 hk5 hg5 n6 n0 e4 hK4 c40 hX24 ar9
  by_cases hgt:e < x.tm
  ·gi_wp2_with fail
   exact ⟨hKB,rfl,by omega,T',hT5,.inl ⟨i+1,by rw [HPC.out];exact Zn.amc HX.out hgt,hJ5⟩⟩
  ·have wxa:=zWI (x.tm+max o x.off)
   have hon6:ones #[x.off,x.tm,(0:Int),(x.tm+max o x.off:Int),(0:Int)]=true:=by simp [ones,a0n]
   gi_wp2_with fail
   have hzr:(W5.setRow (W.heap.size+1) #[.int .i64 x.off,.int .i64 x.tm,.int .i64 0,.int .i64 (x.tm+max o x.off),.int .i64 0]).heap.size=W5.heap.size:=by simp
   exact ⟨⟨by rw [hzr];exact hKB.1,fun k hk hn=>(wZ _ _ _ _ (fun q=>hn (.inl (.inr q)))).trans (hKB.2 k hk hn)⟩,T',hJ T' (i+1) W5 _ (by omega) ⟨rfl,rfl,rfl,by rw [hzr];exact zD _,fun k hk h=>wZ _ _ _ _ (fun q=>by
    rcases h with h | h
    ·have:=h.1;omega
    ·have:=hT5 k h;omega)⟩ hJ5,fun k hk=>by rw [hzr];exact hT5 k hk,.inr ⟨x,HX.out,by omega⟩,by rw [hzr];omega,⟨by rw [hzr];exact hK5.1,fun k hk hn=>(wZ _ _ _ _ (by omega)).trans (hK5.2 k hk hn)⟩,a2q p0' (by omega) _,by rw [Zn.akc HX.out,HST.out,a2g,p1'];rfl⟩
 gi_wp2_with fail
 exact ⟨ar9 hk5,rfl,by have:=hk5.1;omega,T',fun k hk=>by
  rcases hg5 k hk with h | h
  ·have:=hT k h
   have:=hk5.1;omega
  ·omega,.inr hZ5⟩
end Go.Proofs.YtppjleebbjipbaaGreat
