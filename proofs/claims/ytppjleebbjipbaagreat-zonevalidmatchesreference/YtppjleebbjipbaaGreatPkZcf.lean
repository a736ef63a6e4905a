/-
  periodic.Canon, where the head goes back less than one turn of the cycle.
-/
import Derived.Test.YtppjleebbjipbaaGreatPkZce
set_option linter.unusedSectionVars false
set_option linter.constructorNameAsVariable false
set_option linter.unusedVariables false
set_option linter.unusedSimpArgs false
namespace Go.Proofs.YtppjleebbjipbaaGreat
open Go.RowKit Go.Shelf
set_option maxRecDepth 20000
set_option maxHeartbeats 8000000
theorem aie {W:World} {base:Nat} {v:Value} {l:List Int} (h:W.ownsRow base 3 1 v l.length (a4m l)):a2c W v l:=by
 refine ⟨(a2o h).2.1,?_⟩
 rcases h.2 with ⟨rfl,h0⟩ | ⟨g,c,cur,rfl,_,_,h3,_⟩
 ·exact ⟨none,0,by rw [h0],by omega⟩
 ·exact ⟨_,c,rfl,h3⟩
theorem a9p {p:Zn.Per} (hp:Zn.ajo p) (hne:p.cycle≠[]) {i0:Nat} (h1:Zn.aq9 p (Zn.a18 p.period p.cycle).1 (Zn.a18 p.period p.cycle).2 i0):a7m p (Zn.a7a p i0):=by
 intro W base hv cv ho1 ho2
 have hh:=aie ho1
 have hc:=aie ho2
 clear ho1 ho2
 have hon:=a4k hh.1.one hc.1.one p.from_ p.period
 have A2:=((Below.refl W.heap.size W).alloc (Nat.le_refl _) (.cells #[hv,.int .i64 p.from_,.int .i64 p.period,cv] 65)).alloc (by simp) (.cells #[.slice none 0 0,.int .i64 0,.int .i64 0,.slice none 0 0] 65)
 have o1:obj ((W.alloc (.cells #[hv,.int .i64 p.from_,.int .i64 p.period,cv] 65)).alloc (.cells #[.slice none 0 0,.int .i64 0,.int .i64 0,.slice none 0 0] 65)) W.heap.size=some (.cells #[hv,.int .i64 p.from_,.int .i64 p.period,cv] 65 (0,0)):=a06 (a05 _ _ _ rfl) _
 have o2:obj ((W.alloc (.cells #[hv,.int .i64 p.from_,.int .i64 p.period,cv] 65)).alloc (.cells #[.slice none 0 0,.int .i64 0,.int .i64 0,.slice none 0 0] 65)) (W.heap.size+1)=some (.cells #[.slice none 0 0,.int .i64 0,.int .i64 0,.slice none 0 0] 65 (0,0)):=a05 _ _ _ (by simp)
 have hz2:((W.alloc (.cells #[hv,.int .i64 p.from_,.int .i64 p.period,cv] 65)).alloc (.cells #[.slice none 0 0,.int .i64 0,.int .i64 0,.slice none 0 0] 65)).heap.size=W.heap.size+2:=by simp
 have HV:=Lib.hid (adf hp (hh.1.below A2) (hc.1.below A2))
 have HC:=Lib.hid (fun (Wq:World) (hq:Below W.heap.size W Wq)=>af7 hp hne h1 (hh.below hq) (hc.below hq))
 clear hh hc h1
 generalize Zn.a7a p i0=q at *
 go_enter Tryz.func37,Tryz.ntmps37
 repeat' (first | (go_at_call 76;((with_reducible refine (HV.out).mono ?_));rintro e w5 ⟨rfl,hB5⟩;have p1:=a0a o1 hB5;have p2:=a0a o2 hB5;have hB6:=A2.trans (hB5.mono (by omega));have HC5:=Lib.hid (HC.out _ hB6);have hz5:=hB5.size;dsimp only) | (go_at_call 77;((with_reducible refine (HC5.out).mono ?_));rintro e w7 ⟨⟨hw,cw,rfl,hhw,hcw⟩,hB7⟩;have r2:=a0a p2 hB7;have hB8:=hB6.trans (hB7.mono (by omega));have hon7:=a4k hhw.one hcw.one q.from_ q.period;have f2:=a0d r2 0;dsimp only)|go_skip|go_guarded|go_step|go_upon)
 have hki:∀ b row fr,obj w7 b=some (.cells row 3 fr)→obj (w7.setRow (W.heap.size+1) #[hw,.int .i64 q.from_,.int .i64 q.period,cw]) b=some (.cells row 3 fr):=fun b row fr hb=>(setRow_other _ _ _ _ (fun e=>by subst e;rw [r2] at hb;cases hb)).trans hb
 have z2:(w7.setRow (W.heap.size+1) #[hw,.int .i64 q.from_,.int .i64 q.period,cw]).heap[W.heap.size+1]? = some (.cells #[hw,.int .i64 q.from_,.int .i64 q.period,cw] 65 (0,0)):=by
  have h:obj (w7.setRow (W.heap.size+1) #[hw,.int .i64 q.from_,.int .i64 q.period,cw]) (W.heap.size+1)=some (.cells #[hw,.int .i64 q.from_,.int .i64 q.period,cw] 65 (0,0)):=by rw [a2g,r2];rfl
  exact h
 refine bodyPost_ret (a0q rfl _ _ (W.heap.size+1) 65 _ (0,0) _ _ rfl z2 Tryz.underlying65 rfl (by kernel_rfl) rfl) rfl ?_
 exact ⟨⟨hw,cw,_,rfl,hhw.keep hki,hcw.keep hki⟩,⟨hB8.os,hB8.tape,hB8.output,by simpa using hB8.size,fun k hk=>(setRow_other _ _ _ _ (by omega)).trans (hB8.block k hk)⟩⟩
end Go.Proofs.YtppjleebbjipbaaGreat
