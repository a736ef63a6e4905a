/-
  periodic.canon of a set without a cycle; periodic.Canon of any valid set.
-/
import Derived.Test.YtppjleebbjipbaaGreatQkZva
import Derived.Test.YtppjleebbjipbaaGreatQkZcg
set_option linter.all false
namespace Zn
noncomputable def canonP (p:Per):Per:=if p.cycle = [] then ⟨p.head,(if 0 < p.head.length then p.head.getD (p.head.length - 1) 0+1 else 0),1,[]⟩ else canonQ p (Classical.choose (stopQ_ex p (a18 p.period p.cycle).1 (a18 p.period p.cycle).2))
def NeedC (p:Per):Prop:=p.cycle≠[]∧(0 < Classical.choose (stopQ_ex p (a18 p.period p.cycle).1 (a18 p.period p.cycle).2)∨(a18 p.period p.cycle).2≠p.cycle)
end Zn
namespace Go.Proofs.YtppjleebbjipbaaGreat
open Go.RowKit Go.Shelf
attribute [local go_sem] Oper.semAt_some
set_option maxRecDepth 100000
set_option maxHeartbeats 8000000
theorem canonE_calls {W:World} {hv cv:Value} {p:Zn.Per} (hp:Zn.ajo p) (hce:p.cycle = []) (hh:a1s W hv p.head) (hc:a1s W cv p.cycle) :
  Calls Tryz.prog 77 #[.agg #[hv,p.from_,p.period,cv]] W fun e w'=>(∃ hw cw,e=.returned (.agg #[hw,.int .i64 (Zn.canonP p).from_,.int .i64 (Zn.canonP p).period,cw])∧a2t w' hw (Zn.canonP p).head∧a2t w' cw (Zn.canonP p).cycle)∧Below W W w':=by
 have HCP:Hid (Zn.canonP p=⟨p.head,(if 0 < p.head.length then p.head.getD (p.head.length - 1) 0+1 else 0),1,[]⟩):=zA (by unfold Zn.canonP;rw [zQ hce])
 have hhb:=Zn.a3s hp.h
 have hn:=hp.n
 have hf1:=hp.f1
 obtain ⟨ah,ch,rfl,_⟩:=id hh
 obtain ⟨ac,cc,rfl,_⟩:=id hc
 have hl0:p.cycle.length=0:=by rw [hce];rfl
 rw [hl0]
 have hon:=a4k (h:=.slice ah p.head.length ch) (c:=.slice ac 0 cc) rfl rfl p.from_ p.period
 have o0:obj (((W.alloc (.cells #[.slice ah p.head.length ch,p.from_,p.period,.slice ac 0 cc] 65)).alloc (.cells #[.slice none 0 0,(0:Int),(0:Int),.slice none 0 0] 65)).alloc (.cells #[.slice ah p.head.length ch] 28)) W.heap.size=some (.cells #[.slice ah p.head.length ch,p.from_,p.period,.slice ac 0 cc] 65 (0,0)):=a06 (a06 (a05 _ _ _ rfl) _) _
 have o1:obj (((W.alloc (.cells #[.slice ah p.head.length ch,p.from_,p.period,.slice ac 0 cc] 65)).alloc (.cells #[.slice none 0 0,(0:Int),(0:Int),.slice none 0 0] 65)).alloc (.cells #[.slice ah p.head.length ch] 28)) (W.heap.size+1)=some (.cells #[.slice none 0 0,(0:Int),(0:Int),.slice none 0 0] 65 (0,0)):=a06 (a05 _ _ _ (by simp)) _
 have o2:obj (((W.alloc (.cells #[.slice ah p.head.length ch,p.from_,p.period,.slice ac 0 cc] 65)).alloc (.cells #[.slice none 0 0,(0:Int),(0:Int),.slice none 0 0] 65)).alloc (.cells #[.slice ah p.head.length ch] 28)) (W.heap.size+2)=some (.cells #[.slice ah p.head.length ch] 28 (0,0)):=a05 _ _ _ (by simp)
 have hB3:Below W W (((W.alloc (.cells #[.slice ah p.head.length ch,p.from_,p.period,.slice ac 0 cc] 65)).alloc (.cells #[.slice none 0 0,(0:Int),(0:Int),.slice none 0 0] 65)).alloc (.cells #[.slice ah p.head.length ch] 28)):=((bR.alloc (zD _) _).alloc (by simp) _).alloc (by simp;omega) _
 have hz3:(((W.alloc (.cells #[.slice ah p.head.length ch,p.from_,p.period,.slice ac 0 cc] 65)).alloc (.cells #[.slice none 0 0,(0:Int),(0:Int),.slice none 0 0] 65)).alloc (.cells #[.slice ah p.head.length ch] 28)).heap.size=W.heap.size+3:=by simp
 have HHD:=zA hh
 have HCL:=zA (af6 (hh.below hB3) (by omega))
 clear hh hc hp hce hl0
 refine (wW (n:=8)).1 ?_
 refine callsIn_of_wp_marks Tryz.func77 rfl trivial ?_
 refine wpIn_wide.2 ?_
 simp only [Tryz.ntmps77,xJ,yS,xI,Nat.reduceAdd,Nat.reduceSub,xZ,xY,wK,wE,wO,xK]
 have c0:=a02 o0 0
 have c3:=a02 o0 3
 repeat'(first|go_skip|go_guarded|go_step|go_upon)
 refine wp_scope_straight ?_
 by_cases h0:0 < p.head.length;rotate_left
 ·have t0 : ¬ (0:Int) < (p.head.length:Int):=by omega
  rw [zS h0] at HCP
  repeat' ((go_not_at_region 4);(first | (go_at_call 117;((with_reducible refine (HCL.out).mono ?_));rintro e w7 ⟨⟨hw,rfl,hhw⟩,hB7⟩;have y0:=a0a o1 hB7;have y2:=a0a o2 hB7;obtain ⟨xa,xc,hx1,_⟩:=id hhw;subst hx1;dsimp only)|go_skip|go_guarded|go_step|go_upon))
  have hz7:=hB7.size
  have A8:=(zC w7.heap.size w7).alloc (zD _) (.cells #[.slice xa p.head.length xc,(0:Int),(1:Int),.slice none 0 0] 65)
  have x8:obj (w7.alloc (.cells #[.slice xa p.head.length xc,(0:Int),(1:Int),.slice none 0 0] 65)) w7.heap.size=some (.cells #[.slice xa p.head.length xc,(0:Int),(1:Int),.slice none 0 0] 65 (0,0)):=a05 _ _ _ rfl
  have y8:=a0a y0 A8
  have y28:=a0a y2 A8
  have hB9:=(hB3.trans (hB7.mono (by omega))).trans (A8.mono (by omega))
  have c2:=a02 y28 0
  have HKI:Hid (∀ b row fr,obj w7 b=some (.cells row 3 fr)→obj (w7.alloc (.cells #[.slice xa p.head.length xc,(0:Int),(1:Int),.slice none 0 0] 65)) b=some (.cells row 3 fr)):=zA (fun b row fr hb=>a0a hb A8)
  clear A8 c0 c3 o0 o1 o2
  generalize (w7.alloc (.cells #[.slice xa p.head.length xc,(0:Int),(1:Int),.slice none 0 0] 65))=w9 at *
  have hon9:=a4k (h:=.slice xa p.head.length xc) (c:=.slice none 0 0) rfl rfl (0:Int) 1
  repeat'(first|go_skip|go_guarded|go_step|go_upon)
  have z1:obj (w9.setRow (W.heap.size+1) #[.slice xa p.head.length xc,.int .i64 0,.int .i64 1,.slice none 0 0]) (W.heap.size+1)=some (.cells #[.slice xa p.head.length xc,(0:Int),(1:Int),.slice none 0 0] 65 (0,0)):=by rw [a2g,y8];rfl
  have hki:∀ b row fr,obj w7 b=some (.cells row 3 fr)→obj (w9.setRow (W.heap.size+1) #[.slice xa p.head.length xc,.int .i64 0,.int .i64 1,.slice none 0 0]) b=some (.cells row 3 fr):=fun b row fr hb=>(wZ _ _ _ _ (fun e=>by subst e;rw [show obj w7 (W.heap.size+1)=_ from y0] at hb;cases hb)).trans (HKI.out b row fr hb)
  have hBr:Below W W (w9.setRow (W.heap.size+1) #[.slice xa p.head.length xc,.int .i64 0,.int .i64 1,.slice none 0 0]):=⟨hB9.os,hB9.tape,hB9.output,by simpa using hB9.size,fun k hk=>(wZ _ _ _ _ (by omega)).trans (hB9.block k hk)⟩
  refine ⟨_,a1e rfl _ _ (W.heap.size+1) 65 _ (0,0) _ rfl z1 Tryz.underlying65 rfl (by kernel_rfl),⟨.slice xa p.head.length xc,.slice none 0 0,by rw [HCP.out],by rw [HCP.out];exact hhw.keep hki,by rw [HCP.out];exact ⟨none,0,rfl,fun h=>(by cases h)⟩⟩,hBr⟩
 have t0:(0:Int) < (p.head.length:Int):=by omega
 rw [zQ h0] at HCP
 repeat' ((go_not_at_region 4);(first | (go_at_call 117;((with_reducible refine (HCL.out).mono ?_));rintro e w7 ⟨⟨hw,rfl,hhw⟩,hB7⟩;have y0:=a0a o1 hB7;have y2:=a0a o2 hB7;obtain ⟨xa,xc,hx1,_⟩:=id hhw;subst hx1;dsimp only)|go_skip|go_guarded|go_step|go_upon))
 have hz7:=hB7.size
 have A8:=(zC w7.heap.size w7).alloc (zD _) (.cells #[.slice xa p.head.length xc,(0:Int),(1:Int),.slice none 0 0] 65)
 have x8:obj (w7.alloc (.cells #[.slice xa p.head.length xc,(0:Int),(1:Int),.slice none 0 0] 65)) w7.heap.size=some (.cells #[.slice xa p.head.length xc,(0:Int),(1:Int),.slice none 0 0] 65 (0,0)):=a05 _ _ _ rfl
 have y8:=a0a y0 A8
 have y28:=a0a y2 A8
 have hB8:=(hB3.trans (hB7.mono (by omega))).trans (A8.mono (by omega))
 have lg:W.heap.size+3≤w7.heap.size:=by omega
 have HW7:=zA A8
 clear A8 c0 c3 o0 o1 o2
 generalize (w7.alloc (.cells #[.slice xa p.head.length xc,(0:Int),(1:Int),.slice none 0 0] 65))=w8 at *
 generalize hg7:w7.heap.size=g at *
 have HG7:=zA hg7
 clear hg7
 obtain ⟨lst,hlst⟩ : ∃ x,p.head.getD (p.head.length - 1) 0=x:=⟨_,rfl⟩
 have hlb:=hhb (p.head.getD (p.head.length - 1) 0) (by rw [zB,zK (by omega)];exact yT _)
 obtain ⟨ao,c',e1,e2⟩:=HHD.out
 injection e1 with e1 _ e3
 subst e1 e3
 obtain ⟨hb,ho,hrow,T,fr,rfl,r1,r2⟩:=e2 h0
 have ce:=(a02 (a0a r1 hB8) (ho+(p.head.length - 1))).trans (r2 (p.head.length - 1) (by omega))
 rw [hlst] at ce hlb HCP
 have c2:=a02 y28 0
 have cx:=a02 x8 1
 have fx:=a0d x8 1
 have wl:IntKind.wrap .i64 ((p.head.length:Int) - 1)=((p.head.length - 1:Nat):Int):=by rw [wrap_in]<;>omega
 have i1:((p.head.length - 1:Nat):Int) < (p.head.length:Int):=by omega
 have i2 : ¬ ((p.head.length - 1:Nat):Int) < 0:=by omega
 have wl1:=zWI (lst+1)
 clear hlst e2 r1 r2
 repeat' ((go_not_at_region 6);(first|go_skip|go_guarded|go_step|go_upon))
 have x9:obj (w8.setCell ⟨g,1,none⟩ (.int .i64 (lst+1))) g=some (.cells #[.slice xa p.head.length xc,(lst+1:Int),(1:Int),.slice none 0 0] 65 (0,0)):=by rw [a0c,x8];rfl
 have y9:obj (w8.setCell ⟨g,1,none⟩ (.int .i64 (lst+1))) (W.heap.size+1)=some (.cells #[.slice none 0 0,(0:Int),(0:Int),.slice none 0 0] 65 (0,0)):=a07 y8 _ (show W.heap.size+1≠g by omega) _
 have hB9:=hB8.setCell (show W.heap.size≤(⟨g,1,none⟩:Addr).block by show W.heap.size≤g;omega) (.int .i64 (lst+1))
 have HKI:Hid (∀ b row fr,obj w7 b=some (.cells row 3 fr)→obj (w8.setCell ⟨g,1,none⟩ (.int .i64 (lst+1))) b=some (.cells row 3 fr)):=zA (fun b row fr hb=>(zO _ _ _ _ (fun e=>by have:=a09 hb;have:=HG7.out;have e:b=g:=e;omega)).trans (a04 hb HW7.out (by have:=a09 hb;have:=HG7.out;omega)))
 clear cx fx x8 y8 c2 ce
 generalize w8.setCell ⟨g,1,none⟩ (.int .i64 (lst+1))=w9 at *
 have hon9:=a4k (h:=.slice xa p.head.length xc) (c:=.slice none 0 0) rfl rfl (lst+1) 1
 repeat'(first|go_skip|go_guarded|go_step|go_upon)
 have z1:obj (w9.setRow (W.heap.size+1) #[.slice xa p.head.length xc,.int .i64 (lst+1),.int .i64 1,.slice none 0 0]) (W.heap.size+1)=some (.cells #[.slice xa p.head.length xc,(lst+1:Int),(1:Int),.slice none 0 0] 65 (0,0)):=by rw [a2g,y9];rfl
 have hki:∀ b row fr,obj w7 b=some (.cells row 3 fr)→obj (w9.setRow (W.heap.size+1) #[.slice xa p.head.length xc,.int .i64 (lst+1),.int .i64 1,.slice none 0 0]) b=some (.cells row 3 fr):=fun b row fr hb=>(wZ _ _ _ _ (fun e=>by subst e;rw [show obj w7 (W.heap.size+1)=_ from y0] at hb;cases hb)).trans (HKI.out b row fr hb)
 have hBr:Below W W (w9.setRow (W.heap.size+1) #[.slice xa p.head.length xc,.int .i64 (lst+1),.int .i64 1,.slice none 0 0]):=⟨hB9.os,hB9.tape,hB9.output,by simpa using hB9.size,fun k hk=>(wZ _ _ _ _ (by omega)).trans (hB9.block k hk)⟩
 refine ⟨_,a1e rfl _ _ (W.heap.size+1) 65 _ (0,0) _ rfl z1 Tryz.underlying65 rfl (by kernel_rfl),⟨.slice xa p.head.length xc,.slice none 0 0,by rw [HCP.out],by rw [HCP.out];exact hhw.keep hki,by rw [HCP.out];exact ⟨none,0,rfl,fun h=>(by cases h)⟩⟩,hBr⟩
theorem canonP_calls {W:World} {hv cv:Value} {p:Zn.Per} (hp:Zn.ajo p) (hh:a1s W hv p.head) (hc:a1s W cv p.cycle) (hn:Zn.NeedC p→a2c W hv p.head∧a2c W cv p.cycle) :
  Calls Tryz.prog 77 #[.agg #[hv,p.from_,p.period,cv]] W fun e w'=>(∃ hw cw,e=.returned (.agg #[hw,.int .i64 (Zn.canonP p).from_,.int .i64 (Zn.canonP p).period,cw])∧a2t w' hw (Zn.canonP p).head∧a2t w' cw (Zn.canonP p).cycle)∧Below W W w':=by
 by_cases hce:p.cycle = []
 ·exact canonE_calls hp hce hh hc
 have h:=canonQ_calls hp hce (Classical.choose_spec (Zn.stopQ_ex p (Zn.a18 p.period p.cycle).1 (Zn.a18 p.period p.cycle).2)).2 hh (fun h=>(hn ⟨hce,.inl h⟩).1) hc (fun h=>(hn ⟨hce,.inr h⟩).2)
 rw [show Zn.canonP p=Zn.canonQ p (Classical.choose (Zn.stopQ_ex p (Zn.a18 p.period p.cycle).1 (Zn.a18 p.period p.cycle).2)) by unfold Zn.canonP;rw [zS hce]]
 exact h
theorem canonF_calls {W:World} {hv cv:Value} {p:Zn.Per} (hp:Zn.ajo p) (hh:a1s W hv p.head) (hc:a1s W cv p.cycle) (hn:Zn.NeedC p→a2c W hv p.head∧a2c W cv p.cycle) :
  Calls Tryz.prog 37 #[.agg #[hv,p.from_,p.period,cv]] W fun e w'=>(∃ hw cw,e=.returned (.tuple #[.agg #[hw,.int .i64 (Zn.canonP p).from_,.int .i64 (Zn.canonP p).period,cw],.int .i64 0])∧a2t w' hw (Zn.canonP p).head∧a2t w' cw (Zn.canonP p).cycle)∧Below W W w':=by
 have hon:=a4k hh.one hc.one p.from_ p.period
 have A2:=((zC W.heap.size W).alloc (zD _) (.cells #[hv,p.from_,p.period,cv] 65)).alloc (by simp) (.cells #[.slice none 0 0,(0:Int),(0:Int),.slice none 0 0] 65)
 have o1:obj ((W.alloc (.cells #[hv,p.from_,p.period,cv] 65)).alloc (.cells #[.slice none 0 0,(0:Int),(0:Int),.slice none 0 0] 65)) W.heap.size=some (.cells #[hv,p.from_,p.period,cv] 65 (0,0)):=a06 (a05 _ _ _ rfl) _
 have o2:obj ((W.alloc (.cells #[hv,p.from_,p.period,cv] 65)).alloc (.cells #[.slice none 0 0,(0:Int),(0:Int),.slice none 0 0] 65)) (W.heap.size+1)=some (.cells #[.slice none 0 0,(0:Int),(0:Int),.slice none 0 0] 65 (0,0)):=a05 _ _ _ (by simp)
 have hz2:((W.alloc (.cells #[hv,p.from_,p.period,cv] 65)).alloc (.cells #[.slice none 0 0,(0:Int),(0:Int),.slice none 0 0] 65)).heap.size=W.heap.size+2:=by simp
 have HV:=zA (adf hp (hh.below A2) (hc.below A2))
 have HC:=zA (fun (Wq:World) (hq:Below W W Wq)=>canonP_calls hp (hh.below hq) (hc.below hq) (fun h=>⟨(hn h).1.below hq,(hn h).2.below hq⟩))
 clear hh hc hn
 generalize Zn.canonP p=q at *
 go_enter Tryz.func37,Tryz.ntmps37
 repeat' (first | (go_at_call 76;((with_reducible refine (HV.out).mono ?_));rintro e w5 ⟨rfl,hB5⟩;have p1:=a0a o1 hB5;have p2:=a0a o2 hB5;have hB6:=A2.trans (hB5.mono (by omega));have HC5:=zA (HC.out _ hB6);have hz5:=hB5.size;dsimp only) | (go_at_call 77;((with_reducible refine (HC5.out).mono ?_));rintro e w7 ⟨⟨hw,cw,rfl,hhw,hcw⟩,hB7⟩;have r2:=a0a p2 hB7;have hB8:=hB6.trans (hB7.mono (by omega));have hon7:=a4k hhw.one hcw.one q.from_ q.period;have f2:=a0d r2 0;dsimp only)|go_skip|go_guarded|go_step|go_upon)
 have hki:∀ b row fr,obj w7 b=some (.cells row 3 fr)→obj (w7.setRow (W.heap.size+1) #[hw,.int .i64 q.from_,.int .i64 q.period,cw]) b=some (.cells row 3 fr):=fun b row fr hb=>(wZ _ _ _ _ (fun e=>by subst e;rw [r2] at hb;cases hb)).trans hb
 have z2:(w7.setRow (W.heap.size+1) #[hw,.int .i64 q.from_,.int .i64 q.period,cw]).heap[W.heap.size+1]? = some (.cells #[hw,q.from_,q.period,cw] 65 (0,0)):=by
  have h:obj (w7.setRow (W.heap.size+1) #[hw,.int .i64 q.from_,.int .i64 q.period,cw]) (W.heap.size+1)=some (.cells #[hw,q.from_,q.period,cw] 65 (0,0)):=by rw [a2g,r2];rfl
  exact h
 refine yO (a0q rfl _ _ (W.heap.size+1) 65 _ (0,0) _ _ rfl z2 Tryz.underlying65 rfl (by kernel_rfl) rfl) rfl ?_
 exact ⟨⟨hw,cw,rfl,hhw.keep hki,hcw.keep hki⟩,⟨hB8.os,hB8.tape,hB8.output,by simpa using hB8.size,fun k hk=>(wZ _ _ _ _ (by omega)).trans (hB8.block k hk)⟩⟩
theorem canonP_at {p:Zn.Per} (hp:Zn.ajo p):a7m p (Zn.canonP p):=by
 intro W base hv cv ho1 ho2
 have hh:=aie ho1
 have hc:=aie ho2
 refine (canonF_calls hp hh.1 hc.1 (fun _=>⟨hh,hc⟩)).mono ?_
 rintro e w ⟨⟨hw,cw,rfl,h1,h2⟩,hB⟩
 exact ⟨⟨hw,cw,_,rfl,h1,h2⟩,hB⟩
end Go.Proofs.YtppjleebbjipbaaGreat
namespace Zn
def hasP (p:Per) (d:Int):Bool:=if d < p.from_ then decide (d∈p.head) else decide ((d - p.from_) % p.period∈p.cycle)
theorem risB_at {lim last:Int} {l:List Int} (h:aa4 lim last l=true) {i j:Nat} (hij:i < j) (hj:j < l.length):l.getD i 0 < l.getD j 0:=by
 have:=wH.1 (aa3 h) i j (by omega) hj hij
 rw [zB,zB,zK hj,zK (by omega)]
 exact this
end Zn
namespace Go.Proofs.YtppjleebbjipbaaGreat
open Go.RowKit Go.Shelf
set_option maxRecDepth 20000
set_option maxHeartbeats 8000000
theorem nan1_calls (w:World) (n:Int):Calls Tryz.prog 143 #[.int .i64 n] w fun e w'=>e=.returned (.bool false)∧w=w':=by
 have e1:(n != n)=false:=bne_self_eq_false n
 go_enter Tryz.func143,Tryz.ntmps143
 repeat'(first|go_skip|go_guarded|go_step|go_upon)
 go_ret
 exact ⟨rfl,rfl⟩
theorem nan2_calls (w:World) (n:Int):Calls Tryz.prog 150 #[.int .i64 n] w fun e w'=>e=.returned (.bool false)∧w=w':=by
 have e1:(n != n)=false:=bne_self_eq_false n
 go_enter Tryz.func150,Tryz.ntmps150
 repeat'(first|go_skip|go_guarded|go_step|go_upon)
 go_ret
 exact ⟨rfl,rfl⟩
theorem less_calls (w:World) (a b:Int):Calls Tryz.prog 149 #[.int .i64 a,.int .i64 b] w fun e w'=>e=.returned (.bool (decide (a < b)))∧w=w':=by
 have HA:=zA (nan1_calls w a)
 have HB:=zA (nan1_calls w b)
 go_enter Tryz.func149,Tryz.ntmps149
 by_cases hab:a < b
 ·have e1:decide (a < b)=true:=zV hab
  repeat' (first | (go_at_call 143;((with_reducible refine (HA.out).mono ?_));rintro e w5 ⟨rfl,rfl⟩;dsimp only) | (go_at_call 143;((with_reducible refine (HB.out).mono ?_));rintro e w6 ⟨rfl,rfl⟩;dsimp only)|go_skip|go_guarded|go_step|go_upon)
  go_ret
  exact ⟨by rw [e1];rfl,rfl⟩
 have e1:decide (a < b)=false:=zW hab
 repeat' (first | (go_at_call 143;((with_reducible refine (HA.out).mono ?_));rintro e w5 ⟨rfl,rfl⟩;dsimp only) | (go_at_call 143;((with_reducible refine (HB.out).mono ?_));rintro e w6 ⟨rfl,rfl⟩;dsimp only)|go_skip|go_guarded|go_step|go_upon)
 go_ret
 exact ⟨by rw [e1];rfl,rfl⟩
theorem bs_calls {W:World} {v:Value} {l:List Int} {x:Int} (hv:a1s W v l∧∀ i j,i < j→j < l.length→l.getD i 0 < l.getD j 0) (hl:l.length≤1000000000) :
  Calls Tryz.prog 120 #[v,.int .i64 x] W fun e w'=>(∃ i:Int,e=.returned (.tuple #[.int .i64 i,.bool (decide (x∈l))]))∧Below W W w':=by
 obtain ⟨hv,hs⟩:=hv
 obtain ⟨a,c,rfl,hq⟩:=hv
 have HQ:=zA hq
 have HS:=zA hs
 clear hq hs
 go_enter Tryz.func120,Tryz.ntmps120
 repeat'(first|go_skip|go_guarded|go_step|go_upon)
 go_loopw [7,8] (fun u y wr => ∃ i j:Nat,i≤j∧j≤l.length∧u=.int .i64 i∧y=.int .i64 j∧(∀ q,q < i→l.getD q 0 < x)∧(∀ q,j≤q→q < l.length→x≤l.getD q 0)∧Below W W wr) (fun u y _=>(intOf y - intOf u).toNat)
 case atStart=>exact ⟨0,l.length,by omega,by omega,rfl,rfl,fun q hq=>absurd hq (yA q),fun q h1 h2=>absurd h1 (by omega),zC _ _⟩
 obtain ⟨i,j,hij,hj,rfl,rfl,hlo,hhi,hB⟩:=hrel
 have HLO:=zA hlo
 have HHI:=zA hhi
 clear hlo hhi
 by_cases hlt:i < j
 ·have i1:(i:Int) < (j:Int):=by omega
  obtain ⟨m,hm⟩ : ∃ m,(i+j) / 2=m:=⟨_,rfl⟩
  have hm1:i≤m:=by omega
  have hm2:m < j:=by omega
  have w0:=zWI ((i:Int)+(j:Int))
  have w1:IntKind.wrap .u64 ((i:Int)+(j:Int))=(i:Int)+(j:Int):=by rw [IntKind.wrap_u64];omega
  obtain ⟨b,o,row,T,fr,rfl,q1,q2⟩:=HQ.out (by omega)
  have k2:=q2 m (by omega)
  have hbw:=a04 q1 hB (a09 q1)
  have HML:=zA (fun q (h:q < m)=>HS.out q m h (by omega))
  have HMH:=zA (fun q (h:m < q) (h2:q < l.length)=>HS.out m q h h2)
  obtain ⟨y,hy⟩ : ∃ y,l.getD m 0=y:=⟨_,rfl⟩
  have HY:=zA hy
  rw [hy] at k2 HML HMH
  have e0:=(a02 hbw (o+m)).trans k2
  have hm3:((i:Int)+(j:Int)) / 2=(m:Int):=by omega
  have i5:(m:Int) < (l.length:Int):=by omega
  have HLS:=zA (less_calls wr y x)
  clear q1 q2 hy k2
  by_cases hx:y < x
  ·have HX:=zA hx
   rw [zV hx] at HLS;clear hx
   repeat' (first | (go_at_call 149;((with_reducible refine (HLS.out).mono ?_));rintro e w5 ⟨rfl,rfl⟩;dsimp only)|go_skip|go_guarded|go_step|go_upon)
   exact ⟨⟨m+1,j,by omega,by omega,by simp,rfl,fun q hq=>(zU q m).elim (fun h=>by have:=HML.out q h;have:=HX.out;omega) (fun h=>by rw [show q=m by omega,HY.out];exact HX.out),HHI.out,hB⟩,by simp [intOf];omega⟩
  have HX:=zA hx
  rw [zW hx] at HLS
  clear hx
  repeat' (first | (go_at_call 149;((with_reducible refine (HLS.out).mono ?_));rintro e w5 ⟨rfl,rfl⟩;dsimp only)|go_skip|go_guarded|go_step|go_upon)
  exact ⟨⟨i,m,by omega,by omega,rfl,rfl,HLO.out,fun q h1 h2=>(zU m q).elim (fun h=>by have:=HMH.out q h h2;have:=HX.out;omega) (fun h=>by rw [show q=m by omega,HY.out];have:=HX.out;omega),hB⟩,by simp [intOf];omega⟩
 have i1 : ¬ (i:Int) < (j:Int):=by omega
 obtain rfl:i=j:=by omega
 have HME:Hid (x∈l↔i < l.length∧l.getD i 0=x):=zA ⟨fun h=>by
  obtain ⟨q,hq,e⟩:=List.getElem_of_mem h
  have e2:l.getD q 0=x:=by rw [zB,zK hq];exact e
  rcases zU q i with h1 | h1
  ·have:=HLO.out q h1;omega
  ·rcases Nat.eq_or_lt_of_le h1 with h2 | h2
   ·rw [h2];exact ⟨hq,e2⟩
   ·have h3:=HHI.out i (zD _) (by omega)
    have h4:=HS.out i q h2 hq
    omega,fun ⟨h1,h2⟩=>by
  rw [← h2,zB,zK h1]
  exact yT h1⟩
 have HN:=zA (nan2_calls wr x)
 by_cases hin:i < l.length;rotate_left
 ·have i2 : ¬ (i:Int) < (l.length:Int):=by omega
  have HR:=zA (zW (p:=x∈l) (fun h=>hin (HME.out.1 h).1))
  clear HME
  repeat'(first|go_skip|go_guarded|go_step|go_upon)
  go_returns
  exact ⟨⟨i,by rw [HR.out];rfl⟩,hB⟩
 have i2:(i:Int) < (l.length:Int):=by omega
 obtain ⟨b,o,row,T,fr,rfl,q1,q2⟩:=HQ.out (by omega)
 have k2:=q2 i hin
 have hbw:=a04 q1 hB (a09 q1)
 obtain ⟨y,hy⟩ : ∃ y,l.getD i 0=y:=⟨_,rfl⟩
 rw [hy] at k2 HME
 have e0:=(a02 hbw (o+i)).trans k2
 have HNY:=zA (nan2_calls wr y)
 clear q1 q2 hy k2
 by_cases hxy:y=x
 ·have HR:=zA (zV (HME.out.2 ⟨hin,hxy⟩))
  subst hxy
  clear HME
  repeat'(first|go_skip|go_guarded|go_step|go_upon)
  go_returns
  exact ⟨⟨i,by rw [HR.out];rfl⟩,hB⟩
 have HR:=zA (zW (p:=x∈l) (fun h=>hxy (HME.out.1 h).2))
 have e9:(y == x)=false:=by simpa using hxy
 clear HME hxy
 repeat' (first | (go_at_call 150;((with_reducible refine (HNY.out).mono ?_));rintro e w6 ⟨rfl,rfl⟩;dsimp only)|go_skip|go_guarded|go_step|go_upon)
 go_returns
 exact ⟨⟨i,by rw [HR.out];rfl⟩,hB⟩
theorem member_calls {W:World} {hv cv:Value} {p:Zn.Per} (hp:Zn.ajo p) (hh:a1s W hv p.head) (hc:a1s W cv p.cycle) {d:Int} (d0:0≤d) (d1:d≤1099511627776) :
  Calls Tryz.prog 79 #[.agg #[hv,p.from_,p.period,cv],.int .i64 d] W fun e w'=>e=.returned (.bool (Zn.hasP p d))∧Below W W w':=by
 have hon:=a4k hh.one hc.one p.from_ p.period
 have w1B:Below W W (W.alloc (.cells #[hv,p.from_,p.period,cv] 65)):=bR.alloc (zD _) _
 have o0:obj (W.alloc (.cells #[hv,p.from_,p.period,cv] 65)) W.heap.size=some (.cells #[hv,p.from_,p.period,cv] 65 (0,0)):=a05 _ _ _ rfl
 have hn:=hp.n
 have f0:=hp.f0
 have f1:=hp.f1
 have p0:=hp.p0
 have p1:=hp.p1
 have HH:=zA (fun (Wq:World) (hq:Below W W Wq)=>And.intro (hh.below hq) (fun i j (hij:i < j) (hj:j < p.head.length)=>Zn.risB_at hp.h hij hj))
 have HC:=zA (fun (Wq:World) (hq:Below W W Wq)=>And.intro (hc.below hq) (fun i j (hij:i < j) (hj:j < p.cycle.length)=>Zn.risB_at hp.c hij hj))
 have c0:=a02 o0 0
 have c1:=a02 o0 1
 clear hh hc hp
 go_enter Tryz.func79,Tryz.ntmps79
 by_cases hd:d < p.from_
 ·have HR:Hid (Zn.hasP p d=decide (d∈p.head)):=zA (by unfold Zn.hasP;rw [zQ hd])
  have t0 : ¬ p.from_≤d:=by omega
  have hBq:=w1B
  have HBS:=zA (bs_calls (x:=d) (HH.out _ w1B) (by omega))
  repeat' (first | (go_at_call 120;((with_reducible refine (HBS.out).mono ?_));rintro e w6 ⟨⟨ii,rfl⟩,hB6⟩;have hB7:=hBq.trans (hB6.mono hBq.size);dsimp only)|go_skip|go_guarded|go_step|go_upon)
  go_ret
  exact ⟨by rw [HR.out];rfl,hB7⟩
 have HR:Hid (Zn.hasP p d=decide ((d - p.from_) % p.period∈p.cycle)):=zA (by unfold Zn.hasP;rw [zS hd])
 have t0:p.from_≤d:=by omega
 have c2:=a02 o0 2
 have c3:=a02 o0 3
 have ws:=zWI (d - p.from_)
 have wt:Int.tmod (d - p.from_) p.period=(d - p.from_) % p.period:=yE (by omega)
 have hm0:=wP (d - p.from_) (show p.period≠0 by omega)
 have hm1:=vJ (d - p.from_) (show 0 < p.period by omega)
 have wm:=zWI ((d - p.from_) % p.period)
 have g0:p.period≠0:=by omega
 repeat' ((go_not_at_region 3);(first|go_skip|go_guarded|go_step|go_upon))
 obtain ⟨r,hr⟩ : ∃ r,(d - p.from_) % p.period=r:=⟨_,rfl⟩
 rw [hr] at wt wm HR
 clear hr
 generalize (W.alloc (.cells #[hv,p.from_,p.period,cv] 65))=V at *
 go_quiet (fail)
 have hBq:=below_drewN w1B nq
 clear c0 c1 c2 c3 o0
 generalize V.drewN nq=w9 at *
 have HBS:=zA (bs_calls (x:=r) (HC.out _ hBq) (by omega))
 repeat' (first | (go_at_call 120;((with_reducible refine (HBS.out).mono ?_));rintro e w6 ⟨⟨ii,rfl⟩,hB6⟩;have hB7:=hBq.trans (hB6.mono hBq.size);dsimp only)|go_skip|go_guarded|go_step|go_upon)
 go_ret
 exact ⟨by rw [HR.out];rfl,hB7⟩
theorem Has_calls {W:World} {hv cv:Value} {p:Zn.Per} (hp:Zn.ajo p) (hh:a1s W hv p.head) (hc:a1s W cv p.cycle) {d:Int} (d0:0≤d) (d1:d≤1099511627776) :
  Calls Tryz.prog 39 #[.agg #[hv,p.from_,p.period,cv],.int .i64 d] W fun e w'=>e=.returned (.bool (Zn.hasP p d))∧Below W W w':=by
 have hon:=a4k hh.one hc.one p.from_ p.period
 have w1B:Below W W (W.alloc (.cells #[hv,p.from_,p.period,cv] 65)):=bR.alloc (zD _) _
 have o0:obj (W.alloc (.cells #[hv,p.from_,p.period,cv] 65)) W.heap.size=some (.cells #[hv,p.from_,p.period,cv] 65 (0,0)):=a05 _ _ _ rfl
 have HV:=zA (adf hp (hh.below w1B) (hc.below w1B))
 have HM:=zA (fun (Wq:World) (hq:Below W W Wq)=>member_calls hp (hh.below hq) (hc.below hq) d0 d1)
 have t0 : ¬ d < 0:=by omega
 clear hh hc hp
 go_enter Tryz.func39,Tryz.ntmps39
 generalize Zn.hasP p d=r at *
 repeat' (first | (go_at_call 76;((with_reducible refine (HV.out).mono ?_));rintro e w5 ⟨rfl,hB5⟩;have o5:=a0a o0 hB5;have hB6:=w1B.trans (hB5.mono w1B.size);have HMX:=zA (HM.out _ hB6);dsimp only) | (go_at_call 79;((with_reducible refine (HMX.out).mono ?_));rintro e w6 ⟨rfl,hB7⟩;have hB8:=hB6.trans (hB7.mono hB6.size);dsimp only)|go_skip|go_guarded|go_step|go_upon)
 go_ret
 exact ⟨rfl,hB8⟩
end Go.Proofs.YtppjleebbjipbaaGreat
