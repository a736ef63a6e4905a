/-
  periodic.Canon, where the head goes back less than one turn of the cycle.
-/
import Derived.Test.YtppjleebbjipbaaGreatQkZpg
import Derived.Test.YtppjleebbjipbaaGreatQkZsr
import Derived.Test.YtppjleebbjipbaaGreatQkZor
set_option linter.all false
namespace Go.Proofs.YtppjleebbjipbaaGreat
open Go.RowKit Go.Shelf
set_option maxRecDepth 20000
set_option maxHeartbeats 8000000
theorem aie {W:World} {base:Nat} {v:Value} {l:List Int} (h:W.ownsRow base 3 1 v l.length (a4m l)):a2c W v l:=by
 refine ⟨(a2o h).2.1,?_⟩
 rcases h.2 with ⟨rfl,h0⟩ | ⟨g,c,cur,rfl,_,_,h3,_⟩
 ·exact ⟨none,0,by rw [h0],by omega⟩
 exact ⟨_,c,rfl,h3⟩
theorem a9p {p:Zn.Per} (hp:Zn.ajo p) (hne:p.cycle≠[]) {i0:Nat} (h1:Zn.aq9 p (Zn.a18 p.period p.cycle).1 (Zn.a18 p.period p.cycle).2 i0):a7m p (Zn.a7a p i0):=by
 intro W base hv cv ho1 ho2
 have hh:=aie ho1
 have hc:=aie ho2
 clear ho1 ho2
 have hon:=a4k hh.1.one hc.1.one p.from_ p.period
 have A2:=((zC W.heap.size W).alloc (zD _) (.cells #[hv,p.from_,p.period,cv] 65)).alloc (by simp) (.cells #[.slice none 0 0,(0:Int),(0:Int),.slice none 0 0] 65)
 have o1:obj ((W.alloc (.cells #[hv,p.from_,p.period,cv] 65)).alloc (.cells #[.slice none 0 0,(0:Int),(0:Int),.slice none 0 0] 65)) W.heap.size=some (.cells #[hv,p.from_,p.period,cv] 65 (0,0)):=a06 (a05 _ _ _ rfl) _
 have o2:obj ((W.alloc (.cells #[hv,p.from_,p.period,cv] 65)).alloc (.cells #[.slice none 0 0,(0:Int),(0:Int),.slice none 0 0] 65)) (W.heap.size+1)=some (.cells #[.slice none 0 0,(0:Int),(0:Int),.slice none 0 0] 65 (0,0)):=a05 _ _ _ (by simp)
 have hz2:((W.alloc (.cells #[hv,p.from_,p.period,cv] 65)).alloc (.cells #[.slice none 0 0,(0:Int),(0:Int),.slice none 0 0] 65)).heap.size=W.heap.size+2:=by simp
 have HV:=zA (adf hp (hh.1.below A2) (hc.1.below A2))
 have HC:=zA (fun (Wq:World) (hq:Below W W Wq)=>af7 hp hne h1 (hh.below hq) (hc.below hq))
 clear hh hc h1
 generalize Zn.a7a p i0=q at *
 go_enter Tryz.func37,Tryz.ntmps37
 repeat' (first | (go_at_call 76;((with_reducible refine (HV.out).mono ?_));rintro e w5 ⟨rfl,hB5⟩;have p1:=a0a o1 hB5;have p2:=a0a o2 hB5;have hB6:=A2.trans (hB5.mono (by omega));have HC5:=zA (HC.out _ hB6);have hz5:=hB5.size;dsimp only) | (go_at_call 77;((with_reducible refine (HC5.out).mono ?_));rintro e w7 ⟨⟨hw,cw,rfl,hhw,hcw⟩,hB7⟩;have r2:=a0a p2 hB7;have hB8:=hB6.trans (hB7.mono (by omega));have hon7:=a4k hhw.one hcw.one q.from_ q.period;have f2:=a0d r2 0;dsimp only)|go_skip|go_guarded|go_step|go_upon)
 have hki:∀ b row fr,obj w7 b=some (.cells row 3 fr)→obj (w7.setRow (W.heap.size+1) #[hw,.int .i64 q.from_,.int .i64 q.period,cw]) b=some (.cells row 3 fr):=fun b row fr hb=>(wZ _ _ _ _ (fun e=>by subst e;rw [r2] at hb;cases hb)).trans hb
 have z2:(w7.setRow (W.heap.size+1) #[hw,.int .i64 q.from_,.int .i64 q.period,cw]).heap[W.heap.size+1]? = some (.cells #[hw,q.from_,q.period,cw] 65 (0,0)):=by
  have h:obj (w7.setRow (W.heap.size+1) #[hw,.int .i64 q.from_,.int .i64 q.period,cw]) (W.heap.size+1)=some (.cells #[hw,q.from_,q.period,cw] 65 (0,0)):=by rw [a2g,r2];rfl
  exact h
 refine yO (a0q rfl _ _ (W.heap.size+1) 65 _ (0,0) _ _ rfl z2 Tryz.underlying65 rfl (by kernel_rfl) rfl) rfl ?_
 exact ⟨⟨hw,cw,_,rfl,hhw.keep hki,hcw.keep hki⟩,⟨hB8.os,hB8.tape,hB8.output,by simpa using hB8.size,fun k hk=>(wZ _ _ _ _ (by omega)).trans (hB8.block k hk)⟩⟩
end Go.Proofs.YtppjleebbjipbaaGreat
namespace Go.Proofs.YtppjleebbjipbaaGreat
open Go.RowKit Go.Shelf
set_option maxRecDepth 20000
set_option maxHeartbeats 8000000
theorem ack (W:World) (p:Zn.Pc):Calls Tryz.prog 70 #[.agg (aa9 p)] W fun e w'=>e=.returned (.agg #[p.nf,p.nt])∧Below W W w':=by
 have rz:aa9 p=#[.int .i64 p.o,.int .i64 p.uf,.int .i64 p.ut,.int .i64 p.nf,.int .i64 p.nt]:=rfl
 rw [rz]
 have hon:ones #[p.o,p.uf,p.ut,p.nf,p.nt]=true:=by simp [ones,a0n]
 have alr:ones #[p.nf,p.nt]=true:=by simp [ones,a0n]
 have o0:obj ((W.alloc (.cells #[p.o,p.uf,p.ut,p.nf,p.nt] 119)).alloc (.cells #[(0:Int),(0:Int)] 77)) W.heap.size=some (.cells #[p.o,p.uf,p.ut,p.nf,p.nt] 119 (0,0)):=a06 (a05 _ _ _ rfl) _
 have o1:obj ((W.alloc (.cells #[p.o,p.uf,p.ut,p.nf,p.nt] 119)).alloc (.cells #[(0:Int),(0:Int)] 77)) (W.heap.size+1)=some (.cells #[(0:Int),(0:Int)] 77 (0,0)):=a05 _ _ _ (by simp)
 have hB:Below W W ((W.alloc (.cells #[p.o,p.uf,p.ut,p.nf,p.nt] 119)).alloc (.cells #[(0:Int),(0:Int)] 77)):=(bR.alloc (zD _) _).alloc (by simp) _
 have ha:=a02 o0 3
 have hb:=a02 o0 4
 have f1:=a0d o1 0
 have e1:(3+2≤(#[.int .i64 p.o,.int .i64 p.uf,.int .i64 p.ut,.int .i64 p.nf,.int .i64 p.nt]:Array Value).size)=True:=by simp
 go_enter Tryz.func70,Tryz.ntmps70
 repeat'(first|go_skip|go_guarded|go_step|go_upon)
 refine yO (a1e rfl _ _ (W.heap.size+1) 77 _ (0,0) _ rfl (a05 _ _ _ (by simp)) Tryz.underlying77 rfl (by kernel_rfl)) rfl ?_
 exact ⟨rfl,(bR.alloc (zD _) _).alloc (by simp) _⟩
theorem acz (W:World) (p:Zn.Pc):Calls Tryz.prog 72 #[.agg (aa9 p)] W fun e w'=>e=.returned (.agg #[p.uf,p.ut])∧Below W W w':=by
 have rz:aa9 p=#[.int .i64 p.o,.int .i64 p.uf,.int .i64 p.ut,.int .i64 p.nf,.int .i64 p.nt]:=rfl
 rw [rz]
 have hon:ones #[p.o,p.uf,p.ut,p.nf,p.nt]=true:=by simp [ones,a0n]
 have alr:ones #[p.uf,p.ut]=true:=by simp [ones,a0n]
 have o0:obj ((W.alloc (.cells #[p.o,p.uf,p.ut,p.nf,p.nt] 119)).alloc (.cells #[(0:Int),(0:Int)] 77)) W.heap.size=some (.cells #[p.o,p.uf,p.ut,p.nf,p.nt] 119 (0,0)):=a06 (a05 _ _ _ rfl) _
 have o1:obj ((W.alloc (.cells #[p.o,p.uf,p.ut,p.nf,p.nt] 119)).alloc (.cells #[(0:Int),(0:Int)] 77)) (W.heap.size+1)=some (.cells #[(0:Int),(0:Int)] 77 (0,0)):=a05 _ _ _ (by simp)
 have hB:Below W W ((W.alloc (.cells #[p.o,p.uf,p.ut,p.nf,p.nt] 119)).alloc (.cells #[(0:Int),(0:Int)] 77)):=(bR.alloc (zD _) _).alloc (by simp) _
 have ha:=a02 o0 1
 have hb:=a02 o0 2
 have f1:=a0d o1 0
 have e1:(1+2≤(#[.int .i64 p.o,.int .i64 p.uf,.int .i64 p.ut,.int .i64 p.nf,.int .i64 p.nt]:Array Value).size)=True:=by simp
 go_enter Tryz.func72,Tryz.ntmps72
 repeat'(first|go_skip|go_guarded|go_step|go_upon)
 refine yO (a1e rfl _ _ (W.heap.size+1) 77 _ (0,0) _ rfl (a05 _ _ _ (by simp)) Tryz.underlying77 rfl (by kernel_rfl)) rfl ?_
 exact ⟨rfl,(bR.alloc (zD _) _).alloc (by simp) _⟩
theorem aht (HO:OpenSpec) {W:World} {z:Zn.a0w} {mv rv tv yv:Value} (hv:a1q W z mv rv tv yv) (hzr:z.cal.rules.length < 9223372036854775808) (hzm:z.cal.a0g.length < 9223372036854775808) (m:Int) (C:Zn.Per→Zn.Per) (HCN:∀ g∈Zn.acv z Zn.akh m,a7m (Zn.a9y (Zn.fromD z) (Zn.a0s z) g.2) (C (Zn.a9y (Zn.fromD z) (Zn.a0s z) g.2))) (hfin:Zn.a3o z=true→Zn.afa z) :
  Calls Tryz.prog 30 #[.agg #[z.cal.a08,mv,z.cal.a0l,rv,z.start,tv,z.hor,yv],.int .i64 m] W fun e w'=>(∃ v,e=.returned (.tuple #[v,.int .i64 (Zn.a4c C z m Zn.akh).2])∧a1f w' v (Zn.a4c C z m Zn.akh).1)∧Below W W w':=by
 have om:=hv.cal.mon.one
 have orr:=hv.cal.rul.one
 have ot:=a1m.one hv.tr
 have oy:=a1m.one hv.yr
 have hon:ones #[z.cal.a08,mv,z.cal.a0l,rv,z.start,tv,z.hor,yv]=true:=a1b om orr ot oy
 have A1:=(zC W.heap.size W).alloc (zD _) (.cells #[z.cal.a08,mv,z.cal.a0l,rv,z.start,tv,z.hor,yv] 35)
 have HD:=zA (abo HO (hv.below A1) hzr hzm m 70 Zn.akh C HCN ab4 (fun Wq p=>ack Wq p) (fun p=>.inr rfl) (enters_of Tryz.func70 (by kernel_rfl) rfl) hfin)
 clear hv HCN
 generalize Zn.a4c C z m Zn.akh=rr at *
 go_enter Tryz.func30,Tryz.ntmps30
 repeat' (first | (go_at_call 69;((with_reducible refine (HD.out).mono ?_));rintro e w5 ⟨⟨v,rfl,hv5⟩,hB5⟩;have hB6:=A1.trans (hB5.mono A1.size);dsimp only)|go_skip|go_guarded|go_step|go_upon)
 go_returns
 exact ⟨⟨v,rfl,hv5⟩,hB6⟩
theorem aat (HO:OpenSpec) {W:World} {z:Zn.a0w} {mv rv tv yv:Value} (hv:a1q W z mv rv tv yv) (hzr:z.cal.rules.length < 9223372036854775808) (hzm:z.cal.a0g.length < 9223372036854775808) (m:Int) (C:Zn.Per→Zn.Per) (HCN:∀ g∈Zn.acv z Zn.ak1 m,a7m (Zn.a9y (Zn.fromD z) (Zn.a0s z) g.2) (C (Zn.a9y (Zn.fromD z) (Zn.a0s z) g.2))) (hfin:Zn.a3o z=true→Zn.afa z) :
  Calls Tryz.prog 32 #[.agg #[z.cal.a08,mv,z.cal.a0l,rv,z.start,tv,z.hor,yv],.int .i64 m] W fun e w'=>(∃ v,e=.returned (.tuple #[v,.int .i64 (Zn.a4c C z m Zn.ak1).2])∧a1f w' v (Zn.a4c C z m Zn.ak1).1)∧Below W W w':=by
 have om:=hv.cal.mon.one
 have orr:=hv.cal.rul.one
 have ot:=a1m.one hv.tr
 have oy:=a1m.one hv.yr
 have hon:ones #[z.cal.a08,mv,z.cal.a0l,rv,z.start,tv,z.hor,yv]=true:=a1b om orr ot oy
 have A1:=(zC W.heap.size W).alloc (zD _) (.cells #[z.cal.a08,mv,z.cal.a0l,rv,z.start,tv,z.hor,yv] 35)
 have HD:=zA (abo HO (hv.below A1) hzr hzm m 72 Zn.ak1 C HCN ab4 (fun Wq p=>acz Wq p) (fun p=>.inl rfl) (enters_of Tryz.func72 (by kernel_rfl) rfl) hfin)
 clear hv HCN
 generalize Zn.a4c C z m Zn.ak1=rr at *
 go_enter Tryz.func32,Tryz.ntmps32
 repeat' (first | (go_at_call 69;((with_reducible refine (HD.out).mono ?_));rintro e w5 ⟨⟨v,rfl,hv5⟩,hB5⟩;have hB6:=A1.trans (hB5.mono A1.size);dsimp only)|go_skip|go_guarded|go_step|go_upon)
 go_returns
 exact ⟨⟨v,rfl,hv5⟩,hB6⟩
theorem aa7 {W:World} {va vb:Value} {a b:List Int} (ha:a1s W va a) (hb:a1s W vb b) (hal:a.length < 4611686018427387904) (hbl:b.length < 4611686018427387904) :
  Calls Tryz.prog 78 #[va,vb] W fun e w'=>e=.returned (.bool (decide (a=b)))∧Below W W w':=by
 have HA:=zA ha
 have HB:=zA hb
 obtain ⟨ao,ac,rfl⟩ : ∃ ao ac,va=.slice ao a.length ac:=by obtain ⟨x,y,h,_⟩:=ha;exact ⟨x,y,h⟩
 obtain ⟨bo,bc,rfl⟩ : ∃ bo bc,vb=.slice bo b.length bc:=by obtain ⟨x,y,h,_⟩:=hb;exact ⟨x,y,h⟩
 clear ha hb
 go_enter Tryz.func78,Tryz.ntmps78
 by_cases hl:a.length=b.length;rotate_left
 ·have e0:((a.length:Int) != (b.length:Int))=true:=wX.2 (by omega)
  have hd:Hid (decide (a=b)=false):=zA (zW (fun h=>hl (by rw [h])))
  repeat'(first|go_skip|go_guarded|go_step|go_upon)
  go_ret
  exact ⟨by rw [hd.out];rfl,zC _ _⟩
 have e0:((a.length:Int) != (b.length:Int))=false:=by rw [hl];exact bne_self_eq_false _
 repeat'(first|go_skip|go_guarded|go_step|go_upon)
 go_loopw [5] (fun i wr => ∃ k:Nat,k≤a.length∧i=.int .i64 k∧(∀ j,j < k→a.getD j 0=b.getD j 0)∧Below W W wr) (fun i _=>((a.length:Int) - intOf i).toNat)
 case atStart=>exact ⟨0,by omega,rfl,fun j hj=>absurd hj (yA j),zC _ _⟩
 obtain ⟨k,hk,rfl,hpre,hC⟩:=hrel
 have alx:=zA hpre
 clear hpre
 by_cases hlk:k < a.length;rotate_left
 ·have i1 : ¬ (k:Int) < (a.length:Int):=by omega
  have hab:a=b:=List.ext_getElem hl fun j h1 h2=>by
   have:=alx.out j (by omega)
   rwa [zB,zB,zK h1,zK h2] at this
  repeat'(first|go_skip|go_guarded|go_step|go_upon)
  go_ret
  exact ⟨by rw [zV hab];rfl,hC⟩
 have i1:(k:Int) < (a.length:Int):=by omega
 have hlkb:k < b.length:=by omega
 have i2:(k:Int) < (b.length:Int):=by omega
 have i3 : ¬ (k:Int) < 0:=by omega
 obtain ⟨b1,o1,aql,T1,fr1,q1⟩ : ∃ bq oq row T fr,ao=some ⟨bq,oq,none⟩∧obj wr bq=some (.cells row T fr)∧row[oq+k]? = some (.int .i64 (a.getD k 0)):=by
  obtain ⟨ao',c',h1,h2⟩:=a1s.below HA.out hC
  obtain ⟨b',o',row',T',fr',g1,g2,g3⟩:=h2 (by omega)
  injection h1 with ha hb hc
  exact ⟨b',o',row',T',fr',by rw [ha,g1],g2,g3 k (by omega)⟩
 obtain ⟨rfl,g1,k1⟩:=q1
 obtain ⟨x,hx1⟩ : ∃ x,a.getD k 0=x:=⟨_,rfl⟩
 rw [hx1] at k1
 have HXE:=zA hx1
 have c1:=a02 g1 (o1+k)
 rw [k1] at c1
 clear hx1 k1
 obtain ⟨b2,o2,aqk,T2,fr2,q2⟩ : ∃ bq oq row T fr,bo=some ⟨bq,oq,none⟩∧obj wr bq=some (.cells row T fr)∧row[oq+k]? = some (.int .i64 (b.getD k 0)):=by
  obtain ⟨ao',c',h1,h2⟩:=a1s.below HB.out hC
  obtain ⟨b',o',row',T',fr',g1,g2,g3⟩:=h2 (by omega)
  injection h1 with ha hb hc
  exact ⟨b',o',row',T',fr',by rw [ha,g1],g2,g3 k (by omega)⟩
 obtain ⟨rfl,g2,k2⟩:=q2
 obtain ⟨y,hx2⟩ : ∃ y,b.getD k 0=y:=⟨_,rfl⟩
 rw [hx2] at k2
 have HYE:=zA hx2
 have c2:=a02 g2 (o2+k)
 rw [k2] at c2
 clear hx2 k2
 by_cases hxy:x=y
 ·have e1:(x != y)=false:=by rw [hxy];exact bne_self_eq_false _
  repeat'(first|go_skip|go_guarded|go_step|go_upon)
  go_quiet (fail)
  have hC2:=below_drewN hC nq
  generalize wr.drewN nq=w9 at *
  repeat'(first|go_skip|go_guarded|go_step|go_upon)
  exact ⟨⟨k+1,by omega,by simp,fun j hj=>(zU j k).elim (fun h=>alx.out j h) (fun h=>by rw [show j=k by omega,HXE.out,HYE.out];exact hxy),hC2⟩,by simp only [intOf];omega⟩
 have e1:(x != y)=true:=wX.2 hxy
 repeat'(first|go_skip|go_guarded|go_step|go_upon)
 go_quiet (fail)
 have hC2:=below_drewN hC nq
 generalize wr.drewN nq=w9 at *
 repeat'(first|go_skip|go_guarded|go_step|go_upon)
 go_ret
 exact ⟨by rw [zW (fun h=>hxy (by rw [← HXE.out,← HYE.out,h]))];rfl,hC2⟩

theorem adi {W:World} {hv cv hu cu:Value} {p:Zn.Per} (h1:a1s W hv p.head) (h2:a1s W cv p.cycle) (h3:a1s W hu p.head) (h4:a1s W cu p.cycle) (l1:p.head.length < 4611686018427387904) (l2:p.cycle.length < 4611686018427387904) :
  Calls Tryz.prog 38 #[.agg #[hv,p.from_,p.period,cv],.agg #[hu,p.from_,p.period,cu]] W fun e w'=>e=.returned (.bool true)∧Below W W w':=by
 have q1:=a4k h1.one h2.one p.from_ p.period
 have q2:=a4k h3.one h4.one p.from_ p.period
 have hB:Below W W ((W.alloc (.cells #[hv,p.from_,p.period,cv] 65)).alloc (.cells #[hu,p.from_,p.period,cu] 65)):=(bR.alloc (zD _) _).alloc (by simp) _
 have H1:=zA (fun (Wq:World) (hq:Below ((W.alloc (.cells #[hv,p.from_,p.period,cv] 65)).alloc (.cells #[hu,p.from_,p.period,cu] 65)).heap.size ((W.alloc (.cells #[hv,p.from_,p.period,cv] 65)).alloc (.cells #[hu,p.from_,p.period,cu] 65)) Wq)=>aa7 ((h1.below hB).below hq) ((h3.below hB).below hq) l1 l1)
 have H2:=zA (fun (Wq:World) (hq:Below ((W.alloc (.cells #[hv,p.from_,p.period,cv] 65)).alloc (.cells #[hu,p.from_,p.period,cu] 65)).heap.size ((W.alloc (.cells #[hv,p.from_,p.period,cv] 65)).alloc (.cells #[hu,p.from_,p.period,cu] 65)) Wq)=>aa7 ((h2.below hB).below hq) ((h4.below hB).below hq) l2 l2)
 have e1:decide (p.head=p.head)=true:=by simp
 have e2:decide (p.cycle=p.cycle)=true:=by simp
 rw [e1] at H1
 rw [e2] at H2
 have t1:(p.from_ == p.from_)=true:=by simp
 have t2:(p.period == p.period)=true:=by simp
 have o0:obj ((W.alloc (.cells #[hv,p.from_,p.period,cv] 65)).alloc (.cells #[hu,p.from_,p.period,cu] 65)) W.heap.size=some (.cells #[hv,p.from_,p.period,cv] 65 (0,0)):=a06 (a05 _ _ _ rfl) _
 have o1:obj ((W.alloc (.cells #[hv,p.from_,p.period,cv] 65)).alloc (.cells #[hu,p.from_,p.period,cu] 65)) (W.heap.size+1)=some (.cells #[hu,p.from_,p.period,cu] 65 (0,0)):=a05 _ _ _ (by simp)
 clear h1 h2 h3 h4 e1 e2
 go_enter Tryz.func38,Tryz.ntmps38
 repeat' (first | (go_at_call 78;((with_reducible refine ((H1.out _ bR)).mono ?_));rintro e w5 ⟨rfl,hB5⟩;have p0:=a0a o0 hB5;have p1:=a0a o1 hB5;have HQ:=zA (H2.out _ hB5);have hB6:=hB.trans (hB5.mono hB.size);have d0:=a02 p0 3;have d1:=a02 p1 3;dsimp only) | (go_at_call 78;((with_reducible refine (HQ.out).mono ?_));rintro e w6 ⟨rfl,hB7⟩;have hB8:=hB6.trans (hB7.mono hB6.size);dsimp only)|go_skip|go_guarded|go_step|go_upon)
 go_ret
 exact ⟨rfl,hB8⟩
theorem ab8 {W:World} {b:Nat} {row:Array Value} {T:TypeId} {fr:Nat×Nat} {i:Nat} {x h f p c:Value} (ho:obj W b=some (.cells row T fr)) (hz:i+5≤row.size) (hx:row.extract i (i+5)=#[x,h,f,p,c]):obj W b=some (.cells row T fr)∧(i+1+4≤row.size)=True∧row.extract (i+1) (i+1+4)=#[h,f,p,c]:=by
 refine ⟨ho,xN (by omega),?_⟩
 have e:∀ j,j < 5→row[i+j]? = (#[x,h,f,p,c]:Array Value)[j]? := fun j hj=>by
  rw [← hx,wG,zQ (by omega)]
 apply wQ
 intro j
 rw [wG]
 rcases j with _ | _ | _ | _ | j
 ·rw [zQ (by omega)];exact e 1 (by omega)
 ·rw [zQ (by omega)];exact e 2 (by omega)
 ·rw [zQ (by omega)];exact e 3 (by omega)
 ·rw [zQ (by omega)];exact e 4 (by omega)
 rw [zS (by omega)];rfl
theorem a6y {W:World} {va vb:Value} {l:List (Int×Zn.Per)} (ha:a1f W va l) (hb:a1f W vb l) (hl:l.length < 4611686018427387904) (hs:∀ x∈l,x.2.head.length < 4611686018427387904∧x.2.cycle.length < 4611686018427387904) :
  Calls Tryz.prog 34 #[va,vb] W fun e w'=>e=.returned (.bool true)∧Below W W w':=by
 obtain ⟨fa,⟨aa,ca,rfl,ha1⟩,ha2⟩:=ha
 obtain ⟨fb,⟨ab,cb,rfl,hb1⟩,hb2⟩:=hb
 have HA1:=zA ha1
 have HA2:=zA ha2
 have HB1:=zA hb1
 have HB2:=zA hb2
 have HS:=zA hs
 have tl:((l.length:Int) == (l.length:Int))=true:=by simp
 clear ha1 ha2 hb1 hb2 hs
 go_enter Tryz.func34,Tryz.ntmps34
 repeat'(first|go_skip|go_guarded|go_step|go_upon)
 go_loopw [5] (fun iv wr => ∃ k:Nat,k≤l.length∧iv=.int .i64 k∧Below W W wr) (fun iv _=>((l.length:Int) - intOf iv).toNat)
 case atStart=>exact ⟨0,by omega,rfl,zC _ _⟩
 obtain ⟨k,hk,rfl,hB⟩:=hrel
 by_cases hlt:k < l.length;rotate_left
 ·have i1 : ¬ (k:Int) < (l.length:Int):=by omega
  repeat'(first|go_skip|go_guarded|go_step|go_upon)
  go_returns
  exact ⟨rfl,hB⟩
 have i1:(k:Int) < (l.length:Int):=by omega
 obtain ⟨ba,oa,rowa,Ta,fra,rfl,ra,xa⟩:=HA1.out (by omega)
 obtain ⟨bb,ob,rowb,Tb,frb,rfl,rb,xb⟩:=HB1.out (by omega)
 obtain ⟨za,xa⟩:=xa k hlt
 obtain ⟨zb,xb⟩:=xb k hlt
 obtain ⟨hv,cv,ea,iha,ica⟩:=HA2.out k hlt
 obtain ⟨hu,cu,eb,ihb,icb⟩:=HB2.out k hlt
 have hsl:=HS.out (l.getD k default) (by rw [zB,zK hlt];exact yT _)
 rw [ea] at xa
 rw [eb] at xb
 clear ea eb
 generalize l.getD k default=xx at *
 obtain ⟨o,pr⟩:=xx
 dsimp only at xa xb iha ica ihb icb hsl
 have HE:=zA (fun (Wq:World) (hq:Below W W Wq)=>adi (p:=pr) (iha.below hq).ints (ica.below hq).ints (ihb.below hq).ints (icb.below hq).ints hsl.1 hsl.2)
 clear iha ica ihb icb hsl
 generalize pr.from_=pf at *
 generalize pr.period=pp at *
 have la:=a09 ra
 have lb:=a09 rb
 repeat' ((go_not_at_region 6);(first|go_skip|go_guarded|go_step|go_upon))
 refine a0k 25 [([],fun v _=>v=.slice (some ⟨ba,oa,none⟩) l.length ca),([],fun v _=>v=.int .i64 (k:Int)),([0,1],fun v _=>v=.pointer (some ⟨ba,oa+k * 5,none⟩)),([2],fun v _=>v=.pointer (some ⟨ba,oa+k * 5,none⟩)),([3],fun v _=>v=.int .i64 o),([],fun v _=>v=.slice (some ⟨bb,ob,none⟩) l.length cb),([],fun v _=>v=.int .i64 (k:Int)),([5,6],fun v _=>v=.pointer (some ⟨bb,ob+k * 5,none⟩)),([7],fun v _=>v=.pointer (some ⟨bb,ob+k * 5,none⟩)),([8],fun v _=>v=.int .i64 o),([4,9],fun v _=>v=.bool false),([10],fun v _=>v=.bool false),([11],fun v _=>v=.slice (some ⟨ba,oa,none⟩) l.length ca),([11],fun v _=>v=.int .i64 (k:Int)),([12,13,11],fun v _=>v=.pointer (some ⟨ba,oa+k * 5,none⟩)),([14,11],fun v _=>v=.pointer (some ⟨ba,oa+k * 5+1,none⟩)),([15,11],fun v _=>v=.agg #[hv,pf,pp,cv]),([11],fun v _=>v=.slice (some ⟨bb,ob,none⟩) l.length cb),([11],fun v _=>v=.int .i64 (k:Int)),([17,18,11],fun v _=>v=.pointer (some ⟨bb,ob+k * 5,none⟩)),([19,11],fun v _=>v=.pointer (some ⟨bb,ob+k * 5+1,none⟩)),([20,11],fun v _=>v=.agg #[hu,pf,pp,cu]),([16,21,11],fun v _=>v=.bool true),([22,11],fun v _=>v=.bool false),
   ([11,23],fun v _=>v=.bool false)] (by kernel_rfl) (by kernel_rfl) (by kernel_rfl) ?st ⟨?o0,?o1,?o2,?o3,?o4,?o5,?o6,?o7,?o8,?o9,?o10,?o11,?o12,?o13,?o14,?o15,?o16,?o17,?o18,?o19,?o20,?o21,?o22,?o23,?o24,trivial⟩ ?_
 case st =>
  intro k v W1 W2 h hb
  rcases k with _|_|_|_|_|_|_|_|_|_|_|_|_|_|_|_|_|_|_|_|_|_|_|_|_|k
  all_goals (first|exact h|trivial)
 case o0 => intro vs Wq hW hk;clear hk;change wpList _ _ _ _ (a00 _ vs [] _) _;simp only [a00];(try simp only [Act.put,zF,zI,zJ]);(repeat'(first|go_skip|go_guarded|go_step|go_upon));exact a01 (.slice (some ⟨ba,oa,none⟩) l.length ca) rfl (by go_simp) bR rfl
 case o1 => intro vs Wq hW hk;clear hk;change wpList _ _ _ _ (a00 _ vs [] _) _;simp only [a00];(try simp only [Act.put,zF,zI,zJ]);(repeat'(first|go_skip|go_guarded|go_step|go_upon));exact a01 (.int .i64 (k:Int)) rfl (by go_simp) bR rfl
 case o2 => intro vs Wq hW hk;have g0:vs 0=.slice (some ⟨ba,oa,none⟩) l.length ca:=hk.1;have g1:vs 1=.int .i64 (k:Int):=hk.2.1;clear hk;change wpList _ _ _ _ (a00 _ vs [0,1] _) _;simp only [a00,a03,yy0,yy1,yy2,yy3];(try simp only [Act.put,zF,zI,zJ]);rw [g0,g1];(repeat'(first|go_skip|go_guarded|go_step|go_upon));exact a01 (.pointer (some ⟨ba,oa+k * 5,none⟩)) rfl (by go_simp) bR rfl
 case o3 => intro vs Wq hW hk;have g2:vs 2=.pointer (some ⟨ba,oa+k * 5,none⟩):=hk.1;clear hk;change wpList _ _ _ _ (a00 _ vs [2] _) _;simp only [a00,a03,yy0,yy1,yy2,yy3];(try simp only [Act.put,zF,zI,zJ]);rw [g2];(repeat'(first|go_skip|go_guarded|go_step|go_upon));exact a01 (.pointer (some ⟨ba,oa+k * 5,none⟩)) rfl (by go_simp) bR rfl
 case o4 => intro vs Wq hW hk;have g3:vs 3=.pointer (some ⟨ba,oa+k * 5,none⟩):=hk.1;clear hk;change wpList _ _ _ _ (a00 _ vs [3] _) _;simp only [a00,a03,yy0,yy1,yy2,yy3];(try simp only [Act.put,zF,zI,zJ]);rw [g3];have q:=(a02 (a04 ra (hB.trans (hW.mono hB.size)) la) (oa+k * 5)).trans (a0y 0 xa (by simp));(repeat'(first|go_skip|go_guarded|go_step|go_upon));exact a01 (.int .i64 o) rfl (by go_simp) bR rfl
 case o5 => intro vs Wq hW hk;clear hk;change wpList _ _ _ _ (a00 _ vs [] _) _;simp only [a00];(try simp only [Act.put,zF,zI,zJ]);(repeat'(first|go_skip|go_guarded|go_step|go_upon));exact a01 (.slice (some ⟨bb,ob,none⟩) l.length cb) rfl (by go_simp) bR rfl
 case o6 => intro vs Wq hW hk;clear hk;change wpList _ _ _ _ (a00 _ vs [] _) _;simp only [a00];(try simp only [Act.put,zF,zI,zJ]);(repeat'(first|go_skip|go_guarded|go_step|go_upon));exact a01 (.int .i64 (k:Int)) rfl (by go_simp) bR rfl
 case o7 => intro vs Wq hW hk;have g5:vs 5=.slice (some ⟨bb,ob,none⟩) l.length cb:=hk.1;have g6:vs 6=.int .i64 (k:Int):=hk.2.1;clear hk;change wpList _ _ _ _ (a00 _ vs [5,6] _) _;simp only [a00,a03,yy0,yy1,yy2,yy3];(try simp only [Act.put,zF,zI,zJ]);rw [g5,g6];(repeat'(first|go_skip|go_guarded|go_step|go_upon));exact a01 (.pointer (some ⟨bb,ob+k * 5,none⟩)) rfl (by go_simp) bR rfl
 case o8 => intro vs Wq hW hk;have g7:vs 7=.pointer (some ⟨bb,ob+k * 5,none⟩):=hk.1;clear hk;change wpList _ _ _ _ (a00 _ vs [7] _) _;simp only [a00,a03,yy0,yy1,yy2,yy3];(try simp only [Act.put,zF,zI,zJ]);rw [g7];(repeat'(first|go_skip|go_guarded|go_step|go_upon));exact a01 (.pointer (some ⟨bb,ob+k * 5,none⟩)) rfl (by go_simp) bR rfl
 case o9 => intro vs Wq hW hk;have g8:vs 8=.pointer (some ⟨bb,ob+k * 5,none⟩):=hk.1;clear hk;change wpList _ _ _ _ (a00 _ vs [8] _) _;simp only [a00,a03,yy0,yy1,yy2,yy3];(try simp only [Act.put,zF,zI,zJ]);rw [g8];have q:=(a02 (a04 rb (hB.trans (hW.mono hB.size)) lb) (ob+k * 5)).trans (a0y 0 xb (by simp));(repeat'(first|go_skip|go_guarded|go_step|go_upon));exact a01 (.int .i64 o) rfl (by go_simp) bR rfl
 case o10 =>
  intro vs Wq hW hk
  have g4:vs 4=.int .i64 o:=hk.1
  have g9:vs 9=.int .i64 o:=hk.2.1
  clear hk
  change wpList _ _ _ _ (a00 _ vs [4,9] _) _
  simp only [a00,a03,yy0,yy1,yy2,yy3]
  (try simp only [Act.put,zF,zI,zJ])
  rw [g4,g9]
  have q:(o == o)=true:=by simp
  repeat'(first|go_skip|go_guarded|go_step|go_upon)
  exact a01 (.bool false) rfl (by go_simp) bR rfl
 case o11 => intro vs Wq hW hk;have g10:vs 10=.bool false:=hk.1;clear hk;change wpList _ _ _ _ (a00 _ vs [10] _) _;simp only [a00,a03,yy0,yy1,yy2,yy3];(try simp only [Act.put,zF,zI,zJ]);rw [g10];(repeat'(first|go_skip|go_guarded|go_step|go_upon));exact a01 (.bool false) rfl (by go_simp) bR rfl
 case o12 => intro vs Wq hW hk;have g11:vs 11=.bool false:=hk.1;clear hk;change wpList _ _ _ _ (a00 _ vs [11] _) _;simp only [a00,a03,yy0,yy1,yy2,yy3];(try simp only [Act.put,zF,zI,zJ]);rw [g11];(repeat'(first|go_skip|go_guarded|go_step|go_upon));exact a01 (.slice (some ⟨ba,oa,none⟩) l.length ca) rfl (by go_simp) bR rfl
 case o13 => intro vs Wq hW hk;have g11:vs 11=.bool false:=hk.1;clear hk;change wpList _ _ _ _ (a00 _ vs [11] _) _;simp only [a00,a03,yy0,yy1,yy2,yy3];(try simp only [Act.put,zF,zI,zJ]);rw [g11];(repeat'(first|go_skip|go_guarded|go_step|go_upon));exact a01 (.int .i64 (k:Int)) rfl (by go_simp) bR rfl
 case o14 => intro vs Wq hW hk;have g12:vs 12=.slice (some ⟨ba,oa,none⟩) l.length ca:=hk.1;have g13:vs 13=.int .i64 (k:Int):=hk.2.1;have g11:vs 11=.bool false:=hk.2.2.1;clear hk;change wpList _ _ _ _ (a00 _ vs [12,13,11] _) _;simp only [a00,a03,yy0,yy1,yy2,yy3];(try simp only [Act.put,zF,zI,zJ]);rw [g12,g13,g11];(repeat'(first|go_skip|go_guarded|go_step|go_upon));exact a01 (.pointer (some ⟨ba,oa+k * 5,none⟩)) rfl (by go_simp) bR rfl
 case o15 => intro vs Wq hW hk;have g14:vs 14=.pointer (some ⟨ba,oa+k * 5,none⟩):=hk.1;have g11:vs 11=.bool false:=hk.2.1;clear hk;change wpList _ _ _ _ (a00 _ vs [14,11] _) _;simp only [a00,a03,yy0,yy1,yy2,yy3];(try simp only [Act.put,zF,zI,zJ]);rw [g14,g11];(repeat'(first|go_skip|go_guarded|go_step|go_upon));exact a01 (.pointer (some ⟨ba,oa+k * 5+1,none⟩)) rfl (by go_simp) bR rfl
 case o16 => intro vs Wq hW hk;have g15:vs 15=.pointer (some ⟨ba,oa+k * 5+1,none⟩):=hk.1;have g11:vs 11=.bool false:=hk.2.1;clear hk;change wpList _ _ _ _ (a00 _ vs [15,11] _) _;simp only [a00,a03,yy0,yy1,yy2,yy3];(try simp only [Act.put,zF,zI,zJ]);rw [g15,g11];have q1:=ab8 (a04 ra (hB.trans (hW.mono hB.size)) la) za xa;have s1:=q1.1;have s2:=q1.2.1;have s3:=q1.2.2;(repeat'(first|go_skip|go_guarded|go_step|go_upon));exact a01 (.agg #[hv,pf,pp,cv]) rfl (by go_simp) bR rfl
 case o17 => intro vs Wq hW hk;have g11:vs 11=.bool false:=hk.1;clear hk;change wpList _ _ _ _ (a00 _ vs [11] _) _;simp only [a00,a03,yy0,yy1,yy2,yy3];(try simp only [Act.put,zF,zI,zJ]);rw [g11];(repeat'(first|go_skip|go_guarded|go_step|go_upon));exact a01 (.slice (some ⟨bb,ob,none⟩) l.length cb) rfl (by go_simp) bR rfl
 case o18 => intro vs Wq hW hk;have g11:vs 11=.bool false:=hk.1;clear hk;change wpList _ _ _ _ (a00 _ vs [11] _) _;simp only [a00,a03,yy0,yy1,yy2,yy3];(try simp only [Act.put,zF,zI,zJ]);rw [g11];(repeat'(first|go_skip|go_guarded|go_step|go_upon));exact a01 (.int .i64 (k:Int)) rfl (by go_simp) bR rfl
 case o19 => intro vs Wq hW hk;have g17:vs 17=.slice (some ⟨bb,ob,none⟩) l.length cb:=hk.1;have g18:vs 18=.int .i64 (k:Int):=hk.2.1;have g11:vs 11=.bool false:=hk.2.2.1;clear hk;change wpList _ _ _ _ (a00 _ vs [17,18,11] _) _;simp only [a00,a03,yy0,yy1,yy2,yy3];(try simp only [Act.put,zF,zI,zJ]);rw [g17,g18,g11];(repeat'(first|go_skip|go_guarded|go_step|go_upon));exact a01 (.pointer (some ⟨bb,ob+k * 5,none⟩)) rfl (by go_simp) bR rfl
 case o20 => intro vs Wq hW hk;have g19:vs 19=.pointer (some ⟨bb,ob+k * 5,none⟩):=hk.1;have g11:vs 11=.bool false:=hk.2.1;clear hk;change wpList _ _ _ _ (a00 _ vs [19,11] _) _;simp only [a00,a03,yy0,yy1,yy2,yy3];(try simp only [Act.put,zF,zI,zJ]);rw [g19,g11];(repeat'(first|go_skip|go_guarded|go_step|go_upon));exact a01 (.pointer (some ⟨bb,ob+k * 5+1,none⟩)) rfl (by go_simp) bR rfl
 case o21 => intro vs Wq hW hk;have g20:vs 20=.pointer (some ⟨bb,ob+k * 5+1,none⟩):=hk.1;have g11:vs 11=.bool false:=hk.2.1;clear hk;change wpList _ _ _ _ (a00 _ vs [20,11] _) _;simp only [a00,a03,yy0,yy1,yy2,yy3];(try simp only [Act.put,zF,zI,zJ]);rw [g20,g11];have q1:=ab8 (a04 rb (hB.trans (hW.mono hB.size)) lb) zb xb;have s1:=q1.1;have s2:=q1.2.1;have s3:=q1.2.2;(repeat'(first|go_skip|go_guarded|go_step|go_upon));exact a01 (.agg #[hu,pf,pp,cu]) rfl (by go_simp) bR rfl
 case o22 => intro vs Wq hW hk;have g16:vs 16=.agg #[hv,pf,pp,cv]:=hk.1;have g21:vs 21=.agg #[hu,pf,pp,cu]:=hk.2.1;have g11:vs 11=.bool false:=hk.2.2.1;clear hk;change wpList _ _ _ _ (a00 _ vs [16,21,11] _) _;simp only [a00,a03,yy0,yy1,yy2,yy3];(try simp only [Act.put,zF,zI,zJ]);rw [g16,g21,g11];have HX:=zA (HE.out Wq (hB.trans (hW.mono hB.size)));(repeat' (first | (go_at_call 38;((with_reducible refine (HX.out).mono ?_));rintro e w9 ⟨rfl,hb9⟩;dsimp only)|go_skip|go_guarded|go_step|go_upon));exact a01 (.bool true) rfl (by go_simp) hb9 rfl
 case o23 => intro vs Wq hW hk;have g22:vs 22=.bool true:=hk.1;have g11:vs 11=.bool false:=hk.2.1;clear hk;change wpList _ _ _ _ (a00 _ vs [22,11] _) _;simp only [a00,a03,yy0,yy1,yy2,yy3];(try simp only [Act.put,zF,zI,zJ]);rw [g22,g11];(repeat'(first|go_skip|go_guarded|go_step|go_upon));exact a01 (.bool false) rfl (by go_simp) bR rfl
 case o24 => intro vs Wq hW hk;have g11:vs 11=.bool false:=hk.1;have g23:vs 23=.bool false:=hk.2.1;clear hk;change wpList _ _ _ _ (a00 _ vs [11,23] _) _;simp only [a00,a03,yy0,yy1,yy2,yy3];(try simp only [Act.put,zF,zI,zJ]);rw [g11,g23];(repeat'(first|go_skip|go_guarded|go_step|go_upon));exact a01 (.bool false) rfl (by go_simp) bR rfl
 intro vs Wx hWx hk;have v24:vs 24=.bool false:=hk 24 (by decide);clear hk;dsimp only [a1d,List.take,List.drop];(try simp only [Act.put,zF,zI,zJ]);rw [v24];generalize vs 0=q0,vs 1=q1,vs 2=q2,vs 3=q3,vs 4=q4,vs 5=q5,vs 6=q6,vs 7=q7,vs 8=q8,vs 9=q9,vs 10=q10,vs 11=q11,vs 12=q12,vs 13=q13,vs 14=q14,vs 15=q15,vs 16=q16,vs 17=q17,vs 18=q18,vs 19=q19,vs 20=q20,vs 21=q21,vs 22=q22,vs 23=q23;clear v24;refine wpList_nil ?_;have hBx:=hB.trans (hWx.mono hB.size);(repeat'(first|go_skip|go_guarded|go_step|go_upon));exact ⟨⟨k+1,by omega,by go_num,hBx⟩,by simp [intOf];omega⟩
end Go.Proofs.YtppjleebbjipbaaGreat
