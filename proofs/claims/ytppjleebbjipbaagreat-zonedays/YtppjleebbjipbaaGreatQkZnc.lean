/-
  slices.Backward over rules; the length of months and years.
-/
import Derived.Test.YtppjleebbjipbaaGreatQkZna
import Derived.Test.YtppjleebbjipbaaGreatQkGrm
import Derived.Shelf.RegionOpen
import Derived.OwnWalkIn
import Derived.TacticsInMore
import Derived.LoopNIn
import Derived.LoopIn
set_option linter.all false
namespace Go.Proofs.YtppjleebbjipbaaGreat
open Go.RowKit Go.Shelf
attribute [local go_sem] Oper.semAt_some
set_option maxRecDepth 100000
set_option maxHeartbeats 8000000
theorem ahq (a:Option Addr) (n c:Nat) (w:World) :
  Calls Tryz.prog 200 #[.slice a n c] w fun e w'=>e=.returned (.func (.func 208) #[] #[.pointer (some ⟨w.heap.size,0,none⟩)])∧w.alloc (.cells #[.slice a n c] 29)=w':=by
 have hmf:∀ (fn:Fn) (first cap:Array Value) (w:World),(Instr.makeFunc fn first cap).run Tryz.prog w=.ok (.func fn first cap) w:=fun _ _ _ _=>rfl
 go_enter Tryz.func200,Tryz.ntmps200
 repeat'(first|go_skip|go_guarded|go_step|go_upon)
 go_ret
 exact ⟨rfl,rfl⟩
def ajl (rs:List Zn.LR) (i:Nat):Option (Int×Zn.LR):=if i < rs.length then some (((rs.length - 1 - i:Nat):Int),rs.getD (rs.length - 1 - i) default) else none
theorem al2 (n:Nat) (hn:2≤n) (box:Nat) (v:Value) (rs:List Zn.LR) (hz:rs.length≤1000000) (w:World) (hbox:obj w box=some (.cells #[v] 29 (0,0))) (hv:agc w v rs) :
  anc n Tryz.prog 208 #[.pointer (some ⟨box,0,none⟩)] (fun x u _=>u=#[.int .i64 x.1,.agg (aa0 x.2)]) (fun k=>k=box∨(0 < rs.length∧∃ b o m c,v=.slice (some ⟨b,o,none⟩) m c∧k=b)) (ajl rs) rs.length w:=by
 intro l R J Z W hW hR hJ hbd hY h0
 have aez:=a0a hbox hW
 have hv0:=hv.below hW
 obtain ⟨ao,c,rfl,hs⟩:=hv0
 have HS:=zA hs
 clear hs hv hbox
 have an2 : ¬ R box:=fun h=>(hR box h).2 (.inl rfl)
 refine callsIn_of_wp Tryz.func208 rfl trivial ?_ rfl
 simp only [Tryz.ntmps208,xJ,yS,xI,Nat.reduceAdd,Nat.reduceSub,xZ,xY,wK,wE,wO,xK]
 have w0:IntKind.wrap .i64 ((rs.length:Int) - 1)=(rs.length:Int) - 1:=wrap_in (by omega) (by omega)
 have c0:=a02 aez 0
 gi_wp2_with fail
 gi_loopw [3] (fun i wr => ∃ k:Nat,k≤rs.length∧i=.int .i64 ((rs.length:Int) - 1 - k)∧J k wr∧a0o R W wr) (fun i _=>(intOf i+1).toNat)
 case atStart=>exact ⟨0,by omega,by simp,h0,a0o.refl _ _⟩
 clear c0 h0
 obtain ⟨k,hk,rfl,hJk,hK⟩:=hrel
 have bx:obj wr box=some (.cells #[.slice ao rs.length c] 29 (0,0)):=(hK.2 box (a09 aez) an2).trans aez
 have c0:=a02 bx 0
 by_cases hlt:k < rs.length;rotate_left
 ·have hkl:k=rs.length:=by omega
  have i1:((rs.length:Int) - 1 - (k:Int)) < 0:=by omega
  gi_wp2_with fail
  go_end0
  exact ⟨⟨_,rfl⟩,.inl ⟨k,by unfold ajl;rw [zS hlt],hJk⟩⟩
 obtain ⟨b,o,row,T,fr,rfl,q1,q2⟩:=HS.out (by omega)
 obtain ⟨z0,k2⟩:=q2 (rs.length - 1 - k) (by omega)
 have hbR : ¬ R b:=fun h=>(hR b h).2 (.inr ⟨by omega,b,o,rs.length,c,rfl,rfl⟩)
 have q1':obj wr b=some (.cells row T fr):=(hK.2 b (a09 q1) hbR).trans q1
 have k3:row.extract (o+(rs.length - 1 - k) * 3) (o+(rs.length - 1 - k) * 3+3)=aa0 (rs.getD (rs.length - 1 - k) default):=k2
 clear k2 q2
 have hi:((rs.length:Int) - 1 - (k:Int))=((rs.length - 1 - k:Nat):Int):=by omega
 rw [hi]
 have hnx:ajl rs k=some (((rs.length - 1 - k:Nat):Int),rs.getD (rs.length - 1 - k) default):=zQ hlt
 obtain ⟨fn,tmps,assign,body,hy,hR2⟩:=hY k _ _ wr hJk hnx rfl
 (try dsimp only at hy)
 have hm:rs.length - 1 - k < rs.length:=by omega
 have HM:=zA (show rs.length - 1 - k+1+k=rs.length by omega)
 have z1:(o+(rs.length - 1 - k) * 3+3≤row.size)=True:=xN z0
 clear hnx hi z0
 generalize rs.getD (rs.length - 1 - k) default=r at *
 generalize hM:rs.length - 1 - k=m at *
 clear hM
 have i0 : ¬ (m:Int) < 0:=by omega
 have i1:(m:Int) < (rs.length:Int):=by omega
 have w1:IntKind.wrap .i64 ((m:Int) - 1)=(m:Int) - 1:=wrap_in (by omega) (by omega)
 have rz:aa0 r=#[.int .i64 r.every,.int .i64 r.rest,.bool r.yes]:=rfl
 rw [rz] at hy k3
 clear rz
 gi_wp2_with fail
 refine ⟨fun _=>by omega,hR2.mono ?_⟩
 rintro e W5 ⟨hk5,(⟨rfl,hJ5⟩ | ⟨rfl,hZ5⟩)⟩
 ·gi_wp2_with fail
  refine ⟨⟨k+1,by omega,?_,hJ5,hK.trans hk5⟩,by simp [intOf]<;>omega⟩
  have:=HM.out
  congr 1
  omega
 gi_wp2_with fail
 refine yO (results_none rfl _ _ _) rfl ?_
 exact ⟨⟨_,rfl⟩,.inr hZ5⟩
def ajm (c:Zn.Cal) (mv rv sv:Value):Array Value:=#[.int .i64 c.a08,mv,.int .i64 c.a0l,rv,sv]
def anb (rs:List Zn.LR) (y:Int) (k:Nat):Prop:=y % (rs.getD k default).every=(rs.getD k default).rest
theorem a8r {rs:List Zn.LR} {k:Nat} (h:k < rs.length) (y:Int):Zn.a3m (rs.take (k+1)) y=if y % (rs.getD k default).every=(rs.getD k default).rest then (rs.getD k default).yes else Zn.a3m (rs.take k) y:=by
 rw [List.take_succ_eq_append_getElem h,Zn.ah8,zB,zK h]
 rfl
theorem a7i {rs:List Zn.LR} {y:Int}:∀ (d n:Nat),rs.length - n=d→n≤rs.length→(∀ j,n≤j→j < rs.length→¬ anb rs y j)→Zn.a3m rs y=Zn.a3m (rs.take n) y
 | 0,n,hd,hn,_=>by rw [List.take_of_length_le (by omega)]
 | d+1,n,hd,hn,h=>by
  rw [a7i d (n+1) (by omega) (by omega) (fun j hj=>h j (by omega)),a8r (by omega)]
  exact zS (h n (zD _) (by omega))
theorem ah9 {rs:List Zn.LR} {y:Int} (h:∀ j,j < rs.length→¬ anb rs y j):Zn.a3m rs y=false:=by
 rw [a7i rs.length 0 (by omega) (by omega) (fun j _=>h j)]
 rfl
theorem aiv {rs:List Zn.LR} {y:Int} {k:Nat} (hk:k < rs.length) (ha:anb rs y k) (h:∀ j,k < j→j < rs.length→¬ anb rs y j):Zn.a3m rs y=(rs.getD k default).yes:=by
 rw [a7i (rs.length - (k+1)) (k+1) rfl (by omega) (fun j hj=>h j (by omega)),a8r hk]
 exact zQ ha
theorem a2j {P:Program} {fn:Func} {p:Tmp} {ty:TypeId} (h:fn.results=#[.cell p ty]) (tmps:Array Value) (w:World) (g:Nat) (v:Value) (d:TypeDesc)
  (hp:tmps.getD p undef=.pointer (some ⟨g,0,none⟩)) (hg:w.cell? ⟨g,0,none⟩=some v) (hu:P.underlying ty=some d) (hd:(match d with | .struct _ | .array _ _=>true | _=>false)=false) :
  (results fn tmps).run P w=.ok v w:=by
 have hagg:(isAgg ty).run P w=.ok false w:=by
  unfold isAgg
  rw [vV,vS hu w]
  cases d<;>simp_all
 have hp':tmps[p]?.getD undef=.pointer (some ⟨g,0,none⟩):=by simpa using hp
 simp [results,h,hp',asAddr,loadVar,vV,hagg,go_sem,hg]
theorem a1r {B:Nat} {A W:World} {D:Nat} {o:Obj} (h:Below B A W) (hD:B≤D):Below B A (W.putObj D o) :=
 ⟨h.os,h.tape,h.output,by simpa [World.putObj] using h.size,fun i hi=>(World.putObj_heap_other (by omega)).trans (h.block i hi)⟩
theorem ah7 {W:World} {c:Zn.Cal} {mv rv sv:Value} (hv:a8w W c mv rv) (hs:sv.oneCell' = true) (hz:c.rules.length≤16) (hr:∀ r∈c.rules,r.ok=true) (y:Int) :
  Calls Tryz.prog 180 #[.agg (ajm c mv rv sv),.int .i64 y] W fun e w'=>e=.returned (.bool (Zn.a3m c.rules y))∧Below W W w':=by
 have om:=hv.mon.one
 have HV:=zA hv
 unfold ajm
 obtain ⟨ro,rc,hrv,_⟩:=hv.rul
 have HR:=zA hr
 clear hv hr
 have oA:obj ((((W.alloc (.cells #[c.a08,mv,c.a0l,rv,sv] 124)).alloc (.cells #[y] 3)).alloc (.cells #[.bool false] 4)).alloc (.cells #[rv] 29)) W.heap.size=some (.cells #[c.a08,mv,c.a0l,rv,sv] 124 (0,0)):=a06 (a06 (a06 (a05 _ _ _ rfl) _) _) _
 have oY:obj ((((W.alloc (.cells #[c.a08,mv,c.a0l,rv,sv] 124)).alloc (.cells #[y] 3)).alloc (.cells #[.bool false] 4)).alloc (.cells #[rv] 29)) (W.heap.size+1)=some (.cells #[y] 3 (0,0)):=a06 (a06 (a05 _ _ _ (by simp)) _) _
 have oC:obj ((((W.alloc (.cells #[c.a08,mv,c.a0l,rv,sv] 124)).alloc (.cells #[y] 3)).alloc (.cells #[.bool false] 4)).alloc (.cells #[rv] 29)) (W.heap.size+2)=some (.cells #[.bool false] 4 (0,0)):=a06 (a05 _ _ _ (by simp)) _
 have oD:obj ((((W.alloc (.cells #[c.a08,mv,c.a0l,rv,sv] 124)).alloc (.cells #[y] 3)).alloc (.cells #[.bool false] 4)).alloc (.cells #[rv] 29)) (W.heap.size+3)=some (.cells #[rv] 29 (0,0)):=a05 _ _ _ (by simp)
 have w4B:Below W W ((((W.alloc (.cells #[c.a08,mv,c.a0l,rv,sv] 124)).alloc (.cells #[y] 3)).alloc (.cells #[.bool false] 4)).alloc (.cells #[rv] 29)):=(((bR.alloc (zD _) _).alloc (by simp) _).alloc (by simp;omega) _).alloc (by simp;omega) _
 have w4z:((((W.alloc (.cells #[c.a08,mv,c.a0l,rv,sv] 124)).alloc (.cells #[y] 3)).alloc (.cells #[.bool false] 4)).alloc (.cells #[rv] 29)).heap.size=W.heap.size+4:=by simp
 have HBK:=zA (fun (W':World)=>ahq ro c.rules.length rc W')
 subst hrv
 refine (wW (n:=8)).1 ?_
 refine callsIn_of_wp_marks Tryz.func180 rfl trivial ?_
 simp only [Tryz.ntmps180,xJ,yS,xI,Nat.reduceAdd,Nat.reduceSub,xZ,xY,wK,wE,wO,xK]
 gi_wp2_with (refine ⟨trivial,?_⟩;gi_at_call 200;refine (wW.2 (HBK.out _)).mono ?_;rintro e w1 ⟨rfl,rfl⟩)
 change Code.wpIn _ _ _ _ _ _ ((((W.alloc (.cells #[c.a08,mv,c.a0l,.slice ro c.rules.length rc,sv] 124)).alloc (.cells #[y] 3)).alloc (.cells #[.bool false] 4)).alloc (.cells #[.slice ro c.rules.length rc] 29))
 generalize ((((W.alloc (.cells #[c.a08,mv,c.a0l,.slice ro c.rules.length rc,sv] 124)).alloc (.cells #[y] 3)).alloc (.cells #[.bool false] 4)).alloc (.cells #[.slice ro c.rules.length rc] 29))=W0 at *
 have hv0:=HV.out.below w4B
 refine a5h (n:=8) (gf:=208) (lb:=#[.pointer (some ⟨W.heap.size+3,0,none⟩)]) rfl (enters_of Tryz.func208 (by kernel_rfl) rfl) (al2 7 (by omega) (W.heap.size+3) _ c.rules (by omega) W0 oD hv0.rul)
  (fun x v W hv=>by subst hv;rfl) ?aaj (fun k=>k=W.heap.size+2) ?hR
  (fun i W'=>i≤c.rules.length∧(∀ j,c.rules.length - i≤j→j < c.rules.length→¬ anb c.rules y j)∧obj W' (W.heap.size+1)=some (.cells #[y] 3 (0,0))∧obj W' (W.heap.size+2)=some (.cells #[.bool false] 4 (0,0))∧Below W W W'∧W.heap.size+4≤W'.heap.size)
  (fun d W'=>d=.ret∧obj W' (W.heap.size+2)=some (.cells #[.bool (Zn.a3m c.rules y)] 4 (0,0))∧Below W W W'∧W.heap.size+4≤W'.heap.size)
  ?hI ?hIx (fun i W h=>h.1) ⟨by omega,fun j h1 h2=>by omega,oY,oC,w4B,by omega⟩ ?round ?done ?_
 case aaj =>
  rintro k (rfl | ⟨h0,b,o,m,cc,e,rfl⟩)
  ·omega
  obtain ⟨ao,c2,e2,h2⟩:=hv0.rul
  obtain ⟨b2,o2,row,T,fr,e3,q,_⟩:=h2 h0
  rw [e2] at e
  subst e3
  cases e
  exact a09 q
 case hR =>
  rintro k rfl
  refine ⟨by omega,?_⟩
  rintro (h | ⟨h0,b,o,m,cc,e,h⟩)
  ·omega
  obtain ⟨ao,c2,e2,h2⟩:=HV.out.rul
  obtain ⟨b2,o2,row,T,fr,e3,q,_⟩:=h2 h0
  rw [e2] at e
  subst e3
  cases e
  have:=a09 q
  omega
 case hI => rintro i A B hAB ⟨h1,h2,h3,h4,h5,h6⟩;exact ⟨h1,h2,a04 h3 hAB (by omega),a04 h4 hAB (by omega),h5.trans (hAB.mono (by omega)),yG h6 hAB.size⟩
 case hIx => rintro d A B hAB ⟨h1,h4,h5,h6⟩;exact ⟨h1,a04 h4 hAB (by omega),h5.trans (hAB.mono (by omega)),yG h6 hAB.size⟩
 case round =>
  rintro l i x v W1 ⟨h1,h2,h3,h4,h5,h6⟩ hx rfl hz1 hl hlc
  unfold ajl at hx
  split at hx
  case isFalse=>cases hx
  rename_i hlt
  cases hx
  have HH:=zA h2
  have hmem:c.rules.getD (c.rules.length - 1 - i) default∈c.rules:=by
   rw [zB,zK (by omega)];exact yT _
  have hrok:=HR.out _ hmem
  simp only [Zn.LR.ok,zN,zM] at hrok
  obtain ⟨r1,r2,_,_⟩:=hrok
  have HA:Hid (anb c.rules y (c.rules.length - 1 - i)↔y % (c.rules.getD (c.rules.length - 1 - i) default).every=(c.rules.getD (c.rules.length - 1 - i) default).rest):=zA Iff.rfl
  have HYS:=zA (show (c.rules.getD (c.rules.length - 1 - i) default).yes=(c.rules.getD (c.rules.length - 1 - i) default).yes from rfl)
  have HE:Hid (∀ k,k=c.rules.length - 1 - i→c.rules.getD k default=c.rules.getD (c.rules.length - 1 - i) default):=zA fun k hk=>by rw [hk]
  clear h2 hmem HYS
  generalize c.rules.getD (c.rules.length - 1 - i) default=r at *
  have rz:aa0 r=#[.int .i64 r.every,.int .i64 r.rest,.bool r.yes]:=rfl
  dsimp only
  rw [rz]
  clear rz
  gi_wp2_with fail
  refine ⟨bR.alloc (zD _) _,fun W2 hB2 hkeep hsz=>?_⟩
  have k6:obj W2 W1.heap.size=some (.cells #[r.every,r.rest,.bool r.yes] 95 (0,0)):=(hkeep W1.heap.size (by simp) (by omega)).trans (a05 _ _ _ rfl)
  have kY:obj W2 (W.heap.size+1)=some (.cells #[y] 3 (0,0)):=a04 (a06 h3 _) hB2 (by omega)
  have kC:obj W2 (W.heap.size+2)=some (.cells #[.bool false] 4 (0,0)):=a04 (a06 h4 _) hB2 (by omega)
  have kB:Below W W W2:=(h5.alloc (by omega) _).trans (hB2.mono (by omega))
  have kz:W1.heap.size+1≤W2.heap.size:=by have:=hB2.size;simp at this;omega
  clear hkeep hlc hsz hB2
  generalize W1.heap.size=g6 at *
  have lY:=a09 kY
  have l6:=a09 k6
  refine wpIn_block ?_
  refine wpIn_seq ?_
  refine a9u 7 [([],fun v _=>v=.int .i64 y),([],fun v _=>v=.pointer (some ⟨g6,0,none⟩)),([1],fun v _=>v=.int .i64 r.every),([0,2],fun v _=>v=.int .i64 (y % r.every)),([],fun v _=>v=.pointer (some ⟨g6,1,none⟩)),([4],fun v _=>v=.int .i64 r.rest),
    ([3,5],fun v _=>v=.bool (y % r.every == r.rest))] (by kernel_rfl) (by kernel_rfl) (by kernel_rfl) (by kernel_rfl) (fun _ _ h=>h) ?st ?ob ?_
  case st => intro k v W1 W2 h hb;rcases k with _|_|_|_|_|_|_|k<;>first | exact h | trivial
  case ob => and_intros<;>first|exact ⟨⟩|(intro vs Wq hW hk;(have q0:=a02 (a04 kY hW lY) 0);(have q1:=a02 (a04 k6 hW l6) 0);(have q2:=a02 (a04 k6 hW l6) 1);(try simp only [knows,Spec.at',↓zH,↓zG,yL] at hk);simp only [Spec.at',↓zH,↓zG,a00,a03,yy0,yy1,yy2,yy3];(try simp only [hk]);first | ((repeat'(first|go_skip|go_guarded|go_step|go_upon));exact a01 _ rfl (by go_simp) bR rfl) | ((have HX:=zA (@abp Wq y r.every (by omega) (by omega)));(repeat' (first | (go_at_call 187;((with_reducible refine (HX.out).mono ?_));rintro e w5 ⟨rfl,rfl⟩;dsimp only)|go_skip|go_guarded|go_step|go_upon));exact a01 _ rfl (by go_simp) bR rfl) | fail)
  intro vs W3 hW3 hk
  have v6:vs 6=.bool (y % r.every == r.rest):=hk 6 (by decide)
  clear hk
  dsimp only [a1d,List.take,List.drop]
  simp only [Act.put,zF,zI,zJ]
  rw [v6]
  generalize vs 0=q0,vs 1=q1,vs 2=q2,vs 3=q3,vs 4=q4,vs 5=q5
  clear v6
  have q6:=a04 k6 hW3 l6
  have qC:=a04 kC hW3 (by omega)
  have qB:=kB.trans (hW3.mono kB.size)
  have qz:=hW3.size
  have HKB:Hid (∀ k,k < W2.heap.size→k≠W.heap.size+2→True):=zA fun _ _ _=>trivial
  refine wpList_nil ?_
  by_cases ha:y % r.every=r.rest
  ·have e1:(y % r.every == r.rest)=true:=by simp [ha]
   rw [e1];have HL:Hid (Zn.a3m c.rules y=r.yes):=zA (by rw [aiv (by omega) (HA.out.2 ha) (fun j h1 h2=>HH.out j (by omega) h2),HE.out _ rfl]);clear ha e1;have c2:=a02 q6 2;have f0:=a0d qC 0;have c0:=a02 qC 0
   gi_wp2_with fail
   refine ⟨⟨by simp;omega,fun k hk hn=>(zO _ _ _ _ (by simpa using hn)).trans (hW3.block k hk)⟩,rfl,?_,qB.setCell (by simp;omega) _,by simp;omega⟩;rw [a0c,qC,HL.out];rfl
  have e1:(y % r.every == r.rest)=false:=by simpa using ha
  rw [e1]
  have HN:Hid (∀ j,c.rules.length - (i+1)≤j→j < c.rules.length→¬ anb c.rules y j):=zA fun j h1 h2=>(by by_cases hj:j=c.rules.length - 1 - i;exact hj ▸ fun h=>ha (HA.out.1 h);exact HH.out j (by omega) h2)
  clear ha e1
  gi_wp2_with fail
  exact ⟨⟨qz,fun k hk _=>hW3.block k hk⟩,by omega,HN.out,a04 kY hW3 lY,qC,qB,by omega⟩
 case done =>
  rintro D i W1 hx ⟨h1,h2,h3,h4,h5,h6⟩ hD hK
  have hle:Zn.a3m c.rules y=false:=ah9 fun j hj=>h2 j (by unfold ajl at hx;split at hx<;>first | (cases hx;done) | omega) hj
  have HLE:=zA hle
  have HK:=zA hK
  clear hK hle h2
  have f0:=a0d h4 0
  have c0:=a02 h4 0
  gi_wp2_with fail
  have hBs:Below W W (W1.setCell ⟨W.heap.size+2,0,none⟩ (.bool false)):=h5.setCell (by simp) _
  have hCs:obj (W1.setCell ⟨W.heap.size+2,0,none⟩ (.bool false)) (W.heap.size+2)=some (.cells #[.bool false] 4 (0,0)):=by rw [a0c,h4];rfl
  have hKs:(W1.setCell ⟨W.heap.size+2,0,none⟩ (.bool false)).heap[D]? = some (.deferred (some [])):=(zO _ _ _ _ (by simp;omega)).trans HK.out
  refine ⟨by simp,.inl ⟨_,_,rfl,run_takeDeferred hKs,?_⟩⟩
  refine ⟨_,a2j rfl _ _ (W.heap.size+2) (.bool false) _ rfl (a02 ((World.putObj_heap_other (show W.heap.size+2≠D by omega)).trans hCs) 0) Tryz.underlying4 rfl,by rw [HLE.out],a1r hBs (by omega)⟩
 rintro D d W1 ⟨rfl,h4,h5,h6⟩ hD hK;have HK:=zA hK;clear hK;gi_wp2_with fail;refine ⟨by simp,.inl ⟨_,_,rfl,run_takeDeferred HK.out,?_⟩⟩;refine ⟨_,a2j rfl _ _ (W.heap.size+2) (.bool (Zn.a3m c.rules y)) _ rfl (a02 ((World.putObj_heap_other (show W.heap.size+2≠D by omega)).trans h4) 0) Tryz.underlying4 rfl,rfl,a1r h5 (by omega)⟩
end Go.Proofs.YtppjleebbjipbaaGreat
namespace Go.Proofs.YtppjleebbjipbaaGreat
open Go.RowKit
set_option maxRecDepth 20000
set_option maxHeartbeats 8000000
theorem a1h {c:Zn.Cal} (h:c.ok=true):c.Hd∧c.a0g.all Zn.a2p=true∧(∀ r∈c.rules,r.ok=true)∧Zn.period 1 c.rules=some c.a5b∧1≤c.a5b∧c.a5b≤400:=by
 simp only [Zn.Cal.ok,zN,zM] at h
 obtain ⟨h1,h2,h3⟩:=h
 obtain ⟨n,hn⟩:=Option.isSome_iff_exists.1 h3
 have hy:c.a5b=n:=by unfold Zn.Cal.a5b;rw [hn];rfl
 have:=Zn.aa8 hn (by omega) (by omega)
 exact ⟨h1,h2,Zn.adh hn,by rw [hn,hy],by omega,by omega⟩
theorem ah3 {a b:Int} {u v s:Value} (h1:u.oneCell' = true) (h2:v.oneCell' = true) (h3:s.oneCell' = true):ones #[a,u,b,v,s]=true:=by
 simp [ones,h1,h2,h3,a0n]
theorem a6t {a b:Int} {u v:Value} (h1:u.oneCell' = true) (h2:v.oneCell' = true):ones #[a,u,b,v]=true:=by
 simp [ones,h1,h2,a0n]
theorem aad {W:World} {c:Zn.Cal} {mv rv sv:Value} (hv:a8w W c mv rv) (hs:sv.oneCell' = true) (hok:c.ok=true) (y:Int) {k:Nat} (hk:k < c.a0g.length) :
  Calls Tryz.prog 146 #[.agg #[c.a08,mv,c.a0l,rv,sv],.int .i64 y,.int .i64 ((k:Int)+1)] W fun e w'=>e=.returned (.int .i64 (Zn.a97 c y k))∧Below W W w':=by
 obtain ⟨hd,hmo,hr,_⟩:=a1h hok
 have h16:=hd.m16
 have anm:=hd.r16
 have hml:=Zn.a5s hmo y hk
 have hon:ones #[c.a08,mv,c.a0l,rv,sv]=true:=ah3 hv.mon.one hv.rul.one hs
 have b1:obj (W.alloc (.cells #[c.a08,mv,c.a0l,rv,sv] 124)) W.heap.size=some (.cells #[c.a08,mv,c.a0l,rv,sv] 124 (0,0)):=a05 _ _ _ rfl
 have w1B:Below W W (W.alloc (.cells #[c.a08,mv,c.a0l,rv,sv] 124)):=bR.alloc (zD _) _
 have HL:=zA (ah7 (hv.below w1B) hs anm hr y)
 unfold ajm at HL
 obtain ⟨mo,mc,hmv,hms⟩:=hv.mon
 obtain ⟨b,o,row,T,fr,ar5,q1,q2⟩:=hms (by omega)
 subst ar5
 have cm:=(a02 (a04 q1 w1B (a09 q1)) (o+k)).trans (q2 k hk)
 have hlen:(k:Int) < (c.a0g.length:Int):=by omega
 have w0:IntKind.wrap .i64 ((k:Int)+1 - 1)=(k:Int):=by rw [wrap_in]<;>omega
 have hvl:Zn.a97 c y k=c.a0g.getD k 0+(if (k:Int)=c.a0l∧Zn.a3m c.rules y=true then 1 else 0):=rfl
 have hmb:0≤c.a0g.getD k 0∧c.a0g.getD k 0≤41:=by
  rw [hvl] at hml
  split at hml<;>omega
 have HV:=zA hvl
 clear hvl hml hms q1 q2 hmo hr hok hd
 generalize Zn.a97 c y k=r at *
 generalize c.a0g.getD k 0=n at *
 have w1:=zWI (n+1)
 subst hmv
 by_cases hl:(k:Int)=c.a0l
 ·have e1:((k:Int) == c.a0l)=true:=by simp [hl]
  cases hb:Zn.a3m c.rules y
  ·have HN:Hid (r=n):=zA (by rw [HV.out,zS (by rw [hb];simp),Int.add_zero])
   rw [hb] at HL;clear HV hl hb;go_enter Tryz.func146,Tryz.ntmps146
   repeat' (first | (go_at_call 180;((with_reducible refine (HL.out).mono ?_));rintro e w5 ⟨rfl,hb5⟩;have hB5:=w1B.trans (hb5.mono w1B.size);dsimp only)|go_skip|go_guarded|go_step|go_upon)
   go_ret;exact ⟨by rw [HN.out];rfl,hB5⟩
  have HN:Hid (r=n+1):=zA (by rw [HV.out,zQ ⟨hl,hb⟩])
  rw [hb] at HL
  clear HV hl hb
  go_enter Tryz.func146,Tryz.ntmps146
  repeat' (first | (go_at_call 180;((with_reducible refine (HL.out).mono ?_));rintro e w5 ⟨rfl,hb5⟩;have hB5:=w1B.trans (hb5.mono w1B.size);dsimp only)|go_skip|go_guarded|go_step|go_upon)
  go_ret
  exact ⟨by rw [HN.out];rfl,hB5⟩
 have e1:((k:Int) == c.a0l)=false:=by simpa using hl
 have HN:Hid (r=n):=zA (by rw [HV.out,zS (fun h=>hl h.1),Int.add_zero])
 clear HV hl
 go_enter Tryz.func146,Tryz.ntmps146
 repeat'(first|go_skip|go_guarded|go_step|go_upon)
 go_ret
 exact ⟨by rw [HN.out];rfl,w1B⟩
theorem ab2 {W:World} {c:Zn.Cal} {mv rv sv:Value} (hv:a8w W c mv rv) (hs:sv.oneCell' = true) (hok:c.ok=true) (y:Int) :
  Calls Tryz.prog 115 #[.agg #[c.a08,mv,c.a0l,rv,sv],.int .i64 y] W fun e w'=>e=.returned (.int .i64 (Zn.a4f c y))∧Below W W w':=by
 obtain ⟨hd,hmo,hr,_⟩:=a1h hok
 have h16:=hd.m16
 have hon:ones #[c.a08,mv,c.a0l,rv,sv]=true:=ah3 hv.mon.one hv.rul.one hs
 have b1:obj (W.alloc (.cells #[c.a08,mv,c.a0l,rv,sv] 124)) W.heap.size=some (.cells #[c.a08,mv,c.a0l,rv,sv] 124 (0,0)):=a05 _ _ _ rfl
 have w1B:Below W W (W.alloc (.cells #[c.a08,mv,c.a0l,rv,sv] 124)):=bR.alloc (zD _) _
 have HM:=zA (fun (W':World) (hb:Below W W W') (k:Nat) (hk:k < c.a0g.length)=>aad (hv.below hb) hs hok y hk)
 have HS:=zA (Zn.a8q hmo y)
 have HY:Hid (Zn.a4f c y=Zn.a6z c y c.a0g.length):=zA rfl
 have HSS:Hid (∀ k,Zn.a6z c y (k+1)=Zn.a6z c y k+Zn.a97 c y k):=zA fun _=>rfl
 have HP:=zA (fun k (hk:k < c.a0g.length)=>Zn.a5s hmo y hk)
 obtain ⟨mo,mc,hmv,hms⟩:=hv.mon
 subst hmv
 clear hd hmo hr hms hok hv
 go_enter Tryz.func115,Tryz.ntmps115
 repeat'(first|go_skip|go_guarded|go_step|go_upon)
 go_loopw [5,11] (fun s i wr => ∃ k:Nat,k≤c.a0g.length∧i=.int .i64 k∧s=.int .i64 (Zn.a6z c y k)∧Below (W.alloc (.cells #[c.a08,(.slice mo c.a0g.length mc),c.a0l,rv,sv] 124)).heap.size (W.alloc (.cells #[c.a08,(.slice mo c.a0g.length mc),c.a0l,rv,sv] 124)) wr) (fun _ i _=>((c.a0g.length:Int) - intOf i).toNat)
 case atStart=>exact ⟨0,by omega,rfl,rfl,zC _ _⟩
 obtain ⟨k,hk,rfl,rfl,hC⟩:=hrel
 have hB:=w1B.trans (hC.mono w1B.size)
 have bb:=a0a b1 hC
 by_cases hlt:k < c.a0g.length
 ·have i1:(k:Int) < (c.a0g.length:Int):=by omega
  have HX:=zA (HM.out wr hB k hlt)
  have hs1:=HS.out k (by omega)
  have hp1:=HP.out k hlt
  have w0:=zWI ((k:Int)+1)
  have HQ:=zA (HSS.out k)
  generalize Zn.a6z c y k=s at *
  generalize Zn.a97 c y k=m at *
  have w2:=zWI (s+m)
  repeat' (first | (go_at_call 146;((with_reducible refine (HX.out).mono ?_));rintro e w5 ⟨rfl,hb5⟩;have hC5:=hC.trans (hb5.mono hC.size);dsimp only)|go_skip|go_guarded|go_step|go_upon)
  exact ⟨⟨k+1,by omega,by go_num,by rw [HQ.out],hC5⟩,by simp [intOf];omega⟩
 have i1 : ¬ (k:Int) < (c.a0g.length:Int):=by omega
 have HK:Hid (Zn.a4f c y=Zn.a6z c y k):=zA (by rw [HY.out,show k=c.a0g.length by omega])
 generalize Zn.a6z c y k=s at *
 repeat'(first|go_skip|go_guarded|go_step|go_upon)
 go_ret
 exact ⟨by rw [HK.out];rfl,hB⟩
theorem a8v {W:World} {c:Zn.Cal} {mv rv:Value} (hv:a8w W c mv rv) (hok:c.ok=true) (y:Int) {k:Nat} (hk:k < c.a0g.length) :
  Calls Tryz.prog 164 #[.agg #[c.a08,mv,c.a0l,rv],.int .i64 y,.int .i64 ((k:Int)+1)] W fun e w'=>e=.returned (.int .i64 (Zn.a97 c y k))∧Below W W w':=by
 obtain ⟨hd,hmo,hr,_⟩:=a1h hok
 have h16:=hd.m16
 have hon:ones #[c.a08,mv,c.a0l,rv]=true:=a6t hv.mon.one hv.rul.one
 have b1:obj (W.alloc (.cells #[c.a08,mv,c.a0l,rv] 31)) W.heap.size=some (.cells #[c.a08,mv,c.a0l,rv] 31 (0,0)):=a05 _ _ _ rfl
 have w1B:Below W W (W.alloc (.cells #[c.a08,mv,c.a0l,rv] 31)):=bR.alloc (zD _) _
 have HV:=zA (a5q (hv.below w1B) (by have:=hd.r16;omega) (by omega))
 unfold a4d at HV
 rw [hok] at HV
 have HX:=zA (fun (W':World) (hb:Below (W.alloc (.cells #[c.a08,mv,c.a0l,rv] 31)).heap.size (W.alloc (.cells #[c.a08,mv,c.a0l,rv] 31)) W')=>aad (sv:=.slice none 0 0) (hv.below (w1B.trans (hb.mono w1B.size))) rfl hok y hk)
 obtain ⟨mo,mc,hmv,hms⟩:=hv.mon
 subst hmv
 generalize Zn.a97 c y k=r at *
 clear hd hmo hr hms hok hv
 have t1 : ¬ (k:Int)+1 < 1:=by omega
 have t2 : ¬ (c.a0g.length:Int) < (k:Int)+1:=by omega
 go_enter Tryz.func164,Tryz.ntmps164
 repeat' (first | (go_at_call 94;((with_reducible refine (HV.out).mono ?_));rintro e w5 ⟨rfl,hb5⟩;have b5:=a0a b1 hb5;have c51:=a02 b5 1;have hB5:=w1B.trans (hb5.mono w1B.size);have HX5:=zA (HX.out _ hb5);dsimp only) | (go_at_call 146;((with_reducible refine (HX5.out).mono ?_));rintro e w6 ⟨rfl,hb6⟩;have hB6:=hB5.trans (hb6.mono hB5.size);dsimp only)|go_skip|go_guarded|go_step|go_upon)
 go_ret
 exact ⟨rfl,hB6⟩
theorem a5y {W:World} {c:Zn.Cal} {mv rv:Value} (hv:a8w W c mv rv) (hok:c.ok=true) (y:Int) :
  Calls Tryz.prog 134 #[.agg #[c.a08,mv,c.a0l,rv],.int .i64 y] W fun e w'=>e=.returned (.int .i64 (Zn.a4f c y))∧Below W W w':=by
 obtain ⟨hd,hmo,hr,_⟩:=a1h hok
 have h16:=hd.m16
 have hon:ones #[c.a08,mv,c.a0l,rv]=true:=a6t hv.mon.one hv.rul.one
 have b1:obj (W.alloc (.cells #[c.a08,mv,c.a0l,rv] 31)) W.heap.size=some (.cells #[c.a08,mv,c.a0l,rv] 31 (0,0)):=a05 _ _ _ rfl
 have w1B:Below W W (W.alloc (.cells #[c.a08,mv,c.a0l,rv] 31)):=bR.alloc (zD _) _
 have HV:=zA (a5q (hv.below w1B) (by have:=hd.r16;omega) (by omega))
 unfold a4d at HV
 rw [hok] at HV
 have HX:=zA (fun (W':World) (hb:Below (W.alloc (.cells #[c.a08,mv,c.a0l,rv] 31)).heap.size (W.alloc (.cells #[c.a08,mv,c.a0l,rv] 31)) W')=>ab2 (sv:=.slice none 0 0) (hv.below (w1B.trans (hb.mono w1B.size))) rfl hok y)
 obtain ⟨mo,mc,hmv,hms⟩:=hv.mon
 subst hmv
 generalize Zn.a4f c y=r at *
 clear hd hmo hr hms hok hv
 go_enter Tryz.func134,Tryz.ntmps134
 repeat' (first | (go_at_call 94;((with_reducible refine (HV.out).mono ?_));rintro e w5 ⟨rfl,hb5⟩;have b5:=a0a b1 hb5;have c51:=a02 b5 1;have hB5:=w1B.trans (hb5.mono w1B.size);have HX5:=zA (HX.out _ hb5);dsimp only) | (go_at_call 115;((with_reducible refine (HX5.out).mono ?_));rintro e w6 ⟨rfl,hb6⟩;have hB6:=hB5.trans (hb6.mono hB5.size);dsimp only)|go_skip|go_guarded|go_step|go_upon)
 go_ret
 exact ⟨rfl,hB6⟩
end Go.Proofs.YtppjleebbjipbaaGreat
