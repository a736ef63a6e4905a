/-
  clock.changes.
-/
import Derived.Test.YtppjleebbjipbaaGreatQkZnq
set_option linter.all false
namespace Zn
def a6k (nx:Nat→Option Tr) (u:Int):Nat→Nat→List Tr→Option (List Tr)
 | 0,_,_=>none
 | f+1,i,l =>
  match nx i with
  | none=>some l
  | some x=>if u≤x.tm then some l else if l.length=4096 then none else a6k nx u f (i+1) (l ++ [x])
theorem a7k {nx:Nat→Option Tr} {u:Int} {f i:Nat} {l:List Tr} {x:Tr} (h:nx i=some x):a6k nx u (f+1) i l=if u≤x.tm then some l else if l.length=4096 then none else a6k nx u f (i+1) (l ++ [x]):=by
 show (match nx i with | none=>some l | some x=>if u≤x.tm then some l else if l.length=4096 then none else a6k nx u f (i+1) (l ++ [x]))=_
 rw [h]
theorem aap {nx:Nat→Option Tr} {u:Int} {f i:Nat} {l:List Tr} (h:nx i=none):a6k nx u (f+1) i l=some l:=by
 show (match nx i with | none=>some l | some x=>if u≤x.tm then some l else if l.length=4096 then none else a6k nx u f (i+1) (l ++ [x]))=_
 rw [h]
def a2i (z:a0w) (ys:List Tr) (cyc t u:Int):Option (List Tr):=a6k (a2s z ys cyc t) u 4098 0 []
end Zn
namespace Go.Proofs.YtppjleebbjipbaaGreat
open Go.RowKit Go.Shelf
attribute [local go_sem] Oper.semAt_some
set_option maxRecDepth 100000
set_option maxHeartbeats 8000000
theorem a0i {P:Program} {fn:Func} {p q:Tmp} {ty tz:TypeId} (h:fn.results=#[.cell p ty,.cell q tz]) (tmps:Array Value) (w:World) (g k:Nat) (v u:Value) (d e:TypeDesc)
  (hp:tmps.getD p undef=.pointer (some ⟨g,0,none⟩)) (hq:tmps.getD q undef=.pointer (some ⟨k,0,none⟩)) (hg:w.cell? ⟨g,0,none⟩=some v) (hk:w.cell? ⟨k,0,none⟩=some u) (hu:P.underlying ty=some d) (hd:(match d with | .struct _ | .array _ _=>true | _=>false)=false)
  (hv:P.underlying tz=some e) (he:(match e with | .struct _ | .array _ _=>true | _=>false)=false) :
  (results fn tmps).run P w=.ok (.tuple #[v,u]) w:=by
 have ha:(isAgg ty).run P w=.ok false w:=by
  unfold isAgg
  rw [vV,vS hu w]
  cases d<;>simp_all
 have hb:(isAgg tz).run P w=.ok false w:=by
  unfold isAgg
  rw [vV,vS hv w]
  cases e<;>simp_all
 have hp':tmps[p]?.getD undef=.pointer (some ⟨g,0,none⟩):=by simpa using hp
 have hq':tmps[q]?.getD undef=.pointer (some ⟨k,0,none⟩):=by simpa using hq
 simp [results,h,hp',hq',asAddr,loadVar,vV,ha,hb,go_sem,hg,hk]
theorem a9h {w:World} {base T z:Nat} {v:Value} {n:Nat} {xs:List Value} (h:w.ownsRow base T z v n xs) {Q:Nat} {p o:Obj} (hQ:w.heap[Q]? = some p) (hp:∀ r t f,p≠.cells r t f):(w.putObj Q o).ownsRow base T z v n xs:=by
 refine ⟨h.1,h.2.imp id fun ⟨g,cap,cur,e,h1,h2,h3⟩=>⟨g,cap,cur,e,h1,?_,h3⟩⟩
 refine (World.putObj_heap_other fun e=>?_).trans h2
 subst e
 have:=hQ.symm.trans h2
 injection this with this
 exact hp _ _ _ this
theorem aih {w w':World} {base T z B:Nat} {v:Value} {n:Nat} {xs:List Value} {S:Nat→Prop} (h:w.ownsRow base T z v n xs) (hb:a1x B S w w') (hB:∀ k,base≤k→S k→False) (hz:w.heap.size≤B:=by omega):w'.ownsRow base T z v n xs:=by
 refine ⟨h.1,h.2.imp id fun ⟨g,cap,cur,e,h1,h2,h3⟩=>⟨g,cap,cur,e,h1,?_,h3⟩⟩
 have hl:=a09 (w:=w) h2
 exact (hb.block g (by omega) (fun q=>hB g h1 q)).trans h2
theorem a4l {W:World} {g:Nat} {z:Zn.a0w} {ys:List Zn.Tr} {cyc:Int} (h:aec W g z ys cyc) (hk:Zn.Ck z ys cyc) {t u:Int} (ht0 : -4503599627370496≤t) (ht1:t≤4503599627370496) :
  Calls Tryz.prog 73 #[.pointer (some ⟨g,0,none⟩),.int .i64 t,.int .i64 u] W fun e w'=>(∃ v,e=.returned (.tuple #[v,.bool (Zn.a2i z ys cyc t u).isSome])∧a2b w' v ((Zn.a2i z ys cyc t u).getD [])∧InD (fun k=>W.heap.size≤k) v ((Zn.a2i z ys cyc t u).getD []))∧Below W W w':=by
 have hcD:=h.inD
 obtain ⟨mv,rv,tv,yv,sv,hg,htv,hsv⟩:=h
 have lg:=a09 hg
 have o0:obj ((((((W.alloc (.cells #[u] 3)).alloc (.cells #[.slice none 0 0] 32)).alloc (.cells #[.bool false] 4)).alloc (.cells #[.slice none 0 0] 32)).alloc (.cells #[.pointer (some ⟨g,0,none⟩)] 96)).alloc (.cells #[t] 3)) W.heap.size=some (.cells #[u] 3 (0,0)):=a06 (a06 (a06 (a06 (a06 (a05 _ _ _ rfl) _) _) _) _) _
 have o1:obj ((((((W.alloc (.cells #[u] 3)).alloc (.cells #[.slice none 0 0] 32)).alloc (.cells #[.bool false] 4)).alloc (.cells #[.slice none 0 0] 32)).alloc (.cells #[.pointer (some ⟨g,0,none⟩)] 96)).alloc (.cells #[t] 3)) (W.heap.size+1)=some (.cells #[.slice none 0 0] 32 (0,0)):=a06 (a06 (a06 (a06 (a05 _ _ _ (by simp)) _) _) _) _
 have o2:obj ((((((W.alloc (.cells #[u] 3)).alloc (.cells #[.slice none 0 0] 32)).alloc (.cells #[.bool false] 4)).alloc (.cells #[.slice none 0 0] 32)).alloc (.cells #[.pointer (some ⟨g,0,none⟩)] 96)).alloc (.cells #[t] 3)) (W.heap.size+2)=some (.cells #[.bool false] 4 (0,0)):=a06 (a06 (a06 (a05 _ _ _ (by simp)) _) _) _
 have o3:obj ((((((W.alloc (.cells #[u] 3)).alloc (.cells #[.slice none 0 0] 32)).alloc (.cells #[.bool false] 4)).alloc (.cells #[.slice none 0 0] 32)).alloc (.cells #[.pointer (some ⟨g,0,none⟩)] 96)).alloc (.cells #[t] 3)) (W.heap.size+3)=some (.cells #[.slice none 0 0] 32 (0,0)):=a06 (a06 (a05 _ _ _ (by simp)) _) _
 have bA:obj ((((((W.alloc (.cells #[u] 3)).alloc (.cells #[.slice none 0 0] 32)).alloc (.cells #[.bool false] 4)).alloc (.cells #[.slice none 0 0] 32)).alloc (.cells #[.pointer (some ⟨g,0,none⟩)] 96)).alloc (.cells #[t] 3)) (W.heap.size+4)=some (.cells #[.pointer (some ⟨g,0,none⟩)] 96 (0,0)):=a06 (a05 _ _ _ (by simp)) _
 have bB:obj ((((((W.alloc (.cells #[u] 3)).alloc (.cells #[.slice none 0 0] 32)).alloc (.cells #[.bool false] 4)).alloc (.cells #[.slice none 0 0] 32)).alloc (.cells #[.pointer (some ⟨g,0,none⟩)] 96)).alloc (.cells #[t] 3)) (W.heap.size+5)=some (.cells #[t] 3 (0,0)):=a05 _ _ _ (by simp)
 have w0B:Below W W ((((((W.alloc (.cells #[u] 3)).alloc (.cells #[.slice none 0 0] 32)).alloc (.cells #[.bool false] 4)).alloc (.cells #[.slice none 0 0] 32)).alloc (.cells #[.pointer (some ⟨g,0,none⟩)] 96)).alloc (.cells #[t] 3)):=(((((bR.alloc (zD _) _).alloc (by simp) _).alloc (by simp;omega) _).alloc (by simp;omega) _).alloc (by simp;omega) _).alloc (by simp;omega) _
 have w0z:((((((W.alloc (.cells #[u] 3)).alloc (.cells #[.slice none 0 0] 32)).alloc (.cells #[.bool false] 4)).alloc (.cells #[.slice none 0 0] 32)).alloc (.cells #[.pointer (some ⟨g,0,none⟩)] 96)).alloc (.cells #[t] 3)).heap.size=W.heap.size+6:=by simp
 have HFR:=zA (a6r ((((W.alloc (.cells #[u] 3)).alloc (.cells #[.slice none 0 0] 32)).alloc (.cells #[.bool false] 4)).alloc (.cells #[.slice none 0 0] 32)) g t)
 have HK0:=zA hk
 refine (wW (n:=8)).1 ?_
 refine callsIn_of_wp_marks Tryz.func73 rfl trivial ?_
 simp only [Tryz.ntmps73,xJ,yS,xI,Nat.reduceAdd,Nat.reduceSub,xZ,xY,wK,wE,wO,xK]
 gi_wp2_with (refine ⟨trivial,?_⟩;gi_at_call 86;refine (wW.2 HFR.out).mono ?_;rintro e w1 ⟨rfl,rfl⟩)
 change Code.wpIn _ _ _ _ _ _ ((((((W.alloc (.cells #[u] 3)).alloc (.cells #[.slice none 0 0] 32)).alloc (.cells #[.bool false] 4)).alloc (.cells #[.slice none 0 0] 32)).alloc (.cells #[.pointer (some ⟨g,0,none⟩)] 96)).alloc (.cells #[t] 3))
 have an0:=(hcD.below w0B).mono (E:=fun k=>k < W.heap.size) (fun _ h=>h)
 generalize ((((((W.alloc (.cells #[u] 3)).alloc (.cells #[.slice none 0 0] 32)).alloc (.cells #[.bool false] 4)).alloc (.cells #[.slice none 0 0] 32)).alloc (.cells #[.pointer (some ⟨g,0,none⟩)] 96)).alloc (.cells #[t] 3))=V0 at *
 refine a3j (n:=8) (gf:=126) (lb:=#[.pointer (some ⟨W.heap.size+4,0,none⟩),.pointer (some ⟨W.heap.size+5,0,none⟩)]) rfl (enters_of Tryz.func126 (by kernel_rfl) rfl)
  (a9n 7 (by omega) (W.heap.size+4) (W.heap.size+5) (by omega) g HK0.out ht0 ht1 (fun k=>k < W.heap.size) (by show ¬ W.heap.size+4 < W.heap.size;omega) (by show ¬ W.heap.size+5 < W.heap.size;omega) 4096 (by omega) V0 bA bB an0)
  ?hown (fun x v W hv=>by subst hv;rfl) ?aaj (fun k=>k=W.heap.size+1∨k=W.heap.size+2∨k=W.heap.size+3) ?hR
  (fun i W' => ∃ (v:Value) (l:List Zn.Tr),i≤4096∧Zn.a2i z ys cyc t u=Zn.a6k (Zn.a2s z ys cyc t) u (4098 - i) i l∧W'.ownsRow (W.heap.size+8) 57 2 v i (a4g l)∧obj W' (W.heap.size+3)=some (.cells #[v] 32 (0,0))∧obj W' W.heap.size=some (.cells #[u] 3 (0,0))∧obj W' (W.heap.size+1)=some (.cells #[.slice none 0 0] 32 (0,0))∧obj W' (W.heap.size+2)=some (.cells #[.bool false] 4 (0,0))∧Below W W W'∧W.heap.size+6≤W'.heap.size)
  (fun d W'=>(d=.exit 0∧∃ (v:Value) (l:List Zn.Tr),Zn.a2i z ys cyc t u=some l∧W'.ownsRow (W.heap.size+8) 57 2 v l.length (a4g l)∧obj W' (W.heap.size+3)=some (.cells #[v] 32 (0,0))∧obj W' W.heap.size=some (.cells #[u] 3 (0,0))∧obj W' (W.heap.size+1)=some (.cells #[.slice none 0 0] 32 (0,0))∧obj W' (W.heap.size+2)=some (.cells #[.bool false] 4 (0,0))∧Below W W W'∧W.heap.size+8≤W'.heap.size) ∨
   (d=.ret∧Zn.a2i z ys cyc t u=none∧obj W' W.heap.size=some (.cells #[u] 3 (0,0))∧obj W' (W.heap.size+1)=some (.cells #[.slice none 0 0] 32 (0,0))∧obj W' (W.heap.size+2)=some (.cells #[.bool false] 4 (0,0))∧Below W W W'∧W.heap.size+8≤W'.heap.size))
  ?hI ?hIx (fun i W h=>by obtain ⟨_,_,h,_⟩:=h;exact h) ⟨.slice none 0 0,[],by omega,rfl,⟨rfl,.inl ⟨rfl,rfl⟩⟩,o3,o0,o1,o2,w0B,by omega⟩ ?round ?done ?stop
 case hown=>rintro k rfl;omega
 case aaj =>
  rintro k (rfl | rfl | h)
  ·omega
  ·omega
  have h:k < W.heap.size:=h
  omega
 case hR =>
  rintro k (rfl | rfl | rfl)
  ·exact ⟨by omega,by rintro (h | h | (h:_ < W.heap.size))<;>omega⟩
  ·exact ⟨by omega,by rintro (h | h | (h:_ < W.heap.size))<;>omega⟩
  exact ⟨by omega,by rintro (h | h | (h:_ < W.heap.size))<;>omega⟩
 case hI => rintro i A B hz hAB ⟨v,l,h1,h2,h3,h4,h5,h6,h7,h8,h9⟩;refine ⟨v,l,h1,h2,aih h3 hAB (fun k hk hs=>by omega),hAB.obj h4 (by omega) (by omega),hAB.obj h5 (by omega) (by omega),hAB.obj h6 (by omega) (by omega),hAB.obj h7 (by omega) (by omega),h8.trans (hAB.below (by omega) (fun k hk=>by omega)),yG h9 hAB.size⟩
 case hIx =>
  rintro d A B hz hAB (⟨h0,v,l,h2,h3,h4,h5,h6,h7,h8,h9⟩ | ⟨h0,h2,h5,h6,h7,h8,h9⟩)
  ·exact .inl ⟨h0,v,l,h2,aih h3 hAB (fun k hk hs=>by omega),hAB.obj h4 (by omega) (by omega),hAB.obj h5 (by omega) (by omega),hAB.obj h6 (by omega) (by omega),hAB.obj h7 (by omega) (by omega),h8.trans (hAB.below (by omega) (fun k hk=>by omega)),yG h9 hAB.size⟩
  exact .inr ⟨h0,h2,hAB.obj h5 (by omega) (by omega),hAB.obj h6 (by omega) (by omega),hAB.obj h7 (by omega) (by omega),h8.trans (hAB.below (by omega) (fun k hk=>by omega)),yG h9 hAB.size⟩
 case done =>
  rintro Q i W1 hx ⟨sl,l,h1,h2,h3,h4,h5,h6,h7,h8,h9⟩ hD hK
  have HK:=zA hK
  have hll:=(a13 h3).1
  have HC:Hid (Zn.a2i z ys cyc t u=some l):=zA (by rw [h2,show 4098 - i=(4097 - i)+1 by omega,Zn.aap hx])
  obtain ⟨va,vc,hsl⟩:=(a13 h3).2.2.2
  subst hsl
  have HKQ:Hid (∀ k,k=Q→W1.heap[k]? = some (.deferred (some []))):=zA fun k e=>by rw [e];exact HK.out
  clear hK hx h2
  generalize i=ll at *
  have e1s:obj (W1.setCell ⟨W.heap.size+1,0,none⟩ (.slice va ll vc)) (W.heap.size+1)=some (.cells #[.slice va ll vc] 32 (0,0)):=by rw [a0c,h6];rfl
  have e2s:obj (W1.setCell ⟨W.heap.size+1,0,none⟩ (.slice va ll vc)) (W.heap.size+2)=some (.cells #[.bool false] 4 (0,0)):=a07 h7 _ (show W.heap.size+2≠W.heap.size+1 by omega) _
  have f1:=a0d h6 0
  have c1:=a02 h6 0
  have f2:=a0d e2s 0
  have c2:=a02 e2s 0
  have c3:=a02 h4 0
  gi_wp2_with fail
  have e1t:obj ((W1.setCell ⟨W.heap.size+1,0,none⟩ (.slice va ll vc)).setCell ⟨W.heap.size+2,0,none⟩ (.bool true)) (W.heap.size+1)=_:=a07 e1s _ (show W.heap.size+1≠W.heap.size+2 by omega) _
  have e2t:obj ((W1.setCell ⟨W.heap.size+1,0,none⟩ (.slice va ll vc)).setCell ⟨W.heap.size+2,0,none⟩ (.bool true)) (W.heap.size+2)=some (.cells #[.bool true] 4 (0,0)):=by rw [a0c,e2s];rfl
  have owt:=yF (yF h3 (a2f h3 h6 (by decide)) (a:=⟨W.heap.size+1,0,none⟩) (.slice va ll vc)) (a:=⟨W.heap.size+2,0,none⟩) (a2f h3 h7 (by decide)) (.bool true)
  have hKs:((W1.setCell ⟨W.heap.size+1,0,none⟩ (.slice va ll vc)).setCell ⟨W.heap.size+2,0,none⟩ (.bool true)).heap[Q]? = some (.deferred (some [])):=(zO _ _ _ _ (show Q≠W.heap.size+2 by omega)).trans ((zO _ _ _ _ (show Q≠W.heap.size+1 by omega)).trans HK.out)
  have hBt:Below W W ((W1.setCell ⟨W.heap.size+1,0,none⟩ (.slice va ll vc)).setCell ⟨W.heap.size+2,0,none⟩ (.bool true)):=(h8.setCell (by show W.heap.size≤W.heap.size+1;omega) _).setCell (by show W.heap.size≤W.heap.size+2;omega) _
  refine ⟨by simp,.inl ⟨_,_,rfl,run_takeDeferred hKs,?_⟩⟩
  refine ⟨_,a0i rfl _ _ (W.heap.size+1) (W.heap.size+2) (.slice va ll vc) (.bool true) _ _ rfl rfl (a02 ((World.putObj_heap_other (show W.heap.size+1≠Q by omega)).trans e1t) 0) (a02 ((World.putObj_heap_other (show W.heap.size+2≠Q by omega)).trans e2t) 0) Tryz.underlying32 rfl Tryz.underlying4 rfl,⟨.slice va ll vc,by rw [HC.out];rfl,?_,?_⟩,a1r hBt (by omega)⟩
  ·rw [HC.out]
   exact (a13 (a9h owt hKs (fun _ _ _ e=>by cases e))).2.1
  rw [HC.out]
  intro h0 b o m c e
  obtain ⟨gq,cq,e2⟩:=(a13 owt).2.2.1 h0
  have hge:=a1p owt (g:=gq) (by rw [e2];rfl)
  rw [e2] at e
  cases e
  show W.heap.size≤b
  omega
 case stop =>
  rintro Q d W1 (⟨rfl,sl,l,h2,h3,h4,h5,h6,h7,h8,h9⟩ | ⟨rfl,h2,h5,h6,h7,h8,h9⟩) hD hK
  ·have HK:=zA hK
   have HC:=zA h2;obtain ⟨va,vc,hsl⟩:=(a13 h3).2.2.2;subst hsl
   have HKQ:Hid (∀ k,k=Q→W1.heap[k]? = some (.deferred (some []))):=zA fun k e=>by rw [e];exact HK.out
   clear hK h2;generalize l.length=ll at *;(have e1s:obj (W1.setCell ⟨W.heap.size+1,0,none⟩ (.slice va ll vc)) (W.heap.size+1)=some (.cells #[.slice va ll vc] 32 (0,0)):=by rw [a0c,h6];rfl);have e2s:obj (W1.setCell ⟨W.heap.size+1,0,none⟩ (.slice va ll vc)) (W.heap.size+2)=some (.cells #[.bool false] 4 (0,0)):=a07 h7 _ (show W.heap.size+2≠W.heap.size+1 by omega) _;have f1:=a0d h6 0;have c1:=a02 h6 0;have f2:=a0d e2s 0;have c2:=a02 e2s 0;have c3:=a02 h4 0
   gi_wp2_with fail
   have e1t:obj ((W1.setCell ⟨W.heap.size+1,0,none⟩ (.slice va ll vc)).setCell ⟨W.heap.size+2,0,none⟩ (.bool true)) (W.heap.size+1)=_:=a07 e1s _ (show W.heap.size+1≠W.heap.size+2 by omega) _;(have e2t:obj ((W1.setCell ⟨W.heap.size+1,0,none⟩ (.slice va ll vc)).setCell ⟨W.heap.size+2,0,none⟩ (.bool true)) (W.heap.size+2)=some (.cells #[.bool true] 4 (0,0)):=by rw [a0c,e2s];rfl);have owt:=yF (yF h3 (a2f h3 h6 (by decide)) (a:=⟨W.heap.size+1,0,none⟩) (.slice va ll vc)) (a:=⟨W.heap.size+2,0,none⟩) (a2f h3 h7 (by decide)) (.bool true);have hKs:((W1.setCell ⟨W.heap.size+1,0,none⟩ (.slice va ll vc)).setCell ⟨W.heap.size+2,0,none⟩ (.bool true)).heap[Q]? = some (.deferred (some [])):=(zO _ _ _ _ (show Q≠W.heap.size+2 by omega)).trans ((zO _ _ _ _ (show Q≠W.heap.size+1 by omega)).trans HK.out);have hBt:Below W W ((W1.setCell ⟨W.heap.size+1,0,none⟩ (.slice va ll vc)).setCell ⟨W.heap.size+2,0,none⟩ (.bool true)):=(h8.setCell (by show W.heap.size≤W.heap.size+1;omega) _).setCell (by show W.heap.size≤W.heap.size+2;omega) _;refine ⟨by simp,.inl ⟨_,_,rfl,run_takeDeferred hKs,?_⟩⟩;refine ⟨_,a0i rfl _ _ (W.heap.size+1) (W.heap.size+2) (.slice va ll vc) (.bool true) _ _ rfl rfl (a02 ((World.putObj_heap_other (show W.heap.size+1≠Q by omega)).trans e1t) 0) (a02 ((World.putObj_heap_other (show W.heap.size+2≠Q by omega)).trans e2t) 0) Tryz.underlying32 rfl Tryz.underlying4 rfl,⟨.slice va ll vc,by rw [HC.out];rfl,?_,?_⟩,a1r hBt (by omega)⟩
   ·rw [HC.out]
    exact (a13 (a9h owt hKs (fun _ _ _ e=>by cases e))).2.1
   rw [HC.out];intro h0 b o m c e;obtain ⟨gq,cq,e2⟩:=(a13 owt).2.2.1 h0;have hge:=a1p owt (g:=gq) (by rw [e2];rfl);rw [e2] at e;cases e;show W.heap.size≤b;omega
  have HK:=zA hK
  have HC:=zA h2
  clear hK h2
  gi_wp2_with fail
  refine ⟨by simp,.inl ⟨_,_,rfl,run_takeDeferred HK.out,?_⟩⟩
  refine ⟨_,a0i rfl _ _ (W.heap.size+1) (W.heap.size+2) (.slice none 0 0) (.bool false) _ _ rfl rfl (a02 ((World.putObj_heap_other (show W.heap.size+1≠Q by omega)).trans h6) 0) (a02 ((World.putObj_heap_other (show W.heap.size+2≠Q by omega)).trans h7) 0) Tryz.underlying32 rfl Tryz.underlying4 rfl,⟨_,by rw [HC.out];rfl,?_,?_⟩,a1r h8 (by omega)⟩
  ·rw [HC.out]
   exact ⟨none,0,rfl,fun h=>by simp at h⟩
  rw [HC.out]
  intro h0
  simp at h0
 rintro lk i x v W1 ⟨sl,l,h1,h2,h3,h4,h5,h6,h7,h8,h9⟩ hx rfl hz1 hlk hlc
 have hll:=(a13 h3).1
 have hst:Zn.a2i z ys cyc t u=if u≤x.tm then some l else if l.length=4096 then none else Zn.a6k (Zn.a2s z ys cyc t) u (4098 - (i+1)) (i+1) (l ++ [x]):=by
  rw [h2,show 4098 - i=(4098 - (i+1))+1 by omega,Zn.a7k hx]
 have HST:=zA hst
 have hon:ones #[x.tm,x.off]=true:=by simp [ones,a0n]
 clear h2 hx hst
 have rz:a7c x=#[.int .i64 x.tm,.int .i64 x.off]:=rfl
 dsimp only
 rw [rz]
 clear rz
 gi_wp2_with fail
 refine ⟨bR.alloc (zD _) _,fun W2 hB2 hkeep hsz=>?_⟩
 have hX2:a1x W1.heap.size (fun k=>k=lk) W1 W2:=⟨hB2.os,hB2.tape,hB2.output,by have:=hB2.size;simp at this;omega,fun k hk hn=>(hkeep k (by simp;omega) hn).trans (vT _ _ hk)⟩
 have k6:obj W2 W1.heap.size=some (.cells #[x.tm,x.off] 57 (0,0)):=(hkeep W1.heap.size (by simp) (by omega)).trans (a05 _ _ _ rfl)
 have o5:=hX2.obj h5 (by omega) (by omega)
 have o6:=hX2.obj h6 (by omega) (by omega)
 have o7:=hX2.obj h7 (by omega) (by omega)
 have o4:=hX2.obj h4 (by omega) (by omega)
 have ow:=aih h3 hX2 (fun k hk hs=>by omega)
 have oB:=h8.trans (hX2.below (by omega) (fun k hk=>by omega))
 have oz:W.heap.size+9≤W2.heap.size:=by have:=hB2.size;simp at this;omega
 have osl:=a3x ow
 have c60:=a02 k6 0
 have c50:=a02 o5 0
 have c40:=a02 o4 0
 have f60:=a0d o6 0
 have c61:=a02 o6 0
 have k7s:obj (W2.setCell ⟨W.heap.size+1,0,none⟩ (.slice none 0 0)) (W.heap.size+2)=some (.cells #[.bool false] 4 (0,0)):=a07 o7 _ (by simp) _
 have c7s:=a02 k7s 0
 have f7s:=a0d k7s 0
 have f40:=a0d o4 0
 obtain ⟨sa,sc,hsl⟩:=(a13 ow).2.2.2
 clear h3 h4 h5 h6 h7 h8 h9 hB2 hkeep hlc hsz hX2
 have lx:W1.heap.size < W2.heap.size:=a09 k6
 generalize W1.heap.size=g6 at *
 by_cases hu:u≤x.tm
 ·have HC:Hid (Zn.a2i z ys cyc t u=some l):=zA (by rw [HST.out,zQ hu])
  clear HST
  gi_wp2_with fail
  exact ⟨a0o.refl _ _,.inl ⟨rfl,_,l,HC.out,by rw [hll];exact ow,o4,o5,o6,o7,oB,by omega⟩⟩
 by_cases h96:i=4096
 ·subst h96
  have HC:Hid (Zn.a2i z ys cyc t u=none):=zA (by rw [HST.out,zS hu,zQ hll])
  subst hsl
  clear HST
  gi_wp2_with fail
  refine ⟨⟨by simp,fun k hk hn=>(zO _ _ _ _ (fun e=>hn (.inl (.inr (.inl (by simpa using e)))))).trans (zO _ _ _ _ (fun e=>hn (.inl (.inl (by simpa using e)))))⟩,.inr ⟨rfl,HC.out,a07 (a07 o5 _ (show W.heap.size≠W.heap.size+1 by omega) _) _ (show W.heap.size≠W.heap.size+2 by omega) _,a07 (show obj (W2.setCell ⟨W.heap.size+1,0,none⟩ (.slice none 0 0)) (W.heap.size+1)=_ by rw [a0c,o6];rfl) _ (show W.heap.size+1≠W.heap.size+2 by omega) _,by rw [a0c,k7s];rfl,(oB.setCell (by simp) _).setCell (by simp;omega) _,by simp;omega⟩⟩
 have HC:Hid (Zn.a2i z ys cyc t u=Zn.a6k (Zn.a2s z ys cyc t) u (4098 - (i+1)) (i+1) (l ++ [x])):=zA (by rw [HST.out,zS hu,zS (by omega)])
 have t96:((i:Int) == 4096)=false:=by simp;omega
 subst hsl
 clear HST
 repeat' ((fail_if_success (change Code.wpIn _ _ _ (Code.region 7 _ _) _ _ _));(first | go_values | gi_guarded | gi_step | gi_upon | gi_back))
 refine a3i (by kernel_rfl) (fun _ _ h=>h) ?_
 have A2:=(zC W2.heap.size W2).alloc (zD _) (.cells #[x.tm,x.off] 57)
 have ow2:=a0m ow A2
 have n6:obj (W2.alloc (.cells #[x.tm,x.off] 57)) W2.heap.size=some (.cells #[x.tm,x.off] 57 (0,0)):=a05 _ _ _ rfl
 have p4:=a0a o4 A2
 have p5:=a0a o5 A2
 have p6:=a0a o6 A2
 have p7:=a0a o7 A2
 have pB:=oB.trans (A2.mono (by omega))
 have hz3:W.heap.size+8≤(W2.alloc (.cells #[x.tm,x.off] 57)).heap.size:=by simp;omega
 repeat' (first | (at_builtin;(refine a2m rfl _ _ rfl (W.heap.size+8) i _ l rfl ow2 W2.heap.size x rfl n6 (by omega) hz3 ?_);intro v5 W5 a3p hg5;have hg:(W2.alloc (.cells #[x.tm,x.off] 57)).grownBy W5 (Value.slice sa i sc).ownBlock:=hg5;clear hg5;have q4:=a19 ow2 p4 (by decide) hg;have q5:=a19 ow2 p5 (by decide) hg;have q6:=a19 ow2 p6 (by decide) hg;have q7:=a19 ow2 p7 (by decide) hg;obtain ⟨va,vc,hv5⟩:=(a13 a3p).2.2.2;subst hv5;have f4:=a0d q4 0;have c4:=a02 q4 0;dsimp only)|go_skip|go_guarded|go_step|go_upon)
 have z5:=hg.size
 simp only [World.size_alloc] at z5
 refine ⟨⟨by simp;omega,fun k hk hn=>(zO _ _ _ _ (fun e=>hn (.inl (.inr (.inr e))))).trans ((hg.block k (by simp;omega) (fun e=>hn (.inr (by have:=a1p ow2 e.symm;omega)))).trans (vT _ _ hk))⟩,
  _,l ++ [x],by omega,HC.out,yF a3p (a2f a3p q4 (by decide)) _,by rw [a0c,q4];rfl,a07 q5 _ (show W.heap.size≠W.heap.size+3 by omega) _,a07 q6 _ (show W.heap.size+1≠W.heap.size+3 by omega) _,a07 q7 _ (show W.heap.size+2≠W.heap.size+3 by omega) _,
  (pB.grown hg (by simp;omega) (fun k e=>by have:=a1p ow2 e;omega)).setCell (by show W.heap.size≤W.heap.size+3;omega) _,by simp;omega⟩
end Go.Proofs.YtppjleebbjipbaaGreat
