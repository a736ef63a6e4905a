/-
  The walks of an envelope that is opened.
-/
import Derived.Test.YtlnlbdfokmhelaaGreatDoorPkRwA
import Derived.Test.YtlnlbdfokmhelaaGreatDoorPkQ
import Derived.Test.YtlnlbdfokmhelaaGreatDoorPkOp
set_option linter.unusedSectionVars false
set_option linter.constructorNameAsVariable false
set_option linter.unusedVariables false
set_option linter.unusedSimpArgs false
namespace Go.Proofs.YtlnlbdfokmhelaaGreatDoor
open Go.RowKit Go.CE.V
set_option maxRecDepth 20000
set_option maxHeartbeats 400000
attribute [local irreducible] wpQuiet
theorem ext_get {cs r:Array Value} {o z j:Nat} (h:cs.extract o (o+z)=r) (hz:o+z≤cs.size) (hj:j < z):cs[o+j]? = r[j]? := by
 rw [← h,Array.getElem?_extract,if_pos (by omega)]
theorem aFl {W:World} {ob:Nat} {ka:Option Addr} {kc:Nat} {e:Env} {f d:Nat} {a:Option Addr} {n c:Nat} (hs:e.abg.length=32) (he:e.body=.slice a n c) (hf:a4e e n=true) (e1:e.frm=(f:Int)) (e2:e.dst=(d:Int)) (h1:f < 5) (h2:d < 5)
  (cs:Array Value) (hb:obj W ob=some (.cells cs 205 (0,0))) (c0:cs[0]? = some (.slice ka 5 kc)) (cz:37≤cs.size) (cE:cs.extract 1 37=e.row) :
  Calls Tryz.prog 148 #[.pointer (some ⟨ob,0,none⟩)] W fun r W'=>r=.returned (.int .i64 0)∧Below W.heap.size W W':=by
 have hr:=a1o e hs
 have hall:=a4f e hs
 have c1:cs[1]? = some (.int .i64 (f:Int)):=by have:=ext_get (o:=1) (j:=0) (z:=36) cE cz (by omega);rw [aI9,e1] at this;exact this
 have c2:cs[2]? = some (.int .i64 (d:Int)):=by have:=ext_get (o:=1) (j:=1) (z:=36) cE cz (by omega);rw [aRj,e2] at this;exact this
 have lt:=a04 hb
 have cz':(37≤cs.size)=True:=eq_true cz
 have HF:=Lib.hid (fun W'=>by have:=amg e a n c he W';rw [hf] at this;exact this)
 have hm:((5:Int)≤max (f:Int) (d:Int))=False:=eq_false (by omega)
 go_enter Tryz.func148,Tryz.ntmps148
 repeat' (first | go_skip | go_guarded | go_step | go_upon)
 (refine a2x (by kernel_rfl) (by kernel_rfl) ?_;(repeat (refine wpQuiet_step (fun K hK=>?_);go_simp;first | (refine hK _ ?_;clear hK K) | (apply Exists.intro;refine ⟨fun W hW=>?_,hK _ ?_⟩;(focus ((first | (with_reducible exact rfl) | ((have m:=a00 hb hW lt;have n0:=(a01 m 0).trans c0;have n1:=(a01 m 1).trans c1;have n2:=(a01 m 2).trans c2);(try go_simp);first | done | (with_reducible exact rfl) | (with_reducible exact ⟨rfl,rfl⟩) | (exact a4q hW (HF.out W))));done));clear hK K)));refine wpQuiet_nil ?_;intro W2 hW2)
 repeat' (first | go_skip | go_guarded | go_step | go_upon)
 go_ret
 exact ⟨rfl,hW2⟩
theorem al6 {W:World} {x:LN} {q:Nat} {body:Value} (hf:x.frm < 5) (hbd:Sl 0 W body 5 ((LN.enc x).map fun c=>B8 c.toNat)) (h0:0 < (LN.enc x).length) (h1:(LN.enc x).length≤1048576) (hT:Tab W) :
  Calls Tryz.prog 129 #[.agg (a0i (atd x.frm)),.agg (a05 x q body).row] W fun r W'=>r=.returned (.agg (a0i (a7m x q)))∧Below W.heap.size W W':=by
 obtain ⟨b,o,c,row,hv,_,h2,h3,h4,h5⟩:=hbd
 rw [List.length_map] at hv h5
 have hW:0 < W.heap.size:=Nat.lt_of_le_of_lt (Nat.zero_le _) (a04 (show obj W b=some _ from h2))
 refine (af0 (atd x.frm) (adz _ hf) (a05 x q body) (a13 _) ⟨b,o,none⟩ c (LN.enc x) hv h0 h1 W (fun j u hu=>?_) (a04 (show obj W b=some _ from h2)) hT hW).mono fun r W' ⟨hr,hb⟩=>⟨by rw [hr];unfold a7m;rw [show hdr (a05 x q body)=hdr ⟨x.frm,x.dst,q,undef,[]⟩ by simp [hdr,avc,a05]],hb⟩
 have hj:j < (LN.enc x).length:=by
  have:=(List.getElem?_eq_some_iff.1 hu).1
  rwa [a1m] at this
 rw [Addr.add_lit,a01 (show obj W b=some _ from h2),h5 j hj]
 unfold a0p at hu
 exact hu
theorem a0f (x:LN) (q:Nat):(a7m x q).length=32:=a13 _
theorem aNs {W:World} {ob:Nat} {kv:Value} {x:LN} {q:Nat} {body:Value} (hf:x.frm < 5) (hk:a7r W kv) (hbd:Sl 0 W body 5 ((LN.enc x).map fun c=>B8 c.toNat)) (h0:0 < (LN.enc x).length) (h1:(LN.enc x).length≤1048576) (hT:Tab W) (h0w:0 < W.heap.size)
  (cs:Array Value) (hb:obj W ob=some (.cells cs 205 (0,0))) (c0:cs[0]? = some kv) (cz:37≤cs.size) (cE:cs.extract 1 37=(a05 x q body).row) :
  Calls Tryz.prog 149 #[.pointer (some ⟨ob,0,none⟩)] W fun r W'=>r=.returned (.int .i64 0)∧Below W.heap.size W W':=by
 have hr:=a1o (a05 x q body) (a0f x q)
 have hall:=a4f (a05 x q body) (a0f x q)
 have c1:cs[1]? = some (.int .i64 (x.frm:Int)):=by have:=ext_get (o:=1) (j:=0) (z:=36) cE cz (by omega);rw [aI9] at this;exact this
 have cS:cs.extract 5 37=a0i (a7m x q):=by
  have:=aI8 (a05 x q body) (a0f x q)
  rw [← cE,Array.extract_extract] at this
  show cs.extract 5 37=a0i (a05 x q body).abg
  simpa using this
 have lt:=a04 hb
 have cz':(37≤cs.size)=True:=eq_true cz
 obtain ⟨ka,kc,rfl,hkk⟩:=hk
 obtain ⟨kb,ko,b3e,rfl,hkb,hkr⟩:=hkk (by decide)
 obtain ⟨k1,k2⟩:=hkr x.frm hf
 have z1:(ko+x.frm * 32+32≤b3e.size)=True:=eq_true k1
 have HR:=Lib.hid (fun W' (hW:Below W.heap.size W W')=>al6 (q:=q) hf (hbd.below hW) h0 h1 (hT.below hW h0w))
 have f1:(x.frm:Int) < 5:=by omega
 have HQ:=aA2 (a7m x q) (a7m x q) (a0f x q) (a0f x q)
 rw [decide_eq_true rfl] at HQ
 clear hkr hkk hbd k1
 go_enter Tryz.func149,Tryz.ntmps149
 repeat' (first | go_skip | go_guarded | go_step | go_upon)
 (refine a2x (by kernel_rfl) (by kernel_rfl) ?_;(repeat (refine wpQuiet_step (fun K hK=>?_);go_simp;first | (refine hK _ ?_;clear hK K) | (apply Exists.intro;refine ⟨fun W hW=>?_,hK _ ?_⟩;(focus ((first | (with_reducible exact rfl) | ((have m:=a00 hb hW lt;have mk:=a00 hkb hW (a04 hkb);have n0:=(a01 m 0).trans c0;have n1:=(a01 m 1).trans c1);(try go_simp);first | done | (with_reducible exact rfl) | (with_reducible exact ⟨rfl,rfl⟩) | (first | (with_reducible exact a4q hW (HR.out W hW)) | (rw [HQ];(with_reducible exact ⟨rfl,rfl⟩)) | (simp only [HQ];go_simp;(with_reducible exact rfl)))));done));clear hK K)));refine wpQuiet_nil ?_;intro W2 hW2)
 repeat' (first | go_skip | go_guarded | go_step | go_upon)
 go_ret
 exact ⟨rfl,hW2⟩
theorem aO4 {W:World} {ob:Nat} {x:LN} {q:Nat} {body:Value} (hx:x.Ok) (hx8:x.kind=8∨x.kind=13→x.cs≠[]) (hbd:Sl 0 W body 5 ((LN.enc x).map fun c=>B8 c.toNat))
  (cs:Array Value) (hb:obj W ob=some (.cells cs 205 (0,0))) (cz:cs.size=99) (cE:cs.extract 1 37=(a05 x q body).row) :
  Calls Tryz.prog 150 #[.pointer (some ⟨ob,0,none⟩)] W fun r W'=>r=.returned (.int .i64 0)∧(∃ cs' c,obj W' ob=some (.cells cs' 205 (0,0))∧cs'.size=99∧cs'.extract 37 99=(LN.let x c).row∧a0h W.heap.size W' c x.cs)∧Below ob W W':=by
 have c1:cs[1]? = some (.int .i64 (x.frm:Int)):=by have:=ext_get (o:=1) (j:=0) (z:=36) cE (by omega) (by omega);rw [aI9] at this;exact this
 have c2:cs[2]? = some (.int .i64 (x.dst:Int)):=by have:=ext_get (o:=1) (j:=1) (z:=36) cE (by omega) (by omega);rw [aRj] at this;exact this
 have c4:cs[4]? = some body:=by have:=ext_get (o:=1) (j:=3) (z:=36) cE (by omega) (by omega);rw [av9] at this;exact this
 have lt:=a04 hb
 have n1:=(a01 hb 1).trans c1
 have n2:=(a01 hb 2).trans c2
 have n4:=(a01 hb 4).trans c4
 have HR:=Lib.hid (ahe hx hx8 hbd)
 clear hbd
 go_enter Tryz.func150,Tryz.ntmps150
 repeat' (first | (go_at_call 193;((with_reducible refine (HR.out).mono ?_));rintro r w1 ⟨c,rfl,hc,-,hb1⟩;have m:=a00 hb hb1 lt;have m1:=(a01 m 1).trans c1;have m2:=(a01 m 2).trans c2;have lz:=a0e (LN.let x c) hx.ref;have la:=a15 (LN.let x c) hx.ref;have lo:=a0y (LN.let x c) (a0v hc);dsimp only) | go_skip | go_guarded | go_step | go_upon)
 have l0:obj (w1.alloc (.cells (LN.let x c).row 48 (0,0))) w1.heap.size=some (.cells (LN.let x c).row 48 (0,0)):=a03 _ _ _ rfl
 have o0:=a02 m (.cells (LN.let x c).row 48 (0,0))
 have hB0:Below W.heap.size W (w1.alloc (.cells (LN.let x c).row 48 (0,0))):=hb1.alloc hb1.size _
 have hc0:a0h W.heap.size (w1.alloc (.cells (LN.let x c).row 48 (0,0))) c x.cs:=hc.below ((Below.refl _ _).alloc (Nat.le_refl _) _)
 have hne:w1.heap.size≠ob:=by have:=hb1.size;omega
 clear hc hb1 m m1 m2 n1 n2 n4 HR
 generalize w1.alloc (.cells (LN.let x c).row 48 (0,0))=w2 at *
 generalize w1.heap.size=lb at *
 have lt2:=a04 l0
 have lt3:=a04 o0
 (refine a2x (by kernel_rfl) (by kernel_rfl) ?_;(repeat (refine wpQuiet_step (fun K hK=>?_);go_simp;first | (refine hK _ ?_;clear hK K) | (apply Exists.intro;refine ⟨fun W hW=>?_,hK _ ?_⟩;(focus ((first | (with_reducible exact rfl) | ((have m:=a00 l0 hW lt2;have n:=a00 o0 hW lt3;have m1:=(a01 m 1).trans (ad4 _);have m2:=(a01 m 2).trans (aRh _);have n1:=(a01 n 1).trans c1;have n2:=(a01 n 2).trans c2);(try go_simp);first | done | (with_reducible exact rfl) | (with_reducible exact ⟨rfl,rfl⟩) | (skip)));done));clear hK K)));refine wpQuiet_nil ?_;intro W2 hW2)
 have l4:=a00 l0 hW2 lt2
 have o4:=a00 o0 hW2 lt3
 have hc4:=hc0.below hW2
 have hB4:=hB0.trans (hW2.mono hB0.size)
 clear l0 o0 hc0 hB0 hW2
 have HT:=Lib.hid (akm (n:=(LN.let x c).row.size) o4 (show 37+(LN.let x c).row.size≤cs.size by rw [lz];omega))
 repeat' (first | go_skip | go_guarded | go_step | go_upon)
 rw [ad7 _ _ _ _ _ _ (by decide) HT.out (by rw [lz];kernel_rfl) lo]
 obtain ⟨q1,q2,q3⟩:=a9f ob 205 (LN.let x c).row.toList 37 W2 cs o4 (by rw [Array.length_toList,lz];omega)
 have hB5:=below_setCells (B:=ob) ob (Nat.le_refl _) (LN.let x c).row.toList 37 W2 (hB4.mono (Nat.le_of_lt lt))
 have hc5:a0h W.heap.size (W2.setCells ob 37 (LN.let x c).row.toList) c x.cs:=by
  rcases hc4 with h | ⟨h0,b,o,cc,row,h1,h2,h3,h4⟩
  ·exact .inl h
  ·refine .inr ⟨h0,b,o,cc,row,h1,h2,?_,h4⟩
   refine (q2 b fun e=>?_).trans h3
   subst e
   have:=h3.symm.trans o4
   injection this with this
   injection this with e1 e2 e3
   cases e2
 generalize W2.setCells ob 37 (LN.let x c).row.toList=w5 at *
 repeat' (first | go_skip | go_guarded | go_step | go_upon)
 go_ret
 refine ⟨rfl,⟨_,c,q1,by rw [ahf (by rw [Array.toArray_toList,lz];omega)];exact cz,?_,hc5⟩,hB5⟩
 have:=aiw (c:=cs) (o:=37) (vs:=(LN.let x c).row) (by rw [lz];omega)
 rw [lz] at this
 rw [Array.toArray_toList]
 exact this
theorem a18 {l:List Value} {n:Nat} (h:l.length=n+1) : ∃ a m,l=a :: m∧m.length=n:=by
 cases l with
 | nil=>simp at h
 | cons a m=>exact ⟨a,m,rfl,by simpa using h⟩
theorem aY3 (r:Array Value) (h:r.size=36) : ∃ r0 r1 r2 r3 r4 r5 r6 r7 r8 r9 r10 r11 r12 r13 r14 r15 r16 r17 r18 r19 r20 r21 r22 r23 r24 r25 r26 r27 r28 r29 r30 r31 r32 r33 r34 r35,r=(r0 :: r1 :: r2 :: r3 :: r4 :: r5 :: r6 :: r7 :: r8 :: r9 :: r10 :: r11 :: r12 :: r13 :: r14 :: r15 :: r16 :: r17 :: r18 :: r19 :: r20 :: r21 :: r22 :: r23 :: r24 :: r25 :: r26 :: r27 :: r28 :: r29 :: r30 :: r31 :: r32 :: r33 :: r34 :: r35 :: []).toArray:=by
 rcases r with ⟨l⟩
 have h:l.length=36:=h
 obtain ⟨r0,m0,e0,h0⟩:=a18 h
 obtain ⟨r1,m1,e1,h1⟩:=a18 h0
 obtain ⟨r2,m2,e2,h2⟩:=a18 h1
 obtain ⟨r3,m3,e3,h3⟩:=a18 h2
 obtain ⟨r4,m4,e4,h4⟩:=a18 h3
 obtain ⟨r5,m5,e5,h5⟩:=a18 h4
 obtain ⟨r6,m6,e6,h6⟩:=a18 h5
 obtain ⟨r7,m7,e7,h7⟩:=a18 h6
 obtain ⟨r8,m8,e8,h8⟩:=a18 h7
 obtain ⟨r9,m9,e9,h9⟩:=a18 h8
 obtain ⟨r10,m10,e10,h10⟩:=a18 h9
 obtain ⟨r11,m11,e11,h11⟩:=a18 h10
 obtain ⟨r12,m12,e12,h12⟩:=a18 h11
 obtain ⟨r13,m13,e13,h13⟩:=a18 h12
 obtain ⟨r14,m14,e14,h14⟩:=a18 h13
 obtain ⟨r15,m15,e15,h15⟩:=a18 h14
 obtain ⟨r16,m16,e16,h16⟩:=a18 h15
 obtain ⟨r17,m17,e17,h17⟩:=a18 h16
 obtain ⟨r18,m18,e18,h18⟩:=a18 h17
 obtain ⟨r19,m19,e19,h19⟩:=a18 h18
 obtain ⟨r20,m20,e20,h20⟩:=a18 h19
 obtain ⟨r21,m21,e21,h21⟩:=a18 h20
 obtain ⟨r22,m22,e22,h22⟩:=a18 h21
 obtain ⟨r23,m23,e23,h23⟩:=a18 h22
 obtain ⟨r24,m24,e24,h24⟩:=a18 h23
 obtain ⟨r25,m25,e25,h25⟩:=a18 h24
 obtain ⟨r26,m26,e26,h26⟩:=a18 h25
 obtain ⟨r27,m27,e27,h27⟩:=a18 h26
 obtain ⟨r28,m28,e28,h28⟩:=a18 h27
 obtain ⟨r29,m29,e29,h29⟩:=a18 h28
 obtain ⟨r30,m30,e30,h30⟩:=a18 h29
 obtain ⟨r31,m31,e31,h31⟩:=a18 h30
 obtain ⟨r32,m32,e32,h32⟩:=a18 h31
 obtain ⟨r33,m33,e33,h33⟩:=a18 h32
 obtain ⟨r34,m34,e34,h34⟩:=a18 h33
 obtain ⟨r35,m35,e35,h35⟩:=a18 h34
 obtain rfl:=List.eq_nil_of_length_eq_zero h35
 exact ⟨r0,r1,r2,r3,r4,r5,r6,r7,r8,r9,r10,r11,r12,r13,r14,r15,r16,r17,r18,r19,r20,r21,r22,r23,r24,r25,r26,r27,r28,r29,r30,r31,r32,r33,r34,r35,by rw [e0,e1,e2,e3,e4,e5,e6,e7,e8,e9,e10,e11,e12,e13,e14,e15,e16,e17,e18,e19,e20,e21,e22,e23,e24,e25,e26,e27,e28,e29,e30,e31,e32,e33,e34,e35]⟩
theorem aP7 (ka:Option Addr) (kn kc:Nat) (r0 r1 r2 r3 r4 r5 r6 r7 r8 r9 r10 r11 r12 r13 r14 r15 r16 r17 r18 r19 r20 r21 r22 r23 r24 r25 r26 r27 r28 r29 r30 r31 r32 r33 r34 r35:Value):Tryz.prog.built 205 [(0,.slice ka kn kc),(1,.agg (r0 :: r1 :: r2 :: r3 :: r4 :: r5 :: r6 :: r7 :: r8 :: r9 :: r10 :: r11 :: r12 :: r13 :: r14 :: r15 :: r16 :: r17 :: r18 :: r19 :: r20 :: r21 :: r22 :: r23 :: r24 :: r25 :: r26 :: r27 :: r28 :: r29 :: r30 :: r31 :: r32 :: r33 :: r34 :: r35 :: []).toArray)]=some (#[.slice ka kn kc]++((r0 :: r1 :: r2 :: r3 :: r4 :: r5 :: r6 :: r7 :: r8 :: r9 :: r10 :: r11 :: r12 :: r13 :: r14 :: r15 :: r16 :: r17 :: r18 :: r19 :: r20 :: r21 :: r22 :: r23 :: r24 :: r25 :: r26 :: r27 :: r28 :: r29 :: r30 :: r31 :: r32 :: r33 :: r34 :: r35 :: []).toArray++z48)):=by kernel_rfl
def a6u (kv:Value) (r:Array Value):Array Value:=#[kv]++(r++z48)
theorem ay4 (ka:Option Addr) (kn kc:Nat) (r:Array Value) (h:r.size=36):Tryz.prog.built 205 [(0,.slice ka kn kc),(1,.agg r)]=some (a6u (.slice ka kn kc) r):=by
 obtain ⟨r0,r1,r2,r3,r4,r5,r6,r7,r8,r9,r10,r11,r12,r13,r14,r15,r16,r17,r18,r19,r20,r21,r22,r23,r24,r25,r26,r27,r28,r29,r30,r31,r32,r33,r34,r35,e⟩:=aY3 r h
 rw [e]
 exact aP7 ka kn kc r0 r1 r2 r3 r4 r5 r6 r7 r8 r9 r10 r11 r12 r13 r14 r15 r16 r17 r18 r19 r20 r21 r22 r23 r24 r25 r26 r27 r28 r29 r30 r31 r32 r33 r34 r35
theorem ay3 (ka:Option Addr) (kn kc:Nat) (r0 r1 r2 r3 r4 r5 r6 r7 r8 r9 r10 r11 r12 r13 r14 r15 r16 r17 r18 r19 r20 r21 r22 r23 r24 r25 r26 r27 r28 r29 r30 r31 r32 r33 r34 r35:Value):Array.foldl (fun cs (x:Value×Nat)=>cs.setIfInBounds (1+x.snd) x.fst) (Tryz.zeroCells205.setIfInBounds 0 (.slice ka kn kc)) ((r0 :: r1 :: r2 :: r3 :: r4 :: r5 :: r6 :: r7 :: r8 :: r9 :: r10 :: r11 :: r12 :: r13 :: r14 :: r15 :: r16 :: r17 :: r18 :: r19 :: r20 :: r21 :: r22 :: r23 :: r24 :: r25 :: r26 :: r27 :: r28 :: r29 :: r30 :: r31 :: r32 :: r33 :: r34 :: r35 :: []).toArray).zipIdx 0 36=#[.slice ka kn kc]++((r0 :: r1 :: r2 :: r3 :: r4 :: r5 :: r6 :: r7 :: r8 :: r9 :: r10 :: r11 :: r12 :: r13 :: r14 :: r15 :: r16 :: r17 :: r18 :: r19 :: r20 :: r21 :: r22 :: r23 :: r24 :: r25 :: r26 :: r27 :: r28 :: r29 :: r30 :: r31 :: r32 :: r33 :: r34 :: r35 :: []).toArray++z48):=by kernel_rfl
theorem aFs (ka:Option Addr) (kn kc:Nat) (r:Array Value) (h:r.size=36):Array.foldl (fun cs (x:Value×Nat)=>cs.setIfInBounds (1+x.snd) x.fst) (Tryz.zeroCells205.setIfInBounds 0 (.slice ka kn kc)) r.zipIdx 0 36=a6u (.slice ka kn kc) r:=by
 obtain ⟨r0,r1,r2,r3,r4,r5,r6,r7,r8,r9,r10,r11,r12,r13,r14,r15,r16,r17,r18,r19,r20,r21,r22,r23,r24,r25,r26,r27,r28,r29,r30,r31,r32,r33,r34,r35,e⟩:=aY3 r h
 rw [e]
 exact ay3 ka kn kc r0 r1 r2 r3 r4 r5 r6 r7 r8 r9 r10 r11 r12 r13 r14 r15 r16 r17 r18 r19 r20 r21 r22 r23 r24 r25 r26 r27 r28 r29 r30 r31 r32 r33 r34 r35
theorem aqv (kv:Value) (r:Array Value) (h:r.size=36):(a6u kv r).size=99:=by
 unfold a6u
 simp [h,aSe]
theorem b2t (kv:Value) (r:Array Value):(a6u kv r)[0]? = some kv:=by
 unfold a6u
 simp [Array.getElem?_append]
theorem b2s (kv:Value) (r:Array Value) (h:r.size=36):(a6u kv r).extract 1 37=r:=by
 apply Array.ext_getElem?
 intro j
 rw [Array.getElem?_extract,aqv kv r h]
 by_cases hj:j < 36
 ·rw [if_pos (by omega)]
  unfold a6u
  rw [Array.getElem?_append_right (by simp),Array.getElem?_append_left (by simp;omega)]
  congr 1
  simp
 ·rw [if_neg (by omega),Array.getElem?_eq_none (by omega)]
attribute [irreducible] a6u
end Go.Proofs.YtlnlbdfokmhelaaGreatDoor
