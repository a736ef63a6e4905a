/-
  The walks of an envelope that is opened.
-/
import Derived.Test.YtlnlbdfokmhelaaGreatDoorPkRwA
import Derived.Test.YtlnlbdfokmhelaaGreatDoorPkQ
import Derived.Test.YtlnlbdfokmhelaaGreatDoorPkOp
set_option linter.unusedSectionVars false
set_option linter.constructorNameAsVariable false
set_option linter.unusedVariables false
set_option linter.unusedSimpArgs false
namespace Go.Proofs.YtlnlbdfokmhelaaGreatDoor
open Go.RowKit Go.CE.V
set_option maxRecDepth 20000
set_option maxHeartbeats 400000
attribute [local irreducible] wpQuiet
theorem ext_get {cs r:Array Value} {o z j:Nat} (h:cs.extract o (o+z)=r) (hz:o+z≤cs.size) (hj:j < z):cs[o+j]? = r[j]? := by
 rw [← h,Array.getElem?_extract,if_pos (by omega)]
theorem bL3 {W:World} {ob:Nat} {ka:Option Addr} {kc:Nat} {e:Env} {f d:Nat} {a:Option Addr} {n c:Nat} (hs:e.bgh.length=32) (he:e.body=.slice a n c) (hf:ba0 e n=true) (e1:e.frm=(f:Int)) (e2:e.dst=(d:Int)) (h1:f < 5) (h2:d < 5)
  (cs:Array Value) (hb:obj W ob=some (.cells cs 205 (0,0))) (c0:cs[0]? = some (.slice ka 5 kc)) (cz:37≤cs.size) (cE:cs.extract 1 37=e.row) :
  Calls Tryz.prog 148 #[.pointer (some ⟨ob,0,none⟩)] W fun r W'=>r=.returned (.int .i64 0)∧Below W.heap.size W W':=by
 have hr:=b2n e hs
 have hall:=baf e hs
 have c1:cs[1]? = some (.int .i64 (f:Int)):=by have:=ext_get (o:=1) (j:=0) (z:=36) cE cz (by omega);rw [bNl,e1] at this;exact this
 have c2:cs[2]? = some (.int .i64 (d:Int)):=by have:=ext_get (o:=1) (j:=1) (z:=36) cE cz (by omega);rw [bWx,e2] at this;exact this
 have lt:=ah1 hb
 have cz':(37≤cs.size)=True:=eq_true cz
 have HF:=Lib.hid (fun W'=>by have:=brg e a n c he W';rw [hf] at this;exact this)
 have hm:((5:Int)≤max (f:Int) (d:Int))=False:=eq_false (by omega)
 go_enter Tryz.func148,Tryz.ntmps148
 repeat' (first | go_skip | go_guarded | go_step | go_upon)
 (refine b92 (by kernel_rfl) (by kernel_rfl) ?_;(repeat (refine wpQuiet_step (fun K hK=>?_);go_simp;first | (refine hK _ ?_;clear hK K) | (apply Exists.intro;refine ⟨fun W hW=>?_,hK _ ?_⟩;(focus ((first | (with_reducible exact rfl) | ((have m:=aa1 hb hW lt;have n0:=(abm m 0).trans c0;have n1:=(abm m 1).trans c1;have n2:=(abm m 2).trans c2);(try go_simp);first | done | (with_reducible exact rfl) | (with_reducible exact ⟨rfl,rfl⟩) | (exact bac hW (HF.out W))));done));clear hK K)));refine wpQuiet_nil ?_;intro W2 hW2)
 repeat' (first | go_skip | go_guarded | go_step | go_upon)
 go_ret
 exact ⟨rfl,hW2⟩
theorem bqb {W:World} {x:LN} {q:Nat} {body:Value} (hf:x.frm < 5) (hbd:Sl 0 W body 5 ((LN.enc x).map fun c=>B8 c.toNat)) (h0:0 < (LN.enc x).length) (h1:(LN.enc x).length≤1048576) (hT:Tab W) :
  Calls Tryz.prog 129 #[.agg (as3 (byk x.frm)),.agg (aj7 x q body).row] W fun r W'=>r=.returned (.agg (as3 (bcq x q)))∧Below W.heap.size W W':=by
 obtain ⟨b,o,c,row,hv,_,h2,h3,h4,h5⟩:=hbd
 rw [List.length_map] at hv h5
 have hW:0 < W.heap.size:=Nat.lt_of_le_of_lt (Nat.zero_le _) (ah1 (show obj W b=some _ from h2))
 refine (bjx (byk x.frm) (biv _ hf) (aj7 x q body) (aBi _) ⟨b,o,none⟩ c (LN.enc x) hv h0 h1 W (fun j u hu=>?_) (ah1 (show obj W b=some _ from h2)) hT hW).mono fun r W' ⟨hr,hb⟩=>⟨by rw [hr];unfold bcq;rw [show hdr (aj7 x q body)=hdr ⟨x.frm,x.dst,q,undef,[]⟩ by simp [hdr,bAa,aj7]],hb⟩
 have hj:j < (LN.enc x).length:=by
  have:=(List.getElem?_eq_some_iff.1 hu).1
  rwa [aSr] at this
 rw [Addr.add_lit,abm (show obj W b=some _ from h2),h5 j hj]
 unfold avf at hu
 exact hu
theorem as6 (x:LN) (q:Nat):(bcq x q).length=32:=aBi _
theorem bT8 {W:World} {ob:Nat} {kv:Value} {x:LN} {q:Nat} {body:Value} (hf:x.frm < 5) (hk:bcf W kv) (hbd:Sl 0 W body 5 ((LN.enc x).map fun c=>B8 c.toNat)) (h0:0 < (LN.enc x).length) (h1:(LN.enc x).length≤1048576) (hT:Tab W) (h0w:0 < W.heap.size)
  (cs:Array Value) (hb:obj W ob=some (.cells cs 205 (0,0))) (c0:cs[0]? = some kv) (cz:37≤cs.size) (cE:cs.extract 1 37=(aj7 x q body).row) :
  Calls Tryz.prog 149 #[.pointer (some ⟨ob,0,none⟩)] W fun r W'=>r=.returned (.int .i64 0)∧Below W.heap.size W W':=by
 have hr:=b2n (aj7 x q body) (as6 x q)
 have hall:=baf (aj7 x q body) (as6 x q)
 have c1:cs[1]? = some (.int .i64 (x.frm:Int)):=by have:=ext_get (o:=1) (j:=0) (z:=36) cE cz (by omega);rw [bNl] at this;exact this
 have cS:cs.extract 5 37=as3 (bcq x q):=by
  have:=bNk (aj7 x q body) (as6 x q)
  rw [← cE,Array.extract_extract] at this
  show cs.extract 5 37=as3 (aj7 x q body).bgh
  simpa using this
 have lt:=ah1 hb
 have cz':(37≤cs.size)=True:=eq_true cz
 obtain ⟨ka,kc,rfl,hkk⟩:=hk
 obtain ⟨kb,ko,c92,rfl,hkb,hkr⟩:=hkk (by decide)
 obtain ⟨k1,k2⟩:=hkr x.frm hf
 have z1:(ko+x.frm * 32+32≤c92.size)=True:=eq_true k1
 have HR:=Lib.hid (fun W' (hW:Below W.heap.size W W')=>bqb (q:=q) hf (hbd.below hW) h0 h1 (hT.below hW h0w))
 have f1:(x.frm:Int) < 5:=by omega
 have HQ:=bFm (bcq x q) (bcq x q) (as6 x q) (as6 x q)
 rw [decide_eq_true rfl] at HQ
 clear hkr hkk hbd k1
 go_enter Tryz.func149,Tryz.ntmps149
 repeat' (first | go_skip | go_guarded | go_step | go_upon)
 (refine b92 (by kernel_rfl) (by kernel_rfl) ?_;(repeat (refine wpQuiet_step (fun K hK=>?_);go_simp;first | (refine hK _ ?_;clear hK K) | (apply Exists.intro;refine ⟨fun W hW=>?_,hK _ ?_⟩;(focus ((first | (with_reducible exact rfl) | ((have m:=aa1 hb hW lt;have mk:=aa1 hkb hW (ah1 hkb);have n0:=(abm m 0).trans c0;have n1:=(abm m 1).trans c1);(try go_simp);first | done | (with_reducible exact rfl) | (with_reducible exact ⟨rfl,rfl⟩) | (first | (with_reducible exact bac hW (HR.out W hW)) | (rw [HQ];(with_reducible exact ⟨rfl,rfl⟩)) | (simp only [HQ];go_simp;(with_reducible exact rfl)))));done));clear hK K)));refine wpQuiet_nil ?_;intro W2 hW2)
 repeat' (first | go_skip | go_guarded | go_step | go_upon)
 go_ret
 exact ⟨rfl,hW2⟩
theorem bTj {W:World} {ob:Nat} {x:LN} {q:Nat} {body:Value} (hx:x.Ok) (hx8:x.kind=8∨x.kind=13→x.cs≠[]) (hbd:Sl 0 W body 5 ((LN.enc x).map fun c=>B8 c.toNat))
  (cs:Array Value) (hb:obj W ob=some (.cells cs 205 (0,0))) (cz:cs.size=99) (cE:cs.extract 1 37=(aj7 x q body).row) :
  Calls Tryz.prog 150 #[.pointer (some ⟨ob,0,none⟩)] W fun r W'=>r=.returned (.int .i64 0)∧(∃ cs' c,obj W' ob=some (.cells cs' 205 (0,0))∧cs'.size=99∧cs'.extract 37 99=(LN.let x c).row∧as1 W.heap.size W' c x.cs)∧Below ob W W':=by
 have c1:cs[1]? = some (.int .i64 (x.frm:Int)):=by have:=ext_get (o:=1) (j:=0) (z:=36) cE (by omega) (by omega);rw [bNl] at this;exact this
 have c2:cs[2]? = some (.int .i64 (x.dst:Int)):=by have:=ext_get (o:=1) (j:=1) (z:=36) cE (by omega) (by omega);rw [bWx] at this;exact this
 have c4:cs[4]? = some body:=by have:=ext_get (o:=1) (j:=3) (z:=36) cE (by omega) (by omega);rw [bA8] at this;exact this
 have lt:=ah1 hb
 have n1:=(abm hb 1).trans c1
 have n2:=(abm hb 2).trans c2
 have n4:=(abm hb 4).trans c4
 have HR:=Lib.hid (bmb hx hx8 hbd)
 clear hbd
 go_enter Tryz.func150,Tryz.ntmps150
 repeat' (first | (go_at_call 193;((with_reducible refine (HR.out).mono ?_));rintro r w1 ⟨c,rfl,hc,-,hb1⟩;have m:=aa1 hb hb1 lt;have m1:=(abm m 1).trans c1;have m2:=(abm m 2).trans c2;have lz:=as4 (LN.let x c) hx.ref;have la:=aI7 (LN.let x c) hx.ref;have lo:=aBk (LN.let x c) (azh hc);dsimp only) | go_skip | go_guarded | go_step | go_upon)
 have l0:obj (w1.alloc (.cells (LN.let x c).row 48 (0,0))) w1.heap.size=some (.cells (LN.let x c).row 48 (0,0)):=aff _ _ _ rfl
 have o0:=ab6 m (.cells (LN.let x c).row 48 (0,0))
 have hB0:Below W.heap.size W (w1.alloc (.cells (LN.let x c).row 48 (0,0))):=hb1.alloc hb1.size _
 have hc0:as1 W.heap.size (w1.alloc (.cells (LN.let x c).row 48 (0,0))) c x.cs:=hc.below ((Below.refl _ _).alloc (Nat.le_refl _) _)
 have hne:w1.heap.size≠ob:=by have:=hb1.size;omega
 clear hc hb1 m m1 m2 n1 n2 n4 HR
 generalize w1.alloc (.cells (LN.let x c).row 48 (0,0))=w2 at *
 generalize w1.heap.size=lb at *
 have lt2:=ah1 l0
 have lt3:=ah1 o0
 (refine b92 (by kernel_rfl) (by kernel_rfl) ?_;(repeat (refine wpQuiet_step (fun K hK=>?_);go_simp;first | (refine hK _ ?_;clear hK K) | (apply Exists.intro;refine ⟨fun W hW=>?_,hK _ ?_⟩;(focus ((first | (with_reducible exact rfl) | ((have m:=aa1 l0 hW lt2;have n:=aa1 o0 hW lt3;have m1:=(abm m 1).trans (bli _);have m2:=(abm m 2).trans (bWv _);have n1:=(abm n 1).trans c1;have n2:=(abm n 2).trans c2);(try go_simp);first | done | (with_reducible exact rfl) | (with_reducible exact ⟨rfl,rfl⟩) | (skip)));done));clear hK K)));refine wpQuiet_nil ?_;intro W2 hW2)
 have l4:=aa1 l0 hW2 lt2
 have o4:=aa1 o0 hW2 lt3
 have hc4:=hc0.below hW2
 have hB4:=hB0.trans (hW2.mono hB0.size)
 clear l0 o0 hc0 hB0 hW2
 have HT:=Lib.hid (bpo (n:=(LN.let x c).row.size) o4 (show 37+(LN.let x c).row.size≤cs.size by rw [lz];omega))
 repeat' (first | go_skip | go_guarded | go_step | go_upon)
 rw [bi0 _ _ _ _ _ _ (by decide) HT.out (by rw [lz];kernel_rfl) lo]
 obtain ⟨q1,q2,q3⟩:=bej ob 205 (LN.let x c).row.toList 37 W2 cs o4 (by rw [Array.length_toList,lz];omega)
 have hB5:=below_setCells (B:=ob) ob (Nat.le_refl _) (LN.let x c).row.toList 37 W2 (hB4.mono (Nat.le_of_lt lt))
 have hc5:as1 W.heap.size (W2.setCells ob 37 (LN.let x c).row.toList) c x.cs:=by
  rcases hc4 with h | ⟨h0,b,o,cc,row,h1,h2,h3,h4⟩
  ·exact .inl h
  ·refine .inr ⟨h0,b,o,cc,row,h1,h2,?_,h4⟩
   refine (q2 b fun e=>?_).trans h3
   subst e
   have:=h3.symm.trans o4
   injection this with this
   injection this with e1 e2 e3
   cases e2
 generalize W2.setCells ob 37 (LN.let x c).row.toList=w5 at *
 repeat' (first | go_skip | go_guarded | go_step | go_upon)
 go_ret
 refine ⟨rfl,⟨_,c,q1,by rw [bmc (by rw [Array.toArray_toList,lz];omega)];exact cz,?_,hc5⟩,hB5⟩
 have:=bnz (c:=cs) (o:=37) (vs:=(LN.let x c).row) (by rw [lz];omega)
 rw [lz] at this
 rw [Array.toArray_toList]
 exact this
theorem aBj {l:List Value} {n:Nat} (h:l.length=n+1) : ∃ a m,l=a :: m∧m.length=n:=by
 cases l with
 | nil=>simp at h
 | cons a m=>exact ⟨a,m,rfl,by simpa using h⟩
theorem c43 (r:Array Value) (h:r.size=36) : ∃ r0 r1 r2 r3 r4 r5 r6 r7 r8 r9 r10 r11 r12 r13 r14 r15 r16 r17 r18 r19 r20 r21 r22 r23 r24 r25 r26 r27 r28 r29 r30 r31 r32 r33 r34 r35,r=(r0 :: r1 :: r2 :: r3 :: r4 :: r5 :: r6 :: r7 :: r8 :: r9 :: r10 :: r11 :: r12 :: r13 :: r14 :: r15 :: r16 :: r17 :: r18 :: r19 :: r20 :: r21 :: r22 :: r23 :: r24 :: r25 :: r26 :: r27 :: r28 :: r29 :: r30 :: r31 :: r32 :: r33 :: r34 :: r35 :: []).toArray:=by
 rcases r with ⟨l⟩
 have h:l.length=36:=h
 obtain ⟨r0,m0,e0,h0⟩:=aBj h
 obtain ⟨r1,m1,e1,h1⟩:=aBj h0
 obtain ⟨r2,m2,e2,h2⟩:=aBj h1
 obtain ⟨r3,m3,e3,h3⟩:=aBj h2
 obtain ⟨r4,m4,e4,h4⟩:=aBj h3
 obtain ⟨r5,m5,e5,h5⟩:=aBj h4
 obtain ⟨r6,m6,e6,h6⟩:=aBj h5
 obtain ⟨r7,m7,e7,h7⟩:=aBj h6
 obtain ⟨r8,m8,e8,h8⟩:=aBj h7
 obtain ⟨r9,m9,e9,h9⟩:=aBj h8
 obtain ⟨r10,m10,e10,h10⟩:=aBj h9
 obtain ⟨r11,m11,e11,h11⟩:=aBj h10
 obtain ⟨r12,m12,e12,h12⟩:=aBj h11
 obtain ⟨r13,m13,e13,h13⟩:=aBj h12
 obtain ⟨r14,m14,e14,h14⟩:=aBj h13
 obtain ⟨r15,m15,e15,h15⟩:=aBj h14
 obtain ⟨r16,m16,e16,h16⟩:=aBj h15
 obtain ⟨r17,m17,e17,h17⟩:=aBj h16
 obtain ⟨r18,m18,e18,h18⟩:=aBj h17
 obtain ⟨r19,m19,e19,h19⟩:=aBj h18
 obtain ⟨r20,m20,e20,h20⟩:=aBj h19
 obtain ⟨r21,m21,e21,h21⟩:=aBj h20
 obtain ⟨r22,m22,e22,h22⟩:=aBj h21
 obtain ⟨r23,m23,e23,h23⟩:=aBj h22
 obtain ⟨r24,m24,e24,h24⟩:=aBj h23
 obtain ⟨r25,m25,e25,h25⟩:=aBj h24
 obtain ⟨r26,m26,e26,h26⟩:=aBj h25
 obtain ⟨r27,m27,e27,h27⟩:=aBj h26
 obtain ⟨r28,m28,e28,h28⟩:=aBj h27
 obtain ⟨r29,m29,e29,h29⟩:=aBj h28
 obtain ⟨r30,m30,e30,h30⟩:=aBj h29
 obtain ⟨r31,m31,e31,h31⟩:=aBj h30
 obtain ⟨r32,m32,e32,h32⟩:=aBj h31
 obtain ⟨r33,m33,e33,h33⟩:=aBj h32
 obtain ⟨r34,m34,e34,h34⟩:=aBj h33
 obtain ⟨r35,m35,e35,h35⟩:=aBj h34
 obtain rfl:=List.eq_nil_of_length_eq_zero h35
 exact ⟨r0,r1,r2,r3,r4,r5,r6,r7,r8,r9,r10,r11,r12,r13,r14,r15,r16,r17,r18,r19,r20,r21,r22,r23,r24,r25,r26,r27,r28,r29,r30,r31,r32,r33,r34,r35,by rw [e0,e1,e2,e3,e4,e5,e6,e7,e8,e9,e10,e11,e12,e13,e14,e15,e16,e17,e18,e19,e20,e21,e22,e23,e24,e25,e26,e27,e28,e29,e30,e31,e32,e33,e34,e35]⟩
theorem bUl (ka:Option Addr) (kn kc:Nat) (r0 r1 r2 r3 r4 r5 r6 r7 r8 r9 r10 r11 r12 r13 r14 r15 r16 r17 r18 r19 r20 r21 r22 r23 r24 r25 r26 r27 r28 r29 r30 r31 r32 r33 r34 r35:Value):Tryz.prog.built 205 [(0,.slice ka kn kc),(1,.agg (r0 :: r1 :: r2 :: r3 :: r4 :: r5 :: r6 :: r7 :: r8 :: r9 :: r10 :: r11 :: r12 :: r13 :: r14 :: r15 :: r16 :: r17 :: r18 :: r19 :: r20 :: r21 :: r22 :: r23 :: r24 :: r25 :: r26 :: r27 :: r28 :: r29 :: r30 :: r31 :: r32 :: r33 :: r34 :: r35 :: []).toArray)]=some (#[.slice ka kn kc]++((r0 :: r1 :: r2 :: r3 :: r4 :: r5 :: r6 :: r7 :: r8 :: r9 :: r10 :: r11 :: r12 :: r13 :: r14 :: r15 :: r16 :: r17 :: r18 :: r19 :: r20 :: r21 :: r22 :: r23 :: r24 :: r25 :: r26 :: r27 :: r28 :: r29 :: r30 :: r31 :: r32 :: r33 :: r34 :: r35 :: []).toArray++z48)):=by kernel_rfl
def bc5 (kv:Value) (r:Array Value):Array Value:=#[kv]++(r++z48)
theorem bD6 (ka:Option Addr) (kn kc:Nat) (r:Array Value) (h:r.size=36):Tryz.prog.built 205 [(0,.slice ka kn kc),(1,.agg r)]=some (bc5 (.slice ka kn kc) r):=by
 obtain ⟨r0,r1,r2,r3,r4,r5,r6,r7,r8,r9,r10,r11,r12,r13,r14,r15,r16,r17,r18,r19,r20,r21,r22,r23,r24,r25,r26,r27,r28,r29,r30,r31,r32,r33,r34,r35,e⟩:=c43 r h
 rw [e]
 exact bUl ka kn kc r0 r1 r2 r3 r4 r5 r6 r7 r8 r9 r10 r11 r12 r13 r14 r15 r16 r17 r18 r19 r20 r21 r22 r23 r24 r25 r26 r27 r28 r29 r30 r31 r32 r33 r34 r35
theorem bD5 (ka:Option Addr) (kn kc:Nat) (r0 r1 r2 r3 r4 r5 r6 r7 r8 r9 r10 r11 r12 r13 r14 r15 r16 r17 r18 r19 r20 r21 r22 r23 r24 r25 r26 r27 r28 r29 r30 r31 r32 r33 r34 r35:Value):Array.foldl (fun cs (x:Value×Nat)=>cs.setIfInBounds (1+x.snd) x.fst) (Tryz.zeroCells205.setIfInBounds 0 (.slice ka kn kc)) ((r0 :: r1 :: r2 :: r3 :: r4 :: r5 :: r6 :: r7 :: r8 :: r9 :: r10 :: r11 :: r12 :: r13 :: r14 :: r15 :: r16 :: r17 :: r18 :: r19 :: r20 :: r21 :: r22 :: r23 :: r24 :: r25 :: r26 :: r27 :: r28 :: r29 :: r30 :: r31 :: r32 :: r33 :: r34 :: r35 :: []).toArray).zipIdx 0 36=#[.slice ka kn kc]++((r0 :: r1 :: r2 :: r3 :: r4 :: r5 :: r6 :: r7 :: r8 :: r9 :: r10 :: r11 :: r12 :: r13 :: r14 :: r15 :: r16 :: r17 :: r18 :: r19 :: r20 :: r21 :: r22 :: r23 :: r24 :: r25 :: r26 :: r27 :: r28 :: r29 :: r30 :: r31 :: r32 :: r33 :: r34 :: r35 :: []).toArray++z48):=by kernel_rfl
theorem bLb (ka:Option Addr) (kn kc:Nat) (r:Array Value) (h:r.size=36):Array.foldl (fun cs (x:Value×Nat)=>cs.setIfInBounds (1+x.snd) x.fst) (Tryz.zeroCells205.setIfInBounds 0 (.slice ka kn kc)) r.zipIdx 0 36=bc5 (.slice ka kn kc) r:=by
 obtain ⟨r0,r1,r2,r3,r4,r5,r6,r7,r8,r9,r10,r11,r12,r13,r14,r15,r16,r17,r18,r19,r20,r21,r22,r23,r24,r25,r26,r27,r28,r29,r30,r31,r32,r33,r34,r35,e⟩:=c43 r h
 rw [e]
 exact bD5 ka kn kc r0 r1 r2 r3 r4 r5 r6 r7 r8 r9 r10 r11 r12 r13 r14 r15 r16 r17 r18 r19 r20 r21 r22 r23 r24 r25 r26 r27 r28 r29 r30 r31 r32 r33 r34 r35
theorem bwe (kv:Value) (r:Array Value) (h:r.size=36):(bc5 kv r).size=99:=by
 unfold bc5
 simp [h,bXv]
theorem c8i (kv:Value) (r:Array Value):(bc5 kv r)[0]? = some kv:=by
 unfold bc5
 simp [Array.getElem?_append]
theorem c8h (kv:Value) (r:Array Value) (h:r.size=36):(bc5 kv r).extract 1 37=r:=by
 apply Array.ext_getElem?
 intro j
 rw [Array.getElem?_extract,bwe kv r h]
 by_cases hj:j < 36
 ·rw [if_pos (by omega)]
  unfold bc5
  rw [Array.getElem?_append_right (by simp),Array.getElem?_append_left (by simp;omega)]
  congr 1
  simp
 ·rw [if_neg (by omega),Array.getElem?_eq_none (by omega)]
attribute [irreducible] bc5
end Go.Proofs.YtlnlbdfokmhelaaGreatDoor
