/-
  The walk of envelope.Open.
-/
import Derived.Test.YtlnlbdfokmhelaaGreatDoorPkRwB
import Derived.Test.YtlnlbdfokmhelaaGreatDoorPkQ
set_option linter.unusedSectionVars false
set_option linter.constructorNameAsVariable false
set_option linter.unusedVariables false
set_option linter.unusedSimpArgs false
namespace Go.Proofs.YtlnlbdfokmhelaaGreatDoor
open Go.RowKit Go.CE.V
set_option maxRecDepth 20000
set_option maxHeartbeats 4000000
@[go_sem] theorem b3i (cs:Array Value) (k:IntKind) (i:Int) (w:World) (h0:0≤i) (h1:i < 3):(Instr.index 207 (.agg cs) (.int k i)).run Tryz.prog w=(cs[i.toNat]?).elim (abj Tryz.prog 207 (.agg cs) (.int k i) w) fun v=>.ok v w :=
 a6k (n:=3) (e:=206) (by kernel_rfl) (by kernel_rfl) h0 h1
theorem ajp {x:LN} {q:Nat} {body:Value} {n:Nat} (hf:x.frm < 5) (hd:x.dst < 5) (hne:x.frm≠x.dst) (hq:1≤q∧q≤1000000) (hn:n≤1048576):a4e (a05 x q body) n=true:=by
 unfold a4e a05
 have h1:afm (x.frm:Int)=true:=by unfold afm;simp;omega
 have h2:afm (x.dst:Int)=true:=by unfold afm;simp;omega
 simp only [h1,h2,Bool.true_and,Bool.and_eq_true,decide_eq_true_eq,bne_iff_ne,ne_eq]
 omega
theorem afa {W:World} {kv:Value} {x:LN} {q:Nat} {body:Value} (hx:x.Ok) (hx8:x.kind=8∨x.kind=13→x.cs≠[]) (hf:x.frm < 5) (hd:x.dst < 5) (hq:1≤q∧q≤1000000) (hk:a7r W kv) (hbd:Sl 0 W body 5 ((LN.enc x).map fun c=>B8 c.toNat)) (h0:0 < (LN.enc x).length) (h1:(LN.enc x).length≤1048576) (hT:Tab W) (h0w:0 < W.heap.size) :
  Calls Tryz.prog 86 #[kv,.agg (a05 x q body).row] W fun r W' => ∃ c,r=.returned (.tuple #[.agg (LN.let x c).row,.int .i64 0])∧a0h W.heap.size W' c x.cs∧Below W.heap.size W W':=by
 have hr:=a1o (a05 x q body) (a0f x q)
 have hall:=a4f (a05 x q body) (a0f x q)
 have hfs : ∃ ad c,body=.slice ad (LN.enc x).length c:=by
  obtain ⟨b,o,c,e,_⟩:=hbd.lt
  rw [List.length_map] at e
  exact ⟨_,c,e⟩
 have hfm:=ajp (body:=body) hf hd hx.ne hq h1
 have hk0:=Lib.hid hk
 obtain ⟨ka,kc,rfl,hkk⟩:=hk
 have hbu:=ay4 ka 5 kc _ hr
 have os:=aqv (.slice ka 5 kc) _ hr
 have o0:=b2t (.slice ka 5 kc) (a05 x q body).row
 have oe:=b2s (.slice ka 5 kc) _ hr
 have hfo:=aFs ka 5 kc _ hr
 clear hkk
 go_enter Tryz.func86,Tryz.ntmps86
 repeat' (first | ((with_reducible refine wpList_buildTo ?_ 205 #[(0,.tmp 10),(1,.tmp 11)] ?_ (some 12) ?_ (a6u (.slice ka 5 kc) (a05 x q body).row) ?_ ?_);rfl;rfl;rfl;exact hbu) | go_skip | go_guarded | go_step | go_upon)
 have HP:Hid (∀ w',Below W.heap.size W w'→a7r w' (.slice ka 5 kc)∧Sl 0 w' body 5 ((LN.enc x).map fun c=>B8 c.toNat)∧Tab w'):=Lib.hid fun w' hb=>⟨hk0.out.below hb,hbd.below hb,hT.below hb h0w⟩
 have k3:obj (((W.alloc (.cells (a05 x q body).row 78 (0,0))).alloc (.cells z48 48 (0,0))).alloc (.cells (a6u (.slice ka 5 kc) (a05 x q body).row) 205 (0,0))) (W.heap.size+1)=some (.cells z48 48 (0,0)):=a02 (a03 _ _ _ (by simp)) _
 have k4:obj (((W.alloc (.cells (a05 x q body).row 78 (0,0))).alloc (.cells z48 48 (0,0))).alloc (.cells (a6u (.slice ka 5 kc) (a05 x q body).row) 205 (0,0))) (W.heap.size+1+1)=some (.cells (a6u (.slice ka 5 kc) (a05 x q body).row) 205 (0,0)):=a03 _ _ _ (by simp)
 have kB:Below W.heap.size W (((W.alloc (.cells (a05 x q body).row 78 (0,0))).alloc (.cells z48 48 (0,0))).alloc (.cells (a6u (.slice ka 5 kc) (a05 x q body).row) 205 (0,0))):=(((Below.refl _ _).alloc (Nat.le_refl _) _).alloc (by simp) _).alloc (by simp;omega) _
 generalize ((W.alloc (.cells (a05 x q body).row 78 (0,0))).alloc (.cells z48 48 (0,0))).alloc (.cells (a6u (.slice ka 5 kc) (a05 x q body).row) 205 (0,0))=W0 at *
 clear hbu hbd hT hall hr hfo hk0
 obtain ⟨ba,bc,hbe⟩:=hfs
 go_loopw [21] (fun i wr => ∃ (k:Nat) (cs:Array Value),k≤3∧i=.int .i64 k∧obj wr (W.heap.size+1+1)=some (.cells cs 205 (0,0))∧cs.size=99∧(k < 3→cs[0]? = some (.slice ka 5 kc)∧cs.extract 1 37=(a05 x q body).row)∧(k=3→∃ c,cs.extract 37 99=(LN.let x c).row∧a0h W.heap.size wr c x.cs)∧obj wr (W.heap.size+1)=some (.cells z48 48 (0,0))∧Below W.heap.size W wr) (fun i _=>(3 - intOf i).toNat)
 case atStart=>exact ⟨0,_,by omega,rfl,k4,os,fun _=>⟨o0,oe⟩,fun h=>by omega,k3,kB⟩
 case round =>
  clear k3 k4 kB os o0 oe
  obtain ⟨k,cs,hk3,rfl,ho,cz,hc0,hc3,hl,hB⟩:=hrel
  have HC0:=Lib.hid hc0
  clear hc0
  have HC:=Lib.hid hc3
  clear hc3
  obtain ⟨p1,p2,p3⟩:=HP.out wr hB
  rcases (show k=0∨k=1∨k=2∨k=3 by omega) with rfl | rfl | rfl | rfl
  ·obtain ⟨c0,cE⟩:=HC0.out (by omega)
   have H0:=Lib.hid (aFl (e:=a05 x q body) (a0f x q) hbe hfm rfl rfl hf hd cs ho c0 (by omega) cE)
   repeat' (first | ((with_reducible refine (H0.out).mono ?_);rintro r w' ⟨rfl,hb'⟩;dsimp only) | go_skip | go_guarded | go_step | go_upon)
   exact ⟨⟨1,cs,by omega,by go_num,a00 ho hb' (a04 ho),cz,fun _=>⟨c0,cE⟩,fun h=>by omega,a00 hl hb' (a04 hl),hB.trans (hb'.mono hB.size)⟩,by decide⟩
  ·obtain ⟨c0,cE⟩:=HC0.out (by omega)
   have H0:=Lib.hid (aNs hf p1 p2 h0 h1 p3 (Nat.lt_of_lt_of_le h0w hB.size) cs ho c0 (by omega) cE)
   repeat' (first | ((with_reducible refine (H0.out).mono ?_);rintro r w' ⟨rfl,hb'⟩;dsimp only) | go_skip | go_guarded | go_step | go_upon)
   exact ⟨⟨2,cs,by omega,by go_num,a00 ho hb' (a04 ho),cz,fun _=>⟨c0,cE⟩,fun h=>by omega,a00 hl hb' (a04 hl),hB.trans (hb'.mono hB.size)⟩,by decide⟩
  ·obtain ⟨c0,cE⟩:=HC0.out (by omega)
   have H0:=Lib.hid (aO4 hx hx8 p2 cs ho cz cE)
   repeat' (first | ((with_reducible refine (H0.out).mono ?_);rintro r w' ⟨rfl,⟨cs',c,q1,q2,q3,q4⟩,hb'⟩;dsimp only) | go_skip | go_guarded | go_step | go_upon)
   exact ⟨⟨3,cs',by omega,by go_num,q1,q2,fun h=>by omega,fun _=>⟨c,q3,q4.mono hB.size⟩,a00 hl hb' (by omega),hB.trans (hb'.mono (by omega))⟩,by decide⟩
  ·obtain ⟨c,e1,e2⟩:=HC.out rfl
   have lz:=a0e (LN.let x c) hx.ref
   have lo:=a0y (LN.let x c) (a0v e2)
   have cz':(99≤cs.size)=True:=eq_true (by omega)
   repeat' (first | go_skip | go_guarded | go_step | go_upon)
   have hl2:obj (wr.setRow (W.heap.size+1) (LN.let x c).row) (W.heap.size+1)=some (.cells (LN.let x c).row 48 (0,0)):=by rw [a0b,hl];rfl
   refine bodyPost_ret (a0d rfl _ _ (W.heap.size+1) 48 _ _ _ (.int .i64 0) rfl hl2 Tryz.underlying48 rfl (by rw [lz];kernel_rfl) rfl) rfl ?_
   refine ⟨c,rfl,?_,below_setRow hB (by omega) _⟩
   rcases e2 with h | ⟨h0,b,o,cc,row,h1,h2,h3,h4⟩
   ·exact .inl h
   ·refine .inr ⟨h0,b,o,cc,row,h1,h2,?_,h4⟩
    refine (setRow_other wr (W.heap.size+1) b _ fun e=>?_).trans h3
    subst e
    have:=h3.symm.trans hl
    injection this with this
    injection this with e1 e2 e3
    cases e2
end Go.Proofs.YtlnlbdfokmhelaaGreatDoor
namespace Go.Proofs.YtlnlbdfokmhelaaGreatDoor
open Go.RowKit Go.CE.V
set_option maxRecDepth 20000
set_option maxHeartbeats 4000000
attribute [local irreducible] wpQuiet
def a5e (x:LN) (q:Nat) (body:Value):Env:=⟨x.frm,x.dst,q,body,List.replicate 32 0⟩
theorem aAy (x:LN) (q:Nat) (body:Value):(#[.int .i64 x.frm,.int .i64 x.dst,.int .i64 q,body,.int .u8 0,.int .u8 0,.int .u8 0,.int .u8 0,.int .u8 0,.int .u8 0,.int .u8 0,.int .u8 0,.int .u8 0,.int .u8 0,.int .u8 0,.int .u8 0,.int .u8 0,.int .u8 0,.int .u8 0,.int .u8 0,.int .u8 0,.int .u8 0,.int .u8 0,.int .u8 0,.int .u8 0,.int .u8 0,.int .u8 0,.int .u8 0,.int .u8 0,.int .u8 0,.int .u8 0,.int .u8 0,.int .u8 0,.int .u8 0,.int .u8 0,.int .u8 0]:Array Value)=(a5e x q body).row:=by
 unfold Env.row a5e a0i
 simp [List.replicate_succ]
theorem ate {W:World} {x:LN} {q:Nat} {body:Value} (hf:x.frm < 5) (hbd:Sl 0 W body 5 ((LN.enc x).map fun c=>B8 c.toNat)) (h0:0 < (LN.enc x).length) (h1:(LN.enc x).length≤1048576) (hT:Tab W) :
  Calls Tryz.prog 129 #[.agg (a0i (atd x.frm)),.agg (a5e x q body).row] W fun r W'=>r=.returned (.agg (a0i (a7m x q)))∧Below W.heap.size W W':=by
 obtain ⟨b,o,c,row,hv,_,h2,h3,h4,h5⟩:=hbd
 rw [List.length_map] at hv h5
 have hW:0 < W.heap.size:=Nat.lt_of_le_of_lt (Nat.zero_le _) (a04 (show obj W b=some _ from h2))
 refine (af0 (atd x.frm) (adz _ hf) (a5e x q body) (by simp [a5e]) ⟨b,o,none⟩ c (LN.enc x) hv h0 h1 W (fun j u hu=>?_) (a04 (show obj W b=some _ from h2)) hT hW).mono fun r W' ⟨hr,hb⟩=>⟨by rw [hr];unfold a7m;rw [show hdr (a5e x q body)=hdr ⟨x.frm,x.dst,q,undef,[]⟩ by simp [hdr,avc,a5e]],hb⟩
 have hj:j < (LN.enc x).length:=by
  have:=(List.getElem?_eq_some_iff.1 hu).1
  rwa [a1m] at this
 rw [Addr.add_lit,a01 (show obj W b=some _ from h2),h5 j hj]
 unfold a0p at hu
 exact hu
theorem asi (e:Env):e.row=#[.int .i64 e.frm,.int .i64 e.dst,.int .i64 e.seq,e.body]++a0i e.abg:=by unfold Env.row;rfl
theorem atf (x:LN) (q:Nat) (body:Value):putAt (a5e x q body).row 4 (a0i (a7m x q))=(a05 x q body).row:=by
 have h1:(a0i (a7m x q)).size=32:=by rw [a0o,a0f]
 have h2:(a5e x q body).row.size=36:=a1o _ (by simp [a5e])
 apply Array.ext_getElem?
 intro j
 rw [abk (by omega),h1,asi (a05 x q body),asi (a5e x q body)]
 by_cases hj:j < 4
 ·rw [if_neg (by omega),Array.getElem?_append_left (by simpa using hj),Array.getElem?_append_left (by simpa using hj)]
  rfl
 ·by_cases hj2:j < 36
  ·rw [if_pos (by omega),Array.getElem?_append_right (by simp;omega)]
   rfl
  ·rw [if_neg (by omega),Array.getElem?_eq_none (by simp [a0o,a5e];omega),Array.getElem?_eq_none (by simp [a0o,a05,a0f];omega)]
theorem ata {W:World} {kv v:Value} {x:LN} {q:Nat} (hx:x.Ok) (hf:x.frm < 5) (hd:x.dst < 5) (hq:1≤q∧q≤1000000) (hk:a7r W kv) (hv:a0h 0 W v x.cs) (h0:0 < (LN.enc x).length) (h1:(LN.enc x).length≤1048576) (hT:Tab W) (h0w:0 < W.heap.size) :
  Calls Tryz.prog 55 #[kv,.int .i64 q,.agg (LN.let x v).row] W fun r W' => ∃ body,r=.returned (.tuple #[.agg (a05 x q body).row,.int .i64 0])∧Sl 0 W' body 5 ((LN.enc x).map fun c=>B8 c.toNat)∧Below W.heap.size W W':=by
 have HK:=Lib.hid hk
 obtain ⟨ka,kc,rfl,hkk⟩:=hk
 have lz:=a0e (LN.let x v) hx.ref
 have la:=a15 (LN.let x v) hx.ref
 have HB:=Lib.hid (fun w' (hb:Below W.heap.size W w')=>ab3 hx (hv.below hb))
 have HT:=Lib.hid hT
 clear hkk hT
 have q1:((q:Int) < 1)=False:=eq_false (by omega)
 have q2:((1099511627776:Int) < (q:Int))=False:=eq_false (by omega)
 have hm:((5:Int)≤max (x.frm:Int) (x.dst:Int))=False:=eq_false (by omega)
 go_enter Tryz.func55,Tryz.ntmps55
 repeat' (first | (go_at_call 128;((with_reducible refine (HB.out _ (((Below.refl _ _).alloc (Nat.le_refl _) _).alloc (by simp) _)).mono ?_));rintro r w1 ⟨s,rfl,hs,hb1⟩;have k5:obj w1 W.heap.size=some (.cells (LN.let x v).row 48 (0,0)):=a00 (a02 (a03 _ _ _ rfl) _) hb1 (by simp;omega);have k6:obj w1 (W.heap.size+1)=some (.cells z78 78 (0,0)):=a00 (a03 _ _ _ (by simp)) hb1 (by simp);have n1:=(a01 k5 1).trans (ad4 _);have n2:=(a01 k5 2).trans (aRh _);have hs1:=hs.mono (Nat.zero_le _);obtain ⟨sb,so,sc,rfl,_,hsl⟩:=hs.lt;dsimp only) | go_skip | go_guarded | go_step | go_upon)
 have hB1:Below W.heap.size W w1:=(((Below.refl _ _).alloc (Nat.le_refl _) _).alloc (by simp) _).trans (hb1.mono (by simp;omega))
 clear hb1 hs
 rw [List.length_map] at hs1
 have hE:=aAy x q (.slice (some ⟨sb,so,none⟩) (LN.enc x).length sc)
 rw [hE]
 have hbd:=hs1
 have hrb:Hid (∀ w',Below w1.heap.size w1 w'→Calls Tryz.prog 129 #[.agg (a0i (atd x.frm)),.agg (a5e x q (.slice (some ⟨sb,so,none⟩) (LN.enc x).length sc)).row] w' fun r W'=>r=.returned (.agg (a0i (a7m x q)))∧Below w'.heap.size w' W'):=Lib.hid fun w' hb=>ate hf (hbd.below hb) h0 h1 (HT.out.below (hB1.trans (hb.mono hB1.size)) h0w)
 have HR2:Hid (∀ body,body=.slice (some ⟨sb,so,none⟩) (LN.enc x).length sc→putAt (a5e x q body).row 4 (a0i (a7m x q))=(a05 x q body).row):=Lib.hid fun body _=>atf x q body
 have hrz:(a5e x q (.slice (some ⟨sb,so,none⟩) (LN.enc x).length sc)).row.size=36:=a1o _ (by simp [a5e])
 have hra:(a5e x q (.slice (some ⟨sb,so,none⟩) (LN.enc x).length sc)).row.extract 0 36=(a5e x q (.slice (some ⟨sb,so,none⟩) (LN.enc x).length sc)).row:=a4f _ (by simp [a5e])
 generalize hbe:(Value.slice (some ⟨sb,so,none⟩) (LN.enc x).length sc)=body at *
 have m0:obj (w1.alloc (.cells (a5e x q body).row 78 (0,0))) w1.heap.size=some (.cells (a5e x q body).row 78 (0,0)):=a03 _ _ _ rfl
 have m6:=a02 k6 (.cells (a5e x q body).row 78 (0,0))
 have mB:Below w1.heap.size w1 (w1.alloc (.cells (a5e x q body).row 78 (0,0))):=(Below.refl _ _).alloc (Nat.le_refl _) _
 have m5:=a02 k5 (.cells (a5e x q body).row 78 (0,0))
 have hne:w1.heap.size≠W.heap.size+1:=by have:=a04 k6;omega
 have HGE:=Lib.hid (show W.heap.size≤w1.heap.size from hB1.size)
 clear hE k5 k6 n1 n2 HB lz la
 obtain ⟨ka',kc',e,hkk⟩:=HK.out.below (hB1.trans (mB.mono hB1.size))
 cases e
 obtain ⟨kb,ko,b3e,rfl,hkb,hkr⟩:=hkk (by decide)
 obtain ⟨z0,z2⟩:=hkr x.frm hf
 have z1:(ko+x.frm * 32+32≤b3e.size)=True:=eq_true z0
 have f1:(x.frm:Int) < 5:=by omega
 have hB2:=hB1.trans (mB.mono hB1.size)
 have hs2:=hs1.below mB
 have aZr:Hid (∀ w',Below (w1.alloc (.cells (a5e x q body).row 78 (0,0))).heap.size (w1.alloc (.cells (a5e x q body).row 78 (0,0))) w'→Calls Tryz.prog 129 #[.agg (a0i (atd x.frm)),.agg (a5e x q body).row] w' fun r W'=>r=.returned (.agg (a0i (a7m x q)))∧Below w'.heap.size w' W'):=Lib.hid fun w' hb=>hrb.out w' (mB.trans (hb.mono mB.size))
 clear hkk hkr hbd hrb mB hs1 hB1
 generalize w1.alloc (.cells (a5e x q body).row 78 (0,0))=w2 at *
 generalize w1.heap.size=eb at *
 have lt5:=a04 m5
 have lt0:=a04 m0
 (refine a2u 7 (by kernel_rfl) (by kernel_rfl) ?_;simp only [List.take_succ_cons,List.take_zero,List.drop_succ_cons,List.drop_zero];(repeat (refine wpQuiet_step (fun K hK=>?_);go_simp;first | (refine hK _ ?_;clear hK K) | (apply Exists.intro;refine ⟨fun W hW=>?_,hK _ ?_⟩;(focus ((first | (with_reducible exact rfl) | ((have p5:=a00 m5 hW lt5;have p0:=a00 m0 hW lt0;have pk:=a00 hkb hW (a04 hkb);have n1:=(a01 p5 1).trans (ad4 _));(try go_simp);first | done | (with_reducible exact rfl) | (with_reducible exact ⟨rfl,rfl⟩) | ((with_reducible exact a4q hW (aZr.out W hW)))));done));clear hK K)));refine wpQuiet_nil ?_;intro W2 hW2)
 have p0:=a00 m0 hW2 lt0
 have p6:=a00 m6 hW2 (a04 m6)
 have hsB:(a0i (a7m x q)).size=32:=by rw [a0o,a0f]
 have HTT:=Lib.hid (akm (n:=(a0i (a7m x q)).size) p0 (show 4+(a0i (a7m x q)).size≤(a5e x q body).row.size by rw [hsB];omega))
 repeat' (first | go_skip | go_guarded | go_step | go_upon)
 rw [ad7 _ _ _ _ _ _ (by decide) HTT.out (by rw [hsB];kernel_rfl) (a1t _)]
 obtain ⟨q1,q2,q3⟩:=a9f eb 78 (a0i (a7m x q)).toList 4 W2 _ p0 (by rw [Array.length_toList,hsB];omega)
 rw [Array.toArray_toList,HR2.out _ rfl] at q1
 have p6':=(q2 (W.heap.size+1) hne.symm).trans p6
 have hs3:=a96 (hs2.below hW2) p0 (by decide) q2
 have hge:W.heap.size≤eb:=HGE.out
 have hB5:=below_setCells (B:=W.heap.size) eb hge (a0i (a7m x q)).toList 4 W2 (hB2.trans (hW2.mono hB2.size))
 have hrz':=a1o (a05 x q body) (a0f x q)
 have hra':=a4f (a05 x q body) (a0f x q)
 have hro:ones (a05 x q body).row=true:=a1k x q (by rw [← hbe];rfl)
 clear q2 q3 HTT p0 p6 hW2 aZr hB2 hs2 m5 m6 hkb
 generalize W2.setCells eb 4 (a0i (a7m x q)).toList=w5 at *
 repeat' (first | go_skip | go_guarded | go_step | go_upon)
 have hl2:obj (w5.setRow (W.heap.size+1) (a05 x q body).row) (W.heap.size+1)=some (.cells (a05 x q body).row 78 (0,0)):=by rw [a0b,p6'];rfl
 refine bodyPost_ret (a0d rfl _ _ (W.heap.size+1) 78 _ _ _ (.int .i64 0) rfl hl2 Tryz.underlying78 rfl (by rw [hrz'];kernel_rfl) rfl) rfl ?_
 exact ⟨body,rfl,a96 hs3 p6' (by decide) fun y hy=>setRow_other _ _ _ _ hy,below_setRow hB5 (by omega) _⟩
end Go.Proofs.YtlnlbdfokmhelaaGreatDoor
