/-
  The walk of the reference's Letter.
-/
import Derived.Test.YtlnlbdfokmhelaaGreatDoorPkRi
import Derived.Test.YtlnlbdfokmhelaaGreatDoorPkRwD
import Derived.Deep.AppendLies
import Derived.Deep.RegionLaw
set_option linter.unusedSectionVars false
set_option linter.constructorNameAsVariable false
set_option linter.unusedVariables false
set_option linter.unusedSimpArgs false
namespace Go.Proofs.YtlnlbdfokmhelaaGreatDoor
open Go.RowKit Go.CE.V
set_option maxRecDepth 20000
set_option maxHeartbeats 8000000
attribute [local irreducible] wpQuiet
def a1b (k f t b:Nat):Array Value:=#[.int .u8 k,.int .u8 f,.int .u8 t,.int .u8 b]
structure YP (own:List Nat) (k b:Nat) (y:LN):Prop where
 ok:y.Ok
 f5:y.frm < 5
 d5:y.dst < 5
 dls:y.dl≤1000
 kd:9≤y.kind
 k12:y.kind≤12
 mtg:b=0→y.mtg=4
 ref:b=0→k % 6=2→y.kind=10∧y.frm∈own∧y.cs=own
theorem aGz (own:List Nat) (me:Nat) (v:Value):(#[.int .i64 8,.int .i64 0,.int .i64 me,.int .i64 4,.int .i64 0,.int .i64 0,.int .i64 0,.int .i64 0,.int .i64 0,.int .i64 0,.int .i64 0,.int .i64 0,.int .i64 0,.bool false,.int .i64 0,.int .i64 0,.int .i64 0,.slice none 0 0,.int .i64 0,.int .i64 0,.string ⟨#[]⟩,.int .i64 0,.int .i64 0,.slice none 0 0,.int .i64 90,.int .i64 0,.int .i64 0,.int .i64 0,.int .i64 0,v,.int .u8 0,.int .u8 0,.int .u8 0,.int .u8 0,.int .u8 0,.int .u8 0,.int .u8 0,.int .u8 0,.int .u8 0,.int .u8 0,.int .u8 0,.int .u8 0,.int .u8 0,.int .u8 0,.int .u8 0,.int .u8 0,.int .u8 0,.int .u8 0,.int .u8 0,.int .u8 0,.int .u8 0,.int .u8 0,.int .u8 0,.int .u8 0,.int .u8 0,.int .u8 0,.int .u8 0,.int .u8 0,.int .u8 0,.int .u8 0,.int .u8 0,.int .u8 0]:Array Value)=(LN.let (a5b own me) v).row:=by
 rw [CE.V.a1i]
 rfl
theorem azh {own:List Nat} (hl:own∈a2j) {me:Nat} (hm:me∈own):(a5b own me).ref.length=32:=by
 unfold a5b asj
 simp
theorem b3c (x:LN) (v:Value):(LN.let x v).row[0]? = some (.int .i64 x.kind):=by
 rw [CE.V.a1i];rfl
theorem aPv (x:LN) (v:Value):(LN.let x v).row[3]? = some (.int .i64 x.mtg):=by
 rw [CE.V.a1i];rfl
theorem aWf (x:LN) (v:Value):(LN.let x v).row[24]? = some (.int .i64 x.dl):=by
 rw [CE.V.a1i];rfl
theorem aWe (x:LN) (v:Value):(LN.let x v).row[25]? = some (.int .i64 x.st):=by
 rw [CE.V.a1i];rfl
theorem arb (x:LN) (v:Value):(LN.let x v).row[29]? = some v:=by
 rw [CE.V.a1i];rfl
theorem aV8 {y:LN} (h:y.Ok) (n:Nat) (h0:1≤n) (h1:n≤1000):LN.Ok { y with mtg:=n } :=
 ⟨h.kd,h.frm,h.dst,h.ne,h0,by show n≤_;omega,h.res,h.res0,h.dl,h.dl0,h.st,h.aNg,h.st0,h.cs,h.up,h.len,h.cs0,h.ref,h.aO3,h.shp⟩
theorem b34 {y:LN} (h:y.Ok) (n:Nat) (hk:y.kind=9) (h1:n≤1000):LN.Ok { y with dl:=n } :=
 ⟨h.kd,h.frm,h.dst,h.ne,h.aPp,h.aM0,h.res,h.res0,by show n≤_;omega,fun _ e=>absurd hk e,h.st,h.aNg,h.st0,h.cs,h.up,h.len,h.cs0,h.ref,h.aO3,h.shp⟩
theorem b2z {y:LN} (h:y.Ok):LN.Ok { y with st:=0 } :=
 ⟨h.kd,h.frm,h.dst,h.ne,h.aPp,h.aM0,h.res,h.res0,h.dl,h.dl0,Nat.zero_le _,fun _=>Nat.zero_le _,fun _=>rfl,h.cs,h.up,h.len,h.cs0,h.ref,h.aO3,h.shp⟩
theorem aV4 {y:LN} (h:y.Ok) (b:UInt8) (hk:9≤y.kind) (hk2:y.kind≤12):LN.Ok { y with ref:=y.ref.set 0 b } :=
 ⟨h.kd,h.frm,h.dst,h.ne,h.aPp,h.aM0,h.res,h.res0,h.dl,h.dl0,h.st,h.aNg,h.st0,h.cs,h.up,h.len,h.cs0,by show (y.ref.set 0 b).length=32;rw [List.length_set];exact h.ref,fun e=>(by rcases e with e | e<;>have e:y.kind=_:=e<;>omega),h.shp⟩
theorem aVd {y:LN} (h:y.Ok) (hk:9≤y.kind) (hk2:y.kind≤12) (hl:y.cs.length≤3):LN.Ok { y with cs:=y.cs.tail } :=
 ⟨h.kd,h.frm,h.dst,h.ne,h.aPp,h.aM0,h.res,h.res0,h.dl,h.dl0,h.st,h.aNg,h.st0,fun c hc=>h.cs c (List.mem_of_mem_tail hc),h.up.tail,by show y.cs.tail.length≤4;rw [List.length_tail];omega,fun e=>(by have e:y.kind=_:=e;omega),h.ref,h.aO3,by
  show CE.V.shB y.kind y.cs.tail.length=true
  rw [List.length_tail]
  obtain ⟨n,hn⟩ : ∃ n,y.cs.length=n:=⟨_,rfl⟩
  obtain ⟨m,hm⟩ : ∃ m,y.kind=m:=⟨_,rfl⟩
  rw [hn,hm]
  have:∀ n,n≤3→∀ m,m≤12→9≤m→CE.V.shB m (n - 1)=true:=by decide
  exact this n (by omega) m (by omega) (by omega)⟩
theorem aMx (a:UInt8):((a.toNat:Int)+1) % 256=(((a+1).toNat:Nat):Int):=by
 rw [UInt8.toNat_add];simp
theorem ahj {w:World} {base:Nat} {v:Value} {n:Nat} {l:List Nat} (h:w.ownsRow base 3 1 v n (l.map fun (c:Nat)=>Value.int .i64 (c:Int))):a0h base w v l:=by
 have hl:l.length=n:=by have:=h.1;rw [List.length_map] at this;omega
 cases l with
 | nil =>
  refine .inl ⟨rfl,?_⟩
  rcases h.2 with ⟨q,_⟩ | ⟨g,c,cur,q,_⟩
  ·exact .inl q
  ·exact .inr ⟨⟨g,0,none⟩,c,by rw [q,← hl];rfl⟩
 | cons a t=>exact .inr ⟨List.cons_ne_nil _ _,aoi h (by rw [← hl];simp)⟩
theorem ahi {w:World} {base T z:Nat} {v:Value} {n:Nat} {xs:List Value} (h:w.ownsRow base T z v n xs) : ∃ a c,v=.slice a n c:=by
 rcases h.2 with ⟨q,rfl⟩ | ⟨g,c,cur,q,_⟩
 ·exact ⟨_,_,q⟩
 ·exact ⟨_,_,q⟩
theorem as9 {W:World} {c:Value} {l:List Nat} (h:a0h 0 W c l) (h0:l≠[]) : ∃ bb bo bc aZy,c=.slice (some ⟨bb,bo,none⟩) l.length bc∧obj W bb=some (.cells aZy 3 (0,0))∧l.length≤bc∧∀ i,i < l.length→aZy[bo+i]? = some (.int .i64 (l.getD i 0:Nat)):=by
 rcases h with ⟨e,_⟩ | ⟨_,b,o,c,row,h1,h2,h3,h4,h5,h6⟩
 ·exact absurd e h0
 ·rw [List.length_map] at h1 h5 h6
  refine ⟨b,o,c,row,h1,h3,h5,fun i hi=>?_⟩
  rw [h6 i hi,List.getElem?_map,List.getElem?_eq_getElem hi,List.getD_eq_getElem?_getD,List.getElem?_eq_getElem hi]
  rfl
theorem am1 {own:List Nat} (hl:own∈a2j) {W:World} {v:Value} {k f t b:Nat} (hk:k < 256) (hf:f < 256) (ht:t < 256) (hb:b < 256) (hv:a0h 0 W v own)
  {r:List UInt8} (agv:r.length=32) (HR:∀ W' w,Below W.heap.size W W'→a0h 0 W' w own→Calls Tryz.prog 101 #[.agg (a06 4 0 90 w)] W' fun e W''=>e=.returned (.agg (a0i r))∧Below W'.heap.size W' W'') :
  Calls Tryz.prog 36 #[.agg (a06 4 0 90 v),.agg (a1b k f t b)] W fun e W' => ∃ y c,e=.returned (.agg (LN.let y c).row)∧YP own k b y∧a0h 0 W' c y.cs∧Below W.heap.size W W':=by
 have h0:=a2h hl
 have hlen:0 < own.length:=List.length_pos_iff.2 h0
 have hlen3:own.length≤3:=(by decide:∀ l∈a2j,l.length≤3) own hl
 have HV:=Lib.hid hv
 obtain ⟨oa,oc,rfl,hov⟩:=a0s hv
 obtain ⟨ob,oo,orow,rfl,ho1,ho2⟩:=hov h0
 have po:=a3c 4 0 90 (show (Value.slice (some ⟨ob,oo,none⟩) own.length oc).oneCell' = true from rfl)
 clear hov
 have hro:ones (a1b k f t b)=true:=by unfold a1b;simp [ones,ack]
 have hrz:(a1b k f t b).size=4:=rfl
 have hra:(a1b k f t b).extract 0 4=a1b k f t b:=extract_all _ _ rfl
 have j0:obj (((W.alloc (.cells (a06 4 0 90 (.slice (some ⟨ob,oo,none⟩) own.length oc)) 61 (0,0))).alloc (.cells (a1b k f t b) 71 (0,0))).alloc (.cells z48 48 (0,0))) W.heap.size=some (.cells (a06 4 0 90 (.slice (some ⟨ob,oo,none⟩) own.length oc)) 61 (0,0)):=a02 (a02 (a03 _ _ _ rfl) _) _
 have j1:obj (((W.alloc (.cells (a06 4 0 90 (.slice (some ⟨ob,oo,none⟩) own.length oc)) 61 (0,0))).alloc (.cells (a1b k f t b) 71 (0,0))).alloc (.cells z48 48 (0,0))) (W.heap.size+1)=some (.cells (a1b k f t b) 71 (0,0)):=a02 (a03 _ _ _ (by simp)) _
 have j2:obj (((W.alloc (.cells (a06 4 0 90 (.slice (some ⟨ob,oo,none⟩) own.length oc)) 61 (0,0))).alloc (.cells (a1b k f t b) 71 (0,0))).alloc (.cells z48 48 (0,0))) (W.heap.size+1+1)=some (.cells z48 48 (0,0)):=a03 _ _ _ (by simp)
 have jB:Below W.heap.size W (((W.alloc (.cells (a06 4 0 90 (.slice (some ⟨ob,oo,none⟩) own.length oc)) 61 (0,0))).alloc (.cells (a1b k f t b) 71 (0,0))).alloc (.cells z48 48 (0,0))):=(((Below.refl _ _).alloc (Nat.le_refl _) _).alloc (by simp) _).alloc (by simp;omega) _
 have rm:∀ n:Nat,Int.tmod (n:Int) (own.length:Int)=((n % own.length:Nat):Int):=fun n=>by
  rw [Int.tmod_eq_emod_of_nonneg (by omega)];rfl
 have hremf:=rm f
 have b3p:=rm t
 have hi0:f % own.length < own.length:=Nat.mod_lt _ hlen
 have ht0:t % own.length < own.length:=Nat.mod_lt _ hlen
 have hoi:=ho2 (f % own.length) hi0
 have hme:own.getD (f % own.length) 0∈own:=by rw [List.getD_eq_getElem?_getD,List.getElem?_eq_getElem hi0];exact List.getElem_mem hi0
 have HO2:=Lib.hid ho2
 clear ho2 rm
 have wf:IntKind.wrap .i64 (f:Int)=(f:Int):=by rw [IntKind.wrap_i64];omega
 have wt:IntKind.wrap .i64 (t:Int)=(t:Int):=by rw [IntKind.wrap_i64];omega
 have hl0:(own.length:Int)≠0:=by omega
 have HIF:=Lib.hid hi0
 generalize hme0:own.getD (f % own.length) 0=me at hoi hme
 clear hme0
 generalize hfi:f % own.length=fi at *
 clear hfi
 generalize hti:t % own.length=ti at *
 clear hti
 have hib:(fi:Int) < (own.length:Int):=by omega
 have htb:(ti:Int) < (own.length:Int):=by omega
 go_enter Tryz.func36,Tryz.ntmps36
 repeat' (first | go_skip | go_guarded | go_step | go_upon)
 generalize (((W.alloc (.cells (a06 4 0 90 (.slice (some ⟨ob,oo,none⟩) own.length oc)) 61 (0,0))).alloc (.cells (a1b k f t b) 71 (0,0))).alloc (.cells z48 48 (0,0)))=w3 at *
 have lt0:=a04 j0
 have lt1:=a04 j1
 have ltb:=a04 ho1
 (refine a2x (by kernel_rfl) (by kernel_rfl) ?_;(repeat (refine wpQuiet_step (fun K hK=>?_);go_simp;first | (refine hK _ ?_;clear hK K) | (apply Exists.intro;refine ⟨fun W hW=>?_,hK _ ?_⟩;(focus ((first | (with_reducible exact rfl) | ((have p0:=a00 j0 hW lt0;have p1:=a00 j1 hW lt1;have po1:=a00 ho1 (jB.trans (hW.mono jB.size)) ltb;have c3:=(a01 p0 3).trans (ads _ _ _ _);have r1:=(a01 p1 1).trans (show (a1b k f t b)[1]? = some (.int .u8 f) from rfl);have co:=(a01 po1 (oo+fi)).trans hoi);(try go_simp);first | done | (with_reducible exact rfl) | (with_reducible exact ⟨rfl,rfl⟩) | (skip)));done));clear hK K)));refine wpQuiet_nil ?_;intro W2 hW2)
 have p0:=a00 j0 hW2 lt0
 have p1:=a00 j1 hW2 lt1
 have p2:=a00 j2 hW2 (a04 j2)
 have pB:=jB.trans (hW2.mono jB.size)
 have c0:=(a01 p0 0).trans (atn _ _ _ _)
 have c2:=(a01 p0 2).trans (aFn _ _ _ _)
 have c3:=(a01 p0 3).trans (ads _ _ _ _)
 have hlit:=aGz own me (.slice (some ⟨ob,oo,none⟩) own.length oc)
 have hhr:=azh hl hme
 have lz:=a0e (LN.let (a5b own me) (.slice (some ⟨ob,oo,none⟩) own.length oc)) hhr
 have la:=a15 (LN.let (a5b own me) (.slice (some ⟨ob,oo,none⟩) own.length oc)) hhr
 have lo:=a0y (LN.let (a5b own me) (.slice (some ⟨ob,oo,none⟩) own.length oc)) rfl
 have HH:=Lib.hid (fun W' (hb:Below W.heap.size W W')=>aub hl hme (HV.out.below hb))
 have HF:=Lib.hid (fun W' (hb:Below W.heap.size W W')=>al7 hl hme (HV.out.below hb))
 have q6:obj (W2.alloc (.cells (LN.let (a5b own me) (.slice (some ⟨ob,oo,none⟩) own.length oc)).row 48 (0,0))) W2.heap.size=some (.cells (LN.let (a5b own me) (.slice (some ⟨ob,oo,none⟩) own.length oc)).row 48 (0,0)):=a03 _ _ _ rfl
 have q0:=a02 p0 (.cells (LN.let (a5b own me) (.slice (some ⟨ob,oo,none⟩) own.length oc)).row 48 (0,0))
 have q1:=a02 p1 (.cells (LN.let (a5b own me) (.slice (some ⟨ob,oo,none⟩) own.length oc)).row 48 (0,0))
 have q2:=a02 p2 (.cells (LN.let (a5b own me) (.slice (some ⟨ob,oo,none⟩) own.length oc)).row 48 (0,0))
 have qB:=pB.alloc pB.size (.cells (LN.let (a5b own me) (.slice (some ⟨ob,oo,none⟩) own.length oc)).row 48 (0,0))
 clear j0 j1 j2 jB hW2
 repeat' ((fail_if_success (with_reducible refine Go.wp_block ?_));(first | (go_at_call 99;((with_reducible refine (HH.out _ qB).mono ?_));rintro r w5 ⟨ow,s,rfl,hw1,hgr,hb5⟩;have oo5:=a1y me 4 0 90 2 hw1 (show (Value.slice none 0 0).oneCell' = true from rfl);have s6:=a00 q6 hb5 (a04 q6);have s0:=a00 q0 hb5 (a04 q0);have s1:=a00 q1 hb5 (a04 q1);have s2:=a00 q2 hb5 (a04 q2);have sB:=qB.trans (hb5.mono qB.size);have t6:=a02 s6 (.cells (ownRow me 4 0 90 2 ow (.slice none 0 0)) 28 (0,0));have t0:=a02 s0 (.cells (ownRow me 4 0 90 2 ow (.slice none 0 0)) 28 (0,0));have t1:=a02 s1 (.cells (ownRow me 4 0 90 2 ow (.slice none 0 0)) 28 (0,0));have t2:=a02 s2 (.cells (ownRow me 4 0 90 2 ow (.slice none 0 0)) 28 (0,0));have tB:=sB.alloc sB.size (.cells (ownRow me 4 0 90 2 ow (.slice none 0 0)) 28 (0,0));have HGR:=Lib.hid hgr;clear hgr;dsimp only) | (go_at_call 100;((with_reducible refine (HF.out _ tB).mono ?_));rintro r w7 ⟨s',rfl,hgr2,hb7⟩;have HG2:=Lib.hid hgr2;clear hgr2;have u0:=a00 t0 hb7 (a04 t0);have u1:=a00 t1 hb7 (a04 t1);have u2:=a00 t2 hb7 (a04 t2);have uB:=tB.trans (hb7.mono tB.size);have u10:=(a01 u1 0).trans (show (a1b k f t b)[0]? = some (.int .u8 k) from rfl);have u12:=(a01 u1 2).trans (show (a1b k f t b)[2]? = some (.int .u8 t) from rfl);obtain ⟨g1,cv1,⟨sa,sc,hse,hsr⟩,hlp1,hcv1⟩:=HGR.out;obtain ⟨sb1,so1,b1j,hsa,hs1,hs2⟩:=hsr (by omega);subst hsa;subst hse;obtain ⟨z0,z2⟩:=hs2 ti ht0;have z1:(so1+ti * 62+62≤b1j.size)=True:=eq_true z0;have us:=a00 (a02 hs1 (.cells (ownRow me 4 0 90 2 ow (.slice none 0 0)) 28 (0,0))) hb7 (a04 (a02 hs1 (.cells (ownRow me 4 0 90 2 ow (.slice none 0 0)) 28 (0,0))));have hl1:=hlp1 ti ht0;have lz1:=a0e (LN.let (g1 ti) (cv1 ti)) hl1.ok.ref;have la1:=a15 (LN.let (g1 ti) (cv1 ti)) hl1.ok.ref;have lo1:=a0y (LN.let (g1 ti) (cv1 ti)) (a0v (hcv1 ti ht0));have hc1:=(hcv1 ti ht0).below (((Below.refl _ _).alloc (Nat.le_refl _) (.cells (ownRow me 4 0 90 2 ow (.slice none 0 0)) 28 (0,0))).trans (hb7.mono (by simp)));have x0:=a02 u0 (.cells (LN.let (g1 ti) (cv1 ti)).row 48 (0,0));have x1:=a02 u1 (.cells (LN.let (g1 ti) (cv1 ti)).row 48 (0,0));have x2:=a02 u2 (.cells (LN.let (g1 ti) (cv1 ti)).row 48 (0,0));have x12:obj (w7.alloc (.cells (LN.let (g1 ti) (cv1 ti)).row 48 (0,0))) w7.heap.size=some (.cells (LN.let (g1 ti) (cv1 ti)).row 48 (0,0)):=a03 _ _ _ rfl;have xB:=uB.alloc uB.size (.cells (LN.let (g1 ti) (cv1 ti)).row 48 (0,0));have xc:=hc1.below ((Below.refl _ _).alloc (Nat.le_refl _) (.cells (LN.let (g1 ti) (cv1 ti)).row 48 (0,0)));have HGX:=Lib.hid HG2.out;have x10:=(a01 x1 0).trans (show (a1b k f t b)[0]? = some (.int .u8 k) from rfl);clear hsr hs2 hlp1 hcv1 HGR z0;dsimp only at z2;dsimp only) | go_skip | go_guarded | go_step | go_upon))
 have HG3:Hid (∃ (g:Nat→LN) (cv:Nat→Value),a5h (w7.alloc (.cells (LN.let (g1 ti) (cv1 ti)).row 48 (0,0))) s' 48 62 own.length (fun i=>((g i).let (cv i)).row)∧(∀ i,i < own.length→LP 10 me own (g i))∧∀ i,i < own.length→a0h 0 (w7.alloc (.cells (LN.let (g1 ti) (cv1 ti)).row 48 (0,0))) (cv i) own):=Lib.hid (by
  obtain ⟨g,cv,q1,q2,q3⟩:=HG2.out
  exact ⟨g,cv,q1.below ((Below.refl _ _).alloc (Nat.le_refl _) _),q2,fun i hi=>(q3 i hi).below ((Below.refl _ _).alloc (Nat.le_refl _) _)⟩)
 have s12:=a04 u2
 have hl1c:=hl1.cs
 rw [← hl1c] at xc
 clear HG2 HGX u0 u1 u2 u10 u12 us z1 z2 hc1 HH HF
 generalize w7.alloc (.cells (LN.let (g1 ti) (cv1 ti)).row 48 (0,0))=w8 at *
 generalize g1 ti=y1 at *
 generalize cv1 ti=c1 at *
 have hk6:k % 6 < 6:=Nat.mod_lt _ (by decide)
 generalize hkk:k % 6=k6 at *
 have HK6:=Lib.hid hkk
 clear hkk
 go_cut [12] from 54 (fun v wx=>v=.pointer (some ⟨w7.heap.size,0,none⟩)∧∃ y c,obj wx w7.heap.size=some (.cells (LN.let y c).row 48 (0,0))∧a0h 0 wx c y.cs∧y.Ok∧y.frm < 5∧y.dst < 5∧y.dl≤90∧9≤y.kind∧y.kind≤12∧y.mtg=4∧y.cs=own∧(k6=2→y.kind=10∧y.frm∈own)∧obj wx (W.heap.size+1)=some (.cells (a1b k f t b) 71 (0,0))∧obj wx (W.heap.size+1+1)=some (.cells z48 48 (0,0))∧Below W.heap.size W wx)
 case first =>
  have me5:me < 5:=(by decide:∀ l∈a2j,∀ m∈l,m < 5) own hl me hme
  rcases (show k6=0∨k6=1∨k6=2∨k6=3∨k6=4∨k6=5 by omega) with rfl | rfl | rfl | rfl | rfl | rfl
  ·have hkm:(k:Int) % 6=0:=by have:=HK6.out;omega
   repeat' (first | go_skip | go_guarded | go_step | go_upon)
   go_meet
   exact ⟨rfl,y1,c1,x12,xc,hl1.ok,by rw [hl1.frm];exact me5,hl1.dst,hl1.dl,by rw [hl1.kind];decide,by rw [hl1.kind];decide,hl1.mtg,hl1.cs,fun e=>by omega,x1,x2,xB⟩
  ·have hkm:(k:Int) % 6=1:=by have:=HK6.out;omega
   repeat' (first | go_skip | go_guarded | go_step | go_upon)
   go_meet
   exact ⟨rfl,y1,c1,x12,xc,hl1.ok,by rw [hl1.frm];exact me5,hl1.dst,hl1.dl,by rw [hl1.kind];decide,by rw [hl1.kind];decide,hl1.mtg,hl1.cs,fun e=>by omega,x1,x2,xB⟩
  ·have hkm:(k:Int) % 6=2:=by have:=HK6.out;omega
   obtain ⟨g2,cv2,⟨sa,sc2,rfl,hsr⟩,aWq,hcv2⟩:=HG3.out
   obtain ⟨sb2,so2,aNh,rfl,hs1,hs2⟩:=hsr (by omega)
   obtain ⟨z0,z2⟩:=hs2 ti ht0
   dsimp only at z2
   have z1:(so2+ti * 62+62≤aNh.size)=True:=eq_true z0
   have hl2:=aWq ti ht0
   have hc2:=hcv2 ti ht0
   have x12b:=(a01 x1 2).trans (show (a1b k f t b)[2]? = some (.int .u8 t) from rfl)
   rw [← hl2.cs] at hc2
   generalize g2 ti=y2 at *
   generalize cv2 ti=c2 at *
   have lz2:=a0e (LN.let y2 c2) hl2.ok.ref
   have la2:=a15 (LN.let y2 c2) hl2.ok.ref
   have lo2:=a0y (LN.let y2 c2) (a0v hc2)
   clear hsr hs2 aWq hcv2 z0
   repeat' (first | go_skip | go_guarded | go_step | go_upon)
   go_meet
   have hY1:obj (w8.setRow w7.heap.size (LN.let y2 c2).row) w7.heap.size=some (.cells (LN.let y2 c2).row 48 (0,0)):=by rw [a0b,x12];rfl
   have hYk:∀ x,x≠w7.heap.size→obj (w8.setRow w7.heap.size (LN.let y2 c2).row) x=obj w8 x:=fun x hx=>setRow_other _ _ _ _ hx
   exact ⟨rfl,y2,c2,hY1,a2m hc2 x12 (by decide) hYk,hl2.ok,by rw [hl2.frm];exact me5,hl2.dst,hl2.dl,by rw [hl2.kind];decide,by rw [hl2.kind];decide,hl2.mtg,hl2.cs,fun _=>⟨hl2.kind,by rw [hl2.frm];exact hme⟩,(hYk _ (by omega)).trans x1,(hYk _ (by omega)).trans x2,below_setRow xB (by omega) _⟩
  ·have hkm:(k:Int) % 6=3:=by have:=HK6.out;omega
   have hfo:=as6 own me (.slice (some ⟨ob,oo,none⟩) own.length oc) r agv
   have hz9:=a0e (LN.let (ab1 own me 11 1 r) (.slice (some ⟨ob,oo,none⟩) own.length oc)) agv
   have ho9:=a0y (LN.let (ab1 own me 11 1 r) (.slice (some ⟨ob,oo,none⟩) own.length oc)) rfl
   have HRR:=Lib.hid (fun W' (hb:Below w8.heap.size w8 W')=>HR W' _ (xB.trans (hb.mono xB.size)) (HV.out.below (xB.trans (hb.mono xB.size))))
   have ly0:=a04 x0
   repeat' (first | go_skip | go_guarded | go_step | go_upon)
   (refine a2u 8 (by kernel_rfl) (by kernel_rfl) ?_;simp only [List.take_succ_cons,List.take_zero,List.drop_succ_cons,List.drop_zero];(repeat (refine wpQuiet_step (fun K hK=>?_);go_simp;first | (refine hK _ ?_;clear hK K) | (apply Exists.intro;refine ⟨fun W hW=>?_,hK _ ?_⟩;(focus ((first | (with_reducible exact rfl) | ((have n0:=a00 x0 hW ly0;have n00:=(a01 n0 0).trans (atn _ _ _ _);have n03:=(a01 n0 3).trans (ads _ _ _ _));(try go_simp);first | done | (with_reducible exact rfl) | (with_reducible exact ⟨rfl,rfl⟩) | ((with_reducible exact a4q hW (HRR.out W hW)))));done));clear hK K)));refine wpQuiet_nil ?_;intro W2 hW2)
   have n0:=a00 x0 hW2 (a04 x0)
   have n1:=a00 x1 hW2 (a04 x1)
   have n2:=a00 x2 hW2 (a04 x2)
   have n12:=a00 x12 hW2 (a04 x12)
   have nB:=xB.trans (hW2.mono xB.size)
   repeat' (first | go_skip | go_guarded | go_step | go_upon)
   go_meet
   have hYk:∀ x,x≠w7.heap.size→obj (W2.setRow w7.heap.size (LN.let (ab1 own me 11 1 r) (.slice (some ⟨ob,oo,none⟩) own.length oc)).row) x=obj W2 x:=fun x hx=>setRow_other _ _ _ _ hx
   exact ⟨rfl,ab1 own me 11 1 r,(.slice (some ⟨ob,oo,none⟩) own.length oc),by rw [a0b,n12];rfl,a2m (HV.out.below nB) n12 (by decide) hYk,aAa hl hme (.inl rfl) (by decide) agv,by show 0 < 5;omega,me5,by show 0≤90;omega,by show 9≤11;omega,by show 11≤12;omega,rfl,rfl,fun e=>by omega,(hYk _ (by omega)).trans n1,(hYk _ (by omega)).trans n2,below_setRow nB (by omega) _⟩
  ·have hkm:(k:Int) % 6=4:=by have:=HK6.out;omega
   have hfo:=as6 own me (.slice (some ⟨ob,oo,none⟩) own.length oc) r agv
   have hz9:=a0e (LN.let (ab1 own me 11 1 r) (.slice (some ⟨ob,oo,none⟩) own.length oc)) agv
   have ho9:=a0y (LN.let (ab1 own me 11 1 r) (.slice (some ⟨ob,oo,none⟩) own.length oc)) rfl
   have HRR:=Lib.hid (fun W' (hb:Below w8.heap.size w8 W')=>HR W' _ (xB.trans (hb.mono xB.size)) (HV.out.below (xB.trans (hb.mono xB.size))))
   have ly0:=a04 x0
   repeat' (first | go_skip | go_guarded | go_step | go_upon)
   (refine a2u 8 (by kernel_rfl) (by kernel_rfl) ?_;simp only [List.take_succ_cons,List.take_zero,List.drop_succ_cons,List.drop_zero];(repeat (refine wpQuiet_step (fun K hK=>?_);go_simp;first | (refine hK _ ?_;clear hK K) | (apply Exists.intro;refine ⟨fun W hW=>?_,hK _ ?_⟩;(focus ((first | (with_reducible exact rfl) | ((have n0:=a00 x0 hW ly0;have n00:=(a01 n0 0).trans (atn _ _ _ _);have n03:=(a01 n0 3).trans (ads _ _ _ _));(try go_simp);first | done | (with_reducible exact rfl) | (with_reducible exact ⟨rfl,rfl⟩) | ((with_reducible exact a4q hW (HRR.out W hW)))));done));clear hK K)));refine wpQuiet_nil ?_;intro W2 hW2)
   have n0:=a00 x0 hW2 (a04 x0)
   have n1:=a00 x1 hW2 (a04 x1)
   have n2:=a00 x2 hW2 (a04 x2)
   have n12:=a00 x12 hW2 (a04 x12)
   have nB:=xB.trans (hW2.mono xB.size)
   repeat' (first | go_skip | go_guarded | go_step | go_upon)
   go_meet
   have hYk:∀ x,x≠w7.heap.size→obj (W2.setRow w7.heap.size (LN.let (ab1 own me 11 1 r) (.slice (some ⟨ob,oo,none⟩) own.length oc)).row) x=obj W2 x:=fun x hx=>setRow_other _ _ _ _ hx
   exact ⟨rfl,ab1 own me 11 1 r,(.slice (some ⟨ob,oo,none⟩) own.length oc),by rw [a0b,n12];rfl,a2m (HV.out.below nB) n12 (by decide) hYk,aAa hl hme (.inl rfl) (by decide) agv,by show 0 < 5;omega,me5,by show 0≤90;omega,by show 9≤11;omega,by show 11≤12;omega,rfl,rfl,fun e=>by omega,(hYk _ (by omega)).trans n1,(hYk _ (by omega)).trans n2,below_setRow nB (by omega) _⟩
  ·have hkm:(k:Int) % 6=5:=by have:=HK6.out;omega
   obtain ⟨g2,cv2,⟨sa,sc2,rfl,hsr⟩,aWq,hcv2⟩:=HG3.out
   obtain ⟨sb2,so2,aNh,rfl,hs1,hs2⟩:=hsr (by omega)
   obtain ⟨z0,z2⟩:=hs2 0 hlen
   dsimp only at z2
   rw [Nat.zero_mul,Nat.add_zero] at z0 z2
   have z1:(so2+62≤aNh.size)=True:=eq_true z0
   have hl2:=aWq 0 hlen
   have hc2:=hcv2 0 hlen
   rw [← hl2.cs] at hc2
   generalize g2 0=y2 at *
   generalize cv2 0=c2 at *
   have me0:me≠0:=(by decide:∀ l∈a2j,∀ m∈l,m≠0) own hl me hme
   have henc:(LN.enc (LN.to y2 0)).length≤1048576:=by
    have h1:=hl2.ok.len
    have h2:=hl2.ok.ref
    rw [ai4 hl2.ok]
    unfold LN.enc
    rw [hl2.kind]
    simp [LN.hd,a2y,cl8,h2]
    omega
   have lz2:=a0e (LN.let y2 c2) hl2.ok.ref
   have la2:=a15 (LN.let y2 c2) hl2.ok.ref
   have HMK:=Lib.hid (fun W' (hb:Below w8.heap.size w8 W')=>ao5 (mtg:=4) (org:=0) (dl:=90) (W:=W') (u:=(.slice (some ⟨ob,oo,none⟩) own.length oc)) (v:=c2) (aP9 hl2.ok (by omega) (by rw [hl2.frm];exact me0)) (.inr (.inr hl2.kind)) (by rw [hl2.cs];exact h0) (by rw [hl2.cs];exact hlen3) (hc2.below hb) henc rfl)
   have agv:=a4n 0 y2
   have hfo:=aI6 own me (.slice (some ⟨ob,oo,none⟩) own.length oc) (a2k 0 y2) agv
   have hz9:=a0e (LN.let (ab1 own me 12 15 (a2k 0 y2)) (.slice (some ⟨ob,oo,none⟩) own.length oc)) agv
   have ho9:=a0y (LN.let (ab1 own me 12 15 (a2k 0 y2)) (.slice (some ⟨ob,oo,none⟩) own.length oc)) rfl
   clear hsr hs2 aWq hcv2 z0
   have ly0:=a04 x0
   have lys:=a04 hs1
   repeat' (first | go_skip | go_guarded | go_step | go_upon)
   (refine a2u 11 (by kernel_rfl) (by kernel_rfl) ?_;simp only [List.take_succ_cons,List.take_zero,List.drop_succ_cons,List.drop_zero];(repeat (refine wpQuiet_step (fun K hK=>?_);go_simp;first | (refine hK _ ?_;clear hK K) | (apply Exists.intro;refine ⟨fun W hW=>?_,hK _ ?_⟩;(focus ((first | (with_reducible exact rfl) | ((have n0:=a00 x0 hW ly0;have ns:=a00 hs1 hW lys;have n00:=(a01 n0 0).trans (atn _ _ _ _);have n03:=(a01 n0 3).trans (ads _ _ _ _));(try go_simp);first | done | (with_reducible exact rfl) | (with_reducible exact ⟨rfl,rfl⟩) | ((with_reducible exact a4q hW (HMK.out W hW)))));done));clear hK K)));refine wpQuiet_nil ?_;intro W2 hW2)
   have n0:=a00 x0 hW2 (a04 x0)
   have n1:=a00 x1 hW2 (a04 x1)
   have n2:=a00 x2 hW2 (a04 x2)
   have n12:=a00 x12 hW2 (a04 x12)
   have nB:=xB.trans (hW2.mono xB.size)
   repeat' (first | go_skip | go_guarded | go_step | go_upon)
   go_meet
   have hYk:∀ x,x≠w7.heap.size→obj (W2.setRow w7.heap.size (LN.let (ab1 own me 12 15 (a2k 0 y2)) (.slice (some ⟨ob,oo,none⟩) own.length oc)).row) x=obj W2 x:=fun x hx=>setRow_other _ _ _ _ hx
   exact ⟨rfl,ab1 own me 12 15 (a2k 0 y2),(.slice (some ⟨ob,oo,none⟩) own.length oc),by rw [a0b,n12];rfl,a2m (HV.out.below nB) n12 (by decide) hYk,aAa hl hme (.inr rfl) (by decide) agv,by show 0 < 5;omega,me5,by show 0≤90;omega,by show 9≤12;omega,by show 12≤12;omega,rfl,rfl,fun e=>by omega,(hYk _ (by omega)).trans n1,(hYk _ (by omega)).trans n2,below_setRow nB (by omega) _⟩
 case rest =>
  obtain ⟨rfl,y,c,y0,hc,hok,hf5,hd5,hdl,hk9,hk12,hmt,hcs,hk2,y1,y2,yB⟩:=hcut
  have yr3:=(a01 y1 3).trans (show (a1b k f t b)[3]? = some (.int .u8 b) from rfl)
  have HK2:=Lib.hid hk2
  clear hk2
  repeat' ((fail_if_success (with_reducible refine Go.wp_block ?_));(first | go_skip | go_guarded | go_step | go_upon))
  go_cut [12] from 92 (fun v wx=>v=.pointer (some ⟨w7.heap.size,0,none⟩)∧∃ y c,obj wx w7.heap.size=some (.cells (LN.let y c).row 48 (0,0))∧a0h 0 wx c y.cs∧YP own k b y∧obj wx (W.heap.size+1+1)=some (.cells z48 48 (0,0))∧Below W.heap.size W wx)
  case rest =>
   obtain ⟨rfl,y,c,y0,hc,hY,y2,yB⟩:=hcut
   have lz:=a0e (LN.let y c) hY.ok.ref
   have la:=a15 (LN.let y c) hY.ok.ref
   have lo:=a0y (LN.let y c) (a0v hc)
   repeat' (first | go_skip | go_guarded | go_step | go_upon)
   refine bodyPost_ret (results_cell_row rfl _ _ (W.heap.size+1+1) 48 _ _ _ rfl (setRow_heap _ _ _ _ _ _ y2) Tryz.underlying48 rfl (by rw [lz];kernel_rfl)) rfl ?_
   exact ⟨y,c,rfl,hY,a2m hc y2 (by decide) (fun x hx=>setRow_other _ _ _ _ hx),below_setRow yB (by omega) _⟩
  case first =>
  have g0:=(a01 y0 0).trans (b3c y c)
  have g3:=(a01 y0 3).trans (aPv y c)
  have g24:=(a01 y0 24).trans (aWf y c)
  have g30:=(a01 y0 30).trans (aWd y c hok.ref)
  have g25:=(a01 y0 25).trans (aWe y c)
  have f3:=a0t y0 3
  have f24:=a0t y0 24
  have f25:=a0t y0 25
  have f29:=a0t y0 29
  have f30:=a0t y0 30
  have wm:IntKind.wrap .i64 ((y.mtg:Int)+1)=((y.mtg+1:Nat):Int):=by rw [IntKind.wrap_i64];omega
  have wd:IntKind.wrap .i64 ((y.dl:Int)+1)=((y.dl+1:Nat):Int):=by rw [IntKind.wrap_i64];omega
  have KS:∀ (o:Nat) (u:Value) (y':LN) (c':Value),(LN.let y c).row.setIfInBounds o u=(LN.let y' c').row→a0h 0 wc c' y'.cs→YP own k b y'→(∃ y c,obj (wc.setCell ⟨w7.heap.size,o,none⟩ u) w7.heap.size=some (.cells (LN.let y c).row 48 (0,0))∧a0h 0 (wc.setCell ⟨w7.heap.size,o,none⟩ u) c y.cs∧YP own k b y∧obj (wc.setCell ⟨w7.heap.size,o,none⟩ u) (W.heap.size+1+1)=some (.cells z48 48 (0,0))∧Below W.heap.size W (wc.setCell ⟨w7.heap.size,o,none⟩ u)):=fun o u y' c' he hcv hY =>
   have hk:∀ x,x≠w7.heap.size→obj (wc.setCell ⟨w7.heap.size,o,none⟩ u) x=obj wc x:=fun x hx=>a1e _ _ _ _ hx
   ⟨y',c',by rw [a0l,y0];exact congrArg (fun r=>some (Obj.cells r 48 (0,0))) he,a2m hcv y0 (by decide) hk,hY,(hk _ (by omega)).trans y2,yB.setCell (by show W.heap.size≤w7.heap.size;omega) _⟩
  have HKS:=Lib.hid KS
  clear KS
  have hcases:b=0∨b=1∨b=2∨b=3∨b=4∨b=5∨6≤b:=by omega
  rcases hcases with rfl | rfl | rfl | rfl | rfl | rfl | hb6
  ·repeat' (first | go_skip | go_guarded | go_step | go_upon)
   go_meet
   exact ⟨rfl,y,c,y0,hc,⟨hok,hf5,hd5,by omega,hk9,hk12,fun _=>hmt,fun _ hk=>(by obtain ⟨p,q⟩:=HK2.out (HK6.out.symm.trans hk);exact ⟨p,q,hcs⟩)⟩,y2,yB⟩
  ·rw [hmt] at wm
   repeat' (first | go_skip | go_guarded | go_step | go_upon)
   go_meet
   exact ⟨rfl,HKS.out 3 _ { y with mtg:=5 } c (aGg y c 5) hc ⟨aV8 hok 5 (by omega) (by omega),hf5,hd5,by show y.dl≤1000;omega,hk9,hk12,fun e=>absurd e (by omega),fun e=>absurd e (by omega)⟩⟩
  ·rw [hcs] at hc
   obtain ⟨bb,bo,bc,aZy,rfl,e1,e2,e3⟩:=as9 hc h0
   have a1:obj (wc.alloc (.cells #[] 3 (0,0))) bb=some (.cells aZy 3 (0,0)):=a02 e1 _
   have a0:=a02 y0 (.cells #[] 3 (0,0))
   have a29:=(a01 a0 29).trans (arb y _)
   have hown0:(wc.alloc (.cells #[] 3 (0,0))).ownsRow wc.heap.size 3 1 (.slice (some ⟨wc.heap.size,0,none⟩) 0 0) 0 []:=acj wc 3 1
   obtain ⟨i0,hi,hz0,hz1,hz2⟩:=am8
   have hB0:Below wc.heap.size wc (wc.alloc (.cells #[] 3 (0,0))):=(Below.refl _ _).alloc (Nat.le_refl _) _
   have hnl:(own.tail.map fun (c:Nat)=>Value.int .i64 (c:Int)).length=own.length - 1:=by rw [List.length_map,List.length_tail]
   have hnews:∀ (j:Nat) u,(own.tail.map fun (c:Nat)=>Value.int .i64 (c:Int))[j]? = some u→(wc.alloc (.cells #[] 3 (0,0))).cell? ((⟨bb,bo+1,none⟩:Addr).add j)=some u:=fun j u hu=>by
    have hj:j < own.length - 1:=by
     have:=(List.getElem?_eq_some_iff.1 hu).1
     rwa [hnl] at this
    rw [Addr.add_lit,a01 a1,show bo+1+j=bo+(j+1) by omega,e3 (j+1) (by omega)]
    rw [← hu,List.getElem?_map,List.getElem?_tail,List.getElem?_eq_getElem (show j+1 < own.length by omega),List.getD_eq_getElem?_getD,List.getElem?_eq_getElem (show j+1 < own.length by omega)]
    rfl
   have hone:∀ u∈(own.tail.map fun (c:Nat)=>Value.int .i64 (c:Int)),u.oneCell' = true:=fun u hu=>by
    obtain ⟨c,_,rfl⟩:=List.mem_map.1 hu
    rfl
   have b1:(1:Int)≤(own.length:Int):=by omega
   have b2:(own.length:Int)≤(bc:Int):=by omega
   by_cases hbc:bc=1
   ·have aWp:∀ (j:Nat) u,(own.tail.map fun (c:Nat)=>Value.int .i64 (c:Int))[j]? = some u→(wc.alloc (.cells #[] 3 (0,0))).cell? ((⟨bb,bo,none⟩:Addr).add j)=some u:=fun j u hu=>by
     have:=(List.getElem?_eq_some_iff.1 hu).1
     rw [hnl] at this
     omega
    repeat' (first | (at_builtin;refine wpList_append_own _ rfl _ _ 25 rfl wc.heap.size 3 i0 _ 1 8 Tryz.underlying25 hi hz0 hz1 hz2 rfl (by decide) _ 0 [] rfl hown0 ⟨bb,bo,none⟩ (own.length - 1) _ (own.tail.map fun (c:Nat)=>Value.int .i64 (c:Int)) rfl (by rw [hnl];omega) aWp hone (by unfold maxLen;omega) (by omega) (by simp) ?_;intro v' w' hown hgrow _;have hcV:=ahj hown;obtain ⟨va,vc,rfl⟩:=ahi hown;have hBa:=hB0.grown hgrow hB0.size (fun g hg=>by cases hg;exact Nat.le_refl _);have d0:=a00 y0 hBa (a04 y0);have d2:=a00 y2 hBa (a04 y2);have d29:=(a01 d0 29).trans (arb y _);have df:=a0t d0 29) | go_skip | go_guarded | go_step | go_upon)
    go_meet
    rw [Nat.zero_add] at hcV
    have hk:∀ x,x≠w7.heap.size→obj (w'.setCell ⟨w7.heap.size,29,none⟩ (.slice va (own.length - 1) vc)) x=obj w' x:=fun x hx=>a1e _ _ _ _ hx
    refine ⟨rfl,{ y with cs:=own.tail },.slice va (own.length - 1) vc,?_,?_,?_,(hk _ (by omega)).trans d2,(yB.trans (hBa.mono yB.size)).setCell (by show W.heap.size≤w7.heap.size;omega) _⟩
    ·rw [a0l,d0]
     exact congrArg (fun r=>some (Obj.cells r 48 (0,0))) (am2 y _ _ own.tail)
    ·exact a2m (hcV.mono (Nat.zero_le _)) d0 (by decide) hk
    ·refine ⟨?_,hf5,hd5,by show y.dl≤1000;omega,hk9,hk12,fun e=>absurd e (by omega),fun e=>absurd e (by omega)⟩
     have:=aVd hok hk9 hk12 (by rw [hcs];exact hlen3)
     rwa [hcs] at this
   ·skip
    repeat' (first | (at_builtin;refine wpList_append_own _ rfl _ _ 25 rfl wc.heap.size 3 i0 _ 1 8 Tryz.underlying25 hi hz0 hz1 hz2 rfl (by decide) _ 0 [] rfl hown0 ⟨bb,bo+1,none⟩ (own.length - 1) _ (own.tail.map fun (c:Nat)=>Value.int .i64 (c:Int)) rfl (by rw [hnl];omega) hnews hone (by unfold maxLen;omega) (by omega) (by simp) ?_;intro v' w' hown hgrow _;have hcV:=ahj hown;obtain ⟨va,vc,rfl⟩:=ahi hown;have hBa:=hB0.grown hgrow hB0.size (fun g hg=>by cases hg;exact Nat.le_refl _);have d0:=a00 y0 hBa (a04 y0);have d2:=a00 y2 hBa (a04 y2);have d29:=(a01 d0 29).trans (arb y _);have df:=a0t d0 29) | go_skip | go_guarded | go_step | go_upon)
    go_meet
    rw [Nat.zero_add] at hcV
    have hk:∀ x,x≠w7.heap.size→obj (w'.setCell ⟨w7.heap.size,29,none⟩ (.slice va (own.length - 1) vc)) x=obj w' x:=fun x hx=>a1e _ _ _ _ hx
    refine ⟨rfl,{ y with cs:=own.tail },.slice va (own.length - 1) vc,?_,?_,?_,(hk _ (by omega)).trans d2,(yB.trans (hBa.mono yB.size)).setCell (by show W.heap.size≤w7.heap.size;omega) _⟩
    ·rw [a0l,d0]
     exact congrArg (fun r=>some (Obj.cells r 48 (0,0))) (am2 y _ _ own.tail)
    ·exact a2m (hcV.mono (Nat.zero_le _)) d0 (by decide) hk
    ·refine ⟨?_,hf5,hd5,by show y.dl≤1000;omega,hk9,hk12,fun e=>absurd e (by omega),fun e=>absurd e (by omega)⟩
     have:=aVd hok hk9 hk12 (by rw [hcs];exact hlen3)
     rwa [hcs] at this
  ·repeat' (first | go_skip | go_guarded | go_step | go_upon)
   go_meet
   refine ⟨rfl,HKS.out 30 _ { y with ref:=y.ref.set 0 (y.ref.getD 0 0+1) } c (by rw [← ayu y c _ hok.ref];congr 2;all_goals (have:=aMx (y.ref.getD 0 0);simpa using this)) hc ⟨aV4 hok _ hk9 hk12,hf5,hd5,by show y.dl≤1000;omega,hk9,hk12,fun e=>absurd e (by omega),fun e=>absurd e (by omega)⟩⟩
  ·by_cases h9:y.kind=9
   ·have hb9:((y.kind:Int) == 9)=true:=by rw [h9];rfl
    repeat' (first | go_skip | go_guarded | go_step | go_upon)
    go_meet
    refine ⟨rfl,HKS.out 24 _ { y with dl:=y.dl+1 } c (ayw y c _) hc ⟨b34 hok _ h9 (by omega),hf5,hd5,by show y.dl+1≤1000;omega,hk9,hk12,fun e=>absurd e (by omega),fun e=>absurd e (by omega)⟩⟩
   ·have hb9:((y.kind:Int) == 9)=false:=by simp;omega
    repeat' (first | go_skip | go_guarded | go_step | go_upon)
    go_meet
    exact ⟨rfl,y,c,y0,hc,⟨hok,hf5,hd5,by omega,hk9,hk12,fun _=>hmt,fun e=>absurd e (by omega)⟩,y2,yB⟩
  ·by_cases h9:y.kind=9
   ·have hb9:((y.kind:Int) != 9)=false:=by rw [h9];rfl
    repeat' (first | go_skip | go_guarded | go_step | go_upon)
    go_meet
    exact ⟨rfl,y,c,y0,hc,⟨hok,hf5,hd5,by omega,hk9,hk12,fun _=>hmt,fun e=>absurd e (by omega)⟩,y2,yB⟩
   ·have hb9:((y.kind:Int) != 9)=true:=by simp;omega
    repeat' (first | go_skip | go_guarded | go_step | go_upon)
    go_meet
    exact ⟨rfl,HKS.out 25 _ { y with st:=0 } c (ayv y c 0) hc ⟨b2z hok,hf5,hd5,by show y.dl≤1000;omega,hk9,hk12,fun e=>absurd e (by omega),fun e=>absurd e (by omega)⟩⟩
  ·have hb0:((b:Int) == 0)=false:=by simp;omega
   have hb1:((b:Int) == 1)=false:=by simp;omega
   have hb2:((b:Int) == 2)=false:=by simp;omega
   have hb3:((b:Int) == 3)=false:=by simp;omega
   have hb4:((b:Int) == 4)=false:=by simp;omega
   have hb5:((b:Int) == 5)=false:=by simp;omega
   repeat' (first | go_skip | go_guarded | go_step | go_upon)
   go_meet
   exact ⟨rfl,y,c,y0,hc,⟨hok,hf5,hd5,by omega,hk9,hk12,fun _=>hmt,fun e=>absurd e (by omega)⟩,y2,yB⟩
end Go.Proofs.YtlnlbdfokmhelaaGreatDoor
namespace Go.CE
namespace V
open Go.Proofs Go.Proofs.YtlnlbdfokmhelaaGreatDoor Go.RowKit
set_option maxRecDepth 100000
theorem aD7 {own:List Nat} (hl:own∈a2j) : ∃ r:List UInt8,r.length=32∧∀ (B:Nat) (W:World) (v:Value),a0h B W v own→Calls Tryz.prog 101 #[.agg (a06 4 0 90 v)] W fun e W'=>e=.returned (.agg (a0i r))∧Below W.heap.size W W':=by
 have h:azb (aD6 tQ 101 [ae2 own] own)=true:=by
  have h123:∀ l∈a2j,l.length=1∨l.length=2∨l.length=3:=by decide
  have q1:=List.all_eq_true.1 ao8 own hl
  have q2:=List.all_eq_true.1 ao7 own hl
  have q3:=List.all_eq_true.1 ao6 own hl
  rcases h123 own hl with e | e | e
  ·rw [e] at q1;exact q1
  ·rw [e] at q2;exact q2
  ·rw [e] at q3;exact q3
 unfold azb at h
 split at h
 ·rename_i g f' he
  split at h
  ·rename_i bs hb
   have hd:=@aby S00 _ _ hb
   have hlen:bs.length=32:=by
    have:=(@a6z S00 _ _ hb).1
    have h2:=congrArg List.length this
    have h3:32=bs.length:=by simpa [a07] using h2
    exact h3.symm
   refine ⟨bs.map UInt8.ofNat,by rw [List.length_map];exact hlen,fun B W v hv=>?_⟩
   refine (af8 (@b4y S00 a5k) (a2h hl) hv (fun σ h=>?_) he).mono fun e W' ⟨τ,u,s',hu0,hok,hrs,hsr,hu,hb⟩=>⟨?_,hb⟩
   ·exact @LV.lr S00 σ [ae2 own] [.agg (a06 4 0 90 v)] ⟨aiy h,trivial⟩
   ·have ha:a2t (FV.g g 32)=.g (a07 g 0 32):=rfl
    rw [ha] at hu
    obtain ⟨cc,rfl,hcc⟩:=@VR.aot S00 _ _ _ hu
    rw [hu0,@asb S00 a5k _ _ _ _ hcc hd.1]
  ·cases h
 ·cases h
noncomputable def ark (own:List Nat) (v:FV) (f:QW):Bool:=match v with
 | .s q k o n _=>gw k&&Nat.beq n own.length&&atv (akd 3 (getM q f.m) o n) (agl own)
 | _=>false
theorem axz {own:List Nat} {v:FV} {f':QW} {B:Nat} {τ:Sg} {s':CE.St} {W':World} {u:Value} (h:ark own v f' = true) (h0:own≠[]) (hok:a4l v) (hrs:@RS 2048 s' f') (hsr:@SR S00 Tryz.prog B τ s'.mem W') (hv:@VR S00 τ (a6g v) u):a0h 0 W' u own:=by
 letI:Sym:=S00
 haveI hok':a0n:=a5k
 unfold ark at h
 split at h
 ·rename_i q k o n c
  simp only [Bool.and_eq_true] at h
  obtain ⟨⟨h1,h2⟩,h3⟩:=h
  have h2:=Nat.eq_of_beq_eq_true h2
  unfold atv at h3
  split at h3
  ·rename_i mm hb2
   obtain rfl:=a6h h3
   have:=awu (B:=B) (l:=agl own) a4k hrs hsr hok h1 (h2.trans (List.length_map _).symm) hb2 (af9 own) hv
   rw [a9e] at this
   exact .inr ⟨h0,this⟩
  ·cases h3
 ·cases h
noncomputable def aM9 (r:Ans):Bool:=match r with
 | some (.g g 4,f)=>avL (a07 g 0 3) [.i .i64 (.ofNat 4),.i .i64 (.ofNat 0),.i .i64 (.ofNat 90)]&&a2j.any (fun own=>ark own (a1d (p4 3) g) f)
 | _=>false
theorem axw:(List.range 256).all (fun n=>aM9 (@evF S00 Tryz.prog (LT.fq (.e:LT)) 4000 28 [ofV (.i .u8 (.ofNat n))] ⟨.e,1024,2048,[],[]⟩))=true:=by decide +kernel
theorem atr {n:Nat} (hn:n < 256) (W:World):Calls Tryz.prog 28 #[.int .u8 n] W fun e W' => ∃ own v,own∈a2j∧e=.returned (.agg (a06 4 0 90 v))∧a0h 0 W' v own∧Below W.heap.size W W':=by
 letI:Sym:=S00
 haveI hok':a0n:=a5k
 have h:=List.all_eq_true.1 axw n (List.mem_range.2 hn)
 unfold aM9 at h
 split at h
 ·rename_i g f' he
  rw [Bool.and_eq_true] at h
  obtain ⟨h1,h2⟩:=h
  obtain ⟨own,hl,h2⟩:=List.any_eq_true.1 h2
  refine (a3r (t:=.e) (a:=[.i .u8 (.ofNat n)]) (l:=[ofV (.i .u8 (.ofNat n))]) trivial aIp a8t (aIj W) (fun j hj=>a2a (by omega)) (aaf _) (LV.lr (l:=[.i .u8 (.ofNat n)]) (m:=[.int .u8 n]) ⟨VR.i _ _,trivial⟩) he).mono fun e W' hd=>?_
  obtain ⟨τ,u,s',rfl,hok,hrs,_,hsr,hu,hb⟩:=hd
  have ha:a2t (FV.g g 4)=.g ([.i .i64 (.ofNat 4),.i .i64 (.ofNat 0),.i .i64 (.ofNat 90)] ++ [a6g (a1d (p4 3) g)]):=by
   rw [← a6h h1]
   rfl
  rw [ha] at hu
  obtain ⟨cc,rfl,hcc⟩:=hu.aot
  obtain ⟨v0,e0,hv0⟩:=hcc.at (i:=0) rfl
  obtain ⟨v1,e1,hv1⟩:=hcc.at (i:=1) rfl
  obtain ⟨v2,e2,hv2⟩:=hcc.at (i:=2) rfl
  obtain ⟨v3,e3,hv3⟩:=hcc.at (i:=3) rfl
  cases hv0;cases hv1;cases hv2
  refine ⟨own,v3,hl,?_,axz h2 (a2h hl) (hok 3 (by omega)) hrs hsr hv3,hb⟩
  have hs:cc.size=4:=hcc.len.symm
  unfold a06
  congr 2
  apply Array.ext
  ·simpa using hs
  ·intro i h3 h4
   rcases (show i=0∨i=1∨i=2∨i=3 by omega) with rfl | rfl | rfl | rfl
   ·simpa using (Array.getElem?_eq_some_iff.1 e0).2
   ·simpa using (Array.getElem?_eq_some_iff.1 e1).2
   ·simpa using (Array.getElem?_eq_some_iff.1 e2).2
   ·simpa using (Array.getElem?_eq_some_iff.1 e3).2
 ·cases h
end V
end Go.CE
namespace Go.Proofs.YtlnlbdfokmhelaaGreatDoor
open Go.RowKit Go.CE.V
set_option maxRecDepth 20000
set_option maxHeartbeats 4000000
attribute [local irreducible] wpQuiet
def ava (x:LN):Prop:=∀ q,1≤q→q≤1000000→LOk x q
theorem YP.any {own:List Nat} {k b:Nat} {y:LN} (h:YP own k b y):ava y:=fun q h1 h2=>by
 have hk:=h.kd
 have hk2:=h.k12
 have hr:=h.ok.ref
 have hl:=h.ok.len
 have he:0 < (LN.enc y).length∧(LN.enc y).length≤1048576:=by
  rcases (show y.kind=9∨y.kind=10∨y.kind=11∨y.kind=12 by omega) with e | e | e | e<;>(unfold LN.enc;rw [e];simp [LN.hd,a2y,cl8,hr];try omega)
 exact ⟨h.ok,fun e=>by omega,h.f5,h.d5,⟨h1,h2⟩,he.1,he.2,by have:=h.dls;omega⟩
theorem au7 {own:List Nat} (hl:own∈a2j) {W:World} {v:Value} {k f t b:Nat} (hk:k < 256) (hf:f < 256) (ht:t < 256) (hb:b < 256) (hv:a0h 0 W v own) :
  Calls Tryz.prog 36 #[.agg (a06 4 0 90 v),.agg (a1b k f t b)] W fun e W' => ∃ y c,e=.returned (.agg (LN.let y c).row)∧YP own k b y∧a0h 0 W' c y.cs∧Below W.heap.size W W':=by
 obtain ⟨r,hr,HR⟩:=aD7 hl
 exact am1 hl hk hf ht hb hv hr fun W' w _ hw=>HR 0 W' w hw
theorem a1w {w w':World} {g:Nat} {x:Obj} (h:obj w g=some x) (hb:Below w.heap.size w w'):obj w' g=some x:=a00 h hb (a04 h)
theorem a5m {W w w':World} (h:Below W.heap.size W w) (hb:Below w.heap.size w w'):Below W.heap.size W w':=h.trans (hb.mono h.size)
theorem aku {W:World} {v:Value} {x:LN} {q:Nat} (hx:LOk x q) (hv:a0h 0 W v x.cs) (hT:Tab W) (h0w:0 < W.heap.size) :
  Calls Tryz.prog 35 #[.agg (LN.let x v).row,.int .i64 q] W fun r W' => ∃ body,r=.returned (.agg (a05 x q body).row)∧Sl 0 W' body 5 ((LN.enc x).map fun c=>B8 c.toNat)∧Below W.heap.size W W':=by
 have HX:=Lib.hid hx
 have lz:=a0e (LN.let x v) hx.ok.ref
 have la:=a15 (LN.let x v) hx.ok.ref
 have lo:=a0y (LN.let x v) (a0v hv)
 have j0:obj ((W.alloc (.cells (LN.let x v).row 48 (0,0))).alloc (.cells z78 78 (0,0))) W.heap.size=some (.cells (LN.let x v).row 48 (0,0)):=a02 (a03 _ _ _ rfl) _
 have j1:obj ((W.alloc (.cells (LN.let x v).row 48 (0,0))).alloc (.cells z78 78 (0,0))) (W.heap.size+1)=some (.cells z78 78 (0,0)):=a03 _ _ _ (by simp)
 have jB:Below W.heap.size W ((W.alloc (.cells (LN.let x v).row 48 (0,0))).alloc (.cells z78 78 (0,0))):=((Below.refl _ _).alloc (Nat.le_refl _) _).alloc (by simp) _
 have hqi:(q:Int)=q:=rfl
 have HS:=Lib.hid (fun (W':World) kv (hb:Below W.heap.size W W') (hk:a7r W' kv)=>ata (q:=q) hx.ok hx.f5 hx.d5 hx.q hk (hv.below hb) hx.e0 hx.e1 (hT.below hb h0w) (Nat.lt_of_lt_of_le h0w hb.size))
 go_enter Tryz.func35,Tryz.ntmps35
 repeat' (first | go_skip | go_guarded | go_step | go_upon)
 generalize ((W.alloc (.cells (LN.let x v).row 48 (0,0))).alloc (.cells z78 78 (0,0)))=w3 at *
 have lt0:=a04 j0
 have lt1:=a04 j1
 have p0:obj w3.drew W.heap.size=_:=j0
 have p1:obj w3.drew (W.heap.size+1)=_:=j1
 have jD:Below W.heap.size W w3.drew:=jB.drew
 have q0:=a02 p0 (.cells z78 78 (0,0))
 have q1:=a02 p1 (.cells z78 78 (0,0))
 have jD2:=jD.alloc jD.size (.cells z78 78 (0,0))
 have nz:obj (w3.drew.alloc (.cells z78 78 (0,0))) w3.heap.size=some (.cells z78 78 (0,0)):=a03 _ _ _ rfl
 go_cut [5,6] from 7 to 13 (fun v5 v6 wx => ∃ n body,v5=.pointer (some ⟨n,0,none⟩)∧v6=.int .i64 0∧obj wx n=some (.cells (a05 x q body).row 78 (0,0))∧Sl 0 wx body 5 ((LN.enc x).map fun c=>B8 c.toNat)∧obj wx (W.heap.size+1)=some (.cells z78 78 (0,0))∧n≠W.heap.size+1∧Below W.heap.size W wx)
 case first =>
  go_region_law (first | ((go_simp;go_at_call 34;((with_reducible refine (aas _).mono ?_));rintro e w4 ⟨kv,rfl,hkv,hb4⟩;have r0:obj w4 W.heap.size=some (.cells (LN.let x v).row 48 (0,0)):=a1w (by assumption) hb4;have r1:obj w4 (W.heap.size+1)=some (.cells z78 78 (0,0)):=a1w (by assumption) hb4;have jE:Below W.heap.size W w4:=a5m (by assumption) hb4;have t0:=a02 r0 (.cells z78 78 (0,0));have t1:=a02 r1 (.cells z78 78 (0,0));have jE2:=jE.alloc jE.size (.cells z78 78 (0,0));have hkv2:a7r (w4.alloc (.cells z78 78 (0,0))) kv:=a5h.below hkv ((Below.refl _ _).alloc (Nat.le_refl _) (.cells z78 78 (0,0)));have n4:obj (w4.alloc (.cells z78 78 (0,0))) w4.heap.size=some (.cells z78 78 (0,0)):=a03 _ _ _ rfl;(try have n14:=a1w nz hb4);dsimp only)) | ((go_simp;go_at_call 55;((with_reducible refine (HS.out _ _ (by assumption) (by assumption)).mono ?_));rintro e w5 ⟨body,rfl,hbd,hb5⟩;have s0:obj w5 W.heap.size=some (.cells (LN.let x v).row 48 (0,0)):=a1w (by assumption) hb5;have s1:obj w5 (W.heap.size+1)=some (.cells z78 78 (0,0)):=a1w (by assumption) hb5;have jF:Below W.heap.size W w5:=a5m (by assumption) hb5;have es:=a1o (a05 x q body) (a0f x q);have ea:=a4f (a05 x q body) (a0f x q);have eo:=a1k x q (a7s hbd);have n5:obj (w5.alloc (.cells z78 78 (0,0))) w5.heap.size=some (.cells z78 78 (0,0)):=a03 _ _ _ rfl;(try have n15:=a1w n14 hb5);(try have n45:=a1w n4 hb5);dsimp only)))
  all_goals (repeat' go_step)
  all_goals go_meet
  all_goals first
   | exact ⟨_,body,rfl,rfl,a03 _ _ _ rfl,hbd.below ((Below.refl _ _).alloc (Nat.le_refl _) _),a02 s1 _,(by have:=a04 s1;omega),jF.alloc jF.size _⟩
   | exact ⟨_,body,rfl,rfl,(by rw [a0b,n45];rfl),a96 hbd n45 (by decide) (fun y hy=>setRow_other _ _ _ _ hy),(setRow_other _ _ _ _ (by have:=a04 r1;omega)).trans s1,(by have:=a04 r1;omega),below_setRow jF (by have:=jE.size;omega) _⟩
   | exact ⟨_,body,rfl,rfl,(by rw [a0b,n15];rfl),a96 hbd n15 (by decide) (fun y hy=>setRow_other _ _ _ _ hy),(setRow_other _ _ _ _ (by omega)).trans s1,(by omega),below_setRow jF (by omega) _⟩
 case rest =>
  obtain ⟨n,body,rfl,rfl,h1,h2,h3,h4,h5⟩:=hcut
  have es:=a1o (a05 x q body) (a0f x q)
  have ea:=a4f (a05 x q body) (a0f x q)
  have eo:=a1k x q (a7s h2)
  repeat' (first | go_skip | go_guarded | go_step | go_upon)
  refine bodyPost_ret (results_cell_row rfl _ _ (W.heap.size+1) 78 _ _ _ rfl (setRow_heap _ _ _ _ _ _ h3) Tryz.underlying78 rfl (by rw [es];kernel_rfl)) rfl ?_
  exact ⟨body,rfl,a96 h2 h3 (by decide) (fun y hy=>setRow_other _ _ _ _ hy),below_setRow h5 (by omega) _⟩
end Go.Proofs.YtlnlbdfokmhelaaGreatDoor
namespace Go.Proofs.YtlnlbdfokmhelaaGreatDoor
open Go.RowKit Go.CE.V Go.Rv
set_option maxRecDepth 20000
set_option maxHeartbeats 4000000
attribute [local irreducible] wpQuiet
@[go_sem] theorem aZw (w:World):(ak0 30 0 #[]).run Tryz.prog w=.ok (.slice (some ⟨w.heap.size,0,none⟩) 0 0) (w.alloc (.cells #[] 48)):=by kernel_rfl
theorem aqk (k f t b:Nat):(a1b k f t b).size=4:=rfl
theorem aql (k f t b:Nat):ones (a1b k f t b)=true:=by unfold a1b;simp [ones,ack]
def aRg (W:World) (v:Value) (m:Nat):Prop := ∃ (g:Nat→Nat×Nat×Nat×Nat) (ao:Option Addr) (c:Nat),v=.slice ao m c∧(m≠0→∃ b o row T fr,ao=some ⟨b,o,none⟩∧obj W b=some (.cells row T fr)∧∀ i,i < m→o+i * 4+4≤row.size∧row.extract (o+i * 4) (o+i * 4+4)=a1b (g i).1 (g i).2.1 (g i).2.2.1 (g i).2.2.2)∧∀ i,i < m→(g i).1 < 256∧(g i).2.1 < 256∧(g i).2.2.1 < 256∧(g i).2.2.2 < 256
theorem aRg.below {W W':World} {v:Value} {m:Nat} (h:aRg W v m) (hb:Below W.heap.size W W'):aRg W' v m:=by
 obtain ⟨g,ao,c,h1,h2,h3⟩:=h
 refine ⟨g,ao,c,h1,fun hm=>?_,h3⟩
 obtain ⟨b,o,row,T,fr,e1,e2,e3⟩:=h2 hm
 exact ⟨b,o,row,T,fr,e1,a1w e2 hb,e3⟩
end Go.Proofs.YtlnlbdfokmhelaaGreatDoor
namespace Go.Proofs.YtlnlbdfokmhelaaGreatDoor
open Go.RowKit Go.CE.V Go.Rv
set_option maxRecDepth 20000
set_option maxHeartbeats 4000000
attribute [local irreducible] wpQuiet
end Go.Proofs.YtlnlbdfokmhelaaGreatDoor
