/-
  The walk of the reference's Letter.
-/
import Derived.Test.YtlnlbdfokmhelaaGreatDoorPkRi
set_option linter.unusedSectionVars false
set_option linter.constructorNameAsVariable false
set_option linter.unusedVariables false
set_option linter.unusedSimpArgs false
namespace Go.Proofs.YtlnlbdfokmhelaaGreatDoor
open Go.RowKit Go.CE.V
set_option maxRecDepth 20000
set_option maxHeartbeats 8000000
attribute [local irreducible] wpQuiet
def aBl (k f t b:Nat):Array Value:=#[.int .u8 k,.int .u8 f,.int .u8 t,.int .u8 b]
structure YP (own:List Nat) (k b:Nat) (y:LN):Prop where
 ok:y.Ok
 f5:y.frm < 5
 d5:y.dst < 5
 dls:y.dl≤1000
 kd:9≤y.kind
 k12:y.kind≤12
 mtg:b=0→y.mtg=4
 ref:b=0→k % 6=2→y.kind=10∧y.frm∈own∧y.cs=own
theorem bMi (own:List Nat) (me:Nat) (v:Value):(#[.int .i64 8,.int .i64 0,.int .i64 me,.int .i64 4,.int .i64 0,.int .i64 0,.int .i64 0,.int .i64 0,.int .i64 0,.int .i64 0,.int .i64 0,.int .i64 0,.int .i64 0,.bool false,.int .i64 0,.int .i64 0,.int .i64 0,.slice none 0 0,.int .i64 0,.int .i64 0,.string ⟨#[]⟩,.int .i64 0,.int .i64 0,.slice none 0 0,.int .i64 90,.int .i64 0,.int .i64 0,.int .i64 0,.int .i64 0,v,.int .u8 0,.int .u8 0,.int .u8 0,.int .u8 0,.int .u8 0,.int .u8 0,.int .u8 0,.int .u8 0,.int .u8 0,.int .u8 0,.int .u8 0,.int .u8 0,.int .u8 0,.int .u8 0,.int .u8 0,.int .u8 0,.int .u8 0,.int .u8 0,.int .u8 0,.int .u8 0,.int .u8 0,.int .u8 0,.int .u8 0,.int .u8 0,.int .u8 0,.int .u8 0,.int .u8 0,.int .u8 0,.int .u8 0,.int .u8 0,.int .u8 0,.int .u8 0]:Array Value)=(LN.let (bam own me) v).row:=by
 rw [CE.V.aRc]
 rfl
theorem bEt {own:List Nat} (hl:own∈b95) {me:Nat} (hm:me∈own):(bam own me).ref.length=32:=by
 unfold bam by0
 simp
theorem c2n (x:LN) (v:Value):(LN.let x v).row[0]? = some (.int .i64 x.kind):=by
 rw [CE.V.aRc];rfl
theorem c8y (x:LN) (v:Value):(LN.let x v).row[3]? = some (.int .i64 x.mtg):=by
 rw [CE.V.aRc];rfl
theorem c2l (x:LN) (v:Value):(LN.let x v).row[24]? = some (.int .i64 x.dl):=by
 rw [CE.V.aRc];rfl
theorem c2k (x:LN) (v:Value):(LN.let x v).row[25]? = some (.int .i64 x.st):=by
 rw [CE.V.aRc];rfl
theorem bE6 (x:LN) (v:Value):(LN.let x v).row[29]? = some v:=by
 rw [CE.V.aRc];rfl
theorem c0t {y:LN} (h:y.Ok) (n:Nat) (h0:1≤n) (h1:n≤1000):LN.Ok { y with mtg:=n } :=
 ⟨h.kd,h.frm,h.dst,h.ne,h0,by show n≤_;omega,h.res,h.res0,h.dl,h.dl0,h.st,h.bX5,h.st0,h.cs,h.up,h.len,h.cs0,h.ref,h.bXc,h.shp⟩
theorem c8p {y:LN} (h:y.Ok) (n:Nat) (hk:y.kind=9) (h1:n≤1000):LN.Ok { y with dl:=n } :=
 ⟨h.kd,h.frm,h.dst,h.ne,h.bXi,h.bV3,h.res,h.res0,by show n≤_;omega,fun _ e=>absurd hk e,h.st,h.bX5,h.st0,h.cs,h.up,h.len,h.cs0,h.ref,h.bXc,h.shp⟩
theorem c8n {y:LN} (h:y.Ok):LN.Ok { y with st:=0 } :=
 ⟨h.kd,h.frm,h.dst,h.ne,h.bXi,h.bV3,h.res,h.res0,h.dl,h.dl0,Nat.zero_le _,fun _=>Nat.zero_le _,fun _=>rfl,h.cs,h.up,h.len,h.cs0,h.ref,h.bXc,h.shp⟩
theorem c0p {y:LN} (h:y.Ok) (b:UInt8) (hk:9≤y.kind) (hk2:y.kind≤12):LN.Ok { y with ref:=y.ref.set 0 b } :=
 ⟨h.kd,h.frm,h.dst,h.ne,h.bXi,h.bV3,h.res,h.res0,h.dl,h.dl0,h.st,h.bX5,h.st0,h.cs,h.up,h.len,h.cs0,by show (y.ref.set 0 b).length=32;rw [List.length_set];exact h.ref,fun e=>(by rcases e with e | e<;>have e:y.kind=_:=e<;>omega),h.shp⟩
theorem c0z {y:LN} (h:y.Ok) (hk:9≤y.kind) (hk2:y.kind≤12) (hl:y.cs.length≤3):LN.Ok { y with cs:=y.cs.tail } :=
 ⟨h.kd,h.frm,h.dst,h.ne,h.bXi,h.bV3,h.res,h.res0,h.dl,h.dl0,h.st,h.bX5,h.st0,fun c hc=>h.cs c (List.mem_of_mem_tail hc),h.up.tail,by show y.cs.tail.length≤4;rw [List.length_tail];omega,fun e=>(by have e:y.kind=_:=e;omega),h.ref,h.bXc,by
  show CE.V.shB y.kind y.cs.tail.length=true
  rw [List.length_tail]
  obtain ⟨n,hn⟩ : ∃ n,y.cs.length=n:=⟨_,rfl⟩
  obtain ⟨m,hm⟩ : ∃ m,y.kind=m:=⟨_,rfl⟩
  rw [hn,hm]
  have:∀ n,n≤3→∀ m,m≤12→9≤m→CE.V.shB m (n - 1)=true:=by decide
  exact this n (by omega) m (by omega) (by omega)⟩
theorem bSd (a:UInt8):((a.toNat:Int)+1) % 256=(((a+1).toNat:Nat):Int):=by
 rw [UInt8.toNat_add];simp
theorem bmf {w:World} {base:Nat} {v:Value} {n:Nat} {l:List Nat} (h:w.ownsRow base 3 1 v n (l.map fun (c:Nat)=>Value.int .i64 (c:Int))):as1 base w v l:=by
 have hl:l.length=n:=by have:=h.1;rw [List.length_map] at this;omega
 cases l with
 | nil =>
  refine .inl ⟨rfl,?_⟩
  rcases h.2 with ⟨q,_⟩ | ⟨g,c,cur,q,_⟩
  ·exact .inl q
  ·exact .inr ⟨⟨g,0,none⟩,c,by rw [q,← hl];rfl⟩
 | cons a t=>exact .inr ⟨List.cons_ne_nil _ _,bu1 h (by rw [← hl];simp)⟩
theorem bme {w:World} {base T z:Nat} {v:Value} {n:Nat} {xs:List Value} (h:w.ownsRow base T z v n xs) : ∃ a c,v=.slice a n c:=by
 rcases h.2 with ⟨q,rfl⟩ | ⟨g,c,cur,q,_⟩
 ·exact ⟨_,_,q⟩
 ·exact ⟨_,_,q⟩
theorem bj7 {W:World} {c:Value} {l:List Nat} (h:as1 0 W c l) (h0:l≠[]) : ∃ bb bo bc c63,c=.slice (some ⟨bb,bo,none⟩) l.length bc∧obj W bb=some (.cells c63 3 (0,0))∧l.length≤bc∧∀ i,i < l.length→c63[bo+i]? = some (.int .i64 (l.getD i 0:Nat)):=by
 rcases h with ⟨e,_⟩ | ⟨_,b,o,c,row,h1,h2,h3,h4,h5,h6⟩
 ·exact absurd e h0
 ·rw [List.length_map] at h1 h5 h6
  refine ⟨b,o,c,row,h1,h3,h5,fun i hi=>?_⟩
  rw [h6 i hi,List.getElem?_map,List.getElem?_eq_getElem hi,List.getD_eq_getElem?_getD,List.getElem?_eq_getElem hi]
  rfl
theorem br2 {own:List Nat} (hl:own∈b95) {W:World} {v:Value} {k f t b:Nat} (hk:k < 256) (hf:f < 256) (ht:t < 256) (hb:b < 256) (hv:as1 0 W v own)
  {r:List UInt8} (bxa:r.length=32) (HR:∀ W' w,Below W.heap.size W W'→as1 0 W' w own→Calls Tryz.prog 101 #[.agg (ah6 4 0 90 w)] W' fun e W''=>e=.returned (.agg (as3 r))∧Below W'.heap.size W' W'') :
  Calls Tryz.prog 36 #[.agg (ah6 4 0 90 v),.agg (aBl k f t b)] W fun e W' => ∃ y c,e=.returned (.agg (LN.let y c).row)∧YP own k b y∧as1 0 W' c y.cs∧Below W.heap.size W W':=by
 have h0:=aZ2 hl
 have hlen:0 < own.length:=List.length_pos_iff.2 h0
 have hlen3:own.length≤3:=(by decide:∀ l∈b95,l.length≤3) own hl
 have HV:=Lib.hid hv
 obtain ⟨oa,oc,rfl,hov⟩:=aAb hv
 obtain ⟨ob,oo,c5d,rfl,ho1,ho2⟩:=hov h0
 have po:=b8r 4 0 90 (show (Value.slice (some ⟨ob,oo,none⟩) own.length oc).oneCell' = true from rfl)
 clear hov
 have hro:ones (aBl k f t b)=true:=by unfold aBl;simp [ones,bhl]
 have hrz:(aBl k f t b).size=4:=rfl
 have hra:(aBl k f t b).extract 0 4=aBl k f t b:=extract_all _ _ rfl
 have j0:obj (((W.alloc (.cells (ah6 4 0 90 (.slice (some ⟨ob,oo,none⟩) own.length oc)) 61 (0,0))).alloc (.cells (aBl k f t b) 71 (0,0))).alloc (.cells z48 48 (0,0))) W.heap.size=some (.cells (ah6 4 0 90 (.slice (some ⟨ob,oo,none⟩) own.length oc)) 61 (0,0)):=ab6 (ab6 (aff _ _ _ rfl) _) _
 have j1:obj (((W.alloc (.cells (ah6 4 0 90 (.slice (some ⟨ob,oo,none⟩) own.length oc)) 61 (0,0))).alloc (.cells (aBl k f t b) 71 (0,0))).alloc (.cells z48 48 (0,0))) (W.heap.size+1)=some (.cells (aBl k f t b) 71 (0,0)):=ab6 (aff _ _ _ (by simp)) _
 have j2:obj (((W.alloc (.cells (ah6 4 0 90 (.slice (some ⟨ob,oo,none⟩) own.length oc)) 61 (0,0))).alloc (.cells (aBl k f t b) 71 (0,0))).alloc (.cells z48 48 (0,0))) (W.heap.size+1+1)=some (.cells z48 48 (0,0)):=aff _ _ _ (by simp)
 have jB:Below W.heap.size W (((W.alloc (.cells (ah6 4 0 90 (.slice (some ⟨ob,oo,none⟩) own.length oc)) 61 (0,0))).alloc (.cells (aBl k f t b) 71 (0,0))).alloc (.cells z48 48 (0,0))):=(((Below.refl _ _).alloc (Nat.le_refl _) _).alloc (by simp) _).alloc (by simp;omega) _
 have rm:∀ n:Nat,Int.tmod (n:Int) (own.length:Int)=((n % own.length:Nat):Int):=fun n=>by
  rw [Int.tmod_eq_emod_of_nonneg (by omega)];rfl
 have hremf:=rm f
 have hremt:=rm t
 have hi0:f % own.length < own.length:=Nat.mod_lt _ hlen
 have ht0:t % own.length < own.length:=Nat.mod_lt _ hlen
 have hoi:=ho2 (f % own.length) hi0
 have hme:own.getD (f % own.length) 0∈own:=by rw [List.getD_eq_getElem?_getD,List.getElem?_eq_getElem hi0];exact List.getElem_mem hi0
 have HO2:=Lib.hid ho2
 clear ho2 rm
 have wf:IntKind.wrap .i64 (f:Int)=(f:Int):=by rw [IntKind.wrap_i64];omega
 have wt:IntKind.wrap .i64 (t:Int)=(t:Int):=by rw [IntKind.wrap_i64];omega
 have hl0:(own.length:Int)≠0:=by omega
 have HIF:=Lib.hid hi0
 generalize hme0:own.getD (f % own.length) 0=me at hoi hme
 clear hme0
 generalize hfi:f % own.length=fi at *
 clear hfi
 generalize hti:t % own.length=ti at *
 clear hti
 have hib:(fi:Int) < (own.length:Int):=by omega
 have htb:(ti:Int) < (own.length:Int):=by omega
 go_enter Tryz.func36,Tryz.ntmps36
 repeat' (first | go_skip | go_guarded | go_step | go_upon)
 generalize (((W.alloc (.cells (ah6 4 0 90 (.slice (some ⟨ob,oo,none⟩) own.length oc)) 61 (0,0))).alloc (.cells (aBl k f t b) 71 (0,0))).alloc (.cells z48 48 (0,0)))=w3 at *
 have lt0:=ah1 j0
 have lt1:=ah1 j1
 have ltb:=ah1 ho1
 (refine b92 (by kernel_rfl) (by kernel_rfl) ?_;(repeat (refine wpQuiet_step (fun K hK=>?_);go_simp;first | (refine hK _ ?_;clear hK K) | (apply Exists.intro;refine ⟨fun W hW=>?_,hK _ ?_⟩;(focus ((first | (with_reducible exact rfl) | ((have p0:=aa1 j0 hW lt0;have p1:=aa1 j1 hW lt1;have po1:=aa1 ho1 (jB.trans (hW.mono jB.size)) ltb;have c3:=(abm p0 3).trans (bcz _ _ _ _);have r1:=(abm p1 1).trans (show (aBl k f t b)[1]? = some (.int .u8 f) from rfl);have co:=(abm po1 (oo+fi)).trans hoi);(try go_simp);first | done | (with_reducible exact rfl) | (with_reducible exact ⟨rfl,rfl⟩) | (skip)));done));clear hK K)));refine wpQuiet_nil ?_;intro W2 hW2)
 have p0:=aa1 j0 hW2 lt0
 have p1:=aa1 j1 hW2 lt1
 have p2:=aa1 j2 hW2 (ah1 j2)
 have pB:=jB.trans (hW2.mono jB.size)
 have c0:=(abm p0 0).trans (byr _ _ _ _)
 have c2:=(abm p0 2).trans (bL5 _ _ _ _)
 have c3:=(abm p0 3).trans (bcz _ _ _ _)
 have hlit:=bMi own me (.slice (some ⟨ob,oo,none⟩) own.length oc)
 have hhr:=bEt hl hme
 have lz:=as4 (LN.let (bam own me) (.slice (some ⟨ob,oo,none⟩) own.length oc)) hhr
 have la:=aI7 (LN.let (bam own me) (.slice (some ⟨ob,oo,none⟩) own.length oc)) hhr
 have lo:=aBk (LN.let (bam own me) (.slice (some ⟨ob,oo,none⟩) own.length oc)) rfl
 have HH:=Lib.hid (fun W' (hb:Below W.heap.size W W')=>bzc hl hme (HV.out.below hb))
 have HF:=Lib.hid (fun W' (hb:Below W.heap.size W W')=>bqc hl hme (HV.out.below hb))
 have q6:obj (W2.alloc (.cells (LN.let (bam own me) (.slice (some ⟨ob,oo,none⟩) own.length oc)).row 48 (0,0))) W2.heap.size=some (.cells (LN.let (bam own me) (.slice (some ⟨ob,oo,none⟩) own.length oc)).row 48 (0,0)):=aff _ _ _ rfl
 have q0:=ab6 p0 (.cells (LN.let (bam own me) (.slice (some ⟨ob,oo,none⟩) own.length oc)).row 48 (0,0))
 have q1:=ab6 p1 (.cells (LN.let (bam own me) (.slice (some ⟨ob,oo,none⟩) own.length oc)).row 48 (0,0))
 have q2:=ab6 p2 (.cells (LN.let (bam own me) (.slice (some ⟨ob,oo,none⟩) own.length oc)).row 48 (0,0))
 have qB:=pB.alloc pB.size (.cells (LN.let (bam own me) (.slice (some ⟨ob,oo,none⟩) own.length oc)).row 48 (0,0))
 clear j0 j1 j2 jB hW2
 repeat' ((fail_if_success (with_reducible refine Go.wp_block ?_));(first | (go_at_call 99;((with_reducible refine (HH.out _ qB).mono ?_));rintro r w5 ⟨ow,s,rfl,hw1,hgr,hb5⟩;have oo5:=aRj me 4 0 90 2 hw1 (show (Value.slice none 0 0).oneCell' = true from rfl);have s6:=aa1 q6 hb5 (ah1 q6);have s0:=aa1 q0 hb5 (ah1 q0);have s1:=aa1 q1 hb5 (ah1 q1);have s2:=aa1 q2 hb5 (ah1 q2);have sB:=qB.trans (hb5.mono qB.size);have t6:=ab6 s6 (.cells (ownRow me 4 0 90 2 ow (.slice none 0 0)) 28 (0,0));have t0:=ab6 s0 (.cells (ownRow me 4 0 90 2 ow (.slice none 0 0)) 28 (0,0));have t1:=ab6 s1 (.cells (ownRow me 4 0 90 2 ow (.slice none 0 0)) 28 (0,0));have t2:=ab6 s2 (.cells (ownRow me 4 0 90 2 ow (.slice none 0 0)) 28 (0,0));have tB:=sB.alloc sB.size (.cells (ownRow me 4 0 90 2 ow (.slice none 0 0)) 28 (0,0));have HGR:=Lib.hid hgr;clear hgr;dsimp only) | (go_at_call 100;((with_reducible refine (HF.out _ tB).mono ?_));rintro r w7 ⟨s',rfl,hgr2,hb7⟩;have HG2:=Lib.hid hgr2;clear hgr2;have u0:=aa1 t0 hb7 (ah1 t0);have u1:=aa1 t1 hb7 (ah1 t1);have u2:=aa1 t2 hb7 (ah1 t2);have uB:=tB.trans (hb7.mono tB.size);have u10:=(abm u1 0).trans (show (aBl k f t b)[0]? = some (.int .u8 k) from rfl);have u12:=(abm u1 2).trans (show (aBl k f t b)[2]? = some (.int .u8 t) from rfl);obtain ⟨g1,cv1,⟨sa,sc,hse,hsr⟩,hlp1,hcv1⟩:=HGR.out;obtain ⟨sb1,so1,c7e,hsa,hs1,hs2⟩:=hsr (by omega);subst hsa;subst hse;obtain ⟨z0,z2⟩:=hs2 ti ht0;have z1:(so1+ti * 62+62≤c7e.size)=True:=eq_true z0;have us:=aa1 (ab6 hs1 (.cells (ownRow me 4 0 90 2 ow (.slice none 0 0)) 28 (0,0))) hb7 (ah1 (ab6 hs1 (.cells (ownRow me 4 0 90 2 ow (.slice none 0 0)) 28 (0,0))));have hl1:=hlp1 ti ht0;have lz1:=as4 (LN.let (g1 ti) (cv1 ti)) hl1.ok.ref;have la1:=aI7 (LN.let (g1 ti) (cv1 ti)) hl1.ok.ref;have lo1:=aBk (LN.let (g1 ti) (cv1 ti)) (azh (hcv1 ti ht0));have hc1:=(hcv1 ti ht0).below (((Below.refl _ _).alloc (Nat.le_refl _) (.cells (ownRow me 4 0 90 2 ow (.slice none 0 0)) 28 (0,0))).trans (hb7.mono (by simp)));have x0:=ab6 u0 (.cells (LN.let (g1 ti) (cv1 ti)).row 48 (0,0));have x1:=ab6 u1 (.cells (LN.let (g1 ti) (cv1 ti)).row 48 (0,0));have x2:=ab6 u2 (.cells (LN.let (g1 ti) (cv1 ti)).row 48 (0,0));have x12:obj (w7.alloc (.cells (LN.let (g1 ti) (cv1 ti)).row 48 (0,0))) w7.heap.size=some (.cells (LN.let (g1 ti) (cv1 ti)).row 48 (0,0)):=aff _ _ _ rfl;have xB:=uB.alloc uB.size (.cells (LN.let (g1 ti) (cv1 ti)).row 48 (0,0));have xc:=hc1.below ((Below.refl _ _).alloc (Nat.le_refl _) (.cells (LN.let (g1 ti) (cv1 ti)).row 48 (0,0)));have HGX:=Lib.hid HG2.out;have x10:=(abm x1 0).trans (show (aBl k f t b)[0]? = some (.int .u8 k) from rfl);clear hsr hs2 hlp1 hcv1 HGR z0;dsimp only at z2;dsimp only) | go_skip | go_guarded | go_step | go_upon))
 have HG3:Hid (∃ (g:Nat→LN) (cv:Nat→Value),bbp (w7.alloc (.cells (LN.let (g1 ti) (cv1 ti)).row 48 (0,0))) s' 48 62 own.length (fun i=>((g i).let (cv i)).row)∧(∀ i,i < own.length→LP 10 me own (g i))∧∀ i,i < own.length→as1 0 (w7.alloc (.cells (LN.let (g1 ti) (cv1 ti)).row 48 (0,0))) (cv i) own):=Lib.hid (by
  obtain ⟨g,cv,q1,q2,q3⟩:=HG2.out
  exact ⟨g,cv,q1.below ((Below.refl _ _).alloc (Nat.le_refl _) _),q2,fun i hi=>(q3 i hi).below ((Below.refl _ _).alloc (Nat.le_refl _) _)⟩)
 have s12:=ah1 u2
 have hl1c:=hl1.cs
 rw [← hl1c] at xc
 clear HG2 HGX u0 u1 u2 u10 u12 us z1 z2 hc1 HH HF
 generalize w7.alloc (.cells (LN.let (g1 ti) (cv1 ti)).row 48 (0,0))=w8 at *
 generalize g1 ti=y1 at *
 generalize cv1 ti=c1 at *
 have hk6:k % 6 < 6:=Nat.mod_lt _ (by decide)
 generalize hkk:k % 6=k6 at *
 have HK6:=Lib.hid hkk
 clear hkk
 go_cut [12] from 54 (fun v wx=>v=.pointer (some ⟨w7.heap.size,0,none⟩)∧∃ y c,obj wx w7.heap.size=some (.cells (LN.let y c).row 48 (0,0))∧as1 0 wx c y.cs∧y.Ok∧y.frm < 5∧y.dst < 5∧y.dl≤90∧9≤y.kind∧y.kind≤12∧y.mtg=4∧y.cs=own∧(k6=2→y.kind=10∧y.frm∈own)∧obj wx (W.heap.size+1)=some (.cells (aBl k f t b) 71 (0,0))∧obj wx (W.heap.size+1+1)=some (.cells z48 48 (0,0))∧Below W.heap.size W wx)
 case first =>
  have me5:me < 5:=(by decide:∀ l∈b95,∀ m∈l,m < 5) own hl me hme
  rcases (show k6=0∨k6=1∨k6=2∨k6=3∨k6=4∨k6=5 by omega) with rfl | rfl | rfl | rfl | rfl | rfl
  ·have hkm:(k:Int) % 6=0:=by have:=HK6.out;omega
   repeat' (first | go_skip | go_guarded | go_step | go_upon)
   go_meet
   exact ⟨rfl,y1,c1,x12,xc,hl1.ok,by rw [hl1.frm];exact me5,hl1.dst,hl1.dl,by rw [hl1.kind];decide,by rw [hl1.kind];decide,hl1.mtg,hl1.cs,fun e=>by omega,x1,x2,xB⟩
  ·have hkm:(k:Int) % 6=1:=by have:=HK6.out;omega
   repeat' (first | go_skip | go_guarded | go_step | go_upon)
   go_meet
   exact ⟨rfl,y1,c1,x12,xc,hl1.ok,by rw [hl1.frm];exact me5,hl1.dst,hl1.dl,by rw [hl1.kind];decide,by rw [hl1.kind];decide,hl1.mtg,hl1.cs,fun e=>by omega,x1,x2,xB⟩
  ·have hkm:(k:Int) % 6=2:=by have:=HK6.out;omega
   obtain ⟨g2,cv2,⟨sa,sc2,rfl,hsr⟩,c35,hcv2⟩:=HG3.out
   obtain ⟨sb2,so2,bSx,rfl,hs1,hs2⟩:=hsr (by omega)
   obtain ⟨z0,z2⟩:=hs2 ti ht0
   dsimp only at z2
   have z1:(so2+ti * 62+62≤bSx.size)=True:=eq_true z0
   have hl2:=c35 ti ht0
   have hc2:=hcv2 ti ht0
   have x12b:=(abm x1 2).trans (show (aBl k f t b)[2]? = some (.int .u8 t) from rfl)
   rw [← hl2.cs] at hc2
   generalize g2 ti=y2 at *
   generalize cv2 ti=c2 at *
   have lz2:=as4 (LN.let y2 c2) hl2.ok.ref
   have la2:=aI7 (LN.let y2 c2) hl2.ok.ref
   have lo2:=aBk (LN.let y2 c2) (azh hc2)
   clear hsr hs2 c35 hcv2 z0
   repeat' (first | go_skip | go_guarded | go_step | go_upon)
   go_meet
   have hY1:obj (w8.setRow w7.heap.size (LN.let y2 c2).row) w7.heap.size=some (.cells (LN.let y2 c2).row 48 (0,0)):=by rw [ajb,x12];rfl
   have hYk:∀ x,x≠w7.heap.size→obj (w8.setRow w7.heap.size (LN.let y2 c2).row) x=obj w8 x:=fun x hx=>setRow_other _ _ _ _ hx
   exact ⟨rfl,y2,c2,hY1,aZ3 hc2 x12 (by decide) hYk,hl2.ok,by rw [hl2.frm];exact me5,hl2.dst,hl2.dl,by rw [hl2.kind];decide,by rw [hl2.kind];decide,hl2.mtg,hl2.cs,fun _=>⟨hl2.kind,by rw [hl2.frm];exact hme⟩,(hYk _ (by omega)).trans x1,(hYk _ (by omega)).trans x2,below_setRow xB (by omega) _⟩
  ·have hkm:(k:Int) % 6=3:=by have:=HK6.out;omega
   have hfo:=bxq own me (.slice (some ⟨ob,oo,none⟩) own.length oc) r bxa
   have hz9:=as4 (LN.let (bg0 own me 11 1 r) (.slice (some ⟨ob,oo,none⟩) own.length oc)) bxa
   have ho9:=aBk (LN.let (bg0 own me 11 1 r) (.slice (some ⟨ob,oo,none⟩) own.length oc)) rfl
   have HRR:=Lib.hid (fun W' (hb:Below w8.heap.size w8 W')=>HR W' _ (xB.trans (hb.mono xB.size)) (HV.out.below (xB.trans (hb.mono xB.size))))
   have ly0:=ah1 x0
   repeat' (first | go_skip | go_guarded | go_step | go_upon)
   (refine b8y 8 (by kernel_rfl) (by kernel_rfl) ?_;simp only [List.take_succ_cons,List.take_zero,List.drop_succ_cons,List.drop_zero];(repeat (refine wpQuiet_step (fun K hK=>?_);go_simp;first | (refine hK _ ?_;clear hK K) | (apply Exists.intro;refine ⟨fun W hW=>?_,hK _ ?_⟩;(focus ((first | (with_reducible exact rfl) | ((have n0:=aa1 x0 hW ly0;have n00:=(abm n0 0).trans (byr _ _ _ _);have n03:=(abm n0 3).trans (bcz _ _ _ _));(try go_simp);first | done | (with_reducible exact rfl) | (with_reducible exact ⟨rfl,rfl⟩) | ((with_reducible exact bac hW (HRR.out W hW)))));done));clear hK K)));refine wpQuiet_nil ?_;intro W2 hW2)
   have n0:=aa1 x0 hW2 (ah1 x0)
   have n1:=aa1 x1 hW2 (ah1 x1)
   have n2:=aa1 x2 hW2 (ah1 x2)
   have n12:=aa1 x12 hW2 (ah1 x12)
   have nB:=xB.trans (hW2.mono xB.size)
   repeat' (first | go_skip | go_guarded | go_step | go_upon)
   go_meet
   have hYk:∀ x,x≠w7.heap.size→obj (W2.setRow w7.heap.size (LN.let (bg0 own me 11 1 r) (.slice (some ⟨ob,oo,none⟩) own.length oc)).row) x=obj W2 x:=fun x hx=>setRow_other _ _ _ _ hx
   exact ⟨rfl,bg0 own me 11 1 r,(.slice (some ⟨ob,oo,none⟩) own.length oc),by rw [ajb,n12];rfl,aZ3 (HV.out.below nB) n12 (by decide) hYk,bG0 hl hme (.inl rfl) (by decide) bxa,by show 0 < 5;omega,me5,by show 0≤90;omega,by show 9≤11;omega,by show 11≤12;omega,rfl,rfl,fun e=>by omega,(hYk _ (by omega)).trans n1,(hYk _ (by omega)).trans n2,below_setRow nB (by omega) _⟩
  ·have hkm:(k:Int) % 6=4:=by have:=HK6.out;omega
   have hfo:=bxq own me (.slice (some ⟨ob,oo,none⟩) own.length oc) r bxa
   have hz9:=as4 (LN.let (bg0 own me 11 1 r) (.slice (some ⟨ob,oo,none⟩) own.length oc)) bxa
   have ho9:=aBk (LN.let (bg0 own me 11 1 r) (.slice (some ⟨ob,oo,none⟩) own.length oc)) rfl
   have HRR:=Lib.hid (fun W' (hb:Below w8.heap.size w8 W')=>HR W' _ (xB.trans (hb.mono xB.size)) (HV.out.below (xB.trans (hb.mono xB.size))))
   have ly0:=ah1 x0
   repeat' (first | go_skip | go_guarded | go_step | go_upon)
   (refine b8y 8 (by kernel_rfl) (by kernel_rfl) ?_;simp only [List.take_succ_cons,List.take_zero,List.drop_succ_cons,List.drop_zero];(repeat (refine wpQuiet_step (fun K hK=>?_);go_simp;first | (refine hK _ ?_;clear hK K) | (apply Exists.intro;refine ⟨fun W hW=>?_,hK _ ?_⟩;(focus ((first | (with_reducible exact rfl) | ((have n0:=aa1 x0 hW ly0;have n00:=(abm n0 0).trans (byr _ _ _ _);have n03:=(abm n0 3).trans (bcz _ _ _ _));(try go_simp);first | done | (with_reducible exact rfl) | (with_reducible exact ⟨rfl,rfl⟩) | ((with_reducible exact bac hW (HRR.out W hW)))));done));clear hK K)));refine wpQuiet_nil ?_;intro W2 hW2)
   have n0:=aa1 x0 hW2 (ah1 x0)
   have n1:=aa1 x1 hW2 (ah1 x1)
   have n2:=aa1 x2 hW2 (ah1 x2)
   have n12:=aa1 x12 hW2 (ah1 x12)
   have nB:=xB.trans (hW2.mono xB.size)
   repeat' (first | go_skip | go_guarded | go_step | go_upon)
   go_meet
   have hYk:∀ x,x≠w7.heap.size→obj (W2.setRow w7.heap.size (LN.let (bg0 own me 11 1 r) (.slice (some ⟨ob,oo,none⟩) own.length oc)).row) x=obj W2 x:=fun x hx=>setRow_other _ _ _ _ hx
   exact ⟨rfl,bg0 own me 11 1 r,(.slice (some ⟨ob,oo,none⟩) own.length oc),by rw [ajb,n12];rfl,aZ3 (HV.out.below nB) n12 (by decide) hYk,bG0 hl hme (.inl rfl) (by decide) bxa,by show 0 < 5;omega,me5,by show 0≤90;omega,by show 9≤11;omega,by show 11≤12;omega,rfl,rfl,fun e=>by omega,(hYk _ (by omega)).trans n1,(hYk _ (by omega)).trans n2,below_setRow nB (by omega) _⟩
  ·have hkm:(k:Int) % 6=5:=by have:=HK6.out;omega
   obtain ⟨g2,cv2,⟨sa,sc2,rfl,hsr⟩,c35,hcv2⟩:=HG3.out
   obtain ⟨sb2,so2,bSx,rfl,hs1,hs2⟩:=hsr (by omega)
   obtain ⟨z0,z2⟩:=hs2 0 hlen
   dsimp only at z2
   rw [Nat.zero_mul,Nat.add_zero] at z0 z2
   have z1:(so2+62≤bSx.size)=True:=eq_true z0
   have hl2:=c35 0 hlen
   have hc2:=hcv2 0 hlen
   rw [← hl2.cs] at hc2
   generalize g2 0=y2 at *
   generalize cv2 0=c2 at *
   have me0:me≠0:=(by decide:∀ l∈b95,∀ m∈l,m≠0) own hl me hme
   have henc:(LN.enc (LN.to y2 0)).length≤1048576:=by
    have h1:=hl2.ok.len
    have h2:=hl2.ok.ref
    rw [bn2 hl2.ok]
    unfold LN.enc
    rw [hl2.kind]
    simp [LN.hd,b96,cl8,h2]
    omega
   have lz2:=as4 (LN.let y2 c2) hl2.ok.ref
   have la2:=aI7 (LN.let y2 c2) hl2.ok.ref
   have HMK:=Lib.hid (fun W' (hb:Below w8.heap.size w8 W')=>bto (mtg:=4) (org:=0) (dl:=90) (W:=W') (u:=(.slice (some ⟨ob,oo,none⟩) own.length oc)) (v:=c2) (bUn hl2.ok (by omega) (by rw [hl2.frm];exact me0)) (.inr (.inr hl2.kind)) (by rw [hl2.cs];exact h0) (by rw [hl2.cs];exact hlen3) (hc2.below hb) henc rfl)
   have bxa:=ba8 0 y2
   have hfo:=bNi own me (.slice (some ⟨ob,oo,none⟩) own.length oc) (b8p 0 y2) bxa
   have hz9:=as4 (LN.let (bg0 own me 12 15 (b8p 0 y2)) (.slice (some ⟨ob,oo,none⟩) own.length oc)) bxa
   have ho9:=aBk (LN.let (bg0 own me 12 15 (b8p 0 y2)) (.slice (some ⟨ob,oo,none⟩) own.length oc)) rfl
   clear hsr hs2 c35 hcv2 z0
   have ly0:=ah1 x0
   have lys:=ah1 hs1
   repeat' (first | go_skip | go_guarded | go_step | go_upon)
   (refine b8y 11 (by kernel_rfl) (by kernel_rfl) ?_;simp only [List.take_succ_cons,List.take_zero,List.drop_succ_cons,List.drop_zero];(repeat (refine wpQuiet_step (fun K hK=>?_);go_simp;first | (refine hK _ ?_;clear hK K) | (apply Exists.intro;refine ⟨fun W hW=>?_,hK _ ?_⟩;(focus ((first | (with_reducible exact rfl) | ((have n0:=aa1 x0 hW ly0;have ns:=aa1 hs1 hW lys;have n00:=(abm n0 0).trans (byr _ _ _ _);have n03:=(abm n0 3).trans (bcz _ _ _ _));(try go_simp);first | done | (with_reducible exact rfl) | (with_reducible exact ⟨rfl,rfl⟩) | ((with_reducible exact bac hW (HMK.out W hW)))));done));clear hK K)));refine wpQuiet_nil ?_;intro W2 hW2)
   have n0:=aa1 x0 hW2 (ah1 x0)
   have n1:=aa1 x1 hW2 (ah1 x1)
   have n2:=aa1 x2 hW2 (ah1 x2)
   have n12:=aa1 x12 hW2 (ah1 x12)
   have nB:=xB.trans (hW2.mono xB.size)
   repeat' (first | go_skip | go_guarded | go_step | go_upon)
   go_meet
   have hYk:∀ x,x≠w7.heap.size→obj (W2.setRow w7.heap.size (LN.let (bg0 own me 12 15 (b8p 0 y2)) (.slice (some ⟨ob,oo,none⟩) own.length oc)).row) x=obj W2 x:=fun x hx=>setRow_other _ _ _ _ hx
   exact ⟨rfl,bg0 own me 12 15 (b8p 0 y2),(.slice (some ⟨ob,oo,none⟩) own.length oc),by rw [ajb,n12];rfl,aZ3 (HV.out.below nB) n12 (by decide) hYk,bG0 hl hme (.inr rfl) (by decide) bxa,by show 0 < 5;omega,me5,by show 0≤90;omega,by show 9≤12;omega,by show 12≤12;omega,rfl,rfl,fun e=>by omega,(hYk _ (by omega)).trans n1,(hYk _ (by omega)).trans n2,below_setRow nB (by omega) _⟩
 case rest =>
  obtain ⟨rfl,y,c,y0,hc,hok,hf5,hd5,hdl,hk9,hk12,hmt,hcs,hk2,y1,y2,yB⟩:=hcut
  have yr3:=(abm y1 3).trans (show (aBl k f t b)[3]? = some (.int .u8 b) from rfl)
  have HK2:=Lib.hid hk2
  clear hk2
  repeat' ((fail_if_success (with_reducible refine Go.wp_block ?_));(first | go_skip | go_guarded | go_step | go_upon))
  go_cut [12] from 92 (fun v wx=>v=.pointer (some ⟨w7.heap.size,0,none⟩)∧∃ y c,obj wx w7.heap.size=some (.cells (LN.let y c).row 48 (0,0))∧as1 0 wx c y.cs∧YP own k b y∧obj wx (W.heap.size+1+1)=some (.cells z48 48 (0,0))∧Below W.heap.size W wx)
  case rest =>
   obtain ⟨rfl,y,c,y0,hc,hY,y2,yB⟩:=hcut
   have lz:=as4 (LN.let y c) hY.ok.ref
   have la:=aI7 (LN.let y c) hY.ok.ref
   have lo:=aBk (LN.let y c) (azh hc)
   repeat' (first | go_skip | go_guarded | go_step | go_upon)
   refine bodyPost_ret (results_cell_row rfl _ _ (W.heap.size+1+1) 48 _ _ _ rfl (setRow_heap _ _ _ _ _ _ y2) Tryz.underlying48 rfl (by rw [lz];kernel_rfl)) rfl ?_
   exact ⟨y,c,rfl,hY,aZ3 hc y2 (by decide) (fun x hx=>setRow_other _ _ _ _ hx),below_setRow yB (by omega) _⟩
  case first =>
  have g0:=(abm y0 0).trans (c2n y c)
  have g3:=(abm y0 3).trans (c8y y c)
  have g24:=(abm y0 24).trans (c2l y c)
  have g30:=(abm y0 30).trans (c2j y c hok.ref)
  have g25:=(abm y0 25).trans (c2k y c)
  have f3:=azi y0 3
  have f24:=azi y0 24
  have f25:=azi y0 25
  have f29:=azi y0 29
  have f30:=azi y0 30
  have wm:IntKind.wrap .i64 ((y.mtg:Int)+1)=((y.mtg+1:Nat):Int):=by rw [IntKind.wrap_i64];omega
  have wd:IntKind.wrap .i64 ((y.dl:Int)+1)=((y.dl+1:Nat):Int):=by rw [IntKind.wrap_i64];omega
  have KS:∀ (o:Nat) (u:Value) (y':LN) (c':Value),(LN.let y c).row.setIfInBounds o u=(LN.let y' c').row→as1 0 wc c' y'.cs→YP own k b y'→(∃ y c,obj (wc.setCell ⟨w7.heap.size,o,none⟩ u) w7.heap.size=some (.cells (LN.let y c).row 48 (0,0))∧as1 0 (wc.setCell ⟨w7.heap.size,o,none⟩ u) c y.cs∧YP own k b y∧obj (wc.setCell ⟨w7.heap.size,o,none⟩ u) (W.heap.size+1+1)=some (.cells z48 48 (0,0))∧Below W.heap.size W (wc.setCell ⟨w7.heap.size,o,none⟩ u)):=fun o u y' c' he hcv hY =>
   have hk:∀ x,x≠w7.heap.size→obj (wc.setCell ⟨w7.heap.size,o,none⟩ u) x=obj wc x:=fun x hx=>aRd _ _ _ _ hx
   ⟨y',c',by rw [avb,y0];exact congrArg (fun r=>some (Obj.cells r 48 (0,0))) he,aZ3 hcv y0 (by decide) hk,hY,(hk _ (by omega)).trans y2,yB.setCell (by show W.heap.size≤w7.heap.size;omega) _⟩
  have HKS:=Lib.hid KS
  clear KS
  have hcases:b=0∨b=1∨b=2∨b=3∨b=4∨b=5∨6≤b:=by omega
  rcases hcases with rfl | rfl | rfl | rfl | rfl | rfl | hb6
  ·repeat' (first | go_skip | go_guarded | go_step | go_upon)
   go_meet
   exact ⟨rfl,y,c,y0,hc,⟨hok,hf5,hd5,by omega,hk9,hk12,fun _=>hmt,fun _ hk=>(by obtain ⟨p,q⟩:=HK2.out (HK6.out.symm.trans hk);exact ⟨p,q,hcs⟩)⟩,y2,yB⟩
  ·rw [hmt] at wm
   repeat' (first | go_skip | go_guarded | go_step | go_upon)
   go_meet
   exact ⟨rfl,HKS.out 3 _ { y with mtg:=5 } c (bLy y c 5) hc ⟨c0t hok 5 (by omega) (by omega),hf5,hd5,by show y.dl≤1000;omega,hk9,hk12,fun e=>absurd e (by omega),fun e=>absurd e (by omega)⟩⟩
  ·rw [hcs] at hc
   obtain ⟨bb,bo,bc,c63,rfl,e1,e2,e3⟩:=bj7 hc h0
   have a1:obj (wc.alloc (.cells #[] 3 (0,0))) bb=some (.cells c63 3 (0,0)):=ab6 e1 _
   have a0:=ab6 y0 (.cells #[] 3 (0,0))
   have a29:=(abm a0 29).trans (bE6 y _)
   have hown0:(wc.alloc (.cells #[] 3 (0,0))).ownsRow wc.heap.size 3 1 (.slice (some ⟨wc.heap.size,0,none⟩) 0 0) 0 []:=bf0 wc 3 1
   obtain ⟨i0,hi,hz0,hz1,hz2⟩:=br9
   have hB0:Below wc.heap.size wc (wc.alloc (.cells #[] 3 (0,0))):=(Below.refl _ _).alloc (Nat.le_refl _) _
   have hnl:(own.tail.map fun (c:Nat)=>Value.int .i64 (c:Int)).length=own.length - 1:=by rw [List.length_map,List.length_tail]
   have hnews:∀ (j:Nat) u,(own.tail.map fun (c:Nat)=>Value.int .i64 (c:Int))[j]? = some u→(wc.alloc (.cells #[] 3 (0,0))).cell? ((⟨bb,bo+1,none⟩:Addr).add j)=some u:=fun j u hu=>by
    have hj:j < own.length - 1:=by
     have:=(List.getElem?_eq_some_iff.1 hu).1
     rwa [hnl] at this
    rw [Addr.add_lit,abm a1,show bo+1+j=bo+(j+1) by omega,e3 (j+1) (by omega)]
    rw [← hu,List.getElem?_map,List.getElem?_tail,List.getElem?_eq_getElem (show j+1 < own.length by omega),List.getD_eq_getElem?_getD,List.getElem?_eq_getElem (show j+1 < own.length by omega)]
    rfl
   have hone:∀ u∈(own.tail.map fun (c:Nat)=>Value.int .i64 (c:Int)),u.oneCell' = true:=fun u hu=>by
    obtain ⟨c,_,rfl⟩:=List.mem_map.1 hu
    rfl
   have b1:(1:Int)≤(own.length:Int):=by omega
   have b2:(own.length:Int)≤(bc:Int):=by omega
   by_cases hbc:bc=1
   ·have c33:∀ (j:Nat) u,(own.tail.map fun (c:Nat)=>Value.int .i64 (c:Int))[j]? = some u→(wc.alloc (.cells #[] 3 (0,0))).cell? ((⟨bb,bo,none⟩:Addr).add j)=some u:=fun j u hu=>by
     have:=(List.getElem?_eq_some_iff.1 hu).1
     rw [hnl] at this
     omega
    repeat' (first | (at_builtin;refine wpList_append_own _ rfl _ _ 25 rfl wc.heap.size 3 i0 _ 1 8 Tryz.underlying25 hi hz0 hz1 hz2 rfl (by decide) _ 0 [] rfl hown0 ⟨bb,bo,none⟩ (own.length - 1) _ (own.tail.map fun (c:Nat)=>Value.int .i64 (c:Int)) rfl (by rw [hnl];omega) c33 hone (by unfold maxLen;omega) (by omega) (by simp) ?_;intro v' w' hown hgrow _;have hcV:=bmf hown;obtain ⟨va,vc,rfl⟩:=bme hown;have hBa:=hB0.grown hgrow hB0.size (fun g hg=>by cases hg;exact Nat.le_refl _);have d0:=aa1 y0 hBa (ah1 y0);have d2:=aa1 y2 hBa (ah1 y2);have d29:=(abm d0 29).trans (bE6 y _);have df:=azi d0 29) | go_skip | go_guarded | go_step | go_upon)
    go_meet
    rw [Nat.zero_add] at hcV
    have hk:∀ x,x≠w7.heap.size→obj (w'.setCell ⟨w7.heap.size,29,none⟩ (.slice va (own.length - 1) vc)) x=obj w' x:=fun x hx=>aRd _ _ _ _ hx
    refine ⟨rfl,{ y with cs:=own.tail },.slice va (own.length - 1) vc,?_,?_,?_,(hk _ (by omega)).trans d2,(yB.trans (hBa.mono yB.size)).setCell (by show W.heap.size≤w7.heap.size;omega) _⟩
    ·rw [avb,d0]
     exact congrArg (fun r=>some (Obj.cells r 48 (0,0))) (br3 y _ _ own.tail)
    ·exact aZ3 (hcV.mono (Nat.zero_le _)) d0 (by decide) hk
    ·refine ⟨?_,hf5,hd5,by show y.dl≤1000;omega,hk9,hk12,fun e=>absurd e (by omega),fun e=>absurd e (by omega)⟩
     have:=c0z hok hk9 hk12 (by rw [hcs];exact hlen3)
     rwa [hcs] at this
   ·skip
    repeat' (first | (at_builtin;refine wpList_append_own _ rfl _ _ 25 rfl wc.heap.size 3 i0 _ 1 8 Tryz.underlying25 hi hz0 hz1 hz2 rfl (by decide) _ 0 [] rfl hown0 ⟨bb,bo+1,none⟩ (own.length - 1) _ (own.tail.map fun (c:Nat)=>Value.int .i64 (c:Int)) rfl (by rw [hnl];omega) hnews hone (by unfold maxLen;omega) (by omega) (by simp) ?_;intro v' w' hown hgrow _;have hcV:=bmf hown;obtain ⟨va,vc,rfl⟩:=bme hown;have hBa:=hB0.grown hgrow hB0.size (fun g hg=>by cases hg;exact Nat.le_refl _);have d0:=aa1 y0 hBa (ah1 y0);have d2:=aa1 y2 hBa (ah1 y2);have d29:=(abm d0 29).trans (bE6 y _);have df:=azi d0 29) | go_skip | go_guarded | go_step | go_upon)
    go_meet
    rw [Nat.zero_add] at hcV
    have hk:∀ x,x≠w7.heap.size→obj (w'.setCell ⟨w7.heap.size,29,none⟩ (.slice va (own.length - 1) vc)) x=obj w' x:=fun x hx=>aRd _ _ _ _ hx
    refine ⟨rfl,{ y with cs:=own.tail },.slice va (own.length - 1) vc,?_,?_,?_,(hk _ (by omega)).trans d2,(yB.trans (hBa.mono yB.size)).setCell (by show W.heap.size≤w7.heap.size;omega) _⟩
    ·rw [avb,d0]
     exact congrArg (fun r=>some (Obj.cells r 48 (0,0))) (br3 y _ _ own.tail)
    ·exact aZ3 (hcV.mono (Nat.zero_le _)) d0 (by decide) hk
    ·refine ⟨?_,hf5,hd5,by show y.dl≤1000;omega,hk9,hk12,fun e=>absurd e (by omega),fun e=>absurd e (by omega)⟩
     have:=c0z hok hk9 hk12 (by rw [hcs];exact hlen3)
     rwa [hcs] at this
  ·repeat' (first | go_skip | go_guarded | go_step | go_upon)
   go_meet
   refine ⟨rfl,HKS.out 30 _ { y with ref:=y.ref.set 0 (y.ref.getD 0 0+1) } c (by rw [← bE3 y c _ hok.ref];congr 2;all_goals (have:=bSd (y.ref.getD 0 0);simpa using this)) hc ⟨c0p hok _ hk9 hk12,hf5,hd5,by show y.dl≤1000;omega,hk9,hk12,fun e=>absurd e (by omega),fun e=>absurd e (by omega)⟩⟩
  ·by_cases h9:y.kind=9
   ·have hb9:((y.kind:Int) == 9)=true:=by rw [h9];rfl
    repeat' (first | go_skip | go_guarded | go_step | go_upon)
    go_meet
    refine ⟨rfl,HKS.out 24 _ { y with dl:=y.dl+1 } c (bE5 y c _) hc ⟨c8p hok _ h9 (by omega),hf5,hd5,by show y.dl+1≤1000;omega,hk9,hk12,fun e=>absurd e (by omega),fun e=>absurd e (by omega)⟩⟩
   ·have hb9:((y.kind:Int) == 9)=false:=by simp;omega
    repeat' (first | go_skip | go_guarded | go_step | go_upon)
    go_meet
    exact ⟨rfl,y,c,y0,hc,⟨hok,hf5,hd5,by omega,hk9,hk12,fun _=>hmt,fun e=>absurd e (by omega)⟩,y2,yB⟩
  ·by_cases h9:y.kind=9
   ·have hb9:((y.kind:Int) != 9)=false:=by rw [h9];rfl
    repeat' (first | go_skip | go_guarded | go_step | go_upon)
    go_meet
    exact ⟨rfl,y,c,y0,hc,⟨hok,hf5,hd5,by omega,hk9,hk12,fun _=>hmt,fun e=>absurd e (by omega)⟩,y2,yB⟩
   ·have hb9:((y.kind:Int) != 9)=true:=by simp;omega
    repeat' (first | go_skip | go_guarded | go_step | go_upon)
    go_meet
    exact ⟨rfl,HKS.out 25 _ { y with st:=0 } c (bE4 y c 0) hc ⟨c8n hok,hf5,hd5,by show y.dl≤1000;omega,hk9,hk12,fun e=>absurd e (by omega),fun e=>absurd e (by omega)⟩⟩
  ·have hb0:((b:Int) == 0)=false:=by simp;omega
   have hb1:((b:Int) == 1)=false:=by simp;omega
   have hb2:((b:Int) == 2)=false:=by simp;omega
   have hb3:((b:Int) == 3)=false:=by simp;omega
   have hb4:((b:Int) == 4)=false:=by simp;omega
   have hb5:((b:Int) == 5)=false:=by simp;omega
   repeat' (first | go_skip | go_guarded | go_step | go_upon)
   go_meet
   exact ⟨rfl,y,c,y0,hc,⟨hok,hf5,hd5,by omega,hk9,hk12,fun _=>hmt,fun e=>absurd e (by omega)⟩,y2,yB⟩
end Go.Proofs.YtlnlbdfokmhelaaGreatDoor
