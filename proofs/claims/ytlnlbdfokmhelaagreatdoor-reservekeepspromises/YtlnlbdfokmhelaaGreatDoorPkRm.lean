/-
  The reference's Right has one value for a list of owners; reservations by a number.
-/
import Derived.Test.YtlnlbdfokmhelaaGreatDoorPkRi
import Derived.Test.YtlnlbdfokmhelaaGreatDoorPkRl
import Derived.Test.YtlnlbdfokmhelaaGreatDoorPkRwD
import Derived.Deep.AppendLies
import Derived.Deep.RegionLaw
set_option linter.unusedSectionVars false
set_option linter.constructorNameAsVariable false
set_option linter.unusedVariables false
set_option linter.unusedSimpArgs false
namespace Go.CE
namespace V
open Go.Proofs Go.Proofs.YtlnlbdfokmhelaaGreatDoor Go.RowKit
set_option maxRecDepth 100000
theorem bIp {own:List Nat} (hl:own∈b95) : ∃ r:List UInt8,r.length=32∧∀ (B:Nat) (W:World) (v:Value),as1 B W v own→Calls Tryz.prog 101 #[.agg (ah6 4 0 90 v)] W fun e W'=>e=.returned (.agg (as3 r))∧Below W.heap.size W W':=by
 have h:bEn (bO1 tQ 101 [biy own] own)=true:=by
  have h123:∀ l∈b95,l.length=1∨l.length=2∨l.length=3:=by decide
  have q1:=List.all_eq_true.1 btr own hl
  have q2:=List.all_eq_true.1 btq own hl
  have q3:=List.all_eq_true.1 btp own hl
  rcases h123 own hl with e | e | e
  ·rw [e] at q1;exact q1
  ·rw [e] at q2;exact q2
  ·rw [e] at q3;exact q3
 unfold bEn at h
 split at h
 ·rename_i g f' he
  split at h
  ·rename_i bs hb
   have hd:=@bgy S00 _ _ hb
   have hlen:bs.length=32:=by
    have:=(@bcb S00 _ _ hb).1
    have h2:=congrArg List.length this
    have h3:32=bs.length:=by simpa [ajn] using h2
    exact h3.symm
   refine ⟨bs.map UInt8.ofNat,by rw [List.length_map];exact hlen,fun B W v hv=>?_⟩
   refine (bo3 (@cao S00 bax) (aZ2 hl) hv (fun σ h=>?_) he).mono fun e W' ⟨τ,u,s',hu0,hok,hrs,hsr,hu,hb⟩=>⟨?_,hb⟩
   ·exact @LV.lr S00 σ [biy own] [.agg (ah6 4 0 90 v)] ⟨bo0 h,trivial⟩
   ·have ha:b8x (FV.g g 32)=.g (ajn g 0 32):=rfl
    rw [ha] at hu
    obtain ⟨cc,rfl,hcc⟩:=@VR.buc S00 _ _ _ hu
    rw [hu0,@bxu S00 bax _ _ _ _ hcc hd.1]
  ·cases h
 ·cases h
noncomputable def bx7 (own:List Nat) (v:FV) (f:QW):Bool:=match v with
 | .s q k o n _=>gw k&&Nat.beq n own.length&&byy (bpf 3 (getM q f.m) o n) (blm own)
 | _=>false
theorem bD1 {own:List Nat} {v:FV} {f':QW} {B:Nat} {τ:Sg} {s':CE.St} {W':World} {u:Value} (h:bx7 own v f' = true) (h0:own≠[]) (hok:ba7 v) (hrs:@RS 2048 s' f') (hsr:@SR S00 Tryz.prog B τ s'.mem W') (hv:@VR S00 τ (bbo v) u):as1 0 W' u own:=by
 letI:Sym:=S00
 haveI hok':avd:=bax
 unfold bx7 at h
 split at h
 ·rename_i q k o n c
  simp only [Bool.and_eq_true] at h
  obtain ⟨⟨h1,h2⟩,h3⟩:=h
  have h2:=Nat.eq_of_beq_eq_true h2
  unfold byy at h3
  split at h3
  ·rename_i mm hb2
   obtain rfl:=bbq h3
   have:=bBt (B:=B) (l:=blm own) ba6 hrs hsr hok h1 (h2.trans (List.length_map _).symm) hb2 (bk6 own) hv
   rw [bei] at this
   exact .inr ⟨h0,this⟩
  ·cases h3
 ·cases h
noncomputable def bRl (r:Ans):Bool:=match r with
 | some (.g g 4,f)=>avL (ajn g 0 3) [.i .i64 (.ofNat 4),.i .i64 (.ofNat 0),.i .i64 (.ofNat 90)]&&b95.any (fun own=>bx7 own (aRb (p4 3) g) f)
 | _=>false
theorem bCy:(List.range 256).all (fun n=>bRl (@evF S00 Tryz.prog (LT.fq (.e:LT)) 4000 28 [ofV (.i .u8 (.ofNat n))] ⟨.e,1024,2048,[],[]⟩))=true:=by decide +kernel
theorem bhk {n:Nat} (hn:n < 256) (W:World):Calls Tryz.prog 28 #[.int .u8 n] W fun e W' => ∃ own v,own∈b95∧e=.returned (.agg (ah6 4 0 90 v))∧as1 0 W' v own∧Below W.heap.size W W':=by
 letI:Sym:=S00
 haveI hok':avd:=bax
 have h:=List.all_eq_true.1 bCy n (List.mem_range.2 hn)
 unfold bRl at h
 split at h
 ·rename_i g f' he
  rw [Bool.and_eq_true] at h
  obtain ⟨h1,h2⟩:=h
  obtain ⟨own,hl,h2⟩:=List.any_eq_true.1 h2
  refine (b9m (t:=.e) (a:=[.i .u8 (.ofNat n)]) (l:=[ofV (.i .u8 (.ofNat n))]) trivial bO2 bdu (bNv W) (fun j hj=>b5v (by omega)) (bfl _) (LV.lr (l:=[.i .u8 (.ofNat n)]) (m:=[.int .u8 n]) ⟨VR.i _ _,trivial⟩) he).mono fun e W' hd=>?_
  obtain ⟨τ,u,s',rfl,hok,hrs,_,hsr,hu,hb⟩:=hd
  have ha:b8x (FV.g g 4)=.g ([.i .i64 (.ofNat 4),.i .i64 (.ofNat 0),.i .i64 (.ofNat 90)] ++ [bbo (aRb (p4 3) g)]):=by
   rw [← bbq h1]
   rfl
  rw [ha] at hu
  obtain ⟨cc,rfl,hcc⟩:=hu.buc
  obtain ⟨v0,e0,hv0⟩:=hcc.at (i:=0) rfl
  obtain ⟨v1,e1,hv1⟩:=hcc.at (i:=1) rfl
  obtain ⟨v2,e2,hv2⟩:=hcc.at (i:=2) rfl
  obtain ⟨v3,e3,hv3⟩:=hcc.at (i:=3) rfl
  cases hv0;cases hv1;cases hv2
  refine ⟨own,v3,hl,?_,bD1 h2 (aZ2 hl) (hok 3 (by omega)) hrs hsr hv3,hb⟩
  have hs:cc.size=4:=hcc.len.symm
  unfold ah6
  congr 2
  apply Array.ext
  ·simpa using hs
  ·intro i h3 h4
   rcases (show i=0∨i=1∨i=2∨i=3 by omega) with rfl | rfl | rfl | rfl
   ·simpa using (Array.getElem?_eq_some_iff.1 e0).2
   ·simpa using (Array.getElem?_eq_some_iff.1 e1).2
   ·simpa using (Array.getElem?_eq_some_iff.1 e2).2
   ·simpa using (Array.getElem?_eq_some_iff.1 e3).2
 ·cases h
end V
end Go.CE
namespace Go.Proofs.YtlnlbdfokmhelaaGreatDoor
open Go.RowKit Go.CE.V
set_option maxRecDepth 20000
set_option maxHeartbeats 4000000
attribute [local irreducible] wpQuiet
def bg7 (x:LN):Prop:=∀ q,1≤q→q≤1000000→LOk x q
theorem YP.any {own:List Nat} {k b:Nat} {y:LN} (h:YP own k b y):bg7 y:=fun q h1 h2=>by
 have hk:=h.kd
 have hk2:=h.k12
 have hr:=h.ok.ref
 have hl:=h.ok.len
 have he:0 < (LN.enc y).length∧(LN.enc y).length≤1048576:=by
  rcases (show y.kind=9∨y.kind=10∨y.kind=11∨y.kind=12 by omega) with e | e | e | e<;>(unfold LN.enc;rw [e];simp [LN.hd,b96,cl8,hr];try omega)
 exact ⟨h.ok,fun e=>by omega,h.f5,h.d5,⟨h1,h2⟩,he.1,he.2,by have:=h.dls;omega⟩
theorem bmp {own:List Nat} (hl:own∈b95) {W:World} {v:Value} {k f t b:Nat} (hk:k < 256) (hf:f < 256) (ht:t < 256) (hb:b < 256) (hv:as1 0 W v own) :
  Calls Tryz.prog 36 #[.agg (ah6 4 0 90 v),.agg (aBl k f t b)] W fun e W' => ∃ y c,e=.returned (.agg (LN.let y c).row)∧YP own k b y∧as1 0 W' c y.cs∧Below W.heap.size W W':=by
 obtain ⟨r,hr,HR⟩:=bIp hl
 exact br2 hl hk hf ht hb hv hr fun W' w _ hw=>HR 0 W' w hw
theorem aq7 {w w':World} {g:Nat} {x:Obj} (h:obj w g=some x) (hb:Below w.heap.size w w'):obj w' g=some x:=aa1 h hb (ah1 h)
theorem b8o {W w w':World} (h:Below W.heap.size W w) (hb:Below w.heap.size w w'):Below W.heap.size W w':=h.trans (hb.mono h.size)
theorem bi1 {W:World} {v:Value} {x:LN} {q:Nat} (hx:LOk x q) (hv:as1 0 W v x.cs) (hT:Tab W) (h0w:0 < W.heap.size) :
  Calls Tryz.prog 35 #[.agg (LN.let x v).row,.int .i64 q] W fun r W' => ∃ body,r=.returned (.agg (aj7 x q body).row)∧Sl 0 W' body 5 ((LN.enc x).map fun c=>B8 c.toNat)∧Below W.heap.size W W':=by
 have HX:=Lib.hid hx
 have lz:=as4 (LN.let x v) hx.ok.ref
 have la:=aI7 (LN.let x v) hx.ok.ref
 have lo:=aBk (LN.let x v) (azh hv)
 have j0:obj ((W.alloc (.cells (LN.let x v).row 48 (0,0))).alloc (.cells z78 78 (0,0))) W.heap.size=some (.cells (LN.let x v).row 48 (0,0)):=ab6 (aff _ _ _ rfl) _
 have j1:obj ((W.alloc (.cells (LN.let x v).row 48 (0,0))).alloc (.cells z78 78 (0,0))) (W.heap.size+1)=some (.cells z78 78 (0,0)):=aff _ _ _ (by simp)
 have jB:Below W.heap.size W ((W.alloc (.cells (LN.let x v).row 48 (0,0))).alloc (.cells z78 78 (0,0))):=((Below.refl _ _).alloc (Nat.le_refl _) _).alloc (by simp) _
 have hqi:(q:Int)=q:=rfl
 have HS:=Lib.hid (fun (W':World) kv (hb:Below W.heap.size W W') (hk:bcf W' kv)=>byi (q:=q) hx.ok hx.f5 hx.d5 hx.q hk (hv.below hb) hx.e0 hx.e1 (hT.below hb h0w) (Nat.lt_of_lt_of_le h0w hb.size))
 go_enter Tryz.func35,Tryz.ntmps35
 repeat' (first | go_skip | go_guarded | go_step | go_upon)
 generalize ((W.alloc (.cells (LN.let x v).row 48 (0,0))).alloc (.cells z78 78 (0,0)))=w3 at *
 have lt0:=ah1 j0
 have lt1:=ah1 j1
 have p0:obj w3.drew W.heap.size=_:=j0
 have p1:obj w3.drew (W.heap.size+1)=_:=j1
 have jD:Below W.heap.size W w3.drew:=jB.drew
 have q0:=ab6 p0 (.cells z78 78 (0,0))
 have q1:=ab6 p1 (.cells z78 78 (0,0))
 have jD2:=jD.alloc jD.size (.cells z78 78 (0,0))
 have nz:obj (w3.drew.alloc (.cells z78 78 (0,0))) w3.heap.size=some (.cells z78 78 (0,0)):=aff _ _ _ rfl
 go_cut [5,6] from 7 to 13 (fun v5 v6 wx => ∃ n body,v5=.pointer (some ⟨n,0,none⟩)∧v6=.int .i64 0∧obj wx n=some (.cells (aj7 x q body).row 78 (0,0))∧Sl 0 wx body 5 ((LN.enc x).map fun c=>B8 c.toNat)∧obj wx (W.heap.size+1)=some (.cells z78 78 (0,0))∧n≠W.heap.size+1∧Below W.heap.size W wx)
 case first =>
  go_region_law (first | ((go_simp;go_at_call 34;((with_reducible refine (bdf _).mono ?_));rintro e w4 ⟨kv,rfl,hkv,hb4⟩;have r0:obj w4 W.heap.size=some (.cells (LN.let x v).row 48 (0,0)):=aq7 (by assumption) hb4;have r1:obj w4 (W.heap.size+1)=some (.cells z78 78 (0,0)):=aq7 (by assumption) hb4;have jE:Below W.heap.size W w4:=b8o (by assumption) hb4;have t0:=ab6 r0 (.cells z78 78 (0,0));have t1:=ab6 r1 (.cells z78 78 (0,0));have jE2:=jE.alloc jE.size (.cells z78 78 (0,0));have hkv2:bcf (w4.alloc (.cells z78 78 (0,0))) kv:=bbp.below hkv ((Below.refl _ _).alloc (Nat.le_refl _) (.cells z78 78 (0,0)));have n4:obj (w4.alloc (.cells z78 78 (0,0))) w4.heap.size=some (.cells z78 78 (0,0)):=aff _ _ _ rfl;(try have n14:=aq7 nz hb4);dsimp only)) | ((go_simp;go_at_call 55;((with_reducible refine (HS.out _ _ (by assumption) (by assumption)).mono ?_));rintro e w5 ⟨body,rfl,hbd,hb5⟩;have s0:obj w5 W.heap.size=some (.cells (LN.let x v).row 48 (0,0)):=aq7 (by assumption) hb5;have s1:obj w5 (W.heap.size+1)=some (.cells z78 78 (0,0)):=aq7 (by assumption) hb5;have jF:Below W.heap.size W w5:=b8o (by assumption) hb5;have es:=b2n (aj7 x q body) (as6 x q);have ea:=baf (aj7 x q body) (as6 x q);have eo:=b8t x q (bgf hbd);have n5:obj (w5.alloc (.cells z78 78 (0,0))) w5.heap.size=some (.cells z78 78 (0,0)):=aff _ _ _ rfl;(try have n15:=aq7 n14 hb5);(try have n45:=aq7 n4 hb5);dsimp only)))
  all_goals (repeat' go_step)
  all_goals go_meet
  all_goals first
   | exact ⟨_,body,rfl,rfl,aff _ _ _ rfl,hbd.below ((Below.refl _ _).alloc (Nat.le_refl _) _),ab6 s1 _,(by have:=ah1 s1;omega),jF.alloc jF.size _⟩
   | exact ⟨_,body,rfl,rfl,(by rw [ajb,n45];rfl),be6 hbd n45 (by decide) (fun y hy=>setRow_other _ _ _ _ hy),(setRow_other _ _ _ _ (by have:=ah1 r1;omega)).trans s1,(by have:=ah1 r1;omega),below_setRow jF (by have:=jE.size;omega) _⟩
   | exact ⟨_,body,rfl,rfl,(by rw [ajb,n15];rfl),be6 hbd n15 (by decide) (fun y hy=>setRow_other _ _ _ _ hy),(setRow_other _ _ _ _ (by omega)).trans s1,(by omega),below_setRow jF (by omega) _⟩
 case rest =>
  obtain ⟨n,body,rfl,rfl,h1,h2,h3,h4,h5⟩:=hcut
  have es:=b2n (aj7 x q body) (as6 x q)
  have ea:=baf (aj7 x q body) (as6 x q)
  have eo:=b8t x q (bgf h2)
  repeat' (first | go_skip | go_guarded | go_step | go_upon)
  refine bodyPost_ret (results_cell_row rfl _ _ (W.heap.size+1) 78 _ _ _ rfl (setRow_heap _ _ _ _ _ _ h3) Tryz.underlying78 rfl (by rw [es];kernel_rfl)) rfl ?_
  exact ⟨body,rfl,be6 h2 h3 (by decide) (fun y hy=>setRow_other _ _ _ _ hy),below_setRow h5 (by omega) _⟩
end Go.Proofs.YtlnlbdfokmhelaaGreatDoor
namespace Go.Proofs.YtlnlbdfokmhelaaGreatDoor
open Go.RowKit Go.CE.V Go.Rv
set_option maxRecDepth 20000
set_option maxHeartbeats 4000000
attribute [local irreducible] wpQuiet
@[go_sem] theorem c62 (w:World):(bzy 30 0 #[]).run Tryz.prog w=.ok (.slice (some ⟨w.heap.size,0,none⟩) 0 0) (w.alloc (.cells #[] 48)):=by kernel_rfl
theorem bjo {w:World} {ops:Array Oper} {o:Oper} {a:Act} {K:Act→World→Prop} {Q:Exit→Act→World→Prop} {E:Prop} (hgd:o.guard=none) (s x:Operand) {ST T z b:Nat}
  (ho:o.op=.call { callee:=.builtin .append,args:=#[s,x],argTypes:=#[ST,ST] }) (hu:Tryz.prog.underlying ST=some (.slice T)) (hi:(Tryz.prog.info? T).map (fun i=>(i.size,i.bytes,i.zero.map (·.cells.size)))=some (z,b,some z)) (hz:0 < z) (hby:b≤1000)
  (base k:Nat) (v:Value) (xs:List Value) (hs:a.eval s=v) (hown:w.ownsRow base T z v k xs) (nb c:Nat) (row:Array Value) (hx:a.eval x=.slice (some ⟨nb,0,none⟩) 1 c) (hrow:obj w nb=some (.cells row T (0,0))) (hl:row.size=z) (h1:ones row=true)
  (hk:k≤1000000) (hb:base≤w.heap.size)
  (h:∀ g cap w',w'.ownsRow base T z (.slice (some ⟨g,0,none⟩) (k+1) cap) (k+1) (xs++row.toList)→w.grownBy w' v.ownBlock→K (a.put o.dst (.slice (some ⟨g,0,none⟩) (k+1) cap)) w'):if Region.wanted o (yielded ops a.tmps)=true then Oper.wp Tryz.prog o a w K Q else E:=by
 obtain ⟨i0,zv,hi,hz0,hz1,hz2,hzs⟩:=bkl hi
 refine step_append_lies w hgd s x ST ho base T i0 zv z b hu hi hz0 hz1 hz2 hzs hz v k xs hs hown ⟨nb,0,none⟩ 1 c row.toList hx (by rw [Array.length_toList,hl];omega) (fun j u hu=>?_) (fun u hu=>?_) (by omega) (by unfold maxLen;omega) ?_ hb w.heap.size rfl fun g cap w' q1 q2 _ _=>h g cap w' q1 q2
 ·rw [Addr.add_lit,abm hrow,Nat.zero_add]
  rw [Array.getElem?_toList] at hu
  exact hu
 ·unfold ones at h1
  exact (Array.all_eq_true_iff_forall_mem.1 h1) u (Array.mem_toList_iff.1 hu)
 ·have:(k+1) * b≤1000001 * 1000:=Nat.mul_le_mul (by omega) hby
  omega
theorem bDo {w w':World} {base T T' z g:Nat} {v:Value} {n:Nat} {xs:List Value} {r:Array Value} {fr:Nat×Nat} (hown:w.ownsRow base T z v n xs) (h:obj w g=some (.cells r T' fr)) (hne:T≠T') (hg:w.grownBy w' v.ownBlock):obj w' g=some (.cells r T' fr):=by
 refine azl h hg fun e=>?_
 rcases hown.2 with ⟨rfl,_⟩ | ⟨q,c,cur,rfl,_,q2,_⟩
 ·cases e
 ·cases e
  have:=(show obj w _=some _ from q2).symm.trans h
  injection this with q2
  injection q2 with _ q3 _
  exact hne q3
theorem bnw (k f t b:Nat):(aBl k f t b).size=4:=rfl
theorem bnx (k f t b:Nat):ones (aBl k f t b)=true:=by unfold aBl;simp [ones,bhl]
def bhw (W:World) (v:Value) (m:Nat):Prop := ∃ (g:Nat→Nat×Nat×Nat×Nat) (ao:Option Addr) (c:Nat),v=.slice ao m c∧(m≠0→∃ b o row T fr,ao=some ⟨b,o,none⟩∧obj W b=some (.cells row T fr)∧∀ i,i < m→o+i * 4+4≤row.size∧row.extract (o+i * 4) (o+i * 4+4)=aBl (g i).1 (g i).2.1 (g i).2.2.1 (g i).2.2.2)∧∀ i,i < m→(g i).1 < 256∧(g i).2.1 < 256∧(g i).2.2.1 < 256∧(g i).2.2.2 < 256
theorem bhw.below {W W':World} {v:Value} {m:Nat} (h:bhw W v m) (hb:Below W.heap.size W W'):bhw W' v m:=by
 obtain ⟨g,ao,c,h1,h2,h3⟩:=h
 refine ⟨g,ao,c,h1,fun hm=>?_,h3⟩
 obtain ⟨b,o,row,T,fr,e1,e2,e3⟩:=h2 hm
 exact ⟨b,o,row,T,fr,e1,aq7 e2 hb,e3⟩
theorem ber {α:Type} (l:List α) (x d:α) {i:Nat} (h:i < l.length):(l ++ [x]).getD i d=l.getD i d:=by
 rw [List.getD_eq_getElem?_getD,List.getD_eq_getElem?_getD,List.getElem?_append_left h]
theorem bes {α:Type} (l:List α) (x d:α):(l ++ [x]).getD l.length d=x:=by
 rw [List.getD_eq_getElem?_getD,List.getElem?_append_right (Nat.le_refl _),Nat.sub_self];rfl
theorem bba {own:List Nat} (hl:own∈b95) {W:World} {v rv:Value} {m:Nat} (hv:as1 0 W v own) (hr:bhw W rv m) :
  Calls Tryz.prog 31 #[.agg (ah6 4 0 90 v),rv] W fun e W' => ∃ lv ys,e=.returned lv∧b9w 0 W' lv ys∧ys.length≤10∧(∀ i,i < ys.length→bg7 (ys.getD i aum))∧Below W.heap.size W W':=by
 obtain ⟨g,ra,rc,rfl,hrow,hg⟩:=hr
 have bAe:=Lib.hid hrow
 have HG:=Lib.hid hg
 have HV:=Lib.hid hv
 have h0:=aZ2 hl
 obtain ⟨oa,oc,rfl,hov⟩:=aAb hv
 have po:=b8r 4 0 90 (show (Value.slice oa own.length oc).oneCell' = true from by cases oa<;>rfl)
 clear hov hrow hg hv
 go_enter Tryz.func31,Tryz.ntmps31
 repeat' (first | go_skip | go_guarded | go_step | go_upon)
 go_loopw [5,6] (fun v i wr => ∃ (k:Nat) (ys:List LN),ys.length=k∧k≤m∧k≤10∧i=.int .i64 k∧(∃ cv:Nat→Value,wr.ownsRow W.heap.size 48 62 v k (ba4 (fun i=>(LN.let (ys.getD i aum) (cv i)).row) k)∧∀ i,i < k→as1 0 wr (cv i) (ys.getD i aum).cs)∧(∀ i,i < k→bg7 (ys.getD i aum))∧obj wr W.heap.size=some (.cells (ah6 4 0 90 (.slice oa own.length oc)) 61 (0,0))∧Below W.heap.size W wr) (fun _ i _=>(m - intOf i).toNat)
 case atStart =>
  have b2:Below W.heap.size W ((W.alloc (.cells (ah6 4 0 90 (.slice oa own.length oc)) 61 (0,0))).alloc (.cells #[] 48 (0,0))):=((Below.refl _ _).alloc (Nat.le_refl _) _).alloc (by simp) _
  refine ⟨0,[],rfl,by omega,by omega,rfl,⟨fun _=>undef,?_,fun i hi=>by omega⟩,fun i hi=>by omega,ab6 (aff _ _ _ rfl) _,b2⟩
  have:=bf0 (W.alloc (.cells (ah6 4 0 90 (.slice oa own.length oc)) 61 (0,0))) 48 62
  have e:=beh this (show W.heap.size≤_ by simp)
  simpa [ba4] using e
 case round =>
  obtain ⟨k,ys,hyl,hk,hk10,rfl,⟨cv,hown,hcv⟩,hok,h1,hB⟩:=hrel
  have HCV:=Lib.hid hcv
  have HOWN:=Lib.hid hown
  have HOK:=Lib.hid hok
  clear hcv hown hok
  by_cases hlt:k < m
  ·have i1:(
         k:Int) < (m:Int):=by omega
   by_cases hlt10:k < 10
   ·have i2:(k:Int) < 10:=by omega
    obtain ⟨b,o,row,T,fr,rfl,hb1,hb2⟩:=bAe.out (by omega)
    obtain ⟨z0,k2⟩:=hb2 k hlt
    try dsimp only at k2
    have z1:(o+k * 4+4≤row.size)=True:=eq_true z0
    have hbw:=aa1 hb1 hB (ah1 hb1)
    obtain ⟨g1,g2,g3,g4⟩:=HG.out k hlt
    generalize g k=gk at *
    obtain ⟨rk,rf,rt,rb⟩:=gk
    try dsimp only at k2 g1 g2 g3 g4
    have rz:=bnw rk rf rt rb
    have rO:=bnx rk rf rt rb
    have hcg:Hid (∀ (y:LN) (cw:Nat→Value),(∀ j,j < k→cw j=cv j)→wr.ownsRow W.heap.size 48 62 _ k (ba4 (fun i=>(LN.let ((ys ++ [y]).getD i aum) (cw i)).row) k)):=Lib.hid fun y cw hcw=>by
     rw [bb9 fun i hi=>by rw [hcw i hi,ber ys y aum (by omega)]]
     exact HOWN.out
    have HL:=Lib.hid (fun (W':World) (hb:Below wr.heap.size wr W')=>bmp hl g1 g2 g3 g4 (HV.out.below (hB.trans (hb.mono hB.size))))
    clear hb2 z0 hb1
    have p1:obj wr.drew W.heap.size=_:=h1
    have pb:obj wr.drew b=_:=hbw
    have jD:Below wr.heap.size wr wr.drew:=(Below.refl _ _).drew
    have hsz:=hB.size
    repeat' ((fail_if_success (with_reducible refine Go.wp_block ?_));(first | go_skip | go_guarded | go_step | go_upon))
    go_cut [5] from 18 to 26 (fun v5 wx => ∃ (y:LN) (cw:Nat→Value),wx.ownsRow W.heap.size 48 62 v5 (k+1) (ba4 (fun i=>(LN.let ((ys ++ [y]).getD i aum) (cw i)).row) (k+1))∧(∀ i,i < k+1→as1 0 wx (cw i) ((ys ++ [y]).getD i aum).cs)∧bg7 y∧obj wx W.heap.size=some (.cells (ah6 4 0 90 (.slice oa own.length oc)) 61 (0,0))∧Below W.heap.size W wx)
    case first =>
     go_step
     go_region_law (first | ((go_simp;go_at_call 36;((with_reducible refine (HL.out _ jD).mono ?_));rintro e w2 ⟨y,c,rfl,hY,hc,hb2⟩;have lz:=as4 (LN.let y c) hY.ok.ref;have la:=aI7 (LN.let y c) hY.ok.ref;have lo:=aBk (LN.let y c) (azh hc);have m2:=b8o jD hb2;have m3:=m2.alloc m2.size (.cells (LN.let y c).row 48 (0,0));have hl:=hcg.out y (fun j=>if j=k then c else cv j) (fun j hj=>if_neg (by omega));have hl2:=ba3 hl m3;have r1:obj w2 W.heap.size=_:=aq7 p1 hb2;have r3:=ab6 r1 (.cells (LN.let y c).row 48 (0,0));have HY:=Lib.hid hY;have HC:=Lib.hid (hc.below ((Below.refl _ _).alloc (Nat.le_refl _) (.cells (LN.let y c).row 48 (0,0))));have HHL:=Lib.hid hl2;clear hY hc hl;dsimp only)) | (refine bjo (by rfl) _ _ (by rfl) Tryz.underlying30 (b:=328) (z:=62) (by kernel_rfl) (by decide) (by decide) W.heap.size k _ _ (by rfl) hl2 w2.heap.size 1 (LN.let y c).row (by rfl) (by exact aff _ _ _ rfl) lz lo (by omega) (by have:=m3.size;omega) ?_;intro ng ncap w' hown' hgrow'))
     all_goals (repeat' go_step)
     all_goals go_meet
     all_goals refine ⟨y,fun j=>if j=k then c else cv j,?_,fun i hi=>?_,HY.out.any,bDo HHL.out r3 (by decide) hgrow',(hB.trans (m3.mono hB.size)).grown hgrow' (hB.trans (m3.mono hB.size)).size (fun g hg=>b7j HHL.out hg)⟩
     all_goals first
      | (
        by_cases hik:i=k
        ·subst hik
         dsimp only
         rw [if_pos rfl,show (ys ++ [y]).getD i aum=y by rw [← hyl];exact bes ys y aum]
         exact b9a HHL.out HC.out (by decide) hgrow'
        ·dsimp only
         rw [if_neg hik,ber ys y aum (by omega)]
         exact b9a HHL.out ((HCV.out i (by omega)).below m3) (by decide) hgrow')
      | (
        rw [b9u]
        have e:(LN.let ((ys ++ [y]).getD k aum) ((fun j=>if j=k then c else cv j) k)).row=(LN.let y c).row:=by
         rw [show (ys ++ [y]).getD k aum=y by rw [← hyl];exact bes ys y aum]
         simp only [if_pos]
        rw [e]
        exact hown')
    case rest =>
     obtain ⟨y,cw,e1,e2,e3,e4,e5⟩:=hcut
     repeat' (first | go_skip | go_guarded | go_step | go_upon)
     go_roundw
     case rel =>
      refine ⟨k+1,ys ++ [y],by rw [List.length_append,hyl];rfl,by omega,by omega,by go_num,⟨cw,e1,e2⟩,fun i hi=>?_,e4,e5⟩
      by_cases hik:i=k
      ·rw [hik,show (ys ++ [y]).getD k aum=y by rw [← hyl];exact bes ys y aum]
       exact e3
      ·rw [ber ys y aum (by omega)]
       exact HOK.out i (by omega)
     case measure=>simp [intOf];omega
   ·have i2 : ¬ (k:Int) < 10:=by omega
    clear bAe
    repeat' (first | go_skip | go_guarded | go_step | go_upon)
    go_ret
    subst hyl
    exact ⟨_,ys,rfl,⟨cv,bgj (fun i hi=>as4 _ (HOK.out i hi 1 (by omega) (by omega)).ok.ref) HOWN.out,HCV.out⟩,hk10,HOK.out,hB⟩
  ·have i1 : ¬ (k:Int) < (m:Int):=by omega
   clear bAe
   repeat' (first | go_skip | go_guarded | go_step | go_upon)
   go_ret
   subst hyl
   exact ⟨_,ys,rfl,⟨cv,bgj (fun i hi=>as4 _ (HOK.out i hi 1 (by omega) (by omega)).ok.ref) HOWN.out,HCV.out⟩,hk10,HOK.out,hB⟩
end Go.Proofs.YtlnlbdfokmhelaaGreatDoor
namespace Go.Proofs.YtlnlbdfokmhelaaGreatDoor
open Go.RowKit Go.CE.V Go.Rv
set_option maxRecDepth 20000
set_option maxHeartbeats 4000000
attribute [local irreducible] wpQuiet
theorem let_1 (x:LN) (v:Value):(LN.let x v).row[1]? = some (.int .i64 x.frm):=by
 rw [CE.V.aRc];rfl
def bth (kd fr:Nat) (p:LN×Nat):Bool:=decide (p.1.kind=kd)&&decide (p.1.frm=fr)
theorem bjs {W:World} {pv:Value} {ps:List (LN×Nat)} {kd fr:Nat} (hp:bd8 W pv ps) (hok:∀ i,i < ps.length→LOk (ps.getD i (aum,0)).1 (ps.getD i (aum,0)).2) (hz:ps.length≤1000) (hT:Tab W) (h0w:0 < W.heap.size) :
  Calls Tryz.prog 32 #[pv,.int .i64 kd,.int .i64 fr] W fun e W'=>e=.returned (.bool (ps.any (bth kd fr)))∧Below W.heap.size W W':=by
 obtain ⟨bv,⟨pa,pc,rfl,hrow⟩,hbv⟩:=hp
 have HOK:=Lib.hid hok
 have HBV:=Lib.hid hbv
 have bAe:=Lib.hid hrow
 have HT:=Lib.hid (fun W' (hb:Below W.heap.size W W')=>And.intro (hT.below hb h0w) (Nat.lt_of_lt_of_le h0w hb.size))
 clear hok hbv hT hrow
 go_enter Tryz.func32,Tryz.ntmps32
 repeat' (first | go_skip | go_guarded | go_step | go_upon)
 go_loopw [7] (fun i wr => ∃ k:Nat,k≤ps.length∧i=.int .i64 k∧(∀ j,j < k→bth kd fr (ps.getD j (aum,0))=false)∧Below W.heap.size W wr) (fun i _=>(ps.length - intOf i).toNat)
 case atStart=>exact ⟨0,by omega,rfl,fun j hj=>by omega,Below.refl _ _⟩
 case round =>
  obtain ⟨k,hk,rfl,hno,hB⟩:=hrel
  have HNO:=Lib.hid hno
  clear hno
  by_cases hlt:k < ps.length
  ·have i1:(k:Int) < (ps.length:Int):=by omega
   obtain ⟨b,o,prow,rfl,hb1,hb2⟩:=bAe.out (by omega)
   obtain ⟨z0,k2⟩:=hb2 k hlt
   try dsimp only at k2
   have z1:(o+k * 36+36≤prow.size)=True:=eq_true z0
   have hbw:=aa1 hb1 hB (ah1 hb1)
   have hX:=HOK.out k hlt
   have hbd:=(HBV.out k hlt).below hB
   have HXE : ∃ xq,xq=ps.getD k (aum,0):=⟨_,rfl⟩
   obtain ⟨⟨x,q⟩,hxe⟩:=HXE
   rw [← hxe] at k2 hX hbd
   have HXQ:=Lib.hid hxe
   generalize bv k=body at *
   clear hxe hb2 z0 hb1
   try dsimp only at k2 hX hbd
   have es:=b2n (aj7 x q body) (as6 x q)
   have ea:=baf (aj7 x q body) (as6 x q)
   have eo:=b8t x q (bgf hbd)
   have HO:=Lib.hid (fun (W':World) kv (hb:Below wr.heap.size wr W') (hk:bcf W' kv)=>bo5 hX.ok hX.k8 hX.f5 hX.d5 hX.q hk (hbd.below hb) hX.e0 hX.e1 (HT.out W' (hB.trans (hb.mono hB.size))).1 (HT.out W' (hB.trans (hb.mono hB.size))).2)
   have hxr:=hX.ok.ref
   clear hbd
   have pl:obj wr.drew b=_:=hbw
   have ql:=ab6 pl (.cells z48 48 (0,0))
   have ql':=ab6 hbw (.cells z48 48 (0,0))
   have jD:Below wr.heap.size wr wr.drew:=(Below.refl _ _).drew
   have jD2:=jD.alloc jD.size (.cells z48 48 (0,0))
   have nz:obj (wr.drew.alloc (.cells z48 48 (0,0))) wr.heap.size=some (.cells z48 48 (0,0)):=aff _ _ _ rfl
   repeat' ((fail_if_success (with_reducible refine Go.wp_block ?_));(first | go_skip | go_guarded | go_step | go_upon))
   go_step
   go_step
   go_cut [8,9] from 16 to 24 (fun v8 v9 wx => ∃ n c,v8=.pointer (some ⟨n,0,none⟩)∧v9=.int .i64 0∧obj wx n=some (.cells (LN.let x c).row 48 (0,0))∧Below wr.heap.size wr wx)
   case first =>
    go_region_law (first | ((go_simp;go_at_call 34;((with_reducible refine (bdf _).mono ?_));rintro e w4 ⟨kv,rfl,hkv,hb4⟩;have rl:obj w4 b=some (.cells prow 78 (0,0)):=aq7 (by assumption) hb4;have jE:Below wr.heap.size wr w4:=b8o (by assumption) hb4;have tl:=ab6 rl (.cells z48 48 (0,0));have jE2:=jE.alloc jE.size (.cells z48 48 (0,0));have hkv2:bcf (w4.alloc (.cells z48 48 (0,0))) kv:=bbp.below hkv ((Below.refl _ _).alloc (Nat.le_refl _) (.cells z48 48 (0,0)));have n4:obj (w4.alloc (.cells z48 48 (0,0))) w4.heap.size=some (.cells z48 48 (0,0)):=aff _ _ _ rfl;(try have n14:=aq7 nz hb4);dsimp only)) | ((go_simp;go_at_call 86;((with_reducible refine (HO.out _ _ (by assumption) (by assumption)).mono ?_));rintro e w5 ⟨c,rfl,hc,hb5⟩;have jF:Below wr.heap.size wr w5:=b8o (by assumption) hb5;have lz:=as4 (LN.let x c) hxr;have la:=aI7 (LN.let x c) hxr;have lo:=aBk (LN.let x c) (azh hc);(try have n15:=aq7 n14 hb5);(try have n45:=aq7 n4 hb5);clear hc;dsimp only)))
    all_goals (repeat' go_step)
    all_goals go_meet
    all_goals first
     | exact ⟨_,c,rfl,rfl,aff _ _ _ rfl,jF.alloc jF.size _⟩
     | exact ⟨_,c,rfl,rfl,(by rw [ajb,n45];rfl),below_setRow jF (by have:=jE.size;omega) _⟩
     | exact ⟨_,c,rfl,rfl,(by rw [ajb,n15];rfl),below_setRow jF (by omega) _⟩
   case rest =>
    obtain ⟨n,c,rfl,rfl,e0,jx⟩:=hcut
    have g0:=(abm e0 0).trans (c2n x c)
    have g1:=(abm e0 1).trans (let_1 x c)
    have c1:((x.kind:Int) == (kd:Int))=decide (x.kind=kd):=aBg _ _
    have c2:((x.frm:Int) == (fr:Int))=decide (x.frm=fr):=aBg _ _
    have hB2:=hB.trans (jx.mono hB.size)
    by_cases d1:x.kind=kd
    ·by_cases d2:x.frm=fr
     ·have d1':=decide_eq_true d1
      have d2':=decide_eq_true d2
      rw [d1'] at c1
      rw [d2'] at c2
      clear d1 d2 d1' d2'
      repeat' (first | go_skip | go_guarded | go_step | go_upon)
      go_ret
      refine ⟨?_,hB2⟩
      have:ps.any (bth kd fr)=true:=by
       refine List.any_eq_true.2 ⟨ps.getD k (aum,0),?_,?_⟩
       ·rw [bdl _ hlt];exact List.getElem_mem hlt
       ·rw [← HXQ.out]
        unfold bth
        have e1:=(aBg x.kind kd).symm.trans c1
        have e2:=(aBg x.frm fr).symm.trans c2
        dsimp only
        rw [e1,e2];rfl
      rw [this];rfl
     ·have d2':=decide_eq_false d2
      have d1':=decide_eq_true d1
      rw [d1'] at c1
      rw [d2'] at c2
      have HN:bth kd fr (ps.getD k (aum,0))=false:=by rw [← HXQ.out];unfold bth;dsimp only;rw [d1',d2'];rfl
      have HNX:=Lib.hid (fun (j:Nat) (hj:j < k+1)=>show bth kd fr (ps.getD j (aum,0))=false from by
       by_cases e:j=k
       ·rw [e];exact HN
       ·exact HNO.out j (by omega))
      clear HN
      clear d1 d2 d1' d2'
      repeat' (first | go_skip | go_guarded | go_step | go_upon)
      go_roundw
      case rel=>exact ⟨k+1,by omega,by go_num,fun j hj=>HNX.out j hj,hB2⟩
      case measure=>simp [intOf];omega
    ·have d1':=decide_eq_false d1
     rw [d1'] at c1
     have HN:bth kd fr (ps.getD k (aum,0))=false:=by rw [← HXQ.out];unfold bth;dsimp only;rw [d1'];rfl
     have HNX:=Lib.hid (fun (j:Nat) (hj:j < k+1)=>show bth kd fr (ps.getD j (aum,0))=false from by
      by_cases e:j=k
      ·rw [e];exact HN
      ·exact HNO.out j (by omega))
     clear HN
     clear d1 d1'
     repeat' (first | go_skip | go_guarded | go_step | go_upon)
     all_goals go_roundw
     all_goals first
      | exact ⟨k+1,by omega,by go_num,fun j hj=>HNX.out j hj,hB2⟩
      | (simp [intOf];omega)
  ·have i1 : ¬ (k:Int) < (ps.length:Int):=by omega
   have hkn:k=ps.length:=by omega
   clear bAe
   repeat' (first | go_skip | go_guarded | go_step | go_upon)
   go_ret
   refine ⟨?_,hB⟩
   have:ps.any (bth kd fr)=false:=by
    rw [← Bool.not_eq_true]
    intro h
    obtain ⟨p,hp,hb⟩:=List.any_eq_true.1 h
    obtain ⟨j,hj,e⟩:=List.mem_iff_getElem.1 hp
    have:=HNO.out j (by omega)
    rw [bdl _ hj,e] at this
    rw [this] at hb
    cases hb
   rw [this];rfl
end Go.Proofs.YtlnlbdfokmhelaaGreatDoor
