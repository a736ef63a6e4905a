/-
  The walk of the reference's Letter.
-/
import Derived.Test.YtlnlbdfokmhelaaGreatDoorPkRi
import Derived.Test.YtlnlbdfokmhelaaGreatDoorPkRwD
import Derived.Deep.AppendLies
import Derived.Deep.RegionLaw
set_option linter.unusedSectionVars false
set_option linter.constructorNameAsVariable false
set_option linter.unusedVariables false
set_option linter.unusedSimpArgs false
namespace Go.Proofs.YtlnlbdfokmhelaaGreatDoor
open Go.RowKit Go.CE.V
set_option maxRecDepth 20000
set_option maxHeartbeats 8000000
attribute [local irreducible] wpQuiet
def aBl (k f t b:Nat):Array Value:=#[.int .u8 k,.int .u8 f,.int .u8 t,.int .u8 b]
structure YP (own:List Nat) (k b:Nat) (y:LN):Prop where
 ok:y.Ok
 f5:y.frm < 5
 d5:y.dst < 5
 dls:y.dl≤1000
 kd:9≤y.kind
 k12:y.kind≤12
 mtg:b=0→y.mtg=4
 ref:b=0→k % 6=2→y.kind=10∧y.frm∈own∧y.cs=own
theorem c2n (x:LN) (v:Value):(LN.let x v).row[0]? = some (.int .i64 x.kind):=by
 rw [CE.V.aRc];rfl
theorem c8y (x:LN) (v:Value):(LN.let x v).row[3]? = some (.int .i64 x.mtg):=by
 rw [CE.V.aRc];rfl
theorem c2l (x:LN) (v:Value):(LN.let x v).row[24]? = some (.int .i64 x.dl):=by
 rw [CE.V.aRc];rfl
theorem c2k (x:LN) (v:Value):(LN.let x v).row[25]? = some (.int .i64 x.st):=by
 rw [CE.V.aRc];rfl
theorem bj7 {W:World} {c:Value} {l:List Nat} (h:as1 0 W c l) (h0:l≠[]) : ∃ bb bo bc c63,c=.slice (some ⟨bb,bo,none⟩) l.length bc∧obj W bb=some (.cells c63 3 (0,0))∧l.length≤bc∧∀ i,i < l.length→c63[bo+i]? = some (.int .i64 (l.getD i 0:Nat)):=by
 rcases h with ⟨e,_⟩ | ⟨_,b,o,c,row,h1,h2,h3,h4,h5,h6⟩
 ·exact absurd e h0
 ·rw [List.length_map] at h1 h5 h6
  refine ⟨b,o,c,row,h1,h3,h5,fun i hi=>?_⟩
  rw [h6 i hi,List.getElem?_map,List.getElem?_eq_getElem hi,List.getD_eq_getElem?_getD,List.getElem?_eq_getElem hi]
  rfl
end Go.Proofs.YtlnlbdfokmhelaaGreatDoor
namespace Go.CE
namespace V
open Go.Proofs Go.Proofs.YtlnlbdfokmhelaaGreatDoor Go.RowKit
set_option maxRecDepth 100000
noncomputable def bx7 (own:List Nat) (v:FV) (f:QW):Bool:=match v with
 | .s q k o n _=>gw k&&Nat.beq n own.length&&byy (bpf 3 (getM q f.m) o n) (blm own)
 | _=>false
theorem bD1 {own:List Nat} {v:FV} {f':QW} {B:Nat} {τ:Sg} {s':CE.St} {W':World} {u:Value} (h:bx7 own v f' = true) (h0:own≠[]) (hok:ba7 v) (hrs:@RS 2048 s' f') (hsr:@SR S00 Tryz.prog B τ s'.mem W') (hv:@VR S00 τ (bbo v) u):as1 0 W' u own:=by
 letI:Sym:=S00
 haveI hok':avd:=bax
 unfold bx7 at h
 split at h
 ·rename_i q k o n c
  simp only [Bool.and_eq_true] at h
  obtain ⟨⟨h1,h2⟩,h3⟩:=h
  have h2:=Nat.eq_of_beq_eq_true h2
  unfold byy at h3
  split at h3
  ·rename_i mm hb2
   obtain rfl:=bbq h3
   have:=bBt (B:=B) (l:=blm own) ba6 hrs hsr hok h1 (h2.trans (List.length_map _).symm) hb2 (bk6 own) hv
   rw [bei] at this
   exact .inr ⟨h0,this⟩
  ·cases h3
 ·cases h
noncomputable def bRl (r:Ans):Bool:=match r with
 | some (.g g 4,f)=>avL (ajn g 0 3) [.i .i64 (.ofNat 4),.i .i64 (.ofNat 0),.i .i64 (.ofNat 90)]&&b95.any (fun own=>bx7 own (aRb (p4 3) g) f)
 | _=>false
theorem bCy:(List.range 256).all (fun n=>bRl (@evF S00 Tryz.prog (LT.fq (.e:LT)) 4000 28 [ofV (.i .u8 (.ofNat n))] ⟨.e,1024,2048,[],[]⟩))=true:=by decide +kernel
theorem bhk {n:Nat} (hn:n < 256) (W:World):Calls Tryz.prog 28 #[.int .u8 n] W fun e W' => ∃ own v,own∈b95∧e=.returned (.agg (ah6 4 0 90 v))∧as1 0 W' v own∧Below W.heap.size W W':=by
 letI:Sym:=S00
 haveI hok':avd:=bax
 have h:=List.all_eq_true.1 bCy n (List.mem_range.2 hn)
 unfold bRl at h
 split at h
 ·rename_i g f' he
  rw [Bool.and_eq_true] at h
  obtain ⟨h1,h2⟩:=h
  obtain ⟨own,hl,h2⟩:=List.any_eq_true.1 h2
  refine (b9m (t:=.e) (a:=[.i .u8 (.ofNat n)]) (l:=[ofV (.i .u8 (.ofNat n))]) trivial bO2 bdu (bNv W) (fun j hj=>b5v (by omega)) (bfl _) (LV.lr (l:=[.i .u8 (.ofNat n)]) (m:=[.int .u8 n]) ⟨VR.i _ _,trivial⟩) he).mono fun e W' hd=>?_
  obtain ⟨τ,u,s',rfl,hok,hrs,_,hsr,hu,hb⟩:=hd
  have ha:b8x (FV.g g 4)=.g ([.i .i64 (.ofNat 4),.i .i64 (.ofNat 0),.i .i64 (.ofNat 90)] ++ [bbo (aRb (p4 3) g)]):=by
   rw [← bbq h1]
   rfl
  rw [ha] at hu
  obtain ⟨cc,rfl,hcc⟩:=hu.buc
  obtain ⟨v0,e0,hv0⟩:=hcc.at (i:=0) rfl
  obtain ⟨v1,e1,hv1⟩:=hcc.at (i:=1) rfl
  obtain ⟨v2,e2,hv2⟩:=hcc.at (i:=2) rfl
  obtain ⟨v3,e3,hv3⟩:=hcc.at (i:=3) rfl
  cases hv0;cases hv1;cases hv2
  refine ⟨own,v3,hl,?_,bD1 h2 (aZ2 hl) (hok 3 (by omega)) hrs hsr hv3,hb⟩
  have hs:cc.size=4:=hcc.len.symm
  unfold ah6
  congr 2
  apply Array.ext
  ·simpa using hs
  ·intro i h3 h4
   rcases (show i=0∨i=1∨i=2∨i=3 by omega) with rfl | rfl | rfl | rfl
   ·simpa using (Array.getElem?_eq_some_iff.1 e0).2
   ·simpa using (Array.getElem?_eq_some_iff.1 e1).2
   ·simpa using (Array.getElem?_eq_some_iff.1 e2).2
   ·simpa using (Array.getElem?_eq_some_iff.1 e3).2
 ·cases h
end V
end Go.CE
namespace Go.Proofs.YtlnlbdfokmhelaaGreatDoor
open Go.RowKit Go.CE.V
set_option maxRecDepth 20000
set_option maxHeartbeats 4000000
attribute [local irreducible] wpQuiet
def bg7 (x:LN):Prop:=∀ q,1≤q→q≤1000000→LOk x q
theorem YP.any {own:List Nat} {k b:Nat} {y:LN} (h:YP own k b y):bg7 y:=fun q h1 h2=>by
 have hk:=h.kd
 have hk2:=h.k12
 have hr:=h.ok.ref
 have hl:=h.ok.len
 have he:0 < (LN.enc y).length∧(LN.enc y).length≤1048576:=by
  rcases (show y.kind=9∨y.kind=10∨y.kind=11∨y.kind=12 by omega) with e | e | e | e<;>(unfold LN.enc;rw [e];simp [LN.hd,b96,cl8,hr];try omega)
 exact ⟨h.ok,fun e=>by omega,h.f5,h.d5,⟨h1,h2⟩,he.1,he.2,by have:=h.dls;omega⟩
theorem aq7 {w w':World} {g:Nat} {x:Obj} (h:obj w g=some x) (hb:Below w.heap.size w w'):obj w' g=some x:=aa1 h hb (ah1 h)
theorem b8o {W w w':World} (h:Below W.heap.size W w) (hb:Below w.heap.size w w'):Below W.heap.size W w':=h.trans (hb.mono h.size)
theorem bi1 {W:World} {v:Value} {x:LN} {q:Nat} (hx:LOk x q) (hv:as1 0 W v x.cs) (hT:Tab W) (h0w:0 < W.heap.size) :
  Calls Tryz.prog 35 #[.agg (LN.let x v).row,.int .i64 q] W fun r W' => ∃ body,r=.returned (.agg (aj7 x q body).row)∧Sl 0 W' body 5 ((LN.enc x).map fun c=>B8 c.toNat)∧Below W.heap.size W W':=by
 have HX:=Lib.hid hx
 have lz:=as4 (LN.let x v) hx.ok.ref
 have la:=aI7 (LN.let x v) hx.ok.ref
 have lo:=aBk (LN.let x v) (azh hv)
 have j0:obj ((W.alloc (.cells (LN.let x v).row 48 (0,0))).alloc (.cells z78 78 (0,0))) W.heap.size=some (.cells (LN.let x v).row 48 (0,0)):=ab6 (aff _ _ _ rfl) _
 have j1:obj ((W.alloc (.cells (LN.let x v).row 48 (0,0))).alloc (.cells z78 78 (0,0))) (W.heap.size+1)=some (.cells z78 78 (0,0)):=aff _ _ _ (by simp)
 have jB:Below W.heap.size W ((W.alloc (.cells (LN.let x v).row 48 (0,0))).alloc (.cells z78 78 (0,0))):=((Below.refl _ _).alloc (Nat.le_refl _) _).alloc (by simp) _
 have hqi:(q:Int)=q:=rfl
 have HS:=Lib.hid (fun (W':World) kv (hb:Below W.heap.size W W') (hk:bcf W' kv)=>byi (q:=q) hx.ok hx.f5 hx.d5 hx.q hk (hv.below hb) hx.e0 hx.e1 (hT.below hb h0w) (Nat.lt_of_lt_of_le h0w hb.size))
 go_enter Tryz.func35,Tryz.ntmps35
 repeat' (first | go_skip | go_guarded | go_step | go_upon)
 generalize ((W.alloc (.cells (LN.let x v).row 48 (0,0))).alloc (.cells z78 78 (0,0)))=w3 at *
 have lt0:=ah1 j0
 have lt1:=ah1 j1
 have p0:obj w3.drew W.heap.size=_:=j0
 have p1:obj w3.drew (W.heap.size+1)=_:=j1
 have jD:Below W.heap.size W w3.drew:=jB.drew
 have q0:=ab6 p0 (.cells z78 78 (0,0))
 have q1:=ab6 p1 (.cells z78 78 (0,0))
 have jD2:=jD.alloc jD.size (.cells z78 78 (0,0))
 have nz:obj (w3.drew.alloc (.cells z78 78 (0,0))) w3.heap.size=some (.cells z78 78 (0,0)):=aff _ _ _ rfl
 go_cut [5,6] from 7 to 13 (fun v5 v6 wx => ∃ n body,v5=.pointer (some ⟨n,0,none⟩)∧v6=.int .i64 0∧obj wx n=some (.cells (aj7 x q body).row 78 (0,0))∧Sl 0 wx body 5 ((LN.enc x).map fun c=>B8 c.toNat)∧obj wx (W.heap.size+1)=some (.cells z78 78 (0,0))∧n≠W.heap.size+1∧Below W.heap.size W wx)
 case first =>
  go_region_law (first | ((go_simp;go_at_call 34;((with_reducible refine (bdf _).mono ?_));rintro e w4 ⟨kv,rfl,hkv,hb4⟩;have r0:obj w4 W.heap.size=some (.cells (LN.let x v).row 48 (0,0)):=aq7 (by assumption) hb4;have r1:obj w4 (W.heap.size+1)=some (.cells z78 78 (0,0)):=aq7 (by assumption) hb4;have jE:Below W.heap.size W w4:=b8o (by assumption) hb4;have t0:=ab6 r0 (.cells z78 78 (0,0));have t1:=ab6 r1 (.cells z78 78 (0,0));have jE2:=jE.alloc jE.size (.cells z78 78 (0,0));have hkv2:bcf (w4.alloc (.cells z78 78 (0,0))) kv:=bbp.below hkv ((Below.refl _ _).alloc (Nat.le_refl _) (.cells z78 78 (0,0)));have n4:obj (w4.alloc (.cells z78 78 (0,0))) w4.heap.size=some (.cells z78 78 (0,0)):=aff _ _ _ rfl;(try have n14:=aq7 nz hb4);dsimp only)) | ((go_simp;go_at_call 55;((with_reducible refine (HS.out _ _ (by assumption) (by assumption)).mono ?_));rintro e w5 ⟨body,rfl,hbd,hb5⟩;have s0:obj w5 W.heap.size=some (.cells (LN.let x v).row 48 (0,0)):=aq7 (by assumption) hb5;have s1:obj w5 (W.heap.size+1)=some (.cells z78 78 (0,0)):=aq7 (by assumption) hb5;have jF:Below W.heap.size W w5:=b8o (by assumption) hb5;have es:=b2n (aj7 x q body) (as6 x q);have ea:=baf (aj7 x q body) (as6 x q);have eo:=b8t x q (bgf hbd);have n5:obj (w5.alloc (.cells z78 78 (0,0))) w5.heap.size=some (.cells z78 78 (0,0)):=aff _ _ _ rfl;(try have n15:=aq7 n14 hb5);(try have n45:=aq7 n4 hb5);dsimp only)))
  all_goals (repeat' go_step)
  all_goals go_meet
  all_goals first
   | exact ⟨_,body,rfl,rfl,aff _ _ _ rfl,hbd.below ((Below.refl _ _).alloc (Nat.le_refl _) _),ab6 s1 _,(by have:=ah1 s1;omega),jF.alloc jF.size _⟩
   | exact ⟨_,body,rfl,rfl,(by rw [ajb,n45];rfl),be6 hbd n45 (by decide) (fun y hy=>setRow_other _ _ _ _ hy),(setRow_other _ _ _ _ (by have:=ah1 r1;omega)).trans s1,(by have:=ah1 r1;omega),below_setRow jF (by have:=jE.size;omega) _⟩
   | exact ⟨_,body,rfl,rfl,(by rw [ajb,n15];rfl),be6 hbd n15 (by decide) (fun y hy=>setRow_other _ _ _ _ hy),(setRow_other _ _ _ _ (by omega)).trans s1,(by omega),below_setRow jF (by omega) _⟩
 case rest =>
  obtain ⟨n,body,rfl,rfl,h1,h2,h3,h4,h5⟩:=hcut
  have es:=b2n (aj7 x q body) (as6 x q)
  have ea:=baf (aj7 x q body) (as6 x q)
  have eo:=b8t x q (bgf h2)
  repeat' (first | go_skip | go_guarded | go_step | go_upon)
  refine bodyPost_ret (results_cell_row rfl _ _ (W.heap.size+1) 78 _ _ _ rfl (setRow_heap _ _ _ _ _ _ h3) Tryz.underlying78 rfl (by rw [es];kernel_rfl)) rfl ?_
  exact ⟨body,rfl,be6 h2 h3 (by decide) (fun y hy=>setRow_other _ _ _ _ hy),below_setRow h5 (by omega) _⟩
end Go.Proofs.YtlnlbdfokmhelaaGreatDoor
namespace Go.Proofs.YtlnlbdfokmhelaaGreatDoor
open Go.RowKit Go.CE.V Go.Rv
set_option maxRecDepth 20000
set_option maxHeartbeats 4000000
attribute [local irreducible] wpQuiet
@[go_sem] theorem c62 (w:World):(bzy 30 0 #[]).run Tryz.prog w=.ok (.slice (some ⟨w.heap.size,0,none⟩) 0 0) (w.alloc (.cells #[] 48)):=by kernel_rfl
theorem bjo {w:World} {ops:Array Oper} {o:Oper} {a:Act} {K:Act→World→Prop} {Q:Exit→Act→World→Prop} {E:Prop} (hgd:o.guard=none) (s x:Operand) {ST T z b:Nat}
  (ho:o.op=.call { callee:=.builtin .append,args:=#[s,x],argTypes:=#[ST,ST] }) (hu:Tryz.prog.underlying ST=some (.slice T)) (hi:(Tryz.prog.info? T).map (fun i=>(i.size,i.bytes,i.zero.map (·.cells.size)))=some (z,b,some z)) (hz:0 < z) (hby:b≤1000)
  (base k:Nat) (v:Value) (xs:List Value) (hs:a.eval s=v) (hown:w.ownsRow base T z v k xs) (nb c:Nat) (row:Array Value) (hx:a.eval x=.slice (some ⟨nb,0,none⟩) 1 c) (hrow:obj w nb=some (.cells row T (0,0))) (hl:row.size=z) (h1:ones row=true)
  (hk:k≤1000000) (hb:base≤w.heap.size)
  (h:∀ g cap w',w'.ownsRow base T z (.slice (some ⟨g,0,none⟩) (k+1) cap) (k+1) (xs++row.toList)→w.grownBy w' v.ownBlock→K (a.put o.dst (.slice (some ⟨g,0,none⟩) (k+1) cap)) w'):if Region.wanted o (yielded ops a.tmps)=true then Oper.wp Tryz.prog o a w K Q else E:=by
 obtain ⟨i0,zv,hi,hz0,hz1,hz2,hzs⟩:=bkl hi
 refine step_append_lies w hgd s x ST ho base T i0 zv z b hu hi hz0 hz1 hz2 hzs hz v k xs hs hown ⟨nb,0,none⟩ 1 c row.toList hx (by rw [Array.length_toList,hl];omega) (fun j u hu=>?_) (fun u hu=>?_) (by omega) (by unfold maxLen;omega) ?_ hb w.heap.size rfl fun g cap w' q1 q2 _ _=>h g cap w' q1 q2
 ·rw [Addr.add_lit,abm hrow,Nat.zero_add]
  rw [Array.getElem?_toList] at hu
  exact hu
 ·unfold ones at h1
  exact (Array.all_eq_true_iff_forall_mem.1 h1) u (Array.mem_toList_iff.1 hu)
 ·have:(k+1) * b≤1000001 * 1000:=Nat.mul_le_mul (by omega) hby
  omega
def bhw (W:World) (v:Value) (m:Nat):Prop := ∃ (g:Nat→Nat×Nat×Nat×Nat) (ao:Option Addr) (c:Nat),v=.slice ao m c∧(m≠0→∃ b o row T fr,ao=some ⟨b,o,none⟩∧obj W b=some (.cells row T fr)∧∀ i,i < m→o+i * 4+4≤row.size∧row.extract (o+i * 4) (o+i * 4+4)=aBl (g i).1 (g i).2.1 (g i).2.2.1 (g i).2.2.2)∧∀ i,i < m→(g i).1 < 256∧(g i).2.1 < 256∧(g i).2.2.1 < 256∧(g i).2.2.2 < 256
theorem bhw.below {W W':World} {v:Value} {m:Nat} (h:bhw W v m) (hb:Below W.heap.size W W'):bhw W' v m:=by
 obtain ⟨g,ao,c,h1,h2,h3⟩:=h
 refine ⟨g,ao,c,h1,fun hm=>?_,h3⟩
 obtain ⟨b,o,row,T,fr,e1,e2,e3⟩:=h2 hm
 exact ⟨b,o,row,T,fr,e1,aq7 e2 hb,e3⟩
theorem ber {α:Type} (l:List α) (x d:α) {i:Nat} (h:i < l.length):(l ++ [x]).getD i d=l.getD i d:=by
 rw [List.getD_eq_getElem?_getD,List.getD_eq_getElem?_getD,List.getElem?_append_left h]
theorem bes {α:Type} (l:List α) (x d:α):(l ++ [x]).getD l.length d=x:=by
 rw [List.getD_eq_getElem?_getD,List.getElem?_append_right (Nat.le_refl _),Nat.sub_self];rfl
end Go.Proofs.YtlnlbdfokmhelaaGreatDoor
namespace Go.Proofs.YtlnlbdfokmhelaaGreatDoor
open Go.RowKit Go.CE.V Go.Rv
set_option maxRecDepth 20000
set_option maxHeartbeats 4000000
attribute [local irreducible] wpQuiet
end Go.Proofs.YtlnlbdfokmhelaaGreatDoor
