/-
  A slice literal of one element whose cells are not written out.
-/
import Derived.Test.YtopgdlblfieljaaGreatDoorPkRow
import Derived.Great.BuildSlice
import Derived.Test.YtopgdlblfieljaaGreatDoorPkRwA
import Derived.Test.YtopgdlblfieljaaGreatDoorPkRefB
import Derived.Test.YtopgdlblfieljaaGreatDoorPkOp
import Derived.Test.YtopgdlblfieljaaGreatDoorPkHash
import Derived.Deep.MidRow
import Derived.Deep.RegionLaw
import Derived.Test.YtopgdlblfieljaaGreatDoorPkLet
import Derived.Test.YtopgdlblfieljaaGreatDoorPkSmP
import Derived.Test.YtopgdlblfieljaaGreatDoorPkSm
set_option linter.unusedSectionVars false
set_option linter.constructorNameAsVariable false
set_option linter.unusedVariables false
set_option linter.unusedSimpArgs false
namespace Go.Proofs.YtopgdlblfieljaaGreatDoor
open Go.RowKit
def ak0 (t len:Nat) (parts:Array (Nat×Value)):Sem Value:=Instr.buildSlice t len parts
def aAu (P:Program) (t len:Nat) (parts:Array (Nat×Value)) (w:World):Result Value:=(Instr.buildSlice t len parts).run P w
theorem ahb {P:Program} {t e z:Nat} (hu:P.underlying t=some (.slice e)) (hi:(P.info? e).map (fun i=>(i.size,(i.zero.map (·.cells.size))))=some (z,some z)) (hz:0 < z) (hz2:z≤16777216) (cs:Array Value) (w:World) :
  (ak0 t 1 #[(0,.agg cs)]).run P w=if cs.size=z then .ok (.slice (some ⟨w.heap.size,0,none⟩) 1 1) (w.alloc (.cells cs e)) else aAu P t 1 #[(0,.agg cs)] w:=by
 split
 ·rename_i hc
  obtain ⟨ie,hie,he⟩:=Option.map_eq_some_iff.1 hi
  obtain ⟨h1,h2⟩:=Prod.mk.inj he
  obtain ⟨zv,hzv,hzs⟩:=Option.map_eq_some_iff.1 h2
  have hf:=Great.fill_dense (s:=z) hz [.agg cs] 0 ((Array.range (1 * z)).map (zv.cells[· % zv.cells.size]!)) (fun v hv=>by
   have:v=.agg cs:=by simpa using hv
   subst this
   exact hc) (by simp)
  obtain ⟨r,hr,hs,hk⟩:=hf
  have hrc:r=cs:=by
   apply Array.ext_getElem?
   intro k
   rw [hk k]
   simp only [Nat.zero_mul,Nat.zero_le,true_and,List.length_singleton,Nat.zero_add,Nat.one_mul,Nat.sub_zero]
   by_cases h:k < z
   ·rw [if_pos h,Nat.div_eq_of_lt h,Nat.mod_eq_of_lt h]
    rfl
   ·rw [if_neg h,Array.getElem?_eq_none (by simp;omega),Array.getElem?_eq_none (by omega)]
  rw [hrc] at hr
  refine run_buildSlice w t e 1 _ cs ie zv hu hie hzv (by rw [h1];omega) (by rw [h1];omega) ?_
  rw [h1]
  exact hr
 ·rfl
@[go_sem ↓] theorem bs_let (len:Nat) (p:Array (Nat×Value)):Instr.buildSlice 30 len p=ak0 30 len p:=rfl
@[go_sem] theorem b4s (cs:Array Value) (w:World):(ak0 30 1 #[(0,.agg cs)]).run Tryz.prog w=if cs.size=62 then .ok (.slice (some ⟨w.heap.size,0,none⟩) 1 1) (w.alloc (.cells cs 48)) else aAu Tryz.prog 30 1 #[(0,.agg cs)] w :=
 ahb Tryz.underlying30 (by kernel_rfl) (by decide) (by decide) cs w
@[go_sem ↓] theorem bs_env (len:Nat) (p:Array (Nat×Value)):Instr.buildSlice 26 len p=ak0 26 len p:=rfl
@[go_sem] theorem b4t (cs:Array Value) (w:World):(ak0 26 1 #[(0,.agg cs)]).run Tryz.prog w=if cs.size=36 then .ok (.slice (some ⟨w.heap.size,0,none⟩) 1 1) (w.alloc (.cells cs 62)) else aAu Tryz.prog 26 1 #[(0,.agg cs)] w :=
 ahb Tryz.underlying26 (by kernel_rfl) (by decide) (by decide) cs w
@[go_sem] theorem aS7 (a:Addr) (n c:Nat) (w:World):(Go.binOp BinOp.eql 60 (.slice (some a) n c) (.slice none 0 0)).run Tryz.prog w=.ok (.bool false) w:=by kernel_rfl
@[go_sem] theorem aQl (a:Addr) (n c:Nat) (w:World):(Go.binOp BinOp.eql 25 (.slice (some a) n c) (.slice none 0 0)).run Tryz.prog w=.ok (.bool false) w:=by kernel_rfl
end Go.Proofs.YtopgdlblfieljaaGreatDoor
namespace Go.Proofs.YtopgdlblfieljaaGreatDoor
open Go.RowKit Go.CE.V
set_option maxRecDepth 20000
set_option maxHeartbeats 4000000
theorem afo {P:Program} {e sz b:Nat} (h:(P.info? e).map (fun i=>(i.size,i.bytes,i.zero.map (·.cells.size)))=some (sz,b,some sz)) : ∃ i z,P.info? e=some i∧i.zero=some z∧i.size=sz∧i.bytes=b∧z.cells.size=sz:=by
 obtain ⟨i,hi,he⟩:=Option.map_eq_some_iff.1 h
 obtain ⟨h1,h2⟩:=Prod.mk.inj he
 obtain ⟨h2,h3⟩:=Prod.mk.inj h2
 obtain ⟨z,hz,hzs⟩:=Option.map_eq_some_iff.1 h3
 exact ⟨i,z,hi,hz,h1,h2,hzs⟩
theorem a2d {w:World} {ops:Array Oper} {rest:List Oper} {o:Oper} {a:Act} {Q:Exit→Act→World→Prop} (hgd:o.guard=none) (s x:Operand) {ST T z b:Nat}
  (ho:o.op=.call { callee:=.builtin .append,args:=#[s,x],argTypes:=#[ST,ST] }) (hu:Tryz.prog.underlying ST=some (.slice T)) (hi:(Tryz.prog.info? T).map (fun i=>(i.size,i.bytes,i.zero.map (·.cells.size)))=some (z,b,some z)) (hz:0 < z) (hby:b≤1000)
  (base k:Nat) (v:Value) (xs:List Value) (hs:a.eval s=v) (hown:w.ownsRow base T z v k xs) (nb c:Nat) (row:Array Value) (hx:a.eval x=.slice (some ⟨nb,0,none⟩) 1 c) (hrow:obj w nb=some (.cells row T (0,0))) (hl:row.size=z) (h1:ones row=true)
  (hk:k≤1000000) (hb:base≤w.heap.size)
  (h:∀ v' w',w'.ownsRow base T z v' (k+1) (xs++row.toList)→w.grownBy w' v.ownBlock→wpList Tryz.prog ops Q rest (a.put o.dst v') w'):wpList Tryz.prog ops Q (o :: rest) a w:=by
 obtain ⟨i0,zv,hi,hz0,hz1,hz2,hzs⟩:=afo hi
 refine wpList_append_own w hgd s x ST ho base T i0 zv z b hu hi hz0 hz1 hz2 hzs hz v k xs hs hown ⟨nb,0,none⟩ 1 c row.toList hx (by rw [Array.length_toList,hl];omega) (fun j u hu=>?_) (fun u hu=>?_) (by unfold maxLen;omega) ?_ hb fun v' w' q1 q2 _=>h v' w' q1 q2
 ·rw [Addr.add_lit,a01 hrow,Nat.zero_add]
  rw [Array.getElem?_toList] at hu
  exact hu
 ·unfold ones at h1
  exact (Array.all_eq_true_iff_forall_mem.1 h1) u (Array.mem_toList_iff.1 hu)
 ·have:(k+1) * b≤1000001 * 1000:=Nat.mul_le_mul (by omega) hby
  omega
theorem aP3 {w:World} {base T z:Nat} {v:Value} {n:Nat} {xs:List Value} (h:w.ownsRow base T z v n xs) {g:Nat} (hg:v.ownBlock=some g):g < w.heap.size:=by
 rcases h.2 with ⟨rfl,_⟩ | ⟨q,c,cur,rfl,_,h2,_⟩
 ·cases hg
 ·cases hg
  exact (Array.getElem?_eq_some_iff.1 h2).1
theorem a1u {w:World} {base T z:Nat} {v:Value} {n:Nat} {xs:List Value} (h:w.ownsRow base T z v n xs) {g:Nat} (hg:v.ownBlock=some g):base≤g:=by
 rcases h.2 with ⟨rfl,_⟩ | ⟨q,c,cur,rfl,h1,_⟩
 ·cases hg
 ·cases hg
  exact h1
theorem a4i {w w':World} {base T z:Nat} {v:Value} {n:Nat} {xs:List Value} (h:w.ownsRow base T z v n xs) (hb:Below w.heap.size w w'):w'.ownsRow base T z v n xs:=ahk h hb fun _ hg=>aP3 h hg
theorem a9q {w w':World} {base T T' z:Nat} {v u:Value} {n B:Nat} {xs l:List Value} (hown:w.ownsRow base T z v n xs) (h:Sl B w u T' l) (hne:T≠T') (hg:w.grownBy w' v.ownBlock):Sl B w' u T' l:=by
 obtain ⟨g,o,c,row,h1,h0,h2,h3⟩:=h
 refine ⟨g,o,c,row,h1,h0,a0w h2 hg fun e=>?_,h3⟩
 rcases hown.2 with ⟨rfl,_⟩ | ⟨q,c,cur,rfl,_,q2,_⟩
 ·cases e
 ·cases e
  rw [q2] at h2
  injection h2 with h2
  injection h2 with _ e2 _
  exact hne e2
theorem a3e {w w':World} {base T z:Nat} {v u:Value} {n B:Nat} {xs:List Value} {l:List Nat} (hown:w.ownsRow base T z v n xs) (h:a0h B w u l) (hne:T≠3) (hg:w.grownBy w' v.ownBlock):a0h B w' u l:=by
 rcases h with h | ⟨h0,h1⟩
 ·exact .inl h
 ·exact .inr ⟨h0,a9q hown h1 hne hg⟩
def ad2 (B:Nat) (W:World) (v:Value) (xs:List LN):Prop := ∃ cv:Nat→Value,W.ownsRow B 48 62 v xs.length (a3b (fun i=>(LN.let (xs.getD i a0c) (cv i)).row) xs.length)∧∀ i,i < xs.length→a0h B W (cv i) (xs.getD i a0c).cs
structure LOk (x:LN) (q:Nat):Prop where
 ok:x.Ok
 k8:x.kind=8∨x.kind=13→x.cs≠[]
 f5:x.frm < 5
 d5:x.dst < 5
 q:1≤q∧q≤1000000
 e0:0 < (LN.enc x).length
 e1:(LN.enc x).length≤1048576
 dls:x.dl≤1099511627776
theorem ad2.lets {B:Nat} {W:World} {v:Value} {xs:List LN} (h:ad2 B W v xs) (hr:∀ i,i < xs.length→(xs.getD i a0c).ref.length=32):a4w B W v xs:=by
 obtain ⟨cv,h1,h2⟩:=h
 exact ⟨cv,aey (fun i hi=>a0e _ (hr i hi)) h1,h2⟩
end Go.Proofs.YtopgdlblfieljaaGreatDoor
namespace Go.Proofs.YtopgdlblfieljaaGreatDoor
open Go.RowKit Go.CE.V
set_option maxRecDepth 20000
set_option maxHeartbeats 4000000
theorem am8 : ∃ i,Tryz.prog.info? 3=some i∧i.zero=some (.int .i64 0)∧i.size=1∧i.bytes=8 :=
 info_parts (show (Tryz.prog.info? 3).map (fun i=>(i.zero,i.size,i.bytes))=some (some (.int .i64 0),1,8) by kernel_rfl)
theorem acj (W:World) (T z:Nat):(W.alloc (.cells #[] T (0,0))).ownsRow W.heap.size T z (.slice (some ⟨W.heap.size,0,none⟩) 0 0) 0 [] :=
 ⟨by simp,.inr ⟨W.heap.size,0,#[],rfl,Nat.le_refl _,heap_alloc_new W _,Nat.le_refl _,Nat.zero_le _,by simp,by simp⟩⟩
theorem aoi {w:World} {base T:Nat} {v:Value} {n:Nat} {xs:List Value} (h:w.ownsRow base T 1 v n xs) (hn:0 < n):Sl base w v T xs:=by
 have hl:xs.length=n:=by rw [h.1];omega
 rcases h.2 with ⟨_,h0⟩ | ⟨g,c,cur,rfl,h1,h2,h3,h4,h5,h6⟩
 ·omega
 ·refine ⟨g,0,c,cur,by rw [hl],h1,h2,by omega,by omega,fun i hi=>?_⟩
  rw [← h6,List.getElem?_take,if_pos (by omega),Array.getElem?_toList,Nat.zero_add]

theorem amu {W:World} {v:Value} {l:List Nat} (h0:0 < l.length) (h1:l.length≤1048576) (hv:Sl 0 W v 3 (l.map fun (c:Nat)=>Value.int .i64 (c:Int))) :
  Calls Tryz.prog 61 #[v] W fun e W' => ∃ v',e=.returned v'∧Sl W.heap.size W' v' 3 (l.map fun (c:Nat)=>Value.int .i64 (c:Int))∧Below W.heap.size W W':=by
 obtain ⟨i0,hi,hz0,hz1,hz2⟩:=am8
 obtain ⟨b,o,c,row,rfl,_,h2,h3,h4,h5⟩:=hv
 have hlen:(l.map fun (c:Nat)=>Value.int .i64 (c:Int)).length=l.length:=List.length_map _
 rw [hlen] at h4 h5
 rw [hlen]
 have hb0:b < W.heap.size:=a04 (show obj W b=some _ from h2)
 have hown0:(W.alloc (.cells #[] 3 (0,0))).ownsRow W.heap.size 3 1 (.slice (some ⟨W.heap.size,0,none⟩) 0 0) 0 []:=acj W 3 1
 have hB0:Below W.heap.size W (W.alloc (.cells #[] 3 (0,0))):=(Below.refl _ _).alloc (Nat.le_refl _) _
 have hnews:∀ j u,(l.map fun (c:Nat)=>Value.int .i64 (c:Int))[j]? = some u→(W.alloc (.cells #[] 3 (0,0))).cell? ((⟨b,o,none⟩:Addr).add j)=some u:=fun j u hu=>by
  have hj:j < l.length:=by
   have:=(List.getElem?_eq_some_iff.1 hu).1
   rwa [hlen] at this
  rw [Addr.add_lit,a01 (a02 (show obj W b=some _ from h2) _),h5 j hj]
  exact hu
 have hone:∀ u∈(l.map fun (c:Nat)=>Value.int .i64 (c:Int)),u.oneCell' = true:=fun u hu=>by
  obtain ⟨c,_,rfl⟩:=List.mem_map.1 hu
  rfl
 generalize hnw:(l.map fun (c:Nat)=>Value.int .i64 (c:Int))=nws at *
 clear hnw
 go_enter Tryz.func61,Tryz.ntmps61
 repeat' (first | (at_builtin;refine wpList_append_own _ rfl _ _ 25 rfl W.heap.size 3 i0 _ 1 8 Tryz.underlying25 hi hz0 hz1 hz2 rfl (by decide) _ 0 [] rfl hown0 ⟨b,o,none⟩ l.length c nws rfl (by rw [hlen];omega) hnews hone (by unfold maxLen;omega) (by omega) (by simp) ?_;intro v' w' hown hgrow _) | go_skip | go_guarded | go_step | go_upon)
 go_ret
 rw [List.nil_append,Nat.zero_add] at hown
 exact ⟨_,rfl,aoi hown (by omega),hB0.grown hgrow hB0.size (fun g hg=>by cases hg;exact Nat.le_refl _)⟩

theorem amv {W:World} {v:Value} {l:List Nat} (h0:l≠[]) (h1:l.length≤1048576) (hv:a0h 0 W v l) :
  Calls Tryz.prog 61 #[v] W fun e W' => ∃ v',e=.returned v'∧a0h W.heap.size W' v' l∧Below W.heap.size W W':=by
 rcases hv with ⟨e,_⟩ | ⟨_,hv⟩
 ·exact absurd e h0
 ·exact (amu (List.length_pos_iff.2 h0) h1 hv).mono fun e W' ⟨v',he,hs,hb⟩=>⟨v',he,.inr ⟨h0,hs⟩,hb⟩
def a2l (B:Nat) (W:World) (v:Value) (ps:List (LN×Nat)):Prop := ∃ bv:Nat→Value,W.ownsRow B 62 36 v ps.length (a3b (fun i=>(a05 (ps.getD i (a0c,0)).1 (ps.getD i (a0c,0)).2 (bv i)).row) ps.length)∧∀ i,i < ps.length→Sl 0 W (bv i) 5 ((LN.enc (ps.getD i (a0c,0)).1).map fun c=>B8 c.toNat)
end Go.Proofs.YtopgdlblfieljaaGreatDoor
namespace Go.Proofs.YtopgdlblfieljaaGreatDoor
open Go.RowKit Go.CE.V
set_option maxRecDepth 20000
set_option maxHeartbeats 4000000
def ac8 (W:World) (u:Value) (p:List UInt8):Prop := ∃ b c T,u=.slice (some ⟨b,0,none⟩) p.length c∧obj W b=some (.cells (a0i p) T (0,0))∧T≠60
theorem ac8.below {W W':World} {u:Value} {p:List UInt8} (h:ac8 W u p) (hb:Below W.heap.size W W'):ac8 W' u p:=by
 obtain ⟨b,c,T,h1,h2,h3⟩:=h
 exact ⟨b,c,T,h1,a00 h2 hb (a04 h2),h3⟩
theorem ac8.one {W:World} {u:Value} {p:List UInt8} (h:ac8 W u p):u.oneCell' = true:=by
 obtain ⟨b,c,T,rfl,h2,h3⟩:=h
 rfl
theorem ac8.grown {w w':World} {base:Nat} {v u:Value} {n:Nat} {xs:List Value} {p:List UInt8} (hown:w.ownsRow base 60 1 v n xs) (h:ac8 w u p) (hg:w.grownBy w' v.ownBlock):ac8 w' u p:=by
 obtain ⟨b,c,T,h1,h2,h3⟩:=h
 have h2':w.heap[b]? = some (.cells (a0i p) T (0,0)):=h2
 refine ⟨b,c,T,h1,a0w h2 hg fun e=>?_,h3⟩
 rcases hown.2 with ⟨rfl,_⟩ | ⟨q,c,cur,rfl,_,q2,_⟩
 ·cases e
 ·cases e
  rw [q2] at h2'
  injection h2' with q2
  injection q2 with _ q3 _
  exact h3 q3.symm
def a8x (B:Nat) (W:World) (v:Value) (ls:List (List UInt8)):Prop := ∃ rows:List Value,W.ownsRow B 60 1 v ls.length rows∧∀ i,i < ls.length→∃ u,rows[i]? = some u∧ac8 W u (ls.getD i [])
theorem a8x.below {B:Nat} {W W':World} {v:Value} {ls:List (List UInt8)} (h:a8x B W v ls) (hb:Below W.heap.size W W'):a8x B W' v ls:=by
 obtain ⟨rows,h1,h2⟩:=h
 exact ⟨rows,a4i h1 hb,fun i hi=>by
  obtain ⟨u,e,hu⟩:=h2 i hi
  exact ⟨u,e,hu.below hb⟩⟩
theorem a8x.rows {B:Nat} {W:World} {v:Value} {ls:List (List UInt8)} (h:a8x B W v ls) (hn:0 < ls.length) : ∃ g c cur,v=.slice (some ⟨g,0,none⟩) ls.length c∧obj W g=some (.cells cur 60 (0,0))∧∀ i,i < ls.length→∃ u,cur[i]? = some u∧ac8 W u (ls.getD i []):=by
 obtain ⟨rows,h1,h2⟩:=h
 rcases h1.2 with ⟨_,h0⟩ | ⟨g,c,cur,rfl,_,q2,q3,q4,q5,q6⟩
 ·omega
 ·refine ⟨g,c,cur,rfl,q2,fun i hi=>?_⟩
  obtain ⟨u,e,hu⟩:=h2 i hi
  rw [← q6,List.getElem?_take,if_pos (by omega)] at e
  exact ⟨u,by rw [← Array.getElem?_toList];exact e,hu⟩
def ajs (ls:List (List UInt8)):List (List UInt8):=ls.flatMap fun l=>[le8 l.length,l]
def agx (ls:List (List UInt8)):List UInt8:=a3t (ajs ls).flatten
attribute [irreducible] agx
end Go.Proofs.YtopgdlblfieljaaGreatDoor
namespace Go.Proofs.YtopgdlblfieljaaGreatDoor
open Go.RowKit Go.CE.V
set_option maxRecDepth 20000
set_option maxHeartbeats 4000000
attribute [local irreducible] wpQuiet
def a2s (mtg org dl:Nat) (own:List Nat):Go.Rv.a2c:=⟨org,mtg,dl,own,a2k org,agx⟩
end Go.Proofs.YtopgdlblfieljaaGreatDoor
namespace Go.Proofs.YtopgdlblfieljaaGreatDoor
open Go.RowKit Go.CE.V
set_option maxRecDepth 20000
set_option maxHeartbeats 4000000
attribute [local irreducible] wpQuiet
def ownRow (self mtg org dl ph:Nat) (ov pv:Value):Array Value:=#[.int .i64 self,.int .i64 mtg,.int .i64 org,.int .i64 dl,.int .i64 ph,ov,pv]
theorem a3p (self mtg org dl ph:Nat) (ov pv:Value):(ownRow self mtg org dl ph ov pv).size=7:=rfl
theorem axy (self mtg org dl ph:Nat) (ov pv:Value):(ownRow self mtg org dl ph ov pv).extract 0 7=ownRow self mtg org dl ph ov pv:=extract_all _ _ rfl
theorem aFq (self mtg org dl ph:Nat) (ov pv:Value):(ownRow self mtg org dl ph ov pv)[0]? = some (.int .i64 self):=rfl
theorem b2p (self mtg org dl ph:Nat) (ov pv:Value):(ownRow self mtg org dl ph ov pv)[1]? = some (.int .i64 mtg):=rfl
theorem b2o (self mtg org dl ph:Nat) (ov pv:Value):(ownRow self mtg org dl ph ov pv)[2]? = some (.int .i64 org):=rfl
theorem b2n (self mtg org dl ph:Nat) (ov pv:Value):(ownRow self mtg org dl ph ov pv)[3]? = some (.int .i64 dl):=rfl
theorem a4v (self mtg org dl ph:Nat) (ov pv:Value):(ownRow self mtg org dl ph ov pv)[4]? = some (.int .i64 ph):=rfl
theorem aoj (self mtg org dl ph:Nat) (ov pv:Value):(ownRow self mtg org dl ph ov pv)[5]? = some ov:=rfl
theorem aau (self mtg org dl ph:Nat) (ov pv:Value):(ownRow self mtg org dl ph ov pv)[6]? = some pv:=rfl
theorem a1y (self mtg org dl ph:Nat) {ov pv:Value} (h:ov.oneCell' = true) (h':pv.oneCell' = true):ones (ownRow self mtg org dl ph ov pv)=true:=by
 unfold ownRow
 simp [ones,ack,h,h']
attribute [go_sem] a3p axy aFq b2p b2o b2n a4v aoj aau
attribute [irreducible] ownRow
end Go.Proofs.YtopgdlblfieljaaGreatDoor
