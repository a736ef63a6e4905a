/-
  A slice literal of one element whose cells are not written out.
-/
import Derived.Test.YtlnlbdfokmhelaaGreatDoorPkRow
import Derived.Great.BuildSlice
import Derived.Test.YtlnlbdfokmhelaaGreatDoorPkRwD
import Derived.Test.YtlnlbdfokmhelaaGreatDoorPkRwA
import Derived.Test.YtlnlbdfokmhelaaGreatDoorPkLet
set_option linter.unusedSectionVars false
set_option linter.constructorNameAsVariable false
set_option linter.unusedVariables false
set_option linter.unusedSimpArgs false
namespace Go.Proofs.YtlnlbdfokmhelaaGreatDoor
open Go.RowKit
def ak0 (t len:Nat) (parts:Array (Nat×Value)):Sem Value:=Instr.buildSlice t len parts
def aAu (P:Program) (t len:Nat) (parts:Array (Nat×Value)) (w:World):Result Value:=(Instr.buildSlice t len parts).run P w
theorem ahb {P:Program} {t e z:Nat} (hu:P.underlying t=some (.slice e)) (hi:(P.info? e).map (fun i=>(i.size,(i.zero.map (·.cells.size))))=some (z,some z)) (hz:0 < z) (hz2:z≤16777216) (cs:Array Value) (w:World) :
  (ak0 t 1 #[(0,.agg cs)]).run P w=if cs.size=z then .ok (.slice (some ⟨w.heap.size,0,none⟩) 1 1) (w.alloc (.cells cs e)) else aAu P t 1 #[(0,.agg cs)] w:=by
 split
 ·rename_i hc
  obtain ⟨ie,hie,he⟩:=Option.map_eq_some_iff.1 hi
  obtain ⟨h1,h2⟩:=Prod.mk.inj he
  obtain ⟨zv,hzv,hzs⟩:=Option.map_eq_some_iff.1 h2
  have hf:=Great.fill_dense (s:=z) hz [.agg cs] 0 ((Array.range (1 * z)).map (zv.cells[· % zv.cells.size]!)) (fun v hv=>by
   have:v=.agg cs:=by simpa using hv
   subst this
   exact hc) (by simp)
  obtain ⟨r,hr,hs,hk⟩:=hf
  have hrc:r=cs:=by
   apply Array.ext_getElem?
   intro k
   rw [hk k]
   simp only [Nat.zero_mul,Nat.zero_le,true_and,List.length_singleton,Nat.zero_add,Nat.one_mul,Nat.sub_zero]
   by_cases h:k < z
   ·rw [if_pos h,Nat.div_eq_of_lt h,Nat.mod_eq_of_lt h]
    rfl
   ·rw [if_neg h,Array.getElem?_eq_none (by simp;omega),Array.getElem?_eq_none (by omega)]
  rw [hrc] at hr
  refine run_buildSlice w t e 1 _ cs ie zv hu hie hzv (by rw [h1];omega) (by rw [h1];omega) ?_
  rw [h1]
  exact hr
 ·rfl
@[go_sem ↓] theorem bs_let (len:Nat) (p:Array (Nat×Value)):Instr.buildSlice 30 len p=ak0 30 len p:=rfl
@[go_sem] theorem b4s (cs:Array Value) (w:World):(ak0 30 1 #[(0,.agg cs)]).run Tryz.prog w=if cs.size=62 then .ok (.slice (some ⟨w.heap.size,0,none⟩) 1 1) (w.alloc (.cells cs 48)) else aAu Tryz.prog 30 1 #[(0,.agg cs)] w :=
 ahb Tryz.underlying30 (by kernel_rfl) (by decide) (by decide) cs w
@[go_sem ↓] theorem bs_env (len:Nat) (p:Array (Nat×Value)):Instr.buildSlice 26 len p=ak0 26 len p:=rfl
@[go_sem] theorem b4t (cs:Array Value) (w:World):(ak0 26 1 #[(0,.agg cs)]).run Tryz.prog w=if cs.size=36 then .ok (.slice (some ⟨w.heap.size,0,none⟩) 1 1) (w.alloc (.cells cs 78)) else aAu Tryz.prog 26 1 #[(0,.agg cs)] w :=
 ahb Tryz.underlying26 (by kernel_rfl) (by decide) (by decide) cs w
@[go_sem] theorem aS7 (a:Addr) (n c:Nat) (w:World):(Go.binOp BinOp.eql 76 (.slice (some a) n c) (.slice none 0 0)).run Tryz.prog w=.ok (.bool false) w:=by kernel_rfl
@[go_sem] theorem aQl (a:Addr) (n c:Nat) (w:World):(Go.binOp BinOp.eql 25 (.slice (some a) n c) (.slice none 0 0)).run Tryz.prog w=.ok (.bool false) w:=by kernel_rfl
end Go.Proofs.YtlnlbdfokmhelaaGreatDoor
namespace Go.Proofs.YtlnlbdfokmhelaaGreatDoor
open Go.RowKit Go.CE.V
set_option maxRecDepth 20000
set_option maxHeartbeats 4000000
theorem afo {P:Program} {e sz b:Nat} (h:(P.info? e).map (fun i=>(i.size,i.bytes,i.zero.map (·.cells.size)))=some (sz,b,some sz)) : ∃ i z,P.info? e=some i∧i.zero=some z∧i.size=sz∧i.bytes=b∧z.cells.size=sz:=by
 obtain ⟨i,hi,he⟩:=Option.map_eq_some_iff.1 h
 obtain ⟨h1,h2⟩:=Prod.mk.inj he
 obtain ⟨h2,h3⟩:=Prod.mk.inj h2
 obtain ⟨z,hz,hzs⟩:=Option.map_eq_some_iff.1 h3
 exact ⟨i,z,hi,hz,h1,h2,hzs⟩
theorem a2d {w:World} {ops:Array Oper} {rest:List Oper} {o:Oper} {a:Act} {Q:Exit→Act→World→Prop} (hgd:o.guard=none) (s x:Operand) {ST T z b:Nat}
  (ho:o.op=.call { callee:=.builtin .append,args:=#[s,x],argTypes:=#[ST,ST] }) (hu:Tryz.prog.underlying ST=some (.slice T)) (hi:(Tryz.prog.info? T).map (fun i=>(i.size,i.bytes,i.zero.map (·.cells.size)))=some (z,b,some z)) (hz:0 < z) (hby:b≤1000)
  (base k:Nat) (v:Value) (xs:List Value) (hs:a.eval s=v) (hown:w.ownsRow base T z v k xs) (nb c:Nat) (row:Array Value) (hx:a.eval x=.slice (some ⟨nb,0,none⟩) 1 c) (hrow:obj w nb=some (.cells row T (0,0))) (hl:row.size=z) (h1:ones row=true)
  (hk:k≤1000000) (hb:base≤w.heap.size)
  (h:∀ v' w',w'.ownsRow base T z v' (k+1) (xs++row.toList)→w.grownBy w' v.ownBlock→wpList Tryz.prog ops Q rest (a.put o.dst v') w'):wpList Tryz.prog ops Q (o :: rest) a w:=by
 obtain ⟨i0,zv,hi,hz0,hz1,hz2,hzs⟩:=afo hi
 refine wpList_append_own w hgd s x ST ho base T i0 zv z b hu hi hz0 hz1 hz2 hzs hz v k xs hs hown ⟨nb,0,none⟩ 1 c row.toList hx (by rw [Array.length_toList,hl];omega) (fun j u hu=>?_) (fun u hu=>?_) (by unfold maxLen;omega) ?_ hb fun v' w' q1 q2 _=>h v' w' q1 q2
 ·rw [Addr.add_lit,a01 hrow,Nat.zero_add]
  rw [Array.getElem?_toList] at hu
  exact hu
 ·unfold ones at h1
  exact (Array.all_eq_true_iff_forall_mem.1 h1) u (Array.mem_toList_iff.1 hu)
 ·have:(k+1) * b≤1000001 * 1000:=Nat.mul_le_mul (by omega) hby
  omega
theorem aP3 {w:World} {base T z:Nat} {v:Value} {n:Nat} {xs:List Value} (h:w.ownsRow base T z v n xs) {g:Nat} (hg:v.ownBlock=some g):g < w.heap.size:=by
 rcases h.2 with ⟨rfl,_⟩ | ⟨q,c,cur,rfl,_,h2,_⟩
 ·cases hg
 ·cases hg
  exact (Array.getElem?_eq_some_iff.1 h2).1
theorem a1u {w:World} {base T z:Nat} {v:Value} {n:Nat} {xs:List Value} (h:w.ownsRow base T z v n xs) {g:Nat} (hg:v.ownBlock=some g):base≤g:=by
 rcases h.2 with ⟨rfl,_⟩ | ⟨q,c,cur,rfl,h1,_⟩
 ·cases hg
 ·cases hg
  exact h1
theorem a4i {w w':World} {base T z:Nat} {v:Value} {n:Nat} {xs:List Value} (h:w.ownsRow base T z v n xs) (hb:Below w.heap.size w w'):w'.ownsRow base T z v n xs:=ahk h hb fun _ hg=>aP3 h hg
theorem a9q {w w':World} {base T T' z:Nat} {v u:Value} {n B:Nat} {xs l:List Value} (hown:w.ownsRow base T z v n xs) (h:Sl B w u T' l) (hne:T≠T') (hg:w.grownBy w' v.ownBlock):Sl B w' u T' l:=by
 obtain ⟨g,o,c,row,h1,h0,h2,h3⟩:=h
 refine ⟨g,o,c,row,h1,h0,a0w h2 hg fun e=>?_,h3⟩
 rcases hown.2 with ⟨rfl,_⟩ | ⟨q,c,cur,rfl,_,q2,_⟩
 ·cases e
 ·cases e
  rw [q2] at h2
  injection h2 with h2
  injection h2 with _ e2 _
  exact hne e2
theorem a3e {w w':World} {base T z:Nat} {v u:Value} {n B:Nat} {xs:List Value} {l:List Nat} (hown:w.ownsRow base T z v n xs) (h:a0h B w u l) (hne:T≠3) (hg:w.grownBy w' v.ownBlock):a0h B w' u l:=by
 rcases h with h | ⟨h0,h1⟩
 ·exact .inl h
 ·exact .inr ⟨h0,a9q hown h1 hne hg⟩
def ad2 (B:Nat) (W:World) (v:Value) (xs:List LN):Prop := ∃ cv:Nat→Value,W.ownsRow B 48 62 v xs.length (a3b (fun i=>(LN.let (xs.getD i a0c) (cv i)).row) xs.length)∧∀ i,i < xs.length→a0h B W (cv i) (xs.getD i a0c).cs
structure LOk (x:LN) (q:Nat):Prop where
 ok:x.Ok
 k8:x.kind=8∨x.kind=13→x.cs≠[]
 f5:x.frm < 5
 d5:x.dst < 5
 q:1≤q∧q≤1000000
 e0:0 < (LN.enc x).length
 e1:(LN.enc x).length≤1048576
 dls:x.dl≤1099511627776
theorem ad2.lets {B:Nat} {W:World} {v:Value} {xs:List LN} (h:ad2 B W v xs) (hr:∀ i,i < xs.length→(xs.getD i a0c).ref.length=32):a4w B W v xs:=by
 obtain ⟨cv,h1,h2⟩:=h
 exact ⟨cv,aey (fun i hi=>a0e _ (hr i hi)) h1,h2⟩
theorem getD_map {α β:Type} (f:α→β) (l:List α) (i:Nat) (d:α):(l.map f).getD i (f d)=f (l.getD i d):=by
 simp only [List.getD_eq_getElem?_getD,List.getElem?_map]
 cases l[i]?<;>rfl
theorem aaz {α:Type} {l:List α} {i:Nat} (d:α) (h:i < l.length):l.getD i d=l[i]:=by
 rw [List.getD_eq_getElem?_getD,List.getElem?_eq_getElem h];rfl
theorem aak {W:World} {kv pv:Value} {ps:List (LN×Nat)} (hk:a7r W kv) (hp:a6i W pv ps) (hok:∀ i,i < ps.length→LOk (ps.getD i (a0c,0)).1 (ps.getD i (a0c,0)).2) (hz:ps.length≤1000) (hT:Tab W) (h0w:0 < W.heap.size) :
  Calls Tryz.prog 88 #[kv,pv] W fun e W' => ∃ v,e=.returned v∧ad2 W.heap.size W' v (ps.map (·.1))∧Below W.heap.size W W':=by
 obtain ⟨bv,⟨pa,pc,rfl,hrow⟩,hbv⟩:=hp
 have HK:=Lib.hid (fun W' (hb:Below W.heap.size W W')=>And.intro (hk.below hb) (hT.below hb h0w))
 have HOK:=Lib.hid hok
 have HBV:=Lib.hid hbv
 have aBe:=Lib.hid hrow
 clear hk hok hbv hT hrow
 have hlen:(ps.map (·.1)).length=ps.length:=List.length_map _
 go_enter Tryz.func88,Tryz.ntmps88
 repeat' (first | go_skip | go_guarded | go_step | go_upon)
 go_loopw [5,12] (fun v i wr => ∃ k:Nat,k≤ps.length∧i=.int .i64 k∧(∃ cv:Nat→Value,wr.ownsRow W.heap.size 48 62 v k (a3b (fun i=>(LN.let (ps.getD i (a0c,0)).1 (cv i)).row) k)∧∀ i,i < k→a0h W.heap.size wr (cv i) (ps.getD i (a0c,0)).1.cs)∧Below W.heap.size W wr) (fun _ i _=>(ps.length - intOf i).toNat)
 case atStart=>exact ⟨0,by omega,rfl,⟨fun _=>undef,World.ownsRow_nil _ _ _ _,fun i hi=>by omega⟩,Below.refl _ _⟩
 case round =>
  obtain ⟨k,hk,rfl,⟨cv,hown,hcv⟩,hB⟩:=hrel
  have HCV:=Lib.hid hcv
  have HOWN:=Lib.hid hown
  clear hcv hown
  by_cases hlt:k < ps.length
  ·have i1:(k:Int) < (ps.length:Int):=by omega
   obtain ⟨b,o,row,rfl,hb1,hb2⟩:=aBe.out (by omega)
   obtain ⟨z0,k2⟩:=hb2 k hlt
   have z1:(o+k * 36+36≤row.size)=True:=eq_true z0
   have hbw:=a00 hb1 hB (a04 hb1)
   have hX:=HOK.out k hlt
   have hbd:=HBV.out k hlt
   dsimp only at k2
   have hcg:Hid (∀ cw:Nat→Value,(∀ j,j < k→cw j=cv j)→wr.ownsRow W.heap.size 48 62 _ k (a3b (fun i=>(LN.let (ps.getD i (a0c,0)).1 (cw i)).row) k)):=Lib.hid fun cw hcw=>by
    rw [a3d fun i hi=>by rw [hcw i hi]]
    exact HOWN.out
   have HXE:Hid ((ps.getD k (a0c,0))=ps.getD k (a0c,0)):=Lib.hid rfl
   generalize hxe:ps.getD k (a0c,0)=xq at k2 hX hbd
   obtain ⟨x,q⟩:=xq
   have HXQ:=Lib.hid hxe
   clear hxe hb2 z0 hb1
   dsimp only at k2 hX hbd
   have hr:=a1o (a05 x q (bv k)) (a0f x q)
   have hall:=a4f (a05 x q (bv k)) (a0f x q)
   have w1B:Below W.heap.size W (wr.alloc (.cells (a05 x q (bv k)).row 78 (0,0))):=hB.alloc hB.size _
   have w1C:Below wr.heap.size wr (wr.alloc (.cells (a05 x q (bv k)).row 78 (0,0))):=(Below.refl _ _).alloc (Nat.le_refl _) _
   have HO:=Lib.hid (afa hX.ok hX.k8 hX.f5 hX.d5 hX.q (HK.out _ w1B).1 (hbd.below w1B) hX.e0 hX.e1 (HK.out _ w1B).2 (Nat.lt_of_lt_of_le h0w w1B.size))
   have hxr:=hX.ok.ref
   have hrb:=a1k x q (a7s hbd)
   clear hbd
   have hsz:=hB.size
   repeat' (first | (go_at_call 86;((with_reducible refine (HO.out).mono ?_));rintro r w2 ⟨c,rfl,hc,hb2⟩;have lz:=a0e (LN.let x c) hxr;have la:=a15 (LN.let x c) hxr;have lo:=a0y (LN.let x c) (a0v hc);have m2:=w1C.trans (hb2.mono w1C.size);have m3:=(m2.alloc m2.size (.cells (LN.let x c).row 48 (0,0))).alloc (by have:=m2.size;simp;omega) (.cells (LN.let x c).row 48 (0,0));have hl:=hcg.out (fun j=>if j=k then c else cv j) (fun j hj=>if_neg (by omega));have hl2:=a4i hl m3;dsimp only) | (at_builtin;(refine a2d rfl _ _ rfl Tryz.underlying30 (b:=328) (z:=62) (by kernel_rfl) (by decide) (by decide) W.heap.size k _ _ rfl hl2 (w2.heap.size+1) 1 (LN.let x c).row ?_ ?_ lz lo (by omega) ?_ ?_);(first | rfl | skip);(exact a03 _ _ _ (by simp));(have:=m3.size;omega);intro v' w' hown' hgrow') | go_skip | go_guarded | go_step | go_upon)
   have hwB:=hB.trans (m3.mono hB.size)
   have hk1:=hown'
   have hc2:=a3e hl2 (hc.below (((Below.refl _ _).alloc (Nat.le_refl _) (.cells (LN.let x c).row 48 (0,0))).alloc (by simp) (.cells (LN.let x c).row 48 (0,0)))) (by decide) hgrow'
   refine ⟨⟨k+1,by omega,by go_num,⟨fun j=>if j=k then c else cv j,?_,fun i hi=>?_⟩,hwB.grown hgrow' hwB.size (fun g hg=>a1u hl2 hg)⟩,by simp [intOf];omega⟩
   ·rw [a2z]
    have e:(LN.let (ps.getD k (a0c,0)).1 ((fun j=>if j=k then c else cv j) k)).row=(LN.let x c).row:=by simp only [HXQ.out,if_pos]
    rw [e]
    exact hk1
   ·by_cases hik:i=k
    ·subst hik
     dsimp only
     rw [if_pos rfl,HXQ.out]
     exact hc2.mono (by simp;omega)
    ·dsimp only
     rw [if_neg hik]
     exact a3e hl2 ((HCV.out i (by omega)).below m3) (by decide) hgrow'
  ·have i1 : ¬ (k:Int) < (ps.length:Int):=by omega
   have hkn:k=ps.length:=by omega
   clear aBe
   repeat' (first | go_skip | go_guarded | go_step | go_upon)
   go_ret
   refine ⟨_,rfl,⟨cv,?_,fun i hi=>?_⟩,hB⟩
   ·have:=HOWN.out
    rw [hkn] at this
    rw [hlen]
    refine (congrArg (wr.ownsRow W.heap.size 48 62 _ ps.length) (a3d fun i hi=>?_)).mp this
    rw [show ((ps.map (·.1)).getD i a0c)=(ps.getD i (a0c,0)).1 from getD_map Prod.fst ps i (a0c,0)]
   ·rw [hlen] at hi
    rw [show ((ps.map (·.1)).getD i a0c)=(ps.getD i (a0c,0)).1 from getD_map Prod.fst ps i (a0c,0)]
    exact HCV.out i (by omega)
end Go.Proofs.YtlnlbdfokmhelaaGreatDoor
namespace Go.Proofs.YtlnlbdfokmhelaaGreatDoor
open Go.RowKit Go.CE.V
set_option maxRecDepth 20000
set_option maxHeartbeats 4000000
theorem am8 : ∃ i,Tryz.prog.info? 3=some i∧i.zero=some (.int .i64 0)∧i.size=1∧i.bytes=8 :=
 info_parts (show (Tryz.prog.info? 3).map (fun i=>(i.zero,i.size,i.bytes))=some (some (.int .i64 0),1,8) by kernel_rfl)
theorem acj (W:World) (T z:Nat):(W.alloc (.cells #[] T (0,0))).ownsRow W.heap.size T z (.slice (some ⟨W.heap.size,0,none⟩) 0 0) 0 [] :=
 ⟨by simp,.inr ⟨W.heap.size,0,#[],rfl,Nat.le_refl _,heap_alloc_new W _,Nat.le_refl _,Nat.zero_le _,by simp,by simp⟩⟩
theorem aoi {w:World} {base T:Nat} {v:Value} {n:Nat} {xs:List Value} (h:w.ownsRow base T 1 v n xs) (hn:0 < n):Sl base w v T xs:=by
 have hl:xs.length=n:=by rw [h.1];omega
 rcases h.2 with ⟨_,h0⟩ | ⟨g,c,cur,rfl,h1,h2,h3,h4,h5,h6⟩
 ·omega
 ·refine ⟨g,0,c,cur,by rw [hl],h1,h2,by omega,by omega,fun i hi=>?_⟩
  rw [← h6,List.getElem?_take,if_pos (by omega),Array.getElem?_toList,Nat.zero_add]

theorem amw {W:World} {v:Value} {l:List UInt8} (h0:0 < l.length) (h1:l.length≤1048576) (hv:Sl 0 W v 5 (l.map fun c=>B8 c.toNat)) :
  Calls Tryz.prog 124 #[v] W fun e W' => ∃ v',e=.returned v'∧Sl W.heap.size W' v' 5 (l.map fun c=>B8 c.toNat)∧Below W.heap.size W W':=by
 obtain ⟨i0,hi,hz0,hz1,hz2⟩:=aax
 obtain ⟨b,o,c,row,rfl,_,h2,h3,h4,h5⟩:=hv
 have hlen:(l.map fun c=>B8 c.toNat).length=l.length:=List.length_map _
 rw [hlen] at h4 h5
 rw [hlen]
 have hb0:b < W.heap.size:=a04 (show obj W b=some _ from h2)
 have hown0:(W.alloc (.cells #[] 5 (0,0))).ownsRow W.heap.size 5 1 (.slice (some ⟨W.heap.size,0,none⟩) 0 0) 0 []:=acj W 5 1
 have hB0:Below W.heap.size W (W.alloc (.cells #[] 5 (0,0))):=(Below.refl _ _).alloc (Nat.le_refl _) _
 have hnews:∀ j u,(l.map fun c=>B8 c.toNat)[j]? = some u→(W.alloc (.cells #[] 5 (0,0))).cell? ((⟨b,o,none⟩:Addr).add j)=some u:=fun j u hu=>by
  have hj:j < l.length:=by
   have:=(List.getElem?_eq_some_iff.1 hu).1
   rwa [hlen] at this
  rw [Addr.add_lit,a01 (a02 (show obj W b=some _ from h2) _),h5 j hj]
  exact hu
 have hone:∀ u∈(l.map fun c=>B8 c.toNat),u.oneCell' = true:=fun u hu=>by
  obtain ⟨c,_,rfl⟩:=List.mem_map.1 hu
  rfl
 generalize hnw:(l.map fun c=>B8 c.toNat)=nws at *
 clear hnw
 go_enter Tryz.func124,Tryz.ntmps124
 repeat' (first | (at_builtin;refine wpList_append_own _ rfl _ _ 76 rfl W.heap.size 5 i0 _ 1 1 Tryz.underlying76 hi hz0 hz1 hz2 rfl (by decide) _ 0 [] rfl hown0 ⟨b,o,none⟩ l.length c nws rfl (by rw [hlen];omega) hnews hone (by unfold maxLen;omega) (by omega) (by simp) ?_;intro v' w' hown hgrow _) | go_skip | go_guarded | go_step | go_upon)
 go_ret
 rw [List.nil_append,Nat.zero_add] at hown
 exact ⟨_,rfl,aoi hown (by omega),hB0.grown hgrow hB0.size (fun g hg=>by cases hg;exact Nat.le_refl _)⟩

theorem amu {W:World} {v:Value} {l:List Nat} (h0:0 < l.length) (h1:l.length≤1048576) (hv:Sl 0 W v 3 (l.map fun (c:Nat)=>Value.int .i64 (c:Int))) :
  Calls Tryz.prog 90 #[v] W fun e W' => ∃ v',e=.returned v'∧Sl W.heap.size W' v' 3 (l.map fun (c:Nat)=>Value.int .i64 (c:Int))∧Below W.heap.size W W':=by
 obtain ⟨i0,hi,hz0,hz1,hz2⟩:=am8
 obtain ⟨b,o,c,row,rfl,_,h2,h3,h4,h5⟩:=hv
 have hlen:(l.map fun (c:Nat)=>Value.int .i64 (c:Int)).length=l.length:=List.length_map _
 rw [hlen] at h4 h5
 rw [hlen]
 have hb0:b < W.heap.size:=a04 (show obj W b=some _ from h2)
 have hown0:(W.alloc (.cells #[] 3 (0,0))).ownsRow W.heap.size 3 1 (.slice (some ⟨W.heap.size,0,none⟩) 0 0) 0 []:=acj W 3 1
 have hB0:Below W.heap.size W (W.alloc (.cells #[] 3 (0,0))):=(Below.refl _ _).alloc (Nat.le_refl _) _
 have hnews:∀ j u,(l.map fun (c:Nat)=>Value.int .i64 (c:Int))[j]? = some u→(W.alloc (.cells #[] 3 (0,0))).cell? ((⟨b,o,none⟩:Addr).add j)=some u:=fun j u hu=>by
  have hj:j < l.length:=by
   have:=(List.getElem?_eq_some_iff.1 hu).1
   rwa [hlen] at this
  rw [Addr.add_lit,a01 (a02 (show obj W b=some _ from h2) _),h5 j hj]
  exact hu
 have hone:∀ u∈(l.map fun (c:Nat)=>Value.int .i64 (c:Int)),u.oneCell' = true:=fun u hu=>by
  obtain ⟨c,_,rfl⟩:=List.mem_map.1 hu
  rfl
 generalize hnw:(l.map fun (c:Nat)=>Value.int .i64 (c:Int))=nws at *
 clear hnw
 go_enter Tryz.func90,Tryz.ntmps90
 repeat' (first | (at_builtin;refine wpList_append_own _ rfl _ _ 25 rfl W.heap.size 3 i0 _ 1 8 Tryz.underlying25 hi hz0 hz1 hz2 rfl (by decide) _ 0 [] rfl hown0 ⟨b,o,none⟩ l.length c nws rfl (by rw [hlen];omega) hnews hone (by unfold maxLen;omega) (by omega) (by simp) ?_;intro v' w' hown hgrow _) | go_skip | go_guarded | go_step | go_upon)
 go_ret
 rw [List.nil_append,Nat.zero_add] at hown
 exact ⟨_,rfl,aoi hown (by omega),hB0.grown hgrow hB0.size (fun g hg=>by cases hg;exact Nat.le_refl _)⟩

theorem amv {W:World} {v:Value} {l:List Nat} (h0:l≠[]) (h1:l.length≤1048576) (hv:a0h 0 W v l) :
  Calls Tryz.prog 90 #[v] W fun e W' => ∃ v',e=.returned v'∧a0h W.heap.size W' v' l∧Below W.heap.size W W':=by
 rcases hv with ⟨e,_⟩ | ⟨_,hv⟩
 ·exact absurd e h0
 ·exact (amu (List.length_pos_iff.2 h0) h1 hv).mono fun e W' ⟨v',he,hs,hb⟩=>⟨v',he,.inr ⟨h0,hs⟩,hb⟩
theorem aHi (x:LN) (q:Nat) (b b':Value):(a05 x q b).row.setIfInBounds 3 b' = (a05 x q b').row:=by
 unfold Env.row a05
 rw [Array.setIfInBounds_append_left (by simp)]
 rfl
def a2l (B:Nat) (W:World) (v:Value) (ps:List (LN×Nat)):Prop := ∃ bv:Nat→Value,W.ownsRow B 78 36 v ps.length (a3b (fun i=>(a05 (ps.getD i (a0c,0)).1 (ps.getD i (a0c,0)).2 (bv i)).row) ps.length)∧∀ i,i < ps.length→Sl 0 W (bv i) 5 ((LN.enc (ps.getD i (a0c,0)).1).map fun c=>B8 c.toNat)
theorem a2l.proof {B:Nat} {W:World} {v:Value} {ps:List (LN×Nat)} (h:a2l B W v ps):a6i W v ps:=by
 obtain ⟨bv,h1,h2⟩:=h
 exact ⟨bv,aey (fun i hi=>a1o _ (a0f _ _)) h1,h2⟩
theorem adm {W:World} {pv:Value} {ps:List (LN×Nat)} (hp:a6i W pv ps) (hok:∀ i,i < ps.length→LOk (ps.getD i (a0c,0)).1 (ps.getD i (a0c,0)).2) (hz:ps.length≤1000) :
  Calls Tryz.prog 91 #[pv] W fun e W' => ∃ v,e=.returned v∧a2l W.heap.size W' v ps∧Below W.heap.size W W':=by
 obtain ⟨bv,⟨pa,pc,rfl,hrow⟩,hbv⟩:=hp
 have HOK:=Lib.hid hok
 have HBV:=Lib.hid hbv
 have aBe:=Lib.hid hrow
 clear hok hbv hrow
 go_enter Tryz.func91,Tryz.ntmps91
 repeat' (first | go_skip | go_guarded | go_step | go_upon)
 go_loopw [3,8] (fun v i wr => ∃ k:Nat,k≤ps.length∧i=.int .i64 k∧(∃ cv:Nat→Value,wr.ownsRow W.heap.size 78 36 v k (a3b (fun i=>(a05 (ps.getD i (a0c,0)).1 (ps.getD i (a0c,0)).2 (cv i)).row) k)∧∀ i,i < k→Sl 0 wr (cv i) 5 ((LN.enc (ps.getD i (a0c,0)).1).map fun c=>B8 c.toNat))∧Below W.heap.size W wr) (fun _ i _=>(ps.length - intOf i).toNat)
 case atStart=>exact ⟨0,by omega,rfl,⟨fun _=>undef,World.ownsRow_nil _ _ _ _,fun i hi=>by omega⟩,Below.refl _ _⟩
 case round =>
  obtain ⟨k,hk,rfl,⟨cv,hown,hcv⟩,hB⟩:=hrel
  have HCV:=Lib.hid hcv
  have HOWN:=Lib.hid hown
  clear hcv hown
  by_cases hlt:k < ps.length
  ·have i1:(k:Int) < (ps.length:Int):=by omega
   obtain ⟨b,o,row,rfl,hb1,hb2⟩:=aBe.out (by omega)
   obtain ⟨z0,k2⟩:=hb2 k hlt
   have z1:(o+k * 36+36≤row.size)=True:=eq_true z0
   have hbw:=a00 hb1 hB (a04 hb1)
   have hX:=HOK.out k hlt
   have hbd:=HBV.out k hlt
   dsimp only at k2
   have hcg:Hid (∀ cw:Nat→Value,(∀ j,j < k→cw j=cv j)→wr.ownsRow W.heap.size 78 36 _ k (a3b (fun i=>(a05 (ps.getD i (a0c,0)).1 (ps.getD i (a0c,0)).2 (cw i)).row) k)):=Lib.hid fun cw hcw=>by
    rw [a3d fun i hi=>by rw [hcw i hi]]
    exact HOWN.out
   generalize hxe:ps.getD k (a0c,0)=xq at k2 hX hbd
   obtain ⟨x,q⟩:=xq
   have HXQ:=Lib.hid hxe
   clear hxe hb2 z0 hb1
   dsimp only at k2 hX hbd
   have hr:=a1o (a05 x q (bv k)) (a0f x q)
   have hall:=a4f (a05 x q (bv k)) (a0f x q)
   have hrb:=a1k x q (a7s hbd)
   have w1B:Below W.heap.size W (wr.alloc (.cells (a05 x q (bv k)).row 78 (0,0))):=hB.alloc hB.size _
   have w1C:Below wr.heap.size wr (wr.alloc (.cells (a05 x q (bv k)).row 78 (0,0))):=(Below.refl _ _).alloc (Nat.le_refl _) _
   have k0:obj (wr.alloc (.cells (a05 x q (bv k)).row 78 (0,0))) wr.heap.size=some (.cells (a05 x q (bv k)).row 78 (0,0)):=a03 _ _ _ rfl
   have c3:=((a01 k0 3).trans (av9 (a05 x q (bv k)))).trans (show some (a05 x q (bv k)).body=some (bv k) from rfl)
   have HC:=Lib.hid (amw hX.e0 hX.e1 (hbd.below w1B))
   have lt0:=a04 k0
   clear hbd
   have hsz:=hB.size
   repeat' (first | (go_at_call 124;((with_reducible refine (HC.out).mono ?_));rintro r w2 ⟨bw,rfl,hbw2,hb2⟩;obtain ⟨sb2,so2,sc2,hbe,-,-⟩:=hbw2.lt;rw [hbe] at hbw2;rw [hbe];clear hbe bw;generalize (List.map (fun c=>B8 c.toNat) (LN.enc x)).length=sn at *;have p0:=a00 k0 hb2 lt0;have f0:=a0t p0 3;have q3:=((a01 p0 3).trans (av9 (a05 x q (bv k)))).trans (show some (a05 x q (bv k)).body=some (bv k) from rfl);have hset:=aHi x q (bv k) (.slice (some ⟨sb2,so2,none⟩) sn sc2);have hr2:=a1o (a05 x q (.slice (some ⟨sb2,so2,none⟩) sn sc2)) (a0f x q);have hall2:=a4f (a05 x q (.slice (some ⟨sb2,so2,none⟩) sn sc2)) (a0f x q);have aZr:=a1k x q (a7s hbw2);have m2:=w1C.trans (hb2.mono w1C.size);have m3:=(m2.setCell (p:=(⟨wr.heap.size,3,none⟩:Addr)) (Nat.le_refl _) (.slice (some ⟨sb2,so2,none⟩) sn sc2)).alloc (by have:=m2.size;simp [World.setCell];omega) (.cells (a05 x q (.slice (some ⟨sb2,so2,none⟩) sn sc2)).row 78 (0,0));have hl:=hcg.out (fun j=>if j=k then (.slice (some ⟨sb2,so2,none⟩) sn sc2) else cv j) (fun j hj=>if_neg (by omega));have hl2:=a4i hl m3;dsimp only) | (at_builtin;(refine a2d rfl _ _ rfl Tryz.underlying26 (b:=80) (z:=36) (by kernel_rfl) (by decide) (by decide) W.heap.size k _ _ rfl hl2 w2.heap.size 1 (a05 x q (.slice (some ⟨sb2,so2,none⟩) sn sc2)).row ?_ ?_ hr2 aZr (by omega) ?_ ?_);(first | rfl | skip);(exact a03 _ _ _ (by simp [World.setCell]));(have:=m3.size;omega);intro v' w' hown' hgrow') | go_skip | go_guarded | go_step | go_upon)
   have hwB:=hB.trans (m3.mono hB.size)
   have hk1:=hown'
   have hs3:=a96 hbw2 p0 (by decide) (fun y hy=>a1e w2 (⟨wr.heap.size,3,none⟩:Addr) (.slice (some ⟨sb2,so2,none⟩) sn sc2) y hy)
   have hs4:=a9q hl2 (hs3.below ((Below.refl _ _).alloc (Nat.le_refl _) (.cells (a05 x q (.slice (some ⟨sb2,so2,none⟩) sn sc2)).row 78 (0,0)))) (by decide) hgrow'
   refine ⟨⟨k+1,by omega,by go_num,⟨fun j=>if j=k then (.slice (some ⟨sb2,so2,none⟩) sn sc2) else cv j,?_,fun i hi=>?_⟩,hwB.grown hgrow' hwB.size (fun g hg=>a1u hl2 hg)⟩,by simp [intOf];omega⟩
   ·rw [a2z]
    have e:(a05 (ps.getD k (a0c,0)).1 (ps.getD k (a0c,0)).2 ((fun j=>if j=k then (.slice (some ⟨sb2,so2,none⟩) sn sc2) else cv j) k)).row=(a05 x q (.slice (some ⟨sb2,so2,none⟩) sn sc2)).row:=by simp only [HXQ.out,if_pos]
    rw [e]
    exact hk1
   ·by_cases hik:i=k
    ·subst hik
     dsimp only
     rw [if_pos rfl,HXQ.out]
     exact hs4.mono (Nat.zero_le _)
    ·dsimp only
     rw [if_neg hik]
     exact a9q hl2 ((HCV.out i (by omega)).below m3) (by decide) hgrow'
  ·have i1 : ¬ (k:Int) < (ps.length:Int):=by omega
   have hkn:k=ps.length:=by omega
   clear aBe
   repeat' (first | go_skip | go_guarded | go_step | go_upon)
   go_ret
   refine ⟨_,rfl,⟨cv,?_,fun i hi=>HCV.out i (by omega)⟩,hB⟩
   have:=HOWN.out
   rw [hkn] at this
   exact this
end Go.Proofs.YtlnlbdfokmhelaaGreatDoor
namespace Go.Proofs.YtlnlbdfokmhelaaGreatDoor
open Go.RowKit Go.CE.V
set_option maxRecDepth 20000
set_option maxHeartbeats 4000000
def ac8 (W:World) (u:Value) (p:List UInt8):Prop := ∃ b c T,u=.slice (some ⟨b,0,none⟩) p.length c∧obj W b=some (.cells (a0i p) T (0,0))∧T≠76
theorem ac8.below {W W':World} {u:Value} {p:List UInt8} (h:ac8 W u p) (hb:Below W.heap.size W W'):ac8 W' u p:=by
 obtain ⟨b,c,T,h1,h2,h3⟩:=h
 exact ⟨b,c,T,h1,a00 h2 hb (a04 h2),h3⟩
theorem ac8.hasB {W:World} {u:Value} {p:List UInt8} (h:ac8 W u p):acd W u p:=by
 obtain ⟨b,c,T,rfl,h2,h3⟩:=h
 exact ae8 rfl h2
theorem ac8.one {W:World} {u:Value} {p:List UInt8} (h:ac8 W u p):u.oneCell' = true:=by
 obtain ⟨b,c,T,rfl,h2,h3⟩:=h
 rfl
theorem ac8.grown {w w':World} {base:Nat} {v u:Value} {n:Nat} {xs:List Value} {p:List UInt8} (hown:w.ownsRow base 76 1 v n xs) (h:ac8 w u p) (hg:w.grownBy w' v.ownBlock):ac8 w' u p:=by
 obtain ⟨b,c,T,h1,h2,h3⟩:=h
 have h2':w.heap[b]? = some (.cells (a0i p) T (0,0)):=h2
 refine ⟨b,c,T,h1,a0w h2 hg fun e=>?_,h3⟩
 rcases hown.2 with ⟨rfl,_⟩ | ⟨q,c,cur,rfl,_,q2,_⟩
 ·cases e
 ·cases e
  rw [q2] at h2'
  injection h2' with q2
  injection q2 with _ q3 _
  exact h3 q3.symm
def a8x (B:Nat) (W:World) (v:Value) (ls:List (List UInt8)):Prop := ∃ rows:List Value,W.ownsRow B 76 1 v ls.length rows∧∀ i,i < ls.length→∃ u,rows[i]? = some u∧ac8 W u (ls.getD i [])
theorem a8x.below {B:Nat} {W W':World} {v:Value} {ls:List (List UInt8)} (h:a8x B W v ls) (hb:Below W.heap.size W W'):a8x B W' v ls:=by
 obtain ⟨rows,h1,h2⟩:=h
 exact ⟨rows,a4i h1 hb,fun i hi=>by
  obtain ⟨u,e,hu⟩:=h2 i hi
  exact ⟨u,e,hu.below hb⟩⟩
theorem ahh {B:Nat} {W W':World} {v v':Value} {ls:List (List UInt8)} {rows news:List Value} {ms:List (List UInt8)} (h1:W.ownsRow B 76 1 v ls.length rows) (h2:∀ i,i < ls.length→∃ u,rows[i]? = some u∧ac8 W u (ls.getD i [])) (hg:W.grownBy W' v.ownBlock)
  (hown:W'.ownsRow B 76 1 v' (ls.length+ms.length) (rows++news)) (hn:∀ i,i < ms.length→∃ u,news[i]? = some u∧ac8 W u (ms.getD i [])):a8x B W' v' (ls++ms):=by
 have hr:rows.length=ls.length:=by rw [h1.1];omega
 refine ⟨rows++news,by rw [List.length_append];exact hown,fun i hi=>?_⟩
 rw [List.length_append] at hi
 by_cases hc:i < ls.length
 ·obtain ⟨u,e,hu⟩:=h2 i hc
  refine ⟨u,by rw [List.getElem?_append_left (by omega)];exact e,?_⟩
  have:(ls++ms).getD i []=ls.getD i []:=by rw [List.getD_eq_getElem?_getD,List.getElem?_append_left hc,List.getD_eq_getElem?_getD]
  rw [this]
  exact hu.grown h1 hg
 ·obtain ⟨u,e,hu⟩:=hn (i - ls.length) (by omega)
  refine ⟨u,by rw [List.getElem?_append_right (by omega),hr];exact e,?_⟩
  have:(ls++ms).getD i []=ms.getD (i - ls.length) []:=by rw [List.getD_eq_getElem?_getD,List.getElem?_append_right (by omega),List.getD_eq_getElem?_getD]
  rw [this]
  exact hu.grown h1 hg
theorem a8x.rows {B:Nat} {W:World} {v:Value} {ls:List (List UInt8)} (h:a8x B W v ls) (hn:0 < ls.length) : ∃ g c cur,v=.slice (some ⟨g,0,none⟩) ls.length c∧obj W g=some (.cells cur 76 (0,0))∧∀ i,i < ls.length→∃ u,cur[i]? = some u∧ac8 W u (ls.getD i []):=by
 obtain ⟨rows,h1,h2⟩:=h
 rcases h1.2 with ⟨_,h0⟩ | ⟨g,c,cur,rfl,_,q2,q3,q4,q5,q6⟩
 ·omega
 ·refine ⟨g,c,cur,rfl,q2,fun i hi=>?_⟩
  obtain ⟨u,e,hu⟩:=h2 i hi
  rw [← q6,List.getElem?_take,if_pos (by omega)] at e
  exact ⟨u,by rw [← Array.getElem?_toList];exact e,hu⟩
theorem a8x.parts {B:Nat} {W:World} {v:Value} {ls:List (List UInt8)} (h:a8x B W v ls) (hn:0 < ls.length):PartsAt W v ls:=by
 obtain ⟨rows,h1,h2⟩:=h
 rcases h1.2 with ⟨_,h0⟩ | ⟨g,c,cur,rfl,_,q2,q3,q4,q5,q6⟩
 ·omega
 ·refine ⟨g,0,c,rfl,a04 (show obj W g=some _ from q2),fun k hk=>?_⟩
  obtain ⟨u,e,hu⟩:=h2 k hk
  obtain ⟨ao,n,c',rfl,r2,r3,r4⟩:=hu.hasB
  rw [aaz _ hk] at r2 r4
  refine ⟨ao,n,c',?_,r2,r3,r4⟩
  rw [Nat.zero_add,a01 (show obj W g=some _ from q2),← Array.getElem?_toList]
  rw [← q6,List.getElem?_take,if_pos (by omega)] at e
  exact e
def ajs (ls:List (List UInt8)):List (List UInt8):=ls.flatMap fun l=>[le8 l.length,l]
def agx (ls:List (List UInt8)):List UInt8:=a3t (ajs ls).flatten
theorem abx (ls:List (List UInt8)):(agx ls).length=32:=a13 _
theorem ajr (ls:List (List UInt8)):(ajs ls).length=2 * ls.length:=by
 induction ls with
 | nil=>rfl
 | cons a l ih=>simp only [ajs,List.flatMap_cons,List.length_append,List.length_cons,List.length_nil] at ih ⊢;omega
theorem azw (ls:List (List UInt8)) (k:Nat) (hk:k < ls.length):ajs (ls.take (k+1))=ajs (ls.take k) ++ [le8 (ls.getD k []).length,ls.getD k []]:=by
 rw [List.take_add_one,List.getElem?_eq_getElem hk,aaz _ hk]
 simp only [Option.toList_some,ajs,List.flatMap_append,List.flatMap_cons,List.flatMap_nil,List.append_nil]
theorem azx (ls:List (List UInt8)) (h:∀ i,i < ls.length→(ls.getD i []).length=32):(ajs ls).flatten.length=40 * ls.length:=by
 induction ls with
 | nil=>rfl
 | cons a l ih =>
  have h0:=h 0 (by simp)
  have:=ih fun i hi=>h (i+1) (by simpa using hi)
  simp only [ajs,List.flatMap_cons,List.flatten_append,List.length_append,List.length_cons] at this ⊢
  rw [this]
  simp [a2y]
  simp at h0
  omega
attribute [irreducible] agx
theorem amj {W:World} {B:Nat} {v:Value} {ls:List (List UInt8)} (hp:a8x B W v ls) (h32:∀ i,i < ls.length→(ls.getD i []).length=32) (hn:0 < ls.length) (hz:ls.length≤1000) (hT:Tab W) (h0w:0 < W.heap.size) :
  Calls Tryz.prog 126 #[v] W fun e W'=>e=.returned (.agg (a0i (agx ls)))∧Below W.heap.size W W':=by
 obtain ⟨i0,zv,hi,hz0,hz1,hz2,hzs⟩:=afo (P:=Tryz.prog) (e:=76) (sz:=1) (b:=24) (by kernel_rfl)
 obtain ⟨pg,pc,cur,rfl,aS4,hpv⟩:=hp.rows hn
 have HPV:=Lib.hid hpv
 have H32:=Lib.hid h32
 have HT:=Lib.hid hT
 clear hp hpv h32 hT
 have k0:obj (W.alloc (.cells z46 46 (0,0))) W.heap.size=some (.cells z46 46 (0,0)):=a03 _ _ _ rfl
 have kB:Below W.heap.size W (W.alloc (.cells z46 46 (0,0))):=(Below.refl _ _).alloc (Nat.le_refl _) _
 have kz:(W.alloc (.cells z46 46 (0,0))).heap.size=W.heap.size+1:=by simp
 go_enter Tryz.func126,Tryz.ntmps126
 repeat' (first | go_skip | go_guarded | go_step | go_upon)
 generalize W.alloc (.cells z46 46 (0,0))=w0 at *
 go_loopw [3,10] (fun s i wr => ∃ k:Nat,k≤ls.length∧i=.int .i64 k∧a8x (W.heap.size+1) wr s (ajs (ls.take k))∧obj wr W.heap.size=some (.cells z46 46 (0,0))∧Below W.heap.size W wr∧W.heap.size+1≤wr.heap.size) (fun _ i _=>(ls.length - intOf i).toNat)
 case atStart=>exact ⟨0,by omega,rfl,⟨[],World.ownsRow_nil _ _ _ _,fun i hi=>by simp [ajs] at hi⟩,k0,kB,by omega⟩
 case round =>
  obtain ⟨k,hk,rfl,hpo,h0,hB,hsz⟩:=hrel
  have HPO:=Lib.hid hpo
  clear hpo
  by_cases hlt:k < ls.length
  ·have i1:(k:Int) < (ls.length:Int):=by omega
   obtain ⟨u,hu1,hu2⟩:=HPV.out k hlt
   have c1:=(a01 (a00 aS4 hB (a04 aS4)) k).trans hu1
   obtain ⟨ub,uc,uT,rfl,hub,huT⟩:=hu2.below hB
   have hpl:=H32.out k hlt
   have HTK:=Lib.hid (azw ls k hlt)
   generalize hp:ls.getD k []=p at *
   clear hp
   have hpz:p.length≤1000:=by omega
   clear hpl
   generalize hN:p.length=N at *
   obtain ⟨w1,rfl⟩ : ∃ w1,w1=wr:=⟨wr,rfl⟩
   repeat' (first | go_skip | go_guarded | go_step | go_upon)
   go_loopw [14] (fun i wi => ∃ j:Nat,j≤8∧i=.int .i64 j∧obj wi w1.heap.size=some (.cells (a0i (leK N j)) 222 (0,0))∧Below w1.heap.size w1 wi) (fun i _=>(8 - intOf i).toNat)
   case atStart =>
    refine ⟨0,by omega,rfl,?_,(Below.refl _ _).alloc (Nat.le_refl _) _⟩
    rw [a03 _ _ _ rfl,ac3]
   case round =>
    obtain ⟨j,hj,rfl,h1,hBi⟩:=hrel
    have c:=a01 h1
    by_cases hjl:j < 8
    ·have c0:wr.cell? ⟨w1.heap.size,j,none⟩=some (B8 ((leK N j).getD j 0).toNat):=(c j).trans (a5f _ _ (by rw [aht _ _ hj];exact hjl))
     have f0:=a0t h1 j
     have HV:=Lib.hid (an0 N j)
     have HS:=Lib.hid (az1 N j hjl)
     have p0:0≤8 * (j:Int):=by omega
     have p1:8 * (j:Int)≤64:=by omega
     have n0:(8 * (j:Int)).toNat=8 * j:=by omega
     clear c
     repeat' (first | go_skip | go_guarded | go_step | go_upon)
     go_roundw
     case rel =>
      refine ⟨j+1,by omega,by go_num,?_,hBi.setCell (Nat.le_refl _) _⟩
      rw [a0l,h1,HV.out,← HS.out,← aa4];rfl
     case measure=>simp [intOf];omega
    ·have h1':obj wr w1.heap.size=some (.cells (a0i (le8 N)) 222 (0,0)):=by rw [h1,show j=8 by omega,arc]
     have hnj : ¬ (j:Int) < 8:=by omega
     obtain ⟨rows,ho,hpv2⟩:=HPO.out
     have hrl:rows.length=(ajs (ls.take k)).length:=by rw [ho.1];omega
     have mB:=hBi.alloc hBi.size (.cells #[.slice (some ⟨w1.heap.size,0,none⟩) 8 8,.slice (some ⟨ub,0,none⟩) N uc] 76 (0,0))
     have ho2:=a4i ho mB
     have hnews:∀ i u,([.slice (some ⟨w1.heap.size,0,none⟩) 8 8,.slice (some ⟨ub,0,none⟩) N uc]:List Value)[i]? = some u→(wr.alloc (.cells #[.slice (some ⟨w1.heap.size,0,none⟩) 8 8,.slice (some ⟨ub,0,none⟩) N uc] 76 (0,0))).cell? ((⟨wr.heap.size,0,none⟩:Addr).add i)=some u:=fun i u hu=>by
      rw [Addr.add_lit,a01 (a03 wr _ _ rfl),Nat.zero_add]
      rw [← hu]
      exact List.getElem?_toArray
     have hfl:(ajs (ls.take k)).length≤2000:=by rw [ajr,List.length_take];omega
     clear c h1
     generalize hF:(ajs (ls.take k)).length=F at *
     repeat' (first | (at_builtin;refine wpList_append_own _ rfl _ _ 173 rfl (W.heap.size+1) 76 i0 zv 1 24 Tryz.underlying173 hi hz0 hz1 hz2 hzs (by decide) _ F rows rfl ho2 ⟨wr.heap.size,0,none⟩ 2 2 [.slice (some ⟨w1.heap.size,0,none⟩) 8 8,.slice (some ⟨ub,0,none⟩) N uc] rfl rfl hnews (by intro u hu;simp only [List.mem_cons,List.not_mem_nil,or_false] at hu;rcases hu with rfl | rfl<;>rfl) (by unfold maxLen;omega) (by omega) (by have:=hBi.size;simp;omega) ?_;intro v' w' hown' hgrow' _) | go_skip | go_guarded | go_step | go_upon)
     have hmB:=hBi.size
     have hk0:=a02 (a00 h0 hBi (a04 h0)) (.cells #[.slice (some ⟨w1.heap.size,0,none⟩) 8 8,.slice (some ⟨ub,0,none⟩) N uc] 76 (0,0))
     have hu1':=a02 (a00 hub hBi (a04 hub)) (.cells #[.slice (some ⟨w1.heap.size,0,none⟩) 8 8,.slice (some ⟨ub,0,none⟩) N uc] 76 (0,0))
     have h8':=a02 h1' (.cells #[.slice (some ⟨w1.heap.size,0,none⟩) 8 8,.slice (some ⟨ub,0,none⟩) N uc] 76 (0,0))
     have hwB:=hB.trans (mB.mono hB.size)
     rw [← hF] at hown' ho2
     refine ⟨⟨k+1,by omega,by go_num,?_,a0w hk0 hgrow' (fun e=>?_),hwB.grown hgrow' hwB.size (fun g hg=>by have:=a1u ho2 hg;omega),?_⟩,by simp [intOf];omega⟩
     ·rw [HTK.out]
      refine ahh (ms:=[le8 N,p]) ho2 (fun i hi=>?_) hgrow' hown' fun i hi=>?_
      ·obtain ⟨u,e,hu⟩:=hpv2 i (by rw [← hF];exact hi)
       exact ⟨u,e,hu.below mB⟩
      ·have hi2:i=0∨i=1:=by simp at hi;omega
       rcases hi2 with rfl | rfl
       ·exact ⟨_,rfl,_,8,_,by rw [show ([le8 N,p].getD 0 [])=le8 N from rfl,a2y],h8',by decide⟩
       ·exact ⟨_,rfl,_,uc,_,by rw [show ([le8 N,p].getD 1 [])=p from rfl,hN],hu1',huT⟩
     ·have:=a1u ho2 e.symm;omega
     ·have:=hgrow'.size;simp at this;omega
  ·have i1 : ¬ (k:Int) < (ls.length:Int):=by omega
   have hkn:ls.take k=ls:=List.take_of_length_le (by omega)
   have hpa:PartsAt wr u3 (ajs ls):=by
    have:=HPO.out
    rw [hkn] at this
    exact this.parts (by rw [ajr];omega)
   have hfl:=azx ls H32.out
   have HH:=Lib.hid (a7x u3 (ajs ls) (by omega) (by rw [ajr];omega) wr hpa (HT.out.below hB h0w))
   rw [show a3t (ajs ls).flatten=agx ls by unfold agx;rfl] at HH
   have r1:(a0i (agx ls)).size=32:=by rw [a0o,abx]
   have r2:(a0i (agx ls)).extract 0 32=a0i (agx ls):=a2v _ _ (abx _)
   have r3:ones (a0i (agx ls))=true:=a1t _
   generalize hR:a0i (agx ls)=R at *
   have HRR:=Lib.hid hR
   clear hR
   clear hpa hfl hkn
   repeat' (first | (go_at_call 173;((with_reducible refine (HH.out).mono ?_));rintro r w2 ⟨rfl,hb2⟩;have h2:=a00 h0 hb2 (a04 h0);have hB2:=hB.trans (hb2.mono hB.size);dsimp only) | go_skip | go_guarded | go_step | go_upon)
   refine bodyPost_ret (results_cell_row rfl _ _ W.heap.size 46 R _ _ rfl (setRow_heap _ _ _ _ _ _ h2) Tryz.underlying46 rfl (by rw [r1];kernel_rfl)) rfl ?_
   exact ⟨by rw [HRR.out],below_setRow hB2 (Nat.le_refl _) _⟩
end Go.Proofs.YtlnlbdfokmhelaaGreatDoor
