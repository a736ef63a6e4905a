/-
  Maps of truth values that hold a list of numbers; a number sought in a slice.
-/
import Derived.Test.YtopgdlblfieljaaGreatDoorPkLet
import Derived.Test.YtopgdlblfieljaaGreatDoorPkRow
import Derived.Test.YtopgdlblfieljaaGreatDoorPkQ
import Derived.Maps.OwnOps
import Derived.Maps.OwnSet
import Derived.Maps.Views
import Derived.Test.YtopgdlblfieljaaGreatDoorPkTkq
import Derived.Test.YtopgdlblfieljaaGreatDoorPkTke
import Derived.Test.YtopgdlblfieljaaGreatDoorPkSm
set_option linter.unusedSectionVars false
set_option linter.constructorNameAsVariable false
set_option linter.unusedVariables false
set_option linter.unusedSimpArgs false
namespace Go.Proofs.YtopgdlblfieljaaGreatDoor
open Go.RowKit
open Go.Maps (Keyed)
theorem key_int:Keyed Tryz.prog 3:=Maps.int_keyed Tryz.underlying3
theorem keyInt (k:Int) (h0 : -1000000000000≤k) (h1:k≤1000000000000):keyOf Tryz.prog 3 (.int .i64 k)=some (.int .i64 k):=Maps.keyOf_int_mk Tryz.underlying3 (by
 have q1:IntKind.i64.min = -9223372036854775808:=rfl
 have q2:IntKind.i64.max=9223372036854775807:=rfl
 simp only [Lit.wf,q1,q2,Bool.and_eq_true,decide_eq_true_eq]
 omega)
theorem ownsMap_below {w w':World} {P:Program} {k:TypeId} {R:Value→Option (DataW Unit×List MemPlace)} {b n:Nat} {D:DataW Unit} {B:Nat} (h:w.ownsMap P k R b n D) (hB:Below B w w') (hb:b < B):w'.ownsMap P k R b n D:=by
 obtain ⟨es,clock,h1,h2⟩:=h
 exact ⟨es,clock,(hB.block b hb).trans h1,h2⟩
theorem zero_bool (w:World):(zeroValue 4).run Tryz.prog w=.ok (.bool false) w:=by kernel_rfl
theorem look_bool {H:Type} {P:Program} {w:World} {t k e:TypeId} {b n:Nat} {D:DataW H} (hown:w.ownsMap P k (plainElem P e) b n D) (K:Keyed P k) (ht:P.underlying t=some (.map k e)) (he:P.underlying e=some .bool) (hz:(zeroValue e).run P w=.ok (.bool false) w) {key:Value} {kl:Lit} (hkey:keyOf P k key=some kl) {c:Bool} (hat:D.atKey kl (.lit (.bool false))=.lit (.bool c)):(Instr.lookup t (.map (some b)) key false).run P w=.ok (.bool c) w:=by
 obtain ⟨v,ps,hrun,hv⟩:=hown.lookup K ht hz (plainElem_bool he false) hkey
 have hv':v=.bool c:=by
  unfold plainElem at hv
  rw [he] at hv
  cases v<;>simp only [Option.some.injEq,reduceCtorEq] at hv
  rename_i y
  rw [hat] at hv
  simp at hv
  rw [hv.1]
 rw [hrun,hv']
def MapB (W:World) (b n:Nat) (L:List Int):Prop := ∃ D:DataW Unit,W.ownsMap Tryz.prog 3 (plainElem Tryz.prog 4) b n D∧(∀ k:Int,D.atKey (.int .i64 k) (.lit (.bool false))=.lit (.bool (decide (k∈L))))∧(∀ k:Int,Maps.has D (.int .i64 k)=decide (k∈L))∧Maps.size D=L.length
theorem MapB.lt {W:World} {b n:Nat} {L:List Int} (h:MapB W b n L):b < W.heap.size:=by
 obtain ⟨D,h1,_⟩:=h
 exact h1.lt
theorem MapB.below {W W':World} {b n B:Nat} {L:List Int} (h:MapB W b n L) (hB:Below B W W') (hb:b < B):MapB W' b n L:=by
 obtain ⟨D,h1,h2⟩:=h
 exact ⟨D,ownsMap_below h1 hB hb,h2⟩
theorem MapB.keep {W W':World} {b n:Nat} {L:List Int} (h:MapB W b n L) (hB:Below W.heap.size W W'):MapB W' b n L:=h.below hB h.lt
theorem MapB.kept {W W':World} {b n x:Nat} {L:List Int} (h:MapB W b n L) (hg:W.grownBy W' (some x)) (hx:b≠x):MapB W' b n L:=by
 obtain ⟨D,h1,h2⟩:=h
 exact ⟨D,h1.kept hg (fun q=>hx (Option.some.inj q)),h2⟩
theorem MapB.mono {W:World} {b n m:Nat} {L:List Int} (h:MapB W b n L) (hn:n≤m):MapB W b m L:=by
 obtain ⟨D,h1,h2⟩:=h
 exact ⟨D,h1.mono hn,h2⟩
theorem MapB.made (W:World):MapB (W.alloc (.map #[] 0)) W.heap.size 0 []:=⟨_,World.ownsMap_made W _ _ _,fun k=>rfl,fun k=>rfl,rfl⟩
theorem mem_hear {L:List Int} {x k:Int}:k∈Tk.hear L x↔k∈L∨k=x:=by
 unfold Tk.hear
 split
 ·rename_i h
  have h':x∈L:=by simpa using h
  exact ⟨.inl,fun q=>q.elim id fun e=>e ▸ h'⟩
 ·simp
theorem MapB.put {w w':World} {b n:Nat} {L:List Int} {x:Int} {D:DataW Unit} (h1:w.ownsMap Tryz.prog 3 (plainElem Tryz.prog 4) b n D) (h2:∀ k:Int,D.atKey (.int .i64 k) (.lit (.bool false))=.lit (.bool (decide (k∈L)))) (h3:∀ k:Int,Maps.has D (.int .i64 k)=decide (k∈L)) (h4:Maps.size D=L.length)
  (hk:WideAt.IsKeyLit (.int .i64 x)) (h:w'.ownsMap Tryz.prog 3 (plainElem Tryz.prog 4) b (n+1) (D.put (.int .i64 x) (.lit (.bool true)))):MapB w' b (n+1) (Tk.hear L x):=by
 refine ⟨_,h,fun k=>?_,fun k=>?_,?_⟩
 ·by_cases e:k=x
  ·subst e
   rw [Maps.atKey_put_same h1.isMap hk]
   simp [mem_hear]
  ·rw [Maps.atKey_put_other (by intro q;exact e (by injection q)),h2]
   simp [mem_hear,e]
 ·by_cases e:k=x
  ·subst e
   rw [Maps.has_put_same h1.isMap hk]
   simp [mem_hear]
  ·rw [Maps.has_put_other (by intro q;exact e (by injection q)),h3]
   simp [mem_hear,e]
 ·rw [Maps.size_put (h1.tidy key_int),h3,h4]
  unfold Tk.hear
  by_cases e:x∈L
  ·simp [e]
  ·simp [e]
theorem wpList_put_bool {w:World} {ops:Array Oper} {rest:List Oper} {o:Oper} {a:Act} {Q:Exit→Act→World→Prop}
  (hg:o.guard=none) (m x v:Operand) (hop:o.op=Op.mapUpdate 81 m x v) {b n:Nat} {L:List Int} (hm:a.eval m=.map (some b)) (h:MapB w b n L) (hn:n < 1000) (k:Int) (h0:0≤k) (h1:k≤1000000000) (hx:a.eval x=.int .i64 k) (hv:a.eval v=.bool true)
  (hK:∀ w',MapB w' b (n+1) (Tk.hear L k)→w.grownBy w' (some b)→wpList Tryz.prog ops Q rest (a.put o.dst undef) w') :
  wpList Tryz.prog ops Q (o :: rest) a w:=by
 obtain ⟨D,e1,e2,e3,e4⟩:=h
 have hk:=keyInt k (by omega) (by omega)
 exact wpList_mapUpdate_own _ hg _ _ _ 81 hop 3 4 key_int Tryz.underlying81 _ b n D hm e1 (by unfold maxLen;omega) _ _ (.int .i64 k) hx hv hk (.lit (.bool true)) [] (plainElem_bool Tryz.underlying4 true) fun w' q1 q2=>hK w' (MapB.put e1 e2 e3 e4 trivial q1) q2
theorem wpList_get_bool {w:World} {ops:Array Oper} {rest:List Oper} {o:Oper} {a:Act} {Q:Exit→Act→World→Prop}
  (hg:o.guard=none) (m x:Operand) (hop:o.op=Op.lookup 81 m x false) {b n:Nat} {L:List Int} (hm:a.eval m=.map (some b)) (h:MapB w b n L) (k:Int) (h0:0≤k) (h1:k≤1000000000) (hx:a.eval x=.int .i64 k)
  (hK:wpList Tryz.prog ops Q rest (a.put o.dst (.bool (decide (k∈L)))) w) :
  wpList Tryz.prog ops Q (o :: rest) a w:=by
 obtain ⟨D,e1,e2,e3,e4⟩:=h
 have hkey:=keyInt k (by omega) (by omega)
 refine wpList_plain hg fun K' hK'=>?_
 have hrun:=look_bool e1 key_int Tryz.underlying81 Tryz.underlying4 (zero_bool w) hkey (e2 k)
 unfold Oper.wp
 simp [execOp,hop,hm,hx,hrun,Result.andThen]
 exact hK' _ _ hK
theorem MapB.len {w:World} {b n:Nat} {L:List Int} (h:MapB w b n L) (ty:TypeId):(Builtin.len_ #[81] ty #[.map (some b)]).run Tryz.prog w=.ok (.int .i64 L.length) w:=by
 obtain ⟨D,e1,e2,e3,e4⟩:=h
 rw [← e4]
 exact e1.len (Tryz.underlying81) ty
end Go.Proofs.YtopgdlblfieljaaGreatDoor
namespace Go.Proofs.YtopgdlblfieljaaGreatDoor
open Go.RowKit Go.CE.V
set_option maxRecDepth 20000
set_option maxHeartbeats 8000000
def LetsT (W:World) (v ov:Value) (xs:List LN):Prop := ∃ cv:Nat→Value,a5h W v 48 62 xs.length (fun i=>(LN.let (xs.getD i a0c) (cv i)).row)∧∀ i,i < xs.length→a0h 0 W (cv i) (xs.getD i a0c).cs∧(Apart (cv i) ov∨cv i=ov)
theorem LetsT.below {W W':World} {v ov:Value} {xs:List LN} (h:LetsT W v ov xs) (hb:Below W.heap.size W W'):LetsT W' v ov xs:=by
 obtain ⟨cv,h1,h2⟩:=h
 exact ⟨cv,h1.below hb,fun i hi=>⟨(h2 i hi).1.below hb,(h2 i hi).2⟩⟩
def LetB (x:LN):Prop:=x.Sz∧x.frm < 5∧x.st < 256
noncomputable def sayOf (l:List Nat) (me:Nat) (x:LN):Tk.Say:=⟨@decide (ansB l me x) (Classical.propDecidable _),x.frm,x.st⟩
noncomputable def tkT (l:List Nat) (me:Nat) (xs:List LN) (k:Nat):Tk.Tally:=Tk.tally .zero ((xs.take k).map (sayOf l me))
theorem tkT_succ (l:List Nat) (me:Nat) (xs:List LN) (k:Nat) (hk:k < xs.length):tkT l me xs (k+1)=(tkT l me xs k).step (sayOf l me (xs.getD k a0c)):=by
 unfold tkT
 rw [List.take_succ_eq_append_getElem hk,List.map_append,Tk.tally_append]
 rw [List.getD_eq_getElem?_getD,List.getElem?_eq_getElem hk]
 rfl
theorem sayOf_yes {l:List Nat} {me:Nat} {x:LN} (h:ansB l me x) (t:Tk.Tally):t.step (sayOf l me x)=⟨Tk.hear t.heard x.frm,t.s3||(x.st:Int) == 3,t.s4||(x.st:Int) == 4⟩:=by
 unfold Tk.Tally.step sayOf
 simp [h]
theorem sayOf_no {l:List Nat} {me:Nat} {x:LN} (h : ¬ ansB l me x) (t:Tk.Tally):t.step (sayOf l me x)=t:=by
 unfold Tk.Tally.step sayOf
 simp [h]
theorem said_yes {L:List Int} {b:Bool} {n k:Int} (h:decide (k∈L)=b):decide (k∈Tk.hear L n)=(b||n == k):=by
 rw [← h,Bool.eq_iff_iff,decide_eq_true_iff,mem_hear,Bool.or_eq_true,decide_eq_true_iff,beq_iff_eq]
 exact ⟨fun q=>q.imp id Eq.symm,fun q=>q.imp id Eq.symm⟩
theorem tverd5_calls {l:List Nat} (hl:l∈tLs) {me:Nat} (hm:me∈l) {W:World} {ov v:Value} {xs:List LN} (hn:xs.length≤8) (hx:∀ i,i < xs.length→LetB (xs.getD i a0c)) (hT:ase W) (hv:a0h 0 W ov l) (hL:LetsT W v ov xs) :
  Calls Tryz.prog 14 #[.agg (ownRow me 4 0 90 5 ov (.slice none 0 0)),v] W fun e W'=>e=.returned (.int .i64 ((tkT l me xs xs.length).out (l.length - 1)))∧Below W.heap.size W W':=by
 obtain ⟨cv,⟨a,c,rfl,hrow⟩,hcv⟩:=hL
 have aBe:=Lib.hid hrow
 have HCV:=Lib.hid hcv
 have HX:=Lib.hid hx
 have HT:=Lib.hid hT
 have HV:=Lib.hid hv
 have hl1:2≤l.length∧l.length≤4:=(by decide:∀ l∈tLs,2≤l.length∧l.length≤4) l hl
 obtain ⟨cb,co,cc,crow,hov,_⟩:=as9 hv (tLs_ne hl)
 subst hov
 clear hrow hcv hx hT hv
 have po:=a1y me 4 0 90 5 (a0v HV.out) (show (Value.slice none 0 0).oneCell' = true from rfl)
 have b2:obj (W.alloc (.cells (ownRow me 4 0 90 5 (.slice (some ⟨cb,co,none⟩) l.length cc) (.slice none 0 0)) 28 (0,0))) W.heap.size=some (.cells (ownRow me 4 0 90 5 (.slice (some ⟨cb,co,none⟩) l.length cc) (.slice none 0 0)) 28 (0,0)):=a03 _ _ _ rfl
 have w1B:Below W.heap.size W (W.alloc (.cells (ownRow me 4 0 90 5 (.slice (some ⟨cb,co,none⟩) l.length cc) (.slice none 0 0)) 28 (0,0))):=(Below.refl _ _).alloc (Nat.le_refl _) _
 have HVC:=Lib.hid (tvalid_calls hl hm (show 5∈phs from by decide) (HV.out.below w1B))
 have hmm:=@run_makeMap Tryz.prog
 go_enter Tryz.func14,Tryz.ntmps14
 repeat' (first | (go_at_call 24;((with_reducible refine (HVC.out).mono ?_));rintro e w2 ⟨rfl,hb2⟩;have b22:=a1w b2 hb2;have c42:=(a01 b22 4).trans (a4v _ _ _ _ _ _ _);have w2B:=w1B.trans (hb2.mono w1B.size);dsimp only) | go_skip | go_guarded | go_step | go_upon)
 have hM1:MapB ((w2.alloc (.map #[] 0)).alloc (.map #[] 0)) w2.heap.size 0 []:=(MapB.made w2).below ((Below.refl _ _).alloc (Nat.le_refl _) _) (by simp)
 have hM2:MapB ((w2.alloc (.map #[] 0)).alloc (.map #[] 0)) (w2.heap.size+1) 0 []:=by
  have:=MapB.made (w2.alloc (.map #[] 0))
  simpa using this
 have hB3:Below W.heap.size W ((w2.alloc (.map #[] 0)).alloc (.map #[] 0)):=(w2B.alloc w2B.size _).alloc (by have:=w2B.size;simp;omega) _
 have b23:obj ((w2.alloc (.map #[] 0)).alloc (.map #[] 0)) W.heap.size=some (.cells (ownRow me 4 0 90 5 (.slice (some ⟨cb,co,none⟩) l.length cc) (.slice none 0 0)) 28 (0,0)):=a02 (a02 b22 _) _
 have lm:=a04 b22
 clear b2 w1B HVC hmm hb2 b22 c42 w2B
 generalize ((w2.alloc (.map #[] 0)).alloc (.map #[] 0))=w3 at *
 generalize w2.heap.size=m1 at *
 go_loopw [35] (fun i wr => ∃ k:Nat,k≤xs.length∧i=.int .i64 k∧obj wr W.heap.size=some (.cells (ownRow me 4 0 90 5 (.slice (some ⟨cb,co,none⟩) l.length cc) (.slice none 0 0)) 28 (0,0))∧Below W.heap.size W wr∧MapB wr m1 k (tkT l me xs k).heard∧∃ L2,MapB wr (m1+1) k L2∧decide ((3:Int)∈L2)=(tkT l me xs k).s3∧decide ((4:Int)∈L2)=(tkT l me xs k).s4) (fun i _=>(xs.length - intOf i).toNat)
 case atStart=>exact ⟨0,by omega,rfl,b23,hB3,hM1,[],hM2,rfl,rfl⟩
 case round =>
  clear b23 hB3 hM1 hM2
  obtain ⟨k,hk,rfl,b2,hB,hM1,L2,hM2,d3,d4⟩:=hrel
  by_cases hlt:k < xs.length
  ·have i1:(k:Int) < (xs.length:Int):=by omega
   obtain ⟨b,o,row,rfl,hb1,hb2⟩:=aBe.out (by omega)
   obtain ⟨z0,k2⟩:=hb2 k hlt
   have z1:(o+k * 62+62≤row.size)=True:=eq_true z0
   have hbw:=a00 hb1 hB (a04 hb1)
   obtain ⟨hsz,hf5,hst⟩:=HX.out k hlt
   obtain ⟨hcl,hap⟩:=HCV.out k hlt
   dsimp only at k2
   clear hb2 z0 hb1
   have htk:=Lib.hid (tkT_succ l me xs k hlt)
   generalize xs.getD k a0c=x at *
   generalize cv k=vx at *
   generalize tkT l me xs k=T at *
   have lz:=a0e (LN.let x vx) hsz.ref
   have la:=a15 (LN.let x vx) hsz.ref
   have lo:=a0y (LN.let x vx) (a0v hcl)
   have HCF:=Lib.hid (show ∀ W' g,obj W' g=some (.cells (LN.let x vx).row 48 (0,0))→W'.cell? ⟨g,1,none⟩=some (.int .i64 x.frm)∧W'.cell? ⟨g,25,none⟩=some (.int .i64 x.st) from fun W' g h=>⟨(a01 h 1).trans (by rw [CE.V.a1i];rfl),(a01 h 25).trans (by rw [CE.V.a1i];rfl)⟩)
   have w4B:Below W.heap.size W (wr.alloc (.cells (LN.let x vx).row 48 (0,0))):=hB.alloc hB.size _
   have w4C:Below wr.heap.size wr (wr.alloc (.cells (LN.let x vx).row 48 (0,0))):=(Below.refl _ _).alloc (Nat.le_refl _) _
   have HA:=Lib.hid (tans_calls hl hm (show 5∈phs from by decide) hsz hf5 (HT.out.below w4B) (HV.out.below w4B) (hcl.below w4B))
   generalize hxr:(LN.let x vx).row=XR at *
   have b24:=a02 b2 (.cells XR 48 (0,0))
   have x4:obj (wr.alloc (.cells XR 48 (0,0))) wr.heap.size=some (.cells XR 48 (0,0)):=a03 _ _ _ rfl
   have hM14:=hM1.keep w4C
   have hM24:=hM2.keep w4C
   have hlm:=hM2.lt
   clear hM1 hM2 hxr
   by_cases ha:ansB l me x
   ·have HY:=Lib.hid ha
    have HY2:=Lib.hid (sayOf_yes ha T)
    clear ha
    repeat' (first | (go_at_call 40;((with_reducible refine (HA.out).mono ?_));rintro e w5 ⟨hy,_,hb5⟩;have hy2:=hy HY.out;clear hy;subst hy2;have x5:=a1w x4 hb5;have cF5:=(HCF.out _ _ x5).1;have hM15:=hM14.keep hb5;have hM25:=hM24.keep hb5;have b25:=a1w b24 hb5;have w5B:=w4B.trans (hb5.mono w4B.size);dsimp only) | ((with_reducible refine wpList_put_bool rfl _ _ _ rfl ?_ hM15 (by omega) (x.frm:Int) (by omega) (by omega) ?_ ?_ ?_);(first | rfl | skip);rfl;rfl;intro w6 hM16 hg6;have hM26:=hM25.kept hg6 (by omega);have x6:=(hg6.block _ (a04 x5) (fun q=>by have:=Option.some.inj q;omega)).trans x5;have cS6:=(HCF.out _ _ x6).2) | ((with_reducible refine wpList_put_bool rfl _ _ _ rfl ?_ hM26 (by omega) (x.st:Int) (by omega) (by omega) ?_ ?_ ?_);(first | rfl | skip);rfl;rfl;intro w7 hM27 hg7;have hM17:=hM16.kept hg7 (by omega)) | go_skip | go_guarded | go_step | go_upon)
    have w7B:=(w5B.grown hg6 w5B.size (fun g q=>by cases q;omega))
    have w8B:=w7B.grown hg7 w7B.size (fun g q=>by cases q;omega)
    have b26:=(hg6.block _ (a04 b25) (fun q=>by have:=Option.some.inj q;omega)).trans b25
    have b27:=(hg7.block _ (a04 (show obj w6 _=some _ from b26)) (fun q=>by have:=Option.some.inj q;omega)).trans b26
    refine ⟨⟨k+1,by omega,by go_num,b27,w8B,?_,_,hM27,?_,?_⟩,by simp [intOf];omega⟩
    ·rw [htk.out,HY2.out];exact hM17
    ·rw [htk.out,HY2.out];exact said_yes d3
    ·rw [htk.out,HY2.out];exact said_yes d4
   ·have HY:=Lib.hid ha
    have HY2:=Lib.hid (sayOf_no ha T)
    clear ha
    repeat' (first | (go_at_call 40;((with_reducible refine (HA.out).mono ?_));rintro e w5 ⟨_,hy,hb5⟩;have hy2:=hy HY.out;clear hy;subst hy2;have hM15:=hM14.keep hb5;have hM25:=hM24.keep hb5;have b25:=a1w b24 hb5;have w5B:=w4B.trans (hb5.mono w4B.size);dsimp only) | go_skip | go_guarded | go_step | go_upon)
    refine ⟨⟨k+1,by omega,by go_num,b25,w5B,?_,_,hM25.mono (by omega),?_,?_⟩,by simp [intOf];omega⟩
    ·rw [htk.out,HY2.out];exact hM15.mono (by omega)
    ·rw [htk.out,HY2.out];exact d3
    ·rw [htk.out,HY2.out];exact d4
  ·have i1 : ¬ (k:Int) < (xs.length:Int):=by omega
   obtain rfl:k=xs.length:=by omega
   have HH:=Lib.hid (show (tkT l me xs xs.length).out (l.length - 1)=if (tkT l me xs xs.length).s3 then 1 else if (tkT l me xs xs.length).s4||(tkT l me xs xs.length).heard.length == l.length - 1 then 2 else 0 from rfl)
   generalize hT0:tkT l me xs xs.length=T at *
   have HT0:=Lib.hid hT0
   clear hT0
   have hlen:=hM1.len 3
   have c5:=(a01 b2 5).trans (aoj _ _ _ _ _ _ _)
   have wr1:IntKind.wrap .i64 ((l.length:Int) - 1)=(l.length:Int) - 1:=by rw [IntKind.wrap_i64];omega
   cases h3:T.s3 with
   | true =>
    rw [h3] at HH d3
    repeat' (first | ((with_reducible refine wpList_get_bool rfl _ _ rfl ?_ hM2 3 (by decide) (by decide) ?_ ?_);(first | rfl | skip);rfl;rw [d3]) | go_skip | go_guarded | go_step | go_upon)
    go_ret
    exact ⟨by rw [HT0.out,HH.out];rfl,hB⟩
   | false =>
    rw [h3] at HH d3
    cases h4:T.s4 with
    | true =>
     rw [h4] at HH d4
     repeat' (first | ((with_reducible refine wpList_get_bool rfl _ _ rfl ?_ hM2 3 (by decide) (by decide) ?_ ?_);(first | rfl | skip);rfl;rw [d3]) | ((with_reducible refine wpList_get_bool rfl _ _ rfl ?_ hM2 4 (by decide) (by decide) ?_ ?_);(first | rfl | skip);rfl;rw [d4]) | go_skip | go_guarded | go_step | go_upon)
     go_ret
     exact ⟨by rw [HT0.out,HH.out];rfl,hB⟩
    | false =>
     rw [h4] at HH d4
     by_cases h5:T.heard.length=l.length - 1
     ·have e5:((T.heard.length:Int) == (l.length:Int) - 1)=true:=by rw [beq_iff_eq];omega
      have HE:=Lib.hid h5
      clear h5
      repeat' (first | ((with_reducible refine wpList_get_bool rfl _ _ rfl ?_ hM2 3 (by decide) (by decide) ?_ ?_);(first | rfl | skip);rfl;rw [d3]) | ((with_reducible refine wpList_get_bool rfl _ _ rfl ?_ hM2 4 (by decide) (by decide) ?_ ?_);(first | rfl | skip);rfl;rw [d4]) | go_skip | go_guarded | go_step | go_upon)
      go_ret
      exact ⟨by rw [HT0.out,HH.out,HE.out];simp,hB⟩
     ·have e5:((T.heard.length:Int) == (l.length:Int) - 1)=false:=by rw [beq_eq_false_iff_ne];omega
      have HE:=Lib.hid h5
      clear h5
      repeat' (first | ((with_reducible refine wpList_get_bool rfl _ _ rfl ?_ hM2 3 (by decide) (by decide) ?_ ?_);(first | rfl | skip);rfl;rw [d3]) | ((with_reducible refine wpList_get_bool rfl _ _ rfl ?_ hM2 4 (by decide) (by decide) ?_ ?_);(first | rfl | skip);rfl;rw [d4]) | go_skip | go_guarded | go_step | go_upon)
      go_ret
      exact ⟨by rw [HT0.out,HH.out];simp [HE.out],hB⟩
end Go.Proofs.YtopgdlblfieljaaGreatDoor
