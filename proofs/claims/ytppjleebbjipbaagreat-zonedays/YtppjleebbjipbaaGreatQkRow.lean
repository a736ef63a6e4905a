/-
  Laws of the walk for aggregates whose cells are not written out: a load, a store of a whole struct or array, as one step, by the block that it lies in.
-/
import Derived.WalkKit
import Derived.WalkSpells
import Derived.WalkLawsBesides
import Derived.Handy
import Derived.Lib.Hide
import Derived.Laws.CopyOwn
import Derived.Deep.MidRow
import Derived.Test.YtppjleebbjipbaaGreatProg
import Derived.Deep.QuietTactic
import Derived.BigQuiet
import Derived.BigRegion
import Derived.StillTailTactics
import Derived.RegionTactic
import Derived.LoopTactic
import Derived.OwnWalk
import Derived.Deep.AppendLies
import Derived.Deep.AppendSrc
set_option linter.all false
theorem zA:type_of% @Go.Lib.hid:=@Go.Lib.hid
theorem zB.{u}:type_of% @List.getD_eq_getElem?_getD.{u}:=@List.getD_eq_getElem?_getD.{u}
theorem zC:type_of% @Go.RowKit.Below.refl:=@Go.RowKit.Below.refl
theorem zD:type_of% @Nat.le_refl:=@Nat.le_refl
theorem zF.{u}:type_of% @List.setIfInBounds_toArray.{u}:=@List.setIfInBounds_toArray.{u}
theorem zG.{u}:type_of% @List.getD_cons_zero.{u}:=@List.getD_cons_zero.{u}
theorem zH.{u}:type_of% @List.getD_cons_succ.{u}:=@List.getD_cons_succ.{u}
theorem zI.{u}:type_of% @List.set_cons_succ.{u}:=@List.set_cons_succ.{u}
theorem zJ.{u}:type_of% @List.set_cons_zero.{u}:=@List.set_cons_zero.{u}
theorem zK.{u}:type_of% @List.getElem?_eq_getElem.{u}:=@List.getElem?_eq_getElem.{u}
theorem zL.{u}:type_of% @Array.getElem?_eq_some_iff.{u}:=@Array.getElem?_eq_some_iff.{u}
theorem zM:type_of% @decide_eq_true_eq:=@decide_eq_true_eq
theorem zN:type_of% @Bool.and_eq_true:=@Bool.and_eq_true
theorem zO:type_of% @Go.heap_setCell_other:=@Go.heap_setCell_other
theorem zQ.{u}:type_of% @if_pos.{u}:=@if_pos.{u}
theorem zS.{u}:type_of% @if_neg.{u}:=@if_neg.{u}
theorem zT.{u}:type_of% @Array.getElem?_eq_getElem.{u}:=@Array.getElem?_eq_getElem.{u}
theorem zU:type_of% @Nat.lt_or_ge:=@Nat.lt_or_ge
theorem zV:type_of% @decide_eq_true:=@decide_eq_true
theorem zW:type_of% @decide_eq_false:=@decide_eq_false
theorem zX.{u}:type_of% @List.length_append.{u}:=@List.length_append.{u}
theorem zY.{u}:type_of% @List.mem_iff_getElem.{u}:=@List.mem_iff_getElem.{u}
theorem zZ:type_of% @List.mem_range:=@List.mem_range
theorem yA:type_of% @Nat.not_lt_zero:=@Nat.not_lt_zero
theorem yB.{u}:type_of% @Array.getD_eq_getD_getElem?.{u}:=@Array.getD_eq_getD_getElem?.{u}
theorem yC:type_of% @Go.getD_replicate_false:=@Go.getD_replicate_false
theorem yD.{u}:type_of% @List.mem_singleton.{u}:=@List.mem_singleton.{u}
theorem yE:type_of% @Int.tmod_eq_emod_of_nonneg:=@Int.tmod_eq_emod_of_nonneg
theorem yF:type_of% @Go.ownsRow_setCell_other:=@Go.ownsRow_setCell_other
theorem yG:type_of% @Nat.le_trans:=@Nat.le_trans
theorem yH.{u}:type_of% @List.length_eq_zero_iff.{u}:=@List.length_eq_zero_iff.{u}
theorem yI:type_of% @Nat.zero_add:=@Nat.zero_add
theorem yJ.{u}:type_of% @List.mem_append.{u}:=@List.mem_append.{u}
theorem yK.{u}:type_of% @List.all_eq_true.{u}:=@List.all_eq_true.{u}
theorem yL:type_of% @and_true:=@and_true
theorem yM:type_of% @Nat.eq_zero_or_pos:=@Nat.eq_zero_or_pos
theorem yN.{u}:type_of% @List.mem_cons.{u}:=@List.mem_cons.{u}
theorem yO:type_of% @Go.bodyPost_ret:=@Go.bodyPost_ret
theorem yP:type_of% @Int.mul_le_mul_of_nonneg_right:=@Int.mul_le_mul_of_nonneg_right
theorem yQ:type_of% @Bool.or_eq_true:=@Bool.or_eq_true
theorem yR:type_of% @Int.le_refl:=@Int.le_refl
theorem yS.{u}:type_of% @List.length_cons.{u}:=@List.length_cons.{u}
theorem yT.{u}:type_of% @List.getElem_mem.{u}:=@List.getElem_mem.{u}
theorem yU.{u}:type_of% @Array.getElem?_toList.{u}:=@Array.getElem?_toList.{u}
theorem yV.{u}:type_of% @List.mem_cons_self.{u}:=@List.mem_cons_self.{u}
theorem yX:type_of% @Go.below_setRow:=@Go.below_setRow
theorem yY.{u}:type_of% @List.mem_cons_of_mem.{u}:=@List.mem_cons_of_mem.{u}
theorem yZ.{u}:type_of% @List.getElem?_append_right.{u}:=@List.getElem?_append_right.{u}
theorem xA:type_of% @Int.tdiv_eq_ediv_of_nonneg:=@Int.tdiv_eq_ediv_of_nonneg
theorem xB:type_of% @Go.setRow_heap:=@Go.setRow_heap
theorem xC.{u,v}:type_of% @List.getElem?_map.{u,v}:=@List.getElem?_map.{u,v}
theorem xE.{u}:type_of% @List.not_mem_nil.{u}:=@List.not_mem_nil.{u}
theorem xF.{u}:type_of% @List.getElem?_append_left.{u}:=@List.getElem?_append_left.{u}
theorem xG:type_of% @Nat.zero_le:=@Nat.zero_le
theorem xH.{u}:type_of% @Array.getElem?_append_left.{u}:=@Array.getElem?_append_left.{u}
theorem xI.{u}:type_of% @List.length_nil.{u}:=@List.length_nil.{u}
theorem xJ.{u}:type_of% @List.size_toArray.{u}:=@List.size_toArray.{u}
theorem xK.{u}:type_of% @List.cons_append.{u}:=@List.cons_append.{u}
theorem xM.{u}:type_of% @Array.getElem?_setIfInBounds_self.{u}:=@Array.getElem?_setIfInBounds_self.{u}
theorem xN:type_of% @eq_true:=@eq_true
theorem xO.{u}:type_of% @Option.some.inj.{u}:=@Option.some.inj.{u}
theorem xP:type_of% @Nat.lt_of_lt_of_le:=@Nat.lt_of_lt_of_le
theorem xQ.{u}:type_of% @List.getElem?_take.{u}:=@List.getElem?_take.{u}
theorem xR.{u}:type_of% @Array.getElem?_modify.{u}:=@Array.getElem?_modify.{u}
theorem xU:type_of% @Nat.lt_succ_self:=@Nat.lt_succ_self
theorem xW:type_of% @List.nodup_range:=@List.nodup_range
theorem xX:type_of% @Int.mul_nonneg:=@Int.mul_nonneg
theorem xY.{u}:type_of% @Array.replicate_zero.{u}:=@Array.replicate_zero.{u}
theorem xZ.{u}:type_of% @Array.replicate_succ.{u}:=@Array.replicate_succ.{u}
theorem wC.{u}:type_of% @List.filter_eq_self.{u}:=@List.filter_eq_self.{u}
theorem wE.{u}:type_of% @List.append_toArray.{u}:=@List.append_toArray.{u}
theorem wF:type_of% @Int.le_of_lt:=@Int.le_of_lt
theorem wG.{u}:type_of% @Array.getElem?_extract.{u}:=@Array.getElem?_extract.{u}
theorem wH.{u}:type_of% @List.pairwise_iff_getElem.{u}:=@List.pairwise_iff_getElem.{u}
theorem wI:type_of% @Int.add_mul:=@Int.add_mul
theorem wJ:type_of% @Nat.mod_lt:=@Nat.mod_lt
theorem wK.{u}:type_of% @List.push_toArray.{u}:=@List.push_toArray.{u}
theorem wL:type_of% @Nat.lt_or_eq_of_le:=@Nat.lt_or_eq_of_le
theorem wM.{u}:type_of% @List.pairwise_cons.{u}:=@List.pairwise_cons.{u}
theorem wO.{u}:type_of% @List.nil_append.{u}:=@List.nil_append.{u}
theorem wP:type_of% @Int.emod_nonneg:=@Int.emod_nonneg
theorem wQ.{u}:type_of% @Array.ext_getElem?.{u}:=@Array.ext_getElem?.{u}
theorem wR.{u}:type_of% @List.length_take.{u}:=@List.length_take.{u}
theorem wS.{u}:type_of% @Array.all_eq_true_iff_forall_mem.{u}:=@Array.all_eq_true_iff_forall_mem.{u}
theorem wU:type_of% @Go.Oper.semAt_some:=@Go.Oper.semAt_some
theorem wV:type_of% @of_decide_eq_true:=@of_decide_eq_true
theorem wW:type_of% @Go.callsIn_wide:=@Go.callsIn_wide
theorem wX.{u}:type_of% @bne_iff_ne.{u}:=@bne_iff_ne.{u}
theorem wY.{u}:type_of% @List.take_length.{u}:=@List.take_length.{u}
theorem wZ:type_of% @Go.setRow_other:=@Go.setRow_other
theorem vC:type_of% @Nat.sub_self:=@Nat.sub_self
theorem vF:type_of% @Bool.not_eq_true':=@Bool.not_eq_true'
theorem vG.{u}:type_of% @beq_eq_false_iff_ne.{u}:=@beq_eq_false_iff_ne.{u}
theorem vH.{u}:type_of% @Array.getElem!_eq_getD.{u}:=@Array.getElem!_eq_getD.{u}
theorem vI:type_of% @Go.IntKind.wrap_u8:=@Go.IntKind.wrap_u8
theorem vJ:type_of% @Int.emod_lt_of_pos:=@Int.emod_lt_of_pos
theorem vK.{u}:type_of% @List.getElem?_eq_some_iff.{u}:=@List.getElem?_eq_some_iff.{u}
theorem vM:type_of% @List.range_eq_range':=@List.range_eq_range'
theorem vN:type_of% @Go.mem_ready:=@Go.mem_ready
theorem vO:type_of% @Nat.lt_trichotomy:=@Nat.lt_trichotomy
theorem vP.{u}:type_of% @List.length_erase_of_mem.{u}:=@List.length_erase_of_mem.{u}
theorem vS:type_of% @Go.run_underlying:=@Go.run_underlying
theorem vT:type_of% @Go.heap_alloc_old:=@Go.heap_alloc_old
theorem vU.{u}:type_of% @Option.getD_some.{u}:=@Option.getD_some.{u}
theorem vV:type_of% @Go.Sem.run_bind:=@Go.Sem.run_bind
theorem vW:type_of% @Go.Calls.quiet_of_same:=@Go.Calls.quiet_of_same
theorem vX:type_of% @Go.getD_both:=@Go.getD_both
theorem vY:type_of% @Nat.div_le_self:=@Nat.div_le_self
theorem vZ.{u}:type_of% @List.mem_of_mem_erase.{u}:=@List.mem_of_mem_erase.{u}
theorem uA.{u}:type_of% @List.append_nil.{u}:=@List.append_nil.{u}
theorem uB:type_of% @Nat.lt_irrefl:=@Nat.lt_irrefl
theorem uC.{u}:type_of% @List.drop_eq_getElem_cons.{u}:=@List.drop_eq_getElem_cons.{u}
theorem uD:type_of% @Go.wpList_append_own:=@Go.wpList_append_own
theorem uF:type_of% @Int.one_mul:=@Int.one_mul
theorem uG:type_of% @Nat.add_zero:=@Nat.add_zero
theorem uH:type_of% @Int.lt_or_le:=@Int.lt_or_le
theorem uI:type_of% @decide_eq_false_iff_not:=@decide_eq_false_iff_not
theorem uJ.{u}:type_of% @List.mem_filter.{u}:=@List.mem_filter.{u}
theorem uK.{u}:type_of% @List.length_set.{u}:=@List.length_set.{u}
theorem uM.{u,v}:type_of% @List.length_map.{u,v}:=@List.length_map.{u,v}
theorem uN.{u}:type_of% @List.getElem?_drop.{u}:=@List.getElem?_drop.{u}
theorem uO.{u}:type_of% @List.filter_append.{u}:=@List.filter_append.{u}
namespace Go.Proofs.YtppjleebbjipbaaGreat
open Go.RowKit
instance ivc:Coe Int Value:=⟨.int .i64⟩
instance nvc:Coe Nat Value:=⟨fun k=>.int .i64 (k:Int)⟩
theorem bR {n:Nat} {w:World}:Below n w w:=Below.refl _ _
instance wsz:Coe World Nat:=⟨fun w=>w.heap.size⟩
theorem zWI (n:Int) (h:-9223372036854775808≤n∧n≤9223372036854775807:=by omega):IntKind.wrap .i64 n=n:=by rw [IntKind.wrap_i64];omega

def obj (w:World) (n:Nat):Option Obj:=w.heap[n]?
def ones (cs:Array Value):Bool:=cs.all (·.oneCell')
@[go_sem] theorem apu:ones #[]=true:=by simp [ones]
@[go_sem] theorem aob (v:Value) (l:List Value):ones (v :: l).toArray=(v.oneCell' && ones l.toArray):=by simp [ones]
@[go_sem] theorem a0n (k:IntKind) (n:Int):(Value.int k n).oneCell' = true:=rfl
@[go_sem] theorem apw (b:Bool):(Value.bool b).oneCell' = true:=rfl
@[go_sem] theorem aqn (a:Option Addr):(Value.pointer a).oneCell' = true:=rfl
@[go_sem] theorem aoc (a:Option Addr) (n c:Nat):(Value.slice a n c).oneCell' = true:=rfl
@[go_sem] theorem ani (s:ByteArray):(Value.string s).oneCell' = true:=rfl
@[go_sem] theorem apv (f:Fn) (a b:Array Value):(Value.func f a b).oneCell' = true:=rfl
@[go_sem] theorem amd:Value.nilFunc.oneCell' = true:=rfl
@[go_sem] theorem aqo (r:Option Nat):(Value.map r).oneCell' = true:=rfl
def cellsOf:Option Obj→Option (Array Value)
 | some (.cells cs _ _)=>some cs
 | _=>none
@[go_sem] theorem al1 (cs:Array Value) (T:TypeId) (fr:Nat×Nat):cellsOf (some (.cells cs T fr))=some cs:=rfl
def aft:Option Obj→Option (Array Value)
 | some (.cells cs _ (0,0))=>some cs
 | _=>none
@[go_sem] theorem alm (cs:Array Value) (T:TypeId):aft (some (.cells cs T (0,0)))=some cs:=rfl

def a0j (T:TypeId) (v:Value):Sem Value:=Instr.loadAt T v
def a0e (T:TypeId) (a x:Value):Sem Unit:=Instr.storeAt T a x
def a3d (T:TypeId) (h:Bool) (old:Value):Sem Value:=Instr.alloc T h old
def aa5 (P:Program) (T:TypeId) (v:Value) (w:World):Result Value:=(Instr.loadAt T v).run P w
def a7v (P:Program) (T:TypeId) (a x:Value) (w:World):Result Unit:=(Instr.storeAt T a x).run P w
section
variable {P:Program}
def loadRow (P:Program) (T n:Nat) (v:Value) (w:World):Result Value :=
 match v with
 | .pointer (some ⟨g,o,none⟩) =>
  (cellsOf (obj w g)).elim (aa5 P T v w) fun cs=>if o+n≤cs.size then .ok (.agg (cs.extract o (o+n))) w else aa5 P T v w
 | v=>aa5 P T v w
@[go_sem] theorem amg (T n g o:Nat) (w:World):loadRow P T n (.pointer (some ⟨g,o,none⟩)) w =
 (cellsOf (obj w g)).elim (aa5 P T (.pointer (some ⟨g,o,none⟩)) w) fun cs=>if o+n≤cs.size then .ok (.agg (cs.extract o (o+n))) w else aa5 P T (.pointer (some ⟨g,o,none⟩)) w:=rfl
theorem a0h (T:TypeId) (n:Nat) (v:Value) (w:World) (td:TypeDesc)
  (hu:P.underlying T=some td) (hd:td.isRow=true) (hi:(P.info? T).map (·.size)=some n) :
  (a0j T v).run P w=loadRow P T n v w:=by
 unfold a0j loadRow
 split
 ·rename_i g o
  rcases hb:obj w g with _ | ob
  ·rfl
  cases ob with
  | cells cs T' fr =>
   simp only [cellsOf,Option.elim_some];split
   ·rename_i hle
    have hl:(cs.toList.extract o (o+n)).length=n:=by simp;omega
    have hr:=run_loadAt_mid (P:=P) w g o T (cs.toList.extract o (o+n)) td (fun j v hv=>by
     rw [cell_of_row w g (o+j) cs T' fr hb]
     have hj:j < n:=by
      have:=(List.getElem?_eq_some_iff.1 hv).1;omega
     rw [List.extract_eq_take_drop,List.getElem?_take,if_pos (by omega),List.getElem?_drop] at hv
     simpa using hv) hu hd (by rw [hl];exact hi)
    rw [hr]
    congr 2
    apply Array.ext';simp
   ·rfl
  | _=>rfl
 rfl
def a0r (P:Program) (T n:Nat) (v x:Value) (w:World):Result Unit :=
 match v,x with
 | .pointer (some ⟨g,0,none⟩),.agg cs =>
  (aft (obj w g)).elim (a7v P T v x w) fun old=>if old.size=n∧cs.size=n∧ones cs=true then .ok () (w.setRow g cs) else a7v P T v x w
 | v,x=>a7v P T v x w
@[go_sem] theorem ale (T n g:Nat) (cs:Array Value) (w:World):a0r P T n (.pointer (some ⟨g,0,none⟩)) (.agg cs) w =
 (aft (obj w g)).elim (a7v P T (.pointer (some ⟨g,0,none⟩)) (.agg cs) w)
  fun old=>if old.size=n∧cs.size=n∧ones cs=true then .ok () (w.setRow g cs) else a7v P T (.pointer (some ⟨g,0,none⟩)) (.agg cs) w:=rfl
theorem a0f (T:TypeId) (n:Nat) (v y:Value) (w:World) (hi:(P.info? T).map (·.size)=some n) :
  (a0e T v y).run P w=a0r P T n v y w:=by
 unfold a0e a0r
 split
 ·rename_i g cs
  rcases hb:obj w g with _ | ob
  ·rfl
  unfold aft
  split
  ·rename_i old T' heq
   cases heq;simp only [Option.elim_some];split
   ·rename_i h
    obtain ⟨h1,h2,h3⟩:=h;have hr:=run_storeVar_row (P:=P) w g T' T old cs hb (by rw [h2];exact hi) (by omega) h3;simp only [Instr.storeAt,Instr.sureAddr,Sem.run_bind,Sem.run_pure,Result.andThen_ok,hr]
   rfl
  rfl
 rfl
end

section
variable (w:World)
@[go_sem] theorem a05 (o:Obj) (n:Nat) (hn:n=w.heap.size):obj (w.alloc o) n=some o:=by subst hn;exact heap_alloc_new w o
@[go_sem] theorem aaz (o:Obj) (n:Nat) (hn:n < w.heap.size):obj (w.alloc o) n=obj w n:=heap_alloc_old w o hn
@[go_sem] theorem apx (n:Nat):obj w.drew n=obj w n:=rfl
@[go_sem] theorem ahu (a:Addr) (u:Value) (n:Nat) (hn:n≠a.block):obj (w.setCell a u) n=obj w n:=heap_setCell_other w a n u hn
@[go_sem] theorem aij (g:Nat) (cs:Array Value) (n:Nat) (hn:n≠g):obj (w.setRow g cs) n=obj w n:=setRow_other w g n cs hn
def Obj.acy (cs:Array Value):Obj→Obj
 | .cells _ T fr=>.cells cs T fr
 | o=>o
@[go_sem] theorem a2g (g:Nat) (cs:Array Value):obj (w.setRow g cs) g=(obj w g).map (Obj.acy cs):=by
 simp only [obj,World.setRow,Array.getElem?_modify,if_pos]
 cases w.heap[g]? with
 | none=>rfl
 | some o=>cases o<;>rfl
def Obj.aff (i:Nat) (v:Value):Obj→Obj
 | .cells cs T fr=>.cells (cs.setIfInBounds i v) T fr
 | o=>o
@[go_sem] theorem ajv (i:Nat) (v:Value) (cs:Array Value) (T:TypeId) (fr:Nat×Nat):Obj.aff i v (.cells cs T fr)=.cells (cs.setIfInBounds i v) T fr:=rfl
@[go_sem] theorem a0c (g i:Nat) (v:Value):obj (w.setCell ⟨g,i,none⟩ v) g=(obj w g).map (Obj.aff i v):=by
 simp only [obj,World.setCell,Array.getElem?_modify,if_pos]
 cases w.heap[g]? with
 | none=>rfl
 | some o=>cases o<;>rfl
@[go_sem] theorem ai0 (cs old:Array Value) (T:TypeId) (fr:Nat×Nat):Obj.acy cs (.cells old T fr)=.cells cs T fr:=rfl
@[go_sem] theorem ai5 (old cs:Array Value) (T:TypeId) (fr:Nat×Nat) (n:Nat) (hn:n=w.heap.size):(w.alloc (.cells old T fr)).setRow n cs=w.alloc (.cells cs T fr):=by
 subst hn
 unfold World.setRow World.alloc
 congr 1
 apply Array.ext
 ·simp
 intro k h1 h2
 simp only [Array.getElem_modify,Array.getElem_push]
 split
 ·rename_i hk;subst hk;simp
 rename_i hk
 have:k < w.heap.size:=by simp at h2;omega
 simp [this]
@[go_sem] theorem ags (o:Obj) (cs:Array Value) (n:Nat) (hn:n < w.heap.size):(w.alloc o).setRow n cs=(w.setRow n cs).alloc o:=by
 unfold World.setRow World.alloc
 congr 1
 apply Array.ext
 ·simp
 intro k h1 h2
 simp only [Array.getElem_modify,Array.getElem_push,Array.size_modify]
 split
 ·rename_i hk;subst hk;simp [hn]
 rfl
@[go_sem] theorem am8 (n:Nat) (cs:Array Value):w.drew.setRow n cs=(w.setRow n cs).drew:=rfl
@[go_sem] theorem ajz (g j:Nat) (cs:Array Value):(w.setRow g cs).cell? ⟨g,j,none⟩=(cellsOf (obj w g)).bind fun _=>cs[j]? := by
 unfold World.cell?
 change (match obj (w.setRow g cs) g with | some (.cells c _ _)=>if (none:Option Nat).isSome then none else c[j]? | _=>none)=_
 rw [a2g]
 cases obj w g with
 | none=>rfl
 | some o=>cases o<;>rfl
@[go_sem] theorem ahv (g n j:Nat) (cs:Array Value) (h:n≠g):(w.setRow g cs).cell? ⟨n,j,none⟩=w.cell? ⟨n,j,none⟩:=cell_setRow_other w g cs ⟨n,j,none⟩ h
@[go_sem] theorem akw (g:Nat) (cs:Array Value) (a:Addr):(w.setRow g cs).frozen? a=w.frozen? a:=by
 unfold World.frozen?
 by_cases h:a.block=g
 ·subst h
  change (match obj (w.setRow a.block cs) a.block with | some (.cells _ _ (lo,hi))=>lo≤a.off&&a.off < hi | _=>false)=(match obj w a.block with | some (.cells _ _ (lo,hi))=>lo≤a.off&&a.off < hi | _=>false)
  rw [a2g]
  cases obj w a.block with
  | none=>rfl
  | some o=>cases o<;>rfl
 rw [setRow_other w g _ cs h]
end
theorem a04 {B g:Nat} {w w':World} {o:Obj} (h:obj w g=some o) (hb:Below B w w') (hg:g < B):obj w' g=some o:=(hb.block g hg).trans h
theorem a06 {g:Nat} {w:World} {o:Obj} (h:obj w g=some o) (o':Obj):obj (w.alloc o') g=some o:=(aaz w o' g (Array.getElem?_eq_some_iff.1 h).1).trans h
theorem a2q {g n:Nat} {w:World} {o:Obj} (h:obj w g=some o) (hn:g≠n) (cs:Array Value):obj (w.setRow n cs) g=some o:=(setRow_other w n g cs hn).trans h
theorem a07 {g:Nat} {w:World} {o:Obj} (h:obj w g=some o) (a:Addr) (hn:g≠a.block) (v:Value):obj (w.setCell a v) g=some o:=(heap_setCell_other w a g v hn).trans h
theorem ahb {g:Nat} {w w':World} {o:Obj} {r:Option Nat} (h:obj w g=some o) (hg:w.grownBy w' r) (hn:some g≠r):obj w' g=some o:=(hg.block g (Array.getElem?_eq_some_iff.1 h).1 hn).trans h
theorem a09 {g:Nat} {w:World} {o:Obj} (h:obj w g=some o):g < w.heap.size:=(Array.getElem?_eq_some_iff.1 h).1
theorem a02 {g:Nat} {w:World} {cs:Array Value} {T:TypeId} {fr:Nat×Nat} (h:obj w g=some (.cells cs T fr)):∀ j,w.cell? ⟨g,j,none⟩=cs[j]? := fun j=>cell_of_row w g j cs T fr h
theorem a0d {g:Nat} {w:World} {cs:Array Value} {T:TypeId} (h:obj w g=some (.cells cs T (0,0))):∀ j,w.frozen? ⟨g,j,none⟩=false:=fun j=>frozen_of_row w g j cs T h
theorem extract_all (cs:Array Value) (n:Nat) (h:cs.size=n):cs.extract 0 n=cs:=by subst h;simp
end Go.Proofs.YtppjleebbjipbaaGreat
namespace Go.Proofs.YtppjleebbjipbaaGreat
open Go.RowKit
def anf (W:World) (v:Value) (l:List Int):Prop := ∃ ao c,v=.slice ao l.length c∧(ao=none→l = []∧c=0)∧∀ g off x,ao=some ⟨g,off,x⟩→x=none∧l.length≤c∧g < W.heap.size∧∀ j,j < l.length→W.cell? ⟨g,off+j,none⟩=some (.int .i64 (l.getD j 0))
theorem anf.below {W W':World} {v:Value} {l:List Int} (h:anf W v l) (hB:Below W.heap.size W W'):anf W' v l:=by
 obtain ⟨ao,c,h1,h2,h3⟩:=h
 refine ⟨ao,c,h1,h2,fun g off x hx=>?_⟩
 obtain ⟨q1,q2,q3,q4⟩:=h3 g off x hx
 exact ⟨q1,q2,Nat.lt_of_lt_of_le q3 hB.size,fun j hj=>(hB.cell (p:=⟨g,off+j,none⟩) q3).trans (q4 j hj)⟩
theorem anf.one {W:World} {v:Value} {l:List Int} (h:anf W v l):v.oneCell' = true:=by
 obtain ⟨ao,c,rfl,_⟩:=h;rfl
theorem anf.nil (W:World):anf W (.slice none 0 0) []:=⟨none,0,rfl,fun _=>⟨rfl,rfl⟩,fun _ _ _ h=>by cases h⟩
end Go.Proofs.YtppjleebbjipbaaGreat
