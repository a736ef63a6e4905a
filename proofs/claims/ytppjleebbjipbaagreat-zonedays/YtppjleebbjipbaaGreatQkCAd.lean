/-
  Days and Universal: every set is canonical, and tells its offset's days: the law answers true for every input and leaves its arguments as they were.
-/
import Derived.Test.YtppjleebbjipbaaGreatQkZld
import Derived.Test.YtppjleebbjipbaaGreatQkZga
import Derived.Lib.LaidTab
import Derived.Test.YtppjleebbjipbaaGreatRows
set_option linter.all false
namespace Go.Proofs.YtppjleebbjipbaaGreat.zdays
open Go.ChangeShapes Go.WideShapes Go.ChangeAt Go.RowKit

theorem own:ownKnob Tryz.prog.godebug=none:=by kernel_rfl
theorem laidOut:laidOutB Tryz.prog=true:=by kernel_rfl
section
variable {H:Type} {enc:TypeId×Value→H} {P:Program}
theorem akd {f:Func} {s:ChangeSpec} {apart fresh handsOn again:Bool} {W W':World} {args:Array Value} {v:Value} {ds gs:List (DataW H)} {before:List MemPlace}
  (hW:DataW.Whole enc P f.params.toList s.vars apart W args.toList ds gs before) (hb:Below W W W')
  (hres:∀ (b:Nat) (sp:Nat→Bool) (hd:Bool),DataW.TrodAll enc P W' b sp hd f.resultTypes.toList (v.resultList f.resultTypes.size) (s.fn H (ds++gs)).results [])
  (hargs:∀ sp:Nat→Bool,(∀ p∈before,sp p.block=true)→DataW.TrodAll enc P W' 0 sp true f.params.toList args.toList (s.fn H (ds++gs)).args before)
  (hvars:∀ sp:Nat→Bool,DataW.TrodVars enc P W' sp s.vars (s.fn H (ds++gs)).vars [])
  (hok:∀ (j:Nat) (t:TypeId) (r:Value),f.resultTypes[j]? = some t→(v.resultList f.resultTypes.size)[j]? = some r→Value.okWide P W' .any 0 t r) :
  s.post enc P f apart fresh handsOn again W args v W':=by
 have low:∀ p∈before,p.block < W.heap.size:=fun p hp=>hW.lt p hp
 have here:∀ p∈before,(fun b=>decide (b < W.heap.size)) p.block=true:=fun p hp=>zV (low p hp)
 have all:=trodAll_append (hargs (fun _=>true) (fun _ _=>rfl)) (hres 0 (fun _=>true) true)
 refine ⟨ds,gs,before,[],before,[],hW,hres _ _ _,hargs _ here,hvars _,World.keptBut_mono (fun p hp=>⟨hp,.inr (.inl hp)⟩) (hb.frame (·∈before)),fun _=>?_⟩
 obtain ⟨_,_,_,_,_,hz,hn⟩:=hW
 refine ⟨hok,_,_,([]++before) ++ [],⟨[]++before,[],all,hvars _,rfl,fun b off hp=>?_,fun ha=>by simpa using hn ha⟩,fun p hp _=>by simpa using hp⟩
 have hin:MemPlace.cell b off∈before:=by simpa using hp
 exact (hb.frozen (low _ hin)).trans (hz b off hin)
end
set_option maxRecDepth 100000 in
theorem contract (H:Type) (enc:TypeId×Value→H) (W:World) (base:Nat) (args:Array Value) (ds gs:List (DataW H)) (before:List MemPlace)
  (hval:∀ (j:Nat) t v,Tryz.f11.params[j]? = some t→args[j]? = some v→Value.okWide Tryz.prog W .any base t v)
  (hW:DataW.Whole enc Tryz.prog Tryz.f11.params.toList Rows.zoneDaysSpec.vars false W args.toList ds gs before) :
  Calls Tryz.prog 11 args W fun e W' => ∃ v,e=.returned v∧Rows.zoneDaysSpec.post enc Tryz.prog Tryz.f11 false true false false W args v W':=by
 have hW':=hW
 obtain ⟨p,q,hA0,hV,rfl,hfz,hnd⟩:=hW
 have hA:DataW.TrodAll enc Tryz.prog W 0 (fun _=>true) true Tryz.f11.params.toList args.toList ds p:=hA0
 rw [Tryz.params11] at hA hval
 obtain ⟨v0,vs0,d0,ds0,p0,q0,hargs,rfl,rfl,h0,r0'⟩:=trodAll_cons hA
 obtain ⟨v1,vs1,d1,ds1,p1,q1,hvs1,rfl,rfl,h1,r1'⟩:=trodAll_cons r0'
 obtain ⟨v2,vs2,d2,ds2,p2,q2,hvs2,rfl,rfl,h2,r2'⟩:=trodAll_cons r1'
 obtain ⟨rfl,rfl,rfl⟩:=trodAll_nil r2'
 subst hvs2
 subst hvs1
 obtain rfl:args=#[v0,v1,v2]:=by cases args;simp_all
 obtain ⟨rfl,rfl⟩:=trodVars_none hV
 obtain ⟨x0,gg0,oo0,r0,gv0,ov0,hv0⟩:=akb (hval 0 26 v0 rfl rfl) h0
 obtain ⟨n1,rfl,rfl,rfl,hw1⟩:=open_int Tryz.underlying63 (hval 1 63 v1 rfl rfl) h1
 obtain ⟨s1,rfl,l1⟩:=nat16z hw1
 obtain ⟨n2,rfl,rfl,rfl,hw2⟩:=open_int Tryz.underlying63 (hval 2 63 v2 rfl rfl) h2
 obtain ⟨s2,rfl,l2⟩:=nat16z hw2
 clear hA0
 have walk:Calls Tryz.prog 11 #[v0,.int .u16 (s1:Int),.int .u16 (s2:Int)] W fun e w'=>e=.returned (.bool true)∧Below W W w':=by
  rw [hv0]
  exact zoneDays_calls r0 gv0 ov0 l1 l2
 refine walk.mono fun e W' ⟨he,hg⟩=>?_
 subst he
 refine ⟨_,rfl,akd hW' hg (fun _ _ _=>trodAll_cons_mk (shut_bool Tryz.underlying4 _) trodAll_mk0) (fun sp hsp=>?_) (fun _=>rfl) (ok_one (by kernel_rfl) rfl (okWide_bool_mk Tryz.underlying4 _))⟩
 have hlt0:∀ x∈p0,x.block < W.heap.size:=fun x hx=>hW'.lt x (by simp [hx])
 have k0':DataW.Trod enc Tryz.prog W' 0 sp true 26 v0 d0 p0:=WideElems.Trod_stays laidOut (by kernel_rfl) (wV (by kernel_rfl)) h0 (fun x hx=>hg.same (hlt0 x hx)) (fun x hx=>hsp x (by simp [hx]))
 have k:=(trodAll_cons_mk k0' (trodAll_cons_mk (shut_int (enc:=enc) (w:=W') (base:=0) (spare:=sp) (held:=true) Tryz.underlying63 hw1) (trodAll_cons_mk (shut_int (enc:=enc) (w:=W') (base:=0) (spare:=sp) (held:=true) Tryz.underlying63 hw2) trodAll_mk0)))
 rw [Tryz.params11]
 show DataW.TrodAll enc Tryz.prog W' 0 sp true [26,63,63] [v0,.int .u16 (s1:Int),.int .u16 (s2:Int)] [d0,.lit (.int .u16 (s1:Int)),.lit (.int .u16 (s2:Int))] _
 simpa using k
noncomputable def laidWorld (os:Os):World:=World.holding Tryz.prog os ⟨#[],#[],[]⟩
theorem laid_met (os:Os):laidMet Tryz.prog Rows.zoneDaysRow.laid ((laidWorld os).forCall (fun _ _=>0) ⟨#[],#[.agg #[.int .u8 0,.slice none 0 0,.slice none 0 0,.int .u8 0,.int .u8 0,.int .u8 0,.int .u8 0,.int .u8 0,.int .u8 0,.int .u8 0,.int .u8 0,.int .u8 0,.int .u8 0,.bool false],.int .u16 0,.int .u16 0],[]⟩).memory :=
 laidMet_of_run' 8 (by kernel_rfl) (by kernel_rfl)
theorem reads (os:Os) {H:Type} (enc:TypeId×Value→H) : ∃ places,DataW.whole enc Tryz.prog ((laidWorld os).forCall (fun _ _=>0) ⟨#[],#[.agg #[.int .u8 0,.slice none 0 0,.slice none 0 0,.int .u8 0,.int .u8 0,.int .u8 0,.int .u8 0,.int .u8 0,.int .u8 0,.int .u8 0,.int .u8 0,.int .u8 0,.int .u8 0,.bool false],.int .u16 0,.int .u16 0],[]⟩).memory Tryz.f11.params.toList Rows.zoneDaysSpec.vars false #[Value.agg #[.int .u8 0,.slice none 0 0,.slice none 0 0,.int .u8 0,.int .u8 0,.int .u8 0,.int .u8 0,.int .u8 0,.int .u8 0,.int .u8 0,.int .u8 0,.int .u8 0,.int .u8 0,.bool false],Value.int .u16 0,Value.int .u16 0].toList 8=some ([.agg [.lit (.int .u8 0),.nil,.nil,.lit (.int .u8 0),.agg [.agg [.lit (.int .u8 0),.lit (.int .u8 0),.lit (.int .u8 0),.lit (.int .u8 0)],.agg [.lit (.int .u8 0),.lit (.int .u8 0),.lit (.int .u8 0),.lit (.int .u8 0)]],.lit (.int .u8 0),.lit (.bool false)],.lit (.int .u16 0),.lit (.int .u16 0)],[],places) :=
 ⟨[],by kernel_rfl⟩
set_option maxRecDepth 100000 in
theorem lifted (os:Os) (started:os.Started) (H:Type) (enc:TypeId×Value→H) (F:Stop.Interp) :
  ReturnsInHanded {} Tryz.checked os 11 .any ((OpenSpec.ofChange Rows.zoneDaysSpec).preRow enc Tryz.prog Tryz.f11 Rows.zoneDaysRow.domain false Rows.zoneDaysRow.laid) (((OpenSpec.ofChange Rows.zoneDaysSpec).at F).post enc Tryz.prog Tryz.f11 false true false false):=by
 obtain ⟨places,hx⟩:=reads os enc
 refine returnsInHanded_of_row (C:=Tryz.checked) (s:=OpenSpec.ofChange Rows.zoneDaysSpec) own started (by kernel_rfl) Tryz.func11
  (witness_row_at (enc:=enc) (C:=Tryz.checked) false (laidWorld os) #[.agg #[.int .u8 0,.slice none 0 0,.slice none 0 0,.int .u8 0,.int .u8 0,.int .u8 0,.int .u8 0,.int .u8 0,.int .u8 0,.int .u8 0,.int .u8 0,.int .u8 0,.int .u8 0,.bool false],.int .u16 0,.int .u16 0] rfl (by kernel_rfl) (by kernel_rfl) (by kernel_rfl)
   (OpenSpec.preRow_of_cond 8 hx (by kernel_rfl) (fun k hk=>by cases hk) (by kernel_rfl) (laid_met os))) ?_
 intro W base args ds gs before hval hW _ _ _ _ _ _
 exact contract H enc W base args ds gs before hval hW
end Go.Proofs.YtppjleebbjipbaaGreat.zdays
