/-
  The owners of package takeover's statements; closed calls about them, reckoned by the kernel over a laid list of owners.
-/
import Derived.Test.YtopgdlblfieljaaGreatDoorPkRwV
import Derived.Test.YtopgdlblfieljaaGreatDoorPkRwP
import Derived.Test.YtopgdlblfieljaaGreatDoorPkRi
import Derived.Test.YtopgdlblfieljaaGreatDoorPkSm
import Derived.Test.YtopgdlblfieljaaGreatDoorPkGrw
set_option linter.unusedSectionVars false
set_option linter.constructorNameAsVariable false
set_option linter.unusedVariables false
set_option linter.unusedSimpArgs false
namespace Go.CE
namespace V
open Go.Proofs Go.Proofs.YtopgdlblfieljaaGreatDoor Go.RowKit
set_option maxRecDepth 100000
def tLs:List (List Nat):=[[1,2],[1,2,3],[1,2,3,4]]
def phs:List Nat:=[0,2,3,4,5]
theorem tLs_ne {l:List Nat} (h:l∈tLs):l≠[]:=(by decide:∀ l∈tLs,l≠[]) l h
def isBq (b:Bool) (r:Ans):Bool:=match r with
 | some (.b c,_)=>c == b
 | _=>false
theorem isBq_of {b:Bool} {r:Ans} (h:isBq b r=true) : ∃ f,r=some (.b b,f):=by
 unfold isBq at h
 split at h
 ·rw [eq_of_beq h];exact ⟨_,rfl⟩
 ·cases h
def ownerA (me ph:Nat) (l:List Nat):AV:=.g [.i .i64 (.ofNat me),.i .i64 (.ofNat 4),.i .i64 (.ofNat 0),.i .i64 (.ofNat 90),.i .i64 (.ofNat ph),aj1 l,.sl none 0 0]
theorem ownerA_vr {σ:Sg} {l:List Nat} {v:Value} (me ph:Nat) (h:@VR S00 σ (aj1 l) v):@VR S00 σ (ownerA me ph l) (.agg (ownRow me 4 0 90 ph v (.slice none 0 0))):=by
 letI:Sym:=S00
 unfold ownRow
 exact LR.g (LV.lr (σ:=σ) (l:=[.i .i64 (.ofNat me),.i .i64 (.ofNat 4),.i .i64 (.ofNat 0),.i .i64 (.ofNat 90),.i .i64 (.ofNat ph),aj1 l,.sl none 0 0]) (m:=[.int .i64 (me:Nat),.int .i64 (4:Nat),.int .i64 (0:Nat),.int .i64 (90:Nat),.int .i64 (ph:Nat),v,.slice none 0 0]) ⟨VR.i _ _,VR.i _ _,VR.i _ _,VR.i _ _,VR.i _ _,h,VR.sln 0 0,trivial⟩)
def allO (p:List Nat→Nat→Nat→Bool):Bool:=tLs.all fun l=>l.all fun me=>phs.all fun ph=>p l me ph
theorem allO_of {p:List Nat→Nat→Nat→Bool} (h:allO p=true) {l:List Nat} (hl:l∈tLs) {me:Nat} (hm:me∈l) {ph:Nat} (hp:ph∈phs):p l me ph=true :=
 List.all_eq_true.1 (List.all_eq_true.1 (List.all_eq_true.1 h l hl) me hm) ph hp
theorem tv_runs:allO (fun l me ph=>isBq true (aD6 .e 24 [ownerA me ph l] l))=true:=by decide +kernel
theorem rv_runs:allO (fun l me ph=>isBq true (aD6 .e 28 [ownerA me ph l] l))=true:=by decide +kernel
def oth (me:Nat) (l:List Nat) (n:Nat):Bool:=n != me&&l.contains n
theorem to_runs:allO (fun l me ph=>(List.range 5).all fun n=>isBq (oth me l n) (aD6 .e 35 [ownerA me ph l,.i .i64 (.ofNat n)] l))=true:=by decide +kernel
theorem ro_runs:allO (fun l me ph=>(List.range 5).all fun n=>isBq (oth me l n) (aD6 .e 38 [ownerA me ph l,.i .i64 (.ofNat n)] l))=true:=by decide +kernel
section
variable {l:List Nat} (hl:l∈tLs) {me:Nat} (hm:me∈l) {ph:Nat} (hp:ph∈phs) {B:Nat} {W:World} {v:Value} (hv:a0h B W v l)
include hl hm hp hv
theorem bq_calls {f:Nat} {b:Bool} (h:isBq b (aD6 .e f [ownerA me ph l] l)=true):Calls Tryz.prog f #[.agg (ownRow me 4 0 90 ph v (.slice none 0 0))] W fun e W'=>e=.returned (.bool b)∧Below W.heap.size W W':=by
 obtain ⟨f',hf⟩:=isBq_of h
 refine (af8 (t:=.e) trivial (tLs_ne hl) hv (fun σ h=>?_) hf).mono fun e W' ⟨τ,u,s',he,_,_,_,hu,hb⟩=>?_
 ·exact @LV.lr S00 σ [ownerA me ph l] [.agg (ownRow me 4 0 90 ph v (.slice none 0 0))] ⟨ownerA_vr me ph h,trivial⟩
 ·cases hu
  exact ⟨he,hb⟩
theorem bq2_calls {f:Nat} {b:Bool} {n:Nat} (h:isBq b (aD6 .e f [ownerA me ph l,.i .i64 (.ofNat n)] l)=true):Calls Tryz.prog f #[.agg (ownRow me 4 0 90 ph v (.slice none 0 0)),.int .i64 n] W fun e W'=>e=.returned (.bool b)∧Below W.heap.size W W':=by
 obtain ⟨f',hf⟩:=isBq_of h
 refine (af8 (t:=.e) trivial (tLs_ne hl) hv (fun σ h=>?_) hf).mono fun e W' ⟨τ,u,s',he,_,_,_,hu,hb⟩=>?_
 ·exact @LV.lr S00 σ [ownerA me ph l,.i .i64 (.ofNat n)] [.agg (ownRow me 4 0 90 ph v (.slice none 0 0)),.int .i64 n] ⟨ownerA_vr me ph h,@VR.i S00 σ _ _,trivial⟩
 ·cases hu
  exact ⟨he,hb⟩
theorem tvalid_calls:Calls Tryz.prog 24 #[.agg (ownRow me 4 0 90 ph v (.slice none 0 0))] W fun e W'=>e=.returned (.bool true)∧Below W.heap.size W W':=bq_calls hl hm hp hv (allO_of tv_runs hl hm hp)
theorem rvalid30_calls:Calls Tryz.prog 28 #[.agg (ownRow me 4 0 90 ph v (.slice none 0 0))] W fun e W'=>e=.returned (.bool true)∧Below W.heap.size W W':=bq_calls hl hm hp hv (allO_of rv_runs hl hm hp)
theorem tother_calls {n:Nat} (hn:n < 5):Calls Tryz.prog 35 #[.agg (ownRow me 4 0 90 ph v (.slice none 0 0)),.int .i64 n] W fun e W'=>e=.returned (.bool (oth me l n))∧Below W.heap.size W W':=bq2_calls hl hm hp hv (List.all_eq_true.1 (allO_of to_runs hl hm hp) n (List.mem_range.2 hn))
theorem rother_calls {n:Nat} (hn:n < 5):Calls Tryz.prog 38 #[.agg (ownRow me 4 0 90 ph v (.slice none 0 0)),.int .i64 n] W fun e W'=>e=.returned (.bool (oth me l n))∧Below W.heap.size W W':=bq2_calls hl hm hp hv (List.all_eq_true.1 (allO_of ro_runs hl hm hp) n (List.mem_range.2 hn))
end
end V
end Go.CE
namespace Go.Proofs.YtopgdlblfieljaaGreatDoor
open Go.RowKit Go.CE.V
set_option maxRecDepth 20000
set_option maxHeartbeats 4000000
theorem results_row_row_tmp {P:Program} {fn:Func} {p q u:Tmp} {ty1 ty2:TypeId} (h:fn.results=#[.cell p ty1,.cell q ty2,.tmp u]) (tmps:Array Value) (w:World) (g1 g2:Nat) (t1 t2:TypeId) (c1 c2:Array Value) (f1 f2:Nat×Nat) (d1 d2:TypeDesc) (v:Value)
  (hp:tmps.getD p undef=.pointer (some ⟨g1,0,none⟩)) (hg:w.heap[g1]? = some (.cells c1 t1 f1)) (hu:P.underlying ty1=some d1) (hd:(match d1 with | .struct _ | .array _ _=>true | _=>false)=true) (hi:(P.info? ty1).map (·.size)=some c1.size)
  (hp':tmps.getD q undef=.pointer (some ⟨g2,0,none⟩)) (hg':w.heap[g2]? = some (.cells c2 t2 f2)) (hu':P.underlying ty2=some d2) (hd':(match d2 with | .struct _ | .array _ _=>true | _=>false)=true) (hi':(P.info? ty2).map (·.size)=some c2.size) (hv:tmps.getD u undef=v) :
  (results fn tmps).run P w=.ok (.tuple #[.agg c1,.agg c2,v]) w:=by
 have e1:=run_loadVar_row (P:=P) w g1 t1 ty1 c1 f1 d1 hg hu hd hi
 have e2:=run_loadVar_row (P:=P) w g2 t2 ty2 c2 f2 d2 hg' hu' hd' hi'
 rw [Array.getD_eq_getD_getElem?] at hp hp' hv
 simp only [results,h]
 simp [Sem.run_bind,Result.andThen,hp,hp',asAddr,e1,e2,hv]
def inqL (l:List Nat) (a b:Nat):LN:=⟨13,a,b,4,0,0,0,l,asj⟩
def repL (l:List Nat) (a b st:Nat):LN:=⟨14,b,a,4,0,0,st,l,a3t (LN.enc (inqL l a b))⟩
theorem inq_row (l:List Nat) (a b:Nat) (v:Value):(LN.let (inqL l a b) v).row=([.int .i64 13,.int .i64 a,.int .i64 b,.int .i64 4,.int .i64 0,.int .i64 0,.int .i64 0,.int .i64 0,.int .i64 0,.int .i64 0,.int .i64 0,.int .i64 0,
  .int .i64 0,.bool false,.int .i64 0,.int .i64 0,.int .i64 0,.slice none 0 0,.int .i64 0,.int .i64 0,.string ByteArray.empty,.int .i64 0,.int .i64 0,.slice none 0 0,.int .i64 0,.int .i64 0,.int .i64 0,.int .i64 0,.int .i64 0,v]++List.replicate 32 (B8 0):List Value).toArray:=by
 rw [CE.V.a1i]
 unfold inqL asj
 rw [List.map_replicate]
 rfl
theorem tinquiry_calls {l:List Nat} {me ph:Nat} {W:World} {ov pv:Value} (h0:l≠[]) (hl4:l.length≤4) (hv:a0h 0 W ov l) (hpv:pv.oneCell' = true) (a b:Nat) :
  Calls Tryz.prog 26 #[.agg (ownRow me 4 0 90 ph ov pv),.int .i64 a,.int .i64 b] W fun e W' => ∃ cv,e=.returned (.agg (LN.let (inqL l a b) cv).row)∧a0h W.heap.size W' cv l∧Below W.heap.size W W':=by
 have po:=a1y me 4 0 90 ph (a0v hv) hpv
 have b0:obj (W.alloc (.cells (ownRow me 4 0 90 ph ov pv) 28 (0,0))) W.heap.size=some (.cells (ownRow me 4 0 90 ph ov pv) 28 (0,0)):=a03 _ _ _ rfl
 have hB0:=(Below.refl W.heap.size W).alloc (Nat.le_refl _) (.cells (ownRow me 4 0 90 ph ov pv) 28 (0,0))
 have hv0:=hv.below hB0
 have w1B:=hB0.alloc hB0.size (.cells z48 48 (0,0))
 have b1:obj ((W.alloc (.cells (ownRow me 4 0 90 ph ov pv) 28 (0,0))).alloc (.cells z48 48 (0,0))) W.heap.size=some (.cells (ownRow me 4 0 90 ph ov pv) 28 (0,0)):=a02 b0 _
 have z1:obj ((W.alloc (.cells (ownRow me 4 0 90 ph ov pv) 28 (0,0))).alloc (.cells z48 48 (0,0))) (W.heap.size+1)=some (.cells z48 48 (0,0)):=a03 _ _ _ (by simp)
 have hv1:=Lib.hid (hv0.below ((Below.refl _ _).alloc (Nat.le_refl _) (.cells z48 48 (0,0))))
 have hg0:=a04 b0
 clear b0 hv0 hB0
 go_enter Tryz.func26,Tryz.ntmps26
 repeat' (first | go_skip | go_guarded | go_step | go_upon)
 generalize ((W.alloc (.cells (ownRow me 4 0 90 ph ov pv) 28 (0,0))).alloc (.cells z48 48 (0,0)))=w1 at *
 have lb:=a04 b1
 refine agn 8 [([],fun v _=>v=.int .i64 a),
   ([],fun v _=>v=.int .i64 b),
   ([],fun v _=>v=.pointer (some ⟨W.heap.size,1,none⟩)),
   ([2],fun v _=>v=.int .i64 4),
   ([],fun v _=>v=.pointer (some ⟨W.heap.size,5,none⟩)),
   ([4],fun v _=>v=ov),
   ([5],fun v W'=>a0h w1.heap.size W' v l∧∃ b o n c,v=.slice (some ⟨b,o,none⟩) n c),
   ([0,1,3,6],fun v W' => ∃ cv,v=.agg (LN.let (inqL l a b) cv).row∧a0h w1.heap.size W' cv l∧cv.oneCell' = true)] (by kernel_rfl) (by kernel_rfl) ?st ⟨?o0,?o1,?o2,?o3,?o4,?o5,?o6,?o7,trivial⟩ ?tl
 case st =>
  intro k v W1 W2 h hb
  rcases k with _ | _ | _ | _ | _ | _ | _ | _ | k
  ·exact h
  ·exact h
  ·exact h
  ·exact h
  ·exact h
  ·exact h
  ·exact ⟨h.1.below hb,h.2⟩
  ·obtain ⟨cv,h1,h2,h3⟩:=h;exact ⟨cv,h1,h2.below hb,h3⟩
  ·trivial
 case o0 =>
  intro vs Wq hW hk
  dsimp only [a9l,List.take]
  repeat' (first | go_skip | go_guarded | go_step | go_upon)
  exact a5s (.int .i64 a) rfl (by go_simp) (Below.refl _ _) rfl
 case o1 =>
  intro vs Wq hW hk
  dsimp only [a9l,List.take]
  repeat' (first | go_skip | go_guarded | go_step | go_upon)
  exact a5s (.int .i64 b) rfl (by go_simp) (Below.refl _ _) rfl
 case o2 =>
  intro vs Wq hW hk
  dsimp only [a9l,List.take]
  repeat' (first | go_skip | go_guarded | go_step | go_upon)
  exact a5s (.pointer (some ⟨W.heap.size,1,none⟩)) rfl (by go_simp) (Below.refl _ _) rfl
 case o3 =>
  intro vs Wq hW hk
  obtain ⟨g2,_⟩:=hk
  have g2:vs 2=.pointer (some ⟨W.heap.size,1,none⟩):=g2
  dsimp only [a9l,List.take]
  rw [g2]
  have c1:=(a01 (a00 b1 hW lb) 1).trans (b2p _ _ _ _ _ _ _)
  repeat' (first | go_skip | go_guarded | go_step | go_upon)
  exact a5s (.int .i64 4) rfl (by go_simp) (Below.refl _ _) rfl
 case o4 =>
  intro vs Wq hW hk
  dsimp only [a9l,List.take]
  repeat' (first | go_skip | go_guarded | go_step | go_upon)
  exact a5s (.pointer (some ⟨W.heap.size,5,none⟩)) rfl (by go_simp) (Below.refl _ _) rfl
 case o5 =>
  intro vs Wq hW hk
  obtain ⟨g4,_⟩:=hk
  have g4:vs 4=.pointer (some ⟨W.heap.size,5,none⟩):=g4
  dsimp only [a9l,List.take]
  rw [g4]
  have c5:=(a01 (a00 b1 hW lb) 5).trans (aoj _ _ _ _ _ _ _)
  repeat' (first | go_skip | go_guarded | go_step | go_upon)
  exact a5s (ov) rfl (by go_simp) (Below.refl _ _) rfl
 case o6 =>
  intro vs Wq hW hk
  obtain ⟨g5,_⟩:=hk
  have g5:vs 5=ov:=g5
  dsimp only [a9l,List.take]
  rw [g5]
  have HC:=Lib.hid ((amv h0 (by omega) (hv1.out.below hW)).mono fun e W' h=>h)
  repeat' (first | (go_at_call 61;((with_reducible refine (HC.out).mono ?_));rintro e w5 ⟨cv,rfl,hcv,hb5⟩;dsimp only) | go_skip | go_guarded | go_step | go_upon)
  obtain ⟨cb,co,cc,crow,ce,_⟩:=as9 (hcv.mono (Nat.zero_le _)) h0
  exact a5s cv rfl (by go_simp) hb5 ⟨hcv.mono hW.size,cb,co,_,cc,ce⟩
 case o7 =>
  intro vs Wq hW hk
  obtain ⟨g0,g1,g3,g6,_⟩:=hk
  have g0:vs 0=.int .i64 a:=g0
  have g1:vs 1=.int .i64 b:=g1
  have g3:vs 3=.int .i64 4:=g3
  obtain ⟨g6q,cb,co,cn,cc,g6o⟩:=g6
  dsimp only [a9l,List.take]
  rw [g0,g1,g3,g6o]
  repeat' (first | go_skip | go_guarded | go_step | go_upon)
  exact a5s (.agg (LN.let (inqL l a b) (.slice (some ⟨cb,co,none⟩) cn cc)).row) rfl (by rw [inq_row];rfl) (Below.refl _ _) ⟨_,rfl,g6o ▸ g6q,rfl⟩
 case tl =>
  intro vs W2 hW2 hk
  obtain ⟨cv,h7,hcv,hco⟩:=hk 7 (by decide)
  have h7:vs 7=.agg (LN.let (inqL l a b) cv).row:=h7
  clear hk
  dsimp only [a9l,List.take,List.drop]
  rw [h7]
  generalize vs 0=u0,vs 1=u1,vs 2=u2,vs 3=u3,vs 4=u4,vs 5=u5,vs 6=u6
  have lz:=a0e (LN.let (inqL l a b) cv) (show asj.length=32 from by decide)
  have la:=a15 (LN.let (inqL l a b) cv) (show asj.length=32 from by decide)
  have lo:=a0y (LN.let (inqL l a b) cv) hco
  have z2:=a00 z1 hW2 (a04 z1)
  have jB2:=w1B.trans (hW2.mono w1B.size)
  generalize hrow:(LN.let (inqL l a b) cv).row=ROW at *
  repeat' (first | go_skip | go_guarded | go_step | go_upon)
  have hcv2:a0h W.heap.size (W2.setRow (W.heap.size+1) ROW) cv l:=(a2m hcv z2 (by decide) (fun y hy=>setRow_other _ _ _ _ hy)).mono w1B.size
  refine bodyPost_ret (results_cell_row rfl _ _ (W.heap.size+1) 48 ROW _ _ rfl (setRow_heap _ _ _ _ _ _ z2) Tryz.underlying48 rfl (by rw [lz];kernel_rfl)) rfl ?_
  exact ⟨cv,by rw [hrow],hcv2,below_setRow jB2 (by omega) _⟩
end Go.Proofs.YtopgdlblfieljaaGreatDoor
