/-
  Laws of the digests on known bytes: the digest is a closed term that the kernel reckons once.
-/
import Derived.Test.YtlnlbdfokmhelaaGreatDoorPkHash
import Derived.Test.YtlnlbdfokmhelaaGreatDoorPkRefE
import Derived.Test.YtlnlbdfokmhelaaGreatDoorPkLet
import Derived.Test.YtlnlbdfokmhelaaGreatDoorPkLaw
import Derived.WalkKit
import Derived.WalkSpells
import Derived.WalkLawsBesides
import Derived.Handy
import Derived.Lib.Hide
import Derived.Laws.CopyOwn
import Derived.Deep.QuietTactic
import Derived.BigQuiet
import Derived.BigRegion
import Derived.StillTailTactics
import Derived.RegionTactic
import Derived.LoopTactic
import Derived.Test.YtlnlbdfokmhelaaGreatDoorProg
set_option linter.unusedSectionVars false
set_option linter.constructorNameAsVariable false
set_option linter.unusedVariables false
set_option linter.unusedSimpArgs false
namespace Go.CE
namespace V
open Go.Proofs Go.Proofs.YtlnlbdfokmhelaaGreatDoor Go.RowKit
def b9i (n:Nat):AV:=.i .u8 (.ofNat n)
theorem bgr:∀ k:List Nat,(∀ n∈k,n < 256)→as5 (k.map UInt8.ofNat)=k
 | [],_=>rfl
 | n :: k,h=>by
  have h1:=h n (by simp)
  have ih:=bgr k (fun m hm=>h m (by simp [hm]))
  unfold as5 at *
  simp only [List.map_cons,ih]
  congr 1
  simp;omega
theorem bf9 (l:List UInt8):(as5 l).map b9i=l.map bao:=by
 unfold as5 b9i bao
 rw [List.map_map];rfl
section
variable [Sym]
noncomputable def bmu (ks b:List AV):Option (List AV):=match b9y ks,b9y b with
 | some k,some m=>match Nat.beq k.length 32&&Nat.ble m.length 1000000000 with
  | true=>bpg k fun k=>bpg m fun m=>bpg (keyV k m) fun l=>some (l.map b9i)
  | false=>none
 | _,_=>none
noncomputable def bay (b:List AV):Option (List AV):=match b9y b with
 | some m=>match Nat.ble m.length 1000000000 with
  | true=>bpg m fun m=>bpg (shaV m) fun l=>some (l.map b9i)
  | false=>none
 | _=>none
theorem bgy {l:List AV} {r:List Nat} (h:b9y l=some r):l.map den=(r.map UInt8.ofNat).map bao∧as5 (r.map UInt8.ofNat)=r:=by
 obtain ⟨rfl,hr⟩:=bcb h
 have hn:=bgr r hr
 refine ⟨?_,hn⟩
 rw [← bf9,hn,List.map_map]
 rfl
theorem bEg:c4b bun bmu:=by
 intro ks b rs h
 unfold bmu at h
 split at h
 ·rename_i k m hk hm
  split at h
  ·rename_i hc
   simp only [Bool.and_eq_true] at hc
   obtain ⟨d1,n1⟩:=bgy hk
   obtain ⟨d2,n2⟩:=bgy hm
   refine ⟨k.map UInt8.ofNat,m.map UInt8.ofNat,by rw [List.length_map];exact be1 hc.1,by rw [List.length_map];exact bbm hc.2,d1,d2,?_⟩
   rw [bcv,bcv,bcv,← n1,← n2,bVa,bf9] at h
   cases h
   rw [List.map_map]
   rfl
  ·cases h
 ·cases h
def bxw (F:List UInt8→List UInt8) (tab:List AV→Option (List AV)):Prop:=∀ b rs,tab b=some rs →
 ∃ msg:List UInt8,msg.length≤1000000000∧b.map den=msg.map bao∧rs.map den=(F msg).map bao
theorem bjn:bxw b9o bay:=by
 intro b rs h
 unfold bay at h
 split at h
 ·rename_i m hm
  split at h
  ·rename_i hc
   obtain ⟨d2,n2⟩:=bgy hm
   refine ⟨m.map UInt8.ofNat,by rw [List.length_map];exact bbm hc,d2,?_⟩
   rw [bcv,bcv,← n2,bT4,bf9] at h
   cases h
   rw [List.map_map]
   rfl
  ·cases h
 ·cases h
def bii:X Unit:=fun s=>match s with
 | ⟨m,x,l,w⟩=>match m.get 0 with
  | some (.cells cs _)=>match Nat.beq cs.length 64&&bX3 cs with
   | true=>some ((),⟨m,x,whole 0 :: l,w⟩)
   | false=>none
  | _=>none
theorem bix {n n':Nat} {m m':Tr AB} {l l' w w':List LE} {u:Unit} (h:bii ⟨m,n,l,w⟩=some (u,⟨m',n',l',w'⟩)):m' = m∧n' = n∧l' = whole 0 :: l∧w' = w∧∃ cs T,m.get 0=some (.cells cs T)∧cs.length=64∧bX3 cs=true:=by
 unfold bii at h
 dsimp only at h
 split at h
 ·rename_i cs T hk
  split at h
  ·rename_i hc
   simp only [Bool.and_eq_true] at hc
   simp only [Option.some.injEq,Prod.mk.injEq,CE.St.mk.injEq] at h
   obtain ⟨_,rfl,rfl,rfl,rfl⟩:=h
   exact ⟨rfl,rfl,rfl,rfl,cs,T,hk,be1 hc.1,hc.2⟩
  ·cases h
 ·cases h
theorem blh:Loc bii:=by
 intro m n l w a m' n' l' w' h
 obtain ⟨rfl,rfl,rfl,rfl,cs,T,hk,h1,h2⟩:=bix h
 refine ⟨Nat.le_refl _,[whole 0],[],rfl,rfl,(fun _ h=>by cases h),keeps.refl _,fun m2 l2 w2 hag=>⟨m2,?_,hag,keeps.refl _⟩⟩
 have:=blf (hag _ (List.mem_singleton.2 rfl))
 have e:Nat.beq cs.length 64=true:=by rw [h1];rfl
 unfold bii
 dsimp only
 rw [← this,hk]
 dsimp only
 rw [e,h2]
 rfl
theorem bkv {l:List AV} (h:l.length=64):cut l 0 64=some l:=by
 unfold cut
 have e:(l.drop 0).take 64=l:=by rw [List.drop_zero,List.take_of_length_le (by omega)]
 simp only [e,h]
noncomputable def bqe (s:QW) (k:QW→Ans):Ans:=match s with
 | ⟨m,nx,base,lg,wl⟩=>match getM (p4 0) m with
  | .cells t n _=>V.iff (Nat.beq (ajn t 0 n).length 64&&bX3 (ajn t 0 n)) (k ⟨m,nx,base,bf5 base 0 (whole 0) lg,wl⟩)
  | _=>none
theorem bo7 [avd] {B:Nat} {s:CE.St} {f:QW} (hs:RS B s f) {α β:Type} {R:α→β→Prop} {g:QW→(β→QW→Ans)→Ans} {h:Unit→X α} (hg:∀ f s,RS B s f→Ok B R (g f) (h () s)):Ok B R (fun k=>bqe f fun f=>g f k) (CE.bnd bii h s):=fun k r hk=>by
 obtain ⟨m,n,lg,w⟩:=s
 obtain ⟨fm,nx,base,lg',wl⟩:=f
 have hm:=hs.m 0
 dsimp only at hm
 unfold bqe at hk
 dsimp only at hk
 generalize getM (p4 0) fm=b at hm hk
 generalize hmi:m.get 0=a at hm
 cases hm with
 | cells t N T hok =>
  dsimp only at hk
  cases hc:(Nat.beq (ajn t 0 N).length 64&&bX3 (ajn t 0 N)) with
  | false=>rw [hc] at hk;cases hk
  | true =>
   rw [hc] at hk
   obtain ⟨b,f',a,s',e,q1,q2,q3⟩:=hg _ _ (hs.log (whole 0) (hs.mb 0 _ hmi)) k r hk
   refine ⟨b,f',a,s',?_,q1,q2,q3⟩
   unfold CE.bnd bii
   dsimp only
   rw [hmi]
   dsimp only
   rw [hc]
   exact e
 | _=>cases hk
def bSv (tab:List AV→Option (List AV)):List AV→X AV:=fun args=>match args with
 | [.sl (some (k2,o2)) n _]=>CE.bnd bii fun _=>CE.bnd (rdK k2 o2 n) fun b=>CE.bnd (CE.lift (tab b)) fun rs=>CE.ret (.g rs)
 | _=>CE.fail
def bum (tab:List AV→List AV→Option (List AV)):List AV→X AV:=fun args=>match args with
 | [.g ks,.sl (some (k2,o2)) n _]=>CE.bnd bii fun _=>CE.bnd (rdK k2 o2 n) fun b=>CE.bnd (CE.lift (tab ks b)) fun rs=>CE.ret (.g rs)
 | _=>CE.fail
theorem bEh (tab:List AV→List AV→Option (List AV)) (x:List AV):Loc (bum tab x):=by
 unfold bum
 split
 ·exact Loc.bnd blh fun _=>Loc.bnd (Loc.rdK _ _ _) fun _=>Loc.bnd (Loc.lift _) fun _=>Loc.ret _
 ·exact Loc.fail
theorem bI7 (tab:List AV→Option (List AV)) (x:List AV):Loc (bSv tab x):=by
 unfold bSv
 split
 ·exact Loc.bnd blh fun _=>Loc.bnd (Loc.rdK _ _ _) fun _=>Loc.bnd (Loc.lift _) fun _=>Loc.ret _
 ·exact Loc.fail
end
section
variable [Sym] [avd]
theorem byd {f:Nat} (hen:∀ (vals:Array Value) (W:World),(callFunc f vals).run Tryz.prog W=.ok (.enter f vals) W)
  (c3c:∀ (M:List UInt8) (v:Value) (w:World),M.length≤1099511627776→bhe w v M→Tab w→Calls Tryz.prog f #[v] w fun e w'=>e=.returned (.agg (as3 (b9o M)))∧Below w.heap.size w w')
  {tab:List AV→Option (List AV)} (ht:bxw b9o tab) (B:Nat) (σ:Sg) (m:Tr AB) (n:Nat) (l w:List LE) (W:World) (args:List AV) (v:AV) (m':Tr AB) (n':Nat) (l' w':List LE) (vals:Array Value)
  (hg:GS σ) (hs:SR Tryz.prog B σ m W) (hl:LR σ args vals) (hx:bSv tab args ⟨m,n,l,w⟩=some (v,⟨m',n',l',w'⟩)) (_:b9l σ n n') :
  (callFunc f vals).run Tryz.prog W=.ok (.enter f vals) W∧Calls Tryz.prog f vals W (Done Tryz.prog B σ n n' m' v W):=by
 refine ⟨hen vals W,?_⟩
 unfold bSv at hx
 split at hx
 ·rename_i k2 o2 len cp
  obtain ⟨_,⟨m1,n1,l1,w1⟩,g1,x2⟩:=aka hx
  obtain ⟨e1,e2,e3,e4,c0,T0,k0,c39,htab⟩:=bix g1
  cases e1;cases e2;cases e3;cases e4
  obtain ⟨b,⟨m2,n2,l2,w2⟩,g3,x3⟩:=aka x2
  obtain ⟨e1,e2,c2,T2,hk2,bxo⟩:=bbg g3
  cases e1;cases e2
  obtain ⟨rs,s1,g4,x4⟩:=aka x3
  obtain ⟨hrs,e1⟩:=bcs g4
  cases e1
  obtain ⟨e1,e3⟩:=as7 x4
  cases e1;cases e3
  clear hx x2 x3 x4 g1 g3 g4
  obtain ⟨msg,t2,t4,t5⟩:=ht _ _ hrs
  have hsz:vals.size=1:=hl.len.symm
  obtain ⟨v0,e0,hv0⟩:=hl.at (i:=0) rfl
  have bon:vals=#[v0]:=by
   apply Array.ext
   ·simpa using hsz
   ·intro i h1 h2
    have:i=0:=by omega
    subst this
    simpa using (Array.getElem?_eq_some_iff.1 e0).2
  subst bon
  refine (c3c msg v0 W (by omega) (bhp hs hv0 hk2 bxo t4) (bBp hg hs k0 (bkv c39) htab)).mono fun e W' he=>?_
  obtain ⟨he,hb⟩:=he
  exact ⟨σ,_,he,Grow.refl _ _ _,z00 hs hb,row_of t5,hb.mono hs.hB⟩
 ·cases hx
noncomputable def c56 (tab:List AV→Option (List AV)):LQ:=fun l s k=>match l with
 | [.s _ i2 o2 m _]=>bqe s fun s=>bnv (p4 i2) i2 o2 m s fun b s=>match b8x b with
  | .g bl=>opt (tab bl) fun rs=>V.iff (aRg rs) (k (.g (azg rs) rs.length) s)
  | _=>none
 | _=>none
theorem bSt (tab:List AV→Option (List AV)) (B:Nat) (s:CE.St) (f:QW) (x:List AV) (l:List FV) (hs:RS B s f) (h:RVs x l):Ok B RV (c56 tab l f) (bSv tab x s):=by
 obtain ⟨rfl,ho⟩:=h
 unfold c56
 split
 ·rename_i q2 i2 o2 m c
  have hq2:q2=p4 i2:=ho (.s q2 i2 o2 m c) (by simp)
  show Ok B RV _ (CE.bnd bii (fun _=>CE.bnd (rdK i2 o2 m) fun b=>CE.bnd (CE.lift (tab b)) fun rs=>CE.ret (.g rs)) s)
  refine bo7 (R:=RV) hs (g:=fun f k=>bnv (p4 i2) i2 o2 m f fun b s=>match b8x b with
   | .g bl=>opt (tab bl) fun rs=>V.iff (aRg rs) (k (.g (azg rs) rs.length) s)
   | _=>none) fun f s hs=>?_
  refine Ok.bnd (bd0 hs i2 o2 m) fun b f a s h hs=>?_
  obtain ⟨t2,rfl,rfl,ht2⟩:=h
  refine Ok.opt fun rs hrs=>Ok.lift hrs ?_
  refine Ok.iff fun h5=>?_
  have hc:=aRh rs h5
  exact Ok.ret (R:=RV) (b:=.g (azg rs) rs.length) (a:=.g rs) ⟨congrArg AV.g hc.1.symm,hc.2⟩ hs
 ·exact Ok.none
noncomputable def bM8 (tab:List AV→List AV→Option (List AV)):LQ:=fun l s k=>match l with
 | [.g t n,.s _ i2 o2 m _]=>bqe s fun s=>bnv (p4 i2) i2 o2 m s fun b s=>match b8x b with
  | .g bl=>opt (tab (ajn t 0 n) bl) fun rs=>V.iff (aRg rs) (k (.g (azg rs) rs.length) s)
  | _=>none
 | _=>none
theorem bM7 (tab:List AV→List AV→Option (List AV)) (B:Nat) (s:CE.St) (f:QW) (x:List AV) (l:List FV) (hs:RS B s f) (h:RVs x l):Ok B RV (bM8 tab l f) (bum tab x s):=by
 obtain ⟨rfl,ho⟩:=h
 unfold bM8
 split
 ·rename_i t n q2 i2 o2 m c
  have hq2:q2=p4 i2:=ho (.s q2 i2 o2 m c) (by simp)
  show Ok B RV _ (CE.bnd bii (fun _=>CE.bnd (rdK i2 o2 m) fun b=>CE.bnd (CE.lift (tab (ajn t 0 n) b)) fun rs=>CE.ret (.g rs)) s)
  refine bo7 (R:=RV) hs (g:=fun f k=>bnv (p4 i2) i2 o2 m f fun b s=>match b8x b with
   | .g bl=>opt (tab (ajn t 0 n) bl) fun rs=>V.iff (aRg rs) (k (.g (azg rs) rs.length) s)
   | _=>none) fun f s hs=>?_
  refine Ok.bnd (bd0 hs i2 o2 m) fun b f a s h hs=>?_
  obtain ⟨t2,rfl,rfl,ht2⟩:=h
  refine Ok.opt fun rs hrs=>Ok.lift hrs ?_
  refine Ok.iff fun h5=>?_
  have hc:=aRh rs h5
  exact Ok.ret (R:=RV) (b:=.g (azg rs) rs.length) (a:=.g rs) ⟨congrArg AV.g hc.1.symm,hc.2⟩ hs
 ·exact Ok.none
theorem bul {tab:List AV→List AV→Option (List AV)} (ht:c4b bun tab) (B:Nat) (σ:Sg) (m:Tr AB) (n:Nat) (l w:List LE) (W:World) (args:List AV) (v:AV) (m':Tr AB) (n':Nat) (l' w':List LE) (vals:Array Value)
  (hg:GS σ) (hs:SR Tryz.prog B σ m W) (hl:LR σ args vals) (hx:bum tab args ⟨m,n,l,w⟩=some (v,⟨m',n',l',w'⟩)) (_:b9l σ n n') :
  (callFunc 180 vals).run Tryz.prog W=.ok (.enter 180 vals) W∧Calls Tryz.prog 180 vals W (Done Tryz.prog B σ n n' m' v W):=by
 refine ⟨bEf vals W,?_⟩
 unfold bum at hx
 split at hx
 ·rename_i ks k2 o2 len cp
  obtain ⟨_,⟨m1,n1,l1,w1⟩,g1,x2⟩:=aka hx
  obtain ⟨e1,e2,e3,e4,c0,T0,k0,c39,htab⟩:=bix g1
  cases e1;cases e2;cases e3;cases e4
  obtain ⟨b,⟨m2,n2,l2,w2⟩,g3,x3⟩:=aka x2
  obtain ⟨e1,e2,c2,T2,hk2,bxo⟩:=bbg g3
  cases e1;cases e2
  obtain ⟨rs,s1,g4,x4⟩:=aka x3
  obtain ⟨hrs,e1⟩:=bcs g4
  cases e1
  obtain ⟨e1,e3⟩:=as7 x4
  cases e1;cases e3
  clear hx x2 x3 x4 g1 g3 g4
  obtain ⟨key,msg,t1,t2,t3,t4,t5⟩:=ht _ _ _ hrs
  have hsz:vals.size=2:=hl.len.symm
  obtain ⟨v0,e0,hv0⟩:=hl.at (i:=0) rfl
  obtain ⟨v1,e1,hv1⟩:=hl.at (i:=1) rfl
  have bon:vals=#[v0,v1]:=by
   apply Array.ext
   ·simpa using hsz
   ·intro i h1 h2
    have:i=0∨i=1:=by omega
    rcases this with rfl | rfl
    ·simpa using (Array.getElem?_eq_some_iff.1 e0).2
    ·simpa using (Array.getElem?_eq_some_iff.1 e1).2
  subst bon
  obtain ⟨c,rfl,hc⟩:=hv0.buc
  obtain rfl:=bxu hc t3
  refine (bki key msg v1 t1 t2 W (bhp hs hv1 hk2 bxo t4) (bBp hg hs k0 (bkv c39) htab)).mono fun e W' he=>?_
  obtain ⟨he,hb⟩:=he
  exact ⟨σ,_,he,Grow.refl _ _ _,z00 hs hb,row_of t5,hb.mono hs.hB⟩
 ·cases hx
theorem enters (f:Nat) (h : ∃ fn:Func,Tryz.prog.funcs[f]? = some fn∧fn.body.isNone=false∧(fn.name == "runtime.NumGoroutine")=false) (vals:Array Value) (W:World):(callFunc f vals).run Tryz.prog W=.ok (.enter f vals) W:=by
 obtain ⟨fn,h0,h1,h2⟩:=h
 unfold callFunc
 simp only [Sem.run_bind,run_program,Result.andThen_ok,h0,h1,h2,Bool.false_eq_true,if_false,Sem.run_pure]
theorem bFw:Good Tryz.prog 180 (bM8 bmu) (bum bmu):=⟨bEh _,bul bEg,bM7 _⟩
end
end V
end Go.CE
namespace Go.CE
namespace V
open Go.Proofs Go.Proofs.YtlnlbdfokmhelaaGreatDoor Go.RowKit
section
variable [Sym]
def bo1 (g:Nat→Nat→AV):List AV→X AV:=fun args=>match args with
 | [.i .i64 (.ofNat a),.i .i64 (.ofNat b)]=>CE.bnd (CE.chk (Nat.ble a 18&&Nat.ble b 16)) fun _=>CE.ret (g a b)
 | _=>CE.fail
theorem bqk (g:Nat→Nat→AV) (x:List AV):Loc (bo1 g x):=by
 unfold bo1
 split
 ·exact Loc.bnd (Loc.chk _) fun _=>Loc.ret _
 ·exact Loc.fail
def bAq (a b:Nat):AV:=match bta a b with
 | true=>.b true
 | false=>.b false
def bkf (a b:Nat):AV:=.t [.i .i64 (.ofNat (c2i a b).1),.i .i64 (.ofNat (c2i a b).2)]
end
section
variable [Sym] [avd]
theorem bHg {σ:Sg} {x y:AV} {vals:Array Value} (hl:LR σ [x,y] vals) : ∃ v0 v1,vals=#[v0,v1]∧VR σ x v0∧VR σ y v1:=by
 have hsz:vals.size=2:=hl.len.symm
 obtain ⟨v0,e0,hv0⟩:=hl.at (i:=0) rfl
 obtain ⟨v1,e1,hv1⟩:=hl.at (i:=1) rfl
 refine ⟨v0,v1,?_,hv0,hv1⟩
 apply Array.ext
 ·simpa using hsz
 ·intro i h1 h2
  have:i=0∨i=1:=by omega
  rcases this with rfl | rfl
  ·simpa using (Array.getElem?_eq_some_iff.1 e0).2
  ·simpa using (Array.getElem?_eq_some_iff.1 e1).2
theorem bk3 {f:Nat} {g:Nat→Nat→AV} (hen:∀ (vals:Array Value) (W:World),(callFunc f vals).run Tryz.prog W=.ok (.enter f vals) W)
  (c3c:∀ (a b:Nat) (w:World),a < 19→b < 17→Calls Tryz.prog f #[.int .i64 (a:Int),.int .i64 (b:Int)] w fun e w' => ∃ u,e=.returned u∧(∀ σ,VR σ (g a b) u)∧Below w.heap.size w w')
  (B:Nat) (σ:Sg) (m:Tr AB) (n:Nat) (l w:List LE) (W:World) (args:List AV) (v:AV) (m':Tr AB) (n':Nat) (l' w':List LE) (vals:Array Value)
  (_:GS σ) (hs:SR Tryz.prog B σ m W) (hl:LR σ args vals) (hx:bo1 g args ⟨m,n,l,w⟩=some (v,⟨m',n',l',w'⟩)) (_:b9l σ n n') :
  (callFunc f vals).run Tryz.prog W=.ok (.enter f vals) W∧Calls Tryz.prog f vals W (Done Tryz.prog B σ n n' m' v W):=by
 refine ⟨hen vals W,?_⟩
 unfold bo1 at hx
 split at hx
 ·rename_i a b
  obtain ⟨_,s1,g2,x2⟩:=aka hx
  obtain ⟨hc,e1⟩:=b9x g2
  cases e1
  obtain ⟨e1,e3⟩:=as7 x2
  cases e1;cases e3
  simp only [Bool.and_eq_true] at hc
  obtain ⟨v0,v1,rfl,h0,h1⟩:=bHg hl
  cases h0;cases h1
  refine (c3c a b W (by have:=bbm hc.1;omega) (by have:=bbm hc.2;omega)).mono fun e W' he=>?_
  obtain ⟨u,he,hu,hb⟩:=he
  exact ⟨σ,u,he,Grow.refl _ _ _,z00 hs hb,hu σ,hb.mono hs.hB⟩
 ·cases hx
noncomputable def byv (g:Nat→Nat→AV):LQ:=fun l s k=>match l with
 | [.i .i64 a,.i .i64 b]=>V.iff (Nat.ble a 18&&Nat.ble b 16) (k (ofV (g a b)) s)
 | _=>none
theorem bw7 (g:Nat→Nat→AV) (B:Nat) (s:CE.St) (f:QW) (x:List AV) (l:List FV) (hs:RS B s f) (h:RVs x l):Ok B RV (byv g l f) (bo1 g x s):=by
 obtain ⟨rfl,ho⟩:=h
 unfold byv
 split
 ·rename_i a b
  show Ok B RV _ (CE.bnd (CE.chk (Nat.ble a 18&&Nat.ble b 16)) (fun _=>CE.ret (g a b)) s)
  refine Ok.iff fun h5=>Ok.chk h5 ?_
  exact Ok.ret (R:=RV) (b:=ofV (g a b)) (a:=g a b) (bC2 _) hs
 ·exact Ok.none
theorem bAp:Good Tryz.prog 79 (byv bAq) (bo1 bAq) :=
 ⟨bqk _,bk3 (enters _ ⟨_,Tryz.func79,by kernel_rfl,by kernel_rfl⟩) (fun a b w h1 h2=>(by9 a b h1 h2 w).mono fun e w' he=>⟨_,he.1,(fun σ=>by
  unfold bAq
  cases bta a b
  ·exact .b _
  ·exact .b _),he.2⟩),bw7 _⟩
theorem bue:Good Tryz.prog 139 (byv bkf) (bo1 bkf) :=
 ⟨bqk _,bk3 (enters _ ⟨_,Tryz.func139,by kernel_rfl,by kernel_rfl⟩) (fun a b w h1 h2=>(br1 a b h1 h2 w).mono fun e w' he=>⟨_,he.1,(fun σ=>by
  unfold bkf
  refine .t _ _ rfl fun i x v e1 e2=>?_
  have hi:i < 2:=(List.getElem?_eq_some_iff.1 e1).1
  have:i=0∨i=1:=by omega
  rcases this with rfl | rfl
  ·cases e1;cases e2;exact .i _ _
  ·cases e1;cases e2;exact .i _ _),he.2⟩),bw7 _⟩
end
end V
end Go.CE
namespace Go.Proofs.YtlnlbdfokmhelaaGreatDoor
open Go.RowKit
set_option maxHeartbeats 400000 in
theorem bi4 (n:Int) (w:World) :
  Calls Tryz.prog 211 #[.int .i64 n] w fun e w' => ∃ b,e=.returned (.slice (some ⟨b,0,none⟩) 8 8)∧w.heap.size≤b∧obj w' b=some (.cells (as3 (le8 (u64 n))) 222 (0,0))∧Below w.heap.size w w':=by
 have hw:=Lib.hid (bHf n)
 have hu:=bY7 n
 generalize u64 n=N at *
 go_enter Tryz.func211,Tryz.ntmps211
 repeat' (first | go_skip | go_guarded | go_step | go_upon)
 go_loopw [5] (fun i wr => ∃ k:Nat,k≤8∧i=.int .i64 k∧obj wr w.heap.size=some (.cells (as3 (leK N k)) 222 (0,0))∧Below w.heap.size w wr)
  (fun i _=>(8 - intOf i).toNat)
 case atStart =>
  refine ⟨0,by omega,rfl,?_,(Below.refl _ _).alloc (Nat.le_refl _) _⟩
  rw [aff _ _ _ rfl,bh6]
 case round =>
  obtain ⟨k,hk,rfl,h1,hB⟩:=hrel
  have c:=abm h1
  by_cases hlt:k < 8
  ·have c0:wr.cell? ⟨w.heap.size,k,none⟩=some (B8 ((leK N k).getD k 0).toNat):=(c k).trans (bas _ _ (by rw [bmq _ _ hk];exact hlt))
   have f0:=azi h1 k
   have HV:=Lib.hid (bsk N k)
   have HS:=Lib.hid (bEb N k hlt)
   have p0:0≤8 * (k:Int):=by omega
   have p1:8 * (k:Int)≤64:=by omega
   have n0:(8 * (k:Int)).toNat=8 * k:=by omega
   clear c
   repeat' (first | go_skip | go_guarded | go_step | go_upon)
   go_roundw
   case rel =>
    refine ⟨k+1,by omega,by go_num,?_,hB.setCell (by simp) _⟩
    rw [avb,h1,hw.out,HV.out,← HS.out,← bfb];rfl
   case measure=>simp [intOf];omega
  ·have h1':obj wr w.heap.size=some (.cells (as3 (le8 N)) 222 (0,0)):=by rw [h1,show k=8 by omega,bx2]
   repeat' (first | go_skip | go_guarded | go_step | go_upon)
   go_ret
   exact ⟨_,rfl,Nat.le_refl _,h1',hB⟩
def bkj (n:Int):Bool:=decide (0≤n)&&decide (n < 16)
set_option maxHeartbeats 400000 in
theorem b9g (n:Int) (w:World):Calls Tryz.prog 222 #[.int .i64 n] w fun e w'=>e=.returned (.bool (bkj n))∧w' = w:=by
 by_cases h:0≤n
 ·go_enter Tryz.func222,Tryz.ntmps222
  repeat' (first | go_skip | go_guarded | go_step | go_upon)
  go_ret
  exact ⟨by simp [bkj,h],rfl⟩
 ·go_enter Tryz.func222,Tryz.ntmps222
  repeat' (first | go_skip | go_guarded | go_step | go_upon)
  go_ret
  exact ⟨by simp [bkj,h],rfl⟩
end Go.Proofs.YtlnlbdfokmhelaaGreatDoor
namespace Go.CE
namespace V
open Go.Proofs Go.Proofs.YtlnlbdfokmhelaaGreatDoor Go.RowKit
section
variable [Sym] [avd]
theorem SR.bre {P:Program} {B:Nat} {σ:Sg} {m:Tr AB} {W W':World} (hs:SR P B σ m W) (hW:Below W.heap.size W W') {k:Nat} {q:Pl} {x:AB} {o:Obj} (hk:σ k=none) (hq:W.heap.size≤q.b) (ho:W'.heap[q.b]? = some o) (hx:BR P (σ.add k q) k q x o) :
  SR P B (σ.add k q) (m.set k (some x)) W':=by
 have hle:=Sg.bc6 (q:=q) hk
 have old:∀ j y,m.get j=some y→∃ p o,σ j=some p∧p.b < W.heap.size∧W.heap[p.b]? = some o∧BR P σ j p y o:=fun j y hj=>by
  obtain ⟨p,o,h1,h2,h3⟩:=hs.mr j y hj
  exact ⟨p,o,h1,(Array.getElem?_eq_some_iff.1 h2).1,h2,h3⟩
 refine ⟨fun j y hj=>?_,fun i j p1 p2 hi hj s1 s2 he=>?_,fun j p hj hr=>?_,Nat.le_trans hs.hB hW.size⟩
 ·rw [Tr.azk] at hj
  by_cases h:j=k
  ·subst h
   rw [if_pos rfl] at hj;cases hj
   exact ⟨q,o,by simp [Sg.add],ho,hx⟩
  ·rw [if_neg h] at hj
   obtain ⟨p,o',h1,h2,h3,h4⟩:=old j y hj
   exact ⟨p,o',hle _ _ h1,(hW.block p.b h2).trans h3,h4.mono hle⟩
 ·have key:∀ j p,(m.set k (some x)).get j≠none→σ.add k q j=some p→(j=k∧p.b=q.b)∨(j≠k∧m.get j≠none∧σ j=some p∧p.b < W.heap.size):=fun j p hj hσ=>by
   rw [Tr.azk] at hj
   unfold Sg.add at hσ
   by_cases h:j=k
   ·rw [if_pos h] at hσ;cases hσ;exact .inl ⟨h,rfl⟩
   ·rw [if_neg h] at hσ hj
    obtain ⟨y,hy⟩:=Option.ne_none_iff_exists'.1 hj
    obtain ⟨p',o',h1,h2,_⟩:=old j y hy
    rw [hσ] at h1;cases h1
    exact .inr ⟨h,hj,hσ,h2⟩
  rcases key i p1 hi s1 with ⟨rfl,hb⟩ | ⟨_,a1,a2,a3⟩<;>rcases key j p2 hj s2 with ⟨rfl,hb'⟩ | ⟨_,c1,c2,c3⟩
  ·rfl
  ·omega
  ·omega
  ·exact hs.inj i j p1 p2 a1 c1 a2 c2 he
 ·unfold Sg.add at hj
  by_cases h:j=k
  ·rw [if_pos h] at hj;cases hj;exact Nat.le_trans hs.hB hq
  ·rw [if_neg h] at hj;exact hs.ro j p hj hr
end
def br5 (n:Nat):List Nat:=[n % 256,n >>> 8 % 256,n >>> 16 % 256,n >>> 24 % 256,n >>> 32 % 256,n >>> 40 % 256,n >>> 48 % 256,n >>> 56 % 256]
theorem bj1 (n:Nat):as5 (le8 n)=br5 n:=by
 unfold as5 le8 br5
 rw [List.map_map]
 simp only [Function.comp_def,bco]
 rfl
section
variable [Sym]
noncomputable def bUy:List AV→X AV:=fun args=>match args with
 | [.i .i64 (.ofNat n)]=>CE.bnd (CE.chk (Nat.ble n 9223372036854775807)) fun _=>CE.bnd (ba9 false (.cells ((br5 n).map b9i) 222)) fun k=>CE.ret (.sl (some (k,0)) 8 8)
 | _=>CE.fail
theorem bLm (x:List AV):Loc (bUy x):=by
 unfold bUy
 split
 ·exact Loc.bnd (Loc.chk _) fun _=>Loc.bnd (Loc.ba9 _ _) fun _=>Loc.ret _
 ·exact Loc.fail
end
section
variable [Sym] [avd]
theorem bz2 (B:Nat) (σ:Sg) (m:Tr AB) (n:Nat) (l w:List LE) (W:World) (args:List AV) (v:AV) (m':Tr AB) (n':Nat) (l' w':List LE) (vals:Array Value)
  (_:GS σ) (hs:SR Tryz.prog B σ m W) (hl:LR σ args vals) (hx:bUy args ⟨m,n,l,w⟩=some (v,⟨m',n',l',w'⟩)) (hfr:b9l σ n n') :
  (callFunc 211 vals).run Tryz.prog W=.ok (.enter 211 vals) W∧Calls Tryz.prog 211 vals W (Done Tryz.prog B σ n n' m' v W):=by
 refine ⟨enters _ ⟨_,Tryz.func211,by kernel_rfl,by kernel_rfl⟩ vals W,?_⟩
 unfold bUy at hx
 split at hx
 ·rename_i N
  obtain ⟨_,s1,g2,x2⟩:=aka hx
  obtain ⟨hc,e1⟩:=b9x g2
  cases e1
  obtain ⟨k,⟨m1,n1,l1,w1⟩,g3,x3⟩:=aka x2
  obtain ⟨rfl,rfl,rfl⟩:=bbk g3
  obtain ⟨e1,e3⟩:=as7 x3
  cases e1;cases e3
  have hsz:vals.size=1:=hl.len.symm
  obtain ⟨v0,e0,hv0⟩:=hl.at (i:=0) rfl
  have bon:vals=#[v0]:=by
   apply Array.ext
   ·simpa using hsz
   ·intro i h1 h2
    have:i=0:=by omega
    subst this
    simpa using (Array.getElem?_eq_some_iff.1 e0).2
  subst bon
  cases hv0
  have hN:=bbm hc
  have hk:σ (b61 false n)=none:=hfr _ (aIr false n).1 (aIr false n).2
  refine (bi4 (Int.ofNat N) W).mono fun e W' he=>?_
  obtain ⟨b,he,hb,ho,hB⟩:=he
  have hu:u64 (Int.ofNat N)=N:=by unfold u64;show ((N:Int) % 18446744073709551616).toNat=N;omega
  rw [hu] at ho
  have hlr:∀ τ,LR τ ((br5 N).map b9i) (as3 (le8 N)):=fun τ=>by
   rw [← bj1,bf9]
   have:=row_of (σ:=τ) (rs:=(le8 N).map bao) (l:=le8 N) (by rw [List.map_map];rfl)
   cases this with
   | g _ _ hl h=>exact ⟨hl,h⟩
  have hS:=SR.bre hs hB (k:=b61 false n) (q:=⟨b,0,0,0⟩) hk hb ho (BR.cells (hlr _) (bab false n))
  refine ⟨σ.add (b61 false n) ⟨b,0,0,0⟩,_,he,Grow.add hk (aIr false n),hS,?_,hB.mono hs.hB⟩
  exact .sl _ 0 8 8 8 ⟨b,0,0,0⟩ (by simp [Sg.add]) (Nat.le_refl _) (fun _=>rfl) (fun h=>by rw [bab] at h;cases h)
 ·cases hx
noncomputable def c5k:LQ:=fun l s k=>match l with
 | [.i .i64 n]=>V.iff (Nat.ble n 9223372036854775807) (bpg (br5 n) fun bs=>bem false (.cells (azg (bs.map b9i)) 8 222) s fun q i s=>k (.s q i 0 8 8) s)
 | _=>none
theorem bUx (B:Nat) (s:CE.St) (f:QW) (x:List AV) (l:List FV) (hs:RS B s f) (h:RVs x l):Ok B RV (c5k l f) (bUy x s):=by
 obtain ⟨rfl,ho⟩:=h
 unfold c5k
 split
 ·rename_i n
  show Ok B RV _ (CE.bnd (CE.chk (Nat.ble n 9223372036854775807)) (fun _=>CE.bnd (ba9 false (.cells ((br5 n).map b9i) 222)) fun k=>CE.ret (.sl (some (k,0)) 8 8)) s)
  refine Ok.iff fun h5=>Ok.chk h5 ?_
  simp only [bcv]
  have hc:=aRh ((br5 n).map b9i) rfl
  have h8:((br5 n).map b9i).length=8:=rfl
  rw [h8] at hc
  exact b4w hs false 222 hc.1 hc.2 (R:=RV) (x:=fun q i s (k:FV→QW→Ans)=>k (FV.s q i 0 8 8) s) (y:=fun k=>CE.ret (.sl (some (k,0)) 8 8)) fun i f s hs =>
   Ok.ret (R:=RV) (b:=.s (p4 i) i 0 8 8) (a:=.sl (some (i,0)) 8 8) (bO0 i 0 8 8) hs
 ·exact Ok.none
theorem bLl:Good Tryz.prog 211 c5k bUy:=⟨bLm,bz2,bUx⟩
end
end V
end Go.CE
namespace Go.Proofs.YtlnlbdfokmhelaaGreatDoor
open Go.RowKit
set_option maxHeartbeats 1000000 in
set_option maxRecDepth 100000 in
theorem bpr (M:List UInt8) (v:Value) (hM:M.length≤1099511627776) (w:World) (hv:bhe w v M) (hT:Tab w):Calls Tryz.prog 172 #[v] w fun e w'=>e=.returned (.agg (as3 (b9o M)))∧Below w.heap.size w w':=by
 have hv':=hv
 obtain ⟨ao,n,c,rfl,rfl,_⟩:=hv'
 have hB:Below w.heap.size w ((w.alloc (.cells z46 46 (0,0))).alloc (.cells #[.slice ao M.length c] 76 (0,0))):=((Below.refl _ _).alloc (Nat.le_refl _) _).alloc (by simp) _
 have hP:PartsAt ((w.alloc (.cells z46 46 (0,0))).alloc (.cells #[.slice ao M.length c] 76 (0,0))) (.slice (some ⟨w.heap.size+1,0,none⟩) 1 1) [M] :=
  bw6 (ls:=[M]) (aff (w.alloc (.cells z46 46 (0,0))) (.cells #[.slice ao M.length c] 76 (0,0)) _ (by simp)) fun k hk=>by
   have:k=0:=by simpa using hk
   subst this
   exact ⟨_,rfl,hv.below hB⟩
 have hT':Tab ((w.alloc (.cells z46 46 (0,0))).alloc (.cells #[.slice ao M.length c] 76 (0,0))):=hT.below hB (by obtain ⟨cs,T,fr,q,_⟩:=hT;exact ah1 q)
 have hc:=bd3 (.slice (some ⟨w.heap.size+1,0,none⟩) 1 1) [M] (by simpa using hM) (by simp) _ hP hT'
 have e1:[M].flatten=M:=by simp
 rw [e1] at hc
 have HC:=Lib.hid hc
 have h0:obj ((w.alloc (.cells z46 46 (0,0))).alloc (.cells #[.slice ao M.length c] 76 (0,0))) w.heap.size=some (.cells z46 46 (0,0)):=ab6 (aff _ _ _ rfl) _
 have r1:(as3 (b9o M)).size=32:=by rw [ave,aBi]
 have r2:(as3 (b9o M)).extract 0 32=as3 (b9o M):=b90 _ _ (aBi _)
 have r3:ones (as3 (b9o M))=true:=aZ1 _
 clear hc hP hT' hT hv
 generalize as3 (b9o M)=R at *
 go_enter Tryz.func172,Tryz.ntmps172
 repeat' (first | (go_at_call 173;((with_reducible refine (HC.out).mono ?_));rintro r w2 ⟨rfl,hb2⟩;have h2:=aa1 h0 hb2 (ah1 h0);have hB2:=hB.trans (hb2.mono hB.size);dsimp only) | go_skip | go_guarded | go_step | go_upon)
 refine bodyPost_ret (results_cell_row rfl _ _ w.heap.size 46 R _ _ rfl (setRow_heap _ _ _ _ _ _ h2) Tryz.underlying46 rfl (by rw [r1];kernel_rfl)) rfl ?_
 exact ⟨rfl,below_setRow hB2 (Nat.le_refl _) _⟩
end Go.Proofs.YtlnlbdfokmhelaaGreatDoor
namespace Go.CE
namespace V
open Go.Proofs Go.Proofs.YtlnlbdfokmhelaaGreatDoor Go.RowKit
section
variable [Sym] [avd]
theorem bFv:Good Tryz.prog 172 (c56 bay) (bSv bay) :=
 ⟨bI7 _,byd (enters _ ⟨_,Tryz.func172,by kernel_rfl,by kernel_rfl⟩) (fun M v w hM hv hT=>bpr M v hM w hv hT) bjn,bSt _⟩
end
end V
end Go.CE
