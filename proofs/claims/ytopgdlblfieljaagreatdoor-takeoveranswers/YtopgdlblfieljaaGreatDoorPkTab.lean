/-
  Laws of the digests on known bytes: the digest is a closed term that the kernel reckons once.
-/
import Derived.Test.YtopgdlblfieljaaGreatDoorPkHash
import Derived.Test.YtopgdlblfieljaaGreatDoorPkRefE
import Derived.Test.YtopgdlblfieljaaGreatDoorPkLet
import Derived.Test.YtopgdlblfieljaaGreatDoorPkLaw
import Derived.WalkKit
import Derived.WalkSpells
import Derived.WalkLawsBesides
import Derived.Handy
import Derived.Lib.Hide
import Derived.Laws.CopyOwn
import Derived.Deep.QuietTactic
import Derived.BigQuiet
import Derived.BigRegion
import Derived.StillTailTactics
import Derived.RegionTactic
import Derived.LoopTactic
import Derived.Test.YtopgdlblfieljaaGreatDoorProg
set_option linter.unusedSectionVars false
set_option linter.constructorNameAsVariable false
set_option linter.unusedVariables false
set_option linter.unusedSimpArgs false
namespace Go.CE
namespace V
open Go.Proofs Go.Proofs.YtopgdlblfieljaaGreatDoor Go.RowKit
def a3m (n:Nat):AV:=.i .u8 (.ofNat n)
theorem abq:∀ k:List Nat,(∀ n∈k,n < 256)→a0j (k.map UInt8.ofNat)=k
 | [],_=>rfl
 | n :: k,h=>by
  have h1:=h n (by simp)
  have ih:=abq k (fun m hm=>h m (by simp [hm]))
  unfold a0j at *
  simp only [List.map_cons,ih]
  congr 1
  simp;omega
theorem aa2 (l:List UInt8):(a0j l).map a3m=l.map a5d:=by
 unfold a0j a3m a5d
 rw [List.map_map];rfl
section
variable [Sym]
noncomputable def ahx (ks b:List AV):Option (List AV):=match a4c ks,a4c b with
 | some k,some m=>match Nat.beq k.length 32&&Nat.ble m.length 1000000000 with
  | true=>ake k fun k=>ake m fun m=>ake (keyV k m) fun l=>some (l.map a3m)
  | false=>none
 | _,_=>none
noncomputable def a5l (b:List AV):Option (List AV):=match a4c b with
 | some m=>match Nat.ble m.length 1000000000 with
  | true=>ake m fun m=>ake (shaV m) fun l=>some (l.map a3m)
  | false=>none
 | _=>none
theorem aby {l:List AV} {r:List Nat} (h:a4c l=some r):l.map den=(r.map UInt8.ofNat).map a5d∧a0j (r.map UInt8.ofNat)=r:=by
 obtain ⟨rfl,hr⟩:=a6z h
 have hn:=abq r hr
 refine ⟨?_,hn⟩
 rw [← aa2,hn,List.map_map]
 rfl
theorem az6:aY9 ap3 ahx:=by
 intro ks b rs h
 unfold ahx at h
 split at h
 ·rename_i k m hk hm
  split at h
  ·rename_i hc
   simp only [Bool.and_eq_true] at hc
   obtain ⟨d1,n1⟩:=aby hk
   obtain ⟨d2,n2⟩:=aby hm
   refine ⟨k.map UInt8.ofNat,m.map UInt8.ofNat,by rw [List.length_map];exact a92 hc.1,by rw [List.length_map];exact a6e hc.2,d1,d2,?_⟩
   rw [a7q,a7q,a7q,← n1,← n2,aPx,aa2] at h
   cases h
   rw [List.map_map]
   rfl
  ·cases h
 ·cases h
def asf (F:List UInt8→List UInt8) (tab:List AV→Option (List AV)):Prop:=∀ b rs,tab b=some rs →
 ∃ msg:List UInt8,msg.length≤1000000000∧b.map den=msg.map a5d∧rs.map den=(F msg).map a5d
theorem aeq:asf a3t a5l:=by
 intro b rs h
 unfold a5l at h
 split at h
 ·rename_i m hm
  split at h
  ·rename_i hc
   obtain ⟨d2,n2⟩:=aby hm
   refine ⟨m.map UInt8.ofNat,by rw [List.length_map];exact a6e hc,d2,?_⟩
   rw [a7q,a7q,← n2,aNo,aa2] at h
   cases h
   rw [List.map_map]
   rfl
  ·cases h
 ·cases h
def adr:X Unit:=fun s=>match s with
 | ⟨m,x,l,w⟩=>match m.get 0 with
  | some (.cells cs _)=>match Nat.beq cs.length 64&&aRo cs with
   | true=>some ((),⟨m,x,whole 0 :: l,w⟩)
   | false=>none
  | _=>none
theorem ae1 {n n':Nat} {m m':Tr AB} {l l' w w':List LE} {u:Unit} (h:adr ⟨m,n,l,w⟩=some (u,⟨m',n',l',w'⟩)):m' = m∧n' = n∧l' = whole 0 :: l∧w' = w∧∃ cs T,m.get 0=some (.cells cs T)∧cs.length=64∧aRo cs=true:=by
 unfold adr at h
 dsimp only at h
 split at h
 ·rename_i cs T hk
  split at h
  ·rename_i hc
   simp only [Bool.and_eq_true] at hc
   simp only [Option.some.injEq,Prod.mk.injEq,CE.St.mk.injEq] at h
   obtain ⟨_,rfl,rfl,rfl,rfl⟩:=h
   exact ⟨rfl,rfl,rfl,rfl,cs,T,hk,a92 hc.1,hc.2⟩
  ·cases h
 ·cases h
theorem agi:Loc adr:=by
 intro m n l w a m' n' l' w' h
 obtain ⟨rfl,rfl,rfl,rfl,cs,T,hk,h1,h2⟩:=ae1 h
 refine ⟨Nat.le_refl _,[whole 0],[],rfl,rfl,(fun _ h=>by cases h),keeps.refl _,fun m2 l2 w2 hag=>⟨m2,?_,hag,keeps.refl _⟩⟩
 have:=agf (hag _ (List.mem_singleton.2 rfl))
 have e:Nat.beq cs.length 64=true:=by rw [h1];rfl
 unfold adr
 dsimp only
 rw [← this,hk]
 dsimp only
 rw [e,h2]
 rfl
theorem afz {l:List AV} (h:l.length=64):cut l 0 64=some l:=by
 unfold cut
 have e:(l.drop 0).take 64=l:=by rw [List.drop_zero,List.take_of_length_le (by omega)]
 simp only [e,h]
noncomputable def al9 (s:QW) (k:QW→Ans):Ans:=match s with
 | ⟨m,nx,base,lg,wl⟩=>match getM (p4 0) m with
  | .cells t n _=>V.iff (Nat.beq (a07 t 0 n).length 64&&aRo (a07 t 0 n)) (k ⟨m,nx,base,a9y base 0 (whole 0) lg,wl⟩)
  | _=>none
theorem aj6 [a0n] {B:Nat} {s:CE.St} {f:QW} (hs:RS B s f) {α β:Type} {R:α→β→Prop} {g:QW→(β→QW→Ans)→Ans} {h:Unit→X α} (hg:∀ f s,RS B s f→Ok B R (g f) (h () s)):Ok B R (fun k=>al9 f fun f=>g f k) (CE.bnd adr h s):=fun k r hk=>by
 obtain ⟨m,n,lg,w⟩:=s
 obtain ⟨fm,nx,base,lg',wl⟩:=f
 have hm:=hs.m 0
 dsimp only at hm
 unfold al9 at hk
 dsimp only at hk
 generalize getM (p4 0) fm=b at hm hk
 generalize hmi:m.get 0=a at hm
 cases hm with
 | cells t N T hok =>
  dsimp only at hk
  cases hc:(Nat.beq (a07 t 0 N).length 64&&aRo (a07 t 0 N)) with
  | false=>rw [hc] at hk;cases hk
  | true =>
   rw [hc] at hk
   obtain ⟨b,f',a,s',e,q1,q2,q3⟩:=hg _ _ (hs.log (whole 0) (hs.mb 0 _ hmi)) k r hk
   refine ⟨b,f',a,s',?_,q1,q2,q3⟩
   unfold CE.bnd adr
   dsimp only
   rw [hmi]
   dsimp only
   rw [hc]
   exact e
 | _=>cases hk
def aNe (tab:List AV→Option (List AV)):List AV→X AV:=fun args=>match args with
 | [.sl (some (k2,o2)) n _]=>CE.bnd adr fun _=>CE.bnd (rdK k2 o2 n) fun b=>CE.bnd (CE.lift (tab b)) fun rs=>CE.ret (.g rs)
 | _=>CE.fail
def ap2 (tab:List AV→List AV→Option (List AV)):List AV→X AV:=fun args=>match args with
 | [.g ks,.sl (some (k2,o2)) n _]=>CE.bnd adr fun _=>CE.bnd (rdK k2 o2 n) fun b=>CE.bnd (CE.lift (tab ks b)) fun rs=>CE.ret (.g rs)
 | _=>CE.fail
theorem az7 (tab:List AV→List AV→Option (List AV)) (x:List AV):Loc (ap2 tab x):=by
 unfold ap2
 split
 ·exact Loc.bnd agi fun _=>Loc.bnd (Loc.rdK _ _ _) fun _=>Loc.bnd (Loc.lift _) fun _=>Loc.ret _
 ·exact Loc.fail
theorem aCm (tab:List AV→Option (List AV)) (x:List AV):Loc (aNe tab x):=by
 unfold aNe
 split
 ·exact Loc.bnd agi fun _=>Loc.bnd (Loc.rdK _ _ _) fun _=>Loc.bnd (Loc.lift _) fun _=>Loc.ret _
 ·exact Loc.fail
end
section
variable [Sym] [a0n]
theorem asx {f:Nat} (hen:∀ (vals:Array Value) (W:World),(callFunc f vals).run Tryz.prog W=.ok (.enter f vals) W)
  (aWv:∀ (M:List UInt8) (v:Value) (w:World),M.length≤1099511627776→acd w v M→Tab w→Calls Tryz.prog f #[v] w fun e w'=>e=.returned (.agg (a0i (a3t M)))∧Below w.heap.size w w')
  {tab:List AV→Option (List AV)} (ht:asf a3t tab) (B:Nat) (σ:Sg) (m:Tr AB) (n:Nat) (l w:List LE) (W:World) (args:List AV) (v:AV) (m':Tr AB) (n':Nat) (l' w':List LE) (vals:Array Value)
  (hg:GS σ) (hs:SR Tryz.prog B σ m W) (hl:LR σ args vals) (hx:aNe tab args ⟨m,n,l,w⟩=some (v,⟨m',n',l',w'⟩)) (_:a3q σ n n') :
  (callFunc f vals).run Tryz.prog W=.ok (.enter f vals) W∧Calls Tryz.prog f vals W (Done Tryz.prog B σ n n' m' v W):=by
 refine ⟨hen vals W,?_⟩
 unfold aNe at hx
 split at hx
 ·rename_i k2 o2 len cp
  obtain ⟨_,⟨m1,n1,l1,w1⟩,g1,x2⟩:=a08 hx
  obtain ⟨e1,e2,e3,e4,c0,T0,k0,aWs,htab⟩:=ae1 g1
  cases e1;cases e2;cases e3;cases e4
  obtain ⟨b,⟨m2,n2,l2,w2⟩,g3,x3⟩:=a08 x2
  obtain ⟨e1,e2,c2,T2,hk2,as4⟩:=a5y g3
  cases e1;cases e2
  obtain ⟨rs,s1,g4,x4⟩:=a08 x3
  obtain ⟨hrs,e1⟩:=a7o g4
  cases e1
  obtain ⟨e1,e3⟩:=a0k x4
  cases e1;cases e3
  clear hx x2 x3 x4 g1 g3 g4
  obtain ⟨msg,t2,t4,t5⟩:=ht _ _ hrs
  have hsz:vals.size=1:=hl.len.symm
  obtain ⟨v0,e0,hv0⟩:=hl.at (i:=0) rfl
  have ajl:vals=#[v0]:=by
   apply Array.ext
   ·simpa using hsz
   ·intro i h1 h2
    have:i=0:=by omega
    subst this
    simpa using (Array.getElem?_eq_some_iff.1 e0).2
  subst ajl
  refine (aWv msg v0 W (by omega) (acs hs hv0 hk2 as4 t4) (awq hg hs k0 (afz aWs) htab)).mono fun e W' he=>?_
  obtain ⟨he,hb⟩:=he
  exact ⟨σ,_,he,Grow.refl _ _ _,adp hs hb,row_of t5,hb.mono hs.hB⟩
 ·cases hx
noncomputable def aZ2 (tab:List AV→Option (List AV)):LQ:=fun l s k=>match l with
 | [.s _ i2 o2 m _]=>al9 s fun s=>aiv (p4 i2) i2 o2 m s fun b s=>match a2t b with
  | .g bl=>opt (tab bl) fun rs=>V.iff (a1f rs) (k (.g (a0r rs) rs.length) s)
  | _=>none
 | _=>none
theorem aNc (tab:List AV→Option (List AV)) (B:Nat) (s:CE.St) (f:QW) (x:List AV) (l:List FV) (hs:RS B s f) (h:RVs x l):Ok B RV (aZ2 tab l f) (aNe tab x s):=by
 obtain ⟨rfl,ho⟩:=h
 unfold aZ2
 split
 ·rename_i q2 i2 o2 m c
  have hq2:q2=p4 i2:=ho (.s q2 i2 o2 m c) (by simp)
  show Ok B RV _ (CE.bnd adr (fun _=>CE.bnd (rdK i2 o2 m) fun b=>CE.bnd (CE.lift (tab b)) fun rs=>CE.ret (.g rs)) s)
  refine aj6 (R:=RV) hs (g:=fun f k=>aiv (p4 i2) i2 o2 m f fun b s=>match a2t b with
   | .g bl=>opt (tab bl) fun rs=>V.iff (a1f rs) (k (.g (a0r rs) rs.length) s)
   | _=>none) fun f s hs=>?_
  refine Ok.bnd (a7v hs i2 o2 m) fun b f a s h hs=>?_
  obtain ⟨t2,rfl,rfl,ht2⟩:=h
  refine Ok.opt fun rs hrs=>Ok.lift hrs ?_
  refine Ok.iff fun h5=>?_
  have hc:=a1g rs h5
  exact Ok.ret (R:=RV) (b:=.g (a0r rs) rs.length) (a:=.g rs) ⟨congrArg AV.g hc.1.symm,hc.2⟩ hs
 ·exact Ok.none
noncomputable def aGq (tab:List AV→List AV→Option (List AV)):LQ:=fun l s k=>match l with
 | [.g t n,.s _ i2 o2 m _]=>al9 s fun s=>aiv (p4 i2) i2 o2 m s fun b s=>match a2t b with
  | .g bl=>opt (tab (a07 t 0 n) bl) fun rs=>V.iff (a1f rs) (k (.g (a0r rs) rs.length) s)
  | _=>none
 | _=>none
theorem aGp (tab:List AV→List AV→Option (List AV)) (B:Nat) (s:CE.St) (f:QW) (x:List AV) (l:List FV) (hs:RS B s f) (h:RVs x l):Ok B RV (aGq tab l f) (ap2 tab x s):=by
 obtain ⟨rfl,ho⟩:=h
 unfold aGq
 split
 ·rename_i t n q2 i2 o2 m c
  have hq2:q2=p4 i2:=ho (.s q2 i2 o2 m c) (by simp)
  show Ok B RV _ (CE.bnd adr (fun _=>CE.bnd (rdK i2 o2 m) fun b=>CE.bnd (CE.lift (tab (a07 t 0 n) b)) fun rs=>CE.ret (.g rs)) s)
  refine aj6 (R:=RV) hs (g:=fun f k=>aiv (p4 i2) i2 o2 m f fun b s=>match a2t b with
   | .g bl=>opt (tab (a07 t 0 n) bl) fun rs=>V.iff (a1f rs) (k (.g (a0r rs) rs.length) s)
   | _=>none) fun f s hs=>?_
  refine Ok.bnd (a7v hs i2 o2 m) fun b f a s h hs=>?_
  obtain ⟨t2,rfl,rfl,ht2⟩:=h
  refine Ok.opt fun rs hrs=>Ok.lift hrs ?_
  refine Ok.iff fun h5=>?_
  have hc:=a1g rs h5
  exact Ok.ret (R:=RV) (b:=.g (a0r rs) rs.length) (a:=.g rs) ⟨congrArg AV.g hc.1.symm,hc.2⟩ hs
 ·exact Ok.none
theorem ap1 {tab:List AV→List AV→Option (List AV)} (ht:aY9 ap3 tab) (B:Nat) (σ:Sg) (m:Tr AB) (n:Nat) (l w:List LE) (W:World) (args:List AV) (v:AV) (m':Tr AB) (n':Nat) (l' w':List LE) (vals:Array Value)
  (hg:GS σ) (hs:SR Tryz.prog B σ m W) (hl:LR σ args vals) (hx:ap2 tab args ⟨m,n,l,w⟩=some (v,⟨m',n',l',w'⟩)) (_:a3q σ n n') :
  (callFunc 86 vals).run Tryz.prog W=.ok (.enter 86 vals) W∧Calls Tryz.prog 86 vals W (Done Tryz.prog B σ n n' m' v W):=by
 refine ⟨az5 vals W,?_⟩
 unfold ap2 at hx
 split at hx
 ·rename_i ks k2 o2 len cp
  obtain ⟨_,⟨m1,n1,l1,w1⟩,g1,x2⟩:=a08 hx
  obtain ⟨e1,e2,e3,e4,c0,T0,k0,aWs,htab⟩:=ae1 g1
  cases e1;cases e2;cases e3;cases e4
  obtain ⟨b,⟨m2,n2,l2,w2⟩,g3,x3⟩:=a08 x2
  obtain ⟨e1,e2,c2,T2,hk2,as4⟩:=a5y g3
  cases e1;cases e2
  obtain ⟨rs,s1,g4,x4⟩:=a08 x3
  obtain ⟨hrs,e1⟩:=a7o g4
  cases e1
  obtain ⟨e1,e3⟩:=a0k x4
  cases e1;cases e3
  clear hx x2 x3 x4 g1 g3 g4
  obtain ⟨key,msg,t1,t2,t3,t4,t5⟩:=ht _ _ _ hrs
  have hsz:vals.size=2:=hl.len.symm
  obtain ⟨v0,e0,hv0⟩:=hl.at (i:=0) rfl
  obtain ⟨v1,e1,hv1⟩:=hl.at (i:=1) rfl
  have ajl:vals=#[v0,v1]:=by
   apply Array.ext
   ·simpa using hsz
   ·intro i h1 h2
    have:i=0∨i=1:=by omega
    rcases this with rfl | rfl
    ·simpa using (Array.getElem?_eq_some_iff.1 e0).2
    ·simpa using (Array.getElem?_eq_some_iff.1 e1).2
  subst ajl
  obtain ⟨c,rfl,hc⟩:=hv0.aot
  obtain rfl:=asb hc t3
  refine (afl key msg v1 t1 t2 W (acs hs hv1 hk2 as4 t4) (awq hg hs k0 (afz aWs) htab)).mono fun e W' he=>?_
  obtain ⟨he,hb⟩:=he
  exact ⟨σ,_,he,Grow.refl _ _ _,adp hs hb,row_of t5,hb.mono hs.hB⟩
 ·cases hx
theorem enters (f:Nat) (h : ∃ fn:Func,Tryz.prog.funcs[f]? = some fn∧fn.body.isNone=false∧(fn.name == "runtime.NumGoroutine")=false) (vals:Array Value) (W:World):(callFunc f vals).run Tryz.prog W=.ok (.enter f vals) W:=by
 obtain ⟨fn,h0,h1,h2⟩:=h
 unfold callFunc
 simp only [Sem.run_bind,run_program,Result.andThen_ok,h0,h1,h2,Bool.false_eq_true,if_false,Sem.run_pure]
theorem aA6:Good Tryz.prog 86 (aGq ahx) (ap2 ahx):=⟨az7 _,ap1 az6,aGp _⟩
end
end V
end Go.CE
namespace Go.CE
namespace V
open Go.Proofs Go.Proofs.YtopgdlblfieljaaGreatDoor Go.RowKit
section
variable [Sym]
def aiz (g:Nat→Nat→AV):List AV→X AV:=fun args=>match args with
 | [.i .i64 (.ofNat a),.i .i64 (.ofNat b)]=>CE.bnd (CE.chk (Nat.ble a 18&&Nat.ble b 16)) fun _=>CE.ret (g a b)
 | _=>CE.fail
theorem ale (g:Nat→Nat→AV) (x:List AV):Loc (aiz g x):=by
 unfold aiz
 split
 ·exact Loc.bnd (Loc.chk _) fun _=>Loc.ret _
 ·exact Loc.fail
def avs (a b:Nat):AV:=match anp a b with
 | true=>.b true
 | false=>.b false
def afi (a b:Nat):AV:=.t [.i .i64 (.ofNat (aWc a b).1),.i .i64 (.ofNat (aWc a b).2)]
end
section
variable [Sym] [a0n]
theorem aBw {σ:Sg} {x y:AV} {vals:Array Value} (hl:LR σ [x,y] vals) : ∃ v0 v1,vals=#[v0,v1]∧VR σ x v0∧VR σ y v1:=by
 have hsz:vals.size=2:=hl.len.symm
 obtain ⟨v0,e0,hv0⟩:=hl.at (i:=0) rfl
 obtain ⟨v1,e1,hv1⟩:=hl.at (i:=1) rfl
 refine ⟨v0,v1,?_,hv0,hv1⟩
 apply Array.ext
 ·simpa using hsz
 ·intro i h1 h2
  have:i=0∨i=1:=by omega
  rcases this with rfl | rfl
  ·simpa using (Array.getElem?_eq_some_iff.1 e0).2
  ·simpa using (Array.getElem?_eq_some_iff.1 e1).2
theorem af6 {f:Nat} {g:Nat→Nat→AV} (hen:∀ (vals:Array Value) (W:World),(callFunc f vals).run Tryz.prog W=.ok (.enter f vals) W)
  (aWv:∀ (a b:Nat) (w:World),a < 19→b < 17→Calls Tryz.prog f #[.int .i64 (a:Int),.int .i64 (b:Int)] w fun e w' => ∃ u,e=.returned u∧(∀ σ,VR σ (g a b) u)∧Below w.heap.size w w')
  (B:Nat) (σ:Sg) (m:Tr AB) (n:Nat) (l w:List LE) (W:World) (args:List AV) (v:AV) (m':Tr AB) (n':Nat) (l' w':List LE) (vals:Array Value)
  (_:GS σ) (hs:SR Tryz.prog B σ m W) (hl:LR σ args vals) (hx:aiz g args ⟨m,n,l,w⟩=some (v,⟨m',n',l',w'⟩)) (_:a3q σ n n') :
  (callFunc f vals).run Tryz.prog W=.ok (.enter f vals) W∧Calls Tryz.prog f vals W (Done Tryz.prog B σ n n' m' v W):=by
 refine ⟨hen vals W,?_⟩
 unfold aiz at hx
 split at hx
 ·rename_i a b
  obtain ⟨_,s1,g2,x2⟩:=a08 hx
  obtain ⟨hc,e1⟩:=a4b g2
  cases e1
  obtain ⟨e1,e3⟩:=a0k x2
  cases e1;cases e3
  simp only [Bool.and_eq_true] at hc
  obtain ⟨v0,v1,rfl,h0,h1⟩:=aBw hl
  cases h0;cases h1
  refine (aWv a b W (by have:=a6e hc.1;omega) (by have:=a6e hc.2;omega)).mono fun e W' he=>?_
  obtain ⟨u,he,hu,hb⟩:=he
  exact ⟨σ,u,he,Grow.refl _ _ _,adp hs hb,hu σ,hb.mono hs.hB⟩
 ·cases hx
noncomputable def atq (g:Nat→Nat→AV):LQ:=fun l s k=>match l with
 | [.i .i64 a,.i .i64 b]=>V.iff (Nat.ble a 18&&Nat.ble b 16) (k (ofV (g a b)) s)
 | _=>none
theorem aqo (g:Nat→Nat→AV) (B:Nat) (s:CE.St) (f:QW) (x:List AV) (l:List FV) (hs:RS B s f) (h:RVs x l):Ok B RV (atq g l f) (aiz g x s):=by
 obtain ⟨rfl,ho⟩:=h
 unfold atq
 split
 ·rename_i a b
  show Ok B RV _ (CE.bnd (CE.chk (Nat.ble a 18&&Nat.ble b 16)) (fun _=>CE.ret (g a b)) s)
  refine Ok.iff fun h5=>Ok.chk h5 ?_
  exact Ok.ret (R:=RV) (b:=ofV (g a b)) (a:=g a b) (ax3 _) hs
 ·exact Ok.none
theorem avr:Good Tryz.prog 46 (atq avs) (aiz avs) :=
 ⟨ale _,af6 (enters _ ⟨_,Tryz.func46,by kernel_rfl,by kernel_rfl⟩) (fun a b w h1 h2=>(ast a b h1 h2 w).mono fun e w' he=>⟨_,he.1,(fun σ=>by
  unfold avs
  cases anp a b
  ·exact .b _
  ·exact .b _),he.2⟩),aqo _⟩
theorem aov:Good Tryz.prog 71 (atq afi) (aiz afi) :=
 ⟨ale _,af6 (enters _ ⟨_,Tryz.func71,by kernel_rfl,by kernel_rfl⟩) (fun a b w h1 h2=>(am0 a b h1 h2 w).mono fun e w' he=>⟨_,he.1,(fun σ=>by
  unfold afi
  refine .t _ _ rfl fun i x v e1 e2=>?_
  have hi:i < 2:=(List.getElem?_eq_some_iff.1 e1).1
  have:i=0∨i=1:=by omega
  rcases this with rfl | rfl
  ·cases e1;cases e2;exact .i _ _
  ·cases e1;cases e2;exact .i _ _),he.2⟩),aqo _⟩
end
end V
end Go.CE
namespace Go.CE
namespace V
open Go.Proofs Go.Proofs.YtopgdlblfieljaaGreatDoor Go.RowKit
section
variable [Sym] [a0n]
end
def am4 (n:Nat):List Nat:=[n % 256,n >>> 8 % 256,n >>> 16 % 256,n >>> 24 % 256,n >>> 32 % 256,n >>> 40 % 256,n >>> 48 % 256,n >>> 56 % 256]
section
variable [Sym]
end
section
variable [Sym] [a0n]
end
end V
end Go.CE
namespace Go.Proofs.YtopgdlblfieljaaGreatDoor
open Go.RowKit
set_option maxHeartbeats 1000000 in
set_option maxRecDepth 100000 in
theorem ako (M:List UInt8) (v:Value) (hM:M.length≤1099511627776) (w:World) (hv:acd w v M) (hT:Tab w):Calls Tryz.prog 95 #[v] w fun e w'=>e=.returned (.agg (a0i (a3t M)))∧Below w.heap.size w w':=by
 have hv':=hv
 obtain ⟨ao,n,c,rfl,rfl,_⟩:=hv'
 have hB:Below w.heap.size w ((w.alloc (.cells z46 46 (0,0))).alloc (.cells #[.slice ao M.length c] 60 (0,0))):=((Below.refl _ _).alloc (Nat.le_refl _) _).alloc (by simp) _
 have hP:PartsAt ((w.alloc (.cells z46 46 (0,0))).alloc (.cells #[.slice ao M.length c] 60 (0,0))) (.slice (some ⟨w.heap.size+1,0,none⟩) 1 1) [M] :=
  aqn (ls:=[M]) (a03 (w.alloc (.cells z46 46 (0,0))) (.cells #[.slice ao M.length c] 60 (0,0)) _ (by simp)) fun k hk=>by
   have:k=0:=by simpa using hk
   subst this
   exact ⟨_,rfl,hv.below hB⟩
 have hT':Tab ((w.alloc (.cells z46 46 (0,0))).alloc (.cells #[.slice ao M.length c] 60 (0,0))):=hT.below hB (by obtain ⟨cs,T,fr,q,_⟩:=hT;exact a04 q)
 have hc:=a7x (.slice (some ⟨w.heap.size+1,0,none⟩) 1 1) [M] (by simpa using hM) (by simp) _ hP hT'
 have e1:[M].flatten=M:=by simp
 rw [e1] at hc
 have HC:=Lib.hid hc
 have h0:obj ((w.alloc (.cells z46 46 (0,0))).alloc (.cells #[.slice ao M.length c] 60 (0,0))) w.heap.size=some (.cells z46 46 (0,0)):=a02 (a03 _ _ _ rfl) _
 have r1:(a0i (a3t M)).size=32:=by rw [a0o,a13]
 have r2:(a0i (a3t M)).extract 0 32=a0i (a3t M):=a2v _ _ (a13 _)
 have r3:ones (a0i (a3t M))=true:=a1t _
 clear hc hP hT' hT hv
 generalize a0i (a3t M)=R at *
 go_enter Tryz.func95,Tryz.ntmps95
 repeat' (first | (go_at_call 111;((with_reducible refine (HC.out).mono ?_));rintro r w2 ⟨rfl,hb2⟩;have h2:=a00 h0 hb2 (a04 h0);have hB2:=hB.trans (hb2.mono hB.size);dsimp only) | go_skip | go_guarded | go_step | go_upon)
 refine bodyPost_ret (results_cell_row rfl _ _ w.heap.size 46 R _ _ rfl (setRow_heap _ _ _ _ _ _ h2) Tryz.underlying46 rfl (by rw [r1];kernel_rfl)) rfl ?_
 exact ⟨rfl,below_setRow hB2 (Nat.le_refl _) _⟩
end Go.Proofs.YtopgdlblfieljaaGreatDoor
namespace Go.CE
namespace V
open Go.Proofs Go.Proofs.YtopgdlblfieljaaGreatDoor Go.RowKit
section
variable [Sym] [a0n]
theorem aA5:Good Tryz.prog 95 (aZ2 a5l) (aNe a5l) :=
 ⟨aCm _,asx (enters _ ⟨_,Tryz.func95,by kernel_rfl,by kernel_rfl⟩) (fun M v w hM hv hT=>ako M v hM w hv hT) aeq,aNc _⟩
end
end V
end Go.CE
