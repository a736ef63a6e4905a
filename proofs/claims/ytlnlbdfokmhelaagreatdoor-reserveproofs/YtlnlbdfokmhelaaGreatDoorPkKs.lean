/-
  The law of kalendsref29.Keys: five digests that the kernel reckons once.
-/
import Derived.Test.YtlnlbdfokmhelaaGreatDoorPkLetB
import Derived.Test.YtlnlbdfokmhelaaGreatDoorPkShp
set_option linter.unusedSectionVars false
set_option linter.constructorNameAsVariable false
set_option linter.unusedVariables false
set_option linter.unusedSimpArgs false
namespace Go.CE
namespace V
open Go.Proofs Go.Proofs.YtlnlbdfokmhelaaGreatDoor Go.RowKit
set_option maxRecDepth 100000
def keysL:List Nat:=[46,205,138,107,125,40,69,84,102,89,173,76,244,67,83,60,249,33,177,157,200,31,168,57,52,232,56,33,180,223,220,183,202,108,101,136,250,1,23,27,32,7,64,52,77,53,78,133,72,183,71,0,97,251,50,163,79,79,238,228,112,236,40,31,206,67,238,68,3,147,132,84,151,124,209,16,54,62,7,113,81,108,24,126,71,175,212,72,89,38,17,61,138,159,15,107,72,152,109,133,248,192,160,96,30,247,196,74,252,147,157,208,168,176,237,123,195,9,199,227,115,203,15,233,78,48,199,170,175,110,122,143,105,151,52,131,67,217,224,231,24,246,151,229,236,95,191,121,185,245,64,219,129,30,111,131,208,150,239,115]
noncomputable def aMa (r:Ans):Bool:=match r with
 | some (.s q k o 5 _,f)=>Nat.ble 2048 k&&gw k&&atv (akd 46 (getM q f.m) o 160) (keysL.map a3m)
 | _=>false
@[reducible] def S00:Sym:={ val:=fun _=>0,bin:=fun _ _ _ _ _=>none,cv:=fun _ _=>none }
set_option maxRecDepth 100000 in
theorem aGl:aMa (@evF S00 Tryz.prog (LT.fq tK) 4000 34 [] ⟨.e,1024,2048,[],[]⟩)=true:=by decide +kernel
theorem amy:Tryz.prog.cellsOf 46=32:=by kernel_rfl
theorem ahw (W:World):Calls Tryz.prog 34 #[] W fun e W' => ∃ s,e=.returned s∧SlZ W.heap.size W' s 46 32 5 (keysL.map fun n=>Value.int .u8 (.ofNat n))∧Below W.heap.size W W':=by
 letI:Sym:=S00
 haveI hok:a0n:=a5k
 have hrun:=aGl
 unfold aMa at hrun
 split at hrun
 ·rename_i q k o c f' he
  simp only [Bool.and_eq_true] at hrun
  obtain ⟨⟨r1,r2⟩,r3⟩:=hrun
  have r1:2048≤k:=Nat.le_of_ble_eq_true r1
  unfold atv at r3
  split at r3
  ·rename_i mm hb
   obtain rfl:=a6h r3
   refine (a3r (a:=[]) (l:=[]) allK aIp a8t (aIj W) (fun j hj=>a2a (by omega)) ⟨rfl,(fun _ h=>by cases h)⟩ (LR.nil _) he).mono fun e W' hd=>?_
   obtain ⟨τ,u,s',rfl,hov,am9,_,ap6,hvu,hbel⟩:=hd
   have hq:q=p4 k:=hov
   have:=aT9 (B:=W.heap.size) (l:=keysL.map a3m) (z:=32) (n:=5) (by decide) amy am9 ap6 hq r1 r2 (by decide) hb (by decide) hvu
   refine ⟨u,rfl,?_,hbel⟩
   rwa [List.map_map] at this
  ·cases r3
 ·cases hrun
section
variable [Sym]
def ap0:List AV→X AV:=fun args=>match args with
 | []=>CE.bnd (a4o true (.cells (keysL.map a3m) 46)) fun k=>CE.ret (.sl (some (k,0)) 5 5)
 | _=>CE.fail
theorem az4 (x:List AV):Loc (ap0 x):=by
 unfold ap0
 split
 ·exact Loc.bnd (Loc.a4o _ _) fun _=>Loc.ret _
 ·exact Loc.fail
end
section
variable [Sym] [a0n]
theorem aoz (B:Nat) (σ:Sg) (m:Tr AB) (n:Nat) (l w:List LE) (W:World) (args:List AV) (v:AV) (m':Tr AB) (n':Nat) (l' w':List LE) (vals:Array Value)
  (_:GS σ) (hs:SR Tryz.prog B σ m W) (hl:LR σ args vals) (hx:ap0 args ⟨m,n,l,w⟩=some (v,⟨m',n',l',w'⟩)) (hfr:a3q σ n n') :
  (callFunc 34 vals).run Tryz.prog W=.ok (.enter 34 vals) W∧Calls Tryz.prog 34 vals W (Done Tryz.prog B σ n n' m' v W):=by
 refine ⟨enters _ ⟨_,Tryz.func34,by kernel_rfl,by kernel_rfl⟩ vals W,?_⟩
 unfold ap0 at hx
 split at hx
 ·obtain ⟨k,⟨m7,n7,l7,w7⟩,g7,x7⟩:=a08 hx
  obtain ⟨rfl,rfl,rfl⟩:=a6c g7
  obtain ⟨e1,e3⟩:=a0k x7
  cases e1;cases e3
  have hk:σ (a2b true n)=none:=hfr _ (a1a true n).1 (a1a true n).2
  obtain rfl:vals=#[]:=by
   have:vals.size=0:=hl.len.symm
   exact Array.eq_empty_of_size_eq_zero this
  refine (ahw W).mono fun e W' he=>?_
  obtain ⟨s,he,hsl,hB⟩:=he
  have hsl:SlZ W.heap.size W' s 46 32 5 ((keysL.map a3m).map aa7):=by rw [List.map_map];exact hsl
  obtain ⟨q,hS,hv⟩:=aPo (l:=keysL.map a3m) (n:=5) (z:=32) amy hs hB hk (by decide) (by decide) hsl
  exact ⟨σ.add (a2b true n) q,_,he,Grow.add hk (a1a true n),hS,hv,hB.mono hs.hB⟩
 ·cases hx
noncomputable def aGo:LQ:=fun l s k=>match l with
 | []=>a9h true (.cells (a0r (keysL.map a3m)) 160 46) s fun q i s=>k (.s q i 0 5 5) s
 | _=>none
theorem aGn (B:Nat) (s:CE.St) (f:QW) (x:List AV) (l:List FV) (hs:RS B s f) (h:RVs x l):Ok B RV (aGo l f) (ap0 x s):=by
 obtain ⟨rfl,ho⟩:=h
 unfold aGo
 split
 ·show Ok B RV _ (CE.bnd (a4o true (.cells (keysL.map a3m) 46)) (fun k=>CE.ret (.sl (some (k,0)) 5 5)) s)
  have hc:=a1g (keysL.map a3m) (ab6 _)
  have h160:(keysL.map a3m).length=160:=rfl
  rw [h160] at hc
  exact a1v hs true 46 hc.1 hc.2 (R:=RV) (x:=fun q i s (k:FV→QW→Ans)=>k (FV.s q i 0 5 5) s) (y:=fun k=>CE.ret (.sl (some (k,0)) 5 5)) fun i f s hs =>
   Ok.ret (R:=RV) (b:=.s (p4 i) i 0 5 5) (a:=.sl (some (i,0)) 5 5) (aIo i 0 5 5) hs
 ·exact Ok.none
theorem az3:Good Tryz.prog 34 aGo ap0:=⟨az4,aoz,aGn⟩
end
end V
end Go.CE
namespace Go.CE
namespace V
open Go.Proofs Go.Proofs.YtlnlbdfokmhelaaGreatDoor Go.RowKit
section
variable [Sym]
def aO8:List AV→X (List (List AV))
 | []=>CE.ret []
 | .sl (some (k,o)) n _ :: l=>CE.bnd (rdK k o n) fun b=>CE.bnd (aO8 l) fun bs=>CE.ret (b :: bs)
 | _=>CE.fail
theorem aDb:∀ l:List AV,Loc (aO8 l):=by
 intro l
 induction l with
 | nil=>exact Loc.ret _
 | cons a l ih =>
  cases a with
  | sl a n c =>
   cases a with
   | none=>exact Loc.fail
   | some p=>exact Loc.bnd (Loc.rdK _ _ _) fun _=>Loc.bnd ih fun _=>Loc.ret _
  | _=>exact Loc.fail
def ap8 (tab:List AV→Option (List AV)):List AV→X AV:=fun args=>match args with
 | [.sl (some (k,o)) n _]=>CE.bnd adr fun _=>CE.bnd (CE.chk (Nat.ble n 1000000)) fun _=>CE.bnd (rdK k o n) fun ps=>CE.bnd (aO8 ps) fun bs=>CE.bnd (CE.lift (tab bs.flatten)) fun rs=>CE.ret (.g rs)
 | _=>CE.fail
theorem azl (tab:List AV→Option (List AV)) (x:List AV):Loc (ap8 tab x):=by
 unfold ap8
 split
 ·exact Loc.bnd agi fun _=>Loc.bnd (Loc.chk _) fun _=>Loc.bnd (Loc.rdK _ _ _) fun _=>Loc.bnd (aDb _) fun _=>Loc.bnd (Loc.lift _) fun _=>Loc.ret _
 ·exact Loc.fail
end
section
variable [Sym] [a0n]
theorem aws:∀ {bs:List (List AV)} {msg:List UInt8},bs.flatten.map den=msg.map a5d→∃ ls:List (List UInt8),ls.flatten=msg∧ls.length=bs.length∧∀ i (h1:i < bs.length) (h2:i < ls.length),bs[i].map den=ls[i].map a5d:=by
 intro bs
 induction bs with
 | nil=>intro msg h;exact ⟨[],by simpa using h.symm,rfl,fun i h=>by simp at h⟩
 | cons b bs ih =>
  intro msg h
  rw [List.flatten_cons,List.map_append] at h
  have hl:b.length≤msg.length:=by have:=congrArg List.length h;simp at this;omega
  have h1:b.map den=(msg.take b.length).map a5d:=by
   have:=congrArg (List.take b.length) h
   rw [List.take_left' (by simp),← List.map_take] at this
   exact this
  have h2:bs.flatten.map den=(msg.drop b.length).map a5d:=by
   have:=congrArg (List.drop b.length) h
   rw [List.drop_left' (by simp),← List.map_drop] at this
   exact this
  obtain ⟨ls,e1,e2,e3⟩:=ih h2
  refine ⟨msg.take b.length :: ls,by rw [List.flatten_cons,e1,List.take_append_drop],by simp [e2],fun i q1 q2=>?_⟩
  cases i with
  | zero=>exact h1
  | succ i=>exact e3 i (by simpa using q1) (by simpa using q2)
theorem aO7 {P:Program} {B:Nat} {σ:Sg} {m:Tr AB} {W:World} (hs:SR P B σ m W):∀ (ps:List AV) {bs:List (List AV)} {m1:Tr AB} {n n1:Nat} {l w l1 w1:List LE},aO8 ps ⟨m,n,l,w⟩=some (bs,⟨m1,n1,l1,w1⟩) →
  m1=m∧n1=n∧bs.length=ps.length∧∀ i (h1:i < ps.length) (h2:i < bs.length),∀ (v:Value) (msg:List UInt8),VR σ ps[i] v→bs[i].map den=msg.map a5d→acd W v msg:=by
 intro ps
 induction ps with
 | nil =>
  intro bs m1 n n1 l w l1 w1 h
  obtain ⟨e1,e2⟩:=a0k h
  cases e1;cases e2
  exact ⟨rfl,rfl,rfl,fun i h=>by simp at h⟩
 | cons a ps ih =>
  intro bs m1 n n1 l w l1 w1 h
  cases a with
  | sl a nn c =>
   cases a with
   | none=>cases h
   | some p =>
    obtain ⟨k,o⟩:=p
    obtain ⟨b,⟨m2,n2,l2,w2⟩,g1,x1⟩:=a08 h
    obtain ⟨e1,e2,c2,T2,hk2,as4⟩:=a5y g1
    cases e1;cases e2
    obtain ⟨bs2,⟨m3,n3,l3,w3⟩,g2,x2⟩:=a08 x1
    obtain ⟨e1,e2⟩:=a0k x2
    cases e1;cases e2
    obtain ⟨rfl,rfl,q1,q2⟩:=ih g2
    refine ⟨rfl,rfl,by simp [q1],fun i h1 h2 v msg hv hm=>?_⟩
    cases i with
    | zero=>exact acs hs hv hk2 as4 hm
    | succ i=>exact q2 i (by simpa using h1) (by simpa using h2) v msg hv hm
  | _=>cases h
theorem ap7 {tab:List AV→Option (List AV)} (ht:asf a3t tab) (B:Nat) (σ:Sg) (m:Tr AB) (n:Nat) (l w:List LE) (W:World) (args:List AV) (v:AV) (m':Tr AB) (n':Nat) (l' w':List LE) (vals:Array Value)
  (hg:GS σ) (hs:SR Tryz.prog B σ m W) (hl:LR σ args vals) (hx:ap8 tab args ⟨m,n,l,w⟩=some (v,⟨m',n',l',w'⟩)) (_:a3q σ n n') :
  (callFunc 173 vals).run Tryz.prog W=.ok (.enter 173 vals) W∧Calls Tryz.prog 173 vals W (Done Tryz.prog B σ n n' m' v W):=by
 refine ⟨enters _ ⟨_,Tryz.func173,by kernel_rfl,by kernel_rfl⟩ vals W,?_⟩
 unfold ap8 at hx
 split at hx
 ·rename_i k o nn cp
  obtain ⟨_,⟨m1,n1,l1,w1⟩,g1,x2⟩:=a08 hx
  obtain ⟨e1,e2,e3,e4,c0,T0,k0,aWs,htab⟩:=ae1 g1
  cases e1;cases e2;cases e3;cases e4
  obtain ⟨_,s0,g0,x2⟩:=a08 x2
  obtain ⟨hnn,e0⟩:=a4b g0
  cases e0
  obtain ⟨ps,⟨m2,n2,l2,w2⟩,g3,x3⟩:=a08 x2
  obtain ⟨e1,e2,c2,T2,hk2,as4⟩:=a5y g3
  cases e1;cases e2
  obtain ⟨bs,⟨m3,n3,l3,w3⟩,g4,x4⟩:=a08 x3
  obtain ⟨rfl,rfl,q1,q2⟩:=aO7 hs ps g4
  obtain ⟨rs,s1,g5,x5⟩:=a08 x4
  obtain ⟨hrs,e1⟩:=a7o g5
  cases e1
  obtain ⟨e1,e3⟩:=a0k x5
  cases e1;cases e3
  obtain ⟨msg,t2,t4,t5⟩:=ht _ _ hrs
  obtain ⟨v0,rfl,hv0⟩:=aj3 hl
  obtain ⟨ls,r1,r2,r3⟩:=aws t4
  subst r1
  obtain ⟨hcn,hcg⟩:=aAb as4
  have hP:PartsAt W v0 ls:=by
   cases hv0 with
   | sl _ _ _ _ c' Q hQ _ _ _ =>
    obtain ⟨Q',ob,hQ',hh,row,hrow,_,_,h3,h4⟩:=hs.mr k _ hk2
    rw [hQ] at hQ';cases hQ'
    refine ⟨Q.b,o+Q.d,c',by rw [show ls.length=nn by omega],(Array.getElem?_eq_some_iff.1 hh).1,fun i hi=>?_⟩
    have hi2:i < ps.length:=by omega
    have hx:=hcg i (by omega)
    rw [List.getElem?_eq_getElem hi2] at hx
    have hlt:o+i < c2.length:=(List.getElem?_eq_some_iff.1 hx).1
    have hvr:=h4 (o+i) _ row[Q.d+(o+i)] hx (Array.getElem?_eq_getElem (by omega))
    have hB:=q2 i hi2 (by omega) _ ls[i] hvr (r3 i (by omega) hi)
    obtain ⟨ao,n0,c0',e1,e2,e3,e4⟩:=hB
    refine ⟨ao,n0,c0',?_,e2,e3,e4⟩
    have:W.cell? ⟨Q.b,o+Q.d+i,none⟩=row[o+Q.d+i]? := by
     unfold World.cell?
     rw [hh,hrow]
     rfl
    rw [this,show o+Q.d+i=Q.d+(o+i) by omega,Array.getElem?_eq_getElem (by omega),e1]
  refine (a7x v0 ls (by omega) (by have:=Nat.le_of_ble_eq_true hnn;omega) W hP (awq hg hs k0 (afz aWs) htab)).mono fun e W' he=>?_
  obtain ⟨he,hb⟩:=he
  exact ⟨σ,_,he,Grow.refl _ _ _,adp hs hb,row_of t5,hb.mono hs.hB⟩
 ·cases hx
noncomputable def b2e (v:FV) (ih:QW→(List (List AV)→QW→Ans)→Ans) (s:QW) (k:List (List AV)→QW→Ans):Ans:=match v with
 | .s _ i o n _=>aiv (p4 i) i o n s fun a s=>match a2t a with
  | .g b=>ih s fun bs s=>k (b :: bs) s
  | _=>none
 | _=>none
noncomputable def aod:List FV→QW→(List (List AV)→QW→Ans)→Ans
 | [],s,k=>k [] s
 | v :: l,s,k=>b2e v (aod l) s k
theorem aqi {B:Nat}:∀ (l:List FV) {s:CE.St} {f:QW},RS B s f→Ok B (fun (a b:List (List AV))=>a=b) (aod l f) (aO8 (l.map a6g) s)
 | [],s,f,hs=>Ok.ret (R:=fun (a b:List (List AV))=>a=b) rfl hs
 | v :: l,s,f,hs=>by
  show Ok B _ (b2e v (aod l) f) _
  unfold b2e
  split
  ·rename_i q i o n c
   show Ok B _ _ (CE.bnd (rdK i o n) (fun b=>CE.bnd (aO8 (l.map a6g)) fun bs=>CE.ret (b :: bs)) s)
   refine Ok.bnd (a7v hs i o n) fun a f a' s h hs=>?_
   obtain ⟨t,rfl,rfl,ht⟩:=h
   refine Ok.bnd (R:=fun (a b:List (List AV))=>a=b) (x:=aod l f) (g:=fun bs s (k:List (List AV)→QW→Ans)=>k (a07 t 0 n :: bs) s) (aqi l hs) fun b f a s hab hs=>?_
   subst hab
   exact Ok.ret (R:=fun (a b:List (List AV))=>a=b) rfl hs
  ·exact Ok.none
noncomputable def aH1 (tab:List AV→Option (List AV)):LQ:=fun l s k=>match l with
 | [.s _ i o n _]=>al9 s fun s=>V.iff (Nat.ble n 1000000) (aiv (p4 i) i o n s fun b s=>match b with
  | .g t n=>aod ((List.range n).map fun j=>a1d (p4 (0+j)) t) s fun bs s=>opt (tab bs.flatten) fun rs=>V.iff (a1f rs) (k (.g (a0r rs) rs.length) s)
  | _=>none)
 | _=>none
theorem aH0 (tab:List AV→Option (List AV)) (B:Nat) (s:CE.St) (f:QW) (x:List AV) (l:List FV) (hs:RS B s f) (h:RVs x l):Ok B RV (aH1 tab l f) (ap8 tab x s):=by
 obtain ⟨rfl,ho⟩:=h
 unfold aH1
 split
 ·rename_i q i o n c
  show Ok B RV _ (CE.bnd adr (fun _=>CE.bnd (CE.chk (Nat.ble n 1000000)) fun _=>CE.bnd (rdK i o n) fun ps=>CE.bnd (aO8 ps) fun bs=>CE.bnd (CE.lift (tab bs.flatten)) fun rs=>CE.ret (.g rs)) s)
  refine aj6 (R:=RV) hs (g:=fun f (k:FV→QW→Ans)=>V.iff (Nat.ble n 1000000) (aiv (p4 i) i o n f fun b s=>match b with
   | .g t n=>aod ((List.range n).map fun j=>a1d (p4 (0+j)) t) s fun bs s=>opt (tab bs.flatten) fun rs=>V.iff (a1f rs) (k (.g (a0r rs) rs.length) s)
   | _=>none)) fun f s hs=>?_
  refine Ok.iff fun h5=>Ok.chk h5 ?_
  refine Ok.bnd (a7v hs i o n) fun b f a s h hs=>?_
  obtain ⟨t2,rfl,rfl,ht2⟩:=h
  have e:a07 t2 0 n=((List.range n).map fun j=>a1d (p4 (0+j)) t2).map a6g:=by unfold a07;rw [List.map_map];rfl
  rw [e]
  refine Ok.bnd (R:=fun (a b:List (List AV))=>a=b) (x:=aod ((List.range n).map fun j=>a1d (p4 (0+j)) t2) f) (g:=fun bs s (k:FV→QW→Ans)=>opt (tab bs.flatten) fun rs=>V.iff (a1f rs) (k (.g (a0r rs) rs.length) s)) (aqi _ hs) fun b f a s hab hs=>?_
  subst hab
  refine Ok.opt fun rs hrs=>Ok.lift hrs ?_
  refine Ok.iff fun h5=>?_
  have hc:=a1g rs h5
  exact Ok.ret (R:=RV) (b:=.g (a0r rs) rs.length) (a:=.g rs) ⟨congrArg AV.g hc.1.symm,hc.2⟩ hs
 ·exact Ok.none
theorem azk:Good Tryz.prog 173 (aH1 a5l) (ap8 a5l):=⟨azl _,ap7 aeq,aH0 _⟩
end
end V
end Go.CE
