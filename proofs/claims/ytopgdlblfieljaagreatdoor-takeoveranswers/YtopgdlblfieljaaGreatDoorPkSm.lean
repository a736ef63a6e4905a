/-
  Two letters without a series compared, as abstract values: equal up to a place, and different there.
-/
import Derived.Test.YtopgdlblfieljaaGreatDoorPkLn
import Derived.Test.YtopgdlblfieljaaGreatDoorPkShp
set_option linter.unusedSectionVars false
set_option linter.constructorNameAsVariable false
set_option linter.unusedVariables false
set_option linter.unusedSimpArgs false
namespace Go.CE
namespace V
open Go.Proofs Go.Proofs.YtopgdlblfieljaaGreatDoor Go.RowKit
set_option maxRecDepth 100000
def rkP:Nat→Nat
 | 4=>0
 | 5=>1
 | 6=>2
 | 7=>3
 | 1=>4
 | 2=>5
 | 3=>6
 | _=>7
def rkR:Nat→Nat
 | 1=>0
 | 2=>1
 | 3=>2
 | 12=>3
 | 4=>4
 | 5=>5
 | 6=>6
 | _=>7
def b1o (d s t:Nat):Bool:=match Nat.ble 1 d&&Nat.ble d 11 with
 | true=>(Nat.beq s d&&Nat.beq t (d+16))||(Nat.beq t d&&Nat.beq s (d+16))
 | false=>false
def dOf (i:Nat):Nat:=match Nat.beq i 7 with
 | true=>12
 | false=>i+1
def aty (a:Nat):List AV:=(List.range 32).map fun i=>.x .u8 (1048576+(a+i))
def b1p (d:Nat) (v w:List AV):Option Bool:=match Nat.beq d 12&&(avL v (aty 0)&&avL w (aty 32)) with
 | true=>some false
 | false=>none
@[reducible] def smP (d:Nat) (num oct:Nat→Nat):Y.Pk:={ num:=num,lo:=fun _=>0,hi:=fun _=>1099511627776,oct:=oct,ocq:=fun _ _=>none,ne:=b1o d,eqg:=b1p d }
@[reducible] def smS (d:Nat) (num oct:Nat→Nat):Sym:=(smP d num oct).sym
def clF (k f:Nat):AV:=match f with
 | 0=>.sl none 0 0
 | 1=>.se
 | f+2=>.sl (some (k,0)) (f+1) (f+1)
def aer (nm:Nat→Nat) (c:AV) (ref:List AV):List AV:=[.x .i64 (64 * nm 1),.x .i64 (64 * nm 2),.x .i64 (64 * nm 3),.x .i64 (64 * nm 4),zI,zI,zI,zI,zI,.x .i64 (64 * nm 5),zI,zI,
 zI,.b false,zI,zI,zI,.sl none 0 0,zI,zI,.s [],zI,zI,.sl none 0 0,.x .i64 (64 * nm 6),.x .i64 (64 * nm 7),zI,zI,zI,c]++ref
def nmA (c:Nat):Nat:=c
def nmB (rk:Nat→Nat) (p c:Nat):Nat:=match Nat.blt (rk c) p with
 | true=>c
 | false=>c+16
def aRv (rk:Nat→Nat) (p:Nat):List AV:=match Nat.blt (rk 12) p with
 | true=>aty 0
 | false=>aty 32
def aQz (f:Nat):List AV:=(List.range (f - 1)).map fun i=>.x .i64 (64 * (8+i))
def aS8 (j f:Nat):List AV:=(List.range (f - 1)).map fun i=>match Nat.blt i j with
 | true=>.x .i64 (64 * (8+i))
 | false=>.x .i64 (64 * (24+i))
noncomputable def aZk (k f:Nat) (cs:List AV) (m:FM):FM:=match f with
 | 0=>m
 | 1=>m
 | f+2=>adx (p4 k) (.cells (a0r cs) (f+1) 3) m
noncomputable def ax9 [Sym] (fn:Nat) (rk:Nat→Nat) (p j fa fb:Nat):Ans:=evF P (LT.fq tL) 4000 fn [ofV (.g (aer nmA (clF 1025 fa) (aty 0))),ofV (.g (aer (nmB rk p) (clF 1027 fb) (aRv rk p)))] ⟨aZk 1027 fb (aS8 j fb) (aZk 1025 fa (aQz fa) .e),1024,2048,[],[]⟩
noncomputable def aTl [Sym] (fn:Nat) (rk:Nat→Nat) (p fa:Nat):Ans:=evF P (LT.fq tL) 4000 fn [ofV (.g (aer nmA (clF 1025 fa) (aty 0))),ofV (.g (aer (nmB rk p) (clF 1025 fa) (aRv rk p)))] ⟨aZk 1025 fa (aQz fa) .e,1024,2048,[],[]⟩
noncomputable def aGv (b:Bool) (r:Ans):Bool:=match r with
 | some (.b v,_)=>(match v,b with
  | true,true=>true
  | false,false=>true
  | _,_=>false)
 | _=>false
noncomputable def aHk (fn:Nat) (rk:Nat→Nat) (i:Nat) (num oct:Nat→Nat):Bool:=(List.range 6).all fun a=>(List.range 6).all fun b=>aGv false (@ax9 (smS (dOf i) num oct) fn rk (rk (dOf i)) 0 a b)
noncomputable def aQy (fn:Nat) (rk:Nat→Nat) (a:Nat) (num oct:Nat→Nat):Bool:=(List.range 6).all fun b=>(List.range 5).all fun j=>match Nat.beq (a - 1) (b - 1),Nat.blt j (a - 1),Nat.beq j (a - 1) with
  | false,_,_=>(match j with
   | 0=>aGv false (@ax9 (smS 0 num oct) fn rk 8 0 a b)
   | _=>true)
  | true,true,_=>aGv false (@ax9 (smS (8+j) num oct) fn rk 8 j a b)
  | true,false,true=>aGv true (@ax9 (smS 0 num oct) fn rk 8 j a b)
  | true,false,false=>true
noncomputable def aFt (fn:Nat) (rk:Nat→Nat) (i:Nat) (num oct:Nat→Nat):Bool:=(List.range 6).all fun a=>aGv false (@aTl (smS (dOf i) num oct) fn rk (rk (dOf i)) a)
noncomputable def eqT (fn:Nat) (rk:Nat→Nat) (num oct:Nat→Nat):Bool:=(List.range 6).all fun a=>aGv true (@aTl (smS 0 num oct) fn rk 8 a)
structure SmR (fn:Nat) (rk:Nat→Nat):Prop where
 dif:∀ (num oct:Nat→Nat) (i:Nat),i < 8→aHk fn rk i num oct=true
 cel:∀ (num oct:Nat→Nat) (a:Nat),a < 6→aQy fn rk a num oct=true
 one:∀ (num oct:Nat→Nat) (i:Nat),i < 8→aFt fn rk i num oct=true
 eq:∀ num oct:Nat→Nat,eqT fn rk num oct=true
end V
end Go.CE
namespace Go.CE
namespace V
open Go.Proofs Go.Proofs.YtopgdlblfieljaaGreatDoor Go.RowKit
set_option maxRecDepth 100000
def LN.slot (x:LN):Nat→Nat
 | 0=>0
 | 1=>x.kind
 | 2=>x.frm
 | 3=>x.dst
 | 4=>x.mtg
 | 5=>x.res
 | 6=>x.dl
 | 7=>x.st
 | s+8=>x.cs.getD s 0
structure LN.Sz (x:LN):Prop where
 kind:x.kind≤1099511627776
 frm:x.frm≤1099511627776
 dst:x.dst≤1099511627776
 mtg:x.mtg≤1099511627776
 res:x.res≤1099511627776
 dl:x.dl≤1099511627776
 st:x.st≤1099511627776
 cs:∀ c∈x.cs,c≤1099511627776
 len:x.cs.length≤4
 ref:x.ref.length=32
def a3a (a b:LN) (s:Nat):Nat:=if s < 16 then a.slot s else b.slot (s - 16)
def a4d (a b:LN) (i:Nat):Nat:=if i < 32 then (a.ref.getD i 0).toNat else (b.ref.getD (i - 32) 0).toNat
theorem LN.awt {x:LN} (h:x.Sz) (s:Nat):x.slot s≤1099511627776:=by
 match s with
 | 0=>exact Nat.zero_le _
 | 1=>exact h.kind
 | 2=>exact h.frm
 | 3=>exact h.dst
 | 4=>exact h.mtg
 | 5=>exact h.res
 | 6=>exact h.dl
 | 7=>exact h.st
 | s+8 =>
  show x.cs.getD s 0≤_
  rw [List.getD_eq_getElem?_getD]
  cases e:x.cs[s]? with
  | none=>exact Nat.zero_le _
  | some c=>exact h.cs c (List.mem_of_getElem? e)
theorem aes (a b:LN) {s:Nat} (h:s < 16):a3a a b s=a.slot s:=if_pos h
theorem anv (a b:LN) (s:Nat):a3a a b (s+16)=b.slot s:=by unfold a3a;rw [if_neg (by omega),Nat.add_sub_cancel]
theorem aNj (a b:LN) {i:Nat} (h:i < 32):a4d a b i=(a.ref.getD i 0).toNat:=if_pos h
theorem aNi (a b:LN) (i:Nat):a4d a b (32+i)=(b.ref.getD i 0).toNat:=by unfold a4d;rw [if_neg (by omega),Nat.add_sub_cancel_left]
section
variable {a b:LN} (ha:a.Sz) (hb:b.Sz) {d:Nat}
include ha hb
theorem aT8 (hne:1≤d→d≤11→a.slot d≠b.slot d):(smP d (a3a a b) (a4d a b)).Ok:=by
 refine { lo:=fun _=>Nat.zero_le _,hi:=fun s=>?_,top:=fun _=>(by show (1099511627776:Nat) < 9223372036854775808;decide),oct:=fun i=>?_,ocq:=fun _ _ _ e=>(by cases e),ne:=fun s t e=>?_ }
 ·show a3a a b s≤1099511627776
  unfold a3a
  split
  ·exact LN.awt ha _
  ·exact LN.awt hb _
 ·show a4d a b i < 256
  unfold a4d
  split<;>exact UInt8.toNat_lt _
 ·have e:b1o d s t=true:=e
  show a3a a b s≠a3a a b t
  unfold b1o at e
  split at e
  ·rename_i g
   simp only [Bool.and_eq_true] at g
   have g1:1≤d:=Nat.le_of_ble_eq_true g.1
   have g2:d≤11:=Nat.le_of_ble_eq_true g.2
   have h1:a3a a b d=a.slot d:=aes a b (by omega)
   have h2:a3a a b (d+16)=b.slot d:=anv a b d
   simp only [Bool.or_eq_true,Bool.and_eq_true] at e
   rcases e with ⟨e1,e2⟩ | ⟨e1,e2⟩
   ·rw [Nat.eq_of_beq_eq_true e1,Nat.eq_of_beq_eq_true e2,h1,h2];exact hne g1 g2
   ·rw [Nat.eq_of_beq_eq_true e1,Nat.eq_of_beq_eq_true e2,h1,h2];exact (hne g1 g2).symm
  ·cases e
omit ha hb in
theorem aIk (i:Nat):@Sym.val (smS d (a3a a b) (a4d a b)) (1048576+i)=Int.ofNat (a4d a b i):=by
 show Int.ofNat ((smP d (a3a a b) (a4d a b)).nat (1048576+i))=_
 rw [Y.a9i (p:=smP d (a3a a b) (a4d a b)) (show Y.ob≤1048576+i by have:Y.ob=1048576:=rfl;omega)]
 rw [show Y.ob=1048576 from rfl,Nat.add_sub_cancel_left]
omit ha hb in
theorem ah4 (s:Nat) (hs:s < 16384):@Sym.val (smS d (a3a a b) (a4d a b)) (64 * s)=Int.ofNat (a3a a b s):=by
 show Int.ofNat ((smP d (a3a a b) (a4d a b)).nat (64 * s))=_
 rw [show 64 * s=64 * s+0 by omega,Y.a1j _ s 0 (by omega) (by have:Y.ob=1048576:=rfl;omega),Y.aoo _ _ (by omega),Nat.pow_zero,Nat.div_one]
omit hb in
theorem ayk:(aty 0).map (@den (smS d (a3a a b) (a4d a b)))=a.ref.map a5d:=by
 apply List.ext_getElem?
 intro i
 have hl:=ha.ref
 simp only [aty,List.map_map,List.getElem?_map]
 by_cases hi:i < 32
 ·rw [List.getElem?_range hi,List.getElem?_eq_getElem (by omega)]
  show some (AV.i .u8 (@Sym.val (smS d (a3a a b) (a4d a b)) (1048576+(0+i))))=_
  rw [aIk,Nat.zero_add,aNj a b hi,List.getD_eq_getElem?_getD,List.getElem?_eq_getElem (by omega)]
  rfl
 ·rw [List.getElem?_eq_none (by simp;omega),List.getElem?_eq_none (by omega)];rfl
omit ha in
theorem aKk:(aty 32).map (@den (smS d (a3a a b) (a4d a b)))=b.ref.map a5d:=by
 apply List.ext_getElem?
 intro i
 have hl:=hb.ref
 simp only [aty,List.map_map,List.getElem?_map]
 by_cases hi:i < 32
 ·rw [List.getElem?_range hi,List.getElem?_eq_getElem (by omega)]
  show some (AV.i .u8 (@Sym.val (smS d (a3a a b) (a4d a b)) (1048576+(32+i))))=_
  rw [aIk,aNi a b,List.getD_eq_getElem?_getD,List.getElem?_eq_getElem (by omega)]
  rfl
 ·rw [List.getElem?_eq_none (by simp;omega),List.getElem?_eq_none (by omega)];rfl
omit ha hb in
theorem aAt:∀ l m:List UInt8,l.map (fun c=>Int.ofNat c.toNat)=m.map (fun c=>Int.ofNat c.toNat)→l=m:=by
 intro l
 induction l with
 | nil=>intro m e;cases m with
  | nil=>rfl
  | cons b m=>simp at e
 | cons a l ih=>intro m e;cases m with
  | nil=>simp at e
  | cons b m =>
   simp only [List.map_cons,List.cons.injEq] at e
   have e1:a.toNat=b.toNat:=Int.ofNat.inj e.1
   rw [UInt8.toNat_inj.1 e1,ih m e.2]
theorem b1n (hne:1≤d→d≤11→a.slot d≠b.slot d) (hr:d=12→a.ref≠b.ref):@a0n (smS d (a3a a b) (a4d a b)):=by
 refine Y.aba (aT8 ha hb hne) fun v w r e=>?_
 have e:b1p d v w=some r:=e
 unfold b1p at e
 split at e
 ·rename_i g
  simp only [Bool.and_eq_true] at g
  obtain rfl:=Nat.eq_of_beq_eq_true g.1
  obtain rfl:=a6h g.2.1
  obtain rfl:=a6h g.2.2
  cases e
  refine ⟨.u8,a.ref.map fun c=>Int.ofNat c.toNat,b.ref.map fun c=>Int.ofNat c.toNat,by rw [ayk ha,List.map_map];rfl,by rw [aKk hb,List.map_map];rfl,decide_eq_false fun q=>hr rfl (aAt _ _ q)⟩
 ·cases e
end
theorem aTa [Sym] {σ:Sg} {k o n c:Nat} {v:Value} (h:VR σ (.sl (some (k,o)) n c) v) : ∃ Q c',σ k=some Q∧v=.slice (some ⟨Q.b,o+Q.d,none⟩) n c':=by
 cases h with
 | sl _ _ _ _ c' Q hQ _ _ _=>exact ⟨Q,c',hQ,rfl⟩
theorem aq7 [Sym] {σ:Sg} {nm:Nat→Nat} {x:LN} {c:AV} {v:Value} {ref:List AV} (hn:∀ k,1≤k→k≤7→VR σ (.x .i64 (64 * nm k)) (.int .i64 (x.slot k:Nat))) (hc:VR σ c v) (hr:LV σ ref (x.ref.map fun c=>B8 c.toNat)) :
  VR σ (.g (aer nm c ref)) (.agg (x.let v).row):=by
 rw [a1i]
 have z:VR σ zI (.int .i64 0):=VR.i .i64 0
 have hh:LV σ [.x .i64 (64 * nm 1),.x .i64 (64 * nm 2),.x .i64 (64 * nm 3),.x .i64 (64 * nm 4),zI,zI,zI,zI,zI,.x .i64 (64 * nm 5),zI,zI,zI,.b false,zI,zI,zI,.sl none 0 0,zI,zI,.s [],zI,zI,.sl none 0 0,.x .i64 (64 * nm 6),.x .i64 (64 * nm 7),zI,zI,zI,c] [.int .i64 x.kind,.int .i64 x.frm,.int .i64 x.dst,.int .i64 x.mtg,.int .i64 0,.int .i64 0,.int .i64 0,.int .i64 0,.int .i64 0,.int .i64 x.res,.int .i64 0,.int .i64 0,
  .int .i64 0,.bool false,.int .i64 0,.int .i64 0,.int .i64 0,.slice none 0 0,.int .i64 0,.int .i64 0,.string ByteArray.empty,.int .i64 0,.int .i64 0,.slice none 0 0,.int .i64 x.dl,.int .i64 x.st,.int .i64 0,.int .i64 0,.int .i64 0,v] :=
  ⟨hn 1 (by omega) (by omega),hn 2 (by omega) (by omega),hn 3 (by omega) (by omega),hn 4 (by omega) (by omega),z,z,z,z,z,hn 5 (by omega) (by omega),z,z,z,VR.b _,z,z,z,VR.sln _ _,z,z,VR.s _ _ rfl,z,z,VR.sln _ _,hn 6 (by omega) (by omega),hn 7 (by omega) (by omega),z,z,z,hc,trivial⟩
 exact LR.g (LV.lr (LV.app hh hr))
section
variable {a b:LN} (ha:a.Sz) (hb:b.Sz) {d:Nat}
include ha hb
omit hb in
theorem aNl {σ:Sg} {c:AV} {v:Value} (hc:@VR (smS d (a3a a b) (a4d a b)) σ c v):@VR (smS d (a3a a b) (a4d a b)) σ (.g (aer nmA c (aty 0))) (.agg (a.let v).row):=by
 letI:Sym:=smS d (a3a a b) (a4d a b)
 refine aq7 (fun k h1 h2=>?_) hc ?_
 ·have:=VR.x (σ:=σ) .i64 (64 * k)
  rw [show Sym.val (64 * k)=Int.ofNat (a3a a b k) from ah4 k (by omega),aes a b (by omega)] at this
  exact this
 ·obtain ⟨e1,e2⟩:=aph (ayk ha (d:=d))
  rw [← e1]
  exact LV.vals e2
theorem aNk {rk:Nat→Nat} {p:Nat} (hq:∀ k,1≤k→k≤7→rk k < p→a.slot k=b.slot k) (hr:rk 12 < p→a.ref=b.ref) {σ:Sg} {c:AV} {v:Value} (hc:@VR (smS d (a3a a b) (a4d a b)) σ c v) :
  @VR (smS d (a3a a b) (a4d a b)) σ (.g (aer (nmB rk p) c (aRv rk p))) (.agg (b.let v).row):=by
 letI:Sym:=smS d (a3a a b) (a4d a b)
 refine aq7 (fun k h1 h2=>?_) hc ?_
 ·unfold nmB
  split
  ·rename_i g
   have g:rk k < p:=Nat.le_of_ble_eq_true g
   have:=VR.x (σ:=σ) .i64 (64 * k)
   rw [show Sym.val (64 * k)=Int.ofNat (a3a a b k) from ah4 k (by omega),aes a b (by omega),hq k h1 h2 g] at this
   exact this
  ·have:=VR.x (σ:=σ) .i64 (64 * (k+16))
   rw [show Sym.val (64 * (k+16))=Int.ofNat (a3a a b (k+16)) from ah4 (k+16) (by omega),anv a b k] at this
   exact this
 ·unfold aRv
  split
  ·rename_i g
   have g:rk 12 < p:=Nat.le_of_ble_eq_true g
   rw [← hr g]
   obtain ⟨e1,e2⟩:=aph (ayk ha (d:=d))
   rw [← e1]
   exact LV.vals e2
  ·obtain ⟨e1,e2⟩:=aph (aKk hb (d:=d))
   rw [← e1]
   exact LV.vals e2
end
def aI7 (v:Value) (n f:Nat):Prop:=f < 6∧f - 1=n∧((f=0∧v=.slice none 0 0)∨(f=1∧∃ a c,v=.slice (some a) 0 c)∨2≤f)
theorem azu {W:World} {v:Value} {cs:List Nat} (h:a0h 0 W v cs) (hl:cs.length≤4) : ∃ f,aI7 v cs.length f:=by
 rcases h with ⟨rfl,rfl | ⟨a,c,rfl⟩⟩ | ⟨h0,hs⟩
 ·exact ⟨0,by omega,rfl,.inl ⟨rfl,rfl⟩⟩
 ·exact ⟨1,by omega,rfl,.inr (.inl ⟨rfl,a,c,rfl⟩)⟩
 ·have:cs.length≠0:=fun e=>h0 (List.eq_nil_of_length_eq_zero e)
  exact ⟨cs.length+1,by omega,by omega,.inr (.inr (by omega))⟩
def Apart (v w:Value):Prop:=∀ b o n c b' o' n' c',v=.slice (some ⟨b,o,none⟩) n c→w=.slice (some ⟨b',o',none⟩) n' c'→0 < n→0 < n'→b≠b'
section
variable [Sym] [a0n]
theorem ard {W:World} {k:Nat} {σ:Sg} {m:Tr AB} {fm:FM} {v:Value} {cs:List Nat} {f:Nat} {l:List AV} (hk1:1024≤k) (hk:k < 2048) (hgw:gw k=true) (hσ:σ k=none) (hsr:SR Tryz.prog W.heap.size σ m W) (hrs:RS 2048 ⟨m,1024,[],[]⟩ ⟨fm,1024,2048,[],[]⟩)
  (hf:aI7 v cs.length f) (hv:a0h 0 W v cs) (hl:l.map aa7=cs.map fun (c:Nat)=>Value.int .i64 (c:Int)) (hix:l.all ahy=true) (hsc:a1f l=true)
  (hne:∀ b o n c,v=.slice (some ⟨b,o,none⟩) n c→0 < n→∀ j p,m.get j≠none→σ j=some p→p.b≠b) :
  ∃ σ' m',Sg.le σ σ'∧(∀ j,j≠k→σ' j=σ j)∧SR Tryz.prog W.heap.size σ' m' W∧RS 2048 ⟨m',1024,[],[]⟩ ⟨aZk k f l fm,1024,2048,[],[]⟩∧VR σ' (clF k f) v∧(∀ j p,m'.get j≠none→σ' j=some p→(m.get j≠none∧σ j=some p)∨∃ o n c,v=.slice (some ⟨p.b,o,none⟩) n c∧0 < n):=by
 obtain ⟨f6,fn,hf⟩:=hf
 have hll:l.length=cs.length:=by
  have:=congrArg List.length hl
  simpa using this
 rcases hf with ⟨rfl,rfl⟩ | ⟨rfl,a,c,rfl⟩ | h2
 ·exact ⟨σ,m,fun _ _ h=>h,fun _ _=>rfl,hsr,hrs,VR.sln _ _,fun j p h1 h2=>.inl ⟨h1,h2⟩⟩
 ·exact ⟨σ,m,fun _ _ h=>h,fun _ _=>rfl,hsr,hrs,VR.se _ _,fun j p h1 h2=>.inl ⟨h1,h2⟩⟩
 ·obtain ⟨g,rfl⟩ : ∃ g,f=g+2:=⟨f - 2,by omega⟩
  have hn:cs.length=g+1:=by omega
  rcases hv with ⟨rfl,_⟩ | ⟨h0,hs⟩
  ·simp at hn
  ·obtain ⟨bb,oo,cc,row,hv0,_⟩:=id hs
   rw [← hl] at hs
   obtain ⟨q,s1,v1⟩:=aks (B:=W.heap.size) a4k hsr hs hix hσ hk hgw (fun b o n c hv j p hj hp=>hne b o n c hv (by
    rw [hv0] at hv
    injection hv with _ e2 _
    rw [← e2]
    simp;omega) j p hj hp)
   refine ⟨σ.add k q,_,Sg.a6v hσ,fun j hj=>?_,s1,?_,?_,fun j p h1 h2=>?_⟩
   ·unfold Sg.add;rw [if_neg hj]
   ·have:=al1 hrs k 3 l hk hsc
    rw [hll,hn] at this
    exact this
   ·rw [hll,hn] at v1
    exact v1
   ·by_cases e:j=k
    ·subst e
     right
     obtain ⟨Q,c',hQ,e2⟩:=aTa v1
     rw [hQ] at h2
     cases h2
     exact ⟨_,_,_,e2,by omega⟩
    ·left
     rw [Tr.a0u,if_neg e] at h1
     unfold Sg.add at h2
     rw [if_neg e] at h2
     exact ⟨h1,h2⟩
end
end V
end Go.CE
namespace Go.CE
namespace V
open Go.Proofs Go.Proofs.YtopgdlblfieljaaGreatDoor Go.RowKit
set_option maxRecDepth 100000
theorem ang {a b:Nat} (h:a≠b):Nat.beq a b=false:=by
 cases e:Nat.beq a b with
 | false=>rfl
 | true=>exact absurd (Nat.eq_of_beq_eq_true e) h
structure RkOk (rk:Nat→Nat):Prop where
 lt:∀ i,i < 8→rk (dOf i) < 8
theorem aTs:RkOk rkP:=⟨by decide⟩
theorem rkR_ok:RkOk rkR:=⟨by decide⟩
theorem as3 {i:Nat} (h:i < 7):dOf i=i+1:=by
 unfold dOf
 rw [show Nat.beq i 7=false from ang (by omega)]
theorem aXu:dOf 7=12:=rfl
def Dif (a b:LN) (i:Nat):Prop:=(i < 7∧a.slot (i+1)≠b.slot (i+1))∨(i=7∧a.ref≠b.ref)
theorem aA1 {a b:LN} {rk:Nat→Nat}:∀ r,(∃ i,i < 8∧Dif a b i∧rk (dOf i)≤r)→∃ i,i < 8∧Dif a b i∧∀ j,j < 8→rk (dOf j) < rk (dOf i)→¬ Dif a b j:=by
 intro r
 induction r with
 | zero =>
  rintro ⟨i,h1,h2,h3⟩
  exact ⟨i,h1,h2,fun j _ hj=>by omega⟩
 | succ r ih =>
  rintro ⟨i,h1,h2,h3⟩
  by_cases q : ∃ j,j < 8∧Dif a b j∧rk (dOf j) < rk (dOf i)
  ·obtain ⟨j,q1,q2,q3⟩:=q
   exact ih ⟨j,q1,q2,by omega⟩
  ·exact ⟨i,h1,h2,fun j hj1 hj2 hj3=>q ⟨j,hj1,hj3,hj2⟩⟩
theorem aQ3 {r:Bool} {x:Ans} (h:aGv r x=true) : ∃ f,x=some (.b r,f):=by
 unfold aGv at h
 split at h
 ·rename_i v f
  split at h
  ·exact ⟨f,rfl⟩
  ·exact ⟨f,rfl⟩
  ·cases h
 ·cases h
section
variable {a b:LN} (ha:a.Sz) (hb:b.Sz) {d:Nat}
include ha hb
omit hb in
theorem aAn {f:Nat} (hf:f - 1=a.cs.length):(aQz f).map (@aa7 (smS d (a3a a b) (a4d a b)))=a.cs.map fun (c:Nat)=>Value.int .i64 (c:Int):=by
 apply List.ext_getElem?
 intro i
 have hl:=ha.len
 simp only [aQz,hf,List.map_map,List.getElem?_map]
 by_cases hi:i < a.cs.length
 ·rw [List.getElem?_range hi,List.getElem?_eq_getElem hi]
  show some (Value.int .i64 (@Sym.val (smS d (a3a a b) (a4d a b)) (64 * (8+i))))=some (Value.int .i64 (a.cs[i]:Int))
  rw [ah4 (8+i) (by omega),aes a b (by omega),Nat.add_comm 8 i]
  have:a.slot (i+8)=a.cs[i]:=by
   show a.cs.getD i 0=_
   rw [List.getD_eq_getElem?_getD,List.getElem?_eq_getElem hi];rfl
  rw [this];rfl
 ·rw [List.getElem?_eq_none (by simp;omega),List.getElem?_eq_none (by omega)];rfl
theorem aAm {f j:Nat} (hf:f - 1=b.cs.length) (hj:∀ i,i < j→i < b.cs.length→a.cs.getD i 0=b.cs.getD i 0):(aS8 j f).map (@aa7 (smS d (a3a a b) (a4d a b)))=b.cs.map fun (c:Nat)=>Value.int .i64 (c:Int):=by
 apply List.ext_getElem?
 intro i
 have hl:=hb.len
 simp only [aS8,hf,List.map_map,List.getElem?_map]
 by_cases hi:i < b.cs.length
 ·rw [List.getElem?_range hi,List.getElem?_eq_getElem hi]
  have hbs:b.cs.getD i 0=b.cs[i]:=by rw [List.getD_eq_getElem?_getD,List.getElem?_eq_getElem hi];rfl
  show some (@aa7 (smS d (a3a a b) (a4d a b)) (match Nat.blt i j with | true=>.x .i64 (64 * (8+i)) | false=>.x .i64 (64 * (24+i))))=some (Value.int .i64 (b.cs[i]:Int))
  by_cases q:i < j
  ·rw [show Nat.blt i j=true from Nat.ble_eq_true_of_le q]
   show some (Value.int .i64 (@Sym.val (smS d (a3a a b) (a4d a b)) (64 * (8+i))))=_
   rw [ah4 (8+i) (by omega),aes a b (by omega),Nat.add_comm 8 i]
   have:a.slot (i+8)=b.cs[i]:=by
    show a.cs.getD i 0=_
    rw [hj i q hi,hbs]
   rw [this];rfl
  ·rw [show Nat.blt i j=false by cases e:Nat.blt i j with | false=>rfl | true=>exact absurd (Nat.le_of_ble_eq_true e) (by omega)]
   show some (Value.int .i64 (@Sym.val (smS d (a3a a b) (a4d a b)) (64 * (24+i))))=_
   rw [ah4 (24+i) (by omega),show 24+i=(i+8)+16 by omega,anv a b]
   have:b.slot (i+8)=b.cs[i]:=hbs
   rw [this];rfl
 ·rw [List.getElem?_eq_none (by simp;omega),List.getElem?_eq_none (by omega)];rfl
omit ha hb in
theorem aMi (f j:Nat) (hf:f < 6) (hj:j < 6):(aQz f).all ahy=true∧a1f (aQz f)=true∧(aS8 j f).all ahy=true∧a1f (aS8 j f)=true:=by
 have hf':f=0∨f=1∨f=2∨f=3∨f=4∨f=5:=by omega
 have hj':j=0∨j=1∨j=2∨j=3∨j=4∨j=5:=by omega
 rcases hf' with rfl | rfl | rfl | rfl | rfl | rfl<;>rcases hj' with rfl | rfl | rfl | rfl | rfl | rfl<;>exact ⟨by decide,by decide,by decide,by decide⟩
theorem aq6 {fn p j fa fb:Nat} {rk:Nat→Nat} {r:Bool} (hne:1≤d→d≤11→a.slot d≠b.slot d) (hr:d=12→a.ref≠b.ref) (hq:∀ k,1≤k→k≤7→rk k < p→a.slot k=b.slot k) (hqr:rk 12 < p→a.ref=b.ref) (hj6:j < 6)
  (hj:∀ i,i < j→i < b.cs.length→a.cs.getD i 0=b.cs.getD i 0) {W:World} {va vb:Value} (hva:a0h 0 W va a.cs) (hvb:a0h 0 W vb b.cs) (hap:Apart va vb) (hfa:aI7 va a.cs.length fa) (hfb:aI7 vb b.cs.length fb)
  (hrun:aGv r (@ax9 (smS d (a3a a b) (a4d a b)) fn rk p j fa fb)=true):Calls Tryz.prog fn #[.agg (a.let va).row,.agg (b.let vb).row] W fun e w'=>e=.returned (.bool r)∧Below W.heap.size W w':=by
 letI:Sym:=smS d (a3a a b) (a4d a b)
 haveI hok:a0n:=b1n ha hb hne hr
 obtain ⟨i1,i2,_,_⟩:=aMi fa j hfa.1 hj6
 obtain ⟨_,_,i3,i4⟩:=aMi fb j hfb.1 hj6
 obtain ⟨σ1,m1,l1,k1,s1,r1,v1,n1⟩:=ard (k:=1025) (l:=aQz fa) (by omega) (by omega) rfl (a2a (by omega)) (aIj W) aIp hfa hva (aAn ha hfa.2.1) i1 i2 (fun b o n c _ _ j p hj=>absurd (by cases j<;>rfl) hj)
 obtain ⟨σ2,m2,l2,k2,s2,r2,v2,n2⟩:=ard (k:=1027) (l:=aS8 j fb) (by omega) (by omega) rfl (by rw [k1 1027 (by omega)];exact a2a (by omega)) s1 r1 hfb hvb (aAm ha hb hfb.2.1 hj) i3 i4 (fun bb oo n c hv hn jj pp h1 h2=>by
  rcases n1 jj pp h1 h2 with ⟨q,_⟩ | ⟨o',n',c',q,hn'⟩
  ·exact absurd (by cases jj<;>rfl) q
  ·exact hap _ _ _ _ _ _ _ _ q hv hn' hn)
 obtain ⟨f',he⟩:=aQ3 hrun
 have hl:LR σ2 [.g (aer nmA (clF 1025 fa) (aty 0)),.g (aer (nmB rk p) (clF 1027 fb) (aRv rk p))] #[.agg (a.let va).row,.agg (b.let vb).row]:=by
  have:=LV.lr (σ:=σ2) (l:=[.g (aer nmA (clF 1025 fa) (aty 0)),.g (aer (nmB rk p) (clF 1027 fb) (aRv rk p))]) (m:=[.agg (a.let va).row,.agg (b.let vb).row]) ⟨aNl ha (v1.mono l2),aNk ha hb hq hqr v2,trivial⟩
  simpa using this
 refine (a3r allL r2 ((a8t.mono l1).mono l2) s2 (fun j hj=>by rw [k2 j (by omega),k1 j (by omega)];exact a2a (by omega)) (aaf _) hl he).mono fun e W' hd=>?_
 obtain ⟨τ,u,s',rfl,hov,am9,_,ap6,hvu,hbel⟩:=hd
 cases hvu
 exact ⟨rfl,hbel⟩
end
theorem LN.ext {a b:LN} (h:∀ k,1≤k→k≤7→a.slot k=b.slot k) (hr:a.ref=b.ref) (hc:a.cs=b.cs):a=b:=by
 have h1:a.kind=b.kind:=h 1 (by omega) (by omega)
 have h2:a.frm=b.frm:=h 2 (by omega) (by omega)
 have h3:a.dst=b.dst:=h 3 (by omega) (by omega)
 have h4:a.mtg=b.mtg:=h 4 (by omega) (by omega)
 have h5:a.res=b.res:=h 5 (by omega) (by omega)
 have h6:a.dl=b.dl:=h 6 (by omega) (by omega)
 have h7:a.st=b.st:=h 7 (by omega) (by omega)
 cases a;cases b
 simp_all
theorem aHq {l m:List Nat} (hl:l.length=m.length) (h:l≠m) : ∃ j,j < l.length∧l.getD j 0≠m.getD j 0∧∀ i,i < j→l.getD i 0=m.getD i 0:=by
 induction l generalizing m with
 | nil=>cases m with
  | nil=>exact absurd rfl h
  | cons _ _=>simp at hl
 | cons x l ih=>cases m with
  | nil=>simp at hl
  | cons y m =>
   by_cases e:x=y
   ·subst e
    obtain ⟨j,h1,h2,h3⟩:=ih (m:=m) (by simpa using hl) (fun q=>h (by rw [q]))
    refine ⟨j+1,by simpa using h1,by simpa using h2,fun i hi=>?_⟩
    cases i with
    | zero=>rfl
    | succ i=>simpa using h3 i (by omega)
   ·exact ⟨0,by simp,by simpa using e,fun i hi=>by omega⟩
section
variable {a b:LN} (ha:a.Sz) (hb:b.Sz)
include ha hb
theorem same_apart {fn:Nat} {rk:Nat→Nat} (R:SmR fn rk) (hk:RkOk rk) {W:World} {va vb:Value} (hva:a0h 0 W va a.cs) (hvb:a0h 0 W vb b.cs) (hap:Apart va vb) :
  Calls Tryz.prog fn #[.agg (a.let va).row,.agg (b.let vb).row] W fun e w'=>(a=b→e=.returned (.bool true))∧(a≠b→e=.returned (.bool false))∧Below W.heap.size W w':=by
 obtain ⟨fa,hfa⟩:=azu hva ha.len
 obtain ⟨fb,hfb⟩:=azu hvb hb.len
 have la:=ha.len
 have lb:=hb.len
 have rl:∀ k,1≤k→k≤7→rk k < 8:=fun k h1 h2=>by
  have:=hk.lt (k - 1) (by omega)
  rw [as3 (by omega),show k - 1+1=k by omega] at this
  exact this
 have rl12:rk 12 < 8:=hk.lt 7 (by omega)
 by_cases hD : ∃ i,i < 8∧Dif a b i
 ·obtain ⟨i,hi,hd⟩:=hD
  obtain ⟨i,hi,hd,hmin⟩:=aA1 (rk:=rk) _ ⟨i,hi,hd,Nat.le_refl _⟩
  have hrun:=List.all_eq_true.1 (List.all_eq_true.1 (R.dif (a3a a b) (a4d a b) i hi) fa (List.mem_range.2 hfa.1)) fb (List.mem_range.2 hfb.1)
  have hab:a≠b:=fun e=>by
   subst e
   rcases hd with ⟨_,q⟩ | ⟨_,q⟩<;>exact q rfl
  refine (aq6 ha hb (d:=dOf i) (fun h1 h2=>?_) (fun h12=>?_) (fun k h1 h2 h3=>?_) (fun h3=>?_) (by omega) (fun i hi=>absurd hi (Nat.not_lt_zero i)) hva hvb hap hfa hfb hrun).mono fun e w' hp=>⟨fun q=>absurd q hab,fun _=>hp.1,hp.2⟩
  ·rcases hd with ⟨q1,q2⟩ | ⟨q1,q2⟩
   ·rw [as3 q1];exact q2
   ·rw [q1,aXu] at h2;omega
  ·rcases hd with ⟨q1,q2⟩ | ⟨q1,q2⟩
   ·rw [as3 q1] at h12;omega
   ·exact q2
  ·have:=hmin (k - 1) (by omega) (by rw [as3 (by omega),show k - 1+1=k by omega];exact h3)
   refine Classical.byContradiction fun q=>this (.inl ⟨by omega,?_⟩)
   rw [show k - 1+1=k by omega];exact q
  ·have:=hmin 7 (by omega) (by rw [aXu];exact h3)
   exact Classical.byContradiction fun q=>this (.inr ⟨rfl,q⟩)
 ·have heq:∀ k,1≤k→k≤7→a.slot k=b.slot k:=fun k h1 h2=>Classical.byContradiction fun q=>hD ⟨k - 1,by omega,.inl ⟨by omega,by rw [show k - 1+1=k by omega];exact q⟩⟩
  have aZq:a.ref=b.ref:=Classical.byContradiction fun q=>hD ⟨7,by omega,.inr ⟨rfl,q⟩⟩
  have b3z:=fun j (hj:j < 5)=>List.all_eq_true.1 (List.all_eq_true.1 (R.cel (a3a a b) (a4d a b) fa hfa.1) fb (List.mem_range.2 hfb.1)) j (List.mem_range.2 hj)
  have ea:=hfa.2.1
  have eb:=hfb.2.1
  by_cases hlen:a.cs.length=b.cs.length
  ·have e1:Nat.beq (fa - 1) (fb - 1)=true:=by rw [ea,eb,hlen];exact Nat.beq_refl _
   by_cases hcs:a.cs=b.cs
   ·have hab:a=b:=LN.ext heq aZq hcs
    have hrun:=b3z a.cs.length (by omega)
    rw [e1,ea,show Nat.blt a.cs.length a.cs.length=false by cases e:Nat.blt a.cs.length a.cs.length with | false=>rfl | true=>exact absurd (Nat.le_of_ble_eq_true e) (by omega),show Nat.beq a.cs.length a.cs.length=true from Nat.beq_refl _] at hrun
    exact (aq6 ha hb (d:=0) (fun h1 h2=>by omega) (fun h12=>by omega) (fun k h1 h2 _=>heq k h1 h2) (fun _=>aZq) (by omega) (fun i _ _=>by rw [hcs]) hva hvb hap hfa hfb hrun).mono fun e w' hp=>⟨fun _=>hp.1,fun q=>absurd hab q,hp.2⟩
   ·have hab:a≠b:=fun e=>hcs (by rw [e])
    obtain ⟨j,hj1,hj2,hj3⟩:=aHq hlen hcs
    have hrun:=b3z j (by omega)
    rw [e1,ea,show Nat.blt j a.cs.length=true from Nat.ble_eq_true_of_le hj1] at hrun
    exact (aq6 ha hb (d:=8+j) (fun h1 h2=>by rw [Nat.add_comm 8 j];exact hj2) (fun h12=>by omega) (fun k h1 h2 _=>heq k h1 h2) (fun _=>aZq) (by omega) (fun i h1 _=>hj3 i h1) hva hvb hap hfa hfb hrun).mono fun e w' hp=>⟨fun q=>absurd q hab,fun _=>hp.1,hp.2⟩
  ·have hab:a≠b:=fun e=>hlen (by rw [e])
   have e1:Nat.beq (fa - 1) (fb - 1)=false:=by rw [ea,eb];exact ang hlen
   have hrun:=b3z 0 (by omega)
   rw [e1] at hrun
   exact (aq6 ha hb (d:=0) (fun h1 h2=>by omega) (fun h12=>by omega) (fun k h1 h2 _=>heq k h1 h2) (fun _=>aZq) (by omega) (fun i hi=>absurd hi (Nat.not_lt_zero i)) hva hvb hap hfa hfb hrun).mono fun e w' hp=>⟨fun q=>absurd q hab,fun _=>hp.1,hp.2⟩
end
end V
end Go.CE
