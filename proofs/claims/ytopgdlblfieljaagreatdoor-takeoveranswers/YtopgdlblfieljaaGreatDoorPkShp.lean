/-
  Which shapes of letters are reckoned.
-/
import Derived.Test.YtopgdlblfieljaaGreatDoorPkCeOne
import Derived.Test.YtopgdlblfieljaaGreatDoorPkHash
import Derived.Test.YtopgdlblfieljaaGreatDoorPkSy
import Derived.Test.YtopgdlblfieljaaGreatDoorPkFv
import Derived.Test.YtopgdlblfieljaaGreatDoorPkLz
import Derived.KernelRfl
import Derived.Laws.IdiomStrings
import Derived.Lib.BufferRead
import Derived.Test.YtopgdlblfieljaaGreatDoorPkTab
set_option linter.unusedSectionVars false
set_option linter.constructorNameAsVariable false
set_option linter.unusedVariables false
set_option linter.unusedSimpArgs false
namespace Go.CE
namespace V
def shB (kind n:Nat):Bool:=Nat.ble kind 12&&Nat.ble n 3
end V
end Go.CE
namespace Go.CE
namespace V
open Go.Proofs Go.Proofs.YtopgdlblfieljaaGreatDoor Go.RowKit
section
variable [Sym] [a0n]
theorem aT7 {P:Program} {B:Nat} {σ:Sg} {m:Tr AB} {W:World} (hs:SR P B σ m W) {k:Nat} {q:Pl} {x:AB} {o:Obj} (hk:σ k=none) (hr:k < 2048) (ho:W.heap[q.b]? = some o) (hx:BR P (σ.add k q) k q x o)
  (hne:∀ j p,m.get j≠none→σ j=some p→p.b≠q.b):SR P B (σ.add k q) (m.set k (some x)) W:=by
 have hle:=Sg.a6v (q:=q) hk
 refine ⟨fun j y hj=>?_,fun i j p1 p2 hi hj s1 s2 he=>?_,fun j p hj hro=>?_,hs.hB⟩
 ·rw [Tr.a0u] at hj
  by_cases h:j=k
  ·subst h
   rw [if_pos rfl] at hj;cases hj
   exact ⟨q,o,by simp [Sg.add],ho,hx⟩
  ·rw [if_neg h] at hj
   obtain ⟨p,o',h1,h2,h3⟩:=hs.mr j y hj
   exact ⟨p,o',hle _ _ h1,h2,h3.mono hle⟩
 ·have key:∀ j p,(m.set k (some x)).get j≠none→σ.add k q j=some p→(j=k∧p.b=q.b)∨(j≠k∧m.get j≠none∧σ j=some p):=fun j p hj hσ=>by
   rw [Tr.a0u] at hj
   unfold Sg.add at hσ
   by_cases h:j=k
   ·rw [if_pos h] at hσ;cases hσ;exact .inl ⟨h,rfl⟩
   ·rw [if_neg h] at hσ hj
    exact .inr ⟨h,hj,hσ⟩
  rcases key i p1 hi s1 with ⟨rfl,hb⟩ | ⟨_,a1,a2⟩<;>rcases key j p2 hj s2 with ⟨rfl,hb'⟩ | ⟨_,c1,c2⟩
  ·rfl
  ·exact absurd (he ▸ hb) (hne j p2 c1 c2)
  ·exact absurd (he.symm ▸ hb') (hne i p1 a1 a2)
  ·exact hs.inj i j p1 p2 a1 c1 a2 c2 he
 ·unfold Sg.add at hj
  by_cases h:j=k
  ·subst h;exact absurd hro (by have:roB=2048:=rfl;omega)
  ·rw [if_neg h] at hj;exact hs.ro j p hj hro
theorem al1 {m:Tr AB} {fm:FM} (h:RS 2048 ⟨m,1024,[],[]⟩ ⟨fm,1024,2048,[],[]⟩) (k T:Nat) (cs:List AV) (hk:k < 2048) (hs:a1f cs=true) :
  RS 2048 ⟨m.set k (some (.cells cs T)),1024,[],[]⟩ ⟨adx (p4 k) (.cells (a0r cs) cs.length T) fm,1024,2048,[],[]⟩:=by
 refine ⟨rfl,rfl,Nat.le_refl _,(fun e h=>by cases h),(fun e h=>by cases h),fun j=>?_,(fun e h=>by cases h),(fun e h=>by cases h),fun j x hj=>?_⟩
 ·show RB ((m.set k _).get j) (getM (p4 j) (adx (p4 k) _ fm))
  rw [Tr.a0u,aru]
  by_cases e:j=k
  ·rw [if_pos e,if_pos e]
   have hc:=a1g cs hs
   have hb:=RB.cells (a0r cs) cs.length T hc.2
   rwa [show a07 (a0r cs) 0 cs.length=cs from hc.1] at hb
  ·rw [if_neg e,if_neg e]
   exact h.m j
 ·rw [Tr.a0u] at hj
  by_cases e:j=k
  ·subst e;show j < 2 * 1024;omega
  ·rw [if_neg e] at hj;exact h.mb j x hj
theorem a3r {t:LT} (hall:t.all (Good Tryz.prog)) {q k:Nat} {l:List FV} {a:List AV} {m:Tr AB} {fm:FM} {v:FV} {f':QW} {σ:Sg} {W:World} {vals:Array Value}
  (hrs:RS 2048 ⟨m,1024,[],[]⟩ ⟨fm,1024,2048,[],[]⟩) (hg:GS σ) (hsr:SR Tryz.prog W.heap.size σ m W) (hfr:∀ j,2048≤j→σ j=none)
  (hl:RVs a l) (hv:LR σ a vals) (he:evF Tryz.prog t.fq q k l ⟨fm,1024,2048,[],[]⟩=some (v,f')) :
  Calls Tryz.prog k vals W fun e W' => ∃ τ u s',e=.returned u∧okV v∧RS 2048 s' f'∧Grow σ τ 1024 s'.nx∧SR Tryz.prog W.heap.size τ s'.mem W'∧VR τ (a2t v) u∧Below W.heap.size W W':=by
 obtain ⟨x,s',hev,⟨hx,hov⟩,am9⟩:=ayi (P:=Tryz.prog) (LT.aNd hall) (LT.aT3 hall).1 q k hrs hl he
 obtain ⟨m',n',l',w'⟩:=s'
 subst hx
 obtain ⟨_,c2⟩:=a7h (LT.aT3 hall) q W.heap.size σ m 1024 [] [] W k a (a2t v) m' n' l' w' vals hg hsr hv hev (fun j h1 _=>hfr j h1)
 refine c2.mono fun e W' hd=>?_
 obtain ⟨τ,u,he,h1,h2,hv,hb⟩:=hd
 exact ⟨τ,u,_,he,hov,am9,h1,h2,hv,hb⟩
end
section
variable [Sym] [a0n]
theorem aj3 {σ:Sg} {x:AV} {vals:Array Value} (hl:LR σ [x] vals) : ∃ v0,vals=#[v0]∧VR σ x v0:=by
 have hsz:vals.size=1:=hl.len.symm
 obtain ⟨v0,e0,hv0⟩:=hl.at (i:=0) rfl
 refine ⟨v0,?_,hv0⟩
 apply Array.ext
 ·simpa using hsz
 ·intro i h1 h2
  have:i=0:=by omega
  subst this
  simpa using (Array.getElem?_eq_some_iff.1 e0).2
end
def Sl (B:Nat) (W:World) (v:Value) (T:Nat) (vs:List Value):Prop := ∃ b o c row,v=.slice (some ⟨b,o,none⟩) vs.length c∧B≤b∧W.heap[b]? = some (.cells row T (0,0))∧o+c=row.size∧vs.length≤c∧∀ i,i < vs.length→row[o+i]? = vs[i]?
theorem Sl.below {B:Nat} {W W':World} {v:Value} {T:Nat} {vs:List Value} (h:Sl B W v T vs) (hb:Below W.heap.size W W'):Sl B W' v T vs:=by
 obtain ⟨b,o,c,row,h1,h0,h2,h3,h4,h5⟩:=h
 exact ⟨b,o,c,row,h1,h0,(hb.block b (Array.getElem?_eq_some_iff.1 h2).1).trans h2,h3,h4,h5⟩
theorem Sl.mono {B B':Nat} {W:World} {v:Value} {T:Nat} {vs:List Value} (h:Sl B W v T vs) (hb:B'≤B):Sl B' W v T vs:=by
 obtain ⟨b,o,c,row,h1,h0,h2,h3,h4,h5⟩:=h
 exact ⟨b,o,c,row,h1,Nat.le_trans hb h0,h2,h3,h4,h5⟩
theorem Sl.lt {B:Nat} {W:World} {v:Value} {T:Nat} {vs:List Value} (h:Sl B W v T vs) : ∃ b o c,v=.slice (some ⟨b,o,none⟩) vs.length c∧B≤b∧b < W.heap.size:=by
 obtain ⟨b,o,c,row,h1,h0,h2,h3,h4,h5⟩:=h
 exact ⟨b,o,c,h1,h0,(Array.getElem?_eq_some_iff.1 h2).1⟩
section
variable [Sym]
def aa7:AV→Value
 | .i k n=>.int k n
 | .x k j=>.int k (Sym.val j)
 | _=>undef
def ahy:AV→Bool
 | .i _ _=>true
 | .x _ _=>true
 | _=>false
theorem aii {σ:Sg} {a:AV} {v:Value} (h:VR σ a v) (hx:ahy a=true):v=aa7 a:=by
 cases a<;>first | (cases h;rfl) | cases hx
theorem aij (σ:Sg) {a:AV} (hx:ahy a=true):VR σ a (aa7 a):=by
 cases a<;>first | exact .i _ _ | exact .x _ _ | cases hx
end
def avB:AV→AV→Bool
 | .i k (.ofNat a),.i j (.ofNat b)=>acb k j&&Nat.beq a b
 | .x k a,.x j b=>acb k j&&Nat.beq a b
 | .b a,.b b=>a == b
 | .s [],.s []=>true
 | .sl none a b,.sl none c d=>Nat.beq a c&&Nat.beq b d
 | _,_=>false
def avL:List AV→List AV→Bool
 | [],[]=>true
 | a :: l,b :: m=>avB a b&&avL l m
 | _,_=>false
theorem agb {a b:AV} (h:avB a b=true):a=b:=by
 unfold avB at h
 split at h
 ·simp only [Bool.and_eq_true] at h
  have h1:_=_:=of_decide_eq_true h.1
  have h2:=Nat.eq_of_beq_eq_true h.2
  rw [h1,h2]
 ·simp only [Bool.and_eq_true] at h
  have h1:_=_:=of_decide_eq_true h.1
  have h2:=Nat.eq_of_beq_eq_true h.2
  rw [h1,h2]
 ·simp at h;rw [h]
 ·rfl
 ·simp only [Bool.and_eq_true] at h
  have h1:=Nat.eq_of_beq_eq_true h.1
  have h2:=Nat.eq_of_beq_eq_true h.2
  rw [h1,h2]
 ·cases h
theorem a6h:∀ {a b:List AV},avL a b=true→a=b
 | [],[],_=>rfl
 | [],_ :: _,h=>by simp [avL] at h
 | _ :: _,[],h=>by simp [avL] at h
 | a :: l,b :: m,h=>by
  simp only [avL,Bool.and_eq_true] at h
  rw [agb h.1,a6h h.2]
noncomputable def akd (T:Nat) (r:FB) (o n:Nat):Option (List AV):=match r with
 | .cells t m U=>match Nat.ble (o+n) m&&Nat.beq T U with
  | true=>some (a07 t o n)
  | false=>none
 | _=>none
def atv (x:Option (List AV)) (l:List AV):Bool:=match x with
 | some m=>avL m l
 | none=>false
theorem a7y [Sym] [a0n] (t:FV) (m o n i:Nat) (hi:i < n) (h:o+n≤m):(a07 t 0 m)[o+i]? = (a07 t o n)[i]? := by
 rw [a0m,a0m,if_pos (by omega),if_pos hi,Nat.zero_add]
theorem aNm [Sym] [a0n] {T B:Nat} {P:Program} {τ:Sg} {s':CE.St} {f':QW} {W':World} {q:P4} {k o n c:Nat} {l:List AV} {u:Value} (hT:P.cellsOf T=1) (hrs:RS 2048 s' f') (hsr:SR P B τ s'.mem W') (hq:q=p4 k) (hk:2048≤k) (hgw:gw k=true) (hn:n=l.length)
  (hb:akd T (getM q f'.m) o n=some l) (hix:l.all ahy=true) (hv:VR τ (.sl (some (k,o)) n c) u):Sl B W' u T (l.map aa7):=by
 subst hq
 unfold akd at hb
 split at hb
 ·rename_i t m U hm
  split at hb
  ·rename_i hc
   simp only [Bool.and_eq_true] at hc
   have hle:o+n≤m:=Nat.le_of_ble_eq_true hc.1
   have hU:T=U:=Nat.eq_of_beq_eq_true hc.2
   subst hU
   have hl:a07 t o n=l:=Option.some.inj hb
   have hR:=hrs.m k
   rw [hm] at hR
   generalize hg:s'.mem.get k=y at hR
   cases hR
   obtain ⟨Q,ob,hQ,hh,cs,hcs,_,h2,h3,h4⟩:=hsr.mr k _ hg
   obtain ⟨h2a,h2b⟩:=h2 hgw
   cases hv with
   | sl _ _ _ _ c' Q' hQ' aWu _ hz =>
    rw [hQ] at hQ';cases hQ'
    have hz:=hz hgw
    have hs1:Q.sz=1:=by rw [← h2b];exact hT
    rw [hs1,Nat.mul_one] at hz
    refine ⟨Q.b,o+Q.d,c',cs,by rw [List.length_map,hn],hsr.ro k Q hQ hk,by rw [hh,hcs],by omega,?_,fun i hi=>?_⟩
    ·rw [List.length_map,← hn]
     have h3':Q.d+m≤cs.size:=by simpa [a0q] using h3
     omega
    ·rw [List.length_map,← hn] at hi
     have hx:(a07 t 0 m)[o+i]? = some (l[i]'(by omega)):=by
      rw [a7y t m o n i hi hle,hl,List.getElem?_eq_getElem]
     have h3':Q.d+m≤cs.size:=by simpa [a0q] using h3
     have hlt:Q.d+(o+i) < cs.size:=by omega
     have hvr:=h4 (o+i) _ cs[Q.d+(o+i)] hx (Array.getElem?_eq_getElem hlt)
     have:=aii hvr (List.all_eq_true.1 hix _ (List.getElem_mem _))
     rw [show o+Q.d+i=Q.d+(o+i) by omega,Array.getElem?_eq_getElem hlt,this]
     rw [List.getElem?_map,List.getElem?_eq_getElem (show i < l.length by omega)]
     rfl
  ·cases hb
 ·cases hb
theorem aks [Sym] [a0n] {P:Program} {B B':Nat} {σ:Sg} {m:Tr AB} {W:World} {T:Nat} {l:List AV} {v:Value} {k:Nat} (hT:P.cellsOf T=1) (hs:SR P B σ m W) (h:Sl B' W v T (l.map aa7)) (hix:l.all ahy=true) (hk:σ k=none) (hr:k < 2048) (hgw:gw k=true)
  (hne:∀ b o n c,v=.slice (some ⟨b,o,none⟩) n c→∀ j p,m.get j≠none→σ j=some p→p.b≠b) :
  ∃ q,SR P B (σ.add k q) (m.set k (some (.cells l T))) W∧VR (σ.add k q) (.sl (some (k,0)) l.length l.length) v:=by
 obtain ⟨b,o,c,row,rfl,_,h2,h3,h4,h5⟩:=h
 rw [List.length_map] at h4 h5
 refine ⟨⟨b,o,row.size,1⟩,aT7 hs hk hr h2 ⟨row,rfl,(fun h=>by rw [hgw] at h;cases h),(fun _=>⟨rfl,hT⟩),by show o+l.length≤row.size;omega,fun i x v e1 e2=>?_⟩ (hne b o _ c rfl),?_⟩
 ·have hi:i < l.length:=(List.getElem?_eq_some_iff.1 e1).1
  have e2:row[o+i]? = some v:=e2
  rw [h5 i hi,List.getElem?_map,e1] at e2
  cases e2
  have hm:x∈l:=List.mem_of_getElem? e1
  exact aij _ (List.all_eq_true.1 hix x hm)
 ·rw [List.length_map]
  have:=VR.sl (σ:=σ.add k ⟨b,o,row.size,1⟩) k 0 l.length l.length c ⟨b,o,row.size,1⟩ (by simp [Sg.add]) h4 (fun h=>by rw [hgw] at h;cases h) (fun _=>by show 0+o+c * 1=row.size;omega)
  simpa using this
end V
end Go.CE
namespace Go.CE
namespace V
open Go.Proofs Go.Proofs.YtopgdlblfieljaaGreatDoor Go.RowKit
def aZ3 (kind:Nat):Nat→Nat
 | 1=>15
 | 2=>15
 | 3=>1099511627776
 | 4=>255
 | 5=>2251799813685248
 | 6=>match kind with
  | 14=>5
  | _=>18
 | _=>15
def shLo:Nat→Nat
 | 3=>1
 | _=>0
def b1r (n s t:Nat):Bool:=Nat.ble 8 s&&Nat.blt s t&&Nat.blt t (8+n)
def b1s:Nat→Nat→Bool
 | 1,2=>true
 | 2,1=>true
 | _,_=>false
def aNq:Nat→Bool
 | 0=>false
 | 1=>true
 | 2=>true
 | 3=>false
 | 4=>false
 | 5=>false
 | 6=>false
 | 7=>false
 | _=>true
def axj:List AV:=(List.range 32).map fun i=>.x .u8 (1048576+i)
def ani:List AV:=List.replicate 32 (.i .u8 (.ofNat 0))
def b1t (rz:Bool) (v w:List AV):Option Bool:=match avL v axj&&avL w ani with
 | true=>some rz
 | false=>none
@[reducible] def shP (kind n:Nat) (rz:Bool) (num oct:Nat→Nat):Y.Pk:={ num:=num,lo:=shLo,hi:=aZ3 kind,oct:=oct,ocq:=fun _ _=>none,ord:=b1r n,ne:=b1s,one:=aNq,eqg:=b1t rz }
@[reducible] def shS (kind n:Nat) (rz:Bool) (num oct:Nat→Nat):Sym:=(shP kind n rz num oct).sym
def zI:AV:=.i .i64 (.ofNat 0)
def b0:AV:=.i .u8 (.ofNat 0)
end V
end Go.CE
namespace Go.CE
namespace V
open Go.Proofs Go.Proofs.YtopgdlblfieljaaGreatDoor Go.RowKit
set_option maxRecDepth 100000
def SlZ (B:Nat) (W:World) (v:Value) (T z n:Nat) (vs:List Value):Prop := ∃ b o c row,v=.slice (some ⟨b,o,none⟩) n c∧B≤b∧W.heap[b]? = some (.cells row T (0,0))∧o+c * z=row.size∧n≤c∧vs.length=n * z∧∀ i,i < vs.length→row[o+i]? = vs[i]?
section
variable [Sym] [a0n]
end
end V
end Go.CE
namespace Go.CE
namespace V
open Go.Proofs Go.Proofs.YtopgdlblfieljaaGreatDoor Go.RowKit
theorem a2a {j:Nat} (h:1024≤j):gsg j=none:=by
 cases hj:gsg j with
 | none=>rfl
 | some q=>have:=ai1 hj;omega
theorem a2w {σ:Sg} {k j:Nat} {q:Pl} (h:j≠k) (h2:σ j=none):σ.add k q j=none:=by unfold Sg.add;rw [if_neg h];exact h2
section
variable [Sym] [a0n]
theorem aIj (W:World):SR Tryz.prog W.heap.size gsg .e W:=by
 refine SR.mk (fun j x hj=>by cases j<;>cases hj) (fun i j p1 p2 hi _ _ _ _=>absurd (by cases i<;>rfl) hi) (fun j q hj hro=>?_) (Nat.le_refl _)
 have:=ai1 hj
 have:roB=2048:=rfl
 omega
theorem aIp:RS 2048 ⟨.e,1024,[],[]⟩ ⟨.e,1024,2048,[],[]⟩:=by
 refine RS.mk rfl rfl (Nat.le_refl _) (fun e h=>by cases h) (fun e h=>by cases h) (fun k=>?_) (fun e h=>by cases h) (fun e h=>by cases h) (fun k x h=>?_)
 ·show RB (Tr.get .e k) (getM (p4 k) .e)
  rw [adg]
  cases k<;>exact .no
 ·cases k<;>cases h
end
section
variable [Sym]
def LV (σ:Sg):List AV→List Value→Prop
 | [],[]=>True
 | a :: l,v :: m=>VR σ a v∧LV σ l m
 | _,_=>False
theorem LV.len {σ:Sg}:∀ {l:List AV} {m:List Value},LV σ l m→l.length=m.length
 | [],[],_=>rfl
 | _ :: _,_ :: _,h=>by simp [LV.len h.2]
 | [],_ :: _,h=>h.elim
 | _ :: _,[],h=>h.elim
theorem LV.get {σ:Sg}:∀ {l:List AV} {m:List Value},LV σ l m→∀ (i:Nat) (x:AV) (v:Value),l[i]? = some x→m[i]? = some v→VR σ x v
 | [],[],_,i,x,v,h,_=>by simp at h
 | a :: l,b :: m,h,0,x,v,h1,h2=>by simp at h1 h2;subst h1;subst h2;exact h.1
 | a :: l,b :: m,h,i+1,x,v,h1,h2=>LV.get h.2 i x v (by simpa using h1) (by simpa using h2)
theorem LV.lr {σ:Sg} {l:List AV} {m:List Value} (h:LV σ l m):LR σ l m.toArray:=⟨by simp [h.len],fun i x v h1 h2=>h.get i x v h1 (by simpa using h2)⟩
theorem LV.app {σ:Sg}:∀ {l:List AV} {m:List Value} {l':List AV} {m':List Value},LV σ l m→LV σ l' m'→LV σ (l++l') (m++m')
 | [],[],_,_,_,h=>h
 | _ :: _,_ :: _,_,_,h,h'=>⟨h.1,LV.app h.2 h'⟩
 | [],_ :: _,_,_,h,_=>h.elim
 | _ :: _,[],_,_,h,_=>h.elim
theorem LV.vals {σ:Sg}:∀ {l:List AV},l.all ahy=true→LV σ l (l.map aa7)
 | [],_=>trivial
 | a :: l,h=>by
  simp only [List.all_cons,Bool.and_eq_true] at h
  exact ⟨aij σ h.1,LV.vals h.2⟩
end
def isY:AV→Bool
 | .i _ _=>true
 | .x _ _=>true
 | .b _=>true
 | .s []=>true
 | .sl none _ _=>true
 | _=>false
theorem aIg [Sym] {σ:Sg} {a:AV} {v w:Value} (hy:isY a=true) (h1:VR σ a v) (h2:VR σ a w):v=w:=by
 unfold isY at hy
 split at hy
 ·cases h1;cases h2;rfl
 ·cases h1;cases h2;rfl
 ·cases h1;cases h2;rfl
 ·cases h1 with
  | s _ bs e1=>cases h2 with
   | s _ cs e2 =>
    have f:∀ bs:ByteArray,[]=bs.data.toList.map (·.toNat)→bs=⟨#[]⟩:=fun bs e=>by
     have:bs.data.toList = []:=List.map_eq_nil_iff.1 e.symm
     cases bs with
     | mk d =>
      have:d=#[]:=by simpa using this
      rw [this]
    rw [f bs e1,f cs e2]
 ·cases h1;cases h2;rfl
 ·cases hy
section
variable [Sym] [a0n]
theorem aB5 {σ:Sg} {l:List AV} {a b:Array Value} (h1:LR σ l a) (h2:LR σ l b) (hy:∀ (i:Nat) (x:AV),l[i]? = some x→isY x=true∨a[i]? = b[i]?):a=b:=by
 apply Array.ext_getElem?
 intro i
 by_cases hi:i < l.length
 ·rcases hy i _ (List.getElem?_eq_getElem hi) with e | e
  ·obtain ⟨v1,q1,r1⟩:=h1.at (List.getElem?_eq_getElem hi)
   obtain ⟨v2,q2,r2⟩:=h2.at (List.getElem?_eq_getElem hi)
   rw [q1,q2,aIg e r1 r2]
  ·exact e
 ·rw [Array.getElem?_eq_none (by rw [← h1.len];omega),Array.getElem?_eq_none (by rw [← h2.len];omega)]
end
theorem aph [Sym] {l:List AV} {m:List UInt8} (h:l.map den=m.map a5d):l.map aa7=m.map (fun c=>B8 c.toNat)∧l.all ahy=true:=by
 induction l generalizing m with
 | nil=>cases m with
  | nil=>exact ⟨rfl,rfl⟩
  | cons b m=>simp at h
 | cons a l ih=>cases m with
  | nil=>simp at h
  | cons b m =>
   simp only [List.map_cons,List.cons.injEq] at h
   obtain ⟨e1,e2⟩:=ih h.2
   have h1:=h.1
   unfold a5d at h1
   cases a<;>simp only [den] at h1<;>first | (cases h1;done) | skip
   ·cases h1
    exact ⟨by rw [List.map_cons,List.map_cons,e1];rfl,by rw [List.all_cons,e2];rfl⟩
   ·injection h1 with q1 q2
    subst q1
    refine ⟨?_,by rw [List.all_cons,e2];rfl⟩
    rw [List.map_cons,List.map_cons,e1]
    show Value.int .u8 (Sym.val _) :: _=_
    rw [q2]
    rfl
theorem aaf [Sym] [a0n] (l:List AV):RVs l (l.map ofV):=⟨by rw [List.map_map];exact (List.map_id'' (fun v=>(ak8 v).1) l).symm,fun v hv=>by obtain ⟨a,_,rfl⟩:=List.mem_map.1 hv;exact (ak8 a).2⟩
theorem a4k:Tryz.prog.cellsOf 3=1:=by kernel_rfl
end V
end Go.CE
namespace Go.CE
namespace V
open Go.Proofs Go.Proofs.YtopgdlblfieljaaGreatDoor Go.RowKit
set_option maxRecDepth 100000
section
variable [Sym]
def aik (tab:List AV→Option (List AV)):List AV→X AV:=fun args=>match args with
 | [.sl (some (k2,o2)) n _]=>CE.bnd (rdK k2 o2 n) fun b=>CE.bnd (CE.lift (tab b)) fun rs=>CE.ret (.g rs)
 | _=>CE.fail
theorem awr (tab:List AV→Option (List AV)) (x:List AV):Loc (aik tab x):=by
 unfold aik
 split
 ·exact Loc.bnd (Loc.rdK _ _ _) fun _=>Loc.bnd (Loc.lift _) fun _=>Loc.ret _
 ·exact Loc.fail
end
section
variable [Sym] [a0n]
theorem anu {f:Nat} (hen:∀ (vals:Array Value) (W:World),(callFunc f vals).run Tryz.prog W=.ok (.enter f vals) W)
  (aWv:∀ (M:List UInt8) (v:Value) (w:World),M.length≤1099511627776→acd w v M→Calls Tryz.prog f #[v] w fun e w'=>e=.returned (.agg (a0i (a3t M)))∧Below w.heap.size w w')
  {tab:List AV→Option (List AV)} (ht:asf a3t tab) (B:Nat) (σ:Sg) (m:Tr AB) (n:Nat) (l w:List LE) (W:World) (args:List AV) (v:AV) (m':Tr AB) (n':Nat) (l' w':List LE) (vals:Array Value)
  (_:GS σ) (hs:SR Tryz.prog B σ m W) (hl:LR σ args vals) (hx:aik tab args ⟨m,n,l,w⟩=some (v,⟨m',n',l',w'⟩)) (_:a3q σ n n') :
  (callFunc f vals).run Tryz.prog W=.ok (.enter f vals) W∧Calls Tryz.prog f vals W (Done Tryz.prog B σ n n' m' v W):=by
 refine ⟨hen vals W,?_⟩
 unfold aik at hx
 split at hx
 ·rename_i k2 o2 len cp
  obtain ⟨b,⟨m2,n2,l2,w2⟩,g3,x3⟩:=a08 hx
  obtain ⟨e1,e2,c2,T2,hk2,as4⟩:=a5y g3
  cases e1;cases e2
  obtain ⟨rs,s1,g4,x4⟩:=a08 x3
  obtain ⟨hrs,e1⟩:=a7o g4
  cases e1
  obtain ⟨e1,e3⟩:=a0k x4
  cases e1;cases e3
  obtain ⟨msg,t2,t4,t5⟩:=ht _ _ hrs
  obtain ⟨v0,rfl,hv0⟩:=aj3 hl
  refine (aWv msg v0 W (by omega) (acs hs hv0 hk2 as4 t4)).mono fun e W' he=>?_
  obtain ⟨he,hb⟩:=he
  exact ⟨σ,_,he,Grow.refl _ _ _,adp hs hb,row_of t5,hb.mono hs.hB⟩
 ·cases hx
noncomputable def asy (tab:List AV→Option (List AV)):LQ:=fun l s k=>match l with
 | [.s _ i2 o2 m _]=>aiv (p4 i2) i2 o2 m s fun b s=>match a2t b with
  | .g bl=>opt (tab bl) fun rs=>V.iff (a1f rs) (k (.g (a0r rs) rs.length) s)
  | _=>none
 | _=>none
theorem aCn (tab:List AV→Option (List AV)) (B:Nat) (s:CE.St) (f:QW) (x:List AV) (l:List FV) (hs:RS B s f) (h:RVs x l):Ok B RV (asy tab l f) (aik tab x s):=by
 obtain ⟨rfl,ho⟩:=h
 unfold asy
 split
 ·rename_i q2 i2 o2 m c
  have hq2:q2=p4 i2:=ho (.s q2 i2 o2 m c) (by simp)
  subst hq2
  show Ok B RV _ (CE.bnd (rdK i2 o2 m) (fun b=>CE.bnd (CE.lift (tab b)) fun rs=>CE.ret (.g rs)) s)
  refine Ok.bnd (a7v hs i2 o2 m) fun b f a s h hs=>?_
  obtain ⟨t2,rfl,rfl,ht2⟩:=h
  refine Ok.opt fun rs hrs=>Ok.lift hrs ?_
  refine Ok.iff fun h5=>?_
  have hc:=a1g rs h5
  exact Ok.ret (R:=RV) (b:=.g (a0r rs) rs.length) (a:=.g rs) ⟨congrArg AV.g hc.1.symm,hc.2⟩ hs
 ·exact Ok.none
theorem ach:Good Tryz.prog 79 (asy a5l) (aik a5l) :=
 ⟨awr _,anu (enters _ ⟨_,Tryz.func79,by kernel_rfl,by kernel_rfl⟩) (fun M v w h1 h2=>ahd M v h1 w h2) aeq,aCn _⟩
end
end V
end Go.CE
