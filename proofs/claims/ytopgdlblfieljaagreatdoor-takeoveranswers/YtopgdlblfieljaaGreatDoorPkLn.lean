/-
  Letters of the kinds without a series, with numbers: what stands behind the names of a shape.
-/
import Derived.Test.YtopgdlblfieljaaGreatDoorPkShp
import Derived.Test.YtopgdlblfieljaaGreatDoorPkQ
set_option linter.unusedSectionVars false
set_option linter.constructorNameAsVariable false
set_option linter.unusedVariables false
set_option linter.unusedSimpArgs false
namespace Go.CE
namespace V
open Go.Proofs Go.Proofs.YtopgdlblfieljaaGreatDoor Go.RowKit
abbrev LN:=Go.Rv.Lt
def asj:List UInt8:=List.replicate 32 0
def LN.num (x:LN):Nat→Int
 | 0=>x.mtg
 | 6=>x.res
 | 11=>x.dl
 | 12=>x.st
 | _=>0
def LN.let (x:LN) (v:Value):Let:=⟨x.kind,x.frm,x.dst,x.num,v,x.ref⟩
structure LN.Ok (x:LN):Prop where
 kd:x.kind=8∨x.kind=9∨x.kind=10∨x.kind=11∨x.kind=12∨x.kind=13∨x.kind=14∨x.kind=18
 frm:x.frm < 16
 dst:x.dst < 16
 ne:x.frm≠x.dst
 aPp:1≤x.mtg
 aM0:x.mtg≤1099511627776
 res:x.res≤255
 res0:x.kind≠9→x.kind≠10→x.res=0
 dl:x.dl≤2251799813685248
 dl0:x.kind≠8→x.kind≠9→x.dl=0
 st:x.st≤18
 aNg:x.kind=14→x.st≤5
 st0:x.kind=8∨x.kind=9∨x.kind=13∨x.kind=18→x.st=0
 cs:∀ c∈x.cs,c < 16
 up:x.cs.Pairwise (· < ·)
 len:x.cs.length≤4
 cs0:x.kind=18→x.cs = []
 ref:x.ref.length=32
 aO3:x.kind=8∨x.kind=13→x.ref=asj
 shp:shB x.kind x.cs.length=true
def LN.at (x:LN):Nat→Nat
 | 0=>0
 | 1=>x.frm
 | 2=>x.dst
 | 3=>x.mtg
 | 4=>x.res
 | 5=>x.dl
 | 6=>x.st
 | 7=>0
 | s+8=>x.cs.getD s 0
def LN.oct (x:LN) (i:Nat):Nat:=(x.ref.getD i 0).toNat
@[reducible] def LN.rz (x:LN):Bool:=decide (x.ref=asj)
@[reducible] def LN.P (x:LN):Y.Pk:=shP x.kind x.cs.length x.rz x.at x.oct
@[reducible] def LN.S (x:LN):Sym:=shS x.kind x.cs.length x.rz x.at x.oct
theorem getD_lt {l:List Nat} {i b:Nat} (h:∀ c∈l,c < b) (hb:0 < b):l.getD i 0 < b:=by
 rw [List.getD_eq_getElem?_getD]
 cases e:l[i]? with
 | none=>exact hb
 | some c=>exact h c (List.mem_of_getElem? e)
theorem LN.aUq {x:LN} (h:x.Ok):x.P.Ok:=by
 have hcs:∀ s,x.cs.getD s 0 < 16:=fun s=>getD_lt h.cs (by decide)
 refine ⟨fun s=>?_,fun s=>?_,fun s=>?_,fun i=>(x.ref.getD i 0).toNat_lt,(fun _ _ _ e=>by cases e),fun s t e=>?_,fun s t e=>?_,fun s e=>?_,(fun _ _ _ e=>by cases e)⟩
 ·show shLo s≤x.at s
  match s with
  | 0=>exact Nat.zero_le _
  | 1=>exact Nat.zero_le _
  | 2=>exact Nat.zero_le _
  | 3=>exact h.aPp
  | s+4=>exact Nat.zero_le _
 ·show x.at s≤aZ3 x.kind s
  match s with
  | 0=>exact Nat.zero_le _
  | 1=>exact Nat.le_of_lt_succ h.frm
  | 2=>exact Nat.le_of_lt_succ h.dst
  | 3=>exact h.aM0
  | 4=>exact h.res
  | 5=>exact h.dl
  | 6 =>
   show x.st≤(match x.kind with | 14=>5 | _=>18)
   split
   ·rename_i e;exact h.aNg e
   ·exact h.st
  | 7=>exact Nat.zero_le _
  | s+8=>exact Nat.le_of_lt_succ (hcs s)
 ·show aZ3 x.kind s < 9223372036854775808
  unfold aZ3
  split<;>first | decide | (split<;>decide)
 ·have e:(Nat.ble 8 s&&Nat.blt s t&&Nat.blt t (8+x.cs.length))=true:=e
  simp only [Bool.and_eq_true] at e
  have e1:8≤s:=Nat.le_of_ble_eq_true e.1.1
  have e2:s < t:=Nat.le_of_ble_eq_true e.1.2
  have e3:t < 8+x.cs.length:=Nat.le_of_ble_eq_true e.2
  obtain ⟨a,rfl⟩ : ∃ a,s=a+8:=⟨s - 8,by omega⟩
  obtain ⟨b,rfl⟩ : ∃ b,t=b+8:=⟨t - 8,by omega⟩
  show x.cs.getD a 0 < x.cs.getD b 0
  rw [List.getD_eq_getElem?_getD,List.getD_eq_getElem?_getD,List.getElem?_eq_getElem (by omega),List.getElem?_eq_getElem (by omega)]
  exact List.pairwise_iff_getElem.1 h.up a b (by omega) (by omega) (by omega)
 ·show x.at s≠x.at t
  have e:b1s s t=true:=e
  unfold b1s at e
  split at e
  ·exact h.ne
  ·exact h.ne.symm
  ·cases e
 ·show x.at s < 256
  have e:aNq s=true:=e
  match s with
  | 0=>cases e
  | 1=>have:=h.frm;show x.frm < 256;omega
  | 2=>have:=h.dst;show x.dst < 256;omega
  | 3=>cases e
  | 4=>cases e
  | 5=>cases e
  | 6=>cases e
  | 7=>cases e
  | s+8=>have:=hcs s;show x.cs.getD s 0 < 256;omega
theorem LN.ah3 (x:LN) (s:Nat) (hs:s < 16384):@Sym.val x.S (64 * s)=Int.ofNat (x.at s):=by
 show Int.ofNat (x.P.nat (64 * s))=_
 rw [show 64 * s=64 * s+0 by omega,Y.a1j x.P s 0 (by omega) (by have:Y.ob=1048576:=rfl;omega),Y.aoo _ _ (by omega),Nat.pow_zero,Nat.div_one]
theorem LN.ano (x:LN) (i:Nat):@Sym.val x.S (1048576+i)=Int.ofNat (x.ref.getD i 0).toNat:=by
 show Int.ofNat (x.P.nat (1048576+i))=_
 rw [Y.a9i (p:=x.P) (show Y.ob≤1048576+i by have:Y.ob=1048576:=rfl;omega)]
 show Int.ofNat (x.oct (1048576+i - 1048576))=_
 rw [Nat.add_sub_cancel_left]
 rfl
theorem LN.aXo {x:LN} (h:x.ref.length=32) (v w:List AV) (r:Bool) (e:x.P.eqg v w=some r) : ∃ (k:IntKind) (a b:List Int),v.map (@den x.S)=a.map (AV.i k)∧w.map (@den x.S)=b.map (AV.i k)∧decide (a=b)=r:=by
 have e:b1t x.rz v w=some r:=e
 unfold b1t at e
 split at e
 ·rename_i g
  simp only [Bool.and_eq_true] at g
  obtain rfl:=a6h g.1
  obtain rfl:=a6h g.2
  cases e
  refine ⟨.u8,x.ref.map fun c=>Int.ofNat c.toNat,List.replicate 32 0,?_,by simp [ani,den],?_⟩
  ·apply List.ext_getElem?
   intro i
   simp only [axj,List.map_map,List.getElem?_map]
   by_cases hi:i < 32
   ·rw [List.getElem?_range hi,List.getElem?_eq_getElem (by omega)]
    show some (AV.i .u8 (@Sym.val x.S (1048576+i)))=_
    rw [LN.ano,List.getD_eq_getElem?_getD,List.getElem?_eq_getElem (by omega)]
    rfl
   ·rw [List.getElem?_eq_none (by simp;omega),List.getElem?_eq_none (by omega)];rfl
  ·refine decide_eq_decide.2 ⟨fun q=>?_,fun q=>by rw [q];simp [asj]⟩
   apply List.ext_getElem (by simp [asj,h])
   intro i h1 h2
   have:=congrArg (fun l=>l[i]?) q
   simp only [List.getElem?_map,List.getElem?_eq_getElem h1,Option.map_some] at this
   rw [List.getElem?_eq_getElem (by simp;omega)] at this
   simp only [List.getElem_replicate,Option.some.injEq] at this
   simp only [asj,List.getElem_replicate]
   exact UInt8.toNat_inj.1 (by have:(x.ref[i].toNat:Int)=0:=this;simpa using this)
 ·cases e
theorem LN.aba {x:LN} (h:x.Ok):@a0n x.S:=Y.aba (LN.aUq h) (LN.aXo h.ref)
def cl8 (cs:List Nat):List UInt8:=[UInt8.ofNat cs.length,0,0,0]++cs.map UInt8.ofNat
def z8b:List UInt8:=[0,0,0,0,0,0,0,0]
def LN.hd (x:LN):List UInt8:=[UInt8.ofNat x.kind,UInt8.ofNat x.frm,UInt8.ofNat x.dst]++le8 x.mtg
def LN.enc (x:LN):List UInt8:=match x.kind with
 | 8=>x.hd++(z8b++(z8b++(z8b++([0,0,0,0]++(le8 x.dl++(z8b++cl8 x.cs))))))
 | 9=>x.hd++(le8 x.res++(le8 x.dl++(cl8 x.cs++x.ref)))
 | 10=>x.hd++(le8 x.res++(le8 x.st++(cl8 x.cs++x.ref)))
 | 13=>x.hd++cl8 x.cs
 | 18=>x.hd++x.ref
 | _=>x.hd++(le8 x.st++(cl8 x.cs++x.ref))
end V
end Go.CE
namespace Go.CE
namespace V
open Go.Proofs Go.Proofs.YtopgdlblfieljaaGreatDoor Go.RowKit
def a0h (B:Nat) (W:World) (v:Value) (cs:List Nat):Prop:=(cs = []∧(v=.slice none 0 0∨∃ a c,v=.slice (some a) 0 c))∨(cs≠[]∧Sl B W v 3 (cs.map fun (c:Nat)=>Value.int .i64 (c:Int)))
theorem a0h.below {B:Nat} {W W':World} {v:Value} {cs:List Nat} (h:a0h B W v cs) (hb:Below W.heap.size W W'):a0h B W' v cs:=by
 rcases h with h | ⟨h1,h2⟩
 ·exact .inl h
 ·exact .inr ⟨h1,h2.below hb⟩
theorem a0h.mono {B B':Nat} {W:World} {v:Value} {cs:List Nat} (h:a0h B W v cs) (hb:B'≤B):a0h B' W v cs:=by
 rcases h with h | ⟨h1,h2⟩
 ·exact .inl h
 ·exact .inr ⟨h1,h2.mono hb⟩
theorem a1i (x:LN) (v:Value):(x.let v).row=([.int .i64 x.kind,.int .i64 x.frm,.int .i64 x.dst,.int .i64 x.mtg,.int .i64 0,.int .i64 0,.int .i64 0,.int .i64 0,.int .i64 0,.int .i64 x.res,.int .i64 0,.int .i64 0,
  .int .i64 0,.bool false,.int .i64 0,.int .i64 0,.int .i64 0,.slice none 0 0,.int .i64 0,.int .i64 0,.string ByteArray.empty,.int .i64 0,.int .i64 0,.slice none 0 0,.int .i64 x.dl,.int .i64 x.st,.int .i64 0,.int .i64 0,.int .i64 0,v]++x.ref.map fun c=>B8 c.toNat:List Value).toArray:=by
 unfold Let.row a0i
 simp [LN.let,LN.num]
end V
end Go.CE
namespace Go.CE
namespace V
open Go.Proofs Go.Proofs.YtopgdlblfieljaaGreatDoor Go.RowKit
theorem vx {x:LN} (σ:Sg) {s:Nat} {n:Nat} (h:x.at s=n) (hs:s < 16384):@VR x.S σ (.x .i64 (64 * s)) (.int .i64 (n:Int)):=by
 have:=@VR.x x.S σ .i64 (64 * s)
 rw [LN.ah3 x s hs,h] at this
 exact this
end V
end Go.CE
