/-
  Letters of the kinds without a series, with numbers: what stands behind the names of a shape.
-/
import Derived.Test.YtlnlbdfokmhelaaGreatDoorPkShp
import Derived.Test.YtlnlbdfokmhelaaGreatDoorPkQ
import Derived.Test.YtlnlbdfokmhelaaGreatDoorPkShCb
import Derived.Test.YtlnlbdfokmhelaaGreatDoorPkShCr
import Derived.Test.YtlnlbdfokmhelaaGreatDoorPkShCv
set_option linter.unusedSectionVars false
set_option linter.constructorNameAsVariable false
set_option linter.unusedVariables false
set_option linter.unusedSimpArgs false
namespace Go.CE
namespace V
open Go.Proofs Go.Proofs.YtlnlbdfokmhelaaGreatDoor Go.RowKit
abbrev LN:=Go.Rv.Lt
def asj:List UInt8:=List.replicate 32 0
def LN.num (x:LN):Nat→Int
 | 0=>x.mtg
 | 6=>x.res
 | 11=>x.dl
 | 12=>x.st
 | _=>0
def LN.let (x:LN) (v:Value):Let:=⟨x.kind,x.frm,x.dst,x.num,v,x.ref⟩
structure LN.Ok (x:LN):Prop where
 kd:x.kind=8∨x.kind=9∨x.kind=10∨x.kind=11∨x.kind=12∨x.kind=13∨x.kind=14∨x.kind=18
 frm:x.frm < 16
 dst:x.dst < 16
 ne:x.frm≠x.dst
 aPp:1≤x.mtg
 aM0:x.mtg≤1099511627776
 res:x.res≤255
 res0:x.kind≠9→x.kind≠10→x.res=0
 dl:x.dl≤2251799813685248
 dl0:x.kind≠8→x.kind≠9→x.dl=0
 st:x.st≤18
 aNg:x.kind=14→x.st≤5
 st0:x.kind=8∨x.kind=9∨x.kind=13∨x.kind=18→x.st=0
 cs:∀ c∈x.cs,c < 16
 up:x.cs.Pairwise (· < ·)
 len:x.cs.length≤4
 cs0:x.kind=18→x.cs = []
 ref:x.ref.length=32
 aO3:x.kind=8∨x.kind=13→x.ref=asj
 shp:shB x.kind x.cs.length=true
def LN.at (x:LN):Nat→Nat
 | 0=>0
 | 1=>x.frm
 | 2=>x.dst
 | 3=>x.mtg
 | 4=>x.res
 | 5=>x.dl
 | 6=>x.st
 | 7=>0
 | s+8=>x.cs.getD s 0
def LN.oct (x:LN) (i:Nat):Nat:=(x.ref.getD i 0).toNat
@[reducible] def LN.rz (x:LN):Bool:=decide (x.ref=asj)
@[reducible] def LN.P (x:LN):Y.Pk:=shP x.kind x.cs.length x.rz x.at x.oct
@[reducible] def LN.S (x:LN):Sym:=shS x.kind x.cs.length x.rz x.at x.oct
theorem getD_lt {l:List Nat} {i b:Nat} (h:∀ c∈l,c < b) (hb:0 < b):l.getD i 0 < b:=by
 rw [List.getD_eq_getElem?_getD]
 cases e:l[i]? with
 | none=>exact hb
 | some c=>exact h c (List.mem_of_getElem? e)
theorem LN.aUq {x:LN} (h:x.Ok):x.P.Ok:=by
 have hcs:∀ s,x.cs.getD s 0 < 16:=fun s=>getD_lt h.cs (by decide)
 refine ⟨fun s=>?_,fun s=>?_,fun s=>?_,fun i=>(x.ref.getD i 0).toNat_lt,(fun _ _ _ e=>by cases e),fun s t e=>?_,fun s t e=>?_,fun s e=>?_,(fun _ _ _ e=>by cases e)⟩
 ·show shLo s≤x.at s
  match s with
  | 0=>exact Nat.zero_le _
  | 1=>exact Nat.zero_le _
  | 2=>exact Nat.zero_le _
  | 3=>exact h.aPp
  | s+4=>exact Nat.zero_le _
 ·show x.at s≤aZ3 x.kind s
  match s with
  | 0=>exact Nat.zero_le _
  | 1=>exact Nat.le_of_lt_succ h.frm
  | 2=>exact Nat.le_of_lt_succ h.dst
  | 3=>exact h.aM0
  | 4=>exact h.res
  | 5=>exact h.dl
  | 6 =>
   show x.st≤(match x.kind with | 14=>5 | _=>18)
   split
   ·rename_i e;exact h.aNg e
   ·exact h.st
  | 7=>exact Nat.zero_le _
  | s+8=>exact Nat.le_of_lt_succ (hcs s)
 ·show aZ3 x.kind s < 9223372036854775808
  unfold aZ3
  split<;>first | decide | (split<;>decide)
 ·have e:(Nat.ble 8 s&&Nat.blt s t&&Nat.blt t (8+x.cs.length))=true:=e
  simp only [Bool.and_eq_true] at e
  have e1:8≤s:=Nat.le_of_ble_eq_true e.1.1
  have e2:s < t:=Nat.le_of_ble_eq_true e.1.2
  have e3:t < 8+x.cs.length:=Nat.le_of_ble_eq_true e.2
  obtain ⟨a,rfl⟩ : ∃ a,s=a+8:=⟨s - 8,by omega⟩
  obtain ⟨b,rfl⟩ : ∃ b,t=b+8:=⟨t - 8,by omega⟩
  show x.cs.getD a 0 < x.cs.getD b 0
  rw [List.getD_eq_getElem?_getD,List.getD_eq_getElem?_getD,List.getElem?_eq_getElem (by omega),List.getElem?_eq_getElem (by omega)]
  exact List.pairwise_iff_getElem.1 h.up a b (by omega) (by omega) (by omega)
 ·show x.at s≠x.at t
  have e:b1s s t=true:=e
  unfold b1s at e
  split at e
  ·exact h.ne
  ·exact h.ne.symm
  ·cases e
 ·show x.at s < 256
  have e:aNq s=true:=e
  match s with
  | 0=>cases e
  | 1=>have:=h.frm;show x.frm < 256;omega
  | 2=>have:=h.dst;show x.dst < 256;omega
  | 3=>cases e
  | 4=>cases e
  | 5=>cases e
  | 6=>cases e
  | 7=>cases e
  | s+8=>have:=hcs s;show x.cs.getD s 0 < 256;omega
theorem LN.ah3 (x:LN) (s:Nat) (hs:s < 16384):@Sym.val x.S (64 * s)=Int.ofNat (x.at s):=by
 show Int.ofNat (x.P.nat (64 * s))=_
 rw [show 64 * s=64 * s+0 by omega,Y.a1j x.P s 0 (by omega) (by have:Y.ob=1048576:=rfl;omega),Y.aoo _ _ (by omega),Nat.pow_zero,Nat.div_one]
theorem LN.aq3 (x:LN) (s i:Nat) (hs:s < 16384) (hi:i < 8):@Sym.val x.S (64 * s+8+i)=Int.ofNat ((UInt8.ofNat (x.at s >>> (8 * i))).toNat):=by
 show Int.ofNat (x.P.nat (64 * s+8+i))=_
 rw [show 64 * s+8+i=64 * s+(i+8) by omega,Y.a1j x.P s (i+8) (by omega) (by have:Y.ob=1048576:=rfl;omega),Y.aPi _ _ hi]
 congr 1
 rw [Nat.shiftRight_eq_div_pow,Nat.pow_mul]
 simp
theorem LN.ano (x:LN) (i:Nat):@Sym.val x.S (1048576+i)=Int.ofNat (x.ref.getD i 0).toNat:=by
 show Int.ofNat (x.P.nat (1048576+i))=_
 rw [Y.a9i (p:=x.P) (show Y.ob≤1048576+i by have:Y.ob=1048576:=rfl;omega)]
 show Int.ofNat (x.oct (1048576+i - 1048576))=_
 rw [Nat.add_sub_cancel_left]
 rfl
theorem LN.al8 {x:LN} (h:x.ref.length=32):axj.map (@aa7 x.S)=x.ref.map fun c=>B8 c.toNat:=by
 apply List.ext_getElem?
 intro i
 simp only [axj,List.map_map,List.getElem?_map]
 by_cases hi:i < 32
 ·rw [List.getElem?_range hi,List.getElem?_eq_getElem (by omega)]
  show some (Value.int .u8 (@Sym.val x.S (1048576+i)))=_
  rw [LN.ano,List.getD_eq_getElem?_getD,List.getElem?_eq_getElem (by omega)]
  rfl
 ·rw [List.getElem?_eq_none (by simp;omega),List.getElem?_eq_none (by omega)];rfl
theorem LN.aXo {x:LN} (h:x.ref.length=32) (v w:List AV) (r:Bool) (e:x.P.eqg v w=some r) : ∃ (k:IntKind) (a b:List Int),v.map (@den x.S)=a.map (AV.i k)∧w.map (@den x.S)=b.map (AV.i k)∧decide (a=b)=r:=by
 have e:b1t x.rz v w=some r:=e
 unfold b1t at e
 split at e
 ·rename_i g
  simp only [Bool.and_eq_true] at g
  obtain rfl:=a6h g.1
  obtain rfl:=a6h g.2
  cases e
  refine ⟨.u8,x.ref.map fun c=>Int.ofNat c.toNat,List.replicate 32 0,?_,by simp [ani,den],?_⟩
  ·apply List.ext_getElem?
   intro i
   simp only [axj,List.map_map,List.getElem?_map]
   by_cases hi:i < 32
   ·rw [List.getElem?_range hi,List.getElem?_eq_getElem (by omega)]
    show some (AV.i .u8 (@Sym.val x.S (1048576+i)))=_
    rw [LN.ano,List.getD_eq_getElem?_getD,List.getElem?_eq_getElem (by omega)]
    rfl
   ·rw [List.getElem?_eq_none (by simp;omega),List.getElem?_eq_none (by omega)];rfl
  ·refine decide_eq_decide.2 ⟨fun q=>?_,fun q=>by rw [q];simp [asj]⟩
   apply List.ext_getElem (by simp [asj,h])
   intro i h1 h2
   have:=congrArg (fun l=>l[i]?) q
   simp only [List.getElem?_map,List.getElem?_eq_getElem h1,Option.map_some] at this
   rw [List.getElem?_eq_getElem (by simp;omega)] at this
   simp only [List.getElem_replicate,Option.some.injEq] at this
   simp only [asj,List.getElem_replicate]
   exact UInt8.toNat_inj.1 (by have:(x.ref[i].toNat:Int)=0:=this;simpa using this)
 ·cases e
theorem LN.aba {x:LN} (h:x.Ok):@a0n x.S:=Y.aba (LN.aUq h) (LN.aXo h.ref)
def cl8 (cs:List Nat):List UInt8:=[UInt8.ofNat cs.length,0,0,0]++cs.map UInt8.ofNat
def z8b:List UInt8:=[0,0,0,0,0,0,0,0]
def LN.hd (x:LN):List UInt8:=[UInt8.ofNat x.kind,UInt8.ofNat x.frm,UInt8.ofNat x.dst]++le8 x.mtg
def LN.enc (x:LN):List UInt8:=match x.kind with
 | 8=>x.hd++(z8b++(z8b++(z8b++([0,0,0,0]++(le8 x.dl++(z8b++cl8 x.cs))))))
 | 9=>x.hd++(le8 x.res++(le8 x.dl++(cl8 x.cs++x.ref)))
 | 10=>x.hd++(le8 x.res++(le8 x.st++(cl8 x.cs++x.ref)))
 | 13=>x.hd++cl8 x.cs
 | 18=>x.hd++x.ref
 | _=>x.hd++(le8 x.st++(cl8 x.cs++x.ref))
theorem amr {α:Type} {a b:α} {l m:List α} (h:a=b) (k:l=m):a :: l=b :: m:=by rw [h,k]
theorem LN.ak3 (x:LN) (s:Nat) (hs:s < 16384):(b8 s).map (@aa7 x.S)=(le8 (x.at s)).map fun c=>B8 c.toNat:=by
 have key:∀ i,i < 8→@aa7 x.S (.x .u8 (64 * s+8+i))=B8 (UInt8.ofNat (x.at s >>> (8 * i))).toNat:=fun i hi=>by
  show Value.int .u8 (@Sym.val x.S (64 * s+8+i))=_
  rw [LN.aq3 x s i hs hi];rfl
 unfold le8 b8
 simp only [List.map_cons,List.map_nil,List.map_map]
 exact amr (key 0 (by omega)) (amr (key 1 (by omega)) (amr (key 2 (by omega)) (amr (key 3 (by omega)) (amr (key 4 (by omega)) (amr (key 5 (by omega)) (amr (key 6 (by omega)) (amr (key 7 (by omega)) (rfl))))))))
theorem LN.aQu {x:LN} (h:x.Ok):(clX x.cs.length).map (@aa7 x.S)=(cl8 x.cs).map fun c=>B8 c.toNat:=by
 unfold clX cl8
 rw [List.map_append,List.map_append]
 congr 1
 ·have hl:=h.len
  simp only [List.map_cons,List.map_nil,b0,aa7]
  congr 1
  show Value.int .u8 (Int.ofNat x.cs.length)=Value.int .u8 (Int.ofNat (UInt8.ofNat x.cs.length).toNat)
  congr 2
  simp;omega
 ·apply List.ext_getElem?
  intro i
  simp only [List.map_map,List.getElem?_map]
  by_cases hi:i < x.cs.length
  ·rw [List.getElem?_range hi,List.getElem?_eq_getElem hi]
   show some (Value.int .u8 (@Sym.val x.S (64 * (8+i))))=some (Value.int .u8 (Int.ofNat (UInt8.ofNat x.cs[i]).toNat))
   rw [LN.ah3 x (8+i) (by have:=h.len;omega),Nat.add_comm 8 i]
   have hc:=h.cs x.cs[i] (List.getElem_mem hi)
   have:x.at (i+8)=x.cs[i]:=by
    show x.cs.getD i 0=_
    rw [List.getD_eq_getElem?_getD,List.getElem?_eq_getElem hi];rfl
   rw [this]
   congr 3
   simp;omega
  ·rw [List.getElem?_eq_none (by simp;omega),List.getElem?_eq_none (by omega)];rfl
theorem LN.aQ9 {x:LN} (h:x.Ok):(hdX x.kind).map (@aa7 x.S)=x.hd.map fun c=>B8 c.toNat:=by
 unfold hdX LN.hd
 rw [List.map_append,List.map_append,LN.ak3 x 3 (by omega)]
 congr 1
 have h1:=h.frm
 have h2:=h.dst
 have h3:x.kind < 256:=by rcases h.kd with e | e | e | e | e | e | e | e<;>omega
 show [Value.int .u8 (Int.ofNat x.kind),Value.int .u8 (@Sym.val x.S (64 * 1)),Value.int .u8 (@Sym.val x.S (64 * 2))] = [Value.int .u8 (Int.ofNat (UInt8.ofNat x.kind).toNat),Value.int .u8 (Int.ofNat (UInt8.ofNat x.frm).toNat),Value.int .u8 (Int.ofNat (UInt8.ofNat x.dst).toNat)]
 rw [LN.ah3 x 1 (by omega),LN.ah3 x 2 (by omega)]
 have e:∀ n:Nat,n < 256→(UInt8.ofNat n).toNat=n:=fun n hn=>by simp;omega
 rw [e _ h3,e _ (by omega),e _ (by omega)]
 rfl
theorem LN.ajv {x:LN} (h:x.Ok):(a6m x.kind x.cs.length).map (@aa7 x.S)=x.enc.map fun c=>B8 c.toNat:=by
 have e4:x.at 4=x.res:=rfl
 have e5:x.at 5=x.dl:=rfl
 have e6:x.at 6=x.st:=rfl
 have hz:z8.map (@aa7 x.S)=z8b.map fun c=>B8 c.toNat:=rfl
 have hz4:([b0,b0,b0,b0]:List AV).map (@aa7 x.S)=([0,0,0,0]:List UInt8).map fun c=>B8 c.toNat:=rfl
 have hh:=LN.aQ9 h
 have hc:=LN.aQu h
 have hr:=LN.al8 h.ref
 have h4:=LN.ak3 x 4 (by omega)
 have h5:=LN.ak3 x 5 (by omega)
 have h6:=LN.ak3 x 6 (by omega)
 rw [e4] at h4;rw [e5] at h5;rw [e6] at h6
 unfold a6m LN.enc
 rcases h.kd with e | e | e | e | e | e | e | e<;>simp only [e] at hh ⊢<;>simp only [List.map_append,hh,hc,hr,h4,h5,h6,hz,hz4]
theorem aXt (k n:Nat) (hk:k=8∨k=9∨k=10∨k=11∨k=12∨k=13∨k=14∨k=18) (hn:n≤4):(a6m k n).all ahy=true∧a1f (a6m k n)=true:=by
 have:n=0∨n=1∨n=2∨n=3∨n=4:=by omega
 rcases hk with rfl | rfl | rfl | rfl | rfl | rfl | rfl | rfl<;>rcases this with rfl | rfl | rfl | rfl | rfl<;>exact ⟨by decide,by decide⟩
end V
end Go.CE
namespace Go.CE
namespace V
open Go.Proofs Go.Proofs.YtlnlbdfokmhelaaGreatDoor Go.RowKit
def a0h (B:Nat) (W:World) (v:Value) (cs:List Nat):Prop:=(cs = []∧(v=.slice none 0 0∨∃ a c,v=.slice (some a) 0 c))∨(cs≠[]∧Sl B W v 3 (cs.map fun (c:Nat)=>Value.int .i64 (c:Int)))
theorem a0h.below {B:Nat} {W W':World} {v:Value} {cs:List Nat} (h:a0h B W v cs) (hb:Below W.heap.size W W'):a0h B W' v cs:=by
 rcases h with h | ⟨h1,h2⟩
 ·exact .inl h
 ·exact .inr ⟨h1,h2.below hb⟩
theorem a0h.mono {B B':Nat} {W:World} {v:Value} {cs:List Nat} (h:a0h B W v cs) (hb:B'≤B):a0h B' W v cs:=by
 rcases h with h | ⟨h1,h2⟩
 ·exact .inl h
 ·exact .inr ⟨h1,h2.mono hb⟩
theorem a1i (x:LN) (v:Value):(x.let v).row=([.int .i64 x.kind,.int .i64 x.frm,.int .i64 x.dst,.int .i64 x.mtg,.int .i64 0,.int .i64 0,.int .i64 0,.int .i64 0,.int .i64 0,.int .i64 x.res,.int .i64 0,.int .i64 0,
  .int .i64 0,.bool false,.int .i64 0,.int .i64 0,.int .i64 0,.slice none 0 0,.int .i64 0,.int .i64 0,.string ByteArray.empty,.int .i64 0,.int .i64 0,.slice none 0 0,.int .i64 x.dl,.int .i64 x.st,.int .i64 0,.int .i64 0,.int .i64 0,v]++x.ref.map fun c=>B8 c.toNat:List Value).toArray:=by
 unfold Let.row a0i
 simp [LN.let,LN.num]
end V
end Go.CE
namespace Go.CE
namespace V
open Go.Proofs Go.Proofs.YtlnlbdfokmhelaaGreatDoor Go.RowKit
theorem vx {x:LN} (σ:Sg) {s:Nat} {n:Nat} (h:x.at s=n) (hs:s < 16384):@VR x.S σ (.x .i64 (64 * s)) (.int .i64 (n:Int)):=by
 have:=@VR.x x.S σ .i64 (64 * s)
 rw [LN.ah3 x s hs,h] at this
 exact this
theorem b42 {x:LN} (h:x.Ok) (σ:Sg):@VR x.S σ (rsX x.kind) (.int .i64 (x.res:Int))∧@VR x.S σ (fX x.kind 11 5) (.int .i64 (x.dl:Int))∧@VR x.S σ (stX x.kind) (.int .i64 (x.st:Int)):=by
 have z:@VR x.S σ zI (.int .i64 ((0:Nat):Int)):=@VR.i x.S σ .i64 0
 have r:=@vx x σ 4 x.res rfl (by omega)
 have d:=@vx x σ 5 x.dl rfl (by omega)
 have s:=@vx x σ 6 x.st rfl (by omega)
 have hr:=h.res0
 have hd:=h.dl0
 have hs:=h.st0
 rcases h.kd with e | e | e | e | e | e | e | e<;>rw [e] at hr hd hs ⊢<;>refine ⟨?_,?_,?_⟩<;>first | exact r | exact d | exact s | (rw [hr (by decide) (by decide)];exact z) | (rw [hd (by decide) (by decide)];exact z) | (rw [hs (by decide)];exact z)
theorem aTv {x:LN} (h:x.Ok) (σ:Sg):@LV x.S σ (aTw x.kind) (x.ref.map fun c=>B8 c.toNat):=by
 have hr:@LV x.S σ axj (x.ref.map fun c=>B8 c.toNat):=by
  rw [← LN.al8 h.ref]
  exact @LV.vals x.S σ axj (by decide)
 have hz:x.ref=asj→@LV x.S σ ani (x.ref.map fun c=>B8 c.toNat):=fun e=>by
  rw [e]
  have:(asj.map fun c=>B8 c.toNat)=ani.map (@aa7 x.S):=by simp [asj,ani,aa7]
  rw [this]
  exact @LV.vals x.S σ ani (by decide)
 have h0:=h.aO3
 rcases h.kd with e | e | e | e | e | e | e | e<;>rw [e] at h0 ⊢<;>first | exact hr | exact hz (h0 (by decide))
theorem al2 {x:LN} (h:x.Ok) {σ:Sg} {c:AV} {v:Value} (hc:@VR x.S σ c v):@VR x.S σ (.g (agt x.kind c)) (.agg (x.let v).row):=by
 rw [a1i]
 obtain ⟨f1,f2,f3⟩:=b42 h σ
 have z:@VR x.S σ zI (.int .i64 0):=@VR.i x.S σ .i64 0
 have hh:@LV x.S σ (aWh x.kind) [.int .i64 x.kind,.int .i64 x.frm,.int .i64 x.dst,.int .i64 x.mtg,.int .i64 0,.int .i64 0,.int .i64 0,.int .i64 0,.int .i64 0,.int .i64 x.res,.int .i64 0,.int .i64 0,
  .int .i64 0,.bool false,.int .i64 0,.int .i64 0,.int .i64 0,.slice none 0 0,.int .i64 0,.int .i64 0,.string ByteArray.empty,.int .i64 0,.int .i64 0,.slice none 0 0,.int .i64 x.dl,.int .i64 x.st,.int .i64 0,.int .i64 0,.int .i64 0] :=
  ⟨@VR.i x.S σ _ _,@vx x σ 1 x.frm rfl (by omega),@vx x σ 2 x.dst rfl (by omega),@vx x σ 3 x.mtg rfl (by omega),z,z,z,z,z,f1,z,z,z,@VR.b x.S σ _,z,z,z,@VR.sln x.S σ _ _,z,z,@VR.s x.S σ _ _ rfl,z,z,@VR.sln x.S σ _ _,f2,f3,z,z,z,trivial⟩
 have ht:@LV x.S σ (c :: aTw x.kind) (v :: x.ref.map fun c=>B8 c.toNat):=⟨hc,aTv h σ⟩
 have hg:=@LR.g x.S σ _ _ (@LV.lr x.S σ _ _ (@LV.app x.S σ _ _ _ _ hh ht))
 exact hg
theorem ai8 {x:LN} (h:x.Ok):(ah0 x.cs.length).map (@aa7 x.S)=x.cs.map fun (c:Nat)=>Value.int .i64 (c:Int):=by
 apply List.ext_getElem?
 intro i
 simp only [ah0,List.map_map,List.getElem?_map]
 by_cases hi:i < x.cs.length
 ·rw [List.getElem?_range hi,List.getElem?_eq_getElem hi]
  show some (Value.int .i64 (@Sym.val x.S (64 * (8+i))))=some (Value.int .i64 (x.cs[i]:Int))
  rw [LN.ah3 x (8+i) (by have:=h.len;omega),Nat.add_comm 8 i]
  have:x.at (i+8)=x.cs[i]:=by
   show x.cs.getD i 0=_
   rw [List.getD_eq_getElem?_getD,List.getElem?_eq_getElem hi];rfl
  rw [this];rfl
 ·rw [List.getElem?_eq_none (by simp;omega),List.getElem?_eq_none (by omega)];rfl
theorem asa (n:Nat) (hn:n≤4):(ah0 n).all ahy=true∧a1f (ah0 n)=true∧(ah0 n).length=n:=by
 have:n=0∨n=1∨n=2∨n=3∨n=4:=by omega
 rcases this with rfl | rfl | rfl | rfl | rfl<;>exact ⟨by decide,by decide,by decide⟩
theorem aeb {x:LN} (h:x.Ok) {B:Nat} {v:Value} {W:World} (hv:a0h B W v x.cs) : ∃ form σ,(x.kind,x.cs.length,form)∈shapes∧GS σ∧(∀ j,2048≤j→σ j=none)∧∃ m,@SR x.S Tryz.prog W.heap.size σ m W∧@RS 2048 ⟨m,1024,[],[]⟩ ⟨fmI form x.cs.length,1024,2048,[],[]⟩∧@VR x.S σ (clS form x.cs.length) v:=by
 letI:Sym:=x.S
 haveI hok:a0n:=LN.aba h
 have hlen:=h.len
 have hl:x.cs.length=0∨x.cs.length=1∨x.cs.length=2∨x.cs.length=3∨x.cs.length=4:=by omega
 have h18:x.kind=18→x.cs.length=0:=fun e=>by rw [h.cs0 e];rfl
 rcases hv with ⟨h0,rfl | ⟨a,c,rfl⟩⟩ | ⟨h0,hs⟩
 ·have e0:x.cs.length=0:=by rw [h0];rfl
  refine ⟨0,gsg,?_,a8t,fun j hj=>a2a (by omega),.e,@aIj x.S hok W,@aIp x.S hok,@VR.sln x.S _ _ _⟩
  have hp:=h.shp
  rw [e0] at hp ⊢
  rcases h.kd with e | e | e | e | e | e | e | e<;>rw [e] at hp ⊢<;>first | decide | exact absurd hp (by decide)
 ·have e0:x.cs.length=0:=by rw [h0];rfl
  refine ⟨1,gsg,?_,a8t,fun j hj=>a2a (by omega),.e,@aIj x.S hok W,@aIp x.S hok,@VR.se x.S _ _ _⟩
  have hp:=h.shp
  rw [e0] at hp ⊢
  rcases h.kd with e | e | e | e | e | e | e | e<;>rw [e] at hp ⊢<;>first | decide | exact absurd hp (by decide)
 ·obtain ⟨hix,hsc,hcl⟩:=asa x.cs.length hlen
  rw [← ai8 h] at hs
  obtain ⟨q,h1,h2⟩:=@aks x.S hok Tryz.prog W.heap.size B gsg .e W 3 (ah0 x.cs.length) v 1025 a4k (@aIj x.S hok W) hs hix (a2a (by omega)) (by omega) rfl (fun b o n c _ j p hj=>absurd (by cases j<;>rfl) hj)
  refine ⟨2,gsg.add 1025 q,?_,a8t.mono (Sg.a6v (a2a (by omega))),fun j hj=>a2w (by omega) (a2a (by omega)),_,h1,?_,?_⟩
  ·have hne:x.cs.length≠0:=fun e=>h0 (List.eq_nil_of_length_eq_zero e)
   rcases hl with e1 | e1 | e1 | e1 | e1
   ·exact absurd e1 hne
   all_goals
    have hp:=h.shp
    rw [e1] at hp ⊢
    rcases h.kd with e | e | e | e | e | e | e | e<;>rw [e] at hp ⊢<;>first | decide | exact absurd hp (by decide) | (have:=h18 e;omega)
  ·exact @al1 x.S hok .e .e (@aIp x.S hok) 1025 3 (ah0 x.cs.length) (by omega) hsc
  ·rw [hcl] at h2;exact h2
theorem ab3 {x:LN} (h:x.Ok) {B:Nat} {v:Value} {W:World} (hv:a0h B W v x.cs) :
  Calls Tryz.prog 128 #[.agg (x.let v).row] W fun e W' => ∃ s,e=.returned (.tuple #[s,.int .i64 0])∧Sl W.heap.size W' s 5 (x.enc.map fun c=>B8 c.toNat)∧Below W.heap.size W W':=by
 letI:Sym:=x.S
 haveI hok:a0n:=LN.aba h
 obtain ⟨form,σ,hsh,hg,hfr,m,hsr,hrs,hvr⟩:=aeb h hv
 have hrun:=aT1 hsh x.rz x.at x.oct
 unfold isBytes at hrun
 split at hrun
 ·rename_i t f' he
  split at hrun
  ·rename_i q k o n c hg0 hg1
   simp only [Bool.and_eq_true] at hrun
   obtain ⟨⟨⟨⟨r1,r2⟩,r3⟩,r4⟩,r5⟩:=hrun
   have r1:=Nat.eq_of_beq_eq_true r1
   have r2:2048≤k:=Nat.le_of_ble_eq_true r2
   unfold atv at r5
   split at r5
   ·rename_i mm hb
    obtain rfl:=a6h r5
    have hl:@LR x.S σ [.g (agt x.kind (clS form x.cs.length))] #[.agg (x.let v).row]:=by
     have:=@LV.lr x.S σ [.g (agt x.kind (clS form x.cs.length))] [.agg (x.let v).row] ⟨al2 h hvr,trivial⟩
     simpa using this
    refine (@a3r x.S hok _ (@allL x.S hok) 4000 _ _ _ m _ _ f' σ W _ hrs hg hsr hfr (@aaf x.S hok _) hl he).mono fun e W' hd=>?_
    obtain ⟨τ,u,s',rfl,hov,am9,_,ap6,hvu,hbel⟩:=hd
    have hq:q=p4 k:=by
     have:=hov 0 (by omega)
     rw [hg0] at this;exact this
    have ha:a2t (FV.t t 2)=.t [.sl (some (k,o)) n c,.i .i64 (.ofNat 0)]:=by
     show AV.t ((List.range 2).map fun j=>aa5 (a1d (p4 j) t))=_
     simp only [show List.range 2 = [0,1] from rfl,List.map_cons,List.map_nil,hg0,hg1]
     rfl
    rw [ha] at hvu
    obtain ⟨cc,rfl,hcc⟩:=@VR.aPs x.S τ _ _ hvu
    obtain ⟨v0,e0,hv0⟩:=@LR.at x.S τ _ _ hcc 0 _ rfl
    obtain ⟨v1,e1,hv1⟩:=@LR.at x.S τ _ _ hcc 1 _ rfl
    have hcs:cc=#[v0,v1]:=by
     have hs:cc.size=2:=hcc.len.symm
     apply Array.ext
     ·simpa using hs
     ·intro i h3 h4
      have:i=0∨i=1:=by omega
      rcases this with rfl | rfl
      ·simpa using (Array.getElem?_eq_some_iff.1 e0).2
      ·simpa using (Array.getElem?_eq_some_iff.1 e1).2
    subst hcs
    cases hv1
    refine ⟨v0,rfl,?_,hbel⟩
    have:=@aNm x.S hok 5 W.heap.size Tryz.prog τ s' f' W' q k o n c _ v0 aa1 am9 ap6 hq r2 r3 r1 hb r4 hv0
    rwa [LN.ajv h] at this
   ·cases r5
  ·cases hrun
 ·cases hrun
end V
end Go.CE
namespace Go.CE
namespace V
open Go.Proofs Go.Proofs.YtlnlbdfokmhelaaGreatDoor Go.RowKit
theorem aWg (kind:Nat) (c:AV) (hk:kind=8∨kind=9∨kind=10∨kind=11∨kind=12∨kind=13∨kind=14∨kind=18) (i:Nat) (hi:i≠29) (a:AV) (h:(agt kind c)[i]? = some a):isY a=true:=by
 have hH:(aWh kind).all isY=true∧(aWh kind).length=29∧(aTw kind).all isY=true:=by
  rcases hk with rfl | rfl | rfl | rfl | rfl | rfl | rfl | rfl<;>exact ⟨by decide,by decide,by decide⟩
 unfold agt at h
 by_cases h1:i < 29
 ·rw [List.getElem?_append_left (by omega)] at h
  exact List.all_eq_true.1 hH.1 a (List.mem_of_getElem? h)
 ·rw [List.getElem?_append_right (by omega),hH.2.1] at h
  obtain ⟨j,rfl⟩ : ∃ j,i=j+30:=⟨i - 30,by omega⟩
  rw [show j+30 - 29=j+1 by omega,List.getElem?_cons_succ] at h
  exact List.all_eq_true.1 hH.2.2 a (List.mem_of_getElem? h)
theorem axa {x:LN} (h:x.Ok) {σ:Sg} {c:AV} {v:Value} (hv:@VR x.S σ (.g (agt x.kind c)) v) : ∃ u,v=.agg (x.let u).row∧@VR x.S σ c u:=by
 letI:Sym:=x.S
 obtain ⟨arr,rfl,hl⟩:=hv.aot
 have hlen:(agt x.kind c).length=62:=by
  unfold agt
  rcases h.kd with e | e | e | e | e | e | e | e<;>rw [e]<;>rfl
 have h29:(agt x.kind c)[29]? = some c:=by
  unfold agt
  rcases h.kd with e | e | e | e | e | e | e | e<;>rw [e]<;>rfl
 obtain ⟨u,hu,hcu⟩:=hl.at h29
 refine ⟨u,?_,hcu⟩
 obtain ⟨arr2,e2,hl2⟩:=(al2 h hcu).aot
 cases e2
 congr 1
 apply Array.ext_getElem?
 intro i
 by_cases hi:i < 62
 ·obtain ⟨v1,q1,r1⟩:=hl.at (List.getElem?_eq_getElem (show i < (agt x.kind c).length by omega))
  obtain ⟨v2,q2,r2⟩:=hl2.at (List.getElem?_eq_getElem (show i < (agt x.kind c).length by omega))
  rw [q1,q2]
  by_cases e:i=29
  ·subst e
   rw [hu] at q1;cases q1
   have:=aid (x.let u)
   rw [this] at q2;cases q2
   rfl
  ·rw [aIg (aWg x.kind c h.kd i e _ (List.getElem?_eq_getElem (show i < (agt x.kind c).length by omega))) r1 r2]
 ·rw [Array.getElem?_eq_none (by rw [← hl.len];omega),Array.getElem?_eq_none (by rw [← hl2.len];omega)]
theorem aY0 {x:LN} (h:x.Ok):@aIa x.S aCw:=by
 intro j hj
 unfold aCw at hj
 by_cases ho:1048576≤j
 ·obtain ⟨i,rfl⟩ : ∃ i,j=1048576+i:=⟨j - 1048576,by omega⟩
  exact ⟨_,LN.ano x i⟩
 ·simp only [Bool.or_eq_true,Bool.and_eq_true] at hj
  rcases hj with (hj | hj) | hj
  ·exact absurd (Nat.le_of_ble_eq_true hj) ho
  ·have h1:8≤j % 64:=Nat.le_of_ble_eq_true hj.1
   have h2:j % 64 < 16:=Nat.le_of_ble_eq_true hj.2
   obtain ⟨s,i,rfl,hi⟩ : ∃ s i,j=64 * s+8+i∧i < 8:=⟨j / 64,j % 64 - 8,by omega,by omega⟩
   exact ⟨_,LN.aq3 x s i (by omega) hi⟩
  ·have h1:j % 64=0:=Nat.eq_of_beq_eq_true hj.1
   obtain ⟨s,rfl⟩ : ∃ s,j=64 * s:=⟨j / 64,by omega⟩
   have hb:=(LN.aUq h).one s (by rw [show 64 * s / 64=s by omega] at hj;exact hj.2)
   refine ⟨UInt8.ofNat (x.at s),?_⟩
   rw [LN.ah3 x s (by omega)]
   have:x.at s < 256:=hb
   congr 1
   simp;omega
theorem ahe {x:LN} (h:x.Ok) (hne:x.kind=8∨x.kind=13→x.cs≠[]) {B:Nat} {v:Value} {W:World} (hv:Sl B W v 5 (x.enc.map fun c=>B8 c.toNat)) :
  Calls Tryz.prog 193 #[v] W fun e W' => ∃ c,e=.returned (.tuple #[.agg (x.let c).row,.int .i64 0])∧a0h W.heap.size W' c x.cs∧(x.cs = []→c=.slice none 0 0)∧Below W.heap.size W W':=by
 letI:Sym:=x.S
 haveI hok:a0n:=LN.aba h
 have hsh:(x.kind,x.cs.length)∈anw:=by
  have hlen:=h.len
  have hl:x.cs.length=0∨x.cs.length=1∨x.cs.length=2∨x.cs.length=3∨x.cs.length=4:=by omega
  have h18:x.kind=18→x.cs.length=0:=fun e=>by rw [h.cs0 e];rfl
  have hn0:x.kind=8∨x.kind=13→x.cs.length≠0:=fun e q=>hne e (List.eq_nil_of_length_eq_zero q)
  rcases h.kd with e | e | e | e | e | e | e | e<;>rcases hl with e1 | e1 | e1 | e1 | e1<;>first | (exact absurd e1 (hn0 (by omega))) | (have:=h18 e;omega) | (rw [e,e1];decide) | (have hp:=h.shp;rw [e,e1] at hp;exact absurd hp (by decide))
 have hrun:=aSt hsh x.rz x.at x.oct
 rw [← LN.ajv h] at hv
 obtain ⟨hix,hsc⟩:=aXt x.kind x.cs.length h.kd h.len
 obtain ⟨q,hsr,hvr⟩:=aks (B:=W.heap.size) aa1 (aIj W) hv hix (k:=1027) (a2a (by omega)) (by omega) rfl (fun b o n c _ j p hj=>absurd (by cases j<;>rfl) hj)
 have hrs:=al1 aIp 1027 5 (a6m x.kind x.cs.length) (by omega) hsc
 unfold isLet at hrun
 split at hrun
 ·rename_i t f' he
  split at hrun
  ·rename_i g hg0 hg1
   simp only [Bool.and_eq_true] at hrun
   obtain ⟨⟨r1,r2⟩,r3⟩:=hrun
   have r1:=a6h r1
   have r2:=a6h r2
   have hl:LR (gsg.add 1027 q) [.sl (some (1027,0)) (a6m x.kind x.cs.length).length (a6m x.kind x.cs.length).length] #[v]:=by
    have:=LV.lr (σ:=gsg.add 1027 q) (l:=[.sl (some (1027,0)) (a6m x.kind x.cs.length).length (a6m x.kind x.cs.length).length]) (m:=[v]) ⟨hvr,trivial⟩
    simpa using this
   have hall:tR.all (Good P):=⟨aQm (aY0 h),allL,allL⟩
   refine (a3r hall hrs (a8t.mono (Sg.a6v (a2a (by omega)))) hsr (fun j hj=>a2w (by omega) (a2a (by omega))) (aaf _) hl he).mono fun e W' hd=>?_
   obtain ⟨τ,u,s',rfl,hov,am9,_,ap6,hvu,hbel⟩:=hd
   have hg:a3j g 62:=by
    have:=hov 0 (by omega)
    rw [hg0] at this;exact this
   have ha:a2t (FV.t t 2)=.t [.g (agt x.kind (a6g (a1d (p4 29) g))),.i .i64 (.ofNat 0)]:=by
    show AV.t ((List.range 2).map fun j=>aa5 (a1d (p4 j) t))=_
    simp only [show List.range 2 = [0,1] from rfl,List.map_cons,List.map_nil,hg0,hg1]
    show AV.t [.g (a07 g 0 62),.i .i64 (.ofNat 0)]=_
    have:a07 g 0 62=a07 g 0 29++a6g (a1d (p4 29) g) :: a07 g 30 32:=by
     apply List.ext_getElem?
     intro i
     by_cases h1:i < 29
     ·rw [List.getElem?_append_left (by rw [a0q];exact h1),a0m,a0m,if_pos (by omega),if_pos h1]
     ·rw [List.getElem?_append_right (by rw [a0q];omega),a0q]
      by_cases h2:i=29
      ·subst h2;rw [a0m,if_pos (by omega)];rfl
      ·obtain ⟨j,rfl⟩ : ∃ j,i=j+30:=⟨i - 30,by omega⟩
       rw [show j+30 - 29=j+1 by omega,List.getElem?_cons_succ,a0m,a0m]
       by_cases h3:j < 32
       ·rw [if_pos (by omega),if_pos h3,show 0+(j+30)=30+j by omega]
       ·rw [if_neg (by omega),if_neg h3]
    rw [this,r1,r2]
    rfl
   rw [ha] at hvu
   obtain ⟨cc,rfl,hcc⟩:=hvu.aPs
   obtain ⟨v0,e0,hv0⟩:=hcc.at (i:=0) rfl
   obtain ⟨v1,e1,hv1⟩:=hcc.at (i:=1) rfl
   have hcs:cc=#[v0,v1]:=by
    have hs:cc.size=2:=hcc.len.symm
    apply Array.ext
    ·simpa using hs
    ·intro i h3 h4
     have:i=0∨i=1:=by omega
     rcases this with rfl | rfl
     ·simpa using (Array.getElem?_eq_some_iff.1 e0).2
     ·simpa using (Array.getElem?_eq_some_iff.1 e1).2
   subst hcs
   cases hv1
   obtain ⟨c,rfl,hc⟩:=axa h hv0
   suffices hc2:a0h W.heap.size W' c x.cs∧(x.cs = []→c=.slice none 0 0) from ⟨c,rfl,hc2.1,hc2.2,hbel⟩
   unfold isCells at r3
   split at r3
   ·rename_i hn0
    have:=agb r3
    rw [this] at hc
    cases hc
    exact ⟨.inl ⟨List.eq_nil_of_length_eq_zero hn0,.inl rfl⟩,fun _=>rfl⟩
   ·rename_i n hn0
    split at r3
    ·rename_i q' k o m' c' hgv
     simp only [Bool.and_eq_true] at r3
     obtain ⟨⟨⟨z1,z2⟩,z3⟩,z4⟩:=r3
     have z1:=Nat.eq_of_beq_eq_true z1
     have z2:2048≤k:=Nat.le_of_ble_eq_true z2
     unfold atv at z4
     split at z4
     ·rename_i mm hb
      obtain rfl:=a6h z4
      have hq:q' = p4 k:=by
       have:=hg 29 (by omega)
       rw [hgv] at this;exact this
      rw [hgv] at hc
      obtain ⟨y1,y2,y3⟩:=asa x.cs.length h.len
      have:=aNm (B:=W.heap.size) a4k am9 ap6 hq z2 z3 (by rw [y3];exact z1) hb y1 hc
      rw [ai8 h] at this
      exact ⟨.inr ⟨fun e=>hn0 (by rw [e];rfl),this⟩,fun e=>absurd (by rw [e];rfl) hn0⟩
     ·cases z4
    ·cases r3
  ·cases hrun
 ·cases hrun
theorem ann {x:LN} (h:x.Ok) {B:Nat} {v:Value} {W:World} (hv:a0h B W v x.cs) :
  Calls Tryz.prog 26 #[.agg (x.let v).row] W fun e W'=>e=.returned (.int .i64 0)∧Below W.heap.size W W':=by
 letI:Sym:=x.S
 haveI hok:a0n:=LN.aba h
 obtain ⟨form,σ,hsh,hg,hfr,m,hsr,hrs,hvr⟩:=aeb h hv
 have hrun:=aSr hsh x.rz x.at x.oct
 unfold isZero at hrun
 split at hrun
 ·rename_i f' he
  have hl:LR σ [.g (agt x.kind (clS form x.cs.length))] #[.agg (x.let v).row]:=by
   have:=LV.lr (σ:=σ) (l:=[.g (agt x.kind (clS form x.cs.length))]) (m:=[.agg (x.let v).row]) ⟨al2 h hvr,trivial⟩
   simpa using this
  refine (a3r allL hrs hg hsr hfr (aaf _) hl he).mono fun e W' hd=>?_
  obtain ⟨τ,u,s',rfl,hov,am9,_,ap6,hvu,hbel⟩:=hd
  cases hvu
  exact ⟨rfl,hbel⟩
 ·cases hrun
end V
end Go.CE
