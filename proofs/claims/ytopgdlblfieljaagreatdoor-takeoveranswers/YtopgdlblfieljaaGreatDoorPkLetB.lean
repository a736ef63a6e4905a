/-
  The laws of letter.Bytes, letter.Read, letter.Valid on known letters without a series.
-/
import Derived.Test.YtopgdlblfieljaaGreatDoorPkLn
import Derived.Test.YtopgdlblfieljaaGreatDoorPkShp
import Derived.Test.YtopgdlblfieljaaGreatDoorPkTab
set_option linter.unusedSectionVars false
set_option linter.constructorNameAsVariable false
set_option linter.unusedVariables false
set_option linter.unusedSimpArgs false
namespace Go.CE
namespace V
open Go.Proofs Go.Proofs.YtopgdlblfieljaaGreatDoor Go.RowKit
structure NL where
 kind:Nat
 frm:Nat
 dst:Nat
 mtg:Nat
 res:Nat
 dl:Nat
 st:Nat
 cs:List Nat
 ref:List Nat
def NL.ln (x:NL):LN:=⟨x.kind,x.frm,x.dst,x.mtg,x.res,x.dl,x.st,x.cs,x.ref.map UInt8.ofNat⟩
def aZ6:List Nat→Bool
 | []=>true
 | a :: l=>(match l with
  | []=>true
  | b :: _=>Nat.blt a b)&&aZ6 l
def aB3 (b:Nat):List Nat→Bool
 | []=>true
 | a :: l=>Nat.blt a b&&aB3 b l
def aR7:List Nat→Bool
 | []=>true
 | a :: l=>Nat.beq a 0&&aR7 l
def aWi:List Nat→Nat→Bool
 | [],n=>Nat.beq n 0
 | _ :: l,n=>match n with
  | 0=>false
  | n+1=>aWi l n
def NL.kOk (x:NL):Bool:=match x.kind with
 | 8=>Nat.beq x.res 0&&(Nat.beq x.st 0&&aR7 x.ref)
 | 9=>Nat.beq x.st 0
 | 10=>Nat.beq x.dl 0
 | 11=>Nat.beq x.res 0&&Nat.beq x.dl 0
 | 12=>Nat.beq x.res 0&&Nat.beq x.dl 0
 | 13=>Nat.beq x.res 0&&(Nat.beq x.dl 0&&(Nat.beq x.st 0&&aR7 x.ref))
 | 14=>Nat.beq x.res 0&&(Nat.beq x.dl 0&&Nat.ble x.st 5)
 | 18=>Nat.beq x.res 0&&(Nat.beq x.dl 0&&(Nat.beq x.st 0&&aWi x.cs 0))
 | _=>false
def NL.ok (x:NL):Bool:=x.kOk&&(Nat.blt x.frm 16&&(Nat.blt x.dst 16&&(!Nat.beq x.frm x.dst&&(Nat.ble 1 x.mtg&&(Nat.ble x.mtg 1099511627776&&(Nat.ble x.res 255&&(Nat.ble x.dl 2251799813685248&&(Nat.ble x.st 18&&(aB3 16 x.cs&&(aZ6 x.cs&&(Nat.ble (am3 x.cs) 4&&(aWi x.ref 32&&(aB3 256 x.ref&&shB x.kind (am3 x.cs))))))))))))))
where am3:List Nat→Nat
 | []=>0
 | _ :: l=>am3 l+1
def NL.hd (x:NL):List Nat:=x.kind :: x.frm :: x.dst :: am4 x.mtg
def NL.cl (x:NL):List Nat:=NL.ok.am3 x.cs :: 0 :: 0 :: 0 :: x.cs
def z8N:List Nat:=[0,0,0,0,0,0,0,0]
def NL.enc (x:NL):List Nat:=match x.kind with
 | 8=>x.hd++(z8N++(z8N++(z8N++([0,0,0,0]++(am4 x.dl++(z8N++x.cl))))))
 | 9=>x.hd++(am4 x.res++(am4 x.dl++(x.cl++x.ref)))
 | 10=>x.hd++(am4 x.res++(am4 x.st++(x.cl++x.ref)))
 | 13=>x.hd++x.cl
 | 18=>x.hd++x.ref
 | _=>x.hd++(am4 x.st++(x.cl++x.ref))
def tmpl:List Nat:=[1,1,1,1,0,0,0,0,0,1,0,0,0,2,0,0,0,3,0,0,4,0,0,3,1,1,0,0,0]
def aab:List Nat→List Nat→List AV
 | [],_=>[]
 | 0 :: t,r=>.i .i64 (.ofNat 0) :: aab t r
 | 1 :: t,r=>.i .i64 (.ofNat (r.getD 0 0)) :: aab t (r.drop 1)
 | 2 :: t,r=>.b false :: aab t r
 | 3 :: t,r=>.sl none 0 0 :: aab t r
 | _ :: t,r=>.s [] :: aab t r
end V
end Go.CE
namespace Go.CE
namespace V
open Go.Proofs Go.Proofs.YtopgdlblfieljaaGreatDoor Go.RowKit
section
variable [Sym]
def ap4 (n:Nat):AV:=.i .i64 (.ofNat n)
def a7c (x:NL) (c:AV):List AV:=aab tmpl [x.kind,x.frm,x.dst,x.mtg,x.res,x.dl,x.st]++c :: x.ref.map a3m
end
section
variable [Sym] [a0n]
theorem axh {σ:Sg}:∀ {b:List Nat},(∀ n∈b,n < 256)→LV σ (b.map a3m) ((b.map UInt8.ofNat).map fun c=>B8 c.toNat)
 | [],_=>trivial
 | n :: b,h=>by
  refine ⟨?_,axh (b:=b) fun m hm=>h m (by simp [hm])⟩
  have hn:=h n (by simp)
  have:(UInt8.ofNat n).toNat=n:=by simp;omega
  show VR σ (.i .u8 (.ofNat n)) (Value.int .u8 (Int.ofNat (UInt8.ofNat n).toNat))
  rw [this];exact .i _ _
theorem aff {σ:Sg} {x:NL} (hr:∀ n∈x.ref,n < 256) {c:AV} {u:Value} (hc:VR σ c u):VR σ (.g (a7c x c)) (.agg (x.ln.let u).row):=by
 rw [a1i]
 have z:VR σ (.i .i64 (.ofNat 0)) (.int .i64 0):=.i .i64 0
 have hh:LV σ (aab tmpl [x.kind,x.frm,x.dst,x.mtg,x.res,x.dl,x.st]) [.int .i64 x.kind,.int .i64 x.frm,.int .i64 x.dst,.int .i64 x.mtg,.int .i64 0,.int .i64 0,.int .i64 0,.int .i64 0,.int .i64 0,.int .i64 x.res,.int .i64 0,.int .i64 0,
  .int .i64 0,.bool false,.int .i64 0,.int .i64 0,.int .i64 0,.slice none 0 0,.int .i64 0,.int .i64 0,.string ByteArray.empty,.int .i64 0,.int .i64 0,.slice none 0 0,.int .i64 x.dl,.int .i64 x.st,.int .i64 0,.int .i64 0,.int .i64 0] :=
  ⟨.i _ _,.i _ _,.i _ _,.i _ _,z,z,z,z,z,.i _ _,z,z,z,.b _,z,z,z,.sln _ _,z,z,.s _ _ rfl,z,z,.sln _ _,.i _ _,.i _ _,z,z,z,trivial⟩
 have ht:LV σ (c :: x.ref.map a3m) (u :: x.ln.ref.map fun c=>B8 c.toNat):=⟨hc,axh hr⟩
 have hg:=LR.g (LV.lr (LV.app hh ht))
 exact hg
theorem axb (x:NL) (c:AV) (i:Nat) (hi:i≠29) (a:AV) (h:(a7c x c)[i]? = some a):isY a=true:=by
 unfold a7c at h
 have hH:(aab tmpl [x.kind,x.frm,x.dst,x.mtg,x.res,x.dl,x.st]).length=29:=rfl
 by_cases h1:i < 29
 ·rw [List.getElem?_append_left (by omega)] at h
  have hm:=List.mem_of_getElem? h
  simp only [tmpl,aab,List.mem_cons,List.not_mem_nil,or_false] at hm
  rcases hm with rfl | rfl | rfl | rfl | rfl | rfl | rfl | rfl | rfl | rfl | rfl | rfl | rfl | rfl | rfl | rfl | rfl | rfl | rfl | rfl | rfl | rfl | rfl | rfl | rfl | rfl | rfl | rfl | rfl<;>rfl
 ·rw [List.getElem?_append_right (by omega),hH] at h
  obtain ⟨j,rfl⟩ : ∃ j,i=j+30:=⟨i - 30,by omega⟩
  rw [show j+30 - 29=j+1 by omega,List.getElem?_cons_succ] at h
  have hm:=List.mem_of_getElem? h
  obtain ⟨n,_,rfl⟩:=List.mem_map.1 hm
  rfl
theorem axc (x:NL) (c:AV):(a7c x c)[29]? = some c:=rfl
end
end V
end Go.CE
namespace Go.CE
namespace V
open Go.Proofs Go.Proofs.YtopgdlblfieljaaGreatDoor Go.RowKit
section
variable [Sym] [a0n]
theorem aib (l:List Nat):a1f (l.map ap4)=true:=by
 induction l with
 | nil=>rfl
 | cons a l ih=>exact ih
end
end V
end Go.CE
