/-
  Numbers that are not known, with their bytes, and bytes that are not known: tables for the evaluator, and that they are so.
-/
import Derived.Test.YtopgdlblfieljaaGreatDoorPkCeOne
set_option linter.unusedSectionVars false
set_option linter.constructorNameAsVariable false
set_option linter.unusedVariables false
set_option linter.unusedSimpArgs false
namespace Go.CE
namespace Y
structure Pk where
 num:Nat→Nat
 lo:Nat→Nat
 hi:Nat→Nat
 oct:Nat→Nat
 ocq:Nat→Nat→Option Bool
 ord:Nat→Nat→Bool:=fun _ _=>false
 ne:Nat→Nat→Bool:=fun _ _=>false
 one:Nat→Bool:=fun _=>false
 eqg:List AV→List AV→Option Bool:=fun _ _=>none
 xr:Nat→Nat→Option Nat:=fun _ _=>none
structure Pk.Ok (p:Pk):Prop where
 lo:∀ s,p.lo s≤p.num s
 hi:∀ s,p.num s≤p.hi s
 top:∀ s,p.hi s < 9223372036854775808
 oct:∀ i,p.oct i < 256
 ocq:∀ i j b,p.ocq i j=some b→decide (p.oct i=p.oct j)=b
 ord:∀ s t,p.ord s t=true→p.num s < p.num t:=by intro _ _ h;cases h
 ne:∀ s t,p.ne s t=true→p.num s≠p.num t:=by intro _ _ h;cases h
 one:∀ s,p.one s=true→p.num s < 256:=by intro _ h;cases h
 xr:∀ i m n,p.xr i m=some n→m < 256∧p.oct n=p.oct i ^^^ m:=by intro _ _ _ h;cases h
def nv (n c:Nat):Nat :=
 if c < 8 then n / 256 ^ c else if c < 16 then n / 256 ^ (c - 8) % 256 else if c < 24 then n / 256 ^ (c - 16) * 256 else if c < 32 then n / 256 ^ (c - 24) % 256 * 256 ^ (c - 24) else n % 256 ^ (c - 32)
def ob:Nat:=1048576
def Pk.nat (p:Pk) (j:Nat):Nat:=if j < ob then nv (p.num (j / 64)) (j % 64) else p.oct (j - ob)
def wide:IntKind→Bool
 | .i64 | .u64=>true
 | _=>false
def b1c (k:IntKind) (j m:Nat):Option AV :=
 match wide k&&Nat.blt j ob&&Nat.blt (j % 64) 8&&Nat.beq (m % 8) 0 with
 | false=>none
 | true=>match Nat.blt (j % 64+m / 8) 8 with
  | true=>some (.x k (j+m / 8))
  | false=>some (.i k (.ofNat 0))
def b1d (k:IntKind) (j m:Nat):Option AV :=
 match wide k&&Nat.blt j ob with
 | false=>none
 | true=>match Nat.blt 0 (j % 64)&&Nat.blt (j % 64) 8&&Nat.beq m 8 with
  | true=>some (.x k (j+16))
  | false=>match Nat.ble 8 (j % 64)&&Nat.blt (j % 64) 16&&Nat.beq m (8 * (j % 64 - 8)) with
   | true=>some (.x k (j+16))
   | false=>match Nat.blt (j % 64) 8&&Nat.beq m 0 with
    | true=>some (.x k j)
    | false=>none
def b1f (k:IntKind) (i j:Nat):Option AV :=
 match wide k&&Nat.blt i ob&&Nat.blt j ob&&Nat.beq (i / 64) (j / 64)&&Nat.ble 17 (i % 64)&&Nat.blt (i % 64) 24&&Nat.beq (j % 64+9) (i % 64) with
 | true=>some (.x k (i - 17))
 | false=>none
def b1e (k:IntKind) (j:Nat):Option AV :=
 match wide k&&Nat.blt j ob&&Nat.blt (j % 64) 16 with
 | false=>none
 | true=>match Nat.beq (j % 64) 15 with
  | true=>some (.x k (j - 8))
  | false=>some (.x k j)
def aNb (k:IntKind) (i j:Nat):Option AV :=
 match wide k&&Nat.blt i ob&&Nat.blt j ob&&Nat.beq (i / 64) (j / 64)&&Nat.ble 33 (i % 64)&&Nat.blt (i % 64) 40&&Nat.beq (j % 64+8) (i % 64) with
 | false=>none
 | true=>match Nat.beq (i % 64) 39 with
  | true=>some (.x k (i - 39))
  | false=>some (.x k (i+1))
def aNa (k:IntKind) (j:Nat):Option AV :=
 match wide k&&Nat.blt j ob with
 | false=>none
 | true=>match Nat.beq (j % 64) 24 with
  | true=>some (.x k (j+9))
  | false=>match Nat.blt (j % 64) 16 with
   | true=>some (.x k j)
   | false=>none
def aRp (op:BinOp) (lo hi:Nat) (b:Int):Option Bool :=
 match op with
 | .lss=>match leA b (.ofNat lo),leA b (.ofNat hi) with
  | true,_=>some false
  | _,false=>some true
  | _,_=>none
 | .geq=>match leA b (.ofNat lo),leA b (.ofNat hi) with
  | true,_=>some true
  | _,false=>some false
  | _,_=>none
 | .leq=>match leA (.ofNat hi) b,leA (.ofNat lo) b with
  | true,_=>some true
  | _,false=>some false
  | _,_=>none
 | .gtr=>match leA (.ofNat hi) b,leA (.ofNat lo) b with
  | true,_=>some false
  | _,false=>some true
  | _,_=>none
 | .eql=>match leA (.ofNat lo) b&&leA b (.ofNat hi) with
  | false=>some false
  | true=>none
 | .neq=>match leA (.ofNat lo) b&&leA b (.ofNat hi) with
  | false=>some true
  | true=>none
 | _=>none
def Pk.bin (p:Pk) (op:BinOp) (k:IntKind) (j:Nat) (k':IntKind) (b:Int):Option AV :=
 match op,b with
 | .shr,.ofNat m=>b1c k j m
 | .shl,.ofNat m=>b1d k j m
 | .xor,.ofNat m=>match k,k' with
  | .u8,.u8=>match Nat.ble ob j with
   | true=>match p.xr (j - ob) m with
    | some n=>some (.x .u8 (ob+n))
    | none=>none
   | false=>none
  | _,_=>none
 | op,b=>match acb k k' && Nat.blt j ob&&Nat.beq (j % 64) 0 with
  | true=>match aRp op (p.lo (j / 64)) (p.hi (j / 64)) b with
   | some r=>some (.b r)
   | none=>none
  | false=>none
def b4n:BinOp→Option Bool
 | .eql | .leq | .geq=>some true
 | .neq | .lss | .gtr=>some false
 | _=>none
def b4l:BinOp→Option Bool
 | .lss | .leq | .neq=>some true
 | .gtr | .geq | .eql=>some false
 | _=>none
def b4m:BinOp→Option Bool
 | .gtr | .geq | .neq=>some true
 | .lss | .leq | .eql=>some false
 | _=>none
def b4k:BinOp→Option Bool
 | .neq=>some true
 | .eql=>some false
 | _=>none
def Pk.aZu (p:Pk) (op:BinOp) (s t:Nat):Option Bool :=
 match Nat.beq s t with
 | true=>b4n op
 | false=>match p.ord s t with
  | true=>b4l op
  | false=>match p.ord t s with
   | true=>b4m op
   | false=>match p.ne s t with
    | true=>b4k op
    | false=>none
def af5 (j:Nat):Bool:=Nat.blt j ob&&Nat.beq (j % 64) 0
def Pk.same (p:Pk) (i j:Nat):Option Bool :=
 match Nat.beq i j with
 | true=>some true
 | false=>match Nat.ble ob i&&Nat.ble ob j with
  | true=>p.ocq (i - ob) (j - ob)
  | false=>match af5 i&&af5 j with
   | true=>p.aZu .eql (i / 64) (j / 64)
   | false=>none
def Pk.less (p:Pk) (op:BinOp) (i j:Nat):Option AV :=
 match af5 i&&af5 j with
 | true=>match p.aZu op (i / 64) (j / 64) with
  | some r=>some (.b r)
  | none=>none
 | false=>none
def Pk.aI2 (p:Pk) (op:BinOp) (k:IntKind) (i:Nat) (k':IntKind) (j:Nat):Option AV :=
 match acb k k' with
 | false=>none
 | true=>match op with
  | .or=>b1f k i j
  | .add=>aNb k i j
  | .eql=>match p.same i j with
   | some r=>some (.b r)
   | none=>none
  | .neq=>match p.same i j with
   | some r=>some (.b (!r))
   | none=>none
  | .lss=>p.less .lss i j
  | .leq=>p.less .leq i j
  | .gtr=>p.less .gtr i j
  | .geq=>p.less .geq i j
  | _=>none
def aQd:BinOp→BinOp
 | .lss=>.gtr
 | .leq=>.geq
 | .gtr=>.lss
 | .geq=>.leq
 | .eql=>.eql
 | .neq=>.neq
 | _=>.or
def Pk.aI1 (p:Pk) (op:BinOp) (k:IntKind) (a:Int) (k':IntKind) (j:Nat):Option AV :=
 match acb k k' with
 | false=>none
 | true=>match op,a with
  | .or,.ofNat 0=>b1e k j
  | .add,.ofNat 0=>aNa k j
  | op,a=>match af5 j with
   | true=>match aRp (aQd op) (p.lo (j / 64)) (p.hi (j / 64)) a with
    | some r=>some (.b r)
    | none=>none
   | false=>none
def Pk.cv (p:Pk) (k:IntKind) (j:Nat):Option AV :=
 match k with
 | .u8=>match Nat.ble ob j with
  | true=>some (.x .u8 j)
  | false=>match Nat.blt (j % 64) 16 with
   | false=>none
   | true=>match Nat.ble 8 (j % 64) with
    | true=>some (.x .u8 j)
    | false=>match Nat.beq (j % 64) 0&&p.one (j / 64) with
     | true=>some (.x .u8 j)
     | false=>some (.x .u8 (j+8))
 | .i64 | .u64=>match Nat.ble ob j||Nat.blt (j % 64) 16 with
  | true=>some (.x k j)
  | false=>none
 | _=>none
def Pk.eqc (p:Pk) (j:Nat) (b:Int):Option Bool :=
 match Nat.blt j ob&&Nat.beq (j % 64) 0 with
 | true=>aRp .eql (p.lo (j / 64)) (p.hi (j / 64)) b
 | false=>none
@[reducible] def Pk.sym (p:Pk):Sym where
 val j:=.ofNat (p.nat j)
 bin:=p.bin
 cv:=p.cv
 aI2:=p.aI2
 aI1:=p.aI1
 eqx:=p.same
 eqc:=p.eqc
 eqg:=p.eqg

@[reducible] def aC9:Sym:={ val:=fun _=>0,bin:=fun _ _ _ _ _=>none,cv:=fun _ _=>none }
theorem anr:@a0n aC9:=@a0n.mk aC9 (fun _ _ _ _ _ _ h=>by cases h) (fun _ _ _ h=>by cases h) (fun _ _ _ _ _ _ h=>by cases h) (fun _ _ _ _ _ _ h=>by cases h) (fun _ _ _ h=>by cases h) (fun _ _ _ h=>by cases h) (fun _ _ _ h=>by cases h)
theorem b0x (k:IntKind) (n:Int):a5o k n=k.wrap n:=@a3u aC9 anr k n
theorem leE (x y:Int):leA x y=decide (x≤y):=@ahu aC9 anr x y
theorem eqE (x y:Int):eqI x y=(x == y):=@afy aC9 anr x y
theorem bqT {a b:Nat} (h:Nat.beq a b=true):a=b:=Nat.eq_of_beq_eq_true h
theorem blT {a b:Nat} (h:Nat.ble a b=true):a≤b:=Nat.le_of_ble_eq_true h
theorem ag9 {a b:Nat} (h:Nat.blt a b=true):a < b:=Nat.le_of_ble_eq_true h
theorem aal {k:IntKind} (hk:wide k=true) (n:Nat) (h:n < 9223372036854775808):a5o k (.ofNat n)=.ofNat n:=by
 cases k<;>cases hk
 ·show (match Nat.ble n 9223372036854775807 with | true=>Int.ofNat n | false=>IntKind.i64.wrap (Int.ofNat n))=_
  rw [Nat.ble_eq_true_of_le (by omega)]
 ·rw [b0x];simp only [IntKind.wrap,IntKind.signed,IntKind.bits];simp;omega
theorem ara {k:IntKind} (hk:wide k=true) (n:Nat) (h:n < 9223372036854775808):Nat.ble n k.max.toNat=true:=by
 cases k<;>cases hk<;>(apply Nat.ble_eq_true_of_le;simp [IntKind.max,IntKind.signed,IntKind.bits];omega)
theorem b2l (d:Nat):2 ^ (8 * d)=256 ^ d:=by rw [Nat.pow_mul]
theorem aoo (n c:Nat) (h:c < 8):nv n c=n / 256 ^ c:=by unfold nv;rw [if_pos h]
theorem aPi (n c:Nat) (h:c < 8):nv n (c+8)=n / 256 ^ c % 256:=by unfold nv;rw [if_neg (by omega),if_pos (by omega),show c+8 - 8=c by omega]
theorem nv_c (n c:Nat) (h:c < 8):nv n (c+16)=n / 256 ^ c * 256:=by unfold nv;rw [if_neg (by omega),if_neg (by omega),if_pos (by omega),show c+16 - 16=c by omega]
theorem b37 (n c:Nat) (h:c < 8):nv n (c+24)=n / 256 ^ c % 256 * 256 ^ c:=by unfold nv;rw [if_neg (by omega),if_neg (by omega),if_neg (by omega),if_pos (by omega),show c+24 - 24=c by omega]
theorem b36 (n c:Nat):nv n (c+32)=n % 256 ^ c:=by unfold nv;rw [if_neg (by omega),if_neg (by omega),if_neg (by omega),if_neg (by omega),show c+32 - 32=c by omega]
theorem a1j (p:Pk) (s c:Nat) (hc:c < 64) (h:64 * s+c < ob):p.nat (64 * s+c)=nv (p.num s) c:=by
 unfold Pk.nat;rw [if_pos h,show (64 * s+c) / 64=s by omega,show (64 * s+c) % 64=c by omega]
theorem aP6 (x y:Nat) (hy:y < 256):(x * 256) ||| y=x * 256+y:=by
 have:=Nat.shiftLeft_add_eq_or_of_lt (i:=8) (b:=y) (by simpa using hy) x
 rw [Nat.shiftLeft_eq] at this
 exact this.symm
theorem ikT {k k':IntKind} (h:acb k k' = true):k=k':=of_decide_eq_true h
section
variable {p:Pk} (h:p.Ok)
include h
theorem ahm (s:Nat):p.num s < 9223372036854775808:=Nat.lt_of_le_of_lt (h.hi s) (h.top s)
theorem b4z (s c:Nat):p.num s / 256 ^ c < 9223372036854775808:=Nat.lt_of_le_of_lt (Nat.div_le_self _ _) (ahm h s)
theorem aTb {k k':IntKind} {j m:Nat} {r:AV} (e:b1c k j m=some r) (P:Program) (t:Nat):@agm p.sym P .shr t (.i k (.ofNat (p.nat j))) (.i k' (.ofNat m))=some (@den p.sym r):=by
 show some (AV.i k (.ofNat (p.nat j / 2 ^ (min m k.bits))))=_
 unfold b1c at e
 split at e
 ·cases e
 rename_i g
 simp only [Bool.and_eq_true] at g
 obtain ⟨⟨⟨g1,g2⟩,g3⟩,g4⟩:=g
 have g2:=ag9 g2
 have g3:=ag9 g3
 have g4:=bqT g4
 have hb:k.bits=64:=by cases k<;>first | rfl | cases g1
 obtain ⟨s,c,rfl,hc⟩ : ∃ s c,j=64 * s+c∧c < 8:=⟨j / 64,j % 64,by omega,g3⟩
 obtain ⟨d,rfl⟩ : ∃ d,m=8 * d:=⟨m / 8,by omega⟩
 have ec:(64 * s+c) % 64=c:=by omega
 have ed:8 * d / 8=d:=by omega
 rw [ec,ed] at e
 rw [a1j p s c (by omega) g2,aoo _ _ hc,hb]
 have aS0:ob=64 * 16384:=rfl
 split at e
 ·rename_i g5
  have g5:=ag9 g5
  cases e
  show _=some (AV.i k (.ofNat (p.nat (64 * s+c+d))))
  rw [show 64 * s+c+d=64 * s+(c+d) by omega,a1j p s (c+d) (by omega) (by omega),aoo _ _ g5,show min (8 * d) 64=8 * d by omega,b2l,Nat.div_div_eq_div_mul,Nat.pow_add]
 ·rename_i g5
  have g5 : ¬ c+d < 8:=fun q=>by rw [show Nat.blt (c+d) 8=true from Nat.ble_eq_true_of_le q] at g5;cases g5
  cases e
  have hn:=ahm h s
  have hz:p.num s / 256 ^ c / 2 ^ (min (8 * d) 64)=0:=by
   by_cases hd:8≤d
   ·rw [show min (8 * d) 64=64 by omega]
    exact Nat.div_eq_of_lt (Nat.lt_of_lt_of_le (b4z h s c) (by decide))
   ·rw [show min (8 * d) 64=8 * d by omega,b2l,Nat.div_div_eq_div_mul,← Nat.pow_add]
    refine Nat.div_eq_of_lt (Nat.lt_of_lt_of_le hn (Nat.le_trans ?_ (Nat.pow_le_pow_right (by decide) (show 8≤c+d by omega))))
    decide
  rw [hz];rfl
theorem aTc {k k':IntKind} {j m:Nat} {r:AV} (e:b1d k j m=some r) (P:Program) (t:Nat):@agm p.sym P .shl t (.i k (.ofNat (p.nat j))) (.i k' (.ofNat m))=some (@den p.sym r):=by
 show some (AV.i k (a5o k (.ofNat (p.nat j) * 2 ^ (min m k.bits))))=_
 unfold b1d at e
 split at e
 ·cases e
 rename_i g
 simp only [Bool.and_eq_true] at g
 obtain ⟨g1,g2⟩:=g
 have g2:=ag9 g2
 have hb:k.bits=64:=by cases k<;>first | rfl | cases g1
 have aS0:ob=64 * 16384:=rfl
 obtain ⟨s,c,rfl,hc⟩ : ∃ s c,j=64 * s+c∧c < 64:=⟨j / 64,j % 64,by omega,by omega⟩
 have ec:(64 * s+c) % 64=c:=by omega
 rw [ec] at e
 have hn:=ahm h s
 have hmul:∀ x y:Nat,(Int.ofNat x * 2 ^ y:Int)=Int.ofNat (x * 2 ^ y):=fun x y=>by simp
 rw [hmul,hb]
 split at e
 ·rename_i g
  simp only [Bool.and_eq_true] at g
  obtain ⟨⟨g3,g4⟩,g5⟩:=g
  have g3:=ag9 g3
  have g4:=ag9 g4
  obtain rfl:=bqT g5
  cases e
  show _=some (AV.i k (.ofNat (p.nat (64 * s+c+16))))
  rw [a1j p s c hc g2,aoo _ _ g4,show 64 * s+c+16=64 * s+(c+16) by omega,a1j p s (c+16) (by omega) (by omega),nv_c _ _ g4]
  have hle:p.num s / 256 ^ c * 256≤p.num s:=by
   obtain ⟨c',rfl⟩ : ∃ c',c=c' + 1:=⟨c - 1,by omega⟩
   rw [Nat.pow_succ,← Nat.div_div_eq_div_mul]
   exact Nat.le_trans (Nat.div_mul_le_self _ _) (Nat.div_le_self _ _)
  rw [show (2:Nat) ^ (min 8 64)=256 from rfl,aal g1 _ (Nat.lt_of_le_of_lt hle hn)]
 ·split at e
  ·rename_i g
   simp only [Bool.and_eq_true] at g
   obtain ⟨⟨g3,g4⟩,g5⟩:=g
   have g3:=blT g3
   have g4:=ag9 g4
   have g5:=bqT g5
   cases e
   obtain ⟨i,rfl⟩ : ∃ i,c=i+8:=⟨c - 8,by omega⟩
   rw [show i+8 - 8=i by omega] at g5
   subst g5
   show _=some (AV.i k (.ofNat (p.nat (64 * s+(i+8)+16))))
   rw [a1j p s (i+8) hc g2,aPi _ _ (by omega),show 64 * s+(i+8)+16=64 * s+(i+24) by omega,a1j p s (i+24) (by omega) (by omega),b37 _ _ (by omega),show min (8 * i) 64=8 * i by omega,b2l]
   have hle:p.num s / 256 ^ i % 256 * 256 ^ i≤p.num s:=Nat.le_trans (Nat.mul_le_mul_right _ (Nat.mod_le _ _)) (Nat.div_mul_le_self _ _)
   rw [aal g1 _ (Nat.lt_of_le_of_lt hle hn)]
  ·split at e
   ·rename_i g
    simp only [Bool.and_eq_true] at g
    obtain ⟨g3,g4⟩:=g
    have g3:=ag9 g3
    obtain rfl:=bqT g4
    cases e
    show _=some (AV.i k (.ofNat (p.nat (64 * s+c))))
    rw [a1j p s c hc g2,aoo _ _ g3,show (2:Nat) ^ (min 0 64)=1 from rfl,Nat.mul_one,aal g1 _ (b4z h s c)]
   ·cases e
theorem aUu {k:IntKind} {i j:Nat} {r:AV} (e:b1f k i j=some r) (P:Program) (t:Nat):@agm p.sym P .or t (.i k (.ofNat (p.nat i))) (.i k (.ofNat (p.nat j)))=some (@den p.sym r):=by
 unfold b1f at e
 split at e
 ·rename_i g
  simp only [Bool.and_eq_true] at g
  obtain ⟨⟨⟨⟨⟨⟨g1,g2⟩,g3⟩,g4⟩,g5⟩,g6⟩,g7⟩:=g
  have g2:=ag9 g2
  have g3:=ag9 g3
  have g4:=bqT g4
  have g5:=blT g5
  have g6:=ag9 g6
  have g7:=bqT g7
  cases e
  have aS0:ob=64 * 16384:=rfl
  obtain ⟨s,c,rfl,hc⟩ : ∃ s c,i=64 * s+(c+17)∧c < 7:=⟨i / 64,i % 64 - 17,by omega,by omega⟩
  obtain rfl:j=64 * s+(c+8):=by omega
  show _=some (AV.i k (.ofNat (p.nat (64 * s+(c+17) - 17))))
  have hn:=ahm h s
  have e1:p.num s / 256 ^ (c+1) * 256≤p.num s:=by
   rw [Nat.pow_succ,← Nat.div_div_eq_div_mul]
   exact Nat.le_trans (Nat.div_mul_le_self _ _) (Nat.div_le_self _ _)
  have e2:p.num s / 256 ^ c % 256 < 256:=Nat.mod_lt _ (by decide)
  rw [show 64 * s+(c+17) - 17=64 * s+c by omega,show 64 * s+(c+17)=64 * s+(c+1+16) by omega,a1j p s _ (by omega) (by omega),a1j p s _ (by omega) g3,a1j p s c (by omega) (by omega),nv_c _ _ (by omega),aPi _ _ (by omega),aoo _ _ (by omega)]
  show (match acb k k with | true=>adb .or k _ _ | false=>none)=_
  rw [show acb k k=true from decide_eq_true rfl]
  show (match (match Nat.ble (p.num s / 256 ^ (c+1) * 256) k.max.toNat&&Nat.ble (p.num s / 256 ^ c % 256) k.max.toNat with | true=>some (Int.ofNat (p.num s / 256 ^ (c+1) * 256 ||| p.num s / 256 ^ c % 256)) | false=>none) with | some z=>some (AV.i k z) | none=>none)=_
  rw [ara g1 _ (by omega),ara g1 _ (by omega),aP6 _ _ e2,Nat.pow_succ,← Nat.div_div_eq_div_mul,Nat.div_add_mod']
  rfl
 ·cases e
theorem aRb {k:IntKind} {i j:Nat} {r:AV} (e:aNb k i j=some r) (P:Program) (t:Nat):@agm p.sym P .add t (.i k (.ofNat (p.nat i))) (.i k (.ofNat (p.nat j)))=some (@den p.sym r):=by
 unfold aNb at e
 split at e
 ·cases e
 ·rename_i g
  simp only [Bool.and_eq_true] at g
  obtain ⟨⟨⟨⟨⟨⟨g1,g2⟩,g3⟩,g4⟩,g5⟩,g6⟩,g7⟩:=g
  have g2:=ag9 g2
  have g3:=ag9 g3
  have g4:=bqT g4
  have g5:=blT g5
  have g6:=ag9 g6
  have g7:=bqT g7
  have aS0:ob=64 * 16384:=rfl
  obtain ⟨s,c,rfl,hc,hc0⟩ : ∃ s c,i=64 * s+(c+32)∧c < 8∧1≤c:=⟨i / 64,i % 64 - 32,by omega,by omega,by omega⟩
  obtain rfl:j=64 * s+(c+24):=by omega
  have hn:=ahm h s
  have key:p.num s % 256 ^ c+p.num s / 256 ^ c % 256 * 256 ^ c=p.num s % 256 ^ (c+1):=by rw [Nat.mod_pow_succ,Nat.mul_comm (256 ^ c)]
  have hlt:p.num s % 256 ^ (c+1) < 9223372036854775808:=Nat.lt_of_le_of_lt (Nat.mod_le _ _) hn
  rw [a1j p s _ (by omega) g2,a1j p s _ (by omega) g3,b36,b37 _ _ hc]
  show (match acb k k with | true=>adb .add k _ _ | false=>none)=_
  rw [show acb k k=true from decide_eq_true rfl]
  show some (AV.i k (a5o k (Int.ofNat (p.num s % 256 ^ c+p.num s / 256 ^ c % 256 * 256 ^ c))))=_
  rw [key,aal g1 _ hlt]
  split at e
  ·rename_i g8
   have g8:=bqT g8
   cases e
   obtain rfl:c=7:=by omega
   show _=some (AV.i k (.ofNat (p.nat (64 * s+(7+32) - 39))))
   rw [show 64 * s+(7+32) - 39=64 * s+0 by omega,a1j p s 0 (by omega) (by omega),aoo _ _ (by omega),Nat.pow_zero,Nat.div_one,Nat.mod_eq_of_lt (Nat.lt_of_lt_of_le hn (by decide))]
  ·cases e
   show _=some (AV.i k (.ofNat (p.nat (64 * s+(c+32)+1))))
   rename_i g8
   have g8:(64 * s+(c+32)) % 64≠39:=fun q=>by rw [q] at g8;cases g8
   rw [show 64 * s+(c+32)+1=64 * s+(c+1+32) by omega,a1j p s _ (by omega) (by omega),b36]
theorem ays (s c:Nat) (hc:c < 16):nv (p.num s) c < 9223372036854775808:=by
 by_cases h8:c < 8
 ·rw [aoo _ _ h8];exact b4z h s c
 ·obtain ⟨d,rfl⟩ : ∃ d,c=d+8:=⟨c - 8,by omega⟩
  rw [aPi _ _ (by omega)]
  have:=Nat.mod_lt (p.num s / 256 ^ d) (show 256 > 0 by decide)
  omega
theorem aUt {k:IntKind} {j:Nat} {r:AV} (e:b1e k j=some r) (P:Program) (t:Nat):@agm p.sym P .or t (.i k (.ofNat 0)) (.i k (.ofNat (p.nat j)))=some (@den p.sym r):=by
 unfold b1e at e
 split at e
 ·cases e
 rename_i g
 simp only [Bool.and_eq_true] at g
 obtain ⟨⟨g1,g2⟩,g3⟩:=g
 have g2:=ag9 g2
 have g3:=ag9 g3
 have aS0:ob=64 * 16384:=rfl
 obtain ⟨s,c,rfl,hc⟩ : ∃ s c,j=64 * s+c∧c < 16:=⟨j / 64,j % 64,by omega,by omega⟩
 have ec:(64 * s+c) % 64=c:=by omega
 rw [ec] at e
 have hl:=ays h s c hc
 rw [a1j p s c (by omega) g2]
 have e0:@agm p.sym P .or t (.i k (.ofNat 0)) (.i k (.ofNat (nv (p.num s) c)))=some (.i k (.ofNat (nv (p.num s) c))):=by
  show (match acb k k with | true=>adb .or k _ _ | false=>none)=_
  rw [show acb k k=true from decide_eq_true rfl]
  show (match (match Nat.ble 0 k.max.toNat&&Nat.ble (nv (p.num s) c) k.max.toNat with | true=>some (Int.ofNat (0 ||| nv (p.num s) c)) | false=>none) with | some z=>some (AV.i k z) | none=>none)=_
  rw [ara g1 _ (by omega),ara g1 _ hl,Nat.zero_or]
  rfl
 rw [e0]
 split at e
 ·rename_i g8
  obtain rfl:=bqT g8
  cases e
  show _=some (AV.i k (.ofNat (p.nat (64 * s+15 - 8))))
  have hn:=ahm h s
  rw [show 64 * s+15 - 8=64 * s+7 by omega,a1j p s 7 (by omega) (by omega),aoo _ 7 (by omega),show nv (p.num s) 15=p.num s / 256 ^ 7 % 256 from aPi _ 7 (by omega),Nat.mod_eq_of_lt]
  exact (Nat.div_lt_iff_lt_mul (by decide)).2 (Nat.lt_of_lt_of_le hn (by decide))
 ·cases e
  show _=some (AV.i k (.ofNat (p.nat (64 * s+c))))
  rw [a1j p s c (by omega) g2]
theorem aRa {k:IntKind} {j:Nat} {r:AV} (e:aNa k j=some r) (P:Program) (t:Nat):@agm p.sym P .add t (.i k (.ofNat 0)) (.i k (.ofNat (p.nat j)))=some (@den p.sym r):=by
 unfold aNa at e
 split at e
 ·cases e
 rename_i g
 simp only [Bool.and_eq_true] at g
 obtain ⟨g1,g2⟩:=g
 have g2:=ag9 g2
 have aS0:ob=64 * 16384:=rfl
 have e0:∀ n,n < 9223372036854775808→@agm p.sym P .add t (.i k (.ofNat 0)) (.i k (.ofNat n))=some (.i k (.ofNat n)):=fun n hn=>by
  show (match acb k k with | true=>adb .add k _ _ | false=>none)=_
  rw [show acb k k=true from decide_eq_true rfl]
  show some (AV.i k (a5o k (Int.ofNat (0+n))))=_
  rw [Nat.zero_add,aal g1 _ hn]
 obtain ⟨s,c,rfl,hc⟩ : ∃ s c,j=64 * s+c∧c < 64:=⟨j / 64,j % 64,by omega,by omega⟩
 have ec:(64 * s+c) % 64=c:=by omega
 rw [ec] at e
 rw [a1j p s c (by omega) g2]
 split at e
 ·rename_i g8
  obtain rfl:=bqT g8
  cases e
  show _=some (AV.i k (.ofNat (p.nat (64 * s+24+9))))
  rw [show 64 * s+24+9=64 * s+(1+32) by omega,a1j p s _ (by omega) (by omega),b36,show nv (p.num s) 24=p.num s / 256 ^ 0 % 256 * 256 ^ 0 from b37 _ 0 (by omega),Nat.pow_zero,Nat.div_one,Nat.mul_one,Nat.pow_one,e0]
  have:=Nat.mod_lt (p.num s) (show 256 > 0 by decide)
  omega
 ·split at e
  ·rename_i g9
   have g9:=ag9 g9
   cases e
   show _=some (AV.i k (.ofNat (p.nat (64 * s+c))))
   rw [a1j p s c hc g2,e0 _ (ays h s c g9)]
  ·cases e
omit h in
theorem ant {op:BinOp} {lo hi n:Nat} {b:Int} {r:Bool} (k:IntKind) (e:aRp op lo hi b=some r) (h1:lo≤n) (h2:n≤hi):adb op k (.ofNat n) b=some (.b r):=by
 have i1:Int.ofNat lo≤Int.ofNat n:=Int.ofNat_le.2 h1
 have i2:Int.ofNat n≤Int.ofNat hi:=Int.ofNat_le.2 h2
 unfold aRp at e
 cases op<;>first | (cases e;done) | skip
 all_goals
  simp only [leE] at e
  simp only [adb,leE,eqE]
  generalize Int.ofNat lo=L at *
  generalize Int.ofNat hi=H at *
  generalize Int.ofNat n=N at *
  split at e<;>first | (cases e;done) | skip
  all_goals (cases e;simp_all;try omega)
omit h in
theorem aQc {op:BinOp} {lo hi n:Nat} {b:Int} {r:Bool} (k:IntKind) (e:aRp (aQd op) lo hi b=some r) (h1:lo≤n) (h2:n≤hi):adb op k b (.ofNat n)=some (.b r):=by
 have key:=ant k e h1 h2
 cases op<;>first | (cases e;done) | exact key | skip
 all_goals
  have sw:eqI b (.ofNat n)=eqI (.ofNat n) b:=by rw [eqE,eqE,Bool.eq_iff_iff,beq_iff_eq,beq_iff_eq];exact ⟨Eq.symm,Eq.symm⟩
  simp only [aQd,adb] at key
  simp only [adb,sw]
  exact key
omit h in
theorem a98 {op:BinOp} (k:IntKind) (x y:Int) (P:Program) (t:Nat) (hop:op≠.shl∧op≠.shr):@agm p.sym P op t (.i k x) (.i k y)=adb op k x y:=by
 cases op<;>first | (exact absurd rfl hop.1) | (exact absurd rfl hop.2) | (simp [agm,acb])
omit h in
theorem a9i {j:Nat} (hj:ob≤j):p.nat j=p.oct (j - ob):=by unfold Pk.nat;rw [if_neg (by omega)]
theorem aSj {j m n:Nat} (ho:ob≤j) (hn:p.xr (j - ob) m=some n) (P:Program) (t:Nat):@agm p.sym P .xor t (.i .u8 (.ofNat (p.nat j))) (.i .u8 (.ofNat m))=some (.i .u8 (.ofNat (p.nat (ob+n)))):=by
 obtain ⟨h1,h2⟩:=h.xr _ _ _ hn
 have h3:=h.oct (j - ob)
 have hm:IntKind.u8.max.toNat=255:=by decide
 rw [a9i ho,a9i (p:=p) (show ob≤ob+n by omega),Nat.add_sub_cancel_left,h2]
 show (match acb .u8 .u8 with | true=>adb .xor .u8 (Int.ofNat (p.oct (j - ob))) (Int.ofNat m) | false=>none)=_
 rw [show acb .u8 .u8=true from decide_eq_true rfl]
 show (match (match Nat.ble (p.oct (j - ob)) IntKind.u8.max.toNat&&Nat.ble m IntKind.u8.max.toNat with | true=>some (Int.ofNat (p.oct (j - ob) ^^^ m)) | false=>none) with | some z=>some (AV.i .u8 z) | none=>none)=_
 rw [hm,Nat.ble_eq_true_of_le (show p.oct (j - ob)≤255 by omega),Nat.ble_eq_true_of_le (show m≤255 by omega)]
 rfl
theorem aY2 {op:BinOp} {k k':IntKind} {j:Nat} {b:Int} {r:AV} (e:p.bin op k j k' b=some r) (P:Program) (t:Nat):@agm p.sym P op t (.i k (.ofNat (p.nat j))) (.i k' b)=some (@den p.sym r):=by
 unfold Pk.bin at e
 split at e
 ·exact aTb h e P t
 ·exact aTc h e P t
 ·split at e
  ·split at e
   ·rename_i g
    split at e
    ·rename_i n hn
     cases e
     exact aSj h (blT g) hn P t
    ·cases e
   ·cases e
  ·cases e
 ·split at e
  ·rename_i g
   simp only [Bool.and_eq_true] at g
   obtain ⟨⟨g1,g2⟩,g3⟩:=g
   obtain rfl:=ikT g1
   have g2:=ag9 g2
   have g3:=bqT g3
   split at e
   ·rename_i r' hr
    cases e
    obtain ⟨s,rfl⟩ : ∃ s,j=64 * s+0:=⟨j / 64,by omega⟩
    have es:(64 * s+0) / 64=s:=by omega
    rw [es] at hr
    rw [a1j p s 0 (by omega) g2,aoo _ _ (by omega),Nat.pow_zero,Nat.div_one,a98 _ _ _ _ _ (by constructor<;>(rintro rfl;cases hr)),ant k hr (h.lo s) (h.hi s)]
    rfl
   ·cases e
  ·cases e
theorem aAf {op:BinOp} {s t:Nat} {r:Bool} (k:IntKind) (e:p.aZu op s t=some r):adb op k (.ofNat (p.num s)) (.ofNat (p.num t))=some (.b r):=by
 unfold Pk.aZu at e
 have le:∀ a b:Nat,(Int.ofNat a≤Int.ofNat b)=(a≤b):=fun a b=>propext Int.ofNat_le
 have eq:∀ a b:Nat,(Int.ofNat a == Int.ofNat b)=decide (a=b):=fun a b=>by rw [Bool.eq_iff_iff];simp;omega
 split at e
 ·rename_i g
  obtain rfl:=bqT g
  cases op<;>first | (cases e;done) | (cases e;simp only [adb,leE,eqE,eq,le];simp)
 ·split at e
  ·rename_i g
   have:=h.ord _ _ g
   cases op<;>first | (cases e;done) | (cases e;simp only [adb,leE,eqE,eq,le];simp;omega)
  ·split at e
   ·rename_i g
    have:=h.ord _ _ g
    cases op<;>first | (cases e;done) | (cases e;simp only [adb,leE,eqE,eq,le];simp;omega)
   ·split at e
    ·rename_i g
     have:=h.ne _ _ g
     cases op<;>first | (cases e;done) | (cases e;simp only [adb,leE,eqE,eq,le];simp;omega)
    ·cases e
theorem a9c {j:Nat} (g:af5 j=true):p.nat j=p.num (j / 64):=by
 unfold af5 at g
 simp only [Bool.and_eq_true] at g
 have g2:=ag9 g.1
 have g3:=bqT g.2
 obtain ⟨s,rfl⟩ : ∃ s,j=64 * s+0:=⟨j / 64,by omega⟩
 rw [a1j p s 0 (by omega) g2,aoo _ _ (by omega),Nat.pow_zero,Nat.div_one,show (64 * s+0) / 64=s by omega]
theorem ao2 {i j:Nat} {r:Bool} (e:p.same i j=some r):(Int.ofNat (p.nat i) == Int.ofNat (p.nat j))=r:=by
 unfold Pk.same at e
 split at e
 ·rename_i g
  obtain rfl:=bqT g
  cases e;simp
 ·split at e
  ·rename_i g
   simp only [Bool.and_eq_true] at g
   rw [a9i (blT g.1),a9i (blT g.2),← h.ocq _ _ _ e]
   rw [Bool.eq_iff_iff];simp;omega
  ·split at e
   ·rename_i g
    simp only [Bool.and_eq_true] at g
    rw [a9c h g.1,a9c h g.2,← eqE]
    have q:some (AV.b (eqI (Int.ofNat (p.num (i / 64))) (Int.ofNat (p.num (j / 64)))))=some (AV.b r):=aAf h .i64 e
    cases q
    rfl
   ·cases e
theorem aji {op:BinOp} {k:IntKind} {i j:Nat} {r:AV} (hop:op≠.shl∧op≠.shr) (e:p.less op i j=some r) (P:Program) (t:Nat):@agm p.sym P op t (.i k (.ofNat (p.nat i))) (.i k (.ofNat (p.nat j)))=some (@den p.sym r):=by
 unfold Pk.less at e
 split at e
 ·rename_i g
  simp only [Bool.and_eq_true] at g
  split at e
  ·rename_i r' hr
   cases e
   rw [a9c h g.1,a9c h g.2,a98 _ _ _ _ _ hop,aAf h k hr]
   rfl
  ·cases e
 ·cases e
theorem b4j {k:IntKind} {j:Nat} {r:AV} (e:p.cv k j=some r):@den p.sym r=.i k (a5o k (.ofNat (p.nat j))):=by
 have aS0:ob=64 * 16384:=rfl
 have akh:∀ k,wide k=true→(match Nat.ble ob j||Nat.blt (j % 64) 16 with | true=>some (AV.x k j) | false=>none)=some r→@den p.sym r=.i k (a5o k (.ofNat (p.nat j))):=by
  intro k hk e
  split at e
  ·rename_i g
   cases e
   show AV.i k (.ofNat (p.nat j))=_
   by_cases hj:ob≤j
   ·rw [a9i hj,aal hk _ (by have:=h.oct (j - ob);omega)]
   ·have g:Nat.blt (j % 64) 16=true:=by
     rw [Bool.or_eq_true] at g
     rcases g with g | g
     ·exact (hj (blT g)).elim
     ·exact g
    have g:=ag9 g
    obtain ⟨s,c,rfl,hc⟩ : ∃ s c,j=64 * s+c∧c < 16:=⟨j / 64,j % 64,by omega,g⟩
    rw [a1j p s c (by omega) (by omega),aal hk _ (ays h s c hc)]
  ·cases e
 unfold Pk.cv at e
 split at e
 ·split at e
  ·rename_i g
   cases e
   show AV.i .u8 (.ofNat (p.nat j))=.i .u8 (.ofNat (p.nat j % 256))
   rw [a9i (blT g),Nat.mod_eq_of_lt (h.oct _)]
  ·rename_i g0
   have hj:j < ob:=by
    by_cases q:ob≤j
    ·rw [Nat.ble_eq_true_of_le q] at g0;cases g0
    ·omega
   split at e
   ·cases e
   ·rename_i g
    have g:=ag9 g
    obtain ⟨s,c,rfl,hc⟩ : ∃ s c,j=64 * s+c∧c < 16:=⟨j / 64,j % 64,by omega,g⟩
    have ec:(64 * s+c) % 64=c:=by omega
    have es:(64 * s+c) / 64=s:=by omega
    rw [ec,es] at e
    have go:nv (p.num s) c < 256→some (AV.x .u8 (64 * s+c))=some r→@den p.sym r=.i .u8 (a5o .u8 (.ofNat (p.nat (64 * s+c)))):=by
     intro hl e
     cases e
     show AV.i .u8 (.ofNat (p.nat (64 * s+c)))=.i .u8 (.ofNat (p.nat (64 * s+c) % 256))
     rw [a1j p s c (by omega) hj,Nat.mod_eq_of_lt hl]
    split at e
    ·rename_i g8
     obtain ⟨d,rfl⟩ : ∃ d,c=d+8:=⟨c - 8,by have:=blT g8;omega⟩
     refine go ?_ e
     rw [aPi _ _ (by omega)]
     exact Nat.mod_lt _ (by decide)
    ·rename_i g8
     have g8:c < 8:=by
      by_cases q:8≤c
      ·rw [Nat.ble_eq_true_of_le q] at g8;cases g8
      ·omega
     split at e
     ·rename_i g9
      simp only [Bool.and_eq_true] at g9
      obtain ⟨q1,q2⟩:=g9
      obtain rfl:=bqT q1
      refine go ?_ e
      rw [aoo _ _ (by omega),Nat.pow_zero,Nat.div_one]
      exact h.one s q2
     ·cases e
      show AV.i .u8 (.ofNat (p.nat (64 * s+c+8)))=.i .u8 (.ofNat (p.nat (64 * s+c) % 256))
      rw [show 64 * s+c+8=64 * s+(c+8) by omega,a1j p s _ (by omega) (by omega),a1j p s c (by omega) hj,aPi _ _ g8,aoo _ _ g8]
 ·exact akh _ rfl e
 ·exact akh _ rfl e
 ·cases e
theorem aba (hq:∀ v w r,p.eqg v w=some r→∃ (k:IntKind) (a b:List Int),v.map (@den p.sym)=a.map (AV.i k)∧w.map (@den p.sym)=b.map (AV.i k)∧decide (a=b)=r):@a0n p.sym:=by
 refine @a0n.mk p.sym (fun op k j k' b r e P t=>aY2 h e P t) (fun k j r e=>b4j h e) (fun op k i k' j r e P t=>?_) (fun op k a k' j r e P t=>?_) (fun i j r e=>ao2 h e) (fun i b r e=>?_) hq
 ·replace e:p.aI2 op k i k' j=some r:=e
  show @agm p.sym P op t (.i k (.ofNat (p.nat i))) (.i k' (.ofNat (p.nat j)))=_
  unfold Pk.aI2 at e
  split at e
  ·cases e
  ·rename_i g
   obtain rfl:=ikT g
   split at e
   ·exact aUu h e P t
   ·exact aRb h e P t
   ·split at e
    ·rename_i r' hr
     cases e
     rw [a98 _ _ _ _ _ (by constructor<;>(intro q;cases q))]
     show some (AV.b (eqI _ _))=some (AV.b r')
     rw [eqE,ao2 h hr]
    ·cases e
   ·split at e
    ·rename_i r' hr
     cases e
     rw [a98 _ _ _ _ _ (by constructor<;>(intro q;cases q))]
     show some (AV.b (!eqI _ _))=some (AV.b (!r'))
     rw [eqE,ao2 h hr]
    ·cases e
   ·exact aji h (by constructor<;>(intro q;cases q)) e P t
   ·exact aji h (by constructor<;>(intro q;cases q)) e P t
   ·exact aji h (by constructor<;>(intro q;cases q)) e P t
   ·exact aji h (by constructor<;>(intro q;cases q)) e P t
   ·cases e
 ·replace e:p.aI1 op k a k' j=some r:=e
  show @agm p.sym P op t (.i k a) (.i k' (.ofNat (p.nat j)))=_
  unfold Pk.aI1 at e
  split at e
  ·cases e
  ·rename_i g
   obtain rfl:=ikT g
   split at e
   ·exact aUt h e P t
   ·exact aRa h e P t
   ·split at e
    ·rename_i g2
     split at e
     ·rename_i r' hr
      cases e
      rw [a9c h g2,a98 _ _ _ _ _ (by constructor<;>(rintro rfl;cases hr)),aQc k hr (h.lo _) (h.hi _)]
      rfl
     ·cases e
    ·cases e
 ·replace e:p.eqc i b=some r:=e
  show (Int.ofNat (p.nat i) == b)=r
  unfold Pk.eqc at e
  split at e
  ·rename_i g
   simp only [Bool.and_eq_true] at g
   have g2:=ag9 g.1
   have g3:=bqT g.2
   obtain ⟨s,rfl⟩ : ∃ s,i=64 * s+0:=⟨i / 64,by omega⟩
   have es:(64 * s+0) / 64=s:=by omega
   rw [es] at e
   have:=ant .i64 e (h.lo s) (h.hi s)
   rw [a1j p s 0 (by omega) g2,aoo _ _ (by omega),Nat.pow_zero,Nat.div_one,← eqE]
   have q:some (AV.b (eqI (Int.ofNat (p.num s)) b))=some (AV.b r):=this
   cases q
   rfl
  ·cases e
end
end Y
end Go.CE
