/-
  The plain mathematics of the digest (SHA-256 on natural numbers below 2^32), as the program computes it. No program in sight.
-/
import Derived.WalkKit
set_option linter.unusedSectionVars false
set_option linter.constructorNameAsVariable false
set_option linter.unusedVariables false
set_option linter.unusedSimpArgs false
namespace Go.Proofs.YtopgdlblfieljaaGreatDoor
namespace Sha

def a7u (x n:Nat):Nat:=(x >>> n) ||| ((x <<< (32 - n)) % 4294967296)
def aCt (x:Nat):Nat:=a7u x 7 ^^^ a7u x 18 ^^^ (x >>> 3)
def aCs (x:Nat):Nat:=a7u x 17 ^^^ a7u x 19 ^^^ (x >>> 10)
def b4w (x:Nat):Nat:=a7u x 2 ^^^ a7u x 13 ^^^ a7u x 22
def b4v (x:Nat):Nat:=a7u x 6 ^^^ a7u x 11 ^^^ a7u x 25
def word (f:Nat→Nat) (i:Nat):Nat:=16777216 * f (4 * i)+65536 * f (4 * i+1)+256 * f (4 * i+2)+f (4 * i+3)
def next (ws:List Nat):Nat :=
 (ws.getD (ws.length - 16) 0+aCt (ws.getD (ws.length - 15) 0)+ws.getD (ws.length - 7) 0+aCs (ws.getD (ws.length - 2) 0)) % 4294967296
def sch (f:Nat→Nat):Nat→List Nat
 | 0=>[]
 | k+1=>sch f k ++ [if k < 16 then word f k else next (sch f k)]
theorem a4u (f:Nat→Nat) (k:Nat):(sch f k).length=k:=by
 induction k with
 | zero=>rfl
 | succ k ih=>simp [sch,ih]
structure St where
 a:Nat
 b:Nat
 c:Nat
 d:Nat
 e:Nat
 f:Nat
 g:Nat
 h:Nat
def St.ok (s:St):Prop:=s.a < 4294967296∧s.b < 4294967296∧s.c < 4294967296∧s.d < 4294967296∧s.e < 4294967296∧s.f < 4294967296∧s.g < 4294967296∧s.h < 4294967296
def K:List Nat:=[
 0x428a2f98,0x71374491,0xb5c0fbcf,0xe9b5dba5,0x3956c25b,0x59f111f1,0x923f82a4,0xab1c5ed5,
 0xd807aa98,0x12835b01,0x243185be,0x550c7dc3,0x72be5d74,0x80deb1fe,0x9bdc06a7,0xc19bf174,
 0xe49b69c1,0xefbe4786,0x0fc19dc6,0x240ca1cc,0x2de92c6f,0x4a7484aa,0x5cb0a9dc,0x76f988da,
 0x983e5152,0xa831c66d,0xb00327c8,0xbf597fc7,0xc6e00bf3,0xd5a79147,0x06ca6351,0x14292967,
 0x27b70a85,0x2e1b2138,0x4d2c6dfc,0x53380d13,0x650a7354,0x766a0abb,0x81c2c92e,0x92722c85,
 0xa2bfe8a1,0xa81a664b,0xc24b8b70,0xc76c51a3,0xd192e819,0xd6990624,0xf40e3585,0x106aa070,
 0x19a4c116,0x1e376c08,0x2748774c,0x34b0bcb5,0x391c0cb3,0x4ed8aa4a,0x5b9cca4f,0x682e6ff3,
 0x748f82ee,0x78a5636f,0x84c87814,0x8cc70208,0x90befffa,0xa4506ceb,0xbef9a3f7,0xc67178f2]
def rx (s:St) (k w:Nat):Nat:=(s.h+b4v s.e+((s.e &&& s.f) ^^^ ((4294967295 - s.e) &&& s.g))+k+w) % 4294967296
def ry (s:St):Nat:=(b4w s.a+((s.a &&& s.b) ^^^ (s.a &&& s.c) ^^^ (s.b &&& s.c))) % 4294967296
def rnd (s:St) (k w:Nat):St:=⟨(rx s k w+ry s) % 4294967296,s.a,s.b,s.c,(s.d+rx s k w) % 4294967296,s.e,s.f,s.g⟩
def ac9 (ws:List Nat) (s:St):Nat→St
 | 0=>s
 | n+1=>rnd (ac9 ws s n) (K.getD n 0) (ws.getD n 0)
def St.add (s t:St):St:=⟨(s.a+t.a) % 4294967296,(s.b+t.b) % 4294967296,(s.c+t.c) % 4294967296,(s.d+t.d) % 4294967296,(s.e+t.e) % 4294967296,(s.f+t.f) % 4294967296,(s.g+t.g) % 4294967296,(s.h+t.h) % 4294967296⟩
def comp (s:St) (f:Nat→Nat):St:=s.add (ac9 (sch f 64) s 64)
theorem aTq (s:St) (k w:Nat) (h:s.ok):(rnd s k w).ok:=by
 obtain ⟨ha,hb,hc,hd,he,hf,hg,hh⟩:=h
 exact ⟨Nat.mod_lt _ (by decide),ha,hb,hc,Nat.mod_lt _ (by decide),he,hf,hg⟩
theorem axe (ws:List Nat) (s:St) (h:s.ok) (n:Nat):(ac9 ws s n).ok:=by
 induction n with
 | zero=>exact h
 | succ n ih=>exact aTq _ _ _ ih
theorem aY8 (s t:St):(s.add t).ok:=⟨Nat.mod_lt _ (by decide),Nat.mod_lt _ (by decide),Nat.mod_lt _ (by decide),Nat.mod_lt _ (by decide),Nat.mod_lt _ (by decide),Nat.mod_lt _ (by decide),Nat.mod_lt _ (by decide),Nat.mod_lt _ (by decide)⟩
end Sha
end Go.Proofs.YtopgdlblfieljaaGreatDoor
namespace Go.Proofs.YtopgdlblfieljaaGreatDoor
theorem a94 (n:Nat) (h:n < 4294967296):IntKind.u32.wrap (n:Int)=(n:Int):=by rw [IntKind.wrap_u32];omega
theorem aej (n:Nat):IntKind.u8.wrap (n:Int)=((n % 256:Nat):Int):=by rw [IntKind.wrap_u8];omega
theorem a5z (w n:Nat):BitVec.ofInt w (n:Int)=BitVec.ofNat w n:=by simp
theorem a7a (x y:Nat) (hx:x < 4294967296) (hy:y < 4294967296):bits BinOp.or .u32 (x:Int) (y:Int)=((x ||| y:Nat):Int):=by
 have h:(x ||| y) < 2 ^ 32:=Nat.or_lt_two_pow (by simpa using hx) (by simpa using hy)
 show IntKind.u32.wrap (((BitVec.ofInt 32 (x:Int)) ||| (BitVec.ofInt 32 (y:Int))).toNat:Int)=_
 rw [a5z,a5z,BitVec.toNat_or,BitVec.toNat_ofNat,BitVec.toNat_ofNat]
 rw [Nat.mod_eq_of_lt (by simpa using hx),Nat.mod_eq_of_lt (by simpa using hy)]
 exact a94 _ (by simpa using h)
theorem a6b (x y:Nat) (hx:x < 4294967296) (hy:y < 4294967296):bits BinOp.and .u32 (x:Int) (y:Int)=((x &&& y:Nat):Int):=by
 have h:(x &&& y) < 2 ^ 32:=Nat.and_lt_two_pow x (by simpa using hy)
 show IntKind.u32.wrap (((BitVec.ofInt 32 (x:Int)) &&& (BitVec.ofInt 32 (y:Int))).toNat:Int)=_
 rw [a5z,a5z,BitVec.toNat_and,BitVec.toNat_ofNat,BitVec.toNat_ofNat]
 rw [Nat.mod_eq_of_lt (by simpa using hx),Nat.mod_eq_of_lt (by simpa using hy)]
 exact a94 _ (by simpa using h)
theorem a1n (x y:Nat) (hx:x < 4294967296) (hy:y < 4294967296):bits BinOp.xor .u32 (x:Int) (y:Int)=((x ^^^ y:Nat):Int):=by
 have h:(x ^^^ y) < 2 ^ 32:=Nat.xor_lt_two_pow (by simpa using hx) (by simpa using hy)
 show IntKind.u32.wrap (((BitVec.ofInt 32 (x:Int)) ^^^ (BitVec.ofInt 32 (y:Int))).toNat:Int)=_
 rw [a5z,a5z,BitVec.toNat_xor,BitVec.toNat_ofNat,BitVec.toNat_ofNat]
 rw [Nat.mod_eq_of_lt (by simpa using hx),Nat.mod_eq_of_lt (by simpa using hy)]
 exact a94 _ (by simpa using h)
theorem apo (x y:Nat) (hx:x < 256) (hy:y < 256):bits BinOp.xor .u8 (x:Int) (y:Int)=((x ^^^ y:Nat):Int):=by
 have h:(x ^^^ y) < 2 ^ 8:=Nat.xor_lt_two_pow (by simpa using hx) (by simpa using hy)
 show IntKind.u8.wrap (((BitVec.ofInt 8 (x:Int)) ^^^ (BitVec.ofInt 8 (y:Int))).toNat:Int)=_
 rw [a5z,a5z,BitVec.toNat_xor,BitVec.toNat_ofNat,BitVec.toNat_ofNat]
 rw [Nat.mod_eq_of_lt (by simpa using hx),Nat.mod_eq_of_lt (by simpa using hy)]
 rw [aej,Nat.mod_eq_of_lt (by simpa using h)]
theorem ay2 (x y s:Nat) (hy:y < 2 ^ s):(x * 2 ^ s) ||| y=x * 2 ^ s+y:=by
 rw [← Nat.shiftLeft_eq,← Nat.shiftLeft_add_eq_or_of_lt hy]
theorem aMv (a b c d:Nat) (ha:a < 256) (hb:b < 256) (hc:c < 256) (hd:d < 256) :
  bits BinOp.or .u32 (bits BinOp.or .u32 (bits BinOp.or .u32 ((a:Int) % 4294967296 * 16777216 % 4294967296) ((b:Int) % 4294967296 * 65536 % 4294967296)) ((c:Int) % 4294967296 * 256 % 4294967296)) ((d:Int) % 4294967296)
   = ((16777216 * a+65536 * b+256 * c+d:Nat):Int):=by
 have e1:((a:Int) % 4294967296 * 16777216 % 4294967296)=((a * 16777216:Nat):Int):=by omega
 have e2:((b:Int) % 4294967296 * 65536 % 4294967296)=((b * 65536:Nat):Int):=by omega
 have e3:((c:Int) % 4294967296 * 256 % 4294967296)=((c * 256:Nat):Int):=by omega
 have e4:((d:Int) % 4294967296)=(d:Int):=by omega
 have o1:(a * 16777216) ||| (b * 65536)=a * 16777216+b * 65536:=ay2 a (b * 65536) 24 (by omega)
 have o2:(a * 16777216+b * 65536) ||| (c * 256)=a * 16777216+b * 65536+c * 256:=by
  have:=ay2 (a * 256+b) (c * 256) 16 (by omega)
  have e:(a * 256+b) * 2 ^ 16=a * 16777216+b * 65536:=by omega
  rwa [e] at this
 have o3:(a * 16777216+b * 65536+c * 256) ||| d=a * 16777216+b * 65536+c * 256+d:=by
  have:=ay2 (a * 65536+b * 256+c) d 8 (by omega)
  have e:(a * 65536+b * 256+c) * 2 ^ 8=a * 16777216+b * 65536+c * 256:=by omega
  rwa [e] at this
 rw [e1,e2,e3,e4,a7a _ _ (by omega) (by omega),o1,a7a _ _ (by omega) (by omega),o2,a7a _ _ (by omega) (by omega),o3]
 congr 1;omega
theorem aym (x:Nat) (hx:x < 4294967296):bits BinOp.xor .u32 (if IntKind.u32.signed=true then -1 else IntKind.u32.max) (x:Int)=((4294967295 - x:Nat):Int):=by
 have e1:(if IntKind.u32.signed=true then (-1:Int) else IntKind.u32.max)=((4294967295:Nat):Int):=by decide
 rw [e1,a1n _ _ (by decide) hx]
 have e2:4294967295 ^^^ x=4294967295 - x:=by
  apply Nat.eq_of_testBit_eq
  intro i
  have h1:(4294967295:Nat)=2 ^ 32 - 1:=rfl
  have h2:(4294967295 - x:Nat)=2 ^ 32 - (x+1):=by omega
  rw [Nat.testBit_xor,h2,Nat.testBit_two_pow_sub_succ (by simpa using hx),h1,Nat.testBit_two_pow_sub_one]
  by_cases hi:i < 32
  ·simp [hi]
  ·have:x.testBit i=false:=Nat.testBit_lt_two_pow (Nat.lt_of_lt_of_le (by simpa using hx:x < 2 ^ 32) (Nat.pow_le_pow_right (by decide) (by omega)))
   simp [hi,this]
 rw [e2]
end Go.Proofs.YtopgdlblfieljaaGreatDoor
