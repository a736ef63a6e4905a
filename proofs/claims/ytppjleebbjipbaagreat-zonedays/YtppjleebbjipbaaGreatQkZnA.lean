/-
  Calendars and zones as plain data.
-/

set_option linter.all false
namespace Zn
structure LR where
 every:Int
 rest:Int
 yes:Bool
 deriving DecidableEq,Inhabited
structure Cal where
 a08:Int
 a0g:List Int
 a0l:Int
 rules:List LR
 deriving DecidableEq,Inhabited
structure Tr where
 tm:Int
 off:Int
 deriving DecidableEq,Inhabited
structure YR where
 mon:Int
 wk:Int
 wd:Int
 mn:Int
 off:Int
 deriving DecidableEq,Inhabited
structure a0w where
 cal:Cal
 start:Int
 trans:List Tr
 hor:Int
 a0b:List YR
 deriving DecidableEq,Inhabited
def LR.ok (r:LR):Bool:=decide (1≤r.every)&&(decide (r.every≤400)&&(decide (0≤r.rest)&&decide (r.rest < r.every)))
def period:Nat→List LR→Option Nat
 | y,[]=>some y
 | y,r :: rs=>if r.ok=true∧Nat.lcm y r.every.toNat≤400 then period (Nat.lcm y r.every.toNat) rs else none
theorem a3e (y:Nat) (r:LR) (rs:List LR):period y (r :: rs)=if r.ok=true∧Nat.lcm y r.every.toNat≤400 then period (Nat.lcm y r.every.toNat) rs else none:=rfl
theorem aa8:∀ {rs:List LR} {y n:Nat},period y rs=some n→1≤y→y≤400→1≤n∧n≤400
 | [],y,n,h,h1,h2=>by cases h;exact ⟨h1,h2⟩
 | r :: rs,y,n,h,h1,h2=>by
  rw [a3e] at h
  split at h
  ·rename_i hc
   have h0:1≤r.every.toNat:=by
    have:=hc.1
    simp only [LR.ok,Bool.and_eq_true,decide_eq_true_eq] at this
    omega
   exact aa8 h (Nat.lcm_pos h1 h0) hc.2
  ·cases h
theorem adh:∀ {rs:List LR} {y n:Nat},period y rs=some n→∀ r∈rs,r.ok=true
 | [],_,_,_,r,hr=>by cases hr
 | r :: rs,y,n,h,x,hx=>by
  rw [a3e] at h
  split at h
  ·rename_i hc
   rcases List.mem_cons.1 hx with rfl | hx
   ·exact hc.1
   ·exact adh h x hx
  ·cases h
def a2p (n:Int):Bool:=decide (1≤n)&&decide (n≤40)
structure Cal.Hd (c:Cal):Prop where
 e0:0≤c.a08
 e1:c.a08≤1048576
 m1:1≤c.a0g.length
 m16:c.a0g.length≤16
 l0 : -1≤c.a0l
 l1:c.a0l < c.a0g.length
 r16:c.rules.length≤16
 lr:c.a0l = -1→c.rules.length=0
instance (c:Cal):Decidable c.Hd :=
 decidable_of_iff (0≤c.a08∧c.a08≤1048576∧1≤c.a0g.length∧c.a0g.length≤16∧-1≤c.a0l∧c.a0l < c.a0g.length∧c.rules.length≤16∧(c.a0l = -1→c.rules.length=0))
  ⟨fun ⟨a,b,d,e,f,g,h,i⟩=>⟨a,b,d,e,f,g,h,i⟩,fun h=>⟨h.e0,h.e1,h.m1,h.m16,h.l0,h.l1,h.r16,h.lr⟩⟩
def Cal.ok (c:Cal):Bool:=decide c.Hd&&(c.a0g.all a2p&&(period 1 c.rules).isSome)
def a3m (rs:List LR) (y:Int):Bool:=rs.foldl (fun b r=>if y % r.every=r.rest then r.yes else b) false
theorem ah8 (rs:List LR) (r:LR) (y:Int):a3m (rs ++ [r]) y=if y % r.every=r.rest then r.yes else a3m rs y:=by
 unfold a3m
 rw [List.foldl_append]
 rfl
def a97 (c:Cal) (y:Int) (m:Nat):Int:=c.a0g.getD m 0+(if (m:Int)=c.a0l∧a3m c.rules y=true then 1 else 0)
def a6z (c:Cal) (y:Int):Nat→Int
 | 0=>0
 | m+1=>a6z c y m+a97 c y m
def a4f (c:Cal) (y:Int):Int:=a6z c y c.a0g.length
def a0z (c:Cal):Nat→Int
 | 0=>0
 | n+1=>a0z c n+a4f c (n+1)
def Cal.a5b (c:Cal):Nat:=(period 1 c.rules).getD 0
def Cal.days (c:Cal):Int:=a0z c c.a5b
theorem a5s {c:Cal} (h:c.a0g.all a2p=true) (y:Int) {m:Nat} (hm:m < c.a0g.length):1≤a97 c y m∧a97 c y m≤41:=by
 have h1:=List.all_eq_true.1 h (c.a0g.getD m 0) (by rw [List.getD_eq_getElem?_getD,List.getElem?_eq_getElem hm];exact List.getElem_mem hm)
 simp only [a2p,Bool.and_eq_true,decide_eq_true_eq] at h1
 unfold a97
 split<;>omega
theorem a8q {c:Cal} (h:c.a0g.all a2p=true) (y:Int):∀ (m:Nat),m≤c.a0g.length→(m:Int)≤a6z c y m∧a6z c y m≤41 * m
 | 0,_=>by simp [a6z]
 | m+1,hm=>by
  have h1:=a8q h y m (by omega)
  have h2:=a5s h y (show m < c.a0g.length by omega)
  unfold a6z
  omega
theorem a5p {c:Cal} (h:c.ok=true) (y:Int):1≤a4f c y∧a4f c y≤656:=by
 simp only [Cal.ok,Bool.and_eq_true,decide_eq_true_eq] at h
 have h1:=a8q h.2.1 y c.a0g.length (Nat.le_refl _)
 have h2:=h.1.m1
 have h3:=h.1.m16
 unfold a4f
 omega
theorem a1v {c:Cal} (h:c.ok=true):∀ n:Nat,(n:Int)≤a0z c n∧a0z c n≤656 * n
 | 0=>by simp [a0z]
 | n+1=>by
  have h1:=a1v h n
  have h2:=a5p h (n+1)
  unfold a0z
  omega
end Zn
