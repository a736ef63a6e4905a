/-
  The laws of letter.Bytes, letter.Read, letter.Valid on known letters without a series.
-/
import Derived.Test.YtlnlbdfokmhelaaGreatDoorPkLn
import Derived.Test.YtlnlbdfokmhelaaGreatDoorPkTab
set_option linter.unusedSectionVars false
set_option linter.constructorNameAsVariable false
set_option linter.unusedVariables false
set_option linter.unusedSimpArgs false
namespace Go.CE
namespace V
open Go.Proofs Go.Proofs.YtlnlbdfokmhelaaGreatDoor Go.RowKit
structure NL where
 kind:Nat
 frm:Nat
 dst:Nat
 mtg:Nat
 res:Nat
 dl:Nat
 st:Nat
 cs:List Nat
 ref:List Nat
def NL.ln (x:NL):LN:=⟨x.kind,x.frm,x.dst,x.mtg,x.res,x.dl,x.st,x.cs,x.ref.map UInt8.ofNat⟩
def aZ6:List Nat→Bool
 | []=>true
 | a :: l=>(match l with
  | []=>true
  | b :: _=>Nat.blt a b)&&aZ6 l
def aB3 (b:Nat):List Nat→Bool
 | []=>true
 | a :: l=>Nat.blt a b&&aB3 b l
def aR7:List Nat→Bool
 | []=>true
 | a :: l=>Nat.beq a 0&&aR7 l
def aWi:List Nat→Nat→Bool
 | [],n=>Nat.beq n 0
 | _ :: l,n=>match n with
  | 0=>false
  | n+1=>aWi l n
def NL.kOk (x:NL):Bool:=match x.kind with
 | 8=>Nat.beq x.res 0&&(Nat.beq x.st 0&&aR7 x.ref)
 | 9=>Nat.beq x.st 0
 | 10=>Nat.beq x.dl 0
 | 11=>Nat.beq x.res 0&&Nat.beq x.dl 0
 | 12=>Nat.beq x.res 0&&Nat.beq x.dl 0
 | 13=>Nat.beq x.res 0&&(Nat.beq x.dl 0&&(Nat.beq x.st 0&&aR7 x.ref))
 | 14=>Nat.beq x.res 0&&(Nat.beq x.dl 0&&Nat.ble x.st 5)
 | 18=>Nat.beq x.res 0&&(Nat.beq x.dl 0&&(Nat.beq x.st 0&&aWi x.cs 0))
 | _=>false
def NL.ok (x:NL):Bool:=x.kOk&&(Nat.blt x.frm 16&&(Nat.blt x.dst 16&&(!Nat.beq x.frm x.dst&&(Nat.ble 1 x.mtg&&(Nat.ble x.mtg 1099511627776&&(Nat.ble x.res 255&&(Nat.ble x.dl 2251799813685248&&(Nat.ble x.st 18&&(aB3 16 x.cs&&(aZ6 x.cs&&(Nat.ble (am3 x.cs) 4&&(aWi x.ref 32&&(aB3 256 x.ref&&shB x.kind (am3 x.cs))))))))))))))
where am3:List Nat→Nat
 | []=>0
 | _ :: l=>am3 l+1
theorem abu:∀ l,NL.ok.am3 l=l.length
 | []=>rfl
 | _ :: l=>by simp [NL.ok.am3,abu l]
theorem aow:∀ {l:List Nat} {n:Nat},aWi l n=true→l.length=n
 | [],n,h=>(Nat.eq_of_beq_eq_true h).symm
 | _ :: l,0,h=>by simp [aWi] at h
 | _ :: l,n+1,h=>by simp [aow (l:=l) (n:=n) h]
theorem ak7 {b:Nat}:∀ {l:List Nat},aB3 b l=true→∀ c∈l,c < b
 | [],_,c,h=>by cases h
 | a :: l,h,c,hc=>by
  simp only [aB3,Bool.and_eq_true] at h
  rcases List.mem_cons.1 hc with rfl | hc
  ·exact Nat.le_of_ble_eq_true h.1
  ·exact ak7 h.2 c hc
theorem aB2:∀ {l:List Nat},aR7 l=true→l=List.replicate l.length 0
 | [],_=>rfl
 | a :: l,h=>by
  simp only [aR7,Bool.and_eq_true] at h
  have:=Nat.eq_of_beq_eq_true h.1
  subst this
  rw [List.length_cons,List.replicate_succ,← aB2 h.2]
theorem axf:∀ {l:List Nat},aZ6 l=true→l.Pairwise (· < ·)
 | [],_=>.nil
 | a :: l,h=>by
  simp only [aZ6,Bool.and_eq_true] at h
  have ih:=axf h.2
  refine .cons (fun c hc=>?_) ih
  cases l with
  | nil=>cases hc
  | cons b l =>
   have h1:a < b:=Nat.le_of_ble_eq_true h.1
   rcases List.mem_cons.1 hc with rfl | hc
   ·exact h1
   ·exact Nat.lt_trans h1 ((List.pairwise_cons.1 ih).1 c hc)
theorem NL.adt {x:NL} (h:x.ok=true):x.ln.Ok∧∀ n∈x.ref,n < 256:=by
 unfold NL.ok at h
 simp only [Bool.and_eq_true] at h
 obtain ⟨hk,h1,h2,h3,h4,h5,h6,h7,h8,h9,h10,h11,h12,h13,h14⟩:=h
 have hlen:x.ref.length=32:=aow h12
 have hz:aR7 x.ref=true→x.ln.ref=asj:=fun e=>by
  show x.ref.map UInt8.ofNat=asj
  rw [aB2 e,hlen]
  rfl
 have hh:(x.kind=8∨x.kind=9∨x.kind=10∨x.kind=11∨x.kind=12∨x.kind=13∨x.kind=14∨x.kind=18)∧(x.kind≠9→x.kind≠10→x.res=0)∧(x.kind≠8→x.kind≠9→x.dl=0)∧(x.kind=14→x.st≤5)∧(x.kind=8∨x.kind=9∨x.kind=13∨x.kind=18→x.st=0)∧(x.kind=18→x.cs = [])∧(x.kind=8∨x.kind=13→aR7 x.ref=true):=by
  unfold NL.kOk at hk
  split at hk<;>first | (cases hk;done) | skip
  all_goals
   rename_i e
   try simp only [Bool.and_eq_true] at hk
   rw [e]
  ·exact ⟨by decide,fun _ _=>Nat.eq_of_beq_eq_true hk.1,fun q=>absurd rfl q,(fun q=>absurd q (by decide)),fun _=>Nat.eq_of_beq_eq_true hk.2.1,(fun q=>absurd q (by decide)),fun _=>hk.2.2⟩
  ·exact ⟨by decide,fun q=>absurd rfl q,fun _ q=>absurd rfl q,(fun q=>absurd q (by decide)),fun _=>Nat.eq_of_beq_eq_true hk,(fun q=>absurd q (by decide)),(fun q=>absurd q (by decide))⟩
  ·exact ⟨by decide,fun _ q=>absurd rfl q,fun _ _=>Nat.eq_of_beq_eq_true hk,(fun q=>absurd q (by decide)),(fun q=>absurd q (by decide)),(fun q=>absurd q (by decide)),(fun q=>absurd q (by decide))⟩
  ·exact ⟨by decide,fun _ _=>Nat.eq_of_beq_eq_true hk.1,fun _ _=>Nat.eq_of_beq_eq_true hk.2,(fun q=>absurd q (by decide)),(fun q=>absurd q (by decide)),(fun q=>absurd q (by decide)),(fun q=>absurd q (by decide))⟩
  ·exact ⟨by decide,fun _ _=>Nat.eq_of_beq_eq_true hk.1,fun _ _=>Nat.eq_of_beq_eq_true hk.2,(fun q=>absurd q (by decide)),(fun q=>absurd q (by decide)),(fun q=>absurd q (by decide)),(fun q=>absurd q (by decide))⟩
  ·exact ⟨by decide,fun _ _=>Nat.eq_of_beq_eq_true hk.1,fun _ _=>Nat.eq_of_beq_eq_true hk.2.1,(fun q=>absurd q (by decide)),fun _=>Nat.eq_of_beq_eq_true hk.2.2.1,(fun q=>absurd q (by decide)),fun _=>hk.2.2.2⟩
  ·exact ⟨by decide,fun _ _=>Nat.eq_of_beq_eq_true hk.1,fun _ _=>Nat.eq_of_beq_eq_true hk.2.1,fun _=>Nat.le_of_ble_eq_true hk.2.2,(fun q=>absurd q (by decide)),(fun q=>absurd q (by decide)),(fun q=>absurd q (by decide))⟩
  ·exact ⟨by decide,fun _ _=>Nat.eq_of_beq_eq_true hk.1,fun _ _=>Nat.eq_of_beq_eq_true hk.2.1,(fun q=>absurd q (by decide)),fun _=>Nat.eq_of_beq_eq_true hk.2.2.1,fun _=>List.eq_nil_of_length_eq_zero (aow hk.2.2.2),(fun q=>absurd q (by decide))⟩
 obtain ⟨q1,q2,q3,q4,q5,q6,q7⟩:=hh
 refine ⟨⟨q1,Nat.le_of_ble_eq_true h1,Nat.le_of_ble_eq_true h2,fun e=>?_,Nat.le_of_ble_eq_true h4,Nat.le_of_ble_eq_true h5,Nat.le_of_ble_eq_true h6,q2,Nat.le_of_ble_eq_true h7,q3,Nat.le_of_ble_eq_true h8,q4,q5,ak7 h9,axf h10,?_,q6,?_,fun e=>hz (q7 e),by rw [abu] at h14;exact h14⟩,ak7 h13⟩
 ·have e:x.frm=x.dst:=e
  rw [e,Nat.beq_refl] at h3;cases h3
 ·have:=Nat.le_of_ble_eq_true h11
  rw [abu] at this;exact this
 ·show (x.ref.map UInt8.ofNat).length=32
  rw [List.length_map];exact hlen
def NL.hd (x:NL):List Nat:=x.kind :: x.frm :: x.dst :: am4 x.mtg
def NL.cl (x:NL):List Nat:=NL.ok.am3 x.cs :: 0 :: 0 :: 0 :: x.cs
def z8N:List Nat:=[0,0,0,0,0,0,0,0]
def NL.enc (x:NL):List Nat:=match x.kind with
 | 8=>x.hd++(z8N++(z8N++(z8N++([0,0,0,0]++(am4 x.dl++(z8N++x.cl))))))
 | 9=>x.hd++(am4 x.res++(am4 x.dl++(x.cl++x.ref)))
 | 10=>x.hd++(am4 x.res++(am4 x.st++(x.cl++x.ref)))
 | 13=>x.hd++x.cl
 | 18=>x.hd++x.ref
 | _=>x.hd++(am4 x.st++(x.cl++x.ref))
theorem a3w (l m:List UInt8):a0j (l++m)=a0j l++a0j m:=by simp [a0j]
theorem NL.aea {x:NL} (h:x.ok=true):a0j x.ln.enc=x.enc:=by
 obtain ⟨hok,hr⟩:=NL.adt h
 have hb:∀ n:Nat,n < 256→(UInt8.ofNat n).toNat=n:=fun n hn=>by simp;omega
 have hk:x.kind < 256:=by have:x.ln.kind < 256:=(by rcases hok.kd with e | e | e | e | e | e | e | e<;>omega);exact this
 have h1:x.frm < 16:=hok.frm
 have h2:x.dst < 16:=hok.dst
 have h3:x.cs.length≤4:=hok.len
 have e1:a0j x.ln.hd=x.hd:=by
  unfold LN.hd NL.hd
  rw [a3w,ae5]
  show [(UInt8.ofNat x.kind).toNat,(UInt8.ofNat x.frm).toNat,(UInt8.ofNat x.dst).toNat]++am4 x.mtg=_
  rw [hb _ hk,hb _ (by omega),hb _ (by omega)]
  rfl
 have e2:a0j (cl8 x.ln.cs)=x.cl:=by
  unfold cl8 NL.cl
  rw [a3w]
  show [(UInt8.ofNat x.cs.length).toNat,0,0,0]++a0j (x.cs.map UInt8.ofNat)=_
  rw [hb _ (by omega),abq x.cs (fun n hn=>by have:n < 16:=hok.cs n hn;omega),abu]
  rfl
 have e3:a0j x.ln.ref=x.ref:=abq x.ref hr
 have e4:a0j z8b=z8N:=rfl
 have e5:a0j [0,0,0,0] = [0,0,0,0]:=rfl
 have ek:x.ln.kind=x.kind:=rfl
 have er:x.ln.res=x.res:=rfl
 have ed:x.ln.dl=x.dl:=rfl
 have es:x.ln.st=x.st:=rfl
 unfold LN.enc NL.enc
 rw [ek]
 have hkd:x.kind=8∨x.kind=9∨x.kind=10∨x.kind=11∨x.kind=12∨x.kind=13∨x.kind=14∨x.kind=18:=hok.kd
 rcases hkd with e | e | e | e | e | e | e | e<;>simp only [e]<;>simp only [a3w,e1,e2,e3,e4,e5,ae5,er,ed,es]
def tmpl:List Nat:=[1,1,1,1,0,0,0,0,0,1,0,0,0,2,0,0,0,3,0,0,4,0,0,3,1,1,0,0,0]
def aIr:List Nat→List AV→Option (List Nat)
 | [],_=>some []
 | 0 :: t,.i .i64 (.ofNat 0) :: l=>aIr t l
 | 1 :: t,.i .i64 (.ofNat n) :: l=>match aIr t l with
  | some r=>some (n :: r)
  | none=>none
 | 2 :: t,.b false :: l=>aIr t l
 | 3 :: t,.sl none 0 0 :: l=>aIr t l
 | 4 :: t,.s [] :: l=>aIr t l
 | _,_=>none
def aab:List Nat→List Nat→List AV
 | [],_=>[]
 | 0 :: t,r=>.i .i64 (.ofNat 0) :: aab t r
 | 1 :: t,r=>.i .i64 (.ofNat (r.getD 0 0)) :: aab t (r.drop 1)
 | 2 :: t,r=>.b false :: aab t r
 | 3 :: t,r=>.sl none 0 0 :: aab t r
 | _ :: t,r=>.s [] :: aab t r
theorem axd:∀ (t:List Nat) (l:List AV) (r:List Nat),aIr t l=some r→l.take t.length=aab t r:=by
 intro t
 induction t with
 | nil=>intro l r _;rfl
 | cons a t ih =>
  intro l r h
  unfold aIr at h
  split at h
  ·rename_i heq
   cases heq
  ·rename_i t' l' heq
   cases heq
   simp only [List.length_cons,List.take_succ_cons,aab,ih _ _ h]
  ·rename_i t' n l' heq
   cases heq
   split at h
   ·rename_i r' hr
    cases h
    simp only [List.length_cons,List.take_succ_cons,aab,ih _ _ hr,List.getD_cons_zero,List.drop_succ_cons,List.drop_zero]
   ·cases h
  ·rename_i t' l' heq
   cases heq
   simp only [List.length_cons,List.take_succ_cons,aab,ih _ _ h]
  ·rename_i t' l' heq
   cases heq
   simp only [List.length_cons,List.take_succ_cons,aab,ih _ _ h]
  ·rename_i t' l' heq
   cases heq
   simp only [List.length_cons,List.take_succ_cons,aab,ih _ _ h]
  ·cases h
end V
end Go.CE
namespace Go.CE
namespace V
open Go.Proofs Go.Proofs.YtlnlbdfokmhelaaGreatDoor Go.RowKit
section
variable [Sym]
def aGx:List AV→Option (List Nat)
 | []=>some []
 | .i .i64 (.ofNat n) :: l=>match aGx l with
  | some r=>some (n :: r)
  | none=>none
 | _=>none
def ap4 (n:Nat):AV:=.i .i64 (.ofNat n)
theorem aGw:∀ {l:List AV} {r:List Nat},aGx l=some r→l=r.map ap4:=by
 intro l
 induction l with
 | nil=>intro r h;cases h;rfl
 | cons a l ih =>
  intro r h
  unfold aGx at h
  split at h
  ·rename_i heq;cases heq
  ·rename_i n l' heq
   cases heq
   split at h
   ·rename_i r' hr
    cases h
    rw [ih hr];rfl
   ·cases h
  ·cases h
def nlA (cs:List AV) (l:List AV):Option NL:=match aIr tmpl cs,aGx l,a4c (cs.drop 30) with
 | some [kd,fr,ds,mt,rs,dl,st],some c,some b=>some ⟨kd,fr,ds,mt,rs,dl,st,c,b⟩
 | _,_,_=>none
def a7c (x:NL) (c:AV):List AV:=aab tmpl [x.kind,x.frm,x.dst,x.mtg,x.res,x.dl,x.st]++c :: x.ref.map a3m
theorem ar2 {cs l:List AV} {x:NL} {c:AV} (h:nlA cs l=some x) (hc:cs[29]? = some c):cs=a7c x c∧l=x.cs.map ap4∧∀ n∈x.ref,n < 256:=by
 unfold nlA at h
 split at h
 ·rename_i kd fr ds mt rs dl st cc b h1 h2 h3
  cases h
  have e1:=axd tmpl cs _ h1
  have e2:=aGw h2
  obtain ⟨e3,e4⟩:=a6z h3
  refine ⟨?_,e2,e4⟩
  have hlt:29 < cs.length:=(List.getElem?_eq_some_iff.1 hc).1
  have hg:cs[29]=c:=(List.getElem?_eq_some_iff.1 hc).2
  have e5:cs=cs.take 29++cs[29] :: cs.drop 30:=by
   rw [← List.drop_eq_getElem_cons hlt,List.take_append_drop]
  rw [e5,hg,e3]
  show cs.take 29++_=_
  have e1:cs.take 29=aab tmpl [kd,fr,ds,mt,rs,dl,st]:=e1
  rw [e1]
  rfl
 ·cases h
def cellV:AV→X (List AV)
 | .sl none n c=>CE.bnd (CE.chk (Nat.beq n 0&&Nat.beq c 0)) fun _=>CE.ret []
 | .se=>CE.ret []
 | .sl (some (k,o)) n _=>CE.bnd (CE.chk (gw k&&Nat.ble 1 n)) fun _=>CE.bnd (rdT k) fun T=>CE.bnd (CE.chk (Nat.beq T 3)) fun _=>rdK k o n
 | _=>CE.fail
def a8n (cs:List AV):X (List AV):=CE.bnd (CE.lift (cs[29]? : Option AV)) cellV
theorem aAk (v:AV):Loc (cellV v):=by
 unfold cellV
 split
 ·exact Loc.bnd (Loc.chk _) fun _=>Loc.ret _
 ·exact Loc.ret _
 ·exact Loc.bnd (Loc.chk _) fun _=>Loc.bnd (Loc.rdT _) fun _=>Loc.bnd (Loc.chk _) fun _=>Loc.rdK _ _ _
 ·exact Loc.fail
theorem ac2 (cs:List AV):Loc (a8n cs):=Loc.bnd (Loc.lift _) fun _=>aAk _
def ag8:List AV→X AV:=fun args=>match args with
 | [.g cs]=>CE.bnd (a8n cs) fun l=>CE.bnd (CE.lift (nlA cs l)) fun x=>CE.bnd (CE.chk x.ok) fun _=>CE.bnd (a4o true (.cells (x.enc.map a3m) 5)) fun k=>CE.ret (.t [.sl (some (k,0)) x.enc.length x.enc.length,.i .i64 (.ofNat 0)])
 | _=>CE.fail
def aen:List AV→X AV:=fun args=>match args with
 | [.g cs]=>CE.bnd (a8n cs) fun l=>CE.bnd (CE.lift (nlA cs l)) fun x=>CE.bnd (CE.chk x.ok) fun _=>CE.ret (.i .i64 (.ofNat 0))
 | _=>CE.fail
theorem av1 (x:List AV):Loc (ag8 x):=by
 unfold ag8
 split
 ·exact Loc.bnd (ac2 _) fun _=>Loc.bnd (Loc.lift _) fun _=>Loc.bnd (Loc.chk _) fun _=>Loc.bnd (Loc.a4o _ _) fun _=>Loc.ret _
 ·exact Loc.fail
theorem ass (x:List AV):Loc (aen x):=by
 unfold aen
 split
 ·exact Loc.bnd (ac2 _) fun _=>Loc.bnd (Loc.lift _) fun _=>Loc.bnd (Loc.chk _) fun _=>Loc.ret _
 ·exact Loc.fail
def at8 (l:List Nat):Nat:=l.getD 0 0+256 * (l.getD 1 0+256 * (l.getD 2 0+256 * (l.getD 3 0+256 * (l.getD 4 0+256 * (l.getD 5 0+256 * (l.getD 6 0+256 * l.getD 7 0))))))
def akc (l:List Nat):NL:=match l.getD 0 0 with
 | 8=>⟨8,l.getD 1 0,l.getD 2 0,at8 (l.drop 3),0,at8 (l.drop 39),0,(l.drop 59).take (l.getD 55 0),List.replicate 32 0⟩
 | 9=>⟨9,l.getD 1 0,l.getD 2 0,at8 (l.drop 3),at8 (l.drop 11),at8 (l.drop 19),0,(l.drop 31).take (l.getD 27 0),l.drop (31+l.getD 27 0)⟩
 | 10=>⟨10,l.getD 1 0,l.getD 2 0,at8 (l.drop 3),at8 (l.drop 11),0,at8 (l.drop 19),(l.drop 31).take (l.getD 27 0),l.drop (31+l.getD 27 0)⟩
 | 13=>⟨13,l.getD 1 0,l.getD 2 0,at8 (l.drop 3),0,0,0,(l.drop 15).take (l.getD 11 0),List.replicate 32 0⟩
 | 18=>⟨18,l.getD 1 0,l.getD 2 0,at8 (l.drop 3),0,0,0,[],l.drop 11⟩
 | k=>⟨k,l.getD 1 0,l.getD 2 0,at8 (l.drop 3),0,0,at8 (l.drop 11),(l.drop 23).take (l.getD 19 0),l.drop (23+l.getD 19 0)⟩
def NL.b2f (x:NL):Bool:=match x.kind,x.cs with
 | 8,[]=>false
 | 13,[]=>false
 | _,_=>true
def NL.aS3 (x:NL) (bs:List Nat):Bool:=a7w x.enc bs&&(x.ok&&x.b2f)
def aoc:List AV→X AV:=fun args=>match args with
 | [.sl (some (k,o)) n _]=>CE.bnd (CE.chk (gw k)) fun _=>CE.bnd (rdT k) fun T=>CE.bnd (CE.chk (Nat.beq T 5)) fun _=>CE.bnd (rdK k o n) fun l=>CE.bnd (CE.lift (a4c l)) fun bs=>CE.bnd (CE.chk ((akc bs).aS3 bs)) fun _=>match (akc bs).cs with
  | []=>CE.ret (.t [.g (a7c (akc bs) (.sl none 0 0)),.i .i64 (.ofNat 0)])
  | _ :: _=>CE.bnd (a4o true (.cells ((akc bs).cs.map ap4) 3)) fun q=>CE.ret (.t [.g (a7c (akc bs) (.sl (some (q,0)) (akc bs).cs.length (akc bs).cs.length)),.i .i64 (.ofNat 0)])
 | _=>CE.fail
theorem axk (x:List AV):Loc (aoc x):=by
 unfold aoc
 split
 ·refine Loc.bnd (Loc.chk _) fun _=>Loc.bnd (Loc.rdT _) fun _=>Loc.bnd (Loc.chk _) fun _=>Loc.bnd (Loc.rdK _ _ _) fun _=>Loc.bnd (Loc.lift _) fun bs=>Loc.bnd (Loc.chk _) fun _=>?_
  split
  ·exact Loc.ret _
  ·exact Loc.bnd (Loc.a4o _ _) fun _=>Loc.ret _
 ·exact Loc.fail
end
section
variable [Sym] [a0n]
theorem aAb {cs l:List AV} {o n:Nat} (h:cut cs o n=some l):l.length=n∧∀ i,i < n→cs[o+i]? = l[i]? := by
 unfold cut at h
 dsimp only at h
 split at h
 ·rename_i hb
  cases h
  have hb:=Nat.eq_of_beq_eq_true hb
  refine ⟨hb,fun i hi=>?_⟩
  rw [List.getElem?_take,if_pos hi,List.getElem?_drop]
 ·cases h
theorem aww {T B k o n c:Nat} {P:Program} {σ:Sg} {m:Tr AB} {W:World} {cs l:List AV} {v:Value} (hT:P.cellsOf T=1) (hs:SR P B σ m W) (hm:m.get k=some (.cells cs T)) (hcut:cut cs o n=some l) (hgw:gw k=true) (hix:l.all ahy=true) (hv:VR σ (.sl (some (k,o)) n c) v):Sl 0 W v T (l.map aa7):=by
 obtain ⟨hn,hg⟩:=aAb hcut
 obtain ⟨Q,ob,hQ,hh,row,hrow,_,h2,h3,h4⟩:=hs.mr k _ hm
 obtain ⟨h2a,h2b⟩:=h2 hgw
 cases hv with
 | sl _ _ _ _ c' Q' hQ' aWu _ hz =>
  rw [hQ] at hQ';cases hQ'
  have hz:=hz hgw
  rw [← h2b,hT,Nat.mul_one] at hz
  have hol:n=0∨o+n≤cs.length:=by
   by_cases e:n=0
   ·exact .inl e
   ·have:=hg (n - 1) (by omega)
    rw [List.getElem?_eq_getElem (show n - 1 < l.length by omega)] at this
    have:=(List.getElem?_eq_some_iff.1 this).1
    exact .inr (by omega)
  refine ⟨Q.b,o+Q.d,c',row,by rw [List.length_map,hn],Nat.zero_le _,by rw [hh,hrow],by omega,?_,fun i hi=>?_⟩
  ·rw [List.length_map,hn]
   rcases hol with e | e
   ·omega
   ·omega
  ·rw [List.length_map] at hi
   have hx:=hg i (by omega)
   rw [List.getElem?_eq_getElem hi] at hx
   have hol:o+n≤cs.length:=by rcases hol with e | e<;>omega
   have hlt:Q.d+(o+i) < row.size:=by omega
   have hvr:=h4 (o+i) _ row[Q.d+(o+i)] hx (Array.getElem?_eq_getElem hlt)
   have:=aii hvr (List.all_eq_true.1 hix _ (List.getElem_mem _))
   rw [show o+Q.d+i=Q.d+(o+i) by omega,Array.getElem?_eq_getElem hlt,this]
   rw [List.getElem?_map,List.getElem?_eq_getElem hi]
   rfl
theorem axh {σ:Sg}:∀ {b:List Nat},(∀ n∈b,n < 256)→LV σ (b.map a3m) ((b.map UInt8.ofNat).map fun c=>B8 c.toNat)
 | [],_=>trivial
 | n :: b,h=>by
  refine ⟨?_,axh (b:=b) fun m hm=>h m (by simp [hm])⟩
  have hn:=h n (by simp)
  have:(UInt8.ofNat n).toNat=n:=by simp;omega
  show VR σ (.i .u8 (.ofNat n)) (Value.int .u8 (Int.ofNat (UInt8.ofNat n).toNat))
  rw [this];exact .i _ _
theorem aff {σ:Sg} {x:NL} (hr:∀ n∈x.ref,n < 256) {c:AV} {u:Value} (hc:VR σ c u):VR σ (.g (a7c x c)) (.agg (x.ln.let u).row):=by
 rw [a1i]
 have z:VR σ (.i .i64 (.ofNat 0)) (.int .i64 0):=.i .i64 0
 have hh:LV σ (aab tmpl [x.kind,x.frm,x.dst,x.mtg,x.res,x.dl,x.st]) [.int .i64 x.kind,.int .i64 x.frm,.int .i64 x.dst,.int .i64 x.mtg,.int .i64 0,.int .i64 0,.int .i64 0,.int .i64 0,.int .i64 0,.int .i64 x.res,.int .i64 0,.int .i64 0,
  .int .i64 0,.bool false,.int .i64 0,.int .i64 0,.int .i64 0,.slice none 0 0,.int .i64 0,.int .i64 0,.string ByteArray.empty,.int .i64 0,.int .i64 0,.slice none 0 0,.int .i64 x.dl,.int .i64 x.st,.int .i64 0,.int .i64 0,.int .i64 0] :=
  ⟨.i _ _,.i _ _,.i _ _,.i _ _,z,z,z,z,z,.i _ _,z,z,z,.b _,z,z,z,.sln _ _,z,z,.s _ _ rfl,z,z,.sln _ _,.i _ _,.i _ _,z,z,z,trivial⟩
 have ht:LV σ (c :: x.ref.map a3m) (u :: x.ln.ref.map fun c=>B8 c.toNat):=⟨hc,axh hr⟩
 have hg:=LR.g (LV.lr (LV.app hh ht))
 exact hg
theorem axb (x:NL) (c:AV) (i:Nat) (hi:i≠29) (a:AV) (h:(a7c x c)[i]? = some a):isY a=true:=by
 unfold a7c at h
 have hH:(aab tmpl [x.kind,x.frm,x.dst,x.mtg,x.res,x.dl,x.st]).length=29:=rfl
 by_cases h1:i < 29
 ·rw [List.getElem?_append_left (by omega)] at h
  have hm:=List.mem_of_getElem? h
  simp only [tmpl,aab,List.mem_cons,List.not_mem_nil,or_false] at hm
  rcases hm with rfl | rfl | rfl | rfl | rfl | rfl | rfl | rfl | rfl | rfl | rfl | rfl | rfl | rfl | rfl | rfl | rfl | rfl | rfl | rfl | rfl | rfl | rfl | rfl | rfl | rfl | rfl | rfl | rfl<;>rfl
 ·rw [List.getElem?_append_right (by omega),hH] at h
  obtain ⟨j,rfl⟩ : ∃ j,i=j+30:=⟨i - 30,by omega⟩
  rw [show j+30 - 29=j+1 by omega,List.getElem?_cons_succ] at h
  have hm:=List.mem_of_getElem? h
  obtain ⟨n,_,rfl⟩:=List.mem_map.1 hm
  rfl
theorem axc (x:NL) (c:AV):(a7c x c)[29]? = some c:=rfl
theorem ajh {B:Nat} {σ:Sg} {m m1:Tr AB} {n n1:Nat} {l w l1 w1:List LE} {W:World} {cs lst:List AV} {x:NL} {vals:Array Value} (hs:SR Tryz.prog B σ m W) (hl:LR σ [.g cs] vals) (hc:a8n cs ⟨m,n,l,w⟩=some (lst,⟨m1,n1,l1,w1⟩)) (hx:nlA cs lst=some x) :
  m1=m∧n1=n∧∃ u,vals=#[.agg (x.ln.let u).row]∧a0h 0 W u x.cs:=by
 obtain ⟨v0,rfl,hv⟩:=aj3 hl
 obtain ⟨arr,rfl,ha⟩:=hv.aot
 have fin:∀ c u,cs[29]? = some c→arr[29]? = some u→VR σ c u→arr=(x.ln.let u).row:=fun c u h1 h2 h3=>by
  obtain ⟨e1,e2,e3⟩:=ar2 hx h1
  obtain ⟨arr2,q1,q2⟩:=(aff (σ:=σ) e3 h3).aot
  cases q1
  rw [← e1] at q2
  refine aB5 ha q2 fun i a hi=>?_
  by_cases e:i=29
  ·subst e;right;rw [h2];exact (aid (x.ln.let u)).symm
  ·left;rw [e1] at hi;exact axb x c i e a hi
 unfold a8n at hc
 obtain ⟨c0,s0,g0,hc⟩:=a08 hc
 obtain ⟨h29,e0⟩:=a7o g0
 cases e0
 obtain ⟨u,hu,hvu⟩:=ha.at h29
 obtain ⟨q1,q2,q3⟩:=ar2 hx h29
 cases c0<;>first | (cases hc;done) | skip
 ·rename_i a0 nn cc
  rcases a0 with _ | ⟨k,o⟩
  ·obtain ⟨_,s1,g1,x1⟩:=a08 hc
   obtain ⟨hch,e1⟩:=a4b g1
   cases e1
   simp only [Bool.and_eq_true] at hch
   obtain rfl:=Nat.eq_of_beq_eq_true hch.1
   obtain rfl:=Nat.eq_of_beq_eq_true hch.2
   obtain ⟨e1,e3⟩:=a0k x1
   cases e1;cases e3
   have hcs:x.cs = []:=List.map_eq_nil_iff.1 q2.symm
   refine ⟨rfl,rfl,u,by rw [fin _ _ h29 hu hvu],.inl ⟨hcs,?_⟩⟩
   cases hvu;exact .inl rfl
  ·obtain ⟨_,s1,g1,x1⟩:=a08 hc
   obtain ⟨hch,e1⟩:=a4b g1
   cases e1
   simp only [Bool.and_eq_true] at hch
   obtain ⟨T,⟨m2,n2,l2,w2⟩,g2,x2⟩:=a08 x1
   obtain ⟨⟨c1,hk1⟩,e1,e2⟩:=aqh g2
   dsimp only at e1 e2 hk1
   subst e1;subst e2
   obtain ⟨_,s1,g3,x3⟩:=a08 x2
   obtain ⟨hT,e1⟩:=a4b g3
   cases e1
   have hT:=Nat.eq_of_beq_eq_true hT
   subst hT
   obtain ⟨e1,e2,c2,T2,hk2,hcut⟩:=a5y x3
   cases e1;cases e2
   rw [hk1] at hk2;cases hk2
   have hix:lst.all ahy=true:=by
    rw [q2,List.all_eq_true]
    intro a ha
    obtain ⟨n,_,rfl⟩:=List.mem_map.1 ha
    rfl
   have hsl:=aww a4k hs hk1 hcut hch.1 hix hvu
   have hlen:=(aAb hcut).1
   refine ⟨rfl,rfl,u,by rw [fin _ _ h29 hu hvu],.inr ⟨fun e=>?_,?_⟩⟩
   ·rw [e] at q2;rw [q2] at hlen
    have:1≤nn:=Nat.le_of_ble_eq_true hch.2
    simp at hlen;omega
   ·have:lst.map aa7=x.cs.map fun (c:Nat)=>Value.int .i64 (c:Int):=by rw [q2,List.map_map];rfl
    rwa [this] at hsl
 ·obtain ⟨e1,e3⟩:=a0k hc
  cases e1;cases e3
  have hcs:x.cs = []:=List.map_eq_nil_iff.1 q2.symm
  refine ⟨rfl,rfl,u,by rw [fin _ _ h29 hu hvu],.inl ⟨hcs,?_⟩⟩
  cases hvu;exact .inr ⟨_,_,rfl⟩
theorem amz (B:Nat) (σ:Sg) (m:Tr AB) (n:Nat) (l w:List LE) (W:World) (args:List AV) (v:AV) (m':Tr AB) (n':Nat) (l' w':List LE) (vals:Array Value)
  (_:GS σ) (hs:SR Tryz.prog B σ m W) (hl:LR σ args vals) (hx:ag8 args ⟨m,n,l,w⟩=some (v,⟨m',n',l',w'⟩)) (hfr:a3q σ n n') :
  (callFunc 128 vals).run Tryz.prog W=.ok (.enter 128 vals) W∧Calls Tryz.prog 128 vals W (Done Tryz.prog B σ n n' m' v W):=by
 refine ⟨enters _ ⟨_,Tryz.func128,by kernel_rfl,by kernel_rfl⟩ vals W,?_⟩
 unfold ag8 at hx
 split at hx
 ·rename_i cs
  obtain ⟨lst,⟨m1,n1,l1,w1⟩,g1,x1⟩:=a08 hx
  obtain ⟨x,s2,g2,x2⟩:=a08 x1
  obtain ⟨hx0,e2⟩:=a7o g2
  cases e2
  obtain ⟨rfl,rfl,u,rfl,hcell⟩:=ajh hs hl g1 hx0
  obtain ⟨_,s1,g3,x3⟩:=a08 x2
  obtain ⟨hok,e1⟩:=a4b g3
  cases e1
  obtain ⟨k,⟨m4,n4,l4,w4⟩,g4,x4⟩:=a08 x3
  obtain ⟨rfl,rfl,rfl⟩:=a6c g4
  obtain ⟨e1,e3⟩:=a0k x4
  cases e1;cases e3
  obtain ⟨hln,hr⟩:=NL.adt hok
  have hk:σ (a2b true n1)=none:=hfr _ (a1a true n1).1 (a1a true n1).2
  refine (ab3 hln hcell).mono fun e W' he=>?_
  obtain ⟨s,he,hsl,hB⟩:=he
  obtain ⟨b,o,c,row,rfl,hbb,ho,hoc,hlc,hge⟩:=hsl
  have hen:x.enc=a0j x.ln.enc:=(NL.aea hok).symm
  have hlen:x.enc.length=x.ln.enc.length:=by rw [hen];simp [a0j]
  rw [List.length_map] at hlc hge
  have hbr:BR Tryz.prog (σ.add (a2b true n1) ⟨b,o,row.size,1⟩) (a2b true n1) ⟨b,o,row.size,1⟩ (.cells (x.enc.map a3m) 5) (.cells row 5 (0,0)):=by
   refine ⟨row,rfl,(fun h=>by rw [a4p] at h;cases h),(fun _=>⟨rfl,aa1⟩),by rw [List.length_map];show o+x.enc.length≤row.size;omega,fun i a v e1 e2=>?_⟩
   rw [hen,List.getElem?_map] at e1
   have e2:row[o+i]? = some v:=e2
   cases hi:(a0j x.ln.enc)[i]? with
   | none=>rw [hi] at e1;cases e1
   | some q =>
    rw [hi] at e1;cases e1
    have hil:i < x.ln.enc.length:=by
     have:=(List.getElem?_eq_some_iff.1 hi).1
     simpa [a0j] using this
    rw [hge i hil,List.getElem?_map,List.getElem?_eq_getElem hil] at e2
    cases e2
    unfold a0j at hi
    rw [List.getElem?_map,List.getElem?_eq_getElem hil] at hi
    cases hi
    exact .i _ _
  have hS:=SR.ame hs hB hk hbb ho hbr
  refine ⟨σ.add (a2b true n1) ⟨b,o,row.size,1⟩,_,he,Grow.add hk (a1a true n1),hS,?_,hB.mono hs.hB⟩
  have hv0:VR (σ.add (a2b true n1) ⟨b,o,row.size,1⟩) (.sl (some (a2b true n1,0)) x.enc.length x.enc.length) (.slice (some ⟨b,o,none⟩) x.ln.enc.length c):=by
   have:=VR.sl (σ:=σ.add (a2b true n1) ⟨b,o,row.size,1⟩) (a2b true n1) 0 x.enc.length x.enc.length c ⟨b,o,row.size,1⟩ (by simp [Sg.add]) (by omega) (fun h=>by rw [a4p] at h;cases h) (fun _=>by show 0+o+c * 1=row.size;omega)
   rw [hlen] at this ⊢
   simpa using this
  have hl2:=LR.t (LV.lr (σ:=σ.add (a2b true n1) ⟨b,o,row.size,1⟩) (l:=[.sl (some (a2b true n1,0)) x.enc.length x.enc.length,.i .i64 (.ofNat 0)]) (m:=[.slice (some ⟨b,o,none⟩) x.ln.enc.length c,.int .i64 0]) ⟨hv0,.i _ _,trivial⟩)
  simpa using hl2
 ·cases hx
theorem akk (B:Nat) (σ:Sg) (m:Tr AB) (n:Nat) (l w:List LE) (W:World) (args:List AV) (v:AV) (m':Tr AB) (n':Nat) (l' w':List LE) (vals:Array Value)
  (_:GS σ) (hs:SR Tryz.prog B σ m W) (hl:LR σ args vals) (hx:aen args ⟨m,n,l,w⟩=some (v,⟨m',n',l',w'⟩)) (_:a3q σ n n') :
  (callFunc 26 vals).run Tryz.prog W=.ok (.enter 26 vals) W∧Calls Tryz.prog 26 vals W (Done Tryz.prog B σ n n' m' v W):=by
 refine ⟨enters _ ⟨_,Tryz.func26,by kernel_rfl,by kernel_rfl⟩ vals W,?_⟩
 unfold aen at hx
 split at hx
 ·rename_i cs
  obtain ⟨lst,⟨m1,n1,l1,w1⟩,g1,x1⟩:=a08 hx
  obtain ⟨x,s2,g2,x2⟩:=a08 x1
  obtain ⟨hx0,e2⟩:=a7o g2
  cases e2
  obtain ⟨rfl,rfl,u,rfl,hcell⟩:=ajh hs hl g1 hx0
  obtain ⟨_,s1,g3,x3⟩:=a08 x2
  obtain ⟨hok,e1⟩:=a4b g3
  cases e1
  obtain ⟨e1,e3⟩:=a0k x3
  cases e1;cases e3
  obtain ⟨hln,hr⟩:=NL.adt hok
  refine (ann hln hcell).mono fun e W' he=>?_
  obtain ⟨he,hB⟩:=he
  exact ⟨σ,_,he,Grow.refl _ _ _,adp hs hB,.i _ _,hB.mono hs.hB⟩
 ·cases hx
end
end V
end Go.CE
namespace Go.CE
namespace V
open Go.Proofs Go.Proofs.YtlnlbdfokmhelaaGreatDoor Go.RowKit
section
variable [Sym] [a0n]
theorem afg:∀ {l m:List Nat},a7w l m=true→l=m
 | [],[],_=>rfl
 | [],_ :: _,h=>by cases h
 | _ :: _,[],h=>by cases h
 | a :: l,b :: m,h=>by
  unfold a7w at h
  split at h
  ·rename_i hb
   rw [Nat.eq_of_beq_eq_true hb,afg h]
  ·cases h
theorem aO9 {x:NL} (h:x.b2f=true):x.ln.kind=8∨x.ln.kind=13→x.ln.cs≠[]:=by
 intro e hc
 have e:x.kind=8∨x.kind=13:=e
 have hc:x.cs = []:=hc
 unfold NL.b2f at h
 rw [hc] at h
 rcases e with e | e<;>(rw [e] at h;cases h)
theorem aW5 {B:Nat} {σ:Sg} {m:Tr AB} {n1:Nat} {W W':World} {T:Nat} {l:List AV} {s:Value} (hT:Tryz.prog.cellsOf T=1) (hs:SR Tryz.prog B σ m W) (hB:Below W.heap.size W W') (hk:σ (a2b true n1)=none) (hix:l.all ahy=true) (hsl:Sl W.heap.size W' s T (l.map aa7)) :
  ∃ q,SR Tryz.prog B (σ.add (a2b true n1) q) (m.set (a2b true n1) (some (.cells l T))) W'∧VR (σ.add (a2b true n1) q) (.sl (some (a2b true n1,0)) l.length l.length) s:=by
 obtain ⟨b,o,c,row,rfl,hbb,ho,hoc,hlc,hge⟩:=hsl
 rw [List.length_map] at hlc hge
 refine ⟨⟨b,o,row.size,1⟩,SR.ame hs hB hk hbb ho ⟨row,rfl,(fun h=>by rw [a4p] at h;cases h),(fun _=>⟨rfl,hT⟩),by show o+l.length≤row.size;omega,fun i a v e1 e2=>?_⟩,?_⟩
 ·have hi:i < l.length:=(List.getElem?_eq_some_iff.1 e1).1
  have e2:row[o+i]? = some v:=e2
  rw [hge i hi,List.getElem?_map,e1] at e2
  cases e2
  exact aij _ (List.all_eq_true.1 hix a (List.mem_of_getElem? e1))
 ·rw [List.length_map]
  have:=VR.sl (σ:=σ.add (a2b true n1) ⟨b,o,row.size,1⟩) (a2b true n1) 0 l.length l.length c ⟨b,o,row.size,1⟩ (by simp [Sg.add]) hlc (fun h=>by rw [a4p] at h;cases h) (fun _=>by show 0+o+c * 1=row.size;omega)
  simpa using this
theorem aob (B:Nat) (σ:Sg) (m:Tr AB) (n:Nat) (l w:List LE) (W:World) (args:List AV) (v:AV) (m':Tr AB) (n':Nat) (l' w':List LE) (vals:Array Value)
  (_:GS σ) (hs:SR Tryz.prog B σ m W) (hl:LR σ args vals) (hx:aoc args ⟨m,n,l,w⟩=some (v,⟨m',n',l',w'⟩)) (hfr:a3q σ n n') :
  (callFunc 193 vals).run Tryz.prog W=.ok (.enter 193 vals) W∧Calls Tryz.prog 193 vals W (Done Tryz.prog B σ n n' m' v W):=by
 refine ⟨enters _ ⟨_,Tryz.func193,by kernel_rfl,by kernel_rfl⟩ vals W,?_⟩
 unfold aoc at hx
 split at hx
 ·rename_i k o nn cc
  obtain ⟨v0,rfl,hv⟩:=aj3 hl
  obtain ⟨_,s1,g1,x1⟩:=a08 hx
  obtain ⟨hgw,e1⟩:=a4b g1
  cases e1
  obtain ⟨T,⟨m2,n2,l2,w2⟩,g2,x2⟩:=a08 x1
  obtain ⟨⟨c1,hk1⟩,e1,e2⟩:=aqh g2
  dsimp only at e1 e2 hk1
  subst e1;subst e2
  obtain ⟨_,s1,g3,x3⟩:=a08 x2
  obtain ⟨hT,e1⟩:=a4b g3
  cases e1
  obtain rfl:=Nat.eq_of_beq_eq_true hT
  obtain ⟨lst,⟨m3,n3,l3,w3⟩,g4,x4⟩:=a08 x3
  obtain ⟨e1,e2,c2,T2,hk2,hcut⟩:=a5y g4
  cases e1;cases e2
  rw [hk1] at hk2;cases hk2
  obtain ⟨bs,s5,g5,x5⟩:=a08 x4
  obtain ⟨hbs,e5⟩:=a7o g5
  cases e5
  obtain ⟨_,s6,g6,x6⟩:=a08 x5
  obtain ⟨hof,e6⟩:=a4b g6
  cases e6
  generalize akc bs=x at hof x6
  unfold NL.aS3 at hof
  simp only [Bool.and_eq_true] at hof
  obtain ⟨h1,h2,h3⟩:=hof
  have h1:=afg h1
  obtain ⟨hln,hr⟩:=NL.adt h2
  obtain ⟨b1,b2⟩:=a6z hbs
  have hix:lst.all ahy=true:=by
   rw [b1,List.all_eq_true]
   intro a ha
   obtain ⟨n,_,rfl⟩:=List.mem_map.1 ha
   rfl
  have hsl:=aww aa1 hs hk1 hcut hgw hix hv
  have ajl:lst.map aa7=x.ln.enc.map fun c=>B8 c.toNat:=by
   rw [b1,← h1,← NL.aea h2]
   unfold a0j
   rw [List.map_map,List.map_map]
   rfl
  rw [ajl] at hsl
  refine (ahe hln (aO9 h3) hsl).mono fun e W' he=>?_
  obtain ⟨c,he,hcell,hnil,hB⟩:=he
  cases hcs:x.cs with
  | nil =>
   rw [hcs] at x6
   obtain ⟨e1,e3⟩:=a0k x6
   cases e1;cases e3
   have hc0:c=.slice none 0 0:=hnil hcs
   subst hc0
   refine ⟨σ,_,he,Grow.refl _ _ _,adp hs hB,?_,hB.mono hs.hB⟩
   have hr:=aff (σ:=σ) hr (VR.sln 0 0)
   have hl2:=LR.t (LV.lr (σ:=σ) (l:=[.g (a7c x (.sl none 0 0)),.i .i64 (.ofNat 0)]) (m:=[.agg (x.ln.let (.slice none 0 0)).row,.int .i64 0]) ⟨hr,.i _ _,trivial⟩)
   simpa using hl2
  | cons a0 tl =>
   rw [hcs] at x6
   dsimp only at x6
   rw [← hcs] at x6
   obtain ⟨q,⟨m7,n7,l7,w7⟩,g7,x7⟩:=a08 x6
   obtain ⟨rfl,rfl,rfl⟩:=a6c g7
   obtain ⟨e1,e3⟩:=a0k x7
   cases e1;cases e3
   have hk:σ (a2b true n2)=none:=hfr _ (a1a true n2).1 (a1a true n2).2
   rcases hcell with ⟨h0,_⟩ | ⟨_,hcl⟩
   ·have h0:x.cs = []:=h0
    rw [hcs] at h0;cases h0
   ·have hcl:Sl W.heap.size W' c 3 ((x.cs.map ap4).map aa7):=by
     have:(x.cs.map ap4).map aa7=x.ln.cs.map fun (c:Nat)=>Value.int .i64 (c:Int):=by rw [List.map_map];rfl
     rw [this];exact hcl
    obtain ⟨q,hS,hvc⟩:=aW5 a4k hs hB hk (by
     rw [List.all_eq_true]
     intro a ha
     obtain ⟨n,_,rfl⟩:=List.mem_map.1 ha
     rfl) hcl
    rw [List.length_map] at hvc
    refine ⟨σ.add (a2b true n2) q,_,he,Grow.add hk (a1a true n2),hS,?_,hB.mono hs.hB⟩
    have hr:=aff (σ:=σ.add (a2b true n2) q) hr hvc
    have hl2:=LR.t (LV.lr (σ:=σ.add (a2b true n2) q) (l:=[.g (a7c x (.sl (some (a2b true n2,0)) x.cs.length x.cs.length)),.i .i64 (.ofNat 0)]) (m:=[.agg (x.ln.let c).row,.int .i64 0]) ⟨hr,.i _ _,trivial⟩)
    simpa using hl2
 ·cases hx
noncomputable def ajy (v:FV) (s:QW) (k:List AV→QW→Ans):Ans:=match v with
 | .o (.sl none 0 0)=>k [] s
 | .o .se=>k [] s
 | .s _ i o n _=>V.iff (gw i&&Nat.ble 1 n) (aRw (p4 i) i s fun T s=>V.iff (Nat.beq T 3) (aiv (p4 i) i o n s fun a s=>match a2t a with
  | .g l=>k l s
  | _=>none))
 | _=>none
theorem aec {B:Nat} {s:CE.St} {f:QW} (hs:RS B s f) {v:FV} (hv:a4l v):Ok B (fun (a b:List AV)=>a=b) (ajy v f) (cellV (a6g v) s):=by
 unfold ajy
 split
 ·show Ok B _ _ (some ([],s))
  exact Ok.ret (R:=fun (a b:List AV)=>a=b) rfl hs
 ·show Ok B _ _ (some ([],s))
  exact Ok.ret (R:=fun (a b:List AV)=>a=b) rfl hs
 ·rename_i q i o n c
  show Ok B _ _ (CE.bnd (CE.chk (gw i&&Nat.ble 1 n)) (fun _=>CE.bnd (rdT i) fun T=>CE.bnd (CE.chk (Nat.beq T 3)) fun _=>rdK i o n) s)
  refine Ok.iff fun h5=>Ok.chk h5 ?_
  refine Ok.bnd (aqy hs i) fun T f T' s hT hs=>?_
  subst hT
  refine Ok.iff fun h5=>Ok.chk h5 ?_
  intro k r hk
  obtain ⟨a,f1,l1,s1,e1,⟨t,rfl,rfl,ht⟩,h2,h3⟩:=a7v hs i o n _ r hk
  exact ⟨a07 t 0 n,f1,a07 t 0 n,s1,e1,rfl,h2,h3⟩
 ·exact Ok.none
noncomputable def nlQ (t:FV) (s:QW) (k:NL→QW→Ans):Ans:=ajy (a1d (p4 29) t) s fun l s=>match a2t (.g t 62) with
 | .g cs=>V.opt (nlA cs l) fun x=>V.iff x.ok (k x s)
 | _=>none
noncomputable def asc:LQ:=fun l s k=>match l with
 | [.g t 62]=>nlQ t s fun x s=>ake x.enc fun es=>Sha.force (fun n=>a9h true (.cells (a0r (es.map a3m)) n 5) s fun q i s=>k (.t (mkT [.s q i 0 n n,.i .i64 0] 0) 2) s) (Sha.ayx es)
 | _=>none
noncomputable def aq2:LQ:=fun l s k=>match l with
 | [.g t 62]=>nlQ t s fun _ s=>k (.i .i64 0) s
 | _=>none
theorem cells29 (t:FV):(a07 t 0 62)[29]? = some (a6g (a1d (p4 29) t)):=by rw [a0m,if_pos (by omega)]
theorem avq (B:Nat) (s:CE.St) (f:QW) (x:List AV) (l:List FV) (hs:RS B s f) (h:RVs x l):Ok B RV (aq2 l f) (aen x s):=by
 obtain ⟨rfl,ho⟩:=h
 unfold aq2
 split
 ·rename_i t
  have hg:a3j t 62:=ho (.g t 62) (by simp)
  show Ok B RV _ (CE.bnd (a8n (a07 t 0 62)) (fun l=>CE.bnd (CE.lift (nlA (a07 t 0 62) l)) fun x=>CE.bnd (CE.chk x.ok) fun _=>CE.ret (.i .i64 (.ofNat 0))) s)
  have e:a8n (a07 t 0 62) s=cellV (a6g (a1d (p4 29) t)) s:=by unfold a8n;rw [cells29];rfl
  refine Ok.bnd (R:=fun (a b:List AV)=>a=b) (x:=ajy (a1d (p4 29) t) f) (g:=fun (l:List AV) (s:QW) (k:FV→QW→Ans)=>match a2t (.g t 62) with
   | .g cs=>V.opt (nlA cs l) fun x=>V.iff x.ok (k (.i .i64 0) s)
   | _=>none) ?_ fun b f a s hab hs=>?_
  ·rw [e];exact aec hs (hg 29 (by omega))
  ·subst hab
   show Ok B RV (fun (k:FV→QW→Ans)=>V.opt (nlA (a07 t 0 62) a) fun x=>V.iff x.ok (k (.i .i64 0) f)) _
   refine Ok.opt fun x hx=>Ok.lift hx ?_
   refine Ok.iff fun h5=>Ok.chk h5 ?_
   exact Ok.ret (R:=RV) (b:=.i .i64 0) (a:=.i .i64 (.ofNat 0)) ⟨rfl,trivial⟩ hs
 ·exact Ok.none
theorem ab6 (l:List Nat):a1f (l.map a3m)=true:=by
 induction l with
 | nil=>rfl
 | cons a l ih=>exact ih
theorem aib (l:List Nat):a1f (l.map ap4)=true:=by
 induction l with
 | nil=>rfl
 | cons a l ih=>exact ih
theorem ais {a b:AV} {x y:FV} (h1:aa5 x=a∧okG x) (h2:aa5 y=b∧okG y):RV (.t [a,b]) (.t (mkT [x,y] 0) 2):=by
 have:=aw8 [x,y] (fun v hv=>by
  simp only [List.mem_cons,List.not_mem_nil,or_false] at hv
  rcases hv with rfl | rfl
  ·exact h1.2
  ·exact h2.2)
 refine ⟨?_,this.2⟩
 have e:=this.1
 simp only [List.map_cons,List.map_nil,h1.1,h2.1] at e
 exact e.symm
theorem aAs (B:Nat) (s:CE.St) (f:QW) (x:List AV) (l:List FV) (hs:RS B s f) (h:RVs x l):Ok B RV (asc l f) (ag8 x s):=by
 obtain ⟨rfl,ho⟩:=h
 unfold asc
 split
 ·rename_i t
  have hg:a3j t 62:=ho (.g t 62) (by simp)
  show Ok B RV _ (CE.bnd (a8n (a07 t 0 62)) (fun l=>CE.bnd (CE.lift (nlA (a07 t 0 62) l)) fun x=>CE.bnd (CE.chk x.ok) fun _=>CE.bnd (a4o true (.cells (x.enc.map a3m) 5)) fun k=>CE.ret (.t [.sl (some (k,0)) x.enc.length x.enc.length,.i .i64 (.ofNat 0)])) s)
  have e:a8n (a07 t 0 62) s=cellV (a6g (a1d (p4 29) t)) s:=by unfold a8n;rw [cells29];rfl
  refine Ok.bnd (R:=fun (a b:List AV)=>a=b) (x:=ajy (a1d (p4 29) t) f) (g:=fun (l:List AV) (s:QW) (k:FV→QW→Ans)=>match a2t (.g t 62) with
   | .g cs=>V.opt (nlA cs l) fun x=>V.iff x.ok (ake x.enc fun es=>Sha.force (fun n=>a9h true (.cells (a0r (es.map a3m)) n 5) s fun q i s=>k (.t (mkT [.s q i 0 n n,.i .i64 0] 0) 2) s) (Sha.ayx es))
   | _=>none) ?_ fun b f a s hab hs=>?_
  ·rw [e];exact aec hs (hg 29 (by omega))
  ·subst hab
   show Ok B RV (fun (k:FV→QW→Ans)=>V.opt (nlA (a07 t 0 62) a) fun x=>V.iff x.ok (ake x.enc fun es=>Sha.force (fun n=>a9h true (.cells (a0r (es.map a3m)) n 5) f fun q i s=>k (.t (mkT [.s q i 0 n n,.i .i64 0] 0) 2) s) (Sha.ayx es))) _
   refine Ok.opt fun x hx=>Ok.lift hx ?_
   refine Ok.iff fun h5=>Ok.chk h5 ?_
   simp only [a7q,Sha.force_eq,Sha.afk]
   have hc:=a1g (x.enc.map a3m) (ab6 _)
   rw [List.length_map] at hc
   exact a1v hs true 5 hc.1 hc.2 (R:=RV) (x:=fun q i s (k:FV→QW→Ans)=>k (FV.t (mkT [.s q i 0 x.enc.length x.enc.length,.i .i64 0] 0) 2) s) (y:=fun k=>CE.ret (.t [.sl (some (k,0)) x.enc.length x.enc.length,.i .i64 (.ofNat 0)])) fun i f s hs =>
    Ok.ret (R:=RV) (b:=.t (mkT [.s (p4 i) i 0 x.enc.length x.enc.length,.i .i64 0] 0) 2) (a:=.t [.sl (some (i,0)) x.enc.length x.enc.length,.i .i64 (.ofNat 0)]) (ais ⟨rfl,rfl⟩ ⟨rfl,trivial⟩) hs
 ·exact Ok.none
noncomputable def aHb (x:NL) (k:NL→Ans):Ans:=Sha.force (fun a=>Sha.force (fun b=>Sha.force (fun c=>Sha.force (fun d=>Sha.force (fun e=>Sha.force (fun g=>Sha.force (fun h=>ake x.cs fun cs=>ake x.ref fun ref=>k ⟨a,b,c,d,e,g,h,cs,ref⟩) x.st) x.dl) x.res) x.mtg) x.dst) x.frm) x.kind
theorem aHa (x:NL) (k:NL→Ans):aHb x k=k x:=by
 unfold aHb
 simp only [Sha.force_eq,a7q]
noncomputable def aDa:LQ:=fun l s k=>match l with
 | [.s _ i o n _]=>V.iff (gw i) (aRw (p4 i) i s fun T s=>V.iff (Nat.beq T 5) (aiv (p4 i) i o n s fun a s=>match a2t a with
  | .g al=>V.opt (a4c al) fun bs=>ake bs fun bs=>aHb (akc bs) fun x=>V.iff (x.aS3 bs) (match x.cs with
   | []=>k (.t (mkT [.g (a0r (a7c x (.sl none 0 0))) 62,.i .i64 0] 0) 2) s
   | _ :: _=>Sha.force (fun n=>a9h true (.cells (a0r (x.cs.map ap4)) n 3) s fun q i s=>k (.t (mkT [.g (a0r (a7c x (.sl (some (i,0)) n n))) 62,.i .i64 0] 0) 2) s) (Sha.ayx x.cs))
  | _=>none))
 | _=>none
theorem aar {x:NL} (h:x.ok=true) (c:AV):(a7c x c).length=62:=by
 obtain ⟨hok,_⟩:=NL.adt h
 have hr:=hok.ref
 have hr:(x.ref.map UInt8.ofNat).length=32:=hr
 rw [List.length_map] at hr
 unfold a7c
 rw [List.length_append,List.length_cons,List.length_map,hr]
 rfl
theorem aTn (x:NL) {c:AV} (hc:sc c=true):a1f (a7c x c)=true:=by
 refine a9j fun a ha=>?_
 obtain ⟨i,hi,e⟩:=List.mem_iff_getElem.1 ha
 by_cases h:i=29
 ·subst h
  have:=axc x c
  rw [List.getElem?_eq_getElem hi] at this
  rw [← e,Option.some.inj this];exact hc
 ·have:=axb x c i h a (by rw [List.getElem?_eq_getElem hi,e])
  unfold isY at this
  split at this<;>first | rfl | cases this
theorem aTo {x:NL} (h:x.ok=true) {c:AV} (hc:sc c=true):aa5 (.g (a0r (a7c x c)) 62)=.g (a7c x c)∧okG (.g (a0r (a7c x c)) 62):=by
 have hl:=aar h c
 have hg:=a1g (a7c x c) (aTn x hc)
 rw [hl] at hg
 exact ⟨by show AV.g (a07 (a0r (a7c x c)) 0 62)=_;rw [show a07 (a0r (a7c x c)) 0 62=a7c x c from hg.1],hg.2⟩
theorem aD9 (B:Nat) (s:CE.St) (f:QW) (x:List AV) (l:List FV) (hs:RS B s f) (h:RVs x l):Ok B RV (aDa l f) (aoc x s):=by
 obtain ⟨rfl,ho⟩:=h
 unfold aDa
 split
 ·rename_i q i o n c
  show Ok B RV _ (CE.bnd (CE.chk (gw i)) (fun _=>CE.bnd (rdT i) fun T=>CE.bnd (CE.chk (Nat.beq T 5)) fun _=>CE.bnd (rdK i o n) fun l=>CE.bnd (CE.lift (a4c l)) fun bs=>CE.bnd (CE.chk ((akc bs).aS3 bs)) fun _=>match (akc bs).cs with
   | []=>CE.ret (.t [.g (a7c (akc bs) (.sl none 0 0)),.i .i64 (.ofNat 0)])
   | _ :: _=>CE.bnd (a4o true (.cells ((akc bs).cs.map ap4) 3)) fun q=>CE.ret (.t [.g (a7c (akc bs) (.sl (some (q,0)) (akc bs).cs.length (akc bs).cs.length)),.i .i64 (.ofNat 0)])) s)
  refine Ok.iff fun h5=>Ok.chk h5 ?_
  refine Ok.bnd (aqy hs i) fun T f T' s hT hs=>?_
  subst hT
  refine Ok.iff fun h5=>Ok.chk h5 ?_
  refine Ok.bnd (a7v hs i o n) fun a f a' s h hs=>?_
  obtain ⟨t,rfl,rfl,ht⟩:=h
  show Ok B RV (fun (k:FV→QW→Ans)=>V.opt (a4c (a07 t 0 n)) fun bs=>ake bs fun bs=>aHb (akc bs) fun x=>V.iff (x.aS3 bs) (match x.cs with
   | []=>k (.t (mkT [.g (a0r (a7c x (.sl none 0 0))) 62,.i .i64 0] 0) 2) f
   | _ :: _=>Sha.force (fun n=>a9h true (.cells (a0r (x.cs.map ap4)) n 3) f fun q i s=>k (.t (mkT [.g (a0r (a7c x (.sl (some (i,0)) n n))) 62,.i .i64 0] 0) 2) s) (Sha.ayx x.cs))) _
  refine Ok.opt fun bs hbs=>Ok.lift hbs ?_
  simp only [a7q,aHa,Sha.force_eq,Sha.afk]
  generalize akc bs=x
  refine Ok.iff fun h5=>Ok.chk h5 ?_
  have hok:x.ok=true:=by
   unfold NL.aS3 at h5
   simp only [Bool.and_eq_true] at h5
   exact h5.2.1
  cases hcs:x.cs with
  | nil =>
   exact Ok.ret (R:=RV) (b:=.t (mkT [.g (a0r (a7c x (.sl none 0 0))) 62,.i .i64 0] 0) 2) (a:=.t [.g (a7c x (.sl none 0 0)),.i .i64 (.ofNat 0)]) (ais (aTo hok rfl) ⟨rfl,trivial⟩) hs
  | cons a0 tl =>
   have hc:=a1g ((a0 :: tl).map ap4) (aib _)
   rw [List.length_map] at hc
   exact a1v hs true 3 hc.1 hc.2 (R:=RV) (x:=fun q i s (k:FV→QW→Ans)=>k (FV.t (mkT [.g (a0r (a7c x (.sl (some (i,0)) (a0 :: tl).length (a0 :: tl).length))) 62,.i .i64 0] 0) 2) s) (y:=fun k=>CE.ret (.t [.g (a7c x (.sl (some (k,0)) (a0 :: tl).length (a0 :: tl).length)),.i .i64 (.ofNat 0)])) fun i f s hs =>
    Ok.ret (R:=RV) (b:=.t (mkT [.g (a0r (a7c x (.sl (some (i,0)) (a0 :: tl).length (a0 :: tl).length))) 62,.i .i64 0] 0) 2) (a:=.t [.g (a7c x (.sl (some (i,0)) (a0 :: tl).length (a0 :: tl).length)),.i .i64 (.ofNat 0)]) (ais (aTo hok rfl) ⟨rfl,trivial⟩) hs
 ·exact Ok.none
theorem aox:Good Tryz.prog 128 asc ag8:=⟨av1,amz,aAs⟩
theorem au4:Good Tryz.prog 193 aDa aoc:=⟨axk,aob,aD9⟩
theorem aos:Good Tryz.prog 26 aq2 aen:=⟨ass,akk,avq⟩
end
end V
end Go.CE
