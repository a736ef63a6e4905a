/-
  An owner of a reservation that takes letters: plain laws.
-/
import Derived.Test.YtopgdlblfieljaaGreatDoorPkLet
import Derived.Test.YtopgdlblfieljaaGreatDoorPkRefB
import Derived.Test.YtopgdlblfieljaaGreatDoorPkRow
import Derived.Deep.MidRow
set_option linter.unusedSectionVars false
set_option linter.constructorNameAsVariable false
set_option linter.unusedVariables false
set_option linter.unusedSimpArgs false
namespace Go.Rv
structure Lt where
 kind:Nat
 frm:Nat
 dst:Nat
 mtg:Nat
 res:Nat
 dl:Nat
 st:Nat
 cs:List Nat
 ref:List UInt8
 deriving DecidableEq
structure a2c where
 org:Nat
 mtg:Nat
 dl:Nat
 own:List Nat
 mark:Lt→List UInt8
 fld:List (List UInt8)→List UInt8
def a2c.a6n (p:a2c) (l:Lt):Bool:=decide (l.mtg=p.mtg)&&decide (l.cs=p.own)&&(!(decide (l.kind=8)||decide (l.kind=9))||decide (l.dl=p.dl))
def a2c.answer (p:a2c) (l:Lt):Bool:=(decide (l.kind=9)||decide (l.kind=10))&&p.a6n l&&decide (l.frm∈p.own)
def a2c.first (l:List Lt) (o:Nat):Option Lt:=l.find? fun x=>decide (x.kind=9)&&decide (x.frm=o)
def a2c.marks (p:a2c) (l:List Lt):List Nat→Option (List (List UInt8))
 | []=>some []
 | o :: os=>match a2c.first l o,p.marks l os with
  | some x,some r=>some (p.mark x :: r)
  | _,_=>none
def a2c.aBl (p:a2c) (l:List Lt):Option (List UInt8):=(p.marks l p.own).map p.fld
def a2c.a09 (p:a2c) (l:List Lt):Bool:=match p.aBl l with
 | none=>false
 | some r=>l.any fun x=>decide (x.kind=11)&&decide (x.frm=p.org)&&decide (x.st=1)&&decide (x.ref=r)
def twin (k l:Lt):Bool:=if l.kind=9∨l.kind=10 then decide (k.kind=l.kind)&&decide (k.frm=l.frm) else decide ({ k with dst:=l.dst }=l)
structure St where
 ph:Nat
 K:List Lt
def a2c.refusal (p:a2c) (x:Lt):Bool:=decide (x.kind=10)&&p.answer x
def a2c.admit (p:a2c) (s:St) (l:Lt):Nat :=
 if l.kind=12 then
  if l.frm≠p.org∨p.a6n l=false then 1
  else if (s.K.any fun x=>decide (x.kind=10)&&decide (p.mark x=l.ref))=false then 11
  else if s.ph=0∨s.ph=3 then 7 else 0
 else if l.kind=11 then
  if l.frm≠p.org∨p.a6n l=false then 1
  else if s.ph=0∨s.ph=3∨s.ph=4∨s.ph=5 then 7 else 0
 else if p.answer l=false then 1
 else if s.ph=0∨s.ph=3 then 7 else 0
def St.more (s:St) (l:Lt):List Lt:=if (s.K.any fun k=>twin k l)=true then s.K else s.K ++ [l]
def a2c.next (p:a2c) (s:St) (l:Lt):St :=
 ⟨if (s.ph=2∨s.ph=5)∧(s.more l).any p.refusal=true then 4 else if s.ph=2∧p.a09 (s.more l)=true then 3 else s.ph,s.more l⟩
def a2c.step (p:a2c) (s:St) (l:Lt):St:=if p.admit s l=0 then p.next s l else s
variable {p:a2c}
theorem a8q {s:St} {l:Lt} (h:s.ph=3):p.admit s l≠0:=by
 unfold a2c.admit
 rw [h]
 repeat' split
 all_goals simp_all
theorem a9p (p:a2c) (s:St) (l:Lt) (Q:St→Prop) (h1:p.admit s l=0→Q (p.next s l)) (h2:Q s):Q (p.step s l):=by
 unfold a2c.step
 split
 ·exact h1 ‹_›
 ·exact h2
theorem ae4 {s:St} {l x:Lt} (h:x∈s.more l):x∈s.K∨x=l:=by
 unfold St.more at h
 split at h
 ·exact .inl h
 ·rcases List.mem_append.1 h with q | q
  ·exact .inl q
  ·exact .inr (by simpa using q)
structure Good (p:a2c) (s:St):Prop where
 ans:∀ x,x∈s.K→(x.kind=9∨x.kind=10)→p.answer x=true
 none:s.ph=2∨s.ph=5→∀ x,x∈s.K→p.refusal x=false
 com:s.ph=3→p.a09 s.K=true
 not:s.ph=2→p.a09 s.K=false
theorem an8 {s:St} {l:Lt} (h:p.admit s l=0) (hk:l.kind=9∨l.kind=10):p.answer l=true:=by
 unfold a2c.admit at h
 rw [if_neg (by omega),if_neg (by omega)] at h
 cases e:p.answer l
 ·rw [if_pos e] at h;cases h
 ·rfl
theorem Good.step {s:St} (h:Good p s) (l:Lt):Good p (p.step s l):=by
 refine a9p p s l (Good p) (fun ha=>?_) h
 have hans:∀ x,x∈s.more l→(x.kind=9∨x.kind=10)→p.answer x=true:=fun x hx hk=>by
  rcases ae4 hx with q | rfl
  ·exact h.ans x q hk
  ·exact an8 ha hk
 have h3:s.ph≠3:=fun e=>a8q e ha
 by_cases hr:(s.ph=2∨s.ph=5)∧(s.more l).any p.refusal=true
 ·have hn:p.next s l=⟨4,s.more l⟩:=by unfold a2c.next;rw [if_pos hr]
  rw [hn]
  exact ⟨hans,(fun q=>by rcases q with q | q<;>cases q),fun q=>(by cases q),fun q=>(by cases q)⟩
 ·by_cases hc:s.ph=2∧p.a09 (s.more l)=true
  ·have hn:p.next s l=⟨3,s.more l⟩:=by unfold a2c.next;rw [if_neg hr,if_pos hc]
   rw [hn]
   exact ⟨hans,(fun q=>by rcases q with q | q<;>cases q),fun _=>hc.2,fun q=>(by cases q)⟩
  ·have hn:p.next s l=⟨s.ph,s.more l⟩:=by unfold a2c.next;rw [if_neg hr,if_neg hc]
   rw [hn]
   refine ⟨hans,fun q x hx=>?_,fun q=>absurd q h3,fun q=>?_⟩
   ·cases e:p.refusal x
    ·rfl
    ·exact absurd ⟨q,List.any_eq_true.2 ⟨x,hx,e⟩⟩ hr
   ·cases e:p.a09 (s.more l)
    ·rfl
    ·exact absurd ⟨q,e⟩ hc
structure Full (p:a2c) (L:List Lt):Prop where
 gr:∀ l,l∈L→l.kind=9∨l.kind=11
 ans:∀ l,l∈L→l.kind=9→p.answer l=true
 com:∀ l,l∈L→l.kind=11→l.frm=p.org∧p.a6n l=true
 own:∀ o,o∈p.own→∃ l,l∈L∧l.kind=9∧l.frm=o
 one:∀ a b,a∈L→b∈L→a.kind=9→b.kind=9→a.frm=b.frm→a=b
 b2v:∀ a b,a∈L→b∈L→a.kind=11→b.kind=11→a=b
 has : ∃ c,c∈L∧c.kind=11
 fits:∀ c,c∈L→c.kind=11→c.st=1∧∀ K,(∀ x,x∈K→x∈L)→(∀ l,l∈L→l.kind=9→l∈K)→p.aBl K=some c.ref
 nd:L.Nodup
structure a8r (p:a2c) (L:List Lt) (s:St):Prop where
 good:Good p s
 ph:s.ph=2∨s.ph=3
 sub:∀ x,x∈s.K→x∈L
 nd:s.K.Nodup
theorem akl {L:List Lt} (h:Full p L) {a b:Lt} (ha:a∈L) (hb:b∈L):twin a b=true↔a=b:=by
 unfold twin
 constructor
 ·intro q
  split at q
  ·rename_i hk
   simp only [Bool.and_eq_true,decide_eq_true_eq] at q
   rcases h.gr b hb with e | e
   ·exact h.one a b ha hb (q.1.trans e) e q.2
   ·omega
  ·rename_i hk
   have hb':b.kind=11:=by rcases h.gr b hb with e | e;exact absurd (.inl e) hk;exact e
   have q:=of_decide_eq_true q
   have:a.kind=b.kind:=by
    have:=congrArg Lt.kind q
    exact this
   exact h.b2v a b ha hb (this.trans hb') hb'
 ·rintro rfl
  split
  ·simp
  ·simp
theorem a8r.step {L:List Lt} (hL:Full p L) {s:St} (h:a8r p L s) {l:Lt} (hl:l∈L∨p.admit s l≠0):a8r p L (p.step s l):=by
 by_cases ha:p.admit s l=0
 ·have hl:l∈L:=by rcases hl with q | q;exact q;exact absurd ha q
  have h3:s.ph≠3:=fun e=>a8q e ha
  have h2:s.ph=2:=by rcases h.ph with q | q;exact q;exact absurd q h3
  have e:p.step s l=p.next s l:=if_pos ha
  have hg:=h.good.step l
  rw [e] at hg ⊢
  refine ⟨hg,?_,?_,?_⟩
  ·unfold a2c.next
   dsimp only
   rw [if_neg (fun ⟨_,q2⟩=>by
    obtain ⟨x,hx,hr⟩:=List.any_eq_true.1 q2
    have hxL:x∈L:=by
     rcases ae4 hx with q | rfl
     ·exact h.sub x q
     ·exact hl
    unfold a2c.refusal at hr
    rcases hL.gr x hxL with e | e<;>(rw [decide_eq_false (by omega)] at hr;cases hr))]
   split
   ·exact .inr rfl
   ·exact .inl h2
  ·intro x hx
   rcases ae4 hx with q | rfl
   ·exact h.sub x q
   ·exact hl
  ·show (s.more l).Nodup
   unfold St.more
   split
   ·exact h.nd
   ·rename_i ht
    rw [List.nodup_append]
    refine ⟨h.nd,by simp,fun a hak b hb=>?_⟩
    rw [List.mem_singleton] at hb
    subst hb
    exact fun e=>ht (List.any_eq_true.2 ⟨a,hak,(akl hL (h.sub a hak) hl).2 e⟩)
 ·rw [show p.step s l=s from if_neg ha];exact h
def checked (mk:List Nat→a2c) (val:List Nat→Bool) (mtg:Nat) (K:List Lt):Nat :=
 match K.filter fun x=>decide (x.mtg=mtg) with
 | []=>0
 | a :: r =>
  let all:=(a :: r).filter fun x=>decide (x.cs=a.cs)
  if val a.cs=false then 0
  else if (mk a.cs).a09 all=true then 1
  else if (all.any fun x=>decide (x.kind=10)&&decide (x.frm∈a.cs))=true then 2 else 0
end Go.Rv
namespace Tk

structure Say where
 ans:Bool
 frm:Int
 sta:Int
deriving DecidableEq

structure Tally where
 heard:List Int
 s3:Bool
 s4:Bool

def Tally.zero:Tally:=⟨[],false,false⟩

def hear (h:List Int) (n:Int):List Int:=if h.contains n then h else h ++ [n]

def Tally.step (t:Tally) (x:Say):Tally :=
 if x.ans then ⟨hear t.heard x.frm,t.s3||x.sta == 3,t.s4||x.sta == 4⟩ else t

def tally (t:Tally):List Say→Tally
 | []=>t
 | x :: l=>tally (t.step x) l

def Tally.out (n:Nat) (t:Tally):Int :=
 if t.s3 then 1 else if t.s4||t.heard.length == n then 2 else 0

theorem s3_tally:∀ (l:List Say) (t:Tally),t.s3=true→(tally t l).s3=true
 | [],t,h=>h
 | x :: l,t,h=>by
  refine s3_tally l _ ?_
  unfold Tally.step
  split
  ·simp [h]
  ·exact h

theorem tally_append:∀ (l m:List Say) (t:Tally),tally t (l++m)=tally (tally t l) m
 | [],_,_=>rfl
 | x :: l,m,t=>tally_append l m (t.step x)

structure Heard (os:List Int) (h:List Int):Prop where
 mem:∀ x∈h,x∈os
 nodup:h.Nodup

theorem Heard.nil (os:List Int):Heard os []:=⟨fun _ h=>(nomatch h),List.Pairwise.nil⟩

theorem Heard.hear {os h:List Int} (H:Heard os h) {n:Int} (hn:n∈os):Heard os (hear h n):=by
 unfold Tk.hear
 split
 ·exact H
 ·rename_i hc
  refine ⟨?_,?_⟩
  ·intro x hx
   rcases List.mem_append.1 hx with hx | hx
   ·exact H.mem x hx
   ·rw [List.mem_singleton.1 hx]
    exact hn
  ·have hc':n ∉ h:=by simpa using hc
   rw [List.nodup_append]
   refine ⟨H.nodup,by simp,?_⟩
   intro a ha b hb hab
   rw [List.mem_singleton.1 hb] at hab
   exact hc' (hab ▸ ha)

theorem nodup_le:∀ (h os:List Int),h.Nodup→(∀ x∈h,x∈os)→h.length≤os.length
 | [],os,_,_=>Nat.zero_le _
 | a :: h,os,hn,hm=>by
  have ha:a∈os:=hm a (List.mem_cons_self ..)
  have hn':=List.nodup_cons.1 hn
  have hl:=nodup_le h (os.erase a) hn'.2 (fun x hx=>by
   have hne:x≠a:=fun e=>hn'.1 (e ▸ hx)
   exact (List.mem_erase_of_ne hne).2 (hm x (List.mem_cons_of_mem _ hx)))
  rw [List.length_erase_of_mem ha] at hl
  have:0 < os.length:=List.length_pos_of_mem ha
  simp only [List.length_cons]
  omega

theorem Heard.le {os h:List Int} (H:Heard os h):h.length≤os.length:=nodup_le h os H.nodup H.mem

theorem Heard.tally {os:List Int}:∀ (l:List Say) (t:Tally),Heard os t.heard →
  (∀ x∈l,x.ans=true→x.frm∈os)→Heard os (Tk.tally t l).heard
 | [],t,H,_=>H
 | x :: l,t,H,hl=>by
  refine Heard.tally l (t.step x) ?_ (fun y hy=>hl y (List.mem_cons_of_mem _ hy))
  unfold Tally.step
  split
  ·rename_i ha
   exact H.hear (hl x (List.mem_cons_self ..) ha)
  ·exact H

end Tk
namespace Go.Proofs.YtopgdlblfieljaaGreatDoor
open Go.RowKit
set_option maxRecDepth 20000
set_option maxHeartbeats 4000000
def a4r (W:World) (v:Value) (l:List Nat):Prop := ∃ a c,v=.slice a l.length c∧(l≠[]→∃ b o row,a=some ⟨b,o,none⟩∧obj W b=some (.cells row 3 (0,0))∧∀ i,i < l.length→row[o+i]? = some (.int .i64 (l.getD i 0:Nat)))
theorem a4r.below {W W':World} {v:Value} {l:List Nat} (h:a4r W v l) (hb:Below W.heap.size W W'):a4r W' v l:=by
 obtain ⟨a,c,h1,h2⟩:=h
 refine ⟨a,c,h1,fun hn=>?_⟩
 obtain ⟨b,o,row,e1,e2,e3⟩:=h2 hn
 exact ⟨b,o,row,e1,a00 e2 hb (a04 e2),e3⟩
end Go.Proofs.YtopgdlblfieljaaGreatDoor
