/-
  An owner of a reservation that takes letters: plain laws.
-/
import Derived.Test.YtlnlbdfokmhelaaGreatDoorPkLet
import Derived.Test.YtlnlbdfokmhelaaGreatDoorPkRefB
import Derived.Test.YtlnlbdfokmhelaaGreatDoorPkRow
import Derived.Deep.MidRow
import Derived.Test.YtlnlbdfokmhelaaGreatDoorPkHash
set_option linter.unusedSectionVars false
set_option linter.constructorNameAsVariable false
set_option linter.unusedVariables false
set_option linter.unusedSimpArgs false
namespace Go.Rv
structure Lt where
 kind:Nat
 frm:Nat
 dst:Nat
 mtg:Nat
 res:Nat
 dl:Nat
 st:Nat
 cs:List Nat
 ref:List UInt8
 deriving DecidableEq
structure a2c where
 org:Nat
 mtg:Nat
 dl:Nat
 own:List Nat
 mark:Lt→List UInt8
 fld:List (List UInt8)→List UInt8
def a2c.a6n (p:a2c) (l:Lt):Bool:=decide (l.mtg=p.mtg)&&decide (l.cs=p.own)&&(!(decide (l.kind=8)||decide (l.kind=9))||decide (l.dl=p.dl))
def a2c.answer (p:a2c) (l:Lt):Bool:=(decide (l.kind=9)||decide (l.kind=10))&&p.a6n l&&decide (l.frm∈p.own)
def a2c.first (l:List Lt) (o:Nat):Option Lt:=l.find? fun x=>decide (x.kind=9)&&decide (x.frm=o)
def a2c.marks (p:a2c) (l:List Lt):List Nat→Option (List (List UInt8))
 | []=>some []
 | o :: os=>match a2c.first l o,p.marks l os with
  | some x,some r=>some (p.mark x :: r)
  | _,_=>none
def a2c.aBl (p:a2c) (l:List Lt):Option (List UInt8):=(p.marks l p.own).map p.fld
def a2c.a09 (p:a2c) (l:List Lt):Bool:=match p.aBl l with
 | none=>false
 | some r=>l.any fun x=>decide (x.kind=11)&&decide (x.frm=p.org)&&decide (x.st=1)&&decide (x.ref=r)
def twin (k l:Lt):Bool:=if l.kind=9∨l.kind=10 then decide (k.kind=l.kind)&&decide (k.frm=l.frm) else decide ({ k with dst:=l.dst }=l)
structure St where
 ph:Nat
 K:List Lt
def a2c.refusal (p:a2c) (x:Lt):Bool:=decide (x.kind=10)&&p.answer x
def a2c.admit (p:a2c) (s:St) (l:Lt):Nat :=
 if l.kind=12 then
  if l.frm≠p.org∨p.a6n l=false then 1
  else if (s.K.any fun x=>decide (x.kind=10)&&decide (p.mark x=l.ref))=false then 11
  else if s.ph=0∨s.ph=3 then 7 else 0
 else if l.kind=11 then
  if l.frm≠p.org∨p.a6n l=false then 1
  else if s.ph=0∨s.ph=3∨s.ph=4∨s.ph=5 then 7 else 0
 else if p.answer l=false then 1
 else if s.ph=0∨s.ph=3 then 7 else 0
def St.more (s:St) (l:Lt):List Lt:=if (s.K.any fun k=>twin k l)=true then s.K else s.K ++ [l]
def a2c.next (p:a2c) (s:St) (l:Lt):St :=
 ⟨if (s.ph=2∨s.ph=5)∧(s.more l).any p.refusal=true then 4 else if s.ph=2∧p.a09 (s.more l)=true then 3 else s.ph,s.more l⟩
def a2c.step (p:a2c) (s:St) (l:Lt):St:=if p.admit s l=0 then p.next s l else s
def a2c.fed (p:a2c) (s:St) (ls:List Lt):St:=ls.foldl p.step s
variable {p:a2c}
theorem a8q {s:St} {l:Lt} (h:s.ph=3):p.admit s l≠0:=by
 unfold a2c.admit
 rw [h]
 repeat' split
 all_goals simp_all
theorem a9p (p:a2c) (s:St) (l:Lt) (Q:St→Prop) (h1:p.admit s l=0→Q (p.next s l)) (h2:Q s):Q (p.step s l):=by
 unfold a2c.step
 split
 ·exact h1 ‹_›
 ·exact h2
theorem apd (p:a2c) {Q:St→Prop} (hs:∀ s l,Q s→Q (p.step s l)):∀ (ls:List Lt) (s:St),Q s→Q (p.fed s ls):=by
 intro ls
 induction ls with
 | nil=>intro s h;exact h
 | cons l ls ih=>intro s h;exact ih _ (hs s l h)
theorem ae4 {s:St} {l x:Lt} (h:x∈s.more l):x∈s.K∨x=l:=by
 unfold St.more at h
 split at h
 ·exact .inl h
 ·rcases List.mem_append.1 h with q | q
  ·exact .inl q
  ·exact .inr (by simpa using q)
theorem ar5 {s:St} {l x:Lt} (h:x∈s.K):x∈s.more l:=by
 unfold St.more
 split
 ·exact h
 ·exact List.mem_append_left _ h
theorem aT4 {s:St} {l:Lt} (h:s.ph=3):p.step s l=s:=if_neg (a8q h)
theorem b43 {s:St} (h:s.ph=3) (ls:List Lt):(p.fed s ls).ph=3:=apd p (Q:=fun t=>t.ph=3) (fun s l h=>by rw [aT4 h];exact h) ls s h
structure Good (p:a2c) (s:St):Prop where
 ans:∀ x,x∈s.K→(x.kind=9∨x.kind=10)→p.answer x=true
 none:s.ph=2∨s.ph=5→∀ x,x∈s.K→p.refusal x=false
 com:s.ph=3→p.a09 s.K=true
 not:s.ph=2→p.a09 s.K=false
theorem an8 {s:St} {l:Lt} (h:p.admit s l=0) (hk:l.kind=9∨l.kind=10):p.answer l=true:=by
 unfold a2c.admit at h
 rw [if_neg (by omega),if_neg (by omega)] at h
 cases e:p.answer l
 ·rw [if_pos e] at h;cases h
 ·rfl
theorem Good.step {s:St} (h:Good p s) (l:Lt):Good p (p.step s l):=by
 refine a9p p s l (Good p) (fun ha=>?_) h
 have hans:∀ x,x∈s.more l→(x.kind=9∨x.kind=10)→p.answer x=true:=fun x hx hk=>by
  rcases ae4 hx with q | rfl
  ·exact h.ans x q hk
  ·exact an8 ha hk
 have h3:s.ph≠3:=fun e=>a8q e ha
 by_cases hr:(s.ph=2∨s.ph=5)∧(s.more l).any p.refusal=true
 ·have hn:p.next s l=⟨4,s.more l⟩:=by unfold a2c.next;rw [if_pos hr]
  rw [hn]
  exact ⟨hans,(fun q=>by rcases q with q | q<;>cases q),fun q=>(by cases q),fun q=>(by cases q)⟩
 ·by_cases hc:s.ph=2∧p.a09 (s.more l)=true
  ·have hn:p.next s l=⟨3,s.more l⟩:=by unfold a2c.next;rw [if_neg hr,if_pos hc]
   rw [hn]
   exact ⟨hans,(fun q=>by rcases q with q | q<;>cases q),fun _=>hc.2,fun q=>(by cases q)⟩
  ·have hn:p.next s l=⟨s.ph,s.more l⟩:=by unfold a2c.next;rw [if_neg hr,if_neg hc]
   rw [hn]
   refine ⟨hans,fun q x hx=>?_,fun q=>absurd q h3,fun q=>?_⟩
   ·cases e:p.refusal x
    ·rfl
    ·exact absurd ⟨q,List.any_eq_true.2 ⟨x,hx,e⟩⟩ hr
   ·cases e:p.a09 (s.more l)
    ·rfl
    ·exact absurd ⟨q,e⟩ hc
theorem Good.fed {s:St} (h:Good p s) (ls:List Lt):Good p (p.fed s ls):=apd p (fun _ l h=>h.step l) ls s h
theorem ayq {K:List Lt}:∀ {os:List Nat} {r:List (List UInt8)},p.marks K os=some r→∀ o,o∈os→∃ x,x∈K∧x.kind=9∧x.frm=o:=by
 intro os
 induction os with
 | nil=>intro r _ o ho;cases ho
 | cons q os ih =>
  intro r h o ho
  unfold a2c.marks at h
  split at h
  ·rename_i x t h1 h2
   rcases List.mem_cons.1 ho with rfl | ho
   ·have h3:=List.find?_some h1
    have h4:=List.mem_of_find?_eq_some h1
    simp only [Bool.and_eq_true,decide_eq_true_eq] at h3
    exact ⟨x,h4,h3⟩
   ·exact ih h2 o ho
  ·cases h
theorem a3z {K:List Lt} (h:p.a09 K=true):(∀ o,o∈p.own→∃ x,x∈K∧x.kind=9∧x.frm=o)∧∃ x,x∈K∧x.kind=11∧x.frm=p.org:=by
 unfold a2c.a09 at h
 split at h
 ·cases h
 ·rename_i r hr
  unfold a2c.aBl at hr
  obtain ⟨t,ht,_⟩:=Option.map_eq_some_iff.1 hr
  refine ⟨ayq ht,?_⟩
  obtain ⟨x,hx,hq⟩:=List.any_eq_true.1 h
  simp only [Bool.and_eq_true,decide_eq_true_eq] at hq
  exact ⟨x,hx,hq.1.1.1,hq.1.1.2⟩
theorem aUr {s:St} (h:s.ph=2∨s.ph=3∨s.ph=4) (ls:List Lt):(p.fed s ls).ph=2∨(p.fed s ls).ph=3∨(p.fed s ls).ph=4:=by
 refine apd p (Q:=fun t=>t.ph=2∨t.ph=3∨t.ph=4) (fun s l h=>?_) ls s h
 refine a9p p s l (fun t=>t.ph=2∨t.ph=3∨t.ph=4) (fun _=>?_) h
 unfold a2c.next
 dsimp only
 split
 ·exact .inr (.inr rfl)
 ·split
  ·exact .inr (.inl rfl)
  ·exact h
theorem aD8 {s:St} {l:Lt} (h:Good p s) (hp:s.ph=2∨s.ph=4) (hl:l.kind=10) (ha:p.answer l=true):p.admit s l=0∧(p.next s l).ph=4:=by
 refine ⟨?_,?_⟩
 ·unfold a2c.admit
  rw [if_neg (by omega),if_neg (by omega),if_neg (by rw [ha];decide),if_neg (by omega)]
 ·rcases hp with e | e
  ·have hr:(s.more l).any p.refusal=true:=by
    by_cases ht:(s.K.any fun k=>twin k l)=true
    ·obtain ⟨k,hk,hq⟩:=List.any_eq_true.1 ht
     unfold twin at hq
     rw [if_pos (.inr hl)] at hq
     simp only [Bool.and_eq_true,decide_eq_true_eq] at hq
     refine List.any_eq_true.2 ⟨k,ar5 hk,?_⟩
     unfold a2c.refusal
     rw [h.ans k hk (.inr (hq.1.trans hl)),decide_eq_true (hq.1.trans hl)];rfl
    ·refine List.any_eq_true.2 ⟨l,?_,?_⟩
     ·unfold St.more
      rw [if_neg ht]
      exact List.mem_append_right _ (List.mem_singleton.2 rfl)
     ·unfold a2c.refusal
      rw [ha,decide_eq_true hl];rfl
   unfold a2c.next
   rw [if_pos ⟨.inl e,hr⟩]
  ·unfold a2c.next
   rw [e]
   simp
theorem alp {α:Type} [DecidableEq α]:∀ {L M:List α},L.Nodup→(∀ x,x∈L→x∈M)→L.length≤M.length:=by
 intro L
 induction L with
 | nil=>intro M _ _;exact Nat.zero_le _
 | cons a L ih =>
  intro M hn hs
  obtain ⟨h1,h2⟩:=List.nodup_cons.1 hn
  have ha:=hs a (List.mem_cons_self ..)
  have:=ih (M:=M.erase a) h2 fun x hx=>(List.mem_erase_of_ne (fun (e:x=a)=>h1 (by rw [← e];exact hx))).2 (hs x (List.mem_cons_of_mem _ hx))
  have hl:=List.length_erase_of_mem ha
  have hp:0 < M.length:=List.length_pos_of_mem ha
  rw [List.length_cons]
  omega
theorem aG7 {s:St} {l:Lt} (h:(s.K.any fun k=>twin k l)=false):s.more l=s.K ++ [l]:=by
 unfold St.more
 rw [if_neg (by rw [h];decide)]
structure Full (p:a2c) (L:List Lt):Prop where
 gr:∀ l,l∈L→l.kind=9∨l.kind=11
 ans:∀ l,l∈L→l.kind=9→p.answer l=true
 com:∀ l,l∈L→l.kind=11→l.frm=p.org∧p.a6n l=true
 own:∀ o,o∈p.own→∃ l,l∈L∧l.kind=9∧l.frm=o
 one:∀ a b,a∈L→b∈L→a.kind=9→b.kind=9→a.frm=b.frm→a=b
 b2v:∀ a b,a∈L→b∈L→a.kind=11→b.kind=11→a=b
 has : ∃ c,c∈L∧c.kind=11
 fits:∀ c,c∈L→c.kind=11→c.st=1∧∀ K,(∀ x,x∈K→x∈L)→(∀ l,l∈L→l.kind=9→l∈K)→p.aBl K=some c.ref
 nd:L.Nodup
structure a8r (p:a2c) (L:List Lt) (s:St):Prop where
 good:Good p s
 ph:s.ph=2∨s.ph=3
 sub:∀ x,x∈s.K→x∈L
 nd:s.K.Nodup
theorem akl {L:List Lt} (h:Full p L) {a b:Lt} (ha:a∈L) (hb:b∈L):twin a b=true↔a=b:=by
 unfold twin
 constructor
 ·intro q
  split at q
  ·rename_i hk
   simp only [Bool.and_eq_true,decide_eq_true_eq] at q
   rcases h.gr b hb with e | e
   ·exact h.one a b ha hb (q.1.trans e) e q.2
   ·omega
  ·rename_i hk
   have hb':b.kind=11:=by rcases h.gr b hb with e | e;exact absurd (.inl e) hk;exact e
   have q:=of_decide_eq_true q
   have:a.kind=b.kind:=by
    have:=congrArg Lt.kind q
    exact this
   exact h.b2v a b ha hb (this.trans hb') hb'
 ·rintro rfl
  split
  ·simp
  ·simp
theorem a8r.step {L:List Lt} (hL:Full p L) {s:St} (h:a8r p L s) {l:Lt} (hl:l∈L∨p.admit s l≠0):a8r p L (p.step s l):=by
 by_cases ha:p.admit s l=0
 ·have hl:l∈L:=by rcases hl with q | q;exact q;exact absurd ha q
  have h3:s.ph≠3:=fun e=>a8q e ha
  have h2:s.ph=2:=by rcases h.ph with q | q;exact q;exact absurd q h3
  have e:p.step s l=p.next s l:=if_pos ha
  have hg:=h.good.step l
  rw [e] at hg ⊢
  refine ⟨hg,?_,?_,?_⟩
  ·unfold a2c.next
   dsimp only
   rw [if_neg (fun ⟨_,q2⟩=>by
    obtain ⟨x,hx,hr⟩:=List.any_eq_true.1 q2
    have hxL:x∈L:=by
     rcases ae4 hx with q | rfl
     ·exact h.sub x q
     ·exact hl
    unfold a2c.refusal at hr
    rcases hL.gr x hxL with e | e<;>(rw [decide_eq_false (by omega)] at hr;cases hr))]
   split
   ·exact .inr rfl
   ·exact .inl h2
  ·intro x hx
   rcases ae4 hx with q | rfl
   ·exact h.sub x q
   ·exact hl
  ·show (s.more l).Nodup
   unfold St.more
   split
   ·exact h.nd
   ·rename_i ht
    rw [List.nodup_append]
    refine ⟨h.nd,by simp,fun a hak b hb=>?_⟩
    rw [List.mem_singleton] at hb
    subst hb
    exact fun e=>ht (List.any_eq_true.2 ⟨a,hak,(akl hL (h.sub a hak) hl).2 e⟩)
 ·rw [show p.step s l=s from if_neg ha];exact h
theorem aCp {s:St} {l x:Lt} (h:x∈s.K):x∈(p.step s l).K:=by
 refine a9p p s l (fun t=>x∈t.K) (fun _=>?_) h
 exact ar5 h
theorem aCq {L:List Lt} (hL:Full p L) {s:St} (h:a8r p L s) {l:Lt} (hl:l∈L) (h2:s.ph=2):l∈(p.step s l).K:=by
 have ha:p.admit s l=0:=by
  unfold a2c.admit
  rcases hL.gr l hl with e | e
  ·rw [if_neg (by omega),if_neg (by omega),if_neg (by rw [hL.ans l hl e];decide),if_neg (by omega)]
  ·obtain ⟨c1,c2⟩:=hL.com l hl e
   rw [if_neg (by omega),if_pos e,if_neg (by rw [c2];simp [c1]),if_neg (by omega)]
 rw [show p.step s l=p.next s l from if_pos ha]
 show l∈s.more l
 unfold St.more
 split
 ·rename_i ht
  obtain ⟨k,hk,hq⟩:=List.any_eq_true.1 ht
  rw [(akl hL (h.sub k hk) hl).1 hq] at hk
  exact hk
 ·exact List.mem_append_right _ (List.mem_singleton.2 rfl)
theorem a8r.fed {L:List Lt} (hL:Full p L):∀ (ls:List Lt) {s:St},a8r p L s→(∀ l,l∈ls→l∈L∨∀ t,p.admit t l≠0)→a8r p L (p.fed s ls):=by
 intro ls
 induction ls with
 | nil=>intro s h _;exact h
 | cons l ls ih =>
  intro s h hl
  refine ih (h.step hL ?_) fun x hx=>hl x (List.mem_cons_of_mem _ hx)
  rcases hl l (List.mem_cons_self ..) with q | q
  ·exact .inl q
  ·exact .inr (q s)
theorem aQh {x:Lt}:∀ (ls:List Lt) {s:St},x∈s.K→x∈(p.fed s ls).K:=by
 intro ls
 induction ls with
 | nil=>intro s h;exact h
 | cons l ls ih=>intro s h;exact ih (aCp h)
theorem aQi {L:List Lt} (hL:Full p L):∀ (ls:List Lt) {s:St},a8r p L s→(∀ l,l∈ls→l∈L)→(p.fed s ls).ph=2→∀ l,l∈ls→l∈(p.fed s ls).K:=by
 intro ls
 induction ls with
 | nil=>intro s _ _ _ l hl;cases hl
 | cons x ls ih =>
  intro s h hx h2 l hl
  have h2s:s.ph=2:=by
   rcases h.ph with q | q
   ·exact q
   ·rw [b43 q] at h2;cases h2
  rcases List.mem_cons.1 hl with rfl | hl
  ·exact aQh ls (aCq hL h (hx l (List.mem_cons_self ..)) h2s)
  ·exact ih (h.step hL (.inl (hx x (List.mem_cons_self ..)))) (fun y hy=>hx y (List.mem_cons_of_mem _ hy)) h2 l hl
theorem aHf {L:List Lt} (hL:Full p L) {s:St} (h:a8r p L s):(p.fed s L).ph=3∧(p.fed s L).K.length=L.length:=by
 have hF:=a8r.fed hL L h (fun l hl=>.inl hl)
 have h3:(p.fed s L).ph=3:=by
  rcases hF.ph with q | q
  ·exfalso
   have hall:=aQi hL L h (fun l hl=>hl) q
   obtain ⟨c,hc,hk⟩:=hL.has
   obtain ⟨c1,c2⟩:=hL.fits c hc hk
   have hb:=c2 (p.fed s L).K hF.sub fun l hl _=>hall l hl
   have hn:=hF.good.not q
   unfold a2c.a09 at hn
   rw [hb] at hn
   dsimp only at hn
   have:((p.fed s L).K.any fun x=>decide (x.kind=11)&&decide (x.frm=p.org)&&decide (x.st=1)&&decide (x.ref=c.ref))=true:=List.any_eq_true.2 ⟨c,hall c hc,by simp [hk,(hL.com c hc hk).1,c1]⟩
   rw [this] at hn
   cases hn
  ·exact q
 refine ⟨h3,?_⟩
 obtain ⟨hg,c,hc,hk,_⟩:=a3z (hF.good.com h3)
 have hsub:∀ x,x∈L→x∈(p.fed s L).K:=fun x hx=>by
  rcases hL.gr x hx with e | e
  ·have ha:=hL.ans x hx e
   unfold a2c.answer at ha
   simp only [Bool.and_eq_true,decide_eq_true_eq] at ha
   obtain ⟨y,hy,hy1,hy2⟩:=hg x.frm ha.2
   rw [hL.one x y hx (hF.sub y hy) e hy1 hy2.symm]
   exact hy
  ·rw [hL.b2v x c hx (hF.sub c hc) e hk]
   exact hc
 have l1:L.length≤(p.fed s L).K.length:=alp hL.nd hsub
 have l2:(p.fed s L).K.length≤L.length:=alp hF.nd hF.sub
 omega

def checked (mk:List Nat→a2c) (val:List Nat→Bool) (mtg:Nat) (K:List Lt):Nat :=
 match K.filter fun x=>decide (x.mtg=mtg) with
 | []=>0
 | a :: r =>
  let all:=(a :: r).filter fun x=>decide (x.cs=a.cs)
  if val a.cs=false then 0
  else if (mk a.cs).a09 all=true then 1
  else if (all.any fun x=>decide (x.kind=10)&&decide (x.frm∈a.cs))=true then 2 else 0
theorem a8m {mk:List Nat→a2c} {val:List Nat→Bool} {mtg:Nat} {cs:List Nat} {K:List Lt} (h0:K≠[]) (h1:∀ x,x∈K→x.mtg=mtg) (h2:∀ x,x∈K→x.cs=cs) :
  checked mk val mtg K=if val cs=false then 0 else if (mk cs).a09 K=true then 1 else if (K.any fun x=>decide (x.kind=10)&&decide (x.frm∈cs))=true then 2 else 0:=by
 unfold checked
 rw [List.filter_eq_self.2 (fun x hx=>by simpa using h1 x hx)]
 cases K with
 | nil=>exact absurd rfl h0
 | cons a r =>
  have ha:=h2 a (List.mem_cons_self ..)
  dsimp only
  rw [List.filter_eq_self.2 (fun x hx=>by simpa using (h2 x hx).trans ha.symm),ha]
theorem a4z {K:List Lt} (h:∀ x,x∈K→x.kind=11→x.frm≠p.org):p.a09 K=false:=by
 cases e:p.a09 K
 ·rfl
 ·obtain ⟨_,x,hx,hk,hf⟩:=a3z e
  exact absurd hf (h x hx hk)
theorem aaw {K:List Lt} {o:Nat} (ho:o∈p.own) (h:∀ x,x∈K→x.kind=9→x.frm≠o):p.a09 K=false:=by
 cases e:p.a09 K
 ·rfl
 ·obtain ⟨x,hx,hk,hf⟩:=(a3z e).1 o ho
  exact absurd hf (h x hx hk)
theorem Full.aXx {L:List Lt} (hL:Full p L) {x:Lt} (hx:x∈L):x.mtg=p.mtg∧x.cs=p.own:=by
 have hc:p.a6n x=true:=by
  rcases hL.gr x hx with e | e
  ·have:=hL.ans x hx e
   unfold a2c.answer at this
   simp only [Bool.and_eq_true] at this
   exact this.1.2
  ·exact (hL.com x hx e).2
 unfold a2c.a6n at hc
 simp only [Bool.and_eq_true,decide_eq_true_eq] at hc
 exact hc.1
theorem Full.au0 {L K:List Lt} (hL:Full p L) (hs:∀ x,x∈K→x∈L) (cs:List Nat):(K.any fun x=>decide (x.kind=10)&&decide (x.frm∈cs))=false:=by
 rw [List.any_eq_false]
 intro x hx
 rcases hL.gr x (hs x hx) with e | e<;>simp [e]
theorem apj {α:Type}:∀ {K:List α} {i:Nat} {a:α},K.Nodup→K[i]? = some a→a ∉ K.take i++K.drop (i+1):=by
 intro K
 induction K with
 | nil=>intro i a _ h;simp at h
 | cons b K ih =>
  intro i a hn h
  obtain ⟨h1,h2⟩:=List.nodup_cons.1 hn
  cases i with
  | zero =>
   simp only [List.getElem?_cons_zero,Option.some.injEq] at h
   subst h
   simpa using h1
  | succ i =>
   simp only [List.getElem?_cons_succ] at h
   have hm:=List.mem_of_getElem? h
   have:=ih h2 h
   simp only [List.take_succ_cons,List.drop_succ_cons,List.cons_append,List.mem_cons,not_or]
   exact ⟨fun e=>h1 (e ▸ hm),this⟩
theorem ati {L:List Lt} (hL:Full p L) {s:St} (hS:a8r p L s) (h3:s.ph=3) {mk:List Nat→a2c} {val:List Nat→Bool}
  (hv:val p.own=true) (hm:∀ K,(mk p.own).a09 K=p.a09 K):checked mk val p.mtg s.K=1:=by
 have hc:=hS.good.com h3
 have h0:s.K≠[]:=by
  obtain ⟨_,x,hx,_⟩:=a3z hc
  exact List.ne_nil_of_mem hx
 rw [a8m (cs:=p.own) h0 (fun x hx=>(hL.aXx (hS.sub x hx)).1) (fun x hx=>(hL.aXx (hS.sub x hx)).2),hv,hm,hc]
 rfl
theorem af4 {L K:List Lt} (hL:Full p L) (hs:∀ x,x∈K→x∈L) {mk:List Nat→a2c} {val:List Nat→Bool} (hm:(mk p.own).a09 K=false):checked mk val p.mtg K=0:=by
 by_cases h0:K = []
 ·rw [h0];rfl
 ·rw [a8m (cs:=p.own) h0 (fun x hx=>(hL.aXx (hs x hx)).1) (fun x hx=>(hL.aXx (hs x hx)).2),hm,hL.au0 hs]
  simp
theorem atj {L:List Lt} (hL:Full p L) {s:St} (hS:a8r p L s) {mk:List Nat→a2c} {val:List Nat→Bool} (ho:(mk p.own).org≠p.org):checked mk val p.mtg s.K=0 :=
 af4 hL hS.sub (a4z fun x hx hk=>by rw [(hL.com x (hS.sub x hx) hk).1];exact fun e=>ho e.symm)
theorem aoe {L:List Lt} (hL:Full p L) {s:St} (hS:a8r p L s) {mk:List Nat→a2c} {val:List Nat→Bool}
  (hm:∀ K,(mk p.own).a09 K=p.a09 K) {i:Nat} (hi:i < s.K.length):checked mk val p.mtg (s.K.take i++s.K.drop (i+1))=0:=by
 have hg:=List.getElem?_eq_getElem hi
 have hcut:=apj hS.nd hg
 have hmem:s.K[i]∈s.K:=List.getElem_mem hi
 have hsub:∀ x,x∈s.K.take i++s.K.drop (i+1)→x∈s.K:=fun x hx=>by
  rcases List.mem_append.1 hx with q | q
  ·exact List.mem_of_mem_take q
  ·exact List.mem_of_mem_drop q
 have haL:=hS.sub _ hmem
 refine af4 hL (fun x hx=>hS.sub x (hsub x hx)) ?_
 rw [hm]
 rcases hL.gr _ haL with e | e
 ·have ha:=hL.ans _ haL e
  unfold a2c.answer at ha
  simp only [Bool.and_eq_true,decide_eq_true_eq] at ha
  refine aaw ha.2 fun x hx hk hf=>hcut ?_
  rw [← hL.one x _ (hS.sub x (hsub x hx)) haL hk e hf]
  exact hx
 ·refine a4z fun x hx hk _=>hcut ?_
  rw [← hL.b2v x _ (hS.sub x (hsub x hx)) haL hk e]
  exact hx
theorem axq {K:List Lt} {x:Lt} {mk:List Nat→a2c} {val:List Nat→Bool} (hv:val p.own=true) (hc:∀ y,y∈K→y.mtg=p.mtg∧y.cs=p.own) (hk:∀ y,y∈K→y.kind≠11)
  (hx:x∈K) (h1:x.kind=10) (h2:x.frm∈p.own):checked mk val p.mtg K=2:=by
 rw [a8m (cs:=p.own) (List.ne_nil_of_mem hx) (fun y hy=>(hc y hy).1) (fun y hy=>(hc y hy).2),hv,a4z (fun y hy e=>absurd e (hk y hy))]
 have:(K.any fun x=>decide (x.kind=10)&&decide (x.frm∈p.own))=true:=List.any_eq_true.2 ⟨x,hx,by simp [h1,h2]⟩
 rw [this]
 rfl
end Go.Rv
namespace Go.Proofs.YtlnlbdfokmhelaaGreatDoor
open Go.RowKit
set_option maxRecDepth 20000
set_option maxHeartbeats 4000000
def a4r (W:World) (v:Value) (l:List Nat):Prop := ∃ a c,v=.slice a l.length c∧(l≠[]→∃ b o row,a=some ⟨b,o,none⟩∧obj W b=some (.cells row 3 (0,0))∧∀ i,i < l.length→row[o+i]? = some (.int .i64 (l.getD i 0:Nat)))
theorem a4r.below {W W':World} {v:Value} {l:List Nat} (h:a4r W v l) (hb:Below W.heap.size W W'):a4r W' v l:=by
 obtain ⟨a,c,h1,h2⟩:=h
 refine ⟨a,c,h1,fun hn=>?_⟩
 obtain ⟨b,o,row,e1,e2,e3⟩:=h2 hn
 exact ⟨b,o,row,e1,a00 e2 hb (a04 e2),e3⟩
theorem a14 (a b:Nat):((a:Int) == (b:Int))=decide (a=b):=by
 by_cases h:a=b
 ·subst h;simp
 ·simp [h];omega
theorem aou {a b:List Nat} (hl:a.length=b.length) (h:∀ j,j < a.length→a.getD j 0=b.getD j 0):a=b:=by
 apply List.ext_getElem hl
 intro i h1 h2
 have:=h i h1
 rwa [List.getD_eq_getElem?_getD,List.getD_eq_getElem?_getD,List.getElem?_eq_getElem h1,List.getElem?_eq_getElem h2] at this
theorem below_drewN {B:Nat} {w wr:World} (h:Below B w wr) (n:Nat):Below B w (wr.drewN n):=⟨h.os,h.tape,h.output,h.size,h.block⟩
theorem adk {W:World} {u v:Value} {a b:List Nat} (ha:a4r W u a) (hb:a4r W v b) (hz:a.length≤1000000) :
  Calls Tryz.prog 116 #[u,v] W fun e W'=>e=.returned (.bool (decide (a=b)))∧Below W.heap.size W W':=by
 obtain ⟨pa,ca,rfl,ha⟩:=ha
 obtain ⟨pb,cb,rfl,hb⟩:=hb
 by_cases hl:a.length=b.length
 ·have hne:((a.length:Int) == (b.length:Int))=true:=by simp [hl]
  rw [← hl]
  go_enter Tryz.func116,Tryz.ntmps116
  repeat' (first | go_skip | go_guarded | go_step | go_upon)
  go_loopw [13] (fun i wr => ∃ k:Nat,k≤a.length∧i=.int .i64 k∧(∀ j,j < k→a.getD j 0=b.getD j 0)∧Below W.heap.size W wr) (fun i _=>(a.length - intOf i).toNat)
  case atStart=>exact ⟨0,by omega,rfl,fun j hj=>by omega,Below.refl _ _⟩
  case round =>
   obtain ⟨k,hk,rfl,hno,hB⟩:=hrel
   have HNO:=Lib.hid hno
   clear hno
   by_cases hlt:k < a.length
   ·have i1:(k:Int) < (a.length:Int):=by omega
    obtain ⟨ba,oa,ra,rfl,ha1,ha2⟩:=ha (fun e=>by rw [e] at hlt;simp at hlt)
    obtain ⟨bb,ob,rb,rfl,hb1,hb2⟩:=hb (fun e=>by rw [e] at hl;rw [hl] at hlt;simp at hlt)
    have c1:=(a01 (a00 ha1 hB (a04 ha1)) (oa+k)).trans (ha2 k hlt)
    have c2:=(a01 (a00 hb1 hB (a04 hb1)) (ob+k)).trans (hb2 k (by omega))
    clear ha hb ha1 ha2 hb1 hb2
    by_cases he:a.getD k 0=b.getD k 0
    ·have HE:=Lib.hid he
     rw [he] at c1
     clear he
     generalize b.getD k 0=x at c1 c2
     repeat' (first | (go_quiet (skip)) | go_skip | go_guarded | go_step | go_upon)
     exact ⟨⟨k+1,by omega,by go_num,fun j hj=>by
      rcases Nat.lt_succ_iff_lt_or_eq.1 hj with h | rfl
      ·exact HNO.out j h
      ·exact HE.out,below_drewN hB _⟩,by simp [intOf];omega⟩
    ·have HE:=Lib.hid he
     have hx:((a.getD k 0:Nat):Int)≠((b.getD k 0:Nat):Int):=by omega
     clear he
     generalize ((a.getD k 0:Nat):Int)=x at *
     generalize ((b.getD k 0:Nat):Int)=y at *
     repeat' (first | (go_quiet (skip)) | go_skip | go_guarded | go_step | go_upon)
     go_ret
     have:a≠b:=fun e=>HE.out (by rw [e])
     exact ⟨by simp [this],below_drewN hB _⟩
   ·have i1 : ¬ (k:Int) < (a.length:Int):=by omega
    have:a=b:=aou hl fun j hj=>HNO.out j (by omega)
    have HT:=Lib.hid this
    clear this
    repeat' (first | go_skip | go_guarded | go_step | go_upon)
    go_ret
    exact ⟨by simp [HT.out],hB⟩
 ·have hne:((a.length:Int) == (b.length:Int))=false:=by simp;omega
  have HT:=Lib.hid (show a≠b from fun e=>hl (by rw [e]))
  clear hl
  go_enter Tryz.func116,Tryz.ntmps116
  repeat' (first | go_skip | go_guarded | go_step | go_upon)
  go_ret
  exact ⟨by simp [HT.out],Below.refl _ _⟩
theorem ap5 {W:World} {v:Value} {l:List Nat} (hv:a4r W v l) (hz:l.length≤1000000) (x:Nat) :
  Calls Tryz.prog 109 #[v,.int .i64 x] W fun e W'=>(∃ k:Nat,k < l.length∧l.getD k 0=x∧e=.returned (.int .i64 k)∧Below W.heap.size W W')∨(¬ x∈l∧e=.returned (.int .i64 (-1))∧Below W.heap.size W W'):=by
 obtain ⟨pa,ca,rfl,ha⟩:=hv
 go_enter Tryz.func109,Tryz.ntmps109
 repeat' (first | go_skip | go_guarded | go_step | go_upon)
 go_loopw [8] (fun i wr => ∃ k:Nat,k≤l.length∧i=.int .i64 k∧(∀ j,j < k→l.getD j 0≠x)∧Below W.heap.size W wr) (fun i _=>(l.length - intOf i).toNat)
 case atStart=>exact ⟨0,by omega,rfl,fun j hj=>by omega,Below.refl _ _⟩
 case round =>
  obtain ⟨k,hk,rfl,hno,hB⟩:=hrel
  have HNO:=Lib.hid hno
  clear hno
  by_cases hlt:k < l.length
  ·have i1:(k:Int) < (l.length:Int):=by omega
   obtain ⟨ba,oa,ra,rfl,ha1,ha2⟩:=ha (fun e=>by rw [e] at hlt;simp at hlt)
   have c1:=(a01 (a00 ha1 hB (a04 ha1)) (oa+k)).trans (ha2 k hlt)
   clear ha ha1 ha2
   by_cases he:l.getD k 0=x
   ·have HE:=Lib.hid he
    rw [he] at c1
    clear he
    repeat' (first | (go_quiet (skip)) | go_skip | go_guarded | go_step | go_upon)
    go_ret
    exact .inl ⟨k,hlt,HE.out,rfl,by first | exact hB | exact below_drewN hB _⟩
   ·have HE:=Lib.hid he
    have hx:(x:Int)≠((l.getD k 0:Nat):Int):=by omega
    clear he
    generalize ((l.getD k 0:Nat):Int)=y at *
    repeat' (first | (go_quiet (skip)) | go_skip | go_guarded | go_step | go_upon)
    exact ⟨⟨k+1,by omega,by go_num,fun j hj=>by
     rcases Nat.lt_succ_iff_lt_or_eq.1 hj with h | rfl
     ·exact HNO.out j h
     ·exact HE.out,by first | exact hB | exact below_drewN hB _⟩,by simp [intOf];omega⟩
  ·have i1 : ¬ (k:Int) < (l.length:Int):=by omega
   have HT:=Lib.hid (show ¬ x∈l from fun hm=>by
    obtain ⟨j,hj,e⟩:=List.getElem_of_mem hm
    refine HNO.out j (by omega) ?_
    rw [List.getD_eq_getElem?_getD,List.getElem?_eq_getElem hj]
    exact e)
   clear ha
   repeat' (first | go_skip | go_guarded | go_step | go_upon)
   go_ret
   exact .inr ⟨HT.out,rfl,hB⟩
theorem a5u {W:World} {v:Value} {l:List Nat} (hv:a4r W v l) (hz:l.length≤1000000) (x:Nat) :
  Calls Tryz.prog 118 #[v,.int .i64 x] W fun e W'=>e=.returned (.bool (decide (x∈l)))∧Below W.heap.size W W':=by
 have HI:=Lib.hid (ap5 hv hz x)
 by_cases hx:x∈l
 ·have HI2:Hid (Calls Tryz.prog 109 #[v,.int .i64 x] W fun e W' => ∃ k:Nat,e=.returned (.int .i64 k)∧Below W.heap.size W W'):=Lib.hid (HI.out.mono fun e W' h=>by
   rcases h with ⟨k,_,_,h1,h2⟩ | ⟨h0,_⟩
   ·exact ⟨k,h1,h2⟩
   ·exact absurd hx h0)
  clear HI
  have HX:=Lib.hid hx
  clear hx
  go_enter Tryz.func118,Tryz.ntmps118
  repeat' (first | (go_at_call 109;((with_reducible refine (HI2.out).mono ?_));rintro r w' ⟨k,rfl,hB⟩;dsimp only) | go_skip | go_guarded | go_step | go_upon)
  go_ret
  exact ⟨by simp [HX.out],hB⟩
 ·have HI2:Hid (Calls Tryz.prog 109 #[v,.int .i64 x] W fun e W'=>e=.returned (.int .i64 (-1))∧Below W.heap.size W W'):=Lib.hid (HI.out.mono fun e W' h=>by
   rcases h with ⟨k,h1,h2,_⟩ | ⟨h0,h1⟩
   ·refine absurd ?_ hx
    rw [List.getD_eq_getElem?_getD,List.getElem?_eq_getElem h1] at h2
    rw [← h2]
    exact List.getElem_mem h1
   ·exact h1)
  clear HI
  have HX:=Lib.hid hx
  clear hx
  go_enter Tryz.func118,Tryz.ntmps118
  repeat' (first | (go_at_call 109;((with_reducible refine (HI2.out).mono ?_));rintro r w' ⟨rfl,hB⟩;dsimp only) | go_skip | go_guarded | go_step | go_upon)
  go_ret
  exact ⟨by simp [HX.out],hB⟩
end Go.Proofs.YtlnlbdfokmhelaaGreatDoor
namespace Go.Proofs.YtlnlbdfokmhelaaGreatDoor
open Go Go.RowKit
section
variable {P:Program}
theorem a2x {id:Nat} {Q:Exit→Act→World→Prop} {a:Act} {w:World} {l:List Oper} (hm:P.follows .mixedOrders=true) (hB:Region.lexB .any l.toArray=true)
  (h:wpQuiet P l.toArray (fun w'=>Below w.heap.size w w') (fun a'=>∀ w',Below w.heap.size w w'→Q .normal a' w') l a):(Code.region id l.toArray true).wp P Q a w :=
 wp_region_quiet (C:=fun w'=>Below w.heap.size w w') hm hB (Below.refl _ _).drew (by simpa using h)
theorem a2u {id:Nat} {Q:Exit→Act→World→Prop} {a:Act} {w:World} {l:List Oper} (n:Nat) (hm:P.follows .mixedOrders=true) (hB:Region.lexTailB .any l.toArray n=true)
  (h:wpQuiet P l.toArray (fun w'=>Below w.heap.size w w') (fun a'=>∀ w',Below w.heap.size w w'→wpList P l.toArray Q (l.drop n) a' w') (l.take n) a):(Code.region id l.toArray true).wp P Q a w:=by
 simp only [Region.lexTailB,Bool.and_eq_true,decide_eq_true_eq] at hB
 obtain ⟨⟨⟨⟨hsel,hn⟩,hs⟩,hc⟩,hlex⟩:=hB
 have hn':n < l.length:=by simpa using hn
 have htl:(l.take n).length=n:=by simp;omega
 have hdl:(l.drop n).length=l.toArray.size - n:=by simp
 have inv0:HeadInv .any l.toArray n (Array.replicate l.toArray.size false) :=
  ⟨by simp,fun j oj _ hl=>(by rw [getD_replicate_false] at hl;cases hl),fun t _ ht=>getD_in (by simpa using ht) (getD_replicate_false _ _)⟩
 have H:=aam (md:=.any) (C:=fun w'=>Below w.heap.size w w') (g:=l.toArray.size - n) hsel hs hc hn (l.take n) 0 _ a (fun j hj=>by
  have hj':j < n:=by rw [htl] at hj;exact hj
  simp [hj']) (by simpa using htl) inv0 (by rw [htl];exact hlex) h
 refine wp_region_any hm ?_
 have:=a7j (Q':=Q) (g:=l.toArray.size - n) (fun listed a' w' hw' hL=>by
  have:=wpAny_of_seq (md:=.any) (Q':=Q) (l.drop n) n listed a' w' (fun j=>by simp [List.getElem?_drop]) (by rw [hdl];exact hL.1) (hL.2 w' hw')
  rwa [hdl] at this) _ _ _ { w with drawn:=w.drawn+1 } (Below.refl _ _).drew H
 rw [htl,show n+(l.toArray.size - n)=l.toArray.size by omega] at this
 exact this
theorem a4q {f:FuncId} {args:Array Value} {w W:World} {v:Value} (hW:Below w.heap.size w W) (h:Calls P f args W fun e w'=>e=.returned v∧Below W.heap.size W w') :
  Calls P f args W fun e w''=>e=.returned v∧Below w.heap.size w w'':=h.mono fun _ _ ⟨he,hb⟩=>⟨he,hW.trans (hb.mono hW.size)⟩
def putAt (c:Array Value) (o:Nat) (vs:Array Value):Array Value:=(c.toList.take o++(vs.toList++c.toList.drop (o+vs.size))).toArray
theorem ahf {c:Array Value} {o:Nat} {vs:Array Value} (h:o+vs.size≤c.size):(putAt c o vs).size=c.size:=by
 unfold putAt
 simp
 omega
theorem abk {c:Array Value} {o:Nat} {vs:Array Value} (h:o+vs.size≤c.size) (j:Nat):(putAt c o vs)[j]? = if o≤j∧j < o+vs.size then vs[j - o]? else c[j]? := by
 unfold putAt
 rw [List.getElem?_toArray]
 by_cases h1:j < o
 ·rw [List.getElem?_append_left (by simp;omega),List.getElem?_take,if_pos h1,if_neg (by omega),Array.getElem?_toList]
 ·rw [List.getElem?_append_right (by simp;omega)]
  have e:j - (List.take o c.toList).length=j - o:=by simp;omega
  rw [e]
  by_cases h2:j < o+vs.size
  ·rw [if_pos ⟨by omega,h2⟩,List.getElem?_append_left (by simp;omega),Array.getElem?_toList]
  ·rw [if_neg (by omega),List.getElem?_append_right (by simp;omega),List.getElem?_drop,Array.length_toList,Array.getElem?_toList]
   congr 1;omega
theorem aiw {c:Array Value} {o:Nat} {vs:Array Value} (h:o+vs.size≤c.size):(putAt c o vs).extract o (o+vs.size)=vs:=by
 apply Array.ext_getElem?
 intro j
 rw [Array.getElem?_extract,abk h,ahf h]
 by_cases hj:j < vs.size
 ·rw [if_pos (by omega),if_pos (by omega),show o+j - o=j by omega]
 ·rw [if_neg (by omega),Array.getElem?_eq_none (by omega)]
end
theorem axp (c:Array Value) (o:Nat):putAt c o #[]=c:=by
 unfold putAt
 simp
theorem atg (c:Array Value) (o:Nat) (v:Value) (r:List Value) (h:o+(r.length+1)≤c.size):putAt (c.setIfInBounds o v) (o+1) r.toArray=putAt c o (v :: r).toArray:=by
 apply Array.ext_getElem?
 intro j
 rw [abk (by simp;omega),abk (by simp;omega)]
 simp only [List.size_toArray,List.length_cons,List.getElem?_toArray]
 by_cases h1:o+1≤j∧j < o+1+r.length
 ·rw [if_pos h1,if_pos (by omega),show j - o=(j - (o+1))+1 by omega,List.getElem?_cons_succ]
 ·rw [if_neg h1,Array.getElem?_setIfInBounds]
  by_cases h2:o=j
  ·subst h2
   rw [if_pos rfl,if_pos (by omega),if_pos (by omega),Nat.sub_self];rfl
  ·rw [if_neg h2,if_neg (by omega)]
theorem a9f (b:Nat) (t:TypeId):∀ (vs:List Value) (o:Nat) (w:World) (c:Array Value),obj w b=some (.cells c t (0,0))→o+vs.length≤c.size →
  obj (w.setCells b o vs) b=some (.cells (putAt c o vs.toArray) t (0,0))∧(∀ x,x≠b→obj (w.setCells b o vs) x=obj w x)∧(w.setCells b o vs).heap.size=w.heap.size
 | [],o,w,c,h,_=>⟨by rw [show (List.toArray ([]:List Value))=#[] from rfl,axp];exact h,fun _ _=>rfl,rfl⟩
 | v :: r,o,w,c,h,hs=>by
  have hs':o+(r.length+1)≤c.size:=by simpa using hs
  have h1:obj (w.setCell ⟨b,o,none⟩ v) b=some (.cells (c.setIfInBounds o v) t (0,0)):=by rw [a0l,h];rfl
  obtain ⟨q1,q2,q3⟩:=a9f b t r (o+1) (w.setCell ⟨b,o,none⟩ v) (c.setIfInBounds o v) h1 (by simp;omega)
  refine ⟨?_,fun x hx=>?_,?_⟩
  ·rw [← atg c o v r hs'];exact q1
  ·exact (q2 x hx).trans (a1e w _ v x hx)
  ·exact q3.trans (by simp [World.setCell])
theorem below_setCells {B:Nat} {w0:World} (b:Nat) (hb:B≤b):∀ (vs:List Value) (o:Nat) (w:World),Below B w0 w→Below B w0 (w.setCells b o vs)
 | [],_,_,h=>h
 | v :: r,o,w,h=>below_setCells b hb r (o+1) _ (h.setCell (by simpa using hb) v)
theorem ad7 {P:Program} (T:TypeId) (n b o:Nat) (cs:Array Value) (w:World) (ho:o≠0) (ht:w.there b o cs.size) (hi:(P.info? T).map (·.size)=some cs.size) (h1:ones cs=true) :
  a2n P T n (.pointer (some ⟨b,o,none⟩)) (.agg cs) w=.ok () (w.setCells b o cs.toList):=by
 have e:a2n P T n (.pointer (some ⟨b,o,none⟩)) (.agg cs) w=a9u P T (.pointer (some ⟨b,o,none⟩)) (.agg cs) w:=by
  unfold a2n
  split
  ·rename_i h _
   cases h
   exact absurd rfl ho
  ·rfl
 rw [e]
 exact run_storeAt_mid w b o T cs ht hi h1
theorem akm {w:World} {b o n:Nat} {t:TypeId} {c:Array Value} (h:obj w b=some (.cells c t (0,0))) (hs:o+n≤c.size):w.there b o n:=fun j hj=>by
 refine ⟨?_,a0t h _⟩
 rw [a01 h,Array.getElem?_eq_getElem (by omega)]
 rfl
end Go.Proofs.YtlnlbdfokmhelaaGreatDoor
namespace Go.Proofs.YtlnlbdfokmhelaaGreatDoor
open Go.RowKit Go.CE Go.CE.V
attribute [local instance] Sn a5k
def abj (P:Program) (t:TypeId) (x i:Value) (w:World):Result Value:=(Instr.index t x i).run P w
theorem a6k {P:Program} {t e n:Nat} {cs:Array Value} {k:IntKind} {i:Int} {w:World} (ht:(CE.a1q P t).map (fun ty=>ty.d)=some (.arr n e)) (he:(CE.a1q P e).map (fun ty=>(CE.agg ty.d,ty.size))=some (false,1)) (h0:0≤i) (h1:i < n) :
  (Instr.index t (.agg cs) (.int k i)).run P w=(cs[i.toNat]?).elim (abj P t (.agg cs) (.int k i) w) fun v=>.ok v w:=by
 obtain ⟨ty,ht,htd⟩:=Option.map_eq_some_iff.1 ht
 obtain ⟨te,he,hed⟩:=Option.map_eq_some_iff.1 he
 obtain ⟨hea,hes⟩:=Prod.mk.inj hed
 obtain ⟨F⟩:=a0z ht
 obtain ⟨Fe⟩:=a0z he
 have hd:=htd
 rw [F.ed] at hd
 have hdd:=a8d hd
 cases hc:cs[i.toNat]? with
 | none=>rfl
 | some v =>
  have hz:=Fe.a4y
  rw [hes] at hz
  have ha:=Fe.a9a
  rw [hea] at ha
  simp [Instr.index,asIntOf,F.run_underlying,hdd,h0,h1,hz,part,ha,hc]
@[go_sem] theorem ix_ptr (cs:Array Value) (k:IntKind) (i:Int) (w:World) (h0:0≤i) (h1:i < 17):(Instr.index 181 (.agg cs) (.int k i)).run Tryz.prog w=(cs[i.toNat]?).elim (abj Tryz.prog 181 (.agg cs) (.int k i) w) fun v=>.ok v w :=
 a6k (n:=17) (e:=180) (by kernel_rfl) (by kernel_rfl) h0 h1
@[go_sem] theorem b3k (cs:Array Value) (k:IntKind) (i:Int) (w:World) (h0:0≤i) (h1:i < 17):(Instr.index 191 (.agg cs) (.int k i)).run Tryz.prog w=(cs[i.toNat]?).elim (abj Tryz.prog 191 (.agg cs) (.int k i) w) fun v=>.ok v w :=
 a6k (n:=17) (e:=4) (by kernel_rfl) (by kernel_rfl) h0 h1
@[go_sem] theorem b3j (cs:Array Value) (k:IntKind) (i:Int) (w:World) (h0:0≤i) (h1:i < 17):(Instr.index 229 (.agg cs) (.int k i)).run Tryz.prog w=(cs[i.toNat]?).elim (abj Tryz.prog 229 (.agg cs) (.int k i) w) fun v=>.ok v w :=
 a6k (n:=17) (e:=1) (by kernel_rfl) (by kernel_rfl) h0 h1
theorem ax7 (d:Nat) (x y:Int) (w:World):(Op.equalIn (d+1) 5 (.int .u8 x) (.int .u8 y)).run Tryz.prog w=.ok (x == y) w:=by
 have hu:=Tryz.underlying5
 simp [Op.equalIn,run_underlying hu]
theorem ad8 (d:Nat) (a b:List UInt8) (ha:a.length=32) (hb:b.length=32) (w:World):∀ is:List Nat,(∀ i∈is,i < 32) →
  (Op.eqItems (d+1) 5 1 (a0i a) (a0i b) is).run Tryz.prog w=.ok (is.all fun i=>a.getD i 0 == b.getD i 0) w
 | [],_=>by simp [Op.eqItems]
 | i :: is,h=>by
  have hi:=h i (by simp)
  have e1:=a5f a i (by omega)
  have e2:=a5f b i (by omega)
  obtain ⟨te,he,hed⟩:=Option.map_eq_some_iff.1 (show (CE.a1q Tryz.prog 5).map (fun ty=>(CE.agg ty.d,ty.size))=some (false,1) by kernel_rfl)
  obtain ⟨hea,hes⟩:=Prod.mk.inj hed
  obtain ⟨Fe⟩:=a0z he
  have hag:=Fe.a9a
  rw [hea] at hag
  have ih:=ad8 d a b ha hb w is (fun j hj=>h j (by simp [hj]))
  simp only [Op.eqItems,Sem.run_bind,part,hag,Result.andThen_ok,Nat.mul_one,e1,e2,Bool.false_eq_true,if_false,Sem.run_pure,ax7,List.all_cons]
  have hc:(((a.getD i 0).toNat:Int) == ((b.getD i 0).toNat:Int))=(a.getD i 0 == b.getD i 0):=by
   by_cases e:a.getD i 0=b.getD i 0
   ·rw [e];simp
   ·have:(a.getD i 0).toNat≠(b.getD i 0).toNat:=fun h=>e (UInt8.toNat_inj.1 h)
    rw [beq_eq_false_iff_ne.2 e,beq_eq_false_iff_ne.2 (by omega)]
  rw [hc]
  cases (a.getD i 0 == b.getD i 0)
  ·simp
  ·simp [ih]
theorem aA2 (a b:List UInt8) (ha:a.length=32) (hb:b.length=32) (w:World):(Op.equalIn 10000 46 (.agg (a0i a)) (.agg (a0i b))).run Tryz.prog w=.ok (decide (a=b)) w:=by
 obtain ⟨i0,hi,hz0,hz1,hz2⟩:=aax
 rw [run_equalIn_array w 9999 (a0i a) (a0i b) (n:=32) (e:=5) (by exact Tryz.underlying46) hi,show Tryz.prog.cellsOf 5=1 by kernel_rfl,ad8 9998 a b ha hb w _ (fun i hi=>List.mem_range.1 hi)]
 refine congrArg (fun b=>Result.ok b w) ?_
 by_cases e:a=b
 ·subst e;rw [decide_eq_true rfl];exact List.all_eq_true.2 fun i _=>by simp
 ·rw [decide_eq_false e,List.all_eq_false]
  refine Classical.byContradiction fun hn=>e (List.ext_getElem? fun i=>?_)
  by_cases hi:i < 32
  ·have:a.getD i 0=b.getD i 0:=Classical.byContradiction fun hne=>hn ⟨i,List.mem_range.2 hi,by simpa using hne⟩
   rw [List.getD_eq_getElem?_getD,List.getD_eq_getElem?_getD,List.getElem?_eq_getElem (by omega),List.getElem?_eq_getElem (by omega)] at this
   rw [List.getElem?_eq_getElem (by omega),List.getElem?_eq_getElem (by omega)]
   exact congrArg some this
  ·rw [List.getElem?_eq_none (by omega),List.getElem?_eq_none (by omega)]
end Go.Proofs.YtlnlbdfokmhelaaGreatDoor
