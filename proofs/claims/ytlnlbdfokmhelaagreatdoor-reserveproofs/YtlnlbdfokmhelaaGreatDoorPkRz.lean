/-
  The laws of the reference's letters as a tree; rows of letters as abstract values.
-/
import Derived.Test.YtlnlbdfokmhelaaGreatDoorPkRwY
import Derived.Test.YtlnlbdfokmhelaaGreatDoorPkShR
set_option linter.unusedSectionVars false
set_option linter.constructorNameAsVariable false
set_option linter.unusedVariables false
set_option linter.unusedSimpArgs false
namespace Go.CE
namespace V
open Go.Proofs Go.Proofs.YtlnlbdfokmhelaaGreatDoor Go.RowKit
set_option maxRecDepth 100000
section
variable [Sym] [a0n]
noncomputable def tQ:LT:=.n 169 rbQ rbE (.n 155 (asy a5l) (aik a5l) .e .e) (.n 196 rvQ rvE .e .e)
theorem b4y:tQ.all (Good Tryz.prog):=⟨al5,⟨ach,trivial,trivial⟩,⟨al4,trivial,trivial⟩⟩
end
end V
end Go.CE
namespace Go.CE
namespace V
open Go.Proofs Go.Proofs.YtlnlbdfokmhelaaGreatDoor Go.RowKit
set_option maxRecDepth 100000
theorem awu [Sym] [a0n] {T B:Nat} {P:Program} {τ:Sg} {s':CE.St} {f':QW} {W':World} {q:P4} {k o n c:Nat} {l:List AV} {u:Value} (hT:P.cellsOf T=1) (hrs:RS 2048 s' f') (hsr:SR P B τ s'.mem W') (hq:q=p4 k) (hgw:gw k=true) (hn:n=l.length)
  (hb:akd T (getM q f'.m) o n=some l) (hix:l.all ahy=true) (hv:VR τ (.sl (some (k,o)) n c) u):Sl 0 W' u T (l.map aa7):=by
 subst hq
 unfold akd at hb
 split at hb
 ·rename_i t m U hm
  split at hb
  ·rename_i hc
   simp only [Bool.and_eq_true] at hc
   have hle:o+n≤m:=Nat.le_of_ble_eq_true hc.1
   have hU:T=U:=Nat.eq_of_beq_eq_true hc.2
   subst hU
   have hl:a07 t o n=l:=Option.some.inj hb
   have hR:=hrs.m k
   rw [hm] at hR
   generalize hg:s'.mem.get k=y at hR
   cases hR
   obtain ⟨Q,ob,hQ,hh,cs,hcs,_,h2,h3,h4⟩:=hsr.mr k _ hg
   obtain ⟨h2a,h2b⟩:=h2 hgw
   cases hv with
   | sl _ _ _ _ c' Q' hQ' aWu _ hz =>
    rw [hQ] at hQ';cases hQ'
    have hz:=hz hgw
    have hs1:Q.sz=1:=by rw [← h2b];exact hT
    rw [hs1,Nat.mul_one] at hz
    refine ⟨Q.b,o+Q.d,c',cs,by rw [List.length_map,hn],Nat.zero_le _,by rw [hh,hcs],by omega,?_,fun i hi=>?_⟩
    ·rw [List.length_map,← hn]
     have h3':Q.d+m≤cs.size:=by simpa [a0q] using h3
     omega
    ·rw [List.length_map,← hn] at hi
     have hx:(a07 t 0 m)[o+i]? = some (l[i]'(by omega)):=by
      rw [a7y t m o n i hi hle,hl,List.getElem?_eq_getElem]
     have h3':Q.d+m≤cs.size:=by simpa [a0q] using h3
     have hlt:Q.d+(o+i) < cs.size:=by omega
     have hvr:=h4 (o+i) _ cs[Q.d+(o+i)] hx (Array.getElem?_eq_getElem hlt)
     have:=aii hvr (List.all_eq_true.1 hix _ (List.getElem_mem _))
     rw [show o+Q.d+i=Q.d+(o+i) by omega,Array.getElem?_eq_getElem hlt,this]
     rw [List.getElem?_map,List.getElem?_eq_getElem (show i < l.length by omega)]
     rfl
  ·cases hb
 ·cases hb
section
variable [Sym] [a0n]
theorem aIq {σ:Sg} {x:NL} (hr:∀ n∈x.ref,n < 256) {c:AV} {arr:Array Value} (ha:LR σ (a7c x c) arr) : ∃ u,arr=(x.ln.let u).row∧VR σ c u:=by
 obtain ⟨u,hu,hvu⟩:=ha.at (axc x c)
 refine ⟨u,?_,hvu⟩
 obtain ⟨arr2,q1,q2⟩:=(aff (σ:=σ) hr hvu).aot
 cases q1
 refine aB5 ha q2 fun i a hi=>?_
 by_cases e:i=29
 ·subst e;right;rw [hu];exact (aid (x.ln.let u)).symm
 ·left;exact axb x c i e a hi
theorem aA0 {α:Type} {f:α→List AV} {z:Nat}:∀ {xs:List α},(∀ x∈xs,(f x).length=z)→∀ i (h:i < xs.length) j,j < z→(xs.flatMap f)[i * z+j]? = (f xs[i])[j]?
 | [],_,i,h,_,_=>by simp at h
 | x :: xs,hz,i,h,j,hj=>by
  have hx:=hz x (List.mem_cons_self ..)
  rw [List.flatMap_cons]
  cases i with
  | zero =>
   rw [List.getElem?_append_left (by omega)]
   simp
  | succ i =>
   rw [List.getElem?_append_right (by rw [hx,Nat.succ_mul];omega),hx,show (i+1) * z+j - z=i * z+j by rw [Nat.succ_mul];omega]
   exact aA0 (fun y hy=>hz y (List.mem_cons_of_mem _ hy)) i (by simpa using h) j hj
theorem aPu {xs:List NL} (hx:∀ x∈xs,x.ok=true) {c:AV} {B:Nat} {τ:Sg} {s':CE.St} {f':QW} {W':World} {q:P4} {k o n cc:Nat} {u:Value} (hrs:RS 2048 s' f') (hsr:SR Tryz.prog B τ s'.mem W') (hq:q=p4 k) (hn:n=xs.length)
  (hb:akd 48 (getM q f'.m) o (xs.length * 62)=some (xs.flatMap fun x=>a7c x c)) (hv:VR τ (.sl (some (k,o)) n cc) u) :
  ∃ cv:Nat→Value,a5h W' u 48 62 xs.length (fun i=>((xs.map NL.ln).getD i a0c |>.let (cv i)).row)∧∀ i,i < xs.length→VR τ c (cv i):=by
 subst hq
 unfold akd at hb
 split at hb
 ·rename_i t m U hm
  split at hb
  ·rename_i hc
   simp only [Bool.and_eq_true] at hc
   have hle:o+xs.length * 62≤m:=Nat.le_of_ble_eq_true hc.1
   have hU:48=U:=Nat.eq_of_beq_eq_true hc.2
   subst hU
   have hl:a07 t o (xs.length * 62)=xs.flatMap fun x=>a7c x c:=Option.some.inj hb
   have hR:=hrs.m k
   rw [hm] at hR
   generalize hg:s'.mem.get k=y at hR
   cases hR
   obtain ⟨Q,ob,hQ,hh,cs,hcs,_,h2,h3,h4⟩:=hsr.mr k _ hg
   have h3':Q.d+m≤cs.size:=by simpa [a0q] using h3
   have hz:∀ x∈xs,(a7c x c).length=62:=fun x h=>aar (hx x h) c
   cases hv with
   | sl _ _ _ _ c' Q' hQ' aWu _ _ =>
    rw [hQ] at hQ';cases hQ'
    have key:∀ i,i < xs.length→∃ w,cs.extract (o+Q.d+i * 62) (o+Q.d+i * 62+62)=((xs.map NL.ln).getD i a0c |>.let w).row∧VR τ c w:=fun i hi=>by
     have b3u:i * 62+62≤xs.length * 62:=by rw [← Nat.succ_mul];exact Nat.mul_le_mul_right 62 hi
     have hxi:=hx xs[i] (List.getElem_mem hi)
     have hln:(xs.map NL.ln).getD i a0c=xs[i].ln:=by rw [List.getD_eq_getElem?_getD,List.getElem?_map,List.getElem?_eq_getElem hi];rfl
     rw [hln]
     refine aIq (NL.adt hxi).2 ⟨?_,fun j a v e1 e2=>?_⟩
     ·rw [aar hxi,Array.size_extract]
      omega
     ·have hj:j < 62:=by
       have:=(List.getElem?_eq_some_iff.1 e1).1
       rwa [aar hxi] at this
      rw [Array.getElem?_extract,if_pos (by omega)] at e2
      refine h4 (o+(i * 62+j)) a v ?_ (by rw [← e2];congr 1;omega)
      rw [a7y t m o (xs.length * 62) (i * 62+j) (by omega) hle,hl,aA0 hz i hi j hj]
      exact e1
    refine ⟨fun i=>if h:i < xs.length then Classical.choose (key i h) else undef,⟨_,c',by rw [hn],fun _=>⟨Q.b,o+Q.d,cs,rfl,by show W'.heap[Q.b]? = _;rw [hh,hcs],fun i hi=>?_⟩⟩,fun i hi=>?_⟩
    ·have b3u:i * 62+62≤xs.length * 62:=by rw [← Nat.succ_mul];exact Nat.mul_le_mul_right 62 hi
     refine ⟨by omega,?_⟩
     dsimp only
     rw [dif_pos hi]
     exact (Classical.choose_spec (key i hi)).1
    ·dsimp only
     rw [dif_pos hi]
     exact (Classical.choose_spec (key i hi)).2
  ·cases hb
 ·cases hb
end
end V
end Go.CE
namespace Go.CE
namespace V
open Go.Proofs Go.Proofs.YtlnlbdfokmhelaaGreatDoor Go.RowKit
set_option maxRecDepth 100000
def ade (own:List Nat) (me:Nat):NL:=⟨8,0,me,4,0,90,0,own,List.replicate 32 0⟩
def arj (own:List Nat):AV→Bool
 | .sl (some (k,o)) n c=>Nat.beq k 1025&&Nat.beq o 0&&Nat.beq n own.length&&Nat.beq c own.length
 | _=>false
theorem am5 {own:List Nat} {a:AV} (h:arj own a=true):a=aj1 own:=by
 unfold arj at h
 split at h
 ·simp only [Bool.and_eq_true] at h
  obtain ⟨⟨⟨h1,h2⟩,h3⟩,h4⟩:=h
  rw [Nat.eq_of_beq_eq_true h1,Nat.eq_of_beq_eq_true h2,Nat.eq_of_beq_eq_true h3,Nat.eq_of_beq_eq_true h4]
  rfl
 ·cases h
def aHo (own:List Nat):Nat→List AV→Option (List NL)
 | 0,[]=>some []
 | 0,_=>none
 | n+1,l=>match (l.take 62)[29]? with
  | some a=>match arj own a with
   | true=>match nlA (l.take 62) (own.map ap4) with
    | some x=>match aHo own n (l.drop 62) with
     | some xs=>some (x :: xs)
     | none=>none
    | none=>none
   | false=>none
  | none=>none
theorem arn:∀ {l m:List Nat},l.map ap4=m.map ap4→l=m:=by
 intro l
 induction l with
 | nil =>
  intro m h
  cases m with
  | nil=>rfl
  | cons _ _=>cases h
 | cons a l ih =>
  intro m h
  cases m with
  | nil=>cases h
  | cons b m =>
   injection h with h1 h2
   unfold ap4 at h1
   injection h1 with _ h1
   injection h1 with h1
   rw [h1,ih h2]
theorem aHn {own:List Nat}:∀ {n:Nat} {l:List AV} {xs:List NL},aHo own n l=some xs→xs.length=n∧l=(xs.flatMap fun x=>a7c x (aj1 own))∧∀ x∈xs,x.cs=own:=by
 intro n
 induction n with
 | zero =>
  intro l xs h
  cases l with
  | nil=>cases h;exact ⟨rfl,rfl,fun x hx=>by cases hx⟩
  | cons _ _=>cases h
 | succ n ih =>
  intro l xs h
  unfold aHo at h
  split at h
  ·rename_i a ha
   split at h
   ·rename_i hs
    split at h
    ·rename_i x hx
     split at h
     ·rename_i xs' hxs
      cases h
      obtain ⟨e1,e2,e3⟩:=ih hxs
      have hs':=am5 hs
      subst hs'
      obtain ⟨q1,q2,_⟩:=@ar2 S00 _ _ _ _ hx ha
      refine ⟨by rw [List.length_cons,e1],?_,fun y hy=>?_⟩
      ·rw [List.flatMap_cons,← q1,← e2,List.take_append_drop]
      ·rcases List.mem_cons.1 hy with rfl | hy
       ·exact (arn q2).symm
       ·exact e3 y hy
     ·cases h
    ·cases h
   ·cases h
  ·cases h
structure LP (kind me:Nat) (own:List Nat) (x:LN):Prop where
 ok:x.Ok
 kind:x.kind=kind
 frm:x.frm=me
 dst:x.dst < 5
 mtg:x.mtg=4
 cs:x.cs=own
 dl:x.dl≤90
def lpB (kind me:Nat) (x:NL):Bool:=x.ok&&(Nat.beq x.kind kind&&Nat.beq x.frm me&&Nat.blt x.dst 5&&Nat.beq x.mtg 4&&Nat.ble x.dl 90)
theorem aWb {kind me:Nat} {own:List Nat} {x:NL} (h:lpB kind me x=true) (hc:x.cs=own):LP kind me own x.ln:=by
 unfold lpB at h
 simp only [Bool.and_eq_true] at h
 obtain ⟨h0,⟨⟨⟨h1,h2⟩,h3⟩,h4⟩,h5⟩:=h
 exact ⟨(NL.adt h0).1,Nat.eq_of_beq_eq_true h1,Nat.eq_of_beq_eq_true h2,Nat.le_of_ble_eq_true h3,Nat.eq_of_beq_eq_true h4,hc,Nat.le_of_ble_eq_true h5⟩
noncomputable def aGu (kind me:Nat) (own:List Nat) (v:FV) (f:QW):Bool:=match v with
 | .s q _ o n _=>Nat.beq n own.length&&atv (akd 3 (getM (p4 1025) f.m) 0 own.length) (agl own)&&(match akd 48 (getM q f.m) o (own.length * 62) with
  | some l=>match aHo own own.length l with
   | some xs=>xs.all (lpB kind me)
   | none=>false
  | none=>false)
 | _=>false
theorem aM3 {kind me:Nat} {own:List Nat} {v:FV} {f':QW} {B:Nat} {τ:Sg} {s':CE.St} {W':World} {u:Value} (h:aGu kind me own v f' = true) (hok:okG v) (h0:own≠[]) (hrs:@RS 2048 s' f') (hsr:@SR S00 Tryz.prog B τ s'.mem W') (hv:@VR S00 τ (aa5 v) u) :
  ∃ (g:Nat→LN) (cv:Nat→Value),a5h W' u 48 62 own.length (fun i=>((g i).let (cv i)).row)∧(∀ i,i < own.length→LP kind me own (g i))∧∀ i,i < own.length→a0h 0 W' (cv i) own:=by
 letI:Sym:=S00
 haveI hok':a0n:=a5k
 unfold aGu at h
 split at h
 ·rename_i q k o n c
  simp only [Bool.and_eq_true] at h
  obtain ⟨⟨h1,h2⟩,h3⟩:=h
  have h1:=Nat.eq_of_beq_eq_true h1
  unfold atv at h2
  split at h2
  ·rename_i mm hb2
   obtain rfl:=a6h h2
   split at h3
   ·rename_i l hb
    split at h3
    ·rename_i xs hxs
     obtain ⟨e1,e2,e3⟩:=aHn hxs
     subst e2
     have hx:∀ x∈xs,lpB kind me x=true:=fun x hx=>List.all_eq_true.1 h3 x hx
     have hq:q=p4 k:=hok
     rw [← e1] at hb
     obtain ⟨cv,q1,q2⟩:=aPu (B:=B) (c:=aj1 own) (u:=u) (cc:=c) (fun x h=>by
      have:=hx x h
      unfold lpB at this
      rw [Bool.and_eq_true] at this
      exact this.1) hrs hsr hq (h1.trans e1.symm) hb hv
     rw [e1] at q1 q2
     refine ⟨fun i=>(xs.map NL.ln).getD i a0c,cv,q1,fun i hi=>?_,fun i hi=>.inr ⟨h0,?_⟩⟩
     ·have hi':i < xs.length:=by omega
      have:(xs.map NL.ln).getD i a0c=xs[i].ln:=by rw [List.getD_eq_getElem?_getD,List.getElem?_map,List.getElem?_eq_getElem hi'];rfl
      dsimp only
      rw [this]
      exact aWb (hx _ (List.getElem_mem hi')) (e3 _ (List.getElem_mem hi'))
     ·have:=awu (B:=B) (l:=agl own) a4k hrs hsr rfl (rfl:gw 1025=true) (show own.length=(agl own).length from (List.length_map _).symm) hb2 (af9 own) (q2 i hi)
      rwa [a9e] at this
    ·cases h3
   ·cases h3
  ·cases h2
 ·cases h
noncomputable def aMb (own:List Nat) (me:Nat) (r:Ans):Bool:=match r with
 | some (.t t 3,f)=>(match a1d (p4 0) t with
  | .g g 7=>avL (a07 g 0 5) [.i .i64 (.ofNat me),.i .i64 (.ofNat 4),.i .i64 (.ofNat 0),.i .i64 (.ofNat 90),.i .i64 (.ofNat 2)]&&arj own (a6g (a1d (p4 5) g))&&avB (a6g (a1d (p4 6) g)) (.sl none 0 0)
  | _=>false)&&aGu 9 me own (a1d (p4 1) t) f&&avB (a6g (a1d (p4 2) t)) (.i .i64 (.ofNat 0))
 | _=>false
theorem azg:a2j.all (fun own=>own.all fun me=>aMb own me (aD6 tQ 99 [.i .i64 (.ofNat me),.g (a7c (ade own me) (aj1 own))] own))=true:=by decide +kernel
end V
end Go.CE
