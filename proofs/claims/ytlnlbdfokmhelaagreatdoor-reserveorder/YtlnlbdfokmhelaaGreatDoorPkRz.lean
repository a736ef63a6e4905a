/-
  The laws of the reference's letters as a tree; rows of letters as abstract values.
-/
import Derived.Test.YtlnlbdfokmhelaaGreatDoorPkRwY
import Derived.Test.YtlnlbdfokmhelaaGreatDoorPkShR
set_option linter.unusedSectionVars false
set_option linter.constructorNameAsVariable false
set_option linter.unusedVariables false
set_option linter.unusedSimpArgs false
namespace Go.CE
namespace V
open Go.Proofs Go.Proofs.YtlnlbdfokmhelaaGreatDoor Go.RowKit
set_option maxRecDepth 100000
section
variable [Sym] [avd]
noncomputable def tQ:LT:=.n 169 rbQ rbE (.n 155 (bye bay) (bni bay) .e .e) (.n 196 rvQ rvE .e .e)
theorem cao:tQ.all (Good Tryz.prog):=⟨bq9,⟨bhi,trivial,trivial⟩,⟨bq8,trivial,trivial⟩⟩
end
end V
end Go.CE
namespace Go.CE
namespace V
open Go.Proofs Go.Proofs.YtlnlbdfokmhelaaGreatDoor Go.RowKit
set_option maxRecDepth 100000
theorem bBt [Sym] [avd] {T B:Nat} {P:Program} {τ:Sg} {s':CE.St} {f':QW} {W':World} {q:P4} {k o n c:Nat} {l:List AV} {u:Value} (hT:P.cellsOf T=1) (hrs:RS 2048 s' f') (hsr:SR P B τ s'.mem W') (hq:q=p4 k) (hgw:gw k=true) (hn:n=l.length)
  (hb:bpf T (getM q f'.m) o n=some l) (hix:l.all bmv=true) (hv:VR τ (.sl (some (k,o)) n c) u):Sl 0 W' u T (l.map bfe):=by
 subst hq
 unfold bpf at hb
 split at hb
 ·rename_i t m U hm
  split at hb
  ·rename_i hc
   simp only [Bool.and_eq_true] at hc
   have hle:o+n≤m:=Nat.le_of_ble_eq_true hc.1
   have hU:T=U:=Nat.eq_of_beq_eq_true hc.2
   subst hU
   have hl:ajn t o n=l:=Option.some.inj hb
   have hR:=hrs.m k
   rw [hm] at hR
   generalize hg:s'.mem.get k=y at hR
   cases hR
   obtain ⟨Q,ob,hQ,hh,cs,hcs,_,h2,h3,h4⟩:=hsr.mr k _ hg
   obtain ⟨h2a,h2b⟩:=h2 hgw
   cases hv with
   | sl _ _ _ _ c' Q' hQ' c3b _ hz =>
    rw [hQ] at hQ';cases hQ'
    have hz:=hz hgw
    have hs1:Q.sz=1:=by rw [← h2b];exact hT
    rw [hs1,Nat.mul_one] at hz
    refine ⟨Q.b,o+Q.d,c',cs,by rw [List.length_map,hn],Nat.zero_le _,by rw [hh,hcs],by omega,?_,fun i hi=>?_⟩
    ·rw [List.length_map,← hn]
     have h3':Q.d+m≤cs.size:=by simpa [avg] using h3
     omega
    ·rw [List.length_map,← hn] at hi
     have hx:(ajn t 0 m)[o+i]? = some (l[i]'(by omega)):=by
      rw [bd4 t m o n i hi hle,hl,List.getElem?_eq_getElem]
     have h3':Q.d+m≤cs.size:=by simpa [avg] using h3
     have hlt:Q.d+(o+i) < cs.size:=by omega
     have hvr:=h4 (o+i) _ cs[Q.d+(o+i)] hx (Array.getElem?_eq_getElem hlt)
     have:=bng hvr (List.all_eq_true.1 hix _ (List.getElem_mem _))
     rw [show o+Q.d+i=Q.d+(o+i) by omega,Array.getElem?_eq_getElem hlt,this]
     rw [List.getElem?_map,List.getElem?_eq_getElem (show i < l.length by omega)]
     rfl
  ·cases hb
 ·cases hb
section
variable [Sym] [avd]
theorem bO3 {σ:Sg} {x:NL} (hr:∀ n∈x.ref,n < 256) {c:AV} {arr:Array Value} (ha:LR σ (bcg x c) arr) : ∃ u,arr=(x.ln.let u).row∧VR σ c u:=by
 obtain ⟨u,hu,hvu⟩:=ha.at (bCc x c)
 refine ⟨u,?_,hvu⟩
 obtain ⟨arr2,q1,q2⟩:=(bkc (σ:=σ) hr hvu).buc
 cases q1
 refine bGu ha q2 fun i a hi=>?_
 by_cases e:i=29
 ·subst e;right;rw [hu];exact (bxy (x.ln.let u)).symm
 ·left;exact bCb x c i e a hi
theorem bFa {α:Type} {f:α→List AV} {z:Nat}:∀ {xs:List α},(∀ x∈xs,(f x).length=z)→∀ i (h:i < xs.length) j,j < z→(xs.flatMap f)[i * z+j]? = (f xs[i])[j]?
 | [],_,i,h,_,_=>by simp at h
 | x :: xs,hz,i,h,j,hj=>by
  have hx:=hz x (List.mem_cons_self ..)
  rw [List.flatMap_cons]
  cases i with
  | zero =>
   rw [List.getElem?_append_left (by omega)]
   simp
  | succ i =>
   rw [List.getElem?_append_right (by rw [hx,Nat.succ_mul];omega),hx,show (i+1) * z+j - z=i * z+j by rw [Nat.succ_mul];omega]
   exact bFa (fun y hy=>hz y (List.mem_cons_of_mem _ hy)) i (by simpa using h) j hj
theorem bV8 {xs:List NL} (hx:∀ x∈xs,x.ok=true) {c:AV} {B:Nat} {τ:Sg} {s':CE.St} {f':QW} {W':World} {q:P4} {k o n cc:Nat} {u:Value} (hrs:RS 2048 s' f') (hsr:SR Tryz.prog B τ s'.mem W') (hq:q=p4 k) (hn:n=xs.length)
  (hb:bpf 48 (getM q f'.m) o (xs.length * 62)=some (xs.flatMap fun x=>bcg x c)) (hv:VR τ (.sl (some (k,o)) n cc) u) :
  ∃ cv:Nat→Value,bbp W' u 48 62 xs.length (fun i=>((xs.map NL.ln).getD i aum |>.let (cv i)).row)∧∀ i,i < xs.length→VR τ c (cv i):=by
 subst hq
 unfold bpf at hb
 split at hb
 ·rename_i t m U hm
  split at hb
  ·rename_i hc
   simp only [Bool.and_eq_true] at hc
   have hle:o+xs.length * 62≤m:=Nat.le_of_ble_eq_true hc.1
   have hU:48=U:=Nat.eq_of_beq_eq_true hc.2
   subst hU
   have hl:ajn t o (xs.length * 62)=xs.flatMap fun x=>bcg x c:=Option.some.inj hb
   have hR:=hrs.m k
   rw [hm] at hR
   generalize hg:s'.mem.get k=y at hR
   cases hR
   obtain ⟨Q,ob,hQ,hh,cs,hcs,_,h2,h3,h4⟩:=hsr.mr k _ hg
   have h3':Q.d+m≤cs.size:=by simpa [avg] using h3
   have hz:∀ x∈xs,(bcg x c).length=62:=fun x h=>bfx (hx x h) c
   cases hv with
   | sl _ _ _ _ c' Q' hQ' c3b _ _ =>
    rw [hQ] at hQ';cases hQ'
    have key:∀ i,i < xs.length→∃ w,cs.extract (o+Q.d+i * 62) (o+Q.d+i * 62+62)=((xs.map NL.ln).getD i aum |>.let w).row∧VR τ c w:=fun i hi=>by
     have c9l:i * 62+62≤xs.length * 62:=by rw [← Nat.succ_mul];exact Nat.mul_le_mul_right 62 hi
     have hxi:=hx xs[i] (List.getElem_mem hi)
     have hln:(xs.map NL.ln).getD i aum=xs[i].ln:=by rw [List.getD_eq_getElem?_getD,List.getElem?_map,List.getElem?_eq_getElem hi];rfl
     rw [hln]
     refine bO3 (NL.bik hxi).2 ⟨?_,fun j a v e1 e2=>?_⟩
     ·rw [bfx hxi,Array.size_extract]
      omega
     ·have hj:j < 62:=by
       have:=(List.getElem?_eq_some_iff.1 e1).1
       rwa [bfx hxi] at this
      rw [Array.getElem?_extract,if_pos (by omega)] at e2
      refine h4 (o+(i * 62+j)) a v ?_ (by rw [← e2];congr 1;omega)
      rw [bd4 t m o (xs.length * 62) (i * 62+j) (by omega) hle,hl,bFa hz i hi j hj]
      exact e1
    refine ⟨fun i=>if h:i < xs.length then Classical.choose (key i h) else undef,⟨_,c',by rw [hn],fun _=>⟨Q.b,o+Q.d,cs,rfl,by show W'.heap[Q.b]? = _;rw [hh,hcs],fun i hi=>?_⟩⟩,fun i hi=>?_⟩
    ·have c9l:i * 62+62≤xs.length * 62:=by rw [← Nat.succ_mul];exact Nat.mul_le_mul_right 62 hi
     refine ⟨by omega,?_⟩
     dsimp only
     rw [dif_pos hi]
     exact (Classical.choose_spec (key i hi)).1
    ·dsimp only
     rw [dif_pos hi]
     exact (Classical.choose_spec (key i hi)).2
  ·cases hb
 ·cases hb
end
end V
end Go.CE
namespace Go.CE
namespace V
open Go.Proofs Go.Proofs.YtlnlbdfokmhelaaGreatDoor Go.RowKit
set_option maxRecDepth 100000
def bx6 (own:List Nat):AV→Bool
 | .sl (some (k,o)) n c=>Nat.beq k 1025&&Nat.beq o 0&&Nat.beq n own.length&&Nat.beq c own.length
 | _=>false
theorem br6 {own:List Nat} {a:AV} (h:bx6 own a=true):a=bsz own:=by
 unfold bx6 at h
 split at h
 ·simp only [Bool.and_eq_true] at h
  obtain ⟨⟨⟨h1,h2⟩,h3⟩,h4⟩:=h
  rw [Nat.eq_of_beq_eq_true h1,Nat.eq_of_beq_eq_true h2,Nat.eq_of_beq_eq_true h3,Nat.eq_of_beq_eq_true h4]
  rfl
 ·cases h
def bN4 (own:List Nat):Nat→List AV→Option (List NL)
 | 0,[]=>some []
 | 0,_=>none
 | n+1,l=>match (l.take 62)[29]? with
  | some a=>match bx6 own a with
   | true=>match nlA (l.take 62) (own.map bur) with
    | some x=>match bN4 own n (l.drop 62) with
     | some xs=>some (x :: xs)
     | none=>none
    | none=>none
   | false=>none
  | none=>none
theorem bx9:∀ {l m:List Nat},l.map bur=m.map bur→l=m:=by
 intro l
 induction l with
 | nil =>
  intro m h
  cases m with
  | nil=>rfl
  | cons _ _=>cases h
 | cons a l ih =>
  intro m h
  cases m with
  | nil=>cases h
  | cons b m =>
   injection h with h1 h2
   unfold bur at h1
   injection h1 with _ h1
   injection h1 with h1
   rw [h1,ih h2]
theorem bN3 {own:List Nat}:∀ {n:Nat} {l:List AV} {xs:List NL},bN4 own n l=some xs→xs.length=n∧l=(xs.flatMap fun x=>bcg x (bsz own))∧∀ x∈xs,x.cs=own:=by
 intro n
 induction n with
 | zero =>
  intro l xs h
  cases l with
  | nil=>cases h;exact ⟨rfl,rfl,fun x hx=>by cases hx⟩
  | cons _ _=>cases h
 | succ n ih =>
  intro l xs h
  unfold bN4 at h
  split at h
  ·rename_i a ha
   split at h
   ·rename_i hs
    split at h
    ·rename_i x hx
     split at h
     ·rename_i xs' hxs
      cases h
      obtain ⟨e1,e2,e3⟩:=ih hxs
      have hs':=br6 hs
      subst hs'
      obtain ⟨q1,q2,_⟩:=@bwt S00 _ _ _ _ hx ha
      refine ⟨by rw [List.length_cons,e1],?_,fun y hy=>?_⟩
      ·rw [List.flatMap_cons,← q1,← e2,List.take_append_drop]
      ·rcases List.mem_cons.1 hy with rfl | hy
       ·exact (bx9 q2).symm
       ·exact e3 y hy
     ·cases h
    ·cases h
   ·cases h
  ·cases h
end V
end Go.CE
