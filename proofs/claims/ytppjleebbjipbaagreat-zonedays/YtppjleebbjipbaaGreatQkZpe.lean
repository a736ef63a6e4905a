/-
  The days of a zone's offsets, plainly.
-/
import Derived.Test.YtppjleebbjipbaaGreatQkZoq
set_option linter.all false
namespace Zn
structure Per where
 head:List Int
 from_:Int
 period:Int
 cycle:List Int
deriving Inhabited,DecidableEq
def apq (t m:Int):Int:=(t - m+1440 - 1) / 1440
def a5e (s:Int×Int) (m behind:Int):Tr:=⟨max (apq s.1 m) 0,min (apq s.2 m) behind⟩
def a7g (pc:Nat→Option Pc) (sel:Pc→Int×Int) (m behind:Int):Nat→List (Int×List Tr)
 | 0=>[]
 | i+1=>match pc i with
  | none=>a7g pc sel m behind i
  | some p=>if (a5e (sel p) m behind).tm < (a5e (sel p) m behind).off then aas (a7g pc sel m behind i) p.o (a5e (sel p) m behind) else a7g pc sel m behind i
theorem aki {pc:Nat→Option Pc} {sel:Pc→Int×Int} {m behind:Int} {i:Nat} {p:Pc} (h:pc i=some p) (h2:(a5e (sel p) m behind).tm < (a5e (sel p) m behind).off):a7g pc sel m behind (i+1)=aas (a7g pc sel m behind i) p.o (a5e (sel p) m behind):=by
 simp only [a7g,h,zQ h2]
theorem ame {pc:Nat→Option Pc} {sel:Pc→Int×Int} {m behind:Int} {i:Nat} {p:Pc} (h:pc i=some p) (h2 : ¬ (a5e (sel p) m behind).tm < (a5e (sel p) m behind).off):a7g pc sel m behind (i+1)=a7g pc sel m behind i:=by
 simp only [a7g,h,zS h2]
theorem aim {pc:Nat→Option Pc} {sel:Pc→Int×Int} {m behind:Int}:∀ i,∀ g∈a7g pc sel m behind i,∀ s∈g.2,0≤s.tm∧s.tm < s.off∧s.off≤behind
 | 0,g,hg=>by cases hg
 | i+1,g,hg=>by
  have ih:=aim (pc:=pc) (sel:=sel) (m:=m) (behind:=behind) i
  simp only [a7g] at hg
  split at hg
  ·exact ih g hg
  ·split at hg
   ·rename_i p _ hlt
    have hs:0≤(a5e (sel p) m behind).tm∧(a5e (sel p) m behind).tm < (a5e (sel p) m behind).off∧(a5e (sel p) m behind).off≤behind:=⟨by simp only [a5e];omega,hlt,by simp only [a5e];omega⟩
    generalize a5e (sel p) m behind=s0 at *
    generalize a7g pc sel m behind i=M at *
    clear hlt
    revert ih
    induction M with
    | nil =>
     intro _
     simp only [aas,yD] at hg
     subst hg
     intro s hs'
     simp only [yD] at hs'
     subst hs'
     exact hs
    | cons x r ihr =>
     obtain ⟨k,l⟩:=x
     intro ih
     simp only [aas] at hg
     split at hg
     ·rcases yN.1 hg with rfl | hg
      ·intro s hs'
       rcases yJ.1 hs' with h | h
       ·exact ih (k,l) (yV ..) s h
       ·simp only [yD] at h
        subst h
        exact hs
      ·exact ih g (yY _ hg)
     ·rcases yN.1 hg with rfl | hg
      ·exact ih (k,l) (yV ..)
      ·exact ihr hg (fun g hg=>ih g (yY _ hg))
   ·exact ih g hg
def fromD (z:a0w):Int:=max (a1w z (ysT z) (a0s z) / 1440+3) 0
def pcZ (z:a0w):Nat→Option Pc:=pcN z (ysT z) (a0s z) ((fromD z+a0s z+3) * 1440)
def afa (z:a0w):Prop:=∀ i,(i=0∨∃ p,pcZ z (i - 1)=some p)→i≤1000000
def a8i (l:List Tr):Int:=l.foldl (fun c s=>c+(s.off - s.tm)) 0
def upto (a:Int) (n:Nat):List Int:=(List.range n).map fun k:Nat=>a+(k:Int)
def akz (l:List Tr):List Int:=l.flatMap fun s=>upto s.tm (s.off - s.tm).toNat
def a9y (from_ cyc:Int) (l:List Tr):Per:=⟨(akz l).filter fun d=>decide (d < from_),from_,cyc,((akz l).filter fun d=>decide (¬ d < from_)).map fun d=>d - from_⟩
theorem agr {z:a0w} (hk:Ck z (ysT z) (a0s z)) : -4611686018427387904≤a1w z (ysT z) (a0s z)∧a1w z (ysT z) (a0s z)≤4611686018427387904:=by
 unfold a1w
 split
 ·rename_i x hx
  have:=af1 hk hx
  omega
 split
 ·rename_i h
  have:=hk.bt (z.trans.length - 1) (by omega)
  omega
 omega
end Zn
namespace Zn
def aol (pc:Nat→Option Pc):Nat→Nat→Nat
 | 0,i=>i
 | f+1,i=>match pc i with
  | none=>i
  | some _=>aol pc f (i+1)
theorem air {pc:Nat→Option Pc}:∀ {f k i:Nat},k≤i→i≤k+f→(∀ j,j < i→∃ p,pc j=some p)→pc i=none→aol pc f k=i
 | 0,k,i,h1,h2,_,_=>by
  unfold aol
  omega
 | f+1,k,i,h1,h2,h3,h4=>by
  unfold aol
  by_cases hk:k=i
  ·rw [hk,h4]
  ·obtain ⟨p,hp⟩:=h3 k (by omega)
   rw [hp]
   exact air (by omega) (by omega) h3 h4
def acv (z:a0w) (sel:Pc→Int×Int) (m:Int):List (Int×List Tr):=a7g (pcZ z) sel m (fromD z+a0s z) (aol (pcZ z) 1000001 0)
def apr (M:List (Int×List Tr)):Bool:=M.any fun g=>decide (1048576 < a8i g.2)
def resD (C:Per→Per) (fr cyc:Int) (M:List (Int×List Tr)):List (Int×Per):=M.map fun g=>(g.1,C (a9y fr cyc g.2))
def ai4 (l:List (Int×Per)):List (Int×Per):=l.mergeSort fun x y=>decide (x.1≤y.1)
theorem ab5 (l:List (Int×Per)):(ai4 l).Perm l:=List.mergeSort_perm _ _
noncomputable def a4c (C:Per→Per) (z:a0w) (m:Int) (sel:Pc→Int×Int):List (Int×Per)×Int :=
 if a3o z=true∧0≤m∧m < 1440 then (if 1099511627776 < fromD z then ([],2) else if apr (acv z sel m)=true then ([],2) else (ai4 (resD C (fromD z) (a0s z) (acv z sel m)),0)) else ([],1)
theorem ae4 (M:List (Int×List Tr)) (o:Int) (s:Tr):(aas M o s).map (·.1)=if o∈M.map (·.1) then M.map (·.1) else M.map (·.1) ++ [o]:=by
 induction M with
 | nil=>simp [aas]
 | cons x r ih =>
  obtain ⟨k,l⟩:=x
  by_cases hk:k=o
  ·subst hk
   simp [aas]
  simp only [aas,zS hk,List.map_cons,ih,yN]
  by_cases ho:o∈r.map (·.1)
  ·rw [zQ ho,zQ (.inr ho)]
  rw [zS ho,zS (fun h=>h.elim (fun h=>hk h.symm) ho)]
  rfl
theorem al4 (M:List (Int×List Tr)) (o:Int) (s:Tr):(aas M o s).length≤M.length+1:=by
 have:=congrArg List.length (ae4 M o s)
 rw [uM] at this
 rw [this]
 split<;>simp
theorem ae3 {n:Nat}:∀ {M:List (Int×List Tr)} {o:Int} {s:Tr},(∀ g∈M,g.2.length≤n)→∀ g∈aas M o s,g.2.length≤n+1
 | [],o,s,_,g,hg=>by
  simp only [aas,yD] at hg
  subst hg
  simp
 | (k,l) :: r,o,s,h,g,hg=>by
  simp only [aas] at hg
  split at hg
  ·rcases yN.1 hg with rfl | hg
   ·have:=h (k,l) (yV ..)
    simp
    exact this
   ·have:=h g (yY _ hg)
    omega
  ·rcases yN.1 hg with rfl | hg
   ·have:=h (k,l) (yV ..)
    omega
   ·exact ae3 (fun g hg=>h g (yY _ hg)) g hg
theorem adl {pc:Nat→Option Pc} {sel:Pc→Int×Int} {m behind:Int}:∀ i,((a7g pc sel m behind i).map (·.1)).Nodup
 | 0=>List.nodup_nil
 | i+1=>by
  have ih:=adl (pc:=pc) (sel:=sel) (m:=m) (behind:=behind) i
  simp only [a7g]
  split
  ·exact ih
  ·split
   ·rw [ae4]
    split
    ·exact ih
    ·rename_i h
     exact List.nodup_append.2 ⟨ih,by simp,fun a ha b hb=>by rw [yD.1 hb];intro e;subst e;exact h ha⟩
   ·exact ih
theorem afv {pc:Nat→Option Pc} {sel:Pc→Int×Int} {m behind:Int}:∀ i,(a7g pc sel m behind i).length≤i
 | 0=>zD _
 | i+1=>by
  have ih:=afv (pc:=pc) (sel:=sel) (m:=m) (behind:=behind) i
  simp only [a7g]
  split
  ·omega
  ·split
   ·have:=al4 (a7g pc sel m behind i) ‹Pc›.o (a5e (sel ‹Pc›) m behind)
    omega
   ·omega
theorem aae {pc:Nat→Option Pc} {sel:Pc→Int×Int} {m behind:Int}:∀ i,∀ g∈a7g pc sel m behind i,g.2.length≤i
 | 0,g,hg=>by cases hg
 | i+1,g,hg=>by
  have ih:=aae (pc:=pc) (sel:=sel) (m:=m) (behind:=behind) i
  simp only [a7g] at hg
  split at hg
  ·have:=ih g hg;omega
  ·split at hg
   ·exact ae3 ih g hg
   ·have:=ih g hg;omega
theorem ajh (l:List Tr) (s:Tr):a8i (l ++ [s])=a8i l+(s.off - s.tm):=by
 unfold a8i
 rw [List.foldl_append]
 rfl
theorem take_snoc {α:Type} {l:List α} {k:Nat} (h:k < l.length) (d:α):l.take (k+1)=l.take k ++ [l.getD k d]:=by
 rw [List.take_add_one,zB,zK h]
 rfl
theorem a8h {l:List Tr} {k:Nat} (h:k < l.length):a8i (l.take (k+1))=a8i (l.take k)+((l.getD k default).off - (l.getD k default).tm):=by
 rw [take_snoc h default,ajh]
theorem ajj {l:List Tr} {b:Int} (hb:0≤b) (h:∀ s∈l,0≤s.tm∧s.tm < s.off∧s.off≤b):∀ k,k≤l.length→(k:Int)≤a8i (l.take k)∧a8i (l.take k)≤(k:Int) * b
 | 0,_=>by simp [a8i]
 | k+1,hk=>by
  have ih:=ajj hb h k (by omega)
  have hs:=h (l.getD k default) (a2h (by omega))
  rw [a8h (by omega)]
  have:((k+1:Nat):Int) * b=(k:Int) * b+b:=by rw [Int.natCast_add,wI];simp
  omega
theorem aji {l:List Tr} {b:Int} (h:∀ s∈l,0≤s.tm∧s.tm < s.off∧s.off≤b):∀ (d k:Nat),k+d≤l.length→a8i (l.take k)≤a8i (l.take (k+d))
 | 0,k,_=>yR _
 | d+1,k,hk=>by
  have ih:=aji h d k (by omega)
  have hs:=h (l.getD (k+d) default) (a2h (by omega))
  have:=a8h (l:=l) (k:=k+d) (by omega)
  rw [show k+(d+1)=k+d+1 by omega,this]
  omega
theorem al0 {l:List Tr} {b:Int} (h:∀ s∈l,0≤s.tm∧s.tm < s.off∧s.off≤b) {k:Nat} (hk:k≤l.length):a8i (l.take k)≤a8i l:=by
 have:=aji h (l.length - k) k (by omega)
 rwa [show k+(l.length - k)=l.length by omega,wY] at this
theorem ai1 (a:Int) (n:Nat):upto a (n+1)=upto a n ++ [a+(n:Int)]:=by
 unfold upto
 rw [List.range_succ,List.map_append]
 rfl
theorem afj (a:Int) (n:Nat):(upto a n).length=n:=by
 unfold upto
 rw [uM,List.length_range]
theorem ady {l:List Tr} {k:Nat} (h:k < l.length):akz (l.take (k+1))=akz (l.take k)++upto (l.getD k default).tm ((l.getD k default).off - (l.getD k default).tm).toNat:=by
 rw [take_snoc h default]
 unfold akz
 rw [List.flatMap_append]
 simp
theorem ag5 {l:List Tr} {b:Int} (h:∀ s∈l,0≤s.tm∧s.tm < s.off∧s.off≤b):∀ k,k≤l.length→((akz (l.take k)).length:Int)=a8i (l.take k)
 | 0,_=>by simp [a8i,akz]
 | k+1,hk=>by
  have ih:=ag5 h k (by omega)
  have hs:=h (l.getD k default) (a2h (by omega))
  rw [a8h (by omega),ady (by omega),zX,afj]
  omega
def hdP (fr:Int) (P:List Int):List Int:=P.filter fun d=>decide (d < fr)
def cyP (fr:Int) (P:List Int):List Int:=(P.filter fun d=>decide (¬ d < fr)).map fun d=>d - fr
theorem amy {fr d:Int} {P:List Int} (h:d < fr):hdP fr (P ++ [d])=hdP fr P ++ [d]:=by
 unfold hdP
 rw [uO]
 simp [h]
theorem aov {fr d:Int} {P:List Int} (h : ¬ d < fr):hdP fr (P ++ [d])=hdP fr P:=by
 unfold hdP
 rw [uO]
 simp
 omega
theorem an5 {fr d:Int} {P:List Int} (h:d < fr):cyP fr (P ++ [d])=cyP fr P:=by
 unfold cyP
 rw [uO]
 simp [h]
theorem apo {fr d:Int} {P:List Int} (h : ¬ d < fr):cyP fr (P ++ [d])=cyP fr P ++ [d - fr]:=by
 unfold cyP
 rw [uO]
 have e:decide (¬ d < fr)=true:=by simpa using h
 rw [List.filter_cons,zQ e,List.filter_nil,List.map_append]
 rfl
theorem amz (fr:Int) (P:List Int):(hdP fr P).length≤P.length:=List.length_filter_le _ _
theorem an6 (fr:Int) (P:List Int):(cyP fr P).length≤P.length:=by
 unfold cyP
 rw [uM]
 exact List.length_filter_le _ _
theorem ac2 {l l':List (Int×Per)} (hp:l'.Perm l) (hs:l'.Pairwise fun a b=>a.1≤b.1) (hn:(l.map (·.1)).Nodup):l' = ai4 l:=by
 have hn':(l'.map (·.1)).Nodup:=(hp.map _).nodup_iff.2 hn
 have h1:(ai4 l).Pairwise fun a b=>a.1≤b.1:=by
  have:(ai4 l).Pairwise fun a b=>decide (a.1≤b.1)=true:=List.pairwise_mergeSort (fun a b c h1 h2=>by simp at *;omega) (fun a b=>by simp;omega) l
  exact this.imp fun h=>wV h
 refine List.Perm.eq_of_pairwise (le:=fun a b:Int×Per=>a.1≤b.1) (fun x y hx hy h1 h2=>?_) hs h1 (hp.trans (ab5 l).symm)
 have hy':y∈l':=(hp.trans (ab5 l).symm).mem_iff.2 hy
 obtain ⟨i,hi,rfl⟩:=zY.1 hx
 obtain ⟨j,hj,rfl⟩:=zY.1 hy'
 have e:(l'.map (·.1))[i]'(by simpa using hi)=(l'.map (·.1))[j]'(by simpa using hj):=by
  rw [List.getElem_map,List.getElem_map]
  exact Int.le_antisymm h1 h2
 have:=(List.getElem_inj hn').1 e
 subst this
 rfl
def seenD (C:Per→Per) (fr cyc:Int) (M:List (Int×List Tr)) (S:List Nat):List (Int×Per):=S.map fun i=>((M.getD i default).1,C (a9y fr cyc (M.getD i default).2))
theorem seenD_snoc (C:Per→Per) (fr cyc:Int) (M:List (Int×List Tr)) (S:List Nat) (i:Nat):seenD C fr cyc M (S ++ [i])=seenD C fr cyc M S ++ [((M.getD i default).1,C (a9y fr cyc (M.getD i default).2))]:=by
 unfold seenD
 rw [List.map_append]
 rfl
theorem ad9 {C:Per→Per} {fr cyc:Int} {M:List (Int×List Tr)} {S:List Nat} (hn:S.Nodup) (hS:∀ i∈S,i < M.length) (hall:∀ i,i < M.length→i∈S):(seenD C fr cyc M S).Perm (resD C fr cyc M):=by
 have h1:S.Perm (List.range M.length):=by
  refine (List.perm_ext_iff_of_nodup hn xW).2 fun i=>?_
  rw [zZ]
  exact ⟨hS i,hall i⟩
 have h2:resD C fr cyc M=seenD C fr cyc M (List.range M.length):=by
  unfold resD seenD
  refine List.ext_getElem (by simp) fun i h1 h2=>?_
  have hi:i < M.length:=by simpa using h1
  rw [List.getElem_map,List.getElem_map,List.getElem_range,zB,zK hi]
  rfl
 rw [h2]
 exact h1.map _
theorem ana {M:List (Int×List Tr)} {i:Nat} (h:i < M.length) (hb:1048576 < a8i (M.getD i default).2):apr M=true:=by
 unfold apr
 rw [List.any_eq_true]
 exact ⟨M.getD i default,by rw [zB,zK h];exact yT h,by simpa using hb⟩
theorem an9 {M:List (Int×List Tr)} (h:∀ i,i < M.length→¬ 1048576 < a8i (M.getD i default).2):apr M=false:=by
 unfold apr
 rw [List.any_eq_false]
 intro g hg
 obtain ⟨i,hi,rfl⟩:=zY.1 hg
 have:=h i hi
 rw [zB,zK hi] at this
 simpa using this
theorem ail {S:List Nat} {n:Nat} (h:S.Nodup) (hS:∀ i∈S,i < n):S.length≤n:=by
 have h1:((List.range n).filter fun i=>decide (i∈S)).Perm S:=by
  refine (List.perm_ext_iff_of_nodup (xW.filter _) h).2 fun i=>?_
  rw [uJ,zZ,zM]
  exact ⟨fun q=>q.2,fun q=>⟨hS i q,q⟩⟩
 rw [← h1.length_eq]
 have:=List.length_filter_le (fun i=>decide (i∈S)) (List.range n)
 rwa [List.length_range] at this
theorem aia (C:Per→Per) (fr cyc:Int) (M:List (Int×List Tr)):(resD C fr cyc M).map (·.1)=M.map (·.1):=by
 unfold resD
 rw [List.map_map]
 rfl
end Zn
