/-
  Slices of letters that a run yields.
-/
import Derived.Test.YtopgdlblfieljaaGreatDoorPkRwV
import Derived.Test.YtopgdlblfieljaaGreatDoorPkLn
import Derived.Test.YtopgdlblfieljaaGreatDoorPkShp
import Derived.Test.YtopgdlblfieljaaGreatDoorPkLetB
import Derived.Test.YtopgdlblfieljaaGreatDoorPkKs
set_option linter.unusedSectionVars false
set_option linter.constructorNameAsVariable false
set_option linter.unusedVariables false
set_option linter.unusedSimpArgs false
namespace Go.CE
namespace V
open Go.Proofs Go.Proofs.YtopgdlblfieljaaGreatDoor Go.RowKit
set_option maxRecDepth 100000
theorem awu [Sym] [a0n] {T B:Nat} {P:Program} {τ:Sg} {s':CE.St} {f':QW} {W':World} {q:P4} {k o n c:Nat} {l:List AV} {u:Value} (hT:P.cellsOf T=1) (hrs:RS 2048 s' f') (hsr:SR P B τ s'.mem W') (hq:q=p4 k) (hgw:gw k=true) (hn:n=l.length)
  (hb:akd T (getM q f'.m) o n=some l) (hix:l.all ahy=true) (hv:VR τ (.sl (some (k,o)) n c) u):Sl 0 W' u T (l.map aa7):=by
 subst hq
 unfold akd at hb
 split at hb
 ·rename_i t m U hm
  split at hb
  ·rename_i hc
   simp only [Bool.and_eq_true] at hc
   have hle:o+n≤m:=Nat.le_of_ble_eq_true hc.1
   have hU:T=U:=Nat.eq_of_beq_eq_true hc.2
   subst hU
   have hl:a07 t o n=l:=Option.some.inj hb
   have hR:=hrs.m k
   rw [hm] at hR
   generalize hg:s'.mem.get k=y at hR
   cases hR
   obtain ⟨Q,ob,hQ,hh,cs,hcs,_,h2,h3,h4⟩:=hsr.mr k _ hg
   obtain ⟨h2a,h2b⟩:=h2 hgw
   cases hv with
   | sl _ _ _ _ c' Q' hQ' aWu _ hz =>
    rw [hQ] at hQ';cases hQ'
    have hz:=hz hgw
    have hs1:Q.sz=1:=by rw [← h2b];exact hT
    rw [hs1,Nat.mul_one] at hz
    refine ⟨Q.b,o+Q.d,c',cs,by rw [List.length_map,hn],Nat.zero_le _,by rw [hh,hcs],by omega,?_,fun i hi=>?_⟩
    ·rw [List.length_map,← hn]
     have h3':Q.d+m≤cs.size:=by simpa [a0q] using h3
     omega
    ·rw [List.length_map,← hn] at hi
     have hx:(a07 t 0 m)[o+i]? = some (l[i]'(by omega)):=by
      rw [a7y t m o n i hi hle,hl,List.getElem?_eq_getElem]
     have h3':Q.d+m≤cs.size:=by simpa [a0q] using h3
     have hlt:Q.d+(o+i) < cs.size:=by omega
     have hvr:=h4 (o+i) _ cs[Q.d+(o+i)] hx (Array.getElem?_eq_getElem hlt)
     have:=aii hvr (List.all_eq_true.1 hix _ (List.getElem_mem _))
     rw [show o+Q.d+i=Q.d+(o+i) by omega,Array.getElem?_eq_getElem hlt,this]
     rw [List.getElem?_map,List.getElem?_eq_getElem (show i < l.length by omega)]
     rfl
  ·cases hb
 ·cases hb
section
variable [Sym] [a0n]
theorem aIq {σ:Sg} {x:NL} (hr:∀ n∈x.ref,n < 256) {c:AV} {arr:Array Value} (ha:LR σ (a7c x c) arr) : ∃ u,arr=(x.ln.let u).row∧VR σ c u:=by
 obtain ⟨u,hu,hvu⟩:=ha.at (axc x c)
 refine ⟨u,?_,hvu⟩
 obtain ⟨arr2,q1,q2⟩:=(aff (σ:=σ) hr hvu).aot
 cases q1
 refine aB5 ha q2 fun i a hi=>?_
 by_cases e:i=29
 ·subst e;right;rw [hu];exact (aid (x.ln.let u)).symm
 ·left;exact axb x c i e a hi
theorem aA0 {α:Type} {f:α→List AV} {z:Nat}:∀ {xs:List α},(∀ x∈xs,(f x).length=z)→∀ i (h:i < xs.length) j,j < z→(xs.flatMap f)[i * z+j]? = (f xs[i])[j]?
 | [],_,i,h,_,_=>by simp at h
 | x :: xs,hz,i,h,j,hj=>by
  have hx:=hz x (List.mem_cons_self ..)
  rw [List.flatMap_cons]
  cases i with
  | zero =>
   rw [List.getElem?_append_left (by omega)]
   simp
  | succ i =>
   rw [List.getElem?_append_right (by rw [hx,Nat.succ_mul];omega),hx,show (i+1) * z+j - z=i * z+j by rw [Nat.succ_mul];omega]
   exact aA0 (fun y hy=>hz y (List.mem_cons_of_mem _ hy)) i (by simpa using h) j hj
end
end V
end Go.CE
