/-
  Two letters without a series compared: one slice of cells for both; both functions.
-/
import Derived.Test.YtopgdlblfieljaaGreatDoorPkSm
set_option linter.unusedSectionVars false
set_option linter.constructorNameAsVariable false
set_option linter.unusedVariables false
set_option linter.unusedSimpArgs false
namespace Go.CE
namespace V
open Go.Proofs Go.Proofs.YtopgdlblfieljaaGreatDoor Go.RowKit
set_option maxRecDepth 100000
section
variable {a b:LN} (ha:a.Sz) (hb:b.Sz) {d:Nat}
include ha hb
theorem sm_run1 {fn p fa:Nat} {rk:Nat→Nat} {r:Bool} (hne:1≤d→d≤11→a.slot d≠b.slot d) (hr:d=12→a.ref≠b.ref) (hq:∀ k,1≤k→k≤7→rk k < p→a.slot k=b.slot k) (hqr:rk 12 < p→a.ref=b.ref)
  {W:World} {v:Value} (hva:a0h 0 W v a.cs) (hfa:aI7 v a.cs.length fa) (hrun:aGv r (@aTl (smS d (a3a a b) (a4d a b)) fn rk p fa)=true) :
  Calls Tryz.prog fn #[.agg (a.let v).row,.agg (b.let v).row] W fun e w'=>e=.returned (.bool r)∧Below W.heap.size W w':=by
 letI:Sym:=smS d (a3a a b) (a4d a b)
 haveI hok:a0n:=b1n ha hb hne hr
 obtain ⟨i1,i2,_,_⟩:=aMi fa 0 hfa.1 (by omega)
 obtain ⟨σ1,m1,l1,k1,s1,r1,v1,n1⟩:=ard (k:=1025) (l:=aQz fa) (by omega) (by omega) rfl (a2a (by omega)) (aIj W) aIp hfa hva (aAn ha hfa.2.1) i1 i2 (fun b o n c _ _ j p hj=>absurd (by cases j<;>rfl) hj)
 obtain ⟨f',he⟩:=aQ3 hrun
 have hl:LR σ1 [.g (aer nmA (clF 1025 fa) (aty 0)),.g (aer (nmB rk p) (clF 1025 fa) (aRv rk p))] #[.agg (a.let v).row,.agg (b.let v).row]:=by
  have:=LV.lr (σ:=σ1) (l:=[.g (aer nmA (clF 1025 fa) (aty 0)),.g (aer (nmB rk p) (clF 1025 fa) (aRv rk p))]) (m:=[.agg (a.let v).row,.agg (b.let v).row]) ⟨aNl ha v1,aNk ha hb hq hqr v1,trivial⟩
  simpa using this
 refine (a3r allL r1 (a8t.mono l1) s1 (fun j hj=>by rw [k1 j (by omega)];exact a2a (by omega)) (aaf _) hl he).mono fun e W' hd=>?_
 obtain ⟨τ,u,s',rfl,hov,am9,_,ap6,hvu,hbel⟩:=hd
 cases hvu
 exact ⟨rfl,hbel⟩
end
theorem same_one {a b:LN} (ha:a.Sz) (hb:b.Sz) {fn:Nat} {rk:Nat→Nat} (R:SmR fn rk) (hk:RkOk rk) (hcs:a.cs=b.cs) {W:World} {v:Value} (hva:a0h 0 W v a.cs) :
  Calls Tryz.prog fn #[.agg (a.let v).row,.agg (b.let v).row] W fun e w'=>(a=b→e=.returned (.bool true))∧(a≠b→e=.returned (.bool false))∧Below W.heap.size W w':=by
 obtain ⟨fa,hfa⟩:=azu hva ha.len
 by_cases hD : ∃ i,i < 8∧Dif a b i
 ·obtain ⟨i,hi,hd⟩:=hD
  obtain ⟨i,hi,hd,hmin⟩:=aA1 (rk:=rk) _ ⟨i,hi,hd,Nat.le_refl _⟩
  have hrun:=List.all_eq_true.1 (R.one (a3a a b) (a4d a b) i hi) fa (List.mem_range.2 hfa.1)
  have hab:a≠b:=fun e=>by
   subst e
   rcases hd with ⟨_,q⟩ | ⟨_,q⟩<;>exact q rfl
  refine (sm_run1 ha hb (d:=dOf i) (fun h1 h2=>?_) (fun h12=>?_) (fun k h1 h2 h3=>?_) (fun h3=>?_) hva hfa hrun).mono fun e w' hp=>⟨fun q=>absurd q hab,fun _=>hp.1,hp.2⟩
  ·rcases hd with ⟨q1,q2⟩ | ⟨q1,q2⟩
   ·rw [as3 q1];exact q2
   ·rw [q1,aXu] at h2;omega
  ·rcases hd with ⟨q1,q2⟩ | ⟨q1,q2⟩
   ·rw [as3 q1] at h12;omega
   ·exact q2
  ·have:=hmin (k - 1) (by omega) (by rw [as3 (by omega),show k - 1+1=k by omega];exact h3)
   refine Classical.byContradiction fun q=>this (.inl ⟨by omega,?_⟩)
   rw [show k - 1+1=k by omega];exact q
  ·have:=hmin 7 (by omega) (by rw [aXu];exact h3)
   exact Classical.byContradiction fun q=>this (.inr ⟨rfl,q⟩)
 ·have heq:∀ k,1≤k→k≤7→a.slot k=b.slot k:=fun k h1 h2=>Classical.byContradiction fun q=>hD ⟨k - 1,by omega,.inl ⟨by omega,by rw [show k - 1+1=k by omega];exact q⟩⟩
  have aZq:a.ref=b.ref:=Classical.byContradiction fun q=>hD ⟨7,by omega,.inr ⟨rfl,q⟩⟩
  have hrun:=List.all_eq_true.1 (R.eq (a3a a b) (a4d a b)) fa (List.mem_range.2 hfa.1)
  have hab:a=b:=LN.ext heq aZq hcs
  exact (sm_run1 ha hb (d:=0) (fun h1 h2=>by omega) (fun h12=>by omega) (fun k h1 h2 _=>heq k h1 h2) (fun _=>aZq) hva hfa hrun).mono fun e w' hp=>⟨fun _=>hp.1,fun q=>absurd hab q,hp.2⟩
end V
end Go.CE
