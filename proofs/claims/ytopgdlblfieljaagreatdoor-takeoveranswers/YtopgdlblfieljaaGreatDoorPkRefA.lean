/-
  The walks of the reference's turn and expand and rounds.
-/
import Derived.Test.YtopgdlblfieljaaGreatDoorPkDigB
set_option linter.unusedSectionVars false
set_option linter.constructorNameAsVariable false
set_option linter.unusedVariables false
set_option linter.unusedSimpArgs false
namespace Go.Proofs.YtopgdlblfieljaaGreatDoor
open Go.RowKit
theorem aC8 (x n:Nat) (hx:x < 4294967296):bits BinOp.or IntKind.u32 ((x:Int) / 2 ^ n) ((x:Int) * 2 ^ (32 - n) % 4294967296)=((Sha.a7u x n:Nat):Int):=by
 have a1:((x:Int) * 2 ^ (32 - n) % 4294967296)=((x * 2 ^ (32 - n) % 4294967296:Nat):Int):=by simp
 have a2:((x:Int) / 2 ^ n)=((x / 2 ^ n:Nat):Int):=by simp
 rw [a1,a2,a7a _ _ (Nat.lt_of_le_of_lt (Nat.div_le_self _ _) hx) (Nat.mod_lt _ (by decide))]
 simp only [Sha.a7u,Nat.shiftRight_eq_div_pow,Nat.shiftLeft_eq]
set_option maxHeartbeats 400000 in
theorem asv (x n:Nat) (hx:x < 4294967296) (hn:0 < n) (hn':n < 32) (w:World) :
  Calls Tryz.prog 139 #[B32 x,.int .i64 (n:Int)] w fun e w'=>e=.returned (B32 (Sha.a7u x n))∧∃ q,w' = w.drewN q:=by
 have hv:=Lib.hid (aC8 x n hx)
 have h0:(0:Int) < (n:Int):=by omega
 have h1:(n:Int) < 32:=by omega
 have e1:IntKind.i64.wrap (32 - (n:Int))=32 - (n:Int):=IntWalk.i64_in _ (by omega)
 have p1:0≤32 - (n:Int):=by omega
 have p2:32 - (n:Int) < 32:=by omega
 have p0:0≤(n:Int):=by omega
 go_enter Tryz.func139,Tryz.ntmps139
 repeat' (first | go_skip | go_guarded | go_step | go_upon)
 go_quiet (fail)
 repeat' (first | go_skip | go_guarded | go_step | go_upon)
 go_ret
 exact ⟨congrArg (fun i=>Ending.returned (.int .u32 i)) hv.out,nq,rfl⟩
theorem a7l (x n:Nat) (k:Int) (hk:k=(n:Int)) (hx:x < 4294967296) (hn:0 < n) (hn':n < 32) (w:World) :
  Calls Tryz.prog 139 #[B32 x,.int .i64 k] w fun e w'=>e=.returned (B32 (Sha.a7u x n))∧∃ q,w' = w.drewN q:=by
 subst hk;exact asv x n hx hn hn' w
end Go.Proofs.YtopgdlblfieljaaGreatDoor
namespace Go.Proofs.YtopgdlblfieljaaGreatDoor
open Go.RowKit
theorem aPz:(Tryz.prog.info? 182).map (·.size)=some aca.size:=by kernel_rfl
set_option maxHeartbeats 1000000 in
set_option maxRecDepth 100000 in
theorem al3 (w:World) :
  Calls Tryz.prog 138 #[] w fun e w'=>e=.returned (.agg aca)∧Below w.heap.size w w':=by
 go_enter Tryz.func138,Tryz.ntmps138
 repeat' (first | go_skip | go_guarded | go_step | go_upon)
 refine bodyPost_ret (results_cell_row rfl _ _ w.heap.size 182 aca _ _ rfl (Array.getElem?_push_size ..) Tryz.underlying182 rfl ?_) rfl ?_
 ·exact aPz
 ·exact ⟨rfl,(Below.refl _ _).alloc (Nat.le_refl _) _⟩
end Go.Proofs.YtopgdlblfieljaaGreatDoor
