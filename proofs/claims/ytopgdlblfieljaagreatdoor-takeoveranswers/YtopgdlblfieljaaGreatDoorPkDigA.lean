/-
  The walks of bits.RotateLeft32 and digest.schedule: what they compute, for every input.
-/
import Derived.Test.YtopgdlblfieljaaGreatDoorPkDig
import Derived.WalkKit
import Derived.WalkSpells
import Derived.WalkLawsBesides
import Derived.Handy
import Derived.Lib.Hide
import Derived.Laws.CopyOwn
import Derived.Deep.QuietTactic
import Derived.BigQuiet
import Derived.BigRegion
import Derived.StillTailTactics
import Derived.RegionTactic
import Derived.LoopTactic
import Derived.Test.YtopgdlblfieljaaGreatDoorProg
set_option linter.unusedSectionVars false
set_option linter.constructorNameAsVariable false
set_option linter.unusedVariables false
set_option linter.unusedSimpArgs false
namespace Go.Proofs.YtopgdlblfieljaaGreatDoor
open Go.RowKit
abbrev B32 (n:Nat):Value:=.int .u32 (n:Int)
abbrev B8 (n:Nat):Value:=.int .u8 (n:Int)
theorem aNx (x n:Nat) (hx:x < 4294967296) (hn:0 < n) (hn':n < 32) :
  bits BinOp.or IntKind.u32 ((x:Int) * 2 ^ (((32 - n:Nat):Int)).toNat % 4294967296) ((x:Int) / 2 ^ (32 - ((32 - n:Nat):Int)).toNat)=((Sha.a7u x n:Nat):Int):=by
 have e1:(((32 - n:Nat):Int)).toNat=32 - n:=by omega
 have e2:(32 - ((32 - n:Nat):Int)).toNat=n:=by omega
 rw [e1,e2]
 have a1:((x:Int) * 2 ^ (32 - n) % 4294967296)=((x * 2 ^ (32 - n) % 4294967296:Nat):Int):=by simp
 have a2:((x:Int) / 2 ^ n)=((x / 2 ^ n:Nat):Int):=by simp
 rw [a1,a2,a7a _ _ (Nat.mod_lt _ (by decide)) (Nat.lt_of_le_of_lt (Nat.div_le_self _ _) hx),Nat.or_comm]
 simp only [Sha.a7u,Nat.shiftRight_eq_div_pow,Nat.shiftLeft_eq]
theorem a1s (x n:Nat) (hx:x < 4294967296):Sha.a7u x n < 4294967296 :=
 Nat.or_lt_two_pow (n:=32) (by simp only [Nat.shiftRight_eq_div_pow];exact Nat.lt_of_le_of_lt (Nat.div_le_self _ _) (by simpa using hx)) (Nat.mod_lt _ (by decide))
set_option maxHeartbeats 400000 in
theorem a4h (x n:Nat) (k:Int) (hx:x < 4294967296) (hn:0 < n) (hn':n < 32) (hs:bits BinOp.and IntKind.u64 (IntKind.u64.wrap k) 31=((32 - n:Nat):Int)) (w:World) :
  Calls Tryz.prog 165 #[B32 x,.int .i64 k] w fun e w'=>e=.returned (B32 (Sha.a7u x n))∧w=w':=by
 have hv:=Lib.hid (aNx x n hx hn hn')
 have h0:(0:Int) < ((32 - n:Nat):Int):=by omega
 have h1:((32 - n:Nat):Int) < 32:=by omega
 generalize ((32 - n:Nat):Int)=s at *
 go_enter Tryz.func165,Tryz.ntmps165
 go_wp2
 go_ret
 exact ⟨congrArg (fun i=>Ending.returned (.int .u32 i)) hv.out,rfl⟩
theorem rot7 (x:Nat) (hx:x < 4294967296) (w:World):Calls Tryz.prog 165 #[B32 x,.int .i64 (-7)] w fun e w'=>e=.returned (B32 (Sha.a7u x 7))∧w=w':=a4h x 7 _ hx (by decide) (by decide) (by decide) w
theorem b1z (x:Nat) (hx:x < 4294967296) (w:World):Calls Tryz.prog 165 #[B32 x,.int .i64 (-18)] w fun e w'=>e=.returned (B32 (Sha.a7u x 18))∧w=w':=a4h x 18 _ hx (by decide) (by decide) (by decide) w
theorem b2a (x:Nat) (hx:x < 4294967296) (w:World):Calls Tryz.prog 165 #[B32 x,.int .i64 (-17)] w fun e w'=>e=.returned (B32 (Sha.a7u x 17))∧w=w':=a4h x 17 _ hx (by decide) (by decide) (by decide) w
theorem b1y (x:Nat) (hx:x < 4294967296) (w:World):Calls Tryz.prog 165 #[B32 x,.int .i64 (-19)] w fun e w'=>e=.returned (B32 (Sha.a7u x 19))∧w=w':=a4h x 19 _ hx (by decide) (by decide) (by decide) w

theorem aie (a b c:Nat) (ha:a < 4294967296) (hb:b < 4294967296) (hc:c < 4294967296):a ^^^ b ^^^ c < 4294967296 :=
 Nat.xor_lt_two_pow (n:=32) (Nat.xor_lt_two_pow (n:=32) ha hb) hc
theorem ah5 (x n:Nat) (hx:x < 4294967296):x >>> n < 4294967296:=by
 simp only [Nat.shiftRight_eq_div_pow];exact Nat.lt_of_le_of_lt (Nat.div_le_self _ _) hx
theorem aqb (x:Nat) (hx:x < 4294967296):bits BinOp.xor .u32 (bits BinOp.xor .u32 ((Sha.a7u x 7:Nat):Int) ((Sha.a7u x 18:Nat):Int)) ((x:Int) / 8)=((Sha.aCt x:Nat):Int):=by
 have e:((x:Int) / (8:Int))=((x >>> 3:Nat):Int):=by rw [Nat.shiftRight_eq_div_pow];omega
 rw [e,a1n _ _ (a1s _ _ hx) (a1s _ _ hx),a1n _ _ (Nat.xor_lt_two_pow (n:=32) (a1s _ _ hx) (a1s _ _ hx)) (ah5 _ _ hx)]
 rfl
theorem aqa (x:Nat) (hx:x < 4294967296):bits BinOp.xor .u32 (bits BinOp.xor .u32 ((Sha.a7u x 17:Nat):Int) ((Sha.a7u x 19:Nat):Int)) ((x:Int) / 1024)=((Sha.aCs x:Nat):Int):=by
 have e:((x:Int) / (1024:Int))=((x >>> 10:Nat):Int):=by rw [Nat.shiftRight_eq_div_pow];omega
 rw [e,a1n _ _ (a1s _ _ hx) (a1s _ _ hx),a1n _ _ (Nat.xor_lt_two_pow (n:=32) (a1s _ _ hx) (a1s _ _ hx)) (ah5 _ _ hx)]
 rfl
theorem word_lt (f:Nat→Nat) (hf:∀ j,f j < 256) (k:Nat):Sha.word f k < 4294967296:=by
 have:=hf (4 * k);have:=hf (4 * k+1);have:=hf (4 * k+2);have:=hf (4 * k+3);unfold Sha.word;omega
theorem aNt (f:Nat→Nat) (hf:∀ j,f j < 256) (k:Nat):∀ x∈Sha.sch f k,x < 4294967296:=by
 induction k with
 | zero=>simp [Sha.sch]
 | succ k ih =>
  intro x hx
  simp only [Sha.sch,List.mem_append,List.mem_singleton] at hx
  rcases hx with hx | rfl
  ·exact ih x hx
  ·split
   ·exact word_lt f hf k
   ·exact Nat.mod_lt _ (by decide)
theorem aae (f:Nat→Nat) (hf:∀ j,f j < 256) (k j:Nat):(Sha.sch f k).getD j 0 < 4294967296:=by
 rw [List.getD_eq_getElem?_getD]
 rcases h:(Sha.sch f k)[j]? with _ | x
 ·simp
 ·exact aNt f hf k x (List.mem_of_getElem? h)
def arr (f:Nat→Nat) (k:Nat):Array Value:=((Sha.sch f k++List.replicate (64 - k) 0).map B32).toArray
theorem aee (f:Nat→Nat):arr f 0=Array.replicate 64 (B32 0):=rfl
theorem aef (f:Nat→Nat):arr f 64=((Sha.sch f 64).map B32).toArray:=by simp [arr]
theorem a6f (f:Nat→Nat) (k j:Nat) (hk:k≤64) (hj:j < 64):(arr f k)[j]? = some (B32 ((Sha.sch f k).getD j 0)):=by
 simp only [arr,List.getElem?_toArray,List.getElem?_map]
 have hl:=Sha.a4u f k
 by_cases h:j < k
 ·rw [List.getElem?_append_left (by omega),List.getElem?_eq_getElem (by omega)]
  simp [List.getD,List.getElem?_eq_getElem (show j < (Sha.sch f k).length by omega)]
 ·rw [List.getElem?_append_right (by omega),List.getElem?_replicate,if_pos (by omega)]
  simp [List.getD,List.getElem?_eq_none (show (Sha.sch f k).length≤j by omega)]
theorem ak5 (f:Nat→Nat) (k:Nat) (hk:k < 64):(arr f k).setIfInBounds k (B32 (if k < 16 then Sha.word f k else Sha.next (Sha.sch f k)))=arr f (k+1):=by
 have hl:=Sha.a4u f k
 simp only [arr,List.setIfInBounds_toArray,Sha.sch]
 congr 1
 rw [show 64 - k=(64 - (k+1))+1 by omega,List.replicate_succ]
 simp only [List.map_append,List.map_cons,List.append_assoc,List.cons_append,List.nil_append]
 rw [List.set_append_right _ _ (by simp [hl])]
 simp [hl]

theorem ak4 (f:Nat→Nat) (k:Nat) (hk:k≤64):(arr f k).size=64:=by simp [arr,Sha.a4u];omega
theorem aia {f:Nat→Nat}:(Tryz.prog.info? 182).map (·.size)=some (arr f 64).size:=by rw [ak4 f 64 (by omega)];kernel_rfl
theorem aMn {f:Nat→Nat}:(arr f 0).size=(arr f 64).size:=by rw [ak4 f 64 (by omega),ak4 f 0 (by omega)]
theorem apq {f:Nat→Nat} {k:Nat}:(arr f k).all (·.oneCell')=true:=by
 rw [Array.all_eq_true_iff_forall_mem]
 intro x hx
 simp only [arr,List.mem_toArray,List.mem_map] at hx
 obtain ⟨n,_,rfl⟩:=hx
 rfl
set_option maxHeartbeats 1000000 in
set_option maxRecDepth 100000 in
theorem agp (b off cap:Nat) (f:Nat→Nat) (hf:∀ j,f j < 256) (w:World) (hc:∀ j,j < 64→w.cell? ⟨b,off+j,none⟩=some (B8 (f j))) (hb:b < w.heap.size) :
  Calls Tryz.prog 164 #[.slice (some ⟨b,off,none⟩) 64 cap] w fun e w'=>e=.returned (.agg ((Sha.sch f 64).map B32).toArray)∧Below w.heap.size w w':=by
 go_enter Tryz.func164,Tryz.ntmps164
 go_wp2
 go_loopw [9] (fun i wr => ∃ k:Nat,k≤64∧i=.int .i64 k∧wr.heap[w.heap.size]? = some (.cells (arr f 0) 182 (0,0))∧wr.heap[w.heap.size+1]? = some (.cells (arr f k) 182 (0,0))∧Below w.heap.size w wr)
  (fun i _=>(64 - intOf i).toNat)
 case atStart =>
  refine ⟨0,by omega,rfl,?_,?_,?_⟩
  ·rw [heap_alloc2_old,aee];rfl
  ·rw [heap_alloc2_new,aee];rfl
  ·exact ((Below.refl _ _).alloc (Nat.le_refl _) _).alloc (by simp) _
 case round =>
  obtain ⟨k,hk,rfl,h0,h1,hB⟩:=hrel
  by_cases hlt:k < 64
  ·have hst:wr.drew.cell? ⟨w.heap.size+1,k,none⟩=some (B32 ((Sha.sch f k).getD k 0)):=(cell_of_row wr _ _ _ _ _ h1).trans (a6f f k k (by omega) hlt)
   have hfz:wr.drew.frozen? ⟨w.heap.size+1,k,none⟩=false:=frozen_of_row wr _ _ _ _ h1
   have h0':wr.drew.heap[w.heap.size]? = some (.cells (arr f 0) 182 (0,0)):=h0
   have h1':wr.drew.heap[w.heap.size+1]? = some (.cells (arr f k) 182 (0,0)):=h1
   have hB':=hB.drew
   by_cases h16:k < 16
   ·have c0:wr.cell? ⟨b,off+4 * k,none⟩=some (B8 (f (4 * k))):=(hB.cell (p:=⟨b,_,none⟩) hb).trans (hc _ (by omega))
    have c1:wr.cell? ⟨b,off+(4 * k+1),none⟩=some (B8 (f (4 * k+1))):=(hB.cell (p:=⟨b,_,none⟩) hb).trans (hc _ (by omega))
    have c2:wr.cell? ⟨b,off+(4 * k+2),none⟩=some (B8 (f (4 * k+2))):=(hB.cell (p:=⟨b,_,none⟩) hb).trans (hc _ (by omega))
    have c3:wr.cell? ⟨b,off+(4 * k+3),none⟩=some (B8 (f (4 * k+3))):=(hB.cell (p:=⟨b,_,none⟩) hb).trans (hc _ (by omega))
    have e0:IntKind.i64.wrap (4 * (k:Int))=4 * (k:Int):=IntWalk.i64_in _ (by omega)
    have e1:IntKind.i64.wrap (4 * (k:Int)+1)=4 * (k:Int)+1:=IntWalk.i64_in _ (by omega)
    have e2:IntKind.i64.wrap (4 * (k:Int)+2)=4 * (k:Int)+2:=IntWalk.i64_in _ (by omega)
    have e3:IntKind.i64.wrap (4 * (k:Int)+3)=4 * (k:Int)+3:=IntWalk.i64_in _ (by omega)
    have n0:(4 * (k:Int)).toNat=4 * k:=by omega
    have n1:(4 * (k:Int)+1).toNat=4 * k+1:=by omega
    have n2:(4 * (k:Int)+2).toNat=4 * k+2:=by omega
    have n3:(4 * (k:Int)+3).toNat=4 * k+3:=by omega
    have p0:0≤4 * (k:Int):=by omega
    have p1:0≤4 * (k:Int)+1:=by omega
    have p2:0≤4 * (k:Int)+2:=by omega
    have p3:0≤4 * (k:Int)+3:=by omega
    have q0:4 * (k:Int) < 64:=by omega
    have q1:4 * (k:Int)+1 < 64:=by omega
    have q2:4 * (k:Int)+2 < 64:=by omega
    have q3:4 * (k:Int)+3 < 64:=by omega
    have HW:=Lib.hid (aMv _ _ _ _ (hf (4 * k)) (hf (4 * k+1)) (hf (4 * k+2)) (hf (4 * k+3)))
    have HA:=Lib.hid (ak5 f k hlt)
    clear hc
    repeat' (first | go_skip | go_guarded | go_step | go_upon)
    go_still_tail 35,(by kernel_rfl)
    change wpList _ _ _ _ _ wr.drew
    generalize wr.drew=w2 at *
    clear c0 c1 c2 c3 h0 h1 hB
    repeat' (first | go_skip | go_guarded | go_step | go_upon)
    rw [HW.out]
    go_roundw
    case rel =>
     refine ⟨k+1,by omega,by go_num,?_,?_,hB'.setCell (by simp) _⟩
     ·rw [heap_setCell_other _ _ _ _ (by simp)];exact h0'
     ·rw [heap_setCell_same _ _ _ _ _ _ h1']
      have:=HA.out
      rw [if_pos h16] at this
      rw [← this];rfl
    case measure=>simp [intOf];omega
   ·have hl:=Sha.a4u f k
    have c15:wr.cell? ⟨w.heap.size+1,k - 15,none⟩=some (B32 ((Sha.sch f k).getD (k - 15) 0)):=(cell_of_row wr _ _ _ _ _ h1).trans (a6f f k _ (by omega) (by omega))
    have c2:wr.cell? ⟨w.heap.size+1,k - 2,none⟩=some (B32 ((Sha.sch f k).getD (k - 2) 0)):=(cell_of_row wr _ _ _ _ _ h1).trans (a6f f k _ (by omega) (by omega))
    have c16:wr.cell? ⟨w.heap.size+1,k - 16,none⟩=some (B32 ((Sha.sch f k).getD (k - 16) 0)):=(cell_of_row wr _ _ _ _ _ h1).trans (a6f f k _ (by omega) (by omega))
    have c7:wr.cell? ⟨w.heap.size+1,k - 7,none⟩=some (B32 ((Sha.sch f k).getD (k - 7) 0)):=(cell_of_row wr _ _ _ _ _ h1).trans (a6f f k _ (by omega) (by omega))
    have l15:=aae f hf k (k - 15)
    have l2:=aae f hf k (k - 2)
    have l16:=aae f hf k (k - 16)
    have l7:=aae f hf k (k - 7)
    have HN:=Lib.hid (show Sha.next (Sha.sch f k)=((Sha.sch f k).getD (k - 16) 0+Sha.aCt ((Sha.sch f k).getD (k - 15) 0)+(Sha.sch f k).getD (k - 7) 0+Sha.aCs ((Sha.sch f k).getD (k - 2) 0)) % 4294967296 by unfold Sha.next;rw [hl])
    have HA:=Lib.hid (ak5 f k hlt)
    generalize (Sha.sch f k).getD (k - 15) 0=x15 at *
    generalize (Sha.sch f k).getD (k - 2) 0=x2 at *
    generalize (Sha.sch f k).getD (k - 16) 0=x16 at *
    generalize (Sha.sch f k).getD (k - 7) 0=x7 at *
    have e15:IntKind.i64.wrap ((k:Int) - 15)=(k:Int) - 15:=IntWalk.i64_in _ (by omega)
    have e2:IntKind.i64.wrap ((k:Int) - 2)=(k:Int) - 2:=IntWalk.i64_in _ (by omega)
    have e16:IntKind.i64.wrap ((k:Int) - 16)=(k:Int) - 16:=IntWalk.i64_in _ (by omega)
    have e7:IntKind.i64.wrap ((k:Int) - 7)=(k:Int) - 7:=IntWalk.i64_in _ (by omega)
    have n15:((k:Int) - 15).toNat=k - 15:=by omega
    have n2:((k:Int) - 2).toNat=k - 2:=by omega
    have n16:((k:Int) - 16).toNat=k - 16:=by omega
    have n7:((k:Int) - 7).toNat=k - 7:=by omega
    have p15:0≤(k:Int) - 15:=by omega
    have p2:0≤(k:Int) - 2:=by omega
    have p16:0≤(k:Int) - 16:=by omega
    have p7:0≤(k:Int) - 7:=by omega
    have r7:7≤(k:Int):=by omega
    have q15:(k:Int) - 15 < 64:=by omega
    have q2:(k:Int) - 2 < 64:=by omega
    have q16:(k:Int) - 16 < 64:=by omega
    have q7:(k:Int) - 7 < 64:=by omega
    clear hc
    repeat' (first | go_skip | go_guarded | go_step | go_upon)
    go_quiet (fail)
    go_wp2_with (go_at_call 165;(first | (with_reducible refine (rot7 _ l15 _).mono ?_) | (with_reducible refine (b1z _ l15 _).mono ?_) | (with_reducible refine (b2a _ l2 _).mono ?_) | (with_reducible refine (b1y _ l2 _).mono ?_));rintro e w' ⟨rfl,rfl⟩)
    rw [aqb _ l15,aqa _ l2]
    have hs0:=aie _ _ _ (a1s x15 7 l15) (a1s x15 18 l15) (ah5 x15 3 l15)
    have hs1:=aie _ _ _ (a1s x2 17 l2) (a1s x2 19 l2) (ah5 x2 10 l2)
    change Sha.aCt x15 < _ at hs0
    change Sha.aCs x2 < _ at hs1
    have d0:(wr.drewN nq).heap[w.heap.size]? = some (.cells (arr f 0) 182 (0,0)):=h0
    have d1:(wr.drewN nq).heap[w.heap.size+1]? = some (.cells (arr f k) 182 (0,0)):=h1
    have dB:Below w.heap.size w (wr.drewN nq):=⟨hB.os,hB.tape,hB.output,hB.size,hB.block⟩
    have dc16:(wr.drewN nq).cell? ⟨w.heap.size+1,k - 16,none⟩=some (B32 x16):=c16
    have dc7:(wr.drewN nq).cell? ⟨w.heap.size+1,k - 7,none⟩=some (B32 x7):=c7
    have dst:(wr.drewN nq).drew.cell? ⟨w.heap.size+1,k,none⟩=some (B32 ((Sha.sch f k).getD k 0)):=hst
    have dfz:(wr.drewN nq).drew.frozen? ⟨w.heap.size+1,k,none⟩=false:=hfz
    clear hst hfz h0' h1' hB' c15 c2 c16 c7 h0 h1 hB
    generalize Sha.aCt x15=y15 at *
    generalize Sha.aCs x2=y2 at *
    generalize wr.drewN nq=w1 at *
    repeat' (first | go_skip | go_guarded | go_step | go_upon)
    go_still_tail 15,(by kernel_rfl)
    change wpList _ _ _ _ _ w1.drew
    have d0':w1.drew.heap[w.heap.size]? = some (.cells (arr f 0) 182 (0,0)):=d0
    have d1':w1.drew.heap[w.heap.size+1]? = some (.cells (arr f k) 182 (0,0)):=d1
    have dB':=dB.drew
    clear d0 d1 dB dc16 dc7
    generalize w1.drew=w2 at *
    repeat' (first | go_skip | go_guarded | go_step | go_upon)
    go_roundw
    case rel =>
     have hv:((x16:Int)+y15+x7+y2) % 4294967296=((Sha.next (Sha.sch f k):Nat):Int):=by rw [HN.out];omega
     refine ⟨k+1,by omega,by go_num,?_,?_,dB'.setCell (by simp) _⟩
     ·rw [heap_setCell_other _ _ _ _ (by simp)];exact d0'
     ·rw [heap_setCell_same _ _ _ _ _ _ d1',hv]
      have:=HA.out
      rw [if_neg h16] at this
      rw [← this]
    case measure=>simp [intOf];omega
  ·have h1':wr.heap[w.heap.size+1]? = some (.cells (arr f 64) 182 (0,0)):=by rw [h1,show k=64 by omega]
   clear hc h1
   repeat' (first | ((with_reducible refine wpList_load_row (o:=⟨some 89,_,_,_,_,_⟩) ?_ 182 (.tmp 3) ?_ (w.heap.size+1) ?_ _ _ _ _ h1' Tryz.underlying182 ?_ aia ?_);rfl;rfl;rfl;rfl) | ((with_reducible refine wpList_store_row (o:=⟨none,.store 182 (.tmp 2) (.tmp 89),_,_,_,_⟩) ?_ 182 (.tmp 2) (.tmp 89) ?_ (w.heap.size) (arr f 64) ?_ ?_ _ _ h0 aia aMn apq ?_);rfl;rfl;rfl;rfl) | go_skip | go_guarded | go_step | go_upon)
   refine bodyPost_ret (results_cell_row rfl _ _ w.heap.size 182 (arr f 64) _ _ rfl (setRow_heap _ _ _ _ _ _ h0) Tryz.underlying182 rfl aia) rfl ?_
   exact ⟨by rw [aef],below_setRow hB (Nat.le_refl _) _⟩
end Go.Proofs.YtopgdlblfieljaaGreatDoor
