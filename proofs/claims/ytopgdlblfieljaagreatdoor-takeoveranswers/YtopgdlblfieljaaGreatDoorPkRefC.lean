/-
  The walk of the reference's step.
-/
import Derived.Test.YtopgdlblfieljaaGreatDoorPkRefB
import Derived.Test.YtopgdlblfieljaaGreatDoorPkRefA
set_option linter.unusedSectionVars false
set_option linter.constructorNameAsVariable false
set_option linter.unusedVariables false
set_option linter.unusedSimpArgs false
namespace Go.Proofs.YtopgdlblfieljaaGreatDoor
open Go.RowKit
theorem ajt (b off cap:Nat) (f:Nat→Nat) (hf:∀ j,f j < 256) (w:World) (hc:∀ j,j < 64→w.cell? ⟨b,off+j,none⟩=some (B8 (f j))) (hb:b < w.heap.size) :
  Calls Tryz.prog 137 #[.slice (some ⟨b,off,none⟩) 64 cap] w fun e w'=>e=.returned (.agg (a2r f))∧Below w.heap.size w w' :=
 (aml b off cap f hf w hc hb).mono fun _ _ h=>⟨by rw [h.1];unfold a2r;rfl,h.2⟩
@[go_sem] theorem az8:aca.size=64:=rfl
@[go_sem] theorem aZm:aca.extract 0 64=aca:=extract_all _ _ az8
@[go_sem] theorem aZl:ones aca=true:=by decide +kernel
attribute [local irreducible] aca
theorem b1i {s:Sha.St}:(Tryz.prog.info? 160).map (·.size)=some s.row.size:=by rw [aRc];kernel_rfl
theorem aRd (s t:Sha.St):s.add t=t.add s:=by simp only [Sha.St.add,Nat.add_comm]
theorem aNu (t:Sha.St) (h:t.ok) (kk ww:Nat):(((t.h:Int)+bits BinOp.xor .u32 (bits BinOp.xor .u32 ((Sha.a7u t.e 6:Nat):Int) ((Sha.a7u t.e 11:Nat):Int)) ((Sha.a7u t.e 25:Nat):Int) +
  bits BinOp.xor .u32 (bits BinOp.and .u32 (t.e:Int) (t.f:Int)) (bits BinOp.and .u32 (4294967295 - (t.e:Int)) (t.g:Int))+(kk:Int)) % 4294967296+(ww:Int)) % 4294967296=((Sha.rx t kk ww:Nat):Int):=by
 have e:(4294967295 - (t.e:Int))=((4294967295 - t.e:Nat):Int):=by have:=h.2.2.2.2.1;omega
 rw [e,← aym _ h.2.2.2.2.1]
 exact aIn t h kk ww
set_option maxHeartbeats 1000000 in
set_option maxRecDepth 100000 in
theorem at6 (s:Sha.St) (hs:s.ok) (b off cap:Nat) (f:Nat→Nat) (hf:∀ j,f j < 256) (w:World)
  (hc:∀ j,j < 64→w.cell? ⟨b,off+j,none⟩=some (B8 (f j))) (hb:b < w.heap.size) :
  Calls Tryz.prog 109 #[.agg s.row,.slice (some ⟨b,off,none⟩) 64 cap] w fun e w' =>
   e=.returned (.agg (Sha.comp s f).row)∧Below w.heap.size w w':=by
 have HC:=Lib.hid hc
 clear hc
 go_enter Tryz.func109,Tryz.ntmps109
 repeat' (first | go_skip | go_guarded | go_step | go_upon)
 have r0:obj ((w.alloc (.cells s.row 160 (0,0))).alloc (.cells #[B32 0,B32 0,B32 0,B32 0,B32 0,B32 0,B32 0,B32 0] 160 (0,0))) w.heap.size=some (.cells s.row 160 (0,0)):=by go_simp
 have r1:obj ((w.alloc (.cells s.row 160 (0,0))).alloc (.cells #[B32 0,B32 0,B32 0,B32 0,B32 0,B32 0,B32 0,B32 0] 160 (0,0))) (w.heap.size+1)=some (.cells #[B32 0,B32 0,B32 0,B32 0,B32 0,B32 0,B32 0,B32 0] 160 (0,0)):=by go_simp
 have rB:Below w.heap.size w ((w.alloc (.cells s.row 160 (0,0))).alloc (.cells #[B32 0,B32 0,B32 0,B32 0,B32 0,B32 0,B32 0,B32 0] 160 (0,0))):=((Below.refl _ _).alloc (Nat.le_refl _) _).alloc (by simp) _
 have rz:((w.alloc (.cells s.row 160 (0,0))).alloc (.cells #[B32 0,B32 0,B32 0,B32 0,B32 0,B32 0,B32 0,B32 0] 160 (0,0))).heap.size=w.heap.size+2:=by simp
 generalize (w.alloc (.cells s.row 160 (0,0))).alloc (.cells #[B32 0,B32 0,B32 0,B32 0,B32 0,B32 0,B32 0,B32 0] 160 (0,0))=wa at *
 refine (ajt b off cap f hf _ (fun j hj=>(rB.cell (p:=⟨b,off+j,none⟩) hb).trans (HC.out j hj)) (by omega)).mono ?_
 rintro e w1 ⟨rfl,hb1⟩
 have s0:=a00 r0 hb1 (by omega)
 have s1:=a00 r1 hb1 (by omega)
 have sB:=rB.trans (hb1.mono (by omega))
 have sz:=hb1.size
 clear r0 r1 rB hb1
 dsimp only
 repeat' (first | go_skip | go_guarded | go_step | go_upon)
 refine (al3 _).mono ?_
 rintro e w2 ⟨rfl,hb2⟩
 have t0:=a00 s0 hb2 (by omega)
 have t1:=a00 s1 hb2 (by omega)
 have tB:=sB.trans (hb2.mono (by omega))
 have tz:=hb2.size
 clear s0 s1 sB hb2
 dsimp only
 have hn0:w.heap.size≠w2.heap.size:=by omega
 have hn1:w.heap.size≠w2.heap.size+1:=by omega
 have hn2:w.heap.size≠w2.heap.size+2:=by omega
 have hl0:w.heap.size < w2.heap.size:=by omega
 have hl1:w.heap.size+1 < w2.heap.size:=by omega
 repeat' (first | go_skip | go_guarded | go_step | go_upon)
 have a5:obj (((w2.alloc (.cells (a2r f) 182 (0,0))).alloc (.cells aca 182 (0,0))).alloc (.cells s.row 160 (0,0))) w2.heap.size=some (.cells (a2r f) 182 (0,0)):=by go_simp
 have a6:obj (((w2.alloc (.cells (a2r f) 182 (0,0))).alloc (.cells aca 182 (0,0))).alloc (.cells s.row 160 (0,0))) (w2.heap.size+1)=some (.cells aca 182 (0,0)):=by go_simp
 have a7:obj (((w2.alloc (.cells (a2r f) 182 (0,0))).alloc (.cells aca 182 (0,0))).alloc (.cells s.row 160 (0,0))) (w2.heap.size+1+1)=some (.cells s.row 160 (0,0)):=by go_simp
 have a2:obj (((w2.alloc (.cells (a2r f) 182 (0,0))).alloc (.cells aca 182 (0,0))).alloc (.cells s.row 160 (0,0))) w.heap.size=some (.cells s.row 160 (0,0)):=a02 (a02 (a02 t0 _) _) _
 have a4:=a02 (a02 (a02 t1 (.cells (a2r f) 182 (0,0))) (.cells aca 182 (0,0))) (.cells s.row 160 (0,0))
 have aB:Below w.heap.size w (((w2.alloc (.cells (a2r f) 182 (0,0))).alloc (.cells aca 182 (0,0))).alloc (.cells s.row 160 (0,0))):=((tB.alloc (by omega) _).alloc (by simp;omega) _).alloc (by simp;omega) _
 generalize ((w2.alloc (.cells (a2r f) 182 (0,0))).alloc (.cells aca 182 (0,0))).alloc (.cells s.row 160 (0,0))=w3 at *
 clear t0 t1 tB
 have hq5:w2.heap.size≠w2.heap.size+1+1:=by omega
 have hq6:w2.heap.size+1≠w2.heap.size+1+1:=by omega
 generalize hB5:w2.heap.size=b5 at *
 go_loopw [8] (fun i wr => ∃ k:Nat,k≤64∧i=.int .i64 k∧obj wr b5=some (.cells (a2r f) 182 (0,0))∧obj wr (b5+1)=some (.cells aca 182 (0,0))∧obj wr (b5+1+1)=some (.cells (Sha.ac9 (Sha.sch f 64) s k).row 160 (0,0))∧obj wr w.heap.size=some (.cells s.row 160 (0,0))∧obj wr (w.heap.size+1)=some (.cells #[B32 0,B32 0,B32 0,B32 0,B32 0,B32 0,B32 0,B32 0] 160 (0,0))∧Below w.heap.size w wr)
  (fun i _=>(64 - intOf i).toNat)
 case atStart=>exact ⟨0,by omega,rfl,a5,a6,a7,a2,a4,aB⟩
 case round =>
  clear a5 a6 a7 a2 a4 aB
  obtain ⟨k,hk,rfl,a5,a6,a7,a2,a4,aB⟩:=hrel
  by_cases hlt:k < 64
  ·have hok:=Sha.axe (Sha.sch f 64) s hs k
   have HOK:=Lib.hid hok
   have HS:=Lib.hid (show Sha.ac9 (Sha.sch f 64) s (k+1)=Sha.rnd (Sha.ac9 (Sha.sch f 64) s k) (Sha.K.getD k 0) ((Sha.sch f 64).getD k 0) from rfl)
   have c5:wr.cell? ⟨b5,k,none⟩=some (B32 ((Sha.sch f 64).getD k 0)):=(a01 a5 k).trans (ah7 f k hlt)
   have c6:wr.cell? ⟨b5+1,k,none⟩=some (B32 (Sha.K.getD k 0)):=(a01 a6 k).trans (ajk k hlt)
   have c7:=a01 a7
   have lk:=K_lt k
   have lw:=aae f hf 64 k
   generalize Sha.ac9 (Sha.sch f 64) s k=t at *
   generalize Sha.K.getD k 0=kk at *
   generalize (Sha.sch f 64).getD k 0=ww at *
   obtain ⟨l1,l2,l3,l4,l5,l6,l7,l8⟩:=hok
   repeat' (first | go_skip | go_guarded | go_step | go_upon)
   go_quiet (fail)
   have a5:obj (wr.drewN nq) b5=some (.cells (a2r f) 182 (0,0)):=a5
   have a6:obj (wr.drewN nq) (b5+1)=some (.cells aca 182 (0,0)):=a6
   have a7:obj (wr.drewN nq) (b5+1+1)=some (.cells t.row 160 (0,0)):=a7
   have a2:obj (wr.drewN nq) w.heap.size=some (.cells s.row 160 (0,0)):=a2
   have a4:obj (wr.drewN nq) (w.heap.size+1)=some (.cells #[B32 0,B32 0,B32 0,B32 0,B32 0,B32 0,B32 0,B32 0] 160 (0,0)):=a4
   have aB:Below w.heap.size w (wr.drewN nq):=⟨aB.os,aB.tape,aB.output,aB.size,aB.block⟩
   have c5:(wr.drewN nq).cell? ⟨b5,k,none⟩=some (B32 ww):=c5
   have c6:(wr.drewN nq).cell? ⟨b5+1,k,none⟩=some (B32 kk):=c6
   have c7:=a01 a7
   generalize wr.drewN nq=x1 at *
   repeat' (first | go_skip | go_guarded | go_step | go_upon)
   go_quiet ((go_at_call 139;(first | (with_reducible exact Calls.quiet_of (a7l t.e 6 6 rfl l5 (by decide) (by decide) _)) | (with_reducible exact Calls.quiet_of (a7l t.e 11 11 rfl l5 (by decide) (by decide) _)) | (with_reducible exact Calls.quiet_of (a7l t.e 25 25 rfl l5 (by decide) (by decide) _)))))
   rw [aNu t HOK.out kk ww]
   have lx:=aTg t kk ww
   generalize hrx:Sha.rx t kk ww=x at *
   have HX:=Lib.hid hrx
   clear hrx
   have a5:obj (x1.drewN nq) b5=some (.cells (a2r f) 182 (0,0)):=a5
   have a6:obj (x1.drewN nq) (b5+1)=some (.cells aca 182 (0,0)):=a6
   have a7:obj (x1.drewN nq) (b5+1+1)=some (.cells t.row 160 (0,0)):=a7
   have a2:obj (x1.drewN nq) w.heap.size=some (.cells s.row 160 (0,0)):=a2
   have a4:obj (x1.drewN nq) (w.heap.size+1)=some (.cells #[B32 0,B32 0,B32 0,B32 0,B32 0,B32 0,B32 0,B32 0] 160 (0,0)):=a4
   have aB:Below w.heap.size w (x1.drewN nq):=⟨aB.os,aB.tape,aB.output,aB.size,aB.block⟩
   have c7:=a01 a7
   clear c5 c6
   generalize x1.drewN nq=x2 at *
   repeat' (first | go_skip | go_guarded | go_step | go_upon)
   go_quiet ((go_at_call 139;(first | (with_reducible exact Calls.quiet_of (a7l t.a 2 2 rfl l1 (by decide) (by decide) _)) | (with_reducible exact Calls.quiet_of (a7l t.a 13 13 rfl l1 (by decide) (by decide) _)) | (with_reducible exact Calls.quiet_of (a7l t.a 22 22 rfl l1 (by decide) (by decide) _)))))
   rw [aIm t HOK.out]
   have hy:=aTf t
   generalize hry:Sha.ry t=y at *
   have HY:=Lib.hid hry
   clear hry
   have a5:obj (x2.drewN nq) b5=some (.cells (a2r f) 182 (0,0)):=a5
   have a6:obj (x2.drewN nq) (b5+1)=some (.cells aca 182 (0,0)):=a6
   have a7:obj (x2.drewN nq) (b5+1+1)=some (.cells t.row 160 (0,0)):=a7
   have a2:obj (x2.drewN nq) w.heap.size=some (.cells s.row 160 (0,0)):=a2
   have a4:obj (x2.drewN nq) (w.heap.size+1)=some (.cells #[B32 0,B32 0,B32 0,B32 0,B32 0,B32 0,B32 0,B32 0] 160 (0,0)):=a4
   have aB:Below w.heap.size w (x2.drewN nq):=⟨aB.os,aB.tape,aB.output,aB.size,aB.block⟩
   have c7:=a01 a7
   generalize x2.drewN nq=x3 at *
   repeat' (first | go_skip | go_guarded | go_step | go_upon)
   go_roundw
   case rel =>
    refine ⟨k+1,by omega,by go_num,a2q a5 (by omega) _,a2q a6 (by omega) _,?_,a2q a2 (by omega) _,a2q a4 (by omega) _,below_setRow aB (by omega) _⟩
    have e1:((x:Int)+(y:Int)) % 4294967296=(((x+y) % 4294967296:Nat):Int):=by omega
    have e2:((t.d:Int)+(x:Int)) % 4294967296=(((t.d+x) % 4294967296:Nat):Int):=by omega
    rw [HS.out,a0b,a7,e1,e2]
    simp only [Option.map_some,a95,Sha.rnd,HX.out,HY.out,aYb]
   case measure=>simp [intOf];omega
  ·have a7':obj wr (b5+1+1)=some (.cells (mixRow (Sha.ac9 (Sha.sch f 64) s 64) s 0) 160 (0,0)):=by rw [ar7,a7,show k=64 by omega]
   have HE:=Lib.hid (show Sha.comp s f=s.add (Sha.ac9 (Sha.sch f 64) s 64) from rfl)
   clear a5 a6 a7
   generalize Sha.ac9 (Sha.sch f 64) s 64=t at *
   repeat' (first | go_skip | go_guarded | go_step | go_upon)
   obtain ⟨wo,rfl⟩ : ∃ wo:World,wo=wr:=⟨_,rfl⟩
   go_loopw [13] (fun i wr => ∃ j:Nat,j≤8∧i=.int .i64 j∧obj wr (b5+1+1)=some (.cells (mixRow t s j) 160 (0,0))∧obj wr w.heap.size=some (.cells s.row 160 (0,0))∧obj wr (w.heap.size+1)=some (.cells #[B32 0,B32 0,B32 0,B32 0,B32 0,B32 0,B32 0,B32 0] 160 (0,0))∧Below w.heap.size w wr)
    (fun i _=>(8 - intOf i).toNat)
   case atStart=>exact ⟨0,by omega,rfl,a7',a2,a4,aB⟩
   case round =>
    clear a7' a2 a4 aB
    obtain ⟨j,hj,rfl,a7,a2,a4,aB⟩:=hrel
    by_cases aMd:j < 8
    ·have c7:wr.cell? ⟨b5+1+1,j,none⟩=some (B32 (t.get j)):=(a01 a7 j).trans (ayp t s j aMd)
     have c2:wr.cell? ⟨w.heap.size,j,none⟩=some (B32 (s.get j)):=(a01 a2 j).trans (ash s j aMd)
     have a7':obj wr.drew (b5+1+1)=some (.cells (mixRow t s j) 160 (0,0)):=a7
     have a2':obj wr.drew w.heap.size=some (.cells s.row 160 (0,0)):=a2
     have a4':obj wr.drew (w.heap.size+1)=some (.cells #[B32 0,B32 0,B32 0,B32 0,B32 0,B32 0,B32 0,B32 0] 160 (0,0)):=a4
     have aB':=aB.drew
     have c7':wr.drew.cell? ⟨b5+1+1,j,none⟩=some (B32 (t.get j)):=c7
     have f7':wr.drew.frozen? ⟨b5+1+1,j,none⟩=false:=a0t a7 j
     have HM:=Lib.hid (ayo t s j aMd)
     generalize s.get j=sj at *
     generalize t.get j=tj at *
     repeat' (first | go_skip | go_guarded | go_step | go_upon)
     go_still_tail 9,(by kernel_rfl)
     change wpList _ _ _ _ _ wr.drew
     clear c7 c2 a7 a2 a4 aB
     generalize wr.drew=w4 at *
     repeat' (first | go_skip | go_guarded | go_step | go_upon)
     go_roundw
     case rel =>
      refine ⟨j+1,by omega,by go_num,?_,a1c a2' _ (by simp;omega) _,a1c a4' _ (by simp;omega) _,aB'.setCell (by simp;omega) _⟩
      rw [a0l,a7',← HM.out,show ((tj:Int)+(sj:Int)) % 4294967296=(((tj+sj) % 4294967296:Nat):Int) by omega];rfl
     case measure=>simp [intOf];omega
    ·have a7':obj wr (b5+1+1)=some (.cells (Sha.comp s f).row 160 (0,0)):=by rw [a7,show j=8 by omega,ar8,HE.out,aRd]
     clear a7
     repeat' (first | go_skip | go_guarded | go_step | go_upon)
     refine bodyPost_ret (results_cell_row rfl _ _ (w.heap.size+1) 160 (Sha.comp s f).row _ _ rfl (setRow_heap _ _ _ _ _ _ a4) Tryz.underlying160 rfl b1i) rfl ?_
     exact ⟨rfl,below_setRow aB (by omega) _⟩
end Go.Proofs.YtopgdlblfieljaaGreatDoor
