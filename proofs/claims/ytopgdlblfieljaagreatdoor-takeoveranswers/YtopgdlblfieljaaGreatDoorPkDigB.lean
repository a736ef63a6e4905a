/-
  The walk of (*digest.state).add: one block of the digest.
-/
import Derived.Test.YtopgdlblfieljaaGreatDoorPkDigA
import Derived.Test.YtopgdlblfieljaaGreatDoorPkRow
import Derived.WalkKit
import Derived.WalkSpells
import Derived.WalkLawsBesides
import Derived.Handy
import Derived.Lib.Hide
import Derived.Laws.CopyOwn
import Derived.Deep.QuietTactic
import Derived.BigQuiet
import Derived.BigRegion
import Derived.StillTailTactics
import Derived.RegionTactic
import Derived.LoopTactic
import Derived.Deep.RegionHeld3
import Derived.Deep.RegionLaw
import Derived.Deep.CutRange
import Derived.Test.YtopgdlblfieljaaGreatDoorProg
set_option linter.unusedSectionVars false
set_option linter.constructorNameAsVariable false
set_option linter.unusedVariables false
set_option linter.unusedSimpArgs false
namespace Go.Proofs.YtopgdlblfieljaaGreatDoor
open Go.RowKit
def Sha.St.row (s:Sha.St):Array Value:=#[B32 s.a,B32 s.b,B32 s.c,B32 s.d,B32 s.e,B32 s.f,B32 s.g,B32 s.h]
@[go_sem] theorem aRc (s:Sha.St):s.row.size=8:=rfl
@[go_sem] theorem St_all (s:Sha.St):s.row.extract 0 8=s.row:=rfl
@[go_sem] theorem St_one (s:Sha.St):ones s.row=true:=by simp [ones,Sha.St.row,Value.oneCell']
@[go_sem] theorem St_0 (s:Sha.St):s.row[0]? = some (B32 s.a):=rfl
@[go_sem] theorem St_1 (s:Sha.St):s.row[1]? = some (B32 s.b):=rfl
@[go_sem] theorem St_2 (s:Sha.St):s.row[2]? = some (B32 s.c):=rfl
@[go_sem] theorem St_3 (s:Sha.St):s.row[3]? = some (B32 s.d):=rfl
@[go_sem] theorem St_4 (s:Sha.St):s.row[4]? = some (B32 s.e):=rfl
@[go_sem] theorem St_5 (s:Sha.St):s.row[5]? = some (B32 s.f):=rfl
@[go_sem] theorem St_6 (s:Sha.St):s.row[6]? = some (B32 s.g):=rfl
@[go_sem] theorem St_7 (s:Sha.St):s.row[7]? = some (B32 s.h):=rfl
theorem aYb (a b c d e f g h:Nat):(⟨a,b,c,d,e,f,g,h⟩:Sha.St).row=#[B32 a,B32 b,B32 c,B32 d,B32 e,B32 f,B32 g,B32 h]:=rfl
def Sha.St.get (s:Sha.St) (i:Nat):Nat:=[s.a,s.b,s.c,s.d,s.e,s.f,s.g,s.h].getD i 0
theorem ash (s:Sha.St) (i:Nat) (hi:i < 8):s.row[i]? = some (B32 (s.get i)):=by
 have:i=0∨i=1∨i=2∨i=3∨i=4∨i=5∨i=6∨i=7:=by omega
 rcases this with rfl | rfl | rfl | rfl | rfl | rfl | rfl | rfl<;>rfl
def mixRow (s t:Sha.St) (j:Nat):Array Value:=((List.range 8).map fun i=>B32 (if i < j then (s.get i+t.get i) % 4294967296 else s.get i)).toArray
theorem ar7 (s t:Sha.St):mixRow s t 0=s.row:=rfl
theorem ar8 (s t:Sha.St):mixRow s t 8=(s.add t).row:=rfl
theorem ayp (s t:Sha.St) (j:Nat) (hj:j < 8):(mixRow s t j)[j]? = some (B32 (s.get j)):=by
 simp only [mixRow,List.getElem?_toArray,List.getElem?_map,List.getElem?_range hj]
 simp
theorem ayo (s t:Sha.St) (j:Nat) (hj:j < 8):(mixRow s t j).setIfInBounds j (B32 ((s.get j+t.get j) % 4294967296))=mixRow s t (j+1):=by
 have:j=0∨j=1∨j=2∨j=3∨j=4∨j=5∨j=6∨j=7:=by omega
 rcases this with rfl | rfl | rfl | rfl | rfl | rfl | rfl | rfl<;>rfl
def a2r (f:Nat→Nat):Array Value:=((Sha.sch f 64).map B32).toArray
@[go_sem] theorem anz (f:Nat→Nat):(a2r f).size=64:=by simp [a2r,Sha.a4u]
@[go_sem] theorem aRt (f:Nat→Nat):(a2r f).extract 0 64=a2r f:=extract_all _ _ (anz f)
@[go_sem] theorem aRs (f:Nat→Nat):ones (a2r f)=true:=by unfold ones;rw [show a2r f=arr f 64 from (aef f).symm];exact apq
theorem aew (b off cap:Nat) (f:Nat→Nat) (hf:∀ j,f j < 256) (w:World) (hc:∀ j,j < 64→w.cell? ⟨b,off+j,none⟩=some (B8 (f j))) (hb:b < w.heap.size) :
  Calls Tryz.prog 164 #[.slice (some ⟨b,off,none⟩) 64 cap] w fun e w'=>e=.returned (.agg (a2r f))∧Below w.heap.size w w' :=
 (agp b off cap f hf w hc hb).mono fun _ _ h=>h
def aca:Array Value:=(Sha.K.map B32).toArray
theorem ajk (k:Nat) (hk:k < 64):aca[k]? = some (B32 (Sha.K.getD k 0)):=by
 have hl:Sha.K.length=64:=rfl
 simp only [aca,List.getElem?_toArray,List.getElem?_map,List.getD_eq_getElem?_getD]
 rw [List.getElem?_eq_getElem (by omega)]
 rfl
def Tab (w:World):Prop := ∃ cs T fr,obj w 0=some (.cells cs T fr)∧64≤cs.size∧cs.extract 0 64=aca
theorem Tab.below {B:Nat} {w w':World} (h:Tab w) (hb:Below B w w') (hB:0 < B):Tab w':=by
 obtain ⟨cs,T,fr,h1,h2,h3⟩:=h
 exact ⟨cs,T,fr,a00 h1 hb hB,h2,h3⟩
theorem K_lt (k:Nat):Sha.K.getD k 0 < 4294967296:=by
 rw [List.getD_eq_getElem?_getD]
 rcases h:Sha.K[k]? with _ | x
 ·simp
 ·exact (by decide:∀ x∈Sha.K,x < 4294967296) x (List.mem_of_getElem? h)
theorem ah7 (f:Nat→Nat) (k:Nat) (hk:k < 64):(a2r f)[k]? = some (B32 ((Sha.sch f 64).getD k 0)):=by
 rw [show a2r f=arr f 64 from (aef f).symm];exact a6f f 64 k (by omega) hk
theorem azd (n e:Nat) (T:TypeId) (hu:Tryz.prog.underlying T=some (.array n e)) (d:TypeDesc) (he:Tryz.prog.underlying e=some d) (hd:(match d with | .struct _ | .array _ _=>true | _=>false)=false)
  (hs:(Tryz.prog.info? e).map (·.size)=some 1) (cs:Array Value) (k:Nat) (hk:k < n) (v:Value) (hv:cs[k]? = some v) (w:World) :
  (Instr.index T (.agg cs) (.int .i64 (k:Int))).run Tryz.prog w=.ok v w:=by
 have hagg:(isAgg e).run Tryz.prog w=.ok false w:=by
  unfold isAgg
  rw [Sem.run_bind,run_underlying he w]
  cases d<;>simp_all
 cases hq:Tryz.prog.info? e with
 | none=>simp [hq] at hs
 | some i =>
  have h1:i.size=1:=by simpa [hq] using hs
  simp [Instr.index,asIntOf,Sem.run_bind,run_underlying hu w,sizeOf,typeInfo,hq,h1,part,hagg,hk,hv]
theorem rot6 (x:Nat) (hx:x < 4294967296) (w:World):Calls Tryz.prog 165 #[B32 x,.int .i64 (-6)] w fun e w'=>e=.returned (B32 (Sha.a7u x 6))∧w' = w:=(a4h x 6 _ hx (by decide) (by decide) (by decide) w).mono fun _ _ h=>⟨h.1,h.2.symm⟩
theorem b2c (x:Nat) (hx:x < 4294967296) (w:World):Calls Tryz.prog 165 #[B32 x,.int .i64 (-11)] w fun e w'=>e=.returned (B32 (Sha.a7u x 11))∧w' = w:=(a4h x 11 _ hx (by decide) (by decide) (by decide) w).mono fun _ _ h=>⟨h.1,h.2.symm⟩
theorem b1w (x:Nat) (hx:x < 4294967296) (w:World):Calls Tryz.prog 165 #[B32 x,.int .i64 (-25)] w fun e w'=>e=.returned (B32 (Sha.a7u x 25))∧w' = w:=(a4h x 25 _ hx (by decide) (by decide) (by decide) w).mono fun _ _ h=>⟨h.1,h.2.symm⟩
theorem rot2 (x:Nat) (hx:x < 4294967296) (w:World):Calls Tryz.prog 165 #[B32 x,.int .i64 (-2)] w fun e w'=>e=.returned (B32 (Sha.a7u x 2))∧w' = w:=(a4h x 2 _ hx (by decide) (by decide) (by decide) w).mono fun _ _ h=>⟨h.1,h.2.symm⟩
theorem b2b (x:Nat) (hx:x < 4294967296) (w:World):Calls Tryz.prog 165 #[B32 x,.int .i64 (-13)] w fun e w'=>e=.returned (B32 (Sha.a7u x 13))∧w' = w:=(a4h x 13 _ hx (by decide) (by decide) (by decide) w).mono fun _ _ h=>⟨h.1,h.2.symm⟩
theorem b1x (x:Nat) (hx:x < 4294967296) (w:World):Calls Tryz.prog 165 #[B32 x,.int .i64 (-22)] w fun e w'=>e=.returned (B32 (Sha.a7u x 22))∧w' = w:=(a4h x 22 _ hx (by decide) (by decide) (by decide) w).mono fun _ _ h=>⟨h.1,h.2.symm⟩
theorem aIn (t:Sha.St) (h:t.ok) (kk ww:Nat):(((t.h:Int)+bits BinOp.xor .u32 (bits BinOp.xor .u32 ((Sha.a7u t.e 6:Nat):Int) ((Sha.a7u t.e 11:Nat):Int)) ((Sha.a7u t.e 25:Nat):Int) +
  bits BinOp.xor .u32 (bits BinOp.and .u32 (t.e:Int) (t.f:Int)) (bits BinOp.and .u32 (bits BinOp.xor .u32 (if IntKind.u32.signed=true then -1 else IntKind.u32.max) (t.e:Int)) (t.g:Int))+(kk:Int)) % 4294967296+(ww:Int)) % 4294967296=((Sha.rx t kk ww:Nat):Int):=by
 obtain ⟨l1,l2,l3,l4,l5,l6,l7,l8⟩:=h
 have a1:t.e &&& t.f < 4294967296:=Nat.and_lt_two_pow (n:=32) _ l6
 have a2:(4294967295 - t.e) &&& t.g < 4294967296:=Nat.and_lt_two_pow (n:=32) _ l7
 rw [a1n _ _ (a1s _ _ l5) (a1s _ _ l5),a1n _ _ (Nat.xor_lt_two_pow (n:=32) (a1s _ _ l5) (a1s _ _ l5)) (a1s _ _ l5),aym _ l5,a6b _ _ l5 l6,a6b _ _ (by omega) l7,a1n _ _ a1 a2]
 simp only [Sha.rx,Sha.b4v]
 omega
theorem aIm (t:Sha.St) (h:t.ok):(bits BinOp.xor .u32 (bits BinOp.xor .u32 ((Sha.a7u t.a 2:Nat):Int) ((Sha.a7u t.a 13:Nat):Int)) ((Sha.a7u t.a 22:Nat):Int) +
  bits BinOp.xor .u32 (bits BinOp.xor .u32 (bits BinOp.and .u32 (t.a:Int) (t.b:Int)) (bits BinOp.and .u32 (t.a:Int) (t.c:Int))) (bits BinOp.and .u32 (t.b:Int) (t.c:Int))) % 4294967296=((Sha.ry t:Nat):Int):=by
 obtain ⟨l1,l2,l3,l4,l5,l6,l7,l8⟩:=h
 have a1:t.a &&& t.b < 4294967296:=Nat.and_lt_two_pow (n:=32) _ l2
 have a2:t.a &&& t.c < 4294967296:=Nat.and_lt_two_pow (n:=32) _ l3
 have a3:t.b &&& t.c < 4294967296:=Nat.and_lt_two_pow (n:=32) _ l3
 rw [a1n _ _ (a1s _ _ l1) (a1s _ _ l1),a1n _ _ (Nat.xor_lt_two_pow (n:=32) (a1s _ _ l1) (a1s _ _ l1)) (a1s _ _ l1),a6b _ _ l1 l2,a6b _ _ l1 l3,a6b _ _ l2 l3,
  a1n _ _ a1 a2,a1n _ _ (Nat.xor_lt_two_pow (n:=32) a1 a2) a3]
 simp only [Sha.ry,Sha.b4w]
 omega
theorem aTg (t:Sha.St) (kk ww:Nat):Sha.rx t kk ww < 4294967296:=Nat.mod_lt _ (by decide)
theorem aTf (t:Sha.St):Sha.ry t < 4294967296:=Nat.mod_lt _ (by decide)
attribute [irreducible] a2r Sha.St.row mixRow
set_option maxHeartbeats 1000000 in
set_option maxRecDepth 100000 in
theorem aB9 (bs:Nat) (s:Sha.St) (hs:s.ok) (b off cap:Nat) (f:Nat→Nat) (hf:∀ j,f j < 256) (w:World) (T:TypeId)
  (hT:Tab w) (hrow:obj w bs=some (.cells s.row T (0,0)))
  (hc:∀ j,j < 64→w.cell? ⟨b,off+j,none⟩=some (B8 (f j))) (hb:b < w.heap.size) (hne:b≠bs) (h0:bs≠0) :
  Calls Tryz.prog 143 #[.pointer (some ⟨bs,0,none⟩),.slice (some ⟨b,off,none⟩) 64 cap] w fun e w' =>
   e=.returned (.tuple #[])∧w.grownBy w' (some bs)∧obj w' bs=some (.cells (Sha.comp s f).row T (0,0)):=by
 have hbs:bs < w.heap.size:=a04 hrow
 have HC:=Lib.hid hc
 have HT:=Lib.hid hT
 clear hc hT
 go_enter Tryz.func143,Tryz.ntmps143
 repeat' (first | go_skip | go_guarded | go_step | go_upon)
 go_cut [4,5] from 11 to 15 (fun v4 v5 w1 => ∃ b4 b5:Nat,v4=.pointer (some ⟨b4,0,none⟩)∧v5=.pointer (some ⟨b5,0,none⟩)∧w.heap.size≤b4∧w.heap.size≤b5∧b4≠b5∧obj w1 b4=some (.cells (a2r f) 182 (0,0))∧obj w1 b5=some (.cells s.row 192 (0,0))∧Below w.heap.size w w1)
 case first =>
  have hS0:obj w.drew bs=some (.cells s.row T (0,0)):=hrow
  have hn1:bs≠w.heap.size:=by omega
  have hn2:bs≠w.heap.size+1:=by omega
  have hB0:Below w.heap.size w w.drew:=(Below.refl _ w).drew
  go_region_law (first | ((go_simp;go_at_call 164;((with_reducible refine (aew b off cap f hf _ (by intro j hj;exact (Below.cell (B:=w.heap.size) (w:=w) (p:=⟨b,off+j,none⟩) (by go_grown) hb).trans (HC.out j hj)) (by simp;omega)).mono ?_));rintro e w' ⟨rfl,hb1⟩;have hS1:obj w' bs=some (.cells s.row T (0,0)):=a00 (by first | exact hrow | exact a02 hrow _ | exact a02 (a02 hrow _) _) hb1 (by simp;omega);have hl1:bs < w'.heap.size:=a04 hS1;have hO:=an3 hb1;have hZ:=hb1.size;simp only [World.size_alloc,World.size_drew] at hZ;try (have hZ1:w.heap.size < w'.heap.size:=by omega);try (have hZ2:w.heap.size+1 < w'.heap.size:=by omega);have hn3:bs≠w'.heap.size:=by omega;have hn4:bs≠w'.heap.size+1:=by omega;dsimp only)))
  all_goals (repeat' go_step)
  all_goals go_meet
  all_goals
   refine ⟨_,_,rfl,rfl,?_,?_,?_,?_,?_,?_⟩
   ·first | omega | (simp only [World.size_alloc,World.size_drew,setRow_size];omega)
   ·first | omega | (simp only [World.size_alloc,World.size_drew,setRow_size];omega)
   ·first | omega | (simp only [World.size_alloc,World.size_drew,setRow_size];omega)
   ·go_simp
   ·go_simp
   ·repeat' (first | with_reducible exact hB0 | with_reducible exact Below.refl _ _ | (with_reducible refine Below.alloc ?_ ?_ _) | (with_reducible refine below_setRow ?_ ?_ _) | (with_reducible refine Below.drew ?_) | (with_reducible refine Below.trans ?_ (Below.mono hb1 ?_)) | omega | (simp only [World.size_alloc,World.size_drew,setRow_size];omega))
 case rest =>
  obtain ⟨b4,b5,rfl,rfl,hb4,hb5,h45,hr4,hr5,hB⟩:=hcut
  obtain ⟨tcs,tT,tfr,ht1,ht2,ht3⟩:=HT.out.below hB (by omega)
  repeat' (first | go_skip | go_guarded | go_step | go_upon)
  go_loopw [17] (fun i wr => ∃ k:Nat,k≤64∧i=.int .i64 k∧obj wr b4=some (.cells (a2r f) 182 (0,0))∧obj wr b5=some (.cells (Sha.ac9 (Sha.sch f 64) s k).row 192 (0,0))∧Below w.heap.size w wr)
   (fun i _=>(64 - intOf i).toNat)
  case atStart=>exact ⟨0,by omega,rfl,hr4,hr5,hB⟩
  case round =>
   obtain ⟨k,hk,rfl,h4,h5,hBr⟩:=hrel
   by_cases hlt:k < 64
   ·have hok:=Sha.axe (Sha.sch f 64) s hs k
    have HOK:=Lib.hid hok
    have HS:=Lib.hid (show Sha.ac9 (Sha.sch f 64) s (k+1)=Sha.rnd (Sha.ac9 (Sha.sch f 64) s k) (Sha.K.getD k 0) ((Sha.sch f 64).getD k 0) from rfl)
    have hx:=fun w=>azd 64 159 182 Tryz.underlying182 _ Tryz.underlying159 rfl (by kernel_rfl) aca k hlt _ (ajk k hlt) w
    have c4:wr.cell? ⟨b4,k,none⟩=some (B32 ((Sha.sch f 64).getD k 0)):=(a01 h4 k).trans (ah7 f k hlt)
    have c5:=a01 h5
    have lk:=K_lt k
    have lw:=aae f hf 64 k
    generalize Sha.ac9 (Sha.sch f 64) s k=t at *
    generalize Sha.K.getD k 0=kk at *
    generalize (Sha.sch f 64).getD k 0=ww at *
    obtain ⟨l1,l2,l3,l4,l5,l6,l7,l8⟩:=hok
    repeat' (first | go_skip | go_guarded | go_step | go_upon)
    go_quiet ((go_at_call 165;(first | (with_reducible exact Calls.quiet_of_same (rot6 _ l5 _)) | (with_reducible exact Calls.quiet_of_same (b2c _ l5 _)) | (with_reducible exact Calls.quiet_of_same (b1w _ l5 _)))))
    rw [aIn t HOK.out kk ww]
    have h4':obj (wr.drewN nq) b4=some (.cells (a2r f) 182 (0,0)):=h4
    have h5':obj (wr.drewN nq) b5=some (.cells t.row 192 (0,0)):=h5
    have hB':Below w.heap.size w (wr.drewN nq):=⟨hBr.os,hBr.tape,hBr.output,hBr.size,hBr.block⟩
    have c5':=a01 h5'
    clear c4 c5 h4 h5 hBr
    have lx:=aTg t kk ww
    generalize hrx:Sha.rx t kk ww=x at *
    have HX:=Lib.hid hrx
    clear hrx
    generalize wr.drewN nq=w2 at *
    repeat' (first | go_skip | go_guarded | go_step | go_upon)
    go_quiet ((go_at_call 165;(first | (with_reducible exact Calls.quiet_of_same (rot2 _ l1 _)) | (with_reducible exact Calls.quiet_of_same (b2b _ l1 _)) | (with_reducible exact Calls.quiet_of_same (b1x _ l1 _)))))
    rw [aIm t HOK.out]
    have hy:=aTf t
    generalize hry:Sha.ry t=y at *
    have HY:=Lib.hid hry
    clear hry
    have h4:obj (w2.drewN nq) b4=some (.cells (a2r f) 182 (0,0)):=h4'
    have h5:obj (w2.drewN nq) b5=some (.cells t.row 192 (0,0)):=h5'
    have hB2:Below w.heap.size w (w2.drewN nq):=⟨hB'.os,hB'.tape,hB'.output,hB'.size,hB'.block⟩
    clear h4' h5' c5' hB'
    generalize w2.drewN nq=w3 at *
    have c5:=a01 h5
    repeat' (first | go_skip | go_guarded | go_step | go_upon)
    go_roundw
    case rel =>
     refine ⟨k+1,by omega,by go_num,a2q h4 h45 _,?_,below_setRow hB2 hb5 _⟩
     have e1:((x:Int)+(y:Int)) % 4294967296=(((x+y) % 4294967296:Nat):Int):=by omega
     have e2:((t.d:Int)+(x:Int)) % 4294967296=(((t.d+x) % 4294967296:Nat):Int):=by omega
     rw [HS.out,a0b,h5,e1,e2]
     simp only [Option.map_some,a95,Sha.rnd,HX.out,HY.out,aYb]
    case measure=>simp [intOf];omega
   ·have h5':obj wr b5=some (.cells (Sha.ac9 (Sha.sch f 64) s 64).row 192 (0,0)):=by rw [h5,show k=64 by omega]
    have hbs5:bs≠b5:=by omega
    have hS:obj wr bs=some (.cells (mixRow s (Sha.ac9 (Sha.sch f 64) s 64) 0) T (0,0)):=by rw [ar7];exact a00 hrow hBr hbs
    have HE:=Lib.hid (show Sha.comp s f=s.add (Sha.ac9 (Sha.sch f 64) s 64) from rfl)
    clear h4 h5 ht1 ht2 ht3 hr4 hr5
    generalize Sha.ac9 (Sha.sch f 64) s 64=t at *
    repeat' (first | go_skip | go_guarded | go_step | go_upon)
    have hgr:w.grownBy wr (some bs):=⟨hBr.os,hBr.tape,hBr.output,hBr.size,fun i hi _=>hBr.block i hi⟩
    clear hBr
    obtain ⟨wo,rfl⟩ : ∃ wo:World,wo=wr:=⟨_,rfl⟩
    go_loopw [104] (fun i wr => ∃ j:Nat,j≤8∧i=.int .i64 j∧obj wr b5=some (.cells t.row 192 (0,0))∧obj wr bs=some (.cells (mixRow s t j) T (0,0))∧w.grownBy wr (some bs))
     (fun i _=>(8 - intOf i).toNat)
    case atStart=>exact ⟨0,by omega,rfl,h5',hS,hgr⟩
    case round =>
     obtain ⟨j,hj,rfl,g5,gs,gB⟩:=hrel
     by_cases aMd:j < 8
     ·have c5:wr.cell? ⟨b5,j,none⟩=some (B32 (t.get j)):=(a01 g5 j).trans (ash t j aMd)
      have cs:wr.cell? ⟨bs,j,none⟩=some (B32 (s.get j)):=(a01 gs j).trans (ayp s t j aMd)
      have g5':obj wr.drew b5=some (.cells t.row 192 (0,0)):=g5
      have gs':obj wr.drew bs=some (.cells (mixRow s t j) T (0,0)):=gs
      have gB':w.grownBy wr.drew (some bs):=⟨gB.os,gB.tape,gB.output,gB.size,gB.block⟩
      have cs':wr.drew.cell? ⟨bs,j,none⟩=some (B32 (s.get j)):=cs
      have fs':wr.drew.frozen? ⟨bs,j,none⟩=false:=a0t gs j
      have HM:=Lib.hid (ayo s t j aMd)
      generalize s.get j=sj at *
      generalize t.get j=tj at *
      repeat' (first | go_skip | go_guarded | go_step | go_upon)
      go_still_tail 11,(by kernel_rfl)
      change wpList _ _ _ _ _ wr.drew
      clear c5 cs g5 gs gB
      generalize wr.drew=w2 at *
      repeat' (first | go_skip | go_guarded | go_step | go_upon)
      go_roundw
      case rel =>
       refine ⟨j+1,by omega,by go_num,a1c g5' _ (by simp;omega) _,?_,?_⟩
       ·rw [a0l,gs',← HM.out,show ((sj:Int)+(tj:Int)) % 4294967296=(((sj+tj) % 4294967296:Nat):Int) by omega];rfl
       ·exact ⟨gB'.os,gB'.tape,gB'.output,by simpa using gB'.size,fun i hi hne=>(heap_setCell_other _ _ _ _ (by simpa using hne)).trans (gB'.block i hi hne)⟩
      case measure=>simp [intOf];omega
     ·have gs':obj wr bs=some (.cells (Sha.comp s f).row T (0,0)):=by rw [gs,show j=8 by omega,ar8,HE.out]
      clear gs
      repeat' (first | go_skip | go_guarded | go_step | go_upon)
      go_end0
      exact ⟨rfl,gB,gs'⟩
end Go.Proofs.YtopgdlblfieljaaGreatDoor
