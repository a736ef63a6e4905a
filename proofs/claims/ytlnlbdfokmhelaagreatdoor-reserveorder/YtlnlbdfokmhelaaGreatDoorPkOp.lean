/-
  Envelopes as rows; the walk of envelope.formed.
-/
import Derived.Test.YtlnlbdfokmhelaaGreatDoorPkTab
import Derived.WalkKit
import Derived.WalkSpells
import Derived.WalkLawsBesides
import Derived.Handy
import Derived.Lib.Hide
import Derived.Laws.CopyOwn
import Derived.Deep.QuietTactic
import Derived.BigQuiet
import Derived.BigRegion
import Derived.StillTailTactics
import Derived.RegionTactic
import Derived.LoopTactic
import Derived.Test.YtlnlbdfokmhelaaGreatDoorProg
import Derived.Test.YtlnlbdfokmhelaaGreatDoorPkLaw
import Derived.Test.YtlnlbdfokmhelaaGreatDoorPkRefE
import Derived.OwnWalk
import Derived.Deep.AppendLies
import Derived.Deep.AppendSrc
import Derived.Test.YtlnlbdfokmhelaaGreatDoorPkHash
import Derived.Deep.RegionLaw
set_option linter.unusedSectionVars false
set_option linter.constructorNameAsVariable false
set_option linter.unusedVariables false
set_option linter.unusedSimpArgs false
namespace Go.Proofs.YtlnlbdfokmhelaaGreatDoor
open Go.RowKit
structure Env where
 frm:Int
 dst:Int
 seq:Int
 body:Value
 bgh:List UInt8
def Env.row (e:Env):Array Value:=#[.int .i64 e.frm,.int .i64 e.dst,.int .i64 e.seq,e.body]++as3 e.bgh
theorem b2n (e:Env) (h:e.bgh.length=32):e.row.size=36:=by simp [Env.row,ave,h]
theorem baf (e:Env) (h:e.bgh.length=32):e.row.extract 0 36=e.row:=extract_all _ _ (b2n e h)
theorem bNk (e:Env) (h:e.bgh.length=32):e.row.extract 4 36=as3 e.bgh:=by
 apply Array.ext'
 simp [Env.row,Array.toList_extract]
 apply List.take_of_length_le
 simp [ave,h]
@[go_sem] theorem bNl (e:Env):e.row[0]? = some (.int .i64 e.frm):=by simp [Env.row,Array.getElem?_append]
@[go_sem] theorem bWx (e:Env):e.row[1]? = some (.int .i64 e.dst):=by simp [Env.row,Array.getElem?_append]
@[go_sem] theorem cbe (e:Env):e.row[2]? = some (.int .i64 e.seq):=by simp [Env.row,Array.getElem?_append]
@[go_sem] theorem bA8 (e:Env):e.row[3]? = some e.body:=by simp [Env.row,Array.getElem?_append]
attribute [irreducible] Env.row
def ba0 (e:Env) (n:Nat):Bool:=bkj e.frm&&bkj e.dst&&(e.frm != e.dst)&&decide (1≤e.seq)&&decide (e.seq≤1099511627776)&&decide (n≤1048576)
set_option maxHeartbeats 1000000 in
theorem brg (e:Env) (a:Option Addr) (n c:Nat) (he:e.body=.slice a n c) (w:World) :
  Calls Tryz.prog 192 #[.agg e.row] w fun r w'=>r=.returned (.bool (ba0 e n))∧Below w.heap.size w w':=by
 have h3:e.row[3]? = some (.slice a n c):=by rw [bA8,he]
 clear he
 cases b1:bkj e.frm
 ·go_enter Tryz.func192,Tryz.ntmps192
  repeat' (first | (go_at_call 222;((with_reducible refine (b9g _ _).mono ?_));rintro r w' ⟨rfl,rfl⟩;dsimp only) | go_skip | go_guarded | go_step | go_upon)
  go_ret
  exact ⟨by first | (simp [ba0,b1];done) | (simp [ba0,b1];rfl),(Below.refl _ _).alloc (Nat.le_refl _) _⟩
 ·cases b2:bkj e.dst
  ·go_enter Tryz.func192,Tryz.ntmps192
   repeat' (first | (go_at_call 222;((with_reducible refine (b9g _ _).mono ?_));rintro r w' ⟨rfl,rfl⟩;dsimp only) | go_skip | go_guarded | go_step | go_upon)
   go_ret
   exact ⟨by first | (simp [ba0,b1,b2];done) | (simp [ba0,b1,b2];rfl),(Below.refl _ _).alloc (Nat.le_refl _) _⟩
  ·cases b3:(e.frm != e.dst)
   ·go_enter Tryz.func192,Tryz.ntmps192
    repeat' (first | (go_at_call 222;((with_reducible refine (b9g _ _).mono ?_));rintro r w' ⟨rfl,rfl⟩;dsimp only) | go_skip | go_guarded | go_step | go_upon)
    go_ret
    exact ⟨by first | (simp [ba0,b1,b2,b3];done) | (simp [ba0,b1,b2,b3];rfl),(Below.refl _ _).alloc (Nat.le_refl _) _⟩
   ·by_cases b4:1≤e.seq
    rotate_left
    ·go_enter Tryz.func192,Tryz.ntmps192
     repeat' (first | (go_at_call 222;((with_reducible refine (b9g _ _).mono ?_));rintro r w' ⟨rfl,rfl⟩;dsimp only) | go_skip | go_guarded | go_step | go_upon)
     go_ret
     exact ⟨by first | (simp [ba0,b1,b2,b3,b4];done) | (simp [ba0,b1,b2,b3,b4];rfl),(Below.refl _ _).alloc (Nat.le_refl _) _⟩
    ·by_cases b5:e.seq≤1099511627776
     rotate_left
     ·go_enter Tryz.func192,Tryz.ntmps192
      repeat' (first | (go_at_call 222;((with_reducible refine (b9g _ _).mono ?_));rintro r w' ⟨rfl,rfl⟩;dsimp only) | go_skip | go_guarded | go_step | go_upon)
      go_ret
      exact ⟨by first | (simp [ba0,b1,b2,b3,b4,b5];done) | (simp [ba0,b1,b2,b3,b4,b5];rfl),(Below.refl _ _).alloc (Nat.le_refl _) _⟩
     ·go_enter Tryz.func192,Tryz.ntmps192
      repeat' (first | (go_at_call 222;((with_reducible refine (b9g _ _).mono ?_));rintro r w' ⟨rfl,rfl⟩;dsimp only) | go_skip | go_guarded | go_step | go_upon)
      go_ret
      exact ⟨by first | (simp [ba0,b1,b2,b3,b4,b5];done) | (simp [ba0,b1,b2,b3,b4,b5];omega),(Below.refl _ _).alloc (Nat.le_refl _) _⟩
end Go.Proofs.YtlnlbdfokmhelaaGreatDoor
namespace Go.Proofs.YtlnlbdfokmhelaaGreatDoor
open Go.RowKit
def bAa (e:Env):Nat→List UInt8
 | 0=>[]
 | 1=>le8 (u64 e.frm)
 | 2=>le8 (u64 e.frm)++le8 (u64 e.dst)
 | _=>le8 (u64 e.frm)++le8 (u64 e.dst)++le8 (u64 e.seq)
def c3g (e:Env):Nat→Int
 | 0=>e.frm
 | 1=>e.dst
 | _=>e.seq
theorem bEv (e:Env) (k:Nat) (h:k < 3):bAa e k++le8 (u64 (c3g e k))=bAa e (k+1):=by
 have:k=0∨k=1∨k=2:=by omega
 rcases this with rfl | rfl | rfl<;>simp [bAa,c3g]
def hdr (e:Env):List UInt8:=bAa e 3
theorem bmx (e:Env):(hdr e).length=24:=by simp [hdr,bAa,b96]
theorem bEq (e:Env) (k:Nat) (h:k < 3) (w:World):(Instr.index 86 (.agg #[.int .i64 e.frm,.int .i64 e.dst,.int .i64 e.seq]) (.int .i64 (k:Int))).run Tryz.prog w=.ok (.int .i64 (c3g e k)) w:=by
 have:k=0∨k=1∨k=2:=by omega
 rcases this with rfl | rfl | rfl<;>(show _=_;kernel_rfl)
attribute [irreducible] bAa c3g hdr
set_option maxHeartbeats 1000000 in
set_option maxRecDepth 100000 in
theorem brb (e:Env) (w:World) :
  Calls Tryz.prog 181 #[.agg e.row] w fun r w' => ∃ v,r=.returned v∧w'.ownsRow w.heap.size 5 1 v 24 (avf (hdr e))∧Below w.heap.size w w':=by
 obtain ⟨i0,hi,hz0,hz1,hz2⟩:=bfz
 go_enter Tryz.func181,Tryz.ntmps181
 repeat' (first | (at_make;refine wpList_make_own _ rfl _ _ 76 rfl (w.heap.size+1) 5 i0 _ 1 Tryz.underlying76 hi hz0 hz1 .i64 .i64 24 24 rfl rfl rfl (by omega) (by unfold maxLen;omega) (by simp) ?_;intro w1 hown hgrow;have h0:obj w1 w.heap.size=some (.cells e.row 78 (0,0)):=azl (aff _ _ _ rfl) hgrow (by simp);have hB:Below w.heap.size w w1:=((Below.refl _ _).alloc (Nat.le_refl _) _).grown hgrow (by simp) (by simp);have hz:=hgrow.size;have hs:(w.alloc (.cells e.row 78 (0,0))).heap.size=w.heap.size+1:=(by simp);rw [hs] at hz hown;clear hgrow hs;have c0:=(abm h0 0).trans (bNl e);have c1:=(abm h0 1).trans (bWx e);have c2:=(abm h0 2).trans (cbe e);clear h0) | go_skip | go_guarded | go_step | go_upon)
 clear c0 c1 c2
 go_loopw [3,14] (fun v i wr => ∃ k:Nat,k≤3∧i=.int .i64 k∧v=.slice (some ⟨w.heap.size+1,0,none⟩) (8 * k) 24∧wr.ownsRow (w.heap.size+1) 5 1 (.slice (some ⟨w.heap.size+1,0,none⟩) (8 * k) 24) (8 * k) (avf (bAa e k))∧Below w.heap.size w wr∧w.heap.size+1 < wr.heap.size)
  (fun _ i _=>(3 - intOf i).toNat)
 case atStart =>
  refine ⟨0,by omega,rfl,rfl,?_,hB,?_⟩
  ·have e0:avf (bAa e 0) = []:=by unfold avf bAa;rfl
   rw [e0];exact hown
  ·rcases hown.2 with ⟨h,_⟩ | ⟨g,cap,cur,hv,_,hg,_⟩
   ·cases h
   ·cases hv;exact (Array.getElem?_eq_some_iff.1 hg).1
 case round =>
  obtain ⟨k,hk,rfl,rfl,hown,hB,hlt0⟩:=hrel
  by_cases hlt:k < 3
  ·have hix:=bEq e k hlt wr
   have HN:=Lib.hid (bEv e k hlt)
   repeat' (first | (go_at_call 211;((with_reducible refine (bi4 _ _).mono ?_));rintro r w2 ⟨b,rfl,hbw,hbo,hbB⟩;dsimp only) | (at_builtin;refine wpList_append_fits _ rfl _ _ 76 rfl (w.heap.size+1) 5 i0 1 Tryz.underlying76 hi hz1 (w.heap.size+1) (8 * k) 24 (avf (bAa e k)) rfl (bmg hown hbB (fun g hg=>by cases hg;omega)) ⟨b,0,none⟩ 8 8 (avf (le8 (u64 (c3g e k)))) rfl (by rw [aSr,b96]) (bk9 hbo) (bd6 _) (by omega) ?_;intro w3 hown3 hgrow3) | go_skip | go_guarded | go_step | go_upon)
   go_roundw
   case rel =>
    refine ⟨k+1,by omega,by go_num,by congr 1,?_,(hB.trans (hbB.mono (by omega))).grown hgrow3 (by have:=hbB.size;omega) (fun g hg=>by cases hg;omega),?_⟩
    ·rw [← b9v,HN.out] at hown3;exact hown3
    ·have:=hbB.size;have:=hgrow3.size;omega
   case measure=>simp [intOf];omega
  ·have hown':wr.ownsRow w.heap.size 5 1 (.slice (some ⟨w.heap.size+1,0,none⟩) 24 24) 24 (avf (hdr e)):=by
    have h3:k=3:=by omega
    subst h3
    unfold hdr
    exact beh hown (by omega)
   have h24:8 * k=24:=by omega
   rw [h24]
   clear hown h24
   repeat' (first | go_skip | go_guarded | go_step | go_upon)
   go_ret
   exact ⟨_,rfl,hown',hB⟩
end Go.Proofs.YtlnlbdfokmhelaaGreatDoor
namespace Go.Proofs.YtlnlbdfokmhelaaGreatDoor
open Go.RowKit
theorem bEy {w:World} {base:Nat} {v:Value} {n:Nat} {l:List UInt8} (hn:0 < n) (hl:n=l.length) (h:w.ownsRow base 5 1 v n (avf l)):bhe w v l:=by
 have hc:=h
 rcases h.2 with ⟨_,h0⟩ | ⟨g,c,cur,hv,h1,h2,h3,h4⟩
 ·omega
 ·subst hv
  refine ⟨some ⟨g,0,none⟩,n,c,rfl,hl,(fun h=>by cases h),fun ad had=>?_⟩
  cases had
  exact ⟨(Array.getElem?_eq_some_iff.1 h2).1,hc.cells rfl⟩
set_option maxHeartbeats 4000000 in
set_option maxRecDepth 100000 in
theorem bjx (key:List UInt8) (hk:key.length=32) (e:Env) (hs:e.bgh.length=32) (ad:Addr) (c:Nat) (body:List UInt8) (he:e.body=.slice (some ad) body.length c) (hb0:0 < body.length) (hb1:body.length≤1048576) (w:World)
  (hb:∀ j u,(avf body)[j]? = some u→w.cell? (ad.add j)=some u) (hla:ad.block < w.heap.size) (hT:Tab w) (h0w:0 < w.heap.size) :
  Calls Tryz.prog 129 #[.agg (as3 key),.agg e.row] w fun r w'=>r=.returned (.agg (as3 (bun key (hdr e++body))))∧Below w.heap.size w w':=by
 obtain ⟨i0,hi,hz0,hz1,hz2⟩:=bfz
 have hr:=b2n e hs
 have hall:=baf e hs
 have r1:(as3 key).size=32:=by rw [ave,hk]
 have r2:(as3 key).extract 0 32=as3 key:=b90 _ _ hk
 have q1:(as3 (bun key (hdr e++body))).size=32:=by rw [ave];exact aBi _
 have q2:(as3 (bun key (hdr e++body))).extract 0 32=as3 (bun key (hdr e++body)):=b90 _ _ (aBi _)
 have q3:ones (as3 (bun key (hdr e++body)))=true:=aZ1 _
 have HK:=Lib.hid (fun v w (hv:bhe w v (hdr e++body)) (hT:Tab w)=>bki key (hdr e++body) v hk (by rw [List.length_append,bmx];omega) w hv hT)
 generalize as3 (bun key (hdr e++body))=R at *
 go_enter Tryz.func129,Tryz.ntmps129
 repeat' (first | go_skip | go_guarded | go_step | go_upon)
 have k1:obj (((w.alloc (.cells (as3 key) 46 (0,0))).alloc (.cells e.row 78 (0,0))).alloc (.cells z46 46 (0,0))) w.heap.size=some (.cells (as3 key) 46 (0,0)):=ab6 (ab6 (aff _ _ _ rfl) _) _
 have k2:obj (((w.alloc (.cells (as3 key) 46 (0,0))).alloc (.cells e.row 78 (0,0))).alloc (.cells z46 46 (0,0))) (w.heap.size+1)=some (.cells e.row 78 (0,0)):=ab6 (aff _ _ _ (by simp)) _
 have k3:obj (((w.alloc (.cells (as3 key) 46 (0,0))).alloc (.cells e.row 78 (0,0))).alloc (.cells z46 46 (0,0))) (w.heap.size+1+1)=some (.cells z46 46 (0,0)):=aff _ _ _ (by simp)
 have kB:Below w.heap.size w (((w.alloc (.cells (as3 key) 46 (0,0))).alloc (.cells e.row 78 (0,0))).alloc (.cells z46 46 (0,0))):=(((Below.refl _ _).alloc (Nat.le_refl _) _).alloc (by simp) _).alloc (by simp;omega) _
 have ks:(((w.alloc (.cells (as3 key) 46 (0,0))).alloc (.cells e.row 78 (0,0))).alloc (.cells z46 46 (0,0))).heap.size=w.heap.size+3:=by simp
 generalize (((w.alloc (.cells (as3 key) 46 (0,0))).alloc (.cells e.row 78 (0,0))).alloc (.cells z46 46 (0,0)))=W0 at *
 have l3:=(abm k2 3).trans ((bA8 e).trans (congrArg some he))
 go_region_law (first | ((go_simp;go_at_call 181;((with_reducible refine (brb e _).mono ?_));rintro r w2 ⟨v,rfl,hown,hb2⟩;obtain ⟨g,cap,rfl,hg1,hg2⟩:=hown.form (by decide);have m1:=aa1 (b9d k1) hb2 (by simp;omega);have m2:=aa1 (b9d k2) hb2 (by simp;omega);have m3:=aa1 (b9d k3) hb2 (by simp;omega);have n3:=(abm m2 3).trans ((bA8 e).trans (congrArg some he));have mB:=kB.drew.trans (hb2.mono (by simp;omega));have ms:=hb2.size;dsimp only)) | ((go_simp;go_at_call 180;((with_reducible refine (HK.out _ _ hh oT).mono ?_));rintro r w4 ⟨rfl,hb4⟩;have p3:=aa1 o3 hb4 (by simp at ms;omega);dsimp only)) | ((refine step_append_lies _ (by rfl) _ _ _ (by rfl) w.heap.size 5 i0 _ 1 1 Tryz.underlying76 hi hz0 hz1 hz2 rfl (by decide) _ _ _ (by rfl) (beh hown (by simp;omega)) ad body.length c (avf body) (by rfl) (by rw [aSr];omega) (fun j u hu=>by rw [mB.cell (p:=ad.add j) (by unfold Addr.add;split<;>exact hla)];exact hb j u hu) (bd6 _) (by omega) (by unfold maxLen;omega) (by omega) (by simp at ms;omega) _ rfl ?_;intro g3 cap3 w3 hown3 hgrow3 hat3 hlt3;have o1:=azl m1 hgrow3 (by simp [Value.ownBlock];simp at hg1;omega);have o3:=azl m3 hgrow3 (by simp [Value.ownBlock];simp at hg1;omega);have oB:=mB.grown hgrow3 (by simp at ms;omega) (fun k hk=>by cases hk;show w.heap.size≤g;simp at hg1;omega);have hh:bhe w3 (.slice (some ⟨g3,0,none⟩) (24+body.length) cap3) (hdr e++body):=bEy (n:=24+body.length) (base:=w.heap.size) (by omega) (by rw [List.length_append,bmx]) (by rw [b9v];exact hown3);have oT:=hT.below oB h0w;have os:=hgrow3.size;dsimp only)))
 all_goals
  have z3:obj (w4.setRow (w.heap.size+1+1) R) (w.heap.size+1+1)=some (.cells R 46 (0,0)):=by rw [ajb,p3];rfl
  have zB:Below w.heap.size w (w4.setRow (w.heap.size+1+1) R):=below_setRow (oB.trans (hb4.mono oB.size)) (by omega) _
  generalize w4.setRow (w.heap.size+1+1) R=w5 at *
  clear hb4 p3 oT os hh oB o1 o3 hat3 hgrow3 hown3 ms mB n3 m1 m2 m3 hown hb2 k1 k2 k3 kB ks l3
  repeat' go_step
  refine bodyPost_ret (results_cell_row rfl _ _ (w.heap.size+1+1) 46 R _ _ rfl z3 Tryz.underlying46 rfl (by rw [q1];kernel_rfl)) rfl ?_
  exact ⟨rfl,zB⟩
end Go.Proofs.YtlnlbdfokmhelaaGreatDoor
