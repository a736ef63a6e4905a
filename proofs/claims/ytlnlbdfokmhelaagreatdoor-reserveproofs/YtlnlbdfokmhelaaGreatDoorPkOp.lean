/-
  Envelopes as rows; the walk of envelope.formed.
-/
import Derived.Test.YtlnlbdfokmhelaaGreatDoorPkTab
import Derived.WalkKit
import Derived.WalkSpells
import Derived.WalkLawsBesides
import Derived.Handy
import Derived.Lib.Hide
import Derived.Laws.CopyOwn
import Derived.Deep.QuietTactic
import Derived.BigQuiet
import Derived.BigRegion
import Derived.StillTailTactics
import Derived.RegionTactic
import Derived.LoopTactic
import Derived.Test.YtlnlbdfokmhelaaGreatDoorProg
import Derived.Test.YtlnlbdfokmhelaaGreatDoorPkLaw
import Derived.Test.YtlnlbdfokmhelaaGreatDoorPkRefE
import Derived.OwnWalk
import Derived.Deep.AppendLies
import Derived.Deep.AppendSrc
import Derived.Test.YtlnlbdfokmhelaaGreatDoorPkHash
import Derived.Deep.RegionLaw
set_option linter.unusedSectionVars false
set_option linter.constructorNameAsVariable false
set_option linter.unusedVariables false
set_option linter.unusedSimpArgs false
namespace Go.Proofs.YtlnlbdfokmhelaaGreatDoor
open Go.RowKit
structure Env where
 frm:Int
 dst:Int
 seq:Int
 body:Value
 abg:List UInt8
def Env.row (e:Env):Array Value:=#[.int .i64 e.frm,.int .i64 e.dst,.int .i64 e.seq,e.body]++a0i e.abg
theorem a1o (e:Env) (h:e.abg.length=32):e.row.size=36:=by simp [Env.row,a0o,h]
theorem a4f (e:Env) (h:e.abg.length=32):e.row.extract 0 36=e.row:=extract_all _ _ (a1o e h)
theorem aI8 (e:Env) (h:e.abg.length=32):e.row.extract 4 36=a0i e.abg:=by
 apply Array.ext'
 simp [Env.row,Array.toList_extract]
 apply List.take_of_length_le
 simp [a0o,h]
@[go_sem] theorem aI9 (e:Env):e.row[0]? = some (.int .i64 e.frm):=by simp [Env.row,Array.getElem?_append]
@[go_sem] theorem aRj (e:Env):e.row[1]? = some (.int .i64 e.dst):=by simp [Env.row,Array.getElem?_append]
@[go_sem] theorem b5k (e:Env):e.row[2]? = some (.int .i64 e.seq):=by simp [Env.row,Array.getElem?_append]
@[go_sem] theorem av9 (e:Env):e.row[3]? = some e.body:=by simp [Env.row,Array.getElem?_append]
attribute [irreducible] Env.row
def a4e (e:Env) (n:Nat):Bool:=afm e.frm&&afm e.dst&&(e.frm != e.dst)&&decide (1≤e.seq)&&decide (e.seq≤1099511627776)&&decide (n≤1048576)
set_option maxHeartbeats 1000000 in
theorem amg (e:Env) (a:Option Addr) (n c:Nat) (he:e.body=.slice a n c) (w:World) :
  Calls Tryz.prog 192 #[.agg e.row] w fun r w'=>r=.returned (.bool (a4e e n))∧Below w.heap.size w w':=by
 have h3:e.row[3]? = some (.slice a n c):=by rw [av9,he]
 clear he
 cases b1:afm e.frm
 ·go_enter Tryz.func192,Tryz.ntmps192
  repeat' (first | (go_at_call 222;((with_reducible refine (a3k _ _).mono ?_));rintro r w' ⟨rfl,rfl⟩;dsimp only) | go_skip | go_guarded | go_step | go_upon)
  go_ret
  exact ⟨by first | (simp [a4e,b1];done) | (simp [a4e,b1];rfl),(Below.refl _ _).alloc (Nat.le_refl _) _⟩
 ·cases b2:afm e.dst
  ·go_enter Tryz.func192,Tryz.ntmps192
   repeat' (first | (go_at_call 222;((with_reducible refine (a3k _ _).mono ?_));rintro r w' ⟨rfl,rfl⟩;dsimp only) | go_skip | go_guarded | go_step | go_upon)
   go_ret
   exact ⟨by first | (simp [a4e,b1,b2];done) | (simp [a4e,b1,b2];rfl),(Below.refl _ _).alloc (Nat.le_refl _) _⟩
  ·cases b3:(e.frm != e.dst)
   ·go_enter Tryz.func192,Tryz.ntmps192
    repeat' (first | (go_at_call 222;((with_reducible refine (a3k _ _).mono ?_));rintro r w' ⟨rfl,rfl⟩;dsimp only) | go_skip | go_guarded | go_step | go_upon)
    go_ret
    exact ⟨by first | (simp [a4e,b1,b2,b3];done) | (simp [a4e,b1,b2,b3];rfl),(Below.refl _ _).alloc (Nat.le_refl _) _⟩
   ·by_cases b4:1≤e.seq
    rotate_left
    ·go_enter Tryz.func192,Tryz.ntmps192
     repeat' (first | (go_at_call 222;((with_reducible refine (a3k _ _).mono ?_));rintro r w' ⟨rfl,rfl⟩;dsimp only) | go_skip | go_guarded | go_step | go_upon)
     go_ret
     exact ⟨by first | (simp [a4e,b1,b2,b3,b4];done) | (simp [a4e,b1,b2,b3,b4];rfl),(Below.refl _ _).alloc (Nat.le_refl _) _⟩
    ·by_cases b5:e.seq≤1099511627776
     rotate_left
     ·go_enter Tryz.func192,Tryz.ntmps192
      repeat' (first | (go_at_call 222;((with_reducible refine (a3k _ _).mono ?_));rintro r w' ⟨rfl,rfl⟩;dsimp only) | go_skip | go_guarded | go_step | go_upon)
      go_ret
      exact ⟨by first | (simp [a4e,b1,b2,b3,b4,b5];done) | (simp [a4e,b1,b2,b3,b4,b5];rfl),(Below.refl _ _).alloc (Nat.le_refl _) _⟩
     ·go_enter Tryz.func192,Tryz.ntmps192
      repeat' (first | (go_at_call 222;((with_reducible refine (a3k _ _).mono ?_));rintro r w' ⟨rfl,rfl⟩;dsimp only) | go_skip | go_guarded | go_step | go_upon)
      go_ret
      exact ⟨by first | (simp [a4e,b1,b2,b3,b4,b5];done) | (simp [a4e,b1,b2,b3,b4,b5];omega),(Below.refl _ _).alloc (Nat.le_refl _) _⟩
end Go.Proofs.YtlnlbdfokmhelaaGreatDoor
namespace Go.Proofs.YtlnlbdfokmhelaaGreatDoor
open Go.RowKit
def avc (e:Env):Nat→List UInt8
 | 0=>[]
 | 1=>le8 (u64 e.frm)
 | 2=>le8 (u64 e.frm)++le8 (u64 e.dst)
 | _=>le8 (u64 e.frm)++le8 (u64 e.dst)++le8 (u64 e.seq)
def aWz (e:Env):Nat→Int
 | 0=>e.frm
 | 1=>e.dst
 | _=>e.seq
theorem azj (e:Env) (k:Nat) (h:k < 3):avc e k++le8 (u64 (aWz e k))=avc e (k+1):=by
 have:k=0∨k=1∨k=2:=by omega
 rcases this with rfl | rfl | rfl<;>simp [avc,aWz]
def hdr (e:Env):List UInt8:=avc e 3
theorem ai0 (e:Env):(hdr e).length=24:=by simp [hdr,avc,a2y]
theorem aze (e:Env) (k:Nat) (h:k < 3) (w:World):(Instr.index 86 (.agg #[.int .i64 e.frm,.int .i64 e.dst,.int .i64 e.seq]) (.int .i64 (k:Int))).run Tryz.prog w=.ok (.int .i64 (aWz e k)) w:=by
 have:k=0∨k=1∨k=2:=by omega
 rcases this with rfl | rfl | rfl<;>(show _=_;kernel_rfl)
attribute [irreducible] avc aWz hdr
set_option maxHeartbeats 1000000 in
set_option maxRecDepth 100000 in
theorem ama (e:Env) (w:World) :
  Calls Tryz.prog 181 #[.agg e.row] w fun r w' => ∃ v,r=.returned v∧w'.ownsRow w.heap.size 5 1 v 24 (a0p (hdr e))∧Below w.heap.size w w':=by
 obtain ⟨i0,hi,hz0,hz1,hz2⟩:=aax
 go_enter Tryz.func181,Tryz.ntmps181
 repeat' (first | (at_make;refine wpList_make_own _ rfl _ _ 76 rfl (w.heap.size+1) 5 i0 _ 1 Tryz.underlying76 hi hz0 hz1 .i64 .i64 24 24 rfl rfl rfl (by omega) (by unfold maxLen;omega) (by simp) ?_;intro w1 hown hgrow;have h0:obj w1 w.heap.size=some (.cells e.row 78 (0,0)):=a0w (a03 _ _ _ rfl) hgrow (by simp);have hB:Below w.heap.size w w1:=((Below.refl _ _).alloc (Nat.le_refl _) _).grown hgrow (by simp) (by simp);have hz:=hgrow.size;have hs:(w.alloc (.cells e.row 78 (0,0))).heap.size=w.heap.size+1:=(by simp);rw [hs] at hz hown;clear hgrow hs;have c0:=(a01 h0 0).trans (aI9 e);have c1:=(a01 h0 1).trans (aRj e);have c2:=(a01 h0 2).trans (b5k e);clear h0) | go_skip | go_guarded | go_step | go_upon)
 clear c0 c1 c2
 go_loopw [3,14] (fun v i wr => ∃ k:Nat,k≤3∧i=.int .i64 k∧v=.slice (some ⟨w.heap.size+1,0,none⟩) (8 * k) 24∧wr.ownsRow (w.heap.size+1) 5 1 (.slice (some ⟨w.heap.size+1,0,none⟩) (8 * k) 24) (8 * k) (a0p (avc e k))∧Below w.heap.size w wr∧w.heap.size+1 < wr.heap.size)
  (fun _ i _=>(3 - intOf i).toNat)
 case atStart =>
  refine ⟨0,by omega,rfl,rfl,?_,hB,?_⟩
  ·have e0:a0p (avc e 0) = []:=by unfold a0p avc;rfl
   rw [e0];exact hown
  ·rcases hown.2 with ⟨h,_⟩ | ⟨g,cap,cur,hv,_,hg,_⟩
   ·cases h
   ·cases hv;exact (Array.getElem?_eq_some_iff.1 hg).1
 case round =>
  obtain ⟨k,hk,rfl,rfl,hown,hB,hlt0⟩:=hrel
  by_cases hlt:k < 3
  ·have hix:=aze e k hlt wr
   have HN:=Lib.hid (azj e k hlt)
   repeat' (first | (go_at_call 211;((with_reducible refine (ada _ _).mono ?_));rintro r w2 ⟨b,rfl,hbw,hbo,hbB⟩;dsimp only) | (at_builtin;refine wpList_append_fits _ rfl _ _ 76 rfl (w.heap.size+1) 5 i0 1 Tryz.underlying76 hi hz1 (w.heap.size+1) (8 * k) 24 (a0p (avc e k)) rfl (ahk hown hbB (fun g hg=>by cases hg;omega)) ⟨b,0,none⟩ 8 8 (a0p (le8 (u64 (aWz e k)))) rfl (by rw [a1m,a2y]) (afc hbo) (a81 _) (by omega) ?_;intro w3 hown3 hgrow3) | go_skip | go_guarded | go_step | go_upon)
   go_roundw
   case rel =>
    refine ⟨k+1,by omega,by go_num,by congr 1,?_,(hB.trans (hbB.mono (by omega))).grown hgrow3 (by have:=hbB.size;omega) (fun g hg=>by cases hg;omega),?_⟩
    ·rw [← a4a,HN.out] at hown3;exact hown3
    ·have:=hbB.size;have:=hgrow3.size;omega
   case measure=>simp [intOf];omega
  ·have hown':wr.ownsRow w.heap.size 5 1 (.slice (some ⟨w.heap.size+1,0,none⟩) 24 24) 24 (a0p (hdr e)):=by
    have h3:k=3:=by omega
    subst h3
    unfold hdr
    exact abn hown (by omega)
   have h24:8 * k=24:=by omega
   rw [h24]
   clear hown h24
   repeat' (first | go_skip | go_guarded | go_step | go_upon)
   go_ret
   exact ⟨_,rfl,hown',hB⟩
end Go.Proofs.YtlnlbdfokmhelaaGreatDoor
namespace Go.Proofs.YtlnlbdfokmhelaaGreatDoor
open Go.RowKit
theorem azm {w:World} {base:Nat} {v:Value} {n:Nat} {l:List UInt8} (hn:0 < n) (hl:n=l.length) (h:w.ownsRow base 5 1 v n (a0p l)):acd w v l:=by
 have hc:=h
 rcases h.2 with ⟨_,h0⟩ | ⟨g,c,cur,hv,h1,h2,h3,h4⟩
 ·omega
 ·subst hv
  refine ⟨some ⟨g,0,none⟩,n,c,rfl,hl,(fun h=>by cases h),fun ad had=>?_⟩
  cases had
  exact ⟨(Array.getElem?_eq_some_iff.1 h2).1,hc.cells rfl⟩
set_option maxHeartbeats 4000000 in
set_option maxRecDepth 100000 in
theorem af0 (key:List UInt8) (hk:key.length=32) (e:Env) (hs:e.abg.length=32) (ad:Addr) (c:Nat) (body:List UInt8) (he:e.body=.slice (some ad) body.length c) (hb0:0 < body.length) (hb1:body.length≤1048576) (w:World)
  (hb:∀ j u,(a0p body)[j]? = some u→w.cell? (ad.add j)=some u) (hla:ad.block < w.heap.size) (hT:Tab w) (h0w:0 < w.heap.size) :
  Calls Tryz.prog 129 #[.agg (a0i key),.agg e.row] w fun r w'=>r=.returned (.agg (a0i (ap3 key (hdr e++body))))∧Below w.heap.size w w':=by
 obtain ⟨i0,hi,hz0,hz1,hz2⟩:=aax
 have hr:=a1o e hs
 have hall:=a4f e hs
 have r1:(a0i key).size=32:=by rw [a0o,hk]
 have r2:(a0i key).extract 0 32=a0i key:=a2v _ _ hk
 have q1:(a0i (ap3 key (hdr e++body))).size=32:=by rw [a0o];exact a13 _
 have q2:(a0i (ap3 key (hdr e++body))).extract 0 32=a0i (ap3 key (hdr e++body)):=a2v _ _ (a13 _)
 have q3:ones (a0i (ap3 key (hdr e++body)))=true:=a1t _
 have HK:=Lib.hid (fun v w (hv:acd w v (hdr e++body)) (hT:Tab w)=>afl key (hdr e++body) v hk (by rw [List.length_append,ai0];omega) w hv hT)
 generalize a0i (ap3 key (hdr e++body))=R at *
 go_enter Tryz.func129,Tryz.ntmps129
 repeat' (first | go_skip | go_guarded | go_step | go_upon)
 have k1:obj (((w.alloc (.cells (a0i key) 46 (0,0))).alloc (.cells e.row 78 (0,0))).alloc (.cells z46 46 (0,0))) w.heap.size=some (.cells (a0i key) 46 (0,0)):=a02 (a02 (a03 _ _ _ rfl) _) _
 have k2:obj (((w.alloc (.cells (a0i key) 46 (0,0))).alloc (.cells e.row 78 (0,0))).alloc (.cells z46 46 (0,0))) (w.heap.size+1)=some (.cells e.row 78 (0,0)):=a02 (a03 _ _ _ (by simp)) _
 have k3:obj (((w.alloc (.cells (a0i key) 46 (0,0))).alloc (.cells e.row 78 (0,0))).alloc (.cells z46 46 (0,0))) (w.heap.size+1+1)=some (.cells z46 46 (0,0)):=a03 _ _ _ (by simp)
 have kB:Below w.heap.size w (((w.alloc (.cells (a0i key) 46 (0,0))).alloc (.cells e.row 78 (0,0))).alloc (.cells z46 46 (0,0))):=(((Below.refl _ _).alloc (Nat.le_refl _) _).alloc (by simp) _).alloc (by simp;omega) _
 have ks:(((w.alloc (.cells (a0i key) 46 (0,0))).alloc (.cells e.row 78 (0,0))).alloc (.cells z46 46 (0,0))).heap.size=w.heap.size+3:=by simp
 generalize (((w.alloc (.cells (a0i key) 46 (0,0))).alloc (.cells e.row 78 (0,0))).alloc (.cells z46 46 (0,0)))=W0 at *
 have l3:=(a01 k2 3).trans ((av9 e).trans (congrArg some he))
 go_region_law (first | ((go_simp;go_at_call 181;((with_reducible refine (ama e _).mono ?_));rintro r w2 ⟨v,rfl,hown,hb2⟩;obtain ⟨g,cap,rfl,hg1,hg2⟩:=hown.form (by decide);have m1:=a00 (a3g k1) hb2 (by simp;omega);have m2:=a00 (a3g k2) hb2 (by simp;omega);have m3:=a00 (a3g k3) hb2 (by simp;omega);have n3:=(a01 m2 3).trans ((av9 e).trans (congrArg some he));have mB:=kB.drew.trans (hb2.mono (by simp;omega));have ms:=hb2.size;dsimp only)) | ((go_simp;go_at_call 180;((with_reducible refine (HK.out _ _ hh oT).mono ?_));rintro r w4 ⟨rfl,hb4⟩;have p3:=a00 o3 hb4 (by simp at ms;omega);dsimp only)) | ((refine step_append_lies _ (by rfl) _ _ _ (by rfl) w.heap.size 5 i0 _ 1 1 Tryz.underlying76 hi hz0 hz1 hz2 rfl (by decide) _ _ _ (by rfl) (abn hown (by simp;omega)) ad body.length c (a0p body) (by rfl) (by rw [a1m];omega) (fun j u hu=>by rw [mB.cell (p:=ad.add j) (by unfold Addr.add;split<;>exact hla)];exact hb j u hu) (a81 _) (by omega) (by unfold maxLen;omega) (by omega) (by simp at ms;omega) _ rfl ?_;intro g3 cap3 w3 hown3 hgrow3 hat3 hlt3;have o1:=a0w m1 hgrow3 (by simp [Value.ownBlock];simp at hg1;omega);have o3:=a0w m3 hgrow3 (by simp [Value.ownBlock];simp at hg1;omega);have oB:=mB.grown hgrow3 (by simp at ms;omega) (fun k hk=>by cases hk;show w.heap.size≤g;simp at hg1;omega);have hh:acd w3 (.slice (some ⟨g3,0,none⟩) (24+body.length) cap3) (hdr e++body):=azm (n:=24+body.length) (base:=w.heap.size) (by omega) (by rw [List.length_append,ai0]) (by rw [a4a];exact hown3);have oT:=hT.below oB h0w;have os:=hgrow3.size;dsimp only)))
 all_goals
  have z3:obj (w4.setRow (w.heap.size+1+1) R) (w.heap.size+1+1)=some (.cells R 46 (0,0)):=by rw [a0b,p3];rfl
  have zB:Below w.heap.size w (w4.setRow (w.heap.size+1+1) R):=below_setRow (oB.trans (hb4.mono oB.size)) (by omega) _
  generalize w4.setRow (w.heap.size+1+1) R=w5 at *
  clear hb4 p3 oT os hh oB o1 o3 hat3 hgrow3 hown3 ms mB n3 m1 m2 m3 hown hb2 k1 k2 k3 kB ks l3
  repeat' go_step
  refine bodyPost_ret (results_cell_row rfl _ _ (w.heap.size+1+1) 46 R _ _ rfl z3 Tryz.underlying46 rfl (by rw [q1];kernel_rfl)) rfl ?_
  exact ⟨rfl,zB⟩
end Go.Proofs.YtlnlbdfokmhelaaGreatDoor
