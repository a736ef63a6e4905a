/-
  The reference's inquiry; the replies.
-/
import Derived.Test.YtopgdlblfieljaaGreatDoorPkTkr
import Derived.Test.YtopgdlblfieljaaGreatDoorPkRi
import Derived.Test.YtopgdlblfieljaaGreatDoorPkSmP
set_option linter.unusedSectionVars false
set_option linter.constructorNameAsVariable false
set_option linter.unusedVariables false
set_option linter.unusedSimpArgs false
namespace Go.Proofs.YtopgdlblfieljaaGreatDoor
open Go.RowKit Go.CE.V
set_option maxRecDepth 20000
set_option maxHeartbeats 4000000
theorem list32 {α:Type} {l:List α} (h:l.length=32) : ∃ d0 d1 d2 d3 d4 d5 d6 d7 d8 d9 d10 d11 d12 d13 d14 d15 d16 d17 d18 d19 d20 d21 d22 d23 d24 d25 d26 d27 d28 d29 d30 d31,l = [d0,d1,d2,d3,d4,d5,d6,d7,d8,d9,d10,d11,d12,d13,d14,d15,d16,d17,d18,d19,d20,d21,d22,d23,d24,d25,d26,d27,d28,d29,d30,d31]:=by
 rcases l with _ | ⟨d0,_ | ⟨d1,_ | ⟨d2,_ | ⟨d3,_ | ⟨d4,_ | ⟨d5,_ | ⟨d6,_ | ⟨d7,_ | ⟨d8,_ | ⟨d9,_ | ⟨d10,_ | ⟨d11,_ | ⟨d12,_ | ⟨d13,_ | ⟨d14,_ | ⟨d15,_ | ⟨d16,_ | ⟨d17,_ | ⟨d18,_ | ⟨d19,_ | ⟨d20,_ | ⟨d21,_ | ⟨d22,_ | ⟨d23,_ | ⟨d24,_ | ⟨d25,_ | ⟨d26,_ | ⟨d27,_ | ⟨d28,_ | ⟨d29,_ | ⟨d30,_ | ⟨d31,_ | ⟨d32,l⟩⟩⟩⟩⟩⟩⟩⟩⟩⟩⟩⟩⟩⟩⟩⟩⟩⟩⟩⟩⟩⟩⟩⟩⟩⟩⟩⟩⟩⟩⟩⟩⟩<;>first | (exact ⟨_,_,_,_,_,_,_,_,_,_,_,_,_,_,_,_,_,_,_,_,_,_,_,_,_,_,_,_,_,_,_,_,rfl⟩) | (simp at h)
theorem rinquiry_calls {l:List Nat} {me ph:Nat} {W:World} {ov pv:Value} (h0:l≠[]) (hv:a0h 0 W ov l) (hpv:pv.oneCell' = true) (a b:Nat) :
  Calls Tryz.prog 16 #[.agg (ownRow me 4 0 90 ph ov pv),.int .i64 a,.int .i64 b] W fun e W'=>e=.returned (.agg (LN.let (inqL l a b) ov).row)∧Below W.heap.size W W':=by
 have po:=a1y me 4 0 90 ph (a0v hv) hpv
 have b0:obj (W.alloc (.cells (ownRow me 4 0 90 ph ov pv) 28 (0,0))) W.heap.size=some (.cells (ownRow me 4 0 90 ph ov pv) 28 (0,0)):=a03 _ _ _ rfl
 have hB0:=(Below.refl W.heap.size W).alloc (Nat.le_refl _) (.cells (ownRow me 4 0 90 ph ov pv) 28 (0,0))
 have w1B:=hB0.alloc hB0.size (.cells z48 48 (0,0))
 have b1:obj ((W.alloc (.cells (ownRow me 4 0 90 ph ov pv) 28 (0,0))).alloc (.cells z48 48 (0,0))) W.heap.size=some (.cells (ownRow me 4 0 90 ph ov pv) 28 (0,0)):=a02 b0 _
 have z1:obj ((W.alloc (.cells (ownRow me 4 0 90 ph ov pv) 28 (0,0))).alloc (.cells z48 48 (0,0))) (W.heap.size+1)=some (.cells z48 48 (0,0)):=a03 _ _ _ (by simp)
 obtain ⟨cb,co,cc,crow,rfl,_⟩:=as9 hv h0
 have c1:=(a01 b1 1).trans (b2p _ _ _ _ _ _ _)
 have c5:=(a01 b1 5).trans (aoj _ _ _ _ _ _ _)
 have hco:=a0v hv
 clear b0 hB0 hv
 go_enter Tryz.func16,Tryz.ntmps16
 repeat' (first | go_skip | go_guarded | go_step | go_upon)
 refine bodyPost_ret (results_cell_row rfl _ _ (W.heap.size+1) 48 _ _ _ rfl (a03 _ _ _ (by simp)) Tryz.underlying48 rfl (by kernel_rfl)) rfl ?_
 exact ⟨by rw [inq_row];rfl,(((Below.refl _ _).alloc (Nat.le_refl _) _).alloc (by simp) _)⟩
def repG (l:List Nat) (a b st:Nat) (D:List UInt8):LN:=⟨14,b,a,4,0,0,st,l,D⟩
theorem rep_row (l:List Nat) (a b st:Nat) (D:List UInt8) (v:Value):(LN.let (repG l a b st D) v).row=([.int .i64 14,.int .i64 b,.int .i64 a,.int .i64 4,.int .i64 0,.int .i64 0,.int .i64 0,.int .i64 0,.int .i64 0,.int .i64 0,.int .i64 0,.int .i64 0,
  .int .i64 0,.bool false,.int .i64 0,.int .i64 0,.int .i64 0,.slice none 0 0,.int .i64 0,.int .i64 0,.string ByteArray.empty,.int .i64 0,.int .i64 0,.slice none 0 0,.int .i64 0,.int .i64 st,.int .i64 0,.int .i64 0,.int .i64 0,v]++D.map fun c=>B8 c.toNat:List Value).toArray:=by
 rw [CE.V.a1i]
 rfl
theorem repG_repL (l:List Nat) (a b st:Nat):repG l a b st (a3t (LN.enc (inqL l a b)))=repL l a b st:=rfl
set_option maxRecDepth 100000 in
theorem rreply_calls {l:List Nat} (hl:l∈tLs) {a:Nat} (ha:a∈l) {b:Nat} (hb:b∈l) (hne:a≠b) {W:World} {v:Value} (hT:ase W) (hv:a0h 0 W v l) (st:Nat) :
  Calls Tryz.prog 39 #[.agg (LN.let (inqL l a b) v).row,.int .i64 st] W fun e W'=>e=.returned (.agg (LN.let (repL l a b st) v).row)∧Below W.heap.size W W':=by
 obtain ⟨cb,co,cc,crow,rfl,_⟩:=as9 hv (tLs_ne hl)
 have lz:=a0e (LN.let (inqL l a b) (.slice (some ⟨cb,co,none⟩) l.length cc)) (show asj.length=32 from by decide)
 have la:=a15 (LN.let (inqL l a b) (.slice (some ⟨cb,co,none⟩) l.length cc)) (show asj.length=32 from by decide)
 have HR:=Lib.hid (fun W' (hb':Below W.heap.size W W')=>mk_calls rmk_runs hl ha hb hne (hT.below hb') (hv.below hb'))
 have aBe:=Lib.hid (inq_row l a b (.slice (some ⟨cb,co,none⟩) l.length cc))
 rw [← repG_repL]
 have hD:=a13 (LN.enc (inqL l a b))
 generalize a3t (LN.enc (inqL l a b))=D at *
 obtain ⟨d0,d1,d2,d3,d4,d5,d6,d7,d8,d9,d10,d11,d12,d13,d14,d15,d16,d17,d18,d19,d20,d21,d22,d23,d24,d25,d26,d27,d28,d29,d30,d31,rfl⟩:=list32 hD
 rw [show a0i [d0,d1,d2,d3,d4,d5,d6,d7,d8,d9,d10,d11,d12,d13,d14,d15,d16,d17,d18,d19,d20,d21,d22,d23,d24,d25,d26,d27,d28,d29,d30,d31]=#[B8 d0.toNat,B8 d1.toNat,B8 d2.toNat,B8 d3.toNat,B8 d4.toNat,B8 d5.toNat,B8 d6.toNat,B8 d7.toNat,B8 d8.toNat,B8 d9.toNat,B8 d10.toNat,B8 d11.toNat,B8 d12.toNat,B8 d13.toNat,B8 d14.toNat,B8 d15.toNat,B8 d16.toNat,B8 d17.toNat,B8 d18.toNat,B8 d19.toNat,B8 d20.toNat,B8 d21.toNat,B8 d22.toNat,B8 d23.toNat,B8 d24.toNat,B8 d25.toNat,B8 d26.toNat,B8 d27.toNat,B8 d28.toNat,B8 d29.toNat,B8 d30.toNat,B8 d31.toNat] from by unfold a0i;rfl] at HR
 generalize hrow:(LN.let (inqL l a b) (.slice (some ⟨cb,co,none⟩) l.length cc)).row=ROW at *
 clear hT hv
 have o0:ones ROW=true:=by rw [← hrow];exact a0y _ rfl
 have b1:obj ((W.alloc (.cells ROW 48 (0,0))).alloc (.cells z48 48 (0,0))) W.heap.size=some (.cells ROW 48 (0,0)):=a02 (a03 _ _ _ rfl) _
 have z1:obj ((W.alloc (.cells ROW 48 (0,0))).alloc (.cells z48 48 (0,0))) (W.heap.size+1)=some (.cells z48 48 (0,0)):=a03 _ _ _ (by simp)
 have w1B:Below W.heap.size W ((W.alloc (.cells ROW 48 (0,0))).alloc (.cells z48 48 (0,0))):=((Below.refl _ _).alloc (Nat.le_refl _) _).alloc (by simp) _
 have HC:=Lib.hid (show ∀ W',obj W' W.heap.size=some (.cells ROW 48 (0,0))→W'.cell? ⟨W.heap.size,1,none⟩=some (.int .i64 a)∧W'.cell? ⟨W.heap.size,2,none⟩=some (.int .i64 b)∧W'.cell? ⟨W.heap.size,3,none⟩=some (.int .i64 4)∧W'.cell? ⟨W.heap.size,29,none⟩=some (.slice (some ⟨cb,co,none⟩) l.length cc) from fun W' h=>by
  rw [aBe.out] at h
  exact ⟨a01 h 1,a01 h 2,a01 h 3,a01 h 29⟩)
 clear aBe hrow
 go_enter Tryz.func39,Tryz.ntmps39
 repeat' (first | go_skip | go_guarded | go_step | go_upon)
 generalize ((W.alloc (.cells ROW 48 (0,0))).alloc (.cells z48 48 (0,0)))=w1 at *
 have lb:=a04 b1
 have lz1:=a04 z1
 repeat' (first | (go_at_call 50;((with_reducible refine (HR.out _ w1B).mono ?_));rintro e w5 ⟨rfl,hb5⟩;have jB:=(w1B.trans (hb5.mono w1B.size)).alloc (w1B.trans (hb5.mono w1B.size)).size (.cells #[B8 d0.toNat,B8 d1.toNat,B8 d2.toNat,B8 d3.toNat,B8 d4.toNat,B8 d5.toNat,B8 d6.toNat,B8 d7.toNat,B8 d8.toNat,B8 d9.toNat,B8 d10.toNat,B8 d11.toNat,B8 d12.toNat,B8 d13.toNat,B8 d14.toNat,B8 d15.toNat,B8 d16.toNat,B8 d17.toNat,B8 d18.toNat,B8 d19.toNat,B8 d20.toNat,B8 d21.toNat,B8 d22.toNat,B8 d23.toNat,B8 d24.toNat,B8 d25.toNat,B8 d26.toNat,B8 d27.toNat,B8 d28.toNat,B8 d29.toNat,B8 d30.toNat,B8 d31.toNat] 46 (0,0));have b2:=a02 (a1w b1 hb5) (.cells #[B8 d0.toNat,B8 d1.toNat,B8 d2.toNat,B8 d3.toNat,B8 d4.toNat,B8 d5.toNat,B8 d6.toNat,B8 d7.toNat,B8 d8.toNat,B8 d9.toNat,B8 d10.toNat,B8 d11.toNat,B8 d12.toNat,B8 d13.toNat,B8 d14.toNat,B8 d15.toNat,B8 d16.toNat,B8 d17.toNat,B8 d18.toNat,B8 d19.toNat,B8 d20.toNat,B8 d21.toNat,B8 d22.toNat,B8 d23.toNat,B8 d24.toNat,B8 d25.toNat,B8 d26.toNat,B8 d27.toNat,B8 d28.toNat,B8 d29.toNat,B8 d30.toNat,B8 d31.toNat] 46 (0,0));have z2:=a02 (a1w z1 hb5) (.cells #[B8 d0.toNat,B8 d1.toNat,B8 d2.toNat,B8 d3.toNat,B8 d4.toNat,B8 d5.toNat,B8 d6.toNat,B8 d7.toNat,B8 d8.toNat,B8 d9.toNat,B8 d10.toNat,B8 d11.toNat,B8 d12.toNat,B8 d13.toNat,B8 d14.toNat,B8 d15.toNat,B8 d16.toNat,B8 d17.toNat,B8 d18.toNat,B8 d19.toNat,B8 d20.toNat,B8 d21.toNat,B8 d22.toNat,B8 d23.toNat,B8 d24.toNat,B8 d25.toNat,B8 d26.toNat,B8 d27.toNat,B8 d28.toNat,B8 d29.toNat,B8 d30.toNat,B8 d31.toNat] 46 (0,0));obtain ⟨c1,c2,c3,c29⟩:=HC.out _ b2;dsimp only) | go_skip | go_guarded | go_step | go_upon)
 refine bodyPost_ret (results_cell_row rfl _ _ (W.heap.size+1) 48 _ _ _ rfl (setRow_heap _ _ _ _ _ _ z2) Tryz.underlying48 rfl (by kernel_rfl)) rfl ?_
 exact ⟨by rw [rep_row];rfl,below_setRow jB (by omega) _⟩
set_option maxRecDepth 100000 in
theorem treply_calls {l:List Nat} (hl:l∈tLs) {a:Nat} (ha:a∈l) {b:Nat} (hb:b∈l) (hne:a≠b) {W:World} {v:Value} (hT:ase W) (hv:a0h 0 W v l) (st:Nat) :
  Calls Tryz.prog 37 #[.agg (LN.let (inqL l a b) v).row,.int .i64 st] W fun e W' => ∃ cv,e=.returned (.agg (LN.let (repL l a b st) cv).row)∧a0h W.heap.size W' cv l∧Below W.heap.size W W':=by
 obtain ⟨cb,co,cc,crow,rfl,_⟩:=as9 hv (tLs_ne hl)
 have lz:=a0e (LN.let (inqL l a b) (.slice (some ⟨cb,co,none⟩) l.length cc)) (show asj.length=32 from by decide)
 have la:=a15 (LN.let (inqL l a b) (.slice (some ⟨cb,co,none⟩) l.length cc)) (show asj.length=32 from by decide)
 have HR:=Lib.hid (fun W' (hb':Below W.heap.size W W')=>mk_calls mk_runs hl ha hb hne (hT.below hb') (hv.below hb'))
 have aBe:=Lib.hid (inq_row l a b (.slice (some ⟨cb,co,none⟩) l.length cc))
 have HG:=Lib.hid (repG_repL l a b st)
 have hD:=a13 (LN.enc (inqL l a b))
 generalize a3t (LN.enc (inqL l a b))=D at *
 obtain ⟨d0,d1,d2,d3,d4,d5,d6,d7,d8,d9,d10,d11,d12,d13,d14,d15,d16,d17,d18,d19,d20,d21,d22,d23,d24,d25,d26,d27,d28,d29,d30,d31,rfl⟩:=list32 hD
 rw [show a0i [d0,d1,d2,d3,d4,d5,d6,d7,d8,d9,d10,d11,d12,d13,d14,d15,d16,d17,d18,d19,d20,d21,d22,d23,d24,d25,d26,d27,d28,d29,d30,d31]=#[B8 d0.toNat,B8 d1.toNat,B8 d2.toNat,B8 d3.toNat,B8 d4.toNat,B8 d5.toNat,B8 d6.toNat,B8 d7.toNat,B8 d8.toNat,B8 d9.toNat,B8 d10.toNat,B8 d11.toNat,B8 d12.toNat,B8 d13.toNat,B8 d14.toNat,B8 d15.toNat,B8 d16.toNat,B8 d17.toNat,B8 d18.toNat,B8 d19.toNat,B8 d20.toNat,B8 d21.toNat,B8 d22.toNat,B8 d23.toNat,B8 d24.toNat,B8 d25.toNat,B8 d26.toNat,B8 d27.toNat,B8 d28.toNat,B8 d29.toNat,B8 d30.toNat,B8 d31.toNat] from by unfold a0i;rfl] at HR
 generalize hrow:(LN.let (inqL l a b) (.slice (some ⟨cb,co,none⟩) l.length cc)).row=ROW at *
 have HV:=Lib.hid hv
 clear hT hv
 have o0:ones ROW=true:=by rw [← hrow];exact a0y _ rfl
 have b1:obj ((W.alloc (.cells ROW 48 (0,0))).alloc (.cells z48 48 (0,0))) W.heap.size=some (.cells ROW 48 (0,0)):=a02 (a03 _ _ _ rfl) _
 have z1:obj ((W.alloc (.cells ROW 48 (0,0))).alloc (.cells z48 48 (0,0))) (W.heap.size+1)=some (.cells z48 48 (0,0)):=a03 _ _ _ (by simp)
 have w1B:Below W.heap.size W ((W.alloc (.cells ROW 48 (0,0))).alloc (.cells z48 48 (0,0))):=((Below.refl _ _).alloc (Nat.le_refl _) _).alloc (by simp) _
 have HC:=Lib.hid (show ∀ W',obj W' W.heap.size=some (.cells ROW 48 (0,0))→W'.cell? ⟨W.heap.size,1,none⟩=some (.int .i64 a)∧W'.cell? ⟨W.heap.size,2,none⟩=some (.int .i64 b)∧W'.cell? ⟨W.heap.size,3,none⟩=some (.int .i64 4)∧W'.cell? ⟨W.heap.size,29,none⟩=some (.slice (some ⟨cb,co,none⟩) l.length cc) from fun W' h=>by
  rw [aBe.out] at h
  exact ⟨a01 h 1,a01 h 2,a01 h 3,a01 h 29⟩)
 clear aBe hrow
 go_enter Tryz.func37,Tryz.ntmps37
 repeat' (first | go_skip | go_guarded | go_step | go_upon)
 generalize ((W.alloc (.cells ROW 48 (0,0))).alloc (.cells z48 48 (0,0)))=w1 at *
 have lb:=a04 b1
 have lz1:=a04 z1
 repeat' (first | (go_at_call 70;((with_reducible refine (HR.out _ w1B).mono ?_));rintro e w5 ⟨rfl,hb5⟩;have jB:=(w1B.trans (hb5.mono w1B.size)).alloc (w1B.trans (hb5.mono w1B.size)).size (.cells #[B8 d0.toNat,B8 d1.toNat,B8 d2.toNat,B8 d3.toNat,B8 d4.toNat,B8 d5.toNat,B8 d6.toNat,B8 d7.toNat,B8 d8.toNat,B8 d9.toNat,B8 d10.toNat,B8 d11.toNat,B8 d12.toNat,B8 d13.toNat,B8 d14.toNat,B8 d15.toNat,B8 d16.toNat,B8 d17.toNat,B8 d18.toNat,B8 d19.toNat,B8 d20.toNat,B8 d21.toNat,B8 d22.toNat,B8 d23.toNat,B8 d24.toNat,B8 d25.toNat,B8 d26.toNat,B8 d27.toNat,B8 d28.toNat,B8 d29.toNat,B8 d30.toNat,B8 d31.toNat] 46 (0,0));have b2:=a02 (a1w b1 hb5) (.cells #[B8 d0.toNat,B8 d1.toNat,B8 d2.toNat,B8 d3.toNat,B8 d4.toNat,B8 d5.toNat,B8 d6.toNat,B8 d7.toNat,B8 d8.toNat,B8 d9.toNat,B8 d10.toNat,B8 d11.toNat,B8 d12.toNat,B8 d13.toNat,B8 d14.toNat,B8 d15.toNat,B8 d16.toNat,B8 d17.toNat,B8 d18.toNat,B8 d19.toNat,B8 d20.toNat,B8 d21.toNat,B8 d22.toNat,B8 d23.toNat,B8 d24.toNat,B8 d25.toNat,B8 d26.toNat,B8 d27.toNat,B8 d28.toNat,B8 d29.toNat,B8 d30.toNat,B8 d31.toNat] 46 (0,0));have z2:=a02 (a1w z1 hb5) (.cells #[B8 d0.toNat,B8 d1.toNat,B8 d2.toNat,B8 d3.toNat,B8 d4.toNat,B8 d5.toNat,B8 d6.toNat,B8 d7.toNat,B8 d8.toNat,B8 d9.toNat,B8 d10.toNat,B8 d11.toNat,B8 d12.toNat,B8 d13.toNat,B8 d14.toNat,B8 d15.toNat,B8 d16.toNat,B8 d17.toNat,B8 d18.toNat,B8 d19.toNat,B8 d20.toNat,B8 d21.toNat,B8 d22.toNat,B8 d23.toNat,B8 d24.toNat,B8 d25.toNat,B8 d26.toNat,B8 d27.toNat,B8 d28.toNat,B8 d29.toNat,B8 d30.toNat,B8 d31.toNat] 46 (0,0));have zd:obj (w5.alloc (.cells #[B8 d0.toNat,B8 d1.toNat,B8 d2.toNat,B8 d3.toNat,B8 d4.toNat,B8 d5.toNat,B8 d6.toNat,B8 d7.toNat,B8 d8.toNat,B8 d9.toNat,B8 d10.toNat,B8 d11.toNat,B8 d12.toNat,B8 d13.toNat,B8 d14.toNat,B8 d15.toNat,B8 d16.toNat,B8 d17.toNat,B8 d18.toNat,B8 d19.toNat,B8 d20.toNat,B8 d21.toNat,B8 d22.toNat,B8 d23.toNat,B8 d24.toNat,B8 d25.toNat,B8 d26.toNat,B8 d27.toNat,B8 d28.toNat,B8 d29.toNat,B8 d30.toNat,B8 d31.toNat] 46 (0,0))) w5.heap.size=some (.cells #[B8 d0.toNat,B8 d1.toNat,B8 d2.toNat,B8 d3.toNat,B8 d4.toNat,B8 d5.toNat,B8 d6.toNat,B8 d7.toNat,B8 d8.toNat,B8 d9.toNat,B8 d10.toNat,B8 d11.toNat,B8 d12.toNat,B8 d13.toNat,B8 d14.toNat,B8 d15.toNat,B8 d16.toNat,B8 d17.toNat,B8 d18.toNat,B8 d19.toNat,B8 d20.toNat,B8 d21.toNat,B8 d22.toNat,B8 d23.toNat,B8 d24.toNat,B8 d25.toNat,B8 d26.toNat,B8 d27.toNat,B8 d28.toNat,B8 d29.toNat,B8 d30.toNat,B8 d31.toNat] 46 (0,0)):=a03 _ _ _ rfl;have HV6:=Lib.hid (HV.out.below jB);dsimp only) | go_skip | go_guarded | go_step | go_upon)
 generalize (w5.alloc (.cells #[B8 d0.toNat,B8 d1.toNat,B8 d2.toNat,B8 d3.toNat,B8 d4.toNat,B8 d5.toNat,B8 d6.toNat,B8 d7.toNat,B8 d8.toNat,B8 d9.toNat,B8 d10.toNat,B8 d11.toNat,B8 d12.toNat,B8 d13.toNat,B8 d14.toNat,B8 d15.toNat,B8 d16.toNat,B8 d17.toNat,B8 d18.toNat,B8 d19.toNat,B8 d20.toNat,B8 d21.toNat,B8 d22.toNat,B8 d23.toNat,B8 d24.toNat,B8 d25.toNat,B8 d26.toNat,B8 d27.toNat,B8 d28.toNat,B8 d29.toNat,B8 d30.toNat,B8 d31.toNat] 46 (0,0)))=w6 at *
 have lb6:=a04 b2
 have lzd:=a04 zd
 refine agn 12 [([],fun v _=>v=.pointer (some ⟨W.heap.size,2,none⟩)),
   ([0],fun v _=>v=.int .i64 b),
   ([],fun v _=>v=.pointer (some ⟨W.heap.size,1,none⟩)),
   ([2],fun v _=>v=.int .i64 a),
   ([],fun v _=>v=.pointer (some ⟨W.heap.size,3,none⟩)),
   ([4],fun v _=>v=.int .i64 4),
   ([],fun v _=>v=.int .i64 st),
   ([],fun v _=>v=.pointer (some ⟨W.heap.size,29,none⟩)),
   ([7],fun v _=>v=.slice (some ⟨cb,co,none⟩) l.length cc),
   ([8],fun v W'=>a0h w6.heap.size W' v l∧∃ b o n c,v=.slice (some ⟨b,o,none⟩) n c),
   ([],fun v _=>v=.agg #[B8 d0.toNat,B8 d1.toNat,B8 d2.toNat,B8 d3.toNat,B8 d4.toNat,B8 d5.toNat,B8 d6.toNat,B8 d7.toNat,B8 d8.toNat,B8 d9.toNat,B8 d10.toNat,B8 d11.toNat,B8 d12.toNat,B8 d13.toNat,B8 d14.toNat,B8 d15.toNat,B8 d16.toNat,B8 d17.toNat,B8 d18.toNat,B8 d19.toNat,B8 d20.toNat,B8 d21.toNat,B8 d22.toNat,B8 d23.toNat,B8 d24.toNat,B8 d25.toNat,B8 d26.toNat,B8 d27.toNat,B8 d28.toNat,B8 d29.toNat,B8 d30.toNat,B8 d31.toNat]),
   ([1,3,5,6,9,10],fun v W' => ∃ cv,v=.agg (LN.let (repG l a b st [d0,d1,d2,d3,d4,d5,d6,d7,d8,d9,d10,d11,d12,d13,d14,d15,d16,d17,d18,d19,d20,d21,d22,d23,d24,d25,d26,d27,d28,d29,d30,d31]) cv).row∧a0h w6.heap.size W' cv l∧cv.oneCell' = true)] (by kernel_rfl) (by kernel_rfl) ?st ⟨?o0,?o1,?o2,?o3,?o4,?o5,?o6,?o7,?o8,?o9,?o10,?o11,trivial⟩ ?tl
 case st =>
  intro k v W1 W2 h hb
  rcases k with _ | _ | _ | _ | _ | _ | _ | _ | _ | _ | _ | _ | k
  ·exact h
  ·exact h
  ·exact h
  ·exact h
  ·exact h
  ·exact h
  ·exact h
  ·exact h
  ·exact h
  ·exact ⟨h.1.below hb,h.2⟩
  ·exact h
  ·obtain ⟨cv,h1,h2,h3⟩:=h;exact ⟨cv,h1,h2.below hb,h3⟩
  ·trivial
 case o0 =>
  intro vs Wq hW hk
  dsimp only [a9l,List.take]
  repeat' (first | go_skip | go_guarded | go_step | go_upon)
  exact a5s (.pointer (some ⟨W.heap.size,2,none⟩)) rfl (by go_simp) (Below.refl _ _) rfl
 case o1 =>
  intro vs Wq hW hk
  obtain ⟨g0,_⟩:=hk
  have g0:vs 0=.pointer (some ⟨W.heap.size,2,none⟩):=g0
  dsimp only [a9l,List.take]
  rw [g0]
  obtain ⟨c1,c2,c3,c29⟩:=HC.out _ (a00 b2 hW lb6)
  repeat' (first | go_skip | go_guarded | go_step | go_upon)
  exact a5s (.int .i64 b) rfl (by go_simp) (Below.refl _ _) rfl
 case o2 =>
  intro vs Wq hW hk
  dsimp only [a9l,List.take]
  repeat' (first | go_skip | go_guarded | go_step | go_upon)
  exact a5s (.pointer (some ⟨W.heap.size,1,none⟩)) rfl (by go_simp) (Below.refl _ _) rfl
 case o3 =>
  intro vs Wq hW hk
  obtain ⟨g2,_⟩:=hk
  have g2:vs 2=.pointer (some ⟨W.heap.size,1,none⟩):=g2
  dsimp only [a9l,List.take]
  rw [g2]
  obtain ⟨c1,c2,c3,c29⟩:=HC.out _ (a00 b2 hW lb6)
  repeat' (first | go_skip | go_guarded | go_step | go_upon)
  exact a5s (.int .i64 a) rfl (by go_simp) (Below.refl _ _) rfl
 case o4 =>
  intro vs Wq hW hk
  dsimp only [a9l,List.take]
  repeat' (first | go_skip | go_guarded | go_step | go_upon)
  exact a5s (.pointer (some ⟨W.heap.size,3,none⟩)) rfl (by go_simp) (Below.refl _ _) rfl
 case o5 =>
  intro vs Wq hW hk
  obtain ⟨g4,_⟩:=hk
  have g4:vs 4=.pointer (some ⟨W.heap.size,3,none⟩):=g4
  dsimp only [a9l,List.take]
  rw [g4]
  obtain ⟨c1,c2,c3,c29⟩:=HC.out _ (a00 b2 hW lb6)
  repeat' (first | go_skip | go_guarded | go_step | go_upon)
  exact a5s (.int .i64 4) rfl (by go_simp) (Below.refl _ _) rfl
 case o6 =>
  intro vs Wq hW hk
  dsimp only [a9l,List.take]
  repeat' (first | go_skip | go_guarded | go_step | go_upon)
  exact a5s (.int .i64 st) rfl (by go_simp) (Below.refl _ _) rfl
 case o7 =>
  intro vs Wq hW hk
  dsimp only [a9l,List.take]
  repeat' (first | go_skip | go_guarded | go_step | go_upon)
  exact a5s (.pointer (some ⟨W.heap.size,29,none⟩)) rfl (by go_simp) (Below.refl _ _) rfl
 case o8 =>
  intro vs Wq hW hk
  obtain ⟨g7,_⟩:=hk
  have g7:vs 7=.pointer (some ⟨W.heap.size,29,none⟩):=g7
  dsimp only [a9l,List.take]
  rw [g7]
  obtain ⟨c1,c2,c3,c29⟩:=HC.out _ (a00 b2 hW lb6)
  repeat' (first | go_skip | go_guarded | go_step | go_upon)
  exact a5s (.slice (some ⟨cb,co,none⟩) l.length cc) rfl (by go_simp) (Below.refl _ _) rfl
 case o9 =>
  intro vs Wq hW hk
  obtain ⟨g8,_⟩:=hk
  have g8:vs 8=.slice (some ⟨cb,co,none⟩) l.length cc:=g8
  dsimp only [a9l,List.take]
  rw [g8]
  have HC2:=Lib.hid ((amv (tLs_ne hl) (by have:=(by decide:∀ l∈tLs,l.length≤4) l hl;omega) (HV6.out.below hW)).mono fun e W' h=>h)
  repeat' (first | (go_at_call 61;((with_reducible refine (HC2.out).mono ?_));rintro e w7 ⟨cv,rfl,hcv,hb7⟩;dsimp only) | go_skip | go_guarded | go_step | go_upon)
  obtain ⟨kb,ko,kc,b3e,ce,_⟩:=as9 (hcv.mono (Nat.zero_le _)) (tLs_ne hl)
  exact a5s cv rfl (by go_simp) hb7 ⟨hcv.mono hW.size,kb,ko,_,kc,ce⟩
 case o10 =>
  intro vs Wq hW hk
  dsimp only [a9l,List.take]
  have zdW:=a00 zd hW lzd
  repeat' (first | go_skip | go_guarded | go_step | go_upon)
  exact a5s (.agg #[B8 d0.toNat,B8 d1.toNat,B8 d2.toNat,B8 d3.toNat,B8 d4.toNat,B8 d5.toNat,B8 d6.toNat,B8 d7.toNat,B8 d8.toNat,B8 d9.toNat,B8 d10.toNat,B8 d11.toNat,B8 d12.toNat,B8 d13.toNat,B8 d14.toNat,B8 d15.toNat,B8 d16.toNat,B8 d17.toNat,B8 d18.toNat,B8 d19.toNat,B8 d20.toNat,B8 d21.toNat,B8 d22.toNat,B8 d23.toNat,B8 d24.toNat,B8 d25.toNat,B8 d26.toNat,B8 d27.toNat,B8 d28.toNat,B8 d29.toNat,B8 d30.toNat,B8 d31.toNat]) rfl (by go_simp) (Below.refl _ _) rfl
 case o11 =>
  intro vs Wq hW hk
  obtain ⟨g1,g3,g5,g6,g9,g10,_⟩:=hk
  have g1:vs 1=.int .i64 b:=g1
  have g3:vs 3=.int .i64 a:=g3
  have g5:vs 5=.int .i64 4:=g5
  have g6:vs 6=.int .i64 st:=g6
  obtain ⟨g9q,kb,ko,kn,kc,g9o⟩:=g9
  have g10:vs 10=.agg #[B8 d0.toNat,B8 d1.toNat,B8 d2.toNat,B8 d3.toNat,B8 d4.toNat,B8 d5.toNat,B8 d6.toNat,B8 d7.toNat,B8 d8.toNat,B8 d9.toNat,B8 d10.toNat,B8 d11.toNat,B8 d12.toNat,B8 d13.toNat,B8 d14.toNat,B8 d15.toNat,B8 d16.toNat,B8 d17.toNat,B8 d18.toNat,B8 d19.toNat,B8 d20.toNat,B8 d21.toNat,B8 d22.toNat,B8 d23.toNat,B8 d24.toNat,B8 d25.toNat,B8 d26.toNat,B8 d27.toNat,B8 d28.toNat,B8 d29.toNat,B8 d30.toNat,B8 d31.toNat]:=g10
  dsimp only [a9l,List.take]
  rw [g1,g3,g5,g6,g9o,g10]
  repeat' (first | go_skip | go_guarded | go_step | go_upon)
  exact a5s (.agg (LN.let (repG l a b st [d0,d1,d2,d3,d4,d5,d6,d7,d8,d9,d10,d11,d12,d13,d14,d15,d16,d17,d18,d19,d20,d21,d22,d23,d24,d25,d26,d27,d28,d29,d30,d31]) (.slice (some ⟨kb,ko,none⟩) kn kc)).row) rfl (by rw [rep_row];rfl) (Below.refl _ _) ⟨_,rfl,g9o ▸ g9q,rfl⟩
 case tl =>
  intro vs W2 hW2 hk
  obtain ⟨cv,h11,hcv,hco⟩:=hk 11 (by decide)
  have h11:vs 11=.agg (LN.let (repG l a b st [d0,d1,d2,d3,d4,d5,d6,d7,d8,d9,d10,d11,d12,d13,d14,d15,d16,d17,d18,d19,d20,d21,d22,d23,d24,d25,d26,d27,d28,d29,d30,d31]) cv).row:=h11
  clear hk
  dsimp only [a9l,List.take,List.drop]
  rw [h11]
  generalize vs 0=u0,vs 1=u1,vs 2=u2,vs 3=u3,vs 4=u4,vs 5=u5,vs 6=u6,vs 7=u7,vs 8=u8,vs 9=u9,vs 10=u10
  have lz3:=a0e (LN.let (repG l a b st [d0,d1,d2,d3,d4,d5,d6,d7,d8,d9,d10,d11,d12,d13,d14,d15,d16,d17,d18,d19,d20,d21,d22,d23,d24,d25,d26,d27,d28,d29,d30,d31]) cv) rfl
  have lo3:=a0y (LN.let (repG l a b st [d0,d1,d2,d3,d4,d5,d6,d7,d8,d9,d10,d11,d12,d13,d14,d15,d16,d17,d18,d19,d20,d21,d22,d23,d24,d25,d26,d27,d28,d29,d30,d31]) cv) hco
  have z3:=a00 z2 hW2 (a04 z2)
  have jB2:=jB.trans (hW2.mono jB.size)
  generalize hrow3:(LN.let (repG l a b st [d0,d1,d2,d3,d4,d5,d6,d7,d8,d9,d10,d11,d12,d13,d14,d15,d16,d17,d18,d19,d20,d21,d22,d23,d24,d25,d26,d27,d28,d29,d30,d31]) cv).row=ROW3 at *
  repeat' (first | go_skip | go_guarded | go_step | go_upon)
  have hcv2:a0h W.heap.size (W2.setRow (W.heap.size+1) ROW3) cv l:=(a2m hcv z3 (by decide) (fun y hy=>setRow_other _ _ _ _ hy)).mono jB.size
  refine bodyPost_ret (results_cell_row rfl _ _ (W.heap.size+1) 48 ROW3 _ _ rfl (setRow_heap _ _ _ _ _ _ z3) Tryz.underlying48 rfl (by rw [lz3];kernel_rfl)) rfl ?_
  exact ⟨cv,by rw [← HG.out,hrow3],hcv2,below_setRow jB2 (by omega) _⟩
end Go.Proofs.YtopgdlblfieljaaGreatDoor
namespace Go.CE
namespace V
open Go.Proofs Go.Proofs.YtopgdlblfieljaaGreatDoor Go.RowKit
set_option maxRecDepth 100000
def bar (ph:Nat):Nat:=if ph == 0||ph == 2 then 5 else ph
theorem bar_phs {ph:Nat} (h:ph∈phs):bar ph∈phs∧(bar ph=3∨bar ph=4∨bar ph=5):=by
 have:∀ ph∈phs,bar ph∈phs∧(bar ph=3∨bar ph=4∨bar ph=5):=by decide
 exact this ph h
def EmpV (u:Value):Prop := ∃ x c,u=.slice x 0 c
theorem EmpV.one {u:Value} (h:EmpV u):u.oneCell' = true:=by
 obtain ⟨x,c,rfl⟩:=h;rfl
def isEmp:AV→Bool
 | .sl _ n _=>Nat.beq n 0
 | _=>false
theorem emp_of [Sym] {τ:Sg} {a:AV} {u:Value} (h:isEmp a=true) (hv:VR τ a u):EmpV u:=by
 cases a<;>first | (cases h;done) | skip
 rename_i x n c
 obtain rfl:=Nat.eq_of_beq_eq_true (show Nat.beq n 0=true from h)
 cases hv
 ·exact ⟨_,_,rfl⟩
 ·exact ⟨_,_,rfl⟩
theorem own_row2 [Sym] {τ:Sg} {g:FV} {me ph:Nat} {u:Value} (h1:avL (a07 g 0 5) [.i .i64 (.ofNat me),.i .i64 (.ofNat 4),.i .i64 (.ofNat 0),.i .i64 (.ofNat 90),.i .i64 (.ofNat ph)]=true) {c d:AV} (h2:a6g (a1d (p4 5) g)=c) (h3:a6g (a1d (p4 6) g)=d) (hv:VR τ (aa5 (.g g 7)) u) :
  ∃ w p,u=.agg (ownRow me 4 0 90 ph w p)∧VR τ c w∧VR τ d p:=by
 have e1:=a6h h1
 have ha:aa5 (FV.g g 7)=.g ([.i .i64 (.ofNat me),.i .i64 (.ofNat 4),.i .i64 (.ofNat 0),.i .i64 (.ofNat 90),.i .i64 (.ofNat ph)] ++ [c,d]):=by
  rw [← e1,← h2,← h3]
  rfl
 rw [ha] at hv
 obtain ⟨cc,rfl,hcc⟩:=hv.aot
 obtain ⟨v0,e0,hv0⟩:=hcc.at (i:=0) rfl
 obtain ⟨v1,e1,hv1⟩:=hcc.at (i:=1) rfl
 obtain ⟨v2,e2,hv2⟩:=hcc.at (i:=2) rfl
 obtain ⟨v3,e3,hv3⟩:=hcc.at (i:=3) rfl
 obtain ⟨v4,e4,hv4⟩:=hcc.at (i:=4) rfl
 obtain ⟨v5,e5,hv5⟩:=hcc.at (i:=5) rfl
 obtain ⟨v6,e6,hv6⟩:=hcc.at (i:=6) rfl
 cases hv0;cases hv1;cases hv2;cases hv3;cases hv4
 refine ⟨v5,v6,?_,hv5,hv6⟩
 have hs:cc.size=7:=hcc.len.symm
 unfold ownRow
 congr 1
 apply Array.ext
 ·simpa using hs
 ·intro i h3 h4
  rcases (show i=0∨i=1∨i=2∨i=3∨i=4∨i=5∨i=6 by omega) with rfl | rfl | rfl | rfl | rfl | rfl | rfl
  ·simpa using (Array.getElem?_eq_some_iff.1 e0).2
  ·simpa using (Array.getElem?_eq_some_iff.1 e1).2
  ·simpa using (Array.getElem?_eq_some_iff.1 e2).2
  ·simpa using (Array.getElem?_eq_some_iff.1 e3).2
  ·simpa using (Array.getElem?_eq_some_iff.1 e4).2
  ·simpa using (Array.getElem?_eq_some_iff.1 e5).2
  ·simpa using (Array.getElem?_eq_some_iff.1 e6).2
noncomputable def isBar (l:List Nat) (me ph:Nat) (r:Ans):Bool:=match r with
 | some (.g g 7,f)=>avL (a07 g 0 5) [.i .i64 (.ofNat me),.i .i64 (.ofNat 4),.i .i64 (.ofNat 0),.i .i64 (.ofNat 90),.i .i64 (.ofNat (bar ph))]&&ark l (a1d (p4 5) g) f&&isEmp (a6g (a1d (p4 6) g))
 | _=>false
theorem bar_runs:allO (fun l me ph=>isBar l me ph (aD6 .e 27 [ownerA me ph l] l))=true:=by decide +kernel
theorem rbar_runs:allO (fun l me ph=>isBar l me ph (aD6 .e 29 [ownerA me ph l] l))=true:=by decide +kernel
theorem bar_calls {f:Nat} (hr:allO (fun l me ph=>isBar l me ph (aD6 .e f [ownerA me ph l] l))=true) {l:List Nat} (hl:l∈tLs) {me:Nat} (hm:me∈l) {ph:Nat} (hp:ph∈phs) {B:Nat} {W:World} {v:Value} (hv:a0h B W v l) :
  Calls Tryz.prog f #[.agg (ownRow me 4 0 90 ph v (.slice none 0 0))] W fun e W' => ∃ w p,e=.returned (.agg (ownRow me 4 0 90 (bar ph) w p))∧a0h 0 W' w l∧EmpV p∧Below W.heap.size W W':=by
 have h0:=allO_of hr hl hm hp
 unfold isBar at h0
 split at h0
 ·rename_i g f' he
  simp only [Bool.and_eq_true] at h0
  obtain ⟨⟨h1,h2⟩,h3⟩:=h0
  refine (af8 (t:=.e) trivial (tLs_ne hl) hv (fun σ h=>?_) he).mono fun e W' ⟨τ,u,s',hu0,hok,hrs,hsr,hu,hb⟩=>?_
  ·exact @LV.lr S00 σ [ownerA me ph l] [.agg (ownRow me 4 0 90 ph v (.slice none 0 0))] ⟨ownerA_vr me ph h,trivial⟩
  ·obtain ⟨w,p,rfl,hw,hpv⟩:=@own_row2 S00 τ g me (bar ph) u h1 _ _ rfl rfl hu
   exact ⟨w,p,hu0,axz h2 (tLs_ne hl) (hok 5 (by omega)) hrs hsr hw,@emp_of S00 τ _ _ h3 hpv,hb⟩
 ·cases h0
theorem apart_lay {W W':World} {v w:Value} {xs l:List Nat} {B:Nat} (hv:a0h 0 W v xs) (hw:a0h B W' w l) (hB:W.heap.size≤B):Apart v w:=by
 intro b o n c b' o' n' c' e e' hn hn' hbb
 subst hbb
 rcases hv with ⟨_,h | ⟨a,c2,h⟩⟩ | ⟨_,b1,o1,c1,r1,h1,_,h2,_⟩
 ·rw [h] at e;cases e
 ·rw [h] at e;injection e with _ e _;omega
 ·rw [h1] at e
  injection e with e _ _
  injection e with e
  injection e with e _ _
  rcases hw with ⟨_,h | ⟨a,c2,h⟩⟩ | ⟨_,b3,o3,c3,r3,h3,h4,_⟩
  ·rw [h] at e';cases e'
  ·rw [h] at e';injection e' with _ e' _;omega
  ·rw [h3] at e'
   injection e' with e' _ _
   injection e' with e'
   injection e' with e' _ _
   have:=(Array.getElem?_eq_some_iff.1 h2).1
   omega
theorem Apart.symm {v w:Value} (h:Apart v w):Apart w v:=fun b o n c b' o' n' c' e e' hn hn' hbb=>h _ _ _ _ _ _ _ _ e' e hn' hn hbb.symm
end V
end Go.CE
