/-
  The walk of admit.
-/
import Derived.Test.YtlnlbdfokmhelaaGreatDoorPkRwT
set_option linter.unusedSectionVars false
set_option linter.constructorNameAsVariable false
set_option linter.unusedVariables false
set_option linter.unusedSimpArgs false
namespace Go.Proofs.YtlnlbdfokmhelaaGreatDoor
open Go.RowKit Go.CE.V
set_option maxRecDepth 20000
set_option maxHeartbeats 4000000
attribute [local irreducible] wpQuiet
def a5n (mtg org dl:Nat) (own:List Nat) (ph:Nat) (K:List LN) (l:LN):Nat :=
 if l.kind=12 then
  if l.frm≠org∨agy mtg dl own l=false then 1
  else if (K.any fun x=>decide (x.kind=10)&&decide (a2k org x=l.ref))=false then 11
  else if ph=0∨ph=3 then 7 else 0
 else if l.kind=11 then
  if l.frm≠org∨agy mtg dl own l=false then 1
  else if ph=0∨ph=3∨ph=4∨ph=5 then 7 else 0
 else if a7b mtg dl own l=false then 1
 else if ph=0∨ph=3 then 7 else 0
theorem aB6 {B:Nat} {W:World} {self mtg org dl ph:Nat} {own:List Nat} {ov pv v kv c:Value} {K:List LN} {l:LN} (hv:a4r W v own) (hz:own.length≤1000) (hp:pv.oneCell' = true) (ho:ov.oneCell' = true)
    (hr:∀ i,i < K.length→(K.getD i a0c).ref.length=32) (hm:∀ i,i < K.length→(K.getD i a0c).kind=10→(LN.to (K.getD i a0c) org).Ok∧(LN.enc (LN.to (K.getD i a0c) org)).length≤1048576) (hk:a4w B W kv K) (hzk:K.length≤100000)
    (hl:l.ref.length=32) (hc:a4r W c l.cs) (hcz:l.cs.length≤1000) (hT:Tab W) (h0w:0 < W.heap.size) (h11:l.kind≠11) (h12:l.kind≠12) :
    Calls Tryz.prog 89 #[.agg (a06 mtg org dl v),.agg (ownRow self mtg org dl ph ov pv),kv,.agg (LN.let l c).row] W fun e W'=>e=.returned (.int .i64 (a5n mtg org dl own ph K l))∧Below W.heap.size W W':=by
  have po:=a3c mtg org dl (a2o hv)
  have oo:=a1y self mtg org dl ph ho hp
  have lz:=a0e (LN.let l c) hl
  have la:=a15 (LN.let l c) hl
  have lo:=a0y (LN.let l c) (a2o hc)
  have k0:obj (((W.alloc (.cells (a06 mtg org dl v) 144 (0,0))).alloc (.cells (ownRow self mtg org dl ph ov pv) 28 (0,0))).alloc (.cells (LN.let l c).row 48 (0,0))) W.heap.size=some (.cells (a06 mtg org dl v) 144 (0,0)):=a02 (a02 (a03 _ _ _ rfl) _) _
  have k1:obj (((W.alloc (.cells (a06 mtg org dl v) 144 (0,0))).alloc (.cells (ownRow self mtg org dl ph ov pv) 28 (0,0))).alloc (.cells (LN.let l c).row 48 (0,0))) (W.heap.size+1)=some (.cells (ownRow self mtg org dl ph ov pv) 28 (0,0)):=a02 (a03 _ _ _ (by simp)) _
  have k2:obj (((W.alloc (.cells (a06 mtg org dl v) 144 (0,0))).alloc (.cells (ownRow self mtg org dl ph ov pv) 28 (0,0))).alloc (.cells (LN.let l c).row 48 (0,0))) (W.heap.size+1+1)=some (.cells (LN.let l c).row 48 (0,0)):=a03 _ _ _ (by simp)
  have kB:Below W.heap.size W (((W.alloc (.cells (a06 mtg org dl v) 144 (0,0))).alloc (.cells (ownRow self mtg org dl ph ov pv) 28 (0,0))).alloc (.cells (LN.let l c).row 48 (0,0))):=(((Below.refl _ _).alloc (Nat.le_refl _) _).alloc (by simp) _).alloc (by simp;omega) _
  have c1:=(a01 k0 1).trans (aof _ _ _ _)
  have o4:=(a01 k1 4).trans (a4v _ _ _ _ _ _ _)
  have n0:=(a01 k2 0).trans (a8z _)
  have n1:=(a01 k2 1).trans (ad4 _)
  have HCO:=Lib.hid (fun W' (hb:Below W.heap.size W W')=>a5v (mtg:=mtg) (org:=org) (dl:=dl) hl (hc.below hb) (hv.below hb) (by omega))
  have HAN:=Lib.hid (fun W' (hb:Below W.heap.size W W')=>a7i (mtg:=mtg) (org:=org) (dl:=dl) hl (hc.below hb) (hv.below hb) (by omega) (by omega))
  have e0:((ph:Int) == 0)=decide (ph=0):=a14 ph 0
  have e3:((ph:Int) == 3)=decide (ph=3):=a14 ph 3
  have e4:((ph:Int) == 4)=decide (ph=4):=a14 ph 4
  have e5:((ph:Int) == 5)=decide (ph=5):=a14 ph 5
  have ef:=a14 l.frm org
  have ha:a5n mtg org dl own ph K l=if a7b mtg dl own l=false then 1 else if (decide (ph=0)||decide (ph=3))=true then 7 else 0:=by
    unfold a5n
    rw [if_neg h12,if_neg h11]
    simp only [Bool.or_eq_true,decide_eq_true_eq]
  rw [ha]
  have e11:((l.kind:Int) == 11)=false:=by simp;omega
  have e12:((l.kind:Int) == 12)=false:=by simp;omega
  clear ha hv hc hr hm hk hT
  generalize a7b mtg dl own l=ba at *
  generalize decide (ph=0)=b0 at *
  generalize decide (ph=3)=b3 at *
  clear e4 e5
  rcases (show (ba=false∧b0=true)∨(ba=false∧b0=false)∨(ba=true∧b0=true)∨(ba=true∧b0=false∧b3=true)∨(ba=true∧b0=false∧b3=false) by cases ba<;>cases b0<;>cases b3<;>simp) with ⟨rfl,rfl⟩ | ⟨rfl,rfl⟩ | ⟨rfl,rfl⟩ | ⟨rfl,rfl,rfl⟩ | ⟨rfl,rfl,rfl⟩ <;>
  (go_enter Tryz.func89,Tryz.ntmps89
   repeat' (first | (go_at_call 96;((with_reducible refine (HAN.out _ kB).mono ?_));rintro r w1 ⟨rfl,hb1⟩;have mB:=kB.trans (hb1.mono kB.size);dsimp only) | go_skip | go_guarded | go_step | go_upon)
   go_ret
   exact ⟨rfl,by assumption⟩)
theorem aB7 {B:Nat} {W:World} {self mtg org dl ph:Nat} {own:List Nat} {ov pv v kv c:Value} {K:List LN} {l:LN} (hv:a4r W v own) (hz:own.length≤1000) (hp:pv.oneCell' = true) (ho:ov.oneCell' = true)
  (hr:∀ i,i < K.length→(K.getD i a0c).ref.length=32) (hm:∀ i,i < K.length→(K.getD i a0c).kind=10→(LN.to (K.getD i a0c) org).Ok∧(LN.enc (LN.to (K.getD i a0c) org)).length≤1048576) (hk:a4w B W kv K) (hzk:K.length≤100000)
  (hl:l.ref.length=32) (hc:a4r W c l.cs) (hcz:l.cs.length≤1000) (hT:Tab W) (h0w:0 < W.heap.size) (h11:l.kind=11) :
  Calls Tryz.prog 89 #[.agg (a06 mtg org dl v),.agg (ownRow self mtg org dl ph ov pv),kv,.agg (LN.let l c).row] W fun e W'=>e=.returned (.int .i64 (a5n mtg org dl own ph K l))∧Below W.heap.size W W':=by
 have po:=a3c mtg org dl (a2o hv)
 have oo:=a1y self mtg org dl ph ho hp
 have lz:=a0e (LN.let l c) hl
 have la:=a15 (LN.let l c) hl
 have lo:=a0y (LN.let l c) (a2o hc)
 have k0:obj (((W.alloc (.cells (a06 mtg org dl v) 144 (0,0))).alloc (.cells (ownRow self mtg org dl ph ov pv) 28 (0,0))).alloc (.cells (LN.let l c).row 48 (0,0))) W.heap.size=some (.cells (a06 mtg org dl v) 144 (0,0)):=a02 (a02 (a03 _ _ _ rfl) _) _
 have k1:obj (((W.alloc (.cells (a06 mtg org dl v) 144 (0,0))).alloc (.cells (ownRow self mtg org dl ph ov pv) 28 (0,0))).alloc (.cells (LN.let l c).row 48 (0,0))) (W.heap.size+1)=some (.cells (ownRow self mtg org dl ph ov pv) 28 (0,0)):=a02 (a03 _ _ _ (by simp)) _
 have k2:obj (((W.alloc (.cells (a06 mtg org dl v) 144 (0,0))).alloc (.cells (ownRow self mtg org dl ph ov pv) 28 (0,0))).alloc (.cells (LN.let l c).row 48 (0,0))) (W.heap.size+1+1)=some (.cells (LN.let l c).row 48 (0,0)):=a03 _ _ _ (by simp)
 have kB:Below W.heap.size W (((W.alloc (.cells (a06 mtg org dl v) 144 (0,0))).alloc (.cells (ownRow self mtg org dl ph ov pv) 28 (0,0))).alloc (.cells (LN.let l c).row 48 (0,0))):=(((Below.refl _ _).alloc (Nat.le_refl _) _).alloc (by simp) _).alloc (by simp;omega) _
 have c1:=(a01 k0 1).trans (aof _ _ _ _)
 have o4:=(a01 k1 4).trans (a4v _ _ _ _ _ _ _)
 have n0:=(a01 k2 0).trans (a8z _)
 have n1:=(a01 k2 1).trans (ad4 _)
 have HCO:=Lib.hid (fun W' (hb:Below W.heap.size W W')=>a5v (mtg:=mtg) (org:=org) (dl:=dl) hl (hc.below hb) (hv.below hb) (by omega))
 have HAN:=Lib.hid (fun W' (hb:Below W.heap.size W W')=>a7i (mtg:=mtg) (org:=org) (dl:=dl) hl (hc.below hb) (hv.below hb) (by omega) (by omega))
 have e0:((ph:Int) == 0)=decide (ph=0):=a14 ph 0
 have e3:((ph:Int) == 3)=decide (ph=3):=a14 ph 3
 have e4:((ph:Int) == 4)=decide (ph=4):=a14 ph 4
 have e5:((ph:Int) == 5)=decide (ph=5):=a14 ph 5
 have efp:((l.frm:Int)=(org:Int))=(decide (l.frm=org)=true):=by rw [decide_eq_true_eq];exact propext ⟨fun h=>by omega,fun h=>by omega⟩
 have efb:((l.frm:Int) != (org:Int)) = !decide (l.frm=org):=by unfold bne;rw [a14]
 have ha:a5n mtg org dl own ph K l=if (!decide (l.frm=org) || !agy mtg dl own l)=true then 1 else if (decide (ph=0)||decide (ph=3)||decide (ph=4)||decide (ph=5))=true then 7 else 0:=by
  unfold a5n
  rw [if_neg (by omega),if_pos h11]
  simp only [Bool.or_eq_true,decide_eq_true_eq,Bool.not_eq_true',decide_eq_false_iff_not,ne_eq,or_assoc]
 rw [ha]
 have e11:((l.kind:Int) == 11)=true:=by simp;omega
 have e12:((l.kind:Int) == 12)=false:=by simp;omega
 clear ha hv hc hr hm hk hT HAN
 generalize agy mtg dl own l=bc at *
 generalize decide (l.frm=org)=bf at *
 generalize decide (ph=0)=b0 at *
 generalize decide (ph=3)=b3 at *
 generalize decide (ph=4)=b4 at *
 generalize decide (ph=5)=b5 at *
 rcases (show (bf=false)∨(bf=true∧bc=false)∨(bf=true∧bc=true) by cases bf<;>cases bc<;>simp) with rfl | ⟨rfl,rfl⟩ | ⟨rfl,rfl⟩
 ·rcases (show (b0=true)∨(b0=false) by cases b0<;>simp) with rfl | rfl <;>
  (go_enter Tryz.func89,Tryz.ntmps89
   repeat' (first | (go_at_call 151;((with_reducible refine (HCO.out _ kB).mono ?_));rintro r w1 ⟨rfl,hb1⟩;have m0:=a00 k0 hb1 (a04 k0);have m1:=a00 k1 hb1 (a04 k1);have m2:=a00 k2 hb1 (a04 k2);have m4:=(a01 m1 4).trans (a4v _ _ _ _ _ _ _);have mn0:=(a01 m2 0).trans (a8z _);have mB:=kB.trans (hb1.mono kB.size);dsimp only) | go_skip | go_guarded | go_step | go_upon)
   go_ret
   exact ⟨by simp,by assumption⟩)
 ·rcases (show (b0=true)∨(b0=false) by cases b0<;>simp) with rfl | rfl <;>
  (go_enter Tryz.func89,Tryz.ntmps89
   repeat' (first | (go_at_call 151;((with_reducible refine (HCO.out _ kB).mono ?_));rintro r w1 ⟨rfl,hb1⟩;have m0:=a00 k0 hb1 (a04 k0);have m1:=a00 k1 hb1 (a04 k1);have m2:=a00 k2 hb1 (a04 k2);have m4:=(a01 m1 4).trans (a4v _ _ _ _ _ _ _);have mn0:=(a01 m2 0).trans (a8z _);have mB:=kB.trans (hb1.mono kB.size);dsimp only) | go_skip | go_guarded | go_step | go_upon)
   go_ret
   exact ⟨by simp,by assumption⟩)
 ·rcases (show (b0=true)∨(b0=false∧b3=true)∨(b0=false∧b3=false∧b4=true)∨(b0=false∧b3=false∧b4=false∧b5=true)∨(b0=false∧b3=false∧b4=false∧b5=false) by cases b0<;>cases b3<;>cases b4<;>cases b5<;>simp) with rfl | ⟨rfl,rfl⟩ | ⟨rfl,rfl,rfl⟩ | ⟨rfl,rfl,rfl,rfl⟩ | ⟨rfl,rfl,rfl,rfl⟩ <;>
  (go_enter Tryz.func89,Tryz.ntmps89
   repeat' (first | (go_at_call 151;((with_reducible refine (HCO.out _ kB).mono ?_));rintro r w1 ⟨rfl,hb1⟩;have m0:=a00 k0 hb1 (a04 k0);have m1:=a00 k1 hb1 (a04 k1);have m2:=a00 k2 hb1 (a04 k2);have m4:=(a01 m1 4).trans (a4v _ _ _ _ _ _ _);have mn0:=(a01 m2 0).trans (a8z _);have mB:=kB.trans (hb1.mono kB.size);dsimp only) | go_skip | go_guarded | go_step | go_upon)
   go_ret
   exact ⟨by simp,by assumption⟩)
theorem aB8 {B:Nat} {W:World} {self mtg org dl ph:Nat} {own:List Nat} {ov pv v kv c:Value} {K:List LN} {l:LN} (hv:a4r W v own) (hz:own.length≤1000) (hp:pv.oneCell' = true) (ho:ov.oneCell' = true)
    (hr:∀ i,i < K.length→(K.getD i a0c).ref.length=32) (hm:∀ i,i < K.length→(K.getD i a0c).kind=10→(LN.to (K.getD i a0c) org).Ok∧(LN.enc (LN.to (K.getD i a0c) org)).length≤1048576) (hk:a4w B W kv K) (hzk:K.length≤100000)
    (hl:l.ref.length=32) (hc:a4r W c l.cs) (hcz:l.cs.length≤1000) (hT:Tab W) (h0w:0 < W.heap.size) (h12:l.kind=12) :
    Calls Tryz.prog 89 #[.agg (a06 mtg org dl v),.agg (ownRow self mtg org dl ph ov pv),kv,.agg (LN.let l c).row] W fun e W'=>e=.returned (.int .i64 (a5n mtg org dl own ph K l))∧Below W.heap.size W W':=by
  have po:=a3c mtg org dl (a2o hv)
  have oo:=a1y self mtg org dl ph ho hp
  have lz:=a0e (LN.let l c) hl
  have la:=a15 (LN.let l c) hl
  have lo:=a0y (LN.let l c) (a2o hc)
  have k0:obj (((W.alloc (.cells (a06 mtg org dl v) 144 (0,0))).alloc (.cells (ownRow self mtg org dl ph ov pv) 28 (0,0))).alloc (.cells (LN.let l c).row 48 (0,0))) W.heap.size=some (.cells (a06 mtg org dl v) 144 (0,0)):=a02 (a02 (a03 _ _ _ rfl) _) _
  have k1:obj (((W.alloc (.cells (a06 mtg org dl v) 144 (0,0))).alloc (.cells (ownRow self mtg org dl ph ov pv) 28 (0,0))).alloc (.cells (LN.let l c).row 48 (0,0))) (W.heap.size+1)=some (.cells (ownRow self mtg org dl ph ov pv) 28 (0,0)):=a02 (a03 _ _ _ (by simp)) _
  have k2:obj (((W.alloc (.cells (a06 mtg org dl v) 144 (0,0))).alloc (.cells (ownRow self mtg org dl ph ov pv) 28 (0,0))).alloc (.cells (LN.let l c).row 48 (0,0))) (W.heap.size+1+1)=some (.cells (LN.let l c).row 48 (0,0)):=a03 _ _ _ (by simp)
  have kB:Below W.heap.size W (((W.alloc (.cells (a06 mtg org dl v) 144 (0,0))).alloc (.cells (ownRow self mtg org dl ph ov pv) 28 (0,0))).alloc (.cells (LN.let l c).row 48 (0,0))):=(((Below.refl _ _).alloc (Nat.le_refl _) _).alloc (by simp) _).alloc (by simp;omega) _
  have c1:=(a01 k0 1).trans (aof _ _ _ _)
  have o4:=(a01 k1 4).trans (a4v _ _ _ _ _ _ _)
  have n0:=(a01 k2 0).trans (a8z _)
  have n1:=(a01 k2 1).trans (ad4 _)
  have HCO:=Lib.hid (fun W' (hb:Below W.heap.size W W')=>a5v (mtg:=mtg) (org:=org) (dl:=dl) hl (hc.below hb) (hv.below hb) (by omega))
  have HAN:=Lib.hid (fun W' (hb:Below W.heap.size W W')=>a7i (mtg:=mtg) (org:=org) (dl:=dl) hl (hc.below hb) (hv.below hb) (by omega) (by omega))
  have e0:((ph:Int) == 0)=decide (ph=0):=a14 ph 0
  have e3:((ph:Int) == 3)=decide (ph=3):=a14 ph 3
  have e4:((ph:Int) == 4)=decide (ph=4):=a14 ph 4
  have e5:((ph:Int) == 5)=decide (ph=5):=a14 ph 5
  have efp:((l.frm:Int)=(org:Int))=(decide (l.frm=org)=true):=by rw [decide_eq_true_eq];exact propext ⟨fun h=>by omega,fun h=>by omega⟩
  have efb:((l.frm:Int) != (org:Int)) = !decide (l.frm=org):=by unfold bne;rw [a14]
  have ha:a5n mtg org dl own ph K l=if (!decide (l.frm=org) || !agy mtg dl own l)=true then 1 else if (K.any fun x=>decide (x.kind=10)&&decide (a2k org x=l.ref))=false then 11 else if (decide (ph=0)||decide (ph=3))=true then 7 else 0:=by
    unfold a5n
    rw [if_pos h12]
    simp only [Bool.or_eq_true,decide_eq_true_eq,Bool.not_eq_true',decide_eq_false_iff_not,ne_eq]
  rw [ha]
  have e12:((l.kind:Int) == 12)=true:=by simp;omega
  have hvo:=a2o hv
  have HCF:Hid (∀ W1,obj W1 W.heap.size=some (.cells (a06 mtg org dl v) 144 (0,0))→obj W1 (W.heap.size+1+1)=some (.cells (LN.let l c).row 48 (0,0))→Below W.heap.size W W1→Calls Tryz.prog 92 #[kv,.func (.func 152) #[] #[.pointer (some ⟨W.heap.size,0,none⟩),.pointer (some ⟨W.heap.size+1+1,0,none⟩)]] W1 fun e W'=>e=.returned (.bool (K.any fun x=>decide (x.kind=10)&&decide (a2k org x=l.ref)))∧Below W1.heap.size W1 W'):=Lib.hid fun W1 p0 p2 hb=>cxf2 (.inl rfl) hr (hk.below hb) (by omega) fun i hi w c hbw hc=>av6 (hr i hi) hl (fun e=>(hm i hi e).1) (hc.mono (Nat.zero_le _)) (fun e=>(hm i hi e).2) hvo (hT.below (hb.trans (hbw.mono hb.size)) h0w) (Nat.lt_of_lt_of_le h0w (hb.trans (hbw.mono hb.size)).size) (a00 p0 hbw (a04 p0)) (a00 p2 hbw (a04 p2))
  clear ha hv hc hr hm hk hT HAN e4 e5
  generalize (K.any fun x=>decide (x.kind=10)&&decide (a2k org x=l.ref))=ba at *
  generalize agy mtg dl own l=bc at *
  generalize decide (l.frm=org)=bf at *
  generalize decide (ph=0)=b0 at *
  generalize decide (ph=3)=b3 at *
  rcases (show (bf=false)∨(bf=true∧bc=false)∨(bf=true∧bc=true∧ba=false)∨(bf=true∧bc=true∧ba=true) by cases bf<;>cases bc<;>cases ba<;>simp) with rfl | ⟨rfl,rfl⟩ | ⟨rfl,rfl,rfl⟩ | ⟨rfl,rfl,rfl⟩ <;>
  rcases (show (b0=true)∨(b0=false∧b3=true)∨(b0=false∧b3=false) by cases b0<;>cases b3<;>simp) with rfl | ⟨rfl,rfl⟩ | ⟨rfl,rfl⟩ <;>
  (go_enter Tryz.func89,Tryz.ntmps89
   repeat' (first | (go_at_call 151;((with_reducible refine (HCO.out _ kB).mono ?_));rintro r w1 ⟨rfl,hb1⟩;have m0:=a00 k0 hb1 (a04 k0);have m1:=a00 k1 hb1 (a04 k1);have m2:=a00 k2 hb1 (a04 k2);have m4:=(a01 m1 4).trans (a4v _ _ _ _ _ _ _);have mn0:=(a01 m2 0).trans (a8z _);have mB:=kB.trans (hb1.mono kB.size);dsimp only) | (go_at_call 92;((with_reducible refine (HCF.out _ m0 m2 mB).mono ?_));rintro r w2 ⟨rfl,hb2⟩;have pB:=mB.trans (hb2.mono mB.size);dsimp only) | go_skip | go_guarded | go_step | go_upon)
   go_ret
   exact ⟨by simp,by assumption⟩)
theorem agh {B:Nat} {W:World} {self mtg org dl ph:Nat} {own:List Nat} {ov pv v kv c:Value} {K:List LN} {l:LN} (hv:a4r W v own) (hz:own.length≤1000) (hp:pv.oneCell' = true) (ho:ov.oneCell' = true)
  (hr:∀ i,i < K.length→(K.getD i a0c).ref.length=32) (hm:∀ i,i < K.length→(K.getD i a0c).kind=10→(LN.to (K.getD i a0c) org).Ok∧(LN.enc (LN.to (K.getD i a0c) org)).length≤1048576) (hk:a4w B W kv K) (hzk:K.length≤100000)
  (hl:l.ref.length=32) (hc:a4r W c l.cs) (hcz:l.cs.length≤1000) (hT:Tab W) (h0w:0 < W.heap.size) :
  Calls Tryz.prog 89 #[.agg (a06 mtg org dl v),.agg (ownRow self mtg org dl ph ov pv),kv,.agg (LN.let l c).row] W fun e W'=>e=.returned (.int .i64 (a5n mtg org dl own ph K l))∧Below W.heap.size W W':=by
 by_cases h12:l.kind=12
 ·exact aB8 hv hz hp ho hr hm hk hzk hl hc hcz hT h0w h12
 ·by_cases h11:l.kind=11
  ·exact aB7 hv hz hp ho hr hm hk hzk hl hc hcz hT h0w h11
  ·exact aB6 hv hz hp ho hr hm hk hzk hl hc hcz hT h0w h11 h12
end Go.Proofs.YtlnlbdfokmhelaaGreatDoor
