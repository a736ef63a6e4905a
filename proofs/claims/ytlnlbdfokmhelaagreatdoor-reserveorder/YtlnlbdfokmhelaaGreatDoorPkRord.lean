/-
  What the walks of the Reserve statements begin with.
-/
import Derived.Test.YtlnlbdfokmhelaaGreatDoorPkRo
import Derived.Test.YtlnlbdfokmhelaaGreatDoorPkRp
import Derived.Test.YtlnlbdfokmhelaaGreatDoorPkRm
import Derived.WalkKit
import Derived.ProofKit
import Derived.OpenShut
import Derived.Carry
import Derived.Deep.DeepHandedRow
import Derived.Deep.Slices
import Derived.Test.YtlnlbdfokmhelaaGreatDoorPkQ
import Derived.Test.YtlnlbdfokmhelaaGreatDoorPkCn
import Derived.Test.YtlnlbdfokmhelaaGreatDoorPkRwH
import Derived.Test.YtlnlbdfokmhelaaGreatDoorPkRwS
import Derived.Test.YtlnlbdfokmhelaaGreatDoorPkRwP
import Derived.Test.YtlnlbdfokmhelaaGreatDoorPkMf
set_option linter.unusedSectionVars false
set_option linter.constructorNameAsVariable false
set_option linter.unusedVariables false
set_option linter.unusedSimpArgs false
namespace Go.Proofs.YtlnlbdfokmhelaaGreatDoor
open Go.RowKit Go.CE.V Go.Rv
set_option maxRecDepth 20000
set_option maxHeartbeats 4000000
attribute [local irreducible] wpQuiet
theorem _root_.Go.CE.V.bph.below {W W':World} (h:bph W) (hb:Below W.heap.size W W'):bph W':=by
 obtain ⟨c,h1,h2,h3⟩:=h
 exact ⟨c,(hb.block 0 (ah1 (show obj W 0=some _ from h1))).trans h1,h2,h3⟩
theorem _root_.Go.CE.V.bph.pos {W:World} (h:bph W):0 < W.heap.size:=by
 obtain ⟨c,h1,_⟩:=h
 exact ah1 (show obj W 0=some _ from h1)
theorem _root_.Go.CE.V.bph.tab {W:World} (h:bph W):Tab W:=by
 obtain ⟨c,h1,h2,h3⟩:=h
 refine ⟨c,_,_,h1,by omega,?_⟩
 rw [extract_all _ _ h2]
 unfold bg9
 apply Array.ext_getElem?
 intro i
 by_cases hi:i < 64
 ·rw [h3 i hi,List.getElem?_toArray,List.getElem?_map,List.getD_eq_getElem?_getD]
  have hK:Sha.K.length=64:=rfl
  rw [List.getElem?_eq_getElem (by omega)]
  rfl
 ·rw [Array.getElem?_eq_none (by omega),List.getElem?_toArray,List.getElem?_eq_none (by rw [List.length_map];show Sha.K.length≤i;have hK:Sha.K.length=64:=rfl;omega)]
theorem bk5 {W:World} {me:Nat} {own:List Nat} {w:Value} (hv:as1 0 W w own):bip W (ownRow me 4 0 90 2 w (.slice none 0 0)) me 4 0 90 own 2 [] :=
 ⟨⟨w,.slice none 0 0,rfl,hv,fun _=>undef,⟨none,0,rfl,fun h=>absurd rfl h⟩,fun i hi=>absurd hi (Nat.not_lt_zero i)⟩,⟨fun i hi=>absurd hi (Nat.not_lt_zero i),fun i hi=>absurd hi (Nat.not_lt_zero i)⟩,by decide⟩
theorem bmz (own:List Nat):Go.Rv.Good (bb7 4 0 90 own) ⟨2,[]⟩:=by
 refine ⟨fun x hx=>absurd hx List.not_mem_nil,fun _ x hx=>absurd hx List.not_mem_nil,fun h=>absurd h (by decide),fun _=>?_⟩
 unfold b9c.azj
 split<;>rfl
end Go.Proofs.YtlnlbdfokmhelaaGreatDoor
namespace Go.Proofs.YtlnlbdfokmhelaaGreatDoor
open Go.Deep Go.ChangeShapes Go.WideShapes Go.ChangeAt Go.RowKit Go.CE.V
set_option maxRecDepth 100000
section
variable {H:Type} {enc:TypeId×Value→H} {W:World} {base:Nat} {spare:Nat→Bool} {held:Bool}
theorem bdi {n:Int} (h:(Lit.int .u8 n).wf=true) : ∃ u:Nat,n=(u:Int)∧u < 256:=by
 simp only [Lit.wf,Bool.and_eq_true,decide_eq_true_eq] at h
 have hn:0≤n∧n≤255:=h
 exact ⟨n.toNat,by omega,by omega⟩
end
end Go.Proofs.YtlnlbdfokmhelaaGreatDoor
namespace Go.Rv
variable {p:b9c}
theorem nodup_len {α:Type} [DecidableEq α]:∀ {L M:List α},L.Nodup→(∀ x,x∈L→x∈M)→L.length≤M.length:=by
 intro L
 induction L with
 | nil=>intro M _ _;exact Nat.zero_le _
 | cons a L ih =>
  intro M hn hs
  obtain ⟨h1,h2⟩:=List.nodup_cons.1 hn
  have ha:=hs a (List.mem_cons_self ..)
  have:=ih (M:=M.erase a) h2 fun x hx=>(List.mem_erase_of_ne (fun (e:x=a)=>h1 (by rw [← e];exact hx))).2 (hs x (List.mem_cons_of_mem _ hx))
  have hl:=List.length_erase_of_mem ha
  have hp:0 < M.length:=List.length_pos_of_mem ha
  rw [List.length_cons]
  omega
theorem step_mem {s:St} {l x:Lt} (h:x∈s.K):x∈(p.step s l).K:=by
 refine bcw p s l (fun t=>x∈t.K) (fun _=>?_) h
 exact bLq h
theorem step_has {L:List Lt} (hL:Full p L) {s:St} (h:bA5 p L s) {l:Lt} (hl:l∈L) (h2:s.ph=2):l∈(p.step s l).K:=by
 have ha:p.admit s l=0:=by
  unfold b9c.admit
  rcases hL.gr l hl with e | e
  ·rw [if_neg (by omega),if_neg (by omega),if_neg (by rw [hL.ans l hl e];decide),if_neg (by omega)]
  ·obtain ⟨c1,c2⟩:=hL.com l hl e
   rw [if_neg (by omega),if_pos e,if_neg (by rw [c2];simp [c1]),if_neg (by omega)]
 rw [show p.step s l=p.next s l from if_pos ha]
 show l∈s.more l
 unfold St.more
 split
 ·rename_i ht
  obtain ⟨k,hk,hq⟩:=List.any_eq_true.1 ht
  rw [(bAr hL (h.sub k hk) hl).1 hq] at hk
  exact hk
 ·exact List.mem_append_right _ (List.mem_singleton.2 rfl)
theorem fed_mem {x:Lt}:∀ (ls:List Lt) {s:St},x∈s.K→x∈(p.fed s ls).K:=by
 intro ls
 induction ls with
 | nil=>intro s h;exact h
 | cons l ls ih=>intro s h;exact ih (step_mem h)
theorem fed_has {L:List Lt} (hL:Full p L):∀ (ls:List Lt) {s:St},bA5 p L s→(∀ l,l∈ls→l∈L)→(p.fed s ls).ph=2→∀ l,l∈ls→l∈(p.fed s ls).K:=by
 intro ls
 induction ls with
 | nil=>intro s _ _ _ l hl;cases hl
 | cons x ls ih =>
  intro s h hx h2 l hl
  have h2s:s.ph=2:=by
   rcases h.ph with q | q
   ·exact q
   ·rw [c9u q] at h2;cases h2
  rcases List.mem_cons.1 hl with rfl | hl
  ·exact fed_mem ls (step_has hL h (hx l (List.mem_cons_self ..)) h2s)
  ·exact ih (h.step hL (.inl (hx x (List.mem_cons_self ..)))) (fun y hy=>hx y (List.mem_cons_of_mem _ hy)) h2 l hl
theorem fed_full {L:List Lt} (hL:Full p L) {s:St} (h:bA5 p L s):(p.fed s L).ph=3∧(p.fed s L).K.length=L.length:=by
 have hF:=bA5.fed hL L h (fun l hl=>.inl hl)
 have h3:(p.fed s L).ph=3:=by
  rcases hF.ph with q | q
  ·exfalso
   have hall:=fed_has hL L h (fun l hl=>hl) q
   obtain ⟨c,hc,hk⟩:=hL.has
   obtain ⟨c1,c2⟩:=hL.fits c hc hk
   have hb:=c2 (p.fed s L).K hF.sub fun l hl _=>hall l hl
   have hn:=hF.good.not q
   unfold b9c.azj at hn
   rw [hb] at hn
   dsimp only at hn
   have:((p.fed s L).K.any fun x=>decide (x.kind=11)&&decide (x.frm=p.org)&&decide (x.st=1)&&decide (x.ref=c.ref))=true:=List.any_eq_true.2 ⟨c,hall c hc,by simp [hk,(hL.com c hc hk).1,c1]⟩
   rw [this] at hn
   cases hn
  ·exact q
 refine ⟨h3,?_⟩
 obtain ⟨hg,c,hc,hk,_⟩:=bp1 (hF.good.com h3)
 have hsub:∀ x,x∈L→x∈(p.fed s L).K:=fun x hx=>by
  rcases hL.gr x hx with e | e
  ·have ha:=hL.ans x hx e
   unfold b9c.answer at ha
   simp only [Bool.and_eq_true,decide_eq_true_eq] at ha
   obtain ⟨y,hy,hy1,hy2⟩:=hg x.frm ha.2
   rw [hL.one x y hx (hF.sub y hy) e hy1 hy2.symm]
   exact hy
  ·rw [hL.onec x c hx (hF.sub c hc) e hk]
   exact hc
 have l1:L.length≤(p.fed s L).K.length:=nodup_len hL.nd hsub
 have l2:(p.fed s L).K.length≤L.length:=nodup_len hF.nd hF.sub
 omega

end Go.Rv
namespace Go.Proofs.YtlnlbdfokmhelaaGreatDoor
open Go.RowKit Go.CE.V Go.Rv
theorem c3e {own:List Nat} {gs:List LN} {c:LN} (hg:GrL own own gs) (hc:CmP own c):∀ i,i < (gs ++ [c]).length→bg7 ((gs ++ [c]).getD i aum):=fun i hi=>by
 have hm:(gs ++ [c]).getD i aum∈gs ++ [c]:=by rw [bdl _ hi];exact List.getElem_mem hi
 generalize (gs ++ [c]).getD i aum=y at *
 rcases List.mem_append.1 hm with h | h
 ·obtain ⟨o,_,hp⟩:=hg.mem y h
  exact hp.any
 ·rw [List.mem_singleton.1 h];exact hc.any
theorem fed_all {own:List Nat} {L:List LN} (hL:Full (bb7 4 0 90 own) L) {ph:Nat} {K:List LN} (hF:(bb7 4 0 90 own).fed ⟨2,[]⟩ L=⟨ph,K⟩):ph=3∧K.length=L.length∧bA5 (bb7 4 0 90 own) L ⟨ph,K⟩:=by
 have h0:bA5 (bb7 4 0 90 own) L ⟨2,[]⟩:=⟨bmz own,.inl rfl,fun x hx=>absurd hx List.not_mem_nil,List.nodup_nil⟩
 have h1:=fed_full hL h0
 have h2:=bA5.fed hL L h0 fun l hl=>.inl hl
 rw [hF] at h1 h2
 exact ⟨h1.1,h1.2,h2⟩
end Go.Proofs.YtlnlbdfokmhelaaGreatDoor
namespace Go.Proofs.YtlnlbdfokmhelaaGreatDoor
open Go.RowKit Go.CE.V Go.Rv
set_option maxRecDepth 20000
set_option maxHeartbeats 4000000
attribute [local irreducible] wpQuiet
def BytV (W:World) (v:Value) (m:Nat):Prop := ∃ (g:Nat→Nat) (ao:Option Addr) (c:Nat),v=.slice ao m c∧(m≠0→∃ b o row T fr,ao=some ⟨b,o,none⟩∧obj W b=some (.cells row T fr)∧∀ i,i < m→row[o+i]? = some (.int .u8 (g i)))∧∀ i,i < m→g i < 256
theorem pct_set5 (mtg org dl:Nat) (v:Value):(ah6 mtg org dl v).setIfInBounds 0 (.int .i64 5)=ah6 5 org dl v:=by
 unfold ah6
 simp
def OrdOk (own:List Nat) (L:List LN) (y:LN):Prop:=bg7 y∧(y∈L∨∀ t,(bb7 4 0 90 own).admit t y≠0)
theorem admit_other {own:List Nat} {y:LN} (h:y.mtg=5) (t:St):(bb7 4 0 90 own).admit t y≠0:=by
 have hc:(bb7 4 0 90 own).bh2 y=false:=by
  unfold b9c.bh2 bb7
  simp [h]
 have ha:(bb7 4 0 90 own).answer y=false:=by
  unfold b9c.answer
  rw [hc]
  simp
 unfold b9c.admit
 rw [hc,ha]
 split
 ·simp
 ·split<;>simp
theorem order_calls {n who:Nat} (hn:n < 256) (hw:who < 256) {W:World} {bv:Value} {m:Nat} (hB:BytV W bv m) (hT:bph W) :
  Calls Tryz.prog 7 #[.int .u8 n,.int .u8 who,bv] W fun e W'=>e=.returned (.bool true)∧Below W.heap.size W W':=by
 have h0w:=hT.pos
 have bS6:=Lib.hid (be9 W hT)
 have HTW:=Lib.hid (fun W' (hb:Below W.heap.size W W')=>And.intro (hT.below hb) (And.intro (hT.below hb).tab (hT.below hb).pos))
 obtain ⟨bg,ba,bc,rfl,hbr,hbg⟩:=hB
 have HBR:=Lib.hid hbr
 have HBG:=Lib.hid hbg
 clear hT hbr hbg
 have ww:IntKind.wrap .i64 (who:Int)=(who:Int):=by rw [IntKind.wrap_i64];omega
 go_enter Tryz.func7,Tryz.ntmps7
 repeat' (first | (go_at_call 27;((with_reducible refine (bS6.out).mono ?_));rintro e w1 ⟨rfl,hb1⟩;dsimp only) | (go_at_call 28;((with_reducible refine (bhk hn _).mono ?_));rintro e w2 ⟨own,v,hl,rfl,hv,hb2⟩;obtain ⟨ob,oo,oc,c5d,rfl,ho1,hoc,ho2⟩:=bj7 hv (aZ2 hl);have po:=b8r 4 0 90 (show (Value.slice (some ⟨ob,oo,none⟩) own.length oc).oneCell' = true from rfl);have h0:=aZ2 hl;have hlen:0 < own.length:=List.length_pos_iff.2 h0;have hl0:(own.length:Int)≠0:=(by omega);have c30:Int.tmod (who:Int) (own.length:Int)=((who % own.length:Nat):Int):=(by rw [Int.tmod_eq_emod_of_nonneg (by omega)];rfl);have hi0:who % own.length < own.length:=Nat.mod_lt _ hlen;generalize who % own.length=fi at *;have jB:Below W.heap.size W (w2.alloc (.cells (ah6 4 0 90 (.slice (some ⟨ob,oo,none⟩) own.length oc)) 61 (0,0))):=(hb1.trans (hb2.mono hb1.size)).alloc (hb1.trans (hb2.mono hb1.size)).size _;have p0:obj (w2.alloc (.cells (ah6 4 0 90 (.slice (some ⟨ob,oo,none⟩) own.length oc)) 61 (0,0))) w2.heap.size=some (.cells (ah6 4 0 90 (.slice (some ⟨ob,oo,none⟩) own.length oc)) 61 (0,0)):=aff _ _ _ rfl;have p3:=(abm p0 3).trans (bcz _ _ _ _);have hvw:as1 0 (w2.alloc (.cells (ah6 4 0 90 (.slice (some ⟨ob,oo,none⟩) own.length oc)) 61 (0,0))) (.slice (some ⟨ob,oo,none⟩) own.length oc) own:=hv.below ((Below.refl _ _).alloc (Nat.le_refl _) _);have HGR:=Lib.hid (bdk hl hi0 (HTW.out _ jB).1 hvw);have HVW:=Lib.hid hvw;clear hv ho1 ho2 hb1 hb2 hvw;dsimp only) | (go_at_call 29;((with_reducible refine (HGR.out).mono ?_));rintro e w4 ⟨w,s,rfl,hcw,hb4⟩;have hme:own.getD fi 0∈own:=(by rw [List.getD_eq_getElem?_getD,List.getElem?_eq_getElem hi0];exact List.getElem_mem hi0);generalize own.getD fi 0=me at *;have po4:=aRj me 4 0 90 2 (azh hcw) (show (Value.slice none 0 0).oneCell' = true from rfl);have jA:=(Below.refl w4.heap.size w4).alloc (Nat.le_refl _) (.cells (ownRow me 4 0 90 2 w (.slice none 0 0)) 28 (0,0));have t0:=ab6 (aq7 p0 hb4) (.cells (ownRow me 4 0 90 2 w (.slice none 0 0)) 28 (0,0));have o0:obj (w4.alloc (.cells (ownRow me 4 0 90 2 w (.slice none 0 0)) 28 (0,0))) w4.heap.size=some (.cells (ownRow me 4 0 90 2 w (.slice none 0 0)) 28 (0,0)):=aff _ _ _ rfl;have jB4:=(b8o jB hb4).alloc (b8o jB hb4).size (.cells (ownRow me 4 0 90 2 w (.slice none 0 0)) 28 (0,0));have HV4:=Lib.hid ((HVW.out.below hb4).below jA);have HCW:=Lib.hid (hcw.below jA);have HCP:=Lib.hid (blw hl hi0 (HTW.out _ jB4).1 HV4.out);clear hcw hb4 HVW HGR;dsimp only) | (go_at_call 37;((with_reducible refine (HCP.out).mono ?_));rintro e w7 ⟨lv,gs,c,rfl,hlv,hgl,hcm,hcr,hb7⟩;have t7:=aq7 t0 hb7;have o7:=aq7 o0 hb7;have jB7:=b8o jB4 hb7;have HV7:=Lib.hid (HV4.out.below hb7);have HCW7:=Lib.hid (HCW.out.below hb7);have HLV:=Lib.hid hlv;have HGL:=Lib.hid hgl;have HCM:=Lib.hid hcm;have HCR:=Lib.hid hcr;obtain ⟨cv,⟨la,lc,rfl,hlr⟩,hlc⟩:=hlv;have f7:=azi t7 0;clear hgl hcm hcr hlr hlc HV4 HCW HCP;dsimp only) | go_skip | go_guarded | go_step | go_upon)
 have HFULL:=Lib.hid (comp_full hl HGL.out HCM.out HCR.out)
 have HANY:∀ i,i < (gs ++ [c]).length→bg7 ((gs ++ [c]).getD i aum):=c3e HGL.out HCM.out
 have hLl:(gs ++ [c]).length=own.length+1:=by rw [List.length_append,HGL.out.len];rfl
 have hown4:=(by decide:∀ l∈b95,l.length≤4) own hl
 have hw8:(w7.alloc (.cells ((ah6 4 0 90 (.slice (some ⟨ob,oo,none⟩) own.length oc)).setIfInBounds 0 (.int .i64 5)) 61 (0,0))).heap.size=w7.heap.size+1:=by simp
 have p5:obj (w7.alloc (.cells ((ah6 4 0 90 (.slice (some ⟨ob,oo,none⟩) own.length oc)).setIfInBounds 0 (.int .i64 5)) 61 (0,0))) w7.heap.size=some (.cells ((ah6 4 0 90 (.slice (some ⟨ob,oo,none⟩) own.length oc)).setIfInBounds 0 (.int .i64 5)) 61 (0,0)):=aff _ _ _ rfl
 have jA8:=(Below.refl w7.heap.size w7).alloc (Nat.le_refl _) (.cells ((ah6 4 0 90 (.slice (some ⟨ob,oo,none⟩) own.length oc)).setIfInBounds 0 (.int .i64 5)) 61 (0,0))
 have jB8:=jB7.alloc jB7.size (.cells ((ah6 4 0 90 (.slice (some ⟨ob,oo,none⟩) own.length oc)).setIfInBounds 0 (.int .i64 5)) 61 (0,0))
 have t8:=ab6 t7 (.cells ((ah6 4 0 90 (.slice (some ⟨ob,oo,none⟩) own.length oc)).setIfInBounds 0 (.int .i64 5)) 61 (0,0))
 have o8:=ab6 o7 (.cells ((ah6 4 0 90 (.slice (some ⟨ob,oo,none⟩) own.length oc)).setIfInBounds 0 (.int .i64 5)) 61 (0,0))
 have HV8:=Lib.hid (HV7.out.below jA8)
 have HCW8:=Lib.hid (HCW7.out.below jA8)
 have HLV8:=Lib.hid (HLV.out.below jA8)
 have hgl1:gs.length+1=(gs ++ [c]).length:=by simp
 rw [hgl1]
 rw [← hw8]
 generalize w7.alloc (.cells ((ah6 4 0 90 (.slice (some ⟨ob,oo,none⟩) own.length oc)).setIfInBounds 0 (.int .i64 5)) 61 (0,0))=w8 at *
 generalize w7.heap.size=qb at *
 generalize w4.heap.size=ab at *
 generalize w2.heap.size=pb at *
 rw [pct_set5] at p5
 clear hw8 jA8 jB7 t7 o7 HV7 HCW7 HLV f7 hb7 hgl1 HGL HCM HCR p0 p3 t0 o0 jA jB jB4 c30
 generalize gs ++ [c]=L at *
 have hL0:(L.length:Int)≠0:=by omega
 have hL5:L.length≤5:=by omega
 have hL1:0 < L.length:=by omega
 clear hLl
 go_loopw [16,17] (fun v i wr => ∃ (k:Nat) (ys:List LN),ys.length=2 * k∧k≤m∧k≤12∧i=.int .i64 k∧(∃ cv:Nat→Value,wr.ownsRow w8.heap.size 48 62 v (2 * k) (ba4 (fun i=>(LN.let (ys.getD i aum) (cv i)).row) (2 * k))∧∀ i,i < 2 * k→as1 0 wr (cv i) (ys.getD i aum).cs)∧(∀ i,i < 2 * k→OrdOk own L (ys.getD i aum))∧Below w8.heap.size w8 wr) (fun _ i _=>(m - intOf i).toNat)
 case atStart =>
  refine ⟨0,[],rfl,by omega,by omega,rfl,⟨fun _=>undef,?_,fun i hi=>by omega⟩,fun i hi=>by omega,(Below.refl _ _).alloc (Nat.le_refl _) _⟩
  have:=bf0 w8 48 62
  simpa [ba4] using this
 case round =>
  obtain ⟨k,ys,hyl,hk,hk12,rfl,⟨cv2,hown,hcv⟩,hok,hB⟩:=hrel
  have HCV:=Lib.hid hcv
  have HOWN:=Lib.hid hown
  have HOK:=Lib.hid hok
  clear hcv hown hok
  have jW:=jB8.trans (hB.mono jB8.size)
  by_cases hlt:k < m
  ·have i1:(
         k:Int) < (m:Int):=by omega
   by_cases hlt12:k < 12
   ·have i2:(k:Int) < 12:=by omega
    obtain ⟨bb,bo,c63,bT,bfr,rfl,hb1,hb2⟩:=HBR.out (by omega)
    have hbx:=hb2 k hlt
    have hgk:=HBG.out k hlt
    generalize bg k=gk at *
    have hbw:=aa1 hb1 jW (ah1 hb1)
    have hbk:=hb1
    have fb:=(abm hbw (bo+k)).trans hbx
    have wg:IntKind.wrap .i64 (gk:Int)=(gk:Int):=by rw [IntKind.wrap_i64];omega
    have hjm:Int.tmod (gk:Int) (L.length:Int)=((gk % L.length:Nat):Int):=by
     rw [Int.tmod_eq_emod_of_nonneg (by omega)];rfl
    have hj0:gk % L.length < L.length:=Nat.mod_lt _ (by omega)
    generalize hjj:gk % L.length=j at *
    have hj1:(j:Int) < (L.length:Int):=by omega
    have hlv:=HLV8.out.below hB
    obtain ⟨cv1,⟨la',lc',e1,hlr⟩,hlc⟩:=hlv
    injection e1 with e1a e1b e1c
    subst e1a e1c
    obtain ⟨lb,lo,c5n,rfl,hl1,hl2⟩:=hlr (by omega)
    obtain ⟨z0,k2⟩:=hl2 j hj0
    dsimp only at k2
    have z1:(lo+j * 62+62≤c5n.size)=True:=eq_true z0
    have hcj:=hlc j hj0
    have hXa:=HANY j hj0
    have hxL:L.getD j aum∈L:=by rw [bdl _ hj0];exact List.getElem_mem hj0
    generalize L.getD j aum=x at *
    generalize cv1 j=cj at *
    clear hl2 hlr hlc z0 hb2 hb1 hjj
    have hxr:=(hXa 1 (by omega) (by omega)).ok.ref
    have lz:=as4 (LN.let x cj) hxr
    have la2:=aI7 (LN.let x cj) hxr
    have lO:=aBk (LN.let x cj) (azh hcj)
    have m3:Below wr.heap.size wr (wr.alloc (.cells (LN.let x cj).row 48 (0,0))):=(Below.refl _ _).alloc (Nat.le_refl _) _
    have hcg:Hid (∀ (y:LN) (cw:Nat→Value),(∀ j,j < 2 * k→cw j=cv2 j)→wr.ownsRow w8.heap.size 48 62 _ (2 * k) (ba4 (fun i=>(LN.let ((ys ++ [y]).getD i aum) (cw i)).row) (2 * k))):=Lib.hid fun y cw hcw=>by
     rw [bb9 fun i hi=>by rw [hcw i hi,ber ys y aum (by omega)]]
     exact HOWN.out
    have hl2:=ba3 (hcg.out x (fun j=>if j=2 * k then cj else cv2 j) (fun j hj=>if_neg (by omega))) m3
    have hsz:=hB.size
    repeat' ((fail_if_success (with_reducible refine Go.wp_block ?_));(first | go_skip | go_guarded | go_step | go_upon))
    go_cut [16] from 62 to 95 (fun v16 wx => ∃ (ys2:List LN) (cw:Nat→Value),ys2.length=2 * k+1+1∧wx.ownsRow w8.heap.size 48 62 v16 (2 * k+1+1) (ba4 (fun i=>(LN.let (ys2.getD i aum) (cw i)).row) (2 * k+1+1))∧(∀ i,i < 2 * k+1+1→as1 0 wx (cw i) (ys2.getD i aum).cs)∧(∀ i,i < 2 * k+1+1→OrdOk own L (ys2.getD i aum))∧Below w8.heap.size w8 wx)
    case first =>
     go_step
     repeat' (first | (at_builtin;(refine b93 rfl _ _ rfl Tryz.underlying30 (b:=328) (z:=62) (by kernel_rfl) (by decide) (by decide) w8.heap.size (2 * k) _ _ rfl hl2 wr.heap.size 1 (LN.let x cj).row ?_ ?_ lz lO (by omega) ?_ ?_);(first | rfl | skip);(exact aff _ _ _ rfl);(have:=m3.size;omega);intro v' w' hown' hgrow') | go_skip | go_guarded | go_step | go_upon)
     have hB':Below w8.heap.size w8 w':=(hB.trans (m3.mono hB.size)).grown hgrow' (hB.trans (m3.mono hB.size)).size (fun g hg=>b7j hl2 hg)
     have hgx:(ys ++ [x]).getD (2 * k) aum=x:=by rw [← hyl];exact bes ys x aum
     have hown1:w'.ownsRow w8.heap.size 48 62 v' (2 * k+1) (ba4 (fun i=>(LN.let ((ys ++ [x]).getD i aum) ((fun j=>if j=2 * k then cj else cv2 j) i)).row) (2 * k+1)):=by
      rw [b9u]
      have e:(LN.let ((ys ++ [x]).getD (2 * k) aum) ((fun j=>if j=2 * k then cj else cv2 j) (2 * k))).row=(LN.let x cj).row:=by
       rw [hgx]
       simp only [if_pos]
      rw [e]
      exact hown'
     have hcv1:∀ i,i < 2 * k+1→as1 0 w' ((fun j=>if j=2 * k then cj else cv2 j) i) ((ys ++ [x]).getD i aum).cs:=fun i hi=>by
      by_cases hik:i=2 * k
      ·subst hik
       dsimp only
       rw [if_pos rfl,hgx]
       exact b9a hl2 (hcj.below m3) (by decide) hgrow'
      ·dsimp only
       rw [if_neg hik,ber ys x aum (by omega)]
       exact b9a hl2 ((HCV.out i (by omega)).below m3) (by decide) hgrow'
     have hok1:∀ i,i < 2 * k+1→OrdOk own L ((ys ++ [x]).getD i aum):=fun i hi=>by
      by_cases hik:i=2 * k
      ·rw [hik,hgx]
       exact ⟨hXa,.inl hxL⟩
      ·rw [ber ys x aum (by omega)]
       exact HOK.out i (by omega)
     have hyl1:(ys ++ [x]).length=2 * k+1:=by rw [List.length_append,hyl];rfl
     have q5:=aa1 p5 hB' (ah1 p5)
     have jW':=jB8.trans (hB'.mono jB8.size)
     have q1:=aa1 hbk jW' (ah1 hbk)
     generalize (fun j=>if j=2 * k then cj else cv2 j)=cv3 at *
     generalize ys ++ [x]=ys1 at *
     have HOWN1:=Lib.hid hown1
     have HCV1:=Lib.hid hcv1
     have HOK1:=Lib.hid hok1
     have f8:gk / 8 < 256:=by omega
     have f32:gk / 32 < 256:=by omega
     have hq8:Int.tdiv (gk:Int) 8=((gk / 8:Nat):Int):=by rw [Int.tdiv_eq_ediv_of_nonneg (by omega)];rfl
     have hq32:Int.tdiv (gk:Int) 32=((gk / 32:Nat):Int):=by rw [Int.tdiv_eq_ediv_of_nonneg (by omega)];rfl
     generalize gk / 8=g8 at *
     generalize gk / 32=g32 at *
     have w8':IntKind.wrap .u8 (g8:Int)=(g8:Int):=by rw [IntKind.wrap_u8];omega
     have w32':IntKind.wrap .u8 (g32:Int)=(g32:Int):=by rw [IntKind.wrap_u8];omega
     clear hown1 hcv1 hok1 hown' hgrow' hl2 m3 hcg fb hbw hcj z1 k2 hl1 lz la2 lO hB hgx
     have po5:=b8r 5 0 90 (show (Value.slice (some ⟨ob,oo,none⟩) own.length oc).oneCell' = true from rfl)
     have q5d:obj w'.drew qb=_:=q5
     have q1d:obj w'.drew bb=_:=q1
     have fbd:=(abm q1d (bo+k)).trans hbx
     have jD:Below w'.heap.size w' w'.drew:=(Below.refl _ _).drew
     have HL:=Lib.hid (fun (W':World) (hb:Below w'.heap.size w' W')=>show Calls Tryz.prog 36 #[.agg (ah6 5 0 90 (.slice (some ⟨ob,oo,none⟩) own.length oc)),.agg #[.int .u8 gk,.int .u8 g8,.int .u8 g32,.int .u8 0]] W' (fun e W'' => ∃ y c,e=.returned (.agg (LN.let y c).row)∧bg7 y∧y.mtg=5∧as1 0 W'' c y.cs∧Below W'.heap.size W' W'') from M5.letter_any5 hl hgk f8 f32 (HV8.out.below (hB'.trans (hb.mono hB'.size))))
     have hcg:Hid (∀ (y:LN) (cw:Nat→Value),(∀ j,j < 2 * k+1→cw j=cv3 j)→w'.ownsRow w8.heap.size 48 62 v' (2 * k+1) (ba4 (fun i=>(LN.let ((ys1 ++ [y]).getD i aum) (cw i)).row) (2 * k+1))):=Lib.hid fun y cw hcw=>by
      rw [bb9 fun i hi=>by rw [hcw i hi,ber ys1 y aum (by omega)]]
      exact HOWN1.out
     have hsz:=hB'.size
     clear hbx
     go_region_law (first | ((go_simp;go_at_call 36;((with_reducible refine (HL.out _ jD).mono ?_));rintro e w2 ⟨y,c,rfl,hY,hym,hc,hb2⟩;have lz:=as4 (LN.let y c) (hY 1 (by omega) (by omega)).ok.ref;have la:=aI7 (LN.let y c) (hY 1 (by omega) (by omega)).ok.ref;have lo:=aBk (LN.let y c) (azh hc);have m2:=b8o jD hb2;have m3:=m2.alloc m2.size (.cells (LN.let y c).row 48 (0,0));have hl:=hcg.out y (fun j=>if j=2 * k+1 then c else cv3 j) (fun j hj=>if_neg (by omega));have hl2:=ba3 hl m3;have HY:=Lib.hid hY;have HC:=Lib.hid (hc.below ((Below.refl _ _).alloc (Nat.le_refl _) (.cells (LN.let y c).row 48 (0,0))));have HHL:=Lib.hid hl2;clear hY hc hl;dsimp only)) | (refine bjo (by rfl) _ _ (by rfl) Tryz.underlying30 (b:=328) (z:=62) (by kernel_rfl) (by decide) (by decide) w8.heap.size (2 * k+1) _ _ (by rfl) hl2 w2.heap.size 1 (LN.let y c).row (by rfl) (by exact aff _ _ _ rfl) lz lo (by omega) (by have:=m3.size;omega) ?_;intro ng ncap w'' hown' hgrow'))
     all_goals (repeat' go_step)
     all_goals go_meet
     all_goals refine ⟨ys1 ++ [y],fun j=>if j=2 * k+1 then c else cv3 j,by rw [List.length_append,hyl1];rfl,?_,fun i hi=>?_,fun i hi=>?_,(hB'.trans (m3.mono hB'.size)).grown hgrow' (hB'.trans (m3.mono hB'.size)).size (fun g hg=>b7j HHL.out hg)⟩
     all_goals first
      | (
        by_cases hik:i=2 * k+1
        ·rw [hik,show (ys1 ++ [y]).getD (2 * k+1) aum=y by rw [← hyl1];exact bes ys1 y aum]
         exact ⟨HY.out,.inr fun t=>admit_other hym t⟩
        ·rw [ber ys1 y aum (by omega)]
         exact HOK1.out i (by omega))
      | (
        by_cases hik:i=2 * k+1
        ·subst hik
         dsimp only
         rw [if_pos rfl,show (ys1 ++ [y]).getD (2 * k+1) aum=y by rw [← hyl1];exact bes ys1 y aum]
         exact b9a HHL.out HC.out (by decide) hgrow'
        ·dsimp only
         rw [if_neg hik,ber ys1 y aum (by omega)]
         exact b9a HHL.out ((HCV1.out i (by omega)).below m3) (by decide) hgrow')
      | (
        rw [b9u]
        have e:(LN.let ((ys1 ++ [y]).getD (2 * k+1) aum) ((fun j=>if j=2 * k+1 then c else cv3 j) (2 * k+1))).row=(LN.let y c).row:=by
         rw [show (ys1 ++ [y]).getD (2 * k+1) aum=y by rw [← hyl1];exact bes ys1 y aum]
         simp only [if_pos]
        rw [e]
        exact hown')
    case rest =>
     obtain ⟨ys2,cw,e0,e1,e2,e3,e5⟩:=hcut
     repeat' (first | go_skip | go_guarded | go_step | go_upon)
     go_roundw
     case rel=>exact ⟨k+1,ys2,by omega,by omega,by omega,by go_num,⟨cw,e1,e2⟩,e3,e5⟩
     case measure=>simp [intOf];omega
   ·have i2 : ¬ (k:Int) < 12:=by omega
    have hyz:ys.length≤24:=by omega
    have hokY:∀ i,i < ys.length→bg7 (ys.getD i aum):=fun i hi=>(HOK.out i (by omega)).1
    have hLY:b9w 0 wr _ ys:=⟨cv2,by rw [hyl];exact bgj (fun i hi=>as4 _ ((HOK.out i hi).1 1 (by omega) (by omega)).ok.ref) HOWN.out,fun i hi=>HCV.out i (by omega)⟩
    have hSE:=bA5.fed HFULL.out ys (s:=⟨2,[]⟩) ⟨bmz own,.inl rfl,fun x hx=>absurd hx List.not_mem_nil,List.nodup_nil⟩ (fun l hl'=>by
     obtain ⟨i,hi,e⟩:=bof aum hl'
     rw [← e]
     exact (HOK.out i (by omega)).2)
    have HSE:=Lib.hid hSE
    have o9:=aa1 o8 hB (ah1 o8)
    have po9:=aRj me 4 0 90 2 (azh (HCW8.out.below hB)) (show (Value.slice none 0 0).oneCell' = true from rfl)
    have HF1:=Lib.hid (bca hl hme (bk5 (me:=me) (HCW8.out.below hB)) (by simp) hLY (by omega) hokY (HTW.out _ jW).2.1 (HTW.out _ jW).2.2)
    have HLV9:=Lib.hid (HLV8.out.below hB)
    have HCW9:=Lib.hid (HCW8.out.below hB)
    clear hSE hLY hokY HOWN HCV HBR HBG
    repeat' (first | (go_at_call 30;((with_reducible refine (HF1.out).mono ?_));rintro e x1 ⟨row1,ph1,ps1,rfl,P1,y1,F1,hb1⟩;obtain ⟨a7,aa,ao,a4⟩:=b8z P1;have jx1:=(Below.refl x1.heap.size x1).alloc (Nat.le_refl _) (.cells row1 28 (0,0));have jw1:=hb1.alloc hb1.size (.cells row1 28 (0,0));have e18:obj (x1.alloc (.cells row1 28 (0,0))) x1.heap.size=some (.cells row1 28 (0,0)):=aff _ _ _ rfl;have o91:=aq7 o9 jw1;have jW1:=b8o jW jw1;have HP1:=Lib.hid P1;have HF:=Lib.hid F1;have HF2:=Lib.hid (bca hl hme (P1.below jx1) (by simp at y1;omega) (HLV9.out.below jw1) (by omega) HANY (HTW.out _ jW1).2.1 (HTW.out _ jW1).2.2);have HLV1:=Lib.hid (HLV9.out.below jw1);have HCW1:=Lib.hid (HCW9.out.below jw1);have hy1:ps1.length≤24:=(by simp at y1;omega);clear P1 F1 y1;dsimp only) | (go_at_call 30;((with_reducible refine (HF2.out).mono ?_));rintro e x2 ⟨b94,ph2,ps2,rfl,P2,y2,F2,hb2⟩;obtain ⟨c7,ca,co,c4⟩:=b8z P2;have jw2:=hb2.alloc hb2.size (.cells b94 28 (0,0));have e19:obj (x2.alloc (.cells b94 28 (0,0))) x2.heap.size=some (.cells b94 28 (0,0)):=aff _ _ _ rfl;have o92:=aq7 o91 jw2;have e182:=aq7 e18 jw2;have jW2:=b8o jW1 jw2;have HP2:=Lib.hid P2;have HFF:=Lib.hid F2;have HCW2:=Lib.hid (HCW1.out.below jw2);have HF3:=Lib.hid (bca hl hme (bk5 (me:=me) HCW2.out) (by simp) (HLV1.out.below jw2) (by omega) HANY (HTW.out _ jW2).2.1 (HTW.out _ jW2).2.2);clear P2 F2 y2;dsimp only) | (go_at_call 30;((with_reducible refine (HF3.out).mono ?_));rintro e x3 ⟨row3,ph3,ps3,rfl,P3,y3,F3,hb3⟩;obtain ⟨d7,da,do3,d4⟩:=b8z P3;have jw3:=hb3.alloc hb3.size (.cells row3 28 (0,0));have e20:obj (x3.alloc (.cells row3 28 (0,0))) x3.heap.size=some (.cells row3 28 (0,0)):=aff _ _ _ rfl;have e193:=aq7 e19 jw3;have e183:=aq7 e182 jw3;have jW3:=b8o jW2 jw3;obtain ⟨r3,r3l,rS⟩:=fed_all HFULL.out F3;have hS1:=HSE.out;have hF1:(bb7 4 0 90 own).fed ⟨2,[]⟩ ys=⟨ph1,ps1.map (·.1)⟩:=HF.out;rw [hF1] at hS1;obtain ⟨r2,r2l⟩:=fed_full HFULL.out hS1;have hF2:=HFF.out;(try dsimp only at hF2);rw [hF2] at r2 r2l;(try dsimp only at r2 r2l);have r1:=hS1.ph;(try dsimp only at r1);rw [List.length_map] at r2l r3l;obtain ⟨ov2,pv2,er2,hov2,bv2,⟨pa2,pc2,ep2,_⟩,_⟩:=HP2.out.form;obtain ⟨ov3,pv3,er3,hov3,bv3,⟨pa3,pc3,ep3,_⟩,_⟩:=P3.form;have g18:=(abm e183 4).trans a4;have g19:=(abm e193 4).trans c4;have g20:=(abm e20 4).trans d4;have h19:=(abm e193 6).trans (show b94[6]? = some (.slice pa2 ps2.length pc2) from (by rw [er2,ep2];try exact bij _ _ _ _ _ _ _));have h20:=(abm e20 6).trans (show row3[6]? = some (.slice pa3 ps3.length pc3) from (by rw [er3,ep3];try exact bij _ _ _ _ _ _ _));rw [r2l] at h19;rw [r3l] at h20;subst r3;subst r2;clear hS1 hF1 hF2 F3 P3 rS er2 ep2 er3 ep3 hov2 hov3 HSE HF HFF r2l r3l;rcases r1 with rfl | rfl<;>dsimp only) | go_skip | go_guarded | go_step | go_upon)
    all_goals go_ret
    all_goals exact ⟨rfl,jW3⟩
  ·have i1 : ¬ (k:Int) < (m:Int):=by omega
   have hyz:ys.length≤24:=by omega
   have hokY:∀ i,i < ys.length→bg7 (ys.getD i aum):=fun i hi=>(HOK.out i (by omega)).1
   have hLY:b9w 0 wr _ ys:=⟨cv2,by rw [hyl];exact bgj (fun i hi=>as4 _ ((HOK.out i hi).1 1 (by omega) (by omega)).ok.ref) HOWN.out,fun i hi=>HCV.out i (by omega)⟩
   have hSE:=bA5.fed HFULL.out ys (s:=⟨2,[]⟩) ⟨bmz own,.inl rfl,fun x hx=>absurd hx List.not_mem_nil,List.nodup_nil⟩ (fun l hl'=>by
    obtain ⟨i,hi,e⟩:=bof aum hl'
    rw [← e]
    exact (HOK.out i (by omega)).2)
   have HSE:=Lib.hid hSE
   have o9:=aa1 o8 hB (ah1 o8)
   have po9:=aRj me 4 0 90 2 (azh (HCW8.out.below hB)) (show (Value.slice none 0 0).oneCell' = true from rfl)
   have HF1:=Lib.hid (bca hl hme (bk5 (me:=me) (HCW8.out.below hB)) (by simp) hLY (by omega) hokY (HTW.out _ jW).2.1 (HTW.out _ jW).2.2)
   have HLV9:=Lib.hid (HLV8.out.below hB)
   have HCW9:=Lib.hid (HCW8.out.below hB)
   clear hSE hLY hokY HOWN HCV HBR HBG
   repeat' (first | (go_at_call 30;((with_reducible refine (HF1.out).mono ?_));rintro e x1 ⟨row1,ph1,ps1,rfl,P1,y1,F1,hb1⟩;obtain ⟨a7,aa,ao,a4⟩:=b8z P1;have jx1:=(Below.refl x1.heap.size x1).alloc (Nat.le_refl _) (.cells row1 28 (0,0));have jw1:=hb1.alloc hb1.size (.cells row1 28 (0,0));have e18:obj (x1.alloc (.cells row1 28 (0,0))) x1.heap.size=some (.cells row1 28 (0,0)):=aff _ _ _ rfl;have o91:=aq7 o9 jw1;have jW1:=b8o jW jw1;have HP1:=Lib.hid P1;have HF:=Lib.hid F1;have HF2:=Lib.hid (bca hl hme (P1.below jx1) (by simp at y1;omega) (HLV9.out.below jw1) (by omega) HANY (HTW.out _ jW1).2.1 (HTW.out _ jW1).2.2);have HLV1:=Lib.hid (HLV9.out.below jw1);have HCW1:=Lib.hid (HCW9.out.below jw1);have hy1:ps1.length≤24:=(by simp at y1;omega);clear P1 F1 y1;dsimp only) | (go_at_call 30;((with_reducible refine (HF2.out).mono ?_));rintro e x2 ⟨b94,ph2,ps2,rfl,P2,y2,F2,hb2⟩;obtain ⟨c7,ca,co,c4⟩:=b8z P2;have jw2:=hb2.alloc hb2.size (.cells b94 28 (0,0));have e19:obj (x2.alloc (.cells b94 28 (0,0))) x2.heap.size=some (.cells b94 28 (0,0)):=aff _ _ _ rfl;have o92:=aq7 o91 jw2;have e182:=aq7 e18 jw2;have jW2:=b8o jW1 jw2;have HP2:=Lib.hid P2;have HFF:=Lib.hid F2;have HCW2:=Lib.hid (HCW1.out.below jw2);have HF3:=Lib.hid (bca hl hme (bk5 (me:=me) HCW2.out) (by simp) (HLV1.out.below jw2) (by omega) HANY (HTW.out _ jW2).2.1 (HTW.out _ jW2).2.2);clear P2 F2 y2;dsimp only) | (go_at_call 30;((with_reducible refine (HF3.out).mono ?_));rintro e x3 ⟨row3,ph3,ps3,rfl,P3,y3,F3,hb3⟩;obtain ⟨d7,da,do3,d4⟩:=b8z P3;have jw3:=hb3.alloc hb3.size (.cells row3 28 (0,0));have e20:obj (x3.alloc (.cells row3 28 (0,0))) x3.heap.size=some (.cells row3 28 (0,0)):=aff _ _ _ rfl;have e193:=aq7 e19 jw3;have e183:=aq7 e182 jw3;have jW3:=b8o jW2 jw3;obtain ⟨r3,r3l,rS⟩:=fed_all HFULL.out F3;have hS1:=HSE.out;have hF1:(bb7 4 0 90 own).fed ⟨2,[]⟩ ys=⟨ph1,ps1.map (·.1)⟩:=HF.out;rw [hF1] at hS1;obtain ⟨r2,r2l⟩:=fed_full HFULL.out hS1;have hF2:=HFF.out;(try dsimp only at hF2);rw [hF2] at r2 r2l;(try dsimp only at r2 r2l);have r1:=hS1.ph;(try dsimp only at r1);rw [List.length_map] at r2l r3l;obtain ⟨ov2,pv2,er2,hov2,bv2,⟨pa2,pc2,ep2,_⟩,_⟩:=HP2.out.form;obtain ⟨ov3,pv3,er3,hov3,bv3,⟨pa3,pc3,ep3,_⟩,_⟩:=P3.form;have g18:=(abm e183 4).trans a4;have g19:=(abm e193 4).trans c4;have g20:=(abm e20 4).trans d4;have h19:=(abm e193 6).trans (show b94[6]? = some (.slice pa2 ps2.length pc2) from (by rw [er2,ep2];try exact bij _ _ _ _ _ _ _));have h20:=(abm e20 6).trans (show row3[6]? = some (.slice pa3 ps3.length pc3) from (by rw [er3,ep3];try exact bij _ _ _ _ _ _ _));rw [r2l] at h19;rw [r3l] at h20;subst r3;subst r2;clear hS1 hF1 hF2 F3 P3 rS er2 ep2 er3 ep3 hov2 hov3 HSE HF HFF r2l r3l;rcases r1 with rfl | rfl<;>dsimp only) | go_skip | go_guarded | go_step | go_upon)
   all_goals go_ret
   all_goals exact ⟨rfl,jW3⟩
end Go.Proofs.YtlnlbdfokmhelaaGreatDoor
namespace Go.Proofs.YtlnlbdfokmhelaaGreatDoor
open Go.Deep Go.ChangeShapes Go.WideShapes Go.ChangeAt Go.RowKit Go.CE.V
set_option maxRecDepth 100000
section
variable {H:Type} {enc:TypeId×Value→H} {W:World} {base:Nat} {spare:Nat→Bool} {held:Bool}
theorem bytes_arg {v:Value} {d:DataW H} {p:List MemPlace} (hv:Value.okWide Tryz.prog W .any base 76 v) (h:DataW.Trod enc Tryz.prog W 0 spare held 76 v d p) : ∃ m,BytV W v m:=by
 obtain ⟨fuel,hf⟩:=h
 obtain ⟨a1,len,cap,rfl⟩:=okWide_slice Tryz.underlying76 hv
 have k8:Tryz.prog.cellsOf 5=1:=by kernel_rfl
 rcases open_slice Tryz.underlying76 hf with ⟨hcs,hx⟩ | ⟨a,len',cap',m,n',D,Pl,hcs,hb,hlc,hm,hmm,hx,hel⟩
 ·simp [Value.cells] at hcs
  obtain ⟨rfl,rfl,rfl⟩:=hcs
  exact ⟨0,fun _=>0,none,0,rfl,fun q=>absurd rfl q,fun i hi=>absurd hi (Nat.not_lt_zero i)⟩
 ·simp [Value.cells] at hcs
  obtain ⟨rfl,rfl,rfl⟩:=hcs
  obtain ⟨ab,ao,spot⟩:=a
  have hlm:len≤m:=by rw [hmm];split<;>omega
  have hd:∀ i,∃ g:Nat,i < len→g < 256∧W.cell? ((⟨ab,ao,spot⟩:Addr).add (i * 1) |>.add 0)=some (.int .u8 (g:Int)):=fun i=>by
   by_cases hi:i < len
   ·obtain ⟨cs',c1,c2⟩:=hel i (by omega)
    rw [k8] at c1
    obtain ⟨_,c3,c4⟩:=World.cells?_some c1
    obtain ⟨n0,e0,_,w0⟩:=DataW.trod_int Tryz.underlying5 c2
    obtain ⟨u,rfl,hu⟩:=bdi w0
    exact ⟨u,fun _=>⟨hu,by rw [c4 0 (by omega),e0];rfl⟩⟩
   ·exact ⟨0,fun q=>absurd q hi⟩
  obtain ⟨g,hg⟩:=Classical.axiomOfChoice hd
  refine ⟨len,g,some ⟨ab,ao,spot⟩,cap,rfl,fun hn0=>?_,fun i hi=>(hg i hi).1⟩
  have hn:0 < len:=Nat.pos_of_ne_zero hn0
  have hspot:spot=none:=by
   have hu:=(hg 0 hn).2
   simpa [Addr.add] using World.cell?_spot hu
  subst hspot
  have hrow : ∃ row T fr,obj W ab=some (.cells row T fr):=by
   have hu:=(hg 0 hn).2
   unfold World.cell? at hu
   show ∃ row T fr,W.heap[ab]? = _
   simp only [Addr.add] at hu
   split at hu
   ·rename_i row T fr hq
    exact ⟨row,T,fr,hq⟩
   ·cases hu
  obtain ⟨row,T,fr,hob⟩:=hrow
  refine ⟨ab,ao,row,T,fr,rfl,hob,fun i hi=>?_⟩
  have:=(hg i hi).2
  rw [Addr.add_lit,Addr.add_lit,abm hob] at this
  rw [← this]
  congr 1
  omega
end
end Go.Proofs.YtlnlbdfokmhelaaGreatDoor
