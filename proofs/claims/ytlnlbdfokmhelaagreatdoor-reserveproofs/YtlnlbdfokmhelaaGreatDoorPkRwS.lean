/-
  The walk of reserve.twin.
-/
import Derived.Test.YtlnlbdfokmhelaaGreatDoorPkRwA
import Derived.Test.YtlnlbdfokmhelaaGreatDoorPkSmP
import Derived.Test.YtlnlbdfokmhelaaGreatDoorPkSm
import Derived.Test.YtlnlbdfokmhelaaGreatDoorPkRwH
import Derived.Test.YtlnlbdfokmhelaaGreatDoorPkRwP
set_option linter.unusedSectionVars false
set_option linter.constructorNameAsVariable false
set_option linter.unusedVariables false
set_option linter.unusedSimpArgs false
namespace Go.Proofs.YtlnlbdfokmhelaaGreatDoor
open Go.RowKit Go.CE.V
set_option maxRecDepth 20000
set_option maxHeartbeats 4000000
def aeo (k l:LN):Bool:=if l.kind=9∨l.kind=10 then decide (k.kind=l.kind)&&decide (k.frm=l.frm) else decide (LN.to k l.dst=l)
theorem asu {W:World} {k l:LN} {c d:Value} (hk:LN.Sz (LN.to k l.dst)) (hl:l.Sz) (hc:a0h 0 W c k.cs) (hd:a0h 0 W d l.cs) (hap:Apart c d) :
    Calls Tryz.prog 94 #[.agg (LN.let k c).row,.agg (LN.let l d).row] W fun e W'=>e=.returned (.bool (aeo k l))∧Below W.heap.size W W':=by
  have lz:=a0e (LN.let k c) hk.ref
  have la:=a15 (LN.let k c) hk.ref
  have lo:=a0y (LN.let k c) (a0v hc)
  have lz1:=a0e (LN.let l d) hl.ref
  have la1:=a15 (LN.let l d) hl.ref
  have lo1:=a0y (LN.let l d) (a0v hd)
  have lz2:=a0e (LN.let (LN.to k l.dst) c) hk.ref
  have la2:=a15 (LN.let (LN.to k l.dst) c) hk.ref
  have hset:=ajg k c l.dst
  have k1:obj ((W.alloc (.cells (LN.let k c).row 48 (0,0))).alloc (.cells (LN.let l d).row 48 (0,0))) W.heap.size=some (.cells (LN.let k c).row 48 (0,0)):=a02 (a03 _ _ _ rfl) _
  have k2:obj ((W.alloc (.cells (LN.let k c).row 48 (0,0))).alloc (.cells (LN.let l d).row 48 (0,0))) (W.heap.size+1)=some (.cells (LN.let l d).row 48 (0,0)):=a03 _ _ _ (by simp)
  have kB:Below W.heap.size W ((W.alloc (.cells (LN.let k c).row 48 (0,0))).alloc (.cells (LN.let l d).row 48 (0,0))):=((Below.refl _ _).alloc (Nat.le_refl _) _).alloc (by simp) _
  have n0:=(a01 k1 0).trans (a8z _)
  have n1:=(a01 k1 1).trans (ad4 _)
  have m0:=(a01 k2 0).trans (a8z _)
  have m1:=(a01 k2 1).trans (ad4 _)
  have m2:=(a01 k2 2).trans (aRh _)
  have qB:Below W.heap.size W ((W.alloc (.cells (LN.let (LN.to k l.dst) c).row 48 (0,0))).alloc (.cells (LN.let l d).row 48 (0,0))):=((Below.refl _ _).alloc (Nat.le_refl _) _).alloc (by simp) _
  have HS:Hid (∀ W',Below W.heap.size W W'→Calls Tryz.prog 69 #[.agg (LN.let (LN.to k l.dst) c).row,.agg (LN.let l d).row] W' fun e W''=>e=.returned (.bool (decide (LN.to k l.dst=l)))∧Below W'.heap.size W' W''):=Lib.hid fun W' hb=>(same_apart hk hl ath aTs (hc.below hb) (hd.below hb) hap).mono fun e W'' ⟨h1,h2,h3⟩=>⟨by
    by_cases he:LN.to k l.dst=l
    · rw [h1 he,decide_eq_true he]
    · rw [h2 he,decide_eq_false he],h3⟩
  have e9:((l.kind:Int) == 9)=decide (l.kind=9):=a14 l.kind 9
  have e10:((l.kind:Int) == 10)=decide (l.kind=10):=a14 l.kind 10
  have ek:=a14 k.kind l.kind
  have ef:=a14 k.frm l.frm
  have ht:aeo k l=if (decide (l.kind=9)||decide (l.kind=10))=true then decide (k.kind=l.kind)&&decide (k.frm=l.frm) else decide (LN.to k l.dst=l):=by
    unfold aeo
    simp only [Bool.or_eq_true,decide_eq_true_eq]
  rw [ht]
  clear ht hk hl hc hd hap
  generalize decide (l.kind=9)=b9 at *
  generalize decide (l.kind=10)=b10 at *
  generalize decide (k.kind=l.kind)=bk at *
  generalize decide (k.frm=l.frm)=bf at *
  generalize decide (LN.to k l.dst=l)=bs at *
  rcases (show (b9=true∧bk=true)∨(b9=true∧bk=false)∨(b9=false∧b10=true∧bk=true)∨(b9=false∧b10=true∧bk=false)∨(b9=false∧b10=false) by cases b9<;>cases b10<;>cases bk<;>simp) with ⟨rfl,rfl⟩ | ⟨rfl,rfl⟩ | ⟨rfl,rfl,rfl⟩ | ⟨rfl,rfl,rfl⟩ | ⟨rfl,rfl⟩ <;>
  (go_enter Tryz.func94,Tryz.ntmps94
   repeat' (first | (go_at_call 69;((with_reducible refine (HS.out _ qB).mono ?_));rintro r w1 ⟨rfl,hb1⟩;have mB:=qB.trans (hb1.mono qB.size);dsimp only) | go_skip | go_guarded | go_step | go_upon)
   go_ret
   exact ⟨by simp,by assumption⟩)
theorem auk {W:World} {k l:LN} {c d:Value} {b:Nat} (hk:LN.Sz (LN.to k l.dst)) (hl:l.Sz) (hc:a0h 0 W c k.cs) (hd:a0h 0 W d l.cs) (hap:Apart c d)
  (hb:obj W b=some (.cells (LN.let l d).row 48 (0,0))) :
  Calls Tryz.prog 93 #[.agg (LN.let k c).row,.pointer (some ⟨b,0,none⟩)] W fun e W'=>e=.returned (.bool (aeo k l))∧Below W.heap.size W W':=by
 have lz:=a0e (LN.let k c) hk.ref
 have la:=a15 (LN.let k c) hk.ref
 have lo:=a0y (LN.let k c) (a0v hc)
 have lz1:=a0e (LN.let l d) hl.ref
 have la1:=a15 (LN.let l d) hl.ref
 have k1:=a02 hb (.cells (LN.let k c).row 48 (0,0))
 have kB:Below W.heap.size W (W.alloc (.cells (LN.let k c).row 48 (0,0))):=(Below.refl _ _).alloc (Nat.le_refl _) _
 have HT:=Lib.hid (asu hk hl (hc.below kB) (hd.below kB) hap)
 generalize aeo k l=bt at *
 clear hk hl hc hd hap
 go_enter Tryz.func93,Tryz.ntmps93
 repeat' (first | (go_at_call 94;((with_reducible refine (HT.out).mono ?_));rintro r w1 ⟨rfl,hb1⟩;have mB:=kB.trans (hb1.mono kB.size);dsimp only) | go_skip | go_guarded | go_step | go_upon)
 go_ret
 exact ⟨rfl,mB⟩
end Go.Proofs.YtlnlbdfokmhelaaGreatDoor
namespace Go.Proofs.YtlnlbdfokmhelaaGreatDoor
open Go.RowKit Go.CE.V
set_option maxRecDepth 20000
set_option maxHeartbeats 4000000
attribute [local irreducible] wpQuiet
def a2s (mtg org dl:Nat) (own:List Nat):Go.Rv.a2c:=⟨org,mtg,dl,own,a2k org,agx⟩
theorem arx {xs:List LN} {o k:Nat} (hk:k < xs.length) (hp:(decide ((xs.getD k a0c).kind=9)&&decide ((xs.getD k a0c).frm=o))=true) (hn:∀ j,j < k→(decide ((xs.getD j a0c).kind=9)&&decide ((xs.getD j a0c).frm=o))=false):Go.Rv.a2c.first xs o=some (xs.getD k a0c):=by
 unfold Go.Rv.a2c.first
 rw [List.find?_eq_some_iff_getElem]
 refine ⟨hp,k,hk,(aaz _ hk).symm,fun j hj=>?_⟩
 have:=hn j hj
 rw [aaz _ (by omega)] at this
 simp only [this,Bool.not_false]
theorem aHd {xs:List LN} {o:Nat} (hn:∀ j,j < xs.length→(decide ((xs.getD j a0c).kind=9)&&decide ((xs.getD j a0c).frm=o))=false):Go.Rv.a2c.first xs o=none:=by
 unfold Go.Rv.a2c.first
 rw [List.find?_eq_none]
 intro x hx
 obtain ⟨k,hk,rfl⟩:=ajd a0c hx
 rw [hn k hk]
 decide
theorem aho {p:Go.Rv.a2c} {xs:List LN}:∀ {os:List Nat},(∀ o∈os,Go.Rv.a2c.first xs o≠none)→p.marks xs os=some (os.map fun o=>p.mark ((Go.Rv.a2c.first xs o).getD a0c))
 | [],_=>rfl
 | o :: os,h=>by
  obtain ⟨x,hx⟩:=Option.ne_none_iff_exists'.1 (h o (List.mem_cons_self ..))
  unfold Go.Rv.a2c.marks
  rw [hx,aho fun q hq=>h q (List.mem_cons_of_mem _ hq)]
  simp [hx]
theorem ahp {p:Go.Rv.a2c} {xs:List LN}:∀ {os:List Nat} {o:Nat},o∈os→Go.Rv.a2c.first xs o=none→p.marks xs os=none
 | q :: os,o,h,hn=>by
  unfold Go.Rv.a2c.marks
  rcases List.mem_cons.1 h with rfl | h
  ·rw [hn]
  ·rw [ahp h hn]
   cases Go.Rv.a2c.first xs q<;>rfl
def ajc (org:Nat) (xs:List LN) (os:List Nat):List (List UInt8):=os.map fun o=>a2k org ((Go.Rv.a2c.first xs o).getD a0c)
theorem aop (org:Nat) (xs:List LN) (os:List Nat):(ajc org xs os).length=os.length:=List.length_map _
theorem aW7 (org:Nat) (xs:List LN) (os:List Nat) (i:Nat) (hi:i < (ajc org xs os).length):((ajc org xs os).getD i []).length=32:=by
 rw [aaz _ hi]
 simp [ajc,a4n]
theorem aG8 (org:Nat) (xs:List LN) (os:List Nat) (k:Nat) (hk:k < os.length):ajc org xs (os.take (k+1))=ajc org xs (os.take k) ++ [a2k org ((Go.Rv.a2c.first xs (os.getD k 0)).getD a0c)]:=by
 rw [ajc,ajc,List.take_add_one,List.getElem?_eq_getElem hk,Option.toList_some,List.map_append,aaz _ hk]
 rfl
theorem av2 {B:Nat} {W:World} {lv v:Value} {xs:List LN} {mtg org dl:Nat} {own:List Nat} (hr:∀ i,i < xs.length→(xs.getD i a0c).ref.length=32) (hm:∀ i,i < xs.length→(xs.getD i a0c).kind=9→(LN.to (xs.getD i a0c) org).Ok∧(LN.enc (LN.to (xs.getD i a0c) org)).length≤1048576)
  (hl:a4w B W lv xs) (hv:a4r W v own) (h0:own≠[]) (hz:own.length≤1000) (hzx:xs.length≤100000) (hT:Tab W) (h0w:0 < W.heap.size) :
  Calls Tryz.prog 111 #[.agg (a06 mtg org dl v),lv] W fun e W'=>(match (a2s mtg org dl own).aBl xs with | none=>e=.returned (.tuple #[.agg z46,.bool false]) | some r=>e=.returned (.tuple #[.agg (a0i r),.bool true]))∧Below W.heap.size W W':=by
 have HBO:=Lib.hid (show (a2s mtg org dl own).aBl xs=((a2s mtg org dl own).marks xs own).map agx from rfl)
 obtain ⟨i0,zv,hif,hz0,hz1,hz2,hzs⟩:=afo (P:=Tryz.prog) (e:=76) (sz:=1) (b:=24) (by kernel_rfl)
 have hvo:=a2o hv
 have HL:=Lib.hid hl
 have HM:=Lib.hid hm
 have HR:=Lib.hid hr
 have HT:=Lib.hid hT
 clear hl hm hr hT
 obtain ⟨oa,oc,rfl,hov⟩:=hv
 obtain ⟨ob,oo,orow,rfl,ho1,ho2⟩:=hov h0
 have HO2:=Lib.hid ho2
 clear hov ho2
 have po:=a3c mtg org dl hvo
 have k1:obj ((W.alloc (.cells (a06 mtg org dl (.slice (some ⟨ob,oo,none⟩) own.length oc)) 144 (0,0))).alloc (.cells z46 46 (0,0))) W.heap.size=some (.cells (a06 mtg org dl (.slice (some ⟨ob,oo,none⟩) own.length oc)) 144 (0,0)):=a02 (a03 _ _ _ rfl) _
 have k2:obj ((W.alloc (.cells (a06 mtg org dl (.slice (some ⟨ob,oo,none⟩) own.length oc)) 144 (0,0))).alloc (.cells z46 46 (0,0))) (W.heap.size+1)=some (.cells z46 46 (0,0)):=a03 _ _ _ (by simp)
 have kB:Below W.heap.size W ((W.alloc (.cells (a06 mtg org dl (.slice (some ⟨ob,oo,none⟩) own.length oc)) 144 (0,0))).alloc (.cells z46 46 (0,0))):=((Below.refl _ _).alloc (Nat.le_refl _) _).alloc (by simp) _
 have kz:((W.alloc (.cells (a06 mtg org dl (.slice (some ⟨ob,oo,none⟩) own.length oc)) 144 (0,0))).alloc (.cells z46 46 (0,0))).heap.size=W.heap.size+2:=by simp
 have c3:=(a01 k1 3).trans (ads _ _ _ _)
 go_enter Tryz.func111,Tryz.ntmps111
 repeat' (first | go_skip | go_guarded | go_step | go_upon)
 generalize (W.alloc (.cells (a06 mtg org dl (.slice (some ⟨ob,oo,none⟩) own.length oc)) 144 (0,0))).alloc (.cells z46 46 (0,0))=w0 at *
 clear c3
 go_loopw [6,14] (fun s i wr => ∃ k:Nat,k≤own.length∧i=.int .i64 k∧(∀ j,j < k→Go.Rv.a2c.first xs (own.getD j 0)≠none)∧a8x (W.heap.size+2) wr s (ajc org xs (own.take k))∧obj wr W.heap.size=some (.cells (a06 mtg org dl (.slice (some ⟨ob,oo,none⟩) own.length oc)) 144 (0,0))∧obj wr (W.heap.size+1)=some (.cells z46 46 (0,0))∧Below W.heap.size W wr∧W.heap.size+2≤wr.heap.size) (fun _ i _=>(own.length - intOf i).toNat)
 case atStart=>exact ⟨0,by omega,rfl,fun j hj=>by omega,⟨[],World.ownsRow_nil _ _ _ _,fun i hi=>by simp [ajc] at hi⟩,k1,k2,kB,by omega⟩
 case round =>
  clear k1 k2 kB kz
  obtain ⟨k,hk,rfl,hfs,hpo,h1,h2,hB,hsz⟩:=hrel
  have HPO:=Lib.hid hpo
  have HFS:=Lib.hid hfs
  clear hpo hfs
  obtain ⟨w1,rfl⟩ : ∃ w1,w1=wr:=⟨wr,rfl⟩
  by_cases hlt:k < own.length
  ·have i1:(k:Int) < (own.length:Int):=by omega
   have c1:=(a01 (a00 ho1 hB (a04 ho1)) (oo+k)).trans (HO2.out k hlt)
   have HTK:=Lib.hid (aG8 org xs own k hlt)
   have HMN:Hid (Go.Rv.a2c.first xs (own.getD k 0)=none→(a2s mtg org dl own).marks xs own=none):=Lib.hid fun e=>ahp (getD_mem hlt) e
   have HOG:Hid (own.getD k 0=own.getD k 0):=Lib.hid rfl
   generalize hog:own.getD k 0=o at c1 HTK HMN
   have HOG:=Lib.hid hog
   clear hog
   have b0:obj (w1.alloc (.cells #[.int .i64 (o:Nat)] 3 (0,0))) w1.heap.size=some (.cells #[.int .i64 (o:Nat)] 3 (0,0)):=a03 _ _ _ rfl
   have bB:Below w1.heap.size w1 (w1.alloc (.cells #[.int .i64 (o:Nat)] 3 (0,0))):=(Below.refl _ _).alloc (Nat.le_refl _) _
   have hl2:=HL.out.below (hB.trans (bB.mono hB.size))
   have HI:=Lib.hid (ixf1 (.inl rfl) HR.out hl2 (by omega) (P:=fun x=>decide (x.kind=9)&&decide (x.frm=o)) (fun i hi w c hb hc=>apl (HR.out i hi) (a0v hc) (a00 b0 hb (a04 b0))))
   have hk1:=a02 h1 (.cells #[.int .i64 (o:Nat)] 3 (0,0))
   have hk2:=a02 h2 (.cells #[.int .i64 (o:Nat)] 3 (0,0))
   cases hf:Go.Rv.a2c.first xs o with
   | none =>
    have HI2:Hid (Calls Tryz.prog 153 #[lv,.func (.func 162) #[] #[.pointer (some ⟨w1.heap.size,0,none⟩)]] (w1.alloc (.cells #[.int .i64 (o:Nat)] 3 (0,0))) fun e W'=>e=.returned (.int .i64 (-1))∧Below (w1.alloc (.cells #[.int .i64 (o:Nat)] 3 (0,0))).heap.size (w1.alloc (.cells #[.int .i64 (o:Nat)] 3 (0,0))) W'):=Lib.hid (HI.out.mono fun e W' ⟨h,hb⟩=>by
     rcases h with ⟨i,hi,hp,hn,rfl⟩ | ⟨hn,rfl⟩
     ·rw [arx hi hp hn] at hf;cases hf
     ·exact ⟨rfl,hb⟩)
    clear HI
    repeat' (first | (go_at_call 153;((with_reducible refine (HI2.out).mono ?_));rintro r w2 ⟨rfl,hb2⟩;have q2:=a00 hk2 hb2 (a04 hk2);have qB:=hB.trans ((bB.trans (hb2.mono bB.size)).mono hB.size);dsimp only) | go_skip | go_guarded | go_step | go_upon)
    have hbn:(a2s mtg org dl own).aBl xs=none:=by rw [HBO.out,HMN.out hf];rfl
    refine bodyPost_ret (a0d rfl _ _ (W.heap.size+1) 46 _ _ _ (.bool false) rfl (setRow_heap _ _ _ _ _ _ q2) Tryz.underlying46 rfl (by kernel_rfl) rfl) rfl ?_
    refine ⟨?_,below_setRow qB (by omega) _⟩
    rw [hbn]
    unfold z46
    rfl
   | some x =>
    have hxk:x.kind=9:=by
     have:=List.find?_some hf
     simp only [Bool.and_eq_true,decide_eq_true_eq] at this
     exact this.1
    have HI2:Hid (Calls Tryz.prog 153 #[lv,.func (.func 162) #[] #[.pointer (some ⟨w1.heap.size,0,none⟩)]] (w1.alloc (.cells #[.int .i64 (o:Nat)] 3 (0,0))) fun e W' => ∃ i:Nat,i < xs.length∧xs.getD i a0c=x∧e=.returned (.int .i64 i)∧Below (w1.alloc (.cells #[.int .i64 (o:Nat)] 3 (0,0))).heap.size (w1.alloc (.cells #[.int .i64 (o:Nat)] 3 (0,0))) W'):=Lib.hid (HI.out.mono fun e W' ⟨h,hb⟩=>by
     rcases h with ⟨i,hi,hp,hn,rfl⟩ | ⟨hn,rfl⟩
     ·refine ⟨i,hi,?_,rfl,hb⟩
      have:=arx hi hp hn
      rw [hf] at this
      exact (Option.some.inj this).symm
     ·rw [aHd hn] at hf;cases hf)
    have HFX:=Lib.hid hf
    clear HI hf
    repeat' (first | (go_at_call 153;((with_reducible refine (HI2.out).mono ?_));rintro r w2 ⟨i,hi,hxi,rfl,hb2⟩;have q1:=a00 hk1 hb2 (a04 hk1);have q2:=a00 hk2 hb2 (a04 hk2);have m2:=bB.trans (hb2.mono bB.size);have qB:=hB.trans (m2.mono hB.size);have hin : ¬ (i:Int) < 0:=(by omega);have hil:(i:Int) < (xs.length:Int):=(by omega);dsimp only) | go_skip | go_guarded | go_step | go_upon)
    obtain ⟨cv,⟨la,lc,rfl,hrow⟩,hcv⟩:=HL.out
    obtain ⟨lb,lo,aM4,rfl,hlb1,hlb2⟩:=hrow (by omega)
    obtain ⟨z0,hx2⟩:=hlb2 i hi
    dsimp only at hx2
    rw [hxi] at hx2
    have z1:(lo+i * 62+62≤aM4.size)=True:=eq_true z0
    have hlw:=a00 hlb1 qB (a04 hlb1)
    obtain ⟨mo,me⟩:=HM.out i hi (by rw [hxi];exact hxk)
    have hci:=hcv i hi
    have hri:=HR.out i hi
    rw [hxi] at mo me hci hri
    have HMK:=Lib.hid (fun W' (hb:Below w2.heap.size w2 W')=>ahq (mtg:=mtg) (dl:=dl) mo ((hci.below (qB.trans (hb.mono qB.size))).mono (Nat.zero_le _)) me hvo (HT.out.below (qB.trans (hb.mono qB.size)) h0w) (Nat.lt_of_lt_of_le h0w (qB.trans (hb.mono qB.size)).size))
    have r1:(a0i (a2k org x)).size=32:=by rw [a0o,a4n]
    have r2:(a0i (a2k org x)).extract 0 32=a0i (a2k org x):=a2v _ _ (a4n _ _)
    have r3:ones (a0i (a2k org x))=true:=a1t _
    have q1d:obj w2.drew W.heap.size=_:=q1
    have hlwd:obj w2.drew lb=_:=hlw
    have lt1:=a04 q1
    have ltl:=a04 hlw
    clear HI2 hrow hlb2 hcv z0 hb2 hk1 hk2
    go_cut [10] from 24 to 30 (fun v wx => ∃ g,v=.pointer (some ⟨g,0,none⟩)∧obj wx g=some (.cells (a0i (a2k org x)) 46 (0,0))∧Below w2.heap.size w2 wx)
    case first =>
     go_region_law (first | ((go_simp;go_at_call 110;((with_reducible refine (HMK.out _ (by repeat' (first | with_reducible exact Below.refl _ _ | (with_reducible refine Below.alloc ?_ ?_ _) | (with_reducible refine Below.drew ?_) | omega | (simp only [World.size_alloc,World.size_drew];omega)))).mono ?_));rintro e w' ⟨rfl,hb1⟩;have hO:=an3 hb1;have hZ:=hb1.size;simp only [World.size_alloc,World.size_drew] at hZ;dsimp only)))
     all_goals (repeat' go_step)
     all_goals go_meet
     all_goals
      refine ⟨_,rfl,?_,?_⟩
      ·first | exact a03 _ _ _ rfl | (rw [a0b,hO _ (by simp)];show Option.map (Obj.aem _) (obj (w2.alloc _) w2.heap.size)=_;rw [a03 _ _ _ rfl];rfl)
      ·repeat' (first | with_reducible exact Below.refl _ _ | (with_reducible refine Below.alloc ?_ ?_ _) | (with_reducible refine below_setRow ?_ ?_ _) | (with_reducible refine Below.drew ?_) | (with_reducible refine Below.trans ?_ (Below.mono hb1 ?_)) | omega | (simp only [World.size_alloc,World.size_drew,setRow_size];omega))
    case rest =>
     obtain ⟨g,rfl,hg,hBg⟩:=hcut
     clear HMK q1d hlwd r1 r2 r3 hlw hx2
     have hRz:(a0i (a2k org x)).size=32:=by rw [a0o,a4n]
     obtain ⟨rows,ho,hpv⟩:=HPO.out
     have hrl:rows.length=(ajc org xs (own.take k)).length:=by rw [ho.1];omega
     have mW:=m2.trans (hBg.mono m2.size)
     have mB:=mW.alloc mW.size (.cells #[.slice (some ⟨g,0,none⟩) 32 32] 76 (0,0))
     have ho2:=a4i ho mB
     have hnews:∀ i u,([.slice (some ⟨g,0,none⟩) 32 32]:List Value)[i]? = some u→(wc.alloc (.cells #[.slice (some ⟨g,0,none⟩) 32 32] 76 (0,0))).cell? ((⟨wc.heap.size,0,none⟩:Addr).add i)=some u:=fun i u hu=>by
      rw [Addr.add_lit,a01 (a03 wc _ _ rfl),Nat.zero_add]
      rw [← hu]
      exact List.getElem?_toArray
     have hfl:(ajc org xs (own.take k)).length≤1000:=by rw [aop,List.length_take];omega
     have c1':=a00 q1 hBg (a04 q1)
     have c2':=a00 q2 hBg (a04 q2)
     generalize hF:(ajc org xs (own.take k)).length=F at *
     repeat' (first | (at_builtin;refine wpList_append_own _ rfl _ _ 173 rfl (W.heap.size+2) 76 i0 zv 1 24 Tryz.underlying173 hif hz0 hz1 hz2 hzs (by decide) _ F rows rfl ho2 ⟨wc.heap.size,0,none⟩ 1 1 [.slice (some ⟨g,0,none⟩) 32 32] rfl rfl hnews (by intro u hu;simp only [List.mem_cons,List.not_mem_nil,or_false] at hu;subst hu;rfl) (by unfold maxLen;omega) (by omega) (by have:=mW.size;simp;omega) ?_;intro v' w' hown' hgrow' _) | go_skip | go_guarded | go_step | go_upon)
     have d1:=a02 c1' (.cells #[.slice (some ⟨g,0,none⟩) 32 32] 76 (0,0))
     have d2:=a02 c2' (.cells #[.slice (some ⟨g,0,none⟩) 32 32] 76 (0,0))
     have dg:=a02 hg (.cells #[.slice (some ⟨g,0,none⟩) 32 32] 76 (0,0))
     have hwB:=hB.trans (mB.mono hB.size)
     rw [← hF] at hown' ho2
     refine ⟨⟨k+1,by omega,by go_num,fun j hj=>?_,?_,a0w d1 hgrow' (fun e=>?_),a0w d2 hgrow' (fun e=>?_),hwB.grown hgrow' hwB.size (fun q hq=>by have:=a1u ho2 hq;omega),?_⟩,by simp [intOf];omega⟩
     ·rcases Nat.lt_succ_iff_lt_or_eq.1 hj with q | rfl
      ·exact HFS.out j q
      ·rw [HOG.out,HFX.out]
       exact fun e=>by cases e
     ·rw [HTK.out,HFX.out]
      refine ahh (ms:=[a2k org x]) ho2 (fun j hj=>?_) hgrow' hown' fun j hj=>?_
      ·obtain ⟨u,e,hu⟩:=hpv j (by rw [← hF];exact hj)
       exact ⟨u,e,hu.below mB⟩
      ·have hj2:j=0:=by simp at hj;omega
       subst hj2
       exact ⟨_,rfl,_,32,_,by rw [show ([a2k org x].getD 0 [])=a2k org x from rfl,a4n],dg,by decide⟩
     ·have:=a1u ho2 e.symm;omega
     ·have:=a1u ho2 e.symm;omega
     ·have:=hgrow'.size;have:=mW.size;simp at *;omega
  ·have i1 : ¬ (k:Int) < (own.length:Int):=by omega
   have hkn:own.take k=own:=List.take_of_length_le (by omega)
   have hpo:a8x (W.heap.size+2) w1 u6 (ajc org xs own):=by
    have:=HPO.out
    rw [hkn] at this
    exact this
   have hbs:(a2s mtg org dl own).aBl xs=some (agx (ajc org xs own)):=by
    rw [HBO.out,aho fun o ho=>?_]
    ·rfl
    ·obtain ⟨j,hj,rfl⟩:=ajd 0 ho
     exact HFS.out j (by omega)
   have HBS:=Lib.hid hbs
   have HH:=Lib.hid (amj hpo (aW7 org xs own) (by rw [aop];exact List.length_pos_iff.2 h0) (by rw [aop];omega) (HT.out.below hB h0w) (Nat.lt_of_lt_of_le h0w hB.size))
   have r1:(a0i (agx (ajc org xs own))).size=32:=by rw [a0o,abx]
   have r2:(a0i (agx (ajc org xs own))).extract 0 32=a0i (agx (ajc org xs own)):=a2v _ _ (abx _)
   have r3:ones (a0i (agx (ajc org xs own)))=true:=a1t _
   clear hpo hbs hkn
   repeat' (first | (go_at_call 126;((with_reducible refine (HH.out).mono ?_));rintro r w2 ⟨rfl,hb2⟩;have q2:=a00 h2 hb2 (a04 h2);have hB2:=hB.trans (hb2.mono hB.size);dsimp only) | go_skip | go_guarded | go_step | go_upon)
   refine bodyPost_ret (a0d rfl _ _ (W.heap.size+1) 46 _ _ _ (.bool true) rfl (setRow_heap _ _ _ _ _ _ q2) Tryz.underlying46 rfl (by rw [r1];kernel_rfl) rfl) rfl ?_
   refine ⟨?_,below_setRow hB2 (by omega) _⟩
   rw [HBS.out]
theorem a2f {B:Nat} {W:World} {lv v:Value} {xs:List LN} {mtg org dl:Nat} {own:List Nat} (hr:∀ i,i < xs.length→(xs.getD i a0c).ref.length=32) (hm:∀ i,i < xs.length→(xs.getD i a0c).kind=9→(LN.to (xs.getD i a0c) org).Ok∧(LN.enc (LN.to (xs.getD i a0c) org)).length≤1048576)
  (hl:a4w B W lv xs) (hv:a4r W v own) (h0:own≠[]) (hz:own.length≤1000) (hzx:xs.length≤100000) (hT:Tab W) (h0w:0 < W.heap.size) :
  Calls Tryz.prog 97 #[.agg (a06 mtg org dl v),lv] W fun e W'=>e=.returned (.bool ((a2s mtg org dl own).a09 xs))∧Below W.heap.size W W':=by
 have po:=a3c mtg org dl (a2o hv)
 have k1:obj (W.alloc (.cells (a06 mtg org dl v) 144 (0,0))) W.heap.size=some (.cells (a06 mtg org dl v) 144 (0,0)):=a03 _ _ _ rfl
 have kB:Below W.heap.size W (W.alloc (.cells (a06 mtg org dl v) 144 (0,0))):=(Below.refl _ _).alloc (Nat.le_refl _) _
 have HB:=Lib.hid (av2 (mtg:=mtg) (dl:=dl) hr hm (hl.below kB) (hv.below kB) h0 hz hzx (hT.below kB h0w) (Nat.lt_of_lt_of_le h0w kB.size))
 have HL:=Lib.hid hl
 have HR:=Lib.hid hr
 cases hb:(a2s mtg org dl own).aBl xs with
 | none =>
  have hcm:(a2s mtg org dl own).a09 xs=false:=by unfold Go.Rv.a2c.a09;rw [hb]
  rw [hb] at HB
  rw [hcm]
  clear hb hcm hl hr hm hv hT
  go_enter Tryz.func97,Tryz.ntmps97
  repeat' (first | (go_at_call 111;((with_reducible refine (HB.out).mono ?_));rintro r w2 ⟨rfl,hb2⟩;have hB2:=kB.trans (hb2.mono kB.size);dsimp only) | go_skip | go_guarded | go_step | go_upon)
  go_ret
  exact ⟨rfl,hB2.alloc hB2.size _⟩
 | some ref =>
  have agv:ref.length=32:=by
   have hb':((a2s mtg org dl own).marks xs own).map agx=some ref:=hb
   obtain ⟨ms,_,rfl⟩:=Option.map_eq_some_iff.1 hb'
   exact abx _
  have hcm:(a2s mtg org dl own).a09 xs=xs.any fun x=>decide (x.kind=11)&&decide (x.frm=org)&&decide (x.st=1)&&decide (x.ref=ref):=by unfold Go.Rv.a2c.a09;rw [hb];rfl
  rw [hb] at HB
  rw [hcm]
  have r1:(a0i ref).size=32:=by rw [a0o,agv]
  have r2:(a0i ref).extract 0 32=a0i ref:=a2v _ _ agv
  have r3:ones (a0i ref)=true:=a1t _
  have HC:Hid (∀ w2,Below (W.alloc (.cells (a06 mtg org dl v) 144 (0,0))).heap.size (W.alloc (.cells (a06 mtg org dl v) 144 (0,0))) w2→Calls Tryz.prog 92 #[lv,.func (.func 154) #[] #[.pointer (some ⟨W.heap.size,0,none⟩),.pointer (some ⟨w2.heap.size,0,none⟩)]] (w2.alloc (.cells (a0i ref) 46 (0,0))) fun e W'=>e=.returned (.bool (xs.any fun x=>decide (x.kind=11)&&decide (x.frm=org)&&decide (x.st=1)&&decide (x.ref=ref)))∧Below (w2.alloc (.cells (a0i ref) 46 (0,0))).heap.size (w2.alloc (.cells (a0i ref) 46 (0,0))) W'):=Lib.hid fun w2 hb2=>by
   have hB2:=kB.trans (hb2.mono kB.size)
   have p1:=a02 (a00 k1 hb2 (a04 k1)) (.cells (a0i ref) 46 (0,0))
   have p2:obj (w2.alloc (.cells (a0i ref) 46 (0,0))) w2.heap.size=some (.cells (a0i ref) 46 (0,0)):=a03 _ _ _ rfl
   exact cxf2 (.inr rfl) HR.out (HL.out.below (hB2.alloc hB2.size _)) (by omega) fun i hi w c hbw hc=>aur (HR.out i hi) agv (a0v hc) (a00 p1 hbw (a04 p1)) (a00 p2 hbw (a04 p2))
  generalize (xs.any fun x=>decide (x.kind=11)&&decide (x.frm=org)&&decide (x.st=1)&&decide (x.ref=ref))=ba at *
  clear hb hcm hl hr hm hv hT
  go_enter Tryz.func97,Tryz.ntmps97
  repeat' (first | (go_at_call 111;((with_reducible refine (HB.out).mono ?_));rintro r w2 ⟨rfl,hb2⟩;have hB2:=kB.trans (hb2.mono kB.size);have HC2:=Lib.hid (HC.out w2 hb2);dsimp only) | (go_at_call 92;((with_reducible refine (HC2.out).mono ?_));rintro r w3 ⟨rfl,hb3⟩;have hB3:=(hB2.alloc hB2.size (.cells (a0i ref) 46 (0,0))).trans (hb3.mono (by have:=hB2.size;simp;omega));dsimp only) | go_skip | go_guarded | go_step | go_upon)
  go_ret
  exact ⟨rfl,hB3⟩
end Go.Proofs.YtlnlbdfokmhelaaGreatDoor
