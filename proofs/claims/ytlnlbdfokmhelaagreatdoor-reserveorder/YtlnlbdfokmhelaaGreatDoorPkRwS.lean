/-
  The walk of reserve.twin.
-/
import Derived.Test.YtlnlbdfokmhelaaGreatDoorPkRwA
import Derived.Test.YtlnlbdfokmhelaaGreatDoorPkSmP
import Derived.Test.YtlnlbdfokmhelaaGreatDoorPkSm
import Derived.Test.YtlnlbdfokmhelaaGreatDoorPkRwH
import Derived.Test.YtlnlbdfokmhelaaGreatDoorPkRwP
set_option linter.unusedSectionVars false
set_option linter.constructorNameAsVariable false
set_option linter.unusedVariables false
set_option linter.unusedSimpArgs false
namespace Go.Proofs.YtlnlbdfokmhelaaGreatDoor
open Go.RowKit Go.CE.V
set_option maxRecDepth 20000
set_option maxHeartbeats 4000000
def bjl (k l:LN):Bool:=if l.kind=9∨l.kind=10 then decide (k.kind=l.kind)&&decide (k.frm=l.frm) else decide (LN.to k l.dst=l)
theorem bya {W:World} {k l:LN} {c d:Value} (hk:LN.Sz (LN.to k l.dst)) (hl:l.Sz) (hc:as1 0 W c k.cs) (hd:as1 0 W d l.cs) (hap:Apart c d) :
    Calls Tryz.prog 94 #[.agg (LN.let k c).row,.agg (LN.let l d).row] W fun e W'=>e=.returned (.bool (bjl k l))∧Below W.heap.size W W':=by
  have lz:=as4 (LN.let k c) hk.ref
  have la:=aI7 (LN.let k c) hk.ref
  have lo:=aBk (LN.let k c) (azh hc)
  have lz1:=as4 (LN.let l d) hl.ref
  have la1:=aI7 (LN.let l d) hl.ref
  have lo1:=aBk (LN.let l d) (azh hd)
  have lz2:=as4 (LN.let (LN.to k l.dst) c) hk.ref
  have la2:=aI7 (LN.let (LN.to k l.dst) c) hk.ref
  have hset:=boi k c l.dst
  have k1:obj ((W.alloc (.cells (LN.let k c).row 48 (0,0))).alloc (.cells (LN.let l d).row 48 (0,0))) W.heap.size=some (.cells (LN.let k c).row 48 (0,0)):=ab6 (aff _ _ _ rfl) _
  have k2:obj ((W.alloc (.cells (LN.let k c).row 48 (0,0))).alloc (.cells (LN.let l d).row 48 (0,0))) (W.heap.size+1)=some (.cells (LN.let l d).row 48 (0,0)):=aff _ _ _ (by simp)
  have kB:Below W.heap.size W ((W.alloc (.cells (LN.let k c).row 48 (0,0))).alloc (.cells (LN.let l d).row 48 (0,0))):=((Below.refl _ _).alloc (Nat.le_refl _) _).alloc (by simp) _
  have n0:=(abm k1 0).trans (bfi _)
  have n1:=(abm k1 1).trans (bli _)
  have m0:=(abm k2 0).trans (bfi _)
  have m1:=(abm k2 1).trans (bli _)
  have m2:=(abm k2 2).trans (bWv _)
  have qB:Below W.heap.size W ((W.alloc (.cells (LN.let (LN.to k l.dst) c).row 48 (0,0))).alloc (.cells (LN.let l d).row 48 (0,0))):=((Below.refl _ _).alloc (Nat.le_refl _) _).alloc (by simp) _
  have HS:Hid (∀ W',Below W.heap.size W W'→Calls Tryz.prog 69 #[.agg (LN.let (LN.to k l.dst) c).row,.agg (LN.let l d).row] W' fun e W''=>e=.returned (.bool (decide (LN.to k l.dst=l)))∧Below W'.heap.size W' W''):=Lib.hid fun W' hb=>(same_apart hk hl byo bZ8 (hc.below hb) (hd.below hb) hap).mono fun e W'' ⟨h1,h2,h3⟩=>⟨by
    by_cases he:LN.to k l.dst=l
    · rw [h1 he,decide_eq_true he]
    · rw [h2 he,decide_eq_false he],h3⟩
  have e9:((l.kind:Int) == 9)=decide (l.kind=9):=aBg l.kind 9
  have e10:((l.kind:Int) == 10)=decide (l.kind=10):=aBg l.kind 10
  have ek:=aBg k.kind l.kind
  have ef:=aBg k.frm l.frm
  have ht:bjl k l=if (decide (l.kind=9)||decide (l.kind=10))=true then decide (k.kind=l.kind)&&decide (k.frm=l.frm) else decide (LN.to k l.dst=l):=by
    unfold bjl
    simp only [Bool.or_eq_true,decide_eq_true_eq]
  rw [ht]
  clear ht hk hl hc hd hap
  generalize decide (l.kind=9)=b9 at *
  generalize decide (l.kind=10)=b10 at *
  generalize decide (k.kind=l.kind)=bk at *
  generalize decide (k.frm=l.frm)=bf at *
  generalize decide (LN.to k l.dst=l)=bs at *
  rcases (show (b9=true∧bk=true)∨(b9=true∧bk=false)∨(b9=false∧b10=true∧bk=true)∨(b9=false∧b10=true∧bk=false)∨(b9=false∧b10=false) by cases b9<;>cases b10<;>cases bk<;>simp) with ⟨rfl,rfl⟩ | ⟨rfl,rfl⟩ | ⟨rfl,rfl,rfl⟩ | ⟨rfl,rfl,rfl⟩ | ⟨rfl,rfl⟩ <;>
  (go_enter Tryz.func94,Tryz.ntmps94
   repeat' (first | (go_at_call 69;((with_reducible refine (HS.out _ qB).mono ?_));rintro r w1 ⟨rfl,hb1⟩;have mB:=qB.trans (hb1.mono qB.size);dsimp only) | go_skip | go_guarded | go_step | go_upon)
   go_ret
   exact ⟨by simp,by assumption⟩)
theorem bzj {W:World} {k l:LN} {c d:Value} {b:Nat} (hk:LN.Sz (LN.to k l.dst)) (hl:l.Sz) (hc:as1 0 W c k.cs) (hd:as1 0 W d l.cs) (hap:Apart c d)
  (hb:obj W b=some (.cells (LN.let l d).row 48 (0,0))) :
  Calls Tryz.prog 93 #[.agg (LN.let k c).row,.pointer (some ⟨b,0,none⟩)] W fun e W'=>e=.returned (.bool (bjl k l))∧Below W.heap.size W W':=by
 have lz:=as4 (LN.let k c) hk.ref
 have la:=aI7 (LN.let k c) hk.ref
 have lo:=aBk (LN.let k c) (azh hc)
 have lz1:=as4 (LN.let l d) hl.ref
 have la1:=aI7 (LN.let l d) hl.ref
 have k1:=ab6 hb (.cells (LN.let k c).row 48 (0,0))
 have kB:Below W.heap.size W (W.alloc (.cells (LN.let k c).row 48 (0,0))):=(Below.refl _ _).alloc (Nat.le_refl _) _
 have HT:=Lib.hid (bya hk hl (hc.below kB) (hd.below kB) hap)
 generalize bjl k l=bt at *
 clear hk hl hc hd hap
 go_enter Tryz.func93,Tryz.ntmps93
 repeat' (first | (go_at_call 94;((with_reducible refine (HT.out).mono ?_));rintro r w1 ⟨rfl,hb1⟩;have mB:=kB.trans (hb1.mono kB.size);dsimp only) | go_skip | go_guarded | go_step | go_upon)
 go_ret
 exact ⟨rfl,mB⟩
end Go.Proofs.YtlnlbdfokmhelaaGreatDoor
namespace Go.Proofs.YtlnlbdfokmhelaaGreatDoor
open Go.RowKit Go.CE.V
set_option maxRecDepth 20000
set_option maxHeartbeats 4000000
attribute [local irreducible] wpQuiet
def bb7 (mtg org dl:Nat) (own:List Nat):Go.Rv.b9c:=⟨org,mtg,dl,own,b8p org,bn0⟩
theorem bxi {xs:List LN} {o k:Nat} (hk:k < xs.length) (hp:(decide ((xs.getD k aum).kind=9)&&decide ((xs.getD k aum).frm=o))=true) (hn:∀ j,j < k→(decide ((xs.getD j aum).kind=9)&&decide ((xs.getD j aum).frm=o))=false):Go.Rv.b9c.first xs o=some (xs.getD k aum):=by
 unfold Go.Rv.b9c.first
 rw [List.find?_eq_some_iff_getElem]
 refine ⟨hp,k,hk,(bdl _ hk).symm,fun j hj=>?_⟩
 have:=hn j hj
 rw [bdl _ (by omega)] at this
 simp only [this,Bool.not_false]
theorem bMs {xs:List LN} {o:Nat} (hn:∀ j,j < xs.length→(decide ((xs.getD j aum).kind=9)&&decide ((xs.getD j aum).frm=o))=false):Go.Rv.b9c.first xs o=none:=by
 unfold Go.Rv.b9c.first
 rw [List.find?_eq_none]
 intro x hx
 obtain ⟨k,hk,rfl⟩:=bof aum hx
 rw [hn k hk]
 decide
theorem bmk {p:Go.Rv.b9c} {xs:List LN}:∀ {os:List Nat},(∀ o∈os,Go.Rv.b9c.first xs o≠none)→p.marks xs os=some (os.map fun o=>p.mark ((Go.Rv.b9c.first xs o).getD aum))
 | [],_=>rfl
 | o :: os,h=>by
  obtain ⟨x,hx⟩:=Option.ne_none_iff_exists'.1 (h o (List.mem_cons_self ..))
  unfold Go.Rv.b9c.marks
  rw [hx,bmk fun q hq=>h q (List.mem_cons_of_mem _ hq)]
  simp [hx]
theorem bml {p:Go.Rv.b9c} {xs:List LN}:∀ {os:List Nat} {o:Nat},o∈os→Go.Rv.b9c.first xs o=none→p.marks xs os=none
 | q :: os,o,h,hn=>by
  unfold Go.Rv.b9c.marks
  rcases List.mem_cons.1 h with rfl | h
  ·rw [hn]
  ·rw [bml h hn]
   cases Go.Rv.b9c.first xs q<;>rfl
def boe (org:Nat) (xs:List LN) (os:List Nat):List (List UInt8):=os.map fun o=>b8p org ((Go.Rv.b9c.first xs o).getD aum)
theorem bu8 (org:Nat) (xs:List LN) (os:List Nat):(boe org xs os).length=os.length:=List.length_map _
theorem c2c (org:Nat) (xs:List LN) (os:List Nat) (i:Nat) (hi:i < (boe org xs os).length):((boe org xs os).getD i []).length=32:=by
 rw [bdl _ hi]
 simp [boe,ba8]
theorem bLr (org:Nat) (xs:List LN) (os:List Nat) (k:Nat) (hk:k < os.length):boe org xs (os.take (k+1))=boe org xs (os.take k) ++ [b8p org ((Go.Rv.b9c.first xs (os.getD k 0)).getD aum)]:=by
 rw [boe,boe,List.take_add_one,List.getElem?_eq_getElem hk,Option.toList_some,List.map_append,bdl _ hk]
 rfl
theorem bzz {B:Nat} {W:World} {lv v:Value} {xs:List LN} {mtg org dl:Nat} {own:List Nat} (hr:∀ i,i < xs.length→(xs.getD i aum).ref.length=32) (hm:∀ i,i < xs.length→(xs.getD i aum).kind=9→(LN.to (xs.getD i aum) org).Ok∧(LN.enc (LN.to (xs.getD i aum) org)).length≤1048576)
  (hl:b9w B W lv xs) (hv:bbb W v own) (h0:own≠[]) (hz:own.length≤1000) (hzx:xs.length≤100000) (hT:Tab W) (h0w:0 < W.heap.size) :
  Calls Tryz.prog 111 #[.agg (ah6 mtg org dl v),lv] W fun e W'=>(match (bb7 mtg org dl own).bRv xs with | none=>e=.returned (.tuple #[.agg z46,.bool false]) | some r=>e=.returned (.tuple #[.agg (as3 r),.bool true]))∧Below W.heap.size W W':=by
 have HBO:=Lib.hid (show (bb7 mtg org dl own).bRv xs=((bb7 mtg org dl own).marks xs own).map bn0 from rfl)
 obtain ⟨i0,zv,hif,hz0,hz1,hz2,hzs⟩:=bkl (P:=Tryz.prog) (e:=76) (sz:=1) (b:=24) (by kernel_rfl)
 have hvo:=b99 hv
 have HL:=Lib.hid hl
 have HM:=Lib.hid hm
 have HR:=Lib.hid hr
 have HT:=Lib.hid hT
 clear hl hm hr hT
 obtain ⟨oa,oc,rfl,hov⟩:=hv
 obtain ⟨ob,oo,c5d,rfl,ho1,ho2⟩:=hov h0
 have HO2:=Lib.hid ho2
 clear hov ho2
 have po:=b8r mtg org dl hvo
 have k1:obj ((W.alloc (.cells (ah6 mtg org dl (.slice (some ⟨ob,oo,none⟩) own.length oc)) 144 (0,0))).alloc (.cells z46 46 (0,0))) W.heap.size=some (.cells (ah6 mtg org dl (.slice (some ⟨ob,oo,none⟩) own.length oc)) 144 (0,0)):=ab6 (aff _ _ _ rfl) _
 have k2:obj ((W.alloc (.cells (ah6 mtg org dl (.slice (some ⟨ob,oo,none⟩) own.length oc)) 144 (0,0))).alloc (.cells z46 46 (0,0))) (W.heap.size+1)=some (.cells z46 46 (0,0)):=aff _ _ _ (by simp)
 have kB:Below W.heap.size W ((W.alloc (.cells (ah6 mtg org dl (.slice (some ⟨ob,oo,none⟩) own.length oc)) 144 (0,0))).alloc (.cells z46 46 (0,0))):=((Below.refl _ _).alloc (Nat.le_refl _) _).alloc (by simp) _
 have kz:((W.alloc (.cells (ah6 mtg org dl (.slice (some ⟨ob,oo,none⟩) own.length oc)) 144 (0,0))).alloc (.cells z46 46 (0,0))).heap.size=W.heap.size+2:=by simp
 have c3:=(abm k1 3).trans (bcz _ _ _ _)
 go_enter Tryz.func111,Tryz.ntmps111
 repeat' (first | go_skip | go_guarded | go_step | go_upon)
 generalize (W.alloc (.cells (ah6 mtg org dl (.slice (some ⟨ob,oo,none⟩) own.length oc)) 144 (0,0))).alloc (.cells z46 46 (0,0))=w0 at *
 clear c3
 go_loopw [6,14] (fun s i wr => ∃ k:Nat,k≤own.length∧i=.int .i64 k∧(∀ j,j < k→Go.Rv.b9c.first xs (own.getD j 0)≠none)∧bdy (W.heap.size+2) wr s (boe org xs (own.take k))∧obj wr W.heap.size=some (.cells (ah6 mtg org dl (.slice (some ⟨ob,oo,none⟩) own.length oc)) 144 (0,0))∧obj wr (W.heap.size+1)=some (.cells z46 46 (0,0))∧Below W.heap.size W wr∧W.heap.size+2≤wr.heap.size) (fun _ i _=>(own.length - intOf i).toNat)
 case atStart=>exact ⟨0,by omega,rfl,fun j hj=>by omega,⟨[],World.ownsRow_nil _ _ _ _,fun i hi=>by simp [boe] at hi⟩,k1,k2,kB,by omega⟩
 case round =>
  clear k1 k2 kB kz
  obtain ⟨k,hk,rfl,hfs,hpo,h1,h2,hB,hsz⟩:=hrel
  have HPO:=Lib.hid hpo
  have HFS:=Lib.hid hfs
  clear hpo hfs
  obtain ⟨w1,rfl⟩ : ∃ w1,w1=wr:=⟨wr,rfl⟩
  by_cases hlt:k < own.length
  ·have i1:(k:Int) < (own.length:Int):=by omega
   have c1:=(abm (aa1 ho1 hB (ah1 ho1)) (oo+k)).trans (HO2.out k hlt)
   have HTK:=Lib.hid (bLr org xs own k hlt)
   have HMN:Hid (Go.Rv.b9c.first xs (own.getD k 0)=none→(bb7 mtg org dl own).marks xs own=none):=Lib.hid fun e=>bml (getD_mem hlt) e
   have HOG:Hid (own.getD k 0=own.getD k 0):=Lib.hid rfl
   generalize hog:own.getD k 0=o at c1 HTK HMN
   have HOG:=Lib.hid hog
   clear hog
   have b0:obj (w1.alloc (.cells #[.int .i64 (o:Nat)] 3 (0,0))) w1.heap.size=some (.cells #[.int .i64 (o:Nat)] 3 (0,0)):=aff _ _ _ rfl
   have bB:Below w1.heap.size w1 (w1.alloc (.cells #[.int .i64 (o:Nat)] 3 (0,0))):=(Below.refl _ _).alloc (Nat.le_refl _) _
   have hl2:=HL.out.below (hB.trans (bB.mono hB.size))
   have HI:=Lib.hid (ixf1 (.inl rfl) HR.out hl2 (by omega) (P:=fun x=>decide (x.kind=9)&&decide (x.frm=o)) (fun i hi w c hb hc=>bv7 (HR.out i hi) (azh hc) (aa1 b0 hb (ah1 b0))))
   have hk1:=ab6 h1 (.cells #[.int .i64 (o:Nat)] 3 (0,0))
   have hk2:=ab6 h2 (.cells #[.int .i64 (o:Nat)] 3 (0,0))
   cases hf:Go.Rv.b9c.first xs o with
   | none =>
    have HI2:Hid (Calls Tryz.prog 153 #[lv,.func (.func 162) #[] #[.pointer (some ⟨w1.heap.size,0,none⟩)]] (w1.alloc (.cells #[.int .i64 (o:Nat)] 3 (0,0))) fun e W'=>e=.returned (.int .i64 (-1))∧Below (w1.alloc (.cells #[.int .i64 (o:Nat)] 3 (0,0))).heap.size (w1.alloc (.cells #[.int .i64 (o:Nat)] 3 (0,0))) W'):=Lib.hid (HI.out.mono fun e W' ⟨h,hb⟩=>by
     rcases h with ⟨i,hi,hp,hn,rfl⟩ | ⟨hn,rfl⟩
     ·rw [bxi hi hp hn] at hf;cases hf
     ·exact ⟨rfl,hb⟩)
    clear HI
    repeat' (first | (go_at_call 153;((with_reducible refine (HI2.out).mono ?_));rintro r w2 ⟨rfl,hb2⟩;have q2:=aa1 hk2 hb2 (ah1 hk2);have qB:=hB.trans ((bB.trans (hb2.mono bB.size)).mono hB.size);dsimp only) | go_skip | go_guarded | go_step | go_upon)
    have hbn:(bb7 mtg org dl own).bRv xs=none:=by rw [HBO.out,HMN.out hf];rfl
    refine bodyPost_ret (aq1 rfl _ _ (W.heap.size+1) 46 _ _ _ (.bool false) rfl (setRow_heap _ _ _ _ _ _ q2) Tryz.underlying46 rfl (by kernel_rfl) rfl) rfl ?_
    refine ⟨?_,below_setRow qB (by omega) _⟩
    rw [hbn]
    unfold z46
    rfl
   | some x =>
    have hxk:x.kind=9:=by
     have:=List.find?_some hf
     simp only [Bool.and_eq_true,decide_eq_true_eq] at this
     exact this.1
    have HI2:Hid (Calls Tryz.prog 153 #[lv,.func (.func 162) #[] #[.pointer (some ⟨w1.heap.size,0,none⟩)]] (w1.alloc (.cells #[.int .i64 (o:Nat)] 3 (0,0))) fun e W' => ∃ i:Nat,i < xs.length∧xs.getD i aum=x∧e=.returned (.int .i64 i)∧Below (w1.alloc (.cells #[.int .i64 (o:Nat)] 3 (0,0))).heap.size (w1.alloc (.cells #[.int .i64 (o:Nat)] 3 (0,0))) W'):=Lib.hid (HI.out.mono fun e W' ⟨h,hb⟩=>by
     rcases h with ⟨i,hi,hp,hn,rfl⟩ | ⟨hn,rfl⟩
     ·refine ⟨i,hi,?_,rfl,hb⟩
      have:=bxi hi hp hn
      rw [hf] at this
      exact (Option.some.inj this).symm
     ·rw [bMs hn] at hf;cases hf)
    have HFX:=Lib.hid hf
    clear HI hf
    repeat' (first | (go_at_call 153;((with_reducible refine (HI2.out).mono ?_));rintro r w2 ⟨i,hi,hxi,rfl,hb2⟩;have q1:=aa1 hk1 hb2 (ah1 hk1);have q2:=aa1 hk2 hb2 (ah1 hk2);have m2:=bB.trans (hb2.mono bB.size);have qB:=hB.trans (m2.mono hB.size);have hin : ¬ (i:Int) < 0:=(by omega);have hil:(i:Int) < (xs.length:Int):=(by omega);dsimp only) | go_skip | go_guarded | go_step | go_upon)
    obtain ⟨cv,⟨la,lc,rfl,hrow⟩,hcv⟩:=HL.out
    obtain ⟨lb,lo,c5n,rfl,hlb1,hlb2⟩:=hrow (by omega)
    obtain ⟨z0,hx2⟩:=hlb2 i hi
    dsimp only at hx2
    rw [hxi] at hx2
    have z1:(lo+i * 62+62≤c5n.size)=True:=eq_true z0
    have hlw:=aa1 hlb1 qB (ah1 hlb1)
    obtain ⟨mo,me⟩:=HM.out i hi (by rw [hxi];exact hxk)
    have hci:=hcv i hi
    have hri:=HR.out i hi
    rw [hxi] at mo me hci hri
    have HMK:=Lib.hid (fun W' (hb:Below w2.heap.size w2 W')=>bmm (mtg:=mtg) (dl:=dl) mo ((hci.below (qB.trans (hb.mono qB.size))).mono (Nat.zero_le _)) me hvo (HT.out.below (qB.trans (hb.mono qB.size)) h0w) (Nat.lt_of_lt_of_le h0w (qB.trans (hb.mono qB.size)).size))
    have r1:(as3 (b8p org x)).size=32:=by rw [ave,ba8]
    have r2:(as3 (b8p org x)).extract 0 32=as3 (b8p org x):=b90 _ _ (ba8 _ _)
    have r3:ones (as3 (b8p org x))=true:=aZ1 _
    have q1d:obj w2.drew W.heap.size=_:=q1
    have hlwd:obj w2.drew lb=_:=hlw
    have lt1:=ah1 q1
    have ltl:=ah1 hlw
    clear HI2 hrow hlb2 hcv z0 hb2 hk1 hk2
    go_cut [10] from 24 to 30 (fun v wx => ∃ g,v=.pointer (some ⟨g,0,none⟩)∧obj wx g=some (.cells (as3 (b8p org x)) 46 (0,0))∧Below w2.heap.size w2 wx)
    case first =>
     go_region_law (first | ((go_simp;go_at_call 110;((with_reducible refine (HMK.out _ (by repeat' (first | with_reducible exact Below.refl _ _ | (with_reducible refine Below.alloc ?_ ?_ _) | (with_reducible refine Below.drew ?_) | omega | (simp only [World.size_alloc,World.size_drew];omega)))).mono ?_));rintro e w' ⟨rfl,hb1⟩;have hO:=bsn hb1;have hZ:=hb1.size;simp only [World.size_alloc,World.size_drew] at hZ;dsimp only)))
     all_goals (repeat' go_step)
     all_goals go_meet
     all_goals
      refine ⟨_,rfl,?_,?_⟩
      ·first | exact aff _ _ _ rfl | (rw [ajb,hO _ (by simp)];show Option.map (Obj.bjj _) (obj (w2.alloc _) w2.heap.size)=_;rw [aff _ _ _ rfl];rfl)
      ·repeat' (first | with_reducible exact Below.refl _ _ | (with_reducible refine Below.alloc ?_ ?_ _) | (with_reducible refine below_setRow ?_ ?_ _) | (with_reducible refine Below.drew ?_) | (with_reducible refine Below.trans ?_ (Below.mono hb1 ?_)) | omega | (simp only [World.size_alloc,World.size_drew,setRow_size];omega))
    case rest =>
     obtain ⟨g,rfl,hg,hBg⟩:=hcut
     clear HMK q1d hlwd r1 r2 r3 hlw hx2
     have hRz:(as3 (b8p org x)).size=32:=by rw [ave,ba8]
     obtain ⟨rows,ho,hpv⟩:=HPO.out
     have hrl:rows.length=(boe org xs (own.take k)).length:=by rw [ho.1];omega
     have mW:=m2.trans (hBg.mono m2.size)
     have mB:=mW.alloc mW.size (.cells #[.slice (some ⟨g,0,none⟩) 32 32] 76 (0,0))
     have ho2:=ba3 ho mB
     have hnews:∀ i u,([.slice (some ⟨g,0,none⟩) 32 32]:List Value)[i]? = some u→(wc.alloc (.cells #[.slice (some ⟨g,0,none⟩) 32 32] 76 (0,0))).cell? ((⟨wc.heap.size,0,none⟩:Addr).add i)=some u:=fun i u hu=>by
      rw [Addr.add_lit,abm (aff wc _ _ rfl),Nat.zero_add]
      rw [← hu]
      exact List.getElem?_toArray
     have hfl:(boe org xs (own.take k)).length≤1000:=by rw [bu8,List.length_take];omega
     have c1':=aa1 q1 hBg (ah1 q1)
     have c2':=aa1 q2 hBg (ah1 q2)
     generalize hF:(boe org xs (own.take k)).length=F at *
     repeat' (first | (at_builtin;refine wpList_append_own _ rfl _ _ 173 rfl (W.heap.size+2) 76 i0 zv 1 24 Tryz.underlying173 hif hz0 hz1 hz2 hzs (by decide) _ F rows rfl ho2 ⟨wc.heap.size,0,none⟩ 1 1 [.slice (some ⟨g,0,none⟩) 32 32] rfl rfl hnews (by intro u hu;simp only [List.mem_cons,List.not_mem_nil,or_false] at hu;subst hu;rfl) (by unfold maxLen;omega) (by omega) (by have:=mW.size;simp;omega) ?_;intro v' w' hown' hgrow' _) | go_skip | go_guarded | go_step | go_upon)
     have d1:=ab6 c1' (.cells #[.slice (some ⟨g,0,none⟩) 32 32] 76 (0,0))
     have d2:=ab6 c2' (.cells #[.slice (some ⟨g,0,none⟩) 32 32] 76 (0,0))
     have dg:=ab6 hg (.cells #[.slice (some ⟨g,0,none⟩) 32 32] 76 (0,0))
     have hwB:=hB.trans (mB.mono hB.size)
     rw [← hF] at hown' ho2
     refine ⟨⟨k+1,by omega,by go_num,fun j hj=>?_,?_,azl d1 hgrow' (fun e=>?_),azl d2 hgrow' (fun e=>?_),hwB.grown hgrow' hwB.size (fun q hq=>by have:=b7j ho2 hq;omega),?_⟩,by simp [intOf];omega⟩
     ·rcases Nat.lt_succ_iff_lt_or_eq.1 hj with q | rfl
      ·exact HFS.out j q
      ·rw [HOG.out,HFX.out]
       exact fun e=>by cases e
     ·rw [HTK.out,HFX.out]
      refine bmd (ms:=[b8p org x]) ho2 (fun j hj=>?_) hgrow' hown' fun j hj=>?_
      ·obtain ⟨u,e,hu⟩:=hpv j (by rw [← hF];exact hj)
       exact ⟨u,e,hu.below mB⟩
      ·have hj2:j=0:=by simp at hj;omega
       subst hj2
       exact ⟨_,rfl,_,32,_,by rw [show ([b8p org x].getD 0 [])=b8p org x from rfl,ba8],dg,by decide⟩
     ·have:=b7j ho2 e.symm;omega
     ·have:=b7j ho2 e.symm;omega
     ·have:=hgrow'.size;have:=mW.size;simp at *;omega
  ·have i1 : ¬ (k:Int) < (own.length:Int):=by omega
   have hkn:own.take k=own:=List.take_of_length_le (by omega)
   have hpo:bdy (W.heap.size+2) w1 u6 (boe org xs own):=by
    have:=HPO.out
    rw [hkn] at this
    exact this
   have hbs:(bb7 mtg org dl own).bRv xs=some (bn0 (boe org xs own)):=by
    rw [HBO.out,bmk fun o ho=>?_]
    ·rfl
    ·obtain ⟨j,hj,rfl⟩:=bof 0 ho
     exact HFS.out j (by omega)
   have HBS:=Lib.hid hbs
   have HH:=Lib.hid (brj hpo (c2c org xs own) (by rw [bu8];exact List.length_pos_iff.2 h0) (by rw [bu8];omega) (HT.out.below hB h0w) (Nat.lt_of_lt_of_le h0w hB.size))
   have r1:(as3 (bn0 (boe org xs own))).size=32:=by rw [ave,bgx]
   have r2:(as3 (bn0 (boe org xs own))).extract 0 32=as3 (bn0 (boe org xs own)):=b90 _ _ (bgx _)
   have r3:ones (as3 (bn0 (boe org xs own)))=true:=aZ1 _
   clear hpo hbs hkn
   repeat' (first | (go_at_call 126;((with_reducible refine (HH.out).mono ?_));rintro r w2 ⟨rfl,hb2⟩;have q2:=aa1 h2 hb2 (ah1 h2);have hB2:=hB.trans (hb2.mono hB.size);dsimp only) | go_skip | go_guarded | go_step | go_upon)
   refine bodyPost_ret (aq1 rfl _ _ (W.heap.size+1) 46 _ _ _ (.bool true) rfl (setRow_heap _ _ _ _ _ _ q2) Tryz.underlying46 rfl (by rw [r1];kernel_rfl) rfl) rfl ?_
   refine ⟨?_,below_setRow hB2 (by omega) _⟩
   rw [HBS.out]
theorem b97 {B:Nat} {W:World} {lv v:Value} {xs:List LN} {mtg org dl:Nat} {own:List Nat} (hr:∀ i,i < xs.length→(xs.getD i aum).ref.length=32) (hm:∀ i,i < xs.length→(xs.getD i aum).kind=9→(LN.to (xs.getD i aum) org).Ok∧(LN.enc (LN.to (xs.getD i aum) org)).length≤1048576)
  (hl:b9w B W lv xs) (hv:bbb W v own) (h0:own≠[]) (hz:own.length≤1000) (hzx:xs.length≤100000) (hT:Tab W) (h0w:0 < W.heap.size) :
  Calls Tryz.prog 97 #[.agg (ah6 mtg org dl v),lv] W fun e W'=>e=.returned (.bool ((bb7 mtg org dl own).azj xs))∧Below W.heap.size W W':=by
 have po:=b8r mtg org dl (b99 hv)
 have k1:obj (W.alloc (.cells (ah6 mtg org dl v) 144 (0,0))) W.heap.size=some (.cells (ah6 mtg org dl v) 144 (0,0)):=aff _ _ _ rfl
 have kB:Below W.heap.size W (W.alloc (.cells (ah6 mtg org dl v) 144 (0,0))):=(Below.refl _ _).alloc (Nat.le_refl _) _
 have HB:=Lib.hid (bzz (mtg:=mtg) (dl:=dl) hr hm (hl.below kB) (hv.below kB) h0 hz hzx (hT.below kB h0w) (Nat.lt_of_lt_of_le h0w kB.size))
 have HL:=Lib.hid hl
 have HR:=Lib.hid hr
 cases hb:(bb7 mtg org dl own).bRv xs with
 | none =>
  have hcm:(bb7 mtg org dl own).azj xs=false:=by unfold Go.Rv.b9c.azj;rw [hb]
  rw [hb] at HB
  rw [hcm]
  clear hb hcm hl hr hm hv hT
  go_enter Tryz.func97,Tryz.ntmps97
  repeat' (first | (go_at_call 111;((with_reducible refine (HB.out).mono ?_));rintro r w2 ⟨rfl,hb2⟩;have hB2:=kB.trans (hb2.mono kB.size);dsimp only) | go_skip | go_guarded | go_step | go_upon)
  go_ret
  exact ⟨rfl,hB2.alloc hB2.size _⟩
 | some ref =>
  have bxa:ref.length=32:=by
   have hb':((bb7 mtg org dl own).marks xs own).map bn0=some ref:=hb
   obtain ⟨ms,_,rfl⟩:=Option.map_eq_some_iff.1 hb'
   exact bgx _
  have hcm:(bb7 mtg org dl own).azj xs=xs.any fun x=>decide (x.kind=11)&&decide (x.frm=org)&&decide (x.st=1)&&decide (x.ref=ref):=by unfold Go.Rv.b9c.azj;rw [hb];rfl
  rw [hb] at HB
  rw [hcm]
  have r1:(as3 ref).size=32:=by rw [ave,bxa]
  have r2:(as3 ref).extract 0 32=as3 ref:=b90 _ _ bxa
  have r3:ones (as3 ref)=true:=aZ1 _
  have HC:Hid (∀ w2,Below (W.alloc (.cells (ah6 mtg org dl v) 144 (0,0))).heap.size (W.alloc (.cells (ah6 mtg org dl v) 144 (0,0))) w2→Calls Tryz.prog 92 #[lv,.func (.func 154) #[] #[.pointer (some ⟨W.heap.size,0,none⟩),.pointer (some ⟨w2.heap.size,0,none⟩)]] (w2.alloc (.cells (as3 ref) 46 (0,0))) fun e W'=>e=.returned (.bool (xs.any fun x=>decide (x.kind=11)&&decide (x.frm=org)&&decide (x.st=1)&&decide (x.ref=ref)))∧Below (w2.alloc (.cells (as3 ref) 46 (0,0))).heap.size (w2.alloc (.cells (as3 ref) 46 (0,0))) W'):=Lib.hid fun w2 hb2=>by
   have hB2:=kB.trans (hb2.mono kB.size)
   have p1:=ab6 (aa1 k1 hb2 (ah1 k1)) (.cells (as3 ref) 46 (0,0))
   have p2:obj (w2.alloc (.cells (as3 ref) 46 (0,0))) w2.heap.size=some (.cells (as3 ref) 46 (0,0)):=aff _ _ _ rfl
   exact cxf2 (.inr rfl) HR.out (HL.out.below (hB2.alloc hB2.size _)) (by omega) fun i hi w c hbw hc=>bzr (HR.out i hi) bxa (azh hc) (aa1 p1 hbw (ah1 p1)) (aa1 p2 hbw (ah1 p2))
  generalize (xs.any fun x=>decide (x.kind=11)&&decide (x.frm=org)&&decide (x.st=1)&&decide (x.ref=ref))=ba at *
  clear hb hcm hl hr hm hv hT
  go_enter Tryz.func97,Tryz.ntmps97
  repeat' (first | (go_at_call 111;((with_reducible refine (HB.out).mono ?_));rintro r w2 ⟨rfl,hb2⟩;have hB2:=kB.trans (hb2.mono kB.size);have HC2:=Lib.hid (HC.out w2 hb2);dsimp only) | (go_at_call 92;((with_reducible refine (HC2.out).mono ?_));rintro r w3 ⟨rfl,hb3⟩;have hB3:=(hB2.alloc hB2.size (.cells (as3 ref) 46 (0,0))).trans (hb3.mono (by have:=hB2.size;simp;omega));dsimp only) | go_skip | go_guarded | go_step | go_upon)
  go_ret
  exact ⟨rfl,hB3⟩
end Go.Proofs.YtlnlbdfokmhelaaGreatDoor
