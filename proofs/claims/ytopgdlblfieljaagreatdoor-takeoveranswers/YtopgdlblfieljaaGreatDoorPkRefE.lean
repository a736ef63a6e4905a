/-
  append of bytes from whatever source.
-/
import Derived.Test.YtopgdlblfieljaaGreatDoorPkHash
import Derived.Test.YtopgdlblfieljaaGreatDoorPkRefC
set_option linter.unusedSectionVars false
set_option linter.constructorNameAsVariable false
set_option linter.unusedVariables false
set_option linter.unusedSimpArgs false
namespace Go.Proofs.YtopgdlblfieljaaGreatDoor
open Go.RowKit
theorem a4x {w:World} {ops:Array Oper} {rest:List Oper} {o:Oper} {a:Act} {Q:Exit→Act→World→Prop} (hgd:o.guard=none) (s x:Operand)
  (ho:o.op=.call { callee:=.builtin .append,args:=#[s,x],argTypes:=#[60,60] })
  (base k:Nat) (v:Value) (xs:List Value) (hs:a.eval s=v) (hown:w.ownsRow base 5 1 v k xs)
  (ad:Addr) (m c:Nat) (news:List Value) (hx:a.eval x=.slice (some ad) m c) (hl:news.length=m) (hnews:∀ j u,news[j]? = some u→w.cell? (ad.add j)=some u) (h1:∀ u∈news,u.oneCell' = true)
  (h63:k+m≤100000000000000) (hb:base≤w.heap.size)
  (h:∀ v' w',w'.ownsRow base 5 1 v' (k+m) (xs++news)→w.grownBy w' v.ownBlock→wpList Tryz.prog ops Q rest (a.put o.dst v') w'):wpList Tryz.prog ops Q (o :: rest) a w:=by
 obtain ⟨i0,hi,hz0,hz1,hz2⟩:=aax
 exact wpList_append_own w hgd s x _ ho base _ i0 _ 1 1 Tryz.underlying60 hi hz0 hz1 hz2 rfl (by decide) v k xs hs hown ad m c news hx (by omega) hnews h1 (by unfold maxLen;omega) (by omega) hb fun v' w' q1 q2 _=>h v' w' q1 q2
end Go.Proofs.YtopgdlblfieljaaGreatDoor
namespace Go.Proofs.YtopgdlblfieljaaGreatDoor
open Go.RowKit
theorem aek {w:World} {ops:Array Oper} {rest:List Oper} {o:Oper} {a:Act} {Q:Exit→Act→World→Prop} (hgd:o.guard=none) (s x:Operand)
  (ho:o.op=.call { callee:=.builtin .append,args:=#[s,x],argTypes:=#[60,60] })
  (base k:Nat) (v:Value) (xs:List Value) (hs:a.eval s=v) (hown:w.ownsRow base 5 1 v k xs)
  (y:Value) (b:List UInt8) (hx:a.eval x=y) (hy:acd w y b) (h63:k+b.length≤100000000000000) (hb:base≤w.heap.size)
  (h:∀ v' w',w'.ownsRow base 5 1 v' (k+b.length) (xs++a0p b)→w.grownBy w' v.ownBlock→wpList Tryz.prog ops Q rest (a.put o.dst v') w'):wpList Tryz.prog ops Q (o :: rest) a w:=by
 obtain ⟨ao,n,c,rfl,rfl,hnone,hnews⟩:=hy
 cases ao with
 | some ad=>exact a4x hgd s x ho base k v xs hs hown ad b.length c (a0p b) hx (a1m b) (hnews ad rfl).2 (a81 b) h63 hb h
 | none =>
  obtain ⟨h0,rfl⟩:=hnone rfl
  obtain rfl:=List.eq_nil_of_length_eq_zero h0
  obtain ⟨i0,hi,hz0,hz1,hz2⟩:=aax
  refine wpList_plain hgd fun K hK=>?_
  have hrun:=run_append_owned_none (P:=Tryz.prog) w base 60 o.type 5 i0 1 Tryz.underlying60 hi v k xs hown
  unfold Oper.wp
  have e:a0p ([]:List UInt8) = []:=by unfold a0p;rfl
  rw [e] at h
  simp [execOp,ho,resolve,invoke,builtin,hs,hx,hrun,Result.andThen]
  exact hK _ _ (by simpa using h v w (by simpa using hown) (World.grownBy.refl _ _))
set_option maxHeartbeats 1000000 in
theorem alf (M:List UInt8) (v:Value) (hM:M.length≤1099511627776) (w:World) (hv:acd w v M):Calls Tryz.prog 108 #[v] w fun e w' => ∃ v',e=.returned v'∧w'.ownsRow w.heap.size 5 1 v' (aai M).length (a0p (aai M))∧Below w.heap.size w w':=by
 have hm0:(M.length:Int)≤1099511627776:=by omega
 have hvl : ∃ ao c',v=.slice ao M.length c':=by obtain ⟨ao,n,c',rfl,rfl,_⟩:=hv;exact ⟨_,_,rfl⟩
 have hv0:=hv.below ((Below.refl _ w).alloc (Nat.le_refl _) (.cells #[] 5 (0,0)))
 obtain ⟨ao,c',rfl⟩:=hvl
 have HV0:=Lib.hid hv0
 clear hv hv0
 have hown0:(w.alloc (.cells #[] 5 (0,0))).ownsRow w.heap.size 5 1 (.slice (some ⟨w.heap.size,0,none⟩) 0 0) 0 []:=⟨rfl,.inr ⟨w.heap.size,0,#[],rfl,Nat.le_refl _,a03 _ _ _ rfl,Nat.le_refl _,Nat.zero_le _,rfl,rfl⟩⟩
 have hB0:Below w.heap.size w (w.alloc (.cells #[] 5 (0,0))):=(Below.refl _ _).alloc (Nat.le_refl _) _
 go_enter Tryz.func108,Tryz.ntmps108
 repeat' (first | (at_builtin;refine aek (by rfl) _ _ (by rfl) w.heap.size 0 _ _ (by rfl) hown0 _ M (by rfl) HV0.out (by omega) (by simp) ?_;intro v1 w1 hown1 hgrow1;have hB1:Below w.heap.size w w1:=a9d hB0 hown0 hgrow1;rw [Nat.zero_add,List.nil_append] at hown1;clear hgrow1;obtain ⟨ao1,c1,rfl⟩:=aqr hown1;have hsz:=hB1.size) | (at_builtin;refine a4x (by rfl) _ _ (by rfl) w.heap.size M.length _ _ (by rfl) (hown1.alloc _) ⟨_,0,none⟩ 1 1 [_] (by rfl) rfl (a9w _ _ _ _ rfl) (by intro u hu;simp at hu;subst hu;rfl) (by omega) (by simp;omega) ?_;intro v' w3 hown3 hgrow3) | go_skip | go_guarded | go_step | go_upon)
 have hB3:Below w.heap.size w w3:=a9d (hB1.alloc hsz _) (hown1.alloc _) hgrow3
 obtain ⟨g,cap3,rfl,hg1,hg2⟩:=hown3.form (by omega)
 rw [show a0p M ++ [Value.int .u8 128]=a0p (anf M 0) from als M] at hown3
 clear hB1 hsz hown1 hgrow3 hown0 hB0
 go_loopw [3] (fun m wr => ∃ z:Nat,z≤a90 M.length∧∃ g cap,m=.slice (some ⟨g,0,none⟩) (M.length+1+z) cap∧wr.ownsRow w.heap.size 5 1 (.slice (some ⟨g,0,none⟩) (M.length+1+z) cap) (M.length+1+z) (a0p (anf M z))∧Below w.heap.size w wr) (fun m _=>M.length+1+a90 M.length - lenV m)
 case atStart=>exact ⟨0,Nat.zero_le _,g,cap3,rfl,hown3,hB3⟩
 case round =>
  clear hown3 hB3 hg1 hg2
  obtain ⟨z,hz,g,cap,rfl,hown,hB⟩:=hrel
  have hsz:=hB.size
  have hz64:z≤63:=Nat.le_trans hz (aoh _)
  by_cases hlt:z < a90 M.length
  ·have ht:=axs M.length z hlt
   repeat' (first | (at_builtin;refine a4x (by rfl) _ _ (by rfl) w.heap.size (M.length+1+z) _ _ (by rfl) (hown.alloc _) ⟨_,0,none⟩ 1 1 [_] (by rfl) rfl (a9w _ _ _ _ rfl) (by intro u hu;simp at hu;subst hu;rfl) (by omega) (by simp;omega) ?_;intro v' w3 hown3 hgrow3) | go_skip | go_guarded | go_step | go_upon)
   obtain ⟨g',cap',rfl,_,_⟩:=hown3.form (by omega)
   rw [show a0p (anf M z) ++ [Value.int .u8 0]=a0p (anf M (z+1)) from alu M z] at hown3
   refine ⟨⟨z+1,by omega,g',cap',rfl,hown3,a9d (hB.alloc hsz _) (hown.alloc _) hgrow3⟩,?_⟩
   simp only [a9z];omega
  ·obtain rfl:z=a90 M.length:=by omega
   have ht:=axt M.length
   rw [← alv] at hown
   repeat' (first | go_skip | go_guarded | go_step | go_upon)
   go_loopw [3,5] (fun m t wr => ∃ i:Nat,i≤8∧t=.int .i64 (7 - (i:Int))∧∃ g cap,m=.slice (some ⟨g,0,none⟩) (M.length+1+a90 M.length+i) cap∧wr.ownsRow w.heap.size 5 1 (.slice (some ⟨g,0,none⟩) (M.length+1+a90 M.length+i) cap) (M.length+1+a90 M.length+i) (a0p (aBj M i))∧Below w.heap.size w wr) (fun _ t _=>(intOf t+1).toNat)
   case atStart=>exact ⟨0,by omega,rfl,g,cap,rfl,hown,hB⟩
   case round =>
    clear hown hB hsz ht
    obtain ⟨i,hi,rfl,g,cap,rfl,hown,hB⟩:=hrel
    have hsz:=hB.size
    by_cases hlt:i < 8
    ·have HV:=Lib.hid (show 8 * (M.length:Int) / 2 ^ (56 - 8 * i) % 256=(((UInt8.ofNat ((8 * M.length) >>> (56 - 8 * i))).toNat:Nat):Int) from aMl (8 * M.length) i hlt)
     have p0:(0:Int)≤8 * (7 - (i:Int)):=by omega
     have p1:8 * (7 - (i:Int))≤64:=by omega
     have n0:(8 * (7 - (i:Int))).toNat=56 - 8 * i:=by omega
     repeat' (first | (at_builtin;refine a4x (by rfl) _ _ (by rfl) w.heap.size (M.length+1+a90 M.length+i) _ _ (by rfl) (hown.alloc _) ⟨_,0,none⟩ 1 1 [_] (by rfl) rfl (a9w _ _ _ _ rfl) (by intro u hu;simp at hu;subst hu;rfl) (by omega) (by simp;omega) ?_;intro v' w3 hown3 hgrow3) | go_skip | go_guarded | go_step | go_upon)
     obtain ⟨g',cap',rfl,_,_⟩:=hown3.form (by omega)
     rw [HV.out,alx M i hlt] at hown3
     refine ⟨⟨i+1,by omega,by congr 1;omega,g',cap',rfl,hown3,a9d (hB.alloc hsz _) (hown.alloc _) hgrow3⟩,?_⟩
     simp [intOf];omega
    ·obtain rfl:i=8:=by omega
     rw [ar4] at hown
     have hpl:=a8g M
     repeat' (first | go_skip | go_guarded | go_step | go_upon)
     go_ret
     refine ⟨_,rfl,?_,hB⟩
     rw [hpl];exact hown
end Go.Proofs.YtopgdlblfieljaaGreatDoor
namespace Go.Proofs.YtopgdlblfieljaaGreatDoor
open Go.RowKit
theorem av3 (p:List UInt8) (q:Nat):agk agj (a6d p (q+1))=Sha.comp (agk agj (a6d p q)) fun j=>((adw p q).getD j 0).toNat:=by rw [← aa3,aeu]
set_option maxHeartbeats 1000000 in
theorem ahd (M:List UInt8) (v:Value) (hM:M.length≤1099511627776) (w:World) (hv:acd w v M):Calls Tryz.prog 79 #[v] w fun e w'=>e=.returned (.agg (a0i (a3t M)))∧Below w.heap.size w w':=by
 have HV0:=Lib.hid hv
 clear hv
 go_enter Tryz.func79,Tryz.ntmps79
 have hB0:Below w.heap.size w ((w.alloc (.cells z46 46 (0,0))).alloc (.cells aqd 160 (0,0))):=((Below.refl _ _).alloc (Nat.le_refl _) _).alloc (by simp) _
 have HV1:=Lib.hid (HV0.out.below hB0)
 have hS0:obj ((w.alloc (.cells z46 46 (0,0))).alloc (.cells aqd 160 (0,0))) (w.heap.size+1)=some (.cells aqd 160 (0,0)):=a03 _ _ _ (by simp)
 have hZ0:obj ((w.alloc (.cells z46 46 (0,0))).alloc (.cells aqd 160 (0,0))) w.heap.size=some (.cells z46 46 (0,0)):=a02 (a03 _ _ _ rfl) _
 repeat' (first | (go_at_call 108;refine (alf M v hM _ HV1.out).mono ?_;rintro r w4 ⟨p,rfl,hown,hb4⟩;dsimp only) | go_skip | go_guarded | go_step | go_upon)
 obtain ⟨T,hT⟩ : ∃ T,M.length+1+a90 M.length+8=64 * T:=⟨(M.length+1+a90 M.length+8) / 64,by have:=aqp M.length;omega⟩
 have hpl:(aai M).length=64 * T:=(a8g M).trans hT
 have hT2:(aai M).length / 64=T:=by omega
 have hTb:(T:Int)≤100000000000:=by have:=aoh M.length;omega
 rw [hpl] at hown
 obtain ⟨g,cap,rfl,hg1,hg2⟩:=hown.form (by omega)
 obtain ⟨hbg,hcap,cur,TT,fr,hblk,aS4⟩:=aqs hown
 have hS4:obj w4 (w.heap.size+1)=some (.cells (agk agj (a6d (aai M) 0)).row 160 (0,0)):=by
  have:=a00 hS0 hb4 (a04 hS0)
  rwa [aqe] at this
 have hZ4:obj w4 w.heap.size=some (.cells z46 46 (0,0)):=a00 hZ0 hb4 (a04 hZ0)
 have hB4:Below w.heap.size w w4:=hB0.trans (hb4.mono hB0.size)
 have hgs:w.heap.size+2≤g:=by simpa using hbg
 clear hown hS0 hZ0 hb4 hB0 HV1 HV0 hbg
 go_loopw [5] (fun i wr => ∃ q:Nat,q≤T∧i=.int .i64 (64 * (q:Int))∧obj wr (w.heap.size+1)=some (.cells (agk agj (a6d (aai M) q)).row 160 (0,0))∧wr.heap[g]? = some (.cells cur TT fr)∧obj wr w.heap.size=some (.cells z46 46 (0,0))∧Below w.heap.size w wr) (fun i _=>(64 * T - intOf i).toNat)
 case atStart=>exact ⟨0,by omega,rfl,hS4,hblk,hZ4,hB4⟩
 case round =>
  clear hS4 hblk hZ4 hB4
  obtain ⟨q,hq,rfl,hS,hblk,hZ,hB⟩:=hrel
  by_cases hlt:q < T
  ·have hok:=aev agj aip (a6d (aai M) q)
   obtain ⟨f,hf⟩ : ∃ f:Nat→Nat,f=fun j=>((adw (aai M) q).getD j 0).toNat:=⟨_,rfl⟩
   have b3x:∀ j,f j < 256:=fun j=>by rw [hf];exact UInt8.toNat_lt _
   have HS:=Lib.hid ((av3 (aai M) q).trans (by rw [← hf]))
   have c1:(64:Int) * (q:Int)+64≤(cap:Int):=by omega
   have c2:(64:Int) * (q:Int)+64≤64 * (T:Int):=by omega
   have c3:(64:Int) * (q:Int) < (cap:Int):=by omega
   have c4:(64:Int) * (q:Int)≠(cap:Int):=by omega
   have c5:(64 * (q:Int)).toNat=64 * q:=by omega
   have c6:(64 * (q:Int)+64).toNat=64 * q+64:=by omega
   have c7:64 * q≠cap:=by omega
   have c8:64 * q < cap:=by omega
   have c9:(0:Int)≤64 * (q:Int):=by omega
   have d1:IntKind.i64.wrap (64 * (q:Int)+64)=64 * (q:Int)+64:=by rw [IntKind.wrap_i64];omega
   have d2:max (64 * (q:Int)+64) 0=64 * (q:Int)+64:=by omega
   have d3:(0:Int)≤64 * (q:Int)+64:=by omega
   have d4:(64:Int) * (q:Int)≤64 * (q:Int)+64:=by omega
   have d5:cap≠64 * q:=by omega
   have d6:64 * q+64 - 64 * q=64:=by omega
   have hgl:g < wr.heap.size:=(Array.getElem?_eq_some_iff.1 hblk).1
   have hgd:g < wr.drew.heap.size:=hgl
   have HC:=Lib.hid (show ∀ j,j < 64→wr.drew.cell? ⟨g,64 * q+j,none⟩=some (B8 (f j)) from fun j hj=>by
    rw [hf];dsimp only;rw [cell_of_row wr.drew g _ cur TT fr hblk,aS4 _ (by omega),ak1 (aai M) q j hj])
   have hS':obj wr.drew (w.heap.size+1)=some (.cells (agk agj (a6d (aai M) q)).row 160 (0,0)):=hS
   have hl1:=a04 hS
   have hZ':=Lib.hid hZ
   clear hZ
   clear hf
   generalize agk agj (a6d (aai M) q)=st at *
   repeat' (first | go_skip | go_guarded | go_step | go_upon)
   go_region_law (first | ((go_simp;go_at_call 109;((with_reducible refine (at6 st hok g (64 * q) _ f b3x _ HC.out hgd).mono ?_));rintro e w6 ⟨rfl,hb6⟩;have q1:obj w6 (w.heap.size+1)=some (.cells st.row 160 (0,0)):=a00 hS' hb6 hl1;have q2:w6.heap[g]? = some (.cells cur TT fr):=(hb6.block g hgl).trans hblk;have qZ:=Lib.hid (a00 (a3g hZ'.out) hb6 (a04 hZ'.out));have qB:Below w.heap.size w w6:=hB.drew.trans (hb6.mono hB.size);dsimp only)))
   all_goals (repeat' go_step)
   refine ⟨⟨q+1,by omega,by congr 1<;>omega,?_,?_,a2q qZ.out (by omega) _,below_setRow qB (by omega) _⟩,by simp [intOf];omega⟩
   ·rw [a0b,q1,HS.out];try rfl
   ·exact (setRow_other _ _ _ _ (by omega)).trans q2
  ·have hqT:q=T:=by omega
   have hok:(awz M).ok:=aev _ aip _
   have h1':obj wr (w.heap.size+1)=some (.cells (awz M).row 160 (0,0)):=by rw [hS];unfold awz;rw [hT2,hqT]
   have hE:=Lib.hid (show a3t M=adu (awz M) from rfl)
   have n1 : ¬ (64:Int) * (q:Int) < 64 * (T:Int):=by omega
   clear hS hblk
   generalize awz M=s at *
   repeat' (first | go_skip | go_guarded | go_step | go_upon)
   rw [show (#[.int .u8 0,.int .u8 0,.int .u8 0,.int .u8 0,.int .u8 0,.int .u8 0,.int .u8 0,.int .u8 0,.int .u8 0,.int .u8 0,.int .u8 0,.int .u8 0,.int .u8 0,.int .u8 0,.int .u8 0,.int .u8 0,.int .u8 0,.int .u8 0,.int .u8 0,.int .u8 0,.int .u8 0,.int .u8 0,.int .u8 0,.int .u8 0,.int .u8 0,.int .u8 0,.int .u8 0,.int .u8 0,.int .u8 0,.int .u8 0,.int .u8 0,.int .u8 0]:Array Value)=z46 from by unfold z46;rfl]
   have g1:obj (wr.alloc (.cells z46 46 (0,0))) (w.heap.size+1)=some (.cells s.row 160 (0,0)):=a02 h1' _
   have g2:obj (wr.alloc (.cells z46 46 (0,0))) w.heap.size=some (.cells z46 46 (0,0)):=a02 hZ _
   have g3:Below w.heap.size w (wr.alloc (.cells z46 46 (0,0))):=hB.alloc hB.size _
   have g4:obj (wr.alloc (.cells z46 46 (0,0))) wr.heap.size=some (.cells (a0i (dgK s 0)) 46 (0,0)):=by rw [← as1];exact a03 _ _ _ rfl
   have hml:=a04 h1'
   generalize wr.alloc (.cells z46 46 (0,0))=W3 at *
   generalize wr.heap.size=M3 at *
   clear h1' hZ hB
   go_loopw [7] (fun i wr => ∃ k:Nat,k≤32∧i=.int .i64 k∧obj wr M3=some (.cells (a0i (dgK s k)) 46 (0,0))∧obj wr (w.heap.size+1)=some (.cells s.row 160 (0,0))∧obj wr w.heap.size=some (.cells z46 46 (0,0))∧Below w.heap.size w wr)
    (fun i _=>(32 - intOf i).toNat)
   case atStart=>exact ⟨0,by omega,rfl,g4,g1,g2,g3⟩
   case round =>
    clear g1 g2 g3 g4
    obtain ⟨k,hk,rfl,h2,h1,h0,hB⟩:=hrel
    by_cases hlt2:k < 32
    ·have c1:=(a01 h1 (k / 4)).trans (ash s (k / 4) (by omega))
     have f0:=a0t h2 k
     have c2:wr.cell? ⟨M3,k,none⟩=some (B8 ((dgK s k).getD k 0).toNat):=(a01 h2 k).trans (a5f _ _ (by rw [ai5 _ _ hk];exact hlt2))
     have HS:=Lib.hid (aA7 s k hlt2)
     have HV:=Lib.hid (aMg (s.get (k / 4)) (24 - 8 * (k % 4)))
     repeat' (first | go_skip | go_guarded | go_step | go_upon)
     trace_state
     go_roundw
     case rel =>
      refine ⟨k+1,by omega,by go_num,?_,a1c h1 _ (by simp;omega) _,a1c h0 _ (by simp;omega) _,hB.setCell (by simp;omega) _⟩
      rw [a0l,h2,HV.out,← HS.out,← aa4];rfl
     case measure=>simp [intOf];omega
    ·have h2':obj wr M3=some (.cells (a0i (a3t M)) 46 (0,0)):=by rw [h2,show k=32 by omega,as2,hE.out]
     have r1:(a0i (a3t M)).size=32:=by rw [a0o,a13]
     have r2:(a0i (a3t M)).extract 0 32=a0i (a3t M):=a2v _ _ (a13 _)
     have r3:ones (a0i (a3t M))=true:=a1t _
     clear h2 hE
     generalize hR:a0i (a3t M)=R at *
     have HR:=Lib.hid hR
     clear hR
     repeat' (first | go_skip | go_guarded | go_step | go_upon)
     refine bodyPost_ret (results_cell_row rfl _ _ w.heap.size 46 R _ _ rfl (setRow_heap _ _ _ _ _ _ h0) Tryz.underlying46 rfl (by rw [r1];kernel_rfl)) rfl ?_
     exact ⟨by rw [← HR.out],below_setRow hB (Nat.le_refl _) _⟩
end Go.Proofs.YtopgdlblfieljaaGreatDoor
