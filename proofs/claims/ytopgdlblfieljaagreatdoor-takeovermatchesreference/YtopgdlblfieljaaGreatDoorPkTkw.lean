/-
  The reference's Verdict.
-/
import Derived.Test.YtopgdlblfieljaaGreatDoorPkTkv
set_option linter.unusedSectionVars false
set_option linter.constructorNameAsVariable false
set_option linter.unusedVariables false
set_option linter.unusedSimpArgs false
namespace Go.Proofs.YtopgdlblfieljaaGreatDoor
open Go.RowKit Go.CE.V
set_option maxRecDepth 20000
set_option maxHeartbeats 8000000
theorem info_int : ∃ i,Tryz.prog.info? 3=some i∧i.zero=some (.int .i64 0)∧i.size=1∧i.bytes=8 :=
 info_parts (show (Tryz.prog.info? 3).map (fun i=>(i.zero,i.size,i.bytes))=some (some (.int .i64 0),1,8) by kernel_rfl)
theorem wpList_append_i {w:World} {ops:Array Oper} {rest:List Oper} {o:Oper} {a:Act} {Q:Exit→Act→World→Prop} (hgd:o.guard=none) (s x:Operand)
  (ho:o.op=.call { callee:=.builtin .append,args:=#[s,x],argTypes:=#[25,25] })
  (base k:Nat) (v:Value) (xs:List Value) (hs:a.eval s=v) (hown:w.ownsRow base 3 1 v k xs)
  (ad:Addr) (m c:Nat) (news:List Value) (hx:a.eval x=.slice (some ad) m c) (hl:news.length=m) (hnews:∀ j u,news[j]? = some u→w.cell? (ad.add j)=some u) (h1:∀ u∈news,u.oneCell' = true)
  (h63:k+m≤1000000000000) (hb:base≤w.heap.size)
  (h:∀ v' w',w'.ownsRow base 3 1 v' (k+m) (xs++news)→w.grownBy w' v.ownBlock→wpList Tryz.prog ops Q rest (a.put o.dst v') w'):wpList Tryz.prog ops Q (o :: rest) a w:=by
 obtain ⟨i0,hi,hz0,hz1,hz2⟩:=info_int
 exact wpList_append_own w hgd s x _ ho base _ i0 _ 1 8 Tryz.underlying25 hi hz0 hz1 hz2 rfl (by decide) v k xs hs hown ad m c news hx (by omega) hnews h1 (by unfold maxLen;omega) (by omega) hb fun v' w' q1 q2 _=>h v' w' q1 q2
theorem one_newsI (W:World) (x:Value) (T:TypeId):∀ j u,[x][j]? = some u→(W.alloc (.cells #[x] T (0,0))).cell? ((⟨W.heap.size,0,none⟩:Addr).add j)=some u:=fun j u hu=>by
 have hj:j=0:=by
  have:=(List.getElem?_eq_some_iff.1 hu).1
  simpa using this
 subst hj
 cases hu
 exact a01 (a03 _ _ _ rfl) 0
theorem owns_upI {W w w':World} {v:Value} {k:Nat} {T:TypeId} {xs:List Value} (hB:Below W.heap.size W w) (hown:w.ownsRow W.heap.size T 1 v k xs) (hg:w.grownBy w' v.ownBlock):Below W.heap.size W w':=hB.grown hg hB.size fun g hk=>by
 rcases hown.2 with ⟨rfl,_⟩ | ⟨g',cap,cur,rfl,h1,_⟩
 ·cases hk
 ·cases hk;exact h1
def iCells (l:List Int):List Value:=l.map fun x=>.int .i64 x
theorem iCells_length (l:List Int):(iCells l).length=l.length:=by simp [iCells]
theorem hasI_owns {w:World} {base:Nat} {v:Value} {n:Nat} {l:List Int} (h:w.ownsRow base 3 1 v n (iCells l)):aRi w v l:=by
 have hn:n=l.length:=by have:=h.1;rw [iCells_length] at this;omega
 subst hn
 rcases h.2 with ⟨rfl,h0⟩ | ⟨g,c,cur,rfl,h1,h2,h3,h4,h5,h6⟩
 ·obtain rfl:=List.eq_nil_of_length_eq_zero h0
  exact aRi.nil w
 ·refine ⟨some ⟨g,0,none⟩,c,rfl,(fun h=>by cases h),fun g' off x hx=>?_⟩
  cases hx
  refine ⟨rfl,h3,(Array.getElem?_eq_some_iff.1 h2).1,fun j hj=>?_⟩
  have hc:(iCells l)[j]? = some (.int .i64 (l.getD j 0)):=by
   unfold iCells
   rw [List.getElem?_map,List.getD_eq_getElem?_getD,List.getElem?_eq_getElem hj]
   rfl
  rw [← h6,List.getElem?_take] at hc
  split at hc
  ·rw [Nat.zero_add]
   exact (a01 (show obj w g=some (.cells cur 3 (0,0)) from h2) j).trans (by simpa using hc)
  ·cases hc
theorem cell_ext {W:World} {b a z:Nat} {row XR:Array Value} {T:TypeId} {fr:Nat×Nat} (h:obj W b=some (.cells row T fr)) (hx:row.extract a (a+z)=XR) {j:Nat} (hj:j < z):W.cell? ⟨b,a+j,none⟩=XR[j]? := by
 rw [a01 h,← hx,Array.getElem?_extract]
 by_cases h2:a+j < row.size
 ·rw [if_pos (by omega)]
 ·rw [if_neg (by omega),Array.getElem?_eq_none (by omega)]
theorem owns_slice2 {w:World} {base T z:Nat} {v:Value} {n:Nat} {xs:List Value} (h:w.ownsRow base T z v n xs) : ∃ a c,v=.slice a n c:=by
 rcases h.2 with ⟨q,rfl⟩ | ⟨g,c,cur,q,_⟩
 ·exact ⟨_,_,q⟩
 ·exact ⟨_,_,q⟩
theorem owns_ge2 {w:World} {base T z:Nat} {v:Value} {n:Nat} {xs:List Value} (h:w.ownsRow base T z v n xs) {g:Nat} (hg:v.ownBlock=some g):base≤g:=by
 rcases h.2 with ⟨rfl,_⟩ | ⟨q,c,cur,rfl,h1,_⟩
 ·cases hg
 ·cases hg
  exact h1
theorem owns_emp {W:World} {base T z g:Nat} (hb:base≤W.heap.size) (hg:g=W.heap.size):(W.alloc (.cells #[] T)).ownsRow base T z (.slice (some ⟨g,0,none⟩) 0 0) 0 []:=by
 subst hg
 exact ⟨by simp,.inr ⟨W.heap.size,0,#[],rfl,hb,a03 _ _ _ rfl,Nat.le_refl _,by decide,by simp,by simp⟩⟩
theorem tkT_s3 {l:List Nat} {me:Nat} {xs:List LN} {k:Nat} (h:(tkT l me xs k).s3=true):(tkT l me xs xs.length).s3=true:=by
 have e:tkT l me xs xs.length=Tk.tally (tkT l me xs k) ((xs.drop k).map (sayOf l me)):=by
  unfold tkT
  rw [← Tk.tally_append,← List.map_append,List.take_append_drop,List.take_length]
 rw [e]
 exact Tk.s3_tally _ _ h
theorem heard_le (l:List Nat) (me:Nat) (xs:List LN):∀ k,k≤xs.length→(tkT l me xs k).heard.length≤k:=by
 intro k
 induction k with
 | zero=>intro _;exact Nat.le_refl _
 | succ k ih =>
  intro hk
  have:=ih (by omega)
  rw [tkT_succ l me xs k (by omega)]
  by_cases h:ansB l me (xs.getD k a0c)
  ·rw [sayOf_yes h]
   show (Tk.hear _ _).length≤_
   unfold Tk.hear
   split
   ·omega
   ·simp;omega
  ·rw [sayOf_no h]
   omega
theorem rverd5_calls {l:List Nat} (hl:l∈tLs) {me:Nat} (hm:me∈l) {W:World} {ov v:Value} {xs:List LN} (hn:xs.length≤8) (hx:∀ i,i < xs.length→LetB (xs.getD i a0c)) (hT:ase W) (hv:a0h 0 W ov l) (hL:LetsT W v ov xs) :
  Calls Tryz.prog 15 #[.agg (ownRow me 4 0 90 5 ov (.slice none 0 0)),v] W fun e W'=>e=.returned (.int .i64 ((tkT l me xs xs.length).out (l.length - 1)))∧Below W.heap.size W W':=by
 obtain ⟨cv,⟨a,c,rfl,hrow⟩,hcv⟩:=hL
 have aBe:=Lib.hid hrow
 have HCV:=Lib.hid hcv
 have HX:=Lib.hid hx
 have HT:=Lib.hid hT
 have HV:=Lib.hid hv
 have hl1:2≤l.length∧l.length≤4:=(by decide:∀ l∈tLs,2≤l.length∧l.length≤4) l hl
 obtain ⟨cb,co,cc,crow,hov,_⟩:=as9 hv (tLs_ne hl)
 subst hov
 clear hrow hcv hx hT hv
 have po:=a1y me 4 0 90 5 (a0v HV.out) (show (Value.slice none 0 0).oneCell' = true from rfl)
 have b2:obj (W.alloc (.cells (ownRow me 4 0 90 5 (.slice (some ⟨cb,co,none⟩) l.length cc) (.slice none 0 0)) 28 (0,0))) W.heap.size=some (.cells (ownRow me 4 0 90 5 (.slice (some ⟨cb,co,none⟩) l.length cc) (.slice none 0 0)) 28 (0,0)):=a03 _ _ _ rfl
 have w1B:Below W.heap.size W (W.alloc (.cells (ownRow me 4 0 90 5 (.slice (some ⟨cb,co,none⟩) l.length cc) (.slice none 0 0)) 28 (0,0))):=(Below.refl _ _).alloc (Nat.le_refl _) _
 have HVC:=Lib.hid (rvalid30_calls hl hm (show 5∈phs from by decide) (HV.out.below w1B))
 go_enter Tryz.func15,Tryz.ntmps15
 repeat' (first | (go_at_call 28;((with_reducible refine (HVC.out).mono ?_));rintro e w2 ⟨rfl,hb2⟩;have b22:=a1w b2 hb2;have c42:=(a01 b22 4).trans (a4v _ _ _ _ _ _ _);have w2B:=w1B.trans (hb2.mono w1B.size);dsimp only) | go_skip | go_guarded | go_step | go_upon)
 clear b2 w1B HVC hb2 c42
 go_loopw [5,6,7] (fun s5 s6 i wr => ∃ k:Nat,k≤xs.length∧i=.int .i64 k∧(tkT l me xs k).s3=false∧s5=.bool (tkT l me xs k).s4∧obj wr W.heap.size=some (.cells (ownRow me 4 0 90 5 (.slice (some ⟨cb,co,none⟩) l.length cc) (.slice none 0 0)) 28 (0,0))∧Below W.heap.size W wr∧wr.ownsRow (W.heap.size+1) 3 1 s6 (tkT l me xs k).heard.length (iCells (tkT l me xs k).heard)) (fun _ _ i _=>(xs.length - intOf i).toNat)
 case atStart=>exact ⟨0,by omega,rfl,rfl,rfl,a02 b22 _,w2B.alloc w2B.size _,owns_emp (a04 b22) rfl⟩
 case round =>
  clear b22 w2B
  obtain ⟨k,hk,rfl,hs3,rfl,b2,hB,own⟩:=hrel
  have lb2:=a04 b2
  have hhl:=heard_le l me xs k hk
  by_cases hlt:k < xs.length
  ·have i1:(k:Int) < (xs.length:Int):=by omega
   obtain ⟨b,o,row,rfl,hb1,hb2⟩:=aBe.out (by omega)
   obtain ⟨z0,k2⟩:=hb2 k hlt
   have z1:(o+k * 62+62≤row.size)=True:=eq_true z0
   have hbw:=a00 hb1 hB (a04 hb1)
   have lbw:=a04 hbw
   obtain ⟨hsz,hf5,hst⟩:=HX.out k hlt
   obtain ⟨hcl,hap⟩:=HCV.out k hlt
   dsimp only at k2
   clear hb2 z0 hb1
   have htk:=Lib.hid (tkT_succ l me xs k hlt)
   generalize hxk:xs.getD k a0c=x at *
   clear hxk
   generalize cv k=vx at *
   have HS3:=Lib.hid (fun (h:(tkT l me xs (k+1)).s3=true)=>tkT_s3 h)
   generalize tkT l me xs k=T at *
   have lz:=a0e (LN.let x vx) hsz.ref
   have la:=a15 (LN.let x vx) hsz.ref
   have lo:=a0y (LN.let x vx) (a0v hcl)
   have HCF:=Lib.hid (show (LN.let x vx).row[1]? = some (.int .i64 x.frm) by rw [CE.V.a1i];rfl)
   have HCS0:=Lib.hid (show (LN.let x vx).row[25]? = some (.int .i64 x.st) by rw [CE.V.a1i];rfl)
   generalize hxr:(LN.let x vx).row=XR at *
   have HXR:=Lib.hid hxr
   clear hxr
   by_cases ha:ansB l me x
   ·have HY:=Lib.hid ha
    have HY2:=Lib.hid (sayOf_yes ha T)
    rcases ha.1 with h3 | h4 | h5
    ·have HST:=Lib.hid h3
     have HCS:=Lib.hid (show XR[25]? = some (.int .i64 3) by have:=HCS0.out;rw [h3] at this;exact this)
     have HH3:=Lib.hid (show (tkT l me xs xs.length).out (l.length - 1)=1 by
      have:(tkT l me xs xs.length).s3=true:=HS3.out (by rw [htk.out,HY2.out];simp [h3])
      unfold Tk.Tally.out
      rw [this];rfl)
     clear ha h3 HCS0
     repeat' (first | go_skip | go_guarded | go_step | go_upon)
     refine agn 7 [([],fun v _=>v=.agg (ownRow me 4 0 90 5 (.slice (some ⟨cb,co,none⟩) l.length cc) (.slice none 0 0))),
       ([],fun v _=>v=.slice (some ⟨b,o,none⟩) xs.length c),
       ([],fun v _=>v=.int .i64 (k:Nat)),
       ([1,2],fun v _=>v=.pointer (some ⟨b,o+k * 62,none⟩)),
       ([3],fun v _=>v=.agg XR),
       ([0,4],fun v _=>v=.bool true),
       ([5],fun v _=>v=.bool false)] (by kernel_rfl) (by kernel_rfl) ?st ⟨?o0,?o1,?o2,?o3,?o4,?o5,?o6,trivial⟩ ?tl
     case st =>
      intro k v W1 W2 h hb
      rcases k with _ | _ | _ | _ | _ | _ | _ | k
      ·exact h
      ·exact h
      ·exact h
      ·exact h
      ·exact h
      ·exact h
      ·exact h
      ·trivial
     case o0 =>
      intro vs Wq hW hk
      clear hk
      dsimp only [a9l,List.take]
      simp only [Act.put,List.setIfInBounds_toArray,List.set_cons_succ,List.set_cons_zero]
      have b2W:=a00 b2 hW lb2
      repeat' (first | go_skip | go_guarded | go_step | go_upon)
      exact a5s (.agg (ownRow me 4 0 90 5 (.slice (some ⟨cb,co,none⟩) l.length cc) (.slice none 0 0))) rfl (by go_simp) (Below.refl _ _) rfl
     case o1 =>
      intro vs Wq hW hk
      clear hk
      dsimp only [a9l,List.take]
      simp only [Act.put,List.setIfInBounds_toArray,List.set_cons_succ,List.set_cons_zero]
      repeat' (first | go_skip | go_guarded | go_step | go_upon)
      exact a5s (.slice (some ⟨b,o,none⟩) xs.length c) rfl (by go_simp) (Below.refl _ _) rfl
     case o2 =>
      intro vs Wq hW hk
      clear hk
      dsimp only [a9l,List.take]
      simp only [Act.put,List.setIfInBounds_toArray,List.set_cons_succ,List.set_cons_zero]
      repeat' (first | go_skip | go_guarded | go_step | go_upon)
      exact a5s (.int .i64 (k:Nat)) rfl (by go_simp) (Below.refl _ _) rfl
     case o3 =>
      intro vs Wq hW hk
      have g1:vs 1=.slice (some ⟨b,o,none⟩) xs.length c:=hk.1
      have g2:vs 2=.int .i64 (k:Nat):=hk.2.1
      clear hk
      dsimp only [a9l,List.take]
      simp only [Act.put,List.setIfInBounds_toArray,List.set_cons_succ,List.set_cons_zero]
      rw [g1,g2]
      repeat' (first | go_skip | go_guarded | go_step | go_upon)
      exact a5s (.pointer (some ⟨b,o+k * 62,none⟩)) rfl (by go_simp) (Below.refl _ _) rfl
     case o4 =>
      intro vs Wq hW hk
      have g3:vs 3=.pointer (some ⟨b,o+k * 62,none⟩):=hk.1
      clear hk
      dsimp only [a9l,List.take]
      simp only [Act.put,List.setIfInBounds_toArray,List.set_cons_succ,List.set_cons_zero]
      rw [g3]
      have bbW:=a00 hbw hW lbw
      repeat' (first | go_skip | go_guarded | go_step | go_upon)
      exact a5s (.agg XR) rfl (by go_simp) (Below.refl _ _) rfl
     case o5 =>
      intro vs Wq hW hk
      have g0:vs 0=.agg (ownRow me 4 0 90 5 (.slice (some ⟨cb,co,none⟩) l.length cc) (.slice none 0 0)):=hk.1
      have g4:vs 4=.agg XR:=hk.2.1
      clear hk
      dsimp only [a9l,List.take]
      simp only [Act.put,List.setIfInBounds_toArray,List.set_cons_succ,List.set_cons_zero]
      rw [g0,g4]
      have HA:=Lib.hid (rans_calls hl hm (show 5∈phs from by decide) hsz hf5 ((HT.out.below hB).below hW) ((HV.out.below hB).below hW) ((hcl.below hB).below hW) hap)
      rw [HXR.out] at HA
      repeat' (first | (go_at_call 41;((with_reducible refine (HA.out).mono ?_));rintro e w5 ⟨hy,hn,hb5⟩;have hy2:=hy HY.out;clear hy hn;subst hy2;dsimp only) | go_skip | go_guarded | go_step | go_upon)
      exact a5s (.bool true) rfl (by go_simp) hb5 rfl
     case o6 =>
      intro vs Wq hW hk
      have g5:vs 5=.bool true:=hk.1
      clear hk
      dsimp only [a9l,List.take]
      simp only [Act.put,List.setIfInBounds_toArray,List.set_cons_succ,List.set_cons_zero]
      rw [g5]
      repeat' (first | go_skip | go_guarded | go_step | go_upon)
      exact a5s (.bool false) rfl (by go_simp) (Below.refl _ _) rfl
     case tl =>
      intro vs W2 hW2 hk2
      have h6:vs 6=.bool false:=hk2 6 (by decide)
      clear hk2
      dsimp only [a9l,List.take,List.drop]
      simp only [Act.put,List.setIfInBounds_toArray,List.set_cons_succ,List.set_cons_zero]
      rw [h6]
      generalize vs 0=w0,vs 1=w1,vs 2=w2,vs 3=w3,vs 4=w4,vs 5=w5
      have hB2:=hB.trans (hW2.mono hB.size)
      have b22:=a00 b2 hW2 lb2
      have own2:=a4i own hW2
      have bb2:=a00 hbw hW2 lbw
      have cS:=(cell_ext bb2 k2 (show 25 < 62 by omega)).trans HCS.out
      have cF:=(cell_ext bb2 k2 (show 1 < 62 by omega)).trans HCF.out
      repeat' (first | go_skip | go_guarded | go_step | go_upon)
      go_ret
      exact ⟨by rw [HH3.out];rfl,hB2⟩
    ·have HST:=Lib.hid h4
     have HCS:=Lib.hid (show XR[25]? = some (.int .i64 4) by have:=HCS0.out;rw [h4] at this;exact this)
     clear ha h4 HCS0
     repeat' (first | go_skip | go_guarded | go_step | go_upon)
     refine agn 7 [([],fun v _=>v=.agg (ownRow me 4 0 90 5 (.slice (some ⟨cb,co,none⟩) l.length cc) (.slice none 0 0))),
       ([],fun v _=>v=.slice (some ⟨b,o,none⟩) xs.length c),
       ([],fun v _=>v=.int .i64 (k:Nat)),
       ([1,2],fun v _=>v=.pointer (some ⟨b,o+k * 62,none⟩)),
       ([3],fun v _=>v=.agg XR),
       ([0,4],fun v _=>v=.bool true),
       ([5],fun v _=>v=.bool false)] (by kernel_rfl) (by kernel_rfl) ?st ⟨?o0,?o1,?o2,?o3,?o4,?o5,?o6,trivial⟩ ?tl
     case st =>
      intro k v W1 W2 h hb
      rcases k with _ | _ | _ | _ | _ | _ | _ | k
      ·exact h
      ·exact h
      ·exact h
      ·exact h
      ·exact h
      ·exact h
      ·exact h
      ·trivial
     case o0 =>
      intro vs Wq hW hk
      clear hk
      dsimp only [a9l,List.take]
      simp only [Act.put,List.setIfInBounds_toArray,List.set_cons_succ,List.set_cons_zero]
      have b2W:=a00 b2 hW lb2
      repeat' (first | go_skip | go_guarded | go_step | go_upon)
      exact a5s (.agg (ownRow me 4 0 90 5 (.slice (some ⟨cb,co,none⟩) l.length cc) (.slice none 0 0))) rfl (by go_simp) (Below.refl _ _) rfl
     case o1 =>
      intro vs Wq hW hk
      clear hk
      dsimp only [a9l,List.take]
      simp only [Act.put,List.setIfInBounds_toArray,List.set_cons_succ,List.set_cons_zero]
      repeat' (first | go_skip | go_guarded | go_step | go_upon)
      exact a5s (.slice (some ⟨b,o,none⟩) xs.length c) rfl (by go_simp) (Below.refl _ _) rfl
     case o2 =>
      intro vs Wq hW hk
      clear hk
      dsimp only [a9l,List.take]
      simp only [Act.put,List.setIfInBounds_toArray,List.set_cons_succ,List.set_cons_zero]
      repeat' (first | go_skip | go_guarded | go_step | go_upon)
      exact a5s (.int .i64 (k:Nat)) rfl (by go_simp) (Below.refl _ _) rfl
     case o3 =>
      intro vs Wq hW hk
      have g1:vs 1=.slice (some ⟨b,o,none⟩) xs.length c:=hk.1
      have g2:vs 2=.int .i64 (k:Nat):=hk.2.1
      clear hk
      dsimp only [a9l,List.take]
      simp only [Act.put,List.setIfInBounds_toArray,List.set_cons_succ,List.set_cons_zero]
      rw [g1,g2]
      repeat' (first | go_skip | go_guarded | go_step | go_upon)
      exact a5s (.pointer (some ⟨b,o+k * 62,none⟩)) rfl (by go_simp) (Below.refl _ _) rfl
     case o4 =>
      intro vs Wq hW hk
      have g3:vs 3=.pointer (some ⟨b,o+k * 62,none⟩):=hk.1
      clear hk
      dsimp only [a9l,List.take]
      simp only [Act.put,List.setIfInBounds_toArray,List.set_cons_succ,List.set_cons_zero]
      rw [g3]
      have bbW:=a00 hbw hW lbw
      repeat' (first | go_skip | go_guarded | go_step | go_upon)
      exact a5s (.agg XR) rfl (by go_simp) (Below.refl _ _) rfl
     case o5 =>
      intro vs Wq hW hk
      have g0:vs 0=.agg (ownRow me 4 0 90 5 (.slice (some ⟨cb,co,none⟩) l.length cc) (.slice none 0 0)):=hk.1
      have g4:vs 4=.agg XR:=hk.2.1
      clear hk
      dsimp only [a9l,List.take]
      simp only [Act.put,List.setIfInBounds_toArray,List.set_cons_succ,List.set_cons_zero]
      rw [g0,g4]
      have HA:=Lib.hid (rans_calls hl hm (show 5∈phs from by decide) hsz hf5 ((HT.out.below hB).below hW) ((HV.out.below hB).below hW) ((hcl.below hB).below hW) hap)
      rw [HXR.out] at HA
      repeat' (first | (go_at_call 41;((with_reducible refine (HA.out).mono ?_));rintro e w5 ⟨hy,hn,hb5⟩;have hy2:=hy HY.out;clear hy hn;subst hy2;dsimp only) | go_skip | go_guarded | go_step | go_upon)
      exact a5s (.bool true) rfl (by go_simp) hb5 rfl
     case o6 =>
      intro vs Wq hW hk
      have g5:vs 5=.bool true:=hk.1
      clear hk
      dsimp only [a9l,List.take]
      simp only [Act.put,List.setIfInBounds_toArray,List.set_cons_succ,List.set_cons_zero]
      rw [g5]
      repeat' (first | go_skip | go_guarded | go_step | go_upon)
      exact a5s (.bool false) rfl (by go_simp) (Below.refl _ _) rfl
     case tl =>
      intro vs W2 hW2 hk2
      have h6:vs 6=.bool false:=hk2 6 (by decide)
      clear hk2
      dsimp only [a9l,List.take,List.drop]
      simp only [Act.put,List.setIfInBounds_toArray,List.set_cons_succ,List.set_cons_zero]
      rw [h6]
      generalize vs 0=w0,vs 1=w1,vs 2=w2,vs 3=w3,vs 4=w4,vs 5=w5
      have hB2:=hB.trans (hW2.mono hB.size)
      have b22:=a00 b2 hW2 lb2
      have own2:=a4i own hW2
      have bb2:=a00 hbw hW2 lbw
      have cS:=(cell_ext bb2 k2 (show 25 < 62 by omega)).trans HCS.out
      have cF:=(cell_ext bb2 k2 (show 1 < 62 by omega)).trans HCF.out
      have hI:=hasI_owns own2
      have hc5:T.heard.length < 1000000:=by omega
      have HIN:=Lib.hid (in30_calls _ _ (x.frm:Int) W2 hI hc5)
      clear hI
      obtain ⟨sa,sc,rfl⟩:=owns_slice2 own2
      have own3:=a4i own2 ((Below.refl _ _).alloc (Nat.le_refl _) (.cells #[.int .i64 x.frm] 3 (0,0)))
      have hB3:Below W.heap.size W (W2.alloc (.cells #[.int .i64 x.frm] 3 (0,0))):=hB2.alloc hB2.size _
      have b23:=a02 b22 (.cells #[.int .i64 x.frm] 3 (0,0))
      cases hs4:T.s4 with
      | true =>
       cases hc:T.heard.contains (x.frm:Int) with
       | true =>
        rw [hc] at HIN
        have hh:Tk.hear T.heard x.frm=T.heard:=by unfold Tk.hear;rw [hc];rfl
        repeat' (first | (go_at_call 42;((with_reducible refine (HIN.out).mono ?_));rintro e w5 ⟨rfl,hw5⟩;subst w5;dsimp only) | go_skip | go_guarded | go_step | go_upon)
        refine ⟨⟨k+1,by omega,by go_num,?_,?_,b22,hB2,?_⟩,by simp [intOf];omega⟩
        ·rw [htk.out,HY2.out];simp [hs3,HST.out]
        ·rw [htk.out,HY2.out];simp [hs4,HST.out]
        ·rw [htk.out,HY2.out,hh];exact own2
       | false =>
        rw [hc] at HIN
        have hh:Tk.hear T.heard x.frm=T.heard ++ [(x.frm:Int)]:=by unfold Tk.hear;rw [hc];rfl
        repeat' (first | (go_at_call 42;((with_reducible refine (HIN.out).mono ?_));rintro e w5 ⟨rfl,hw5⟩;subst w5;dsimp only) | (at_builtin;(refine wpList_append_i rfl _ _ rfl (W.heap.size+1) T.heard.length _ _ rfl own3 ⟨W2.heap.size,0,none⟩ 1 1 [.int .i64 x.frm] rfl rfl (one_newsI W2 _ _) (by simp [Value.oneCell']) (by omega) (by have:=a04 b23;omega) ?_);intro v' w' own' hg0;have hg':(W2.alloc (.cells #[.int .i64 x.frm] 3 (0,0))).grownBy w' (Value.slice sa T.heard.length sc).ownBlock:=hg0;clear hg0) | go_skip | go_guarded | go_step | go_upon)
        have e9:T.heard.length+1=(T.heard ++ [(x.frm:Int)]).length:=by simp
        have b24:=(hg'.block _ (a04 b23) (fun q=>by have:=owns_ge2 own3 q.symm;omega)).trans b23
        refine ⟨⟨k+1,by omega,by go_num,?_,?_,b24,owns_upI hB3 (abn own3 (Nat.le_succ _)) hg',?_⟩,by simp [intOf];omega⟩
        ·rw [htk.out,HY2.out];simp [hs3,HST.out]
        ·rw [htk.out,HY2.out];simp [hs4,HST.out]
        ·rw [htk.out,HY2.out,hh,← e9];simpa [iCells] using own'
      | false =>
       cases hc:T.heard.contains (x.frm:Int) with
       | true =>
        rw [hc] at HIN
        have hh:Tk.hear T.heard x.frm=T.heard:=by unfold Tk.hear;rw [hc];rfl
        repeat' (first | (go_at_call 42;((with_reducible refine (HIN.out).mono ?_));rintro e w5 ⟨rfl,hw5⟩;subst w5;dsimp only) | go_skip | go_guarded | go_step | go_upon)
        refine ⟨⟨k+1,by omega,by go_num,?_,?_,b22,hB2,?_⟩,by simp [intOf];omega⟩
        ·rw [htk.out,HY2.out];simp [hs3,HST.out]
        ·rw [htk.out,HY2.out];simp [hs4,HST.out]
        ·rw [htk.out,HY2.out,hh];exact own2
       | false =>
        rw [hc] at HIN
        have hh:Tk.hear T.heard x.frm=T.heard ++ [(x.frm:Int)]:=by unfold Tk.hear;rw [hc];rfl
        repeat' (first | (go_at_call 42;((with_reducible refine (HIN.out).mono ?_));rintro e w5 ⟨rfl,hw5⟩;subst w5;dsimp only) | (at_builtin;(refine wpList_append_i rfl _ _ rfl (W.heap.size+1) T.heard.length _ _ rfl own3 ⟨W2.heap.size,0,none⟩ 1 1 [.int .i64 x.frm] rfl rfl (one_newsI W2 _ _) (by simp [Value.oneCell']) (by omega) (by have:=a04 b23;omega) ?_);intro v' w' own' hg0;have hg':(W2.alloc (.cells #[.int .i64 x.frm] 3 (0,0))).grownBy w' (Value.slice sa T.heard.length sc).ownBlock:=hg0;clear hg0) | go_skip | go_guarded | go_step | go_upon)
        have e9:T.heard.length+1=(T.heard ++ [(x.frm:Int)]).length:=by simp
        have b24:=(hg'.block _ (a04 b23) (fun q=>by have:=owns_ge2 own3 q.symm;omega)).trans b23
        refine ⟨⟨k+1,by omega,by go_num,?_,?_,b24,owns_upI hB3 (abn own3 (Nat.le_succ _)) hg',?_⟩,by simp [intOf];omega⟩
        ·rw [htk.out,HY2.out];simp [hs3,HST.out]
        ·rw [htk.out,HY2.out];simp [hs4,HST.out]
        ·rw [htk.out,HY2.out,hh,← e9];simpa [iCells] using own'
    ·have HST:=Lib.hid h5
     have HCS:=Lib.hid (show XR[25]? = some (.int .i64 5) by have:=HCS0.out;rw [h5] at this;exact this)
     clear ha h5 HCS0
     repeat' (first | go_skip | go_guarded | go_step | go_upon)
     refine agn 7 [([],fun v _=>v=.agg (ownRow me 4 0 90 5 (.slice (some ⟨cb,co,none⟩) l.length cc) (.slice none 0 0))),
       ([],fun v _=>v=.slice (some ⟨b,o,none⟩) xs.length c),
       ([],fun v _=>v=.int .i64 (k:Nat)),
       ([1,2],fun v _=>v=.pointer (some ⟨b,o+k * 62,none⟩)),
       ([3],fun v _=>v=.agg XR),
       ([0,4],fun v _=>v=.bool true),
       ([5],fun v _=>v=.bool false)] (by kernel_rfl) (by kernel_rfl) ?st ⟨?o0,?o1,?o2,?o3,?o4,?o5,?o6,trivial⟩ ?tl
     case st =>
      intro k v W1 W2 h hb
      rcases k with _ | _ | _ | _ | _ | _ | _ | k
      ·exact h
      ·exact h
      ·exact h
      ·exact h
      ·exact h
      ·exact h
      ·exact h
      ·trivial
     case o0 =>
      intro vs Wq hW hk
      clear hk
      dsimp only [a9l,List.take]
      simp only [Act.put,List.setIfInBounds_toArray,List.set_cons_succ,List.set_cons_zero]
      have b2W:=a00 b2 hW lb2
      repeat' (first | go_skip | go_guarded | go_step | go_upon)
      exact a5s (.agg (ownRow me 4 0 90 5 (.slice (some ⟨cb,co,none⟩) l.length cc) (.slice none 0 0))) rfl (by go_simp) (Below.refl _ _) rfl
     case o1 =>
      intro vs Wq hW hk
      clear hk
      dsimp only [a9l,List.take]
      simp only [Act.put,List.setIfInBounds_toArray,List.set_cons_succ,List.set_cons_zero]
      repeat' (first | go_skip | go_guarded | go_step | go_upon)
      exact a5s (.slice (some ⟨b,o,none⟩) xs.length c) rfl (by go_simp) (Below.refl _ _) rfl
     case o2 =>
      intro vs Wq hW hk
      clear hk
      dsimp only [a9l,List.take]
      simp only [Act.put,List.setIfInBounds_toArray,List.set_cons_succ,List.set_cons_zero]
      repeat' (first | go_skip | go_guarded | go_step | go_upon)
      exact a5s (.int .i64 (k:Nat)) rfl (by go_simp) (Below.refl _ _) rfl
     case o3 =>
      intro vs Wq hW hk
      have g1:vs 1=.slice (some ⟨b,o,none⟩) xs.length c:=hk.1
      have g2:vs 2=.int .i64 (k:Nat):=hk.2.1
      clear hk
      dsimp only [a9l,List.take]
      simp only [Act.put,List.setIfInBounds_toArray,List.set_cons_succ,List.set_cons_zero]
      rw [g1,g2]
      repeat' (first | go_skip | go_guarded | go_step | go_upon)
      exact a5s (.pointer (some ⟨b,o+k * 62,none⟩)) rfl (by go_simp) (Below.refl _ _) rfl
     case o4 =>
      intro vs Wq hW hk
      have g3:vs 3=.pointer (some ⟨b,o+k * 62,none⟩):=hk.1
      clear hk
      dsimp only [a9l,List.take]
      simp only [Act.put,List.setIfInBounds_toArray,List.set_cons_succ,List.set_cons_zero]
      rw [g3]
      have bbW:=a00 hbw hW lbw
      repeat' (first | go_skip | go_guarded | go_step | go_upon)
      exact a5s (.agg XR) rfl (by go_simp) (Below.refl _ _) rfl
     case o5 =>
      intro vs Wq hW hk
      have g0:vs 0=.agg (ownRow me 4 0 90 5 (.slice (some ⟨cb,co,none⟩) l.length cc) (.slice none 0 0)):=hk.1
      have g4:vs 4=.agg XR:=hk.2.1
      clear hk
      dsimp only [a9l,List.take]
      simp only [Act.put,List.setIfInBounds_toArray,List.set_cons_succ,List.set_cons_zero]
      rw [g0,g4]
      have HA:=Lib.hid (rans_calls hl hm (show 5∈phs from by decide) hsz hf5 ((HT.out.below hB).below hW) ((HV.out.below hB).below hW) ((hcl.below hB).below hW) hap)
      rw [HXR.out] at HA
      repeat' (first | (go_at_call 41;((with_reducible refine (HA.out).mono ?_));rintro e w5 ⟨hy,hn,hb5⟩;have hy2:=hy HY.out;clear hy hn;subst hy2;dsimp only) | go_skip | go_guarded | go_step | go_upon)
      exact a5s (.bool true) rfl (by go_simp) hb5 rfl
     case o6 =>
      intro vs Wq hW hk
      have g5:vs 5=.bool true:=hk.1
      clear hk
      dsimp only [a9l,List.take]
      simp only [Act.put,List.setIfInBounds_toArray,List.set_cons_succ,List.set_cons_zero]
      rw [g5]
      repeat' (first | go_skip | go_guarded | go_step | go_upon)
      exact a5s (.bool false) rfl (by go_simp) (Below.refl _ _) rfl
     case tl =>
      intro vs W2 hW2 hk2
      have h6:vs 6=.bool false:=hk2 6 (by decide)
      clear hk2
      dsimp only [a9l,List.take,List.drop]
      simp only [Act.put,List.setIfInBounds_toArray,List.set_cons_succ,List.set_cons_zero]
      rw [h6]
      generalize vs 0=w0,vs 1=w1,vs 2=w2,vs 3=w3,vs 4=w4,vs 5=w5
      have hB2:=hB.trans (hW2.mono hB.size)
      have b22:=a00 b2 hW2 lb2
      have own2:=a4i own hW2
      have bb2:=a00 hbw hW2 lbw
      have cS:=(cell_ext bb2 k2 (show 25 < 62 by omega)).trans HCS.out
      have cF:=(cell_ext bb2 k2 (show 1 < 62 by omega)).trans HCF.out
      have hI:=hasI_owns own2
      have hc5:T.heard.length < 1000000:=by omega
      have HIN:=Lib.hid (in30_calls _ _ (x.frm:Int) W2 hI hc5)
      clear hI
      obtain ⟨sa,sc,rfl⟩:=owns_slice2 own2
      have own3:=a4i own2 ((Below.refl _ _).alloc (Nat.le_refl _) (.cells #[.int .i64 x.frm] 3 (0,0)))
      have hB3:Below W.heap.size W (W2.alloc (.cells #[.int .i64 x.frm] 3 (0,0))):=hB2.alloc hB2.size _
      have b23:=a02 b22 (.cells #[.int .i64 x.frm] 3 (0,0))
      cases hs4:T.s4 with
      | true =>
       cases hc:T.heard.contains (x.frm:Int) with
       | true =>
        rw [hc] at HIN
        have hh:Tk.hear T.heard x.frm=T.heard:=by unfold Tk.hear;rw [hc];rfl
        repeat' (first | (go_at_call 42;((with_reducible refine (HIN.out).mono ?_));rintro e w5 ⟨rfl,hw5⟩;subst w5;dsimp only) | go_skip | go_guarded | go_step | go_upon)
        refine ⟨⟨k+1,by omega,by go_num,?_,?_,b22,hB2,?_⟩,by simp [intOf];omega⟩
        ·rw [htk.out,HY2.out];simp [hs3,HST.out]
        ·rw [htk.out,HY2.out];simp [hs4,HST.out]
        ·rw [htk.out,HY2.out,hh];exact own2
       | false =>
        rw [hc] at HIN
        have hh:Tk.hear T.heard x.frm=T.heard ++ [(x.frm:Int)]:=by unfold Tk.hear;rw [hc];rfl
        repeat' (first | (go_at_call 42;((with_reducible refine (HIN.out).mono ?_));rintro e w5 ⟨rfl,hw5⟩;subst w5;dsimp only) | (at_builtin;(refine wpList_append_i rfl _ _ rfl (W.heap.size+1) T.heard.length _ _ rfl own3 ⟨W2.heap.size,0,none⟩ 1 1 [.int .i64 x.frm] rfl rfl (one_newsI W2 _ _) (by simp [Value.oneCell']) (by omega) (by have:=a04 b23;omega) ?_);intro v' w' own' hg0;have hg':(W2.alloc (.cells #[.int .i64 x.frm] 3 (0,0))).grownBy w' (Value.slice sa T.heard.length sc).ownBlock:=hg0;clear hg0) | go_skip | go_guarded | go_step | go_upon)
        have e9:T.heard.length+1=(T.heard ++ [(x.frm:Int)]).length:=by simp
        have b24:=(hg'.block _ (a04 b23) (fun q=>by have:=owns_ge2 own3 q.symm;omega)).trans b23
        refine ⟨⟨k+1,by omega,by go_num,?_,?_,b24,owns_upI hB3 (abn own3 (Nat.le_succ _)) hg',?_⟩,by simp [intOf];omega⟩
        ·rw [htk.out,HY2.out];simp [hs3,HST.out]
        ·rw [htk.out,HY2.out];simp [hs4,HST.out]
        ·rw [htk.out,HY2.out,hh,← e9];simpa [iCells] using own'
      | false =>
       cases hc:T.heard.contains (x.frm:Int) with
       | true =>
        rw [hc] at HIN
        have hh:Tk.hear T.heard x.frm=T.heard:=by unfold Tk.hear;rw [hc];rfl
        repeat' (first | (go_at_call 42;((with_reducible refine (HIN.out).mono ?_));rintro e w5 ⟨rfl,hw5⟩;subst w5;dsimp only) | go_skip | go_guarded | go_step | go_upon)
        refine ⟨⟨k+1,by omega,by go_num,?_,?_,b22,hB2,?_⟩,by simp [intOf];omega⟩
        ·rw [htk.out,HY2.out];simp [hs3,HST.out]
        ·rw [htk.out,HY2.out];simp [hs4,HST.out]
        ·rw [htk.out,HY2.out,hh];exact own2
       | false =>
        rw [hc] at HIN
        have hh:Tk.hear T.heard x.frm=T.heard ++ [(x.frm:Int)]:=by unfold Tk.hear;rw [hc];rfl
        repeat' (first | (go_at_call 42;((with_reducible refine (HIN.out).mono ?_));rintro e w5 ⟨rfl,hw5⟩;subst w5;dsimp only) | (at_builtin;(refine wpList_append_i rfl _ _ rfl (W.heap.size+1) T.heard.length _ _ rfl own3 ⟨W2.heap.size,0,none⟩ 1 1 [.int .i64 x.frm] rfl rfl (one_newsI W2 _ _) (by simp [Value.oneCell']) (by omega) (by have:=a04 b23;omega) ?_);intro v' w' own' hg0;have hg':(W2.alloc (.cells #[.int .i64 x.frm] 3 (0,0))).grownBy w' (Value.slice sa T.heard.length sc).ownBlock:=hg0;clear hg0) | go_skip | go_guarded | go_step | go_upon)
        have e9:T.heard.length+1=(T.heard ++ [(x.frm:Int)]).length:=by simp
        have b24:=(hg'.block _ (a04 b23) (fun q=>by have:=owns_ge2 own3 q.symm;omega)).trans b23
        refine ⟨⟨k+1,by omega,by go_num,?_,?_,b24,owns_upI hB3 (abn own3 (Nat.le_succ _)) hg',?_⟩,by simp [intOf];omega⟩
        ·rw [htk.out,HY2.out];simp [hs3,HST.out]
        ·rw [htk.out,HY2.out];simp [hs4,HST.out]
        ·rw [htk.out,HY2.out,hh,← e9];simpa [iCells] using own'
   ·have HY:=Lib.hid ha
    have HY2:=Lib.hid (sayOf_no ha T)
    clear ha
    repeat' (first | go_skip | go_guarded | go_step | go_upon)
    refine agn 7 [([],fun v _=>v=.agg (ownRow me 4 0 90 5 (.slice (some ⟨cb,co,none⟩) l.length cc) (.slice none 0 0))),
      ([],fun v _=>v=.slice (some ⟨b,o,none⟩) xs.length c),
      ([],fun v _=>v=.int .i64 (k:Nat)),
      ([1,2],fun v _=>v=.pointer (some ⟨b,o+k * 62,none⟩)),
      ([3],fun v _=>v=.agg XR),
      ([0,4],fun v _=>v=.bool false),
      ([5],fun v _=>v=.bool true)] (by kernel_rfl) (by kernel_rfl) ?st ⟨?o0,?o1,?o2,?o3,?o4,?o5,?o6,trivial⟩ ?tl
    case st =>
     intro k v W1 W2 h hb
     rcases k with _ | _ | _ | _ | _ | _ | _ | k
     ·exact h
     ·exact h
     ·exact h
     ·exact h
     ·exact h
     ·exact h
     ·exact h
     ·trivial
    case o0 =>
     intro vs Wq hW hk
     clear hk
     dsimp only [a9l,List.take]
     simp only [Act.put,List.setIfInBounds_toArray,List.set_cons_succ,List.set_cons_zero]
     have b2W:=a00 b2 hW lb2
     repeat' (first | go_skip | go_guarded | go_step | go_upon)
     exact a5s (.agg (ownRow me 4 0 90 5 (.slice (some ⟨cb,co,none⟩) l.length cc) (.slice none 0 0))) rfl (by go_simp) (Below.refl _ _) rfl
    case o1 =>
     intro vs Wq hW hk
     clear hk
     dsimp only [a9l,List.take]
     simp only [Act.put,List.setIfInBounds_toArray,List.set_cons_succ,List.set_cons_zero]
     repeat' (first | go_skip | go_guarded | go_step | go_upon)
     exact a5s (.slice (some ⟨b,o,none⟩) xs.length c) rfl (by go_simp) (Below.refl _ _) rfl
    case o2 =>
     intro vs Wq hW hk
     clear hk
     dsimp only [a9l,List.take]
     simp only [Act.put,List.setIfInBounds_toArray,List.set_cons_succ,List.set_cons_zero]
     repeat' (first | go_skip | go_guarded | go_step | go_upon)
     exact a5s (.int .i64 (k:Nat)) rfl (by go_simp) (Below.refl _ _) rfl
    case o3 =>
     intro vs Wq hW hk
     have g1:vs 1=.slice (some ⟨b,o,none⟩) xs.length c:=hk.1
     have g2:vs 2=.int .i64 (k:Nat):=hk.2.1
     clear hk
     dsimp only [a9l,List.take]
     simp only [Act.put,List.setIfInBounds_toArray,List.set_cons_succ,List.set_cons_zero]
     rw [g1,g2]
     repeat' (first | go_skip | go_guarded | go_step | go_upon)
     exact a5s (.pointer (some ⟨b,o+k * 62,none⟩)) rfl (by go_simp) (Below.refl _ _) rfl
    case o4 =>
     intro vs Wq hW hk
     have g3:vs 3=.pointer (some ⟨b,o+k * 62,none⟩):=hk.1
     clear hk
     dsimp only [a9l,List.take]
     simp only [Act.put,List.setIfInBounds_toArray,List.set_cons_succ,List.set_cons_zero]
     rw [g3]
     have bbW:=a00 hbw hW lbw
     repeat' (first | go_skip | go_guarded | go_step | go_upon)
     exact a5s (.agg XR) rfl (by go_simp) (Below.refl _ _) rfl
    case o5 =>
     intro vs Wq hW hk
     have g0:vs 0=.agg (ownRow me 4 0 90 5 (.slice (some ⟨cb,co,none⟩) l.length cc) (.slice none 0 0)):=hk.1
     have g4:vs 4=.agg XR:=hk.2.1
     clear hk
     dsimp only [a9l,List.take]
     simp only [Act.put,List.setIfInBounds_toArray,List.set_cons_succ,List.set_cons_zero]
     rw [g0,g4]
     have HA:=Lib.hid (rans_calls hl hm (show 5∈phs from by decide) hsz hf5 ((HT.out.below hB).below hW) ((HV.out.below hB).below hW) ((hcl.below hB).below hW) hap)
     rw [HXR.out] at HA
     repeat' (first | (go_at_call 41;((with_reducible refine (HA.out).mono ?_));rintro e w5 ⟨hy,hn,hb5⟩;have hy2:=hn HY.out;clear hy hn;subst hy2;dsimp only) | go_skip | go_guarded | go_step | go_upon)
     exact a5s (.bool false) rfl (by go_simp) hb5 rfl
    case o6 =>
     intro vs Wq hW hk
     have g5:vs 5=.bool false:=hk.1
     clear hk
     dsimp only [a9l,List.take]
     simp only [Act.put,List.setIfInBounds_toArray,List.set_cons_succ,List.set_cons_zero]
     rw [g5]
     repeat' (first | go_skip | go_guarded | go_step | go_upon)
     exact a5s (.bool true) rfl (by go_simp) (Below.refl _ _) rfl
    case tl =>
     intro vs W2 hW2 hk2
     have h6:vs 6=.bool true:=hk2 6 (by decide)
     clear hk2
     dsimp only [a9l,List.take,List.drop]
     simp only [Act.put,List.setIfInBounds_toArray,List.set_cons_succ,List.set_cons_zero]
     rw [h6]
     generalize vs 0=w0,vs 1=w1,vs 2=w2,vs 3=w3,vs 4=w4,vs 5=w5
     have hB2:=hB.trans (hW2.mono hB.size)
     have b22:=a00 b2 hW2 lb2
     have own2:=a4i own hW2
     have bb2:=a00 hbw hW2 lbw
     repeat' (first | go_skip | go_guarded | go_step | go_upon)
     refine ⟨⟨k+1,by omega,by go_num,?_,?_,b22,hB2,?_⟩,by simp [intOf];omega⟩
     ·rw [htk.out,HY2.out];exact hs3
     ·rw [htk.out,HY2.out]
     ·rw [htk.out,HY2.out];exact own2
  ·have i1 : ¬ (k:Int) < (xs.length:Int):=by omega
   obtain rfl:k=xs.length:=by omega
   obtain ⟨sa,sc,rfl⟩:=owns_slice2 own
   have HH:=Lib.hid (show (tkT l me xs xs.length).out (l.length - 1)=if (tkT l me xs xs.length).s3 then 1 else if (tkT l me xs xs.length).s4||(tkT l me xs xs.length).heard.length == l.length - 1 then 2 else 0 from rfl)
   generalize hT0:tkT l me xs xs.length=T at *
   have HT0:=Lib.hid hT0
   clear hT0
   rw [hs3] at HH
   have c5:=(a01 b2 5).trans (aoj _ _ _ _ _ _ _)
   have wr1:IntKind.wrap .i64 ((l.length:Int) - 1)=(l.length:Int) - 1:=by rw [IntKind.wrap_i64];omega
   cases h4:T.s4 with
   | true =>
    rw [h4] at HH
    repeat' (first | go_skip | go_guarded | go_step | go_upon)
    go_ret
    exact ⟨by rw [HT0.out,HH.out];rfl,hB⟩
   | false =>
    rw [h4] at HH
    by_cases h5:T.heard.length=l.length - 1
    ·have e5:((T.heard.length:Int) == (l.length:Int) - 1)=true:=by rw [beq_iff_eq];omega
     have HE:=Lib.hid h5
     clear h5
     repeat' (first | go_skip | go_guarded | go_step | go_upon)
     go_ret
     exact ⟨by rw [HT0.out,HH.out,HE.out];simp,hB⟩
    ·have e5:((T.heard.length:Int) == (l.length:Int) - 1)=false:=by rw [beq_eq_false_iff_ne];omega
     have HE:=Lib.hid h5
     clear h5
     repeat' (first | go_skip | go_guarded | go_step | go_upon)
     go_ret
     exact ⟨by rw [HT0.out,HH.out];simp [HE.out],hB⟩
end Go.Proofs.YtopgdlblfieljaaGreatDoor
