/-
  The law TakeoverAnswers.
-/
import Derived.Test.YtopgdlblfieljaaGreatDoorPkTkp
import Derived.Test.YtopgdlblfieljaaGreatDoorPkTki
import Derived.Test.YtopgdlblfieljaaGreatDoorPkTky
import Derived.Deep.Cut
import Derived.Deep.CutRange
set_option linter.unusedSectionVars false
set_option linter.constructorNameAsVariable false
set_option linter.unusedVariables false
set_option linter.unusedSimpArgs false
namespace Go.Proofs.YtopgdlblfieljaaGreatDoor
open Go.RowKit Go.CE.V
set_option maxRecDepth 100000
set_option maxHeartbeats 16000000
theorem lst_25 (x:LN) (v:Value):(LN.let x v).row[25]? = some (.int .i64 x.st):=by
 rw [CE.V.a1i];rfl
theorem lst_2 (x:LN) (v:Value):(LN.let x v).row[2]? = some (.int .i64 x.dst):=by
 rw [CE.V.a1i];rfl
theorem other_at (fr:Nat):∀ l∈tLs,∃ fm ot:Nat,fm < l.length∧Int.tmod (fr:Int) (l.length:Int)=(fm:Int)∧(fr:Int) % (l.length:Int)=(fm:Int)∧IntKind.wrap .i64 (1+(fm:Int))=(ot:Int)∧(l.length:Int)≠0∧ot∈l:=by
 intro l hl
 have h:=(by decide:∀ l∈tLs,2≤l.length∧l.length≤4∧∀ j,j < l.length→1+j∈l) l hl
 have hlt:fr % l.length < l.length:=Nat.mod_lt _ (by omega)
 refine ⟨fr % l.length,1+fr % l.length,hlt,?_,?_,?_,by omega,h.2.2 _ hlt⟩
 ·rw [Int.tmod_eq_emod_of_nonneg (by omega)];omega
 ·omega
 ·rw [IntKind.wrap_i64];omega
theorem answer_calls (hsan:∀ W,ase W→Calls Tryz.prog 5 #[] W fun e w'=>e=.returned (.bool true)∧Below W.heap.size W w')
  {W:World} {na nb nc:Nat} (hna:na < 256) (hnb:nb < 256) (hnc:nc < 256) {fr:Nat} (hfr:fr < 256) {sv:Value} {n:Nat} (hS:SaysV W sv n) (hT:ase W) :
  Calls Tryz.prog 4 #[.agg #[.int .u8 na,.int .u8 nb,.int .u8 nc],.int .u8 fr,sv] W fun e W'=>e=.returned (.bool true)∧Below W.heap.size W W':=by
 obtain ⟨sg,sa,sc,rfl,hsrow,hsg⟩:=hS
 have HSR:=Lib.hid hsrow
 have HSG:=Lib.hid hsg
 have HT:=Lib.hid hT
 have HOW:=Lib.hid (fun (W':World)=>af7 (W:=W') hna hnb hnc)
 have HAR:=Lib.hid (other_at fr)
 have wb:IntKind.wrap .i64 (fr:Int)=(fr:Int):=by rw [IntKind.wrap_i64];omega
 clear hsrow hsg hT hna hnb hnc hfr
 have pn:ones #[.int .u8 na,.int .u8 nb,.int .u8 nc]=true:=by simp [ones,ack]
 have b0:obj (W.alloc (.cells #[.int .u8 na,.int .u8 nb,.int .u8 nc] 22 (0,0))) W.heap.size=some (.cells #[.int .u8 na,.int .u8 nb,.int .u8 nc] 22 (0,0)):=a03 _ _ _ rfl
 have w1B:Below W.heap.size W (W.alloc (.cells #[.int .u8 na,.int .u8 nb,.int .u8 nc] 22 (0,0))):=(Below.refl _ _).alloc (Nat.le_refl _) _
 have HSN:=Lib.hid (hsan _ (HT.out.below w1B))
 clear hsan
 go_enter Tryz.func4,Tryz.ntmps4
 repeat' ((fail_if_success (with_reducible refine Go.wp_block ?_));(first | (go_at_call 5;((with_reducible refine (HSN.out).mono ?_));rintro e w2 ⟨rfl,hb2⟩;have b02:=a1w b0 hb2;have w2B:=w1B.trans (hb2.mono w1B.size);dsimp only) | (go_at_call 6;((with_reducible refine (HOW.out _).mono ?_));rintro e w3 ⟨l,me,ph,ov,hl,hm,hp,rfl,hv3,hb3⟩;obtain ⟨cb,co,cc,crow,hov,_⟩:=as9 hv3 (tLs_ne hl);subst hov;have po:=a1y me 4 0 90 ph (a0v hv3) (show (Value.slice none 0 0).oneCell' = true from rfl);have w3B:=w2B.trans (hb3.mono w2B.size);have w4B:=w3B.alloc w3B.size (.cells (ownRow me 4 0 90 ph (.slice (some ⟨cb,co,none⟩) l.length cc) (.slice none 0 0)) 28 (0,0));have o4:obj (w3.alloc (.cells (ownRow me 4 0 90 ph (.slice (some ⟨cb,co,none⟩) l.length cc) (.slice none 0 0)) 28 (0,0))) w3.heap.size=some (.cells (ownRow me 4 0 90 ph (.slice (some ⟨cb,co,none⟩) l.length cc) (.slice none 0 0)) 28 (0,0)):=a03 _ _ _ rfl;have HV4:=Lib.hid (hv3.below ((Below.refl w3.heap.size w3).alloc (Nat.le_refl _) (.cells (ownRow me 4 0 90 ph (.slice (some ⟨cb,co,none⟩) l.length cc) (.slice none 0 0)) 28 (0,0))));have c45:=(a01 o4 5).trans (aoj _ _ _ _ _ _ _);have c40:=(a01 o4 0).trans (aFq _ _ _ _ _ _ _);obtain ⟨fm,ot,hfm,rbt,rb,wm,l0,hot⟩:=HAR.out l hl;have HV3:=Lib.hid hv3;clear hv3;dsimp only) | go_skip | go_guarded | go_step | go_upon))
 have lo4:=a04 o4
 have HT4:=Lib.hid (HT.out.below w4B)
 clear c45 c40 hb2 hb3 b02 b0 w1B w2B w3B HSN HOW HAR pn rbt rb wm hfm l0 wb
 generalize (w3.alloc (.cells (ownRow me 4 0 90 ph (.slice (some ⟨cb,co,none⟩) l.length cc) (.slice none 0 0)) 28 (0,0)))=w4 at *
 generalize w3.heap.size=g4 at *
 by_cases hne:ot≠me
 ·skip
  refine wp_region_late 13 [9,10] [([],fun v _=>v=.agg (ownRow me 4 0 90 ph (.slice (some ⟨cb,co,none⟩) l.length cc) (.slice none 0 0))),
    ([],fun v _=>v=.agg (ownRow me 4 0 90 ph (.slice (some ⟨cb,co,none⟩) l.length cc) (.slice none 0 0))),
    ([],fun v _=>v=.int .i64 ot),
    ([],fun v _=>v=.pointer (some ⟨g4,0,none⟩)),
    ([3],fun v _=>v=.int .i64 me),
    ([1,2,4],fun v _=>v=.agg (LN.let (inqL l ot me) (.slice (some ⟨cb,co,none⟩) l.length cc)).row),
    ([0,5],fun v W' => ∃ ow pw cv,v=.tuple #[.agg (ownRow me 4 0 90 (bar ph) ow pw),.agg (LN.let (repL l ot me (bar ph)) cv).row,.int .i64 0]∧a0h 0 W' ow l∧EmpV pw∧a0h 0 W' cv l),
    ([6],fun v W' => ∃ ow pw cv,v=.tuple #[.agg (ownRow me 4 0 90 (bar ph) ow pw),.agg (LN.let (repL l ot me (bar ph)) cv).row,.int .i64 0]∧a0h 0 W' ow l∧EmpV pw∧a0h 0 W' cv l),
    ([7],fun v W' => ∃ ow pw,v=.agg (ownRow me 4 0 90 (bar ph) ow pw)∧a0h 0 W' ow l∧EmpV pw),
    ([7],fun v W' => ∃ cv,v=.agg (LN.let (repL l ot me (bar ph)) cv).row∧a0h 0 W' cv l),
    ([7],fun v _=>v=.int .i64 0),
    ([],fun v W' => ∃ g,v=.pointer (some ⟨g,0,none⟩)∧obj W' g=some (.cells #[.int .i64 0,.int .i64 0,.int .i64 0,.int .i64 0,.int .i64 0,.slice none 0 0,.slice none 0 0] 28 (0,0))∧w4.heap.size≤g),
    ([],fun v W' => ∃ g,v=.pointer (some ⟨g,0,none⟩)∧obj W' g=some (.cells z48 48 (0,0))∧w4.heap.size≤g)] (by kernel_rfl) (by kernel_rfl) (by kernel_rfl) (by kernel_rfl) (by kernel_rfl) ⟨?l9,?l10,trivial⟩ ?st ⟨?o0,?o1,?o2,?o3,?o4,?o5,?o6,?o7,?o8,?o9,?o10,?o11,?o12,trivial⟩ ?tl
  case l9 =>
   intro v W h
   obtain ⟨ow,pw,cv,rfl,h2,h3,h4⟩:=h;exact ⟨_,rfl,cv,rfl,h4⟩
  case l10 =>
   intro v W h
   obtain ⟨ow,pw,cv,rfl,h2,h3,h4⟩:=h;exact ⟨_,rfl,rfl⟩
  case st =>
   intro k v W1 W2 h hb
   rcases k with _ | _ | _ | _ | _ | _ | _ | _ | _ | _ | _ | _ | _ | k
   ·exact h
   ·exact h
   ·exact h
   ·exact h
   ·exact h
   ·exact h
   ·obtain ⟨ow,pw,cv,h1,h2,h3,h4⟩:=h;exact ⟨ow,pw,cv,h1,h2.below hb,h3,h4.below hb⟩
   ·obtain ⟨ow,pw,cv,h1,h2,h3,h4⟩:=h;exact ⟨ow,pw,cv,h1,h2.below hb,h3,h4.below hb⟩
   ·obtain ⟨ow,pw,h1,h2,h3⟩:=h;exact ⟨ow,pw,h1,h2.below hb,h3⟩
   ·obtain ⟨cv,h1,h2⟩:=h;exact ⟨cv,h1,h2.below hb⟩
   ·exact h
   ·obtain ⟨g,h1,h2,h3⟩:=h;exact ⟨g,h1,a1w h2 hb,h3⟩
   ·obtain ⟨g,h1,h2,h3⟩:=h;exact ⟨g,h1,a1w h2 hb,h3⟩
   ·trivial
  case o0 =>
   intro vs Wq hW hk
   clear hk
   change wpList _ _ _ _ (a3h _ vs [] _) _
   simp only [a3h]
   have q:=a00 o4 hW lo4
   repeat' (first | go_skip | go_guarded | go_step | go_upon)
   exact a5s (.agg (ownRow me 4 0 90 ph (.slice (some ⟨cb,co,none⟩) l.length cc) (.slice none 0 0))) rfl (by go_simp) (Below.refl _ _) rfl
  case o1 =>
   intro vs Wq hW hk
   clear hk
   change wpList _ _ _ _ (a3h _ vs [] _) _
   simp only [a3h]
   have q:=a00 o4 hW lo4
   repeat' (first | go_skip | go_guarded | go_step | go_upon)
   exact a5s (.agg (ownRow me 4 0 90 ph (.slice (some ⟨cb,co,none⟩) l.length cc) (.slice none 0 0))) rfl (by go_simp) (Below.refl _ _) rfl
  case o2 =>
   intro vs Wq hW hk
   clear hk
   change wpList _ _ _ _ (a3h _ vs [] _) _
   simp only [a3h]
   repeat' (first | go_skip | go_guarded | go_step | go_upon)
   exact a5s (.int .i64 ot) rfl (by go_simp) (Below.refl _ _) rfl
  case o3 =>
   intro vs Wq hW hk
   clear hk
   change wpList _ _ _ _ (a3h _ vs [] _) _
   simp only [a3h]
   repeat' (first | go_skip | go_guarded | go_step | go_upon)
   exact a5s (.pointer (some ⟨g4,0,none⟩)) rfl (by go_simp) (Below.refl _ _) rfl
  case o4 =>
   intro vs Wq hW hk
   have g3:vs 3=.pointer (some ⟨g4,0,none⟩):=hk.1
   clear hk
   change wpList _ _ _ _ (a3h _ vs [3] _) _
   simp only [a3h,aa9,List.getElem?_toArray,List.getElem?_cons_succ,List.getElem?_cons_zero,Option.bind_some]
   rw [g3]
   have c0:=(a01 (a00 o4 hW lo4) 0).trans (aFq _ _ _ _ _ _ _)
   repeat' (first | go_skip | go_guarded | go_step | go_upon)
   exact a5s (.int .i64 me) rfl (by go_simp) (Below.refl _ _) rfl
  case o5 =>
   intro vs Wq hW hk
   have g1:vs 1=.agg (ownRow me 4 0 90 ph (.slice (some ⟨cb,co,none⟩) l.length cc) (.slice none 0 0)):=hk.1
   have g2:vs 2=.int .i64 ot:=hk.2.1
   have g4:vs 4=.int .i64 me:=hk.2.2.1
   clear hk
   change wpList _ _ _ _ (a3h _ vs [1,2,4] _) _
   simp only [a3h,aa9,List.getElem?_toArray,List.getElem?_cons_succ,List.getElem?_cons_zero,Option.bind_some]
   rw [g1,g2,g4]
   have HX:=Lib.hid (rinquiry_calls (me:=me) (ph:=ph) (pv:=.slice none 0 0) (tLs_ne hl) (HV4.out.below hW) rfl ot me)
   repeat' (first | (go_at_call 16;((with_reducible refine (HX.out).mono ?_));rintro e w5 ⟨rfl,hb5⟩;dsimp only) | go_skip | go_guarded | go_step | go_upon)
   exact a5s (.agg (LN.let (inqL l ot me) (.slice (some ⟨cb,co,none⟩) l.length cc)).row) rfl (by go_simp) hb5 rfl
  case o6 =>
   intro vs Wq hW hk
   have g0:vs 0=.agg (ownRow me 4 0 90 ph (.slice (some ⟨cb,co,none⟩) l.length cc) (.slice none 0 0)):=hk.1
   have g5:vs 5=.agg (LN.let (inqL l ot me) (.slice (some ⟨cb,co,none⟩) l.length cc)).row:=hk.2.1
   clear hk
   change wpList _ _ _ _ (a3h _ vs [0,5] _) _
   simp only [a3h,aa9,List.getElem?_toArray,List.getElem?_cons_succ,List.getElem?_cons_zero,Option.bind_some]
   rw [g0,g5]
   have HX:=Lib.hid (tanswer_yes hl hm hp hot hne (HT4.out.below hW) (HV4.out.below hW) (HV4.out.below hW))
   repeat' (first | (go_at_call 12;((with_reducible refine (HX.out).mono ?_));rintro e w5 ⟨ow,pw,cv,rfl,q1,q2,q3,hb5⟩;dsimp only) | go_skip | go_guarded | go_step | go_upon)
   exact a5s (.tuple #[.agg (ownRow me 4 0 90 (bar ph) ow pw),.agg (LN.let (repL l ot me (bar ph)) cv).row,.int .i64 0]) rfl (by go_simp) hb5 ⟨ow,pw,cv,rfl,q1,q2,q3.mono (Nat.zero_le _)⟩
  case o7 =>
   intro vs Wq hW hk
   have g6:(fun v W' => ∃ ow pw cv,v=.tuple #[.agg (ownRow me 4 0 90 (bar ph) ow pw),.agg (LN.let (repL l ot me (bar ph)) cv).row,.int .i64 0]∧a0h 0 W' ow l∧EmpV pw∧a0h 0 W' cv l) (vs 6) Wq:=hk.1
   have g6A:=g6.choose_spec.choose_spec.choose_spec.1;have g6B:=g6.choose_spec.choose_spec.choose_spec.2;generalize g6.choose_spec.choose_spec.choose=cv at g6A g6B;generalize g6.choose_spec.choose=pw at g6A g6B;generalize g6.choose=ow at g6A g6B;clear g6
   clear hk
   change wpList _ _ _ _ (a3h _ vs [6] _) _
   simp only [a3h,aa9,List.getElem?_toArray,List.getElem?_cons_succ,List.getElem?_cons_zero,Option.bind_some]
   rw [g6A]
   repeat' (first | go_skip | go_guarded | go_step | go_upon)
   exact a5s (.tuple #[.agg (ownRow me 4 0 90 (bar ph) ow pw),.agg (LN.let (repL l ot me (bar ph)) cv).row,.int .i64 0]) rfl (by go_simp) (Below.refl _ _) ⟨ow,pw,cv,rfl,g6B⟩
  case o8 =>
   intro vs Wq hW hk
   have g7:(fun v W' => ∃ ow pw cv,v=.tuple #[.agg (ownRow me 4 0 90 (bar ph) ow pw),.agg (LN.let (repL l ot me (bar ph)) cv).row,.int .i64 0]∧a0h 0 W' ow l∧EmpV pw∧a0h 0 W' cv l) (vs 7) Wq:=hk.1
   have g7A:=g7.choose_spec.choose_spec.choose_spec.1;have g7B:=g7.choose_spec.choose_spec.choose_spec.2;generalize g7.choose_spec.choose_spec.choose=cv at g7A g7B;generalize g7.choose_spec.choose=pw at g7A g7B;generalize g7.choose=ow at g7A g7B;clear g7
   clear hk
   change wpList _ _ _ _ (a3h _ vs [7] _) _
   simp only [a3h,aa9,List.getElem?_toArray,List.getElem?_cons_succ,List.getElem?_cons_zero,Option.bind_some]
   rw [g7A]
   repeat' (first | go_skip | go_guarded | go_step | go_upon)
   exact a5s (.agg (ownRow me 4 0 90 (bar ph) ow pw)) rfl (by go_simp) (Below.refl _ _) ⟨ow,pw,rfl,g7B.1,g7B.2.1⟩
  case o9 =>
   intro vs Wq hW hk
   have g7:(fun v W' => ∃ ow pw cv,v=.tuple #[.agg (ownRow me 4 0 90 (bar ph) ow pw),.agg (LN.let (repL l ot me (bar ph)) cv).row,.int .i64 0]∧a0h 0 W' ow l∧EmpV pw∧a0h 0 W' cv l) (vs 7) Wq:=hk.1
   have g7A:=g7.choose_spec.choose_spec.choose_spec.1;have g7B:=g7.choose_spec.choose_spec.choose_spec.2;generalize g7.choose_spec.choose_spec.choose=cv at g7A g7B;generalize g7.choose_spec.choose=pw at g7A g7B;generalize g7.choose=ow at g7A g7B;clear g7
   clear hk
   change wpList _ _ _ _ (a3h _ vs [7] _) _
   simp only [a3h,aa9,List.getElem?_toArray,List.getElem?_cons_succ,List.getElem?_cons_zero,Option.bind_some]
   rw [g7A]
   repeat' (first | go_skip | go_guarded | go_step | go_upon)
   exact a5s (.agg (LN.let (repL l ot me (bar ph)) cv).row) rfl (by go_simp) (Below.refl _ _) ⟨cv,rfl,g7B.2.2⟩
  case o10 =>
   intro vs Wq hW hk
   have g7:(fun v W' => ∃ ow pw cv,v=.tuple #[.agg (ownRow me 4 0 90 (bar ph) ow pw),.agg (LN.let (repL l ot me (bar ph)) cv).row,.int .i64 0]∧a0h 0 W' ow l∧EmpV pw∧a0h 0 W' cv l) (vs 7) Wq:=hk.1
   have g7A:=g7.choose_spec.choose_spec.choose_spec.1;have g7B:=g7.choose_spec.choose_spec.choose_spec.2;generalize g7.choose_spec.choose_spec.choose=cv at g7A g7B;generalize g7.choose_spec.choose=pw at g7A g7B;generalize g7.choose=ow at g7A g7B;clear g7
   clear hk
   change wpList _ _ _ _ (a3h _ vs [7] _) _
   simp only [a3h,aa9,List.getElem?_toArray,List.getElem?_cons_succ,List.getElem?_cons_zero,Option.bind_some]
   rw [g7A]
   repeat' (first | go_skip | go_guarded | go_step | go_upon)
   exact a5s (.int .i64 0) rfl (by go_simp) (Below.refl _ _) rfl
  case o11 =>
   intro vs Wq hW hk
   clear hk
   change wpList _ _ _ _ (a3h _ vs [] _) _
   simp only [a3h]
   repeat' (first | go_skip | go_guarded | go_step | go_upon)
   exact a5s (.pointer (some ⟨Wq.heap.size,0,none⟩)) rfl (by go_simp) ((Below.refl _ _).alloc (Nat.le_refl _) _) ⟨_,rfl,a03 _ _ _ rfl,hW.size⟩
  case o12 =>
   intro vs Wq hW hk
   clear hk
   change wpList _ _ _ _ (a3h _ vs [] _) _
   simp only [a3h]
   repeat' (first | go_skip | go_guarded | go_step | go_upon)
   exact a5s (.pointer (some ⟨Wq.heap.size,0,none⟩)) rfl (by go_simp) ((Below.refl _ _).alloc (Nat.le_refl _) _) ⟨_,rfl,a03 _ _ _ rfl,hW.size⟩
  case tl =>
   intro vs W2 hW2 hk2
   have h8:=hk2 8 (by decide)
   have h9:=hk2 9 (by decide)
   have h10:vs 10=.int .i64 0:=hk2 10 (by decide)
   have h11:=hk2 11 (by decide)
   have h12:=hk2 12 (by decide)
   have v8:=h8.choose_spec.choose_spec.1
   have cw:=h8.choose_spec.choose_spec.2.1
   have pe:=h8.choose_spec.choose_spec.2.2
   generalize h8.choose_spec.choose=pw at v8 cw pe
   generalize h8.choose=ow at v8 cw pe
   have v9:=h9.choose_spec.1
   have cr:=h9.choose_spec.2
   generalize h9.choose=cv at v9 cr
   have v11:=h11.choose_spec.1
   have ya:=h11.choose_spec.2.1
   have ga4:=h11.choose_spec.2.2
   generalize h11.choose=ga at v11 ya ga4
   have v12:=h12.choose_spec.1
   have yb:=h12.choose_spec.2.1
   have gb4:=h12.choose_spec.2.2
   generalize h12.choose=gb at v12 yb gb4
   clear h8 h9 h11 h12 hk2
   dsimp only [a9l,List.take,List.drop]
   simp only [Act.put,List.setIfInBounds_toArray,List.set_cons_succ,List.set_cons_zero]
   rw [v8,v9,h10,v11,v12]
   generalize vs 0=q0,vs 1=q1,vs 2=q2,vs 3=q3,vs 4=q4,vs 5=q5,vs 6=q6,vs 7=q7
   clear v8 v9 h10 v11 v12
   have po1:=a1y me 4 0 90 (bar ph) (a0v cw) pe.one
   have lz:=a0e (LN.let (repL l ot me (bar ph)) cv) (a13 _)
   have la:=a15 (LN.let (repL l ot me (bar ph)) cv) (a13 _)
   have lo:=a0y (LN.let (repL l ot me (bar ph)) cv) (a0v cr)
   have HX1:=Lib.hid (And.intro (show ((LN.let (repL l ot me (bar ph)) cv).row)[25]? = some (.int .i64 (bar ph:Nat)) from lst_25 (repL l ot me (bar ph)) cv) (show ((LN.let (repL l ot me (bar ph)) cv).row)[2]? = some (.int .i64 (ot:Nat)) from lst_2 (repL l ot me (bar ph)) cv))
   have HRV:=Lib.hid (fun (W':World) (hb:Below w4.heap.size w4 W') (hc:a0h 0 W' cv l)=>repv_calls (B:=0) hl hot hm hne (bar_phs hp).2 (HT4.out.below hb) hc)
   generalize hX:(LN.let (repL l ot me (bar ph)) cv).row=X1 at *
   clear hX
   have gne:gb≠ga:=fun e=>by subst e;have q:=ya.symm.trans yb;injection q with q;injection q with _ q _;exact absurd q (by decide)
   have o42:=a00 o4 hW2 lo4
   have ya1:obj (W2.setRow ga (ownRow me 4 0 90 (bar ph) ow pw)) ga=some (.cells (ownRow me 4 0 90 (bar ph) ow pw) 28 (0,0)):=setRow_heap _ _ _ _ _ _ ya
   have yb1:obj (W2.setRow ga (ownRow me 4 0 90 (bar ph) ow pw)) gb=some (.cells z48 48 (0,0)):=a2q yb gne _
   have o41:=a2q o42 (show g4≠ga by omega) (ownRow me 4 0 90 (bar ph) ow pw)
   have cr1:a0h 0 (W2.setRow ga (ownRow me 4 0 90 (bar ph) ow pw)) cv l:=a2m cr ya (by decide) (fun y hy=>setRow_other _ _ _ _ hy)
   have ya2:obj ((W2.setRow ga (ownRow me 4 0 90 (bar ph) ow pw)).setRow gb X1) ga=some (.cells (ownRow me 4 0 90 (bar ph) ow pw) 28 (0,0)):=a2q ya1 (Ne.symm gne) _
   have yb2:obj ((W2.setRow ga (ownRow me 4 0 90 (bar ph) ow pw)).setRow gb X1) gb=some (.cells X1 48 (0,0)):=setRow_heap _ _ _ _ _ _ yb1
   have o43:=a2q o41 (show g4≠gb by omega) X1
   have cr2:a0h 0 ((W2.setRow ga (ownRow me 4 0 90 (bar ph) ow pw)).setRow gb X1) cv l:=a2m cr1 yb1 (by decide) (fun y hy=>setRow_other _ _ _ _ hy)
   have hB2:Below w4.heap.size w4 ((W2.setRow ga (ownRow me 4 0 90 (bar ph) ow pw)).setRow gb X1):=below_setRow (below_setRow hW2 ga4 _) gb4 _
   have HK:=Lib.hid (And.intro ya2 (And.intro yb2 (And.intro o43 (And.intro cr2 hB2))))
   clear ya2 yb2 o43 cr2 hB2
   repeat' (first | go_skip | go_guarded | go_step | go_upon)
   refine ⟨.inl rfl,?_⟩
   repeat' ((go_not_at_region 5);(first | go_skip | go_guarded | go_step | go_upon))
   obtain ⟨ya2,yb2,o43,cr2,hB2⟩:=HK.out
   clear HK ya yb ya1 yb1 o42 o41 cr cr1 hW2
   generalize ((W2.setRow ga (ownRow me 4 0 90 (bar ph) ow pw)).setRow gb X1)=w5 at *
   have e40:=(a01 o43 0).trans (aFq _ _ _ _ _ _ _)
   have e44:=(a01 o43 4).trans (a4v _ _ _ _ _ _ _)
   have ea4:=(a01 ya2 4).trans (a4v _ _ _ _ _ _ _)
   have eb25:=(a01 yb2 25).trans HX1.out.1
   have eb2:=(a01 yb2 2).trans HX1.out.2
   have HV5:=Lib.hid (HRV.out w5 hB2 cr2)
   clear HRV
   have i1:((ot:Int) == (me:Int))=false:=by have:=hne;simp;omega
   have HBR:=Lib.hid (bar_phs hp)
   have i2:((bar ph:Int) == 0)=false:=by have:=HBR.out.2;simp;omega
   have i3:((bar ph:Int) == 2)=false:=by have:=HBR.out.2;simp;omega
   repeat' ((go_not_at_region 7);(first | go_skip | go_guarded | go_step | go_upon))
   go_cut [93] from 47 to 92 (fun v wx=>v=.bool false∧Below w4.heap.size w4 wx)
   case first =>
    rcases (show (ph=3∧bar ph=3)∨(ph=4∧bar ph=4)∨(ph≠3∧ph≠4) from (by decide:∀ ph∈phs,(ph=3∧bar ph=3)∨(ph=4∧bar ph=4)∨(ph≠3∧ph≠4)) ph hp) with ⟨c1,c2⟩ | ⟨c1,c2⟩ | ⟨c1,c2⟩
    ·have j3:((ph:Int) == 3)=true:=by simp;omega
     have j4:((ph:Int) == 4)=false:=by simp;omega
     have j5:((bar ph:Int) != (ph:Int))=false:=by simp;omega
     clear c1 c2
     repeat' (first | (go_at_call 17;((with_reducible refine (HV5.out).mono ?_));rintro e w6 ⟨rfl,hb6⟩;have eb26:=(a01 (a1w yb2 hb6) 2).trans HX1.out.2;have hB6:=hB2.trans (hb6.mono hB2.size);dsimp only) | go_skip | go_guarded | go_step | go_upon)
     go_meet
     exact ⟨by simp [repL],hB6⟩
    ·have j3:((ph:Int) == 3)=false:=by simp;omega
     have j4:((ph:Int) == 4)=true:=by simp;omega
     have j5:((bar ph:Int) != (ph:Int))=false:=by simp;omega
     clear c1 c2
     repeat' (first | (go_at_call 17;((with_reducible refine (HV5.out).mono ?_));rintro e w6 ⟨rfl,hb6⟩;have eb26:=(a01 (a1w yb2 hb6) 2).trans HX1.out.2;have hB6:=hB2.trans (hb6.mono hB2.size);dsimp only) | go_skip | go_guarded | go_step | go_upon)
     go_meet
     exact ⟨by simp [repL],hB6⟩
    ·have j3:((ph:Int) == 3)=false:=by simp;omega
     have j4:((ph:Int) == 4)=false:=by simp;omega
     clear c1 c2
     repeat' (first | (go_at_call 17;((with_reducible refine (HV5.out).mono ?_));rintro e w6 ⟨rfl,hb6⟩;have eb26:=(a01 (a1w yb2 hb6) 2).trans HX1.out.2;have hB6:=hB2.trans (hb6.mono hB2.size);dsimp only) | go_skip | go_guarded | go_step | go_upon)
     go_meet
     exact ⟨by simp [repL],hB6⟩
   case rest =>
    obtain ⟨rfl,hB7⟩:=hcut
    generalize (Value.slice (some ⟨cb,co,none⟩) l.length cc)=ov at *
    clear HV5 HX1 ya2 yb2 o43 cr2 hB2 e40 e44 ea4 eb25 eb2 i1 i2 i3 HBR po1 lz la lo gne ga4 gb4 pe
    have o47:=a00 o4 hB7 lo4
    have HTV:=Lib.hid (fun (W':World) (hb:Below wc.heap.size wc W')=>And.intro (HT4.out.below (hB7.trans (hb.mono hB7.size))) (HV4.out.below (hB7.trans (hb.mono hB7.size))))
    have w4C:=w4B.trans (hB7.mono w4B.size)
    repeat' ((go_not_at_region 10);(first | go_skip | go_guarded | go_step | go_upon))
    have L0:=Lib.hid (LsT.nil (B:=wc.heap.size) (W:=wc) (g:=wc.heap.size) (Nat.le_refl _) rfl ov)
    have aB:Below wc.heap.size wc (wc.alloc (.cells #[] 48)):=(Below.refl _ _).alloc (Nat.le_refl _) _
    have o48:=a02 o47 (.cells #[] 48)
    have HV0:=Lib.hid (tverd_calls (xs:=[]) hl hm hp (by simp) (fun i hi=>absurd hi (Nat.not_lt_zero i)) (HTV.out _ aB).1 (HTV.out _ aB).2 L0.out.lets)
    generalize hw8:(wc.alloc (.cells #[] 48))=w8 at *
    clear hw8
    repeat' (first | (go_at_call 14;((with_reducible refine (HV0.out).mono ?_));rintro e w9 ⟨rfl,hb9⟩;have o49:=a1w o48 hb9;have hB9:=aB.trans (hb9.mono aB.size);have L9:=Lib.hid (L0.out.below hb9);dsimp only) | go_skip | go_guarded | go_step | go_upon)
    clear HV0 L0 o48 o47 hb9 aB
    go_loopw [13,14,15] (fun v la i wr => ∃ ys:List LN,ys.length≤n∧ys.length≤8∧la=.int .i64 (verdN l me ph ys)∧i=.int .i64 ys.length∧LsT wc.heap.size wr v ov ys∧Below wc.heap.size wc wr) (fun _ _ i _=>(8 - intOf i).toNat)
    case atStart=>exact ⟨[],by simp,by simp,rfl,rfl,L9.out,hB9⟩
    case round =>
     clear L9
     obtain ⟨ys,h1,h2,rfl,rfl,hL,hB⟩:=hrel
     have ooR:=a00 o4 (hB7.trans (hB.mono hB7.size)) lo4
     have hBW:=w4C.trans (hB.mono w4C.size)
     by_cases hlt:ys.length < n
     ·have i1:(ys.length:Int) < (n:Int):=by omega
      by_cases hl8:ys.length < 8
      ·have i2:(ys.length:Int) < 8:=by omega
       obtain ⟨sb,so,srow,T0,fr0,rfl,sr1,sr2⟩:=HSR.out (by omega)
       obtain ⟨z1,k1⟩:=sr2 ys.length hlt
       have srw:=a00 sr1 hBW (a04 sr1)
       obtain ⟨f1,f2,f3,f4⟩:=HSG.out ys.length hlt
       have e1:(so+ys.length * 4+4≤srow.size)=True:=eq_true z1
       clear sr2 z1 sr1
       generalize sg ys.length=D at *
       obtain ⟨q1,q2,q3,q4⟩:=D
       dsimp only at k1 f1 f2 f3 f4
       generalize hsx:sayRow q1 q2 q3 q4=SX at *
       have HSX:Hid (SX=#[.int .u8 (q1:Nat),.int .u8 (q2:Nat),.int .u8 (q3:Nat),.int .u8 (q4:Nat)]):=Lib.hid (by rw [← hsx];rfl)
       have sxs:SX.size=4:=by rw [← hsx];rfl
       clear hsx
       have lw1:=a04 ooR
       have lws:=a04 srw
       repeat' ((go_not_at_region 14);(first | go_skip | go_guarded | go_step | go_upon))
       refine wp_region_min 8 [([],fun v _=>v=u13),
         ([],fun v _=>v=.agg (ownRow me 4 0 90 ph ov (.slice none 0 0))),
         ([],fun v _=>v=.slice (some ⟨sb,so,none⟩) n sc),
         ([],fun v _=>v=.int .i64 (ys.length:Nat)),
         ([2,3],fun v _=>v=.pointer (some ⟨sb,so+ys.length * 4,none⟩)),
         ([4],fun v _=>v=.agg SX),
         ([1,5],fun v W' => ∃ x vx,v=.agg (LN.let x vx).row∧LetB x∧a0h 0 W' vx x.cs∧(Apart vx ov∨vx=ov)),
         ([6],fun v W' => ∃ x vx g,v=.slice (some ⟨g,0,none⟩) 1 1∧obj W' g=some (.cells (LN.let x vx).row 48 (0,0))∧wr.heap.size≤g∧LetB x∧a0h 0 W' vx x.cs∧(Apart vx ov∨vx=ov))] (by kernel_rfl) (by kernel_rfl) (by kernel_rfl) ?st ⟨?o0,?o1,?o2,?o3,?o4,?o5,?o6,?o7,trivial⟩ ?tl
       case st =>
        intro k v W1 W2 h hb
        rcases k with _ | _ | _ | _ | _ | _ | _ | _ | k
        ·exact h
        ·exact h
        ·exact h
        ·exact h
        ·exact h
        ·exact h
        ·obtain ⟨x,vx,h1,h2,h3,h4⟩:=h;exact ⟨x,vx,h1,h2,h3.below hb,h4⟩
        ·obtain ⟨x,vx,g,h1,h2,h3,h4,h5,h6⟩:=h;exact ⟨x,vx,g,h1,a1w h2 hb,h3,h4,h5.below hb,h6⟩
        ·trivial
       case o0 =>
        intro vs Wq hW hk
        clear hk
        change wpList _ _ _ _ (a3h _ vs [] _) _
        simp only [a3h]
        repeat' (first | go_skip | go_guarded | go_step | go_upon)
        exact a5s (u13) rfl (by go_simp) (Below.refl _ _) rfl
       case o1 =>
        intro vs Wq hW hk
        clear hk
        change wpList _ _ _ _ (a3h _ vs [] _) _
        simp only [a3h]
        have q:=a00 ooR hW lw1
        repeat' (first | go_skip | go_guarded | go_step | go_upon)
        exact a5s (.agg (ownRow me 4 0 90 ph ov (.slice none 0 0))) rfl (by go_simp) (Below.refl _ _) rfl
       case o2 =>
        intro vs Wq hW hk
        clear hk
        change wpList _ _ _ _ (a3h _ vs [] _) _
        simp only [a3h]
        repeat' (first | go_skip | go_guarded | go_step | go_upon)
        exact a5s (.slice (some ⟨sb,so,none⟩) n sc) rfl (by go_simp) (Below.refl _ _) rfl
       case o3 =>
        intro vs Wq hW hk
        clear hk
        change wpList _ _ _ _ (a3h _ vs [] _) _
        simp only [a3h]
        repeat' (first | go_skip | go_guarded | go_step | go_upon)
        exact a5s (.int .i64 (ys.length:Nat)) rfl (by go_simp) (Below.refl _ _) rfl
       case o4 =>
        intro vs Wq hW hk
        have g2:vs 2=.slice (some ⟨sb,so,none⟩) n sc:=hk.1
        have g3:vs 3=.int .i64 (ys.length:Nat):=hk.2.1
        clear hk
        change wpList _ _ _ _ (a3h _ vs [2,3] _) _
        simp only [a3h,aa9,List.getElem?_toArray,List.getElem?_cons_succ,List.getElem?_cons_zero,Option.bind_some]
        rw [g2,g3]
        repeat' (first | go_skip | go_guarded | go_step | go_upon)
        exact a5s (.pointer (some ⟨sb,so+ys.length * 4,none⟩)) rfl (by go_simp) (Below.refl _ _) rfl
       case o5 =>
        intro vs Wq hW hk
        have g4:vs 4=.pointer (some ⟨sb,so+ys.length * 4,none⟩):=hk.1
        clear hk
        change wpList _ _ _ _ (a3h _ vs [4] _) _
        simp only [a3h,aa9,List.getElem?_toArray,List.getElem?_cons_succ,List.getElem?_cons_zero,Option.bind_some]
        rw [g4]
        have q:=a00 srw hW lws
        repeat' (first | go_skip | go_guarded | go_step | go_upon)
        exact a5s (.agg SX) rfl (by go_simp) (Below.refl _ _) rfl
       case o6 =>
        intro vs Wq hW hk
        have g1:vs 1=.agg (ownRow me 4 0 90 ph ov (.slice none 0 0)):=hk.1
        have g5:vs 5=.agg SX:=hk.2.1
        clear hk
        change wpList _ _ _ _ (a3h _ vs [1,5] _) _
        simp only [a3h,aa9,List.getElem?_toArray,List.getElem?_cons_succ,List.getElem?_cons_zero,Option.bind_some]
        rw [g1,g5]
        have HX:=Lib.hid (say_calls (ph:=ph) hl hm f1 f2 f3 f4 ((HTV.out _ hB).1.below hW) ((HTV.out _ hB).2.below hW))
        rw [← HSX.out] at HX
        repeat' (first | (go_at_call 11;((with_reducible refine (HX.out).mono ?_));rintro e w9 ⟨x,vx,rfl,hx,hc,ha,hb9⟩;dsimp only) | go_skip | go_guarded | go_step | go_upon)
        exact a5s (.agg (LN.let x vx).row) rfl (by go_simp) hb9 ⟨x,vx,rfl,hx,hc,ha⟩
       case o7 =>
        intro vs Wq hW hk
        have g6:(fun v W' => ∃ x vx,v=.agg (LN.let x vx).row∧LetB x∧a0h 0 W' vx x.cs∧(Apart vx ov∨vx=ov)) (vs 6) Wq:=hk.1
        have g6v:=g6.choose_spec.choose_spec.1;have g6B:=g6.choose_spec.choose_spec.2.1;have g6c:=g6.choose_spec.choose_spec.2.2.1;have g6a:=g6.choose_spec.choose_spec.2.2.2;generalize g6.choose_spec.choose=vx at g6v g6B g6c g6a;generalize g6.choose=x at g6v g6B g6c g6a;clear g6
        clear hk
        change wpList _ _ _ _ (a3h _ vs [6] _) _
        simp only [a3h,aa9,List.getElem?_toArray,List.getElem?_cons_succ,List.getElem?_cons_zero,Option.bind_some]
        rw [g6v]
        have lz:=a0e (LN.let x vx) g6B.1.ref
        have la:=a15 (LN.let x vx) g6B.1.ref
        have lo:=a0y (LN.let x vx) (a0v g6c)
        have HWW:=Lib.hid hW
        generalize hX:(LN.let x vx).row=X at *
        have HX:=Lib.hid hX
        clear hX
        repeat' (first | go_skip | go_guarded | go_step | go_upon)
        rw [← HX.out]
        exact a5s (.slice (some ⟨Wq.heap.size,0,none⟩) 1 1) rfl (by go_simp) ((Below.refl _ _).alloc (Nat.le_refl _) _) ⟨x,vx,_,rfl,a03 _ _ _ rfl,HWW.out.size,g6B,g6c.below ((Below.refl _ _).alloc (Nat.le_refl _) _),g6a⟩
       case tl =>
        intro vs W2 hW2 hk2
        have h0:vs 0=u13:=hk2 0 (by decide)
        have h7:=hk2 7 (by decide)
        have v7:=h7.choose_spec.choose_spec.choose_spec.1
        have yx:=h7.choose_spec.choose_spec.choose_spec.2.1
        have gxr:=h7.choose_spec.choose_spec.choose_spec.2.2.1
        have hxB:=h7.choose_spec.choose_spec.choose_spec.2.2.2.1
        have hxc:=h7.choose_spec.choose_spec.choose_spec.2.2.2.2.1
        have hxa:=h7.choose_spec.choose_spec.choose_spec.2.2.2.2.2
        generalize h7.choose_spec.choose_spec.choose=gx at v7 yx gxr
        generalize h7.choose_spec.choose=vx at v7 yx hxc hxa
        generalize h7.choose=x at v7 yx hxB hxc
        clear h7 hk2
        dsimp only [a9l,List.take,List.drop]
        simp only [Act.put,List.setIfInBounds_toArray,List.set_cons_succ,List.set_cons_zero]
        rw [h0,v7]
        generalize vs 1=q1,vs 2=q2,vs 3=q3,vs 4=q4,vs 5=q5,vs 6=q6
        clear h0 v7
        have lz:=a0e (LN.let x vx) hxB.1.ref
        have la:=a15 (LN.let x vx) hxB.1.ref
        have lo:=a0y (LN.let x vx) (a0v hxc)
        generalize hX:(LN.let x vx).row=X at *
        have HX:=Lib.hid hX
        clear hX
        obtain ⟨lcv,le1,le2⟩:=hL.below hW2
        have hB3:=hB.trans (hW2.mono hB.size)
        have oo3:=a00 ooR hW2 lw1
        repeat' ((go_not_at_region 15);(first | (at_builtin;(refine a2d rfl _ _ rfl Tryz.underlying30 (b:=328) (z:=62) (by kernel_rfl) (by decide) (by decide) wc.heap.size ys.length _ _ rfl le1 gx 1 X ?_ ?_ lz lo (by omega) ?_ ?_);(first | rfl | skip);(exact yx);(have:=hB3.size;omega);intro v5 W5 own5 hg5;have hg:W2.grownBy W5 u13.ownBlock:=hg5;clear hg5;rw [← HX.out] at own5;have L5:=Lib.hid (LsT.push le1 le2 hg hxB hxc hxa own5);have oo5:=objT_grown le1 oo3 (by decide) hg;have hB5:=hB3.grown hg hB3.size (fun g q=>a1u le1 q);clear own5 hg;dsimp only) | go_skip | go_guarded | go_step | go_upon))
        have hlen:(ys ++ [x]).length≤8:=by simp;omega
        have HV1:=Lib.hid (tverd_calls hl hm hp hlen L5.out.all (HTV.out _ hB5).1 (HTV.out _ hB5).2 L5.out.lets)
        have HN:=Lib.hid (verd_next hl hm ph ys x)
        have HRG:=Lib.hid (verd_range l me ph (ys ++ [x]))
        generalize hvd:verdN l me ph (ys ++ [x])=vd at *
        generalize verdN l me ph ys=vl at *
        have HVD:=Lib.hid hvd
        clear hvd
        clear le1 le2 hB3 oo3 yx gxr hxc hxa ooR hB hW2 lw1 lws k1 e1 srw sxs HSX
        repeat' ((go_not_at_region 16);(first | (go_at_call 14;((with_reducible refine (HV1.out).mono ?_));rintro e w9 ⟨rfl,hb9⟩;have oo9:=a1w oo5 hb9;have hB9:=hB5.trans (hb9.mono hB5.size);have L9:=Lib.hid (L5.out.below hb9);dsimp only) | go_skip | go_guarded | go_step | go_upon))
        have r1 : ¬ vd < 0:=by have:=HRG.out;omega
        have r2 : ¬ 2 < vd:=by have:=HRG.out;omega
        rcases (show (vl=1∧vd=1)∨(vl=2∧vd≠0)∨(vl≠1∧vl≠2) by by_cases q1:vl=1;exact .inl ⟨q1,HN.out.1 q1⟩;by_cases q2:vl=2;exact .inr (.inl ⟨q2,HN.out.2 q2⟩);exact .inr (.inr ⟨q1,q2⟩)) with ⟨c1,c2⟩ | ⟨c1,c2⟩ | ⟨c1,c2⟩
        ·have j1:(vl == 1)=true:=by simp [c1]
         have j2:(vl == 2)=false:=by simp [c1]
         have j3:(vd != 1)=false:=by simp [c2]
         clear c1 c2
         repeat' (first | go_skip | go_guarded | go_step | go_upon)
         have e9:(ys ++ [x]).length=ys.length+1:=by simp
         refine ⟨⟨ys ++ [x],by omega,by omega,by rw [HVD.out],?_,L9.out,hB9⟩,by simp [intOf];omega⟩
         rw [e9];go_num
        ·have j1:(vl == 1)=false:=by simp [c1]
         have j2:(vl == 2)=true:=by simp [c1]
         have j3:(vd == 0)=false:=by simpa using c2
         clear c1 c2
         repeat' (first | go_skip | go_guarded | go_step | go_upon)
         have e9:(ys ++ [x]).length=ys.length+1:=by simp
         refine ⟨⟨ys ++ [x],by omega,by omega,by rw [HVD.out],?_,L9.out,hB9⟩,by simp [intOf];omega⟩
         rw [e9];go_num
        ·have j1:(vl == 1)=false:=by simpa using c1
         have j2:(vl == 2)=false:=by simpa using c2
         clear c1 c2
         repeat' (first | go_skip | go_guarded | go_step | go_upon)
         have e9:(ys ++ [x]).length=ys.length+1:=by simp
         refine ⟨⟨ys ++ [x],by omega,by omega,by rw [HVD.out],?_,L9.out,hB9⟩,by simp [intOf];omega⟩
         rw [e9];go_num
      ·have i2 : ¬ (ys.length:Int) < 8:=by omega
       repeat' (first | go_skip | go_guarded | go_step | go_upon)
       go_ret
       exact ⟨rfl,hBW⟩
     ·have i1 : ¬ (ys.length:Int) < (n:Int):=by omega
      repeat' (first | go_skip | go_guarded | go_step | go_upon)
      go_ret
      exact ⟨rfl,hBW⟩
 ·obtain rfl:me=ot:=by omega
  have HOF:=Lib.hid (show oth me l me=false by simp [oth])
  refine wp_region_late 13 [9,10] [([],fun v _=>v=.agg (ownRow me 4 0 90 ph (.slice (some ⟨cb,co,none⟩) l.length cc) (.slice none 0 0))),
    ([],fun v _=>v=.agg (ownRow me 4 0 90 ph (.slice (some ⟨cb,co,none⟩) l.length cc) (.slice none 0 0))),
    ([],fun v _=>v=.int .i64 me),
    ([],fun v _=>v=.pointer (some ⟨g4,0,none⟩)),
    ([3],fun v _=>v=.int .i64 me),
    ([1,2,4],fun v _=>v=.agg (LN.let (inqL l me me) (.slice (some ⟨cb,co,none⟩) l.length cc)).row),
    ([0,5],fun v _=>v=.tuple #[.agg #[.int .i64 0,.int .i64 0,.int .i64 0,.int .i64 0,.int .i64 0,.slice none 0 0,.slice none 0 0],.agg z48,.int .i64 1]),
    ([6],fun v _=>v=.tuple #[.agg #[.int .i64 0,.int .i64 0,.int .i64 0,.int .i64 0,.int .i64 0,.slice none 0 0,.slice none 0 0],.agg z48,.int .i64 1]),
    ([7],fun v _=>v=.agg #[.int .i64 0,.int .i64 0,.int .i64 0,.int .i64 0,.int .i64 0,.slice none 0 0,.slice none 0 0]),
    ([7],fun v _=>v=.agg z48),
    ([7],fun v _=>v=.int .i64 1),
    ([],fun v W' => ∃ g,v=.pointer (some ⟨g,0,none⟩)∧obj W' g=some (.cells #[.int .i64 0,.int .i64 0,.int .i64 0,.int .i64 0,.int .i64 0,.slice none 0 0,.slice none 0 0] 28 (0,0))∧w4.heap.size≤g),
    ([],fun v W' => ∃ g,v=.pointer (some ⟨g,0,none⟩)∧obj W' g=some (.cells z48 48 (0,0))∧w4.heap.size≤g)] (by kernel_rfl) (by kernel_rfl) (by kernel_rfl) (by kernel_rfl) (by kernel_rfl) ⟨?l9,?l10,trivial⟩ ?st ⟨?o0,?o1,?o2,?o3,?o4,?o5,?o6,?o7,?o8,?o9,?o10,?o11,?o12,trivial⟩ ?tl
  case l9 =>
   intro v W h
   subst h;exact ⟨_,rfl,rfl⟩
  case l10 =>
   intro v W h
   subst h;exact ⟨_,rfl,rfl⟩
  case st =>
   intro k v W1 W2 h hb
   rcases k with _ | _ | _ | _ | _ | _ | _ | _ | _ | _ | _ | _ | _ | k
   ·exact h
   ·exact h
   ·exact h
   ·exact h
   ·exact h
   ·exact h
   ·exact h
   ·exact h
   ·exact h
   ·exact h
   ·exact h
   ·obtain ⟨g,h1,h2,h3⟩:=h;exact ⟨g,h1,a1w h2 hb,h3⟩
   ·obtain ⟨g,h1,h2,h3⟩:=h;exact ⟨g,h1,a1w h2 hb,h3⟩
   ·trivial
  case o0 =>
   intro vs Wq hW hk
   clear hk
   change wpList _ _ _ _ (a3h _ vs [] _) _
   simp only [a3h]
   have q:=a00 o4 hW lo4
   repeat' (first | go_skip | go_guarded | go_step | go_upon)
   exact a5s (.agg (ownRow me 4 0 90 ph (.slice (some ⟨cb,co,none⟩) l.length cc) (.slice none 0 0))) rfl (by go_simp) (Below.refl _ _) rfl
  case o1 =>
   intro vs Wq hW hk
   clear hk
   change wpList _ _ _ _ (a3h _ vs [] _) _
   simp only [a3h]
   have q:=a00 o4 hW lo4
   repeat' (first | go_skip | go_guarded | go_step | go_upon)
   exact a5s (.agg (ownRow me 4 0 90 ph (.slice (some ⟨cb,co,none⟩) l.length cc) (.slice none 0 0))) rfl (by go_simp) (Below.refl _ _) rfl
  case o2 =>
   intro vs Wq hW hk
   clear hk
   change wpList _ _ _ _ (a3h _ vs [] _) _
   simp only [a3h]
   repeat' (first | go_skip | go_guarded | go_step | go_upon)
   exact a5s (.int .i64 me) rfl (by go_simp) (Below.refl _ _) rfl
  case o3 =>
   intro vs Wq hW hk
   clear hk
   change wpList _ _ _ _ (a3h _ vs [] _) _
   simp only [a3h]
   repeat' (first | go_skip | go_guarded | go_step | go_upon)
   exact a5s (.pointer (some ⟨g4,0,none⟩)) rfl (by go_simp) (Below.refl _ _) rfl
  case o4 =>
   intro vs Wq hW hk
   have g3:vs 3=.pointer (some ⟨g4,0,none⟩):=hk.1
   clear hk
   change wpList _ _ _ _ (a3h _ vs [3] _) _
   simp only [a3h,aa9,List.getElem?_toArray,List.getElem?_cons_succ,List.getElem?_cons_zero,Option.bind_some]
   rw [g3]
   have c0:=(a01 (a00 o4 hW lo4) 0).trans (aFq _ _ _ _ _ _ _)
   repeat' (first | go_skip | go_guarded | go_step | go_upon)
   exact a5s (.int .i64 me) rfl (by go_simp) (Below.refl _ _) rfl
  case o5 =>
   intro vs Wq hW hk
   have g1:vs 1=.agg (ownRow me 4 0 90 ph (.slice (some ⟨cb,co,none⟩) l.length cc) (.slice none 0 0)):=hk.1
   have g2:vs 2=.int .i64 me:=hk.2.1
   have g4:vs 4=.int .i64 me:=hk.2.2.1
   clear hk
   change wpList _ _ _ _ (a3h _ vs [1,2,4] _) _
   simp only [a3h,aa9,List.getElem?_toArray,List.getElem?_cons_succ,List.getElem?_cons_zero,Option.bind_some]
   rw [g1,g2,g4]
   have HX:=Lib.hid (rinquiry_calls (me:=me) (ph:=ph) (pv:=.slice none 0 0) (tLs_ne hl) (HV4.out.below hW) rfl me me)
   repeat' (first | (go_at_call 16;((with_reducible refine (HX.out).mono ?_));rintro e w5 ⟨rfl,hb5⟩;dsimp only) | go_skip | go_guarded | go_step | go_upon)
   exact a5s (.agg (LN.let (inqL l me me) (.slice (some ⟨cb,co,none⟩) l.length cc)).row) rfl (by go_simp) hb5 rfl
  case o6 =>
   intro vs Wq hW hk
   have g0:vs 0=.agg (ownRow me 4 0 90 ph (.slice (some ⟨cb,co,none⟩) l.length cc) (.slice none 0 0)):=hk.1
   have g5:vs 5=.agg (LN.let (inqL l me me) (.slice (some ⟨cb,co,none⟩) l.length cc)).row:=hk.2.1
   clear hk
   change wpList _ _ _ _ (a3h _ vs [0,5] _) _
   simp only [a3h,aa9,List.getElem?_toArray,List.getElem?_cons_succ,List.getElem?_cons_zero,Option.bind_some]
   rw [g0,g5]
   have HX:=Lib.hid (tanswer_no1 hl hm hp (inq_sz hl hm (tLs_le hl hm)) (tLs_le hl hm) (HV4.out.below hW) (HV4.out.below hW) HOF.out)
   repeat' (first | (go_at_call 12;((with_reducible refine (HX.out).mono ?_));rintro e w5 ⟨rfl,hb5⟩;dsimp only) | go_skip | go_guarded | go_step | go_upon)
   exact a5s (.tuple #[.agg #[.int .i64 0,.int .i64 0,.int .i64 0,.int .i64 0,.int .i64 0,.slice none 0 0,.slice none 0 0],.agg z48,.int .i64 1]) rfl (by go_simp) hb5 rfl
  case o7 =>
   intro vs Wq hW hk
   have g6:vs 6=.tuple #[.agg #[.int .i64 0,.int .i64 0,.int .i64 0,.int .i64 0,.int .i64 0,.slice none 0 0,.slice none 0 0],.agg z48,.int .i64 1]:=hk.1
   clear hk
   change wpList _ _ _ _ (a3h _ vs [6] _) _
   simp only [a3h,aa9,List.getElem?_toArray,List.getElem?_cons_succ,List.getElem?_cons_zero,Option.bind_some]
   rw [g6]
   repeat' (first | go_skip | go_guarded | go_step | go_upon)
   exact a5s (.tuple #[.agg #[.int .i64 0,.int .i64 0,.int .i64 0,.int .i64 0,.int .i64 0,.slice none 0 0,.slice none 0 0],.agg z48,.int .i64 1]) rfl (by go_simp) (Below.refl _ _) rfl
  case o8 =>
   intro vs Wq hW hk
   have g7:vs 7=.tuple #[.agg #[.int .i64 0,.int .i64 0,.int .i64 0,.int .i64 0,.int .i64 0,.slice none 0 0,.slice none 0 0],.agg z48,.int .i64 1]:=hk.1
   clear hk
   change wpList _ _ _ _ (a3h _ vs [7] _) _
   simp only [a3h,aa9,List.getElem?_toArray,List.getElem?_cons_succ,List.getElem?_cons_zero,Option.bind_some]
   rw [g7]
   repeat' (first | go_skip | go_guarded | go_step | go_upon)
   exact a5s (.agg #[.int .i64 0,.int .i64 0,.int .i64 0,.int .i64 0,.int .i64 0,.slice none 0 0,.slice none 0 0]) rfl (by go_simp) (Below.refl _ _) rfl
  case o9 =>
   intro vs Wq hW hk
   have g7:vs 7=.tuple #[.agg #[.int .i64 0,.int .i64 0,.int .i64 0,.int .i64 0,.int .i64 0,.slice none 0 0,.slice none 0 0],.agg z48,.int .i64 1]:=hk.1
   clear hk
   change wpList _ _ _ _ (a3h _ vs [7] _) _
   simp only [a3h,aa9,List.getElem?_toArray,List.getElem?_cons_succ,List.getElem?_cons_zero,Option.bind_some]
   rw [g7]
   repeat' (first | go_skip | go_guarded | go_step | go_upon)
   exact a5s (.agg z48) rfl (by go_simp) (Below.refl _ _) rfl
  case o10 =>
   intro vs Wq hW hk
   have g7:vs 7=.tuple #[.agg #[.int .i64 0,.int .i64 0,.int .i64 0,.int .i64 0,.int .i64 0,.slice none 0 0,.slice none 0 0],.agg z48,.int .i64 1]:=hk.1
   clear hk
   change wpList _ _ _ _ (a3h _ vs [7] _) _
   simp only [a3h,aa9,List.getElem?_toArray,List.getElem?_cons_succ,List.getElem?_cons_zero,Option.bind_some]
   rw [g7]
   repeat' (first | go_skip | go_guarded | go_step | go_upon)
   exact a5s (.int .i64 1) rfl (by go_simp) (Below.refl _ _) rfl
  case o11 =>
   intro vs Wq hW hk
   clear hk
   change wpList _ _ _ _ (a3h _ vs [] _) _
   simp only [a3h]
   repeat' (first | go_skip | go_guarded | go_step | go_upon)
   exact a5s (.pointer (some ⟨Wq.heap.size,0,none⟩)) rfl (by go_simp) ((Below.refl _ _).alloc (Nat.le_refl _) _) ⟨_,rfl,a03 _ _ _ rfl,hW.size⟩
  case o12 =>
   intro vs Wq hW hk
   clear hk
   change wpList _ _ _ _ (a3h _ vs [] _) _
   simp only [a3h]
   repeat' (first | go_skip | go_guarded | go_step | go_upon)
   exact a5s (.pointer (some ⟨Wq.heap.size,0,none⟩)) rfl (by go_simp) ((Below.refl _ _).alloc (Nat.le_refl _) _) ⟨_,rfl,a03 _ _ _ rfl,hW.size⟩
  case tl =>
   intro vs W2 hW2 hk2
   have v8:vs 8=.agg #[.int .i64 0,.int .i64 0,.int .i64 0,.int .i64 0,.int .i64 0,.slice none 0 0,.slice none 0 0]:=hk2 8 (by decide)
   have v9:vs 9=.agg z48:=hk2 9 (by decide)
   have h10:vs 10=.int .i64 1:=hk2 10 (by decide)
   have h11:=hk2 11 (by decide)
   have h12:=hk2 12 (by decide)
   have v11:=h11.choose_spec.1
   have ya:=h11.choose_spec.2.1
   have ga4:=h11.choose_spec.2.2
   generalize h11.choose=ga at v11 ya ga4
   have v12:=h12.choose_spec.1
   have yb:=h12.choose_spec.2.1
   have gb4:=h12.choose_spec.2.2
   generalize h12.choose=gb at v12 yb gb4
   clear h11 h12 hk2
   dsimp only [a9l,List.take,List.drop]
   simp only [Act.put,List.setIfInBounds_toArray,List.set_cons_succ,List.set_cons_zero]
   rw [v8,v9,h10,v11,v12]
   generalize vs 0=q0,vs 1=q1,vs 2=q2,vs 3=q3,vs 4=q4,vs 5=q5,vs 6=q6,vs 7=q7
   clear v8 v9 h10 v11 v12
   have gne:gb≠ga:=fun e=>by subst e;have q:=ya.symm.trans yb;injection q with q;injection q with _ q _;exact absurd q (by decide)
   have o42:=a00 o4 hW2 lo4
   have yb1:obj (W2.setRow ga #[.int .i64 0,.int .i64 0,.int .i64 0,.int .i64 0,.int .i64 0,.slice none 0 0,.slice none 0 0]) gb=some (.cells z48 48 (0,0)):=a2q yb gne _
   have o41:=a2q o42 (show g4≠ga by omega) #[.int .i64 0,.int .i64 0,.int .i64 0,.int .i64 0,.int .i64 0,.slice none 0 0,.slice none 0 0]
   have o43:=a2q o41 (show g4≠gb by omega) z48
   have hB2:Below w4.heap.size w4 ((W2.setRow ga #[.int .i64 0,.int .i64 0,.int .i64 0,.int .i64 0,.int .i64 0,.slice none 0 0,.slice none 0 0]).setRow gb z48):=below_setRow (below_setRow hW2 ga4 _) gb4 _
   have HK:=Lib.hid (And.intro o43 hB2)
   clear o43 hB2
   repeat' (first | go_skip | go_guarded | go_step | go_upon)
   refine ⟨.inl rfl,?_⟩
   repeat' ((go_not_at_region 5);(first | go_skip | go_guarded | go_step | go_upon))
   obtain ⟨o43,hB2⟩:=HK.out
   clear HK ya yb yb1 o42 o41 hW2
   generalize ((W2.setRow ga #[.int .i64 0,.int .i64 0,.int .i64 0,.int .i64 0,.int .i64 0,.slice none 0 0,.slice none 0 0]).setRow gb z48)=w5 at *
   have e40:=(a01 o43 0).trans (aFq _ _ _ _ _ _ _)
   have i1:((me:Int) == (me:Int))=true:=by simp
   repeat' (first | go_skip | go_guarded | go_step | go_upon)
   go_ret
   exact ⟨rfl,w4B.trans (hB2.mono w4B.size)⟩
end Go.Proofs.YtopgdlblfieljaaGreatDoor
